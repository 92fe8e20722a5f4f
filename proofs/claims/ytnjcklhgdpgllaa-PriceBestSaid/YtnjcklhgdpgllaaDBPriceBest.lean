/-
  CONTRACTS, as data: PriceBest. No proofs.
-/
import Derived.Test.YtnjcklhgdpgllaaDQ11
import Derived.Test.YtnjcklhgdpgllaaTy
set_option linter.all false
set_option linter.unusedSimpArgs false
set_option linter.unusedVariables false
namespace Go.Proofs.Ytnjcklhgdpgllaa
open Go Go.RowKit Go.Ql Go.Vc


def PriceBest_r (c : List Int) (d : List Int) (e : List Int) (f : List Int) (x : List Int) : FRes := { pre := Bytes c ∧ Bytes d ∧ c.length ≤ maxLen ∧ d.length ≤ maxLen ∧ Bytes e ∧ e.length ≤ maxLen ∧ Bytes f ∧ A64 x, res := .bool (true), rows := [], eff := [] }
def PriceBest_fs : FS := fun args h => match args, h with
  | [.row 0, .row 1, .row 2, .row 3, .row 4], [(0, .row false ty0 (.ints .u8 c)), (1, .row false ty1 (.ints .u8 d)), (2, .row false ty2 (.ints .u8 e)), (3, .row false ty3 (.ints .u8 f)), (4, .row false ty4 (.ints .i64 x))] => some (PriceBest_r c d e f x)
  | _, _ => none
def PriceBest_an (c : List Int) (d : List Int) (e : List Int) (f : List Int) (x : List Int) : List (Nat × Ann) := [(5, { G := (Nat) × (List Int), inv := fun ⟨k, y⟩ => ⟨[(3, SV.row (3 : Nat)), (4, SV.row (4 : Nat)), (11, SV.ptr (9 : Nat) (0 : Nat) (0 : Nat) (0 : Nat)), (12, SV.row (10 : Nat)), (13, SV.row (11 : Nat)), (14, .int .i64 k)], [(11, Ent.row true 2 (Row.ints IntKind.i64 (potF e (↑(instF c d).sup.length : Int).toNat))), (10, .row true 2 (.ints .i64 y)), (9, Ent.box true 26 [SV.row (5 : Nat), SV.row (6 : Nat)]), (5, Ent.row true 2 (Row.ints IntKind.i64 (instF c d).sup)), (6, Ent.row true 32 (Row.arcs (instF c d).arcs)), (3, Ent.row false 0 (Row.ints IntKind.u8 f)), (4, Ent.row false 0 (Row.ints IntKind.i64 x))], 12⟩, rel := fun ⟨k0, y0⟩ ⟨k, y⟩ => k ≤ (instF c d).arcs.length ∧ y.length = (instF c d).arcs.length ∧ A64 y, meas := fun ⟨k, y⟩ => (instF c d).arcs.length - k }),
  (14, { G := (Nat) × (List Int) × (List Int), inv := fun ⟨k, s, y⟩ => ⟨[(3, SV.row (3 : Nat)), (4, SV.row (4 : Nat)), (11, SV.ptr (9 : Nat) (0 : Nat) (0 : Nat) (0 : Nat)), (12, SV.row (10 : Nat)), (13, SV.row (11 : Nat)), (16, SV.row (12 : Nat)), (17, .int .i64 k)], [(12, .row true 30 (.wides (netF (instF c d) y))), (11, Ent.row true 2 (Row.ints IntKind.i64 (potF e (↑(instF c d).sup.length : Int).toNat))), (10, .row true 2 (.ints .i64 y)), (9, Ent.box true 26 [SV.row (5 : Nat), SV.row (6 : Nat)]), (5, .row true 2 (.ints .i64 s)), (6, Ent.row true 32 (Row.arcs (instF c d).arcs)), (3, Ent.row false 0 (Row.ints IntKind.u8 f)), (4, Ent.row false 0 (Row.ints IntKind.i64 x))], 13⟩, rel := fun ⟨k0, s0, y0⟩ ⟨k, s, y⟩ => k ≤ (instF c d).sup.length ∧ s.length = (instF c d).sup.length ∧ A64 s ∧ y.length = (instF c d).arcs.length ∧ A64 y, meas := fun ⟨k, s, y⟩ => (instF c d).sup.length - k })]
def PriceBest_A : List SV → Heap → List (Nat × Ann) := fun args h => match args, h with
  | [.row 0, .row 1, .row 2, .row 3, .row 4], [(0, .row false ty0 (.ints .u8 c)), (1, .row false ty1 (.ints .u8 d)), (2, .row false ty2 (.ints .u8 e)), (3, .row false ty3 (.ints .u8 f)), (4, .row false ty4 (.ints .i64 x))] => PriceBest_an c d e f x
  | _, _ => []
def PriceBest_g : Specs := [(known11_n, (true, specOf true known11_fs)), (Inst_n, (true, specOf true Inst_fs)), (Flow_n, (true, specOf true Flow_fs)), (Pot_n, (true, specOf true Pot_fs)), (Compare_n, (true, specOf true Compare_fs)), (Reduced_n, (true, specOf true Reduced_fs)), (Net_n, (true, specOf true Net_fs)), (Back_n, (true, specOf true Back_fs)), (Slack_n, (true, specOf true Slack_fs)), (Fits_n, (true, specOf true Fits_fs)), (Cost_n, (true, specOf true Cost_fs))]
abbrev PriceBest_n : Nat := 5
def PriceBest_I (c : List Int) (d : List Int) (e : List Int) (f : List Int) (x : List Int) : List (Nat × ISpec) := []
def PriceBest_IA : List SV → Heap → List (Nat × ISpec) := fun _ _ => []
end Go.Proofs.Ytnjcklhgdpgllaa
