/-
  CONTRACTS, as data: PriceShift. No proofs.
-/
import Derived.Test.YtnjcklhgdpgllaaDQ11
import Derived.Test.YtnjcklhgdpgllaaTy
set_option linter.all false
set_option linter.unusedSimpArgs false
set_option linter.unusedVariables false
namespace Go.Proofs.Ytnjcklhgdpgllaa
open Go Go.RowKit Go.Ql Go.Vc


def PriceShift_r (c : List Int) (d : List Int) (e : List Int) (n : Int) (x : List Int) : FRes := { pre := Bytes c ∧ Bytes d ∧ c.length ≤ maxLen ∧ d.length ≤ maxLen ∧ Bytes e ∧ e.length ≤ maxLen ∧ -2147483648 ≤ n ∧ n ≤ 2147483647 ∧ A64 x, res := .bool (true), rows := [], eff := [] }
def PriceShift_fs : FS := fun args h => match args, h with
  | [.row 0, .row 1, .row 2, .int .i32 n, .row 3], [(0, .row false ty0 (.ints .u8 c)), (1, .row false ty1 (.ints .u8 d)), (2, .row false ty2 (.ints .u8 e)), (3, .row false ty3 (.ints .i64 x))] => some (PriceShift_r c d e n x)
  | _, _ => none
def PriceShift_an (c : List Int) (d : List Int) (e : List Int) (n : Int) (x : List Int) : List (Nat × Ann) := [(7, { G := (Nat), inv := fun k => ⟨[(3, SV.int IntKind.i32 n), (4, SV.row (3 : Nat)), (11, SV.ptr (8 : Nat) (0 : Nat) (0 : Nat) (0 : Nat)), (12, SV.row (9 : Nat)), (13, SV.row (10 : Nat)), (15, .int .i64 k)], [(10, Ent.row true 2 (Row.ints IntKind.i64 ((shiftF (IntKind.i64.wrap n) [] (potF e (↑(instF c d).sup.length : Int).toNat)).getD []))), (9, Ent.row true 2 (Row.ints IntKind.i64 (potF e (↑(instF c d).sup.length : Int).toNat))), (8, Ent.box true 26 [SV.row (4 : Nat), SV.row (5 : Nat)]), (4, Ent.row true 2 (Row.ints IntKind.i64 (instF c d).sup)), (5, Ent.row true 32 (Row.arcs (instF c d).arcs)), (3, Ent.row false 0 (Row.ints IntKind.i64 x))], 11⟩, rel := fun k0 k => k ≤ (instF c d).arcs.length, meas := fun k => (instF c d).arcs.length - k })]
def PriceShift_A : List SV → Heap → List (Nat × Ann) := fun args h => match args, h with
  | [.row 0, .row 1, .row 2, .int .i32 n, .row 3], [(0, .row false ty0 (.ints .u8 c)), (1, .row false ty1 (.ints .u8 d)), (2, .row false ty2 (.ints .u8 e)), (3, .row false ty3 (.ints .i64 x))] => PriceShift_an c d e n x
  | _, _ => []
def PriceShift_g : Specs := [(known11_n, (true, specOf true known11_fs)), (Inst_n, (true, specOf true Inst_fs)), (Pot_n, (true, specOf true Pot_fs)), (Shift_n, (true, specOf true Shift_fs)), (Reduced_n, (true, specOf true Reduced_fs)), (Bound_n, (true, specOf true Bound_fs)), (Slack_n, (true, specOf true Slack_fs)), (Nums_n, (true, specOf true Nums_fs))]
abbrev PriceShift_n : Nat := 7
def PriceShift_I (c : List Int) (d : List Int) (e : List Int) (n : Int) (x : List Int) : List (Nat × ISpec) := []
def PriceShift_IA : List SV → Heap → List (Nat × ISpec) := fun _ _ => []
end Go.Proofs.Ytnjcklhgdpgllaa
