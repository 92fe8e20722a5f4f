/- Part of the proof, DBTwinSpreads. -/
import Derived.Test.YtnjcklhgdpgllaaZDT16
import Derived.Test.YtnjcklhgdpgllaaZTy
set_option linter.all false
set_option linter.unusedSimpArgs false
set_option linter.unusedVariables false
namespace Go.Proofs.Ytnjcklhgdpgllaa
open Go Go.RowKit Go.Ql Go.Vc
def TwinSpreads_r (c : List Int) (d : List Int) (e : List Int) (n : Int) (k : Int) (raw : List Int) : FRes := { pre := Bytes c ∧ Bytes d ∧ c.length ≤ maxLen ∧ d.length ≤ maxLen ∧ Bytes e ∧ e.length ≤ maxLen ∧ I64 n ∧ -128 ≤ k ∧ k ≤ 127 ∧ raw.length ≤ 140737488351232, res := .bool (true), rows := [], eff := [] }
def TwinSpreads_fs : FS := fun args h => match args, h with
  | [.row 0, .row 1, .row 2, .int .i64 n, .int .i8 k, .row 3], [(0, .row false ty0 (.ints .u8 c)), (1, .row false ty1 (.ints .u8 d)), (2, .row false ty2 (.ints .u8 e)), (3, .row false ty3 (.ints .i64 raw))] => some (TwinSpreads_r c d e n k raw)
  | _, _ => none
def TwinSpreads_an (c : List Int) (d : List Int) (e : List Int) (n : Int) (k : Int) (raw : List Int) : List (Nat × Ann) := [(6, { G := (List Int) × (Nat), inv := fun ⟨l, j⟩ => ⟨[(2, SV.row (2 : Nat)), (3, SV.int IntKind.i64 n), (4, SV.int IntKind.i8 k), (5, SV.row (3 : Nat)), (13, SV.ptr (8 : Nat) (0 : Nat) (0 : Nat) (0 : Nat)), (14, SV.row (9 : Nat)), (15, .int .i64 j)], [(9, .row true 3 (.ints .i64 l)), (8, Ent.box true 26 [SV.row (4 : Nat), SV.row (5 : Nat)]), (4, Ent.row true 2 (Row.ints IntKind.i64 (alikeF c d).sup)), (5, Ent.row true 32 (Row.arcs (alikeF c d).arcs)), (2, Ent.row false 0 (Row.ints IntKind.u8 e)), (3, Ent.row false 0 (Row.ints IntKind.i64 raw))], 10⟩, rel := fun ⟨l0, j0⟩ ⟨l, j⟩ => j ≤ 6 ∧ l.length = j, meas := fun ⟨l, j⟩ => 6 - j })]
def TwinSpreads_A : List SV → Heap → List (Nat × Ann) := fun args h => match args, h with
  | [.row 0, .row 1, .row 2, .int .i64 n, .int .i8 k, .row 3], [(0, .row false ty0 (.ints .u8 c)), (1, .row false ty1 (.ints .u8 d)), (2, .row false ty2 (.ints .u8 e)), (3, .row false ty3 (.ints .i64 raw))] => TwinSpreads_an c d e n k raw
  | _, _ => []
def TwinSpreads_g : Specs := [(Alike_n, (true, specOf true Alike_fs)), (known16_n, (true, specOf true known16_fs)), (spreads16_n, (true, specOf true spreads16_fs))]
abbrev TwinSpreads_n : Nat := 10
def TwinSpreads_I (c : List Int) (d : List Int) (e : List Int) (n : Int) (k : Int) (raw : List Int) : List (Nat × ISpec) := []
def TwinSpreads_IA : List SV → Heap → List (Nat × ISpec) := fun _ _ => []
end Go.Proofs.Ytnjcklhgdpgllaa
