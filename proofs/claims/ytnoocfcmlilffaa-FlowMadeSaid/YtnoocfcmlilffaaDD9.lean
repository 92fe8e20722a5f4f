/-
  CONTRACTS, as data: FlowMade. No proofs.
-/
import Derived.Test.YtnoocfcmlilffaaDC9
import Derived.Test.YtnoocfcmlilffaaLaw09
import Derived.Test.YtnoocfcmlilffaaTy
set_option linter.all false
set_option linter.unusedSimpArgs false
set_option linter.unusedVariables false
namespace Go.Proofs.Ytnoocfcmlilffaa
open Go Go.RowKit Go.Ql Go.Vc


def FlowMade_r (c : List Int) (d : List Int) (n : Int) : FRes := { pre := Bytes c ∧ Bytes d ∧ c.length ≤ maxLen ∧ d.length ≤ maxLen ∧ I64 n, res := .bool (true), rows := [], eff := [] }
def FlowMade_fs : FS := fun args h => match args, h with
  | [.row 0, .row 1, .int .i64 n], [(0, .row false ty0 (.ints .u8 c)), (1, .row false ty1 (.ints .u8 d))] => some (FlowMade_r c d n)
  | _, _ => none
def FlowMade_an (c : List Int) (d : List Int) (n : Int) : List (Nat × Ann) := [(7, { G := (Nat), inv := fun k => ⟨[(2, SV.int IntKind.i64 n), (7, SV.ptr (6 : Nat) (0 : Nat) (0 : Nat) (0 : Nat)), (8, SV.row (7 : Nat)), (9, SV.row (8 : Nat)), (10, .int .i64 k)], [(8, Ent.row true 42 (Row.wides (netF (instF c d) (flowF (instF c d) d)))), (7, Ent.row true 2 (Row.ints IntKind.i64 (flowF (instF c d) d))), (6, Ent.box true 26 [SV.row (2 : Nat), SV.row (3 : Nat)]), (2, .row true 2 (.ints .i64 (madeS (instF c d) (flowF (instF c d) d) k))), (3, Ent.row true 34 (Row.arcs (instF c d).arcs))], 9⟩, rel := fun k0 k => k ≤ (instF c d).sup.length, meas := fun k => (instF c d).sup.length - k }),
  (14, { G := (Nat), inv := fun k => ⟨[(2, SV.int IntKind.i64 n), (7, SV.ptr (6 : Nat) (0 : Nat) (0 : Nat) (0 : Nat)), (8, SV.row (7 : Nat)), (13, .int .i64 k)], [(7, Ent.row true 2 (Row.ints IntKind.i64 (flowF (instF c d) d))), (6, Ent.box true 26 [SV.row (2 : Nat), SV.row (3 : Nat)]), (2, .row true 2 (.ints .i64 (madeS (instF c d) (flowF (instF c d) d) (instF c d).sup.length))), (3, .row true 34 (.arcs (costA (n.tmod 1000) k (instF c d).arcs)))], 9⟩, rel := fun k0 k => k ≤ (instF c d).arcs.length, meas := fun k => (instF c d).arcs.length - k })]
def FlowMade_A : List SV → Heap → List (Nat × Ann) := fun args h => match args, h with
  | [.row 0, .row 1, .int .i64 n], [(0, .row false ty0 (.ints .u8 c)), (1, .row false ty1 (.ints .u8 d))] => FlowMade_an c d n
  | _, _ => []
def FlowMade_g : Specs := [(Inst_n, (true, specOf true Inst_fs)), (Flow_n, (true, specOf true Flow_fs)), (Net_n, (true, specOf true Net_fs)), (Back_n, (true, specOf true Back_fs)), (known9_n, (true, specOf true known9_fs)), (Fits_n, (true, specOf true Fits_fs))]
abbrev FlowMade_n : Nat := 13
end Go.Proofs.Ytnoocfcmlilffaa
