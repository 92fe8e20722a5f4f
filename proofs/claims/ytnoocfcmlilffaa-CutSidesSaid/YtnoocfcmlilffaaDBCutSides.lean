/-
  CONTRACTS, as data: CutSides. No proofs.
-/
import Derived.Test.YtnoocfcmlilffaaDC10
import Derived.Test.YtnoocfcmlilffaaLaw10
import Derived.Test.YtnoocfcmlilffaaTy
set_option linter.all false
set_option linter.unusedSimpArgs false
set_option linter.unusedVariables false
namespace Go.Proofs.Ytnoocfcmlilffaa
open Go Go.RowKit Go.Ql Go.Vc


def CutSides_r (c : List Int) (d : List Int) (e : List Int) : FRes := { pre := Bytes c ∧ Bytes d ∧ c.length ≤ maxLen ∧ d.length ≤ maxLen ∧ Bytes e ∧ e.length ≤ maxLen, res := .bool (true), rows := [], eff := [] }
def CutSides_fs : FS := fun args h => match args, h with
  | [.row 0, .row 1, .row 2], [(0, .row false ty0 (.ints .u8 c)), (1, .row false ty1 (.ints .u8 d)), (2, .row false ty2 (.ints .u8 e))] => some (CutSides_r c d e)
  | _, _ => none
def CutSides_an (c : List Int) (d : List Int) (e : List Int) : List (Nat × Ann) := [(8, { G := (Nat), inv := fun k => ⟨[(7, SV.ptr (7 : Nat) (0 : Nat) (0 : Nat) (0 : Nat)), (8, SV.int IntKind.i64 (↑(instF c d).sup.length : Int)), (9, SV.row (8 : Nat)), (10, SV.row (9 : Nat)), (11, .int .i64 k)], [(9, Ent.row true 4 (Row.bools (otherF (wholeF e (↑(instF c d).sup.length : Int).toNat) (keptN (↑(instF c d).sup.length : Int))))), (8, Ent.row true 4 (Row.bools (wholeF e (↑(instF c d).sup.length : Int).toNat))), (7, Ent.box true 26 [SV.row (3 : Nat), SV.row (4 : Nat)]), (3, Ent.row true 2 (Row.ints IntKind.i64 (instF c d).sup)), (4, Ent.row true 34 (Row.arcs (instF c d).arcs))], 10⟩, rel := fun k0 k => k ≤ (instF c d).sup.length, meas := fun k => (instF c d).sup.length - k })]
def CutSides_A : List SV → Heap → List (Nat × Ann) := fun args h => match args, h with
  | [.row 0, .row 1, .row 2], [(0, .row false ty0 (.ints .u8 c)), (1, .row false ty1 (.ints .u8 d)), (2, .row false ty2 (.ints .u8 e))] => CutSides_an c d e
  | _, _ => []
def CutSides_g : Specs := [(Inst_n, (true, specOf true Inst_fs)), (whole_n, (true, specOf true whole_fs)), (Other_n, (true, specOf true Other_fs)), (known10_n, (true, specOf true known10_fs)), (Need_n, (true, specOf true Need_fs)), (Plus_n, (true, specOf true Plus_fs)), (Of_n, (true, specOf true Of_fs)), (Proves_n, (true, specOf true Proves_fs)), (Bools_n, (true, specOf true Bools_fs))]
abbrev CutSides_n : Nat := 6
def CutSides_I (c : List Int) (d : List Int) (e : List Int) : List (Nat × ISpec) := []
def CutSides_IA : List SV → Heap → List (Nat × ISpec) := fun _ _ => []
end Go.Proofs.Ytnoocfcmlilffaa
