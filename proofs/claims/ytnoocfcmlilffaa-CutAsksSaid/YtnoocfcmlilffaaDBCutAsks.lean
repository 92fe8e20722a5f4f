/-
  CONTRACTS, as data: CutAsks. No proofs.
-/
import Derived.Test.YtnoocfcmlilffaaDC10
import Derived.Test.YtnoocfcmlilffaaLaw09
import Derived.Test.YtnoocfcmlilffaaTy
set_option linter.all false
set_option linter.unusedSimpArgs false
set_option linter.unusedVariables false
namespace Go.Proofs.Ytnoocfcmlilffaa
open Go Go.RowKit Go.Ql Go.Vc


def CutAsks_r (I : Inst) (side : List Bool) (n : Int) (c : List Int) (d : List Int) (e : List Int) : FRes := { pre := I.sup.length ≤ 140737488351232 ∧ I.arcs.length ≤ 140737488351232 ∧ side.length ≤ 140737488351232 ∧ A64 I.sup ∧ A64a I.arcs ∧ Bytes c ∧ Bytes d ∧ c.length ≤ maxLen ∧ d.length ≤ maxLen ∧ Bytes e ∧ e.length ≤ maxLen, res := .bool (true), rows := [], eff := [] }
def CutAsks_fs : FS := fun args h => match args, h with
  | [.agg [.row 0, .row 1], .row 2, .int .i64 n, .row 3, .row 4, .row 5], [(0, .row false ty0 (.ints .i64 I_s)), (1, .row false ty1 (.arcs I_a)), (2, .row false ty2 (.bools side)), (3, .row false ty3 (.ints .u8 c)), (4, .row false ty4 (.ints .u8 d)), (5, .row false ty5 (.ints .u8 e))] => some (CutAsks_r ⟨I_s, I_a⟩ side n c d e)
  | _, _ => none
def CutAsks_an (I : Inst) (side : List Bool) (n : Int) (c : List Int) (d : List Int) (e : List Int) : List (Nat × Ann) := []
def CutAsks_A : List SV → Heap → List (Nat × Ann) := fun _ _ => []
def CutAsks_g : Specs := [(Size_n, (true, specOf true Size_fs)), (known10_n, (true, specOf true known10_fs)), (Inst_n, (true, specOf true Inst_fs)), (asks10_n, (true, specOf true asks10_fs)), (Marks_n, (true, specOf true Marks_fs)), (Other_n, (true, specOf true Other_fs)), (rOther_n, (true, specOf true rOther_fs)), (Bools_n, (true, specOf true Bools_fs))]
abbrev CutAsks_n : Nat := 5
def CutAsks_I (I : Inst) (side : List Bool) (n : Int) (c : List Int) (d : List Int) (e : List Int) : List (Nat × ISpec) := []
def CutAsks_IA : List SV → Heap → List (Nat × ISpec) := fun _ _ => []
end Go.Proofs.Ytnoocfcmlilffaa
