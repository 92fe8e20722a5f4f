/-
  CONTRACTS, as data: RayAsks. No proofs.
-/
import Derived.Test.YtnoocfcmlilffaaDS12
import Derived.Test.YtnoocfcmlilffaaTy
set_option linter.all false
set_option linter.unusedSimpArgs false
set_option linter.unusedVariables false
namespace Go.Proofs.Ytnoocfcmlilffaa
open Go Go.RowKit Go.Ql Go.Vc


def RayAsks_r (I : Inst) (l : List Int) (x : List Int) (n : Int) (c : List Int) (d : List Int) (k : Int) : FRes := { pre := I.sup.length ≤ 140737488351232 ∧ I.arcs.length ≤ 140737488351232 ∧ l.length ≤ 140737488351232 ∧ x.length ≤ 140737488351232 ∧ A64 x ∧ A64c I.arcs ∧ I64 n ∧ 0 ≤ k ∧ k ≤ 255 ∧ Bytes c ∧ Bytes d ∧ c.length ≤ maxLen ∧ d.length ≤ maxLen, res := .bool (true), rows := [], eff := [] }
def RayAsks_fs : FS := fun args h => match args, h with
  | [.agg [.row 0, .row 1], .row 2, .row 3, .int .i64 n, .row 4, .row 5, .int .u8 k], [(0, .row false ty0 (.ints .i64 I_s)), (1, .row false ty1 (.arcs I_a)), (2, .row false ty2 (.ints .i64 l)), (3, .row false ty3 (.ints .i64 x)), (4, .row false ty4 (.ints .u8 c)), (5, .row false ty5 (.ints .u8 d))] => some (RayAsks_r ⟨I_s, I_a⟩ l x n c d k)
  | _, _ => none
def RayAsks_an (I : Inst) (l : List Int) (x : List Int) (n : Int) (c : List Int) (d : List Int) (k : Int) : List (Nat × Ann) := []
def RayAsks_A : List SV → Heap → List (Nat × Ann) := fun _ _ => []
def RayAsks_g : Specs := [(Size_n, (true, specOf true Size_fs)), (known12_n, (true, specOf true known12_fs)), (Round_n, (true, specOf true Round_fs)), (Round0_n, (true, specOf true Round0_fs)), (Flow_n, (true, specOf true Flow_fs)), (asks12_n, (true, specOf true asks12_fs))]
abbrev RayAsks_n : Nat := 7
def RayAsks_I (I : Inst) (l : List Int) (x : List Int) (n : Int) (c : List Int) (d : List Int) (k : Int) : List (Nat × ISpec) := []
def RayAsks_IA : List SV → Heap → List (Nat × ISpec) := fun _ _ => []
end Go.Proofs.Ytnoocfcmlilffaa
