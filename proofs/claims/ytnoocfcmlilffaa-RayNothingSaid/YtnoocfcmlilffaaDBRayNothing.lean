/-
  CONTRACTS, as data: RayNothing. No proofs.
-/
import Derived.Test.YtnoocfcmlilffaaDS12
import Derived.Test.YtnoocfcmlilffaaLaw10
import Derived.Test.YtnoocfcmlilffaaTy
set_option linter.all false
set_option linter.unusedSimpArgs false
set_option linter.unusedVariables false
namespace Go.Proofs.Ytnoocfcmlilffaa
open Go Go.RowKit Go.Ql Go.Vc


def RayNothing_r (c : List Int) (d : List Int) (x : List Int) (n : Int) (a : Int) : FRes := { pre := Bytes c ∧ Bytes d ∧ c.length ≤ maxLen ∧ d.length ≤ maxLen ∧ A64 x ∧ -2147483648 ≤ n ∧ n ≤ 2147483647 ∧ I64 a, res := .bool (true), rows := [], eff := [] }
def RayNothing_fs : FS := fun args h => match args, h with
  | [.row 0, .row 1, .row 2, .int .i32 n, .int .i64 a], [(0, .row false ty0 (.ints .u8 c)), (1, .row false ty1 (.ints .u8 d)), (2, .row false ty2 (.ints .i64 x))] => some (RayNothing_r c d x n a)
  | _, _ => none
def RayNothing_an (c : List Int) (d : List Int) (x : List Int) (n : Int) (a : Int) : List (Nat × Ann) := []
def RayNothing_A : List SV → Heap → List (Nat × Ann) := fun _ _ => []
def RayNothing_g : Specs := [(known12_n, (true, specOf true known12_fs)), (Round_n, (true, specOf true Round_fs)), (Flow_n, (true, specOf true Flow_fs)), (Along_n, (true, specOf true Along_fs)), (Nums_n, (true, specOf true Nums_fs)), (Sum12_n, (true, specOf true Sum12_fs))]
abbrev RayNothing_n : Nat := 8
def RayNothing_I (c : List Int) (d : List Int) (x : List Int) (n : Int) (a : Int) : List (Nat × ISpec) := []
def RayNothing_IA : List SV → Heap → List (Nat × ISpec) := fun _ _ => []
end Go.Proofs.Ytnoocfcmlilffaa
