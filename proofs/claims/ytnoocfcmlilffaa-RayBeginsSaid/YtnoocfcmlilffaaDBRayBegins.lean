/-
  CONTRACTS, as data: RayBegins. No proofs.
-/
import Derived.Test.YtnoocfcmlilffaaDS12
import Derived.Test.YtnoocfcmlilffaaLaw10
import Derived.Test.YtnoocfcmlilffaaTy
set_option linter.all false
set_option linter.unusedSimpArgs false
set_option linter.unusedVariables false
namespace Go.Proofs.Ytnoocfcmlilffaa
open Go Go.RowKit Go.Ql Go.Vc


def RayBegins_r (c : List Int) (d : List Int) (k : Int) : FRes := { pre := Bytes c ∧ Bytes d ∧ c.length ≤ maxLen ∧ d.length ≤ maxLen ∧ 0 ≤ k ∧ k ≤ 255, res := .bool (true), rows := [], eff := [] }
def RayBegins_fs : FS := fun args h => match args, h with
  | [.row 0, .row 1, .int .u8 k], [(0, .row false ty0 (.ints .u8 c)), (1, .row false ty1 (.ints .u8 d))] => some (RayBegins_r c d k)
  | _, _ => none
def RayBegins_an (c : List Int) (d : List Int) (k : Int) : List (Nat × Ann) := []
def RayBegins_A : List SV → Heap → List (Nat × Ann) := fun _ _ => []
def RayBegins_g : Specs := [(known12_n, (true, specOf true known12_fs)), (Round_n, (true, specOf true Round_fs)), (Turns_n, (true, specOf true Turns_fs))]
abbrev RayBegins_n : Nat := 3
def RayBegins_I (c : List Int) (d : List Int) (k : Int) : List (Nat × ISpec) := []
def RayBegins_IA : List SV → Heap → List (Nat × ISpec) := fun _ _ => []
end Go.Proofs.Ytnoocfcmlilffaa
