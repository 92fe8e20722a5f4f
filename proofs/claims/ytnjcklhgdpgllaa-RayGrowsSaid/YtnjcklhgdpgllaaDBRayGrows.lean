/-
  CONTRACTS, as data: RayGrows. No proofs.
-/
import Derived.Test.YtnjcklhgdpgllaaDS12
import Derived.Test.YtnjcklhgdpgllaaLaw11
import Derived.Test.YtnjcklhgdpgllaaTy
set_option linter.all false
set_option linter.unusedSimpArgs false
set_option linter.unusedVariables false
namespace Go.Proofs.Ytnjcklhgdpgllaa
open Go Go.RowKit Go.Ql Go.Vc


def RayGrows_r (c : List Int) (d : List Int) (n : Int) : FRes := { pre := Bytes c ∧ Bytes d ∧ c.length ≤ maxLen ∧ d.length ≤ maxLen ∧ 0 ≤ n ∧ n ≤ 65535, res := .bool (true), rows := [], eff := [] }
def RayGrows_fs : FS := fun args h => match args, h with
  | [.row 0, .row 1, .int .u16 n], [(0, .row false ty0 (.ints .u8 c)), (1, .row false ty1 (.ints .u8 d))] => some (RayGrows_r c d n)
  | _, _ => none
def RayGrows_an (c : List Int) (d : List Int) (n : Int) : List (Nat × Ann) := []
def RayGrows_A : List SV → Heap → List (Nat × Ann) := fun _ _ => []
def RayGrows_g : Specs := [(known12_n, (true, specOf true known12_fs)), (Round_n, (true, specOf true Round_fs)), (Flow_n, (true, specOf true Flow_fs)), (Turns_n, (true, specOf true Turns_fs)), (Fits_n, (true, specOf true Fits_fs)), (Along_n, (true, specOf true Along_fs)), (Sum12_n, (true, specOf true Sum12_fs)), (Back_n, (true, specOf true Back_fs)), (Cost_n, (true, specOf true Cost_fs)), (Times_n, (true, specOf true Times_fs)), (Plus_n, (true, specOf true Plus_fs)), (Compare_n, (true, specOf true Compare_fs))]
abbrev RayGrows_n : Nat := 8
def RayGrows_I (c : List Int) (d : List Int) (n : Int) : List (Nat × ISpec) := []
def RayGrows_IA : List SV → Heap → List (Nat × ISpec) := fun _ _ => []
end Go.Proofs.Ytnjcklhgdpgllaa
