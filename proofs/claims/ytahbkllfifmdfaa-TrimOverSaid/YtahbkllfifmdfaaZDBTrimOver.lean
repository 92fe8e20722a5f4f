/- Part of the proof, DBTrimOver. -/
import Derived.Test.YtahbkllfifmdfaaZDV15
import Derived.Test.YtahbkllfifmdfaaZOdd
import Derived.Test.YtahbkllfifmdfaaZTy
set_option linter.all false
set_option linter.unusedSimpArgs false
set_option linter.unusedVariables false
namespace Go.Proofs.Ytahbkllfifmdfaa
open Go Go.RowKit Go.Ql Go.Vc
def TrimOver_r (n : Int) (m : Int) (t : Bool) : FRes := { pre := 0 ≤ n ∧ n ≤ 18446744073709551615 ∧ 0 ≤ m ∧ m ≤ 18446744073709551615, res := .bool (true), rows := [], eff := [] }
def TrimOver_fs : FS := fun args h => match args, h with
  | [.int .u64 n, .int .u64 m, .bool t], [] => some (TrimOver_r n m t)
  | _, _ => none
def TrimOver_an (n : Int) (m : Int) (t : Bool) : List (Nat × Ann) := []
def TrimOver_A : List SV → Heap → List (Nat × Ann) := fun _ _ => []
def TrimOver_g : Specs := [(Low_n, (true, specOf true Low_fs)), (known15_n, (true, specOf true known15_fs))]
abbrev TrimOver_n : Nat := 3
def TrimOver_I (n : Int) (m : Int) (t : Bool) : List (Nat × ISpec) := []
def TrimOver_IA : List SV → Heap → List (Nat × ISpec) := fun _ _ => []
end Go.Proofs.Ytahbkllfifmdfaa
