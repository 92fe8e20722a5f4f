/- Part of the proof, DBTrimGreat. -/
import Derived.Test.YtahbkllfifmdfaaZDV15
import Derived.Test.YtahbkllfifmdfaaZOdd
import Derived.Test.YtahbkllfifmdfaaZTy
set_option linter.all false
set_option linter.unusedSimpArgs false
set_option linter.unusedVariables false
namespace Go.Proofs.Ytahbkllfifmdfaa
open Go Go.RowKit Go.Ql Go.Vc
def TrimGreat_r (k : Int) (c : List Int) (d : List Int) (e : List Int) (at_ : Int) (f : Int) (n : Int) : FRes := { pre := 0 ≤ k ∧ k ≤ 255 ∧ Bytes c ∧ Bytes d ∧ c.length ≤ maxLen ∧ d.length ≤ maxLen ∧ Bytes e ∧ e.length ≤ maxLen ∧ 0 ≤ at_ ∧ at_ ≤ 255 ∧ 0 ≤ f ∧ f ≤ 255, res := .bool (true), rows := [], eff := [] }
def TrimGreat_fs : FS := fun args h => match args, h with
  | [.int .u8 k, .row 0, .row 1, .row 2, .int .u8 at_, .int .u8 f, .int .i64 n], [(0, .row false ty0 (.ints .u8 c)), (1, .row false ty1 (.ints .u8 d)), (2, .row false ty2 (.ints .u8 e))] => some (TrimGreat_r k c d e at_ f n)
  | _, _ => none
def TrimGreat_an (k : Int) (c : List Int) (d : List Int) (e : List Int) (at_ : Int) (f : Int) (n : Int) : List (Nat × Ann) := []
def TrimGreat_A : List SV → Heap → List (Nat × Ann) := fun _ _ => []
def TrimGreat_g : Specs := [(Odd_n, (true, specOf true Odd_fs)), (known15_n, (true, specOf true known15_fs)), (does15_n, (true, specOf true does15_fs))]
abbrev TrimGreat_n : Nat := 6
def TrimGreat_I (k : Int) (c : List Int) (d : List Int) (e : List Int) (at_ : Int) (f : Int) (n : Int) : List (Nat × ISpec) := []
def TrimGreat_IA : List SV → Heap → List (Nat × ISpec) := fun _ _ => []
end Go.Proofs.Ytahbkllfifmdfaa
