/- Part of the proof, DBTrimStill. -/
import Derived.Test.YtahbkllfifmdfaaZDV15
import Derived.Test.YtahbkllfifmdfaaZOdd
import Derived.Test.YtahbkllfifmdfaaZTy
set_option linter.all false
set_option linter.unusedSimpArgs false
set_option linter.unusedVariables false
namespace Go.Proofs.Ytahbkllfifmdfaa
open Go Go.RowKit Go.Ql Go.Vc
def TrimStill_r (k : Int) (c : List Int) (d : List Int) (e : List Int) : FRes := { pre := 0 ≤ k ∧ k ≤ 255 ∧ Bytes c ∧ Bytes d ∧ c.length ≤ maxLen ∧ d.length ≤ maxLen ∧ Bytes e ∧ e.length ≤ maxLen, res := .bool (true), rows := [], eff := [] }
def TrimStill_fs : FS := fun args h => match args, h with
  | [.int .u8 k, .row 0, .row 1, .row 2], [(0, .row false ty0 (.ints .u8 c)), (1, .row false ty1 (.ints .u8 d)), (2, .row false ty2 (.ints .u8 e))] => some (TrimStill_r k c d e)
  | _, _ => none
def TrimStill_an (k : Int) (c : List Int) (d : List Int) (e : List Int) : List (Nat × Ann) := []
def TrimStill_A : List SV → Heap → List (Nat × Ann) := fun _ _ => []
def TrimStill_g : Specs := [(Odd_n, (true, specOf true Odd_fs)), (pass15_n, (true, specOf true pass15_fs)), (known15_n, (true, specOf true known15_fs)), (Same_n, (true, specOf true Same_fs)), (Span_n, (true, specOf true Span_fs)), (Right_n, (true, specOf true Right_fs)), (Of_n, (true, specOf true Of_fs))]
abbrev TrimStill_n : Nat := 7
def TrimStill_I (k : Int) (c : List Int) (d : List Int) (e : List Int) : List (Nat × ISpec) := []
def TrimStill_IA : List SV → Heap → List (Nat × ISpec) := fun _ _ => []
end Go.Proofs.Ytahbkllfifmdfaa
