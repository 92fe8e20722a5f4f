/- Part of the proof, DBTrimSides. -/
import Derived.Test.YtahbkllfifmdfaaZDV15
import Derived.Test.YtahbkllfifmdfaaZDC10
import Derived.Test.YtahbkllfifmdfaaZTrimL
import Derived.Test.YtahbkllfifmdfaaZTy
set_option linter.all false
set_option linter.unusedSimpArgs false
set_option linter.unusedVariables false
namespace Go.Proofs.Ytahbkllfifmdfaa
open Go Go.RowKit Go.Ql Go.Vc
def TrimSides_r (k : Int) (c : List Int) (d : List Int) (e : List Int) (f : List Int) : FRes := { pre := 0 ≤ k ∧ k ≤ 255 ∧ Bytes c ∧ Bytes d ∧ c.length ≤ maxLen ∧ d.length ≤ maxLen ∧ Bytes e ∧ e.length ≤ maxLen ∧ Bytes f ∧ f.length ≤ maxLen, res := .bool (true), rows := [], eff := [] }
def TrimSides_fs : FS := fun args h => match args, h with
  | [.int .u8 k, .row 0, .row 1, .row 2, .row 3], [(0, .row false ty0 (.ints .u8 c)), (1, .row false ty1 (.ints .u8 d)), (2, .row false ty2 (.ints .u8 e)), (3, .row false ty3 (.ints .u8 f))] => some (TrimSides_r k c d e f)
  | _, _ => none
def TrimSides_an (k : Int) (c : List Int) (d : List Int) (e : List Int) (f : List Int) : List (Nat × Ann) := []
def TrimSides_A : List SV → Heap → List (Nat × Ann) := fun _ _ => []
def TrimSides_g : Specs := [(Odd_n, (true, specOf true Odd_fs)), (pass15_n, (true, specOf true pass15_fs)), (known15_n, (true, specOf true known15_fs)), (Marks_n, (true, specOf true Marks_fs)), (CRoom_n, (true, specOf true CRoom_fs)), (Need_n, (true, specOf true Need_fs)), (Minus_n, (true, specOf true Minus_fs))]
abbrev TrimSides_n : Nat := 8
def TrimSides_I (k : Int) (c : List Int) (d : List Int) (e : List Int) (f : List Int) : List (Nat × ISpec) := []
def TrimSides_IA : List SV → Heap → List (Nat × ISpec) := fun _ _ => []
end Go.Proofs.Ytahbkllfifmdfaa
