/- Part of the proof, DBTwinSides. -/
import Derived.Test.YtnjcklhgdpgllaaZDT16
import Derived.Test.YtnjcklhgdpgllaaZDC10
import Derived.Test.YtnjcklhgdpgllaaZTwin5
import Derived.Test.YtnjcklhgdpgllaaZTy
set_option linter.all false
set_option linter.unusedSimpArgs false
set_option linter.unusedVariables false
namespace Go.Proofs.Ytnjcklhgdpgllaa
open Go Go.RowKit Go.Ql Go.Vc
def TwinSides_r (c : List Int) (d : List Int) (e : List Int) : FRes := { pre := Bytes c ∧ Bytes d ∧ c.length ≤ maxLen ∧ d.length ≤ maxLen ∧ Bytes e ∧ e.length ≤ maxLen, res := .bool (true), rows := [], eff := [] }
def TwinSides_fs : FS := fun args h => match args, h with
  | [.row 0, .row 1, .row 2], [(0, .row false ty0 (.ints .u8 c)), (1, .row false ty1 (.ints .u8 d)), (2, .row false ty2 (.ints .u8 e))] => some (TwinSides_r c d e)
  | _, _ => none
def TwinSides_an (c : List Int) (d : List Int) (e : List Int) : List (Nat × Ann) := []
def TwinSides_A : List SV → Heap → List (Nat × Ann) := fun _ _ => []
def TwinSides_g : Specs := [(Alike_n, (true, specOf true Alike_fs)), (known16_n, (true, specOf true known16_fs)), (Twin_n, (true, specOf true Twin_fs)), (Marks_n, (true, specOf true Marks_fs)), (CRoom_n, (true, specOf true CRoom_fs)), (Need_n, (true, specOf true Need_fs))]
abbrev TwinSides_n : Nat := 13
def TwinSides_I (c : List Int) (d : List Int) (e : List Int) : List (Nat × ISpec) := []
def TwinSides_IA : List SV → Heap → List (Nat × ISpec) := fun _ _ => []
end Go.Proofs.Ytnjcklhgdpgllaa
