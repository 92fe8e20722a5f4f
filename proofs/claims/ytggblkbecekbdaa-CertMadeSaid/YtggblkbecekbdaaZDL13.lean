/- Part of the proof, DL13. -/
import Derived.Test.YtggblkbecekbdaaZDK13
import Derived.Test.YtggblkbecekbdaaZTy
set_option linter.all false
set_option linter.unusedSimpArgs false
set_option linter.unusedVariables false
namespace Go.Proofs.Ytggblkbecekbdaa
open Go Go.RowKit Go.Ql Go.Vc
def known13_r : FRes := { pre := True, res := .bool (true), rows := [], eff := [] }
def known13_fs : FS := fun args h => match args, h with
  | [], [] => some (known13_r)
  | _, _ => none
def known13_an : List (Nat × Ann) := []
def known13_A : List SV → Heap → List (Nat × Ann) := fun _ _ => []
def known13_g : Specs := [(ValueC_n, (true, specOf true ValueC_fs)), (Check_n, (true, specOf true Check_fs)), (Plain13_n, (true, specOf true Plain13_fs))]
abbrev known13_n : Nat := 12
def known13_I : List (Nat × ISpec) := []
def known13_IA : List SV → Heap → List (Nat × ISpec) := fun _ _ => []
end Go.Proofs.Ytggblkbecekbdaa
