/- Part of the proof, DRf. -/
import Derived.Test.YtggblkbecekbdaaZDA4
import Derived.Test.YtggblkbecekbdaaZDN1
import Derived.Test.YtggblkbecekbdaaZFlow
import Derived.Test.YtggblkbecekbdaaZTy
set_option linter.all false
set_option linter.unusedSimpArgs false
set_option linter.unusedVariables false
namespace Go.Proofs.Ytggblkbecekbdaa
open Go Go.RowKit Go.Ql Go.Vc
end Go.Proofs.Ytggblkbecekbdaa
