/- Part of the proof, FRf. -/
import Derived.Test.YtggblkbecekbdaaZFA4
import Derived.Test.YtggblkbecekbdaaZFN1
import Derived.Test.YtggblkbecekbdaaZDRf
import Derived.Test.YtggblkbecekbdaaZVc11
set_option linter.unusedVariables false
set_option linter.all false
set_option linter.unusedSimpArgs false
set_option maxRecDepth 100000
namespace Go.Proofs.Ytggblkbecekbdaa
open Go Go.RowKit Go.Ql Go.Vc
end Go.Proofs.Ytggblkbecekbdaa
