/- Part of the proof, FS12. -/
import Derived.Test.YtggblkbecekbdaaZFR12
import Derived.Test.YtggblkbecekbdaaZDS12
import Derived.Test.YtggblkbecekbdaaZVc11
set_option linter.unusedVariables false
set_option linter.all false
set_option linter.unusedSimpArgs false
set_option maxRecDepth 100000
namespace Go.Proofs.Ytggblkbecekbdaa
open Go Go.RowKit Go.Ql Go.Vc
end Go.Proofs.Ytggblkbecekbdaa
