/- Part of the proof, DS12. -/
import Derived.Test.YtggblkbecekbdaaZDR12
import Derived.Test.YtggblkbecekbdaaZLaw10
import Derived.Test.YtggblkbecekbdaaZTy
set_option linter.all false
set_option linter.unusedSimpArgs false
set_option linter.unusedVariables false
namespace Go.Proofs.Ytggblkbecekbdaa
open Go Go.RowKit Go.Ql Go.Vc
end Go.Proofs.Ytggblkbecekbdaa
