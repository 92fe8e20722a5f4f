/- Part of the proof, Law15. -/
import Derived.Test.YtggblkbecekbdaaZTrim2
set_option linter.all false
set_option linter.unusedSimpArgs false
set_option linter.unusedVariables false
namespace Go.Ql
open Go Go.Vc
end Go.Ql
