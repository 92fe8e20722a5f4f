/- Part of the proof, Trim2. -/
import Derived.Test.YtggblkbecekbdaaZTrim
import Derived.Test.YtggblkbecekbdaaZLaw03
set_option linter.all false
set_option linter.unusedSimpArgs false
set_option linter.unusedVariables false
namespace Go.Ql
open Go Go.Vc
end Go.Ql
