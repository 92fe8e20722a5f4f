/- Part of the proof, Twin5. -/
import Derived.Test.YtnjcklhgdpgllaaZTwin4
set_option linter.all false
set_option linter.unusedSimpArgs false
set_option linter.unusedVariables false
namespace Go.Ql
open Go Go.Vc
end Go.Ql
