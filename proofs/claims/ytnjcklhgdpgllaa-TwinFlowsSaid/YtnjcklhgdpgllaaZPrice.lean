/- Part of the proof, Price. -/
import Derived.Test.YtnjcklhgdpgllaaZFlow
set_option linter.all false
set_option linter.unusedSimpArgs false
set_option linter.unusedVariables false
namespace Go.Ql
open Go Go.RowKit Go.Vc
end Go.Ql
