/- Part of the proof, Law03. -/
import Derived.Test.YtggblkbecekbdaaZSpec
set_option linter.all false
set_option linter.unusedSimpArgs false
set_option linter.unusedVariables false
namespace Go.Ql
open Go Go.RowKit
end Go.Ql
