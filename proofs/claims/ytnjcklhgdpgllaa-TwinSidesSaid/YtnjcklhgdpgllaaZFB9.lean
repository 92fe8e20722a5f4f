/- Part of the proof, FB9. -/
import Derived.Test.YtnjcklhgdpgllaaZFA4
import Derived.Test.YtnjcklhgdpgllaaZFN1
import Derived.Test.YtnjcklhgdpgllaaZDB9
import Derived.Test.YtnjcklhgdpgllaaZVc11
set_option linter.unusedVariables false
set_option linter.all false
set_option linter.unusedSimpArgs false
set_option maxRecDepth 100000
namespace Go.Proofs.Ytnjcklhgdpgllaa
open Go Go.RowKit Go.Ql Go.Vc
end Go.Proofs.Ytnjcklhgdpgllaa
