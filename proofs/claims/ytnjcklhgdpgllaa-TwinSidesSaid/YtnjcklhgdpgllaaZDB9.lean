/- Part of the proof, DB9. -/
import Derived.Test.YtnjcklhgdpgllaaZDRf
import Derived.Test.YtnjcklhgdpgllaaZTy
set_option linter.all false
set_option linter.unusedSimpArgs false
set_option linter.unusedVariables false
namespace Go.Proofs.Ytnjcklhgdpgllaa
open Go Go.RowKit Go.Ql Go.Vc
end Go.Proofs.Ytnjcklhgdpgllaa
