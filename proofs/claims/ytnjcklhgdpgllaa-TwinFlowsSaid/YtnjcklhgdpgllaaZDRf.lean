/- Part of the proof, DRf. -/
import Derived.Test.YtnjcklhgdpgllaaZDA4
import Derived.Test.YtnjcklhgdpgllaaZDN1
import Derived.Test.YtnjcklhgdpgllaaZFlow
import Derived.Test.YtnjcklhgdpgllaaZTy
set_option linter.all false
set_option linter.unusedSimpArgs false
set_option linter.unusedVariables false
namespace Go.Proofs.Ytnjcklhgdpgllaa
open Go Go.RowKit Go.Ql Go.Vc
end Go.Proofs.Ytnjcklhgdpgllaa
