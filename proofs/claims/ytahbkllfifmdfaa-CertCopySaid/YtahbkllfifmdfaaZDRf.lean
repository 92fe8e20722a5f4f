/- Part of the proof, DRf. -/
import Derived.Test.YtahbkllfifmdfaaZDA4
import Derived.Test.YtahbkllfifmdfaaZDN1
import Derived.Test.YtahbkllfifmdfaaZFlow
import Derived.Test.YtahbkllfifmdfaaZTy
set_option linter.all false
set_option linter.unusedSimpArgs false
set_option linter.unusedVariables false
namespace Go.Proofs.Ytahbkllfifmdfaa
open Go Go.RowKit Go.Ql Go.Vc
end Go.Proofs.Ytahbkllfifmdfaa
