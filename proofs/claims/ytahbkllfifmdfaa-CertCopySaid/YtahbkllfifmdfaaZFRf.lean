/- Part of the proof, FRf. -/
import Derived.Test.YtahbkllfifmdfaaZFA4
import Derived.Test.YtahbkllfifmdfaaZFN1
import Derived.Test.YtahbkllfifmdfaaZDRf
import Derived.Test.YtahbkllfifmdfaaZVc11
set_option linter.unusedVariables false
set_option linter.all false
set_option linter.unusedSimpArgs false
set_option maxRecDepth 100000
namespace Go.Proofs.Ytahbkllfifmdfaa
open Go Go.RowKit Go.Ql Go.Vc
end Go.Proofs.Ytahbkllfifmdfaa
