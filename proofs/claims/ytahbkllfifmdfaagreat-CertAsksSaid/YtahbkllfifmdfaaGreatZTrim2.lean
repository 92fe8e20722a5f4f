/- Part of the proof, Trim2. -/
import Derived.Test.YtahbkllfifmdfaaGreatZTrim
import Derived.Test.YtahbkllfifmdfaaGreatZLaw03
set_option linter.all false
set_option linter.unusedSimpArgs false
set_option linter.unusedVariables false
namespace Go.Ql
open Go Go.Vc
end Go.Ql
