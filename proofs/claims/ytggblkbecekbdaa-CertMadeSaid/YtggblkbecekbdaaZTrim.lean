/- Part of the proof, Trim. -/
import Derived.Test.YtggblkbecekbdaaZLaw11
set_option linter.all false
set_option linter.unusedSimpArgs false
set_option linter.unusedVariables false
namespace Go.Ql
open Go Go.Vc
structure Cert where
  kind : Int
  flow : List Int
  pot : List Int
  side : List Bool
  cycle : List Int
deriving DecidableEq
structure StepD where
  inst : Inst
  pass : Int
  was : Inst
  off : Wide
  did : Bool
deriving DecidableEq
def StepD.none : StepD := ⟨⟨[], []⟩, 0, ⟨[], []⟩, ⟨0, 0⟩, false⟩
end Go.Ql
