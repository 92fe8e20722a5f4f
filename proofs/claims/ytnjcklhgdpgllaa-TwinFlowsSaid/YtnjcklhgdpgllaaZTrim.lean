/- Part of the proof, Trim. -/
import Derived.Test.YtnjcklhgdpgllaaZLaw11
set_option linter.all false
set_option linter.unusedSimpArgs false
set_option linter.unusedVariables false
namespace Go.Ql
open Go Go.Vc
structure StepD where
  inst : Inst
  pass : Int
  was : Inst
  off : Wide
  did : Bool
deriving DecidableEq
def StepD.none : StepD := ⟨⟨[], []⟩, 0, ⟨[], []⟩, ⟨0, 0⟩, false⟩
def doneF (pass : Int) (I : Inst) (next : Inst) (off : Wide) (did : Bool) : StepD × Int :=
  if did then (if rightF next = 0 then (⟨next, pass, I, off, true⟩, 0) else (StepD.none, 40)) else (⟨I, 0, ⟨[], []⟩, ⟨0, 0⟩, false⟩, 0)
end Go.Ql
