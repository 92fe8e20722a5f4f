/- Part of the proof, Trim2. -/
import Derived.Test.YtnjcklhgdpgllaaZTrim
import Derived.Test.YtnjcklhgdpgllaaZLaw03
set_option linter.all false
set_option linter.unusedSimpArgs false
set_option linter.unusedVariables false
namespace Go.Ql
open Go Go.Vc
theorem right_in {I : Inst} (h : rightF I = 0) : ∀ a ∈ I.arcs, a.In I.sup.length := fun a ha => okArc_iff.1 (rightF_arc h ha).1
theorem doneF_stay {p : Int} {I J : Inst} {o : Wide} {d : Bool} (hd : d = false) : doneF p I J o d = (⟨I, 0, ⟨[], []⟩, ⟨0, 0⟩, false⟩, 0) := by subst hd; rfl
theorem doneF_over {p : Int} {I J : Inst} {o : Wide} {d : Bool} (hd : d = true) (h : ¬ rightF J = 0) : doneF p I J o d = (StepD.none, 40) := by subst hd; unfold doneF; rw [if_pos rfl, if_neg h]
theorem doneF_done {p : Int} {I J : Inst} {o : Wide} {d : Bool} (hd : d = true) (h : rightF J = 0) : doneF p I J o d = (⟨J, p, I, o, true⟩, 0) := by subst hd; unfold doneF; rw [if_pos rfl, if_pos h]
end Go.Ql
