/- Part of the proof, Trim2. -/
import Derived.Test.YtnjcklhgdpgllaaZTrim
import Derived.Test.YtnjcklhgdpgllaaZLaw03
set_option linter.all false
set_option linter.unusedSimpArgs false
set_option linter.unusedVariables false
namespace Go.Ql
open Go Go.Vc
theorem withoutF_len (I : Inst) (n o : List Bool) : (withoutF I n o).sup.length ≤ 1000 ∧ (withoutF I n o).arcs.length ≤ 1000 := by
  have h1 := keptF_len n (keptN I.sup.length)
  have h2 := keptF_len o (keptN I.arcs.length)
  have h3 : ∀ n : Int, keptN n ≤ 1000 := fun n => by unfold keptN; omega
  have h4 := h3 I.sup.length
  have h5 := h3 I.arcs.length
  constructor
  · rw [withoutF_sup_len]; unfold keptNodes; omega
  · unfold withoutF keptArcs
    exact Nat.le_trans (List.length_filterMap_le _ _) (by omega)
theorem stepD_ext {s t : StepD} : s = t ↔ s.did = t.did ∧ [s.off.hi, s.off.lo] = [t.off.hi, t.off.lo] ∧ s.pass = t.pass ∧ s.inst = t.inst ∧ s.was = t.was := by
  constructor
  · rintro rfl; exact ⟨rfl, rfl, rfl, rfl, rfl⟩
  · rintro ⟨h1, h2, h3, h4, h5⟩
    obtain ⟨a, b, c, ⟨d, e⟩, f⟩ := s
    obtain ⟨a', b', c', ⟨d', e'⟩, f'⟩ := t
    simp only [List.cons.injEq, and_true] at h2
    simp_all
theorem doneF_stay {p : Int} {I J : Inst} {o : Wide} {d : Bool} (hd : d = false) : doneF p I J o d = (⟨I, 0, ⟨[], []⟩, ⟨0, 0⟩, false⟩, 0) := by subst hd; rfl
theorem doneF_over {p : Int} {I J : Inst} {o : Wide} {d : Bool} (hd : d = true) (h : ¬ rightF J = 0) : doneF p I J o d = (StepD.none, 40) := by subst hd; unfold doneF; rw [if_pos rfl, if_neg h]
theorem doneF_done {p : Int} {I J : Inst} {o : Wide} {d : Bool} (hd : d = true) (h : rightF J = 0) : doneF p I J o d = (⟨J, p, I, o, true⟩, 0) := by subst hd; unfold doneF; rw [if_pos rfl, if_pos h]
end Go.Ql
