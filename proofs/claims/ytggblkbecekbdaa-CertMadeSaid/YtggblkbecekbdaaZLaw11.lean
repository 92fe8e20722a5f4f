/- Part of the proof, Law11. -/
import Derived.Test.YtggblkbecekbdaaZPrice
import Derived.Test.YtggblkbecekbdaaZLaw10
set_option linter.all false
set_option linter.unusedSimpArgs false
set_option linter.unusedVariables false
namespace Go.Ql
open Go Go.RowKit Go.Vc
theorem sgn_neg {r : Int} (h : I128 r) : sgn r < 0 ↔ r < 0 := by
  unfold sgn
  rw [wcmp_W h (by unfold I128; omega)]
  split
  · omega
  · split <;> omega
theorem sgn_pos {r : Int} (h : I128 r) : 0 < sgn r ↔ 0 < r := by
  unfold sgn
  rw [wcmp_W h (by unfold I128; omega)]
  split
  · omega
  · split <;> omega
theorem right_small {I : Inst} (h : rightF I = 0) : I.sup.length ≤ 64 ∧ I.arcs.length ≤ 256 := by
  unfold rightF at h
  split at h
  · omega
  · omega
theorem supErr_in : ∀ (l : List Int) (s : Int), supErr l s = 0 → Within 4398046511104 l ∧ s + l.sum = 0
  | [], s, h => by
    unfold supErr at h
    split at h
    · rename_i e; exact ⟨fun x hx => (by cases hx), by simpa using e⟩
    · omega
  | x :: l, s, h => by
    unfold supErr at h
    split at h
    · omega
    · have ih := supErr_in l (s + x) h
      refine ⟨fun y hy => ?_, by rw [List.sum_cons]; omega⟩
      rcases List.mem_cons.1 hy with rfl | hy
      · omega
      · exact ih.1 y hy
theorem right_within {I : Inst} (h : rightF I = 0) : Within 4398046511104 I.sup ∧ I.sup.sum = 0 := by
  unfold rightF at h
  split at h
  · omega
  · split at h
    · have := supErr_in _ _ h
      exact ⟨this.1, by omega⟩
    · omega
theorem A64.at {l : List Int} (h : A64 l) (k : Nat) : -9223372036854775808 ≤ l.getD k 0 ∧ l.getD k 0 ≤ 9223372036854775808 := by
  have := h.getD k
  unfold I64 at this
  omega
end Go.Ql
