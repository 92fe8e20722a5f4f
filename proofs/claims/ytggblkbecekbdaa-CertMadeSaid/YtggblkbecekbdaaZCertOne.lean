/- Part of the proof, CertOne. -/
import Derived.Test.YtggblkbecekbdaaZCert
set_option linter.all false
set_option linter.unusedSimpArgs false
set_option linter.unusedVariables false
namespace Go.Ql
open Go Go.Vc
theorem check_zero {I : Inst} {c : Cert} (h : checkF I c = 0) : rightF I = 0 ∧ plainF c = true ∧ (c.kind = 1 ∧ slackF I c.flow c.pot = 0 ∨ c.kind = 2 ∧ provesF I c.side = 0 ∨ c.kind = 3 ∧ fitsF I c.flow = 0 ∧ turnsF I c.cycle = 0) := by
  unfold checkF at h
  by_cases h1 : rightF I = 0
  · rw [if_neg (fun h2 => h2 h1)] at h
    cases hp : plainF c with
    | false => rw [hp] at h; simp at h
    | true =>
      rw [hp] at h
      simp only [Bool.true_eq_false, if_false] at h
      refine ⟨h1, rfl, ?_⟩
      rcases plainF_kind hp with hk | hk | hk
      · left; rw [if_pos hk] at h; exact ⟨hk, h⟩
      · right; left; rw [if_neg (by omega), if_pos hk] at h; exact ⟨hk, h⟩
      · right; right
        rw [if_neg (by omega), if_neg (by omega)] at h
        refine ⟨hk, ?_⟩
        by_cases hf : fitsF I c.flow = 0
        · rw [if_neg (fun h2 => h2 hf)] at h; exact ⟨hf, h⟩
        · rw [if_pos hf] at h; exact absurd h hf
  · rw [if_pos h1] at h; exact absurd h h1
end Go.Ql
