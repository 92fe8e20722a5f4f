/- Part of the proof, Twin3. -/
import Derived.Test.YtnjcklhgdpgllaaZTwin2
set_option linter.all false
set_option linter.unusedSimpArgs false
set_option linter.unusedVariables false
namespace Go.Ql
open Go Go.Vc
theorem spreadGo_len (I : Inst) : ∀ (l : List Int) (left : Int) (out x : List Int), spreadGo I l left out = some x → x.length = out.length + l.length
  | [], left, out, x, h => by cases h; rfl
  | a :: l, left, out, x, h => by
    rw [spreadGo] at h
    split at h
    · have := spreadGo_len I l _ _ _ h
      rw [this]; simp; omega
    · cases h
theorem spreadF_len {I : Inst} {l : List Int} {n : Int} {x : List Int} (h : spreadF I l n = some x) : x.length = l.length := by
  unfold spreadF at h
  split at h
  · cases h
  · obtain ⟨s, _, h2⟩ := Option.bind_eq_some_iff.1 h
    rw [spreadGo_len I l s [] x h2]; simp
def known16I : Inst := ⟨[0, 0], [⟨0, 1, 1, 2, 0⟩, ⟨0, 1, 0, 4611686018427387904, 0⟩]⟩
theorem known16_right : rightF known16I = 0 := by decide +kernel
theorem known16_spread : spreadF known16I [0, 1] 5 = some [2, 3] := by decide +kernel
theorem known16_twin : twinS known16I = (⟨⟨[0, 0], [⟨0, 1, 1, 4611686018427387904, 0⟩]⟩, 5, known16I, ⟨0, 0⟩, true⟩, 0) := by decide +kernel
end Go.Ql
