/- Part of the proof, Law11. -/
import Derived.Test.YtnjcklhgdpgllaaZPrice
import Derived.Test.YtnjcklhgdpgllaaZLaw10
set_option linter.all false
set_option linter.unusedSimpArgs false
set_option linter.unusedVariables false
namespace Go.Ql
open Go Go.RowKit Go.Vc
theorem right_small {I : Inst} (h : rightF I = 0) : I.sup.length ≤ 64 ∧ I.arcs.length ≤ 256 := by
  unfold rightF at h
  split at h
  · omega
  · omega
theorem A64.at {l : List Int} (h : A64 l) (k : Nat) : -9223372036854775808 ≤ l.getD k 0 ∧ l.getD k 0 ≤ 9223372036854775808 := by
  have := h.getD k
  unfold I64 at this
  omega
end Go.Ql
