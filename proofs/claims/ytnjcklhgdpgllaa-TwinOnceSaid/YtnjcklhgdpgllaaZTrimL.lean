/- Part of the proof, TrimL. -/
import Derived.Test.YtnjcklhgdpgllaaZOdd
set_option linter.all false
set_option linter.unusedSimpArgs false
set_option linter.unusedVariables false
namespace Go.Ql
open Go Go.Vc
def Few (x : List Int) : Prop := ∀ y ∈ x, 0 ≤ y ∧ y ≤ 7
theorem Few.head {x : List Int} (h : Few x) : 0 ≤ x.headD 0 ∧ x.headD 0 ≤ 7 := by
  cases x with
  | nil => simp
  | cons y x => exact h y (by simp)
theorem Few.tail {x : List Int} (h : Few x) : Few x.tail := fun y hy => h y (List.mem_of_mem_tail hy)
end Go.Ql
