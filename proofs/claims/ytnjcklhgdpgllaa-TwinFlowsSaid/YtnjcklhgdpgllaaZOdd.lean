/- Part of the proof, Odd. -/
import Derived.Test.YtnjcklhgdpgllaaZLaw15
set_option linter.all false
set_option linter.unusedSimpArgs false
set_option linter.unusedVariables false
namespace Go.Ql
open Go Go.Vc
theorem Arc.Nice.more {m n : Int} {a : Arc} (h : a.Nice m) (hm : m ≤ n) : a.Nice n :=
  ⟨h.s0, by have := h.s1; omega, h.d0, by have := h.d1; omega, h.l0, h.l1, h.c0, h.c1, h.k0, h.k1⟩
theorem keptGo_filter (off : List Bool) : ∀ (f k : Nat), keptGo off f k = (List.range' k f).filter (fun j => !off.getD j false)
  | 0, k => rfl
  | f + 1, k => by
    rw [keptGo, List.range'_succ, List.filter_cons, keptGo_filter off f (k + 1)]
    cases h : off.getD k false <;> rfl
end Go.Ql
