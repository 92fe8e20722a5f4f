/- Part of the proof, Odd. -/
import Derived.Test.YtggblkbecekbdaaZLaw15
set_option linter.all false
set_option linter.unusedSimpArgs false
set_option linter.unusedVariables false
namespace Go.Ql
open Go Go.Vc
theorem Arc.Nice.more {m n : Int} {a : Arc} (h : a.Nice m) (hm : m ≤ n) : a.Nice n :=
  ⟨h.s0, by have := h.s1; omega, h.d0, by have := h.d1; omega, h.l0, h.l1, h.c0, h.c1, h.k0, h.k1⟩
end Go.Ql
