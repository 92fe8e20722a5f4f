/- Part of the proof, Ray. -/
import Derived.Test.YtnjcklhgdpgllaaZFlow
set_option linter.all false
set_option linter.unusedSimpArgs false
set_option linter.unusedVariables false
namespace Go.Ql
open Go Go.RowKit Go.Vc
def isArcF (I : Inst) (a : Int) : Bool := decide (0 ≤ a) && decide (a < I.arcs.length)
def arcAt (I : Inst) (a : Int) : Arc := I.arcs.getD a.toNat default
theorem arcAt_get {I : Inst} {x : Int} {a : Arc} (h : I.arcs[x.toNat]? = some a) : arcAt I x = a := by simp [arcAt, List.getD, h]
theorem isArcF_iff {I : Inst} {x : Int} : isArcF I x = true ↔ 0 ≤ x ∧ x < I.arcs.length := by simp [isArcF]
end Go.Ql
