/- Part of the proof, Price. -/
import Derived.Test.YtggblkbecekbdaaZFlow
set_option linter.all false
set_option linter.unusedSimpArgs false
set_option linter.unusedVariables false
namespace Go.Ql
open Go Go.RowKit Go.Vc
def redA (a : Arc) (f t : Int) : Int := a.cost - f + t
def sgn (r : Int) : Int := wcmp (W r) (W 0)
def atA (I : Inst) (a : Int) : Arc := gArc I.sup.length I.arcs a
def atF (I : Inst) (pot : List Int) (a : Int) : Int := if gOk I.sup.length I.arcs a then pot.getD (atA I a).src.toNat 0 else 0
def atT (I : Inst) (pot : List Int) (a : Int) : Int := if gOk I.sup.length I.arcs a then pot.getD (atA I a).dst.toNat 0 else 0
def redF (I : Inst) (pot : List Int) (a : Int) : Int := if gOk I.sup.length I.arcs a then redA (atA I a) (atF I pot a) (atT I pot a) else 0
def slackA (r x : Int) (a : Arc) : Bool := !((decide (0 < sgn r) && decide (x ≠ a.low)) || (decide (sgn r < 0) && (decide (x ≠ a.cap) || decide (a.cap = inf))))
def slackK (I : Inst) (x pot : List Int) (k : Nat) : Bool := slackA (redF I pot k) (x.getD k 0) (I.arcs.getD k default)
def slackF (I : Inst) (x pot : List Int) : Int :=
  if fitsF I x ≠ 0 then fitsF I x else if pot.length ≠ I.sup.length then 30 else if (List.range I.arcs.length).all (slackK I x pot) then 0 else 33
theorem atA_get {I : Inst} {k : Nat} {x : Arc} (h : I.arcs[k]? = some x) (ho : okArc I.sup.length x = true) : atA I k = x := by
  have hg : gOk I.sup.length I.arcs (k : Int) = true := by rw [gOk_at (by omega) (by rw [Int.toNat_natCast]; exact h)]; exact ho
  unfold atA gArc
  rw [if_pos hg, Int.toNat_natCast]
  simp [List.getD, h]
end Go.Ql
