/-
  PRICES, PLAINLY: what the package price computes. No program in sight.
-/
import Derived.Test.YtnjcklhgdpgllaaFlow
set_option linter.all false
set_option linter.unusedSimpArgs false
set_option linter.unusedVariables false
namespace Go.Ql
open Go Go.RowKit Go.Vc

def redA (a : Arc) (f t : Int) : Int := a.cost - f + t
def sgn (r : Int) : Int := wcmp (W r) (W 0)
def atA (I : Inst) (a : Int) : Arc := gArc I.sup.length I.arcs a
def atF (I : Inst) (pot : List Int) (a : Int) : Int := if gOk I.sup.length I.arcs a then pot.getD (atA I a).src.toNat 0 else 0
def atT (I : Inst) (pot : List Int) (a : Int) : Int := if gOk I.sup.length I.arcs a then pot.getD (atA I a).dst.toNat 0 else 0
def redF (I : Inst) (pot : List Int) (a : Int) : Int := if gOk I.sup.length I.arcs a then redA (atA I a) (atF I pot a) (atT I pot a) else 0
def slackA (r x : Int) (a : Arc) : Bool := !((decide (0 < sgn r) && decide (x ≠ a.low)) || (decide (sgn r < 0) && (decide (x ≠ a.cap) || decide (a.cap = inf))))
def slackK (I : Inst) (x pot : List Int) (k : Nat) : Bool := slackA (redF I pot k) (x.getD k 0) (I.arcs.getD k default)
def slackF (I : Inst) (x pot : List Int) : Int :=
  if fitsF I x ≠ 0 then fitsF I x else if pot.length ≠ I.sup.length then 30 else if (List.range I.arcs.length).all (slackK I x pot) then 0 else 33
def boundS (l pot : List Int) : Nat → Int
  | 0 => 0
  | k + 1 => boundS l pot k + l.getD k 0 * pot.getD k 0
def potR (pot : List Int) (n : Int) : Int := if 0 ≤ n then pot.getD n.toNat 0 else 0
def redP (pot : List Int) (a : Arc) : Int := redA a (potR pot a.src) (potR pot a.dst)
def boundAcc (n : Int) (pot : List Int) : List Arc → Int → Option Int
  | [], s => some s
  | a :: l, s => if okArc n a then (if sgn (redP pot a) < 0 then if a.cap = inf then none else boundAcc n pot l (s + a.cap * redP pot a) else boundAcc n pot l (s + a.low * redP pot a)) else boundAcc n pot l s
def boundF (I : Inst) (pot : List Int) : Option Int := boundAcc I.sup.length pot I.arcs (boundS I.sup pot I.sup.length)
def boundRA (n : Int) (pot : List Int) : List Arc → Int → Option Int
  | [], s => some s
  | a :: l, s => if okArc n a ∧ sgn (redP pot a) < 0 then (if a.cap = inf then none else boundRA n pot l (s + a.cap * redP pot a)) else boundRA n pot l (s + a.low * redP pot a)
def boundR (I : Inst) (pot : List Int) : Option Int := boundRA I.sup.length pot I.arcs (boundS I.sup pot I.sup.length)
def boundW (o : Option Int) : Wide := match o with | none => ⟨0, 0⟩ | some s => W s
def shiftF (n : Int) : List Int → List Int → Option (List Int)
  | out, [] => some out
  | out, p :: l => if I64 (p + n) then shiftF n (out ++ [p + n]) l else none
def shOk (n : Int) (l : List Int) : Prop := ∀ p ∈ l, I64 (p + n)
theorem sgn_zero : sgn 0 = 0 := by decide
theorem atA_get {I : Inst} {k : Nat} {x : Arc} (h : I.arcs[k]? = some x) (ho : okArc I.sup.length x = true) : atA I k = x := by
  have hg : gOk I.sup.length I.arcs (k : Int) = true := by rw [gOk_at (by omega) (by rw [Int.toNat_natCast]; exact h)]; exact ho
  unfold atA gArc
  rw [if_pos hg, Int.toNat_natCast]
  simp [List.getD, h]
theorem bound_right {n : Int} {pot : List Int} : ∀ (l : List Arc) (s : Int), (∀ a ∈ l, okArc n a = true) → boundRA n pot l s = boundAcc n pot l s
  | [], s, _ => rfl
  | a :: l, s, h => by
    have ha := h a (by simp)
    have ih := fun s => bound_right (n := n) (pot := pot) l s (fun b hb => h b (by simp [hb]))
    simp only [boundRA, boundAcc, ha, if_true, true_and, ih]
theorem bound_eq {I : Inst} {pot : List Int} (h : rightF I = 0) : boundR I pot = boundF I pot := bound_right _ _ (fun a ha => (rightF_arc h ha).1)
theorem slackF_small (I : Inst) (x pot : List Int) : 0 ≤ slackF I x pot ∧ slackF I x pot ≤ 65535 := by
  have h := fitsF_small I x
  unfold slackF
  split
  · omega
  · split
    · omega
    · split <;> omega
theorem shiftF_iff {n : Int} : ∀ (l o : List Int), shiftF n o l = if l.all (fun p => decide (I64 (p + n))) then some (o ++ l.map (· + n)) else none
  | [], o => by simp [shiftF]
  | p :: l, o => by
    unfold shiftF
    by_cases h : I64 (p + n)
    · rw [if_pos h, shiftF_iff l]; simp [h]
    · rw [if_neg h]; simp [h]
end Go.Ql
