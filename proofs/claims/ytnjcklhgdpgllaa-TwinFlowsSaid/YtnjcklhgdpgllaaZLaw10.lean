/- Part of the proof, Law10. -/
import Derived.Test.YtnjcklhgdpgllaaZFlow
section
set_option linter.all false
set_option linter.unusedSimpArgs false
set_option linter.unusedVariables false
namespace Go.Ql
open Go Go.RowKit
def onF (side : List Bool) (n : Int) : Bool := decide (0 ≤ n) && side.getD n.toNat false
def isN (m : Int) (n : Int) : Bool := decide (0 ≤ n) && decide (n < m)
def outA (m : Int) (side : List Bool) (a : Arc) : Bool := isN m a.src && isN m a.dst && onF side a.src && !onF side a.dst
def inA (m : Int) (side : List Bool) (a : Arc) : Bool := isN m a.src && isN m a.dst && onF side a.dst && !onF side a.src
def roomAcc (m : Int) (side : List Bool) : List Arc → Int → Option Int
  | [], s => some s
  | a :: l, s => if outA m side a then (if a.cap = inf then none else roomAcc m side l (s + a.cap)) else if inA m side a then roomAcc m side l (s - a.low) else roomAcc m side l s
def roomC (I : Inst) (side : List Bool) : Option Int := roomAcc I.sup.length side I.arcs 0
def roomW (o : Option Int) : Wide := match o with
  | some s => W s
  | none => ⟨0, 0⟩
def needK (side : List Bool) (l : List Int) : Nat → Int
  | 0 => 0
  | k + 1 => needK side l k + (if side.getD k false then l.getD k 0 else 0)
def needF (I : Inst) (side : List Bool) : Int := needK side I.sup I.sup.length
theorem onF_nat (side : List Bool) (k : Nat) : onF side (k : Int) = side.getD k false := by simp [onF]
theorem roomAcc_cons (m : Int) (side : List Bool) (a : Arc) (l : List Arc) (s : Int) : roomAcc m side (a :: l) s = if outA m side a then (if a.cap = inf then none else roomAcc m side l (s + a.cap)) else if inA m side a then roomAcc m side l (s - a.low) else roomAcc m side l s := rfl
end Go.Ql
end
section
set_option linter.all false
set_option linter.unusedSimpArgs false
set_option linter.unusedVariables false
namespace Go.Ql
open Go Go.RowKit
def sumTo (f : Nat → Int) : Nat → Int
  | 0 => 0
  | k + 1 => sumTo f k + f k
theorem flowD_add (n : Int) (a : Arc) (f g v : Int) : flowD n a (f + g) v = flowD n a f v + flowD n a g v := by
  unfold flowD
  (repeat' split) <;> omega
theorem fitsAll_iff {l : List Arc} {x : List Int} : fitsAll l x = true ↔ ∀ j a, l[j]? = some a → fitF a (x.getD j 0) = true := by
  induction l generalizing x with
  | nil => simp [fitsAll]
  | cons b l ih =>
    simp only [fitsAll, Bool.and_eq_true, ih]
    constructor
    · rintro ⟨h1, h2⟩ j a ha
      cases j with
      | zero =>
        simp at ha; subst ha
        cases x <;> simpa [List.getD] using h1
      | succ j =>
        rw [List.getElem?_cons_succ] at ha
        have := h2 j a ha
        cases x with
        | nil => simpa [List.getD] using this
        | cons y x => simpa [List.getD] using this
    · intro h
      refine ⟨?_, fun j a ha => ?_⟩
      · have := h 0 b (by simp)
        cases x <;> simpa [List.getD] using this
      · have := h (j + 1) a (by simpa using ha)
        cases x with
        | nil => simpa [List.getD] using this
        | cons y x => simpa [List.getD] using this
def A32 (l : List Int) : Prop := ∀ x ∈ l, -2147483648 ≤ x ∧ x ≤ 2147483647
theorem A32.getD {l : List Int} (h : A32 l) (k : Nat) : -2147483648 ≤ l.getD k 0 ∧ l.getD k 0 ≤ 2147483647 := by
  by_cases hk : k < l.length
  · have := h _ (List.getElem_mem hk)
    simpa [List.getD, hk] using this
  · simp [List.getD, hk]
theorem arcsErr_zero' (n : Int) : ∀ (l : List Arc), (∀ a ∈ l, rightArcF a n = 0) → arcsErr n l = 0
  | [], _ => rfl
  | a :: l, h => by simp only [arcsErr, h a (by simp), arcsErr_zero' n l (fun b hb => h b (by simp [hb]))]; simp
theorem supErr_zero' : ∀ (l : List Int) (s : Int), (∀ x ∈ l, -4398046511104 ≤ x ∧ x ≤ 4398046511104) → s + l.sum = 0 → supErr l s = 0
  | [], s, _, h => by simp at h; simp [supErr, h]
  | x :: l, s, hb, h => by
    have := hb x (by simp)
    simp only [supErr]
    rw [if_neg (by omega)]
    exact supErr_zero' l (s + x) (fun y hy => hb y (by simp [hy])) (by rw [List.sum_cons] at h; omega)
theorem right_of {I : Inst} (h1 : I.sup.length ≤ 64) (h2 : I.arcs.length ≤ 256) (h3 : ∀ a ∈ I.arcs, rightArcF a I.sup.length = 0) (h4 : ∀ x ∈ I.sup, -4398046511104 ≤ x ∧ x ≤ 4398046511104) (h5 : I.sup.sum = 0) : rightF I = 0 := by
  unfold rightF
  rw [if_neg (by omega), if_pos (arcsErr_zero' _ _ h3)]
  exact supErr_zero' _ _ h4 (by omega)
theorem sum_map_range (f : Nat → Int) : ∀ n, ((List.range n).map f).sum = sumTo f n
  | 0 => rfl
  | n + 1 => by rw [List.range_succ, List.map_append, List.sum_append, sum_map_range f n]; simp [sumTo]
theorem Arc.Nice.right {m : Int} {a : Arc} (h : a.Nice m) : rightArcF a m = 0 := by
  have := h.s0; have := h.s1; have := h.d0; have := h.d1; have := h.l0; have := h.l1; have := h.c0; have := h.c1; have := h.k0; have := h.k1
  unfold rightArcF
  rw [if_neg (by omega), if_neg (by omega), if_neg (by omega), if_neg (by omega)]
end Go.Ql
end
section
set_option linter.all false
set_option linter.unusedSimpArgs false
set_option linter.unusedVariables false
namespace Go.Ql
open Go Go.RowKit
theorem sum_set (s : List Int) (k : Nat) (y : Int) (hk : k < s.length) : (s.set k y).sum = s.sum - s.getD k 0 + y := by
  induction s generalizing k with
  | nil => simp at hk
  | cons z s ih =>
    cases k with
    | zero => simp; omega
    | succ k =>
      have := ih k (by simpa using hk)
      simp only [List.set_cons_succ, List.sum_cons, this, List.getD_cons_succ]; omega
theorem addAt_sum (s : List Int) (k : Nat) (x : Int) (hk : k < s.length) : (addAt s k x).sum = s.sum + x := by
  unfold addAt; rw [sum_set _ _ _ hk]; omega
theorem supGo_sum {n : Nat} (d : List Int) : ∀ (l : List Arc) (k : Nat) (s : List Int), s.length = n → (∀ a ∈ l, a.Nice n) → (supGo d l k s).sum = s.sum
  | [], _, s, _, _ => rfl
  | a :: l, k, s, hs, hn => by
    have h := hn a (by simp)
    have h1 := h.s0; have h2 := h.s1; have h3 := h.d0; have h4 := h.d1
    rw [supGo, supGo_sum d l (k + 1) _ (by simp [addAt_len, hs]) (fun b hb => hn b (by simp [hb])), addAt_sum _ _ _ (by rw [addAt_len]; omega), addAt_sum _ _ _ (by omega)]
    omega
theorem instF_sum (c d : List Int) : (instF c d).sup.sum = 0 := by
  have hp := nOf_pos d
  have h1 : (sup1 c d).sum = 0 := by
    unfold sup1
    rw [supGo_sum (n := nOf d) d _ 0 _ (by simp) (arcsF_nice c _ (by omega))]
    simp
  unfold instF
  dsimp only
  split
  · rw [addAt_sum _ _ _ (by rw [addAt_len, sup1_len]; omega), addAt_sum _ _ _ (by rw [sup1_len]; omega), h1]; omega
  · exact h1
end Go.Ql
end
