/- Part of the proof, Law10. -/
import Derived.Test.YtggblkbecekbdaaZFlow
section
set_option linter.all false
set_option linter.unusedSimpArgs false
set_option linter.unusedVariables false
namespace Go.Ql
open Go Go.RowKit
def onF (side : List Bool) (n : Int) : Bool := decide (0 ≤ n) && side.getD n.toNat false
def isN (m : Int) (n : Int) : Bool := decide (0 ≤ n) && decide (n < m)
def outA (m : Int) (side : List Bool) (a : Arc) : Bool := isN m a.src && isN m a.dst && onF side a.src && !onF side a.dst
def inA (m : Int) (side : List Bool) (a : Arc) : Bool := isN m a.src && isN m a.dst && onF side a.dst && !onF side a.src
def roomAcc (m : Int) (side : List Bool) : List Arc → Int → Option Int
  | [], s => some s
  | a :: l, s => if outA m side a then (if a.cap = inf then none else roomAcc m side l (s + a.cap)) else if inA m side a then roomAcc m side l (s - a.low) else roomAcc m side l s
def roomC (I : Inst) (side : List Bool) : Option Int := roomAcc I.sup.length side I.arcs 0
def roomW (o : Option Int) : Wide := match o with
  | some s => W s
  | none => ⟨0, 0⟩
def needK (side : List Bool) (l : List Int) : Nat → Int
  | 0 => 0
  | k + 1 => needK side l k + (if side.getD k false then l.getD k 0 else 0)
def needF (I : Inst) (side : List Bool) : Int := needK side I.sup I.sup.length
def provesF (I : Inst) (side : List Bool) : Int :=
  if rightF I ≠ 0 then rightF I else if side.length ≠ I.sup.length then 30 else match roomC I side with
    | none => 34
    | some s => if wcmp (W (needF I side)) (W s) ≤ 0 then 34 else 0
theorem onF_nat (side : List Bool) (k : Nat) : onF side (k : Int) = side.getD k false := by simp [onF]
theorem roomAcc_cons (m : Int) (side : List Bool) (a : Arc) (l : List Arc) (s : Int) : roomAcc m side (a :: l) s = if outA m side a then (if a.cap = inf then none else roomAcc m side l (s + a.cap)) else if inA m side a then roomAcc m side l (s - a.low) else roomAcc m side l s := rfl
end Go.Ql
end
section
set_option linter.all false
set_option linter.unusedSimpArgs false
set_option linter.unusedVariables false
namespace Go.Ql
open Go Go.RowKit
def sumTo (f : Nat → Int) : Nat → Int
  | 0 => 0
  | k + 1 => sumTo f k + f k
theorem sumTo_congr {f g : Nat → Int} : ∀ {n : Nat}, (∀ v, v < n → f v = g v) → sumTo f n = sumTo g n
  | 0, _ => rfl
  | n + 1, h => by simp only [sumTo]; rw [sumTo_congr (fun v hv => h v (by omega)), h n (by omega)]
theorem sumTo_add (f g : Nat → Int) : ∀ n, sumTo (fun v => f v + g v) n = sumTo f n + sumTo g n
  | 0 => rfl
  | n + 1 => by simp only [sumTo]; rw [sumTo_add f g n]; omega
theorem sumTo_sub (f g : Nat → Int) : ∀ n, sumTo (fun v => f v - g v) n = sumTo f n - sumTo g n
  | 0 => rfl
  | n + 1 => by simp only [sumTo]; rw [sumTo_sub f g n]; omega
theorem sumTo_zero : ∀ n, sumTo (fun _ => 0) n = 0
  | 0 => rfl
  | n + 1 => by simp only [sumTo, sumTo_zero n]; rfl
theorem sumTo_one {s f : Int} (h0 : 0 ≤ s) : ∀ n : Nat, sumTo (fun v => if s = (v : Int) then f else 0) n = if s < n then f else 0
  | 0 => by simp only [sumTo]; rw [if_neg (by omega)]
  | n + 1 => by
    simp only [sumTo]
    rw [sumTo_one h0 n]
    by_cases h1 : s < n
    · rw [if_pos h1, if_neg (by omega), if_pos (by omega)]; omega
    · by_cases h2 : s = n
      · rw [if_neg h1, if_pos h2, if_pos (by omega)]; omega
      · rw [if_neg h1, if_neg h2, if_neg (by omega)]; omega
theorem flowD_sum (n : Nat) (a : Arc) (f : Int) : sumTo (fun v : Nat => flowD n a f v) n = 0 := by
  cases ho : okArc n a with
  | false => rw [sumTo_congr (g := fun _ => 0) (fun v _ => by simp [flowD, ho]), sumTo_zero]
  | true =>
    obtain ⟨o1, o2, o3, o4⟩ := okArc_iff.1 ho
    rw [sumTo_congr (g := fun v => (if a.src = (v : Int) then f else 0) - (if a.dst = (v : Int) then f else 0)) (fun v _ => by simp [flowD, ho]), sumTo_sub, sumTo_one o1, sumTo_one o3, if_pos o2, if_pos o4]
    omega
theorem netK_sum (n : Nat) (l : List Arc) (x : List Int) : ∀ k, sumTo (fun v : Nat => netK n l x k v) n = 0
  | 0 => by simp only [netK]; exact sumTo_zero n
  | k + 1 => by
    simp only [netK]
    rw [sumTo_add, netK_sum n l x k, flowD_sum]; rfl
theorem netK_bound {n : Int} {l : List Arc} {x : List Int} {v : Int} {B : Int} (hB : 0 ≤ B) (hx : ∀ y ∈ x, -B ≤ y ∧ y ≤ B) : ∀ k : Nat, -(2 * B * k) ≤ netK n l x k v ∧ netK n l x k v ≤ 2 * B * k
  | 0 => by simp [netK]
  | k + 1 => by
    have ih := netK_bound (n := n) (l := l) (v := v) hB hx k
    have hg : -B ≤ x.getD k 0 ∧ x.getD k 0 ≤ B := by
      by_cases hk : k < x.length
      · have := hx _ (List.getElem_mem hk)
        simpa [List.getD, hk] using this
      · simp [List.getD, hk]; omega
    simp only [netK]
    have hd : -(2 * B) ≤ flowD n (l.getD k default) (x.getD k 0) v ∧ flowD n (l.getD k default) (x.getD k 0) v ≤ 2 * B := by
      unfold flowD; (repeat' split) <;> omega
    have e : 2 * B * ((k + 1 : Nat) : Int) = 2 * B * k + 2 * B := by
      rw [Int.natCast_succ, Int.mul_add]; omega
    omega
theorem fitsAll_iff {l : List Arc} {x : List Int} : fitsAll l x = true ↔ ∀ j a, l[j]? = some a → fitF a (x.getD j 0) = true := by
  induction l generalizing x with
  | nil => simp [fitsAll]
  | cons b l ih =>
    simp only [fitsAll, Bool.and_eq_true, ih]
    constructor
    · rintro ⟨h1, h2⟩ j a ha
      cases j with
      | zero =>
        simp at ha; subst ha
        cases x <;> simpa [List.getD] using h1
      | succ j =>
        rw [List.getElem?_cons_succ] at ha
        have := h2 j a ha
        cases x with
        | nil => simpa [List.getD] using this
        | cons y x => simpa [List.getD] using this
    · intro h
      refine ⟨?_, fun j a ha => ?_⟩
      · have := h 0 b (by simp)
        cases x <;> simpa [List.getD] using this
      · have := h (j + 1) a (by simpa using ha)
        cases x with
        | nil => simpa [List.getD] using this
        | cons y x => simpa [List.getD] using this
theorem netOk_iff {I : Inst} {x : List Int} : netOk I x = true ↔ ∀ v, v < I.sup.length → W (netK I.sup.length I.arcs x I.arcs.length v) = W (I.sup.getD v 0) := by
  unfold netOk
  rw [List.all_eq_true]
  simp only [List.mem_range, decide_eq_true_eq]
theorem fitsF_zero {I : Inst} {x : List Int} : fitsF I x = 0 ↔ rightF I = 0 ∧ x.length = I.arcs.length ∧ fitsAll I.arcs x = true ∧ netOk I x = true := by
  have hs := rightF_small' I
  unfold fitsF
  constructor
  · intro h
    split at h
    · rename_i h1; exact absurd h h1
    · rename_i h1
      split at h
      · omega
      · rename_i h2
        split at h
        · omega
        · rename_i h3
          split at h
          · omega
          · rename_i h4
            simp at h1 h2 h3 h4
            exact ⟨h1, h2, h3, h4⟩
  · rintro ⟨h1, h2, h3, h4⟩
    simp [h1, h2, h3, h4]
def A32 (l : List Int) : Prop := ∀ x ∈ l, -2147483648 ≤ x ∧ x ≤ 2147483647
theorem A32.getD {l : List Int} (h : A32 l) (k : Nat) : -2147483648 ≤ l.getD k 0 ∧ l.getD k 0 ≤ 2147483647 := by
  by_cases hk : k < l.length
  · have := h _ (List.getElem_mem hk)
    simpa [List.getD, hk] using this
  · simp [List.getD, hk]
theorem arcsErr_zero' (n : Int) : ∀ (l : List Arc), (∀ a ∈ l, rightArcF a n = 0) → arcsErr n l = 0
  | [], _ => rfl
  | a :: l, h => by simp only [arcsErr, h a (by simp), arcsErr_zero' n l (fun b hb => h b (by simp [hb]))]; simp
theorem supErr_zero' : ∀ (l : List Int) (s : Int), (∀ x ∈ l, -4398046511104 ≤ x ∧ x ≤ 4398046511104) → s + l.sum = 0 → supErr l s = 0
  | [], s, _, h => by simp at h; simp [supErr, h]
  | x :: l, s, hb, h => by
    have := hb x (by simp)
    simp only [supErr]
    rw [if_neg (by omega)]
    exact supErr_zero' l (s + x) (fun y hy => hb y (by simp [hy])) (by rw [List.sum_cons] at h; omega)
theorem right_of {I : Inst} (h1 : I.sup.length ≤ 64) (h2 : I.arcs.length ≤ 256) (h3 : ∀ a ∈ I.arcs, rightArcF a I.sup.length = 0) (h4 : ∀ x ∈ I.sup, -4398046511104 ≤ x ∧ x ≤ 4398046511104) (h5 : I.sup.sum = 0) : rightF I = 0 := by
  unfold rightF
  rw [if_neg (by omega), if_pos (arcsErr_zero' _ _ h3)]
  exact supErr_zero' _ _ h4 (by omega)
theorem sum_map_range (f : Nat → Int) : ∀ n, ((List.range n).map f).sum = sumTo f n
  | 0 => rfl
  | n + 1 => by rw [List.range_succ, List.map_append, List.sum_append, sum_map_range f n]; simp [sumTo]
theorem Arc.Nice.right {m : Int} {a : Arc} (h : a.Nice m) : rightArcF a m = 0 := by
  have := h.s0; have := h.s1; have := h.d0; have := h.d1; have := h.l0; have := h.l1; have := h.c0; have := h.c1; have := h.k0; have := h.k1
  unfold rightArcF
  rw [if_neg (by omega), if_neg (by omega), if_neg (by omega), if_neg (by omega)]
end Go.Ql
end
section
set_option linter.all false
set_option linter.unusedSimpArgs false
set_option linter.unusedVariables false
namespace Go.Ql
open Go Go.RowKit
theorem sum_set (s : List Int) (k : Nat) (y : Int) (hk : k < s.length) : (s.set k y).sum = s.sum - s.getD k 0 + y := by
  induction s generalizing k with
  | nil => simp at hk
  | cons z s ih =>
    cases k with
    | zero => simp; omega
    | succ k =>
      have := ih k (by simpa using hk)
      simp only [List.set_cons_succ, List.sum_cons, this, List.getD_cons_succ]; omega
theorem addAt_sum (s : List Int) (k : Nat) (x : Int) (hk : k < s.length) : (addAt s k x).sum = s.sum + x := by
  unfold addAt; rw [sum_set _ _ _ hk]; omega
theorem supGo_sum {n : Nat} (d : List Int) : ∀ (l : List Arc) (k : Nat) (s : List Int), s.length = n → (∀ a ∈ l, a.Nice n) → (supGo d l k s).sum = s.sum
  | [], _, s, _, _ => rfl
  | a :: l, k, s, hs, hn => by
    have h := hn a (by simp)
    have h1 := h.s0; have h2 := h.s1; have h3 := h.d0; have h4 := h.d1
    rw [supGo, supGo_sum d l (k + 1) _ (by simp [addAt_len, hs]) (fun b hb => hn b (by simp [hb])), addAt_sum _ _ _ (by rw [addAt_len]; omega), addAt_sum _ _ _ (by omega)]
    omega
theorem instF_sum (c d : List Int) : (instF c d).sup.sum = 0 := by
  have hp := nOf_pos d
  have h1 : (sup1 c d).sum = 0 := by
    unfold sup1
    rw [supGo_sum (n := nOf d) d _ 0 _ (by simp) (arcsF_nice c _ (by omega))]
    simp
  unfold instF
  dsimp only
  split
  · rw [addAt_sum _ _ _ (by rw [addAt_len, sup1_len]; omega), addAt_sum _ _ _ (by rw [sup1_len]; omega), h1]; omega
  · exact h1
theorem right_sup {I : Inst} {s : List Int} (hs : s.length = I.sup.length) (h1 : I.sup.length ≤ 64) (h2 : I.arcs.length ≤ 256) (h3 : ∀ a ∈ I.arcs, a.Nice I.sup.length) (h4 : Within 4398046511104 s) (h5 : s.sum = 0) : rightF ⟨s, I.arcs⟩ = 0 :=
  right_of (by dsimp only; omega) h2 (fun a ha => by dsimp only; rw [hs]; exact (h3 a ha).right) (fun x hx => h4 x hx) h5
theorem instF_right (c d : List Int) : rightF (instF c d) = 0 := by
  have l1 := instF_sup c d
  have l3 := nOf_le d
  have l4 := instF_arcs c d
  exact right_sup rfl (by omega) (by omega) (fun a ha => by rw [l1]; exact instF_nice c d a ha) ((instF_within c d).more (by omega)) (instF_sum c d)
end Go.Ql
end
