/- Part of the proof, Law10. -/
import Derived.Test.YtggblkbecekbdaaZFlow
section
set_option linter.all false
set_option linter.unusedSimpArgs false
set_option linter.unusedVariables false
namespace Go.Ql
open Go Go.RowKit
def onF (side : List Bool) (n : Int) : Bool := decide (0 ≤ n) && side.getD n.toNat false
def isN (m : Int) (n : Int) : Bool := decide (0 ≤ n) && decide (n < m)
def outA (m : Int) (side : List Bool) (a : Arc) : Bool := isN m a.src && isN m a.dst && onF side a.src && !onF side a.dst
def inA (m : Int) (side : List Bool) (a : Arc) : Bool := isN m a.src && isN m a.dst && onF side a.dst && !onF side a.src
def roomAcc (m : Int) (side : List Bool) : List Arc → Int → Option Int
  | [], s => some s
  | a :: l, s => if outA m side a then (if a.cap = inf then none else roomAcc m side l (s + a.cap)) else if inA m side a then roomAcc m side l (s - a.low) else roomAcc m side l s
def roomC (I : Inst) (side : List Bool) : Option Int := roomAcc I.sup.length side I.arcs 0
def roomW (o : Option Int) : Wide := match o with
  | some s => W s
  | none => ⟨0, 0⟩
def needK (side : List Bool) (l : List Int) : Nat → Int
  | 0 => 0
  | k + 1 => needK side l k + (if side.getD k false then l.getD k 0 else 0)
def needF (I : Inst) (side : List Bool) : Int := needK side I.sup I.sup.length
def provesF (I : Inst) (side : List Bool) : Int :=
  if rightF I ≠ 0 then rightF I else if side.length ≠ I.sup.length then 30 else match roomC I side with
    | none => 34
    | some s => if wcmp (W (needF I side)) (W s) ≤ 0 then 34 else 0
def wholeF (e : List Int) (n : Nat) : List Bool := marksF e n ++ List.replicate (n - (marksF e n).length) false
theorem onF_nat (side : List Bool) (k : Nat) : onF side (k : Int) = side.getD k false := by simp [onF]
theorem roomAcc_cons (m : Int) (side : List Bool) (a : Arc) (l : List Arc) (s : Int) : roomAcc m side (a :: l) s = if outA m side a then (if a.cap = inf then none else roomAcc m side l (s + a.cap)) else if inA m side a then roomAcc m side l (s - a.low) else roomAcc m side l s := rfl
end Go.Ql
end
section
set_option linter.all false
set_option linter.unusedSimpArgs false
set_option linter.unusedVariables false
namespace Go.Ql
open Go Go.RowKit
def sumTo (f : Nat → Int) : Nat → Int
  | 0 => 0
  | k + 1 => sumTo f k + f k
theorem sumTo_congr {f g : Nat → Int} : ∀ {n : Nat}, (∀ v, v < n → f v = g v) → sumTo f n = sumTo g n
  | 0, _ => rfl
  | n + 1, h => by simp only [sumTo]; rw [sumTo_congr (fun v hv => h v (by omega)), h n (by omega)]
theorem sumTo_add (f g : Nat → Int) : ∀ n, sumTo (fun v => f v + g v) n = sumTo f n + sumTo g n
  | 0 => rfl
  | n + 1 => by simp only [sumTo]; rw [sumTo_add f g n]; omega
theorem sumTo_sub (f g : Nat → Int) : ∀ n, sumTo (fun v => f v - g v) n = sumTo f n - sumTo g n
  | 0 => rfl
  | n + 1 => by simp only [sumTo]; rw [sumTo_sub f g n]; omega
theorem sumTo_zero : ∀ n, sumTo (fun _ => 0) n = 0
  | 0 => rfl
  | n + 1 => by simp only [sumTo, sumTo_zero n]; rfl
theorem sumTo_one {s f : Int} (h0 : 0 ≤ s) : ∀ n : Nat, sumTo (fun v => if s = (v : Int) then f else 0) n = if s < n then f else 0
  | 0 => by simp only [sumTo]; rw [if_neg (by omega)]
  | n + 1 => by
    simp only [sumTo]
    rw [sumTo_one h0 n]
    by_cases h1 : s < n
    · rw [if_pos h1, if_neg (by omega), if_pos (by omega)]; omega
    · by_cases h2 : s = n
      · rw [if_neg h1, if_pos h2, if_pos (by omega)]; omega
      · rw [if_neg h1, if_neg h2, if_neg (by omega)]; omega
theorem netK_bound {n : Int} {l : List Arc} {x : List Int} {v : Int} {B : Int} (hB : 0 ≤ B) (hx : ∀ y ∈ x, -B ≤ y ∧ y ≤ B) : ∀ k : Nat, -(2 * B * k) ≤ netK n l x k v ∧ netK n l x k v ≤ 2 * B * k
  | 0 => by simp [netK]
  | k + 1 => by
    have ih := netK_bound (n := n) (l := l) (v := v) hB hx k
    have hg : -B ≤ x.getD k 0 ∧ x.getD k 0 ≤ B := by
      by_cases hk : k < x.length
      · have := hx _ (List.getElem_mem hk)
        simpa [List.getD, hk] using this
      · simp [List.getD, hk]; omega
    simp only [netK]
    have hd : -(2 * B) ≤ flowD n (l.getD k default) (x.getD k 0) v ∧ flowD n (l.getD k default) (x.getD k 0) v ≤ 2 * B := by
      unfold flowD; (repeat' split) <;> omega
    have e : 2 * B * ((k + 1 : Nat) : Int) = 2 * B * k + 2 * B := by
      rw [Int.natCast_succ, Int.mul_add]; omega
    omega
theorem fitsAll_iff {l : List Arc} {x : List Int} : fitsAll l x = true ↔ ∀ j a, l[j]? = some a → fitF a (x.getD j 0) = true := by
  induction l generalizing x with
  | nil => simp [fitsAll]
  | cons b l ih =>
    simp only [fitsAll, Bool.and_eq_true, ih]
    constructor
    · rintro ⟨h1, h2⟩ j a ha
      cases j with
      | zero =>
        simp at ha; subst ha
        cases x <;> simpa [List.getD] using h1
      | succ j =>
        rw [List.getElem?_cons_succ] at ha
        have := h2 j a ha
        cases x with
        | nil => simpa [List.getD] using this
        | cons y x => simpa [List.getD] using this
    · intro h
      refine ⟨?_, fun j a ha => ?_⟩
      · have := h 0 b (by simp)
        cases x <;> simpa [List.getD] using this
      · have := h (j + 1) a (by simpa using ha)
        cases x with
        | nil => simpa [List.getD] using this
        | cons y x => simpa [List.getD] using this
theorem netOk_iff {I : Inst} {x : List Int} : netOk I x = true ↔ ∀ v, v < I.sup.length → W (netK I.sup.length I.arcs x I.arcs.length v) = W (I.sup.getD v 0) := by
  unfold netOk
  rw [List.all_eq_true]
  simp only [List.mem_range, decide_eq_true_eq]
theorem fitsF_zero {I : Inst} {x : List Int} : fitsF I x = 0 ↔ rightF I = 0 ∧ x.length = I.arcs.length ∧ fitsAll I.arcs x = true ∧ netOk I x = true := by
  have hs := rightF_small' I
  unfold fitsF
  constructor
  · intro h
    split at h
    · rename_i h1; exact absurd h h1
    · rename_i h1
      split at h
      · omega
      · rename_i h2
        split at h
        · omega
        · rename_i h3
          split at h
          · omega
          · rename_i h4
            simp at h1 h2 h3 h4
            exact ⟨h1, h2, h3, h4⟩
  · rintro ⟨h1, h2, h3, h4⟩
    simp [h1, h2, h3, h4]
def A32 (l : List Int) : Prop := ∀ x ∈ l, -2147483648 ≤ x ∧ x ≤ 2147483647
theorem A32.getD {l : List Int} (h : A32 l) (k : Nat) : -2147483648 ≤ l.getD k 0 ∧ l.getD k 0 ≤ 2147483647 := by
  by_cases hk : k < l.length
  · have := h _ (List.getElem_mem hk)
    simpa [List.getD, hk] using this
  · simp [List.getD, hk]
theorem arcsErr_zero' (n : Int) : ∀ (l : List Arc), (∀ a ∈ l, rightArcF a n = 0) → arcsErr n l = 0
  | [], _ => rfl
  | a :: l, h => by simp only [arcsErr, h a (by simp), arcsErr_zero' n l (fun b hb => h b (by simp [hb]))]; simp
theorem supErr_zero' : ∀ (l : List Int) (s : Int), (∀ x ∈ l, -4398046511104 ≤ x ∧ x ≤ 4398046511104) → s + l.sum = 0 → supErr l s = 0
  | [], s, _, h => by simp at h; simp [supErr, h]
  | x :: l, s, hb, h => by
    have := hb x (by simp)
    simp only [supErr]
    rw [if_neg (by omega)]
    exact supErr_zero' l (s + x) (fun y hy => hb y (by simp [hy])) (by rw [List.sum_cons] at h; omega)
theorem right_of {I : Inst} (h1 : I.sup.length ≤ 64) (h2 : I.arcs.length ≤ 256) (h3 : ∀ a ∈ I.arcs, rightArcF a I.sup.length = 0) (h4 : ∀ x ∈ I.sup, -4398046511104 ≤ x ∧ x ≤ 4398046511104) (h5 : I.sup.sum = 0) : rightF I = 0 := by
  unfold rightF
  rw [if_neg (by omega), if_pos (arcsErr_zero' _ _ h3)]
  exact supErr_zero' _ _ h4 (by omega)
theorem Arc.Nice.right {m : Int} {a : Arc} (h : a.Nice m) : rightArcF a m = 0 := by
  have := h.s0; have := h.s1; have := h.d0; have := h.d1; have := h.l0; have := h.l1; have := h.c0; have := h.c1; have := h.k0; have := h.k1
  unfold rightArcF
  rw [if_neg (by omega), if_neg (by omega), if_neg (by omega), if_neg (by omega)]
end Go.Ql
end
section
set_option linter.all false
set_option linter.unusedSimpArgs false
set_option linter.unusedVariables false
namespace Go.Ql
open Go Go.RowKit
theorem sum_set (s : List Int) (k : Nat) (y : Int) (hk : k < s.length) : (s.set k y).sum = s.sum - s.getD k 0 + y := by
  induction s generalizing k with
  | nil => simp at hk
  | cons z s ih =>
    cases k with
    | zero => simp; omega
    | succ k =>
      have := ih k (by simpa using hk)
      simp only [List.set_cons_succ, List.sum_cons, this, List.getD_cons_succ]; omega
theorem addAt_sum (s : List Int) (k : Nat) (x : Int) (hk : k < s.length) : (addAt s k x).sum = s.sum + x := by
  unfold addAt; rw [sum_set _ _ _ hk]; omega
theorem supGo_sum {n : Nat} (d : List Int) : ∀ (l : List Arc) (k : Nat) (s : List Int), s.length = n → (∀ a ∈ l, a.Nice n) → (supGo d l k s).sum = s.sum
  | [], _, s, _, _ => rfl
  | a :: l, k, s, hs, hn => by
    have h := hn a (by simp)
    have h1 := h.s0; have h2 := h.s1; have h3 := h.d0; have h4 := h.d1
    rw [supGo, supGo_sum d l (k + 1) _ (by simp [addAt_len, hs]) (fun b hb => hn b (by simp [hb])), addAt_sum _ _ _ (by rw [addAt_len]; omega), addAt_sum _ _ _ (by omega)]
    omega
theorem instF_sum (c d : List Int) : (instF c d).sup.sum = 0 := by
  have hp := nOf_pos d
  have h1 : (sup1 c d).sum = 0 := by
    unfold sup1
    rw [supGo_sum (n := nOf d) d _ 0 _ (by simp) (arcsF_nice c _ (by omega))]
    simp
  unfold instF
  dsimp only
  split
  · rw [addAt_sum _ _ _ (by rw [addAt_len, sup1_len]; omega), addAt_sum _ _ _ (by rw [sup1_len]; omega), h1]; omega
  · exact h1
theorem right_sup {I : Inst} {s : List Int} (hs : s.length = I.sup.length) (h1 : I.sup.length ≤ 64) (h2 : I.arcs.length ≤ 256) (h3 : ∀ a ∈ I.arcs, a.Nice I.sup.length) (h4 : Within 4398046511104 s) (h5 : s.sum = 0) : rightF ⟨s, I.arcs⟩ = 0 :=
  right_of (by dsimp only; omega) h2 (fun a ha => by dsimp only; rw [hs]; exact (h3 a ha).right) (fun x hx => h4 x hx) h5
theorem instF_right (c d : List Int) : rightF (instF c d) = 0 := by
  have l1 := instF_sup c d
  have l3 := nOf_le d
  have l4 := instF_arcs c d
  exact right_sup rfl (by omega) (by omega) (fun a ha => by rw [l1]; exact instF_nice c d a ha) ((instF_within c d).more (by omega)) (instF_sum c d)
theorem roomAcc_app (m : Int) (side : List Bool) : ∀ (l r : List Arc) (s : Int), roomAcc m side (l ++ r) s = (roomAcc m side l s).bind (roomAcc m side r)
  | [], r, s => by simp [roomAcc]
  | a :: l, r, s => by
    rw [List.cons_append, roomAcc_cons, roomAcc_cons]
    split
    · split
      · rfl
      · exact roomAcc_app m side l r _
    · split
      · exact roomAcc_app m side l r _
      · exact roomAcc_app m side l r _
theorem needK_sumTo (side : List Bool) (l : List Int) : ∀ k, needK side l k = sumTo (fun v => if side.getD v false then l.getD v 0 else 0) k
  | 0 => rfl
  | k + 1 => by simp only [needK, sumTo, needK_sumTo side l k]
def crossD (m : Int) (side : List Bool) (a : Arc) (f : Int) : Int := (if outA m side a then f else 0) - (if inA m side a then f else 0)
def crossK (m : Int) (side : List Bool) (l : List Arc) (x : List Int) : Nat → Int
  | 0 => 0
  | k + 1 => crossK m side l x k + crossD m side (l.getD k default) (x.getD k 0)
theorem sumTo_pick {s f : Int} (p : Nat → Bool) (h0 : 0 ≤ s) : ∀ n : Nat, s < n → sumTo (fun v => if p v then (if s = (v : Int) then f else 0) else 0) n = if p s.toNat then f else 0 := by
  intro n hn
  have : sumTo (fun v => if p v then (if s = (v : Int) then f else 0) else 0) n = sumTo (fun v => if s = (v : Int) then (if p s.toNat then f else 0) else 0) n := by
    refine sumTo_congr fun v hv => ?_
    by_cases e : s = (v : Int)
    · have : s.toNat = v := by omega
      simp [e, this]
    · simp [e]
  rw [this, sumTo_one h0, if_pos hn]
theorem flowD_cross {n : Nat} {side : List Bool} {a : Arc} (f : Int) : sumTo (fun v : Nat => if side.getD v false then flowD n a f v else 0) n = crossD n side a f := by
  cases ho : okArc n a with
  | false =>
    have hz : ∀ v : Nat, (if side.getD v false then flowD n a f v else 0) = 0 := fun v => by simp [flowD, ho]
    rw [sumTo_congr (g := fun _ => 0) (fun v _ => hz v), sumTo_zero]
    have : isN (n : Int) a.src = false ∨ isN (n : Int) a.dst = false := by
      unfold okArc at ho
      unfold isN
      cases h1 : (decide (0 ≤ a.src) && decide (a.src < (n : Int))) <;> simp_all
    unfold crossD outA inA
    rcases this with h | h <;> simp [h]
  | true =>
    obtain ⟨o1, o2, o3, o4⟩ := okArc_iff.1 ho
    rw [sumTo_congr (g := fun v => (if side.getD v false then (if a.src = (v : Int) then f else 0) else 0) - (if side.getD v false then (if a.dst = (v : Int) then f else 0) else 0)) (fun v _ => by
      simp only [flowD, ho, if_true]
      cases side.getD v false <;> simp), sumTo_sub, sumTo_pick (fun v => side.getD v false) o1 n o2, sumTo_pick (fun v => side.getD v false) o3 n o4]
    unfold crossD outA inA isN onF
    simp only [o1, o2, o3, o4, decide_true, Bool.true_and]
    cases side.getD a.src.toNat false <;> cases side.getD a.dst.toNat false <;> simp
theorem cross_net (n : Nat) (side : List Bool) (l : List Arc) (x : List Int) : ∀ k, sumTo (fun v : Nat => if side.getD v false then netK n l x k v else 0) n = crossK n side l x k
  | 0 => by
    simp only [netK, crossK]
    rw [sumTo_congr (g := fun _ => 0) (fun v _ => by simp), sumTo_zero]
  | k + 1 => by
    simp only [crossK]
    rw [← cross_net n side l x k, ← flowD_cross, ← sumTo_add]
    refine sumTo_congr fun v _ => ?_
    simp only [netK]
    cases side.getD v false <;> simp
theorem fits_net {I : Inst} {x : List Int} (hl : I.arcs.length ≤ 1000) (hx : A64 x) (hs : Within 4398046511104 I.sup) (h : fitsF I x = 0) : ∀ v, v < I.sup.length → netK I.sup.length I.arcs x I.arcs.length v = I.sup.getD v 0 := by
  intro v hv
  have hn := netOk_iff.1 (fitsF_zero.1 h).2.2.2 v hv
  have hb := netK_bound (n := I.sup.length) (l := I.arcs) (x := x) (v := v) (B := 9223372036854775808) (by omega) (fun y hy => by have := hx y hy; unfold I64 at this; omega) I.arcs.length
  have hs' := hs.getD (by omega) v
  refine W_inj ?_ ?_ hn
  · unfold I128; omega
  · unfold I128; omega
theorem fits_need {I : Inst} {x : List Int} (side : List Bool) (hl : I.arcs.length ≤ 1000) (hx : A64 x) (hs : Within 4398046511104 I.sup) (h : fitsF I x = 0) : crossK I.sup.length side I.arcs x I.arcs.length = needF I side := by
  rw [← cross_net, needF, needK_sumTo]
  refine sumTo_congr fun v hv => ?_
  rw [fits_net hl hx hs h v hv]
theorem roomAcc_some {m : Int} {side : List Bool} {a : Arc} {s t : Int} (h : roomAcc m side [a] s = some t) : (outA m side a = true ∧ a.cap ≠ inf ∧ t = s + a.cap) ∨ (outA m side a = false ∧ inA m side a = true ∧ t = s - a.low) ∨ (outA m side a = false ∧ inA m side a = false ∧ t = s) := by
  rw [roomAcc_cons] at h
  simp only [roomAcc] at h
  cases ho : outA m side a with
  | true =>
    rw [ho] at h
    simp only [if_true] at h
    split at h
    · cases h
    · rename_i hc; cases h; exact .inl ⟨rfl, hc, rfl⟩
  | false =>
    rw [ho] at h
    simp only [Bool.false_eq_true, if_false] at h
    cases hi : inA m side a with
    | true => rw [hi] at h; simp only [if_true] at h; cases h; exact .inr (.inl ⟨rfl, rfl, rfl⟩)
    | false => rw [hi] at h; simp only [Bool.false_eq_true, if_false] at h; cases h; exact .inr (.inr ⟨rfl, rfl, rfl⟩)
theorem out_not_in {m : Int} {side : List Bool} {a : Arc} (h : outA m side a = true) : inA m side a = false := by
  unfold outA at h; unfold inA
  cases h1 : isN m a.src <;> cases h2 : isN m a.dst <;> cases h3 : onF side a.src <;> cases h4 : onF side a.dst <;> simp_all
theorem cross_room {m : Int} {side : List Bool} {l : List Arc} {x : List Int} (hf : ∀ j a, l[j]? = some a → fitF a (x.getD j 0) = true) : ∀ k, k ≤ l.length → ∀ t, roomAcc m side (l.take k) 0 = some t → crossK m side l x k ≤ t
  | 0, _, t, h => by simp [roomAcc] at h; subst h; simp [crossK]
  | k + 1, hk, t, h => by
    have ha := List.getElem?_eq_getElem (show k < l.length by omega)
    rw [take_get ha, roomAcc_app] at h
    cases h1 : roomAcc m side (l.take k) 0 with
    | none => rw [h1] at h; cases h
    | some u =>
      rw [h1] at h
      have ih := cross_room hf k (by omega) u h1
      have hfa := hf k _ ha
      have hd : l.getD k default = l[k] := by simp [List.getD, ha]
      unfold fitF at hfa
      simp only [Bool.and_eq_true, Bool.or_eq_true, decide_eq_true_eq] at hfa
      simp only [crossK, hd, crossD]
      rcases roomAcc_some h with ⟨h2, h3, h4⟩ | ⟨h2, h3, h4⟩ | ⟨h2, h3, h4⟩
      · rw [h2, out_not_in h2]
        simp only [if_true, Bool.false_eq_true, if_false]
        rcases hfa.2 with h5 | h5
        · exact absurd h5 h3
        · omega
      · rw [h2, h3]
        simp only [if_true, Bool.false_eq_true, if_false]
        omega
      · rw [h2, h3]
        simp only [Bool.false_eq_true, if_false]
        omega
theorem room_bound {m : Int} {side : List Bool} {l : List Arc} (hb : ∀ a ∈ l, (0 ≤ a.low ∧ a.low ≤ 4398046511104) ∧ (a.cap = inf ∨ 0 ≤ a.cap ∧ a.cap ≤ 4398046511104)) : ∀ k, k ≤ l.length → ∀ t, roomAcc m side (l.take k) 0 = some t → -(4398046511104 * (k : Int)) ≤ t ∧ t ≤ 4398046511104 * (k : Int)
  | 0, _, t, h => by simp [roomAcc] at h; subst h; simp
  | k + 1, hk, t, h => by
    have ha := List.getElem?_eq_getElem (show k < l.length by omega)
    rw [take_get ha, roomAcc_app] at h
    cases h1 : roomAcc m side (l.take k) 0 with
    | none => rw [h1] at h; cases h
    | some u =>
      rw [h1] at h
      have ih := room_bound hb k (by omega) u h1
      have hfa := hb _ (List.getElem_mem (show k < l.length by omega))
      rcases roomAcc_some h with ⟨h2, h3, h4⟩ | ⟨h2, h3, h4⟩ | ⟨h2, h3, h4⟩
      · rcases hfa.2 with h5 | h5
        · exact absurd h5 h3
        · omega
      · omega
      · omega
theorem needK_bound {side : List Bool} {s : List Int} {b : Int} (hb : 0 ≤ b) (h : Within b s) : ∀ k : Nat, -(b * k) ≤ needK side s k ∧ needK side s k ≤ b * k
  | 0 => by simp [needK]
  | k + 1 => by
    have ih := needK_bound (side := side) hb h k
    have hg := h.getD hb k
    have e : b * ((k + 1 : Nat) : Int) = b * k + b := by rw [Int.natCast_succ, Int.mul_add]; omega
    simp only [needK]
    split <;> omega
theorem arcs_bound {I : Inst} (hr : rightF I = 0) : ∀ a ∈ I.arcs, (0 ≤ a.low ∧ a.low ≤ 4398046511104) ∧ (a.cap = inf ∨ 0 ≤ a.cap ∧ a.cap ≤ 4398046511104) := fun a ha => by
  have h := rightF_arc hr ha
  obtain ⟨_, h1, _⟩ := h
  unfold inf
  refine ⟨⟨h1.1, h1.2.1⟩, ?_⟩
  rcases h1.2.2 with h2 | h2
  · exact .inl h2
  · exact .inr (by omega)
theorem cmp_need {I : Inst} {side : List Bool} {s : Int} (hr : rightF I = 0) (hl : I.arcs.length ≤ 1000) (hn : I.sup.length ≤ 1000) (hs : Within 4398046511104 I.sup) (h : roomC I side = some s) (m : Int) (hm : m = needF I side) : wcmp (W m) (W s) ≤ 0 ↔ m ≤ s := by
  have hb := room_bound (m := I.sup.length) (side := side) (arcs_bound hr) I.arcs.length (Nat.le_refl _) s (by rw [List.take_length]; exact h)
  have hk := needK_bound (side := side) (by omega) hs I.sup.length
  have e : needF I side = needK side I.sup I.sup.length := rfl
  rw [wcmp_W (by unfold I128; omega) (by unfold I128; omega)]
  split
  · omega
  · split <;> omega
theorem proves_none {I : Inst} {side : List Bool} {x : List Int} (hl : I.arcs.length ≤ 1000) (hn : I.sup.length ≤ 1000) (hx : A64 x) (hs : Within 4398046511104 I.sup) (h : provesF I side = 0) : fitsF I x ≠ 0 := by
  intro hf
  have hr := (fitsF_zero.1 hf).1
  unfold provesF at h
  simp only [hr, ne_eq, not_true, if_false] at h
  split at h
  · omega
  · split at h
    · omega
    · rename_i s hroom
      split at h
      · omega
      · rename_i hc
        rw [cmp_need hr hl hn hs hroom _ rfl] at hc
        have h1 := fits_need side hl hx hs hf
        have h2 := cross_room (m := I.sup.length) (side := side) (fitsAll_iff.1 (fitsF_zero.1 hf).2.2.1) I.arcs.length (Nat.le_refl _) s (by rw [List.take_length]; exact hroom)
        omega
theorem wholeF_len (e : List Int) (n : Nat) : (wholeF e n).length = n := by
  unfold wholeF marksF; simp; omega
end Go.Ql
end
