/-
  PLAIN LAWS of sides: rooms, needs, and flows that go over. No program in sight.
-/
import Derived.Test.YtnoocfcmlilffaaCut
import Derived.Test.YtnoocfcmlilffaaLaw09
set_option linter.all false
set_option linter.unusedSimpArgs false
set_option linter.unusedVariables false
namespace Go.Ql
open Go Go.RowKit

/-! ### instances of choices are right -/
theorem sum_set (s : List Int) (k : Nat) (y : Int) (hk : k < s.length) : (s.set k y).sum = s.sum - s.getD k 0 + y := by
  induction s generalizing k with
  | nil => simp at hk
  | cons z s ih =>
    cases k with
    | zero => simp; omega
    | succ k =>
      have := ih k (by simpa using hk)
      simp only [List.set_cons_succ, List.sum_cons, this, List.getD_cons_succ]; omega
theorem addAt_sum (s : List Int) (k : Nat) (x : Int) (hk : k < s.length) : (addAt s k x).sum = s.sum + x := by
  unfold addAt; rw [sum_set _ _ _ hk]; omega
theorem supGo_sum {n : Nat} (d : List Int) : ∀ (l : List Arc) (k : Nat) (s : List Int), s.length = n → (∀ a ∈ l, a.Nice n) → (supGo d l k s).sum = s.sum
  | [], _, s, _, _ => rfl
  | a :: l, k, s, hs, hn => by
    have h := hn a (by simp)
    have h1 := h.s0; have h2 := h.s1; have h3 := h.d0; have h4 := h.d1
    rw [supGo, supGo_sum d l (k + 1) _ (by simp [addAt_len, hs]) (fun b hb => hn b (by simp [hb])), addAt_sum _ _ _ (by rw [addAt_len]; omega), addAt_sum _ _ _ (by omega)]
    omega
theorem instF_sum (c d : List Int) : (instF c d).sup.sum = 0 := by
  have hp := nOf_pos d
  have h1 : (sup1 c d).sum = 0 := by
    unfold sup1
    rw [supGo_sum (n := nOf d) d _ 0 _ (by simp) (arcsF_nice c _ (by omega))]
    simp
  unfold instF
  dsimp only
  split
  · rw [addAt_sum _ _ _ (by rw [addAt_len, sup1_len]; omega), addAt_sum _ _ _ (by rw [sup1_len]; omega), h1]; omega
  · exact h1
theorem right_sup {I : Inst} {s : List Int} (hs : s.length = I.sup.length) (h1 : I.sup.length ≤ 64) (h2 : I.arcs.length ≤ 256) (h3 : ∀ a ∈ I.arcs, a.Nice I.sup.length) (h4 : Within 4398046511104 s) (h5 : s.sum = 0) : rightF ⟨s, I.arcs⟩ = 0 :=
  right_of (by dsimp only; omega) h2 (fun a ha => by dsimp only; rw [hs]; exact (h3 a ha).right) (fun x hx => h4 x hx) h5
theorem instF_right (c d : List Int) : rightF (instF c d) = 0 := by
  have l1 := instF_sup c d
  have l3 := nOf_le d
  have l4 := instF_arcs c d
  exact right_sup rfl (by omega) (by omega) (fun a ha => by rw [l1]; exact instF_nice c d a ha) ((instF_within c d).more (by omega)) (instF_sum c d)

/-! ### rooms -/
theorem roomAcc_app (m : Int) (side : List Bool) : ∀ (l r : List Arc) (s : Int), roomAcc m side (l ++ r) s = (roomAcc m side l s).bind (roomAcc m side r)
  | [], r, s => by simp [roomAcc]
  | a :: l, r, s => by
    rw [List.cons_append, roomAcc_cons, roomAcc_cons]
    split
    · split
      · rfl
      · exact roomAcc_app m side l r _
    · split
      · exact roomAcc_app m side l r _
      · exact roomAcc_app m side l r _
theorem roomAcc_none {m : Int} {side : List Bool} : ∀ {l : List Arc} {s : Int}, (∀ a ∈ l, outA m side a = false ∧ inA m side a = false) → roomAcc m side l s = some s
  | [], s, _ => rfl
  | a :: l, s, h => by
    have := h a (by simp)
    rw [roomAcc_cons, this.1, this.2]
    simp only [Bool.false_eq_true, if_false]
    exact roomAcc_none fun b hb => h b (by simp [hb])

/-! ### needs -/
theorem needK_sumTo (side : List Bool) (l : List Int) : ∀ k, needK side l k = sumTo (fun v => if side.getD v false then l.getD v 0 else 0) k
  | 0 => rfl
  | k + 1 => by simp only [needK, sumTo, needK_sumTo side l k]
theorem sum_sumTo : ∀ (l : List Int), l.sum = sumTo (fun v => l.getD v 0) l.length := by
  intro l
  have h := sum_map_range (fun v => l.getD v 0) l.length
  rw [← h]
  congr 1
  apply List.ext_getElem?
  intro i
  by_cases hi : i < l.length
  · simp [hi]
  · simp [hi]
theorem need_other {side : List Bool} {l : List Int} {o : List Bool} (h : ∀ k, k < l.length → o.getD k false = !side.getD k false) : needK side l l.length + needK o l l.length = l.sum := by
  rw [needK_sumTo, needK_sumTo, ← sumTo_add, sum_sumTo]
  refine sumTo_congr fun v hv => ?_
  rw [h v hv]
  cases side.getD v false <;> simp

/-! ### what goes over -/
def crossD (m : Int) (side : List Bool) (a : Arc) (f : Int) : Int := (if outA m side a then f else 0) - (if inA m side a then f else 0)
def crossK (m : Int) (side : List Bool) (l : List Arc) (x : List Int) : Nat → Int
  | 0 => 0
  | k + 1 => crossK m side l x k + crossD m side (l.getD k default) (x.getD k 0)
theorem sumTo_pick {s f : Int} (p : Nat → Bool) (h0 : 0 ≤ s) : ∀ n : Nat, s < n → sumTo (fun v => if p v then (if s = (v : Int) then f else 0) else 0) n = if p s.toNat then f else 0 := by
  intro n hn
  have : sumTo (fun v => if p v then (if s = (v : Int) then f else 0) else 0) n = sumTo (fun v => if s = (v : Int) then (if p s.toNat then f else 0) else 0) n := by
    refine sumTo_congr fun v hv => ?_
    by_cases e : s = (v : Int)
    · have : s.toNat = v := by omega
      simp [e, this]
    · simp [e]
  rw [this, sumTo_one h0, if_pos hn]
theorem flowD_cross {n : Nat} {side : List Bool} {a : Arc} (f : Int) : sumTo (fun v : Nat => if side.getD v false then flowD n a f v else 0) n = crossD n side a f := by
  cases ho : okArc n a with
  | false =>
    have hz : ∀ v : Nat, (if side.getD v false then flowD n a f v else 0) = 0 := fun v => by simp [flowD, ho]
    rw [sumTo_congr (g := fun _ => 0) (fun v _ => hz v), sumTo_zero]
    have : isN (n : Int) a.src = false ∨ isN (n : Int) a.dst = false := by
      unfold okArc at ho
      unfold isN
      cases h1 : (decide (0 ≤ a.src) && decide (a.src < (n : Int))) <;> simp_all
    unfold crossD outA inA
    rcases this with h | h <;> simp [h]
  | true =>
    obtain ⟨o1, o2, o3, o4⟩ := okArc_iff.1 ho
    rw [sumTo_congr (g := fun v => (if side.getD v false then (if a.src = (v : Int) then f else 0) else 0) - (if side.getD v false then (if a.dst = (v : Int) then f else 0) else 0)) (fun v _ => by
      simp only [flowD, ho, if_true]
      cases side.getD v false <;> simp), sumTo_sub, sumTo_pick (fun v => side.getD v false) o1 n o2, sumTo_pick (fun v => side.getD v false) o3 n o4]
    unfold crossD outA inA isN onF
    simp only [o1, o2, o3, o4, decide_true, Bool.true_and]
    cases side.getD a.src.toNat false <;> cases side.getD a.dst.toNat false <;> simp
/-- WHAT FLOWS OUT OF A SIDE, LESS WHAT FLOWS IN, IS WHAT ITS NODES SEND -/
theorem cross_net (n : Nat) (side : List Bool) (l : List Arc) (x : List Int) : ∀ k, sumTo (fun v : Nat => if side.getD v false then netK n l x k v else 0) n = crossK n side l x k
  | 0 => by
    simp only [netK, crossK]
    rw [sumTo_congr (g := fun _ => 0) (fun v _ => by simp), sumTo_zero]
  | k + 1 => by
    simp only [crossK]
    rw [← cross_net n side l x k, ← flowD_cross, ← sumTo_add]
    refine sumTo_congr fun v _ => ?_
    simp only [netK]
    cases side.getD v false <;> simp
theorem fits_net {I : Inst} {x : List Int} (hl : I.arcs.length ≤ 1000) (hx : A64 x) (hs : Within 4398046511104 I.sup) (h : fitsF I x = 0) : ∀ v, v < I.sup.length → netK I.sup.length I.arcs x I.arcs.length v = I.sup.getD v 0 := by
  intro v hv
  have hn := netOk_iff.1 (fitsF_zero.1 h).2.2.2 v hv
  have hb := netK_bound (n := I.sup.length) (l := I.arcs) (x := x) (v := v) (B := 9223372036854775808) (by omega) (fun y hy => by have := hx y hy; unfold I64 at this; omega) I.arcs.length
  have hs' := hs.getD (by omega) v
  refine W_inj ?_ ?_ hn
  · unfold I128; omega
  · unfold I128; omega
theorem fits_need {I : Inst} {x : List Int} (side : List Bool) (hl : I.arcs.length ≤ 1000) (hx : A64 x) (hs : Within 4398046511104 I.sup) (h : fitsF I x = 0) : crossK I.sup.length side I.arcs x I.arcs.length = needF I side := by
  rw [← cross_net, needF, needK_sumTo]
  refine sumTo_congr fun v hv => ?_
  rw [fits_net hl hx hs h v hv]
theorem roomAcc_some {m : Int} {side : List Bool} {a : Arc} {s t : Int} (h : roomAcc m side [a] s = some t) : (outA m side a = true ∧ a.cap ≠ inf ∧ t = s + a.cap) ∨ (outA m side a = false ∧ inA m side a = true ∧ t = s - a.low) ∨ (outA m side a = false ∧ inA m side a = false ∧ t = s) := by
  rw [roomAcc_cons] at h
  simp only [roomAcc] at h
  cases ho : outA m side a with
  | true =>
    rw [ho] at h
    simp only [if_true] at h
    split at h
    · cases h
    · rename_i hc; cases h; exact .inl ⟨rfl, hc, rfl⟩
  | false =>
    rw [ho] at h
    simp only [Bool.false_eq_true, if_false] at h
    cases hi : inA m side a with
    | true => rw [hi] at h; simp only [if_true] at h; cases h; exact .inr (.inl ⟨rfl, rfl, rfl⟩)
    | false => rw [hi] at h; simp only [Bool.false_eq_true, if_false] at h; cases h; exact .inr (.inr ⟨rfl, rfl, rfl⟩)
theorem out_not_in {m : Int} {side : List Bool} {a : Arc} (h : outA m side a = true) : inA m side a = false := by
  unfold outA at h; unfold inA
  cases h1 : isN m a.src <;> cases h2 : isN m a.dst <;> cases h3 : onF side a.src <;> cases h4 : onF side a.dst <;> simp_all
theorem cross_room {m : Int} {side : List Bool} {l : List Arc} {x : List Int} (hf : ∀ j a, l[j]? = some a → fitF a (x.getD j 0) = true) : ∀ k, k ≤ l.length → ∀ t, roomAcc m side (l.take k) 0 = some t → crossK m side l x k ≤ t
  | 0, _, t, h => by simp [roomAcc] at h; subst h; simp [crossK]
  | k + 1, hk, t, h => by
    have ha := List.getElem?_eq_getElem (show k < l.length by omega)
    rw [take_get ha, roomAcc_app] at h
    cases h1 : roomAcc m side (l.take k) 0 with
    | none => rw [h1] at h; cases h
    | some u =>
      rw [h1] at h
      have ih := cross_room hf k (by omega) u h1
      have hfa := hf k _ ha
      have hd : l.getD k default = l[k] := by simp [List.getD, ha]
      unfold fitF at hfa
      simp only [Bool.and_eq_true, Bool.or_eq_true, decide_eq_true_eq] at hfa
      simp only [crossK, hd, crossD]
      rcases roomAcc_some h with ⟨h2, h3, h4⟩ | ⟨h2, h3, h4⟩ | ⟨h2, h3, h4⟩
      · rw [h2, out_not_in h2]
        simp only [if_true, Bool.false_eq_true, if_false]
        rcases hfa.2 with h5 | h5
        · exact absurd h5 h3
        · omega
      · rw [h2, h3]
        simp only [if_true, Bool.false_eq_true, if_false]
        omega
      · rw [h2, h3]
        simp only [Bool.false_eq_true, if_false]
        omega
theorem room_bound {m : Int} {side : List Bool} {l : List Arc} (hb : ∀ a ∈ l, (0 ≤ a.low ∧ a.low ≤ 4398046511104) ∧ (a.cap = inf ∨ 0 ≤ a.cap ∧ a.cap ≤ 4398046511104)) : ∀ k, k ≤ l.length → ∀ t, roomAcc m side (l.take k) 0 = some t → -(4398046511104 * (k : Int)) ≤ t ∧ t ≤ 4398046511104 * (k : Int)
  | 0, _, t, h => by simp [roomAcc] at h; subst h; simp
  | k + 1, hk, t, h => by
    have ha := List.getElem?_eq_getElem (show k < l.length by omega)
    rw [take_get ha, roomAcc_app] at h
    cases h1 : roomAcc m side (l.take k) 0 with
    | none => rw [h1] at h; cases h
    | some u =>
      rw [h1] at h
      have ih := room_bound hb k (by omega) u h1
      have hfa := hb _ (List.getElem_mem (show k < l.length by omega))
      rcases roomAcc_some h with ⟨h2, h3, h4⟩ | ⟨h2, h3, h4⟩ | ⟨h2, h3, h4⟩
      · rcases hfa.2 with h5 | h5
        · exact absurd h5 h3
        · omega
      · omega
      · omega
theorem needK_bound {side : List Bool} {s : List Int} {b : Int} (hb : 0 ≤ b) (h : Within b s) : ∀ k : Nat, -(b * k) ≤ needK side s k ∧ needK side s k ≤ b * k
  | 0 => by simp [needK]
  | k + 1 => by
    have ih := needK_bound (side := side) hb h k
    have hg := h.getD hb k
    have e : b * ((k + 1 : Nat) : Int) = b * k + b := by rw [Int.natCast_succ, Int.mul_add]; omega
    simp only [needK]
    split <;> omega
theorem arcs_bound {I : Inst} (hr : rightF I = 0) : ∀ a ∈ I.arcs, (0 ≤ a.low ∧ a.low ≤ 4398046511104) ∧ (a.cap = inf ∨ 0 ≤ a.cap ∧ a.cap ≤ 4398046511104) := fun a ha => by
  have h := rightF_arc hr ha
  obtain ⟨_, h1, _⟩ := h
  unfold inf
  refine ⟨⟨h1.1, h1.2.1⟩, ?_⟩
  rcases h1.2.2 with h2 | h2
  · exact .inl h2
  · exact .inr (by omega)
/-- both compare as they are -/
theorem cmp_need {I : Inst} {side : List Bool} {s : Int} (hr : rightF I = 0) (hl : I.arcs.length ≤ 1000) (hn : I.sup.length ≤ 1000) (hs : Within 4398046511104 I.sup) (h : roomC I side = some s) (m : Int) (hm : m = needF I side) : wcmp (W m) (W s) ≤ 0 ↔ m ≤ s := by
  have hb := room_bound (m := I.sup.length) (side := side) (arcs_bound hr) I.arcs.length (Nat.le_refl _) s (by rw [List.take_length]; exact h)
  have hk := needK_bound (side := side) (by omega) hs I.sup.length
  have e : needF I side = needK side I.sup I.sup.length := rfl
  rw [wcmp_W (by unfold I128; omega) (by unfold I128; omega)]
  split
  · omega
  · split <;> omega
/-- WHERE A SIDE PROVES IT NO FLOW FITS -/
theorem proves_none {I : Inst} {side : List Bool} {x : List Int} (hl : I.arcs.length ≤ 1000) (hn : I.sup.length ≤ 1000) (hx : A64 x) (hs : Within 4398046511104 I.sup) (h : provesF I side = 0) : fitsF I x ≠ 0 := by
  intro hf
  have hr := (fitsF_zero.1 hf).1
  unfold provesF at h
  simp only [hr, ne_eq, not_true, if_false] at h
  split at h
  · omega
  · split at h
    · omega
    · rename_i s hroom
      split at h
      · omega
      · rename_i hc
        rw [cmp_need hr hl hn hs hroom _ rfl] at hc
        have h1 := fits_need side hl hx hs hf
        have h2 := cross_room (m := I.sup.length) (side := side) (fitsAll_iff.1 (fitsF_zero.1 hf).2.2.1) I.arcs.length (Nat.le_refl _) s (by rw [List.take_length]; exact hroom)
        omega
/-- more from the first node to the second one -/
def supM (s : List Int) (m : Int) : List Int := if 1 < s.length then (s.set 0 (s.getD 0 0 + m % 9)).set 1 (s.getD 1 0 - m % 9) else s
theorem supM_len (s : List Int) (m : Int) : (supM s m).length = s.length := by unfold supM; split <;> simp
theorem supM_sum (s : List Int) (m : Int) : (supM s m).sum = s.sum := by
  unfold supM
  split
  · rw [sum_set _ _ _ (by simp; omega), sum_set _ _ _ (by omega)]
    have : (s.set 0 (s.getD 0 0 + m % 9)).getD 1 0 = s.getD 1 0 := by rw [List.getD_eq_getElem?_getD, List.getElem?_set_ne (by omega), ← List.getD_eq_getElem?_getD]
    omega
  · rfl
theorem supM_within {b : Int} {s : List Int} (m : Int) (hb : 0 ≤ b) (h : Within b s) : Within (b + 8) (supM s m) := by
  unfold supM
  split
  · intro z hz
    have g0 := h.getD hb 0
    have g1 := h.getD hb 1
    rcases List.mem_or_eq_of_mem_set hz with hz | rfl
    · rcases List.mem_or_eq_of_mem_set hz with hz | rfl
      · have := h z hz; omega
      · omega
    · omega
  · exact h.more (by omega)
theorem wholeF_len (e : List Int) (n : Nat) : (wholeF e n).length = n := by
  unfold wholeF marksF; simp; omega
end Go.Ql
