/- Part of the proof, Law11. -/
import Derived.Test.YtggblkbecekbdaaZPrice
import Derived.Test.YtggblkbecekbdaaZLaw10
set_option linter.all false
set_option linter.unusedSimpArgs false
set_option linter.unusedVariables false
namespace Go.Ql
open Go Go.RowKit Go.Vc
theorem sgn_neg {r : Int} (h : I128 r) : sgn r < 0 ↔ r < 0 := by
  unfold sgn
  rw [wcmp_W h (by unfold I128; omega)]
  split
  · omega
  · split <;> omega
theorem sgn_pos {r : Int} (h : I128 r) : 0 < sgn r ↔ 0 < r := by
  unfold sgn
  rw [wcmp_W h (by unfold I128; omega)]
  split
  · omega
  · split <;> omega
def potK (l : List Arc) (x pot : List Int) : Nat → Int
  | 0 => 0
  | k + 1 => potK l x pot k + x.getD k 0 * (potR pot (l.getD k default).src - potR pot (l.getD k default).dst)
theorem sumTo_at {s f : Int} (P : Nat → Int) (h0 : 0 ≤ s) (n : Nat) (hn : s < n) : sumTo (fun v => (if s = (v : Int) then f else 0) * P v) n = f * P s.toNat := by
  rw [sumTo_congr (g := fun v => if s = (v : Int) then f * P s.toNat else 0) (fun v hv => by
    by_cases e : s = (v : Int)
    · have : s.toNat = v := by omega
      rw [if_pos e, if_pos e, this]
    · rw [if_neg e, if_neg e, Int.zero_mul]), sumTo_one h0, if_pos hn]
theorem flowD_pot {n : Nat} {a : Arc} (pot : List Int) (f : Int) (ho : okArc n a = true) : sumTo (fun v : Nat => flowD n a f v * pot.getD v 0) n = f * (potR pot a.src - potR pot a.dst) := by
  obtain ⟨o1, o2, o3, o4⟩ := okArc_iff.1 ho
  rw [sumTo_congr (g := fun v : Nat => (if a.src = (v : Int) then f else 0) * pot.getD v 0 - (if a.dst = (v : Int) then f else 0) * pot.getD v 0) (fun v _ => by
    simp only [flowD, ho, if_true, Int.sub_mul]), sumTo_sub, sumTo_at (fun v => pot.getD v 0) o1 n o2, sumTo_at (fun v => pot.getD v 0) o3 n o4]
  simp only [potR, o1, o3, if_true, Int.mul_sub]
theorem net_pot {n : Nat} {l : List Arc} (x pot : List Int) (ho : ∀ a ∈ l, okArc n a = true) : ∀ k, k ≤ l.length → sumTo (fun v : Nat => netK n l x k v * pot.getD v 0) n = potK l x pot k
  | 0, _ => by
    simp only [netK, potK]
    rw [sumTo_congr (g := fun _ => 0) (fun v _ => by simp), sumTo_zero]
  | k + 1, h => by
    have hm : l.getD k default ∈ l := by rw [List.getD_eq_getElem?_getD, List.getElem?_eq_getElem (show k < l.length by omega)]; exact List.getElem_mem _
    simp only [potK]
    rw [← net_pot x pot ho k (by omega), ← flowD_pot pot (x.getD k 0) (ho _ hm), ← sumTo_add]
    refine sumTo_congr fun v _ => ?_
    simp only [netK, Int.add_mul]
theorem boundS_sum (l pot : List Int) : ∀ k, boundS l pot k = sumTo (fun v => l.getD v 0 * pot.getD v 0) k
  | 0 => rfl
  | k + 1 => by simp only [boundS, sumTo, boundS_sum l pot k]
theorem boundAcc_app (n : Int) (pot : List Int) : ∀ (l r : List Arc) (s : Int), boundAcc n pot (l ++ r) s = (boundAcc n pot l s).bind (boundAcc n pot r)
  | [], r, s => by simp [boundAcc]
  | a :: l, r, s => by
    simp only [List.cons_append, boundAcc]
    split
    · split
      · split
        · rfl
        · exact boundAcc_app n pot l r _
      · exact boundAcc_app n pot l r _
    · exact boundAcc_app n pot l r _
def slackJ (l : List Arc) (x pot : List Int) (j : Nat) : Bool := slackA (redP pot (l.getD j default)) (x.getD j 0) (l.getD j default)
theorem step_gap {a : Arc} {x r : Int} (hr : I128 r) (hf : fitF a x = true) :
    (sgn r < 0 → a.cap = inf → slackA r x a = false) ∧ (sgn r < 0 → a.cap ≠ inf → 0 ≤ (x - a.cap) * r ∧ ((x - a.cap) * r = 0 ↔ slackA r x a = true)) ∧ (¬ sgn r < 0 → 0 ≤ (x - a.low) * r ∧ ((x - a.low) * r = 0 ↔ slackA r x a = true)) := by
  have hn := sgn_neg hr
  have hp := sgn_pos hr
  unfold fitF at hf
  simp only [Bool.and_eq_true, Bool.or_eq_true, decide_eq_true_eq] at hf
  refine ⟨fun h1 h2 => ?_, fun h1 h2 => ?_, fun h1 => ?_⟩
  · simp [slackA, h1, h2]
  · have h3 : r < 0 := hn.1 h1
    have h4 : x ≤ a.cap := by rcases hf.2 with h | h; exact absurd h h2; exact h
    have h5 : ¬ 0 < sgn r := by omega
    refine ⟨Int.mul_nonneg_of_nonpos_of_nonpos (by omega) (by omega), ?_⟩
    rw [Int.mul_eq_zero]
    simp only [slackA, h1, h2, h5, decide_true, decide_false, Bool.false_and, Bool.false_or, Bool.true_and, Bool.or_false, Bool.not_eq_true', decide_eq_false_iff_not, ne_eq, Decidable.not_not]
    omega
  · have h3 : 0 ≤ r := by omega
    refine ⟨Int.mul_nonneg (by omega) h3, ?_⟩
    rw [Int.mul_eq_zero]
    by_cases h4 : 0 < sgn r
    · have h5 := hp.1 h4
      simp only [slackA, h1, h4, decide_true, decide_false, Bool.false_and, Bool.or_false, Bool.true_and, Bool.not_eq_true', decide_eq_false_iff_not, ne_eq, Decidable.not_not]
      omega
    · have h5 : r = 0 := by omega
      subst h5; simp [slackA, sgn_zero]
theorem gap {n : Nat} {l : List Arc} {x pot : List Int} (s : Int) (ho : ∀ a ∈ l, okArc n a = true) (hr : ∀ a ∈ l, I128 (redP pot a)) (hf : ∀ j a, l[j]? = some a → fitF a (x.getD j 0) = true) : ∀ k, k ≤ l.length →
    (boundAcc n pot (l.take k) s = none → ∃ j, j < k ∧ slackJ l x pot j = false) ∧ ∀ t, boundAcc n pot (l.take k) s = some t → 0 ≤ costK l x k - potK l x pot k - (t - s) ∧ (costK l x k - potK l x pot k - (t - s) = 0 ↔ ∀ j, j < k → slackJ l x pot j = true)
  | 0, _ => by
    refine ⟨fun h => ?_, fun t h => ?_⟩
    · simp [boundAcc] at h
    · simp only [List.take_zero, boundAcc, Option.some.injEq] at h
      subst h
      simp [costK, potK]
  | k + 1, h => by
    have ih := gap s ho hr hf k (by omega)
    have hk : l[k]? = some (l[k]'(by omega)) := List.getElem?_eq_getElem (by omega)
    generalize l[k]'(by omega) = a at hk
    have hd : l.getD k default = a := by simp [List.getD, hk]
    have hm := List.mem_of_getElem? hk
    have hg := step_gap (hr a hm) (hf k a hk)
    have hoa := ho a hm
    have hsj : slackJ l x pot k = slackA (redP pot a) (x.getD k 0) a := by unfold slackJ; rw [hd]
    have hall : (∀ j, j < k + 1 → slackJ l x pot j = true) ↔ (∀ j, j < k → slackJ l x pot j = true) ∧ slackA (redP pot a) (x.getD k 0) a = true := by
      rw [← hsj]
      constructor
      · exact fun h => ⟨fun j hj => h j (by omega), h k (by omega)⟩
      · intro h j hj
        by_cases e : j = k
        · subst e; exact h.2
        · exact h.1 j (by omega)
    rw [take_get hk, boundAcc_app]
    cases hb : boundAcc n pot (l.take k) s with
    | none =>
      refine ⟨fun _ => ?_, fun t h => by simp at h⟩
      obtain ⟨j, hj, hj2⟩ := ih.1 hb
      exact ⟨j, by omega, hj2⟩
    | some u =>
      have ih2 := ih.2 u hb
      simp only [Option.bind_some, boundAcc, hoa, if_true]
      have hc : costK l x (k + 1) - potK l x pot (k + 1) = costK l x k - potK l x pot k + x.getD k 0 * redP pot a := by
        simp only [costK, potK, hd, redP, redA, Int.mul_sub, Int.mul_add]
        rw [Int.mul_comm a.cost]
        omega
      rw [hall, hc]
      by_cases hs : sgn (redP pot a) < 0
      · by_cases hi : a.cap = inf
        · simp only [hs, hi, if_true]
          exact ⟨fun _ => ⟨k, by omega, by rw [hsj]; exact hg.1 hs hi⟩, fun t h => by simp at h⟩
        · simp only [hs, hi, if_true, if_false]
          refine ⟨fun h => by simp at h, fun t h => ?_⟩
          simp only [Option.some.injEq] at h
          subst h
          have h2 := hg.2.1 hs hi
          rw [Int.sub_mul] at h2
          rw [← ih2.2, ← h2.2]
          omega
      · simp only [hs, if_false]
        refine ⟨fun h => by simp at h, fun t h => ?_⟩
        simp only [Option.some.injEq] at h
        subst h
        have h2 := hg.2.2 hs
        rw [Int.sub_mul] at h2
        rw [← ih2.2, ← h2.2]
        omega
theorem redF_at {I : Inst} {pot : List Int} {k : Nat} {a : Arc} (h : I.arcs[k]? = some a) (ho : okArc I.sup.length a = true) : redF I pot k = redP pot a := by
  have hg : gOk I.sup.length I.arcs (k : Int) = true := by rw [gOk_at (by omega) (by rw [Int.toNat_natCast]; exact h)]; exact ho
  obtain ⟨o1, o2, o3, o4⟩ := okArc_iff.1 ho
  unfold redF atF atT redP potR
  rw [if_pos hg, if_pos hg, if_pos hg, atA_get h ho, if_pos o1, if_pos o3]
theorem price_bound {I : Inst} {x pot : List Int} (hl : I.arcs.length ≤ 1000) (hx : A64 x) (hs : Within 4398046511104 I.sup) (hp : A64 pot) (hlp : pot.length = I.sup.length) (h : fitsF I x = 0) :
    (boundF I pot = none → slackF I x pot = 33) ∧ ∀ t, boundF I pot = some t → t ≤ costF I x ∧ (t = costF I x ↔ slackF I x pot = 0) := by
  have hz := fitsF_zero.1 h
  have ho : ∀ a ∈ I.arcs, okArc I.sup.length a = true := fun a ha => (rightF_arc hz.1 ha).1
  have hP : ∀ v, I64 (potR pot v) := fun v => by
    unfold potR
    split
    · exact hp.getD _
    · simp [I64]
  have hr : ∀ a ∈ I.arcs, I128 (redP pot a) := fun a ha => by
    have h1 := (rightF_arc hz.1 ha).2.2
    have h2 := hP a.src
    have h3 := hP a.dst
    unfold redP redA
    unfold I64 at h2 h3
    unfold I128
    omega
  have hg := gap (n := I.sup.length) (l := I.arcs) (x := x) (pot := pot) (boundS I.sup pot I.sup.length) ho hr (fitsAll_iff.1 hz.2.2.1) I.arcs.length (Nat.le_refl _)
  rw [List.take_length] at hg
  have hn : boundS I.sup pot I.sup.length = potK I.arcs x pot I.arcs.length := by
    rw [boundS_sum, ← net_pot x pot ho I.arcs.length (Nat.le_refl _)]
    refine sumTo_congr fun v hv => ?_
    rw [fits_net hl hx hs h v hv]
  have hsl : ∀ k, k < I.arcs.length → slackK I x pot k = slackJ I.arcs x pot k := fun k hk => by
    have hget : I.arcs[k]? = some (I.arcs[k]) := List.getElem?_eq_getElem hk
    have hd : I.arcs.getD k default = I.arcs[k] := by simp [List.getD, hget]
    unfold slackK slackJ
    rw [redF_at hget (ho _ (List.getElem_mem hk)), hd]
  have hF : slackF I x pot = if (List.range I.arcs.length).all (slackK I x pot) then 0 else 33 := by
    unfold slackF
    rw [if_neg (by omega), if_neg (by omega)]
  refine ⟨fun hb => ?_, fun t hb => ?_⟩
  · obtain ⟨j, hj, hj2⟩ := hg.1 hb
    rw [hF, if_neg]
    intro hall
    have := List.all_eq_true.1 hall j (List.mem_range.2 hj)
    rw [hsl j hj, hj2] at this
    cases this
  · have h2 := hg.2 t hb
    rw [hn] at h2
    unfold costF
    have h3 : (t = costK I.arcs x I.arcs.length) ↔ ∀ j, j < I.arcs.length → slackJ I.arcs x pot j = true := by
      rw [← h2.2]; omega
    refine ⟨by omega, ?_⟩
    rw [h3, hF]
    constructor
    · intro h4
      rw [if_pos (List.all_eq_true.2 fun j hj => by have hj := List.mem_range.1 hj; rw [hsl j hj]; exact h4 j hj)]
    · intro h4 j hj
      split at h4
      · rename_i h5
        rw [← hsl j hj]
        exact List.all_eq_true.1 h5 j (List.mem_range.2 hj)
      · omega
theorem costK_bound {l : List Arc} {x : List Int} {C X : Int} (hC : 0 ≤ C) (hX : 0 ≤ X) (hl : ∀ a ∈ l, -C ≤ a.cost ∧ a.cost ≤ C) (hx : ∀ k, -X ≤ x.getD k 0 ∧ x.getD k 0 ≤ X) : ∀ k : Nat, k ≤ l.length → -(C * X * k) ≤ costK l x k ∧ costK l x k ≤ C * X * k
  | 0, _ => by simp [costK]
  | k + 1, h => by
    have ih := costK_bound hC hX hl hx k (by omega)
    have hm : l.getD k default ∈ l := by rw [List.getD_eq_getElem?_getD, List.getElem?_eq_getElem (show k < l.length by omega)]; exact List.getElem_mem _
    have h1 := hl _ hm
    have h2 := hx k
    have hm := mul_bound (a := (l.getD k default).cost) (b := x.getD k 0) h1.1 h1.2 h2.1 h2.2 hC hX
    rw [costK, Int.natCast_succ, Int.mul_add, Int.mul_one]
    omega
theorem right_small {I : Inst} (h : rightF I = 0) : I.sup.length ≤ 64 ∧ I.arcs.length ≤ 256 := by
  unfold rightF at h
  split at h
  · omega
  · omega
theorem supErr_in : ∀ (l : List Int) (s : Int), supErr l s = 0 → Within 4398046511104 l ∧ s + l.sum = 0
  | [], s, h => by
    unfold supErr at h
    split at h
    · rename_i e; exact ⟨fun x hx => (by cases hx), by simpa using e⟩
    · omega
  | x :: l, s, h => by
    unfold supErr at h
    split at h
    · omega
    · have ih := supErr_in l (s + x) h
      refine ⟨fun y hy => ?_, by rw [List.sum_cons]; omega⟩
      rcases List.mem_cons.1 hy with rfl | hy
      · omega
      · exact ih.1 y hy
theorem right_within {I : Inst} (h : rightF I = 0) : Within 4398046511104 I.sup ∧ I.sup.sum = 0 := by
  unfold rightF at h
  split at h
  · omega
  · split at h
    · have := supErr_in _ _ h
      exact ⟨this.1, by omega⟩
    · omega
theorem A64.at {l : List Int} (h : A64 l) (k : Nat) : -9223372036854775808 ≤ l.getD k 0 ∧ l.getD k 0 ≤ 9223372036854775808 := by
  have := h.getD k
  unfold I64 at this
  omega
theorem cost_I128 {I : Inst} {x : List Int} (h : rightF I = 0) (hx : A64 x) : I128 (costF I x) := by
  have hl := right_small h
  have := costK_bound (C := 4398046511104) (X := 9223372036854775808) (by omega) (by omega) (fun a ha => (rightF_arc h ha).2.2) (fun k => hx.at k) I.arcs.length (Nat.le_refl _)
  unfold costF I128
  omega
theorem slack_best {I : Inst} {x y pot : List Int} (hx : A64 x) (hy : A64 y) (hp : A64 pot) (hs : slackF I y pot = 0) (hf : fitsF I x = 0) : wcmp (W (costF I y)) (W (costF I x)) ≤ 0 := by
  have hfy : fitsF I y = 0 := by
    unfold slackF at hs
    split at hs
    · omega
    · rename_i h; omega
  have hlp : pot.length = I.sup.length := by
    unfold slackF at hs
    split at hs
    · omega
    · split at hs
      · omega
      · rename_i h; omega
  have hr := (fitsF_zero.1 hfy).1
  have hl := right_small hr
  have hw := (right_within hr).1
  have h1 := price_bound (by omega) hy hw hp hlp hfy
  have h2 := price_bound (by omega) hx hw hp hlp hf
  cases hb : boundF I pot with
  | none => have := h1.1 hb; omega
  | some t =>
    have e1 := (h1.2 t hb).2.2 hs
    have e2 := (h2.2 t hb).1
    rw [wcmp_W (cost_I128 hr hy) (cost_I128 hr hx)]
    split
    · omega
    · split <;> omega
theorem round_zero (P : Nat → Int) {m : Nat} : ∀ t, t ≤ m → 0 < m → sumTo (fun k => P ((k + 1) % m) - P k) t = P (t % m) - P 0
  | 0, _, _ => by simp [sumTo]
  | t + 1, h, h0 => by
    rw [sumTo, round_zero P t (by omega) h0, Nat.mod_eq_of_lt (show t < m by omega)]
    omega
end Go.Ql
