/-
  ARCS BY NODES, PLAINLY: what adj.New computes: where each node's pieces begin, and the arcs in them. No program in sight.
-/
import Derived.Test.YtnoocfcmlilffaaFlow
set_option linter.all false
set_option linter.unusedSimpArgs false
set_option linter.unusedVariables false
namespace Go.Ql
open Go Go.RowKit

/-- the two pieces that an arc lies in -/
def hasK (a : Arc) (j : Nat) : Bool := decide ((j : Int) = 2 * a.src) || decide ((j : Int) = 2 * a.dst + 1)
def inK (I : Inst) (j a : Nat) : Bool := okArc I.sup.length (I.arcs.getD a default) && hasK (I.arcs.getD a default) j
def segA (I : Inst) (m j : Nat) : List Nat := (List.range m).filter (inK I j)
def cntA (I : Inst) (m j : Nat) : Nat := (segA I m j).length
def sumA (I : Inst) : Nat → Nat
  | 0 => 0
  | k + 1 => sumA I k + cntA I I.arcs.length k
def startF (I : Inst) : List Int := (List.range (2 * I.sup.length + 1)).map (fun k => (sumA I k : Int))
def listF (I : Inst) : List Int := (List.range (2 * I.sup.length)).flatMap (fun j => (segA I I.arcs.length j).map Int.ofNat)
def S1 (I : Inst) (m : Nat) : List Int := (List.range (2 * I.sup.length + 1)).map (fun k => if k = 0 then 0 else (cntA I m (k - 1) : Int))
def S2 (I : Inst) (k : Nat) : List Int := (List.range (2 * I.sup.length + 1)).map (fun i => if i ≤ k then (sumA I i : Int) else (cntA I I.arcs.length (i - 1) : Int))
def N3 (I : Inst) (m : Nat) : List Int := (List.range (2 * I.sup.length + 1)).map (fun k => ((sumA I k + cntA I m k : Nat) : Int))
def segL (I : Inst) (m j : Nat) : List Int := (segA I m j).map Int.ofNat ++ List.replicate (cntA I I.arcs.length j - cntA I m j) 0
def L3 (I : Inst) (m : Nat) : List Int := (List.range (2 * I.sup.length)).flatMap (segL I m)

theorem segA_succ (I : Inst) (m j : Nat) : segA I (m + 1) j = segA I m j ++ (if inK I j m then [m] else []) := by
  unfold segA
  rw [List.range_succ, List.filter_append]
  congr 1
  cases h : inK I j m <;> simp [h]
theorem cntA_succ (I : Inst) (m j : Nat) : cntA I (m + 1) j = cntA I m j + (if inK I j m then 1 else 0) := by
  unfold cntA
  rw [segA_succ, List.length_append]
  split <;> simp
theorem cntA_zero (I : Inst) (j : Nat) : cntA I 0 j = 0 := rfl
theorem cntA_le (I : Inst) (j : Nat) : ∀ m, cntA I m j ≤ m
  | 0 => Nat.le_refl _
  | m + 1 => by rw [cntA_succ]; have := cntA_le I j m; split <;> omega
theorem cntA_mono (I : Inst) (j : Nat) : ∀ (m k : Nat), cntA I m j ≤ cntA I (m + k) j
  | m, 0 => Nat.le_refl _
  | m, k + 1 => by
    rw [show m + (k + 1) = (m + k) + 1 by omega, cntA_succ]
    have := cntA_mono I j m k
    omega
theorem cntA_lt {I : Inst} {m j : Nat} (hm : m < I.arcs.length) (h : inK I j m = true) : cntA I m j < cntA I I.arcs.length j := by
  have h1 := cntA_mono I j (m + 1) (I.arcs.length - (m + 1))
  rw [show m + 1 + (I.arcs.length - (m + 1)) = I.arcs.length by omega, cntA_succ, if_pos h] at h1
  omega
theorem sumA_mono (I : Inst) : ∀ (j k : Nat), sumA I j ≤ sumA I (j + k)
  | j, 0 => Nat.le_refl _
  | j, k + 1 => by
    have := sumA_mono I j k
    show sumA I j ≤ sumA I (j + k) + _
    omega
theorem sumA_le (I : Inst) : ∀ k, sumA I k ≤ k * I.arcs.length
  | 0 => by simp [sumA]
  | k + 1 => by
    have h1 := sumA_le I k
    have h2 := cntA_le I k I.arcs.length
    show sumA I k + _ ≤ _
    rw [Nat.add_mul]; omega
theorem S1_zero (I : Inst) : S1 I 0 = List.replicate (2 * I.sup.length + 1) 0 := by
  unfold S1
  simp only [cntA_zero]
  apply List.ext_getElem?
  intro i
  by_cases h : i < 2 * I.sup.length + 1
  · simp [h]
  · simp [h]
theorem inK_of {I : Inst} {m : Nat} {a : Arc} (h : I.arcs[m]? = some a) (j : Nat) : inK I j m = (okArc I.sup.length a && hasK a j) := by
  have hg : I.arcs.getD m default = a := by simp [List.getD, h]
  unfold inK; rw [hg]
theorem hasK_iff {a : Arc} {j : Nat} : hasK a j = true ↔ (j : Int) = 2 * a.src ∨ (j : Int) = 2 * a.dst + 1 := by simp [hasK]
theorem S1_step {I : Inst} {m : Nat} {a : Arc} (h : I.arcs[m]? = some a) (ho : okArc I.sup.length a = true) {p q : Int} (hp : (S1 I m)[(2 * a.src + 1).toNat]? = some p)
    (hq : ((S1 I m).set (2 * a.src + 1).toNat (p + 1))[(2 * a.dst + 2).toNat]? = some q) : ((S1 I m).set (2 * a.src + 1).toNat (p + 1)).set (2 * a.dst + 2).toNat (q + 1) = S1 I (m + 1) := by
  obtain ⟨o1, o2, o3, o4⟩ := okArc_iff.1 ho
  unfold S1 at hp hq ⊢
  obtain ⟨_, rfl⟩ := map_range_get hp
  rw [map_range_set] at hq ⊢
  obtain ⟨_, rfl⟩ := map_range_get hq
  rw [map_range_set]
  apply List.map_congr_left
  intro t ht
  have hk : ∀ j, inK I j m = hasK a j := fun j => by rw [inK_of h, ho, Bool.true_and]
  by_cases e0 : t = 0
  · subst e0
    rw [if_neg (by omega), if_neg (by omega), if_pos rfl, if_pos rfl]
  · rw [if_neg e0, if_neg e0, cntA_succ, hk]
    by_cases e1 : t = (2 * a.src + 1).toNat <;> by_cases e2 : t = (2 * a.dst + 2).toNat
    · omega
    · rw [if_neg e2, if_pos e1, if_neg (by omega), ← e1]
      rw [if_pos (hasK_iff.2 (.inl (by omega)))]; omega
    · rw [if_pos e2, if_neg (by omega), if_neg (by omega), ← e2]
      rw [if_pos (hasK_iff.2 (.inr (by omega)))]; omega
    · rw [if_neg e2, if_neg e1, if_neg (fun h => ?_)]
      · omega
      · rcases hasK_iff.1 h with h | h <;> omega
theorem S1_same {I : Inst} {m : Nat} {a : Arc} (h : I.arcs[m]? = some a) (ho : okArc I.sup.length a = false) : S1 I m = S1 I (m + 1) := by
  unfold S1
  apply List.map_congr_left
  intro t ht
  rw [cntA_succ, inK_of h, ho]
  simp
theorem S1_get {I : Inst} {m j : Nat} {v : Int} (h : (S1 I m)[j]? = some v) : v = if j = 0 then 0 else (cntA I m (j - 1) : Int) := by unfold S1 at h; exact (map_range_get h).2
theorem S2_get {I : Inst} {k j : Nat} {v : Int} (h : (S2 I k)[j]? = some v) : v = if j ≤ k then (sumA I j : Int) else (cntA I I.arcs.length (j - 1) : Int) := by unfold S2 at h; exact (map_range_get h).2
theorem startF_get {I : Inst} {j : Nat} {v : Int} (h : (startF I)[j]? = some v) : v = (sumA I j : Int) := by unfold startF at h; exact (map_range_get h).2
theorem S1_S2 (I : Inst) : S1 I I.arcs.length = S2 I 0 := by
  unfold S1 S2
  apply List.map_congr_left
  intro t ht
  by_cases e : t = 0
  · subst e; simp [sumA]
  · rw [if_neg e, if_neg (by omega)]
theorem S2_step {I : Inst} {k : Nat} {p q : Int} (hk : k < 2 * I.sup.length) (hp : (S2 I k)[k + 1]? = some p) (hq : (S2 I k)[k]? = some q) : (S2 I k).set (k + 1) (p + q) = S2 I (k + 1) := by
  unfold S2 at hp hq ⊢
  obtain ⟨_, rfl⟩ := map_range_get hp
  obtain ⟨_, rfl⟩ := map_range_get hq
  rw [map_range_set]
  apply List.map_congr_left
  intro t ht
  by_cases e : t = k + 1
  · subst e
    rw [if_pos rfl, if_neg (by omega), if_pos (by omega), if_pos (by omega)]
    show _ = ((sumA I k + cntA I I.arcs.length k : Nat) : Int)
    simp; omega
  · rw [if_neg e]
    by_cases e2 : t ≤ k
    · rw [if_pos e2, if_pos (by omega)]
    · rw [if_neg e2, if_neg (by omega)]
theorem S2_end (I : Inst) : S2 I (2 * I.sup.length) = startF I := by
  unfold S2 startF
  apply List.map_congr_left
  intro t ht
  rw [if_pos (by have := List.mem_range.1 ht; omega)]
theorem startF_N3 (I : Inst) : startF I = N3 I 0 := by
  unfold startF N3
  apply List.map_congr_left
  intro t ht
  simp [cntA_zero]
theorem fm_congr {α β : Type} {f g : α → List β} : ∀ {l : List α}, (∀ t ∈ l, f t = g t) → l.flatMap f = l.flatMap g
  | [], _ => rfl
  | a :: l, h => by rw [List.flatMap_cons, List.flatMap_cons, h a (by simp), fm_congr (fun t ht => h t (by simp [ht]))]
/-- one place of one piece is written -/
theorem flatMap_set {f : Nat → List Int} {v : Int} : ∀ {n j i b : Nat}, (∀ t, b ≤ t → t < b + n → (f t).length = (f t).length) → b ≤ j → j < b + n → i < (f j).length →
    ((List.range' b n).flatMap f).set (((List.range' b (j - b)).map (fun t => (f t).length)).sum + i) v = (List.range' b n).flatMap (fun t => if t = j then (f j).set i v else f t)
  | 0, j, i, b, _, h1, h2, _ => by omega
  | n + 1, j, i, b, hl, h1, h2, h3 => by
    rw [List.range'_succ, List.flatMap_cons, List.flatMap_cons]
    by_cases e : b = j
    · subst e
      simp only [Nat.sub_self, List.range'_zero, List.map_nil, List.sum_nil, Nat.zero_add, if_true]
      rw [List.set_append_left _ _ h3]
      congr 1
      apply fm_congr
      intro t ht
      have := List.mem_range'_1.1 ht
      rw [if_neg (by omega)]
    · rw [if_neg e, show j - b = (j - (b + 1)) + 1 by omega, List.range'_succ, List.map_cons, List.sum_cons]
      rw [show (f b).length + ((List.range' (b + 1) (j - (b + 1))).map (fun t => (f t).length)).sum + i = (f b).length + (((List.range' (b + 1) (j - (b + 1))).map (fun t => (f t).length)).sum + i) by omega]
      rw [List.set_append_right _ _ (by omega), Nat.add_sub_cancel_left]
      congr 1
      exact flatMap_set (fun _ _ _ => rfl) (by omega) (by omega) h3
theorem segL_len {I : Inst} {m : Nat} (hm : m ≤ I.arcs.length) (j : Nat) : (segL I m j).length = cntA I I.arcs.length j := by
  have := cntA_mono I j m (I.arcs.length - m)
  rw [show m + (I.arcs.length - m) = I.arcs.length by omega] at this
  unfold segL
  rw [List.length_append, List.length_map, List.length_replicate]
  show cntA I m j + _ = _
  omega
theorem sum_range (I : Inst) {f : Nat → List Int} (hf : ∀ t, (f t).length = cntA I I.arcs.length t) : ∀ j, ((List.range' 0 j).map (fun t => (f t).length)).sum = sumA I j
  | 0 => rfl
  | j + 1 => by
    rw [List.range'_concat, List.map_append, List.sum_append, sum_range I hf j]
    simp [hf, sumA]
theorem flatMap_len (I : Inst) {f : Nat → List Int} (hf : ∀ t, (f t).length = cntA I I.arcs.length t) (n : Nat) : ((List.range n).flatMap f).length = sumA I n := by
  rw [List.length_flatMap, List.range_eq_range', sum_range I hf n]
/-- the state between: some pieces have an arc more already -/
def segP (I : Inst) (m : Nat) (d : Nat → Bool) (j : Nat) : List Int := if d j then segL I (m + 1) j else segL I m j
theorem segP_len {I : Inst} {m : Nat} (hm : m < I.arcs.length) (d : Nat → Bool) (j : Nat) : (segP I m d j).length = cntA I I.arcs.length j := by
  unfold segP; split
  · exact segL_len (by omega) j
  · exact segL_len (by omega) j
theorem segL_put {I : Inst} {m j : Nat} (hm : m < I.arcs.length) (h : inK I j m = true) : (segL I m j).set (cntA I m j) (m : Int) = segL I (m + 1) j := by
  have hl := cntA_lt hm h
  unfold segL
  rw [List.set_append_right _ _ (by simp [cntA]), List.length_map, segA_succ, if_pos h, cntA_succ, if_pos h]
  show _ ++ (List.replicate (cntA I I.arcs.length j - cntA I m j) 0).set (cntA I m j - cntA I m j) _ = _
  rw [Nat.sub_self, show cntA I I.arcs.length j - cntA I m j = (cntA I I.arcs.length j - (cntA I m j + 1)) + 1 by omega, List.replicate_succ, List.set_cons_zero]
  simp
theorem L3_put {I : Inst} {m j : Nat} {d : Nat → Bool} (hm : m < I.arcs.length) (hj : j < 2 * I.sup.length) (h : inK I j m = true) (hd : d j = false) :
    ((List.range (2 * I.sup.length)).flatMap (segP I m d)).set (sumA I j + cntA I m j) (m : Int) = (List.range (2 * I.sup.length)).flatMap (segP I m (fun t => t == j || d t)) := by
  have hl := segP_len hm d
  have h1 := flatMap_set (f := segP I m d) (v := (m : Int)) (n := 2 * I.sup.length) (j := j) (i := cntA I m j) (b := 0) (fun _ _ _ => rfl) (by omega) (by omega) (by rw [hl]; exact cntA_lt hm h)
  rw [Nat.sub_zero, sum_range I hl, ← List.range_eq_range'] at h1
  rw [h1]
  apply fm_congr
  intro t ht
  by_cases e : t = j
  · subst e
    simp only [if_true, segP, hd, beq_self_eq_true, Bool.true_or]
    exact segL_put hm h
  · have : (t == j) = false := by simp [e]
    simp only [e, if_false, segP, this, Bool.false_or]
def nP (I : Inst) (m : Nat) (d : Nat → Bool) : List Int := (List.range (2 * I.sup.length + 1)).map (fun k => ((sumA I k + cntA I (if d k then m + 1 else m) k : Nat) : Int))
theorem nP_put {I : Inst} {m j : Nat} {d : Nat → Bool} (h : inK I j m = true) (hd : d j = false) : (nP I m d).set j (((sumA I j + cntA I m j : Nat) : Int) + 1) = nP I m (fun t => t == j || d t) := by
  unfold nP
  rw [map_range_set]
  apply List.map_congr_left
  intro t ht
  by_cases e : t = j
  · subst e
    simp only [if_true, beq_self_eq_true, Bool.true_or]
    rw [cntA_succ, if_pos h]
    simp; omega
  · have : (t == j) = false := by simp [e]
    simp only [e, if_false, this, Bool.false_or]
theorem nP_get {I : Inst} {m j : Nat} {d : Nat → Bool} {v : Int} (h : (nP I m d)[j]? = some v) (hd : d j = false) : v = ((sumA I j + cntA I m j : Nat) : Int) := by
  obtain ⟨_, rfl⟩ := map_range_get h
  simp [hd]
theorem N3_nP (I : Inst) (m : Nat) : N3 I m = nP I m (fun _ => false) := rfl
theorem L3_segP (I : Inst) (m : Nat) : L3 I m = (List.range (2 * I.sup.length)).flatMap (segP I m (fun _ => false)) := by
  unfold L3
  apply fm_congr
  intro t ht
  rfl
/-- both pieces of an arc done: it is done -/
theorem nP_done {I : Inst} {m p q : Nat} (h : ∀ j, inK I j m = true ↔ j = p ∨ j = q) : nP I m (fun t => t == q || (t == p || false)) = N3 I (m + 1) := by
  unfold nP N3
  apply List.map_congr_left
  intro t ht
  by_cases e : t = p ∨ t = q
  · have : (t == q || (t == p || false)) = true := by rcases e with e | e <;> simp [e]
    simp only [this, if_true]
  · have h1 : (t == q || (t == p || false)) = false := by
      simp only [not_or] at e; simp [e.1, e.2]
    have h2 : inK I t m = false := by rw [Bool.eq_false_iff]; intro hk; exact e ((h t).1 hk)
    simp only [h1]
    rw [cntA_succ, h2]; simp
theorem L3_done {I : Inst} {m p q : Nat} (h : ∀ j, inK I j m = true ↔ j = p ∨ j = q) : (List.range (2 * I.sup.length)).flatMap (segP I m (fun t => t == q || (t == p || false))) = L3 I (m + 1) := by
  unfold L3
  apply fm_congr
  intro t ht
  unfold segP
  by_cases e : t = p ∨ t = q
  · have : (t == q || (t == p || false)) = true := by rcases e with e | e <;> simp [e]
    simp only [this, if_true]
  · have h1 : (t == q || (t == p || false)) = false := by
      simp only [not_or] at e; simp [e.1, e.2]
    have h2 : inK I t m = false := by rw [Bool.eq_false_iff]; intro hk; exact e ((h t).1 hk)
    simp only [h1]
    unfold segL
    rw [segA_succ, cntA_succ, h2]; simp
theorem N3_same {I : Inst} {m : Nat} {a : Arc} (h : I.arcs[m]? = some a) (ho : okArc I.sup.length a = false) : N3 I m = N3 I (m + 1) ∧ L3 I m = L3 I (m + 1) := by
  have hk : ∀ j, inK I j m = false := fun j => by rw [inK_of h, ho]; rfl
  unfold N3 L3
  refine ⟨?_, ?_⟩
  · apply List.map_congr_left
    intro t ht
    rw [cntA_succ, hk]; simp
  · apply fm_congr
    intro t ht
    unfold segL
    rw [segA_succ, cntA_succ, hk]; simp
theorem L3_zero (I : Inst) : L3 I 0 = List.replicate (sumA I (2 * I.sup.length)) 0 := by
  have hz : ∀ j, segL I 0 j = List.replicate (cntA I I.arcs.length j) 0 := fun j => by simp [segL, segA, cntA_zero]
  apply List.eq_replicate_iff.2
  refine ⟨flatMap_len I (fun t => segL_len (by omega) t) _, fun b hb => ?_⟩
  unfold L3 at hb
  rw [List.mem_flatMap] at hb
  obtain ⟨j, _, hb⟩ := hb
  rw [hz] at hb
  exact (List.mem_replicate.1 hb).2
theorem L3_end (I : Inst) : L3 I I.arcs.length = listF I := by
  unfold L3 listF
  apply fm_congr
  intro t ht
  unfold segL
  simp
end Go.Ql
