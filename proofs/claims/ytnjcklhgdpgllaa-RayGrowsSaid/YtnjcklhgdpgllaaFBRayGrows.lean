/-
  CONTRACTS, PROVED: RayGrows.
-/
import Derived.Test.YtnjcklhgdpgllaaFS12
import Derived.Test.YtnjcklhgdpgllaaDBRayGrows
import Derived.Test.YtnjcklhgdpgllaaVc11
set_option linter.unusedVariables false
set_option linter.all false
set_option linter.unusedSimpArgs false
set_option maxRecDepth 100000
namespace Go.Proofs.Ytnjcklhgdpgllaa
open Go Go.RowKit Go.Ql Go.Vc

theorem along_there {n : Int} : ∀ (l x : List Int), l.Nodup → (∀ a ∈ l, 0 ≤ a ∧ a < (x.length : Int)) → (∀ j : Nat, (j : Int) ∈ l → I64 (x.getD j 0 + n)) → ∃ y, alongF n x l = some y ∧ y.length = x.length ∧ ∀ j : Nat, y.getD j 0 = x.getD j 0 + if (j : Int) ∈ l then n else 0
  | [], x, _, _, _ => ⟨x, rfl, rfl, fun j => by simp⟩
  | a :: l, x, h1, h2, h3 => by
    have ha := h2 a (by simp)
    have hn := List.nodup_cons.1 h1
    have hi : I64 (x.getD a.toNat 0 + n) := h3 a.toNat (by rw [Int.toNat_of_nonneg ha.1]; simp)
    have hg : ∀ j : Nat, (x.set a.toNat (x.getD a.toNat 0 + n)).getD j 0 = x.getD j 0 + if (j : Int) = a then n else 0 := fun j => by
      by_cases e : (j : Int) = a
      · have : a.toNat = j := by omega
        rw [this, if_pos e]; simp [List.getD, show j < x.length by omega]
      · have : a.toNat ≠ j := by omega
        rw [if_neg e]; simp [List.getD, List.getElem?_set, this]
    obtain ⟨y, q1, q2, q3⟩ := along_there (n := n) l (x.set a.toNat (x.getD a.toNat 0 + n)) hn.2 (fun b hb => by simpa using h2 b (by simp [hb])) (fun j hj => by
      have e : ¬ (j : Int) = a := fun e => hn.1 (e ▸ hj)
      rw [hg, if_neg e, Int.add_zero]; exact h3 j (by simp [hj]))
    refine ⟨y, ?_, by rw [q2]; simp, fun j => ?_⟩
    · rw [alongF, if_neg (by omega), if_pos hi, q1]
    · rw [q3, hg]
      by_cases e : (j : Int) = a
      · have e2 : ¬ (j : Int) ∈ l := fun h => hn.1 (e ▸ h)
        rw [if_pos e, if_neg e2, if_pos (by simp [e])]; omega
      · simp [e]
theorem roundLs_mem {b k : Nat} {x : Int} : x ∈ roundLs b k ↔ ∃ j, j < k ∧ x = ((b + j : Nat) : Int) := by
  unfold roundLs
  rw [List.mem_map]
  constructor
  · rintro ⟨j, hj, rfl⟩
    exact ⟨j, List.mem_range.1 hj, rfl⟩
  · rintro ⟨j, hj, rfl⟩
    exact ⟨j, List.mem_range.2 hj, rfl⟩
theorem roundLs_nodup (b : Nat) : ∀ k, (roundLs b k).Nodup
  | 0 => by simp [roundLs]
  | k + 1 => by
    rw [roundLs_snoc, List.nodup_append]
    refine ⟨roundLs_nodup b k, by simp, fun x hx y hy => ?_⟩
    simp only [List.mem_singleton] at hy
    obtain ⟨j, hj, rfl⟩ := roundLs_mem.1 hx
    omega
theorem roundL_get (c d : List Int) {j : Nat} (hj : j < (roundL c d).length) : (roundL c d)[j]? = some (((instF c d).arcs.length + j : Nat) : Int) := by
  rw [roundL_len] at hj
  unfold roundL roundLs
  rw [List.getElem?_map, List.getElem?_range hj]; rfl
theorem arcAt_round (c d : List Int) {j : Nat} (hj : j < (roundL c d).length) : (roundI c d).arcs[(instF c d).arcs.length + j]? = some (roundA c d (roundL c d).length j) := by
  rw [roundL_len] at hj ⊢
  rw [roundI_arcs, List.getElem?_append_right (by omega), Nat.add_sub_cancel_left]
  unfold roundAs
  rw [List.getElem?_map, List.getElem?_range hj]; rfl
theorem arcAt_round' (c d : List Int) {j : Nat} (hj : j < (roundL c d).length) : arcAt (roundI c d) (((instF c d).arcs.length + j : Nat) : Int) = roundA c d (roundL c d).length j :=
  arcAt_get (by rw [Int.toNat_natCast]; exact arcAt_round c d hj)
theorem netK_arcs {n : Int} {l r : List Arc} {x : List Int} {v : Int} : ∀ {k : Nat}, (∀ j, j < k → (l.getD j default).src = (r.getD j default).src ∧ (l.getD j default).dst = (r.getD j default).dst) → netK n l x k v = netK n r x k v
  | 0, _ => rfl
  | k + 1, h => by
    have hk := h k (by omega)
    simp only [netK]
    rw [netK_arcs (fun j hj => h j (by omega))]
    unfold flowD okArc
    rw [hk.1, hk.2]
/-- a flow of n round the ways of Round sends nothing anywhere, and costs n times their sum -/
theorem round_net (c d u : List Int) (n v : Int) (h0 : ∀ j, j < (instF c d).arcs.length → u.getD j 0 = 0) (h1 : ∀ t, t < (roundL c d).length → u.getD ((instF c d).arcs.length + t) 0 = n) :
    netK (roundI c d).sup.length (roundI c d).arcs u (roundI c d).arcs.length v = 0 := by
  have hp := roundL_pos c d
  have l1 := instF_sup c d
  have l2 := nOf_pos d
  have hM := roundM_le c (show 0 < (instF c d).sup.length by omega)
  rw [← roundL_len] at hM
  rw [roundI_len, netK_arcs (r := (instF c d).arcs ++ Go.Ql.roundA (roundL c d).length (roundL c d).length) (fun j hj => ?_), netK_round (by omega) (by rw [roundI_sup]; exact hM) h0 h1 _ (Nat.le_refl _), Nat.mod_self]
  · simp
  · by_cases hb : j < (instF c d).arcs.length
    · have e1 : (roundI c d).arcs.getD j default = (instF c d).arcs.getD j default := by rw [roundI_arcs, List.getD_eq_getElem?_getD, List.getElem?_append_left hb, ← List.getD_eq_getElem?_getD]
      have e2 : ((instF c d).arcs ++ Go.Ql.roundA (roundL c d).length (roundL c d).length).getD j default = (instF c d).arcs.getD j default := by rw [List.getD_eq_getElem?_getD, List.getElem?_append_left hb, ← List.getD_eq_getElem?_getD]
      rw [e1, e2]; exact ⟨rfl, rfl⟩
    · obtain ⟨t, rfl⟩ : ∃ t, j = (instF c d).arcs.length + t := ⟨j - (instF c d).arcs.length, by omega⟩
      rw [roundA_getD (by omega), List.getD_eq_getElem?_getD, arcAt_round c d (by omega)]
      exact ⟨rfl, rfl⟩
theorem round_cost (c d u : List Int) (n : Int) (h0 : ∀ j, j < (instF c d).arcs.length → u.getD j 0 = 0) (h1 : ∀ t, t < (roundL c d).length → u.getD ((instF c d).arcs.length + t) 0 = n) :
    ∀ t, t ≤ (roundL c d).length → costK (roundI c d).arcs u ((instF c d).arcs.length + t) = rayK (roundI c d) (roundL c d) t * n
  | 0, _ => by rw [Nat.add_zero, costK_none h0, rayK, Int.zero_mul]
  | t + 1, ht => by
    have hd : (roundL c d).getD t 0 = (((instF c d).arcs.length + t : Nat) : Int) := by rw [List.getD_eq_getElem?_getD, roundL_get c d (by omega)]; rfl
    have hl := roundI_len c d
    rw [show (instF c d).arcs.length + (t + 1) = ((instF c d).arcs.length + t) + 1 by omega, costK, round_cost c d u n h0 h1 t (by omega), h1 t (by omega), rayK, hd, rayD, if_pos (isArcF_iff.2 (by omega)), arcAt_round' c d (by omega), List.getD_eq_getElem?_getD, arcAt_round c d (by omega), Int.add_mul]
    rfl
theorem rayK_bound (c d : List Int) : ∀ t, t ≤ (roundL c d).length → -8 * (t : Int) ≤ rayK (roundI c d) (roundL c d) t ∧ rayK (roundI c d) (roundL c d) t ≤ 12 * (t : Int)
  | 0, _ => by simp [rayK]
  | t + 1, h => by
    have ih := rayK_bound c d t (by omega)
    have hd : (roundL c d).getD t 0 = (((instF c d).arcs.length + t : Nat) : Int) := by rw [List.getD_eq_getElem?_getD, roundL_get c d (by omega)]; rfl
    have hl := roundI_len c d
    have hN := roundI_nice c d _ (List.mem_of_getElem? (arcAt_round c d (show t < (roundL c d).length by omega)))
    have := hN.k0; have := hN.k1
    rw [rayK, hd, rayD, if_pos (isArcF_iff.2 (by omega)), arcAt_round' c d (by omega)]
    omega
/-- ALONG WHAT TURNS A FLOW THAT FITS GROWS -/
theorem grows {c d x : List Int} {n : Int} (hn : 1 ≤ n ∧ n ≤ 65536) (hx : ∀ y ∈ x, 0 ≤ y ∧ y ≤ 5) (ht : turnsF (roundI c d) (roundL c d) = 0) (hf : fitsF (roundI c d) x = 0) :
    ∃ y, alongF n x (roundL c d) = some y ∧ A64 y ∧ y.length = x.length ∧ fitsF (roundI c d) y = 0 ∧ costF (roundI c d) y = costF (roundI c d) x + rayS (roundI c d) (roundL c d) * n ∧ rayS (roundI c d) (roundL c d) < 0 ∧ -56 ≤ rayS (roundI c d) (roundL c d) := by
  have hz := fitsF_zero.1 hf
  have r1 := roundL_pos c d
  have r2 := roundL_le c d
  have r3 := roundI_len c d
  have hlen := hz.2.1
  have hxj : ∀ j : Nat, 0 ≤ x.getD j 0 ∧ x.getD j 0 ≤ 5 := fun j => by
    by_cases hj : j < x.length
    · rw [List.getD_eq_getElem?_getD, List.getElem?_eq_getElem hj]; exact hx _ (List.getElem_mem hj)
    · rw [List.getD_eq_getElem?_getD, List.getElem?_eq_none (by omega)]; simp
  have hin : ∀ a ∈ roundL c d, 0 ≤ a ∧ a < (x.length : Int) := fun a ha => by
    obtain ⟨j, hj, rfl⟩ := roundLs_mem.1 ha
    rw [hlen, r3, roundL_len]
    omega
  obtain ⟨y, q1, q2, q3⟩ := along_there (n := n) (roundL c d) x (roundLs_nodup _ _) hin (fun j _ => by have := hxj j; unfold I64; omega)
  have hmem : ∀ j : Nat, ((j : Int) ∈ roundL c d) ↔ ((instF c d).arcs.length ≤ j ∧ j < (roundI c d).arcs.length) := fun j => by
    unfold roundL
    rw [roundLs_mem, r3, roundL_len]
    constructor
    · rintro ⟨t, h1, h2⟩; omega
    · intro h; exact ⟨j - (instF c d).arcs.length, by omega, by omega⟩
  obtain ⟨u, hu⟩ : ∃ u : List Int, u = (List.range (roundI c d).arcs.length).map (fun j => if (instF c d).arcs.length ≤ j then n else 0) := ⟨_, rfl⟩
  have huj : ∀ j, j < (roundI c d).arcs.length → u.getD j 0 = if (instF c d).arcs.length ≤ j then n else 0 := fun j hj => by
    rw [hu]; simp [List.getD, hj]
  have hy : ∀ j, j < (roundI c d).arcs.length → y.getD j 0 = x.getD j 0 + u.getD j 0 := fun j hj => by
    rw [q3, huj j hj]
    by_cases h : (instF c d).arcs.length ≤ j
    · rw [if_pos h, if_pos ((hmem j).2 ⟨h, hj⟩)]
    · rw [if_neg h, if_neg (fun e => h ((hmem j).1 e).1)]
  have h0 : ∀ j, j < (instF c d).arcs.length → u.getD j 0 = 0 := fun j hj => by rw [huj j (by omega), if_neg (by omega)]
  have h1 : ∀ t, t < (roundL c d).length → u.getD ((instF c d).arcs.length + t) 0 = n := fun t ht => by rw [huj _ (by omega), if_pos (by omega)]
  have hc45 : c4F (roundI c d) (roundL c d) = true ∧ c5F (roundI c d) (roundL c d) = true := by
    unfold turnsF at ht
    rw [if_neg (by have := hz.1; omega), if_neg (by omega)] at ht
    split at ht
    · rename_i h; simp only [Bool.and_eq_true] at h; exact ⟨h.1.2, h.2⟩
    · omega
  have hb := rayK_bound c d (roundL c d).length (Nat.le_refl _)
  have hneg : rayS (roundI c d) (roundL c d) < 0 := by
    have := of_decide_eq_true hc45.2
    have e : rayS (roundI c d) (roundL c d) = rayK (roundI c d) (roundL c d) (roundL c d).length := rfl
    rw [wcmp_W (by unfold I128; omega) (by unfold I128; omega)] at this
    split at this
    · assumption
    · split at this <;> omega
  refine ⟨y, q1, fun v hv => ?_, q2, fitsF_zero.2 ⟨hz.1, by omega, ?_, ?_⟩, ?_, hneg, ?_⟩
  · obtain ⟨j, hj, rfl⟩ := List.mem_iff_getElem.1 hv
    have h2 := q3 j
    have h3 := hxj j
    rw [List.getD_eq_getElem?_getD, List.getElem?_eq_getElem hj] at h2
    simp only [Option.getD_some] at h2
    rw [h2]
    unfold I64
    split <;> omega
  · rw [fitsAll_iff]
    intro j a ha
    have hfx := fitsAll_iff.1 hz.2.2.1 j a ha
    rw [q3]
    by_cases h : (j : Int) ∈ roundL c d
    · rw [if_pos h]
      have hcap := of_decide_eq_true (List.all_eq_true.1 hc45.1 _ h)
      rw [arcAt_get (by rw [Int.toNat_natCast]; exact ha)] at hcap
      unfold fitF at hfx ⊢
      simp only [Bool.and_eq_true, Bool.or_eq_true, decide_eq_true_eq] at hfx ⊢
      exact ⟨by omega, .inl hcap⟩
    · rw [if_neg h, Int.add_zero]; exact hfx
  · rw [netOk_iff]
    intro v hv
    rw [netK_add (x := x) (y := u) hy, round_net c d u n v h0 h1, Int.add_zero]
    exact netOk_iff.1 hz.2.2.2 v hv
  · unfold costF
    rw [costK_add (x := x) (y := u) hy]
    congr 1
    rw [r3, round_cost c d u n h0 h1 _ (Nat.le_refl _)]
    rfl
  · have e : rayS (roundI c d) (roundL c d) = rayK (roundI c d) (roundL c d) (roundL c d).length := rfl
    omega

def RayGrows_E0 (c : List Int) (d : List Int) (n : Int) (ty0 ty1 : TypeId) : Prop :=
      (Bytes c ∧ Bytes d ∧ c.length ≤ maxLen ∧ d.length ≤ maxLen) ∧
 (Bytes d ∧ (roundI c d).arcs.length ≤ (1000000 : Nat) ∧ L42 (roundI c d).arcs) ∧
 ((roundL c d).length ≤ (140737488351232 : Nat) ∧ A64c (roundI c d).arcs) ∧
 ((turnsF (roundI c d) (roundL c d) != (0 : Int)) = true → True ∧ (true = true ∧ True) ∧ True) ∧
 ((turnsF (roundI c d) (roundL c d) != (0 : Int)) = false →
 ((roundI c d).sup.length ≤ (10000 : Nat) ∧ (roundI c d).arcs.length ≤ (10000 : Nat) ∧ A64 (flowF (roundI c d) d) ∧ A64 (roundI c d).sup) ∧
 ((fitsF (roundI c d) (flowF (roundI c d) d) != (0 : Int)) = true → True ∧ (true = true ∧ True) ∧ True) ∧
 ((fitsF (roundI c d) (flowF (roundI c d) d) != (0 : Int)) = false →
 ((flowF (roundI c d) d).length ≤ (1000000 : Nat) ∧
 (roundL c d).length ≤ (140737488351232 : Nat) ∧ A64 (flowF (roundI c d) d) ∧ I64 (IntKind.i64.wrap (IntKind.i64.wrap n + (1 : Int)))) ∧
 (A64c (roundI c d).arcs ∧ (roundL c d).length ≤ (140737488351232 : Nat)) ∧
 (W (rayS (roundI c d) (roundL c d))).ok ∧
 (A64 (flowF (roundI c d) d) ∧ A64c (roundI c d).arcs ∧ (roundI c d).arcs.length ≤ (1000000 : Nat)) ∧
 (I64 (if I64 (W (rayS (roundI c d) (roundL c d))).v then (W (rayS (roundI c d) (roundL c d))).v else (0 : Int)) ∧
 I64 (IntKind.i64.wrap (IntKind.i64.wrap n + (1 : Int)))) ∧
 ((W (costF (roundI c d) (flowF (roundI c d) d))).ok ∧
 (W
 ((if I64 (W (rayS (roundI c d) (roundL c d))).v then (W (rayS (roundI c d) (roundL c d))).v else (0 : Int)) *
 IntKind.i64.wrap (IntKind.i64.wrap n + (1 : Int)))).ok) ∧
 True ∧
 (true = true →
 ((alongF (IntKind.i64.wrap (IntKind.i64.wrap n + (1 : Int))) (flowF (roundI c d) d) (roundL c d)).isSome = true →
 (decide (I64 (W (rayS (roundI c d) (roundL c d))).v) = true →
 (decide ((if I64 (W (rayS (roundI c d) (roundL c d))).v then (W (rayS (roundI c d) (roundL c d))).v else (0 : Int)) < (0 : Int)) = true →
 ((roundI c d).sup.length ≤ (10000 : Nat) ∧
 (roundI c d).arcs.length ≤ (10000 : Nat) ∧
 A64 ((alongF (IntKind.i64.wrap (IntKind.i64.wrap n + (1 : Int))) (flowF (roundI c d) d) (roundL c d)).getD []) ∧
 A64 (roundI c d).sup) ∧
 ((fitsF (roundI c d) ((alongF (IntKind.i64.wrap (IntKind.i64.wrap n + (1 : Int))) (flowF (roundI c d) d) (roundL c d)).getD []) ==
 (0 : Int)) =
 true →
 (A64 ((alongF (IntKind.i64.wrap (IntKind.i64.wrap n + (1 : Int))) (flowF (roundI c d) d) (roundL c d)).getD []) ∧
 A64c (roundI c d).arcs ∧ (roundI c d).arcs.length ≤ (1000000 : Nat)) ∧
 (decide
 ([(W
 (costF (roundI c d)
 ((alongF (IntKind.i64.wrap (IntKind.i64.wrap n + (1 : Int))) (flowF (roundI c d) d) (roundL c d)).getD
 []))).hi,
 (W
 (costF (roundI c d)
 ((alongF (IntKind.i64.wrap (IntKind.i64.wrap n + (1 : Int))) (flowF (roundI c d) d) (roundL c d)).getD
 []))).lo] =
 [(wplus (W (costF (roundI c d) (flowF (roundI c d) d)))
 (W
 ((if I64 (W (rayS (roundI c d) (roundL c d))).v then (W (rayS (roundI c d) (roundL c d))).v
 else (0 : Int)) *
 IntKind.i64.wrap (IntKind.i64.wrap n + (1 : Int))))).hi,
 (wplus (W (costF (roundI c d) (flowF (roundI c d) d)))
 (W
 ((if I64 (W (rayS (roundI c d) (roundL c d))).v then (W (rayS (roundI c d) (roundL c d))).v
 else (0 : Int)) *
 IntKind.i64.wrap (IntKind.i64.wrap n + (1 : Int))))).lo]) =
 true →
 (A64 ((alongF (IntKind.i64.wrap (IntKind.i64.wrap n + (1 : Int))) (flowF (roundI c d) d) (roundL c d)).getD []) ∧
 A64c (roundI c d).arcs ∧ (roundI c d).arcs.length ≤ (1000000 : Nat)) ∧
 (A64 (flowF (roundI c d) d) ∧ A64c (roundI c d).arcs ∧ (roundI c d).arcs.length ≤ (1000000 : Nat)) ∧
 ((W
 (costF (roundI c d)
 ((alongF (IntKind.i64.wrap (IntKind.i64.wrap n + (1 : Int))) (flowF (roundI c d) d) (roundL c d)).getD
 []))).ok ∧
 (W (costF (roundI c d) (flowF (roundI c d) d))).ok) ∧
 (decide
 (wcmp
 (W
 (costF (roundI c d)
 ((alongF (IntKind.i64.wrap (IntKind.i64.wrap n + (1 : Int))) (flowF (roundI c d) d)
 (roundL c d)).getD
 [])))
 (W (costF (roundI c d) (flowF (roundI c d) d))) <
 (0 : Int)) =
 true ∧
 True) ∧
 True) ∧
 (decide
 ([(W
 (costF (roundI c d)
 ((alongF (IntKind.i64.wrap (IntKind.i64.wrap n + (1 : Int))) (flowF (roundI c d) d) (roundL c d)).getD
 []))).hi,
 (W
 (costF (roundI c d)
 ((alongF (IntKind.i64.wrap (IntKind.i64.wrap n + (1 : Int))) (flowF (roundI c d) d) (roundL c d)).getD
 []))).lo] =
 [(wplus (W (costF (roundI c d) (flowF (roundI c d) d)))
 (W
 ((if I64 (W (rayS (roundI c d) (roundL c d))).v then (W (rayS (roundI c d) (roundL c d))).v
 else (0 : Int)) *
 IntKind.i64.wrap (IntKind.i64.wrap n + (1 : Int))))).hi,
 (wplus (W (costF (roundI c d) (flowF (roundI c d) d)))
 (W
 ((if I64 (W (rayS (roundI c d) (roundL c d))).v then (W (rayS (roundI c d) (roundL c d))).v
 else (0 : Int)) *
 IntKind.i64.wrap (IntKind.i64.wrap n + (1 : Int))))).lo]) =
 false →
 (false = true ∧ True) ∧ True)) ∧
 ((fitsF (roundI c d) ((alongF (IntKind.i64.wrap (IntKind.i64.wrap n + (1 : Int))) (flowF (roundI c d) d) (roundL c d)).getD []) ==
 (0 : Int)) =
 false →
 (false = true ∧ True) ∧ True)) ∧
 (decide ((if I64 (W (rayS (roundI c d) (roundL c d))).v then (W (rayS (roundI c d) (roundL c d))).v else (0 : Int)) < (0 : Int)) =
 false →
 (false = true ∧ True) ∧ True)) ∧
 (decide (I64 (W (rayS (roundI c d) (roundL c d))).v) = false → (false = true ∧ True) ∧ True)) ∧
 ((alongF (IntKind.i64.wrap (IntKind.i64.wrap n + (1 : Int))) (flowF (roundI c d) d) (roundL c d)).isSome = false →
 (false = true ∧ True) ∧ True)) ∧
 (true = false → (false = true ∧ True) ∧ True)))
theorem RayGrows_q (c : List Int) (d : List Int) (n : Int) (ty0 ty1 : TypeId) : RayGrows_E0 c d n ty0 ty1 = FVcP TT RayGrows_g (RayGrows_I c d n) (RayGrows_an c d n) Try.f8 [.row 0, .row 1, .int .u16 n] [(0, .row false ty0 (.ints .u8 c)), (1, .row false ty1 (.ints .u8 d))] (RayGrows_r c d n) := by kernel_rfl
theorem RayGrows_E (c : List Int) (d : List Int) (n : Int) (ty0 ty1 : TypeId) (hp : Bytes c ∧ Bytes d ∧ c.length ≤ maxLen ∧ d.length ≤ maxLen ∧ 0 ≤ n ∧ n ≤ 65535) : FVc TT RayGrows_g (RayGrows_I c d n) (RayGrows_an c d n) Try.f8 [.row 0, .row 1, .int .u16 n] [(0, .row false ty0 (.ints .u8 c)), (1, .row false ty1 (.ints .u8 d))] (RayGrows_r c d n) := by
  refine FVc.of (RayGrows_E0 c d n ty0 ty1) (RayGrows_q c d n ty0 ty1) ?_
  unfold RayGrows_E0
  obtain ⟨p1, p2, p3, p4, p5, p6⟩ := hp
  have r1 := roundL_pos c d
  have r2 := roundL_le c d
  have r3 := roundI_len c d
  have r4 := instF_arcs c d
  have r5 := roundI_A64c c d
  have r6 := roundI_L42 c d
  have r7 := roundI_A64 c d d
  have r8 := flowF_len (roundI c d) d
  have r9 := roundI_right c d
  have l1 := instF_sup c d
  have l3 := nOf_le d
  have l4 : (roundI c d).sup.length ≤ 10000 := by rw [roundI_sup]; omega
  have l5 : A64 (roundI c d).sup := instF_A64 c d
  have wn : IntKind.i64.wrap (IntKind.i64.wrap n + 1) = n + 1 := by rw [w64 (x := n) (by omega) (by omega), w64 (by omega) (by omega)]
  have i1 : I64 (n + 1) := by unfold I64; omega
  simp only [eq_self, exists_const, forall_const, decide_eq_true_eq, decide_eq_false_iff_not, and_true, true_and, bne_iff_ne, ne_eq, bne_eq_false_iff_eq, Int.toNat_natCast, Bool.not_eq_true', Bool.not_eq_false', beq_iff_eq, beq_eq_false_iff_ne, nilEq_true]
  simp only [wn, implies_true, true_and]
  refine ⟨⟨p1, p2, p3, p4⟩, ⟨p2, by omega, r6⟩, ⟨by omega, r5⟩, fun ht => ⟨⟨l4, by omega, r7, l5⟩, fun hf => ?_⟩⟩
  obtain ⟨y, q1, q2, q3, q4, q5, q6, q7⟩ := grows (n := n + 1) (by omega) (roundI_flow c d d) ht hf
  have hI : I64 (rayS (roundI c d) (roundL c d)) := by unfold I64; omega
  have hv : (W (rayS (roundI c d) (roundL c d))).v = rayS (roundI c d) (roundL c d) := v_of (by unfold I128; omega)
  have hcy := cost_I128 r9 q2
  have hcx := cost_I128 r9 r7
  rw [q5] at hcy
  have hneg : rayS (roundI c d) (roundL c d) * (n + 1) < 0 := Int.mul_neg_of_neg_of_pos q6 (by omega)
  have hcmp : wcmp (W (costF (roundI c d) (flowF (roundI c d) d) + rayS (roundI c d) (roundL c d) * (n + 1))) (W (costF (roundI c d) (flowF (roundI c d) d))) < 0 := by
    rw [wcmp_W hcy hcx, if_pos (by omega)]; omega
  simp only [hv, q1, hI, if_true, Option.getD_some, Option.isSome_some, q4, q5, wplus_W, hcmp, q6, not_true, false_implies, implies_true, forall_const, true_implies, and_true, true_and]
  simp [r5, r7, q2, l4, l5, i1, W_ok, hI]
  omega

theorem RayGrows_ok : SpecOk Try.prog RayGrows_n true (specOf true RayGrows_fs) :=
  spec_ok' TT_ok (show GsOk Try.prog RayGrows_g from gsOk_cons known12_ok (gsOk_cons Round_ok (gsOk_cons Flow_ok (gsOk_cons Turns_ok (gsOk_cons Fits_ok (gsOk_cons Along_ok (gsOk_cons Sum12_ok (gsOk_cons Back_ok (gsOk_cons Cost_ok (gsOk_cons Times_ok (gsOk_cons Plus_ok (gsOk_cons Compare_ok (gsOk_nil))))))))))))) (by kernel_rfl) mixedOrders Try.func8 rfl rfl (by kernel_rfl) (n := 3) (by decide +kernel) (I := RayGrows_IA) (fun _ _ => isOk_nil) (A := RayGrows_A)
    (fun args h r hr => by
      unfold RayGrows_fs at hr
      split at hr
      · rename_i n ty0 c ty1 d; cases hr; refine ⟨rfl, fun hp => ?_⟩; have hE := RayGrows_E c d n ty0 ty1 hp; exact hE
      · cases hr)

end Go.Proofs.Ytnjcklhgdpgllaa
