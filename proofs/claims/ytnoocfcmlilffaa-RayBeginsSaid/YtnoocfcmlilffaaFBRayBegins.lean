/-
  CONTRACTS, PROVED: RayBegins.
-/
import Derived.Test.YtnoocfcmlilffaaFS12
import Derived.Test.YtnoocfcmlilffaaDBRayBegins
import Derived.Test.YtnoocfcmlilffaaAid
set_option linter.unusedVariables false
set_option linter.all false
set_option linter.unusedSimpArgs false
set_option maxRecDepth 100000
namespace Go.Proofs.Ytnoocfcmlilffaa
open Go Go.RowKit Go.Ql Go.Vc

theorem roundLs_mem {b k : Nat} {x : Int} (h : x ∈ roundLs b k) : ∃ j, j < k ∧ x = ((b + j : Nat) : Int) := by
  unfold roundLs at h
  rw [List.mem_map] at h
  obtain ⟨j, hj, rfl⟩ := h
  exact ⟨j, List.mem_range.1 hj, rfl⟩
theorem roundL_get (c d : List Int) {j : Nat} (hj : j < (roundL c d).length) : (roundL c d)[j]? = some (((instF c d).arcs.length + j : Nat) : Int) := by
  rw [roundL_len] at hj
  unfold roundL roundLs
  rw [List.getElem?_map, List.getElem?_range hj]; rfl
theorem arcAt_round (c d : List Int) {j : Nat} (hj : j < (roundL c d).length) : (roundI c d).arcs[(instF c d).arcs.length + j]? = some (roundA c d (roundL c d).length j) := by
  rw [roundL_len] at hj ⊢
  rw [roundI_arcs, List.getElem?_append_right (by omega), Nat.add_sub_cancel_left]
  unfold roundAs
  rw [List.getElem?_map, List.getElem?_range hj]; rfl
theorem arcAt_round' (c d : List Int) {j : Nat} (hj : j < (roundL c d).length) : arcAt (roundI c d) (((instF c d).arcs.length + j : Nat) : Int) = roundA c d (roundL c d).length j :=
  arcAt_get (by rw [Int.toNat_natCast]; exact arcAt_round c d hj)
theorem rot_get {l : List Int} {a j : Nat} (ha : a < l.length) (hj : j < l.length) : (l.drop a ++ l.take a)[j]? = l[(a + j) % l.length]? := by
  rw [List.getElem?_append, List.length_drop]
  split
  · rw [List.getElem?_drop, Nat.mod_eq_of_lt (by omega)]
  · rw [List.getElem?_take, if_pos (by omega), Nat.mod_eq_sub_mod (by omega), Nat.mod_eq_of_lt (by omega)]
    congr 1; omega
theorem rot_len (l : List Int) (a : Nat) : (l.drop a ++ l.take a).length = l.length := by rw [List.length_append, List.length_drop, List.length_take]; omega
theorem c3_rot (c d : List Int) {a : Nat} (ha : a < (roundL c d).length) : c3F (roundI c d) ((roundL c d).drop a ++ (roundL c d).take a) = true := by
  unfold c3F
  rw [rot_len]
  refine List.all_eq_true.2 fun j hj => ?_
  have hj := List.mem_range.1 hj
  unfold linkF
  rw [rot_len]
  have h1 : (a + j) % (roundL c d).length < (roundL c d).length := Nat.mod_lt _ (by omega)
  have h2 : (j + 1) % (roundL c d).length < (roundL c d).length := Nat.mod_lt _ (by omega)
  have h3 : (a + (j + 1) % (roundL c d).length) % (roundL c d).length < (roundL c d).length := Nat.mod_lt _ (by omega)
  rw [List.getD_eq_getElem?_getD, List.getD_eq_getElem?_getD, rot_get ha hj, rot_get ha h2, roundL_get c d h1, roundL_get c d h3, Option.getD_some, Option.getD_some, arcAt_round' c d h1, arcAt_round' c d h3]
  unfold roundA
  refine decide_eq_true ?_
  dsimp only
  rw [Nat.mod_add_mod, Nat.add_mod_mod, Nat.add_assoc]
theorem all_rot (p : Int → Bool) (l : List Int) (a : Nat) : (l.drop a ++ l.take a).all p = l.all p := by
  have h : l.all p = (l.take a ++ l.drop a).all p := by rw [List.take_append_drop]
  rw [h, List.all_append, List.all_append, Bool.and_comm]
theorem rayK_sum (I : Inst) (l : List Int) : ∀ k, k ≤ l.length → rayK I l k = ((l.take k).map (rayD I)).sum
  | 0, _ => by simp [rayK]
  | k + 1, h => by
    have hk : l[k]? = some (l[k]'(by omega)) := List.getElem?_eq_getElem (by omega)
    have hd : l.getD k 0 = l[k]'(by omega) := by simp [List.getD, hk]
    rw [rayK, rayK_sum I l k (by omega), take_get hk, List.map_append, List.sum_append, hd]
    simp
theorem rayS_sum (I : Inst) (l : List Int) : rayS I l = (l.map (rayD I)).sum := by
  unfold rayS; rw [rayK_sum I l l.length (Nat.le_refl _), List.take_length]
theorem rayS_rot (I : Inst) (l : List Int) (a : Nat) : rayS I (l.drop a ++ l.take a) = rayS I l := by
  have h : rayS I l = rayS I (l.take a ++ l.drop a) := by rw [List.take_append_drop]
  rw [h, rayS_sum, rayS_sum, List.map_append, List.sum_append, List.map_append, List.sum_append, Int.add_comm]
theorem turns_rot (c d : List Int) {a : Nat} (ha : a < (roundL c d).length) : turnsF (roundI c d) (roundL c d) = turnsF (roundI c d) ((roundL c d).drop a ++ (roundL c d).take a) := by
  have h0 : c3F (roundI c d) (roundL c d) = true := by
    have := c3_rot c d (a := 0) (by omega)
    simpa using this
  have h2 : c2F ((roundL c d).drop a ++ (roundL c d).take a) = c2F (roundL c d) := by
    have hp : (((roundL c d).drop a ++ (roundL c d).take a)).Perm (roundL c d) := by
      have := List.perm_append_comm (l₁ := (roundL c d).drop a) (l₂ := (roundL c d).take a)
      rwa [List.take_append_drop] at this
    unfold c2F
    exact decide_eq_decide.2 hp.nodup_iff
  unfold turnsF c1F c4F c5F
  rw [rot_len, h0, c3_rot c d ha, h2, all_rot, all_rot, rayS_rot]
theorem turns_35 {I : Inst} {l : List Int} (h1 : rightF I = 0) (h2 : l.length ≠ 0) (h3 : l.length ≤ I.arcs.length) (h4 : c3F I l = false ∨ c4F I l = false ∨ c5F I l = false) : turnsF I l = 35 := by
  unfold turnsF
  rw [if_neg (by omega), if_neg (by omega)]
  rcases h4 with h | h | h <;> simp [h]
theorem turns_less (c d : List Int) : ¬ turnsF (roundI c d) ((roundL c d).drop 1) = 0 := by
  have r1 := roundL_pos c d
  have r3 := roundI_len c d
  have hr := roundI_right c d
  have hl : ((roundL c d).drop 1).length = (roundL c d).length - 1 := List.length_drop
  by_cases h : (roundL c d).length = 1
  · unfold turnsF
    rw [if_neg (by omega), if_pos (by omega)]; omega
  · rw [turns_35 hr (by omega) (by omega) (.inl ?_)]; · omega
    cases hc : c3F (roundI c d) ((roundL c d).drop 1) with
    | false => rfl
    | true =>
      exfalso
      have := List.all_eq_true.1 hc ((roundL c d).length - 2) (List.mem_range.2 (by omega))
      unfold linkF at this
      rw [hl, show (roundL c d).length - 2 + 1 = (roundL c d).length - 1 by omega, Nat.mod_self, List.getD_eq_getElem?_getD, List.getD_eq_getElem?_getD, List.getElem?_drop, List.getElem?_drop, roundL_get c d (by omega), roundL_get c d (by omega), Option.getD_some, Option.getD_some, arcAt_round' c d (by omega), arcAt_round' c d (by omega)] at this
      have := of_decide_eq_true this
      unfold roundA at this
      dsimp only at this
      rw [show 1 + ((roundL c d).length - 2) + 1 = (roundL c d).length by omega, Nat.mod_self] at this
      omega
theorem right_set {I : Inst} {x : Nat} {A : Arc} {n : Nat} (hn : n = I.sup.length) (h1 : n ≤ 64) (h2 : I.arcs.length ≤ 256) (h3 : ∀ a ∈ I.arcs, a.Nice n) (h4 : Within 184 I.sup) (h5 : I.sup.sum = 0) (hA : rightArcF A n = 0) : rightF ⟨I.sup, I.arcs.set x A⟩ = 0 := by
  refine right_of (by dsimp only; omega) (by simpa using h2) (fun a ha => ?_) (fun y hy => ?_) h5
  · rcases List.mem_or_eq_of_mem_set ha with ha | rfl
    · dsimp only; rw [← hn]; exact (h3 a ha).right
    · dsimp only; rw [← hn]; exact hA
  · have := h4 y hy; omega
theorem sum_bound {f : Int → Int} : ∀ l : List Int, (∀ y ∈ l, -8 ≤ f y ∧ f y ≤ 1000) → -8 * (l.length : Int) ≤ (l.map f).sum ∧ (l.map f).sum ≤ 1000 * (l.length : Int)
  | [], _ => by simp
  | y :: l, h => by
    have h1 := h y (by simp)
    have h2 := sum_bound l (fun z hz => h z (by simp [hz]))
    rw [List.map_cons, List.sum_cons, List.length_cons]
    omega

def RayBegins_E0 (c : List Int) (d : List Int) (k : Int) (ty0 ty1 : TypeId) : Prop :=
      (Bytes c ∧ Bytes d ∧ c.length ≤ maxLen ∧ d.length ≤ maxLen) ∧
 ((roundL c d).length ≤ (140737488351232 : Nat) ∧ A64c (roundI c d).arcs) ∧
 (↑(roundL c d).length : Int) ≠ (0 : Int) ∧
 ((0 : Int) ≤ (IntKind.i64.wrap k).tmod (↑(roundL c d).length : Int) ∧
 (IntKind.i64.wrap k).tmod (↑(roundL c d).length : Int) ≤ (↑(roundL c d).length : Int) ∧
 (↑(roundL c d).length : Int) ≤ (↑(roundL c d).length : Int) ∧ (↑(roundL c d).length : Int) ≤ (↑(roundL c d).length : Int)) ∧
 (0 : Nat) + (List.drop ((IntKind.i64.wrap k).tmod (↑(roundL c d).length : Int)).toNat (List.take (↑(roundL c d).length : Int).toNat (roundL c d))).length ≤
 (1000000000 : Nat) ∧
 ((0 : Int) ≤ (0 : Int) ∧
 (0 : Int) ≤ (IntKind.i64.wrap k).tmod (↑(roundL c d).length : Int) ∧
 (IntKind.i64.wrap k).tmod (↑(roundL c d).length : Int) ≤ (↑(roundL c d).length : Int) ∧ (↑(roundL c d).length : Int) ≤ (↑(roundL c d).length : Int)) ∧
 (List.drop ((IntKind.i64.wrap k).tmod (↑(roundL c d).length : Int)).toNat (List.take (↑(roundL c d).length : Int).toNat (roundL c d))).length +
 (List.drop (Int.toNat (0 : Int)) (List.take ((IntKind.i64.wrap k).tmod (↑(roundL c d).length : Int)).toNat (roundL c d))).length ≤
 (1000000000 : Nat) ∧
 ((List.drop ((IntKind.i64.wrap k).tmod (↑(roundL c d).length : Int)).toNat (List.take (↑(roundL c d).length : Int).toNat (roundL c d)) ++
 List.drop (Int.toNat (0 : Int)) (List.take ((IntKind.i64.wrap k).tmod (↑(roundL c d).length : Int)).toNat (roundL c d))).length ≤
 (140737488351232 : Nat) ∧
 A64c (roundI c d).arcs) ∧
 ((0 : Int) ≤ (1 : Int) ∧
 (1 : Int) ≤ (↑(roundL c d).length : Int) ∧
 (↑(roundL c d).length : Int) ≤ (↑(roundL c d).length : Int) ∧ (↑(roundL c d).length : Int) ≤ (↑(roundL c d).length : Int)) ∧
 ((List.drop (Int.toNat (1 : Int)) (List.take (↑(roundL c d).length : Int).toNat (roundL c d))).length ≤ (140737488351232 : Nat) ∧ A64c (roundI c d).arcs) ∧
 ((0 : Int) ≤ (IntKind.i64.wrap k).tmod (↑(roundL c d).length : Int) ∧ (IntKind.i64.wrap k).tmod (↑(roundL c d).length : Int) < (↑(roundL c d).length : Int)) ∧
 ((IntKind.i64.wrap k).tmod (↑(roundL c d).length : Int)).toNat < (roundL c d).length ∧
 ∀ (x : Int),
 (roundL c d)[((IntKind.i64.wrap k).tmod (↑(roundL c d).length : Int)).toNat]? = some x →
 ((0 : Int) ≤ x ∧ x < (↑(roundI c d).arcs.length : Int)) ∧
 x.toNat < (roundI c d).arcs.length ∧
 ∀ (x_1 : Arc),
 (roundI c d).arcs[x.toNat]? = some x_1 →
 ((roundL c d).length ≤ (140737488351232 : Nat) ∧
 A64c
 ((roundI c d).arcs.set x.toNat
 { src := x_1.src, dst := x_1.dst, low := x_1.low, cap := (1099511627776 : Int), cost := x_1.cost : Arc })) ∧
 ((0 : Int) ≤ (IntKind.i64.wrap k).tmod (↑(roundL c d).length : Int) ∧
 (IntKind.i64.wrap k).tmod (↑(roundL c d).length : Int) < (↑(roundL c d).length : Int)) ∧
 ((IntKind.i64.wrap k).tmod (↑(roundL c d).length : Int)).toNat < (roundL c d).length ∧
 ∀ (x_2 : Int),
 (roundL c d)[((IntKind.i64.wrap k).tmod (↑(roundL c d).length : Int)).toNat]? = some x_2 →
 ((0 : Int) ≤ x_2 ∧
 x_2 <
 (↑((roundI c d).arcs.set x.toNat
 { src := x_1.src, dst := x_1.dst, low := x_1.low, cap := (1099511627776 : Int), cost := x_1.cost : Arc }).length :
 Int)) ∧
 x_2.toNat <
 ((roundI c d).arcs.set x.toNat
 { src := x_1.src, dst := x_1.dst, low := x_1.low, cap := (1099511627776 : Int), cost := x_1.cost : Arc }).length ∧
 ∀ (x_3 : Arc),
 ((roundI c d).arcs.set x.toNat
 { src := x_1.src, dst := x_1.dst, low := x_1.low, cap := (1099511627776 : Int), cost := x_1.cost : Arc })[x_2.toNat]? =
 some x_3 →
 ((0 : Int) ≤ (IntKind.i64.wrap k).tmod (↑(roundL c d).length : Int) ∧
 (IntKind.i64.wrap k).tmod (↑(roundL c d).length : Int) < (↑(roundL c d).length : Int)) ∧
 ((IntKind.i64.wrap k).tmod (↑(roundL c d).length : Int)).toNat < (roundL c d).length ∧
 ∀ (x_4 : Int),
 (roundL c d)[((IntKind.i64.wrap k).tmod (↑(roundL c d).length : Int)).toNat]? = some x_4 →
 ((0 : Int) ≤ x_4 ∧
 x_4 <
 (↑(((roundI c d).arcs.set x.toNat
 { src := x_1.src, dst := x_1.dst, low := x_1.low, cap := (1099511627776 : Int), cost := x_1.cost : Arc }).set
 x_2.toNat
 { src := x_3.src, dst := x_3.dst, low := x_3.low, cap := (4611686018427387904 : Int), cost := x_3.cost : Arc }).length :
 Int)) ∧
 x_4.toNat <
 (((roundI c d).arcs.set x.toNat
 { src := x_1.src, dst := x_1.dst, low := x_1.low, cap := (1099511627776 : Int), cost := x_1.cost : Arc }).set
 x_2.toNat
 { src := x_3.src, dst := x_3.dst, low := x_3.low, cap := (4611686018427387904 : Int), cost := x_3.cost : Arc }).length ∧
 ∀ (x_5 : Arc),
 (((roundI c d).arcs.set x.toNat
 { src := x_1.src, dst := x_1.dst, low := x_1.low, cap := (1099511627776 : Int), cost := x_1.cost : Arc }).set
 x_2.toNat
 { src := x_3.src, dst := x_3.dst, low := x_3.low, cap := (4611686018427387904 : Int), cost := x_3.cost : Arc })[x_4.toNat]? =
 some x_5 →
 ((roundL c d).length ≤ (140737488351232 : Nat) ∧
 A64c
 ((((roundI c d).arcs.set x.toNat
 { src := x_1.src, dst := x_1.dst, low := x_1.low, cap := (1099511627776 : Int), cost := x_1.cost : Arc }).set
 x_2.toNat
 { src := x_3.src, dst := x_3.dst, low := x_3.low, cap := (4611686018427387904 : Int), cost := x_3.cost : Arc }).set
 x_4.toNat
 { src := x_5.src, dst := x_5.dst, low := x_5.low, cap := x_5.cap, cost := (1000 : Int) : Arc })) ∧
 True ∧
 (true = true →
 ((turnsF (roundI c d) (roundL c d) ==
 turnsF (roundI c d)
 (List.drop ((IntKind.i64.wrap k).tmod (↑(roundL c d).length : Int)).toNat
 (List.take (↑(roundL c d).length : Int).toNat (roundL c d)) ++
 List.drop (Int.toNat (0 : Int))
 (List.take ((IntKind.i64.wrap k).tmod (↑(roundL c d).length : Int)).toNat
 (roundL c d)))) =
 true →
 ((turnsF (roundI c d)
 (List.drop (Int.toNat (1 : Int))
 (List.take (↑(roundL c d).length : Int).toNat (roundL c d))) !=
 (0 : Int)) =
 true →
 ((turnsF
 { sup := (roundI c d).sup, arcs := (roundI c d).arcs.set x.toNat { src := x_1.src, dst := x_1.dst, low := x_1.low, cap := (1099511627776 : Int), cost := x_1.cost : Arc } : Inst }
 (roundL c d) ==
 (35 : Int)) =
 true →
 ((turnsF
 { sup := (roundI c d).sup, arcs := (((roundI c d).arcs.set x.toNat { src := x_1.src, dst := x_1.dst, low := x_1.low, cap := (1099511627776 : Int), cost := x_1.cost : Arc }).set x_2.toNat { src := x_3.src, dst := x_3.dst, low := x_3.low, cap := (4611686018427387904 : Int), cost := x_3.cost : Arc }).set x_4.toNat { src := x_5.src, dst := x_5.dst, low := x_5.low, cap := x_5.cap, cost := (1000 : Int) : Arc } : Inst }
 (roundL c d) ==
 (35 : Int)) =
 true ∧
 True) ∧
 True) ∧
 ((turnsF
 { sup := (roundI c d).sup, arcs := (roundI c d).arcs.set x.toNat { src := x_1.src, dst := x_1.dst, low := x_1.low, cap := (1099511627776 : Int), cost := x_1.cost : Arc } : Inst }
 (roundL c d) ==
 (35 : Int)) =
 false →
 (false = true ∧ True) ∧ True)) ∧
 ((turnsF (roundI c d)
 (List.drop (Int.toNat (1 : Int))
 (List.take (↑(roundL c d).length : Int).toNat (roundL c d))) !=
 (0 : Int)) =
 false →
 (false = true ∧ True) ∧ True)) ∧
 ((turnsF (roundI c d) (roundL c d) ==
 turnsF (roundI c d)
 (List.drop ((IntKind.i64.wrap k).tmod (↑(roundL c d).length : Int)).toNat
 (List.take (↑(roundL c d).length : Int).toNat (roundL c d)) ++
 List.drop (Int.toNat (0 : Int))
 (List.take ((IntKind.i64.wrap k).tmod (↑(roundL c d).length : Int)).toNat
 (roundL c d)))) =
 false →
 (false = true ∧ True) ∧ True)) ∧
 (true = false → (false = true ∧ True) ∧ True)
theorem RayBegins_q (c : List Int) (d : List Int) (k : Int) (ty0 ty1 : TypeId) : RayBegins_E0 c d k ty0 ty1 = FVcP TT RayBegins_g (RayBegins_I c d k) (RayBegins_an c d k) Try.f3 [.row 0, .row 1, .int .u8 k] [(0, .row false ty0 (.ints .u8 c)), (1, .row false ty1 (.ints .u8 d))] (RayBegins_r c d k) := by kernel_rfl
theorem RayBegins_E (c : List Int) (d : List Int) (k : Int) (ty0 ty1 : TypeId) (hp : Bytes c ∧ Bytes d ∧ c.length ≤ maxLen ∧ d.length ≤ maxLen ∧ 0 ≤ k ∧ k ≤ 255) : FVc TT RayBegins_g (RayBegins_I c d k) (RayBegins_an c d k) Try.f3 [.row 0, .row 1, .int .u8 k] [(0, .row false ty0 (.ints .u8 c)), (1, .row false ty1 (.ints .u8 d))] (RayBegins_r c d k) := by
  refine FVc.of (RayBegins_E0 c d k ty0 ty1) (RayBegins_q c d k ty0 ty1) ?_
  unfold RayBegins_E0
  obtain ⟨p1, p2, p3, p4, p5, p6⟩ := hp
  have r1 := roundL_pos c d
  have r2 := roundL_le c d
  have r3 := roundI_len c d
  have r4 := instF_arcs c d
  have r5 := roundI_A64c c d
  have l1 := instF_sup c d
  have l3 := nOf_le d
  obtain ⟨a, ha, ha2⟩ : ∃ a : Nat, (IntKind.i64.wrap k).tmod ((roundL c d).length : Int) = (a : Int) ∧ a < (roundL c d).length := by
    have e0 := Int.emod_nonneg k (b := ((roundL c d).length : Int)) (by omega)
    have e1 := Int.emod_lt_of_pos k (show (0 : Int) < (roundL c d).length by omega)
    refine ⟨(k % ((roundL c d).length : Int)).toNat, ?_, by omega⟩
    rw [w64 (by omega) (by omega), tmod_pos p5]; omega
  have hg := roundL_get c d ha2
  have hA := arcAt_round c d ha2
  have hN := roundI_nice c d _ (List.mem_of_getElem? hA)
  generalize roundA c d (roundL c d).length a = A at *
  simp only [eq_self, exists_const, forall_const, decide_eq_true_eq, decide_eq_false_iff_not, and_true, true_and, bne_iff_ne, ne_eq, bne_eq_false_iff_eq, Int.toNat_natCast, Bool.not_eq_true', Bool.not_eq_false', beq_iff_eq, beq_eq_false_iff_ne, nilEq_true]
  have hlr := rot_len (roundL c d) a
  have hl1 : ((roundL c d).drop a).length = (roundL c d).length - a := List.length_drop
  have hl2 : ((roundL c d).take a).length = a := by rw [List.length_take]; omega
  have hl3 : ((roundL c d).drop 1).length = (roundL c d).length - 1 := List.length_drop
  have t1 : (1 : Int).toNat = 1 := rfl
  have hrot := turns_rot c d ha2
  have hless := turns_less c d
  have hx : (instF c d).arcs.length + a < (roundI c d).arcs.length := by omega
  have hs : ∀ B : Arc, ((roundI c d).arcs.set ((instF c d).arcs.length + a) B)[(instF c d).arcs.length + a]? = some B := fun B => List.getElem?_set_self hx
  have hc : ∀ B : Arc, I64 B.cost → A64c ((roundI c d).arcs.set ((instF c d).arcs.length + a) B) := fun B hB y hy => by
    rcases List.mem_or_eq_of_mem_set hy with hy | rfl
    · exact r5 y hy
    · exact hB
  have n1 := hN.s0; have n2 := hN.s1; have n3 := hN.d0; have n4 := hN.d1; have n5 := hN.l0; have n6 := hN.l1; have n7 := hN.k0; have n8 := hN.k1
  have hr : ∀ B : Arc, rightArcF B (nOf d) = 0 → rightF ⟨(roundI c d).sup, (roundI c d).arcs.set ((instF c d).arcs.length + a) B⟩ = 0 := fun B hB => right_set (n := nOf d) (by rw [roundI_sup]; exact l1.symm) (by omega) (by omega) (roundI_nice c d) (instF_within c d) (instF_sum c d) hB
  have hm : ((((instF c d).arcs.length + a : Nat) : Int)) ∈ roundL c d := List.mem_of_getElem? hg
  have v1 : turnsF ⟨(roundI c d).sup, (roundI c d).arcs.set ((instF c d).arcs.length + a) ⟨A.src, A.dst, A.low, 1099511627776, A.cost⟩⟩ (roundL c d) = 35 := by
    refine turns_35 (hr _ ?_) (by omega) (by rw [List.length_set]; omega) (.inr (.inl ?_))
    · unfold rightArcF
      dsimp only
      rw [if_neg (by omega), if_neg (by omega), if_neg (by omega), if_neg (by omega)]
    · refine all_not hg (decide_eq_false ?_)
      rw [arcAt_get (by rw [Int.toNat_natCast]; exact hs _)]
      unfold inf
      dsimp only
      omega
  have v2 : turnsF ⟨(roundI c d).sup, (roundI c d).arcs.set ((instF c d).arcs.length + a) ⟨A.src, A.dst, A.low, 4611686018427387904, 1000⟩⟩ (roundL c d) = 35 := by
    refine turns_35 (hr _ ?_) (by omega) (by rw [List.length_set]; omega) (.inr (.inr ?_))
    · unfold rightArcF
      dsimp only
      rw [if_neg (by omega), if_neg (by omega), if_neg (by omega), if_neg (by omega)]
    · have hD : ∀ y : Int, -8 ≤ rayD ⟨(roundI c d).sup, (roundI c d).arcs.set ((instF c d).arcs.length + a) ⟨A.src, A.dst, A.low, 4611686018427387904, 1000⟩⟩ y ∧ rayD ⟨(roundI c d).sup, (roundI c d).arcs.set ((instF c d).arcs.length + a) ⟨A.src, A.dst, A.low, 4611686018427387904, 1000⟩⟩ y ≤ 1000 := fun y => by
        unfold rayD
        split
        · rename_i hy
          have hy := isArcF_iff.1 hy
          dsimp only at hy
          have hlt : y.toNat < ((roundI c d).arcs.set ((instF c d).arcs.length + a) ⟨A.src, A.dst, A.low, 4611686018427387904, 1000⟩).length := by omega
          have hget := List.getElem?_eq_getElem hlt
          rw [arcAt_get hget]
          rcases List.mem_or_eq_of_mem_set (List.mem_of_getElem? hget) with h | h
          · have h := roundI_nice c d _ h
            have := h.k0; have := h.k1
            omega
          · rw [h]; dsimp only; omega
        · omega
      have hx0 : rayD ⟨(roundI c d).sup, (roundI c d).arcs.set ((instF c d).arcs.length + a) ⟨A.src, A.dst, A.low, 4611686018427387904, 1000⟩⟩ ((((instF c d).arcs.length + a : Nat) : Int)) = 1000 := by
        unfold rayD
        rw [if_pos (isArcF_iff.2 (by dsimp only; rw [List.length_set]; omega)), arcAt_get (by rw [Int.toNat_natCast]; exact hs _)]
      generalize (⟨(roundI c d).sup, (roundI c d).arcs.set ((instF c d).arcs.length + a) ⟨A.src, A.dst, A.low, 4611686018427387904, 1000⟩⟩ : Inst) = J at *
      have e : roundL c d = (roundL c d).take a ++ ((((instF c d).arcs.length + a : Nat) : Int)) :: (roundL c d).drop (a + 1) := by rw [← drop_get hg, List.take_append_drop]
      have b1 := sum_bound (f := rayD J) ((roundL c d).take a) (fun y _ => hD y)
      have b2 := sum_bound (f := rayD J) ((roundL c d).drop (a + 1)) (fun y _ => hD y)
      have hl4 : ((roundL c d).drop (a + 1)).length = (roundL c d).length - (a + 1) := List.length_drop
      have hsum : rayS J (roundL c d) = (((roundL c d).take a).map (rayD J)).sum + (1000 + (((roundL c d).drop (a + 1)).map (rayD J)).sum) := by
        rw [rayS_sum]
        conv => lhs; rw [e]
        rw [List.map_append, List.sum_append, List.map_cons, List.sum_cons, hx0]
      unfold c5F
      refine decide_eq_false ?_
      rw [hl2] at b1
      rw [hl4] at b2
      rw [wcmp_W (by unfold I128; omega) (by unfold I128; omega), if_neg (by omega)]
      split <;> omega
  simp only [ha, t1, Int.toNat_natCast, Int.toNat_zero, List.drop_zero, List.take_length, hlr, hl1, hl2, hl3, hg, hA, hs, Option.some.injEq, forall_eq', List.length_set, List.set_set, ← hrot, hless, v1, v2, not_true, not_false_iff, false_implies, forall_const, and_true, true_and, reduceCtorEq, Bool.true_eq_false, Bool.false_eq_true, implies_true]
  have c1 := hc ⟨A.src, A.dst, A.low, 1099511627776, A.cost⟩ (by unfold I64; dsimp only; omega)
  have c2 := hc ⟨A.src, A.dst, A.low, 4611686018427387904, 1000⟩ (by unfold I64; dsimp only; omega)
  simp only [p1, p2, p3, p4, r5, c1, c2, ha2, hx, and_true, true_and]
  omega

theorem RayBegins_ok : SpecOk Try.prog RayBegins_n true (specOf true RayBegins_fs) :=
  spec_ok' TT_ok (show GsOk Try.prog RayBegins_g from gsOk_cons known12_ok (gsOk_cons Round_ok (gsOk_cons Turns_ok (gsOk_nil)))) (by kernel_rfl) mixedOrders Try.func3 rfl rfl (by kernel_rfl) (n := 3) (by decide +kernel) (I := RayBegins_IA) (fun _ _ => isOk_nil) (A := RayBegins_A)
    (fun args h r hr => by
      unfold RayBegins_fs at hr
      split at hr
      · rename_i k ty0 c ty1 d; cases hr; refine ⟨rfl, fun hp => ?_⟩; have hE := RayBegins_E c d k ty0 ty1 hp; exact hE
      · cases hr)

end Go.Proofs.Ytnoocfcmlilffaa
