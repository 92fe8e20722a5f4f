/-
  CONTRACTS, PROVED: RayNothing.
-/
import Derived.Test.YtnoocfcmlilffaaFS12
import Derived.Test.YtnoocfcmlilffaaDBRayNothing
import Derived.Test.YtnoocfcmlilffaaAid
set_option linter.unusedVariables false
set_option linter.all false
set_option linter.unusedSimpArgs false
set_option maxRecDepth 100000
namespace Go.Proofs.Ytnoocfcmlilffaa
open Go Go.RowKit Go.Ql Go.Vc

theorem along_there {n : Int} : ∀ (l x : List Int), l.Nodup → (∀ a ∈ l, 0 ≤ a ∧ a < (x.length : Int)) → (∀ j : Nat, (j : Int) ∈ l → I64 (x.getD j 0 + n)) → ∃ y, alongF n x l = some y ∧ y.length = x.length ∧ ∀ j : Nat, y.getD j 0 = x.getD j 0 + if (j : Int) ∈ l then n else 0
  | [], x, _, _, _ => ⟨x, rfl, rfl, fun j => by simp⟩
  | a :: l, x, h1, h2, h3 => by
    have ha := h2 a (by simp)
    have hn := List.nodup_cons.1 h1
    have hi : I64 (x.getD a.toNat 0 + n) := h3 a.toNat (by rw [Int.toNat_of_nonneg ha.1]; simp)
    have hg : ∀ j : Nat, (x.set a.toNat (x.getD a.toNat 0 + n)).getD j 0 = x.getD j 0 + if (j : Int) = a then n else 0 := fun j => by
      by_cases e : (j : Int) = a
      · have : a.toNat = j := by omega
        rw [this, if_pos e]; simp [List.getD, show j < x.length by omega]
      · have : a.toNat ≠ j := by omega
        rw [if_neg e]; simp [List.getD, List.getElem?_set, this]
    obtain ⟨y, q1, q2, q3⟩ := along_there (n := n) l (x.set a.toNat (x.getD a.toNat 0 + n)) hn.2 (fun b hb => by simpa using h2 b (by simp [hb])) (fun j hj => by
      have e : ¬ (j : Int) = a := fun e => hn.1 (e ▸ hj)
      rw [hg, if_neg e, Int.add_zero]; exact h3 j (by simp [hj]))
    refine ⟨y, ?_, by rw [q2]; simp, fun j => ?_⟩
    · rw [alongF, if_neg (by omega), if_pos hi, q1]
    · rw [q3, hg]
      by_cases e : (j : Int) = a
      · have e2 : ¬ (j : Int) ∈ l := fun h => hn.1 (e ▸ h)
        rw [if_pos e, if_neg e2, if_pos (by simp [e])]; omega
      · simp [e]
theorem ext_getD {x y : List Int} (h : x.length = y.length) (h2 : ∀ j : Nat, x.getD j 0 = y.getD j 0) : x = y := by
  apply List.ext_getElem h
  intro j h3 h4
  have := h2 j
  simpa [List.getD, h3, h4] using this
theorem along_back {n : Int} {l x : List Int} (h1 : l.Nodup) (h2 : ∀ a ∈ l, 0 ≤ a ∧ a < (x.length : Int)) (h3 : ∀ y ∈ x, 0 ≤ y ∧ y ≤ 5) (hn : -2147483648 ≤ n ∧ n ≤ 2147483647) : ∃ y, alongF n x l = some y ∧ y.length = x.length ∧ A64 y ∧ alongF (-n) y l = some x := by
  have hx : ∀ j : Nat, 0 ≤ x.getD j 0 ∧ x.getD j 0 ≤ 5 := fun j => by
    by_cases hj : j < x.length
    · rw [List.getD_eq_getElem?_getD, List.getElem?_eq_getElem hj]; exact h3 _ (List.getElem_mem hj)
    · rw [List.getD_eq_getElem?_getD, List.getElem?_eq_none (by omega)]; simp
  obtain ⟨y, q1, q2, q3⟩ := along_there (n := n) l x h1 h2 (fun j _ => by have := hx j; unfold I64; omega)
  have hy : ∀ j : Nat, -2147483648 ≤ y.getD j 0 ∧ y.getD j 0 ≤ 2147483652 := fun j => by
    rw [q3]
    have := hx j
    split <;> omega
  obtain ⟨z, r1, r2, r3⟩ := along_there (n := -n) l y h1 (fun a ha => by rw [q2]; exact h2 a ha) (fun j _ => by have := hy j; unfold I64; omega)
  refine ⟨y, q1, q2, fun v hv => ?_, ?_⟩
  · obtain ⟨j, hj, rfl⟩ := List.mem_iff_getElem.1 hv
    have := hy j
    rw [List.getD_eq_getElem?_getD, List.getElem?_eq_getElem hj] at this
    simp at this
    unfold I64; omega
  · rw [r1]
    congr 1
    refine ext_getD (by omega) fun j => ?_
    rw [r3, q3]
    split <;> omega
theorem roundLs_mem {b k : Nat} {x : Int} (h : x ∈ roundLs b k) : ∃ j, j < k ∧ x = ((b + j : Nat) : Int) := by
  unfold roundLs at h
  rw [List.mem_map] at h
  obtain ⟨j, hj, rfl⟩ := h
  exact ⟨j, List.mem_range.1 hj, rfl⟩
theorem roundLs_nodup (b : Nat) : ∀ k, (roundLs b k).Nodup
  | 0 => by simp [roundLs]
  | k + 1 => by
    rw [roundLs_snoc, List.nodup_append]
    refine ⟨roundLs_nodup b k, by simp, fun x hx y hy => ?_⟩
    simp only [List.mem_singleton] at hy
    obtain ⟨j, hj, rfl⟩ := roundLs_mem hx
    omega
theorem along_one (z : List Int) (a : Int) (h : A64 z) : (alongF 0 z [a]).isSome = (decide (0 ≤ a) && decide (a < (z.length : Int))) := by
  simp only [alongF]
  by_cases h1 : a < 0 ∨ (z.length : Int) ≤ a
  · rw [if_pos h1]
    rcases h1 with h1 | h1
    · simp [show ¬ 0 ≤ a by omega]
    · simp [show ¬ a < (z.length : Int) by omega]
  · rw [if_neg h1, if_pos (by rw [Int.add_zero]; exact h.getD _)]
    simp [show 0 ≤ a by omega, show a < (z.length : Int) by omega]

def RayNothing_E0 (c : List Int) (d : List Int) (x : List Int) (n : Int) (a : Int) (ty0 ty1 ty2 : TypeId) : Prop :=
      (Bytes c ∧ Bytes d ∧ c.length ≤ maxLen ∧ d.length ≤ maxLen) ∧
 (decide ((↑x.length : Int) > (200 : Int)) = true → True ∧ (true = true ∧ True) ∧ True) ∧
 (decide ((↑x.length : Int) > (200 : Int)) = false →
 (x.length ≤ (1000000 : Nat) ∧ (0 : Nat) ≤ (140737488351232 : Nat) ∧ A64 x ∧ I64 (IntKind.i64.wrap n)) ∧
 (Bytes d ∧ (roundI c d).arcs.length ≤ (1000000 : Nat) ∧ L42 (roundI c d).arcs) ∧
 ((flowF (roundI c d) d).length ≤ (1000000 : Nat) ∧ (roundL c d).length ≤ (140737488351232 : Nat) ∧ A64 (flowF (roundI c d) d) ∧ I64 (IntKind.i64.wrap n)) ∧
 (((alongF (IntKind.i64.wrap n) (flowF (roundI c d) d) (roundL c d)).getD []).length ≤ (1000000 : Nat) ∧
 (roundL c d).length ≤ (140737488351232 : Nat) ∧
 A64 ((alongF (IntKind.i64.wrap n) (flowF (roundI c d) d) (roundL c d)).getD []) ∧ I64 (IntKind.i64.wrap ((0 : Int) - IntKind.i64.wrap n))) ∧
 ((flowF (roundI c d) d).length ≤ (1000000 : Nat) ∧ (1 : Nat) ≤ (140737488351232 : Nat) ∧ A64 (flowF (roundI c d) d) ∧ I64 (0 : Int)) ∧
 True ∧
 (true = true →
 ((alongF (IntKind.i64.wrap n) x []).isSome = true →
 x.length ≤ (1000000000 : Nat) ∧
 (decide (x = (alongF (IntKind.i64.wrap n) x []).getD []) = true →
 ((alongF (IntKind.i64.wrap n) (flowF (roundI c d) d) (roundL c d)).isSome = true →
 ((alongF (IntKind.i64.wrap ((0 : Int) - IntKind.i64.wrap n)) ((alongF (IntKind.i64.wrap n) (flowF (roundI c d) d) (roundL c d)).getD [])
 (roundL c d)).isSome =
 true →
 ((alongF (IntKind.i64.wrap ((0 : Int) - IntKind.i64.wrap n)) ((alongF (IntKind.i64.wrap n) (flowF (roundI c d) d) (roundL c d)).getD [])
 (roundL c d)).getD
 []).length ≤
 (1000000000 : Nat) ∧
 (decide
 ((alongF (IntKind.i64.wrap ((0 : Int) - IntKind.i64.wrap n))
 ((alongF (IntKind.i64.wrap n) (flowF (roundI c d) d) (roundL c d)).getD []) (roundL c d)).getD
 [] =
 flowF (roundI c d) d) =
 true →
 (decide (a ≥ (0 : Int)) = true →
 (((alongF (0 : Int) (flowF (roundI c d) d) [a]).isSome == decide (a < (↑(flowF (roundI c d) d).length : Int))) = true →
 (A64c (roundI c d).arcs ∧ (0 : Nat) ≤ (140737488351232 : Nat)) ∧
 (decide ([(W (rayS (roundI c d) [])).hi, (W (rayS (roundI c d) [])).lo] = [(0 : Int), (0 : Int)]) = true ∧ True) ∧ True) ∧
 (((alongF (0 : Int) (flowF (roundI c d) d) [a]).isSome == decide (a < (↑(flowF (roundI c d) d).length : Int))) = false →
 (false = true ∧ True) ∧ True)) ∧
 (decide (a ≥ (0 : Int)) = false →
 (((alongF (0 : Int) (flowF (roundI c d) d) [a]).isSome == false) = true →
 (A64c (roundI c d).arcs ∧ (0 : Nat) ≤ (140737488351232 : Nat)) ∧
 (decide ([(W (rayS (roundI c d) [])).hi, (W (rayS (roundI c d) [])).lo] = [(0 : Int), (0 : Int)]) = true ∧ True) ∧ True) ∧
 (((alongF (0 : Int) (flowF (roundI c d) d) [a]).isSome == false) = false → (false = true ∧ True) ∧ True))) ∧
 (decide
 ((alongF (IntKind.i64.wrap ((0 : Int) - IntKind.i64.wrap n))
 ((alongF (IntKind.i64.wrap n) (flowF (roundI c d) d) (roundL c d)).getD []) (roundL c d)).getD
 [] =
 flowF (roundI c d) d) =
 false →
 (false = true ∧ True) ∧ True)) ∧
 ((alongF (IntKind.i64.wrap ((0 : Int) - IntKind.i64.wrap n)) ((alongF (IntKind.i64.wrap n) (flowF (roundI c d) d) (roundL c d)).getD [])
 (roundL c d)).isSome =
 false →
 (false = true ∧ True) ∧ True)) ∧
 ((alongF (IntKind.i64.wrap n) (flowF (roundI c d) d) (roundL c d)).isSome = false → (false = true ∧ True) ∧ True)) ∧
 (decide (x = (alongF (IntKind.i64.wrap n) x []).getD []) = false → (false = true ∧ True) ∧ True)) ∧
 ((alongF (IntKind.i64.wrap n) x []).isSome = false → (false = true ∧ True) ∧ True)) ∧
 (true = false → (false = true ∧ True) ∧ True))
theorem RayNothing_q (c : List Int) (d : List Int) (x : List Int) (n : Int) (a : Int) (ty0 ty1 ty2 : TypeId) : RayNothing_E0 c d x n a ty0 ty1 ty2 = FVcP TT RayNothing_g (RayNothing_I c d x n a) (RayNothing_an c d x n a) Try.f8 [.row 0, .row 1, .row 2, .int .i32 n, .int .i64 a] [(0, .row false ty0 (.ints .u8 c)), (1, .row false ty1 (.ints .u8 d)), (2, .row false ty2 (.ints .i64 x))] (RayNothing_r c d x n a) := by kernel_rfl
theorem RayNothing_E (c : List Int) (d : List Int) (x : List Int) (n : Int) (a : Int) (ty0 ty1 ty2 : TypeId) (hp : Bytes c ∧ Bytes d ∧ c.length ≤ maxLen ∧ d.length ≤ maxLen ∧ A64 x ∧ -2147483648 ≤ n ∧ n ≤ 2147483647 ∧ I64 a) : FVc TT RayNothing_g (RayNothing_I c d x n a) (RayNothing_an c d x n a) Try.f8 [.row 0, .row 1, .row 2, .int .i32 n, .int .i64 a] [(0, .row false ty0 (.ints .u8 c)), (1, .row false ty1 (.ints .u8 d)), (2, .row false ty2 (.ints .i64 x))] (RayNothing_r c d x n a) := by
  refine FVc.of (RayNothing_E0 c d x n a ty0 ty1 ty2) (RayNothing_q c d x n a ty0 ty1 ty2) ?_
  unfold RayNothing_E0
  obtain ⟨p1, p2, p3, p4, p5, p6, p7, p8⟩ := hp
  have r1 := roundL_pos c d
  have r2 := roundL_le c d
  have r3 := roundI_len c d
  have r4 := instF_arcs c d
  have r5 := roundI_A64c c d
  have r6 := roundI_L42 c d
  have r7 := roundI_A64 c d d
  have r8 := flowF_len (roundI c d) d
  have hin : ∀ a ∈ roundL c d, 0 ≤ a ∧ a < ((flowF (roundI c d) d).length : Int) := fun a ha => by
    obtain ⟨j, hj, rfl⟩ := roundLs_mem ha
    rw [r8, r3, roundL_len]
    omega
  obtain ⟨y, q1, q2, q3, q4⟩ := along_back (n := n) (l := roundL c d) (x := flowF (roundI c d) d) (roundLs_nodup _ _) hin (roundI_flow c d d) ⟨p6, p7⟩
  have wn : IntKind.i64.wrap n = n := w64 (by omega) (by omega)
  have wm : IntKind.i64.wrap (0 - n) = -n := by rw [w64 (by omega) (by omega)]; omega
  have h0 : alongF n x [] = some x := rfl
  have h1 := along_one (flowF (roundI c d) d) a r7
  have hS : rayS (roundI c d) [] = 0 := rfl
  have i1 : I64 n := by unfold I64; omega
  have i2 : I64 (-n) := by unfold I64; omega
  have i3 : I64 0 := by simp [I64]
  simp only [eq_self, exists_const, forall_const, decide_eq_true_eq, decide_eq_false_iff_not, and_true, true_and, bne_iff_ne, ne_eq, bne_eq_false_iff_eq, Int.toNat_natCast, Bool.not_eq_true', Bool.not_eq_false', beq_iff_eq, beq_eq_false_iff_ne, nilEq_true]
  simp only [wn, wm, q1, q4, h0, h1, hS, W_zero, Option.getD_some, Option.isSome_some, false_implies, reduceCtorEq, Bool.true_eq_false, Bool.false_eq_true, implies_true, and_true, true_and, not_true, forall_const]
  refine ⟨⟨p1, p2, p3, p4⟩, fun h2 => ⟨⟨by omega, by omega, p5, i1⟩, ⟨p2, by omega, r6⟩, ⟨by omega, by omega, r7, i1⟩, ⟨by omega, by omega, q3, i2⟩, ⟨by omega, by omega, r7, i3⟩, ?_⟩⟩
  refine ⟨by omega, by omega, fun h => ?_, fun h => ?_⟩
  · simp [show 0 ≤ a by omega, r5]
  · simp [show ¬ 0 ≤ a by omega, r5]

theorem RayNothing_ok : SpecOk Try.prog RayNothing_n true (specOf true RayNothing_fs) :=
  spec_ok' TT_ok (show GsOk Try.prog RayNothing_g from gsOk_cons known12_ok (gsOk_cons Round_ok (gsOk_cons Flow_ok (gsOk_cons Along_ok (gsOk_cons Nums_ok (gsOk_cons Sum12_ok (gsOk_nil))))))) (by kernel_rfl) mixedOrders Try.func8 rfl rfl (by kernel_rfl) (n := 5) (by decide +kernel) (I := RayNothing_IA) (fun _ _ => isOk_nil) (A := RayNothing_A)
    (fun args h r hr => by
      unfold RayNothing_fs at hr
      split at hr
      · rename_i n a ty0 c ty1 d ty2 x; cases hr; refine ⟨rfl, fun hp => ?_⟩; have hE := RayNothing_E c d x n a ty0 ty1 ty2 hp; exact hE
      · cases hr)

end Go.Proofs.Ytnoocfcmlilffaa
