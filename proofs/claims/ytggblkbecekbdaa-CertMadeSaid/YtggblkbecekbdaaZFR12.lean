/- Part of the proof, FR12. -/
import Derived.Test.YtggblkbecekbdaaZFB9
import Derived.Test.YtggblkbecekbdaaZDR12
import Derived.Test.YtggblkbecekbdaaZVc11
set_option linter.unusedVariables false
set_option linter.all false
set_option linter.unusedSimpArgs false
set_option maxRecDepth 100000
namespace Go.Proofs.Ytggblkbecekbdaa
open Go Go.RowKit Go.Ql Go.Vc
def isArc_E0 (I : Inst) (a : Int) (ty0 ty1 : TypeId) : Prop :=
      (decide (a ≥ (0 : Int)) = true → (decide (a < (↑I.arcs.length : Int)) = isArcF I a ∧ True) ∧ True) ∧ (decide (a ≥ (0 : Int)) = false → (false = isArcF I a ∧ True) ∧ True)
theorem isArc_q (I : Inst) (a : Int) (ty0 ty1 : TypeId) : isArc_E0 I a ty0 ty1 = FVcP TT isArc_g (isArc_I I a) (isArc_an I a) Try.f128 [.agg [.row 0, .row 1], .int .i64 a] [(0, .row false ty0 (.ints .i64 I.sup)), (1, .row false ty1 (.arcs I.arcs))] (isArc_r I a) := by kernel_rfl
theorem isArc_E (I : Inst) (a : Int) (ty0 ty1 : TypeId) (hp : True) : FVc TT isArc_g (isArc_I I a) (isArc_an I a) Try.f128 [.agg [.row 0, .row 1], .int .i64 a] [(0, .row false ty0 (.ints .i64 I.sup)), (1, .row false ty1 (.arcs I.arcs))] (isArc_r I a) := by
  refine FVc.of (isArc_E0 I a ty0 ty1) (isArc_q I a ty0 ty1) ?_
  unfold isArc_E0
  simp only [eq_self, exists_const, forall_const, decide_eq_true_eq, decide_eq_false_iff_not, and_true, true_and, bne_iff_ne, ne_eq, bne_eq_false_iff_eq, Int.toNat_natCast, Bool.not_eq_true', Bool.not_eq_false', beq_iff_eq, beq_eq_false_iff_ne, nilEq_true]
  refine ⟨fun h => ?_, fun h => ?_⟩
  · simp [isArcF, show 0 ≤ a by omega]
  · simp [isArcF, show ¬ 0 ≤ a by omega]
theorem isArc_ok : SpecOk Try.prog isArc_n true (specOf true isArc_fs) :=
  spec_ok' TT_ok (show GsOk Try.prog isArc_g from gsOk_nil) (by kernel_rfl) mixedOrders Try.func128 rfl rfl (by kernel_rfl) (n := 2) (by decide +kernel) (I := isArc_IA) (fun _ _ => isOk_nil) (A := isArc_A)
    (fun args h r hr => by
      unfold isArc_fs at hr
      split at hr
      · rename_i a ty0 I_s ty1 I_a; cases hr; refine ⟨rfl, fun hp => ?_⟩; have hE := isArc_E ⟨I_s, I_a⟩ a ty0 ty1 hp; exact hE
      · cases hr)
def Sum12_E0 (I : Inst) (l : List Int) (ty0 ty1 ty2 : TypeId) : Prop :=
      ∃ (g0 : Nat),
 (g0 ≤ l.length ∧
 ((0 : Nat) = (0 : Nat) ∧ (0 : Nat) = (0 : Nat) ∧ (0 : Nat) = (0 : Nat) ∧ True ∧ (↑l.length : Int) = (↑l.length : Int) ∧ (0 : Int) = (↑g0 : Int) ∧ True) ∧
 ((0 : Int) = (W (rayK I l g0)).hi ∧ (0 : Int) = (W (rayK I l g0)).lo ∧ True) ∧
 ((0 : Int) = (0 : Int) ∧ (0 : Int) = (0 : Int) ∧ True) ∧ (True ∧ True ∧ True) ∧ I.sup = I.sup ∧ I.arcs = I.arcs ∧ l = l ∧ True) ∧
 ∀ (g : Nat),
 g ≤ l.length →
 (decide ((↑g : Int) < (↑l.length : Int)) = true →
 ((0 : Int) ≤ (↑g : Int) ∧ (↑g : Int) < (↑l.length : Int)) ∧
 (↑g : Int).toNat < l.length ∧
 ∀ (x : Int),
 l[(↑g : Int).toNat]? = some x →
 True ∧
 (isArcF I x = true →
 ((0 : Int) ≤ x ∧ x < (↑I.arcs.length : Int)) ∧
 x.toNat < I.arcs.length ∧
 ∀ (x_1 : Arc),
 I.arcs[x.toNat]? = some x_1 →
 I64 x_1.cost ∧
 ((W (rayK I l g)).ok ∧ (W x_1.cost).ok) ∧
 ∃ (g' : Nat),
 g' ≤ l.length ∧
 l.length - g' < l.length - g ∧
 ((0 : Nat) = (0 : Nat) ∧
 (0 : Nat) = (0 : Nat) ∧
 (0 : Nat) = (0 : Nat) ∧
 True ∧ (↑l.length : Int) = (↑l.length : Int) ∧ IntKind.i64.wrap ((↑g : Int) + (1 : Int)) = (↑g' : Int) ∧ True) ∧
 ((wplus (W (rayK I l g)) (W x_1.cost)).hi = (W (rayK I l g')).hi ∧
 (wplus (W (rayK I l g)) (W x_1.cost)).lo = (W (rayK I l g')).lo ∧ True) ∧
 ((0 : Int) = (0 : Int) ∧ (0 : Int) = (0 : Int) ∧ True) ∧ (True ∧ True ∧ True) ∧ I.sup = I.sup ∧ I.arcs = I.arcs ∧ l = l ∧ True) ∧
 (isArcF I x = false →
 ∃ (g' : Nat),
 g' ≤ l.length ∧
 l.length - g' < l.length - g ∧
 ((0 : Nat) = (0 : Nat) ∧
 (0 : Nat) = (0 : Nat) ∧
 (0 : Nat) = (0 : Nat) ∧ True ∧ (↑l.length : Int) = (↑l.length : Int) ∧ IntKind.i64.wrap ((↑g : Int) + (1 : Int)) = (↑g' : Int) ∧ True) ∧
 ((W (rayK I l g)).hi = (W (rayK I l g')).hi ∧ (W (rayK I l g)).lo = (W (rayK I l g')).lo ∧ True) ∧
 ((0 : Int) = (0 : Int) ∧ (0 : Int) = (0 : Int) ∧ True) ∧ (True ∧ True ∧ True) ∧ I.sup = I.sup ∧ I.arcs = I.arcs ∧ l = l ∧ True)) ∧
 (decide ((↑g : Int) < (↑l.length : Int)) = false → (((W (rayK I l g)).hi = (W (rayS I l)).hi ∧ (W (rayK I l g)).lo = (W (rayS I l)).lo ∧ True) ∧ True) ∧ True)
theorem Sum12_q (I : Inst) (l : List Int) (ty0 ty1 ty2 : TypeId) : Sum12_E0 I l ty0 ty1 ty2 = FVcP TT Sum12_g (Sum12_I I l) (Sum12_an I l) Try.f133 [.agg [.row 0, .row 1], .row 2] [(0, .row false ty0 (.ints .i64 I.sup)), (1, .row false ty1 (.arcs I.arcs)), (2, .row false ty2 (.ints .i64 l))] (Sum12_r I l) := by kernel_rfl
theorem Sum12_E (I : Inst) (l : List Int) (ty0 ty1 ty2 : TypeId) (hp : A64c I.arcs ∧ l.length ≤ 140737488351232) : FVc TT Sum12_g (Sum12_I I l) (Sum12_an I l) Try.f133 [.agg [.row 0, .row 1], .row 2] [(0, .row false ty0 (.ints .i64 I.sup)), (1, .row false ty1 (.arcs I.arcs)), (2, .row false ty2 (.ints .i64 l))] (Sum12_r I l) := by
  refine FVc.of (Sum12_E0 I l ty0 ty1 ty2) (Sum12_q I l ty0 ty1 ty2) ?_
  unfold Sum12_E0
  obtain ⟨p1, p2⟩ := hp
  simp only [eq_self, exists_const, forall_const, decide_eq_true_eq, decide_eq_false_iff_not, and_true, true_and, bne_iff_ne, ne_eq, bne_eq_false_iff_eq, Int.toNat_natCast, Bool.not_eq_true', Bool.not_eq_false', beq_iff_eq, beq_eq_false_iff_ne, nilEq_true]
  refine ⟨0, ⟨Nat.zero_le _, rfl, by simp only [rayK]; decide, by simp only [rayK]; decide⟩, fun g hg => ⟨fun h1 => ⟨by omega, by omega, fun x hx => ?_⟩, fun h1 => ?_⟩⟩
  · have wk : IntKind.i64.wrap ((g : Int) + 1) = ((g + 1 : Nat) : Int) := by rw [w64 (by omega) (by omega)]; omega
    have hd : l.getD g 0 = x := by simp [List.getD, hx]
    refine ⟨fun h2 => ⟨isArcF_iff.1 h2, by have := isArcF_iff.1 h2; omega, fun a ha => ⟨p1 a (List.mem_of_getElem? ha), ⟨W_ok _, W_ok _⟩, g + 1, by omega, by omega, wk, ?_⟩⟩, fun h2 => ⟨g + 1, by omega, by omega, wk, ?_⟩⟩
    · simp only [rayK, hd, rayD, h2, if_true, arcAt_get ha, wplus_W, and_self]
    · simp only [rayK, hd, rayD, h2, if_false, Int.add_zero, Bool.false_eq_true, and_self]
  · rw [show g = l.length by omega]
    exact ⟨rfl, rfl⟩
theorem Sum12_ok : SpecOk Try.prog Sum12_n true (specOf true Sum12_fs) :=
  spec_ok' TT_ok (show GsOk Try.prog Sum12_g from gsOk_cons isArc_ok (gsOk_cons Plus_ok (gsOk_cons Of_ok (gsOk_nil)))) (by kernel_rfl) mixedOrders Try.func133 rfl rfl (by kernel_rfl) (n := 2) (by decide +kernel) (I := Sum12_IA) (fun _ _ => isOk_nil) (A := Sum12_A)
    (fun args h r hr => by
      unfold Sum12_fs at hr
      split at hr
      · rename_i ty0 I_s ty1 I_a ty2 l; cases hr; refine ⟨rfl, fun hp => ?_⟩; have hE := Sum12_E ⟨I_s, I_a⟩ l ty0 ty1 ty2 hp; exact hE
      · cases hr)
def asked1_E0 (l : List Int) (I : Inst) (ty1 ty3 ty4 : TypeId) : Prop :=
      ∃ (g0 : Nat),
 ((g0 ≤ l.length ∧ (List.take g0 l).all (isArcF I) = true) ∧
 ((0 : Nat) = (0 : Nat) ∧ True ∧ (↑l.length : Int) = (↑l.length : Int) ∧ (0 : Int) = (↑g0 : Int) ∧ True) ∧
 l = l ∧ (True ∧ True ∧ True) ∧ I.sup = I.sup ∧ I.arcs = I.arcs ∧ True) ∧
 ∀ (g : Nat),
 g ≤ l.length ∧ (List.take g l).all (isArcF I) = true →
 (decide ((↑g : Int) < (↑l.length : Int)) = true →
 ((0 : Int) ≤ (↑g : Int) ∧ (↑g : Int) < (↑l.length : Int)) ∧
 (↑g : Int).toNat < l.length ∧
 ∀ (x : Int),
 l[(↑g : Int).toNat]? = some x →
 True ∧
 ((!isArcF I x) = true → (false = c1F I l ∧ True) ∧ True) ∧
 ((!isArcF I x) = false →
 ∃ (g' : Nat),
 (g' ≤ l.length ∧ (List.take g' l).all (isArcF I) = true) ∧
 l.length - g' < l.length - g ∧
 ((0 : Nat) = (0 : Nat) ∧ True ∧ (↑l.length : Int) = (↑l.length : Int) ∧ IntKind.i64.wrap ((↑g : Int) + (1 : Int)) = (↑g' : Int) ∧ True) ∧
 l = l ∧ (True ∧ True ∧ True) ∧ I.sup = I.sup ∧ I.arcs = I.arcs ∧ True)) ∧
 (decide ((↑g : Int) < (↑l.length : Int)) = false → (true = c1F I l ∧ True) ∧ True)
theorem asked1_q (l : List Int) (I : Inst) (ty1 ty3 ty4 : TypeId) : asked1_E0 l I ty1 ty3 ty4 = FVcP TT asked1_g (asked1_I l I) (asked1_an l I) Try.f127 [.ptr 0 0 0 0, .ptr 2 0 0 0] [(0, .box false 25 [.row 1]), (1, .row false ty1 (.ints .i64 l)), (2, .box false 30 [.row 3, .row 4]), (3, .row false ty3 (.ints .i64 I.sup)), (4, .row false ty4 (.arcs I.arcs))] (asked1_r l I) := by kernel_rfl
theorem asked1_E (l : List Int) (I : Inst) (ty1 ty3 ty4 : TypeId) (hp : l.length ≤ 140737488351232) : FVc TT asked1_g (asked1_I l I) (asked1_an l I) Try.f127 [.ptr 0 0 0 0, .ptr 2 0 0 0] [(0, .box false 25 [.row 1]), (1, .row false ty1 (.ints .i64 l)), (2, .box false 30 [.row 3, .row 4]), (3, .row false ty3 (.ints .i64 I.sup)), (4, .row false ty4 (.arcs I.arcs))] (asked1_r l I) := by
  refine FVc.of (asked1_E0 l I ty1 ty3 ty4) (asked1_q l I ty1 ty3 ty4) ?_
  unfold asked1_E0
  simp only [eq_self, exists_const, forall_const, decide_eq_true_eq, decide_eq_false_iff_not, and_true, true_and, bne_iff_ne, ne_eq, bne_eq_false_iff_eq, Int.toNat_natCast, Bool.not_eq_true', Bool.not_eq_false', beq_iff_eq, beq_eq_false_iff_ne, nilEq_true]
  refine ⟨0, ⟨⟨by omega, rfl⟩, rfl⟩, fun g hg => ⟨fun h1 => ⟨by omega, by omega, fun x hx => ⟨fun h2 => (all_not hx h2).symm, fun h2 => ⟨g + 1, ⟨by omega, by rw [all_take hx, hg.2, h2]; rfl⟩, by omega, by rw [w64 (by omega) (by omega)]; omega⟩⟩⟩, fun h1 => (all_end hg.2 (by omega)).symm⟩⟩
theorem asked1_ok : SpecOk Try.prog asked1_n true (specOf true asked1_fs) :=
  spec_ok' TT_ok (show GsOk Try.prog asked1_g from gsOk_cons isArc_ok (gsOk_nil)) (by kernel_rfl) mixedOrders Try.func127 rfl rfl (by kernel_rfl) (n := 2) (by decide +kernel) (I := asked1_IA) (fun _ _ => isOk_nil) (A := asked1_A)
    (fun args h r hr => by
      unfold asked1_fs at hr
      split at hr
      · rename_i ty1 l ty3 I_s ty4 I_a; cases hr; refine ⟨rfl, fun hp => ?_⟩; have hE := asked1_E l ⟨I_s, I_a⟩ ty1 ty3 ty4 hp; exact hE
      · cases hr)
def asked2_E0 (l : List Int) (ty1 : TypeId) : Prop :=
      ∃ (g0 : Nat),
 ((g0 ≤ l.length ∧ nodI (List.take g0 l)) ∧ (True ∧ True ∧ (↑l.length : Int) = (↑l.length : Int) ∧ (0 : Int) = (↑g0 : Int) ∧ True) ∧ [] = metM (List.take g0 l) ∧ l = l ∧ True) ∧
 ∀ (g : Nat),
 g ≤ l.length ∧ nodI (List.take g l) →
 (decide ((↑g : Int) < (↑l.length : Int)) = true →
 ((0 : Int) ≤ (↑g : Int) ∧ (↑g : Int) < (↑l.length : Int)) ∧
 (↑g : Int).toNat < l.length ∧
 ∀ (x : Int),
 l[(↑g : Int).toNat]? = some x →
 (((mget (metM (List.take g l)) [x]).getD (0 : Int) == (1 : Int)) = true → (false = c2F l ∧ True) ∧ True) ∧
 (((mget (metM (List.take g l)) [x]).getD (0 : Int) == (1 : Int)) = false →
 ∃ (g' : Nat),
 (g' ≤ l.length ∧ nodI (List.take g' l)) ∧
 l.length - g' < l.length - g ∧
 (True ∧ True ∧ (↑l.length : Int) = (↑l.length : Int) ∧ IntKind.i64.wrap ((↑g : Int) + (1 : Int)) = (↑g' : Int) ∧ True) ∧
 mput (metM (List.take g l)) [x] (bif true then (1 : Int) else (0 : Int)) = metM (List.take g' l) ∧ l = l ∧ True)) ∧
 (decide ((↑g : Int) < (↑l.length : Int)) = false → (true = c2F l ∧ True) ∧ True)
theorem asked2_q (l : List Int) (ty1 : TypeId) : asked2_E0 l ty1 = FVcP TT asked2_g (asked2_I l) (asked2_an l) Try.f129 [.ptr 0 0 0 0] [(0, .box false 25 [.row 1]), (1, .row false ty1 (.ints .i64 l))] (asked2_r l) := by kernel_rfl
theorem asked2_E (l : List Int) (ty1 : TypeId) (hp : l.length ≤ 140737488351232) : FVc TT asked2_g (asked2_I l) (asked2_an l) Try.f129 [.ptr 0 0 0 0] [(0, .box false 25 [.row 1]), (1, .row false ty1 (.ints .i64 l))] (asked2_r l) := by
  refine FVc.of (asked2_E0 l ty1) (asked2_q l ty1) ?_
  unfold asked2_E0
  simp only [eq_self, exists_const, forall_const, decide_eq_true_eq, decide_eq_false_iff_not, and_true, true_and, bne_iff_ne, ne_eq, bne_eq_false_iff_eq, Int.toNat_natCast, Bool.not_eq_true', Bool.not_eq_false', beq_iff_eq, beq_eq_false_iff_ne, nilEq_true]
  refine ⟨0, ⟨⟨by omega, List.nodup_nil⟩, rfl, rfl⟩, fun g hg => ⟨fun h1 => ⟨by omega, by omega, fun x hx => ?_⟩, fun h1 => (nodI_end hg.2 (by omega)).symm⟩⟩
  rw [mget_metM]
  by_cases hm : x ∈ l.take g
  · simp only [hm, if_true, Option.getD_some, not_true, false_implies, and_true, forall_const]
    exact (nodI_not hx hm).symm
  · simp only [hm, if_false, Option.getD_none]
    refine ⟨fun h => by omega, fun _ => ⟨g + 1, ⟨by omega, nodI_take hx hg.2 hm⟩, by omega, by rw [w64 (by omega) (by omega)]; omega, ?_⟩⟩
    rw [take_get hx]
    exact mput_metM hm
theorem asked2_ok : SpecOk Try.prog asked2_n true (specOf true asked2_fs) :=
  spec_ok' TT_ok (show GsOk Try.prog asked2_g from gsOk_nil) (by kernel_rfl) mixedOrders Try.func129 rfl rfl (by kernel_rfl) (n := 1) (by decide +kernel) (I := asked2_IA) (fun _ _ => isOk_nil) (A := asked2_A)
    (fun args h r hr => by
      unfold asked2_fs at hr
      split at hr
      · rename_i ty1 l; cases hr; refine ⟨rfl, fun hp => ?_⟩; have hE := asked2_E l ty1 hp; exact hE
      · cases hr)
def asked3_E0 (l : List Int) (I : Inst) (ty1 ty3 ty4 : TypeId) : Prop :=
      ∃ (g0 : Nat),
 ((g0 ≤ l.length ∧ ∀ (j : Nat), j < g0 → linkF I l j = true) ∧
 ((0 : Nat) = (0 : Nat) ∧ (0 : Nat) = (0 : Nat) ∧ True ∧ (↑l.length : Int) = (↑l.length : Int) ∧ (0 : Int) = (↑g0 : Int) ∧ True) ∧
 (True ∧ True) ∧ l = l ∧ (True ∧ True ∧ True) ∧ I.sup = I.sup ∧ I.arcs = I.arcs ∧ True) ∧
 ∀ (g : Nat),
 (g ≤ l.length ∧ ∀ (j : Nat), j < g → linkF I l j = true) →
 (decide ((↑g : Int) < (↑l.length : Int)) = true →
 ((0 : Int) ≤ (↑g : Int) ∧ (↑g : Int) < (↑l.length : Int)) ∧
 (↑g : Int).toNat < l.length ∧
 ∀ (x : Int),
 l[(↑g : Int).toNat]? = some x →
 (↑l.length : Int) ≠ (0 : Int) ∧
 ((0 : Int) ≤ (IntKind.i64.wrap ((↑g : Int) + (1 : Int))).tmod (↑l.length : Int) ∧
 (IntKind.i64.wrap ((↑g : Int) + (1 : Int))).tmod (↑l.length : Int) < (↑l.length : Int)) ∧
 ((IntKind.i64.wrap ((↑g : Int) + (1 : Int))).tmod (↑l.length : Int)).toNat < l.length ∧
 ∀ (x_1 : Int),
 l[((IntKind.i64.wrap ((↑g : Int) + (1 : Int))).tmod (↑l.length : Int)).toNat]? = some x_1 →
 ((0 : Int) ≤ x ∧ x < (↑I.arcs.length : Int)) ∧
 x.toNat < I.arcs.length ∧
 ∀ (x_2 : Arc),
 I.arcs[x.toNat]? = some x_2 →
 ((0 : Int) ≤ x_1 ∧ x_1 < (↑I.arcs.length : Int)) ∧
 x_1.toNat < I.arcs.length ∧
 ∀ (x : Arc),
 I.arcs[x_1.toNat]? = some x →
 ((x_2.dst != x.src) = true → (false = c3F I l ∧ True) ∧ True) ∧
 ((x_2.dst != x.src) = false →
 ∃ (g' : Nat),
 (g' ≤ l.length ∧ ∀ (j : Nat), j < g' → linkF I l j = true) ∧
 l.length - g' < l.length - g ∧
 ((0 : Nat) = (0 : Nat) ∧
 (0 : Nat) = (0 : Nat) ∧
 True ∧ (↑l.length : Int) = (↑l.length : Int) ∧ IntKind.i64.wrap ((↑g : Int) + (1 : Int)) = (↑g' : Int) ∧ True) ∧
 (True ∧ True) ∧ l = l ∧ (True ∧ True ∧ True) ∧ I.sup = I.sup ∧ I.arcs = I.arcs ∧ True)) ∧
 (decide ((↑g : Int) < (↑l.length : Int)) = false → (true = c3F I l ∧ True) ∧ True)
theorem asked3_q (l : List Int) (I : Inst) (ty1 ty3 ty4 : TypeId) : asked3_E0 l I ty1 ty3 ty4 = FVcP TT asked3_g (asked3_I l I) (asked3_an l I) Try.f130 [.ptr 0 0 0 0, .ptr 2 0 0 0] [(0, .box false 25 [.row 1]), (1, .row false ty1 (.ints .i64 l)), (2, .box false 30 [.row 3, .row 4]), (3, .row false ty3 (.ints .i64 I.sup)), (4, .row false ty4 (.arcs I.arcs))] (asked3_r l I) := by kernel_rfl
theorem asked3_E (l : List Int) (I : Inst) (ty1 ty3 ty4 : TypeId) (hp : l.length ≤ 140737488351232 ∧ c1F I l = true) : FVc TT asked3_g (asked3_I l I) (asked3_an l I) Try.f130 [.ptr 0 0 0 0, .ptr 2 0 0 0] [(0, .box false 25 [.row 1]), (1, .row false ty1 (.ints .i64 l)), (2, .box false 30 [.row 3, .row 4]), (3, .row false ty3 (.ints .i64 I.sup)), (4, .row false ty4 (.arcs I.arcs))] (asked3_r l I) := by
  refine FVc.of (asked3_E0 l I ty1 ty3 ty4) (asked3_q l I ty1 ty3 ty4) ?_
  unfold asked3_E0
  obtain ⟨p1, p2⟩ := hp
  simp only [eq_self, exists_const, forall_const, decide_eq_true_eq, decide_eq_false_iff_not, and_true, true_and, bne_iff_ne, ne_eq, bne_eq_false_iff_eq, Int.toNat_natCast, Bool.not_eq_true', Bool.not_eq_false', beq_iff_eq, beq_eq_false_iff_ne, nilEq_true]
  refine ⟨0, ⟨⟨by omega, fun j hj => by omega⟩, rfl⟩, fun g hg => ⟨fun h1 => ⟨by omega, by omega, fun x hx => ?_⟩, fun h1 => ?_⟩⟩
  · have hm : (IntKind.i64.wrap ((g : Int) + 1)).tmod (l.length : Int) = (((g + 1) % l.length : Nat) : Int) := by rw [w64 (by omega) (by omega), tmod_pos (by omega)]; norm_cast
    have hlt : (g + 1) % l.length < l.length := Nat.mod_lt _ (by omega)
    rw [hm]
    simp only [Int.toNat_natCast]
    refine ⟨by omega, by omega, by omega, fun y hy => ?_⟩
    have hcx := c1F_get p2 hx
    have hcy := c1F_get p2 hy
    refine ⟨hcx, by omega, fun a ha => ⟨hcy, by omega, fun b hb => ?_⟩⟩
    have hl : linkF I l g = decide (a.dst = b.src) := by
      unfold linkF
      have d1 : l.getD g 0 = x := by simp [List.getD, hx]
      have d2 : l.getD ((g + 1) % l.length) 0 = y := by simp [List.getD, hy]
      rw [d1, d2, arcAt_get ha, arcAt_get hb]
    refine ⟨fun h2 => ?_, fun h2 => ⟨g + 1, ⟨by omega, fun j hj => ?_⟩, by omega, by rw [w64 (by omega) (by omega)]; omega⟩⟩
    · have h3 : linkF I l g = false := by rw [hl]; exact decide_eq_false h2
      cases hc : c3F I l with
      | false => rfl
      | true => have := List.all_eq_true.1 hc g (List.mem_range.2 (by omega)); rw [h3] at this; cases this
    · by_cases e : j = g
      · subst e; rw [hl]; exact decide_eq_true h2
      · exact hg.2 j (by omega)
  · have : c3F I l = true := List.all_eq_true.2 fun j hj => hg.2 j (by have := List.mem_range.1 hj; omega)
    exact this.symm
theorem asked3_ok : SpecOk Try.prog asked3_n true (specOf true asked3_fs) :=
  spec_ok' TT_ok (show GsOk Try.prog asked3_g from gsOk_nil) (by kernel_rfl) mixedOrders Try.func130 rfl rfl (by kernel_rfl) (n := 2) (by decide +kernel) (I := asked3_IA) (fun _ _ => isOk_nil) (A := asked3_A)
    (fun args h r hr => by
      unfold asked3_fs at hr
      split at hr
      · rename_i ty1 l ty3 I_s ty4 I_a; cases hr; refine ⟨rfl, fun hp => ?_⟩; have hE := asked3_E l ⟨I_s, I_a⟩ ty1 ty3 ty4 hp; exact hE
      · cases hr)
def asked4_E0 (l : List Int) (I : Inst) (ty1 ty3 ty4 : TypeId) : Prop :=
      ∃ (g0 : Nat),
 ((g0 ≤ l.length ∧ ((List.take g0 l).all fun (a : Int) => decide ((arcAt I a).cap = inf)) = true) ∧
 ((0 : Nat) = (0 : Nat) ∧ True ∧ (↑l.length : Int) = (↑l.length : Int) ∧ (0 : Int) = (↑g0 : Int) ∧ True) ∧
 l = l ∧ (True ∧ True ∧ True) ∧ I.sup = I.sup ∧ I.arcs = I.arcs ∧ True) ∧
 ∀ (g : Nat),
 g ≤ l.length ∧ ((List.take g l).all fun (a : Int) => decide ((arcAt I a).cap = inf)) = true →
 (decide ((↑g : Int) < (↑l.length : Int)) = true →
 ((0 : Int) ≤ (↑g : Int) ∧ (↑g : Int) < (↑l.length : Int)) ∧
 (↑g : Int).toNat < l.length ∧
 ∀ (x : Int),
 l[(↑g : Int).toNat]? = some x →
 ((0 : Int) ≤ x ∧ x < (↑I.arcs.length : Int)) ∧
 x.toNat < I.arcs.length ∧
 ∀ (x_1 : Arc),
 I.arcs[x.toNat]? = some x_1 →
 ((x_1.cap != (4611686018427387904 : Int)) = true → (false = c4F I l ∧ True) ∧ True) ∧
 ((x_1.cap != (4611686018427387904 : Int)) = false →
 ∃ (g' : Nat),
 (g' ≤ l.length ∧ ((List.take g' l).all fun (a : Int) => decide ((arcAt I a).cap = inf)) = true) ∧
 l.length - g' < l.length - g ∧
 ((0 : Nat) = (0 : Nat) ∧ True ∧ (↑l.length : Int) = (↑l.length : Int) ∧ IntKind.i64.wrap ((↑g : Int) + (1 : Int)) = (↑g' : Int) ∧ True) ∧
 l = l ∧ (True ∧ True ∧ True) ∧ I.sup = I.sup ∧ I.arcs = I.arcs ∧ True)) ∧
 (decide ((↑g : Int) < (↑l.length : Int)) = false → (true = c4F I l ∧ True) ∧ True)
theorem asked4_q (l : List Int) (I : Inst) (ty1 ty3 ty4 : TypeId) : asked4_E0 l I ty1 ty3 ty4 = FVcP TT asked4_g (asked4_I l I) (asked4_an l I) Try.f131 [.ptr 0 0 0 0, .ptr 2 0 0 0] [(0, .box false 25 [.row 1]), (1, .row false ty1 (.ints .i64 l)), (2, .box false 30 [.row 3, .row 4]), (3, .row false ty3 (.ints .i64 I.sup)), (4, .row false ty4 (.arcs I.arcs))] (asked4_r l I) := by kernel_rfl
theorem asked4_E (l : List Int) (I : Inst) (ty1 ty3 ty4 : TypeId) (hp : l.length ≤ 140737488351232 ∧ c1F I l = true) : FVc TT asked4_g (asked4_I l I) (asked4_an l I) Try.f131 [.ptr 0 0 0 0, .ptr 2 0 0 0] [(0, .box false 25 [.row 1]), (1, .row false ty1 (.ints .i64 l)), (2, .box false 30 [.row 3, .row 4]), (3, .row false ty3 (.ints .i64 I.sup)), (4, .row false ty4 (.arcs I.arcs))] (asked4_r l I) := by
  refine FVc.of (asked4_E0 l I ty1 ty3 ty4) (asked4_q l I ty1 ty3 ty4) ?_
  unfold asked4_E0
  obtain ⟨p1, p2⟩ := hp
  simp only [eq_self, exists_const, forall_const, decide_eq_true_eq, decide_eq_false_iff_not, and_true, true_and, bne_iff_ne, ne_eq, bne_eq_false_iff_eq, Int.toNat_natCast, Bool.not_eq_true', Bool.not_eq_false', beq_iff_eq, beq_eq_false_iff_ne, nilEq_true]
  refine ⟨0, ⟨⟨by omega, rfl⟩, rfl⟩, fun g hg => ⟨fun h1 => ⟨by omega, by omega, fun x hx => ⟨c1F_get p2 hx, by have := c1F_get p2 hx; omega, fun a ha => ⟨fun h2 => ?_, fun h2 => ⟨g + 1, ⟨by omega, ?_⟩, by omega, by rw [w64 (by omega) (by omega)]; omega⟩⟩⟩⟩, fun h1 => (all_end hg.2 (by omega)).symm⟩⟩
  · exact (all_not hx (decide_eq_false (by rw [arcAt_get ha]; exact h2))).symm
  · rw [all_take hx, hg.2, arcAt_get ha]
    simp [inf, h2]
theorem asked4_ok : SpecOk Try.prog asked4_n true (specOf true asked4_fs) :=
  spec_ok' TT_ok (show GsOk Try.prog asked4_g from gsOk_nil) (by kernel_rfl) mixedOrders Try.func131 rfl rfl (by kernel_rfl) (n := 2) (by decide +kernel) (I := asked4_IA) (fun _ _ => isOk_nil) (A := asked4_A)
    (fun args h r hr => by
      unfold asked4_fs at hr
      split at hr
      · rename_i ty1 l ty3 I_s ty4 I_a; cases hr; refine ⟨rfl, fun hp => ?_⟩; have hE := asked4_E l ⟨I_s, I_a⟩ ty1 ty3 ty4 hp; exact hE
      · cases hr)
def asked5_E0 (I : Inst) (l : List Int) (ty1 ty2 ty4 : TypeId) : Prop :=
      (A64c I.arcs ∧ l.length ≤ (140737488351232 : Nat)) ∧
 I64 (0 : Int) ∧ ((W (rayS I l)).ok ∧ (W (0 : Int)).ok) ∧ (decide (wcmp (W (rayS I l)) (W (0 : Int)) < (0 : Int)) = c5F I l ∧ True) ∧ True
theorem asked5_q (I : Inst) (l : List Int) (ty1 ty2 ty4 : TypeId) : asked5_E0 I l ty1 ty2 ty4 = FVcP TT asked5_g (asked5_I I l) (asked5_an I l) Try.f132 [.ptr 0 0 0 0, .ptr 3 0 0 0] [(0, .box false 30 [.row 1, .row 2]), (1, .row false ty1 (.ints .i64 I.sup)), (2, .row false ty2 (.arcs I.arcs)), (3, .box false 25 [.row 4]), (4, .row false ty4 (.ints .i64 l))] (asked5_r I l) := by kernel_rfl
theorem asked5_E (I : Inst) (l : List Int) (ty1 ty2 ty4 : TypeId) (hp : l.length ≤ 140737488351232 ∧ A64c I.arcs) : FVc TT asked5_g (asked5_I I l) (asked5_an I l) Try.f132 [.ptr 0 0 0 0, .ptr 3 0 0 0] [(0, .box false 30 [.row 1, .row 2]), (1, .row false ty1 (.ints .i64 I.sup)), (2, .row false ty2 (.arcs I.arcs)), (3, .box false 25 [.row 4]), (4, .row false ty4 (.ints .i64 l))] (asked5_r I l) := by
  refine FVc.of (asked5_E0 I l ty1 ty2 ty4) (asked5_q I l ty1 ty2 ty4) ?_
  unfold asked5_E0
  obtain ⟨p1, p2⟩ := hp
  simp only [eq_self, exists_const, forall_const, decide_eq_true_eq, decide_eq_false_iff_not, and_true, true_and, bne_iff_ne, ne_eq, bne_eq_false_iff_eq, Int.toNat_natCast, Bool.not_eq_true', Bool.not_eq_false', beq_iff_eq, beq_eq_false_iff_ne, nilEq_true]
  exact ⟨⟨p2, p1⟩, by simp [I64], ⟨W_ok _, W_ok _⟩, rfl⟩
theorem asked5_ok : SpecOk Try.prog asked5_n true (specOf true asked5_fs) :=
  spec_ok' TT_ok (show GsOk Try.prog asked5_g from gsOk_cons Sum12_ok (gsOk_cons Of_ok (gsOk_cons Compare_ok (gsOk_nil)))) (by kernel_rfl) mixedOrders Try.func132 rfl rfl (by kernel_rfl) (n := 2) (by decide +kernel) (I := asked5_IA) (fun _ _ => isOk_nil) (A := asked5_A)
    (fun args h r hr => by
      unfold asked5_fs at hr
      split at hr
      · rename_i ty1 I_s ty2 I_a ty4 l; cases hr; refine ⟨rfl, fun hp => ?_⟩; have hE := asked5_E ⟨I_s, I_a⟩ l ty1 ty2 ty4 hp; exact hE
      · cases hr)
theorem asked_ok : SpecOk Try.prog asked_n false asked_spec :=
  inl_ok TT_ok (show GsOk Try.prog asked_g from gsOk_nil) (by kernel_rfl) mixedOrders Try.func100 rfl rfl (by kernel_rfl) _
abbrev Turns_a0 := ((0 : Nat) = (0 : Nat) ∧ (0 : Nat) = (0 : Nat) ∧ True)
abbrev Turns_a1 (g' : Nat) (I : Inst) (l : List Int) := (g' ≤ (5 : Nat) ∧
 ((1 : Nat) ≤ g' → c1F I l = true) ∧
 ((2 : Nat) ≤ g' → c2F l = true) ∧
 ((3 : Nat) ≤ g' → c3F I l = true) ∧ ((4 : Nat) ≤ g' → c4F I l = true) ∧ ((5 : Nat) ≤ g' → c5F I l = true))
abbrev Turns_a2 (g : Nat) (g' : Nat) := (True ∧ (↑(5 : Nat) : Int) = (↑(5 : Nat) : Int) ∧ IntKind.i64.wrap ((↑g : Int) + (1 : Int)) = (↑g' : Int) ∧ True)
abbrev Turns_a3 := ((Turns_a0) ∧
 ((0 : Nat) = (0 : Nat) ∧ True) ∧
 (Turns_a0) ∧
 (Turns_a0) ∧
 (Turns_a0) ∧ True)
abbrev Turns_a4 := ((Turns_a0) ∧
 ((0 : Nat) = (0 : Nat) ∧ True) ∧
 (Turns_a0) ∧
 (Turns_a0) ∧ (Turns_a0) ∧ True)
def Turns_E0 (I : Inst) (l : List Int) (ty0 ty1 ty2 : TypeId) : Prop :=
      True ∧
 ((rightF I != (0 : Int)) = true → (rightF I = turnsF I l ∧ True) ∧ True) ∧
 ((rightF I != (0 : Int)) = false →
 (((↑l.length : Int) == (0 : Int)) = true → ((30 : Int) = turnsF I l ∧ True) ∧ True) ∧
 (((↑l.length : Int) == (0 : Int)) = false →
 (decide ((↑l.length : Int) > (↑I.arcs.length : Int)) = true → ((30 : Int) = turnsF I l ∧ True) ∧ True) ∧
 (decide ((↑l.length : Int) > (↑I.arcs.length : Int)) = false →
 ∃ (g0 : Nat),
 ((g0 ≤ (5 : Nat) ∧
 ((1 : Nat) ≤ g0 → c1F I l = true) ∧
 ((2 : Nat) ≤ g0 → c2F l = true) ∧ ((3 : Nat) ≤ g0 → c3F I l = true) ∧ ((4 : Nat) ≤ g0 → c4F I l = true) ∧ ((5 : Nat) ≤ g0 → c5F I l = true)) ∧
 (True ∧ (↑(5 : Nat) : Int) = (↑(5 : Nat) : Int) ∧ (0 : Int) = (↑g0 : Int) ∧ True) ∧
 (Turns_a4) ∧
 (True ∧ True) ∧ (True ∧ True ∧ True) ∧ I.sup = I.sup ∧ I.arcs = I.arcs ∧ l = l ∧ True) ∧
 ∀ (g : Nat),
 g ≤ (5 : Nat) ∧
 ((1 : Nat) ≤ g → c1F I l = true) ∧
 ((2 : Nat) ≤ g → c2F l = true) ∧ ((3 : Nat) ≤ g → c3F I l = true) ∧ ((4 : Nat) ≤ g → c4F I l = true) ∧ ((5 : Nat) ≤ g → c5F I l = true) →
 (decide ((↑g : Int) < (↑(5 : Nat) : Int)) = true →
 ((0 : Int) ≤ (↑g : Int) ∧ (↑g : Int) < (↑(5 : Nat) : Int)) ∧
 (↑g : Int).toNat < (5 : Nat) ∧
 ((↑g : Int).toNat = (0 : Nat) →
 l.length ≤ (140737488351232 : Nat) ∧
 ((!c1F I l) = true → ((35 : Int) = turnsF I l ∧ True) ∧ True) ∧
 ((!c1F I l) = false →
 ∃ (g' : Nat),
 (Turns_a1 g' I l) ∧
 (5 : Nat) - g' < (5 : Nat) - g ∧
 (Turns_a2 g g') ∧
 (Turns_a4) ∧
 (True ∧ True) ∧ (True ∧ True ∧ True) ∧ I.sup = I.sup ∧ I.arcs = I.arcs ∧ l = l ∧ True)) ∧
 ((↑g : Int).toNat = (0 : Nat) + (1 : Nat) →
 l.length ≤ (140737488351232 : Nat) ∧
 ((!c2F l) = true → ((35 : Int) = turnsF I l ∧ True) ∧ True) ∧
 ((!c2F l) = false →
 ∃ (g' : Nat),
 (Turns_a1 g' I l) ∧
 (5 : Nat) - g' < (5 : Nat) - g ∧
 (Turns_a2 g g') ∧
 (Turns_a4) ∧
 (True ∧ True) ∧ (True ∧ True ∧ True) ∧ I.sup = I.sup ∧ I.arcs = I.arcs ∧ l = l ∧ True)) ∧
 ((↑g : Int).toNat = (0 : Nat) + (1 : Nat) + (1 : Nat) →
 (l.length ≤ (140737488351232 : Nat) ∧ c1F I l = true) ∧
 ((!c3F I l) = true → ((35 : Int) = turnsF I l ∧ True) ∧ True) ∧
 ((!c3F I l) = false →
 ∃ (g' : Nat),
 (Turns_a1 g' I l) ∧
 (5 : Nat) - g' < (5 : Nat) - g ∧
 (Turns_a2 g g') ∧
 (Turns_a3) ∧
 (True ∧ True) ∧ (True ∧ True ∧ True) ∧ I.sup = I.sup ∧ I.arcs = I.arcs ∧ l = l ∧ True)) ∧
 ((↑g : Int).toNat = (0 : Nat) + (1 : Nat) + (1 : Nat) + (1 : Nat) →
 (l.length ≤ (140737488351232 : Nat) ∧ c1F I l = true) ∧
 ((!c4F I l) = true → ((35 : Int) = turnsF I l ∧ True) ∧ True) ∧
 ((!c4F I l) = false →
 ∃ (g' : Nat),
 (Turns_a1 g' I l) ∧
 (5 : Nat) - g' < (5 : Nat) - g ∧
 (Turns_a2 g g') ∧
 (Turns_a3) ∧
 (True ∧ True) ∧ (True ∧ True ∧ True) ∧ I.sup = I.sup ∧ I.arcs = I.arcs ∧ l = l ∧ True)) ∧
 ((↑g : Int).toNat = (0 : Nat) + (1 : Nat) + (1 : Nat) + (1 : Nat) + (1 : Nat) →
 (l.length ≤ (140737488351232 : Nat) ∧ A64c I.arcs) ∧
 ((!c5F I l) = true → ((35 : Int) = turnsF I l ∧ True) ∧ True) ∧
 ((!c5F I l) = false →
 ∃ (g' : Nat),
 (Turns_a1 g' I l) ∧
 (5 : Nat) - g' < (5 : Nat) - g ∧
 (Turns_a2 g g') ∧
 (Turns_a3) ∧
 (True ∧ True) ∧ (True ∧ True ∧ True) ∧ I.sup = I.sup ∧ I.arcs = I.arcs ∧ l = l ∧ True))) ∧
 (decide ((↑g : Int) < (↑(5 : Nat) : Int)) = false → ((0 : Int) = turnsF I l ∧ True) ∧ True))))
theorem Turns_q (I : Inst) (l : List Int) (ty0 ty1 ty2 : TypeId) : Turns_E0 I l ty0 ty1 ty2 = FVcP TT Turns_g (Turns_I I l) (Turns_an I l) Try.f60 [.agg [.row 0, .row 1], .row 2] [(0, .row false ty0 (.ints .i64 I.sup)), (1, .row false ty1 (.arcs I.arcs)), (2, .row false ty2 (.ints .i64 l))] (Turns_r I l) := by kernel_rfl
theorem Turns_E (I : Inst) (l : List Int) (ty0 ty1 ty2 : TypeId) (hp : l.length ≤ 140737488351232 ∧ A64c I.arcs) : FVc TT Turns_g (Turns_I I l) (Turns_an I l) Try.f60 [.agg [.row 0, .row 1], .row 2] [(0, .row false ty0 (.ints .i64 I.sup)), (1, .row false ty1 (.arcs I.arcs)), (2, .row false ty2 (.ints .i64 l))] (Turns_r I l) := by
  refine FVc.of (Turns_E0 I l ty0 ty1 ty2) (Turns_q I l ty0 ty1 ty2) ?_
  unfold Turns_E0
  delta Turns_a4 Turns_a3 Turns_a2 Turns_a1 Turns_a0
  obtain ⟨p1, p2⟩ := hp
  simp only [eq_self, exists_const, forall_const, decide_eq_true_eq, decide_eq_false_iff_not, and_true, true_and, bne_iff_ne, ne_eq, bne_eq_false_iff_eq, Int.toNat_natCast, Bool.not_eq_true', Bool.not_eq_false', beq_iff_eq, beq_eq_false_iff_ne, nilEq_true]
  unfold turnsF
  refine ⟨fun h => by simp [h], fun h => ⟨fun h2 => by simp [h, show l.length = 0 by omega], fun h2 => ⟨fun h3 => by simp [h, show I.arcs.length < l.length by omega], fun h3 => ?_⟩⟩⟩
  have e0 : ¬ (l.length = 0 ∨ I.arcs.length < l.length) := by omega
  simp only [h, e0, ne_eq, not_true, if_false]
  refine ⟨0, ⟨⟨by omega, fun h => by omega, fun h => by omega, fun h => by omega, fun h => by omega, fun h => by omega⟩, rfl⟩, fun g hg => ?_⟩
  obtain ⟨g0, g1, g2, g3, g4, g5⟩ := hg
  have wk : IntKind.i64.wrap ((g : Int) + 1) = ((g + 1 : Nat) : Int) := by rw [w64 (by omega) (by omega)]; omega
  refine ⟨fun h4 => ⟨by omega, by omega, fun e => ⟨p1, fun f => ?_, fun f => ⟨g + 1, ⟨by omega, fun _ => f, fun h => by omega, fun h => by omega, fun h => by omega, fun h => by omega⟩, by omega, wk⟩⟩, fun e => ⟨p1, fun f => ?_, fun f => ⟨g + 1, ⟨by omega, fun _ => g1 (by omega), fun _ => f, fun h => by omega, fun h => by omega, fun h => by omega⟩, by omega, wk⟩⟩,
    fun e => ⟨⟨p1, g1 (by omega)⟩, fun f => ?_, fun f => ⟨g + 1, ⟨by omega, fun _ => g1 (by omega), fun _ => g2 (by omega), fun _ => f, fun h => by omega, fun h => by omega⟩, by omega, wk⟩⟩,
    fun e => ⟨⟨p1, g1 (by omega)⟩, fun f => ?_, fun f => ⟨g + 1, ⟨by omega, fun _ => g1 (by omega), fun _ => g2 (by omega), fun _ => g3 (by omega), fun _ => f, fun h => by omega⟩, by omega, wk⟩⟩,
    fun e => ⟨⟨p1, p2⟩, fun f => ?_, fun f => ⟨g + 1, ⟨by omega, fun _ => g1 (by omega), fun _ => g2 (by omega), fun _ => g3 (by omega), fun _ => g4 (by omega), fun _ => f⟩, by omega, wk⟩⟩⟩, fun h4 => ?_⟩
  all_goals first
    | simp [f]
    | simp [g1 (by omega), g2 (by omega), g3 (by omega), g4 (by omega), g5 (by omega)]
theorem Turns_ok : SpecOk Try.prog Turns_n true (specOf true Turns_fs) :=
  spec_ok' TT_ok (show GsOk Try.prog Turns_g from gsOk_cons Right_ok (gsOk_cons asked_ok (gsOk_cons asked1_ok (gsOk_cons asked2_ok (gsOk_cons asked3_ok (gsOk_cons asked4_ok (gsOk_cons asked5_ok (gsOk_nil)))))))) (by kernel_rfl) mixedOrders Try.func60 rfl rfl (by kernel_rfl) (n := 2) (by decide +kernel) (I := Turns_IA) (fun _ _ => isOk_nil) (A := Turns_A)
    (fun args h r hr => by
      unfold Turns_fs at hr
      split at hr
      · rename_i ty0 I_s ty1 I_a ty2 l; cases hr; refine ⟨rfl, fun hp => ?_⟩; have hE := Turns_E ⟨I_s, I_a⟩ l ty0 ty1 ty2 hp; exact hE
      · cases hr)
end Go.Proofs.Ytggblkbecekbdaa
