/- Part of the proof, FK13. -/
import Derived.Test.YtahbkllfifmdfaaGreatZFC10
import Derived.Test.YtahbkllfifmdfaaGreatZFP11
import Derived.Test.YtahbkllfifmdfaaGreatZFQ11
import Derived.Test.YtahbkllfifmdfaaGreatZFS12
import Derived.Test.YtahbkllfifmdfaaGreatZDK13
import Derived.Test.YtahbkllfifmdfaaGreatZVc11
set_option linter.unusedVariables false
set_option linter.all false
set_option linter.unusedSimpArgs false
set_option maxRecDepth 100000
namespace Go.Proofs.YtahbkllfifmdfaaGreat
open Go Go.RowKit Go.Ql Go.Vc
def empty13_E0 (l : List Int) (ty0 : TypeId) : Prop :=
      ∃ (g0 : Nat),
 (g0 ≤ l.length ∧ ((0 : Int) = (↑(zerosF (List.take g0 l)) : Int) ∧ True ∧ (↑l.length : Int) = (↑l.length : Int) ∧ (0 : Int) = (↑g0 : Int) ∧ True) ∧ l = l ∧ True) ∧
 ∀ (g : Nat),
 g ≤ l.length →
 (decide ((↑g : Int) < (↑l.length : Int)) = true →
 ((0 : Int) ≤ (↑g : Int) ∧ (↑g : Int) < (↑l.length : Int)) ∧
 (↑g : Int).toNat < l.length ∧
 ∀ (x : Int),
 l[(↑g : Int).toNat]? = some x →
 ((x == (0 : Int)) = true →
 ∃ (g' : Nat),
 g' ≤ l.length ∧
 l.length - g' < l.length - g ∧
 (IntKind.i64.wrap ((↑(zerosF (List.take g l)) : Int) + (1 : Int)) = (↑(zerosF (List.take g' l)) : Int) ∧
 True ∧ (↑l.length : Int) = (↑l.length : Int) ∧ IntKind.i64.wrap ((↑g : Int) + (1 : Int)) = (↑g' : Int) ∧ True) ∧
 l = l ∧ True) ∧
 ((x == (0 : Int)) = false →
 ∃ (g' : Nat),
 g' ≤ l.length ∧
 l.length - g' < l.length - g ∧
 ((↑(zerosF (List.take g l)) : Int) = (↑(zerosF (List.take g' l)) : Int) ∧
 True ∧ (↑l.length : Int) = (↑l.length : Int) ∧ IntKind.i64.wrap ((↑g : Int) + (1 : Int)) = (↑g' : Int) ∧ True) ∧
 l = l ∧ True)) ∧
 (decide ((↑g : Int) < (↑l.length : Int)) = false → ((↑(zerosF (List.take g l)) : Int) = (↑(zerosF l) : Int) ∧ True) ∧ True)
theorem empty13_q (l : List Int) (ty0 : TypeId) : empty13_E0 l ty0 = FVcP TT empty13_g (empty13_I l) (empty13_an l) Tryz.f28 [.row 0] [(0, .row false ty0 (.ints .i64 l))] (empty13_r l) := by kernel_rfl
theorem empty13_E (l : List Int) (ty0 : TypeId) (hp : l.length ≤ 1000000000) : FVc TT empty13_g (empty13_I l) (empty13_an l) Tryz.f28 [.row 0] [(0, .row false ty0 (.ints .i64 l))] (empty13_r l) := by
  refine FVc.of (empty13_E0 l ty0) (empty13_q l ty0) ?_
  unfold empty13_E0
  simp only [eq_self, exists_const, forall_const, decide_eq_true_eq, decide_eq_false_iff_not, and_true, true_and, bne_iff_ne, ne_eq, bne_eq_false_iff_eq, Int.toNat_natCast, Bool.not_eq_true', Bool.not_eq_false', beq_iff_eq, beq_eq_false_iff_ne, nilEq_true]
  refine ⟨0, ⟨by omega, rfl, rfl⟩, fun g hg => ⟨fun h1 => ⟨by omega, by omega, fun x hx => ?_⟩, fun h1 => ?_⟩⟩
  · have hw : IntKind.i64.wrap ((g : Int) + 1) = ((g + 1 : Nat) : Int) := by rw [w64 (by omega) (by omega)]; omega
    have hz := zerosF_snoc (l.take g) x
    rw [← take_get hx] at hz
    have hle := zerosF_le (l.take g)
    rw [List.length_take] at hle
    refine ⟨fun h2 => ⟨g + 1, by omega, by omega, ?_, hw⟩, fun h2 => ⟨g + 1, by omega, by omega, ?_, hw⟩⟩
    · rw [hz, if_pos h2, w64 (by omega) (by omega)]; omega
    · rw [hz, if_neg h2]; omega
  · rw [List.take_of_length_le (by omega)]
theorem empty13_ok : SpecOk Tryz.prog empty13_n true (specOf true empty13_fs) :=
  spec_ok' TT_ok (show GsOk Tryz.prog empty13_g from gsOk_nil) (by kernel_rfl) mixedOrders Tryz.func28 rfl rfl (by kernel_rfl) (n := 1) (by decide +kernel) (I := empty13_IA) (fun _ _ => isOk_nil) (A := empty13_A)
    (fun args h r hr => by
      unfold empty13_fs at hr
      split at hr
      · rename_i ty0 l; cases hr; refine ⟨rfl, fun hp => ?_⟩; have hE := empty13_E l ty0 hp; exact hE
      · cases hr)
def Plain13_E0 (c : Cert) (ty0 ty1 ty2 ty3 : TypeId) : Prop :=
      ((c.kind == (1 : Int)) = true → (2 : Nat) ≤ (1000000000 : Nat) ∧ (((↑(zerosF [(↑c.side.length : Int), (↑c.cycle.length : Int)]) : Int) == (2 : Int)) = plainF c ∧ True) ∧ True) ∧
 ((c.kind == (1 : Int)) = false →
 ((c.kind == (2 : Int)) = true →
 (3 : Nat) ≤ (1000000000 : Nat) ∧ (((↑(zerosF [(↑c.flow.length : Int), (↑c.pot.length : Int), (↑c.cycle.length : Int)]) : Int) == (3 : Int)) = plainF c ∧ True) ∧ True) ∧
 ((c.kind == (2 : Int)) = false →
 ((c.kind == (3 : Int)) = true →
 (2 : Nat) ≤ (1000000000 : Nat) ∧ (((↑(zerosF [(↑c.pot.length : Int), (↑c.side.length : Int)]) : Int) == (2 : Int)) = plainF c ∧ True) ∧ True) ∧
 ((c.kind == (3 : Int)) = false → (false = plainF c ∧ True) ∧ True)))
theorem Plain13_q (c : Cert) (ty0 ty1 ty2 ty3 : TypeId) : Plain13_E0 c ty0 ty1 ty2 ty3 = FVcP TT Plain13_g (Plain13_I c) (Plain13_an c) Tryz.f15 [.agg [.int .i64 c.kind, .row 0, .row 1, .row 2, .row 3]] [(0, .row false ty0 (.ints .i64 c.flow)), (1, .row false ty1 (.ints .i64 c.pot)), (2, .row false ty2 (.bools c.side)), (3, .row false ty3 (.ints .i64 c.cycle))] (Plain13_r c) := by kernel_rfl
theorem Plain13_E (c : Cert) (ty0 ty1 ty2 ty3 : TypeId) (hp : True) : FVc TT Plain13_g (Plain13_I c) (Plain13_an c) Tryz.f15 [.agg [.int .i64 c.kind, .row 0, .row 1, .row 2, .row 3]] [(0, .row false ty0 (.ints .i64 c.flow)), (1, .row false ty1 (.ints .i64 c.pot)), (2, .row false ty2 (.bools c.side)), (3, .row false ty3 (.ints .i64 c.cycle))] (Plain13_r c) := by
  refine FVc.of (Plain13_E0 c ty0 ty1 ty2 ty3) (Plain13_q c ty0 ty1 ty2 ty3) ?_
  unfold Plain13_E0
  simp only [eq_self, exists_const, forall_const, decide_eq_true_eq, decide_eq_false_iff_not, and_true, true_and, bne_iff_ne, ne_eq, bne_eq_false_iff_eq, Int.toNat_natCast, Bool.not_eq_true', Bool.not_eq_false', beq_iff_eq, beq_eq_false_iff_ne, nilEq_true]
  unfold plainF
  have e2 : ∀ a b : Nat, (((zerosF [(a : Int), (b : Int)] : Nat) : Int) == 2) = (decide (a = 0) && decide (b = 0)) := fun a b => by
    rw [zerosF_cons, zerosF_cons, zerosF_nil]
    by_cases ha : a = 0 <;> by_cases hb : b = 0 <;> simp [ha, hb]
  have e3 : ∀ a b c : Nat, (((zerosF [(a : Int), (b : Int), (c : Int)] : Nat) : Int) == 3) = (decide (a = 0) && decide (b = 0) && decide (c = 0)) := fun a b c => by
    rw [zerosF_cons, zerosF_cons, zerosF_cons, zerosF_nil]
    by_cases ha : a = 0 <;> by_cases hb : b = 0 <;> by_cases hc : c = 0 <;> simp [ha, hb, hc]
  refine ⟨fun h1 => ⟨by omega, by rw [if_pos h1, e2]⟩, fun h1 => ⟨fun h2 => ⟨by omega, by rw [if_neg h1, if_pos h2, e3]⟩, fun h2 => ⟨fun h3 => ⟨by omega, by rw [if_neg h1, if_neg h2, if_pos h3, e2]⟩, fun h3 => by rw [if_neg h1, if_neg h2, if_neg h3]⟩⟩⟩
theorem Plain13_ok : SpecOk Tryz.prog Plain13_n true (specOf true Plain13_fs) :=
  spec_ok' TT_ok (show GsOk Tryz.prog Plain13_g from gsOk_cons empty13_ok (gsOk_nil)) (by kernel_rfl) mixedOrders Tryz.func15 rfl rfl (by kernel_rfl) (n := 1) (by decide +kernel) (I := Plain13_IA) (fun _ _ => isOk_nil) (A := Plain13_A)
    (fun args h r hr => by
      unfold Plain13_fs at hr
      split at hr
      · rename_i c_k ty0 c_f ty1 c_p ty2 c_s ty3 c_y; cases hr; refine ⟨rfl, fun hp => ?_⟩; have hE := Plain13_E ⟨c_k, c_f, c_p, c_s, c_y⟩ ty0 ty1 ty2 ty3 hp; exact hE
      · cases hr)
def fresh1_E0 (l : List Int) (ty0 : TypeId) : Prop :=
      (0 : Nat) + l.length ≤ (1000000000 : Nat) ∧ (True ∧ True) ∧ l = l ∧ True
theorem fresh1_q (l : List Int) (ty0 : TypeId) : fresh1_E0 l ty0 = FVcP TT fresh1_g (fresh1_I l) (fresh1_an l) Tryz.f38 [.row 0] [(0, .row false ty0 (.ints .i64 l))] (fresh1_r l) := by kernel_rfl
theorem fresh1_E (l : List Int) (ty0 : TypeId) (hp : l.length ≤ 1000000000) : FVc TT fresh1_g (fresh1_I l) (fresh1_an l) Tryz.f38 [.row 0] [(0, .row false ty0 (.ints .i64 l))] (fresh1_r l) := by
  refine FVc.of (fresh1_E0 l ty0) (fresh1_q l ty0) ?_
  unfold fresh1_E0
  simp only [eq_self, exists_const, forall_const, decide_eq_true_eq, decide_eq_false_iff_not, and_true, true_and, bne_iff_ne, ne_eq, bne_eq_false_iff_eq, Int.toNat_natCast, Bool.not_eq_true', Bool.not_eq_false', beq_iff_eq, beq_eq_false_iff_ne, nilEq_true]
  simp
  omega
theorem fresh1_ok : SpecOk Tryz.prog fresh1_n true (specOf true fresh1_fs) :=
  spec_ok' TT_ok (show GsOk Tryz.prog fresh1_g from gsOk_nil) (by kernel_rfl) mixedOrders Tryz.func38 rfl rfl (by kernel_rfl) (n := 1) (by decide +kernel) (I := fresh1_IA) (fun _ _ => isOk_nil) (A := fresh1_A)
    (fun args h r hr => by
      unfold fresh1_fs at hr
      split at hr
      · rename_i ty0 l; cases hr; refine ⟨rfl, fun hp => ?_⟩; have hE := fresh1_E l ty0 hp; exact hE
      · cases hr)
def fresh2_E0 (l : List Bool) (ty0 : TypeId) : Prop :=
      (0 : Nat) + l.length ≤ (1000000000 : Nat) ∧ (True ∧ True) ∧ l = l ∧ True
theorem fresh2_q (l : List Bool) (ty0 : TypeId) : fresh2_E0 l ty0 = FVcP TT fresh2_g (fresh2_I l) (fresh2_an l) Tryz.f39 [.row 0] [(0, .row false ty0 (.bools l))] (fresh2_r l) := by kernel_rfl
theorem fresh2_E (l : List Bool) (ty0 : TypeId) (hp : l.length ≤ 1000000000) : FVc TT fresh2_g (fresh2_I l) (fresh2_an l) Tryz.f39 [.row 0] [(0, .row false ty0 (.bools l))] (fresh2_r l) := by
  refine FVc.of (fresh2_E0 l ty0) (fresh2_q l ty0) ?_
  unfold fresh2_E0
  simp only [eq_self, exists_const, forall_const, decide_eq_true_eq, decide_eq_false_iff_not, and_true, true_and, bne_iff_ne, ne_eq, bne_eq_false_iff_eq, Int.toNat_natCast, Bool.not_eq_true', Bool.not_eq_false', beq_iff_eq, beq_eq_false_iff_ne, nilEq_true]
  simp
  omega
theorem fresh2_ok : SpecOk Tryz.prog fresh2_n true (specOf true fresh2_fs) :=
  spec_ok' TT_ok (show GsOk Tryz.prog fresh2_g from gsOk_nil) (by kernel_rfl) mixedOrders Tryz.func39 rfl rfl (by kernel_rfl) (n := 1) (by decide +kernel) (I := fresh2_IA) (fun _ _ => isOk_nil) (A := fresh2_A)
    (fun args h r hr => by
      unfold fresh2_fs at hr
      split at hr
      · rename_i ty0 l; cases hr; refine ⟨rfl, fun hp => ?_⟩; have hE := fresh2_E l ty0 hp; exact hE
      · cases hr)
def fresh3_E0 (l : List Int) (ty0 : TypeId) : Prop :=
      (0 : Nat) + l.length ≤ (1000000000 : Nat) ∧ (True ∧ True) ∧ l = l ∧ True
theorem fresh3_q (l : List Int) (ty0 : TypeId) : fresh3_E0 l ty0 = FVcP TT fresh3_g (fresh3_I l) (fresh3_an l) Tryz.f40 [.row 0] [(0, .row false ty0 (.ints .i64 l))] (fresh3_r l) := by kernel_rfl
theorem fresh3_E (l : List Int) (ty0 : TypeId) (hp : l.length ≤ 1000000000) : FVc TT fresh3_g (fresh3_I l) (fresh3_an l) Tryz.f40 [.row 0] [(0, .row false ty0 (.ints .i64 l))] (fresh3_r l) := by
  refine FVc.of (fresh3_E0 l ty0) (fresh3_q l ty0) ?_
  unfold fresh3_E0
  simp only [eq_self, exists_const, forall_const, decide_eq_true_eq, decide_eq_false_iff_not, and_true, true_and, bne_iff_ne, ne_eq, bne_eq_false_iff_eq, Int.toNat_natCast, Bool.not_eq_true', Bool.not_eq_false', beq_iff_eq, beq_eq_false_iff_ne, nilEq_true]
  simp
  omega
theorem fresh3_ok : SpecOk Tryz.prog fresh3_n true (specOf true fresh3_fs) :=
  spec_ok' TT_ok (show GsOk Tryz.prog fresh3_g from gsOk_nil) (by kernel_rfl) mixedOrders Tryz.func40 rfl rfl (by kernel_rfl) (n := 1) (by decide +kernel) (I := fresh3_IA) (fun _ _ => isOk_nil) (A := fresh3_A)
    (fun args h r hr => by
      unfold fresh3_fs at hr
      split at hr
      · rename_i ty0 l; cases hr; refine ⟨rfl, fun hp => ?_⟩; have hE := fresh3_E l ty0 hp; exact hE
      · cases hr)
def CopyC_E0 (c : Cert) (ty0 ty1 ty2 ty3 : TypeId) : Prop :=
      c.flow.length ≤ (1000000000 : Nat) ∧
 c.pot.length ≤ (1000000000 : Nat) ∧
 c.side.length ≤ (1000000000 : Nat) ∧
 c.cycle.length ≤ (1000000000 : Nat) ∧
 ((c.kind = c.kind ∧ True ∧ True ∧ True ∧ True ∧ True) ∧ True) ∧ c.flow = c.flow ∧ c.pot = c.pot ∧ c.side = c.side ∧ c.cycle = c.cycle ∧ True
theorem CopyC_q (c : Cert) (ty0 ty1 ty2 ty3 : TypeId) : CopyC_E0 c ty0 ty1 ty2 ty3 = FVcP TT CopyC_g (CopyC_I c) (CopyC_an c) Tryz.f23 [.agg [.int .i64 c.kind, .row 0, .row 1, .row 2, .row 3]] [(0, .row false ty0 (.ints .i64 c.flow)), (1, .row false ty1 (.ints .i64 c.pot)), (2, .row false ty2 (.bools c.side)), (3, .row false ty3 (.ints .i64 c.cycle))] (CopyC_r c) := by kernel_rfl
theorem CopyC_E (c : Cert) (ty0 ty1 ty2 ty3 : TypeId) (hp : c.flow.length ≤ 1000000000 ∧ c.pot.length ≤ 1000000000 ∧ c.side.length ≤ 1000000000 ∧ c.cycle.length ≤ 1000000000) : FVc TT CopyC_g (CopyC_I c) (CopyC_an c) Tryz.f23 [.agg [.int .i64 c.kind, .row 0, .row 1, .row 2, .row 3]] [(0, .row false ty0 (.ints .i64 c.flow)), (1, .row false ty1 (.ints .i64 c.pot)), (2, .row false ty2 (.bools c.side)), (3, .row false ty3 (.ints .i64 c.cycle))] (CopyC_r c) := by
  refine FVc.of (CopyC_E0 c ty0 ty1 ty2 ty3) (CopyC_q c ty0 ty1 ty2 ty3) ?_
  unfold CopyC_E0
  simp only [eq_self, exists_const, forall_const, decide_eq_true_eq, decide_eq_false_iff_not, and_true, true_and, bne_iff_ne, ne_eq, bne_eq_false_iff_eq, Int.toNat_natCast, Bool.not_eq_true', Bool.not_eq_false', beq_iff_eq, beq_eq_false_iff_ne, nilEq_true]
  exact ⟨hp.1, hp.2.1, hp.2.2.1, hp.2.2.2⟩
theorem CopyC_ok : SpecOk Tryz.prog CopyC_n true (specOf true CopyC_fs) :=
  spec_ok' TT_ok (show GsOk Tryz.prog CopyC_g from gsOk_cons fresh1_ok (gsOk_cons fresh2_ok (gsOk_cons fresh3_ok (gsOk_nil)))) (by kernel_rfl) mixedOrders Tryz.func23 rfl rfl (by kernel_rfl) (n := 1) (by decide +kernel) (I := CopyC_IA) (fun _ _ => isOk_nil) (A := CopyC_A)
    (fun args h r hr => by
      unfold CopyC_fs at hr
      split at hr
      · rename_i c_k ty0 c_f ty1 c_p ty2 c_s ty3 c_y; cases hr; refine ⟨rfl, fun hp => ?_⟩; have hE := CopyC_E ⟨c_k, c_f, c_p, c_s, c_y⟩ ty0 ty1 ty2 ty3 hp; exact hE
      · cases hr)
def EqI_E0 (xs : List Int) (ys : List Int) (ty0 ty1 : TypeId) : Prop :=
      (((↑xs.length : Int) != (↑ys.length : Int)) = true → (false = decide (xs = ys) ∧ True) ∧ True) ∧
 (((↑xs.length : Int) != (↑ys.length : Int)) = false →
 ∃ (g0 : Nat),
 ((g0 ≤ xs.length ∧ List.take g0 xs = List.take g0 ys) ∧ (True ∧ True ∧ (↑xs.length : Int) = (↑xs.length : Int) ∧ (0 : Int) = (↑g0 : Int) ∧ True) ∧ xs = xs ∧ ys = ys ∧ True) ∧
 ∀ (g : Nat),
 g ≤ xs.length ∧ List.take g xs = List.take g ys →
 (decide ((↑g : Int) < (↑xs.length : Int)) = true →
 ((0 : Int) ≤ (↑g : Int) ∧ (↑g : Int) < (↑xs.length : Int)) ∧
 (↑g : Int).toNat < xs.length ∧
 ∀ (x : Int),
 xs[(↑g : Int).toNat]? = some x →
 ((0 : Int) ≤ (↑g : Int) ∧ (↑g : Int) < (↑ys.length : Int)) ∧
 (↑g : Int).toNat < ys.length ∧
 ∀ (x_1 : Int),
 ys[(↑g : Int).toNat]? = some x_1 →
 ((x != x_1) = true → (false = decide (xs = ys) ∧ True) ∧ True) ∧
 ((x != x_1) = false →
 ∃ (g' : Nat),
 (g' ≤ xs.length ∧ List.take g' xs = List.take g' ys) ∧
 xs.length - g' < xs.length - g ∧
 (True ∧ True ∧ (↑xs.length : Int) = (↑xs.length : Int) ∧ IntKind.i64.wrap ((↑g : Int) + (1 : Int)) = (↑g' : Int) ∧ True) ∧
 xs = xs ∧ ys = ys ∧ True)) ∧
 (decide ((↑g : Int) < (↑xs.length : Int)) = false → (true = decide (xs = ys) ∧ True) ∧ True))
theorem EqI_q (xs : List Int) (ys : List Int) (ty0 ty1 : TypeId) : EqI_E0 xs ys ty0 ty1 = FVcP TT EqI_g (EqI_I xs ys) (EqI_an xs ys) Tryz.f43 [.row 0, .row 1] [(0, .row false ty0 (.ints .i64 xs)), (1, .row false ty1 (.ints .i64 ys))] (EqI_r xs ys) := by kernel_rfl
theorem EqI_E (xs : List Int) (ys : List Int) (ty0 ty1 : TypeId) (hp : xs.length ≤ 1000000000) : FVc TT EqI_g (EqI_I xs ys) (EqI_an xs ys) Tryz.f43 [.row 0, .row 1] [(0, .row false ty0 (.ints .i64 xs)), (1, .row false ty1 (.ints .i64 ys))] (EqI_r xs ys) := by
  refine FVc.of (EqI_E0 xs ys ty0 ty1) (EqI_q xs ys ty0 ty1) ?_
  unfold EqI_E0
  simp only [eq_self, exists_const, forall_const, decide_eq_true_eq, decide_eq_false_iff_not, and_true, true_and, bne_iff_ne, ne_eq, bne_eq_false_iff_eq, Int.toNat_natCast, Bool.not_eq_true', Bool.not_eq_false', beq_iff_eq, beq_eq_false_iff_ne, nilEq_true]
  refine ⟨fun h => ?_, fun h1 => ⟨0, by simp, fun k hk => ⟨fun h2 => ⟨by omega, by omega, fun x hx => ⟨by omega, by omega, fun y hy => ?_⟩⟩, fun h2 => ?_⟩⟩⟩
  · exact (decide_eq_false (fun e => h (by rw [e]))).symm
  · refine ⟨fun h3 => (decide_eq_false (fun e => ?_)).symm, fun h3 => ⟨k + 1, ⟨by omega, ?_⟩, by omega, w64 (by omega) (by omega)⟩⟩
    · subst e; rw [hx] at hy; cases hy; simp at h3
    · rw [take_get hx, take_get hy, hk.2]; simp_all
  · have h3 := hk.2
    rw [List.take_of_length_le (by omega), List.take_of_length_le (by omega)] at h3
    exact (decide_eq_true h3).symm
theorem EqI_ok : SpecOk Tryz.prog EqI_n true (specOf true EqI_fs) :=
  spec_ok' TT_ok (show GsOk Tryz.prog EqI_g from gsOk_nil) (by kernel_rfl) mixedOrders Tryz.func43 rfl rfl (by kernel_rfl) (n := 2) (by decide +kernel) (I := EqI_IA) (fun _ _ => isOk_nil) (A := EqI_A)
    (fun args h r hr => by
      unfold EqI_fs at hr
      split at hr
      · rename_i ty0 xs ty1 ys; cases hr; refine ⟨rfl, fun hp => ?_⟩; have hE := EqI_E xs ys ty0 ty1 hp; exact hE
      · cases hr)
def EqB_E0 (xs : List Bool) (ys : List Bool) (ty0 ty1 : TypeId) : Prop :=
      (((↑xs.length : Int) != (↑ys.length : Int)) = true → (false = decide (xs = ys) ∧ True) ∧ True) ∧
 (((↑xs.length : Int) != (↑ys.length : Int)) = false →
 ∃ (g0 : Nat),
 ((g0 ≤ xs.length ∧ List.take g0 xs = List.take g0 ys) ∧ (True ∧ True ∧ (↑xs.length : Int) = (↑xs.length : Int) ∧ (0 : Int) = (↑g0 : Int) ∧ True) ∧ xs = xs ∧ ys = ys ∧ True) ∧
 ∀ (g : Nat),
 g ≤ xs.length ∧ List.take g xs = List.take g ys →
 (decide ((↑g : Int) < (↑xs.length : Int)) = true →
 ((0 : Int) ≤ (↑g : Int) ∧ (↑g : Int) < (↑xs.length : Int)) ∧
 (↑g : Int).toNat < xs.length ∧
 ∀ (x : Bool),
 xs[(↑g : Int).toNat]? = some x →
 ((0 : Int) ≤ (↑g : Int) ∧ (↑g : Int) < (↑ys.length : Int)) ∧
 (↑g : Int).toNat < ys.length ∧
 ∀ (x_1 : Bool),
 ys[(↑g : Int).toNat]? = some x_1 →
 ((!x == x_1) = true → (false = decide (xs = ys) ∧ True) ∧ True) ∧
 ((!x == x_1) = false →
 ∃ (g' : Nat),
 (g' ≤ xs.length ∧ List.take g' xs = List.take g' ys) ∧
 xs.length - g' < xs.length - g ∧
 (True ∧ True ∧ (↑xs.length : Int) = (↑xs.length : Int) ∧ IntKind.i64.wrap ((↑g : Int) + (1 : Int)) = (↑g' : Int) ∧ True) ∧
 xs = xs ∧ ys = ys ∧ True)) ∧
 (decide ((↑g : Int) < (↑xs.length : Int)) = false → (true = decide (xs = ys) ∧ True) ∧ True))
theorem EqB_q (xs : List Bool) (ys : List Bool) (ty0 ty1 : TypeId) : EqB_E0 xs ys ty0 ty1 = FVcP TT EqB_g (EqB_I xs ys) (EqB_an xs ys) Tryz.f42 [.row 0, .row 1] [(0, .row false ty0 (.bools xs)), (1, .row false ty1 (.bools ys))] (EqB_r xs ys) := by kernel_rfl
theorem EqB_E (xs : List Bool) (ys : List Bool) (ty0 ty1 : TypeId) (hp : xs.length ≤ 1000000000) : FVc TT EqB_g (EqB_I xs ys) (EqB_an xs ys) Tryz.f42 [.row 0, .row 1] [(0, .row false ty0 (.bools xs)), (1, .row false ty1 (.bools ys))] (EqB_r xs ys) := by
  refine FVc.of (EqB_E0 xs ys ty0 ty1) (EqB_q xs ys ty0 ty1) ?_
  unfold EqB_E0
  simp only [eq_self, exists_const, forall_const, decide_eq_true_eq, decide_eq_false_iff_not, and_true, true_and, bne_iff_ne, ne_eq, bne_eq_false_iff_eq, Int.toNat_natCast, Bool.not_eq_true', Bool.not_eq_false', beq_iff_eq, beq_eq_false_iff_ne, nilEq_true]
  refine ⟨fun h => ?_, fun h1 => ⟨0, by simp, fun k hk => ⟨fun h2 => ⟨by omega, by omega, fun x hx => ⟨by omega, by omega, fun y hy => ?_⟩⟩, fun h2 => ?_⟩⟩⟩
  · exact (decide_eq_false (fun e => h (by rw [e]))).symm
  · refine ⟨fun h3 => (decide_eq_false (fun e => ?_)).symm, fun h3 => ⟨k + 1, ⟨by omega, ?_⟩, by omega, w64 (by omega) (by omega)⟩⟩
    · subst e; rw [hx] at hy; cases hy; simp at h3
    · rw [take_get hx, take_get hy, hk.2]; simp_all
  · have h3 := hk.2
    rw [List.take_of_length_le (by omega), List.take_of_length_le (by omega)] at h3
    exact (decide_eq_true h3).symm
theorem EqB_ok : SpecOk Tryz.prog EqB_n true (specOf true EqB_fs) :=
  spec_ok' TT_ok (show GsOk Tryz.prog EqB_g from gsOk_nil) (by kernel_rfl) mixedOrders Tryz.func42 rfl rfl (by kernel_rfl) (n := 2) (by decide +kernel) (I := EqB_IA) (fun _ _ => isOk_nil) (A := EqB_A)
    (fun args h r hr => by
      unfold EqB_fs at hr
      split at hr
      · rename_i ty0 xs ty1 ys; cases hr; refine ⟨rfl, fun hp => ?_⟩; have hE := EqB_E xs ys ty0 ty1 hp; exact hE
      · cases hr)
def SameC_E0 (c : Cert) (d : Cert) (ty0 ty1 ty2 ty3 ty4 ty5 ty6 ty7 : TypeId) : Prop :=
      ((c.kind == d.kind) = true →
 c.flow.length ≤ (1000000000 : Nat) ∧
 (decide (c.flow = d.flow) = true →
 c.pot.length ≤ (1000000000 : Nat) ∧
 (decide (c.pot = d.pot) = true →
 c.side.length ≤ (1000000000 : Nat) ∧
 (decide (c.side = d.side) = true → c.cycle.length ≤ (1000000000 : Nat) ∧ (decide (c.cycle = d.cycle) = decide (c = d) ∧ True) ∧ True) ∧
 (decide (c.side = d.side) = false → (false = decide (c = d) ∧ True) ∧ True)) ∧
 (decide (c.pot = d.pot) = false → (false = decide (c = d) ∧ True) ∧ True)) ∧
 (decide (c.flow = d.flow) = false → (false = decide (c = d) ∧ True) ∧ True)) ∧
 ((c.kind == d.kind) = false → (false = decide (c = d) ∧ True) ∧ True)
theorem SameC_q (c : Cert) (d : Cert) (ty0 ty1 ty2 ty3 ty4 ty5 ty6 ty7 : TypeId) : SameC_E0 c d ty0 ty1 ty2 ty3 ty4 ty5 ty6 ty7 = FVcP TT SameC_g (SameC_I c d) (SameC_an c d) Tryz.f24 [.agg [.int .i64 c.kind, .row 0, .row 1, .row 2, .row 3], .agg [.int .i64 d.kind, .row 4, .row 5, .row 6, .row 7]] [(0, .row false ty0 (.ints .i64 c.flow)), (1, .row false ty1 (.ints .i64 c.pot)), (2, .row false ty2 (.bools c.side)), (3, .row false ty3 (.ints .i64 c.cycle)), (4, .row false ty4 (.ints .i64 d.flow)), (5, .row false ty5 (.ints .i64 d.pot)), (6, .row false ty6 (.bools d.side)), (7, .row false ty7 (.ints .i64 d.cycle))] (SameC_r c d) := by kernel_rfl
theorem SameC_E (c : Cert) (d : Cert) (ty0 ty1 ty2 ty3 ty4 ty5 ty6 ty7 : TypeId) (hp : c.flow.length ≤ 1000000000 ∧ c.pot.length ≤ 1000000000 ∧ c.side.length ≤ 1000000000 ∧ c.cycle.length ≤ 1000000000) : FVc TT SameC_g (SameC_I c d) (SameC_an c d) Tryz.f24 [.agg [.int .i64 c.kind, .row 0, .row 1, .row 2, .row 3], .agg [.int .i64 d.kind, .row 4, .row 5, .row 6, .row 7]] [(0, .row false ty0 (.ints .i64 c.flow)), (1, .row false ty1 (.ints .i64 c.pot)), (2, .row false ty2 (.bools c.side)), (3, .row false ty3 (.ints .i64 c.cycle)), (4, .row false ty4 (.ints .i64 d.flow)), (5, .row false ty5 (.ints .i64 d.pot)), (6, .row false ty6 (.bools d.side)), (7, .row false ty7 (.ints .i64 d.cycle))] (SameC_r c d) := by
  refine FVc.of (SameC_E0 c d ty0 ty1 ty2 ty3 ty4 ty5 ty6 ty7) (SameC_q c d ty0 ty1 ty2 ty3 ty4 ty5 ty6 ty7) ?_
  unfold SameC_E0
  simp only [eq_self, exists_const, forall_const, decide_eq_true_eq, decide_eq_false_iff_not, and_true, true_and, bne_iff_ne, ne_eq, bne_eq_false_iff_eq, Int.toNat_natCast, Bool.not_eq_true', Bool.not_eq_false', beq_iff_eq, beq_eq_false_iff_ne, nilEq_true]
  obtain ⟨a1, a2, a3, a4⟩ := hp
  refine ⟨fun h0 => ⟨a1, fun h1 => ⟨a2, fun h2 => ⟨a3, fun h3 => ⟨a4, ?_⟩, fun h3 => ?_⟩, fun h2 => ?_⟩, fun h1 => ?_⟩, fun h0 => ?_⟩
  · exact decide_eq_decide.2 ⟨fun e => cert_ext.2 ⟨h0, h1, h2, h3, e⟩, fun e => by rw [e]⟩
  · exact (decide_eq_false fun e => h3 (by rw [e])).symm
  · exact (decide_eq_false fun e => h2 (by rw [e])).symm
  · exact (decide_eq_false fun e => h1 (by rw [e])).symm
  · exact (decide_eq_false fun e => h0 (by rw [e])).symm
theorem SameC_ok : SpecOk Tryz.prog SameC_n true (specOf true SameC_fs) :=
  spec_ok' TT_ok (show GsOk Tryz.prog SameC_g from gsOk_cons EqInts_ok (gsOk_cons EqB_ok (gsOk_cons EqI_ok (gsOk_nil)))) (by kernel_rfl) mixedOrders Tryz.func24 rfl rfl (by kernel_rfl) (n := 2) (by decide +kernel) (I := SameC_IA) (fun _ _ => isOk_nil) (A := SameC_A)
    (fun args h r hr => by
      unfold SameC_fs at hr
      split at hr
      · rename_i c_k d_k ty0 c_f ty1 c_p ty2 c_s ty3 c_y ty4 d_f ty5 d_p ty6 d_s ty7 d_y; cases hr; refine ⟨rfl, fun hp => ?_⟩; have hE := SameC_E ⟨c_k, c_f, c_p, c_s, c_y⟩ ⟨d_k, d_f, d_p, d_s, d_y⟩ ty0 ty1 ty2 ty3 ty4 ty5 ty6 ty7 hp; exact hE
      · cases hr)
def ValueC_E0 (I : Inst) (c : Cert) (ty0 ty1 ty2 ty3 ty4 ty5 : TypeId) : Prop :=
      ((c.kind != (1 : Int)) = true → ((((0 : Int) = (valueW I c).hi ∧ (0 : Int) = (valueW I c).lo ∧ True) ∧ false = decide (c.kind = (1 : Int)) ∧ True) ∧ True) ∧ True) ∧
 ((c.kind != (1 : Int)) = false →
 (A64 c.flow ∧ A64c I.arcs ∧ I.arcs.length ≤ (1000000 : Nat)) ∧
 ((((W (costF I c.flow)).hi = (valueW I c).hi ∧ (W (costF I c.flow)).lo = (valueW I c).lo ∧ True) ∧ true = decide (c.kind = (1 : Int)) ∧ True) ∧ True) ∧ True)
theorem ValueC_q (I : Inst) (c : Cert) (ty0 ty1 ty2 ty3 ty4 ty5 : TypeId) : ValueC_E0 I c ty0 ty1 ty2 ty3 ty4 ty5 = FVcP TT ValueC_g (ValueC_I I c) (ValueC_an I c) Tryz.f13 [.agg [.row 0, .row 1], .agg [.int .i64 c.kind, .row 2, .row 3, .row 4, .row 5]] [(0, .row false ty0 (.ints .i64 I.sup)), (1, .row false ty1 (.arcs I.arcs)), (2, .row false ty2 (.ints .i64 c.flow)), (3, .row false ty3 (.ints .i64 c.pot)), (4, .row false ty4 (.bools c.side)), (5, .row false ty5 (.ints .i64 c.cycle))] (ValueC_r I c) := by kernel_rfl
theorem ValueC_E (I : Inst) (c : Cert) (ty0 ty1 ty2 ty3 ty4 ty5 : TypeId) (hp : CertOk c ∧ InstOk I) : FVc TT ValueC_g (ValueC_I I c) (ValueC_an I c) Tryz.f13 [.agg [.row 0, .row 1], .agg [.int .i64 c.kind, .row 2, .row 3, .row 4, .row 5]] [(0, .row false ty0 (.ints .i64 I.sup)), (1, .row false ty1 (.arcs I.arcs)), (2, .row false ty2 (.ints .i64 c.flow)), (3, .row false ty3 (.ints .i64 c.pot)), (4, .row false ty4 (.bools c.side)), (5, .row false ty5 (.ints .i64 c.cycle))] (ValueC_r I c) := by
  refine FVc.of (ValueC_E0 I c ty0 ty1 ty2 ty3 ty4 ty5) (ValueC_q I c ty0 ty1 ty2 ty3 ty4 ty5) ?_
  unfold ValueC_E0
  obtain ⟨c1, c2, c3, c4, c5, c6⟩ := hp.1
  obtain ⟨i1, i2, i3, i4, i5⟩ := hp.2
  simp only [eq_self, exists_const, forall_const, decide_eq_true_eq, decide_eq_false_iff_not, and_true, true_and, bne_iff_ne, ne_eq, bne_eq_false_iff_eq, Int.toNat_natCast, Bool.not_eq_true', Bool.not_eq_false', beq_iff_eq, beq_eq_false_iff_ne, nilEq_true]
  unfold valueW
  refine ⟨fun h => by rw [if_neg h]; exact ⟨⟨rfl, rfl⟩, (decide_eq_false h).symm⟩, fun h => ⟨⟨c1, i5, by omega⟩, by rw [if_pos h]; exact ⟨⟨rfl, rfl⟩, (decide_eq_true h).symm⟩⟩⟩
theorem ValueC_ok : SpecOk Tryz.prog ValueC_n true (specOf true ValueC_fs) :=
  spec_ok' TT_ok (show GsOk Tryz.prog ValueC_g from gsOk_cons Cost_ok (gsOk_nil)) (by kernel_rfl) mixedOrders Tryz.func13 rfl rfl (by kernel_rfl) (n := 2) (by decide +kernel) (I := ValueC_IA) (fun _ _ => isOk_nil) (A := ValueC_A)
    (fun args h r hr => by
      unfold ValueC_fs at hr
      split at hr
      · rename_i c_k ty0 I_s ty1 I_a ty2 c_f ty3 c_p ty4 c_s ty5 c_y; cases hr; refine ⟨rfl, fun hp => ?_⟩; have hE := ValueC_E ⟨I_s, I_a⟩ ⟨c_k, c_f, c_p, c_s, c_y⟩ ty0 ty1 ty2 ty3 ty4 ty5 hp; exact hE
      · cases hr)
def askedC1_E0 (I : Inst) (c : Cert) (ty0 ty1 ty2 ty3 ty4 ty5 : TypeId) : Prop :=
      (I.sup.length ≤ (10000 : Nat) ∧ I.arcs.length ≤ (10000 : Nat) ∧ A64 c.flow ∧ A64 I.sup ∧ A64 c.pot ∧ A64c I.arcs) ∧ (slackF I c.flow c.pot = slackF I c.flow c.pot ∧ True) ∧ True
theorem askedC1_q (I : Inst) (c : Cert) (ty0 ty1 ty2 ty3 ty4 ty5 : TypeId) : askedC1_E0 I c ty0 ty1 ty2 ty3 ty4 ty5 = FVcP TT askedC1_g (askedC1_I I c) (askedC1_an I c) Tryz.f48 [.agg [.row 0, .row 1], .agg [.int .i64 c.kind, .row 2, .row 3, .row 4, .row 5]] [(0, .row false ty0 (.ints .i64 I.sup)), (1, .row false ty1 (.arcs I.arcs)), (2, .row false ty2 (.ints .i64 c.flow)), (3, .row false ty3 (.ints .i64 c.pot)), (4, .row false ty4 (.bools c.side)), (5, .row false ty5 (.ints .i64 c.cycle))] (askedC1_r I c) := by kernel_rfl
theorem askedC1_E (I : Inst) (c : Cert) (ty0 ty1 ty2 ty3 ty4 ty5 : TypeId) (hp : CertOk c ∧ InstOk I) : FVc TT askedC1_g (askedC1_I I c) (askedC1_an I c) Tryz.f48 [.agg [.row 0, .row 1], .agg [.int .i64 c.kind, .row 2, .row 3, .row 4, .row 5]] [(0, .row false ty0 (.ints .i64 I.sup)), (1, .row false ty1 (.arcs I.arcs)), (2, .row false ty2 (.ints .i64 c.flow)), (3, .row false ty3 (.ints .i64 c.pot)), (4, .row false ty4 (.bools c.side)), (5, .row false ty5 (.ints .i64 c.cycle))] (askedC1_r I c) := by
  refine FVc.of (askedC1_E0 I c ty0 ty1 ty2 ty3 ty4 ty5) (askedC1_q I c ty0 ty1 ty2 ty3 ty4 ty5) ?_
  unfold askedC1_E0
  obtain ⟨c1, c2, c3, c4, c5, c6⟩ := hp.1
  obtain ⟨i1, i2, i3, i4, i5⟩ := hp.2
  simp only [eq_self, exists_const, forall_const, decide_eq_true_eq, decide_eq_false_iff_not, and_true, true_and, bne_iff_ne, ne_eq, bne_eq_false_iff_eq, Int.toNat_natCast, Bool.not_eq_true', Bool.not_eq_false', beq_iff_eq, beq_eq_false_iff_ne, nilEq_true]
  exact ⟨i1, i2, c1, i3, c2, i5⟩
theorem askedC1_ok : SpecOk Tryz.prog askedC1_n true (specOf true askedC1_fs) :=
  spec_ok' TT_ok (show GsOk Tryz.prog askedC1_g from gsOk_cons Slack_ok (gsOk_nil)) (by kernel_rfl) mixedOrders Tryz.func48 rfl rfl (by kernel_rfl) (n := 2) (by decide +kernel) (I := askedC1_IA) (fun _ _ => isOk_nil) (A := askedC1_A)
    (fun args h r hr => by
      unfold askedC1_fs at hr
      split at hr
      · rename_i c_k ty0 I_s ty1 I_a ty2 c_f ty3 c_p ty4 c_s ty5 c_y; cases hr; refine ⟨rfl, fun hp => ?_⟩; have hE := askedC1_E ⟨I_s, I_a⟩ ⟨c_k, c_f, c_p, c_s, c_y⟩ ty0 ty1 ty2 ty3 ty4 ty5 hp; exact hE
      · cases hr)
def askedC2_E0 (I : Inst) (c : Cert) (ty0 ty1 ty2 ty3 ty4 ty5 : TypeId) : Prop :=
      (A64a I.arcs ∧ I.arcs.length ≤ (140737488351232 : Nat) ∧ A64 I.sup ∧ I.sup.length ≤ (140737488351232 : Nat)) ∧ (provesF I c.side = provesF I c.side ∧ True) ∧ True
theorem askedC2_q (I : Inst) (c : Cert) (ty0 ty1 ty2 ty3 ty4 ty5 : TypeId) : askedC2_E0 I c ty0 ty1 ty2 ty3 ty4 ty5 = FVcP TT askedC2_g (askedC2_I I c) (askedC2_an I c) Tryz.f50 [.agg [.row 0, .row 1], .agg [.int .i64 c.kind, .row 2, .row 3, .row 4, .row 5]] [(0, .row false ty0 (.ints .i64 I.sup)), (1, .row false ty1 (.arcs I.arcs)), (2, .row false ty2 (.ints .i64 c.flow)), (3, .row false ty3 (.ints .i64 c.pot)), (4, .row false ty4 (.bools c.side)), (5, .row false ty5 (.ints .i64 c.cycle))] (askedC2_r I c) := by kernel_rfl
theorem askedC2_E (I : Inst) (c : Cert) (ty0 ty1 ty2 ty3 ty4 ty5 : TypeId) (hp : CertOk c ∧ InstOk I) : FVc TT askedC2_g (askedC2_I I c) (askedC2_an I c) Tryz.f50 [.agg [.row 0, .row 1], .agg [.int .i64 c.kind, .row 2, .row 3, .row 4, .row 5]] [(0, .row false ty0 (.ints .i64 I.sup)), (1, .row false ty1 (.arcs I.arcs)), (2, .row false ty2 (.ints .i64 c.flow)), (3, .row false ty3 (.ints .i64 c.pot)), (4, .row false ty4 (.bools c.side)), (5, .row false ty5 (.ints .i64 c.cycle))] (askedC2_r I c) := by
  refine FVc.of (askedC2_E0 I c ty0 ty1 ty2 ty3 ty4 ty5) (askedC2_q I c ty0 ty1 ty2 ty3 ty4 ty5) ?_
  unfold askedC2_E0
  obtain ⟨c1, c2, c3, c4, c5, c6⟩ := hp.1
  obtain ⟨i1, i2, i3, i4, i5⟩ := hp.2
  simp only [eq_self, exists_const, forall_const, decide_eq_true_eq, decide_eq_false_iff_not, and_true, true_and, bne_iff_ne, ne_eq, bne_eq_false_iff_eq, Int.toNat_natCast, Bool.not_eq_true', Bool.not_eq_false', beq_iff_eq, beq_eq_false_iff_ne, nilEq_true]
  exact ⟨i4, by omega, i3, by omega⟩
theorem askedC2_ok : SpecOk Tryz.prog askedC2_n true (specOf true askedC2_fs) :=
  spec_ok' TT_ok (show GsOk Tryz.prog askedC2_g from gsOk_cons Proves_ok (gsOk_nil)) (by kernel_rfl) mixedOrders Tryz.func50 rfl rfl (by kernel_rfl) (n := 2) (by decide +kernel) (I := askedC2_IA) (fun _ _ => isOk_nil) (A := askedC2_A)
    (fun args h r hr => by
      unfold askedC2_fs at hr
      split at hr
      · rename_i c_k ty0 I_s ty1 I_a ty2 c_f ty3 c_p ty4 c_s ty5 c_y; cases hr; refine ⟨rfl, fun hp => ?_⟩; have hE := askedC2_E ⟨I_s, I_a⟩ ⟨c_k, c_f, c_p, c_s, c_y⟩ ty0 ty1 ty2 ty3 ty4 ty5 hp; exact hE
      · cases hr)
def askedC3_E0 (I : Inst) (c : Cert) (ty0 ty1 ty2 ty3 ty4 ty5 : TypeId) : Prop :=
      (I.sup.length ≤ (10000 : Nat) ∧ I.arcs.length ≤ (10000 : Nat) ∧ A64 c.flow ∧ A64 I.sup) ∧
 ((fitsF I c.flow != (0 : Int)) = true → ((fitsF I c.flow = if fitsF I c.flow ≠ (0 : Int) then fitsF I c.flow else turnsF I c.cycle) ∧ True) ∧ True) ∧
 ((fitsF I c.flow != (0 : Int)) = false →
 (c.cycle.length ≤ (140737488351232 : Nat) ∧ A64c I.arcs) ∧ ((turnsF I c.cycle = if fitsF I c.flow ≠ (0 : Int) then fitsF I c.flow else turnsF I c.cycle) ∧ True) ∧ True)
theorem askedC3_q (I : Inst) (c : Cert) (ty0 ty1 ty2 ty3 ty4 ty5 : TypeId) : askedC3_E0 I c ty0 ty1 ty2 ty3 ty4 ty5 = FVcP TT askedC3_g (askedC3_I I c) (askedC3_an I c) Tryz.f52 [.agg [.row 0, .row 1], .agg [.int .i64 c.kind, .row 2, .row 3, .row 4, .row 5]] [(0, .row false ty0 (.ints .i64 I.sup)), (1, .row false ty1 (.arcs I.arcs)), (2, .row false ty2 (.ints .i64 c.flow)), (3, .row false ty3 (.ints .i64 c.pot)), (4, .row false ty4 (.bools c.side)), (5, .row false ty5 (.ints .i64 c.cycle))] (askedC3_r I c) := by kernel_rfl
theorem askedC3_E (I : Inst) (c : Cert) (ty0 ty1 ty2 ty3 ty4 ty5 : TypeId) (hp : CertOk c ∧ InstOk I) : FVc TT askedC3_g (askedC3_I I c) (askedC3_an I c) Tryz.f52 [.agg [.row 0, .row 1], .agg [.int .i64 c.kind, .row 2, .row 3, .row 4, .row 5]] [(0, .row false ty0 (.ints .i64 I.sup)), (1, .row false ty1 (.arcs I.arcs)), (2, .row false ty2 (.ints .i64 c.flow)), (3, .row false ty3 (.ints .i64 c.pot)), (4, .row false ty4 (.bools c.side)), (5, .row false ty5 (.ints .i64 c.cycle))] (askedC3_r I c) := by
  refine FVc.of (askedC3_E0 I c ty0 ty1 ty2 ty3 ty4 ty5) (askedC3_q I c ty0 ty1 ty2 ty3 ty4 ty5) ?_
  unfold askedC3_E0
  obtain ⟨c1, c2, c3, c4, c5, c6⟩ := hp.1
  obtain ⟨i1, i2, i3, i4, i5⟩ := hp.2
  simp only [eq_self, exists_const, forall_const, decide_eq_true_eq, decide_eq_false_iff_not, and_true, true_and, bne_iff_ne, ne_eq, bne_eq_false_iff_eq, Int.toNat_natCast, Bool.not_eq_true', Bool.not_eq_false', beq_iff_eq, beq_eq_false_iff_ne, nilEq_true]
  refine ⟨⟨i1, i2, c1, i3⟩, fun h => by rw [if_pos h], fun h => ⟨⟨c6, i5⟩, by rw [if_neg (fun h2 => h2 h)]⟩⟩
theorem askedC3_ok : SpecOk Tryz.prog askedC3_n true (specOf true askedC3_fs) :=
  spec_ok' TT_ok (show GsOk Tryz.prog askedC3_g from gsOk_cons Fits_ok (gsOk_cons Turns_ok (gsOk_nil))) (by kernel_rfl) mixedOrders Tryz.func52 rfl rfl (by kernel_rfl) (n := 2) (by decide +kernel) (I := askedC3_IA) (fun _ _ => isOk_nil) (A := askedC3_A)
    (fun args h r hr => by
      unfold askedC3_fs at hr
      split at hr
      · rename_i c_k ty0 I_s ty1 I_a ty2 c_f ty3 c_p ty4 c_s ty5 c_y; cases hr; refine ⟨rfl, fun hp => ?_⟩; have hE := askedC3_E ⟨I_s, I_a⟩ ⟨c_k, c_f, c_p, c_s, c_y⟩ ty0 ty1 ty2 ty3 ty4 ty5 hp; exact hE
      · cases hr)
theorem askedC_ok : SpecOk Tryz.prog askedC_n false askedC_spec :=
  inl_ok TT_ok (show GsOk Tryz.prog askedC_g from gsOk_nil) (by kernel_rfl) mixedOrders Tryz.func27 rfl rfl (by kernel_rfl) _
def Check_E0 (I : Inst) (c : Cert) (ty0 ty1 ty2 ty3 ty4 ty5 : TypeId) : Prop :=
      True ∧
 ((rightF I != (0 : Int)) = true → (rightF I = checkF I c ∧ True) ∧ True) ∧
 ((rightF I != (0 : Int)) = false →
 True ∧
 ((!plainF { kind := c.kind, flow := c.flow, pot := c.pot, side := c.side, cycle := c.cycle : Cert }) = true → ((36 : Int) = checkF I c ∧ True) ∧ True) ∧
 ((!plainF { kind := c.kind, flow := c.flow, pot := c.pot, side := c.side, cycle := c.cycle : Cert }) = false →
 ((∀ (p : List Int × Int),
 List.Mem p
 (mput (mput (mput [] [(1 : Int)] ((↑(48 : Nat) : Int) + (1 : Int))) [(2 : Int)] ((↑(50 : Nat) : Int) + (1 : Int))) [(3 : Int)]
 ((↑(52 : Nat) : Int) + (1 : Int))) →
 (0 : Int) < p.snd) ∧
 ([c.kind] = [(1 : Int)] →
 (CertOk { kind := c.kind, flow := c.flow, pot := c.pot, side := c.side, cycle := c.cycle : Cert } ∧ InstOk I) ∧
 (slackF I c.flow c.pot = checkF I c ∧ True) ∧ True) ∧
 ([c.kind] ≠ [(1 : Int)] →
 ([c.kind] = [(2 : Int)] →
 (CertOk { kind := c.kind, flow := c.flow, pot := c.pot, side := c.side, cycle := c.cycle : Cert } ∧ InstOk I) ∧
 (provesF I c.side = checkF I c ∧ True) ∧ True) ∧
 ([c.kind] ≠ [(2 : Int)] →
 ([c.kind] = [(3 : Int)] →
 (CertOk { kind := c.kind, flow := c.flow, pot := c.pot, side := c.side, cycle := c.cycle : Cert } ∧ InstOk I) ∧
 ((if fitsF I c.flow ≠ (0 : Int) then fitsF I c.flow else turnsF I c.cycle) = checkF I c ∧ True) ∧ True) ∧
 ([c.kind] ≠ [(3 : Int)] → ((36 : Int) = checkF I c ∧ True) ∧ True)))) ∧
 (∀ (p : List Int × Int),
 List.Mem p
 (mput (mput (mput [] [(1 : Int)] ((↑(48 : Nat) : Int) + (1 : Int))) [(2 : Int)] ((↑(50 : Nat) : Int) + (1 : Int))) [(3 : Int)]
 ((↑(52 : Nat) : Int) + (1 : Int))) →
 (0 : Int) < p.snd) ∧
 ([c.kind] = [(1 : Int)] →
 (CertOk { kind := c.kind, flow := c.flow, pot := c.pot, side := c.side, cycle := c.cycle : Cert } ∧ InstOk I) ∧
 (slackF I c.flow c.pot = checkF I c ∧ True) ∧ True) ∧
 ([c.kind] ≠ [(1 : Int)] →
 ([c.kind] = [(2 : Int)] →
 (CertOk { kind := c.kind, flow := c.flow, pot := c.pot, side := c.side, cycle := c.cycle : Cert } ∧ InstOk I) ∧
 (provesF I c.side = checkF I c ∧ True) ∧ True) ∧
 ([c.kind] ≠ [(2 : Int)] →
 ([c.kind] = [(3 : Int)] →
 (CertOk { kind := c.kind, flow := c.flow, pot := c.pot, side := c.side, cycle := c.cycle : Cert } ∧ InstOk I) ∧
 ((if fitsF I c.flow ≠ (0 : Int) then fitsF I c.flow else turnsF I c.cycle) = checkF I c ∧ True) ∧ True) ∧
 ([c.kind] ≠ [(3 : Int)] → ((36 : Int) = checkF I c ∧ True) ∧ True)))))
theorem Check_q (I : Inst) (c : Cert) (ty0 ty1 ty2 ty3 ty4 ty5 : TypeId) : Check_E0 I c ty0 ty1 ty2 ty3 ty4 ty5 = FVcP TT Check_g (Check_I I c) (Check_an I c) Tryz.f14 [.agg [.row 0, .row 1], .agg [.int .i64 c.kind, .row 2, .row 3, .row 4, .row 5]] [(0, .row false ty0 (.ints .i64 I.sup)), (1, .row false ty1 (.arcs I.arcs)), (2, .row false ty2 (.ints .i64 c.flow)), (3, .row false ty3 (.ints .i64 c.pot)), (4, .row false ty4 (.bools c.side)), (5, .row false ty5 (.ints .i64 c.cycle))] (Check_r I c) := by kernel_rfl
theorem Check_E (I : Inst) (c : Cert) (ty0 ty1 ty2 ty3 ty4 ty5 : TypeId) (hp : CertOk c ∧ InstOk I) : FVc TT Check_g (Check_I I c) (Check_an I c) Tryz.f14 [.agg [.row 0, .row 1], .agg [.int .i64 c.kind, .row 2, .row 3, .row 4, .row 5]] [(0, .row false ty0 (.ints .i64 I.sup)), (1, .row false ty1 (.arcs I.arcs)), (2, .row false ty2 (.ints .i64 c.flow)), (3, .row false ty3 (.ints .i64 c.pot)), (4, .row false ty4 (.bools c.side)), (5, .row false ty5 (.ints .i64 c.cycle))] (Check_r I c) := by
  refine FVc.of (Check_E0 I c ty0 ty1 ty2 ty3 ty4 ty5) (Check_q I c ty0 ty1 ty2 ty3 ty4 ty5) ?_
  unfold Check_E0
  obtain ⟨c1, c2, c3, c4, c5, c6⟩ := hp.1
  have hc : CertOk ⟨c.kind, c.flow, c.pot, c.side, c.cycle⟩ := hp.1
  have mem : ∀ x y z : Nat, ∀ p : List Int × Int, List.Mem p (mput (mput (mput [] [1] ((x : Int) + 1)) [2] ((y : Int) + 1)) [3] ((z : Int) + 1)) → 0 < p.2 := fun x y z p hp => by
    have h : p ∈ [([(1 : Int)], (x : Int) + 1), ([2], (y : Int) + 1), ([3], (z : Int) + 1)] := hp
    simp only [List.mem_cons, List.not_mem_nil, or_false] at h
    rcases h with rfl | rfl | rfl <;> dsimp only <;> omega
  refine ⟨trivial, fun h => ⟨?_, trivial⟩, fun h => ⟨trivial, fun h2 => ⟨?_, trivial⟩, fun h2 => ?_⟩⟩
  · have h3 : ¬ rightF I = 0 := by simpa using h
    unfold checkF; rw [if_pos h3]; exact ⟨rfl, trivial⟩
  · have h3 : rightF I = 0 := by simpa using h
    have h4 : plainF c = false := by simpa using h2
    unfold checkF; rw [if_neg (fun h5 => h5 h3), if_pos h4]; exact ⟨rfl, trivial⟩
  · have h3 : rightF I = 0 := by simpa using h
    have h4 : plainF c = true := by simpa using h2
    have e0 : checkF I c = if c.kind = 1 then slackF I c.flow c.pot else if c.kind = 2 then provesF I c.side else if fitsF I c.flow ≠ 0 then fitsF I c.flow else turnsF I c.cycle := by
      unfold checkF; rw [if_neg (fun h5 => h5 h3), if_neg (by rw [h4]; simp)]
    have hk := plainF_kind h4
    have f1 : ([c.kind] = [(1 : Int)] → (CertOk c ∧ InstOk I) ∧ (slackF I c.flow c.pot = checkF I c ∧ True) ∧ True) := fun h => by
      have h : c.kind = 1 := by simpa using h
      exact ⟨hp, ⟨by rw [e0, if_pos h], trivial⟩, trivial⟩
    have f2 : [c.kind] ≠ [(1 : Int)] → ([c.kind] = [(2 : Int)] → (CertOk c ∧ InstOk I) ∧ (provesF I c.side = checkF I c ∧ True) ∧ True) := fun _ h => by
      have h : c.kind = 2 := by simpa using h
      exact ⟨hp, ⟨by rw [e0, if_neg (by omega), if_pos h], trivial⟩, trivial⟩
    have f3 : [c.kind] ≠ [(2 : Int)] → ([c.kind] = [(3 : Int)] → (CertOk c ∧ InstOk I) ∧ ((if fitsF I c.flow ≠ (0 : Int) then fitsF I c.flow else turnsF I c.cycle) = checkF I c ∧ True) ∧ True) := fun _ h => by
      have h : c.kind = 3 := by simpa using h
      exact ⟨hp, ⟨by rw [e0, if_neg (show ¬ c.kind = 1 by omega), if_neg (show ¬ c.kind = 2 by omega)], trivial⟩, trivial⟩
    have f4 : [c.kind] ≠ [(1 : Int)] → [c.kind] ≠ [(2 : Int)] → [c.kind] ≠ [(3 : Int)] → ((36 : Int) = checkF I c ∧ True) ∧ True := fun g1 g2 g3 => by
      rcases hk with h | h | h
      · exact absurd (by rw [h]) g1
      · exact absurd (by rw [h]) g2
      · exact absurd (by rw [h]) g3
    exact ⟨⟨mem _ _ _, f1, fun g1 => ⟨f2 g1, fun g2 => ⟨f3 g2, fun g3 => f4 g1 g2 g3⟩⟩⟩, mem _ _ _, f1, fun g1 => ⟨f2 g1, fun g2 => ⟨f3 g2, fun g3 => f4 g1 g2 g3⟩⟩⟩
theorem Check_ok : SpecOk Tryz.prog Check_n true (specOf true Check_fs) :=
  spec_ok' TT_ok (show GsOk Tryz.prog Check_g from gsOk_cons Right_ok (gsOk_cons Plain13_ok (gsOk_cons askedC_ok (gsOk_cons askedC1_ok (gsOk_cons askedC2_ok (gsOk_cons askedC3_ok (gsOk_nil))))))) (by kernel_rfl) mixedOrders Tryz.func14 rfl rfl (by kernel_rfl) (n := 2) (by decide +kernel) (I := Check_IA) (fun _ _ => isOk_nil) (A := Check_A)
    (fun args h r hr => by
      unfold Check_fs at hr
      split at hr
      · rename_i c_k ty0 I_s ty1 I_a ty2 c_f ty3 c_p ty4 c_s ty5 c_y; cases hr; refine ⟨rfl, fun hp => ?_⟩; have hE := Check_E ⟨I_s, I_a⟩ ⟨c_k, c_f, c_p, c_s, c_y⟩ ty0 ty1 ty2 ty3 ty4 ty5 hp; exact hE
      · cases hr)
end Go.Proofs.YtahbkllfifmdfaaGreat
