/- Part of the proof, FK13. -/
import Derived.Test.YtggblkbecekbdaaZFC10
import Derived.Test.YtggblkbecekbdaaZFP11
import Derived.Test.YtggblkbecekbdaaZFQ11
import Derived.Test.YtggblkbecekbdaaZFS12
import Derived.Test.YtggblkbecekbdaaZDK13
import Derived.Test.YtggblkbecekbdaaZVc11
set_option linter.unusedVariables false
set_option linter.all false
set_option linter.unusedSimpArgs false
set_option maxRecDepth 100000
namespace Go.Proofs.Ytggblkbecekbdaa
open Go Go.RowKit Go.Ql Go.Vc
def empty13_E0 (l : List Int) (ty0 : TypeId) : Prop :=
      ∃ (g0 : Nat),
 (g0 ≤ l.length ∧ ((0 : Int) = (↑(zerosF (List.take g0 l)) : Int) ∧ True ∧ (↑l.length : Int) = (↑l.length : Int) ∧ (0 : Int) = (↑g0 : Int) ∧ True) ∧ l = l ∧ True) ∧
 ∀ (g : Nat),
 g ≤ l.length →
 (decide ((↑g : Int) < (↑l.length : Int)) = true →
 ((0 : Int) ≤ (↑g : Int) ∧ (↑g : Int) < (↑l.length : Int)) ∧
 (↑g : Int).toNat < l.length ∧
 ∀ (x : Int),
 l[(↑g : Int).toNat]? = some x →
 ((x == (0 : Int)) = true →
 ∃ (g' : Nat),
 g' ≤ l.length ∧
 l.length - g' < l.length - g ∧
 (IntKind.i64.wrap ((↑(zerosF (List.take g l)) : Int) + (1 : Int)) = (↑(zerosF (List.take g' l)) : Int) ∧
 True ∧ (↑l.length : Int) = (↑l.length : Int) ∧ IntKind.i64.wrap ((↑g : Int) + (1 : Int)) = (↑g' : Int) ∧ True) ∧
 l = l ∧ True) ∧
 ((x == (0 : Int)) = false →
 ∃ (g' : Nat),
 g' ≤ l.length ∧
 l.length - g' < l.length - g ∧
 ((↑(zerosF (List.take g l)) : Int) = (↑(zerosF (List.take g' l)) : Int) ∧
 True ∧ (↑l.length : Int) = (↑l.length : Int) ∧ IntKind.i64.wrap ((↑g : Int) + (1 : Int)) = (↑g' : Int) ∧ True) ∧
 l = l ∧ True)) ∧
 (decide ((↑g : Int) < (↑l.length : Int)) = false → ((↑(zerosF (List.take g l)) : Int) = (↑(zerosF l) : Int) ∧ True) ∧ True)
theorem empty13_q (l : List Int) (ty0 : TypeId) : empty13_E0 l ty0 = FVcP TT empty13_g (empty13_I l) (empty13_an l) Try.f52 [.row 0] [(0, .row false ty0 (.ints .i64 l))] (empty13_r l) := by kernel_rfl
theorem empty13_E (l : List Int) (ty0 : TypeId) (hp : l.length ≤ 1000000000) : FVc TT empty13_g (empty13_I l) (empty13_an l) Try.f52 [.row 0] [(0, .row false ty0 (.ints .i64 l))] (empty13_r l) := by
  refine FVc.of (empty13_E0 l ty0) (empty13_q l ty0) ?_
  unfold empty13_E0
  simp only [eq_self, exists_const, forall_const, decide_eq_true_eq, decide_eq_false_iff_not, and_true, true_and, bne_iff_ne, ne_eq, bne_eq_false_iff_eq, Int.toNat_natCast, Bool.not_eq_true', Bool.not_eq_false', beq_iff_eq, beq_eq_false_iff_ne, nilEq_true]
  refine ⟨0, ⟨by omega, rfl, rfl⟩, fun g hg => ⟨fun h1 => ⟨by omega, by omega, fun x hx => ?_⟩, fun h1 => ?_⟩⟩
  · have hw : IntKind.i64.wrap ((g : Int) + 1) = ((g + 1 : Nat) : Int) := by rw [w64 (by omega) (by omega)]; omega
    have hz := zerosF_snoc (l.take g) x
    rw [← take_get hx] at hz
    have hle := zerosF_le (l.take g)
    rw [List.length_take] at hle
    refine ⟨fun h2 => ⟨g + 1, by omega, by omega, ?_, hw⟩, fun h2 => ⟨g + 1, by omega, by omega, ?_, hw⟩⟩
    · rw [hz, if_pos h2, w64 (by omega) (by omega)]; omega
    · rw [hz, if_neg h2]; omega
  · rw [List.take_of_length_le (by omega)]
theorem empty13_ok : SpecOk Try.prog empty13_n true (specOf true empty13_fs) :=
  spec_ok' TT_ok (show GsOk Try.prog empty13_g from gsOk_nil) (by kernel_rfl) mixedOrders Try.func52 rfl rfl (by kernel_rfl) (n := 1) (by decide +kernel) (I := empty13_IA) (fun _ _ => isOk_nil) (A := empty13_A)
    (fun args h r hr => by
      unfold empty13_fs at hr
      split at hr
      · rename_i ty0 l; cases hr; refine ⟨rfl, fun hp => ?_⟩; have hE := empty13_E l ty0 hp; exact hE
      · cases hr)
def Plain13_E0 (c : Cert) (ty0 ty1 ty2 ty3 : TypeId) : Prop :=
      ((c.kind == (1 : Int)) = true → (2 : Nat) ≤ (1000000000 : Nat) ∧ (((↑(zerosF [(↑c.side.length : Int), (↑c.cycle.length : Int)]) : Int) == (2 : Int)) = plainF c ∧ True) ∧ True) ∧
 ((c.kind == (1 : Int)) = false →
 ((c.kind == (2 : Int)) = true →
 (3 : Nat) ≤ (1000000000 : Nat) ∧ (((↑(zerosF [(↑c.flow.length : Int), (↑c.pot.length : Int), (↑c.cycle.length : Int)]) : Int) == (3 : Int)) = plainF c ∧ True) ∧ True) ∧
 ((c.kind == (2 : Int)) = false →
 ((c.kind == (3 : Int)) = true →
 (2 : Nat) ≤ (1000000000 : Nat) ∧ (((↑(zerosF [(↑c.pot.length : Int), (↑c.side.length : Int)]) : Int) == (2 : Int)) = plainF c ∧ True) ∧ True) ∧
 ((c.kind == (3 : Int)) = false → (false = plainF c ∧ True) ∧ True)))
theorem Plain13_q (c : Cert) (ty0 ty1 ty2 ty3 : TypeId) : Plain13_E0 c ty0 ty1 ty2 ty3 = FVcP TT Plain13_g (Plain13_I c) (Plain13_an c) Try.f30 [.agg [.int .i64 c.kind, .row 0, .row 1, .row 2, .row 3]] [(0, .row false ty0 (.ints .i64 c.flow)), (1, .row false ty1 (.ints .i64 c.pot)), (2, .row false ty2 (.bools c.side)), (3, .row false ty3 (.ints .i64 c.cycle))] (Plain13_r c) := by kernel_rfl
theorem Plain13_E (c : Cert) (ty0 ty1 ty2 ty3 : TypeId) (hp : True) : FVc TT Plain13_g (Plain13_I c) (Plain13_an c) Try.f30 [.agg [.int .i64 c.kind, .row 0, .row 1, .row 2, .row 3]] [(0, .row false ty0 (.ints .i64 c.flow)), (1, .row false ty1 (.ints .i64 c.pot)), (2, .row false ty2 (.bools c.side)), (3, .row false ty3 (.ints .i64 c.cycle))] (Plain13_r c) := by
  refine FVc.of (Plain13_E0 c ty0 ty1 ty2 ty3) (Plain13_q c ty0 ty1 ty2 ty3) ?_
  unfold Plain13_E0
  simp only [eq_self, exists_const, forall_const, decide_eq_true_eq, decide_eq_false_iff_not, and_true, true_and, bne_iff_ne, ne_eq, bne_eq_false_iff_eq, Int.toNat_natCast, Bool.not_eq_true', Bool.not_eq_false', beq_iff_eq, beq_eq_false_iff_ne, nilEq_true]
  unfold plainF
  have e2 : ∀ a b : Nat, (((zerosF [(a : Int), (b : Int)] : Nat) : Int) == 2) = (decide (a = 0) && decide (b = 0)) := fun a b => by
    rw [zerosF_cons, zerosF_cons, zerosF_nil]
    by_cases ha : a = 0 <;> by_cases hb : b = 0 <;> simp [ha, hb]
  have e3 : ∀ a b c : Nat, (((zerosF [(a : Int), (b : Int), (c : Int)] : Nat) : Int) == 3) = (decide (a = 0) && decide (b = 0) && decide (c = 0)) := fun a b c => by
    rw [zerosF_cons, zerosF_cons, zerosF_cons, zerosF_nil]
    by_cases ha : a = 0 <;> by_cases hb : b = 0 <;> by_cases hc : c = 0 <;> simp [ha, hb, hc]
  refine ⟨fun h1 => ⟨by omega, by rw [if_pos h1, e2]⟩, fun h1 => ⟨fun h2 => ⟨by omega, by rw [if_neg h1, if_pos h2, e3]⟩, fun h2 => ⟨fun h3 => ⟨by omega, by rw [if_neg h1, if_neg h2, if_pos h3, e2]⟩, fun h3 => by rw [if_neg h1, if_neg h2, if_neg h3]⟩⟩⟩
theorem Plain13_ok : SpecOk Try.prog Plain13_n true (specOf true Plain13_fs) :=
  spec_ok' TT_ok (show GsOk Try.prog Plain13_g from gsOk_cons empty13_ok (gsOk_nil)) (by kernel_rfl) mixedOrders Try.func30 rfl rfl (by kernel_rfl) (n := 1) (by decide +kernel) (I := Plain13_IA) (fun _ _ => isOk_nil) (A := Plain13_A)
    (fun args h r hr => by
      unfold Plain13_fs at hr
      split at hr
      · rename_i c_k ty0 c_f ty1 c_p ty2 c_s ty3 c_y; cases hr; refine ⟨rfl, fun hp => ?_⟩; have hE := Plain13_E ⟨c_k, c_f, c_p, c_s, c_y⟩ ty0 ty1 ty2 ty3 hp; exact hE
      · cases hr)
def ValueC_E0 (I : Inst) (c : Cert) (ty0 ty1 ty2 ty3 ty4 ty5 : TypeId) : Prop :=
      ((c.kind != (1 : Int)) = true → ((((0 : Int) = (valueW I c).hi ∧ (0 : Int) = (valueW I c).lo ∧ True) ∧ false = decide (c.kind = (1 : Int)) ∧ True) ∧ True) ∧ True) ∧
 ((c.kind != (1 : Int)) = false →
 (A64 c.flow ∧ A64c I.arcs ∧ I.arcs.length ≤ (1000000 : Nat)) ∧
 ((((W (costF I c.flow)).hi = (valueW I c).hi ∧ (W (costF I c.flow)).lo = (valueW I c).lo ∧ True) ∧ true = decide (c.kind = (1 : Int)) ∧ True) ∧ True) ∧ True)
theorem ValueC_q (I : Inst) (c : Cert) (ty0 ty1 ty2 ty3 ty4 ty5 : TypeId) : ValueC_E0 I c ty0 ty1 ty2 ty3 ty4 ty5 = FVcP TT ValueC_g (ValueC_I I c) (ValueC_an I c) Try.f15 [.agg [.row 0, .row 1], .agg [.int .i64 c.kind, .row 2, .row 3, .row 4, .row 5]] [(0, .row false ty0 (.ints .i64 I.sup)), (1, .row false ty1 (.arcs I.arcs)), (2, .row false ty2 (.ints .i64 c.flow)), (3, .row false ty3 (.ints .i64 c.pot)), (4, .row false ty4 (.bools c.side)), (5, .row false ty5 (.ints .i64 c.cycle))] (ValueC_r I c) := by kernel_rfl
theorem ValueC_E (I : Inst) (c : Cert) (ty0 ty1 ty2 ty3 ty4 ty5 : TypeId) (hp : CertOk c ∧ InstOk I) : FVc TT ValueC_g (ValueC_I I c) (ValueC_an I c) Try.f15 [.agg [.row 0, .row 1], .agg [.int .i64 c.kind, .row 2, .row 3, .row 4, .row 5]] [(0, .row false ty0 (.ints .i64 I.sup)), (1, .row false ty1 (.arcs I.arcs)), (2, .row false ty2 (.ints .i64 c.flow)), (3, .row false ty3 (.ints .i64 c.pot)), (4, .row false ty4 (.bools c.side)), (5, .row false ty5 (.ints .i64 c.cycle))] (ValueC_r I c) := by
  refine FVc.of (ValueC_E0 I c ty0 ty1 ty2 ty3 ty4 ty5) (ValueC_q I c ty0 ty1 ty2 ty3 ty4 ty5) ?_
  unfold ValueC_E0
  obtain ⟨c1, c2, c3, c4, c5, c6⟩ := hp.1
  obtain ⟨i1, i2, i3, i4, i5⟩ := hp.2
  simp only [eq_self, exists_const, forall_const, decide_eq_true_eq, decide_eq_false_iff_not, and_true, true_and, bne_iff_ne, ne_eq, bne_eq_false_iff_eq, Int.toNat_natCast, Bool.not_eq_true', Bool.not_eq_false', beq_iff_eq, beq_eq_false_iff_ne, nilEq_true]
  unfold valueW
  refine ⟨fun h => by rw [if_neg h]; exact ⟨⟨rfl, rfl⟩, (decide_eq_false h).symm⟩, fun h => ⟨⟨c1, i5, by omega⟩, by rw [if_pos h]; exact ⟨⟨rfl, rfl⟩, (decide_eq_true h).symm⟩⟩⟩
theorem ValueC_ok : SpecOk Try.prog ValueC_n true (specOf true ValueC_fs) :=
  spec_ok' TT_ok (show GsOk Try.prog ValueC_g from gsOk_cons Cost_ok (gsOk_nil)) (by kernel_rfl) mixedOrders Try.func15 rfl rfl (by kernel_rfl) (n := 2) (by decide +kernel) (I := ValueC_IA) (fun _ _ => isOk_nil) (A := ValueC_A)
    (fun args h r hr => by
      unfold ValueC_fs at hr
      split at hr
      · rename_i c_k ty0 I_s ty1 I_a ty2 c_f ty3 c_p ty4 c_s ty5 c_y; cases hr; refine ⟨rfl, fun hp => ?_⟩; have hE := ValueC_E ⟨I_s, I_a⟩ ⟨c_k, c_f, c_p, c_s, c_y⟩ ty0 ty1 ty2 ty3 ty4 ty5 hp; exact hE
      · cases hr)
def askedC1_E0 (I : Inst) (c : Cert) (ty0 ty1 ty2 ty3 ty4 ty5 : TypeId) : Prop :=
      (I.sup.length ≤ (10000 : Nat) ∧ I.arcs.length ≤ (10000 : Nat) ∧ A64 c.flow ∧ A64 I.sup ∧ A64 c.pot ∧ A64c I.arcs) ∧ (slackF I c.flow c.pot = slackF I c.flow c.pot ∧ True) ∧ True
theorem askedC1_q (I : Inst) (c : Cert) (ty0 ty1 ty2 ty3 ty4 ty5 : TypeId) : askedC1_E0 I c ty0 ty1 ty2 ty3 ty4 ty5 = FVcP TT askedC1_g (askedC1_I I c) (askedC1_an I c) Try.f54 [.agg [.row 0, .row 1], .agg [.int .i64 c.kind, .row 2, .row 3, .row 4, .row 5]] [(0, .row false ty0 (.ints .i64 I.sup)), (1, .row false ty1 (.arcs I.arcs)), (2, .row false ty2 (.ints .i64 c.flow)), (3, .row false ty3 (.ints .i64 c.pot)), (4, .row false ty4 (.bools c.side)), (5, .row false ty5 (.ints .i64 c.cycle))] (askedC1_r I c) := by kernel_rfl
theorem askedC1_E (I : Inst) (c : Cert) (ty0 ty1 ty2 ty3 ty4 ty5 : TypeId) (hp : CertOk c ∧ InstOk I) : FVc TT askedC1_g (askedC1_I I c) (askedC1_an I c) Try.f54 [.agg [.row 0, .row 1], .agg [.int .i64 c.kind, .row 2, .row 3, .row 4, .row 5]] [(0, .row false ty0 (.ints .i64 I.sup)), (1, .row false ty1 (.arcs I.arcs)), (2, .row false ty2 (.ints .i64 c.flow)), (3, .row false ty3 (.ints .i64 c.pot)), (4, .row false ty4 (.bools c.side)), (5, .row false ty5 (.ints .i64 c.cycle))] (askedC1_r I c) := by
  refine FVc.of (askedC1_E0 I c ty0 ty1 ty2 ty3 ty4 ty5) (askedC1_q I c ty0 ty1 ty2 ty3 ty4 ty5) ?_
  unfold askedC1_E0
  obtain ⟨c1, c2, c3, c4, c5, c6⟩ := hp.1
  obtain ⟨i1, i2, i3, i4, i5⟩ := hp.2
  simp only [eq_self, exists_const, forall_const, decide_eq_true_eq, decide_eq_false_iff_not, and_true, true_and, bne_iff_ne, ne_eq, bne_eq_false_iff_eq, Int.toNat_natCast, Bool.not_eq_true', Bool.not_eq_false', beq_iff_eq, beq_eq_false_iff_ne, nilEq_true]
  exact ⟨i1, i2, c1, i3, c2, i5⟩
theorem askedC1_ok : SpecOk Try.prog askedC1_n true (specOf true askedC1_fs) :=
  spec_ok' TT_ok (show GsOk Try.prog askedC1_g from gsOk_cons Slack_ok (gsOk_nil)) (by kernel_rfl) mixedOrders Try.func54 rfl rfl (by kernel_rfl) (n := 2) (by decide +kernel) (I := askedC1_IA) (fun _ _ => isOk_nil) (A := askedC1_A)
    (fun args h r hr => by
      unfold askedC1_fs at hr
      split at hr
      · rename_i c_k ty0 I_s ty1 I_a ty2 c_f ty3 c_p ty4 c_s ty5 c_y; cases hr; refine ⟨rfl, fun hp => ?_⟩; have hE := askedC1_E ⟨I_s, I_a⟩ ⟨c_k, c_f, c_p, c_s, c_y⟩ ty0 ty1 ty2 ty3 ty4 ty5 hp; exact hE
      · cases hr)
def askedC2_E0 (I : Inst) (c : Cert) (ty0 ty1 ty2 ty3 ty4 ty5 : TypeId) : Prop :=
      (A64a I.arcs ∧ I.arcs.length ≤ (140737488351232 : Nat) ∧ A64 I.sup ∧ I.sup.length ≤ (140737488351232 : Nat)) ∧ (provesF I c.side = provesF I c.side ∧ True) ∧ True
theorem askedC2_q (I : Inst) (c : Cert) (ty0 ty1 ty2 ty3 ty4 ty5 : TypeId) : askedC2_E0 I c ty0 ty1 ty2 ty3 ty4 ty5 = FVcP TT askedC2_g (askedC2_I I c) (askedC2_an I c) Try.f56 [.agg [.row 0, .row 1], .agg [.int .i64 c.kind, .row 2, .row 3, .row 4, .row 5]] [(0, .row false ty0 (.ints .i64 I.sup)), (1, .row false ty1 (.arcs I.arcs)), (2, .row false ty2 (.ints .i64 c.flow)), (3, .row false ty3 (.ints .i64 c.pot)), (4, .row false ty4 (.bools c.side)), (5, .row false ty5 (.ints .i64 c.cycle))] (askedC2_r I c) := by kernel_rfl
theorem askedC2_E (I : Inst) (c : Cert) (ty0 ty1 ty2 ty3 ty4 ty5 : TypeId) (hp : CertOk c ∧ InstOk I) : FVc TT askedC2_g (askedC2_I I c) (askedC2_an I c) Try.f56 [.agg [.row 0, .row 1], .agg [.int .i64 c.kind, .row 2, .row 3, .row 4, .row 5]] [(0, .row false ty0 (.ints .i64 I.sup)), (1, .row false ty1 (.arcs I.arcs)), (2, .row false ty2 (.ints .i64 c.flow)), (3, .row false ty3 (.ints .i64 c.pot)), (4, .row false ty4 (.bools c.side)), (5, .row false ty5 (.ints .i64 c.cycle))] (askedC2_r I c) := by
  refine FVc.of (askedC2_E0 I c ty0 ty1 ty2 ty3 ty4 ty5) (askedC2_q I c ty0 ty1 ty2 ty3 ty4 ty5) ?_
  unfold askedC2_E0
  obtain ⟨c1, c2, c3, c4, c5, c6⟩ := hp.1
  obtain ⟨i1, i2, i3, i4, i5⟩ := hp.2
  simp only [eq_self, exists_const, forall_const, decide_eq_true_eq, decide_eq_false_iff_not, and_true, true_and, bne_iff_ne, ne_eq, bne_eq_false_iff_eq, Int.toNat_natCast, Bool.not_eq_true', Bool.not_eq_false', beq_iff_eq, beq_eq_false_iff_ne, nilEq_true]
  exact ⟨i4, by omega, i3, by omega⟩
theorem askedC2_ok : SpecOk Try.prog askedC2_n true (specOf true askedC2_fs) :=
  spec_ok' TT_ok (show GsOk Try.prog askedC2_g from gsOk_cons Proves_ok (gsOk_nil)) (by kernel_rfl) mixedOrders Try.func56 rfl rfl (by kernel_rfl) (n := 2) (by decide +kernel) (I := askedC2_IA) (fun _ _ => isOk_nil) (A := askedC2_A)
    (fun args h r hr => by
      unfold askedC2_fs at hr
      split at hr
      · rename_i c_k ty0 I_s ty1 I_a ty2 c_f ty3 c_p ty4 c_s ty5 c_y; cases hr; refine ⟨rfl, fun hp => ?_⟩; have hE := askedC2_E ⟨I_s, I_a⟩ ⟨c_k, c_f, c_p, c_s, c_y⟩ ty0 ty1 ty2 ty3 ty4 ty5 hp; exact hE
      · cases hr)
def askedC3_E0 (I : Inst) (c : Cert) (ty0 ty1 ty2 ty3 ty4 ty5 : TypeId) : Prop :=
      (I.sup.length ≤ (10000 : Nat) ∧ I.arcs.length ≤ (10000 : Nat) ∧ A64 c.flow ∧ A64 I.sup) ∧
 ((fitsF I c.flow != (0 : Int)) = true → ((fitsF I c.flow = if fitsF I c.flow ≠ (0 : Int) then fitsF I c.flow else turnsF I c.cycle) ∧ True) ∧ True) ∧
 ((fitsF I c.flow != (0 : Int)) = false →
 (c.cycle.length ≤ (140737488351232 : Nat) ∧ A64c I.arcs) ∧ ((turnsF I c.cycle = if fitsF I c.flow ≠ (0 : Int) then fitsF I c.flow else turnsF I c.cycle) ∧ True) ∧ True)
theorem askedC3_q (I : Inst) (c : Cert) (ty0 ty1 ty2 ty3 ty4 ty5 : TypeId) : askedC3_E0 I c ty0 ty1 ty2 ty3 ty4 ty5 = FVcP TT askedC3_g (askedC3_I I c) (askedC3_an I c) Try.f58 [.agg [.row 0, .row 1], .agg [.int .i64 c.kind, .row 2, .row 3, .row 4, .row 5]] [(0, .row false ty0 (.ints .i64 I.sup)), (1, .row false ty1 (.arcs I.arcs)), (2, .row false ty2 (.ints .i64 c.flow)), (3, .row false ty3 (.ints .i64 c.pot)), (4, .row false ty4 (.bools c.side)), (5, .row false ty5 (.ints .i64 c.cycle))] (askedC3_r I c) := by kernel_rfl
theorem askedC3_E (I : Inst) (c : Cert) (ty0 ty1 ty2 ty3 ty4 ty5 : TypeId) (hp : CertOk c ∧ InstOk I) : FVc TT askedC3_g (askedC3_I I c) (askedC3_an I c) Try.f58 [.agg [.row 0, .row 1], .agg [.int .i64 c.kind, .row 2, .row 3, .row 4, .row 5]] [(0, .row false ty0 (.ints .i64 I.sup)), (1, .row false ty1 (.arcs I.arcs)), (2, .row false ty2 (.ints .i64 c.flow)), (3, .row false ty3 (.ints .i64 c.pot)), (4, .row false ty4 (.bools c.side)), (5, .row false ty5 (.ints .i64 c.cycle))] (askedC3_r I c) := by
  refine FVc.of (askedC3_E0 I c ty0 ty1 ty2 ty3 ty4 ty5) (askedC3_q I c ty0 ty1 ty2 ty3 ty4 ty5) ?_
  unfold askedC3_E0
  obtain ⟨c1, c2, c3, c4, c5, c6⟩ := hp.1
  obtain ⟨i1, i2, i3, i4, i5⟩ := hp.2
  simp only [eq_self, exists_const, forall_const, decide_eq_true_eq, decide_eq_false_iff_not, and_true, true_and, bne_iff_ne, ne_eq, bne_eq_false_iff_eq, Int.toNat_natCast, Bool.not_eq_true', Bool.not_eq_false', beq_iff_eq, beq_eq_false_iff_ne, nilEq_true]
  refine ⟨⟨i1, i2, c1, i3⟩, fun h => by rw [if_pos h], fun h => ⟨⟨c6, i5⟩, by rw [if_neg (fun h2 => h2 h)]⟩⟩
theorem askedC3_ok : SpecOk Try.prog askedC3_n true (specOf true askedC3_fs) :=
  spec_ok' TT_ok (show GsOk Try.prog askedC3_g from gsOk_cons Fits_ok (gsOk_cons Turns_ok (gsOk_nil))) (by kernel_rfl) mixedOrders Try.func58 rfl rfl (by kernel_rfl) (n := 2) (by decide +kernel) (I := askedC3_IA) (fun _ _ => isOk_nil) (A := askedC3_A)
    (fun args h r hr => by
      unfold askedC3_fs at hr
      split at hr
      · rename_i c_k ty0 I_s ty1 I_a ty2 c_f ty3 c_p ty4 c_s ty5 c_y; cases hr; refine ⟨rfl, fun hp => ?_⟩; have hE := askedC3_E ⟨I_s, I_a⟩ ⟨c_k, c_f, c_p, c_s, c_y⟩ ty0 ty1 ty2 ty3 ty4 ty5 hp; exact hE
      · cases hr)
theorem askedC_ok : SpecOk Try.prog askedC_n false askedC_spec :=
  inl_ok TT_ok (show GsOk Try.prog askedC_g from gsOk_nil) (by kernel_rfl) mixedOrders Try.func33 rfl rfl (by kernel_rfl) _
def Check_E0 (I : Inst) (c : Cert) (ty0 ty1 ty2 ty3 ty4 ty5 : TypeId) : Prop :=
      True ∧
 ((rightF I != (0 : Int)) = true → (rightF I = checkF I c ∧ True) ∧ True) ∧
 ((rightF I != (0 : Int)) = false →
 True ∧
 ((!plainF { kind := c.kind, flow := c.flow, pot := c.pot, side := c.side, cycle := c.cycle : Cert }) = true → ((36 : Int) = checkF I c ∧ True) ∧ True) ∧
 ((!plainF { kind := c.kind, flow := c.flow, pot := c.pot, side := c.side, cycle := c.cycle : Cert }) = false →
 ((∀ (p : List Int × Int),
 List.Mem p
 (mput (mput (mput [] [(1 : Int)] ((↑(54 : Nat) : Int) + (1 : Int))) [(2 : Int)] ((↑(56 : Nat) : Int) + (1 : Int))) [(3 : Int)]
 ((↑(58 : Nat) : Int) + (1 : Int))) →
 (0 : Int) < p.snd) ∧
 ([c.kind] = [(1 : Int)] →
 (CertOk { kind := c.kind, flow := c.flow, pot := c.pot, side := c.side, cycle := c.cycle : Cert } ∧ InstOk I) ∧
 (slackF I c.flow c.pot = checkF I c ∧ True) ∧ True) ∧
 ([c.kind] ≠ [(1 : Int)] →
 ([c.kind] = [(2 : Int)] →
 (CertOk { kind := c.kind, flow := c.flow, pot := c.pot, side := c.side, cycle := c.cycle : Cert } ∧ InstOk I) ∧
 (provesF I c.side = checkF I c ∧ True) ∧ True) ∧
 ([c.kind] ≠ [(2 : Int)] →
 ([c.kind] = [(3 : Int)] →
 (CertOk { kind := c.kind, flow := c.flow, pot := c.pot, side := c.side, cycle := c.cycle : Cert } ∧ InstOk I) ∧
 ((if fitsF I c.flow ≠ (0 : Int) then fitsF I c.flow else turnsF I c.cycle) = checkF I c ∧ True) ∧ True) ∧
 ([c.kind] ≠ [(3 : Int)] → ((36 : Int) = checkF I c ∧ True) ∧ True)))) ∧
 (∀ (p : List Int × Int),
 List.Mem p
 (mput (mput (mput [] [(1 : Int)] ((↑(54 : Nat) : Int) + (1 : Int))) [(2 : Int)] ((↑(56 : Nat) : Int) + (1 : Int))) [(3 : Int)]
 ((↑(58 : Nat) : Int) + (1 : Int))) →
 (0 : Int) < p.snd) ∧
 ([c.kind] = [(1 : Int)] →
 (CertOk { kind := c.kind, flow := c.flow, pot := c.pot, side := c.side, cycle := c.cycle : Cert } ∧ InstOk I) ∧
 (slackF I c.flow c.pot = checkF I c ∧ True) ∧ True) ∧
 ([c.kind] ≠ [(1 : Int)] →
 ([c.kind] = [(2 : Int)] →
 (CertOk { kind := c.kind, flow := c.flow, pot := c.pot, side := c.side, cycle := c.cycle : Cert } ∧ InstOk I) ∧
 (provesF I c.side = checkF I c ∧ True) ∧ True) ∧
 ([c.kind] ≠ [(2 : Int)] →
 ([c.kind] = [(3 : Int)] →
 (CertOk { kind := c.kind, flow := c.flow, pot := c.pot, side := c.side, cycle := c.cycle : Cert } ∧ InstOk I) ∧
 ((if fitsF I c.flow ≠ (0 : Int) then fitsF I c.flow else turnsF I c.cycle) = checkF I c ∧ True) ∧ True) ∧
 ([c.kind] ≠ [(3 : Int)] → ((36 : Int) = checkF I c ∧ True) ∧ True)))))
theorem Check_q (I : Inst) (c : Cert) (ty0 ty1 ty2 ty3 ty4 ty5 : TypeId) : Check_E0 I c ty0 ty1 ty2 ty3 ty4 ty5 = FVcP TT Check_g (Check_I I c) (Check_an I c) Try.f14 [.agg [.row 0, .row 1], .agg [.int .i64 c.kind, .row 2, .row 3, .row 4, .row 5]] [(0, .row false ty0 (.ints .i64 I.sup)), (1, .row false ty1 (.arcs I.arcs)), (2, .row false ty2 (.ints .i64 c.flow)), (3, .row false ty3 (.ints .i64 c.pot)), (4, .row false ty4 (.bools c.side)), (5, .row false ty5 (.ints .i64 c.cycle))] (Check_r I c) := by kernel_rfl
theorem Check_E (I : Inst) (c : Cert) (ty0 ty1 ty2 ty3 ty4 ty5 : TypeId) (hp : CertOk c ∧ InstOk I) : FVc TT Check_g (Check_I I c) (Check_an I c) Try.f14 [.agg [.row 0, .row 1], .agg [.int .i64 c.kind, .row 2, .row 3, .row 4, .row 5]] [(0, .row false ty0 (.ints .i64 I.sup)), (1, .row false ty1 (.arcs I.arcs)), (2, .row false ty2 (.ints .i64 c.flow)), (3, .row false ty3 (.ints .i64 c.pot)), (4, .row false ty4 (.bools c.side)), (5, .row false ty5 (.ints .i64 c.cycle))] (Check_r I c) := by
  refine FVc.of (Check_E0 I c ty0 ty1 ty2 ty3 ty4 ty5) (Check_q I c ty0 ty1 ty2 ty3 ty4 ty5) ?_
  unfold Check_E0
  obtain ⟨c1, c2, c3, c4, c5, c6⟩ := hp.1
  have hc : CertOk ⟨c.kind, c.flow, c.pot, c.side, c.cycle⟩ := hp.1
  have mem : ∀ x y z : Nat, ∀ p : List Int × Int, List.Mem p (mput (mput (mput [] [1] ((x : Int) + 1)) [2] ((y : Int) + 1)) [3] ((z : Int) + 1)) → 0 < p.2 := fun x y z p hp => by
    have h : p ∈ [([(1 : Int)], (x : Int) + 1), ([2], (y : Int) + 1), ([3], (z : Int) + 1)] := hp
    simp only [List.mem_cons, List.not_mem_nil, or_false] at h
    rcases h with rfl | rfl | rfl <;> dsimp only <;> omega
  refine ⟨trivial, fun h => ⟨?_, trivial⟩, fun h => ⟨trivial, fun h2 => ⟨?_, trivial⟩, fun h2 => ?_⟩⟩
  · have h3 : ¬ rightF I = 0 := by simpa using h
    unfold checkF; rw [if_pos h3]; exact ⟨rfl, trivial⟩
  · have h3 : rightF I = 0 := by simpa using h
    have h4 : plainF c = false := by simpa using h2
    unfold checkF; rw [if_neg (fun h5 => h5 h3), if_pos h4]; exact ⟨rfl, trivial⟩
  · have h3 : rightF I = 0 := by simpa using h
    have h4 : plainF c = true := by simpa using h2
    have e0 : checkF I c = if c.kind = 1 then slackF I c.flow c.pot else if c.kind = 2 then provesF I c.side else if fitsF I c.flow ≠ 0 then fitsF I c.flow else turnsF I c.cycle := by
      unfold checkF; rw [if_neg (fun h5 => h5 h3), if_neg (by rw [h4]; simp)]
    have hk := plainF_kind h4
    have f1 : ([c.kind] = [(1 : Int)] → (CertOk c ∧ InstOk I) ∧ (slackF I c.flow c.pot = checkF I c ∧ True) ∧ True) := fun h => by
      have h : c.kind = 1 := by simpa using h
      exact ⟨hp, ⟨by rw [e0, if_pos h], trivial⟩, trivial⟩
    have f2 : [c.kind] ≠ [(1 : Int)] → ([c.kind] = [(2 : Int)] → (CertOk c ∧ InstOk I) ∧ (provesF I c.side = checkF I c ∧ True) ∧ True) := fun _ h => by
      have h : c.kind = 2 := by simpa using h
      exact ⟨hp, ⟨by rw [e0, if_neg (by omega), if_pos h], trivial⟩, trivial⟩
    have f3 : [c.kind] ≠ [(2 : Int)] → ([c.kind] = [(3 : Int)] → (CertOk c ∧ InstOk I) ∧ ((if fitsF I c.flow ≠ (0 : Int) then fitsF I c.flow else turnsF I c.cycle) = checkF I c ∧ True) ∧ True) := fun _ h => by
      have h : c.kind = 3 := by simpa using h
      exact ⟨hp, ⟨by rw [e0, if_neg (show ¬ c.kind = 1 by omega), if_neg (show ¬ c.kind = 2 by omega)], trivial⟩, trivial⟩
    have f4 : [c.kind] ≠ [(1 : Int)] → [c.kind] ≠ [(2 : Int)] → [c.kind] ≠ [(3 : Int)] → ((36 : Int) = checkF I c ∧ True) ∧ True := fun g1 g2 g3 => by
      rcases hk with h | h | h
      · exact absurd (by rw [h]) g1
      · exact absurd (by rw [h]) g2
      · exact absurd (by rw [h]) g3
    exact ⟨⟨mem _ _ _, f1, fun g1 => ⟨f2 g1, fun g2 => ⟨f3 g2, fun g3 => f4 g1 g2 g3⟩⟩⟩, mem _ _ _, f1, fun g1 => ⟨f2 g1, fun g2 => ⟨f3 g2, fun g3 => f4 g1 g2 g3⟩⟩⟩
theorem Check_ok : SpecOk Try.prog Check_n true (specOf true Check_fs) :=
  spec_ok' TT_ok (show GsOk Try.prog Check_g from gsOk_cons Right_ok (gsOk_cons Plain13_ok (gsOk_cons askedC_ok (gsOk_cons askedC1_ok (gsOk_cons askedC2_ok (gsOk_cons askedC3_ok (gsOk_nil))))))) (by kernel_rfl) mixedOrders Try.func14 rfl rfl (by kernel_rfl) (n := 2) (by decide +kernel) (I := Check_IA) (fun _ _ => isOk_nil) (A := Check_A)
    (fun args h r hr => by
      unfold Check_fs at hr
      split at hr
      · rename_i c_k ty0 I_s ty1 I_a ty2 c_f ty3 c_p ty4 c_s ty5 c_y; cases hr; refine ⟨rfl, fun hp => ?_⟩; have hE := Check_E ⟨I_s, I_a⟩ ⟨c_k, c_f, c_p, c_s, c_y⟩ ty0 ty1 ty2 ty3 ty4 ty5 hp; exact hE
      · cases hr)
end Go.Proofs.Ytggblkbecekbdaa
