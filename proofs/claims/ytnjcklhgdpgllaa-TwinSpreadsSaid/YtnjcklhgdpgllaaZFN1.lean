/- Part of the proof, FN1. -/
import Derived.Test.YtnjcklhgdpgllaaZDN1
import Derived.Test.YtnjcklhgdpgllaaZVc11
import Derived.Laws.Externs
set_option linter.unusedVariables false
set_option linter.all false
set_option linter.unusedSimpArgs false
set_option maxRecDepth 100000
namespace Go.Proofs.Ytnjcklhgdpgllaa
open Go Go.RowKit Go.Ql Go.Vc
def Add_E0 (a : Int) (b : Int) : Prop :=
      ((!decide (b ≥ (0 : Int)) == decide (IntKind.i64.wrap (a + b) ≥ a)) = true →
 ((((0 : Int) = if I64 (a + b) then a + b else (0 : Int)) ∧ false = decide (I64 (a + b)) ∧ True) ∧ True) ∧ True) ∧
 ((!decide (b ≥ (0 : Int)) == decide (IntKind.i64.wrap (a + b) ≥ a)) = false →
 (((IntKind.i64.wrap (a + b) = if I64 (a + b) then a + b else (0 : Int)) ∧ true = decide (I64 (a + b)) ∧ True) ∧ True) ∧ True)
theorem Add_q (a : Int) (b : Int) : Add_E0 a b = FVcP TT Add_g (Add_I a b) (Add_an a b) Try.f65 [.int .i64 a, .int .i64 b] [] (Add_r a b) := by kernel_rfl
theorem Add_E (a : Int) (b : Int) (hp : I64 a ∧ I64 b) : FVc TT Add_g (Add_I a b) (Add_an a b) Try.f65 [.int .i64 a, .int .i64 b] [] (Add_r a b) := by
  refine FVc.of (Add_E0 a b) (Add_q a b) ?_
  unfold Add_E0
  simp only [eq_self, exists_const, forall_const, decide_eq_true_eq, decide_eq_false_iff_not, and_true, true_and, bne_iff_ne, ne_eq, bne_eq_false_iff_eq, Int.toNat_natCast, Bool.not_eq_true', Bool.not_eq_false', beq_iff_eq, beq_eq_false_iff_ne]
  obtain ⟨⟨a1, a2⟩, b1, b2⟩ := hp
  have hd : I64 (a + b) ↔ (decide (b ≥ 0) = decide (IntKind.i64.wrap (a + b) ≥ a)) := by
    rw [wrapI64]
    by_cases h1 : b ≥ 0 <;> by_cases h2 : (a + b + 9223372036854775808) % 18446744073709551616 - 9223372036854775808 ≥ a <;> simp only [h1, h2, decide_true, decide_false, I64] <;> first | (simp; omega) | omega
  refine ⟨fun h => ?_, fun h => ?_⟩
  · have := mt hd.1 h
    simp [this]
  · have h2 := hd.2 h
    simp only [h2, decide_true, and_true, if_true]
    exact w64 h2.1 h2.2
theorem Add_ok : SpecOk Try.prog Add_n true (specOf true Add_fs) :=
  spec_ok' TT_ok (show GsOk Try.prog Add_g from gsOk_nil) (by kernel_rfl) mixedOrders Try.func65 rfl rfl (by kernel_rfl) (n := 2) (by decide +kernel) (I := Add_IA) (fun _ _ => isOk_nil) (A := Add_A)
    (fun args h r hr => by
      unfold Add_fs at hr
      split at hr
      · rename_i a b; cases hr; refine ⟨rfl, fun hp => ?_⟩; have hE := Add_E a b hp; exact hE
      · cases hr)
def rOf_E0 (n : Int) : Prop :=
      (decide (n < (0 : Int)) = true → (((-1 : Int) = (W n).hi ∧ IntKind.u64.wrap n = (W n).lo ∧ True) ∧ True) ∧ True) ∧
 (decide (n < (0 : Int)) = false → (((0 : Int) = (W n).hi ∧ IntKind.u64.wrap n = (W n).lo ∧ True) ∧ True) ∧ True)
theorem rOf_q (n : Int) : rOf_E0 n = FVcP TT rOf_g (rOf_I n) (rOf_an n) Try.f104 [.int .i64 n] [] (rOf_r n) := by kernel_rfl
theorem rOf_E (n : Int) (hp : I64 n) : FVc TT rOf_g (rOf_I n) (rOf_an n) Try.f104 [.int .i64 n] [] (rOf_r n) := by
  refine FVc.of (rOf_E0 n) (rOf_q n) ?_
  unfold rOf_E0
  simp only [eq_self, exists_const, forall_const, decide_eq_true_eq, decide_eq_false_iff_not, and_true, true_and, bne_iff_ne, ne_eq, bne_eq_false_iff_eq, Int.toNat_natCast, Bool.not_eq_true', Bool.not_eq_false', beq_iff_eq, beq_eq_false_iff_ne]
  unfold I64 at hp
  simp only [wrapU64, W, and_true]
  omega
theorem rOf_ok : SpecOk Try.prog rOf_n true (specOf true rOf_fs) :=
  spec_ok' TT_ok (show GsOk Try.prog rOf_g from gsOk_nil) (by kernel_rfl) mixedOrders Try.func104 rfl rfl (by kernel_rfl) (n := 1) (by decide +kernel) (I := rOf_IA) (fun _ _ => isOk_nil) (A := rOf_A)
    (fun args h r hr => by
      unfold rOf_fs at hr
      split at hr
      · rename_i n; cases hr; refine ⟨rfl, fun hp => ?_⟩; have hE := rOf_E n hp; exact hE
      · cases hr)
def rPlus_E0 (a : Wide) (b : Wide) : Prop :=
      (decide (IntKind.u64.wrap (a.lo + b.lo) < a.lo) = true →
 ((IntKind.i64.wrap (IntKind.i64.wrap (a.hi + b.hi) + (1 : Int)) = (wplus a b).hi ∧ IntKind.u64.wrap (a.lo + b.lo) = (wplus a b).lo ∧ True) ∧ True) ∧ True) ∧
 (decide (IntKind.u64.wrap (a.lo + b.lo) < a.lo) = false →
 ((IntKind.i64.wrap (a.hi + b.hi) = (wplus a b).hi ∧ IntKind.u64.wrap (a.lo + b.lo) = (wplus a b).lo ∧ True) ∧ True) ∧ True)
theorem rPlus_q (a : Wide) (b : Wide) : rPlus_E0 a b = FVcP TT rPlus_g (rPlus_I a b) (rPlus_an a b) Try.f103 [.agg (encWide a), .agg (encWide b)] [] (rPlus_r a b) := by kernel_rfl
theorem rPlus_E (a : Wide) (b : Wide) (hp : a.ok ∧ b.ok) : FVc TT rPlus_g (rPlus_I a b) (rPlus_an a b) Try.f103 [.agg (encWide a), .agg (encWide b)] [] (rPlus_r a b) := by
  refine FVc.of (rPlus_E0 a b) (rPlus_q a b) ?_
  unfold rPlus_E0
  simp only [eq_self, exists_const, forall_const, decide_eq_true_eq, decide_eq_false_iff_not, and_true, true_and, bne_iff_ne, ne_eq, bne_eq_false_iff_eq, Int.toNat_natCast, Bool.not_eq_true', Bool.not_eq_false', beq_iff_eq, beq_eq_false_iff_ne]
  obtain ⟨⟨⟨a1, a2⟩, a3, a4⟩, ⟨b1, b2⟩, b3, b4⟩ := hp
  simp only [wrapU64, wrapI64, wplus, W, Wide.v]
  omega
theorem rPlus_ok : SpecOk Try.prog rPlus_n true (specOf true rPlus_fs) :=
  spec_ok' TT_ok (show GsOk Try.prog rPlus_g from gsOk_nil) (by kernel_rfl) mixedOrders Try.func103 rfl rfl (by kernel_rfl) (n := 2) (by decide +kernel) (I := rPlus_IA) (fun _ _ => isOk_nil) (A := rPlus_A)
    (fun args h r hr => by
      unfold rPlus_fs at hr
      split at hr
      · rename_i a_0 a_1 b_0 b_1; cases hr; refine ⟨rfl, fun hp => ?_⟩; have hE := rPlus_E ⟨a_0, a_1⟩ ⟨b_0, b_1⟩ hp; exact hE
      · cases hr)
def rLess_E0 (a : Wide) : Prop :=
      ({ hi := notS IntKind.i64 a.hi, lo := notS IntKind.u64 a.lo : Wide }.ok ∧ { hi := (0 : Int), lo := (1 : Int) : Wide }.ok) ∧
 (((wplus { hi := notS IntKind.i64 a.hi, lo := notS IntKind.u64 a.lo : Wide } { hi := (0 : Int), lo := (1 : Int) : Wide }).hi = (W (-a.v)).hi ∧
 (wplus { hi := notS IntKind.i64 a.hi, lo := notS IntKind.u64 a.lo : Wide } { hi := (0 : Int), lo := (1 : Int) : Wide }).lo = (W (-a.v)).lo ∧ True) ∧
 True) ∧
 True
theorem rLess_q (a : Wide) : rLess_E0 a = FVcP TT rLess_g (rLess_I a) (rLess_an a) Try.f137 [.agg (encWide a)] [] (rLess_r a) := by kernel_rfl
theorem rLess_E (a : Wide) (hp : a.ok) : FVc TT rLess_g (rLess_I a) (rLess_an a) Try.f137 [.agg (encWide a)] [] (rLess_r a) := by
  refine FVc.of (rLess_E0 a) (rLess_q a) ?_
  unfold rLess_E0
  simp only [eq_self, exists_const, forall_const, decide_eq_true_eq, decide_eq_false_iff_not, and_true, true_and, bne_iff_ne, ne_eq, bne_eq_false_iff_eq, Int.toNat_natCast, Bool.not_eq_true', Bool.not_eq_false', beq_iff_eq, beq_eq_false_iff_ne]
  have h1 := not_i64 hp.1
  have h2 := not_u64 hp.2
  obtain ⟨⟨a1, a2⟩, a3, a4⟩ := hp
  simp only [h1, h2]
  simp only [wplus, W, Wide.v, Wide.ok, I64, U64]
  omega
theorem rLess_ok : SpecOk Try.prog rLess_n true (specOf true rLess_fs) :=
  spec_ok' TT_ok (show GsOk Try.prog rLess_g from gsOk_cons rPlus_ok (gsOk_nil)) (by kernel_rfl) mixedOrders Try.func137 rfl rfl (by kernel_rfl) (n := 1) (by decide +kernel) (I := rLess_IA) (fun _ _ => isOk_nil) (A := rLess_A)
    (fun args h r hr => by
      unfold rLess_fs at hr
      split at hr
      · rename_i a_0 a_1; cases hr; refine ⟨rfl, fun hp => ?_⟩; have hE := rLess_E ⟨a_0, a_1⟩ hp; exact hE
      · cases hr)
def rMinus_E0 (a : Wide) (b : Wide) : Prop :=
      b.ok ∧ (a.ok ∧ (W (-b.v)).ok) ∧ (((wplus a (W (-b.v))).hi = (wminus a b).hi ∧ (wplus a (W (-b.v))).lo = (wminus a b).lo ∧ True) ∧ True) ∧ True
theorem rMinus_q (a : Wide) (b : Wide) : rMinus_E0 a b = FVcP TT rMinus_g (rMinus_I a b) (rMinus_an a b) Try.f108 [.agg (encWide a), .agg (encWide b)] [] (rMinus_r a b) := by kernel_rfl
theorem rMinus_E (a : Wide) (b : Wide) (hp : a.ok ∧ b.ok) : FVc TT rMinus_g (rMinus_I a b) (rMinus_an a b) Try.f108 [.agg (encWide a), .agg (encWide b)] [] (rMinus_r a b) := by
  refine FVc.of (rMinus_E0 a b) (rMinus_q a b) ?_
  unfold rMinus_E0
  simp only [eq_self, exists_const, forall_const, decide_eq_true_eq, decide_eq_false_iff_not, and_true, true_and, bne_iff_ne, ne_eq, bne_eq_false_iff_eq, Int.toNat_natCast, Bool.not_eq_true', Bool.not_eq_false', beq_iff_eq, beq_eq_false_iff_ne]
  have e : wplus a (W (-b.v)) = wminus a b := by
    conv => lhs; rw [← W_v hp.1]
    rw [wplus_W]
    unfold wminus
    congr 1
  rw [e]
  exact ⟨hp.2, ⟨hp.1, W_ok _⟩, rfl, rfl⟩
theorem rMinus_ok : SpecOk Try.prog rMinus_n true (specOf true rMinus_fs) :=
  spec_ok' TT_ok (show GsOk Try.prog rMinus_g from gsOk_cons rPlus_ok (gsOk_cons rLess_ok (gsOk_nil))) (by kernel_rfl) mixedOrders Try.func108 rfl rfl (by kernel_rfl) (n := 2) (by decide +kernel) (I := rMinus_IA) (fun _ _ => isOk_nil) (A := rMinus_A)
    (fun args h r hr => by
      unfold rMinus_fs at hr
      split at hr
      · rename_i a_0 a_1 b_0 b_1; cases hr; refine ⟨rfl, fun hp => ?_⟩; have hE := rMinus_E ⟨a_0, a_1⟩ ⟨b_0, b_1⟩ hp; exact hE
      · cases hr)
def rCompare_E0 (a : Wide) (b : Wide) : Prop :=
      ((a.hi != b.hi) = true → (decide (a.hi < b.hi) = true → ((-1 : Int) = wcmp a b ∧ True) ∧ True) ∧ (decide (a.hi < b.hi) = false → ((1 : Int) = wcmp a b ∧ True) ∧ True)) ∧
 ((a.hi != b.hi) = false →
 ((a.lo != b.lo) = true → (decide (a.lo < b.lo) = true → ((-1 : Int) = wcmp a b ∧ True) ∧ True) ∧ (decide (a.lo < b.lo) = false → ((1 : Int) = wcmp a b ∧ True) ∧ True)) ∧
 ((a.lo != b.lo) = false → ((0 : Int) = wcmp a b ∧ True) ∧ True))
theorem rCompare_q (a : Wide) (b : Wide) : rCompare_E0 a b = FVcP TT rCompare_g (rCompare_I a b) (rCompare_an a b) Try.f107 [.agg (encWide a), .agg (encWide b)] [] (rCompare_r a b) := by kernel_rfl
theorem rCompare_E (a : Wide) (b : Wide) (hp : a.ok ∧ b.ok) : FVc TT rCompare_g (rCompare_I a b) (rCompare_an a b) Try.f107 [.agg (encWide a), .agg (encWide b)] [] (rCompare_r a b) := by
  refine FVc.of (rCompare_E0 a b) (rCompare_q a b) ?_
  unfold rCompare_E0
  simp only [eq_self, exists_const, forall_const, decide_eq_true_eq, decide_eq_false_iff_not, and_true, true_and, bne_iff_ne, ne_eq, bne_eq_false_iff_eq, Int.toNat_natCast, Bool.not_eq_true', Bool.not_eq_false', beq_iff_eq, beq_eq_false_iff_ne]
  obtain ⟨⟨⟨a1, a2⟩, a3, a4⟩, ⟨b1, b2⟩, b3, b4⟩ := hp
  unfold wcmp Wide.v
  refine ⟨fun h => ⟨fun h2 => ?_, fun h2 => ?_⟩, fun h => ⟨fun h2 => ⟨fun h3 => ?_, fun h3 => ?_⟩, fun h2 => ?_⟩⟩ <;> (repeat' split) <;> omega
theorem rCompare_ok : SpecOk Try.prog rCompare_n true (specOf true rCompare_fs) :=
  spec_ok' TT_ok (show GsOk Try.prog rCompare_g from gsOk_nil) (by kernel_rfl) mixedOrders Try.func107 rfl rfl (by kernel_rfl) (n := 2) (by decide +kernel) (I := rCompare_IA) (fun _ _ => isOk_nil) (A := rCompare_A)
    (fun args h r hr => by
      unfold rCompare_fs at hr
      split at hr
      · rename_i a_0 a_1 b_0 b_1; cases hr; refine ⟨rfl, fun hp => ?_⟩; have hE := rCompare_E ⟨a_0, a_1⟩ ⟨b_0, b_1⟩ hp; exact hE
      · cases hr)
def rBack_E0 (a : Wide) : Prop :=
      I64 (9223372036854775807 : Int) ∧
 (a.ok ∧ (W (9223372036854775807 : Int)).ok) ∧
 (decide (wcmp a (W (9223372036854775807 : Int)) > (0 : Int)) = true → ((((0 : Int) = if I64 a.v then a.v else (0 : Int)) ∧ false = decide (I64 a.v) ∧ True) ∧ True) ∧ True) ∧
 (decide (wcmp a (W (9223372036854775807 : Int)) > (0 : Int)) = false →
 I64 (-9223372036854775808 : Int) ∧
 (a.ok ∧ (W (-9223372036854775808 : Int)).ok) ∧
 (decide (wcmp a (W (-9223372036854775808 : Int)) < (0 : Int)) = true →
 ((((0 : Int) = if I64 a.v then a.v else (0 : Int)) ∧ false = decide (I64 a.v) ∧ True) ∧ True) ∧ True) ∧
 (decide (wcmp a (W (-9223372036854775808 : Int)) < (0 : Int)) = false →
 (((IntKind.i64.wrap a.lo = if I64 a.v then a.v else (0 : Int)) ∧ true = decide (I64 a.v) ∧ True) ∧ True) ∧ True))
theorem rBack_q (a : Wide) : rBack_E0 a = FVcP TT rBack_g (rBack_I a) (rBack_an a) Try.f102 [.agg (encWide a)] [] (rBack_r a) := by kernel_rfl
theorem rBack_E (a : Wide) (hp : a.ok) : FVc TT rBack_g (rBack_I a) (rBack_an a) Try.f102 [.agg (encWide a)] [] (rBack_r a) := by
  refine FVc.of (rBack_E0 a) (rBack_q a) ?_
  unfold rBack_E0
  simp only [eq_self, exists_const, forall_const, decide_eq_true_eq, decide_eq_false_iff_not, and_true, true_and, bne_iff_ne, ne_eq, bne_eq_false_iff_eq, Int.toNat_natCast, Bool.not_eq_true', Bool.not_eq_false', beq_iff_eq, beq_eq_false_iff_ne]
  have hi := v_I128 hp
  have e1 : (W 9223372036854775807).v = 9223372036854775807 := v_of (by unfold I128; omega)
  have e2 : (W (-9223372036854775808)).v = -9223372036854775808 := v_of (by unfold I128; omega)
  have c1 : (wcmp a (W 9223372036854775807) > 0) ↔ 9223372036854775807 < a.v := by
    unfold wcmp; rw [e1]; (repeat' split) <;> omega
  have c2 : (wcmp a (W (-9223372036854775808)) < 0) ↔ a.v < -9223372036854775808 := by
    unfold wcmp; rw [e2]; (repeat' split) <;> omega
  simp only [c1, c2]
  refine ⟨by unfold I64; omega, ⟨hp, W_ok _⟩, fun h => ?_, fun h => ⟨by unfold I64; omega, ⟨hp, W_ok _⟩, fun h2 => ?_, fun h2 => ?_⟩⟩
  · have hn : ¬ I64 a.v := by unfold I64; omega
    simp [hn]
  · have hn : ¬ I64 a.v := by unfold I64; omega
    simp [hn]
  · have hn : I64 a.v := by unfold I64; omega
    simp only [hn, decide_true, and_true, if_true]
    obtain ⟨⟨a1, a2⟩, a3, a4⟩ := hp
    unfold I64 Wide.v at hn
    rw [wrapI64]; unfold Wide.v; omega
theorem rBack_ok : SpecOk Try.prog rBack_n true (specOf true rBack_fs) :=
  spec_ok' TT_ok (show GsOk Try.prog rBack_g from gsOk_cons rOf_ok (gsOk_cons rCompare_ok (gsOk_nil))) (by kernel_rfl) mixedOrders Try.func102 rfl rfl (by kernel_rfl) (n := 1) (by decide +kernel) (I := rBack_IA) (fun _ _ => isOk_nil) (A := rBack_A)
    (fun args h r hr => by
      unfold rBack_fs at hr
      split at hr
      · rename_i a_0 a_1; cases hr; refine ⟨rfl, fun hp => ?_⟩; have hE := rBack_E ⟨a_0, a_1⟩ hp; exact hE
      · cases hr)
def rAdd_E0 (a : Int) (b : Int) : Prop :=
      I64 a ∧
 I64 b ∧
 ((W a).ok ∧ (W b).ok) ∧
 (wplus (W a) (W b)).ok ∧
 ((((if I64 (wplus (W a) (W b)).v then (wplus (W a) (W b)).v else (0 : Int)) = if I64 (a + b) then a + b else (0 : Int)) ∧
 decide (I64 (wplus (W a) (W b)).v) = decide (I64 (a + b)) ∧ True) ∧
 True) ∧
 True
theorem rAdd_q (a : Int) (b : Int) : rAdd_E0 a b = FVcP TT rAdd_g (rAdd_I a b) (rAdd_an a b) Try.f66 [.int .i64 a, .int .i64 b] [] (rAdd_r a b) := by kernel_rfl
theorem rAdd_E (a : Int) (b : Int) (hp : I64 a ∧ I64 b) : FVc TT rAdd_g (rAdd_I a b) (rAdd_an a b) Try.f66 [.int .i64 a, .int .i64 b] [] (rAdd_r a b) := by
  refine FVc.of (rAdd_E0 a b) (rAdd_q a b) ?_
  unfold rAdd_E0
  simp only [eq_self, exists_const, forall_const, decide_eq_true_eq, decide_eq_false_iff_not, and_true, true_and, bne_iff_ne, ne_eq, bne_eq_false_iff_eq, Int.toNat_natCast, Bool.not_eq_true', Bool.not_eq_false', beq_iff_eq, beq_eq_false_iff_ne]
  have e : wplus (W a) (W b) = W (a + b) := wplus_W _ _
  have h1 := hp.1
  have h2 := hp.2
  have hv : (W (a + b)).v = a + b := v_of (by unfold I64 at h1 h2; unfold I128; omega)
  rw [e, hv]
  exact ⟨h1, h2, ⟨W_ok _, W_ok _⟩, W_ok _, rfl, rfl⟩
theorem rAdd_ok : SpecOk Try.prog rAdd_n true (specOf true rAdd_fs) :=
  spec_ok' TT_ok (show GsOk Try.prog rAdd_g from gsOk_cons rOf_ok (gsOk_cons rPlus_ok (gsOk_cons rBack_ok (gsOk_nil)))) (by kernel_rfl) mixedOrders Try.func66 rfl rfl (by kernel_rfl) (n := 2) (by decide +kernel) (I := rAdd_IA) (fun _ _ => isOk_nil) (A := rAdd_A)
    (fun args h r hr => by
      unfold rAdd_fs at hr
      split at hr
      · rename_i a b; cases hr; refine ⟨rfl, fun hp => ?_⟩; have hE := rAdd_E a b hp; exact hE
      · cases hr)
def rSub_E0 (a : Int) (b : Int) : Prop :=
      I64 a ∧
 I64 b ∧
 ((W a).ok ∧ (W b).ok) ∧
 (wminus (W a) (W b)).ok ∧
 ((((if I64 (wminus (W a) (W b)).v then (wminus (W a) (W b)).v else (0 : Int)) = if I64 (a - b) then a - b else (0 : Int)) ∧
 decide (I64 (wminus (W a) (W b)).v) = decide (I64 (a - b)) ∧ True) ∧
 True) ∧
 True
theorem rSub_q (a : Int) (b : Int) : rSub_E0 a b = FVcP TT rSub_g (rSub_I a b) (rSub_an a b) Try.f125 [.int .i64 a, .int .i64 b] [] (rSub_r a b) := by kernel_rfl
theorem rSub_E (a : Int) (b : Int) (hp : I64 a ∧ I64 b) : FVc TT rSub_g (rSub_I a b) (rSub_an a b) Try.f125 [.int .i64 a, .int .i64 b] [] (rSub_r a b) := by
  refine FVc.of (rSub_E0 a b) (rSub_q a b) ?_
  unfold rSub_E0
  simp only [eq_self, exists_const, forall_const, decide_eq_true_eq, decide_eq_false_iff_not, and_true, true_and, bne_iff_ne, ne_eq, bne_eq_false_iff_eq, Int.toNat_natCast, Bool.not_eq_true', Bool.not_eq_false', beq_iff_eq, beq_eq_false_iff_ne]
  have e : wminus (W a) (W b) = W (a - b) := wminus_W _ _
  have h1 := hp.1
  have h2 := hp.2
  have hv : (W (a - b)).v = a - b := v_of (by unfold I64 at h1 h2; unfold I128; omega)
  rw [e, hv]
  exact ⟨h1, h2, ⟨W_ok _, W_ok _⟩, W_ok _, rfl, rfl⟩
theorem rSub_ok : SpecOk Try.prog rSub_n true (specOf true rSub_fs) :=
  spec_ok' TT_ok (show GsOk Try.prog rSub_g from gsOk_cons rOf_ok (gsOk_cons rMinus_ok (gsOk_cons rBack_ok (gsOk_nil)))) (by kernel_rfl) mixedOrders Try.func125 rfl rfl (by kernel_rfl) (n := 2) (by decide +kernel) (I := rSub_IA) (fun _ _ => isOk_nil) (A := rSub_A)
    (fun args h r hr => by
      unfold rSub_fs at hr
      split at hr
      · rename_i a b; cases hr; refine ⟨rfl, fun hp => ?_⟩; have hE := rSub_E a b hp; exact hE
      · cases hr)
end Go.Proofs.Ytnjcklhgdpgllaa
