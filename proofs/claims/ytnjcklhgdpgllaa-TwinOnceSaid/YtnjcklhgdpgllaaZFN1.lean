/- Part of the proof, FN1. -/
import Derived.Test.YtnjcklhgdpgllaaZDN1
import Derived.Test.YtnjcklhgdpgllaaZVc11
import Derived.Laws.Externs
set_option linter.unusedVariables false
set_option linter.all false
set_option linter.unusedSimpArgs false
set_option maxRecDepth 100000
namespace Go.Proofs.Ytnjcklhgdpgllaa
open Go Go.RowKit Go.Ql Go.Vc
def Of_E0 (n : Int) : Prop :=
      (0 : Int) ≤ (63 : Int) ∧ ((n.fdiv ((2 : Int) ^ min (Int.toNat (63 : Int)) IntKind.i64.bits) = (W n).hi ∧ IntKind.u64.wrap n = (W n).lo ∧ True) ∧ True) ∧ True
theorem Of_q (n : Int) : Of_E0 n = FVcP TT Of_g (Of_I n) (Of_an n) Try.f17 [.int .i64 n] [] (Of_r n) := by kernel_rfl
theorem Of_E (n : Int) (hp : I64 n) : FVc TT Of_g (Of_I n) (Of_an n) Try.f17 [.int .i64 n] [] (Of_r n) := by
  refine FVc.of (Of_E0 n) (Of_q n) ?_
  unfold Of_E0
  simp only [eq_self, exists_const, forall_const, decide_eq_true_eq, decide_eq_false_iff_not, and_true, true_and, bne_iff_ne, ne_eq, bne_eq_false_iff_eq, Int.toNat_natCast, Bool.not_eq_true', Bool.not_eq_false', beq_iff_eq, beq_eq_false_iff_ne]
  unfold I64 at hp
  have e : (2 : Int) ^ min (Int.toNat 63) IntKind.i64.bits = 9223372036854775808 := by decide
  rw [e, Int.fdiv_eq_ediv_of_nonneg _ (show (0 : Int) ≤ 9223372036854775808 by decide)]
  simp only [wrapU64, W, and_true]
  omega
theorem Of_ok : SpecOk Try.prog Of_n true (specOf true Of_fs) :=
  spec_ok' TT_ok (show GsOk Try.prog Of_g from gsOk_nil) (by kernel_rfl) mixedOrders Try.func17 rfl rfl (by kernel_rfl) (n := 1) (by decide +kernel) (I := Of_IA) (fun _ _ => isOk_nil) (A := Of_A)
    (fun args h r hr => by
      unfold Of_fs at hr
      split at hr
      · rename_i n; cases hr; refine ⟨rfl, fun hp => ?_⟩; have hE := Of_E n hp; exact hE
      · cases hr)
def Add_E0 (a : Int) (b : Int) : Prop :=
      ((!decide (b ≥ (0 : Int)) == decide (IntKind.i64.wrap (a + b) ≥ a)) = true →
 ((((0 : Int) = if I64 (a + b) then a + b else (0 : Int)) ∧ false = decide (I64 (a + b)) ∧ True) ∧ True) ∧ True) ∧
 ((!decide (b ≥ (0 : Int)) == decide (IntKind.i64.wrap (a + b) ≥ a)) = false →
 (((IntKind.i64.wrap (a + b) = if I64 (a + b) then a + b else (0 : Int)) ∧ true = decide (I64 (a + b)) ∧ True) ∧ True) ∧ True)
theorem Add_q (a : Int) (b : Int) : Add_E0 a b = FVcP TT Add_g (Add_I a b) (Add_an a b) Try.f65 [.int .i64 a, .int .i64 b] [] (Add_r a b) := by kernel_rfl
theorem Add_E (a : Int) (b : Int) (hp : I64 a ∧ I64 b) : FVc TT Add_g (Add_I a b) (Add_an a b) Try.f65 [.int .i64 a, .int .i64 b] [] (Add_r a b) := by
  refine FVc.of (Add_E0 a b) (Add_q a b) ?_
  unfold Add_E0
  simp only [eq_self, exists_const, forall_const, decide_eq_true_eq, decide_eq_false_iff_not, and_true, true_and, bne_iff_ne, ne_eq, bne_eq_false_iff_eq, Int.toNat_natCast, Bool.not_eq_true', Bool.not_eq_false', beq_iff_eq, beq_eq_false_iff_ne]
  obtain ⟨⟨a1, a2⟩, b1, b2⟩ := hp
  have hd : I64 (a + b) ↔ (decide (b ≥ 0) = decide (IntKind.i64.wrap (a + b) ≥ a)) := by
    rw [wrapI64]
    by_cases h1 : b ≥ 0 <;> by_cases h2 : (a + b + 9223372036854775808) % 18446744073709551616 - 9223372036854775808 ≥ a <;> simp only [h1, h2, decide_true, decide_false, I64] <;> first | (simp; omega) | omega
  refine ⟨fun h => ?_, fun h => ?_⟩
  · have := mt hd.1 h
    simp [this]
  · have h2 := hd.2 h
    simp only [h2, decide_true, and_true, if_true]
    exact w64 h2.1 h2.2
theorem Add_ok : SpecOk Try.prog Add_n true (specOf true Add_fs) :=
  spec_ok' TT_ok (show GsOk Try.prog Add_g from gsOk_nil) (by kernel_rfl) mixedOrders Try.func65 rfl rfl (by kernel_rfl) (n := 2) (by decide +kernel) (I := Add_IA) (fun _ _ => isOk_nil) (A := Add_A)
    (fun args h r hr => by
      unfold Add_fs at hr
      split at hr
      · rename_i a b; cases hr; refine ⟨rfl, fun hp => ?_⟩; have hE := Add_E a b hp; exact hE
      · cases hr)
end Go.Proofs.Ytnjcklhgdpgllaa
