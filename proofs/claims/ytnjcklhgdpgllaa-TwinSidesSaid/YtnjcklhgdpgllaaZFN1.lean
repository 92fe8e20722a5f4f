/- Part of the proof, FN1. -/
import Derived.Test.YtnjcklhgdpgllaaZDN1
import Derived.Test.YtnjcklhgdpgllaaZVc11
import Derived.Laws.Externs
set_option linter.unusedVariables false
set_option linter.all false
set_option linter.unusedSimpArgs false
set_option maxRecDepth 100000
namespace Go.Proofs.Ytnjcklhgdpgllaa
open Go Go.RowKit Go.Ql Go.Vc
theorem Add64_ok : SpecOk Try.prog Add64_n true Add64_spec := by
  refine .ext fun ρ hp nk w args K hh h => ?_
  unfold Add64_spec at h
  split at h
  · obtain ⟨⟨h1, h2, h3, h4⟩, hk⟩ := h
    refine ⟨_, ?_, hk⟩
    simp only [toVs, SV.toV]
    rw [run_callFunc_extern Try.func52 (by kernel_rfl) (by kernel_rfl) (by kernel_rfl) (e := add64Entry) (by kernel_rfl), run_add64 _ _ _ h1 h2 h3 h4]
    simp only [Result.andThen]
  · exact h.elim
theorem run_sub64 {P : Program} (x y b : Nat) (hb : b ≤ 1) (w : World) :
    ((Extern.MathBitsCarry.rows[1]).2 #[.int .u64 x, .int .u64 y, .int .u64 b]).run P w =
      .ok (.tuple #[.int .u64 (((x + 18446744073709551616 - y - b) % 18446744073709551616 : Nat) : Int), .int .u64 ((if x < y + b then 1 else 0 : Nat) : Int)]) w := by
  have : b = 0 ∨ b = 1 := by omega
  rcases this with rfl | rfl <;> rfl
theorem Sub64_ok : SpecOk Try.prog Sub64_n true Sub64_spec := by
  refine .ext fun ρ hp nk w args K hh h => ?_
  unfold Sub64_spec at h
  split at h
  · rename_i x y c
    obtain ⟨⟨h1, h2, h3, h4, h5⟩, hk⟩ := h
    obtain ⟨X, rfl⟩ := Int.eq_ofNat_of_zero_le h1
    obtain ⟨Y, rfl⟩ := Int.eq_ofNat_of_zero_le h2
    obtain ⟨B, rfl⟩ := Int.eq_ofNat_of_zero_le h4
    refine ⟨_, ?_, hk⟩
    simp only [toVs, SV.toV]
    rw [run_callFunc_extern Try.func113 (by kernel_rfl) (by kernel_rfl) (by kernel_rfl) (e := (Extern.MathBitsCarry.rows[1]).2) (by kernel_rfl), run_sub64 X Y B (by omega)]
    simp only [Result.andThen]
    have e1 : (((X + 18446744073709551616 - Y - B) % 18446744073709551616 : Nat) : Int) = ((X : Int) - Y - B) % 18446744073709551616 := by omega
    have e2 : ((if X < Y + B then 1 else 0 : Nat) : Int) = if (X : Int) < Y + B then 1 else 0 := by split <;> split <;> omega
    rw [e1, e2]
  · exact h.elim
def Of_E0 (n : Int) : Prop :=
      (0 : Int) ≤ (63 : Int) ∧ ((n.fdiv ((2 : Int) ^ min (Int.toNat (63 : Int)) IntKind.i64.bits) = (W n).hi ∧ IntKind.u64.wrap n = (W n).lo ∧ True) ∧ True) ∧ True
theorem Of_q (n : Int) : Of_E0 n = FVcP TT Of_g (Of_I n) (Of_an n) Try.f17 [.int .i64 n] [] (Of_r n) := by kernel_rfl
theorem Of_E (n : Int) (hp : I64 n) : FVc TT Of_g (Of_I n) (Of_an n) Try.f17 [.int .i64 n] [] (Of_r n) := by
  refine FVc.of (Of_E0 n) (Of_q n) ?_
  unfold Of_E0
  simp only [eq_self, exists_const, forall_const, decide_eq_true_eq, decide_eq_false_iff_not, and_true, true_and, bne_iff_ne, ne_eq, bne_eq_false_iff_eq, Int.toNat_natCast, Bool.not_eq_true', Bool.not_eq_false', beq_iff_eq, beq_eq_false_iff_ne]
  unfold I64 at hp
  have e : (2 : Int) ^ min (Int.toNat 63) IntKind.i64.bits = 9223372036854775808 := by decide
  rw [e, Int.fdiv_eq_ediv_of_nonneg _ (show (0 : Int) ≤ 9223372036854775808 by decide)]
  simp only [wrapU64, W, and_true]
  omega
theorem Of_ok : SpecOk Try.prog Of_n true (specOf true Of_fs) :=
  spec_ok' TT_ok (show GsOk Try.prog Of_g from gsOk_nil) (by kernel_rfl) mixedOrders Try.func17 rfl rfl (by kernel_rfl) (n := 1) (by decide +kernel) (I := Of_IA) (fun _ _ => isOk_nil) (A := Of_A)
    (fun args h r hr => by
      unfold Of_fs at hr
      split at hr
      · rename_i n; cases hr; refine ⟨rfl, fun hp => ?_⟩; have hE := Of_E n hp; exact hE
      · cases hr)
def Plus_E0 (a : Wide) (b : Wide) : Prop :=
      ((0 : Int) ≤ a.lo ∧ (0 : Int) ≤ b.lo ∧ (0 : Int) ≤ (0 : Int) ∧ (0 : Int) ≤ (1 : Int)) ∧
 ((0 : Int) ≤ IntKind.u64.wrap a.hi ∧
 (0 : Int) ≤ IntKind.u64.wrap b.hi ∧
 (0 : Int) ≤ (a.lo + b.lo + (0 : Int)) / (18446744073709551616 : Int) ∧ (a.lo + b.lo + (0 : Int)) / (18446744073709551616 : Int) ≤ (1 : Int)) ∧
 ((IntKind.i64.wrap ((IntKind.u64.wrap a.hi + IntKind.u64.wrap b.hi + (a.lo + b.lo + (0 : Int)) / (18446744073709551616 : Int)) % (18446744073709551616 : Int)) =
 (wplus a b).hi ∧
 (a.lo + b.lo + (0 : Int)) % (18446744073709551616 : Int) = (wplus a b).lo ∧ True) ∧
 True) ∧
 True
theorem Plus_q (a : Wide) (b : Wide) : Plus_E0 a b = FVcP TT Plus_g (Plus_I a b) (Plus_an a b) Try.f16 [.agg (encWide a), .agg (encWide b)] [] (Plus_r a b) := by kernel_rfl
theorem Plus_E (a : Wide) (b : Wide) (hp : a.ok ∧ b.ok) : FVc TT Plus_g (Plus_I a b) (Plus_an a b) Try.f16 [.agg (encWide a), .agg (encWide b)] [] (Plus_r a b) := by
  refine FVc.of (Plus_E0 a b) (Plus_q a b) ?_
  unfold Plus_E0
  simp only [eq_self, exists_const, forall_const, decide_eq_true_eq, decide_eq_false_iff_not, and_true, true_and, bne_iff_ne, ne_eq, bne_eq_false_iff_eq, Int.toNat_natCast, Bool.not_eq_true', Bool.not_eq_false', beq_iff_eq, beq_eq_false_iff_ne]
  obtain ⟨⟨⟨a1, a2⟩, a3, a4⟩, ⟨b1, b2⟩, b3, b4⟩ := hp
  simp only [wrapU64, wrapI64, wplus, W, Wide.v]
  omega
theorem Plus_ok : SpecOk Try.prog Plus_n true (specOf true Plus_fs) :=
  spec_ok' TT_ok (show GsOk Try.prog Plus_g from gsOk_cons Add64_ok (gsOk_nil)) (by kernel_rfl) mixedOrders Try.func16 rfl rfl (by kernel_rfl) (n := 2) (by decide +kernel) (I := Plus_IA) (fun _ _ => isOk_nil) (A := Plus_A)
    (fun args h r hr => by
      unfold Plus_fs at hr
      split at hr
      · rename_i a_0 a_1 b_0 b_1; cases hr; refine ⟨rfl, fun hp => ?_⟩; have hE := Plus_E ⟨a_0, a_1⟩ ⟨b_0, b_1⟩ hp; exact hE
      · cases hr)
def Minus_E0 (a : Wide) (b : Wide) : Prop :=
      ((0 : Int) ≤ a.lo ∧ (0 : Int) ≤ b.lo ∧ b.lo ≤ (18446744073709551615 : Int) ∧ (0 : Int) ≤ (0 : Int) ∧ (0 : Int) ≤ (1 : Int)) ∧
 ((0 : Int) ≤ IntKind.u64.wrap a.hi ∧
 (0 : Int) ≤ IntKind.u64.wrap b.hi ∧
 IntKind.u64.wrap b.hi ≤ (18446744073709551615 : Int) ∧
 ((0 : Int) ≤ if a.lo < b.lo + (0 : Int) then (1 : Int) else (0 : Int)) ∧ (if a.lo < b.lo + (0 : Int) then (1 : Int) else (0 : Int)) ≤ (1 : Int)) ∧
 ((IntKind.i64.wrap ((IntKind.u64.wrap a.hi - IntKind.u64.wrap b.hi - if a.lo < b.lo + (0 : Int) then (1 : Int) else (0 : Int)) % (18446744073709551616 : Int)) =
 (wminus a b).hi ∧
 (a.lo - b.lo - (0 : Int)) % (18446744073709551616 : Int) = (wminus a b).lo ∧ True) ∧
 True) ∧
 True
theorem Minus_q (a : Wide) (b : Wide) : Minus_E0 a b = FVcP TT Minus_g (Minus_I a b) (Minus_an a b) Try.f72 [.agg (encWide a), .agg (encWide b)] [] (Minus_r a b) := by kernel_rfl
theorem Minus_E (a : Wide) (b : Wide) (hp : a.ok ∧ b.ok) : FVc TT Minus_g (Minus_I a b) (Minus_an a b) Try.f72 [.agg (encWide a), .agg (encWide b)] [] (Minus_r a b) := by
  refine FVc.of (Minus_E0 a b) (Minus_q a b) ?_
  unfold Minus_E0
  simp only [eq_self, exists_const, forall_const, decide_eq_true_eq, decide_eq_false_iff_not, and_true, true_and, bne_iff_ne, ne_eq, bne_eq_false_iff_eq, Int.toNat_natCast, Bool.not_eq_true', Bool.not_eq_false', beq_iff_eq, beq_eq_false_iff_ne]
  obtain ⟨⟨⟨a1, a2⟩, a3, a4⟩, ⟨b1, b2⟩, b3, b4⟩ := hp
  simp only [wrapU64, wrapI64, wminus, W, Wide.v]
  split <;> omega
theorem Minus_ok : SpecOk Try.prog Minus_n true (specOf true Minus_fs) :=
  spec_ok' TT_ok (show GsOk Try.prog Minus_g from gsOk_cons Sub64_ok (gsOk_nil)) (by kernel_rfl) mixedOrders Try.func72 rfl rfl (by kernel_rfl) (n := 2) (by decide +kernel) (I := Minus_IA) (fun _ _ => isOk_nil) (A := Minus_A)
    (fun args h r hr => by
      unfold Minus_fs at hr
      split at hr
      · rename_i a_0 a_1 b_0 b_1; cases hr; refine ⟨rfl, fun hp => ?_⟩; have hE := Minus_E ⟨a_0, a_1⟩ ⟨b_0, b_1⟩ hp; exact hE
      · cases hr)
def Add_E0 (a : Int) (b : Int) : Prop :=
      ((!decide (b ≥ (0 : Int)) == decide (IntKind.i64.wrap (a + b) ≥ a)) = true →
 ((((0 : Int) = if I64 (a + b) then a + b else (0 : Int)) ∧ false = decide (I64 (a + b)) ∧ True) ∧ True) ∧ True) ∧
 ((!decide (b ≥ (0 : Int)) == decide (IntKind.i64.wrap (a + b) ≥ a)) = false →
 (((IntKind.i64.wrap (a + b) = if I64 (a + b) then a + b else (0 : Int)) ∧ true = decide (I64 (a + b)) ∧ True) ∧ True) ∧ True)
theorem Add_q (a : Int) (b : Int) : Add_E0 a b = FVcP TT Add_g (Add_I a b) (Add_an a b) Try.f65 [.int .i64 a, .int .i64 b] [] (Add_r a b) := by kernel_rfl
theorem Add_E (a : Int) (b : Int) (hp : I64 a ∧ I64 b) : FVc TT Add_g (Add_I a b) (Add_an a b) Try.f65 [.int .i64 a, .int .i64 b] [] (Add_r a b) := by
  refine FVc.of (Add_E0 a b) (Add_q a b) ?_
  unfold Add_E0
  simp only [eq_self, exists_const, forall_const, decide_eq_true_eq, decide_eq_false_iff_not, and_true, true_and, bne_iff_ne, ne_eq, bne_eq_false_iff_eq, Int.toNat_natCast, Bool.not_eq_true', Bool.not_eq_false', beq_iff_eq, beq_eq_false_iff_ne]
  obtain ⟨⟨a1, a2⟩, b1, b2⟩ := hp
  have hd : I64 (a + b) ↔ (decide (b ≥ 0) = decide (IntKind.i64.wrap (a + b) ≥ a)) := by
    rw [wrapI64]
    by_cases h1 : b ≥ 0 <;> by_cases h2 : (a + b + 9223372036854775808) % 18446744073709551616 - 9223372036854775808 ≥ a <;> simp only [h1, h2, decide_true, decide_false, I64] <;> first | (simp; omega) | omega
  refine ⟨fun h => ?_, fun h => ?_⟩
  · have := mt hd.1 h
    simp [this]
  · have h2 := hd.2 h
    simp only [h2, decide_true, and_true, if_true]
    exact w64 h2.1 h2.2
theorem Add_ok : SpecOk Try.prog Add_n true (specOf true Add_fs) :=
  spec_ok' TT_ok (show GsOk Try.prog Add_g from gsOk_nil) (by kernel_rfl) mixedOrders Try.func65 rfl rfl (by kernel_rfl) (n := 2) (by decide +kernel) (I := Add_IA) (fun _ _ => isOk_nil) (A := Add_A)
    (fun args h r hr => by
      unfold Add_fs at hr
      split at hr
      · rename_i a b; cases hr; refine ⟨rfl, fun hp => ?_⟩; have hE := Add_E a b hp; exact hE
      · cases hr)
end Go.Proofs.Ytnjcklhgdpgllaa
