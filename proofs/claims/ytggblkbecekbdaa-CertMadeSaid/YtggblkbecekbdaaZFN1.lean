/- Part of the proof, FN1. -/
import Derived.Test.YtggblkbecekbdaaZDN1
import Derived.Test.YtggblkbecekbdaaZVc11
import Derived.Laws.Externs
set_option linter.unusedVariables false
set_option linter.all false
set_option linter.unusedSimpArgs false
set_option maxRecDepth 100000
namespace Go.Proofs.Ytggblkbecekbdaa
open Go Go.RowKit Go.Ql Go.Vc
theorem Add64_ok : SpecOk Try.prog Add64_n true Add64_spec := by
  refine .ext fun ρ hp nk w args K hh h => ?_
  unfold Add64_spec at h
  split at h
  · obtain ⟨⟨h1, h2, h3, h4⟩, hk⟩ := h
    refine ⟨_, ?_, hk⟩
    simp only [toVs, SV.toV]
    rw [run_callFunc_extern Try.func43 (by kernel_rfl) (by kernel_rfl) (by kernel_rfl) (e := add64Entry) (by kernel_rfl), run_add64 _ _ _ h1 h2 h3 h4]
    simp only [Result.andThen]
  · exact h.elim
theorem run_sub64 {P : Program} (x y b : Nat) (hb : b ≤ 1) (w : World) :
    ((Extern.MathBitsCarry.rows[1]).2 #[.int .u64 x, .int .u64 y, .int .u64 b]).run P w =
      .ok (.tuple #[.int .u64 (((x + 18446744073709551616 - y - b) % 18446744073709551616 : Nat) : Int), .int .u64 ((if x < y + b then 1 else 0 : Nat) : Int)]) w := by
  have : b = 0 ∨ b = 1 := by omega
  rcases this with rfl | rfl <;> rfl
theorem Sub64_ok : SpecOk Try.prog Sub64_n true Sub64_spec := by
  refine .ext fun ρ hp nk w args K hh h => ?_
  unfold Sub64_spec at h
  split at h
  · rename_i x y c
    obtain ⟨⟨h1, h2, h3, h4, h5⟩, hk⟩ := h
    obtain ⟨X, rfl⟩ := Int.eq_ofNat_of_zero_le h1
    obtain ⟨Y, rfl⟩ := Int.eq_ofNat_of_zero_le h2
    obtain ⟨B, rfl⟩ := Int.eq_ofNat_of_zero_le h4
    refine ⟨_, ?_, hk⟩
    simp only [toVs, SV.toV]
    rw [run_callFunc_extern Try.func76 (by kernel_rfl) (by kernel_rfl) (by kernel_rfl) (e := (Extern.MathBitsCarry.rows[1]).2) (by kernel_rfl), run_sub64 X Y B (by omega)]
    simp only [Result.andThen]
    have e1 : (((X + 18446744073709551616 - Y - B) % 18446744073709551616 : Nat) : Int) = ((X : Int) - Y - B) % 18446744073709551616 := by omega
    have e2 : ((if X < Y + B then 1 else 0 : Nat) : Int) = if (X : Int) < Y + B then 1 else 0 := by split <;> split <;> omega
    rw [e1, e2]
  · exact h.elim
def Mul64_E0 (x : Int) (y : Int) : Prop :=
      (0 : Int) ≤ (32 : Int) ∧
 (0 : Int) ≤ (32 : Int) ∧
 (0 : Int) ≤ (32 : Int) ∧
 (0 : Int) ≤ (32 : Int) ∧
 (0 : Int) ≤ (32 : Int) ∧
 ((IntKind.u64.wrap
 (IntKind.u64.wrap
 (IntKind.u64.wrap (x.fdiv ((2 : Int) ^ min (Int.toNat (32 : Int)) IntKind.u64.bits) * y.fdiv ((2 : Int) ^ min (Int.toNat (32 : Int)) IntKind.u64.bits)) +
 (IntKind.u64.wrap
 (IntKind.u64.wrap (x.fdiv ((2 : Int) ^ min (Int.toNat (32 : Int)) IntKind.u64.bits) * andS IntKind.u64 y (4294967295 : Int)) +
 (IntKind.u64.wrap (andS IntKind.u64 x (4294967295 : Int) * andS IntKind.u64 y (4294967295 : Int))).fdiv
 ((2 : Int) ^ min (Int.toNat (32 : Int)) IntKind.u64.bits))).fdiv
 ((2 : Int) ^ min (Int.toNat (32 : Int)) IntKind.u64.bits)) +
 (IntKind.u64.wrap
 (andS IntKind.u64
 (IntKind.u64.wrap
 (IntKind.u64.wrap (x.fdiv ((2 : Int) ^ min (Int.toNat (32 : Int)) IntKind.u64.bits) * andS IntKind.u64 y (4294967295 : Int)) +
 (IntKind.u64.wrap (andS IntKind.u64 x (4294967295 : Int) * andS IntKind.u64 y (4294967295 : Int))).fdiv
 ((2 : Int) ^ min (Int.toNat (32 : Int)) IntKind.u64.bits)))
 (4294967295 : Int) +
 IntKind.u64.wrap (andS IntKind.u64 x (4294967295 : Int) * y.fdiv ((2 : Int) ^ min (Int.toNat (32 : Int)) IntKind.u64.bits)))).fdiv
 ((2 : Int) ^ min (Int.toNat (32 : Int)) IntKind.u64.bits)) =
 x * y / (18446744073709551616 : Int) ∧
 IntKind.u64.wrap (x * y) = x * y % (18446744073709551616 : Int) ∧ True) ∧
 True) ∧
 True
theorem Mul64_q (x : Int) (y : Int) : Mul64_E0 x y = FVcP TT Mul64_g (Mul64_I x y) (Mul64_an x y) Try.f44 [.int .u64 x, .int .u64 y] [] (Mul64_r x y) := by kernel_rfl
theorem Mul64_E (x : Int) (y : Int) (hp : U64 x ∧ U64 y) : FVc TT Mul64_g (Mul64_I x y) (Mul64_an x y) Try.f44 [.int .u64 x, .int .u64 y] [] (Mul64_r x y) := by
  refine FVc.of (Mul64_E0 x y) (Mul64_q x y) ?_
  unfold Mul64_E0
  simp only [eq_self, exists_const, forall_const, decide_eq_true_eq, decide_eq_false_iff_not, and_true, true_and, bne_iff_ne, ne_eq, bne_eq_false_iff_eq, Int.toNat_natCast, Bool.not_eq_true', Bool.not_eq_false', beq_iff_eq, beq_eq_false_iff_ne]
  obtain ⟨⟨x1, x2⟩, y1, y2⟩ := hp
  have e : (2 : Int) ^ min (Int.toNat 32) IntKind.u64.bits = 4294967296 := by decide
  rw [e]
  simp only [Int.fdiv_eq_ediv_of_nonneg _ (show (0 : Int) ≤ 4294967296 by decide), and_low x1 x2, and_low y1 y2]
  refine ⟨by omega, by omega, by omega, by omega, by omega, ?_, wrapU64 _⟩
  obtain ⟨a, ha⟩ : ∃ a, a = x / 4294967296 := ⟨_, rfl⟩
  obtain ⟨b, hb⟩ : ∃ b, b = x % 4294967296 := ⟨_, rfl⟩
  obtain ⟨c, hc⟩ : ∃ c, c = y / 4294967296 := ⟨_, rfl⟩
  obtain ⟨d, hd⟩ : ∃ d, d = y % 4294967296 := ⟨_, rfl⟩
  rw [← ha, ← hb, ← hc, ← hd]
  have hx : x = a * 4294967296 + b := by omega
  have hy : y = c * 4294967296 + d := by omega
  have hxy : x * y = a * c * 18446744073709551616 + (a * d + b * c) * 4294967296 + b * d := by
    rw [hx, hy]
    grind
  have bd : ∀ p q : Int, 0 ≤ p → p ≤ 4294967295 → 0 ≤ q → q ≤ 4294967295 → 0 ≤ p * q ∧ p * q ≤ 18446744065119617025 := fun p q h1 h2 h3 h4 => by
    have := mul_bound (a := p) (b := q) (A := 4294967295) (B := 4294967295) (by omega) (by omega) (by omega) (by omega) (by omega) (by omega)
    exact ⟨Int.mul_nonneg h1 h3, by omega⟩
  have q1 := bd a c (by omega) (by omega) (by omega) (by omega)
  have q2 := bd a d (by omega) (by omega) (by omega) (by omega)
  have q3 := bd b c (by omega) (by omega) (by omega) (by omega)
  have q4 := bd b d (by omega) (by omega) (by omega) (by omega)
  rw [hxy]
  generalize a * c = ac at *
  generalize a * d = ad at *
  generalize b * c = bc at *
  generalize b * d = bdd at *
  rw [wu64 q4.1 (by omega), wu64 q2.1 (by omega), wu64 (x := ad + bdd / 4294967296) (by omega) (by omega), wu64 q1.1 (by omega), wu64 q3.1 (by omega), and_low (by omega) (by omega)]
  rw [wu64 (x := (ad + bdd / 4294967296) % 4294967296 + bc) (by omega) (by omega)]
  rw [wu64 (x := ac + (ad + bdd / 4294967296) / 4294967296) (by omega) (by omega)]
  rw [wu64 (by omega) (by omega)]
  omega
theorem Mul64_ok : SpecOk Try.prog Mul64_n true (specOf true Mul64_fs) :=
  spec_ok' TT_ok (show GsOk Try.prog Mul64_g from gsOk_nil) (by kernel_rfl) mixedOrders Try.func44 rfl rfl (by kernel_rfl) (n := 2) (by decide +kernel) (I := Mul64_IA) (fun _ _ => isOk_nil) (A := Mul64_A)
    (fun args h r hr => by
      unfold Mul64_fs at hr
      split at hr
      · rename_i x y; cases hr; refine ⟨rfl, fun hp => ?_⟩; have hE := Mul64_E x y hp; exact hE
      · cases hr)
def size_E0 (n : Int) : Prop :=
      (decide (n < (0 : Int)) = true → ((IntKind.u64.wrap ((0 : Int) - IntKind.u64.wrap n) = if n < (0 : Int) then -n else n) ∧ True) ∧ True) ∧
 (decide (n < (0 : Int)) = false → ((IntKind.u64.wrap n = if n < (0 : Int) then -n else n) ∧ True) ∧ True)
theorem size_q (n : Int) : size_E0 n = FVcP TT size_g (size_I n) (size_an n) Try.f45 [.int .i64 n] [] (size_r n) := by kernel_rfl
theorem size_E (n : Int) (hp : I64 n) : FVc TT size_g (size_I n) (size_an n) Try.f45 [.int .i64 n] [] (size_r n) := by
  refine FVc.of (size_E0 n) (size_q n) ?_
  unfold size_E0
  simp only [eq_self, exists_const, forall_const, decide_eq_true_eq, decide_eq_false_iff_not, and_true, true_and, bne_iff_ne, ne_eq, bne_eq_false_iff_eq, Int.toNat_natCast, Bool.not_eq_true', Bool.not_eq_false', beq_iff_eq, beq_eq_false_iff_ne]
  unfold I64 at hp
  simp only [wrapU64]
  refine ⟨fun h => ?_, fun h => ?_⟩
  · rw [if_pos h]; omega
  · rw [if_neg h]; omega
theorem size_ok : SpecOk Try.prog size_n true (specOf true size_fs) :=
  spec_ok' TT_ok (show GsOk Try.prog size_g from gsOk_nil) (by kernel_rfl) mixedOrders Try.func45 rfl rfl (by kernel_rfl) (n := 1) (by decide +kernel) (I := size_IA) (fun _ _ => isOk_nil) (A := size_A)
    (fun args h r hr => by
      unfold size_fs at hr
      split at hr
      · rename_i n; cases hr; refine ⟨rfl, fun hp => ?_⟩; have hE := size_E n hp; exact hE
      · cases hr)
def Of_E0 (n : Int) : Prop :=
      (0 : Int) ≤ (63 : Int) ∧ ((n.fdiv ((2 : Int) ^ min (Int.toNat (63 : Int)) IntKind.i64.bits) = (W n).hi ∧ IntKind.u64.wrap n = (W n).lo ∧ True) ∧ True) ∧ True
theorem Of_q (n : Int) : Of_E0 n = FVcP TT Of_g (Of_I n) (Of_an n) Try.f26 [.int .i64 n] [] (Of_r n) := by kernel_rfl
theorem Of_E (n : Int) (hp : I64 n) : FVc TT Of_g (Of_I n) (Of_an n) Try.f26 [.int .i64 n] [] (Of_r n) := by
  refine FVc.of (Of_E0 n) (Of_q n) ?_
  unfold Of_E0
  simp only [eq_self, exists_const, forall_const, decide_eq_true_eq, decide_eq_false_iff_not, and_true, true_and, bne_iff_ne, ne_eq, bne_eq_false_iff_eq, Int.toNat_natCast, Bool.not_eq_true', Bool.not_eq_false', beq_iff_eq, beq_eq_false_iff_ne]
  unfold I64 at hp
  have e : (2 : Int) ^ min (Int.toNat 63) IntKind.i64.bits = 9223372036854775808 := by decide
  rw [e, Int.fdiv_eq_ediv_of_nonneg _ (show (0 : Int) ≤ 9223372036854775808 by decide)]
  simp only [wrapU64, W, and_true]
  omega
theorem Of_ok : SpecOk Try.prog Of_n true (specOf true Of_fs) :=
  spec_ok' TT_ok (show GsOk Try.prog Of_g from gsOk_nil) (by kernel_rfl) mixedOrders Try.func26 rfl rfl (by kernel_rfl) (n := 1) (by decide +kernel) (I := Of_IA) (fun _ _ => isOk_nil) (A := Of_A)
    (fun args h r hr => by
      unfold Of_fs at hr
      split at hr
      · rename_i n; cases hr; refine ⟨rfl, fun hp => ?_⟩; have hE := Of_E n hp; exact hE
      · cases hr)
def Plus_E0 (a : Wide) (b : Wide) : Prop :=
      ((0 : Int) ≤ a.lo ∧ (0 : Int) ≤ b.lo ∧ (0 : Int) ≤ (0 : Int) ∧ (0 : Int) ≤ (1 : Int)) ∧
 ((0 : Int) ≤ IntKind.u64.wrap a.hi ∧
 (0 : Int) ≤ IntKind.u64.wrap b.hi ∧
 (0 : Int) ≤ (a.lo + b.lo + (0 : Int)) / (18446744073709551616 : Int) ∧ (a.lo + b.lo + (0 : Int)) / (18446744073709551616 : Int) ≤ (1 : Int)) ∧
 ((IntKind.i64.wrap ((IntKind.u64.wrap a.hi + IntKind.u64.wrap b.hi + (a.lo + b.lo + (0 : Int)) / (18446744073709551616 : Int)) % (18446744073709551616 : Int)) =
 (wplus a b).hi ∧
 (a.lo + b.lo + (0 : Int)) % (18446744073709551616 : Int) = (wplus a b).lo ∧ True) ∧
 True) ∧
 True
theorem Plus_q (a : Wide) (b : Wide) : Plus_E0 a b = FVcP TT Plus_g (Plus_I a b) (Plus_an a b) Try.f25 [.agg (encWide a), .agg (encWide b)] [] (Plus_r a b) := by kernel_rfl
theorem Plus_E (a : Wide) (b : Wide) (hp : a.ok ∧ b.ok) : FVc TT Plus_g (Plus_I a b) (Plus_an a b) Try.f25 [.agg (encWide a), .agg (encWide b)] [] (Plus_r a b) := by
  refine FVc.of (Plus_E0 a b) (Plus_q a b) ?_
  unfold Plus_E0
  simp only [eq_self, exists_const, forall_const, decide_eq_true_eq, decide_eq_false_iff_not, and_true, true_and, bne_iff_ne, ne_eq, bne_eq_false_iff_eq, Int.toNat_natCast, Bool.not_eq_true', Bool.not_eq_false', beq_iff_eq, beq_eq_false_iff_ne]
  obtain ⟨⟨⟨a1, a2⟩, a3, a4⟩, ⟨b1, b2⟩, b3, b4⟩ := hp
  simp only [wrapU64, wrapI64, wplus, W, Wide.v]
  omega
theorem Plus_ok : SpecOk Try.prog Plus_n true (specOf true Plus_fs) :=
  spec_ok' TT_ok (show GsOk Try.prog Plus_g from gsOk_cons Add64_ok (gsOk_nil)) (by kernel_rfl) mixedOrders Try.func25 rfl rfl (by kernel_rfl) (n := 2) (by decide +kernel) (I := Plus_IA) (fun _ _ => isOk_nil) (A := Plus_A)
    (fun args h r hr => by
      unfold Plus_fs at hr
      split at hr
      · rename_i a_0 a_1 b_0 b_1; cases hr; refine ⟨rfl, fun hp => ?_⟩; have hE := Plus_E ⟨a_0, a_1⟩ ⟨b_0, b_1⟩ hp; exact hE
      · cases hr)
def Minus_E0 (a : Wide) (b : Wide) : Prop :=
      ((0 : Int) ≤ a.lo ∧ (0 : Int) ≤ b.lo ∧ b.lo ≤ (18446744073709551615 : Int) ∧ (0 : Int) ≤ (0 : Int) ∧ (0 : Int) ≤ (1 : Int)) ∧
 ((0 : Int) ≤ IntKind.u64.wrap a.hi ∧
 (0 : Int) ≤ IntKind.u64.wrap b.hi ∧
 IntKind.u64.wrap b.hi ≤ (18446744073709551615 : Int) ∧
 ((0 : Int) ≤ if a.lo < b.lo + (0 : Int) then (1 : Int) else (0 : Int)) ∧ (if a.lo < b.lo + (0 : Int) then (1 : Int) else (0 : Int)) ≤ (1 : Int)) ∧
 ((IntKind.i64.wrap ((IntKind.u64.wrap a.hi - IntKind.u64.wrap b.hi - if a.lo < b.lo + (0 : Int) then (1 : Int) else (0 : Int)) % (18446744073709551616 : Int)) =
 (wminus a b).hi ∧
 (a.lo - b.lo - (0 : Int)) % (18446744073709551616 : Int) = (wminus a b).lo ∧ True) ∧
 True) ∧
 True
theorem Minus_q (a : Wide) (b : Wide) : Minus_E0 a b = FVcP TT Minus_g (Minus_I a b) (Minus_an a b) Try.f46 [.agg (encWide a), .agg (encWide b)] [] (Minus_r a b) := by kernel_rfl
theorem Minus_E (a : Wide) (b : Wide) (hp : a.ok ∧ b.ok) : FVc TT Minus_g (Minus_I a b) (Minus_an a b) Try.f46 [.agg (encWide a), .agg (encWide b)] [] (Minus_r a b) := by
  refine FVc.of (Minus_E0 a b) (Minus_q a b) ?_
  unfold Minus_E0
  simp only [eq_self, exists_const, forall_const, decide_eq_true_eq, decide_eq_false_iff_not, and_true, true_and, bne_iff_ne, ne_eq, bne_eq_false_iff_eq, Int.toNat_natCast, Bool.not_eq_true', Bool.not_eq_false', beq_iff_eq, beq_eq_false_iff_ne]
  obtain ⟨⟨⟨a1, a2⟩, a3, a4⟩, ⟨b1, b2⟩, b3, b4⟩ := hp
  simp only [wrapU64, wrapI64, wminus, W, Wide.v]
  split <;> omega
theorem Minus_ok : SpecOk Try.prog Minus_n true (specOf true Minus_fs) :=
  spec_ok' TT_ok (show GsOk Try.prog Minus_g from gsOk_cons Sub64_ok (gsOk_nil)) (by kernel_rfl) mixedOrders Try.func46 rfl rfl (by kernel_rfl) (n := 2) (by decide +kernel) (I := Minus_IA) (fun _ _ => isOk_nil) (A := Minus_A)
    (fun args h r hr => by
      unfold Minus_fs at hr
      split at hr
      · rename_i a_0 a_1 b_0 b_1; cases hr; refine ⟨rfl, fun hp => ?_⟩; have hE := Minus_E ⟨a_0, a_1⟩ ⟨b_0, b_1⟩ hp; exact hE
      · cases hr)
def Times_E0 (a : Int) (b : Int) : Prop :=
      I64 a ∧
 I64 b ∧
 (U64 (if a < (0 : Int) then -a else a) ∧ U64 (if b < (0 : Int) then -b else b)) ∧
 ((!decide (a < (0 : Int)) == decide (b < (0 : Int))) = true →
 ({ hi := (0 : Int), lo := (0 : Int) : Wide }.ok ∧
 { hi := IntKind.i64.wrap (((if a < (0 : Int) then -a else a) * if b < (0 : Int) then -b else b) / (18446744073709551616 : Int)), lo := ((if a < (0 : Int) then -a else a) * if b < (0 : Int) then -b else b) % (18446744073709551616 : Int) : Wide }.ok) ∧
 (((wminus { hi := (0 : Int), lo := (0 : Int) : Wide }
 { hi := IntKind.i64.wrap (((if a < (0 : Int) then -a else a) * if b < (0 : Int) then -b else b) / (18446744073709551616 : Int)), lo := ((if a < (0 : Int) then -a else a) * if b < (0 : Int) then -b else b) % (18446744073709551616 : Int) : Wide }).hi =
 (W (a * b)).hi ∧
 (wminus { hi := (0 : Int), lo := (0 : Int) : Wide }
 { hi := IntKind.i64.wrap (((if a < (0 : Int) then -a else a) * if b < (0 : Int) then -b else b) / (18446744073709551616 : Int)), lo := ((if a < (0 : Int) then -a else a) * if b < (0 : Int) then -b else b) % (18446744073709551616 : Int) : Wide }).lo =
 (W (a * b)).lo ∧
 True) ∧
 True) ∧
 True) ∧
 ((!decide (a < (0 : Int)) == decide (b < (0 : Int))) = false →
 ((IntKind.i64.wrap (((if a < (0 : Int) then -a else a) * if b < (0 : Int) then -b else b) / (18446744073709551616 : Int)) = (W (a * b)).hi ∧
 ((if a < (0 : Int) then -a else a) * if b < (0 : Int) then -b else b) % (18446744073709551616 : Int) = (W (a * b)).lo ∧ True) ∧
 True) ∧
 True)
theorem Times_q (a : Int) (b : Int) : Times_E0 a b = FVcP TT Times_g (Times_I a b) (Times_an a b) Try.f27 [.int .i64 a, .int .i64 b] [] (Times_r a b) := by kernel_rfl
theorem Times_E (a : Int) (b : Int) (hp : I64 a ∧ I64 b) : FVc TT Times_g (Times_I a b) (Times_an a b) Try.f27 [.int .i64 a, .int .i64 b] [] (Times_r a b) := by
  refine FVc.of (Times_E0 a b) (Times_q a b) ?_
  unfold Times_E0
  simp only [eq_self, exists_const, forall_const, decide_eq_true_eq, decide_eq_false_iff_not, and_true, true_and, bne_iff_ne, ne_eq, bne_eq_false_iff_eq, Int.toNat_natCast, Bool.not_eq_true', Bool.not_eq_false', beq_iff_eq, beq_eq_false_iff_ne]
  have h1 := hp.1
  have h2 := hp.2
  unfold I64 at h1 h2
  have ua : U64 (if a < 0 then -a else a) := by unfold U64; split <;> omega
  have ub : U64 (if b < 0 then -b else b) := by unfold U64; split <;> omega
  have hm : (if a < 0 then -a else a) * (if b < 0 then -b else b) = if decide (a < 0) = decide (b < 0) then a * b else -(a * b) := by
    by_cases c1 : a < 0 <;> by_cases c2 : b < 0 <;> simp [c1, c2, Int.neg_mul, Int.mul_neg]
  have hb := mul_bound (a := a) (b := b) (A := 9223372036854775808) (B := 9223372036854775808) (by omega) (by omega) (by omega) (by omega) (by omega) (by omega)
  rw [hm]
  refine ⟨hp.1, hp.2, ⟨ua, ub⟩, fun h => ?_, fun h => ?_⟩
  · rw [if_neg h]
    have h0 : 0 ≤ -(a * b) := by
      have := Int.mul_nonneg ua.1 ub.1
      rw [hm, if_neg h] at this; exact this
    generalize a * b = p at *
    have e : (⟨IntKind.i64.wrap (-p / 18446744073709551616), -p % 18446744073709551616⟩ : Wide) = W (-p) := by
      unfold W; rw [wrapI64]
    have e0 : (⟨0, 0⟩ : Wide) = W 0 := W_zero.symm
    rw [e, e0, wminus_W]
    refine ⟨⟨W_ok _, W_ok _⟩, ?_⟩
    rw [show (0 : Int) - -p = p by omega]
    exact ⟨rfl, rfl⟩
  · rw [if_pos h, wrapI64]
    exact ⟨rfl, rfl⟩
theorem Times_ok : SpecOk Try.prog Times_n true (specOf true Times_fs) :=
  spec_ok' TT_ok (show GsOk Try.prog Times_g from gsOk_cons size_ok (gsOk_cons Mul64_ok (gsOk_cons Minus_ok (gsOk_nil)))) (by kernel_rfl) mixedOrders Try.func27 rfl rfl (by kernel_rfl) (n := 2) (by decide +kernel) (I := Times_IA) (fun _ _ => isOk_nil) (A := Times_A)
    (fun args h r hr => by
      unfold Times_fs at hr
      split at hr
      · rename_i a b; cases hr; refine ⟨rfl, fun hp => ?_⟩; have hE := Times_E a b hp; exact hE
      · cases hr)
def nan1_E0 (n : Int) : Prop :=
      ((n != n) = false ∧ True) ∧ True
theorem nan1_q (n : Int) : nan1_E0 n = FVcP TT nan1_g (nan1_I n) (nan1_an n) Try.f61 [.int .i64 n] [] (nan1_r n) := by kernel_rfl
theorem nan1_E (n : Int) (hp : True) : FVc TT nan1_g (nan1_I n) (nan1_an n) Try.f61 [.int .i64 n] [] (nan1_r n) := by
  refine FVc.of (nan1_E0 n) (nan1_q n) ?_
  unfold nan1_E0
  simp
theorem nan1_ok : SpecOk Try.prog nan1_n true (specOf true nan1_fs) :=
  spec_ok' TT_ok (show GsOk Try.prog nan1_g from gsOk_nil) (by kernel_rfl) mixedOrders Try.func61 rfl rfl (by kernel_rfl) (n := 1) (by decide +kernel) (I := nan1_IA) (fun _ _ => isOk_nil) (A := nan1_A)
    (fun args h r hr => by
      unfold nan1_fs at hr
      split at hr
      · rename_i n; cases hr; refine ⟨rfl, fun hp => ?_⟩; have hE := nan1_E n hp; exact hE
      · cases hr)
def nan2_E0 (n : Int) : Prop :=
      ((n != n) = false ∧ True) ∧ True
theorem nan2_q (n : Int) : nan2_E0 n = FVcP TT nan2_g (nan2_I n) (nan2_an n) Try.f62 [.int .u64 n] [] (nan2_r n) := by kernel_rfl
theorem nan2_E (n : Int) (hp : True) : FVc TT nan2_g (nan2_I n) (nan2_an n) Try.f62 [.int .u64 n] [] (nan2_r n) := by
  refine FVc.of (nan2_E0 n) (nan2_q n) ?_
  unfold nan2_E0
  simp
theorem nan2_ok : SpecOk Try.prog nan2_n true (specOf true nan2_fs) :=
  spec_ok' TT_ok (show GsOk Try.prog nan2_g from gsOk_nil) (by kernel_rfl) mixedOrders Try.func62 rfl rfl (by kernel_rfl) (n := 1) (by decide +kernel) (I := nan2_IA) (fun _ _ => isOk_nil) (A := nan2_A)
    (fun args h r hr => by
      unfold nan2_fs at hr
      split at hr
      · rename_i n; cases hr; refine ⟨rfl, fun hp => ?_⟩; have hE := nan2_E n hp; exact hE
      · cases hr)
def cmp1_E0 (a : Int) (b : Int) : Prop :=
      True ∧
 True ∧
 (false = true →
 (false = true → (((0 : Int) = if a < b then (-1 : Int) else if b < a then (1 : Int) else (0 : Int)) ∧ True) ∧ True) ∧
 (false = false → (((-1 : Int) = if a < b then (-1 : Int) else if b < a then (1 : Int) else (0 : Int)) ∧ True) ∧ True)) ∧
 (false = false →
 (false = true → (((1 : Int) = if a < b then (-1 : Int) else if b < a then (1 : Int) else (0 : Int)) ∧ True) ∧ True) ∧
 (false = false →
 (decide (a < b) = true → (((-1 : Int) = if a < b then (-1 : Int) else if b < a then (1 : Int) else (0 : Int)) ∧ True) ∧ True) ∧
 (decide (a < b) = false →
 (decide (a > b) = true → (((1 : Int) = if a < b then (-1 : Int) else if b < a then (1 : Int) else (0 : Int)) ∧ True) ∧ True) ∧
 (decide (a > b) = false → (((0 : Int) = if a < b then (-1 : Int) else if b < a then (1 : Int) else (0 : Int)) ∧ True) ∧ True))))
theorem cmp1_q (a : Int) (b : Int) : cmp1_E0 a b = FVcP TT cmp1_g (cmp1_I a b) (cmp1_an a b) Try.f35 [.int .i64 a, .int .i64 b] [] (cmp1_r a b) := by kernel_rfl
theorem cmp1_E (a : Int) (b : Int) (hp : True) : FVc TT cmp1_g (cmp1_I a b) (cmp1_an a b) Try.f35 [.int .i64 a, .int .i64 b] [] (cmp1_r a b) := by
  refine FVc.of (cmp1_E0 a b) (cmp1_q a b) ?_
  unfold cmp1_E0
  simp
  grind
theorem cmp1_ok : SpecOk Try.prog cmp1_n true (specOf true cmp1_fs) :=
  spec_ok' TT_ok (show GsOk Try.prog cmp1_g from gsOk_cons nan1_ok (gsOk_nil)) (by kernel_rfl) mixedOrders Try.func35 rfl rfl (by kernel_rfl) (n := 2) (by decide +kernel) (I := cmp1_IA) (fun _ _ => isOk_nil) (A := cmp1_A)
    (fun args h r hr => by
      unfold cmp1_fs at hr
      split at hr
      · rename_i a b; cases hr; refine ⟨rfl, fun hp => ?_⟩; have hE := cmp1_E a b hp; exact hE
      · cases hr)
def cmp2_E0 (a : Int) (b : Int) : Prop :=
      True ∧
 True ∧
 (false = true →
 (false = true → (((0 : Int) = if a < b then (-1 : Int) else if b < a then (1 : Int) else (0 : Int)) ∧ True) ∧ True) ∧
 (false = false → (((-1 : Int) = if a < b then (-1 : Int) else if b < a then (1 : Int) else (0 : Int)) ∧ True) ∧ True)) ∧
 (false = false →
 (false = true → (((1 : Int) = if a < b then (-1 : Int) else if b < a then (1 : Int) else (0 : Int)) ∧ True) ∧ True) ∧
 (false = false →
 (decide (a < b) = true → (((-1 : Int) = if a < b then (-1 : Int) else if b < a then (1 : Int) else (0 : Int)) ∧ True) ∧ True) ∧
 (decide (a < b) = false →
 (decide (a > b) = true → (((1 : Int) = if a < b then (-1 : Int) else if b < a then (1 : Int) else (0 : Int)) ∧ True) ∧ True) ∧
 (decide (a > b) = false → (((0 : Int) = if a < b then (-1 : Int) else if b < a then (1 : Int) else (0 : Int)) ∧ True) ∧ True))))
theorem cmp2_q (a : Int) (b : Int) : cmp2_E0 a b = FVcP TT cmp2_g (cmp2_I a b) (cmp2_an a b) Try.f36 [.int .u64 a, .int .u64 b] [] (cmp2_r a b) := by kernel_rfl
theorem cmp2_E (a : Int) (b : Int) (hp : True) : FVc TT cmp2_g (cmp2_I a b) (cmp2_an a b) Try.f36 [.int .u64 a, .int .u64 b] [] (cmp2_r a b) := by
  refine FVc.of (cmp2_E0 a b) (cmp2_q a b) ?_
  unfold cmp2_E0
  simp
  grind
theorem cmp2_ok : SpecOk Try.prog cmp2_n true (specOf true cmp2_fs) :=
  spec_ok' TT_ok (show GsOk Try.prog cmp2_g from gsOk_cons nan2_ok (gsOk_nil)) (by kernel_rfl) mixedOrders Try.func36 rfl rfl (by kernel_rfl) (n := 2) (by decide +kernel) (I := cmp2_IA) (fun _ _ => isOk_nil) (A := cmp2_A)
    (fun args h r hr => by
      unfold cmp2_fs at hr
      split at hr
      · rename_i a b; cases hr; refine ⟨rfl, fun hp => ?_⟩; have hE := cmp2_E a b hp; exact hE
      · cases hr)
def Compare_E0 (a : Wide) (b : Wide) : Prop :=
      ((a.hi != b.hi) = true → True ∧ ((if a.hi < b.hi then (-1 : Int) else if b.hi < a.hi then (1 : Int) else (0 : Int)) = wcmp a b ∧ True) ∧ True) ∧
 ((a.hi != b.hi) = false → True ∧ ((if a.lo < b.lo then (-1 : Int) else if b.lo < a.lo then (1 : Int) else (0 : Int)) = wcmp a b ∧ True) ∧ True)
theorem Compare_q (a : Wide) (b : Wide) : Compare_E0 a b = FVcP TT Compare_g (Compare_I a b) (Compare_an a b) Try.f18 [.agg (encWide a), .agg (encWide b)] [] (Compare_r a b) := by kernel_rfl
theorem Compare_E (a : Wide) (b : Wide) (hp : a.ok ∧ b.ok) : FVc TT Compare_g (Compare_I a b) (Compare_an a b) Try.f18 [.agg (encWide a), .agg (encWide b)] [] (Compare_r a b) := by
  refine FVc.of (Compare_E0 a b) (Compare_q a b) ?_
  unfold Compare_E0
  simp only [eq_self, exists_const, forall_const, decide_eq_true_eq, decide_eq_false_iff_not, and_true, true_and, bne_iff_ne, ne_eq, bne_eq_false_iff_eq, Int.toNat_natCast, Bool.not_eq_true', Bool.not_eq_false', beq_iff_eq, beq_eq_false_iff_ne]
  obtain ⟨⟨⟨a1, a2⟩, a3, a4⟩, ⟨b1, b2⟩, b3, b4⟩ := hp
  unfold wcmp Wide.v
  refine ⟨fun h => ?_, fun h => ?_⟩ <;> (repeat' split) <;> omega
theorem Compare_ok : SpecOk Try.prog Compare_n true (specOf true Compare_fs) :=
  spec_ok' TT_ok (show GsOk Try.prog Compare_g from gsOk_cons cmp1_ok (gsOk_cons cmp2_ok (gsOk_nil))) (by kernel_rfl) mixedOrders Try.func18 rfl rfl (by kernel_rfl) (n := 2) (by decide +kernel) (I := Compare_IA) (fun _ _ => isOk_nil) (A := Compare_A)
    (fun args h r hr => by
      unfold Compare_fs at hr
      split at hr
      · rename_i a_0 a_1 b_0 b_1; cases hr; refine ⟨rfl, fun hp => ?_⟩; have hE := Compare_E ⟨a_0, a_1⟩ ⟨b_0, b_1⟩ hp; exact hE
      · cases hr)
def Back_E0 (a : Wide) : Prop :=
      I64 (IntKind.i64.wrap a.lo) ∧
 ((!decide ([(W (IntKind.i64.wrap a.lo)).hi, (W (IntKind.i64.wrap a.lo)).lo] = [a.hi, a.lo])) = true →
 ((((0 : Int) = if I64 a.v then a.v else (0 : Int)) ∧ false = decide (I64 a.v) ∧ True) ∧ True) ∧ True) ∧
 ((!decide ([(W (IntKind.i64.wrap a.lo)).hi, (W (IntKind.i64.wrap a.lo)).lo] = [a.hi, a.lo])) = false →
 (((IntKind.i64.wrap a.lo = if I64 a.v then a.v else (0 : Int)) ∧ true = decide (I64 a.v) ∧ True) ∧ True) ∧ True)
theorem Back_q (a : Wide) : Back_E0 a = FVcP TT Back_g (Back_I a) (Back_an a) Try.f21 [.agg (encWide a)] [] (Back_r a) := by kernel_rfl
theorem Back_E (a : Wide) (hp : a.ok) : FVc TT Back_g (Back_I a) (Back_an a) Try.f21 [.agg (encWide a)] [] (Back_r a) := by
  refine FVc.of (Back_E0 a) (Back_q a) ?_
  unfold Back_E0
  simp only [eq_self, exists_const, forall_const, decide_eq_true_eq, decide_eq_false_iff_not, and_true, true_and, bne_iff_ne, ne_eq, bne_eq_false_iff_eq, Int.toNat_natCast, Bool.not_eq_true', Bool.not_eq_false', beq_iff_eq, beq_eq_false_iff_ne]
  have hi := v_I128 hp
  obtain ⟨⟨a1, a2⟩, a3, a4⟩ := hp
  obtain ⟨ah, al⟩ := a
  dsimp only at a1 a2 a3 a4
  simp only [wrapI64, W, Wide.v, List.cons.injEq, and_true]
  have hd : I64 (ah * 18446744073709551616 + al) ↔ ((((al + 9223372036854775808) % 18446744073709551616 - 9223372036854775808) / 18446744073709551616 + 9223372036854775808) % 18446744073709551616 - 9223372036854775808 = ah ∧ ((al + 9223372036854775808) % 18446744073709551616 - 9223372036854775808) % 18446744073709551616 = al) := by
    unfold I64; omega
  refine ⟨by unfold I64; omega, fun h => ?_, fun h => ?_⟩
  · have := mt hd.1 h
    simp [this]
  · have h2 := hd.2 h
    simp only [h2, decide_true, and_true, if_true]
    unfold I64 at h2
    omega
theorem Back_ok : SpecOk Try.prog Back_n true (specOf true Back_fs) :=
  spec_ok' TT_ok (show GsOk Try.prog Back_g from gsOk_cons Of_ok (gsOk_nil)) (by kernel_rfl) mixedOrders Try.func21 rfl rfl (by kernel_rfl) (n := 1) (by decide +kernel) (I := Back_IA) (fun _ _ => isOk_nil) (A := Back_A)
    (fun args h r hr => by
      unfold Back_fs at hr
      split at hr
      · rename_i a_0 a_1; cases hr; refine ⟨rfl, fun hp => ?_⟩; have hE := Back_E ⟨a_0, a_1⟩ hp; exact hE
      · cases hr)
end Go.Proofs.Ytggblkbecekbdaa
