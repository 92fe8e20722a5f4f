/- Part of the proof, FN1. -/
import Derived.Test.YtahbkllfifmdfaaGreatZDN1
import Derived.Test.YtahbkllfifmdfaaGreatZVc11
import Derived.Laws.Externs
set_option linter.unusedVariables false
set_option linter.all false
set_option linter.unusedSimpArgs false
set_option maxRecDepth 100000
namespace Go.Proofs.YtahbkllfifmdfaaGreat
open Go Go.RowKit Go.Ql Go.Vc
theorem Add64_ok : SpecOk Tryz.prog Add64_n true Add64_spec := by
  refine .ext fun ρ hp nk w args K hh h => ?_
  unfold Add64_spec at h
  split at h
  · obtain ⟨⟨h1, h2, h3, h4⟩, hk⟩ := h
    refine ⟨_, ?_, hk⟩
    simp only [toVs, SV.toV]
    rw [run_callFunc_extern Tryz.func69 (by kernel_rfl) (by kernel_rfl) (by kernel_rfl) (e := add64Entry) (by kernel_rfl), run_add64 _ _ _ h1 h2 h3 h4]
    simp only [Result.andThen]
  · exact h.elim
theorem run_sub64 {P : Program} (x y b : Nat) (hb : b ≤ 1) (w : World) :
    ((Extern.MathBitsCarry.rows[1]).2 #[.int .u64 x, .int .u64 y, .int .u64 b]).run P w =
      .ok (.tuple #[.int .u64 (((x + 18446744073709551616 - y - b) % 18446744073709551616 : Nat) : Int), .int .u64 ((if x < y + b then 1 else 0 : Nat) : Int)]) w := by
  have : b = 0 ∨ b = 1 := by omega
  rcases this with rfl | rfl <;> rfl
theorem Sub64_ok : SpecOk Tryz.prog Sub64_n true Sub64_spec := by
  refine .ext fun ρ hp nk w args K hh h => ?_
  unfold Sub64_spec at h
  split at h
  · rename_i x y c
    obtain ⟨⟨h1, h2, h3, h4, h5⟩, hk⟩ := h
    obtain ⟨X, rfl⟩ := Int.eq_ofNat_of_zero_le h1
    obtain ⟨Y, rfl⟩ := Int.eq_ofNat_of_zero_le h2
    obtain ⟨B, rfl⟩ := Int.eq_ofNat_of_zero_le h4
    refine ⟨_, ?_, hk⟩
    simp only [toVs, SV.toV]
    rw [run_callFunc_extern Tryz.func89 (by kernel_rfl) (by kernel_rfl) (by kernel_rfl) (e := (Extern.MathBitsCarry.rows[1]).2) (by kernel_rfl), run_sub64 X Y B (by omega)]
    simp only [Result.andThen]
    have e1 : (((X + 18446744073709551616 - Y - B) % 18446744073709551616 : Nat) : Int) = ((X : Int) - Y - B) % 18446744073709551616 := by omega
    have e2 : ((if X < Y + B then 1 else 0 : Nat) : Int) = if (X : Int) < Y + B then 1 else 0 := by split <;> split <;> omega
    rw [e1, e2]
  · exact h.elim
def Mul64_E0 (x : Int) (y : Int) : Prop :=
      (0 : Int) ≤ (32 : Int) ∧
 (0 : Int) ≤ (32 : Int) ∧
 (0 : Int) ≤ (32 : Int) ∧
 (0 : Int) ≤ (32 : Int) ∧
 (0 : Int) ≤ (32 : Int) ∧
 ((IntKind.u64.wrap
 (IntKind.u64.wrap
 (IntKind.u64.wrap (x.fdiv ((2 : Int) ^ min (Int.toNat (32 : Int)) IntKind.u64.bits) * y.fdiv ((2 : Int) ^ min (Int.toNat (32 : Int)) IntKind.u64.bits)) +
 (IntKind.u64.wrap
 (IntKind.u64.wrap (x.fdiv ((2 : Int) ^ min (Int.toNat (32 : Int)) IntKind.u64.bits) * andS IntKind.u64 y (4294967295 : Int)) +
 (IntKind.u64.wrap (andS IntKind.u64 x (4294967295 : Int) * andS IntKind.u64 y (4294967295 : Int))).fdiv
 ((2 : Int) ^ min (Int.toNat (32 : Int)) IntKind.u64.bits))).fdiv
 ((2 : Int) ^ min (Int.toNat (32 : Int)) IntKind.u64.bits)) +
 (IntKind.u64.wrap
 (andS IntKind.u64
 (IntKind.u64.wrap
 (IntKind.u64.wrap (x.fdiv ((2 : Int) ^ min (Int.toNat (32 : Int)) IntKind.u64.bits) * andS IntKind.u64 y (4294967295 : Int)) +
 (IntKind.u64.wrap (andS IntKind.u64 x (4294967295 : Int) * andS IntKind.u64 y (4294967295 : Int))).fdiv
 ((2 : Int) ^ min (Int.toNat (32 : Int)) IntKind.u64.bits)))
 (4294967295 : Int) +
 IntKind.u64.wrap (andS IntKind.u64 x (4294967295 : Int) * y.fdiv ((2 : Int) ^ min (Int.toNat (32 : Int)) IntKind.u64.bits)))).fdiv
 ((2 : Int) ^ min (Int.toNat (32 : Int)) IntKind.u64.bits)) =
 x * y / (18446744073709551616 : Int) ∧
 IntKind.u64.wrap (x * y) = x * y % (18446744073709551616 : Int) ∧ True) ∧
 True) ∧
 True
theorem Mul64_q (x : Int) (y : Int) : Mul64_E0 x y = FVcP TT Mul64_g (Mul64_I x y) (Mul64_an x y) Tryz.f70 [.int .u64 x, .int .u64 y] [] (Mul64_r x y) := by kernel_rfl
theorem Mul64_E (x : Int) (y : Int) (hp : U64 x ∧ U64 y) : FVc TT Mul64_g (Mul64_I x y) (Mul64_an x y) Tryz.f70 [.int .u64 x, .int .u64 y] [] (Mul64_r x y) := by
  refine FVc.of (Mul64_E0 x y) (Mul64_q x y) ?_
  unfold Mul64_E0
  simp only [eq_self, exists_const, forall_const, decide_eq_true_eq, decide_eq_false_iff_not, and_true, true_and, bne_iff_ne, ne_eq, bne_eq_false_iff_eq, Int.toNat_natCast, Bool.not_eq_true', Bool.not_eq_false', beq_iff_eq, beq_eq_false_iff_ne]
  obtain ⟨⟨x1, x2⟩, y1, y2⟩ := hp
  have e : (2 : Int) ^ min (Int.toNat 32) IntKind.u64.bits = 4294967296 := by decide
  rw [e]
  simp only [Int.fdiv_eq_ediv_of_nonneg _ (show (0 : Int) ≤ 4294967296 by decide), and_low x1 x2, and_low y1 y2]
  refine ⟨by omega, by omega, by omega, by omega, by omega, ?_, wrapU64 _⟩
  obtain ⟨a, ha⟩ : ∃ a, a = x / 4294967296 := ⟨_, rfl⟩
  obtain ⟨b, hb⟩ : ∃ b, b = x % 4294967296 := ⟨_, rfl⟩
  obtain ⟨c, hc⟩ : ∃ c, c = y / 4294967296 := ⟨_, rfl⟩
  obtain ⟨d, hd⟩ : ∃ d, d = y % 4294967296 := ⟨_, rfl⟩
  rw [← ha, ← hb, ← hc, ← hd]
  have hx : x = a * 4294967296 + b := by omega
  have hy : y = c * 4294967296 + d := by omega
  have hxy : x * y = a * c * 18446744073709551616 + (a * d + b * c) * 4294967296 + b * d := by
    rw [hx, hy]
    grind
  have bd : ∀ p q : Int, 0 ≤ p → p ≤ 4294967295 → 0 ≤ q → q ≤ 4294967295 → 0 ≤ p * q ∧ p * q ≤ 18446744065119617025 := fun p q h1 h2 h3 h4 => by
    have := mul_bound (a := p) (b := q) (A := 4294967295) (B := 4294967295) (by omega) (by omega) (by omega) (by omega) (by omega) (by omega)
    exact ⟨Int.mul_nonneg h1 h3, by omega⟩
  have q1 := bd a c (by omega) (by omega) (by omega) (by omega)
  have q2 := bd a d (by omega) (by omega) (by omega) (by omega)
  have q3 := bd b c (by omega) (by omega) (by omega) (by omega)
  have q4 := bd b d (by omega) (by omega) (by omega) (by omega)
  rw [hxy]
  generalize a * c = ac at *
  generalize a * d = ad at *
  generalize b * c = bc at *
  generalize b * d = bdd at *
  rw [wu64 q4.1 (by omega), wu64 q2.1 (by omega), wu64 (x := ad + bdd / 4294967296) (by omega) (by omega), wu64 q1.1 (by omega), wu64 q3.1 (by omega), and_low (by omega) (by omega)]
  rw [wu64 (x := (ad + bdd / 4294967296) % 4294967296 + bc) (by omega) (by omega)]
  rw [wu64 (x := ac + (ad + bdd / 4294967296) / 4294967296) (by omega) (by omega)]
  rw [wu64 (by omega) (by omega)]
  omega
theorem Mul64_ok : SpecOk Tryz.prog Mul64_n true (specOf true Mul64_fs) :=
  spec_ok' TT_ok (show GsOk Tryz.prog Mul64_g from gsOk_nil) (by kernel_rfl) mixedOrders Tryz.func70 rfl rfl (by kernel_rfl) (n := 2) (by decide +kernel) (I := Mul64_IA) (fun _ _ => isOk_nil) (A := Mul64_A)
    (fun args h r hr => by
      unfold Mul64_fs at hr
      split at hr
      · rename_i x y; cases hr; refine ⟨rfl, fun hp => ?_⟩; have hE := Mul64_E x y hp; exact hE
      · cases hr)
def size_E0 (n : Int) : Prop :=
      (decide (n < (0 : Int)) = true → ((IntKind.u64.wrap ((0 : Int) - IntKind.u64.wrap n) = if n < (0 : Int) then -n else n) ∧ True) ∧ True) ∧
 (decide (n < (0 : Int)) = false → ((IntKind.u64.wrap n = if n < (0 : Int) then -n else n) ∧ True) ∧ True)
theorem size_q (n : Int) : size_E0 n = FVcP TT size_g (size_I n) (size_an n) Tryz.f71 [.int .i64 n] [] (size_r n) := by kernel_rfl
theorem size_E (n : Int) (hp : I64 n) : FVc TT size_g (size_I n) (size_an n) Tryz.f71 [.int .i64 n] [] (size_r n) := by
  refine FVc.of (size_E0 n) (size_q n) ?_
  unfold size_E0
  simp only [eq_self, exists_const, forall_const, decide_eq_true_eq, decide_eq_false_iff_not, and_true, true_and, bne_iff_ne, ne_eq, bne_eq_false_iff_eq, Int.toNat_natCast, Bool.not_eq_true', Bool.not_eq_false', beq_iff_eq, beq_eq_false_iff_ne]
  unfold I64 at hp
  simp only [wrapU64]
  refine ⟨fun h => ?_, fun h => ?_⟩
  · rw [if_pos h]; omega
  · rw [if_neg h]; omega
theorem size_ok : SpecOk Tryz.prog size_n true (specOf true size_fs) :=
  spec_ok' TT_ok (show GsOk Tryz.prog size_g from gsOk_nil) (by kernel_rfl) mixedOrders Tryz.func71 rfl rfl (by kernel_rfl) (n := 1) (by decide +kernel) (I := size_IA) (fun _ _ => isOk_nil) (A := size_A)
    (fun args h r hr => by
      unfold size_fs at hr
      split at hr
      · rename_i n; cases hr; refine ⟨rfl, fun hp => ?_⟩; have hE := size_E n hp; exact hE
      · cases hr)
def Of_E0 (n : Int) : Prop :=
      (0 : Int) ≤ (63 : Int) ∧ ((n.fdiv ((2 : Int) ^ min (Int.toNat (63 : Int)) IntKind.i64.bits) = (W n).hi ∧ IntKind.u64.wrap n = (W n).lo ∧ True) ∧ True) ∧ True
theorem Of_q (n : Int) : Of_E0 n = FVcP TT Of_g (Of_I n) (Of_an n) Tryz.f81 [.int .i64 n] [] (Of_r n) := by kernel_rfl
theorem Of_E (n : Int) (hp : I64 n) : FVc TT Of_g (Of_I n) (Of_an n) Tryz.f81 [.int .i64 n] [] (Of_r n) := by
  refine FVc.of (Of_E0 n) (Of_q n) ?_
  unfold Of_E0
  simp only [eq_self, exists_const, forall_const, decide_eq_true_eq, decide_eq_false_iff_not, and_true, true_and, bne_iff_ne, ne_eq, bne_eq_false_iff_eq, Int.toNat_natCast, Bool.not_eq_true', Bool.not_eq_false', beq_iff_eq, beq_eq_false_iff_ne]
  unfold I64 at hp
  have e : (2 : Int) ^ min (Int.toNat 63) IntKind.i64.bits = 9223372036854775808 := by decide
  rw [e, Int.fdiv_eq_ediv_of_nonneg _ (show (0 : Int) ≤ 9223372036854775808 by decide)]
  simp only [wrapU64, W, and_true]
  omega
theorem Of_ok : SpecOk Tryz.prog Of_n true (specOf true Of_fs) :=
  spec_ok' TT_ok (show GsOk Tryz.prog Of_g from gsOk_nil) (by kernel_rfl) mixedOrders Tryz.func81 rfl rfl (by kernel_rfl) (n := 1) (by decide +kernel) (I := Of_IA) (fun _ _ => isOk_nil) (A := Of_A)
    (fun args h r hr => by
      unfold Of_fs at hr
      split at hr
      · rename_i n; cases hr; refine ⟨rfl, fun hp => ?_⟩; have hE := Of_E n hp; exact hE
      · cases hr)
def Plus_E0 (a : Wide) (b : Wide) : Prop :=
      ((0 : Int) ≤ a.lo ∧ (0 : Int) ≤ b.lo ∧ (0 : Int) ≤ (0 : Int) ∧ (0 : Int) ≤ (1 : Int)) ∧
 ((0 : Int) ≤ IntKind.u64.wrap a.hi ∧
 (0 : Int) ≤ IntKind.u64.wrap b.hi ∧
 (0 : Int) ≤ (a.lo + b.lo + (0 : Int)) / (18446744073709551616 : Int) ∧ (a.lo + b.lo + (0 : Int)) / (18446744073709551616 : Int) ≤ (1 : Int)) ∧
 ((IntKind.i64.wrap ((IntKind.u64.wrap a.hi + IntKind.u64.wrap b.hi + (a.lo + b.lo + (0 : Int)) / (18446744073709551616 : Int)) % (18446744073709551616 : Int)) =
 (wplus a b).hi ∧
 (a.lo + b.lo + (0 : Int)) % (18446744073709551616 : Int) = (wplus a b).lo ∧ True) ∧
 True) ∧
 True
theorem Plus_q (a : Wide) (b : Wide) : Plus_E0 a b = FVcP TT Plus_g (Plus_I a b) (Plus_an a b) Tryz.f44 [.agg (encWide a), .agg (encWide b)] [] (Plus_r a b) := by kernel_rfl
theorem Plus_E (a : Wide) (b : Wide) (hp : a.ok ∧ b.ok) : FVc TT Plus_g (Plus_I a b) (Plus_an a b) Tryz.f44 [.agg (encWide a), .agg (encWide b)] [] (Plus_r a b) := by
  refine FVc.of (Plus_E0 a b) (Plus_q a b) ?_
  unfold Plus_E0
  simp only [eq_self, exists_const, forall_const, decide_eq_true_eq, decide_eq_false_iff_not, and_true, true_and, bne_iff_ne, ne_eq, bne_eq_false_iff_eq, Int.toNat_natCast, Bool.not_eq_true', Bool.not_eq_false', beq_iff_eq, beq_eq_false_iff_ne]
  obtain ⟨⟨⟨a1, a2⟩, a3, a4⟩, ⟨b1, b2⟩, b3, b4⟩ := hp
  simp only [wrapU64, wrapI64, wplus, W, Wide.v]
  omega
theorem Plus_ok : SpecOk Tryz.prog Plus_n true (specOf true Plus_fs) :=
  spec_ok' TT_ok (show GsOk Tryz.prog Plus_g from gsOk_cons Add64_ok (gsOk_nil)) (by kernel_rfl) mixedOrders Tryz.func44 rfl rfl (by kernel_rfl) (n := 2) (by decide +kernel) (I := Plus_IA) (fun _ _ => isOk_nil) (A := Plus_A)
    (fun args h r hr => by
      unfold Plus_fs at hr
      split at hr
      · rename_i a_0 a_1 b_0 b_1; cases hr; refine ⟨rfl, fun hp => ?_⟩; have hE := Plus_E ⟨a_0, a_1⟩ ⟨b_0, b_1⟩ hp; exact hE
      · cases hr)
def Minus_E0 (a : Wide) (b : Wide) : Prop :=
      ((0 : Int) ≤ a.lo ∧ (0 : Int) ≤ b.lo ∧ b.lo ≤ (18446744073709551615 : Int) ∧ (0 : Int) ≤ (0 : Int) ∧ (0 : Int) ≤ (1 : Int)) ∧
 ((0 : Int) ≤ IntKind.u64.wrap a.hi ∧
 (0 : Int) ≤ IntKind.u64.wrap b.hi ∧
 IntKind.u64.wrap b.hi ≤ (18446744073709551615 : Int) ∧
 ((0 : Int) ≤ if a.lo < b.lo + (0 : Int) then (1 : Int) else (0 : Int)) ∧ (if a.lo < b.lo + (0 : Int) then (1 : Int) else (0 : Int)) ≤ (1 : Int)) ∧
 ((IntKind.i64.wrap ((IntKind.u64.wrap a.hi - IntKind.u64.wrap b.hi - if a.lo < b.lo + (0 : Int) then (1 : Int) else (0 : Int)) % (18446744073709551616 : Int)) =
 (wminus a b).hi ∧
 (a.lo - b.lo - (0 : Int)) % (18446744073709551616 : Int) = (wminus a b).lo ∧ True) ∧
 True) ∧
 True
theorem Minus_q (a : Wide) (b : Wide) : Minus_E0 a b = FVcP TT Minus_g (Minus_I a b) (Minus_an a b) Tryz.f72 [.agg (encWide a), .agg (encWide b)] [] (Minus_r a b) := by kernel_rfl
theorem Minus_E (a : Wide) (b : Wide) (hp : a.ok ∧ b.ok) : FVc TT Minus_g (Minus_I a b) (Minus_an a b) Tryz.f72 [.agg (encWide a), .agg (encWide b)] [] (Minus_r a b) := by
  refine FVc.of (Minus_E0 a b) (Minus_q a b) ?_
  unfold Minus_E0
  simp only [eq_self, exists_const, forall_const, decide_eq_true_eq, decide_eq_false_iff_not, and_true, true_and, bne_iff_ne, ne_eq, bne_eq_false_iff_eq, Int.toNat_natCast, Bool.not_eq_true', Bool.not_eq_false', beq_iff_eq, beq_eq_false_iff_ne]
  obtain ⟨⟨⟨a1, a2⟩, a3, a4⟩, ⟨b1, b2⟩, b3, b4⟩ := hp
  simp only [wrapU64, wrapI64, wminus, W, Wide.v]
  split <;> omega
theorem Minus_ok : SpecOk Tryz.prog Minus_n true (specOf true Minus_fs) :=
  spec_ok' TT_ok (show GsOk Tryz.prog Minus_g from gsOk_cons Sub64_ok (gsOk_nil)) (by kernel_rfl) mixedOrders Tryz.func72 rfl rfl (by kernel_rfl) (n := 2) (by decide +kernel) (I := Minus_IA) (fun _ _ => isOk_nil) (A := Minus_A)
    (fun args h r hr => by
      unfold Minus_fs at hr
      split at hr
      · rename_i a_0 a_1 b_0 b_1; cases hr; refine ⟨rfl, fun hp => ?_⟩; have hE := Minus_E ⟨a_0, a_1⟩ ⟨b_0, b_1⟩ hp; exact hE
      · cases hr)
def Times_E0 (a : Int) (b : Int) : Prop :=
      I64 a ∧
 I64 b ∧
 (U64 (if a < (0 : Int) then -a else a) ∧ U64 (if b < (0 : Int) then -b else b)) ∧
 ((!decide (a < (0 : Int)) == decide (b < (0 : Int))) = true →
 ({ hi := (0 : Int), lo := (0 : Int) : Wide }.ok ∧
 { hi := IntKind.i64.wrap (((if a < (0 : Int) then -a else a) * if b < (0 : Int) then -b else b) / (18446744073709551616 : Int)), lo := ((if a < (0 : Int) then -a else a) * if b < (0 : Int) then -b else b) % (18446744073709551616 : Int) : Wide }.ok) ∧
 (((wminus { hi := (0 : Int), lo := (0 : Int) : Wide }
 { hi := IntKind.i64.wrap (((if a < (0 : Int) then -a else a) * if b < (0 : Int) then -b else b) / (18446744073709551616 : Int)), lo := ((if a < (0 : Int) then -a else a) * if b < (0 : Int) then -b else b) % (18446744073709551616 : Int) : Wide }).hi =
 (W (a * b)).hi ∧
 (wminus { hi := (0 : Int), lo := (0 : Int) : Wide }
 { hi := IntKind.i64.wrap (((if a < (0 : Int) then -a else a) * if b < (0 : Int) then -b else b) / (18446744073709551616 : Int)), lo := ((if a < (0 : Int) then -a else a) * if b < (0 : Int) then -b else b) % (18446744073709551616 : Int) : Wide }).lo =
 (W (a * b)).lo ∧
 True) ∧
 True) ∧
 True) ∧
 ((!decide (a < (0 : Int)) == decide (b < (0 : Int))) = false →
 ((IntKind.i64.wrap (((if a < (0 : Int) then -a else a) * if b < (0 : Int) then -b else b) / (18446744073709551616 : Int)) = (W (a * b)).hi ∧
 ((if a < (0 : Int) then -a else a) * if b < (0 : Int) then -b else b) % (18446744073709551616 : Int) = (W (a * b)).lo ∧ True) ∧
 True) ∧
 True)
theorem Times_q (a : Int) (b : Int) : Times_E0 a b = FVcP TT Times_g (Times_I a b) (Times_an a b) Tryz.f45 [.int .i64 a, .int .i64 b] [] (Times_r a b) := by kernel_rfl
theorem Times_E (a : Int) (b : Int) (hp : I64 a ∧ I64 b) : FVc TT Times_g (Times_I a b) (Times_an a b) Tryz.f45 [.int .i64 a, .int .i64 b] [] (Times_r a b) := by
  refine FVc.of (Times_E0 a b) (Times_q a b) ?_
  unfold Times_E0
  simp only [eq_self, exists_const, forall_const, decide_eq_true_eq, decide_eq_false_iff_not, and_true, true_and, bne_iff_ne, ne_eq, bne_eq_false_iff_eq, Int.toNat_natCast, Bool.not_eq_true', Bool.not_eq_false', beq_iff_eq, beq_eq_false_iff_ne]
  have h1 := hp.1
  have h2 := hp.2
  unfold I64 at h1 h2
  have ua : U64 (if a < 0 then -a else a) := by unfold U64; split <;> omega
  have ub : U64 (if b < 0 then -b else b) := by unfold U64; split <;> omega
  have hm : (if a < 0 then -a else a) * (if b < 0 then -b else b) = if decide (a < 0) = decide (b < 0) then a * b else -(a * b) := by
    by_cases c1 : a < 0 <;> by_cases c2 : b < 0 <;> simp [c1, c2, Int.neg_mul, Int.mul_neg]
  have hb := mul_bound (a := a) (b := b) (A := 9223372036854775808) (B := 9223372036854775808) (by omega) (by omega) (by omega) (by omega) (by omega) (by omega)
  rw [hm]
  refine ⟨hp.1, hp.2, ⟨ua, ub⟩, fun h => ?_, fun h => ?_⟩
  · rw [if_neg h]
    have h0 : 0 ≤ -(a * b) := by
      have := Int.mul_nonneg ua.1 ub.1
      rw [hm, if_neg h] at this; exact this
    generalize a * b = p at *
    have e : (⟨IntKind.i64.wrap (-p / 18446744073709551616), -p % 18446744073709551616⟩ : Wide) = W (-p) := by
      unfold W; rw [wrapI64]
    have e0 : (⟨0, 0⟩ : Wide) = W 0 := W_zero.symm
    rw [e, e0, wminus_W]
    refine ⟨⟨W_ok _, W_ok _⟩, ?_⟩
    rw [show (0 : Int) - -p = p by omega]
    exact ⟨rfl, rfl⟩
  · rw [if_pos h, wrapI64]
    exact ⟨rfl, rfl⟩
theorem Times_ok : SpecOk Tryz.prog Times_n true (specOf true Times_fs) :=
  spec_ok' TT_ok (show GsOk Tryz.prog Times_g from gsOk_cons size_ok (gsOk_cons Mul64_ok (gsOk_cons Minus_ok (gsOk_nil)))) (by kernel_rfl) mixedOrders Tryz.func45 rfl rfl (by kernel_rfl) (n := 2) (by decide +kernel) (I := Times_IA) (fun _ _ => isOk_nil) (A := Times_A)
    (fun args h r hr => by
      unfold Times_fs at hr
      split at hr
      · rename_i a b; cases hr; refine ⟨rfl, fun hp => ?_⟩; have hE := Times_E a b hp; exact hE
      · cases hr)
def nan1_E0 (n : Int) : Prop :=
      ((n != n) = false ∧ True) ∧ True
theorem nan1_q (n : Int) : nan1_E0 n = FVcP TT nan1_g (nan1_I n) (nan1_an n) Tryz.f112 [.int .i64 n] [] (nan1_r n) := by kernel_rfl
theorem nan1_E (n : Int) (hp : True) : FVc TT nan1_g (nan1_I n) (nan1_an n) Tryz.f112 [.int .i64 n] [] (nan1_r n) := by
  refine FVc.of (nan1_E0 n) (nan1_q n) ?_
  unfold nan1_E0
  simp
theorem nan1_ok : SpecOk Tryz.prog nan1_n true (specOf true nan1_fs) :=
  spec_ok' TT_ok (show GsOk Tryz.prog nan1_g from gsOk_nil) (by kernel_rfl) mixedOrders Tryz.func112 rfl rfl (by kernel_rfl) (n := 1) (by decide +kernel) (I := nan1_IA) (fun _ _ => isOk_nil) (A := nan1_A)
    (fun args h r hr => by
      unfold nan1_fs at hr
      split at hr
      · rename_i n; cases hr; refine ⟨rfl, fun hp => ?_⟩; have hE := nan1_E n hp; exact hE
      · cases hr)
def nan2_E0 (n : Int) : Prop :=
      ((n != n) = false ∧ True) ∧ True
theorem nan2_q (n : Int) : nan2_E0 n = FVcP TT nan2_g (nan2_I n) (nan2_an n) Tryz.f113 [.int .u64 n] [] (nan2_r n) := by kernel_rfl
theorem nan2_E (n : Int) (hp : True) : FVc TT nan2_g (nan2_I n) (nan2_an n) Tryz.f113 [.int .u64 n] [] (nan2_r n) := by
  refine FVc.of (nan2_E0 n) (nan2_q n) ?_
  unfold nan2_E0
  simp
theorem nan2_ok : SpecOk Tryz.prog nan2_n true (specOf true nan2_fs) :=
  spec_ok' TT_ok (show GsOk Tryz.prog nan2_g from gsOk_nil) (by kernel_rfl) mixedOrders Tryz.func113 rfl rfl (by kernel_rfl) (n := 1) (by decide +kernel) (I := nan2_IA) (fun _ _ => isOk_nil) (A := nan2_A)
    (fun args h r hr => by
      unfold nan2_fs at hr
      split at hr
      · rename_i n; cases hr; refine ⟨rfl, fun hp => ?_⟩; have hE := nan2_E n hp; exact hE
      · cases hr)
def cmp1_E0 (a : Int) (b : Int) : Prop :=
      True ∧
 True ∧
 (false = true →
 (false = true → (((0 : Int) = if a < b then (-1 : Int) else if b < a then (1 : Int) else (0 : Int)) ∧ True) ∧ True) ∧
 (false = false → (((-1 : Int) = if a < b then (-1 : Int) else if b < a then (1 : Int) else (0 : Int)) ∧ True) ∧ True)) ∧
 (false = false →
 (false = true → (((1 : Int) = if a < b then (-1 : Int) else if b < a then (1 : Int) else (0 : Int)) ∧ True) ∧ True) ∧
 (false = false →
 (decide (a < b) = true → (((-1 : Int) = if a < b then (-1 : Int) else if b < a then (1 : Int) else (0 : Int)) ∧ True) ∧ True) ∧
 (decide (a < b) = false →
 (decide (a > b) = true → (((1 : Int) = if a < b then (-1 : Int) else if b < a then (1 : Int) else (0 : Int)) ∧ True) ∧ True) ∧
 (decide (a > b) = false → (((0 : Int) = if a < b then (-1 : Int) else if b < a then (1 : Int) else (0 : Int)) ∧ True) ∧ True))))
theorem cmp1_q (a : Int) (b : Int) : cmp1_E0 a b = FVcP TT cmp1_g (cmp1_I a b) (cmp1_an a b) Tryz.f94 [.int .i64 a, .int .i64 b] [] (cmp1_r a b) := by kernel_rfl
theorem cmp1_E (a : Int) (b : Int) (hp : True) : FVc TT cmp1_g (cmp1_I a b) (cmp1_an a b) Tryz.f94 [.int .i64 a, .int .i64 b] [] (cmp1_r a b) := by
  refine FVc.of (cmp1_E0 a b) (cmp1_q a b) ?_
  unfold cmp1_E0
  simp
  grind
theorem cmp1_ok : SpecOk Tryz.prog cmp1_n true (specOf true cmp1_fs) :=
  spec_ok' TT_ok (show GsOk Tryz.prog cmp1_g from gsOk_cons nan1_ok (gsOk_nil)) (by kernel_rfl) mixedOrders Tryz.func94 rfl rfl (by kernel_rfl) (n := 2) (by decide +kernel) (I := cmp1_IA) (fun _ _ => isOk_nil) (A := cmp1_A)
    (fun args h r hr => by
      unfold cmp1_fs at hr
      split at hr
      · rename_i a b; cases hr; refine ⟨rfl, fun hp => ?_⟩; have hE := cmp1_E a b hp; exact hE
      · cases hr)
def cmp2_E0 (a : Int) (b : Int) : Prop :=
      True ∧
 True ∧
 (false = true →
 (false = true → (((0 : Int) = if a < b then (-1 : Int) else if b < a then (1 : Int) else (0 : Int)) ∧ True) ∧ True) ∧
 (false = false → (((-1 : Int) = if a < b then (-1 : Int) else if b < a then (1 : Int) else (0 : Int)) ∧ True) ∧ True)) ∧
 (false = false →
 (false = true → (((1 : Int) = if a < b then (-1 : Int) else if b < a then (1 : Int) else (0 : Int)) ∧ True) ∧ True) ∧
 (false = false →
 (decide (a < b) = true → (((-1 : Int) = if a < b then (-1 : Int) else if b < a then (1 : Int) else (0 : Int)) ∧ True) ∧ True) ∧
 (decide (a < b) = false →
 (decide (a > b) = true → (((1 : Int) = if a < b then (-1 : Int) else if b < a then (1 : Int) else (0 : Int)) ∧ True) ∧ True) ∧
 (decide (a > b) = false → (((0 : Int) = if a < b then (-1 : Int) else if b < a then (1 : Int) else (0 : Int)) ∧ True) ∧ True))))
theorem cmp2_q (a : Int) (b : Int) : cmp2_E0 a b = FVcP TT cmp2_g (cmp2_I a b) (cmp2_an a b) Tryz.f95 [.int .u64 a, .int .u64 b] [] (cmp2_r a b) := by kernel_rfl
theorem cmp2_E (a : Int) (b : Int) (hp : True) : FVc TT cmp2_g (cmp2_I a b) (cmp2_an a b) Tryz.f95 [.int .u64 a, .int .u64 b] [] (cmp2_r a b) := by
  refine FVc.of (cmp2_E0 a b) (cmp2_q a b) ?_
  unfold cmp2_E0
  simp
  grind
theorem cmp2_ok : SpecOk Tryz.prog cmp2_n true (specOf true cmp2_fs) :=
  spec_ok' TT_ok (show GsOk Tryz.prog cmp2_g from gsOk_cons nan2_ok (gsOk_nil)) (by kernel_rfl) mixedOrders Tryz.func95 rfl rfl (by kernel_rfl) (n := 2) (by decide +kernel) (I := cmp2_IA) (fun _ _ => isOk_nil) (A := cmp2_A)
    (fun args h r hr => by
      unfold cmp2_fs at hr
      split at hr
      · rename_i a b; cases hr; refine ⟨rfl, fun hp => ?_⟩; have hE := cmp2_E a b hp; exact hE
      · cases hr)
def Compare_E0 (a : Wide) (b : Wide) : Prop :=
      ((a.hi != b.hi) = true → True ∧ ((if a.hi < b.hi then (-1 : Int) else if b.hi < a.hi then (1 : Int) else (0 : Int)) = wcmp a b ∧ True) ∧ True) ∧
 ((a.hi != b.hi) = false → True ∧ ((if a.lo < b.lo then (-1 : Int) else if b.lo < a.lo then (1 : Int) else (0 : Int)) = wcmp a b ∧ True) ∧ True)
theorem Compare_q (a : Wide) (b : Wide) : Compare_E0 a b = FVcP TT Compare_g (Compare_I a b) (Compare_an a b) Tryz.f77 [.agg (encWide a), .agg (encWide b)] [] (Compare_r a b) := by kernel_rfl
theorem Compare_E (a : Wide) (b : Wide) (hp : a.ok ∧ b.ok) : FVc TT Compare_g (Compare_I a b) (Compare_an a b) Tryz.f77 [.agg (encWide a), .agg (encWide b)] [] (Compare_r a b) := by
  refine FVc.of (Compare_E0 a b) (Compare_q a b) ?_
  unfold Compare_E0
  simp only [eq_self, exists_const, forall_const, decide_eq_true_eq, decide_eq_false_iff_not, and_true, true_and, bne_iff_ne, ne_eq, bne_eq_false_iff_eq, Int.toNat_natCast, Bool.not_eq_true', Bool.not_eq_false', beq_iff_eq, beq_eq_false_iff_ne]
  obtain ⟨⟨⟨a1, a2⟩, a3, a4⟩, ⟨b1, b2⟩, b3, b4⟩ := hp
  unfold wcmp Wide.v
  refine ⟨fun h => ?_, fun h => ?_⟩ <;> (repeat' split) <;> omega
theorem Compare_ok : SpecOk Tryz.prog Compare_n true (specOf true Compare_fs) :=
  spec_ok' TT_ok (show GsOk Tryz.prog Compare_g from gsOk_cons cmp1_ok (gsOk_cons cmp2_ok (gsOk_nil))) (by kernel_rfl) mixedOrders Tryz.func77 rfl rfl (by kernel_rfl) (n := 2) (by decide +kernel) (I := Compare_IA) (fun _ _ => isOk_nil) (A := Compare_A)
    (fun args h r hr => by
      unfold Compare_fs at hr
      split at hr
      · rename_i a_0 a_1 b_0 b_1; cases hr; refine ⟨rfl, fun hp => ?_⟩; have hE := Compare_E ⟨a_0, a_1⟩ ⟨b_0, b_1⟩ hp; exact hE
      · cases hr)
def rOf_E0 (n : Int) : Prop :=
      (decide (n < (0 : Int)) = true → (((-1 : Int) = (W n).hi ∧ IntKind.u64.wrap n = (W n).lo ∧ True) ∧ True) ∧ True) ∧
 (decide (n < (0 : Int)) = false → (((0 : Int) = (W n).hi ∧ IntKind.u64.wrap n = (W n).lo ∧ True) ∧ True) ∧ True)
theorem rOf_q (n : Int) : rOf_E0 n = FVcP TT rOf_g (rOf_I n) (rOf_an n) Tryz.f66 [.int .i64 n] [] (rOf_r n) := by kernel_rfl
theorem rOf_E (n : Int) (hp : I64 n) : FVc TT rOf_g (rOf_I n) (rOf_an n) Tryz.f66 [.int .i64 n] [] (rOf_r n) := by
  refine FVc.of (rOf_E0 n) (rOf_q n) ?_
  unfold rOf_E0
  simp only [eq_self, exists_const, forall_const, decide_eq_true_eq, decide_eq_false_iff_not, and_true, true_and, bne_iff_ne, ne_eq, bne_eq_false_iff_eq, Int.toNat_natCast, Bool.not_eq_true', Bool.not_eq_false', beq_iff_eq, beq_eq_false_iff_ne]
  unfold I64 at hp
  simp only [wrapU64, W, and_true]
  omega
theorem rOf_ok : SpecOk Tryz.prog rOf_n true (specOf true rOf_fs) :=
  spec_ok' TT_ok (show GsOk Tryz.prog rOf_g from gsOk_nil) (by kernel_rfl) mixedOrders Tryz.func66 rfl rfl (by kernel_rfl) (n := 1) (by decide +kernel) (I := rOf_IA) (fun _ _ => isOk_nil) (A := rOf_A)
    (fun args h r hr => by
      unfold rOf_fs at hr
      split at hr
      · rename_i n; cases hr; refine ⟨rfl, fun hp => ?_⟩; have hE := rOf_E n hp; exact hE
      · cases hr)
def rPlus_E0 (a : Wide) (b : Wide) : Prop :=
      (decide (IntKind.u64.wrap (a.lo + b.lo) < a.lo) = true →
 ((IntKind.i64.wrap (IntKind.i64.wrap (a.hi + b.hi) + (1 : Int)) = (wplus a b).hi ∧ IntKind.u64.wrap (a.lo + b.lo) = (wplus a b).lo ∧ True) ∧ True) ∧ True) ∧
 (decide (IntKind.u64.wrap (a.lo + b.lo) < a.lo) = false →
 ((IntKind.i64.wrap (a.hi + b.hi) = (wplus a b).hi ∧ IntKind.u64.wrap (a.lo + b.lo) = (wplus a b).lo ∧ True) ∧ True) ∧ True)
theorem rPlus_q (a : Wide) (b : Wide) : rPlus_E0 a b = FVcP TT rPlus_g (rPlus_I a b) (rPlus_an a b) Tryz.f55 [.agg (encWide a), .agg (encWide b)] [] (rPlus_r a b) := by kernel_rfl
theorem rPlus_E (a : Wide) (b : Wide) (hp : a.ok ∧ b.ok) : FVc TT rPlus_g (rPlus_I a b) (rPlus_an a b) Tryz.f55 [.agg (encWide a), .agg (encWide b)] [] (rPlus_r a b) := by
  refine FVc.of (rPlus_E0 a b) (rPlus_q a b) ?_
  unfold rPlus_E0
  simp only [eq_self, exists_const, forall_const, decide_eq_true_eq, decide_eq_false_iff_not, and_true, true_and, bne_iff_ne, ne_eq, bne_eq_false_iff_eq, Int.toNat_natCast, Bool.not_eq_true', Bool.not_eq_false', beq_iff_eq, beq_eq_false_iff_ne]
  obtain ⟨⟨⟨a1, a2⟩, a3, a4⟩, ⟨b1, b2⟩, b3, b4⟩ := hp
  simp only [wrapU64, wrapI64, wplus, W, Wide.v]
  omega
theorem rPlus_ok : SpecOk Tryz.prog rPlus_n true (specOf true rPlus_fs) :=
  spec_ok' TT_ok (show GsOk Tryz.prog rPlus_g from gsOk_nil) (by kernel_rfl) mixedOrders Tryz.func55 rfl rfl (by kernel_rfl) (n := 2) (by decide +kernel) (I := rPlus_IA) (fun _ _ => isOk_nil) (A := rPlus_A)
    (fun args h r hr => by
      unfold rPlus_fs at hr
      split at hr
      · rename_i a_0 a_1 b_0 b_1; cases hr; refine ⟨rfl, fun hp => ?_⟩; have hE := rPlus_E ⟨a_0, a_1⟩ ⟨b_0, b_1⟩ hp; exact hE
      · cases hr)
def rLess_E0 (a : Wide) : Prop :=
      ({ hi := notS IntKind.i64 a.hi, lo := notS IntKind.u64 a.lo : Wide }.ok ∧ { hi := (0 : Int), lo := (1 : Int) : Wide }.ok) ∧
 (((wplus { hi := notS IntKind.i64 a.hi, lo := notS IntKind.u64 a.lo : Wide } { hi := (0 : Int), lo := (1 : Int) : Wide }).hi = (W (-a.v)).hi ∧
 (wplus { hi := notS IntKind.i64 a.hi, lo := notS IntKind.u64 a.lo : Wide } { hi := (0 : Int), lo := (1 : Int) : Wide }).lo = (W (-a.v)).lo ∧ True) ∧
 True) ∧
 True
theorem rLess_q (a : Wide) : rLess_E0 a = FVcP TT rLess_g (rLess_I a) (rLess_an a) Tryz.f106 [.agg (encWide a)] [] (rLess_r a) := by kernel_rfl
theorem rLess_E (a : Wide) (hp : a.ok) : FVc TT rLess_g (rLess_I a) (rLess_an a) Tryz.f106 [.agg (encWide a)] [] (rLess_r a) := by
  refine FVc.of (rLess_E0 a) (rLess_q a) ?_
  unfold rLess_E0
  simp only [eq_self, exists_const, forall_const, decide_eq_true_eq, decide_eq_false_iff_not, and_true, true_and, bne_iff_ne, ne_eq, bne_eq_false_iff_eq, Int.toNat_natCast, Bool.not_eq_true', Bool.not_eq_false', beq_iff_eq, beq_eq_false_iff_ne]
  have h1 := not_i64 hp.1
  have h2 := not_u64 hp.2
  obtain ⟨⟨a1, a2⟩, a3, a4⟩ := hp
  simp only [h1, h2]
  simp only [wplus, W, Wide.v, Wide.ok, I64, U64]
  omega
theorem rLess_ok : SpecOk Tryz.prog rLess_n true (specOf true rLess_fs) :=
  spec_ok' TT_ok (show GsOk Tryz.prog rLess_g from gsOk_cons rPlus_ok (gsOk_nil)) (by kernel_rfl) mixedOrders Tryz.func106 rfl rfl (by kernel_rfl) (n := 1) (by decide +kernel) (I := rLess_IA) (fun _ _ => isOk_nil) (A := rLess_A)
    (fun args h r hr => by
      unfold rLess_fs at hr
      split at hr
      · rename_i a_0 a_1; cases hr; refine ⟨rfl, fun hp => ?_⟩; have hE := rLess_E ⟨a_0, a_1⟩ hp; exact hE
      · cases hr)
def rMinus_E0 (a : Wide) (b : Wide) : Prop :=
      b.ok ∧ (a.ok ∧ (W (-b.v)).ok) ∧ (((wplus a (W (-b.v))).hi = (wminus a b).hi ∧ (wplus a (W (-b.v))).lo = (wminus a b).lo ∧ True) ∧ True) ∧ True
theorem rMinus_q (a : Wide) (b : Wide) : rMinus_E0 a b = FVcP TT rMinus_g (rMinus_I a b) (rMinus_an a b) Tryz.f83 [.agg (encWide a), .agg (encWide b)] [] (rMinus_r a b) := by kernel_rfl
theorem rMinus_E (a : Wide) (b : Wide) (hp : a.ok ∧ b.ok) : FVc TT rMinus_g (rMinus_I a b) (rMinus_an a b) Tryz.f83 [.agg (encWide a), .agg (encWide b)] [] (rMinus_r a b) := by
  refine FVc.of (rMinus_E0 a b) (rMinus_q a b) ?_
  unfold rMinus_E0
  simp only [eq_self, exists_const, forall_const, decide_eq_true_eq, decide_eq_false_iff_not, and_true, true_and, bne_iff_ne, ne_eq, bne_eq_false_iff_eq, Int.toNat_natCast, Bool.not_eq_true', Bool.not_eq_false', beq_iff_eq, beq_eq_false_iff_ne]
  have e : wplus a (W (-b.v)) = wminus a b := by
    conv => lhs; rw [← W_v hp.1]
    rw [wplus_W]
    unfold wminus
    congr 1
  rw [e]
  exact ⟨hp.2, ⟨hp.1, W_ok _⟩, rfl, rfl⟩
theorem rMinus_ok : SpecOk Tryz.prog rMinus_n true (specOf true rMinus_fs) :=
  spec_ok' TT_ok (show GsOk Tryz.prog rMinus_g from gsOk_cons rPlus_ok (gsOk_cons rLess_ok (gsOk_nil))) (by kernel_rfl) mixedOrders Tryz.func83 rfl rfl (by kernel_rfl) (n := 2) (by decide +kernel) (I := rMinus_IA) (fun _ _ => isOk_nil) (A := rMinus_A)
    (fun args h r hr => by
      unfold rMinus_fs at hr
      split at hr
      · rename_i a_0 a_1 b_0 b_1; cases hr; refine ⟨rfl, fun hp => ?_⟩; have hE := rMinus_E ⟨a_0, a_1⟩ ⟨b_0, b_1⟩ hp; exact hE
      · cases hr)
def rTwice_E0 (a : Wide) : Prop :=
      (a.ok ∧ a.ok) ∧ (((wplus a a).hi = (W ((2 : Int) * a.v)).hi ∧ (wplus a a).lo = (W ((2 : Int) * a.v)).lo ∧ True) ∧ True) ∧ True
theorem rTwice_q (a : Wide) : rTwice_E0 a = FVcP TT rTwice_g (rTwice_I a) (rTwice_an a) Tryz.f84 [.agg (encWide a)] [] (rTwice_r a) := by kernel_rfl
theorem rTwice_E (a : Wide) (hp : a.ok) : FVc TT rTwice_g (rTwice_I a) (rTwice_an a) Tryz.f84 [.agg (encWide a)] [] (rTwice_r a) := by
  refine FVc.of (rTwice_E0 a) (rTwice_q a) ?_
  unfold rTwice_E0
  simp only [eq_self, exists_const, forall_const, decide_eq_true_eq, decide_eq_false_iff_not, and_true, true_and, bne_iff_ne, ne_eq, bne_eq_false_iff_eq, Int.toNat_natCast, Bool.not_eq_true', Bool.not_eq_false', beq_iff_eq, beq_eq_false_iff_ne]
  have e : wplus a a = W (2 * a.v) := by
    unfold wplus
    congr 1
    omega
  rw [e]
  exact ⟨⟨hp, hp⟩, rfl, rfl⟩
theorem rTwice_ok : SpecOk Tryz.prog rTwice_n true (specOf true rTwice_fs) :=
  spec_ok' TT_ok (show GsOk Tryz.prog rTwice_g from gsOk_cons rPlus_ok (gsOk_nil)) (by kernel_rfl) mixedOrders Tryz.func84 rfl rfl (by kernel_rfl) (n := 1) (by decide +kernel) (I := rTwice_IA) (fun _ _ => isOk_nil) (A := rTwice_A)
    (fun args h r hr => by
      unfold rTwice_fs at hr
      split at hr
      · rename_i a_0 a_1; cases hr; refine ⟨rfl, fun hp => ?_⟩; have hE := rTwice_E ⟨a_0, a_1⟩ hp; exact hE
      · cases hr)
abbrev rTimes_a0 (a : Int) (g : Nat) (g' : Nat) := ((W ((2 : Int) * (W (a * (2 : Int) ^ g)).v)).hi = (W (a * (2 : Int) ^ g')).hi ∧
 (W ((2 : Int) * (W (a * (2 : Int) ^ g)).v)).lo = (W (a * (2 : Int) ^ g')).lo ∧ True)
abbrev rTimes_a1 := ((0 : Int) = (0 : Int) ∧ (0 : Int) = (0 : Int) ∧ True)
def rTimes_E0 (a : Int) (b : Int) : Prop :=
      I64 a ∧
 ∃ (g0 : Nat),
 (g0 ≤ (64 : Nat) ∧
 (b = b ∧ (0 : Nat) = (0 : Nat) ∧ (0 : Nat) = (0 : Nat) ∧ (0 : Nat) = (0 : Nat) ∧ (0 : Int) = (↑g0 : Int) ∧ True) ∧
 ((W a).hi = (W (a * (2 : Int) ^ g0)).hi ∧ (W a).lo = (W (a * (2 : Int) ^ g0)).lo ∧ True) ∧
 ((0 : Int) = (W (a * lowB b g0)).hi ∧ (0 : Int) = (W (a * lowB b g0)).lo ∧ True) ∧ (rTimes_a1) ∧ True) ∧
 ∀ (g : Nat),
 g ≤ (64 : Nat) →
 (decide ((↑g : Int) < (64 : Int)) = true →
 (0 : Int) ≤ IntKind.u64.wrap (↑g : Int) ∧
 (2 : Int) ≠ (0 : Int) ∧
 ((((IntKind.u64.wrap b).fdiv ((2 : Int) ^ min (IntKind.u64.wrap (↑g : Int)).toNat IntKind.u64.bits)).tmod (2 : Int) == (1 : Int)) = true →
 (((↑g : Int) == (63 : Int)) = true →
 ((W (a * lowB b g)).ok ∧ (W (a * (2 : Int) ^ g)).ok) ∧
 (W (a * (2 : Int) ^ g)).ok ∧
 ∃ (g' : Nat),
 g' ≤ (64 : Nat) ∧
 (64 : Nat) - g' < (64 : Nat) - g ∧
 (b = b ∧
 (0 : Nat) = (0 : Nat) ∧ (0 : Nat) = (0 : Nat) ∧ (0 : Nat) = (0 : Nat) ∧ IntKind.i64.wrap ((↑g : Int) + (1 : Int)) = (↑g' : Int) ∧ True) ∧
 (rTimes_a0 a g g') ∧
 ((wminus (W (a * lowB b g)) (W (a * (2 : Int) ^ g))).hi = (W (a * lowB b g')).hi ∧
 (wminus (W (a * lowB b g)) (W (a * (2 : Int) ^ g))).lo = (W (a * lowB b g')).lo ∧ True) ∧
 (rTimes_a1) ∧ True) ∧
 (((↑g : Int) == (63 : Int)) = false →
 ((W (a * lowB b g)).ok ∧ (W (a * (2 : Int) ^ g)).ok) ∧
 (W (a * (2 : Int) ^ g)).ok ∧
 ∃ (g' : Nat),
 g' ≤ (64 : Nat) ∧
 (64 : Nat) - g' < (64 : Nat) - g ∧
 (b = b ∧
 (0 : Nat) = (0 : Nat) ∧ (0 : Nat) = (0 : Nat) ∧ (0 : Nat) = (0 : Nat) ∧ IntKind.i64.wrap ((↑g : Int) + (1 : Int)) = (↑g' : Int) ∧ True) ∧
 (rTimes_a0 a g g') ∧
 ((wplus (W (a * lowB b g)) (W (a * (2 : Int) ^ g))).hi = (W (a * lowB b g')).hi ∧
 (wplus (W (a * lowB b g)) (W (a * (2 : Int) ^ g))).lo = (W (a * lowB b g')).lo ∧ True) ∧
 (rTimes_a1) ∧ True)) ∧
 ((((IntKind.u64.wrap b).fdiv ((2 : Int) ^ min (IntKind.u64.wrap (↑g : Int)).toNat IntKind.u64.bits)).tmod (2 : Int) == (1 : Int)) = false →
 (W (a * (2 : Int) ^ g)).ok ∧
 ∃ (g' : Nat),
 g' ≤ (64 : Nat) ∧
 (64 : Nat) - g' < (64 : Nat) - g ∧
 (b = b ∧ (0 : Nat) = (0 : Nat) ∧ (0 : Nat) = (0 : Nat) ∧ (0 : Nat) = (0 : Nat) ∧ IntKind.i64.wrap ((↑g : Int) + (1 : Int)) = (↑g' : Int) ∧ True) ∧
 (rTimes_a0 a g g') ∧
 ((W (a * lowB b g)).hi = (W (a * lowB b g')).hi ∧ (W (a * lowB b g)).lo = (W (a * lowB b g')).lo ∧ True) ∧
 (rTimes_a1) ∧ True)) ∧
 (decide ((↑g : Int) < (64 : Int)) = false → (((W (a * lowB b g)).hi = (W (a * b)).hi ∧ (W (a * lowB b g)).lo = (W (a * b)).lo ∧ True) ∧ True) ∧ True)
theorem rTimes_q (a : Int) (b : Int) : rTimes_E0 a b = FVcP TT rTimes_g (rTimes_I a b) (rTimes_an a b) Tryz.f56 [.int .i64 a, .int .i64 b] [] (rTimes_r a b) := by kernel_rfl
theorem rTimes_E (a : Int) (b : Int) (hp : I64 a ∧ I64 b) : FVc TT rTimes_g (rTimes_I a b) (rTimes_an a b) Tryz.f56 [.int .i64 a, .int .i64 b] [] (rTimes_r a b) := by
  refine FVc.of (rTimes_E0 a b) (rTimes_q a b) ?_
  unfold rTimes_E0
  delta rTimes_a1 rTimes_a0
  simp only [eq_self, exists_const, forall_const, decide_eq_true_eq, decide_eq_false_iff_not, and_true, true_and, bne_iff_ne, ne_eq, bne_eq_false_iff_eq, Int.toNat_natCast, Bool.not_eq_true', Bool.not_eq_false', beq_iff_eq, beq_eq_false_iff_ne]
  have h2 := hp.2
  unfold I64 at h2
  have hb : IntKind.u64.bits = 64 := rfl
  have half : ∀ (P : Int), 0 < P → b % (P * 2) = b % P + P * ((b / P) % 2) := fun P hP => by
    have r0 := Int.emod_nonneg b (b := P) (by omega)
    have r1 := Int.emod_lt_of_pos b hP
    have e1 := Int.emod_add_mul_ediv b P
    have t : (b / P) % 2 = 0 ∨ (b / P) % 2 = 1 := by omega
    have e2 : b / P = 2 * (b / P / 2) + (b / P) % 2 := by omega
    generalize b / P / 2 = s at *
    generalize (b / P) % 2 = u at *
    have e3 : b = (b % P + P * u) + (P * 2) * s := by
      rw [e2] at e1
      rw [Int.mul_add, ← Int.mul_assoc] at e1
      omega
    conv => lhs; rw [e3]
    rw [Int.add_mul_emod_self_left]
    rcases t with rfl | rfl
    · exact Int.emod_eq_of_lt (by omega) (by omega)
    · exact Int.emod_eq_of_lt (by omega) (by omega)
  have bit : ∀ k : Nat, k < 64 → ((b % 18446744073709551616).fdiv (2 ^ k)).tmod 2 = (b / 2 ^ k) % 2 := fun k hk => by
    have hP : (0 : Int) < 2 ^ k := Int.pow_pos (by omega)
    have hd : (2 : Int) ^ 64 = 2 ^ k * (2 * 2 ^ (63 - k)) := by
      rw [← Int.mul_assoc, ← Int.pow_succ, ← Int.pow_add]
      congr 1; omega
    have e64 : (18446744073709551616 : Int) = 2 ^ k * (2 * 2 ^ (63 - k)) := by rw [← hd]; decide
    rw [Int.fdiv_eq_ediv_of_nonneg _ (by omega)]
    have hn : 0 ≤ b % 18446744073709551616 := by omega
    rw [tmod_pos (Int.ediv_nonneg hn (by omega))]
    have e5 : b % 18446744073709551616 = b + 2 ^ k * (2 * (2 ^ (63 - k) * -(b / 18446744073709551616))) := by
      have := Int.emod_add_mul_ediv b 18446744073709551616
      rw [e64] at this ⊢
      grind
    rw [e5, Int.add_mul_ediv_left _ _ (by omega), Int.add_mul_emod_self_left]
  have step : ∀ k : Nat, k < 63 → lowB b (k + 1) = lowB b k + 2 ^ k * ((b / 2 ^ k) % 2) := fun k hk => by
    unfold lowB
    rw [if_neg (by omega), if_neg (by omega), Int.pow_succ, half _ (Int.pow_pos (by omega))]
  have last : lowB b 64 = lowB b 63 - 2 ^ 63 * ((b / 2 ^ 63) % 2) := by
    unfold lowB
    rw [if_pos rfl, if_neg (by omega)]
    have e : (2 : Int) ^ 63 = 9223372036854775808 := by decide
    rw [e]; omega
  refine ⟨hp.1, 0, ⟨by omega, rfl, by simp, by simp [lowB, Int.emod_one, W_zero]⟩, fun k hk => ⟨fun h => ?_, fun h => ?_⟩⟩
  · have hw : IntKind.u64.wrap (k : Int) = k := wu64 (by omega) (by omega)
    have hmin : min k 64 = k := by omega
    have hs : IntKind.i64.wrap ((k : Int) + 1) = ((k + 1 : Nat) : Int) := by rw [w64 (by omega) (by omega)]; omega
    have hx : W (2 * (W (a * 2 ^ k)).v) = W (a * 2 ^ (k + 1)) := by
      obtain ⟨j, hj⟩ := v_W (a * 2 ^ k)
      refine W_congr (k := 2 * j) ?_
      rw [hj, Int.pow_succ]; grind
    simp only [hw, hs, hb, hmin, Int.toNat_natCast, wrapU64, bit k (by omega), hx, wplus_W, wminus_W]
    refine ⟨by omega, by decide, fun h1 => ⟨fun h63 => ⟨⟨W_ok _, W_ok _⟩, W_ok _, k + 1, by omega, by omega, rfl, ⟨rfl, rfl⟩, ?_⟩, fun h63 => ⟨⟨W_ok _, W_ok _⟩, W_ok _, k + 1, by omega, by omega, rfl, ⟨rfl, rfl⟩, ?_⟩⟩, fun h1 => ⟨W_ok _, k + 1, by omega, by omega, rfl, ⟨rfl, rfl⟩, ?_⟩⟩
    · have hk63 : k = 63 := by omega
      subst hk63
      rw [last, h1]
      rw [show a * lowB b 63 - a * 2 ^ 63 = a * (lowB b 63 - 2 ^ 63 * 1) by grind]
      exact ⟨rfl, rfl⟩
    · rw [step k (by omega), h1]
      rw [show a * lowB b k + a * 2 ^ k = a * (lowB b k + 2 ^ k * 1) by grind]
      exact ⟨rfl, rfl⟩
    · have h0 : (b / 2 ^ k) % 2 = 0 := by omega
      have e : lowB b (k + 1) = lowB b k := by
        by_cases hk63 : k = 63
        · subst hk63; rw [last, h0]; omega
        · rw [step k (by omega), h0]; omega
      rw [e]
      exact ⟨rfl, rfl⟩
  · have : k = 64 := by omega
    subst this
    exact ⟨rfl, rfl⟩
theorem rTimes_ok : SpecOk Tryz.prog rTimes_n true (specOf true rTimes_fs) :=
  spec_ok' TT_ok (show GsOk Tryz.prog rTimes_g from gsOk_cons rOf_ok (gsOk_cons rPlus_ok (gsOk_cons rMinus_ok (gsOk_cons rTwice_ok (gsOk_nil))))) (by kernel_rfl) mixedOrders Tryz.func56 rfl rfl (by kernel_rfl) (n := 2) (by decide +kernel) (I := rTimes_IA) (fun _ _ => isOk_nil) (A := rTimes_A)
    (fun args h r hr => by
      unfold rTimes_fs at hr
      split at hr
      · rename_i a b; cases hr; refine ⟨rfl, fun hp => ?_⟩; have hE := rTimes_E a b hp; exact hE
      · cases hr)
def rCompare_E0 (a : Wide) (b : Wide) : Prop :=
      ((a.hi != b.hi) = true → (decide (a.hi < b.hi) = true → ((-1 : Int) = wcmp a b ∧ True) ∧ True) ∧ (decide (a.hi < b.hi) = false → ((1 : Int) = wcmp a b ∧ True) ∧ True)) ∧
 ((a.hi != b.hi) = false →
 ((a.lo != b.lo) = true → (decide (a.lo < b.lo) = true → ((-1 : Int) = wcmp a b ∧ True) ∧ True) ∧ (decide (a.lo < b.lo) = false → ((1 : Int) = wcmp a b ∧ True) ∧ True)) ∧
 ((a.lo != b.lo) = false → ((0 : Int) = wcmp a b ∧ True) ∧ True))
theorem rCompare_q (a : Wide) (b : Wide) : rCompare_E0 a b = FVcP TT rCompare_g (rCompare_I a b) (rCompare_an a b) Tryz.f60 [.agg (encWide a), .agg (encWide b)] [] (rCompare_r a b) := by kernel_rfl
theorem rCompare_E (a : Wide) (b : Wide) (hp : a.ok ∧ b.ok) : FVc TT rCompare_g (rCompare_I a b) (rCompare_an a b) Tryz.f60 [.agg (encWide a), .agg (encWide b)] [] (rCompare_r a b) := by
  refine FVc.of (rCompare_E0 a b) (rCompare_q a b) ?_
  unfold rCompare_E0
  simp only [eq_self, exists_const, forall_const, decide_eq_true_eq, decide_eq_false_iff_not, and_true, true_and, bne_iff_ne, ne_eq, bne_eq_false_iff_eq, Int.toNat_natCast, Bool.not_eq_true', Bool.not_eq_false', beq_iff_eq, beq_eq_false_iff_ne]
  obtain ⟨⟨⟨a1, a2⟩, a3, a4⟩, ⟨b1, b2⟩, b3, b4⟩ := hp
  unfold wcmp Wide.v
  refine ⟨fun h => ⟨fun h2 => ?_, fun h2 => ?_⟩, fun h => ⟨fun h2 => ⟨fun h3 => ?_, fun h3 => ?_⟩, fun h2 => ?_⟩⟩ <;> (repeat' split) <;> omega
theorem rCompare_ok : SpecOk Tryz.prog rCompare_n true (specOf true rCompare_fs) :=
  spec_ok' TT_ok (show GsOk Tryz.prog rCompare_g from gsOk_nil) (by kernel_rfl) mixedOrders Tryz.func60 rfl rfl (by kernel_rfl) (n := 2) (by decide +kernel) (I := rCompare_IA) (fun _ _ => isOk_nil) (A := rCompare_A)
    (fun args h r hr => by
      unfold rCompare_fs at hr
      split at hr
      · rename_i a_0 a_1 b_0 b_1; cases hr; refine ⟨rfl, fun hp => ?_⟩; have hE := rCompare_E ⟨a_0, a_1⟩ ⟨b_0, b_1⟩ hp; exact hE
      · cases hr)
end Go.Proofs.YtahbkllfifmdfaaGreat
