/- Part of the proof: FN1, DRf, FRf, DB9, FB9, Price. -/
import Derived.Test.YtggblkbecekbdaaZG6
import Derived.Test.YtggblkbecekbdaaZG5
import Derived.Laws.Externs
set_option linter.unusedVariables false
set_option linter.all false
set_option linter.unusedSimpArgs false
set_option maxRecDepth 1000000
section
namespace Go.Proofs.Ytggblkbecekbdaa
open Go Go.RowKit Go.Ql Go.Vc
theorem Add64_ok : SpecOk Try.prog Add64_n true zeh := by
 refine .ext fun ρ hp nk w args K hh h => ?_
 unfold zeh at h
 split at h
 ·obtain ⟨⟨h1, h2, h3, h4⟩, hk⟩ := h
  refine ⟨_, ?_, hk⟩
  simp only [z0p, SV.toV]
  rw [run_callFunc_extern Try.func43 (by kernel_rfl) (by kernel_rfl) (by kernel_rfl) (e := add64Entry) (by kernel_rfl), run_add64 _ _ _ h1 h2 h3 h4]
  simp only [Result.andThen]
 ·exact h.elim
theorem run_sub64 {P : Program} (x y b : Nat) (hb : b <= 1) (w : World) :
  ((Extern.MathBitsCarry.rows[1]).2 #[.int .u64 x, .int .u64 y, .int .u64 b]).run P w =
   .ok (.tuple #[.int .u64 (((x + 18446744073709551616 - y - b) % 18446744073709551616 : Nat) : Int), .int .u64 ((if x < y + b then 1 else 0 : Nat) : Int)]) w := by
 have : b = 0 ∨ b = 1 := by omega
 rcases this with rfl | rfl <;> rfl
theorem Sub64_ok : SpecOk Try.prog Sub64_n true zel := by
 refine .ext fun ρ hp nk w args K hh h => ?_
 unfold zel at h
 split at h
 ·rename_i x y c
  obtain ⟨⟨h1, h2, h3, h4, h5⟩, hk⟩ := h
  obtain ⟨X, rfl⟩ := Int.eq_ofNat_of_zero_le h1
  obtain ⟨Y, rfl⟩ := Int.eq_ofNat_of_zero_le h2
  obtain ⟨B, rfl⟩ := Int.eq_ofNat_of_zero_le h4
  refine ⟨_, ?_, hk⟩
  simp only [z0p, SV.toV]
  rw [run_callFunc_extern Try.func76 (by kernel_rfl) (by kernel_rfl) (by kernel_rfl) (e := (Extern.MathBitsCarry.rows[1]).2) (by kernel_rfl), run_sub64 X Y B (by omega)]
  simp only [Result.andThen]
  have e1 : (((X + 18446744073709551616 - Y - B) % 18446744073709551616 : Nat) : Int) = ((X : Int) - Y - B) % 18446744073709551616 := by omega
  have e2 : ((if X < Y + B then 1 else 0 : Nat) : Int) = if (X : Int) < Y + B then 1 else 0 := by split <;> split <;> omega
  rw [e1, e2]
 ·exact h.elim
def Mul64_E0 (x : Int) (y : Int) : Prop :=
      (0 : Int) <= (32 : Int) /\
 (0 : Int) <= (32 : Int) /\
 (0 : Int) <= (32 : Int) /\
 (0 : Int) <= (32 : Int) /\
 (0 : Int) <= (32 : Int) /\
 ((IntKind.u64.wrap
 (IntKind.u64.wrap
 (IntKind.u64.wrap (x.fdiv ((2 : Int) ^ min (Int.toNat (32 : Int)) IntKind.u64.bits) * y.fdiv ((2 : Int) ^ min (Int.toNat (32 : Int)) IntKind.u64.bits)) +
 (IntKind.u64.wrap
 (IntKind.u64.wrap (x.fdiv ((2 : Int) ^ min (Int.toNat (32 : Int)) IntKind.u64.bits) * andS IntKind.u64 y (4294967295 : Int)) +
 (IntKind.u64.wrap (andS IntKind.u64 x (4294967295 : Int) * andS IntKind.u64 y (4294967295 : Int))).fdiv
 ((2 : Int) ^ min (Int.toNat (32 : Int)) IntKind.u64.bits))).fdiv
 ((2 : Int) ^ min (Int.toNat (32 : Int)) IntKind.u64.bits)) +
 (IntKind.u64.wrap
 (andS IntKind.u64
 (IntKind.u64.wrap
 (IntKind.u64.wrap (x.fdiv ((2 : Int) ^ min (Int.toNat (32 : Int)) IntKind.u64.bits) * andS IntKind.u64 y (4294967295 : Int)) +
 (IntKind.u64.wrap (andS IntKind.u64 x (4294967295 : Int) * andS IntKind.u64 y (4294967295 : Int))).fdiv
 ((2 : Int) ^ min (Int.toNat (32 : Int)) IntKind.u64.bits)))
 (4294967295 : Int) +
 IntKind.u64.wrap (andS IntKind.u64 x (4294967295 : Int) * y.fdiv ((2 : Int) ^ min (Int.toNat (32 : Int)) IntKind.u64.bits)))).fdiv
 ((2 : Int) ^ min (Int.toNat (32 : Int)) IntKind.u64.bits)) =
 x * y / (18446744073709551616 : Int) /\
 IntKind.u64.wrap (x * y) = x * y % (18446744073709551616 : Int) /\ True) /\
 True) /\
 True
theorem Mul64_q (x : Int) (y : Int) : Mul64_E0 x y = z48 TT Mul64_g (Mul64_I x y) (Mul64_an x y) Try.f44 [.int .u64 x, .int .u64 y] [] (Mul64_r x y) := by kernel_rfl
theorem Mul64_E (x : Int) (y : Int) (hp : U64 x /\ U64 y) : FVc TT Mul64_g (Mul64_I x y) (Mul64_an x y) Try.f44 [.int .u64 x, .int .u64 y] [] (Mul64_r x y) := by
 refine FVc.of (Mul64_E0 x y) (Mul64_q x y) ?_
 unfold Mul64_E0
 simp only [eq_self, exists_const, forall_const, decide_eq_true_eq, decide_eq_false_iff_not, and_true, true_and, bne_iff_ne, ne_eq, bne_eq_false_iff_eq, Int.toNat_natCast, Bool.not_eq_true', Bool.not_eq_false', beq_iff_eq, beq_eq_false_iff_ne]
 obtain ⟨⟨x1, x2⟩, y1, y2⟩ := hp
 have e : (2 : Int) ^ min (Int.toNat 32) IntKind.u64.bits = 4294967296 := by decide
 rw [e]
 simp only [Int.fdiv_eq_ediv_of_nonneg _ (show (0 : Int) <= 4294967296 by decide), and_low x1 x2, and_low y1 y2]
 refine ⟨by omega, by omega, by omega, by omega, by omega, ?_, z8u _⟩
 obtain ⟨a, ha⟩ : ∃ a, a = x / 4294967296 := ⟨_, rfl⟩
 obtain ⟨b, hb⟩ : ∃ b, b = x % 4294967296 := ⟨_, rfl⟩
 obtain ⟨c, hc⟩ : ∃ c, c = y / 4294967296 := ⟨_, rfl⟩
 obtain ⟨d, hd⟩ : ∃ d, d = y % 4294967296 := ⟨_, rfl⟩
 rw [<- ha, <- hb, <- hc, <- hd]
 have hx : x = a * 4294967296 + b := by omega
 have hy : y = c * 4294967296 + d := by omega
 have hxy : x * y = a * c * 18446744073709551616 + (a * d + b * c) * 4294967296 + b * d := by
  rw [hx, hy]
  grind
 have bd : ∀ p q : Int, 0 <= p -> p <= 4294967295 -> 0 <= q -> q <= 4294967295 -> 0 <= p * q /\ p * q <= 18446744065119617025 := fun p q h1 h2 h3 h4 => by
  have := zjr (a := p) (b := q) (A := 4294967295) (B := 4294967295) (by omega) (by omega) (by omega) (by omega) (by omega) (by omega)
  exact ⟨Int.mul_nonneg h1 h3, by omega⟩
 have q1 := bd a c (by omega) (by omega) (by omega) (by omega)
 have q2 := bd a d (by omega) (by omega) (by omega) (by omega)
 have q3 := bd b c (by omega) (by omega) (by omega) (by omega)
 have q4 := bd b d (by omega) (by omega) (by omega) (by omega)
 rw [hxy]
 generalize a * c = ac at *
 generalize a * d = ad at *
 generalize b * c = bc at *
 generalize b * d = bdd at *
 rw [wu64 q4.1 (by omega), wu64 q2.1 (by omega), wu64 (x := ad + bdd / 4294967296) (by omega) (by omega), wu64 q1.1 (by omega), wu64 q3.1 (by omega), and_low (by omega) (by omega)]
 rw [wu64 (x := (ad + bdd / 4294967296) % 4294967296 + bc) (by omega) (by omega)]
 rw [wu64 (x := ac + (ad + bdd / 4294967296) / 4294967296) (by omega) (by omega)]
 rw [wu64 (by omega) (by omega)]
 omega
theorem Mul64_ok : SpecOk Try.prog Mul64_n true (z05 true Mul64_fs) :=
 z0b z0w (show z1s Try.prog Mul64_g from z06) (by kernel_rfl) mixedOrders Try.func44 rfl rfl (by kernel_rfl) (n := 2) (by decide +kernel) (I := Mul64_IA) (fun _ _ => z07) (A := Mul64_A)
  (fun args h r hr => by
   unfold Mul64_fs at hr
   split at hr
   ·rename_i x y; cases hr; refine ⟨rfl, fun hp => ?_⟩; have hE := Mul64_E x y hp; exact hE
   ·cases hr)
def size_E0 (n : Int) : Prop :=
      (decide (n < (0 : Int)) = true -> ((IntKind.u64.wrap ((0 : Int) - IntKind.u64.wrap n) = if n < (0 : Int) then -n else n) /\ True) /\ True) /\
 (decide (n < (0 : Int)) = false -> ((IntKind.u64.wrap n = if n < (0 : Int) then -n else n) /\ True) /\ True)
theorem size_q (n : Int) : size_E0 n = z48 TT size_g (size_I n) (size_an n) Try.f45 [.int .i64 n] [] (size_r n) := by kernel_rfl
theorem size_E (n : Int) (hp : I64 n) : FVc TT size_g (size_I n) (size_an n) Try.f45 [.int .i64 n] [] (size_r n) := by
 refine FVc.of (size_E0 n) (size_q n) ?_
 unfold size_E0
 simp only [eq_self, exists_const, forall_const, decide_eq_true_eq, decide_eq_false_iff_not, and_true, true_and, bne_iff_ne, ne_eq, bne_eq_false_iff_eq, Int.toNat_natCast, Bool.not_eq_true', Bool.not_eq_false', beq_iff_eq, beq_eq_false_iff_ne]
 unfold I64 at hp
 simp only [z8u]
 refine ⟨fun h => ?_, fun h => ?_⟩
 ·rw [if_pos h]; omega
 ·rw [if_neg h]; omega
theorem size_ok : SpecOk Try.prog size_n true (z05 true size_fs) :=
 z0b z0w (show z1s Try.prog size_g from z06) (by kernel_rfl) mixedOrders Try.func45 rfl rfl (by kernel_rfl) (n := 1) (by decide +kernel) (I := size_IA) (fun _ _ => z07) (A := size_A)
  (fun args h r hr => by
   unfold size_fs at hr
   split at hr
   ·rename_i n; cases hr; refine ⟨rfl, fun hp => ?_⟩; have hE := size_E n hp; exact hE
   ·cases hr)
def Of_E0 (n : Int) : Prop :=
   (0 : Int) <= (63 : Int) /\ ((n.fdiv ((2 : Int) ^ min (Int.toNat (63 : Int)) IntKind.i64.bits) = (W n).hi /\ IntKind.u64.wrap n = (W n).lo /\ True) /\ True) /\ True
theorem Of_q (n : Int) : Of_E0 n = z48 TT Of_g (Of_I n) (Of_an n) Try.f26 [.int .i64 n] [] (Of_r n) := by kernel_rfl
theorem Of_E (n : Int) (hp : I64 n) : FVc TT Of_g (Of_I n) (Of_an n) Try.f26 [.int .i64 n] [] (Of_r n) := by
 refine FVc.of (Of_E0 n) (Of_q n) ?_
 unfold Of_E0
 simp only [eq_self, exists_const, forall_const, decide_eq_true_eq, decide_eq_false_iff_not, and_true, true_and, bne_iff_ne, ne_eq, bne_eq_false_iff_eq, Int.toNat_natCast, Bool.not_eq_true', Bool.not_eq_false', beq_iff_eq, beq_eq_false_iff_ne]
 unfold I64 at hp
 have e : (2 : Int) ^ min (Int.toNat 63) IntKind.i64.bits = 9223372036854775808 := by decide
 rw [e, Int.fdiv_eq_ediv_of_nonneg _ (show (0 : Int) <= 9223372036854775808 by decide)]
 simp only [z8u, W, and_true]
 omega
theorem Of_ok : SpecOk Try.prog Of_n true (z05 true Of_fs) :=
 z0b z0w (show z1s Try.prog Of_g from z06) (by kernel_rfl) mixedOrders Try.func26 rfl rfl (by kernel_rfl) (n := 1) (by decide +kernel) (I := Of_IA) (fun _ _ => z07) (A := Of_A)
  (fun args h r hr => by
   unfold Of_fs at hr
   split at hr
   ·rename_i n; cases hr; refine ⟨rfl, fun hp => ?_⟩; have hE := Of_E n hp; exact hE
   ·cases hr)
def Plus_E0 (a : Wide) (b : Wide) : Prop :=
      ((0 : Int) <= a.lo /\ (0 : Int) <= b.lo /\ (0 : Int) <= (0 : Int) /\ (0 : Int) <= (1 : Int)) /\
 ((0 : Int) <= IntKind.u64.wrap a.hi /\
 (0 : Int) <= IntKind.u64.wrap b.hi /\
 (0 : Int) <= (a.lo + b.lo + (0 : Int)) / (18446744073709551616 : Int) /\ (a.lo + b.lo + (0 : Int)) / (18446744073709551616 : Int) <= (1 : Int)) /\
 ((IntKind.i64.wrap ((IntKind.u64.wrap a.hi + IntKind.u64.wrap b.hi + (a.lo + b.lo + (0 : Int)) / (18446744073709551616 : Int)) % (18446744073709551616 : Int)) =
 (z53 a b).hi /\
 (a.lo + b.lo + (0 : Int)) % (18446744073709551616 : Int) = (z53 a b).lo /\ True) /\
 True) /\
 True
theorem Plus_q (a : Wide) (b : Wide) : Plus_E0 a b = z48 TT Plus_g (Plus_I a b) (Plus_an a b) Try.f25 [.agg (z0y a), .agg (z0y b)] [] (Plus_r a b) := by kernel_rfl
theorem Plus_E (a : Wide) (b : Wide) (hp : a.ok /\ b.ok) : FVc TT Plus_g (Plus_I a b) (Plus_an a b) Try.f25 [.agg (z0y a), .agg (z0y b)] [] (Plus_r a b) := by
 refine FVc.of (Plus_E0 a b) (Plus_q a b) ?_
 unfold Plus_E0
 simp only [eq_self, exists_const, forall_const, decide_eq_true_eq, decide_eq_false_iff_not, and_true, true_and, bne_iff_ne, ne_eq, bne_eq_false_iff_eq, Int.toNat_natCast, Bool.not_eq_true', Bool.not_eq_false', beq_iff_eq, beq_eq_false_iff_ne]
 obtain ⟨⟨⟨a1, a2⟩, a3, a4⟩, ⟨b1, b2⟩, b3, b4⟩ := hp
 simp only [z8u, zga, z53, W, Wide.v]
 omega
theorem Plus_ok : SpecOk Try.prog Plus_n true (z05 true Plus_fs) :=
 z0b z0w (show z1s Try.prog Plus_g from z01 Add64_ok (z06)) (by kernel_rfl) mixedOrders Try.func25 rfl rfl (by kernel_rfl) (n := 2) (by decide +kernel) (I := Plus_IA) (fun _ _ => z07) (A := Plus_A)
  (fun args h r hr => by
   unfold Plus_fs at hr
   split at hr
   ·rename_i a_0 a_1 b_0 b_1; cases hr; refine ⟨rfl, fun hp => ?_⟩; have hE := Plus_E ⟨a_0, a_1⟩ ⟨b_0, b_1⟩ hp; exact hE
   ·cases hr)
def Minus_E0 (a : Wide) (b : Wide) : Prop :=
      ((0 : Int) <= a.lo /\ (0 : Int) <= b.lo /\ b.lo <= (18446744073709551615 : Int) /\ (0 : Int) <= (0 : Int) /\ (0 : Int) <= (1 : Int)) /\
 ((0 : Int) <= IntKind.u64.wrap a.hi /\
 (0 : Int) <= IntKind.u64.wrap b.hi /\
 IntKind.u64.wrap b.hi <= (18446744073709551615 : Int) /\
 ((0 : Int) <= if a.lo < b.lo + (0 : Int) then (1 : Int) else (0 : Int)) /\ (if a.lo < b.lo + (0 : Int) then (1 : Int) else (0 : Int)) <= (1 : Int)) /\
 ((IntKind.i64.wrap ((IntKind.u64.wrap a.hi - IntKind.u64.wrap b.hi - if a.lo < b.lo + (0 : Int) then (1 : Int) else (0 : Int)) % (18446744073709551616 : Int)) =
 (z52 a b).hi /\
 (a.lo - b.lo - (0 : Int)) % (18446744073709551616 : Int) = (z52 a b).lo /\ True) /\
 True) /\
 True
theorem Minus_q (a : Wide) (b : Wide) : Minus_E0 a b = z48 TT Minus_g (Minus_I a b) (Minus_an a b) Try.f46 [.agg (z0y a), .agg (z0y b)] [] (Minus_r a b) := by kernel_rfl
theorem Minus_E (a : Wide) (b : Wide) (hp : a.ok /\ b.ok) : FVc TT Minus_g (Minus_I a b) (Minus_an a b) Try.f46 [.agg (z0y a), .agg (z0y b)] [] (Minus_r a b) := by
 refine FVc.of (Minus_E0 a b) (Minus_q a b) ?_
 unfold Minus_E0
 simp only [eq_self, exists_const, forall_const, decide_eq_true_eq, decide_eq_false_iff_not, and_true, true_and, bne_iff_ne, ne_eq, bne_eq_false_iff_eq, Int.toNat_natCast, Bool.not_eq_true', Bool.not_eq_false', beq_iff_eq, beq_eq_false_iff_ne]
 obtain ⟨⟨⟨a1, a2⟩, a3, a4⟩, ⟨b1, b2⟩, b3, b4⟩ := hp
 simp only [z8u, zga, z52, W, Wide.v]
 split <;> omega
theorem Minus_ok : SpecOk Try.prog Minus_n true (z05 true Minus_fs) :=
 z0b z0w (show z1s Try.prog Minus_g from z01 Sub64_ok (z06)) (by kernel_rfl) mixedOrders Try.func46 rfl rfl (by kernel_rfl) (n := 2) (by decide +kernel) (I := Minus_IA) (fun _ _ => z07) (A := Minus_A)
  (fun args h r hr => by
   unfold Minus_fs at hr
   split at hr
   ·rename_i a_0 a_1 b_0 b_1; cases hr; refine ⟨rfl, fun hp => ?_⟩; have hE := Minus_E ⟨a_0, a_1⟩ ⟨b_0, b_1⟩ hp; exact hE
   ·cases hr)
def Times_E0 (a : Int) (b : Int) : Prop :=
      I64 a /\
 I64 b /\
 (U64 (if a < (0 : Int) then -a else a) /\ U64 (if b < (0 : Int) then -b else b)) /\
 ((!decide (a < (0 : Int)) == decide (b < (0 : Int))) = true ->
 ({ hi := (0 : Int), lo := (0 : Int) : Wide }.ok /\
 { hi := IntKind.i64.wrap (((if a < (0 : Int) then -a else a) * if b < (0 : Int) then -b else b) / (18446744073709551616 : Int)), lo := ((if a < (0 : Int) then -a else a) * if b < (0 : Int) then -b else b) % (18446744073709551616 : Int) : Wide }.ok) /\
 (((z52 { hi := (0 : Int), lo := (0 : Int) : Wide }
 { hi := IntKind.i64.wrap (((if a < (0 : Int) then -a else a) * if b < (0 : Int) then -b else b) / (18446744073709551616 : Int)), lo := ((if a < (0 : Int) then -a else a) * if b < (0 : Int) then -b else b) % (18446744073709551616 : Int) : Wide }).hi =
 (W (a * b)).hi /\
 (z52 { hi := (0 : Int), lo := (0 : Int) : Wide }
 { hi := IntKind.i64.wrap (((if a < (0 : Int) then -a else a) * if b < (0 : Int) then -b else b) / (18446744073709551616 : Int)), lo := ((if a < (0 : Int) then -a else a) * if b < (0 : Int) then -b else b) % (18446744073709551616 : Int) : Wide }).lo =
 (W (a * b)).lo /\
 True) /\
 True) /\
 True) /\
 ((!decide (a < (0 : Int)) == decide (b < (0 : Int))) = false ->
 ((IntKind.i64.wrap (((if a < (0 : Int) then -a else a) * if b < (0 : Int) then -b else b) / (18446744073709551616 : Int)) = (W (a * b)).hi /\
 ((if a < (0 : Int) then -a else a) * if b < (0 : Int) then -b else b) % (18446744073709551616 : Int) = (W (a * b)).lo /\ True) /\
 True) /\
 True)
theorem Times_q (a : Int) (b : Int) : Times_E0 a b = z48 TT Times_g (Times_I a b) (Times_an a b) Try.f27 [.int .i64 a, .int .i64 b] [] (Times_r a b) := by kernel_rfl
theorem Times_E (a : Int) (b : Int) (hp : I64 a /\ I64 b) : FVc TT Times_g (Times_I a b) (Times_an a b) Try.f27 [.int .i64 a, .int .i64 b] [] (Times_r a b) := by
 refine FVc.of (Times_E0 a b) (Times_q a b) ?_
 unfold Times_E0
 simp only [eq_self, exists_const, forall_const, decide_eq_true_eq, decide_eq_false_iff_not, and_true, true_and, bne_iff_ne, ne_eq, bne_eq_false_iff_eq, Int.toNat_natCast, Bool.not_eq_true', Bool.not_eq_false', beq_iff_eq, beq_eq_false_iff_ne]
 have h1 := hp.1
 have h2 := hp.2
 unfold I64 at h1 h2
 have ua : U64 (if a < 0 then -a else a) := by unfold U64; split <;> omega
 have ub : U64 (if b < 0 then -b else b) := by unfold U64; split <;> omega
 have hm : (if a < 0 then -a else a) * (if b < 0 then -b else b) = if decide (a < 0) = decide (b < 0) then a * b else -(a * b) := by
  by_cases c1 : a < 0 <;> by_cases c2 : b < 0 <;> simp [c1, c2, Int.neg_mul, Int.mul_neg]
 have hb := zjr (a := a) (b := b) (A := 9223372036854775808) (B := 9223372036854775808) (by omega) (by omega) (by omega) (by omega) (by omega) (by omega)
 rw [hm]
 refine ⟨hp.1, hp.2, ⟨ua, ub⟩, fun h => ?_, fun h => ?_⟩
 ·rw [if_neg h]
  have h0 : 0 <= -(a * b) := by
   have := Int.mul_nonneg ua.1 ub.1
   rw [hm, if_neg h] at this; exact this
  generalize a * b = p at *
  have e : (⟨IntKind.i64.wrap (-p / 18446744073709551616), -p % 18446744073709551616⟩ : Wide) = W (-p) := by
   unfold W; rw [zga]
  have e0 : (⟨0, 0⟩ : Wide) = W 0 := W_zero.symm
  rw [e, e0, wminus_W]
  refine ⟨⟨W_ok _, W_ok _⟩, ?_⟩
  rw [show (0 : Int) - -p = p by omega]
  exact ⟨rfl, rfl⟩
 ·rw [if_pos h, zga]
  exact ⟨rfl, rfl⟩
theorem Times_ok : SpecOk Try.prog Times_n true (z05 true Times_fs) :=
 z0b z0w (show z1s Try.prog Times_g from z01 size_ok (z01 Mul64_ok (z01 Minus_ok (z06)))) (by kernel_rfl) mixedOrders Try.func27 rfl rfl (by kernel_rfl) (n := 2) (by decide +kernel) (I := Times_IA) (fun _ _ => z07) (A := Times_A)
  (fun args h r hr => by
   unfold Times_fs at hr
   split at hr
   ·rename_i a b; cases hr; refine ⟨rfl, fun hp => ?_⟩; have hE := Times_E a b hp; exact hE
   ·cases hr)
def rOf_E0 (n : Int) : Prop :=
      (decide (n < (0 : Int)) = true -> (((-1 : Int) = (W n).hi /\ IntKind.u64.wrap n = (W n).lo /\ True) /\ True) /\ True) /\
 (decide (n < (0 : Int)) = false -> (((0 : Int) = (W n).hi /\ IntKind.u64.wrap n = (W n).lo /\ True) /\ True) /\ True)
theorem rOf_q (n : Int) : rOf_E0 n = z48 TT rOf_g (rOf_I n) (rOf_an n) Try.f114 [.int .i64 n] [] (rOf_r n) := by kernel_rfl
theorem rOf_E (n : Int) (hp : I64 n) : FVc TT rOf_g (rOf_I n) (rOf_an n) Try.f114 [.int .i64 n] [] (rOf_r n) := by
 refine FVc.of (rOf_E0 n) (rOf_q n) ?_
 unfold rOf_E0
 simp only [eq_self, exists_const, forall_const, decide_eq_true_eq, decide_eq_false_iff_not, and_true, true_and, bne_iff_ne, ne_eq, bne_eq_false_iff_eq, Int.toNat_natCast, Bool.not_eq_true', Bool.not_eq_false', beq_iff_eq, beq_eq_false_iff_ne]
 unfold I64 at hp
 simp only [z8u, W, and_true]
 omega
theorem rOf_ok : SpecOk Try.prog rOf_n true (z05 true rOf_fs) :=
 z0b z0w (show z1s Try.prog rOf_g from z06) (by kernel_rfl) mixedOrders Try.func114 rfl rfl (by kernel_rfl) (n := 1) (by decide +kernel) (I := rOf_IA) (fun _ _ => z07) (A := rOf_A)
  (fun args h r hr => by
   unfold rOf_fs at hr
   split at hr
   ·rename_i n; cases hr; refine ⟨rfl, fun hp => ?_⟩; have hE := rOf_E n hp; exact hE
   ·cases hr)
def rPlus_E0 (a : Wide) (b : Wide) : Prop :=
      (decide (IntKind.u64.wrap (a.lo + b.lo) < a.lo) = true ->
 ((IntKind.i64.wrap (IntKind.i64.wrap (a.hi + b.hi) + (1 : Int)) = (z53 a b).hi /\ IntKind.u64.wrap (a.lo + b.lo) = (z53 a b).lo /\ True) /\ True) /\ True) /\
 (decide (IntKind.u64.wrap (a.lo + b.lo) < a.lo) = false ->
 ((IntKind.i64.wrap (a.hi + b.hi) = (z53 a b).hi /\ IntKind.u64.wrap (a.lo + b.lo) = (z53 a b).lo /\ True) /\ True) /\ True)
theorem rPlus_q (a : Wide) (b : Wide) : rPlus_E0 a b = z48 TT rPlus_g (rPlus_I a b) (rPlus_an a b) Try.f137 [.agg (z0y a), .agg (z0y b)] [] (rPlus_r a b) := by kernel_rfl
theorem rPlus_E (a : Wide) (b : Wide) (hp : a.ok /\ b.ok) : FVc TT rPlus_g (rPlus_I a b) (rPlus_an a b) Try.f137 [.agg (z0y a), .agg (z0y b)] [] (rPlus_r a b) := by
 refine FVc.of (rPlus_E0 a b) (rPlus_q a b) ?_
 unfold rPlus_E0
 simp only [eq_self, exists_const, forall_const, decide_eq_true_eq, decide_eq_false_iff_not, and_true, true_and, bne_iff_ne, ne_eq, bne_eq_false_iff_eq, Int.toNat_natCast, Bool.not_eq_true', Bool.not_eq_false', beq_iff_eq, beq_eq_false_iff_ne]
 obtain ⟨⟨⟨a1, a2⟩, a3, a4⟩, ⟨b1, b2⟩, b3, b4⟩ := hp
 simp only [z8u, zga, z53, W, Wide.v]
 omega
theorem zhi : SpecOk Try.prog zkn true (z05 true zat) :=
 z0b z0w (show z1s Try.prog rPlus_g from z06) (by kernel_rfl) mixedOrders Try.func137 rfl rfl (by kernel_rfl) (n := 2) (by decide +kernel) (I := rPlus_IA) (fun _ _ => z07) (A := rPlus_A)
  (fun args h r hr => by
   unfold zat at hr
   split at hr
   ·rename_i a_0 a_1 b_0 b_1; cases hr; refine ⟨rfl, fun hp => ?_⟩; have hE := rPlus_E ⟨a_0, a_1⟩ ⟨b_0, b_1⟩ hp; exact hE
   ·cases hr)
def rLess_E0 (a : Wide) : Prop :=
      ({ hi := notS IntKind.i64 a.hi, lo := notS IntKind.u64 a.lo : Wide }.ok /\ { hi := (0 : Int), lo := (1 : Int) : Wide }.ok) /\
 (((z53 { hi := notS IntKind.i64 a.hi, lo := notS IntKind.u64 a.lo : Wide } { hi := (0 : Int), lo := (1 : Int) : Wide }).hi = (W (-a.v)).hi /\
 (z53 { hi := notS IntKind.i64 a.hi, lo := notS IntKind.u64 a.lo : Wide } { hi := (0 : Int), lo := (1 : Int) : Wide }).lo = (W (-a.v)).lo /\ True) /\
 True) /\
 True
theorem rLess_q (a : Wide) : rLess_E0 a = z48 TT rLess_g (rLess_I a) (rLess_an a) Try.f145 [.agg (z0y a)] [] (rLess_r a) := by kernel_rfl
theorem rLess_E (a : Wide) (hp : a.ok) : FVc TT rLess_g (rLess_I a) (rLess_an a) Try.f145 [.agg (z0y a)] [] (rLess_r a) := by
 refine FVc.of (rLess_E0 a) (rLess_q a) ?_
 unfold rLess_E0
 simp only [eq_self, exists_const, forall_const, decide_eq_true_eq, decide_eq_false_iff_not, and_true, true_and, bne_iff_ne, ne_eq, bne_eq_false_iff_eq, Int.toNat_natCast, Bool.not_eq_true', Bool.not_eq_false', beq_iff_eq, beq_eq_false_iff_ne]
 have h1 := not_i64 hp.1
 have h2 := not_u64 hp.2
 obtain ⟨⟨a1, a2⟩, a3, a4⟩ := hp
 simp only [h1, h2]
 simp only [z53, W, Wide.v, Wide.ok, I64, U64]
 omega
theorem rLess_ok : SpecOk Try.prog rLess_n true (z05 true rLess_fs) :=
 z0b z0w (show z1s Try.prog rLess_g from z01 zhi (z06)) (by kernel_rfl) mixedOrders Try.func145 rfl rfl (by kernel_rfl) (n := 1) (by decide +kernel) (I := rLess_IA) (fun _ _ => z07) (A := rLess_A)
  (fun args h r hr => by
   unfold rLess_fs at hr
   split at hr
   ·rename_i a_0 a_1; cases hr; refine ⟨rfl, fun hp => ?_⟩; have hE := rLess_E ⟨a_0, a_1⟩ hp; exact hE
   ·cases hr)
def zkk (a : Wide) (b : Wide) : Prop :=
   b.ok /\ (a.ok /\ (W (-b.v)).ok) /\ (((z53 a (W (-b.v))).hi = (z52 a b).hi /\ (z53 a (W (-b.v))).lo = (z52 a b).lo /\ True) /\ True) /\ True
theorem rMinus_q (a : Wide) (b : Wide) : zkk a b = z48 TT rMinus_g (rMinus_I a b) (rMinus_an a b) Try.f135 [.agg (z0y a), .agg (z0y b)] [] (rMinus_r a b) := by kernel_rfl
theorem rMinus_E (a : Wide) (b : Wide) (hp : a.ok /\ b.ok) : FVc TT rMinus_g (rMinus_I a b) (rMinus_an a b) Try.f135 [.agg (z0y a), .agg (z0y b)] [] (rMinus_r a b) := by
 refine FVc.of (zkk a b) (rMinus_q a b) ?_
 unfold zkk
 simp only [eq_self, exists_const, forall_const, decide_eq_true_eq, decide_eq_false_iff_not, and_true, true_and, bne_iff_ne, ne_eq, bne_eq_false_iff_eq, Int.toNat_natCast, Bool.not_eq_true', Bool.not_eq_false', beq_iff_eq, beq_eq_false_iff_ne]
 have e : z53 a (W (-b.v)) = z52 a b := by
  conv => lhs; rw [<- W_v hp.1]
  rw [zm9]
  unfold z52
  congr 1
 rw [e]
 exact ⟨hp.2, ⟨hp.1, W_ok _⟩, rfl, rfl⟩
theorem rMinus_ok : SpecOk Try.prog rMinus_n true (z05 true zdf) :=
 z0b z0w (show z1s Try.prog rMinus_g from z01 zhi (z01 rLess_ok (z06))) (by kernel_rfl) mixedOrders Try.func135 rfl rfl (by kernel_rfl) (n := 2) (by decide +kernel) (I := rMinus_IA) (fun _ _ => z07) (A := rMinus_A)
  (fun args h r hr => by
   unfold zdf at hr
   split at hr
   ·rename_i a_0 a_1 b_0 b_1; cases hr; refine ⟨rfl, fun hp => ?_⟩; have hE := rMinus_E ⟨a_0, a_1⟩ ⟨b_0, b_1⟩ hp; exact hE
   ·cases hr)
def zc4 (a : Wide) (b : Wide) : Prop :=
      ((a.hi != b.hi) = true -> (decide (a.hi < b.hi) = true -> ((-1 : Int) = wcmp a b /\ True) /\ True) /\ (decide (a.hi < b.hi) = false -> ((1 : Int) = wcmp a b /\ True) /\ True)) /\
 ((a.hi != b.hi) = false ->
 ((a.lo != b.lo) = true -> (decide (a.lo < b.lo) = true -> ((-1 : Int) = wcmp a b /\ True) /\ True) /\ (decide (a.lo < b.lo) = false -> ((1 : Int) = wcmp a b /\ True) /\ True)) /\
 ((a.lo != b.lo) = false -> ((0 : Int) = wcmp a b /\ True) /\ True))
theorem rCompare_q (a : Wide) (b : Wide) : zc4 a b = z48 TT zfg (rCompare_I a b) (zkj a b) Try.f108 [.agg (z0y a), .agg (z0y b)] [] (zfh a b) := by kernel_rfl
theorem rCompare_E (a : Wide) (b : Wide) (hp : a.ok /\ b.ok) : FVc TT zfg (rCompare_I a b) (zkj a b) Try.f108 [.agg (z0y a), .agg (z0y b)] [] (zfh a b) := by
 refine FVc.of (zc4 a b) (rCompare_q a b) ?_
 unfold zc4
 simp only [eq_self, exists_const, forall_const, decide_eq_true_eq, decide_eq_false_iff_not, and_true, true_and, bne_iff_ne, ne_eq, bne_eq_false_iff_eq, Int.toNat_natCast, Bool.not_eq_true', Bool.not_eq_false', beq_iff_eq, beq_eq_false_iff_ne]
 obtain ⟨⟨⟨a1, a2⟩, a3, a4⟩, ⟨b1, b2⟩, b3, b4⟩ := hp
 unfold wcmp Wide.v
 refine ⟨fun h => ⟨fun h2 => ?_, fun h2 => ?_⟩, fun h => ⟨fun h2 => ⟨fun h3 => ?_, fun h3 => ?_⟩, fun h2 => ?_⟩⟩ <;> (repeat' split) <;> omega
theorem rCompare_ok : SpecOk Try.prog rCompare_n true (z05 true zc5) :=
 z0b z0w (show z1s Try.prog zfg from z06) (by kernel_rfl) mixedOrders Try.func108 rfl rfl (by kernel_rfl) (n := 2) (by decide +kernel) (I := rCompare_IA) (fun _ _ => z07) (A := rCompare_A)
  (fun args h r hr => by
   unfold zc5 at hr
   split at hr
   ·rename_i a_0 a_1 b_0 b_1; cases hr; refine ⟨rfl, fun hp => ?_⟩; have hE := rCompare_E ⟨a_0, a_1⟩ ⟨b_0, b_1⟩ hp; exact hE
   ·cases hr)
end Go.Proofs.Ytggblkbecekbdaa
end
section
namespace Go.Proofs.Ytggblkbecekbdaa
open Go Go.RowKit Go.Ql Go.Vc
def rfit_r (I : Inst) (a : Int) : FRes := { pre := True, res := .bool (gOk I.sup.length I.arcs a), rows := [], eff := [] }
def rfit_fs : FS := fun args h => match args, h with
 | [.agg [.row 0, .row 1], .int .i64 a], [(0, .row false ty0 (.ints .i64 I_s)), (1, .row false ty1 (.arcs I_a))] => some (rfit_r ⟨I_s, I_a⟩ a)
 | _, _ => none
def rfit_an (I : Inst) (a : Int) : List (Nat × Ann) := []
def rfit_A : List SV -> z0j -> List (Nat × Ann) := fun _ _ => []
def rfit_g : z0c := []
abbrev rfit_n : Nat := 144
def rfit_I (I : Inst) (a : Int) : List (Nat × z0a) := []
def rfit_IA : List SV -> z0j -> List (Nat × z0a) := fun _ _ => []
end Go.Proofs.Ytggblkbecekbdaa
end
section
namespace Go.Proofs.Ytggblkbecekbdaa
open Go Go.RowKit Go.Ql Go.Vc
def rfit_E0 (I : Inst) (a : Int) (ty0 ty1 : TypeId) : Prop :=
      (decide (a < (0 : Int)) = true -> (false = gOk (↑I.sup.length : Int) I.arcs a /\ True) /\ True) /\
 (decide (a < (0 : Int)) = false ->
 (decide (a ≥ (↑I.arcs.length : Int)) = true -> (false = gOk (↑I.sup.length : Int) I.arcs a /\ True) /\ True) /\
 (decide (a ≥ (↑I.arcs.length : Int)) = false ->
 ((0 : Int) <= a /\ a < (↑I.arcs.length : Int)) /\
 a.toNat < I.arcs.length /\
 ∀ (x : Arc),
 I.arcs[a.toNat]? = some x ->
 (decide (x.src ≥ (0 : Int)) = true ->
 (decide (x.src < (↑I.sup.length : Int)) = true ->
 (decide (x.dst ≥ (0 : Int)) = true -> (decide (x.dst < (↑I.sup.length : Int)) = gOk (↑I.sup.length : Int) I.arcs a /\ True) /\ True) /\
 (decide (x.dst ≥ (0 : Int)) = false -> (false = gOk (↑I.sup.length : Int) I.arcs a /\ True) /\ True)) /\
 (decide (x.src < (↑I.sup.length : Int)) = false -> (false = gOk (↑I.sup.length : Int) I.arcs a /\ True) /\ True)) /\
 (decide (x.src ≥ (0 : Int)) = false -> (false = gOk (↑I.sup.length : Int) I.arcs a /\ True) /\ True)))
theorem rfit_q (I : Inst) (a : Int) (ty0 ty1 : TypeId) : rfit_E0 I a ty0 ty1 = z48 TT rfit_g (rfit_I I a) (rfit_an I a) Try.f144 [.agg [.row 0, .row 1], .int .i64 a] [(0, .row false ty0 (.ints .i64 I.sup)), (1, .row false ty1 (.arcs I.arcs))] (rfit_r I a) := by kernel_rfl
theorem rfit_E (I : Inst) (a : Int) (ty0 ty1 : TypeId) (hp : True) : FVc TT rfit_g (rfit_I I a) (rfit_an I a) Try.f144 [.agg [.row 0, .row 1], .int .i64 a] [(0, .row false ty0 (.ints .i64 I.sup)), (1, .row false ty1 (.arcs I.arcs))] (rfit_r I a) := by
 refine FVc.of (rfit_E0 I a ty0 ty1) (rfit_q I a ty0 ty1) ?_
 unfold rfit_E0
 simp only [eq_self, exists_const, forall_const, decide_eq_true_eq, decide_eq_false_iff_not, and_true, true_and, bne_iff_ne, ne_eq, bne_eq_false_iff_eq, Int.toNat_natCast, Bool.not_eq_true', Bool.not_eq_false', beq_iff_eq, beq_eq_false_iff_ne, z09]
 refine ⟨fun h => (zjb (.inl h)).symm, fun h => ⟨fun h2 => (zjb (.inr h2)).symm, fun h2 => ⟨by omega, by omega, fun x hx => ?_⟩⟩⟩
 rw [zja (by omega) hx]
 unfold z2w
 refine ⟨fun h3 => ⟨fun h4 => ⟨fun h5 => ?_, fun h5 => ?_⟩, fun h4 => ?_⟩, fun h3 => ?_⟩
 ·simp [show 0 <= x.src from h3, h4, show 0 <= x.dst from h5]
 ·simp; omega
 ·simp; omega
 ·simp; omega
theorem rfit_ok : SpecOk Try.prog rfit_n true (z05 true rfit_fs) :=
 z0b z0w (show z1s Try.prog rfit_g from z06) (by kernel_rfl) mixedOrders Try.func144 rfl rfl (by kernel_rfl) (n := 2) (by decide +kernel) (I := rfit_IA) (fun _ _ => z07) (A := rfit_A)
  (fun args h r hr => by
   unfold rfit_fs at hr
   split at hr
   ·rename_i a ty0 I_s ty1 I_a; cases hr; refine ⟨rfl, fun hp => ?_⟩; have hE := rfit_E ⟨I_s, I_a⟩ a ty0 ty1 hp; exact hE
   ·cases hr)
end Go.Proofs.Ytggblkbecekbdaa
end
section
namespace Go.Proofs.Ytggblkbecekbdaa
open Go Go.RowKit Go.Ql Go.Vc
def has_r (g_n : Int) (g_l : List Arc) (g_i : List Int) (g_s : List Int) (a : Int) : FRes := { pre := True, res := .bool (decide (0 <= a) && decide (a < g_n)), rows := [], eff := [] }
def has_fs : FS := fun args h => match args, h with
 | [.ptr 0 0 0 0, .int .i64 a], [(0, .box false ty0 [.int .i64 g_n, .row 1, .row 2, .row 3]), (1, .row false ty1 (.arcs g_l)), (2, .row false ty2 (.ints .i64 g_i)), (3, .row false ty3 (.ints .i64 g_s))] => some (has_r g_n g_l g_i g_s a)
 | _, _ => none
def has_an (g_n : Int) (g_l : List Arc) (g_i : List Int) (g_s : List Int) (a : Int) : List (Nat × Ann) := []
def has_A : List SV -> z0j -> List (Nat × Ann) := fun _ _ => []
def has_g : z0c := []
abbrev has_n : Nat := 105
def has_I (g_n : Int) (g_l : List Arc) (g_i : List Int) (g_s : List Int) (a : Int) : List (Nat × z0a) := []
def has_IA : List SV -> z0j -> List (Nat × z0a) := fun _ _ => []
def GArc_r (g_n : Int) (g_l : List Arc) (g_i : List Int) (g_s : List Int) (a : Int) : FRes := { pre := True, res := .tup [.agg (z7l (z2e g_n g_l a)), .bool (gOk g_n g_l a)], rows := [], eff := [] }
def GArc_fs : FS := fun args h => match args, h with
 | [.ptr 0 0 0 0, .int .i64 a], [(0, .box false ty0 [.int .i64 g_n, .row 1, .row 2, .row 3]), (1, .row false ty1 (.arcs g_l)), (2, .row false ty2 (.ints .i64 g_i)), (3, .row false ty3 (.ints .i64 g_s))] => some (GArc_r g_n g_l g_i g_s a)
 | _, _ => none
def GArc_an (g_n : Int) (g_l : List Arc) (g_i : List Int) (g_s : List Int) (a : Int) : List (Nat × Ann) := []
def GArc_A : List SV -> z0j -> List (Nat × Ann) := fun _ _ => []
def GArc_g : z0c := [(has_n, (true, z05 true has_fs))]
abbrev GArc_n : Nat := 65
def GArc_I (g_n : Int) (g_l : List Arc) (g_i : List Int) (g_s : List Int) (a : Int) : List (Nat × z0a) := []
def GArc_IA : List SV -> z0j -> List (Nat × z0a) := fun _ _ => []
def CloneI_r (l : List Int) : FRes := { pre := l.length <= 1000000000, res := .row 1, rows := [.row 3 (.ints .i64 (l))], eff := [] }
def zhs : FS := fun args h => match args, h with
 | [.row 0], [(0, .row false ty0 (.ints .i64 l))] => some (CloneI_r l)
 | _, _ => none
def CloneI_an (l : List Int) : List (Nat × Ann) := []
def CloneI_A : List SV -> z0j -> List (Nat × Ann) := fun _ _ => []
def CloneI_g : z0c := []
abbrev CloneI_n : Nat := 66
def CloneI_I (l : List Int) : List (Nat × z0a) := []
def CloneI_IA : List SV -> z0j -> List (Nat × z0a) := fun _ _ => []
abbrev put_n : Nat := 67
def put_g : z0c := []
def put_spec : Vc.Spec := z9h TT put_g (fun _ _ _ => []) Try.f67
def New_r (I : Inst) : FRes := { pre := I.sup.length <= 10000 /\ I.arcs.length <= 10000, res := .ptr 2 0 0 0, rows := [.box 117 [.int .i64 I.sup.length, .row 3, .row 4, .row 5], .row 50 (.arcs I.arcs), .row 3 (.ints .i64 (z43 I)), .row 3 (.ints .i64 (z1a I))], eff := [] }
def New_fs : FS := fun args h => match args, h with
 | [.agg [.row 0, .row 1]], [(0, .row false ty0 (.ints .i64 I_s)), (1, .row false ty1 (.arcs I_a))] => some (New_r ⟨I_s, I_a⟩)
 | _, _ => none
def New_an (I : Inst) : List (Nat × Ann) := [(1000002, { G := Unit, inv := fun _ => ⟨[(3, .ptr 9 0 0 0)], [(9, .box true 85 [.ptr 8 0 0 0]), (8, .box true 117 [.int .i64 (↑I.sup.length : Int), .row 4, .row 6, .row 7]), (6, .row true 3 (.ints .i64 [])), (7, .row true 3 (.ints .i64 [])), (4, .row true 50 (.arcs I.arcs))], 10⟩, rel := fun _ _ => True, meas := fun _ => 0 }),
 (4, { G := (Nat), inv := fun k => ⟨[(3, .ptr 9 0 0 0), (35, .int .i64 (↑I.arcs.length : Int)), (36, .int .i64 k)], [(10, .row true 3 (.ints .i64 (S1 I k))), (9, .box true 85 [.ptr 8 0 0 0]), (8, .box true 117 [.int .i64 (↑I.sup.length : Int), .row 4, .row 6, .row 10]), (6, .row true 3 (.ints .i64 [])), (4, .row true 50 (.arcs I.arcs))], 11⟩, rel := fun k0 k => k <= I.arcs.length, meas := fun k => I.arcs.length - k }),
 (12, { G := (Nat), inv := fun k => ⟨[(3, .ptr 9 0 0 0), (77, .int .i64 (2 * I.sup.length : Nat)), (78, .int .i64 k)], [(10, .row true 3 (.ints .i64 (S2 I k))), (9, .box true 85 [.ptr 8 0 0 0]), (8, .box true 117 [.int .i64 (↑I.sup.length : Int), .row 4, .row 6, .row 10]), (6, .row true 3 (.ints .i64 [])), (4, .row true 50 (.arcs I.arcs))], 11⟩, rel := fun k0 k => k <= 2 * I.sup.length, meas := fun k => 2 * I.sup.length - k }),
 (20, { G := (Nat), inv := fun k => ⟨[(3, .ptr 9 0 0 0), (9, .fn 67 [.ptr 9 0 0 0, .ptr 14 0 0 0]), (124, .int .i64 (↑I.arcs.length : Int)), (125, .int .i64 k)], [(14, .box true 25 [.row 12]), (12, .row true 3 (.ints .i64 (N3 I k))), (11, .row true 3 (.ints .i64 (L3 I k))), (10, .row true 3 (.ints .i64 (z1a I))), (9, .box true 85 [.ptr 8 0 0 0]), (8, .box true 117 [.int .i64 (↑I.sup.length : Int), .row 4, .row 11, .row 10]), (4, .row true 50 (.arcs I.arcs))], 15⟩, rel := fun k0 k => k <= I.arcs.length, meas := fun k => I.arcs.length - k })]
def New_A : List SV -> z0j -> List (Nat × Ann) := fun args h => match args, h with
 | [.agg [.row 0, .row 1]], [(0, .row false ty0 (.ints .i64 I_s)), (1, .row false ty1 (.arcs I_a))] => New_an ⟨I_s, I_a⟩
 | _, _ => []
def New_g : z0c := [(Copy_n, (true, z05 true Copy_fs)), (GArc_n, (true, z05 true GArc_fs)), (CloneI_n, (true, z05 true zhs)), (put_n, (false, put_spec))]
abbrev New_n : Nat := 39
def New_I (I : Inst) : List (Nat × z0a) := []
def New_IA : List SV -> z0j -> List (Nat × z0a) := fun _ _ => []
def along_r (x : List Int) (a : Int) : FRes := { pre := 0 <= a, res := .int .i64 (x.getD a.toNat 0), rows := [], eff := [] }
def along_fs : FS := fun args h => match args, h with
 | [.row 0, .int .i64 a], [(0, .row false ty0 (.ints .i64 x))] => some (along_r x a)
 | _, _ => none
def along_an (x : List Int) (a : Int) : List (Nat × Ann) := []
def along_A : List SV -> z0j -> List (Nat × Ann) := fun _ _ => []
def along_g : z0c := []
abbrev along_n : Nat := 41
def along_I (x : List Int) (a : Int) : List (Nat × z0a) := []
def along_IA : List SV -> z0j -> List (Nat × z0a) := fun _ _ => []
def Cost_r (I : Inst) (x : List Int) : FRes := { pre := A64 x /\ A64c I.arcs /\ I.arcs.length <= 1000000, res := .agg (z0y (W (z5p I x))), rows := [], eff := [] }
def Cost_fs : FS := fun args h => match args, h with
 | [.agg [.row 0, .row 1], .row 2], [(0, .row false ty0 (.ints .i64 I_s)), (1, .row false ty1 (.arcs I_a)), (2, .row false ty2 (.ints .i64 x))] => some (Cost_r ⟨I_s, I_a⟩ x)
 | _, _ => none
def Cost_an (I : Inst) (x : List Int) : List (Nat × Ann) := [(3, { G := (Nat), inv := fun k => ⟨[(1, .row 2), (4, .ptr 4 0 0 0), (5, .ptr 5 0 0 0), (9, .row 1), (10, .int .i64 (↑I.arcs.length : Int)), (11, .int .i64 k)], [(5, .box true 41 (z0y (W (z34 I.arcs x k)))), (4, .box true 41 [.int .i64 (0 : Int), .int .u64 (0 : Int)]), (1, .row false 0 (.arcs I.arcs)), (2, .row false 0 (.ints .i64 x))], 6⟩, rel := fun k0 k => k <= I.arcs.length, meas := fun k => I.arcs.length - k })]
def Cost_A : List SV -> z0j -> List (Nat × Ann) := fun args h => match args, h with
 | [.agg [.row 0, .row 1], .row 2], [(0, .row false ty0 (.ints .i64 I_s)), (1, .row false ty1 (.arcs I_a)), (2, .row false ty2 (.ints .i64 x))] => Cost_an ⟨I_s, I_a⟩ x
 | _, _ => []
def Cost_g : z0c := [(along_n, (true, z05 true along_fs)), (Times_n, (true, z05 true Times_fs)), (Plus_n, (true, z05 true Plus_fs))]
abbrev Cost_n : Nat := 34
def Cost_I (I : Inst) (x : List Int) : List (Nat × z0a) := []
def Cost_IA : List SV -> z0j -> List (Nat × z0a) := fun _ _ => []
def rArc_r (I : Inst) (a : Int) : FRes := { pre := True, res := .tup [.agg (z7l (z2e I.sup.length I.arcs a)), .bool (gOk I.sup.length I.arcs a)], rows := [], eff := [] }
def rArc_fs : FS := fun args h => match args, h with
 | [.agg [.row 0, .row 1], .int .i64 a], [(0, .row false ty0 (.ints .i64 I_s)), (1, .row false ty1 (.arcs I_a))] => some (rArc_r ⟨I_s, I_a⟩ a)
 | _, _ => none
def rArc_an (I : Inst) (a : Int) : List (Nat × Ann) := []
def rArc_A : List SV -> z0j -> List (Nat × Ann) := fun _ _ => []
def rArc_g : z0c := [(rfit_n, (true, z05 true rfit_fs))]
abbrev rArc_n : Nat := 134
def rArc_I (I : Inst) (a : Int) : List (Nat × z0a) := []
def rArc_IA : List SV -> z0j -> List (Nat × z0a) := fun _ _ => []
def At_r (x : List Int) (a : Int) : FRes := { pre := True, res := .int .i64 (if 0 <= a then x.getD a.toNat 0 else 0), rows := [], eff := [] }
def At_fs : FS := fun args h => match args, h with
 | [.row 0, .int .i64 a], [(0, .row false ty0 (.ints .i64 x))] => some (At_r x a)
 | _, _ => none
def At_an (x : List Int) (a : Int) : List (Nat × Ann) := []
def At_A : List SV -> z0j -> List (Nat × Ann) := fun _ _ => []
def At_g : z0c := []
abbrev At_n : Nat := 136
def At_I (x : List Int) (a : Int) : List (Nat × z0a) := []
def At_IA : List SV -> z0j -> List (Nat × z0a) := fun _ _ => []
def rNet_r (I : Inst) (x : List Int) : FRes := { pre := A64 x /\ I.sup.length <= 10000 /\ I.arcs.length <= 10000, res := .row 3, rows := [.row 41 (.wides (z90 I x))], eff := [] }
def rNet_fs : FS := fun args h => match args, h with
 | [.agg [.row 0, .row 1], .row 2], [(0, .row false ty0 (.ints .i64 I_s)), (1, .row false ty1 (.arcs I_a)), (2, .row false ty2 (.ints .i64 x))] => some (rNet_r ⟨I_s, I_a⟩ x)
 | _, _ => none
def rNet_an (I : Inst) (x : List Int) : List (Nat × Ann) := [(3, { G := (Nat), inv := fun v => ⟨[(1, .row 2), (2, .ptr 3 0 0 0), (5, .row 5), (6, .int .i64 v)], [(5, .row true 41 (.wides ((z90 I x).take v))), (3, .box true 30 [.row 0, .row 1]), (0, .row false 0 (.ints .i64 I.sup)), (1, .row false 0 (.arcs I.arcs)), (2, .row false 0 (.ints .i64 x))], 6⟩, rel := fun v0 v => v <= I.sup.length, meas := fun v => I.sup.length - v }),
 (7, { G := (Nat) × (Nat), inv := fun ⟨v, k⟩ => ⟨[(1, .row 2), (2, .ptr 3 0 0 0), (5, .row 5), (6, .int .i64 v), (7, .ptr 6 0 0 0), (8, .int .i64 k)], [(6, .box true 41 (z0y (W (z2y I.sup.length I.arcs x k v)))), (5, .row true 41 (.wides ((z90 I x).take v))), (3, .box true 30 [.row 0, .row 1]), (0, .row false 0 (.ints .i64 I.sup)), (1, .row false 0 (.arcs I.arcs)), (2, .row false 0 (.ints .i64 x))], 7⟩, rel := fun ⟨v0, k0⟩ ⟨v, k⟩ => v < I.sup.length /\ v = v0 /\ k <= I.arcs.length, meas := fun ⟨v, k⟩ => I.arcs.length - k })]
def rNet_A : List SV -> z0j -> List (Nat × Ann) := fun args h => match args, h with
 | [.agg [.row 0, .row 1], .row 2], [(0, .row false ty0 (.ints .i64 I_s)), (1, .row false ty1 (.arcs I_a)), (2, .row false ty2 (.ints .i64 x))] => rNet_an ⟨I_s, I_a⟩ x
 | _, _ => []
def rNet_g : z0c := [(rArc_n, (true, z05 true rArc_fs)), (rOf_n, (true, z05 true rOf_fs)), (zkn, (true, z05 true zat)), (rMinus_n, (true, z05 true zdf)), (At_n, (true, z05 true At_fs))]
abbrev rNet_n : Nat := 113
def rNet_I (I : Inst) (x : List Int) : List (Nat × z0a) := []
def rNet_IA : List SV -> z0j -> List (Nat × z0a) := fun _ _ => []
def zkg (x : Arc) (n : Int) : FRes := { pre := True, res := .bool (fitF x n), rows := [], eff := [] }
def zfd : FS := fun args h => match args, h with
 | [.agg [.int .i64 x_0, .int .i64 x_1, .int .i64 x_2, .int .i64 x_3, .int .i64 x_4], .int .i64 n], [] => some (zkg ⟨x_0, x_1, x_2, x_3, x_4⟩ n)
 | _, _ => none
def rBounds_an (x : Arc) (n : Int) : List (Nat × Ann) := []
def rBounds_A : List SV -> z0j -> List (Nat × Ann) := fun _ _ => []
def zkf : z0c := []
abbrev rBounds_n : Nat := 112
def rBounds_I (x : Arc) (n : Int) : List (Nat × z0a) := []
def rBounds_IA : List SV -> z0j -> List (Nat × z0a) := fun _ _ => []
def rFits_r (I : Inst) (x : List Int) : FRes := { pre := I.sup.length <= 10000 /\ I.arcs.length <= 10000 /\ A64 x /\ A64 I.sup, res := .int .i64 (z1f I x), rows := [], eff := [] }
def zhh : FS := fun args h => match args, h with
 | [.agg [.row 0, .row 1], .row 2], [(0, .row false ty0 (.ints .i64 I_s)), (1, .row false ty1 (.arcs I_a)), (2, .row false ty2 (.ints .i64 x))] => some (rFits_r ⟨I_s, I_a⟩ x)
 | _, _ => none
def rFits_an (I : Inst) (x : List Int) : List (Nat × Ann) := [(7, { G := (Nat), inv := fun k => ⟨[(1, .row 2), (2, .ptr 3 0 0 0), (6, .int .i64 k)], [(3, .box true 30 [.row 0, .row 1]), (0, .row false 0 (.ints .i64 I.sup)), (1, .row false 0 (.arcs I.arcs)), (2, .row false 0 (.ints .i64 x))], 4⟩, rel := fun k0 k => k <= I.arcs.length /\ z2m (I.arcs.drop k) (x.drop k) = z2m I.arcs x, meas := fun k => I.arcs.length - k }),
 (13, { G := (Nat), inv := fun k => ⟨[(2, .ptr 3 0 0 0), (7, .row 4), (8, .int .i64 k)], [(4, .row true 41 (.wides (z90 I x))), (3, .box true 30 [.row 0, .row 1]), (0, .row false 0 (.ints .i64 I.sup)), (1, .row false 0 (.arcs I.arcs))], 5⟩, rel := fun k0 k => k <= I.sup.length /\ ∀ v, v < k -> W (z2y I.sup.length I.arcs x I.arcs.length v) = W (I.sup.getD v 0), meas := fun k => I.sup.length - k })]
def rFits_A : List SV -> z0j -> List (Nat × Ann) := fun args h => match args, h with
 | [.agg [.row 0, .row 1], .row 2], [(0, .row false ty0 (.ints .i64 I_s)), (1, .row false ty1 (.arcs I_a)), (2, .row false ty2 (.ints .i64 x))] => rFits_an ⟨I_s, I_a⟩ x
 | _, _ => []
def rFits_g : z0c := [(rRight_n, (true, z05 true zdg)), (rBounds_n, (true, z05 true zfd)), (rNet_n, (true, z05 true rNet_fs)), (rOf_n, (true, z05 true rOf_fs))]
abbrev rFits_n : Nat := 74
def rFits_I (I : Inst) (x : List Int) : List (Nat × z0a) := []
def rFits_IA : List SV -> z0j -> List (Nat × z0a) := fun _ _ => []
end Go.Proofs.Ytggblkbecekbdaa
end
section
namespace Go.Proofs.Ytggblkbecekbdaa
open Go Go.RowKit Go.Ql Go.Vc
def has_E0 (g_n : Int) (g_l : List Arc) (g_i : List Int) (g_s : List Int) (a : Int) (ty0 ty1 ty2 ty3 : TypeId) : Prop :=
      ((!false) = true ->
 (decide (a ≥ (0 : Int)) = true -> (decide (a < g_n) = (decide ((0 : Int) <= a) && decide (a < g_n)) /\ True) /\ True) /\
 (decide (a ≥ (0 : Int)) = false -> (false = (decide ((0 : Int) <= a) && decide (a < g_n)) /\ True) /\ True)) /\
 ((!false) = false -> (false = (decide ((0 : Int) <= a) && decide (a < g_n)) /\ True) /\ True)
theorem has_q (g_n : Int) (g_l : List Arc) (g_i : List Int) (g_s : List Int) (a : Int) (ty0 ty1 ty2 ty3 : TypeId) : has_E0 g_n g_l g_i g_s a ty0 ty1 ty2 ty3 = z48 TT has_g (has_I g_n g_l g_i g_s a) (has_an g_n g_l g_i g_s a) Try.f105 [.ptr 0 0 0 0, .int .i64 a] [(0, .box false ty0 [.int .i64 g_n, .row 1, .row 2, .row 3]), (1, .row false ty1 (.arcs g_l)), (2, .row false ty2 (.ints .i64 g_i)), (3, .row false ty3 (.ints .i64 g_s))] (has_r g_n g_l g_i g_s a) := by kernel_rfl
theorem has_E (g_n : Int) (g_l : List Arc) (g_i : List Int) (g_s : List Int) (a : Int) (ty0 ty1 ty2 ty3 : TypeId) (hp : True) : FVc TT has_g (has_I g_n g_l g_i g_s a) (has_an g_n g_l g_i g_s a) Try.f105 [.ptr 0 0 0 0, .int .i64 a] [(0, .box false ty0 [.int .i64 g_n, .row 1, .row 2, .row 3]), (1, .row false ty1 (.arcs g_l)), (2, .row false ty2 (.ints .i64 g_i)), (3, .row false ty3 (.ints .i64 g_s))] (has_r g_n g_l g_i g_s a) := by
 refine FVc.of (has_E0 g_n g_l g_i g_s a ty0 ty1 ty2 ty3) (has_q g_n g_l g_i g_s a ty0 ty1 ty2 ty3) ?_
 unfold has_E0
 simp only [eq_self, exists_const, forall_const, decide_eq_true_eq, decide_eq_false_iff_not, and_true, true_and, bne_iff_ne, ne_eq, bne_eq_false_iff_eq, Int.toNat_natCast, Bool.not_eq_true', Bool.not_eq_false', beq_iff_eq, beq_eq_false_iff_ne, z09]
 by_cases h : 0 <= a <;> simp [h] <;> omega
theorem has_ok : SpecOk Try.prog has_n true (z05 true has_fs) :=
 z0b z0w (show z1s Try.prog has_g from z06) (by kernel_rfl) mixedOrders Try.func105 rfl rfl (by kernel_rfl) (n := 2) (by decide +kernel) (I := has_IA) (fun _ _ => z07) (A := has_A)
  (fun args h r hr => by
   unfold has_fs at hr
   split at hr
   ·rename_i a ty0 g_n ty1 g_l ty2 g_i ty3 g_s; cases hr; refine ⟨rfl, fun hp => ?_⟩; have hE := has_E g_n g_l g_i g_s a ty0 ty1 ty2 ty3 hp; exact hE
   ·cases hr)
def GArc_E0 (g_n : Int) (g_l : List Arc) (g_i : List Int) (g_s : List Int) (a : Int) (ty0 ty1 ty2 ty3 : TypeId) : Prop :=
      (false = true ->
 ((((0 : Int) = (z2e g_n g_l a).src /\
 (0 : Int) = (z2e g_n g_l a).dst /\ (0 : Int) = (z2e g_n g_l a).low /\ (0 : Int) = (z2e g_n g_l a).cap /\ (0 : Int) = (z2e g_n g_l a).cost /\ True) /\
 false = gOk g_n g_l a /\ True) /\
 True) /\
 True) /\
 (false = false ->
 (decide (a < (0 : Int)) = true ->
 ((((0 : Int) = (z2e g_n g_l a).src /\
 (0 : Int) = (z2e g_n g_l a).dst /\ (0 : Int) = (z2e g_n g_l a).low /\ (0 : Int) = (z2e g_n g_l a).cap /\ (0 : Int) = (z2e g_n g_l a).cost /\ True) /\
 false = gOk g_n g_l a /\ True) /\
 True) /\
 True) /\
 (decide (a < (0 : Int)) = false ->
 (decide (a ≥ (↑g_l.length : Int)) = true ->
 ((((0 : Int) = (z2e g_n g_l a).src /\
 (0 : Int) = (z2e g_n g_l a).dst /\ (0 : Int) = (z2e g_n g_l a).low /\ (0 : Int) = (z2e g_n g_l a).cap /\ (0 : Int) = (z2e g_n g_l a).cost /\ True) /\
 false = gOk g_n g_l a /\ True) /\
 True) /\
 True) /\
 (decide (a ≥ (↑g_l.length : Int)) = false ->
 ((0 : Int) <= a /\ a < (↑g_l.length : Int)) /\
 a.toNat < g_l.length /\
 ∀ (x : Arc),
 g_l[a.toNat]? = some x ->
 True /\
 ((!(decide ((0 : Int) <= x.src) && decide (x.src < g_n))) = true ->
 ((((0 : Int) = (z2e g_n g_l a).src /\
 (0 : Int) = (z2e g_n g_l a).dst /\
 (0 : Int) = (z2e g_n g_l a).low /\ (0 : Int) = (z2e g_n g_l a).cap /\ (0 : Int) = (z2e g_n g_l a).cost /\ True) /\
 false = gOk g_n g_l a /\ True) /\
 True) /\
 True) /\
 ((!(decide ((0 : Int) <= x.src) && decide (x.src < g_n))) = false ->
 True /\
 ((!(decide ((0 : Int) <= x.dst) && decide (x.dst < g_n))) = true ->
 ((((0 : Int) = (z2e g_n g_l a).src /\
 (0 : Int) = (z2e g_n g_l a).dst /\
 (0 : Int) = (z2e g_n g_l a).low /\ (0 : Int) = (z2e g_n g_l a).cap /\ (0 : Int) = (z2e g_n g_l a).cost /\ True) /\
 false = gOk g_n g_l a /\ True) /\
 True) /\
 True) /\
 ((!(decide ((0 : Int) <= x.dst) && decide (x.dst < g_n))) = false ->
 (((x.src = (z2e g_n g_l a).src /\
 x.dst = (z2e g_n g_l a).dst /\ x.low = (z2e g_n g_l a).low /\ x.cap = (z2e g_n g_l a).cap /\ x.cost = (z2e g_n g_l a).cost /\ True) /\
 true = gOk g_n g_l a /\ True) /\
 True) /\
 True)))))
theorem GArc_q (g_n : Int) (g_l : List Arc) (g_i : List Int) (g_s : List Int) (a : Int) (ty0 ty1 ty2 ty3 : TypeId) : GArc_E0 g_n g_l g_i g_s a ty0 ty1 ty2 ty3 = z48 TT GArc_g (GArc_I g_n g_l g_i g_s a) (GArc_an g_n g_l g_i g_s a) Try.f65 [.ptr 0 0 0 0, .int .i64 a] [(0, .box false ty0 [.int .i64 g_n, .row 1, .row 2, .row 3]), (1, .row false ty1 (.arcs g_l)), (2, .row false ty2 (.ints .i64 g_i)), (3, .row false ty3 (.ints .i64 g_s))] (GArc_r g_n g_l g_i g_s a) := by kernel_rfl
theorem GArc_E (g_n : Int) (g_l : List Arc) (g_i : List Int) (g_s : List Int) (a : Int) (ty0 ty1 ty2 ty3 : TypeId) (hp : True) : FVc TT GArc_g (GArc_I g_n g_l g_i g_s a) (GArc_an g_n g_l g_i g_s a) Try.f65 [.ptr 0 0 0 0, .int .i64 a] [(0, .box false ty0 [.int .i64 g_n, .row 1, .row 2, .row 3]), (1, .row false ty1 (.arcs g_l)), (2, .row false ty2 (.ints .i64 g_i)), (3, .row false ty3 (.ints .i64 g_s))] (GArc_r g_n g_l g_i g_s a) := by
 refine FVc.of (GArc_E0 g_n g_l g_i g_s a ty0 ty1 ty2 ty3) (GArc_q g_n g_l g_i g_s a ty0 ty1 ty2 ty3) ?_
 unfold GArc_E0
 simp only [eq_self, exists_const, forall_const, decide_eq_true_eq, decide_eq_false_iff_not, and_true, true_and, bne_iff_ne, ne_eq, bne_eq_false_iff_eq, Int.toNat_natCast, Bool.not_eq_true', Bool.not_eq_false', beq_iff_eq, beq_eq_false_iff_ne, z09]
 refine ⟨fun h => (by cases h), fun h => ?_, fun h => ⟨fun h2 => ?_, fun h2 => ⟨by omega, by omega, fun x hx => ?_⟩⟩⟩
 ·simp [gArc_out (n := g_n) (l := g_l) (.inl h), zjb (n := g_n) (l := g_l) (.inl h)]
 ·simp [gArc_out (n := g_n) (l := g_l) (.inr h2), zjb (n := g_n) (l := g_l) (.inr h2)]
 ·rw [zja (by omega) hx, gArc_at (by omega) hx]
  have e : z2w g_n x = ((decide (0 <= x.src) && decide (x.src < g_n)) && (decide (0 <= x.dst) && decide (x.dst < g_n))) := rfl
  refine ⟨fun h3 => ?_, fun h3 => ⟨fun h4 => ?_, fun h4 => ?_⟩⟩
  ·simp [e, h3]
  ·simp [e, h3, h4]
  ·simp [e, h3, h4]
theorem GArc_ok : SpecOk Try.prog GArc_n true (z05 true GArc_fs) :=
 z0b z0w (show z1s Try.prog GArc_g from z01 has_ok (z06)) (by kernel_rfl) mixedOrders Try.func65 rfl rfl (by kernel_rfl) (n := 2) (by decide +kernel) (I := GArc_IA) (fun _ _ => z07) (A := GArc_A)
  (fun args h r hr => by
   unfold GArc_fs at hr
   split at hr
   ·rename_i a ty0 g_n ty1 g_l ty2 g_i ty3 g_s; cases hr; refine ⟨rfl, fun hp => ?_⟩; have hE := GArc_E g_n g_l g_i g_s a ty0 ty1 ty2 ty3 hp; exact hE
   ·cases hr)
def zhr (l : List Int) (ty0 : TypeId) : Prop :=
      ∀ (b : Bool),
 ((0 : Nat) < l.length -> b = false) -> (b = true -> (True /\ True) /\ [] = l /\ True) /\ (b = false -> (0 : Nat) + l.length <= (1000000000 : Nat) /\ (True /\ True) /\ l = l /\ True)
theorem CloneI_q (l : List Int) (ty0 : TypeId) : zhr l ty0 = z48 TT CloneI_g (CloneI_I l) (CloneI_an l) Try.f66 [.row 0] [(0, .row false ty0 (.ints .i64 l))] (CloneI_r l) := by kernel_rfl
theorem CloneI_E (l : List Int) (ty0 : TypeId) (hp : l.length <= 1000000000) : FVc TT CloneI_g (CloneI_I l) (CloneI_an l) Try.f66 [.row 0] [(0, .row false ty0 (.ints .i64 l))] (CloneI_r l) := by
 refine FVc.of (zhr l ty0) (CloneI_q l ty0) ?_
 unfold zhr
 simp only [eq_self, exists_const, forall_const, decide_eq_true_eq, decide_eq_false_iff_not, and_true, true_and, bne_iff_ne, ne_eq, bne_eq_false_iff_eq, Int.toNat_natCast, Bool.not_eq_true', Bool.not_eq_false', beq_iff_eq, beq_eq_false_iff_ne, z09]
 refine fun b hb => ⟨fun h => ?_, fun h => by omega⟩
 have : l = [] := by
  cases l with
  | nil => rfl
  | cons y l => have := hb (by simp); rw [h] at this; cases this
 rw [this]
theorem CloneI_ok : SpecOk Try.prog CloneI_n true (z05 true zhs) :=
 z0b z0w (show z1s Try.prog CloneI_g from z06) (by kernel_rfl) mixedOrders Try.func66 rfl rfl (by kernel_rfl) (n := 1) (by decide +kernel) (I := CloneI_IA) (fun _ _ => z07) (A := CloneI_A)
  (fun args h r hr => by
   unfold zhs at hr
   split at hr
   ·rename_i ty0 l; cases hr; refine ⟨rfl, fun hp => ?_⟩; have hE := CloneI_E l ty0 hp; exact hE
   ·cases hr)
theorem put_ok : SpecOk Try.prog put_n false put_spec :=
 inl_ok z0w (show z1s Try.prog put_g from z06) (by kernel_rfl) mixedOrders Try.func67 rfl rfl (by kernel_rfl) _
abbrev z93 (I : Inst) (g : Nat) := (IntKind.i64.wrap ((2 : Int) * (z2e (↑I.sup.length : Int) I.arcs (↑g : Int)).src) + (0 : Int))
abbrev zba (I : Inst) (g : Nat) := (IntKind.i64.wrap ((2 : Int) * (z2e (↑I.sup.length : Int) I.arcs (↑g : Int)).dst) + (1 : Int))
abbrev zi2 (I : Inst) := ((↑I.sup.length : Int) = ↑I.sup.length /\ (True /\ (True /\ (True /\ True))))
abbrev zgd (I : Inst) (g : Nat) (x_1 : Int) := ((N3 I g).set (IntKind.i64.wrap (z93 I g)).toNat (IntKind.i64.wrap (x_1 + (1 : Int))))
abbrev zi3 (I : Inst) (g : Nat) (x : Int) := ((S1 I g).set (IntKind.i64.wrap (IntKind.i64.wrap (z93 I g) + (1 : Int))).toNat (IntKind.i64.wrap (x + (1 : Int))))
abbrev New_a5 (I : Inst) (g : Nat) (g' : Nat) := ((↑I.arcs.length : Int) = ↑I.arcs.length /\ (IntKind.i64.wrap ((↑g : Int) + (1 : Int)) = (↑g' : Int) /\ True))
abbrev New_a6 (I : Inst) := ((0 = 0 /\ True) /\ ((zi2 I) /\ (z9n Int /\ (I.arcs = I.arcs /\ True))))
abbrev New_a7 (I : Inst) := (∃ (g : Unit), True /\ ((0 = 0 /\ True) /\ ((0 = 0 /\ True) /\ ((zi2 I) /\ (z9n Int /\ (z9n Int /\ (I.arcs = I.arcs /\ True)))))))
abbrev New_a8 (I : Inst) := (IntKind.i64.wrap ((2 : Int) * (↑I.sup.length : Int)) + (1 : Int))
abbrev zcs (I : Inst) (g : Nat) := (IntKind.i64.wrap (zba I g) + (1 : Int))
abbrev New_a10 (I : Inst) (g : Nat) := ((0 : Int) <= IntKind.i64.wrap (z93 I g) /\ (IntKind.i64.wrap (z93 I g) < (↑(N3 I g).length : Int)))
abbrev z94 (I : Inst) (g : Nat) := (IntKind.i64.wrap (z93 I g) + (1 : Int))
abbrev New_a12 (I : Inst) (g : Nat) (x_1 : Int) := ((0 : Int) <= IntKind.i64.wrap (zba I g) /\ (IntKind.i64.wrap (zba I g) < (↑(zgd I g x_1).length : Int)))
abbrev New_a13 (g : Nat) (I : Inst) := ((0 : Int) <= IntKind.i64.wrap ((↑g : Int) + (1 : Int)) /\ (IntKind.i64.wrap ((↑g : Int) + (1 : Int)) < (↑(S2 I g).length : Int)))
def New_E0 (I : Inst) (ty0 ty1 : TypeId) : Prop :=
   (((I.sup.length <= (1000000000 : Nat) /\ (I.arcs.length <= (1000000000 : Nat))) /\ ((New_a7 I) /\ (New_a7 I))) /\ ((I.sup.length <= (1000000000 : Nat) /\ (I.arcs.length <= (1000000000 : Nat))) /\ (New_a7 I))) /\ ∀ (g : Unit), True -> (IntKind.i64.wrap (New_a8 I) = IntKind.i64.wrap (New_a8 I) /\ ((0 : Int) <= IntKind.i64.wrap (New_a8 I) /\ (IntKind.i64.wrap (New_a8 I) <= (1000000000 : Int)))) /\ ∃ (g0 : Nat), (g0 <= I.arcs.length /\ ((0 = 0 /\ ((↑I.arcs.length : Int) = ↑I.arcs.length /\ ((0 : Int) = ↑g0 /\ True))) /\ (List.replicate (IntKind.i64.wrap (New_a8 I)).toNat (0 : Int) = S1 I g0 /\ (New_a6 I)))) /\ ∀ (g : Nat), g <= I.arcs.length -> (decide ((↑g : Int) < ↑I.arcs.length) = true -> True /\ (gOk (↑I.sup.length : Int) I.arcs (↑g : Int) = true -> ((0 : Int) <= IntKind.i64.wrap (z94 I g) /\ (IntKind.i64.wrap (z94 I g) < (↑(S1 I g).length : Int))) /\ (IntKind.i64.wrap (z94 I g)).toNat < (S1 I g).length /\ ∀ (x : Int), (S1 I g)[(IntKind.i64.wrap (z94 I g)).toNat]? = some x -> ((0 : Int) <= IntKind.i64.wrap (z94 I g) /\ (IntKind.i64.wrap (z94 I g) < (↑(S1 I g).length : Int))) /\ (IntKind.i64.wrap (z94 I g)).toNat < (S1 I g).length /\ ((0 : Int) <= IntKind.i64.wrap (zcs I g) /\ (IntKind.i64.wrap (zcs I g) < (↑(zi3 I g x).length : Int))) /\ ((IntKind.i64.wrap (zcs I g)).toNat < (zi3 I g x).length /\ (∀ (x_1 : Int), (zi3 I g x)[(IntKind.i64.wrap (zcs I g)).toNat]? = some x_1 -> ((0 : Int) <= IntKind.i64.wrap (zcs I g) /\ (IntKind.i64.wrap (zcs I g) < (↑(zi3 I g x).length : Int))) /\ ((IntKind.i64.wrap (zcs I g)).toNat < (zi3 I g x).length /\ (∃ (g' : Nat), g' <= I.arcs.length /\ (I.arcs.length - g' < I.arcs.length - g /\ ((0 = 0 /\ (New_a5 I g g')) /\ ((zi3 I g x).set (IntKind.i64.wrap (zcs I g)).toNat (IntKind.i64.wrap (x_1 + (1 : Int))) = S1 I g' /\ (New_a6 I))))))))) /\ (gOk (↑I.sup.length : Int) I.arcs (↑g : Int) = false -> ∃ (g' : Nat), g' <= I.arcs.length /\ (I.arcs.length - g' < I.arcs.length - g /\ ((0 = 0 /\ (New_a5 I g g')) /\ (S1 I g = S1 I g' /\ (New_a6 I)))))) /\ (decide ((↑g : Int) < ↑I.arcs.length) = false -> ∃ (g0 : Nat), (g0 <= (2 : Nat) * I.sup.length /\ ((0 = 0 /\ (IntKind.i64.wrap ((2 : Int) * (↑I.sup.length : Int)) = (↑((2 : Nat) * I.sup.length) : Int) /\ ((0 : Int) = ↑g0 /\ True))) /\ (S1 I g = S2 I g0 /\ (New_a6 I)))) /\ ∀ (g : Nat), g <= (2 : Nat) * I.sup.length -> (decide ((↑g : Int) < ↑((2 : Nat) * I.sup.length)) = true -> (New_a13 g I) /\ ((IntKind.i64.wrap ((↑g : Int) + (1 : Int))).toNat < (S2 I g).length /\ (∀ (x : Int), (S2 I g)[(IntKind.i64.wrap ((↑g : Int) + (1 : Int))).toNat]? = some x -> ((0 : Int) <= ↑g /\ ((↑g : Int) < ↑(S2 I g).length)) /\ ((↑g : Int).toNat < (S2 I g).length /\ (∀ (x_1 : Int), (S2 I g)[(↑g : Int).toNat]? = some x_1 -> (New_a13 g I) /\ ((IntKind.i64.wrap ((↑g : Int) + (1 : Int))).toNat < (S2 I g).length /\ (∃ (g' : Nat), g' <= (2 : Nat) * I.sup.length /\ ((2 : Nat) * I.sup.length - g' < (2 : Nat) * I.sup.length - g /\ ((0 = 0 /\ ((↑((2 : Nat) * I.sup.length) : Int) = ↑((2 : Nat) * I.sup.length) /\ (IntKind.i64.wrap ((↑g : Int) + (1 : Int)) = (↑g' : Int) /\ True))) /\ ((S2 I g).set (IntKind.i64.wrap ((↑g : Int) + (1 : Int))).toNat (IntKind.i64.wrap (x + x_1)) = S2 I g' /\ (New_a6 I))))))))))) /\ (decide ((↑g : Int) < ↑((2 : Nat) * I.sup.length)) = false -> ((0 : Int) <= IntKind.i64.wrap ((2 : Int) * (↑I.sup.length : Int)) /\ (IntKind.i64.wrap ((2 : Int) * (↑I.sup.length : Int)) < (↑(S2 I g).length : Int))) /\ (IntKind.i64.wrap ((2 : Int) * (↑I.sup.length : Int))).toNat < (S2 I g).length /\ ∀ (x : Int), (S2 I g)[(IntKind.i64.wrap ((2 : Int) * (↑I.sup.length : Int))).toNat]? = some x -> (x = x /\ ((0 : Int) <= x /\ (x <= (1000000000 : Int)))) /\ (S2 I g).length <= (1000000000 : Nat) /\ ∃ (g0 : Nat), (g0 <= I.arcs.length /\ ((0 = 0 /\ ((0 = 0 /\ (0 = 0 /\ True)) /\ ((↑I.arcs.length : Int) = ↑I.arcs.length /\ ((0 : Int) = ↑g0 /\ True)))) /\ ((True /\ True) /\ (S2 I g = N3 I g0 /\ (List.replicate x.toNat (0 : Int) = L3 I g0 /\ (S2 I g = z1a I /\ ((0 = 0 /\ True) /\ ((zi2 I) /\ (I.arcs = I.arcs /\ True))))))))) /\ ∀ (g : Nat), g <= I.arcs.length -> (decide ((↑g : Int) < ↑I.arcs.length) = true -> True /\ (gOk (↑I.sup.length : Int) I.arcs (↑g : Int) = true -> (New_a10 I g) /\ (IntKind.i64.wrap (z93 I g)).toNat < (N3 I g).length /\ ∀ (x : Int), (N3 I g)[(IntKind.i64.wrap (z93 I g)).toNat]? = some x -> ((0 : Int) <= x /\ (x < (↑(L3 I g).length : Int))) /\ x.toNat < (L3 I g).length /\ (New_a10 I g) /\ (IntKind.i64.wrap (z93 I g)).toNat < (N3 I g).length /\ ∀ (x_1 : Int), (N3 I g)[(IntKind.i64.wrap (z93 I g)).toNat]? = some x_1 -> (New_a10 I g) /\ (IntKind.i64.wrap (z93 I g)).toNat < (N3 I g).length /\ (New_a12 I g x_1) /\ (IntKind.i64.wrap (zba I g)).toNat < (zgd I g x_1).length /\ ∀ (x_2 : Int), (zgd I g x_1)[(IntKind.i64.wrap (zba I g)).toNat]? = some x_2 -> ((0 : Int) <= x_2 /\ (x_2 < (↑((L3 I g).set x.toNat (↑g : Int)).length : Int))) /\ x_2.toNat < ((L3 I g).set x.toNat (↑g : Int)).length /\ (New_a12 I g x_1) /\ ((IntKind.i64.wrap (zba I g)).toNat < (zgd I g x_1).length /\ (∀ (x_3 : Int), (zgd I g x_1)[(IntKind.i64.wrap (zba I g)).toNat]? = some x_3 -> (New_a12 I g x_1) /\ ((IntKind.i64.wrap (zba I g)).toNat < (zgd I g x_1).length /\ (∃ (g' : Nat), g' <= I.arcs.length /\ (I.arcs.length - g' < I.arcs.length - g /\ ((0 = 0 /\ ((0 = 0 /\ (0 = 0 /\ True)) /\ (New_a5 I g g'))) /\ ((True /\ True) /\ ((zgd I g x_1).set (IntKind.i64.wrap (zba I g)).toNat (IntKind.i64.wrap (x_3 + (1 : Int))) = N3 I g' /\ (((L3 I g).set x.toNat (↑g : Int)).set x_2.toNat (↑g : Int) = L3 I g' /\ (z1a I = z1a I /\ ((0 = 0 /\ True) /\ ((zi2 I) /\ (I.arcs = I.arcs /\ True)))))))))))))) /\ (gOk (↑I.sup.length : Int) I.arcs (↑g : Int) = false -> ∃ (g' : Nat), g' <= I.arcs.length /\ (I.arcs.length - g' < I.arcs.length - g /\ ((0 = 0 /\ ((0 = 0 /\ (0 = 0 /\ True)) /\ (New_a5 I g g'))) /\ ((True /\ True) /\ (N3 I g = N3 I g' /\ (L3 I g = L3 I g' /\ (z1a I = z1a I /\ ((0 = 0 /\ True) /\ ((zi2 I) /\ (I.arcs = I.arcs /\ True))))))))))) /\ (decide ((↑g : Int) < ↑I.arcs.length) = false -> (0 = 0 /\ True) /\ ((zi2 I) /\ (I.arcs = I.arcs /\ (L3 I g = z43 I /\ (z1a I = z1a I /\ True)))))))
theorem New_q (I : Inst) (ty0 ty1 : TypeId) : New_E0 I ty0 ty1 = z48 TT New_g (New_I I) (New_an I) Try.f39 [.agg [.row 0, .row 1]] [(0, .row false ty0 (.ints .i64 I.sup)), (1, .row false ty1 (.arcs I.arcs))] (New_r I) := by kernel_rfl
theorem New_E (I : Inst) (ty0 ty1 : TypeId) (hp : I.sup.length <= 10000 /\ I.arcs.length <= 10000) : FVc TT New_g (New_I I) (New_an I) Try.f39 [.agg [.row 0, .row 1]] [(0, .row false ty0 (.ints .i64 I.sup)), (1, .row false ty1 (.arcs I.arcs))] (New_r I) := by
 refine FVc.of (New_E0 I ty0 ty1) (New_q I ty0 ty1) ?_
 unfold New_E0
 delta New_a13 New_a12 z94 New_a10 zcs New_a8 New_a7 New_a6 New_a5 zi3 zgd zi2 zba z93
 simp only [eq_self, exists_const, forall_const, decide_eq_true_eq, decide_eq_false_iff_not, and_true, true_and, bne_iff_ne, ne_eq, bne_eq_false_iff_eq, Int.toNat_natCast, Bool.not_eq_true', Bool.not_eq_false', beq_iff_eq, beq_eq_false_iff_ne, z09]
 obtain ⟨p1, p2⟩ := hp
 have e1 : IntKind.i64.wrap (2 * (I.sup.length : Int)) = ((2 * I.sup.length : Nat) : Int) := by rw [w64 (by omega) (by omega)]; omega
 have e2 : IntKind.i64.wrap (((2 * I.sup.length : Nat) : Int) + 1) = ((2 * I.sup.length + 1 : Nat) : Int) := by rw [w64 (by omega) (by omega)]; omega
 simp only [e1, e2, Int.toNat_natCast, show ∀ k, (S1 I k).length = 2 * I.sup.length + 1 from fun k => by simp [S1], show ∀ k, (S2 I k).length = 2 * I.sup.length + 1 from fun k => by simp [S2], show ∀ k, (N3 I k).length = 2 * I.sup.length + 1 from fun k => by simp [N3], List.length_set]
 have hL3 : ∀ k, k <= I.arcs.length -> (L3 I k).length = z91 I (2 * I.sup.length) := fun k hk => zj7 I (fun t => zhl hk t) _
 have hs1 : ∀ (k j : Nat) (v : Int), (S1 I k)[j]? = some v -> k <= I.arcs.length -> 0 <= v /\ v <= 10000 := fun k j v h hk => by
  have e := S1_get h
  subst e
  have := z98 I (j - 1) k
  split <;> omega
 have hsum : ∀ k, k <= 2 * I.sup.length -> z91 I k <= 200000000 := fun k hk => by
  have h1 := za9 I k (2 * I.sup.length - k)
  rw [show k + (2 * I.sup.length - k) = 2 * I.sup.length by omega] at h1
  have h2 := sumA_le I (2 * I.sup.length)
  have h3 : 2 * I.sup.length * I.arcs.length <= 20000 * 10000 := Nat.mul_le_mul (by omega) p2
  omega
 have arcs : ∀ k : Nat, k < I.arcs.length -> ∃ a, I.arcs[k]? = some a /\ gOk I.sup.length I.arcs k = z2w I.sup.length a /\ (z2w I.sup.length a = true -> z2e I.sup.length I.arcs k = a) := fun k hk => by
  have ha : I.arcs[k]? = some I.arcs[k] := List.getElem?_eq_getElem hk
  exact ⟨_, ha, zja (by omega) (by simpa using ha), fun ho => by rw [gArc_at (x := I.arcs[k]) (by omega) (by simpa using ha), if_pos ho]⟩
 refine ⟨by omega, by omega, 0, ⟨by omega, rfl, by rw [S1_zero]⟩, fun k hk => ⟨fun h1 => ?_, fun h1 => ?_⟩⟩
 ·obtain ⟨a, ha, hgo, hga⟩ := arcs k (by omega)
  rw [hgo]
  refine ⟨fun ho => ?_, fun ho => ⟨k + 1, by omega, by omega, w64 (by omega) (by omega), S1_same ha ho⟩⟩
  rw [hga ho]
  obtain ⟨o1, o2, o3, o4⟩ := okArc_iff.1 ho
  have f1 : IntKind.i64.wrap (IntKind.i64.wrap (IntKind.i64.wrap (2 * a.src) + 0) + 1) = 2 * a.src + 1 := by rw [w64 (x := 2 * a.src) (by omega) (by omega), w64 (x := 2 * a.src + 0) (by omega) (by omega), w64 (by omega) (by omega)]; omega
  have f2 : IntKind.i64.wrap (IntKind.i64.wrap (IntKind.i64.wrap (2 * a.dst) + 1) + 1) = 2 * a.dst + 2 := by rw [w64 (x := 2 * a.dst) (by omega) (by omega), w64 (x := 2 * a.dst + 1) (by omega) (by omega), w64 (by omega) (by omega)]; omega
  rw [f1, f2]
  refine ⟨by omega, by omega, fun x hx => ?_⟩
  have bx := hs1 k _ x hx hk
  rw [w64 (x := x + 1) (by omega) (by omega)]
  refine ⟨by omega, by omega, by omega, by omega, fun y hy => ?_⟩
  have hstep := S1_step ha ho hx hy
  have by' : 0 <= y /\ y <= 10001 := by
   rw [List.getElem?_set] at hy
   split at hy
   ·split at hy
    ·cases hy; omega
    ·cases hy
   ·have := hs1 k _ y hy hk; omega
  rw [w64 (x := y + 1) (by omega) (by omega)]
  exact ⟨by omega, by omega, k + 1, by omega, by omega, w64 (by omega) (by omega), hstep⟩
 have hk' : k = I.arcs.length := by omega
 refine ⟨0, ⟨by omega, ⟨trivial, rfl⟩, by rw [hk', S1_S2]⟩, fun k2 hk2 => ⟨fun h2 => ?_, fun h2 => ?_⟩⟩
 ·have f : IntKind.i64.wrap ((k2 : Int) + 1) = ((k2 + 1 : Nat) : Int) := by rw [w64 (by omega) (by omega)]; omega
  simp only [f, Int.toNat_natCast]
  refine ⟨by omega, by omega, fun x hx => ⟨by omega, by omega, fun y hy => ⟨by omega, by omega, k2 + 1, by omega, by omega, rfl, ?_⟩⟩⟩
  have hstep := S2_step (by omega) hx hy
  have ex := S2_get hx
  have ey := S2_get hy
  rw [if_neg (by omega)] at ex
  rw [if_pos (by omega)] at ey
  have c1 := z98 I (k2 + 1 - 1) I.arcs.length
  have c2 := hsum k2 hk2
  rw [w64 (by omega) (by omega), hstep]
 have hk2' : k2 = 2 * I.sup.length := by omega
 subst hk2'
 rw [S2_end]
 have hstart : (z1a I).length = 2 * I.sup.length + 1 := by simp [z1a]
 refine ⟨by omega, by omega, fun x hx => ?_⟩
 have ex := startF_get hx
 have bx := hsum (2 * I.sup.length) (by omega)
 subst ex
 refine ⟨by omega, by omega, 0, ⟨by omega, rfl, startF_N3 I, by rw [L3_zero]; simp, rfl⟩, fun m hm => ⟨fun h3 => ?_, fun h3 => ?_⟩⟩
 ·obtain ⟨a, ha, hgo, hga⟩ := arcs m (by omega)
  have hml : m < I.arcs.length := by omega
  rw [hgo]
  refine ⟨fun ho => ?_, fun ho => ?_⟩
  ·rw [hga ho]
   obtain ⟨o1, o2, o3, o4⟩ := okArc_iff.1 ho
   have f1 : IntKind.i64.wrap (IntKind.i64.wrap (2 * a.src) + 0) = ((2 * a.src).toNat : Int) := by rw [w64 (x := 2 * a.src) (by omega) (by omega), w64 (by omega) (by omega)]; omega
   have f2 : IntKind.i64.wrap (IntKind.i64.wrap (2 * a.dst) + 1) = ((2 * a.dst + 1).toNat : Int) := by rw [w64 (x := 2 * a.dst) (by omega) (by omega), w64 (by omega) (by omega)]; omega
   obtain ⟨P, hP⟩ : ∃ P, P = (2 * a.src).toNat := ⟨_, rfl⟩
   obtain ⟨Q, hQ⟩ : ∃ Q, Q = (2 * a.dst + 1).toNat := ⟨_, rfl⟩
   rw [f1, f2, <- hP, <- hQ]
   simp only [Int.toNat_natCast]
   have hne : Q ≠ P := by omega
   have hPn : P < 2 * I.sup.length := by omega
   have hQn : Q < 2 * I.sup.length := by omega
   have hin : ∀ j, inK I j m = true ↔ j = P ∨ j = Q := fun j => by
    rw [inK_of ha, ho, Bool.true_and, hasK_iff]; omega
   have iP := (hin P).2 (.inl rfl)
   have iQ := (hin Q).2 (.inr rfl)
   have room : ∀ j, j < 2 * I.sup.length -> inK I j m = true -> z91 I j + z71 I m j < z91 I (2 * I.sup.length) := fun j hj hi => by
    have h1 := cntA_lt hml hi
    have h2 := za9 I (j + 1) (2 * I.sup.length - (j + 1))
    rw [show j + 1 + (2 * I.sup.length - (j + 1)) = 2 * I.sup.length by omega] at h2
    have h4 : z91 I (j + 1) = z91 I j + z71 I I.arcs.length j := rfl
    omega
   have rP := room P hPn iP
   have rQ := room Q hQn iQ
   have hl := hL3 m hm
   have dQ : (fun t => t == P || (fun _ => false) t) Q = false := by simp [hne]
   refine ⟨by omega, by omega, fun x hx => ?_⟩
   rw [N3_nP] at hx
   have ex := nP_get hx rfl
   subst ex
   rw [hl]
   refine ⟨by omega, by omega, by omega, by omega, fun x1 hx1 => ?_⟩
   rw [N3_nP] at hx1
   have ex1 := nP_get hx1 rfl
   subst ex1
   rw [w64 (x := ((z91 I P + z71 I m P : Nat) : Int) + 1) (by omega) (by omega), N3_nP, nP_put iP rfl, L3_segP, Int.toNat_natCast, L3_put hml hPn iP rfl]
   refine ⟨by omega, by omega, by omega, by omega, fun x2 hx2 => ?_⟩
   have ex2 := nP_get hx2 dQ
   subst ex2
   refine ⟨by omega, by omega, by omega, by omega, fun x3 hx3 => ?_⟩
   have ex3 := nP_get hx3 dQ
   subst ex3
   rw [w64 (x := ((z91 I Q + z71 I m Q : Nat) : Int) + 1) (by omega) (by omega), nP_put iQ dQ, Int.toNat_natCast, L3_put hml hQn iQ dQ]
   refine ⟨by omega, by omega, m + 1, by omega, by omega, w64 (by omega) (by omega), ?_, ?_⟩
   ·exact nP_done hin
   ·exact L3_done hin
  ·obtain ⟨s1, s2⟩ := N3_same ha ho
   exact ⟨m + 1, by omega, by omega, w64 (by omega) (by omega), s1, s2⟩
 ·rw [show m = I.arcs.length by omega, L3_end]
theorem New_ok : SpecOk Try.prog New_n true (z05 true New_fs) :=
 z0b z0w (show z1s Try.prog New_g from z01 Copy_ok (z01 GArc_ok (z01 CloneI_ok (z01 put_ok (z06))))) (by kernel_rfl) mixedOrders Try.func39 rfl rfl (by kernel_rfl) (n := 1) (by decide +kernel) (I := New_IA) (fun _ _ => z07) (A := New_A)
  (fun args h r hr => by
   unfold New_fs at hr
   split at hr
   ·rename_i ty0 I_s ty1 I_a; cases hr; refine ⟨rfl, fun hp => ?_⟩; have hE := New_E ⟨I_s, I_a⟩ ty0 ty1 hp; exact hE
   ·cases hr)
def along_E0 (x : List Int) (a : Int) (ty0 : TypeId) : Prop :=
      (decide (a ≥ (↑x.length : Int)) = true -> ((0 : Int) = x.getD a.toNat (0 : Int) /\ True) /\ True) /\
 (decide (a ≥ (↑x.length : Int)) = false ->
 ((0 : Int) <= a /\ a < (↑x.length : Int)) /\ a.toNat < x.length /\ ∀ (x_1 : Int), x[a.toNat]? = some x_1 -> (x_1 = x.getD a.toNat (0 : Int) /\ True) /\ True)
theorem along_q (x : List Int) (a : Int) (ty0 : TypeId) : along_E0 x a ty0 = z48 TT along_g (along_I x a) (along_an x a) Try.f41 [.row 0, .int .i64 a] [(0, .row false ty0 (.ints .i64 x))] (along_r x a) := by kernel_rfl
theorem along_E (x : List Int) (a : Int) (ty0 : TypeId) (hp : 0 <= a) : FVc TT along_g (along_I x a) (along_an x a) Try.f41 [.row 0, .int .i64 a] [(0, .row false ty0 (.ints .i64 x))] (along_r x a) := by
 refine FVc.of (along_E0 x a ty0) (along_q x a ty0) ?_
 unfold along_E0
 simp only [eq_self, exists_const, forall_const, decide_eq_true_eq, decide_eq_false_iff_not, and_true, true_and, bne_iff_ne, ne_eq, bne_eq_false_iff_eq, Int.toNat_natCast, Bool.not_eq_true', Bool.not_eq_false', beq_iff_eq, beq_eq_false_iff_ne, z09]
 refine ⟨fun h => ?_, fun h => ⟨by omega, by omega, fun y hy => by simp [List.getD, hy]⟩⟩
 simp [List.getD, show ¬ a.toNat < x.length by omega]
theorem along_ok : SpecOk Try.prog along_n true (z05 true along_fs) :=
 z0b z0w (show z1s Try.prog along_g from z06) (by kernel_rfl) mixedOrders Try.func41 rfl rfl (by kernel_rfl) (n := 2) (by decide +kernel) (I := along_IA) (fun _ _ => z07) (A := along_A)
  (fun args h r hr => by
   unfold along_fs at hr
   split at hr
   ·rename_i a ty0 x; cases hr; refine ⟨rfl, fun hp => ?_⟩; have hE := along_E x a ty0 hp; exact hE
   ·cases hr)
def Cost_E0 (I : Inst) (x : List Int) (ty0 ty1 ty2 : TypeId) : Prop :=
      ∃ (g0 : Nat),
 (g0 <= I.arcs.length /\
 (True /\ (0 : Nat) = (0 : Nat) /\ (0 : Nat) = (0 : Nat) /\ True /\ (↑I.arcs.length : Int) = (↑I.arcs.length : Int) /\ (0 : Int) = (↑g0 : Int) /\ True) /\
 ((0 : Int) = (W (z34 I.arcs x g0)).hi /\ (0 : Int) = (W (z34 I.arcs x g0)).lo /\ True) /\
 ((0 : Int) = (0 : Int) /\ (0 : Int) = (0 : Int) /\ True) /\ I.arcs = I.arcs /\ x = x /\ True) /\
 ∀ (g : Nat),
 g <= I.arcs.length ->
 (decide ((↑g : Int) < (↑I.arcs.length : Int)) = true ->
 ((0 : Int) <= (↑g : Int) /\ (↑g : Int) < (↑I.arcs.length : Int)) /\
 (↑g : Int).toNat < I.arcs.length /\
 ∀ (x_1 : Arc),
 I.arcs[(↑g : Int).toNat]? = some x_1 ->
 (0 : Int) <= (↑g : Int) /\
 (I64 x_1.cost /\ I64 (x.getD (↑g : Int).toNat (0 : Int))) /\
 ((W (z34 I.arcs x g)).ok /\ (W (x_1.cost * x.getD (↑g : Int).toNat (0 : Int))).ok) /\
 ∃ (g' : Nat),
 g' <= I.arcs.length /\
 I.arcs.length - g' < I.arcs.length - g /\
 (True /\
 (0 : Nat) = (0 : Nat) /\
 (0 : Nat) = (0 : Nat) /\
 True /\ (↑I.arcs.length : Int) = (↑I.arcs.length : Int) /\ IntKind.i64.wrap ((↑g : Int) + (1 : Int)) = (↑g' : Int) /\ True) /\
 ((z53 (W (z34 I.arcs x g)) (W (x_1.cost * x.getD (↑g : Int).toNat (0 : Int)))).hi = (W (z34 I.arcs x g')).hi /\
 (z53 (W (z34 I.arcs x g)) (W (x_1.cost * x.getD (↑g : Int).toNat (0 : Int)))).lo = (W (z34 I.arcs x g')).lo /\ True) /\
 ((0 : Int) = (0 : Int) /\ (0 : Int) = (0 : Int) /\ True) /\ I.arcs = I.arcs /\ x = x /\ True) /\
 (decide ((↑g : Int) < (↑I.arcs.length : Int)) = false ->
 (((W (z34 I.arcs x g)).hi = (W (z5p I x)).hi /\ (W (z34 I.arcs x g)).lo = (W (z5p I x)).lo /\ True) /\ True) /\ True)
theorem Cost_q (I : Inst) (x : List Int) (ty0 ty1 ty2 : TypeId) : Cost_E0 I x ty0 ty1 ty2 = z48 TT Cost_g (Cost_I I x) (Cost_an I x) Try.f34 [.agg [.row 0, .row 1], .row 2] [(0, .row false ty0 (.ints .i64 I.sup)), (1, .row false ty1 (.arcs I.arcs)), (2, .row false ty2 (.ints .i64 x))] (Cost_r I x) := by kernel_rfl
theorem Cost_E (I : Inst) (x : List Int) (ty0 ty1 ty2 : TypeId) (hp : A64 x /\ A64c I.arcs /\ I.arcs.length <= 1000000) : FVc TT Cost_g (Cost_I I x) (Cost_an I x) Try.f34 [.agg [.row 0, .row 1], .row 2] [(0, .row false ty0 (.ints .i64 I.sup)), (1, .row false ty1 (.arcs I.arcs)), (2, .row false ty2 (.ints .i64 x))] (Cost_r I x) := by
 refine FVc.of (Cost_E0 I x ty0 ty1 ty2) (Cost_q I x ty0 ty1 ty2) ?_
 unfold Cost_E0
 simp only [eq_self, exists_const, forall_const, decide_eq_true_eq, decide_eq_false_iff_not, and_true, true_and, bne_iff_ne, ne_eq, bne_eq_false_iff_eq, Int.toNat_natCast, Bool.not_eq_true', Bool.not_eq_false', beq_iff_eq, beq_eq_false_iff_ne, z09]
 obtain ⟨p1, p2, p3⟩ := hp
 refine ⟨0, ⟨by omega, rfl, by simp only [z34, W_zero], by simp only [z34, W_zero]⟩, fun k hk => ⟨fun h1 => ⟨by omega, by omega, fun a ha => ?_⟩, fun h1 => ?_⟩⟩
 ·have hc := p2 a (List.mem_of_getElem? ha)
  have hg : I.arcs.getD k default = a := by simp [List.getD, ha]
  have hx := p1.getD k
  rw [zm9]
  refine ⟨by omega, ⟨hc, hx⟩, ⟨W_ok _, W_ok _⟩, k + 1, by omega, by omega, w64 (by omega) (by omega), ?_⟩
  rw [show z34 I.arcs x (k + 1) = z34 I.arcs x k + a.cost * x.getD k 0 by simp only [z34, hg]]
  exact ⟨rfl, rfl⟩
 ·rw [show k = I.arcs.length by omega]
  exact ⟨rfl, rfl⟩
theorem Cost_ok : SpecOk Try.prog Cost_n true (z05 true Cost_fs) :=
 z0b z0w (show z1s Try.prog Cost_g from z01 along_ok (z01 Times_ok (z01 Plus_ok (z06)))) (by kernel_rfl) mixedOrders Try.func34 rfl rfl (by kernel_rfl) (n := 2) (by decide +kernel) (I := Cost_IA) (fun _ _ => z07) (A := Cost_A)
  (fun args h r hr => by
   unfold Cost_fs at hr
   split at hr
   ·rename_i ty0 I_s ty1 I_a ty2 x; cases hr; refine ⟨rfl, fun hp => ?_⟩; have hE := Cost_E ⟨I_s, I_a⟩ x ty0 ty1 ty2 hp; exact hE
   ·cases hr)
def rArc_E0 (I : Inst) (a : Int) (ty0 ty1 : TypeId) : Prop :=
      True /\
 ((!gOk (↑I.sup.length : Int) I.arcs a) = true ->
 ((((0 : Int) = (z2e (↑I.sup.length : Int) I.arcs a).src /\
 (0 : Int) = (z2e (↑I.sup.length : Int) I.arcs a).dst /\
 (0 : Int) = (z2e (↑I.sup.length : Int) I.arcs a).low /\
 (0 : Int) = (z2e (↑I.sup.length : Int) I.arcs a).cap /\ (0 : Int) = (z2e (↑I.sup.length : Int) I.arcs a).cost /\ True) /\
 false = gOk (↑I.sup.length : Int) I.arcs a /\ True) /\
 True) /\
 True) /\
 ((!gOk (↑I.sup.length : Int) I.arcs a) = false ->
 ((0 : Int) <= a /\ a < (↑I.arcs.length : Int)) /\
 a.toNat < I.arcs.length /\
 ∀ (x : Arc),
 I.arcs[a.toNat]? = some x ->
 (((x.src = (z2e (↑I.sup.length : Int) I.arcs a).src /\
 x.dst = (z2e (↑I.sup.length : Int) I.arcs a).dst /\
 x.low = (z2e (↑I.sup.length : Int) I.arcs a).low /\
 x.cap = (z2e (↑I.sup.length : Int) I.arcs a).cap /\ x.cost = (z2e (↑I.sup.length : Int) I.arcs a).cost /\ True) /\
 true = gOk (↑I.sup.length : Int) I.arcs a /\ True) /\
 True) /\
 True)
theorem rArc_q (I : Inst) (a : Int) (ty0 ty1 : TypeId) : rArc_E0 I a ty0 ty1 = z48 TT rArc_g (rArc_I I a) (rArc_an I a) Try.f134 [.agg [.row 0, .row 1], .int .i64 a] [(0, .row false ty0 (.ints .i64 I.sup)), (1, .row false ty1 (.arcs I.arcs))] (rArc_r I a) := by kernel_rfl
theorem rArc_E (I : Inst) (a : Int) (ty0 ty1 : TypeId) (hp : True) : FVc TT rArc_g (rArc_I I a) (rArc_an I a) Try.f134 [.agg [.row 0, .row 1], .int .i64 a] [(0, .row false ty0 (.ints .i64 I.sup)), (1, .row false ty1 (.arcs I.arcs))] (rArc_r I a) := by
 refine FVc.of (rArc_E0 I a ty0 ty1) (rArc_q I a ty0 ty1) ?_
 unfold rArc_E0
 simp only [eq_self, exists_const, forall_const, decide_eq_true_eq, decide_eq_false_iff_not, and_true, true_and, bne_iff_ne, ne_eq, bne_eq_false_iff_eq, Int.toNat_natCast, Bool.not_eq_true', Bool.not_eq_false', beq_iff_eq, beq_eq_false_iff_ne, z09]
 refine ⟨fun h => ?_, fun h => ?_⟩
 ·unfold z2e
  rw [h]; simp
 ·have hb : 0 <= a /\ a < (I.arcs.length : Int) := by
   have h' := h
   unfold gOk at h'
   simp only [Bool.and_eq_true, decide_eq_true_eq] at h'
   exact h'.1
  refine ⟨hb, by omega, fun x hx => ?_⟩
  have hg : I.arcs.getD a.toNat default = x := by simp [List.getD, hx]
  unfold z2e
  rw [h, if_pos rfl, hg]
  simp
theorem rArc_ok : SpecOk Try.prog rArc_n true (z05 true rArc_fs) :=
 z0b z0w (show z1s Try.prog rArc_g from z01 rfit_ok (z06)) (by kernel_rfl) mixedOrders Try.func134 rfl rfl (by kernel_rfl) (n := 2) (by decide +kernel) (I := rArc_IA) (fun _ _ => z07) (A := rArc_A)
  (fun args h r hr => by
   unfold rArc_fs at hr
   split at hr
   ·rename_i a ty0 I_s ty1 I_a; cases hr; refine ⟨rfl, fun hp => ?_⟩; have hE := rArc_E ⟨I_s, I_a⟩ a ty0 ty1 hp; exact hE
   ·cases hr)
def At_E0 (x : List Int) (a : Int) (ty0 : TypeId) : Prop :=
      (decide (a < (0 : Int)) = true -> (((0 : Int) = if (0 : Int) <= a then x.getD a.toNat (0 : Int) else (0 : Int)) /\ True) /\ True) /\
 (decide (a < (0 : Int)) = false ->
 (decide (a ≥ (↑x.length : Int)) = true -> (((0 : Int) = if (0 : Int) <= a then x.getD a.toNat (0 : Int) else (0 : Int)) /\ True) /\ True) /\
 (decide (a ≥ (↑x.length : Int)) = false ->
 ((0 : Int) <= a /\ a < (↑x.length : Int)) /\
 a.toNat < x.length /\ ∀ (x_1 : Int), x[a.toNat]? = some x_1 -> ((x_1 = if (0 : Int) <= a then x.getD a.toNat (0 : Int) else (0 : Int)) /\ True) /\ True))
theorem At_q (x : List Int) (a : Int) (ty0 : TypeId) : At_E0 x a ty0 = z48 TT At_g (At_I x a) (At_an x a) Try.f136 [.row 0, .int .i64 a] [(0, .row false ty0 (.ints .i64 x))] (At_r x a) := by kernel_rfl
theorem At_E (x : List Int) (a : Int) (ty0 : TypeId) (hp : True) : FVc TT At_g (At_I x a) (At_an x a) Try.f136 [.row 0, .int .i64 a] [(0, .row false ty0 (.ints .i64 x))] (At_r x a) := by
 refine FVc.of (At_E0 x a ty0) (At_q x a ty0) ?_
 unfold At_E0
 simp only [eq_self, exists_const, forall_const, decide_eq_true_eq, decide_eq_false_iff_not, and_true, true_and, bne_iff_ne, ne_eq, bne_eq_false_iff_eq, Int.toNat_natCast, Bool.not_eq_true', Bool.not_eq_false', beq_iff_eq, beq_eq_false_iff_ne, z09]
 refine ⟨fun h => by rw [if_neg (by omega)], fun h => ⟨fun h2 => ?_, fun h2 => ⟨by omega, by omega, fun y hy => ?_⟩⟩⟩
 ·rw [if_pos (by omega)]; simp [List.getD, show ¬ a.toNat < x.length by omega]
 ·rw [if_pos (by omega)]; simp [List.getD, hy]
theorem At_ok : SpecOk Try.prog At_n true (z05 true At_fs) :=
 z0b z0w (show z1s Try.prog At_g from z06) (by kernel_rfl) mixedOrders Try.func136 rfl rfl (by kernel_rfl) (n := 2) (by decide +kernel) (I := At_IA) (fun _ _ => z07) (A := At_A)
  (fun args h r hr => by
   unfold At_fs at hr
   split at hr
   ·rename_i a ty0 x; cases hr; refine ⟨rfl, fun hp => ?_⟩; have hE := At_E x a ty0 hp; exact hE
   ·cases hr)
abbrev rNet_a0 (I : Inst) (g_1 : Nat × Nat) (x : List Int) (g0 : Nat × Nat) := (gOk (↑I.sup.length : Int) I.arcs (↑g_1.2 : Int) = true -> (((z2e (↑I.sup.length : Int) I.arcs (↑g_1.2 : Int)).dst == (↑g_1.1 : Int)) = true -> True /\ (I64 (if (0 : Int) <= (↑g_1.2 : Int) then x.getD (↑g_1.2 : Int).toNat (0 : Int) else (0 : Int)) /\ (((W (z2y (↑I.sup.length : Int) I.arcs x g_1.2 (↑g_1.1 : Int))).ok /\ ((W (if (0 : Int) <= (↑g_1.2 : Int) then x.getD (↑g_1.2 : Int).toNat (0 : Int) else (0 : Int))).ok)) /\ (∃ (g' : Nat × Nat), (g'.fst < I.sup.length /\ (g'.fst = g0.fst /\ (g'.snd <= I.arcs.length))) /\ (I.arcs.length - g'.snd < I.arcs.length - g_1.snd /\ ((True /\ (0 = 0 /\ (True /\ ((↑g_1.1 : Int) = ↑g'.1 /\ (0 = 0 /\ (IntKind.i64.wrap ((↑g_1.2 : Int) + (1 : Int)) = (↑g'.2 : Int) /\ True)))))) /\ (((z52 (W (z2y (↑I.sup.length : Int) I.arcs x g_1.2 (↑g_1.1 : Int))) (W (if (0 : Int) <= (↑g_1.2 : Int) then x.getD (↑g_1.2 : Int).toNat (0 : Int) else (0 : Int)))).hi = (W (z2y (↑I.sup.length : Int) I.arcs x g'.2 (↑g'.1 : Int))).hi /\ ((z52 (W (z2y (↑I.sup.length : Int) I.arcs x g_1.2 (↑g_1.1 : Int))) (W (if (0 : Int) <= (↑g_1.2 : Int) then x.getD (↑g_1.2 : Int).toNat (0 : Int) else (0 : Int)))).lo = (W (z2y (↑I.sup.length : Int) I.arcs x g'.2 (↑g'.1 : Int))).lo /\ True)) /\ (List.take g_1.1 (z90 I x) = List.take g'.1 (z90 I x) /\ ((True /\ (True /\ True)) /\ (I.sup = I.sup /\ (I.arcs = I.arcs /\ (x = x /\ True)))))))))))) /\ (((z2e (↑I.sup.length : Int) I.arcs (↑g_1.2 : Int)).dst == (↑g_1.1 : Int)) = false -> ∃ (g' : Nat × Nat), (g'.fst < I.sup.length /\ (g'.fst = g0.fst /\ (g'.snd <= I.arcs.length))) /\ (I.arcs.length - g'.snd < I.arcs.length - g_1.snd /\ ((True /\ (0 = 0 /\ (True /\ ((↑g_1.1 : Int) = ↑g'.1 /\ (0 = 0 /\ (IntKind.i64.wrap ((↑g_1.2 : Int) + (1 : Int)) = (↑g'.2 : Int) /\ True)))))) /\ (((W (z2y (↑I.sup.length : Int) I.arcs x g_1.2 (↑g_1.1 : Int))).hi = (W (z2y (↑I.sup.length : Int) I.arcs x g'.2 (↑g'.1 : Int))).hi /\ ((W (z2y (↑I.sup.length : Int) I.arcs x g_1.2 (↑g_1.1 : Int))).lo = (W (z2y (↑I.sup.length : Int) I.arcs x g'.2 (↑g'.1 : Int))).lo /\ True)) /\ (List.take g_1.1 (z90 I x) = List.take g'.1 (z90 I x) /\ ((True /\ (True /\ True)) /\ (I.sup = I.sup /\ (I.arcs = I.arcs /\ (x = x /\ True))))))))))
abbrev z5w (g_1 : Nat × Nat) (x : List Int) := (if (0 : Int) <= (↑g_1.2 : Int) then x.getD (↑g_1.2 : Int).toNat (0 : Int) else (0 : Int))
abbrev rNet_a2 (I : Inst) (g_1 : Nat × Nat) (g0 : Nat × Nat) (x : List Int) := (gOk (↑I.sup.length : Int) I.arcs (↑g_1.2 : Int) = false -> ∃ (g' : Nat × Nat), (g'.fst < I.sup.length /\ (g'.fst = g0.fst /\ (g'.snd <= I.arcs.length))) /\ (I.arcs.length - g'.snd < I.arcs.length - g_1.snd /\ ((True /\ (0 = 0 /\ (True /\ ((↑g_1.1 : Int) = ↑g'.1 /\ (0 = 0 /\ (IntKind.i64.wrap ((↑g_1.2 : Int) + (1 : Int)) = (↑g'.2 : Int) /\ True)))))) /\ (((W (z2y (↑I.sup.length : Int) I.arcs x g_1.2 (↑g_1.1 : Int))).hi = (W (z2y (↑I.sup.length : Int) I.arcs x g'.2 (↑g'.1 : Int))).hi /\ ((W (z2y (↑I.sup.length : Int) I.arcs x g_1.2 (↑g_1.1 : Int))).lo = (W (z2y (↑I.sup.length : Int) I.arcs x g'.2 (↑g'.1 : Int))).lo /\ True)) /\ (List.take g_1.1 (z90 I x) = List.take g'.1 (z90 I x) /\ ((True /\ (True /\ True)) /\ (I.sup = I.sup /\ (I.arcs = I.arcs /\ (x = x /\ True)))))))))
abbrev rNet_a3 (I : Inst) (g' : Nat × Nat) (g_1 : Nat × Nat) (x : List Int) := (I.arcs.length - g'.snd < I.arcs.length - g_1.snd /\ ((True /\ (0 = 0 /\ (True /\ ((↑g_1.1 : Int) = ↑g'.1 /\ (0 = 0 /\ (IntKind.i64.wrap ((↑g_1.2 : Int) + (1 : Int)) = (↑g'.2 : Int) /\ True)))))) /\ (((z53 (W (z2y (↑I.sup.length : Int) I.arcs x g_1.2 (↑g_1.1 : Int))) (W (z5w g_1 x))).hi = (W (z2y (↑I.sup.length : Int) I.arcs x g'.2 (↑g'.1 : Int))).hi /\ ((z53 (W (z2y (↑I.sup.length : Int) I.arcs x g_1.2 (↑g_1.1 : Int))) (W (z5w g_1 x))).lo = (W (z2y (↑I.sup.length : Int) I.arcs x g'.2 (↑g'.1 : Int))).lo /\ True)) /\ (List.take g_1.1 (z90 I x) = List.take g'.1 (z90 I x) /\ ((True /\ (True /\ True)) /\ (I.sup = I.sup /\ (I.arcs = I.arcs /\ (x = x /\ True))))))))
abbrev zkl (I : Inst) (x : List Int) := ((True /\ (True /\ True)) /\ (I.sup = I.sup /\ (I.arcs = I.arcs /\ (x = x /\ True))))
abbrev zfi (I : Inst) (x : List Int) (g_1 : Nat × Nat) := (z2y (↑I.sup.length : Int) I.arcs x g_1.2 (↑g_1.1 : Int))
def rNet_E0 (I : Inst) (x : List Int) (ty0 ty1 ty2 : TypeId) : Prop :=
   ∃ (g0 : Nat), (g0 <= I.sup.length /\ ((True /\ (0 = 0 /\ (True /\ ((0 : Int) = ↑g0 /\ True)))) /\ ([] = List.take g0 (z90 I x) /\ (zkl I x)))) /\ ∀ (g : Nat), g <= I.sup.length -> (decide ((↑g : Int) < ↑I.sup.length) = true -> ∃ (g0 : Nat × Nat), ((g0.fst < I.sup.length /\ (g0.fst = g0.fst /\ (g0.snd <= I.arcs.length))) /\ ((True /\ (0 = 0 /\ (True /\ ((↑g : Int) = ↑g0.1 /\ (0 = 0 /\ ((0 : Int) = ↑g0.2 /\ True)))))) /\ (((0 : Int) = (W (z2y (↑I.sup.length : Int) I.arcs x g0.2 (↑g0.1 : Int))).hi /\ ((0 : Int) = (W (z2y (↑I.sup.length : Int) I.arcs x g0.2 (↑g0.1 : Int))).lo /\ True)) /\ (List.take g (z90 I x) = List.take g0.1 (z90 I x) /\ (zkl I x))))) /\ ∀ (g_1 : Nat × Nat), g_1.fst < I.sup.length /\ g_1.fst = g0.fst /\ g_1.snd <= I.arcs.length -> (decide ((↑g_1.2 : Int) < ↑I.arcs.length) = true -> True /\ (gOk (↑I.sup.length : Int) I.arcs (↑g_1.2 : Int) = true -> (((z2e (↑I.sup.length : Int) I.arcs (↑g_1.2 : Int)).src == (↑g_1.1 : Int)) = true -> True /\ I64 (z5w g_1 x) /\ ((W (zfi I x g_1)).ok /\ ((W (z5w g_1 x)).ok)) /\ (gOk (↑I.sup.length : Int) I.arcs (↑g_1.2 : Int) = true -> (((z2e (↑I.sup.length : Int) I.arcs (↑g_1.2 : Int)).dst == (↑g_1.1 : Int)) = true -> True /\ (I64 (z5w g_1 x) /\ (((z53 (W (zfi I x g_1)) (W (z5w g_1 x))).ok /\ ((W (z5w g_1 x)).ok)) /\ (∃ (g' : Nat × Nat), (g'.fst < I.sup.length /\ (g'.fst = g0.fst /\ (g'.snd <= I.arcs.length))) /\ (I.arcs.length - g'.snd < I.arcs.length - g_1.snd /\ ((True /\ (0 = 0 /\ (True /\ ((↑g_1.1 : Int) = ↑g'.1 /\ (0 = 0 /\ (IntKind.i64.wrap ((↑g_1.2 : Int) + (1 : Int)) = (↑g'.2 : Int) /\ True)))))) /\ (((z52 (z53 (W (zfi I x g_1)) (W (z5w g_1 x))) (W (z5w g_1 x))).hi = (W (z2y (↑I.sup.length : Int) I.arcs x g'.2 (↑g'.1 : Int))).hi /\ ((z52 (z53 (W (zfi I x g_1)) (W (z5w g_1 x))) (W (z5w g_1 x))).lo = (W (z2y (↑I.sup.length : Int) I.arcs x g'.2 (↑g'.1 : Int))).lo /\ True)) /\ (List.take g_1.1 (z90 I x) = List.take g'.1 (z90 I x) /\ (zkl I x))))))))) /\ (((z2e (↑I.sup.length : Int) I.arcs (↑g_1.2 : Int)).dst == (↑g_1.1 : Int)) = false -> ∃ (g' : Nat × Nat), (g'.fst < I.sup.length /\ (g'.fst = g0.fst /\ (g'.snd <= I.arcs.length))) /\ (rNet_a3 I g' g_1 x))) /\ (gOk (↑I.sup.length : Int) I.arcs (↑g_1.2 : Int) = false -> ∃ (g' : Nat × Nat), (g'.fst < I.sup.length /\ (g'.fst = g0.fst /\ (g'.snd <= I.arcs.length))) /\ (rNet_a3 I g' g_1 x))) /\ (((z2e (↑I.sup.length : Int) I.arcs (↑g_1.2 : Int)).src == (↑g_1.1 : Int)) = false -> (rNet_a0 I g_1 x g0) /\ (rNet_a2 I g_1 g0 x))) /\ (gOk (↑I.sup.length : Int) I.arcs (↑g_1.2 : Int) = false -> (rNet_a0 I g_1 x g0) /\ (rNet_a2 I g_1 g0 x))) /\ (decide ((↑g_1.2 : Int) < ↑I.arcs.length) = false -> (List.take g_1.1 (z90 I x)).length + (1 : Nat) <= 1000000000 /\ (∃ (g' : Nat), g' <= I.sup.length /\ (I.sup.length - g' < I.sup.length - g /\ ((True /\ (0 = 0 /\ (True /\ (IntKind.i64.wrap ((↑g_1.1 : Int) + (1 : Int)) = (↑g' : Int) /\ True)))) /\ (List.take g_1.1 (z90 I x) ++ [W (zfi I x g_1)] = List.take g' (z90 I x) /\ (zkl I x))))))) /\ (decide ((↑g : Int) < ↑I.sup.length) = false -> (True /\ True) /\ (List.take g (z90 I x) = z90 I x /\ True))
theorem rNet_q (I : Inst) (x : List Int) (ty0 ty1 ty2 : TypeId) : rNet_E0 I x ty0 ty1 ty2 = z48 TT rNet_g (rNet_I I x) (rNet_an I x) Try.f113 [.agg [.row 0, .row 1], .row 2] [(0, .row false ty0 (.ints .i64 I.sup)), (1, .row false ty1 (.arcs I.arcs)), (2, .row false ty2 (.ints .i64 x))] (rNet_r I x) := by kernel_rfl
theorem rNet_E (I : Inst) (x : List Int) (ty0 ty1 ty2 : TypeId) (hp : A64 x /\ I.sup.length <= 10000 /\ I.arcs.length <= 10000) : FVc TT rNet_g (rNet_I I x) (rNet_an I x) Try.f113 [.agg [.row 0, .row 1], .row 2] [(0, .row false ty0 (.ints .i64 I.sup)), (1, .row false ty1 (.arcs I.arcs)), (2, .row false ty2 (.ints .i64 x))] (rNet_r I x) := by
 refine FVc.of (rNet_E0 I x ty0 ty1 ty2) (rNet_q I x ty0 ty1 ty2) ?_
 unfold rNet_E0
 delta zfi zkl rNet_a3 rNet_a2 z5w rNet_a0
 simp only [eq_self, exists_const, forall_const, decide_eq_true_eq, decide_eq_false_iff_not, and_true, true_and, bne_iff_ne, ne_eq, bne_eq_false_iff_eq, Int.toNat_natCast, Bool.not_eq_true', Bool.not_eq_false', beq_iff_eq, beq_eq_false_iff_ne, z09]
 obtain ⟨p1, p2, p3⟩ := hp
 have hA : ∀ k : Nat, (if 0 <= (k : Int) then x.getD k 0 else 0) = x.getD k 0 := fun k => if_pos (by omega)
 simp only [hA, zm9, wminus_W]
 refine ⟨0, ⟨by omega, rfl, by simp⟩, fun v hv => ⟨fun h1 => ⟨(v, 0), ⟨⟨by dsimp only; omega, by dsimp only; omega⟩, ⟨rfl, rfl⟩, ⟨by simp only [z2y, W_zero], by simp only [z2y, W_zero]⟩, rfl⟩, fun g hg => ?_⟩, fun h1 => ?_⟩⟩
 ·obtain ⟨v', k⟩ := g
  dsimp only at hg ⊢
  obtain ⟨g1, rfl, g3⟩ := hg
  have leaf : k < I.arcs.length -> ∀ z : Int, z = z2y I.sup.length I.arcs x (k + 1) v' -> ∃ g' : Nat × Nat, (g'.fst < I.sup.length /\ g'.fst = v' /\ g'.snd <= I.arcs.length) /\ I.arcs.length - g'.snd < I.arcs.length - k /\ ((v' : Int) = (g'.fst : Int) /\ IntKind.i64.wrap ((k : Int) + 1) = (g'.snd : Int)) /\
    ((W z).hi = (W (z2y I.sup.length I.arcs x g'.snd g'.fst)).hi /\ (W z).lo = (W (z2y I.sup.length I.arcs x g'.snd g'.fst)).lo) /\ (z90 I x).take v' = (z90 I x).take g'.fst := fun hk z hz =>
   ⟨(v', k + 1), ⟨by dsimp only; omega, rfl, by dsimp only; omega⟩, by dsimp only; omega, ⟨rfl, w64 (by omega) (by omega)⟩, by rw [hz]; exact ⟨rfl, rfl⟩, rfl⟩
  refine ⟨fun h2 => ?_, fun h2 => ?_⟩
  ·obtain ⟨a, ha⟩ : ∃ a, I.arcs[k]? = some a := ⟨_, List.getElem?_eq_getElem (by omega)⟩
   have hg : I.arcs.getD k default = a := by simp [List.getD, ha]
   have e1 : gOk I.sup.length I.arcs k = z2w I.sup.length a := zja (by omega) (by simpa using ha)
   have e2 : z2e I.sup.length I.arcs k = if z2w I.sup.length a then a else ⟨0, 0, 0, 0, 0⟩ := gArc_at (by omega) (by simpa using ha)
   have hx := p1.getD k
   have hk : k < I.arcs.length := by omega
   rw [e1, e2]
   cases ho : z2w I.sup.length a with
   | false =>
    refine ⟨fun h => (by cases h), fun _ => ⟨fun h => (by cases h), fun _ => leaf hk _ ?_⟩⟩
    simp only [z2y, hg, z4m, ho]; simp
   | true =>
    simp only [if_true]
    refine ⟨fun _ => ⟨fun hs => ⟨hx, ⟨W_ok _, W_ok _⟩, fun _ => ⟨fun hd => ⟨hx, ⟨W_ok _, W_ok _⟩, leaf hk _ ?_⟩, fun hd => leaf hk _ ?_⟩, fun h => (by cases h)⟩, fun hs => ⟨fun _ => ⟨fun hd => ⟨hx, ⟨W_ok _, W_ok _⟩, leaf hk _ ?_⟩, fun hd => leaf hk _ ?_⟩, fun h => (by cases h)⟩⟩, fun h => (by cases h)⟩
    all_goals
     simp only [z2y, hg, z4m, ho, if_true, hs, hd, if_false]
     omega
  ·have hkl : k = I.arcs.length := by omega
   subst hkl
   refine ⟨by rw [List.length_take, netF_len]; omega, v' + 1, by omega, by omega, w64 (by omega) (by omega), ?_⟩
   have : (z90 I x)[v']? = some (W (z2y I.sup.length I.arcs x I.arcs.length v')) := by
    unfold z90
    rw [List.getElem?_map, List.getElem?_range g1]
    rfl
   rw [z28 this]
 ·rw [List.take_of_length_le (by rw [netF_len]; omega)]
theorem rNet_ok : SpecOk Try.prog rNet_n true (z05 true rNet_fs) :=
 z0b z0w (show z1s Try.prog rNet_g from z01 rArc_ok (z01 rOf_ok (z01 zhi (z01 rMinus_ok (z01 At_ok (z06)))))) (by kernel_rfl) mixedOrders Try.func113 rfl rfl (by kernel_rfl) (n := 2) (by decide +kernel) (I := rNet_IA) (fun _ _ => z07) (A := rNet_A)
  (fun args h r hr => by
   unfold rNet_fs at hr
   split at hr
   ·rename_i ty0 I_s ty1 I_a ty2 x; cases hr; refine ⟨rfl, fun hp => ?_⟩; have hE := rNet_E ⟨I_s, I_a⟩ x ty0 ty1 ty2 hp; exact hE
   ·cases hr)
def zfc (x : Arc) (n : Int) : Prop :=
      (decide (n ≥ x.low) = true ->
 ((x.cap == (4611686018427387904 : Int)) = true -> (true = fitF x n /\ True) /\ True) /\
 ((x.cap == (4611686018427387904 : Int)) = false -> (decide (n <= x.cap) = fitF x n /\ True) /\ True)) /\
 (decide (n ≥ x.low) = false -> (false = fitF x n /\ True) /\ True)
theorem rBounds_q (x : Arc) (n : Int) : zfc x n = z48 TT zkf (rBounds_I x n) (rBounds_an x n) Try.f112 [.agg (z7l x), .int .i64 n] [] (zkg x n) := by kernel_rfl
theorem rBounds_E (x : Arc) (n : Int) (hp : True) : FVc TT zkf (rBounds_I x n) (rBounds_an x n) Try.f112 [.agg (z7l x), .int .i64 n] [] (zkg x n) := by
 refine FVc.of (zfc x n) (rBounds_q x n) ?_
 unfold zfc
 simp only [eq_self, exists_const, forall_const, decide_eq_true_eq, decide_eq_false_iff_not, and_true, true_and, bne_iff_ne, ne_eq, bne_eq_false_iff_eq, Int.toNat_natCast, Bool.not_eq_true', Bool.not_eq_false', beq_iff_eq, beq_eq_false_iff_ne, z09]
 unfold fitF inf
 refine ⟨fun h => ⟨fun h2 => ?_, fun h2 => ?_⟩, fun h => ?_⟩
 ·simp [h2]; omega
 ·simp [h2]; omega
 ·simp; omega
theorem rBounds_ok : SpecOk Try.prog rBounds_n true (z05 true zfd) :=
 z0b z0w (show z1s Try.prog zkf from z06) (by kernel_rfl) mixedOrders Try.func112 rfl rfl (by kernel_rfl) (n := 2) (by decide +kernel) (I := rBounds_IA) (fun _ _ => z07) (A := rBounds_A)
  (fun args h r hr => by
   unfold zfd at hr
   split at hr
   ·rename_i x_0 x_1 x_2 x_3 x_4 n; cases hr; refine ⟨rfl, fun hp => ?_⟩; have hE := rBounds_E ⟨x_0, x_1, x_2, x_3, x_4⟩ n hp; exact hE
   ·cases hr)
def rFits_E0 (I : Inst) (x : List Int) (ty0 ty1 ty2 : TypeId) : Prop :=
   True /\ ((z02 I != (0 : Int)) = true -> (z02 I = z1f I x /\ True) /\ True) /\ ((z02 I != (0 : Int)) = false -> (((↑x.length : Int) != (↑I.arcs.length : Int)) = true -> ((30 : Int) = z1f I x /\ True) /\ True) /\ (((↑x.length : Int) != (↑I.arcs.length : Int)) = false -> ∃ (g0 : Nat), ((g0 <= I.arcs.length /\ (z2m (List.drop g0 I.arcs) (List.drop g0 x) = z2m I.arcs x)) /\ ((True /\ (0 = 0 /\ ((0 : Int) = ↑g0 /\ True))) /\ ((True /\ (True /\ True)) /\ (I.sup = I.sup /\ (I.arcs = I.arcs /\ (x = x /\ True)))))) /\ (∀ (g : Nat), g <= I.arcs.length /\ z2m (List.drop g I.arcs) (List.drop g x) = z2m I.arcs x -> (decide ((↑g : Int) < ↑x.length) = true -> ((0 : Int) <= ↑g /\ ((↑g : Int) < ↑I.arcs.length)) /\ ((↑g : Int).toNat < I.arcs.length /\ (∀ (x_1 : Arc), I.arcs[(↑g : Int).toNat]? = some x_1 -> ((0 : Int) <= ↑g /\ ((↑g : Int) < ↑x.length)) /\ ((↑g : Int).toNat < x.length /\ (∀ (x_2 : Int), x[(↑g : Int).toNat]? = some x_2 -> True /\ (((!fitF x_1 x_2) = true -> ((31 : Int) = z1f I x /\ True) /\ True) /\ ((!fitF x_1 x_2) = false -> ∃ (g' : Nat), (g' <= I.arcs.length /\ (z2m (List.drop g' I.arcs) (List.drop g' x) = z2m I.arcs x)) /\ (I.arcs.length - g' < I.arcs.length - g /\ ((True /\ (0 = 0 /\ (IntKind.i64.wrap ((↑g : Int) + (1 : Int)) = (↑g' : Int) /\ True))) /\ ((True /\ (True /\ True)) /\ (I.sup = I.sup /\ (I.arcs = I.arcs /\ (x = x /\ True))))))))))))) /\ (decide ((↑g : Int) < ↑x.length) = false -> (A64 x /\ (I.sup.length <= (10000 : Nat) /\ (I.arcs.length <= (10000 : Nat)))) /\ (∃ (g0 : Nat), ((g0 <= I.sup.length /\ (∀ (v : Nat), v < g0 -> W (z2y (↑I.sup.length : Int) I.arcs x I.arcs.length (↑v : Int)) = W (I.sup.getD v (0 : Int)))) /\ ((0 = 0 /\ (True /\ ((0 : Int) = ↑g0 /\ True))) /\ (z90 I x = z90 I x /\ ((True /\ (True /\ True)) /\ (I.sup = I.sup /\ (I.arcs = I.arcs /\ True)))))) /\ (∀ (g : Nat), (g <= I.sup.length /\ (∀ (v : Nat), v < g -> W (z2y (↑I.sup.length : Int) I.arcs x I.arcs.length (↑v : Int)) = W (I.sup.getD v (0 : Int)))) -> (decide ((↑g : Int) < ↑(z90 I x).length) = true -> ((0 : Int) <= ↑g /\ ((↑g : Int) < ↑(z90 I x).length)) /\ ((↑g : Int).toNat < (z90 I x).length /\ (∀ (x_1 : Wide), (z90 I x)[(↑g : Int).toNat]? = some x_1 -> ((0 : Int) <= ↑g /\ ((↑g : Int) < ↑I.sup.length)) /\ ((↑g : Int).toNat < I.sup.length /\ (∀ (x_2 : Int), I.sup[(↑g : Int).toNat]? = some x_2 -> I64 x_2 /\ (((!decide ([x_1.hi, x_1.lo] = [(W x_2).hi, (W x_2).lo])) = true -> ((32 : Int) = z1f I x /\ True) /\ True) /\ ((!decide ([x_1.hi, x_1.lo] = [(W x_2).hi, (W x_2).lo])) = false -> ∃ (g' : Nat), (g' <= I.sup.length /\ (∀ (v : Nat), v < g' -> W (z2y (↑I.sup.length : Int) I.arcs x I.arcs.length (↑v : Int)) = W (I.sup.getD v (0 : Int)))) /\ (I.sup.length - g' < I.sup.length - g /\ ((0 = 0 /\ (True /\ (IntKind.i64.wrap ((↑g : Int) + (1 : Int)) = (↑g' : Int) /\ True))) /\ (z90 I x = z90 I x /\ ((True /\ (True /\ True)) /\ (I.sup = I.sup /\ (I.arcs = I.arcs /\ True))))))))))))) /\ (decide ((↑g : Int) < ↑(z90 I x).length) = false -> ((0 : Int) = z1f I x /\ True) /\ True)))))))
theorem rFits_q (I : Inst) (x : List Int) (ty0 ty1 ty2 : TypeId) : rFits_E0 I x ty0 ty1 ty2 = z48 TT rFits_g (rFits_I I x) (rFits_an I x) Try.f74 [.agg [.row 0, .row 1], .row 2] [(0, .row false ty0 (.ints .i64 I.sup)), (1, .row false ty1 (.arcs I.arcs)), (2, .row false ty2 (.ints .i64 x))] (rFits_r I x) := by kernel_rfl
theorem rFits_E (I : Inst) (x : List Int) (ty0 ty1 ty2 : TypeId) (hp : I.sup.length <= 10000 /\ I.arcs.length <= 10000 /\ A64 x /\ A64 I.sup) : FVc TT rFits_g (rFits_I I x) (rFits_an I x) Try.f74 [.agg [.row 0, .row 1], .row 2] [(0, .row false ty0 (.ints .i64 I.sup)), (1, .row false ty1 (.arcs I.arcs)), (2, .row false ty2 (.ints .i64 x))] (rFits_r I x) := by
 refine FVc.of (rFits_E0 I x ty0 ty1 ty2) (rFits_q I x ty0 ty1 ty2) ?_
 unfold rFits_E0
 simp only [eq_self, exists_const, forall_const, decide_eq_true_eq, decide_eq_false_iff_not, and_true, true_and, bne_iff_ne, ne_eq, bne_eq_false_iff_eq, Int.toNat_natCast, Bool.not_eq_true', Bool.not_eq_false', beq_iff_eq, beq_eq_false_iff_ne, z09]
 obtain ⟨p1, p2, p3, p4⟩ := hp
 simp only [netF_len]
 refine ⟨fun h => by simp [z1f, h], fun h1 => ⟨fun h2 => ?_, fun h2 => ⟨0, ⟨⟨by omega, by simp⟩, rfl⟩, fun k hk => ⟨fun h3 => ⟨by omega, by omega, fun a ha => ⟨by omega, by omega, fun y hy => ?_⟩⟩, fun h3 => ?_⟩⟩⟩⟩
 ·have h2' : ¬ x.length = I.arcs.length := by omega
  simp [z1f, h1, h2']
 ·have e := fitsAll_drop (x := x) ha
  have hyd : x.getD k 0 = y := by simp [List.getD, hy]
  rw [hk.2, hyd] at e
  have h2' : x.length = I.arcs.length := by omega
  refine ⟨fun h4 => ?_, fun h4 => ⟨k + 1, ⟨by omega, ?_⟩, by omega, w64 (by omega) (by omega)⟩⟩
  ·rw [h4] at e
   simp only [Bool.false_and] at e
   simp [z1f, h1, h2', e]
  ·rw [e, h4, Bool.true_and]
 ·have h2' : x.length = I.arcs.length := by omega
  have hall : z2m I.arcs x = true := by rw [<- hk.2, zan (by omega)]; rfl
  refine ⟨⟨p3, p1, p2⟩, 0, ⟨⟨by omega, fun v hv => by omega⟩, rfl⟩, fun j hj => ⟨fun h4 => ⟨by omega, by omega, fun w hw => ⟨by omega, by omega, fun z hz => ?_⟩⟩, fun h4 => ?_⟩⟩
  ·obtain ⟨_, rfl⟩ := z1h hw
   have hzd : I.sup.getD j 0 = z := by simp [List.getD, hz]
   have hwe : ∀ u v : Wide, [u.hi, u.lo] = [v.hi, v.lo] ↔ u = v := fun u v => by obtain ⟨u1, u2⟩ := u; obtain ⟨v1, v2⟩ := v; simp
   rw [hwe]
   refine ⟨p4 z (List.mem_of_getElem? hz), fun h5 => ?_, fun h5 => ⟨j + 1, ⟨by omega, fun v hv => ?_⟩, by omega, w64 (by omega) (by omega)⟩⟩
   ·have hno : netOk I x = false := by
     rw [Bool.eq_false_iff]
     intro h
     unfold netOk at h
     have := List.all_eq_true.1 h j (List.mem_range.2 (by omega))
     rw [decide_eq_true_eq, hzd] at this
     exact h5 this
    simp [z1f, h1, h2', hall, hno]
   ·by_cases hvj : v = j
    ·subst hvj; rw [hzd]; exact h5
    ·exact hj.2 v (by omega)
  ·have hno : netOk I x = true := by
    unfold netOk
    rw [List.all_eq_true]
    intro v hv
    rw [decide_eq_true_eq]
    exact hj.2 v (by have := List.mem_range.1 hv; omega)
   simp [z1f, h1, h2', hall, hno]
theorem rFits_ok : SpecOk Try.prog rFits_n true (z05 true zhh) :=
 z0b z0w (show z1s Try.prog rFits_g from z01 rRight_ok (z01 rBounds_ok (z01 rNet_ok (z01 rOf_ok (z06))))) (by kernel_rfl) mixedOrders Try.func74 rfl rfl (by kernel_rfl) (n := 2) (by decide +kernel) (I := rFits_IA) (fun _ _ => z07) (A := rFits_A)
  (fun args h r hr => by
   unfold zhh at hr
   split at hr
   ·rename_i ty0 I_s ty1 I_a ty2 x; cases hr; refine ⟨rfl, fun hp => ?_⟩; have hE := rFits_E ⟨I_s, I_a⟩ x ty0 ty1 ty2 hp; exact hE
   ·cases hr)
end Go.Proofs.Ytggblkbecekbdaa
end
section
namespace Go.Ql
open Go Go.RowKit Go.Vc
def redA (a : Arc) (f t : Int) : Int := a.cost - f + t
def sgn (r : Int) : Int := wcmp (W r) (W 0)
def atA (I : Inst) (a : Int) : Arc := z2e I.sup.length I.arcs a
def atF (I : Inst) (pot : List Int) (a : Int) : Int := if gOk I.sup.length I.arcs a then pot.getD (atA I a).src.toNat 0 else 0
def atT (I : Inst) (pot : List Int) (a : Int) : Int := if gOk I.sup.length I.arcs a then pot.getD (atA I a).dst.toNat 0 else 0
def redF (I : Inst) (pot : List Int) (a : Int) : Int := if gOk I.sup.length I.arcs a then redA (atA I a) (atF I pot a) (atT I pot a) else 0
def z6s (r x : Int) (a : Arc) : Bool := !((decide (0 < sgn r) && decide (x ≠ a.low)) || (decide (sgn r < 0) && (decide (x ≠ a.cap) || decide (a.cap = inf))))
def z45 (I : Inst) (x pot : List Int) (k : Nat) : Bool := z6s (redF I pot k) (x.getD k 0) (I.arcs.getD k default)
def z1n (I : Inst) (x pot : List Int) : Int :=
 if z1f I x ≠ 0 then z1f I x else if pot.length ≠ I.sup.length then 30 else if (List.range I.arcs.length).all (z45 I x pot) then 0 else 33
def boundS (l pot : List Int) : Nat -> Int
 | 0 => 0
 | k + 1 => boundS l pot k + l.getD k 0 * pot.getD k 0
def potR (pot : List Int) (n : Int) : Int := if 0 <= n then pot.getD n.toNat 0 else 0
def redP (pot : List Int) (a : Arc) : Int := redA a (potR pot a.src) (potR pot a.dst)
def z2v (n : Int) (pot : List Int) : List Arc -> Int -> Option Int
 | [], s => some s
 | a :: l, s => if z2w n a then (if sgn (redP pot a) < 0 then if a.cap = inf then none else z2v n pot l (s + a.cap * redP pot a) else z2v n pot l (s + a.low * redP pot a)) else z2v n pot l s
def boundF (I : Inst) (pot : List Int) : Option Int := z2v I.sup.length pot I.arcs (boundS I.sup pot I.sup.length)
theorem sgn_zero : sgn 0 = 0 := by decide
theorem atA_get {I : Inst} {k : Nat} {x : Arc} (h : I.arcs[k]? = some x) (ho : z2w I.sup.length x = true) : atA I k = x := by
 have hg : gOk I.sup.length I.arcs (k : Int) = true := by rw [zja (by omega) (by rw [Int.toNat_natCast]; exact h)]; exact ho
 unfold atA z2e
 rw [if_pos hg, Int.toNat_natCast]
 simp [List.getD, h]
end Go.Ql
end
