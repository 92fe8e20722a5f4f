/-
  WIDE NUMBERS: what the package num computes, as whole numbers. No program in sight.
-/
import Derived.Test.YtnoocfcmlilffaaVc1
import Derived.Test.YtnoocfcmlilffaaAid
set_option linter.all false
set_option linter.unusedSimpArgs false
set_option linter.unusedVariables false
namespace Go.Ql
open Go Go.RowKit Go.Vc

def I64 (n : Int) : Prop := -9223372036854775808 ≤ n ∧ n ≤ 9223372036854775807
instance (n : Int) : Decidable (I64 n) := instDecidableAnd
def U64 (n : Int) : Prop := 0 ≤ n ∧ n ≤ 18446744073709551615
/-- a whole number, wide -/
def W (n : Int) : Wide := ⟨(n / 18446744073709551616 + 9223372036854775808) % 18446744073709551616 - 9223372036854775808, n % 18446744073709551616⟩
def Wide.v (w : Wide) : Int := w.hi * 18446744073709551616 + w.lo
def Wide.ok (w : Wide) : Prop := I64 w.hi ∧ U64 w.lo
/-- from -2^127 to 2^127 - 1 -/
def I128 (n : Int) : Prop := -170141183460469231731687303715884105728 ≤ n ∧ n ≤ 170141183460469231731687303715884105727

theorem wrapI64 (x : Int) : IntKind.i64.wrap x = (x + 9223372036854775808) % 18446744073709551616 - 9223372036854775808 := by
  unfold IntKind.wrap; simp [IntKind.bits, IntKind.signed]; omega
theorem wrapU64 (x : Int) : IntKind.u64.wrap x = x % 18446744073709551616 := by
  unfold IntKind.wrap; simp [IntKind.bits, IntKind.signed]
theorem W_ok (n : Int) : (W n).ok := by unfold W Wide.ok I64 U64; dsimp only; omega
theorem W_congr {m n k : Int} (h : m = n + k * 340282366920938463463374607431768211456) : W m = W n := by
  unfold W
  have e1 : m / 18446744073709551616 = n / 18446744073709551616 + k * 18446744073709551616 := by omega
  have e2 : m % 18446744073709551616 = n % 18446744073709551616 := by omega
  rw [e1, e2]
  have e3 : (n / 18446744073709551616 + k * 18446744073709551616 + 9223372036854775808) % 18446744073709551616 = (n / 18446744073709551616 + 9223372036854775808) % 18446744073709551616 := by omega
  rw [e3]
theorem W_v {w : Wide} (h : w.ok) : W w.v = w := by
  obtain ⟨hi, lo⟩ := w
  unfold Wide.ok I64 U64 at h
  dsimp only at h
  unfold W Wide.v
  dsimp only
  congr 1 <;> omega
theorem v_W (n : Int) : ∃ k : Int, (W n).v = n + k * 340282366920938463463374607431768211456 := by
  unfold W Wide.v
  dsimp only
  refine ⟨-((n / 18446744073709551616 + 9223372036854775808) / 18446744073709551616), ?_⟩
  omega
theorem v_of {n : Int} (h : I128 n) : (W n).v = n := by
  unfold I128 at h
  unfold W Wide.v
  dsimp only
  omega
theorem W_inj {m n : Int} (hm : I128 m) (hn : I128 n) (h : W m = W n) : m = n := by
  have := congrArg Wide.v h
  rwa [v_of hm, v_of hn] at this
theorem W_iff {m n : Int} (hm : I128 m) (hn : I128 n) : W m = W n ↔ m = n := ⟨W_inj hm hn, fun h => by rw [h]⟩
theorem v_I128 {w : Wide} (h : w.ok) : I128 w.v := by
  unfold Wide.ok I64 U64 at h
  unfold Wide.v I128
  omega
theorem W_iff_mod {m n : Int} : W m = W n ↔ (m - n) % 340282366920938463463374607431768211456 = 0 := by
  constructor
  · intro h
    obtain ⟨k, hk⟩ := v_W m
    obtain ⟨j, hj⟩ := v_W n
    have := congrArg Wide.v h
    omega
  · intro h
    exact W_congr (k := (m - n) / 340282366920938463463374607431768211456) (by omega)

def wplus (a b : Wide) : Wide := W (a.v + b.v)
def wminus (a b : Wide) : Wide := W (a.v - b.v)
def wcmp (a b : Wide) : Int := if a.v < b.v then -1 else if b.v < a.v then 1 else 0
@[simp] theorem wplus_W (m n : Int) : wplus (W m) (W n) = W (m + n) := by
  obtain ⟨k, hk⟩ := v_W m
  obtain ⟨j, hj⟩ := v_W n
  exact W_congr (k := k + j) (by rw [hk, hj]; omega)
@[simp] theorem wminus_W (m n : Int) : wminus (W m) (W n) = W (m - n) := by
  obtain ⟨k, hk⟩ := v_W m
  obtain ⟨j, hj⟩ := v_W n
  exact W_congr (k := k - j) (by rw [hk, hj]; omega)
theorem wcmp_W {m n : Int} (hm : I128 m) (hn : I128 n) : wcmp (W m) (W n) = if m < n then -1 else if n < m then 1 else 0 := by
  unfold wcmp; rw [v_of hm, v_of hn]
theorem wplus_ok (a b : Wide) : (wplus a b).ok := W_ok _
theorem wminus_ok (a b : Wide) : (wminus a b).ok := W_ok _
theorem W_zero : W 0 = ⟨0, 0⟩ := by decide
theorem ok_zero : (⟨0, 0⟩ : Wide).ok := by unfold Wide.ok I64 U64; dsimp only; omega
theorem I128_of {n : Int} (h : I64 n) : I128 n := by unfold I64 at h; unfold I128; omega
theorem mul_bound {a b A B : Int} (ha : -A ≤ a) (ha' : a ≤ A) (hb : -B ≤ b) (hb' : b ≤ B) (hA : 0 ≤ A) (hB : 0 ≤ B) : -(A * B) ≤ a * b ∧ a * b ≤ A * B := by
  have h1 := Int.mul_nonneg (show 0 ≤ A - a by omega) (show 0 ≤ B - b by omega)
  have h2 := Int.mul_nonneg (show 0 ≤ A + a by omega) (show 0 ≤ B + b by omega)
  have h3 := Int.mul_nonneg (show 0 ≤ A - a by omega) (show 0 ≤ B + b by omega)
  have h4 := Int.mul_nonneg (show 0 ≤ A + a by omega) (show 0 ≤ B - b by omega)
  simp only [Int.sub_mul, Int.add_mul, Int.mul_sub, Int.mul_add] at h1 h2 h3 h4
  omega
theorem mul_I128 {a b : Int} (ha : I64 a) (hb : I64 b) : I128 (a * b) := by
  unfold I64 at ha hb
  have := mul_bound (A := 9223372036854775808) (B := 9223372036854775808) (by omega) (by omega) (by omega) (by omega) (by omega) (by omega) (a := a) (b := b)
  unfold I128
  omega

/-- bit by bit -/
theorem and_low {x : Int} (h0 : 0 ≤ x) (h1 : x ≤ 18446744073709551615) : andS .u64 x 4294967295 = x % 4294967296 := by
  unfold andS
  have e : (BitVec.ofInt IntKind.u64.bits x &&& BitVec.ofInt IntKind.u64.bits 4294967295).toNat = x.toNat % 4294967296 := by
    rw [BitVec.toNat_and, BitVec.toNat_ofInt, BitVec.toNat_ofInt]
    have hb : IntKind.u64.bits = 64 := rfl
    rw [hb]
    have e1 : (x % ((2 ^ 64 : Nat) : Int)).toNat = x.toNat := by
      rw [Int.emod_eq_of_lt h0 (by omega)]
    have e2 : ((4294967295 : Int) % ((2 ^ 64 : Nat) : Int)).toNat = 2 ^ 32 - 1 := by decide
    rw [e1, e2, Nat.and_two_pow_sub_one_eq_mod]
  rw [e, wrapU64]
  omega
theorem not_i64 {x : Int} (h : I64 x) : notS .i64 x = -1 - x := by
  unfold I64 at h
  unfold notS
  have e : (BitVec.ofInt IntKind.i64.bits (if IntKind.i64.signed then -1 else IntKind.i64.max) ^^^ BitVec.ofInt IntKind.i64.bits x) = BitVec.ofInt 64 (-1 - x) := by
    show (BitVec.ofInt 64 (-1) ^^^ BitVec.ofInt 64 x) = _
    have h1 : BitVec.ofInt 64 (-1) = BitVec.allOnes 64 := by decide
    rw [h1, BitVec.allOnes_xor]
    rw [BitVec.not_eq_neg_add, ← BitVec.ofInt_neg]
    rw [show (-1 - x : Int) = -x + -1 by omega, BitVec.ofInt_add]
    rw [BitVec.sub_eq_add_neg]
    congr 1
  rw [e, wrapI64]
  show ((((BitVec.ofInt 64 (-1 - x)).toNat : Nat) : Int) + _) % _ - _ = _
  rw [BitVec.toNat_ofInt]
  omega
theorem not_u64 {x : Int} (h : U64 x) : notS .u64 x = 18446744073709551615 - x := by
  unfold U64 at h
  unfold notS
  have e : (BitVec.ofInt IntKind.u64.bits (if IntKind.u64.signed then -1 else IntKind.u64.max) ^^^ BitVec.ofInt IntKind.u64.bits x) = BitVec.ofInt 64 (-1 - x) := by
    show (BitVec.ofInt 64 (18446744073709551615) ^^^ BitVec.ofInt 64 x) = _
    have h1 : BitVec.ofInt 64 18446744073709551615 = BitVec.allOnes 64 := by decide
    rw [h1, BitVec.allOnes_xor]
    rw [BitVec.not_eq_neg_add, ← BitVec.ofInt_neg]
    rw [show (-1 - x : Int) = -x + -1 by omega, BitVec.ofInt_add]
    rw [BitVec.sub_eq_add_neg]
    congr 1
  rw [e, wrapU64]
  show (((BitVec.ofInt 64 (-1 - x)).toNat : Nat) : Int) % _ = _
  rw [BitVec.toNat_ofInt]
  omega
end Go.Ql
