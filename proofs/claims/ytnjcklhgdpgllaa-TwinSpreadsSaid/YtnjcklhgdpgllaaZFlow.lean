/- Part of the proof, Flow. -/
import Derived.Test.YtnjcklhgdpgllaaZVc1
import Derived.Test.YtnjcklhgdpgllaaZVc11
import Derived.Test.YtnjcklhgdpgllaaZSpec
section
set_option linter.all false
set_option linter.unusedSimpArgs false
set_option linter.unusedVariables false
namespace Go.Ql
open Go Go.RowKit Go.Vc
def I64 (n : Int) : Prop := -9223372036854775808 ≤ n ∧ n ≤ 9223372036854775807
instance (n : Int) : Decidable (I64 n) := instDecidableAnd
def U64 (n : Int) : Prop := 0 ≤ n ∧ n ≤ 18446744073709551615
def W (n : Int) : Wide := ⟨(n / 18446744073709551616 + 9223372036854775808) % 18446744073709551616 - 9223372036854775808, n % 18446744073709551616⟩
def Wide.v (w : Wide) : Int := w.hi * 18446744073709551616 + w.lo
def Wide.ok (w : Wide) : Prop := I64 w.hi ∧ U64 w.lo
def I128 (n : Int) : Prop := -170141183460469231731687303715884105728 ≤ n ∧ n ≤ 170141183460469231731687303715884105727
theorem wrapI64 (x : Int) : IntKind.i64.wrap x = (x + 9223372036854775808) % 18446744073709551616 - 9223372036854775808 := by
  unfold IntKind.wrap; simp [IntKind.bits, IntKind.signed]; omega
theorem wrapU64 (x : Int) : IntKind.u64.wrap x = x % 18446744073709551616 := by
  unfold IntKind.wrap; simp [IntKind.bits, IntKind.signed]
theorem W_ok (n : Int) : (W n).ok := by unfold W Wide.ok I64 U64; dsimp only; omega
theorem W_congr {m n k : Int} (h : m = n + k * 340282366920938463463374607431768211456) : W m = W n := by
  unfold W
  have e1 : m / 18446744073709551616 = n / 18446744073709551616 + k * 18446744073709551616 := by omega
  have e2 : m % 18446744073709551616 = n % 18446744073709551616 := by omega
  rw [e1, e2]
  have e3 : (n / 18446744073709551616 + k * 18446744073709551616 + 9223372036854775808) % 18446744073709551616 = (n / 18446744073709551616 + 9223372036854775808) % 18446744073709551616 := by omega
  rw [e3]
theorem W_v {w : Wide} (h : w.ok) : W w.v = w := by
  obtain ⟨hi, lo⟩ := w
  unfold Wide.ok I64 U64 at h
  dsimp only at h
  unfold W Wide.v
  dsimp only
  congr 1 <;> omega
theorem v_W (n : Int) : ∃ k : Int, (W n).v = n + k * 340282366920938463463374607431768211456 := by
  unfold W Wide.v
  dsimp only
  refine ⟨-((n / 18446744073709551616 + 9223372036854775808) / 18446744073709551616), ?_⟩
  omega
theorem v_of {n : Int} (h : I128 n) : (W n).v = n := by
  unfold I128 at h
  unfold W Wide.v
  dsimp only
  omega
theorem v_I128 {w : Wide} (h : w.ok) : I128 w.v := by
  unfold Wide.ok I64 U64 at h
  unfold Wide.v I128
  omega
def wplus (a b : Wide) : Wide := W (a.v + b.v)
def wminus (a b : Wide) : Wide := W (a.v - b.v)
def wcmp (a b : Wide) : Int := if a.v < b.v then -1 else if b.v < a.v then 1 else 0
@[simp] theorem wplus_W (m n : Int) : wplus (W m) (W n) = W (m + n) := by
  obtain ⟨k, hk⟩ := v_W m
  obtain ⟨j, hj⟩ := v_W n
  exact W_congr (k := k + j) (by rw [hk, hj]; omega)
@[simp] theorem wminus_W (m n : Int) : wminus (W m) (W n) = W (m - n) := by
  obtain ⟨k, hk⟩ := v_W m
  obtain ⟨j, hj⟩ := v_W n
  exact W_congr (k := k - j) (by rw [hk, hj]; omega)
theorem not_i64 {x : Int} (h : I64 x) : notS .i64 x = -1 - x := by
  unfold I64 at h
  unfold notS
  have e : (BitVec.ofInt IntKind.i64.bits (if IntKind.i64.signed then -1 else IntKind.i64.max) ^^^ BitVec.ofInt IntKind.i64.bits x) = BitVec.ofInt 64 (-1 - x) := by
    show (BitVec.ofInt 64 (-1) ^^^ BitVec.ofInt 64 x) = _
    have h1 : BitVec.ofInt 64 (-1) = BitVec.allOnes 64 := by decide
    rw [h1, BitVec.allOnes_xor]
    rw [BitVec.not_eq_neg_add, ← BitVec.ofInt_neg]
    rw [show (-1 - x : Int) = -x + -1 by omega, BitVec.ofInt_add]
    rw [BitVec.sub_eq_add_neg]
    congr 1
  rw [e, wrapI64]
  show ((((BitVec.ofInt 64 (-1 - x)).toNat : Nat) : Int) + _) % _ - _ = _
  rw [BitVec.toNat_ofInt]
  omega
theorem not_u64 {x : Int} (h : U64 x) : notS .u64 x = 18446744073709551615 - x := by
  unfold U64 at h
  unfold notS
  have e : (BitVec.ofInt IntKind.u64.bits (if IntKind.u64.signed then -1 else IntKind.u64.max) ^^^ BitVec.ofInt IntKind.u64.bits x) = BitVec.ofInt 64 (-1 - x) := by
    show (BitVec.ofInt 64 (18446744073709551615) ^^^ BitVec.ofInt 64 x) = _
    have h1 : BitVec.ofInt 64 18446744073709551615 = BitVec.allOnes 64 := by decide
    rw [h1, BitVec.allOnes_xor]
    rw [BitVec.not_eq_neg_add, ← BitVec.ofInt_neg]
    rw [show (-1 - x : Int) = -x + -1 by omega, BitVec.ofInt_add]
    rw [BitVec.sub_eq_add_neg]
    congr 1
  rw [e, wrapU64]
  show (((BitVec.ofInt 64 (-1 - x)).toNat : Nat) : Int) % _ = _
  rw [BitVec.toNat_ofInt]
  omega
end Go.Ql
end
section
set_option linter.all false
set_option linter.unusedSimpArgs false
set_option linter.unusedVariables false
namespace Go.Ql
open Go Go.RowKit
def inf : Int := 4611686018427387904
def okArc (n : Int) (a : Arc) : Bool := decide (0 ≤ a.src) && decide (a.src < n) && (decide (0 ≤ a.dst) && decide (a.dst < n))
theorem okArc_iff {n : Int} {a : Arc} : okArc n a = true ↔ 0 ≤ a.src ∧ a.src < n ∧ 0 ≤ a.dst ∧ a.dst < n := by
  simp [okArc, and_assoc]
def A64 (l : List Int) : Prop := ∀ x ∈ l, I64 x
theorem A64.getD {l : List Int} (h : A64 l) (k : Nat) : I64 (l.getD k 0) := by
  by_cases hk : k < l.length
  · have := h _ (List.getElem_mem hk)
    simpa [List.getD, hk] using this
  · simp [List.getD, hk, I64]
theorem map_range_set {α : Type} (f : Nat → α) (n j : Nat) (v : α) : ((List.range n).map f).set j v = (List.range n).map (fun t => if t = j then v else f t) := by
  apply List.ext_getElem?
  intro i
  rw [List.getElem?_set]
  by_cases hi : i < n
  · by_cases h : j = i
    · subst h; simp [hi]
    · have h' : ¬ i = j := fun e => h e.symm
      simp [h, h', hi]
  · by_cases h : j = i
    · subst h; simp [hi]
    · simp [h, hi]
theorem rightF_small' (I : Inst) : 0 ≤ rightF I ∧ rightF I ≤ 25 := by
  have h1 : ∀ (n : Int) (l : List Arc), 0 ≤ arcsErr n l ∧ arcsErr n l ≤ 23 := fun n l => by
    induction l with
    | nil => simp [arcsErr]
    | cons x l ih => simp only [arcsErr]; unfold rightArcF at *; (repeat' split) <;> omega
  have h2 : ∀ (l : List Int) (s : Int), 0 ≤ supErr l s ∧ supErr l s ≤ 25 := fun l => by
    induction l with
    | nil => intro s; simp only [supErr]; split <;> omega
    | cons x l ih => intro s; simp only [supErr]; split
                     · omega
                     · exact ih _
  have := h1 I.sup.length I.arcs
  have := h2 I.sup 0
  unfold rightF; (repeat' split) <;> omega
theorem arcsErr_all {n : Int} : ∀ {l : List Arc}, arcsErr n l = 0 → ∀ a ∈ l, rightArcF a n = 0
  | [], _, a, ha => by cases ha
  | b :: l, h, a, ha => by
    simp only [arcsErr] at h
    split at h
    · rename_i hb
      cases ha with
      | head => first | exact hb | (simp at hb; exact hb)
      | tail _ ha => exact arcsErr_all h a ha
    · rename_i hb
      exact absurd h hb
theorem rightF_arc {I : Inst} (h : rightF I = 0) {a : Arc} (ha : a ∈ I.arcs) : okArc I.sup.length a = true ∧ (0 ≤ a.low ∧ a.low ≤ 4398046511104 ∧ (a.cap = 4611686018427387904 ∨ a.low ≤ a.cap ∧ a.cap ≤ 4398046511104)) ∧ -4398046511104 ≤ a.cost ∧ a.cost ≤ 4398046511104 := by
  unfold rightF at h
  split at h
  · omega
  · split at h
    · rename_i he
      have hr := arcsErr_all he a ha
      unfold rightArcF at hr
      rw [okArc_iff]
      (repeat' split at hr) <;> first | omega | (simp_all; omega) | grind
    · rename_i he; exact absurd h he
theorem A64.set {l : List Int} (h : A64 l) {k : Nat} {v : Int} (hv : I64 v) : A64 (l.set k v) := fun y hy => by
  rcases List.mem_or_eq_of_mem_set hy with hy | rfl
  · exact h y hy
  · exact hv
end Go.Ql
end
section
set_option linter.all false
set_option linter.unusedSimpArgs false
set_option linter.unusedVariables false
namespace Go.Ql
open Go Go.RowKit
end Go.Ql
end
