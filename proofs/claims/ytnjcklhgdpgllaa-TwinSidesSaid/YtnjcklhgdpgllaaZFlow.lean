/- Part of the proof, Flow. -/
import Derived.Test.YtnjcklhgdpgllaaZVc1
import Derived.Test.YtnjcklhgdpgllaaZVc11
import Derived.Test.YtnjcklhgdpgllaaZSpec
section
set_option linter.all false
set_option linter.unusedSimpArgs false
set_option linter.unusedVariables false
namespace Go.Ql
open Go Go.RowKit Go.Vc
def I64 (n : Int) : Prop := -9223372036854775808 ≤ n ∧ n ≤ 9223372036854775807
instance (n : Int) : Decidable (I64 n) := instDecidableAnd
def U64 (n : Int) : Prop := 0 ≤ n ∧ n ≤ 18446744073709551615
def W (n : Int) : Wide := ⟨(n / 18446744073709551616 + 9223372036854775808) % 18446744073709551616 - 9223372036854775808, n % 18446744073709551616⟩
def Wide.v (w : Wide) : Int := w.hi * 18446744073709551616 + w.lo
def Wide.ok (w : Wide) : Prop := I64 w.hi ∧ U64 w.lo
theorem wrapI64 (x : Int) : IntKind.i64.wrap x = (x + 9223372036854775808) % 18446744073709551616 - 9223372036854775808 := by
  unfold IntKind.wrap; simp [IntKind.bits, IntKind.signed]; omega
theorem wrapU64 (x : Int) : IntKind.u64.wrap x = x % 18446744073709551616 := by
  unfold IntKind.wrap; simp [IntKind.bits, IntKind.signed]
theorem W_ok (n : Int) : (W n).ok := by unfold W Wide.ok I64 U64; dsimp only; omega
theorem W_congr {m n k : Int} (h : m = n + k * 340282366920938463463374607431768211456) : W m = W n := by
  unfold W
  have e1 : m / 18446744073709551616 = n / 18446744073709551616 + k * 18446744073709551616 := by omega
  have e2 : m % 18446744073709551616 = n % 18446744073709551616 := by omega
  rw [e1, e2]
  have e3 : (n / 18446744073709551616 + k * 18446744073709551616 + 9223372036854775808) % 18446744073709551616 = (n / 18446744073709551616 + 9223372036854775808) % 18446744073709551616 := by omega
  rw [e3]
theorem v_W (n : Int) : ∃ k : Int, (W n).v = n + k * 340282366920938463463374607431768211456 := by
  unfold W Wide.v
  dsimp only
  refine ⟨-((n / 18446744073709551616 + 9223372036854775808) / 18446744073709551616), ?_⟩
  omega
def wplus (a b : Wide) : Wide := W (a.v + b.v)
def wminus (a b : Wide) : Wide := W (a.v - b.v)
@[simp] theorem wplus_W (m n : Int) : wplus (W m) (W n) = W (m + n) := by
  obtain ⟨k, hk⟩ := v_W m
  obtain ⟨j, hj⟩ := v_W n
  exact W_congr (k := k + j) (by rw [hk, hj]; omega)
@[simp] theorem wminus_W (m n : Int) : wminus (W m) (W n) = W (m - n) := by
  obtain ⟨k, hk⟩ := v_W m
  obtain ⟨j, hj⟩ := v_W n
  exact W_congr (k := k - j) (by rw [hk, hj]; omega)
end Go.Ql
end
section
set_option linter.all false
set_option linter.unusedSimpArgs false
set_option linter.unusedVariables false
namespace Go.Ql
open Go Go.RowKit
def inf : Int := 4611686018427387904
def okArc (n : Int) (a : Arc) : Bool := decide (0 ≤ a.src) && decide (a.src < n) && (decide (0 ≤ a.dst) && decide (a.dst < n))
theorem okArc_iff {n : Int} {a : Arc} : okArc n a = true ↔ 0 ≤ a.src ∧ a.src < n ∧ 0 ≤ a.dst ∧ a.dst < n := by
  simp [okArc, and_assoc]
def A64 (l : List Int) : Prop := ∀ x ∈ l, I64 x
theorem A64.getD {l : List Int} (h : A64 l) (k : Nat) : I64 (l.getD k 0) := by
  by_cases hk : k < l.length
  · have := h _ (List.getElem_mem hk)
    simpa [List.getD, hk] using this
  · simp [List.getD, hk, I64]
def A64a (l : List Arc) : Prop := ∀ a ∈ l, I64 a.low ∧ I64 a.cap
def A64c (l : List Arc) : Prop := ∀ a ∈ l, I64 a.cost
def L42 (l : List Arc) : Prop := ∀ a ∈ l, 0 ≤ a.low ∧ a.low ≤ 4398046511104
theorem map_range_set {α : Type} (f : Nat → α) (n j : Nat) (v : α) : ((List.range n).map f).set j v = (List.range n).map (fun t => if t = j then v else f t) := by
  apply List.ext_getElem?
  intro i
  rw [List.getElem?_set]
  by_cases hi : i < n
  · by_cases h : j = i
    · subst h; simp [hi]
    · have h' : ¬ i = j := fun e => h e.symm
      simp [h, h', hi]
  · by_cases h : j = i
    · subst h; simp [hi]
    · simp [h, hi]
theorem arcsErr_all {n : Int} : ∀ {l : List Arc}, arcsErr n l = 0 → ∀ a ∈ l, rightArcF a n = 0
  | [], _, a, ha => by cases ha
  | b :: l, h, a, ha => by
    simp only [arcsErr] at h
    split at h
    · rename_i hb
      cases ha with
      | head => first | exact hb | (simp at hb; exact hb)
      | tail _ ha => exact arcsErr_all h a ha
    · rename_i hb
      exact absurd h hb
theorem rightF_arc {I : Inst} (h : rightF I = 0) {a : Arc} (ha : a ∈ I.arcs) : okArc I.sup.length a = true ∧ (0 ≤ a.low ∧ a.low ≤ 4398046511104 ∧ (a.cap = 4611686018427387904 ∨ a.low ≤ a.cap ∧ a.cap ≤ 4398046511104)) ∧ -4398046511104 ≤ a.cost ∧ a.cost ≤ 4398046511104 := by
  unfold rightF at h
  split at h
  · omega
  · split at h
    · rename_i he
      have hr := arcsErr_all he a ha
      unfold rightArcF at hr
      rw [okArc_iff]
      (repeat' split at hr) <;> first | omega | (simp_all; omega) | grind
    · rename_i he; exact absurd h he
theorem A64.set {l : List Int} (h : A64 l) {k : Nat} {v : Int} (hv : I64 v) : A64 (l.set k v) := fun y hy => by
  rcases List.mem_or_eq_of_mem_set hy with hy | rfl
  · exact h y hy
  · exact hv
end Go.Ql
end
section
set_option linter.all false
set_option linter.unusedSimpArgs false
set_option linter.unusedVariables false
namespace Go.Ql
open Go Go.RowKit
end Go.Ql
end
