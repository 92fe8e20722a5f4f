/- Part of the proof, Law11. -/
import Derived.Test.YtahbkllfifmdfaaZPrice
import Derived.Test.YtahbkllfifmdfaaZLaw10
set_option linter.all false
set_option linter.unusedSimpArgs false
set_option linter.unusedVariables false
namespace Go.Ql
open Go Go.RowKit Go.Vc
theorem costK_bound {l : List Arc} {x : List Int} {C X : Int} (hC : 0 ≤ C) (hX : 0 ≤ X) (hl : ∀ a ∈ l, -C ≤ a.cost ∧ a.cost ≤ C) (hx : ∀ k, -X ≤ x.getD k 0 ∧ x.getD k 0 ≤ X) : ∀ k : Nat, k ≤ l.length → -(C * X * k) ≤ costK l x k ∧ costK l x k ≤ C * X * k
  | 0, _ => by simp [costK]
  | k + 1, h => by
    have ih := costK_bound hC hX hl hx k (by omega)
    have hm : l.getD k default ∈ l := by rw [List.getD_eq_getElem?_getD, List.getElem?_eq_getElem (show k < l.length by omega)]; exact List.getElem_mem _
    have h1 := hl _ hm
    have h2 := hx k
    have hm := mul_bound (a := (l.getD k default).cost) (b := x.getD k 0) h1.1 h1.2 h2.1 h2.2 hC hX
    rw [costK, Int.natCast_succ, Int.mul_add, Int.mul_one]
    omega
theorem right_small {I : Inst} (h : rightF I = 0) : I.sup.length ≤ 64 ∧ I.arcs.length ≤ 256 := by
  unfold rightF at h
  split at h
  · omega
  · omega
theorem supErr_in : ∀ (l : List Int) (s : Int), supErr l s = 0 → Within 4398046511104 l ∧ s + l.sum = 0
  | [], s, h => by
    unfold supErr at h
    split at h
    · rename_i e; exact ⟨fun x hx => (by cases hx), by simpa using e⟩
    · omega
  | x :: l, s, h => by
    unfold supErr at h
    split at h
    · omega
    · have ih := supErr_in l (s + x) h
      refine ⟨fun y hy => ?_, by rw [List.sum_cons]; omega⟩
      rcases List.mem_cons.1 hy with rfl | hy
      · omega
      · exact ih.1 y hy
theorem right_within {I : Inst} (h : rightF I = 0) : Within 4398046511104 I.sup ∧ I.sup.sum = 0 := by
  unfold rightF at h
  split at h
  · omega
  · split at h
    · have := supErr_in _ _ h
      exact ⟨this.1, by omega⟩
    · omega
theorem A64.at {l : List Int} (h : A64 l) (k : Nat) : -9223372036854775808 ≤ l.getD k 0 ∧ l.getD k 0 ≤ 9223372036854775808 := by
  have := h.getD k
  unfold I64 at this
  omega
theorem cost_I128 {I : Inst} {x : List Int} (h : rightF I = 0) (hx : A64 x) : I128 (costF I x) := by
  have hl := right_small h
  have := costK_bound (C := 4398046511104) (X := 9223372036854775808) (by omega) (by omega) (fun a ha => (rightF_arc h ha).2.2) (fun k => hx.at k) I.arcs.length (Nat.le_refl _)
  unfold costF I128
  omega
end Go.Ql
