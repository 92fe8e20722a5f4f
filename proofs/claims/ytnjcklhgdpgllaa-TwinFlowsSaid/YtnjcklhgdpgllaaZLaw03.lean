/- Part of the proof, Law03. -/
import Derived.Test.YtnjcklhgdpgllaaZSpec
set_option linter.all false
set_option linter.unusedSimpArgs false
set_option linter.unusedVariables false
namespace Go.Ql
open Go Go.RowKit
theorem keptGo_all {off : List Bool} : ∀ (f k : Nat), (∀ j, k ≤ j → j < k + f → off.getD j false = false) → keptGo off f k = List.range' k f
  | 0, _, _ => rfl
  | f + 1, k, h => by
    unfold keptGo
    rw [h k (by omega) (by omega), List.range'_succ, keptGo_all f (k + 1) (fun j h1 h2 => h j (by omega) (by omega))]
    simp
theorem keptF_nil (n : Nat) : keptF [] n = List.range n := by
  unfold keptF
  rw [keptGo_all n 0 (fun j _ _ => by simp), List.range_eq_range']
theorem placeGo_range (x : Int) : ∀ (f k b : Nat), (k : Int) ≤ x → x < k + f → placeGo x (List.range' k f) b = x - k + b
  | 0, k, b, h1, h2 => by omega
  | f + 1, k, b, h1, h2 => by
    rw [List.range'_succ]
    unfold placeGo
    by_cases h : (k : Int) = x
    · rw [if_pos h]; omega
    · rw [if_neg h, placeGo_range x f (k + 1) (b + 1) (by omega) (by omega)]; omega
theorem placeGo_all {x : Int} {n : Nat} (h0 : 0 ≤ x) (h1 : x < n) : placeGo x (List.range n) 0 = x := by
  rw [List.range_eq_range', placeGo_range x n 0 0 (by omega) (by omega)]; omega
theorem keepArc_all {a : Arc} {n : Nat} (h0 : 0 ≤ a.src) (h1 : a.src < n) (h2 : 0 ≤ a.dst) (h3 : a.dst < n) : keepArc (List.range n) a = some a := by
  unfold keepArc
  rw [placeGo_all h0 h1, placeGo_all h2 h3, if_pos ⟨h0, h2⟩]
def Arc.In (n : Int) (a : Arc) : Prop := 0 ≤ a.src ∧ a.src < n ∧ 0 ≤ a.dst ∧ a.dst < n
theorem filterMap_keep {n : Nat} (l : List Arc) (h : ∀ a ∈ l, a.In n) (ks : List Nat) (hk : ∀ k ∈ ks, k < l.length) : ks.filterMap (fun k => keepArc (List.range n) (l.getD k default)) = ks.map (fun k => l.getD k default) := by
  induction ks with
  | nil => rfl
  | cons k ks ih =>
    have hkl := hk k (by simp)
    have hm : l.getD k default ∈ l := by rw [List.getD_eq_getElem?_getD, List.getElem?_eq_getElem hkl]; exact List.getElem_mem hkl
    obtain ⟨a1, a2, a3, a4⟩ := h _ hm
    rw [List.filterMap_cons, keepArc_all a1 a2 a3 a4, List.map_cons, ih (fun j hj => hk j (by simp [hj]))]
theorem map_getD_range {α : Type} (l : List α) (d : α) : (List.range l.length).map (fun k => l.getD k d) = l := by
  apply List.ext_getElem?
  intro i
  by_cases hi : i < l.length
  · simp [hi, List.getD_eq_getElem?_getD]
  · simp [hi]
theorem keptN_small {n : Nat} (h : n ≤ 1000) : keptN (n : Int) = n := by unfold keptN; omega
end Go.Ql
