/-
  AN INSTANCE THAT IS OWNED: two rows of its own.
-/
import Derived.Test.YtimkpgkpebjglaaSpec2
import Derived.Test.YtimkpgkpebjglaaBase
set_option linter.unusedSimpArgs false
set_option linter.unusedVariables false
namespace Go.Ql
open Go Go.RowKit
theorem RowR.alloc {α : Type} {enc : α → Value} {w : World} {A : Option Addr} {xs : List α} (h : RowR enc w w.heap.size A xs) (o : Obj) : RowR enc (w.alloc o) (w.alloc o).heap.size A xs :=
  (h.keep ((Below.refl w.heap.size w).alloc (Nat.le_refl _) o) (Nat.le_refl _)).more (by simp)
theorem RowR.below {α : Type} {enc : α → Value} {w w' : World} {A : Option Addr} {xs : List α} (h : RowR enc w w.heap.size A xs) (hb : Below w.heap.size w w') : RowR enc w' w'.heap.size A xs :=
  (h.keep hb (Nat.le_refl _)).more hb.size
theorem Has.ne {w : World} {g g' : Nat} {t t' : TypeId} {cs cs' : Array Value} (h : Has w g t cs) (h' : Has w g' t' cs') (hne : t ≠ t') : g ≠ g' := by
  rintro rfl
  unfold Has at h h'
  rw [h] at h'
  injection h' with h'
  injection h' with _ h'
  exact hne h'
theorem Has.size {w : World} {g : Nat} {t : TypeId} {cs cs' : Array Value} (h : Has w g t cs) (h' : Has w g t cs') : cs = cs' := by
  unfold Has at h h'
  rw [h] at h'
  injection h' with h'
  injection h' with h' _
/-- an owned row's block has its elements' type -/
theorem ownsRow_has {w : World} {b e size n : Nat} {v : Value} {xs : List Value} (h : w.ownsRow b e size v n xs) {g : Nat} (hg : v.ownBlock = some g) : ∃ cs, Has w g e cs := by
  rcases h.2 with ⟨rfl, _⟩ | ⟨g', cap, cur, rfl, _, hh, _⟩
  · simp [Value.ownBlock] at hg
  · simp [Value.ownBlock] at hg
    subst hg
    exact ⟨cur, hh⟩
theorem flatCells_at : ∀ (xs : List Arc) (i : Nat) (x : Arc), xs[i]? = some x → ∀ j, j < 5 → (xs.flatMap Arc.cells)[i * 5 + j]? = x.cells[j]?
  | [], i, x, h, j, _ => by simp at h
  | y :: xs, 0, x, h, j, hj => by
    simp at h
    subst h
    rw [List.flatMap_cons, Nat.zero_mul, Nat.zero_add, List.getElem?_append_left (by simp [Arc.cells]; omega)]
  | y :: xs, i + 1, x, h, j, hj => by
    rw [List.flatMap_cons, List.getElem?_append_right (by simp [Arc.cells]; omega)]
    have : (i + 1) * 5 + j - y.cells.length = i * 5 + j := by simp [Arc.cells]; omega
    rw [this]
    exact flatCells_at xs i x (by simpa using h) j hj
theorem arcsR_of_own {w : World} {b e : Nat} {v : Value} {xs : List Arc} (h : w.ownsRow b e 5 v xs.length (xs.flatMap Arc.cells)) :
    ∃ A c, v = .slice A xs.length c ∧ ArcsR w w.heap.size A xs ∧ xs.length ≤ c ∧ c ≤ maxLen ∧ (∀ a, A = some a → b ≤ a.block ∧ a.block < w.heap.size ∧ a.off = 0 ∧ a.spot = none ∧ ∃ cs, Has w a.block e cs) := by
  rcases h.2 with ⟨rfl, h0⟩ | ⟨g, cap, cur, rfl, hg, hh, hn, hc, hsz, htake⟩
  · have : xs = [] := List.eq_nil_of_length_eq_zero h0
    subst this
    exact ⟨none, 0, rfl, fun h => absurd h (by simp), by simp, by simp, fun a h => by cases h⟩
  · have hlt := (Array.getElem?_eq_some_iff.1 hh).1
    refine ⟨some ⟨g, 0, none⟩, cap, rfl, fun _ => ⟨g, 0, rfl, hlt, fun i x hx => ?_⟩, hn, hc, fun a h => by cases h; exact ⟨hg, hlt, rfl, rfl, cur, hh⟩⟩
    have key : ∀ j, j < 5 → w.cell? ⟨g, 0 + i * 5 + j, none⟩ = x.cells[j]? := by
      intro j hj
      rw [cell_of_row w g (0 + i * 5 + j) cur e (0, 0) hh, Nat.zero_add]
      have hi := (List.getElem?_eq_some_iff.1 hx).1
      have h1 : (xs.flatMap Arc.cells)[i * 5 + j]? = x.cells[j]? := flatCells_at xs i x hx j hj
      rw [← htake, List.getElem?_take, if_pos (by omega)] at h1
      simpa using h1
    exact ⟨key 0 (by omega), key 1 (by omega), key 2 (by omega), key 3 (by omega), key 4 (by omega)⟩
end Go.Ql
namespace Go.Proofs.Ytimkpgkpebjglaa
open Go Go.RowKit Go.Ql
/-- an instance of one's own: both rows from block b on -/
def OwnI (w : World) (b : Nat) (v : Value) (I : Inst) : Prop :=
  ∃ v1 v2, v = .agg #[v1, v2] ∧ w.ownsRow b 2 1 v1 I.sup.length (I.sup.map i64) ∧ w.ownsRow b 41 5 v2 I.arcs.length (I.arcs.flatMap Arc.cells)
theorem OwnI.inst {w : World} {b : Nat} {v : Value} {I : Inst} (h : OwnI w b v I) : InstR w w.heap.size v I := by
  obtain ⟨v1, v2, rfl, h1, h2⟩ := h
  obtain ⟨A, c, rfl, r1, _⟩ := rowR_of_own (enc := i64) h1
  obtain ⟨A', c', rfl, r2, _⟩ := arcsR_of_own h2
  exact ⟨A, c, A', c', rfl, r1, r2⟩
theorem OwnI.below {w w' : World} {b B : Nat} {v : Value} {I : Inst} (h : OwnI w b v I) (hb : Below B w w') (hB : w.heap.size ≤ B) : OwnI w' b v I := by
  obtain ⟨v1, v2, rfl, h1, h2⟩ := h
  exact ⟨v1, v2, rfl, ownsRow_below h1 hb hB, ownsRow_below h2 hb hB⟩
/-- 'make([]int64, n)' -/
theorem make_int64s (n : Nat) (hn : n ≤ 1000000) (u : World) : (Instr.makeSlice 23 (.int .i64 (n : Int)) (.int .i64 (n : Int))).run Try.prog u =
    .ok (.slice (some ⟨u.heap.size, 0, none⟩) n n) (u.alloc (.cells ((List.replicate n (0 : Int)).map i64).toArray 2)) := by
  obtain ⟨i0, hi, hz0, hz1, hz2⟩ := info_parts info_int64
  have h := run_make (P := Try.prog) u 23 2 i0 (.int .i64 0) Try.underlying23 hi hz0 .i64 .i64 (n : Int) (n : Int) (by omega) (Int.le_refl _) (by rw [hz2]; omega) (by omega)
  rw [h]
  have : madeCells (Value.cells (.int .i64 0)) (((n : Int)).toNat * i0.size) = ((List.replicate n (0 : Int)).map i64).toArray := by
    rw [hz1]
    have e := toList_madeCells_one (.int .i64 0) n
    apply Array.toList_inj.1
    simp only [Value.cells, Int.toNat_natCast, Nat.mul_one] at e ⊢
    rw [e, List.map_replicate]
    rfl
  rw [this]
  simp
end Go.Proofs.Ytimkpgkpebjglaa
