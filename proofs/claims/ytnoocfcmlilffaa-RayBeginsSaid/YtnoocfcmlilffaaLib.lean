/-
  WORDS FOR MEMORY: a slice that reads as a list (nil let in); what a call leaves ('Below'). No program in sight.
-/
import Derived.Test.YtnoocfcmlilffaaTree
import Derived.WalkLawsBesides
import Derived.Lib.Hide
import Derived.Maps.AppendAt
import Derived.Deep.AppendLies
set_option linter.all false
set_option linter.unusedSimpArgs false
set_option linter.unusedVariables false
namespace Go.Ql
open Go Go.RowKit

/-- a slice that reads as a list, one cell an element -/
def RowR {α : Type} (enc : α → Value) (w : World) (B : Nat) (A : Option Addr) (xs : List α) : Prop :=
  0 < xs.length → ∃ b off, A = some ⟨b, off, none⟩ ∧ b < B ∧ ∀ i x, xs[i]? = some x → w.cell? ⟨b, off + i, none⟩ = some (enc x)

theorem RowR.at_ {α : Type} {enc : α → Value} {w : World} {B : Nat} {A : Option Addr} {xs : List α} (h : RowR enc w B A xs) {k : Nat} (hk : k < xs.length) :
    ∃ b off, A = some ⟨b, off, none⟩ ∧ b < B ∧ w.cell? ⟨b, off + k, none⟩ = some (enc xs[k]) := by
  obtain ⟨b, off, e, hb, hc⟩ := h (by omega)
  exact ⟨b, off, e, hb, hc k _ (List.getElem?_eq_getElem hk)⟩

theorem RowR.keep {α : Type} {enc : α → Value} {w w' : World} {B B' : Nat} {A : Option Addr} {xs : List α} (h : RowR enc w B A xs) (hb : Below B' w w') (hB : B ≤ B') : RowR enc w' B A xs := by
  intro hn
  obtain ⟨b, off, e, hlt, hc⟩ := h hn
  exact ⟨b, off, e, hlt, fun i x hx => (hb.cell (p := ⟨b, off + i, none⟩) (Nat.lt_of_lt_of_le hlt hB)).trans (hc i x hx)⟩

theorem RowR.more {α : Type} {enc : α → Value} {w : World} {B B' : Nat} {A : Option Addr} {xs : List α} (h : RowR enc w B A xs) (hB : B ≤ B') : RowR enc w B' A xs := by
  intro hn
  obtain ⟨b, off, e, hlt, hc⟩ := h hn
  exact ⟨b, off, e, by omega, hc⟩

theorem RowR.nil {α : Type} {enc : α → Value} {w : World} {B : Nat} {A : Option Addr} : RowR enc w B A ([] : List α) := fun h => absurd h (by simp)

theorem below_drew {B : Nat} {a w : World} (h : Below B a w) : Below B a w.drew := ⟨h.os, h.tape, h.output, h.size, h.block⟩

theorem bcell {B : Nat} {W w1 : World} (hb : Below B W w1) : (∀ b o, b < B → w1.cell? ⟨b, o, none⟩ = W.cell? ⟨b, o, none⟩) ∧ (∀ b o, b < B → w1.frozen? ⟨b, o, none⟩ = W.frozen? ⟨b, o, none⟩) :=
  ⟨fun b o h => hb.cell (p := ⟨b, o, none⟩) h, fun b o h => hb.frozen (p := ⟨b, o, none⟩) h⟩

theorem take_snoc {α : Type} (l : List α) (k : Nat) (h : k < l.length) : l.take (k + 1) = l.take k ++ [l[k]] := List.take_succ_eq_append_getElem h

/-! ### a block that is known whole -/
def Has (w : World) (g : Nat) (t : TypeId) (cs : Array Value) : Prop := w.heap[g]? = some (.cells cs t (0, 0))
section
variable {w w' : World} {g : Nat} {t : TypeId} {cs : Array Value}
theorem Has.lt (h : Has w g t cs) : g < w.heap.size := (Array.getElem?_eq_some_iff.1 h).1
theorem Has.cell (h : Has w g t cs) (i : Nat) : w.cell? ⟨g, i, none⟩ = cs[i]? := cell_of_row w g i cs t (0, 0) h
theorem Has.free (h : Has w g t cs) (i : Nat) : w.frozen? ⟨g, i, none⟩ = false := by unfold Has at h; simp [World.frozen?, h]
theorem Has.new (w : World) (t : TypeId) (cs : Array Value) : Has (w.alloc (.cells cs t)) w.heap.size t cs := heap_alloc_new w _
theorem Has.new' (w : World) (t : TypeId) (cs : Array Value) {g : Nat} (hg : g = w.heap.size) : Has (w.alloc (.cells cs t)) g t cs := hg ▸ heap_alloc_new w _
theorem Has.drew (h : Has w g t cs) : Has w.drew g t cs := h
theorem Has.alloc (h : Has w g t cs) (o : Obj) : Has (w.alloc o) g t cs := ((World.grownBy_alloc w o none).block g h.lt (by simp)).trans h
theorem Has.set (h : Has w g t cs) (i : Nat) (u : Value) : Has (w.setCell ⟨g, i, none⟩ u) g t (cs.setIfInBounds i u) := by
  unfold Has at h ⊢
  simp [World.setCell, Array.getElem?_modify, h]
theorem heap_set_other (w : World) (p : Addr) (u : Value) (g : Nat) (hp : g ≠ p.block) : (w.setCell p u).heap[g]? = w.heap[g]? := by
  simp only [World.setCell, Array.getElem?_modify]
  rw [if_neg (fun e => hp e.symm)]
theorem Has.far (h : Has w g t cs) {p : Addr} (hp : g ≠ p.block) (u : Value) : Has (w.setCell p u) g t cs := (heap_set_other w p u g hp).trans h
theorem Has.below {B : Nat} (h : Has w g t cs) (hb : Below B w w') (hg : g < B) : Has w' g t cs := (hb.block g hg).trans h
theorem Has.grown {row : Option Nat} (h : Has w g t cs) (hb : w.grownBy w' row) (hg : some g ≠ row) : Has w' g t cs := (hb.block g h.lt hg).trans h
end

theorem set_map (n k : Nat) (f : Nat → Value) (v : Value) (_h : k < n) : ((List.range n).map f).toArray.setIfInBounds k v = ((List.range n).map (fun x => if x = k then v else f x)).toArray := by
  apply Array.ext_getElem?
  intro i
  rw [Array.getElem?_setIfInBounds]
  simp only [List.size_toArray, List.length_map, List.length_range, List.getElem?_toArray, List.getElem?_map]
  by_cases hi : i < n
  · simp only [List.getElem?_range hi, Option.map_some]
    by_cases e : k = i
    · subst e; simp [hi]
    · simp [e, Ne.symm e]
  · have : (List.range n)[i]? = none := List.getElem?_eq_none (by simpa using hi)
    simp only [this, Option.map_none]
    rw [if_neg (by omega)]

/-- the world under a name of its own, with what is known of it -/
theorem wp_world {P : Program} {c : Code} {Q : Exit → Act → World → Prop} {a : Act} {w : World} (R : World → Prop) (h : R w) (k : ∀ w', R w' → c.wp P Q a w') : c.wp P Q a w := k w h

theorem below_setCell {B : Nat} {a w : World} (h : Below B a w) {p : Addr} (hp : B ≤ p.block) (u : Value) : Below B a (w.setCell p u) :=
  ⟨h.os, h.tape, h.output, by simpa [World.setCell] using h.size, fun k hk => (heap_set_other w p u k (by omega)).trans (h.block k hk)⟩

theorem ownsRow_base {w : World} {b b' e size n : Nat} {v : Value} {xs : List Value} (h : w.ownsRow b e size v n xs) (hb : b' ≤ b) : w.ownsRow b' e size v n xs := by
  refine ⟨h.1, h.2.imp id ?_⟩
  rintro ⟨g, cap, cur, hv, hg, rest⟩
  exact ⟨g, cap, cur, hv, by omega, rest⟩

theorem ownsRow_keep {w w' : World} {b e size n : Nat} {v : Value} {xs : List Value} (h : w.ownsRow b e size v n xs) (hk : ∀ g, b ≤ g → g < w.heap.size → w'.heap[g]? = w.heap[g]?) : w'.ownsRow b e size v n xs := by
  refine ⟨h.1, h.2.imp id ?_⟩
  rintro ⟨g, cap, cur, hv, hg, hh, rest⟩
  exact ⟨g, cap, cur, hv, hg, (hk g hg (Array.getElem?_eq_some_iff.1 hh).1).trans hh, rest⟩

theorem ownsRow_set {w : World} {b e size n : Nat} {v : Value} {xs : List Value} (h : w.ownsRow b e size v n xs) {p : Addr} (hp : p.block < b) (u : Value) : (w.setCell p u).ownsRow b e size v n xs :=
  ownsRow_keep h fun g hg _ => heap_set_other w p u g (by omega)

theorem ownsRow_drew {w : World} {b e size n : Nat} {v : Value} {xs : List Value} (h : w.ownsRow b e size v n xs) : w.drew.ownsRow b e size v n xs := h

theorem ownsRow_below {w w' : World} {B b e size n : Nat} {v : Value} {xs : List Value} (h : w.ownsRow b e size v n xs) (hb : Below B w w') (hB : w.heap.size ≤ B) : w'.ownsRow b e size v n xs :=
  ownsRow_keep h fun g _ hg => hb.block g (by omega)

/-- an owned row, as a slice that reads as a list -/
theorem rowR_of_own {α : Type} {enc : α → Value} {w : World} {b e : Nat} {v : Value} {xs : List α} (h : w.ownsRow b e 1 v xs.length (xs.map enc)) :
    ∃ A c, v = .slice A xs.length c ∧ RowR enc w w.heap.size A xs ∧ xs.length ≤ c ∧ c ≤ maxLen ∧ (∀ a, A = some a → b ≤ a.block ∧ a.block < w.heap.size ∧ a.off = 0 ∧ a.spot = none) := by
  rcases h.2 with ⟨rfl, h0⟩ | ⟨g, cap, cur, rfl, hg, hh, hn, hc, hsz, htake⟩
  · have : xs = [] := List.eq_nil_of_length_eq_zero h0
    subst this
    exact ⟨none, 0, rfl, RowR.nil, by simp, by simp, fun a h => by cases h⟩
  · have hlt := (Array.getElem?_eq_some_iff.1 hh).1
    refine ⟨some ⟨g, 0, none⟩, cap, rfl, fun _ => ⟨g, 0, rfl, hlt, fun i x hx => ?_⟩, hn, hc, fun a h => by cases h; exact ⟨hg, hlt, rfl, rfl⟩⟩
    rw [cell_of_row w g (0 + i) cur e (0, 0) hh, Nat.zero_add]
    have h1 : (xs.map enc)[i]? = some (enc x) := by rw [List.getElem?_map, hx]; rfl
    rw [← htake, Nat.mul_one, List.getElem?_take] at h1
    split at h1
    · simpa using h1
    · cases h1

/-! ### a frame with holes: below B all is as it was, but for the blocks of S -/
structure FrB (B : Nat) (S : List Nat) (a w : World) : Prop where
  os : w.os = a.os
  tape : w.tape = a.tape
  output : w.output = a.output
  size : a.heap.size ≤ w.heap.size
  block : ∀ k, k < B → k ∉ S → w.heap[k]? = a.heap[k]?
section
variable {B : Nat} {S : List Nat} {a w w' : World}
theorem FrB.refl (B : Nat) (S : List Nat) (a : World) : FrB B S a a := ⟨rfl, rfl, rfl, Nat.le_refl _, fun _ _ _ => rfl⟩
theorem FrB.drew (h : FrB B S a w) : FrB B S a w.drew := ⟨h.os, h.tape, h.output, h.size, h.block⟩
theorem FrB.alloc (h : FrB B S a w) (hB : B ≤ w.heap.size) (o : Obj) : FrB B S a (w.alloc o) :=
  ⟨h.os, h.tape, h.output, Nat.le_trans h.size (by simp), fun k hk hs => ((World.grownBy_alloc w o none).block k (by omega) (by simp)).trans (h.block k hk hs)⟩
theorem FrB.set (h : FrB B S a w) {p : Addr} (hp : p.block ∈ S ∨ B ≤ p.block) (u : Value) : FrB B S a (w.setCell p u) :=
  ⟨h.os, h.tape, h.output, by simpa [World.setCell] using h.size, fun k hk hs => (heap_set_other w p u k (by rintro rfl; rcases hp with hp | hp; exact hs hp; omega)).trans (h.block k hk hs)⟩
theorem FrB.grown (h : FrB B S a w) {row : Option Nat} (hg : w.grownBy w' row) (hB : B ≤ w.heap.size) (hr : ∀ g, row = some g → B ≤ g ∨ g ∈ S) : FrB B S a w' :=
  ⟨hg.os.trans h.os, hg.tape.trans h.tape, hg.output.trans h.output, Nat.le_trans h.size hg.size, fun k hk hs => (hg.block k (by omega) (fun e => by rcases hr k e.symm with h | h; omega; exact hs h)).trans (h.block k hk hs)⟩
theorem FrB.below {B' : Nat} (h : FrB B S a w) (hb : Below B' w w') (hB : B ≤ B') : FrB B S a w' :=
  ⟨hb.os.trans h.os, hb.tape.trans h.tape, hb.output.trans h.output, Nat.le_trans h.size hb.size, fun k hk hs => (hb.block k (by omega)).trans (h.block k hk hs)⟩
theorem FrB.toBelow {B' : Nat} (h : FrB B S a w) (hB : B' ≤ B) (hS : ∀ s ∈ S, B' ≤ s) : Below B' a w :=
  ⟨h.os, h.tape, h.output, h.size, fun k hk => h.block k (by omega) (fun hs => by have := hS k hs; omega)⟩
theorem FrB.has {g : Nat} {t : TypeId} {cs : Array Value} (h : FrB B S a w) (hh : Has a g t cs) (hg : g < B) (hs : g ∉ S) : Has w g t cs := (h.block g hg hs).trans hh
theorem FrB.rowR {α : Type} {enc : α → Value} {B' : Nat} {A : Option Addr} {xs : List α} (h : FrB B S a w) (hr : RowR enc a B' A xs) (hB : B' ≤ B) (hs : ∀ ad, A = some ad → ad.block ∉ S) : RowR enc w B' A xs := by
  intro hn
  obtain ⟨b, off, e, hlt, hc⟩ := hr hn
  refine ⟨b, off, e, hlt, fun i x hx => ?_⟩
  rw [← hc i x hx]
  exact World.cell?_of_block (h.block b (by omega) (hs _ e))
end

theorem ownsRow_slice {w : World} {b e size n : Nat} {v : Value} {xs : List Value} (h : w.ownsRow b e size v n xs) : ∃ A c, v = .slice A n c := by
  rcases h.2 with ⟨rfl, rfl⟩ | ⟨g, cap, cur, rfl, _⟩
  · exact ⟨none, 0, rfl⟩
  · exact ⟨_, _, rfl⟩
theorem news_one (w : World) (x : Value) (t : TypeId) : ∀ j u, [x][j]? = some u → (w.alloc (.cells #[x] t)).drew.cell? ((⟨w.heap.size, 0, none⟩ : Addr).add j) = some u := fun j u h => cell_one_new w x t j u h
theorem news_row (w : World) (l : List Value) (t : TypeId) : ∀ j u, l[j]? = some u → (w.alloc (.cells l.toArray t)).cell? ((⟨w.heap.size, 0, none⟩ : Addr).add j) = some u :=
  fun j u h => World.news_of_block (Has.new w t l.toArray) j u (by simpa using h)
theorem news_row2 (w : World) (o : Obj) (l : List Value) (t : TypeId) : ∀ j u, l[j]? = some u → ((w.alloc o).alloc (.cells l.toArray t)).drew.cell? ((⟨w.heap.size + 1, 0, none⟩ : Addr).add j) = some u := fun j u h => by
  have := news_row (w.alloc o) l t j u h
  rw [World.size_alloc] at this
  exact this
theorem post_world {P : Program} {fn : Func} {R : Ending → World → Prop} {e : Exit} {a : Act} {w : World} (S : World → Prop) (h : S w) (k : ∀ w', S w' → bodyPost P fn R e a w') : bodyPost P fn R e a w := k w h
end Go.Ql
