/- Part of the proof, Spec. -/
import Derived.Test.YtggblkbecekbdaaZTree
import Derived.WalkLawsBesides
import Derived.Lib.Hide
import Derived.Maps.AppendAt
import Derived.Deep.AppendLies
section
set_option linter.all false
set_option linter.unusedSimpArgs false
set_option linter.unusedVariables false
namespace Go.Ql
open Go Go.RowKit
def RowR {α : Type} (enc : α → Value) (w : World) (B : Nat) (A : Option Addr) (xs : List α) : Prop :=
  0 < xs.length → ∃ b off, A = some ⟨b, off, none⟩ ∧ b < B ∧ ∀ i x, xs[i]? = some x → w.cell? ⟨b, off + i, none⟩ = some (enc x)
theorem RowR.at_ {α : Type} {enc : α → Value} {w : World} {B : Nat} {A : Option Addr} {xs : List α} (h : RowR enc w B A xs) {k : Nat} (hk : k < xs.length) :
    ∃ b off, A = some ⟨b, off, none⟩ ∧ b < B ∧ w.cell? ⟨b, off + k, none⟩ = some (enc xs[k]) := by
  obtain ⟨b, off, e, hb, hc⟩ := h (by omega)
  exact ⟨b, off, e, hb, hc k _ (List.getElem?_eq_getElem hk)⟩
theorem RowR.keep {α : Type} {enc : α → Value} {w w' : World} {B B' : Nat} {A : Option Addr} {xs : List α} (h : RowR enc w B A xs) (hb : Below B' w w') (hB : B ≤ B') : RowR enc w' B A xs := by
  intro hn
  obtain ⟨b, off, e, hlt, hc⟩ := h hn
  exact ⟨b, off, e, hlt, fun i x hx => (hb.cell (p := ⟨b, off + i, none⟩) (Nat.lt_of_lt_of_le hlt hB)).trans (hc i x hx)⟩
theorem RowR.more {α : Type} {enc : α → Value} {w : World} {B B' : Nat} {A : Option Addr} {xs : List α} (h : RowR enc w B A xs) (hB : B ≤ B') : RowR enc w B' A xs := by
  intro hn
  obtain ⟨b, off, e, hlt, hc⟩ := h hn
  exact ⟨b, off, e, by omega, hc⟩
theorem RowR.nil {α : Type} {enc : α → Value} {w : World} {B : Nat} {A : Option Addr} : RowR enc w B A ([] : List α) := fun h => absurd h (by simp)
theorem below_drew {B : Nat} {a w : World} (h : Below B a w) : Below B a w.drew := ⟨h.os, h.tape, h.output, h.size, h.block⟩
theorem bcell {B : Nat} {W w1 : World} (hb : Below B W w1) : (∀ b o, b < B → w1.cell? ⟨b, o, none⟩ = W.cell? ⟨b, o, none⟩) ∧ (∀ b o, b < B → w1.frozen? ⟨b, o, none⟩ = W.frozen? ⟨b, o, none⟩) :=
  ⟨fun b o h => hb.cell (p := ⟨b, o, none⟩) h, fun b o h => hb.frozen (p := ⟨b, o, none⟩) h⟩
theorem take_snoc {α : Type} (l : List α) (k : Nat) (h : k < l.length) : l.take (k + 1) = l.take k ++ [l[k]] := List.take_succ_eq_append_getElem h
def Has (w : World) (g : Nat) (t : TypeId) (cs : Array Value) : Prop := w.heap[g]? = some (.cells cs t (0, 0))
section
variable {w w' : World} {g : Nat} {t : TypeId} {cs : Array Value}
theorem Has.lt (h : Has w g t cs) : g < w.heap.size := (Array.getElem?_eq_some_iff.1 h).1
theorem Has.cell (h : Has w g t cs) (i : Nat) : w.cell? ⟨g, i, none⟩ = cs[i]? := cell_of_row w g i cs t (0, 0) h
theorem Has.free (h : Has w g t cs) (i : Nat) : w.frozen? ⟨g, i, none⟩ = false := by unfold Has at h; simp [World.frozen?, h]
theorem Has.new (w : World) (t : TypeId) (cs : Array Value) : Has (w.alloc (.cells cs t)) w.heap.size t cs := heap_alloc_new w _
theorem Has.new' (w : World) (t : TypeId) (cs : Array Value) {g : Nat} (hg : g = w.heap.size) : Has (w.alloc (.cells cs t)) g t cs := hg ▸ heap_alloc_new w _
theorem Has.drew (h : Has w g t cs) : Has w.drew g t cs := h
theorem Has.alloc (h : Has w g t cs) (o : Obj) : Has (w.alloc o) g t cs := ((World.grownBy_alloc w o none).block g h.lt (by simp)).trans h
theorem Has.set (h : Has w g t cs) (i : Nat) (u : Value) : Has (w.setCell ⟨g, i, none⟩ u) g t (cs.setIfInBounds i u) := by
  unfold Has at h ⊢
  simp [World.setCell, Array.getElem?_modify, h]
theorem heap_set_other (w : World) (p : Addr) (u : Value) (g : Nat) (hp : g ≠ p.block) : (w.setCell p u).heap[g]? = w.heap[g]? := by
  simp only [World.setCell, Array.getElem?_modify]
  rw [if_neg (fun e => hp e.symm)]
theorem Has.far (h : Has w g t cs) {p : Addr} (hp : g ≠ p.block) (u : Value) : Has (w.setCell p u) g t cs := (heap_set_other w p u g hp).trans h
theorem Has.below {B : Nat} (h : Has w g t cs) (hb : Below B w w') (hg : g < B) : Has w' g t cs := (hb.block g hg).trans h
theorem Has.grown {row : Option Nat} (h : Has w g t cs) (hb : w.grownBy w' row) (hg : some g ≠ row) : Has w' g t cs := (hb.block g h.lt hg).trans h
end
theorem set_map (n k : Nat) (f : Nat → Value) (v : Value) (_h : k < n) : ((List.range n).map f).toArray.setIfInBounds k v = ((List.range n).map (fun x => if x = k then v else f x)).toArray := by
  apply Array.ext_getElem?
  intro i
  rw [Array.getElem?_setIfInBounds]
  simp only [List.size_toArray, List.length_map, List.length_range, List.getElem?_toArray, List.getElem?_map]
  by_cases hi : i < n
  · simp only [List.getElem?_range hi, Option.map_some]
    by_cases e : k = i
    · subst e; simp [hi]
    · simp [e, Ne.symm e]
  · have : (List.range n)[i]? = none := List.getElem?_eq_none (by simpa using hi)
    simp only [this, Option.map_none]
    rw [if_neg (by omega)]
theorem wp_world {P : Program} {c : Code} {Q : Exit → Act → World → Prop} {a : Act} {w : World} (R : World → Prop) (h : R w) (k : ∀ w', R w' → c.wp P Q a w') : c.wp P Q a w := k w h
theorem below_setCell {B : Nat} {a w : World} (h : Below B a w) {p : Addr} (hp : B ≤ p.block) (u : Value) : Below B a (w.setCell p u) :=
  ⟨h.os, h.tape, h.output, by simpa [World.setCell] using h.size, fun k hk => (heap_set_other w p u k (by omega)).trans (h.block k hk)⟩
theorem ownsRow_base {w : World} {b b' e size n : Nat} {v : Value} {xs : List Value} (h : w.ownsRow b e size v n xs) (hb : b' ≤ b) : w.ownsRow b' e size v n xs := by
  refine ⟨h.1, h.2.imp id ?_⟩
  rintro ⟨g, cap, cur, hv, hg, rest⟩
  exact ⟨g, cap, cur, hv, by omega, rest⟩
theorem ownsRow_keep {w w' : World} {b e size n : Nat} {v : Value} {xs : List Value} (h : w.ownsRow b e size v n xs) (hk : ∀ g, b ≤ g → g < w.heap.size → w'.heap[g]? = w.heap[g]?) : w'.ownsRow b e size v n xs := by
  refine ⟨h.1, h.2.imp id ?_⟩
  rintro ⟨g, cap, cur, hv, hg, hh, rest⟩
  exact ⟨g, cap, cur, hv, hg, (hk g hg (Array.getElem?_eq_some_iff.1 hh).1).trans hh, rest⟩
theorem ownsRow_set {w : World} {b e size n : Nat} {v : Value} {xs : List Value} (h : w.ownsRow b e size v n xs) {p : Addr} (hp : p.block < b) (u : Value) : (w.setCell p u).ownsRow b e size v n xs :=
  ownsRow_keep h fun g hg _ => heap_set_other w p u g (by omega)
theorem ownsRow_drew {w : World} {b e size n : Nat} {v : Value} {xs : List Value} (h : w.ownsRow b e size v n xs) : w.drew.ownsRow b e size v n xs := h
theorem ownsRow_below {w w' : World} {B b e size n : Nat} {v : Value} {xs : List Value} (h : w.ownsRow b e size v n xs) (hb : Below B w w') (hB : w.heap.size ≤ B) : w'.ownsRow b e size v n xs :=
  ownsRow_keep h fun g _ hg => hb.block g (by omega)
theorem rowR_of_own {α : Type} {enc : α → Value} {w : World} {b e : Nat} {v : Value} {xs : List α} (h : w.ownsRow b e 1 v xs.length (xs.map enc)) :
    ∃ A c, v = .slice A xs.length c ∧ RowR enc w w.heap.size A xs ∧ xs.length ≤ c ∧ c ≤ maxLen ∧ (∀ a, A = some a → b ≤ a.block ∧ a.block < w.heap.size ∧ a.off = 0 ∧ a.spot = none) := by
  rcases h.2 with ⟨rfl, h0⟩ | ⟨g, cap, cur, rfl, hg, hh, hn, hc, hsz, htake⟩
  · have : xs = [] := List.eq_nil_of_length_eq_zero h0
    subst this
    exact ⟨none, 0, rfl, RowR.nil, by simp, by simp, fun a h => by cases h⟩
  · have hlt := (Array.getElem?_eq_some_iff.1 hh).1
    refine ⟨some ⟨g, 0, none⟩, cap, rfl, fun _ => ⟨g, 0, rfl, hlt, fun i x hx => ?_⟩, hn, hc, fun a h => by cases h; exact ⟨hg, hlt, rfl, rfl⟩⟩
    rw [cell_of_row w g (0 + i) cur e (0, 0) hh, Nat.zero_add]
    have h1 : (xs.map enc)[i]? = some (enc x) := by rw [List.getElem?_map, hx]; rfl
    rw [← htake, Nat.mul_one, List.getElem?_take] at h1
    split at h1
    · simpa using h1
    · cases h1
structure FrB (B : Nat) (S : List Nat) (a w : World) : Prop where
  os : w.os = a.os
  tape : w.tape = a.tape
  output : w.output = a.output
  size : a.heap.size ≤ w.heap.size
  block : ∀ k, k < B → k ∉ S → w.heap[k]? = a.heap[k]?
section
variable {B : Nat} {S : List Nat} {a w w' : World}
theorem FrB.refl (B : Nat) (S : List Nat) (a : World) : FrB B S a a := ⟨rfl, rfl, rfl, Nat.le_refl _, fun _ _ _ => rfl⟩
theorem FrB.drew (h : FrB B S a w) : FrB B S a w.drew := ⟨h.os, h.tape, h.output, h.size, h.block⟩
theorem FrB.alloc (h : FrB B S a w) (hB : B ≤ w.heap.size) (o : Obj) : FrB B S a (w.alloc o) :=
  ⟨h.os, h.tape, h.output, Nat.le_trans h.size (by simp), fun k hk hs => ((World.grownBy_alloc w o none).block k (by omega) (by simp)).trans (h.block k hk hs)⟩
theorem FrB.set (h : FrB B S a w) {p : Addr} (hp : p.block ∈ S ∨ B ≤ p.block) (u : Value) : FrB B S a (w.setCell p u) :=
  ⟨h.os, h.tape, h.output, by simpa [World.setCell] using h.size, fun k hk hs => (heap_set_other w p u k (by rintro rfl; rcases hp with hp | hp; exact hs hp; omega)).trans (h.block k hk hs)⟩
theorem FrB.grown (h : FrB B S a w) {row : Option Nat} (hg : w.grownBy w' row) (hB : B ≤ w.heap.size) (hr : ∀ g, row = some g → B ≤ g ∨ g ∈ S) : FrB B S a w' :=
  ⟨hg.os.trans h.os, hg.tape.trans h.tape, hg.output.trans h.output, Nat.le_trans h.size hg.size, fun k hk hs => (hg.block k (by omega) (fun e => by rcases hr k e.symm with h | h; omega; exact hs h)).trans (h.block k hk hs)⟩
theorem FrB.below {B' : Nat} (h : FrB B S a w) (hb : Below B' w w') (hB : B ≤ B') : FrB B S a w' :=
  ⟨hb.os.trans h.os, hb.tape.trans h.tape, hb.output.trans h.output, Nat.le_trans h.size hb.size, fun k hk hs => (hb.block k (by omega)).trans (h.block k hk hs)⟩
theorem FrB.toBelow {B' : Nat} (h : FrB B S a w) (hB : B' ≤ B) (hS : ∀ s ∈ S, B' ≤ s) : Below B' a w :=
  ⟨h.os, h.tape, h.output, h.size, fun k hk => h.block k (by omega) (fun hs => by have := hS k hs; omega)⟩
theorem FrB.has {g : Nat} {t : TypeId} {cs : Array Value} (h : FrB B S a w) (hh : Has a g t cs) (hg : g < B) (hs : g ∉ S) : Has w g t cs := (h.block g hg hs).trans hh
theorem FrB.rowR {α : Type} {enc : α → Value} {B' : Nat} {A : Option Addr} {xs : List α} (h : FrB B S a w) (hr : RowR enc a B' A xs) (hB : B' ≤ B) (hs : ∀ ad, A = some ad → ad.block ∉ S) : RowR enc w B' A xs := by
  intro hn
  obtain ⟨b, off, e, hlt, hc⟩ := hr hn
  refine ⟨b, off, e, hlt, fun i x hx => ?_⟩
  rw [← hc i x hx]
  exact World.cell?_of_block (h.block b (by omega) (hs _ e))
end
theorem ownsRow_slice {w : World} {b e size n : Nat} {v : Value} {xs : List Value} (h : w.ownsRow b e size v n xs) : ∃ A c, v = .slice A n c := by
  rcases h.2 with ⟨rfl, rfl⟩ | ⟨g, cap, cur, rfl, _⟩
  · exact ⟨none, 0, rfl⟩
  · exact ⟨_, _, rfl⟩
theorem news_one (w : World) (x : Value) (t : TypeId) : ∀ j u, [x][j]? = some u → (w.alloc (.cells #[x] t)).drew.cell? ((⟨w.heap.size, 0, none⟩ : Addr).add j) = some u := fun j u h => cell_one_new w x t j u h
theorem news_row (w : World) (l : List Value) (t : TypeId) : ∀ j u, l[j]? = some u → (w.alloc (.cells l.toArray t)).cell? ((⟨w.heap.size, 0, none⟩ : Addr).add j) = some u :=
  fun j u h => World.news_of_block (Has.new w t l.toArray) j u (by simpa using h)
theorem news_row2 (w : World) (o : Obj) (l : List Value) (t : TypeId) : ∀ j u, l[j]? = some u → ((w.alloc o).alloc (.cells l.toArray t)).drew.cell? ((⟨w.heap.size + 1, 0, none⟩ : Addr).add j) = some u := fun j u h => by
  have := news_row (w.alloc o) l t j u h
  rw [World.size_alloc] at this
  exact this
theorem post_world {P : Program} {fn : Func} {R : Ending → World → Prop} {e : Exit} {a : Act} {w : World} (S : World → Prop) (h : S w) (k : ∀ w', S w' → bodyPost P fn R e a w') : bodyPost P fn R e a w := k w h
end Go.Ql
end
section
set_option linter.all false
set_option linter.unusedSimpArgs false
set_option linter.unusedVariables false
namespace Go.Ql
open Go Go.RowKit
structure Arc where
  src : Int
  dst : Int
  low : Int
  cap : Int
  cost : Int
deriving DecidableEq
structure Inst where
  sup : List Int
  arcs : List Arc
deriving DecidableEq
def i64 (n : Int) : Value := .int .i64 n
def u8 (n : Int) : Value := .int .u8 n
def Arc.val (a : Arc) : Value := .agg #[.int .i64 a.src, .int .i64 a.dst, .int .i64 a.low, .int .i64 a.cap, .int .i64 a.cost]
def Arc.cells (a : Arc) : List Value := [.int .i64 a.src, .int .i64 a.dst, .int .i64 a.low, .int .i64 a.cap, .int .i64 a.cost]
def ArcAt (w : World) (b o : Nat) (a : Arc) : Prop :=
  w.cell? ⟨b, o, none⟩ = some (.int .i64 a.src) ∧ w.cell? ⟨b, o + 1, none⟩ = some (.int .i64 a.dst) ∧
  w.cell? ⟨b, o + 2, none⟩ = some (.int .i64 a.low) ∧ w.cell? ⟨b, o + 3, none⟩ = some (.int .i64 a.cap) ∧
  w.cell? ⟨b, o + 4, none⟩ = some (.int .i64 a.cost)
def ArcsR (w : World) (B : Nat) (A : Option Addr) (xs : List Arc) : Prop :=
  0 < xs.length → ∃ b off, A = some ⟨b, off, none⟩ ∧ b < B ∧ ∀ i x, xs[i]? = some x → ArcAt w b (off + i * 5) x
theorem ArcsR.at_ {w : World} {B : Nat} {A : Option Addr} {xs : List Arc} (h : ArcsR w B A xs) {k : Nat} (hk : k < xs.length) :
    ∃ b off, A = some ⟨b, off, none⟩ ∧ b < B ∧ ArcAt w b (off + k * 5) xs[k] := by
  obtain ⟨b, off, e, hb, hc⟩ := h (by omega)
  exact ⟨b, off, e, hb, hc k _ (List.getElem?_eq_getElem hk)⟩
theorem ArcAt.keep {w w' : World} {B b o : Nat} {a : Arc} (h : ArcAt w b o a) (hb : Below B w w') (hB : b < B) : ArcAt w' b o a := by
  have hh : ∀ o, w'.cell? ⟨b, o, none⟩ = w.cell? ⟨b, o, none⟩ := fun o => hb.cell (p := ⟨b, o, none⟩) hB
  unfold ArcAt at *
  rw [hh, hh, hh, hh, hh]
  exact h
theorem ArcsR.keep {w w' : World} {B B' : Nat} {A : Option Addr} {xs : List Arc} (h : ArcsR w B A xs) (hb : Below B' w w') (hB : B ≤ B') : ArcsR w' B A xs := by
  intro hn
  obtain ⟨b, off, e, hlt, hc⟩ := h hn
  exact ⟨b, off, e, hlt, fun i x hx => (hc i x hx).keep hb (by omega)⟩
theorem ArcsR.more {w : World} {B B' : Nat} {A : Option Addr} {xs : List Arc} (h : ArcsR w B A xs) (hB : B ≤ B') : ArcsR w B' A xs := by
  intro hn
  obtain ⟨b, off, e, hlt, hc⟩ := h hn
  exact ⟨b, off, e, by omega, hc⟩
theorem ArcsR.nil {w : World} {B : Nat} {A : Option Addr} : ArcsR w B A [] := fun h => absurd h (by simp)
def InstR (w : World) (B : Nat) (v : Value) (I : Inst) : Prop :=
  ∃ A c A' c', v = .agg #[.slice A I.sup.length c, .slice A' I.arcs.length c'] ∧ RowR i64 w B A I.sup ∧ ArcsR w B A' I.arcs
theorem InstR.keep {w w' : World} {B B' : Nat} {v : Value} {I : Inst} (h : InstR w B v I) (hb : Below B' w w') (hB : B ≤ B') : InstR w' B v I := by
  obtain ⟨A, c, A', c', e, h1, h2⟩ := h
  exact ⟨A, c, A', c', e, h1.keep hb hB, h2.keep hb hB⟩
theorem InstR.more {w : World} {B B' : Nat} {v : Value} {I : Inst} (h : InstR w B v I) (hB : B ≤ B') : InstR w B' v I := by
  obtain ⟨A, c, A', c', e, h1, h2⟩ := h
  exact ⟨A, c, A', c', e, h1.more hB, h2.more hB⟩
def rightArcF (a : Arc) (n : Int) : Int :=
  if ¬ (0 ≤ a.src ∧ a.src < n) ∨ ¬ (0 ≤ a.dst ∧ a.dst < n) then 21
  else if a.low < 0 ∨ 4398046511104 < a.low then 22
  else if a.cap ≠ 4611686018427387904 ∧ (a.cap < a.low ∨ 4398046511104 < a.cap) then 22
  else if a.cost < -4398046511104 ∨ 4398046511104 < a.cost then 23
  else 0
def arcsErr (n : Int) : List Arc → Int
  | [] => 0
  | a :: r => if rightArcF a n = 0 then arcsErr n r else rightArcF a n
def supErr : List Int → Int → Int
  | [], s => if s = 0 then 0 else 25
  | x :: r, s => if x < -4398046511104 ∨ 4398046511104 < x then 24 else supErr r (s + x)
def rightF (I : Inst) : Int :=
  if 64 < I.sup.length ∨ 256 < I.arcs.length then 20
  else if arcsErr I.sup.length I.arcs = 0 then supErr I.sup 0 else arcsErr I.sup.length I.arcs
def nat64 (n : Nat) : Value := .int .i64 (n : Int)
def keptGo (off : List Bool) : Nat → Nat → List Nat
  | 0, _ => []
  | f + 1, k => if off.getD k false then keptGo off f (k + 1) else k :: keptGo off f (k + 1)
def keptF (off : List Bool) (n : Nat) : List Nat := keptGo off n 0
def keptN (n : Int) : Nat := min n.toNat 1000
def cntLow : List Arc → Nat
  | [] => 0
  | a :: r => (if a.low = 0 then 0 else 1) + cntLow r
theorem cntLow_le (l : List Arc) : cntLow l ≤ l.length := by
  induction l with
  | nil => simp [cntLow]
  | cons a l ih => simp only [cntLow, List.length_cons]; split <;> omega
def spanF (I : Inst) : Nat := I.sup.length + I.arcs.length + cntLow I.arcs
def placeGo (n : Int) : List Nat → Nat → Int
  | [], _ => -1
  | x :: r, k => if (x : Int) = n then k else placeGo n r (k + 1)
theorem keptGo_mem (off : List Bool) : ∀ (f k x : Nat), x ∈ keptGo off f k → k ≤ x ∧ x < k + f
  | 0, _, _, h => by simp [keptGo] at h
  | f + 1, k, x, h => by
    unfold keptGo at h
    split at h
    · have := keptGo_mem off f (k + 1) x h; omega
    · cases h with
      | head => omega
      | tail _ h => have := keptGo_mem off f (k + 1) x h; omega
theorem keptGo_sorted (off : List Bool) : ∀ (f k : Nat), (keptGo off f k).Pairwise (· < ·)
  | 0, _ => List.Pairwise.nil
  | f + 1, k => by
    unfold keptGo
    split
    · exact keptGo_sorted off f (k + 1)
    · refine List.Pairwise.cons (fun y hy => ?_) (keptGo_sorted off f (k + 1))
      have := keptGo_mem off f (k + 1) y hy; omega
theorem keptF_lt {off : List Bool} {n x : Nat} (h : x ∈ keptF off n) : x < n := by have := keptGo_mem off n 0 x h; omega
theorem keptF_len (off : List Bool) (n : Nat) : (keptF off n).length ≤ n := by
  have : ∀ f k, (keptGo off f k).length ≤ f := by
    intro f
    induction f with
    | zero => intro k; simp [keptGo]
    | succ f ih => intro k; have := ih (k + 1); unfold keptGo; split <;> (try simp only [List.length_cons]) <;> omega
  exact this n 0
theorem placeGo_cases (x : Int) : ∀ (l : List Nat) (k : Nat), placeGo x l k = -1 ∧ (∀ y ∈ l, (y : Int) ≠ x) ∨ (k : Int) ≤ placeGo x l k ∧ placeGo x l k < k + l.length ∧ ∃ y ∈ l, (y : Int) = x
  | [], k => .inl ⟨rfl, by simp⟩
  | y :: l, k => by
    unfold placeGo
    by_cases h : (y : Int) = x
    · rw [if_pos h]; refine .inr ⟨by omega, by simp only [List.length_cons]; omega, y, by simp, h⟩
    · rw [if_neg h]
      rcases placeGo_cases x l (k + 1) with ⟨h1, h2⟩ | ⟨h1, h2, z, hz, hzx⟩
      · exact .inl ⟨h1, fun z hz => by cases hz with | head => exact h | tail _ hz => exact h2 z hz⟩
      · exact .inr ⟨by omega, by simp only [List.length_cons]; omega, z, by simp [hz], hzx⟩
theorem placeGo_snoc (x : Int) (y : Nat) : ∀ (l : List Nat) (k : Nat), placeGo x (l ++ [y]) k = if 0 ≤ placeGo x l k then placeGo x l k else if (y : Int) = x then (k : Int) + l.length else -1
  | [], k => by simp [placeGo]
  | z :: l, k => by
    have e1 : placeGo x ((z :: l) ++ [y]) k = if (z : Int) = x then (k : Int) else placeGo x (l ++ [y]) (k + 1) := rfl
    have e2 : placeGo x (z :: l) k = if (z : Int) = x then (k : Int) else placeGo x l (k + 1) := rfl
    rw [e1, e2]
    have ih := placeGo_snoc x y l (k + 1)
    simp only [List.length_cons]
    by_cases h : (z : Int) = x
    · simp [h]
    · simp only [h, if_false]
      rw [ih]
      split
      · rfl
      · split
        · omega
        · rfl
instance : Inhabited Arc := ⟨⟨0, 0, 0, 0, 0⟩⟩
def keepArc (n : List Nat) (a : Arc) : Option Arc :=
  if 0 ≤ placeGo a.src n 0 ∧ 0 ≤ placeGo a.dst n 0 then some { a with src := placeGo a.src n 0, dst := placeGo a.dst n 0 } else none
def keptNodes (I : Inst) (nodes : List Bool) : List Nat := keptF nodes (keptN I.sup.length)
def keptArcs (I : Inst) (offs : List Bool) : List Nat := keptF offs (keptN I.arcs.length)
def withoutF (I : Inst) (nodes offs : List Bool) : Inst :=
  { sup := (keptNodes I nodes).map (fun k => I.sup.getD k 0), arcs := (keptArcs I offs).filterMap (fun k => keepArc (keptNodes I nodes) (I.arcs.getD k default)) }
theorem drop_cons {α : Type} (l : List α) (k : Nat) (h : k < l.length) : l.drop k = l[k] :: l.drop (k + 1) := List.drop_eq_getElem_cons h
theorem ret_int {k : IntKind} {a b : Int} (h : a = b) : Ending.returned (.int k a) = .returned (.int k b) := by rw [h]
theorem ret_bool {a b : Bool} (h : a = b) : Ending.returned (.bool a) = .returned (.bool b) := by rw [h]
def arcOf (x0 x1 x2 x3 many : Int) : Arc :=
  if x3 % 8 = 0 then ⟨x0 % many, x0 / 16 % many, x1 % 3, 4611686018427387904, x2 % 21 - 8⟩
  else if x3 % 8 = 1 then ⟨x0 % many, x0 / 16 % many, 0, x1 % 3 + x1 / 3 % 6, x2 % 21 - 8⟩
  else if x3 % 8 = 2 then ⟨x0 % many, x0 / 16 % many, x1 % 3, x1 % 3 + x1 / 3 % 6, 0⟩
  else ⟨x0 % many, x0 / 16 % many, x1 % 3, x1 % 3 + x1 / 3 % 6, x2 % 21 - 8⟩
def arcsGo (c : List Int) (many : Int) : Nat → Nat → List Arc
  | 0, _ => []
  | f + 1, k => if k + 3 < c.length then arcOf (c.getD k 0) (c.getD (k + 1) 0) (c.getD (k + 2) 0) (c.getD (k + 3) 0) many :: arcsGo c many f (k + 4) else []
def arcsF (c : List Int) (many : Int) : List Arc := arcsGo c many 18 0
theorem arcsGo_len (c : List Int) (many : Int) : ∀ f k, (arcsGo c many f k).length ≤ f
  | 0, _ => by simp [arcsGo]
  | f + 1, k => by
    unfold arcsGo
    split
    · have := arcsGo_len c many f (k + 4); simp; omega
    · simp
end Go.Ql
end
section
set_option linter.all false
set_option linter.unusedSimpArgs false
set_option linter.unusedVariables false
namespace Go.Ql
open Go Go.RowKit
def addAt (s : List Int) (k : Nat) (x : Int) : List Int := s.set k (s.getD k 0 + x)
def useOf (d : List Int) (k : Nat) (a : Arc) : Int := if k + 1 < d.length then min (a.low + d.getD (k + 1) 0 % 4) a.cap else a.low
def supGo (d : List Int) : List Arc → Nat → List Int → List Int
  | [], _, s => s
  | a :: l, k, s => supGo d l (k + 1) (addAt (addAt s a.src.toNat (useOf d k a)) a.dst.toNat (-(useOf d k a)))
def nOf (d : List Int) : Nat := if 0 < d.length then 1 + (d.getD 0 0 % 7).toNat else 1
def sup1 (c d : List Int) : List Int := supGo d (arcsF c (nOf d)) 0 (List.replicate (nOf d) 0)
def instF (c d : List Int) : Inst :=
  { sup := if 1 < d.length ∧ d.getD (d.length - 1) 0 % 5 = 0 then addAt (addAt (sup1 c d) 0 (d.getD 1 0 % 3)) (nOf d - 1) (-(d.getD 1 0 % 3)) else sup1 c d
    arcs := arcsF c (nOf d) }
def marksF (c : List Int) (many : Nat) : List Bool := (c.take many).map (fun x => decide (x % 3 = 0))
def Bytes (c : List Int) : Prop := ∀ x ∈ c, 0 ≤ x ∧ x ≤ 255
theorem Bytes.getD {c : List Int} (h : Bytes c) (k : Nat) : 0 ≤ c.getD k 0 ∧ c.getD k 0 ≤ 255 := by
  by_cases hk : k < c.length
  · have := h _ (List.getElem_mem hk)
    simpa [List.getD, hk] using this
  · simp [List.getD, hk]
theorem addAt_len (s : List Int) (k : Nat) (x : Int) : (addAt s k x).length = s.length := by simp [addAt]
theorem supGo_len (d : List Int) : ∀ (l : List Arc) (k : Nat) (s : List Int), (supGo d l k s).length = s.length
  | [], _, _ => rfl
  | a :: l, k, s => by rw [supGo, supGo_len d l, addAt_len, addAt_len]
theorem nOf_pos (d : List Int) : 1 ≤ nOf d := by unfold nOf; split <;> omega
theorem nOf_le (d : List Int) : nOf d ≤ 7 := by
  unfold nOf; split <;> omega
theorem sup1_len (c d : List Int) : (sup1 c d).length = nOf d := by simp [sup1, supGo_len]
theorem instF_sup (c d : List Int) : (instF c d).sup.length = nOf d := by
  unfold instF; dsimp only; split <;> simp [addAt_len, sup1_len]
theorem arcsF_len (c : List Int) (many : Int) : (arcsF c many).length ≤ 18 := arcsGo_len _ _ _ _
structure Arc.Nice (many : Int) (a : Arc) : Prop where
  s0 : 0 ≤ a.src
  s1 : a.src < many
  d0 : 0 ≤ a.dst
  d1 : a.dst < many
  l0 : 0 ≤ a.low
  l1 : a.low ≤ 2
  c0 : a.low ≤ a.cap
  c1 : a.cap ≤ 7 ∨ a.cap = 4611686018427387904
  k0 : -8 ≤ a.cost
  k1 : a.cost ≤ 12
theorem arcOf_nice (x0 x1 x2 x3 many : Int) (hm : 1 ≤ many) : (arcOf x0 x1 x2 x3 many).Nice many := by
  have a1 := Int.emod_nonneg x0 (b := many) (by omega)
  have a2 := Int.emod_lt_of_pos x0 (show 0 < many by omega)
  have a3 := Int.emod_nonneg (x0 / 16) (b := many) (by omega)
  have a4 := Int.emod_lt_of_pos (x0 / 16) (show 0 < many by omega)
  unfold arcOf
  split
  · constructor <;> dsimp only <;> first | assumption | omega
  · split
    · constructor <;> dsimp only <;> first | assumption | omega
    · split
      · constructor <;> dsimp only <;> first | assumption | omega
      · constructor <;> dsimp only <;> first | assumption | omega
theorem arcsGo_nice (c : List Int) (many : Int) (hm : 1 ≤ many) : ∀ f k, ∀ a ∈ arcsGo c many f k, a.Nice many
  | 0, _ => by simp [arcsGo]
  | f + 1, k => by
    unfold arcsGo
    split
    · intro a ha
      cases ha with
      | head => exact arcOf_nice _ _ _ _ _ hm
      | tail _ h => exact arcsGo_nice c many hm f (k + 4) a h
    · simp
theorem arcsF_nice (c : List Int) (many : Int) (hm : 1 ≤ many) : ∀ a ∈ arcsF c many, a.Nice many := arcsGo_nice c many hm 18 0
theorem useOf_ok {d : List Int} {k : Nat} {a : Arc} {m : Int} (h : a.Nice m) : 0 ≤ useOf d k a ∧ useOf d k a ≤ 5 := by
  have := h.l0; have := h.l1; have := h.c0
  unfold useOf; split <;> omega
def Within (b : Int) (s : List Int) : Prop := ∀ x ∈ s, -b ≤ x ∧ x ≤ b
theorem Within.getD {b : Int} {s : List Int} (h : Within b s) (hb : 0 ≤ b) (k : Nat) : -b ≤ s.getD k 0 ∧ s.getD k 0 ≤ b := by
  by_cases hk : k < s.length
  · have := h _ (List.getElem_mem hk)
    simpa [List.getD, hk] using this
  · simp [List.getD, hk]; omega
theorem Within.addAt {b x y : Int} {s : List Int} (h : Within b s) (hb : 0 ≤ b) (k : Nat) (hx : -y ≤ x) (hy : x ≤ y) : Within (b + y) (addAt s k x) := by
  intro z hz
  have hg := h.getD hb k
  rcases List.mem_or_eq_of_mem_set hz with hz | rfl
  · have := h z hz; omega
  · omega
theorem Within.more {b b' : Int} {s : List Int} (h : Within b s) (hb : b ≤ b') : Within b' s := fun x hx => by have := h x hx; omega
theorem supGo_within {m : Int} (d : List Int) : ∀ (l : List Arc) (k : Nat) (s : List Int) (b : Int), 0 ≤ b → Within b s → (∀ a ∈ l, a.Nice m) → Within (b + 10 * l.length) (supGo d l k s)
  | [], _, s, b, _, h, _ => by simpa [supGo] using h
  | a :: l, k, s, b, hb, h, hn => by
    have hu := useOf_ok (d := d) (k := k) (hn a (by simp))
    have h1 := (h.addAt hb a.src.toNat (y := 5) (by omega) hu.2).addAt (by omega) a.dst.toNat (x := -(useOf d k a)) (y := 5) (by omega) (by omega)
    have := supGo_within d l (k + 1) _ _ (by omega) h1 (fun a ha => hn a (by simp [ha]))
    rw [supGo]
    refine this.more ?_
    simp only [List.length_cons]; omega
theorem instF_within (c d : List Int) : Within 184 (instF c d).sup := by
  have h0 : Within 0 (List.replicate (nOf d) 0) := fun x hx => by simp [List.mem_replicate] at hx; omega
  have h1 := supGo_within d (arcsF c (nOf d)) 0 _ 0 (by omega) h0 (arcsF_nice c _ (by have := nOf_pos d; omega))
  have hl := arcsF_len c (nOf d)
  have h2 : Within 180 (sup1 c d) := h1.more (by omega)
  unfold instF
  dsimp only
  split
  · have hm : 0 ≤ d.getD 1 0 % 3 ∧ d.getD 1 0 % 3 ≤ 2 := by omega
    exact ((h2.addAt (by omega) 0 (y := 2) (by omega) hm.2).addAt (by omega) _ (y := 2) (by omega) (by omega)).more (by omega)
  · exact h2.more (by omega)
theorem instF_nice (c d : List Int) : ∀ a ∈ (instF c d).arcs, a.Nice (nOf d) := arcsF_nice c _ (by have := nOf_pos d; omega)
theorem instF_arcs (c d : List Int) : (instF c d).arcs.length ≤ 18 := arcsF_len _ _
end Go.Ql
end
