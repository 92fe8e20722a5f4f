/-
  THE LAWS' OWN INSTANCES, AS CHOICES SAY: what law03.Inst, Marks and Size compute. No program in sight.
-/
import Derived.Test.YtnoocfcmlilffaaSpec
set_option linter.all false
set_option linter.unusedSimpArgs false
set_option linter.unusedVariables false
namespace Go.Ql
open Go Go.RowKit

def addAt (s : List Int) (k : Nat) (x : Int) : List Int := s.set k (s.getD k 0 + x)
def useOf (d : List Int) (k : Nat) (a : Arc) : Int := if k + 1 < d.length then min (a.low + d.getD (k + 1) 0 % 4) a.cap else a.low
def supGo (d : List Int) : List Arc → Nat → List Int → List Int
  | [], _, s => s
  | a :: l, k, s => supGo d l (k + 1) (addAt (addAt s a.src.toNat (useOf d k a)) a.dst.toNat (-(useOf d k a)))
def nOf (d : List Int) : Nat := if 0 < d.length then 1 + (d.getD 0 0 % 7).toNat else 1
def sup1 (c d : List Int) : List Int := supGo d (arcsF c (nOf d)) 0 (List.replicate (nOf d) 0)
def instF (c d : List Int) : Inst :=
  { sup := if 1 < d.length ∧ d.getD (d.length - 1) 0 % 5 = 0 then addAt (addAt (sup1 c d) 0 (d.getD 1 0 % 3)) (nOf d - 1) (-(d.getD 1 0 % 3)) else sup1 c d
    arcs := arcsF c (nOf d) }
def marksF (c : List Int) (many : Nat) : List Bool := (c.take many).map (fun x => decide (x % 3 = 0))

/-- bytes -/
def Bytes (c : List Int) : Prop := ∀ x ∈ c, 0 ≤ x ∧ x ≤ 255
theorem Bytes.getD {c : List Int} (h : Bytes c) (k : Nat) : 0 ≤ c.getD k 0 ∧ c.getD k 0 ≤ 255 := by
  by_cases hk : k < c.length
  · have := h _ (List.getElem_mem hk)
    simpa [List.getD, hk] using this
  · simp [List.getD, hk]

theorem addAt_len (s : List Int) (k : Nat) (x : Int) : (addAt s k x).length = s.length := by simp [addAt]
theorem supGo_len (d : List Int) : ∀ (l : List Arc) (k : Nat) (s : List Int), (supGo d l k s).length = s.length
  | [], _, _ => rfl
  | a :: l, k, s => by rw [supGo, supGo_len d l, addAt_len, addAt_len]
theorem nOf_pos (d : List Int) : 1 ≤ nOf d := by unfold nOf; split <;> omega
theorem nOf_le (d : List Int) : nOf d ≤ 7 := by
  unfold nOf; split <;> omega
theorem sup1_len (c d : List Int) : (sup1 c d).length = nOf d := by simp [sup1, supGo_len]
theorem instF_sup (c d : List Int) : (instF c d).sup.length = nOf d := by
  unfold instF; dsimp only; split <;> simp [addAt_len, sup1_len]
theorem arcsF_len (c : List Int) (many : Int) : (arcsF c many).length ≤ 18 := arcsGo_len _ _ _ _

/-- what an arc of choices is like -/
structure Arc.Nice (many : Int) (a : Arc) : Prop where
  s0 : 0 ≤ a.src
  s1 : a.src < many
  d0 : 0 ≤ a.dst
  d1 : a.dst < many
  l0 : 0 ≤ a.low
  l1 : a.low ≤ 2
  c0 : a.low ≤ a.cap
  c1 : a.cap ≤ 7 ∨ a.cap = 4611686018427387904
  k0 : -8 ≤ a.cost
  k1 : a.cost ≤ 12

theorem arcOf_nice (x0 x1 x2 x3 many : Int) (hm : 1 ≤ many) : (arcOf x0 x1 x2 x3 many).Nice many := by
  have a1 := Int.emod_nonneg x0 (b := many) (by omega)
  have a2 := Int.emod_lt_of_pos x0 (show 0 < many by omega)
  have a3 := Int.emod_nonneg (x0 / 16) (b := many) (by omega)
  have a4 := Int.emod_lt_of_pos (x0 / 16) (show 0 < many by omega)
  unfold arcOf
  split
  · constructor <;> dsimp only <;> first | assumption | omega
  · split
    · constructor <;> dsimp only <;> first | assumption | omega
    · split
      · constructor <;> dsimp only <;> first | assumption | omega
      · constructor <;> dsimp only <;> first | assumption | omega

theorem arcsGo_nice (c : List Int) (many : Int) (hm : 1 ≤ many) : ∀ f k, ∀ a ∈ arcsGo c many f k, a.Nice many
  | 0, _ => by simp [arcsGo]
  | f + 1, k => by
    unfold arcsGo
    split
    · intro a ha
      cases ha with
      | head => exact arcOf_nice _ _ _ _ _ hm
      | tail _ h => exact arcsGo_nice c many hm f (k + 4) a h
    · simp
theorem arcsF_nice (c : List Int) (many : Int) (hm : 1 ≤ many) : ∀ a ∈ arcsF c many, a.Nice many := arcsGo_nice c many hm 18 0

theorem useOf_ok {d : List Int} {k : Nat} {a : Arc} {m : Int} (h : a.Nice m) : 0 ≤ useOf d k a ∧ useOf d k a ≤ 5 := by
  have := h.l0; have := h.l1; have := h.c0
  unfold useOf; split <;> omega

/-- all of a list from -b to b -/
def Within (b : Int) (s : List Int) : Prop := ∀ x ∈ s, -b ≤ x ∧ x ≤ b
theorem Within.getD {b : Int} {s : List Int} (h : Within b s) (hb : 0 ≤ b) (k : Nat) : -b ≤ s.getD k 0 ∧ s.getD k 0 ≤ b := by
  by_cases hk : k < s.length
  · have := h _ (List.getElem_mem hk)
    simpa [List.getD, hk] using this
  · simp [List.getD, hk]; omega
theorem Within.addAt {b x y : Int} {s : List Int} (h : Within b s) (hb : 0 ≤ b) (k : Nat) (hx : -y ≤ x) (hy : x ≤ y) : Within (b + y) (addAt s k x) := by
  intro z hz
  have hg := h.getD hb k
  rcases List.mem_or_eq_of_mem_set hz with hz | rfl
  · have := h z hz; omega
  · omega
theorem Within.more {b b' : Int} {s : List Int} (h : Within b s) (hb : b ≤ b') : Within b' s := fun x hx => by have := h x hx; omega
theorem supGo_within {m : Int} (d : List Int) : ∀ (l : List Arc) (k : Nat) (s : List Int) (b : Int), 0 ≤ b → Within b s → (∀ a ∈ l, a.Nice m) → Within (b + 10 * l.length) (supGo d l k s)
  | [], _, s, b, _, h, _ => by simpa [supGo] using h
  | a :: l, k, s, b, hb, h, hn => by
    have hu := useOf_ok (d := d) (k := k) (hn a (by simp))
    have h1 := (h.addAt hb a.src.toNat (y := 5) (by omega) hu.2).addAt (by omega) a.dst.toNat (x := -(useOf d k a)) (y := 5) (by omega) (by omega)
    have := supGo_within d l (k + 1) _ _ (by omega) h1 (fun a ha => hn a (by simp [ha]))
    rw [supGo]
    refine this.more ?_
    simp only [List.length_cons]; omega
theorem instF_within (c d : List Int) : Within 184 (instF c d).sup := by
  have h0 : Within 0 (List.replicate (nOf d) 0) := fun x hx => by simp [List.mem_replicate] at hx; omega
  have h1 := supGo_within d (arcsF c (nOf d)) 0 _ 0 (by omega) h0 (arcsF_nice c _ (by have := nOf_pos d; omega))
  have hl := arcsF_len c (nOf d)
  have h2 : Within 180 (sup1 c d) := h1.more (by omega)
  unfold instF
  dsimp only
  split
  · have hm : 0 ≤ d.getD 1 0 % 3 ∧ d.getD 1 0 % 3 ≤ 2 := by omega
    exact ((h2.addAt (by omega) 0 (y := 2) (by omega) hm.2).addAt (by omega) _ (y := 2) (by omega) (by omega)).more (by omega)
  · exact h2.more (by omega)
theorem instF_nice (c d : List Int) : ∀ a ∈ (instF c d).arcs, a.Nice (nOf d) := arcsF_nice c _ (by have := nOf_pos d; omega)
theorem instF_arcs (c d : List Int) : (instF c d).arcs.length ≤ 18 := arcsF_len _ _
end Go.Ql
