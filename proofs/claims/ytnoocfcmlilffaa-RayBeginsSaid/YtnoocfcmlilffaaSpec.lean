/-
  PLAIN WORDS: arcs, instances, and what the chapter 03 says of them, as Lean functions. No program in sight.
-/
import Derived.Test.YtnoocfcmlilffaaLib
set_option linter.all false
set_option linter.unusedSimpArgs false
set_option linter.unusedVariables false
namespace Go.Ql
open Go Go.RowKit

structure Arc where
  src : Int
  dst : Int
  low : Int
  cap : Int
  cost : Int
deriving DecidableEq

structure Inst where
  sup : List Int
  arcs : List Arc
deriving DecidableEq

def i64 (n : Int) : Value := .int .i64 n
def u8 (n : Int) : Value := .int .u8 n

def Arc.val (a : Arc) : Value := .agg #[.int .i64 a.src, .int .i64 a.dst, .int .i64 a.low, .int .i64 a.cap, .int .i64 a.cost]
def Arc.cells (a : Arc) : List Value := [.int .i64 a.src, .int .i64 a.dst, .int .i64 a.low, .int .i64 a.cap, .int .i64 a.cost]

def ArcAt (w : World) (b o : Nat) (a : Arc) : Prop :=
  w.cell? ⟨b, o, none⟩ = some (.int .i64 a.src) ∧ w.cell? ⟨b, o + 1, none⟩ = some (.int .i64 a.dst) ∧
  w.cell? ⟨b, o + 2, none⟩ = some (.int .i64 a.low) ∧ w.cell? ⟨b, o + 3, none⟩ = some (.int .i64 a.cap) ∧
  w.cell? ⟨b, o + 4, none⟩ = some (.int .i64 a.cost)

def ArcsR (w : World) (B : Nat) (A : Option Addr) (xs : List Arc) : Prop :=
  0 < xs.length → ∃ b off, A = some ⟨b, off, none⟩ ∧ b < B ∧ ∀ i x, xs[i]? = some x → ArcAt w b (off + i * 5) x

theorem ArcsR.at_ {w : World} {B : Nat} {A : Option Addr} {xs : List Arc} (h : ArcsR w B A xs) {k : Nat} (hk : k < xs.length) :
    ∃ b off, A = some ⟨b, off, none⟩ ∧ b < B ∧ ArcAt w b (off + k * 5) xs[k] := by
  obtain ⟨b, off, e, hb, hc⟩ := h (by omega)
  exact ⟨b, off, e, hb, hc k _ (List.getElem?_eq_getElem hk)⟩

theorem ArcAt.keep {w w' : World} {B b o : Nat} {a : Arc} (h : ArcAt w b o a) (hb : Below B w w') (hB : b < B) : ArcAt w' b o a := by
  have hh : ∀ o, w'.cell? ⟨b, o, none⟩ = w.cell? ⟨b, o, none⟩ := fun o => hb.cell (p := ⟨b, o, none⟩) hB
  unfold ArcAt at *
  rw [hh, hh, hh, hh, hh]
  exact h

theorem ArcsR.keep {w w' : World} {B B' : Nat} {A : Option Addr} {xs : List Arc} (h : ArcsR w B A xs) (hb : Below B' w w') (hB : B ≤ B') : ArcsR w' B A xs := by
  intro hn
  obtain ⟨b, off, e, hlt, hc⟩ := h hn
  exact ⟨b, off, e, hlt, fun i x hx => (hc i x hx).keep hb (by omega)⟩

theorem ArcsR.more {w : World} {B B' : Nat} {A : Option Addr} {xs : List Arc} (h : ArcsR w B A xs) (hB : B ≤ B') : ArcsR w B' A xs := by
  intro hn
  obtain ⟨b, off, e, hlt, hc⟩ := h hn
  exact ⟨b, off, e, by omega, hc⟩

theorem ArcsR.nil {w : World} {B : Nat} {A : Option Addr} : ArcsR w B A [] := fun h => absurd h (by simp)

/-- a value that reads as an instance -/
def InstR (w : World) (B : Nat) (v : Value) (I : Inst) : Prop :=
  ∃ A c A' c', v = .agg #[.slice A I.sup.length c, .slice A' I.arcs.length c'] ∧ RowR i64 w B A I.sup ∧ ArcsR w B A' I.arcs

theorem InstR.keep {w w' : World} {B B' : Nat} {v : Value} {I : Inst} (h : InstR w B v I) (hb : Below B' w w') (hB : B ≤ B') : InstR w' B v I := by
  obtain ⟨A, c, A', c', e, h1, h2⟩ := h
  exact ⟨A, c, A', c', e, h1.keep hb hB, h2.keep hb hB⟩
theorem InstR.more {w : World} {B B' : Nat} {v : Value} {I : Inst} (h : InstR w B v I) (hB : B ≤ B') : InstR w B' v I := by
  obtain ⟨A, c, A', c', e, h1, h2⟩ := h
  exact ⟨A, c, A', c', e, h1.more hB, h2.more hB⟩

/-! ### 03: what is wrong with an instance -/
def rightArcF (a : Arc) (n : Int) : Int :=
  if ¬ (0 ≤ a.src ∧ a.src < n) ∨ ¬ (0 ≤ a.dst ∧ a.dst < n) then 21
  else if a.low < 0 ∨ 4398046511104 < a.low then 22
  else if a.cap ≠ 4611686018427387904 ∧ (a.cap < a.low ∨ 4398046511104 < a.cap) then 22
  else if a.cost < -4398046511104 ∨ 4398046511104 < a.cost then 23
  else 0

def arcsErr (n : Int) : List Arc → Int
  | [] => 0
  | a :: r => if rightArcF a n = 0 then arcsErr n r else rightArcF a n

/-- the loop over Supplies: what is wrong, the sum so far -/
def supErr : List Int → Int → Int
  | [], s => if s = 0 then 0 else 25
  | x :: r, s => if x < -4398046511104 ∨ 4398046511104 < x then 24 else supErr r (s + x)

def rightF (I : Inst) : Int :=
  if 64 < I.sup.length ∨ 256 < I.arcs.length then 20
  else if arcsErr I.sup.length I.arcs = 0 then supErr I.sup 0 else arcsErr I.sup.length I.arcs

/-! ### 03: what is kept -/
def nat64 (n : Nat) : Value := .int .i64 (n : Int)
def keptGo (off : List Bool) : Nat → Nat → List Nat
  | 0, _ => []
  | f + 1, k => if off.getD k false then keptGo off f (k + 1) else k :: keptGo off f (k + 1)
def keptF (off : List Bool) (n : Nat) : List Nat := keptGo off n 0
def keptN (n : Int) : Nat := min n.toNat 1000

/-! ### 03: how much there is -/
def cntLow : List Arc → Nat
  | [] => 0
  | a :: r => (if a.low = 0 then 0 else 1) + cntLow r
theorem cntLow_le (l : List Arc) : cntLow l ≤ l.length := by
  induction l with
  | nil => simp [cntLow]
  | cons a l ih => simp only [cntLow, List.length_cons]; split <;> omega
def spanF (I : Inst) : Nat := I.sup.length + I.arcs.length + cntLow I.arcs

/-- a number's place in a list; below 0: it is not there -/
def placeGo (n : Int) : List Nat → Nat → Int
  | [], _ => -1
  | x :: r, k => if (x : Int) = n then k else placeGo n r (k + 1)

theorem keptGo_mem (off : List Bool) : ∀ (f k x : Nat), x ∈ keptGo off f k → k ≤ x ∧ x < k + f
  | 0, _, _, h => by simp [keptGo] at h
  | f + 1, k, x, h => by
    unfold keptGo at h
    split at h
    · have := keptGo_mem off f (k + 1) x h; omega
    · cases h with
      | head => omega
      | tail _ h => have := keptGo_mem off f (k + 1) x h; omega
theorem keptGo_sorted (off : List Bool) : ∀ (f k : Nat), (keptGo off f k).Pairwise (· < ·)
  | 0, _ => List.Pairwise.nil
  | f + 1, k => by
    unfold keptGo
    split
    · exact keptGo_sorted off f (k + 1)
    · refine List.Pairwise.cons (fun y hy => ?_) (keptGo_sorted off f (k + 1))
      have := keptGo_mem off f (k + 1) y hy; omega
theorem keptF_lt {off : List Bool} {n x : Nat} (h : x ∈ keptF off n) : x < n := by have := keptGo_mem off n 0 x h; omega
theorem keptF_len (off : List Bool) (n : Nat) : (keptF off n).length ≤ n := by
  have : ∀ f k, (keptGo off f k).length ≤ f := by
    intro f
    induction f with
    | zero => intro k; simp [keptGo]
    | succ f ih => intro k; have := ih (k + 1); unfold keptGo; split <;> (try simp only [List.length_cons]) <;> omega
  exact this n 0

theorem placeGo_cases (x : Int) : ∀ (l : List Nat) (k : Nat), placeGo x l k = -1 ∧ (∀ y ∈ l, (y : Int) ≠ x) ∨ (k : Int) ≤ placeGo x l k ∧ placeGo x l k < k + l.length ∧ ∃ y ∈ l, (y : Int) = x
  | [], k => .inl ⟨rfl, by simp⟩
  | y :: l, k => by
    unfold placeGo
    by_cases h : (y : Int) = x
    · rw [if_pos h]; refine .inr ⟨by omega, by simp only [List.length_cons]; omega, y, by simp, h⟩
    · rw [if_neg h]
      rcases placeGo_cases x l (k + 1) with ⟨h1, h2⟩ | ⟨h1, h2, z, hz, hzx⟩
      · exact .inl ⟨h1, fun z hz => by cases hz with | head => exact h | tail _ hz => exact h2 z hz⟩
      · exact .inr ⟨by omega, by simp only [List.length_cons]; omega, z, by simp [hz], hzx⟩
theorem placeGo_snoc (x : Int) (y : Nat) : ∀ (l : List Nat) (k : Nat), placeGo x (l ++ [y]) k = if 0 ≤ placeGo x l k then placeGo x l k else if (y : Int) = x then (k : Int) + l.length else -1
  | [], k => by simp [placeGo]
  | z :: l, k => by
    have e1 : placeGo x ((z :: l) ++ [y]) k = if (z : Int) = x then (k : Int) else placeGo x (l ++ [y]) (k + 1) := rfl
    have e2 : placeGo x (z :: l) k = if (z : Int) = x then (k : Int) else placeGo x l (k + 1) := rfl
    rw [e1, e2]
    have ih := placeGo_snoc x y l (k + 1)
    simp only [List.length_cons]
    by_cases h : (z : Int) = x
    · simp [h]
    · simp only [h, if_false]
      rw [ih]
      split
      · rfl
      · split
        · omega
        · rfl

/-! ### 03: without some nodes and arcs -/
instance : Inhabited Arc := ⟨⟨0, 0, 0, 0, 0⟩⟩
def keepArc (n : List Nat) (a : Arc) : Option Arc :=
  if 0 ≤ placeGo a.src n 0 ∧ 0 ≤ placeGo a.dst n 0 then some { a with src := placeGo a.src n 0, dst := placeGo a.dst n 0 } else none
def keptNodes (I : Inst) (nodes : List Bool) : List Nat := keptF nodes (keptN I.sup.length)
def keptArcs (I : Inst) (offs : List Bool) : List Nat := keptF offs (keptN I.arcs.length)
def withoutF (I : Inst) (nodes offs : List Bool) : Inst :=
  { sup := (keptNodes I nodes).map (fun k => I.sup.getD k 0), arcs := (keptArcs I offs).filterMap (fun k => keepArc (keptNodes I nodes) (I.arcs.getD k default)) }

theorem drop_cons {α : Type} (l : List α) (k : Nat) (h : k < l.length) : l.drop k = l[k] :: l.drop (k + 1) := List.drop_eq_getElem_cons h

theorem ret_int {k : IntKind} {a b : Int} (h : a = b) : Ending.returned (.int k a) = .returned (.int k b) := by rw [h]
theorem ret_bool {a b : Bool} (h : a = b) : Ending.returned (.bool a) = .returned (.bool b) := by rw [h]

/-! ### the laws' own instances, as choices say -/
def arcOf (x0 x1 x2 x3 many : Int) : Arc :=
  if x3 % 8 = 0 then ⟨x0 % many, x0 / 16 % many, x1 % 3, 4611686018427387904, x2 % 21 - 8⟩
  else if x3 % 8 = 1 then ⟨x0 % many, x0 / 16 % many, 0, x1 % 3 + x1 / 3 % 6, x2 % 21 - 8⟩
  else if x3 % 8 = 2 then ⟨x0 % many, x0 / 16 % many, x1 % 3, x1 % 3 + x1 / 3 % 6, 0⟩
  else ⟨x0 % many, x0 / 16 % many, x1 % 3, x1 % 3 + x1 / 3 % 6, x2 % 21 - 8⟩
/-- from the choice number k on, so many arcs at most -/
def arcsGo (c : List Int) (many : Int) : Nat → Nat → List Arc
  | 0, _ => []
  | f + 1, k => if k + 3 < c.length then arcOf (c.getD k 0) (c.getD (k + 1) 0) (c.getD (k + 2) 0) (c.getD (k + 3) 0) many :: arcsGo c many f (k + 4) else []
def arcsF (c : List Int) (many : Int) : List Arc := arcsGo c many 18 0
theorem arcsGo_len (c : List Int) (many : Int) : ∀ f k, (arcsGo c many f k).length ≤ f
  | 0, _ => by simp [arcsGo]
  | f + 1, k => by
    unfold arcsGo
    split
    · have := arcsGo_len c many f (k + 4); simp; omega
    · simp
end Go.Ql
