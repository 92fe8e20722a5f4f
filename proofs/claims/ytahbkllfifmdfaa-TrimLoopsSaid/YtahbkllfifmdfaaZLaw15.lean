/- Part of the proof, Law15. -/
import Derived.Test.YtahbkllfifmdfaaZTrim2
set_option linter.all false
set_option linter.unusedSimpArgs false
set_option linter.unusedVariables false
namespace Go.Ql
open Go Go.Vc
def oddArc (x : Int) (a : Arc) : Arc := if x % 6 = 0 then { a with dst := a.src } else if x % 6 = 1 then { a with cap := a.low } else if x % 6 = 2 then { a with low := 0 } else a
def oddSup (x : Int) (a : Arc) (s : List Int) : List Int := if x % 6 = 0 then addAt (addAt s a.dst.toNat a.low) a.src.toNat (-a.low) else s
def oddTo (I : Inst) (e : List Int) : Nat → Inst
  | 0 => I
  | k + 1 => ⟨oddSup (e.getD k 0) (I.arcs.getD k default) (oddTo I e k).sup, (oddTo I e k).arcs.set k (oddArc (e.getD k 0) (I.arcs.getD k default))⟩
def oddN (I : Inst) (e : List Int) : Nat := min e.length I.arcs.length
def oddF (c d e : List Int) : Inst :=
  let J := oddTo (instF c d) e (oddN (instF c d) e)
  if 0 < e.length ∧ e.getD 0 0 % 3 = 0 then ⟨J.sup ++ [0], J.arcs⟩ else J
def known15I : Inst := ⟨[3, -3], [⟨0, 1, 2, 5, 4⟩]⟩
theorem known15_step : lowS known15I = (⟨⟨[1, -1], [⟨0, 1, 0, 3, 4⟩]⟩, 1, known15I, W 8, true⟩, 0) := by decide +kernel
theorem oddSup_len (x : Int) (a : Arc) (s : List Int) : (oddSup x a s).length = s.length := by unfold oddSup; split <;> simp [addAt_len]
theorem oddTo_len (I : Inst) (e : List Int) : ∀ k, (oddTo I e k).sup.length = I.sup.length ∧ (oddTo I e k).arcs.length = I.arcs.length
  | 0 => ⟨rfl, rfl⟩
  | k + 1 => by
    have ih := oddTo_len I e k
    rw [oddTo]; dsimp only; rw [oddSup_len, List.length_set]; exact ih
theorem oddTo_at (I : Inst) (e : List Int) : ∀ k j, k ≤ j → (oddTo I e k).arcs[j]? = I.arcs[j]?
  | 0, j, _ => rfl
  | k + 1, j, h => by
    rw [oddTo]; dsimp only
    rw [List.getElem?_set_ne (by omega)]
    exact oddTo_at I e k j (by omega)
theorem oddSup_within {b : Int} {s : List Int} (h : Within b s) (hb : 0 ≤ b) (x : Int) (a : Arc) (h0 : 0 ≤ a.low) (h1 : a.low ≤ 2) : Within (b + 4) (oddSup x a s) := by
  unfold oddSup
  split
  · have := (h.addAt hb a.dst.toNat (x := a.low) (y := 2) (by omega) h1).addAt (by omega) a.src.toNat (x := -a.low) (y := 2) (by omega) (by omega)
    exact this.more (by omega)
  · exact h.more (by omega)
theorem oddTo_within {I : Inst} {e : List Int} {b : Int} (h : Within b I.sup) (hb : 0 ≤ b) (hl : ∀ a ∈ I.arcs, 0 ≤ a.low ∧ a.low ≤ 2) : ∀ k : Nat, k ≤ I.arcs.length → Within (b + 4 * k) (oddTo I e k).sup
  | 0, _ => by simpa [oddTo] using h
  | k + 1, hk => by
    have ih := oddTo_within (e := e) h hb hl k (by omega)
    obtain ⟨a, ha⟩ : ∃ a, I.arcs[k]? = some a := ⟨_, List.getElem?_eq_getElem (by omega)⟩
    have hla := hl a (List.mem_of_getElem? ha)
    rw [oddTo]; dsimp only
    rw [show I.arcs.getD k default = a by rw [List.getD_eq_getElem?_getD, ha]; rfl]
    exact (oddSup_within ih (by omega) _ a hla.1 hla.2).more (by push_cast; omega)
theorem oddTo_succ {I : Inst} {e : List Int} {k : Nat} {a : Arc} {x : Int} (ha : I.arcs[k]? = some a) (hx : e[k]? = some x) : oddTo I e (k + 1) = ⟨oddSup x a (oddTo I e k).sup, (oddTo I e k).arcs.set k (oddArc x a)⟩ := by
  rw [oddTo, show I.arcs.getD k default = a by rw [List.getD_eq_getElem?_getD, ha]; rfl, show e.getD k 0 = x by rw [List.getD_eq_getElem?_getD, hx]; rfl]
theorem odd_step {s : List Int} {a : Arc} {b p q : Int} (hs : Within b s) (hb : 0 ≤ b) (hb2 : b ≤ 1152921504606846976) (h0 : 0 ≤ a.low) (h1 : a.low ≤ 2) (hp : s[a.dst.toNat]? = some p)
    (hq : (s.set a.dst.toNat (IntKind.i64.wrap (p + a.low)))[a.src.toNat]? = some q) : (s.set a.dst.toNat (IntKind.i64.wrap (p + a.low))).set a.src.toNat (IntKind.i64.wrap (q - a.low)) = addAt (addAt s a.dst.toNat a.low) a.src.toNat (-a.low) := by
  have hpb := hs p (List.mem_of_getElem? hp)
  have e1 : IntKind.i64.wrap (p + a.low) = p + a.low := w64 (by omega) (by omega)
  rw [e1] at hq ⊢
  have g1 : s.set a.dst.toNat (p + a.low) = addAt s a.dst.toNat a.low := by unfold addAt; rw [List.getD_eq_getElem?_getD, hp]; rfl
  rw [g1] at hq ⊢
  have h2 := hs.addAt hb a.dst.toNat (x := a.low) (y := 2) (by omega) h1
  have hqb := h2 q (List.mem_of_getElem? hq)
  rw [w64 (by omega) (by omega)]
  generalize addAt s a.dst.toNat a.low = s2 at *
  unfold addAt
  rw [List.getD_eq_getElem?_getD, hq]
  rfl
theorem odd_stay {s : List Int} {x : Int} {a : Arc} (h : ¬ x % 6 = 0) : oddSup x a s = s := by unfold oddSup; rw [if_neg h]
theorem set_same {α : Type} {l : List α} {k : Nat} {a : α} (h : l[k]? = some a) : l = l.set k a := by
  obtain ⟨h1, h2⟩ := List.getElem?_eq_some_iff.1 h
  rw [← h2, List.set_getElem_self]
theorem oddF_end {c d e : List Int} {g : Nat} (hg : g = oddN (instF c d) e) : (0 < e.length → ∀ x, e[0]? = some x → (x % 3 = 0 → (oddTo (instF c d) e g).sup ++ [0] = (oddF c d e).sup ∧ (oddTo (instF c d) e g).arcs = (oddF c d e).arcs) ∧ (¬ x % 3 = 0 → (oddTo (instF c d) e g).sup = (oddF c d e).sup ∧ (oddTo (instF c d) e g).arcs = (oddF c d e).arcs)) ∧ (¬ 0 < e.length → (oddTo (instF c d) e g).sup = (oddF c d e).sup ∧ (oddTo (instF c d) e g).arcs = (oddF c d e).arcs) := by
  subst hg
  refine ⟨fun h0 x hx => ?_, fun h0 => ?_⟩
  · have e1 : e.getD 0 0 = x := by rw [List.getD_eq_getElem?_getD, hx]; rfl
    constructor <;> intro h <;> unfold oddF <;> rw [e1]
    · rw [if_pos ⟨h0, h⟩]; exact ⟨rfl, rfl⟩
    · rw [if_neg (fun h2 => h h2.2)]; exact ⟨rfl, rfl⟩
  · unfold oddF
    rw [if_neg (fun h2 => h0 h2.1)]; exact ⟨rfl, rfl⟩
end Go.Ql
