/- Part of the proof, Twin. -/
import Derived.Test.YtnjcklhgdpgllaaZTrimL
import Derived.Test.YtnjcklhgdpgllaaZRay
set_option linter.all false
set_option linter.unusedSimpArgs false
set_option linter.unusedVariables false
namespace Go.Ql
open Go Go.Vc
def alikeArc (a b : Arc) : Arc := { a with src := b.src, dst := b.dst, cost := b.cost }
def alikeSup (a b : Arc) (s : List Int) : List Int := addAt (addAt (addAt (addAt s a.src.toNat (-a.low)) a.dst.toNat a.low) b.src.toNat a.low) b.dst.toNat (-a.low)
def alikeTo (I : Inst) (d : List Int) : Nat → Inst
  | 0 => I
  | k + 1 => if k < d.length ∧ 0 < d.getD k 0 % 3 then ⟨alikeSup (I.arcs.getD k default) ((alikeTo I d k).arcs.getD (k / 2) default) (alikeTo I d k).sup, (alikeTo I d k).arcs.set k (alikeArc (I.arcs.getD k default) ((alikeTo I d k).arcs.getD (k / 2) default))⟩ else alikeTo I d k
def alikeF (c d : List Int) : Inst := alikeTo (instF c d) d (instF c d).arcs.length
theorem alikeSup_len (a b : Arc) (s : List Int) : (alikeSup a b s).length = s.length := by simp [alikeSup, addAt_len]
theorem alikeTo_len (I : Inst) (d : List Int) : ∀ k, (alikeTo I d k).sup.length = I.sup.length ∧ (alikeTo I d k).arcs.length = I.arcs.length
  | 0 => ⟨rfl, rfl⟩
  | k + 1 => by
    have ih := alikeTo_len I d k
    rw [alikeTo]
    split
    · dsimp only; rw [alikeSup_len, List.length_set]; exact ih
    · exact ih
theorem alikeTo_at (I : Inst) (d : List Int) : ∀ k j, k ≤ j → (alikeTo I d k).arcs[j]? = I.arcs[j]?
  | 0, j, _ => rfl
  | k + 1, j, h => by
    rw [alikeTo]
    split
    · dsimp only; rw [List.getElem?_set_ne (by omega)]; exact alikeTo_at I d k j (by omega)
    · exact alikeTo_at I d k j (by omega)
theorem alikeArc_nice {m : Int} {a b : Arc} (ha : a.Nice m) (hb : b.Nice m) : (alikeArc a b).Nice m :=
  ⟨hb.s0, hb.s1, hb.d0, hb.d1, ha.l0, ha.l1, ha.c0, ha.c1, hb.k0, hb.k1⟩
theorem alikeTo_nice {I : Inst} {d : List Int} {m : Int} (h : ∀ a ∈ I.arcs, a.Nice m) : ∀ k, k ≤ I.arcs.length → ∀ a ∈ (alikeTo I d k).arcs, a.Nice m
  | 0, _ => h
  | k + 1, hk => fun a ha => by
    have ih := alikeTo_nice (d := d) h k (by omega)
    rw [alikeTo] at ha
    split at ha
    · dsimp only at ha
      rcases List.mem_or_eq_of_mem_set ha with h1 | rfl
      · exact ih a h1
      · obtain ⟨b, hb⟩ : ∃ b, I.arcs[k]? = some b := ⟨_, List.getElem?_eq_getElem (by omega)⟩
        obtain ⟨q, hq⟩ : ∃ q, (alikeTo I d k).arcs[k / 2]? = some q := ⟨_, List.getElem?_eq_getElem (by rw [(alikeTo_len I d k).2]; omega)⟩
        rw [show I.arcs.getD k default = b by rw [List.getD_eq_getElem?_getD, hb]; rfl, show (alikeTo I d k).arcs.getD (k / 2) default = q by rw [List.getD_eq_getElem?_getD, hq]; rfl]
        exact alikeArc_nice (h b (List.mem_of_getElem? hb)) (ih q (List.mem_of_getElem? hq))
    · exact ih a ha
theorem alikeTo_sup {I : Inst} {d : List Int} {b0 : Int} (h : ∀ a ∈ I.arcs, a.Nice I.sup.length) (hw : Within b0 I.sup) (hb : 0 ≤ b0) : ∀ k : Nat, k ≤ I.arcs.length → (alikeTo I d k).sup.sum = I.sup.sum ∧ Within (b0 + 8 * k) (alikeTo I d k).sup
  | 0, _ => ⟨rfl, by simpa [alikeTo] using hw⟩
  | k + 1, hk => by
    obtain ⟨ih1, ih2⟩ := alikeTo_sup (d := d) h hw hb k (by omega)
    have hl := (alikeTo_len I d k).1
    have hn := alikeTo_nice (d := d) h k (by omega)
    rw [alikeTo]
    split
    · obtain ⟨b, hb'⟩ : ∃ b, I.arcs[k]? = some b := ⟨_, List.getElem?_eq_getElem (by omega)⟩
      obtain ⟨q, hq⟩ : ∃ q, (alikeTo I d k).arcs[k / 2]? = some q := ⟨_, List.getElem?_eq_getElem (by rw [(alikeTo_len I d k).2]; omega)⟩
      rw [show I.arcs.getD k default = b by rw [List.getD_eq_getElem?_getD, hb']; rfl, show (alikeTo I d k).arcs.getD (k / 2) default = q by rw [List.getD_eq_getElem?_getD, hq]; rfl]
      have n1 := h b (List.mem_of_getElem? hb')
      have n2 := hn q (List.mem_of_getElem? hq)
      have a1 := n1.s0; have a2 := n1.s1; have a3 := n1.d0; have a4 := n1.d1; have a5 := n1.l0; have a6 := n1.l1
      have b1 := n2.s0; have b2 := n2.s1; have b3 := n2.d0; have b4 := n2.d1
      dsimp only
      unfold alikeSup
      refine ⟨?_, ?_⟩
      · rw [addAt_sum _ _ _ (by simp only [addAt_len]; omega), addAt_sum _ _ _ (by simp only [addAt_len]; omega), addAt_sum _ _ _ (by simp only [addAt_len]; omega), addAt_sum _ _ _ (by omega), ih1]; omega
      · have w1 := ih2.addAt (by omega) b.src.toNat (x := -b.low) (y := 2) (by omega) (by omega)
        have w2 := w1.addAt (by omega) b.dst.toNat (x := b.low) (y := 2) (by omega) (by omega)
        have w3 := w2.addAt (by omega) q.src.toNat (x := b.low) (y := 2) (by omega) (by omega)
        have w4 := w3.addAt (by omega) q.dst.toNat (x := -b.low) (y := 2) (by omega) (by omega)
        exact w4.more (by push_cast; omega)
    · exact ⟨ih1, ih2.more (by push_cast; omega)⟩
theorem alikeF_all (c d : List Int) : rightF (alikeF c d) = 0 ∧ (alikeF c d).sup.length = nOf d ∧ (alikeF c d).arcs.length ≤ 18 ∧ (∀ a ∈ (alikeF c d).arcs, a.Nice (alikeF c d).sup.length) ∧ Within 400 (alikeF c d).sup := by
  have hp := nOf_pos d
  have hq := nOf_le d
  have hs := instF_sup c d
  have ha := instF_arcs c d
  have hn := instF_nice c d
  have hw := instF_within c d
  have hz := instF_sum c d
  have hl := alikeTo_len (instF c d) d (instF c d).arcs.length
  have h1 := alikeTo_nice (d := d) hn _ (Nat.le_refl _)
  obtain ⟨h2, h3⟩ := alikeTo_sup (d := d) (I := instF c d) (by rw [hs]; exact hn) hw (by omega) _ (Nat.le_refl _)
  unfold alikeF
  generalize alikeTo (instF c d) d (instF c d).arcs.length = J at *
  have h4 : Within 400 J.sup := h3.more (by omega)
  have h5 : ∀ a ∈ J.arcs, a.Nice J.sup.length := fun a h => (h1 a h).more (by omega)
  exact ⟨right_of (by omega) (by omega) (fun a h => (h5 a h).right) (fun x hx => (h4.more (b' := 4398046511104) (by omega)) x hx) (by omega), by omega, by omega, h5, h4⟩
def subAll (I : Inst) : List Int → Int → Option Int
  | [], s => some s
  | a :: l, s => if isArcF I a then (if I64 (s - (arcAt I a).low) then subAll I l (s - (arcAt I a).low) else none) else none
def giveT (a : Arc) (left : Int) (last : Bool) : Int := if last then left else if left ≤ 0 then 0 else if a.cap = inf then left else min (a.cap - a.low) left
def spreadGo (I : Inst) : List Int → Int → List Int → Option (List Int)
  | [], _, out => some out
  | a :: l, left, out => if I64 ((arcAt I a).low + giveT (arcAt I a) left l.isEmpty) then spreadGo I l (left - giveT (arcAt I a) left l.isEmpty) (out ++ [(arcAt I a).low + giveT (arcAt I a) left l.isEmpty]) else none
def spreadF (I : Inst) (l : List Int) (n : Int) : Option (List Int) := if l = [] then none else (subAll I l n).bind fun left => spreadGo I l left []
def likeA (a b : Arc) : Bool := decide (a.src = b.src) && decide (a.dst = b.dst) && decide (a.cost = b.cost)
def firstK (l : List Arc) (k : Nat) : Bool := (List.range k).all fun j => !likeA (l.getD k default) (l.getD j default)
def memsK (l : List Arc) (k m : Nat) : List Int := ((List.range m).filter fun j => decide (k ≤ j) && likeA (l.getD k default) (l.getD j default)).map Int.ofNat
def groupsTo (l : List Arc) (m : Nat) : List (List Int) := ((List.range m).filter (firstK l)).map fun k => memsK l k m
def groupsF (l : List Arc) : List (List Int) := groupsTo l l.length
end Go.Ql
