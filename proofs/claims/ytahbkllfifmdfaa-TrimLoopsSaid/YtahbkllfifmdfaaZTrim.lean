/- Part of the proof, Trim. -/
import Derived.Test.YtahbkllfifmdfaaZLaw11
set_option linter.all false
set_option linter.unusedSimpArgs false
set_option linter.unusedVariables false
namespace Go.Ql
open Go Go.Vc
structure StepD where
  inst : Inst
  pass : Int
  was : Inst
  off : Wide
  did : Bool
deriving DecidableEq
structure WorkD where
  inst : Inst
  nodes : List Bool
  arcs : List Bool
  off : Wide
  did : Bool
def StepD.none : StepD := ⟨⟨[], []⟩, 0, ⟨[], []⟩, ⟨0, 0⟩, false⟩
def fixSup (s : List Int) (a : Arc) (n : Int) : List Int := addAt (addAt s a.src.toNat (-n)) a.dst.toNat n
def supAll (f : Arc → Option Int) : List Arc → List Int → List Int
  | [], s => s
  | a :: l, s => supAll f l (match f a with | some n => fixSup s a n | none => s)
def offAll (f : Arc → Option Int) : List Arc → Int → Int
  | [], o => o
  | a :: l, o => offAll f l (match f a with | some n => o + n * a.cost | none => o)
def anyF (f : Arc → Option Int) (l : List Arc) : Bool := l.any fun a => (f a).isSome
def marksOf (f : Arc → Option Int) (l : List Arc) : List Bool := l.map fun a => (f a).isSome
def takeLow (a : Arc) : Option Int := if a.low = 0 then none else some a.low
def takeLoop (a : Arc) : Option Int := if a.src ≠ a.dst ∨ a.cost < 0 ∧ a.cap = inf then none else if 0 ≤ a.cost then some a.low else some a.cap
def takeFix (a : Arc) : Option Int := if a.low = a.cap then some a.low else none
def lowArc (a : Arc) : Arc := if a.low = 0 then a else { a with low := 0, cap := if a.cap = inf then a.cap else a.cap - a.low }
def touchF (l : List Arc) (n : Nat) : Bool := l.any fun a => decide (a.src = n) || decide (a.dst = n)
def loneAt (I : Inst) (n : Nat) : Bool := !touchF I.arcs n && decide (I.sup.getD n 0 = 0)
def loneF (I : Inst) : List Bool := (List.range I.sup.length).map (loneAt I)
def workLow (I : Inst) (nodes arcs : List Bool) : WorkD := ⟨⟨supAll takeLow I.arcs I.sup, I.arcs.map lowArc⟩, nodes, arcs, W (offAll takeLow I.arcs 0), anyF takeLow I.arcs⟩
def workTake (f : Arc → Option Int) (I : Inst) (nodes : List Bool) : WorkD := ⟨⟨supAll f I.arcs I.sup, I.arcs⟩, nodes, marksOf f I.arcs, W (offAll f I.arcs 0), anyF f I.arcs⟩
def workLone (I : Inst) (arcs : List Bool) : WorkD := ⟨I, loneF I, arcs, ⟨0, 0⟩, (loneF I).any id⟩
def doneF (pass : Int) (I : Inst) (next : Inst) (off : Wide) (did : Bool) : StepD × Int :=
  if did then (if rightF next = 0 then (⟨next, pass, I, off, true⟩, 0) else (StepD.none, 40)) else (⟨I, 0, ⟨[], []⟩, ⟨0, 0⟩, false⟩, 0)
def stepOf (pass : Int) (I : Inst) (w : WorkD) : StepD × Int := doneF pass I (withoutF w.inst w.nodes w.arcs) w.off w.did
def passF (pass : Int) (I : Inst) (w : WorkD) : StepD × Int := if rightF I = 0 then stepOf pass I w else (StepD.none, rightF I)
def lowS (I : Inst) : StepD × Int := passF 1 I (workLow I (List.replicate I.sup.length false) (List.replicate I.arcs.length false))
def loopS (I : Inst) : StepD × Int := passF 2 I (workTake takeLoop I (List.replicate I.sup.length false))
def fixS (I : Inst) : StepD × Int := passF 3 I (workTake takeFix I (List.replicate I.sup.length false))
def loneS (I : Inst) : StepD × Int := passF 4 I (workLone I (List.replicate I.arcs.length false))
theorem fixSup_len (s : List Int) (a : Arc) (n : Int) : (fixSup s a n).length = s.length := by simp [fixSup, addAt_len]
theorem supAll_len (f : Arc → Option Int) : ∀ (l : List Arc) (s : List Int), (supAll f l s).length = s.length
  | [], s => rfl
  | a :: l, s => by
    rw [supAll, supAll_len f l]
    cases f a with
    | none => rfl
    | some n => exact fixSup_len s a n
theorem supAll_snoc (f : Arc → Option Int) (a : Arc) : ∀ (l : List Arc) (s : List Int), supAll f (l ++ [a]) s = (match f a with | some n => fixSup (supAll f l s) a n | none => supAll f l s)
  | [], s => rfl
  | b :: l, s => by rw [List.cons_append, supAll, supAll, supAll_snoc f a l]
theorem offAll_snoc (f : Arc → Option Int) (a : Arc) : ∀ (l : List Arc) (o : Int), offAll f (l ++ [a]) o = (match f a with | some n => offAll f l o + n * a.cost | none => offAll f l o)
  | [], o => rfl
  | b :: l, o => by rw [List.cons_append, offAll, offAll, offAll_snoc f a l]
def supTo (f : Arc → Option Int) (I : Inst) (k : Nat) : List Int := supAll f (I.arcs.take k) I.sup
def offTo (f : Arc → Option Int) (I : Inst) (k : Nat) : Int := offAll f (I.arcs.take k) 0
def didTo (f : Arc → Option Int) (I : Inst) (k : Nat) : Bool := anyF f (I.arcs.take k)
def markTo (f : Arc → Option Int) (I : Inst) (k : Nat) : List Bool := marksOf f (I.arcs.take k) ++ List.replicate (I.arcs.length - k) false
theorem supTo_len (f : Arc → Option Int) (I : Inst) (k : Nat) : (supTo f I k).length = I.sup.length := supAll_len _ _ _
theorem supTo_succ {f : Arc → Option Int} {I : Inst} {k : Nat} {a : Arc} (h : I.arcs[k]? = some a) : supTo f I (k + 1) = (match f a with | some n => fixSup (supTo f I k) a n | none => supTo f I k) := by
  unfold supTo; rw [take_get h, supAll_snoc]
theorem offTo_succ {f : Arc → Option Int} {I : Inst} {k : Nat} {a : Arc} (h : I.arcs[k]? = some a) : offTo f I (k + 1) = (match f a with | some n => offTo f I k + n * a.cost | none => offTo f I k) := by
  unfold offTo; rw [take_get h, offAll_snoc]
theorem didTo_succ {f : Arc → Option Int} {I : Inst} {k : Nat} {a : Arc} (h : I.arcs[k]? = some a) : didTo f I (k + 1) = (didTo f I k || (f a).isSome) := by
  unfold didTo anyF; rw [take_get h, List.any_append]; simp
theorem markTo_len {f : Arc → Option Int} {I : Inst} {k : Nat} (hk : k ≤ I.arcs.length) : (markTo f I k).length = I.arcs.length := by
  unfold markTo marksOf; simp; omega
theorem markTo_succ {f : Arc → Option Int} {I : Inst} {k : Nat} {a : Arc} (h : I.arcs[k]? = some a) : markTo f I (k + 1) = (markTo f I k).set k (f a).isSome := by
  have hk := get_lt h
  unfold markTo marksOf
  rw [take_get h, List.map_append, List.set_append_right _ _ (by simp; omega)]
  have e : k - (List.map (fun a => (f a).isSome) (List.take k I.arcs)).length = 0 := by simp; omega
  rw [e, show I.arcs.length - k = (I.arcs.length - (k + 1)) + 1 by omega, List.replicate_succ, List.set_cons_zero]
  simp
theorem markTo_stay {f : Arc → Option Int} {I : Inst} {k : Nat} {a : Arc} (h : I.arcs[k]? = some a) (hn : f a = none) : markTo f I (k + 1) = markTo f I k := by
  have hk := get_lt h
  rw [markTo_succ h, hn]
  have e : (markTo f I k)[k]? = some false := by
    unfold markTo marksOf
    rw [List.getElem?_append_right (by simp; omega)]
    have e0 : k - (List.map (fun a => (f a).isSome) (List.take k I.arcs)).length = 0 := by simp; omega
    rw [e0, show I.arcs.length - k = (I.arcs.length - (k + 1)) + 1 by omega, List.replicate_succ]
    rfl
  obtain ⟨h1, h2⟩ := List.getElem?_eq_some_iff.1 e
  have := List.set_getElem_self h1
  rw [h2] at this
  exact this
theorem markTo_zero (f : Arc → Option Int) (I : Inst) : markTo f I 0 = List.replicate I.arcs.length false := by simp [markTo, marksOf]
theorem markTo_end (f : Arc → Option Int) (I : Inst) {k : Nat} (hk : I.arcs.length ≤ k) : markTo f I k = marksOf f I.arcs := by
  unfold markTo; rw [List.take_of_length_le hk, show I.arcs.length - k = 0 by omega]; simp
theorem take_end {α : Type} {l : List α} {k : Nat} (h : l.length ≤ k) : l.take k = l := List.take_of_length_le h
theorem fixSup_within {b n : Int} {s : List Int} (h : Within b s) (hb : 0 ≤ b) (a : Arc) (h0 : -4398046511104 ≤ n) (h1 : n ≤ 4398046511104) : Within (b + 8796093022208) (fixSup s a n) := by
  have := (h.addAt hb a.src.toNat (x := -n) (y := 4398046511104) (by omega) (by omega)).addAt (by omega) a.dst.toNat (x := n) (y := 4398046511104) h0 h1
  exact this.more (by omega)
def Small (f : Arc → Option Int) (I : Inst) : Prop := ∀ a ∈ I.arcs, ∀ n, f a = some n → -4398046511104 ≤ n ∧ n ≤ 4398046511104
theorem supTo_within {f : Arc → Option Int} {I : Inst} (hf : Small f I) (hs : Within 4398046511104 I.sup) : ∀ k, k ≤ I.arcs.length → Within (4398046511104 + 8796093022208 * k) (supTo f I k)
  | 0, _ => by simpa [supTo, supAll] using hs
  | k + 1, hk => by
    obtain ⟨a, ha⟩ : ∃ a, I.arcs[k]? = some a := ⟨_, List.getElem?_eq_getElem (by omega)⟩
    have ih := supTo_within hf hs k (by omega)
    rw [supTo_succ ha]
    cases hfa : f a with
    | none => exact ih.more (by push_cast; omega)
    | some n =>
      have hn := hf a (List.mem_of_getElem? ha) n hfa
      exact (fixSup_within ih (by omega) a hn.1 hn.2).more (by push_cast; omega)
theorem fix_step {s : List Int} {a : Arc} {n b p q : Int} (hs : Within b s) (hb : 0 ≤ b) (hb2 : b ≤ 1152921504606846976) (h0 : -4398046511104 ≤ n) (h1 : n ≤ 4398046511104) (hp : s[a.src.toNat]? = some p)
    (hq : (s.set a.src.toNat (IntKind.i64.wrap (p - n)))[a.dst.toNat]? = some q) : (s.set a.src.toNat (IntKind.i64.wrap (p - n))).set a.dst.toNat (IntKind.i64.wrap (q + n)) = fixSup s a n := by
  have hpb := hs p (List.mem_of_getElem? hp)
  have e1 : IntKind.i64.wrap (p - n) = p + -n := by rw [w64 (by omega) (by omega)]; omega
  rw [e1] at hq ⊢
  have g1 : s.set a.src.toNat (p + -n) = addAt s a.src.toNat (-n) := by unfold addAt; rw [List.getD_eq_getElem?_getD, hp]; rfl
  rw [g1] at hq ⊢
  have h2 := hs.addAt hb a.src.toNat (x := -n) (y := 4398046511104) (by omega) (by omega)
  have hqb := h2 q (List.mem_of_getElem? hq)
  rw [w64 (by omega) (by omega)]
  unfold fixSup
  generalize addAt s a.src.toNat (-n) = s2 at *
  unfold addAt
  rw [List.getD_eq_getElem?_getD, hq]
  rfl
theorem mapto_get {f : Arc → Arc} {l : List Arc} {g : Nat} (h : g < l.length) : ((l.take g).map f ++ l.drop g)[g]? = l[g]? := by
  rw [List.getElem?_append_right (by simp; omega)]
  have e0 : g - ((l.take g).map f).length = 0 := by simp; omega
  rw [e0, List.getElem?_drop, Nat.add_zero]
theorem mapto_len (f : Arc → Arc) (l : List Arc) (g : Nat) : ((l.take g).map f ++ l.drop g).length = l.length := by simp; omega
theorem mapto_set {f : Arc → Arc} {l : List Arc} {g : Nat} {a b : Arc} (h : l[g]? = some a) (hb : b = f a) : ((l.take g).map f ++ l.drop g).set g b = (l.take (g + 1)).map f ++ l.drop (g + 1) := by
  subst hb
  have hg := get_lt h
  rw [List.set_append_right _ _ (by simp; omega)]
  have e0 : g - ((l.take g).map f).length = 0 := by simp; omega
  rw [e0, drop_get h, List.set_cons_zero, take_get h, List.map_append]
  simp
theorem mapto_stay {f : Arc → Arc} {l : List Arc} {g : Nat} {a : Arc} (h : l[g]? = some a) (hb : f a = a) : (l.take g).map f ++ l.drop g = (l.take (g + 1)).map f ++ l.drop (g + 1) := by
  rw [drop_get h, take_get h, List.map_append]
  simp [hb]
theorem small_low {I : Inst} (h : rightF I = 0) : Small takeLow I := fun a ha n hn => by
  have := rightF_arc h ha
  unfold takeLow at hn
  split at hn
  · cases hn
  · cases hn; omega
theorem small_loop {I : Inst} (h : rightF I = 0) : Small takeLoop I := fun a ha n hn => by
  have := rightF_arc h ha
  unfold takeLoop inf at hn
  split at hn
  · cases hn
  · rename_i h1
    split at hn
    · cases hn; omega
    · cases hn; omega
theorem small_fix {I : Inst} (h : rightF I = 0) : Small takeFix I := fun a ha n hn => by
  have := rightF_arc h ha
  unfold takeFix at hn
  split at hn
  · cases hn; omega
  · cases hn
theorem to_zero (f : Arc → Option Int) (I : Inst) : supTo f I 0 = I.sup ∧ offTo f I 0 = 0 ∧ didTo f I 0 = false := by simp [supTo, offTo, didTo, supAll, offAll, anyF]
theorem to_end (f : Arc → Option Int) (I : Inst) {k : Nat} (hk : I.arcs.length ≤ k) : supTo f I k = supAll f I.arcs I.sup ∧ offTo f I k = offAll f I.arcs 0 ∧ didTo f I k = anyF f I.arcs := by
  unfold supTo offTo didTo; rw [take_end hk]; exact ⟨rfl, rfl, rfl⟩
def touchTo (I : Inst) (k : Nat) : List Bool := (List.range I.sup.length).map (touchF (I.arcs.take k))
theorem touchTo_len (I : Inst) (k : Nat) : (touchTo I k).length = I.sup.length := by simp [touchTo]
theorem touchTo_zero (I : Inst) : touchTo I 0 = List.replicate I.sup.length false := by
  unfold touchTo touchF
  apply List.ext_getElem?
  intro j
  by_cases hj : j < I.sup.length
  · simp [hj]
  · simp [hj]
theorem touchTo_succ {I : Inst} {k : Nat} {a : Arc} (h : I.arcs[k]? = some a) (h0 : 0 ≤ a.src) (h1 : 0 ≤ a.dst) : ((touchTo I k).set a.src.toNat true).set a.dst.toNat true = touchTo I (k + 1) := by
  unfold touchTo
  rw [map_range_set, map_range_set]
  refine List.map_congr_left fun t _ => ?_
  unfold touchF
  rw [take_get h, List.any_append]
  simp only [List.any_cons, List.any_nil, Bool.or_false]
  by_cases e1 : t = a.dst.toNat
  · rw [if_pos e1, show decide (a.dst = (t : Int)) = true from decide_eq_true (by omega)]; simp
  · rw [if_neg e1, show decide (a.dst = (t : Int)) = false from decide_eq_false (by omega)]
    by_cases e2 : t = a.src.toNat
    · rw [if_pos e2, show decide (a.src = (t : Int)) = true from decide_eq_true (by omega)]; simp
    · rw [if_neg e2, show decide (a.src = (t : Int)) = false from decide_eq_false (by omega)]; simp
theorem touchTo_end (I : Inst) {k : Nat} (hk : I.arcs.length ≤ k) : touchTo I k = (List.range I.sup.length).map (touchF I.arcs) := by unfold touchTo; rw [take_end hk]
def loneTo (I : Inst) (k : Nat) : List Bool := (List.range k).map (loneAt I) ++ List.replicate (I.sup.length - k) false
theorem loneTo_len {I : Inst} {k : Nat} (hk : k ≤ I.sup.length) : (loneTo I k).length = I.sup.length := by unfold loneTo; simp; omega
theorem loneTo_zero (I : Inst) : loneTo I 0 = List.replicate I.sup.length false := by simp [loneTo]
theorem loneTo_succ {I : Inst} {k : Nat} (hk : k < I.sup.length) : (loneTo I k).set k (loneAt I k) = loneTo I (k + 1) := by
  unfold loneTo
  rw [List.set_append_right _ _ (by simp)]
  have e0 : k - ((List.range k).map (loneAt I)).length = 0 := by simp
  rw [e0, show I.sup.length - k = (I.sup.length - (k + 1)) + 1 by omega, List.replicate_succ, List.set_cons_zero, List.range_succ, List.map_append]
  simp
theorem loneTo_stay {I : Inst} {k : Nat} (hk : k < I.sup.length) (h : loneAt I k = false) : loneTo I k = loneTo I (k + 1) := by
  rw [← loneTo_succ hk, h]
  have e : (loneTo I k)[k]? = some false := by
    unfold loneTo
    rw [List.getElem?_append_right (by simp)]
    have e0 : k - ((List.range k).map (loneAt I)).length = 0 := by simp
    rw [e0, show I.sup.length - k = (I.sup.length - (k + 1)) + 1 by omega, List.replicate_succ]
    rfl
  obtain ⟨h1, h2⟩ := List.getElem?_eq_some_iff.1 e
  have := List.set_getElem_self h1
  rw [h2] at this
  exact this.symm
theorem loneTo_end (I : Inst) {k : Nat} (hk : k = I.sup.length) : loneTo I k = loneF I := by subst hk; simp [loneTo, loneF]
theorem loneAny_succ (I : Inst) (k : Nat) : ((List.range (k + 1)).map (loneAt I)).any id = (((List.range k).map (loneAt I)).any id || loneAt I k) := by
  rw [List.range_succ, List.map_append, List.any_append]; simp
theorem passF_bad {p : Int} {I : Inst} {w : WorkD} (h : ¬ rightF I = 0) : passF p I w = (StepD.none, rightF I) := by unfold passF; rw [if_neg h]
theorem passF_stay {p : Int} {I : Inst} {w : WorkD} (h : rightF I = 0) (hd : w.did = false) : passF p I w = (⟨I, 0, ⟨[], []⟩, ⟨0, 0⟩, false⟩, 0) := by
  unfold passF stepOf doneF; rw [if_pos h, hd]; rfl
theorem passF_over {p : Int} {I : Inst} {w : WorkD} (h : rightF I = 0) (hd : w.did = true) (hr : ¬ rightF (withoutF w.inst w.nodes w.arcs) = 0) : passF p I w = (StepD.none, 40) := by
  unfold passF stepOf doneF; rw [if_pos h, hd, if_neg hr]; rfl
theorem passF_done {p : Int} {I : Inst} {w : WorkD} (h : rightF I = 0) (hd : w.did = true) (hr : rightF (withoutF w.inst w.nodes w.arcs) = 0) : passF p I w = (⟨withoutF w.inst w.nodes w.arcs, p, I, w.off, true⟩, 0) := by
  unfold passF stepOf doneF; rw [if_pos h, hd, if_pos hr]; rfl
theorem workLow_len (I : Inst) (a b : List Bool) : (workLow I a b).inst.sup.length = I.sup.length ∧ (workLow I a b).inst.arcs.length = I.arcs.length ∧ (workLow I a b).nodes.length = a.length ∧ (workLow I a b).arcs.length = b.length := by simp [workLow, supAll_len]
theorem workTake_len (f : Arc → Option Int) (I : Inst) (a : List Bool) : (workTake f I a).inst.sup.length = I.sup.length ∧ (workTake f I a).inst.arcs.length = I.arcs.length ∧ (workTake f I a).nodes.length = a.length ∧ (workTake f I a).arcs.length = I.arcs.length := by simp [workTake, supAll_len, marksOf]
theorem workLone_len (I : Inst) (a : List Bool) : (workLone I a).inst.sup.length = I.sup.length ∧ (workLone I a).inst.arcs.length = I.arcs.length ∧ (workLone I a).nodes.length = I.sup.length ∧ (workLone I a).arcs.length = a.length := by simp [workLone, loneF]
def passK (k : Int) (I : Inst) : StepD × Int := if k % 4 = 0 then lowS I else if k % 4 = 1 then loopS I else if k % 4 = 2 then fixS I else loneS I
theorem getD_map {α β : Type} {l : List α} {f : α → β} {k : Nat} {a : α} {d : β} (h : l[k]? = some a) : (l.map f).getD k d = f a := by simp [List.getD, h]
end Go.Ql
