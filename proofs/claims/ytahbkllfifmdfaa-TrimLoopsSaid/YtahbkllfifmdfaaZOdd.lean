/- Part of the proof, Odd. -/
import Derived.Test.YtahbkllfifmdfaaZLaw15
set_option linter.all false
set_option linter.unusedSimpArgs false
set_option linter.unusedVariables false
namespace Go.Ql
open Go Go.Vc
theorem Arc.Nice.more {m n : Int} {a : Arc} (h : a.Nice m) (hm : m ≤ n) : a.Nice n :=
  ⟨h.s0, by have := h.s1; omega, h.d0, by have := h.d1; omega, h.l0, h.l1, h.c0, h.c1, h.k0, h.k1⟩
theorem oddArc_nice {m x : Int} {a : Arc} (h : a.Nice m) : (oddArc x a).Nice m := by
  obtain ⟨h1, h2, h3, h4, h5, h6, h7, h8, h9, h10⟩ := h
  unfold oddArc
  split
  · exact ⟨h1, h2, h1, h2, h5, h6, h7, h8, h9, h10⟩
  · split
    · exact ⟨h1, h2, h3, h4, h5, h6, Int.le_refl _, .inl (by dsimp only; omega), h9, h10⟩
    · split
      · exact ⟨h1, h2, h3, h4, Int.le_refl _, by dsimp only; omega, by dsimp only; omega, h8, h9, h10⟩
      · exact ⟨h1, h2, h3, h4, h5, h6, h7, h8, h9, h10⟩
theorem oddTo_nice {I : Inst} {e : List Int} {m : Int} (h : ∀ a ∈ I.arcs, a.Nice m) : ∀ k, k ≤ I.arcs.length → ∀ a ∈ (oddTo I e k).arcs, a.Nice m
  | 0, _ => h
  | k + 1, hk => fun a ha => by
    rw [oddTo] at ha
    dsimp only at ha
    rcases List.mem_or_eq_of_mem_set ha with h1 | rfl
    · exact oddTo_nice h k (by omega) a h1
    · obtain ⟨b, hb⟩ : ∃ b, I.arcs[k]? = some b := ⟨_, List.getElem?_eq_getElem (by omega)⟩
      rw [show I.arcs.getD k default = b by rw [List.getD_eq_getElem?_getD, hb]; rfl]
      exact oddArc_nice (h b (List.mem_of_getElem? hb))
theorem oddTo_sum {I : Inst} {e : List Int} (h : ∀ a ∈ I.arcs, a.Nice I.sup.length) : ∀ k, k ≤ I.arcs.length → (oddTo I e k).sup.sum = I.sup.sum
  | 0, _ => rfl
  | k + 1, hk => by
    have ih := oddTo_sum (e := e) h k (by omega)
    have hl := (oddTo_len I e k).1
    obtain ⟨b, hb⟩ : ∃ b, I.arcs[k]? = some b := ⟨_, List.getElem?_eq_getElem (by omega)⟩
    have hn := h b (List.mem_of_getElem? hb)
    have n1 := hn.s0; have n2 := hn.s1; have n3 := hn.d0; have n4 := hn.d1
    rw [oddTo]
    dsimp only
    rw [show I.arcs.getD k default = b by rw [List.getD_eq_getElem?_getD, hb]; rfl]
    unfold oddSup
    split
    · rw [addAt_sum _ _ _ (by rw [addAt_len]; omega), addAt_sum _ _ _ (by omega), ih]; omega
    · exact ih
theorem oddN_le (I : Inst) (e : List Int) : oddN I e ≤ I.arcs.length := by unfold oddN; omega
theorem oddF_all (c d e : List Int) : rightF (oddF c d e) = 0 ∧ (oddF c d e).sup.length ≤ 8 ∧ 1 ≤ (oddF c d e).sup.length ∧ (oddF c d e).arcs.length ≤ 18 ∧ (∀ a ∈ (oddF c d e).arcs, a.Nice (oddF c d e).sup.length) ∧ Within 300 (oddF c d e).sup := by
  have hp := nOf_pos d
  have hq := nOf_le d
  have hs := instF_sup c d
  have ha := instF_arcs c d
  have hn := instF_nice c d
  have hw := instF_within c d
  have hz := instF_sum c d
  have hl := oddTo_len (instF c d) e (oddN (instF c d) e)
  have hN := oddN_le (instF c d) e
  have h1 := oddTo_nice (e := e) hn _ hN
  have h2 := oddTo_sum (e := e) (I := instF c d) (by rw [hs]; exact hn) _ hN
  have h3 := oddTo_within (e := e) hw (by omega) (fun a h => ⟨(hn a h).l0, (hn a h).l1⟩) _ hN
  rw [hs] at hl
  generalize hJ : oddTo (instF c d) e (oddN (instF c d) e) = J at *
  have h4 : Within 300 J.sup := h3.more (by omega)
  have key : ∀ s : List Int, J.sup.length ≤ s.length → s.length ≤ 8 → s.sum = 0 → Within 300 s → rightF ⟨s, J.arcs⟩ = 0 ∧ s.length ≤ 8 ∧ 1 ≤ s.length ∧ J.arcs.length ≤ 18 ∧ (∀ a ∈ J.arcs, a.Nice s.length) ∧ Within 300 s := fun s k1 k2 k3 k4 =>
    have k5 : ∀ a ∈ J.arcs, a.Nice s.length := fun a h => (h1 a h).more (by omega)
    ⟨right_of (by dsimp only; omega) (by dsimp only; omega) (fun a h => (k5 a h).right) (fun x hx => (k4.more (b' := 4398046511104) (by omega)) x hx) k3, k2, by omega, by omega, k5, k4⟩
  unfold oddF
  rw [hJ]
  dsimp only
  split
  · refine key _ (by simp) (by simp only [List.length_append, List.length_cons, List.length_nil]; omega) (by rw [List.sum_append]; simp; omega) (fun x hx => ?_)
    rcases List.mem_append.1 hx with h | h
    · exact h4 x h
    · simp at h; omega
  · exact key J.sup (by omega) (by omega) (by omega) h4
theorem keptGo_filter (off : List Bool) : ∀ (f k : Nat), keptGo off f k = (List.range' k f).filter (fun j => !off.getD j false)
  | 0, k => rfl
  | f + 1, k => by
    rw [keptGo, List.range'_succ, List.filter_cons, keptGo_filter off f (k + 1)]
    cases h : off.getD k false <;> rfl
theorem filter_map_range {α : Type} (p : α → Bool) (d : α) (l : List α) : ∀ (r : List α) (k : Nat), (∀ j, r[j]? = l[k + j]?) → ((List.range' k r.length).filter (fun j => !(l.map p).getD j false)).map (fun j => l.getD j d) = r.filter (fun a => !p a)
  | [], k, h => by simp
  | a :: r, k, h => by
    have h0 := h 0
    simp only [List.getElem?_cons_zero, Nat.add_zero] at h0
    have e1 : (l.map p).getD k false = p a := by simp [List.getD, ← h0]
    have e2 : l.getD k d = a := by simp [List.getD, ← h0]
    have ih := filter_map_range p d l r (k + 1) (fun j => by have := h (j + 1); rw [List.getElem?_cons_succ] at this; rw [this]; congr 1; omega)
    rw [List.length_cons, List.range'_succ, List.filter_cons, List.filter_cons, e1]
    cases hp : p a with
    | true => simpa using ih
    | false => simp only [Bool.not_false, if_true, List.map_cons, e2, ih]
theorem withoutF_marks {s : List Int} {l : List Arc} {f : Arc → Option Int} (hs : s.length ≤ 1000) (ha : l.length ≤ 1000) (h : ∀ a ∈ l, a.In s.length) : withoutF ⟨s, l⟩ [] (marksOf f l) = ⟨s, l.filter (fun a => (f a).isNone)⟩ := by
  unfold withoutF keptNodes keptArcs
  dsimp only
  rw [keptN_small hs, keptN_small ha, keptF_nil, map_getD_range, filterMap_keep l h _ (fun k hk => keptF_lt hk)]
  congr 1
  unfold keptF marksOf
  rw [keptGo_filter, filter_map_range (fun a => (f a).isSome) default l l 0 (fun j => by rw [Nat.zero_add])]
  congr 1
  funext a
  cases f a <;> rfl
def takeI (f : Arc → Option Int) (I : Inst) : Inst := ⟨supAll f I.arcs I.sup, I.arcs.filter (fun a => (f a).isNone)⟩
theorem take_same {f : Arc → Option Int} {I : Inst} (h : rightF I = 0) (n : Nat) : withoutF (workTake f I (List.replicate n false)).inst (List.replicate n false) (marksOf f I.arcs) = takeI f I := by
  have hr := right_small h
  unfold workTake takeI
  dsimp only
  rw [without_nodes]
  exact withoutF_marks (by rw [supAll_len]; omega) (by omega) (by rw [supAll_len]; exact right_in h)
theorem passF_cases {p : Int} {I : Inst} {w : WorkD} (h : (passF p I w).2 = 0) : rightF I = 0 ∧ (w.did = false ∧ (passF p I w).1 = ⟨I, 0, ⟨[], []⟩, ⟨0, 0⟩, false⟩ ∨ w.did = true ∧ rightF (withoutF w.inst w.nodes w.arcs) = 0 ∧ (passF p I w).1 = ⟨withoutF w.inst w.nodes w.arcs, p, I, w.off, true⟩) := by
  by_cases h1 : rightF I = 0
  · refine ⟨h1, ?_⟩
    cases hd : w.did with
    | false => left; rw [passF_stay h1 hd]; exact ⟨rfl, rfl⟩
    | true =>
      by_cases h2 : rightF (withoutF w.inst w.nodes w.arcs) = 0
      · right; rw [passF_done h1 hd h2]; exact ⟨rfl, h2, rfl⟩
      · rw [passF_over h1 hd h2] at h; simp at h
  · rw [passF_bad h1] at h; exact absurd h h1
theorem lowS_cases {I : Inst} (h : (lowS I).2 = 0) : rightF I = 0 ∧ (anyF takeLow I.arcs = false ∧ (lowS I).1 = ⟨I, 0, ⟨[], []⟩, ⟨0, 0⟩, false⟩ ∨ anyF takeLow I.arcs = true ∧ rightF (lowI I) = 0 ∧ (lowS I).1 = ⟨lowI I, 1, I, W (offAll takeLow I.arcs 0), true⟩) := by
  have hc := passF_cases h
  have e : withoutF (workLow I (List.replicate I.sup.length false) (List.replicate I.arcs.length false)).inst (workLow I (List.replicate I.sup.length false) (List.replicate I.arcs.length false)).nodes (workLow I (List.replicate I.sup.length false) (List.replicate I.arcs.length false)).arcs = lowI I := lowI_same hc.1 _ _
  rw [e] at hc
  exact hc
theorem takeS_cases {f : Arc → Option Int} {p : Int} {I : Inst} (h : (passF p I (workTake f I (List.replicate I.sup.length false))).2 = 0) : rightF I = 0 ∧ (anyF f I.arcs = false ∧ (passF p I (workTake f I (List.replicate I.sup.length false))).1 = ⟨I, 0, ⟨[], []⟩, ⟨0, 0⟩, false⟩ ∨ anyF f I.arcs = true ∧ rightF (takeI f I) = 0 ∧ (passF p I (workTake f I (List.replicate I.sup.length false))).1 = ⟨takeI f I, p, I, W (offAll f I.arcs 0), true⟩) := by
  have hc := passF_cases h
  have e : withoutF (workTake f I (List.replicate I.sup.length false)).inst (workTake f I (List.replicate I.sup.length false)).nodes (workTake f I (List.replicate I.sup.length false)).arcs = takeI f I := take_same hc.1 _
  rw [e] at hc
  exact hc
def loneI (I : Inst) : Inst := withoutF I (loneF I) []
theorem loneS_cases {I : Inst} (h : (loneS I).2 = 0) : rightF I = 0 ∧ ((loneF I).any id = false ∧ (loneS I).1 = ⟨I, 0, ⟨[], []⟩, ⟨0, 0⟩, false⟩ ∨ (loneF I).any id = true ∧ rightF (loneI I) = 0 ∧ (loneS I).1 = ⟨loneI I, 4, I, ⟨0, 0⟩, true⟩) := by
  have hc := passF_cases h
  have e : withoutF (workLone I (List.replicate I.arcs.length false)).inst (workLone I (List.replicate I.arcs.length false)).nodes (workLone I (List.replicate I.arcs.length false)).arcs = loneI I := without_arcs I _ _
  rw [e] at hc
  exact hc
theorem take_none (f : Arc → Option Int) (I : Inst) : anyF f (takeI f I).arcs = false := by
  unfold anyF takeI
  rw [List.any_eq_false]
  intro a ha
  have := (List.mem_filter.1 ha).2
  cases h : f a with
  | none => simp
  | some n => rw [h] at this; cases this
theorem placeGo_at : ∀ (l : List Nat) (k i : Nat) (x : Nat), l.Nodup → l[i]? = some x → placeGo (x : Int) l k = ((k + i : Nat) : Int)
  | [], k, i, x, _, h => by simp at h
  | y :: l, k, i, x, hn, h => by
    rw [placeGo]
    cases i with
    | zero => simp at h; subst h; simp
    | succ i =>
      rw [List.getElem?_cons_succ] at h
      have hy : ¬ (y : Int) = x := fun e => by
        have e' : y = x := by omega
        subst e'
        exact (List.nodup_cons.1 hn).1 (List.mem_of_getElem? h)
      rw [if_neg hy, placeGo_at l (k + 1) i x (List.nodup_cons.1 hn).2 h]
      congr 1; omega
def loneK (I : Inst) : List Nat := (List.range I.sup.length).filter (fun j => !loneAt I j)
theorem loneK_eq {I : Inst} (h : I.sup.length ≤ 1000) : keptNodes I (loneF I) = loneK I := by
  unfold keptNodes keptF loneK
  rw [keptN_small h, keptGo_filter, List.range_eq_range']
  refine List.filter_congr fun j hj => ?_
  have hj' : j < I.sup.length := by simpa using hj
  have : (loneF I).getD j false = loneAt I j := by
    unfold loneF
    rw [List.getD_eq_getElem?_getD, List.getElem?_map, List.getElem?_range hj']; rfl
  rw [this]
theorem loneK_nodup (I : Inst) : (loneK I).Nodup := List.Pairwise.filter _ List.nodup_range
theorem touch_kept {I : Inst} (h : rightF I = 0) {a : Arc} (ha : a ∈ I.arcs) : ∃ i j : Nat, (loneK I)[i]? = some a.src.toNat ∧ (loneK I)[j]? = some a.dst.toNat := by
  obtain ⟨h1, h2, h3, h4⟩ := right_in h a ha
  have key : ∀ x : Int, 0 ≤ x → x < I.sup.length → (a.src = x ∨ a.dst = x) → x.toNat ∈ loneK I := fun x x0 x1 hx => by
    unfold loneK
    rw [List.mem_filter]
    refine ⟨List.mem_range.2 (by omega), ?_⟩
    unfold loneAt
    have : touchF I.arcs x.toNat = true := by
      unfold touchF
      rw [List.any_eq_true]
      refine ⟨a, ha, ?_⟩
      rcases hx with e | e
      · simp [show a.src = ((x.toNat : Nat) : Int) by omega]
      · simp [show a.dst = ((x.toNat : Nat) : Int) by omega]
    rw [this]; rfl
  obtain ⟨i, hi⟩ := List.mem_iff_getElem?.1 (key a.src h1 h2 (.inl rfl))
  obtain ⟨j, hj⟩ := List.mem_iff_getElem?.1 (key a.dst h3 h4 (.inr rfl))
  exact ⟨i, j, hi, hj⟩
def moveArc (K : List Nat) (a : Arc) : Arc := { a with src := placeGo a.src K 0, dst := placeGo a.dst K 0 }
theorem lone_keep {I : Inst} (h : rightF I = 0) {a : Arc} (ha : a ∈ I.arcs) : keepArc (loneK I) a = some (moveArc (loneK I) a) := by
  obtain ⟨i, j, hi, hj⟩ := touch_kept h ha
  obtain ⟨h1, h2, h3, h4⟩ := right_in h a ha
  have e1 := placeGo_at (loneK I) 0 i _ (loneK_nodup I) hi
  have e2 := placeGo_at (loneK I) 0 j _ (loneK_nodup I) hj
  rw [show ((a.src.toNat : Nat) : Int) = a.src by omega] at e1
  rw [show ((a.dst.toNat : Nat) : Int) = a.dst by omega] at e2
  unfold keepArc moveArc
  rw [if_pos ⟨by omega, by omega⟩]
theorem loneI_eq {I : Inst} (h : rightF I = 0) : loneI I = ⟨(loneK I).map (fun k => I.sup.getD k 0), I.arcs.map (moveArc (loneK I))⟩ := by
  have hr := right_small h
  unfold loneI
  have e := withoutF_arcs (I := I) (nodes := loneF I) (by omega)
  unfold withoutF at *
  dsimp only at e
  rw [e, loneK_eq (by omega)]
  congr 1
  have : ∀ l : List Arc, (∀ a ∈ l, a ∈ I.arcs) → l.filterMap (keepArc (loneK I)) = l.map (moveArc (loneK I)) := fun l => by
    induction l with
    | nil => intro _; rfl
    | cons a l ih => intro hl; rw [List.filterMap_cons, lone_keep h (hl a (by simp)), ih (fun b hb => hl b (by simp [hb]))]; rfl
  exact this _ (fun a ha => ha)
def restK (k : Int) (I : Inst) : Bool := if k % 4 = 0 then anyF takeLow I.arcs else if k % 4 = 1 then anyF takeLoop I.arcs else if k % 4 = 2 then anyF takeFix I.arcs else (loneF I).any id
def leftK (k : Int) (I : Inst) : Inst := if k % 4 = 0 then lowI I else if k % 4 = 1 then takeI takeLoop I else if k % 4 = 2 then takeI takeFix I else loneI I
def offK (k : Int) (I : Inst) : Int := if k % 4 = 0 then offAll takeLow I.arcs 0 else if k % 4 = 1 then offAll takeLoop I.arcs 0 else if k % 4 = 2 then offAll takeFix I.arcs 0 else 0
theorem passK_cases {k : Int} {I : Inst} (h : (passK k I).2 = 0) : rightF I = 0 ∧ (restK k I = false ∧ (passK k I).1 = ⟨I, 0, ⟨[], []⟩, ⟨0, 0⟩, false⟩ ∨ restK k I = true ∧ rightF (leftK k I) = 0 ∧ (passK k I).1 = ⟨leftK k I, 1 + k % 4, I, W (offK k I), true⟩) := by
  unfold passK restK leftK offK at *
  by_cases e0 : k % 4 = 0
  · rw [if_pos e0] at h ⊢; simp only [e0, if_true]; exact lowS_cases h
  · rw [if_neg e0] at h ⊢
    by_cases e1 : k % 4 = 1
    · rw [if_pos e1] at h ⊢; simp only [e1]; exact takeS_cases h
    · rw [if_neg e1] at h ⊢
      by_cases e2 : k % 4 = 2
      · rw [if_pos e2] at h ⊢; simp only [e2]; exact takeS_cases h
      · rw [if_neg e2] at h ⊢
        have e3 : k % 4 = 3 := by omega
        simp only [e3]
        exact loneS_cases h
theorem anyF_none {f : Arc → Option Int} {l : List Arc} (h : anyF f l = false) {a : Arc} (ha : a ∈ l) : f a = none := by
  unfold anyF at h
  have := List.any_eq_false.1 h a ha
  cases hf : f a with
  | none => rfl
  | some n => rw [hf] at this; simp at this
end Go.Ql
