/-
  PLAIN LAWS of the chapter 03: what is left without nothing, without one node that nothing touches, without one arc. No program in sight.
-/
import Derived.Test.YtimkpgkpebjglaaSpec2
set_option linter.unusedSimpArgs false
set_option linter.unusedVariables false
namespace Go.Ql
open Go Go.RowKit

theorem keptGo_all {off : List Bool} : ∀ (f k : Nat), (∀ j, k ≤ j → j < k + f → off.getD j false = false) → keptGo off f k = List.range' k f
  | 0, _, _ => rfl
  | f + 1, k, h => by
    unfold keptGo
    rw [h k (by omega) (by omega), List.range'_succ, keptGo_all f (k + 1) (fun j h1 h2 => h j (by omega) (by omega))]
    simp
theorem keptGo_add (off : List Bool) : ∀ (f g k : Nat), keptGo off (f + g) k = keptGo off f k ++ keptGo off g (k + f)
  | 0, g, k => by simp [keptGo]
  | f + 1, g, k => by
    have e : f + 1 + g = (f + g) + 1 := by omega
    have e2 : k + 1 + f = k + (f + 1) := by omega
    rw [e]
    show (if off.getD k false then keptGo off (f + g) (k + 1) else k :: keptGo off (f + g) (k + 1)) = (if off.getD k false then keptGo off f (k + 1) else k :: keptGo off f (k + 1)) ++ keptGo off g (k + (f + 1))
    rw [keptGo_add off f g (k + 1), e2]
    split <;> rfl
theorem keptF_nil (n : Nat) : keptF [] n = List.range n := by
  unfold keptF
  rw [keptGo_all n 0 (fun j _ _ => by simp), List.range_eq_range']
theorem getD_one {n a j : Nat} (ha : a < n) : ((List.replicate n false).set a true).getD j false = decide (j = a) := by
  simp only [List.getD_eq_getElem?_getD, List.getElem?_set, List.length_replicate]
  by_cases h : a = j
  · subst h; simp [ha]
  · have h' : ¬ j = a := fun e => h e.symm
    simp only [h, h', if_false, decide_false]
    by_cases hj : j < n
    · simp [List.getElem?_replicate, hj]
    · simp [List.getElem?_replicate, hj]
/-- all but one -/
theorem keptF_one {n a m : Nat} (ha : a < m) (han : a < n) : keptF ((List.replicate m false).set a true) n = List.range a ++ List.range' (a + 1) (n - a - 1) := by
  unfold keptF
  have e : n = a + (1 + (n - a - 1)) := by omega
  rw [e, keptGo_add, keptGo_add, keptGo_all a 0 (fun j _ h => by rw [getD_one ha]; simp; omega), keptGo_all _ (0 + a + 1) (fun j h _ => by rw [getD_one ha]; simp; omega)]
  have e1 : keptGo ((List.replicate m false).set a true) 1 (0 + a) = [] := by
    unfold keptGo
    rw [getD_one ha]
    simp [keptGo]
  rw [e1, List.range_eq_range']
  have e2 : a + (1 + (n - a - 1)) - a - 1 = n - a - 1 := by omega
  rw [e2]
  simp
theorem placeGo_range (x : Int) : ∀ (f k b : Nat), (k : Int) ≤ x → x < k + f → placeGo x (List.range' k f) b = x - k + b
  | 0, k, b, h1, h2 => by omega
  | f + 1, k, b, h1, h2 => by
    rw [List.range'_succ]
    unfold placeGo
    by_cases h : (k : Int) = x
    · rw [if_pos h]; omega
    · rw [if_neg h, placeGo_range x f (k + 1) (b + 1) (by omega) (by omega)]; omega
theorem placeGo_all {x : Int} {n : Nat} (h0 : 0 ≤ x) (h1 : x < n) : placeGo x (List.range n) 0 = x := by
  rw [List.range_eq_range', placeGo_range x n 0 0 (by omega) (by omega)]; omega
theorem keepArc_all {a : Arc} {n : Nat} (h0 : 0 ≤ a.src) (h1 : a.src < n) (h2 : 0 ≤ a.dst) (h3 : a.dst < n) : keepArc (List.range n) a = some a := by
  unfold keepArc
  rw [placeGo_all h0 h1, placeGo_all h2 h3, if_pos ⟨h0, h2⟩]

/-- ends of arcs are nodes -/
def Arc.In (n : Int) (a : Arc) : Prop := 0 ≤ a.src ∧ a.src < n ∧ 0 ≤ a.dst ∧ a.dst < n
theorem filterMap_keep {n : Nat} (l : List Arc) (h : ∀ a ∈ l, a.In n) (ks : List Nat) (hk : ∀ k ∈ ks, k < l.length) : ks.filterMap (fun k => keepArc (List.range n) (l.getD k default)) = ks.map (fun k => l.getD k default) := by
  induction ks with
  | nil => rfl
  | cons k ks ih =>
    have hkl := hk k (by simp)
    have hm : l.getD k default ∈ l := by rw [List.getD_eq_getElem?_getD, List.getElem?_eq_getElem hkl]; exact List.getElem_mem hkl
    obtain ⟨a1, a2, a3, a4⟩ := h _ hm
    rw [List.filterMap_cons, keepArc_all a1 a2 a3 a4, List.map_cons, ih (fun j hj => hk j (by simp [hj]))]
theorem map_getD_range {α : Type} (l : List α) (d : α) : (List.range l.length).map (fun k => l.getD k d) = l := by
  apply List.ext_getElem?
  intro i
  by_cases hi : i < l.length
  · simp [hi, List.getD_eq_getElem?_getD]
  · simp [hi]
theorem map_getD_take {α : Type} (l : List α) (d : α) (n : Nat) (hn : n ≤ l.length) : (List.range n).map (fun k => l.getD k d) = l.take n := by
  apply List.ext_getElem?
  intro i
  by_cases hi : i < n
  · have h2 : i < l.length := by omega
    simp [hi, h2, List.getD_eq_getElem?_getD, List.getElem?_take]
  · simp [hi, List.getElem?_take]
theorem map_getD_drop {α : Type} (l : List α) (d : α) (k n : Nat) (hn : k + n = l.length) : (List.range' k n).map (fun j => l.getD j d) = l.drop k := by
  apply List.ext_getElem?
  intro i
  by_cases hi : i < n
  · have h2 : k + i < l.length := by omega
    simp [hi, h2, List.getD_eq_getElem?_getD, List.getElem?_drop]
  · have h2 : l.length ≤ k + i := by omega
    simp [hi, h2, List.getElem?_drop]
theorem keptN_small {n : Nat} (h : n ≤ 1000) : keptN (n : Int) = n := by unfold keptN; omega

/-- WITHOUT NOTHING it is the same -/
theorem withoutF_nothing {I : Inst} (hs : I.sup.length ≤ 1000) (ha : I.arcs.length ≤ 1000) (h : ∀ a ∈ I.arcs, a.In I.sup.length) : withoutF I [] [] = I := by
  unfold withoutF keptNodes keptArcs
  rw [keptN_small hs, keptN_small ha, keptF_nil, keptF_nil, filterMap_keep I.arcs h _ (fun k hk => List.mem_range.1 hk), map_getD_range, map_getD_range]
/-- WITHOUT THE LAST NODE, that nothing touches -/
theorem withoutF_last {s : List Int} {l : List Arc} {x : Int} (hs : s.length + 1 ≤ 1000) (ha : l.length ≤ 1000) (h : ∀ a ∈ l, a.In s.length) :
    withoutF ⟨s ++ [x], l⟩ ((List.replicate (s.length + 1) false).set s.length true) [] = ⟨s, l⟩ := by
  unfold withoutF keptNodes keptArcs
  have e : (s ++ [x]).length = s.length + 1 := by simp
  simp only [e]
  rw [keptN_small hs, keptN_small ha, keptF_nil, keptF_one (by omega) (by omega)]
  have e2 : s.length + 1 - s.length - 1 = 0 := by omega
  rw [e2]
  simp only [List.range'_zero, List.append_nil]
  rw [filterMap_keep l h _ (fun k hk => List.mem_range.1 hk), map_getD_range, map_getD_take _ _ _ (by simp)]
  simp
/-- WITHOUT ONE ARC -/
theorem withoutF_arc {I : Inst} {a : Nat} (hs : I.sup.length ≤ 1000) (ha : I.arcs.length ≤ 1000) (h : ∀ a ∈ I.arcs, a.In I.sup.length) (hal : a < I.arcs.length) :
    withoutF I [] ((List.replicate (a + 1) false).set a true) = ⟨I.sup, I.arcs.take a ++ I.arcs.drop (a + 1)⟩ := by
  unfold withoutF keptNodes keptArcs
  rw [keptN_small hs, keptN_small ha, keptF_nil, keptF_one (by omega) hal, filterMap_keep I.arcs h, map_getD_range, List.map_append, map_getD_take _ _ _ (by omega), map_getD_drop _ _ _ _ (by omega)]
  intro k hk
  rw [List.mem_append, List.mem_range, List.mem_range'_1] at hk
  omega
theorem cntLow_app (l m : List Arc) : cntLow (l ++ m) = cntLow l + cntLow m := by
  induction l with
  | nil => simp [cntLow]
  | cons a l ih => simp only [List.cons_append, cntLow, ih]; omega
theorem cntLow_at {l : List Arc} {a : Nat} {x : Arc} (h : l[a]? = some x) : cntLow l = cntLow (l.take a) + (if x.low = 0 then 0 else 1) + cntLow (l.drop (a + 1)) := by
  obtain ⟨ha, hx⟩ := List.getElem?_eq_some_iff.1 h
  have e : l = l.take a ++ (x :: l.drop (a + 1)) := by rw [← hx, ← List.drop_eq_getElem_cons ha, List.take_append_drop]
  have e2 := congrArg cntLow e
  rw [cntLow_app] at e2
  simp only [cntLow] at e2
  omega
theorem cntLow_set {l : List Arc} {a : Nat} {x y : Arc} (h : l[a]? = some x) : cntLow (l.set a y) = cntLow (l.take a) + (if y.low = 0 then 0 else 1) + cntLow (l.drop (a + 1)) := by
  obtain ⟨ha, hx⟩ := List.getElem?_eq_some_iff.1 h
  have e := cntLow_at (l := l.set a y) (a := a) (x := y) (by simp [ha])
  rw [List.take_set_of_le (Nat.le_refl a), List.drop_set_of_lt (by omega)] at e
  exact e
theorem cntLow_cut {l : List Arc} {a : Nat} : cntLow (l.take a ++ l.drop (a + 1)) = cntLow (l.take a) + cntLow (l.drop (a + 1)) := cntLow_app _ _

theorem placeGo_get (x : Int) : ∀ (l : List Nat) (k : Nat), 0 ≤ placeGo x l k → ∃ i, i < l.length ∧ placeGo x l k = ((k + i : Nat) : Int) ∧ ∃ y, l[i]? = some y ∧ (y : Int) = x
  | [], k, h => by simp [placeGo] at h
  | y :: l, k, h => by
    unfold placeGo at h ⊢
    by_cases e : (y : Int) = x
    · rw [if_pos e]; exact ⟨0, by simp, by simp, y, by simp, e⟩
    · rw [if_neg e] at h ⊢
      obtain ⟨i, h1, h2, z, h3, h4⟩ := placeGo_get x l (k + 1) h
      exact ⟨i + 1, by simp; omega, by rw [h2]; omega, z, by simpa using h3, h4⟩
theorem filterMap_range {α β : Type} (f : α → Option β) (d : α) (l : List α) : (List.range l.length).filterMap (fun k => f (l.getD k d)) = l.filterMap f := by
  have h := map_getD_range l d
  have := congrArg (List.filterMap f) h
  rw [List.filterMap_map] at this
  exact this
theorem withoutF_arcs {I : Inst} {nodes : List Bool} (ha : I.arcs.length ≤ 1000) : (withoutF I nodes []).arcs = I.arcs.filterMap (keepArc (keptNodes I nodes)) := by
  unfold withoutF keptArcs
  dsimp only
  rw [keptN_small ha, keptF_nil, filterMap_range]
theorem without_back {I : Inst} {nodes : List Bool} {b : Arc} (ha : I.arcs.length ≤ 1000) (hb : b ∈ (withoutF I nodes []).arcs) : ∃ a ∈ I.arcs, b.low = a.low ∧ b.cap = a.cap ∧ b.cost = a.cost ∧
    0 ≤ b.src ∧ b.src < (keptNodes I nodes).length ∧ 0 ≤ b.dst ∧ b.dst < (keptNodes I nodes).length ∧
    ∃ s t, (keptNodes I nodes)[b.src.toNat]? = some s ∧ (s : Int) = a.src ∧ (keptNodes I nodes)[b.dst.toNat]? = some t ∧ (t : Int) = a.dst := by
  rw [withoutF_arcs ha, List.mem_filterMap] at hb
  obtain ⟨a, hm, hk⟩ := hb
  unfold keepArc at hk
  split at hk
  · rename_i h
    cases hk
    obtain ⟨i, i1, i2, s, i3, i4⟩ := placeGo_get _ _ _ h.1
    obtain ⟨j, j1, j2, t, j3, j4⟩ := placeGo_get _ _ _ h.2
    refine ⟨a, hm, rfl, rfl, rfl, h.1, ?_, h.2, ?_, s, t, ?_, i4, ?_, j4⟩
    · dsimp only; rw [i2]; omega
    · dsimp only; rw [j2]; omega
    · dsimp only; rw [i2]; simpa using i3
    · dsimp only; rw [j2]; simpa using j3
  · cases hk
theorem cntLow_keep (K : List Nat) : ∀ l : List Arc, cntLow (l.filterMap (keepArc K)) ≤ cntLow l
  | [] => by simp [cntLow]
  | a :: l => by
    have ih := cntLow_keep K l
    have hl : ∀ b, keepArc K a = some b → b.low = a.low := fun b h => by
      unfold keepArc at h
      split at h
      · cases h; rfl
      · cases h
    rw [List.filterMap_cons]
    cases hk : keepArc K a with
    | none => simp only [cntLow]; omega
    | some b => simp only [cntLow, hl b hk]; omega
theorem withoutF_sup_len (I : Inst) (nodes offs : List Bool) : (withoutF I nodes offs).sup.length = (keptNodes I nodes).length := by simp [withoutF]
end Go.Ql
