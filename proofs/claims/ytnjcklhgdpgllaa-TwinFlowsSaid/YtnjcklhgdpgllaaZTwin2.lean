/- Part of the proof, Twin2. -/
import Derived.Test.YtnjcklhgdpgllaaZTwin
set_option linter.all false
set_option linter.unusedSimpArgs false
set_option linter.unusedVariables false
namespace Go.Ql
open Go Go.Vc
theorem likeA_iff {a b : Arc} : likeA a b = true ↔ a.src = b.src ∧ a.dst = b.dst ∧ a.cost = b.cost := by simp [likeA, and_assoc]
theorem likeA_refl (a : Arc) : likeA a a = true := likeA_iff.2 ⟨rfl, rfl, rfl⟩
theorem likeA_symm {a b : Arc} (h : likeA a b = true) : likeA b a = true := by
  obtain ⟨h1, h2, h3⟩ := likeA_iff.1 h
  exact likeA_iff.2 ⟨h1.symm, h2.symm, h3.symm⟩
theorem likeA_trans {a b c : Arc} (h : likeA a b = true) (h' : likeA b c = true) : likeA a c = true := by
  obtain ⟨h1, h2, h3⟩ := likeA_iff.1 h
  obtain ⟨k1, k2, k3⟩ := likeA_iff.1 h'
  exact likeA_iff.2 ⟨h1.trans k1, h2.trans k2, h3.trans k3⟩
theorem firstK_iff {l : List Arc} {k : Nat} : firstK l k = true ↔ ∀ j, j < k → likeA (l.getD k default) (l.getD j default) = false := by
  unfold firstK
  rw [List.all_eq_true]
  constructor
  · intro h j hj; simpa using h j (List.mem_range.2 hj)
  · intro h j hj; simpa using h j (List.mem_range.1 hj)
theorem exists_first (l : List Arc) : ∀ (n j : Nat), j ≤ n → ∃ k, k ≤ j ∧ firstK l k = true ∧ likeA (l.getD k default) (l.getD j default) = true
  | 0, j, h => ⟨0, by omega, by rw [firstK_iff]; intro i hi; omega, by rw [show j = 0 by omega]; exact likeA_refl _⟩
  | n + 1, j, h => by
    by_cases hf : firstK l j = true
    · exact ⟨j, Nat.le_refl _, hf, likeA_refl _⟩
    · rw [firstK_iff] at hf
      obtain ⟨i, hi⟩ := Classical.not_forall.1 hf
      rw [Classical.not_imp] at hi
      obtain ⟨hi1, hi2⟩ := hi
      have hi2 : likeA (l.getD j default) (l.getD i default) = true := by simpa using hi2
      obtain ⟨k, k1, k2, k3⟩ := exists_first l n i (by omega)
      exact ⟨k, by omega, k2, likeA_trans k3 (likeA_symm hi2)⟩
theorem first_unique {l : List Arc} {j k m : Nat} (h1 : firstK l j = true) (h2 : firstK l k = true) (h3 : likeA (l.getD j default) (l.getD m default) = true) (h4 : likeA (l.getD k default) (l.getD m default) = true) : j = k := by
  rcases Nat.lt_trichotomy j k with h | h | h
  · have := firstK_iff.1 h2 j h
    rw [likeA_trans h4 (likeA_symm h3)] at this; cases this
  · exact h
  · have := firstK_iff.1 h1 k h
    rw [likeA_trans h3 (likeA_symm h4)] at this; cases this
theorem memsK_succ (l : List Arc) (k m : Nat) : memsK l k (m + 1) = memsK l k m ++ (if k ≤ m ∧ likeA (l.getD k default) (l.getD m default) = true then [(m : Int)] else []) := by
  unfold memsK
  rw [List.range_succ, List.filter_append, List.map_append]
  congr 1
  by_cases h : k ≤ m ∧ likeA (l.getD k default) (l.getD m default) = true
  · have e : (decide (k ≤ m) && likeA (l.getD k default) (l.getD m default)) = true := by rw [h.2, decide_eq_true h.1]; rfl
    rw [if_pos h, List.filter_cons_of_pos (by exact e)]; rfl
  · have e : ¬ (decide (k ≤ m) && likeA (l.getD k default) (l.getD m default)) = true := fun h' => by
      rw [Bool.and_eq_true, decide_eq_true_eq] at h'
      exact h h'
    rw [if_neg h, List.filter_cons_of_neg (by exact e)]; rfl
theorem memsK_none (l : List Arc) (k : Nat) : ∀ m, m ≤ k → memsK l k m = []
  | 0, _ => rfl
  | m + 1, h => by rw [memsK_succ, memsK_none l k m (by omega), if_neg (by omega)]; rfl
theorem memsK_self (l : List Arc) (k : Nat) : memsK l k (k + 1) = [(k : Int)] := by
  rw [memsK_succ, memsK_none l k k (Nat.le_refl _), if_pos ⟨Nat.le_refl _, likeA_refl _⟩]; rfl
def firsts (l : List Arc) (m : Nat) : List Nat := (List.range m).filter (firstK l)
theorem firsts_succ (l : List Arc) (m : Nat) : firsts l (m + 1) = firsts l m ++ (if firstK l m then [m] else []) := by
  unfold firsts
  rw [List.range_succ, List.filter_append]
  congr 1
  cases h : firstK l m <;> simp [h]
theorem firsts_nodup (l : List Arc) (m : Nat) : (firsts l m).Nodup := List.Pairwise.filter _ List.nodup_range
theorem firsts_mem {l : List Arc} {m k : Nat} : k ∈ firsts l m ↔ k < m ∧ firstK l k = true := by unfold firsts; rw [List.mem_filter, List.mem_range]
theorem groupsTo_eq (l : List Arc) (m : Nat) : groupsTo l m = (firsts l m).map fun k => memsK l k m := rfl
theorem groupsTo_len (l : List Arc) (m : Nat) : (groupsTo l m).length = (firsts l m).length := by rw [groupsTo_eq, List.length_map]
theorem sum_zero {α : Type} (f : α → Int) : ∀ (F : List α), (∀ k ∈ F, f k = 0) → (F.map f).sum = 0
  | [], _ => rfl
  | a :: F, h => by rw [List.map_cons, List.sum_cons, h a (by simp), sum_zero f F (fun k hk => h k (by simp [hk]))]; rfl
theorem sum_only {f : Nat → Int} {k0 : Nat} : ∀ {F : List Nat}, F.Nodup → k0 ∈ F → (∀ k ∈ F, k ≠ k0 → f k = 0) → (F.map f).sum = f k0
  | [], _, h, _ => by simp at h
  | a :: F, hn, h, h0 => by
    rw [List.map_cons, List.sum_cons]
    obtain ⟨n1, n2⟩ := List.nodup_cons.1 hn
    by_cases e : a = k0
    · subst e
      rw [sum_zero f F (fun k hk => h0 k (by simp [hk]) (fun e => n1 (e ▸ hk)))]; omega
    · have hm : k0 ∈ F := by
        rcases List.mem_cons.1 h with h1 | h1
        · exact absurd h1.symm e
        · exact h1
      rw [h0 a (by simp) e, sum_only n2 hm (fun k hk => h0 k (by simp [hk]))]; omega
theorem sum_add (f g : Nat → Int) : ∀ F : List Nat, (F.map fun k => f k + g k).sum = (F.map f).sum + (F.map g).sum
  | [] => rfl
  | a :: F => by simp only [List.map_cons, List.sum_cons]; rw [sum_add f g F]; omega
def gsum (f : Nat → Int) (ms : List Int) : Int := (ms.map fun j => f j.toNat).sum
theorem groups_sum (l : List Arc) (f : Nat → Int) : ∀ m, ((groupsTo l m).map (gsum f)).sum = sumTo f m
  | 0 => rfl
  | m + 1 => by
    have ih := groups_sum l f m
    rw [groupsTo_eq, List.map_map] at ih ⊢
    have step : ∀ k, gsum f (memsK l k (m + 1)) = gsum f (memsK l k m) + (if k ≤ m ∧ likeA (l.getD k default) (l.getD m default) = true then f m else 0) := fun k => by
      rw [memsK_succ]
      unfold gsum
      rw [List.map_append, List.sum_append]
      congr 1
      split <;> simp
    have e1 : (firsts l m).map (gsum f ∘ fun k => memsK l k (m + 1)) = (firsts l m).map fun k => (gsum f ∘ fun k => memsK l k m) k + (if k ≤ m ∧ likeA (l.getD k default) (l.getD m default) = true then f m else 0) := List.map_congr_left fun k _ => step k
    rw [firsts_succ, List.map_append, List.sum_append, e1, sum_add, ih, sumTo]
    cases hf : firstK l m with
    | true =>
      rw [sum_zero _ _ (fun k hk => by
        have hk' := firsts_mem.1 hk
        rw [if_neg]
        intro h
        have := firstK_iff.1 hf k hk'.1
        rw [likeA_symm h.2] at this; cases this)]
      simp only [if_true, List.map_cons, List.map_nil, List.sum_cons, List.sum_nil, Function.comp, memsK_self]
      unfold gsum
      simp
    | false =>
      obtain ⟨k0, h1, h2, h3⟩ := exists_first l m m (Nat.le_refl _)
      have hne : k0 < m := by
        rcases Nat.lt_or_ge k0 m with h | h
        · exact h
        · have : k0 = m := by omega
          subst this; rw [hf] at h2; cases h2
      rw [sum_only (k0 := k0) (firsts_nodup l m) (firsts_mem.2 ⟨hne, h2⟩) (fun k hk hk0 => by
        rw [if_neg]
        intro h
        exact hk0 (first_unique (firsts_mem.1 hk).2 h2 h.2 h3)), if_pos ⟨by omega, h3⟩]
      simp
def keyA (a : Arc) : List Int := [a.src, a.dst, a.cost]
def keysG (l : List Arc) : List Nat → Nat → List (List Int × Int)
  | [], _ => []
  | p :: F, b => (keyA (l.getD p default), (b : Int)) :: keysG l F (b + 1)
def keysM (l : List Arc) (m : Nat) : List (List Int × Int) := keysG l (firsts l m) 0
theorem keyA_iff {a b : Arc} : keyA a = keyA b ↔ likeA b a = true := by
  rw [likeA_iff]
  unfold keyA
  simp only [List.cons.injEq, and_true]
  exact ⟨fun h => ⟨h.1.symm, h.2.1.symm, h.2.2.symm⟩, fun h => ⟨h.1.symm, h.2.1.symm, h.2.2.symm⟩⟩
theorem keysG_none {l : List Arc} {a : Arc} {v : Int} : ∀ {F : List Nat} {b : Nat}, (∀ p ∈ F, likeA (l.getD p default) a = false) → mget (keysG l F b) (keyA a) = none ∧ mput (keysG l F b) (keyA a) v = keysG l F b ++ [(keyA a, v)]
  | [], _, _ => ⟨rfl, rfl⟩
  | p :: F, b, h => by
    have hne : ¬ keyA a = keyA (l.getD p default) := fun e => by
      have := h p (by simp)
      rw [keyA_iff.1 e] at this; cases this
    have ih := keysG_none (l := l) (a := a) (v := v) (F := F) (b := b + 1) (fun q hq => h q (by simp [hq]))
    rw [keysG, mget, mput, if_neg hne, if_neg hne, ih.1, ih.2]
    exact ⟨rfl, rfl⟩
theorem keysG_some {l : List Arc} {a : Arc} {p : Nat} (hp : likeA (l.getD p default) a = true) : ∀ {F : List Nat} {b i : Nat}, F[i]? = some p → (∀ j q, j < i → F[j]? = some q → likeA (l.getD q default) a = false) → mget (keysG l F b) (keyA a) = some ((b + i : Nat) : Int)
  | [], _, i, h, _ => by simp at h
  | q :: F, b, 0, h, _ => by
    simp at h
    subst h
    rw [keysG, mget, if_pos (keyA_iff.2 hp)]; rfl
  | q :: F, b, i + 1, h, h0 => by
    have hne : ¬ keyA a = keyA (l.getD q default) := fun e => by
      have := h0 0 q (by omega) rfl
      rw [keyA_iff.1 e] at this; cases this
    rw [keysG, mget, if_neg hne, keysG_some hp (by simpa using h) (fun j r hj hr => h0 (j + 1) r (by omega) (by simpa using hr))]
    congr 2; omega
theorem keysG_snoc (l : List Arc) (p : Nat) : ∀ (F : List Nat) (b : Nat), keysG l (F ++ [p]) b = keysG l F b ++ [(keyA (l.getD p default), ((b + F.length : Nat) : Int))]
  | [], b => by simp [keysG]
  | q :: F, b => by
    rw [List.cons_append, keysG, keysG, keysG_snoc l p F (b + 1), List.length_cons, List.cons_append]
    congr 4; omega
theorem groups_first {l : List Arc} {k : Nat} (h : firstK l k = true) : mget (keysM l k) (keyA (l.getD k default)) = none ∧ mput (keysM l k) (keyA (l.getD k default)) ((groupsTo l k).length : Int) = keysM l (k + 1) ∧ groupsTo l (k + 1) = groupsTo l k ++ [[(k : Int)]] := by
  have hno : ∀ p ∈ firsts l k, likeA (l.getD p default) (l.getD k default) = false := fun p hp => by
    have h1 := firstK_iff.1 h p (firsts_mem.1 hp).1
    cases h2 : likeA (l.getD p default) (l.getD k default) with
    | false => rfl
    | true => rw [likeA_symm h2] at h1; cases h1
  have e := keysG_none (b := 0) (v := ((groupsTo l k).length : Int)) hno
  have hs : firsts l (k + 1) = firsts l k ++ [k] := by rw [firsts_succ, h]; rfl
  refine ⟨e.1, ?_, ?_⟩
  · unfold keysM
    rw [e.2, hs, keysG_snoc, groupsTo_len, Nat.zero_add]
  · rw [groupsTo_eq, groupsTo_eq, hs, List.map_append]
    congr 1
    · refine List.map_congr_left fun p hp => ?_
      rw [memsK_succ, if_neg (fun h2 => by have := hno p hp; rw [h2.2] at this; cases this), List.append_nil]
    · rw [List.map_cons, List.map_nil, memsK_self]
theorem groups_next {l : List Arc} {k : Nat} (h : firstK l k = false) : ∃ (i p : Nat), (firsts l k)[i]? = some p ∧ mget (keysM l k) (keyA (l.getD k default)) = some (i : Int) ∧ (groupsTo l k)[i]? = some (memsK l p k) ∧ keysM l (k + 1) = keysM l k ∧ groupsTo l (k + 1) = (groupsTo l k).set i (memsK l p k ++ [(k : Int)]) := by
  obtain ⟨p, h1, h2, h3⟩ := exists_first l k k (Nat.le_refl _)
  have hlt : p < k := by
    rcases Nat.lt_or_ge p k with h4 | h4
    · exact h4
    · have : p = k := by omega
      subst this; rw [h] at h2; cases h2
  have hm : p ∈ firsts l k := firsts_mem.2 ⟨hlt, h2⟩
  obtain ⟨i, hi⟩ := List.mem_iff_getElem?.1 hm
  have huniq : ∀ q ∈ firsts l k, likeA (l.getD q default) (l.getD k default) = true → q = p := fun q hq hl => first_unique (firsts_mem.1 hq).2 h2 hl h3
  have hnd := firsts_nodup l k
  have hinj : ∀ j q, (firsts l k)[j]? = some q → q = p → j = i := fun j q hj hq => by
    subst hq
    obtain ⟨a1, a2⟩ := List.getElem?_eq_some_iff.1 hj
    obtain ⟨b1, b2⟩ := List.getElem?_eq_some_iff.1 hi
    exact (List.getElem_inj (xs := firsts l k) hnd).1 (a2.trans b2.symm)
  have hs : firsts l (k + 1) = firsts l k := by rw [firsts_succ, h]; simp
  refine ⟨i, p, hi, ?_, ?_, by unfold keysM; rw [hs], ?_⟩
  · have := keysG_some (b := 0) h3 hi (fun j q hj hq => by
      cases h4 : likeA (l.getD q default) (l.getD k default) with
      | false => rfl
      | true =>
        have := hinj j q hq (huniq q (List.mem_of_getElem? hq) h4)
        omega)
    rw [Nat.zero_add] at this
    exact this
  · rw [groupsTo_eq, List.getElem?_map, hi]; rfl
  · rw [groupsTo_eq, groupsTo_eq, hs]
    apply List.ext_getElem?
    intro j
    rw [List.getElem?_set, List.getElem?_map, List.getElem?_map]
    by_cases hj : i = j
    · subst hj
      rw [if_pos rfl, hi]
      simp only [Option.map_some, List.length_map, get_lt hi, if_true]
      rw [memsK_succ, if_pos ⟨by omega, h3⟩]
    · rw [if_neg hj]
      cases hq : (firsts l k)[j]? with
      | none => rfl
      | some q =>
        simp only [Option.map_some]
        rw [memsK_succ, if_neg, List.append_nil]
        intro h4
        exact hj (hinj j q hq (huniq q (List.mem_of_getElem? hq) h4.2)).symm
theorem memsK_len (l : List Arc) (k m : Nat) : (memsK l k m).length ≤ m := by
  unfold memsK
  rw [List.length_map]
  exact Nat.le_trans (List.length_filter_le _ _) (by simp)
theorem firsts_len (l : List Arc) (m : Nat) : (firsts l m).length ≤ m := by
  unfold firsts
  exact Nat.le_trans (List.length_filter_le _ _) (by simp)
def lowM (l : List Arc) (ms : List Int) : Int := gsum (fun j => (l.getD j default).low) ms
def capN (l : List Arc) (ms : List Int) : Int := gsum (fun j => (l.getD j default).cap) ms
def capI (l : List Arc) (ms : List Int) : Bool := ms.any fun j => decide ((l.getD j.toNat default).cap = inf)
def capM (l : List Arc) (ms : List Int) : Int := if capI l ms then inf else capN l ms
def mergedA (l : List Arc) (k : Nat) : Arc := { l.getD k default with low := lowM l (memsK l k l.length), cap := capM l (memsK l k l.length) }
def wA (l : List Arc) (t : Nat) : List Arc := (List.range l.length).map fun j => if j ∈ (firsts l l.length).take t then mergedA l j else l.getD j default
def outB (l : List Arc) (t : Nat) : List Bool := (List.range l.length).map fun j => ((firsts l l.length).take t).any fun p => decide (p < j) && likeA (l.getD p default) (l.getD j default)
def grp (l : List Arc) (t : Nat) : List Int := (groupsF l).getD t []
def outC (l : List Arc) (t j : Nat) : List Bool := (List.range l.length).map fun m => (outB l t).getD m false || decide ((m : Int) ∈ ((grp l t).drop 1).take j)
def didB (l : List Arc) (t : Nat) : Bool := ((groupsF l).take t).any fun ms => decide (1 < ms.length)
def twinI (I : Inst) : Inst := withoutF ⟨I.sup, wA I.arcs (firsts I.arcs I.arcs.length).length⟩ [] (outB I.arcs (firsts I.arcs I.arcs.length).length)
def twinS (I : Inst) : StepD × Int := if rightF I ≠ 0 then (StepD.none, rightF I) else doneF 5 I (twinI I) ⟨0, 0⟩ (decide ((firsts I.arcs I.arcs.length).length < I.arcs.length))
theorem memsK_mem {l : List Arc} {k m : Nat} {x : Int} : x ∈ memsK l k m ↔ ∃ j : Nat, x = (j : Int) ∧ j < m ∧ k ≤ j ∧ likeA (l.getD k default) (l.getD j default) = true := by
  unfold memsK
  rw [List.mem_map]
  constructor
  · rintro ⟨j, hj, rfl⟩
    rw [List.mem_filter, List.mem_range, Bool.and_eq_true, decide_eq_true_eq] at hj
    exact ⟨j, rfl, hj.1, hj.2.1, hj.2.2⟩
  · rintro ⟨j, rfl, h1, h2, h3⟩
    exact ⟨j, by rw [List.mem_filter, List.mem_range, Bool.and_eq_true, decide_eq_true_eq]; exact ⟨h1, h2, h3⟩, rfl⟩
theorem memsK_nodup (l : List Arc) (k m : Nat) : (memsK l k m).Nodup := by
  unfold memsK
  exact List.Pairwise.map Int.ofNat (fun a b h e => h (by have e' : (a : Int) = (b : Int) := e; omega)) (List.Pairwise.filter _ List.nodup_range)
theorem memsK_head (l : List Arc) (k : Nat) : ∀ m, k < m → ∃ r, memsK l k m = (k : Int) :: r
  | 0, h => by omega
  | m + 1, h => by
    rw [memsK_succ]
    by_cases e : k = m
    · subst e
      rw [memsK_none l k k (Nat.le_refl _), if_pos ⟨Nat.le_refl _, likeA_refl _⟩]
      exact ⟨[], rfl⟩
    · obtain ⟨r, hr⟩ := memsK_head l k m (by omega)
      rw [hr]
      exact ⟨_, rfl⟩
theorem grp_at {l : List Arc} {t : Nat} (h : t < (groupsF l).length) : ∃ p : Nat, (firsts l l.length)[t]? = some p ∧ p < l.length ∧ firstK l p = true ∧ grp l t = memsK l p l.length ∧ (∃ r, grp l t = (p : Int) :: r) := by
  have hl : (groupsF l).length = (firsts l l.length).length := groupsTo_len _ _
  obtain ⟨p, hp⟩ : ∃ p, (firsts l l.length)[t]? = some p := ⟨_, List.getElem?_eq_getElem (by omega)⟩
  obtain ⟨h1, h2⟩ := firsts_mem.1 (List.mem_of_getElem? hp)
  have e : grp l t = memsK l p l.length := by
    unfold grp groupsF
    rw [groupsTo_eq, List.getD_eq_getElem?_getD, List.getElem?_map, hp]; rfl
  refine ⟨p, hp, h1, h2, e, ?_⟩
  rw [e]; exact memsK_head l p l.length h1
theorem gsum_snoc (f : Nat → Int) (ms : List Int) (x : Int) : gsum f (ms ++ [x]) = gsum f ms + f x.toNat := by unfold gsum; rw [List.map_append, List.sum_append]; simp
theorem capI_snoc (l : List Arc) (ms : List Int) (x : Int) : capI l (ms ++ [x]) = (capI l ms || decide ((l.getD x.toNat default).cap = inf)) := by unfold capI; rw [List.any_append]; simp
theorem drop_one_get {α : Type} {l : List α} {j : Nat} {x : α} (h : (l.drop 1)[j]? = some x) : l.take (j + 2) = l.take (j + 1) ++ [x] := by
  rw [List.getElem?_drop] at h
  exact take_get (by rw [show j + 1 = 1 + j by omega]; exact h)
theorem wA_len (l : List Arc) (t : Nat) : (wA l t).length = l.length := by simp [wA]
theorem outB_len (l : List Arc) (t : Nat) : (outB l t).length = l.length := by simp [outB]
theorem outC_len (l : List Arc) (t j : Nat) : (outC l t j).length = l.length := by simp [outC]
theorem wA_zero (l : List Arc) : l = wA l 0 := by
  unfold wA
  simp only [List.take_zero, List.not_mem_nil, if_false]
  exact (map_getD_range l default).symm
theorem outB_zero (l : List Arc) : List.replicate l.length false = outB l 0 := by
  unfold outB
  simp only [List.take_zero, List.any_nil]
  apply List.ext_getElem?
  intro i
  by_cases hi : i < l.length <;> simp [hi]
theorem didB_zero (l : List Arc) : didB l 0 = false := by simp [didB]
theorem didB_succ {l : List Arc} {t : Nat} (h : t < (groupsF l).length) : didB l (t + 1) = (didB l t || decide (1 < (grp l t).length)) := by
  have hg : (groupsF l)[t]? = some (grp l t) := by unfold grp; rw [List.getD_eq_getElem?_getD, List.getElem?_eq_getElem h]; rfl
  unfold didB
  rw [take_get hg, List.any_append]; simp
theorem firsts_not_take {l : List Arc} {t p : Nat} (h : (firsts l l.length)[t]? = some p) : p ∉ (firsts l l.length).take t := fun hm => by
  obtain ⟨j, hj⟩ := List.mem_iff_getElem?.1 hm
  have hjt : j < t := by have := get_lt hj; rw [List.length_take] at this; omega
  rw [List.getElem?_take, if_pos hjt] at hj
  obtain ⟨a1, a2⟩ := List.getElem?_eq_some_iff.1 hj
  obtain ⟨b1, b2⟩ := List.getElem?_eq_some_iff.1 h
  have := (List.getElem_inj (xs := firsts l l.length) (firsts_nodup _ _)).1 (a2.trans b2.symm)
  omega
theorem wA_at {l : List Arc} {t p : Nat} (h : (firsts l l.length)[t]? = some p) (hp : p < l.length) : (wA l t)[p]? = some (l.getD p default) := by
  unfold wA
  rw [List.getElem?_map, List.getElem?_range hp]
  simp only [Option.map_some]
  rw [if_neg (firsts_not_take h)]
theorem wA_succ {l : List Arc} {t p : Nat} (h : (firsts l l.length)[t]? = some p) : (wA l t).set p (mergedA l p) = wA l (t + 1) := by
  unfold wA
  rw [map_range_set]
  refine List.map_congr_left fun j hj => ?_
  rw [take_get h]
  by_cases e : j = p
  · subst e; rw [if_pos rfl, if_pos (by simp)]
  · rw [if_neg e]
    simp only [List.mem_append, List.mem_singleton, e, or_false]
theorem outC_zero (l : List Arc) (t : Nat) : outB l t = outC l t 0 := by
  unfold outC
  simp only [List.take_zero, List.not_mem_nil, decide_false, Bool.or_false]
  apply List.ext_getElem?
  intro i
  by_cases hi : i < l.length
  · rw [List.getElem?_map, List.getElem?_range hi]
    have : i < (outB l t).length := by rw [outB_len]; exact hi
    rw [List.getElem?_eq_getElem this]
    simp [List.getD_eq_getElem?_getD, this]
  · rw [List.getElem?_eq_none (by rw [outB_len]; omega), List.getElem?_eq_none (by simp; omega)]
theorem outC_succ {l : List Arc} {t j : Nat} {x : Int} (h : ((grp l t).drop 1)[j]? = some x) (hx : 0 ≤ x) : (outC l t j).set x.toNat true = outC l t (j + 1) := by
  unfold outC
  rw [map_range_set]
  refine List.map_congr_left fun m hm => ?_
  rw [take_get h]
  by_cases e : m = x.toNat
  · rw [if_pos e]
    have : (m : Int) ∈ ((grp l t).drop 1).take j ++ [x] := by rw [List.mem_append, List.mem_singleton]; right; omega
    rw [decide_eq_true this, Bool.or_true]
  · rw [if_neg e]
    have : ((m : Int) ∈ ((grp l t).drop 1).take j ++ [x]) ↔ (m : Int) ∈ ((grp l t).drop 1).take j := by
      rw [List.mem_append, List.mem_singleton]
      constructor
      · rintro (h1 | h1)
        · exact h1
        · omega
      · exact .inl
    simp only [this]
theorem outC_end {l : List Arc} {t j : Nat} (ht : t < (groupsF l).length) (hj : ((grp l t).drop 1).length ≤ j) : outC l t j = outB l (t + 1) := by
  obtain ⟨p, hp, hpl, hf, e, r, hr⟩ := grp_at ht
  unfold outC
  rw [List.take_of_length_le hj]
  have hd : (grp l t).drop 1 = r := by rw [hr]; rfl
  rw [hd]
  unfold outB
  refine List.map_congr_left fun m hm => ?_
  have hml : m < l.length := List.mem_range.1 hm
  have e1 : ((List.range l.length).map fun j => ((firsts l l.length).take t).any fun p => decide (p < j) && likeA (l.getD p default) (l.getD j default)).getD m false = ((firsts l l.length).take t).any fun p => decide (p < m) && likeA (l.getD p default) (l.getD m default) := by
    rw [List.getD_eq_getElem?_getD, List.getElem?_map, List.getElem?_range hml]; rfl
  rw [e1, take_get hp, List.any_append]
  congr 1
  have hnd := memsK_nodup l p l.length
  rw [← e, hr] at hnd
  have hmem : (m : Int) ∈ r ↔ (p < m ∧ likeA (l.getD p default) (l.getD m default) = true) := by
    have h1 : (m : Int) ∈ (p : Int) :: r ↔ ∃ j : Nat, (m : Int) = (j : Int) ∧ j < l.length ∧ p ≤ j ∧ likeA (l.getD p default) (l.getD j default) = true := by rw [← hr, e]; exact memsK_mem
    constructor
    · intro h
      obtain ⟨j, hj1, hj2, hj3, hj4⟩ := h1.1 (List.mem_cons_of_mem _ h)
      have hjm : j = m := by omega
      subst hjm
      refine ⟨?_, hj4⟩
      rcases Nat.lt_or_ge p j with h2 | h2
      · exact h2
      · have : p = j := by omega
        subst this
        exact absurd h (List.nodup_cons.1 hnd).1
    · intro h
      rcases List.mem_cons.1 (h1.2 ⟨m, rfl, hml, by omega, h.2⟩) with h2 | h2
      · omega
      · exact h2
  rw [List.any_cons, List.any_nil, Bool.or_false]
  rw [Bool.eq_iff_iff, decide_eq_true_eq, hmem, Bool.and_eq_true, decide_eq_true_eq]
theorem gsum_one (ms : List Int) : gsum (fun _ => 1) ms = ms.length := by
  unfold gsum
  induction ms with
  | nil => rfl
  | cons a ms ih => rw [List.map_cons, List.sum_cons, ih, List.length_cons]; dsimp only; omega
theorem any_more : ∀ (G : List (List Int)), (∀ ms ∈ G, 1 ≤ ms.length) → (G.length : Int) ≤ (G.map (gsum fun _ => 1)).sum ∧ (G.any (fun ms => decide (1 < ms.length)) = decide ((G.length : Int) < (G.map (gsum fun _ => 1)).sum))
  | [], _ => by simp
  | ms :: G, h => by
    have ih := any_more G (fun m hm => h m (by simp [hm]))
    have h1 := h ms (by simp)
    rw [List.map_cons, List.sum_cons, List.any_cons, ih.2, gsum_one, List.length_cons]
    refine ⟨by omega, ?_⟩
    rw [Bool.eq_iff_iff, Bool.or_eq_true, decide_eq_true_eq, decide_eq_true_eq, decide_eq_true_eq]
    omega
theorem sumTo_one' : ∀ n, sumTo (fun _ => 1) n = n
  | 0 => rfl
  | n + 1 => by rw [sumTo, sumTo_one' n]; omega
theorem didB_end (l : List Arc) : didB l (groupsF l).length = decide ((firsts l l.length).length < l.length) := by
  have h1 : ∀ ms ∈ groupsF l, 1 ≤ ms.length := fun ms hm => by
    obtain ⟨t, ht⟩ := List.mem_iff_getElem?.1 hm
    obtain ⟨p, -, -, -, -, r, hr⟩ := grp_at (get_lt ht)
    have : grp l t = ms := by unfold grp; rw [List.getD_eq_getElem?_getD, ht]; rfl
    rw [this] at hr
    rw [hr]; simp
  have h2 := (any_more _ h1).2
  have h3 := groups_sum l (fun _ => 1) l.length
  unfold didB
  rw [List.take_length, h2]
  have h4 : ((groupsF l).map (gsum fun _ => 1)).sum = (l.length : Int) := by rw [← sumTo_one' l.length]; exact h3
  rw [h4, groupsF, groupsTo_len]
  rw [Bool.eq_iff_iff, decide_eq_true_eq, decide_eq_true_eq]
  omega
theorem gsum_bd {f : Nat → Int} {B : Int} : ∀ {ms : List Int}, (∀ x ∈ ms, 0 ≤ f x.toNat ∧ f x.toNat ≤ B) → 0 ≤ gsum f ms ∧ gsum f ms ≤ B * ms.length
  | [], _ => by simp [gsum]
  | x :: ms, h => by
    have ih := gsum_bd (f := f) (B := B) (ms := ms) (fun y hy => h y (by simp [hy]))
    have h1 := h x (by simp)
    have e : gsum f (x :: ms) = f x.toNat + gsum f ms := rfl
    rw [e, List.length_cons]
    push_cast
    rw [Int.mul_add, Int.mul_one]
    omega
theorem grp_arc {I : Inst} (hr : rightF I = 0) {t : Nat} (ht : t < (groupsF I.arcs).length) {x : Int} (hx : x ∈ grp I.arcs t) : 0 ≤ x ∧ x < I.arcs.length ∧ ∃ a, I.arcs[x.toNat]? = some a ∧ a ∈ I.arcs := by
  obtain ⟨p, hp, hpl, hf, e, r, hr'⟩ := grp_at ht
  rw [e] at hx
  obtain ⟨j, rfl, h1, h2, h3⟩ := memsK_mem.1 hx
  obtain ⟨a, ha⟩ : ∃ a, I.arcs[j]? = some a := ⟨_, List.getElem?_eq_getElem h1⟩
  exact ⟨by omega, by omega, a, by simpa using ha, List.mem_of_getElem? ha⟩
theorem grp_len {I : Inst} (hr : rightF I = 0) {t : Nat} (ht : t < (groupsF I.arcs).length) : (grp I.arcs t).length ≤ 256 := by
  obtain ⟨p, hp, hpl, hf, e, r, hr'⟩ := grp_at ht
  have := memsK_len I.arcs p I.arcs.length
  have := right_small hr
  rw [e]; omega
theorem lowM_bd {I : Inst} (hr : rightF I = 0) {t : Nat} (ht : t < (groupsF I.arcs).length) (j : Nat) : 0 ≤ lowM I.arcs ((grp I.arcs t).take j) ∧ lowM I.arcs ((grp I.arcs t).take j) ≤ 1125899906842624 := by
  have hl := grp_len hr ht
  have h := gsum_bd (f := fun j => (I.arcs.getD j default).low) (B := 4398046511104) (ms := (grp I.arcs t).take j) (fun x hx => by
    obtain ⟨h0, h1, a, ha, hm⟩ := grp_arc hr ht (List.mem_of_mem_take hx)
    have := rightF_arc hr hm
    rw [show I.arcs.getD x.toNat default = a by rw [List.getD_eq_getElem?_getD, ha]; rfl]
    omega)
  have hl2 : ((grp I.arcs t).take j).length ≤ 256 := by rw [List.length_take]; omega
  unfold lowM
  have : (4398046511104 : Int) * (((grp I.arcs t).take j).length : Int) ≤ 4398046511104 * 256 := Int.mul_le_mul_of_nonneg_left (by omega) (by omega)
  omega
theorem capN_bd {I : Inst} (hr : rightF I = 0) {t : Nat} (ht : t < (groupsF I.arcs).length) (j : Nat) (hi : capI I.arcs ((grp I.arcs t).take j) = false) : 0 ≤ capN I.arcs ((grp I.arcs t).take j) ∧ capN I.arcs ((grp I.arcs t).take j) ≤ 1125899906842624 := by
  have hl := grp_len hr ht
  have h := gsum_bd (f := fun j => (I.arcs.getD j default).cap) (B := 4398046511104) (ms := (grp I.arcs t).take j) (fun x hx => by
    obtain ⟨h0, h1, a, ha, hm⟩ := grp_arc hr ht (List.mem_of_mem_take hx)
    have hb := rightF_arc hr hm
    have hda : I.arcs.getD x.toNat default = a := by rw [List.getD_eq_getElem?_getD, ha]; rfl
    have hc := List.any_eq_false.1 hi x hx
    rw [hda] at hc ⊢
    have hc : ¬ a.cap = inf := by simpa using hc
    unfold inf at hc
    omega)
  have hl2 : ((grp I.arcs t).take j).length ≤ 256 := by rw [List.length_take]; omega
  unfold capN
  have : (4398046511104 : Int) * (((grp I.arcs t).take j).length : Int) ≤ 4398046511104 * 256 := Int.mul_le_mul_of_nonneg_left (by omega) (by omega)
  omega
end Go.Ql
