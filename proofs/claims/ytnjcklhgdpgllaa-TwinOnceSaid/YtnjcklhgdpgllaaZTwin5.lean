/- Part of the proof, Twin5. -/
import Derived.Test.YtnjcklhgdpgllaaZTwin4
set_option linter.all false
set_option linter.unusedSimpArgs false
set_option linter.unusedVariables false
namespace Go.Ql
open Go Go.Vc
def roomN (I : Inst) (ms : List Int) : Int := (ms.map fun j => (arcAt I j).cap - (arcAt I j).low).sum
def lowN (I : Inst) (ms : List Int) : Int := (ms.map fun j => (arcAt I j).low).sum
def infN (I : Inst) (ms : List Int) : Bool := ms.any fun j => decide ((arcAt I j).cap = inf)
def NiceAt (I : Inst) (ms : List Int) : Prop := ∀ j ∈ ms, isArcF I j = true ∧ 0 ≤ (arcAt I j).low ∧ (arcAt I j).low ≤ 2 ∧ (arcAt I j).low ≤ (arcAt I j).cap ∧ ((arcAt I j).cap ≤ 7 ∨ (arcAt I j).cap = inf)
theorem lowN_bd {I : Inst} : ∀ {ms : List Int}, NiceAt I ms → 0 ≤ lowN I ms ∧ lowN I ms ≤ 2 * ms.length
  | [], _ => ⟨by simp [lowN], by simp [lowN]⟩
  | j :: ms, h => by
    have ih := lowN_bd (I := I) (ms := ms) (fun x hx => h x (by simp [hx]))
    obtain ⟨h1, h2, h3, h4, h5⟩ := h j (by simp)
    unfold lowN at ih ⊢
    rw [List.map_cons, List.sum_cons, List.length_cons]
    omega
theorem roomN_pos {I : Inst} : ∀ {ms : List Int}, NiceAt I ms → 0 ≤ roomN I ms
  | [], _ => by simp [roomN]
  | j :: ms, h => by
    have ih := roomN_pos (I := I) (ms := ms) (fun x hx => h x (by simp [hx]))
    obtain ⟨h1, h2, h3, h4, h5⟩ := h j (by simp)
    unfold roomN at ih ⊢
    rw [List.map_cons, List.sum_cons]
    omega
theorem subAll_some {I : Inst} : ∀ {ms : List Int} {s : Int}, NiceAt I ms → -1000000 ≤ s - lowN I ms → s ≤ 1000000 → subAll I ms s = some (s - lowN I ms)
  | [], s, _, _, _ => by simp [subAll, lowN]
  | j :: ms, s, h, h1, h2 => by
    have hm : NiceAt I ms := fun x hx => h x (by simp [hx])
    have hb := lowN_bd hm
    obtain ⟨a1, a2, a3, a4, a5⟩ := h j (by simp)
    have e : lowN I (j :: ms) = (arcAt I j).low + lowN I ms := by simp [lowN]
    rw [e] at h1 ⊢
    rw [subAll, if_pos a1, if_pos (by unfold I64; omega), subAll_some hm (by omega) (by omega)]
    congr 1; omega
theorem fitF_iff {a : Arc} {x : Int} : fitF a x = true ↔ a.low ≤ x ∧ (a.cap = inf ∨ x ≤ a.cap) := by simp [fitF]
theorem spreadGo_some {I : Inst} : ∀ (j : Int) (ms : List Int) (left : Int) (out : List Int), NiceAt I (j :: ms) → -1000000 ≤ left → left ≤ 1000000 →
    ∃ x, spreadGo I (j :: ms) left out = some (out ++ x) ∧ x.length = (j :: ms).length ∧ x.sum = lowN I (j :: ms) + left ∧ (∀ y ∈ x, -1000002 ≤ y ∧ y ≤ 1000002) ∧
      (fitsAll ((j :: ms).map (arcAt I)) x = true ↔ 0 ≤ left ∧ (infN I (j :: ms) = true ∨ left ≤ roomN I (j :: ms)))
  | j, [], left, out, h, h1, h2 => by
    obtain ⟨a1, a2, a3, a4, a5⟩ := h j (by simp)
    refine ⟨[(arcAt I j).low + left], ?_, rfl, by simp [lowN], ?_, ?_⟩
    · have e : giveT (arcAt I j) left ([] : List Int).isEmpty = left := rfl
      rw [spreadGo, e, if_pos (by unfold I64; omega), spreadGo]
    · intro y hy; rw [List.mem_singleton] at hy; subst hy; omega
    · have e1 : fitsAll ([j].map (arcAt I)) [(arcAt I j).low + left] = fitF (arcAt I j) ((arcAt I j).low + left) := by
        show (fitF (arcAt I j) ((arcAt I j).low + left) && true) = _
        exact Bool.and_true _
      have e2 : infN I [j] = true ↔ (arcAt I j).cap = inf := by simp [infN]
      have e3 : roomN I [j] = (arcAt I j).cap - (arcAt I j).low := by simp [roomN]
      rw [e1, fitF_iff, e2, e3]
      constructor
      · rintro ⟨h3, h4⟩; exact ⟨by omega, h4.imp id (by omega)⟩
      · rintro ⟨h3, h4⟩; exact ⟨by omega, h4.imp id (by omega)⟩
  | j, j2 :: ms, left, out, h, h1, h2 => by
    have hm : NiceAt I (j2 :: ms) := fun x hx => h x (by rw [List.mem_cons]; exact .inr hx)
    obtain ⟨a1, a2, a3, a4, a5⟩ := h j (by simp)
    have hrp := roomN_pos hm
    have hg : ∃ t, giveT (arcAt I j) left (j2 :: ms).isEmpty = t ∧ 0 ≤ t ∧ (t ≤ left ∨ left ≤ 0 ∧ t = 0) ∧ (left ≤ 0 → t = 0) ∧ (0 < left → (arcAt I j).cap = inf → t = left) ∧ (0 < left → ¬ (arcAt I j).cap = inf → t = min ((arcAt I j).cap - (arcAt I j).low) left) := by
      refine ⟨_, rfl, ?_⟩
      unfold giveT
      rw [if_neg (by simp)]
      split
      · rename_i hl; exact ⟨by omega, by omega, fun _ => rfl, fun h => by omega, fun h => by omega⟩
      · split
        · rename_i hl hc; exact ⟨by omega, by omega, fun h => by omega, fun _ _ => rfl, fun _ h => absurd hc h⟩
        · rename_i hl hc; exact ⟨by omega, by omega, fun h => by omega, fun _ h => absurd h hc, fun _ _ => rfl⟩
    obtain ⟨t, ht, t0, t1, t2, t3, t4⟩ := hg
    obtain ⟨x, e1, e2, e3, e4, e5⟩ := spreadGo_some j2 ms (left - t) (out ++ [(arcAt I j).low + t]) hm (by omega) (by omega)
    refine ⟨((arcAt I j).low + t) :: x, ?_, by simp [e2], ?_, ?_, ?_⟩
    · rw [spreadGo, ht, if_pos (by unfold I64; omega), e1]; simp
    · have : lowN I (j :: j2 :: ms) = (arcAt I j).low + lowN I (j2 :: ms) := by simp [lowN]
      rw [List.sum_cons, e3, this]; omega
    · intro y hy
      rcases List.mem_cons.1 hy with rfl | hy
      · omega
      · exact e4 y hy
    · have r1 : roomN I (j :: j2 :: ms) = (arcAt I j).cap - (arcAt I j).low + roomN I (j2 :: ms) := by simp [roomN]
      have r2 : infN I (j :: j2 :: ms) = (decide ((arcAt I j).cap = inf) || infN I (j2 :: ms)) := by simp [infN]
      rw [List.map_cons, fitsAll, List.headD_cons, List.tail_cons, Bool.and_eq_true, e5, r1, r2, fitF_iff]
      simp only [Bool.or_eq_true, decide_eq_true_eq]
      by_cases hl : left ≤ 0
      · have := t2 hl
        subst this
        constructor
        · rintro ⟨_, h3, h4⟩; exact ⟨by omega, h4.imp .inr (by omega)⟩
        · rintro ⟨h3, h4⟩
          have : left = 0 := by omega
          subst this
          exact ⟨by omega, by omega, .inr (by omega)⟩
      · by_cases hc : (arcAt I j).cap = inf
        · have := t3 (by omega) hc
          subst this
          exact ⟨fun _ => ⟨by omega, .inl (.inl hc)⟩, fun _ => ⟨⟨by omega, .inl hc⟩, by omega, .inr (by omega)⟩⟩
        · have := t4 (by omega) hc
          constructor
          · rintro ⟨_, h3, h4⟩
            refine ⟨by omega, ?_⟩
            rcases h4 with h4 | h4
            · exact .inl (.inr h4)
            · exact .inr (by omega)
          · rintro ⟨h3, h4⟩
            refine ⟨⟨by omega, .inr (by omega)⟩, by omega, ?_⟩
            rcases h4 with (h4 | h4) | h4
            · exact absurd h4 hc
            · exact .inl h4
            · exact .inr (by omega)
theorem spreadF_some {I : Inst} {ms : List Int} {n : Int} (h : NiceAt I ms) (h0 : ms ≠ []) (hl : ms.length ≤ 100) (h1 : -100000 ≤ n) (h2 : n ≤ 100000) :
    ∃ x, spreadF I ms n = some x ∧ x.length = ms.length ∧ x.sum = n ∧ (∀ y ∈ x, -1000002 ≤ y ∧ y ≤ 1000002) ∧
      (fitsAll (ms.map (arcAt I)) x = true ↔ lowN I ms ≤ n ∧ (infN I ms = true ∨ n ≤ lowN I ms + roomN I ms)) := by
  have hb := lowN_bd h
  cases ms with
  | nil => exact absurd rfl h0
  | cons j ms =>
    obtain ⟨x, e1, e2, e3, e4, e5⟩ := spreadGo_some j ms (n - lowN I (j :: ms)) [] h (by omega) (by omega)
    refine ⟨x, ?_, e2, by omega, e4, ?_⟩
    · unfold spreadF
      rw [if_neg h0, subAll_some h (by omega) (by omega), Option.bind_some, e1, List.nil_append]
    · rw [e5]
      constructor
      · rintro ⟨h3, h4⟩; exact ⟨by omega, h4.imp id (by omega)⟩
      · rintro ⟨h3, h4⟩; exact ⟨by omega, h4.imp id (by omega)⟩
theorem grp_nice {I : Inst} (hn : ∀ a ∈ I.arcs, a.Nice I.sup.length) (k : Nat) : NiceAt I (memsK I.arcs k I.arcs.length) := fun j hj => by
  obtain ⟨h0, h1, -⟩ := mem_like hj
  have h := hn _ (getD_mem h1)
  exact ⟨isArcF_iff.2 ⟨h0, by omega⟩, h.l0, h.l1, h.c0, h.c1⟩
theorem roomN_eq (I : Inst) : ∀ ms : List Int, lowN I ms + roomN I ms = capN I.arcs ms
  | [] => rfl
  | j :: ms => by
    have ih := roomN_eq I ms
    have e1 : lowN I (j :: ms) = (arcAt I j).low + lowN I ms := by simp [lowN]
    have e2 : roomN I (j :: ms) = (arcAt I j).cap - (arcAt I j).low + roomN I ms := by simp [roomN]
    have e3 : capN I.arcs (j :: ms) = (arcAt I j).cap + capN I.arcs ms := by simp [capN, gsum, arcAt]
    omega
theorem all_congr' {α : Type} {p q : α → Bool} : ∀ {l : List α}, (∀ a ∈ l, p a = q a) → l.all p = l.all q
  | [], _ => rfl
  | a :: l, h => by rw [List.all_cons, List.all_cons, h a (by simp), all_congr' (l := l) (fun b hb => h b (by simp [hb]))]
theorem fitsAll_range (l : List Arc) (z : List Int) : fitsAll l z = (List.range l.length).all fun j => fitF (l.getD j default) (z.getD j 0) := by
  rw [Bool.eq_iff_iff, fitsAll_iff, List.all_eq_true]
  constructor
  · intro h j hj
    exact h j _ (by rw [List.getD_eq_getElem?_getD, List.getElem?_eq_getElem (List.mem_range.1 hj)]; rfl)
  · intro h j a ha
    have := h j (List.mem_range.2 (List.getElem?_eq_some_iff.1 ha).1)
    rw [List.getD_eq_getElem?_getD, ha] at this
    exact this
def fitT (I : Inst) (l x : List Int) (j : Nat) : Bool := (List.range j).all fun i => fitF (arcAt I (l.getD i 0)) (x.getD i 0)
def lowT (I : Inst) (l : List Int) (j : Nat) : Int := sumTo (fun i => (arcAt I (l.getD i 0)).low) j
def topT (I : Inst) (l : List Int) (j : Nat) : Int := sumTo (fun i => if (arcAt I (l.getD i 0)).cap = inf then 0 else (arcAt I (l.getD i 0)).cap) j
def infT (I : Inst) (l : List Int) (j : Nat) : Bool := (List.range j).any fun i => decide ((arcAt I (l.getD i 0)).cap = inf)
theorem fitT_succ (I : Inst) (l x : List Int) (j : Nat) : fitT I l x (j + 1) = (fitT I l x j && fitF (arcAt I (l.getD j 0)) (x.getD j 0)) := by unfold fitT; rw [List.range_succ, List.all_append]; simp
theorem infT_succ (I : Inst) (l : List Int) (j : Nat) : infT I l (j + 1) = (infT I l j || decide ((arcAt I (l.getD j 0)).cap = inf)) := by unfold infT; rw [List.range_succ, List.any_append]; simp
theorem map_getD_range' (f : Int → Int) (l : List Int) : sumTo (fun i => f (l.getD i 0)) l.length = (l.map f).sum := by
  have e : ((List.range l.length).map fun i => l.getD i 0).map f = (List.range l.length).map fun i => f (l.getD i 0) := List.map_map
  rw [map_getD_range] at e
  rw [e, sum_map_range]
theorem sumT_bd {I : Inst} {l : List Int} (h : NiceAt I l) : ∀ j, j ≤ l.length → (0 ≤ lowT I l j ∧ lowT I l j ≤ 2 * j) ∧ 0 ≤ topT I l j ∧ topT I l j ≤ 7 * j
  | 0, _ => ⟨⟨Int.le_refl _, by simp [lowT, sumTo]⟩, Int.le_refl _, by simp [topT, sumTo]⟩
  | j + 1, hj => by
    obtain ⟨i1, i2⟩ := sumT_bd h j (by omega)
    obtain ⟨a1, a2, a3, a4, a5⟩ := h (l.getD j 0) (by rw [List.getD_eq_getElem?_getD, List.getElem?_eq_getElem (show j < l.length by omega)]; exact List.getElem_mem _)
    have e1 : lowT I l (j + 1) = lowT I l j + (arcAt I (l.getD j 0)).low := rfl
    have e2 : topT I l (j + 1) = topT I l j + (if (arcAt I (l.getD j 0)).cap = inf then 0 else (arcAt I (l.getD j 0)).cap) := rfl
    rw [e1, e2]
    split <;> omega
theorem sums_end {I : Inst} {l x : List Int} {n : Int} (h : NiceAt I l) (h0 : l ≠ []) (hl : l.length ≤ 100) (h1 : -100000 ≤ n) (h2 : n ≤ 100000) (hx : spreadF I l n = some x) :
    x.length = l.length ∧ (∀ y ∈ x, -1000002 ≤ y ∧ y ≤ 1000002) ∧ sumTo (fun i => x.getD i 0) l.length = n ∧ fitT I l x l.length = (decide (lowT I l l.length ≤ n) && (infT I l l.length || decide (n ≤ topT I l l.length))) := by
  obtain ⟨x', e1, e2, e3, e4, e5⟩ := spreadF_some h h0 hl h1 h2
  rw [hx] at e1; cases e1
  have hlow : lowT I l l.length = lowN I l := map_getD_range' (fun j => (arcAt I j).low) l
  have hinf : infT I l l.length = infN I l := by
    unfold infT infN
    have e : (List.range l.length).any ((fun j => decide ((arcAt I j).cap = inf)) ∘ fun i => l.getD i 0) = ((List.range l.length).map fun i => l.getD i 0).any fun j => decide ((arcAt I j).cap = inf) := List.any_map.symm
    rw [map_getD_range] at e
    exact e
  have htop : infN I l = false → topT I l l.length = lowN I l + roomN I l := fun hi => by
    have e : topT I l l.length = (l.map fun j => if (arcAt I j).cap = inf then 0 else (arcAt I j).cap).sum := map_getD_range' (fun j => if (arcAt I j).cap = inf then 0 else (arcAt I j).cap) l
    rw [e, roomN_eq]
    unfold capN gsum
    refine sum_map_congr fun j hj => ?_
    unfold infN at hi
    rw [List.any_eq_false] at hi
    have := hi j hj
    rw [decide_eq_true_eq] at this
    rw [if_neg this]; rfl
  have hfit : fitT I l x l.length = fitsAll (l.map (arcAt I)) x := by
    rw [fitsAll_range, List.length_map]
    unfold fitT
    refine all_congr' fun i hi => ?_
    have hi := List.mem_range.1 hi
    congr 1
    rw [List.getD_eq_getElem?_getD, List.getD_eq_getElem?_getD, List.getElem?_map, List.getElem?_eq_getElem hi]; rfl
  refine ⟨e2, e4, ?_, ?_⟩
  · rw [← e2, ← sum_sumTo, e3]
  · rw [Bool.eq_iff_iff, hfit, e5, hlow, hinf, Bool.and_eq_true, Bool.or_eq_true, decide_eq_true_eq, decide_eq_true_eq]
    cases hi : infN I l with
    | true => simp
    | false => rw [htop hi]
theorem sumTo_bd' {f : Nat → Int} {B : Int} : ∀ {n : Nat}, (∀ i, i < n → -B ≤ f i ∧ f i ≤ B) → -(B * n) ≤ sumTo f n ∧ sumTo f n ≤ B * n
  | 0, _ => by simp [sumTo]
  | n + 1, h => by
    have ih := sumTo_bd' (f := f) (B := B) (n := n) (fun i hi => h i (by omega))
    have := h n (by omega)
    have e : B * ((n + 1 : Nat) : Int) = B * n + B := by rw [Int.natCast_add, Int.mul_add]; simp
    rw [e, sumTo]
    omega
theorem getD_bd {x : List Int} {B : Int} (h : ∀ y ∈ x, -B ≤ y ∧ y ≤ B) {i : Nat} (hi : i < x.length) : -B ≤ x.getD i 0 ∧ x.getD i 0 ≤ B :=
  h _ (by rw [List.getD_eq_getElem?_getD, List.getElem?_eq_getElem hi]; exact List.getElem_mem _)
theorem groups_mem {l : List Arc} {ms : List Int} (h : ms ∈ groupsF l) : ∃ p, p ∈ firsts l l.length ∧ ms = memsK l p l.length ∧ ms ≠ [] ∧ ms.length ≤ l.length := by
  rw [groups_eq] at h
  obtain ⟨p, hp, rfl⟩ := List.mem_map.1 h
  obtain ⟨r, hr⟩ := memsK_head l p _ (firsts_mem.1 hp).1
  exact ⟨p, hp, rfl, by rw [hr]; simp, memsK_len _ _ _⟩
def lensG (G : List (List Int)) (k : Nat) : Int := sumTo (fun i => ((G.getD i []).length : Int)) k
theorem lensG_all (l : List Arc) : lensG (groupsF l) (groupsF l).length = l.length := by
  have h := groups_sum l (fun _ => 1) l.length
  rw [sumTo_one'] at h
  have e : (groupsTo l l.length).map (gsum fun _ => 1) = (groupsF l).map fun ms => (ms.length : Int) := List.map_congr_left fun ms _ => gsum_one ms
  rw [e] at h
  rw [← h]
  unfold lensG
  have e2 : ((List.range (groupsF l).length).map fun i => (groupsF l).getD i []).map (fun ms => (ms.length : Int)) = (List.range (groupsF l).length).map fun i => (((groupsF l).getD i []).length : Int) := List.map_map
  rw [map_getD_range] at e2
  rw [e2, sum_map_range]
theorem lensG_bd {l : List Arc} (hl : l.length ≤ 18) : ∀ k, k ≤ (groupsF l).length → 0 ≤ lensG (groupsF l) k ∧ lensG (groupsF l) k ≤ 18 * k
  | 0, _ => ⟨Int.le_refl _, by simp [lensG, sumTo]⟩
  | k + 1, h => by
    have ih := lensG_bd hl k (by omega)
    have hm : (groupsF l).getD k [] ∈ groupsF l := by rw [List.getD_eq_getElem?_getD, List.getElem?_eq_getElem h]; exact List.getElem_mem _
    obtain ⟨p, h1, h2, h3, h4⟩ := groups_mem hm
    have e : lensG (groupsF l) (k + 1) = lensG (groupsF l) k + ((groupsF l).getD k []).length := rfl
    rw [e]
    omega
theorem groupsF_len (l : List Arc) : (groupsF l).length = (firsts l l.length).length := groupsTo_len l l.length
theorem twin_apart {I : Inst} (hr : rightF I = 0) {a b : Nat} {x y : Arc} (hx : (twinI I).arcs[a]? = some x) (hy : (twinI I).arcs[b]? = some y) (h : b < a) (h1 : x.src = y.src) (h2 : x.dst = y.dst) (h3 : x.cost = y.cost) : False := by
  rw [twinI_eq hr] at hx hy
  dsimp only at hx hy
  rw [List.getElem?_map] at hx hy
  obtain ⟨p, hp, rfl⟩ := Option.map_eq_some_iff.1 hx
  obtain ⟨q, hq, rfl⟩ := Option.map_eq_some_iff.1 hy
  have e : likeA (I.arcs.getD p default) (I.arcs.getD q default) = true := likeA_iff.2 ⟨h1, h2, h3⟩
  have f1 := (firsts_mem.1 (List.mem_of_getElem? hp)).2
  have f2 := (firsts_mem.1 (List.mem_of_getElem? hq)).2
  have : p = q := first_unique f1 f2 (likeA_refl _) (likeA_symm e)
  subst this
  have hnd := firsts_nodup I.arcs I.arcs.length
  obtain ⟨ha, ea⟩ := List.getElem?_eq_some_iff.1 hp
  obtain ⟨hb, eb⟩ := List.getElem?_eq_some_iff.1 hq
  exact absurd (eb.trans ea.symm) (List.pairwise_iff_getElem.1 hnd b a hb ha h)
end Go.Ql
