/- Part of the proof, Twin4. -/
import Derived.Test.YtnjcklhgdpgllaaZTwin3
set_option linter.all false
set_option linter.unusedSimpArgs false
set_option linter.unusedVariables false
namespace Go.Ql
open Go Go.Vc
theorem outB_first {l : List Arc} {j : Nat} (hj : j < l.length) : (outB l (firsts l l.length).length).getD j false = !firstK l j := by
  unfold outB
  rw [List.getD_eq_getElem?_getD, List.getElem?_map, List.getElem?_range hj, Option.map_some, Option.getD_some, List.take_of_length_le (Nat.le_refl _)]
  cases h : firstK l j with
  | true =>
    rw [Bool.not_true, List.any_eq_false]
    intro p hp e
    rw [Bool.and_eq_true, decide_eq_true_eq] at e
    have h2 := firstK_iff.1 h p e.1
    rw [likeA_symm e.2] at h2; cases h2
  | false =>
    rw [Bool.not_false, List.any_eq_true]
    obtain ⟨k, hk, hf, hl⟩ := exists_first l j j (Nat.le_refl _)
    have hne : k ≠ j := fun e => by subst e; rw [h] at hf; cases hf
    exact ⟨k, firsts_mem.2 ⟨by omega, hf⟩, by rw [Bool.and_eq_true, decide_eq_true_eq]; exact ⟨by omega, hl⟩⟩
theorem filter_congr' {α : Type} {p q : α → Bool} : ∀ {l : List α}, (∀ a ∈ l, p a = q a) → l.filter p = l.filter q
  | [], _ => rfl
  | a :: l, h => by rw [List.filter_cons, List.filter_cons, h a (by simp), filter_congr' (l := l) (fun b hb => h b (by simp [hb]))]
theorem kept_first {l : List Arc} (h : l.length ≤ 1000) : keptF (outB l (firsts l l.length).length) l.length = firsts l l.length := by
  unfold keptF firsts
  rw [keptGo_filter, List.range_eq_range']
  refine filter_congr' fun j hj => ?_
  rw [List.mem_range'_1] at hj
  have := outB_first (l := l) (j := j) (by omega)
  unfold firsts at this
  rw [List.range_eq_range'] at this
  rw [this, Bool.not_not]
theorem wA_full {l : List Arc} {j : Nat} (h : j ∈ firsts l l.length) : (wA l (firsts l l.length).length).getD j default = mergedA l j := by
  unfold wA
  rw [List.getD_eq_getElem?_getD, List.getElem?_map, List.getElem?_range (firsts_mem.1 h).1, Option.map_some, Option.getD_some, List.take_of_length_le (Nat.le_refl _), if_pos h]
theorem getD_mem {l : List Arc} {j : Nat} (h : j < l.length) : l.getD j default ∈ l := by
  rw [List.getD_eq_getElem?_getD, List.getElem?_eq_getElem h]; exact List.getElem_mem h
theorem wA_in {n : Int} {l : List Arc} (h : ∀ a ∈ l, a.In n) (t : Nat) : ∀ a ∈ wA l t, a.In n := fun a ha => by
  unfold wA at ha
  obtain ⟨j, hj, rfl⟩ := List.mem_map.1 ha
  have hm := h _ (getD_mem (List.mem_range.1 hj))
  split
  · exact hm
  · exact hm
theorem twinI_eq {I : Inst} (h : rightF I = 0) : twinI I = ⟨I.sup, (firsts I.arcs I.arcs.length).map (mergedA I.arcs)⟩ := by
  have hs := right_small h
  have hi := right_in h
  unfold twinI withoutF keptNodes keptArcs
  dsimp only
  rw [wA_len, keptN_small (by omega), keptN_small (by omega), keptF_nil, map_getD_range, kept_first (by omega),
    filterMap_keep _ (wA_in hi _) _ (fun k hk => by rw [wA_len]; exact (firsts_mem.1 hk).1)]
  congr 1
  exact List.map_congr_left fun j hj => wA_full hj
theorem sum_firsts (l : List Arc) (f : Nat → Int) : ((firsts l l.length).map fun k => gsum f (memsK l k l.length)).sum = sumTo f l.length := by
  have h := groups_sum l f l.length
  rw [groupsTo_eq, List.map_map] at h
  exact h
theorem gsum_congr {f g : Nat → Int} : ∀ {ms : List Int}, (∀ x ∈ ms, f x.toNat = g x.toNat) → gsum f ms = gsum g ms
  | [], _ => rfl
  | x :: ms, h => by
    have ih := gsum_congr (f := f) (g := g) (ms := ms) (fun y hy => h y (by simp [hy]))
    unfold gsum at ih ⊢
    rw [List.map_cons, List.map_cons, List.sum_cons, List.sum_cons, ih, h x (by simp)]
theorem gsum_mul (c : Int) (f : Nat → Int) : ∀ ms : List Int, gsum (fun j => c * f j) ms = c * gsum f ms
  | [] => by simp [gsum]
  | x :: ms => by
    have ih := gsum_mul c f ms
    unfold gsum at ih ⊢
    rw [List.map_cons, List.map_cons, List.sum_cons, List.sum_cons, ih, Int.mul_add]
theorem gsum_zero (ms : List Int) : gsum (fun _ => 0) ms = 0 := by
  induction ms with
  | nil => rfl
  | cons x ms ih => unfold gsum at ih ⊢; rw [List.map_cons, List.sum_cons, ih]; rfl
theorem mem_like {l : List Arc} {k : Nat} {x : Int} (h : x ∈ memsK l k l.length) : 0 ≤ x ∧ x.toNat < l.length ∧ likeA (l.getD k default) (l.getD x.toNat default) = true := by
  obtain ⟨j, rfl, h1, h2, h3⟩ := memsK_mem.1 h
  exact ⟨by omega, by omega, by simpa using h3⟩
theorem merged_low {l : List Arc} {m : Int} (hn : ∀ a ∈ l, a.Nice m) (hl : l.length ≤ 18) (k : Nat) : 0 ≤ lowM l (memsK l k l.length) ∧ lowM l (memsK l k l.length) ≤ 36 := by
  have h := gsum_bd (f := fun j => (l.getD j default).low) (B := 2) (ms := memsK l k l.length) (fun x hx => by
    have := hn _ (getD_mem (mem_like hx).2.1); exact ⟨this.l0, this.l1⟩)
  have := memsK_len l k l.length
  unfold lowM
  omega
theorem gsum_le {f g : Nat → Int} : ∀ {ms : List Int}, (∀ x ∈ ms, f x.toNat ≤ g x.toNat) → gsum f ms ≤ gsum g ms
  | [], _ => by simp [gsum]
  | x :: ms, h => by
    have ih := gsum_le (f := f) (g := g) (ms := ms) (fun y hy => h y (by simp [hy]))
    have := h x (by simp)
    unfold gsum at ih ⊢
    rw [List.map_cons, List.map_cons, List.sum_cons, List.sum_cons]
    omega
theorem capI_false {l : List Arc} {ms : List Int} (h : capI l ms = false) : ∀ x ∈ ms, ¬ (l.getD x.toNat default).cap = inf := fun x hx e => by
  unfold capI at h
  rw [List.any_eq_false] at h
  exact h x hx (decide_eq_true e)
theorem merged_cap {l : List Arc} {m : Int} (hn : ∀ a ∈ l, a.Nice m) (hl : l.length ≤ 18) {k : Nat} (hi : capI l (memsK l k l.length) = false) : lowM l (memsK l k l.length) ≤ capN l (memsK l k l.length) ∧ capN l (memsK l k l.length) ≤ 126 := by
  have h0 := capI_false hi
  have h := gsum_bd (f := fun j => (l.getD j default).cap) (B := 7) (ms := memsK l k l.length) (fun x hx => by
    have := hn _ (getD_mem (mem_like hx).2.1)
    have h1 := h0 x hx
    have h2 := this.c1; have h3 := this.c0; have h4 := this.l0
    unfold inf at h1
    omega)
  have h2 := gsum_le (f := fun j => (l.getD j default).low) (g := fun j => (l.getD j default).cap) (ms := memsK l k l.length) (fun x hx => (hn _ (getD_mem (mem_like hx).2.1)).c0)
  have := memsK_len l k l.length
  unfold lowM capN
  omega
theorem merged_right {l : List Arc} {m : Nat} (hn : ∀ a ∈ l, a.Nice m) (hl : l.length ≤ 18) {k : Nat} (hk : k < l.length) : rightArcF (mergedA l k) m = 0 := by
  have h := hn _ (getD_mem hk)
  have h1 := merged_low hn hl k
  have h2 := h.s0; have h3 := h.s1; have h4 := h.d0; have h5 := h.d1; have h6 := h.k0; have h7 := h.k1
  unfold rightArcF mergedA capM
  dsimp only
  cases hi : capI l (memsK l k l.length) with
  | true => simp only [if_true, inf]; repeat' split <;> omega
  | false =>
    have h8 := merged_cap hn hl hi
    simp only [Bool.false_eq_true, if_false]
    repeat' split <;> omega
theorem twin_right {I : Inst} (hr : rightF I = 0) (hn : ∀ a ∈ I.arcs, a.Nice I.sup.length) (hl : I.arcs.length ≤ 18) (hw : Within 400 I.sup) : rightF (twinI I) = 0 := by
  rw [twinI_eq hr]
  have hs := right_small hr
  refine right_of hs.1 ?_ ?_ (fun x hx => by have := hw x hx; omega) ?_
  · dsimp only; rw [List.length_map]; have := firsts_len I.arcs I.arcs.length; omega
  · intro a ha
    obtain ⟨k, hk, rfl⟩ := List.mem_map.1 ha
    exact merged_right hn hl (firsts_mem.1 hk).1
  · exact (right_within hr).2
theorem firsts_all {l : List Arc} (h : ¬ (firsts l l.length).length < l.length) : firsts l l.length = List.range l.length := by
  have hle := firsts_len l l.length
  unfold firsts at h hle ⊢
  refine List.filter_eq_self.2 fun j hj => ?_
  have h2 : ((List.range l.length).filter (firstK l)).length = (List.range l.length).length := by rw [List.length_range]; omega
  exact (List.length_filter_eq_length_iff.1 h2) j hj
theorem mems_alone {l : List Arc} (h : firsts l l.length = List.range l.length) {k : Nat} (hk : k < l.length) : memsK l k l.length = [(k : Int)] := by
  have hsub : ∀ x ∈ memsK l k l.length, x = (k : Int) := fun x hx => by
    obtain ⟨j, rfl, h1, h2, h3⟩ := memsK_mem.1 hx
    have hj : firstK l j = true := (firsts_mem.1 (by rw [h]; exact List.mem_range.2 h1)).2
    have hk' : firstK l k = true := (firsts_mem.1 (by rw [h]; exact List.mem_range.2 hk)).2
    have := first_unique hk' hj h3 (likeA_refl _)
    omega
  obtain ⟨r, hr⟩ := memsK_head l k l.length hk
  have hnd := memsK_nodup l k l.length
  rw [hr] at hnd hsub ⊢
  cases r with
  | nil => rfl
  | cons y r =>
    have : y = (k : Int) := hsub y (by simp)
    subst this
    simp at hnd
theorem merged_alone {l : List Arc} (h : firsts l l.length = List.range l.length) {k : Nat} (hk : k < l.length) : mergedA l k = l.getD k default := by
  unfold mergedA
  rw [mems_alone h hk]
  generalize hx : l.getD k default = x
  have h1 : lowM l [(k : Int)] = x.low := by unfold lowM gsum; simp only [List.map_cons, List.map_nil, List.sum_cons, List.sum_nil, Int.toNat_natCast, hx, Int.add_zero]
  have h2 : capM l [(k : Int)] = x.cap := by
    unfold capM capI capN gsum
    simp only [List.any_cons, List.any_nil, Bool.or_false, Int.toNat_natCast, hx, List.map_cons, List.map_nil, List.sum_cons, List.sum_nil, Int.add_zero, decide_eq_true_eq]
    split
    · rename_i e; exact e.symm
    · rfl
  rw [h1, h2]
theorem twin_alone {I : Inst} (hr : rightF I = 0) (h : ¬ (firsts I.arcs I.arcs.length).length < I.arcs.length) : twinI I = I := by
  have h1 := firsts_all h
  rw [twinI_eq hr, h1]
  have : (List.range I.arcs.length).map (mergedA I.arcs) = I.arcs := by
    rw [← map_getD_range I.arcs default, List.length_map, List.length_range]
    exact List.map_congr_left fun j hj => by rw [map_getD_range]; exact merged_alone h1 (List.mem_range.1 hj)
  rw [this]
theorem twinS_eq {I : Inst} (hr : rightF I = 0) (h2 : rightF (twinI I) = 0) : (twinS I).2 = 0 ∧ (twinS I).1.inst = twinI I ∧ (twinS I).1.did = decide ((firsts I.arcs I.arcs.length).length < I.arcs.length) ∧ (twinS I).1.off = ⟨0, 0⟩ := by
  unfold twinS
  rw [if_neg (fun h => h hr)]
  unfold doneF
  by_cases h : (firsts I.arcs I.arcs.length).length < I.arcs.length
  · rw [decide_eq_true h, if_pos rfl, if_pos h2]; exact ⟨rfl, rfl, rfl, rfl⟩
  · rw [decide_eq_false h, if_neg Bool.false_ne_true]; exact ⟨rfl, (twin_alone hr h).symm, rfl, rfl⟩
def badA (m : Int) (side : List Bool) (a : Arc) : Bool := outA m side a && decide (a.cap = inf)
def valA (m : Int) (side : List Bool) (a : Arc) : Int := if outA m side a then a.cap else if inA m side a then -a.low else 0
theorem conS_eq (m : Int) (side : List Bool) : ∀ l : List Arc, conS m side l = if l.any (badA m side) then none else some ((l.map (valA m side)).sum)
  | [] => rfl
  | a :: l => by
    rw [conS, conS_eq m side l, List.any_cons, List.map_cons, List.sum_cons]
    unfold conA badA valA
    by_cases h1 : outA m side a = true
    · by_cases h2 : a.cap = inf
      · simp [h1, h2]
      · simp only [h1, h2, if_true, if_false, decide_false, Bool.and_false, Bool.false_or, Option.bind_some]
        split <;> rfl
    · simp only [h1, if_false, Bool.false_and, Bool.false_or]
      by_cases h3 : inA m side a = true
      · simp only [h3, if_true, Option.bind_some]; simp [h1]; split <;> rfl
      · simp [h1, h3]
theorem like_sides {m : Int} {side : List Bool} {a b : Arc} (h : likeA a b = true) : outA m side b = outA m side a ∧ inA m side b = inA m side a := by
  obtain ⟨h1, h2, -⟩ := likeA_iff.1 h
  unfold outA inA
  rw [h1, h2]; exact ⟨rfl, rfl⟩
theorem any_firsts (l : List Arc) (p : Nat → Bool) : ((firsts l l.length).any fun k => (memsK l k l.length).any fun x => p x.toNat) = (List.range l.length).any p := by
  rw [Bool.eq_iff_iff, List.any_eq_true, List.any_eq_true]
  constructor
  · rintro ⟨k, hk, h⟩
    obtain ⟨x, hx, h2⟩ := List.any_eq_true.1 h
    exact ⟨x.toNat, List.mem_range.2 (mem_like hx).2.1, h2⟩
  · rintro ⟨j, hj, h⟩
    have hj := List.mem_range.1 hj
    obtain ⟨k, hk, hf, hl⟩ := exists_first l j j (Nat.le_refl _)
    exact ⟨k, firsts_mem.2 ⟨by omega, hf⟩, List.any_eq_true.2 ⟨(j : Int), memsK_mem.2 ⟨j, rfl, hj, hk, hl⟩, by rw [Int.toNat_natCast]; exact h⟩⟩
theorem any_range (l : List Arc) (p : Arc → Bool) : ((List.range l.length).any fun j => p (l.getD j default)) = l.any p := by
  have h := map_getD_range l default
  have e : (List.range l.length).any (p ∘ fun j => l.getD j default) = ((List.range l.length).map fun j => l.getD j default).any p := List.any_map.symm
  rw [h] at e
  exact e
theorem any_congr' {α : Type} {p q : α → Bool} : ∀ {l : List α}, (∀ a ∈ l, p a = q a) → l.any p = l.any q
  | [], _ => rfl
  | a :: l, h => by rw [List.any_cons, List.any_cons, h a (by simp), any_congr' (l := l) (fun b hb => h b (by simp [hb]))]
theorem sum_map_congr {α : Type} {f g : α → Int} : ∀ {l : List α}, (∀ a ∈ l, f a = g a) → (l.map f).sum = (l.map g).sum
  | [], _ => rfl
  | a :: l, h => by rw [List.map_cons, List.map_cons, List.sum_cons, List.sum_cons, h a (by simp), sum_map_congr (l := l) (fun b hb => h b (by simp [hb]))]
theorem twin_room {I : Inst} (hr : rightF I = 0) (hn : ∀ a ∈ I.arcs, a.Nice I.sup.length) (hl : I.arcs.length ≤ 18) (side : List Bool) : roomC (twinI I) side = roomC I side := by
  rw [roomC_con, roomC_con, twinI_eq hr]
  dsimp only
  rw [conS_eq, conS_eq, List.any_map, List.map_map]
  generalize I.sup.length = m at *
  have hcap : ∀ k, capM I.arcs (memsK I.arcs k I.arcs.length) = inf ↔ capI I.arcs (memsK I.arcs k I.arcs.length) = true := fun k => by
    unfold capM
    cases hi : capI I.arcs (memsK I.arcs k I.arcs.length) with
    | true => simp
    | false => have := merged_cap hn hl hi; simp only [Bool.false_eq_true, if_false, iff_false]; unfold inf; omega
  have hends : ∀ k, outA m side (mergedA I.arcs k) = outA m side (I.arcs.getD k default) ∧ inA m side (mergedA I.arcs k) = inA m side (I.arcs.getD k default) := fun k => ⟨rfl, rfl⟩
  have e1 : (firsts I.arcs I.arcs.length).any (badA m side ∘ mergedA I.arcs) = I.arcs.any (badA m side) := by
    rw [← any_range I.arcs (badA m side), ← any_firsts I.arcs (fun j => badA m side (I.arcs.getD j default))]
    refine any_congr' fun k hk => ?_
    show badA m side (mergedA I.arcs k) = _
    unfold badA
    rw [(hends k).1]
    have h2 : ((memsK I.arcs k I.arcs.length).any fun x => (outA m side (I.arcs.getD x.toNat default) && decide ((I.arcs.getD x.toNat default).cap = inf))) = (memsK I.arcs k I.arcs.length).any fun x => outA m side (I.arcs.getD k default) && decide ((I.arcs.getD x.toNat default).cap = inf) :=
      any_congr' fun x hx => by rw [(like_sides (mem_like hx).2.2).1]
    rw [h2]
    have h3 : decide ((mergedA I.arcs k).cap = inf) = capI I.arcs (memsK I.arcs k I.arcs.length) := by
      rw [Bool.eq_iff_iff, decide_eq_true_eq]; exact hcap k
    rw [h3]
    unfold capI
    cases outA m side (I.arcs.getD k default) with
    | true => rfl
    | false => rw [Bool.false_and, Eq.comm, List.any_eq_false]; intro x _ e; cases e
  rw [e1]
  split
  · rfl
  · rename_i hb
    have hb2 : ∀ k ∈ firsts I.arcs I.arcs.length, badA m side (mergedA I.arcs k) = false := by
      have : (firsts I.arcs I.arcs.length).any (badA m side ∘ mergedA I.arcs) = false := by rw [e1]; simpa using hb
      rw [List.any_eq_false] at this
      exact fun k hk => by have := this k hk; simpa using this
    congr 1
    have e3 : (I.arcs.map (valA m side)).sum = sumTo (fun j => valA m side (I.arcs.getD j default)) I.arcs.length := by
      have e : ((List.range I.arcs.length).map fun j => I.arcs.getD j default).map (valA m side) = (List.range I.arcs.length).map fun j => valA m side (I.arcs.getD j default) := List.map_map
      rw [map_getD_range] at e
      rw [← sum_map_range, e]
    rw [e3, ← sum_firsts]
    refine sum_map_congr fun k hk => ?_
    show valA m side (mergedA I.arcs k) = _
    have hmem : ∀ x ∈ memsK I.arcs k I.arcs.length, valA m side (I.arcs.getD x.toNat default) = if outA m side (I.arcs.getD k default) then (I.arcs.getD x.toNat default).cap else if inA m side (I.arcs.getD k default) then -(I.arcs.getD x.toNat default).low else 0 := fun x hx => by
      obtain ⟨h1, h2⟩ := like_sides (m := m) (side := side) (mem_like hx).2.2
      unfold valA; rw [h1, h2]
    rw [gsum_congr (g := fun j => if outA m side (I.arcs.getD k default) then (I.arcs.getD j default).cap else if inA m side (I.arcs.getD k default) then -(I.arcs.getD j default).low else 0) hmem]
    have hbk := hb2 k hk
    unfold badA at hbk
    unfold valA
    rw [(hends k).1] at hbk ⊢
    rw [(hends k).2]
    cases ho : outA m side (I.arcs.getD k default) with
    | true =>
      rw [ho, Bool.true_and, decide_eq_false_iff_not] at hbk
      simp only [if_true]
      have hi : capI I.arcs (memsK I.arcs k I.arcs.length) = false := by
        cases h : capI I.arcs (memsK I.arcs k I.arcs.length) with
        | true => exact absurd ((hcap k).2 h) hbk
        | false => rfl
      show capM I.arcs (memsK I.arcs k I.arcs.length) = _
      unfold capM
      rw [hi, if_neg Bool.false_ne_true]; rfl
    | false =>
      simp only [Bool.false_eq_true, if_false]
      cases inA m side (I.arcs.getD k default) with
      | true =>
        simp only [if_true]
        show -lowM I.arcs (memsK I.arcs k I.arcs.length) = _
        have := gsum_mul (-1) (fun j => (I.arcs.getD j default).low) (memsK I.arcs k I.arcs.length)
        simp only [Int.neg_one_mul] at this
        rw [this]; unfold lowM; rfl
      | false => simp only [Bool.false_eq_true, if_false]; exact (gsum_zero _).symm
end Go.Ql
