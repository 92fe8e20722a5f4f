/- Part of the proof, Twin5. -/
import Derived.Test.YtnjcklhgdpgllaaZTwin4
set_option linter.all false
set_option linter.unusedSimpArgs false
set_option linter.unusedVariables false
namespace Go.Ql
open Go Go.Vc
def roomN (I : Inst) (ms : List Int) : Int := (ms.map fun j => (arcAt I j).cap - (arcAt I j).low).sum
def lowN (I : Inst) (ms : List Int) : Int := (ms.map fun j => (arcAt I j).low).sum
def infN (I : Inst) (ms : List Int) : Bool := ms.any fun j => decide ((arcAt I j).cap = inf)
def NiceAt (I : Inst) (ms : List Int) : Prop := ∀ j ∈ ms, isArcF I j = true ∧ 0 ≤ (arcAt I j).low ∧ (arcAt I j).low ≤ 2 ∧ (arcAt I j).low ≤ (arcAt I j).cap ∧ ((arcAt I j).cap ≤ 7 ∨ (arcAt I j).cap = inf)
theorem lowN_bd {I : Inst} : ∀ {ms : List Int}, NiceAt I ms → 0 ≤ lowN I ms ∧ lowN I ms ≤ 2 * ms.length
  | [], _ => ⟨by simp [lowN], by simp [lowN]⟩
  | j :: ms, h => by
    have ih := lowN_bd (I := I) (ms := ms) (fun x hx => h x (by simp [hx]))
    obtain ⟨h1, h2, h3, h4, h5⟩ := h j (by simp)
    unfold lowN at ih ⊢
    rw [List.map_cons, List.sum_cons, List.length_cons]
    omega
theorem roomN_pos {I : Inst} : ∀ {ms : List Int}, NiceAt I ms → 0 ≤ roomN I ms
  | [], _ => by simp [roomN]
  | j :: ms, h => by
    have ih := roomN_pos (I := I) (ms := ms) (fun x hx => h x (by simp [hx]))
    obtain ⟨h1, h2, h3, h4, h5⟩ := h j (by simp)
    unfold roomN at ih ⊢
    rw [List.map_cons, List.sum_cons]
    omega
theorem subAll_some {I : Inst} : ∀ {ms : List Int} {s : Int}, NiceAt I ms → -1000000 ≤ s - lowN I ms → s ≤ 1000000 → subAll I ms s = some (s - lowN I ms)
  | [], s, _, _, _ => by simp [subAll, lowN]
  | j :: ms, s, h, h1, h2 => by
    have hm : NiceAt I ms := fun x hx => h x (by simp [hx])
    have hb := lowN_bd hm
    obtain ⟨a1, a2, a3, a4, a5⟩ := h j (by simp)
    have e : lowN I (j :: ms) = (arcAt I j).low + lowN I ms := by simp [lowN]
    rw [e] at h1 ⊢
    rw [subAll, if_pos a1, if_pos (by unfold I64; omega), subAll_some hm (by omega) (by omega)]
    congr 1; omega
theorem fitF_iff {a : Arc} {x : Int} : fitF a x = true ↔ a.low ≤ x ∧ (a.cap = inf ∨ x ≤ a.cap) := by simp [fitF]
theorem spreadGo_some {I : Inst} : ∀ (j : Int) (ms : List Int) (left : Int) (out : List Int), NiceAt I (j :: ms) → -1000000 ≤ left → left ≤ 1000000 →
    ∃ x, spreadGo I (j :: ms) left out = some (out ++ x) ∧ x.length = (j :: ms).length ∧ x.sum = lowN I (j :: ms) + left ∧ (∀ y ∈ x, -1000002 ≤ y ∧ y ≤ 1000002) ∧
      (fitsAll ((j :: ms).map (arcAt I)) x = true ↔ 0 ≤ left ∧ (infN I (j :: ms) = true ∨ left ≤ roomN I (j :: ms)))
  | j, [], left, out, h, h1, h2 => by
    obtain ⟨a1, a2, a3, a4, a5⟩ := h j (by simp)
    refine ⟨[(arcAt I j).low + left], ?_, rfl, by simp [lowN], ?_, ?_⟩
    · have e : giveT (arcAt I j) left ([] : List Int).isEmpty = left := rfl
      rw [spreadGo, e, if_pos (by unfold I64; omega), spreadGo]
    · intro y hy; rw [List.mem_singleton] at hy; subst hy; omega
    · have e1 : fitsAll ([j].map (arcAt I)) [(arcAt I j).low + left] = fitF (arcAt I j) ((arcAt I j).low + left) := by
        show (fitF (arcAt I j) ((arcAt I j).low + left) && true) = _
        exact Bool.and_true _
      have e2 : infN I [j] = true ↔ (arcAt I j).cap = inf := by simp [infN]
      have e3 : roomN I [j] = (arcAt I j).cap - (arcAt I j).low := by simp [roomN]
      rw [e1, fitF_iff, e2, e3]
      constructor
      · rintro ⟨h3, h4⟩; exact ⟨by omega, h4.imp id (by omega)⟩
      · rintro ⟨h3, h4⟩; exact ⟨by omega, h4.imp id (by omega)⟩
  | j, j2 :: ms, left, out, h, h1, h2 => by
    have hm : NiceAt I (j2 :: ms) := fun x hx => h x (by rw [List.mem_cons]; exact .inr hx)
    obtain ⟨a1, a2, a3, a4, a5⟩ := h j (by simp)
    have hrp := roomN_pos hm
    have hg : ∃ t, giveT (arcAt I j) left (j2 :: ms).isEmpty = t ∧ 0 ≤ t ∧ (t ≤ left ∨ left ≤ 0 ∧ t = 0) ∧ (left ≤ 0 → t = 0) ∧ (0 < left → (arcAt I j).cap = inf → t = left) ∧ (0 < left → ¬ (arcAt I j).cap = inf → t = min ((arcAt I j).cap - (arcAt I j).low) left) := by
      refine ⟨_, rfl, ?_⟩
      unfold giveT
      rw [if_neg (by simp)]
      split
      · rename_i hl; exact ⟨by omega, by omega, fun _ => rfl, fun h => by omega, fun h => by omega⟩
      · split
        · rename_i hl hc; exact ⟨by omega, by omega, fun h => by omega, fun _ _ => rfl, fun _ h => absurd hc h⟩
        · rename_i hl hc; exact ⟨by omega, by omega, fun h => by omega, fun _ h => absurd h hc, fun _ _ => rfl⟩
    obtain ⟨t, ht, t0, t1, t2, t3, t4⟩ := hg
    obtain ⟨x, e1, e2, e3, e4, e5⟩ := spreadGo_some j2 ms (left - t) (out ++ [(arcAt I j).low + t]) hm (by omega) (by omega)
    refine ⟨((arcAt I j).low + t) :: x, ?_, by simp [e2], ?_, ?_, ?_⟩
    · rw [spreadGo, ht, if_pos (by unfold I64; omega), e1]; simp
    · have : lowN I (j :: j2 :: ms) = (arcAt I j).low + lowN I (j2 :: ms) := by simp [lowN]
      rw [List.sum_cons, e3, this]; omega
    · intro y hy
      rcases List.mem_cons.1 hy with rfl | hy
      · omega
      · exact e4 y hy
    · have r1 : roomN I (j :: j2 :: ms) = (arcAt I j).cap - (arcAt I j).low + roomN I (j2 :: ms) := by simp [roomN]
      have r2 : infN I (j :: j2 :: ms) = (decide ((arcAt I j).cap = inf) || infN I (j2 :: ms)) := by simp [infN]
      rw [List.map_cons, fitsAll, List.headD_cons, List.tail_cons, Bool.and_eq_true, e5, r1, r2, fitF_iff]
      simp only [Bool.or_eq_true, decide_eq_true_eq]
      by_cases hl : left ≤ 0
      · have := t2 hl
        subst this
        constructor
        · rintro ⟨_, h3, h4⟩; exact ⟨by omega, h4.imp .inr (by omega)⟩
        · rintro ⟨h3, h4⟩
          have : left = 0 := by omega
          subst this
          exact ⟨by omega, by omega, .inr (by omega)⟩
      · by_cases hc : (arcAt I j).cap = inf
        · have := t3 (by omega) hc
          subst this
          exact ⟨fun _ => ⟨by omega, .inl (.inl hc)⟩, fun _ => ⟨⟨by omega, .inl hc⟩, by omega, .inr (by omega)⟩⟩
        · have := t4 (by omega) hc
          constructor
          · rintro ⟨_, h3, h4⟩
            refine ⟨by omega, ?_⟩
            rcases h4 with h4 | h4
            · exact .inl (.inr h4)
            · exact .inr (by omega)
          · rintro ⟨h3, h4⟩
            refine ⟨⟨by omega, .inr (by omega)⟩, by omega, ?_⟩
            rcases h4 with (h4 | h4) | h4
            · exact absurd h4 hc
            · exact .inl h4
            · exact .inr (by omega)
theorem spreadF_some {I : Inst} {ms : List Int} {n : Int} (h : NiceAt I ms) (h0 : ms ≠ []) (hl : ms.length ≤ 100) (h1 : -100000 ≤ n) (h2 : n ≤ 100000) :
    ∃ x, spreadF I ms n = some x ∧ x.length = ms.length ∧ x.sum = n ∧ (∀ y ∈ x, -1000002 ≤ y ∧ y ≤ 1000002) ∧
      (fitsAll (ms.map (arcAt I)) x = true ↔ lowN I ms ≤ n ∧ (infN I ms = true ∨ n ≤ lowN I ms + roomN I ms)) := by
  have hb := lowN_bd h
  cases ms with
  | nil => exact absurd rfl h0
  | cons j ms =>
    obtain ⟨x, e1, e2, e3, e4, e5⟩ := spreadGo_some j ms (n - lowN I (j :: ms)) [] h (by omega) (by omega)
    refine ⟨x, ?_, e2, by omega, e4, ?_⟩
    · unfold spreadF
      rw [if_neg h0, subAll_some h (by omega) (by omega), Option.bind_some, e1, List.nil_append]
    · rw [e5]
      constructor
      · rintro ⟨h3, h4⟩; exact ⟨by omega, h4.imp id (by omega)⟩
      · rintro ⟨h3, h4⟩; exact ⟨by omega, h4.imp id (by omega)⟩
theorem grp_nice {I : Inst} (hn : ∀ a ∈ I.arcs, a.Nice I.sup.length) (k : Nat) : NiceAt I (memsK I.arcs k I.arcs.length) := fun j hj => by
  obtain ⟨h0, h1, -⟩ := mem_like hj
  have h := hn _ (getD_mem h1)
  exact ⟨isArcF_iff.2 ⟨h0, by omega⟩, h.l0, h.l1, h.c0, h.c1⟩
theorem lowN_eq (I : Inst) (ms : List Int) : lowN I ms = lowM I.arcs ms := rfl
theorem infN_eq (I : Inst) (ms : List Int) : infN I ms = capI I.arcs ms := rfl
theorem roomN_eq (I : Inst) : ∀ ms : List Int, lowN I ms + roomN I ms = capN I.arcs ms
  | [] => rfl
  | j :: ms => by
    have ih := roomN_eq I ms
    have e1 : lowN I (j :: ms) = (arcAt I j).low + lowN I ms := by simp [lowN]
    have e2 : roomN I (j :: ms) = (arcAt I j).cap - (arcAt I j).low + roomN I ms := by simp [roomN]
    have e3 : capN I.arcs (j :: ms) = (arcAt I j).cap + capN I.arcs ms := by simp [capN, gsum, arcAt]
    omega
theorem grp_fit {I : Inst} (ms : List Int) (n : Int) (k : Nat) (hk : ms = memsK I.arcs k I.arcs.length) (hc : capI I.arcs ms = false → ¬ capN I.arcs ms = inf) : (lowN I ms ≤ n ∧ (infN I ms = true ∨ n ≤ lowN I ms + roomN I ms)) ↔ fitF (mergedA I.arcs k) n = true := by
  rw [roomN_eq, infN_eq, lowN_eq]
  unfold fitF mergedA capM
  dsimp only
  rw [← hk]
  simp only [Bool.and_eq_true, Bool.or_eq_true, decide_eq_true_eq]
  cases hi : capI I.arcs ms with
  | true => simp
  | false => have := hc hi; simp [this]
theorem netK_sumTo (n : Int) (l : List Arc) (x : List Int) (v : Int) : ∀ k, netK n l x k v = sumTo (fun j => flowD n (l.getD j default) (x.getD j 0) v) k
  | 0 => rfl
  | k + 1 => by rw [netK, sumTo, netK_sumTo n l x v k]
theorem costK_sumTo (l : List Arc) (x : List Int) : ∀ k, costK l x k = sumTo (fun j => (l.getD j default).cost * x.getD j 0) k
  | 0 => rfl
  | k + 1 => by rw [costK, sumTo, costK_sumTo l x k]
theorem netL_map {α : Type} (n : Int) (f : α → Arc) (g : α → Int) (v : Int) : ∀ F : List α, netL n (F.map f) (F.map g) v = (F.map fun k => flowD n (f k) (g k) v).sum
  | [] => rfl
  | k :: F => by rw [List.map_cons, List.map_cons, netL, List.headD_cons, List.tail_cons, netL_map n f g v F, List.map_cons, List.sum_cons]
theorem costL_map {α : Type} (f : α → Arc) (g : α → Int) : ∀ F : List α, costL (F.map f) (F.map g) = (F.map fun k => (f k).cost * g k).sum
  | [] => rfl
  | k :: F => by rw [List.map_cons, List.map_cons, costL, List.headD_cons, List.tail_cons, costL_map f g F, List.map_cons, List.sum_cons]
theorem fitsAll_map {α : Type} (f : α → Arc) (g : α → Int) : ∀ F : List α, fitsAll (F.map f) (F.map g) = F.all fun k => fitF (f k) (g k)
  | [] => rfl
  | k :: F => by rw [List.map_cons, List.map_cons, fitsAll, List.headD_cons, List.tail_cons, fitsAll_map f g F, List.all_cons]
theorem flowD_like {n : Int} {a b : Arc} (h : likeA a b = true) (f v : Int) : flowD n b f v = flowD n a f v := by
  obtain ⟨h1, h2, -⟩ := likeA_iff.1 h
  unfold flowD okArc
  rw [h1, h2]
theorem flowD_zero (n : Int) (a : Arc) (v : Int) : flowD n a 0 v = 0 := by unfold flowD; (repeat' split) <;> rfl
theorem flowD_gsum (n : Int) (a : Arc) (f : Nat → Int) (v : Int) : ∀ ms : List Int, flowD n a (gsum f ms) v = gsum (fun j => flowD n a (f j) v) ms
  | [] => flowD_zero n a v
  | x :: ms => by
    have ih := flowD_gsum n a f v ms
    have e1 : gsum f (x :: ms) = f x.toNat + gsum f ms := by simp [gsum]
    have e2 : gsum (fun j => flowD n a (f j) v) (x :: ms) = flowD n a (f x.toNat) v + gsum (fun j => flowD n a (f j) v) ms := by simp [gsum]
    rw [e1, e2, flowD_add, ih]
def sumsG (I : Inst) (x : List Int) : List Int := (firsts I.arcs I.arcs.length).map fun k => gsum (fun j => x.getD j 0) (memsK I.arcs k I.arcs.length)
theorem sums_net (n : Int) (I : Inst) (x : List Int) (v : Int) : netL n ((firsts I.arcs I.arcs.length).map (mergedA I.arcs)) (sumsG I x) v = netK n I.arcs x I.arcs.length v := by
  unfold sumsG
  rw [netL_map, netK_sumTo, ← sum_firsts]
  refine sum_map_congr fun k hk => ?_
  rw [flowD_gsum]
  exact gsum_congr fun y hy => by rw [flowD_like (mem_like hy).2.2]; rfl
theorem sums_cost (I : Inst) (x : List Int) : costL ((firsts I.arcs I.arcs.length).map (mergedA I.arcs)) (sumsG I x) = costK I.arcs x I.arcs.length := by
  unfold sumsG
  rw [costL_map, costK_sumTo, ← sum_firsts]
  refine sum_map_congr fun k hk => ?_
  rw [← gsum_mul]
  exact gsum_congr fun y hy => by rw [← (likeA_iff.1 (mem_like hy).2.2).2.2]; rfl
def SpreadOf (I : Inst) (x z : List Int) (k : Nat) (ms : List Int) : Prop := ∃ l, spreadF I ms (gsum (fun j => x.getD j 0) ms) = some l ∧ ms.map (fun j => z.getD j.toNat 0) = l
theorem all_firsts (l : List Arc) (p : Nat → Bool) : ((firsts l l.length).all fun k => (memsK l k l.length).all fun x => p x.toNat) = (List.range l.length).all p := by
  have h := any_firsts l (fun j => !p j)
  rw [← Bool.not_inj_iff, List.not_all_eq_any_not, List.not_all_eq_any_not, ← h]
  exact any_congr' fun k _ => List.not_all_eq_any_not
theorem fitsAll_range (l : List Arc) (z : List Int) : fitsAll l z = (List.range l.length).all fun j => fitF (l.getD j default) (z.getD j 0) := by
  rw [Bool.eq_iff_iff, fitsAll_iff, List.all_eq_true]
  constructor
  · intro h j hj
    exact h j _ (by rw [List.getD_eq_getElem?_getD, List.getElem?_eq_getElem (List.mem_range.1 hj)]; rfl)
  · intro h j a ha
    have := h j (List.mem_range.2 (List.getElem?_eq_some_iff.1 ha).1)
    rw [List.getD_eq_getElem?_getD, ha] at this
    exact this
theorem sumsG_bd {I : Inst} {x : List Int} (hx : ∀ y ∈ x, 0 ≤ y ∧ y ≤ 7) (ms : List Int) (hl : ms.length ≤ 100) : 0 ≤ gsum (fun j => x.getD j 0) ms ∧ gsum (fun j => x.getD j 0) ms ≤ 700 := by
  have h := gsum_bd (f := fun j => x.getD j 0) (B := 7) (ms := ms) (fun y _ => by
    rw [List.getD_eq_getElem?_getD]
    cases e : x[y.toNat]? with
    | none => exact ⟨Int.le_refl 0, by decide⟩
    | some u => exact hx u (List.mem_of_getElem? e))
  omega
theorem twin_flows {I : Inst} {x z : List Int} (hr : rightF I = 0) (hn : ∀ a ∈ I.arcs, a.Nice I.sup.length) (hl : I.arcs.length ≤ 18) (hw : Within 400 I.sup)
    (hx : ∀ y ∈ x, 0 ≤ y ∧ y ≤ 7) (hxl : x.length = I.arcs.length) (hzl : z.length = I.arcs.length) (hz : ∀ k ∈ firsts I.arcs I.arcs.length, SpreadOf I x z k (memsK I.arcs k I.arcs.length)) :
    (fitsF I x = 0 → fitsF (twinI I) (sumsG I x) = 0) ∧ (fitsF (twinI I) (sumsG I x) = 0 ↔ fitsF I z = 0) ∧ costF I x = costF (twinI I) (sumsG I x) ∧ costF I z = costF I x := by
  have hT := twin_right hr hn hl hw
  have hms : ∀ k, (memsK I.arcs k I.arcs.length).length ≤ 100 := fun k => by have := memsK_len I.arcs k I.arcs.length; omega
  have hcN : ∀ k, capI I.arcs (memsK I.arcs k I.arcs.length) = false → ¬ capN I.arcs (memsK I.arcs k I.arcs.length) = inf := fun k hi => by have := merged_cap hn hl hi; unfold inf; omega
  have hsp : ∀ k ∈ firsts I.arcs I.arcs.length, gsum (fun j => z.getD j 0) (memsK I.arcs k I.arcs.length) = gsum (fun j => x.getD j 0) (memsK I.arcs k I.arcs.length) ∧
      ((memsK I.arcs k I.arcs.length).all fun j => fitF (I.arcs.getD j.toNat default) (z.getD j.toNat 0)) = fitF (mergedA I.arcs k) (gsum (fun j => x.getD j 0) (memsK I.arcs k I.arcs.length)) := fun k hk => by
    obtain ⟨l, h1, h2⟩ := hz k hk
    have hne : memsK I.arcs k I.arcs.length ≠ [] := by
      obtain ⟨r, hr⟩ := memsK_head I.arcs k _ (firsts_mem.1 hk).1
      rw [hr]; simp
    have hb := sumsG_bd (I := I) hx (memsK I.arcs k I.arcs.length) (hms k)
    obtain ⟨l', e1, e2, e3, e4, e5⟩ := spreadF_some (grp_nice hn k) hne (hms k) (n := gsum (fun j => x.getD j 0) (memsK I.arcs k I.arcs.length)) (by omega) (by omega)
    rw [h1] at e1; cases e1
    constructor
    · unfold gsum at e3 ⊢; rw [h2, e3]
    · rw [Bool.eq_iff_iff, ← grp_fit _ _ k rfl (hcN k), ← e5, ← h2, fitsAll_map]; rfl
  have hsum : sumsG I z = sumsG I x := by
    unfold sumsG
    exact List.map_congr_left fun k hk => (hsp k hk).1
  have hfz : fitsAll I.arcs z = fitsAll (twinI I).arcs (sumsG I x) := by
    rw [twinI_eq hr]
    dsimp only
    unfold sumsG
    rw [fitsAll_map, fitsAll_range, ← all_firsts I.arcs (fun j => fitF (I.arcs.getD j default) (z.getD j 0))]
    rw [Bool.eq_iff_iff, List.all_eq_true, List.all_eq_true]
    exact ⟨fun h k hk => by rw [← (hsp k hk).2]; exact h k hk, fun h k hk => by rw [(hsp k hk).2]; exact h k hk⟩
  have hnet : ∀ v, netL (twinI I).sup.length (twinI I).arcs (sumsG I x) v = netL I.sup.length I.arcs x v := fun v => by
    rw [twinI_eq hr]
    dsimp only
    rw [sums_net, netL_eq]
  have hnetz : ∀ v, netL I.sup.length I.arcs z v = netL I.sup.length I.arcs x v := fun v => by
    rw [← netL_eq, ← sums_net, hsum, sums_net, netL_eq]
  have hs : (twinI I).sup = I.sup := by rw [twinI_eq hr]
  have hok : netOk (twinI I) (sumsG I x) = netOk I x := by
    rw [Bool.eq_iff_iff, netOkL_iff, netOkL_iff, hs]
    constructor
    · intro h v hv; have := h v hv; rw [← hs, hnet v, hs] at this; exact this
    · intro h v hv; rw [← hs, hnet v, hs]; exact h v hv
  have hokz : netOk I z = netOk I x := by
    rw [Bool.eq_iff_iff, netOkL_iff, netOkL_iff]
    exact ⟨fun h v hv => by rw [← hnetz v]; exact h v hv, fun h v hv => by rw [hnetz v]; exact h v hv⟩
  have hlen : (sumsG I x).length = (twinI I).arcs.length := by rw [twinI_eq hr]; unfold sumsG; rw [List.length_map, List.length_map]
  have hc : costF (twinI I) (sumsG I x) = costF I x := by
    unfold costF
    rw [costK_sumTo, ← costK_sumTo, costL_eq, twinI_eq hr]
    exact sums_cost I x
  have hcz : costF I z = costF I x := by
    have e1 := sums_cost I z
    have e2 := sums_cost I x
    rw [hsum] at e1
    unfold costF; rw [← e1, ← e2]
  refine ⟨fun h => ?_, ?_, hc.symm, hcz⟩
  · obtain ⟨f1, f2, f3, f4⟩ := fitsF_iff.1 h
    refine fitsF_iff.2 ⟨hT, hlen, ?_, by rw [hok]; exact f4⟩
    rw [twinI_eq hr]
    dsimp only
    unfold sumsG
    rw [fitsAll_map, List.all_eq_true]
    intro k hk
    rw [fitsAll_range, ← all_firsts I.arcs (fun j => fitF (I.arcs.getD j default) (x.getD j 0)), List.all_eq_true] at f3
    have h3 := List.all_eq_true.1 (f3 k hk)
    have hlo := gsum_le (f := fun j => (I.arcs.getD j default).low) (g := fun j => x.getD j 0) (ms := memsK I.arcs k I.arcs.length) (fun y hy => by
      have := h3 y hy
      unfold fitF at this
      rw [Bool.and_eq_true, decide_eq_true_eq] at this
      exact this.1)
    refine (grp_fit _ _ k rfl (hcN k)).1 ⟨hlo, ?_⟩
    rw [roomN_eq, infN_eq]
    cases hi : capI I.arcs (memsK I.arcs k I.arcs.length) with
    | true => exact .inl rfl
    | false =>
      refine .inr (gsum_le (f := fun j => x.getD j 0) (g := fun j => (I.arcs.getD j default).cap) fun y hy => ?_)
      have := h3 y hy
      unfold fitF at this
      rw [Bool.and_eq_true, Bool.or_eq_true, decide_eq_true_eq, decide_eq_true_eq, decide_eq_true_eq] at this
      exact this.2.resolve_left (capI_false hi y hy)
  · rw [fitsF_iff, fitsF_iff, hfz, hok, hokz]
    exact ⟨fun h => ⟨hr, hzl, h.2.2⟩, fun h => ⟨hT, hlen, h.2.2⟩⟩
theorem groupsF_len (l : List Arc) : (groupsF l).length = (firsts l l.length).length := groupsTo_len l l.length
def SpreadTo (I : Inst) (x z : List Int) (k : Nat) : Prop := z.length = I.arcs.length ∧ A64 z ∧ ∀ (i p : Nat), i < k → (firsts I.arcs I.arcs.length)[i]? = some p → SpreadOf I x z p (memsK I.arcs p I.arcs.length)
def PartOf (ms l z : List Int) (j : Nat) : Prop := ∀ t, t < j → z.getD (ms.getD t 0).toNat 0 = l.getD t 0
theorem getD_set_ne' {z : List Int} {m n : Nat} {y : Int} (h : m ≠ n) : (z.set m y).getD n 0 = z.getD n 0 := by
  rw [List.getD_eq_getElem?_getD, List.getD_eq_getElem?_getD, List.getElem?_set_ne h]
theorem spreadTo_set {I : Inst} {x z : List Int} {k p : Nat} {m : Nat} {y : Int} (h : SpreadTo I x z k) (hp : (firsts I.arcs I.arcs.length)[k]? = some p) (hm : (m : Int) ∈ memsK I.arcs p I.arcs.length) (hy : I64 y) : SpreadTo I x (z.set m y) k := by
  refine ⟨by rw [List.length_set]; exact h.1, A64.set h.2.1 hy, fun i q hi hq => ?_⟩
  obtain ⟨l, h1, h2⟩ := h.2.2 i q hi hq
  refine ⟨l, h1, ?_⟩
  rw [← h2]
  refine List.map_congr_left fun u hu => getD_set_ne' fun e => ?_
  obtain ⟨u0, u1, u2⟩ := mem_like hu
  obtain ⟨m0, m1, m2⟩ := mem_like hm
  rw [Int.toNat_natCast] at m1 m2
  rw [← e] at u2
  have := first_unique (firsts_mem.1 (List.mem_of_getElem? hp)).2 (firsts_mem.1 (List.mem_of_getElem? hq)).2 m2 u2
  subst this
  obtain ⟨ha, ea⟩ := List.getElem?_eq_some_iff.1 hp
  obtain ⟨hb, eb⟩ := List.getElem?_eq_some_iff.1 hq
  exact absurd (eb.trans ea.symm) (List.pairwise_iff_getElem.1 (firsts_nodup I.arcs I.arcs.length) i k hb ha hi)
theorem partOf_set {ms l z : List Int} {j : Nat} {u y : Int} (hn : ms.Nodup) (h0 : ∀ v ∈ ms, 0 ≤ v ∧ v.toNat < z.length) (h : PartOf ms l z j) (hu : ms[j]? = some u) (hy : l[j]? = some y) : PartOf ms l (z.set u.toNat y) (j + 1) := fun t ht => by
  obtain ⟨hj, ej⟩ := List.getElem?_eq_some_iff.1 hu
  have hum := h0 u (List.mem_of_getElem? hu)
  by_cases e : t = j
  · subst e
    rw [List.getD_eq_getElem?_getD (l := ms), hu, List.getD_eq_getElem?_getD (l := l), hy]
    show (z.set u.toNat y).getD u.toNat 0 = y
    rw [List.getD_eq_getElem?_getD, List.getElem?_set_self hum.2]; rfl
  · have htj : t < j := by omega
    have ht2 : t < ms.length := by omega
    rw [← h t htj]
    refine getD_set_ne' fun e2 => ?_
    have hv : ms.getD t 0 = ms[t] := by rw [List.getD_eq_getElem?_getD, List.getElem?_eq_getElem ht2]; rfl
    rw [hv] at e2
    have hvm := h0 ms[t] (List.getElem_mem _)
    have : ms[t] = ms[j] := by rw [ej]; omega
    exact List.pairwise_iff_getElem.1 hn t j ht2 hj htj this
theorem spreadTo_succ {I : Inst} {x z l : List Int} {k p : Nat} (h : SpreadTo I x z k) (hp : (firsts I.arcs I.arcs.length)[k]? = some p) (hl : spreadF I (memsK I.arcs p I.arcs.length) (gsum (fun j => x.getD j 0) (memsK I.arcs p I.arcs.length)) = some l) (hpt : PartOf (memsK I.arcs p I.arcs.length) l z (memsK I.arcs p I.arcs.length).length) : SpreadTo I x z (k + 1) := by
  refine ⟨h.1, h.2.1, fun i q hi hq => ?_⟩
  by_cases e : i = k
  · subst e
    rw [hp] at hq; cases hq
    refine ⟨l, hl, ?_⟩
    have hlen := spreadF_len hl
    apply List.ext_getElem?
    intro t
    by_cases ht : t < (memsK I.arcs p I.arcs.length).length
    · have := hpt t ht
      rw [List.getElem?_map, List.getElem?_eq_getElem ht, Option.map_some, List.getElem?_eq_getElem (by omega)]
      congr 1
      rw [List.getD_eq_getElem?_getD (l := memsK I.arcs p I.arcs.length), List.getElem?_eq_getElem ht, List.getD_eq_getElem?_getD (l := l), List.getElem?_eq_getElem (by omega)] at this
      exact this
    · rw [List.getElem?_eq_none (by rw [List.length_map]; omega), List.getElem?_eq_none (by omega)]
  · exact h.2.2 i q (by omega) hq
theorem sumsG_len (I : Inst) (x : List Int) : (sumsG I x).length = (groupsF I.arcs).length := by unfold sumsG; rw [List.length_map, groupsF_len]
theorem sumsG_at {I : Inst} {x : List Int} {k : Nat} (h : k < (groupsF I.arcs).length) : (sumsG I x)[k]? = some (gsum (fun j => x.getD j 0) (grp I.arcs k)) := by
  obtain ⟨p, hp, h1, h2, h3, -⟩ := grp_at h
  unfold sumsG
  rw [List.getElem?_map, hp, Option.map_some, h3]
end Go.Ql
