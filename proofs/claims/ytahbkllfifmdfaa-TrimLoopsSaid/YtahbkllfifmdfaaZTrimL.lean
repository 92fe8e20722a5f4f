/- Part of the proof, TrimL. -/
import Derived.Test.YtahbkllfifmdfaaZOdd
set_option linter.all false
set_option linter.unusedSimpArgs false
set_option linter.unusedVariables false
namespace Go.Ql
open Go Go.Vc
def conA (m : Int) (side : List Bool) (a : Arc) : Option Int := if outA m side a then (if a.cap = inf then none else some a.cap) else if inA m side a then some (-a.low) else some 0
def conS (m : Int) (side : List Bool) : List Arc → Option Int
  | [] => some 0
  | a :: l => (conA m side a).bind fun x => (conS m side l).map fun y => x + y
theorem roomAcc_con (m : Int) (side : List Bool) : ∀ (l : List Arc) (s : Int), roomAcc m side l s = (conS m side l).map (fun y => s + y)
  | [], s => by simp [roomAcc, conS]
  | a :: l, s => by
    rw [roomAcc_cons, conS]
    unfold conA
    split
    · split
      · rfl
      · rw [roomAcc_con m side l]; cases conS m side l <;> simp; omega
    · split
      · rw [roomAcc_con m side l]; cases conS m side l <;> simp; omega
      · rw [roomAcc_con m side l]; cases conS m side l <;> simp
theorem roomC_con (I : Inst) (side : List Bool) : roomC I side = conS I.sup.length side I.arcs := by
  unfold roomC
  rw [roomAcc_con]
  cases conS (I.sup.length : Int) side I.arcs <;> simp
def dN (side : List Bool) (a : Arc) (n : Int) : Int := (if side.getD a.src.toNat false then -n else 0) + (if side.getD a.dst.toNat false then n else 0)
def dA (side : List Bool) (f : Arc → Option Int) (a : Arc) : Int := match f a with | some n => dN side a n | none => 0
def dS (side : List Bool) (f : Arc → Option Int) : List Arc → Int
  | [] => 0
  | a :: l => dA side f a + dS side f l
theorem conS_left {m : Int} {side : List Bool} {f : Arc → Option Int} {g : Arc → Option Arc} : ∀ l : List Arc, (∀ a ∈ l, match g a with | some b => conA m side b = (conA m side a).map (fun x => x + dA side f a) | none => conA m side a = some (-(dA side f a))) →
    conS m side (l.filterMap g) = (conS m side l).map (fun x => x + dS side f l)
  | [], _ => by simp [conS, dS]
  | a :: l, h => by
    have ih := conS_left l (fun b hb => h b (by simp [hb]))
    have ha := h a (by simp)
    rw [List.filterMap_cons, conS, dS]
    cases hg : g a with
    | none =>
      rw [hg] at ha
      dsimp only at ha ⊢
      rw [ha, ih]
      cases conS m side l <;> simp
      omega
    | some b =>
      rw [hg] at ha
      dsimp only at ha ⊢
      rw [conS, ha, ih]
      cases conA m side a <;> simp
      cases conS m side l <;> simp
      omega
theorem needK_addAt (side : List Bool) (s : List Int) (k : Nat) (x : Int) : ∀ n, n ≤ s.length → needK side (addAt s k x) n = needK side s n + (if k < n then (if side.getD k false then x else 0) else 0)
  | 0, _ => by simp [needK]
  | n + 1, hn => by
    have ih := needK_addAt side s k x n (by omega)
    simp only [needK]
    rw [ih]
    have e : (addAt s k x).getD n 0 = if n = k then s.getD k 0 + x else s.getD n 0 := by
      unfold addAt
      rw [List.getD_eq_getElem?_getD, List.getElem?_set]
      by_cases h : k = n
      · subst h; simp [show k < s.length by omega]
      · have h' : ¬ n = k := fun e => h e.symm
        simp [h, h', List.getD_eq_getElem?_getD]
    rw [e]
    by_cases h : n = k
    · subst h
      simp only [Nat.lt_irrefl, if_false, if_true, show n < n + 1 by omega]
      split <;> omega
    · simp only [h, if_false]
      by_cases h2 : k < n
      · simp only [h2, show k < n + 1 by omega, if_true]; omega
      · simp only [h2, show ¬ k < n + 1 by omega, if_false]; omega
theorem need_fix (side : List Bool) (s : List Int) (a : Arc) (n : Int) (ha : a.In s.length) : needK side (fixSup s a n) s.length = needK side s s.length + dN side a n := by
  obtain ⟨h1, h2, h3, h4⟩ := ha
  unfold fixSup dN
  have e := needK_addAt side (addAt s a.src.toNat (-n)) a.dst.toNat n s.length (by rw [addAt_len]; exact Nat.le_refl _)
  rw [e, needK_addAt side s a.src.toNat (-n) s.length (Nat.le_refl _), if_pos (show a.src.toNat < s.length by omega), if_pos (show a.dst.toNat < s.length by omega)]
  omega
theorem need_all (side : List Bool) (f : Arc → Option Int) : ∀ (l : List Arc) (s : List Int), (∀ a ∈ l, a.In s.length) → needK side (supAll f l s) s.length = needK side s s.length + dS side f l
  | [], s, _ => by simp [supAll, dS]
  | a :: l, s, h => by
    rw [supAll, dS]
    unfold dA
    cases hf : f a with
    | none => dsimp only; rw [need_all side f l s (fun b hb => h b (by simp [hb]))]; omega
    | some n =>
      dsimp only
      have hl := fixSup_len s a n
      have := need_all side f l (fixSup s a n) (fun b hb => by rw [hl]; exact h b (by simp [hb]))
      rw [hl] at this
      rw [this, need_fix side s a n (h a (by simp))]
      omega
def SameLack (I J : Inst) (side : List Bool) : Prop := (roomC I side).isSome = (roomC J side).isSome ∧ ∀ v w, roomC I side = some v → roomC J side = some w → v - needF I side = w - needF J side
theorem lack_of {I : Inst} {side : List Bool} {f : Arc → Option Int} {g : Arc → Option Arc} (hi : ∀ a ∈ I.arcs, a.In I.sup.length) (h : ∀ a ∈ I.arcs, match g a with | some b => conA I.sup.length side b = (conA I.sup.length side a).map (fun x => x + dA side f a) | none => conA I.sup.length side a = some (-(dA side f a))) :
    SameLack I ⟨supAll f I.arcs I.sup, I.arcs.filterMap g⟩ side := by
  have h1 := conS_left I.arcs h
  have h2 := need_all side f I.arcs I.sup hi
  unfold SameLack
  rw [roomC_con, roomC_con]
  dsimp only
  rw [supAll_len, h1]
  refine ⟨by cases conS (I.sup.length : Int) side I.arcs <;> rfl, fun v w hv hw => ?_⟩
  rw [hv] at hw
  simp at hw
  unfold needF
  dsimp only
  rw [supAll_len, h2]
  omega
theorem on_in {m : Int} {side : List Bool} {a : Arc} (h : a.In m) : outA m side a = (side.getD a.src.toNat false && !side.getD a.dst.toNat false) ∧ inA m side a = (side.getD a.dst.toNat false && !side.getD a.src.toNat false) := by
  obtain ⟨h1, h2, h3, h4⟩ := h
  unfold outA inA isN onF
  simp [h1, h2, h3, h4]
theorem lack_low {I : Inst} (hr : rightF I = 0) (side : List Bool) : SameLack I (lowI I) side := by
  have e : lowI I = ⟨supAll takeLow I.arcs I.sup, I.arcs.filterMap (fun a => some (lowArc a))⟩ := by
    unfold lowI; rw [List.filterMap_eq_map']
  rw [e]
  refine lack_of (right_in hr) fun a ha => ?_
  have hi := right_in hr a ha
  obtain ⟨h1, h2⟩ := on_in (side := side) hi
  have hb := rightF_arc hr ha
  dsimp only
  unfold conA
  by_cases h0 : a.low = 0
  · have e1 : lowArc a = a := by unfold lowArc; rw [if_pos h0]
    have e2 : dA side takeLow a = 0 := by unfold dA takeLow; rw [if_pos h0]
    rw [e1, e2]
    (repeat' split) <;> simp
  · have e1 : lowArc a = { a with low := 0, cap := if a.cap = inf then a.cap else a.cap - a.low } := by unfold lowArc; rw [if_neg h0]
    have e2 : dA side takeLow a = dN side a a.low := by unfold dA takeLow; rw [if_neg h0]
    have e3 : outA I.sup.length side (lowArc a) = outA I.sup.length side a := by rw [e1]; rfl
    have e4 : inA I.sup.length side (lowArc a) = inA I.sup.length side a := by rw [e1]; rfl
    rw [e2, e3, e4, e1, h1, h2]
    unfold dN
    dsimp only
    have hc : ¬ a.cap = inf → ¬ a.cap - a.low = inf := fun h => by unfold inf at *; omega
    have e5 : (if (if a.cap = inf then a.cap else a.cap - a.low) = inf then none else some (if a.cap = inf then a.cap else a.cap - a.low)) = Option.map (fun x => x + -a.low) (if a.cap = inf then none else some a.cap) := by
      by_cases hci : a.cap = inf
      · simp [hci]
      · simp [hci, hc hci]; omega
    cases side.getD a.src.toNat false <;> cases side.getD a.dst.toNat false <;> simp <;> first | exact e5 | omega
theorem filter_none (f : Arc → Option Int) (l : List Arc) : l.filter (fun a => (f a).isNone) = l.filterMap (fun a => if (f a).isNone then some a else none) := by
  induction l with
  | nil => rfl
  | cons a l ih =>
    rw [List.filter_cons, List.filterMap_cons, ih]
    cases (f a).isNone <;> simp
theorem lack_take {I : Inst} {f : Arc → Option Int} (hr : rightF I = 0) (side : List Bool) (h : ∀ a ∈ I.arcs, ∀ n, f a = some n → conA I.sup.length side a = some (-(dN side a n))) : SameLack I (takeI f I) side := by
  have e : takeI f I = ⟨supAll f I.arcs I.sup, I.arcs.filterMap (fun a => if (f a).isNone then some a else none)⟩ := by unfold takeI; rw [filter_none]
  rw [e]
  refine lack_of (right_in hr) fun a ha => ?_
  cases hf : f a with
  | none =>
    have : dA side f a = 0 := by unfold dA; rw [hf]
    simp [this]
  | some n =>
    have : dA side f a = dN side a n := by unfold dA; rw [hf]
    simp [this, h a ha n hf]
theorem lack_loop {I : Inst} (hr : rightF I = 0) (side : List Bool) : SameLack I (takeI takeLoop I) side := lack_take hr side fun a ha n hn => by
  obtain ⟨h1, h2⟩ := on_in (side := side) (right_in hr a ha)
  have hs : a.src = a.dst := by
    unfold takeLoop at hn
    by_cases h : a.src = a.dst
    · exact h
    · rw [if_pos (.inl h)] at hn; cases hn
  unfold conA dN
  rw [h1, h2, hs]
  cases side.getD a.dst.toNat false <;> simp <;> omega
theorem lack_fix {I : Inst} (hr : rightF I = 0) (side : List Bool) : SameLack I (takeI takeFix I) side := lack_take hr side fun a ha n hn => by
  obtain ⟨h1, h2⟩ := on_in (side := side) (right_in hr a ha)
  have hb := rightF_arc hr ha
  unfold takeFix at hn
  split at hn
  · rename_i hc
    cases hn
    unfold conA dN
    rw [h1, h2]
    cases side.getD a.src.toNat false <;> cases side.getD a.dst.toNat false <;> simp <;> first | omega | exact ⟨by unfold inf; omega, hc.symm⟩
  · cases hn
theorem lack_self (I : Inst) (side : List Bool) : SameLack I I side := ⟨rfl, fun v w h1 h2 => by rw [h1] at h2; cases h2; rfl⟩
theorem lackK {k : Int} {I : Inst} (hk : ¬ k % 4 = 3) (h : (passK k I).2 = 0) (side : List Bool) : SameLack I (passK k I).1.inst side := by
  obtain ⟨hr, ⟨h1, h2⟩ | ⟨h1, h2, h3⟩⟩ := passK_cases h
  · rw [h2]; exact lack_self I side
  · rw [h3]
    dsimp only
    unfold leftK
    by_cases e0 : k % 4 = 0
    · simp only [e0, if_true]; exact lack_low hr side
    · by_cases e1 : k % 4 = 1
      · simp only [e1]; exact lack_loop hr side
      · have e2 : k % 4 = 2 := by omega
        simp only [e2]; exact lack_fix hr side
def netL (n : Int) : List Arc → List Int → Int → Int
  | [], _, _ => 0
  | a :: l, x, v => flowD n a (x.headD 0) v + netL n l x.tail v
def costL : List Arc → List Int → Int
  | [], _ => 0
  | a :: l, x => a.cost * x.headD 0 + costL l x.tail
theorem headD_getD (x : List Int) : x.headD 0 = x.getD 0 0 := by cases x <;> rfl
theorem tail_getD (x : List Int) (k : Nat) : x.tail.getD k 0 = x.getD (k + 1) 0 := by cases x <;> simp [List.getD]
theorem netK_cons (n : Int) (a : Arc) (l : List Arc) (x : List Int) (v : Int) : ∀ k, netK n (a :: l) x (k + 1) v = flowD n a (x.headD 0) v + netK n l x.tail k v
  | 0 => by cases x <;> simp [netK, List.getD]
  | k + 1 => by
    rw [netK, netK_cons n a l x v k, netK]
    have e1 : (a :: l).getD (k + 1) default = l.getD k default := by simp [List.getD]
    rw [e1, tail_getD]
    omega
theorem netL_eq (n : Int) : ∀ (l : List Arc) (x : List Int) (v : Int), netK n l x l.length v = netL n l x v
  | [], _, _ => rfl
  | a :: l, x, v => by rw [List.length_cons, netK_cons, netL_eq n l, netL]
theorem costK_cons (a : Arc) (l : List Arc) (x : List Int) : ∀ k, costK (a :: l) x (k + 1) = a.cost * x.headD 0 + costK l x.tail k
  | 0 => by cases x <;> simp [costK, List.getD]
  | k + 1 => by
    rw [costK, costK_cons a l x k, costK]
    have e1 : (a :: l).getD (k + 1) default = l.getD k default := by simp [List.getD]
    rw [e1, tail_getD]
    omega
theorem costL_eq : ∀ (l : List Arc) (x : List Int), costK l x l.length = costL l x
  | [], _ => rfl
  | a :: l, x => by rw [List.length_cons, costK_cons, costL_eq l, costL]
theorem addAt_getD (s : List Int) (k : Nat) (x : Int) (v : Nat) (hv : v < s.length) : (addAt s k x).getD v 0 = s.getD v 0 + (if k = v then x else 0) := by
  unfold addAt
  rw [List.getD_eq_getElem?_getD, List.getElem?_set]
  by_cases h : k = v
  · subst h; simp [hv]
  · simp [h, List.getD_eq_getElem?_getD]
theorem fixSup_getD {s : List Int} {a : Arc} {n : Int} {v : Nat} (ha : a.In s.length) (hv : v < s.length) : (fixSup s a n).getD v 0 = s.getD v 0 - flowD s.length a n v := by
  obtain ⟨h1, h2, h3, h4⟩ := ha
  unfold fixSup flowD
  rw [addAt_getD _ _ _ _ (by rw [addAt_len]; exact hv), addAt_getD _ _ _ _ hv, if_pos (okArc_iff.2 ⟨h1, h2, h3, h4⟩)]
  have e1 : (a.src.toNat = v) ↔ (a.src = (v : Int)) := by omega
  have e2 : (a.dst.toNat = v) ↔ (a.dst = (v : Int)) := by omega
  simp only [e1, e2]
  (repeat' split) <;> omega
def fixL (n : Int) (f : Arc → Option Int) : List Arc → Int → Int
  | [], _ => 0
  | a :: l, v => (match f a with | some k => flowD n a k v | none => 0) + fixL n f l v
theorem supAll_getD (f : Arc → Option Int) : ∀ (l : List Arc) (s : List Int) (v : Nat), (∀ a ∈ l, a.In s.length) → v < s.length → (supAll f l s).getD v 0 = s.getD v 0 - fixL s.length f l v
  | [], s, v, _, _ => by simp [supAll, fixL]
  | a :: l, s, v, h, hv => by
    rw [supAll, fixL]
    cases hf : f a with
    | none => dsimp only; rw [supAll_getD f l s v (fun b hb => h b (by simp [hb])) hv]; omega
    | some k =>
      dsimp only
      have hl := fixSup_len s a k
      rw [supAll_getD f l (fixSup s a k) v (fun b hb => by rw [hl]; exact h b (by simp [hb])) (by rw [hl]; exact hv), hl, fixSup_getD (h a (by simp)) hv]
      omega
theorem offAll_add (f : Arc → Option Int) : ∀ (l : List Arc) (o : Int), offAll f l o = o + offAll f l 0
  | [], o => by simp [offAll]
  | a :: l, o => by
    rw [offAll, offAll]
    cases f a with
    | none => exact offAll_add f l o
    | some n => dsimp only; rw [offAll_add f l (o + n * a.cost), offAll_add f l (0 + n * a.cost)]; omega
theorem offAll_cons (f : Arc → Option Int) (a : Arc) (l : List Arc) : offAll f (a :: l) 0 = (match f a with | some n => n * a.cost | none => 0) + offAll f l 0 := by
  rw [offAll]
  cases f a with
  | none => dsimp only; omega
  | some n => dsimp only; rw [offAll_add]; omega
def yTake (f : Arc → Option Int) : List Arc → List Int → List Int
  | [], _ => []
  | a :: l, x => (if (f a).isNone then [x.headD 0] else []) ++ yTake f l x.tail
def xTake (f : Arc → Option Int) : List Arc → List Int → List Int
  | [], _ => []
  | a :: l, x => (match f a with | some n => n | none => x.headD 0) :: xTake f l x.tail
def yLow : List Arc → List Int → List Int
  | [], _ => []
  | a :: l, x => (x.headD 0 - a.low) :: yLow l x.tail
theorem flowD_sub (n : Int) (a : Arc) (f g v : Int) : flowD n a (f - g) v = flowD n a f v - flowD n a g v := by unfold flowD; (repeat' split) <;> omega
theorem flowD_low (n : Int) (a : Arc) (f v : Int) : flowD n (lowArc a) f v = flowD n a f v := by
  obtain ⟨h1, h2⟩ := lowArc_ends a
  unfold flowD okArc; rw [h1, h2]
theorem lowArc_cost (a : Arc) : (lowArc a).cost = a.cost := by unfold lowArc; split <;> rfl
theorem low_net (n : Int) : ∀ (l : List Arc) (x : List Int) (v : Int), netL n (l.map lowArc) (yLow l x) v = netL n l x v - fixL n takeLow l v
  | [], _, _ => rfl
  | a :: l, x, v => by
    rw [List.map_cons, yLow, netL, netL, fixL, List.headD_cons, List.tail_cons, low_net n l x.tail v, flowD_low, flowD_sub]
    unfold takeLow
    by_cases h : a.low = 0
    · rw [if_pos h, h]
      have : flowD n a 0 v = 0 := by unfold flowD; (repeat' split) <;> omega
      dsimp only; omega
    · rw [if_neg h]; dsimp only; omega
theorem low_cost : ∀ (l : List Arc) (x : List Int), costL l x = costL (l.map lowArc) (yLow l x) + offAll takeLow l 0
  | [], _ => rfl
  | a :: l, x => by
    rw [List.map_cons, yLow, costL, costL, offAll_cons, List.headD_cons, List.tail_cons, low_cost l x.tail, lowArc_cost]
    have e : (match takeLow a with | some n => n * a.cost | none => 0) = a.cost * a.low := by
      unfold takeLow
      by_cases h : a.low = 0
      · rw [if_pos h, h]; simp
      · rw [if_neg h]; exact Int.mul_comm _ _
    rw [e, Int.mul_sub]; omega
theorem low_fits {l : List Arc} : ∀ (x : List Int), (∀ a ∈ l, 0 ≤ a.low ∧ (a.cap = inf ∨ a.cap ≤ 4398046511104)) → fitsAll (l.map lowArc) (yLow l x) = fitsAll l x := by
  induction l with
  | nil => intro _ _; rfl
  | cons a l ih =>
    intro x h
    rw [List.map_cons, yLow, fitsAll, fitsAll, List.headD_cons, List.tail_cons, ih x.tail (fun b hb => h b (by simp [hb]))]
    congr 1
    obtain ⟨h1, h2⟩ := h a (by simp)
    unfold fitF lowArc
    by_cases h0 : a.low = 0
    · rw [if_pos h0, h0]; simp
    · rw [if_neg h0]
      dsimp only
      by_cases hc : a.cap = inf
      · simp [hc]
      · have hc2 : ¬ a.cap - a.low = inf := by unfold inf at *; omega
        simp only [hc, if_false, hc2, decide_false, Bool.false_or]
        rw [Bool.eq_iff_iff]
        simp only [Bool.and_eq_true, decide_eq_true_eq]
        omega
theorem yLow_len : ∀ (l : List Arc) (x : List Int), (yLow l x).length = l.length
  | [], _ => rfl
  | a :: l, x => by rw [yLow, List.length_cons, List.length_cons, yLow_len l]
theorem yTake_len (f : Arc → Option Int) : ∀ (l : List Arc) (x : List Int), (yTake f l x).length = (l.filter (fun a => (f a).isNone)).length
  | [], _ => rfl
  | a :: l, x => by
    rw [yTake, List.length_append, yTake_len f l, List.filter_cons]
    cases (f a).isNone <;> simp; omega
theorem xTake_len (f : Arc → Option Int) : ∀ (l : List Arc) (x : List Int), (xTake f l x).length = l.length
  | [], _ => rfl
  | a :: l, x => by rw [xTake, List.length_cons, List.length_cons, xTake_len f l]
theorem take_net (n : Int) (f : Arc → Option Int) : ∀ (l : List Arc) (x : List Int) (v : Int), netL n (l.filter (fun a => (f a).isNone)) (yTake f l x) v = netL n l (xTake f l x) v - fixL n f l v
  | [], _, _ => rfl
  | a :: l, x, v => by
    rw [yTake, xTake, List.filter_cons, netL, fixL, List.headD_cons, List.tail_cons]
    have ih := take_net n f l x.tail v
    cases hf : f a with
    | none => simp only [Option.isNone_none, if_true, List.singleton_append, netL, List.headD_cons, List.tail_cons, ih]; omega
    | some k => simp only [Option.isNone_some, Bool.false_eq_true, if_false, List.nil_append, ih]; omega
theorem take_cost (f : Arc → Option Int) : ∀ (l : List Arc) (x : List Int), costL l (xTake f l x) = costL (l.filter (fun a => (f a).isNone)) (yTake f l x) + offAll f l 0
  | [], _ => rfl
  | a :: l, x => by
    rw [yTake, xTake, List.filter_cons, costL, offAll_cons, List.headD_cons, List.tail_cons, take_cost f l x.tail]
    cases hf : f a with
    | none => simp only [Option.isNone_none, if_true, List.singleton_append, costL, List.headD_cons, List.tail_cons]; omega
    | some k => simp only [Option.isNone_some, Bool.false_eq_true, if_false, List.nil_append]; rw [Int.mul_comm a.cost]; omega
theorem take_fits {f : Arc → Option Int} : ∀ (l : List Arc) (x : List Int), (∀ a ∈ l, ∀ n, f a = some n → fitF a n = true) → fitsAll (l.filter (fun a => (f a).isNone)) (yTake f l x) = fitsAll l (xTake f l x)
  | [], _, _ => rfl
  | a :: l, x, h => by
    rw [yTake, xTake, List.filter_cons, fitsAll, List.headD_cons, List.tail_cons, ← take_fits l x.tail (fun b hb => h b (by simp [hb]))]
    cases hf : f a with
    | none => simp only [Option.isNone_none, if_true, List.singleton_append, fitsAll, List.headD_cons, List.tail_cons]
    | some k => simp only [Option.isNone_some, Bool.false_eq_true, if_false, List.nil_append, h a (by simp) k hf, Bool.true_and]
theorem fitsF_iff {I : Inst} {x : List Int} : fitsF I x = 0 ↔ rightF I = 0 ∧ x.length = I.arcs.length ∧ fitsAll I.arcs x = true ∧ netOk I x = true := by
  unfold fitsF
  by_cases h1 : rightF I = 0
  · by_cases h2 : x.length = I.arcs.length
    · cases h3 : fitsAll I.arcs x <;> cases h4 : netOk I x <;> simp [h1, h2]
    · simp [h1, h2]
  · simp [h1]
theorem netOkL_iff {I : Inst} {x : List Int} : netOk I x = true ↔ ∀ v : Nat, v < I.sup.length → W (netL I.sup.length I.arcs x v) = W (I.sup.getD v 0) := by
  unfold netOk
  rw [List.all_eq_true]
  constructor
  · intro h v hv
    have := h v (List.mem_range.2 hv)
    rw [netL_eq] at this
    exact of_decide_eq_true this
  · intro h v hv
    rw [netL_eq]
    exact decide_eq_true (h v (List.mem_range.1 hv))
theorem W_shift {m n d : Int} : W (m - d) = W (n - d) ↔ W m = W n := by
  rw [W_iff_mod, W_iff_mod, show m - d - (n - d) = m - n by omega]
theorem netOk_take {I J : Inst} {x y : List Int} {f : Arc → Option Int} (hi : ∀ a ∈ I.arcs, a.In I.sup.length) (hs : J.sup = supAll f I.arcs I.sup) (hn : ∀ v, netL I.sup.length J.arcs y v = netL I.sup.length I.arcs x v - fixL I.sup.length f I.arcs v) : netOk J y = netOk I x := by
  have hl : J.sup.length = I.sup.length := by rw [hs, supAll_len]
  rw [Bool.eq_iff_iff, netOkL_iff, netOkL_iff, hl]
  constructor
  · intro h v hv
    have := h v hv
    rw [hn, hs, supAll_getD f I.arcs I.sup v hi hv] at this
    exact W_shift.1 this
  · intro h v hv
    rw [hn, hs, supAll_getD f I.arcs I.sup v hi hv]
    exact W_shift.2 (h v hv)
theorem flows_low {I : Inst} {x : List Int} (hr : rightF I = 0) (hJ : rightF (lowI I) = 0) (hx : x.length = I.arcs.length) : (fitsF I x = 0 ↔ fitsF (lowI I) (yLow I.arcs x) = 0) ∧ costF I x = costF (lowI I) (yLow I.arcs x) + offAll takeLow I.arcs 0 := by
  have e1 : (lowI I).arcs = I.arcs.map lowArc := rfl
  refine ⟨?_, ?_⟩
  · rw [fitsF_iff, fitsF_iff, hJ, hr, e1, yLow_len, List.length_map, low_fits x (fun a ha => by have := rightF_arc hr ha; unfold inf; omega), netOk_take (I := I) (J := lowI I) (x := x) (f := takeLow) (right_in hr) rfl (fun v => by rw [e1]; exact low_net _ _ _ v)]
    simp [hx]
  · unfold costF
    rw [costL_eq, costL_eq, e1, low_cost]
theorem flows_take {I : Inst} {x : List Int} {f : Arc → Option Int} (hr : rightF I = 0) (hJ : rightF (takeI f I) = 0) (hf : ∀ a ∈ I.arcs, ∀ n, f a = some n → fitF a n = true) : (fitsF I (xTake f I.arcs x) = 0 ↔ fitsF (takeI f I) (yTake f I.arcs x) = 0) ∧ costF I (xTake f I.arcs x) = costF (takeI f I) (yTake f I.arcs x) + offAll f I.arcs 0 := by
  have e1 : (takeI f I).arcs = I.arcs.filter (fun a => (f a).isNone) := rfl
  refine ⟨?_, ?_⟩
  · rw [fitsF_iff, fitsF_iff, hJ, hr, e1, yTake_len, xTake_len, take_fits _ _ hf, netOk_take (I := I) (J := takeI f I) (x := xTake f I.arcs x) (f := f) (right_in hr) rfl (fun v => by rw [e1]; exact take_net _ _ _ _ v)]
    simp
  · unfold costF
    rw [costL_eq, costL_eq, e1, take_cost]
theorem fitsAll_move (K : List Nat) : ∀ (l : List Arc) (x : List Int), fitsAll (l.map (moveArc K)) x = fitsAll l x
  | [], _ => rfl
  | a :: l, x => by rw [List.map_cons, fitsAll, fitsAll, fitsAll_move K l]; rfl
theorem costL_move (K : List Nat) : ∀ (l : List Arc) (x : List Int), costL (l.map (moveArc K)) x = costL l x
  | [], _ => rfl
  | a :: l, x => by rw [List.map_cons, costL, costL, costL_move K l]; rfl
theorem place_eq {K : List Nat} (hK : K.Nodup) {i j x y : Nat} (hi : K[i]? = some x) (hj : K[j]? = some y) : (placeGo (x : Int) K 0 = (j : Int)) ↔ x = y := by
  rw [placeGo_at K 0 i x hK hi]
  constructor
  · intro h
    have : i = j := by omega
    subst this
    rw [hi] at hj; cases hj; rfl
  · intro h
    subst h
    obtain ⟨h1, h2⟩ := List.getElem?_eq_some_iff.1 hi
    obtain ⟨h3, h4⟩ := List.getElem?_eq_some_iff.1 hj
    have := (List.getElem_inj (xs := K) hK).1 (h2.trans h4.symm)
    omega
theorem net_move {I : Inst} (hr : rightF I = 0) {j y : Nat} (hj : (loneK I)[j]? = some y) : ∀ (l : List Arc), (∀ a ∈ l, a ∈ I.arcs) → ∀ x : List Int, netL (loneK I).length (l.map (moveArc (loneK I))) x j = netL I.sup.length l x y := by
  intro l
  induction l with
  | nil => intro _ _; rfl
  | cons a l ih =>
    intro hl x
    rw [List.map_cons, netL, netL, ih (fun b hb => hl b (by simp [hb]))]
    congr 1
    have ha := hl a (by simp)
    obtain ⟨p, q, hp, hq⟩ := touch_kept hr ha
    obtain ⟨h1, h2, h3, h4⟩ := right_in hr a ha
    have n1 := placeGo_at (loneK I) 0 p _ (loneK_nodup I) hp
    have n2 := placeGo_at (loneK I) 0 q _ (loneK_nodup I) hq
    have m1 := place_eq (loneK_nodup I) hp hj
    have m2 := place_eq (loneK_nodup I) hq hj
    have l1 := get_lt hp
    have l2 := get_lt hq
    rw [show ((a.src.toNat : Nat) : Int) = a.src by omega] at n1 m1
    rw [show ((a.dst.toNat : Nat) : Int) = a.dst by omega] at n2 m2
    unfold flowD
    rw [if_pos (okArc_iff.2 ⟨by show 0 ≤ placeGo _ _ _; omega, by show placeGo _ _ _ < _; omega, by show 0 ≤ placeGo _ _ _; omega, by show placeGo _ _ _ < _; omega⟩), if_pos (okArc_iff.2 ⟨h1, h2, h3, h4⟩)]
    have c1 : ((moveArc (loneK I) a).src = (j : Int)) ↔ a.src = (y : Int) := by
      show (placeGo _ _ _ = _) ↔ _; rw [m1]; omega
    have c2 : ((moveArc (loneK I) a).dst = (j : Int)) ↔ a.dst = (y : Int) := by
      show (placeGo _ _ _ = _) ↔ _; rw [m2]; omega
    simp only [c1, c2]
theorem net_lone {I : Inst} {v : Nat} (h : touchF I.arcs v = false) : ∀ (l : List Arc), (∀ a ∈ l, a ∈ I.arcs) → ∀ x : List Int, netL I.sup.length l x v = 0 := by
  intro l
  induction l with
  | nil => intro _ _; rfl
  | cons a l ih =>
    intro hl x
    rw [netL, ih (fun b hb => hl b (by simp [hb]))]
    unfold touchF at h
    have := List.any_eq_false.1 h a (hl a (by simp))
    simp only [Bool.or_eq_true, decide_eq_true_eq, not_or] at this
    unfold flowD
    rw [if_neg this.1, if_neg this.2]
    split <;> rfl
theorem flows_lone {I : Inst} {x : List Int} (hr : rightF I = 0) (hJ : rightF (loneI I) = 0) : (fitsF I x = 0 ↔ fitsF (loneI I) x = 0) ∧ costF I x = costF (loneI I) x := by
  have e := loneI_eq hr
  refine ⟨?_, ?_⟩
  · rw [fitsF_iff, fitsF_iff, hJ, hr]
    have : netOk (loneI I) x = netOk I x := by
      rw [Bool.eq_iff_iff, netOkL_iff, netOkL_iff, e]
      dsimp only
      simp only [List.length_map]
      constructor
      · intro h v hv
        by_cases hlone : loneAt I v = true
        · unfold loneAt at hlone
          simp only [Bool.and_eq_true, decide_eq_true_eq, Bool.not_eq_true'] at hlone
          rw [net_lone hlone.1 I.arcs (fun a ha => ha), hlone.2]
        · have hm : v ∈ loneK I := by
            unfold loneK
            rw [List.mem_filter]
            exact ⟨List.mem_range.2 hv, by simpa using hlone⟩
          obtain ⟨j, hj⟩ := List.mem_iff_getElem?.1 hm
          have := h j (get_lt hj)
          rw [net_move hr hj I.arcs (fun a ha => ha), getD_map hj] at this
          exact this
      · intro h j hj
        obtain ⟨y, hy⟩ : ∃ y, (loneK I)[j]? = some y := ⟨_, List.getElem?_eq_getElem hj⟩
        rw [net_move hr hy I.arcs (fun a ha => ha), getD_map hy]
        have hm := List.mem_of_getElem? hy
        unfold loneK at hm
        exact h y (by simpa using (List.mem_filter.1 hm).1)
    rw [this, e]
    dsimp only
    rw [fitsAll_move, List.length_map]
  · unfold costF
    rw [costL_eq, costL_eq, e]
    dsimp only
    rw [costL_move]
theorem yLow_snoc (a : Arc) : ∀ (l : List Arc) (x : List Int), yLow (l ++ [a]) x = yLow l x ++ [x.getD l.length 0 - a.low]
  | [], x => by cases x <;> simp [yLow, List.getD]
  | b :: l, x => by rw [List.cons_append, yLow, yLow, yLow_snoc a l x.tail, tail_getD]; rfl
theorem yTake_snoc (f : Arc → Option Int) (a : Arc) : ∀ (l : List Arc) (x : List Int), yTake f (l ++ [a]) x = yTake f l x ++ (if (f a).isNone then [x.getD l.length 0] else [])
  | [], x => by cases x <;> simp [yTake, List.getD]
  | b :: l, x => by rw [List.cons_append, yTake, yTake, yTake_snoc f a l x.tail, tail_getD, List.append_assoc]; rfl
theorem xTake_snoc (f : Arc → Option Int) (a : Arc) : ∀ (l : List Arc) (x : List Int), xTake f (l ++ [a]) x = xTake f l x ++ [match f a with | some n => n | none => x.getD l.length 0]
  | [], x => by cases x <;> simp [xTake, List.getD]
  | b :: l, x => by rw [List.cons_append, xTake, xTake, xTake_snoc f a l x.tail, tail_getD]; rfl
def Few (x : List Int) : Prop := ∀ y ∈ x, 0 ≤ y ∧ y ≤ 7
theorem Few.head {x : List Int} (h : Few x) : 0 ≤ x.headD 0 ∧ x.headD 0 ≤ 7 := by
  cases x with
  | nil => simp
  | cons y x => exact h y (by simp)
theorem Few.tail {x : List Int} (h : Few x) : Few x.tail := fun y hy => h y (List.mem_of_mem_tail hy)
theorem yLow_few : ∀ (l : List Arc) (x : List Int), (∀ a ∈ l, 0 ≤ a.low ∧ a.low ≤ 2) → Few x → A64 (yLow l x)
  | [], _, _, _ => fun y hy => by simp [yLow] at hy
  | a :: l, x, h, hx => fun y hy => by
    rw [yLow] at hy
    have h1 := h a (by simp)
    have h2 := hx.head
    rcases List.mem_cons.1 hy with rfl | h3
    · unfold I64; omega
    · exact yLow_few l x.tail (fun b hb => h b (by simp [hb])) hx.tail y h3
theorem yTake_few (f : Arc → Option Int) : ∀ (l : List Arc) (x : List Int), Few x → Few (yTake f l x)
  | [], _, _ => fun y hy => by simp [yTake] at hy
  | a :: l, x, hx => fun y hy => by
    rw [yTake] at hy
    rcases List.mem_append.1 hy with h | h
    · split at h
      · simp at h; subst h; simpa using hx.head
      · simp at h
    · exact yTake_few f l x.tail hx.tail y h
theorem xTake_few (f : Arc → Option Int) : ∀ (l : List Arc) (x : List Int), (∀ a ∈ l, ∀ n, f a = some n → 0 ≤ n ∧ n ≤ 7) → Few x → Few (xTake f l x)
  | [], _, _, _ => fun y hy => by simp [xTake] at hy
  | a :: l, x, h, hx => fun y hy => by
    rw [xTake] at hy
    rcases List.mem_cons.1 hy with rfl | h3
    · cases hf : f a with
      | none => exact hx.head
      | some n => exact h a (by simp) n hf
    · exact xTake_few f l x.tail (fun b hb => h b (by simp [hb])) hx.tail y h3
theorem Few.a64 {x : List Int} (h : Few x) : A64 x := fun y hy => by have := h y hy; unfold I64; omega
def yJ (j : Int) (l : List Arc) (x : List Int) : List Int := if j = 0 then yLow l x else if j = 2 then yTake takeFix l x else x.take l.length
def xJ (j : Int) (l : List Arc) (x : List Int) : List Int := if j = 2 then xTake takeFix l x ++ x.drop l.length else x
theorem takeFix_none {a : Arc} (h : ¬ a.low = a.cap) : takeFix a = none := if_neg h
theorem takeFix_some {a : Arc} (h : a.low = a.cap) : takeFix a = some a.low := if_pos h
theorem xJ_len {j : Int} {l : List Arc} {x : List Int} (h : l.length ≤ x.length) : (xJ j l x).length = x.length := by
  unfold xJ
  split
  · rw [List.length_append, xTake_len, List.length_drop]; omega
  · rfl
theorem yJ_len {j : Int} {l : List Arc} {x : List Int} : (yJ j l x).length ≤ l.length := by
  unfold yJ
  split
  · rw [yLow_len]; exact Nat.le_refl _
  · split
    · rw [yTake_len]; exact List.length_filter_le _ _
    · rw [List.length_take]; omega
theorem xJ_at {j : Int} {l : List Arc} {x : List Int} (h : l.length < x.length) : (xJ j l x)[l.length]? = some (x.getD l.length 0) := by
  have e : x[l.length]? = some (x.getD l.length 0) := by rw [List.getD_eq_getElem?_getD, List.getElem?_eq_getElem h]; rfl
  unfold xJ
  split
  · rw [List.getElem?_append_right (by rw [xTake_len]; exact Nat.le_refl _), xTake_len, Nat.sub_self, List.getElem?_drop, Nat.add_zero, e]
  · exact e
theorem J_zero (a : Arc) (l : List Arc) (x : List Int) : yJ 0 (l ++ [a]) x = yJ 0 l x ++ [x.getD l.length 0 - a.low] ∧ xJ 0 (l ++ [a]) x = xJ 0 l x := by
  unfold yJ xJ
  refine ⟨by rw [if_pos rfl, if_pos rfl, yLow_snoc], by rw [if_neg (by omega), if_neg (by omega)]⟩
theorem J_three (a : Arc) (l : List Arc) (x : List Int) (h : l.length < x.length) : yJ 3 (l ++ [a]) x = yJ 3 l x ++ [x.getD l.length 0] ∧ xJ 3 (l ++ [a]) x = xJ 3 l x := by
  have e : x[l.length]? = some (x.getD l.length 0) := by rw [List.getD_eq_getElem?_getD, List.getElem?_eq_getElem h]; rfl
  unfold yJ xJ
  refine ⟨?_, by rw [if_neg (by omega), if_neg (by omega)]⟩
  simp only [show ¬ (3 : Int) = 0 by omega, show ¬ (3 : Int) = 2 by omega, if_false]
  rw [List.length_append, List.length_singleton, take_get e]
theorem drop_at {x : List Int} {k : Nat} (h : k < x.length) : x.drop k = x.getD k 0 :: x.drop (k + 1) := by
  rw [drop_get (List.getElem?_eq_getElem h), List.getD_eq_getElem?_getD, List.getElem?_eq_getElem h]; rfl
theorem J_two (a : Arc) (l : List Arc) (x : List Int) (h : l.length < x.length) : (a.low = a.cap → yJ 2 (l ++ [a]) x = yJ 2 l x ∧ xJ 2 (l ++ [a]) x = (xJ 2 l x).set l.length a.low) ∧ (¬ a.low = a.cap → yJ 2 (l ++ [a]) x = yJ 2 l x ++ [x.getD l.length 0] ∧ xJ 2 (l ++ [a]) x = xJ 2 l x) := by
  unfold yJ xJ
  simp only [show ¬ (2 : Int) = 0 by omega, if_false, if_true]
  rw [yTake_snoc, xTake_snoc, List.length_append, List.length_singleton, drop_at h]
  refine ⟨fun h1 => ?_, fun h1 => ?_⟩
  · rw [takeFix_some h1]
    refine ⟨by simp, ?_⟩
    rw [List.set_append_right _ _ (by rw [xTake_len]; exact Nat.le_refl _), xTake_len, Nat.sub_self, List.set_cons_zero, List.append_assoc]; rfl
  · rw [takeFix_none h1]
    refine ⟨by simp, ?_⟩
    rw [List.append_assoc]; rfl
theorem J_end {j : Int} (hj : j = 0 ∨ j = 2 ∨ j = 3) {I : Inst} {x : List Int} (hr : rightF I = 0) (hJ : rightF (leftK j I) = 0) (hx : x.length = I.arcs.length) :
    (yJ j I.arcs x).length = (leftK j I).arcs.length ∧ (fitsF I (xJ j I.arcs x) = 0 ↔ fitsF (leftK j I) (yJ j I.arcs x) = 0) ∧ costF I (xJ j I.arcs x) = costF (leftK j I) (yJ j I.arcs x) + offK j I := by
  rcases hj with rfl | rfl | rfl
  · have e1 : leftK 0 I = lowI I := rfl
    have e2 : offK 0 I = offAll takeLow I.arcs 0 := rfl
    rw [e1] at hJ ⊢
    rw [e2]
    have := flows_low hr hJ hx
    unfold yJ xJ
    simp only [if_true, show ¬ (0 : Int) = 2 by omega, if_false]
    exact ⟨by rw [yLow_len]; simp [lowI], this.1, this.2⟩
  · have e1 : leftK 2 I = takeI takeFix I := rfl
    have e2 : offK 2 I = offAll takeFix I.arcs 0 := rfl
    rw [e1] at hJ ⊢
    rw [e2]
    have := flows_take (x := x) (f := takeFix) hr hJ (fun a ha n hn => by
      have hb := rightF_arc hr ha
      unfold takeFix at hn
      split at hn
      · cases hn; unfold fitF inf; simp; omega
      · cases hn)
    unfold yJ xJ
    simp only [if_true, show ¬ (2 : Int) = 0 by omega, if_false]
    rw [List.drop_of_length_le (by omega), List.append_nil]
    exact ⟨by rw [yTake_len]; rfl, this.1, this.2⟩
  · have e1 : leftK 3 I = loneI I := rfl
    have e2 : offK 3 I = 0 := rfl
    rw [e1] at hJ ⊢
    rw [e2]
    have := flows_lone (x := x) hr hJ
    unfold yJ xJ
    simp only [show ¬ (3 : Int) = 0 by omega, show ¬ (3 : Int) = 2 by omega, if_false]
    rw [List.take_of_length_le (by omega)]
    exact ⟨by rw [loneI_eq hr]; simp [hx], this.1, by omega⟩
theorem J_few {j : Int} {l : List Arc} {x : List Int} (h : ∀ a ∈ l, 0 ≤ a.low ∧ a.low ≤ 2) (hx : Few x) : A64 (xJ j l x) ∧ A64 (yJ j l x) := by
  constructor
  · unfold xJ
    split
    · intro y hy
      rcases List.mem_append.1 hy with h1 | h1
      · exact (xTake_few takeFix l x (fun a ha n hn => by
          unfold takeFix at hn
          split at hn
          · cases hn; have := h a ha; omega
          · cases hn) hx).a64 y h1
      · exact hx.a64 y (List.mem_of_mem_drop h1)
    · exact hx.a64
  · unfold yJ
    split
    · exact yLow_few l x h hx
    · split
      · exact (yTake_few takeFix l x hx).a64
      · exact fun y hy => hx.a64 y (List.mem_of_mem_take hy)
theorem useOf_few {d : List Int} {k : Nat} {a : Arc} {m : Int} (h : a.Nice m) : a.low ≤ useOf d k a ∧ useOf d k a ≤ 5 ∧ useOf d k a ≤ a.cap := by
  have h1 := useOf_ok (d := d) (k := k) h
  have h2 := h.c0
  have h3 := h.l0
  refine ⟨?_, h1.2, ?_⟩ <;> unfold useOf <;> split <;> omega
theorem flow_few {I : Inst} {m : Int} (h : ∀ a ∈ I.arcs, a.Nice m) (d : List Int) : Few (flowF I d) := fun y hy => by
  unfold flowF at hy
  rw [List.mem_map] at hy
  obtain ⟨k, hk, rfl⟩ := hy
  have hk' : k < I.arcs.length := by simpa using hk
  obtain ⟨a, ha⟩ : ∃ a, I.arcs[k]? = some a := ⟨_, List.getElem?_eq_getElem hk'⟩
  rw [show I.arcs.getD k default = a by rw [List.getD_eq_getElem?_getD, ha]; rfl]
  have := useOf_ok (d := d) (k := k) (h a (List.mem_of_getElem? ha))
  omega
theorem right_A64 {I : Inst} (h : rightF I = 0) : A64a I.arcs ∧ A64c I.arcs ∧ A64 I.sup ∧ L42 I.arcs := by
  refine ⟨fun a ha => ?_, fun a ha => ?_, fun x hx => ?_, fun a ha => ?_⟩
  · have := rightF_arc h ha; unfold I64; omega
  · have := rightF_arc h ha; unfold I64; omega
  · have := (right_within h).1 x hx; unfold I64; omega
  · have := rightF_arc h ha; omega
theorem supAll_none {f : Arc → Option Int} : ∀ {l : List Arc} {s : List Int}, anyF f l = false → supAll f l s = s ∧ offAll f l 0 = 0 ∧ l.filter (fun a => (f a).isNone) = l
  | [], s, _ => ⟨rfl, rfl, rfl⟩
  | a :: l, s, h => by
    have h1 := anyF_none h (a := a) (by simp)
    have h2 : anyF f l = false := by
      unfold anyF at h ⊢
      rw [List.any_cons, Bool.or_eq_false_iff] at h
      exact h.2
    have ih := supAll_none (s := s) h2
    rw [supAll, offAll, List.filter_cons, h1]
    refine ⟨ih.1, ih.2.1, by simp only [Option.isNone_none, if_true]; rw [ih.2.2]⟩
theorem loopS_all {I : Inst} (h : (loopS I).2 = 0) : rightF I = 0 ∧ (loopS I).1.inst = takeI takeLoop I ∧ rightF (takeI takeLoop I) = 0 ∧ (loopS I).1.off = W (offAll takeLoop I.arcs 0) := by
  obtain ⟨hr, ⟨h1, h2⟩ | ⟨h1, h2, h3⟩⟩ := takeS_cases (f := takeLoop) (p := 2) (I := I) h
  · have e : (loopS I).1 = _ := h2
    obtain ⟨k1, k2, k3⟩ := supAll_none (s := I.sup) h1
    have e2 : takeI takeLoop I = I := by unfold takeI; rw [k1, k3]
    rw [e, e2, k2, W_zero]
    exact ⟨hr, rfl, hr, rfl⟩
  · have e : (loopS I).1 = _ := h3
    rw [e]; exact ⟨hr, rfl, h2, rfl⟩
theorem loop_in {a : Arc} {n : Int} (h : takeLoop a = some n) : a.src = a.dst ∧ (0 ≤ a.cost ∧ n = a.low ∨ a.cost < 0 ∧ n = a.cap ∧ ¬ a.cap = inf) := by
  unfold takeLoop at h
  split at h
  · cases h
  · rename_i h1
    split at h
    · cases h; refine ⟨?_, .inl ⟨by assumption, rfl⟩⟩; omega
    · cases h; refine ⟨by omega, .inr ⟨by omega, rfl, by omega⟩⟩
theorem loop_netL (n : Int) : ∀ (l : List Arc) (x : List Int) (v : Int), netL n l (xTake takeLoop l x) v = netL n l x v
  | [], _, _ => rfl
  | a :: l, x, v => by
    rw [xTake, netL, netL, List.headD_cons, List.tail_cons, loop_netL n l x.tail v]
    congr 1
    cases hf : takeLoop a with
    | none => rfl
    | some m =>
      have := (loop_in hf).1
      unfold flowD
      rw [this]
      (repeat' split) <;> omega
theorem loop_fitsA : ∀ (l : List Arc) (x : List Int), (∀ (k : Nat) (a : Arc), l[k]? = some a → fitF a (x.getD k 0) = true) → (∀ a ∈ l, ∀ n, takeLoop a = some n → fitF a n = true) → fitsAll l (xTake takeLoop l x) = fitsAll l x
  | [], _, _, _ => rfl
  | a :: l, x, h1, h2 => by
    rw [xTake, fitsAll, fitsAll, List.headD_cons, List.tail_cons, loop_fitsA l x.tail (fun k b hb => by rw [tail_getD]; exact h1 (k + 1) b (by simpa using hb)) (fun b hb => h2 b (by simp [hb]))]
    congr 1
    cases hf : takeLoop a with
    | none => rfl
    | some m =>
      dsimp only
      rw [h2 a (by simp) m hf, headD_getD, h1 0 a (by simp)]
theorem loop_costL : ∀ (l : List Arc) (x : List Int), (∀ (k : Nat) (a : Arc), l[k]? = some a → fitF a (x.getD k 0) = true) → costL l (xTake takeLoop l x) ≤ costL l x
  | [], _, _ => Int.le_refl _
  | a :: l, x, h1 => by
    rw [xTake, costL, costL, List.headD_cons, List.tail_cons]
    have ih := loop_costL l x.tail (fun k b hb => by rw [tail_getD]; exact h1 (k + 1) b (by simpa using hb))
    have h0 := h1 0 a (by simp)
    rw [← headD_getD] at h0
    unfold fitF at h0
    simp only [Bool.and_eq_true, decide_eq_true_eq, Bool.or_eq_true] at h0
    cases hf : takeLoop a with
    | none => dsimp only; omega
    | some m =>
      dsimp only
      have h3 : a.cost * m ≤ a.cost * x.headD 0 := by
        rcases (loop_in hf).2 with ⟨c1, rfl⟩ | ⟨c1, rfl, c3⟩
        · exact Int.mul_le_mul_of_nonneg_left h0.1 c1
        · exact Int.mul_le_mul_of_nonpos_left (by omega) (h0.2.resolve_left c3)
      omega
theorem loops_end {I : Inst} {m : Int} (hn : ∀ a ∈ I.arcs, a.Nice m) (d : List Int) (h : (loopS I).2 = 0) :
    (fitsF I (flowF I d) = 0 ↔ fitsF (loopS I).1.inst (yTake takeLoop I.arcs (flowF I d)) = 0) ∧ 0 ≤ wcmp (W (costF I (flowF I d))) (wplus (W (costF (loopS I).1.inst (yTake takeLoop I.arcs (flowF I d)))) (W (offAll takeLoop I.arcs 0))) := by
  obtain ⟨hr, e1, hJ, e2⟩ := loopS_all h
  have hF := flow_few hn d
  have hFl := flowF_len I d
  have hfit : ∀ (k : Nat) (a : Arc), I.arcs[k]? = some a → fitF a ((flowF I d).getD k 0) = true := fun k a ha => by
    have e : (flowF I d).getD k 0 = useOf d k a := by
      unfold flowF
      rw [List.getD_eq_getElem?_getD, List.getElem?_map, List.getElem?_range (get_lt ha)]
      simp [List.getD_eq_getElem?_getD, ha]
    have := useOf_few (d := d) (k := k) (hn a (List.mem_of_getElem? ha))
    rw [e]; unfold fitF; simp; omega
  have hfn : ∀ a ∈ I.arcs, ∀ n, takeLoop a = some n → fitF a n = true := fun a ha n hf => by
    have h1 := hn a ha
    have h2 := h1.c0
    unfold fitF
    rcases (loop_in hf).2 with ⟨c1, rfl⟩ | ⟨c1, rfl, c3⟩ <;> simp <;> omega
  have hft := flows_take (x := flowF I d) hr hJ hfn
  generalize flowF I d = F at *
  rw [e1]
  have hXF : Few (xTake takeLoop I.arcs F) := xTake_few _ _ _ (fun a ha n hf => by
    have h1 := hn a ha
    have h2 := h1.c0; have h3 := h1.l0; have h4 := h1.l1; have h5 := h1.c1
    rcases (loop_in hf).2 with ⟨c1, rfl⟩ | ⟨c1, rfl, c3⟩
    · omega
    · unfold inf at c3; omega) hF
  refine ⟨?_, ?_⟩
  · rw [← hft.1, fitsF_iff, fitsF_iff, loop_fitsA I.arcs F hfit hfn, xTake_len]
    have : netOk I (xTake takeLoop I.arcs F) = netOk I F := by
      rw [Bool.eq_iff_iff, netOkL_iff, netOkL_iff]
      simp only [loop_netL]
    rw [this]; simp [hFl]
  · rw [wplus_W, ← hft.2, wcmp_W (cost_I128 hr hF.a64) (cost_I128 hr hXF.a64)]
    have : costF I (xTake takeLoop I.arcs F) ≤ costF I F := by
      unfold costF; rw [costL_eq, costL_eq]; exact loop_costL I.arcs F hfit
    rw [if_neg (by omega)]
    split <;> omega
end Go.Ql
