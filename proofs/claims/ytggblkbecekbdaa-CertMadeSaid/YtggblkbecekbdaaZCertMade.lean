/- Part of the proof, CertMade. -/
import Derived.Test.YtggblkbecekbdaaZCertOne
set_option linter.all false
set_option linter.unusedSimpArgs false
set_option linter.unusedVariables false
namespace Go.Ql
open Go Go.Vc
theorem fits_made {s x : List Int} {l : List Arc} {n : Nat} (hs : s.length = n) (hn : n ≤ 64) (hl : l.length ≤ 256) (ha : ∀ a ∈ l, a.Nice n) (hx : x.length = l.length)
    (hb : ∀ k a, l[k]? = some a → a.low ≤ x.getD k 0 ∧ x.getD k 0 ≤ 7 ∧ (a.cap = inf ∨ x.getD k 0 ≤ a.cap)) (hv : ∀ v, v < n → s.getD v 0 = netK n l x l.length v) : fitsF ⟨s, l⟩ x = 0 := by
  have hmem : ∀ y ∈ x, -7 ≤ y ∧ y ≤ 7 := fun y hy => by
    obtain ⟨k, hk⟩ := List.mem_iff_getElem?.1 hy
    have hkl := (List.getElem?_eq_some_iff.1 hk).1
    have e : x.getD k 0 = y := by rw [List.getD_eq_getElem?_getD, hk]; rfl
    have hla := List.getElem?_eq_getElem (l := l) (i := k) (by omega)
    have h1 := hb k _ hla
    have h2 := (ha _ (List.mem_of_getElem? hla)).l0
    omega
  have hnet : ∀ v : Int, -4398046511104 ≤ netK n l x l.length v ∧ netK n l x l.length v ≤ 4398046511104 := fun v => by
    have := netK_bound (n := (n : Int)) (l := l) (x := x) (v := v) (B := 7) (by omega) (fun y hy => by have := hmem y hy; omega) l.length
    omega
  have hms : s = (List.range n).map (fun v : Nat => netK n l x l.length v) := by
    apply List.ext_getElem?
    intro v
    by_cases h : v < n
    · rw [List.getElem?_map, List.getElem?_range h, List.getElem?_eq_getElem (by omega)]
      have := hv v h
      rw [List.getD_eq_getElem?_getD, List.getElem?_eq_getElem (by omega)] at this
      exact congrArg some this
    · rw [List.getElem?_eq_none (by omega), List.getElem?_eq_none (by simp; omega)]
  rw [fitsF_zero]
  refine ⟨right_of (by dsimp only; omega) hl (fun a h => by dsimp only; rw [hs]; exact (ha a h).right) (fun y hy => ?_) ?_, hx, ?_, ?_⟩
  · dsimp only at hy
    rw [hms, List.mem_map] at hy
    obtain ⟨v, _, rfl⟩ := hy
    exact hnet v
  · dsimp only
    rw [hms, sum_map_range, netK_sum]
  · rw [fitsAll_iff]
    intro j a hj
    have h1 := hb j a hj
    have h2 := (ha a (List.mem_of_getElem? hj)).l0
    unfold fitF
    simp only [Bool.and_eq_true, Bool.or_eq_true, decide_eq_true_eq]
    unfold inf at h1
    omega
  · rw [netOk_iff]
    dsimp only
    rw [hs]
    intro v h
    rw [hv v h]
def madeA (a : Arc) (r : Int) : Arc := if r < 0 ∧ a.cap = inf then { a with cap := a.low + 2 } else a
def madeX (a : Arc) (r f : Int) : Int := if r < 0 then (madeA a r).cap else if 0 < r then a.low else f
structure MadeI (I : Inst) (P F : List Int) (k : Nat) (B : List Arc) (y : List Int) : Prop where
  lb : B.length = I.arcs.length
  ly : y.length = I.arcs.length
  b : ∀ j, j < I.arcs.length → B.getD j default = if j < k then madeA (I.arcs.getD j default) (redF I P j) else I.arcs.getD j default
  y : ∀ j, j < I.arcs.length → y.getD j 0 = if j < k then madeX (I.arcs.getD j default) (redF I P j) (F.getD j 0) else F.getD j 0
theorem MadeI.zero {I : Inst} {P F : List Int} (h : F.length = I.arcs.length) : MadeI I P F 0 I.arcs F := ⟨rfl, h, fun j _ => by simp, fun j _ => by simp⟩
theorem getD_set' {α : Type} (l : List α) (k j : Nat) (v d : α) (h : k < l.length) : (l.set k v).getD j d = if j = k then v else l.getD j d := by
  rw [List.getD_eq_getElem?_getD, List.getD_eq_getElem?_getD, List.getElem?_set]
  by_cases hjk : k = j
  · subst hjk; simp [h]
  · rw [if_neg hjk, if_neg (fun e => hjk e.symm)]
theorem MadeI.next {I : Inst} {P F : List Int} {k : Nat} {B : List Arc} {y : List Int} (h : MadeI I P F k B y) (hk : k < I.arcs.length) {B' : List Arc} {y' : List Int}
    (hB : B' = B.set k (madeA (I.arcs.getD k default) (redF I P k))) (hy : y' = y.set k (madeX (I.arcs.getD k default) (redF I P k) (F.getD k 0))) : MadeI I P F (k + 1) B' y' := by
  subst hB hy
  refine ⟨by rw [List.length_set]; exact h.lb, by rw [List.length_set]; exact h.ly, fun j hj => ?_, fun j hj => ?_⟩
  · rw [getD_set' _ _ _ _ _ (by rw [h.lb]; exact hk), h.b j hj]
    by_cases e : j = k
    · subst e; simp
    · rw [if_neg e]
      by_cases e2 : j < k
      · rw [if_pos e2, if_pos (by omega)]
      · rw [if_neg e2, if_neg (by omega)]
  · rw [getD_set' _ _ _ _ _ (by rw [h.ly]; exact hk), h.y j hj]
    by_cases e : j = k
    · subst e; simp
    · rw [if_neg e]
      by_cases e2 : j < k
      · rw [if_pos e2, if_pos (by omega)]
      · rw [if_neg e2, if_neg (by omega)]
theorem MadeI.same {I : Inst} {P F : List Int} {k : Nat} {B : List Arc} {y : List Int} (h : MadeI I P F k B y) (hk : k < I.arcs.length) : B.getD k default = I.arcs.getD k default ∧ y.getD k 0 = F.getD k 0 := by
  have h1 := h.b k hk; have h2 := h.y k hk
  rw [if_neg (Nat.lt_irrefl _)] at h1 h2
  exact ⟨h1, h2⟩
theorem madeA_nice {m : Int} {a : Arc} (h : a.Nice m) (r : Int) : (madeA a r).Nice m := by
  unfold madeA
  split
  · have := h.l0; have := h.l1
    exact ⟨h.s0, h.s1, h.d0, h.d1, h.l0, h.l1, by dsimp only; omega, by dsimp only; omega, h.k0, h.k1⟩
  · exact h
theorem madeA_ends (a : Arc) (r : Int) : (madeA a r).src = a.src ∧ (madeA a r).dst = a.dst ∧ (madeA a r).low = a.low ∧ (madeA a r).cost = a.cost := by
  unfold madeA; split <;> exact ⟨rfl, rfl, rfl, rfl⟩
theorem redF_made {I : Inst} {P F : List Int} {k : Nat} {B : List Arc} {y s : List Int} (h : MadeI I P F k B y) (hs : s.length = I.sup.length) (a : Int) : redF ⟨s, B⟩ P a = redF I P a := by
  unfold redF gOk
  dsimp only
  rw [hs, h.lb]
  by_cases ha : 0 ≤ a ∧ a < I.arcs.length
  · obtain ⟨j, rfl⟩ := Int.eq_ofNat_of_zero_le ha.1
    have hj : j < I.arcs.length := by omega
    have e := h.b j hj
    have hends : (B.getD j default).src = (I.arcs.getD j default).src ∧ (B.getD j default).dst = (I.arcs.getD j default).dst ∧ (B.getD j default).cost = (I.arcs.getD j default).cost := by
      rw [e]
      split
      · have := madeA_ends (I.arcs.getD j default) (redF I P j); exact ⟨this.1, this.2.1, this.2.2.2⟩
      · exact ⟨rfl, rfl, rfl⟩
    have ho : okArc (I.sup.length : Int) (B.getD ((j : Int).toNat) default) = okArc (I.sup.length : Int) (I.arcs.getD ((j : Int).toNat) default) := by
      rw [Int.toNat_natCast]
      unfold okArc
      rw [hends.1, hends.2.1]
    rw [ho]
    by_cases h2 : (decide ((0 : Int) ≤ (j : Int)) && decide ((j : Int) < (I.arcs.length : Int)) && okArc (I.sup.length : Int) (I.arcs.getD ((j : Int).toNat) default)) = true
    · rw [if_pos h2, if_pos h2]
      have g1 : gOk (I.sup.length : Int) B (j : Int) = true := by unfold gOk; rw [h.lb, ho]; exact h2
      have g2 : gOk (I.sup.length : Int) I.arcs (j : Int) = true := h2
      unfold atF atT atA gArc
      dsimp only
      rw [hs, g1, g2]
      simp only [if_true, Int.toNat_natCast]
      unfold redA
      rw [hends.1, hends.2.1, hends.2.2]
    · rw [if_neg h2, if_neg h2]
  · have : (decide ((0 : Int) ≤ a) && decide (a < (I.arcs.length : Int))) = false := by
      rw [Bool.and_eq_false_iff, decide_eq_false_iff_not, decide_eq_false_iff_not]; omega
    rw [this]; simp
theorem MadeI.nice {I : Inst} {P F : List Int} {k : Nat} {B : List Arc} {y : List Int} (h : MadeI I P F k B y) {m : Int} (hn : ∀ a ∈ I.arcs, a.Nice m) : ∀ a ∈ B, a.Nice m := fun a ha => by
  obtain ⟨j, hj⟩ := List.mem_iff_getElem?.1 ha
  have hjl : j < I.arcs.length := by have := (List.getElem?_eq_some_iff.1 hj).1; rw [h.lb] at this; exact this
  have e := h.b j hjl
  rw [List.getD_eq_getElem?_getD, hj] at e
  have hm : I.arcs.getD j default ∈ I.arcs := by rw [List.getD_eq_getElem?_getD, List.getElem?_eq_getElem hjl]; exact List.getElem_mem hjl
  change a = _ at e
  rw [e]
  split
  · exact madeA_nice (hn _ hm) _
  · exact hn _ hm
theorem MadeI.a64 {I : Inst} {P F : List Int} {k : Nat} {B : List Arc} {y : List Int} (h : MadeI I P F k B y) {m : Int} (hn : ∀ a ∈ I.arcs, a.Nice m) (hF : A64 F) : A64 y := fun u hu => by
  obtain ⟨j, hj⟩ := List.mem_iff_getElem?.1 hu
  have hjl : j < I.arcs.length := by have := (List.getElem?_eq_some_iff.1 hj).1; rw [h.ly] at this; exact this
  have e := h.y j hjl
  rw [List.getD_eq_getElem?_getD, hj] at e
  have hm : I.arcs.getD j default ∈ I.arcs := by rw [List.getD_eq_getElem?_getD, List.getElem?_eq_getElem hjl]; exact List.getElem_mem hjl
  have hf := hF.getD j
  change u = _ at e
  rw [e]
  split
  · have h1 := madeA_nice (hn _ hm) (redF I P j)
    have h2 := hn _ hm
    have := h1.c0; have := h1.c1; have := h1.l0; have := h2.l0; have := h2.l1; have := h1.l1
    unfold madeX
    split
    · unfold I64; omega
    · split
      · unfold I64; omega
      · exact hf
  · exact hf
theorem MadeI.seven {I : Inst} {P F : List Int} {B : List Arc} {y : List Int} (h : MadeI I P F I.arcs.length B y) {m : Int} (hn : ∀ a ∈ I.arcs, a.Nice m) (hF : ∀ k a, I.arcs[k]? = some a → a.low ≤ F.getD k 0 ∧ F.getD k 0 ≤ 7 ∧ (a.cap = inf ∨ F.getD k 0 ≤ a.cap)) : ∀ u ∈ y, -7 ≤ u ∧ u ≤ 7 := fun u hu => by
  obtain ⟨j, hj⟩ := List.mem_iff_getElem?.1 hu
  have hjl : j < I.arcs.length := by have := (List.getElem?_eq_some_iff.1 hj).1; rw [h.ly] at this; exact this
  have e := h.y j hjl
  rw [List.getD_eq_getElem?_getD, hj, if_pos hjl] at e
  have ho : I.arcs[j]? = some (I.arcs.getD j default) := by rw [List.getD_eq_getElem?_getD, List.getElem?_eq_getElem hjl]; rfl
  have f1 := hF j _ ho
  have hN := hn _ (List.mem_of_getElem? ho)
  change u = _ at e
  rw [e]
  have := hN.l0; have := hN.l1; have := hN.c0; have := hN.c1
  unfold madeX madeA
  generalize redF I P j = r at *
  generalize F.getD j 0 = f at *
  generalize I.arcs.getD j default = a at *
  have hi : inf = 4611686018427387904 := rfl
  by_cases c1 : r < 0
  · by_cases c2 : a.cap = inf
    · simp only [c1, c2, and_self, if_true]; omega
    · simp only [c1, c2, and_false, if_false, if_true]; omega
  · simp only [c1, false_and, if_false]
    split <;> omega
theorem flow_in {I : Inst} {m : Int} (hn : ∀ a ∈ I.arcs, a.Nice m) (d : List Int) : ∀ k a, I.arcs[k]? = some a → a.low ≤ (flowF I d).getD k 0 ∧ (flowF I d).getD k 0 ≤ 7 ∧ (a.cap = inf ∨ (flowF I d).getD k 0 ≤ a.cap) := fun k a ha => by
  have hk := (List.getElem?_eq_some_iff.1 ha).1
  have e : (flowF I d).getD k 0 = useOf d k a := by
    unfold flowF
    rw [List.getD_eq_getElem?_getD, List.getElem?_map, List.getElem?_range hk]
    show useOf d k (I.arcs.getD k default) = _
    rw [List.getD_eq_getElem?_getD, ha]; rfl
  have hN := hn _ (List.mem_of_getElem? ha)
  have := hN.l0; have := hN.l1; have := hN.c0; have := hN.c1
  rw [e]
  unfold useOf inf
  split <;> omega
theorem redF_few {I : Inst} {P : List Int} {m : Int} (hn : ∀ a ∈ I.arcs, a.Nice m) (hP : ∀ y ∈ P, -8 ≤ y ∧ y ≤ 16) (k : Nat) : -1000 ≤ redF I P k ∧ redF I P k ≤ 1000 := by
  have hg : ∀ j, -8 ≤ P.getD j 0 ∧ P.getD j 0 ≤ 16 := fun j => by
    rw [List.getD_eq_getElem?_getD]
    cases e : P[j]? with
    | none => exact ⟨by decide, by decide⟩
    | some u => exact hP u (List.mem_of_getElem? e)
  unfold redF
  by_cases h : gOk I.sup.length I.arcs (k : Int) = true
  · rw [if_pos h]
    unfold atF atT atA gArc
    simp only [h, if_true]
    have hk : k < I.arcs.length := by
      unfold gOk at h
      simp only [Bool.and_eq_true, decide_eq_true_eq] at h
      omega
    have hN := hn (I.arcs.getD k default) (by rw [List.getD_eq_getElem?_getD, List.getElem?_eq_getElem hk]; exact List.getElem_mem hk)
    rw [Int.toNat_natCast]
    unfold redA
    have h1 := hg (I.arcs.getD k default).src.toNat
    have h2 := hg (I.arcs.getD k default).dst.toNat
    have := hN.k0; have := hN.k1
    omega
  · rw [if_neg h]; omega
theorem made_best {I : Inst} {P F s y : List Int} {B : List Arc} (h : MadeI I P F I.arcs.length B y) (hn : ∀ a ∈ I.arcs, a.Nice I.sup.length) (h1 : I.sup.length ≤ 64) (h2 : I.arcs.length ≤ 256)
    (hP : P.length = I.sup.length) (hr : ∀ k : Nat, -1000 ≤ redF I P k ∧ redF I P k ≤ 1000) (hF : ∀ k a, I.arcs[k]? = some a → a.low ≤ F.getD k 0 ∧ F.getD k 0 ≤ 7 ∧ (a.cap = inf ∨ F.getD k 0 ≤ a.cap))
    (hs : s.length = I.sup.length) (hv : ∀ v, v < I.sup.length → s.getD v 0 = netK I.sup.length B y B.length v) :
    checkF ⟨s, B⟩ ⟨1, y, P, [], []⟩ = 0 := by
  have hb : ∀ k a, B[k]? = some a → k < I.arcs.length ∧ a = madeA (I.arcs.getD k default) (redF I P k) ∧ I.arcs[k]? = some (I.arcs.getD k default) ∧ y.getD k 0 = madeX (I.arcs.getD k default) (redF I P k) (F.getD k 0) := fun k a ha => by
    have hk : k < I.arcs.length := by have := (List.getElem?_eq_some_iff.1 ha).1; rw [h.lb] at this; exact this
    have e := h.b k hk
    rw [if_pos hk, List.getD_eq_getElem?_getD, ha] at e
    have e2 := h.y k hk
    rw [if_pos hk] at e2
    exact ⟨hk, e, by rw [List.getD_eq_getElem?_getD, List.getElem?_eq_getElem hk]; rfl, e2⟩
  have hfit : fitsF ⟨s, B⟩ y = 0 := by
    refine fits_made hs h1 (by rw [h.lb]; exact h2) (fun a ha => ?_) (by rw [h.ly, h.lb]) (fun k a ha => ?_) hv
    · obtain ⟨k, hk⟩ := List.mem_iff_getElem?.1 ha
      obtain ⟨hkl, rfl, ho, -⟩ := hb k a hk
      exact madeA_nice (hn _ (List.mem_of_getElem? ho)) _
    · obtain ⟨hkl, rfl, ho, hy⟩ := hb k a ha
      have hN := hn _ (List.mem_of_getElem? ho)
      have f1 := hF k _ ho
      have := hN.l0; have := hN.l1; have := hN.c0; have := hN.c1
      rw [hy]
      unfold madeX madeA
      generalize redF I P k = r at *
      generalize F.getD k 0 = f at *
      generalize I.arcs.getD k default = a at *
      have hi : inf = 4611686018427387904 := rfl
      by_cases c1 : r < 0
      · by_cases c2 : a.cap = inf
        · simp only [c1, c2, and_self, if_true]; omega
        · simp only [c1, c2, and_false, if_false, if_true]; omega
      · simp only [c1, false_and, if_false]
        split <;> omega
  have hsl : slackF ⟨s, B⟩ y P = 0 := by
    unfold slackF
    dsimp only
    rw [if_neg (fun e => e hfit), if_neg (by rw [hP, hs]; simp), if_pos]
    rw [List.all_eq_true]
    intro k hk
    have hk := List.mem_range.1 hk
    rw [h.lb] at hk
    have hbk : B[k]? = some (B.getD k default) := by rw [List.getD_eq_getElem?_getD, List.getElem?_eq_getElem (by rw [h.lb]; exact hk)]; rfl
    obtain ⟨hkl, e1, ho, hy⟩ := hb k _ hbk
    have hN := hn _ (List.mem_of_getElem? ho)
    have hrk := hr k
    unfold slackK
    dsimp only
    rw [redF_made h hs, hy, e1]
    unfold slackA
    have hsg : sgn (redF I P k) = if redF I P k < 0 then -1 else if 0 < redF I P k then 1 else 0 := by
      unfold sgn
      rw [wcmp_W (by unfold I128; omega) (by unfold I128; omega)]
    rw [hsg]
    generalize redF I P k = r at *
    generalize F.getD k 0 = f at *
    generalize I.arcs.getD k default = a at *
    have := hN.l0; have := hN.l1; have := hN.c0; have := hN.c1
    have hi : inf = 4611686018427387904 := rfl
    unfold madeX madeA
    by_cases c1 : r < 0
    · by_cases c2 : a.cap = inf
      · have : ¬ a.low + 2 = inf := by omega
        simp [c1, c2, this]
      · simp [c1, c2]
    · by_cases c3 : 0 < r
      · simp [c1, c3]
      · simp [c1, c3]
  unfold checkF
  rw [if_neg (fun e => e (fitsF_zero.1 hfit).1)]
  dsimp only
  rw [if_neg (by simp [plainF]), if_pos rfl]
  exact hsl
end Go.Ql
