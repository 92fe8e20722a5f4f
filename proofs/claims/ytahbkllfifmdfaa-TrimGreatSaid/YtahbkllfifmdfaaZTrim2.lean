/- Part of the proof, Trim2. -/
import Derived.Test.YtahbkllfifmdfaaZTrim
import Derived.Test.YtahbkllfifmdfaaZLaw03
set_option linter.all false
set_option linter.unusedSimpArgs false
set_option linter.unusedVariables false
namespace Go.Ql
open Go Go.Vc
def outF (p : Int) (I : Inst) (is : List Bool) (ns : List Int) : StepD × Int :=
  doneF p I (withoutF ⟨outTo is ns I I.arcs.length, I.arcs⟩ [] is) (W (outOff is ns I I.arcs.length)) (outDid is I.arcs.length)
def OutOk (I : Inst) (is : List Bool) (ns : List Int) : Prop := rightF I = 0 ∧ is.length = I.arcs.length ∧ ns.length = I.arcs.length ∧ Within 4398046511104 ns
theorem outTo_len (is : List Bool) (ns : List Int) (I : Inst) : ∀ k, (outTo is ns I k).length = I.sup.length
  | 0 => rfl
  | k + 1 => by
    rw [outTo]
    split
    · rw [fixSup_len, outTo_len is ns I k]
    · exact outTo_len is ns I k
theorem Within.get0 {b : Int} {l : List Int} (h : Within b l) (hb : 0 ≤ b) (k : Nat) : -b ≤ l.getD k 0 ∧ l.getD k 0 ≤ b := by
  by_cases hk : k < l.length
  · have := h _ (List.getElem_mem hk)
    simpa [List.getD, hk] using this
  · simp [List.getD, hk]; exact hb
theorem outTo_within {is : List Bool} {ns : List Int} {I : Inst} (hn : Within 4398046511104 ns) (hs : Within 4398046511104 I.sup) : ∀ k : Nat, Within (4398046511104 + 8796093022208 * k) (outTo is ns I k)
  | 0 => by simpa [outTo] using hs
  | k + 1 => by
    have ih := outTo_within (is := is) hn hs k
    have h2 := hn.get0 (by omega) k
    rw [outTo]
    split
    · exact (fixSup_within ih (by omega) _ h2.1 h2.2).more (by push_cast; omega)
    · exact ih.more (by push_cast; omega)
theorem outDid_succ {is : List Bool} {k : Nat} {b : Bool} (h : is[k]? = some b) : outDid is (k + 1) = (outDid is k || b) := by
  unfold outDid; rw [take_get h, List.any_append]; simp
theorem keptF_false {off : List Bool} {n : Nat} (h : ∀ j, j < n → off.getD j false = false) : keptF off n = List.range n := by
  unfold keptF
  rw [keptGo_all n 0 (fun j _ hj => h j (by omega)), List.range_eq_range']
theorem rep_false (m j : Nat) : (List.replicate m false).getD j false = false := by
  rw [List.getD_eq_getElem?_getD, List.getElem?_replicate]; split <;> rfl
theorem without_nodes (I : Inst) (m : Nat) (offs : List Bool) : withoutF I (List.replicate m false) offs = withoutF I [] offs := by
  have e : keptNodes I (List.replicate m false) = keptNodes I [] := by
    unfold keptNodes; rw [keptF_nil, keptF_false (fun j _ => rep_false m j)]
  unfold withoutF; rw [e]
theorem without_arcs (I : Inst) (m : Nat) (nodes : List Bool) : withoutF I nodes (List.replicate m false) = withoutF I nodes [] := by
  have e : keptArcs I (List.replicate m false) = keptArcs I [] := by
    unfold keptArcs; rw [keptF_nil, keptF_false (fun j _ => rep_false m j)]
  unfold withoutF; rw [e]
theorem right_in {I : Inst} (h : rightF I = 0) : ∀ a ∈ I.arcs, a.In I.sup.length := fun a ha => okArc_iff.1 (rightF_arc h ha).1
theorem lowArc_ends (a : Arc) : (lowArc a).src = a.src ∧ (lowArc a).dst = a.dst := by unfold lowArc; split <;> exact ⟨rfl, rfl⟩
theorem addAt_zero (s : List Int) (k : Nat) : addAt s k 0 = s := by
  unfold addAt
  apply List.ext_getElem?
  intro i
  rw [List.getElem?_set]
  by_cases h : k = i
  · subst h
    by_cases hk : k < s.length
    · simp [hk, List.getD_eq_getElem?_getD]
    · simp [hk]
  · simp [h]
theorem fixSup_zero (s : List Int) (a : Arc) : fixSup s a 0 = s := by
  unfold fixSup; rw [addAt_zero]; exact addAt_zero s _
theorem low_sup {I : Inst} {k : Nat} {a : Arc} (h : I.arcs[k]? = some a) : fixSup (supTo takeLow I k) a a.low = supTo takeLow I (k + 1) := by
  rw [supTo_succ h]
  unfold takeLow
  by_cases h0 : a.low = 0
  · rw [if_pos h0, h0]; exact fixSup_zero _ _
  · rw [if_neg h0]
theorem low_off {I : Inst} {k : Nat} {a : Arc} (h : I.arcs[k]? = some a) : wplus (W (offTo takeLow I k)) (W (a.low * a.cost)) = W (offTo takeLow I (k + 1)) := by
  rw [offTo_succ h, wplus_W]
  unfold takeLow
  by_cases h0 : a.low = 0
  · rw [if_pos h0, h0]; simp
  · rw [if_neg h0]
theorem low_did {I : Inst} {k : Nat} {a : Arc} (h : I.arcs[k]? = some a) : didTo takeLow I (k + 1) = (didTo takeLow I k || decide (¬ a.low = 0)) := by
  rw [didTo_succ h]
  unfold takeLow
  by_cases h0 : a.low = 0
  · rw [if_pos h0]; simp [h0]
  · rw [if_neg h0]; simp [h0]
theorem lowArc_inf {a : Arc} (h : a.cap = 4611686018427387904) : (⟨a.src, a.dst, 0, a.cap, a.cost⟩ : Arc) = lowArc a := by
  unfold lowArc inf
  by_cases h0 : a.low = 0
  · rw [if_pos h0]; cases a; simp_all
  · rw [if_neg h0, if_pos h]
theorem lowArc_cap {a : Arc} (h : ¬ a.cap = 4611686018427387904) (h1 : 0 ≤ a.low) (h2 : a.low ≤ a.cap) (h3 : a.cap ≤ 4398046511104) : (⟨a.src, a.dst, 0, IntKind.i64.wrap (a.cap - a.low), a.cost⟩ : Arc) = lowArc a := by
  unfold lowArc inf
  rw [w64 (by omega) (by omega)]
  by_cases h0 : a.low = 0
  · rw [if_pos h0]; cases a; simp_all
  · rw [if_neg h0, if_neg h]
def lowI (I : Inst) : Inst := ⟨supAll takeLow I.arcs I.sup, I.arcs.map lowArc⟩
theorem lowI_same {I : Inst} (h : rightF I = 0) (m n : Nat) : withoutF (lowI I) (List.replicate m false) (List.replicate n false) = lowI I := by
  have hs := right_small h
  rw [without_nodes, without_arcs]
  refine withoutF_nothing ?_ ?_ ?_
  · show (supAll takeLow I.arcs I.sup).length ≤ 1000; rw [supAll_len]; omega
  · show (I.arcs.map lowArc).length ≤ 1000; rw [List.length_map]; omega
  · intro a ha
    obtain ⟨b, hb, rfl⟩ := List.mem_map.1 ha
    have := right_in h b hb
    show (lowArc b).In (supAll takeLow I.arcs I.sup).length
    rw [supAll_len]
    unfold Arc.In
    rw [(lowArc_ends b).1, (lowArc_ends b).2]
    exact this
theorem lowS_done {I : Inst} (h : rightF I = 0) : doneF 1 I (lowI I) (W (offAll takeLow I.arcs 0)) (anyF takeLow I.arcs) = lowS I := by
  unfold lowS passF stepOf
  rw [if_pos h]
  show _ = doneF 1 I (withoutF (lowI I) (List.replicate I.sup.length false) (List.replicate I.arcs.length false)) _ _
  rw [lowI_same h]
  rfl
theorem outF_take {f : Arc → Option Int} {I : Inst} {p : Int} {g : Arc → Int} (h : rightF I = 0) (hg : ∀ a n, f a = some n → g a = n) : outF p I (marksOf f I.arcs) (I.arcs.map g) = passF p I (workTake f I (List.replicate I.sup.length false)) := by
  have ho := outTo_eq (f := f) (is := marksOf f I.arcs) (ns := I.arcs.map g) (I := I) rfl (fun k a n ha hf => by
    rw [List.getD_eq_getElem?_getD, List.getElem?_map, ha]; exact hg a n hf) I.arcs.length (Nat.le_refl _)
  have he := to_end f I (k := I.arcs.length) (Nat.le_refl _)
  unfold outF passF stepOf
  rw [if_pos h, ho.1, ho.2.1, ho.2.2, he.1, he.2.1, he.2.2]
  show _ = doneF p I (withoutF ⟨supAll f I.arcs I.sup, I.arcs⟩ (List.replicate I.sup.length false) (marksOf f I.arcs)) (W (offAll f I.arcs 0)) (anyF f I.arcs)
  rw [without_nodes]
theorem loop_nums {I : Inst} (h : rightF I = 0) : Within 4398046511104 (I.arcs.map fun a => (takeLoop a).getD 0) := fun x hx => by
  obtain ⟨a, ha, rfl⟩ := List.mem_map.1 hx
  have := small_loop h a ha
  cases hf : takeLoop a with
  | none => simp
  | some n => have := this n hf; exact this
theorem fix_nums {I : Inst} (h : rightF I = 0) : Within 4398046511104 (I.arcs.map fun a => a.low) := fun x hx => by
  obtain ⟨a, ha, rfl⟩ := List.mem_map.1 hx
  have := (rightF_arc h ha).2.1
  exact ⟨by omega, this.2.1⟩
theorem loopS_out {I : Inst} (h : rightF I = 0) : outF 2 I (marksOf takeLoop I.arcs) (I.arcs.map fun a => (takeLoop a).getD 0) = loopS I :=
  outF_take h (fun a n hn => by rw [hn]; rfl)
theorem fixS_out {I : Inst} (h : rightF I = 0) : outF 3 I (marksOf takeFix I.arcs) (I.arcs.map fun a => a.low) = fixS I :=
  outF_take h (fun a n hn => by unfold takeFix at hn; split at hn <;> cases hn; rfl)
theorem keptGo_all_len (off : List Bool) : ∀ (f k : Nat), (keptGo off f k).length < f ↔ ∃ j, k ≤ j ∧ j < k + f ∧ off.getD j false = true
  | 0, k => by
    constructor
    · intro h; simp [keptGo] at h
    · rintro ⟨j, h1, h2, _⟩; omega
  | f + 1, k => by
    have ih := keptGo_all_len off f (k + 1)
    unfold keptGo
    by_cases hk : off.getD k false = true
    · rw [if_pos hk]
      constructor
      · intro _; exact ⟨k, by omega, by omega, hk⟩
      · intro _
        have : (keptGo off f (k + 1)).length ≤ f := by
          have : ∀ f k, (keptGo off f k).length ≤ f := by
            intro f
            induction f with
            | zero => intro k; simp [keptGo]
            | succ f ih => intro k; have := ih (k + 1); unfold keptGo; split <;> (try simp only [List.length_cons]) <;> omega
          exact this f (k + 1)
        omega
    · rw [if_neg hk, List.length_cons]
      constructor
      · intro h
        obtain ⟨j, h1, h2, h3⟩ := ih.1 (by omega)
        exact ⟨j, by omega, by omega, h3⟩
      · rintro ⟨j, h1, h2, h3⟩
        by_cases hj : j = k
        · subst hj; exact absurd h3 hk
        · have := ih.2 ⟨j, by omega, by omega, h3⟩; omega
theorem lone_did {I : Inst} (h : rightF I = 0) (offs : List Bool) : decide ((withoutF I (loneF I) offs).sup.length < I.sup.length) = (loneF I).any id := by
  have hs := right_small h
  rw [withoutF_sup_len]
  unfold keptNodes keptF
  rw [keptN_small (by omega)]
  rw [Bool.eq_iff_iff, decide_eq_true_eq, keptGo_all_len, List.any_eq_true]
  constructor
  · rintro ⟨j, _, h2, h3⟩
    have hl : j < (loneF I).length := by simp [loneF]; omega
    refine ⟨(loneF I)[j], List.getElem_mem hl, ?_⟩
    rw [List.getD_eq_getElem?_getD, List.getElem?_eq_getElem hl] at h3
    exact h3
  · rintro ⟨b, hb, hb2⟩
    obtain ⟨j, hj, rfl⟩ := List.mem_iff_getElem.1 hb
    refine ⟨j, by omega, by simp [loneF] at hj; omega, ?_⟩
    rw [List.getD_eq_getElem?_getD, List.getElem?_eq_getElem hj]
    exact hb2
theorem loneS_done {I : Inst} (h : rightF I = 0) : doneF 4 I (withoutF I (loneF I) []) ⟨0, 0⟩ (decide ((withoutF I (loneF I) []).sup.length < I.sup.length)) = loneS I := by
  unfold loneS passF stepOf
  rw [if_pos h, lone_did h]
  show _ = doneF 4 I (withoutF I (loneF I) (List.replicate I.arcs.length false)) ⟨0, 0⟩ ((loneF I).any id)
  rw [without_arcs]
theorem pass_bad {I : Inst} (h : ¬ rightF I = 0) : lowS I = (StepD.none, rightF I) ∧ loopS I = (StepD.none, rightF I) ∧ fixS I = (StepD.none, rightF I) ∧ loneS I = (StepD.none, rightF I) :=
  ⟨passF_bad h, passF_bad h, passF_bad h, passF_bad h⟩
theorem loneAt_some {I : Inst} {g : Nat} {x : Int} (hok : OkArcs I) (hx : I.sup[g]? = some x) : loneAt I g = (decide (x = 0) && decide (((someTo I g true true I.arcs.length).length : Int) = 0)) := by
  unfold loneAt
  rw [List.getD_eq_getElem?_getD, hx, Bool.eq_iff_iff]
  have := someTo_none (n := g) hok
  by_cases ht : touchF I.arcs g = false
  · have e := this.2 ht
    rw [ht, e]; simp
  · have e : ¬ (someTo I g true true I.arcs.length).length = 0 := fun e => ht (this.1 e)
    rw [Bool.not_eq_false] at ht
    rw [ht]; simp; intro _; intro e2; exact e (by rw [e2]; rfl)
theorem loneTo_snoc (I : Inst) (g : Nat) : (List.range g).map (loneAt I) ++ [loneAt I g] = (List.range (g + 1)).map (loneAt I) := by
  rw [List.range_succ, List.map_append]; rfl
theorem withoutF_len (I : Inst) (n o : List Bool) : (withoutF I n o).sup.length ≤ 1000 ∧ (withoutF I n o).arcs.length ≤ 1000 := by
  have h1 := keptF_len n (keptN I.sup.length)
  have h2 := keptF_len o (keptN I.arcs.length)
  have h3 : ∀ n : Int, keptN n ≤ 1000 := fun n => by unfold keptN; omega
  have h4 := h3 I.sup.length
  have h5 := h3 I.arcs.length
  constructor
  · rw [withoutF_sup_len]; unfold keptNodes; omega
  · unfold withoutF keptArcs
    exact Nat.le_trans (List.length_filterMap_le _ _) (by omega)
theorem passF_small {p : Int} {I : Inst} {w : WorkD} (h1 : I.sup.length ≤ 1000000) (h2 : I.arcs.length ≤ 1000000) : StepSmall (passF p I w).1 := by
  have hw := withoutF_len w.inst w.nodes w.arcs
  unfold passF stepOf doneF StepSmall StepD.none
  split
  · split
    · split
      · exact ⟨by dsimp only; omega, by dsimp only; omega, h1, h2⟩
      · simp
    · exact ⟨h1, h2, by simp, by simp⟩
  · simp
theorem passK_small {k : Int} {I : Inst} (h1 : I.sup.length ≤ 1000000) (h2 : I.arcs.length ≤ 1000000) : StepSmall (passK k I).1 := by
  unfold passK
  split
  · exact passF_small h1 h2
  · split
    · exact passF_small h1 h2
    · split <;> exact passF_small h1 h2
theorem stepD_ext {s t : StepD} : s = t ↔ s.did = t.did ∧ [s.off.hi, s.off.lo] = [t.off.hi, t.off.lo] ∧ s.pass = t.pass ∧ s.inst = t.inst ∧ s.was = t.was := by
  constructor
  · rintro rfl; exact ⟨rfl, rfl, rfl, rfl, rfl⟩
  · rintro ⟨h1, h2, h3, h4, h5⟩
    obtain ⟨a, b, c, ⟨d, e⟩, f⟩ := s
    obtain ⟨a', b', c', ⟨d', e'⟩, f'⟩ := t
    simp only [List.cons.injEq, and_true] at h2
    simp_all
theorem doneF_stay {p : Int} {I J : Inst} {o : Wide} {d : Bool} (hd : d = false) : doneF p I J o d = (⟨I, 0, ⟨[], []⟩, ⟨0, 0⟩, false⟩, 0) := by subst hd; rfl
theorem doneF_over {p : Int} {I J : Inst} {o : Wide} {d : Bool} (hd : d = true) (h : ¬ rightF J = 0) : doneF p I J o d = (StepD.none, 40) := by subst hd; unfold doneF; rw [if_pos rfl, if_neg h]
theorem doneF_done {p : Int} {I J : Inst} {o : Wide} {d : Bool} (hd : d = true) (h : rightF J = 0) : doneF p I J o d = (⟨J, p, I, o, true⟩, 0) := by subst hd; unfold doneF; rw [if_pos rfl, if_pos h]
theorem passF_err (p : Int) (I : Inst) (w : WorkD) : (passF p I w).2 = rightF I ∨ (passF p I w).2 = 40 ∨ (passF p I w).2 = 0 := by
  unfold passF stepOf doneF
  split
  · split
    · split
      · exact .inr (.inr rfl)
      · exact .inr (.inl rfl)
    · exact .inr (.inr rfl)
  · exact .inl rfl
theorem passF_small2 (p : Int) (I : Inst) (w : WorkD) : 0 ≤ (passF p I w).2 ∧ (passF p I w).2 ≤ 40 := by
  have h := rightF_small' I
  rcases passF_err p I w with h1 | h1 | h1 <;> rw [h1] <;> omega
theorem passK_small2 (k : Int) (I : Inst) : 0 ≤ (passK k I).2 ∧ (passK k I).2 ≤ 40 := by
  unfold passK
  split
  · exact passF_small2 _ _ _
  · split
    · exact passF_small2 _ _ _
    · split <;> exact passF_small2 _ _ _
theorem passK_err (k : Int) (I : Inst) : IntKind.i64.wrap (passK k I).2 = (passK k I).2 := by
  have := passK_small2 k I
  exact w64 (by omega) (by omega)
end Go.Ql
