/- Part of the proof, FA4. -/
import Derived.Test.YtggblkbecekbdaaZFA3
import Derived.Test.YtggblkbecekbdaaZDA4
import Derived.Test.YtggblkbecekbdaaZVc11
set_option linter.unusedVariables false
set_option linter.all false
set_option linter.unusedSimpArgs false
set_option maxRecDepth 100000
namespace Go.Proofs.Ytggblkbecekbdaa
open Go Go.RowKit Go.Ql Go.Vc
theorem set_addAt {s : List Int} {k : Nat} {v x : Int} (h : s[k]? = some v) : s.set k (v + x) = addAt s k x := by
  unfold addAt; simp [List.getD, h]
theorem instStep {m : Nat} {s : List Int} {i j : Nat} {u y z : Int} (hw : Within (10 * m) s) (hm : m ≤ 18) (hu : 0 ≤ u) (hu5 : u ≤ 5) (hy : s[i]? = some y)
    (hz : (s.set i (IntKind.i64.wrap (y + u)))[j]? = some z) :
    (s.set i (IntKind.i64.wrap (y + u))).set j (IntKind.i64.wrap (z - u)) = addAt (addAt s i u) j (-u) ∧ Within (10 * (m + 1 : Nat)) (addAt (addAt s i u) j (-u)) := by
  have h1 := hw y (List.mem_of_getElem? hy)
  rw [w64 (by omega) (by omega), set_addAt hy] at hz ⊢
  have hw1 := hw.addAt (by omega) i (x := u) (y := 5) (by omega) (by omega)
  have h2 := hw1 z (List.mem_of_getElem? hz)
  rw [w64 (by omega) (by omega), show z - u = z + -u by omega, set_addAt hz]
  exact ⟨rfl, (hw1.addAt (by omega) j (x := -u) (y := 5) (by omega) (by omega)).more (by omega)⟩
abbrev Inst_a0 (d : List Int) := (True ∧ (0 : Nat) = (0 : Nat) ∧ (↑(nOf d) : Int) = (↑(nOf d) : Int) ∧ (0 : Nat) = (0 : Nat) ∧ True)
abbrev Inst_a1 (d : List Int) := ((↑(nOf d) : Int) = (↑(nOf d) : Int) ∧ (0 : Int) ≤ (↑(nOf d) : Int) ∧ (↑(nOf d) : Int) ≤ (1000000000 : Int))
abbrev Inst_a2 (g : Nat × List Int) (x : Arc) (x_2 : Int) (x_1 : Int) := (g.2.set x.src.toNat
 (IntKind.i64.wrap
 (x_2 + min (IntKind.i64.wrap (x.low + IntKind.i64.wrap (x_1.tmod (4 : Int)))) x.cap)))
abbrev Inst_a3 (c : List Int) (d : List Int) := (Bytes c ∧ (1 : Int) ≤ (↑(nOf d) : Int) ∧ (↑(nOf d) : Int) ≤ (1000 : Int))
abbrev Inst_a4 (x_1 : Int) (x : Int) := (IntKind.i64.wrap (x_1 + IntKind.i64.wrap (x.tmod (3 : Int))))
abbrev Inst_a5 (g : Nat × List Int) (x : Arc) (x_1 : Int) := (g.2.set x.src.toNat (IntKind.i64.wrap (x_1 + x.low)))
abbrev Inst_a6 (g' : Nat × List Int) (c : List Int) (d : List Int) := (g'.fst ≤ (arcsF c (↑(nOf d) : Int)).length ∧
 g'.snd.length = nOf d ∧
 Within ((10 : Int) * (↑g'.fst : Int)) g'.snd ∧
 supGo d (List.drop g'.fst (arcsF c (↑(nOf d) : Int))) g'.fst g'.snd = sup1 c d)
abbrev Inst_a7 (d : List Int) := (IntKind.i64.wrap ((↑(nOf d) : Int) - (1 : Int)))
def Inst_E0 (c : List Int) (d : List Int) (ty0 ty1 : TypeId) : Prop :=
      ((decide ((↑d.length : Int) > (0 : Int)) = true →
 ((0 : Int) ≤ (0 : Int) ∧ (0 : Int) < (↑d.length : Int)) ∧
 Int.toNat (0 : Int) < d.length ∧
 ∀ (x : Int),
 d[Int.toNat (0 : Int)]? = some x →
 (7 : Int) ≠ (0 : Int) ∧
 ∃ (g : Unit),
 True ∧
 (True ∧ True ∧ (0 : Nat) = (0 : Nat) ∧ IntKind.i64.wrap ((1 : Int) + IntKind.i64.wrap (x.tmod (7 : Int))) = (↑(nOf d) : Int) ∧ True) ∧
 (True ∧ True ∧ True) ∧ nilEq Int ∧ nilEq Arc ∧ c = c ∧ d = d ∧ True) ∧
 (decide ((↑d.length : Int) > (0 : Int)) = false →
 ∃ (g : Unit), True ∧ (True ∧ True ∧ (0 : Nat) = (0 : Nat) ∧ (1 : Int) = (↑(nOf d) : Int) ∧ True) ∧ (True ∧ True ∧ True) ∧ nilEq Int ∧ nilEq Arc ∧ c = c ∧ d = d ∧ True)) ∧
 ∀ (g : Unit),
 True →
 (((Inst_a1 d) ∧
 ((Inst_a3 c d) ∧
 ∃ (g : Unit),
 True ∧
 (Inst_a0 d) ∧
 (True ∧ True ∧ True) ∧
 arcsF c (↑(nOf d) : Int) = arcsF c (↑(nOf d) : Int) ∧
 List.replicate (↑(nOf d) : Int).toNat (0 : Int) = List.replicate (↑(nOf d) : Int).toNat (0 : Int) ∧
 (True ∧ True ∧ True) ∧ nilEq Int ∧ nilEq Arc ∧ d = d ∧ True) ∧
 (Inst_a3 c d) ∧
 ∃ (g : Unit),
 True ∧
 (Inst_a0 d) ∧
 (True ∧ True ∧ True) ∧
 arcsF c (↑(nOf d) : Int) = arcsF c (↑(nOf d) : Int) ∧
 List.replicate (↑(nOf d) : Int).toNat (0 : Int) = List.replicate (↑(nOf d) : Int).toNat (0 : Int) ∧
 (True ∧ True ∧ True) ∧ nilEq Int ∧ nilEq Arc ∧ d = d ∧ True) ∧
 ((Inst_a3 c d) ∧
 ((Inst_a1 d) ∧
 ∃ (g : Unit),
 True ∧
 (Inst_a0 d) ∧
 (True ∧ True ∧ True) ∧
 arcsF c (↑(nOf d) : Int) = arcsF c (↑(nOf d) : Int) ∧
 List.replicate (↑(nOf d) : Int).toNat (0 : Int) = List.replicate (↑(nOf d) : Int).toNat (0 : Int) ∧
 (True ∧ True ∧ True) ∧ nilEq Int ∧ nilEq Arc ∧ d = d ∧ True) ∧
 (Inst_a1 d) ∧
 ∃ (g : Unit),
 True ∧
 (Inst_a0 d) ∧
 (True ∧ True ∧ True) ∧
 arcsF c (↑(nOf d) : Int) = arcsF c (↑(nOf d) : Int) ∧
 List.replicate (↑(nOf d) : Int).toNat (0 : Int) = List.replicate (↑(nOf d) : Int).toNat (0 : Int) ∧
 (True ∧ True ∧ True) ∧ nilEq Int ∧ nilEq Arc ∧ d = d ∧ True) ∧
 ((Inst_a1 d) ∧
 (Inst_a3 c d) ∧
 ∃ (g : Unit),
 True ∧
 (Inst_a0 d) ∧
 (True ∧ True ∧ True) ∧
 arcsF c (↑(nOf d) : Int) = arcsF c (↑(nOf d) : Int) ∧
 List.replicate (↑(nOf d) : Int).toNat (0 : Int) = List.replicate (↑(nOf d) : Int).toNat (0 : Int) ∧
 (True ∧ True ∧ True) ∧ nilEq Int ∧ nilEq Arc ∧ d = d ∧ True) ∧
 (Inst_a3 c d) ∧
 (Inst_a1 d) ∧
 ∃ (g : Unit),
 True ∧
 (Inst_a0 d) ∧
 (True ∧ True ∧ True) ∧
 arcsF c (↑(nOf d) : Int) = arcsF c (↑(nOf d) : Int) ∧
 List.replicate (↑(nOf d) : Int).toNat (0 : Int) = List.replicate (↑(nOf d) : Int).toNat (0 : Int) ∧
 (True ∧ True ∧ True) ∧ nilEq Int ∧ nilEq Arc ∧ d = d ∧ True) ∧
 ∀ (g : Unit),
 True →
 ∃ (g0 : Nat × List Int),
 ((g0.fst ≤ (arcsF c (↑(nOf d) : Int)).length ∧
 g0.snd.length = nOf d ∧ Within ((10 : Int) * (↑g0.fst : Int)) g0.snd ∧ supGo d (List.drop g0.fst (arcsF c (↑(nOf d) : Int))) g0.fst g0.snd = sup1 c d) ∧
 (True ∧ (0 : Nat) = (0 : Nat) ∧ (↑(nOf d) : Int) = (↑(nOf d) : Int) ∧ (0 : Nat) = (0 : Nat) ∧ (0 : Int) = (↑g0.1 : Int) ∧ True) ∧
 (True ∧ True ∧ True) ∧
 arcsF c (↑(nOf d) : Int) = arcsF c (↑(nOf d) : Int) ∧
 List.replicate (↑(nOf d) : Int).toNat (0 : Int) = g0.2 ∧ (True ∧ True ∧ True) ∧ nilEq Int ∧ nilEq Arc ∧ d = d ∧ True) ∧
 ∀ (g : Nat × List Int),
 g.fst ≤ (arcsF c (↑(nOf d) : Int)).length ∧
 g.snd.length = nOf d ∧ Within ((10 : Int) * (↑g.fst : Int)) g.snd ∧ supGo d (List.drop g.fst (arcsF c (↑(nOf d) : Int))) g.fst g.snd = sup1 c d →
 (decide ((↑g.1 : Int) < (↑(arcsF c (↑(nOf d) : Int)).length : Int)) = true →
 ((0 : Int) ≤ (↑g.1 : Int) ∧ (↑g.1 : Int) < (↑(arcsF c (↑(nOf d) : Int)).length : Int)) ∧
 (↑g.1 : Int).toNat < (arcsF c (↑(nOf d) : Int)).length ∧
 ∀ (x : Arc),
 (arcsF c (↑(nOf d) : Int))[(↑g.1 : Int).toNat]? = some x →
 (decide (IntKind.i64.wrap ((↑g.1 : Int) + (1 : Int)) < (↑d.length : Int)) = true →
 ((0 : Int) ≤ IntKind.i64.wrap ((↑g.1 : Int) + (1 : Int)) ∧ IntKind.i64.wrap ((↑g.1 : Int) + (1 : Int)) < (↑d.length : Int)) ∧
 (IntKind.i64.wrap ((↑g.1 : Int) + (1 : Int))).toNat < d.length ∧
 ∀ (x_1 : Int),
 d[(IntKind.i64.wrap ((↑g.1 : Int) + (1 : Int))).toNat]? = some x_1 →
 (4 : Int) ≠ (0 : Int) ∧
 ((0 : Int) ≤ x.src ∧ x.src < (↑g.2.length : Int)) ∧
 x.src.toNat < g.2.length ∧
 ∀ (x_2 : Int),
 g.2[x.src.toNat]? = some x_2 →
 ((0 : Int) ≤ x.src ∧ x.src < (↑g.2.length : Int)) ∧
 x.src.toNat < g.2.length ∧
 ((0 : Int) ≤ x.dst ∧
 x.dst <
 (↑(Inst_a2 g x x_2 x_1).length :
 Int)) ∧
 x.dst.toNat <
 (Inst_a2 g x x_2 x_1).length ∧
 ∀ (x_3 : Int),
 (Inst_a2 g x x_2 x_1)[x.dst.toNat]? =
 some x_3 →
 ((0 : Int) ≤ x.dst ∧
 x.dst <
 (↑(Inst_a2 g x x_2 x_1).length :
 Int)) ∧
 x.dst.toNat <
 (Inst_a2 g x x_2 x_1).length ∧
 ∃ (g' : Nat × List Int),
 (Inst_a6 g' c d) ∧
 (arcsF c (↑(nOf d) : Int)).length - g'.fst < (arcsF c (↑(nOf d) : Int)).length - g.fst ∧
 (True ∧
 (0 : Nat) = (0 : Nat) ∧
 (↑(nOf d) : Int) = (↑(nOf d) : Int) ∧
 (0 : Nat) = (0 : Nat) ∧ IntKind.i64.wrap ((↑g.1 : Int) + (1 : Int)) = (↑g'.1 : Int) ∧ True) ∧
 (True ∧ True ∧ True) ∧
 arcsF c (↑(nOf d) : Int) = arcsF c (↑(nOf d) : Int) ∧
 (g.2.set x.src.toNat
 (IntKind.i64.wrap
 (x_2 +
 min (IntKind.i64.wrap (x.low + IntKind.i64.wrap (x_1.tmod (4 : Int)))) x.cap))).set
 x.dst.toNat
 (IntKind.i64.wrap
 (x_3 - min (IntKind.i64.wrap (x.low + IntKind.i64.wrap (x_1.tmod (4 : Int)))) x.cap)) =
 g'.2 ∧
 (True ∧ True ∧ True) ∧ nilEq Int ∧ nilEq Arc ∧ d = d ∧ True) ∧
 (decide (IntKind.i64.wrap ((↑g.1 : Int) + (1 : Int)) < (↑d.length : Int)) = false →
 ((0 : Int) ≤ x.src ∧ x.src < (↑g.2.length : Int)) ∧
 x.src.toNat < g.2.length ∧
 ∀ (x_1 : Int),
 g.2[x.src.toNat]? = some x_1 →
 ((0 : Int) ≤ x.src ∧ x.src < (↑g.2.length : Int)) ∧
 x.src.toNat < g.2.length ∧
 ((0 : Int) ≤ x.dst ∧ x.dst < (↑(Inst_a5 g x x_1).length : Int)) ∧
 x.dst.toNat < (Inst_a5 g x x_1).length ∧
 ∀ (x_2 : Int),
 (Inst_a5 g x x_1)[x.dst.toNat]? = some x_2 →
 ((0 : Int) ≤ x.dst ∧ x.dst < (↑(Inst_a5 g x x_1).length : Int)) ∧
 x.dst.toNat < (Inst_a5 g x x_1).length ∧
 ∃ (g' : Nat × List Int),
 (Inst_a6 g' c d) ∧
 (arcsF c (↑(nOf d) : Int)).length - g'.fst < (arcsF c (↑(nOf d) : Int)).length - g.fst ∧
 (True ∧
 (0 : Nat) = (0 : Nat) ∧
 (↑(nOf d) : Int) = (↑(nOf d) : Int) ∧
 (0 : Nat) = (0 : Nat) ∧ IntKind.i64.wrap ((↑g.1 : Int) + (1 : Int)) = (↑g'.1 : Int) ∧ True) ∧
 (True ∧ True ∧ True) ∧
 arcsF c (↑(nOf d) : Int) = arcsF c (↑(nOf d) : Int) ∧
 (Inst_a5 g x x_1).set x.dst.toNat (IntKind.i64.wrap (x_2 - x.low)) =
 g'.2 ∧
 (True ∧ True ∧ True) ∧ nilEq Int ∧ nilEq Arc ∧ d = d ∧ True)) ∧
 (decide ((↑g.1 : Int) < (↑(arcsF c (↑(nOf d) : Int)).length : Int)) = false →
 (decide ((↑d.length : Int) > (1 : Int)) = true →
 ((0 : Int) ≤ IntKind.i64.wrap ((↑d.length : Int) - (1 : Int)) ∧ IntKind.i64.wrap ((↑d.length : Int) - (1 : Int)) < (↑d.length : Int)) ∧
 (IntKind.i64.wrap ((↑d.length : Int) - (1 : Int))).toNat < d.length ∧
 ∀ (x : Int),
 d[(IntKind.i64.wrap ((↑d.length : Int) - (1 : Int))).toNat]? = some x →
 (5 : Int) ≠ (0 : Int) ∧
 ((x.tmod (5 : Int) == (0 : Int)) = true →
 ((0 : Int) ≤ (1 : Int) ∧ (1 : Int) < (↑d.length : Int)) ∧
 Int.toNat (1 : Int) < d.length ∧
 ∀ (x : Int),
 d[Int.toNat (1 : Int)]? = some x →
 (3 : Int) ≠ (0 : Int) ∧
 ((0 : Int) ≤ (0 : Int) ∧ (0 : Int) < (↑g.2.length : Int)) ∧
 Int.toNat (0 : Int) < g.2.length ∧
 ∀ (x_1 : Int),
 g.2[Int.toNat (0 : Int)]? = some x_1 →
 ((0 : Int) ≤ (0 : Int) ∧ (0 : Int) < (↑g.2.length : Int)) ∧
 Int.toNat (0 : Int) < g.2.length ∧
 ((0 : Int) ≤ IntKind.i64.wrap ((↑(nOf d) : Int) - (1 : Int)) ∧
 IntKind.i64.wrap ((↑(nOf d) : Int) - (1 : Int)) <
 (↑(g.2.set (Int.toNat (0 : Int)) (Inst_a4 x_1 x)).length :
 Int)) ∧
 (Inst_a7 d).toNat <
 (g.2.set (Int.toNat (0 : Int)) (Inst_a4 x_1 x)).length ∧
 ∀ (x_2 : Int),
 (g.2.set (Int.toNat (0 : Int))
 (IntKind.i64.wrap
 (x_1 +
 IntKind.i64.wrap (x.tmod (3 : Int)))))[(Inst_a7 d).toNat]? =
 some x_2 →
 ((0 : Int) ≤ IntKind.i64.wrap ((↑(nOf d) : Int) - (1 : Int)) ∧
 IntKind.i64.wrap ((↑(nOf d) : Int) - (1 : Int)) <
 (↑(g.2.set (Int.toNat (0 : Int))
 (Inst_a4 x_1 x)).length :
 Int)) ∧
 (Inst_a7 d).toNat <
 (g.2.set (Int.toNat (0 : Int))
 (Inst_a4 x_1 x)).length ∧
 ((True ∧ True ∧ True) ∧ True) ∧
 (g.2.set (Int.toNat (0 : Int)) (Inst_a4 x_1 x)).set
 (Inst_a7 d).toNat
 (IntKind.i64.wrap (x_2 - IntKind.i64.wrap (x.tmod (3 : Int)))) =
 (instF c d).sup ∧
 arcsF c (↑(nOf d) : Int) = (instF c d).arcs ∧ True) ∧
 ((x.tmod (5 : Int) == (0 : Int)) = false →
 ((True ∧ True ∧ True) ∧ True) ∧ g.2 = (instF c d).sup ∧ arcsF c (↑(nOf d) : Int) = (instF c d).arcs ∧ True)) ∧
 (decide ((↑d.length : Int) > (1 : Int)) = false →
 ((True ∧ True ∧ True) ∧ True) ∧ g.2 = (instF c d).sup ∧ arcsF c (↑(nOf d) : Int) = (instF c d).arcs ∧ True))
theorem Inst_q (c : List Int) (d : List Int) (ty0 ty1 : TypeId) : Inst_E0 c d ty0 ty1 = FVcP TT Inst_g (Inst_I c d) (Inst_an c d) Try.f10 [.row 0, .row 1] [(0, .row false ty0 (.ints .u8 c)), (1, .row false ty1 (.ints .u8 d))] (Inst_r c d) := by kernel_rfl
theorem Inst_E (c : List Int) (d : List Int) (ty0 ty1 : TypeId) (hp : Bytes c ∧ Bytes d ∧ c.length ≤ maxLen ∧ d.length ≤ maxLen) : FVc TT Inst_g (Inst_I c d) (Inst_an c d) Try.f10 [.row 0, .row 1] [(0, .row false ty0 (.ints .u8 c)), (1, .row false ty1 (.ints .u8 d))] (Inst_r c d) := by
  refine FVc.of (Inst_E0 c d ty0 ty1) (Inst_q c d ty0 ty1) ?_
  unfold Inst_E0
  delta Inst_a7 Inst_a6 Inst_a5 Inst_a4 Inst_a3 Inst_a2 Inst_a1 Inst_a0
  simp only [eq_self, exists_const, forall_const, decide_eq_true_eq, decide_eq_false_iff_not, and_true, true_and, bne_iff_ne, ne_eq, bne_eq_false_iff_eq, Int.toNat_natCast, Bool.not_eq_true', Bool.not_eq_false', beq_iff_eq, beq_eq_false_iff_ne]
  simp only [nilEq_true, and_true, true_and]
  obtain ⟨p1, p2, p3, p4⟩ := hp
  have hS := nOf_pos d
  have hL := nOf_le d
  have hA := arcsF_len c (nOf d)
  have hN := arcsF_nice c (nOf d) (by omega)
  unfold maxLen at *
  have gz : ∀ {l : List Int} {k : Nat} {v : Int}, l[k]? = some v → l.getD k 0 = v := fun h => by simp [List.getD, h]
  refine ⟨⟨fun h => ⟨by omega, by simp; omega, fun x hx => ⟨by decide, ?_⟩⟩, fun h => ?_⟩, by simp only [p1, true_and]; omega, (0, List.replicate (nOf d) 0), ⟨⟨by simp, by simp, fun x hx => by simp [List.mem_replicate] at hx; simp [hx], by simp [sup1]⟩, rfl, rfl⟩, fun g hg => ?_⟩
  · have hb := p2 x (List.mem_of_getElem? hx)
    rw [tmod_pos hb.1, w64 (x := x % 7) (by omega) (by omega), w64 (by omega) (by omega)]
    unfold nOf
    have hx' := gz hx
    simp only [Int.toNat_zero] at hx'
    rw [if_pos (by omega), hx']
    omega
  · unfold nOf; rw [if_neg (by omega)]; rfl
  obtain ⟨k, s⟩ := g
  dsimp only at hg ⊢
  obtain ⟨g1, g2, g3, g4⟩ := hg
  refine ⟨fun h1 => ⟨by omega, by omega, fun a ha => ?_⟩, fun h1 => ?_⟩
  · have hn := hN a (List.mem_of_getElem? ha)
    have n1 := hn.s0; have n2 := hn.s1; have n3 := hn.d0; have n4 := hn.d1; have n5 := hn.l0; have n6 := hn.l1; have n7 := hn.c0
    have hu := useOf_ok (d := d) (k := k) hn
    rw [drop_get ha, supGo] at g4
    have e3 : (addAt (addAt s a.src.toNat (useOf d k a)) a.dst.toNat (-(useOf d k a))).length = nOf d := by rw [addAt_len, addAt_len]; exact g2
    have hk : IntKind.i64.wrap ((k : Int) + 1) = ((k + 1 : Nat) : Int) := by rw [w64 (by omega) (by omega)]; omega
    have hk18 : k ≤ 18 := by omega
    simp only [hk, Int.toNat_natCast, List.length_set]
    refine ⟨fun h2 => ⟨by omega, by omega, fun b hb => ⟨by decide, by omega, by omega, fun y hy => ⟨by omega, by omega, by omega, by omega, fun z hz => ⟨by omega, by omega, ?_⟩⟩⟩⟩, fun h2 => ⟨by omega, by omega, fun y hy => ⟨by omega, by omega, by omega, by omega, fun z hz => ⟨by omega, by omega, ?_⟩⟩⟩⟩
    · have hbb := p2 b (List.mem_of_getElem? hb)
      have hmin : min (IntKind.i64.wrap (a.low + IntKind.i64.wrap (b.tmod 4))) a.cap = useOf d k a := by
        rw [tmod_pos hbb.1, w64 (x := b % 4) (by omega) (by omega), w64 (by omega) (by omega)]
        unfold useOf; rw [if_pos (by omega), gz hb]
      rw [hmin] at hz ⊢
      obtain ⟨e1, e2⟩ := instStep g3 hk18 hu.1 hu.2 hy hz
      rw [e1]
      exact ⟨(k + 1, addAt (addAt s a.src.toNat (useOf d k a)) a.dst.toNat (-(useOf d k a))), ⟨by dsimp only; omega, e3, e2, g4⟩, by dsimp only; omega, rfl, rfl⟩
    · have hlow : a.low = useOf d k a := by unfold useOf; rw [if_neg (by omega)]
      rw [hlow] at hz ⊢
      obtain ⟨e1, e2⟩ := instStep g3 hk18 hu.1 hu.2 hy hz
      rw [e1]
      exact ⟨(k + 1, addAt (addAt s a.src.toNat (useOf d k a)) a.dst.toNat (-(useOf d k a))), ⟨by dsimp only; omega, e3, e2, g4⟩, by dsimp only; omega, rfl, rfl⟩
  · rw [drop_end (by omega)] at g4
    simp only [supGo] at g4
    subst g4
    have hk18 : k ≤ 18 := by omega
    have t1 : Int.toNat 1 = 1 := rfl
    have t0 : Int.toNat 0 = 0 := rfl
    simp only [t1, t0]
    refine ⟨fun h2 => ?_, fun h2 => ⟨?_, rfl⟩⟩
    · have e1 : IntKind.i64.wrap ((d.length : Int) - 1) = ((d.length - 1 : Nat) : Int) := by rw [w64 (by omega) (by omega)]; omega
      have e2 : IntKind.i64.wrap ((nOf d : Int) - 1) = ((nOf d - 1 : Nat) : Int) := by rw [w64 (by omega) (by omega)]; omega
      simp only [e1, e2, Int.toNat_natCast, List.length_set]
      refine ⟨by omega, by omega, fun x hx => ⟨by decide, fun h3 => ⟨by omega, by omega, fun v hv => ⟨by decide, by omega, by omega, fun y hy => ⟨by omega, by omega, by omega, by omega, fun z hz => ⟨by omega, by omega, ?_, rfl⟩⟩⟩⟩, fun h3 => ⟨?_, rfl⟩⟩⟩
      · have hb := p2 x (List.mem_of_getElem? hx)
        have hv' := p2 v (List.mem_of_getElem? hv)
        rw [tmod_pos hb.1] at h3
        rw [tmod_pos hv'.1, w64 (x := v % 3) (by omega) (by omega)] at hz ⊢
        rw [(instStep g3 hk18 (by omega) (by omega) hy hz).1]
        unfold instF
        dsimp only
        rw [if_pos ⟨by omega, by rw [gz hx]; exact h3⟩, gz hv]
      · have hb := p2 x (List.mem_of_getElem? hx)
        rw [tmod_pos hb.1] at h3
        unfold instF
        dsimp only
        rw [if_neg (fun h => h3 (by rw [← gz hx]; exact h.2))]
    · unfold instF
      dsimp only
      rw [if_neg (fun h => h2 (by omega))]
theorem Inst_ok : SpecOk Try.prog Inst_n true (specOf true Inst_fs) :=
  spec_ok' TT_ok (show GsOk Try.prog Inst_g from gsOk_cons Arcs_ok (gsOk_nil)) (by kernel_rfl) mixedOrders Try.func10 rfl rfl (by kernel_rfl) (n := 2) (by decide +kernel) (I := Inst_IA) (fun _ _ => isOk_nil) (A := Inst_A)
    (fun args h r hr => by
      unfold Inst_fs at hr
      split at hr
      · rename_i ty0 c ty1 d; cases hr; refine ⟨rfl, fun hp => ?_⟩; have hE := Inst_E c d ty0 ty1 hp; exact hE
      · cases hr)
end Go.Proofs.Ytggblkbecekbdaa
