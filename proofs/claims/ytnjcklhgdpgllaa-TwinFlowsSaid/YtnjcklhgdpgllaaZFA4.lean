/- Part of the proof, FA4. -/
import Derived.Test.YtnjcklhgdpgllaaZFA3
import Derived.Test.YtnjcklhgdpgllaaZDA4
import Derived.Test.YtnjcklhgdpgllaaZVc11
set_option linter.unusedVariables false
set_option linter.all false
set_option linter.unusedSimpArgs false
set_option maxRecDepth 100000
namespace Go.Proofs.Ytnjcklhgdpgllaa
open Go Go.RowKit Go.Ql Go.Vc
theorem set_addAt {s : List Int} {k : Nat} {v x : Int} (h : s[k]? = some v) : s.set k (v + x) = addAt s k x := by
  unfold addAt; simp [List.getD, h]
theorem instStep {m : Nat} {s : List Int} {i j : Nat} {u y z : Int} (hw : Within (10 * m) s) (hm : m ≤ 18) (hu : 0 ≤ u) (hu5 : u ≤ 5) (hy : s[i]? = some y)
    (hz : (s.set i (IntKind.i64.wrap (y + u)))[j]? = some z) :
    (s.set i (IntKind.i64.wrap (y + u))).set j (IntKind.i64.wrap (z - u)) = addAt (addAt s i u) j (-u) ∧ Within (10 * (m + 1 : Nat)) (addAt (addAt s i u) j (-u)) := by
  have h1 := hw y (List.mem_of_getElem? hy)
  rw [w64 (by omega) (by omega), set_addAt hy] at hz ⊢
  have hw1 := hw.addAt (by omega) i (x := u) (y := 5) (by omega) (by omega)
  have h2 := hw1 z (List.mem_of_getElem? hz)
  rw [w64 (by omega) (by omega), show z - u = z + -u by omega, set_addAt hz]
  exact ⟨rfl, (hw1.addAt (by omega) j (x := -u) (y := 5) (by omega) (by omega)).more (by omega)⟩
abbrev Inst_a0 (d : List Int) := (True ∧ (0 : Nat) = (0 : Nat) ∧ (↑(nOf d) : Int) = (↑(nOf d) : Int) ∧ (0 : Nat) = (0 : Nat) ∧ True)
abbrev Inst_a1 (d : List Int) := ((↑(nOf d) : Int) = (↑(nOf d) : Int) ∧ (0 : Int) ≤ (↑(nOf d) : Int) ∧ (↑(nOf d) : Int) ≤ (1000000000 : Int))
abbrev Inst_a2 (g : Nat × List Int) (x : Arc) (x_2 : Int) (x_1 : Int) := (g.2.set x.src.toNat
 (IntKind.i64.wrap
 (x_2 + min (IntKind.i64.wrap (x.low + IntKind.i64.wrap (x_1.tmod (4 : Int)))) x.cap)))
abbrev Inst_a3 (c : List Int) (d : List Int) := (Bytes c ∧ (1 : Int) ≤ (↑(nOf d) : Int) ∧ (↑(nOf d) : Int) ≤ (1000 : Int))
abbrev Inst_a4 (x_1 : Int) (x : Int) := (IntKind.i64.wrap (x_1 + IntKind.i64.wrap (x.tmod (3 : Int))))
abbrev Inst_a5 (g : Nat × List Int) (x : Arc) (x_1 : Int) := (g.2.set x.src.toNat (IntKind.i64.wrap (x_1 + x.low)))
abbrev Inst_a6 (g' : Nat × List Int) (c : List Int) (d : List Int) := (g'.fst ≤ (arcsF c (↑(nOf d) : Int)).length ∧
 g'.snd.length = nOf d ∧
 Within ((10 : Int) * (↑g'.fst : Int)) g'.snd ∧
 supGo d (List.drop g'.fst (arcsF c (↑(nOf d) : Int))) g'.fst g'.snd = sup1 c d)
abbrev Inst_a7 (d : List Int) := (IntKind.i64.wrap ((↑(nOf d) : Int) - (1 : Int)))
def Inst_E0 (c : List Int) (d : List Int) (ty0 ty1 : TypeId) : Prop :=
      ((decide ((↑d.length : Int) > (0 : Int)) = true →
 ((0 : Int) ≤ (0 : Int) ∧ (0 : Int) < (↑d.length : Int)) ∧
 Int.toNat (0 : Int) < d.length ∧
 ∀ (x : Int),
 d[Int.toNat (0 : Int)]? = some x →
 (7 : Int) ≠ (0 : Int) ∧
 ∃ (g : Unit),
 True ∧
 (True ∧ True ∧ (0 : Nat) = (0 : Nat) ∧ IntKind.i64.wrap ((1 : Int) + IntKind.i64.wrap (x.tmod (7 : Int))) = (↑(nOf d) : Int) ∧ True) ∧
 (True ∧ True ∧ True) ∧ nilEq Int ∧ nilEq Arc ∧ c = c ∧ d = d ∧ True) ∧
 (decide ((↑d.length : Int) > (0 : Int)) = false →
 ∃ (g : Unit), True ∧ (True ∧ True ∧ (0 : Nat) = (0 : Nat) ∧ (1 : Int) = (↑(nOf d) : Int) ∧ True) ∧ (True ∧ True ∧ True) ∧ nilEq Int ∧ nilEq Arc ∧ c = c ∧ d = d ∧ True)) ∧
 ∀ (g : Unit),
 True →
 (((Inst_a1 d) ∧
 ((Inst_a3 c d) ∧
 ∃ (g : Unit),
 True ∧
 (Inst_a0 d) ∧
 (True ∧ True ∧ True) ∧
 arcsF c (↑(nOf d) : Int) = arcsF c (↑(nOf d) : Int) ∧
 List.replicate (↑(nOf d) : Int).toNat (0 : Int) = List.replicate (↑(nOf d) : Int).toNat (0 : Int) ∧
 (True ∧ True ∧ True) ∧ nilEq Int ∧ nilEq Arc ∧ d = d ∧ True) ∧
 (Inst_a3 c d) ∧
 ∃ (g : Unit),
 True ∧
 (Inst_a0 d) ∧
 (True ∧ True ∧ True) ∧
 arcsF c (↑(nOf d) : Int) = arcsF c (↑(nOf d) : Int) ∧
 List.replicate (↑(nOf d) : Int).toNat (0 : Int) = List.replicate (↑(nOf d) : Int).toNat (0 : Int) ∧
 (True ∧ True ∧ True) ∧ nilEq Int ∧ nilEq Arc ∧ d = d ∧ True) ∧
 ((Inst_a3 c d) ∧
 ((Inst_a1 d) ∧
 ∃ (g : Unit),
 True ∧
 (Inst_a0 d) ∧
 (True ∧ True ∧ True) ∧
 arcsF c (↑(nOf d) : Int) = arcsF c (↑(nOf d) : Int) ∧
 List.replicate (↑(nOf d) : Int).toNat (0 : Int) = List.replicate (↑(nOf d) : Int).toNat (0 : Int) ∧
 (True ∧ True ∧ True) ∧ nilEq Int ∧ nilEq Arc ∧ d = d ∧ True) ∧
 (Inst_a1 d) ∧
 ∃ (g : Unit),
 True ∧
 (Inst_a0 d) ∧
 (True ∧ True ∧ True) ∧
 arcsF c (↑(nOf d) : Int) = arcsF c (↑(nOf d) : Int) ∧
 List.replicate (↑(nOf d) : Int).toNat (0 : Int) = List.replicate (↑(nOf d) : Int).toNat (0 : Int) ∧
 (True ∧ True ∧ True) ∧ nilEq Int ∧ nilEq Arc ∧ d = d ∧ True) ∧
 ((Inst_a1 d) ∧
 (Inst_a3 c d) ∧
 ∃ (g : Unit),
 True ∧
 (Inst_a0 d) ∧
 (True ∧ True ∧ True) ∧
 arcsF c (↑(nOf d) : Int) = arcsF c (↑(nOf d) : Int) ∧
 List.replicate (↑(nOf d) : Int).toNat (0 : Int) = List.replicate (↑(nOf d) : Int).toNat (0 : Int) ∧
 (True ∧ True ∧ True) ∧ nilEq Int ∧ nilEq Arc ∧ d = d ∧ True) ∧
 (Inst_a3 c d) ∧
 (Inst_a1 d) ∧
 ∃ (g : Unit),
 True ∧
 (Inst_a0 d) ∧
 (True ∧ True ∧ True) ∧
 arcsF c (↑(nOf d) : Int) = arcsF c (↑(nOf d) : Int) ∧
 List.replicate (↑(nOf d) : Int).toNat (0 : Int) = List.replicate (↑(nOf d) : Int).toNat (0 : Int) ∧
 (True ∧ True ∧ True) ∧ nilEq Int ∧ nilEq Arc ∧ d = d ∧ True) ∧
 ∀ (g : Unit),
 True →
 ∃ (g0 : Nat × List Int),
 ((g0.fst ≤ (arcsF c (↑(nOf d) : Int)).length ∧
 g0.snd.length = nOf d ∧ Within ((10 : Int) * (↑g0.fst : Int)) g0.snd ∧ supGo d (List.drop g0.fst (arcsF c (↑(nOf d) : Int))) g0.fst g0.snd = sup1 c d) ∧
 (True ∧ (0 : Nat) = (0 : Nat) ∧ (↑(nOf d) : Int) = (↑(nOf d) : Int) ∧ (0 : Nat) = (0 : Nat) ∧ (0 : Int) = (↑g0.1 : Int) ∧ True) ∧
 (True ∧ True ∧ True) ∧
 arcsF c (↑(nOf d) : Int) = arcsF c (↑(nOf d) : Int) ∧
 List.replicate (↑(nOf d) : Int).toNat (0 : Int) = g0.2 ∧ (True ∧ True ∧ True) ∧ nilEq Int ∧ nilEq Arc ∧ d = d ∧ True) ∧
 ∀ (g : Nat × List Int),
 g.fst ≤ (arcsF c (↑(nOf d) : Int)).length ∧
 g.snd.length = nOf d ∧ Within ((10 : Int) * (↑g.fst : Int)) g.snd ∧ supGo d (List.drop g.fst (arcsF c (↑(nOf d) : Int))) g.fst g.snd = sup1 c d →
 (decide ((↑g.1 : Int) < (↑(arcsF c (↑(nOf d) : Int)).length : Int)) = true →
 ((0 : Int) ≤ (↑g.1 : Int) ∧ (↑g.1 : Int) < (↑(arcsF c (↑(nOf d) : Int)).length : Int)) ∧
 (↑g.1 : Int).toNat < (arcsF c (↑(nOf d) : Int)).length ∧
 ∀ (x : Arc),
 (arcsF c (↑(nOf d) : Int))[(↑g.1 : Int).toNat]? = some x →
 (decide (IntKind.i64.wrap ((↑g.1 : Int) + (1 : Int)) < (↑d.length : Int)) = true →
 ((0 : Int) ≤ IntKind.i64.wrap ((↑g.1 : Int) + (1 : Int)) ∧ IntKind.i64.wrap ((↑g.1 : Int) + (1 : Int)) < (↑d.length : Int)) ∧
 (IntKind.i64.wrap ((↑g.1 : Int) + (1 : Int))).toNat < d.length ∧
 ∀ (x_1 : Int),
 d[(IntKind.i64.wrap ((↑g.1 : Int) + (1 : Int))).toNat]? = some x_1 →
 (4 : Int) ≠ (0 : Int) ∧
 ((0 : Int) ≤ x.src ∧ x.src < (↑g.2.length : Int)) ∧
 x.src.toNat < g.2.length ∧
 ∀ (x_2 : Int),
 g.2[x.src.toNat]? = some x_2 →
 ((0 : Int) ≤ x.src ∧ x.src < (↑g.2.length : Int)) ∧
 x.src.toNat < g.2.length ∧
 ((0 : Int) ≤ x.dst ∧
 x.dst <
 (↑(Inst_a2 g x x_2 x_1).length :
 Int)) ∧
 x.dst.toNat <
 (Inst_a2 g x x_2 x_1).length ∧
 ∀ (x_3 : Int),
 (Inst_a2 g x x_2 x_1)[x.dst.toNat]? =
 some x_3 →
 ((0 : Int) ≤ x.dst ∧
 x.dst <
 (↑(Inst_a2 g x x_2 x_1).length :
 Int)) ∧
 x.dst.toNat <
 (Inst_a2 g x x_2 x_1).length ∧
 ∃ (g' : Nat × List Int),
 (Inst_a6 g' c d) ∧
 (arcsF c (↑(nOf d) : Int)).length - g'.fst < (arcsF c (↑(nOf d) : Int)).length - g.fst ∧
 (True ∧
 (0 : Nat) = (0 : Nat) ∧
 (↑(nOf d) : Int) = (↑(nOf d) : Int) ∧
 (0 : Nat) = (0 : Nat) ∧ IntKind.i64.wrap ((↑g.1 : Int) + (1 : Int)) = (↑g'.1 : Int) ∧ True) ∧
 (True ∧ True ∧ True) ∧
 arcsF c (↑(nOf d) : Int) = arcsF c (↑(nOf d) : Int) ∧
 (g.2.set x.src.toNat
 (IntKind.i64.wrap
 (x_2 +
 min (IntKind.i64.wrap (x.low + IntKind.i64.wrap (x_1.tmod (4 : Int)))) x.cap))).set
 x.dst.toNat
 (IntKind.i64.wrap
 (x_3 - min (IntKind.i64.wrap (x.low + IntKind.i64.wrap (x_1.tmod (4 : Int)))) x.cap)) =
 g'.2 ∧
 (True ∧ True ∧ True) ∧ nilEq Int ∧ nilEq Arc ∧ d = d ∧ True) ∧
 (decide (IntKind.i64.wrap ((↑g.1 : Int) + (1 : Int)) < (↑d.length : Int)) = false →
 ((0 : Int) ≤ x.src ∧ x.src < (↑g.2.length : Int)) ∧
 x.src.toNat < g.2.length ∧
 ∀ (x_1 : Int),
 g.2[x.src.toNat]? = some x_1 →
 ((0 : Int) ≤ x.src ∧ x.src < (↑g.2.length : Int)) ∧
 x.src.toNat < g.2.length ∧
 ((0 : Int) ≤ x.dst ∧ x.dst < (↑(Inst_a5 g x x_1).length : Int)) ∧
 x.dst.toNat < (Inst_a5 g x x_1).length ∧
 ∀ (x_2 : Int),
 (Inst_a5 g x x_1)[x.dst.toNat]? = some x_2 →
 ((0 : Int) ≤ x.dst ∧ x.dst < (↑(Inst_a5 g x x_1).length : Int)) ∧
 x.dst.toNat < (Inst_a5 g x x_1).length ∧
 ∃ (g' : Nat × List Int),
 (Inst_a6 g' c d) ∧
 (arcsF c (↑(nOf d) : Int)).length - g'.fst < (arcsF c (↑(nOf d) : Int)).length - g.fst ∧
 (True ∧
 (0 : Nat) = (0 : Nat) ∧
 (↑(nOf d) : Int) = (↑(nOf d) : Int) ∧
 (0 : Nat) = (0 : Nat) ∧ IntKind.i64.wrap ((↑g.1 : Int) + (1 : Int)) = (↑g'.1 : Int) ∧ True) ∧
 (True ∧ True ∧ True) ∧
 arcsF c (↑(nOf d) : Int) = arcsF c (↑(nOf d) : Int) ∧
 (Inst_a5 g x x_1).set x.dst.toNat (IntKind.i64.wrap (x_2 - x.low)) =
 g'.2 ∧
 (True ∧ True ∧ True) ∧ nilEq Int ∧ nilEq Arc ∧ d = d ∧ True)) ∧
 (decide ((↑g.1 : Int) < (↑(arcsF c (↑(nOf d) : Int)).length : Int)) = false →
 (decide ((↑d.length : Int) > (1 : Int)) = true →
 ((0 : Int) ≤ IntKind.i64.wrap ((↑d.length : Int) - (1 : Int)) ∧ IntKind.i64.wrap ((↑d.length : Int) - (1 : Int)) < (↑d.length : Int)) ∧
 (IntKind.i64.wrap ((↑d.length : Int) - (1 : Int))).toNat < d.length ∧
 ∀ (x : Int),
 d[(IntKind.i64.wrap ((↑d.length : Int) - (1 : Int))).toNat]? = some x →
 (5 : Int) ≠ (0 : Int) ∧
 ((x.tmod (5 : Int) == (0 : Int)) = true →
 ((0 : Int) ≤ (1 : Int) ∧ (1 : Int) < (↑d.length : Int)) ∧
 Int.toNat (1 : Int) < d.length ∧
 ∀ (x : Int),
 d[Int.toNat (1 : Int)]? = some x →
 (3 : Int) ≠ (0 : Int) ∧
 ((0 : Int) ≤ (0 : Int) ∧ (0 : Int) < (↑g.2.length : Int)) ∧
 Int.toNat (0 : Int) < g.2.length ∧
 ∀ (x_1 : Int),
 g.2[Int.toNat (0 : Int)]? = some x_1 →
 ((0 : Int) ≤ (0 : Int) ∧ (0 : Int) < (↑g.2.length : Int)) ∧
 Int.toNat (0 : Int) < g.2.length ∧
 ((0 : Int) ≤ IntKind.i64.wrap ((↑(nOf d) : Int) - (1 : Int)) ∧
 IntKind.i64.wrap ((↑(nOf d) : Int) - (1 : Int)) <
 (↑(g.2.set (Int.toNat (0 : Int)) (Inst_a4 x_1 x)).length :
 Int)) ∧
 (Inst_a7 d).toNat <
 (g.2.set (Int.toNat (0 : Int)) (Inst_a4 x_1 x)).length ∧
 ∀ (x_2 : Int),
 (g.2.set (Int.toNat (0 : Int))
 (IntKind.i64.wrap
 (x_1 +
 IntKind.i64.wrap (x.tmod (3 : Int)))))[(Inst_a7 d).toNat]? =
 some x_2 →
 ((0 : Int) ≤ IntKind.i64.wrap ((↑(nOf d) : Int) - (1 : Int)) ∧
 IntKind.i64.wrap ((↑(nOf d) : Int) - (1 : Int)) <
 (↑(g.2.set (Int.toNat (0 : Int))
 (Inst_a4 x_1 x)).length :
 Int)) ∧
 (Inst_a7 d).toNat <
 (g.2.set (Int.toNat (0 : Int))
 (Inst_a4 x_1 x)).length ∧
 ((True ∧ True ∧ True) ∧ True) ∧
 (g.2.set (Int.toNat (0 : Int)) (Inst_a4 x_1 x)).set
 (Inst_a7 d).toNat
 (IntKind.i64.wrap (x_2 - IntKind.i64.wrap (x.tmod (3 : Int)))) =
 (instF c d).sup ∧
 arcsF c (↑(nOf d) : Int) = (instF c d).arcs ∧ True) ∧
 ((x.tmod (5 : Int) == (0 : Int)) = false →
 ((True ∧ True ∧ True) ∧ True) ∧ g.2 = (instF c d).sup ∧ arcsF c (↑(nOf d) : Int) = (instF c d).arcs ∧ True)) ∧
 (decide ((↑d.length : Int) > (1 : Int)) = false →
 ((True ∧ True ∧ True) ∧ True) ∧ g.2 = (instF c d).sup ∧ arcsF c (↑(nOf d) : Int) = (instF c d).arcs ∧ True))
theorem Inst_q (c : List Int) (d : List Int) (ty0 ty1 : TypeId) : Inst_E0 c d ty0 ty1 = FVcP TT Inst_g (Inst_I c d) (Inst_an c d) Try.f19 [.row 0, .row 1] [(0, .row false ty0 (.ints .u8 c)), (1, .row false ty1 (.ints .u8 d))] (Inst_r c d) := by kernel_rfl
theorem Inst_E (c : List Int) (d : List Int) (ty0 ty1 : TypeId) (hp : Bytes c ∧ Bytes d ∧ c.length ≤ maxLen ∧ d.length ≤ maxLen) : FVc TT Inst_g (Inst_I c d) (Inst_an c d) Try.f19 [.row 0, .row 1] [(0, .row false ty0 (.ints .u8 c)), (1, .row false ty1 (.ints .u8 d))] (Inst_r c d) := by
  refine FVc.of (Inst_E0 c d ty0 ty1) (Inst_q c d ty0 ty1) ?_
  unfold Inst_E0
  delta Inst_a7 Inst_a6 Inst_a5 Inst_a4 Inst_a3 Inst_a2 Inst_a1 Inst_a0
  simp only [eq_self, exists_const, forall_const, decide_eq_true_eq, decide_eq_false_iff_not, and_true, true_and, bne_iff_ne, ne_eq, bne_eq_false_iff_eq, Int.toNat_natCast, Bool.not_eq_true', Bool.not_eq_false', beq_iff_eq, beq_eq_false_iff_ne]
  simp only [nilEq_true, and_true, true_and]
  obtain ⟨p1, p2, p3, p4⟩ := hp
  have hS := nOf_pos d
  have hL := nOf_le d
  have hA := arcsF_len c (nOf d)
  have hN := arcsF_nice c (nOf d) (by omega)
  unfold maxLen at *
  have gz : ∀ {l : List Int} {k : Nat} {v : Int}, l[k]? = some v → l.getD k 0 = v := fun h => by simp [List.getD, h]
  refine ⟨⟨fun h => ⟨by omega, by simp; omega, fun x hx => ⟨by decide, ?_⟩⟩, fun h => ?_⟩, by simp only [p1, true_and]; omega, (0, List.replicate (nOf d) 0), ⟨⟨by simp, by simp, fun x hx => by simp [List.mem_replicate] at hx; simp [hx], by simp [sup1]⟩, rfl, rfl⟩, fun g hg => ?_⟩
  · have hb := p2 x (List.mem_of_getElem? hx)
    rw [tmod_pos hb.1, w64 (x := x % 7) (by omega) (by omega), w64 (by omega) (by omega)]
    unfold nOf
    have hx' := gz hx
    simp only [Int.toNat_zero] at hx'
    rw [if_pos (by omega), hx']
    omega
  · unfold nOf; rw [if_neg (by omega)]; rfl
  obtain ⟨k, s⟩ := g
  dsimp only at hg ⊢
  obtain ⟨g1, g2, g3, g4⟩ := hg
  refine ⟨fun h1 => ⟨by omega, by omega, fun a ha => ?_⟩, fun h1 => ?_⟩
  · have hn := hN a (List.mem_of_getElem? ha)
    have n1 := hn.s0; have n2 := hn.s1; have n3 := hn.d0; have n4 := hn.d1; have n5 := hn.l0; have n6 := hn.l1; have n7 := hn.c0
    have hu := useOf_ok (d := d) (k := k) hn
    rw [drop_get ha, supGo] at g4
    have e3 : (addAt (addAt s a.src.toNat (useOf d k a)) a.dst.toNat (-(useOf d k a))).length = nOf d := by rw [addAt_len, addAt_len]; exact g2
    have hk : IntKind.i64.wrap ((k : Int) + 1) = ((k + 1 : Nat) : Int) := by rw [w64 (by omega) (by omega)]; omega
    have hk18 : k ≤ 18 := by omega
    simp only [hk, Int.toNat_natCast, List.length_set]
    refine ⟨fun h2 => ⟨by omega, by omega, fun b hb => ⟨by decide, by omega, by omega, fun y hy => ⟨by omega, by omega, by omega, by omega, fun z hz => ⟨by omega, by omega, ?_⟩⟩⟩⟩, fun h2 => ⟨by omega, by omega, fun y hy => ⟨by omega, by omega, by omega, by omega, fun z hz => ⟨by omega, by omega, ?_⟩⟩⟩⟩
    · have hbb := p2 b (List.mem_of_getElem? hb)
      have hmin : min (IntKind.i64.wrap (a.low + IntKind.i64.wrap (b.tmod 4))) a.cap = useOf d k a := by
        rw [tmod_pos hbb.1, w64 (x := b % 4) (by omega) (by omega), w64 (by omega) (by omega)]
        unfold useOf; rw [if_pos (by omega), gz hb]
      rw [hmin] at hz ⊢
      obtain ⟨e1, e2⟩ := instStep g3 hk18 hu.1 hu.2 hy hz
      rw [e1]
      exact ⟨(k + 1, addAt (addAt s a.src.toNat (useOf d k a)) a.dst.toNat (-(useOf d k a))), ⟨by dsimp only; omega, e3, e2, g4⟩, by dsimp only; omega, rfl, rfl⟩
    · have hlow : a.low = useOf d k a := by unfold useOf; rw [if_neg (by omega)]
      rw [hlow] at hz ⊢
      obtain ⟨e1, e2⟩ := instStep g3 hk18 hu.1 hu.2 hy hz
      rw [e1]
      exact ⟨(k + 1, addAt (addAt s a.src.toNat (useOf d k a)) a.dst.toNat (-(useOf d k a))), ⟨by dsimp only; omega, e3, e2, g4⟩, by dsimp only; omega, rfl, rfl⟩
  · rw [drop_end (by omega)] at g4
    simp only [supGo] at g4
    subst g4
    have hk18 : k ≤ 18 := by omega
    have t1 : Int.toNat 1 = 1 := rfl
    have t0 : Int.toNat 0 = 0 := rfl
    simp only [t1, t0]
    refine ⟨fun h2 => ?_, fun h2 => ⟨?_, rfl⟩⟩
    · have e1 : IntKind.i64.wrap ((d.length : Int) - 1) = ((d.length - 1 : Nat) : Int) := by rw [w64 (by omega) (by omega)]; omega
      have e2 : IntKind.i64.wrap ((nOf d : Int) - 1) = ((nOf d - 1 : Nat) : Int) := by rw [w64 (by omega) (by omega)]; omega
      simp only [e1, e2, Int.toNat_natCast, List.length_set]
      refine ⟨by omega, by omega, fun x hx => ⟨by decide, fun h3 => ⟨by omega, by omega, fun v hv => ⟨by decide, by omega, by omega, fun y hy => ⟨by omega, by omega, by omega, by omega, fun z hz => ⟨by omega, by omega, ?_, rfl⟩⟩⟩⟩, fun h3 => ⟨?_, rfl⟩⟩⟩
      · have hb := p2 x (List.mem_of_getElem? hx)
        have hv' := p2 v (List.mem_of_getElem? hv)
        rw [tmod_pos hb.1] at h3
        rw [tmod_pos hv'.1, w64 (x := v % 3) (by omega) (by omega)] at hz ⊢
        rw [(instStep g3 hk18 (by omega) (by omega) hy hz).1]
        unfold instF
        dsimp only
        rw [if_pos ⟨by omega, by rw [gz hx]; exact h3⟩, gz hv]
      · have hb := p2 x (List.mem_of_getElem? hx)
        rw [tmod_pos hb.1] at h3
        unfold instF
        dsimp only
        rw [if_neg (fun h => h3 (by rw [← gz hx]; exact h.2))]
    · unfold instF
      dsimp only
      rw [if_neg (fun h => h2 (by omega))]
theorem Inst_ok : SpecOk Try.prog Inst_n true (specOf true Inst_fs) :=
  spec_ok' TT_ok (show GsOk Try.prog Inst_g from gsOk_cons Arcs_ok (gsOk_nil)) (by kernel_rfl) mixedOrders Try.func19 rfl rfl (by kernel_rfl) (n := 2) (by decide +kernel) (I := Inst_IA) (fun _ _ => isOk_nil) (A := Inst_A)
    (fun args h r hr => by
      unfold Inst_fs at hr
      split at hr
      · rename_i ty0 c ty1 d; cases hr; refine ⟨rfl, fun hp => ?_⟩; have hE := Inst_E c d ty0 ty1 hp; exact hE
      · cases hr)
theorem stays_ok : SpecOk Try.prog stays_n false stays_spec :=
  inl_ok TT_ok (show GsOk Try.prog stays_g from gsOk_cons isNode_ok (gsOk_nil)) (by kernel_rfl) mixedOrders Try.func131 rfl rfl (by kernel_rfl) _
theorem placesF_len (n : Nat) (l : List Nat) : (placesF n l).length = n := by simp [placesF]
theorem placesF_get {n k : Nat} {l : List Nat} {y : Int} (h : (placesF n l)[k]? = some y) : y = placeGo (k : Int) l 0 := by
  unfold placesF at h
  rw [List.getElem?_map] at h
  obtain ⟨z, hz, rfl⟩ := Option.map_eq_some_iff.1 h
  rw [List.getElem?_range (by have := get_lt hz; simpa using this)] at hz
  cases hz; rfl
theorem placesF_nil (n : Nat) : placesF n [] = List.replicate n (-1) := by
  unfold placesF
  apply List.ext_getElem?
  intro i
  by_cases h : i < n
  · simp [h, placeGo]
  · simp [h]
theorem placeGo_out {x : Int} {l : List Nat} (h : ∀ y ∈ l, (y : Int) ≠ x) : placeGo x l 0 = -1 := by
  rcases placeGo_cases x l 0 with h1 | h1
  · exact h1.1
  · obtain ⟨_, _, y, hy, e⟩ := h1
    exact absurd e (h y hy)
theorem placesF_snoc {n y : Nat} {l : List Nat} (hy : y < n) (hl : ∀ z ∈ l, z < y) : (placesF n l).set y (l.length : Int) = placesF n (l ++ [y]) := by
  unfold placesF
  apply List.ext_getElem?
  intro i
  by_cases hi : i < n
  · rw [List.getElem?_set]
    by_cases h : y = i
    · subst h
      have ho := placeGo_out (x := (y : Int)) (l := l) (fun z hz e => by have := hl z hz; omega)
      simp [hy, placeGo_snoc, ho]
    · have h' : ¬ (y : Int) = (i : Int) := by omega
      rcases placeGo_cases (i : Int) l 0 with h1 | h1
      · simp [h, hi, placeGo_snoc, h1.1, h']
      · have : 0 ≤ placeGo (i : Int) l 0 := by omega
        simp [h, hi, placeGo_snoc, this]
  · rw [List.getElem?_set]
    by_cases h : y = i
    · omega
    · simp [h, hi]
theorem keptF_take_lt {off : List Bool} {n k y : Nat} (h : (keptF off n)[k]? = some y) : ∀ z ∈ (keptF off n).take k, z < y := by
  intro z hz
  have hs := keptGo_sorted off n 0
  obtain ⟨i, hi, rfl⟩ := List.mem_iff_getElem.1 hz
  obtain ⟨hk, rfl⟩ := List.getElem?_eq_some_iff.1 h
  rw [List.getElem_take]
  have hi' : i < k := by simp at hi; omega
  exact (List.pairwise_iff_getElem.1 hs) i k _ _ hi'
abbrev Without_a0 (offs : List Bool) (I : Inst) := (keptF offs (keptN (↑I.arcs.length : Int)))
abbrev Without_a1 (I : Inst) (nodes : List Bool) := (placesF I.sup.length (keptNodes I nodes))
abbrev Without_a2 (nodes : List Bool) (I : Inst) := (↑(List.map Int.ofNat (keptF nodes (keptN (↑I.sup.length : Int)))).length : Int)
abbrev Without_a3 (I : Inst) (nodes : List Bool) := (fun (j : Nat) => keepArc (keptNodes I nodes) (I.arcs.getD j default))
abbrev Without_a4 (offs : List Bool) (I : Inst) (g : Nat) (g' : Nat) := ((0 : Nat) = (0 : Nat) ∧
 (0 : Nat) = (0 : Nat) ∧
 (0 : Nat) = (0 : Nat) ∧
 (0 : Nat) = (0 : Nat) ∧
 ((0 : Nat) = (0 : Nat) ∧ True) ∧
 True ∧
 (↑(List.map Int.ofNat
 (keptF offs
 (keptN
 (↑I.arcs.length :
 Int)))).length :
 Int) =
 (↑(List.map Int.ofNat
 (keptF offs
 (keptN
 (↑I.arcs.length :
 Int)))).length :
 Int) ∧
 IntKind.i64.wrap
 ((↑g : Int) + (1 : Int)) =
 (↑g' : Int) ∧
 True)
abbrev Without_a5 (offs : List Bool) (I : Inst) := (↑(List.map Int.ofNat (Without_a0 offs I)).length : Int)
abbrev Without_a6 (I : Inst) (nodes : List Bool) := (fun (j : Nat) =>
 keepArc (keptNodes I nodes)
 (I.arcs.getD j default))
abbrev Without_a7 (I : Inst) (nodes : List Bool) := (fun (j : Nat) =>
 keepArc (keptNodes I nodes) (I.arcs.getD j default))
abbrev Without_a8 (g : Nat) (I : Inst) := (List.replicate g (-1 : Int) ++ List.replicate (I.sup.length - g) (0 : Int))
abbrev Without_a9 (I : Inst) := (fun (j : Nat) => I.sup.getD j (0 : Int))
def Without_E0 (I : Inst) (nodes : List Bool) (offs : List Bool) (ty0 ty1 ty2 ty3 : TypeId) : Prop :=
      ((↑I.sup.length : Int) = (↑I.sup.length : Int) ∧ (0 : Int) ≤ (↑I.sup.length : Int) ∧ (↑I.sup.length : Int) ≤ (1000000000 : Int)) ∧
 ∃ (g0 : Nat),
 (g0 ≤ I.sup.length ∧
 (True ∧
 True ∧
 (0 : Nat) = (0 : Nat) ∧
 (0 : Nat) = (0 : Nat) ∧
 (0 : Nat) = (0 : Nat) ∧
 (0 : Nat) = (0 : Nat) ∧ (↑(List.replicate (↑I.sup.length : Int).toNat (0 : Int)).length : Int) = (↑I.sup.length : Int) ∧ (0 : Int) = (↑g0 : Int) ∧ True) ∧
 (True ∧ True) ∧
 List.replicate (↑I.sup.length : Int).toNat (0 : Int) = List.replicate g0 (-1 : Int) ++ List.replicate (I.sup.length - g0) (0 : Int) ∧
 (True ∧ True ∧ True) ∧
 nilEq Int ∧
 nilEq Arc ∧ (True ∧ True ∧ True) ∧ nilEq Int ∧ nilEq Arc ∧ (True ∧ True ∧ True) ∧ I.sup = I.sup ∧ I.arcs = I.arcs ∧ nodes = nodes ∧ offs = offs ∧ True) ∧
 ∀ (g : Nat),
 g ≤ I.sup.length →
 (decide ((↑g : Int) < (↑I.sup.length : Int)) = true →
 ((0 : Int) ≤ (↑g : Int) ∧ (↑g : Int) < (↑(Without_a8 g I).length : Int)) ∧
 (↑g : Int).toNat < (Without_a8 g I).length ∧
 ∃ (g' : Nat),
 g' ≤ I.sup.length ∧
 I.sup.length - g' < I.sup.length - g ∧
 (True ∧
 True ∧
 (0 : Nat) = (0 : Nat) ∧
 (0 : Nat) = (0 : Nat) ∧
 (0 : Nat) = (0 : Nat) ∧
 (0 : Nat) = (0 : Nat) ∧ (↑I.sup.length : Int) = (↑I.sup.length : Int) ∧ IntKind.i64.wrap ((↑g : Int) + (1 : Int)) = (↑g' : Int) ∧ True) ∧
 (True ∧ True) ∧
 (Without_a8 g I).set (↑g : Int).toNat (-1 : Int) =
 List.replicate g' (-1 : Int) ++ List.replicate (I.sup.length - g') (0 : Int) ∧
 (True ∧ True ∧ True) ∧
 nilEq Int ∧
 nilEq Arc ∧
 (True ∧ True ∧ True) ∧ nilEq Int ∧ nilEq Arc ∧ (True ∧ True ∧ True) ∧ I.sup = I.sup ∧ I.arcs = I.arcs ∧ nodes = nodes ∧ offs = offs ∧ True) ∧
 (decide ((↑g : Int) < (↑I.sup.length : Int)) = false →
 True ∧
 ∃ (g0 : Nat),
 (g0 ≤ (keptNodes I nodes).length ∧
 (True ∧
 (0 : Nat) = (0 : Nat) ∧
 (0 : Nat) = (0 : Nat) ∧
 (0 : Nat) = (0 : Nat) ∧
 (0 : Nat) = (0 : Nat) ∧
 True ∧
 (Without_a2 nodes I) =
 (Without_a2 nodes I) ∧
 (0 : Int) = (↑g0 : Int) ∧ True) ∧
 List.map Int.ofNat (keptF nodes (keptN (↑I.sup.length : Int))) = List.map Int.ofNat (keptF nodes (keptN (↑I.sup.length : Int))) ∧
 (True ∧ True) ∧
 List.replicate g (-1 : Int) ++ List.replicate (I.sup.length - g) (0 : Int) = placesF I.sup.length (List.take g0 (keptNodes I nodes)) ∧
 (True ∧ True ∧ True) ∧
 [] = List.map (Without_a9 I) (List.take g0 (keptNodes I nodes)) ∧
 nilEq Arc ∧ (True ∧ True ∧ True) ∧ nilEq Int ∧ nilEq Arc ∧ (True ∧ True ∧ True) ∧ I.sup = I.sup ∧ I.arcs = I.arcs ∧ offs = offs ∧ True) ∧
 ∀ (g : Nat),
 g ≤ (keptNodes I nodes).length →
 (decide ((↑g : Int) < (Without_a2 nodes I)) = true →
 ((0 : Int) ≤ (↑g : Int) ∧ (↑g : Int) < (Without_a2 nodes I)) ∧
 (↑g : Int).toNat < (List.map Int.ofNat (keptF nodes (keptN (↑I.sup.length : Int)))).length ∧
 ∀ (x : Int),
 (List.map Int.ofNat (keptF nodes (keptN (↑I.sup.length : Int))))[(↑g : Int).toNat]? = some x →
 ((0 : Int) ≤ x ∧ x < (↑(placesF I.sup.length (List.take g (keptNodes I nodes))).length : Int)) ∧
 x.toNat < (placesF I.sup.length (List.take g (keptNodes I nodes))).length ∧
 ((0 : Int) ≤ x ∧ x < (↑I.sup.length : Int)) ∧
 x.toNat < I.sup.length ∧
 ∀ (x_1 : Int),
 I.sup[x.toNat]? = some x_1 →
 (List.map (Without_a9 I) (List.take g (keptNodes I nodes))).length + (1 : Nat) ≤ (1000000000 : Nat) ∧
 ∃ (g' : Nat),
 g' ≤ (keptNodes I nodes).length ∧
 (keptNodes I nodes).length - g' < (keptNodes I nodes).length - g ∧
 (True ∧
 (0 : Nat) = (0 : Nat) ∧
 (0 : Nat) = (0 : Nat) ∧
 (0 : Nat) = (0 : Nat) ∧
 (0 : Nat) = (0 : Nat) ∧
 True ∧
 (Without_a2 nodes I) =
 (Without_a2 nodes I) ∧
 IntKind.i64.wrap ((↑g : Int) + (1 : Int)) = (↑g' : Int) ∧ True) ∧
 List.map Int.ofNat (keptF nodes (keptN (↑I.sup.length : Int))) =
 List.map Int.ofNat (keptF nodes (keptN (↑I.sup.length : Int))) ∧
 (True ∧ True) ∧
 (placesF I.sup.length (List.take g (keptNodes I nodes))).set x.toNat (↑g : Int) =
 placesF I.sup.length (List.take g' (keptNodes I nodes)) ∧
 (True ∧ True ∧ True) ∧
 List.map (Without_a9 I) (List.take g (keptNodes I nodes)) ++ [x_1] =
 List.map (Without_a9 I) (List.take g' (keptNodes I nodes)) ∧
 nilEq Arc ∧
 (True ∧ True ∧ True) ∧
 nilEq Int ∧ nilEq Arc ∧ (True ∧ True ∧ True) ∧ I.sup = I.sup ∧ I.arcs = I.arcs ∧ offs = offs ∧ True) ∧
 (decide ((↑g : Int) < (Without_a2 nodes I)) = false →
 True ∧
 ∃ (g0 : Nat),
 (g0 ≤ (keptArcs I offs).length ∧
 ((0 : Nat) = (0 : Nat) ∧
 (0 : Nat) = (0 : Nat) ∧
 (0 : Nat) = (0 : Nat) ∧
 (0 : Nat) = (0 : Nat) ∧
 ((0 : Nat) = (0 : Nat) ∧ True) ∧
 True ∧
 (Without_a5 offs I) =
 (Without_a5 offs I) ∧
 (0 : Int) = (↑g0 : Int) ∧ True) ∧
 List.map Int.ofNat (Without_a0 offs I) = List.map Int.ofNat (Without_a0 offs I) ∧
 (True ∧ True) ∧
 placesF I.sup.length (List.take g (keptNodes I nodes)) = placesF I.sup.length (keptNodes I nodes) ∧
 (True ∧ True ∧ True) ∧
 List.map (Without_a9 I) (List.take g (keptNodes I nodes)) = (withoutF I nodes offs).sup ∧
 [] = List.filterMap (Without_a3 I nodes) (List.take g0 (keptArcs I offs)) ∧
 (True ∧ True ∧ True) ∧ nilEq Int ∧ nilEq Arc ∧ (True ∧ True ∧ True) ∧ I.sup = I.sup ∧ I.arcs = I.arcs ∧ True) ∧
 ∀ (g : Nat),
 g ≤ (keptArcs I offs).length →
 (decide ((↑g : Int) < (Without_a5 offs I)) = true →
 ((0 : Int) ≤ (↑g : Int) ∧ (↑g : Int) < (Without_a5 offs I)) ∧
 (↑g : Int).toNat < (List.map Int.ofNat (Without_a0 offs I)).length ∧
 ∀ (x : Int),
 (List.map Int.ofNat (Without_a0 offs I))[(↑g : Int).toNat]? = some x →
 ((0 : Int) ≤ x ∧ x < (↑I.arcs.length : Int)) ∧
 x.toNat < I.arcs.length ∧
 ∀ (x_1 : Arc),
 I.arcs[x.toNat]? = some x_1 →
 True ∧
 ((decide ((0 : Int) ≤ x_1.src) && decide (x_1.src < (↑(Without_a1 I nodes).length : Int))) =
 true →
 ((0 : Int) ≤ x_1.src ∧ x_1.src < (↑(Without_a1 I nodes).length : Int)) ∧
 x_1.src.toNat < (Without_a1 I nodes).length ∧
 ∀ (x : Int),
 (Without_a1 I nodes)[x_1.src.toNat]? = some x →
 ((!decide (x ≥ (0 : Int))) = true →
 ∃ (g' : Nat),
 g' ≤ (keptArcs I offs).length ∧
 (keptArcs I offs).length - g' < (keptArcs I offs).length - g ∧
 ((0 : Nat) = (0 : Nat) ∧
 (0 : Nat) = (0 : Nat) ∧
 (0 : Nat) = (0 : Nat) ∧
 (0 : Nat) = (0 : Nat) ∧
 ((0 : Nat) = (0 : Nat) ∧ True) ∧
 True ∧
 (Without_a5 offs I) =
 (↑(List.map Int.ofNat (Without_a0 offs I)).length :
 Int) ∧
 IntKind.i64.wrap ((↑g : Int) + (1 : Int)) = (↑g' : Int) ∧ True) ∧
 List.map Int.ofNat (Without_a0 offs I) =
 List.map Int.ofNat (Without_a0 offs I) ∧
 (True ∧ True) ∧
 placesF I.sup.length (keptNodes I nodes) = placesF I.sup.length (keptNodes I nodes) ∧
 (True ∧ True ∧ True) ∧
 (withoutF I nodes offs).sup = (withoutF I nodes offs).sup ∧
 List.filterMap (Without_a3 I nodes)
 (List.take g (keptArcs I offs)) =
 List.filterMap
 (Without_a3 I nodes)
 (List.take g' (keptArcs I offs)) ∧
 (True ∧ True ∧ True) ∧
 nilEq Int ∧
 nilEq Arc ∧ (True ∧ True ∧ True) ∧ I.sup = I.sup ∧ I.arcs = I.arcs ∧ True) ∧
 ((!decide (x ≥ (0 : Int))) = false →
 True ∧
 ((decide ((0 : Int) ≤ x_1.dst) &&
 decide (x_1.dst < (↑(Without_a1 I nodes).length : Int))) =
 true →
 ((0 : Int) ≤ x_1.dst ∧ x_1.dst < (↑(Without_a1 I nodes).length : Int)) ∧
 x_1.dst.toNat < (Without_a1 I nodes).length ∧
 ∀ (x : Int),
 (Without_a1 I nodes)[x_1.dst.toNat]? = some x →
 ((!decide (x ≥ (0 : Int))) = true →
 ∃ (g' : Nat),
 g' ≤ (keptArcs I offs).length ∧
 (keptArcs I offs).length - g' < (keptArcs I offs).length - g ∧
 ((0 : Nat) = (0 : Nat) ∧
 (0 : Nat) = (0 : Nat) ∧
 (0 : Nat) = (0 : Nat) ∧
 (0 : Nat) = (0 : Nat) ∧
 ((0 : Nat) = (0 : Nat) ∧ True) ∧
 True ∧
 (↑(List.map Int.ofNat
 (Without_a0 offs I)).length :
 Int) =
 (↑(List.map Int.ofNat
 (Without_a0 offs I)).length :
 Int) ∧
 IntKind.i64.wrap ((↑g : Int) + (1 : Int)) = (↑g' : Int) ∧
 True) ∧
 List.map Int.ofNat (Without_a0 offs I) =
 List.map Int.ofNat (Without_a0 offs I) ∧
 (True ∧ True) ∧
 placesF I.sup.length (keptNodes I nodes) =
 placesF I.sup.length (keptNodes I nodes) ∧
 (True ∧ True ∧ True) ∧
 (withoutF I nodes offs).sup = (withoutF I nodes offs).sup ∧
 List.filterMap
 (Without_a7 I nodes)
 (List.take g (keptArcs I offs)) =
 List.filterMap
 (Without_a7 I nodes)
 (List.take g' (keptArcs I offs)) ∧
 (True ∧ True ∧ True) ∧
 nilEq Int ∧
 nilEq Arc ∧
 (True ∧ True ∧ True) ∧
 I.sup = I.sup ∧ I.arcs = I.arcs ∧ True) ∧
 ((!decide (x ≥ (0 : Int))) = false →
 ((0 : Int) ≤ x_1.src ∧
 x_1.src < (↑(Without_a1 I nodes).length : Int)) ∧
 x_1.src.toNat < (Without_a1 I nodes).length ∧
 ∀ (x : Int),
 (Without_a1 I nodes)[x_1.src.toNat]? = some x →
 (((0 : Int) ≤ x_1.dst ∧
 x_1.dst < (↑(Without_a1 I nodes).length : Int)) ∧
 (x_1.dst.toNat < (Without_a1 I nodes).length ∧
 ∀ (x_2 : Int),
 (Without_a1 I nodes)[x_1.dst.toNat]? =
 some x_2 →
 (List.filterMap
 (Without_a7 I nodes)
 (List.take g (keptArcs I offs))).length +
 (1 : Nat) ≤
 (1000000000 : Nat) ∧
 ∃ (g' : Nat),
 g' ≤ (keptArcs I offs).length ∧
 (keptArcs I offs).length - g' <
 (keptArcs I offs).length - g ∧
 (Without_a4 offs I g g') ∧
 List.map Int.ofNat
 (Without_a0 offs I) =
 List.map Int.ofNat
 (Without_a0 offs I) ∧
 (True ∧ True) ∧
 placesF I.sup.length (keptNodes I nodes) =
 placesF I.sup.length (keptNodes I nodes) ∧
 (True ∧ True ∧ True) ∧
 (withoutF I nodes offs).sup =
 (withoutF I nodes offs).sup ∧
 List.filterMap
 (Without_a6 I nodes)
 (List.take g (keptArcs I offs)) ++
 [{ src := x, dst := x_2, low := x_1.low, cap := x_1.cap, cost := x_1.cost : Arc }] =
 List.filterMap
 (Without_a6 I nodes)
 (List.take g' (keptArcs I offs)) ∧
 (True ∧ True ∧ True) ∧
 nilEq Int ∧
 nilEq Arc ∧
 (True ∧ True ∧ True) ∧
 I.sup = I.sup ∧
 I.arcs = I.arcs ∧ True) ∧
 x_1.dst.toNat < (Without_a1 I nodes).length ∧
 ∀ (x_2 : Int),
 (Without_a1 I nodes)[x_1.dst.toNat]? =
 some x_2 →
 (List.filterMap
 (Without_a7 I nodes)
 (List.take g (keptArcs I offs))).length +
 (1 : Nat) ≤
 (1000000000 : Nat) ∧
 ∃ (g' : Nat),
 g' ≤ (keptArcs I offs).length ∧
 (keptArcs I offs).length - g' <
 (keptArcs I offs).length - g ∧
 (Without_a4 offs I g g') ∧
 List.map Int.ofNat
 (Without_a0 offs I) =
 List.map Int.ofNat
 (Without_a0 offs I) ∧
 (True ∧ True) ∧
 placesF I.sup.length (keptNodes I nodes) =
 placesF I.sup.length (keptNodes I nodes) ∧
 (True ∧ True ∧ True) ∧
 (withoutF I nodes offs).sup =
 (withoutF I nodes offs).sup ∧
 List.filterMap
 (Without_a6 I nodes)
 (List.take g (keptArcs I offs)) ++
 [{ src := x, dst := x_2, low := x_1.low, cap := x_1.cap, cost := x_1.cost : Arc }] =
 List.filterMap
 (Without_a6 I nodes)
 (List.take g' (keptArcs I offs)) ∧
 (True ∧ True ∧ True) ∧
 nilEq Int ∧
 nilEq Arc ∧
 (True ∧ True ∧ True) ∧
 I.sup = I.sup ∧
 I.arcs = I.arcs ∧ True) ∧
 ((0 : Int) ≤ x_1.dst ∧
 x_1.dst < (↑(Without_a1 I nodes).length : Int)) ∧
 x_1.dst.toNat < (Without_a1 I nodes).length ∧
 ∀ (x_2 : Int),
 (Without_a1 I nodes)[x_1.dst.toNat]? =
 some x_2 →
 (List.filterMap
 (Without_a7 I nodes)
 (List.take g (keptArcs I offs))).length +
 (1 : Nat) ≤
 (1000000000 : Nat) ∧
 ∃ (g' : Nat),
 g' ≤ (keptArcs I offs).length ∧
 (keptArcs I offs).length - g' < (keptArcs I offs).length - g ∧
 ((0 : Nat) = (0 : Nat) ∧
 (0 : Nat) = (0 : Nat) ∧
 (0 : Nat) = (0 : Nat) ∧
 (0 : Nat) = (0 : Nat) ∧
 ((0 : Nat) = (0 : Nat) ∧ True) ∧
 True ∧
 (↑(List.map Int.ofNat
 (keptF offs
 (keptN
 (↑I.arcs.length :
 Int)))).length :
 Int) =
 (↑(List.map Int.ofNat
 (keptF offs
 (keptN
 (↑I.arcs.length :
 Int)))).length :
 Int) ∧
 IntKind.i64.wrap ((↑g : Int) + (1 : Int)) =
 (↑g' : Int) ∧
 True) ∧
 List.map Int.ofNat
 (Without_a0 offs I) =
 List.map Int.ofNat
 (Without_a0 offs I) ∧
 (True ∧ True) ∧
 placesF I.sup.length (keptNodes I nodes) =
 placesF I.sup.length (keptNodes I nodes) ∧
 (True ∧ True ∧ True) ∧
 (withoutF I nodes offs).sup =
 (withoutF I nodes offs).sup ∧
 List.filterMap
 (Without_a6 I nodes)
 (List.take g (keptArcs I offs)) ++
 [{ src := x, dst := x_2, low := x_1.low, cap := x_1.cap, cost := x_1.cost : Arc }] =
 List.filterMap
 (Without_a6 I nodes)
 (List.take g' (keptArcs I offs)) ∧
 (True ∧ True ∧ True) ∧
 nilEq Int ∧
 nilEq Arc ∧
 (True ∧ True ∧ True) ∧
 I.sup = I.sup ∧
 I.arcs = I.arcs ∧ True)) ∧
 ((decide ((0 : Int) ≤ x_1.dst) &&
 decide (x_1.dst < (↑(Without_a1 I nodes).length : Int))) =
 false →
 ∃ (g' : Nat),
 g' ≤ (keptArcs I offs).length ∧
 (keptArcs I offs).length - g' < (keptArcs I offs).length - g ∧
 ((0 : Nat) = (0 : Nat) ∧
 (0 : Nat) = (0 : Nat) ∧
 (0 : Nat) = (0 : Nat) ∧
 (0 : Nat) = (0 : Nat) ∧
 ((0 : Nat) = (0 : Nat) ∧ True) ∧
 True ∧
 (↑(List.map Int.ofNat (Without_a0 offs I)).length :
 Int) =
 (↑(List.map Int.ofNat
 (Without_a0 offs I)).length :
 Int) ∧
 IntKind.i64.wrap ((↑g : Int) + (1 : Int)) = (↑g' : Int) ∧ True) ∧
 List.map Int.ofNat (Without_a0 offs I) =
 List.map Int.ofNat (Without_a0 offs I) ∧
 (True ∧ True) ∧
 placesF I.sup.length (keptNodes I nodes) = placesF I.sup.length (keptNodes I nodes) ∧
 (True ∧ True ∧ True) ∧
 (withoutF I nodes offs).sup = (withoutF I nodes offs).sup ∧
 List.filterMap
 (Without_a3 I nodes)
 (List.take g (keptArcs I offs)) =
 List.filterMap
 (Without_a3 I nodes)
 (List.take g' (keptArcs I offs)) ∧
 (True ∧ True ∧ True) ∧
 nilEq Int ∧
 nilEq Arc ∧
 (True ∧ True ∧ True) ∧ I.sup = I.sup ∧ I.arcs = I.arcs ∧ True))) ∧
 ((decide ((0 : Int) ≤ x_1.src) && decide (x_1.src < (↑(Without_a1 I nodes).length : Int))) =
 false →
 ∃ (g' : Nat),
 g' ≤ (keptArcs I offs).length ∧
 (keptArcs I offs).length - g' < (keptArcs I offs).length - g ∧
 ((0 : Nat) = (0 : Nat) ∧
 (0 : Nat) = (0 : Nat) ∧
 (0 : Nat) = (0 : Nat) ∧
 (0 : Nat) = (0 : Nat) ∧
 ((0 : Nat) = (0 : Nat) ∧ True) ∧
 True ∧
 (Without_a5 offs I) =
 (Without_a5 offs I) ∧
 IntKind.i64.wrap ((↑g : Int) + (1 : Int)) = (↑g' : Int) ∧ True) ∧
 List.map Int.ofNat (Without_a0 offs I) =
 List.map Int.ofNat (Without_a0 offs I) ∧
 (True ∧ True) ∧
 placesF I.sup.length (keptNodes I nodes) = placesF I.sup.length (keptNodes I nodes) ∧
 (True ∧ True ∧ True) ∧
 (withoutF I nodes offs).sup = (withoutF I nodes offs).sup ∧
 List.filterMap (Without_a3 I nodes)
 (List.take g (keptArcs I offs)) =
 List.filterMap (Without_a3 I nodes)
 (List.take g' (keptArcs I offs)) ∧
 (True ∧ True ∧ True) ∧
 nilEq Int ∧ nilEq Arc ∧ (True ∧ True ∧ True) ∧ I.sup = I.sup ∧ I.arcs = I.arcs ∧ True)) ∧
 (decide ((↑g : Int) < (Without_a5 offs I)) = false →
 ((True ∧ True ∧ True) ∧ True) ∧
 (withoutF I nodes offs).sup = (withoutF I nodes offs).sup ∧
 List.filterMap (Without_a3 I nodes) (List.take g (keptArcs I offs)) =
 (withoutF I nodes offs).arcs ∧
 True)))
theorem Without_q (I : Inst) (nodes : List Bool) (offs : List Bool) (ty0 ty1 ty2 ty3 : TypeId) : Without_E0 I nodes offs ty0 ty1 ty2 ty3 = FVcP TT Without_g (Without_I I nodes offs) (Without_an I nodes offs) Try.f88 [.agg [.row 0, .row 1], .row 2, .row 3] [(0, .row false ty0 (.ints .i64 I.sup)), (1, .row false ty1 (.arcs I.arcs)), (2, .row false ty2 (.bools nodes)), (3, .row false ty3 (.bools offs))] (Without_r I nodes offs) := by kernel_rfl
theorem Without_E (I : Inst) (nodes : List Bool) (offs : List Bool) (ty0 ty1 ty2 ty3 : TypeId) (hp : I.sup.length ≤ 1000000 ∧ I.arcs.length ≤ 1000000 ∧ nodes.length ≤ 1000000 ∧ offs.length ≤ 1000000) : FVc TT Without_g (Without_I I nodes offs) (Without_an I nodes offs) Try.f88 [.agg [.row 0, .row 1], .row 2, .row 3] [(0, .row false ty0 (.ints .i64 I.sup)), (1, .row false ty1 (.arcs I.arcs)), (2, .row false ty2 (.bools nodes)), (3, .row false ty3 (.bools offs))] (Without_r I nodes offs) := by
  refine FVc.of (Without_E0 I nodes offs ty0 ty1 ty2 ty3) (Without_q I nodes offs ty0 ty1 ty2 ty3) ?_
  unfold Without_E0
  delta Without_a9 Without_a8 Without_a7 Without_a6 Without_a5 Without_a4 Without_a3 Without_a2 Without_a1 Without_a0
  have hN : ∀ n : Nat, keptN (n : Int) ≤ n ∧ keptN (n : Int) ≤ 1000 := fun n => by unfold keptN; omega
  have hn := hN I.sup.length
  have ha := hN I.arcs.length
  have ln := keptF_len nodes (keptN I.sup.length)
  have la := keptF_len offs (keptN I.arcs.length)
  simp only [eq_self, exists_const, forall_const, decide_eq_true_eq, decide_eq_false_iff_not, and_true, true_and, bne_iff_ne, ne_eq, bne_eq_false_iff_eq, Int.toNat_natCast, Bool.not_eq_true', Bool.not_eq_false', beq_iff_eq, beq_eq_false_iff_ne]
  simp only [nilEq_true, and_true, true_and, List.length_map, List.getElem?_map, placesF_len, List.length_append, List.length_replicate, List.length_set]
  obtain ⟨q1, q2, q3, q4⟩ := hp
  have fN : keptF nodes (keptN I.sup.length) = keptNodes I nodes := rfl
  have fA : keptF offs (keptN I.arcs.length) = keptArcs I offs := rfl
  simp only [fN, fA] at *
  refine ⟨by omega, 0, by simp, fun k hk => ⟨fun h1 => ⟨by omega, by omega, k + 1, by omega, by omega, w64 (by omega) (by omega), ?_⟩, fun h1 => ⟨0, ⟨by omega, by simp, by rw [show k = I.sup.length by omega]; simp [placesF_nil], by simp⟩, fun k2 hk2 => ⟨fun h2 => ⟨by omega, by omega, fun x hx => ?_⟩, fun h2 => ?_⟩⟩⟩⟩
  · rw [List.set_append_right _ _ (by simp), List.length_replicate, Nat.sub_self, show I.sup.length - k = (I.sup.length - (k + 1)) + 1 by omega, List.replicate_succ, List.set_cons_zero, List.replicate_succ']
    simp
  · obtain ⟨z, hz, rfl⟩ := Option.map_eq_some_iff.1 hx
    have hzl := keptF_lt (List.mem_of_getElem? hz)
    have hlt := keptF_take_lt hz
    have e0 := take_get hz
    simp only [Int.ofNat_eq_natCast, Int.toNat_natCast] at *
    have hlen : ((keptNodes I nodes).take k2).length = k2 := by rw [List.length_take]; omega
    refine ⟨by omega, by omega, by omega, by omega, fun v hv => ⟨by omega, k2 + 1, by omega, by omega, w64 (by omega) (by omega), ?_, ?_⟩⟩
    · have hps := placesF_snoc (n := I.sup.length) (l := (keptNodes I nodes).take k2) (y := z) (by omega) hlt
      rw [hlen] at hps
      exact hps.trans (by rw [← e0])
    · rw [e0]; simp [List.getD, hv]
  · have hk' : (keptNodes I nodes).take k2 = keptNodes I nodes := List.take_of_length_le (by omega)
    refine ⟨0, ⟨by omega, by simp, by rw [hk'], by rw [hk']; rfl, by simp⟩, fun j hj => ⟨fun h3 => ⟨by omega, by omega, fun x hx => ?_⟩, fun h3 => ?_⟩⟩
    · obtain ⟨z, hz, rfl⟩ := Option.map_eq_some_iff.1 hx
      have hzl := keptF_lt (List.mem_of_getElem? hz)
      have hjl := get_lt hz
      have htk := take_get hz
      simp only [Int.ofNat_eq_natCast, Int.toNat_natCast] at *
      refine ⟨by omega, by omega, fun y hy => ?_⟩
      have hget : I.arcs.getD z default = y := by simp [List.getD, hy]
      have hlen : (((keptArcs I offs).take j).filterMap (fun j => keepArc (keptNodes I nodes) (I.arcs.getD j default))).length ≤ 1000 :=
        Nat.le_trans (List.length_filterMap_le _ _) (Nat.le_trans (List.length_take_le _ _) (by omega))
      have skip : ¬ (0 ≤ placeGo y.src (keptNodes I nodes) 0 ∧ 0 ≤ placeGo y.dst (keptNodes I nodes) 0) → ∃ g', g' ≤ (keptArcs I offs).length ∧ (keptArcs I offs).length - g' < (keptArcs I offs).length - j ∧ IntKind.i64.wrap ((j : Int) + 1) = (g' : Int) ∧
          ((keptArcs I offs).take j).filterMap (fun j => keepArc (keptNodes I nodes) (I.arcs.getD j default)) = ((keptArcs I offs).take g').filterMap (fun j => keepArc (keptNodes I nodes) (I.arcs.getD j default)) := fun h => by
        refine ⟨j + 1, by omega, by omega, w64 (by omega) (by omega), ?_⟩
        rw [htk, List.filterMap_append]
        simp only [List.filterMap_cons, List.filterMap_nil, hget, keepArc]
        rw [if_neg h]; simp
      have taken : ∀ p q : Int, p = placeGo y.src (keptNodes I nodes) 0 → q = placeGo y.dst (keptNodes I nodes) 0 → 0 ≤ p → 0 ≤ q → (((keptArcs I offs).take j).filterMap (fun j => keepArc (keptNodes I nodes) (I.arcs.getD j default))).length + 1 ≤ 1000000000 ∧
          ∃ g', g' ≤ (keptArcs I offs).length ∧ (keptArcs I offs).length - g' < (keptArcs I offs).length - j ∧ IntKind.i64.wrap ((j : Int) + 1) = (g' : Int) ∧
          ((keptArcs I offs).take j).filterMap (fun j => keepArc (keptNodes I nodes) (I.arcs.getD j default)) ++ [⟨p, q, y.low, y.cap, y.cost⟩] = ((keptArcs I offs).take g').filterMap (fun j => keepArc (keptNodes I nodes) (I.arcs.getD j default)) := fun p q h1 h2 h3 h4 => by
        refine ⟨by omega, j + 1, by omega, by omega, w64 (by omega) (by omega), ?_⟩
        subst h1 h2
        rw [htk, List.filterMap_append]
        simp only [List.filterMap_cons, List.filterMap_nil, hget, keepArc]
        rw [if_pos ⟨h3, h4⟩]
      have fo : ∀ x : Int, (decide (0 ≤ x) && decide (x < (I.sup.length : Int))) = false → ¬ 0 ≤ placeGo x (keptNodes I nodes) 0 := fun x hx => by
        rw [placeGo_out (fun y hy e => ?_)]
        · omega
        · have := keptF_lt hy
          subst e
          simp at hx
          omega
      have pg : ∀ x v : Int, 0 ≤ x → (placesF I.sup.length (keptNodes I nodes))[x.toNat]? = some v → v = placeGo x (keptNodes I nodes) 0 := fun x v hx hv => by
        rw [placesF_get hv, Int.toNat_of_nonneg hx]
      have rg : ∀ x : Int, (decide (0 ≤ x) && decide (x < (I.sup.length : Int))) = true → 0 ≤ x ∧ x < (I.sup.length : Int) := fun x hx => by simpa using hx
      refine ⟨fun b1 => ⟨rg _ b1, by have := rg _ b1; omega, fun p hp => ⟨fun c1 => skip (fun h => c1 (by rw [pg _ _ (rg _ b1).1 hp]; exact h.1)), fun c1 => ⟨fun b2 => ⟨rg _ b2, by have := rg _ b2; omega, fun q hq => ⟨fun c2 => skip (fun h => c2 (by rw [pg _ _ (rg _ b2).1 hq]; exact h.2)), fun c2 => ?_⟩⟩, fun b2 => skip (fun h => fo _ b2 h.2)⟩⟩⟩, fun b1 => skip (fun h => fo _ b1 h.1)⟩
      have r1 := rg _ b1
      have r2 := rg _ b2
      refine ⟨r1, by omega, fun p' hp' => ?_⟩
      have t : ∀ q' : Int, (placesF I.sup.length (keptNodes I nodes))[y.dst.toNat]? = some q' → _ := fun q' hq' => taken p' q' (pg _ _ r1.1 hp') (pg _ _ r2.1 hq') (by rw [hp] at hp'; cases hp'; exact c1) (by rw [hq] at hq'; cases hq'; exact c2)
      exact ⟨⟨r2, ⟨by omega, t⟩, by omega, t⟩, r2, by omega, t⟩
    · have hj' : (keptArcs I offs).take j = keptArcs I offs := List.take_of_length_le (by omega)
      rw [hj']; rfl
theorem Without_ok : SpecOk Try.prog Without_n true (specOf true Without_fs) :=
  spec_ok' TT_ok (show GsOk Try.prog Without_g from gsOk_cons Kept_ok (gsOk_cons stays_ok (gsOk_nil))) (by kernel_rfl) mixedOrders Try.func88 rfl rfl (by kernel_rfl) (n := 3) (by decide +kernel) (I := Without_IA) (fun _ _ => isOk_nil) (A := Without_A)
    (fun args h r hr => by
      unfold Without_fs at hr
      split at hr
      · rename_i ty0 I_s ty1 I_a ty2 nodes ty3 offs; cases hr; refine ⟨rfl, fun hp => ?_⟩; have hE := Without_E ⟨I_s, I_a⟩ nodes offs ty0 ty1 ty2 ty3 hp; exact hE
      · cases hr)
end Go.Proofs.Ytnjcklhgdpgllaa
