/- Part of the proof, FV15. -/
import Derived.Test.YtahbkllfifmdfaaZFU15
import Derived.Test.YtahbkllfifmdfaaZDV15
import Derived.Test.YtahbkllfifmdfaaZVc11
set_option linter.unusedVariables false
set_option linter.all false
set_option linter.unusedSimpArgs false
set_option maxRecDepth 100000
namespace Go.Proofs.Ytahbkllfifmdfaa
open Go Go.RowKit Go.Ql Go.Vc
abbrev known15_a0 := (lowS
 { sup := [(3 : Int), (-3 : Int)], arcs := [{ src := (0 : Int), dst := (1 : Int), low := (2 : Int), cap := (5 : Int), cost := (4 : Int) : Arc }] : Inst })
abbrev known15_a1 := (lowS { sup := [(3 : Int), (-3 : Int)], arcs := [{ src := (0 : Int), dst := (1 : Int), low := (2 : Int), cap := (5 : Int), cost := (4 : Int) : Arc }] : Inst })
abbrev known15_a2 := ((known15_a0).fst.inst =
 { sup := [(1 : Int), (-1 : Int)], arcs := [{ src := (0 : Int), dst := (1 : Int), low := (0 : Int), cap := (3 : Int), cost := (4 : Int) : Arc }] : Inst })
def known15_E0 : Prop :=
      ((2 : Nat) ≤ (1000000 : Nat) ∧ (1 : Nat) ≤ (1000000 : Nat)) ∧
 (((known15_a1).snd ==
 (0 : Int)) =
 true →
 ((known15_a1).fst.did =
 true →
 I64 (8 : Int) ∧
 (decide
 ([(known15_a0).fst.off.hi,
 (known15_a0).fst.off.lo] =
 [(W (8 : Int)).hi, (W (8 : Int)).lo]) =
 true →
 ((known15_a0).fst.inst.sup.length ≤
 (1000000000 : Nat) ∧
 (known15_a0).fst.inst.arcs.length ≤
 (1000000000 : Nat)) ∧
 (decide
 (known15_a2) =
 true →
 (((known15_a0).fst.pass ==
 (1 : Int)) =
 true →
 ((known15_a0).fst.was.sup.length ≤
 (1000000000 : Nat) ∧
 (known15_a0).fst.was.arcs.length ≤
 (1000000000 : Nat)) ∧
 (decide
 ((known15_a0).fst.was =
 { sup := [(3 : Int), (-3 : Int)], arcs := [{ src := (0 : Int), dst := (1 : Int), low := (2 : Int), cap := (5 : Int), cost := (4 : Int) : Arc }] : Inst }) =
 true ∧
 True) ∧
 True) ∧
 (((known15_a0).fst.pass ==
 (1 : Int)) =
 false →
 (false = true ∧ True) ∧ True)) ∧
 (decide
 (known15_a2) =
 false →
 (false = true ∧ True) ∧ True)) ∧
 (decide
 ([(known15_a0).fst.off.hi,
 (known15_a0).fst.off.lo] =
 [(W (8 : Int)).hi, (W (8 : Int)).lo]) =
 false →
 (false = true ∧ True) ∧ True)) ∧
 ((known15_a1).fst.did =
 false →
 (false = true ∧ True) ∧ True)) ∧
 (((known15_a1).snd ==
 (0 : Int)) =
 false →
 (false = true ∧ True) ∧ True)
theorem known15_q : known15_E0 = FVcP TT known15_g (known15_I) (known15_an) Try.f15 [] [] (known15_r) := by kernel_rfl
theorem known15_E (hp : True) : FVc TT known15_g (known15_I) (known15_an) Try.f15 [] [] (known15_r) := by
  refine FVc.of (known15_E0) (known15_q) ?_
  unfold known15_E0
  delta known15_a2 known15_a1 known15_a0
  have e : lowS ⟨[3, -3], [⟨0, 1, 2, 5, 4⟩]⟩ = _ := known15_step
  simp only [e]
  simp only [eq_self, exists_const, forall_const, decide_eq_true_eq, decide_eq_false_iff_not, and_true, true_and, bne_iff_ne, ne_eq, bne_eq_false_iff_eq, Int.toNat_natCast, Bool.not_eq_true', Bool.not_eq_false', beq_iff_eq, beq_eq_false_iff_ne, nilEq_true]
  simp [known15I]
  unfold I64; omega
theorem known15_ok : SpecOk Try.prog known15_n true (specOf true known15_fs) :=
  spec_ok' TT_ok (show GsOk Try.prog known15_g from gsOk_cons Low_ok (gsOk_cons Of_ok (gsOk_cons rSame_ok (gsOk_nil)))) (by kernel_rfl) mixedOrders Try.func15 rfl rfl (by kernel_rfl) (n := 0) (by decide +kernel) (I := known15_IA) (fun _ _ => isOk_nil) (A := known15_A)
    (fun args h r hr => by
      unfold known15_fs at hr
      split at hr
      · cases hr; refine ⟨rfl, fun hp => ?_⟩; have hE := known15_E  hp; exact hE
      · cases hr)
abbrev Odd_a0 (c : List Int) (d : List Int) (e : List Int) (g : Nat) (x : Arc) (x_2 : Int) := ((oddTo (instF c d) e g).sup.set x.dst.toNat (IntKind.i64.wrap (x_2 + x.low)))
abbrev Odd_a1 (x : Int) (c : List Int) (d : List Int) (e : List Int) (g : Nat) := ((x.tmod (3 : Int) == (0 : Int)) = true →
 (oddTo (instF c d) e g).sup.length + (1 : Nat) ≤ (1000000000 : Nat) ∧
 ((True ∧ True ∧ True) ∧ True) ∧
 (oddTo (instF c d) e g).sup ++ [(0 : Int)] = (oddF c d e).sup ∧ (oddTo (instF c d) e g).arcs = (oddF c d e).arcs ∧ True)
abbrev Odd_a2 (g : Nat) (c : List Int) (d : List Int) (e : List Int) := ((0 : Int) ≤ (↑g : Int) ∧ (↑g : Int) < (↑(oddTo (instF c d) e g).arcs.length : Int))
abbrev Odd_a3 (e : List Int) (c : List Int) (d : List Int) (g : Nat) := (decide ((↑e.length : Int) > (0 : Int)) = false →
 ((True ∧ True ∧ True) ∧ True) ∧ (oddTo (instF c d) e g).sup = (oddF c d e).sup ∧ (oddTo (instF c d) e g).arcs = (oddF c d e).arcs ∧ True)
abbrev Odd_a4 (x : Int) (c : List Int) (d : List Int) (e : List Int) (g : Nat) := ((x.tmod (3 : Int) == (0 : Int)) = false →
 ((True ∧ True ∧ True) ∧ True) ∧ (oddTo (instF c d) e g).sup = (oddF c d e).sup ∧ (oddTo (instF c d) e g).arcs = (oddF c d e).arcs ∧ True)
def Odd_E0 (c : List Int) (d : List Int) (e : List Int) (ty0 ty1 ty2 : TypeId) : Prop :=
      (Bytes c ∧ Bytes d ∧ c.length ≤ maxLen ∧ d.length ≤ maxLen) ∧
 ∃ (g0 : Nat),
 (g0 ≤ oddN (instF c d) e ∧
 (True ∧ (0 : Nat) = (0 : Nat) ∧ (0 : Nat) = (0 : Nat) ∧ (0 : Int) = (↑g0 : Int) ∧ True) ∧
 (True ∧ True ∧ True) ∧
 (instF c d).sup = (oddTo (instF c d) e g0).sup ∧ (instF c d).arcs = (oddTo (instF c d) e g0).arcs ∧ (True ∧ True ∧ True) ∧ nilEq Int ∧ nilEq Arc ∧ e = e ∧ True) ∧
 ∀ (g : Nat),
 g ≤ oddN (instF c d) e →
 (decide ((↑g : Int) < (↑e.length : Int)) = true →
 (decide ((↑g : Int) < (↑(oddTo (instF c d) e g).arcs.length : Int)) = true →
 (Odd_a2 g c d e) ∧
 (↑g : Int).toNat < (oddTo (instF c d) e g).arcs.length ∧
 ∀ (x : Arc),
 (oddTo (instF c d) e g).arcs[(↑g : Int).toNat]? = some x →
 ((0 : Int) ≤ (↑g : Int) ∧ (↑g : Int) < (↑e.length : Int)) ∧
 (↑g : Int).toNat < e.length ∧
 ∀ (x_1 : Int),
 e[(↑g : Int).toNat]? = some x_1 →
 (6 : Int) ≠ (0 : Int) ∧
 ((x_1.tmod (6 : Int) == (0 : Int)) = true →
 ((0 : Int) ≤ x.dst ∧ x.dst < (↑(oddTo (instF c d) e g).sup.length : Int)) ∧
 x.dst.toNat < (oddTo (instF c d) e g).sup.length ∧
 ∀ (x_2 : Int),
 (oddTo (instF c d) e g).sup[x.dst.toNat]? = some x_2 →
 ((0 : Int) ≤ x.dst ∧ x.dst < (↑(oddTo (instF c d) e g).sup.length : Int)) ∧
 x.dst.toNat < (oddTo (instF c d) e g).sup.length ∧
 ((0 : Int) ≤ x.src ∧ x.src < (↑(Odd_a0 c d e g x x_2).length : Int)) ∧
 x.src.toNat < (Odd_a0 c d e g x x_2).length ∧
 ∀ (x_3 : Int),
 (Odd_a0 c d e g x x_2)[x.src.toNat]? = some x_3 →
 ((0 : Int) ≤ x.src ∧
 x.src < (↑(Odd_a0 c d e g x x_2).length : Int)) ∧
 x.src.toNat < (Odd_a0 c d e g x x_2).length ∧
 (Odd_a2 g c d e) ∧
 (↑g : Int).toNat < (oddTo (instF c d) e g).arcs.length ∧
 ∀ (x_4 : Arc),
 (oddTo (instF c d) e g).arcs[(↑g : Int).toNat]? = some x_4 →
 ∃ (g' : Nat),
 g' ≤ oddN (instF c d) e ∧
 oddN (instF c d) e - g' < oddN (instF c d) e - g ∧
 (True ∧
 (0 : Nat) = (0 : Nat) ∧
 (0 : Nat) = (0 : Nat) ∧ IntKind.i64.wrap ((↑g : Int) + (1 : Int)) = (↑g' : Int) ∧ True) ∧
 (True ∧ True ∧ True) ∧
 (Odd_a0 c d e g x x_2).set x.src.toNat
 (IntKind.i64.wrap (x_3 - x.low)) =
 (oddTo (instF c d) e g').sup ∧
 (oddTo (instF c d) e g).arcs.set (↑g : Int).toNat
 { src := x_4.src, dst := x.src, low := x_4.low, cap := x_4.cap, cost := x_4.cost : Arc } =
 (oddTo (instF c d) e g').arcs ∧
 (True ∧ True ∧ True) ∧ nilEq Int ∧ nilEq Arc ∧ e = e ∧ True) ∧
 ((x_1.tmod (6 : Int) == (0 : Int)) = false →
 ((x_1.tmod (6 : Int) == (1 : Int)) = true →
 (Odd_a2 g c d e) ∧
 (↑g : Int).toNat < (oddTo (instF c d) e g).arcs.length ∧
 ∀ (x_2 : Arc),
 (oddTo (instF c d) e g).arcs[(↑g : Int).toNat]? = some x_2 →
 ∃ (g' : Nat),
 g' ≤ oddN (instF c d) e ∧
 oddN (instF c d) e - g' < oddN (instF c d) e - g ∧
 (True ∧ (0 : Nat) = (0 : Nat) ∧ (0 : Nat) = (0 : Nat) ∧ IntKind.i64.wrap ((↑g : Int) + (1 : Int)) = (↑g' : Int) ∧ True) ∧
 (True ∧ True ∧ True) ∧
 (oddTo (instF c d) e g).sup = (oddTo (instF c d) e g').sup ∧
 (oddTo (instF c d) e g).arcs.set (↑g : Int).toNat
 { src := x_2.src, dst := x_2.dst, low := x_2.low, cap := x.low, cost := x_2.cost : Arc } =
 (oddTo (instF c d) e g').arcs ∧
 (True ∧ True ∧ True) ∧ nilEq Int ∧ nilEq Arc ∧ e = e ∧ True) ∧
 ((x_1.tmod (6 : Int) == (1 : Int)) = false →
 ((x_1.tmod (6 : Int) == (2 : Int)) = true →
 (Odd_a2 g c d e) ∧
 (↑g : Int).toNat < (oddTo (instF c d) e g).arcs.length ∧
 ∀ (x : Arc),
 (oddTo (instF c d) e g).arcs[(↑g : Int).toNat]? = some x →
 ∃ (g' : Nat),
 g' ≤ oddN (instF c d) e ∧
 oddN (instF c d) e - g' < oddN (instF c d) e - g ∧
 (True ∧
 (0 : Nat) = (0 : Nat) ∧ (0 : Nat) = (0 : Nat) ∧ IntKind.i64.wrap ((↑g : Int) + (1 : Int)) = (↑g' : Int) ∧ True) ∧
 (True ∧ True ∧ True) ∧
 (oddTo (instF c d) e g).sup = (oddTo (instF c d) e g').sup ∧
 (oddTo (instF c d) e g).arcs.set (↑g : Int).toNat
 { src := x.src, dst := x.dst, low := (0 : Int), cap := x.cap, cost := x.cost : Arc } =
 (oddTo (instF c d) e g').arcs ∧
 (True ∧ True ∧ True) ∧ nilEq Int ∧ nilEq Arc ∧ e = e ∧ True) ∧
 ((x_1.tmod (6 : Int) == (2 : Int)) = false →
 ∃ (g' : Nat),
 g' ≤ oddN (instF c d) e ∧
 oddN (instF c d) e - g' < oddN (instF c d) e - g ∧
 (True ∧ (0 : Nat) = (0 : Nat) ∧ (0 : Nat) = (0 : Nat) ∧ IntKind.i64.wrap ((↑g : Int) + (1 : Int)) = (↑g' : Int) ∧ True) ∧
 (True ∧ True ∧ True) ∧
 (oddTo (instF c d) e g).sup = (oddTo (instF c d) e g').sup ∧
 (oddTo (instF c d) e g).arcs = (oddTo (instF c d) e g').arcs ∧
 (True ∧ True ∧ True) ∧ nilEq Int ∧ nilEq Arc ∧ e = e ∧ True)))) ∧
 (decide ((↑g : Int) < (↑(oddTo (instF c d) e g).arcs.length : Int)) = false →
 (decide ((↑e.length : Int) > (0 : Int)) = true →
 ((0 : Int) ≤ (0 : Int) ∧ (0 : Int) < (↑e.length : Int)) ∧
 Int.toNat (0 : Int) < e.length ∧
 ∀ (x : Int),
 e[Int.toNat (0 : Int)]? = some x →
 (3 : Int) ≠ (0 : Int) ∧
 (Odd_a1 x c d e g) ∧
 (Odd_a4 x c d e g)) ∧
 (Odd_a3 e c d g))) ∧
 (decide ((↑g : Int) < (↑e.length : Int)) = false →
 (decide ((↑e.length : Int) > (0 : Int)) = true →
 ((0 : Int) ≤ (0 : Int) ∧ (0 : Int) < (↑e.length : Int)) ∧
 Int.toNat (0 : Int) < e.length ∧
 ∀ (x : Int),
 e[Int.toNat (0 : Int)]? = some x →
 (3 : Int) ≠ (0 : Int) ∧
 (Odd_a1 x c d e g) ∧
 (Odd_a4 x c d e g)) ∧
 (Odd_a3 e c d g))
theorem Odd_q (c : List Int) (d : List Int) (e : List Int) (ty0 ty1 ty2 : TypeId) : Odd_E0 c d e ty0 ty1 ty2 = FVcP TT Odd_g (Odd_I c d e) (Odd_an c d e) Try.f16 [.row 0, .row 1, .row 2] [(0, .row false ty0 (.ints .u8 c)), (1, .row false ty1 (.ints .u8 d)), (2, .row false ty2 (.ints .u8 e))] (Odd_r c d e) := by kernel_rfl
theorem Odd_E (c : List Int) (d : List Int) (e : List Int) (ty0 ty1 ty2 : TypeId) (hp : Bytes c ∧ Bytes d ∧ c.length ≤ maxLen ∧ d.length ≤ maxLen ∧ Bytes e ∧ e.length ≤ maxLen) : FVc TT Odd_g (Odd_I c d e) (Odd_an c d e) Try.f16 [.row 0, .row 1, .row 2] [(0, .row false ty0 (.ints .u8 c)), (1, .row false ty1 (.ints .u8 d)), (2, .row false ty2 (.ints .u8 e))] (Odd_r c d e) := by
  refine FVc.of (Odd_E0 c d e ty0 ty1 ty2) (Odd_q c d e ty0 ty1 ty2) ?_
  unfold Odd_E0
  delta Odd_a4 Odd_a3 Odd_a2 Odd_a1 Odd_a0
  simp only [eq_self, exists_const, forall_const, decide_eq_true_eq, decide_eq_false_iff_not, and_true, true_and, bne_iff_ne, ne_eq, bne_eq_false_iff_eq, Int.toNat_natCast, Bool.not_eq_true', Bool.not_eq_false', beq_iff_eq, beq_eq_false_iff_ne, nilEq_true]
  obtain ⟨b1, b2, b3, b4, b5, b6⟩ := hp
  have hr := instF_right c d
  have hwi := (right_within hr).1
  have hlen := right_small hr
  have har := instF_arcs c d
  refine ⟨⟨b1, b2, b3, b4⟩, 0, ⟨by omega, rfl, rfl, rfl⟩, fun g hg => ⟨fun h1 => ⟨fun h2 => ?_, fun h2 => ?_⟩, fun h1 => ?_⟩⟩
  · have hl := oddTo_len (instF c d) e g
    rw [hl.2] at h2
    have hgl : g < (instF c d).arcs.length := by omega
    have hge : g < e.length := by omega
    have hN : g + 1 ≤ oddN (instF c d) e := by unfold oddN; omega
    have hat := oddTo_at (instF c d) e g g (Nat.le_refl _)
    have hw : IntKind.i64.wrap ((g : Int) + 1) = ((g + 1 : Nat) : Int) := by rw [w64 (by omega) (by omega)]; omega
    refine ⟨⟨by omega, by omega⟩, by omega, fun a ha => ⟨⟨by omega, by omega⟩, hge, fun y hy => ⟨by omega, ?_⟩⟩⟩
    have ha2 := ha
    rw [hat] at ha
    obtain ⟨ho, hb1, hb2⟩ := rightF_arc hr (List.mem_of_getElem? ha)
    obtain ⟨q1, q2, q3, q4⟩ := okArc_iff.1 ho
    have hlo : ∀ a ∈ (instF c d).arcs, 0 ≤ a.low ∧ a.low ≤ 2 := fun a ha => by
      have := instF_nice c d a ha; exact ⟨this.l0, this.l1⟩
    have hlow := hlo a (List.mem_of_getElem? ha)
    have hyb := b5 y (List.mem_of_getElem? hy)
    have e6 : y.tmod 6 = y % 6 := Int.tmod_eq_emod_of_nonneg hyb.1
    rw [e6]
    have hs := oddTo_succ ha hy
    have hsw := oddTo_within (e := e) hwi (by omega) hlo g (by omega)
    simp only [ha2, Option.some.injEq, forall_eq', hw, hl.1, hl.2, List.length_set]
    refine ⟨fun e0 => ⟨⟨by omega, by omega⟩, by omega, fun p hp => ⟨⟨by omega, by omega⟩, by omega, ⟨by omega, by omega⟩, by omega, fun q hq => ⟨⟨by omega, by omega⟩, by omega, ⟨by omega, by omega⟩, by omega, g + 1, hN, by omega, rfl, ?_, ?_⟩⟩⟩, fun e0 => ⟨fun e1 => ⟨⟨by omega, by omega⟩, by omega, g + 1, hN, by omega, rfl, ?_, ?_⟩, fun e1 => ⟨fun e2 => ⟨⟨by omega, by omega⟩, by omega, g + 1, hN, by omega, rfl, ?_, ?_⟩, fun e2 => ⟨g + 1, hN, by omega, rfl, ?_, ?_⟩⟩⟩⟩
    · rw [hs]; dsimp only; unfold oddSup; rw [if_pos e0]; exact odd_step hsw (by omega) (by omega) hlow.1 hlow.2 hp hq
    · rw [hs]; dsimp only; unfold oddArc; rw [if_pos e0]
    · rw [hs]; exact (odd_stay e0).symm
    · rw [hs]; dsimp only; unfold oddArc; rw [if_neg e0, if_pos e1]
    · rw [hs]; exact (odd_stay e0).symm
    · rw [hs]; dsimp only; unfold oddArc; rw [if_neg e0, if_neg e1, if_pos e2]
    · rw [hs]; exact (odd_stay e0).symm
    · rw [hs]; dsimp only; unfold oddArc; rw [if_neg e0, if_neg e1, if_neg e2]; exact set_same ha2
  all_goals
    have hl := oddTo_len (instF c d) e g
    have hE := oddF_end (c := c) (d := d) (e := e) (g := g) (by unfold oddN at *; omega)
    refine ⟨fun h3 => ⟨⟨by omega, by omega⟩, by simp; omega, fun x hx => ⟨by omega, ?_⟩⟩, fun h3 => hE.2 (by omega)⟩
    have hx0 : e[0]? = some x := hx
    have hxb := b5 x (List.mem_of_getElem? hx0)
    rw [show x.tmod 3 = x % 3 from Int.tmod_eq_emod_of_nonneg hxb.1]
    have h4 := hE.1 (by omega) x hx0
    exact ⟨fun h5 => ⟨by omega, h4.1 h5⟩, fun h5 => h4.2 h5⟩
theorem Odd_ok : SpecOk Try.prog Odd_n true (specOf true Odd_fs) :=
  spec_ok' TT_ok (show GsOk Try.prog Odd_g from gsOk_cons Inst_ok (gsOk_nil)) (by kernel_rfl) mixedOrders Try.func16 rfl rfl (by kernel_rfl) (n := 3) (by decide +kernel) (I := Odd_IA) (fun _ _ => isOk_nil) (A := Odd_A)
    (fun args h r hr => by
      unfold Odd_fs at hr
      split at hr
      · rename_i ty0 c ty1 d ty2 e; cases hr; refine ⟨rfl, fun hp => ?_⟩; have hE := Odd_E c d e ty0 ty1 ty2 hp; exact hE
      · cases hr)
end Go.Proofs.Ytahbkllfifmdfaa
