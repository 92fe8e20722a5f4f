/- Part of the proof, FU15. -/
import Derived.Test.YtahbkllfifmdfaaZFT15
import Derived.Test.YtahbkllfifmdfaaZFRf
import Derived.Test.YtahbkllfifmdfaaZDU15
import Derived.Test.YtahbkllfifmdfaaZVc11
set_option linter.unusedVariables false
set_option linter.all false
set_option linter.unusedSimpArgs false
set_option maxRecDepth 100000
namespace Go.Proofs.Ytahbkllfifmdfaa
open Go Go.RowKit Go.Ql Go.Vc
def rCopy_E0 (I : Inst) (ty0 ty1 : TypeId) : Prop :=
      (0 : Nat) + I.sup.length ≤ (1000000000 : Nat) ∧ (0 : Nat) + I.arcs.length ≤ (1000000000 : Nat) ∧ ((True ∧ True ∧ True) ∧ True) ∧ I.sup = I.sup ∧ I.arcs = I.arcs ∧ True
theorem rCopy_q (I : Inst) (ty0 ty1 : TypeId) : rCopy_E0 I ty0 ty1 = FVcP TT rCopy_g (rCopy_I I) (rCopy_an I) Try.f129 [.agg [.row 0, .row 1]] [(0, .row false ty0 (.ints .i64 I.sup)), (1, .row false ty1 (.arcs I.arcs))] (rCopy_r I) := by kernel_rfl
theorem rCopy_E (I : Inst) (ty0 ty1 : TypeId) (hp : I.sup.length ≤ 1000000 ∧ I.arcs.length ≤ 1000000) : FVc TT rCopy_g (rCopy_I I) (rCopy_an I) Try.f129 [.agg [.row 0, .row 1]] [(0, .row false ty0 (.ints .i64 I.sup)), (1, .row false ty1 (.arcs I.arcs))] (rCopy_r I) := by
  refine FVc.of (rCopy_E0 I ty0 ty1) (rCopy_q I ty0 ty1) ?_
  unfold rCopy_E0
  simp only [eq_self, exists_const, forall_const, decide_eq_true_eq, decide_eq_false_iff_not, and_true, true_and, bne_iff_ne, ne_eq, bne_eq_false_iff_eq, Int.toNat_natCast, Bool.not_eq_true', Bool.not_eq_false', beq_iff_eq, beq_eq_false_iff_ne, nilEq_true]
  exact ⟨by omega, by omega⟩
theorem rCopy_ok : SpecOk Try.prog rCopy_n true (specOf true rCopy_fs) :=
  spec_ok' TT_ok (show GsOk Try.prog rCopy_g from gsOk_nil) (by kernel_rfl) mixedOrders Try.func129 rfl rfl (by kernel_rfl) (n := 1) (by decide +kernel) (I := rCopy_IA) (fun _ _ => isOk_nil) (A := rCopy_A)
    (fun args h r hr => by
      unfold rCopy_fs at hr
      split at hr
      · rename_i ty0 I_s ty1 I_a; cases hr; refine ⟨rfl, fun hp => ?_⟩; have hE := rCopy_E ⟨I_s, I_a⟩ ty0 ty1 hp; exact hE
      · cases hr)
def Fixed15_E0 (I : Inst) (a : Int) (n : Int) (o : Wide) (ty0 ty1 : TypeId) : Prop :=
      ((0 : Int) ≤ a ∧ a < (↑I.arcs.length : Int)) ∧
 a.toNat < I.arcs.length ∧
 ∀ (x : Arc),
 I.arcs[a.toNat]? = some x →
 (I.sup.length ≤ (1000000 : Nat) ∧ I.arcs.length ≤ (1000000 : Nat)) ∧
 ((0 : Int) ≤ x.src ∧ x.src < (↑I.sup.length : Int)) ∧
 x.src.toNat < I.sup.length ∧
 ∀ (x_1 : Int),
 I.sup[x.src.toNat]? = some x_1 →
 ((0 : Int) ≤ x.src ∧ x.src < (↑I.sup.length : Int)) ∧
 x.src.toNat < I.sup.length ∧
 ((0 : Int) ≤ x.dst ∧ x.dst < (↑(I.sup.set x.src.toNat (IntKind.i64.wrap (x_1 - n))).length : Int)) ∧
 x.dst.toNat < (I.sup.set x.src.toNat (IntKind.i64.wrap (x_1 - n))).length ∧
 ∀ (x_2 : Int),
 (I.sup.set x.src.toNat (IntKind.i64.wrap (x_1 - n)))[x.dst.toNat]? = some x_2 →
 ((0 : Int) ≤ x.dst ∧ x.dst < (↑(I.sup.set x.src.toNat (IntKind.i64.wrap (x_1 - n))).length : Int)) ∧
 x.dst.toNat < (I.sup.set x.src.toNat (IntKind.i64.wrap (x_1 - n))).length ∧
 (I64 n ∧ I64 x.cost) ∧
 (o.ok ∧ (W (n * x.cost)).ok) ∧
 (((True ∧ True ∧ True) ∧
 ((wplus o (W (n * x.cost))).hi = (wplus o (W (n * (I.arcs.getD a.toNat default).cost))).hi ∧
 (wplus o (W (n * x.cost))).lo = (wplus o (W (n * (I.arcs.getD a.toNat default).cost))).lo ∧ True) ∧
 True) ∧
 True) ∧
 (I.sup.set x.src.toNat (IntKind.i64.wrap (x_1 - n))).set x.dst.toNat (IntKind.i64.wrap (x_2 + n)) =
 fixSup I.sup (I.arcs.getD a.toNat default) n ∧
 I.arcs = I.arcs ∧ True
theorem Fixed15_q (I : Inst) (a : Int) (n : Int) (o : Wide) (ty0 ty1 : TypeId) : Fixed15_E0 I a n o ty0 ty1 = FVcP TT Fixed15_g (Fixed15_I I a n o) (Fixed15_an I a n o) Try.f111 [.agg [.row 0, .row 1], .int .i64 a, .int .i64 n, .agg (encWide o)] [(0, .row false ty0 (.ints .i64 I.sup)), (1, .row false ty1 (.arcs I.arcs))] (Fixed15_r I a n o) := by kernel_rfl
theorem Fixed15_E (I : Inst) (a : Int) (n : Int) (o : Wide) (ty0 ty1 : TypeId) (hp : FixOk I a n o) : FVc TT Fixed15_g (Fixed15_I I a n o) (Fixed15_an I a n o) Try.f111 [.agg [.row 0, .row 1], .int .i64 a, .int .i64 n, .agg (encWide o)] [(0, .row false ty0 (.ints .i64 I.sup)), (1, .row false ty1 (.arcs I.arcs))] (Fixed15_r I a n o) := by
  refine FVc.of (Fixed15_E0 I a n o ty0 ty1) (Fixed15_q I a n o ty0 ty1) ?_
  unfold Fixed15_E0
  obtain ⟨h1, h2, h3, h4, h5, h6, h7, h8, h9, h10⟩ := hp
  simp only [eq_self, exists_const, forall_const, decide_eq_true_eq, decide_eq_false_iff_not, and_true, true_and, bne_iff_ne, ne_eq, bne_eq_false_iff_eq, Int.toNat_natCast, Bool.not_eq_true', Bool.not_eq_false', beq_iff_eq, beq_eq_false_iff_ne, nilEq_true]
  simp only [List.length_set]
  refine ⟨by omega, by omega, fun x hx => ?_⟩
  have hd : I.arcs.getD a.toNat default = x := by rw [List.getD_eq_getElem?_getD, hx]; rfl
  rw [hd] at h3 h7 ⊢
  obtain ⟨o1, o2, o3, o4⟩ := okArc_iff.1 h3
  exact ⟨⟨h10, h9⟩, by omega, by omega, fun p hp => ⟨by omega, by omega, by omega, by omega, fun q hq => ⟨by omega, by omega, ⟨by unfold I64; omega, h7⟩, ⟨h8, W_ok _⟩, ⟨rfl, rfl⟩, fix_step h4 (by omega) (by omega) h5 h6 hp hq⟩⟩⟩
theorem Fixed15_ok : SpecOk Try.prog Fixed15_n true (specOf true Fixed15_fs) :=
  spec_ok' TT_ok (show GsOk Try.prog Fixed15_g from gsOk_cons rCopy_ok (gsOk_cons rPlus_ok (gsOk_cons rTimes_ok (gsOk_nil)))) (by kernel_rfl) mixedOrders Try.func111 rfl rfl (by kernel_rfl) (n := 4) (by decide +kernel) (I := Fixed15_IA) (fun _ _ => isOk_nil) (A := Fixed15_A)
    (fun args h r hr => by
      unfold Fixed15_fs at hr
      split at hr
      · rename_i a n o_0 o_1 ty0 I_s ty1 I_a; cases hr; refine ⟨rfl, fun hp => ?_⟩; have hE := Fixed15_E ⟨I_s, I_a⟩ a n ⟨o_0, o_1⟩ ty0 ty1 hp; exact hE
      · cases hr)
theorem Done15_ok : SpecOk Try.prog Done15_n false Done15_spec :=
  inl_ok TT_ok (show GsOk Try.prog Done15_g from gsOk_cons rRight_ok (gsOk_nil)) (by kernel_rfl) mixedOrders Try.func112 rfl rfl (by kernel_rfl) _
abbrev rLow_a0 (g : Nat) (I : Inst) (x_1 : Arc) := ((List.map lowArc (List.take g I.arcs) ++ List.drop g I.arcs).set (↑g : Int).toNat
 { src := x_1.src, dst := x_1.dst, low := (0 : Int), cap := x_1.cap, cost := x_1.cost : Arc })
abbrev rLow_a1 (g : Nat) (I : Inst) := (List.map lowArc (List.take g I.arcs) ++ List.drop g I.arcs)
abbrev rLow_a2 (I : Inst) (g : Nat) (x : Arc) := (wplus (W (offTo takeLow I g))
 (W
 (x.low *
 ((rLow_a1 g I).getD (↑g : Int).toNat
 default).cost)))
abbrev rLow_a3 (g : Nat) (I : Inst) (x_1 : Arc) := ((0 : Int) ≤ (↑g : Int) ∧
 (↑g : Int) <
 (↑(rLow_a0 g I x_1).length :
 Int))
abbrev rLow_a4 := (True ∧ True ∧ (0 : Int) = (0 : Int) ∧ True ∧ True ∧ (0 : Int) = (0 : Int) ∧ (0 : Int) = (0 : Int) ∧ True ∧ True)
abbrev rLow_a5 (I : Inst) (g' : Nat) (g : Nat) := ((0 : Nat) = (0 : Nat) ∧
 (0 : Nat) = (0 : Nat) ∧
 (0 : Nat) = (0 : Nat) ∧
 (0 : Nat) = (0 : Nat) ∧
 true = didTo takeLow I g' ∧ IntKind.i64.wrap ((↑g : Int) + (1 : Int)) = (↑g' : Int) ∧ True)
abbrev rLow_a6 (I : Inst) (g : Nat) (x : Arc) (g' : Nat) := ((wplus (W (offTo takeLow I g))
 (W
 (x.low *
 ((rLow_a1 g I).getD (↑g : Int).toNat default).cost))).hi =
 (W (offTo takeLow I g')).hi ∧
 (rLow_a2 I g x).lo =
 (W (offTo takeLow I g')).lo ∧
 True)
abbrev rLow_a7 := (True ∧
 True ∧
 (0 : Int) = (0 : Int) ∧
 True ∧ True ∧ (0 : Int) = (0 : Int) ∧ (0 : Int) = (0 : Int) ∧ True ∧ True)
def rLow_E0 (I : Inst) (ty0 ty1 : TypeId) : Prop :=
      True ∧
 ((rightF I != (0 : Int)) = true →
 (((True ∧ True ∧ (0 : Int) = (lowS I).fst.pass ∧ True ∧ True ∧ (0 : Int) = (lowS I).fst.off.hi ∧ (0 : Int) = (lowS I).fst.off.lo ∧ false = (lowS I).fst.did ∧ True) ∧
 rightF I = (lowS I).snd ∧ True) ∧
 True) ∧
 [] = (lowS I).fst.inst.sup ∧ [] = (lowS I).fst.inst.arcs ∧ [] = (lowS I).fst.was.sup ∧ [] = (lowS I).fst.was.arcs ∧ True) ∧
 ((rightF I != (0 : Int)) = false →
 ∃ (g0 : Nat),
 (g0 ≤ I.arcs.length ∧
 ((0 : Nat) = (0 : Nat) ∧ (0 : Nat) = (0 : Nat) ∧ (0 : Nat) = (0 : Nat) ∧ (0 : Nat) = (0 : Nat) ∧ false = didTo takeLow I g0 ∧ (0 : Int) = (↑g0 : Int) ∧ True) ∧
 ((0 : Int) = (W (offTo takeLow I g0)).hi ∧ (0 : Int) = (W (offTo takeLow I g0)).lo ∧ True) ∧
 (True ∧ True ∧ True) ∧
 (rLow_a4) ∧
 nilEq Int ∧
 nilEq Arc ∧
 nilEq Int ∧
 nilEq Arc ∧
 (True ∧ True ∧ True) ∧
 I.sup = I.sup ∧ I.arcs = I.arcs ∧ I.sup = supTo takeLow I g0 ∧ I.arcs = List.map lowArc (List.take g0 I.arcs) ++ List.drop g0 I.arcs ∧ True) ∧
 ∀ (g : Nat),
 g ≤ I.arcs.length →
 (decide ((↑g : Int) < (↑I.arcs.length : Int)) = true →
 ((0 : Int) ≤ (↑g : Int) ∧ (↑g : Int) < (↑I.arcs.length : Int)) ∧
 (↑g : Int).toNat < I.arcs.length ∧
 ∀ (x : Arc),
 I.arcs[(↑g : Int).toNat]? = some x →
 (didTo takeLow I g = true →
 FixOk { sup := supTo takeLow I g, arcs := List.map lowArc (List.take g I.arcs) ++ List.drop g I.arcs : Inst } (↑g : Int) x.low
 (W (offTo takeLow I g)) ∧
 ((0 : Int) ≤ (↑g : Int) ∧ (↑g : Int) < (↑(rLow_a1 g I).length : Int)) ∧
 (↑g : Int).toNat < (rLow_a1 g I).length ∧
 ∀ (x_1 : Arc),
 (rLow_a1 g I)[(↑g : Int).toNat]? = some x_1 →
 (rLow_a3 g I x_1) ∧
 (↑g : Int).toNat <
 (rLow_a0 g I x_1).length ∧
 ∀ (x_2 : Arc),
 (rLow_a0 g I x_1)[(↑g : Int).toNat]? =
 some x_2 →
 ((x_2.cap != (4611686018427387904 : Int)) = true →
 (rLow_a3 g I x_1) ∧
 (↑g : Int).toNat <
 (rLow_a0 g I x_1).length ∧
 ∀ (x_3 : Arc),
 (rLow_a0 g I x_1)[(↑g : Int).toNat]? =
 some x_3 →
 (rLow_a3 g I x_1) ∧
 (↑g : Int).toNat <
 (rLow_a0 g I x_1).length ∧
 ∀ (x_4 : Arc),
 (rLow_a0 g I x_1)[(↑g : Int).toNat]? =
 some x_4 →
 ∃ (g' : Nat),
 g' ≤ I.arcs.length ∧
 I.arcs.length - g' < I.arcs.length - g ∧
 (rLow_a5 I g' g) ∧
 ((rLow_a2 I g x).hi =
 (W (offTo takeLow I g')).hi ∧
 (rLow_a2 I g x).lo =
 (W (offTo takeLow I g')).lo ∧
 True) ∧
 (True ∧ True ∧ True) ∧
 (rLow_a7) ∧
 nilEq Int ∧
 nilEq Arc ∧
 nilEq Int ∧
 nilEq Arc ∧
 (True ∧ True ∧ True) ∧
 I.sup = I.sup ∧
 I.arcs = I.arcs ∧
 fixSup (supTo takeLow I g)
 ((rLow_a1 g I).getD
 (↑g : Int).toNat default)
 x.low =
 supTo takeLow I g' ∧
 (rLow_a0 g I x_1).set
 (↑g : Int).toNat
 { src := x_4.src, dst := x_4.dst, low := x_4.low, cap := IntKind.i64.wrap (x_3.cap - x.low), cost := x_4.cost : Arc } =
 List.map lowArc (List.take g' I.arcs) ++ List.drop g' I.arcs ∧
 True) ∧
 ((x_2.cap != (4611686018427387904 : Int)) = false →
 ∃ (g' : Nat),
 g' ≤ I.arcs.length ∧
 I.arcs.length - g' < I.arcs.length - g ∧
 (rLow_a5 I g' g) ∧
 (rLow_a6 I g x g') ∧
 (True ∧ True ∧ True) ∧
 (rLow_a4) ∧
 nilEq Int ∧
 nilEq Arc ∧
 nilEq Int ∧
 nilEq Arc ∧
 (True ∧ True ∧ True) ∧
 I.sup = I.sup ∧
 I.arcs = I.arcs ∧
 fixSup (supTo takeLow I g)
 ((rLow_a1 g I).getD (↑g : Int).toNat default)
 x.low =
 supTo takeLow I g' ∧
 (rLow_a1 g I).set (↑g : Int).toNat
 { src := x_1.src, dst := x_1.dst, low := (0 : Int), cap := x_1.cap, cost := x_1.cost : Arc } =
 List.map lowArc (List.take g' I.arcs) ++ List.drop g' I.arcs ∧
 True)) ∧
 (didTo takeLow I g = false →
 FixOk { sup := supTo takeLow I g, arcs := List.map lowArc (List.take g I.arcs) ++ List.drop g I.arcs : Inst } (↑g : Int) x.low
 (W (offTo takeLow I g)) ∧
 ((0 : Int) ≤ (↑g : Int) ∧ (↑g : Int) < (↑(rLow_a1 g I).length : Int)) ∧
 (↑g : Int).toNat < (rLow_a1 g I).length ∧
 ∀ (x_1 : Arc),
 (rLow_a1 g I)[(↑g : Int).toNat]? = some x_1 →
 (rLow_a3 g I x_1) ∧
 (↑g : Int).toNat <
 (rLow_a0 g I x_1).length ∧
 ∀ (x_2 : Arc),
 (rLow_a0 g I x_1)[(↑g : Int).toNat]? =
 some x_2 →
 ((x_2.cap != (4611686018427387904 : Int)) = true →
 (rLow_a3 g I x_1) ∧
 (↑g : Int).toNat <
 (rLow_a0 g I x_1).length ∧
 ∀ (x_3 : Arc),
 (rLow_a0 g I x_1)[(↑g : Int).toNat]? =
 some x_3 →
 (rLow_a3 g I x_1) ∧
 (↑g : Int).toNat <
 (rLow_a0 g I x_1).length ∧
 ∀ (x_4 : Arc),
 (rLow_a0 g I x_1)[(↑g : Int).toNat]? =
 some x_4 →
 ∃ (g' : Nat),
 g' ≤ I.arcs.length ∧
 I.arcs.length - g' < I.arcs.length - g ∧
 ((0 : Nat) = (0 : Nat) ∧
 (0 : Nat) = (0 : Nat) ∧
 (0 : Nat) = (0 : Nat) ∧
 (0 : Nat) = (0 : Nat) ∧
 (x.low != (0 : Int)) = didTo takeLow I g' ∧
 IntKind.i64.wrap ((↑g : Int) + (1 : Int)) = (↑g' : Int) ∧ True) ∧
 ((rLow_a2 I g x).hi =
 (W (offTo takeLow I g')).hi ∧
 (rLow_a2 I g x).lo =
 (W (offTo takeLow I g')).lo ∧
 True) ∧
 (True ∧ True ∧ True) ∧
 (rLow_a7) ∧
 nilEq Int ∧
 nilEq Arc ∧
 nilEq Int ∧
 nilEq Arc ∧
 (True ∧ True ∧ True) ∧
 I.sup = I.sup ∧
 I.arcs = I.arcs ∧
 fixSup (supTo takeLow I g)
 ((rLow_a1 g I).getD
 (↑g : Int).toNat default)
 x.low =
 supTo takeLow I g' ∧
 (rLow_a0 g I x_1).set
 (↑g : Int).toNat
 { src := x_4.src, dst := x_4.dst, low := x_4.low, cap := IntKind.i64.wrap (x_3.cap - x.low), cost := x_4.cost : Arc } =
 List.map lowArc (List.take g' I.arcs) ++ List.drop g' I.arcs ∧
 True) ∧
 ((x_2.cap != (4611686018427387904 : Int)) = false →
 ∃ (g' : Nat),
 g' ≤ I.arcs.length ∧
 I.arcs.length - g' < I.arcs.length - g ∧
 ((0 : Nat) = (0 : Nat) ∧
 (0 : Nat) = (0 : Nat) ∧
 (0 : Nat) = (0 : Nat) ∧
 (0 : Nat) = (0 : Nat) ∧
 (x.low != (0 : Int)) = didTo takeLow I g' ∧ IntKind.i64.wrap ((↑g : Int) + (1 : Int)) = (↑g' : Int) ∧ True) ∧
 (rLow_a6 I g x g') ∧
 (True ∧ True ∧ True) ∧
 (rLow_a4) ∧
 nilEq Int ∧
 nilEq Arc ∧
 nilEq Int ∧
 nilEq Arc ∧
 (True ∧ True ∧ True) ∧
 I.sup = I.sup ∧
 I.arcs = I.arcs ∧
 fixSup (supTo takeLow I g)
 ((rLow_a1 g I).getD (↑g : Int).toNat default)
 x.low =
 supTo takeLow I g' ∧
 (rLow_a1 g I).set (↑g : Int).toNat
 { src := x_1.src, dst := x_1.dst, low := (0 : Int), cap := x_1.cap, cost := x_1.cost : Arc } =
 List.map lowArc (List.take g' I.arcs) ++ List.drop g' I.arcs ∧
 True))) ∧
 (decide ((↑g : Int) < (↑I.arcs.length : Int)) = false →
 ((!didTo takeLow I g) = true →
 (((True ∧
 True ∧
 (0 : Int) = (lowS I).fst.pass ∧ True ∧ True ∧ (0 : Int) = (lowS I).fst.off.hi ∧ (0 : Int) = (lowS I).fst.off.lo ∧ false = (lowS I).fst.did ∧ True) ∧
 (0 : Int) = (lowS I).snd ∧ True) ∧
 True) ∧
 I.sup = (lowS I).fst.inst.sup ∧ I.arcs = (lowS I).fst.inst.arcs ∧ [] = (lowS I).fst.was.sup ∧ [] = (lowS I).fst.was.arcs ∧ True) ∧
 ((!didTo takeLow I g) = false →
 True ∧
 ((rightF { sup := supTo takeLow I g, arcs := List.map lowArc (List.take g I.arcs) ++ List.drop g I.arcs : Inst } != (0 : Int)) = true →
 (((True ∧
 True ∧
 (0 : Int) = (lowS I).fst.pass ∧
 True ∧ True ∧ (0 : Int) = (lowS I).fst.off.hi ∧ (0 : Int) = (lowS I).fst.off.lo ∧ false = (lowS I).fst.did ∧ True) ∧
 (40 : Int) = (lowS I).snd ∧ True) ∧
 True) ∧
 [] = (lowS I).fst.inst.sup ∧ [] = (lowS I).fst.inst.arcs ∧ [] = (lowS I).fst.was.sup ∧ [] = (lowS I).fst.was.arcs ∧ True) ∧
 ((rightF { sup := supTo takeLow I g, arcs := List.map lowArc (List.take g I.arcs) ++ List.drop g I.arcs : Inst } != (0 : Int)) = false →
 (((True ∧
 True ∧
 (1 : Int) = (lowS I).fst.pass ∧
 True ∧
 True ∧
 (W (offTo takeLow I g)).hi = (lowS I).fst.off.hi ∧ (W (offTo takeLow I g)).lo = (lowS I).fst.off.lo ∧ true = (lowS I).fst.did ∧ True) ∧
 (0 : Int) = (lowS I).snd ∧ True) ∧
 True) ∧
 supTo takeLow I g = (lowS I).fst.inst.sup ∧
 List.map lowArc (List.take g I.arcs) ++ List.drop g I.arcs = (lowS I).fst.inst.arcs ∧
 I.sup = (lowS I).fst.was.sup ∧ I.arcs = (lowS I).fst.was.arcs ∧ True))))
theorem rLow_q (I : Inst) (ty0 ty1 : TypeId) : rLow_E0 I ty0 ty1 = FVcP TT rLow_g (rLow_I I) (rLow_an I) Try.f87 [.agg [.row 0, .row 1]] [(0, .row false ty0 (.ints .i64 I.sup)), (1, .row false ty1 (.arcs I.arcs))] (rLow_r I) := by kernel_rfl
theorem rLow_E (I : Inst) (ty0 ty1 : TypeId) (hp : I.sup.length ≤ 1000000 ∧ I.arcs.length ≤ 1000000) : FVc TT rLow_g (rLow_I I) (rLow_an I) Try.f87 [.agg [.row 0, .row 1]] [(0, .row false ty0 (.ints .i64 I.sup)), (1, .row false ty1 (.arcs I.arcs))] (rLow_r I) := by
  refine FVc.of (rLow_E0 I ty0 ty1) (rLow_q I ty0 ty1) ?_
  unfold rLow_E0
  delta rLow_a7 rLow_a6 rLow_a5 rLow_a4 rLow_a3 rLow_a2 rLow_a1 rLow_a0
  simp only [eq_self, exists_const, forall_const, decide_eq_true_eq, decide_eq_false_iff_not, and_true, true_and, bne_iff_ne, ne_eq, bne_eq_false_iff_eq, Int.toNat_natCast, Bool.not_eq_true', Bool.not_eq_false', beq_iff_eq, beq_eq_false_iff_ne, nilEq_true]
  refine ⟨fun hr => by rw [(pass_bad hr).1]; exact ⟨⟨⟨rfl, rfl, rfl, rfl⟩, rfl⟩, rfl, rfl, rfl, rfl⟩, fun hr => ?_⟩
  have hlen := right_small hr
  have hwi := (right_within hr).1
  have hz := to_zero takeLow I
  refine ⟨0, ⟨by omega, ⟨hz.2.2.symm, rfl⟩, ⟨by rw [hz.2.1]; rfl, by rw [hz.2.1]; rfl⟩, hz.1.symm, by simp⟩, fun g hg => ⟨fun h1 => ⟨by omega, by omega, fun x hx => ?_⟩, fun h1 => ?_⟩⟩
  · have hgl : g < I.arcs.length := by omega
    obtain ⟨ho, hb1, hb2⟩ := rightF_arc hr (List.mem_of_getElem? hx)
    have e1 := low_sup hx
    have e2 := low_off hx
    have e3 := low_did hx
    have e4 := mapto_set (b := lowArc x) hx rfl
    have hLl := mapto_len lowArc I.arcs g
    have hL : (List.map lowArc (List.take g I.arcs) ++ List.drop g I.arcs)[g]? = some x := by rw [mapto_get hgl, hx]
    have hsw := supTo_within (small_low hr) hwi g hg
    have hsl := supTo_len takeLow I g
    generalize List.map lowArc (List.take g I.arcs) ++ List.drop g I.arcs = L at *
    have hLd : L.getD g default = x := by rw [List.getD_eq_getElem?_getD, hL]; rfl
    have hset : ∀ y : Arc, (L.set g y)[g]? = some y := fun y => by simp [List.getElem?_set, hLl, hgl]
    have hfix : FixOk ⟨supTo takeLow I g, L⟩ g x.low (W (offTo takeLow I g)) := by
      refine ⟨by omega, by dsimp only; omega, ?_, hsw.more (by omega), by omega, by omega, ?_, W_ok _, by dsimp only; omega, by dsimp only; omega⟩
      · dsimp only; rw [Int.toNat_natCast, hLd, hsl]; exact ho
      · dsimp only; rw [Int.toNat_natCast, hLd]; unfold I64; omega
    have hw : IntKind.i64.wrap ((g : Int) + 1) = ((g + 1 : Nat) : Int) := by rw [w64 (by omega) (by omega)]; omega
    simp only [hL, hLd, List.length_set, hLl, hset, Option.some.injEq, forall_eq', List.set_set, e1, e2, hw]
    have hcap : ¬x.cap = 4611686018427387904 → L.set g ⟨x.src, x.dst, 0, IntKind.i64.wrap (x.cap - x.low), x.cost⟩ = List.map lowArc (List.take (g + 1) I.arcs) ++ List.drop (g + 1) I.arcs := fun hc => by
      have h3 := hb1.2.2.resolve_left hc
      rw [lowArc_cap hc hb1.1 h3.1 h3.2]; exact e4
    have hinf : x.cap = 4611686018427387904 → L.set g ⟨x.src, x.dst, 0, x.cap, x.cost⟩ = List.map lowArc (List.take (g + 1) I.arcs) ++ List.drop (g + 1) I.arcs := fun hc => by
      rw [lowArc_inf hc]; exact e4
    have hd2 : didTo takeLow I g = false → (x.low != 0) = didTo takeLow I (g + 1) := fun hd => by
      rw [e3, hd]; by_cases h : x.low = 0 <;> simp [h]
    have hd1 : didTo takeLow I g = true → true = didTo takeLow I (g + 1) := fun hd => by rw [e3, hd]; rfl
    refine ⟨fun hd => ⟨hfix, ⟨by omega, by omega⟩, hgl, ⟨by omega, by omega⟩, hgl, fun hc => ⟨⟨by omega, by omega⟩, hgl, ⟨by omega, by omega⟩, hgl, g + 1, by omega, by omega, ⟨hd1 hd, rfl⟩, ⟨rfl, rfl⟩, rfl, hcap hc⟩, fun hc => ⟨g + 1, by omega, by omega, ⟨hd1 hd, rfl⟩, ⟨rfl, rfl⟩, rfl, hinf hc⟩⟩,
      fun hd => ⟨hfix, ⟨by omega, by omega⟩, hgl, ⟨by omega, by omega⟩, hgl, fun hc => ⟨⟨by omega, by omega⟩, hgl, ⟨by omega, by omega⟩, hgl, g + 1, by omega, by omega, ⟨hd2 hd, rfl⟩, ⟨rfl, rfl⟩, rfl, hcap hc⟩, fun hc => ⟨g + 1, by omega, by omega, ⟨hd2 hd, rfl⟩, ⟨rfl, rfl⟩, rfl, hinf hc⟩⟩⟩
  · have eg : g = I.arcs.length := by omega
    subst eg
    have he := to_end takeLow I (k := I.arcs.length) (Nat.le_refl _)
    have hdone := lowS_done hr
    unfold lowI at hdone
    rw [he.1, he.2.1, he.2.2, List.take_length, List.drop_length, List.append_nil, ← hdone]
    exact ⟨fun hd => by rw [doneF_stay hd]; exact ⟨⟨⟨rfl, rfl, rfl, rfl⟩, rfl⟩, rfl, rfl, rfl, rfl⟩, fun hd => ⟨fun h2 => by rw [doneF_over hd h2]; exact ⟨⟨⟨rfl, rfl, rfl, rfl⟩, rfl⟩, rfl, rfl, rfl, rfl⟩, fun h2 => by rw [doneF_done hd h2]; exact ⟨⟨⟨rfl, rfl, rfl, rfl⟩, rfl⟩, rfl, rfl, rfl, rfl⟩⟩⟩
theorem rLow_ok : SpecOk Try.prog rLow_n true (specOf true rLow_fs) :=
  spec_ok' TT_ok (show GsOk Try.prog rLow_g from gsOk_cons rRight_ok (gsOk_cons Fixed15_ok (gsOk_cons Done15_ok (gsOk_nil)))) (by kernel_rfl) mixedOrders Try.func87 rfl rfl (by kernel_rfl) (n := 1) (by decide +kernel) (I := rLow_IA) (fun _ _ => isOk_nil) (A := rLow_A)
    (fun args h r hr => by
      unfold rLow_fs at hr
      split at hr
      · rename_i ty0 I_s ty1 I_a; cases hr; refine ⟨rfl, fun hp => ?_⟩; have hE := rLow_E ⟨I_s, I_a⟩ ty0 ty1 hp; exact hE
      · cases hr)
def LoopOf_E0 (a : Arc) : Prop :=
      ((a.src != a.dst) = true → ((false = (takeLoop a).isSome ∧ (0 : Int) = (takeLoop a).getD (0 : Int) ∧ True) ∧ True) ∧ True) ∧
 ((a.src != a.dst) = false →
 (decide (a.cost < (0 : Int)) = true →
 ((a.cap == (4611686018427387904 : Int)) = true → ((false = (takeLoop a).isSome ∧ (0 : Int) = (takeLoop a).getD (0 : Int) ∧ True) ∧ True) ∧ True) ∧
 ((a.cap == (4611686018427387904 : Int)) = false →
 (decide (a.cost ≥ (0 : Int)) = true → ((true = (takeLoop a).isSome ∧ a.low = (takeLoop a).getD (0 : Int) ∧ True) ∧ True) ∧ True) ∧
 (decide (a.cost ≥ (0 : Int)) = false → ((true = (takeLoop a).isSome ∧ a.cap = (takeLoop a).getD (0 : Int) ∧ True) ∧ True) ∧ True))) ∧
 (decide (a.cost < (0 : Int)) = false →
 (decide (a.cost ≥ (0 : Int)) = true → ((true = (takeLoop a).isSome ∧ a.low = (takeLoop a).getD (0 : Int) ∧ True) ∧ True) ∧ True) ∧
 (decide (a.cost ≥ (0 : Int)) = false → ((true = (takeLoop a).isSome ∧ a.cap = (takeLoop a).getD (0 : Int) ∧ True) ∧ True) ∧ True)))
theorem LoopOf_q (a : Arc) : LoopOf_E0 a = FVcP TT LoopOf_g (LoopOf_I a) (LoopOf_an a) Try.f113 [.agg (encArc a)] [] (LoopOf_r a) := by kernel_rfl
theorem LoopOf_E (a : Arc) (hp : True) : FVc TT LoopOf_g (LoopOf_I a) (LoopOf_an a) Try.f113 [.agg (encArc a)] [] (LoopOf_r a) := by
  refine FVc.of (LoopOf_E0 a) (LoopOf_q a) ?_
  unfold LoopOf_E0
  simp only [eq_self, exists_const, forall_const, decide_eq_true_eq, decide_eq_false_iff_not, and_true, true_and, bne_iff_ne, ne_eq, bne_eq_false_iff_eq, Int.toNat_natCast, Bool.not_eq_true', Bool.not_eq_false', beq_iff_eq, beq_eq_false_iff_ne, nilEq_true]
  unfold takeLoop inf
  refine ⟨fun h => by simp [h], fun h => ⟨fun h2 => ⟨fun h3 => by simp [h, h2, h3], fun h3 => ⟨fun h4 => by omega, fun h4 => by simp [h, h3, show ¬ (0 ≤ a.cost) by omega]⟩⟩, fun h2 => ⟨fun h4 => by simp [h, h2, show 0 ≤ a.cost by omega], fun h4 => by omega⟩⟩⟩
theorem LoopOf_ok : SpecOk Try.prog LoopOf_n true (specOf true LoopOf_fs) :=
  spec_ok' TT_ok (show GsOk Try.prog LoopOf_g from gsOk_nil) (by kernel_rfl) mixedOrders Try.func113 rfl rfl (by kernel_rfl) (n := 1) (by decide +kernel) (I := LoopOf_IA) (fun _ _ => isOk_nil) (A := LoopOf_A)
    (fun args h r hr => by
      unfold LoopOf_fs at hr
      split at hr
      · rename_i a_0 a_1 a_2 a_3 a_4; cases hr; refine ⟨rfl, fun hp => ?_⟩; have hE := LoopOf_E ⟨a_0, a_1, a_2, a_3, a_4⟩ hp; exact hE
      · cases hr)
abbrev rOut_a0 (is : List Bool) (g : Nat) (ns : List Int) (I : Inst) (p : Int) := ((!outDid is g) = false →
 True ∧
 ((rightF (withoutF { sup := outTo is ns I g, arcs := I.arcs : Inst } [] is) != (0 : Int)) = true →
 (((True ∧
 True ∧
 (0 : Int) = (outF p I is ns).fst.pass ∧
 True ∧ True ∧ (0 : Int) = (outF p I is ns).fst.off.hi ∧ (0 : Int) = (outF p I is ns).fst.off.lo ∧ false = (outF p I is ns).fst.did ∧ True) ∧
 (40 : Int) = (outF p I is ns).snd ∧ True) ∧
 True) ∧
 [] = (outF p I is ns).fst.inst.sup ∧
 [] = (outF p I is ns).fst.inst.arcs ∧ [] = (outF p I is ns).fst.was.sup ∧ [] = (outF p I is ns).fst.was.arcs ∧ True) ∧
 ((rightF (withoutF { sup := outTo is ns I g, arcs := I.arcs : Inst } [] is) != (0 : Int)) = false →
 (((True ∧
 True ∧
 p = (outF p I is ns).fst.pass ∧
 True ∧
 True ∧
 (W (outOff is ns I g)).hi = (outF p I is ns).fst.off.hi ∧
 (W (outOff is ns I g)).lo = (outF p I is ns).fst.off.lo ∧ true = (outF p I is ns).fst.did ∧ True) ∧
 (0 : Int) = (outF p I is ns).snd ∧ True) ∧
 True) ∧
 (withoutF { sup := outTo is ns I g, arcs := I.arcs : Inst } [] is).sup = (outF p I is ns).fst.inst.sup ∧
 (withoutF { sup := outTo is ns I g, arcs := I.arcs : Inst } [] is).arcs = (outF p I is ns).fst.inst.arcs ∧
 I.sup = (outF p I is ns).fst.was.sup ∧ I.arcs = (outF p I is ns).fst.was.arcs ∧ True))
abbrev rOut_a1 (is : List Bool) (ns : List Int) (I : Inst) (g : Nat) (x : Int) (g' : Nat) := ((wplus (W (outOff is ns I g)) (W (x * (I.arcs.getD (↑g : Int).toNat default).cost))).hi = (W (outOff is ns I g')).hi ∧
 (wplus (W (outOff is ns I g)) (W (x * (I.arcs.getD (↑g : Int).toNat default).cost))).lo = (W (outOff is ns I g')).lo ∧ True)
abbrev rOut_a2 (p : Int) (is : List Bool) (g' : Nat) (g : Nat) := (p = p ∧
 True ∧
 True ∧
 (0 : Nat) = (0 : Nat) ∧
 (0 : Nat) = (0 : Nat) ∧
 (0 : Nat) = (0 : Nat) ∧
 (0 : Nat) = (0 : Nat) ∧ true = outDid is g' ∧ IntKind.i64.wrap ((↑g : Int) + (1 : Int)) = (↑g' : Int) ∧ True)
abbrev rOut_a3 (is : List Bool) (g : Nat) (p : Int) (I : Inst) (ns : List Int) := ((!outDid is g) = true →
 (((True ∧
 True ∧
 (0 : Int) = (outF p I is ns).fst.pass ∧
 True ∧ True ∧ (0 : Int) = (outF p I is ns).fst.off.hi ∧ (0 : Int) = (outF p I is ns).fst.off.lo ∧ false = (outF p I is ns).fst.did ∧ True) ∧
 (0 : Int) = (outF p I is ns).snd ∧ True) ∧
 True) ∧
 I.sup = (outF p I is ns).fst.inst.sup ∧
 I.arcs = (outF p I is ns).fst.inst.arcs ∧ [] = (outF p I is ns).fst.was.sup ∧ [] = (outF p I is ns).fst.was.arcs ∧ True)
abbrev rOut_a4 := (True ∧ True ∧ (0 : Int) = (0 : Int) ∧ True ∧ True ∧ (0 : Int) = (0 : Int) ∧ (0 : Int) = (0 : Int) ∧ True ∧ True)
abbrev rOut_a5 (is : List Bool) (ns : List Int) (I : Inst) (g : Nat) (x : Int) (p : Int) := (FixOk { sup := outTo is ns I g, arcs := I.arcs : Inst } (↑g : Int) x (W (outOff is ns I g)) ∧
 ∃ (g' : Nat),
 g' ≤ I.arcs.length ∧
 I.arcs.length - g' < I.arcs.length - g ∧
 (rOut_a2 p is g' g) ∧
 (rOut_a1 is ns I g x g') ∧
 (True ∧ True ∧ True) ∧
 (rOut_a4) ∧
 nilEq Int ∧
 nilEq Arc ∧
 nilEq Int ∧
 nilEq Arc ∧
 (True ∧ True ∧ True) ∧
 I.sup = I.sup ∧
 I.arcs = I.arcs ∧
 is = is ∧
 ns = ns ∧
 fixSup (outTo is ns I g) (I.arcs.getD (↑g : Int).toNat default) x = outTo is ns I g' ∧
 I.arcs = I.arcs ∧ True)
def rOut_E0 (p : Int) (I : Inst) (is : List Bool) (ns : List Int) (ty0 ty1 ty2 ty3 : TypeId) : Prop :=
      ∃ (g0 : Nat),
 (g0 ≤ I.arcs.length ∧
 (p = p ∧
 True ∧ True ∧ (0 : Nat) = (0 : Nat) ∧ (0 : Nat) = (0 : Nat) ∧ (0 : Nat) = (0 : Nat) ∧ (0 : Nat) = (0 : Nat) ∧ false = outDid is g0 ∧ (0 : Int) = (↑g0 : Int) ∧ True) ∧
 ((0 : Int) = (W (outOff is ns I g0)).hi ∧ (0 : Int) = (W (outOff is ns I g0)).lo ∧ True) ∧
 (True ∧ True ∧ True) ∧
 (rOut_a4) ∧
 nilEq Int ∧
 nilEq Arc ∧
 nilEq Int ∧ nilEq Arc ∧ (True ∧ True ∧ True) ∧ I.sup = I.sup ∧ I.arcs = I.arcs ∧ is = is ∧ ns = ns ∧ I.sup = outTo is ns I g0 ∧ I.arcs = I.arcs ∧ True) ∧
 ∀ (g : Nat),
 g ≤ I.arcs.length →
 (decide ((↑g : Int) < (↑I.arcs.length : Int)) = true →
 ((0 : Int) ≤ (↑g : Int) ∧ (↑g : Int) < (↑is.length : Int)) ∧
 (↑g : Int).toNat < is.length ∧
 ∀ (x : Bool),
 is[(↑g : Int).toNat]? = some x →
 (x = true →
 ((0 : Int) ≤ (↑g : Int) ∧ (↑g : Int) < (↑ns.length : Int)) ∧
 (↑g : Int).toNat < ns.length ∧
 ∀ (x : Int),
 ns[(↑g : Int).toNat]? = some x →
 (FixOk { sup := outTo is ns I g, arcs := I.arcs : Inst } (↑g : Int) x (W (outOff is ns I g)) ∧
 (∃ (g' : Nat),
 g' ≤ I.arcs.length ∧
 I.arcs.length - g' < I.arcs.length - g ∧
 (rOut_a2 p is g' g) ∧
 (rOut_a1 is ns I g x g') ∧
 (True ∧ True ∧ True) ∧
 (rOut_a4) ∧
 nilEq Int ∧
 nilEq Arc ∧
 nilEq Int ∧
 nilEq Arc ∧
 (True ∧ True ∧ True) ∧
 I.sup = I.sup ∧
 I.arcs = I.arcs ∧
 is = is ∧
 ns = ns ∧
 fixSup (outTo is ns I g) (I.arcs.getD (↑g : Int).toNat default) x = outTo is ns I g' ∧
 I.arcs = I.arcs ∧ True) ∧
 ∃ (g' : Nat),
 g' ≤ I.arcs.length ∧
 I.arcs.length - g' < I.arcs.length - g ∧
 (rOut_a2 p is g' g) ∧
 (rOut_a1 is ns I g x g') ∧
 (True ∧ True ∧ True) ∧
 (rOut_a4) ∧
 nilEq Int ∧
 nilEq Arc ∧
 nilEq Int ∧
 nilEq Arc ∧
 (True ∧ True ∧ True) ∧
 I.sup = I.sup ∧
 I.arcs = I.arcs ∧
 is = is ∧
 ns = ns ∧
 fixSup (outTo is ns I g) (I.arcs.getD (↑g : Int).toNat default) x = outTo is ns I g' ∧
 I.arcs = I.arcs ∧ True) ∧
 ((rOut_a5 is ns I g x p) ∧
 FixOk { sup := outTo is ns I g, arcs := I.arcs : Inst } (↑g : Int) x (W (outOff is ns I g)) ∧
 ∃ (g' : Nat),
 g' ≤ I.arcs.length ∧
 I.arcs.length - g' < I.arcs.length - g ∧
 (rOut_a2 p is g' g) ∧
 (rOut_a1 is ns I g x g') ∧
 (True ∧ True ∧ True) ∧
 (rOut_a4) ∧
 nilEq Int ∧
 nilEq Arc ∧
 nilEq Int ∧
 nilEq Arc ∧
 (True ∧ True ∧ True) ∧
 I.sup = I.sup ∧
 I.arcs = I.arcs ∧
 is = is ∧
 ns = ns ∧
 fixSup (outTo is ns I g) (I.arcs.getD (↑g : Int).toNat default) x = outTo is ns I g' ∧
 I.arcs = I.arcs ∧ True) ∧
 (rOut_a5 is ns I g x p) ∧
 FixOk { sup := outTo is ns I g, arcs := I.arcs : Inst } (↑g : Int) x (W (outOff is ns I g)) ∧
 ∃ (g' : Nat),
 g' ≤ I.arcs.length ∧
 I.arcs.length - g' < I.arcs.length - g ∧
 (rOut_a2 p is g' g) ∧
 (rOut_a1 is ns I g x g') ∧
 (True ∧ True ∧ True) ∧
 (rOut_a4) ∧
 nilEq Int ∧
 nilEq Arc ∧
 nilEq Int ∧
 nilEq Arc ∧
 (True ∧ True ∧ True) ∧
 I.sup = I.sup ∧
 I.arcs = I.arcs ∧
 is = is ∧
 ns = ns ∧
 fixSup (outTo is ns I g) (I.arcs.getD (↑g : Int).toNat default) x = outTo is ns I g' ∧
 I.arcs = I.arcs ∧ True) ∧
 (x = false →
 ∃ (g' : Nat),
 g' ≤ I.arcs.length ∧
 I.arcs.length - g' < I.arcs.length - g ∧
 (p = p ∧
 True ∧
 True ∧
 (0 : Nat) = (0 : Nat) ∧
 (0 : Nat) = (0 : Nat) ∧
 (0 : Nat) = (0 : Nat) ∧
 (0 : Nat) = (0 : Nat) ∧ outDid is g = outDid is g' ∧ IntKind.i64.wrap ((↑g : Int) + (1 : Int)) = (↑g' : Int) ∧ True) ∧
 ((W (outOff is ns I g)).hi = (W (outOff is ns I g')).hi ∧ (W (outOff is ns I g)).lo = (W (outOff is ns I g')).lo ∧ True) ∧
 (True ∧ True ∧ True) ∧
 (rOut_a4) ∧
 nilEq Int ∧
 nilEq Arc ∧
 nilEq Int ∧
 nilEq Arc ∧
 (True ∧ True ∧ True) ∧
 I.sup = I.sup ∧ I.arcs = I.arcs ∧ is = is ∧ ns = ns ∧ outTo is ns I g = outTo is ns I g' ∧ I.arcs = I.arcs ∧ True)) ∧
 (decide ((↑g : Int) < (↑I.arcs.length : Int)) = false →
 (((outTo is ns I g).length ≤ (1000000 : Nat) ∧ I.arcs.length ≤ (1000000 : Nat)) ∧
 ((rOut_a3 is g p I ns) ∧
 (rOut_a0 is g ns I p)) ∧
 (rOut_a3 is g p I ns) ∧
 (rOut_a0 is g ns I p)) ∧
 ((outTo is ns I g).length ≤ (1000000 : Nat) ∧ I.arcs.length ≤ (1000000 : Nat)) ∧
 (rOut_a3 is g p I ns) ∧
 (rOut_a0 is g ns I p))
theorem rOut_q (p : Int) (I : Inst) (is : List Bool) (ns : List Int) (ty0 ty1 ty2 ty3 : TypeId) : rOut_E0 p I is ns ty0 ty1 ty2 ty3 = FVcP TT rOut_g (rOut_I p I is ns) (rOut_an p I is ns) Try.f114 [.int .i64 p, .agg [.row 0, .row 1], .row 2, .row 3] [(0, .row false ty0 (.ints .i64 I.sup)), (1, .row false ty1 (.arcs I.arcs)), (2, .row false ty2 (.bools is)), (3, .row false ty3 (.ints .i64 ns))] (rOut_r p I is ns) := by kernel_rfl
theorem rOut_E (p : Int) (I : Inst) (is : List Bool) (ns : List Int) (ty0 ty1 ty2 ty3 : TypeId) (hp : OutOk I is ns) : FVc TT rOut_g (rOut_I p I is ns) (rOut_an p I is ns) Try.f114 [.int .i64 p, .agg [.row 0, .row 1], .row 2, .row 3] [(0, .row false ty0 (.ints .i64 I.sup)), (1, .row false ty1 (.arcs I.arcs)), (2, .row false ty2 (.bools is)), (3, .row false ty3 (.ints .i64 ns))] (rOut_r p I is ns) := by
  refine FVc.of (rOut_E0 p I is ns ty0 ty1 ty2 ty3) (rOut_q p I is ns ty0 ty1 ty2 ty3) ?_
  unfold rOut_E0
  delta rOut_a5 rOut_a4 rOut_a3 rOut_a2 rOut_a1 rOut_a0
  simp only [eq_self, exists_const, forall_const, decide_eq_true_eq, decide_eq_false_iff_not, and_true, true_and, bne_iff_ne, ne_eq, bne_eq_false_iff_eq, Int.toNat_natCast, Bool.not_eq_true', Bool.not_eq_false', beq_iff_eq, beq_eq_false_iff_ne, nilEq_true]
  obtain ⟨o1, o2, o3, o4⟩ := hp
  have hlen := right_small o1
  have hwi := (right_within o1).1
  refine ⟨0, ⟨by omega, ⟨rfl, rfl⟩, ⟨rfl, rfl⟩, rfl⟩, fun g hg => ⟨fun h1 => ⟨⟨by omega, by omega⟩, by omega, fun b hb => ?_⟩, fun h1 => ?_⟩⟩
  · have hgl : g < I.arcs.length := by omega
    obtain ⟨x, hx⟩ : ∃ x, I.arcs[g]? = some x := ⟨_, List.getElem?_eq_getElem hgl⟩
    obtain ⟨ho, hb1, hb2⟩ := rightF_arc o1 (List.mem_of_getElem? hx)
    have hLd : I.arcs.getD g default = x := by rw [List.getD_eq_getElem?_getD, hx]; rfl
    have hi : is.getD g false = b := by rw [List.getD_eq_getElem?_getD, hb]; rfl
    have hsl := outTo_len is ns I g
    have hsw := outTo_within (is := is) o4 hwi g
    have hdd := outDid_succ hb
    have hw : IntKind.i64.wrap ((g : Int) + 1) = ((g + 1 : Nat) : Int) := by rw [w64 (by omega) (by omega)]; omega
    refine ⟨fun h2 => ⟨⟨by omega, by omega⟩, by omega, fun n hn => ?_⟩, fun h2 => ?_⟩
    · have hn2 : ns.getD g 0 = n := by rw [List.getD_eq_getElem?_getD, hn]; rfl
      have hnb := o4 n (List.mem_of_getElem? hn)
      have hfix : FixOk ⟨outTo is ns I g, I.arcs⟩ g n (W (outOff is ns I g)) := by
        refine ⟨by omega, by dsimp only; omega, ?_, hsw.more (by omega), hnb.1, hnb.2, ?_, W_ok _, by dsimp only; omega, by dsimp only; omega⟩
        · dsimp only; rw [Int.toNat_natCast, hLd, hsl]; exact ho
        · dsimp only; rw [Int.toNat_natCast, hLd]; unfold I64; omega
      have hof : outOff is ns I (g + 1) = outOff is ns I g + n * (I.arcs.getD g default).cost := by rw [outOff, hi, if_pos h2, hn2]
      have hto : outTo is ns I (g + 1) = fixSup (outTo is ns I g) (I.arcs.getD g default) n := by rw [outTo, hi, if_pos h2, hn2]
      have hex : ∃ g', g' ≤ I.arcs.length ∧ I.arcs.length - g' < I.arcs.length - g ∧ (true = outDid is g' ∧ IntKind.i64.wrap ((g : Int) + 1) = (g' : Int)) ∧ ((wplus (W (outOff is ns I g)) (W (n * (I.arcs.getD g default).cost))).hi = (W (outOff is ns I g')).hi ∧ (wplus (W (outOff is ns I g)) (W (n * (I.arcs.getD g default).cost))).lo = (W (outOff is ns I g')).lo) ∧ fixSup (outTo is ns I g) (I.arcs.getD g default) n = outTo is ns I g' :=
        ⟨g + 1, by omega, by omega, ⟨by rw [hdd, h2]; simp, hw⟩, by rw [hof, wplus_W]; exact ⟨rfl, rfl⟩, hto.symm⟩
      repeat' first | exact hfix | exact hex | refine And.intro ?_ ?_
    · exact ⟨g + 1, by omega, by omega, ⟨by rw [hdd, h2]; simp, hw⟩, by rw [outOff, hi, h2]; exact ⟨rfl, rfl⟩, by rw [outTo, hi, h2]; rfl⟩
  · have eg : g = I.arcs.length := by omega
    subst eg
    have hsl := outTo_len is ns I I.arcs.length
    have hA : outDid is I.arcs.length = false → outF p I is ns = (⟨I, 0, ⟨[], []⟩, ⟨0, 0⟩, false⟩, 0) := fun hd => doneF_stay hd
    have hB : outDid is I.arcs.length = true → ¬ rightF (withoutF ⟨outTo is ns I I.arcs.length, I.arcs⟩ [] is) = 0 → outF p I is ns = (StepD.none, 40) := fun hd h => doneF_over hd h
    have hC : outDid is I.arcs.length = true → rightF (withoutF ⟨outTo is ns I I.arcs.length, I.arcs⟩ [] is) = 0 → outF p I is ns = (⟨withoutF ⟨outTo is ns I I.arcs.length, I.arcs⟩ [] is, p, I, W (outOff is ns I I.arcs.length), true⟩, 0) := fun hd h => doneF_done hd h
    repeat' first | refine And.intro ?_ ?_ | intro h
    all_goals first
      | omega
      | (rw [hA (by assumption)] <;> rfl)
      | (rw [hB (by assumption) (by assumption)] <;> rfl)
      | (rw [hC (by assumption) (by assumption)] <;> rfl)
theorem rOut_ok : SpecOk Try.prog rOut_n true (specOf true rOut_fs) :=
  spec_ok' TT_ok (show GsOk Try.prog rOut_g from gsOk_cons Fixed15_ok (gsOk_cons rWithout_ok (gsOk_cons Done15_ok (gsOk_nil)))) (by kernel_rfl) mixedOrders Try.func114 rfl rfl (by kernel_rfl) (n := 4) (by decide +kernel) (I := rOut_IA) (fun _ _ => isOk_nil) (A := rOut_A)
    (fun args h r hr => by
      unfold rOut_fs at hr
      split at hr
      · rename_i p ty0 I_s ty1 I_a ty2 is ty3 ns; cases hr; refine ⟨rfl, fun hp => ?_⟩; have hE := rOut_E p ⟨I_s, I_a⟩ is ns ty0 ty1 ty2 ty3 hp; exact hE
      · cases hr)
abbrev rLoop_a0 (I : Inst) := (outF (2 : Int) I (marksOf takeLoop I.arcs) (List.map (fun (a : Arc) => (takeLoop a).getD (0 : Int)) I.arcs))
abbrev rLoop_a1 := (fun (a : Arc) => (takeLoop a).getD (0 : Int))
abbrev rLoop_a2 := (True ∧ True ∧ (0 : Int) = (0 : Int) ∧ True ∧ True ∧ (0 : Int) = (0 : Int) ∧ (0 : Int) = (0 : Int) ∧ True ∧ True)
abbrev rLoop_a3 (I : Inst) := ((↑I.arcs.length : Int) = (↑I.arcs.length : Int) ∧ (0 : Int) ≤ (↑I.arcs.length : Int) ∧ (↑I.arcs.length : Int) ≤ (1000000000 : Int))
def rLoop_E0 (I : Inst) (ty0 ty1 : TypeId) : Prop :=
      True ∧
 ((rightF I != (0 : Int)) = true →
 (((True ∧ True ∧ (0 : Int) = (loopS I).fst.pass ∧ True ∧ True ∧ (0 : Int) = (loopS I).fst.off.hi ∧ (0 : Int) = (loopS I).fst.off.lo ∧ false = (loopS I).fst.did ∧ True) ∧
 rightF I = (loopS I).snd ∧ True) ∧
 True) ∧
 [] = (loopS I).fst.inst.sup ∧ [] = (loopS I).fst.inst.arcs ∧ [] = (loopS I).fst.was.sup ∧ [] = (loopS I).fst.was.arcs ∧ True) ∧
 ((rightF I != (0 : Int)) = false →
 (rLoop_a3 I) ∧
 (rLoop_a3 I) ∧
 (∃ (g0 : Nat),
 (g0 ≤ I.arcs.length ∧
 ((0 : Nat) = (0 : Nat) ∧ (0 : Nat) = (0 : Nat) ∧ True ∧ True ∧ (0 : Int) = (↑g0 : Int) ∧ True) ∧
 List.replicate (↑I.arcs.length : Int).toNat (0 : Int) = amtTo (rLoop_a1) I g0 ∧
 List.replicate (↑I.arcs.length : Int).toNat false = markTo takeLoop I g0 ∧
 (rLoop_a2) ∧
 nilEq Int ∧ nilEq Arc ∧ nilEq Int ∧ nilEq Arc ∧ (True ∧ True ∧ True) ∧ I.sup = I.sup ∧ I.arcs = I.arcs ∧ True) ∧
 ∀ (g : Nat),
 g ≤ I.arcs.length →
 (decide ((↑g : Int) < (↑(markTo takeLoop I g).length : Int)) = true →
 ((0 : Int) ≤ (↑g : Int) ∧ (↑g : Int) < (↑I.arcs.length : Int)) ∧
 (↑g : Int).toNat < I.arcs.length ∧
 ∀ (x : Arc),
 I.arcs[(↑g : Int).toNat]? = some x →
 True ∧
 ((0 : Int) ≤ (↑g : Int) ∧ (↑g : Int) < (↑(markTo takeLoop I g).length : Int)) ∧
 (↑g : Int).toNat < (markTo takeLoop I g).length ∧
 ((0 : Int) ≤ (↑g : Int) ∧ (↑g : Int) < (↑(amtTo (rLoop_a1) I g).length : Int)) ∧
 (↑g : Int).toNat < (amtTo (rLoop_a1) I g).length ∧
 ∃ (g' : Nat),
 g' ≤ I.arcs.length ∧
 I.arcs.length - g' < I.arcs.length - g ∧
 ((0 : Nat) = (0 : Nat) ∧ (0 : Nat) = (0 : Nat) ∧ True ∧ True ∧ IntKind.i64.wrap ((↑g : Int) + (1 : Int)) = (↑g' : Int) ∧ True) ∧
 (amtTo (rLoop_a1) I g).set (↑g : Int).toNat ((takeLoop x).getD (0 : Int)) =
 amtTo (rLoop_a1) I g' ∧
 (markTo takeLoop I g).set (↑g : Int).toNat (takeLoop x).isSome = markTo takeLoop I g' ∧
 (rLoop_a2) ∧
 nilEq Int ∧ nilEq Arc ∧ nilEq Int ∧ nilEq Arc ∧ (True ∧ True ∧ True) ∧ I.sup = I.sup ∧ I.arcs = I.arcs ∧ True) ∧
 (decide ((↑g : Int) < (↑(markTo takeLoop I g).length : Int)) = false →
 ∃ (g_1 : Unit),
 True ∧
 ((0 : Nat) = (0 : Nat) ∧ (0 : Nat) = (0 : Nat) ∧ True ∧ True ∧ True) ∧
 amtTo (rLoop_a1) I g = List.map (rLoop_a1) I.arcs ∧
 markTo takeLoop I g = marksOf takeLoop I.arcs ∧
 (rLoop_a2) ∧
 nilEq Int ∧ nilEq Arc ∧ nilEq Int ∧ nilEq Arc ∧ (True ∧ True ∧ True) ∧ I.sup = I.sup ∧ I.arcs = I.arcs ∧ True)) ∧
 ∀ (g : Unit),
 True →
 OutOk I (marksOf takeLoop I.arcs) (List.map (rLoop_a1) I.arcs) ∧
 (((True ∧
 True ∧
 (rLoop_a0 I).fst.pass = (loopS I).fst.pass ∧
 True ∧
 True ∧
 (rLoop_a0 I).fst.off.hi = (loopS I).fst.off.hi ∧
 (rLoop_a0 I).fst.off.lo =
 (loopS I).fst.off.lo ∧
 (rLoop_a0 I).fst.did = (loopS I).fst.did ∧
 True) ∧
 (rLoop_a0 I).snd = (loopS I).snd ∧ True) ∧
 True) ∧
 (rLoop_a0 I).fst.inst.sup = (loopS I).fst.inst.sup ∧
 (rLoop_a0 I).fst.inst.arcs = (loopS I).fst.inst.arcs ∧
 (rLoop_a0 I).fst.was.sup = (loopS I).fst.was.sup ∧
 (rLoop_a0 I).fst.was.arcs = (loopS I).fst.was.arcs ∧
 True)
theorem rLoop_q (I : Inst) (ty0 ty1 : TypeId) : rLoop_E0 I ty0 ty1 = FVcP TT rLoop_g (rLoop_I I) (rLoop_an I) Try.f88 [.agg [.row 0, .row 1]] [(0, .row false ty0 (.ints .i64 I.sup)), (1, .row false ty1 (.arcs I.arcs))] (rLoop_r I) := by kernel_rfl
theorem rLoop_E (I : Inst) (ty0 ty1 : TypeId) (hp : I.sup.length ≤ 1000000 ∧ I.arcs.length ≤ 1000000) : FVc TT rLoop_g (rLoop_I I) (rLoop_an I) Try.f88 [.agg [.row 0, .row 1]] [(0, .row false ty0 (.ints .i64 I.sup)), (1, .row false ty1 (.arcs I.arcs))] (rLoop_r I) := by
  refine FVc.of (rLoop_E0 I ty0 ty1) (rLoop_q I ty0 ty1) ?_
  unfold rLoop_E0
  delta rLoop_a3 rLoop_a2 rLoop_a1 rLoop_a0
  simp only [eq_self, exists_const, forall_const, decide_eq_true_eq, decide_eq_false_iff_not, and_true, true_and, bne_iff_ne, ne_eq, bne_eq_false_iff_eq, Int.toNat_natCast, Bool.not_eq_true', Bool.not_eq_false', beq_iff_eq, beq_eq_false_iff_ne, nilEq_true]
  refine ⟨fun hr => by rw [(pass_bad hr).2.1]; exact ⟨⟨⟨rfl, rfl, rfl, rfl⟩, rfl⟩, rfl, rfl, rfl, rfl⟩, fun hr => ?_⟩
  have hlen := right_small hr
  refine ⟨⟨by omega, by omega⟩, ⟨by omega, by omega⟩, ⟨0, ⟨by omega, rfl, (amtTo_zero _ _).symm, (markTo_zero _ _).symm⟩, fun g hg => ⟨fun h1 => ?_, fun h1 => ?_⟩⟩, ?_⟩
  · rw [markTo_len hg] at h1
    have hgl : g < I.arcs.length := by omega
    obtain ⟨x, hx⟩ : ∃ x, I.arcs[g]? = some x := ⟨_, List.getElem?_eq_getElem hgl⟩
    have hw : IntKind.i64.wrap ((g : Int) + 1) = ((g + 1 : Nat) : Int) := by rw [w64 (by omega) (by omega)]; omega
    have e1 := markTo_succ (f := takeLoop) hx
    have e2 := amtTo_succ (f := fun a => (takeLoop a).getD 0) hx
    simp only [hx, hw, Option.some.injEq, forall_eq', markTo_len hg, amtTo_len hg]
    exact ⟨⟨by omega, by omega⟩, hgl, ⟨by omega, by omega⟩, hgl, ⟨by omega, by omega⟩, hgl, g + 1, by omega, by omega, rfl, e2, e1.symm⟩
  · rw [markTo_len hg] at h1
    exact ⟨amtTo_end _ _ (by omega), markTo_end _ _ (by omega)⟩
  · have e := loopS_out hr
    rw [e]
    exact ⟨⟨hr, by simp [marksOf], by simp, loop_nums hr⟩, ⟨⟨rfl, rfl, rfl, rfl⟩, rfl⟩, rfl, rfl, rfl, rfl⟩
theorem rLoop_ok : SpecOk Try.prog rLoop_n true (specOf true rLoop_fs) :=
  spec_ok' TT_ok (show GsOk Try.prog rLoop_g from gsOk_cons rRight_ok (gsOk_cons LoopOf_ok (gsOk_cons rOut_ok (gsOk_nil)))) (by kernel_rfl) mixedOrders Try.func88 rfl rfl (by kernel_rfl) (n := 1) (by decide +kernel) (I := rLoop_IA) (fun _ _ => isOk_nil) (A := rLoop_A)
    (fun args h r hr => by
      unfold rLoop_fs at hr
      split at hr
      · rename_i ty0 I_s ty1 I_a; cases hr; refine ⟨rfl, fun hp => ?_⟩; have hE := rLoop_E ⟨I_s, I_a⟩ ty0 ty1 hp; exact hE
      · cases hr)
abbrev rFix_a0 (I : Inst) := (outF (3 : Int) I (marksOf takeFix I.arcs) (List.map (fun (a : Arc) => a.low) I.arcs))
abbrev rFix_a1 (I : Inst) := ((↑I.arcs.length : Int) = (↑I.arcs.length : Int) ∧ (0 : Int) ≤ (↑I.arcs.length : Int) ∧ (↑I.arcs.length : Int) ≤ (1000000000 : Int))
abbrev rFix_a2 := (True ∧ True ∧ (0 : Int) = (0 : Int) ∧ True ∧ True ∧ (0 : Int) = (0 : Int) ∧ (0 : Int) = (0 : Int) ∧ True ∧ True)
def rFix_E0 (I : Inst) (ty0 ty1 : TypeId) : Prop :=
      True ∧
 ((rightF I != (0 : Int)) = true →
 (((True ∧ True ∧ (0 : Int) = (fixS I).fst.pass ∧ True ∧ True ∧ (0 : Int) = (fixS I).fst.off.hi ∧ (0 : Int) = (fixS I).fst.off.lo ∧ false = (fixS I).fst.did ∧ True) ∧
 rightF I = (fixS I).snd ∧ True) ∧
 True) ∧
 [] = (fixS I).fst.inst.sup ∧ [] = (fixS I).fst.inst.arcs ∧ [] = (fixS I).fst.was.sup ∧ [] = (fixS I).fst.was.arcs ∧ True) ∧
 ((rightF I != (0 : Int)) = false →
 (rFix_a1 I) ∧
 (rFix_a1 I) ∧
 (∃ (g0 : Nat),
 (g0 ≤ I.arcs.length ∧
 ((0 : Nat) = (0 : Nat) ∧ (0 : Nat) = (0 : Nat) ∧ True ∧ True ∧ (0 : Int) = (↑g0 : Int) ∧ True) ∧
 List.replicate (↑I.arcs.length : Int).toNat (0 : Int) = amtTo (fun (a : Arc) => a.low) I g0 ∧
 List.replicate (↑I.arcs.length : Int).toNat false = markTo takeFix I g0 ∧
 (rFix_a2) ∧
 nilEq Int ∧ nilEq Arc ∧ nilEq Int ∧ nilEq Arc ∧ (True ∧ True ∧ True) ∧ I.sup = I.sup ∧ I.arcs = I.arcs ∧ True) ∧
 ∀ (g : Nat),
 g ≤ I.arcs.length →
 (decide ((↑g : Int) < (↑(markTo takeFix I g).length : Int)) = true →
 ((0 : Int) ≤ (↑g : Int) ∧ (↑g : Int) < (↑I.arcs.length : Int)) ∧
 (↑g : Int).toNat < I.arcs.length ∧
 ∀ (x : Arc),
 I.arcs[(↑g : Int).toNat]? = some x →
 ((0 : Int) ≤ (↑g : Int) ∧ (↑g : Int) < (↑I.arcs.length : Int)) ∧
 (↑g : Int).toNat < I.arcs.length ∧
 ∀ (x_1 : Arc),
 I.arcs[(↑g : Int).toNat]? = some x_1 →
 ((0 : Int) ≤ (↑g : Int) ∧ (↑g : Int) < (↑(markTo takeFix I g).length : Int)) ∧
 (↑g : Int).toNat < (markTo takeFix I g).length ∧
 ((0 : Int) ≤ (↑g : Int) ∧ (↑g : Int) < (↑I.arcs.length : Int)) ∧
 (↑g : Int).toNat < I.arcs.length ∧
 ∀ (x_2 : Arc),
 I.arcs[(↑g : Int).toNat]? = some x_2 →
 ((0 : Int) ≤ (↑g : Int) ∧ (↑g : Int) < (↑(amtTo (fun (a : Arc) => a.low) I g).length : Int)) ∧
 (↑g : Int).toNat < (amtTo (fun (a : Arc) => a.low) I g).length ∧
 ∃ (g' : Nat),
 g' ≤ I.arcs.length ∧
 I.arcs.length - g' < I.arcs.length - g ∧
 ((0 : Nat) = (0 : Nat) ∧
 (0 : Nat) = (0 : Nat) ∧ True ∧ True ∧ IntKind.i64.wrap ((↑g : Int) + (1 : Int)) = (↑g' : Int) ∧ True) ∧
 (amtTo (fun (a : Arc) => a.low) I g).set (↑g : Int).toNat x_2.low = amtTo (fun (a : Arc) => a.low) I g' ∧
 (markTo takeFix I g).set (↑g : Int).toNat (x.low == x_1.cap) = markTo takeFix I g' ∧
 (True ∧
 True ∧ (0 : Int) = (0 : Int) ∧ True ∧ True ∧ (0 : Int) = (0 : Int) ∧ (0 : Int) = (0 : Int) ∧ True ∧ True) ∧
 nilEq Int ∧
 nilEq Arc ∧ nilEq Int ∧ nilEq Arc ∧ (True ∧ True ∧ True) ∧ I.sup = I.sup ∧ I.arcs = I.arcs ∧ True) ∧
 (decide ((↑g : Int) < (↑(markTo takeFix I g).length : Int)) = false →
 ∃ (g_1 : Unit),
 True ∧
 ((0 : Nat) = (0 : Nat) ∧ (0 : Nat) = (0 : Nat) ∧ True ∧ True ∧ True) ∧
 amtTo (fun (a : Arc) => a.low) I g = List.map (fun (a : Arc) => a.low) I.arcs ∧
 markTo takeFix I g = marksOf takeFix I.arcs ∧
 (rFix_a2) ∧
 nilEq Int ∧ nilEq Arc ∧ nilEq Int ∧ nilEq Arc ∧ (True ∧ True ∧ True) ∧ I.sup = I.sup ∧ I.arcs = I.arcs ∧ True)) ∧
 ∀ (g : Unit),
 True →
 OutOk I (marksOf takeFix I.arcs) (List.map (fun (a : Arc) => a.low) I.arcs) ∧
 (((True ∧
 True ∧
 (rFix_a0 I).fst.pass = (fixS I).fst.pass ∧
 True ∧
 True ∧
 (rFix_a0 I).fst.off.hi = (fixS I).fst.off.hi ∧
 (rFix_a0 I).fst.off.lo = (fixS I).fst.off.lo ∧
 (rFix_a0 I).fst.did = (fixS I).fst.did ∧ True) ∧
 (rFix_a0 I).snd = (fixS I).snd ∧ True) ∧
 True) ∧
 (rFix_a0 I).fst.inst.sup = (fixS I).fst.inst.sup ∧
 (rFix_a0 I).fst.inst.arcs = (fixS I).fst.inst.arcs ∧
 (rFix_a0 I).fst.was.sup = (fixS I).fst.was.sup ∧
 (rFix_a0 I).fst.was.arcs = (fixS I).fst.was.arcs ∧ True)
theorem rFix_q (I : Inst) (ty0 ty1 : TypeId) : rFix_E0 I ty0 ty1 = FVcP TT rFix_g (rFix_I I) (rFix_an I) Try.f89 [.agg [.row 0, .row 1]] [(0, .row false ty0 (.ints .i64 I.sup)), (1, .row false ty1 (.arcs I.arcs))] (rFix_r I) := by kernel_rfl
theorem rFix_E (I : Inst) (ty0 ty1 : TypeId) (hp : I.sup.length ≤ 1000000 ∧ I.arcs.length ≤ 1000000) : FVc TT rFix_g (rFix_I I) (rFix_an I) Try.f89 [.agg [.row 0, .row 1]] [(0, .row false ty0 (.ints .i64 I.sup)), (1, .row false ty1 (.arcs I.arcs))] (rFix_r I) := by
  refine FVc.of (rFix_E0 I ty0 ty1) (rFix_q I ty0 ty1) ?_
  unfold rFix_E0
  delta rFix_a2 rFix_a1 rFix_a0
  simp only [eq_self, exists_const, forall_const, decide_eq_true_eq, decide_eq_false_iff_not, and_true, true_and, bne_iff_ne, ne_eq, bne_eq_false_iff_eq, Int.toNat_natCast, Bool.not_eq_true', Bool.not_eq_false', beq_iff_eq, beq_eq_false_iff_ne, nilEq_true]
  refine ⟨fun hr => by rw [(pass_bad hr).2.2.1]; exact ⟨⟨⟨rfl, rfl, rfl, rfl⟩, rfl⟩, rfl, rfl, rfl, rfl⟩, fun hr => ?_⟩
  have hlen := right_small hr
  refine ⟨⟨by omega, by omega⟩, ⟨by omega, by omega⟩, ⟨0, ⟨by omega, rfl, (amtTo_zero _ _).symm, (markTo_zero _ _).symm⟩, fun g hg => ⟨fun h1 => ?_, fun h1 => ?_⟩⟩, ?_⟩
  · rw [markTo_len hg] at h1
    have hgl : g < I.arcs.length := by omega
    obtain ⟨x, hx⟩ : ∃ x, I.arcs[g]? = some x := ⟨_, List.getElem?_eq_getElem hgl⟩
    have hw : IntKind.i64.wrap ((g : Int) + 1) = ((g + 1 : Nat) : Int) := by rw [w64 (by omega) (by omega)]; omega
    have e1 := markTo_succ (f := takeFix) hx
    have e2 := amtTo_succ (f := fun a => a.low) hx
    simp only [hx, hw, Option.some.injEq, forall_eq', markTo_len hg, amtTo_len hg]
    exact ⟨⟨by omega, by omega⟩, hgl, ⟨by omega, by omega⟩, hgl, ⟨by omega, by omega⟩, hgl, ⟨by omega, by omega⟩, hgl, ⟨by omega, by omega⟩, hgl, g + 1, by omega, by omega, rfl, e2, by rw [e1]; congr 1; unfold takeFix; by_cases h : x.low = x.cap <;> simp [h]⟩
  · rw [markTo_len hg] at h1
    exact ⟨amtTo_end _ _ (by omega), markTo_end _ _ (by omega)⟩
  · have e := fixS_out hr
    rw [e]
    exact ⟨⟨hr, by simp [marksOf], by simp, fix_nums hr⟩, ⟨⟨rfl, rfl, rfl, rfl⟩, rfl⟩, rfl, rfl, rfl, rfl⟩
theorem rFix_ok : SpecOk Try.prog rFix_n true (specOf true rFix_fs) :=
  spec_ok' TT_ok (show GsOk Try.prog rFix_g from gsOk_cons rRight_ok (gsOk_cons rOut_ok (gsOk_nil))) (by kernel_rfl) mixedOrders Try.func89 rfl rfl (by kernel_rfl) (n := 1) (by decide +kernel) (I := rFix_IA) (fun _ _ => isOk_nil) (A := rFix_A)
    (fun args h r hr => by
      unfold rFix_fs at hr
      split at hr
      · rename_i ty0 I_s ty1 I_a; cases hr; refine ⟨rfl, fun hp => ?_⟩; have hE := rFix_E ⟨I_s, I_a⟩ ty0 ty1 hp; exact hE
      · cases hr)
abbrev rsome_a0 (n : Int) (o : Bool) (i : Bool) (g : Nat) (g' : Nat) := (n = n ∧ o = o ∧ i = i ∧ (0 : Nat) = (0 : Nat) ∧ True ∧ IntKind.i64.wrap ((↑g : Int) + (1 : Int)) = (↑g' : Int) ∧ True)
abbrev rsome_a1 (x : Arc) (n : Int) (I : Inst) (o : Bool) (i : Bool) (g : Nat) := ((x.dst == n) = true →
 (someTo I n o i g).length + (1 : Nat) ≤ (1000000000 : Nat) ∧
 ∃ (g' : Nat),
 g' ≤ I.arcs.length ∧
 I.arcs.length - g' < I.arcs.length - g ∧
 (rsome_a0 n o i g g') ∧
 someTo I n o i g ++ [(↑g : Int)] = someTo I n o i g' ∧ (True ∧ True ∧ True) ∧ I.sup = I.sup ∧ I.arcs = I.arcs ∧ True)
abbrev rsome_a2 (i : Bool) (I : Inst) (g : Nat) (n : Int) (o : Bool) := (i = false →
 ∃ (g' : Nat),
 g' ≤ I.arcs.length ∧
 I.arcs.length - g' < I.arcs.length - g ∧
 (rsome_a0 n o i g g') ∧
 someTo I n o i g = someTo I n o i g' ∧ (True ∧ True ∧ True) ∧ I.sup = I.sup ∧ I.arcs = I.arcs ∧ True)
abbrev rsome_a3 (x : Arc) (n : Int) (I : Inst) (g : Nat) (o : Bool) (i : Bool) := ((x.dst == n) = false →
 ∃ (g' : Nat),
 g' ≤ I.arcs.length ∧
 I.arcs.length - g' < I.arcs.length - g ∧
 (rsome_a0 n o i g g') ∧
 someTo I n o i g = someTo I n o i g' ∧ (True ∧ True ∧ True) ∧ I.sup = I.sup ∧ I.arcs = I.arcs ∧ True)
def rsome_E0 (I : Inst) (n : Int) (o : Bool) (i : Bool) (ty0 ty1 : TypeId) : Prop :=
      ∃ (g0 : Nat),
 (g0 ≤ I.arcs.length ∧
 (n = n ∧ o = o ∧ i = i ∧ (0 : Nat) = (0 : Nat) ∧ True ∧ (0 : Int) = (↑g0 : Int) ∧ True) ∧
 [] = someTo I n o i g0 ∧ (True ∧ True ∧ True) ∧ I.sup = I.sup ∧ I.arcs = I.arcs ∧ True) ∧
 ∀ (g : Nat),
 g ≤ I.arcs.length →
 (decide ((↑g : Int) < (↑I.arcs.length : Int)) = true →
 True ∧
 (gOk (↑I.sup.length : Int) I.arcs (↑g : Int) = true →
 (o = true →
 ((0 : Int) ≤ (↑g : Int) ∧ (↑g : Int) < (↑I.arcs.length : Int)) ∧
 (↑g : Int).toNat < I.arcs.length ∧
 ∀ (x : Arc),
 I.arcs[(↑g : Int).toNat]? = some x →
 ((x.src == n) = true →
 (someTo I n o i g).length + (1 : Nat) ≤ (1000000000 : Nat) ∧
 ∃ (g' : Nat),
 g' ≤ I.arcs.length ∧
 I.arcs.length - g' < I.arcs.length - g ∧
 (rsome_a0 n o i g g') ∧
 someTo I n o i g ++ [(↑g : Int)] = someTo I n o i g' ∧ (True ∧ True ∧ True) ∧ I.sup = I.sup ∧ I.arcs = I.arcs ∧ True) ∧
 ((x.src == n) = false →
 (i = true →
 ((0 : Int) ≤ (↑g : Int) ∧ (↑g : Int) < (↑I.arcs.length : Int)) ∧
 (↑g : Int).toNat < I.arcs.length ∧
 ∀ (x : Arc),
 I.arcs[(↑g : Int).toNat]? = some x →
 (rsome_a1 x n I o i g) ∧
 (rsome_a3 x n I g o i)) ∧
 (rsome_a2 i I g n o))) ∧
 (o = false →
 (i = true →
 ((0 : Int) ≤ (↑g : Int) ∧ (↑g : Int) < (↑I.arcs.length : Int)) ∧
 (↑g : Int).toNat < I.arcs.length ∧
 ∀ (x : Arc),
 I.arcs[(↑g : Int).toNat]? = some x →
 (rsome_a1 x n I o i g) ∧
 (rsome_a3 x n I g o i)) ∧
 (rsome_a2 i I g n o))) ∧
 (gOk (↑I.sup.length : Int) I.arcs (↑g : Int) = false →
 ∃ (g' : Nat),
 g' ≤ I.arcs.length ∧
 I.arcs.length - g' < I.arcs.length - g ∧
 (rsome_a0 n o i g g') ∧
 someTo I n o i g = someTo I n o i g' ∧ (True ∧ True ∧ True) ∧ I.sup = I.sup ∧ I.arcs = I.arcs ∧ True)) ∧
 (decide ((↑g : Int) < (↑I.arcs.length : Int)) = false → (True ∧ True) ∧ someTo I n o i g = someTo I n o i I.arcs.length ∧ True)
theorem rsome_q (I : Inst) (n : Int) (o : Bool) (i : Bool) (ty0 ty1 : TypeId) : rsome_E0 I n o i ty0 ty1 = FVcP TT rsome_g (rsome_I I n o i) (rsome_an I n o i) Try.f149 [.agg [.row 0, .row 1], .int .i64 n, .bool o, .bool i] [(0, .row false ty0 (.ints .i64 I.sup)), (1, .row false ty1 (.arcs I.arcs))] (rsome_r I n o i) := by kernel_rfl
theorem rsome_E (I : Inst) (n : Int) (o : Bool) (i : Bool) (ty0 ty1 : TypeId) (hp : I.sup.length ≤ 1000000 ∧ I.arcs.length ≤ 1000000) : FVc TT rsome_g (rsome_I I n o i) (rsome_an I n o i) Try.f149 [.agg [.row 0, .row 1], .int .i64 n, .bool o, .bool i] [(0, .row false ty0 (.ints .i64 I.sup)), (1, .row false ty1 (.arcs I.arcs))] (rsome_r I n o i) := by
  refine FVc.of (rsome_E0 I n o i ty0 ty1) (rsome_q I n o i ty0 ty1) ?_
  unfold rsome_E0
  delta rsome_a3 rsome_a2 rsome_a1 rsome_a0
  simp only [eq_self, exists_const, forall_const, decide_eq_true_eq, decide_eq_false_iff_not, and_true, true_and, bne_iff_ne, ne_eq, bne_eq_false_iff_eq, Int.toNat_natCast, Bool.not_eq_true', Bool.not_eq_false', beq_iff_eq, beq_eq_false_iff_ne, nilEq_true]
  refine ⟨0, ⟨by omega, rfl, rfl⟩, fun g hg => ⟨fun h1 => ?_, fun h1 => ?_⟩⟩
  · have hgl : g < I.arcs.length := by omega
    obtain ⟨x, hx⟩ : ∃ x, I.arcs[g]? = some x := ⟨_, List.getElem?_eq_getElem hgl⟩
    have ht := touchK_at (n := n) (o := o) (i := i) hx
    have hs := someTo_succ I n o i g
    have hl := someTo_len I n o i g
    have hw : IntKind.i64.wrap ((g : Int) + 1) = ((g + 1 : Nat) : Int) := by rw [w64 (by omega) (by omega)]; omega
    simp only [hx, hw, Option.some.injEq, forall_eq']
    have hg1 : gOk (I.sup.length : Int) I.arcs (g : Int) = okArc I.sup.length x := by
      unfold gOk; rw [Int.toNat_natCast, List.getD_eq_getElem?_getD, hx]; simp; omega
    have k1 : touchK I n o i g = true → someTo I n o i g ++ [(g : Int)] = someTo I n o i (g + 1) := fun h => by rw [hs, if_pos h]
    have k0 : touchK I n o i g = false → someTo I n o i g = someTo I n o i (g + 1) := fun h => by rw [hs, h]; simp
    rw [hg1]
    refine ⟨fun a0 => ⟨fun a1 => ⟨⟨by omega, by omega⟩, hgl, fun a2 => ⟨by omega, g + 1, by omega, by omega, rfl, k1 ?_⟩, fun a2 => ⟨fun a3 => ⟨⟨by omega, by omega⟩, hgl, fun a4 => ⟨by omega, g + 1, by omega, by omega, rfl, k1 ?_⟩, fun a4 => ⟨g + 1, by omega, by omega, rfl, k0 ?_⟩⟩, fun a3 => ⟨g + 1, by omega, by omega, rfl, k0 ?_⟩⟩⟩,
      fun a1 => ⟨fun a3 => ⟨⟨by omega, by omega⟩, hgl, fun a4 => ⟨by omega, g + 1, by omega, by omega, rfl, k1 ?_⟩, fun a4 => ⟨g + 1, by omega, by omega, rfl, k0 ?_⟩⟩, fun a3 => ⟨g + 1, by omega, by omega, rfl, k0 ?_⟩⟩⟩, fun a0 => ⟨g + 1, by omega, by omega, rfl, k0 ?_⟩⟩ <;> rw [ht] <;> simp [*]
  · have e : g = I.arcs.length := by omega
    rw [e]
theorem rsome_ok : SpecOk Try.prog rsome_n true (specOf true rsome_fs) :=
  spec_ok' TT_ok (show GsOk Try.prog rsome_g from gsOk_cons rfit_ok (gsOk_nil)) (by kernel_rfl) mixedOrders Try.func149 rfl rfl (by kernel_rfl) (n := 4) (by decide +kernel) (I := rsome_IA) (fun _ _ => isOk_nil) (A := rsome_A)
    (fun args h r hr => by
      unfold rsome_fs at hr
      split at hr
      · rename_i n o i ty0 I_s ty1 I_a; cases hr; refine ⟨rfl, fun hp => ?_⟩; have hE := rsome_E ⟨I_s, I_a⟩ n o i ty0 ty1 hp; exact hE
      · cases hr)
def rAt_E0 (I : Inst) (n : Int) (ty0 ty1 : TypeId) : Prop :=
      (I.sup.length ≤ (1000000 : Nat) ∧ I.arcs.length ≤ (1000000 : Nat)) ∧ (True ∧ True) ∧ someTo I n true true I.arcs.length = someTo I n true true I.arcs.length ∧ True
theorem rAt_q (I : Inst) (n : Int) (ty0 ty1 : TypeId) : rAt_E0 I n ty0 ty1 = FVcP TT rAt_g (rAt_I I n) (rAt_an I n) Try.f132 [.agg [.row 0, .row 1], .int .i64 n] [(0, .row false ty0 (.ints .i64 I.sup)), (1, .row false ty1 (.arcs I.arcs))] (rAt_r I n) := by kernel_rfl
theorem rAt_E (I : Inst) (n : Int) (ty0 ty1 : TypeId) (hp : I.sup.length ≤ 1000000 ∧ I.arcs.length ≤ 1000000) : FVc TT rAt_g (rAt_I I n) (rAt_an I n) Try.f132 [.agg [.row 0, .row 1], .int .i64 n] [(0, .row false ty0 (.ints .i64 I.sup)), (1, .row false ty1 (.arcs I.arcs))] (rAt_r I n) := by
  refine FVc.of (rAt_E0 I n ty0 ty1) (rAt_q I n ty0 ty1) ?_
  unfold rAt_E0
  exact ⟨hp, ⟨trivial, trivial⟩, rfl, trivial⟩
theorem rAt_ok : SpecOk Try.prog rAt_n true (specOf true rAt_fs) :=
  spec_ok' TT_ok (show GsOk Try.prog rAt_g from gsOk_cons rsome_ok (gsOk_nil)) (by kernel_rfl) mixedOrders Try.func132 rfl rfl (by kernel_rfl) (n := 2) (by decide +kernel) (I := rAt_IA) (fun _ _ => isOk_nil) (A := rAt_A)
    (fun args h r hr => by
      unfold rAt_fs at hr
      split at hr
      · rename_i n ty0 I_s ty1 I_a; cases hr; refine ⟨rfl, fun hp => ?_⟩; have hE := rAt_E ⟨I_s, I_a⟩ n ty0 ty1 hp; exact hE
      · cases hr)
def LoneOf_E0 (I : Inst) (ty0 ty1 : TypeId) : Prop :=
      ∃ (g0 : Nat),
 (g0 ≤ I.sup.length ∧
 ((0 : Nat) = (0 : Nat) ∧ True ∧ (0 : Int) = (↑g0 : Int) ∧ True) ∧ [] = List.map (loneAt I) (List.range g0) ∧ (True ∧ True ∧ True) ∧ I.sup = I.sup ∧ I.arcs = I.arcs ∧ True) ∧
 ∀ (g : Nat),
 g ≤ I.sup.length →
 (decide ((↑g : Int) < (↑I.sup.length : Int)) = true →
 ((0 : Int) ≤ (↑g : Int) ∧ (↑g : Int) < (↑I.sup.length : Int)) ∧
 (↑g : Int).toNat < I.sup.length ∧
 ∀ (x : Int),
 I.sup[(↑g : Int).toNat]? = some x →
 ((x == (0 : Int)) = true →
 (I.sup.length ≤ (1000000 : Nat) ∧ I.arcs.length ≤ (1000000 : Nat)) ∧
 (List.map (loneAt I) (List.range g)).length + (1 : Nat) ≤ (1000000000 : Nat) ∧
 ∃ (g' : Nat),
 g' ≤ I.sup.length ∧
 I.sup.length - g' < I.sup.length - g ∧
 ((0 : Nat) = (0 : Nat) ∧ True ∧ IntKind.i64.wrap ((↑g : Int) + (1 : Int)) = (↑g' : Int) ∧ True) ∧
 List.map (loneAt I) (List.range g) ++ [(↑(someTo I (↑g : Int) true true I.arcs.length).length : Int) == (0 : Int)] =
 List.map (loneAt I) (List.range g') ∧
 (True ∧ True ∧ True) ∧ I.sup = I.sup ∧ I.arcs = I.arcs ∧ True) ∧
 ((x == (0 : Int)) = false →
 (List.map (loneAt I) (List.range g)).length + (1 : Nat) ≤ (1000000000 : Nat) ∧
 ∃ (g' : Nat),
 g' ≤ I.sup.length ∧
 I.sup.length - g' < I.sup.length - g ∧
 ((0 : Nat) = (0 : Nat) ∧ True ∧ IntKind.i64.wrap ((↑g : Int) + (1 : Int)) = (↑g' : Int) ∧ True) ∧
 List.map (loneAt I) (List.range g) ++ [false] = List.map (loneAt I) (List.range g') ∧
 (True ∧ True ∧ True) ∧ I.sup = I.sup ∧ I.arcs = I.arcs ∧ True)) ∧
 (decide ((↑g : Int) < (↑I.sup.length : Int)) = false → (True ∧ True) ∧ List.map (loneAt I) (List.range g) = loneF I ∧ True)
theorem LoneOf_q (I : Inst) (ty0 ty1 : TypeId) : LoneOf_E0 I ty0 ty1 = FVcP TT LoneOf_g (LoneOf_I I) (LoneOf_an I) Try.f115 [.agg [.row 0, .row 1]] [(0, .row false ty0 (.ints .i64 I.sup)), (1, .row false ty1 (.arcs I.arcs))] (LoneOf_r I) := by kernel_rfl
theorem LoneOf_E (I : Inst) (ty0 ty1 : TypeId) (hp : I.sup.length ≤ 1000000 ∧ I.arcs.length ≤ 1000000 ∧ OkArcs I) : FVc TT LoneOf_g (LoneOf_I I) (LoneOf_an I) Try.f115 [.agg [.row 0, .row 1]] [(0, .row false ty0 (.ints .i64 I.sup)), (1, .row false ty1 (.arcs I.arcs))] (LoneOf_r I) := by
  refine FVc.of (LoneOf_E0 I ty0 ty1) (LoneOf_q I ty0 ty1) ?_
  unfold LoneOf_E0
  simp only [eq_self, exists_const, forall_const, decide_eq_true_eq, decide_eq_false_iff_not, and_true, true_and, bne_iff_ne, ne_eq, bne_eq_false_iff_eq, Int.toNat_natCast, Bool.not_eq_true', Bool.not_eq_false', beq_iff_eq, beq_eq_false_iff_ne, nilEq_true]
  refine ⟨0, ⟨by omega, rfl, rfl⟩, fun g hg => ⟨fun h1 => ⟨by omega, by omega, fun x hx => ?_⟩, fun h1 => ?_⟩⟩
  · have hgl : g < I.sup.length := by omega
    have hl := loneAt_some hp.2.2 hx
    have hs := loneTo_snoc I g
    have hw : IntKind.i64.wrap ((g : Int) + 1) = ((g + 1 : Nat) : Int) := by rw [w64 (by omega) (by omega)]; omega
    refine ⟨fun h2 => ⟨⟨hp.1, hp.2.1⟩, by simp; omega, g + 1, by omega, by omega, hw, ?_⟩, fun h2 => ⟨by simp; omega, g + 1, by omega, by omega, hw, ?_⟩⟩
    · rw [← hs, hl]; simp [h2]
      by_cases he : someTo I (↑g) true true I.arcs.length = [] <;> simp [he]
    · rw [← hs, hl]; simp [h2]
  · have e : g = I.sup.length := by omega
    subst e
    rfl
theorem LoneOf_ok : SpecOk Try.prog LoneOf_n true (specOf true LoneOf_fs) :=
  spec_ok' TT_ok (show GsOk Try.prog LoneOf_g from gsOk_cons rAt_ok (gsOk_nil)) (by kernel_rfl) mixedOrders Try.func115 rfl rfl (by kernel_rfl) (n := 1) (by decide +kernel) (I := LoneOf_IA) (fun _ _ => isOk_nil) (A := LoneOf_A)
    (fun args h r hr => by
      unfold LoneOf_fs at hr
      split at hr
      · rename_i ty0 I_s ty1 I_a; cases hr; refine ⟨rfl, fun hp => ?_⟩; have hE := LoneOf_E ⟨I_s, I_a⟩ ty0 ty1 hp; exact hE
      · cases hr)
def rLone_E0 (I : Inst) (ty0 ty1 : TypeId) : Prop :=
      True ∧
 ((rightF I != (0 : Int)) = true →
 (((True ∧ True ∧ (0 : Int) = (loneS I).fst.pass ∧ True ∧ True ∧ (0 : Int) = (loneS I).fst.off.hi ∧ (0 : Int) = (loneS I).fst.off.lo ∧ false = (loneS I).fst.did ∧ True) ∧
 rightF I = (loneS I).snd ∧ True) ∧
 True) ∧
 [] = (loneS I).fst.inst.sup ∧ [] = (loneS I).fst.inst.arcs ∧ [] = (loneS I).fst.was.sup ∧ [] = (loneS I).fst.was.arcs ∧ True) ∧
 ((rightF I != (0 : Int)) = false →
 (I.sup.length ≤ (1000000 : Nat) ∧ I.arcs.length ≤ (1000000 : Nat) ∧ OkArcs I) ∧
 (I.sup.length ≤ (1000000 : Nat) ∧ I.arcs.length ≤ (1000000 : Nat)) ∧
 ((!decide ((↑(withoutF I (loneF I) []).sup.length : Int) < (↑I.sup.length : Int))) = true →
 (((True ∧
 True ∧
 (0 : Int) = (loneS I).fst.pass ∧ True ∧ True ∧ (0 : Int) = (loneS I).fst.off.hi ∧ (0 : Int) = (loneS I).fst.off.lo ∧ false = (loneS I).fst.did ∧ True) ∧
 (0 : Int) = (loneS I).snd ∧ True) ∧
 True) ∧
 I.sup = (loneS I).fst.inst.sup ∧ I.arcs = (loneS I).fst.inst.arcs ∧ [] = (loneS I).fst.was.sup ∧ [] = (loneS I).fst.was.arcs ∧ True) ∧
 ((!decide ((↑(withoutF I (loneF I) []).sup.length : Int) < (↑I.sup.length : Int))) = false →
 True ∧
 ((rightF (withoutF I (loneF I) []) != (0 : Int)) = true →
 (((True ∧
 True ∧
 (0 : Int) = (loneS I).fst.pass ∧
 True ∧ True ∧ (0 : Int) = (loneS I).fst.off.hi ∧ (0 : Int) = (loneS I).fst.off.lo ∧ false = (loneS I).fst.did ∧ True) ∧
 (40 : Int) = (loneS I).snd ∧ True) ∧
 True) ∧
 [] = (loneS I).fst.inst.sup ∧ [] = (loneS I).fst.inst.arcs ∧ [] = (loneS I).fst.was.sup ∧ [] = (loneS I).fst.was.arcs ∧ True) ∧
 ((rightF (withoutF I (loneF I) []) != (0 : Int)) = false →
 (((True ∧
 True ∧
 (4 : Int) = (loneS I).fst.pass ∧
 True ∧ True ∧ (0 : Int) = (loneS I).fst.off.hi ∧ (0 : Int) = (loneS I).fst.off.lo ∧ true = (loneS I).fst.did ∧ True) ∧
 (0 : Int) = (loneS I).snd ∧ True) ∧
 True) ∧
 (withoutF I (loneF I) []).sup = (loneS I).fst.inst.sup ∧
 (withoutF I (loneF I) []).arcs = (loneS I).fst.inst.arcs ∧ I.sup = (loneS I).fst.was.sup ∧ I.arcs = (loneS I).fst.was.arcs ∧ True)))
theorem rLone_q (I : Inst) (ty0 ty1 : TypeId) : rLone_E0 I ty0 ty1 = FVcP TT rLone_g (rLone_I I) (rLone_an I) Try.f90 [.agg [.row 0, .row 1]] [(0, .row false ty0 (.ints .i64 I.sup)), (1, .row false ty1 (.arcs I.arcs))] (rLone_r I) := by kernel_rfl
theorem rLone_E (I : Inst) (ty0 ty1 : TypeId) (hp : I.sup.length ≤ 1000000 ∧ I.arcs.length ≤ 1000000) : FVc TT rLone_g (rLone_I I) (rLone_an I) Try.f90 [.agg [.row 0, .row 1]] [(0, .row false ty0 (.ints .i64 I.sup)), (1, .row false ty1 (.arcs I.arcs))] (rLone_r I) := by
  refine FVc.of (rLone_E0 I ty0 ty1) (rLone_q I ty0 ty1) ?_
  unfold rLone_E0
  simp only [eq_self, exists_const, forall_const, decide_eq_true_eq, decide_eq_false_iff_not, and_true, true_and, bne_iff_ne, ne_eq, bne_eq_false_iff_eq, Int.toNat_natCast, Bool.not_eq_true', Bool.not_eq_false', beq_iff_eq, beq_eq_false_iff_ne, nilEq_true]
  refine ⟨fun hr => by rw [(pass_bad hr).2.2.2]; exact ⟨⟨⟨rfl, rfl, rfl, rfl⟩, rfl⟩, rfl, rfl, rfl, rfl⟩, fun hr => ⟨⟨hp.1, hp.2, fun a ha => (rightF_arc hr ha).1⟩, hp, ?_⟩⟩
  rw [← loneS_done hr]
  refine ⟨fun hd => ?_, fun hd => ⟨fun h2 => ?_, fun h2 => ?_⟩⟩
  · rw [doneF_stay (decide_eq_false (by omega))]; exact ⟨⟨⟨rfl, rfl, rfl, rfl⟩, rfl⟩, rfl, rfl, rfl, rfl⟩
  · rw [doneF_over (decide_eq_true (by omega)) h2]; exact ⟨⟨⟨rfl, rfl, rfl, rfl⟩, rfl⟩, rfl, rfl, rfl, rfl⟩
  · rw [doneF_done (decide_eq_true (by omega)) h2]; exact ⟨⟨⟨rfl, rfl, rfl, rfl⟩, rfl⟩, rfl, rfl, rfl, rfl⟩
theorem rLone_ok : SpecOk Try.prog rLone_n true (specOf true rLone_fs) :=
  spec_ok' TT_ok (show GsOk Try.prog rLone_g from gsOk_cons rRight_ok (gsOk_cons LoneOf_ok (gsOk_cons rWithout_ok (gsOk_cons Done15_ok (gsOk_nil))))) (by kernel_rfl) mixedOrders Try.func90 rfl rfl (by kernel_rfl) (n := 1) (by decide +kernel) (I := rLone_IA) (fun _ _ => isOk_nil) (A := rLone_A)
    (fun args h r hr => by
      unfold rLone_fs at hr
      split at hr
      · rename_i ty0 I_s ty1 I_a; cases hr; refine ⟨rfl, fun hp => ?_⟩; have hE := rLone_E ⟨I_s, I_a⟩ ty0 ty1 hp; exact hE
      · cases hr)
def StepSame_E0 (s : StepD) (t : StepD) (ty0 ty1 ty2 ty3 ty4 ty5 ty6 ty7 : TypeId) : Prop :=
      ((s.did == t.did) = true →
 (decide ([s.off.hi, s.off.lo] = [t.off.hi, t.off.lo]) = true →
 ((s.pass == t.pass) = true →
 (s.inst.sup.length ≤ (1000000000 : Nat) ∧ s.inst.arcs.length ≤ (1000000000 : Nat)) ∧
 (decide (s.inst = t.inst) = true →
 (s.was.sup.length ≤ (1000000000 : Nat) ∧ s.was.arcs.length ≤ (1000000000 : Nat)) ∧ (decide (s.was = t.was) = decide (s = t) ∧ True) ∧ True) ∧
 (decide (s.inst = t.inst) = false → (false = decide (s = t) ∧ True) ∧ True)) ∧
 ((s.pass == t.pass) = false → (false = decide (s = t) ∧ True) ∧ True)) ∧
 (decide ([s.off.hi, s.off.lo] = [t.off.hi, t.off.lo]) = false → (false = decide (s = t) ∧ True) ∧ True)) ∧
 ((s.did == t.did) = false → (false = decide (s = t) ∧ True) ∧ True)
theorem StepSame_q (s : StepD) (t : StepD) (ty0 ty1 ty2 ty3 ty4 ty5 ty6 ty7 : TypeId) : StepSame_E0 s t ty0 ty1 ty2 ty3 ty4 ty5 ty6 ty7 = FVcP TT StepSame_g (StepSame_I s t) (StepSame_an s t) Try.f53 [.agg [.row 0, .row 1, .int .i64 s.pass, .row 2, .row 3, .int .i64 s.off.hi, .int .u64 s.off.lo, .bool s.did], .agg [.row 4, .row 5, .int .i64 t.pass, .row 6, .row 7, .int .i64 t.off.hi, .int .u64 t.off.lo, .bool t.did]] [(0, .row false ty0 (.ints .i64 s.inst.sup)), (1, .row false ty1 (.arcs s.inst.arcs)), (2, .row false ty2 (.ints .i64 s.was.sup)), (3, .row false ty3 (.arcs s.was.arcs)), (4, .row false ty4 (.ints .i64 t.inst.sup)), (5, .row false ty5 (.arcs t.inst.arcs)), (6, .row false ty6 (.ints .i64 t.was.sup)), (7, .row false ty7 (.arcs t.was.arcs))] (StepSame_r s t) := by kernel_rfl
theorem StepSame_E (s : StepD) (t : StepD) (ty0 ty1 ty2 ty3 ty4 ty5 ty6 ty7 : TypeId) (hp : StepSmall s ∧ StepSmall t) : FVc TT StepSame_g (StepSame_I s t) (StepSame_an s t) Try.f53 [.agg [.row 0, .row 1, .int .i64 s.pass, .row 2, .row 3, .int .i64 s.off.hi, .int .u64 s.off.lo, .bool s.did], .agg [.row 4, .row 5, .int .i64 t.pass, .row 6, .row 7, .int .i64 t.off.hi, .int .u64 t.off.lo, .bool t.did]] [(0, .row false ty0 (.ints .i64 s.inst.sup)), (1, .row false ty1 (.arcs s.inst.arcs)), (2, .row false ty2 (.ints .i64 s.was.sup)), (3, .row false ty3 (.arcs s.was.arcs)), (4, .row false ty4 (.ints .i64 t.inst.sup)), (5, .row false ty5 (.arcs t.inst.arcs)), (6, .row false ty6 (.ints .i64 t.was.sup)), (7, .row false ty7 (.arcs t.was.arcs))] (StepSame_r s t) := by
  refine FVc.of (StepSame_E0 s t ty0 ty1 ty2 ty3 ty4 ty5 ty6 ty7) (StepSame_q s t ty0 ty1 ty2 ty3 ty4 ty5 ty6 ty7) ?_
  unfold StepSame_E0
  simp only [eq_self, exists_const, forall_const, decide_eq_true_eq, decide_eq_false_iff_not, and_true, true_and, bne_iff_ne, ne_eq, bne_eq_false_iff_eq, Int.toNat_natCast, Bool.not_eq_true', Bool.not_eq_false', beq_iff_eq, beq_eq_false_iff_ne, nilEq_true]
  obtain ⟨⟨a1, a2, a3, a4⟩, b1, b2, b3, b4⟩ := hp
  refine ⟨fun h0 => ⟨fun h1 => ⟨fun h2 => ⟨⟨by omega, by omega⟩, fun h3 => ⟨⟨by omega, by omega⟩, ?_⟩, fun h3 => ?_⟩, fun h2 => ?_⟩, fun h1 => ?_⟩, fun h0 => ?_⟩
  · exact decide_eq_decide.2 ⟨fun e => stepD_ext.2 ⟨h0, h1, h2, h3, e⟩, fun e => by rw [e]⟩
  · exact (decide_eq_false fun e => h3 (by rw [e])).symm
  · exact (decide_eq_false fun e => h2 (by rw [e])).symm
  · exact (decide_eq_false fun e => h1 (by rw [e])).symm
  · exact (decide_eq_false fun e => h0 (by rw [e])).symm
theorem StepSame_ok : SpecOk Try.prog StepSame_n true (specOf true StepSame_fs) :=
  spec_ok' TT_ok (show GsOk Try.prog StepSame_g from gsOk_cons rSame_ok (gsOk_nil)) (by kernel_rfl) mixedOrders Try.func53 rfl rfl (by kernel_rfl) (n := 2) (by decide +kernel) (I := StepSame_IA) (fun _ _ => isOk_nil) (A := StepSame_A)
    (fun args h r hr => by
      unfold StepSame_fs at hr
      split at hr
      · rename_i s_p s_h s_l s_d t_p t_h t_l t_d ty0 s_s ty1 s_a ty2 s_t ty3 s_b ty4 t_s ty5 t_a ty6 t_t ty7 t_b; cases hr; refine ⟨rfl, fun hp => ?_⟩; have hE := StepSame_E ⟨⟨s_s, s_a⟩, s_p, ⟨s_t, s_b⟩, ⟨s_h, s_l⟩, s_d⟩ ⟨⟨t_s, t_a⟩, t_p, ⟨t_t, t_b⟩, ⟨t_h, t_l⟩, t_d⟩ ty0 ty1 ty2 ty3 ty4 ty5 ty6 ty7 hp; exact hE
      · cases hr)
def pass15_E0 (k : Int) (I : Inst) (ty0 ty1 : TypeId) : Prop :=
      (4 : Int) ≠ (0 : Int) ∧
 ((k.tmod (4 : Int) == (0 : Int)) = true →
 (I.sup.length ≤ (1000000 : Nat) ∧ I.arcs.length ≤ (1000000 : Nat)) ∧
 (((True ∧
 True ∧
 (lowS I).fst.pass = (passK k I).fst.pass ∧
 True ∧ True ∧ (lowS I).fst.off.hi = (passK k I).fst.off.hi ∧ (lowS I).fst.off.lo = (passK k I).fst.off.lo ∧ (lowS I).fst.did = (passK k I).fst.did ∧ True) ∧
 (lowS I).snd = (passK k I).snd ∧ True) ∧
 True) ∧
 (lowS I).fst.inst.sup = (passK k I).fst.inst.sup ∧
 (lowS I).fst.inst.arcs = (passK k I).fst.inst.arcs ∧ (lowS I).fst.was.sup = (passK k I).fst.was.sup ∧ (lowS I).fst.was.arcs = (passK k I).fst.was.arcs ∧ True) ∧
 ((k.tmod (4 : Int) == (0 : Int)) = false →
 ((k.tmod (4 : Int) == (1 : Int)) = true →
 (I.sup.length ≤ (1000000 : Nat) ∧ I.arcs.length ≤ (1000000 : Nat)) ∧
 (((True ∧
 True ∧
 (loopS I).fst.pass = (passK k I).fst.pass ∧
 True ∧
 True ∧ (loopS I).fst.off.hi = (passK k I).fst.off.hi ∧ (loopS I).fst.off.lo = (passK k I).fst.off.lo ∧ (loopS I).fst.did = (passK k I).fst.did ∧ True) ∧
 (loopS I).snd = (passK k I).snd ∧ True) ∧
 True) ∧
 (loopS I).fst.inst.sup = (passK k I).fst.inst.sup ∧
 (loopS I).fst.inst.arcs = (passK k I).fst.inst.arcs ∧ (loopS I).fst.was.sup = (passK k I).fst.was.sup ∧ (loopS I).fst.was.arcs = (passK k I).fst.was.arcs ∧ True) ∧
 ((k.tmod (4 : Int) == (1 : Int)) = false →
 ((k.tmod (4 : Int) == (2 : Int)) = true →
 (I.sup.length ≤ (1000000 : Nat) ∧ I.arcs.length ≤ (1000000 : Nat)) ∧
 (((True ∧
 True ∧
 (fixS I).fst.pass = (passK k I).fst.pass ∧
 True ∧
 True ∧ (fixS I).fst.off.hi = (passK k I).fst.off.hi ∧ (fixS I).fst.off.lo = (passK k I).fst.off.lo ∧ (fixS I).fst.did = (passK k I).fst.did ∧ True) ∧
 (fixS I).snd = (passK k I).snd ∧ True) ∧
 True) ∧
 (fixS I).fst.inst.sup = (passK k I).fst.inst.sup ∧
 (fixS I).fst.inst.arcs = (passK k I).fst.inst.arcs ∧ (fixS I).fst.was.sup = (passK k I).fst.was.sup ∧ (fixS I).fst.was.arcs = (passK k I).fst.was.arcs ∧ True) ∧
 ((k.tmod (4 : Int) == (2 : Int)) = false →
 (I.sup.length ≤ (1000000 : Nat) ∧ I.arcs.length ≤ (1000000 : Nat)) ∧
 (((True ∧
 True ∧
 (loneS I).fst.pass = (passK k I).fst.pass ∧
 True ∧
 True ∧
 (loneS I).fst.off.hi = (passK k I).fst.off.hi ∧ (loneS I).fst.off.lo = (passK k I).fst.off.lo ∧ (loneS I).fst.did = (passK k I).fst.did ∧ True) ∧
 (loneS I).snd = (passK k I).snd ∧ True) ∧
 True) ∧
 (loneS I).fst.inst.sup = (passK k I).fst.inst.sup ∧
 (loneS I).fst.inst.arcs = (passK k I).fst.inst.arcs ∧
 (loneS I).fst.was.sup = (passK k I).fst.was.sup ∧ (loneS I).fst.was.arcs = (passK k I).fst.was.arcs ∧ True)))
theorem pass15_q (k : Int) (I : Inst) (ty0 ty1 : TypeId) : pass15_E0 k I ty0 ty1 = FVcP TT pass15_g (pass15_I k I) (pass15_an k I) Try.f22 [.int .u8 k, .agg [.row 0, .row 1]] [(0, .row false ty0 (.ints .i64 I.sup)), (1, .row false ty1 (.arcs I.arcs))] (pass15_r k I) := by kernel_rfl
theorem pass15_E (k : Int) (I : Inst) (ty0 ty1 : TypeId) (hp : 0 ≤ k ∧ k ≤ 255 ∧ I.sup.length ≤ 1000000 ∧ I.arcs.length ≤ 1000000) : FVc TT pass15_g (pass15_I k I) (pass15_an k I) Try.f22 [.int .u8 k, .agg [.row 0, .row 1]] [(0, .row false ty0 (.ints .i64 I.sup)), (1, .row false ty1 (.arcs I.arcs))] (pass15_r k I) := by
  refine FVc.of (pass15_E0 k I ty0 ty1) (pass15_q k I ty0 ty1) ?_
  unfold pass15_E0
  simp only [eq_self, exists_const, forall_const, decide_eq_true_eq, decide_eq_false_iff_not, and_true, true_and, bne_iff_ne, ne_eq, bne_eq_false_iff_eq, Int.toNat_natCast, Bool.not_eq_true', Bool.not_eq_false', beq_iff_eq, beq_eq_false_iff_ne, nilEq_true]
  obtain ⟨h1, h2, h3, h4⟩ := hp
  have e : k.tmod 4 = k % 4 := Int.tmod_eq_emod_of_nonneg h1
  rw [e]
  unfold passK
  refine ⟨by omega, fun e0 => ⟨⟨h3, h4⟩, ?_⟩, fun e0 => ⟨fun e1 => ⟨⟨h3, h4⟩, ?_⟩, fun e1 => ⟨fun e2 => ⟨⟨h3, h4⟩, ?_⟩, fun e2 => ⟨⟨h3, h4⟩, ?_⟩⟩⟩⟩
  · simp [e0]
  · simp [e0, e1]
  · simp [e0, e1, e2]
  · simp [e0, e1, e2]
theorem pass15_ok : SpecOk Try.prog pass15_n true (specOf true pass15_fs) :=
  spec_ok' TT_ok (show GsOk Try.prog pass15_g from gsOk_cons Low_ok (gsOk_cons Loop_ok (gsOk_cons Fix_ok (gsOk_cons Lone_ok (gsOk_nil))))) (by kernel_rfl) mixedOrders Try.func22 rfl rfl (by kernel_rfl) (n := 2) (by decide +kernel) (I := pass15_IA) (fun _ _ => isOk_nil) (A := pass15_A)
    (fun args h r hr => by
      unfold pass15_fs at hr
      split at hr
      · rename_i k ty0 I_s ty1 I_a; cases hr; refine ⟨rfl, fun hp => ?_⟩; have hE := pass15_E k ⟨I_s, I_a⟩ ty0 ty1 hp; exact hE
      · cases hr)
def ref15_E0 (k : Int) (I : Inst) (ty0 ty1 : TypeId) : Prop :=
      (4 : Int) ≠ (0 : Int) ∧
 ((k.tmod (4 : Int) == (0 : Int)) = true →
 (I.sup.length ≤ (1000000 : Nat) ∧ I.arcs.length ≤ (1000000 : Nat)) ∧
 (((True ∧
 True ∧
 (lowS I).fst.pass = (passK k I).fst.pass ∧
 True ∧ True ∧ (lowS I).fst.off.hi = (passK k I).fst.off.hi ∧ (lowS I).fst.off.lo = (passK k I).fst.off.lo ∧ (lowS I).fst.did = (passK k I).fst.did ∧ True) ∧
 (lowS I).snd = (passK k I).snd ∧ True) ∧
 True) ∧
 (lowS I).fst.inst.sup = (passK k I).fst.inst.sup ∧
 (lowS I).fst.inst.arcs = (passK k I).fst.inst.arcs ∧ (lowS I).fst.was.sup = (passK k I).fst.was.sup ∧ (lowS I).fst.was.arcs = (passK k I).fst.was.arcs ∧ True) ∧
 ((k.tmod (4 : Int) == (0 : Int)) = false →
 ((k.tmod (4 : Int) == (1 : Int)) = true →
 (I.sup.length ≤ (1000000 : Nat) ∧ I.arcs.length ≤ (1000000 : Nat)) ∧
 (((True ∧
 True ∧
 (loopS I).fst.pass = (passK k I).fst.pass ∧
 True ∧
 True ∧ (loopS I).fst.off.hi = (passK k I).fst.off.hi ∧ (loopS I).fst.off.lo = (passK k I).fst.off.lo ∧ (loopS I).fst.did = (passK k I).fst.did ∧ True) ∧
 (loopS I).snd = (passK k I).snd ∧ True) ∧
 True) ∧
 (loopS I).fst.inst.sup = (passK k I).fst.inst.sup ∧
 (loopS I).fst.inst.arcs = (passK k I).fst.inst.arcs ∧ (loopS I).fst.was.sup = (passK k I).fst.was.sup ∧ (loopS I).fst.was.arcs = (passK k I).fst.was.arcs ∧ True) ∧
 ((k.tmod (4 : Int) == (1 : Int)) = false →
 ((k.tmod (4 : Int) == (2 : Int)) = true →
 (I.sup.length ≤ (1000000 : Nat) ∧ I.arcs.length ≤ (1000000 : Nat)) ∧
 (((True ∧
 True ∧
 (fixS I).fst.pass = (passK k I).fst.pass ∧
 True ∧
 True ∧ (fixS I).fst.off.hi = (passK k I).fst.off.hi ∧ (fixS I).fst.off.lo = (passK k I).fst.off.lo ∧ (fixS I).fst.did = (passK k I).fst.did ∧ True) ∧
 (fixS I).snd = (passK k I).snd ∧ True) ∧
 True) ∧
 (fixS I).fst.inst.sup = (passK k I).fst.inst.sup ∧
 (fixS I).fst.inst.arcs = (passK k I).fst.inst.arcs ∧ (fixS I).fst.was.sup = (passK k I).fst.was.sup ∧ (fixS I).fst.was.arcs = (passK k I).fst.was.arcs ∧ True) ∧
 ((k.tmod (4 : Int) == (2 : Int)) = false →
 (I.sup.length ≤ (1000000 : Nat) ∧ I.arcs.length ≤ (1000000 : Nat)) ∧
 (((True ∧
 True ∧
 (loneS I).fst.pass = (passK k I).fst.pass ∧
 True ∧
 True ∧
 (loneS I).fst.off.hi = (passK k I).fst.off.hi ∧ (loneS I).fst.off.lo = (passK k I).fst.off.lo ∧ (loneS I).fst.did = (passK k I).fst.did ∧ True) ∧
 (loneS I).snd = (passK k I).snd ∧ True) ∧
 True) ∧
 (loneS I).fst.inst.sup = (passK k I).fst.inst.sup ∧
 (loneS I).fst.inst.arcs = (passK k I).fst.inst.arcs ∧
 (loneS I).fst.was.sup = (passK k I).fst.was.sup ∧ (loneS I).fst.was.arcs = (passK k I).fst.was.arcs ∧ True)))
theorem ref15_q (k : Int) (I : Inst) (ty0 ty1 : TypeId) : ref15_E0 k I ty0 ty1 = FVcP TT ref15_g (ref15_I k I) (ref15_an k I) Try.f52 [.int .u8 k, .agg [.row 0, .row 1]] [(0, .row false ty0 (.ints .i64 I.sup)), (1, .row false ty1 (.arcs I.arcs))] (ref15_r k I) := by kernel_rfl
theorem ref15_E (k : Int) (I : Inst) (ty0 ty1 : TypeId) (hp : 0 ≤ k ∧ k ≤ 255 ∧ I.sup.length ≤ 1000000 ∧ I.arcs.length ≤ 1000000) : FVc TT ref15_g (ref15_I k I) (ref15_an k I) Try.f52 [.int .u8 k, .agg [.row 0, .row 1]] [(0, .row false ty0 (.ints .i64 I.sup)), (1, .row false ty1 (.arcs I.arcs))] (ref15_r k I) := by
  refine FVc.of (ref15_E0 k I ty0 ty1) (ref15_q k I ty0 ty1) ?_
  unfold ref15_E0
  simp only [eq_self, exists_const, forall_const, decide_eq_true_eq, decide_eq_false_iff_not, and_true, true_and, bne_iff_ne, ne_eq, bne_eq_false_iff_eq, Int.toNat_natCast, Bool.not_eq_true', Bool.not_eq_false', beq_iff_eq, beq_eq_false_iff_ne, nilEq_true]
  obtain ⟨h1, h2, h3, h4⟩ := hp
  have e : k.tmod 4 = k % 4 := Int.tmod_eq_emod_of_nonneg h1
  rw [e]
  unfold passK
  refine ⟨by omega, fun e0 => ⟨⟨h3, h4⟩, ?_⟩, fun e0 => ⟨fun e1 => ⟨⟨h3, h4⟩, ?_⟩, fun e1 => ⟨fun e2 => ⟨⟨h3, h4⟩, ?_⟩, fun e2 => ⟨⟨h3, h4⟩, ?_⟩⟩⟩⟩
  · simp [e0]
  · simp [e0, e1]
  · simp [e0, e1, e2]
  · simp [e0, e1, e2]
theorem ref15_ok : SpecOk Try.prog ref15_n true (specOf true ref15_fs) :=
  spec_ok' TT_ok (show GsOk Try.prog ref15_g from gsOk_cons rLow_ok (gsOk_cons rLoop_ok (gsOk_cons rFix_ok (gsOk_cons rLone_ok (gsOk_nil))))) (by kernel_rfl) mixedOrders Try.func52 rfl rfl (by kernel_rfl) (n := 2) (by decide +kernel) (I := ref15_IA) (fun _ _ => isOk_nil) (A := ref15_A)
    (fun args h r hr => by
      unfold ref15_fs at hr
      split at hr
      · rename_i k ty0 I_s ty1 I_a; cases hr; refine ⟨rfl, fun hp => ?_⟩; have hE := ref15_E k ⟨I_s, I_a⟩ ty0 ty1 hp; exact hE
      · cases hr)
abbrev does15_a0 (k : Int) (I : Inst) := (!decide
 ({ inst := (passK k I).fst.inst, pass := (passK k I).fst.pass, was := (passK k I).fst.was, off := (passK k I).fst.off, did := (passK k I).fst.did : StepD } =
 { inst := (passK k I).fst.inst, pass := (passK k I).fst.pass, was := (passK k I).fst.was, off := (passK k I).fst.off, did := (passK k I).fst.did : StepD }))
abbrev does15_a1 (k : Int) (I : Inst) := ((0 : Int) ≤ k ∧ k ≤ (255 : Int) ∧ (passK k I).fst.inst.sup.length ≤ (1000000 : Nat) ∧ (passK k I).fst.inst.arcs.length ≤ (1000000 : Nat))
def does15_E0 (k : Int) (I : Inst) (ty0 ty1 : TypeId) : Prop :=
      ((0 : Int) ≤ k ∧ k ≤ (255 : Int) ∧ I.sup.length ≤ (1000000 : Nat) ∧ I.arcs.length ≤ (1000000 : Nat)) ∧
 ((0 : Int) ≤ k ∧ k ≤ (255 : Int) ∧ I.sup.length ≤ (1000000 : Nat) ∧ I.arcs.length ≤ (1000000 : Nat)) ∧
 ((IntKind.i64.wrap (passK k I).snd != (passK k I).snd) = true → (false = true ∧ True) ∧ True) ∧
 ((IntKind.i64.wrap (passK k I).snd != (passK k I).snd) = false →
 (StepSmall { inst := (passK k I).fst.inst, pass := (passK k I).fst.pass, was := (passK k I).fst.was, off := (passK k I).fst.off, did := (passK k I).fst.did : StepD } ∧
 StepSmall { inst := (passK k I).fst.inst, pass := (passK k I).fst.pass, was := (passK k I).fst.was, off := (passK k I).fst.off, did := (passK k I).fst.did : StepD }) ∧
 ((does15_a0 k I) =
 true →
 (false = true ∧ True) ∧ True) ∧
 ((does15_a0 k I) =
 false →
 (does15_a1 k I) ∧
 (does15_a1 k I) ∧
 ((IntKind.i64.wrap (passK k (passK k I).fst.inst).snd == (passK k (passK k I).fst.inst).snd) = true →
 (StepSmall
 { inst := (passK k (passK k I).fst.inst).fst.inst, pass := (passK k (passK k I).fst.inst).fst.pass, was := (passK k (passK k I).fst.inst).fst.was, off := (passK k (passK k I).fst.inst).fst.off, did := (passK k (passK k I).fst.inst).fst.did : StepD } ∧
 StepSmall
 { inst := (passK k (passK k I).fst.inst).fst.inst, pass := (passK k (passK k I).fst.inst).fst.pass, was := (passK k (passK k I).fst.inst).fst.was, off := (passK k (passK k I).fst.inst).fst.off, did := (passK k (passK k I).fst.inst).fst.did : StepD }) ∧
 (decide
 ({ inst := (passK k (passK k I).fst.inst).fst.inst, pass := (passK k (passK k I).fst.inst).fst.pass, was := (passK k (passK k I).fst.inst).fst.was, off := (passK k (passK k I).fst.inst).fst.off, did := (passK k (passK k I).fst.inst).fst.did : StepD } =
 { inst := (passK k (passK k I).fst.inst).fst.inst, pass := (passK k (passK k I).fst.inst).fst.pass, was := (passK k (passK k I).fst.inst).fst.was, off := (passK k (passK k I).fst.inst).fst.off, did := (passK k (passK k I).fst.inst).fst.did : StepD }) =
 true ∧
 True) ∧
 True) ∧
 ((IntKind.i64.wrap (passK k (passK k I).fst.inst).snd == (passK k (passK k I).fst.inst).snd) = false → (false = true ∧ True) ∧ True)))
theorem does15_q (k : Int) (I : Inst) (ty0 ty1 : TypeId) : does15_E0 k I ty0 ty1 = FVcP TT does15_g (does15_I k I) (does15_an k I) Try.f20 [.int .u8 k, .agg [.row 0, .row 1]] [(0, .row false ty0 (.ints .i64 I.sup)), (1, .row false ty1 (.arcs I.arcs))] (does15_r k I) := by kernel_rfl
theorem does15_E (k : Int) (I : Inst) (ty0 ty1 : TypeId) (hp : 0 ≤ k ∧ k ≤ 255 ∧ I.sup.length ≤ 1000000 ∧ I.arcs.length ≤ 1000000) : FVc TT does15_g (does15_I k I) (does15_an k I) Try.f20 [.int .u8 k, .agg [.row 0, .row 1]] [(0, .row false ty0 (.ints .i64 I.sup)), (1, .row false ty1 (.arcs I.arcs))] (does15_r k I) := by
  refine FVc.of (does15_E0 k I ty0 ty1) (does15_q k I ty0 ty1) ?_
  unfold does15_E0
  delta does15_a1 does15_a0
  simp only [eq_self, exists_const, forall_const, decide_eq_true_eq, decide_eq_false_iff_not, and_true, true_and, bne_iff_ne, ne_eq, bne_eq_false_iff_eq, Int.toNat_natCast, Bool.not_eq_true', Bool.not_eq_false', beq_iff_eq, beq_eq_false_iff_ne, nilEq_true]
  obtain ⟨h1, h2, h3, h4⟩ := hp
  have hs := passK_small (k := k) h3 h4
  have hs2 := passK_small (k := k) hs.1 hs.2.1
  have he : ∀ J : Inst, IntKind.i64.wrap (passK k J).2 = (passK k J).2 := fun J => passK_err k J
  exact ⟨⟨h1, h2, h3, h4⟩, ⟨h1, h2, h3, h4⟩, fun h => absurd (he I) h, fun _ => ⟨⟨hs, hs⟩, fun h => absurd trivial h, ⟨h1, h2, hs.1, hs.2.1⟩, ⟨h1, h2, hs.1, hs.2.1⟩, fun _ => ⟨hs2, hs2⟩, fun h => absurd (he _) h⟩⟩
theorem does15_ok : SpecOk Try.prog does15_n true (specOf true does15_fs) :=
  spec_ok' TT_ok (show GsOk Try.prog does15_g from gsOk_cons pass15_ok (gsOk_cons ref15_ok (gsOk_cons StepSame_ok (gsOk_nil)))) (by kernel_rfl) mixedOrders Try.func20 rfl rfl (by kernel_rfl) (n := 2) (by decide +kernel) (I := does15_IA) (fun _ _ => isOk_nil) (A := does15_A)
    (fun args h r hr => by
      unfold does15_fs at hr
      split at hr
      · rename_i k ty0 I_s ty1 I_a; cases hr; refine ⟨rfl, fun hp => ?_⟩; have hE := does15_E k ⟨I_s, I_a⟩ ty0 ty1 hp; exact hE
      · cases hr)
end Go.Proofs.Ytahbkllfifmdfaa
