/- Part of the proof, FBTrimFlows. -/
import Derived.Test.YtahbkllfifmdfaaZFV15
import Derived.Test.YtahbkllfifmdfaaZFB9
import Derived.Test.YtahbkllfifmdfaaZDBTrimFlows
import Derived.Test.YtahbkllfifmdfaaZVc11
set_option linter.unusedVariables false
set_option linter.all false
set_option linter.unusedSimpArgs false
set_option maxRecDepth 100000
namespace Go.Proofs.Ytahbkllfifmdfaa
open Go Go.RowKit Go.Ql Go.Vc
abbrev TrimFlows_a0 (g : Int × Nat) (c : List Int) (d : List Int) (e : List Int) (f : List Int) := (xJ g.1 (List.take g.2 (oddF c d e).arcs) (flowF (oddF c d e) f))
abbrev TrimFlows_a1 (g : Int × Nat) (c : List Int) (d : List Int) (e : List Int) (g' : Int × Nat) := (True ∧
 True ∧
 (passK g.1 (oddF c d e)).fst.pass = (passK g'.1 (oddF c d e)).fst.pass ∧
 True ∧
 True ∧
 (passK g.1 (oddF c d e)).fst.off.hi = (passK g'.1 (oddF c d e)).fst.off.hi ∧
 (passK g.1 (oddF c d e)).fst.off.lo = (passK g'.1 (oddF c d e)).fst.off.lo ∧
 (passK g.1 (oddF c d e)).fst.did = (passK g'.1 (oddF c d e)).fst.did ∧ True)
abbrev TrimFlows_a2 (g : Int × Nat) (c : List Int) (d : List Int) (e : List Int) (f : List Int) := (yJ g.1 (List.take g.2 (oddF c d e).arcs) (flowF (oddF c d e) f))
abbrev TrimFlows_a3 (g' : Int × Nat) := (g'.fst = (0 : Int) ∨ g'.fst = (2 : Int) ∨ g'.fst = (3 : Int))
def TrimFlows_E0 (k : Int) (c : List Int) (d : List Int) (e : List Int) (f : List Int) (ty0 ty1 ty2 ty3 : TypeId) : Prop :=
      (Bytes c ∧ Bytes d ∧ c.length ≤ maxLen ∧ d.length ≤ maxLen ∧ Bytes e ∧ e.length ≤ maxLen) ∧
 (3 : Int) ≠ (0 : Int) ∧
 ((0 : Int) ≤ k.tmod (3 : Int) ∧ k.tmod (3 : Int) < (↑(3 : Nat) : Int)) ∧
 (k.tmod (3 : Int)).toNat < (3 : Nat) ∧
 ∀ (x : Int),
 [(0 : Int), (2 : Int), (3 : Int)][(k.tmod (3 : Int)).toNat]? = some x →
 ((0 : Int) ≤ x ∧ x ≤ (255 : Int) ∧ (oddF c d e).sup.length ≤ (1000000 : Nat) ∧ (oddF c d e).arcs.length ≤ (1000000 : Nat)) ∧
 (Bytes f ∧ (oddF c d e).arcs.length ≤ (1000000 : Nat) ∧ L42 (oddF c d e).arcs) ∧
 (((passK x (oddF c d e)).snd != (0 : Int)) = true → True ∧ (true = true ∧ True) ∧ True) ∧
 (((passK x (oddF c d e)).snd != (0 : Int)) = false →
 ((!(passK x (oddF c d e)).fst.did) = true → True ∧ (true = true ∧ True) ∧ True) ∧
 ((!(passK x (oddF c d e)).fst.did) = false →
 ∃ (g0 : Int × Nat),
 ((g0.fst = g0.fst ∧ (g0.fst = (0 : Int) ∨ g0.fst = (2 : Int) ∨ g0.fst = (3 : Int)) ∧ g0.snd ≤ (oddF c d e).arcs.length) ∧
 ((0 : Nat) = (0 : Nat) ∧ x = g0.1 ∧ (0 : Nat) = (0 : Nat) ∧ True ∧ True ∧ (0 : Int) = (↑g0.2 : Int) ∧ True) ∧
 [] = yJ g0.1 (List.take g0.2 (oddF c d e).arcs) (flowF (oddF c d e) f) ∧
 flowF (oddF c d e) f = xJ g0.1 (List.take g0.2 (oddF c d e).arcs) (flowF (oddF c d e) f) ∧
 (True ∧
 True ∧
 (passK x (oddF c d e)).fst.pass = (passK g0.1 (oddF c d e)).fst.pass ∧
 True ∧
 True ∧
 (passK x (oddF c d e)).fst.off.hi = (passK g0.1 (oddF c d e)).fst.off.hi ∧
 (passK x (oddF c d e)).fst.off.lo = (passK g0.1 (oddF c d e)).fst.off.lo ∧
 (passK x (oddF c d e)).fst.did = (passK g0.1 (oddF c d e)).fst.did ∧ True) ∧
 (passK x (oddF c d e)).fst.inst.sup = (passK g0.1 (oddF c d e)).fst.inst.sup ∧
 (passK x (oddF c d e)).fst.inst.arcs = (passK g0.1 (oddF c d e)).fst.inst.arcs ∧
 (passK x (oddF c d e)).fst.was.sup = (passK g0.1 (oddF c d e)).fst.was.sup ∧
 (passK x (oddF c d e)).fst.was.arcs = (passK g0.1 (oddF c d e)).fst.was.arcs ∧
 (True ∧ True ∧ True) ∧ (oddF c d e).sup = (oddF c d e).sup ∧ (oddF c d e).arcs = (oddF c d e).arcs ∧ True) ∧
 ∀ (g : Int × Nat),
 g.fst = g0.fst ∧ (g.fst = (0 : Int) ∨ g.fst = (2 : Int) ∨ g.fst = (3 : Int)) ∧ g.snd ≤ (oddF c d e).arcs.length →
 (decide ((↑g.2 : Int) < (↑(oddF c d e).arcs.length : Int)) = true →
 ((g.1 == (0 : Int)) = true →
 ((0 : Int) ≤ (↑g.2 : Int) ∧ (↑g.2 : Int) < (↑(TrimFlows_a0 g c d e f).length : Int)) ∧
 (↑g.2 : Int).toNat < (TrimFlows_a0 g c d e f).length ∧
 ∀ (x : Int),
 (TrimFlows_a0 g c d e f)[(↑g.2 : Int).toNat]? = some x →
 ((0 : Int) ≤ (↑g.2 : Int) ∧ (↑g.2 : Int) < (↑(oddF c d e).arcs.length : Int)) ∧
 (↑g.2 : Int).toNat < (oddF c d e).arcs.length ∧
 ∀ (x_1 : Arc),
 (oddF c d e).arcs[(↑g.2 : Int).toNat]? = some x_1 →
 (TrimFlows_a2 g c d e f).length + (1 : Nat) ≤ (1000000000 : Nat) ∧
 ∃ (g' : Int × Nat),
 (g'.fst = g0.fst ∧ (TrimFlows_a3 g') ∧ g'.snd ≤ (oddF c d e).arcs.length) ∧
 (oddF c d e).arcs.length - g'.snd < (oddF c d e).arcs.length - g.snd ∧
 ((0 : Nat) = (0 : Nat) ∧
 g.1 = g'.1 ∧
 (0 : Nat) = (0 : Nat) ∧ True ∧ True ∧ IntKind.i64.wrap ((↑g.2 : Int) + (1 : Int)) = (↑g'.2 : Int) ∧ True) ∧
 yJ g.1 (List.take g.2 (oddF c d e).arcs) (flowF (oddF c d e) f) ++ [IntKind.i64.wrap (x - x_1.low)] =
 yJ g'.1 (List.take g'.2 (oddF c d e).arcs) (flowF (oddF c d e) f) ∧
 xJ g.1 (List.take g.2 (oddF c d e).arcs) (flowF (oddF c d e) f) =
 xJ g'.1 (List.take g'.2 (oddF c d e).arcs) (flowF (oddF c d e) f) ∧
 (TrimFlows_a1 g c d e g') ∧
 (passK g.1 (oddF c d e)).fst.inst.sup = (passK g'.1 (oddF c d e)).fst.inst.sup ∧
 (passK g.1 (oddF c d e)).fst.inst.arcs = (passK g'.1 (oddF c d e)).fst.inst.arcs ∧
 (passK g.1 (oddF c d e)).fst.was.sup = (passK g'.1 (oddF c d e)).fst.was.sup ∧
 (passK g.1 (oddF c d e)).fst.was.arcs = (passK g'.1 (oddF c d e)).fst.was.arcs ∧
 (True ∧ True ∧ True) ∧
 (oddF c d e).sup = (oddF c d e).sup ∧ (oddF c d e).arcs = (oddF c d e).arcs ∧ True) ∧
 ((g.1 == (0 : Int)) = false →
 ((g.1 == (2 : Int)) = true →
 ((0 : Int) ≤ (↑g.2 : Int) ∧ (↑g.2 : Int) < (↑(oddF c d e).arcs.length : Int)) ∧
 (↑g.2 : Int).toNat < (oddF c d e).arcs.length ∧
 ∀ (x : Arc),
 (oddF c d e).arcs[(↑g.2 : Int).toNat]? = some x →
 ((0 : Int) ≤ (↑g.2 : Int) ∧ (↑g.2 : Int) < (↑(oddF c d e).arcs.length : Int)) ∧
 (↑g.2 : Int).toNat < (oddF c d e).arcs.length ∧
 ∀ (x_1 : Arc),
 (oddF c d e).arcs[(↑g.2 : Int).toNat]? = some x_1 →
 ((x.low == x_1.cap) = true →
 ((0 : Int) ≤ (↑g.2 : Int) ∧ (↑g.2 : Int) < (↑(oddF c d e).arcs.length : Int)) ∧
 (↑g.2 : Int).toNat < (oddF c d e).arcs.length ∧
 ∀ (x : Arc),
 (oddF c d e).arcs[(↑g.2 : Int).toNat]? = some x →
 ((0 : Int) ≤ (↑g.2 : Int) ∧
 (↑g.2 : Int) < (↑(TrimFlows_a0 g c d e f).length : Int)) ∧
 (↑g.2 : Int).toNat < (TrimFlows_a0 g c d e f).length ∧
 ∃ (g' : Int × Nat),
 (g'.fst = g0.fst ∧
 (TrimFlows_a3 g') ∧
 g'.snd ≤ (oddF c d e).arcs.length) ∧
 (oddF c d e).arcs.length - g'.snd < (oddF c d e).arcs.length - g.snd ∧
 ((0 : Nat) = (0 : Nat) ∧
 g.1 = g'.1 ∧
 (0 : Nat) = (0 : Nat) ∧
 True ∧ True ∧ IntKind.i64.wrap ((↑g.2 : Int) + (1 : Int)) = (↑g'.2 : Int) ∧ True) ∧
 yJ g.1 (List.take g.2 (oddF c d e).arcs) (flowF (oddF c d e) f) =
 yJ g'.1 (List.take g'.2 (oddF c d e).arcs) (flowF (oddF c d e) f) ∧
 (TrimFlows_a0 g c d e f).set (↑g.2 : Int).toNat
 x.low =
 xJ g'.1 (List.take g'.2 (oddF c d e).arcs) (flowF (oddF c d e) f) ∧
 (True ∧
 True ∧
 (passK g.1 (oddF c d e)).fst.pass = (passK g'.1 (oddF c d e)).fst.pass ∧
 True ∧
 True ∧
 (passK g.1 (oddF c d e)).fst.off.hi = (passK g'.1 (oddF c d e)).fst.off.hi ∧
 (passK g.1 (oddF c d e)).fst.off.lo = (passK g'.1 (oddF c d e)).fst.off.lo ∧
 (passK g.1 (oddF c d e)).fst.did = (passK g'.1 (oddF c d e)).fst.did ∧
 True) ∧
 (passK g.1 (oddF c d e)).fst.inst.sup = (passK g'.1 (oddF c d e)).fst.inst.sup ∧
 (passK g.1 (oddF c d e)).fst.inst.arcs = (passK g'.1 (oddF c d e)).fst.inst.arcs ∧
 (passK g.1 (oddF c d e)).fst.was.sup = (passK g'.1 (oddF c d e)).fst.was.sup ∧
 (passK g.1 (oddF c d e)).fst.was.arcs = (passK g'.1 (oddF c d e)).fst.was.arcs ∧
 (True ∧ True ∧ True) ∧
 (oddF c d e).sup = (oddF c d e).sup ∧
 (oddF c d e).arcs = (oddF c d e).arcs ∧ True) ∧
 ((x.low == x_1.cap) = false →
 ((0 : Int) ≤ (↑g.2 : Int) ∧
 (↑g.2 : Int) < (↑(TrimFlows_a0 g c d e f).length : Int)) ∧
 (↑g.2 : Int).toNat < (TrimFlows_a0 g c d e f).length ∧
 ∀ (x : Int),
 (TrimFlows_a0 g c d e f)[(↑g.2 : Int).toNat]? = some x →
 (TrimFlows_a2 g c d e f).length + (1 : Nat) ≤ (1000000000 : Nat) ∧
 ∃ (g' : Int × Nat),
 (g'.fst = g0.fst ∧
 (TrimFlows_a3 g') ∧
 g'.snd ≤ (oddF c d e).arcs.length) ∧
 (oddF c d e).arcs.length - g'.snd < (oddF c d e).arcs.length - g.snd ∧
 ((0 : Nat) = (0 : Nat) ∧
 g.1 = g'.1 ∧
 (0 : Nat) = (0 : Nat) ∧
 True ∧ True ∧ IntKind.i64.wrap ((↑g.2 : Int) + (1 : Int)) = (↑g'.2 : Int) ∧ True) ∧
 yJ g.1 (List.take g.2 (oddF c d e).arcs) (flowF (oddF c d e) f) ++ [x] =
 yJ g'.1 (List.take g'.2 (oddF c d e).arcs) (flowF (oddF c d e) f) ∧
 xJ g.1 (List.take g.2 (oddF c d e).arcs) (flowF (oddF c d e) f) =
 xJ g'.1 (List.take g'.2 (oddF c d e).arcs) (flowF (oddF c d e) f) ∧
 (TrimFlows_a1 g c d e g') ∧
 (passK g.1 (oddF c d e)).fst.inst.sup = (passK g'.1 (oddF c d e)).fst.inst.sup ∧
 (passK g.1 (oddF c d e)).fst.inst.arcs = (passK g'.1 (oddF c d e)).fst.inst.arcs ∧
 (passK g.1 (oddF c d e)).fst.was.sup = (passK g'.1 (oddF c d e)).fst.was.sup ∧
 (passK g.1 (oddF c d e)).fst.was.arcs = (passK g'.1 (oddF c d e)).fst.was.arcs ∧
 (True ∧ True ∧ True) ∧
 (oddF c d e).sup = (oddF c d e).sup ∧
 (oddF c d e).arcs = (oddF c d e).arcs ∧ True)) ∧
 ((g.1 == (2 : Int)) = false →
 ((0 : Int) ≤ (↑g.2 : Int) ∧ (↑g.2 : Int) < (↑(TrimFlows_a0 g c d e f).length : Int)) ∧
 (↑g.2 : Int).toNat < (TrimFlows_a0 g c d e f).length ∧
 ∀ (x : Int),
 (TrimFlows_a0 g c d e f)[(↑g.2 : Int).toNat]? = some x →
 (TrimFlows_a2 g c d e f).length + (1 : Nat) ≤ (1000000000 : Nat) ∧
 ∃ (g' : Int × Nat),
 (g'.fst = g0.fst ∧ (TrimFlows_a3 g') ∧ g'.snd ≤ (oddF c d e).arcs.length) ∧
 (oddF c d e).arcs.length - g'.snd < (oddF c d e).arcs.length - g.snd ∧
 ((0 : Nat) = (0 : Nat) ∧
 g.1 = g'.1 ∧
 (0 : Nat) = (0 : Nat) ∧ True ∧ True ∧ IntKind.i64.wrap ((↑g.2 : Int) + (1 : Int)) = (↑g'.2 : Int) ∧ True) ∧
 yJ g.1 (List.take g.2 (oddF c d e).arcs) (flowF (oddF c d e) f) ++ [x] =
 yJ g'.1 (List.take g'.2 (oddF c d e).arcs) (flowF (oddF c d e) f) ∧
 xJ g.1 (List.take g.2 (oddF c d e).arcs) (flowF (oddF c d e) f) =
 xJ g'.1 (List.take g'.2 (oddF c d e).arcs) (flowF (oddF c d e) f) ∧
 (TrimFlows_a1 g c d e g') ∧
 (passK g.1 (oddF c d e)).fst.inst.sup = (passK g'.1 (oddF c d e)).fst.inst.sup ∧
 (passK g.1 (oddF c d e)).fst.inst.arcs = (passK g'.1 (oddF c d e)).fst.inst.arcs ∧
 (passK g.1 (oddF c d e)).fst.was.sup = (passK g'.1 (oddF c d e)).fst.was.sup ∧
 (passK g.1 (oddF c d e)).fst.was.arcs = (passK g'.1 (oddF c d e)).fst.was.arcs ∧
 (True ∧ True ∧ True) ∧
 (oddF c d e).sup = (oddF c d e).sup ∧ (oddF c d e).arcs = (oddF c d e).arcs ∧ True))) ∧
 (decide ((↑g.2 : Int) < (↑(oddF c d e).arcs.length : Int)) = false →
 ((oddF c d e).sup.length ≤ (10000 : Nat) ∧
 (oddF c d e).arcs.length ≤ (10000 : Nat) ∧ A64 (TrimFlows_a0 g c d e f) ∧ A64 (oddF c d e).sup) ∧
 ((passK g.1 (oddF c d e)).fst.inst.sup.length ≤ (10000 : Nat) ∧
 (passK g.1 (oddF c d e)).fst.inst.arcs.length ≤ (10000 : Nat) ∧
 A64 (TrimFlows_a2 g c d e f) ∧ A64 (passK g.1 (oddF c d e)).fst.inst.sup) ∧
 True ∧
 (true = true →
 (((↑(TrimFlows_a2 g c d e f).length : Int) ==
 (↑(passK g.1 (oddF c d e)).fst.inst.arcs.length : Int)) =
 true →
 (((fitsF (oddF c d e) (TrimFlows_a0 g c d e f) == (0 : Int)) ==
 (fitsF (passK g.1 (oddF c d e)).fst.inst (TrimFlows_a2 g c d e f) ==
 (0 : Int))) =
 true →
 (A64 (TrimFlows_a0 g c d e f) ∧
 A64c (oddF c d e).arcs ∧ (oddF c d e).arcs.length ≤ (1000000 : Nat)) ∧
 (A64 (TrimFlows_a2 g c d e f) ∧
 A64c (passK g.1 (oddF c d e)).fst.inst.arcs ∧ (passK g.1 (oddF c d e)).fst.inst.arcs.length ≤ (1000000 : Nat)) ∧
 ((W (costF (passK g.1 (oddF c d e)).fst.inst (TrimFlows_a2 g c d e f))).ok ∧
 (passK g.1 (oddF c d e)).fst.off.ok) ∧
 (decide
 ([(W (costF (oddF c d e) (TrimFlows_a0 g c d e f))).hi,
 (W (costF (oddF c d e) (TrimFlows_a0 g c d e f))).lo] =
 [(wplus
 (W
 (costF (passK g.1 (oddF c d e)).fst.inst
 (TrimFlows_a2 g c d e f)))
 (passK g.1 (oddF c d e)).fst.off).hi,
 (wplus
 (W
 (costF (passK g.1 (oddF c d e)).fst.inst
 (TrimFlows_a2 g c d e f)))
 (passK g.1 (oddF c d e)).fst.off).lo]) =
 true ∧
 True) ∧
 True) ∧
 (((fitsF (oddF c d e) (TrimFlows_a0 g c d e f) == (0 : Int)) ==
 (fitsF (passK g.1 (oddF c d e)).fst.inst (TrimFlows_a2 g c d e f) ==
 (0 : Int))) =
 false →
 (false = true ∧ True) ∧ True)) ∧
 (((↑(TrimFlows_a2 g c d e f).length : Int) ==
 (↑(passK g.1 (oddF c d e)).fst.inst.arcs.length : Int)) =
 false →
 (false = true ∧ True) ∧ True)) ∧
 (true = false → (false = true ∧ True) ∧ True))))
theorem TrimFlows_q (k : Int) (c : List Int) (d : List Int) (e : List Int) (f : List Int) (ty0 ty1 ty2 ty3 : TypeId) : TrimFlows_E0 k c d e f ty0 ty1 ty2 ty3 = FVcP TT TrimFlows_g (TrimFlows_I k c d e f) (TrimFlows_an k c d e f) Try.f9 [.int .u8 k, .row 0, .row 1, .row 2, .row 3] [(0, .row false ty0 (.ints .u8 c)), (1, .row false ty1 (.ints .u8 d)), (2, .row false ty2 (.ints .u8 e)), (3, .row false ty3 (.ints .u8 f))] (TrimFlows_r k c d e f) := by kernel_rfl
theorem TrimFlows_E (k : Int) (c : List Int) (d : List Int) (e : List Int) (f : List Int) (ty0 ty1 ty2 ty3 : TypeId) (hp : 0 ≤ k ∧ k ≤ 255 ∧ Bytes c ∧ Bytes d ∧ c.length ≤ maxLen ∧ d.length ≤ maxLen ∧ Bytes e ∧ e.length ≤ maxLen ∧ Bytes f ∧ f.length ≤ maxLen) : FVc TT TrimFlows_g (TrimFlows_I k c d e f) (TrimFlows_an k c d e f) Try.f9 [.int .u8 k, .row 0, .row 1, .row 2, .row 3] [(0, .row false ty0 (.ints .u8 c)), (1, .row false ty1 (.ints .u8 d)), (2, .row false ty2 (.ints .u8 e)), (3, .row false ty3 (.ints .u8 f))] (TrimFlows_r k c d e f) := by
  refine FVc.of (TrimFlows_E0 k c d e f ty0 ty1 ty2 ty3) (TrimFlows_q k c d e f ty0 ty1 ty2 ty3) ?_
  unfold TrimFlows_E0
  delta TrimFlows_a3 TrimFlows_a2 TrimFlows_a1 TrimFlows_a0
  obtain ⟨k0, k1, b1, b2, b3, b4, b5, b6, b7, b8⟩ := hp
  obtain ⟨o1, o2, o3, o4, o5, o6⟩ := oddF_all c d e
  refine ⟨⟨b1, b2, b3, b4, b5, b6⟩, by omega, ?_⟩
  generalize oddF c d e = I at *
  have km : k.tmod 3 = k % 3 := Int.tmod_eq_emod_of_nonneg k0
  rw [km]
  have hF := flow_few o5 f
  have hFl := flowF_len I f
  obtain ⟨a1, a2, a3, a4⟩ := right_A64 o1
  generalize flowF I f = F at *
  have hlow : ∀ a ∈ I.arcs, 0 ≤ a.low ∧ a.low ≤ 2 := fun a ha => ⟨(o5 a ha).l0, (o5 a ha).l1⟩
  simp only [eq_self, exists_const, forall_const, decide_eq_true_eq, decide_eq_false_iff_not, and_true, true_and, bne_iff_ne, ne_eq, bne_eq_false_iff_eq, Int.toNat_natCast, Bool.not_eq_true', Bool.not_eq_false', beq_iff_eq, beq_eq_false_iff_ne, nilEq_true]
  refine ⟨by omega, by omega, fun j hj0 => ?_⟩
  have hj : j = 0 ∨ j = 2 ∨ j = 3 := by
    have h3 : (k % 3).toNat = 0 ∨ (k % 3).toNat = 1 ∨ (k % 3).toNat = 2 := by omega
    rcases h3 with h3 | h3 | h3 <;> rw [h3] at hj0 <;> simp at hj0 <;> omega
  refine ⟨⟨by omega, by omega, by omega, by omega⟩, ⟨b7, by omega, a4⟩, fun _ => trivial, fun h0 => ⟨fun _ => trivial, fun hd => ?_⟩⟩
  have hc := passK_cases h0
  rcases hc.2 with ⟨h1, h2⟩ | ⟨h1, h2, h3⟩
  · rw [h2] at hd; cases hd
  refine ⟨(j, 0), ⟨⟨hj, by dsimp only; omega⟩, ⟨rfl, rfl⟩, by dsimp only; rw [List.take_zero]; rcases hj with rfl | rfl | rfl <;> simp [yJ, yLow, yTake], by dsimp only; rw [List.take_zero]; rcases hj with rfl | rfl | rfl <;> simp [xJ, xTake]⟩, fun g hg => ?_⟩
  obtain ⟨j', g⟩ := g
  dsimp only at hg ⊢
  obtain ⟨rfl, -, hg⟩ := hg
  have hlk : g ≤ I.arcs.length → (I.arcs.take g).length = g := fun h => by rw [List.length_take]; omega
  refine ⟨fun hl => ?_, fun hl => ?_⟩
  · have hgl : g < I.arcs.length := by omega
    obtain ⟨a, ha⟩ : ∃ a, I.arcs[g]? = some a := ⟨_, List.getElem?_eq_getElem hgl⟩
    have hx := xJ_at (j := j') (l := I.arcs.take g) (x := F) (by rw [hlk hg]; omega)
    have hxl := xJ_len (j := j') (l := I.arcs.take g) (x := F) (by rw [hlk hg]; omega)
    have hyl := yJ_len (j := j') (l := I.arcs.take g) (x := F)
    have e0 := J_zero a (I.arcs.take g) F
    have e2 := J_two a (I.arcs.take g) F (by rw [hlk hg]; omega)
    have e3 := J_three a (I.arcs.take g) F (by rw [hlk hg]; omega)
    rw [hlk hg] at hx hyl e0 e2 e3
    rw [← take_get ha] at e0 e2 e3
    have hb : 0 ≤ F.getD g 0 ∧ F.getD g 0 ≤ 7 := by
      have : F[g]? = some (F.getD g 0) := by rw [List.getD_eq_getElem?_getD, List.getElem?_eq_getElem (show g < F.length by omega)]; rfl
      exact hF _ (List.mem_of_getElem? this)
    have hla := hlow a (List.mem_of_getElem? ha)
    have hw : IntKind.i64.wrap ((g : Int) + 1) = ((g + 1 : Nat) : Int) := by rw [w64 (by omega) (by omega)]; omega
    have hwb : IntKind.i64.wrap (F.getD g 0 - a.low) = F.getD g 0 - a.low := w64 (by omega) (by omega)
    simp only [hx, hxl, ha, Option.some.injEq, forall_eq', hw, hwb]
    rcases hj with rfl | rfl | rfl
    · refine ⟨fun _ => ⟨by omega, by omega, by omega, hgl, by omega, (0, g + 1), ⟨rfl, .inl rfl, by dsimp only; omega⟩, by dsimp only; omega, ⟨rfl, rfl⟩, e0.1.symm, e0.2.symm, ⟨rfl, rfl, rfl, rfl⟩, rfl, rfl, rfl, rfl⟩, fun h => absurd rfl h⟩
    · refine ⟨fun h => by omega, fun _ => ⟨fun _ => ⟨by omega, hgl, by omega, hgl, fun h4 => ⟨by omega, hgl, by omega, by omega, (2, g + 1), ⟨rfl, .inr (.inl rfl), by dsimp only; omega⟩, by dsimp only; omega, ⟨rfl, rfl⟩, (e2.1 h4).1.symm, (e2.1 h4).2.symm, ⟨rfl, rfl, rfl, rfl⟩, rfl, rfl, rfl, rfl⟩,
        fun h4 => ⟨by omega, by omega, by omega, (2, g + 1), ⟨rfl, .inr (.inl rfl), by dsimp only; omega⟩, by dsimp only; omega, ⟨rfl, rfl⟩, (e2.2 h4).1.symm, (e2.2 h4).2.symm, ⟨rfl, rfl, rfl, rfl⟩, rfl, rfl, rfl, rfl⟩⟩, fun h => absurd rfl h⟩⟩
    · refine ⟨fun h => by omega, fun _ => ⟨fun h => by omega, fun _ => ⟨by omega, by omega, by omega, (3, g + 1), ⟨rfl, .inr (.inr rfl), by dsimp only; omega⟩, by dsimp only; omega, ⟨rfl, rfl⟩, e3.1.symm, e3.2.symm, ⟨rfl, rfl, rfl, rfl⟩, rfl, rfl, rfl, rfl⟩⟩⟩
  · have eg : g = I.arcs.length := by omega
    subst eg
    rw [List.take_length, h3]
    dsimp only
    obtain ⟨f1, f2, f3⟩ := J_end hj o1 h2 hFl
    obtain ⟨c1, c2⟩ := J_few (j := j') hlow hF
    obtain ⟨d1, d2, d3, d4⟩ := right_A64 h2
    have d5 := right_small h2
    rw [f3]
    simp only [wplus_W, W_ok]
    refine ⟨⟨by omega, by omega, c1, a3⟩, ⟨by omega, by omega, c2, d3⟩, ⟨fun _ => ⟨fun _ => ⟨⟨c1, a2, by omega⟩, ⟨c2, d2, by omega⟩, ⟨trivial, trivial⟩, trivial⟩, fun h => absurd ?_ h⟩, fun h => absurd (by omega) h⟩, fun h => by cases h⟩
    rw [Bool.eq_iff_iff, beq_iff_eq, beq_iff_eq]; exact f2
theorem TrimFlows_ok : SpecOk Try.prog TrimFlows_n true (specOf true TrimFlows_fs) :=
  spec_ok' TT_ok (show GsOk Try.prog TrimFlows_g from gsOk_cons Odd_ok (gsOk_cons pass15_ok (gsOk_cons Flow_ok (gsOk_cons known15_ok (gsOk_cons Fits_ok (gsOk_cons Cost_ok (gsOk_cons Plus_ok (gsOk_nil)))))))) (by kernel_rfl) mixedOrders Try.func9 rfl rfl (by kernel_rfl) (n := 5) (by decide +kernel) (I := TrimFlows_IA) (fun _ _ => isOk_nil) (A := TrimFlows_A)
    (fun args h r hr => by
      unfold TrimFlows_fs at hr
      split at hr
      · rename_i k ty0 c ty1 d ty2 e ty3 f; cases hr; refine ⟨rfl, fun hp => ?_⟩; have hE := TrimFlows_E k c d e f ty0 ty1 ty2 ty3 hp; exact hE
      · cases hr)
end Go.Proofs.Ytahbkllfifmdfaa
