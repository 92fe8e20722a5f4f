/- Part of the proof, FBTwinFlows. -/
import Derived.Test.YtnjcklhgdpgllaaZFT16
import Derived.Test.YtnjcklhgdpgllaaZFB9
import Derived.Test.YtnjcklhgdpgllaaZDBTwinFlows
import Derived.Test.YtnjcklhgdpgllaaZVc11
set_option linter.unusedVariables false
set_option linter.all false
set_option linter.unusedSimpArgs false
set_option maxRecDepth 100000
namespace Go.Proofs.Ytnjcklhgdpgllaa
open Go Go.RowKit Go.Ql Go.Vc
abbrev TwinFlows_a0 (c : List Int) (d : List Int) := (True ∧
 True ∧
 (twinS (alikeF c d)).fst.pass = (twinS (alikeF c d)).fst.pass ∧
 True ∧
 True ∧
 (twinS (alikeF c d)).fst.off.hi = (twinS (alikeF c d)).fst.off.hi ∧
 (twinS (alikeF c d)).fst.off.lo = (twinS (alikeF c d)).fst.off.lo ∧
 (twinS (alikeF c d)).fst.did = (twinS (alikeF c d)).fst.did ∧ True)
abbrev TwinFlows_a1 (c : List Int) (d : List Int) (e : List Int) := (sumsG (alikeF c d) (flowF (alikeF c d) e))
abbrev TwinFlows_a2 (c : List Int) (d : List Int) (e : List Int) := (fun (i : Nat) => (flowF (alikeF c d) e).getD i (0 : Int))
abbrev TwinFlows_a3 (c : List Int) (d : List Int) := (↑(DK.ints IntKind.i64 (groupsF (alikeF c d).arcs)).len : Int)
abbrev TwinFlows_a4 (c : List Int) (d : List Int) (g : Nat × List Int × List Value) (e : List Int) := ((twinS (alikeF c d)).fst.inst.sup.length ≤ (10000 : Nat) ∧
 (twinS (alikeF c d)).fst.inst.arcs.length ≤ (10000 : Nat) ∧
 A64 (List.take g.1 (TwinFlows_a1 c d e)) ∧ A64 (twinS (alikeF c d)).fst.inst.sup)
abbrev TwinFlows_a5 (c : List Int) (d : List Int) (g : Nat × List Int × List Value) (e : List Int) := ((fitsF (twinS (alikeF c d)).fst.inst (List.take g.1 (TwinFlows_a1 c d e)) == (0 : Int)) ==
 (fitsF (alikeF c d) g.2.1 == (0 : Int)))
abbrev TwinFlows_a6 (c : List Int) (d : List Int) (e : List Int) := (W (costF (alikeF c d) (flowF (alikeF c d) e)))
abbrev TwinFlows_a7 (c : List Int) (d : List Int) (g : Nat × List Int × List Value) (e : List Int) := (W (costF (twinS (alikeF c d)).fst.inst (List.take g.1 (TwinFlows_a1 c d e))))
abbrev TwinFlows_a8 (c : List Int) (d : List Int) (e : List Int) := (A64 (flowF (alikeF c d) e) ∧ A64c (alikeF c d).arcs ∧ (alikeF c d).arcs.length ≤ (1000000 : Nat))
abbrev TwinFlows_a9 (c : List Int) (d : List Int) (g_2 : Nat × List Int × List Value × Nat) (e : List Int) := (spreadF (alikeF c d) (grp (alikeF c d).arcs g_2.1)
 (gsum
 (fun (i : Nat) =>
 (flowF (alikeF c d) e).getD i (0 : Int))
 (grp (alikeF c d).arcs g_2.1)))
def TwinFlows_E0 (c : List Int) (d : List Int) (e : List Int) (ty0 ty1 ty2 : TypeId) : Prop :=
      (Bytes c ∧ Bytes d ∧ c.length ≤ maxLen ∧ d.length ≤ maxLen) ∧
 (Bytes e ∧ (alikeF c d).arcs.length ≤ (1000000 : Nat) ∧ L42 (alikeF c d).arcs) ∧
 ((alikeF c d).sup.length ≤ (1000000 : Nat) ∧ (alikeF c d).arcs.length ≤ (1000000 : Nat)) ∧
 (alikeF c d).arcs.length ≤ (1000000 : Nat) ∧
 ∀ (V : Nat → List Value),
 (((twinS (alikeF c d)).snd != (0 : Int)) = true → (false = true ∧ True) ∧ True) ∧
 (((twinS (alikeF c d)).snd != (0 : Int)) = false →
 (((↑(twinS (alikeF c d)).fst.inst.arcs.length : Int) != (TwinFlows_a3 c d)) = true → (false = true ∧ True) ∧ True) ∧
 (((↑(twinS (alikeF c d)).fst.inst.arcs.length : Int) != (TwinFlows_a3 c d)) = false →
 ((↑(flowF (alikeF c d) e).length : Int) = (↑(flowF (alikeF c d) e).length : Int) ∧
 (0 : Int) ≤ (↑(flowF (alikeF c d) e).length : Int) ∧ (↑(flowF (alikeF c d) e).length : Int) ≤ (1000000000 : Int)) ∧
 ∃ (g0 : Nat × List Int × List Value),
 ((g0.fst ≤ (groupsF (alikeF c d).arcs).length ∧ SpreadTo (alikeF c d) (flowF (alikeF c d) e) g0.2.fst g0.fst) ∧
 ((0 : Nat) = (0 : Nat) ∧ True ∧ (0 : Nat) = (0 : Nat) ∧ True ∧ True ∧ True ∧ (0 : Int) = (↑g0.1 : Int) ∧ True) ∧
 List.replicate (↑(flowF (alikeF c d) e).length : Int).toNat (0 : Int) = g0.2.1 ∧
 [] = List.take g0.1 (TwinFlows_a1 c d e) ∧
 (groupsF (alikeF c d).arcs = groupsF (alikeF c d).arcs ∧ V (0 : Nat) = g0.2.2 ∧ (none : Option Nat) = none) ∧
 (TwinFlows_a0 c d) ∧
 (twinS (alikeF c d)).fst.inst.sup = (twinS (alikeF c d)).fst.inst.sup ∧
 (twinS (alikeF c d)).fst.inst.arcs = (twinS (alikeF c d)).fst.inst.arcs ∧
 (twinS (alikeF c d)).fst.was.sup = (twinS (alikeF c d)).fst.was.sup ∧
 (twinS (alikeF c d)).fst.was.arcs = (twinS (alikeF c d)).fst.was.arcs ∧
 flowF (alikeF c d) e = flowF (alikeF c d) e ∧
 (True ∧ True ∧ True) ∧ (alikeF c d).sup = (alikeF c d).sup ∧ (alikeF c d).arcs = (alikeF c d).arcs ∧ True) ∧
 ∀ (g : Nat × List Int × List Value),
 g.fst ≤ (groupsF (alikeF c d).arcs).length ∧ SpreadTo (alikeF c d) (flowF (alikeF c d) e) g.2.fst g.fst →
 (decide ((↑g.1 : Int) < (TwinFlows_a3 c d)) = true →
 ∃ (g0 : Nat × List Int × List Value × Nat),
 ((g0.fst = g0.fst ∧ g0.2.fst = g0.2.fst ∧ g0.2.2.fst = g0.2.2.fst ∧ g0.2.2.snd ≤ (grp (alikeF c d).arcs g0.fst).length) ∧
 ((0 : Nat) = (0 : Nat) ∧
 True ∧
 (0 : Nat) = (0 : Nat) ∧
 True ∧
 True ∧
 True ∧
 (↑g.1 : Int) = (↑g0.1 : Int) ∧
 (0 : Int) =
 gsum (TwinFlows_a2 c d e) (List.take g0.2.2.2 (grp (alikeF c d).arcs g0.1)) ∧
 (0 : Int) = (↑g0.2.2.2 : Int) ∧ True) ∧
 g.2.1 = g0.2.1 ∧
 List.take g.1 (TwinFlows_a1 c d e) = List.take g0.1 (TwinFlows_a1 c d e) ∧
 (groupsF (alikeF c d).arcs = groupsF (alikeF c d).arcs ∧ g.2.2 = g0.2.2.1) ∧
 (TwinFlows_a0 c d) ∧
 (twinS (alikeF c d)).fst.inst.sup = (twinS (alikeF c d)).fst.inst.sup ∧
 (twinS (alikeF c d)).fst.inst.arcs = (twinS (alikeF c d)).fst.inst.arcs ∧
 (twinS (alikeF c d)).fst.was.sup = (twinS (alikeF c d)).fst.was.sup ∧
 (twinS (alikeF c d)).fst.was.arcs = (twinS (alikeF c d)).fst.was.arcs ∧
 flowF (alikeF c d) e = flowF (alikeF c d) e ∧
 (True ∧ True ∧ True) ∧ (alikeF c d).sup = (alikeF c d).sup ∧ (alikeF c d).arcs = (alikeF c d).arcs ∧ True) ∧
 ∀ (g_1 : Nat × List Int × List Value × Nat),
 g_1.fst = g0.fst ∧ g_1.2.fst = g0.2.fst ∧ g_1.2.2.fst = g0.2.2.fst ∧ g_1.2.2.snd ≤ (grp (alikeF c d).arcs g_1.fst).length →
 ((0 : Int) ≤ (↑g_1.1 : Int) ∧ (↑g_1.1 : Int) < (TwinFlows_a3 c d)) ∧
 (↑g_1.1 : Int).toNat < (groupsF (alikeF c d).arcs).length ∧
 ∀ (x : List Int),
 (groupsF (alikeF c d).arcs)[(↑g_1.1 : Int).toNat]? = some x →
 (decide ((↑g_1.2.2.2 : Int) < (↑x.length : Int)) = true →
 ((0 : Int) ≤ (↑g_1.1 : Int) ∧ (↑g_1.1 : Int) < (TwinFlows_a3 c d)) ∧
 (↑g_1.1 : Int).toNat < (groupsF (alikeF c d).arcs).length ∧
 ∀ (x : List Int),
 (groupsF (alikeF c d).arcs)[(↑g_1.1 : Int).toNat]? = some x →
 ((0 : Int) ≤ (↑g_1.2.2.2 : Int) ∧ (↑g_1.2.2.2 : Int) < (↑x.length : Int)) ∧
 (↑g_1.2.2.2 : Int).toNat < x.length ∧
 ∀ (x_1 : Int),
 x[(↑g_1.2.2.2 : Int).toNat]? = some x_1 →
 ((0 : Int) ≤ x_1 ∧ x_1 < (↑(flowF (alikeF c d) e).length : Int)) ∧
 x_1.toNat < (flowF (alikeF c d) e).length ∧
 ∀ (x : Int),
 (flowF (alikeF c d) e)[x_1.toNat]? = some x →
 ∃ (g' : Nat × List Int × List Value × Nat),
 (g'.fst = g0.fst ∧
 g'.2.fst = g0.2.fst ∧
 g'.2.2.fst = g0.2.2.fst ∧ g'.2.2.snd ≤ (grp (alikeF c d).arcs g'.fst).length) ∧
 (grp (alikeF c d).arcs g'.fst).length - g'.2.2.snd <
 (grp (alikeF c d).arcs g_1.fst).length - g_1.2.2.snd ∧
 ((0 : Nat) = (0 : Nat) ∧
 True ∧
 (0 : Nat) = (0 : Nat) ∧
 True ∧
 True ∧
 True ∧
 (↑g_1.1 : Int) = (↑g'.1 : Int) ∧
 IntKind.i64.wrap
 (gsum (TwinFlows_a2 c d e)
 (List.take g_1.2.2.2 (grp (alikeF c d).arcs g_1.1)) +
 x) =
 gsum (TwinFlows_a2 c d e)
 (List.take g'.2.2.2 (grp (alikeF c d).arcs g'.1)) ∧
 IntKind.i64.wrap ((↑g_1.2.2.2 : Int) + (1 : Int)) = (↑g'.2.2.2 : Int) ∧ True) ∧
 g_1.2.1 = g'.2.1 ∧
 List.take g_1.1 (TwinFlows_a1 c d e) =
 List.take g'.1 (TwinFlows_a1 c d e) ∧
 (groupsF (alikeF c d).arcs = groupsF (alikeF c d).arcs ∧ g_1.2.2.1 = g'.2.2.1) ∧
 (TwinFlows_a0 c d) ∧
 (twinS (alikeF c d)).fst.inst.sup = (twinS (alikeF c d)).fst.inst.sup ∧
 (twinS (alikeF c d)).fst.inst.arcs = (twinS (alikeF c d)).fst.inst.arcs ∧
 (twinS (alikeF c d)).fst.was.sup = (twinS (alikeF c d)).fst.was.sup ∧
 (twinS (alikeF c d)).fst.was.arcs = (twinS (alikeF c d)).fst.was.arcs ∧
 flowF (alikeF c d) e = flowF (alikeF c d) e ∧
 (True ∧ True ∧ True) ∧
 (alikeF c d).sup = (alikeF c d).sup ∧
 (alikeF c d).arcs = (alikeF c d).arcs ∧ True) ∧
 (decide ((↑g_1.2.2.2 : Int) < (↑x.length : Int)) = false →
 (List.take g_1.1 (TwinFlows_a1 c d e)).length + (1 : Nat) ≤ (1000000000 : Nat) ∧
 ((0 : Int) ≤ (↑g_1.1 : Int) ∧ (↑g_1.1 : Int) < (TwinFlows_a3 c d)) ∧
 (↑g_1.1 : Int).toNat < (groupsF (alikeF c d).arcs).length ∧
 ∀ (x : List Int),
 (groupsF (alikeF c d).arcs)[(↑g_1.1 : Int).toNat]? = some x →
 (rightF (alikeF c d) = (0 : Int) ∧
 I64
 (gsum (TwinFlows_a2 c d e)
 (List.take g_1.2.2.2 (grp (alikeF c d).arcs g_1.1))) ∧
 x.length ≤ (1000000 : Nat)) ∧
 ∃ (g0 : Nat × List Int × List Value × Nat),
 ((g0.fst = g0.fst ∧
 g0.2.2.fst = g0.2.2.fst ∧
 SpreadTo (alikeF c d) (flowF (alikeF c d) e) g0.2.fst g0.fst ∧
 g0.2.2.snd ≤ (grp (alikeF c d).arcs g0.fst).length ∧
 PartOf (grp (alikeF c d).arcs g0.fst)
 ((spreadF (alikeF c d) (grp (alikeF c d).arcs g0.fst)
 (gsum (TwinFlows_a2 c d e)
 (grp (alikeF c d).arcs g0.fst))).getD
 [])
 g0.2.fst g0.2.2.snd) ∧
 ((0 : Nat) = (0 : Nat) ∧
 True ∧
 (0 : Nat) = (0 : Nat) ∧
 True ∧ True ∧ True ∧ (↑g_1.1 : Int) = (↑g0.1 : Int) ∧ True ∧ (0 : Int) = (↑g0.2.2.2 : Int) ∧ True) ∧
 (spreadF (alikeF c d) x
 (gsum (TwinFlows_a2 c d e)
 (List.take g_1.2.2.2 (grp (alikeF c d).arcs g_1.1)))).getD
 [] =
 (spreadF (alikeF c d) (grp (alikeF c d).arcs g0.1)
 (gsum (TwinFlows_a2 c d e)
 (grp (alikeF c d).arcs g0.1))).getD
 [] ∧
 List.take g_1.1 (TwinFlows_a1 c d e) ++
 [gsum (TwinFlows_a2 c d e)
 (List.take g_1.2.2.2 (grp (alikeF c d).arcs g_1.1))] =
 List.take (g0.1 + (1 : Nat)) (TwinFlows_a1 c d e) ∧
 g_1.2.1 = g0.2.1 ∧
 (groupsF (alikeF c d).arcs = groupsF (alikeF c d).arcs ∧ g_1.2.2.1 = g0.2.2.1) ∧
 (TwinFlows_a0 c d) ∧
 (twinS (alikeF c d)).fst.inst.sup = (twinS (alikeF c d)).fst.inst.sup ∧
 (twinS (alikeF c d)).fst.inst.arcs = (twinS (alikeF c d)).fst.inst.arcs ∧
 (twinS (alikeF c d)).fst.was.sup = (twinS (alikeF c d)).fst.was.sup ∧
 (twinS (alikeF c d)).fst.was.arcs = (twinS (alikeF c d)).fst.was.arcs ∧
 flowF (alikeF c d) e = flowF (alikeF c d) e ∧
 (True ∧ True ∧ True) ∧
 (alikeF c d).sup = (alikeF c d).sup ∧ (alikeF c d).arcs = (alikeF c d).arcs ∧ True) ∧
 ∀ (g_2 : Nat × List Int × List Value × Nat),
 g_2.fst = g0.fst ∧
 g_2.2.2.fst = g0.2.2.fst ∧
 SpreadTo (alikeF c d) (flowF (alikeF c d) e) g_2.2.fst g_2.fst ∧
 g_2.2.2.snd ≤ (grp (alikeF c d).arcs g_2.fst).length ∧
 PartOf (grp (alikeF c d).arcs g_2.fst)
 ((spreadF (alikeF c d) (grp (alikeF c d).arcs g_2.fst)
 (gsum (TwinFlows_a2 c d e)
 (grp (alikeF c d).arcs g_2.fst))).getD
 [])
 g_2.2.fst g_2.2.2.snd →
 ((0 : Int) ≤ (↑g_2.1 : Int) ∧
 (↑g_2.1 : Int) < (TwinFlows_a3 c d)) ∧
 (↑g_2.1 : Int).toNat < (groupsF (alikeF c d).arcs).length ∧
 ∀ (x : List Int),
 (groupsF (alikeF c d).arcs)[(↑g_2.1 : Int).toNat]? = some x →
 (decide ((↑g_2.2.2.2 : Int) < (↑x.length : Int)) = true →
 (decide
 ((↑g_2.2.2.2 : Int) <
 (↑((spreadF (alikeF c d) (grp (alikeF c d).arcs g_2.1)
 (gsum (TwinFlows_a2 c d e)
 (grp (alikeF c d).arcs g_2.1))).getD
 []).length :
 Int)) =
 true →
 ((0 : Int) ≤ (↑g_2.1 : Int) ∧
 (↑g_2.1 : Int) < (TwinFlows_a3 c d)) ∧
 (↑g_2.1 : Int).toNat < (groupsF (alikeF c d).arcs).length ∧
 ∀ (x : List Int),
 (groupsF (alikeF c d).arcs)[(↑g_2.1 : Int).toNat]? = some x →
 ((0 : Int) ≤ (↑g_2.2.2.2 : Int) ∧ (↑g_2.2.2.2 : Int) < (↑x.length : Int)) ∧
 (↑g_2.2.2.2 : Int).toNat < x.length ∧
 ∀ (x_1 : Int),
 x[(↑g_2.2.2.2 : Int).toNat]? = some x_1 →
 ((0 : Int) ≤ (↑g_2.2.2.2 : Int) ∧
 (↑g_2.2.2.2 : Int) <
 (↑((TwinFlows_a9 c d g_2 e).getD
 []).length :
 Int)) ∧
 (↑g_2.2.2.2 : Int).toNat <
 ((spreadF (alikeF c d) (grp (alikeF c d).arcs g_2.1)
 (gsum
 (TwinFlows_a2 c d e)
 (grp (alikeF c d).arcs g_2.1))).getD
 []).length ∧
 ∀ (x : Int),
 ((TwinFlows_a9 c d g_2 e).getD
 [])[(↑g_2.2.2.2 : Int).toNat]? =
 some x →
 ((0 : Int) ≤ x_1 ∧ x_1 < (↑g_2.2.1.length : Int)) ∧
 x_1.toNat < g_2.2.1.length ∧
 ∃ (g' : Nat × List Int × List Value × Nat),
 (g'.fst = g0.fst ∧
 g'.2.2.fst = g0.2.2.fst ∧
 SpreadTo (alikeF c d) (flowF (alikeF c d) e) g'.2.fst
 g'.fst ∧
 g'.2.2.snd ≤ (grp (alikeF c d).arcs g'.fst).length ∧
 PartOf (grp (alikeF c d).arcs g'.fst)
 ((spreadF (alikeF c d)
 (grp (alikeF c d).arcs g'.fst)
 (gsum
 (fun (i : Nat) =>
 (flowF (alikeF c d) e).getD i (0 : Int))
 (grp (alikeF c d).arcs g'.fst))).getD
 [])
 g'.2.fst g'.2.2.snd) ∧
 (grp (alikeF c d).arcs g'.fst).length - g'.2.2.snd <
 (grp (alikeF c d).arcs g_2.fst).length - g_2.2.2.snd ∧
 ((0 : Nat) = (0 : Nat) ∧
 True ∧
 (0 : Nat) = (0 : Nat) ∧
 True ∧
 True ∧
 True ∧
 (↑g_2.1 : Int) = (↑g'.1 : Int) ∧
 True ∧
 IntKind.i64.wrap
 ((↑g_2.2.2.2 : Int) + (1 : Int)) =
 (↑g'.2.2.2 : Int) ∧
 True) ∧
 (TwinFlows_a9 c d g_2 e).getD
 [] =
 (spreadF (alikeF c d) (grp (alikeF c d).arcs g'.1)
 (gsum
 (fun (i : Nat) =>
 (flowF (alikeF c d) e).getD i (0 : Int))
 (grp (alikeF c d).arcs g'.1))).getD
 [] ∧
 List.take (g_2.1 + (1 : Nat))
 (TwinFlows_a1 c d e) =
 List.take (g'.1 + (1 : Nat))
 (TwinFlows_a1 c d e) ∧
 g_2.2.1.set x_1.toNat x = g'.2.1 ∧
 (groupsF (alikeF c d).arcs =
 groupsF (alikeF c d).arcs ∧
 g_2.2.2.1 = g'.2.2.1) ∧
 (True ∧
 True ∧
 (twinS (alikeF c d)).fst.pass =
 (twinS (alikeF c d)).fst.pass ∧
 True ∧
 True ∧
 (twinS (alikeF c d)).fst.off.hi =
 (twinS
 (alikeF c
 d)).fst.off.hi ∧
 (twinS (alikeF c d)).fst.off.lo =
 (twinS
 (alikeF c
 d)).fst.off.lo ∧
 (twinS (alikeF c d)).fst.did =
 (twinS
 (alikeF c
 d)).fst.did ∧
 True) ∧
 (twinS (alikeF c d)).fst.inst.sup =
 (twinS (alikeF c d)).fst.inst.sup ∧
 (twinS (alikeF c d)).fst.inst.arcs =
 (twinS (alikeF c d)).fst.inst.arcs ∧
 (twinS (alikeF c d)).fst.was.sup =
 (twinS (alikeF c d)).fst.was.sup ∧
 (twinS (alikeF c d)).fst.was.arcs =
 (twinS (alikeF c d)).fst.was.arcs ∧
 flowF (alikeF c d) e =
 flowF (alikeF c d) e ∧
 (True ∧ True ∧ True) ∧
 (alikeF c d).sup =
 (alikeF c d).sup ∧
 (alikeF c d).arcs =
 (alikeF c d).arcs ∧
 True) ∧
 (decide
 ((↑g_2.2.2.2 : Int) <
 (↑((spreadF (alikeF c d) (grp (alikeF c d).arcs g_2.1)
 (gsum (TwinFlows_a2 c d e)
 (grp (alikeF c d).arcs g_2.1))).getD
 []).length :
 Int)) =
 false →
 ∃ (g' : Nat × List Int × List Value),
 (g'.fst ≤ (groupsF (alikeF c d).arcs).length ∧
 SpreadTo (alikeF c d) (flowF (alikeF c d) e) g'.2.fst g'.fst) ∧
 (groupsF (alikeF c d).arcs).length - g'.fst <
 (groupsF (alikeF c d).arcs).length - g.fst ∧
 ((0 : Nat) = (0 : Nat) ∧
 True ∧
 (0 : Nat) = (0 : Nat) ∧
 True ∧
 True ∧
 True ∧
 IntKind.i64.wrap ((↑g_2.1 : Int) + (1 : Int)) = (↑g'.1 : Int) ∧ True) ∧
 g_2.2.1 = g'.2.1 ∧
 List.take (g_2.1 + (1 : Nat)) (TwinFlows_a1 c d e) =
 List.take g'.1 (TwinFlows_a1 c d e) ∧
 (groupsF (alikeF c d).arcs = groupsF (alikeF c d).arcs ∧ g_2.2.2.1 = g'.2.2) ∧
 (True ∧
 True ∧
 (twinS (alikeF c d)).fst.pass = (twinS (alikeF c d)).fst.pass ∧
 True ∧
 True ∧
 (twinS (alikeF c d)).fst.off.hi =
 (twinS (alikeF c d)).fst.off.hi ∧
 (twinS (alikeF c d)).fst.off.lo =
 (twinS (alikeF c d)).fst.off.lo ∧
 (twinS (alikeF c d)).fst.did = (twinS (alikeF c d)).fst.did ∧
 True) ∧
 (twinS (alikeF c d)).fst.inst.sup = (twinS (alikeF c d)).fst.inst.sup ∧
 (twinS (alikeF c d)).fst.inst.arcs = (twinS (alikeF c d)).fst.inst.arcs ∧
 (twinS (alikeF c d)).fst.was.sup = (twinS (alikeF c d)).fst.was.sup ∧
 (twinS (alikeF c d)).fst.was.arcs =
 (twinS (alikeF c d)).fst.was.arcs ∧
 flowF (alikeF c d) e = flowF (alikeF c d) e ∧
 (True ∧ True ∧ True) ∧
 (alikeF c d).sup = (alikeF c d).sup ∧
 (alikeF c d).arcs = (alikeF c d).arcs ∧ True)) ∧
 (decide ((↑g_2.2.2.2 : Int) < (↑x.length : Int)) = false →
 ∃ (g' : Nat × List Int × List Value),
 (g'.fst ≤ (groupsF (alikeF c d).arcs).length ∧
 SpreadTo (alikeF c d) (flowF (alikeF c d) e) g'.2.fst g'.fst) ∧
 (groupsF (alikeF c d).arcs).length - g'.fst < (groupsF (alikeF c d).arcs).length - g.fst ∧
 ((0 : Nat) = (0 : Nat) ∧
 True ∧
 (0 : Nat) = (0 : Nat) ∧
 True ∧
 True ∧
 True ∧ IntKind.i64.wrap ((↑g_2.1 : Int) + (1 : Int)) = (↑g'.1 : Int) ∧ True) ∧
 g_2.2.1 = g'.2.1 ∧
 List.take (g_2.1 + (1 : Nat)) (TwinFlows_a1 c d e) =
 List.take g'.1 (TwinFlows_a1 c d e) ∧
 (groupsF (alikeF c d).arcs = groupsF (alikeF c d).arcs ∧ g_2.2.2.1 = g'.2.2) ∧
 (True ∧
 True ∧
 (twinS (alikeF c d)).fst.pass = (twinS (alikeF c d)).fst.pass ∧
 True ∧
 True ∧
 (twinS (alikeF c d)).fst.off.hi = (twinS (alikeF c d)).fst.off.hi ∧
 (twinS (alikeF c d)).fst.off.lo = (twinS (alikeF c d)).fst.off.lo ∧
 (twinS (alikeF c d)).fst.did = (twinS (alikeF c d)).fst.did ∧
 True) ∧
 (twinS (alikeF c d)).fst.inst.sup = (twinS (alikeF c d)).fst.inst.sup ∧
 (twinS (alikeF c d)).fst.inst.arcs = (twinS (alikeF c d)).fst.inst.arcs ∧
 (twinS (alikeF c d)).fst.was.sup = (twinS (alikeF c d)).fst.was.sup ∧
 (twinS (alikeF c d)).fst.was.arcs = (twinS (alikeF c d)).fst.was.arcs ∧
 flowF (alikeF c d) e = flowF (alikeF c d) e ∧
 (True ∧ True ∧ True) ∧
 (alikeF c d).sup = (alikeF c d).sup ∧
 (alikeF c d).arcs = (alikeF c d).arcs ∧ True))) ∧
 (decide ((↑g.1 : Int) < (TwinFlows_a3 c d)) = false →
 True ∧
 (true = true →
 ((alikeF c d).sup.length ≤ (10000 : Nat) ∧ (alikeF c d).arcs.length ≤ (10000 : Nat) ∧ A64 (flowF (alikeF c d) e) ∧ A64 (alikeF c d).sup) ∧
 ((fitsF (alikeF c d) (flowF (alikeF c d) e) != (0 : Int)) = true →
 (TwinFlows_a4 c d g e) ∧
 ((alikeF c d).sup.length ≤ (10000 : Nat) ∧ (alikeF c d).arcs.length ≤ (10000 : Nat) ∧ A64 g.2.1 ∧ A64 (alikeF c d).sup) ∧
 ((TwinFlows_a5 c d g e) =
 true →
 (TwinFlows_a8 c d e) ∧
 (A64 (List.take g.1 (TwinFlows_a1 c d e)) ∧
 A64c (twinS (alikeF c d)).fst.inst.arcs ∧ (twinS (alikeF c d)).fst.inst.arcs.length ≤ (1000000 : Nat)) ∧
 (decide
 ([(TwinFlows_a6 c d e).hi, (TwinFlows_a6 c d e).lo] =
 [(TwinFlows_a7 c d g e).hi,
 (TwinFlows_a7 c d g e).lo]) =
 true →
 (A64 g.2.1 ∧ A64c (alikeF c d).arcs ∧ (alikeF c d).arcs.length ≤ (1000000 : Nat)) ∧
 (TwinFlows_a8 c d e) ∧
 (decide
 ([(W (costF (alikeF c d) g.2.1)).hi, (W (costF (alikeF c d) g.2.1)).lo] =
 [(TwinFlows_a6 c d e).hi,
 (TwinFlows_a6 c d e).lo]) =
 true ∧
 True) ∧
 True) ∧
 (decide
 ([(TwinFlows_a6 c d e).hi, (TwinFlows_a6 c d e).lo] =
 [(TwinFlows_a7 c d g e).hi,
 (TwinFlows_a7 c d g e).lo]) =
 false →
 (false = true ∧ True) ∧ True)) ∧
 ((TwinFlows_a5 c d g e) =
 false →
 (false = true ∧ True) ∧ True)) ∧
 ((fitsF (alikeF c d) (flowF (alikeF c d) e) != (0 : Int)) = false →
 (TwinFlows_a4 c d g e) ∧
 ((fitsF (twinS (alikeF c d)).fst.inst (List.take g.1 (TwinFlows_a1 c d e)) == (0 : Int)) = true →
 (TwinFlows_a4 c d g e) ∧
 ((alikeF c d).sup.length ≤ (10000 : Nat) ∧ (alikeF c d).arcs.length ≤ (10000 : Nat) ∧ A64 g.2.1 ∧ A64 (alikeF c d).sup) ∧
 ((TwinFlows_a5 c d g e) =
 true →
 (TwinFlows_a8 c d e) ∧
 (A64 (List.take g.1 (TwinFlows_a1 c d e)) ∧
 A64c (twinS (alikeF c d)).fst.inst.arcs ∧ (twinS (alikeF c d)).fst.inst.arcs.length ≤ (1000000 : Nat)) ∧
 (decide
 ([(TwinFlows_a6 c d e).hi, (TwinFlows_a6 c d e).lo] =
 [(TwinFlows_a7 c d g e).hi,
 (W
 (costF (twinS (alikeF c d)).fst.inst
 (List.take g.1 (TwinFlows_a1 c d e)))).lo]) =
 true →
 (A64 g.2.1 ∧ A64c (alikeF c d).arcs ∧ (alikeF c d).arcs.length ≤ (1000000 : Nat)) ∧
 (TwinFlows_a8 c d e) ∧
 (decide
 ([(W (costF (alikeF c d) g.2.1)).hi, (W (costF (alikeF c d) g.2.1)).lo] =
 [(TwinFlows_a6 c d e).hi,
 (TwinFlows_a6 c d e).lo]) =
 true ∧
 True) ∧
 True) ∧
 (decide
 ([(TwinFlows_a6 c d e).hi, (TwinFlows_a6 c d e).lo] =
 [(TwinFlows_a7 c d g e).hi,
 (W
 (costF (twinS (alikeF c d)).fst.inst
 (List.take g.1 (TwinFlows_a1 c d e)))).lo]) =
 false →
 (false = true ∧ True) ∧ True)) ∧
 ((TwinFlows_a5 c d g e) =
 false →
 (false = true ∧ True) ∧ True)) ∧
 ((fitsF (twinS (alikeF c d)).fst.inst (List.take g.1 (TwinFlows_a1 c d e)) == (0 : Int)) = false →
 (false = true ∧ True) ∧ True))) ∧
 (true = false → (false = true ∧ True) ∧ True))))
theorem TwinFlows_q (c : List Int) (d : List Int) (e : List Int) (ty0 ty1 ty2 : TypeId) : TwinFlows_E0 c d e ty0 ty1 ty2 = FVcP TT TwinFlows_g (TwinFlows_I c d e) (TwinFlows_an c d e) Try.f14 [.row 0, .row 1, .row 2] [(0, .row false ty0 (.ints .u8 c)), (1, .row false ty1 (.ints .u8 d)), (2, .row false ty2 (.ints .u8 e))] (TwinFlows_r c d e) := by kernel_rfl
theorem TwinFlows_E (c : List Int) (d : List Int) (e : List Int) (ty0 ty1 ty2 : TypeId) (hp : Bytes c ∧ Bytes d ∧ c.length ≤ maxLen ∧ d.length ≤ maxLen ∧ Bytes e ∧ e.length ≤ maxLen) : FVc TT TwinFlows_g (TwinFlows_I c d e) (TwinFlows_an c d e) Try.f14 [.row 0, .row 1, .row 2] [(0, .row false ty0 (.ints .u8 c)), (1, .row false ty1 (.ints .u8 d)), (2, .row false ty2 (.ints .u8 e))] (TwinFlows_r c d e) := by
  refine FVc.of (TwinFlows_E0 c d e ty0 ty1 ty2) (TwinFlows_q c d e ty0 ty1 ty2) ?_
  unfold TwinFlows_E0
  delta TwinFlows_a9 TwinFlows_a8 TwinFlows_a7 TwinFlows_a6 TwinFlows_a5 TwinFlows_a4 TwinFlows_a3 TwinFlows_a2 TwinFlows_a1 TwinFlows_a0
  obtain ⟨b1, b2, b3, b4, b5, b6⟩ := hp
  obtain ⟨o1, o2, o3, o4, o5⟩ := alikeF_all c d
  generalize alikeF c d = J at *
  have hT := twin_right o1 o4 o3 o5
  obtain ⟨t1, t2, -, -⟩ := twinS_eq o1 hT
  have tl : (twinI J).arcs.length = (groupsF J.arcs).length := by rw [twinI_eq o1, groupsF_len]; dsimp only; rw [List.length_map]
  have ts : (twinI J).sup = J.sup := by rw [twinI_eq o1]
  have hX := flow_few o4 e
  have hXl := flowF_len J e
  obtain ⟨a1, a2, a3, a4⟩ := right_A64 o1
  obtain ⟨d1, d2, d3, d4⟩ := right_A64 hT
  have r1 := right_small o1
  have r2 := right_small hT
  have hG := groupsF_len J.arcs
  have hF := firsts_len J.arcs J.arcs.length
  generalize flowF J e = X at *
  rw [t2]
  simp only [eq_self, exists_const, forall_const, decide_eq_true_eq, decide_eq_false_iff_not, and_true, true_and, bne_iff_ne, ne_eq, bne_eq_false_iff_eq, Int.toNat_natCast, Bool.not_eq_true', Bool.not_eq_false', beq_iff_eq, beq_eq_false_iff_ne, nilEq_true]
  simp only [DK.len]
  have hw : ∀ j : Nat, j ≤ 1000000 → IntKind.i64.wrap ((j : Int) + 1) = ((j + 1 : Nat) : Int) := fun j hj => by rw [w64 (by omega) (by omega)]; omega
  refine ⟨⟨b1, b2, b3, b4⟩, ⟨b5, by omega, a4⟩, ⟨by omega, by omega⟩, by omega, fun V => ⟨fun h => absurd t1 h, fun _ => ⟨fun h => absurd (by rw [tl]) h, fun _ => ⟨⟨by omega, by omega⟩, (0, List.replicate X.length 0, V 0), ⟨⟨Nat.zero_le _, by simp [hXl], fun y hy => by rw [(List.mem_replicate.1 hy).2]; exact ⟨by omega, by omega⟩, fun i p hi => absurd hi (Nat.not_lt_zero _)⟩, rfl, rfl, rfl, rfl⟩, fun g hg => ?_⟩⟩⟩⟩
  obtain ⟨k, z, vs⟩ := g
  dsimp only at hg ⊢
  obtain ⟨hk, hS⟩ := hg
  refine ⟨fun h1 => ?_, fun h1 => ?_⟩
  · have hkl : k < (groupsF J.arcs).length := by omega
    have hgk : (groupsF J.arcs)[k]? = some (grp J.arcs k) := by unfold grp; rw [List.getD_eq_getElem?_getD, List.getElem?_eq_getElem hkl]; rfl
    obtain ⟨p, hp, hpl, hf, he, r, hgr⟩ := grp_at hkl
    have hgl : (grp J.arcs k).length ≤ 18 := by rw [he]; have := memsK_len J.arcs p J.arcs.length; omega
    have mem : ∀ v ∈ grp J.arcs k, 0 ≤ v ∧ v.toNat < J.arcs.length := fun v hv => by rw [he] at hv; exact ⟨(mem_like hv).1, (mem_like hv).2.1⟩
    have hbd : ∀ j, 0 ≤ gsum (fun i => X.getD i 0) ((grp J.arcs k).take j) ∧ gsum (fun i => X.getD i 0) ((grp J.arcs k).take j) ≤ 700 := fun j => sumsG_bd (I := J) hX _ (by rw [List.length_take]; omega)
    have hni : NiceAt J (grp J.arcs k) := by rw [he]; exact grp_nice o4 p
    have hat := sumsG_at (x := X) hkl
    have hbd0 := sumsG_bd (I := J) hX (grp J.arcs k) (by omega)
    obtain ⟨l, hl1, hl2, hl3, hl4, -⟩ := spreadF_some hni (by rw [hgr]; simp) (by omega) (n := gsum (fun i => X.getD i 0) (grp J.arcs k)) (by omega) (by omega)
    refine ⟨(k, z, vs, 0), ⟨Nat.zero_le _, ⟨rfl, rfl, rfl⟩, rfl, rfl, rfl⟩, fun g hg1 => ?_⟩
    obtain ⟨k1, z1, vs1, j⟩ := g
    dsimp only at hg1 ⊢
    obtain ⟨rfl, rfl, rfl, hj⟩ := hg1
    simp only [hgk, Option.some.injEq, forall_eq']
    refine ⟨by omega, hkl, fun h2 => ⟨by omega, hkl, by omega, by omega, fun u hu => ?_⟩, fun h2 => ?_⟩
    · obtain ⟨u0, u1⟩ := mem u (List.mem_of_getElem? hu)
      refine ⟨by omega, by omega, fun y hy => ⟨(k1, z1, vs1, j + 1), ⟨rfl, rfl, rfl, by dsimp only; omega⟩, by dsimp only; omega, ⟨rfl, ?_, hw j (by omega)⟩, rfl, rfl, rfl⟩⟩
      have e1 : X.getD u.toNat 0 = y := by rw [List.getD_eq_getElem?_getD, hy]; rfl
      have e2 : gsum (fun i => X.getD i 0) ((grp J.arcs k1).take (j + 1)) = gsum (fun i => X.getD i 0) ((grp J.arcs k1).take j) + y := by rw [take_get hu, gsum_snoc, e1]
      have := hbd (j + 1)
      rw [e2] at this
      dsimp only
      rw [e2]; exact w64 (by omega) (by omega)
    · rw [List.take_of_length_le (show (grp J.arcs k1).length ≤ j by omega)]
      simp only [hl1, Option.getD_some]
      refine ⟨by rw [List.length_take, sumsG_len]; omega, by omega, hkl, ⟨o1, ⟨by omega, by omega⟩, by omega⟩, (k1, z1, vs1, 0), ⟨⟨hS, Nat.zero_le _, fun t ht => absurd ht (Nat.not_lt_zero _)⟩, ⟨rfl, rfl⟩, by dsimp only; rw [hl1]; rfl, (take_get hat).symm, rfl, rfl⟩, fun g hg2 => ?_⟩
      obtain ⟨k2, z2, vs2, j2⟩ := g
      dsimp only at hg2 ⊢
      obtain ⟨rfl, rfl, hS2, hj2, hP⟩ := hg2
      simp only [hl1, Option.getD_some] at hP
      simp only [hgk, hl1, Option.getD_some, Option.some.injEq, forall_eq']
      refine ⟨by omega, hkl, fun h3 => ⟨fun h4 => ⟨by omega, hkl, by omega, by omega, fun u hu => ?_⟩, fun h4 => absurd h3 (by omega)⟩, fun h3 => ?_⟩
      · obtain ⟨u0, u1⟩ := mem u (List.mem_of_getElem? hu)
        have hz2 := hS2.1
        refine ⟨by omega, by omega, fun y hy => ⟨by omega, by omega, (k2, z2.set u.toNat y, vs2, j2 + 1), ⟨rfl, rfl, spreadTo_set hS2 hp (by rw [Int.toNat_of_nonneg u0, ← he]; exact List.mem_of_getElem? hu) (by have := hl4 y (List.mem_of_getElem? hy); exact ⟨by omega, by omega⟩), by dsimp only; omega, ?_⟩, by dsimp only; omega, ⟨rfl, hw j2 (by omega)⟩, by dsimp only; rw [hl1]; rfl, rfl, rfl, rfl⟩⟩
        dsimp only
        rw [hl1, Option.getD_some]
        exact partOf_set (by rw [he]; exact memsK_nodup _ _ _) (fun v hv => by rw [hz2]; exact mem v hv) hP hu hy
      · have ej2 : j2 = (grp J.arcs k2).length := by omega
        subst ej2
        exact ⟨(k2 + 1, z2, vs2), ⟨by dsimp only; omega, spreadTo_succ hS2 hp (by rw [← he]; exact hl1) (by rw [← he]; exact hP)⟩, by dsimp only; omega, hw k2 (by omega), rfl, rfl, rfl⟩
  · have ek : k = (groupsF J.arcs).length := by omega
    subst ek
    have htk : List.take (groupsF J.arcs).length (sumsG J X) = sumsG J X := List.take_of_length_le (by rw [sumsG_len]; omega)
    rw [htk]
    obtain ⟨f1, f2, f3, f4⟩ := twin_flows o1 o4 o3 o5 hX hXl hS.1 (fun p hp => by
      obtain ⟨i, hi⟩ := List.mem_iff_getElem?.1 hp
      exact hS.2.2 i p (by have := (List.getElem?_eq_some_iff.1 hi).1; omega) hi)
    have hsA : A64 (sumsG J X) := fun y hy => by
      unfold sumsG at hy
      obtain ⟨p, hp, rfl⟩ := List.mem_map.1 hy
      have := sumsG_bd (I := J) hX (memsK J.arcs p J.arcs.length) (by have := memsK_len J.arcs p J.arcs.length; omega)
      exact ⟨by omega, by omega⟩
    have hXA := hX.a64
    have P1 : J.sup.length ≤ 10000 ∧ J.arcs.length ≤ 10000 ∧ A64 X ∧ A64 J.sup := ⟨by omega, by omega, hXA, a3⟩
    have P2 : (twinI J).sup.length ≤ 10000 ∧ (twinI J).arcs.length ≤ 10000 ∧ A64 (sumsG J X) ∧ A64 (twinI J).sup := ⟨by omega, by omega, hsA, d3⟩
    have P3 : J.sup.length ≤ 10000 ∧ J.arcs.length ≤ 10000 ∧ A64 z ∧ A64 J.sup := ⟨by omega, by omega, hS.2.1, a3⟩
    have P4 : A64 X ∧ A64c J.arcs ∧ J.arcs.length ≤ 1000000 := ⟨hXA, a2, by omega⟩
    have P5 : A64 (sumsG J X) ∧ A64c (twinI J).arcs ∧ (twinI J).arcs.length ≤ 1000000 := ⟨hsA, d2, by omega⟩
    have P6 : A64 z ∧ A64c J.arcs ∧ J.arcs.length ≤ 1000000 := ⟨hS.2.1, a2, by omega⟩
    have P7 : (fitsF (twinI J) (sumsG J X) == 0) = (fitsF J z == 0) := by rw [Bool.eq_iff_iff, beq_iff_eq, beq_iff_eq]; exact f2
    refine ⟨⟨P1, fun _ => ⟨P2, P3, fun _ => ⟨P4, P5, fun _ => ⟨P6, P4, by rw [f4]⟩, fun h => absurd (by rw [f3]) h⟩, fun h => absurd P7 h⟩, fun h0 => ⟨P2, fun _ => ⟨P2, P3, fun _ => ⟨P4, P5, fun _ => ⟨P6, P4, by rw [f4]⟩, fun h => absurd (by rw [f3]) h⟩, fun h => absurd P7 h⟩, fun h => absurd (f1 h0) h⟩⟩, fun h => by cases h⟩
theorem TwinFlows_ok : SpecOk Try.prog TwinFlows_n true (specOf true TwinFlows_fs) :=
  spec_ok' TT_ok (show GsOk Try.prog TwinFlows_g from gsOk_cons Alike_ok (gsOk_cons known16_ok (gsOk_cons Twin_ok (gsOk_cons Groups_ok (gsOk_cons Flow_ok (gsOk_cons Fits_ok (gsOk_cons Cost_ok (gsOk_cons Spread_ok (gsOk_nil))))))))) (by kernel_rfl) mixedOrders Try.func14 rfl rfl (by kernel_rfl) (n := 3) (by decide +kernel) (I := TwinFlows_IA) (fun _ _ => isOk_nil) (A := TwinFlows_A)
    (fun args h r hr => by
      unfold TwinFlows_fs at hr
      split at hr
      · rename_i ty0 c ty1 d ty2 e; cases hr; refine ⟨rfl, fun hp => ?_⟩; have hE := TwinFlows_E c d e ty0 ty1 ty2 hp; exact hE
      · cases hr)
end Go.Proofs.Ytnjcklhgdpgllaa
