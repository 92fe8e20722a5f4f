/- Part of the proof, FBTwinSums. -/
import Derived.Test.YtnjcklhgdpgllaaZFT16
import Derived.Test.YtnjcklhgdpgllaaZDBTwinSums
import Derived.Test.YtnjcklhgdpgllaaZVc11
set_option linter.unusedVariables false
set_option linter.all false
set_option linter.unusedSimpArgs false
set_option maxRecDepth 100000
namespace Go.Proofs.Ytnjcklhgdpgllaa
open Go Go.RowKit Go.Ql Go.Vc
abbrev TwinSums_a0 (c : List Int) (d : List Int) (g : List Int × Nat) (n : Int) := (spreadF (alikeF c d) g.1 (IntKind.i64.wrap (n.tmod (40 : Int))))
abbrev TwinSums_a1 (c : List Int) (d : List Int) (g' : List Int × Nat) (n : Int) := ((spreadF (alikeF c d) g'.1
 (IntKind.i64.wrap (n.tmod (40 : Int)))).getD
 [])
abbrev TwinSums_a2 (c : List Int) (d : List Int) (g' : List Int × Nat) (n : Int) := (spreadF (alikeF c d) g'.1 (IntKind.i64.wrap (n.tmod (40 : Int))))
abbrev TwinSums_a3 (c : List Int) (d : List Int) := (↑(DK.ints IntKind.i64 (groupsF (alikeF c d).arcs)).len : Int)
abbrev TwinSums_a4 (c : List Int) (d : List Int) (g : List Int × Nat) (n : Int) (x : Int) := (sumTo
 (fun (i : Nat) =>
 ((spreadF (alikeF c d) g.1
 (IntKind.i64.wrap (n.tmod (40 : Int)))).getD
 []).getD
 i (0 : Int))
 g.2 +
 x)
abbrev TwinSums_a5 (c : List Int) (d : List Int) (g' : List Int × Nat) (n : Int) := (fun (i : Nat) =>
 (TwinSums_a1 c d g' n).getD
 i (0 : Int))
abbrev TwinSums_a6 (g' : List Int × Nat) (g0 : List Int × Nat) := (g'.fst = g0.fst ∧ g'.snd ≤ g'.fst.length)
abbrev TwinSums_a7 (c : List Int) (d : List Int) (x : List Int) (n : Int) := (spreadF (alikeF c d) x (IntKind.i64.wrap (n.tmod (40 : Int))))
abbrev TwinSums_a8 (x_1 : Arc) := (x_1.cap == (4611686018427387904 : Int))
def TwinSums_E0 (c : List Int) (d : List Int) (n : Int) (k : Int) (ty0 ty1 : TypeId) : Prop :=
      (Bytes c ∧ Bytes d ∧ c.length ≤ maxLen ∧ d.length ≤ maxLen) ∧
 (alikeF c d).arcs.length ≤ (1000000 : Nat) ∧
 ∀ (V : Nat → List Value),
 (((TwinSums_a3 c d) == (0 : Int)) = true → True ∧ (true = true ∧ True) ∧ True) ∧
 (((TwinSums_a3 c d) == (0 : Int)) = false →
 (TwinSums_a3 c d) ≠ (0 : Int) ∧
 ((0 : Int) ≤ (IntKind.i64.wrap k).tmod (TwinSums_a3 c d) ∧
 (IntKind.i64.wrap k).tmod (TwinSums_a3 c d) < (TwinSums_a3 c d)) ∧
 ((IntKind.i64.wrap k).tmod (TwinSums_a3 c d)).toNat < (groupsF (alikeF c d).arcs).length ∧
 ∀ (x : List Int),
 (groupsF (alikeF c d).arcs)[((IntKind.i64.wrap k).tmod (TwinSums_a3 c d)).toNat]? = some x →
 (40 : Int) ≠ (0 : Int) ∧
 (rightF (alikeF c d) = (0 : Int) ∧ I64 (IntKind.i64.wrap (n.tmod (40 : Int))) ∧ x.length ≤ (1000000 : Nat)) ∧
 ((!(TwinSums_a7 c d x n).isSome) = true → (false = true ∧ True) ∧ True) ∧
 ((!(TwinSums_a7 c d x n).isSome) = false →
 (((↑((TwinSums_a7 c d x n).getD []).length : Int) != (↑x.length : Int)) = true →
 (false = true ∧ True) ∧ True) ∧
 (((↑((TwinSums_a7 c d x n).getD []).length : Int) != (↑x.length : Int)) = false →
 ∃ (g0 : List Int × Nat),
 ((g0.fst = g0.fst ∧ g0.snd ≤ g0.fst.length) ∧
 ((0 : Nat) = (0 : Nat) ∧
 True ∧
 IntKind.i64.wrap (n.tmod (40 : Int)) = IntKind.i64.wrap (n.tmod (40 : Int)) ∧
 True ∧
 (0 : Int) =
 sumTo (fun (i : Nat) => ((spreadF (alikeF c d) g0.1 (IntKind.i64.wrap (n.tmod (40 : Int)))).getD []).getD i (0 : Int)) g0.2 ∧
 (0 : Int) = lowT (alikeF c d) g0.1 g0.2 ∧
 (0 : Int) = topT (alikeF c d) g0.1 g0.2 ∧
 false = infT (alikeF c d) g0.1 g0.2 ∧
 true = fitT (alikeF c d) g0.1 ((spreadF (alikeF c d) g0.1 (IntKind.i64.wrap (n.tmod (40 : Int)))).getD []) g0.2 ∧
 (0 : Int) = (↑g0.2 : Int) ∧ True) ∧
 (TwinSums_a7 c d x n).getD [] =
 (spreadF (alikeF c d) g0.1 (IntKind.i64.wrap (n.tmod (40 : Int)))).getD [] ∧
 x = g0.1 ∧ (True ∧ True ∧ True) ∧ (alikeF c d).sup = (alikeF c d).sup ∧ (alikeF c d).arcs = (alikeF c d).arcs ∧ True) ∧
 ∀ (g : List Int × Nat),
 g.fst = g0.fst ∧ g.snd ≤ g.fst.length →
 (decide ((↑g.2 : Int) < (↑g.1.length : Int)) = true →
 ((0 : Int) ≤ (↑g.2 : Int) ∧ (↑g.2 : Int) < (↑g.1.length : Int)) ∧
 (↑g.2 : Int).toNat < g.1.length ∧
 ∀ (x : Int),
 g.1[(↑g.2 : Int).toNat]? = some x →
 ((0 : Int) ≤ x ∧ x < (↑(alikeF c d).arcs.length : Int)) ∧
 x.toNat < (alikeF c d).arcs.length ∧
 ∀ (x_1 : Arc),
 (alikeF c d).arcs[x.toNat]? = some x_1 →
 ((0 : Int) ≤ (↑g.2 : Int) ∧
 (↑g.2 : Int) < (↑((TwinSums_a0 c d g n).getD []).length : Int)) ∧
 (↑g.2 : Int).toNat < ((TwinSums_a0 c d g n).getD []).length ∧
 ∀ (x : Int),
 ((TwinSums_a0 c d g n).getD [])[(↑g.2 : Int).toNat]? = some x →
 ((TwinSums_a8 x_1) = true →
 (fitT (alikeF c d) g.1 ((TwinSums_a0 c d g n).getD []) g.2 =
 true →
 ((0 : Int) ≤ (↑g.2 : Int) ∧
 (↑g.2 : Int) <
 (↑((TwinSums_a0 c d g n).getD []).length : Int)) ∧
 (↑g.2 : Int).toNat <
 ((TwinSums_a0 c d g n).getD []).length ∧
 ∀ (x_2 : Int),
 ((TwinSums_a0 c d g n).getD [])[(↑g.2 : Int).toNat]? =
 some x_2 →
 (decide (x_2 ≥ x_1.low) = true →
 ((TwinSums_a8 x_1) = true →
 ∃ (g' : List Int × Nat),
 (TwinSums_a6 g' g0) ∧
 g'.fst.length - g'.snd < g.fst.length - g.snd ∧
 ((0 : Nat) = (0 : Nat) ∧
 True ∧
 IntKind.i64.wrap (n.tmod (40 : Int)) =
 IntKind.i64.wrap (n.tmod (40 : Int)) ∧
 True ∧
 IntKind.i64.wrap
 (TwinSums_a4 c d g n x) =
 sumTo
 (TwinSums_a5 c d g' n)
 g'.2 ∧
 IntKind.i64.wrap (lowT (alikeF c d) g.1 g.2 + x_1.low) =
 lowT (alikeF c d) g'.1 g'.2 ∧
 topT (alikeF c d) g.1 g.2 = topT (alikeF c d) g'.1 g'.2 ∧
 true = infT (alikeF c d) g'.1 g'.2 ∧
 true =
 fitT (alikeF c d) g'.1
 (TwinSums_a1 c d g' n)
 g'.2 ∧
 IntKind.i64.wrap ((↑g.2 : Int) + (1 : Int)) = (↑g'.2 : Int) ∧
 True) ∧
 (TwinSums_a0 c d g n).getD [] =
 (TwinSums_a2 c d g' n).getD [] ∧
 g.1 = g'.1 ∧
 (True ∧ True ∧ True) ∧
 (alikeF c d).sup = (alikeF c d).sup ∧
 (alikeF c d).arcs = (alikeF c d).arcs ∧ True) ∧
 ((TwinSums_a8 x_1) = false →
 ((0 : Int) ≤ (↑g.2 : Int) ∧
 (↑g.2 : Int) <
 (↑((TwinSums_a0 c d g n).getD
 []).length :
 Int)) ∧
 (↑g.2 : Int).toNat <
 ((TwinSums_a0 c d g n).getD
 []).length ∧
 ∀ (x_3 : Int),
 ((TwinSums_a0 c d g n).getD
 [])[(↑g.2 : Int).toNat]? =
 some x_3 →
 ∃ (g' : List Int × Nat),
 (TwinSums_a6 g' g0) ∧
 g'.fst.length - g'.snd < g.fst.length - g.snd ∧
 ((0 : Nat) = (0 : Nat) ∧
 True ∧
 IntKind.i64.wrap (n.tmod (40 : Int)) =
 IntKind.i64.wrap (n.tmod (40 : Int)) ∧
 True ∧
 IntKind.i64.wrap
 (sumTo
 (fun (i : Nat) =>
 ((spreadF (alikeF c d) g.1
 (IntKind.i64.wrap
 (n.tmod (40 : Int)))).getD
 []).getD
 i (0 : Int))
 g.2 +
 x) =
 sumTo
 (TwinSums_a5 c d g' n)
 g'.2 ∧
 IntKind.i64.wrap (lowT (alikeF c d) g.1 g.2 + x_1.low) =
 lowT (alikeF c d) g'.1 g'.2 ∧
 topT (alikeF c d) g.1 g.2 = topT (alikeF c d) g'.1 g'.2 ∧
 true = infT (alikeF c d) g'.1 g'.2 ∧
 decide (x_3 ≤ x_1.cap) =
 fitT (alikeF c d) g'.1
 (TwinSums_a1 c d g' n)
 g'.2 ∧
 IntKind.i64.wrap ((↑g.2 : Int) + (1 : Int)) =
 (↑g'.2 : Int) ∧
 True) ∧
 (TwinSums_a0 c d g n).getD
 [] =
 (spreadF (alikeF c d) g'.1
 (IntKind.i64.wrap (n.tmod (40 : Int)))).getD
 [] ∧
 g.1 = g'.1 ∧
 (True ∧ True ∧ True) ∧
 (alikeF c d).sup = (alikeF c d).sup ∧
 (alikeF c d).arcs = (alikeF c d).arcs ∧ True)) ∧
 (decide (x_2 ≥ x_1.low) = false →
 ∃ (g' : List Int × Nat),
 (TwinSums_a6 g' g0) ∧
 g'.fst.length - g'.snd < g.fst.length - g.snd ∧
 ((0 : Nat) = (0 : Nat) ∧
 True ∧
 IntKind.i64.wrap (n.tmod (40 : Int)) = IntKind.i64.wrap (n.tmod (40 : Int)) ∧
 True ∧
 IntKind.i64.wrap
 (TwinSums_a4 c d g n x) =
 sumTo
 (TwinSums_a5 c d g' n)
 g'.2 ∧
 IntKind.i64.wrap (lowT (alikeF c d) g.1 g.2 + x_1.low) =
 lowT (alikeF c d) g'.1 g'.2 ∧
 topT (alikeF c d) g.1 g.2 = topT (alikeF c d) g'.1 g'.2 ∧
 true = infT (alikeF c d) g'.1 g'.2 ∧
 false =
 fitT (alikeF c d) g'.1
 (TwinSums_a1 c d g' n)
 g'.2 ∧
 IntKind.i64.wrap ((↑g.2 : Int) + (1 : Int)) = (↑g'.2 : Int) ∧
 True) ∧
 (TwinSums_a0 c d g n).getD [] =
 (TwinSums_a2 c d g' n).getD [] ∧
 g.1 = g'.1 ∧
 (True ∧ True ∧ True) ∧
 (alikeF c d).sup = (alikeF c d).sup ∧
 (alikeF c d).arcs = (alikeF c d).arcs ∧ True)) ∧
 (fitT (alikeF c d) g.1 ((TwinSums_a0 c d g n).getD []) g.2 =
 false →
 ∃ (g' : List Int × Nat),
 (TwinSums_a6 g' g0) ∧
 g'.fst.length - g'.snd < g.fst.length - g.snd ∧
 ((0 : Nat) = (0 : Nat) ∧
 True ∧
 IntKind.i64.wrap (n.tmod (40 : Int)) = IntKind.i64.wrap (n.tmod (40 : Int)) ∧
 True ∧
 IntKind.i64.wrap
 (sumTo
 (fun (i : Nat) =>
 ((TwinSums_a0 c d g n).getD
 []).getD
 i (0 : Int))
 g.2 +
 x) =
 sumTo
 (fun (i : Nat) =>
 ((TwinSums_a2 c d g' n).getD
 []).getD
 i (0 : Int))
 g'.2 ∧
 IntKind.i64.wrap (lowT (alikeF c d) g.1 g.2 + x_1.low) = lowT (alikeF c d) g'.1 g'.2 ∧
 topT (alikeF c d) g.1 g.2 = topT (alikeF c d) g'.1 g'.2 ∧
 true = infT (alikeF c d) g'.1 g'.2 ∧
 false =
 fitT (alikeF c d) g'.1
 ((TwinSums_a2 c d g' n).getD
 [])
 g'.2 ∧
 IntKind.i64.wrap ((↑g.2 : Int) + (1 : Int)) = (↑g'.2 : Int) ∧ True) ∧
 (TwinSums_a0 c d g n).getD [] =
 (TwinSums_a2 c d g' n).getD [] ∧
 g.1 = g'.1 ∧
 (True ∧ True ∧ True) ∧
 (alikeF c d).sup = (alikeF c d).sup ∧ (alikeF c d).arcs = (alikeF c d).arcs ∧ True)) ∧
 ((TwinSums_a8 x_1) = false →
 (fitT (alikeF c d) g.1 ((TwinSums_a0 c d g n).getD []) g.2 =
 true →
 ((0 : Int) ≤ (↑g.2 : Int) ∧
 (↑g.2 : Int) <
 (↑((TwinSums_a0 c d g n).getD []).length : Int)) ∧
 (↑g.2 : Int).toNat <
 ((TwinSums_a0 c d g n).getD []).length ∧
 ∀ (x_2 : Int),
 ((TwinSums_a0 c d g n).getD [])[(↑g.2 : Int).toNat]? =
 some x_2 →
 (decide (x_2 ≥ x_1.low) = true →
 ((TwinSums_a8 x_1) = true →
 ∃ (g' : List Int × Nat),
 (TwinSums_a6 g' g0) ∧
 g'.fst.length - g'.snd < g.fst.length - g.snd ∧
 ((0 : Nat) = (0 : Nat) ∧
 True ∧
 IntKind.i64.wrap (n.tmod (40 : Int)) =
 IntKind.i64.wrap (n.tmod (40 : Int)) ∧
 True ∧
 IntKind.i64.wrap
 (TwinSums_a4 c d g n x) =
 sumTo
 (TwinSums_a5 c d g' n)
 g'.2 ∧
 IntKind.i64.wrap (lowT (alikeF c d) g.1 g.2 + x_1.low) =
 lowT (alikeF c d) g'.1 g'.2 ∧
 IntKind.i64.wrap (topT (alikeF c d) g.1 g.2 + x_1.cap) =
 topT (alikeF c d) g'.1 g'.2 ∧
 infT (alikeF c d) g.1 g.2 = infT (alikeF c d) g'.1 g'.2 ∧
 true =
 fitT (alikeF c d) g'.1
 (TwinSums_a1 c d g' n)
 g'.2 ∧
 IntKind.i64.wrap ((↑g.2 : Int) + (1 : Int)) = (↑g'.2 : Int) ∧
 True) ∧
 (TwinSums_a0 c d g n).getD [] =
 (TwinSums_a2 c d g' n).getD [] ∧
 g.1 = g'.1 ∧
 (True ∧ True ∧ True) ∧
 (alikeF c d).sup = (alikeF c d).sup ∧
 (alikeF c d).arcs = (alikeF c d).arcs ∧ True) ∧
 ((TwinSums_a8 x_1) = false →
 ((0 : Int) ≤ (↑g.2 : Int) ∧
 (↑g.2 : Int) <
 (↑((TwinSums_a0 c d g n).getD
 []).length :
 Int)) ∧
 (↑g.2 : Int).toNat <
 ((TwinSums_a0 c d g n).getD
 []).length ∧
 ∀ (x_3 : Int),
 ((TwinSums_a0 c d g n).getD
 [])[(↑g.2 : Int).toNat]? =
 some x_3 →
 ∃ (g' : List Int × Nat),
 (TwinSums_a6 g' g0) ∧
 g'.fst.length - g'.snd < g.fst.length - g.snd ∧
 ((0 : Nat) = (0 : Nat) ∧
 True ∧
 IntKind.i64.wrap (n.tmod (40 : Int)) =
 IntKind.i64.wrap (n.tmod (40 : Int)) ∧
 True ∧
 IntKind.i64.wrap
 (sumTo
 (fun (i : Nat) =>
 ((spreadF (alikeF c d) g.1
 (IntKind.i64.wrap
 (n.tmod (40 : Int)))).getD
 []).getD
 i (0 : Int))
 g.2 +
 x) =
 sumTo
 (TwinSums_a5 c d g' n)
 g'.2 ∧
 IntKind.i64.wrap (lowT (alikeF c d) g.1 g.2 + x_1.low) =
 lowT (alikeF c d) g'.1 g'.2 ∧
 IntKind.i64.wrap (topT (alikeF c d) g.1 g.2 + x_1.cap) =
 topT (alikeF c d) g'.1 g'.2 ∧
 infT (alikeF c d) g.1 g.2 = infT (alikeF c d) g'.1 g'.2 ∧
 decide (x_3 ≤ x_1.cap) =
 fitT (alikeF c d) g'.1
 (TwinSums_a1 c d g' n)
 g'.2 ∧
 IntKind.i64.wrap ((↑g.2 : Int) + (1 : Int)) =
 (↑g'.2 : Int) ∧
 True) ∧
 (TwinSums_a0 c d g n).getD
 [] =
 (spreadF (alikeF c d) g'.1
 (IntKind.i64.wrap (n.tmod (40 : Int)))).getD
 [] ∧
 g.1 = g'.1 ∧
 (True ∧ True ∧ True) ∧
 (alikeF c d).sup = (alikeF c d).sup ∧
 (alikeF c d).arcs = (alikeF c d).arcs ∧ True)) ∧
 (decide (x_2 ≥ x_1.low) = false →
 ∃ (g' : List Int × Nat),
 (TwinSums_a6 g' g0) ∧
 g'.fst.length - g'.snd < g.fst.length - g.snd ∧
 ((0 : Nat) = (0 : Nat) ∧
 True ∧
 IntKind.i64.wrap (n.tmod (40 : Int)) = IntKind.i64.wrap (n.tmod (40 : Int)) ∧
 True ∧
 IntKind.i64.wrap
 (TwinSums_a4 c d g n x) =
 sumTo
 (TwinSums_a5 c d g' n)
 g'.2 ∧
 IntKind.i64.wrap (lowT (alikeF c d) g.1 g.2 + x_1.low) =
 lowT (alikeF c d) g'.1 g'.2 ∧
 IntKind.i64.wrap (topT (alikeF c d) g.1 g.2 + x_1.cap) =
 topT (alikeF c d) g'.1 g'.2 ∧
 infT (alikeF c d) g.1 g.2 = infT (alikeF c d) g'.1 g'.2 ∧
 false =
 fitT (alikeF c d) g'.1
 (TwinSums_a1 c d g' n)
 g'.2 ∧
 IntKind.i64.wrap ((↑g.2 : Int) + (1 : Int)) = (↑g'.2 : Int) ∧
 True) ∧
 (TwinSums_a0 c d g n).getD [] =
 (TwinSums_a2 c d g' n).getD [] ∧
 g.1 = g'.1 ∧
 (True ∧ True ∧ True) ∧
 (alikeF c d).sup = (alikeF c d).sup ∧
 (alikeF c d).arcs = (alikeF c d).arcs ∧ True)) ∧
 (fitT (alikeF c d) g.1 ((TwinSums_a0 c d g n).getD []) g.2 =
 false →
 ∃ (g' : List Int × Nat),
 (TwinSums_a6 g' g0) ∧
 g'.fst.length - g'.snd < g.fst.length - g.snd ∧
 ((0 : Nat) = (0 : Nat) ∧
 True ∧
 IntKind.i64.wrap (n.tmod (40 : Int)) = IntKind.i64.wrap (n.tmod (40 : Int)) ∧
 True ∧
 IntKind.i64.wrap
 (sumTo
 (fun (i : Nat) =>
 ((TwinSums_a0 c d g n).getD
 []).getD
 i (0 : Int))
 g.2 +
 x) =
 sumTo
 (fun (i : Nat) =>
 ((TwinSums_a2 c d g' n).getD
 []).getD
 i (0 : Int))
 g'.2 ∧
 IntKind.i64.wrap (lowT (alikeF c d) g.1 g.2 + x_1.low) = lowT (alikeF c d) g'.1 g'.2 ∧
 IntKind.i64.wrap (topT (alikeF c d) g.1 g.2 + x_1.cap) =
 topT (alikeF c d) g'.1 g'.2 ∧
 infT (alikeF c d) g.1 g.2 = infT (alikeF c d) g'.1 g'.2 ∧
 false =
 fitT (alikeF c d) g'.1
 ((TwinSums_a2 c d g' n).getD
 [])
 g'.2 ∧
 IntKind.i64.wrap ((↑g.2 : Int) + (1 : Int)) = (↑g'.2 : Int) ∧ True) ∧
 (TwinSums_a0 c d g n).getD [] =
 (TwinSums_a2 c d g' n).getD [] ∧
 g.1 = g'.1 ∧
 (True ∧ True ∧ True) ∧
 (alikeF c d).sup = (alikeF c d).sup ∧ (alikeF c d).arcs = (alikeF c d).arcs ∧ True))) ∧
 (decide ((↑g.2 : Int) < (↑g.1.length : Int)) = false →
 True ∧
 (true = true →
 ((sumTo (fun (i : Nat) => ((TwinSums_a0 c d g n).getD []).getD i (0 : Int)) g.2 ==
 IntKind.i64.wrap (n.tmod (40 : Int))) =
 true →
 (decide (IntKind.i64.wrap (n.tmod (40 : Int)) ≥ lowT (alikeF c d) g.1 g.2) = true →
 (infT (alikeF c d) g.1 g.2 = true →
 ((fitT (alikeF c d) g.1 ((TwinSums_a0 c d g n).getD []) g.2 == true) =
 true ∧
 True) ∧
 True) ∧
 (infT (alikeF c d) g.1 g.2 = false →
 ((fitT (alikeF c d) g.1 ((TwinSums_a0 c d g n).getD []) g.2 ==
 decide (IntKind.i64.wrap (n.tmod (40 : Int)) ≤ topT (alikeF c d) g.1 g.2)) =
 true ∧
 True) ∧
 True)) ∧
 (decide (IntKind.i64.wrap (n.tmod (40 : Int)) ≥ lowT (alikeF c d) g.1 g.2) = false →
 ((fitT (alikeF c d) g.1 ((TwinSums_a0 c d g n).getD []) g.2 == false) = true ∧
 True) ∧
 True)) ∧
 ((sumTo (fun (i : Nat) => ((TwinSums_a0 c d g n).getD []).getD i (0 : Int)) g.2 ==
 IntKind.i64.wrap (n.tmod (40 : Int))) =
 false →
 (false = true ∧ True) ∧ True)) ∧
 (true = false → (false = true ∧ True) ∧ True)))))
theorem TwinSums_q (c : List Int) (d : List Int) (n : Int) (k : Int) (ty0 ty1 : TypeId) : TwinSums_E0 c d n k ty0 ty1 = FVcP TT TwinSums_g (TwinSums_I c d n k) (TwinSums_an c d n k) Try.f11 [.row 0, .row 1, .int .i32 n, .int .u8 k] [(0, .row false ty0 (.ints .u8 c)), (1, .row false ty1 (.ints .u8 d))] (TwinSums_r c d n k) := by kernel_rfl
theorem TwinSums_E (c : List Int) (d : List Int) (n : Int) (k : Int) (ty0 ty1 : TypeId) (hp : Bytes c ∧ Bytes d ∧ c.length ≤ maxLen ∧ d.length ≤ maxLen ∧ -2147483648 ≤ n ∧ n ≤ 2147483647 ∧ 0 ≤ k ∧ k ≤ 255) : FVc TT TwinSums_g (TwinSums_I c d n k) (TwinSums_an c d n k) Try.f11 [.row 0, .row 1, .int .i32 n, .int .u8 k] [(0, .row false ty0 (.ints .u8 c)), (1, .row false ty1 (.ints .u8 d))] (TwinSums_r c d n k) := by
  refine FVc.of (TwinSums_E0 c d n k ty0 ty1) (TwinSums_q c d n k ty0 ty1) ?_
  unfold TwinSums_E0
  delta TwinSums_a8 TwinSums_a7 TwinSums_a6 TwinSums_a5 TwinSums_a4 TwinSums_a3 TwinSums_a2 TwinSums_a1 TwinSums_a0
  obtain ⟨b1, b2, b3, b4, n0, n1, k0, k1⟩ := hp
  obtain ⟨o1, o2, o3, o4, o5⟩ := alikeF_all c d
  generalize alikeF c d = J at *
  have hwk : IntKind.i64.wrap k = k := w64 (by omega) (by omega)
  have hmb : -40 ≤ n.tmod 40 ∧ n.tmod 40 ≤ 40 := by
    rcases Int.lt_or_le n 0 with h | h
    · have h1 : (-n).tmod 40 = -(n.tmod 40) := Int.neg_tmod n 40
      have h2 := Int.tmod_nonneg 40 (show (0 : Int) ≤ -n by omega)
      have h3 := Int.tmod_lt_of_pos (-n) (show (0 : Int) < 40 by omega)
      omega
    · have h2 := Int.tmod_nonneg 40 h
      have h3 := Int.tmod_lt_of_pos n (show (0 : Int) < 40 by omega)
      omega
  generalize n.tmod 40 = m at *
  have hwn : IntKind.i64.wrap m = m := w64 (by omega) (by omega)
  rw [hwn, hwk]
  simp only [eq_self, exists_const, forall_const, decide_eq_true_eq, decide_eq_false_iff_not, and_true, true_and, bne_iff_ne, ne_eq, bne_eq_false_iff_eq, Int.toNat_natCast, Bool.not_eq_true', Bool.not_eq_false', beq_iff_eq, beq_eq_false_iff_ne, nilEq_true]
  simp only [DK.len]
  refine ⟨⟨b1, b2, b3, b4⟩, by omega, fun _ => trivial, fun hg => ⟨hg, ⟨Int.tmod_nonneg _ k0, Int.tmod_lt_of_pos _ (by omega)⟩, ?_, fun l hl => ?_⟩⟩
  · have h1 := Int.tmod_nonneg ((groupsF J.arcs).length : Int) k0
    have h2 := Int.tmod_lt_of_pos k (show (0 : Int) < (groupsF J.arcs).length by omega)
    omega
  obtain ⟨p, hp, hlp, hne, hll⟩ := groups_mem (List.mem_of_getElem? hl)
  have hni : NiceAt J l := by rw [hlp]; exact grp_nice o4 p
  obtain ⟨x, hx, -⟩ := spreadF_some hni hne (by omega) (n := m) (by omega) (by omega)
  obtain ⟨e1, e2, e3, e4⟩ := sums_end hni hne (by omega) (by omega) (by omega) hx
  have hb := fun j => sumT_bd hni j
  have hxb : ∀ j, j ≤ l.length → -(1000002 * (j : Int)) ≤ sumTo (fun i => x.getD i 0) j ∧ sumTo (fun i => x.getD i 0) j ≤ 1000002 * (j : Int) := fun j hj => sumTo_bd' fun i hi => getD_bd e2 (by omega)
  simp only [hx, Option.isSome_some, Option.getD_some]
  refine ⟨by decide, ⟨o1, ⟨by omega, by omega⟩, by omega⟩, fun h => absurd h (by simp), fun _ => ⟨fun h => absurd (by rw [e1]) h, fun _ => ⟨(l, 0), ⟨Nat.zero_le _, ⟨rfl, rfl, rfl, rfl, rfl, rfl⟩, by dsimp only; rw [hx]; rfl, rfl⟩, fun g hg => ?_⟩⟩⟩
  obtain ⟨l', j⟩ := g
  dsimp only at hg ⊢
  obtain ⟨rfl, hj⟩ := hg
  simp only [hx, Option.getD_some]
  refine ⟨fun h1 => ⟨by omega, by omega, fun a ha => ?_⟩, fun h1 => ?_⟩
  · obtain ⟨a1, a2, a3, a4, a5⟩ := hni a (List.mem_of_getElem? ha)
    obtain ⟨i1, i2⟩ := isArcF_iff.1 a1
    refine ⟨by omega, by omega, fun A hA => ⟨by omega, by omega, fun y hy => ?_⟩⟩
    have hla : l'.getD j 0 = a := by rw [List.getD_eq_getElem?_getD, ha]; rfl
    have hxy : x.getD j 0 = y := by rw [List.getD_eq_getElem?_getD, hy]; rfl
    have hA2 : arcAt J a = A := by unfold arcAt; rw [List.getD_eq_getElem?_getD, hA]; rfl
    rw [hA2] at a2 a3 a4 a5
    have hyb := e2 y (List.mem_of_getElem? hy)
    have hj1 := hb j hj
    have hj2 := hxb j hj
    have s1 : IntKind.i64.wrap (sumTo (fun i => x.getD i 0) j + y) = sumTo (fun i => x.getD i 0) (j + 1) := by rw [sumTo, hxy]; exact w64 (by omega) (by omega)
    have s2 : IntKind.i64.wrap (lowT J l' j + A.low) = lowT J l' (j + 1) := by
      have : lowT J l' (j + 1) = lowT J l' j + A.low := by rw [← hA2, ← hla]; rfl
      rw [this]; exact w64 (by omega) (by omega)
    have s3e : topT J l' (j + 1) = topT J l' j + (if A.cap = inf then 0 else A.cap) := by rw [← hA2, ← hla]; rfl
    have s3 : A.cap = 4611686018427387904 → topT J l' j = topT J l' (j + 1) := fun h => by rw [s3e, if_pos (show A.cap = inf from h)]; omega
    have s3n : ¬ A.cap = 4611686018427387904 → IntKind.i64.wrap (topT J l' j + A.cap) = topT J l' (j + 1) := fun h => by
      rw [s3e, if_neg (show ¬ A.cap = inf from h)]
      unfold inf at a5
      exact w64 (by omega) (by omega)
    have s4e := infT_succ J l' j
    rw [hla, hA2] at s4e
    have s4 : A.cap = 4611686018427387904 → true = infT J l' (j + 1) := fun h => by rw [s4e, decide_eq_true (show A.cap = inf from h), Bool.or_true]
    have s4n : ¬ A.cap = 4611686018427387904 → infT J l' j = infT J l' (j + 1) := fun h => by rw [s4e, decide_eq_false (show ¬ A.cap = inf from h), Bool.or_false]
    have s5e := fitT_succ J l' x j
    rw [hla, hA2, hxy] at s5e
    have s5f : fitT J l' x j = false → false = fitT J l' x (j + 1) := fun h => by rw [s5e, h]; rfl
    have s5a : fitT J l' x j = true → ¬ y ≥ A.low → false = fitT J l' x (j + 1) := fun h h2 => by
      rw [s5e, h, Bool.true_and, Eq.comm, Bool.eq_false_iff, Ne, fitF_iff]; omega
    have s5b : fitT J l' x j = true → y ≥ A.low → A.cap = 4611686018427387904 → true = fitT J l' x (j + 1) := fun h h2 h3 => by
      rw [s5e, h, Bool.true_and, Eq.comm, fitF_iff]; exact ⟨h2, .inl h3⟩
    have s5c : fitT J l' x j = true → y ≥ A.low → ¬ A.cap = 4611686018427387904 → decide (y ≤ A.cap) = fitT J l' x (j + 1) := fun h h2 h3 => by
      rw [s5e, h, Bool.true_and, Bool.eq_iff_iff, decide_eq_true_eq, fitF_iff]; exact ⟨fun h => ⟨h2, .inr h⟩, fun h => h.2.resolve_left h3⟩
    have s6 : IntKind.i64.wrap ((j : Int) + 1) = ((j + 1 : Nat) : Int) := by rw [w64 (by omega) (by omega)]; omega
    simp only [hy, Option.some.injEq, forall_eq']
    refine ⟨fun c1 => ⟨fun c2 => ⟨by omega, by omega, fun c3 => ⟨fun c4 => ?_, fun c4 => absurd c1 c4⟩, fun c3 => ?_⟩, fun c2 => ?_⟩, fun c1 => ⟨fun c2 => ⟨by omega, by omega, fun c3 => ⟨fun c4 => absurd c4 c1, fun c4 => ⟨by omega, by omega, ?_⟩⟩, fun c3 => ?_⟩, fun c2 => ?_⟩⟩
    all_goals
      refine ⟨(l', j + 1), ⟨rfl, by dsimp only; omega⟩, by dsimp only; omega, ⟨by dsimp only; rw [hx]; exact s1, s2, ?_, ?_, ?_, s6⟩, by dsimp only; rw [hx]; rfl, rfl⟩ <;> dsimp only
      all_goals (try rw [hx, Option.getD_some]) <;> first | exact s3 c1 | exact s3n c1 | exact s4 c1 | exact s4n c1 | exact s5f c2 | exact s5a c2 c3 | exact s5b c2 c3 c4 | exact s5c c2 c3 c4
  · have ej : j = l'.length := by omega
    subst ej
    rw [e3, e4]
    refine ⟨⟨fun _ => ⟨fun q1 => ⟨fun q2 => ?_, fun q2 => ?_⟩, fun q1 => ?_⟩, fun h => absurd rfl h⟩, fun h => by cases h⟩
    · rw [decide_eq_true q1, q2]; rfl
    · rw [decide_eq_true q1, q2, Bool.true_and, Bool.false_or]
    · rw [decide_eq_false q1]; rfl
theorem TwinSums_ok : SpecOk Try.prog TwinSums_n true (specOf true TwinSums_fs) :=
  spec_ok' TT_ok (show GsOk Try.prog TwinSums_g from gsOk_cons Alike_ok (gsOk_cons known16_ok (gsOk_cons Groups_ok (gsOk_cons Spread_ok (gsOk_nil))))) (by kernel_rfl) mixedOrders Try.func11 rfl rfl (by kernel_rfl) (n := 4) (by decide +kernel) (I := TwinSums_IA) (fun _ _ => isOk_nil) (A := TwinSums_A)
    (fun args h r hr => by
      unfold TwinSums_fs at hr
      split at hr
      · rename_i n k ty0 c ty1 d; cases hr; refine ⟨rfl, fun hp => ?_⟩; have hE := TwinSums_E c d n k ty0 ty1 hp; exact hE
      · cases hr)
end Go.Proofs.Ytnjcklhgdpgllaa
