/- Part of the proof, FBTrimLoops. -/
import Derived.Test.YtahbkllfifmdfaaZFV15
import Derived.Test.YtahbkllfifmdfaaZFB9
import Derived.Test.YtahbkllfifmdfaaZDBTrimLoops
import Derived.Test.YtahbkllfifmdfaaZVc11
set_option linter.unusedVariables false
set_option linter.all false
set_option linter.unusedSimpArgs false
set_option maxRecDepth 100000
namespace Go.Proofs.Ytahbkllfifmdfaa
open Go Go.RowKit Go.Ql Go.Vc
abbrev TrimLoops_a0 (c : List Int) (d : List Int) (e : List Int) := (True ∧
 True ∧
 (loopS (oddF c d e)).fst.pass = (loopS (oddF c d e)).fst.pass ∧
 True ∧
 True ∧
 (loopS (oddF c d e)).fst.off.hi = (loopS (oddF c d e)).fst.off.hi ∧
 (loopS (oddF c d e)).fst.off.lo = (loopS (oddF c d e)).fst.off.lo ∧
 (loopS (oddF c d e)).fst.did = (loopS (oddF c d e)).fst.did ∧ True)
abbrev TrimLoops_a1 (x : Arc) (g : Nat) (c : List Int) (d : List Int) (e : List Int) (f : List Int) := (decide (x.cost < (0 : Int)) = false →
 (I64 x.cost ∧ I64 x.low) ∧
 ((W (offAll takeLoop (List.take g (oddF c d e).arcs) (0 : Int))).ok ∧ (W (x.cost * x.low)).ok) ∧
 ∃ (g' : Nat),
 g' ≤ (oddF c d e).arcs.length ∧
 (oddF c d e).arcs.length - g' < (oddF c d e).arcs.length - g ∧
 ((0 : Nat) = (0 : Nat) ∧
 (0 : Nat) = (0 : Nat) ∧
 True ∧ True ∧ (0 : Nat) = (0 : Nat) ∧ IntKind.i64.wrap ((↑g : Int) + (1 : Int)) = (↑g' : Int) ∧ True) ∧
 ((wplus (W (offAll takeLoop (List.take g (oddF c d e).arcs) (0 : Int))) (W (x.cost * x.low))).hi =
 (W (offAll takeLoop (List.take g' (oddF c d e).arcs) (0 : Int))).hi ∧
 (wplus (W (offAll takeLoop (List.take g (oddF c d e).arcs) (0 : Int))) (W (x.cost * x.low))).lo =
 (W (offAll takeLoop (List.take g' (oddF c d e).arcs) (0 : Int))).lo ∧
 True) ∧
 yTake takeLoop (List.take g (oddF c d e).arcs) (flowF (oddF c d e) f) =
 yTake takeLoop (List.take g' (oddF c d e).arcs) (flowF (oddF c d e) f) ∧
 flowF (oddF c d e) f = flowF (oddF c d e) f ∧
 (TrimLoops_a0 c d e) ∧
 (loopS (oddF c d e)).fst.inst.sup = (loopS (oddF c d e)).fst.inst.sup ∧
 (loopS (oddF c d e)).fst.inst.arcs = (loopS (oddF c d e)).fst.inst.arcs ∧
 (loopS (oddF c d e)).fst.was.sup = (loopS (oddF c d e)).fst.was.sup ∧
 (loopS (oddF c d e)).fst.was.arcs = (loopS (oddF c d e)).fst.was.arcs ∧
 (True ∧ True ∧ True) ∧
 (oddF c d e).sup = (oddF c d e).sup ∧ (oddF c d e).arcs = (oddF c d e).arcs ∧ True)
abbrev TrimLoops_a2 (g : Nat) (g' : Nat) := ((0 : Nat) = (0 : Nat) ∧
 (0 : Nat) = (0 : Nat) ∧
 True ∧ True ∧ (0 : Nat) = (0 : Nat) ∧ IntKind.i64.wrap ((↑g : Int) + (1 : Int)) = (↑g' : Int) ∧ True)
abbrev TrimLoops_a3 (c : List Int) (d : List Int) (e : List Int) := (W (offAll takeLoop (oddF c d e).arcs (0 : Int)))
abbrev TrimLoops_a4 (g : Nat) (c : List Int) (d : List Int) (e : List Int) := (W (offAll takeLoop (List.take g (oddF c d e).arcs) (0 : Int)))
abbrev TrimLoops_a5 (g' : Nat) (c : List Int) (d : List Int) (e : List Int) := (W (offAll takeLoop (List.take g' (oddF c d e).arcs) (0 : Int)))
abbrev TrimLoops_a6 (c : List Int) (d : List Int) (e : List Int) (f : List Int) := (yTake takeLoop (oddF c d e).arcs (flowF (oddF c d e) f))
def TrimLoops_E0 (c : List Int) (d : List Int) (e : List Int) (f : List Int) (ty0 ty1 ty2 ty3 : TypeId) : Prop :=
      (Bytes c ∧ Bytes d ∧ c.length ≤ maxLen ∧ d.length ≤ maxLen ∧ Bytes e ∧ e.length ≤ maxLen) ∧
 ((oddF c d e).sup.length ≤ (1000000 : Nat) ∧ (oddF c d e).arcs.length ≤ (1000000 : Nat)) ∧
 (Bytes f ∧ (oddF c d e).arcs.length ≤ (1000000 : Nat) ∧ L42 (oddF c d e).arcs) ∧
 (((loopS (oddF c d e)).snd != (0 : Int)) = true → True ∧ (true = true ∧ True) ∧ True) ∧
 (((loopS (oddF c d e)).snd != (0 : Int)) = false →
 ∃ (g0 : Nat),
 (g0 ≤ (oddF c d e).arcs.length ∧
 ((0 : Nat) = (0 : Nat) ∧ (0 : Nat) = (0 : Nat) ∧ True ∧ True ∧ (0 : Nat) = (0 : Nat) ∧ (0 : Int) = (↑g0 : Int) ∧ True) ∧
 ((0 : Int) = (W (offAll takeLoop (List.take g0 (oddF c d e).arcs) (0 : Int))).hi ∧
 (0 : Int) = (W (offAll takeLoop (List.take g0 (oddF c d e).arcs) (0 : Int))).lo ∧ True) ∧
 [] = yTake takeLoop (List.take g0 (oddF c d e).arcs) (flowF (oddF c d e) f) ∧
 flowF (oddF c d e) f = flowF (oddF c d e) f ∧
 (True ∧
 True ∧
 (loopS (oddF c d e)).fst.pass = (loopS (oddF c d e)).fst.pass ∧
 True ∧
 True ∧
 (loopS (oddF c d e)).fst.off.hi = (loopS (oddF c d e)).fst.off.hi ∧
 (loopS (oddF c d e)).fst.off.lo = (loopS (oddF c d e)).fst.off.lo ∧ (loopS (oddF c d e)).fst.did = (loopS (oddF c d e)).fst.did ∧ True) ∧
 (loopS (oddF c d e)).fst.inst.sup = (loopS (oddF c d e)).fst.inst.sup ∧
 (loopS (oddF c d e)).fst.inst.arcs = (loopS (oddF c d e)).fst.inst.arcs ∧
 (loopS (oddF c d e)).fst.was.sup = (loopS (oddF c d e)).fst.was.sup ∧
 (loopS (oddF c d e)).fst.was.arcs = (loopS (oddF c d e)).fst.was.arcs ∧
 (True ∧ True ∧ True) ∧ (oddF c d e).sup = (oddF c d e).sup ∧ (oddF c d e).arcs = (oddF c d e).arcs ∧ True) ∧
 ∀ (g : Nat),
 g ≤ (oddF c d e).arcs.length →
 (decide ((↑g : Int) < (↑(oddF c d e).arcs.length : Int)) = true →
 ((0 : Int) ≤ (↑g : Int) ∧ (↑g : Int) < (↑(oddF c d e).arcs.length : Int)) ∧
 (↑g : Int).toNat < (oddF c d e).arcs.length ∧
 ∀ (x : Arc),
 (oddF c d e).arcs[(↑g : Int).toNat]? = some x →
 ((x.src != x.dst) = true →
 ((0 : Int) ≤ (↑g : Int) ∧ (↑g : Int) < (↑(flowF (oddF c d e) f).length : Int)) ∧
 (↑g : Int).toNat < (flowF (oddF c d e) f).length ∧
 ∀ (x : Int),
 (flowF (oddF c d e) f)[(↑g : Int).toNat]? = some x →
 (yTake takeLoop (List.take g (oddF c d e).arcs) (flowF (oddF c d e) f)).length + (1 : Nat) ≤ (1000000000 : Nat) ∧
 ∃ (g' : Nat),
 g' ≤ (oddF c d e).arcs.length ∧
 (oddF c d e).arcs.length - g' < (oddF c d e).arcs.length - g ∧
 (TrimLoops_a2 g g') ∧
 ((TrimLoops_a4 g c d e).hi =
 (TrimLoops_a5 g' c d e).hi ∧
 (TrimLoops_a4 g c d e).lo =
 (TrimLoops_a5 g' c d e).lo ∧
 True) ∧
 yTake takeLoop (List.take g (oddF c d e).arcs) (flowF (oddF c d e) f) ++ [x] =
 yTake takeLoop (List.take g' (oddF c d e).arcs) (flowF (oddF c d e) f) ∧
 flowF (oddF c d e) f = flowF (oddF c d e) f ∧
 (TrimLoops_a0 c d e) ∧
 (loopS (oddF c d e)).fst.inst.sup = (loopS (oddF c d e)).fst.inst.sup ∧
 (loopS (oddF c d e)).fst.inst.arcs = (loopS (oddF c d e)).fst.inst.arcs ∧
 (loopS (oddF c d e)).fst.was.sup = (loopS (oddF c d e)).fst.was.sup ∧
 (loopS (oddF c d e)).fst.was.arcs = (loopS (oddF c d e)).fst.was.arcs ∧
 (True ∧ True ∧ True) ∧ (oddF c d e).sup = (oddF c d e).sup ∧ (oddF c d e).arcs = (oddF c d e).arcs ∧ True) ∧
 ((x.src != x.dst) = false →
 (decide (x.cost < (0 : Int)) = true →
 ((x.cap == (4611686018427387904 : Int)) = true →
 ((0 : Int) ≤ (↑g : Int) ∧ (↑g : Int) < (↑(flowF (oddF c d e) f).length : Int)) ∧
 (↑g : Int).toNat < (flowF (oddF c d e) f).length ∧
 ∀ (x : Int),
 (flowF (oddF c d e) f)[(↑g : Int).toNat]? = some x →
 (yTake takeLoop (List.take g (oddF c d e).arcs) (flowF (oddF c d e) f)).length + (1 : Nat) ≤ (1000000000 : Nat) ∧
 ∃ (g' : Nat),
 g' ≤ (oddF c d e).arcs.length ∧
 (oddF c d e).arcs.length - g' < (oddF c d e).arcs.length - g ∧
 (TrimLoops_a2 g g') ∧
 ((TrimLoops_a4 g c d e).hi =
 (TrimLoops_a5 g' c d e).hi ∧
 (TrimLoops_a4 g c d e).lo =
 (TrimLoops_a5 g' c d e).lo ∧
 True) ∧
 yTake takeLoop (List.take g (oddF c d e).arcs) (flowF (oddF c d e) f) ++ [x] =
 yTake takeLoop (List.take g' (oddF c d e).arcs) (flowF (oddF c d e) f) ∧
 flowF (oddF c d e) f = flowF (oddF c d e) f ∧
 (TrimLoops_a0 c d e) ∧
 (loopS (oddF c d e)).fst.inst.sup = (loopS (oddF c d e)).fst.inst.sup ∧
 (loopS (oddF c d e)).fst.inst.arcs = (loopS (oddF c d e)).fst.inst.arcs ∧
 (loopS (oddF c d e)).fst.was.sup = (loopS (oddF c d e)).fst.was.sup ∧
 (loopS (oddF c d e)).fst.was.arcs = (loopS (oddF c d e)).fst.was.arcs ∧
 (True ∧ True ∧ True) ∧
 (oddF c d e).sup = (oddF c d e).sup ∧ (oddF c d e).arcs = (oddF c d e).arcs ∧ True) ∧
 ((x.cap == (4611686018427387904 : Int)) = false →
 (decide (x.cost < (0 : Int)) = true →
 (I64 x.cost ∧ I64 x.cap) ∧
 ((TrimLoops_a4 g c d e).ok ∧ (W (x.cost * x.cap)).ok) ∧
 ∃ (g' : Nat),
 g' ≤ (oddF c d e).arcs.length ∧
 (oddF c d e).arcs.length - g' < (oddF c d e).arcs.length - g ∧
 (TrimLoops_a2 g g') ∧
 ((wplus (TrimLoops_a4 g c d e) (W (x.cost * x.cap))).hi =
 (TrimLoops_a5 g' c d e).hi ∧
 (wplus (TrimLoops_a4 g c d e) (W (x.cost * x.cap))).lo =
 (TrimLoops_a5 g' c d e).lo ∧
 True) ∧
 yTake takeLoop (List.take g (oddF c d e).arcs) (flowF (oddF c d e) f) =
 yTake takeLoop (List.take g' (oddF c d e).arcs) (flowF (oddF c d e) f) ∧
 flowF (oddF c d e) f = flowF (oddF c d e) f ∧
 (TrimLoops_a0 c d e) ∧
 (loopS (oddF c d e)).fst.inst.sup = (loopS (oddF c d e)).fst.inst.sup ∧
 (loopS (oddF c d e)).fst.inst.arcs = (loopS (oddF c d e)).fst.inst.arcs ∧
 (loopS (oddF c d e)).fst.was.sup = (loopS (oddF c d e)).fst.was.sup ∧
 (loopS (oddF c d e)).fst.was.arcs = (loopS (oddF c d e)).fst.was.arcs ∧
 (True ∧ True ∧ True) ∧
 (oddF c d e).sup = (oddF c d e).sup ∧ (oddF c d e).arcs = (oddF c d e).arcs ∧ True) ∧
 (TrimLoops_a1 x g c d e f))) ∧
 (decide (x.cost < (0 : Int)) = false →
 (decide (x.cost < (0 : Int)) = true →
 (I64 x.cost ∧ I64 x.cap) ∧
 ((TrimLoops_a4 g c d e).ok ∧ (W (x.cost * x.cap)).ok) ∧
 ∃ (g' : Nat),
 g' ≤ (oddF c d e).arcs.length ∧
 (oddF c d e).arcs.length - g' < (oddF c d e).arcs.length - g ∧
 (TrimLoops_a2 g g') ∧
 ((wplus (TrimLoops_a4 g c d e) (W (x.cost * x.cap))).hi =
 (TrimLoops_a5 g' c d e).hi ∧
 (wplus (TrimLoops_a4 g c d e) (W (x.cost * x.cap))).lo =
 (TrimLoops_a5 g' c d e).lo ∧
 True) ∧
 yTake takeLoop (List.take g (oddF c d e).arcs) (flowF (oddF c d e) f) =
 yTake takeLoop (List.take g' (oddF c d e).arcs) (flowF (oddF c d e) f) ∧
 flowF (oddF c d e) f = flowF (oddF c d e) f ∧
 (TrimLoops_a0 c d e) ∧
 (loopS (oddF c d e)).fst.inst.sup = (loopS (oddF c d e)).fst.inst.sup ∧
 (loopS (oddF c d e)).fst.inst.arcs = (loopS (oddF c d e)).fst.inst.arcs ∧
 (loopS (oddF c d e)).fst.was.sup = (loopS (oddF c d e)).fst.was.sup ∧
 (loopS (oddF c d e)).fst.was.arcs = (loopS (oddF c d e)).fst.was.arcs ∧
 (True ∧ True ∧ True) ∧ (oddF c d e).sup = (oddF c d e).sup ∧ (oddF c d e).arcs = (oddF c d e).arcs ∧ True) ∧
 (TrimLoops_a1 x g c d e f)))) ∧
 (decide ((↑g : Int) < (↑(oddF c d e).arcs.length : Int)) = false →
 ∃ (g0 : Nat),
 (g0 ≤ (loopS (oddF c d e)).fst.inst.arcs.length ∧
 ((0 : Nat) = (0 : Nat) ∧ (0 : Nat) = (0 : Nat) ∧ True ∧ True ∧ (0 : Nat) = (0 : Nat) ∧ (0 : Int) = (↑g0 : Int) ∧ True) ∧
 ((TrimLoops_a4 g c d e).hi = (TrimLoops_a3 c d e).hi ∧
 (TrimLoops_a4 g c d e).lo = (TrimLoops_a3 c d e).lo ∧ True) ∧
 yTake takeLoop (List.take g (oddF c d e).arcs) (flowF (oddF c d e) f) = yTake takeLoop (oddF c d e).arcs (flowF (oddF c d e) f) ∧
 flowF (oddF c d e) f = flowF (oddF c d e) f ∧
 (TrimLoops_a0 c d e) ∧
 (loopS (oddF c d e)).fst.inst.sup = (loopS (oddF c d e)).fst.inst.sup ∧
 (loopS (oddF c d e)).fst.inst.arcs = (loopS (oddF c d e)).fst.inst.arcs ∧
 (loopS (oddF c d e)).fst.was.sup = (loopS (oddF c d e)).fst.was.sup ∧
 (loopS (oddF c d e)).fst.was.arcs = (loopS (oddF c d e)).fst.was.arcs ∧
 (True ∧ True ∧ True) ∧ (oddF c d e).sup = (oddF c d e).sup ∧ (oddF c d e).arcs = (oddF c d e).arcs ∧ True) ∧
 ∀ (g : Nat),
 g ≤ (loopS (oddF c d e)).fst.inst.arcs.length →
 (decide ((↑g : Int) < (↑(loopS (oddF c d e)).fst.inst.arcs.length : Int)) = true →
 ((0 : Int) ≤ (↑g : Int) ∧ (↑g : Int) < (↑(loopS (oddF c d e)).fst.inst.arcs.length : Int)) ∧
 (↑g : Int).toNat < (loopS (oddF c d e)).fst.inst.arcs.length ∧
 ∀ (x : Arc),
 (loopS (oddF c d e)).fst.inst.arcs[(↑g : Int).toNat]? = some x →
 ((x.src == x.dst) = true →
 (decide (x.cost ≥ (0 : Int)) = true → (false = true ∧ True) ∧ True) ∧
 (decide (x.cost ≥ (0 : Int)) = false →
 ((x.cap != (4611686018427387904 : Int)) = true → (false = true ∧ True) ∧ True) ∧
 ((x.cap != (4611686018427387904 : Int)) = false →
 ∃ (g' : Nat),
 g' ≤ (loopS (oddF c d e)).fst.inst.arcs.length ∧
 (loopS (oddF c d e)).fst.inst.arcs.length - g' < (loopS (oddF c d e)).fst.inst.arcs.length - g ∧
 (TrimLoops_a2 g g') ∧
 ((TrimLoops_a3 c d e).hi = (TrimLoops_a3 c d e).hi ∧
 (TrimLoops_a3 c d e).lo = (TrimLoops_a3 c d e).lo ∧
 True) ∧
 yTake takeLoop (oddF c d e).arcs (flowF (oddF c d e) f) = yTake takeLoop (oddF c d e).arcs (flowF (oddF c d e) f) ∧
 flowF (oddF c d e) f = flowF (oddF c d e) f ∧
 (TrimLoops_a0 c d e) ∧
 (loopS (oddF c d e)).fst.inst.sup = (loopS (oddF c d e)).fst.inst.sup ∧
 (loopS (oddF c d e)).fst.inst.arcs = (loopS (oddF c d e)).fst.inst.arcs ∧
 (loopS (oddF c d e)).fst.was.sup = (loopS (oddF c d e)).fst.was.sup ∧
 (loopS (oddF c d e)).fst.was.arcs = (loopS (oddF c d e)).fst.was.arcs ∧
 (True ∧ True ∧ True) ∧
 (oddF c d e).sup = (oddF c d e).sup ∧ (oddF c d e).arcs = (oddF c d e).arcs ∧ True))) ∧
 ((x.src == x.dst) = false →
 ∃ (g' : Nat),
 g' ≤ (loopS (oddF c d e)).fst.inst.arcs.length ∧
 (loopS (oddF c d e)).fst.inst.arcs.length - g' < (loopS (oddF c d e)).fst.inst.arcs.length - g ∧
 (TrimLoops_a2 g g') ∧
 ((TrimLoops_a3 c d e).hi = (TrimLoops_a3 c d e).hi ∧
 (TrimLoops_a3 c d e).lo = (TrimLoops_a3 c d e).lo ∧ True) ∧
 yTake takeLoop (oddF c d e).arcs (flowF (oddF c d e) f) = yTake takeLoop (oddF c d e).arcs (flowF (oddF c d e) f) ∧
 flowF (oddF c d e) f = flowF (oddF c d e) f ∧
 (TrimLoops_a0 c d e) ∧
 (loopS (oddF c d e)).fst.inst.sup = (loopS (oddF c d e)).fst.inst.sup ∧
 (loopS (oddF c d e)).fst.inst.arcs = (loopS (oddF c d e)).fst.inst.arcs ∧
 (loopS (oddF c d e)).fst.was.sup = (loopS (oddF c d e)).fst.was.sup ∧
 (loopS (oddF c d e)).fst.was.arcs = (loopS (oddF c d e)).fst.was.arcs ∧
 (True ∧ True ∧ True) ∧ (oddF c d e).sup = (oddF c d e).sup ∧ (oddF c d e).arcs = (oddF c d e).arcs ∧ True)) ∧
 (decide ((↑g : Int) < (↑(loopS (oddF c d e)).fst.inst.arcs.length : Int)) = false →
 ((loopS (oddF c d e)).fst.inst.sup.length ≤ (10000 : Nat) ∧
 (loopS (oddF c d e)).fst.inst.arcs.length ≤ (10000 : Nat) ∧
 A64 (TrimLoops_a6 c d e f) ∧ A64 (loopS (oddF c d e)).fst.inst.sup) ∧
 True ∧
 (true = true →
 (decide
 ([(loopS (oddF c d e)).fst.off.hi, (loopS (oddF c d e)).fst.off.lo] =
 [(TrimLoops_a3 c d e).hi, (TrimLoops_a3 c d e).lo]) =
 true →
 ((oddF c d e).sup.length ≤ (10000 : Nat) ∧
 (oddF c d e).arcs.length ≤ (10000 : Nat) ∧ A64 (flowF (oddF c d e) f) ∧ A64 (oddF c d e).sup) ∧
 (((fitsF (oddF c d e) (flowF (oddF c d e) f) == (0 : Int)) ==
 (fitsF (loopS (oddF c d e)).fst.inst (TrimLoops_a6 c d e f) == (0 : Int))) =
 true →
 (A64 (flowF (oddF c d e) f) ∧ A64c (oddF c d e).arcs ∧ (oddF c d e).arcs.length ≤ (1000000 : Nat)) ∧
 (A64 (TrimLoops_a6 c d e f) ∧
 A64c (loopS (oddF c d e)).fst.inst.arcs ∧ (loopS (oddF c d e)).fst.inst.arcs.length ≤ (1000000 : Nat)) ∧
 ((W (costF (loopS (oddF c d e)).fst.inst (TrimLoops_a6 c d e f))).ok ∧
 (TrimLoops_a3 c d e).ok) ∧
 ((W (costF (oddF c d e) (flowF (oddF c d e) f))).ok ∧
 (wplus (W (costF (loopS (oddF c d e)).fst.inst (TrimLoops_a6 c d e f)))
 (TrimLoops_a3 c d e)).ok) ∧
 (decide
 (wcmp (W (costF (oddF c d e) (flowF (oddF c d e) f)))
 (wplus (W (costF (loopS (oddF c d e)).fst.inst (TrimLoops_a6 c d e f)))
 (TrimLoops_a3 c d e)) ≥
 (0 : Int)) =
 true ∧
 True) ∧
 True) ∧
 (((fitsF (oddF c d e) (flowF (oddF c d e) f) == (0 : Int)) ==
 (fitsF (loopS (oddF c d e)).fst.inst (TrimLoops_a6 c d e f) == (0 : Int))) =
 false →
 (false = true ∧ True) ∧ True)) ∧
 (decide
 ([(loopS (oddF c d e)).fst.off.hi, (loopS (oddF c d e)).fst.off.lo] =
 [(TrimLoops_a3 c d e).hi, (TrimLoops_a3 c d e).lo]) =
 false →
 (false = true ∧ True) ∧ True)) ∧
 (true = false → (false = true ∧ True) ∧ True))))
theorem TrimLoops_q (c : List Int) (d : List Int) (e : List Int) (f : List Int) (ty0 ty1 ty2 ty3 : TypeId) : TrimLoops_E0 c d e f ty0 ty1 ty2 ty3 = FVcP TT TrimLoops_g (TrimLoops_I c d e f) (TrimLoops_an c d e f) Try.f10 [.row 0, .row 1, .row 2, .row 3] [(0, .row false ty0 (.ints .u8 c)), (1, .row false ty1 (.ints .u8 d)), (2, .row false ty2 (.ints .u8 e)), (3, .row false ty3 (.ints .u8 f))] (TrimLoops_r c d e f) := by kernel_rfl
theorem TrimLoops_E (c : List Int) (d : List Int) (e : List Int) (f : List Int) (ty0 ty1 ty2 ty3 : TypeId) (hp : Bytes c ∧ Bytes d ∧ c.length ≤ maxLen ∧ d.length ≤ maxLen ∧ Bytes e ∧ e.length ≤ maxLen ∧ Bytes f ∧ f.length ≤ maxLen) : FVc TT TrimLoops_g (TrimLoops_I c d e f) (TrimLoops_an c d e f) Try.f10 [.row 0, .row 1, .row 2, .row 3] [(0, .row false ty0 (.ints .u8 c)), (1, .row false ty1 (.ints .u8 d)), (2, .row false ty2 (.ints .u8 e)), (3, .row false ty3 (.ints .u8 f))] (TrimLoops_r c d e f) := by
  refine FVc.of (TrimLoops_E0 c d e f ty0 ty1 ty2 ty3) (TrimLoops_q c d e f ty0 ty1 ty2 ty3) ?_
  unfold TrimLoops_E0
  delta TrimLoops_a6 TrimLoops_a5 TrimLoops_a4 TrimLoops_a3 TrimLoops_a2 TrimLoops_a1 TrimLoops_a0
  obtain ⟨b1, b2, b3, b4, b5, b6, b7, b8⟩ := hp
  obtain ⟨o1, o2, o3, o4, o5, o6⟩ := oddF_all c d e
  refine ⟨⟨b1, b2, b3, b4, b5, b6⟩, ?_⟩
  generalize oddF c d e = I at *
  obtain ⟨a1, a2, a3, a4⟩ := right_A64 o1
  have hFl := flowF_len I f
  have hF := flow_few o5 f
  simp only [eq_self, exists_const, forall_const, decide_eq_true_eq, decide_eq_false_iff_not, and_true, true_and, bne_iff_ne, ne_eq, bne_eq_false_iff_eq, Int.toNat_natCast, Bool.not_eq_true', Bool.not_eq_false', beq_iff_eq, beq_eq_false_iff_ne, nilEq_true]
  refine ⟨by omega, ⟨b7, by omega, a4⟩, fun _ => trivial, fun h0 => ?_⟩
  obtain ⟨-, e1, hJ, e2⟩ := loopS_all h0
  have hend := loops_end o5 f h0
  rw [e1] at hend ⊢
  rw [e2]
  have hnone := take_none takeLoop I
  have hJs := right_small hJ
  obtain ⟨d1, d2, d3, d4⟩ := right_A64 hJ
  have hY := yTake_few takeLoop I.arcs _ hF
  generalize flowF I f = F at *
  generalize takeI takeLoop I = J at *
  have hw : ∀ g : Nat, g ≤ 1000 → IntKind.i64.wrap ((g : Int) + 1) = ((g + 1 : Nat) : Int) := fun g hg => by rw [w64 (by omega) (by omega)]; omega
  refine ⟨0, ⟨by omega, rfl, by simp [offAll, W_zero], by simp [yTake]⟩, fun g hg => ⟨fun hl => ?_, fun hl => ?_⟩⟩
  · have hgl : g < I.arcs.length := by omega
    obtain ⟨a, ha⟩ : ∃ a, I.arcs[g]? = some a := ⟨_, List.getElem?_eq_getElem hgl⟩
    have hlk : (I.arcs.take g).length = g := by rw [List.length_take]; omega
    have hx : F[g]? = some (F.getD g 0) := by rw [List.getD_eq_getElem?_getD, List.getElem?_eq_getElem (show g < F.length by omega)]; rfl
    have hy := yTake_snoc takeLoop a (I.arcs.take g) F
    have hoff := offAll_snoc takeLoop a (I.arcs.take g) 0
    rw [hlk, ← take_get ha] at hy
    rw [← take_get ha] at hoff
    have hyl : (yTake takeLoop (I.arcs.take g) F).length ≤ g := by
      rw [yTake_len]; exact Nat.le_trans (List.length_filter_le _ _) (by rw [hlk]; exact Nat.le_refl _)
    have hm := List.mem_of_getElem? ha
    have hc := a1 a hm
    have hk := a2 a hm
    simp only [ha, hx, Option.some.injEq, forall_eq', hw g (by omega), wplus_W, W_ok]
    have none_ : takeLoop a = none → ∃ g' : Nat, g' ≤ I.arcs.length ∧ I.arcs.length - g' < I.arcs.length - g ∧ ((g + 1 : Nat) : Int) = (g' : Int) ∧ ((W (offAll takeLoop (List.take g I.arcs) 0)).hi = (W (offAll takeLoop (List.take g' I.arcs) 0)).hi ∧ (W (offAll takeLoop (List.take g I.arcs) 0)).lo = (W (offAll takeLoop (List.take g' I.arcs) 0)).lo) ∧ yTake takeLoop (List.take g I.arcs) F ++ [F.getD g 0] = yTake takeLoop (List.take g' I.arcs) F := fun hf =>
      ⟨g + 1, by omega, by omega, rfl, by rw [hoff, hf]; exact ⟨rfl, rfl⟩, by rw [hy, hf]; rfl⟩
    have some_ : ∀ n, takeLoop a = some n → ∃ g' : Nat, g' ≤ I.arcs.length ∧ I.arcs.length - g' < I.arcs.length - g ∧ ((g + 1 : Nat) : Int) = (g' : Int) ∧ ((W (offAll takeLoop (List.take g I.arcs) 0 + a.cost * n)).hi = (W (offAll takeLoop (List.take g' I.arcs) 0)).hi ∧ (W (offAll takeLoop (List.take g I.arcs) 0 + a.cost * n)).lo = (W (offAll takeLoop (List.take g' I.arcs) 0)).lo) ∧ yTake takeLoop (List.take g I.arcs) F = yTake takeLoop (List.take g' I.arcs) F := fun n hf =>
      ⟨g + 1, by omega, by omega, rfl, by rw [hoff, hf, Int.mul_comm]; exact ⟨rfl, rfl⟩, by rw [hy, hf]; simp⟩
    have hl2 : g < F.length := by omega
    refine ⟨by omega, hgl, fun c1 => ⟨by omega, hl2, by omega, none_ (by unfold takeLoop; rw [if_pos (.inl c1)])⟩, fun c1 => ⟨fun c2 => ⟨fun c3 => ⟨by omega, hl2, by omega, none_ (by unfold takeLoop; rw [if_pos (.inr ⟨c2, c3⟩)])⟩, fun c3 => ⟨fun _ => ⟨⟨hk, hc.2⟩, ⟨trivial, trivial⟩, some_ _ (by unfold takeLoop inf; rw [if_neg (by omega), if_neg (by omega)])⟩, fun c4 => by omega⟩⟩,
      fun c2 => ⟨fun c4 => by omega, fun _ => ⟨⟨hk, hc.1⟩, ⟨trivial, trivial⟩, some_ _ (by unfold takeLoop inf; rw [if_neg (by omega), if_pos (by omega)])⟩⟩⟩⟩
  · have eg : g = I.arcs.length := by omega
    subst eg
    rw [List.take_length]
    refine ⟨0, ⟨by omega, rfl, ⟨rfl, rfl⟩, rfl⟩, fun q hq => ⟨fun hl2 => ⟨by omega, by omega, fun a ha => ?_⟩, fun hl2 => ?_⟩⟩
    · have hna := anyF_none hnone (List.mem_of_getElem? ha)
      have hq2 := hw q (by omega)
      have hin : a.src = a.dst → a.cost < 0 ∧ a.cap = 4611686018427387904 := fun h1 => by
        unfold takeLoop inf at hna
        split at hna
        · omega
        · split at hna <;> cases hna
      refine ⟨fun h1 => ⟨fun h2 => ?_, fun h2 => ⟨fun h3 => ?_, fun h3 => ⟨q + 1, by omega, by omega, hq2⟩⟩⟩, fun h1 => ⟨q + 1, by omega, by omega, hq2⟩⟩
      · have := hin h1; omega
      · exact absurd (hin h1).2 h3
    · have e3 : (fitsF I F == 0) = (fitsF J (yTake takeLoop I.arcs F) == 0) := by
        rw [Bool.eq_iff_iff, beq_iff_eq, beq_iff_eq]; exact hend.1
      have n1 : I.sup.length ≤ 10000 := by omega
      have n2 : I.arcs.length ≤ 10000 := by omega
      have n3 : J.sup.length ≤ 10000 := by omega
      have n4 : J.arcs.length ≤ 10000 := by omega
      have n5 : I.arcs.length ≤ 1000000 := by omega
      have n6 : J.arcs.length ≤ 1000000 := by omega
      have hge := hend.2
      simp [e3, hF.a64, hY.a64, a2, a3, d2, d3, n1, n2, n3, n4, n5, n6, W_ok, wplus_ok]
      simpa using hge
theorem TrimLoops_ok : SpecOk Try.prog TrimLoops_n true (specOf true TrimLoops_fs) :=
  spec_ok' TT_ok (show GsOk Try.prog TrimLoops_g from gsOk_cons Odd_ok (gsOk_cons Loop_ok (gsOk_cons Flow_ok (gsOk_cons known15_ok (gsOk_cons Fits_ok (gsOk_cons Cost_ok (gsOk_cons Plus_ok (gsOk_cons Times_ok (gsOk_cons Compare_ok (gsOk_nil)))))))))) (by kernel_rfl) mixedOrders Try.func10 rfl rfl (by kernel_rfl) (n := 4) (by decide +kernel) (I := TrimLoops_IA) (fun _ _ => isOk_nil) (A := TrimLoops_A)
    (fun args h r hr => by
      unfold TrimLoops_fs at hr
      split at hr
      · rename_i ty0 c ty1 d ty2 e ty3 f; cases hr; refine ⟨rfl, fun hp => ?_⟩; have hE := TrimLoops_E c d e f ty0 ty1 ty2 ty3 hp; exact hE
      · cases hr)
end Go.Proofs.Ytahbkllfifmdfaa
