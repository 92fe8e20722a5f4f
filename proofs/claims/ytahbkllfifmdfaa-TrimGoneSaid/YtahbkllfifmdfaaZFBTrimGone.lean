/- Part of the proof, FBTrimGone. -/
import Derived.Test.YtahbkllfifmdfaaZFV15
import Derived.Test.YtahbkllfifmdfaaZDBTrimGone
import Derived.Test.YtahbkllfifmdfaaZVc11
set_option linter.unusedVariables false
set_option linter.all false
set_option linter.unusedSimpArgs false
set_option maxRecDepth 100000
namespace Go.Proofs.Ytahbkllfifmdfaa
open Go Go.RowKit Go.Ql Go.Vc
abbrev TrimGone_a0 (c : List Int) (d : List Int) (e : List Int) := (True ∧
 True ∧
 (loneS (oddF c d e)).fst.pass = (loneS (oddF c d e)).fst.pass ∧
 True ∧
 True ∧
 (loneS (oddF c d e)).fst.off.hi = (loneS (oddF c d e)).fst.off.hi ∧
 (loneS (oddF c d e)).fst.off.lo = (loneS (oddF c d e)).fst.off.lo ∧
 (loneS (oddF c d e)).fst.did = (loneS (oddF c d e)).fst.did ∧ True)
abbrev TrimGone_a1 (c : List Int) (d : List Int) (e : List Int) := (True ∧
 True ∧
 (fixS (oddF c d e)).fst.pass = (fixS (oddF c d e)).fst.pass ∧
 True ∧
 True ∧
 (fixS (oddF c d e)).fst.off.hi = (fixS (oddF c d e)).fst.off.hi ∧
 (fixS (oddF c d e)).fst.off.lo = (fixS (oddF c d e)).fst.off.lo ∧
 (fixS (oddF c d e)).fst.did = (fixS (oddF c d e)).fst.did ∧ True)
abbrev TrimGone_a2 (c : List Int) (d : List Int) (e : List Int) := (True ∧
 True ∧
 (lowS (oddF c d e)).fst.pass = (lowS (oddF c d e)).fst.pass ∧
 True ∧
 True ∧
 (lowS (oddF c d e)).fst.off.hi = (lowS (oddF c d e)).fst.off.hi ∧
 (lowS (oddF c d e)).fst.off.lo = (lowS (oddF c d e)).fst.off.lo ∧
 (lowS (oddF c d e)).fst.did = (lowS (oddF c d e)).fst.did ∧ True)
abbrev TrimGone_a3 (c : List Int) (d : List Int) (e : List Int) := (True ∧
 True ∧
 (lowS (oddF c d e)).fst.pass =
 (lowS (oddF c d e)).fst.pass ∧
 True ∧
 True ∧
 (lowS (oddF c d e)).fst.off.hi =
 (lowS (oddF c d e)).fst.off.hi ∧
 (lowS (oddF c d e)).fst.off.lo =
 (lowS (oddF c d e)).fst.off.lo ∧
 (lowS (oddF c d e)).fst.did =
 (lowS (oddF c d e)).fst.did ∧
 True)
abbrev TrimGone_a4 (c : List Int) (d : List Int) (e : List Int) := (True ∧
 True ∧
 (lowS (oddF c d e)).fst.pass = (lowS (oddF c d e)).fst.pass ∧
 True ∧
 True ∧
 (lowS (oddF c d e)).fst.off.hi =
 (lowS (oddF c d e)).fst.off.hi ∧
 (lowS (oddF c d e)).fst.off.lo =
 (lowS (oddF c d e)).fst.off.lo ∧
 (lowS (oddF c d e)).fst.did =
 (lowS (oddF c d e)).fst.did ∧
 True)
abbrev TrimGone_a5 (c : List Int) (d : List Int) (e : List Int) := (True ∧
 True ∧
 (fixS (oddF c d e)).fst.pass = (fixS (oddF c d e)).fst.pass ∧
 True ∧
 True ∧
 (fixS (oddF c d e)).fst.off.hi = (fixS (oddF c d e)).fst.off.hi ∧
 (fixS (oddF c d e)).fst.off.lo = (fixS (oddF c d e)).fst.off.lo ∧
 (fixS (oddF c d e)).fst.did = (fixS (oddF c d e)).fst.did ∧
 True)
abbrev TrimGone_a6 (g0 : Nat) := ((0 : Nat) = (0 : Nat) ∧ (0 : Nat) = (0 : Nat) ∧ (0 : Nat) = (0 : Nat) ∧ (0 : Nat) = (0 : Nat) ∧ (0 : Int) = (↑g0 : Int) ∧ True)
def TrimGone_E0 (c : List Int) (d : List Int) (e : List Int) (ty0 ty1 ty2 : TypeId) : Prop :=
      (Bytes c ∧ Bytes d ∧ c.length ≤ maxLen ∧ d.length ≤ maxLen ∧ Bytes e ∧ e.length ≤ maxLen) ∧
 ((oddF c d e).sup.length ≤ (1000000 : Nat) ∧ (oddF c d e).arcs.length ≤ (1000000 : Nat)) ∧
 ((oddF c d e).sup.length ≤ (1000000 : Nat) ∧ (oddF c d e).arcs.length ≤ (1000000 : Nat)) ∧
 ((oddF c d e).sup.length ≤ (1000000 : Nat) ∧ (oddF c d e).arcs.length ≤ (1000000 : Nat)) ∧
 (((lowS (oddF c d e)).snd != (0 : Int)) = true → True ∧ (true = true ∧ True) ∧ True) ∧
 (((lowS (oddF c d e)).snd != (0 : Int)) = false →
 (((fixS (oddF c d e)).snd != (0 : Int)) = true → True ∧ (true = true ∧ True) ∧ True) ∧
 (((fixS (oddF c d e)).snd != (0 : Int)) = false →
 (((loneS (oddF c d e)).snd != (0 : Int)) = true → True ∧ (true = true ∧ True) ∧ True) ∧
 (((loneS (oddF c d e)).snd != (0 : Int)) = false →
 ∃ (g0 : Nat),
 (g0 ≤ (lowS (oddF c d e)).fst.inst.arcs.length ∧
 (TrimGone_a6 g0) ∧
 (True ∧
 True ∧
 (loneS (oddF c d e)).fst.pass = (loneS (oddF c d e)).fst.pass ∧
 True ∧
 True ∧
 (loneS (oddF c d e)).fst.off.hi = (loneS (oddF c d e)).fst.off.hi ∧
 (loneS (oddF c d e)).fst.off.lo = (loneS (oddF c d e)).fst.off.lo ∧ (loneS (oddF c d e)).fst.did = (loneS (oddF c d e)).fst.did ∧ True) ∧
 (loneS (oddF c d e)).fst.inst.sup = (loneS (oddF c d e)).fst.inst.sup ∧
 (loneS (oddF c d e)).fst.inst.arcs = (loneS (oddF c d e)).fst.inst.arcs ∧
 (loneS (oddF c d e)).fst.was.sup = (loneS (oddF c d e)).fst.was.sup ∧
 (loneS (oddF c d e)).fst.was.arcs = (loneS (oddF c d e)).fst.was.arcs ∧
 (TrimGone_a1 c d e) ∧
 (fixS (oddF c d e)).fst.inst.sup = (fixS (oddF c d e)).fst.inst.sup ∧
 (fixS (oddF c d e)).fst.inst.arcs = (fixS (oddF c d e)).fst.inst.arcs ∧
 (fixS (oddF c d e)).fst.was.sup = (fixS (oddF c d e)).fst.was.sup ∧
 (fixS (oddF c d e)).fst.was.arcs = (fixS (oddF c d e)).fst.was.arcs ∧
 (TrimGone_a2 c d e) ∧
 (lowS (oddF c d e)).fst.inst.sup = (lowS (oddF c d e)).fst.inst.sup ∧
 (lowS (oddF c d e)).fst.inst.arcs = (lowS (oddF c d e)).fst.inst.arcs ∧
 (lowS (oddF c d e)).fst.was.sup = (lowS (oddF c d e)).fst.was.sup ∧
 (lowS (oddF c d e)).fst.was.arcs = (lowS (oddF c d e)).fst.was.arcs ∧
 (True ∧ True ∧ True) ∧ (oddF c d e).sup = (oddF c d e).sup ∧ (oddF c d e).arcs = (oddF c d e).arcs ∧ True) ∧
 ∀ (g : Nat),
 g ≤ (lowS (oddF c d e)).fst.inst.arcs.length →
 (decide ((↑g : Int) < (↑(lowS (oddF c d e)).fst.inst.arcs.length : Int)) = true →
 ((0 : Int) ≤ (↑g : Int) ∧ (↑g : Int) < (↑(lowS (oddF c d e)).fst.inst.arcs.length : Int)) ∧
 (↑g : Int).toNat < (lowS (oddF c d e)).fst.inst.arcs.length ∧
 ∀ (x : Arc),
 (lowS (oddF c d e)).fst.inst.arcs[(↑g : Int).toNat]? = some x →
 ((x.low != (0 : Int)) = true → (false = true ∧ True) ∧ True) ∧
 ((x.low != (0 : Int)) = false →
 ∃ (g' : Nat),
 g' ≤ (lowS (oddF c d e)).fst.inst.arcs.length ∧
 (lowS (oddF c d e)).fst.inst.arcs.length - g' < (lowS (oddF c d e)).fst.inst.arcs.length - g ∧
 ((0 : Nat) = (0 : Nat) ∧
 (0 : Nat) = (0 : Nat) ∧
 (0 : Nat) = (0 : Nat) ∧ (0 : Nat) = (0 : Nat) ∧ IntKind.i64.wrap ((↑g : Int) + (1 : Int)) = (↑g' : Int) ∧ True) ∧
 (TrimGone_a0 c d e) ∧
 (loneS (oddF c d e)).fst.inst.sup = (loneS (oddF c d e)).fst.inst.sup ∧
 (loneS (oddF c d e)).fst.inst.arcs = (loneS (oddF c d e)).fst.inst.arcs ∧
 (loneS (oddF c d e)).fst.was.sup = (loneS (oddF c d e)).fst.was.sup ∧
 (loneS (oddF c d e)).fst.was.arcs = (loneS (oddF c d e)).fst.was.arcs ∧
 (TrimGone_a1 c d e) ∧
 (fixS (oddF c d e)).fst.inst.sup = (fixS (oddF c d e)).fst.inst.sup ∧
 (fixS (oddF c d e)).fst.inst.arcs = (fixS (oddF c d e)).fst.inst.arcs ∧
 (fixS (oddF c d e)).fst.was.sup = (fixS (oddF c d e)).fst.was.sup ∧
 (fixS (oddF c d e)).fst.was.arcs = (fixS (oddF c d e)).fst.was.arcs ∧
 (TrimGone_a2 c d e) ∧
 (lowS (oddF c d e)).fst.inst.sup = (lowS (oddF c d e)).fst.inst.sup ∧
 (lowS (oddF c d e)).fst.inst.arcs = (lowS (oddF c d e)).fst.inst.arcs ∧
 (lowS (oddF c d e)).fst.was.sup = (lowS (oddF c d e)).fst.was.sup ∧
 (lowS (oddF c d e)).fst.was.arcs = (lowS (oddF c d e)).fst.was.arcs ∧
 (True ∧ True ∧ True) ∧
 (oddF c d e).sup = (oddF c d e).sup ∧ (oddF c d e).arcs = (oddF c d e).arcs ∧ True)) ∧
 (decide ((↑g : Int) < (↑(lowS (oddF c d e)).fst.inst.arcs.length : Int)) = false →
 ∃ (g0 : Nat),
 (g0 ≤ (fixS (oddF c d e)).fst.inst.arcs.length ∧
 (TrimGone_a6 g0) ∧
 (TrimGone_a0 c d e) ∧
 (loneS (oddF c d e)).fst.inst.sup = (loneS (oddF c d e)).fst.inst.sup ∧
 (loneS (oddF c d e)).fst.inst.arcs = (loneS (oddF c d e)).fst.inst.arcs ∧
 (loneS (oddF c d e)).fst.was.sup = (loneS (oddF c d e)).fst.was.sup ∧
 (loneS (oddF c d e)).fst.was.arcs = (loneS (oddF c d e)).fst.was.arcs ∧
 (TrimGone_a1 c d e) ∧
 (fixS (oddF c d e)).fst.inst.sup = (fixS (oddF c d e)).fst.inst.sup ∧
 (fixS (oddF c d e)).fst.inst.arcs = (fixS (oddF c d e)).fst.inst.arcs ∧
 (fixS (oddF c d e)).fst.was.sup = (fixS (oddF c d e)).fst.was.sup ∧
 (fixS (oddF c d e)).fst.was.arcs = (fixS (oddF c d e)).fst.was.arcs ∧
 (TrimGone_a2 c d e) ∧
 (lowS (oddF c d e)).fst.inst.sup = (lowS (oddF c d e)).fst.inst.sup ∧
 (lowS (oddF c d e)).fst.inst.arcs = (lowS (oddF c d e)).fst.inst.arcs ∧
 (lowS (oddF c d e)).fst.was.sup = (lowS (oddF c d e)).fst.was.sup ∧
 (lowS (oddF c d e)).fst.was.arcs = (lowS (oddF c d e)).fst.was.arcs ∧
 (True ∧ True ∧ True) ∧ (oddF c d e).sup = (oddF c d e).sup ∧ (oddF c d e).arcs = (oddF c d e).arcs ∧ True) ∧
 ∀ (g : Nat),
 g ≤ (fixS (oddF c d e)).fst.inst.arcs.length →
 (decide ((↑g : Int) < (↑(fixS (oddF c d e)).fst.inst.arcs.length : Int)) = true →
 ((0 : Int) ≤ (↑g : Int) ∧ (↑g : Int) < (↑(fixS (oddF c d e)).fst.inst.arcs.length : Int)) ∧
 (↑g : Int).toNat < (fixS (oddF c d e)).fst.inst.arcs.length ∧
 ∀ (x : Arc),
 (fixS (oddF c d e)).fst.inst.arcs[(↑g : Int).toNat]? = some x →
 ((0 : Int) ≤ (↑g : Int) ∧ (↑g : Int) < (↑(fixS (oddF c d e)).fst.inst.arcs.length : Int)) ∧
 (↑g : Int).toNat < (fixS (oddF c d e)).fst.inst.arcs.length ∧
 ∀ (x_1 : Arc),
 (fixS (oddF c d e)).fst.inst.arcs[(↑g : Int).toNat]? = some x_1 →
 ((x.low == x_1.cap) = true → (false = true ∧ True) ∧ True) ∧
 ((x.low == x_1.cap) = false →
 ∃ (g' : Nat),
 g' ≤ (fixS (oddF c d e)).fst.inst.arcs.length ∧
 (fixS (oddF c d e)).fst.inst.arcs.length - g' < (fixS (oddF c d e)).fst.inst.arcs.length - g ∧
 ((0 : Nat) = (0 : Nat) ∧
 (0 : Nat) = (0 : Nat) ∧
 (0 : Nat) = (0 : Nat) ∧
 (0 : Nat) = (0 : Nat) ∧ IntKind.i64.wrap ((↑g : Int) + (1 : Int)) = (↑g' : Int) ∧ True) ∧
 (TrimGone_a0 c d e) ∧
 (loneS (oddF c d e)).fst.inst.sup = (loneS (oddF c d e)).fst.inst.sup ∧
 (loneS (oddF c d e)).fst.inst.arcs = (loneS (oddF c d e)).fst.inst.arcs ∧
 (loneS (oddF c d e)).fst.was.sup = (loneS (oddF c d e)).fst.was.sup ∧
 (loneS (oddF c d e)).fst.was.arcs = (loneS (oddF c d e)).fst.was.arcs ∧
 (TrimGone_a1 c d e) ∧
 (fixS (oddF c d e)).fst.inst.sup = (fixS (oddF c d e)).fst.inst.sup ∧
 (fixS (oddF c d e)).fst.inst.arcs = (fixS (oddF c d e)).fst.inst.arcs ∧
 (fixS (oddF c d e)).fst.was.sup = (fixS (oddF c d e)).fst.was.sup ∧
 (fixS (oddF c d e)).fst.was.arcs = (fixS (oddF c d e)).fst.was.arcs ∧
 (TrimGone_a2 c d e) ∧
 (lowS (oddF c d e)).fst.inst.sup = (lowS (oddF c d e)).fst.inst.sup ∧
 (lowS (oddF c d e)).fst.inst.arcs = (lowS (oddF c d e)).fst.inst.arcs ∧
 (lowS (oddF c d e)).fst.was.sup = (lowS (oddF c d e)).fst.was.sup ∧
 (lowS (oddF c d e)).fst.was.arcs = (lowS (oddF c d e)).fst.was.arcs ∧
 (True ∧ True ∧ True) ∧
 (oddF c d e).sup = (oddF c d e).sup ∧
 (oddF c d e).arcs = (oddF c d e).arcs ∧ True)) ∧
 (decide ((↑g : Int) < (↑(fixS (oddF c d e)).fst.inst.arcs.length : Int)) = false →
 ∃ (g0 : Nat),
 (g0 ≤ (loneS (oddF c d e)).fst.inst.sup.length ∧
 (TrimGone_a6 g0) ∧
 (TrimGone_a0 c d e) ∧
 (loneS (oddF c d e)).fst.inst.sup = (loneS (oddF c d e)).fst.inst.sup ∧
 (loneS (oddF c d e)).fst.inst.arcs = (loneS (oddF c d e)).fst.inst.arcs ∧
 (loneS (oddF c d e)).fst.was.sup = (loneS (oddF c d e)).fst.was.sup ∧
 (loneS (oddF c d e)).fst.was.arcs = (loneS (oddF c d e)).fst.was.arcs ∧
 (TrimGone_a1 c d e) ∧
 (fixS (oddF c d e)).fst.inst.sup = (fixS (oddF c d e)).fst.inst.sup ∧
 (fixS (oddF c d e)).fst.inst.arcs = (fixS (oddF c d e)).fst.inst.arcs ∧
 (fixS (oddF c d e)).fst.was.sup = (fixS (oddF c d e)).fst.was.sup ∧
 (fixS (oddF c d e)).fst.was.arcs = (fixS (oddF c d e)).fst.was.arcs ∧
 (TrimGone_a2 c d e) ∧
 (lowS (oddF c d e)).fst.inst.sup = (lowS (oddF c d e)).fst.inst.sup ∧
 (lowS (oddF c d e)).fst.inst.arcs = (lowS (oddF c d e)).fst.inst.arcs ∧
 (lowS (oddF c d e)).fst.was.sup = (lowS (oddF c d e)).fst.was.sup ∧
 (lowS (oddF c d e)).fst.was.arcs = (lowS (oddF c d e)).fst.was.arcs ∧
 (True ∧ True ∧ True) ∧
 (oddF c d e).sup = (oddF c d e).sup ∧ (oddF c d e).arcs = (oddF c d e).arcs ∧ True) ∧
 ∀ (g : Nat),
 g ≤ (loneS (oddF c d e)).fst.inst.sup.length →
 (decide ((↑g : Int) < (↑(loneS (oddF c d e)).fst.inst.sup.length : Int)) = true →
 ((0 : Int) ≤ (↑g : Int) ∧ (↑g : Int) < (↑(loneS (oddF c d e)).fst.inst.sup.length : Int)) ∧
 (↑g : Int).toNat < (loneS (oddF c d e)).fst.inst.sup.length ∧
 ∀ (x : Int),
 (loneS (oddF c d e)).fst.inst.sup[(↑g : Int).toNat]? = some x →
 ∃ (g0 : Nat × Nat),
 ((g0.fst = g0.fst ∧ g0.snd ≤ (loneS (oddF c d e)).fst.inst.arcs.length) ∧
 ((0 : Nat) = (0 : Nat) ∧
 (0 : Nat) = (0 : Nat) ∧
 (0 : Nat) = (0 : Nat) ∧
 (0 : Nat) = (0 : Nat) ∧
 (↑g : Int) = (↑g0.1 : Int) ∧
 (x != (0 : Int)) = isTo (loneS (oddF c d e)).fst.inst g0.1 g0.2 ∧
 (0 : Int) = (↑g0.2 : Int) ∧ True) ∧
 (TrimGone_a0 c d e) ∧
 (loneS (oddF c d e)).fst.inst.sup = (loneS (oddF c d e)).fst.inst.sup ∧
 (loneS (oddF c d e)).fst.inst.arcs = (loneS (oddF c d e)).fst.inst.arcs ∧
 (loneS (oddF c d e)).fst.was.sup = (loneS (oddF c d e)).fst.was.sup ∧
 (loneS (oddF c d e)).fst.was.arcs = (loneS (oddF c d e)).fst.was.arcs ∧
 (TrimGone_a1 c d e) ∧
 (fixS (oddF c d e)).fst.inst.sup = (fixS (oddF c d e)).fst.inst.sup ∧
 (fixS (oddF c d e)).fst.inst.arcs = (fixS (oddF c d e)).fst.inst.arcs ∧
 (fixS (oddF c d e)).fst.was.sup = (fixS (oddF c d e)).fst.was.sup ∧
 (fixS (oddF c d e)).fst.was.arcs = (fixS (oddF c d e)).fst.was.arcs ∧
 (TrimGone_a2 c d e) ∧
 (lowS (oddF c d e)).fst.inst.sup = (lowS (oddF c d e)).fst.inst.sup ∧
 (lowS (oddF c d e)).fst.inst.arcs = (lowS (oddF c d e)).fst.inst.arcs ∧
 (lowS (oddF c d e)).fst.was.sup = (lowS (oddF c d e)).fst.was.sup ∧
 (lowS (oddF c d e)).fst.was.arcs = (lowS (oddF c d e)).fst.was.arcs ∧
 (True ∧ True ∧ True) ∧
 (oddF c d e).sup = (oddF c d e).sup ∧
 (oddF c d e).arcs = (oddF c d e).arcs ∧ True) ∧
 ∀ (g_1 : Nat × Nat),
 g_1.fst = g0.fst ∧ g_1.snd ≤ (loneS (oddF c d e)).fst.inst.arcs.length →
 (decide ((↑g_1.2 : Int) < (↑(loneS (oddF c d e)).fst.inst.arcs.length : Int)) = true →
 (isTo (loneS (oddF c d e)).fst.inst g_1.1 g_1.2 = true →
 ∃ (g' : Nat × Nat),
 (g'.fst = g0.fst ∧ g'.snd ≤ (loneS (oddF c d e)).fst.inst.arcs.length) ∧
 (loneS (oddF c d e)).fst.inst.arcs.length - g'.snd <
 (loneS (oddF c d e)).fst.inst.arcs.length - g_1.snd ∧
 ((0 : Nat) = (0 : Nat) ∧
 (0 : Nat) = (0 : Nat) ∧
 (0 : Nat) = (0 : Nat) ∧
 (0 : Nat) = (0 : Nat) ∧
 (↑g_1.1 : Int) = (↑g'.1 : Int) ∧
 true = isTo (loneS (oddF c d e)).fst.inst g'.1 g'.2 ∧
 IntKind.i64.wrap ((↑g_1.2 : Int) + (1 : Int)) = (↑g'.2 : Int) ∧ True) ∧
 (TrimGone_a0 c d e) ∧
 (loneS (oddF c d e)).fst.inst.sup = (loneS (oddF c d e)).fst.inst.sup ∧
 (loneS (oddF c d e)).fst.inst.arcs = (loneS (oddF c d e)).fst.inst.arcs ∧
 (loneS (oddF c d e)).fst.was.sup = (loneS (oddF c d e)).fst.was.sup ∧
 (loneS (oddF c d e)).fst.was.arcs = (loneS (oddF c d e)).fst.was.arcs ∧
 (TrimGone_a5 c d e) ∧
 (fixS (oddF c d e)).fst.inst.sup = (fixS (oddF c d e)).fst.inst.sup ∧
 (fixS (oddF c d e)).fst.inst.arcs = (fixS (oddF c d e)).fst.inst.arcs ∧
 (fixS (oddF c d e)).fst.was.sup = (fixS (oddF c d e)).fst.was.sup ∧
 (fixS (oddF c d e)).fst.was.arcs = (fixS (oddF c d e)).fst.was.arcs ∧
 (TrimGone_a4 c d e) ∧
 (lowS (oddF c d e)).fst.inst.sup = (lowS (oddF c d e)).fst.inst.sup ∧
 (lowS (oddF c d e)).fst.inst.arcs =
 (lowS (oddF c d e)).fst.inst.arcs ∧
 (lowS (oddF c d e)).fst.was.sup =
 (lowS (oddF c d e)).fst.was.sup ∧
 (lowS (oddF c d e)).fst.was.arcs =
 (lowS (oddF c d e)).fst.was.arcs ∧
 (True ∧ True ∧ True) ∧
 (oddF c d e).sup = (oddF c d e).sup ∧
 (oddF c d e).arcs = (oddF c d e).arcs ∧ True) ∧
 (isTo (loneS (oddF c d e)).fst.inst g_1.1 g_1.2 = false →
 ((0 : Int) ≤ (↑g_1.2 : Int) ∧ (↑g_1.2 : Int) < (↑(loneS (oddF c d e)).fst.inst.arcs.length : Int)) ∧
 (↑g_1.2 : Int).toNat < (loneS (oddF c d e)).fst.inst.arcs.length ∧
 ∀ (x : Arc),
 (loneS (oddF c d e)).fst.inst.arcs[(↑g_1.2 : Int).toNat]? = some x →
 ((x.src == (↑g_1.1 : Int)) = true →
 ∃ (g' : Nat × Nat),
 (g'.fst = g0.fst ∧ g'.snd ≤ (loneS (oddF c d e)).fst.inst.arcs.length) ∧
 (loneS (oddF c d e)).fst.inst.arcs.length - g'.snd <
 (loneS (oddF c d e)).fst.inst.arcs.length - g_1.snd ∧
 ((0 : Nat) = (0 : Nat) ∧
 (0 : Nat) = (0 : Nat) ∧
 (0 : Nat) = (0 : Nat) ∧
 (0 : Nat) = (0 : Nat) ∧
 (↑g_1.1 : Int) = (↑g'.1 : Int) ∧
 true = isTo (loneS (oddF c d e)).fst.inst g'.1 g'.2 ∧
 IntKind.i64.wrap ((↑g_1.2 : Int) + (1 : Int)) = (↑g'.2 : Int) ∧
 True) ∧
 (True ∧
 True ∧
 (loneS (oddF c d e)).fst.pass = (loneS (oddF c d e)).fst.pass ∧
 True ∧
 True ∧
 (loneS (oddF c d e)).fst.off.hi = (loneS (oddF c d e)).fst.off.hi ∧
 (loneS (oddF c d e)).fst.off.lo =
 (loneS (oddF c d e)).fst.off.lo ∧
 (loneS (oddF c d e)).fst.did = (loneS (oddF c d e)).fst.did ∧
 True) ∧
 (loneS (oddF c d e)).fst.inst.sup = (loneS (oddF c d e)).fst.inst.sup ∧
 (loneS (oddF c d e)).fst.inst.arcs = (loneS (oddF c d e)).fst.inst.arcs ∧
 (loneS (oddF c d e)).fst.was.sup = (loneS (oddF c d e)).fst.was.sup ∧
 (loneS (oddF c d e)).fst.was.arcs = (loneS (oddF c d e)).fst.was.arcs ∧
 (True ∧
 True ∧
 (fixS (oddF c d e)).fst.pass = (fixS (oddF c d e)).fst.pass ∧
 True ∧
 True ∧
 (fixS (oddF c d e)).fst.off.hi =
 (fixS (oddF c d e)).fst.off.hi ∧
 (fixS (oddF c d e)).fst.off.lo =
 (fixS (oddF c d e)).fst.off.lo ∧
 (fixS (oddF c d e)).fst.did =
 (fixS (oddF c d e)).fst.did ∧
 True) ∧
 (fixS (oddF c d e)).fst.inst.sup =
 (fixS (oddF c d e)).fst.inst.sup ∧
 (fixS (oddF c d e)).fst.inst.arcs =
 (fixS (oddF c d e)).fst.inst.arcs ∧
 (fixS (oddF c d e)).fst.was.sup =
 (fixS (oddF c d e)).fst.was.sup ∧
 (fixS (oddF c d e)).fst.was.arcs =
 (fixS (oddF c d e)).fst.was.arcs ∧
 (TrimGone_a3 c d e) ∧
 (lowS (oddF c d e)).fst.inst.sup =
 (lowS (oddF c d e)).fst.inst.sup ∧
 (lowS (oddF c d e)).fst.inst.arcs =
 (lowS (oddF c d e)).fst.inst.arcs ∧
 (lowS (oddF c d e)).fst.was.sup =
 (lowS (oddF c d e)).fst.was.sup ∧
 (lowS (oddF c d e)).fst.was.arcs =
 (lowS (oddF c d e)).fst.was.arcs ∧
 (True ∧ True ∧ True) ∧
 (oddF c d e).sup = (oddF c d e).sup ∧
 (oddF c d e).arcs = (oddF c d e).arcs ∧
 True) ∧
 ((x.src == (↑g_1.1 : Int)) = false →
 ((0 : Int) ≤ (↑g_1.2 : Int) ∧
 (↑g_1.2 : Int) < (↑(loneS (oddF c d e)).fst.inst.arcs.length : Int)) ∧
 (↑g_1.2 : Int).toNat < (loneS (oddF c d e)).fst.inst.arcs.length ∧
 ∀ (x : Arc),
 (loneS (oddF c d e)).fst.inst.arcs[(↑g_1.2 : Int).toNat]? = some x →
 ∃ (g' : Nat × Nat),
 (g'.fst = g0.fst ∧ g'.snd ≤ (loneS (oddF c d e)).fst.inst.arcs.length) ∧
 (loneS (oddF c d e)).fst.inst.arcs.length - g'.snd <
 (loneS (oddF c d e)).fst.inst.arcs.length - g_1.snd ∧
 ((0 : Nat) = (0 : Nat) ∧
 (0 : Nat) = (0 : Nat) ∧
 (0 : Nat) = (0 : Nat) ∧
 (0 : Nat) = (0 : Nat) ∧
 (↑g_1.1 : Int) = (↑g'.1 : Int) ∧
 (x.dst == (↑g_1.1 : Int)) =
 isTo (loneS (oddF c d e)).fst.inst g'.1 g'.2 ∧
 IntKind.i64.wrap ((↑g_1.2 : Int) + (1 : Int)) =
 (↑g'.2 : Int) ∧
 True) ∧
 (True ∧
 True ∧
 (loneS (oddF c d e)).fst.pass = (loneS (oddF c d e)).fst.pass ∧
 True ∧
 True ∧
 (loneS (oddF c d e)).fst.off.hi =
 (loneS (oddF c d e)).fst.off.hi ∧
 (loneS (oddF c d e)).fst.off.lo =
 (loneS (oddF c d e)).fst.off.lo ∧
 (loneS (oddF c d e)).fst.did =
 (loneS (oddF c d e)).fst.did ∧
 True) ∧
 (loneS (oddF c d e)).fst.inst.sup =
 (loneS (oddF c d e)).fst.inst.sup ∧
 (loneS (oddF c d e)).fst.inst.arcs =
 (loneS (oddF c d e)).fst.inst.arcs ∧
 (loneS (oddF c d e)).fst.was.sup =
 (loneS (oddF c d e)).fst.was.sup ∧
 (loneS (oddF c d e)).fst.was.arcs =
 (loneS (oddF c d e)).fst.was.arcs ∧
 (True ∧
 True ∧
 (fixS (oddF c d e)).fst.pass =
 (fixS (oddF c d e)).fst.pass ∧
 True ∧
 True ∧
 (fixS (oddF c d e)).fst.off.hi =
 (fixS (oddF c d e)).fst.off.hi ∧
 (fixS (oddF c d e)).fst.off.lo =
 (fixS (oddF c d e)).fst.off.lo ∧
 (fixS (oddF c d e)).fst.did =
 (fixS (oddF c d e)).fst.did ∧
 True) ∧
 (fixS (oddF c d e)).fst.inst.sup =
 (fixS (oddF c d e)).fst.inst.sup ∧
 (fixS (oddF c d e)).fst.inst.arcs =
 (fixS (oddF c d e)).fst.inst.arcs ∧
 (fixS (oddF c d e)).fst.was.sup =
 (fixS (oddF c d e)).fst.was.sup ∧
 (fixS (oddF c d e)).fst.was.arcs =
 (fixS (oddF c d e)).fst.was.arcs ∧
 (TrimGone_a3 c d e) ∧
 (lowS (oddF c d e)).fst.inst.sup =
 (lowS (oddF c d e)).fst.inst.sup ∧
 (lowS (oddF c d e)).fst.inst.arcs =
 (lowS (oddF c d e)).fst.inst.arcs ∧
 (lowS (oddF c d e)).fst.was.sup =
 (lowS (oddF c d e)).fst.was.sup ∧
 (lowS (oddF c d e)).fst.was.arcs =
 (lowS (oddF c d e)).fst.was.arcs ∧
 (True ∧ True ∧ True) ∧
 (oddF c d e).sup = (oddF c d e).sup ∧
 (oddF c d e).arcs =
 (oddF c d e).arcs ∧
 True))) ∧
 (decide ((↑g_1.2 : Int) < (↑(loneS (oddF c d e)).fst.inst.arcs.length : Int)) = false →
 ((!isTo (loneS (oddF c d e)).fst.inst g_1.1 g_1.2) = true → (false = true ∧ True) ∧ True) ∧
 ((!isTo (loneS (oddF c d e)).fst.inst g_1.1 g_1.2) = false →
 ∃ (g' : Nat),
 g' ≤ (loneS (oddF c d e)).fst.inst.sup.length ∧
 (loneS (oddF c d e)).fst.inst.sup.length - g' < (loneS (oddF c d e)).fst.inst.sup.length - g ∧
 ((0 : Nat) = (0 : Nat) ∧
 (0 : Nat) = (0 : Nat) ∧
 (0 : Nat) = (0 : Nat) ∧
 (0 : Nat) = (0 : Nat) ∧
 IntKind.i64.wrap ((↑g_1.1 : Int) + (1 : Int)) = (↑g' : Int) ∧ True) ∧
 (TrimGone_a0 c d e) ∧
 (loneS (oddF c d e)).fst.inst.sup = (loneS (oddF c d e)).fst.inst.sup ∧
 (loneS (oddF c d e)).fst.inst.arcs = (loneS (oddF c d e)).fst.inst.arcs ∧
 (loneS (oddF c d e)).fst.was.sup = (loneS (oddF c d e)).fst.was.sup ∧
 (loneS (oddF c d e)).fst.was.arcs = (loneS (oddF c d e)).fst.was.arcs ∧
 (TrimGone_a5 c d e) ∧
 (fixS (oddF c d e)).fst.inst.sup = (fixS (oddF c d e)).fst.inst.sup ∧
 (fixS (oddF c d e)).fst.inst.arcs = (fixS (oddF c d e)).fst.inst.arcs ∧
 (fixS (oddF c d e)).fst.was.sup = (fixS (oddF c d e)).fst.was.sup ∧
 (fixS (oddF c d e)).fst.was.arcs = (fixS (oddF c d e)).fst.was.arcs ∧
 (TrimGone_a4 c d e) ∧
 (lowS (oddF c d e)).fst.inst.sup = (lowS (oddF c d e)).fst.inst.sup ∧
 (lowS (oddF c d e)).fst.inst.arcs =
 (lowS (oddF c d e)).fst.inst.arcs ∧
 (lowS (oddF c d e)).fst.was.sup =
 (lowS (oddF c d e)).fst.was.sup ∧
 (lowS (oddF c d e)).fst.was.arcs =
 (lowS (oddF c d e)).fst.was.arcs ∧
 (True ∧ True ∧ True) ∧
 (oddF c d e).sup = (oddF c d e).sup ∧
 (oddF c d e).arcs = (oddF c d e).arcs ∧ True))) ∧
 (decide ((↑g : Int) < (↑(loneS (oddF c d e)).fst.inst.sup.length : Int)) = false →
 True ∧
 (true = true →
 (((↑(lowS (oddF c d e)).fst.inst.arcs.length : Int) == (↑(oddF c d e).arcs.length : Int)) = true →
 (((↑(lowS (oddF c d e)).fst.inst.sup.length : Int) == (↑(oddF c d e).sup.length : Int)) = true →
 (((↑(fixS (oddF c d e)).fst.inst.sup.length : Int) == (↑(oddF c d e).sup.length : Int)) = true →
 (((↑(loneS (oddF c d e)).fst.inst.arcs.length : Int) == (↑(oddF c d e).arcs.length : Int)) = true ∧
 True) ∧
 True) ∧
 (((↑(fixS (oddF c d e)).fst.inst.sup.length : Int) == (↑(oddF c d e).sup.length : Int)) = false →
 (false = true ∧ True) ∧ True)) ∧
 (((↑(lowS (oddF c d e)).fst.inst.sup.length : Int) == (↑(oddF c d e).sup.length : Int)) = false →
 (false = true ∧ True) ∧ True)) ∧
 (((↑(lowS (oddF c d e)).fst.inst.arcs.length : Int) == (↑(oddF c d e).arcs.length : Int)) = false →
 (false = true ∧ True) ∧ True)) ∧
 (true = false → (false = true ∧ True) ∧ True)))))))
theorem TrimGone_q (c : List Int) (d : List Int) (e : List Int) (ty0 ty1 ty2 : TypeId) : TrimGone_E0 c d e ty0 ty1 ty2 = FVcP TT TrimGone_g (TrimGone_I c d e) (TrimGone_an c d e) Try.f4 [.row 0, .row 1, .row 2] [(0, .row false ty0 (.ints .u8 c)), (1, .row false ty1 (.ints .u8 d)), (2, .row false ty2 (.ints .u8 e))] (TrimGone_r c d e) := by kernel_rfl
theorem TrimGone_E (c : List Int) (d : List Int) (e : List Int) (ty0 ty1 ty2 : TypeId) (hp : Bytes c ∧ Bytes d ∧ c.length ≤ maxLen ∧ d.length ≤ maxLen ∧ Bytes e ∧ e.length ≤ maxLen) : FVc TT TrimGone_g (TrimGone_I c d e) (TrimGone_an c d e) Try.f4 [.row 0, .row 1, .row 2] [(0, .row false ty0 (.ints .u8 c)), (1, .row false ty1 (.ints .u8 d)), (2, .row false ty2 (.ints .u8 e))] (TrimGone_r c d e) := by
  refine FVc.of (TrimGone_E0 c d e ty0 ty1 ty2) (TrimGone_q c d e ty0 ty1 ty2) ?_
  unfold TrimGone_E0
  delta TrimGone_a6 TrimGone_a5 TrimGone_a4 TrimGone_a3 TrimGone_a2 TrimGone_a1 TrimGone_a0
  obtain ⟨o1, o2, o3, o4, o5, o6⟩ := oddF_all c d e
  refine ⟨hp, ?_⟩
  generalize oddF c d e = I at *
  simp only [eq_self, exists_const, forall_const, decide_eq_true_eq, decide_eq_false_iff_not, and_true, true_and, bne_iff_ne, ne_eq, bne_eq_false_iff_eq, Int.toNat_natCast, Bool.not_eq_true', Bool.not_eq_false', beq_iff_eq, beq_eq_false_iff_ne, nilEq_true]
  refine ⟨by omega, by omega, by omega, fun _ => trivial, fun hL => ⟨fun _ => trivial, fun hX => ⟨fun _ => trivial, fun hO => ?_⟩⟩⟩
  obtain ⟨l1, l2, l3⟩ := low_gone hL
  obtain ⟨x1, x2, x3⟩ := fix_gone hX
  obtain ⟨n1, n2, n3⟩ := lone_gone hO
  generalize (lowS I).1.inst = L at *
  generalize (fixS I).1.inst = X at *
  generalize (loneS I).1.inst = O at *
  have hw : ∀ g : Nat, g ≤ 1000 → IntKind.i64.wrap ((g : Int) + 1) = ((g + 1 : Nat) : Int) := fun g hg => by rw [w64 (by omega) (by omega)]; omega
  refine ⟨0, ⟨by omega, rfl⟩, fun g hg => ⟨fun h1 => ⟨by omega, by omega, fun x hx => ⟨fun h2 => absurd (l1 x (List.mem_of_getElem? hx)) h2, fun h2 => ⟨g + 1, by omega, by omega, hw g (by omega)⟩⟩⟩, fun h1 => ?_⟩⟩
  refine ⟨0, ⟨by omega, rfl⟩, fun g hg => ⟨fun h1 => ⟨by omega, by omega, fun x hx => ⟨by omega, by omega, fun y hy => ?_⟩⟩, fun h1 => ?_⟩⟩
  · rw [hx] at hy
    cases hy
    exact ⟨fun h2 => absurd h2 (x1 x (List.mem_of_getElem? hx)), fun h2 => ⟨g + 1, by omega, by omega, hw g (by omega)⟩⟩
  refine ⟨0, ⟨by omega, rfl⟩, fun g hg => ⟨fun h1 => ⟨by omega, by omega, fun x hx => ?_⟩, fun h1 => by simp [l2, l3, x2, n2]⟩⟩
  refine ⟨(g, 0), ⟨by dsimp only; omega, rfl, isTo_zero hx, rfl⟩, fun q hq => ?_⟩
  obtain ⟨n, j⟩ := q
  dsimp only at hq ⊢
  obtain ⟨rfl, hj⟩ := hq
  refine ⟨fun h2 => ?_, fun h2 => ?_⟩
  · have hjl : j < O.arcs.length := by omega
    obtain ⟨a, ha⟩ : ∃ a, O.arcs[j]? = some a := ⟨_, List.getElem?_eq_getElem hjl⟩
    have hs := isTo_succ (n := n) ha
    simp only [ha, Option.some.injEq, forall_eq']
    have hwj := hw j (by omega)
    refine ⟨fun h3 => ⟨(n, j + 1), ⟨rfl, by dsimp only; omega⟩, by dsimp only; omega, rfl, by dsimp only; rw [hs, h3]; rfl, hwj⟩, fun h3 => ⟨by omega, hjl, fun h4 => ⟨(n, j + 1), ⟨rfl, by dsimp only; omega⟩, by dsimp only; omega, rfl, by dsimp only; rw [hs, h3]; simp [h4], hwj⟩,
      fun h4 => ⟨by omega, hjl, (n, j + 1), ⟨rfl, by dsimp only; omega⟩, by dsimp only; omega, rfl, by dsimp only; rw [hs, h3]; by_cases h5 : a.dst = n <;> simp [h4, h5], hwj⟩⟩⟩
  · have he := isTo_end (n1 n (by omega)) (show O.arcs.length ≤ j by omega)
    exact ⟨fun h3 => (by rw [he] at h3; cases h3), fun _ => ⟨n + 1, by omega, by omega, hw n (by omega)⟩⟩
theorem TrimGone_ok : SpecOk Try.prog TrimGone_n true (specOf true TrimGone_fs) :=
  spec_ok' TT_ok (show GsOk Try.prog TrimGone_g from gsOk_cons Odd_ok (gsOk_cons Low_ok (gsOk_cons Fix_ok (gsOk_cons Lone_ok (gsOk_cons known15_ok (gsOk_nil)))))) (by kernel_rfl) mixedOrders Try.func4 rfl rfl (by kernel_rfl) (n := 3) (by decide +kernel) (I := TrimGone_IA) (fun _ _ => isOk_nil) (A := TrimGone_A)
    (fun args h r hr => by
      unfold TrimGone_fs at hr
      split at hr
      · rename_i ty0 c ty1 d ty2 e; cases hr; refine ⟨rfl, fun hp => ?_⟩; have hE := TrimGone_E c d e ty0 ty1 ty2 hp; exact hE
      · cases hr)
end Go.Proofs.Ytahbkllfifmdfaa
