/-
  CONTRACTS, PROVED: PriceBest.
-/
import Derived.Test.YtnjcklhgdpgllaaFQ11
import Derived.Test.YtnjcklhgdpgllaaDBPriceBest
import Derived.Test.YtnjcklhgdpgllaaVc11
set_option linter.unusedVariables false
set_option linter.all false
set_option linter.unusedSimpArgs false
set_option maxRecDepth 100000
namespace Go.Proofs.Ytnjcklhgdpgllaa
open Go Go.RowKit Go.Ql Go.Vc

def PriceBest_E0 (c : List Int) (d : List Int) (e : List Int) (f : List Int) (x : List Int) (ty0 ty1 ty2 ty3 ty4 : TypeId) : Prop :=
      (Bytes c ∧ Bytes d ∧ c.length ≤ maxLen ∧ d.length ≤ maxLen) ∧
 (Bytes d ∧ (instF c d).arcs.length ≤ (1000000 : Nat) ∧ L42 (instF c d).arcs) ∧
 (Bytes e ∧ e.length ≤ maxLen ∧ (0 : Int) ≤ (↑(instF c d).sup.length : Int) ∧ (↑(instF c d).sup.length : Int) ≤ (1000000 : Int)) ∧
 ∃ (g0 : Nat × List Int),
 ((g0.fst ≤ (instF c d).arcs.length ∧ g0.snd.length = (instF c d).arcs.length ∧ A64 g0.snd) ∧
 (True ∧ True ∧ (0 : Nat) = (0 : Nat) ∧ True ∧ True ∧ (0 : Int) = (↑g0.1 : Int) ∧ True) ∧
 potF e (↑(instF c d).sup.length : Int).toNat = potF e (↑(instF c d).sup.length : Int).toNat ∧
 flowF (instF c d) d = g0.2 ∧ (True ∧ True ∧ True) ∧ (instF c d).sup = (instF c d).sup ∧ (instF c d).arcs = (instF c d).arcs ∧ f = f ∧ x = x ∧ True) ∧
 ∀ (g : Nat × List Int),
 g.fst ≤ (instF c d).arcs.length ∧ g.snd.length = (instF c d).arcs.length ∧ A64 g.snd →
 (decide ((↑g.1 : Int) < (↑(instF c d).arcs.length : Int)) = true →
 (A64 (potF e (↑(instF c d).sup.length : Int).toNat) ∧ A64c (instF c d).arcs) ∧
 ((W (redF (instF c d) (potF e (↑(instF c d).sup.length : Int).toNat) (↑g.1 : Int))).ok ∧ { hi := (0 : Int), lo := (0 : Int) : Wide }.ok) ∧
 (decide (wcmp (W (redF (instF c d) (potF e (↑(instF c d).sup.length : Int).toNat) (↑g.1 : Int))) { hi := (0 : Int), lo := (0 : Int) : Wide } < (0 : Int)) =
 true →
 ((0 : Int) ≤ (↑g.1 : Int) ∧ (↑g.1 : Int) < (↑(instF c d).arcs.length : Int)) ∧
 (↑g.1 : Int).toNat < (instF c d).arcs.length ∧
 ∀ (x_1 : Arc),
 (instF c d).arcs[(↑g.1 : Int).toNat]? = some x_1 →
 ((x_1.cap != (4611686018427387904 : Int)) = true →
 ((0 : Int) ≤ (↑g.1 : Int) ∧ (↑g.1 : Int) < (↑(instF c d).arcs.length : Int)) ∧
 (↑g.1 : Int).toNat < (instF c d).arcs.length ∧
 ∀ (x_2 : Arc),
 (instF c d).arcs[(↑g.1 : Int).toNat]? = some x_2 →
 ((0 : Int) ≤ (↑g.1 : Int) ∧ (↑g.1 : Int) < (↑g.2.length : Int)) ∧
 (↑g.1 : Int).toNat < g.2.length ∧
 (decide
 (wcmp (W (redF (instF c d) (potF e (↑(instF c d).sup.length : Int).toNat) (↑g.1 : Int)))
 { hi := (0 : Int), lo := (0 : Int) : Wide } >
 (0 : Int)) =
 true →
 ((0 : Int) ≤ (↑g.1 : Int) ∧ (↑g.1 : Int) < (↑(instF c d).arcs.length : Int)) ∧
 (↑g.1 : Int).toNat < (instF c d).arcs.length ∧
 ∀ (x_3 : Arc),
 (instF c d).arcs[(↑g.1 : Int).toNat]? = some x_3 →
 ((0 : Int) ≤ (↑g.1 : Int) ∧ (↑g.1 : Int) < (↑(g.2.set (↑g.1 : Int).toNat x_2.cap).length : Int)) ∧
 (↑g.1 : Int).toNat < (g.2.set (↑g.1 : Int).toNat x_2.cap).length ∧
 ∃ (g' : Nat × List Int),
 (g'.fst ≤ (instF c d).arcs.length ∧ g'.snd.length = (instF c d).arcs.length ∧ A64 g'.snd) ∧
 (instF c d).arcs.length - g'.fst < (instF c d).arcs.length - g.fst ∧
 (True ∧
 True ∧
 (0 : Nat) = (0 : Nat) ∧
 True ∧ True ∧ IntKind.i64.wrap ((↑g.1 : Int) + (1 : Int)) = (↑g'.1 : Int) ∧ True) ∧
 potF e (↑(instF c d).sup.length : Int).toNat = potF e (↑(instF c d).sup.length : Int).toNat ∧
 (g.2.set (↑g.1 : Int).toNat x_2.cap).set (↑g.1 : Int).toNat x_3.low = g'.2 ∧
 (True ∧ True ∧ True) ∧
 (instF c d).sup = (instF c d).sup ∧ (instF c d).arcs = (instF c d).arcs ∧ f = f ∧ x = x ∧ True) ∧
 (decide
 (wcmp (W (redF (instF c d) (potF e (↑(instF c d).sup.length : Int).toNat) (↑g.1 : Int)))
 { hi := (0 : Int), lo := (0 : Int) : Wide } >
 (0 : Int)) =
 false →
 ∃ (g' : Nat × List Int),
 (g'.fst ≤ (instF c d).arcs.length ∧ g'.snd.length = (instF c d).arcs.length ∧ A64 g'.snd) ∧
 (instF c d).arcs.length - g'.fst < (instF c d).arcs.length - g.fst ∧
 (True ∧
 True ∧ (0 : Nat) = (0 : Nat) ∧ True ∧ True ∧ IntKind.i64.wrap ((↑g.1 : Int) + (1 : Int)) = (↑g'.1 : Int) ∧ True) ∧
 potF e (↑(instF c d).sup.length : Int).toNat = potF e (↑(instF c d).sup.length : Int).toNat ∧
 g.2.set (↑g.1 : Int).toNat x_2.cap = g'.2 ∧
 (True ∧ True ∧ True) ∧
 (instF c d).sup = (instF c d).sup ∧ (instF c d).arcs = (instF c d).arcs ∧ f = f ∧ x = x ∧ True)) ∧
 ((x_1.cap != (4611686018427387904 : Int)) = false →
 (decide
 (wcmp (W (redF (instF c d) (potF e (↑(instF c d).sup.length : Int).toNat) (↑g.1 : Int))) { hi := (0 : Int), lo := (0 : Int) : Wide } >
 (0 : Int)) =
 true →
 ((0 : Int) ≤ (↑g.1 : Int) ∧ (↑g.1 : Int) < (↑(instF c d).arcs.length : Int)) ∧
 (↑g.1 : Int).toNat < (instF c d).arcs.length ∧
 ∀ (x_2 : Arc),
 (instF c d).arcs[(↑g.1 : Int).toNat]? = some x_2 →
 ((0 : Int) ≤ (↑g.1 : Int) ∧ (↑g.1 : Int) < (↑g.2.length : Int)) ∧
 (↑g.1 : Int).toNat < g.2.length ∧
 ∃ (g' : Nat × List Int),
 (g'.fst ≤ (instF c d).arcs.length ∧ g'.snd.length = (instF c d).arcs.length ∧ A64 g'.snd) ∧
 (instF c d).arcs.length - g'.fst < (instF c d).arcs.length - g.fst ∧
 (True ∧
 True ∧ (0 : Nat) = (0 : Nat) ∧ True ∧ True ∧ IntKind.i64.wrap ((↑g.1 : Int) + (1 : Int)) = (↑g'.1 : Int) ∧ True) ∧
 potF e (↑(instF c d).sup.length : Int).toNat = potF e (↑(instF c d).sup.length : Int).toNat ∧
 g.2.set (↑g.1 : Int).toNat x_2.low = g'.2 ∧
 (True ∧ True ∧ True) ∧
 (instF c d).sup = (instF c d).sup ∧ (instF c d).arcs = (instF c d).arcs ∧ f = f ∧ x = x ∧ True) ∧
 (decide
 (wcmp (W (redF (instF c d) (potF e (↑(instF c d).sup.length : Int).toNat) (↑g.1 : Int))) { hi := (0 : Int), lo := (0 : Int) : Wide } >
 (0 : Int)) =
 false →
 ∃ (g' : Nat × List Int),
 (g'.fst ≤ (instF c d).arcs.length ∧ g'.snd.length = (instF c d).arcs.length ∧ A64 g'.snd) ∧
 (instF c d).arcs.length - g'.fst < (instF c d).arcs.length - g.fst ∧
 (True ∧ True ∧ (0 : Nat) = (0 : Nat) ∧ True ∧ True ∧ IntKind.i64.wrap ((↑g.1 : Int) + (1 : Int)) = (↑g'.1 : Int) ∧ True) ∧
 potF e (↑(instF c d).sup.length : Int).toNat = potF e (↑(instF c d).sup.length : Int).toNat ∧
 g.2 = g'.2 ∧
 (True ∧ True ∧ True) ∧ (instF c d).sup = (instF c d).sup ∧ (instF c d).arcs = (instF c d).arcs ∧ f = f ∧ x = x ∧ True))) ∧
 (decide (wcmp (W (redF (instF c d) (potF e (↑(instF c d).sup.length : Int).toNat) (↑g.1 : Int))) { hi := (0 : Int), lo := (0 : Int) : Wide } < (0 : Int)) =
 false →
 (decide
 (wcmp (W (redF (instF c d) (potF e (↑(instF c d).sup.length : Int).toNat) (↑g.1 : Int))) { hi := (0 : Int), lo := (0 : Int) : Wide } >
 (0 : Int)) =
 true →
 ((0 : Int) ≤ (↑g.1 : Int) ∧ (↑g.1 : Int) < (↑(instF c d).arcs.length : Int)) ∧
 (↑g.1 : Int).toNat < (instF c d).arcs.length ∧
 ∀ (x_1 : Arc),
 (instF c d).arcs[(↑g.1 : Int).toNat]? = some x_1 →
 ((0 : Int) ≤ (↑g.1 : Int) ∧ (↑g.1 : Int) < (↑g.2.length : Int)) ∧
 (↑g.1 : Int).toNat < g.2.length ∧
 ∃ (g' : Nat × List Int),
 (g'.fst ≤ (instF c d).arcs.length ∧ g'.snd.length = (instF c d).arcs.length ∧ A64 g'.snd) ∧
 (instF c d).arcs.length - g'.fst < (instF c d).arcs.length - g.fst ∧
 (True ∧ True ∧ (0 : Nat) = (0 : Nat) ∧ True ∧ True ∧ IntKind.i64.wrap ((↑g.1 : Int) + (1 : Int)) = (↑g'.1 : Int) ∧ True) ∧
 potF e (↑(instF c d).sup.length : Int).toNat = potF e (↑(instF c d).sup.length : Int).toNat ∧
 g.2.set (↑g.1 : Int).toNat x_1.low = g'.2 ∧
 (True ∧ True ∧ True) ∧ (instF c d).sup = (instF c d).sup ∧ (instF c d).arcs = (instF c d).arcs ∧ f = f ∧ x = x ∧ True) ∧
 (decide
 (wcmp (W (redF (instF c d) (potF e (↑(instF c d).sup.length : Int).toNat) (↑g.1 : Int))) { hi := (0 : Int), lo := (0 : Int) : Wide } >
 (0 : Int)) =
 false →
 ∃ (g' : Nat × List Int),
 (g'.fst ≤ (instF c d).arcs.length ∧ g'.snd.length = (instF c d).arcs.length ∧ A64 g'.snd) ∧
 (instF c d).arcs.length - g'.fst < (instF c d).arcs.length - g.fst ∧
 (True ∧ True ∧ (0 : Nat) = (0 : Nat) ∧ True ∧ True ∧ IntKind.i64.wrap ((↑g.1 : Int) + (1 : Int)) = (↑g'.1 : Int) ∧ True) ∧
 potF e (↑(instF c d).sup.length : Int).toNat = potF e (↑(instF c d).sup.length : Int).toNat ∧
 g.2 = g'.2 ∧ (True ∧ True ∧ True) ∧ (instF c d).sup = (instF c d).sup ∧ (instF c d).arcs = (instF c d).arcs ∧ f = f ∧ x = x ∧ True))) ∧
 (decide ((↑g.1 : Int) < (↑(instF c d).arcs.length : Int)) = false →
 ((instF c d).sup.length ≤ (10000 : Nat) ∧ (instF c d).arcs.length ≤ (10000 : Nat) ∧ A64 g.2) ∧
 ∃ (g0 : Nat × List Int × List Int),
 ((g0.fst ≤ (instF c d).sup.length ∧ g0.2.fst.length = (instF c d).sup.length ∧ A64 g0.2.fst ∧ g0.2.snd.length = (instF c d).arcs.length ∧ A64 g0.2.snd) ∧
 (True ∧ True ∧ (0 : Nat) = (0 : Nat) ∧ True ∧ True ∧ True ∧ (0 : Int) = (↑g0.1 : Int) ∧ True) ∧
 netF (instF c d) g.2 = netF (instF c d) g0.2.2 ∧
 potF e (↑(instF c d).sup.length : Int).toNat = potF e (↑(instF c d).sup.length : Int).toNat ∧
 g.2 = g0.2.2 ∧ (True ∧ True ∧ True) ∧ (instF c d).sup = g0.2.1 ∧ (instF c d).arcs = (instF c d).arcs ∧ f = f ∧ x = x ∧ True) ∧
 ∀ (g : Nat × List Int × List Int),
 g.fst ≤ (instF c d).sup.length ∧ g.2.fst.length = (instF c d).sup.length ∧ A64 g.2.fst ∧ g.2.snd.length = (instF c d).arcs.length ∧ A64 g.2.snd →
 (decide ((↑g.1 : Int) < (↑(netF (instF c d) g.2.2).length : Int)) = true →
 (decide ((↑g.1 : Int) < (↑g.2.1.length : Int)) = true →
 ((0 : Int) ≤ (↑g.1 : Int) ∧ (↑g.1 : Int) < (↑(netF (instF c d) g.2.2).length : Int)) ∧
 (↑g.1 : Int).toNat < (netF (instF c d) g.2.2).length ∧
 ∀ (x_1 : Wide),
 (netF (instF c d) g.2.2)[(↑g.1 : Int).toNat]? = some x_1 →
 x_1.ok ∧
 ((0 : Int) ≤ (↑g.1 : Int) ∧ (↑g.1 : Int) < (↑g.2.1.length : Int)) ∧
 (↑g.1 : Int).toNat < g.2.1.length ∧
 ∃ (g' : Nat × List Int × List Int),
 (g'.fst ≤ (instF c d).sup.length ∧
 g'.2.fst.length = (instF c d).sup.length ∧ A64 g'.2.fst ∧ g'.2.snd.length = (instF c d).arcs.length ∧ A64 g'.2.snd) ∧
 (instF c d).sup.length - g'.fst < (instF c d).sup.length - g.fst ∧
 (True ∧
 True ∧
 (0 : Nat) = (0 : Nat) ∧ True ∧ True ∧ True ∧ IntKind.i64.wrap ((↑g.1 : Int) + (1 : Int)) = (↑g'.1 : Int) ∧ True) ∧
 netF (instF c d) g.2.2 = netF (instF c d) g'.2.2 ∧
 potF e (↑(instF c d).sup.length : Int).toNat = potF e (↑(instF c d).sup.length : Int).toNat ∧
 g.2.2 = g'.2.2 ∧
 (True ∧ True ∧ True) ∧
 g.2.1.set (↑g.1 : Int).toNat (if I64 x_1.v then x_1.v else (0 : Int)) = g'.2.1 ∧
 (instF c d).arcs = (instF c d).arcs ∧ f = f ∧ x = x ∧ True) ∧
 (decide ((↑g.1 : Int) < (↑g.2.1.length : Int)) = false →
 ({ sup := g.2.1, arcs := (instF c d).arcs : Inst }.sup.length ≤ (10000 : Nat) ∧
 (instF c d).arcs.length ≤ (10000 : Nat) ∧
 A64 g.2.2 ∧
 A64 { sup := g.2.1, arcs := (instF c d).arcs : Inst }.sup ∧
 A64 (potF e (↑(instF c d).sup.length : Int).toNat) ∧ A64c (instF c d).arcs) ∧
 ((slackF { sup := g.2.1, arcs := (instF c d).arcs : Inst } g.2.2 (potF e (↑(instF c d).sup.length : Int).toNat) != (0 : Int)) = true →
 True ∧ (true = true ∧ True) ∧ True) ∧
 ((slackF { sup := g.2.1, arcs := (instF c d).arcs : Inst } g.2.2 (potF e (↑(instF c d).sup.length : Int).toNat) != (0 : Int)) = false →
 (Bytes f ∧ (instF c d).arcs.length ≤ (1000000 : Nat) ∧ L42 (instF c d).arcs) ∧
 ({ sup := g.2.1, arcs := (instF c d).arcs : Inst }.sup.length ≤ (10000 : Nat) ∧
 (instF c d).arcs.length ≤ (10000 : Nat) ∧ A64 x ∧ A64 { sup := g.2.1, arcs := (instF c d).arcs : Inst }.sup) ∧
 ((fitsF { sup := g.2.1, arcs := (instF c d).arcs : Inst } x != (0 : Int)) = true →
 True ∧
 (true = true →
 ({ sup := g.2.1, arcs := (instF c d).arcs : Inst }.sup.length ≤ (10000 : Nat) ∧
 (instF c d).arcs.length ≤ (10000 : Nat) ∧
 A64 (flowF { sup := g.2.1, arcs := (instF c d).arcs : Inst } f) ∧
 A64 { sup := g.2.1, arcs := (instF c d).arcs : Inst }.sup) ∧
 ((fitsF { sup := g.2.1, arcs := (instF c d).arcs : Inst } (flowF { sup := g.2.1, arcs := (instF c d).arcs : Inst } f) !=
 (0 : Int)) =
 true →
 (true = true ∧ True) ∧ True) ∧
 ((fitsF { sup := g.2.1, arcs := (instF c d).arcs : Inst } (flowF { sup := g.2.1, arcs := (instF c d).arcs : Inst } f) !=
 (0 : Int)) =
 false →
 (A64 g.2.2 ∧ A64c (instF c d).arcs ∧ (instF c d).arcs.length ≤ (1000000 : Nat)) ∧
 (A64 (flowF { sup := g.2.1, arcs := (instF c d).arcs : Inst } f) ∧
 A64c (instF c d).arcs ∧ (instF c d).arcs.length ≤ (1000000 : Nat)) ∧
 ((W (costF { sup := g.2.1, arcs := (instF c d).arcs : Inst } g.2.2)).ok ∧
 (W
 (costF { sup := g.2.1, arcs := (instF c d).arcs : Inst }
 (flowF { sup := g.2.1, arcs := (instF c d).arcs : Inst } f))).ok) ∧
 (decide
 (wcmp (W (costF { sup := g.2.1, arcs := (instF c d).arcs : Inst } g.2.2))
 (W
 (costF { sup := g.2.1, arcs := (instF c d).arcs : Inst }
 (flowF { sup := g.2.1, arcs := (instF c d).arcs : Inst } f))) ≤
 (0 : Int)) =
 true ∧
 True) ∧
 True)) ∧
 (true = false → (false = true ∧ True) ∧ True)) ∧
 ((fitsF { sup := g.2.1, arcs := (instF c d).arcs : Inst } x != (0 : Int)) = false →
 (A64 g.2.2 ∧ A64c (instF c d).arcs ∧ (instF c d).arcs.length ≤ (1000000 : Nat)) ∧
 (A64 x ∧ A64c (instF c d).arcs ∧ (instF c d).arcs.length ≤ (1000000 : Nat)) ∧
 ((W (costF { sup := g.2.1, arcs := (instF c d).arcs : Inst } g.2.2)).ok ∧
 (W (costF { sup := g.2.1, arcs := (instF c d).arcs : Inst } x)).ok) ∧
 True ∧
 (true = true →
 (decide
 (wcmp (W (costF { sup := g.2.1, arcs := (instF c d).arcs : Inst } g.2.2))
 (W (costF { sup := g.2.1, arcs := (instF c d).arcs : Inst } x)) ≤
 (0 : Int)) =
 true →
 ({ sup := g.2.1, arcs := (instF c d).arcs : Inst }.sup.length ≤ (10000 : Nat) ∧
 (instF c d).arcs.length ≤ (10000 : Nat) ∧
 A64 (flowF { sup := g.2.1, arcs := (instF c d).arcs : Inst } f) ∧
 A64 { sup := g.2.1, arcs := (instF c d).arcs : Inst }.sup) ∧
 ((fitsF { sup := g.2.1, arcs := (instF c d).arcs : Inst }
 (flowF { sup := g.2.1, arcs := (instF c d).arcs : Inst } f) !=
 (0 : Int)) =
 true →
 (true = true ∧ True) ∧ True) ∧
 ((fitsF { sup := g.2.1, arcs := (instF c d).arcs : Inst }
 (flowF { sup := g.2.1, arcs := (instF c d).arcs : Inst } f) !=
 (0 : Int)) =
 false →
 (A64 g.2.2 ∧ A64c (instF c d).arcs ∧ (instF c d).arcs.length ≤ (1000000 : Nat)) ∧
 (A64 (flowF { sup := g.2.1, arcs := (instF c d).arcs : Inst } f) ∧
 A64c (instF c d).arcs ∧ (instF c d).arcs.length ≤ (1000000 : Nat)) ∧
 ((W (costF { sup := g.2.1, arcs := (instF c d).arcs : Inst } g.2.2)).ok ∧
 (W
 (costF { sup := g.2.1, arcs := (instF c d).arcs : Inst }
 (flowF { sup := g.2.1, arcs := (instF c d).arcs : Inst } f))).ok) ∧
 (decide
 (wcmp (W (costF { sup := g.2.1, arcs := (instF c d).arcs : Inst } g.2.2))
 (W
 (costF { sup := g.2.1, arcs := (instF c d).arcs : Inst }
 (flowF { sup := g.2.1, arcs := (instF c d).arcs : Inst } f))) ≤
 (0 : Int)) =
 true ∧
 True) ∧
 True)) ∧
 (decide
 (wcmp (W (costF { sup := g.2.1, arcs := (instF c d).arcs : Inst } g.2.2))
 (W (costF { sup := g.2.1, arcs := (instF c d).arcs : Inst } x)) ≤
 (0 : Int)) =
 false →
 (false = true ∧ True) ∧ True)) ∧
 (true = false → (false = true ∧ True) ∧ True))))) ∧
 (decide ((↑g.1 : Int) < (↑(netF (instF c d) g.2.2).length : Int)) = false →
 ({ sup := g.2.1, arcs := (instF c d).arcs : Inst }.sup.length ≤ (10000 : Nat) ∧
 (instF c d).arcs.length ≤ (10000 : Nat) ∧
 A64 g.2.2 ∧
 A64 { sup := g.2.1, arcs := (instF c d).arcs : Inst }.sup ∧ A64 (potF e (↑(instF c d).sup.length : Int).toNat) ∧ A64c (instF c d).arcs) ∧
 ((slackF { sup := g.2.1, arcs := (instF c d).arcs : Inst } g.2.2 (potF e (↑(instF c d).sup.length : Int).toNat) != (0 : Int)) = true →
 True ∧ (true = true ∧ True) ∧ True) ∧
 ((slackF { sup := g.2.1, arcs := (instF c d).arcs : Inst } g.2.2 (potF e (↑(instF c d).sup.length : Int).toNat) != (0 : Int)) = false →
 (Bytes f ∧ (instF c d).arcs.length ≤ (1000000 : Nat) ∧ L42 (instF c d).arcs) ∧
 ({ sup := g.2.1, arcs := (instF c d).arcs : Inst }.sup.length ≤ (10000 : Nat) ∧
 (instF c d).arcs.length ≤ (10000 : Nat) ∧ A64 x ∧ A64 { sup := g.2.1, arcs := (instF c d).arcs : Inst }.sup) ∧
 ((fitsF { sup := g.2.1, arcs := (instF c d).arcs : Inst } x != (0 : Int)) = true →
 True ∧
 (true = true →
 ({ sup := g.2.1, arcs := (instF c d).arcs : Inst }.sup.length ≤ (10000 : Nat) ∧
 (instF c d).arcs.length ≤ (10000 : Nat) ∧
 A64 (flowF { sup := g.2.1, arcs := (instF c d).arcs : Inst } f) ∧
 A64 { sup := g.2.1, arcs := (instF c d).arcs : Inst }.sup) ∧
 ((fitsF { sup := g.2.1, arcs := (instF c d).arcs : Inst } (flowF { sup := g.2.1, arcs := (instF c d).arcs : Inst } f) !=
 (0 : Int)) =
 true →
 (true = true ∧ True) ∧ True) ∧
 ((fitsF { sup := g.2.1, arcs := (instF c d).arcs : Inst } (flowF { sup := g.2.1, arcs := (instF c d).arcs : Inst } f) !=
 (0 : Int)) =
 false →
 (A64 g.2.2 ∧ A64c (instF c d).arcs ∧ (instF c d).arcs.length ≤ (1000000 : Nat)) ∧
 (A64 (flowF { sup := g.2.1, arcs := (instF c d).arcs : Inst } f) ∧
 A64c (instF c d).arcs ∧ (instF c d).arcs.length ≤ (1000000 : Nat)) ∧
 ((W (costF { sup := g.2.1, arcs := (instF c d).arcs : Inst } g.2.2)).ok ∧
 (W
 (costF { sup := g.2.1, arcs := (instF c d).arcs : Inst }
 (flowF { sup := g.2.1, arcs := (instF c d).arcs : Inst } f))).ok) ∧
 (decide
 (wcmp (W (costF { sup := g.2.1, arcs := (instF c d).arcs : Inst } g.2.2))
 (W
 (costF { sup := g.2.1, arcs := (instF c d).arcs : Inst }
 (flowF { sup := g.2.1, arcs := (instF c d).arcs : Inst } f))) ≤
 (0 : Int)) =
 true ∧
 True) ∧
 True)) ∧
 (true = false → (false = true ∧ True) ∧ True)) ∧
 ((fitsF { sup := g.2.1, arcs := (instF c d).arcs : Inst } x != (0 : Int)) = false →
 (A64 g.2.2 ∧ A64c (instF c d).arcs ∧ (instF c d).arcs.length ≤ (1000000 : Nat)) ∧
 (A64 x ∧ A64c (instF c d).arcs ∧ (instF c d).arcs.length ≤ (1000000 : Nat)) ∧
 ((W (costF { sup := g.2.1, arcs := (instF c d).arcs : Inst } g.2.2)).ok ∧
 (W (costF { sup := g.2.1, arcs := (instF c d).arcs : Inst } x)).ok) ∧
 True ∧
 (true = true →
 (decide
 (wcmp (W (costF { sup := g.2.1, arcs := (instF c d).arcs : Inst } g.2.2))
 (W (costF { sup := g.2.1, arcs := (instF c d).arcs : Inst } x)) ≤
 (0 : Int)) =
 true →
 ({ sup := g.2.1, arcs := (instF c d).arcs : Inst }.sup.length ≤ (10000 : Nat) ∧
 (instF c d).arcs.length ≤ (10000 : Nat) ∧
 A64 (flowF { sup := g.2.1, arcs := (instF c d).arcs : Inst } f) ∧
 A64 { sup := g.2.1, arcs := (instF c d).arcs : Inst }.sup) ∧
 ((fitsF { sup := g.2.1, arcs := (instF c d).arcs : Inst }
 (flowF { sup := g.2.1, arcs := (instF c d).arcs : Inst } f) !=
 (0 : Int)) =
 true →
 (true = true ∧ True) ∧ True) ∧
 ((fitsF { sup := g.2.1, arcs := (instF c d).arcs : Inst }
 (flowF { sup := g.2.1, arcs := (instF c d).arcs : Inst } f) !=
 (0 : Int)) =
 false →
 (A64 g.2.2 ∧ A64c (instF c d).arcs ∧ (instF c d).arcs.length ≤ (1000000 : Nat)) ∧
 (A64 (flowF { sup := g.2.1, arcs := (instF c d).arcs : Inst } f) ∧
 A64c (instF c d).arcs ∧ (instF c d).arcs.length ≤ (1000000 : Nat)) ∧
 ((W (costF { sup := g.2.1, arcs := (instF c d).arcs : Inst } g.2.2)).ok ∧
 (W
 (costF { sup := g.2.1, arcs := (instF c d).arcs : Inst }
 (flowF { sup := g.2.1, arcs := (instF c d).arcs : Inst } f))).ok) ∧
 (decide
 (wcmp (W (costF { sup := g.2.1, arcs := (instF c d).arcs : Inst } g.2.2))
 (W
 (costF { sup := g.2.1, arcs := (instF c d).arcs : Inst }
 (flowF { sup := g.2.1, arcs := (instF c d).arcs : Inst } f))) ≤
 (0 : Int)) =
 true ∧
 True) ∧
 True)) ∧
 (decide
 (wcmp (W (costF { sup := g.2.1, arcs := (instF c d).arcs : Inst } g.2.2))
 (W (costF { sup := g.2.1, arcs := (instF c d).arcs : Inst } x)) ≤
 (0 : Int)) =
 false →
 (false = true ∧ True) ∧ True)) ∧
 (true = false → (false = true ∧ True) ∧ True)))))
theorem PriceBest_q (c : List Int) (d : List Int) (e : List Int) (f : List Int) (x : List Int) (ty0 ty1 ty2 ty3 ty4 : TypeId) : PriceBest_E0 c d e f x ty0 ty1 ty2 ty3 ty4 = FVcP TT PriceBest_g (PriceBest_I c d e f x) (PriceBest_an c d e f x) Try.f5 [.row 0, .row 1, .row 2, .row 3, .row 4] [(0, .row false ty0 (.ints .u8 c)), (1, .row false ty1 (.ints .u8 d)), (2, .row false ty2 (.ints .u8 e)), (3, .row false ty3 (.ints .u8 f)), (4, .row false ty4 (.ints .i64 x))] (PriceBest_r c d e f x) := by kernel_rfl
theorem PriceBest_E (c : List Int) (d : List Int) (e : List Int) (f : List Int) (x : List Int) (ty0 ty1 ty2 ty3 ty4 : TypeId) (hp : Bytes c ∧ Bytes d ∧ c.length ≤ maxLen ∧ d.length ≤ maxLen ∧ Bytes e ∧ e.length ≤ maxLen ∧ Bytes f ∧ A64 x) : FVc TT PriceBest_g (PriceBest_I c d e f x) (PriceBest_an c d e f x) Try.f5 [.row 0, .row 1, .row 2, .row 3, .row 4] [(0, .row false ty0 (.ints .u8 c)), (1, .row false ty1 (.ints .u8 d)), (2, .row false ty2 (.ints .u8 e)), (3, .row false ty3 (.ints .u8 f)), (4, .row false ty4 (.ints .i64 x))] (PriceBest_r c d e f x) := by
  refine FVc.of (PriceBest_E0 c d e f x ty0 ty1 ty2 ty3 ty4) (PriceBest_q c d e f x ty0 ty1 ty2 ty3 ty4) ?_
  unfold PriceBest_E0
  obtain ⟨p1, p2, p3, p4, p5, p6, p7, p8⟩ := hp
  have l1 := instF_sup c d
  have l2 := nOf_pos d
  have l3 := nOf_le d
  have l4 := instF_arcs c d
  have q1 := instF_A64 c d
  have q2 := instF_A64a c d
  have q3 := instF_A64c c d
  have q4 := instF_L42 c d
  have q5 := flowF_A64 c d d
  have q6 := flowF_len (instF c d) d
  have q7 := flowF_mem c d d
  have q8 := potF_A64 e (instF c d).sup.length
  have hl := potF_len e (instF c d).sup.length
  simp only [eq_self, exists_const, forall_const, decide_eq_true_eq, decide_eq_false_iff_not, and_true, true_and, bne_iff_ne, ne_eq, bne_eq_false_iff_eq, Int.toNat_natCast, Bool.not_eq_true', Bool.not_eq_false', beq_iff_eq, beq_eq_false_iff_ne, nilEq_true]
  simp only [false_implies, reduceCtorEq, Bool.not_true, Bool.true_eq_false, Bool.false_eq_true, implies_true, and_true, true_and]
  generalize potF e (instF c d).sup.length = P at *
  have e0 : (⟨0, 0⟩ : Wide) = W 0 := W_zero.symm
  simp only [e0]
  refine ⟨⟨p1, p2, p3, p4⟩, ⟨p2, by omega, q4⟩, ⟨p5, p6, by omega, by omega⟩, (0, flowF (instF c d) d), ⟨⟨by dsimp only; omega, q6, q5⟩, rfl, rfl⟩, fun g hg => ?_⟩
  obtain ⟨k, y⟩ := g
  dsimp only at hg ⊢
  obtain ⟨g1, g2, g3⟩ := hg
  refine ⟨fun h1 => ⟨⟨q8, q3⟩, ⟨W_ok _, W_ok _⟩, ?_⟩, fun h1 => ?_⟩
  · have hkl : k < (instF c d).arcs.length := by omega
    obtain ⟨b, hb⟩ : ∃ b, (instF c d).arcs[k]? = some b := ⟨_, List.getElem?_eq_getElem hkl⟩
    have hm := q2 b (List.mem_of_getElem? hb)
    have nx : ∀ y' : List Int, y'.length = (instF c d).arcs.length → A64 y' → ∃ g' : Nat × List Int, (g'.fst ≤ (instF c d).arcs.length ∧ g'.snd.length = (instF c d).arcs.length ∧ A64 g'.snd) ∧ (instF c d).arcs.length - g'.fst < (instF c d).arcs.length - k ∧ IntKind.i64.wrap ((k : Int) + 1) = (g'.fst : Int) ∧ y' = g'.snd := fun y' h1 h2 =>
      ⟨(k + 1, y'), ⟨by dsimp only; omega, h1, h2⟩, by dsimp only; omega, by rw [w64 (by omega) (by omega)]; dsimp only; omega, rfl⟩
    simp only [hb, Option.some.injEq, forall_eq', List.length_set]
    have Z : ((0 : Int) ≤ k ∧ (k : Int) < (instF c d).arcs.length) := by omega
    have Z2 : ((0 : Int) ≤ k ∧ (k : Int) < y.length) := by omega
    have n0 := nx y g2 g3
    have n1 := nx (y.set k b.cap) (by simpa using g2) (g3.set hm.2)
    have n2 := nx (y.set k b.low) (by simpa using g2) (g3.set hm.1)
    have n3 := nx ((y.set k b.cap).set k b.low) (by simpa using g2) ((g3.set hm.2).set hm.1)
    have Z3 : k < y.length := by omega
    exact ⟨fun _ => ⟨Z, hkl, fun _ => ⟨Z, hkl, Z2, Z3, fun _ => ⟨Z, hkl, Z2, Z3, n3⟩, fun _ => n1⟩, fun _ => ⟨fun _ => ⟨Z, hkl, Z2, Z3, n2⟩, fun _ => n0⟩⟩, fun _ => ⟨fun _ => ⟨Z, hkl, Z2, Z3, n2⟩, fun _ => n0⟩⟩
  · refine ⟨⟨by omega, by omega, g3⟩, (0, (instF c d).sup, y), ⟨⟨by dsimp only; omega, rfl, q1, g2, g3⟩, rfl, rfl, rfl, rfl⟩, fun g hg => ?_⟩
    obtain ⟨v, s, z⟩ := g
    dsimp only at hg ⊢
    obtain ⟨r1, r2, r3, r4, r5⟩ := hg
    rw [netF_len]
    have e1 : flowF ⟨s, (instF c d).arcs⟩ f = flowF (instF c d) f := rfl
    have qf := flowF_A64 c d f
    rw [e1]
    have B : ∀ u, A64 u → slackF ⟨s, (instF c d).arcs⟩ z P = 0 → fitsF ⟨s, (instF c d).arcs⟩ u = 0 → wcmp (W (costF ⟨s, (instF c d).arcs⟩ z)) (W (costF ⟨s, (instF c d).arcs⟩ u)) ≤ 0 := fun u hu h1 h2 => slack_best hu r5 q8 h1 h2
    have C : A64 z ∧ A64c (instF c d).arcs ∧ (instF c d).arcs.length ≤ 1000000 := ⟨r5, q3, by omega⟩
    have C2 : A64 (flowF (instF c d) f) ∧ A64c (instF c d).arcs ∧ (instF c d).arcs.length ≤ 1000000 := ⟨qf, q3, by omega⟩
    have C3 : A64 x ∧ A64c (instF c d).arcs ∧ (instF c d).arcs.length ≤ 1000000 := ⟨p8, q3, by omega⟩
    have D : s.length ≤ 10000 ∧ (instF c d).arcs.length ≤ 10000 ∧ A64 (flowF (instF c d) f) ∧ A64 s := ⟨by omega, by omega, qf, r3⟩
    have D2 : s.length ≤ 10000 ∧ (instF c d).arcs.length ≤ 10000 ∧ A64 x ∧ A64 s := ⟨by omega, by omega, p8, r3⟩
    have D3 : s.length ≤ 10000 ∧ (instF c d).arcs.length ≤ 10000 ∧ A64 z ∧ A64 s ∧ A64 P ∧ A64c (instF c d).arcs := ⟨by omega, by omega, r5, r3, q8, q3⟩
    have D4 : Bytes f ∧ (instF c d).arcs.length ≤ 1000000 ∧ L42 (instF c d).arcs := ⟨p7, by omega, q4⟩
    refine ⟨fun h2 => ⟨fun h3 => ⟨by omega, by omega, fun w hw => ?_⟩, fun h3 => ?_⟩, fun h2 => ?_⟩
    · obtain ⟨_, rfl⟩ := map_range_get hw
      refine ⟨W_ok _, by omega, by omega, (v + 1, s.set v (if I64 (W (netK (instF c d).sup.length (instF c d).arcs z (instF c d).arcs.length v)).v then (W (netK (instF c d).sup.length (instF c d).arcs z (instF c d).arcs.length v)).v else 0), z), ⟨by dsimp only; omega, by simpa using r2, r3.set ?_, r4, r5⟩, by dsimp only; omega, by rw [w64 (by omega) (by omega)]; dsimp only; omega, rfl, rfl, rfl⟩
      split
      · assumption
      · simp [I64]
    all_goals exact ⟨D3, fun hs => ⟨D4, D2, fun h4 => ⟨D, fun h5 => ⟨C, C2, ⟨W_ok _, W_ok _⟩, B _ qf hs h5⟩⟩, fun h4 => ⟨C, C3, ⟨W_ok _, W_ok _⟩, fun h6 => ⟨D, fun h5 => ⟨C, C2, ⟨W_ok _, W_ok _⟩, B _ qf hs h5⟩⟩, fun h6 => h6 (B _ p8 hs h4)⟩⟩⟩

theorem PriceBest_ok : SpecOk Try.prog PriceBest_n true (specOf true PriceBest_fs) :=
  spec_ok' TT_ok (show GsOk Try.prog PriceBest_g from gsOk_cons known11_ok (gsOk_cons Inst_ok (gsOk_cons Flow_ok (gsOk_cons Pot_ok (gsOk_cons Compare_ok (gsOk_cons Reduced_ok (gsOk_cons Net_ok (gsOk_cons Back_ok (gsOk_cons Slack_ok (gsOk_cons Fits_ok (gsOk_cons Cost_ok (gsOk_nil)))))))))))) (by kernel_rfl) mixedOrders Try.func5 rfl rfl (by kernel_rfl) (n := 5) (by decide +kernel) (I := PriceBest_IA) (fun _ _ => isOk_nil) (A := PriceBest_A)
    (fun args h r hr => by
      unfold PriceBest_fs at hr
      split at hr
      · rename_i ty0 c ty1 d ty2 e ty3 f ty4 x; cases hr; refine ⟨rfl, fun hp => ?_⟩; have hE := PriceBest_E c d e f x ty0 ty1 ty2 ty3 ty4 hp; exact hE
      · cases hr)

end Go.Proofs.Ytnjcklhgdpgllaa
