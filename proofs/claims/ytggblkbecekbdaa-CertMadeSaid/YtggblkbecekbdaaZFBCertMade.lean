/- Part of the proof, FBCertMade. -/
import Derived.Test.YtggblkbecekbdaaZFL13
import Derived.Test.YtggblkbecekbdaaZDBCertMade
import Derived.Test.YtggblkbecekbdaaZVc11
set_option linter.unusedVariables false
set_option linter.all false
set_option linter.unusedSimpArgs false
set_option maxRecDepth 1000000
namespace Go.Proofs.Ytggblkbecekbdaa
open Go Go.RowKit Go.Ql Go.Vc
abbrev CertMade_a0 (p : List Int) (d : List Int) (g : Nat × List Arc × List Int) (e : List Int) := (W (redF { sup := (instF p d).sup, arcs := g.2.1 : Inst } (potF e (↑(instF p d).sup.length : Int).toNat) (↑g.1 : Int)))
abbrev CertMade_a1 (g : Nat × List Arc × List Int) (x_1 : Arc) (x : Arc) := (g.2.1.set (↑g.1 : Int).toNat
 { src := x_1.src, dst := x_1.dst, low := x_1.low, cap := IntKind.i64.wrap (x.low + (2 : Int)), cost := x_1.cost : Arc })
abbrev CertMade_a2 (g' : Nat × List Arc × List Int) (p : List Int) (d : List Int) (e : List Int) := (g'.fst ≤ (instF p d).arcs.length ∧
 MadeI (instF p d) (potF e (instF p d).sup.length) (flowF (instF p d) d) g'.fst g'.2.fst g'.2.snd)
abbrev CertMade_a3 (g : Nat × List Int × List Arc × List Int) (x : Int) (e : List Int) (p : List Int) (d : List Int) := ((checkF { sup := g.2.1, arcs := g.2.2.1 : Inst }
 { kind := x, flow := g.2.2.2, pot := potF e (↑(instF p d).sup.length : Int).toNat, side := [], cycle := [] : Cert } ==
 (36 : Int)) =
 true →
 (CertOk
 { kind := (1 : Int), flow := g.2.2.2, pot := potF e (↑(instF p d).sup.length : Int).toNat, side := [], cycle := [(0 : Int)] : Cert } ∧
 InstOk { sup := g.2.1, arcs := g.2.2.1 : Inst }) ∧
 ((checkF { sup := g.2.1, arcs := g.2.2.1 : Inst }
 { kind := (1 : Int), flow := g.2.2.2, pot := potF e (↑(instF p d).sup.length : Int).toNat, side := [], cycle := [(0 : Int)] : Cert } ==
 (36 : Int)) =
 true ∧
 True) ∧
 True)
abbrev CertMade_a4 (h : Int) (g : Nat × List Arc × List Int) (g' : Nat × List Arc × List Int) := (h = h ∧ (0 : Nat) = (0 : Nat) ∧ True ∧ True ∧ IntKind.i64.wrap ((↑g.1 : Int) + (1 : Int)) = (↑g'.1 : Int) ∧ True)
abbrev CertMade_a5 (p : List Int) (d : List Int) (g : Nat × List Arc × List Int) (e : List Int) := (W
 (redF { sup := (instF p d).sup, arcs := g.2.1 : Inst } (potF e (↑(instF p d).sup.length : Int).toNat)
 (↑g.1 : Int)))
abbrev CertMade_a6 (g : Nat × List Int × List Arc × List Int) (e : List Int) (p : List Int) (d : List Int) := (checkF { sup := g.2.1, arcs := g.2.2.1 : Inst }
 { kind := (1 : Int), flow := g.2.2.2, pot := potF e (↑(instF p d).sup.length : Int).toNat, side := [], cycle := [] : Cert } ==
 (0 : Int))
abbrev CertMade_a7 (g : Nat × List Arc × List Int) := ((0 : Int) ≤ (↑g.1 : Int) ∧ (↑g.1 : Int) < (↑g.2.1.length : Int))
abbrev CertMade_a8 (p : List Int) (d : List Int) (g : Nat × List Arc × List Int) (e : List Int) := (wcmp (CertMade_a0 p d g e)
 { hi := (0 : Int), lo := (0 : Int) : Wide } <
 (0 : Int))
abbrev CertMade_a9 (p : List Int) (d : List Int) (g : Nat × List Arc × List Int) (e : List Int) := (wcmp (CertMade_a0 p d g e)
 { hi := (0 : Int), lo := (0 : Int) : Wide } >
 (0 : Int))
abbrev CertMade_a10 (g : Nat × List Arc × List Int) := ((0 : Int) ≤ (↑g.1 : Int) ∧ (↑g.1 : Int) < (↑g.2.2.length : Int))
abbrev CertMade_a11 (p : List Int) (d : List Int) (g : Nat × List Arc × List Int) (e : List Int) := (wcmp
 (CertMade_a5 p d g e)
 { hi := (0 : Int), lo := (0 : Int) : Wide } >
 (0 : Int))
abbrev CertMade_a12 (h : Int) (g : Nat × List Arc × List Int) (g' : Nat × List Arc × List Int) := (h = h ∧
 (0 : Nat) = (0 : Nat) ∧
 True ∧ True ∧ IntKind.i64.wrap ((↑g.1 : Int) + (1 : Int)) = (↑g'.1 : Int) ∧ True)
abbrev CertMade_a13 (p : List Int) (d : List Int) (g : Nat × List Int × List Arc × List Int) := (netF { sup := (instF p d).sup, arcs := g.2.2.1 : Inst } g.2.2.2)
def CertMade_E0 (p : List Int) (d : List Int) (e : List Int) (h : Int) (ty0 ty1 ty2 : TypeId) : Prop :=
      (Bytes p ∧ Bytes d ∧ p.length ≤ maxLen ∧ d.length ≤ maxLen) ∧
 (Bytes e ∧ e.length ≤ maxLen ∧ (0 : Int) ≤ (↑(instF p d).sup.length : Int) ∧ (↑(instF p d).sup.length : Int) ≤ (1000000 : Int)) ∧
 (Bytes d ∧ (instF p d).arcs.length ≤ (1000000 : Nat) ∧ L42 (instF p d).arcs) ∧
 ∃ (g0 : Nat × List Arc × List Int),
 ((g0.fst ≤ (instF p d).arcs.length ∧ MadeI (instF p d) (potF e (instF p d).sup.length) (flowF (instF p d) d) g0.fst g0.2.fst g0.2.snd) ∧
 (h = h ∧ (0 : Nat) = (0 : Nat) ∧ True ∧ True ∧ (0 : Int) = (↑g0.1 : Int) ∧ True) ∧
 flowF (instF p d) d = g0.2.2 ∧
 potF e (↑(instF p d).sup.length : Int).toNat = potF e (↑(instF p d).sup.length : Int).toNat ∧
 (True ∧ True ∧ True) ∧ (instF p d).sup = (instF p d).sup ∧ (instF p d).arcs = g0.2.1 ∧ True) ∧
 ∀ (g : Nat × List Arc × List Int),
 g.fst ≤ (instF p d).arcs.length ∧ MadeI (instF p d) (potF e (instF p d).sup.length) (flowF (instF p d) d) g.fst g.2.fst g.2.snd →
 (decide ((↑g.1 : Int) < (↑g.2.1.length : Int)) = true →
 (A64 (potF e (↑(instF p d).sup.length : Int).toNat) ∧ A64c { sup := (instF p d).sup, arcs := g.2.1 : Inst }.arcs) ∧
 ((CertMade_a0 p d g e).ok ∧
 { hi := (0 : Int), lo := (0 : Int) : Wide }.ok) ∧
 (decide
 (CertMade_a8 p d g e) =
 true →
 (CertMade_a7 g) ∧
 (↑g.1 : Int).toNat < g.2.1.length ∧
 ∀ (x : Arc),
 g.2.1[(↑g.1 : Int).toNat]? = some x →
 ((x.cap == (4611686018427387904 : Int)) = true →
 (CertMade_a7 g) ∧
 (↑g.1 : Int).toNat < g.2.1.length ∧
 ∀ (x : Arc),
 g.2.1[(↑g.1 : Int).toNat]? = some x →
 (CertMade_a7 g) ∧
 (↑g.1 : Int).toNat < g.2.1.length ∧
 ∀ (x_1 : Arc),
 g.2.1[(↑g.1 : Int).toNat]? = some x_1 →
 (decide
 (wcmp
 (CertMade_a5 p d g e)
 { hi := (0 : Int), lo := (0 : Int) : Wide } <
 (0 : Int)) =
 true →
 ((0 : Int) ≤ (↑g.1 : Int) ∧
 (↑g.1 : Int) <
 (↑(CertMade_a1 g x_1 x).length :
 Int)) ∧
 (↑g.1 : Int).toNat <
 (CertMade_a1 g x_1 x).length ∧
 ∀ (x_2 : Arc),
 (CertMade_a1 g x_1 x)[(↑g.1 : Int).toNat]? =
 some x_2 →
 (CertMade_a10 g) ∧
 (↑g.1 : Int).toNat < g.2.2.length ∧
 (decide
 (wcmp
 (W
 (redF { sup := (instF p d).sup, arcs := g.2.1 : Inst }
 (potF e (↑(instF p d).sup.length : Int).toNat) (↑g.1 : Int)))
 { hi := (0 : Int), lo := (0 : Int) : Wide } >
 (0 : Int)) =
 true →
 ((0 : Int) ≤ (↑g.1 : Int) ∧
 (↑g.1 : Int) <
 (↑(CertMade_a1 g x_1 x).length :
 Int)) ∧
 (↑g.1 : Int).toNat <
 (CertMade_a1 g x_1 x).length ∧
 ∀ (x_3 : Arc),
 (CertMade_a1 g x_1 x)[(↑g.1 : Int).toNat]? =
 some x_3 →
 ((0 : Int) ≤ (↑g.1 : Int) ∧
 (↑g.1 : Int) < (↑(g.2.2.set (↑g.1 : Int).toNat x_2.cap).length : Int)) ∧
 (↑g.1 : Int).toNat < (g.2.2.set (↑g.1 : Int).toNat x_2.cap).length ∧
 ∃ (g' : Nat × List Arc × List Int),
 (g'.fst ≤ (instF p d).arcs.length ∧
 MadeI (instF p d) (potF e (instF p d).sup.length) (flowF (instF p d) d) g'.fst g'.2.fst
 g'.2.snd) ∧
 (instF p d).arcs.length - g'.fst < (instF p d).arcs.length - g.fst ∧
 (h = h ∧
 (0 : Nat) = (0 : Nat) ∧
 True ∧
 True ∧ IntKind.i64.wrap ((↑g.1 : Int) + (1 : Int)) = (↑g'.1 : Int) ∧ True) ∧
 (g.2.2.set (↑g.1 : Int).toNat x_2.cap).set (↑g.1 : Int).toNat x_3.low = g'.2.2 ∧
 potF e (↑(instF p d).sup.length : Int).toNat =
 potF e (↑(instF p d).sup.length : Int).toNat ∧
 (True ∧ True ∧ True) ∧
 (instF p d).sup = (instF p d).sup ∧
 g.2.1.set (↑g.1 : Int).toNat
 { src := x_1.src, dst := x_1.dst, low := x_1.low, cap := IntKind.i64.wrap (x.low + (2 : Int)), cost := x_1.cost : Arc } =
 g'.2.1 ∧
 True) ∧
 (decide
 (wcmp
 (W
 (redF { sup := (instF p d).sup, arcs := g.2.1 : Inst }
 (potF e (↑(instF p d).sup.length : Int).toNat) (↑g.1 : Int)))
 { hi := (0 : Int), lo := (0 : Int) : Wide } >
 (0 : Int)) =
 false →
 ∃ (g' : Nat × List Arc × List Int),
 (CertMade_a2 g' p d e) ∧
 (instF p d).arcs.length - g'.fst < (instF p d).arcs.length - g.fst ∧
 (CertMade_a12 h g g') ∧
 g.2.2.set (↑g.1 : Int).toNat x_2.cap = g'.2.2 ∧
 potF e (↑(instF p d).sup.length : Int).toNat = potF e (↑(instF p d).sup.length : Int).toNat ∧
 (True ∧ True ∧ True) ∧
 (instF p d).sup = (instF p d).sup ∧
 g.2.1.set (↑g.1 : Int).toNat
 { src := x_1.src, dst := x_1.dst, low := x_1.low, cap := IntKind.i64.wrap (x.low + (2 : Int)), cost := x_1.cost : Arc } =
 g'.2.1 ∧
 True)) ∧
 (decide
 (wcmp
 (CertMade_a5 p d g e)
 { hi := (0 : Int), lo := (0 : Int) : Wide } <
 (0 : Int)) =
 false →
 (decide
 (CertMade_a11 p d g e) =
 true →
 ((0 : Int) ≤ (↑g.1 : Int) ∧
 (↑g.1 : Int) <
 (↑(CertMade_a1 g x_1 x).length :
 Int)) ∧
 (↑g.1 : Int).toNat <
 (CertMade_a1 g x_1 x).length ∧
 ∀ (x_2 : Arc),
 (CertMade_a1 g x_1 x)[(↑g.1 : Int).toNat]? =
 some x_2 →
 (CertMade_a10 g) ∧
 (↑g.1 : Int).toNat < g.2.2.length ∧
 ∃ (g' : Nat × List Arc × List Int),
 (CertMade_a2 g' p d e) ∧
 (instF p d).arcs.length - g'.fst < (instF p d).arcs.length - g.fst ∧
 (CertMade_a12 h g g') ∧
 g.2.2.set (↑g.1 : Int).toNat x_2.low = g'.2.2 ∧
 potF e (↑(instF p d).sup.length : Int).toNat = potF e (↑(instF p d).sup.length : Int).toNat ∧
 (True ∧ True ∧ True) ∧
 (instF p d).sup = (instF p d).sup ∧
 g.2.1.set (↑g.1 : Int).toNat
 { src := x_1.src, dst := x_1.dst, low := x_1.low, cap := IntKind.i64.wrap (x.low + (2 : Int)), cost := x_1.cost : Arc } =
 g'.2.1 ∧
 True) ∧
 (decide
 (CertMade_a11 p d g e) =
 false →
 ∃ (g' : Nat × List Arc × List Int),
 (CertMade_a2 g' p d e) ∧
 (instF p d).arcs.length - g'.fst < (instF p d).arcs.length - g.fst ∧
 (h = h ∧
 (0 : Nat) = (0 : Nat) ∧ True ∧ True ∧ IntKind.i64.wrap ((↑g.1 : Int) + (1 : Int)) = (↑g'.1 : Int) ∧ True) ∧
 g.2.2 = g'.2.2 ∧
 potF e (↑(instF p d).sup.length : Int).toNat = potF e (↑(instF p d).sup.length : Int).toNat ∧
 (True ∧ True ∧ True) ∧
 (instF p d).sup = (instF p d).sup ∧
 g.2.1.set (↑g.1 : Int).toNat
 { src := x_1.src, dst := x_1.dst, low := x_1.low, cap := IntKind.i64.wrap (x.low + (2 : Int)), cost := x_1.cost : Arc } =
 g'.2.1 ∧
 True))) ∧
 ((x.cap == (4611686018427387904 : Int)) = false →
 (decide
 (CertMade_a8 p d g e) =
 true →
 (CertMade_a7 g) ∧
 (↑g.1 : Int).toNat < g.2.1.length ∧
 ∀ (x : Arc),
 g.2.1[(↑g.1 : Int).toNat]? = some x →
 (CertMade_a10 g) ∧
 (↑g.1 : Int).toNat < g.2.2.length ∧
 (decide
 (CertMade_a11 p d g e) =
 true →
 (CertMade_a7 g) ∧
 (↑g.1 : Int).toNat < g.2.1.length ∧
 ∀ (x_1 : Arc),
 g.2.1[(↑g.1 : Int).toNat]? = some x_1 →
 ((0 : Int) ≤ (↑g.1 : Int) ∧ (↑g.1 : Int) < (↑(g.2.2.set (↑g.1 : Int).toNat x.cap).length : Int)) ∧
 (↑g.1 : Int).toNat < (g.2.2.set (↑g.1 : Int).toNat x.cap).length ∧
 ∃ (g' : Nat × List Arc × List Int),
 (CertMade_a2 g' p d e) ∧
 (instF p d).arcs.length - g'.fst < (instF p d).arcs.length - g.fst ∧
 (CertMade_a12 h g g') ∧
 (g.2.2.set (↑g.1 : Int).toNat x.cap).set (↑g.1 : Int).toNat x_1.low = g'.2.2 ∧
 potF e (↑(instF p d).sup.length : Int).toNat = potF e (↑(instF p d).sup.length : Int).toNat ∧
 (True ∧ True ∧ True) ∧ (instF p d).sup = (instF p d).sup ∧ g.2.1 = g'.2.1 ∧ True) ∧
 (decide
 (CertMade_a11 p d g e) =
 false →
 ∃ (g' : Nat × List Arc × List Int),
 (CertMade_a2 g' p d e) ∧
 (instF p d).arcs.length - g'.fst < (instF p d).arcs.length - g.fst ∧
 (CertMade_a4 h g g') ∧
 g.2.2.set (↑g.1 : Int).toNat x.cap = g'.2.2 ∧
 potF e (↑(instF p d).sup.length : Int).toNat = potF e (↑(instF p d).sup.length : Int).toNat ∧
 (True ∧ True ∧ True) ∧ (instF p d).sup = (instF p d).sup ∧ g.2.1 = g'.2.1 ∧ True)) ∧
 (decide
 (CertMade_a8 p d g e) =
 false →
 (decide
 (CertMade_a9 p d g e) =
 true →
 (CertMade_a7 g) ∧
 (↑g.1 : Int).toNat < g.2.1.length ∧
 ∀ (x : Arc),
 g.2.1[(↑g.1 : Int).toNat]? = some x →
 (CertMade_a10 g) ∧
 (↑g.1 : Int).toNat < g.2.2.length ∧
 ∃ (g' : Nat × List Arc × List Int),
 (CertMade_a2 g' p d e) ∧
 (instF p d).arcs.length - g'.fst < (instF p d).arcs.length - g.fst ∧
 (CertMade_a4 h g g') ∧
 g.2.2.set (↑g.1 : Int).toNat x.low = g'.2.2 ∧
 potF e (↑(instF p d).sup.length : Int).toNat = potF e (↑(instF p d).sup.length : Int).toNat ∧
 (True ∧ True ∧ True) ∧ (instF p d).sup = (instF p d).sup ∧ g.2.1 = g'.2.1 ∧ True) ∧
 (decide
 (CertMade_a9 p d g e) =
 false →
 ∃ (g' : Nat × List Arc × List Int),
 (CertMade_a2 g' p d e) ∧
 (instF p d).arcs.length - g'.fst < (instF p d).arcs.length - g.fst ∧
 (CertMade_a4 h g g') ∧
 g.2.2 = g'.2.2 ∧
 potF e (↑(instF p d).sup.length : Int).toNat = potF e (↑(instF p d).sup.length : Int).toNat ∧
 (True ∧ True ∧ True) ∧ (instF p d).sup = (instF p d).sup ∧ g.2.1 = g'.2.1 ∧ True)))) ∧
 (decide
 (CertMade_a8 p d g e) =
 false →
 (decide
 (CertMade_a8 p d g e) =
 true →
 (CertMade_a7 g) ∧
 (↑g.1 : Int).toNat < g.2.1.length ∧
 ∀ (x : Arc),
 g.2.1[(↑g.1 : Int).toNat]? = some x →
 (CertMade_a10 g) ∧
 (↑g.1 : Int).toNat < g.2.2.length ∧
 (decide
 (CertMade_a9 p d g e) =
 true →
 (CertMade_a7 g) ∧
 (↑g.1 : Int).toNat < g.2.1.length ∧
 ∀ (x_1 : Arc),
 g.2.1[(↑g.1 : Int).toNat]? = some x_1 →
 ((0 : Int) ≤ (↑g.1 : Int) ∧ (↑g.1 : Int) < (↑(g.2.2.set (↑g.1 : Int).toNat x.cap).length : Int)) ∧
 (↑g.1 : Int).toNat < (g.2.2.set (↑g.1 : Int).toNat x.cap).length ∧
 ∃ (g' : Nat × List Arc × List Int),
 (CertMade_a2 g' p d e) ∧
 (instF p d).arcs.length - g'.fst < (instF p d).arcs.length - g.fst ∧
 (CertMade_a4 h g g') ∧
 (g.2.2.set (↑g.1 : Int).toNat x.cap).set (↑g.1 : Int).toNat x_1.low = g'.2.2 ∧
 potF e (↑(instF p d).sup.length : Int).toNat = potF e (↑(instF p d).sup.length : Int).toNat ∧
 (True ∧ True ∧ True) ∧ (instF p d).sup = (instF p d).sup ∧ g.2.1 = g'.2.1 ∧ True) ∧
 (decide
 (CertMade_a9 p d g e) =
 false →
 ∃ (g' : Nat × List Arc × List Int),
 (CertMade_a2 g' p d e) ∧
 (instF p d).arcs.length - g'.fst < (instF p d).arcs.length - g.fst ∧
 (CertMade_a4 h g g') ∧
 g.2.2.set (↑g.1 : Int).toNat x.cap = g'.2.2 ∧
 potF e (↑(instF p d).sup.length : Int).toNat = potF e (↑(instF p d).sup.length : Int).toNat ∧
 (True ∧ True ∧ True) ∧ (instF p d).sup = (instF p d).sup ∧ g.2.1 = g'.2.1 ∧ True)) ∧
 (decide
 (CertMade_a8 p d g e) =
 false →
 (decide
 (CertMade_a9 p d g e) =
 true →
 (CertMade_a7 g) ∧
 (↑g.1 : Int).toNat < g.2.1.length ∧
 ∀ (x : Arc),
 g.2.1[(↑g.1 : Int).toNat]? = some x →
 (CertMade_a10 g) ∧
 (↑g.1 : Int).toNat < g.2.2.length ∧
 ∃ (g' : Nat × List Arc × List Int),
 (CertMade_a2 g' p d e) ∧
 (instF p d).arcs.length - g'.fst < (instF p d).arcs.length - g.fst ∧
 (CertMade_a4 h g g') ∧
 g.2.2.set (↑g.1 : Int).toNat x.low = g'.2.2 ∧
 potF e (↑(instF p d).sup.length : Int).toNat = potF e (↑(instF p d).sup.length : Int).toNat ∧
 (True ∧ True ∧ True) ∧ (instF p d).sup = (instF p d).sup ∧ g.2.1 = g'.2.1 ∧ True) ∧
 (decide
 (CertMade_a9 p d g e) =
 false →
 ∃ (g' : Nat × List Arc × List Int),
 (g'.fst ≤ (instF p d).arcs.length ∧ MadeI (instF p d) (potF e (instF p d).sup.length) (flowF (instF p d) d) g'.fst g'.2.fst g'.2.snd) ∧
 (instF p d).arcs.length - g'.fst < (instF p d).arcs.length - g.fst ∧
 (CertMade_a4 h g g') ∧
 g.2.2 = g'.2.2 ∧
 potF e (↑(instF p d).sup.length : Int).toNat = potF e (↑(instF p d).sup.length : Int).toNat ∧
 (True ∧ True ∧ True) ∧ (instF p d).sup = (instF p d).sup ∧ g.2.1 = g'.2.1 ∧ True)))) ∧
 (decide ((↑g.1 : Int) < (↑g.2.1.length : Int)) = false →
 ((instF p d).sup.length ≤ (10000 : Nat) ∧ { sup := (instF p d).sup, arcs := g.2.1 : Inst }.arcs.length ≤ (10000 : Nat) ∧ A64 g.2.2) ∧
 ∃ (g0 : Nat × List Int × List Arc × List Int),
 ((g0.fst ≤ (instF p d).sup.length ∧
 SupI (instF p d) g0.2.2.fst g0.2.2.snd g0.fst g0.2.fst ∧
 MadeI (instF p d) (potF e (instF p d).sup.length) (flowF (instF p d) d) (instF p d).arcs.length g0.2.2.fst g0.2.2.snd) ∧
 (h = h ∧ (0 : Nat) = (0 : Nat) ∧ True ∧ True ∧ True ∧ (0 : Int) = (↑g0.1 : Int) ∧ True) ∧
 netF { sup := (instF p d).sup, arcs := g.2.1 : Inst } g.2.2 = netF { sup := (instF p d).sup, arcs := g0.2.2.1 : Inst } g0.2.2.2 ∧
 g.2.2 = g0.2.2.2 ∧
 potF e (↑(instF p d).sup.length : Int).toNat = potF e (↑(instF p d).sup.length : Int).toNat ∧
 (True ∧ True ∧ True) ∧ (instF p d).sup = g0.2.1 ∧ g.2.1 = g0.2.2.1 ∧ True) ∧
 ∀ (g : Nat × List Int × List Arc × List Int),
 g.fst ≤ (instF p d).sup.length ∧
 SupI (instF p d) g.2.2.fst g.2.2.snd g.fst g.2.fst ∧
 MadeI (instF p d) (potF e (instF p d).sup.length) (flowF (instF p d) d) (instF p d).arcs.length g.2.2.fst g.2.2.snd →
 (decide ((↑g.1 : Int) < (↑(CertMade_a13 p d g).length : Int)) = true →
 (decide ((↑g.1 : Int) < (↑g.2.1.length : Int)) = true →
 ((0 : Int) ≤ (↑g.1 : Int) ∧ (↑g.1 : Int) < (↑(CertMade_a13 p d g).length : Int)) ∧
 (↑g.1 : Int).toNat < (CertMade_a13 p d g).length ∧
 ∀ (x : Wide),
 (CertMade_a13 p d g)[(↑g.1 : Int).toNat]? = some x →
 x.ok ∧
 ((0 : Int) ≤ (↑g.1 : Int) ∧ (↑g.1 : Int) < (↑g.2.1.length : Int)) ∧
 (↑g.1 : Int).toNat < g.2.1.length ∧
 ∃ (g' : Nat × List Int × List Arc × List Int),
 (g'.fst ≤ (instF p d).sup.length ∧
 SupI (instF p d) g'.2.2.fst g'.2.2.snd g'.fst g'.2.fst ∧
 MadeI (instF p d) (potF e (instF p d).sup.length) (flowF (instF p d) d) (instF p d).arcs.length g'.2.2.fst g'.2.2.snd) ∧
 (instF p d).sup.length - g'.fst < (instF p d).sup.length - g.fst ∧
 (h = h ∧ (0 : Nat) = (0 : Nat) ∧ True ∧ True ∧ True ∧ IntKind.i64.wrap ((↑g.1 : Int) + (1 : Int)) = (↑g'.1 : Int) ∧ True) ∧
 netF { sup := (instF p d).sup, arcs := g.2.2.1 : Inst } g.2.2.2 =
 netF { sup := (instF p d).sup, arcs := g'.2.2.1 : Inst } g'.2.2.2 ∧
 g.2.2.2 = g'.2.2.2 ∧
 potF e (↑(instF p d).sup.length : Int).toNat = potF e (↑(instF p d).sup.length : Int).toNat ∧
 (True ∧ True ∧ True) ∧
 g.2.1.set (↑g.1 : Int).toNat (if I64 x.v then x.v else (0 : Int)) = g'.2.1 ∧ g.2.2.1 = g'.2.2.1 ∧ True) ∧
 (decide ((↑g.1 : Int) < (↑g.2.1.length : Int)) = false →
 (5 : Int) ≠ (0 : Int) ∧
 ((0 : Int) ≤ h.tmod (5 : Int) ∧ h.tmod (5 : Int) < (↑(5 : Nat) : Int)) ∧
 (h.tmod (5 : Int)).toNat < (5 : Nat) ∧
 ∀ (x : Int),
 [(0 : Int), (2 : Int), (3 : Int), (4 : Int), (-1 : Int)][(h.tmod (5 : Int)).toNat]? = some x →
 True ∧
 (true = true →
 (CertOk
 { kind := (1 : Int), flow := g.2.2.2, pot := potF e (↑(instF p d).sup.length : Int).toNat, side := [], cycle := [] : Cert } ∧
 InstOk { sup := g.2.1, arcs := g.2.2.1 : Inst }) ∧
 ((CertMade_a6 g e p d) =
 true →
 (CertOk
 { kind := x, flow := g.2.2.2, pot := potF e (↑(instF p d).sup.length : Int).toNat, side := [], cycle := [] : Cert } ∧
 InstOk { sup := g.2.1, arcs := g.2.2.1 : Inst }) ∧
 (CertMade_a3 g x e p d) ∧
 ((checkF { sup := g.2.1, arcs := g.2.2.1 : Inst }
 { kind := x, flow := g.2.2.2, pot := potF e (↑(instF p d).sup.length : Int).toNat, side := [], cycle := [] : Cert } ==
 (36 : Int)) =
 false →
 (false = true ∧ True) ∧ True)) ∧
 ((CertMade_a6 g e p d) =
 false →
 (false = true ∧ True) ∧ True)) ∧
 (true = false → (false = true ∧ True) ∧ True))) ∧
 (decide ((↑g.1 : Int) < (↑(CertMade_a13 p d g).length : Int)) = false →
 (5 : Int) ≠ (0 : Int) ∧
 ((0 : Int) ≤ h.tmod (5 : Int) ∧ h.tmod (5 : Int) < (↑(5 : Nat) : Int)) ∧
 (h.tmod (5 : Int)).toNat < (5 : Nat) ∧
 ∀ (x : Int),
 [(0 : Int), (2 : Int), (3 : Int), (4 : Int), (-1 : Int)][(h.tmod (5 : Int)).toNat]? = some x →
 True ∧
 (true = true →
 (CertOk
 { kind := (1 : Int), flow := g.2.2.2, pot := potF e (↑(instF p d).sup.length : Int).toNat, side := [], cycle := [] : Cert } ∧
 InstOk { sup := g.2.1, arcs := g.2.2.1 : Inst }) ∧
 ((CertMade_a6 g e p d) =
 true →
 (CertOk { kind := x, flow := g.2.2.2, pot := potF e (↑(instF p d).sup.length : Int).toNat, side := [], cycle := [] : Cert } ∧
 InstOk { sup := g.2.1, arcs := g.2.2.1 : Inst }) ∧
 (CertMade_a3 g x e p d) ∧
 ((checkF { sup := g.2.1, arcs := g.2.2.1 : Inst }
 { kind := x, flow := g.2.2.2, pot := potF e (↑(instF p d).sup.length : Int).toNat, side := [], cycle := [] : Cert } ==
 (36 : Int)) =
 false →
 (false = true ∧ True) ∧ True)) ∧
 ((CertMade_a6 g e p d) =
 false →
 (false = true ∧ True) ∧ True)) ∧
 (true = false → (false = true ∧ True) ∧ True)))
theorem CertMade_q (p : List Int) (d : List Int) (e : List Int) (h : Int) (ty0 ty1 ty2 : TypeId) : CertMade_E0 p d e h ty0 ty1 ty2 = FVcP TT CertMade_g (CertMade_I p d e h) (CertMade_an p d e h) Try.f4 [.row 0, .row 1, .row 2, .int .u8 h] [(0, .row false ty0 (.ints .u8 p)), (1, .row false ty1 (.ints .u8 d)), (2, .row false ty2 (.ints .u8 e))] (CertMade_r p d e h) := by kernel_rfl
theorem CertMade_E (p : List Int) (d : List Int) (e : List Int) (h : Int) (ty0 ty1 ty2 : TypeId) (hp : Bytes p ∧ Bytes d ∧ p.length ≤ maxLen ∧ d.length ≤ maxLen ∧ Bytes e ∧ e.length ≤ maxLen ∧ 0 ≤ h ∧ h ≤ 255) : FVc TT CertMade_g (CertMade_I p d e h) (CertMade_an p d e h) Try.f4 [.row 0, .row 1, .row 2, .int .u8 h] [(0, .row false ty0 (.ints .u8 p)), (1, .row false ty1 (.ints .u8 d)), (2, .row false ty2 (.ints .u8 e))] (CertMade_r p d e h) := by
  refine FVc.of (CertMade_E0 p d e h ty0 ty1 ty2) (CertMade_q p d e h ty0 ty1 ty2) ?_
  unfold CertMade_E0
  delta CertMade_a13 CertMade_a12 CertMade_a11 CertMade_a10 CertMade_a9 CertMade_a8 CertMade_a7 CertMade_a6 CertMade_a5 CertMade_a4 CertMade_a3 CertMade_a2 CertMade_a1 CertMade_a0
  simp only [eq_self, exists_const, forall_const, decide_eq_true_eq, decide_eq_false_iff_not, and_true, true_and, bne_iff_ne, ne_eq, bne_eq_false_iff_eq, Int.toNat_natCast, Bool.not_eq_true', Bool.not_eq_false', beq_iff_eq, beq_eq_false_iff_ne, nilEq_true]
  obtain ⟨p1, p2, p3, p4, p5, p6, h0, h1⟩ := hp
  have l1 := instF_sup p d
  have l2 := nOf_pos d
  have l3 := nOf_le d
  have l4 := instF_arcs p d
  have hr := instF_right p d
  have hrs := right_small hr
  have q3 := instF_A64c p d
  have q4 := instF_L42 p d
  have q6 := flowF_len (instF p d) d
  have hn : ∀ a ∈ (instF p d).arcs, a.Nice (instF p d).sup.length := fun a ha => by rw [l1]; exact instF_nice p d a ha
  have hPl := cpot_len e (instF p d).sup.length
  have hPA := cpot_A64 e (instF p d).sup.length
  have hPm : ∀ y ∈ potF e (instF p d).sup.length, -8 ≤ y ∧ y ≤ 16 := fun y hy => by
    unfold potF at hy
    rw [List.mem_map] at hy
    obtain ⟨k, _, rfl⟩ := hy
    unfold potE
    split <;> omega
  have hrd := fun k => redF_few hn hPm k
  generalize potF e (instF p d).sup.length = P at *
  refine ⟨⟨p1, p2, p3, p4⟩, ⟨p5, p6, by omega, by omega⟩, ⟨p2, by omega, q4⟩, (0, (instF p d).arcs, flowF (instF p d) d), ⟨⟨by dsimp only; omega, MadeI.zero q6⟩, rfl, rfl, rfl⟩, ?_⟩
  rintro ⟨k, B, y⟩ ⟨hk, hM⟩
  dsimp only at hk hM ⊢
  have hlb := hM.lb
  have hly := hM.ly
  have hBn := hM.nice hn
  have hBc : A64c B := fun a ha => by have := (hBn a ha).k0; have := (hBn a ha).k1; unfold I64; omega
  refine ⟨fun h1 => ⟨⟨hPA, hBc⟩, ⟨W_ok _, W_zero ▸ W_ok 0⟩, ?_⟩, fun h1 => ?_⟩
  · have hkl : k < (instF p d).arcs.length := by omega
    obtain ⟨eb, ey⟩ := hM.same hkl
    have hrk := hrd k
    have hred : wcmp (W (redF ⟨(instF p d).sup, B⟩ P k)) ⟨0, 0⟩ = sgn (redF (instF p d) P k) := by rw [redF_made hM rfl, ← W_zero]; rfl
    have hBk : B[k]? = some (B.getD k default) := by rw [List.getD_eq_getElem?_getD, List.getElem?_eq_getElem (by omega)]; rfl
    have hset : ∀ X : Arc, (B.set k X)[k]? = some X := fun X => by rw [List.getElem?_set_self (by omega)]
    have hN := hBn _ (List.mem_of_getElem? hBk)
    have wl : IntKind.i64.wrap ((B.getD k default).low + 2) = (B.getD k default).low + 2 := by have := hN.l0; have := hN.l1; exact w64 (by omega) (by omega)
    have hw : IntKind.i64.wrap ((k : Int) + 1) = ((k + 1 : Nat) : Int) := by rw [w64 (by omega) (by omega)]; omega
    have nx : ∀ (B' : List Arc) (y' : List Int), B' = B.set k (madeA (B.getD k default) (redF (instF p d) P k)) → y' = y.set k (madeX (B.getD k default) (redF (instF p d) P k) (y.getD k 0)) → ∃ g' : Nat × List Arc × List Int, (g'.1 ≤ (instF p d).arcs.length ∧ MadeI (instF p d) P (flowF (instF p d) d) g'.1 g'.2.1 g'.2.2) ∧ (instF p d).arcs.length - g'.1 < (instF p d).arcs.length - k ∧ ((k + 1 : Nat) : Int) = (g'.1 : Int) ∧ y' = g'.2.2 ∧ B' = g'.2.1 := fun B' y' h3 h4 =>
      ⟨(k + 1, B', y'), ⟨by dsimp only; omega, hM.next hkl (by rw [h3, eb]) (by rw [h4, eb, ey])⟩, by dsimp only; omega, rfl, rfl, rfl⟩
    have sB : B.set k (B.getD k default) = B := by
      apply List.ext_getElem?
      intro j
      rw [List.getElem?_set]
      split
      · rename_i e; subst e; rw [if_pos (by omega), hBk]
      · rfl
    have sy : y.set k (y.getD k 0) = y := by
      apply List.ext_getElem?
      intro j
      rw [List.getElem?_set]
      split
      · rename_i e; subst e; rw [if_pos (by omega), List.getD_eq_getElem?_getD, List.getElem?_eq_getElem (by omega)]; rfl
      · rfl
    have hi : inf = 4611686018427387904 := rfl
    have c1 := sgn_neg (r := redF (instF p d) P k) (by unfold I128; omega)
    have c2 := sgn_pos (r := redF (instF p d) P k) (by unfold I128; omega)
    rw [← gt_iff_lt] at c2
    simp only [hred, hBk, hset, Option.some.injEq, forall_eq', List.length_set, wl, hw, c1, c2, List.set_set]
    have Z : ((0 : Int) ≤ k ∧ (k : Int) < (B.length : Int)) := by omega
    have Z2 : ((0 : Int) ≤ k ∧ (k : Int) < (y.length : Int)) := by omega
    have Z3 : k < B.length := by omega
    have Z4 : k < y.length := by omega
    generalize redF (instF p d) P k = r at *
    generalize B.getD k default = a at *
    by_cases d1 : r < 0
    · have d2 : ¬ r > 0 := by omega
      by_cases d3 : a.cap = 4611686018427387904
      · have n1 := nx (B.set k ⟨a.src, a.dst, a.low, a.low + 2, a.cost⟩) (y.set k (a.low + 2)) (by unfold madeA; rw [if_pos ⟨d1, d3⟩]) (by unfold madeX madeA; rw [if_pos d1, if_pos ⟨d1, d3⟩])
        simp [d1, d2, d3, Z3, Z4]; simpa using n1
      · have n1 := nx B (y.set k a.cap) (by unfold madeA; rw [if_neg (fun h => d3 h.2), sB]) (by unfold madeX madeA; rw [if_pos d1, if_neg (fun h => d3 h.2)])
        simp [d1, d2, d3, Z3, Z4]; simpa using n1
    · by_cases d2 : r > 0
      · have n1 := nx B (y.set k a.low) (by unfold madeA; rw [if_neg (fun h => d1 h.1), sB]) (by unfold madeX; rw [if_neg d1, if_pos d2])
        simp [d1, d2, Z3, Z4]; simpa using n1
      · have n1 := nx B y (by unfold madeA; rw [if_neg (fun h => d1 h.1), sB]) (by unfold madeX; rw [if_neg d1, if_neg d2, sy])
        simp [d1, d2]; simpa using n1
  · have ek : k = (instF p d).arcs.length := by omega
    subst ek
    have hyA := hM.a64 hn (flow_few (instF_nice p d) d).a64
    refine ⟨⟨by omega, by omega, hyA⟩, (0, (instF p d).sup, B, y), ⟨⟨Nat.zero_le _, ⟨rfl, fun v hv => absurd hv (Nat.not_lt_zero v)⟩, hM⟩, rfl, rfl, rfl, rfl, rfl⟩, ?_⟩
    clear hM hlb hly hBn hBc hyA h1
    clear B y
    rintro ⟨v, s, B, y⟩ ⟨hv, hS, hM⟩
    dsimp only at hv hS hM ⊢
    have hlb := hM.lb
    have hly := hM.ly
    have hBn := hM.nice hn
    have hsl := hS.len
    rw [netF_len]
    dsimp only
    have hF := flow_in hn d
    have h7 := hM.seven hn hF
    have hyA : A64 y := fun u hu => by have := h7 u hu; unfold I64; omega
    have nb : ∀ t : Int, -4398046511104 ≤ netK (instF p d).sup.length B y B.length t ∧ netK (instF p d).sup.length B y B.length t ≤ 4398046511104 := fun t => by
      have := netK_bound (n := ((instF p d).sup.length : Int)) (l := B) (x := y) (v := t) (B := 7) (by omega) (fun u hu => by have := h7 u hu; omega) B.length
      omega
    have fin : (instF p d).sup.length ≤ v → ∀ x : Int, [0, 2, 3, 4, -1][(h.tmod 5).toNat]? = some x → (CertOk ⟨1, y, P, [], []⟩ ∧ InstOk ⟨s, B⟩) ∧ checkF ⟨s, B⟩ ⟨1, y, P, [], []⟩ = 0 ∧ (CertOk ⟨x, y, P, [], []⟩ ∧ InstOk ⟨s, B⟩) ∧ checkF ⟨s, B⟩ ⟨x, y, P, [], []⟩ = 36 ∧ (CertOk ⟨1, y, P, [], [0]⟩ ∧ InstOk ⟨s, B⟩) ∧ checkF ⟨s, B⟩ ⟨1, y, P, [], [0]⟩ = 36 := fun hge x hx => by
      have hch := made_best hM hn hrs.1 hrs.2 hPl hrd hF hsl fun t ht => hS.at_ t (by omega)
      have hri := (check_zero hch).1
      have hio := instOk_of hri
      have hck : ∀ (a : Int) (c : List Int), c.length ≤ 10 → CertOk ⟨a, y, P, [], c⟩ := fun a c hc => ⟨hyA, hPA, by dsimp only; omega, by dsimp only; omega, by simp, by dsimp only; omega⟩
      have pl : ∀ c : Cert, plainF c = false → checkF ⟨s, B⟩ c = 36 := fun c hc => by
        unfold checkF; rw [if_neg (fun e => e hri), if_pos hc]
      have hxk : x = 0 ∨ x = 2 ∨ x = 3 ∨ x = 4 ∨ x = -1 := by
        have := List.mem_of_getElem? hx
        simpa using this
      have hP0 : P.length ≠ 0 := by omega
      refine ⟨⟨hck _ _ (by simp), hio⟩, hch, ⟨hck _ _ (by simp), hio⟩, pl _ ?_, ⟨hck _ _ (by simp), hio⟩, pl _ (by simp [plainF])⟩
      rcases hxk with rfl | rfl | rfl | rfl | rfl <;> simp [plainF, hP0]
    have hm0 : 0 ≤ h.tmod 5 := Int.tmod_nonneg _ h0
    have hm1 : h.tmod 5 < 5 := Int.tmod_lt_of_pos _ (by omega)
    refine ⟨fun h2 => ⟨fun h3 => ⟨by omega, by omega, fun x hx => ?_⟩, fun h3 => absurd h2 (by omega)⟩, fun h2 => ⟨by decide, by omega, by omega, fun x hx => ?_⟩⟩
    · obtain ⟨-, rfl⟩ := map_range_get hx
      have nbv := nb v
      have ev : (W (netK (instF p d).sup.length B y B.length v)).v = netK (instF p d).sup.length B y B.length v := v_of (by unfold I128; omega)
      dsimp only
      rw [ev, if_pos (by unfold I64; omega)]
      refine ⟨W_ok _, by omega, by omega, (v + 1, s.set v (netK (instF p d).sup.length B y B.length v), B, y), ⟨by dsimp only; omega, ⟨by rw [List.length_set]; exact hsl, fun t ht => ?_⟩, hM⟩, by dsimp only; omega, by rw [w64 (by omega) (by omega)]; dsimp only; omega, rfl, rfl, rfl, rfl⟩
      dsimp only at ht
      rw [getD_set' _ _ _ _ _ (by omega)]
      by_cases e : t = v
      · rw [if_pos e, e]
      · rw [if_neg e]; exact hS.at_ t (by omega)
    · obtain ⟨f1, f2, f3, f4, f5, f6⟩ := fin (by omega) x hx
      refine ⟨⟨f1, fun _ => ⟨f3, fun _ => ⟨f5, f6⟩, fun h => absurd f4 h⟩, fun h => absurd f2 h⟩, fun h => by simp at h⟩
theorem CertMade_ok : SpecOk Try.prog CertMade_n true (specOf true CertMade_fs) :=
  spec_ok' TT_ok (show GsOk Try.prog CertMade_g from gsOk_cons known13_ok (gsOk_cons Inst_ok (gsOk_cons Flow_ok (gsOk_cons Pot_ok (gsOk_cons Compare_ok (gsOk_cons Reduced_ok (gsOk_cons Net_ok (gsOk_cons Back_ok (gsOk_cons Check_ok (gsOk_nil)))))))))) (by kernel_rfl) mixedOrders Try.func4 rfl rfl (by kernel_rfl) (n := 4) (by decide +kernel) (I := CertMade_IA) (fun _ _ => isOk_nil) (A := CertMade_A)
    (fun args h r hr => by
      unfold CertMade_fs at hr
      split at hr
      · rename_i h ty0 p ty1 d ty2 e; cases hr; refine ⟨rfl, fun hp => ?_⟩; have hE := CertMade_E p d e h ty0 ty1 ty2 hp; exact hE
      · cases hr)
end Go.Proofs.Ytggblkbecekbdaa
