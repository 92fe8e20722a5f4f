/-
  CONTRACTS, PROVED: CutSafe.
-/
import Derived.Test.YtnoocfcmlilffaaFC10
import Derived.Test.YtnoocfcmlilffaaDBCutSafe
import Derived.Test.YtnoocfcmlilffaaAid
set_option linter.unusedVariables false
set_option linter.all false
set_option linter.unusedSimpArgs false
set_option maxRecDepth 100000
namespace Go.Proofs.Ytnoocfcmlilffaa
open Go Go.RowKit Go.Ql Go.Vc

def CutSafe_E0 (c : List Int) (d : List Int) (e : List Int) (fl : List Int) (more : Int) (ty0 ty1 ty2 ty3 : TypeId) : Prop :=
      (Bytes c ∧ Bytes d ∧ c.length ≤ maxLen ∧ d.length ≤ maxLen) ∧
        ((decide ((↑(instF c d).sup.length : Int) > (1 : Int)) = true →
              ((0 : Int) ≤ (0 : Int) ∧ (0 : Int) < (↑(instF c d).sup.length : Int)) ∧
                Int.toNat (0 : Int) < (instF c d).sup.length ∧
                  ∀ (x : Int),
                    (instF c d).sup[Int.toNat (0 : Int)]? = some x →
                      (9 : Int) ≠ (0 : Int) ∧
                        ((0 : Int) ≤ (0 : Int) ∧ (0 : Int) < (↑(instF c d).sup.length : Int)) ∧
                          Int.toNat (0 : Int) < (instF c d).sup.length ∧
                            ((0 : Int) ≤ (1 : Int) ∧
                                (1 : Int) < (↑((instF c d).sup.set (Int.toNat (0 : Int)) (IntKind.i64.wrap (x + IntKind.i64.wrap (more.tmod (9 : Int))))).length : Int)) ∧
                              Int.toNat (1 : Int) < ((instF c d).sup.set (Int.toNat (0 : Int)) (IntKind.i64.wrap (x + IntKind.i64.wrap (more.tmod (9 : Int))))).length ∧
                                ∀ (x_1 : Int),
                                  ((instF c d).sup.set (Int.toNat (0 : Int)) (IntKind.i64.wrap (x + IntKind.i64.wrap (more.tmod (9 : Int)))))[Int.toNat (1 : Int)]? = some x_1 →
                                    (9 : Int) ≠ (0 : Int) ∧
                                      ((0 : Int) ≤ (1 : Int) ∧
                                          (1 : Int) < (↑((instF c d).sup.set (Int.toNat (0 : Int)) (IntKind.i64.wrap (x + IntKind.i64.wrap (more.tmod (9 : Int))))).length : Int)) ∧
                                        Int.toNat (1 : Int) < ((instF c d).sup.set (Int.toNat (0 : Int)) (IntKind.i64.wrap (x + IntKind.i64.wrap (more.tmod (9 : Int))))).length ∧
                                          ∃ (g : Unit),
                                            True ∧
                                              (True ∧ True ∧ True ∧ (0 : Nat) = (0 : Nat) ∧ True) ∧
                                                (True ∧ True ∧ True) ∧
                                                  ((instF c d).sup.set (Int.toNat (0 : Int)) (IntKind.i64.wrap (x + IntKind.i64.wrap (more.tmod (9 : Int))))).set (Int.toNat (1 : Int))
                                                        (IntKind.i64.wrap (x_1 - IntKind.i64.wrap (more.tmod (9 : Int)))) =
                                                      supM (instF c d).sup more ∧
                                                    (instF c d).arcs = (instF c d).arcs ∧ d = d ∧ e = e ∧ fl = fl ∧ True) ∧
            (decide ((↑(instF c d).sup.length : Int) > (1 : Int)) = false →
              ∃ (g : Unit),
                True ∧
                  (True ∧ True ∧ True ∧ (0 : Nat) = (0 : Nat) ∧ True) ∧
                    (True ∧ True ∧ True) ∧ (instF c d).sup = supM (instF c d).sup more ∧ (instF c d).arcs = (instF c d).arcs ∧ d = d ∧ e = e ∧ fl = fl ∧ True)) ∧
          ∀ (g : Unit),
            True →
              (Bytes e ∧ e.length ≤ maxLen ∧ (0 : Int) ≤ (↑(supM (instF c d).sup more).length : Int) ∧ (↑(supM (instF c d).sup more).length : Int) ≤ (1000000 : Int)) ∧
                (Bytes d ∧ (instF c d).arcs.length ≤ (1000000 : Nat) ∧ L42 (instF c d).arcs) ∧
                  (A64a (instF c d).arcs ∧
                      (instF c d).arcs.length ≤ (140737488351232 : Nat) ∧ A64 (supM (instF c d).sup more) ∧ (supM (instF c d).sup more).length ≤ (140737488351232 : Nat)) ∧
                    ((provesF { sup := supM (instF c d).sup more, arcs := (instF c d).arcs : Inst } (wholeF e (↑(supM (instF c d).sup more).length : Int).toNat) == (0 : Int)) = true →
                        ((supM (instF c d).sup more).length ≤ (10000 : Nat) ∧ (instF c d).arcs.length ≤ (10000 : Nat) ∧ A64 fl ∧ A64 (supM (instF c d).sup more)) ∧
                          ((fitsF { sup := supM (instF c d).sup more, arcs := (instF c d).arcs : Inst } fl == (0 : Int)) = true → (false = true ∧ True) ∧ True) ∧
                            ((fitsF { sup := supM (instF c d).sup more, arcs := (instF c d).arcs : Inst } fl == (0 : Int)) = false →
                              ((supM (instF c d).sup more).length ≤ (10000 : Nat) ∧
                                  (instF c d).arcs.length ≤ (10000 : Nat) ∧
                                    A64 (flowF { sup := supM (instF c d).sup more, arcs := (instF c d).arcs : Inst } d) ∧ A64 (supM (instF c d).sup more)) ∧
                                ((fitsF { sup := supM (instF c d).sup more, arcs := (instF c d).arcs : Inst }
                                          (flowF { sup := supM (instF c d).sup more, arcs := (instF c d).arcs : Inst } d) ==
                                        (0 : Int)) =
                                      true →
                                    (false = true ∧ True) ∧ True) ∧
                                  ((fitsF { sup := supM (instF c d).sup more, arcs := (instF c d).arcs : Inst }
                                          (flowF { sup := supM (instF c d).sup more, arcs := (instF c d).arcs : Inst } d) ==
                                        (0 : Int)) =
                                      false →
                                    ((supM (instF c d).sup more).length ≤ (10000 : Nat) ∧
                                        (instF c d).arcs.length ≤ (10000 : Nat) ∧
                                          A64 (flowF { sup := supM (instF c d).sup more, arcs := (instF c d).arcs : Inst } d) ∧ A64 (supM (instF c d).sup more)) ∧
                                      ((fitsF { sup := supM (instF c d).sup more, arcs := (instF c d).arcs : Inst }
                                                (flowF { sup := supM (instF c d).sup more, arcs := (instF c d).arcs : Inst } d) !=
                                              (0 : Int)) =
                                            true →
                                          True ∧ (true = true ∧ True) ∧ True) ∧
                                        ((fitsF { sup := supM (instF c d).sup more, arcs := (instF c d).arcs : Inst }
                                                (flowF { sup := supM (instF c d).sup more, arcs := (instF c d).arcs : Inst } d) !=
                                              (0 : Int)) =
                                            false →
                                          ∃ (g0 : Nat),
                                            (g0 ≤ (instF c d).arcs.length ∧
                                                ((0 : Nat) = (0 : Nat) ∧ True ∧ True ∧ (0 : Nat) = (0 : Nat) ∧ (0 : Int) = (↑g0 : Int) ∧ True) ∧
                                                  ((0 : Int) =
                                                        (W
                                                            (crossK (↑(supM (instF c d).sup more).length : Int) (wholeF e (supM (instF c d).sup more).length) (instF c d).arcs
                                                              (flowF { sup := supM (instF c d).sup more, arcs := (instF c d).arcs : Inst } d) g0)).hi ∧
                                                      (0 : Int) =
                                                          (W
                                                              (crossK (↑(supM (instF c d).sup more).length : Int) (wholeF e (supM (instF c d).sup more).length) (instF c d).arcs
                                                                (flowF { sup := supM (instF c d).sup more, arcs := (instF c d).arcs : Inst } d) g0)).lo ∧
                                                        True) ∧
                                                    flowF { sup := supM (instF c d).sup more, arcs := (instF c d).arcs : Inst } d =
                                                        flowF { sup := supM (instF c d).sup more, arcs := (instF c d).arcs : Inst } d ∧
                                                      wholeF e (↑(supM (instF c d).sup more).length : Int).toNat = wholeF e (↑(supM (instF c d).sup more).length : Int).toNat ∧
                                                        (True ∧ True ∧ True) ∧ supM (instF c d).sup more = supM (instF c d).sup more ∧ (instF c d).arcs = (instF c d).arcs ∧ True) ∧
                                              ∀ (g : Nat),
                                                g ≤ (instF c d).arcs.length →
                                                  (decide ((↑g : Int) < (↑(instF c d).arcs.length : Int)) = true →
                                                      ((0 : Int) ≤ (↑g : Int) ∧ (↑g : Int) < (↑(instF c d).arcs.length : Int)) ∧
                                                        (↑g : Int).toNat < (instF c d).arcs.length ∧
                                                          ∀ (x : Arc),
                                                            (instF c d).arcs[(↑g : Int).toNat]? = some x →
                                                              ((0 : Int) ≤ x.src ∧ x.src < (↑(wholeF e (↑(supM (instF c d).sup more).length : Int).toNat).length : Int)) ∧
                                                                x.src.toNat < (wholeF e (↑(supM (instF c d).sup more).length : Int).toNat).length ∧
                                                                  ∀ (x_1 : Bool),
                                                                    (wholeF e (↑(supM (instF c d).sup more).length : Int).toNat)[x.src.toNat]? = some x_1 →
                                                                      ((0 : Int) ≤ (↑g : Int) ∧ (↑g : Int) < (↑(instF c d).arcs.length : Int)) ∧
                                                                        (↑g : Int).toNat < (instF c d).arcs.length ∧
                                                                          ∀ (x : Arc),
                                                                            (instF c d).arcs[(↑g : Int).toNat]? = some x →
                                                                              ((0 : Int) ≤ x.dst ∧ x.dst < (↑(wholeF e (↑(supM (instF c d).sup more).length : Int).toNat).length : Int)) ∧
                                                                                x.dst.toNat < (wholeF e (↑(supM (instF c d).sup more).length : Int).toNat).length ∧
                                                                                  ∀ (x_2 : Bool),
                                                                                    (wholeF e (↑(supM (instF c d).sup more).length : Int).toNat)[x.dst.toNat]? = some x_2 →
                                                                                      (x_1 = true →
                                                                                          ((!x_2) = true →
                                                                                              ((0 : Int) ≤ (↑g : Int) ∧
                                                                                                  (↑g : Int) <
                                                                                                    (↑(flowF { sup := supM (instF c d).sup more, arcs := (instF c d).arcs : Inst }
                                                                                                            d).length :
                                                                                                      Int)) ∧
                                                                                                (↑g : Int).toNat <
                                                                                                    (flowF { sup := supM (instF c d).sup more, arcs := (instF c d).arcs : Inst }
                                                                                                        d).length ∧
                                                                                                  ∀ (x : Int),
                                                                                                    (flowF { sup := supM (instF c d).sup more, arcs := (instF c d).arcs : Inst }
                                                                                                            d)[(↑g : Int).toNat]? =
                                                                                                        some x →
                                                                                                      I64 x ∧
                                                                                                        ((W
                                                                                                                (crossK (↑(supM (instF c d).sup more).length : Int)
                                                                                                                  (wholeF e (supM (instF c d).sup more).length) (instF c d).arcs
                                                                                                                  (flowF
                                                                                                                    { sup := supM (instF c d).sup more, arcs := (instF c d).arcs : Inst }
                                                                                                                    d)
                                                                                                                  g)).ok ∧
                                                                                                            (W x).ok) ∧
                                                                                                          (x_2 = true →
                                                                                                              ((!x_1) = true →
                                                                                                                  ((0 : Int) ≤ (↑g : Int) ∧
                                                                                                                      (↑g : Int) <
                                                                                                                        (↑(flowF
                                                                                                                                { sup := supM (instF c d).sup more,
                                                                                                                                  arcs := (instF c d).arcs : Inst }
                                                                                                                                d).length :
                                                                                                                          Int)) ∧
                                                                                                                    (↑g : Int).toNat <
                                                                                                                        (flowF
                                                                                                                            { sup := supM (instF c d).sup more, arcs := (instF c d).arcs :
                                                                                                                              Inst }
                                                                                                                            d).length ∧
                                                                                                                      ∀ (x_3 : Int),
                                                                                                                        (flowF
                                                                                                                                { sup := supM (instF c d).sup more,
                                                                                                                                  arcs := (instF c d).arcs : Inst }
                                                                                                                                d)[(↑g : Int).toNat]? =
                                                                                                                            some x_3 →
                                                                                                                          I64 x_3 ∧
                                                                                                                            ((wplus
                                                                                                                                    (W
                                                                                                                                      (crossK (↑(supM (instF c d).sup more).length : Int)
                                                                                                                                        (wholeF e (supM (instF c d).sup more).length)
                                                                                                                                        (instF c d).arcs
                                                                                                                                        (flowF
                                                                                                                                          { sup := supM (instF c d).sup more,
                                                                                                                                            arcs := (instF c d).arcs : Inst }
                                                                                                                                          d)
                                                                                                                                        g))
                                                                                                                                    (W x)).ok ∧
                                                                                                                                (W x_3).ok) ∧
                                                                                                                              ∃ (g' : Nat),
                                                                                                                                g' ≤ (instF c d).arcs.length ∧
                                                                                                                                  (instF c d).arcs.length - g' <
                                                                                                                                      (instF c d).arcs.length - g ∧
                                                                                                                                    ((0 : Nat) = (0 : Nat) ∧
                                                                                                                                        True ∧
                                                                                                                                          True ∧
                                                                                                                                            (0 : Nat) = (0 : Nat) ∧
                                                                                                                                              IntKind.i64.wrap ((↑g : Int) + (1 : Int)) =
                                                                                                                                                  (↑g' : Int) ∧
                                                                                                                                                True) ∧
                                                                                                                                      ((wminus
                                                                                                                                                (wplus
                                                                                                                                                  (W
                                                                                                                                                    (crossK
                                                                                                                                                      (↑(supM (instF c d).sup
                                                                                                                                                              more).length :
                                                                                                                                                        Int)
                                                                                                                                                      (wholeF e
                                                                                                                                                        (supM (instF c d).sup
                                                                                                                                                            more).length)
                                                                                                                                                      (instF c d).arcs
                                                                                                                                                      (flowF
                                                                                                                                                        {
                                                                                                                                                          sup :=
                                                                                                                                                            supM (instF c d).sup more,
                                                                                                                                                          arcs := (instF c d).arcs :
                                                                                                                                                          Inst }
                                                                                                                                                        d)
                                                                                                                                                      g))
                                                                                                                                                  (W x))
                                                                                                                                                (W x_3)).hi =
                                                                                                                                            (W
                                                                                                                                                (crossK
                                                                                                                                                  (↑(supM (instF c d).sup more).length :
                                                                                                                                                    Int)
                                                                                                                                                  (wholeF e
                                                                                                                                                    (supM (instF c d).sup more).length)
                                                                                                                                                  (instF c d).arcs
                                                                                                                                                  (flowF
                                                                                                                                                    { sup := supM (instF c d).sup more,
                                                                                                                                                      arcs := (instF c d).arcs : Inst }
                                                                                                                                                    d)
                                                                                                                                                  g')).hi ∧
                                                                                                                                          (wminus
                                                                                                                                                  (wplus
                                                                                                                                                    (W
                                                                                                                                                      (crossK
                                                                                                                                                        (↑(supM (instF c d).sup
                                                                                                                                                                more).length :
                                                                                                                                                          Int)
                                                                                                                                                        (wholeF e
                                                                                                                                                          (supM (instF c d).sup
                                                                                                                                                              more).length)
                                                                                                                                                        (instF c d).arcs
                                                                                                                                                        (flowF
                                                                                                                                                          {
                                                                                                                                                            sup :=
                                                                                                                                                              supM (instF c d).sup more,
                                                                                                                                                            arcs := (instF c d).arcs :
                                                                                                                                                            Inst }
                                                                                                                                                          d)
                                                                                                                                                        g))
                                                                                                                                                    (W x))
                                                                                                                                                  (W x_3)).lo =
                                                                                                                                              (W
                                                                                                                                                  (crossK
                                                                                                                                                    (↑(supM (instF c d).sup more).length :
                                                                                                                                                      Int)
                                                                                                                                                    (wholeF e
                                                                                                                                                      (supM (instF c d).sup more).length)
                                                                                                                                                    (instF c d).arcs
                                                                                                                                                    (flowF
                                                                                                                                                      { sup := supM (instF c d).sup more,
                                                                                                                                                        arcs := (instF c d).arcs : Inst }
                                                                                                                                                      d)
                                                                                                                                                    g')).lo ∧
                                                                                                                                            True) ∧
                                                                                                                                        flowF
                                                                                                                                              { sup := supM (instF c d).sup more,
                                                                                                                                                arcs := (instF c d).arcs : Inst }
                                                                                                                                              d =
                                                                                                                                            flowF
                                                                                                                                              { sup := supM (instF c d).sup more,
                                                                                                                                                arcs := (instF c d).arcs : Inst }
                                                                                                                                              d ∧
                                                                                                                                          wholeF e
                                                                                                                                                (↑(supM (instF c d).sup more).length :
                                                                                                                                                    Int).toNat =
                                                                                                                                              wholeF e
                                                                                                                                                (↑(supM (instF c d).sup more).length :
                                                                                                                                                    Int).toNat ∧
                                                                                                                                            (True ∧ True ∧ True) ∧
                                                                                                                                              supM (instF c d).sup more =
                                                                                                                                                  supM (instF c d).sup more ∧
                                                                                                                                                (instF c d).arcs = (instF c d).arcs ∧
                                                                                                                                                  True) ∧
                                                                                                                ((!x_1) = false →
                                                                                                                  ∃ (g' : Nat),
                                                                                                                    g' ≤ (instF c d).arcs.length ∧
                                                                                                                      (instF c d).arcs.length - g' < (instF c d).arcs.length - g ∧
                                                                                                                        ((0 : Nat) = (0 : Nat) ∧
                                                                                                                            True ∧
                                                                                                                              True ∧
                                                                                                                                (0 : Nat) = (0 : Nat) ∧
                                                                                                                                  IntKind.i64.wrap ((↑g : Int) + (1 : Int)) =
                                                                                                                                      (↑g' : Int) ∧
                                                                                                                                    True) ∧
                                                                                                                          ((wplus
                                                                                                                                    (W
                                                                                                                                      (crossK (↑(supM (instF c d).sup more).length : Int)
                                                                                                                                        (wholeF e (supM (instF c d).sup more).length)
                                                                                                                                        (instF c d).arcs
                                                                                                                                        (flowF
                                                                                                                                          { sup := supM (instF c d).sup more,
                                                                                                                                            arcs := (instF c d).arcs : Inst }
                                                                                                                                          d)
                                                                                                                                        g))
                                                                                                                                    (W x)).hi =
                                                                                                                                (W
                                                                                                                                    (crossK (↑(supM (instF c d).sup more).length : Int)
                                                                                                                                      (wholeF e (supM (instF c d).sup more).length)
                                                                                                                                      (instF c d).arcs
                                                                                                                                      (flowF
                                                                                                                                        { sup := supM (instF c d).sup more,
                                                                                                                                          arcs := (instF c d).arcs : Inst }
                                                                                                                                        d)
                                                                                                                                      g')).hi ∧
                                                                                                                              (wplus
                                                                                                                                      (W
                                                                                                                                        (crossK
                                                                                                                                          (↑(supM (instF c d).sup more).length : Int)
                                                                                                                                          (wholeF e (supM (instF c d).sup more).length)
                                                                                                                                          (instF c d).arcs
                                                                                                                                          (flowF
                                                                                                                                            { sup := supM (instF c d).sup more,
                                                                                                                                              arcs := (instF c d).arcs : Inst }
                                                                                                                                            d)
                                                                                                                                          g))
                                                                                                                                      (W x)).lo =
                                                                                                                                  (W
                                                                                                                                      (crossK (↑(supM (instF c d).sup more).length : Int)
                                                                                                                                        (wholeF e (supM (instF c d).sup more).length)
                                                                                                                                        (instF c d).arcs
                                                                                                                                        (flowF
                                                                                                                                          { sup := supM (instF c d).sup more,
                                                                                                                                            arcs := (instF c d).arcs : Inst }
                                                                                                                                          d)
                                                                                                                                        g')).lo ∧
                                                                                                                                True) ∧
                                                                                                                            flowF
                                                                                                                                  { sup := supM (instF c d).sup more,
                                                                                                                                    arcs := (instF c d).arcs : Inst }
                                                                                                                                  d =
                                                                                                                                flowF
                                                                                                                                  { sup := supM (instF c d).sup more,
                                                                                                                                    arcs := (instF c d).arcs : Inst }
                                                                                                                                  d ∧
                                                                                                                              wholeF e (↑(supM (instF c d).sup more).length : Int).toNat =
                                                                                                                                  wholeF e
                                                                                                                                    (↑(supM (instF c d).sup more).length : Int).toNat ∧
                                                                                                                                (True ∧ True ∧ True) ∧
                                                                                                                                  supM (instF c d).sup more = supM (instF c d).sup more ∧
                                                                                                                                    (instF c d).arcs = (instF c d).arcs ∧ True)) ∧
                                                                                                            (x_2 = false →
                                                                                                              ∃ (g' : Nat),
                                                                                                                g' ≤ (instF c d).arcs.length ∧
                                                                                                                  (instF c d).arcs.length - g' < (instF c d).arcs.length - g ∧
                                                                                                                    ((0 : Nat) = (0 : Nat) ∧
                                                                                                                        True ∧
                                                                                                                          True ∧
                                                                                                                            (0 : Nat) = (0 : Nat) ∧
                                                                                                                              IntKind.i64.wrap ((↑g : Int) + (1 : Int)) = (↑g' : Int) ∧
                                                                                                                                True) ∧
                                                                                                                      ((wplus
                                                                                                                                (W
                                                                                                                                  (crossK (↑(supM (instF c d).sup more).length : Int)
                                                                                                                                    (wholeF e (supM (instF c d).sup more).length)
                                                                                                                                    (instF c d).arcs
                                                                                                                                    (flowF
                                                                                                                                      { sup := supM (instF c d).sup more,
                                                                                                                                        arcs := (instF c d).arcs : Inst }
                                                                                                                                      d)
                                                                                                                                    g))
                                                                                                                                (W x)).hi =
                                                                                                                            (W
                                                                                                                                (crossK (↑(supM (instF c d).sup more).length : Int)
                                                                                                                                  (wholeF e (supM (instF c d).sup more).length)
                                                                                                                                  (instF c d).arcs
                                                                                                                                  (flowF
                                                                                                                                    { sup := supM (instF c d).sup more,
                                                                                                                                      arcs := (instF c d).arcs : Inst }
                                                                                                                                    d)
                                                                                                                                  g')).hi ∧
                                                                                                                          (wplus
                                                                                                                                  (W
                                                                                                                                    (crossK (↑(supM (instF c d).sup more).length : Int)
                                                                                                                                      (wholeF e (supM (instF c d).sup more).length)
                                                                                                                                      (instF c d).arcs
                                                                                                                                      (flowF
                                                                                                                                        { sup := supM (instF c d).sup more,
                                                                                                                                          arcs := (instF c d).arcs : Inst }
                                                                                                                                        d)
                                                                                                                                      g))
                                                                                                                                  (W x)).lo =
                                                                                                                              (W
                                                                                                                                  (crossK (↑(supM (instF c d).sup more).length : Int)
                                                                                                                                    (wholeF e (supM (instF c d).sup more).length)
                                                                                                                                    (instF c d).arcs
                                                                                                                                    (flowF
                                                                                                                                      { sup := supM (instF c d).sup more,
                                                                                                                                        arcs := (instF c d).arcs : Inst }
                                                                                                                                      d)
                                                                                                                                    g')).lo ∧
                                                                                                                            True) ∧
                                                                                                                        flowF
                                                                                                                              { sup := supM (instF c d).sup more,
                                                                                                                                arcs := (instF c d).arcs : Inst }
                                                                                                                              d =
                                                                                                                            flowF
                                                                                                                              { sup := supM (instF c d).sup more,
                                                                                                                                arcs := (instF c d).arcs : Inst }
                                                                                                                              d ∧
                                                                                                                          wholeF e (↑(supM (instF c d).sup more).length : Int).toNat =
                                                                                                                              wholeF e (↑(supM (instF c d).sup more).length : Int).toNat ∧
                                                                                                                            (True ∧ True ∧ True) ∧
                                                                                                                              supM (instF c d).sup more = supM (instF c d).sup more ∧
                                                                                                                                (instF c d).arcs = (instF c d).arcs ∧ True)) ∧
                                                                                            ((!x_2) = false →
                                                                                              (x_2 = true →
                                                                                                  ((!x_1) = true →
                                                                                                      ((0 : Int) ≤ (↑g : Int) ∧
                                                                                                          (↑g : Int) <
                                                                                                            (↑(flowF { sup := supM (instF c d).sup more, arcs := (instF c d).arcs : Inst }
                                                                                                                    d).length :
                                                                                                              Int)) ∧
                                                                                                        (↑g : Int).toNat <
                                                                                                            (flowF { sup := supM (instF c d).sup more, arcs := (instF c d).arcs : Inst }
                                                                                                                d).length ∧
                                                                                                          ∀ (x : Int),
                                                                                                            (flowF { sup := supM (instF c d).sup more, arcs := (instF c d).arcs : Inst }
                                                                                                                    d)[(↑g : Int).toNat]? =
                                                                                                                some x →
                                                                                                              I64 x ∧
                                                                                                                ((W
                                                                                                                        (crossK (↑(supM (instF c d).sup more).length : Int)
                                                                                                                          (wholeF e (supM (instF c d).sup more).length) (instF c d).arcs
                                                                                                                          (flowF
                                                                                                                            { sup := supM (instF c d).sup more, arcs := (instF c d).arcs :
                                                                                                                              Inst }
                                                                                                                            d)
                                                                                                                          g)).ok ∧
                                                                                                                    (W x).ok) ∧
                                                                                                                  ∃ (g' : Nat),
                                                                                                                    g' ≤ (instF c d).arcs.length ∧
                                                                                                                      (instF c d).arcs.length - g' < (instF c d).arcs.length - g ∧
                                                                                                                        ((0 : Nat) = (0 : Nat) ∧
                                                                                                                            True ∧
                                                                                                                              True ∧
                                                                                                                                (0 : Nat) = (0 : Nat) ∧
                                                                                                                                  IntKind.i64.wrap ((↑g : Int) + (1 : Int)) =
                                                                                                                                      (↑g' : Int) ∧
                                                                                                                                    True) ∧
                                                                                                                          ((wminus
                                                                                                                                    (W
                                                                                                                                      (crossK (↑(supM (instF c d).sup more).length : Int)
                                                                                                                                        (wholeF e (supM (instF c d).sup more).length)
                                                                                                                                        (instF c d).arcs
                                                                                                                                        (flowF
                                                                                                                                          { sup := supM (instF c d).sup more,
                                                                                                                                            arcs := (instF c d).arcs : Inst }
                                                                                                                                          d)
                                                                                                                                        g))
                                                                                                                                    (W x)).hi =
                                                                                                                                (W
                                                                                                                                    (crossK (↑(supM (instF c d).sup more).length : Int)
                                                                                                                                      (wholeF e (supM (instF c d).sup more).length)
                                                                                                                                      (instF c d).arcs
                                                                                                                                      (flowF
                                                                                                                                        { sup := supM (instF c d).sup more,
                                                                                                                                          arcs := (instF c d).arcs : Inst }
                                                                                                                                        d)
                                                                                                                                      g')).hi ∧
                                                                                                                              (wminus
                                                                                                                                      (W
                                                                                                                                        (crossK
                                                                                                                                          (↑(supM (instF c d).sup more).length : Int)
                                                                                                                                          (wholeF e (supM (instF c d).sup more).length)
                                                                                                                                          (instF c d).arcs
                                                                                                                                          (flowF
                                                                                                                                            { sup := supM (instF c d).sup more,
                                                                                                                                              arcs := (instF c d).arcs : Inst }
                                                                                                                                            d)
                                                                                                                                          g))
                                                                                                                                      (W x)).lo =
                                                                                                                                  (W
                                                                                                                                      (crossK (↑(supM (instF c d).sup more).length : Int)
                                                                                                                                        (wholeF e (supM (instF c d).sup more).length)
                                                                                                                                        (instF c d).arcs
                                                                                                                                        (flowF
                                                                                                                                          { sup := supM (instF c d).sup more,
                                                                                                                                            arcs := (instF c d).arcs : Inst }
                                                                                                                                          d)
                                                                                                                                        g')).lo ∧
                                                                                                                                True) ∧
                                                                                                                            flowF
                                                                                                                                  { sup := supM (instF c d).sup more,
                                                                                                                                    arcs := (instF c d).arcs : Inst }
                                                                                                                                  d =
                                                                                                                                flowF
                                                                                                                                  { sup := supM (instF c d).sup more,
                                                                                                                                    arcs := (instF c d).arcs : Inst }
                                                                                                                                  d ∧
                                                                                                                              wholeF e (↑(supM (instF c d).sup more).length : Int).toNat =
                                                                                                                                  wholeF e
                                                                                                                                    (↑(supM (instF c d).sup more).length : Int).toNat ∧
                                                                                                                                (True ∧ True ∧ True) ∧
                                                                                                                                  supM (instF c d).sup more = supM (instF c d).sup more ∧
                                                                                                                                    (instF c d).arcs = (instF c d).arcs ∧ True) ∧
                                                                                                    ((!x_1) = false →
                                                                                                      ∃ (g' : Nat),
                                                                                                        g' ≤ (instF c d).arcs.length ∧
                                                                                                          (instF c d).arcs.length - g' < (instF c d).arcs.length - g ∧
                                                                                                            ((0 : Nat) = (0 : Nat) ∧
                                                                                                                True ∧
                                                                                                                  True ∧
                                                                                                                    (0 : Nat) = (0 : Nat) ∧
                                                                                                                      IntKind.i64.wrap ((↑g : Int) + (1 : Int)) = (↑g' : Int) ∧ True) ∧
                                                                                                              ((W
                                                                                                                        (crossK (↑(supM (instF c d).sup more).length : Int)
                                                                                                                          (wholeF e (supM (instF c d).sup more).length) (instF c d).arcs
                                                                                                                          (flowF
                                                                                                                            { sup := supM (instF c d).sup more, arcs := (instF c d).arcs :
                                                                                                                              Inst }
                                                                                                                            d)
                                                                                                                          g)).hi =
                                                                                                                    (W
                                                                                                                        (crossK (↑(supM (instF c d).sup more).length : Int)
                                                                                                                          (wholeF e (supM (instF c d).sup more).length) (instF c d).arcs
                                                                                                                          (flowF
                                                                                                                            { sup := supM (instF c d).sup more, arcs := (instF c d).arcs :
                                                                                                                              Inst }
                                                                                                                            d)
                                                                                                                          g')).hi ∧
                                                                                                                  (W
                                                                                                                          (crossK (↑(supM (instF c d).sup more).length : Int)
                                                                                                                            (wholeF e (supM (instF c d).sup more).length) (instF c d).arcs
                                                                                                                            (flowF
                                                                                                                              { sup := supM (instF c d).sup more,
                                                                                                                                arcs := (instF c d).arcs : Inst }
                                                                                                                              d)
                                                                                                                            g)).lo =
                                                                                                                      (W
                                                                                                                          (crossK (↑(supM (instF c d).sup more).length : Int)
                                                                                                                            (wholeF e (supM (instF c d).sup more).length) (instF c d).arcs
                                                                                                                            (flowF
                                                                                                                              { sup := supM (instF c d).sup more,
                                                                                                                                arcs := (instF c d).arcs : Inst }
                                                                                                                              d)
                                                                                                                            g')).lo ∧
                                                                                                                    True) ∧
                                                                                                                flowF
                                                                                                                      { sup := supM (instF c d).sup more, arcs := (instF c d).arcs :
                                                                                                                        Inst }
                                                                                                                      d =
                                                                                                                    flowF
                                                                                                                      { sup := supM (instF c d).sup more, arcs := (instF c d).arcs :
                                                                                                                        Inst }
                                                                                                                      d ∧
                                                                                                                  wholeF e (↑(supM (instF c d).sup more).length : Int).toNat =
                                                                                                                      wholeF e (↑(supM (instF c d).sup more).length : Int).toNat ∧
                                                                                                                    (True ∧ True ∧ True) ∧
                                                                                                                      supM (instF c d).sup more = supM (instF c d).sup more ∧
                                                                                                                        (instF c d).arcs = (instF c d).arcs ∧ True)) ∧
                                                                                                (x_2 = false →
                                                                                                  ∃ (g' : Nat),
                                                                                                    g' ≤ (instF c d).arcs.length ∧
                                                                                                      (instF c d).arcs.length - g' < (instF c d).arcs.length - g ∧
                                                                                                        ((0 : Nat) = (0 : Nat) ∧
                                                                                                            True ∧
                                                                                                              True ∧
                                                                                                                (0 : Nat) = (0 : Nat) ∧
                                                                                                                  IntKind.i64.wrap ((↑g : Int) + (1 : Int)) = (↑g' : Int) ∧ True) ∧
                                                                                                          ((W
                                                                                                                    (crossK (↑(supM (instF c d).sup more).length : Int)
                                                                                                                      (wholeF e (supM (instF c d).sup more).length) (instF c d).arcs
                                                                                                                      (flowF
                                                                                                                        { sup := supM (instF c d).sup more, arcs := (instF c d).arcs :
                                                                                                                          Inst }
                                                                                                                        d)
                                                                                                                      g)).hi =
                                                                                                                (W
                                                                                                                    (crossK (↑(supM (instF c d).sup more).length : Int)
                                                                                                                      (wholeF e (supM (instF c d).sup more).length) (instF c d).arcs
                                                                                                                      (flowF
                                                                                                                        { sup := supM (instF c d).sup more, arcs := (instF c d).arcs :
                                                                                                                          Inst }
                                                                                                                        d)
                                                                                                                      g')).hi ∧
                                                                                                              (W
                                                                                                                      (crossK (↑(supM (instF c d).sup more).length : Int)
                                                                                                                        (wholeF e (supM (instF c d).sup more).length) (instF c d).arcs
                                                                                                                        (flowF
                                                                                                                          { sup := supM (instF c d).sup more, arcs := (instF c d).arcs :
                                                                                                                            Inst }
                                                                                                                          d)
                                                                                                                        g)).lo =
                                                                                                                  (W
                                                                                                                      (crossK (↑(supM (instF c d).sup more).length : Int)
                                                                                                                        (wholeF e (supM (instF c d).sup more).length) (instF c d).arcs
                                                                                                                        (flowF
                                                                                                                          { sup := supM (instF c d).sup more, arcs := (instF c d).arcs :
                                                                                                                            Inst }
                                                                                                                          d)
                                                                                                                        g')).lo ∧
                                                                                                                True) ∧
                                                                                                            flowF { sup := supM (instF c d).sup more, arcs := (instF c d).arcs : Inst }
                                                                                                                  d =
                                                                                                                flowF
                                                                                                                  { sup := supM (instF c d).sup more, arcs := (instF c d).arcs : Inst }
                                                                                                                  d ∧
                                                                                                              wholeF e (↑(supM (instF c d).sup more).length : Int).toNat =
                                                                                                                  wholeF e (↑(supM (instF c d).sup more).length : Int).toNat ∧
                                                                                                                (True ∧ True ∧ True) ∧
                                                                                                                  supM (instF c d).sup more = supM (instF c d).sup more ∧
                                                                                                                    (instF c d).arcs = (instF c d).arcs ∧ True))) ∧
                                                                                        (x_1 = false →
                                                                                          (x_2 = true →
                                                                                              ((!x_1) = true →
                                                                                                  ((0 : Int) ≤ (↑g : Int) ∧
                                                                                                      (↑g : Int) <
                                                                                                        (↑(flowF { sup := supM (instF c d).sup more, arcs := (instF c d).arcs : Inst }
                                                                                                                d).length :
                                                                                                          Int)) ∧
                                                                                                    (↑g : Int).toNat <
                                                                                                        (flowF { sup := supM (instF c d).sup more, arcs := (instF c d).arcs : Inst }
                                                                                                            d).length ∧
                                                                                                      ∀ (x : Int),
                                                                                                        (flowF { sup := supM (instF c d).sup more, arcs := (instF c d).arcs : Inst }
                                                                                                                d)[(↑g : Int).toNat]? =
                                                                                                            some x →
                                                                                                          I64 x ∧
                                                                                                            ((W
                                                                                                                    (crossK (↑(supM (instF c d).sup more).length : Int)
                                                                                                                      (wholeF e (supM (instF c d).sup more).length) (instF c d).arcs
                                                                                                                      (flowF
                                                                                                                        { sup := supM (instF c d).sup more, arcs := (instF c d).arcs :
                                                                                                                          Inst }
                                                                                                                        d)
                                                                                                                      g)).ok ∧
                                                                                                                (W x).ok) ∧
                                                                                                              ∃ (g' : Nat),
                                                                                                                g' ≤ (instF c d).arcs.length ∧
                                                                                                                  (instF c d).arcs.length - g' < (instF c d).arcs.length - g ∧
                                                                                                                    ((0 : Nat) = (0 : Nat) ∧
                                                                                                                        True ∧
                                                                                                                          True ∧
                                                                                                                            (0 : Nat) = (0 : Nat) ∧
                                                                                                                              IntKind.i64.wrap ((↑g : Int) + (1 : Int)) = (↑g' : Int) ∧
                                                                                                                                True) ∧
                                                                                                                      ((wminus
                                                                                                                                (W
                                                                                                                                  (crossK (↑(supM (instF c d).sup more).length : Int)
                                                                                                                                    (wholeF e (supM (instF c d).sup more).length)
                                                                                                                                    (instF c d).arcs
                                                                                                                                    (flowF
                                                                                                                                      { sup := supM (instF c d).sup more,
                                                                                                                                        arcs := (instF c d).arcs : Inst }
                                                                                                                                      d)
                                                                                                                                    g))
                                                                                                                                (W x)).hi =
                                                                                                                            (W
                                                                                                                                (crossK (↑(supM (instF c d).sup more).length : Int)
                                                                                                                                  (wholeF e (supM (instF c d).sup more).length)
                                                                                                                                  (instF c d).arcs
                                                                                                                                  (flowF
                                                                                                                                    { sup := supM (instF c d).sup more,
                                                                                                                                      arcs := (instF c d).arcs : Inst }
                                                                                                                                    d)
                                                                                                                                  g')).hi ∧
                                                                                                                          (wminus
                                                                                                                                  (W
                                                                                                                                    (crossK (↑(supM (instF c d).sup more).length : Int)
                                                                                                                                      (wholeF e (supM (instF c d).sup more).length)
                                                                                                                                      (instF c d).arcs
                                                                                                                                      (flowF
                                                                                                                                        { sup := supM (instF c d).sup more,
                                                                                                                                          arcs := (instF c d).arcs : Inst }
                                                                                                                                        d)
                                                                                                                                      g))
                                                                                                                                  (W x)).lo =
                                                                                                                              (W
                                                                                                                                  (crossK (↑(supM (instF c d).sup more).length : Int)
                                                                                                                                    (wholeF e (supM (instF c d).sup more).length)
                                                                                                                                    (instF c d).arcs
                                                                                                                                    (flowF
                                                                                                                                      { sup := supM (instF c d).sup more,
                                                                                                                                        arcs := (instF c d).arcs : Inst }
                                                                                                                                      d)
                                                                                                                                    g')).lo ∧
                                                                                                                            True) ∧
                                                                                                                        flowF
                                                                                                                              { sup := supM (instF c d).sup more,
                                                                                                                                arcs := (instF c d).arcs : Inst }
                                                                                                                              d =
                                                                                                                            flowF
                                                                                                                              { sup := supM (instF c d).sup more,
                                                                                                                                arcs := (instF c d).arcs : Inst }
                                                                                                                              d ∧
                                                                                                                          wholeF e (↑(supM (instF c d).sup more).length : Int).toNat =
                                                                                                                              wholeF e (↑(supM (instF c d).sup more).length : Int).toNat ∧
                                                                                                                            (True ∧ True ∧ True) ∧
                                                                                                                              supM (instF c d).sup more = supM (instF c d).sup more ∧
                                                                                                                                (instF c d).arcs = (instF c d).arcs ∧ True) ∧
                                                                                                ((!x_1) = false →
                                                                                                  ∃ (g' : Nat),
                                                                                                    g' ≤ (instF c d).arcs.length ∧
                                                                                                      (instF c d).arcs.length - g' < (instF c d).arcs.length - g ∧
                                                                                                        ((0 : Nat) = (0 : Nat) ∧
                                                                                                            True ∧
                                                                                                              True ∧
                                                                                                                (0 : Nat) = (0 : Nat) ∧
                                                                                                                  IntKind.i64.wrap ((↑g : Int) + (1 : Int)) = (↑g' : Int) ∧ True) ∧
                                                                                                          ((W
                                                                                                                    (crossK (↑(supM (instF c d).sup more).length : Int)
                                                                                                                      (wholeF e (supM (instF c d).sup more).length) (instF c d).arcs
                                                                                                                      (flowF
                                                                                                                        { sup := supM (instF c d).sup more, arcs := (instF c d).arcs :
                                                                                                                          Inst }
                                                                                                                        d)
                                                                                                                      g)).hi =
                                                                                                                (W
                                                                                                                    (crossK (↑(supM (instF c d).sup more).length : Int)
                                                                                                                      (wholeF e (supM (instF c d).sup more).length) (instF c d).arcs
                                                                                                                      (flowF
                                                                                                                        { sup := supM (instF c d).sup more, arcs := (instF c d).arcs :
                                                                                                                          Inst }
                                                                                                                        d)
                                                                                                                      g')).hi ∧
                                                                                                              (W
                                                                                                                      (crossK (↑(supM (instF c d).sup more).length : Int)
                                                                                                                        (wholeF e (supM (instF c d).sup more).length) (instF c d).arcs
                                                                                                                        (flowF
                                                                                                                          { sup := supM (instF c d).sup more, arcs := (instF c d).arcs :
                                                                                                                            Inst }
                                                                                                                          d)
                                                                                                                        g)).lo =
                                                                                                                  (W
                                                                                                                      (crossK (↑(supM (instF c d).sup more).length : Int)
                                                                                                                        (wholeF e (supM (instF c d).sup more).length) (instF c d).arcs
                                                                                                                        (flowF
                                                                                                                          { sup := supM (instF c d).sup more, arcs := (instF c d).arcs :
                                                                                                                            Inst }
                                                                                                                          d)
                                                                                                                        g')).lo ∧
                                                                                                                True) ∧
                                                                                                            flowF { sup := supM (instF c d).sup more, arcs := (instF c d).arcs : Inst }
                                                                                                                  d =
                                                                                                                flowF
                                                                                                                  { sup := supM (instF c d).sup more, arcs := (instF c d).arcs : Inst }
                                                                                                                  d ∧
                                                                                                              wholeF e (↑(supM (instF c d).sup more).length : Int).toNat =
                                                                                                                  wholeF e (↑(supM (instF c d).sup more).length : Int).toNat ∧
                                                                                                                (True ∧ True ∧ True) ∧
                                                                                                                  supM (instF c d).sup more = supM (instF c d).sup more ∧
                                                                                                                    (instF c d).arcs = (instF c d).arcs ∧ True)) ∧
                                                                                            (x_2 = false →
                                                                                              ∃ (g' : Nat),
                                                                                                g' ≤ (instF c d).arcs.length ∧
                                                                                                  (instF c d).arcs.length - g' < (instF c d).arcs.length - g ∧
                                                                                                    ((0 : Nat) = (0 : Nat) ∧
                                                                                                        True ∧
                                                                                                          True ∧
                                                                                                            (0 : Nat) = (0 : Nat) ∧
                                                                                                              IntKind.i64.wrap ((↑g : Int) + (1 : Int)) = (↑g' : Int) ∧ True) ∧
                                                                                                      ((W
                                                                                                                (crossK (↑(supM (instF c d).sup more).length : Int)
                                                                                                                  (wholeF e (supM (instF c d).sup more).length) (instF c d).arcs
                                                                                                                  (flowF
                                                                                                                    { sup := supM (instF c d).sup more, arcs := (instF c d).arcs : Inst }
                                                                                                                    d)
                                                                                                                  g)).hi =
                                                                                                            (W
                                                                                                                (crossK (↑(supM (instF c d).sup more).length : Int)
                                                                                                                  (wholeF e (supM (instF c d).sup more).length) (instF c d).arcs
                                                                                                                  (flowF
                                                                                                                    { sup := supM (instF c d).sup more, arcs := (instF c d).arcs : Inst }
                                                                                                                    d)
                                                                                                                  g')).hi ∧
                                                                                                          (W
                                                                                                                  (crossK (↑(supM (instF c d).sup more).length : Int)
                                                                                                                    (wholeF e (supM (instF c d).sup more).length) (instF c d).arcs
                                                                                                                    (flowF
                                                                                                                      { sup := supM (instF c d).sup more, arcs := (instF c d).arcs :
                                                                                                                        Inst }
                                                                                                                      d)
                                                                                                                    g)).lo =
                                                                                                              (W
                                                                                                                  (crossK (↑(supM (instF c d).sup more).length : Int)
                                                                                                                    (wholeF e (supM (instF c d).sup more).length) (instF c d).arcs
                                                                                                                    (flowF
                                                                                                                      { sup := supM (instF c d).sup more, arcs := (instF c d).arcs :
                                                                                                                        Inst }
                                                                                                                      d)
                                                                                                                    g')).lo ∧
                                                                                                            True) ∧
                                                                                                        flowF { sup := supM (instF c d).sup more, arcs := (instF c d).arcs : Inst } d =
                                                                                                            flowF { sup := supM (instF c d).sup more, arcs := (instF c d).arcs : Inst }
                                                                                                              d ∧
                                                                                                          wholeF e (↑(supM (instF c d).sup more).length : Int).toNat =
                                                                                                              wholeF e (↑(supM (instF c d).sup more).length : Int).toNat ∧
                                                                                                            (True ∧ True ∧ True) ∧
                                                                                                              supM (instF c d).sup more = supM (instF c d).sup more ∧
                                                                                                                (instF c d).arcs = (instF c d).arcs ∧ True))) ∧
                                                    (decide ((↑g : Int) < (↑(instF c d).arcs.length : Int)) = false →
                                                      (A64a (instF c d).arcs ∧ (instF c d).arcs.length ≤ (140737488351232 : Nat)) ∧
                                                        True ∧
                                                          (true = true →
                                                              (A64 (supM (instF c d).sup more) ∧ (supM (instF c d).sup more).length ≤ (140737488351232 : Nat)) ∧
                                                                (decide
                                                                        ([(W
                                                                                (crossK (↑(supM (instF c d).sup more).length : Int) (wholeF e (supM (instF c d).sup more).length)
                                                                                  (instF c d).arcs (flowF { sup := supM (instF c d).sup more, arcs := (instF c d).arcs : Inst } d) g)).hi,
                                                                            (W
                                                                                (crossK (↑(supM (instF c d).sup more).length : Int) (wholeF e (supM (instF c d).sup more).length)
                                                                                  (instF c d).arcs (flowF { sup := supM (instF c d).sup more, arcs := (instF c d).arcs : Inst } d)
                                                                                  g)).lo] =
                                                                          [(W
                                                                                (needF { sup := supM (instF c d).sup more, arcs := (instF c d).arcs : Inst }
                                                                                  (wholeF e (↑(supM (instF c d).sup more).length : Int).toNat))).hi,
                                                                            (W
                                                                                (needF { sup := supM (instF c d).sup more, arcs := (instF c d).arcs : Inst }
                                                                                  (wholeF e (↑(supM (instF c d).sup more).length : Int).toNat))).lo]) =
                                                                      true →
                                                                    ((!(roomC { sup := supM (instF c d).sup more, arcs := (instF c d).arcs : Inst }
                                                                                (wholeF e (↑(supM (instF c d).sup more).length : Int).toNat)).isSome) =
                                                                          true →
                                                                        (true = true ∧ True) ∧ True) ∧
                                                                      ((!(roomC { sup := supM (instF c d).sup more, arcs := (instF c d).arcs : Inst }
                                                                                (wholeF e (↑(supM (instF c d).sup more).length : Int).toNat)).isSome) =
                                                                          false →
                                                                        ((W
                                                                                (crossK (↑(supM (instF c d).sup more).length : Int) (wholeF e (supM (instF c d).sup more).length)
                                                                                  (instF c d).arcs (flowF { sup := supM (instF c d).sup more, arcs := (instF c d).arcs : Inst } d)
                                                                                  g)).ok ∧
                                                                            (roomW
                                                                                (roomC { sup := supM (instF c d).sup more, arcs := (instF c d).arcs : Inst }
                                                                                  (wholeF e (↑(supM (instF c d).sup more).length : Int).toNat))).ok) ∧
                                                                          (decide
                                                                                  (wcmp
                                                                                      (W
                                                                                        (crossK (↑(supM (instF c d).sup more).length : Int) (wholeF e (supM (instF c d).sup more).length)
                                                                                          (instF c d).arcs (flowF { sup := supM (instF c d).sup more, arcs := (instF c d).arcs : Inst } d)
                                                                                          g))
                                                                                      (roomW
                                                                                        (roomC { sup := supM (instF c d).sup more, arcs := (instF c d).arcs : Inst }
                                                                                          (wholeF e (↑(supM (instF c d).sup more).length : Int).toNat))) ≤
                                                                                    (0 : Int)) =
                                                                                true ∧
                                                                              True) ∧
                                                                            True)) ∧
                                                                  (decide
                                                                        ([(W
                                                                                (crossK (↑(supM (instF c d).sup more).length : Int) (wholeF e (supM (instF c d).sup more).length)
                                                                                  (instF c d).arcs (flowF { sup := supM (instF c d).sup more, arcs := (instF c d).arcs : Inst } d) g)).hi,
                                                                            (W
                                                                                (crossK (↑(supM (instF c d).sup more).length : Int) (wholeF e (supM (instF c d).sup more).length)
                                                                                  (instF c d).arcs (flowF { sup := supM (instF c d).sup more, arcs := (instF c d).arcs : Inst } d)
                                                                                  g)).lo] =
                                                                          [(W
                                                                                (needF { sup := supM (instF c d).sup more, arcs := (instF c d).arcs : Inst }
                                                                                  (wholeF e (↑(supM (instF c d).sup more).length : Int).toNat))).hi,
                                                                            (W
                                                                                (needF { sup := supM (instF c d).sup more, arcs := (instF c d).arcs : Inst }
                                                                                  (wholeF e (↑(supM (instF c d).sup more).length : Int).toNat))).lo]) =
                                                                      false →
                                                                    (false = true ∧ True) ∧ True)) ∧
                                                            (true = false → (false = true ∧ True) ∧ True)))))) ∧
                      ((provesF { sup := supM (instF c d).sup more, arcs := (instF c d).arcs : Inst } (wholeF e (↑(supM (instF c d).sup more).length : Int).toNat) == (0 : Int)) = false →
                        ((supM (instF c d).sup more).length ≤ (10000 : Nat) ∧
                            (instF c d).arcs.length ≤ (10000 : Nat) ∧
                              A64 (flowF { sup := supM (instF c d).sup more, arcs := (instF c d).arcs : Inst } d) ∧ A64 (supM (instF c d).sup more)) ∧
                          ((fitsF { sup := supM (instF c d).sup more, arcs := (instF c d).arcs : Inst } (flowF { sup := supM (instF c d).sup more, arcs := (instF c d).arcs : Inst } d) !=
                                  (0 : Int)) =
                                true →
                              True ∧ (true = true ∧ True) ∧ True) ∧
                            ((fitsF { sup := supM (instF c d).sup more, arcs := (instF c d).arcs : Inst }
                                    (flowF { sup := supM (instF c d).sup more, arcs := (instF c d).arcs : Inst } d) !=
                                  (0 : Int)) =
                                false →
                              ∃ (g0 : Nat),
                                (g0 ≤ (instF c d).arcs.length ∧
                                    ((0 : Nat) = (0 : Nat) ∧ True ∧ True ∧ (0 : Nat) = (0 : Nat) ∧ (0 : Int) = (↑g0 : Int) ∧ True) ∧
                                      ((0 : Int) =
                                            (W
                                                (crossK (↑(supM (instF c d).sup more).length : Int) (wholeF e (supM (instF c d).sup more).length) (instF c d).arcs
                                                  (flowF { sup := supM (instF c d).sup more, arcs := (instF c d).arcs : Inst } d) g0)).hi ∧
                                          (0 : Int) =
                                              (W
                                                  (crossK (↑(supM (instF c d).sup more).length : Int) (wholeF e (supM (instF c d).sup more).length) (instF c d).arcs
                                                    (flowF { sup := supM (instF c d).sup more, arcs := (instF c d).arcs : Inst } d) g0)).lo ∧
                                            True) ∧
                                        flowF { sup := supM (instF c d).sup more, arcs := (instF c d).arcs : Inst } d =
                                            flowF { sup := supM (instF c d).sup more, arcs := (instF c d).arcs : Inst } d ∧
                                          wholeF e (↑(supM (instF c d).sup more).length : Int).toNat = wholeF e (↑(supM (instF c d).sup more).length : Int).toNat ∧
                                            (True ∧ True ∧ True) ∧ supM (instF c d).sup more = supM (instF c d).sup more ∧ (instF c d).arcs = (instF c d).arcs ∧ True) ∧
                                  ∀ (g : Nat),
                                    g ≤ (instF c d).arcs.length →
                                      (decide ((↑g : Int) < (↑(instF c d).arcs.length : Int)) = true →
                                          ((0 : Int) ≤ (↑g : Int) ∧ (↑g : Int) < (↑(instF c d).arcs.length : Int)) ∧
                                            (↑g : Int).toNat < (instF c d).arcs.length ∧
                                              ∀ (x : Arc),
                                                (instF c d).arcs[(↑g : Int).toNat]? = some x →
                                                  ((0 : Int) ≤ x.src ∧ x.src < (↑(wholeF e (↑(supM (instF c d).sup more).length : Int).toNat).length : Int)) ∧
                                                    x.src.toNat < (wholeF e (↑(supM (instF c d).sup more).length : Int).toNat).length ∧
                                                      ∀ (x_1 : Bool),
                                                        (wholeF e (↑(supM (instF c d).sup more).length : Int).toNat)[x.src.toNat]? = some x_1 →
                                                          ((0 : Int) ≤ (↑g : Int) ∧ (↑g : Int) < (↑(instF c d).arcs.length : Int)) ∧
                                                            (↑g : Int).toNat < (instF c d).arcs.length ∧
                                                              ∀ (x : Arc),
                                                                (instF c d).arcs[(↑g : Int).toNat]? = some x →
                                                                  ((0 : Int) ≤ x.dst ∧ x.dst < (↑(wholeF e (↑(supM (instF c d).sup more).length : Int).toNat).length : Int)) ∧
                                                                    x.dst.toNat < (wholeF e (↑(supM (instF c d).sup more).length : Int).toNat).length ∧
                                                                      ∀ (x_2 : Bool),
                                                                        (wholeF e (↑(supM (instF c d).sup more).length : Int).toNat)[x.dst.toNat]? = some x_2 →
                                                                          (x_1 = true →
                                                                              ((!x_2) = true →
                                                                                  ((0 : Int) ≤ (↑g : Int) ∧
                                                                                      (↑g : Int) <
                                                                                        (↑(flowF { sup := supM (instF c d).sup more, arcs := (instF c d).arcs : Inst } d).length : Int)) ∧
                                                                                    (↑g : Int).toNat <
                                                                                        (flowF { sup := supM (instF c d).sup more, arcs := (instF c d).arcs : Inst } d).length ∧
                                                                                      ∀ (x : Int),
                                                                                        (flowF { sup := supM (instF c d).sup more, arcs := (instF c d).arcs : Inst }
                                                                                                d)[(↑g : Int).toNat]? =
                                                                                            some x →
                                                                                          I64 x ∧
                                                                                            ((W
                                                                                                    (crossK (↑(supM (instF c d).sup more).length : Int)
                                                                                                      (wholeF e (supM (instF c d).sup more).length) (instF c d).arcs
                                                                                                      (flowF { sup := supM (instF c d).sup more, arcs := (instF c d).arcs : Inst } d)
                                                                                                      g)).ok ∧
                                                                                                (W x).ok) ∧
                                                                                              (x_2 = true →
                                                                                                  ((!x_1) = true →
                                                                                                      ((0 : Int) ≤ (↑g : Int) ∧
                                                                                                          (↑g : Int) <
                                                                                                            (↑(flowF { sup := supM (instF c d).sup more, arcs := (instF c d).arcs : Inst }
                                                                                                                    d).length :
                                                                                                              Int)) ∧
                                                                                                        (↑g : Int).toNat <
                                                                                                            (flowF { sup := supM (instF c d).sup more, arcs := (instF c d).arcs : Inst }
                                                                                                                d).length ∧
                                                                                                          ∀ (x_3 : Int),
                                                                                                            (flowF { sup := supM (instF c d).sup more, arcs := (instF c d).arcs : Inst }
                                                                                                                    d)[(↑g : Int).toNat]? =
                                                                                                                some x_3 →
                                                                                                              I64 x_3 ∧
                                                                                                                ((wplus
                                                                                                                        (W
                                                                                                                          (crossK (↑(supM (instF c d).sup more).length : Int)
                                                                                                                            (wholeF e (supM (instF c d).sup more).length) (instF c d).arcs
                                                                                                                            (flowF
                                                                                                                              { sup := supM (instF c d).sup more,
                                                                                                                                arcs := (instF c d).arcs : Inst }
                                                                                                                              d)
                                                                                                                            g))
                                                                                                                        (W x)).ok ∧
                                                                                                                    (W x_3).ok) ∧
                                                                                                                  ∃ (g' : Nat),
                                                                                                                    g' ≤ (instF c d).arcs.length ∧
                                                                                                                      (instF c d).arcs.length - g' < (instF c d).arcs.length - g ∧
                                                                                                                        ((0 : Nat) = (0 : Nat) ∧
                                                                                                                            True ∧
                                                                                                                              True ∧
                                                                                                                                (0 : Nat) = (0 : Nat) ∧
                                                                                                                                  IntKind.i64.wrap ((↑g : Int) + (1 : Int)) =
                                                                                                                                      (↑g' : Int) ∧
                                                                                                                                    True) ∧
                                                                                                                          ((wminus
                                                                                                                                    (wplus
                                                                                                                                      (W
                                                                                                                                        (crossK
                                                                                                                                          (↑(supM (instF c d).sup more).length : Int)
                                                                                                                                          (wholeF e (supM (instF c d).sup more).length)
                                                                                                                                          (instF c d).arcs
                                                                                                                                          (flowF
                                                                                                                                            { sup := supM (instF c d).sup more,
                                                                                                                                              arcs := (instF c d).arcs : Inst }
                                                                                                                                            d)
                                                                                                                                          g))
                                                                                                                                      (W x))
                                                                                                                                    (W x_3)).hi =
                                                                                                                                (W
                                                                                                                                    (crossK (↑(supM (instF c d).sup more).length : Int)
                                                                                                                                      (wholeF e (supM (instF c d).sup more).length)
                                                                                                                                      (instF c d).arcs
                                                                                                                                      (flowF
                                                                                                                                        { sup := supM (instF c d).sup more,
                                                                                                                                          arcs := (instF c d).arcs : Inst }
                                                                                                                                        d)
                                                                                                                                      g')).hi ∧
                                                                                                                              (wminus
                                                                                                                                      (wplus
                                                                                                                                        (W
                                                                                                                                          (crossK
                                                                                                                                            (↑(supM (instF c d).sup more).length : Int)
                                                                                                                                            (wholeF e (supM (instF c d).sup more).length)
                                                                                                                                            (instF c d).arcs
                                                                                                                                            (flowF
                                                                                                                                              { sup := supM (instF c d).sup more,
                                                                                                                                                arcs := (instF c d).arcs : Inst }
                                                                                                                                              d)
                                                                                                                                            g))
                                                                                                                                        (W x))
                                                                                                                                      (W x_3)).lo =
                                                                                                                                  (W
                                                                                                                                      (crossK (↑(supM (instF c d).sup more).length : Int)
                                                                                                                                        (wholeF e (supM (instF c d).sup more).length)
                                                                                                                                        (instF c d).arcs
                                                                                                                                        (flowF
                                                                                                                                          { sup := supM (instF c d).sup more,
                                                                                                                                            arcs := (instF c d).arcs : Inst }
                                                                                                                                          d)
                                                                                                                                        g')).lo ∧
                                                                                                                                True) ∧
                                                                                                                            flowF
                                                                                                                                  { sup := supM (instF c d).sup more,
                                                                                                                                    arcs := (instF c d).arcs : Inst }
                                                                                                                                  d =
                                                                                                                                flowF
                                                                                                                                  { sup := supM (instF c d).sup more,
                                                                                                                                    arcs := (instF c d).arcs : Inst }
                                                                                                                                  d ∧
                                                                                                                              wholeF e (↑(supM (instF c d).sup more).length : Int).toNat =
                                                                                                                                  wholeF e
                                                                                                                                    (↑(supM (instF c d).sup more).length : Int).toNat ∧
                                                                                                                                (True ∧ True ∧ True) ∧
                                                                                                                                  supM (instF c d).sup more = supM (instF c d).sup more ∧
                                                                                                                                    (instF c d).arcs = (instF c d).arcs ∧ True) ∧
                                                                                                    ((!x_1) = false →
                                                                                                      ∃ (g' : Nat),
                                                                                                        g' ≤ (instF c d).arcs.length ∧
                                                                                                          (instF c d).arcs.length - g' < (instF c d).arcs.length - g ∧
                                                                                                            ((0 : Nat) = (0 : Nat) ∧
                                                                                                                True ∧
                                                                                                                  True ∧
                                                                                                                    (0 : Nat) = (0 : Nat) ∧
                                                                                                                      IntKind.i64.wrap ((↑g : Int) + (1 : Int)) = (↑g' : Int) ∧ True) ∧
                                                                                                              ((wplus
                                                                                                                        (W
                                                                                                                          (crossK (↑(supM (instF c d).sup more).length : Int)
                                                                                                                            (wholeF e (supM (instF c d).sup more).length) (instF c d).arcs
                                                                                                                            (flowF
                                                                                                                              { sup := supM (instF c d).sup more,
                                                                                                                                arcs := (instF c d).arcs : Inst }
                                                                                                                              d)
                                                                                                                            g))
                                                                                                                        (W x)).hi =
                                                                                                                    (W
                                                                                                                        (crossK (↑(supM (instF c d).sup more).length : Int)
                                                                                                                          (wholeF e (supM (instF c d).sup more).length) (instF c d).arcs
                                                                                                                          (flowF
                                                                                                                            { sup := supM (instF c d).sup more, arcs := (instF c d).arcs :
                                                                                                                              Inst }
                                                                                                                            d)
                                                                                                                          g')).hi ∧
                                                                                                                  (wplus
                                                                                                                          (W
                                                                                                                            (crossK (↑(supM (instF c d).sup more).length : Int)
                                                                                                                              (wholeF e (supM (instF c d).sup more).length)
                                                                                                                              (instF c d).arcs
                                                                                                                              (flowF
                                                                                                                                { sup := supM (instF c d).sup more,
                                                                                                                                  arcs := (instF c d).arcs : Inst }
                                                                                                                                d)
                                                                                                                              g))
                                                                                                                          (W x)).lo =
                                                                                                                      (W
                                                                                                                          (crossK (↑(supM (instF c d).sup more).length : Int)
                                                                                                                            (wholeF e (supM (instF c d).sup more).length) (instF c d).arcs
                                                                                                                            (flowF
                                                                                                                              { sup := supM (instF c d).sup more,
                                                                                                                                arcs := (instF c d).arcs : Inst }
                                                                                                                              d)
                                                                                                                            g')).lo ∧
                                                                                                                    True) ∧
                                                                                                                flowF
                                                                                                                      { sup := supM (instF c d).sup more, arcs := (instF c d).arcs :
                                                                                                                        Inst }
                                                                                                                      d =
                                                                                                                    flowF
                                                                                                                      { sup := supM (instF c d).sup more, arcs := (instF c d).arcs :
                                                                                                                        Inst }
                                                                                                                      d ∧
                                                                                                                  wholeF e (↑(supM (instF c d).sup more).length : Int).toNat =
                                                                                                                      wholeF e (↑(supM (instF c d).sup more).length : Int).toNat ∧
                                                                                                                    (True ∧ True ∧ True) ∧
                                                                                                                      supM (instF c d).sup more = supM (instF c d).sup more ∧
                                                                                                                        (instF c d).arcs = (instF c d).arcs ∧ True)) ∧
                                                                                                (x_2 = false →
                                                                                                  ∃ (g' : Nat),
                                                                                                    g' ≤ (instF c d).arcs.length ∧
                                                                                                      (instF c d).arcs.length - g' < (instF c d).arcs.length - g ∧
                                                                                                        ((0 : Nat) = (0 : Nat) ∧
                                                                                                            True ∧
                                                                                                              True ∧
                                                                                                                (0 : Nat) = (0 : Nat) ∧
                                                                                                                  IntKind.i64.wrap ((↑g : Int) + (1 : Int)) = (↑g' : Int) ∧ True) ∧
                                                                                                          ((wplus
                                                                                                                    (W
                                                                                                                      (crossK (↑(supM (instF c d).sup more).length : Int)
                                                                                                                        (wholeF e (supM (instF c d).sup more).length) (instF c d).arcs
                                                                                                                        (flowF
                                                                                                                          { sup := supM (instF c d).sup more, arcs := (instF c d).arcs :
                                                                                                                            Inst }
                                                                                                                          d)
                                                                                                                        g))
                                                                                                                    (W x)).hi =
                                                                                                                (W
                                                                                                                    (crossK (↑(supM (instF c d).sup more).length : Int)
                                                                                                                      (wholeF e (supM (instF c d).sup more).length) (instF c d).arcs
                                                                                                                      (flowF
                                                                                                                        { sup := supM (instF c d).sup more, arcs := (instF c d).arcs :
                                                                                                                          Inst }
                                                                                                                        d)
                                                                                                                      g')).hi ∧
                                                                                                              (wplus
                                                                                                                      (W
                                                                                                                        (crossK (↑(supM (instF c d).sup more).length : Int)
                                                                                                                          (wholeF e (supM (instF c d).sup more).length) (instF c d).arcs
                                                                                                                          (flowF
                                                                                                                            { sup := supM (instF c d).sup more, arcs := (instF c d).arcs :
                                                                                                                              Inst }
                                                                                                                            d)
                                                                                                                          g))
                                                                                                                      (W x)).lo =
                                                                                                                  (W
                                                                                                                      (crossK (↑(supM (instF c d).sup more).length : Int)
                                                                                                                        (wholeF e (supM (instF c d).sup more).length) (instF c d).arcs
                                                                                                                        (flowF
                                                                                                                          { sup := supM (instF c d).sup more, arcs := (instF c d).arcs :
                                                                                                                            Inst }
                                                                                                                          d)
                                                                                                                        g')).lo ∧
                                                                                                                True) ∧
                                                                                                            flowF { sup := supM (instF c d).sup more, arcs := (instF c d).arcs : Inst }
                                                                                                                  d =
                                                                                                                flowF
                                                                                                                  { sup := supM (instF c d).sup more, arcs := (instF c d).arcs : Inst }
                                                                                                                  d ∧
                                                                                                              wholeF e (↑(supM (instF c d).sup more).length : Int).toNat =
                                                                                                                  wholeF e (↑(supM (instF c d).sup more).length : Int).toNat ∧
                                                                                                                (True ∧ True ∧ True) ∧
                                                                                                                  supM (instF c d).sup more = supM (instF c d).sup more ∧
                                                                                                                    (instF c d).arcs = (instF c d).arcs ∧ True)) ∧
                                                                                ((!x_2) = false →
                                                                                  (x_2 = true →
                                                                                      ((!x_1) = true →
                                                                                          ((0 : Int) ≤ (↑g : Int) ∧
                                                                                              (↑g : Int) <
                                                                                                (↑(flowF { sup := supM (instF c d).sup more, arcs := (instF c d).arcs : Inst } d).length :
                                                                                                  Int)) ∧
                                                                                            (↑g : Int).toNat <
                                                                                                (flowF { sup := supM (instF c d).sup more, arcs := (instF c d).arcs : Inst } d).length ∧
                                                                                              ∀ (x : Int),
                                                                                                (flowF { sup := supM (instF c d).sup more, arcs := (instF c d).arcs : Inst }
                                                                                                        d)[(↑g : Int).toNat]? =
                                                                                                    some x →
                                                                                                  I64 x ∧
                                                                                                    ((W
                                                                                                            (crossK (↑(supM (instF c d).sup more).length : Int)
                                                                                                              (wholeF e (supM (instF c d).sup more).length) (instF c d).arcs
                                                                                                              (flowF { sup := supM (instF c d).sup more, arcs := (instF c d).arcs : Inst }
                                                                                                                d)
                                                                                                              g)).ok ∧
                                                                                                        (W x).ok) ∧
                                                                                                      ∃ (g' : Nat),
                                                                                                        g' ≤ (instF c d).arcs.length ∧
                                                                                                          (instF c d).arcs.length - g' < (instF c d).arcs.length - g ∧
                                                                                                            ((0 : Nat) = (0 : Nat) ∧
                                                                                                                True ∧
                                                                                                                  True ∧
                                                                                                                    (0 : Nat) = (0 : Nat) ∧
                                                                                                                      IntKind.i64.wrap ((↑g : Int) + (1 : Int)) = (↑g' : Int) ∧ True) ∧
                                                                                                              ((wminus
                                                                                                                        (W
                                                                                                                          (crossK (↑(supM (instF c d).sup more).length : Int)
                                                                                                                            (wholeF e (supM (instF c d).sup more).length) (instF c d).arcs
                                                                                                                            (flowF
                                                                                                                              { sup := supM (instF c d).sup more,
                                                                                                                                arcs := (instF c d).arcs : Inst }
                                                                                                                              d)
                                                                                                                            g))
                                                                                                                        (W x)).hi =
                                                                                                                    (W
                                                                                                                        (crossK (↑(supM (instF c d).sup more).length : Int)
                                                                                                                          (wholeF e (supM (instF c d).sup more).length) (instF c d).arcs
                                                                                                                          (flowF
                                                                                                                            { sup := supM (instF c d).sup more, arcs := (instF c d).arcs :
                                                                                                                              Inst }
                                                                                                                            d)
                                                                                                                          g')).hi ∧
                                                                                                                  (wminus
                                                                                                                          (W
                                                                                                                            (crossK (↑(supM (instF c d).sup more).length : Int)
                                                                                                                              (wholeF e (supM (instF c d).sup more).length)
                                                                                                                              (instF c d).arcs
                                                                                                                              (flowF
                                                                                                                                { sup := supM (instF c d).sup more,
                                                                                                                                  arcs := (instF c d).arcs : Inst }
                                                                                                                                d)
                                                                                                                              g))
                                                                                                                          (W x)).lo =
                                                                                                                      (W
                                                                                                                          (crossK (↑(supM (instF c d).sup more).length : Int)
                                                                                                                            (wholeF e (supM (instF c d).sup more).length) (instF c d).arcs
                                                                                                                            (flowF
                                                                                                                              { sup := supM (instF c d).sup more,
                                                                                                                                arcs := (instF c d).arcs : Inst }
                                                                                                                              d)
                                                                                                                            g')).lo ∧
                                                                                                                    True) ∧
                                                                                                                flowF
                                                                                                                      { sup := supM (instF c d).sup more, arcs := (instF c d).arcs :
                                                                                                                        Inst }
                                                                                                                      d =
                                                                                                                    flowF
                                                                                                                      { sup := supM (instF c d).sup more, arcs := (instF c d).arcs :
                                                                                                                        Inst }
                                                                                                                      d ∧
                                                                                                                  wholeF e (↑(supM (instF c d).sup more).length : Int).toNat =
                                                                                                                      wholeF e (↑(supM (instF c d).sup more).length : Int).toNat ∧
                                                                                                                    (True ∧ True ∧ True) ∧
                                                                                                                      supM (instF c d).sup more = supM (instF c d).sup more ∧
                                                                                                                        (instF c d).arcs = (instF c d).arcs ∧ True) ∧
                                                                                        ((!x_1) = false →
                                                                                          ∃ (g' : Nat),
                                                                                            g' ≤ (instF c d).arcs.length ∧
                                                                                              (instF c d).arcs.length - g' < (instF c d).arcs.length - g ∧
                                                                                                ((0 : Nat) = (0 : Nat) ∧
                                                                                                    True ∧
                                                                                                      True ∧
                                                                                                        (0 : Nat) = (0 : Nat) ∧
                                                                                                          IntKind.i64.wrap ((↑g : Int) + (1 : Int)) = (↑g' : Int) ∧ True) ∧
                                                                                                  ((W
                                                                                                            (crossK (↑(supM (instF c d).sup more).length : Int)
                                                                                                              (wholeF e (supM (instF c d).sup more).length) (instF c d).arcs
                                                                                                              (flowF { sup := supM (instF c d).sup more, arcs := (instF c d).arcs : Inst }
                                                                                                                d)
                                                                                                              g)).hi =
                                                                                                        (W
                                                                                                            (crossK (↑(supM (instF c d).sup more).length : Int)
                                                                                                              (wholeF e (supM (instF c d).sup more).length) (instF c d).arcs
                                                                                                              (flowF { sup := supM (instF c d).sup more, arcs := (instF c d).arcs : Inst }
                                                                                                                d)
                                                                                                              g')).hi ∧
                                                                                                      (W
                                                                                                              (crossK (↑(supM (instF c d).sup more).length : Int)
                                                                                                                (wholeF e (supM (instF c d).sup more).length) (instF c d).arcs
                                                                                                                (flowF
                                                                                                                  { sup := supM (instF c d).sup more, arcs := (instF c d).arcs : Inst } d)
                                                                                                                g)).lo =
                                                                                                          (W
                                                                                                              (crossK (↑(supM (instF c d).sup more).length : Int)
                                                                                                                (wholeF e (supM (instF c d).sup more).length) (instF c d).arcs
                                                                                                                (flowF
                                                                                                                  { sup := supM (instF c d).sup more, arcs := (instF c d).arcs : Inst } d)
                                                                                                                g')).lo ∧
                                                                                                        True) ∧
                                                                                                    flowF { sup := supM (instF c d).sup more, arcs := (instF c d).arcs : Inst } d =
                                                                                                        flowF { sup := supM (instF c d).sup more, arcs := (instF c d).arcs : Inst } d ∧
                                                                                                      wholeF e (↑(supM (instF c d).sup more).length : Int).toNat =
                                                                                                          wholeF e (↑(supM (instF c d).sup more).length : Int).toNat ∧
                                                                                                        (True ∧ True ∧ True) ∧
                                                                                                          supM (instF c d).sup more = supM (instF c d).sup more ∧
                                                                                                            (instF c d).arcs = (instF c d).arcs ∧ True)) ∧
                                                                                    (x_2 = false →
                                                                                      ∃ (g' : Nat),
                                                                                        g' ≤ (instF c d).arcs.length ∧
                                                                                          (instF c d).arcs.length - g' < (instF c d).arcs.length - g ∧
                                                                                            ((0 : Nat) = (0 : Nat) ∧
                                                                                                True ∧
                                                                                                  True ∧
                                                                                                    (0 : Nat) = (0 : Nat) ∧
                                                                                                      IntKind.i64.wrap ((↑g : Int) + (1 : Int)) = (↑g' : Int) ∧ True) ∧
                                                                                              ((W
                                                                                                        (crossK (↑(supM (instF c d).sup more).length : Int)
                                                                                                          (wholeF e (supM (instF c d).sup more).length) (instF c d).arcs
                                                                                                          (flowF { sup := supM (instF c d).sup more, arcs := (instF c d).arcs : Inst } d)
                                                                                                          g)).hi =
                                                                                                    (W
                                                                                                        (crossK (↑(supM (instF c d).sup more).length : Int)
                                                                                                          (wholeF e (supM (instF c d).sup more).length) (instF c d).arcs
                                                                                                          (flowF { sup := supM (instF c d).sup more, arcs := (instF c d).arcs : Inst } d)
                                                                                                          g')).hi ∧
                                                                                                  (W
                                                                                                          (crossK (↑(supM (instF c d).sup more).length : Int)
                                                                                                            (wholeF e (supM (instF c d).sup more).length) (instF c d).arcs
                                                                                                            (flowF { sup := supM (instF c d).sup more, arcs := (instF c d).arcs : Inst }
                                                                                                              d)
                                                                                                            g)).lo =
                                                                                                      (W
                                                                                                          (crossK (↑(supM (instF c d).sup more).length : Int)
                                                                                                            (wholeF e (supM (instF c d).sup more).length) (instF c d).arcs
                                                                                                            (flowF { sup := supM (instF c d).sup more, arcs := (instF c d).arcs : Inst }
                                                                                                              d)
                                                                                                            g')).lo ∧
                                                                                                    True) ∧
                                                                                                flowF { sup := supM (instF c d).sup more, arcs := (instF c d).arcs : Inst } d =
                                                                                                    flowF { sup := supM (instF c d).sup more, arcs := (instF c d).arcs : Inst } d ∧
                                                                                                  wholeF e (↑(supM (instF c d).sup more).length : Int).toNat =
                                                                                                      wholeF e (↑(supM (instF c d).sup more).length : Int).toNat ∧
                                                                                                    (True ∧ True ∧ True) ∧
                                                                                                      supM (instF c d).sup more = supM (instF c d).sup more ∧
                                                                                                        (instF c d).arcs = (instF c d).arcs ∧ True))) ∧
                                                                            (x_1 = false →
                                                                              (x_2 = true →
                                                                                  ((!x_1) = true →
                                                                                      ((0 : Int) ≤ (↑g : Int) ∧
                                                                                          (↑g : Int) <
                                                                                            (↑(flowF { sup := supM (instF c d).sup more, arcs := (instF c d).arcs : Inst } d).length :
                                                                                              Int)) ∧
                                                                                        (↑g : Int).toNat <
                                                                                            (flowF { sup := supM (instF c d).sup more, arcs := (instF c d).arcs : Inst } d).length ∧
                                                                                          ∀ (x : Int),
                                                                                            (flowF { sup := supM (instF c d).sup more, arcs := (instF c d).arcs : Inst }
                                                                                                    d)[(↑g : Int).toNat]? =
                                                                                                some x →
                                                                                              I64 x ∧
                                                                                                ((W
                                                                                                        (crossK (↑(supM (instF c d).sup more).length : Int)
                                                                                                          (wholeF e (supM (instF c d).sup more).length) (instF c d).arcs
                                                                                                          (flowF { sup := supM (instF c d).sup more, arcs := (instF c d).arcs : Inst } d)
                                                                                                          g)).ok ∧
                                                                                                    (W x).ok) ∧
                                                                                                  ∃ (g' : Nat),
                                                                                                    g' ≤ (instF c d).arcs.length ∧
                                                                                                      (instF c d).arcs.length - g' < (instF c d).arcs.length - g ∧
                                                                                                        ((0 : Nat) = (0 : Nat) ∧
                                                                                                            True ∧
                                                                                                              True ∧
                                                                                                                (0 : Nat) = (0 : Nat) ∧
                                                                                                                  IntKind.i64.wrap ((↑g : Int) + (1 : Int)) = (↑g' : Int) ∧ True) ∧
                                                                                                          ((wminus
                                                                                                                    (W
                                                                                                                      (crossK (↑(supM (instF c d).sup more).length : Int)
                                                                                                                        (wholeF e (supM (instF c d).sup more).length) (instF c d).arcs
                                                                                                                        (flowF
                                                                                                                          { sup := supM (instF c d).sup more, arcs := (instF c d).arcs :
                                                                                                                            Inst }
                                                                                                                          d)
                                                                                                                        g))
                                                                                                                    (W x)).hi =
                                                                                                                (W
                                                                                                                    (crossK (↑(supM (instF c d).sup more).length : Int)
                                                                                                                      (wholeF e (supM (instF c d).sup more).length) (instF c d).arcs
                                                                                                                      (flowF
                                                                                                                        { sup := supM (instF c d).sup more, arcs := (instF c d).arcs :
                                                                                                                          Inst }
                                                                                                                        d)
                                                                                                                      g')).hi ∧
                                                                                                              (wminus
                                                                                                                      (W
                                                                                                                        (crossK (↑(supM (instF c d).sup more).length : Int)
                                                                                                                          (wholeF e (supM (instF c d).sup more).length) (instF c d).arcs
                                                                                                                          (flowF
                                                                                                                            { sup := supM (instF c d).sup more, arcs := (instF c d).arcs :
                                                                                                                              Inst }
                                                                                                                            d)
                                                                                                                          g))
                                                                                                                      (W x)).lo =
                                                                                                                  (W
                                                                                                                      (crossK (↑(supM (instF c d).sup more).length : Int)
                                                                                                                        (wholeF e (supM (instF c d).sup more).length) (instF c d).arcs
                                                                                                                        (flowF
                                                                                                                          { sup := supM (instF c d).sup more, arcs := (instF c d).arcs :
                                                                                                                            Inst }
                                                                                                                          d)
                                                                                                                        g')).lo ∧
                                                                                                                True) ∧
                                                                                                            flowF { sup := supM (instF c d).sup more, arcs := (instF c d).arcs : Inst }
                                                                                                                  d =
                                                                                                                flowF
                                                                                                                  { sup := supM (instF c d).sup more, arcs := (instF c d).arcs : Inst }
                                                                                                                  d ∧
                                                                                                              wholeF e (↑(supM (instF c d).sup more).length : Int).toNat =
                                                                                                                  wholeF e (↑(supM (instF c d).sup more).length : Int).toNat ∧
                                                                                                                (True ∧ True ∧ True) ∧
                                                                                                                  supM (instF c d).sup more = supM (instF c d).sup more ∧
                                                                                                                    (instF c d).arcs = (instF c d).arcs ∧ True) ∧
                                                                                    ((!x_1) = false →
                                                                                      ∃ (g' : Nat),
                                                                                        g' ≤ (instF c d).arcs.length ∧
                                                                                          (instF c d).arcs.length - g' < (instF c d).arcs.length - g ∧
                                                                                            ((0 : Nat) = (0 : Nat) ∧
                                                                                                True ∧
                                                                                                  True ∧
                                                                                                    (0 : Nat) = (0 : Nat) ∧
                                                                                                      IntKind.i64.wrap ((↑g : Int) + (1 : Int)) = (↑g' : Int) ∧ True) ∧
                                                                                              ((W
                                                                                                        (crossK (↑(supM (instF c d).sup more).length : Int)
                                                                                                          (wholeF e (supM (instF c d).sup more).length) (instF c d).arcs
                                                                                                          (flowF { sup := supM (instF c d).sup more, arcs := (instF c d).arcs : Inst } d)
                                                                                                          g)).hi =
                                                                                                    (W
                                                                                                        (crossK (↑(supM (instF c d).sup more).length : Int)
                                                                                                          (wholeF e (supM (instF c d).sup more).length) (instF c d).arcs
                                                                                                          (flowF { sup := supM (instF c d).sup more, arcs := (instF c d).arcs : Inst } d)
                                                                                                          g')).hi ∧
                                                                                                  (W
                                                                                                          (crossK (↑(supM (instF c d).sup more).length : Int)
                                                                                                            (wholeF e (supM (instF c d).sup more).length) (instF c d).arcs
                                                                                                            (flowF { sup := supM (instF c d).sup more, arcs := (instF c d).arcs : Inst }
                                                                                                              d)
                                                                                                            g)).lo =
                                                                                                      (W
                                                                                                          (crossK (↑(supM (instF c d).sup more).length : Int)
                                                                                                            (wholeF e (supM (instF c d).sup more).length) (instF c d).arcs
                                                                                                            (flowF { sup := supM (instF c d).sup more, arcs := (instF c d).arcs : Inst }
                                                                                                              d)
                                                                                                            g')).lo ∧
                                                                                                    True) ∧
                                                                                                flowF { sup := supM (instF c d).sup more, arcs := (instF c d).arcs : Inst } d =
                                                                                                    flowF { sup := supM (instF c d).sup more, arcs := (instF c d).arcs : Inst } d ∧
                                                                                                  wholeF e (↑(supM (instF c d).sup more).length : Int).toNat =
                                                                                                      wholeF e (↑(supM (instF c d).sup more).length : Int).toNat ∧
                                                                                                    (True ∧ True ∧ True) ∧
                                                                                                      supM (instF c d).sup more = supM (instF c d).sup more ∧
                                                                                                        (instF c d).arcs = (instF c d).arcs ∧ True)) ∧
                                                                                (x_2 = false →
                                                                                  ∃ (g' : Nat),
                                                                                    g' ≤ (instF c d).arcs.length ∧
                                                                                      (instF c d).arcs.length - g' < (instF c d).arcs.length - g ∧
                                                                                        ((0 : Nat) = (0 : Nat) ∧
                                                                                            True ∧
                                                                                              True ∧
                                                                                                (0 : Nat) = (0 : Nat) ∧ IntKind.i64.wrap ((↑g : Int) + (1 : Int)) = (↑g' : Int) ∧ True) ∧
                                                                                          ((W
                                                                                                    (crossK (↑(supM (instF c d).sup more).length : Int)
                                                                                                      (wholeF e (supM (instF c d).sup more).length) (instF c d).arcs
                                                                                                      (flowF { sup := supM (instF c d).sup more, arcs := (instF c d).arcs : Inst } d)
                                                                                                      g)).hi =
                                                                                                (W
                                                                                                    (crossK (↑(supM (instF c d).sup more).length : Int)
                                                                                                      (wholeF e (supM (instF c d).sup more).length) (instF c d).arcs
                                                                                                      (flowF { sup := supM (instF c d).sup more, arcs := (instF c d).arcs : Inst } d)
                                                                                                      g')).hi ∧
                                                                                              (W
                                                                                                      (crossK (↑(supM (instF c d).sup more).length : Int)
                                                                                                        (wholeF e (supM (instF c d).sup more).length) (instF c d).arcs
                                                                                                        (flowF { sup := supM (instF c d).sup more, arcs := (instF c d).arcs : Inst } d)
                                                                                                        g)).lo =
                                                                                                  (W
                                                                                                      (crossK (↑(supM (instF c d).sup more).length : Int)
                                                                                                        (wholeF e (supM (instF c d).sup more).length) (instF c d).arcs
                                                                                                        (flowF { sup := supM (instF c d).sup more, arcs := (instF c d).arcs : Inst } d)
                                                                                                        g')).lo ∧
                                                                                                True) ∧
                                                                                            flowF { sup := supM (instF c d).sup more, arcs := (instF c d).arcs : Inst } d =
                                                                                                flowF { sup := supM (instF c d).sup more, arcs := (instF c d).arcs : Inst } d ∧
                                                                                              wholeF e (↑(supM (instF c d).sup more).length : Int).toNat =
                                                                                                  wholeF e (↑(supM (instF c d).sup more).length : Int).toNat ∧
                                                                                                (True ∧ True ∧ True) ∧
                                                                                                  supM (instF c d).sup more = supM (instF c d).sup more ∧
                                                                                                    (instF c d).arcs = (instF c d).arcs ∧ True))) ∧
                                        (decide ((↑g : Int) < (↑(instF c d).arcs.length : Int)) = false →
                                          (A64a (instF c d).arcs ∧ (instF c d).arcs.length ≤ (140737488351232 : Nat)) ∧
                                            True ∧
                                              (true = true →
                                                  (A64 (supM (instF c d).sup more) ∧ (supM (instF c d).sup more).length ≤ (140737488351232 : Nat)) ∧
                                                    (decide
                                                            ([(W
                                                                    (crossK (↑(supM (instF c d).sup more).length : Int) (wholeF e (supM (instF c d).sup more).length) (instF c d).arcs
                                                                      (flowF { sup := supM (instF c d).sup more, arcs := (instF c d).arcs : Inst } d) g)).hi,
                                                                (W
                                                                    (crossK (↑(supM (instF c d).sup more).length : Int) (wholeF e (supM (instF c d).sup more).length) (instF c d).arcs
                                                                      (flowF { sup := supM (instF c d).sup more, arcs := (instF c d).arcs : Inst } d) g)).lo] =
                                                              [(W
                                                                    (needF { sup := supM (instF c d).sup more, arcs := (instF c d).arcs : Inst }
                                                                      (wholeF e (↑(supM (instF c d).sup more).length : Int).toNat))).hi,
                                                                (W
                                                                    (needF { sup := supM (instF c d).sup more, arcs := (instF c d).arcs : Inst }
                                                                      (wholeF e (↑(supM (instF c d).sup more).length : Int).toNat))).lo]) =
                                                          true →
                                                        ((!(roomC { sup := supM (instF c d).sup more, arcs := (instF c d).arcs : Inst }
                                                                    (wholeF e (↑(supM (instF c d).sup more).length : Int).toNat)).isSome) =
                                                              true →
                                                            (true = true ∧ True) ∧ True) ∧
                                                          ((!(roomC { sup := supM (instF c d).sup more, arcs := (instF c d).arcs : Inst }
                                                                    (wholeF e (↑(supM (instF c d).sup more).length : Int).toNat)).isSome) =
                                                              false →
                                                            ((W
                                                                    (crossK (↑(supM (instF c d).sup more).length : Int) (wholeF e (supM (instF c d).sup more).length) (instF c d).arcs
                                                                      (flowF { sup := supM (instF c d).sup more, arcs := (instF c d).arcs : Inst } d) g)).ok ∧
                                                                (roomW
                                                                    (roomC { sup := supM (instF c d).sup more, arcs := (instF c d).arcs : Inst }
                                                                      (wholeF e (↑(supM (instF c d).sup more).length : Int).toNat))).ok) ∧
                                                              (decide
                                                                      (wcmp
                                                                          (W
                                                                            (crossK (↑(supM (instF c d).sup more).length : Int) (wholeF e (supM (instF c d).sup more).length)
                                                                              (instF c d).arcs (flowF { sup := supM (instF c d).sup more, arcs := (instF c d).arcs : Inst } d) g))
                                                                          (roomW
                                                                            (roomC { sup := supM (instF c d).sup more, arcs := (instF c d).arcs : Inst }
                                                                              (wholeF e (↑(supM (instF c d).sup more).length : Int).toNat))) ≤
                                                                        (0 : Int)) =
                                                                    true ∧
                                                                  True) ∧
                                                                True)) ∧
                                                      (decide
                                                            ([(W
                                                                    (crossK (↑(supM (instF c d).sup more).length : Int) (wholeF e (supM (instF c d).sup more).length) (instF c d).arcs
                                                                      (flowF { sup := supM (instF c d).sup more, arcs := (instF c d).arcs : Inst } d) g)).hi,
                                                                (W
                                                                    (crossK (↑(supM (instF c d).sup more).length : Int) (wholeF e (supM (instF c d).sup more).length) (instF c d).arcs
                                                                      (flowF { sup := supM (instF c d).sup more, arcs := (instF c d).arcs : Inst } d) g)).lo] =
                                                              [(W
                                                                    (needF { sup := supM (instF c d).sup more, arcs := (instF c d).arcs : Inst }
                                                                      (wholeF e (↑(supM (instF c d).sup more).length : Int).toNat))).hi,
                                                                (W
                                                                    (needF { sup := supM (instF c d).sup more, arcs := (instF c d).arcs : Inst }
                                                                      (wholeF e (↑(supM (instF c d).sup more).length : Int).toNat))).lo]) =
                                                          false →
                                                        (false = true ∧ True) ∧ True)) ∧
                                                (true = false → (false = true ∧ True) ∧ True))))
theorem CutSafe_q (c : List Int) (d : List Int) (e : List Int) (fl : List Int) (more : Int) (ty0 ty1 ty2 ty3 : TypeId) : CutSafe_E0 c d e fl more ty0 ty1 ty2 ty3 = FVcP TT CutSafe_g (CutSafe_I c d e fl more) (CutSafe_an c d e fl more) Try.f14 [.row 0, .row 1, .row 2, .row 3, .int .u8 more] [(0, .row false ty0 (.ints .u8 c)), (1, .row false ty1 (.ints .u8 d)), (2, .row false ty2 (.ints .u8 e)), (3, .row false ty3 (.ints .i64 fl))] (CutSafe_r c d e fl more) := by kernel_rfl
theorem CutSafe_E (c : List Int) (d : List Int) (e : List Int) (fl : List Int) (more : Int) (ty0 ty1 ty2 ty3 : TypeId) (hp : Bytes c ∧ Bytes d ∧ c.length ≤ maxLen ∧ d.length ≤ maxLen ∧ Bytes e ∧ e.length ≤ maxLen ∧ A64 fl ∧ 0 ≤ more ∧ more ≤ 255) : FVc TT CutSafe_g (CutSafe_I c d e fl more) (CutSafe_an c d e fl more) Try.f14 [.row 0, .row 1, .row 2, .row 3, .int .u8 more] [(0, .row false ty0 (.ints .u8 c)), (1, .row false ty1 (.ints .u8 d)), (2, .row false ty2 (.ints .u8 e)), (3, .row false ty3 (.ints .i64 fl))] (CutSafe_r c d e fl more) := by
  refine FVc.of (CutSafe_E0 c d e fl more ty0 ty1 ty2 ty3) (CutSafe_q c d e fl more ty0 ty1 ty2 ty3) ?_
  unfold CutSafe_E0
  obtain ⟨p1, p2, p3, p4, p5, p6, p7, p8, p9⟩ := hp
  have l1 := instF_sup c d
  have l2 := nOf_pos d
  have l3 := nOf_le d
  have l4 := instF_arcs c d
  have q2 := instF_A64a c d
  have q4 := instF_L42 c d
  have hw0 := instF_within c d
  have hlen := supM_len (instF c d).sup more
  have hW : Within 4398046511104 (supM (instF c d).sup more) := (supM_within more (by omega) hw0).more (by omega)
  have hR : rightF ⟨supM (instF c d).sup more, (instF c d).arcs⟩ = 0 := right_sup hlen (by omega) (by omega) (fun a ha => by rw [l1]; exact instF_nice c d a ha) hW (by rw [supM_sum]; exact instF_sum c d)
  have hA : A64 (supM (instF c d).sup more) := fun x hx => by have := hW x hx; unfold I64; omega
  have w9 : IntKind.i64.wrap (more.tmod 9) = more % 9 := by rw [tmod_pos p8, w64 (by omega) (by omega)]
  have t0 : Int.toNat 0 = 0 := rfl
  have t1 : Int.toNat 1 = 1 := rfl
  have hyA : A64 (flowF ⟨supM (instF c d).sup more, (instF c d).arcs⟩ d) := flowF_A64 c d d
  have hyl : (flowF ⟨supM (instF c d).sup more, (instF c d).arcs⟩ d).length = (instF c d).arcs.length := flowF_len _ d
  simp only [eq_self, exists_const, forall_const, decide_eq_true_eq, decide_eq_false_iff_not, and_true, true_and, bne_iff_ne, ne_eq, bne_eq_false_iff_eq, Int.toNat_natCast, Bool.not_eq_true', Bool.not_eq_false', beq_iff_eq, beq_eq_false_iff_ne, nilEq_true]
  simp only [w9, t0, t1, List.length_set]
  refine ⟨⟨p1, p2, p3, p4⟩, ⟨fun h1 => ⟨by omega, by omega, fun x hx => ⟨by omega, by omega, by omega, by omega, by omega, fun y hy => ⟨by omega, by omega, by omega, ?_⟩⟩⟩, fun h1 => ?_⟩, ?_⟩
  · rw [List.getElem?_set_ne (by omega)] at hy
    have b1 := hw0 x (List.mem_of_getElem? hx)
    have b2 := hw0 y (List.mem_of_getElem? hy)
    unfold supM
    rw [if_pos (by omega), w64 (x := x + more % 9) (by omega) (by omega), w64 (x := y - more % 9) (by omega) (by omega)]
    simp [List.getD, hx, hy]
  · unfold supM
    rw [if_neg (by omega)]
  generalize supM (instF c d).sup more = s at *
  have hsd := wholeF_len e s.length
  generalize wholeF e s.length = sd at *
  generalize flowF ⟨s, (instF c d).arcs⟩ d = y at *
  have hpn : ∀ x, A64 x → provesF ⟨s, (instF c d).arcs⟩ sd = 0 → ¬ fitsF ⟨s, (instF c d).arcs⟩ x = 0 := fun x hx h => proves_none (by dsimp only; omega) (by dsimp only; omega) hx hW h
  refine ⟨⟨p5, p6, by omega, by omega⟩, ⟨p2, by omega, q4⟩, ⟨q2, by omega, hA, by omega⟩, fun h1 => ⟨⟨by omega, by omega, p7, hA⟩, fun h2 => absurd h2 (hpn _ p7 h1), fun h2 => ⟨⟨by omega, by omega, hyA, hA⟩, fun h3 => absurd h3 (hpn _ hyA h1), fun h3 => ⟨⟨by omega, by omega, hyA, hA⟩, fun _ => trivial, fun h4 => absurd h4 h3⟩⟩⟩,
    fun h1 => ⟨⟨by omega, by omega, hyA, hA⟩, fun _ => trivial, fun h2 => ?_⟩⟩
  have hneed := fits_need sd (I := ⟨s, (instF c d).arcs⟩) (by dsimp only; omega) hyA hW h2
  have hfa := fitsAll_iff.1 (fitsF_zero.1 h2).2.2.1
  dsimp only at hneed hfa
  refine ⟨0, ⟨by omega, rfl, by simp only [crossK]; decide, by simp only [crossK]; decide⟩, fun g hg => ⟨fun h3 => ⟨by omega, by omega, fun x hx => ?_⟩, fun h3 => ?_⟩⟩
  · have hN := instF_nice c d x (List.mem_of_getElem? hx)
    have e1 := hN.s0; have e2 := hN.s1; have e3 := hN.d0; have e4 := hN.d1
    refine ⟨by omega, by omega, fun b1 hb1 => ⟨by omega, by omega, fun x' hx' => ?_⟩⟩
    rw [hx] at hx'
    cases hx'
    refine ⟨by omega, by omega, fun b2 hb2 => ?_⟩
    obtain ⟨f, hf⟩ : ∃ f, y[g]? = some f := ⟨_, List.getElem?_eq_getElem (by omega)⟩
    have hfI := hyA f (List.mem_of_getElem? hf)
    have gk : crossK s.length sd (instF c d).arcs y (g + 1) = crossK s.length sd (instF c d).arcs y g + ((if b1 && !b2 then f else 0) - (if b2 && !b1 then f else 0)) := by
      have d1 : (instF c d).arcs.getD g default = x := by simp [List.getD, hx]
      have d2 : y.getD g 0 = f := by simp [List.getD, hf]
      have d3 : onF sd x.src = b1 := by simp [onF, e1, List.getD, hb1]
      have d4 : onF sd x.dst = b2 := by simp [onF, e3, List.getD, hb2]
      have d5 : isN (s.length : Int) x.src = true := by simp [isN, e1]; omega
      have d6 : isN (s.length : Int) x.dst = true := by simp [isN, e3]; omega
      simp only [crossK, crossD, outA, inA, d1, d2, d3, d4, d5, d6, Bool.true_and]
    have next : ∀ t : Int, t = crossK s.length sd (instF c d).arcs y (g + 1) → ∃ g' : Nat, g' ≤ (instF c d).arcs.length ∧ (instF c d).arcs.length - g' < (instF c d).arcs.length - g ∧ IntKind.i64.wrap ((g : Int) + 1) = (g' : Int) ∧ (W t).hi = (W (crossK s.length sd (instF c d).arcs y g')).hi ∧ (W t).lo = (W (crossK s.length sd (instF c d).arcs y g')).lo :=
      fun t ht => ⟨g + 1, by omega, by omega, by rw [w64 (by omega) (by omega)]; omega, by rw [ht], by rw [ht]⟩
    simp only [hf, Option.some.injEq, forall_eq', wplus_W, wminus_W]
    have bb : (0 ≤ (g : Int) ∧ (g : Int) < (y.length : Int)) ∧ g < y.length := by omega
    cases b1 <;> cases b2 <;> simp only [reduceCtorEq, false_implies, forall_const, Bool.not_false, Bool.not_true, and_true, true_and, implies_true, Bool.and_true, Bool.and_false, Bool.false_eq_true, if_true, if_false, Bool.true_eq_false, Bool.and_self] at gk ⊢ <;> first
      | exact next _ (by omega)
      | exact ⟨bb.1, bb.2, hfI, ⟨W_ok _, W_ok _⟩, next _ (by omega)⟩
  · have hge : g = (instF c d).arcs.length := by omega
    subst hge
    rw [hneed]
    simp only [not_true, false_implies, forall_const, and_true, true_and, Bool.true_eq_false]
    refine ⟨⟨q2, by omega⟩, ⟨hA, by omega⟩, fun _ => trivial, fun h4 => ?_⟩
    cases hroom : roomC ⟨s, (instF c d).arcs⟩ sd with
    | none => rw [hroom] at h4; cases h4
    | some t =>
      refine ⟨⟨W_ok _, W_ok _⟩, ?_⟩
      simp only [roomW]
      rw [cmp_need hR (by dsimp only; omega) (by dsimp only; omega) hW hroom _ rfl, ← hneed]
      exact cross_room hfa (instF c d).arcs.length (Nat.le_refl _) t (by rw [List.take_length]; exact hroom)

theorem CutSafe_ok : SpecOk Try.prog CutSafe_n true (specOf true CutSafe_fs) :=
  spec_ok' TT_ok (show GsOk Try.prog CutSafe_g from gsOk_cons Inst_ok (gsOk_cons whole_ok (gsOk_cons Flow_ok (gsOk_cons Proves_ok (gsOk_cons Fits_ok (gsOk_cons known10_ok (gsOk_cons Plus_ok (gsOk_cons Minus_ok (gsOk_cons Of_ok (gsOk_cons CRoom_ok (gsOk_cons Need_ok (gsOk_cons Compare_ok (gsOk_nil))))))))))))) (by kernel_rfl) mixedOrders Try.func14 rfl rfl (by kernel_rfl) (n := 5) (by decide +kernel) (I := CutSafe_IA) (fun _ _ => isOk_nil) (A := CutSafe_A)
    (fun args h r hr => by
      unfold CutSafe_fs at hr
      split at hr
      · rename_i more ty0 c ty1 d ty2 e ty3 fl; cases hr; refine ⟨rfl, fun hp => ?_⟩; have hE := CutSafe_E c d e fl more ty0 ty1 ty2 ty3 hp; exact hE
      · cases hr)

end Go.Proofs.Ytnoocfcmlilffaa
