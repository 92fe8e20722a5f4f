/-
  CONTRACTS, PROVED: CutRoom.
-/
import Derived.Test.YtnoocfcmlilffaaFC10
import Derived.Test.YtnoocfcmlilffaaDBCutRoom
import Derived.Test.YtnoocfcmlilffaaAid
set_option linter.unusedVariables false
set_option linter.all false
set_option linter.unusedSimpArgs false
set_option maxRecDepth 100000
namespace Go.Proofs.Ytnoocfcmlilffaa
open Go Go.RowKit Go.Ql Go.Vc

def CutRoom_E0 (c : List Int) (d : List Int) (e : List Int) (u : Int) (v : Int) (low : Int) (more : Int) (ty0 ty1 ty2 : TypeId) : Prop :=
      (Bytes c ∧ Bytes d ∧ c.length ≤ maxLen ∧ d.length ≤ maxLen) ∧
        (Bytes e ∧ e.length ≤ maxLen ∧ (0 : Int) ≤ (↑(instF c d).sup.length : Int) ∧ (↑(instF c d).sup.length : Int) ≤ (1000000 : Int)) ∧
          (A64a (instF c d).arcs ∧ (instF c d).arcs.length ≤ (140737488351232 : Nat)) ∧
            (↑(instF c d).sup.length : Int) ≠ (0 : Int) ∧
              (↑(instF c d).sup.length : Int) ≠ (0 : Int) ∧
                (0 : Nat) + (instF c d).arcs.length ≤ (1000000000 : Nat) ∧
                  (instF c d).arcs.length + (1 : Nat) ≤ (1000000000 : Nat) ∧
                    (A64a
                          ((instF c d).arcs ++
                            [{ src := (IntKind.i64.wrap u).tmod (↑(instF c d).sup.length : Int), dst := (IntKind.i64.wrap v).tmod (↑(instF c d).sup.length : Int),
                                low := IntKind.i64.wrap low, cap := IntKind.i64.wrap (IntKind.i64.wrap low + IntKind.i64.wrap more), cost := (0 : Int) : Arc }]) ∧
                        ((instF c d).arcs ++
                              [{ src := (IntKind.i64.wrap u).tmod (↑(instF c d).sup.length : Int), dst := (IntKind.i64.wrap v).tmod (↑(instF c d).sup.length : Int),
                                  low := IntKind.i64.wrap low, cap := IntKind.i64.wrap (IntKind.i64.wrap low + IntKind.i64.wrap more), cost := (0 : Int) : Arc }]).length ≤
                          (140737488351232 : Nat)) ∧
                      ((0 : Int) ≤ (IntKind.i64.wrap u).tmod (↑(instF c d).sup.length : Int) ∧
                          (IntKind.i64.wrap u).tmod (↑(instF c d).sup.length : Int) < (↑(wholeF e (↑(instF c d).sup.length : Int).toNat).length : Int)) ∧
                        ((IntKind.i64.wrap u).tmod (↑(instF c d).sup.length : Int)).toNat < (wholeF e (↑(instF c d).sup.length : Int).toNat).length ∧
                          ∀ (x : Bool),
                            (wholeF e (↑(instF c d).sup.length : Int).toNat)[((IntKind.i64.wrap u).tmod (↑(instF c d).sup.length : Int)).toNat]? = some x →
                              (x = true →
                                  ((0 : Int) ≤ (IntKind.i64.wrap v).tmod (↑(instF c d).sup.length : Int) ∧
                                      (IntKind.i64.wrap v).tmod (↑(instF c d).sup.length : Int) < (↑(wholeF e (↑(instF c d).sup.length : Int).toNat).length : Int)) ∧
                                    ((IntKind.i64.wrap v).tmod (↑(instF c d).sup.length : Int)).toNat < (wholeF e (↑(instF c d).sup.length : Int).toNat).length ∧
                                      ∀ (x : Bool),
                                        (wholeF e (↑(instF c d).sup.length : Int).toNat)[((IntKind.i64.wrap v).tmod (↑(instF c d).sup.length : Int)).toNat]? = some x →
                                          ((!x) = true →
                                              I64 (IntKind.i64.wrap (IntKind.i64.wrap low + IntKind.i64.wrap more)) ∧
                                                ((roomW (roomC (instF c d) (wholeF e (↑(instF c d).sup.length : Int).toNat))).ok ∧
                                                    (W (IntKind.i64.wrap (IntKind.i64.wrap low + IntKind.i64.wrap more))).ok) ∧
                                                  ((0 : Int) ≤ (IntKind.i64.wrap v).tmod (↑(instF c d).sup.length : Int) ∧
                                                      (IntKind.i64.wrap v).tmod (↑(instF c d).sup.length : Int) < (↑(wholeF e (↑(instF c d).sup.length : Int).toNat).length : Int)) ∧
                                                    ((IntKind.i64.wrap v).tmod (↑(instF c d).sup.length : Int)).toNat < (wholeF e (↑(instF c d).sup.length : Int).toNat).length ∧
                                                      ∀ (x : Bool),
                                                        (wholeF e (↑(instF c d).sup.length : Int).toNat)[((IntKind.i64.wrap v).tmod (↑(instF c d).sup.length : Int)).toNat]? = some x →
                                                          (x = true →
                                                              ((0 : Int) ≤ (IntKind.i64.wrap u).tmod (↑(instF c d).sup.length : Int) ∧
                                                                  (IntKind.i64.wrap u).tmod (↑(instF c d).sup.length : Int) <
                                                                    (↑(wholeF e (↑(instF c d).sup.length : Int).toNat).length : Int)) ∧
                                                                ((IntKind.i64.wrap u).tmod (↑(instF c d).sup.length : Int)).toNat <
                                                                    (wholeF e (↑(instF c d).sup.length : Int).toNat).length ∧
                                                                  ∀ (x : Bool),
                                                                    (wholeF e (↑(instF c d).sup.length : Int).toNat)[((IntKind.i64.wrap u).tmod (↑(instF c d).sup.length : Int)).toNat]? =
                                                                        some x →
                                                                      ((!x) = true →
                                                                          I64 (IntKind.i64.wrap low) ∧
                                                                            ((roomW (roomC (instF c d) (wholeF e (↑(instF c d).sup.length : Int).toNat))).ok ∧
                                                                                (W (IntKind.i64.wrap low)).ok) ∧
                                                                              True ∧
                                                                                (true = true →
                                                                                    (((roomC
                                                                                                { sup := (instF c d).sup,
                                                                                                  arcs :=
                                                                                                    (instF c d).arcs ++
                                                                                                      [{ src := (IntKind.i64.wrap u).tmod (↑(instF c d).sup.length : Int),
                                                                                                          dst := (IntKind.i64.wrap v).tmod (↑(instF c d).sup.length : Int),
                                                                                                          low := IntKind.i64.wrap low,
                                                                                                          cap := IntKind.i64.wrap (IntKind.i64.wrap low + IntKind.i64.wrap more),
                                                                                                          cost := (0 : Int) : Arc }] :
                                                                                                  Inst }
                                                                                                (wholeF e (↑(instF c d).sup.length : Int).toNat)).isSome ==
                                                                                            (roomC (instF c d) (wholeF e (↑(instF c d).sup.length : Int).toNat)).isSome) =
                                                                                          true →
                                                                                        ((!(roomC (instF c d) (wholeF e (↑(instF c d).sup.length : Int).toNat)).isSome) = true →
                                                                                            (true = true ∧ True) ∧ True) ∧
                                                                                          ((!(roomC (instF c d) (wholeF e (↑(instF c d).sup.length : Int).toNat)).isSome) = false →
                                                                                            (decide
                                                                                                    ([(roomW
                                                                                                            (roomC
                                                                                                              { sup := (instF c d).sup,
                                                                                                                arcs :=
                                                                                                                  (instF c d).arcs ++
                                                                                                                    [{ src := (IntKind.i64.wrap u).tmod (↑(instF c d).sup.length : Int),
                                                                                                                        dst := (IntKind.i64.wrap v).tmod (↑(instF c d).sup.length : Int),
                                                                                                                        low := IntKind.i64.wrap low,
                                                                                                                        cap :=
                                                                                                                          IntKind.i64.wrap (IntKind.i64.wrap low + IntKind.i64.wrap more),
                                                                                                                        cost := (0 : Int) : Arc }] :
                                                                                                                Inst }
                                                                                                              (wholeF e (↑(instF c d).sup.length : Int).toNat))).hi,
                                                                                                        (roomW
                                                                                                            (roomC
                                                                                                              { sup := (instF c d).sup,
                                                                                                                arcs :=
                                                                                                                  (instF c d).arcs ++
                                                                                                                    [{ src := (IntKind.i64.wrap u).tmod (↑(instF c d).sup.length : Int),
                                                                                                                        dst := (IntKind.i64.wrap v).tmod (↑(instF c d).sup.length : Int),
                                                                                                                        low := IntKind.i64.wrap low,
                                                                                                                        cap :=
                                                                                                                          IntKind.i64.wrap (IntKind.i64.wrap low + IntKind.i64.wrap more),
                                                                                                                        cost := (0 : Int) : Arc }] :
                                                                                                                Inst }
                                                                                                              (wholeF e (↑(instF c d).sup.length : Int).toNat))).lo] =
                                                                                                      [(wminus
                                                                                                            (roomW (roomC (instF c d) (wholeF e (↑(instF c d).sup.length : Int).toNat)))
                                                                                                            (W (IntKind.i64.wrap low))).hi,
                                                                                                        (wminus
                                                                                                            (roomW (roomC (instF c d) (wholeF e (↑(instF c d).sup.length : Int).toNat)))
                                                                                                            (W (IntKind.i64.wrap low))).lo]) =
                                                                                                  true ∧
                                                                                                True) ∧
                                                                                              True)) ∧
                                                                                      (((roomC
                                                                                                { sup := (instF c d).sup,
                                                                                                  arcs :=
                                                                                                    (instF c d).arcs ++
                                                                                                      [{ src := (IntKind.i64.wrap u).tmod (↑(instF c d).sup.length : Int),
                                                                                                          dst := (IntKind.i64.wrap v).tmod (↑(instF c d).sup.length : Int),
                                                                                                          low := IntKind.i64.wrap low,
                                                                                                          cap := IntKind.i64.wrap (IntKind.i64.wrap low + IntKind.i64.wrap more),
                                                                                                          cost := (0 : Int) : Arc }] :
                                                                                                  Inst }
                                                                                                (wholeF e (↑(instF c d).sup.length : Int).toNat)).isSome ==
                                                                                            (roomC (instF c d) (wholeF e (↑(instF c d).sup.length : Int).toNat)).isSome) =
                                                                                          false →
                                                                                        (false = true ∧ True) ∧ True)) ∧
                                                                                  (true = false → (false = true ∧ True) ∧ True)) ∧
                                                                        ((!x) = false →
                                                                          True ∧
                                                                            (true = true →
                                                                                (((roomC
                                                                                            { sup := (instF c d).sup,
                                                                                              arcs :=
                                                                                                (instF c d).arcs ++
                                                                                                  [{ src := (IntKind.i64.wrap u).tmod (↑(instF c d).sup.length : Int),
                                                                                                      dst := (IntKind.i64.wrap v).tmod (↑(instF c d).sup.length : Int),
                                                                                                      low := IntKind.i64.wrap low,
                                                                                                      cap := IntKind.i64.wrap (IntKind.i64.wrap low + IntKind.i64.wrap more),
                                                                                                      cost := (0 : Int) : Arc }] :
                                                                                              Inst }
                                                                                            (wholeF e (↑(instF c d).sup.length : Int).toNat)).isSome ==
                                                                                        (roomC (instF c d) (wholeF e (↑(instF c d).sup.length : Int).toNat)).isSome) =
                                                                                      true →
                                                                                    ((!(roomC (instF c d) (wholeF e (↑(instF c d).sup.length : Int).toNat)).isSome) = true →
                                                                                        (true = true ∧ True) ∧ True) ∧
                                                                                      ((!(roomC (instF c d) (wholeF e (↑(instF c d).sup.length : Int).toNat)).isSome) = false →
                                                                                        (decide
                                                                                                ([(roomW
                                                                                                        (roomC
                                                                                                          { sup := (instF c d).sup,
                                                                                                            arcs :=
                                                                                                              (instF c d).arcs ++
                                                                                                                [{ src := (IntKind.i64.wrap u).tmod (↑(instF c d).sup.length : Int),
                                                                                                                    dst := (IntKind.i64.wrap v).tmod (↑(instF c d).sup.length : Int),
                                                                                                                    low := IntKind.i64.wrap low,
                                                                                                                    cap :=
                                                                                                                      IntKind.i64.wrap (IntKind.i64.wrap low + IntKind.i64.wrap more),
                                                                                                                    cost := (0 : Int) : Arc }] :
                                                                                                            Inst }
                                                                                                          (wholeF e (↑(instF c d).sup.length : Int).toNat))).hi,
                                                                                                    (roomW
                                                                                                        (roomC
                                                                                                          { sup := (instF c d).sup,
                                                                                                            arcs :=
                                                                                                              (instF c d).arcs ++
                                                                                                                [{ src := (IntKind.i64.wrap u).tmod (↑(instF c d).sup.length : Int),
                                                                                                                    dst := (IntKind.i64.wrap v).tmod (↑(instF c d).sup.length : Int),
                                                                                                                    low := IntKind.i64.wrap low,
                                                                                                                    cap :=
                                                                                                                      IntKind.i64.wrap (IntKind.i64.wrap low + IntKind.i64.wrap more),
                                                                                                                    cost := (0 : Int) : Arc }] :
                                                                                                            Inst }
                                                                                                          (wholeF e (↑(instF c d).sup.length : Int).toNat))).lo] =
                                                                                                  [(wplus (roomW (roomC (instF c d) (wholeF e (↑(instF c d).sup.length : Int).toNat)))
                                                                                                        (W (IntKind.i64.wrap (IntKind.i64.wrap low + IntKind.i64.wrap more)))).hi,
                                                                                                    (wplus (roomW (roomC (instF c d) (wholeF e (↑(instF c d).sup.length : Int).toNat)))
                                                                                                        (W (IntKind.i64.wrap (IntKind.i64.wrap low + IntKind.i64.wrap more)))).lo]) =
                                                                                              true ∧
                                                                                            True) ∧
                                                                                          True)) ∧
                                                                                  (((roomC
                                                                                            { sup := (instF c d).sup,
                                                                                              arcs :=
                                                                                                (instF c d).arcs ++
                                                                                                  [{ src := (IntKind.i64.wrap u).tmod (↑(instF c d).sup.length : Int),
                                                                                                      dst := (IntKind.i64.wrap v).tmod (↑(instF c d).sup.length : Int),
                                                                                                      low := IntKind.i64.wrap low,
                                                                                                      cap := IntKind.i64.wrap (IntKind.i64.wrap low + IntKind.i64.wrap more),
                                                                                                      cost := (0 : Int) : Arc }] :
                                                                                              Inst }
                                                                                            (wholeF e (↑(instF c d).sup.length : Int).toNat)).isSome ==
                                                                                        (roomC (instF c d) (wholeF e (↑(instF c d).sup.length : Int).toNat)).isSome) =
                                                                                      false →
                                                                                    (false = true ∧ True) ∧ True)) ∧
                                                                              (true = false → (false = true ∧ True) ∧ True))) ∧
                                                            (x = false →
                                                              True ∧
                                                                (true = true →
                                                                    (((roomC
                                                                                { sup := (instF c d).sup,
                                                                                  arcs :=
                                                                                    (instF c d).arcs ++
                                                                                      [{ src := (IntKind.i64.wrap u).tmod (↑(instF c d).sup.length : Int),
                                                                                          dst := (IntKind.i64.wrap v).tmod (↑(instF c d).sup.length : Int), low := IntKind.i64.wrap low,
                                                                                          cap := IntKind.i64.wrap (IntKind.i64.wrap low + IntKind.i64.wrap more), cost := (0 : Int) :
                                                                                          Arc }] :
                                                                                  Inst }
                                                                                (wholeF e (↑(instF c d).sup.length : Int).toNat)).isSome ==
                                                                            (roomC (instF c d) (wholeF e (↑(instF c d).sup.length : Int).toNat)).isSome) =
                                                                          true →
                                                                        ((!(roomC (instF c d) (wholeF e (↑(instF c d).sup.length : Int).toNat)).isSome) = true →
                                                                            (true = true ∧ True) ∧ True) ∧
                                                                          ((!(roomC (instF c d) (wholeF e (↑(instF c d).sup.length : Int).toNat)).isSome) = false →
                                                                            (decide
                                                                                    ([(roomW
                                                                                            (roomC
                                                                                              { sup := (instF c d).sup,
                                                                                                arcs :=
                                                                                                  (instF c d).arcs ++
                                                                                                    [{ src := (IntKind.i64.wrap u).tmod (↑(instF c d).sup.length : Int),
                                                                                                        dst := (IntKind.i64.wrap v).tmod (↑(instF c d).sup.length : Int),
                                                                                                        low := IntKind.i64.wrap low,
                                                                                                        cap := IntKind.i64.wrap (IntKind.i64.wrap low + IntKind.i64.wrap more),
                                                                                                        cost := (0 : Int) : Arc }] :
                                                                                                Inst }
                                                                                              (wholeF e (↑(instF c d).sup.length : Int).toNat))).hi,
                                                                                        (roomW
                                                                                            (roomC
                                                                                              { sup := (instF c d).sup,
                                                                                                arcs :=
                                                                                                  (instF c d).arcs ++
                                                                                                    [{ src := (IntKind.i64.wrap u).tmod (↑(instF c d).sup.length : Int),
                                                                                                        dst := (IntKind.i64.wrap v).tmod (↑(instF c d).sup.length : Int),
                                                                                                        low := IntKind.i64.wrap low,
                                                                                                        cap := IntKind.i64.wrap (IntKind.i64.wrap low + IntKind.i64.wrap more),
                                                                                                        cost := (0 : Int) : Arc }] :
                                                                                                Inst }
                                                                                              (wholeF e (↑(instF c d).sup.length : Int).toNat))).lo] =
                                                                                      [(wplus (roomW (roomC (instF c d) (wholeF e (↑(instF c d).sup.length : Int).toNat)))
                                                                                            (W (IntKind.i64.wrap (IntKind.i64.wrap low + IntKind.i64.wrap more)))).hi,
                                                                                        (wplus (roomW (roomC (instF c d) (wholeF e (↑(instF c d).sup.length : Int).toNat)))
                                                                                            (W (IntKind.i64.wrap (IntKind.i64.wrap low + IntKind.i64.wrap more)))).lo]) =
                                                                                  true ∧
                                                                                True) ∧
                                                                              True)) ∧
                                                                      (((roomC
                                                                                { sup := (instF c d).sup,
                                                                                  arcs :=
                                                                                    (instF c d).arcs ++
                                                                                      [{ src := (IntKind.i64.wrap u).tmod (↑(instF c d).sup.length : Int),
                                                                                          dst := (IntKind.i64.wrap v).tmod (↑(instF c d).sup.length : Int), low := IntKind.i64.wrap low,
                                                                                          cap := IntKind.i64.wrap (IntKind.i64.wrap low + IntKind.i64.wrap more), cost := (0 : Int) :
                                                                                          Arc }] :
                                                                                  Inst }
                                                                                (wholeF e (↑(instF c d).sup.length : Int).toNat)).isSome ==
                                                                            (roomC (instF c d) (wholeF e (↑(instF c d).sup.length : Int).toNat)).isSome) =
                                                                          false →
                                                                        (false = true ∧ True) ∧ True)) ∧
                                                                  (true = false → (false = true ∧ True) ∧ True))) ∧
                                            ((!x) = false →
                                              ((0 : Int) ≤ (IntKind.i64.wrap v).tmod (↑(instF c d).sup.length : Int) ∧
                                                  (IntKind.i64.wrap v).tmod (↑(instF c d).sup.length : Int) < (↑(wholeF e (↑(instF c d).sup.length : Int).toNat).length : Int)) ∧
                                                ((IntKind.i64.wrap v).tmod (↑(instF c d).sup.length : Int)).toNat < (wholeF e (↑(instF c d).sup.length : Int).toNat).length ∧
                                                  ∀ (x : Bool),
                                                    (wholeF e (↑(instF c d).sup.length : Int).toNat)[((IntKind.i64.wrap v).tmod (↑(instF c d).sup.length : Int)).toNat]? = some x →
                                                      (x = true →
                                                          ((0 : Int) ≤ (IntKind.i64.wrap u).tmod (↑(instF c d).sup.length : Int) ∧
                                                              (IntKind.i64.wrap u).tmod (↑(instF c d).sup.length : Int) <
                                                                (↑(wholeF e (↑(instF c d).sup.length : Int).toNat).length : Int)) ∧
                                                            ((IntKind.i64.wrap u).tmod (↑(instF c d).sup.length : Int)).toNat < (wholeF e (↑(instF c d).sup.length : Int).toNat).length ∧
                                                              ∀ (x : Bool),
                                                                (wholeF e (↑(instF c d).sup.length : Int).toNat)[((IntKind.i64.wrap u).tmod (↑(instF c d).sup.length : Int)).toNat]? =
                                                                    some x →
                                                                  ((!x) = true →
                                                                      I64 (IntKind.i64.wrap low) ∧
                                                                        ((roomW (roomC (instF c d) (wholeF e (↑(instF c d).sup.length : Int).toNat))).ok ∧
                                                                            (W (IntKind.i64.wrap low)).ok) ∧
                                                                          True ∧
                                                                            (true = true →
                                                                                (((roomC
                                                                                            { sup := (instF c d).sup,
                                                                                              arcs :=
                                                                                                (instF c d).arcs ++
                                                                                                  [{ src := (IntKind.i64.wrap u).tmod (↑(instF c d).sup.length : Int),
                                                                                                      dst := (IntKind.i64.wrap v).tmod (↑(instF c d).sup.length : Int),
                                                                                                      low := IntKind.i64.wrap low,
                                                                                                      cap := IntKind.i64.wrap (IntKind.i64.wrap low + IntKind.i64.wrap more),
                                                                                                      cost := (0 : Int) : Arc }] :
                                                                                              Inst }
                                                                                            (wholeF e (↑(instF c d).sup.length : Int).toNat)).isSome ==
                                                                                        (roomC (instF c d) (wholeF e (↑(instF c d).sup.length : Int).toNat)).isSome) =
                                                                                      true →
                                                                                    ((!(roomC (instF c d) (wholeF e (↑(instF c d).sup.length : Int).toNat)).isSome) = true →
                                                                                        (true = true ∧ True) ∧ True) ∧
                                                                                      ((!(roomC (instF c d) (wholeF e (↑(instF c d).sup.length : Int).toNat)).isSome) = false →
                                                                                        (decide
                                                                                                ([(roomW
                                                                                                        (roomC
                                                                                                          { sup := (instF c d).sup,
                                                                                                            arcs :=
                                                                                                              (instF c d).arcs ++
                                                                                                                [{ src := (IntKind.i64.wrap u).tmod (↑(instF c d).sup.length : Int),
                                                                                                                    dst := (IntKind.i64.wrap v).tmod (↑(instF c d).sup.length : Int),
                                                                                                                    low := IntKind.i64.wrap low,
                                                                                                                    cap :=
                                                                                                                      IntKind.i64.wrap (IntKind.i64.wrap low + IntKind.i64.wrap more),
                                                                                                                    cost := (0 : Int) : Arc }] :
                                                                                                            Inst }
                                                                                                          (wholeF e (↑(instF c d).sup.length : Int).toNat))).hi,
                                                                                                    (roomW
                                                                                                        (roomC
                                                                                                          { sup := (instF c d).sup,
                                                                                                            arcs :=
                                                                                                              (instF c d).arcs ++
                                                                                                                [{ src := (IntKind.i64.wrap u).tmod (↑(instF c d).sup.length : Int),
                                                                                                                    dst := (IntKind.i64.wrap v).tmod (↑(instF c d).sup.length : Int),
                                                                                                                    low := IntKind.i64.wrap low,
                                                                                                                    cap :=
                                                                                                                      IntKind.i64.wrap (IntKind.i64.wrap low + IntKind.i64.wrap more),
                                                                                                                    cost := (0 : Int) : Arc }] :
                                                                                                            Inst }
                                                                                                          (wholeF e (↑(instF c d).sup.length : Int).toNat))).lo] =
                                                                                                  [(wminus (roomW (roomC (instF c d) (wholeF e (↑(instF c d).sup.length : Int).toNat)))
                                                                                                        (W (IntKind.i64.wrap low))).hi,
                                                                                                    (wminus (roomW (roomC (instF c d) (wholeF e (↑(instF c d).sup.length : Int).toNat)))
                                                                                                        (W (IntKind.i64.wrap low))).lo]) =
                                                                                              true ∧
                                                                                            True) ∧
                                                                                          True)) ∧
                                                                                  (((roomC
                                                                                            { sup := (instF c d).sup,
                                                                                              arcs :=
                                                                                                (instF c d).arcs ++
                                                                                                  [{ src := (IntKind.i64.wrap u).tmod (↑(instF c d).sup.length : Int),
                                                                                                      dst := (IntKind.i64.wrap v).tmod (↑(instF c d).sup.length : Int),
                                                                                                      low := IntKind.i64.wrap low,
                                                                                                      cap := IntKind.i64.wrap (IntKind.i64.wrap low + IntKind.i64.wrap more),
                                                                                                      cost := (0 : Int) : Arc }] :
                                                                                              Inst }
                                                                                            (wholeF e (↑(instF c d).sup.length : Int).toNat)).isSome ==
                                                                                        (roomC (instF c d) (wholeF e (↑(instF c d).sup.length : Int).toNat)).isSome) =
                                                                                      false →
                                                                                    (false = true ∧ True) ∧ True)) ∧
                                                                              (true = false → (false = true ∧ True) ∧ True)) ∧
                                                                    ((!x) = false →
                                                                      True ∧
                                                                        (true = true →
                                                                            (((roomC
                                                                                        { sup := (instF c d).sup,
                                                                                          arcs :=
                                                                                            (instF c d).arcs ++
                                                                                              [{ src := (IntKind.i64.wrap u).tmod (↑(instF c d).sup.length : Int),
                                                                                                  dst := (IntKind.i64.wrap v).tmod (↑(instF c d).sup.length : Int),
                                                                                                  low := IntKind.i64.wrap low,
                                                                                                  cap := IntKind.i64.wrap (IntKind.i64.wrap low + IntKind.i64.wrap more),
                                                                                                  cost := (0 : Int) : Arc }] :
                                                                                          Inst }
                                                                                        (wholeF e (↑(instF c d).sup.length : Int).toNat)).isSome ==
                                                                                    (roomC (instF c d) (wholeF e (↑(instF c d).sup.length : Int).toNat)).isSome) =
                                                                                  true →
                                                                                ((!(roomC (instF c d) (wholeF e (↑(instF c d).sup.length : Int).toNat)).isSome) = true →
                                                                                    (true = true ∧ True) ∧ True) ∧
                                                                                  ((!(roomC (instF c d) (wholeF e (↑(instF c d).sup.length : Int).toNat)).isSome) = false →
                                                                                    (decide
                                                                                            ([(roomW
                                                                                                    (roomC
                                                                                                      { sup := (instF c d).sup,
                                                                                                        arcs :=
                                                                                                          (instF c d).arcs ++
                                                                                                            [{ src := (IntKind.i64.wrap u).tmod (↑(instF c d).sup.length : Int),
                                                                                                                dst := (IntKind.i64.wrap v).tmod (↑(instF c d).sup.length : Int),
                                                                                                                low := IntKind.i64.wrap low,
                                                                                                                cap := IntKind.i64.wrap (IntKind.i64.wrap low + IntKind.i64.wrap more),
                                                                                                                cost := (0 : Int) : Arc }] :
                                                                                                        Inst }
                                                                                                      (wholeF e (↑(instF c d).sup.length : Int).toNat))).hi,
                                                                                                (roomW
                                                                                                    (roomC
                                                                                                      { sup := (instF c d).sup,
                                                                                                        arcs :=
                                                                                                          (instF c d).arcs ++
                                                                                                            [{ src := (IntKind.i64.wrap u).tmod (↑(instF c d).sup.length : Int),
                                                                                                                dst := (IntKind.i64.wrap v).tmod (↑(instF c d).sup.length : Int),
                                                                                                                low := IntKind.i64.wrap low,
                                                                                                                cap := IntKind.i64.wrap (IntKind.i64.wrap low + IntKind.i64.wrap more),
                                                                                                                cost := (0 : Int) : Arc }] :
                                                                                                        Inst }
                                                                                                      (wholeF e (↑(instF c d).sup.length : Int).toNat))).lo] =
                                                                                              [(roomW (roomC (instF c d) (wholeF e (↑(instF c d).sup.length : Int).toNat))).hi,
                                                                                                (roomW (roomC (instF c d) (wholeF e (↑(instF c d).sup.length : Int).toNat))).lo]) =
                                                                                          true ∧
                                                                                        True) ∧
                                                                                      True)) ∧
                                                                              (((roomC
                                                                                        { sup := (instF c d).sup,
                                                                                          arcs :=
                                                                                            (instF c d).arcs ++
                                                                                              [{ src := (IntKind.i64.wrap u).tmod (↑(instF c d).sup.length : Int),
                                                                                                  dst := (IntKind.i64.wrap v).tmod (↑(instF c d).sup.length : Int),
                                                                                                  low := IntKind.i64.wrap low,
                                                                                                  cap := IntKind.i64.wrap (IntKind.i64.wrap low + IntKind.i64.wrap more),
                                                                                                  cost := (0 : Int) : Arc }] :
                                                                                          Inst }
                                                                                        (wholeF e (↑(instF c d).sup.length : Int).toNat)).isSome ==
                                                                                    (roomC (instF c d) (wholeF e (↑(instF c d).sup.length : Int).toNat)).isSome) =
                                                                                  false →
                                                                                (false = true ∧ True) ∧ True)) ∧
                                                                          (true = false → (false = true ∧ True) ∧ True))) ∧
                                                        (x = false →
                                                          True ∧
                                                            (true = true →
                                                                (((roomC
                                                                            { sup := (instF c d).sup,
                                                                              arcs :=
                                                                                (instF c d).arcs ++
                                                                                  [{ src := (IntKind.i64.wrap u).tmod (↑(instF c d).sup.length : Int),
                                                                                      dst := (IntKind.i64.wrap v).tmod (↑(instF c d).sup.length : Int), low := IntKind.i64.wrap low,
                                                                                      cap := IntKind.i64.wrap (IntKind.i64.wrap low + IntKind.i64.wrap more), cost := (0 : Int) : Arc }] :
                                                                              Inst }
                                                                            (wholeF e (↑(instF c d).sup.length : Int).toNat)).isSome ==
                                                                        (roomC (instF c d) (wholeF e (↑(instF c d).sup.length : Int).toNat)).isSome) =
                                                                      true →
                                                                    ((!(roomC (instF c d) (wholeF e (↑(instF c d).sup.length : Int).toNat)).isSome) = true →
                                                                        (true = true ∧ True) ∧ True) ∧
                                                                      ((!(roomC (instF c d) (wholeF e (↑(instF c d).sup.length : Int).toNat)).isSome) = false →
                                                                        (decide
                                                                                ([(roomW
                                                                                        (roomC
                                                                                          { sup := (instF c d).sup,
                                                                                            arcs :=
                                                                                              (instF c d).arcs ++
                                                                                                [{ src := (IntKind.i64.wrap u).tmod (↑(instF c d).sup.length : Int),
                                                                                                    dst := (IntKind.i64.wrap v).tmod (↑(instF c d).sup.length : Int),
                                                                                                    low := IntKind.i64.wrap low,
                                                                                                    cap := IntKind.i64.wrap (IntKind.i64.wrap low + IntKind.i64.wrap more),
                                                                                                    cost := (0 : Int) : Arc }] :
                                                                                            Inst }
                                                                                          (wholeF e (↑(instF c d).sup.length : Int).toNat))).hi,
                                                                                    (roomW
                                                                                        (roomC
                                                                                          { sup := (instF c d).sup,
                                                                                            arcs :=
                                                                                              (instF c d).arcs ++
                                                                                                [{ src := (IntKind.i64.wrap u).tmod (↑(instF c d).sup.length : Int),
                                                                                                    dst := (IntKind.i64.wrap v).tmod (↑(instF c d).sup.length : Int),
                                                                                                    low := IntKind.i64.wrap low,
                                                                                                    cap := IntKind.i64.wrap (IntKind.i64.wrap low + IntKind.i64.wrap more),
                                                                                                    cost := (0 : Int) : Arc }] :
                                                                                            Inst }
                                                                                          (wholeF e (↑(instF c d).sup.length : Int).toNat))).lo] =
                                                                                  [(roomW (roomC (instF c d) (wholeF e (↑(instF c d).sup.length : Int).toNat))).hi,
                                                                                    (roomW (roomC (instF c d) (wholeF e (↑(instF c d).sup.length : Int).toNat))).lo]) =
                                                                              true ∧
                                                                            True) ∧
                                                                          True)) ∧
                                                                  (((roomC
                                                                            { sup := (instF c d).sup,
                                                                              arcs :=
                                                                                (instF c d).arcs ++
                                                                                  [{ src := (IntKind.i64.wrap u).tmod (↑(instF c d).sup.length : Int),
                                                                                      dst := (IntKind.i64.wrap v).tmod (↑(instF c d).sup.length : Int), low := IntKind.i64.wrap low,
                                                                                      cap := IntKind.i64.wrap (IntKind.i64.wrap low + IntKind.i64.wrap more), cost := (0 : Int) : Arc }] :
                                                                              Inst }
                                                                            (wholeF e (↑(instF c d).sup.length : Int).toNat)).isSome ==
                                                                        (roomC (instF c d) (wholeF e (↑(instF c d).sup.length : Int).toNat)).isSome) =
                                                                      false →
                                                                    (false = true ∧ True) ∧ True)) ∧
                                                              (true = false → (false = true ∧ True) ∧ True)))) ∧
                                (x = false →
                                  ((0 : Int) ≤ (IntKind.i64.wrap v).tmod (↑(instF c d).sup.length : Int) ∧
                                      (IntKind.i64.wrap v).tmod (↑(instF c d).sup.length : Int) < (↑(wholeF e (↑(instF c d).sup.length : Int).toNat).length : Int)) ∧
                                    ((IntKind.i64.wrap v).tmod (↑(instF c d).sup.length : Int)).toNat < (wholeF e (↑(instF c d).sup.length : Int).toNat).length ∧
                                      ∀ (x : Bool),
                                        (wholeF e (↑(instF c d).sup.length : Int).toNat)[((IntKind.i64.wrap v).tmod (↑(instF c d).sup.length : Int)).toNat]? = some x →
                                          (x = true →
                                              ((0 : Int) ≤ (IntKind.i64.wrap u).tmod (↑(instF c d).sup.length : Int) ∧
                                                  (IntKind.i64.wrap u).tmod (↑(instF c d).sup.length : Int) < (↑(wholeF e (↑(instF c d).sup.length : Int).toNat).length : Int)) ∧
                                                ((IntKind.i64.wrap u).tmod (↑(instF c d).sup.length : Int)).toNat < (wholeF e (↑(instF c d).sup.length : Int).toNat).length ∧
                                                  ∀ (x : Bool),
                                                    (wholeF e (↑(instF c d).sup.length : Int).toNat)[((IntKind.i64.wrap u).tmod (↑(instF c d).sup.length : Int)).toNat]? = some x →
                                                      ((!x) = true →
                                                          I64 (IntKind.i64.wrap low) ∧
                                                            ((roomW (roomC (instF c d) (wholeF e (↑(instF c d).sup.length : Int).toNat))).ok ∧ (W (IntKind.i64.wrap low)).ok) ∧
                                                              True ∧
                                                                (true = true →
                                                                    (((roomC
                                                                                { sup := (instF c d).sup,
                                                                                  arcs :=
                                                                                    (instF c d).arcs ++
                                                                                      [{ src := (IntKind.i64.wrap u).tmod (↑(instF c d).sup.length : Int),
                                                                                          dst := (IntKind.i64.wrap v).tmod (↑(instF c d).sup.length : Int), low := IntKind.i64.wrap low,
                                                                                          cap := IntKind.i64.wrap (IntKind.i64.wrap low + IntKind.i64.wrap more), cost := (0 : Int) :
                                                                                          Arc }] :
                                                                                  Inst }
                                                                                (wholeF e (↑(instF c d).sup.length : Int).toNat)).isSome ==
                                                                            (roomC (instF c d) (wholeF e (↑(instF c d).sup.length : Int).toNat)).isSome) =
                                                                          true →
                                                                        ((!(roomC (instF c d) (wholeF e (↑(instF c d).sup.length : Int).toNat)).isSome) = true →
                                                                            (true = true ∧ True) ∧ True) ∧
                                                                          ((!(roomC (instF c d) (wholeF e (↑(instF c d).sup.length : Int).toNat)).isSome) = false →
                                                                            (decide
                                                                                    ([(roomW
                                                                                            (roomC
                                                                                              { sup := (instF c d).sup,
                                                                                                arcs :=
                                                                                                  (instF c d).arcs ++
                                                                                                    [{ src := (IntKind.i64.wrap u).tmod (↑(instF c d).sup.length : Int),
                                                                                                        dst := (IntKind.i64.wrap v).tmod (↑(instF c d).sup.length : Int),
                                                                                                        low := IntKind.i64.wrap low,
                                                                                                        cap := IntKind.i64.wrap (IntKind.i64.wrap low + IntKind.i64.wrap more),
                                                                                                        cost := (0 : Int) : Arc }] :
                                                                                                Inst }
                                                                                              (wholeF e (↑(instF c d).sup.length : Int).toNat))).hi,
                                                                                        (roomW
                                                                                            (roomC
                                                                                              { sup := (instF c d).sup,
                                                                                                arcs :=
                                                                                                  (instF c d).arcs ++
                                                                                                    [{ src := (IntKind.i64.wrap u).tmod (↑(instF c d).sup.length : Int),
                                                                                                        dst := (IntKind.i64.wrap v).tmod (↑(instF c d).sup.length : Int),
                                                                                                        low := IntKind.i64.wrap low,
                                                                                                        cap := IntKind.i64.wrap (IntKind.i64.wrap low + IntKind.i64.wrap more),
                                                                                                        cost := (0 : Int) : Arc }] :
                                                                                                Inst }
                                                                                              (wholeF e (↑(instF c d).sup.length : Int).toNat))).lo] =
                                                                                      [(wminus (roomW (roomC (instF c d) (wholeF e (↑(instF c d).sup.length : Int).toNat)))
                                                                                            (W (IntKind.i64.wrap low))).hi,
                                                                                        (wminus (roomW (roomC (instF c d) (wholeF e (↑(instF c d).sup.length : Int).toNat)))
                                                                                            (W (IntKind.i64.wrap low))).lo]) =
                                                                                  true ∧
                                                                                True) ∧
                                                                              True)) ∧
                                                                      (((roomC
                                                                                { sup := (instF c d).sup,
                                                                                  arcs :=
                                                                                    (instF c d).arcs ++
                                                                                      [{ src := (IntKind.i64.wrap u).tmod (↑(instF c d).sup.length : Int),
                                                                                          dst := (IntKind.i64.wrap v).tmod (↑(instF c d).sup.length : Int), low := IntKind.i64.wrap low,
                                                                                          cap := IntKind.i64.wrap (IntKind.i64.wrap low + IntKind.i64.wrap more), cost := (0 : Int) :
                                                                                          Arc }] :
                                                                                  Inst }
                                                                                (wholeF e (↑(instF c d).sup.length : Int).toNat)).isSome ==
                                                                            (roomC (instF c d) (wholeF e (↑(instF c d).sup.length : Int).toNat)).isSome) =
                                                                          false →
                                                                        (false = true ∧ True) ∧ True)) ∧
                                                                  (true = false → (false = true ∧ True) ∧ True)) ∧
                                                        ((!x) = false →
                                                          True ∧
                                                            (true = true →
                                                                (((roomC
                                                                            { sup := (instF c d).sup,
                                                                              arcs :=
                                                                                (instF c d).arcs ++
                                                                                  [{ src := (IntKind.i64.wrap u).tmod (↑(instF c d).sup.length : Int),
                                                                                      dst := (IntKind.i64.wrap v).tmod (↑(instF c d).sup.length : Int), low := IntKind.i64.wrap low,
                                                                                      cap := IntKind.i64.wrap (IntKind.i64.wrap low + IntKind.i64.wrap more), cost := (0 : Int) : Arc }] :
                                                                              Inst }
                                                                            (wholeF e (↑(instF c d).sup.length : Int).toNat)).isSome ==
                                                                        (roomC (instF c d) (wholeF e (↑(instF c d).sup.length : Int).toNat)).isSome) =
                                                                      true →
                                                                    ((!(roomC (instF c d) (wholeF e (↑(instF c d).sup.length : Int).toNat)).isSome) = true →
                                                                        (true = true ∧ True) ∧ True) ∧
                                                                      ((!(roomC (instF c d) (wholeF e (↑(instF c d).sup.length : Int).toNat)).isSome) = false →
                                                                        (decide
                                                                                ([(roomW
                                                                                        (roomC
                                                                                          { sup := (instF c d).sup,
                                                                                            arcs :=
                                                                                              (instF c d).arcs ++
                                                                                                [{ src := (IntKind.i64.wrap u).tmod (↑(instF c d).sup.length : Int),
                                                                                                    dst := (IntKind.i64.wrap v).tmod (↑(instF c d).sup.length : Int),
                                                                                                    low := IntKind.i64.wrap low,
                                                                                                    cap := IntKind.i64.wrap (IntKind.i64.wrap low + IntKind.i64.wrap more),
                                                                                                    cost := (0 : Int) : Arc }] :
                                                                                            Inst }
                                                                                          (wholeF e (↑(instF c d).sup.length : Int).toNat))).hi,
                                                                                    (roomW
                                                                                        (roomC
                                                                                          { sup := (instF c d).sup,
                                                                                            arcs :=
                                                                                              (instF c d).arcs ++
                                                                                                [{ src := (IntKind.i64.wrap u).tmod (↑(instF c d).sup.length : Int),
                                                                                                    dst := (IntKind.i64.wrap v).tmod (↑(instF c d).sup.length : Int),
                                                                                                    low := IntKind.i64.wrap low,
                                                                                                    cap := IntKind.i64.wrap (IntKind.i64.wrap low + IntKind.i64.wrap more),
                                                                                                    cost := (0 : Int) : Arc }] :
                                                                                            Inst }
                                                                                          (wholeF e (↑(instF c d).sup.length : Int).toNat))).lo] =
                                                                                  [(roomW (roomC (instF c d) (wholeF e (↑(instF c d).sup.length : Int).toNat))).hi,
                                                                                    (roomW (roomC (instF c d) (wholeF e (↑(instF c d).sup.length : Int).toNat))).lo]) =
                                                                              true ∧
                                                                            True) ∧
                                                                          True)) ∧
                                                                  (((roomC
                                                                            { sup := (instF c d).sup,
                                                                              arcs :=
                                                                                (instF c d).arcs ++
                                                                                  [{ src := (IntKind.i64.wrap u).tmod (↑(instF c d).sup.length : Int),
                                                                                      dst := (IntKind.i64.wrap v).tmod (↑(instF c d).sup.length : Int), low := IntKind.i64.wrap low,
                                                                                      cap := IntKind.i64.wrap (IntKind.i64.wrap low + IntKind.i64.wrap more), cost := (0 : Int) : Arc }] :
                                                                              Inst }
                                                                            (wholeF e (↑(instF c d).sup.length : Int).toNat)).isSome ==
                                                                        (roomC (instF c d) (wholeF e (↑(instF c d).sup.length : Int).toNat)).isSome) =
                                                                      false →
                                                                    (false = true ∧ True) ∧ True)) ∧
                                                              (true = false → (false = true ∧ True) ∧ True))) ∧
                                            (x = false →
                                              True ∧
                                                (true = true →
                                                    (((roomC
                                                                { sup := (instF c d).sup,
                                                                  arcs :=
                                                                    (instF c d).arcs ++
                                                                      [{ src := (IntKind.i64.wrap u).tmod (↑(instF c d).sup.length : Int),
                                                                          dst := (IntKind.i64.wrap v).tmod (↑(instF c d).sup.length : Int), low := IntKind.i64.wrap low,
                                                                          cap := IntKind.i64.wrap (IntKind.i64.wrap low + IntKind.i64.wrap more), cost := (0 : Int) : Arc }] :
                                                                  Inst }
                                                                (wholeF e (↑(instF c d).sup.length : Int).toNat)).isSome ==
                                                            (roomC (instF c d) (wholeF e (↑(instF c d).sup.length : Int).toNat)).isSome) =
                                                          true →
                                                        ((!(roomC (instF c d) (wholeF e (↑(instF c d).sup.length : Int).toNat)).isSome) = true → (true = true ∧ True) ∧ True) ∧
                                                          ((!(roomC (instF c d) (wholeF e (↑(instF c d).sup.length : Int).toNat)).isSome) = false →
                                                            (decide
                                                                    ([(roomW
                                                                            (roomC
                                                                              { sup := (instF c d).sup,
                                                                                arcs :=
                                                                                  (instF c d).arcs ++
                                                                                    [{ src := (IntKind.i64.wrap u).tmod (↑(instF c d).sup.length : Int),
                                                                                        dst := (IntKind.i64.wrap v).tmod (↑(instF c d).sup.length : Int), low := IntKind.i64.wrap low,
                                                                                        cap := IntKind.i64.wrap (IntKind.i64.wrap low + IntKind.i64.wrap more), cost := (0 : Int) :
                                                                                        Arc }] :
                                                                                Inst }
                                                                              (wholeF e (↑(instF c d).sup.length : Int).toNat))).hi,
                                                                        (roomW
                                                                            (roomC
                                                                              { sup := (instF c d).sup,
                                                                                arcs :=
                                                                                  (instF c d).arcs ++
                                                                                    [{ src := (IntKind.i64.wrap u).tmod (↑(instF c d).sup.length : Int),
                                                                                        dst := (IntKind.i64.wrap v).tmod (↑(instF c d).sup.length : Int), low := IntKind.i64.wrap low,
                                                                                        cap := IntKind.i64.wrap (IntKind.i64.wrap low + IntKind.i64.wrap more), cost := (0 : Int) :
                                                                                        Arc }] :
                                                                                Inst }
                                                                              (wholeF e (↑(instF c d).sup.length : Int).toNat))).lo] =
                                                                      [(roomW (roomC (instF c d) (wholeF e (↑(instF c d).sup.length : Int).toNat))).hi,
                                                                        (roomW (roomC (instF c d) (wholeF e (↑(instF c d).sup.length : Int).toNat))).lo]) =
                                                                  true ∧
                                                                True) ∧
                                                              True)) ∧
                                                      (((roomC
                                                                { sup := (instF c d).sup,
                                                                  arcs :=
                                                                    (instF c d).arcs ++
                                                                      [{ src := (IntKind.i64.wrap u).tmod (↑(instF c d).sup.length : Int),
                                                                          dst := (IntKind.i64.wrap v).tmod (↑(instF c d).sup.length : Int), low := IntKind.i64.wrap low,
                                                                          cap := IntKind.i64.wrap (IntKind.i64.wrap low + IntKind.i64.wrap more), cost := (0 : Int) : Arc }] :
                                                                  Inst }
                                                                (wholeF e (↑(instF c d).sup.length : Int).toNat)).isSome ==
                                                            (roomC (instF c d) (wholeF e (↑(instF c d).sup.length : Int).toNat)).isSome) =
                                                          false →
                                                        (false = true ∧ True) ∧ True)) ∧
                                                  (true = false → (false = true ∧ True) ∧ True)))
theorem CutRoom_q (c : List Int) (d : List Int) (e : List Int) (u : Int) (v : Int) (low : Int) (more : Int) (ty0 ty1 ty2 : TypeId) : CutRoom_E0 c d e u v low more ty0 ty1 ty2 = FVcP TT CutRoom_g (CutRoom_I c d e u v low more) (CutRoom_an c d e u v low more) Try.f4 [.row 0, .row 1, .row 2, .int .u8 u, .int .u8 v, .int .u8 low, .int .u8 more] [(0, .row false ty0 (.ints .u8 c)), (1, .row false ty1 (.ints .u8 d)), (2, .row false ty2 (.ints .u8 e))] (CutRoom_r c d e u v low more) := by kernel_rfl
theorem CutRoom_E (c : List Int) (d : List Int) (e : List Int) (u : Int) (v : Int) (low : Int) (more : Int) (ty0 ty1 ty2 : TypeId) (hp : Bytes c ∧ Bytes d ∧ c.length ≤ maxLen ∧ d.length ≤ maxLen ∧ Bytes e ∧ e.length ≤ maxLen ∧ 0 ≤ u ∧ u ≤ 255 ∧ 0 ≤ v ∧ v ≤ 255 ∧ 0 ≤ low ∧ low ≤ 255 ∧ 0 ≤ more ∧ more ≤ 255) : FVc TT CutRoom_g (CutRoom_I c d e u v low more) (CutRoom_an c d e u v low more) Try.f4 [.row 0, .row 1, .row 2, .int .u8 u, .int .u8 v, .int .u8 low, .int .u8 more] [(0, .row false ty0 (.ints .u8 c)), (1, .row false ty1 (.ints .u8 d)), (2, .row false ty2 (.ints .u8 e))] (CutRoom_r c d e u v low more) := by
  refine FVc.of (CutRoom_E0 c d e u v low more ty0 ty1 ty2) (CutRoom_q c d e u v low more ty0 ty1 ty2) ?_
  unfold CutRoom_E0
  obtain ⟨p1, p2, p3, p4, p5, p6, p7, p8, p9, p10, p11, p12, p13, p14⟩ := hp
  have l1 := instF_sup c d
  have l2 := nOf_pos d
  have l3 := nOf_le d
  have l4 := instF_arcs c d
  have q2 := instF_A64a c d
  have hsd := wholeF_len e (instF c d).sup.length
  obtain ⟨n, hn⟩ : ∃ n, n = (instF c d).sup.length := ⟨_, rfl⟩
  have pick : ∀ z : Int, 0 ≤ z → z ≤ 255 → ∃ U : Nat, (IntKind.i64.wrap z).tmod ((instF c d).sup.length : Int) = (U : Int) ∧ U < (instF c d).sup.length := fun z h0 h1 => by
    have e0 := Int.emod_nonneg z (b := ((instF c d).sup.length : Int)) (by omega)
    have e1 := Int.emod_lt_of_pos z (show (0 : Int) < (instF c d).sup.length by omega)
    refine ⟨(z % ((instF c d).sup.length : Int)).toNat, ?_, by omega⟩
    rw [w64 (by omega) (by omega), tmod_pos h0]; omega
  obtain ⟨U, hU, hU2⟩ := pick u p7 p8
  obtain ⟨V, hV, hV2⟩ := pick v p9 p10
  have wl : IntKind.i64.wrap low = low := w64 (by omega) (by omega)
  have wm : IntKind.i64.wrap more = more := w64 (by omega) (by omega)
  have wc : IntKind.i64.wrap (low + more) = low + more := w64 (by omega) (by omega)
  simp only [eq_self, exists_const, forall_const, decide_eq_true_eq, decide_eq_false_iff_not, and_true, true_and, bne_iff_ne, ne_eq, bne_eq_false_iff_eq, Int.toNat_natCast, Bool.not_eq_true', Bool.not_eq_false', beq_iff_eq, beq_eq_false_iff_ne, nilEq_true]
  simp only [hU, hV, wl, wm, wc, Int.toNat_natCast, hsd]
  obtain ⟨p, hp⟩ : ∃ p, (wholeF e (instF c d).sup.length)[U]? = some p := ⟨_, List.getElem?_eq_getElem (by omega)⟩
  obtain ⟨q, hq⟩ : ∃ q, (wholeF e (instF c d).sup.length)[V]? = some q := ⟨_, List.getElem?_eq_getElem (by omega)⟩
  have gp : (wholeF e (instF c d).sup.length).getD U false = p := by simp [List.getD, hp]
  have gq : (wholeF e (instF c d).sup.length).getD V false = q := by simp [List.getD, hq]
  have hr : roomC ⟨(instF c d).sup, (instF c d).arcs ++ [⟨(U : Int), (V : Int), low, low + more, 0⟩]⟩ (wholeF e (instF c d).sup.length) = (roomC (instF c d) (wholeF e (instF c d).sup.length)).bind fun t => if p && !q then some (t + (low + more)) else if q && !p then some (t - low) else some t := by
    unfold roomC
    dsimp only
    rw [roomAcc_app]
    congr 1
    funext t
    rw [roomAcc_cons]
    have i1 : isN ((instF c d).sup.length : Int) (U : Int) = true := by simp [isN]; omega
    have i2 : isN ((instF c d).sup.length : Int) (V : Int) = true := by simp [isN]; omega
    have hc : ¬ low + more = inf := by unfold inf; omega
    simp only [outA, inA, i1, i2, onF_nat, gp, gq, Bool.true_and, hc, if_false, roomAcc]
  have ha : A64a ((instF c d).arcs ++ [⟨(U : Int), (V : Int), low, low + more, 0⟩]) := fun a ha => by
    rcases List.mem_append.1 ha with h | h
    · exact q2 a h
    · simp at h; subst h; unfold I64; dsimp only; omega
  have ic : I64 (low + more) := by unfold I64; omega
  have il : I64 low := by unfold I64; omega
  simp only [hr, hp, hq, Option.some.injEq, forall_eq', List.length_append, List.length_cons, List.length_nil]
  refine ⟨⟨p1, p2, p3, p4⟩, ⟨p5, p6, by omega, by omega⟩, ⟨q2, by omega⟩, by omega, by omega, by omega, by omega, ⟨ha, by omega⟩, by omega, by omega, ?_⟩
  have b1 : (0 : Int) ≤ U ∧ (U : Int) < ((instF c d).sup.length : Int) := by omega
  have b2 : (0 : Int) ≤ V ∧ (V : Int) < ((instF c d).sup.length : Int) := by omega
  generalize roomC (instF c d) (wholeF e (instF c d).sup.length) = o
  have ok : (roomW o).ok := by cases o <;> simp [roomW, W_ok, ok_zero]
  cases p <;> cases q <;> cases o <;> simp [roomW, ic, il, b1, b2, hU2, hV2, W_ok, ok_zero, ok] <;> omega

theorem CutRoom_ok : SpecOk Try.prog CutRoom_n true (specOf true CutRoom_fs) :=
  spec_ok' TT_ok (show GsOk Try.prog CutRoom_g from gsOk_cons Inst_ok (gsOk_cons whole_ok (gsOk_cons CRoom_ok (gsOk_cons Plus_ok (gsOk_cons Minus_ok (gsOk_cons Of_ok (gsOk_cons known10_ok (gsOk_nil)))))))) (by kernel_rfl) mixedOrders Try.func4 rfl rfl (by kernel_rfl) (n := 7) (by decide +kernel) (I := CutRoom_IA) (fun _ _ => isOk_nil) (A := CutRoom_A)
    (fun args h r hr => by
      unfold CutRoom_fs at hr
      split at hr
      · rename_i u v low more ty0 c ty1 d ty2 e; cases hr; refine ⟨rfl, fun hp => ?_⟩; have hE := CutRoom_E c d e u v low more ty0 ty1 ty2 hp; exact hE
      · cases hr)

end Go.Proofs.Ytnoocfcmlilffaa
