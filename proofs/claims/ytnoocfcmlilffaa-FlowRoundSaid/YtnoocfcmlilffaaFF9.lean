/-
  CONTRACTS, PROVED: FlowRound.
-/
import Derived.Test.YtnoocfcmlilffaaFC9
import Derived.Test.YtnoocfcmlilffaaDF9
import Derived.Test.YtnoocfcmlilffaaAid
set_option linter.unusedVariables false
set_option linter.all false
set_option linter.unusedSimpArgs false
set_option maxRecDepth 100000
namespace Go.Proofs.Ytnoocfcmlilffaa
open Go Go.RowKit Go.Ql Go.Vc

def FlowRound_E0 (c : List Int) (d : List Int) (x : List Int) (n : Int) (m : Int) (ty0 ty1 ty2 : TypeId) : Prop :=
      (Bytes c ∧ Bytes d ∧ c.length ≤ maxLen ∧ d.length ≤ maxLen) ∧
        (↑(instF c d).sup.length : Int) ≠ (0 : Int) ∧
          ∃ (g0 : Nat),
            ((↑g0 : Int) ≤ (1 : Int) + m % (↑(instF c d).sup.length : Int) ∧
                (True ∧
                    n = n ∧
                      (0 : Nat) = (0 : Nat) ∧
                        (↑(instF c d).sup.length : Int) = (↑(instF c d).sup.length : Int) ∧
                          IntKind.i64.wrap ((1 : Int) + (IntKind.i64.wrap m).tmod (↑(instF c d).sup.length : Int)) = (1 : Int) + m % (↑(instF c d).sup.length : Int) ∧
                            (↑(instF c d).arcs.length : Int) = (↑(instF c d).arcs.length : Int) ∧ (0 : Int) = (↑g0 : Int) ∧ True) ∧
                  (True ∧ True ∧ True) ∧
                    (instF c d).sup = (instF c d).sup ∧ (instF c d).arcs = (instF c d).arcs ++ roundA ((1 : Int) + m % (↑(instF c d).sup.length : Int)).toNat g0 ∧ x = x ∧ True) ∧
              ∀ (g : Nat),
                (↑g : Int) ≤ (1 : Int) + m % (↑(instF c d).sup.length : Int) →
                  (decide ((↑g : Int) < (1 : Int) + m % (↑(instF c d).sup.length : Int)) = true →
                      (1 : Int) + m % (↑(instF c d).sup.length : Int) ≠ (0 : Int) ∧
                        ((instF c d).arcs ++ roundA ((1 : Int) + m % (↑(instF c d).sup.length : Int)).toNat g).length + (1 : Nat) ≤ (1000000000 : Nat) ∧
                          ∃ (g' : Nat),
                            (↑g' : Int) ≤ (1 : Int) + m % (↑(instF c d).sup.length : Int) ∧
                              ((1 : Int) + m % (↑(instF c d).sup.length : Int)).toNat - g' < ((1 : Int) + m % (↑(instF c d).sup.length : Int)).toNat - g ∧
                                (True ∧
                                    n = n ∧
                                      (0 : Nat) = (0 : Nat) ∧
                                        (↑(instF c d).sup.length : Int) = (↑(instF c d).sup.length : Int) ∧
                                          (1 : Int) + m % (↑(instF c d).sup.length : Int) = (1 : Int) + m % (↑(instF c d).sup.length : Int) ∧
                                            (↑(instF c d).arcs.length : Int) = (↑(instF c d).arcs.length : Int) ∧ IntKind.i64.wrap ((↑g : Int) + (1 : Int)) = (↑g' : Int) ∧ True) ∧
                                  (True ∧ True ∧ True) ∧
                                    (instF c d).sup = (instF c d).sup ∧
                                      (instF c d).arcs ++ roundA ((1 : Int) + m % (↑(instF c d).sup.length : Int)).toNat g ++
                                            [{ src := (↑g : Int), dst := (IntKind.i64.wrap ((↑g : Int) + (1 : Int))).tmod ((1 : Int) + m % (↑(instF c d).sup.length : Int)),
                                                low := (0 : Int), cap := (4611686018427387904 : Int), cost := (1 : Int) : Arc }] =
                                          (instF c d).arcs ++ roundA ((1 : Int) + m % (↑(instF c d).sup.length : Int)).toNat g' ∧
                                        x = x ∧ True) ∧
                    (decide ((↑g : Int) < (1 : Int) + m % (↑(instF c d).sup.length : Int)) = false →
                      ∃ (g0 : Nat),
                        (g0 ≤ (instF c d).arcs.length + ((1 : Int) + m % (↑(instF c d).sup.length : Int)).toNat ∧
                            (True ∧
                                n = n ∧
                                  (0 : Nat) = (0 : Nat) ∧
                                    (↑(instF c d).sup.length : Int) = (↑(instF c d).sup.length : Int) ∧
                                      (1 : Int) + m % (↑(instF c d).sup.length : Int) = (1 : Int) + m % (↑(instF c d).sup.length : Int) ∧
                                        (↑(instF c d).arcs.length : Int) = (↑(instF c d).arcs.length : Int) ∧ True ∧ True ∧ (0 : Int) = (↑g0 : Int) ∧ True) ∧
                              [] = plusF x (instF c d).arcs.length n g0 ∧
                                [] = padF x g0 ∧
                                  (True ∧ True ∧ True) ∧
                                    (instF c d).sup = (instF c d).sup ∧
                                      (instF c d).arcs ++ roundA ((1 : Int) + m % (↑(instF c d).sup.length : Int)).toNat g =
                                          (instF c d).arcs ++ roundA ((1 : Int) + m % (↑(instF c d).sup.length : Int)).toNat ((1 : Int) + m % (↑(instF c d).sup.length : Int)).toNat ∧
                                        x = x ∧ True) ∧
                          ∀ (g : Nat),
                            g ≤ (instF c d).arcs.length + ((1 : Int) + m % (↑(instF c d).sup.length : Int)).toNat →
                              (decide
                                      ((↑g : Int) <
                                        (↑((instF c d).arcs ++
                                                roundA ((1 : Int) + m % (↑(instF c d).sup.length : Int)).toNat ((1 : Int) + m % (↑(instF c d).sup.length : Int)).toNat).length :
                                          Int)) =
                                    true →
                                  (decide ((↑g : Int) < (↑x.length : Int)) = true →
                                      ((0 : Int) ≤ (↑g : Int) ∧ (↑g : Int) < (↑x.length : Int)) ∧
                                        (↑g : Int).toNat < x.length ∧
                                          ∀ (x_1 : Int),
                                            x[(↑g : Int).toNat]? = some x_1 →
                                              (padF x g).length + (1 : Nat) ≤ (1000000000 : Nat) ∧
                                                (decide ((↑g : Int) ≥ (↑(instF c d).arcs.length : Int)) = true →
                                                    (plusF x (instF c d).arcs.length n g).length + (1 : Nat) ≤ (1000000000 : Nat) ∧
                                                      ∃ (g' : Nat),
                                                        g' ≤ (instF c d).arcs.length + ((1 : Int) + m % (↑(instF c d).sup.length : Int)).toNat ∧
                                                          (instF c d).arcs.length + ((1 : Int) + m % (↑(instF c d).sup.length : Int)).toNat - g' <
                                                              (instF c d).arcs.length + ((1 : Int) + m % (↑(instF c d).sup.length : Int)).toNat - g ∧
                                                            (True ∧
                                                                n = n ∧
                                                                  (0 : Nat) = (0 : Nat) ∧
                                                                    (↑(instF c d).sup.length : Int) = (↑(instF c d).sup.length : Int) ∧
                                                                      (1 : Int) + m % (↑(instF c d).sup.length : Int) = (1 : Int) + m % (↑(instF c d).sup.length : Int) ∧
                                                                        (↑(instF c d).arcs.length : Int) = (↑(instF c d).arcs.length : Int) ∧
                                                                          True ∧ True ∧ IntKind.i64.wrap ((↑g : Int) + (1 : Int)) = (↑g' : Int) ∧ True) ∧
                                                              plusF x (instF c d).arcs.length n g ++ [IntKind.i64.wrap (IntKind.i64.wrap x_1 + IntKind.i64.wrap n)] =
                                                                  plusF x (instF c d).arcs.length n g' ∧
                                                                padF x g ++ [IntKind.i64.wrap x_1] = padF x g' ∧
                                                                  (True ∧ True ∧ True) ∧
                                                                    (instF c d).sup = (instF c d).sup ∧
                                                                      (instF c d).arcs ++
                                                                            roundA ((1 : Int) + m % (↑(instF c d).sup.length : Int)).toNat
                                                                              ((1 : Int) + m % (↑(instF c d).sup.length : Int)).toNat =
                                                                          (instF c d).arcs ++
                                                                            roundA ((1 : Int) + m % (↑(instF c d).sup.length : Int)).toNat
                                                                              ((1 : Int) + m % (↑(instF c d).sup.length : Int)).toNat ∧
                                                                        x = x ∧ True) ∧
                                                  (decide ((↑g : Int) ≥ (↑(instF c d).arcs.length : Int)) = false →
                                                    (plusF x (instF c d).arcs.length n g).length + (1 : Nat) ≤ (1000000000 : Nat) ∧
                                                      ∃ (g' : Nat),
                                                        g' ≤ (instF c d).arcs.length + ((1 : Int) + m % (↑(instF c d).sup.length : Int)).toNat ∧
                                                          (instF c d).arcs.length + ((1 : Int) + m % (↑(instF c d).sup.length : Int)).toNat - g' <
                                                              (instF c d).arcs.length + ((1 : Int) + m % (↑(instF c d).sup.length : Int)).toNat - g ∧
                                                            (True ∧
                                                                n = n ∧
                                                                  (0 : Nat) = (0 : Nat) ∧
                                                                    (↑(instF c d).sup.length : Int) = (↑(instF c d).sup.length : Int) ∧
                                                                      (1 : Int) + m % (↑(instF c d).sup.length : Int) = (1 : Int) + m % (↑(instF c d).sup.length : Int) ∧
                                                                        (↑(instF c d).arcs.length : Int) = (↑(instF c d).arcs.length : Int) ∧
                                                                          True ∧ True ∧ IntKind.i64.wrap ((↑g : Int) + (1 : Int)) = (↑g' : Int) ∧ True) ∧
                                                              plusF x (instF c d).arcs.length n g ++ [IntKind.i64.wrap x_1] = plusF x (instF c d).arcs.length n g' ∧
                                                                padF x g ++ [IntKind.i64.wrap x_1] = padF x g' ∧
                                                                  (True ∧ True ∧ True) ∧
                                                                    (instF c d).sup = (instF c d).sup ∧
                                                                      (instF c d).arcs ++
                                                                            roundA ((1 : Int) + m % (↑(instF c d).sup.length : Int)).toNat
                                                                              ((1 : Int) + m % (↑(instF c d).sup.length : Int)).toNat =
                                                                          (instF c d).arcs ++
                                                                            roundA ((1 : Int) + m % (↑(instF c d).sup.length : Int)).toNat
                                                                              ((1 : Int) + m % (↑(instF c d).sup.length : Int)).toNat ∧
                                                                        x = x ∧ True)) ∧
                                    (decide ((↑g : Int) < (↑x.length : Int)) = false →
                                      (padF x g).length + (1 : Nat) ≤ (1000000000 : Nat) ∧
                                        (decide ((↑g : Int) ≥ (↑(instF c d).arcs.length : Int)) = true →
                                            (plusF x (instF c d).arcs.length n g).length + (1 : Nat) ≤ (1000000000 : Nat) ∧
                                              ∃ (g' : Nat),
                                                g' ≤ (instF c d).arcs.length + ((1 : Int) + m % (↑(instF c d).sup.length : Int)).toNat ∧
                                                  (instF c d).arcs.length + ((1 : Int) + m % (↑(instF c d).sup.length : Int)).toNat - g' <
                                                      (instF c d).arcs.length + ((1 : Int) + m % (↑(instF c d).sup.length : Int)).toNat - g ∧
                                                    (True ∧
                                                        n = n ∧
                                                          (0 : Nat) = (0 : Nat) ∧
                                                            (↑(instF c d).sup.length : Int) = (↑(instF c d).sup.length : Int) ∧
                                                              (1 : Int) + m % (↑(instF c d).sup.length : Int) = (1 : Int) + m % (↑(instF c d).sup.length : Int) ∧
                                                                (↑(instF c d).arcs.length : Int) = (↑(instF c d).arcs.length : Int) ∧
                                                                  True ∧ True ∧ IntKind.i64.wrap ((↑g : Int) + (1 : Int)) = (↑g' : Int) ∧ True) ∧
                                                      plusF x (instF c d).arcs.length n g ++ [IntKind.i64.wrap ((0 : Int) + IntKind.i64.wrap n)] = plusF x (instF c d).arcs.length n g' ∧
                                                        padF x g ++ [(0 : Int)] = padF x g' ∧
                                                          (True ∧ True ∧ True) ∧
                                                            (instF c d).sup = (instF c d).sup ∧
                                                              (instF c d).arcs ++
                                                                    roundA ((1 : Int) + m % (↑(instF c d).sup.length : Int)).toNat
                                                                      ((1 : Int) + m % (↑(instF c d).sup.length : Int)).toNat =
                                                                  (instF c d).arcs ++
                                                                    roundA ((1 : Int) + m % (↑(instF c d).sup.length : Int)).toNat
                                                                      ((1 : Int) + m % (↑(instF c d).sup.length : Int)).toNat ∧
                                                                x = x ∧ True) ∧
                                          (decide ((↑g : Int) ≥ (↑(instF c d).arcs.length : Int)) = false →
                                            (plusF x (instF c d).arcs.length n g).length + (1 : Nat) ≤ (1000000000 : Nat) ∧
                                              ∃ (g' : Nat),
                                                g' ≤ (instF c d).arcs.length + ((1 : Int) + m % (↑(instF c d).sup.length : Int)).toNat ∧
                                                  (instF c d).arcs.length + ((1 : Int) + m % (↑(instF c d).sup.length : Int)).toNat - g' <
                                                      (instF c d).arcs.length + ((1 : Int) + m % (↑(instF c d).sup.length : Int)).toNat - g ∧
                                                    (True ∧
                                                        n = n ∧
                                                          (0 : Nat) = (0 : Nat) ∧
                                                            (↑(instF c d).sup.length : Int) = (↑(instF c d).sup.length : Int) ∧
                                                              (1 : Int) + m % (↑(instF c d).sup.length : Int) = (1 : Int) + m % (↑(instF c d).sup.length : Int) ∧
                                                                (↑(instF c d).arcs.length : Int) = (↑(instF c d).arcs.length : Int) ∧
                                                                  True ∧ True ∧ IntKind.i64.wrap ((↑g : Int) + (1 : Int)) = (↑g' : Int) ∧ True) ∧
                                                      plusF x (instF c d).arcs.length n g ++ [(0 : Int)] = plusF x (instF c d).arcs.length n g' ∧
                                                        padF x g ++ [(0 : Int)] = padF x g' ∧
                                                          (True ∧ True ∧ True) ∧
                                                            (instF c d).sup = (instF c d).sup ∧
                                                              (instF c d).arcs ++
                                                                    roundA ((1 : Int) + m % (↑(instF c d).sup.length : Int)).toNat
                                                                      ((1 : Int) + m % (↑(instF c d).sup.length : Int)).toNat =
                                                                  (instF c d).arcs ++
                                                                    roundA ((1 : Int) + m % (↑(instF c d).sup.length : Int)).toNat
                                                                      ((1 : Int) + m % (↑(instF c d).sup.length : Int)).toNat ∧
                                                                x = x ∧ True))) ∧
                                (decide
                                      ((↑g : Int) <
                                        (↑((instF c d).arcs ++
                                                roundA ((1 : Int) + m % (↑(instF c d).sup.length : Int)).toNat ((1 : Int) + m % (↑(instF c d).sup.length : Int)).toNat).length :
                                          Int)) =
                                    false →
                                  ((instF c d).sup.length ≤ (10000 : Nat) ∧
                                      ((instF c d).arcs ++
                                              roundA ((1 : Int) + m % (↑(instF c d).sup.length : Int)).toNat ((1 : Int) + m % (↑(instF c d).sup.length : Int)).toNat).length ≤
                                          (10000 : Nat) ∧
                                        A64 (padF x g)) ∧
                                    ((instF c d).sup.length ≤ (10000 : Nat) ∧
                                        ((instF c d).arcs ++
                                                roundA ((1 : Int) + m % (↑(instF c d).sup.length : Int)).toNat ((1 : Int) + m % (↑(instF c d).sup.length : Int)).toNat).length ≤
                                            (10000 : Nat) ∧
                                          A64 (plusF x (instF c d).arcs.length n g)) ∧
                                      (((↑(netF
                                                      { sup := (instF c d).sup,
                                                        arcs :=
                                                          (instF c d).arcs ++
                                                            roundA ((1 : Int) + m % (↑(instF c d).sup.length : Int)).toNat ((1 : Int) + m % (↑(instF c d).sup.length : Int)).toNat :
                                                        Inst }
                                                      (padF x g)).length :
                                                Int) !=
                                              (↑(instF c d).sup.length : Int)) =
                                            true →
                                          (false = true ∧ True) ∧ True) ∧
                                        (((↑(netF
                                                      { sup := (instF c d).sup,
                                                        arcs :=
                                                          (instF c d).arcs ++
                                                            roundA ((1 : Int) + m % (↑(instF c d).sup.length : Int)).toNat ((1 : Int) + m % (↑(instF c d).sup.length : Int)).toNat :
                                                        Inst }
                                                      (padF x g)).length :
                                                Int) !=
                                              (↑(instF c d).sup.length : Int)) =
                                            false →
                                          (((↑(netF
                                                          { sup := (instF c d).sup,
                                                            arcs :=
                                                              (instF c d).arcs ++
                                                                roundA ((1 : Int) + m % (↑(instF c d).sup.length : Int)).toNat ((1 : Int) + m % (↑(instF c d).sup.length : Int)).toNat :
                                                            Inst }
                                                          (plusF x (instF c d).arcs.length n g)).length :
                                                    Int) !=
                                                  (↑(instF c d).sup.length : Int)) =
                                                true →
                                              (false = true ∧ True) ∧ True) ∧
                                            (((↑(netF
                                                          { sup := (instF c d).sup,
                                                            arcs :=
                                                              (instF c d).arcs ++
                                                                roundA ((1 : Int) + m % (↑(instF c d).sup.length : Int)).toNat ((1 : Int) + m % (↑(instF c d).sup.length : Int)).toNat :
                                                            Inst }
                                                          (plusF x (instF c d).arcs.length n g)).length :
                                                    Int) !=
                                                  (↑(instF c d).sup.length : Int)) =
                                                false →
                                              ∃ (g0 : Nat),
                                                (g0 ≤ (instF c d).sup.length ∧
                                                    (n = n ∧
                                                        (0 : Nat) = (0 : Nat) ∧
                                                          (↑(instF c d).sup.length : Int) = (↑(instF c d).sup.length : Int) ∧
                                                            (1 : Int) + m % (↑(instF c d).sup.length : Int) = (1 : Int) + m % (↑(instF c d).sup.length : Int) ∧
                                                              True ∧ True ∧ True ∧ True ∧ (0 : Int) = (↑g0 : Int) ∧ True) ∧
                                                      netF
                                                            { sup := (instF c d).sup,
                                                              arcs :=
                                                                (instF c d).arcs ++
                                                                  roundA ((1 : Int) + m % (↑(instF c d).sup.length : Int)).toNat ((1 : Int) + m % (↑(instF c d).sup.length : Int)).toNat :
                                                              Inst }
                                                            (plusF x (instF c d).arcs.length n g) =
                                                          netF
                                                            { sup := (instF c d).sup,
                                                              arcs :=
                                                                (instF c d).arcs ++
                                                                  roundA ((1 : Int) + m % (↑(instF c d).sup.length : Int)).toNat ((1 : Int) + m % (↑(instF c d).sup.length : Int)).toNat :
                                                              Inst }
                                                            (plusF x (instF c d).arcs.length n ((instF c d).arcs.length + ((1 : Int) + m % (↑(instF c d).sup.length : Int)).toNat)) ∧
                                                        netF
                                                              { sup := (instF c d).sup,
                                                                arcs :=
                                                                  (instF c d).arcs ++
                                                                    roundA ((1 : Int) + m % (↑(instF c d).sup.length : Int)).toNat
                                                                      ((1 : Int) + m % (↑(instF c d).sup.length : Int)).toNat :
                                                                Inst }
                                                              (padF x g) =
                                                            netF
                                                              { sup := (instF c d).sup,
                                                                arcs :=
                                                                  (instF c d).arcs ++
                                                                    roundA ((1 : Int) + m % (↑(instF c d).sup.length : Int)).toNat
                                                                      ((1 : Int) + m % (↑(instF c d).sup.length : Int)).toNat :
                                                                Inst }
                                                              (padF x ((instF c d).arcs.length + ((1 : Int) + m % (↑(instF c d).sup.length : Int)).toNat)) ∧
                                                          plusF x (instF c d).arcs.length n g =
                                                              plusF x (instF c d).arcs.length n ((instF c d).arcs.length + ((1 : Int) + m % (↑(instF c d).sup.length : Int)).toNat) ∧
                                                            padF x g = padF x ((instF c d).arcs.length + ((1 : Int) + m % (↑(instF c d).sup.length : Int)).toNat) ∧
                                                              (True ∧ True ∧ True) ∧
                                                                (instF c d).sup = (instF c d).sup ∧
                                                                  (instF c d).arcs ++
                                                                        roundA ((1 : Int) + m % (↑(instF c d).sup.length : Int)).toNat
                                                                          ((1 : Int) + m % (↑(instF c d).sup.length : Int)).toNat =
                                                                      (instF c d).arcs ++
                                                                        roundA ((1 : Int) + m % (↑(instF c d).sup.length : Int)).toNat
                                                                          ((1 : Int) + m % (↑(instF c d).sup.length : Int)).toNat ∧
                                                                    True) ∧
                                                  ∀ (g : Nat),
                                                    g ≤ (instF c d).sup.length →
                                                      (decide ((↑g : Int) < (↑(instF c d).sup.length : Int)) = true →
                                                          ((0 : Int) ≤ (↑g : Int) ∧
                                                              (↑g : Int) <
                                                                (↑(netF
                                                                        { sup := (instF c d).sup,
                                                                          arcs :=
                                                                            (instF c d).arcs ++
                                                                              roundA ((1 : Int) + m % (↑(instF c d).sup.length : Int)).toNat
                                                                                ((1 : Int) + m % (↑(instF c d).sup.length : Int)).toNat :
                                                                          Inst }
                                                                        (padF x ((instF c d).arcs.length + ((1 : Int) + m % (↑(instF c d).sup.length : Int)).toNat))).length :
                                                                  Int)) ∧
                                                            (↑g : Int).toNat <
                                                                (netF
                                                                    { sup := (instF c d).sup,
                                                                      arcs :=
                                                                        (instF c d).arcs ++
                                                                          roundA ((1 : Int) + m % (↑(instF c d).sup.length : Int)).toNat
                                                                            ((1 : Int) + m % (↑(instF c d).sup.length : Int)).toNat :
                                                                      Inst }
                                                                    (padF x ((instF c d).arcs.length + ((1 : Int) + m % (↑(instF c d).sup.length : Int)).toNat))).length ∧
                                                              ∀ (x_1 : Wide),
                                                                (netF
                                                                        { sup := (instF c d).sup,
                                                                          arcs :=
                                                                            (instF c d).arcs ++
                                                                              roundA ((1 : Int) + m % (↑(instF c d).sup.length : Int)).toNat
                                                                                ((1 : Int) + m % (↑(instF c d).sup.length : Int)).toNat :
                                                                          Inst }
                                                                        (padF x ((instF c d).arcs.length + ((1 : Int) + m % (↑(instF c d).sup.length : Int)).toNat)))[(↑g : Int).toNat]? =
                                                                    some x_1 →
                                                                  ((0 : Int) ≤ (↑g : Int) ∧
                                                                      (↑g : Int) <
                                                                        (↑(netF
                                                                                { sup := (instF c d).sup,
                                                                                  arcs :=
                                                                                    (instF c d).arcs ++
                                                                                      roundA ((1 : Int) + m % (↑(instF c d).sup.length : Int)).toNat
                                                                                        ((1 : Int) + m % (↑(instF c d).sup.length : Int)).toNat :
                                                                                  Inst }
                                                                                (plusF x (instF c d).arcs.length n
                                                                                  ((instF c d).arcs.length + ((1 : Int) + m % (↑(instF c d).sup.length : Int)).toNat))).length :
                                                                          Int)) ∧
                                                                    (↑g : Int).toNat <
                                                                        (netF
                                                                            { sup := (instF c d).sup,
                                                                              arcs :=
                                                                                (instF c d).arcs ++
                                                                                  roundA ((1 : Int) + m % (↑(instF c d).sup.length : Int)).toNat
                                                                                    ((1 : Int) + m % (↑(instF c d).sup.length : Int)).toNat :
                                                                              Inst }
                                                                            (plusF x (instF c d).arcs.length n
                                                                              ((instF c d).arcs.length + ((1 : Int) + m % (↑(instF c d).sup.length : Int)).toNat))).length ∧
                                                                      ∀ (x_2 : Wide),
                                                                        (netF
                                                                                { sup := (instF c d).sup,
                                                                                  arcs :=
                                                                                    (instF c d).arcs ++
                                                                                      roundA ((1 : Int) + m % (↑(instF c d).sup.length : Int)).toNat
                                                                                        ((1 : Int) + m % (↑(instF c d).sup.length : Int)).toNat :
                                                                                  Inst }
                                                                                (plusF x (instF c d).arcs.length n
                                                                                  ((instF c d).arcs.length +
                                                                                    ((1 : Int) + m % (↑(instF c d).sup.length : Int)).toNat)))[(↑g : Int).toNat]? =
                                                                            some x_2 →
                                                                          ((!decide ([x_1.hi, x_1.lo] = [x_2.hi, x_2.lo])) = true → (false = true ∧ True) ∧ True) ∧
                                                                            ((!decide ([x_1.hi, x_1.lo] = [x_2.hi, x_2.lo])) = false →
                                                                              ∃ (g' : Nat),
                                                                                g' ≤ (instF c d).sup.length ∧
                                                                                  (instF c d).sup.length - g' < (instF c d).sup.length - g ∧
                                                                                    (n = n ∧
                                                                                        (0 : Nat) = (0 : Nat) ∧
                                                                                          (↑(instF c d).sup.length : Int) = (↑(instF c d).sup.length : Int) ∧
                                                                                            (1 : Int) + m % (↑(instF c d).sup.length : Int) =
                                                                                                (1 : Int) + m % (↑(instF c d).sup.length : Int) ∧
                                                                                              True ∧
                                                                                                True ∧ True ∧ True ∧ IntKind.i64.wrap ((↑g : Int) + (1 : Int)) = (↑g' : Int) ∧ True) ∧
                                                                                      netF
                                                                                            { sup := (instF c d).sup,
                                                                                              arcs :=
                                                                                                (instF c d).arcs ++
                                                                                                  roundA ((1 : Int) + m % (↑(instF c d).sup.length : Int)).toNat
                                                                                                    ((1 : Int) + m % (↑(instF c d).sup.length : Int)).toNat :
                                                                                              Inst }
                                                                                            (plusF x (instF c d).arcs.length n
                                                                                              ((instF c d).arcs.length + ((1 : Int) + m % (↑(instF c d).sup.length : Int)).toNat)) =
                                                                                          netF
                                                                                            { sup := (instF c d).sup,
                                                                                              arcs :=
                                                                                                (instF c d).arcs ++
                                                                                                  roundA ((1 : Int) + m % (↑(instF c d).sup.length : Int)).toNat
                                                                                                    ((1 : Int) + m % (↑(instF c d).sup.length : Int)).toNat :
                                                                                              Inst }
                                                                                            (plusF x (instF c d).arcs.length n
                                                                                              ((instF c d).arcs.length + ((1 : Int) + m % (↑(instF c d).sup.length : Int)).toNat)) ∧
                                                                                        netF
                                                                                              { sup := (instF c d).sup,
                                                                                                arcs :=
                                                                                                  (instF c d).arcs ++
                                                                                                    roundA ((1 : Int) + m % (↑(instF c d).sup.length : Int)).toNat
                                                                                                      ((1 : Int) + m % (↑(instF c d).sup.length : Int)).toNat :
                                                                                                Inst }
                                                                                              (padF x
                                                                                                ((instF c d).arcs.length + ((1 : Int) + m % (↑(instF c d).sup.length : Int)).toNat)) =
                                                                                            netF
                                                                                              { sup := (instF c d).sup,
                                                                                                arcs :=
                                                                                                  (instF c d).arcs ++
                                                                                                    roundA ((1 : Int) + m % (↑(instF c d).sup.length : Int)).toNat
                                                                                                      ((1 : Int) + m % (↑(instF c d).sup.length : Int)).toNat :
                                                                                                Inst }
                                                                                              (padF x
                                                                                                ((instF c d).arcs.length + ((1 : Int) + m % (↑(instF c d).sup.length : Int)).toNat)) ∧
                                                                                          plusF x (instF c d).arcs.length n
                                                                                                ((instF c d).arcs.length + ((1 : Int) + m % (↑(instF c d).sup.length : Int)).toNat) =
                                                                                              plusF x (instF c d).arcs.length n
                                                                                                ((instF c d).arcs.length + ((1 : Int) + m % (↑(instF c d).sup.length : Int)).toNat) ∧
                                                                                            padF x ((instF c d).arcs.length + ((1 : Int) + m % (↑(instF c d).sup.length : Int)).toNat) =
                                                                                                padF x
                                                                                                  ((instF c d).arcs.length + ((1 : Int) + m % (↑(instF c d).sup.length : Int)).toNat) ∧
                                                                                              (True ∧ True ∧ True) ∧
                                                                                                (instF c d).sup = (instF c d).sup ∧
                                                                                                  (instF c d).arcs ++
                                                                                                        roundA ((1 : Int) + m % (↑(instF c d).sup.length : Int)).toNat
                                                                                                          ((1 : Int) + m % (↑(instF c d).sup.length : Int)).toNat =
                                                                                                      (instF c d).arcs ++
                                                                                                        roundA ((1 : Int) + m % (↑(instF c d).sup.length : Int)).toNat
                                                                                                          ((1 : Int) + m % (↑(instF c d).sup.length : Int)).toNat ∧
                                                                                                    True)) ∧
                                                        (decide ((↑g : Int) < (↑(instF c d).sup.length : Int)) = false →
                                                          True ∧
                                                            (true = true →
                                                                (A64
                                                                      (plusF x (instF c d).arcs.length n
                                                                        ((instF c d).arcs.length + ((1 : Int) + m % (↑(instF c d).sup.length : Int)).toNat)) ∧
                                                                    A64c
                                                                        ((instF c d).arcs ++
                                                                          roundA ((1 : Int) + m % (↑(instF c d).sup.length : Int)).toNat
                                                                            ((1 : Int) + m % (↑(instF c d).sup.length : Int)).toNat) ∧
                                                                      ((instF c d).arcs ++
                                                                            roundA ((1 : Int) + m % (↑(instF c d).sup.length : Int)).toNat
                                                                              ((1 : Int) + m % (↑(instF c d).sup.length : Int)).toNat).length ≤
                                                                        (1000000 : Nat)) ∧
                                                                  (A64 (padF x ((instF c d).arcs.length + ((1 : Int) + m % (↑(instF c d).sup.length : Int)).toNat)) ∧
                                                                      A64c
                                                                          ((instF c d).arcs ++
                                                                            roundA ((1 : Int) + m % (↑(instF c d).sup.length : Int)).toNat
                                                                              ((1 : Int) + m % (↑(instF c d).sup.length : Int)).toNat) ∧
                                                                        ((instF c d).arcs ++
                                                                              roundA ((1 : Int) + m % (↑(instF c d).sup.length : Int)).toNat
                                                                                ((1 : Int) + m % (↑(instF c d).sup.length : Int)).toNat).length ≤
                                                                          (1000000 : Nat)) ∧
                                                                    (I64 (IntKind.i64.wrap n) ∧ I64 ((1 : Int) + m % (↑(instF c d).sup.length : Int))) ∧
                                                                      ((W
                                                                              (costF
                                                                                { sup := (instF c d).sup,
                                                                                  arcs :=
                                                                                    (instF c d).arcs ++
                                                                                      roundA ((1 : Int) + m % (↑(instF c d).sup.length : Int)).toNat
                                                                                        ((1 : Int) + m % (↑(instF c d).sup.length : Int)).toNat :
                                                                                  Inst }
                                                                                (padF x ((instF c d).arcs.length + ((1 : Int) + m % (↑(instF c d).sup.length : Int)).toNat)))).ok ∧
                                                                          (W (IntKind.i64.wrap n * ((1 : Int) + m % (↑(instF c d).sup.length : Int)))).ok) ∧
                                                                        (decide
                                                                                ([(W
                                                                                        (costF
                                                                                          { sup := (instF c d).sup,
                                                                                            arcs :=
                                                                                              (instF c d).arcs ++
                                                                                                roundA ((1 : Int) + m % (↑(instF c d).sup.length : Int)).toNat
                                                                                                  ((1 : Int) + m % (↑(instF c d).sup.length : Int)).toNat :
                                                                                            Inst }
                                                                                          (plusF x (instF c d).arcs.length n
                                                                                            ((instF c d).arcs.length + ((1 : Int) + m % (↑(instF c d).sup.length : Int)).toNat)))).hi,
                                                                                    (W
                                                                                        (costF
                                                                                          { sup := (instF c d).sup,
                                                                                            arcs :=
                                                                                              (instF c d).arcs ++
                                                                                                roundA ((1 : Int) + m % (↑(instF c d).sup.length : Int)).toNat
                                                                                                  ((1 : Int) + m % (↑(instF c d).sup.length : Int)).toNat :
                                                                                            Inst }
                                                                                          (plusF x (instF c d).arcs.length n
                                                                                            ((instF c d).arcs.length + ((1 : Int) + m % (↑(instF c d).sup.length : Int)).toNat)))).lo] =
                                                                                  [(wplus
                                                                                        (W
                                                                                          (costF
                                                                                            { sup := (instF c d).sup,
                                                                                              arcs :=
                                                                                                (instF c d).arcs ++
                                                                                                  roundA ((1 : Int) + m % (↑(instF c d).sup.length : Int)).toNat
                                                                                                    ((1 : Int) + m % (↑(instF c d).sup.length : Int)).toNat :
                                                                                              Inst }
                                                                                            (padF x ((instF c d).arcs.length + ((1 : Int) + m % (↑(instF c d).sup.length : Int)).toNat))))
                                                                                        (W (IntKind.i64.wrap n * ((1 : Int) + m % (↑(instF c d).sup.length : Int))))).hi,
                                                                                    (wplus
                                                                                        (W
                                                                                          (costF
                                                                                            { sup := (instF c d).sup,
                                                                                              arcs :=
                                                                                                (instF c d).arcs ++
                                                                                                  roundA ((1 : Int) + m % (↑(instF c d).sup.length : Int)).toNat
                                                                                                    ((1 : Int) + m % (↑(instF c d).sup.length : Int)).toNat :
                                                                                              Inst }
                                                                                            (padF x ((instF c d).arcs.length + ((1 : Int) + m % (↑(instF c d).sup.length : Int)).toNat))))
                                                                                        (W (IntKind.i64.wrap n * ((1 : Int) + m % (↑(instF c d).sup.length : Int))))).lo]) =
                                                                              true ∧
                                                                            True) ∧
                                                                          True) ∧
                                                              (true = false → (false = true ∧ True) ∧ True))))))
theorem FlowRound_q (c : List Int) (d : List Int) (x : List Int) (n : Int) (m : Int) (ty0 ty1 ty2 : TypeId) : FlowRound_E0 c d x n m ty0 ty1 ty2 = FVcP TT FlowRound_g (FlowRound_an c d x n m) Try.f12 [.row 0, .row 1, .row 2, .int .i32 n, .int .u8 m] [(0, .row false ty0 (.ints .u8 c)), (1, .row false ty1 (.ints .u8 d)), (2, .row false ty2 (.ints .i32 x))] (FlowRound_r c d x n m) := by kernel_rfl
theorem FlowRound_E (c : List Int) (d : List Int) (x : List Int) (n : Int) (m : Int) (ty0 ty1 ty2 : TypeId) (hp : Bytes c ∧ Bytes d ∧ c.length ≤ maxLen ∧ d.length ≤ maxLen ∧ A32 x ∧ -2147483648 ≤ n ∧ n ≤ 2147483647 ∧ 0 ≤ m ∧ m ≤ 255) : FVc TT FlowRound_g (FlowRound_an c d x n m) Try.f12 [.row 0, .row 1, .row 2, .int .i32 n, .int .u8 m] [(0, .row false ty0 (.ints .u8 c)), (1, .row false ty1 (.ints .u8 d)), (2, .row false ty2 (.ints .i32 x))] (FlowRound_r c d x n m) := by
  refine FVc.of (FlowRound_E0 c d x n m ty0 ty1 ty2) (FlowRound_q c d x n m ty0 ty1 ty2) ?_
  unfold FlowRound_E0
  obtain ⟨p1, p2, p3, p4, p5, p6, p7, p8, p9⟩ := hp
  have l1 := instF_sup c d
  have l2 := nOf_pos d
  have l3 := nOf_le d
  have l4 := instF_arcs c d
  have q1 := instF_A64 c d
  have q2 := instF_A64a c d
  have q3 := instF_A64c c d
  have q4 := instF_L42 c d
  have q5 := flowF_A64 c d d
  have q6 := flowF_len (instF c d) d
  have q7 := flowF_mem c d d
  simp only [eq_self, exists_const, forall_const, decide_eq_true_eq, decide_eq_false_iff_not, and_true, true_and, bne_iff_ne, ne_eq, bne_eq_false_iff_eq, Int.toNat_natCast, Bool.not_eq_true', Bool.not_eq_false', beq_iff_eq, beq_eq_false_iff_ne, nilEq_true]
  simp only [false_implies, reduceCtorEq, Bool.not_true, Bool.true_eq_false, Bool.false_eq_true, implies_true, and_true, true_and]
  have e0 := Int.emod_nonneg m (b := ((instF c d).sup.length : Int)) (by omega)
  have e1 := Int.emod_lt_of_pos m (show (0 : Int) < (instF c d).sup.length by omega)
  have w1 : IntKind.i64.wrap (1 + (IntKind.i64.wrap m).tmod ↑(instF c d).sup.length) = 1 + m % ↑(instF c d).sup.length := by
    rw [w64 (x := m) (by omega) (by omega), tmod_pos p8, w64 (by omega) (by omega)]
  have wn : IntKind.i64.wrap n = n := w64 (by omega) (by omega)
  obtain ⟨K, hK⟩ : ∃ K : Nat, 1 + m % ↑(instF c d).sup.length = (K : Int) := ⟨(1 + m % ↑(instF c d).sup.length).toNat, by omega⟩
  have k1 : 0 < K := by omega
  have k2 : K ≤ (instF c d).sup.length := by omega
  simp only [w1, wn, hK, Int.toNat_natCast]
  have rl : ((instF c d).arcs ++ roundA K K).length = (instF c d).arcs.length + K := by rw [List.length_append, roundA_len]
  have pA : ∀ j, A64 (plusF x (instF c d).arcs.length n j) := fun j z hz => by
    unfold plusF at hz
    rw [List.mem_map] at hz
    obtain ⟨v, _, rfl⟩ := hz
    have := p5.getD v
    unfold I64; split <;> omega
  have cA : A64c ((instF c d).arcs ++ roundA K K) := fun a ha => by
    rcases List.mem_append.1 ha with h | h
    · exact q3 a h
    · unfold roundA at h
      rw [List.mem_map] at h
      obtain ⟨v, _, rfl⟩ := h
      unfold I64; dsimp only; omega
  have o0 : ∀ j, j < (instF c d).arcs.length → (onlyF (instF c d).arcs.length n ((instF c d).arcs.length + K)).getD j 0 = 0 := fun j hj => by rw [onlyF_getD (by omega), if_neg (by omega)]
  have o1 : ∀ t, t < K → (onlyF (instF c d).arcs.length n ((instF c d).arcs.length + K)).getD ((instF c d).arcs.length + t) 0 = n := fun j hj => by rw [onlyF_getD (by omega), if_pos (by omega)]
  have hnk : ∀ v : Int, netK (instF c d).sup.length ((instF c d).arcs ++ roundA K K) (plusF x (instF c d).arcs.length n ((instF c d).arcs.length + K)) ((instF c d).arcs.length + K) v = netK (instF c d).sup.length ((instF c d).arcs ++ roundA K K) (padF x ((instF c d).arcs.length + K)) ((instF c d).arcs.length + K) v := fun v => by
    rw [netK_add (fun j hj => plusF_getD hj), netK_round k1 k2 o0 o1 K (Nat.le_refl _), Nat.mod_self]
    simp
  have hck : costK ((instF c d).arcs ++ roundA K K) (plusF x (instF c d).arcs.length n ((instF c d).arcs.length + K)) ((instF c d).arcs.length + K) = costK ((instF c d).arcs ++ roundA K K) (padF x ((instF c d).arcs.length + K)) ((instF c d).arcs.length + K) + n * K := by
    rw [costK_add (fun j hj => plusF_getD hj), costK_round o0 o1 K (Nat.le_refl _)]
  refine ⟨⟨p1, p2, p3, p4⟩, by omega, 0, ⟨by omega, ⟨trivial, rfl⟩, by simp [roundA]⟩, fun g hg => ⟨fun h1 => ?_, fun h1 => ?_⟩⟩
  · refine ⟨by omega, ?_, g + 1, by omega, by omega, ?_, ?_⟩
    · rw [List.length_append, roundA_len]; omega
    · rw [w64 (by omega) (by omega)]; omega
    · rw [roundA_succ, List.append_assoc, w64 (by omega) (by omega), tmod_pos (by omega)]
      rfl
  · have eg : g = K := by omega
    subst eg
    refine ⟨0, ⟨by omega, rfl, rfl, rfl, rfl⟩, fun j hj => ⟨fun h2 => ?_, fun h2 => ?_⟩⟩
    · rw [rl] at h2
      have ss : IntKind.i64.wrap ((j : Int) + 1) = ((j + 1 : Nat) : Int) := by rw [w64 (by omega) (by omega)]; omega
      have fin : ∀ a s : Int, a = x.getD j 0 → (s = x.getD j 0 + if (instF c d).arcs.length ≤ j then n else 0) → (plusF x (instF c d).arcs.length n j).length + 1 ≤ 1000000000 ∧ ∃ g', g' ≤ (instF c d).arcs.length + g ∧ (instF c d).arcs.length + g - g' < (instF c d).arcs.length + g - j ∧ IntKind.i64.wrap ((j : Int) + 1) = ((g' : Nat) : Int) ∧ plusF x (instF c d).arcs.length n j ++ [s] = plusF x (instF c d).arcs.length n g' ∧ padF x j ++ [a] = padF x g' := by
        intro a s ha hs
        subst ha; subst hs
        exact ⟨by rw [plusF_len]; omega, j + 1, by omega, by omega, ss, (plusF_succ ..).symm, (padF_succ ..).symm⟩
      have bx := p5.getD j
      refine ⟨fun hx => ⟨by omega, by omega, fun a ha => ⟨by rw [padF_len]; omega, fun h3 => ?_, fun h3 => ?_⟩⟩, fun hx => ⟨by rw [padF_len]; omega, fun h3 => ?_, fun h3 => ?_⟩⟩
      · have ea : x.getD j 0 = a := by rw [List.getD_eq_getElem?_getD, ha]; rfl
        exact fin _ _ (by simp only [wrapI64]; omega) (by rw [if_pos (by omega)]; simp only [wrapI64]; omega)
      · have ea : x.getD j 0 = a := by rw [List.getD_eq_getElem?_getD, ha]; rfl
        exact fin _ _ (by simp only [wrapI64]; omega) (by rw [if_neg (by omega)]; simp only [wrapI64]; omega)
      · have ea : x.getD j 0 = 0 := by rw [List.getD_eq_getElem?_getD, List.getElem?_eq_none (by omega)]; rfl
        exact fin _ _ (by omega) (by rw [if_pos (by omega)]; simp only [wrapI64]; omega)
      · have ea : x.getD j 0 = 0 := by rw [List.getD_eq_getElem?_getD, List.getElem?_eq_none (by omega)]; rfl
        exact fin _ _ (by omega) (by rw [if_neg (by omega)]; omega)
    · rw [rl] at h2
      have ej : j = (instF c d).arcs.length + g := by omega
      subst ej
      refine ⟨⟨by omega, by omega, padF_A64 p5 _⟩, ⟨by omega, by omega, pA _⟩, fun h => h (by simp only [netF_len]), fun _ => ⟨fun h => h (by simp only [netF_len]), fun _ => ⟨0, ⟨by omega, rfl, rfl, rfl, rfl, rfl⟩, fun v hv => ⟨fun h3 => ?_, fun h3 => ?_⟩⟩⟩⟩
      · refine ⟨by simp only [netF_len]; omega, by simp only [netF_len]; omega, fun w1 e1 => ?_⟩
        obtain ⟨_, rfl⟩ := map_range_get e1
        refine ⟨by simp only [netF_len]; omega, by simp only [netF_len]; omega, fun w2 e2 => ?_⟩
        obtain ⟨_, rfl⟩ := map_range_get e2
        refine ⟨fun h => h ?_, fun _ => ⟨v + 1, by omega, by omega, ?_⟩⟩
        · dsimp only
          rw [rl, hnk]
        · rw [w64 (by omega) (by omega)]; omega
      · refine ⟨⟨pA _, cA, by omega⟩, ⟨padF_A64 p5 _, cA, by omega⟩, ⟨by unfold I64; omega, by unfold I64; omega⟩, ⟨W_ok _, W_ok _⟩, ?_⟩
        rw [wplus_W]
        unfold costF
        dsimp only
        rw [rl, hck]

theorem FlowRound_ok : SpecOk Try.prog FlowRound_n true (specOf true FlowRound_fs) :=
  spec_ok' TT_ok (show GsOk Try.prog FlowRound_g from gsOk_cons Inst_ok (gsOk_cons Net_ok (gsOk_cons known9_ok (gsOk_cons Cost_ok (gsOk_cons Plus_ok (gsOk_cons Times_ok (gsOk_nil))))))) mixedOrders Try.func12 rfl rfl (by kernel_rfl) (n := 5) (by decide +kernel) (A := FlowRound_A)
    (fun args h r hr => by
      unfold FlowRound_fs at hr
      split at hr
      · rename_i n m ty0 c ty1 d ty2 x; cases hr; refine ⟨rfl, fun hp => ?_⟩; have hE := FlowRound_E c d x n m ty0 ty1 ty2 hp; exact hE
      · cases hr)

end Go.Proofs.Ytnoocfcmlilffaa
