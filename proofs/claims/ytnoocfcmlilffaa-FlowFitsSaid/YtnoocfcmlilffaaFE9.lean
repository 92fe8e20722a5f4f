/-
  CONTRACTS, PROVED: FlowSums, FlowFits, FlowRound.
-/
import Derived.Test.YtnoocfcmlilffaaFC9
import Derived.Test.YtnoocfcmlilffaaDE9
import Derived.Test.YtnoocfcmlilffaaAid
set_option linter.unusedVariables false
set_option linter.all false
set_option linter.unusedSimpArgs false
set_option maxRecDepth 100000
namespace Go.Proofs.Ytnoocfcmlilffaa
open Go Go.RowKit Go.Ql Go.Vc

def FlowSums_E0 (c : List Int) (d : List Int) (x : List Int) (y : List Int) (ty0 ty1 ty2 ty3 : TypeId) : Prop :=
      (Bytes c ∧ Bytes d ∧ c.length ≤ maxLen ∧ d.length ≤ maxLen) ∧
        ∃ (g0 : Nat),
          (g0 ≤ (instF c d).arcs.length ∧
              (True ∧ True ∧ (0 : Nat) = (0 : Nat) ∧ True ∧ True ∧ True ∧ (0 : Int) = (↑g0 : Int) ∧ True) ∧
                [] = bothF x y g0 ∧
                  [] = padF y g0 ∧ [] = padF x g0 ∧ (True ∧ True ∧ True) ∧ (instF c d).sup = (instF c d).sup ∧ (instF c d).arcs = (instF c d).arcs ∧ x = x ∧ y = y ∧ True) ∧
            ∀ (g : Nat),
              g ≤ (instF c d).arcs.length →
                (decide ((↑g : Int) < (↑(instF c d).arcs.length : Int)) = true →
                    (decide ((↑g : Int) < (↑x.length : Int)) = true →
                        ((0 : Int) ≤ (↑g : Int) ∧ (↑g : Int) < (↑x.length : Int)) ∧
                          (↑g : Int).toNat < x.length ∧
                            ∀ (x_1 : Int),
                              x[(↑g : Int).toNat]? = some x_1 →
                                (decide ((↑g : Int) < (↑y.length : Int)) = true →
                                    ((0 : Int) ≤ (↑g : Int) ∧ (↑g : Int) < (↑y.length : Int)) ∧
                                      (↑g : Int).toNat < y.length ∧
                                        ∀ (x_2 : Int),
                                          y[(↑g : Int).toNat]? = some x_2 →
                                            (padF x g).length + (1 : Nat) ≤ (1000000000 : Nat) ∧
                                              (padF y g).length + (1 : Nat) ≤ (1000000000 : Nat) ∧
                                                (bothF x y g).length + (1 : Nat) ≤ (1000000000 : Nat) ∧
                                                  ∃ (g' : Nat),
                                                    g' ≤ (instF c d).arcs.length ∧
                                                      (instF c d).arcs.length - g' < (instF c d).arcs.length - g ∧
                                                        (True ∧ True ∧ (0 : Nat) = (0 : Nat) ∧ True ∧ True ∧ True ∧ IntKind.i64.wrap ((↑g : Int) + (1 : Int)) = (↑g' : Int) ∧ True) ∧
                                                          bothF x y g ++ [IntKind.i64.wrap (IntKind.i64.wrap x_1 + IntKind.i64.wrap x_2)] = bothF x y g' ∧
                                                            padF y g ++ [IntKind.i64.wrap x_2] = padF y g' ∧
                                                              padF x g ++ [IntKind.i64.wrap x_1] = padF x g' ∧
                                                                (True ∧ True ∧ True) ∧ (instF c d).sup = (instF c d).sup ∧ (instF c d).arcs = (instF c d).arcs ∧ x = x ∧ y = y ∧ True) ∧
                                  (decide ((↑g : Int) < (↑y.length : Int)) = false →
                                    (padF x g).length + (1 : Nat) ≤ (1000000000 : Nat) ∧
                                      (padF y g).length + (1 : Nat) ≤ (1000000000 : Nat) ∧
                                        (bothF x y g).length + (1 : Nat) ≤ (1000000000 : Nat) ∧
                                          ∃ (g' : Nat),
                                            g' ≤ (instF c d).arcs.length ∧
                                              (instF c d).arcs.length - g' < (instF c d).arcs.length - g ∧
                                                (True ∧ True ∧ (0 : Nat) = (0 : Nat) ∧ True ∧ True ∧ True ∧ IntKind.i64.wrap ((↑g : Int) + (1 : Int)) = (↑g' : Int) ∧ True) ∧
                                                  bothF x y g ++ [IntKind.i64.wrap (IntKind.i64.wrap x_1 + (0 : Int))] = bothF x y g' ∧
                                                    padF y g ++ [(0 : Int)] = padF y g' ∧
                                                      padF x g ++ [IntKind.i64.wrap x_1] = padF x g' ∧
                                                        (True ∧ True ∧ True) ∧ (instF c d).sup = (instF c d).sup ∧ (instF c d).arcs = (instF c d).arcs ∧ x = x ∧ y = y ∧ True)) ∧
                      (decide ((↑g : Int) < (↑x.length : Int)) = false →
                        (decide ((↑g : Int) < (↑y.length : Int)) = true →
                            ((0 : Int) ≤ (↑g : Int) ∧ (↑g : Int) < (↑y.length : Int)) ∧
                              (↑g : Int).toNat < y.length ∧
                                ∀ (x_1 : Int),
                                  y[(↑g : Int).toNat]? = some x_1 →
                                    (padF x g).length + (1 : Nat) ≤ (1000000000 : Nat) ∧
                                      (padF y g).length + (1 : Nat) ≤ (1000000000 : Nat) ∧
                                        (bothF x y g).length + (1 : Nat) ≤ (1000000000 : Nat) ∧
                                          ∃ (g' : Nat),
                                            g' ≤ (instF c d).arcs.length ∧
                                              (instF c d).arcs.length - g' < (instF c d).arcs.length - g ∧
                                                (True ∧ True ∧ (0 : Nat) = (0 : Nat) ∧ True ∧ True ∧ True ∧ IntKind.i64.wrap ((↑g : Int) + (1 : Int)) = (↑g' : Int) ∧ True) ∧
                                                  bothF x y g ++ [IntKind.i64.wrap ((0 : Int) + IntKind.i64.wrap x_1)] = bothF x y g' ∧
                                                    padF y g ++ [IntKind.i64.wrap x_1] = padF y g' ∧
                                                      padF x g ++ [(0 : Int)] = padF x g' ∧
                                                        (True ∧ True ∧ True) ∧ (instF c d).sup = (instF c d).sup ∧ (instF c d).arcs = (instF c d).arcs ∧ x = x ∧ y = y ∧ True) ∧
                          (decide ((↑g : Int) < (↑y.length : Int)) = false →
                            (padF x g).length + (1 : Nat) ≤ (1000000000 : Nat) ∧
                              (padF y g).length + (1 : Nat) ≤ (1000000000 : Nat) ∧
                                (bothF x y g).length + (1 : Nat) ≤ (1000000000 : Nat) ∧
                                  ∃ (g' : Nat),
                                    g' ≤ (instF c d).arcs.length ∧
                                      (instF c d).arcs.length - g' < (instF c d).arcs.length - g ∧
                                        (True ∧ True ∧ (0 : Nat) = (0 : Nat) ∧ True ∧ True ∧ True ∧ IntKind.i64.wrap ((↑g : Int) + (1 : Int)) = (↑g' : Int) ∧ True) ∧
                                          bothF x y g ++ [IntKind.i64.wrap ((0 : Int) + (0 : Int))] = bothF x y g' ∧
                                            padF y g ++ [(0 : Int)] = padF y g' ∧
                                              padF x g ++ [(0 : Int)] = padF x g' ∧
                                                (True ∧ True ∧ True) ∧ (instF c d).sup = (instF c d).sup ∧ (instF c d).arcs = (instF c d).arcs ∧ x = x ∧ y = y ∧ True))) ∧
                  (decide ((↑g : Int) < (↑(instF c d).arcs.length : Int)) = false →
                    ((instF c d).sup.length ≤ (10000 : Nat) ∧ (instF c d).arcs.length ≤ (10000 : Nat) ∧ A64 (padF x g)) ∧
                      ((instF c d).sup.length ≤ (10000 : Nat) ∧ (instF c d).arcs.length ≤ (10000 : Nat) ∧ A64 (padF y g)) ∧
                        ((instF c d).sup.length ≤ (10000 : Nat) ∧ (instF c d).arcs.length ≤ (10000 : Nat) ∧ A64 (bothF x y g)) ∧
                          (((↑(netF (instF c d) (padF x g)).length : Int) != (↑(instF c d).sup.length : Int)) = true → (false = true ∧ True) ∧ True) ∧
                            (((↑(netF (instF c d) (padF x g)).length : Int) != (↑(instF c d).sup.length : Int)) = false →
                              (((↑(netF (instF c d) (padF y g)).length : Int) != (↑(netF (instF c d) (padF x g)).length : Int)) = true → (false = true ∧ True) ∧ True) ∧
                                (((↑(netF (instF c d) (padF y g)).length : Int) != (↑(netF (instF c d) (padF x g)).length : Int)) = false →
                                  (((↑(netF (instF c d) (bothF x y g)).length : Int) != (↑(netF (instF c d) (padF x g)).length : Int)) = true → (false = true ∧ True) ∧ True) ∧
                                    (((↑(netF (instF c d) (bothF x y g)).length : Int) != (↑(netF (instF c d) (padF x g)).length : Int)) = false →
                                      ∃ (g0 : Nat),
                                        (g0 ≤ (instF c d).sup.length ∧
                                            ((0 : Nat) = (0 : Nat) ∧ True ∧ True ∧ True ∧ True ∧ True ∧ True ∧ (0 : Nat) = (0 : Nat) ∧ (0 : Int) = (↑g0 : Int) ∧ True) ∧
                                              ((0 : Int) =
                                                    (W
                                                        (sumTo
                                                          (fun (v : Nat) =>
                                                            netK (↑(instF c d).sup.length : Int) (instF c d).arcs (padF x (instF c d).arcs.length) (instF c d).arcs.length (↑v : Int))
                                                          g0)).hi ∧
                                                  (0 : Int) =
                                                      (W
                                                          (sumTo
                                                            (fun (v : Nat) =>
                                                              netK (↑(instF c d).sup.length : Int) (instF c d).arcs (padF x (instF c d).arcs.length) (instF c d).arcs.length (↑v : Int))
                                                            g0)).lo ∧
                                                    True) ∧
                                                netF (instF c d) (bothF x y g) = netF (instF c d) (bothF x y (instF c d).arcs.length) ∧
                                                  netF (instF c d) (padF y g) = netF (instF c d) (padF y (instF c d).arcs.length) ∧
                                                    netF (instF c d) (padF x g) = netF (instF c d) (padF x (instF c d).arcs.length) ∧
                                                      bothF x y g = bothF x y (instF c d).arcs.length ∧
                                                        padF y g = padF y (instF c d).arcs.length ∧
                                                          padF x g = padF x (instF c d).arcs.length ∧
                                                            (True ∧ True ∧ True) ∧ (instF c d).sup = (instF c d).sup ∧ (instF c d).arcs = (instF c d).arcs ∧ True) ∧
                                          ∀ (g : Nat),
                                            g ≤ (instF c d).sup.length →
                                              (decide ((↑g : Int) < (↑(netF (instF c d) (padF x (instF c d).arcs.length)).length : Int)) = true →
                                                  ((0 : Int) ≤ (↑g : Int) ∧ (↑g : Int) < (↑(netF (instF c d) (padF x (instF c d).arcs.length)).length : Int)) ∧
                                                    (↑g : Int).toNat < (netF (instF c d) (padF x (instF c d).arcs.length)).length ∧
                                                      ∀ (x_1 : Wide),
                                                        (netF (instF c d) (padF x (instF c d).arcs.length))[(↑g : Int).toNat]? = some x_1 →
                                                          ((W
                                                                  (sumTo
                                                                    (fun (v : Nat) =>
                                                                      netK (↑(instF c d).sup.length : Int) (instF c d).arcs (padF x (instF c d).arcs.length) (instF c d).arcs.length
                                                                        (↑v : Int))
                                                                    g)).ok ∧
                                                              x_1.ok) ∧
                                                            ((0 : Int) ≤ (↑g : Int) ∧ (↑g : Int) < (↑(netF (instF c d) (bothF x y (instF c d).arcs.length)).length : Int)) ∧
                                                              (↑g : Int).toNat < (netF (instF c d) (bothF x y (instF c d).arcs.length)).length ∧
                                                                ∀ (x_2 : Wide),
                                                                  (netF (instF c d) (bothF x y (instF c d).arcs.length))[(↑g : Int).toNat]? = some x_2 →
                                                                    ((0 : Int) ≤ (↑g : Int) ∧ (↑g : Int) < (↑(netF (instF c d) (padF x (instF c d).arcs.length)).length : Int)) ∧
                                                                      (↑g : Int).toNat < (netF (instF c d) (padF x (instF c d).arcs.length)).length ∧
                                                                        ∀ (x_3 : Wide),
                                                                          (netF (instF c d) (padF x (instF c d).arcs.length))[(↑g : Int).toNat]? = some x_3 →
                                                                            ((0 : Int) ≤ (↑g : Int) ∧ (↑g : Int) < (↑(netF (instF c d) (padF y (instF c d).arcs.length)).length : Int)) ∧
                                                                              (↑g : Int).toNat < (netF (instF c d) (padF y (instF c d).arcs.length)).length ∧
                                                                                ∀ (x_4 : Wide),
                                                                                  (netF (instF c d) (padF y (instF c d).arcs.length))[(↑g : Int).toNat]? = some x_4 →
                                                                                    (x_3.ok ∧ x_4.ok) ∧
                                                                                      ((!decide ([x_2.hi, x_2.lo] = [(wplus x_3 x_4).hi, (wplus x_3 x_4).lo])) = true →
                                                                                          (false = true ∧ True) ∧ True) ∧
                                                                                        ((!decide ([x_2.hi, x_2.lo] = [(wplus x_3 x_4).hi, (wplus x_3 x_4).lo])) = false →
                                                                                          ∃ (g' : Nat),
                                                                                            g' ≤ (instF c d).sup.length ∧
                                                                                              (instF c d).sup.length - g' < (instF c d).sup.length - g ∧
                                                                                                ((0 : Nat) = (0 : Nat) ∧
                                                                                                    True ∧
                                                                                                      True ∧
                                                                                                        True ∧
                                                                                                          True ∧
                                                                                                            True ∧
                                                                                                              True ∧
                                                                                                                (0 : Nat) = (0 : Nat) ∧
                                                                                                                  IntKind.i64.wrap ((↑g : Int) + (1 : Int)) = (↑g' : Int) ∧ True) ∧
                                                                                                  ((wplus
                                                                                                            (W
                                                                                                              (sumTo
                                                                                                                (fun (v : Nat) =>
                                                                                                                  netK (↑(instF c d).sup.length : Int) (instF c d).arcs
                                                                                                                    (padF x (instF c d).arcs.length) (instF c d).arcs.length (↑v : Int))
                                                                                                                g))
                                                                                                            x_1).hi =
                                                                                                        (W
                                                                                                            (sumTo
                                                                                                              (fun (v : Nat) =>
                                                                                                                netK (↑(instF c d).sup.length : Int) (instF c d).arcs
                                                                                                                  (padF x (instF c d).arcs.length) (instF c d).arcs.length (↑v : Int))
                                                                                                              g')).hi ∧
                                                                                                      (wplus
                                                                                                              (W
                                                                                                                (sumTo
                                                                                                                  (fun (v : Nat) =>
                                                                                                                    netK (↑(instF c d).sup.length : Int) (instF c d).arcs
                                                                                                                      (padF x (instF c d).arcs.length) (instF c d).arcs.length (↑v : Int))
                                                                                                                  g))
                                                                                                              x_1).lo =
                                                                                                          (W
                                                                                                              (sumTo
                                                                                                                (fun (v : Nat) =>
                                                                                                                  netK (↑(instF c d).sup.length : Int) (instF c d).arcs
                                                                                                                    (padF x (instF c d).arcs.length) (instF c d).arcs.length (↑v : Int))
                                                                                                                g')).lo ∧
                                                                                                        True) ∧
                                                                                                    netF (instF c d) (bothF x y (instF c d).arcs.length) =
                                                                                                        netF (instF c d) (bothF x y (instF c d).arcs.length) ∧
                                                                                                      netF (instF c d) (padF y (instF c d).arcs.length) =
                                                                                                          netF (instF c d) (padF y (instF c d).arcs.length) ∧
                                                                                                        netF (instF c d) (padF x (instF c d).arcs.length) =
                                                                                                            netF (instF c d) (padF x (instF c d).arcs.length) ∧
                                                                                                          bothF x y (instF c d).arcs.length = bothF x y (instF c d).arcs.length ∧
                                                                                                            padF y (instF c d).arcs.length = padF y (instF c d).arcs.length ∧
                                                                                                              padF x (instF c d).arcs.length = padF x (instF c d).arcs.length ∧
                                                                                                                (True ∧ True ∧ True) ∧
                                                                                                                  (instF c d).sup = (instF c d).sup ∧
                                                                                                                    (instF c d).arcs = (instF c d).arcs ∧ True)) ∧
                                                (decide ((↑g : Int) < (↑(netF (instF c d) (padF x (instF c d).arcs.length)).length : Int)) = false →
                                                  True ∧
                                                    (true = true →
                                                        I64 (0 : Int) ∧
                                                          (decide
                                                                  ([(W
                                                                          (sumTo
                                                                            (fun (v : Nat) =>
                                                                              netK (↑(instF c d).sup.length : Int) (instF c d).arcs (padF x (instF c d).arcs.length)
                                                                                (instF c d).arcs.length (↑v : Int))
                                                                            g)).hi,
                                                                      (W
                                                                          (sumTo
                                                                            (fun (v : Nat) =>
                                                                              netK (↑(instF c d).sup.length : Int) (instF c d).arcs (padF x (instF c d).arcs.length)
                                                                                (instF c d).arcs.length (↑v : Int))
                                                                            g)).lo] =
                                                                    [(W (0 : Int)).hi, (W (0 : Int)).lo]) =
                                                                true →
                                                              (A64 (bothF x y (instF c d).arcs.length) ∧ A64c (instF c d).arcs ∧ (instF c d).arcs.length ≤ (1000000 : Nat)) ∧
                                                                (A64 (padF x (instF c d).arcs.length) ∧ A64c (instF c d).arcs ∧ (instF c d).arcs.length ≤ (1000000 : Nat)) ∧
                                                                  (A64 (padF y (instF c d).arcs.length) ∧ A64c (instF c d).arcs ∧ (instF c d).arcs.length ≤ (1000000 : Nat)) ∧
                                                                    ((W (costF (instF c d) (padF x (instF c d).arcs.length))).ok ∧
                                                                        (W (costF (instF c d) (padF y (instF c d).arcs.length))).ok) ∧
                                                                      (decide
                                                                              ([(W (costF (instF c d) (bothF x y (instF c d).arcs.length))).hi,
                                                                                  (W (costF (instF c d) (bothF x y (instF c d).arcs.length))).lo] =
                                                                                [(wplus (W (costF (instF c d) (padF x (instF c d).arcs.length)))
                                                                                      (W (costF (instF c d) (padF y (instF c d).arcs.length)))).hi,
                                                                                  (wplus (W (costF (instF c d) (padF x (instF c d).arcs.length)))
                                                                                      (W (costF (instF c d) (padF y (instF c d).arcs.length)))).lo]) =
                                                                            true ∧
                                                                          True) ∧
                                                                        True) ∧
                                                            (decide
                                                                  ([(W
                                                                          (sumTo
                                                                            (fun (v : Nat) =>
                                                                              netK (↑(instF c d).sup.length : Int) (instF c d).arcs (padF x (instF c d).arcs.length)
                                                                                (instF c d).arcs.length (↑v : Int))
                                                                            g)).hi,
                                                                      (W
                                                                          (sumTo
                                                                            (fun (v : Nat) =>
                                                                              netK (↑(instF c d).sup.length : Int) (instF c d).arcs (padF x (instF c d).arcs.length)
                                                                                (instF c d).arcs.length (↑v : Int))
                                                                            g)).lo] =
                                                                    [(W (0 : Int)).hi, (W (0 : Int)).lo]) =
                                                                false →
                                                              (false = true ∧ True) ∧ True)) ∧
                                                      (true = false → (false = true ∧ True) ∧ True))))))
theorem FlowSums_q (c : List Int) (d : List Int) (x : List Int) (y : List Int) (ty0 ty1 ty2 ty3 : TypeId) : FlowSums_E0 c d x y ty0 ty1 ty2 ty3 = FVcP TT FlowSums_g (FlowSums_an c d x y) Try.f10 [.row 0, .row 1, .row 2, .row 3] [(0, .row false ty0 (.ints .u8 c)), (1, .row false ty1 (.ints .u8 d)), (2, .row false ty2 (.ints .i32 x)), (3, .row false ty3 (.ints .i32 y))] (FlowSums_r c d x y) := by kernel_rfl
theorem FlowSums_E (c : List Int) (d : List Int) (x : List Int) (y : List Int) (ty0 ty1 ty2 ty3 : TypeId) (hp : Bytes c ∧ Bytes d ∧ c.length ≤ maxLen ∧ d.length ≤ maxLen ∧ A32 x ∧ A32 y) : FVc TT FlowSums_g (FlowSums_an c d x y) Try.f10 [.row 0, .row 1, .row 2, .row 3] [(0, .row false ty0 (.ints .u8 c)), (1, .row false ty1 (.ints .u8 d)), (2, .row false ty2 (.ints .i32 x)), (3, .row false ty3 (.ints .i32 y))] (FlowSums_r c d x y) := by
  refine FVc.of (FlowSums_E0 c d x y ty0 ty1 ty2 ty3) (FlowSums_q c d x y ty0 ty1 ty2 ty3) ?_
  unfold FlowSums_E0
  obtain ⟨p1, p2, p3, p4, p5, p6⟩ := hp
  have l1 := instF_sup c d
  have l2 := nOf_pos d
  have l3 := nOf_le d
  have l4 := instF_arcs c d
  have q1 := instF_A64 c d
  have q2 := instF_A64a c d
  have q3 := instF_A64c c d
  have q4 := instF_L42 c d
  have q5 := flowF_A64 c d d
  have q6 := flowF_len (instF c d) d
  have q7 := flowF_mem c d d
  simp only [eq_self, exists_const, forall_const, decide_eq_true_eq, decide_eq_false_iff_not, and_true, true_and, bne_iff_ne, ne_eq, bne_eq_false_iff_eq, Int.toNat_natCast, Bool.not_eq_true', Bool.not_eq_false', beq_iff_eq, beq_eq_false_iff_ne, nilEq_true]
  simp only [false_implies, reduceCtorEq, Bool.not_true, Bool.true_eq_false, Bool.false_eq_true, implies_true, and_true, true_and]
  refine ⟨⟨p1, p2, p3, p4⟩, 0, ⟨by omega, rfl, rfl, rfl, rfl⟩, fun g hg => ⟨fun h1 => ?_, fun h1 => ?_⟩⟩
  · have ss : IntKind.i64.wrap ((g : Int) + 1) = ((g + 1 : Nat) : Int) := by rw [w64 (by omega) (by omega)]; omega
    have fin : ∀ a b s : Int, a = x.getD g 0 → b = y.getD g 0 → s = x.getD g 0 + y.getD g 0 → (padF x g).length + 1 ≤ 1000000000 ∧ (padF y g).length + 1 ≤ 1000000000 ∧ (bothF x y g).length + 1 ≤ 1000000000 ∧ ∃ g', g' ≤ (instF c d).arcs.length ∧ (instF c d).arcs.length - g' < (instF c d).arcs.length - g ∧ IntKind.i64.wrap ((g : Int) + 1) = ((g' : Nat) : Int) ∧ bothF x y g ++ [s] = bothF x y g' ∧ padF y g ++ [b] = padF y g' ∧ padF x g ++ [a] = padF x g' := by
      intro a b s ha hb hs
      subst ha; subst hb; subst hs
      exact ⟨by rw [padF_len]; omega, by rw [padF_len]; omega, by rw [bothF_len]; omega, g + 1, by omega, by omega, ss, (bothF_succ ..).symm, (padF_succ ..).symm, (padF_succ ..).symm⟩
    have bx := p5.getD g
    have bY := p6.getD g
    have inn : ∀ {l : List Int} {a : Int}, l[g]? = some a → l.getD g 0 = a := fun h => by rw [List.getD_eq_getElem?_getD, h]; rfl
    have out : ∀ {l : List Int}, ¬ (g : Int) < l.length → l.getD g 0 = 0 := fun h => by rw [List.getD_eq_getElem?_getD, List.getElem?_eq_none (by omega)]; rfl
    refine ⟨fun hx => ⟨by omega, by omega, fun a ha => ⟨fun hy => ⟨by omega, by omega, fun b hb => ?_⟩, fun hy => ?_⟩⟩, fun hx => ⟨fun hy => ⟨by omega, by omega, fun b hb => ?_⟩, fun hy => ?_⟩⟩
    · have ea := inn ha; have eb := inn hb
      exact fin _ _ _ (by simp only [wrapI64]; omega) (by simp only [wrapI64]; omega) (by simp only [wrapI64]; omega)
    · have ea := inn ha; have eb := out hy
      exact fin _ _ _ (by simp only [wrapI64]; omega) (by omega) (by simp only [wrapI64]; omega)
    · have ea := out hx; have eb := inn hb
      exact fin _ _ _ (by omega) (by simp only [wrapI64]; omega) (by simp only [wrapI64]; omega)
    · have ea := out hx; have eb := out hy
      exact fin _ _ _ (by omega) (by omega) (by simp only [wrapI64]; omega)
  · have eg : g = (instF c d).arcs.length := by omega
    subst eg
    refine ⟨⟨by omega, by omega, padF_A64 p5 _⟩, ⟨by omega, by omega, padF_A64 p6 _⟩, ⟨by omega, by omega, bothF_A64 p5 p6 _⟩, fun h => h (by simp only [netF_len]), fun _ => ⟨fun h => h (by simp only [netF_len]), fun _ => ⟨fun h => h (by simp only [netF_len]), fun _ => ⟨0, ⟨by omega, rfl, ⟨by show (0 : Int) = (W 0).hi; rw [W_zero], by show (0 : Int) = (W 0).lo; rw [W_zero]⟩, rfl, rfl, rfl, rfl, rfl, rfl⟩, fun g hg => ⟨fun h1 => ?_, fun h1 => ?_⟩⟩⟩⟩⟩
    · rw [netF_len] at h1
      have ss : IntKind.i64.wrap ((g : Int) + 1) = ((g + 1 : Nat) : Int) := by rw [w64 (by omega) (by omega)]; omega
      refine ⟨by simp only [netF_len]; omega, by simp only [netF_len]; omega, fun w1 e1 => ?_⟩
      obtain ⟨_, rfl⟩ := netAt_get (k := (instF c d).arcs.length) e1
      refine ⟨⟨W_ok _, W_ok _⟩, by simp only [netF_len]; omega, by simp only [netF_len]; omega, fun w2 e2 => ?_⟩
      obtain ⟨_, rfl⟩ := netAt_get (k := (instF c d).arcs.length) e2
      refine ⟨by simp only [netF_len]; omega, by simp only [netF_len]; omega, fun w3 e3 => ?_⟩
      obtain ⟨_, rfl⟩ := netAt_get (k := (instF c d).arcs.length) e3
      refine ⟨by simp only [netF_len]; omega, by simp only [netF_len]; omega, fun w4 e4 => ?_⟩
      obtain ⟨_, rfl⟩ := netAt_get (k := (instF c d).arcs.length) e4
      have hsum : netK (instF c d).sup.length (instF c d).arcs (bothF x y (instF c d).arcs.length) (instF c d).arcs.length g = _ := netK_add (fun j hj => bothF_getD hj)
      refine ⟨⟨W_ok _, W_ok _⟩, fun h => h ?_, fun _ => ⟨g + 1, by omega, by omega, ss, ?_⟩⟩
      · rw [wplus_W, hsum]
      · rw [wplus_W]; exact ⟨rfl, rfl⟩
    · rw [netF_len] at h1
      have eg : g = (instF c d).sup.length := by omega
      subst eg
      have hcost : costF (instF c d) (bothF x y (instF c d).arcs.length) = costF (instF c d) (padF x (instF c d).arcs.length) + costF (instF c d) (padF y (instF c d).arcs.length) := costK_add (fun j hj => bothF_getD hj)
      refine ⟨by unfold I64; omega, fun _ => ⟨⟨bothF_A64 p5 p6 _, q3, by omega⟩, ⟨padF_A64 p5 _, q3, by omega⟩, ⟨padF_A64 p6 _, q3, by omega⟩, ⟨W_ok _, W_ok _⟩, ?_⟩, fun h => h ?_⟩
      · rw [wplus_W, hcost]
      · rw [netK_sum]

theorem FlowSums_ok : SpecOk Try.prog FlowSums_n true (specOf true FlowSums_fs) :=
  spec_ok' TT_ok (show GsOk Try.prog FlowSums_g from gsOk_cons Inst_ok (gsOk_cons Net_ok (gsOk_cons Plus_ok (gsOk_cons known9_ok (gsOk_cons Of_ok (gsOk_cons Cost_ok (gsOk_nil))))))) mixedOrders Try.func10 rfl rfl (by kernel_rfl) (n := 4) (by decide +kernel) (A := FlowSums_A)
    (fun args h r hr => by
      unfold FlowSums_fs at hr
      split at hr
      · rename_i ty0 c ty1 d ty2 x ty3 y; cases hr; refine ⟨rfl, fun hp => ?_⟩; have hE := FlowSums_E c d x y ty0 ty1 ty2 ty3 hp; exact hE
      · cases hr)

def FlowFits_E0 (c : List Int) (d : List Int) (k : Int) (ty0 ty1 : TypeId) : Prop :=
      (Bytes c ∧ Bytes d ∧ c.length ≤ maxLen ∧ d.length ≤ maxLen) ∧
        (Bytes d ∧ (instF c d).arcs.length ≤ (1000000 : Nat) ∧ L42 (instF c d).arcs) ∧
          ((instF c d).sup.length ≤ (10000 : Nat) ∧ (instF c d).arcs.length ≤ (10000 : Nat) ∧ A64 (flowF (instF c d) d) ∧ A64 (instF c d).sup) ∧
            ((fitsF (instF c d) (flowF (instF c d) d) != (0 : Int)) = true → True ∧ (true = true ∧ True) ∧ True) ∧
              ((fitsF (instF c d) (flowF (instF c d) d) != (0 : Int)) = false →
                (((↑(flowF (instF c d) d).length : Int) == (0 : Int)) = true → True ∧ (true = true ∧ True) ∧ True) ∧
                  (((↑(flowF (instF c d) d).length : Int) == (0 : Int)) = false →
                    (↑(flowF (instF c d) d).length : Int) ≠ (0 : Int) ∧
                      True ∧
                        ((0 : Int) ≤ (IntKind.i64.wrap k).tmod (↑(flowF (instF c d) d).length : Int) ∧
                            (IntKind.i64.wrap k).tmod (↑(flowF (instF c d) d).length : Int) < (↑(instF c d).arcs.length : Int)) ∧
                          ((IntKind.i64.wrap k).tmod (↑(flowF (instF c d) d).length : Int)).toNat < (instF c d).arcs.length ∧
                            ∀ (x : Arc),
                              (instF c d).arcs[((IntKind.i64.wrap k).tmod (↑(flowF (instF c d) d).length : Int)).toNat]? = some x →
                                (0 : Nat) + (flowF (instF c d) d).length ≤ (1000000000 : Nat) ∧
                                  (flowF (instF c d) d).length + (1 : Nat) ≤ (1000000000 : Nat) ∧
                                    (0 : Nat) + (flowF (instF c d) d).length ≤ (1000000000 : Nat) ∧
                                      ((0 : Int) ≤ (IntKind.i64.wrap k).tmod (↑(flowF (instF c d) d).length : Int) ∧
                                          (IntKind.i64.wrap k).tmod (↑(flowF (instF c d) d).length : Int) < (↑(flowF (instF c d) d).length : Int)) ∧
                                        ((IntKind.i64.wrap k).tmod (↑(flowF (instF c d) d).length : Int)).toNat < (flowF (instF c d) d).length ∧
                                          ∀ (x_1 : Int),
                                            (flowF (instF c d) d)[((IntKind.i64.wrap k).tmod (↑(flowF (instF c d) d).length : Int)).toNat]? = some x_1 →
                                              ((0 : Int) ≤ (IntKind.i64.wrap k).tmod (↑(flowF (instF c d) d).length : Int) ∧
                                                  (IntKind.i64.wrap k).tmod (↑(flowF (instF c d) d).length : Int) < (↑(flowF (instF c d) d).length : Int)) ∧
                                                ((IntKind.i64.wrap k).tmod (↑(flowF (instF c d) d).length : Int)).toNat < (flowF (instF c d) d).length ∧
                                                  ((instF c d).sup.length ≤ (10000 : Nat) ∧
                                                      (instF c d).arcs.length ≤ (10000 : Nat) ∧
                                                        A64
                                                            ((flowF (instF c d) d).set ((IntKind.i64.wrap k).tmod (↑(flowF (instF c d) d).length : Int)).toNat
                                                              (IntKind.i64.wrap (x_1 + (1 : Int)))) ∧
                                                          A64 (instF c d).sup) ∧
                                                    (((roomF (instF c d) (flowF (instF c d) d) ((IntKind.i64.wrap k).tmod (↑(flowF (instF c d) d).length : Int))).fst == (0 : Int)) =
                                                          true →
                                                        True ∧
                                                          (true = true →
                                                              ((0 : Int) ≤ (IntKind.i64.wrap k).tmod (↑(flowF (instF c d) d).length : Int) ∧
                                                                  (IntKind.i64.wrap k).tmod (↑(flowF (instF c d) d).length : Int) < (↑(flowF (instF c d) d).length : Int)) ∧
                                                                ((IntKind.i64.wrap k).tmod (↑(flowF (instF c d) d).length : Int)).toNat < (flowF (instF c d) d).length ∧
                                                                  ∀ (x_2 : Int),
                                                                    (flowF (instF c d) d)[((IntKind.i64.wrap k).tmod (↑(flowF (instF c d) d).length : Int)).toNat]? = some x_2 →
                                                                      (((roomF (instF c d) (flowF (instF c d) d) ((IntKind.i64.wrap k).tmod (↑(flowF (instF c d) d).length : Int))).snd ==
                                                                              IntKind.i64.wrap (x_2 - x.low)) =
                                                                            true →
                                                                          ((x.cap == (4611686018427387904 : Int)) = true →
                                                                              (((roomF (instF c d) (flowF (instF c d) d)
                                                                                          ((IntKind.i64.wrap k).tmod (↑(flowF (instF c d) d).length : Int))).fst ==
                                                                                      (4611686018427387904 : Int)) =
                                                                                    true →
                                                                                  ((instF c d).sup.length ≤ (10000 : Nat) ∧
                                                                                      (instF c d).arcs.length ≤ (10000 : Nat) ∧
                                                                                        A64 (flowF (instF c d) d ++ [(0 : Int)]) ∧ A64 (instF c d).sup) ∧
                                                                                    ((fitsF (instF c d) (flowF (instF c d) d ++ [(0 : Int)]) == (30 : Int)) = true →
                                                                                        ((fitsF (instF c d)
                                                                                                  ((flowF (instF c d) d).set
                                                                                                    ((IntKind.i64.wrap k).tmod (↑(flowF (instF c d) d).length : Int)).toNat
                                                                                                    (IntKind.i64.wrap (x_1 + (1 : Int)))) ==
                                                                                                (31 : Int)) =
                                                                                              true ∧
                                                                                            True) ∧
                                                                                          True) ∧
                                                                                      ((fitsF (instF c d) (flowF (instF c d) d ++ [(0 : Int)]) == (30 : Int)) = false →
                                                                                        (false = true ∧ True) ∧ True)) ∧
                                                                                (((roomF (instF c d) (flowF (instF c d) d)
                                                                                          ((IntKind.i64.wrap k).tmod (↑(flowF (instF c d) d).length : Int))).fst ==
                                                                                      (4611686018427387904 : Int)) =
                                                                                    false →
                                                                                  ((0 : Int) ≤ (IntKind.i64.wrap k).tmod (↑(flowF (instF c d) d).length : Int) ∧
                                                                                      (IntKind.i64.wrap k).tmod (↑(flowF (instF c d) d).length : Int) <
                                                                                        (↑(flowF (instF c d) d).length : Int)) ∧
                                                                                    ((IntKind.i64.wrap k).tmod (↑(flowF (instF c d) d).length : Int)).toNat <
                                                                                        (flowF (instF c d) d).length ∧
                                                                                      ∀ (x_3 : Int),
                                                                                        (flowF (instF c d) d)[((IntKind.i64.wrap k).tmod (↑(flowF (instF c d) d).length : Int)).toNat]? =
                                                                                            some x_3 →
                                                                                          (((roomF (instF c d) (flowF (instF c d) d)
                                                                                                      ((IntKind.i64.wrap k).tmod (↑(flowF (instF c d) d).length : Int))).fst ==
                                                                                                  IntKind.i64.wrap (x.cap - x_3)) =
                                                                                                true →
                                                                                              ((instF c d).sup.length ≤ (10000 : Nat) ∧
                                                                                                  (instF c d).arcs.length ≤ (10000 : Nat) ∧
                                                                                                    A64 (flowF (instF c d) d ++ [(0 : Int)]) ∧ A64 (instF c d).sup) ∧
                                                                                                ((fitsF (instF c d) (flowF (instF c d) d ++ [(0 : Int)]) == (30 : Int)) = true →
                                                                                                    ((fitsF (instF c d)
                                                                                                              ((flowF (instF c d) d).set
                                                                                                                ((IntKind.i64.wrap k).tmod (↑(flowF (instF c d) d).length : Int)).toNat
                                                                                                                (IntKind.i64.wrap (x_1 + (1 : Int)))) ==
                                                                                                            (31 : Int)) =
                                                                                                          true ∧
                                                                                                        True) ∧
                                                                                                      True) ∧
                                                                                                  ((fitsF (instF c d) (flowF (instF c d) d ++ [(0 : Int)]) == (30 : Int)) = false →
                                                                                                    (false = true ∧ True) ∧ True)) ∧
                                                                                            (((roomF (instF c d) (flowF (instF c d) d)
                                                                                                      ((IntKind.i64.wrap k).tmod (↑(flowF (instF c d) d).length : Int))).fst ==
                                                                                                  IntKind.i64.wrap (x.cap - x_3)) =
                                                                                                false →
                                                                                              (false = true ∧ True) ∧ True))) ∧
                                                                            ((x.cap == (4611686018427387904 : Int)) = false →
                                                                              ((0 : Int) ≤ (IntKind.i64.wrap k).tmod (↑(flowF (instF c d) d).length : Int) ∧
                                                                                  (IntKind.i64.wrap k).tmod (↑(flowF (instF c d) d).length : Int) <
                                                                                    (↑(flowF (instF c d) d).length : Int)) ∧
                                                                                ((IntKind.i64.wrap k).tmod (↑(flowF (instF c d) d).length : Int)).toNat < (flowF (instF c d) d).length ∧
                                                                                  ∀ (x_3 : Int),
                                                                                    (flowF (instF c d) d)[((IntKind.i64.wrap k).tmod (↑(flowF (instF c d) d).length : Int)).toNat]? =
                                                                                        some x_3 →
                                                                                      (((roomF (instF c d) (flowF (instF c d) d)
                                                                                                  ((IntKind.i64.wrap k).tmod (↑(flowF (instF c d) d).length : Int))).fst ==
                                                                                              IntKind.i64.wrap (x.cap - x_3)) =
                                                                                            true →
                                                                                          ((instF c d).sup.length ≤ (10000 : Nat) ∧
                                                                                              (instF c d).arcs.length ≤ (10000 : Nat) ∧
                                                                                                A64 (flowF (instF c d) d ++ [(0 : Int)]) ∧ A64 (instF c d).sup) ∧
                                                                                            ((fitsF (instF c d) (flowF (instF c d) d ++ [(0 : Int)]) == (30 : Int)) = true →
                                                                                                ((fitsF (instF c d)
                                                                                                          ((flowF (instF c d) d).set
                                                                                                            ((IntKind.i64.wrap k).tmod (↑(flowF (instF c d) d).length : Int)).toNat
                                                                                                            (IntKind.i64.wrap (x_1 + (1 : Int)))) ==
                                                                                                        (31 : Int)) =
                                                                                                      true ∧
                                                                                                    True) ∧
                                                                                                  True) ∧
                                                                                              ((fitsF (instF c d) (flowF (instF c d) d ++ [(0 : Int)]) == (30 : Int)) = false →
                                                                                                (false = true ∧ True) ∧ True)) ∧
                                                                                        (((roomF (instF c d) (flowF (instF c d) d)
                                                                                                  ((IntKind.i64.wrap k).tmod (↑(flowF (instF c d) d).length : Int))).fst ==
                                                                                              IntKind.i64.wrap (x.cap - x_3)) =
                                                                                            false →
                                                                                          (false = true ∧ True) ∧ True))) ∧
                                                                        (((roomF (instF c d) (flowF (instF c d) d)
                                                                                  ((IntKind.i64.wrap k).tmod (↑(flowF (instF c d) d).length : Int))).snd ==
                                                                              IntKind.i64.wrap (x_2 - x.low)) =
                                                                            false →
                                                                          (false = true ∧ True) ∧ True)) ∧
                                                            (true = false → (false = true ∧ True) ∧ True)) ∧
                                                      (((roomF (instF c d) (flowF (instF c d) d) ((IntKind.i64.wrap k).tmod (↑(flowF (instF c d) d).length : Int))).fst == (0 : Int)) =
                                                          false →
                                                        ((x.src == x.dst) = true →
                                                            True ∧
                                                              (true = true →
                                                                  ((0 : Int) ≤ (IntKind.i64.wrap k).tmod (↑(flowF (instF c d) d).length : Int) ∧
                                                                      (IntKind.i64.wrap k).tmod (↑(flowF (instF c d) d).length : Int) < (↑(flowF (instF c d) d).length : Int)) ∧
                                                                    ((IntKind.i64.wrap k).tmod (↑(flowF (instF c d) d).length : Int)).toNat < (flowF (instF c d) d).length ∧
                                                                      ∀ (x_2 : Int),
                                                                        (flowF (instF c d) d)[((IntKind.i64.wrap k).tmod (↑(flowF (instF c d) d).length : Int)).toNat]? = some x_2 →
                                                                          (((roomF (instF c d) (flowF (instF c d) d)
                                                                                      ((IntKind.i64.wrap k).tmod (↑(flowF (instF c d) d).length : Int))).snd ==
                                                                                  IntKind.i64.wrap (x_2 - x.low)) =
                                                                                true →
                                                                              ((x.cap == (4611686018427387904 : Int)) = true →
                                                                                  (((roomF (instF c d) (flowF (instF c d) d)
                                                                                              ((IntKind.i64.wrap k).tmod (↑(flowF (instF c d) d).length : Int))).fst ==
                                                                                          (4611686018427387904 : Int)) =
                                                                                        true →
                                                                                      ((instF c d).sup.length ≤ (10000 : Nat) ∧
                                                                                          (instF c d).arcs.length ≤ (10000 : Nat) ∧
                                                                                            A64 (flowF (instF c d) d ++ [(0 : Int)]) ∧ A64 (instF c d).sup) ∧
                                                                                        ((fitsF (instF c d) (flowF (instF c d) d ++ [(0 : Int)]) == (30 : Int)) = true →
                                                                                            ((fitsF (instF c d)
                                                                                                      ((flowF (instF c d) d).set
                                                                                                        ((IntKind.i64.wrap k).tmod (↑(flowF (instF c d) d).length : Int)).toNat
                                                                                                        (IntKind.i64.wrap (x_1 + (1 : Int)))) ==
                                                                                                    (0 : Int)) =
                                                                                                  true ∧
                                                                                                True) ∧
                                                                                              True) ∧
                                                                                          ((fitsF (instF c d) (flowF (instF c d) d ++ [(0 : Int)]) == (30 : Int)) = false →
                                                                                            (false = true ∧ True) ∧ True)) ∧
                                                                                    (((roomF (instF c d) (flowF (instF c d) d)
                                                                                              ((IntKind.i64.wrap k).tmod (↑(flowF (instF c d) d).length : Int))).fst ==
                                                                                          (4611686018427387904 : Int)) =
                                                                                        false →
                                                                                      ((0 : Int) ≤ (IntKind.i64.wrap k).tmod (↑(flowF (instF c d) d).length : Int) ∧
                                                                                          (IntKind.i64.wrap k).tmod (↑(flowF (instF c d) d).length : Int) <
                                                                                            (↑(flowF (instF c d) d).length : Int)) ∧
                                                                                        ((IntKind.i64.wrap k).tmod (↑(flowF (instF c d) d).length : Int)).toNat <
                                                                                            (flowF (instF c d) d).length ∧
                                                                                          ∀ (x_3 : Int),
                                                                                            (flowF (instF c d)
                                                                                                    d)[((IntKind.i64.wrap k).tmod (↑(flowF (instF c d) d).length : Int)).toNat]? =
                                                                                                some x_3 →
                                                                                              (((roomF (instF c d) (flowF (instF c d) d)
                                                                                                          ((IntKind.i64.wrap k).tmod (↑(flowF (instF c d) d).length : Int))).fst ==
                                                                                                      IntKind.i64.wrap (x.cap - x_3)) =
                                                                                                    true →
                                                                                                  ((instF c d).sup.length ≤ (10000 : Nat) ∧
                                                                                                      (instF c d).arcs.length ≤ (10000 : Nat) ∧
                                                                                                        A64 (flowF (instF c d) d ++ [(0 : Int)]) ∧ A64 (instF c d).sup) ∧
                                                                                                    ((fitsF (instF c d) (flowF (instF c d) d ++ [(0 : Int)]) == (30 : Int)) = true →
                                                                                                        ((fitsF (instF c d)
                                                                                                                  ((flowF (instF c d) d).set
                                                                                                                    ((IntKind.i64.wrap k).tmod
                                                                                                                        (↑(flowF (instF c d) d).length : Int)).toNat
                                                                                                                    (IntKind.i64.wrap (x_1 + (1 : Int)))) ==
                                                                                                                (0 : Int)) =
                                                                                                              true ∧
                                                                                                            True) ∧
                                                                                                          True) ∧
                                                                                                      ((fitsF (instF c d) (flowF (instF c d) d ++ [(0 : Int)]) == (30 : Int)) = false →
                                                                                                        (false = true ∧ True) ∧ True)) ∧
                                                                                                (((roomF (instF c d) (flowF (instF c d) d)
                                                                                                          ((IntKind.i64.wrap k).tmod (↑(flowF (instF c d) d).length : Int))).fst ==
                                                                                                      IntKind.i64.wrap (x.cap - x_3)) =
                                                                                                    false →
                                                                                                  (false = true ∧ True) ∧ True))) ∧
                                                                                ((x.cap == (4611686018427387904 : Int)) = false →
                                                                                  ((0 : Int) ≤ (IntKind.i64.wrap k).tmod (↑(flowF (instF c d) d).length : Int) ∧
                                                                                      (IntKind.i64.wrap k).tmod (↑(flowF (instF c d) d).length : Int) <
                                                                                        (↑(flowF (instF c d) d).length : Int)) ∧
                                                                                    ((IntKind.i64.wrap k).tmod (↑(flowF (instF c d) d).length : Int)).toNat <
                                                                                        (flowF (instF c d) d).length ∧
                                                                                      ∀ (x_3 : Int),
                                                                                        (flowF (instF c d) d)[((IntKind.i64.wrap k).tmod (↑(flowF (instF c d) d).length : Int)).toNat]? =
                                                                                            some x_3 →
                                                                                          (((roomF (instF c d) (flowF (instF c d) d)
                                                                                                      ((IntKind.i64.wrap k).tmod (↑(flowF (instF c d) d).length : Int))).fst ==
                                                                                                  IntKind.i64.wrap (x.cap - x_3)) =
                                                                                                true →
                                                                                              ((instF c d).sup.length ≤ (10000 : Nat) ∧
                                                                                                  (instF c d).arcs.length ≤ (10000 : Nat) ∧
                                                                                                    A64 (flowF (instF c d) d ++ [(0 : Int)]) ∧ A64 (instF c d).sup) ∧
                                                                                                ((fitsF (instF c d) (flowF (instF c d) d ++ [(0 : Int)]) == (30 : Int)) = true →
                                                                                                    ((fitsF (instF c d)
                                                                                                              ((flowF (instF c d) d).set
                                                                                                                ((IntKind.i64.wrap k).tmod (↑(flowF (instF c d) d).length : Int)).toNat
                                                                                                                (IntKind.i64.wrap (x_1 + (1 : Int)))) ==
                                                                                                            (0 : Int)) =
                                                                                                          true ∧
                                                                                                        True) ∧
                                                                                                      True) ∧
                                                                                                  ((fitsF (instF c d) (flowF (instF c d) d ++ [(0 : Int)]) == (30 : Int)) = false →
                                                                                                    (false = true ∧ True) ∧ True)) ∧
                                                                                            (((roomF (instF c d) (flowF (instF c d) d)
                                                                                                      ((IntKind.i64.wrap k).tmod (↑(flowF (instF c d) d).length : Int))).fst ==
                                                                                                  IntKind.i64.wrap (x.cap - x_3)) =
                                                                                                false →
                                                                                              (false = true ∧ True) ∧ True))) ∧
                                                                            (((roomF (instF c d) (flowF (instF c d) d)
                                                                                      ((IntKind.i64.wrap k).tmod (↑(flowF (instF c d) d).length : Int))).snd ==
                                                                                  IntKind.i64.wrap (x_2 - x.low)) =
                                                                                false →
                                                                              (false = true ∧ True) ∧ True)) ∧
                                                                (true = false → (false = true ∧ True) ∧ True)) ∧
                                                          ((x.src == x.dst) = false →
                                                            True ∧
                                                              (true = true →
                                                                  ((0 : Int) ≤ (IntKind.i64.wrap k).tmod (↑(flowF (instF c d) d).length : Int) ∧
                                                                      (IntKind.i64.wrap k).tmod (↑(flowF (instF c d) d).length : Int) < (↑(flowF (instF c d) d).length : Int)) ∧
                                                                    ((IntKind.i64.wrap k).tmod (↑(flowF (instF c d) d).length : Int)).toNat < (flowF (instF c d) d).length ∧
                                                                      ∀ (x_2 : Int),
                                                                        (flowF (instF c d) d)[((IntKind.i64.wrap k).tmod (↑(flowF (instF c d) d).length : Int)).toNat]? = some x_2 →
                                                                          (((roomF (instF c d) (flowF (instF c d) d)
                                                                                      ((IntKind.i64.wrap k).tmod (↑(flowF (instF c d) d).length : Int))).snd ==
                                                                                  IntKind.i64.wrap (x_2 - x.low)) =
                                                                                true →
                                                                              ((x.cap == (4611686018427387904 : Int)) = true →
                                                                                  (((roomF (instF c d) (flowF (instF c d) d)
                                                                                              ((IntKind.i64.wrap k).tmod (↑(flowF (instF c d) d).length : Int))).fst ==
                                                                                          (4611686018427387904 : Int)) =
                                                                                        true →
                                                                                      ((instF c d).sup.length ≤ (10000 : Nat) ∧
                                                                                          (instF c d).arcs.length ≤ (10000 : Nat) ∧
                                                                                            A64 (flowF (instF c d) d ++ [(0 : Int)]) ∧ A64 (instF c d).sup) ∧
                                                                                        ((fitsF (instF c d) (flowF (instF c d) d ++ [(0 : Int)]) == (30 : Int)) = true →
                                                                                            ((fitsF (instF c d)
                                                                                                      ((flowF (instF c d) d).set
                                                                                                        ((IntKind.i64.wrap k).tmod (↑(flowF (instF c d) d).length : Int)).toNat
                                                                                                        (IntKind.i64.wrap (x_1 + (1 : Int)))) ==
                                                                                                    (32 : Int)) =
                                                                                                  true ∧
                                                                                                True) ∧
                                                                                              True) ∧
                                                                                          ((fitsF (instF c d) (flowF (instF c d) d ++ [(0 : Int)]) == (30 : Int)) = false →
                                                                                            (false = true ∧ True) ∧ True)) ∧
                                                                                    (((roomF (instF c d) (flowF (instF c d) d)
                                                                                              ((IntKind.i64.wrap k).tmod (↑(flowF (instF c d) d).length : Int))).fst ==
                                                                                          (4611686018427387904 : Int)) =
                                                                                        false →
                                                                                      ((0 : Int) ≤ (IntKind.i64.wrap k).tmod (↑(flowF (instF c d) d).length : Int) ∧
                                                                                          (IntKind.i64.wrap k).tmod (↑(flowF (instF c d) d).length : Int) <
                                                                                            (↑(flowF (instF c d) d).length : Int)) ∧
                                                                                        ((IntKind.i64.wrap k).tmod (↑(flowF (instF c d) d).length : Int)).toNat <
                                                                                            (flowF (instF c d) d).length ∧
                                                                                          ∀ (x_3 : Int),
                                                                                            (flowF (instF c d)
                                                                                                    d)[((IntKind.i64.wrap k).tmod (↑(flowF (instF c d) d).length : Int)).toNat]? =
                                                                                                some x_3 →
                                                                                              (((roomF (instF c d) (flowF (instF c d) d)
                                                                                                          ((IntKind.i64.wrap k).tmod (↑(flowF (instF c d) d).length : Int))).fst ==
                                                                                                      IntKind.i64.wrap (x.cap - x_3)) =
                                                                                                    true →
                                                                                                  ((instF c d).sup.length ≤ (10000 : Nat) ∧
                                                                                                      (instF c d).arcs.length ≤ (10000 : Nat) ∧
                                                                                                        A64 (flowF (instF c d) d ++ [(0 : Int)]) ∧ A64 (instF c d).sup) ∧
                                                                                                    ((fitsF (instF c d) (flowF (instF c d) d ++ [(0 : Int)]) == (30 : Int)) = true →
                                                                                                        ((fitsF (instF c d)
                                                                                                                  ((flowF (instF c d) d).set
                                                                                                                    ((IntKind.i64.wrap k).tmod
                                                                                                                        (↑(flowF (instF c d) d).length : Int)).toNat
                                                                                                                    (IntKind.i64.wrap (x_1 + (1 : Int)))) ==
                                                                                                                (32 : Int)) =
                                                                                                              true ∧
                                                                                                            True) ∧
                                                                                                          True) ∧
                                                                                                      ((fitsF (instF c d) (flowF (instF c d) d ++ [(0 : Int)]) == (30 : Int)) = false →
                                                                                                        (false = true ∧ True) ∧ True)) ∧
                                                                                                (((roomF (instF c d) (flowF (instF c d) d)
                                                                                                          ((IntKind.i64.wrap k).tmod (↑(flowF (instF c d) d).length : Int))).fst ==
                                                                                                      IntKind.i64.wrap (x.cap - x_3)) =
                                                                                                    false →
                                                                                                  (false = true ∧ True) ∧ True))) ∧
                                                                                ((x.cap == (4611686018427387904 : Int)) = false →
                                                                                  ((0 : Int) ≤ (IntKind.i64.wrap k).tmod (↑(flowF (instF c d) d).length : Int) ∧
                                                                                      (IntKind.i64.wrap k).tmod (↑(flowF (instF c d) d).length : Int) <
                                                                                        (↑(flowF (instF c d) d).length : Int)) ∧
                                                                                    ((IntKind.i64.wrap k).tmod (↑(flowF (instF c d) d).length : Int)).toNat <
                                                                                        (flowF (instF c d) d).length ∧
                                                                                      ∀ (x_3 : Int),
                                                                                        (flowF (instF c d) d)[((IntKind.i64.wrap k).tmod (↑(flowF (instF c d) d).length : Int)).toNat]? =
                                                                                            some x_3 →
                                                                                          (((roomF (instF c d) (flowF (instF c d) d)
                                                                                                      ((IntKind.i64.wrap k).tmod (↑(flowF (instF c d) d).length : Int))).fst ==
                                                                                                  IntKind.i64.wrap (x.cap - x_3)) =
                                                                                                true →
                                                                                              ((instF c d).sup.length ≤ (10000 : Nat) ∧
                                                                                                  (instF c d).arcs.length ≤ (10000 : Nat) ∧
                                                                                                    A64 (flowF (instF c d) d ++ [(0 : Int)]) ∧ A64 (instF c d).sup) ∧
                                                                                                ((fitsF (instF c d) (flowF (instF c d) d ++ [(0 : Int)]) == (30 : Int)) = true →
                                                                                                    ((fitsF (instF c d)
                                                                                                              ((flowF (instF c d) d).set
                                                                                                                ((IntKind.i64.wrap k).tmod (↑(flowF (instF c d) d).length : Int)).toNat
                                                                                                                (IntKind.i64.wrap (x_1 + (1 : Int)))) ==
                                                                                                            (32 : Int)) =
                                                                                                          true ∧
                                                                                                        True) ∧
                                                                                                      True) ∧
                                                                                                  ((fitsF (instF c d) (flowF (instF c d) d ++ [(0 : Int)]) == (30 : Int)) = false →
                                                                                                    (false = true ∧ True) ∧ True)) ∧
                                                                                            (((roomF (instF c d) (flowF (instF c d) d)
                                                                                                      ((IntKind.i64.wrap k).tmod (↑(flowF (instF c d) d).length : Int))).fst ==
                                                                                                  IntKind.i64.wrap (x.cap - x_3)) =
                                                                                                false →
                                                                                              (false = true ∧ True) ∧ True))) ∧
                                                                            (((roomF (instF c d) (flowF (instF c d) d)
                                                                                      ((IntKind.i64.wrap k).tmod (↑(flowF (instF c d) d).length : Int))).snd ==
                                                                                  IntKind.i64.wrap (x_2 - x.low)) =
                                                                                false →
                                                                              (false = true ∧ True) ∧ True)) ∧
                                                                (true = false → (false = true ∧ True) ∧ True)))))
theorem FlowFits_q (c : List Int) (d : List Int) (k : Int) (ty0 ty1 : TypeId) : FlowFits_E0 c d k ty0 ty1 = FVcP TT FlowFits_g (FlowFits_an c d k) Try.f11 [.row 0, .row 1, .int .u8 k] [(0, .row false ty0 (.ints .u8 c)), (1, .row false ty1 (.ints .u8 d))] (FlowFits_r c d k) := by kernel_rfl
theorem FlowFits_E (c : List Int) (d : List Int) (k : Int) (ty0 ty1 : TypeId) (hp : Bytes c ∧ Bytes d ∧ c.length ≤ maxLen ∧ d.length ≤ maxLen ∧ 0 ≤ k ∧ k ≤ 255) : FVc TT FlowFits_g (FlowFits_an c d k) Try.f11 [.row 0, .row 1, .int .u8 k] [(0, .row false ty0 (.ints .u8 c)), (1, .row false ty1 (.ints .u8 d))] (FlowFits_r c d k) := by
  refine FVc.of (FlowFits_E0 c d k ty0 ty1) (FlowFits_q c d k ty0 ty1) ?_
  unfold FlowFits_E0
  obtain ⟨p1, p2, p3, p4, p5, p6⟩ := hp
  have l1 := instF_sup c d
  have l2 := nOf_pos d
  have l3 := nOf_le d
  have l4 := instF_arcs c d
  have q1 := instF_A64 c d
  have q2 := instF_A64a c d
  have q3 := instF_A64c c d
  have q4 := instF_L42 c d
  have q5 := flowF_A64 c d d
  have q6 := flowF_len (instF c d) d
  have q7 := flowF_mem c d d
  simp only [eq_self, exists_const, forall_const, decide_eq_true_eq, decide_eq_false_iff_not, and_true, true_and, bne_iff_ne, ne_eq, bne_eq_false_iff_eq, Int.toNat_natCast, Bool.not_eq_true', Bool.not_eq_false', beq_iff_eq, beq_eq_false_iff_ne, nilEq_true]
  simp only [false_implies, reduceCtorEq, Bool.not_true, Bool.true_eq_false, Bool.false_eq_true, implies_true, and_true, true_and]
  have wk : IntKind.i64.wrap k = k := w64 (by omega) (by omega)
  refine ⟨⟨p1, p2, p3, p4⟩, ⟨p2, by omega, q4⟩, ⟨by omega, by omega, q5, q1⟩, fun h hl => ?_⟩
  have hlong := fits_long h
  obtain ⟨t, ht, htl⟩ : ∃ t : Nat, (IntKind.i64.wrap k).tmod ↑(flowF (instF c d) d).length = (t : Int) ∧ t < (instF c d).arcs.length := by
    have t0 := Int.emod_nonneg k (b := ((flowF (instF c d) d).length : Int)) (by omega)
    have t1 := Int.emod_lt_of_pos k (show (0 : Int) < (flowF (instF c d) d).length by omega)
    exact ⟨(k % (flowF (instF c d) d).length).toNat, by rw [wk, tmod_pos p5]; omega, by omega⟩
  obtain ⟨b, hb⟩ : ∃ b, (instF c d).arcs[t]? = some b := ⟨_, List.getElem?_eq_getElem htl⟩
  obtain ⟨y, hy⟩ : ∃ y, (flowF (instF c d) d)[t]? = some y := ⟨_, List.getElem?_eq_getElem (by omega)⟩
  have by1 := q7 y (List.mem_of_getElem? hy)
  have gb : (instF c d).arcs.getD t default = b := by rw [List.getD_eq_getElem?_getD, hb]; rfl
  have gy : (flowF (instF c d) d).getD t 0 = y := by rw [List.getD_eq_getElem?_getD, hy]; rfl
  obtain ⟨r1, r2, r3, r4⟩ := fitsF_zero.1 h
  obtain ⟨_, a1, a2, a3⟩ := rightF_arc r1 (List.mem_of_getElem? hb)
  have fb := (fitsAll_iff.1 r3) t b hb
  rw [gy] at fb
  have hmore := fits_more h hb
  rw [gy] at hmore
  have wy : IntKind.i64.wrap (y + 1) = y + 1 := w64 (by omega) (by omega)
  have hroom : roomF (instF c d) (flowF (instF c d) d) (t : Int) = (if b.cap = inf then inf else IntKind.i64.wrap (b.cap - y), IntKind.i64.wrap (y - b.low)) := by
    unfold roomF
    rw [if_neg (by omega), Int.toNat_natCast, gb, gy, if_pos fb]
  have hA : A64 ((flowF (instF c d) d).set t (y + 1)) := q5.set (by unfold I64; omega)
  have hA2 : A64 (flowF (instF c d) d ++ [0]) := fun z hz => by
    rcases List.mem_append.1 hz with h | h
    · exact q5 z h
    · simp at h; subst h; unfold I64; omega
  simp only [ht, Int.toNat_natCast, hb, hy, Option.some.injEq, forall_eq', wy, hroom, hlong, hmore, eq_self, not_true_eq_false, false_implies, forall_const, and_true, true_and]
  have i1 : (instF c d).sup.length ≤ 10000 := by omega
  have i2 : (instF c d).arcs.length ≤ 10000 := by omega
  have z1 : (0 : Int) ≤ t ∧ (t : Int) < (instF c d).arcs.length := by omega
  have z2 : (0 : Int) ≤ t ∧ (t : Int) < (flowF (instF c d) d).length := by omega
  have z3 : t < (flowF (instF c d) d).length := by omega
  have z4 : 0 + (flowF (instF c d) d).length ≤ 1000000000 := by omega
  have z5 : (flowF (instF c d) d).length + 1 ≤ 1000000000 := by omega
  simp only [hl, hA, hA2, q1, i1, i2, z1.1, z1.2, z2.2, z3, z4, z5, htl, true_and, and_true, not_false_eq_true]
  have fb' := fb
  have hi : inf = 4611686018427387904 := rfl
  have w0 : IntKind.i64.wrap 0 = 0 := w64 (by omega) (by omega)
  unfold fitF at fb'
  simp only [Bool.and_eq_true, Bool.or_eq_true, decide_eq_true_eq] at fb'
  by_cases hc : b.cap = 4611686018427387904
  · have fm : fitF b (y + 1) = true := by
      unfold fitF
      simp only [Bool.and_eq_true, Bool.or_eq_true, decide_eq_true_eq]
      omega
    simp (config := { contextual := true }) [fm, hc, inf]
  · have wc : IntKind.i64.wrap (b.cap - y) = b.cap - y := w64 (by omega) (by omega)
    by_cases he : b.cap - y = 0
    · have fm : fitF b (y + 1) = false := by
        rw [Bool.eq_false_iff]
        unfold fitF
        simp only [Bool.and_eq_true, Bool.or_eq_true, decide_eq_true_eq, ne_eq]
        omega
      simp (config := { contextual := true }) [fm, hc, inf, wc, he, w0]
    · have fm : fitF b (y + 1) = true := by
        unfold fitF
        simp only [Bool.and_eq_true, Bool.or_eq_true, decide_eq_true_eq]
        omega
      simp (config := { contextual := true }) [fm, hc, inf, wc, he, w0]

theorem FlowFits_ok : SpecOk Try.prog FlowFits_n true (specOf true FlowFits_fs) :=
  spec_ok' TT_ok (show GsOk Try.prog FlowFits_g from gsOk_cons Inst_ok (gsOk_cons Flow_ok (gsOk_cons Fits_ok (gsOk_cons known9_ok (gsOk_cons FRoom_ok (gsOk_nil)))))) mixedOrders Try.func11 rfl rfl (by kernel_rfl) (n := 3) (by decide +kernel) (A := FlowFits_A)
    (fun args h r hr => by
      unfold FlowFits_fs at hr
      split at hr
      · rename_i k ty0 c ty1 d; cases hr; refine ⟨rfl, fun hp => ?_⟩; have hE := FlowFits_E c d k ty0 ty1 hp; exact hE
      · cases hr)

end Go.Proofs.Ytnoocfcmlilffaa
