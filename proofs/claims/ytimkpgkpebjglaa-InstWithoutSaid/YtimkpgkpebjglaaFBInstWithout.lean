/-
  CONTRACTS, PROVED: InstWithout.
-/
import Derived.Test.YtimkpgkpebjglaaFA5
import Derived.Test.YtimkpgkpebjglaaDBInstWithout
import Derived.Test.YtimkpgkpebjglaaAid
import Derived.Test.YtimkpgkpebjglaaLaw03
set_option linter.unusedVariables false
set_option linter.unusedSimpArgs false
set_option maxRecDepth 100000
namespace Go.Proofs.Ytimkpgkpebjglaa
open Go Go.RowKit Go.Ql Go.Vc

def InstWithout_E0 (c : List Int) (d : List Int) (e : List Int) (ty0 ty1 ty2 : TypeId) : Prop :=
      (Bytes c ∧ Bytes d ∧ c.length ≤ maxLen ∧ d.length ≤ maxLen) ∧
        (Bytes e ∧ (↑(instF c d).sup.length : Int) ≤ (1000000 : Int)) ∧
          True ∧
            ((instF c d).sup.length ≤ (1000000 : Nat) ∧
                (instF c d).arcs.length ≤ (1000000 : Nat) ∧ (marksF e (↑(instF c d).sup.length : Int).toNat).length ≤ (1000000 : Nat) ∧ (0 : Nat) ≤ (1000000 : Nat)) ∧
              (((↑(withoutF (instF c d) (marksF e (↑(instF c d).sup.length : Int).toNat) []).sup.length : Int) !=
                      (↑(List.map Int.ofNat (keptF (marksF e (↑(instF c d).sup.length : Int).toNat) (keptN (↑(instF c d).sup.length : Int)))).length : Int)) =
                    true →
                  (false = true ∧ True) ∧ True) ∧
                (((↑(withoutF (instF c d) (marksF e (↑(instF c d).sup.length : Int).toNat) []).sup.length : Int) !=
                      (↑(List.map Int.ofNat (keptF (marksF e (↑(instF c d).sup.length : Int).toNat) (keptN (↑(instF c d).sup.length : Int)))).length : Int)) =
                    false →
                  (decide ((↑(withoutF (instF c d) (marksF e (↑(instF c d).sup.length : Int).toNat) []).arcs.length : Int) > (↑(instF c d).arcs.length : Int)) = true →
                      (false = true ∧ True) ∧ True) ∧
                    (decide ((↑(withoutF (instF c d) (marksF e (↑(instF c d).sup.length : Int).toNat) []).arcs.length : Int) > (↑(instF c d).arcs.length : Int)) = false →
                      ∃ (g0 : Nat),
                        (g0 ≤ (onesF c d e).arcs.length ∧
                            ((0 : Nat) = (0 : Nat) ∧ True ∧ (0 : Nat) = (0 : Nat) ∧ (0 : Int) = (↑g0 : Int) ∧ True) ∧
                              (True ∧ True ∧ True) ∧
                                (withoutF (instF c d) (marksF e (↑(instF c d).sup.length : Int).toNat) []).sup = (onesF c d e).sup ∧
                                  (withoutF (instF c d) (marksF e (↑(instF c d).sup.length : Int).toNat) []).arcs = (onesF c d e).arcs ∧
                                    List.map Int.ofNat (keptF (marksF e (↑(instF c d).sup.length : Int).toNat) (keptN (↑(instF c d).sup.length : Int))) =
                                        List.map Int.ofNat (leftF c d e) ∧
                                      (True ∧ True ∧ True) ∧ (instF c d).sup = (instF c d).sup ∧ (instF c d).arcs = (instF c d).arcs ∧ True) ∧
                          ∀ (g : Nat),
                            g ≤ (onesF c d e).arcs.length →
                              (decide ((↑g : Int) < (↑(onesF c d e).arcs.length : Int)) = true →
                                  ((0 : Int) ≤ (↑g : Int) ∧ (↑g : Int) < (↑(onesF c d e).arcs.length : Int)) ∧
                                    (↑g : Int).toNat < (onesF c d e).arcs.length ∧
                                      ∀ (x : Arc),
                                        (onesF c d e).arcs[(↑g : Int).toNat]? = some x →
                                          (decide (x.src < (0 : Int)) = true → (false = true ∧ True) ∧ True) ∧
                                            (decide (x.src < (0 : Int)) = false →
                                              (decide (x.src ≥ (↑(List.map Int.ofNat (leftF c d e)).length : Int)) = true → (false = true ∧ True) ∧ True) ∧
                                                (decide (x.src ≥ (↑(List.map Int.ofNat (leftF c d e)).length : Int)) = false →
                                                  (decide (x.dst < (0 : Int)) = true → (false = true ∧ True) ∧ True) ∧
                                                    (decide (x.dst < (0 : Int)) = false →
                                                      (decide (x.dst ≥ (↑(List.map Int.ofNat (leftF c d e)).length : Int)) = true → (false = true ∧ True) ∧ True) ∧
                                                        (decide (x.dst ≥ (↑(List.map Int.ofNat (leftF c d e)).length : Int)) = false →
                                                          ((0 : Int) ≤ x.src ∧ x.src < (↑(List.map Int.ofNat (leftF c d e)).length : Int)) ∧
                                                            x.src.toNat < (List.map Int.ofNat (leftF c d e)).length ∧
                                                              ∀ (x_1 : Int),
                                                                (List.map Int.ofNat (leftF c d e))[x.src.toNat]? = some x_1 →
                                                                  ((0 : Int) ≤ x.dst ∧ x.dst < (↑(List.map Int.ofNat (leftF c d e)).length : Int)) ∧
                                                                    x.dst.toNat < (List.map Int.ofNat (leftF c d e)).length ∧
                                                                      ∀ (x_2 : Int),
                                                                        (List.map Int.ofNat (leftF c d e))[x.dst.toNat]? = some x_2 →
                                                                          ∃ (g0 : Nat × Nat × Bool × Arc),
                                                                            ((g0.fst < (onesF c d e).arcs.length ∧
                                                                                  g0.fst = g0.fst ∧
                                                                                    g0.2.2.snd = g0.2.2.snd ∧
                                                                                      g0.2.fst ≤ (instF c d).arcs.length ∧
                                                                                        (g0.2.2.fst = true ↔ g0.2.2.snd ∈ List.take g0.2.fst (instF c d).arcs)) ∧
                                                                                ((0 : Nat) = (0 : Nat) ∧
                                                                                    True ∧
                                                                                      (0 : Nat) = (0 : Nat) ∧
                                                                                        (↑g : Int) = (↑g0.1 : Int) ∧
                                                                                          (0 : Nat) = (0 : Nat) ∧ false = g0.2.2.1 ∧ (0 : Int) = (↑g0.2.1 : Int) ∧ True) ∧
                                                                                  (x_1 = g0.2.2.2.src ∧
                                                                                      x_2 = g0.2.2.2.dst ∧ x.low = g0.2.2.2.low ∧ x.cap = g0.2.2.2.cap ∧ x.cost = g0.2.2.2.cost ∧ True) ∧
                                                                                    (True ∧ True ∧ True) ∧
                                                                                      (onesF c d e).sup = (onesF c d e).sup ∧
                                                                                        (onesF c d e).arcs = (onesF c d e).arcs ∧
                                                                                          List.map Int.ofNat (leftF c d e) = List.map Int.ofNat (leftF c d e) ∧
                                                                                            (True ∧ True ∧ True) ∧
                                                                                              (instF c d).sup = (instF c d).sup ∧ (instF c d).arcs = (instF c d).arcs ∧ True) ∧
                                                                              ∀ (g_1 : Nat × Nat × Bool × Arc),
                                                                                g_1.fst < (onesF c d e).arcs.length ∧
                                                                                    g_1.fst = g0.fst ∧
                                                                                      g_1.2.2.snd = g0.2.2.snd ∧
                                                                                        g_1.2.fst ≤ (instF c d).arcs.length ∧
                                                                                          (g_1.2.2.fst = true ↔ g_1.2.2.snd ∈ List.take g_1.2.fst (instF c d).arcs) →
                                                                                  (decide ((↑g_1.2.1 : Int) < (↑(instF c d).arcs.length : Int)) = true →
                                                                                      (g_1.2.2.1 = true →
                                                                                          ∃ (g' : Nat × Nat × Bool × Arc),
                                                                                            (g'.fst < (onesF c d e).arcs.length ∧
                                                                                                g'.fst = g0.fst ∧
                                                                                                  g'.2.2.snd = g0.2.2.snd ∧
                                                                                                    g'.2.fst ≤ (instF c d).arcs.length ∧
                                                                                                      (g'.2.2.fst = true ↔ g'.2.2.snd ∈ List.take g'.2.fst (instF c d).arcs)) ∧
                                                                                              (instF c d).arcs.length - g'.2.fst < (instF c d).arcs.length - g_1.2.fst ∧
                                                                                                ((0 : Nat) = (0 : Nat) ∧
                                                                                                    True ∧
                                                                                                      (0 : Nat) = (0 : Nat) ∧
                                                                                                        (↑g_1.1 : Int) = (↑g'.1 : Int) ∧
                                                                                                          (0 : Nat) = (0 : Nat) ∧
                                                                                                            true = g'.2.2.1 ∧
                                                                                                              IntKind.i64.wrap ((↑g_1.2.1 : Int) + (1 : Int)) = (↑g'.2.1 : Int) ∧ True) ∧
                                                                                                  (g_1.2.2.2.src = g'.2.2.2.src ∧
                                                                                                      g_1.2.2.2.dst = g'.2.2.2.dst ∧
                                                                                                        g_1.2.2.2.low = g'.2.2.2.low ∧
                                                                                                          g_1.2.2.2.cap = g'.2.2.2.cap ∧ g_1.2.2.2.cost = g'.2.2.2.cost ∧ True) ∧
                                                                                                    (True ∧ True ∧ True) ∧
                                                                                                      (onesF c d e).sup = (onesF c d e).sup ∧
                                                                                                        (onesF c d e).arcs = (onesF c d e).arcs ∧
                                                                                                          List.map Int.ofNat (leftF c d e) = List.map Int.ofNat (leftF c d e) ∧
                                                                                                            (True ∧ True ∧ True) ∧
                                                                                                              (instF c d).sup = (instF c d).sup ∧
                                                                                                                (instF c d).arcs = (instF c d).arcs ∧ True) ∧
                                                                                        (g_1.2.2.1 = false →
                                                                                          ((0 : Int) ≤ (↑g_1.2.1 : Int) ∧ (↑g_1.2.1 : Int) < (↑(instF c d).arcs.length : Int)) ∧
                                                                                            (↑g_1.2.1 : Int).toNat < (instF c d).arcs.length ∧
                                                                                              ∀ (x : Arc),
                                                                                                (instF c d).arcs[(↑g_1.2.1 : Int).toNat]? = some x →
                                                                                                  ∃ (g' : Nat × Nat × Bool × Arc),
                                                                                                    (g'.fst < (onesF c d e).arcs.length ∧
                                                                                                        g'.fst = g0.fst ∧
                                                                                                          g'.2.2.snd = g0.2.2.snd ∧
                                                                                                            g'.2.fst ≤ (instF c d).arcs.length ∧
                                                                                                              (g'.2.2.fst = true ↔ g'.2.2.snd ∈ List.take g'.2.fst (instF c d).arcs)) ∧
                                                                                                      (instF c d).arcs.length - g'.2.fst < (instF c d).arcs.length - g_1.2.fst ∧
                                                                                                        ((0 : Nat) = (0 : Nat) ∧
                                                                                                            True ∧
                                                                                                              (0 : Nat) = (0 : Nat) ∧
                                                                                                                (↑g_1.1 : Int) = (↑g'.1 : Int) ∧
                                                                                                                  (0 : Nat) = (0 : Nat) ∧
                                                                                                                    decide
                                                                                                                          ([x.src, x.dst, x.low, x.cap, x.cost] =
                                                                                                                            [g_1.2.2.2.src, g_1.2.2.2.dst, g_1.2.2.2.low, g_1.2.2.2.cap,
                                                                                                                              g_1.2.2.2.cost]) =
                                                                                                                        g'.2.2.1 ∧
                                                                                                                      IntKind.i64.wrap ((↑g_1.2.1 : Int) + (1 : Int)) = (↑g'.2.1 : Int) ∧
                                                                                                                        True) ∧
                                                                                                          (g_1.2.2.2.src = g'.2.2.2.src ∧
                                                                                                              g_1.2.2.2.dst = g'.2.2.2.dst ∧
                                                                                                                g_1.2.2.2.low = g'.2.2.2.low ∧
                                                                                                                  g_1.2.2.2.cap = g'.2.2.2.cap ∧ g_1.2.2.2.cost = g'.2.2.2.cost ∧ True) ∧
                                                                                                            (True ∧ True ∧ True) ∧
                                                                                                              (onesF c d e).sup = (onesF c d e).sup ∧
                                                                                                                (onesF c d e).arcs = (onesF c d e).arcs ∧
                                                                                                                  List.map Int.ofNat (leftF c d e) = List.map Int.ofNat (leftF c d e) ∧
                                                                                                                    (True ∧ True ∧ True) ∧
                                                                                                                      (instF c d).sup = (instF c d).sup ∧
                                                                                                                        (instF c d).arcs = (instF c d).arcs ∧ True)) ∧
                                                                                    (decide ((↑g_1.2.1 : Int) < (↑(instF c d).arcs.length : Int)) = false →
                                                                                      ((!g_1.2.2.1) = true → (false = true ∧ True) ∧ True) ∧
                                                                                        ((!g_1.2.2.1) = false →
                                                                                          ∃ (g' : Nat),
                                                                                            g' ≤ (onesF c d e).arcs.length ∧
                                                                                              (onesF c d e).arcs.length - g' < (onesF c d e).arcs.length - g ∧
                                                                                                ((0 : Nat) = (0 : Nat) ∧
                                                                                                    True ∧
                                                                                                      (0 : Nat) = (0 : Nat) ∧
                                                                                                        IntKind.i64.wrap ((↑g_1.1 : Int) + (1 : Int)) = (↑g' : Int) ∧ True) ∧
                                                                                                  (True ∧ True ∧ True) ∧
                                                                                                    (onesF c d e).sup = (onesF c d e).sup ∧
                                                                                                      (onesF c d e).arcs = (onesF c d e).arcs ∧
                                                                                                        List.map Int.ofNat (leftF c d e) = List.map Int.ofNat (leftF c d e) ∧
                                                                                                          (True ∧ True ∧ True) ∧
                                                                                                            (instF c d).sup = (instF c d).sup ∧
                                                                                                              (instF c d).arcs = (instF c d).arcs ∧ True))))))) ∧
                                (decide ((↑g : Int) < (↑(onesF c d e).arcs.length : Int)) = false →
                                  ∃ (g0 : Nat),
                                    (g0 ≤ (leftF c d e).length ∧
                                        ((0 : Nat) = (0 : Nat) ∧ True ∧ (0 : Nat) = (0 : Nat) ∧ (0 : Int) = (↑g0 : Int) ∧ True) ∧
                                          (True ∧ True ∧ True) ∧
                                            (onesF c d e).sup = (onesF c d e).sup ∧
                                              (onesF c d e).arcs = (onesF c d e).arcs ∧
                                                List.map Int.ofNat (leftF c d e) = List.map Int.ofNat (leftF c d e) ∧
                                                  (True ∧ True ∧ True) ∧ (instF c d).sup = (instF c d).sup ∧ (instF c d).arcs = (instF c d).arcs ∧ True) ∧
                                      ∀ (g : Nat),
                                        g ≤ (leftF c d e).length →
                                          (decide ((↑g : Int) < (↑(List.map Int.ofNat (leftF c d e)).length : Int)) = true →
                                              ((0 : Int) ≤ (↑g : Int) ∧ (↑g : Int) < (↑(onesF c d e).sup.length : Int)) ∧
                                                (↑g : Int).toNat < (onesF c d e).sup.length ∧
                                                  ∀ (x : Int),
                                                    (onesF c d e).sup[(↑g : Int).toNat]? = some x →
                                                      ((0 : Int) ≤ (↑g : Int) ∧ (↑g : Int) < (↑(List.map Int.ofNat (leftF c d e)).length : Int)) ∧
                                                        (↑g : Int).toNat < (List.map Int.ofNat (leftF c d e)).length ∧
                                                          ∀ (x_1 : Int),
                                                            (List.map Int.ofNat (leftF c d e))[(↑g : Int).toNat]? = some x_1 →
                                                              ((0 : Int) ≤ x_1 ∧ x_1 < (↑(instF c d).sup.length : Int)) ∧
                                                                x_1.toNat < (instF c d).sup.length ∧
                                                                  ∀ (x_2 : Int),
                                                                    (instF c d).sup[x_1.toNat]? = some x_2 →
                                                                      ((x != x_2) = true → (false = true ∧ True) ∧ True) ∧
                                                                        ((x != x_2) = false →
                                                                          ∃ (g' : Nat),
                                                                            g' ≤ (leftF c d e).length ∧
                                                                              (leftF c d e).length - g' < (leftF c d e).length - g ∧
                                                                                ((0 : Nat) = (0 : Nat) ∧
                                                                                    True ∧ (0 : Nat) = (0 : Nat) ∧ IntKind.i64.wrap ((↑g : Int) + (1 : Int)) = (↑g' : Int) ∧ True) ∧
                                                                                  (True ∧ True ∧ True) ∧
                                                                                    (onesF c d e).sup = (onesF c d e).sup ∧
                                                                                      (onesF c d e).arcs = (onesF c d e).arcs ∧
                                                                                        List.map Int.ofNat (leftF c d e) = List.map Int.ofNat (leftF c d e) ∧
                                                                                          (True ∧ True ∧ True) ∧
                                                                                            (instF c d).sup = (instF c d).sup ∧ (instF c d).arcs = (instF c d).arcs ∧ True)) ∧
                                            (decide ((↑g : Int) < (↑(List.map Int.ofNat (leftF c d e)).length : Int)) = false →
                                              True ∧
                                                (true = true →
                                                    ((instF c d).sup.length ≤ (1000000 : Nat) ∧
                                                        (instF c d).arcs.length ≤ (1000000 : Nat) ∧ (0 : Nat) ≤ (1000000 : Nat) ∧ (0 : Nat) ≤ (1000000 : Nat)) ∧
                                                      ((withoutF (instF c d) [] []).sup.length ≤ (1000000000 : Nat) ∧ (withoutF (instF c d) [] []).arcs.length ≤ (1000000000 : Nat)) ∧
                                                        (decide (withoutF (instF c d) [] [] = instF c d) = true →
                                                            ((onesF c d e).sup.length ≤ (1000000 : Nat) ∧
                                                                (onesF c d e).arcs.length ≤ (1000000 : Nat) ∧ (0 : Nat) ≤ (1000000 : Nat) ∧ (0 : Nat) ≤ (1000000 : Nat)) ∧
                                                              ((withoutF (onesF c d e) [] []).sup.length ≤ (1000000000 : Nat) ∧
                                                                  (withoutF (onesF c d e) [] []).arcs.length ≤ (1000000000 : Nat)) ∧
                                                                (decide (withoutF (onesF c d e) [] [] = onesF c d e) = true →
                                                                    ((onesF c d e).sup.length ≤ (1000000000 : Nat) ∧ (onesF c d e).arcs.length ≤ (1000000000 : Nat)) ∧
                                                                      ((instF c d).sup.length ≤ (1000000000 : Nat) ∧ (instF c d).arcs.length ≤ (1000000000 : Nat)) ∧
                                                                        (decide ((↑(spanF (onesF c d e)) : Int) ≤ (↑(spanF (instF c d)) : Int)) = true ∧ True) ∧ True) ∧
                                                                  (decide (withoutF (onesF c d e) [] [] = onesF c d e) = false → (false = true ∧ True) ∧ True)) ∧
                                                          (decide (withoutF (instF c d) [] [] = instF c d) = false → (false = true ∧ True) ∧ True)) ∧
                                                  (true = false → (false = true ∧ True) ∧ True)))))
theorem InstWithout_q (c : List Int) (d : List Int) (e : List Int) (ty0 ty1 ty2 : TypeId) : InstWithout_E0 c d e ty0 ty1 ty2 = FVcP TT InstWithout_g (InstWithout_an c d e) Try.f4 [.row 0, .row 1, .row 2] [(0, .row false ty0 (.ints .u8 c)), (1, .row false ty1 (.ints .u8 d)), (2, .row false ty2 (.ints .u8 e))] (InstWithout_r c d e) := by kernel_rfl
theorem InstWithout_E (c : List Int) (d : List Int) (e : List Int) (ty0 ty1 ty2 : TypeId) (hp : Bytes c ∧ Bytes d ∧ c.length ≤ maxLen ∧ d.length ≤ maxLen ∧ Bytes e ∧ e.length ≤ maxLen) : FVc TT InstWithout_g (InstWithout_an c d e) Try.f4 [.row 0, .row 1, .row 2] [(0, .row false ty0 (.ints .u8 c)), (1, .row false ty1 (.ints .u8 d)), (2, .row false ty2 (.ints .u8 e))] (InstWithout_r c d e) := by
  refine FVc.of (InstWithout_E0 c d e ty0 ty1 ty2) (InstWithout_q c d e ty0 ty1 ty2) ?_
  unfold InstWithout_E0
  obtain ⟨p1, p2, p3, p4, p5, p6⟩ := hp
  have l1 := instF_sup c d
  have l2 := nOf_pos d
  have l3 := nOf_le d
  have l4 := instF_arcs c d
  have hin : ∀ a ∈ (instF c d).arcs, a.In (instF c d).sup.length := fun a ha => by
    have h := instF_nice c d a ha
    rw [l1]; exact ⟨h.s0, h.s1, h.d0, h.d1⟩
  have hno := withoutF_nothing (I := instF c d) (by omega) (by omega) hin
  simp only [eq_self, decide_eq_true_eq, decide_eq_false_iff_not, and_true, true_and, bne_iff_ne, ne_eq, bne_eq_false_iff_eq, Int.toNat_natCast, Bool.not_eq_true', Bool.not_eq_false', beq_iff_eq, beq_eq_false_iff_ne, nilEq_true, forall_const, false_implies, reduceCtorEq, Bool.not_true, Bool.true_eq_false, Bool.false_eq_true, implies_true]
  simp only [List.length_map]
  have kn : leftF c d e = keptNodes (instF c d) (marksF e (instF c d).sup.length) := rfl
  have kN : keptF (marksF e (instF c d).sup.length) (keptN ↑(instF c d).sup.length) = leftF c d e := rfl
  have oN : withoutF (instF c d) (marksF e (instF c d).sup.length) [] = onesF c d e := rfl
  have hl1 : (onesF c d e).sup.length = (leftF c d e).length := withoutF_sup_len _ _ _
  have hback : ∀ b ∈ (onesF c d e).arcs, _ := fun b hb => without_back (I := instF c d) (nodes := marksF e (instF c d).sup.length) (by omega) hb
  have hoa : (onesF c d e).arcs = (instF c d).arcs.filterMap (keepArc (leftF c d e)) := withoutF_arcs (by omega)
  have hol : (onesF c d e).arcs.length ≤ (instF c d).arcs.length := by rw [hoa]; exact List.length_filterMap_le _ _
  have hlt : ∀ z ∈ leftF c d e, z < (instF c d).sup.length := fun z hz => by
    have := keptF_lt hz
    unfold keptN at this; omega
  have hll : (leftF c d e).length ≤ (instF c d).sup.length := by
    have := keptF_len (marksF e (instF c d).sup.length) (keptN ↑(instF c d).sup.length)
    have h2 : keptN ↑(instF c d).sup.length ≤ (instF c d).sup.length := by unfold keptN; omega
    rw [kN] at this; omega
  have hml : (marksF e (instF c d).sup.length).length ≤ (instF c d).sup.length := by unfold marksF; simp; omega
  have hcl : cntLow (onesF c d e).arcs ≤ cntLow (instF c d).arcs := by rw [hoa]; exact cntLow_keep _ _
  have hno2 := withoutF_nothing (I := onesF c d e) (by omega) (by omega) (fun b hb => by
    obtain ⟨a, _, _, _, _, h1, h2, h3, h4, _⟩ := hback b hb
    rw [← kn] at h2 h4
    exact ⟨h1, by omega, h3, by omega⟩)
  have hsg : ∀ (k : Nat) (x : Int), (onesF c d e).sup[k]? = some x → ∃ z, (leftF c d e)[k]? = some z ∧ x = (instF c d).sup.getD z 0 := fun k x hx => by
    have hx' : ((leftF c d e).map (fun k => (instF c d).sup.getD k 0))[k]? = some x := hx
    rw [List.getElem?_map] at hx'
    obtain ⟨z, hz, rfl⟩ := Option.map_eq_some_iff.1 hx'
    exact ⟨z, hz, rfl⟩
  simp only [kN, oN, hno, hno2, hl1]
  generalize instF c d = I at *
  generalize onesF c d e = O at *
  generalize leftF c d e = K at *
  simp only [← kn] at hback
  refine ⟨⟨p1, p2, p3, p4⟩, ⟨p5, by omega⟩, by omega, fun h => h trivial, fun _ => ⟨fun h => by omega, fun _ => ⟨0, ⟨by omega, rfl, trivial, trivial, trivial⟩, fun k hk => ⟨fun h1 => ⟨by omega, by omega, fun b hb => ?_⟩, fun h1 => ?_⟩⟩⟩⟩
  · obtain ⟨a, ha, a1, a2, a3, a4, a5, a6, a7, s, t, s1, s2, t1, t2⟩ := hback b (List.mem_of_getElem? hb)
    refine ⟨fun h => by omega, fun _ => ⟨fun h => by omega, fun _ => ⟨fun h => by omega, fun _ => ⟨fun h => by omega, fun _ => ⟨by omega, by omega, fun u hu => ⟨by omega, by omega, fun v hv => ?_⟩⟩⟩⟩⟩⟩
    rw [List.getElem?_map, s1] at hu
    rw [List.getElem?_map, t1] at hv
    simp only [Option.map_some, Option.some.injEq, Int.ofNat_eq_natCast] at hu hv
    have hu : u = a.src := by omega
    have hv : v = a.dst := by omega
    subst hu hv
    refine ⟨(k, 0, false, a), by simp [a1, a2, a3]; omega, ?_⟩
    rintro ⟨k', j, f, a'⟩ ⟨q1, q2, q3, q4, q5⟩
    dsimp only at q1 q2 q3 q4 q5 ⊢
    subst q2 q3
    have hq : ∀ x : Arc, ([x.src, x.dst, x.low, x.cap, x.cost] = [a'.src, a'.dst, a'.low, a'.cap, a'.cost]) ↔ x = a' := fun x => by
      obtain ⟨x1, x2, x3, x4, x5⟩ := x
      obtain ⟨y1, y2, y3, y4, y5⟩ := a'
      simp
    refine ⟨fun h2 => ⟨fun hf => ⟨(k', j + 1, true, a'), ⟨q1, rfl, rfl, by dsimp only; omega, ?_⟩, by dsimp only; omega, ⟨rfl, rfl, w64 (by omega) (by omega)⟩, rfl, rfl, rfl, rfl, rfl⟩, fun hf => ⟨by omega, by omega, fun x hx => ⟨(k', j + 1, decide (x = a'), a'), ⟨q1, rfl, rfl, by dsimp only; omega, ?_⟩, by dsimp only; omega, ⟨rfl, by simp only [hq], w64 (by omega) (by omega)⟩, rfl, rfl, rfl, rfl, rfl⟩⟩⟩, fun h2 => ⟨fun hf => ?_, fun hf => ⟨k' + 1, by omega, by omega, w64 (by omega) (by omega)⟩⟩⟩
    · have := q5.1 hf
      simp only [true_iff]
      rw [List.take_add_one, List.mem_append]; exact .inl this
    · rw [take_get hx, List.mem_append]
      have hnf : a' ∉ I.arcs.take j := fun h => by rw [q5.2 h] at hf; cases hf
      simp only [decide_eq_true_eq, List.mem_singleton, hnf, false_or]
      exact eq_comm
    · rw [List.take_of_length_le (by omega)] at q5
      rw [q5.2 ha] at hf; cases hf
  · refine ⟨0, ⟨by omega, rfl⟩, fun g hg => ⟨fun h2 => ⟨by omega, by omega, fun x hx => ⟨by omega, by omega, fun y hy => ?_⟩⟩, fun h2 => ⟨by omega, by omega, fun _ => ⟨by omega, by omega, fun _ => ⟨by omega, by omega, ?_⟩, fun h => h trivial⟩, fun h => h trivial⟩⟩⟩
    · obtain ⟨z, hz, hxz⟩ := hsg g x hx
      rw [List.getElem?_map, hz] at hy
      simp only [Option.map_some, Option.some.injEq, Int.ofNat_eq_natCast] at hy
      subst hy
      have hzl := hlt z (List.mem_of_getElem? hz)
      refine ⟨by omega, by omega, fun v hv => ⟨fun h => h ?_, fun _ => ⟨g + 1, by omega, by omega, w64 (by omega) (by omega)⟩⟩⟩
      rw [hxz]
      simp only [Int.toNat_natCast] at hv
      simp [List.getD, hv]
    · unfold spanF; omega

theorem InstWithout_ok : SpecOk Try.prog InstWithout_n true (specOf true InstWithout_fs) :=
  spec_ok' TT_ok (show GsOk Try.prog InstWithout_g from gsOk_cons Inst_ok (gsOk_cons Marks_ok (gsOk_cons Kept_ok (gsOk_cons Without_ok (gsOk_cons known_ok (gsOk_cons Same_ok (gsOk_cons Span_ok (gsOk_nil)))))))) mixedOrders Try.func4 rfl rfl (by kernel_rfl) (n := 3) (by decide +kernel) (A := InstWithout_A)
    (fun args h r hr => by
      unfold InstWithout_fs at hr
      split at hr
      · rename_i ty0 c ty1 d ty2 e; cases hr; refine ⟨rfl, fun hp => ?_⟩; have hE := InstWithout_E c d e ty0 ty1 ty2 hp; exact hE
      · cases hr)

end Go.Proofs.Ytimkpgkpebjglaa
