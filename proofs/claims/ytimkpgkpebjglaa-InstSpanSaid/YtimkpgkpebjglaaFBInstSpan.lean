/-
  CONTRACTS, PROVED: InstSpan.
-/
import Derived.Test.YtimkpgkpebjglaaFA5
import Derived.Test.YtimkpgkpebjglaaDBInstSpan
import Derived.Test.YtimkpgkpebjglaaAid
import Derived.Test.YtimkpgkpebjglaaLaw03
set_option linter.unusedVariables false
set_option maxRecDepth 100000
namespace Go.Proofs.Ytimkpgkpebjglaa
open Go Go.RowKit Go.Ql Go.Vc

def InstSpan_E0 (c : List Int) (d : List Int) (k : Int) (ty0 ty1 : TypeId) : Prop :=
      (Bytes c ∧ Bytes d ∧ c.length ≤ maxLen ∧ d.length ≤ maxLen) ∧
        ((instF c d).sup.length ≤ (1000000000 : Nat) ∧ (instF c d).arcs.length ≤ (1000000000 : Nat)) ∧
          (instF c d).sup.length + (1 : Nat) ≤ (1000000000 : Nat) ∧
            (((instF c d).sup ++ [(0 : Int)]).length ≤ (1000000000 : Nat) ∧ (instF c d).arcs.length ≤ (1000000000 : Nat)) ∧
              ((↑((instF c d).sup ++ [(0 : Int)]).length : Int) = (↑((instF c d).sup ++ [(0 : Int)]).length : Int) ∧
                  (0 : Int) ≤ (↑((instF c d).sup ++ [(0 : Int)]).length : Int) ∧ (↑((instF c d).sup ++ [(0 : Int)]).length : Int) ≤ (1000000000 : Int)) ∧
                ((0 : Int) ≤ IntKind.i64.wrap ((↑(List.replicate (↑((instF c d).sup ++ [(0 : Int)]).length : Int).toNat false).length : Int) - (1 : Int)) ∧
                    IntKind.i64.wrap ((↑(List.replicate (↑((instF c d).sup ++ [(0 : Int)]).length : Int).toNat false).length : Int) - (1 : Int)) <
                      (↑(List.replicate (↑((instF c d).sup ++ [(0 : Int)]).length : Int).toNat false).length : Int)) ∧
                  (IntKind.i64.wrap ((↑(List.replicate (↑((instF c d).sup ++ [(0 : Int)]).length : Int).toNat false).length : Int) - (1 : Int))).toNat <
                      (List.replicate (↑((instF c d).sup ++ [(0 : Int)]).length : Int).toNat false).length ∧
                    (((instF c d).sup ++ [(0 : Int)]).length ≤ (1000000 : Nat) ∧
                        (instF c d).arcs.length ≤ (1000000 : Nat) ∧
                          ((List.replicate (↑((instF c d).sup ++ [(0 : Int)]).length : Int).toNat false).set
                                  (IntKind.i64.wrap ((↑(List.replicate (↑((instF c d).sup ++ [(0 : Int)]).length : Int).toNat false).length : Int) - (1 : Int))).toNat true).length ≤
                              (1000000 : Nat) ∧
                            (0 : Nat) ≤ (1000000 : Nat)) ∧
                      (((↑(instF c d).arcs.length : Int) == (0 : Int)) = true →
                          True ∧
                            (true = true →
                                (((↑(spanF { sup := (instF c d).sup ++ [(0 : Int)], arcs := (instF c d).arcs : Inst }) : Int) ==
                                        IntKind.i64.wrap ((↑(spanF (instF c d)) : Int) + (1 : Int))) =
                                      true →
                                    ((withoutF { sup := (instF c d).sup ++ [(0 : Int)], arcs := (instF c d).arcs : Inst }
                                                ((List.replicate (↑((instF c d).sup ++ [(0 : Int)]).length : Int).toNat false).set
                                                  (IntKind.i64.wrap ((↑(List.replicate (↑((instF c d).sup ++ [(0 : Int)]).length : Int).toNat false).length : Int) - (1 : Int))).toNat
                                                  true)
                                                []).sup.length ≤
                                          (1000000000 : Nat) ∧
                                        (withoutF { sup := (instF c d).sup ++ [(0 : Int)], arcs := (instF c d).arcs : Inst }
                                                ((List.replicate (↑((instF c d).sup ++ [(0 : Int)]).length : Int).toNat false).set
                                                  (IntKind.i64.wrap ((↑(List.replicate (↑((instF c d).sup ++ [(0 : Int)]).length : Int).toNat false).length : Int) - (1 : Int))).toNat
                                                  true)
                                                []).arcs.length ≤
                                          (1000000000 : Nat)) ∧
                                      (((↑(spanF
                                                    (withoutF { sup := (instF c d).sup ++ [(0 : Int)], arcs := (instF c d).arcs : Inst }
                                                      ((List.replicate (↑((instF c d).sup ++ [(0 : Int)]).length : Int).toNat false).set
                                                        (IntKind.i64.wrap
                                                            ((↑(List.replicate (↑((instF c d).sup ++ [(0 : Int)]).length : Int).toNat false).length : Int) - (1 : Int))).toNat
                                                        true)
                                                      [])) :
                                                Int) ==
                                              (↑(spanF (instF c d)) : Int)) =
                                            true ∧
                                          True) ∧
                                        True) ∧
                                  (((↑(spanF { sup := (instF c d).sup ++ [(0 : Int)], arcs := (instF c d).arcs : Inst }) : Int) ==
                                        IntKind.i64.wrap ((↑(spanF (instF c d)) : Int) + (1 : Int))) =
                                      false →
                                    (false = true ∧ True) ∧ True)) ∧
                              (true = false → (false = true ∧ True) ∧ True)) ∧
                        (((↑(instF c d).arcs.length : Int) == (0 : Int)) = false →
                          (↑(instF c d).arcs.length : Int) ≠ (0 : Int) ∧
                            ((0 : Int) ≤ (IntKind.i64.wrap k).tmod (↑(instF c d).arcs.length : Int) ∧
                                (IntKind.i64.wrap k).tmod (↑(instF c d).arcs.length : Int) < (↑(instF c d).arcs.length : Int)) ∧
                              ((IntKind.i64.wrap k).tmod (↑(instF c d).arcs.length : Int)).toNat < (instF c d).arcs.length ∧
                                ∀ (x : Arc),
                                  (instF c d).arcs[((IntKind.i64.wrap k).tmod (↑(instF c d).arcs.length : Int)).toNat]? = some x →
                                    ((0 : Int) ≤ (IntKind.i64.wrap k).tmod (↑(instF c d).arcs.length : Int) ∧
                                        (IntKind.i64.wrap k).tmod (↑(instF c d).arcs.length : Int) < (↑(instF c d).arcs.length : Int)) ∧
                                      ((IntKind.i64.wrap k).tmod (↑(instF c d).arcs.length : Int)).toNat < (instF c d).arcs.length ∧
                                        ∀ (x_1 : Arc),
                                          (instF c d).arcs[((IntKind.i64.wrap k).tmod (↑(instF c d).arcs.length : Int)).toNat]? = some x_1 →
                                            (((instF c d).sup ++ [(0 : Int)]).length ≤ (1000000000 : Nat) ∧
                                                ((instF c d).arcs.set ((IntKind.i64.wrap k).tmod (↑(instF c d).arcs.length : Int)).toNat
                                                      { src := x_1.src, dst := x_1.dst, low := (0 : Int), cap := x_1.cap, cost := x_1.cost : Arc }).length ≤
                                                  (1000000000 : Nat)) ∧
                                              (IntKind.i64.wrap ((IntKind.i64.wrap k).tmod (↑(instF c d).arcs.length : Int) + (1 : Int)) =
                                                    IntKind.i64.wrap ((IntKind.i64.wrap k).tmod (↑(instF c d).arcs.length : Int) + (1 : Int)) ∧
                                                  (0 : Int) ≤ IntKind.i64.wrap ((IntKind.i64.wrap k).tmod (↑(instF c d).arcs.length : Int) + (1 : Int)) ∧
                                                    IntKind.i64.wrap ((IntKind.i64.wrap k).tmod (↑(instF c d).arcs.length : Int) + (1 : Int)) ≤ (1000000000 : Int)) ∧
                                                ((0 : Int) ≤ (IntKind.i64.wrap k).tmod (↑(instF c d).arcs.length : Int) ∧
                                                    (IntKind.i64.wrap k).tmod (↑(instF c d).arcs.length : Int) <
                                                      (↑(List.replicate (IntKind.i64.wrap ((IntKind.i64.wrap k).tmod (↑(instF c d).arcs.length : Int) + (1 : Int))).toNat false).length :
                                                        Int)) ∧
                                                  ((IntKind.i64.wrap k).tmod (↑(instF c d).arcs.length : Int)).toNat <
                                                      (List.replicate (IntKind.i64.wrap ((IntKind.i64.wrap k).tmod (↑(instF c d).arcs.length : Int) + (1 : Int))).toNat false).length ∧
                                                    (((instF c d).sup ++ [(0 : Int)]).length ≤ (1000000 : Nat) ∧
                                                        ((instF c d).arcs.set ((IntKind.i64.wrap k).tmod (↑(instF c d).arcs.length : Int)).toNat
                                                                { src := x_1.src, dst := x_1.dst, low := (0 : Int), cap := x_1.cap, cost := x_1.cost : Arc }).length ≤
                                                            (1000000 : Nat) ∧
                                                          (0 : Nat) ≤ (1000000 : Nat) ∧
                                                            ((List.replicate (IntKind.i64.wrap ((IntKind.i64.wrap k).tmod (↑(instF c d).arcs.length : Int) + (1 : Int))).toNat false).set
                                                                  ((IntKind.i64.wrap k).tmod (↑(instF c d).arcs.length : Int)).toNat true).length ≤
                                                              (1000000 : Nat)) ∧
                                                      ((withoutF
                                                                  { sup := (instF c d).sup ++ [(0 : Int)],
                                                                    arcs :=
                                                                      (instF c d).arcs.set ((IntKind.i64.wrap k).tmod (↑(instF c d).arcs.length : Int)).toNat
                                                                        { src := x_1.src, dst := x_1.dst, low := (0 : Int), cap := x_1.cap, cost := x_1.cost : Arc } :
                                                                    Inst }
                                                                  []
                                                                  ((List.replicate (IntKind.i64.wrap ((IntKind.i64.wrap k).tmod (↑(instF c d).arcs.length : Int) + (1 : Int))).toNat
                                                                        false).set
                                                                    ((IntKind.i64.wrap k).tmod (↑(instF c d).arcs.length : Int)).toNat true)).sup.length ≤
                                                            (1000000000 : Nat) ∧
                                                          (withoutF
                                                                  { sup := (instF c d).sup ++ [(0 : Int)],
                                                                    arcs :=
                                                                      (instF c d).arcs.set ((IntKind.i64.wrap k).tmod (↑(instF c d).arcs.length : Int)).toNat
                                                                        { src := x_1.src, dst := x_1.dst, low := (0 : Int), cap := x_1.cap, cost := x_1.cost : Arc } :
                                                                    Inst }
                                                                  []
                                                                  ((List.replicate (IntKind.i64.wrap ((IntKind.i64.wrap k).tmod (↑(instF c d).arcs.length : Int) + (1 : Int))).toNat
                                                                        false).set
                                                                    ((IntKind.i64.wrap k).tmod (↑(instF c d).arcs.length : Int)).toNat true)).arcs.length ≤
                                                            (1000000000 : Nat)) ∧
                                                        True ∧
                                                          (true = true →
                                                              (((↑(spanF { sup := (instF c d).sup ++ [(0 : Int)], arcs := (instF c d).arcs : Inst }) : Int) ==
                                                                      IntKind.i64.wrap ((↑(spanF (instF c d)) : Int) + (1 : Int))) =
                                                                    true →
                                                                  ((withoutF { sup := (instF c d).sup ++ [(0 : Int)], arcs := (instF c d).arcs : Inst }
                                                                              ((List.replicate (↑((instF c d).sup ++ [(0 : Int)]).length : Int).toNat false).set
                                                                                (IntKind.i64.wrap
                                                                                    ((↑(List.replicate (↑((instF c d).sup ++ [(0 : Int)]).length : Int).toNat false).length : Int) -
                                                                                      (1 : Int))).toNat
                                                                                true)
                                                                              []).sup.length ≤
                                                                        (1000000000 : Nat) ∧
                                                                      (withoutF { sup := (instF c d).sup ++ [(0 : Int)], arcs := (instF c d).arcs : Inst }
                                                                              ((List.replicate (↑((instF c d).sup ++ [(0 : Int)]).length : Int).toNat false).set
                                                                                (IntKind.i64.wrap
                                                                                    ((↑(List.replicate (↑((instF c d).sup ++ [(0 : Int)]).length : Int).toNat false).length : Int) -
                                                                                      (1 : Int))).toNat
                                                                                true)
                                                                              []).arcs.length ≤
                                                                        (1000000000 : Nat)) ∧
                                                                    (((↑(spanF
                                                                                  (withoutF { sup := (instF c d).sup ++ [(0 : Int)], arcs := (instF c d).arcs : Inst }
                                                                                    ((List.replicate (↑((instF c d).sup ++ [(0 : Int)]).length : Int).toNat false).set
                                                                                      (IntKind.i64.wrap
                                                                                          ((↑(List.replicate (↑((instF c d).sup ++ [(0 : Int)]).length : Int).toNat false).length : Int) -
                                                                                            (1 : Int))).toNat
                                                                                      true)
                                                                                    [])) :
                                                                              Int) ==
                                                                            (↑(spanF (instF c d)) : Int)) =
                                                                          true →
                                                                        ((((↑(spanF
                                                                                        { sup := (instF c d).sup ++ [(0 : Int)],
                                                                                          arcs :=
                                                                                            (instF c d).arcs.set ((IntKind.i64.wrap k).tmod (↑(instF c d).arcs.length : Int)).toNat
                                                                                              { src := x_1.src, dst := x_1.dst, low := (0 : Int), cap := x_1.cap, cost := x_1.cost :
                                                                                                Arc } :
                                                                                          Inst }) :
                                                                                    Int) ==
                                                                                  IntKind.i64.wrap
                                                                                    ((↑(spanF { sup := (instF c d).sup ++ [(0 : Int)], arcs := (instF c d).arcs : Inst }) : Int) -
                                                                                      (1 : Int))) ==
                                                                                (x.low != (0 : Int))) =
                                                                              true →
                                                                            (((↑(spanF
                                                                                          (withoutF
                                                                                            { sup := (instF c d).sup ++ [(0 : Int)],
                                                                                              arcs :=
                                                                                                (instF c d).arcs.set ((IntKind.i64.wrap k).tmod (↑(instF c d).arcs.length : Int)).toNat
                                                                                                  { src := x_1.src, dst := x_1.dst, low := (0 : Int), cap := x_1.cap, cost := x_1.cost :
                                                                                                    Arc } :
                                                                                              Inst }
                                                                                            []
                                                                                            ((List.replicate
                                                                                                  (IntKind.i64.wrap
                                                                                                      ((IntKind.i64.wrap k).tmod (↑(instF c d).arcs.length : Int) + (1 : Int))).toNat
                                                                                                  false).set
                                                                                              ((IntKind.i64.wrap k).tmod (↑(instF c d).arcs.length : Int)).toNat true))) :
                                                                                      Int) ==
                                                                                    IntKind.i64.wrap
                                                                                      ((↑(spanF
                                                                                              { sup := (instF c d).sup ++ [(0 : Int)],
                                                                                                arcs :=
                                                                                                  (instF c d).arcs.set ((IntKind.i64.wrap k).tmod (↑(instF c d).arcs.length : Int)).toNat
                                                                                                    { src := x_1.src, dst := x_1.dst, low := (0 : Int), cap := x_1.cap, cost := x_1.cost :
                                                                                                      Arc } :
                                                                                                Inst }) :
                                                                                          Int) -
                                                                                        (1 : Int))) =
                                                                                  true →
                                                                                (Bytes c ∧ Bytes d ∧ c.length ≤ maxLen ∧ d.length ≤ maxLen) ∧
                                                                                  ((withoutF { sup := (instF c d).sup ++ [(0 : Int)], arcs := (instF c d).arcs : Inst }
                                                                                              ((List.replicate (↑((instF c d).sup ++ [(0 : Int)]).length : Int).toNat false).set
                                                                                                (IntKind.i64.wrap
                                                                                                    ((↑(List.replicate (↑((instF c d).sup ++ [(0 : Int)]).length : Int).toNat
                                                                                                              false).length :
                                                                                                        Int) -
                                                                                                      (1 : Int))).toNat
                                                                                                true)
                                                                                              []).sup.length ≤
                                                                                        (1000000000 : Nat) ∧
                                                                                      (withoutF { sup := (instF c d).sup ++ [(0 : Int)], arcs := (instF c d).arcs : Inst }
                                                                                              ((List.replicate (↑((instF c d).sup ++ [(0 : Int)]).length : Int).toNat false).set
                                                                                                (IntKind.i64.wrap
                                                                                                    ((↑(List.replicate (↑((instF c d).sup ++ [(0 : Int)]).length : Int).toNat
                                                                                                              false).length :
                                                                                                        Int) -
                                                                                                      (1 : Int))).toNat
                                                                                                true)
                                                                                              []).arcs.length ≤
                                                                                        (1000000000 : Nat)) ∧
                                                                                    (decide
                                                                                            (withoutF { sup := (instF c d).sup ++ [(0 : Int)], arcs := (instF c d).arcs : Inst }
                                                                                                ((List.replicate (↑((instF c d).sup ++ [(0 : Int)]).length : Int).toNat false).set
                                                                                                  (IntKind.i64.wrap
                                                                                                      ((↑(List.replicate (↑((instF c d).sup ++ [(0 : Int)]).length : Int).toNat
                                                                                                                false).length :
                                                                                                          Int) -
                                                                                                        (1 : Int))).toNat
                                                                                                  true)
                                                                                                [] =
                                                                                              instF c d) =
                                                                                          true ∧
                                                                                        True) ∧
                                                                                      True) ∧
                                                                              (((↑(spanF
                                                                                          (withoutF
                                                                                            { sup := (instF c d).sup ++ [(0 : Int)],
                                                                                              arcs :=
                                                                                                (instF c d).arcs.set ((IntKind.i64.wrap k).tmod (↑(instF c d).arcs.length : Int)).toNat
                                                                                                  { src := x_1.src, dst := x_1.dst, low := (0 : Int), cap := x_1.cap, cost := x_1.cost :
                                                                                                    Arc } :
                                                                                              Inst }
                                                                                            []
                                                                                            ((List.replicate
                                                                                                  (IntKind.i64.wrap
                                                                                                      ((IntKind.i64.wrap k).tmod (↑(instF c d).arcs.length : Int) + (1 : Int))).toNat
                                                                                                  false).set
                                                                                              ((IntKind.i64.wrap k).tmod (↑(instF c d).arcs.length : Int)).toNat true))) :
                                                                                      Int) ==
                                                                                    IntKind.i64.wrap
                                                                                      ((↑(spanF
                                                                                              { sup := (instF c d).sup ++ [(0 : Int)],
                                                                                                arcs :=
                                                                                                  (instF c d).arcs.set ((IntKind.i64.wrap k).tmod (↑(instF c d).arcs.length : Int)).toNat
                                                                                                    { src := x_1.src, dst := x_1.dst, low := (0 : Int), cap := x_1.cap, cost := x_1.cost :
                                                                                                      Arc } :
                                                                                                Inst }) :
                                                                                          Int) -
                                                                                        (1 : Int))) =
                                                                                  false →
                                                                                (false = true ∧ True) ∧ True)) ∧
                                                                          ((((↑(spanF
                                                                                        { sup := (instF c d).sup ++ [(0 : Int)],
                                                                                          arcs :=
                                                                                            (instF c d).arcs.set ((IntKind.i64.wrap k).tmod (↑(instF c d).arcs.length : Int)).toNat
                                                                                              { src := x_1.src, dst := x_1.dst, low := (0 : Int), cap := x_1.cap, cost := x_1.cost :
                                                                                                Arc } :
                                                                                          Inst }) :
                                                                                    Int) ==
                                                                                  IntKind.i64.wrap
                                                                                    ((↑(spanF { sup := (instF c d).sup ++ [(0 : Int)], arcs := (instF c d).arcs : Inst }) : Int) -
                                                                                      (1 : Int))) ==
                                                                                (x.low != (0 : Int))) =
                                                                              false →
                                                                            (false = true ∧ True) ∧ True)) ∧
                                                                      (((↑(spanF
                                                                                  (withoutF { sup := (instF c d).sup ++ [(0 : Int)], arcs := (instF c d).arcs : Inst }
                                                                                    ((List.replicate (↑((instF c d).sup ++ [(0 : Int)]).length : Int).toNat false).set
                                                                                      (IntKind.i64.wrap
                                                                                          ((↑(List.replicate (↑((instF c d).sup ++ [(0 : Int)]).length : Int).toNat false).length : Int) -
                                                                                            (1 : Int))).toNat
                                                                                      true)
                                                                                    [])) :
                                                                              Int) ==
                                                                            (↑(spanF (instF c d)) : Int)) =
                                                                          false →
                                                                        (false = true ∧ True) ∧ True)) ∧
                                                                (((↑(spanF { sup := (instF c d).sup ++ [(0 : Int)], arcs := (instF c d).arcs : Inst }) : Int) ==
                                                                      IntKind.i64.wrap ((↑(spanF (instF c d)) : Int) + (1 : Int))) =
                                                                    false →
                                                                  (false = true ∧ True) ∧ True)) ∧
                                                            (true = false → (false = true ∧ True) ∧ True))
theorem InstSpan_q (c : List Int) (d : List Int) (k : Int) (ty0 ty1 : TypeId) : InstSpan_E0 c d k ty0 ty1 = FVcP TT InstSpan_g (InstSpan_an c d k) Try.f7 [.row 0, .row 1, .int .u8 k] [(0, .row false ty0 (.ints .u8 c)), (1, .row false ty1 (.ints .u8 d))] (InstSpan_r c d k) := by kernel_rfl
theorem InstSpan_E (c : List Int) (d : List Int) (k : Int) (ty0 ty1 : TypeId) (hp : Bytes c ∧ Bytes d ∧ c.length ≤ maxLen ∧ d.length ≤ maxLen ∧ 0 ≤ k ∧ k ≤ 255) : FVc TT InstSpan_g (InstSpan_an c d k) Try.f7 [.row 0, .row 1, .int .u8 k] [(0, .row false ty0 (.ints .u8 c)), (1, .row false ty1 (.ints .u8 d))] (InstSpan_r c d k) := by
  refine FVc.of (InstSpan_E0 c d k ty0 ty1) (InstSpan_q c d k ty0 ty1) ?_
  unfold InstSpan_E0
  obtain ⟨p1, p2, p3, p4, p5, p6⟩ := hp
  have l1 := instF_sup c d
  have l2 := nOf_pos d
  have l3 := nOf_le d
  have l4 := instF_arcs c d
  have hin : ∀ a ∈ (instF c d).arcs, a.In (instF c d).sup.length := fun a ha => by
    have h := instF_nice c d a ha
    rw [l1]; exact ⟨h.s0, h.s1, h.d0, h.d1⟩
  generalize instF c d = I at *
  obtain ⟨s, l⟩ := I
  simp only at l1 l4 hin
  have wk : IntKind.i64.wrap k = k := w64 (by omega) (by omega)
  have e2 : IntKind.i64.wrap ((↑(s.length + 1) : Int) - 1) = (s.length : Int) := by rw [w64 (by omega) (by omega)]; omega
  have hlast := withoutF_last (s := s) (l := l) (x := 0) (by omega) (by omega) hin
  have hc := cntLow_le l
  have hsp : IntKind.i64.wrap ((↑(s.length + l.length + cntLow l) : Int) + 1) = ↑(s.length + 1 + l.length + cntLow l) := by rw [w64 (by omega) (by omega)]; omega
  have hsp2 : IntKind.i64.wrap ((↑(s.length + 1 + l.length + cntLow l) : Int) - 1) = ↑(s.length + l.length + cntLow l) := by rw [w64 (by omega) (by omega)]; omega
  rcases Nat.eq_zero_or_pos l.length with h0 | h0
  · simp only [List.length_append, List.length_cons, List.length_nil, List.length_replicate, List.length_set, Int.toNat_natCast, wk, Nat.zero_add, e2, hlast, spanF, hsp]
    rw [h0]
    simp only [eq_self, true_and, and_true, forall_const, reduceCtorEq, false_implies, Int.natCast_zero, beq_self_eq_true, Bool.true_eq_false]
    exact ⟨⟨p1, p2, p3, p4⟩, by omega⟩
  · obtain ⟨A, hA⟩ : ∃ A : Nat, k.tmod (l.length : Int) = (A : Int) := ⟨(k.tmod (l.length : Int)).toNat, (Int.toNat_of_nonneg (Int.tmod_nonneg _ p5)).symm⟩
    have hAl : A < l.length := by have := Int.tmod_lt_of_pos k (show (0 : Int) < l.length by omega); omega
    have wA : IntKind.i64.wrap ((A : Int) + 1) = ((A + 1 : Nat) : Int) := by rw [w64 (by omega) (by omega)]; omega
    have hz : (((l.length : Nat) : Int) == 0) = false := beq_false_of_ne (by omega)
    simp only [List.length_append, List.length_cons, List.length_nil, List.length_replicate, List.length_set, Int.toNat_natCast, wk, Nat.zero_add, e2, hlast, spanF, hsp, hsp2, hA, wA, hz]
    simp only [eq_self, true_and, and_true, forall_const, reduceCtorEq, false_implies, beq_self_eq_true, Bool.true_eq_false, Bool.false_eq_true]
    refine ⟨⟨p1, p2, p3, p4⟩, by omega, by omega, by omega, by omega, by omega, by omega, by omega, by omega, by omega, by omega, fun x hx => ⟨by omega, by omega, fun y hy => ?_⟩⟩
    obtain rfl : x = y := by rw [hx] at hy; exact Option.some.inj hy
    have hset : ∀ a ∈ l.set A { x with low := 0 }, a.In ((s ++ [0]).length : Int) := fun a ha => by
      rcases List.mem_or_eq_of_mem_set ha with h | h
      · have := hin a h; unfold Arc.In at *; simp; omega
      · subst h; have := hin x (List.mem_of_getElem? hx); unfold Arc.In at *; simp; omega
    have hw := withoutF_arc (I := ⟨s ++ [0], l.set A { x with low := 0 }⟩) (a := A) (by simp; omega) (by simp; omega) hset (by simp; omega)
    simp only at hw
    simp only [hw]
    have k1 := cntLow_at hx
    have k2 := cntLow_set (y := { x with low := 0 }) hx
    rw [List.take_set_of_le (Nat.le_refl A), List.drop_set_of_lt (by omega)] at *
    simp only [if_true] at k2
    generalize l.set A { x with low := 0 } = l' at *
    have k3 := cntLow_cut (l := l) (a := A)
    have k4 : (l.take A ++ l.drop (A + 1)).length = l.length - 1 := by simp; omega
    generalize l.take A ++ l.drop (A + 1) = l'' at *
    have e3 : IntKind.i64.wrap ((↑(s.length + 1 + l.length + cntLow l') : Int) - 1) = ↑(s.length + l.length + cntLow l') := by rw [w64 (by omega) (by omega)]; omega
    have b1 : (((↑(s.length + 1 + l.length + cntLow l') : Int) == ↑(s.length + l.length + cntLow l)) == (x.low != 0)) = true := by
      by_cases hl : x.low = 0
      · rw [if_pos hl] at k1
        rw [show ((↑(s.length + 1 + l.length + cntLow l') : Int) == ↑(s.length + l.length + cntLow l)) = false from beq_false_of_ne (by omega)]
        simp [hl]
      · rw [if_neg hl] at k1
        rw [show ((↑(s.length + 1 + l.length + cntLow l') : Int) == ↑(s.length + l.length + cntLow l)) = true from beq_iff_eq.2 (by omega)]
        simp [hl]
    have b2 : ((↑((s ++ [0]).length + l''.length + cntLow l'') : Int) == ↑(s.length + l.length + cntLow l')) = true := by
      rw [beq_iff_eq, k4, k3]; simp; omega
    simp only [e3, b1, b2]
    have k5 : (s ++ [0]).length = s.length + 1 := by simp
    exact ⟨by omega, by omega, by omega, by omega, by omega, ⟨by omega, by omega⟩, by omega, ⟨fun _ => ⟨fun _ => ⟨⟨p1, p2, p3, p4⟩, by omega, by simp⟩, fun h => by cases h⟩, fun h => by cases h⟩⟩

theorem InstSpan_ok : SpecOk Try.prog InstSpan_n true (specOf true InstSpan_fs) :=
  spec_ok' TT_ok (show GsOk Try.prog InstSpan_g from gsOk_cons Inst_ok (gsOk_cons known_ok (gsOk_cons Span_ok (gsOk_cons Without_ok (gsOk_cons rSame_ok (gsOk_nil)))))) mixedOrders Try.func7 rfl rfl (by kernel_rfl) (n := 3) (by decide +kernel) (A := InstSpan_A)
    (fun args h r hr => by
      unfold InstSpan_fs at hr
      split at hr
      · rename_i k ty0 c ty1 d; cases hr; refine ⟨rfl, fun hp => ?_⟩; have hE := InstSpan_E c d k ty0 ty1 hp; exact hE
      · cases hr)

end Go.Proofs.Ytimkpgkpebjglaa
