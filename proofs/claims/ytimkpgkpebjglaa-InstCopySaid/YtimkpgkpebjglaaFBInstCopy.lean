/-
  CONTRACTS, PROVED: InstCopy.
-/
import Derived.Test.YtimkpgkpebjglaaFA5
import Derived.Test.YtimkpgkpebjglaaDBInstCopy
import Derived.Test.YtimkpgkpebjglaaAid
import Derived.Test.YtimkpgkpebjglaaLaw03
set_option linter.unusedVariables false
set_option linter.unusedSimpArgs false
set_option maxRecDepth 100000
namespace Go.Proofs.Ytimkpgkpebjglaa
open Go Go.RowKit Go.Ql Go.Vc

def InstCopy_E0 (c : List Int) (d : List Int) (ty0 ty1 : TypeId) : Prop :=
      (Bytes c ∧ Bytes d ∧ c.length ≤ maxLen ∧ d.length ≤ maxLen) ∧
        ((instF c d).sup.length ≤ (1000000000 : Nat) ∧ (instF c d).arcs.length ≤ (1000000000 : Nat)) ∧
          ((instF c d).sup.length ≤ (1000000000 : Nat) ∧ (instF c d).arcs.length ≤ (1000000000 : Nat)) ∧
            ((instF c d).sup.length ≤ (1000000 : Nat) ∧ (instF c d).arcs.length ≤ (1000000 : Nat) ∧ (0 : Nat) ≤ (1000000 : Nat) ∧ (0 : Nat) ≤ (1000000 : Nat)) ∧
              ∃ (g0 : Nat),
                (g0 ≤ (instF c d).sup.length ∧
                    (True ∧ True ∧ (0 : Nat) = (0 : Nat) ∧ (0 : Nat) = (0 : Nat) ∧ decide (instF c d = instF c d) = true ∧ (0 : Nat) = (0 : Nat) ∧ (0 : Int) = (↑g0 : Int) ∧ True) ∧
                      (True ∧ True ∧ True) ∧
                        (withoutF (instF c d) [] []).sup = (instF c d).sup ∧
                          (withoutF (instF c d) [] []).arcs =
                              someF (fun (a : Arc) => { src := a.src, dst := a.dst, low := (9 : Int), cap := a.cap, cost := a.cost : Arc }) (0 : Nat) (instF c d).arcs ∧
                            (True ∧ True ∧ True) ∧
                              (instF c d).sup = someF (fun (x : Int) => x + (1 : Int)) g0 (instF c d).sup ∧
                                (instF c d).arcs = (instF c d).arcs ∧
                                  (True ∧ True ∧ True) ∧ (instF c d).sup = (instF c d).sup ∧ (instF c d).arcs = (instF c d).arcs ∧ c = c ∧ d = d ∧ True) ∧
                  ∀ (g : Nat),
                    g ≤ (instF c d).sup.length →
                      (decide ((↑g : Int) < (↑(someF (fun (x : Int) => x + (1 : Int)) g (instF c d).sup).length : Int)) = true →
                          ((0 : Int) ≤ (↑g : Int) ∧ (↑g : Int) < (↑(someF (fun (x : Int) => x + (1 : Int)) g (instF c d).sup).length : Int)) ∧
                            (↑g : Int).toNat < (someF (fun (x : Int) => x + (1 : Int)) g (instF c d).sup).length ∧
                              ∀ (x : Int),
                                (someF (fun (x : Int) => x + (1 : Int)) g (instF c d).sup)[(↑g : Int).toNat]? = some x →
                                  ((0 : Int) ≤ (↑g : Int) ∧ (↑g : Int) < (↑(someF (fun (x : Int) => x + (1 : Int)) g (instF c d).sup).length : Int)) ∧
                                    (↑g : Int).toNat < (someF (fun (x : Int) => x + (1 : Int)) g (instF c d).sup).length ∧
                                      ∃ (g' : Nat),
                                        g' ≤ (instF c d).sup.length ∧
                                          (instF c d).sup.length - g' < (instF c d).sup.length - g ∧
                                            (True ∧
                                                True ∧
                                                  (0 : Nat) = (0 : Nat) ∧
                                                    (0 : Nat) = (0 : Nat) ∧ true = true ∧ (0 : Nat) = (0 : Nat) ∧ IntKind.i64.wrap ((↑g : Int) + (1 : Int)) = (↑g' : Int) ∧ True) ∧
                                              (True ∧ True ∧ True) ∧
                                                (instF c d).sup = (instF c d).sup ∧
                                                  someF (fun (a : Arc) => { src := a.src, dst := a.dst, low := (9 : Int), cap := a.cap, cost := a.cost : Arc }) (0 : Nat)
                                                        (instF c d).arcs =
                                                      someF (fun (a : Arc) => { src := a.src, dst := a.dst, low := (9 : Int), cap := a.cap, cost := a.cost : Arc }) (0 : Nat)
                                                        (instF c d).arcs ∧
                                                    (True ∧ True ∧ True) ∧
                                                      (someF (fun (x : Int) => x + (1 : Int)) g (instF c d).sup).set (↑g : Int).toNat (IntKind.i64.wrap (x + (1 : Int))) =
                                                          someF (fun (x : Int) => x + (1 : Int)) g' (instF c d).sup ∧
                                                        (instF c d).arcs = (instF c d).arcs ∧
                                                          (True ∧ True ∧ True) ∧ (instF c d).sup = (instF c d).sup ∧ (instF c d).arcs = (instF c d).arcs ∧ c = c ∧ d = d ∧ True) ∧
                        (decide ((↑g : Int) < (↑(someF (fun (x : Int) => x + (1 : Int)) g (instF c d).sup).length : Int)) = false →
                          ∃ (g0 : Nat),
                            (g0 ≤ (instF c d).arcs.length ∧
                                (True ∧ True ∧ (0 : Nat) = (0 : Nat) ∧ (0 : Nat) = (0 : Nat) ∧ true = true ∧ (0 : Nat) = (0 : Nat) ∧ (0 : Int) = (↑g0 : Int) ∧ True) ∧
                                  (True ∧ True ∧ True) ∧
                                    (instF c d).sup = (instF c d).sup ∧
                                      someF (fun (a : Arc) => { src := a.src, dst := a.dst, low := (9 : Int), cap := a.cap, cost := a.cost : Arc }) (0 : Nat) (instF c d).arcs =
                                          someF (fun (a : Arc) => { src := a.src, dst := a.dst, low := (9 : Int), cap := a.cap, cost := a.cost : Arc }) (0 : Nat) (instF c d).arcs ∧
                                        (True ∧ True ∧ True) ∧
                                          someF (fun (x : Int) => x + (1 : Int)) g (instF c d).sup = someF (fun (x : Int) => x + (1 : Int)) (instF c d).sup.length (instF c d).sup ∧
                                            (instF c d).arcs =
                                                someF (fun (a : Arc) => { src := a.src, dst := a.dst, low := a.low, cap := (7 : Int), cost := a.cost : Arc }) g0 (instF c d).arcs ∧
                                              (True ∧ True ∧ True) ∧ (instF c d).sup = (instF c d).sup ∧ (instF c d).arcs = (instF c d).arcs ∧ c = c ∧ d = d ∧ True) ∧
                              ∀ (g : Nat),
                                g ≤ (instF c d).arcs.length →
                                  (decide
                                          ((↑g : Int) <
                                            (↑(someF (fun (a : Arc) => { src := a.src, dst := a.dst, low := a.low, cap := (7 : Int), cost := a.cost : Arc }) g (instF c d).arcs).length :
                                              Int)) =
                                        true →
                                      ((0 : Int) ≤ (↑g : Int) ∧
                                          (↑g : Int) <
                                            (↑(someF (fun (a : Arc) => { src := a.src, dst := a.dst, low := a.low, cap := (7 : Int), cost := a.cost : Arc }) g (instF c d).arcs).length :
                                              Int)) ∧
                                        (↑g : Int).toNat <
                                            (someF (fun (a : Arc) => { src := a.src, dst := a.dst, low := a.low, cap := (7 : Int), cost := a.cost : Arc }) g (instF c d).arcs).length ∧
                                          ∀ (x : Arc),
                                            (someF (fun (a : Arc) => { src := a.src, dst := a.dst, low := a.low, cap := (7 : Int), cost := a.cost : Arc }) g
                                                    (instF c d).arcs)[(↑g : Int).toNat]? =
                                                some x →
                                              ∃ (g' : Nat),
                                                g' ≤ (instF c d).arcs.length ∧
                                                  (instF c d).arcs.length - g' < (instF c d).arcs.length - g ∧
                                                    (True ∧
                                                        True ∧
                                                          (0 : Nat) = (0 : Nat) ∧
                                                            (0 : Nat) = (0 : Nat) ∧
                                                              true = true ∧ (0 : Nat) = (0 : Nat) ∧ IntKind.i64.wrap ((↑g : Int) + (1 : Int)) = (↑g' : Int) ∧ True) ∧
                                                      (True ∧ True ∧ True) ∧
                                                        (instF c d).sup = (instF c d).sup ∧
                                                          someF (fun (a : Arc) => { src := a.src, dst := a.dst, low := (9 : Int), cap := a.cap, cost := a.cost : Arc }) (0 : Nat)
                                                                (instF c d).arcs =
                                                              someF (fun (a : Arc) => { src := a.src, dst := a.dst, low := (9 : Int), cap := a.cap, cost := a.cost : Arc }) (0 : Nat)
                                                                (instF c d).arcs ∧
                                                            (True ∧ True ∧ True) ∧
                                                              someF (fun (x : Int) => x + (1 : Int)) (instF c d).sup.length (instF c d).sup =
                                                                  someF (fun (x : Int) => x + (1 : Int)) (instF c d).sup.length (instF c d).sup ∧
                                                                (someF (fun (a : Arc) => { src := a.src, dst := a.dst, low := a.low, cap := (7 : Int), cost := a.cost : Arc }) g
                                                                          (instF c d).arcs).set
                                                                      (↑g : Int).toNat { src := x.src, dst := x.dst, low := x.low, cap := (7 : Int), cost := x.cost : Arc } =
                                                                    someF (fun (a : Arc) => { src := a.src, dst := a.dst, low := a.low, cap := (7 : Int), cost := a.cost : Arc }) g'
                                                                      (instF c d).arcs ∧
                                                                  (True ∧ True ∧ True) ∧ (instF c d).sup = (instF c d).sup ∧ (instF c d).arcs = (instF c d).arcs ∧ c = c ∧ d = d ∧ True) ∧
                                    (decide
                                          ((↑g : Int) <
                                            (↑(someF (fun (a : Arc) => { src := a.src, dst := a.dst, low := a.low, cap := (7 : Int), cost := a.cost : Arc }) g (instF c d).arcs).length :
                                              Int)) =
                                        false →
                                      ∃ (g0 : Nat),
                                        (g0 ≤ (instF c d).arcs.length ∧
                                            (True ∧ True ∧ (0 : Nat) = (0 : Nat) ∧ (0 : Nat) = (0 : Nat) ∧ true = true ∧ (0 : Nat) = (0 : Nat) ∧ (0 : Int) = (↑g0 : Int) ∧ True) ∧
                                              (True ∧ True ∧ True) ∧
                                                (instF c d).sup = (instF c d).sup ∧
                                                  someF (fun (a : Arc) => { src := a.src, dst := a.dst, low := (9 : Int), cap := a.cap, cost := a.cost : Arc }) (0 : Nat)
                                                        (instF c d).arcs =
                                                      someF (fun (a : Arc) => { src := a.src, dst := a.dst, low := (9 : Int), cap := a.cap, cost := a.cost : Arc }) g0 (instF c d).arcs ∧
                                                    (True ∧ True ∧ True) ∧
                                                      someF (fun (x : Int) => x + (1 : Int)) (instF c d).sup.length (instF c d).sup =
                                                          someF (fun (x : Int) => x + (1 : Int)) (instF c d).sup.length (instF c d).sup ∧
                                                        someF (fun (a : Arc) => { src := a.src, dst := a.dst, low := a.low, cap := (7 : Int), cost := a.cost : Arc }) g (instF c d).arcs =
                                                            someF (fun (a : Arc) => { src := a.src, dst := a.dst, low := a.low, cap := (7 : Int), cost := a.cost : Arc })
                                                              (instF c d).arcs.length (instF c d).arcs ∧
                                                          (True ∧ True ∧ True) ∧ (instF c d).sup = (instF c d).sup ∧ (instF c d).arcs = (instF c d).arcs ∧ c = c ∧ d = d ∧ True) ∧
                                          ∀ (g : Nat),
                                            g ≤ (instF c d).arcs.length →
                                              (decide
                                                      ((↑g : Int) <
                                                        (↑(someF (fun (a : Arc) => { src := a.src, dst := a.dst, low := (9 : Int), cap := a.cap, cost := a.cost : Arc }) g
                                                                (instF c d).arcs).length :
                                                          Int)) =
                                                    true →
                                                  ((0 : Int) ≤ (↑g : Int) ∧
                                                      (↑g : Int) <
                                                        (↑(someF (fun (a : Arc) => { src := a.src, dst := a.dst, low := (9 : Int), cap := a.cap, cost := a.cost : Arc }) g
                                                                (instF c d).arcs).length :
                                                          Int)) ∧
                                                    (↑g : Int).toNat <
                                                        (someF (fun (a : Arc) => { src := a.src, dst := a.dst, low := (9 : Int), cap := a.cap, cost := a.cost : Arc }) g
                                                            (instF c d).arcs).length ∧
                                                      ∀ (x : Arc),
                                                        (someF (fun (a : Arc) => { src := a.src, dst := a.dst, low := (9 : Int), cap := a.cap, cost := a.cost : Arc }) g
                                                                (instF c d).arcs)[(↑g : Int).toNat]? =
                                                            some x →
                                                          ∃ (g' : Nat),
                                                            g' ≤ (instF c d).arcs.length ∧
                                                              (instF c d).arcs.length - g' < (instF c d).arcs.length - g ∧
                                                                (True ∧
                                                                    True ∧
                                                                      (0 : Nat) = (0 : Nat) ∧
                                                                        (0 : Nat) = (0 : Nat) ∧
                                                                          true = true ∧ (0 : Nat) = (0 : Nat) ∧ IntKind.i64.wrap ((↑g : Int) + (1 : Int)) = (↑g' : Int) ∧ True) ∧
                                                                  (True ∧ True ∧ True) ∧
                                                                    (instF c d).sup = (instF c d).sup ∧
                                                                      (someF (fun (a : Arc) => { src := a.src, dst := a.dst, low := (9 : Int), cap := a.cap, cost := a.cost : Arc }) g
                                                                                (instF c d).arcs).set
                                                                            (↑g : Int).toNat { src := x.src, dst := x.dst, low := (9 : Int), cap := x.cap, cost := x.cost : Arc } =
                                                                          someF (fun (a : Arc) => { src := a.src, dst := a.dst, low := (9 : Int), cap := a.cap, cost := a.cost : Arc }) g'
                                                                            (instF c d).arcs ∧
                                                                        (True ∧ True ∧ True) ∧
                                                                          someF (fun (x : Int) => x + (1 : Int)) (instF c d).sup.length (instF c d).sup =
                                                                              someF (fun (x : Int) => x + (1 : Int)) (instF c d).sup.length (instF c d).sup ∧
                                                                            someF (fun (a : Arc) => { src := a.src, dst := a.dst, low := a.low, cap := (7 : Int), cost := a.cost : Arc })
                                                                                  (instF c d).arcs.length (instF c d).arcs =
                                                                                someF
                                                                                  (fun (a : Arc) => { src := a.src, dst := a.dst, low := a.low, cap := (7 : Int), cost := a.cost : Arc })
                                                                                  (instF c d).arcs.length (instF c d).arcs ∧
                                                                              (True ∧ True ∧ True) ∧
                                                                                (instF c d).sup = (instF c d).sup ∧ (instF c d).arcs = (instF c d).arcs ∧ c = c ∧ d = d ∧ True) ∧
                                                (decide
                                                      ((↑g : Int) <
                                                        (↑(someF (fun (a : Arc) => { src := a.src, dst := a.dst, low := (9 : Int), cap := a.cap, cost := a.cost : Arc }) g
                                                                (instF c d).arcs).length :
                                                          Int)) =
                                                    false →
                                                  True ∧
                                                    (true = true →
                                                        (true = true →
                                                            (Bytes c ∧ Bytes d ∧ c.length ≤ maxLen ∧ d.length ≤ maxLen) ∧
                                                              ((instF c d).sup.length ≤ (1000000000 : Nat) ∧ (instF c d).arcs.length ≤ (1000000000 : Nat)) ∧
                                                                (decide (instF c d = instF c d) = true →
                                                                    ((instF c d).sup.length ≤ (1000000000 : Nat) ∧ (instF c d).arcs.length ≤ (1000000000 : Nat)) ∧
                                                                      ((!decide
                                                                                (instF c d =
                                                                                  { sup := someF (fun (x : Int) => x + (1 : Int)) (instF c d).sup.length (instF c d).sup,
                                                                                    arcs :=
                                                                                      someF
                                                                                        (fun (a : Arc) =>
                                                                                          { src := a.src, dst := a.dst, low := a.low, cap := (7 : Int), cost := a.cost : Arc })
                                                                                        (instF c d).arcs.length (instF c d).arcs :
                                                                                    Inst })) =
                                                                            true ∧
                                                                          True) ∧
                                                                        True) ∧
                                                                  (decide (instF c d = instF c d) = false → (false = true ∧ True) ∧ True)) ∧
                                                          (true = false → (false = true ∧ True) ∧ True)) ∧
                                                      (true = false → (false = true ∧ True) ∧ True))))
theorem InstCopy_q (c : List Int) (d : List Int) (ty0 ty1 : TypeId) : InstCopy_E0 c d ty0 ty1 = FVcP TT InstCopy_g (InstCopy_an c d) Try.f9 [.row 0, .row 1] [(0, .row false ty0 (.ints .u8 c)), (1, .row false ty1 (.ints .u8 d))] (InstCopy_r c d) := by kernel_rfl
theorem InstCopy_E (c : List Int) (d : List Int) (ty0 ty1 : TypeId) (hp : Bytes c ∧ Bytes d ∧ c.length ≤ maxLen ∧ d.length ≤ maxLen) : FVc TT InstCopy_g (InstCopy_an c d) Try.f9 [.row 0, .row 1] [(0, .row false ty0 (.ints .u8 c)), (1, .row false ty1 (.ints .u8 d))] (InstCopy_r c d) := by
  refine FVc.of (InstCopy_E0 c d ty0 ty1) (InstCopy_q c d ty0 ty1) ?_
  unfold InstCopy_E0
  obtain ⟨p1, p2, p3, p4⟩ := hp
  have l1 := instF_sup c d
  have l2 := nOf_pos d
  have l3 := nOf_le d
  have l4 := instF_arcs c d
  have hwi := instF_within c d
  have hin : ∀ a ∈ (instF c d).arcs, a.In (instF c d).sup.length := fun a ha => by
    have h := instF_nice c d a ha
    rw [l1]; exact ⟨h.s0, h.s1, h.d0, h.d1⟩
  have hno := withoutF_nothing (I := instF c d) (by omega) (by omega) hin
  simp only [hno]
  generalize instF c d = I at *
  simp only [eq_self, decide_eq_true_eq, decide_eq_false_iff_not, and_true, true_and, bne_iff_ne, ne_eq, bne_eq_false_iff_eq, Int.toNat_natCast, Bool.not_eq_true', Bool.not_eq_false', beq_iff_eq, beq_eq_false_iff_ne, nilEq_true, forall_const, false_implies, reduceCtorEq, Bool.not_true, Bool.true_eq_false, Bool.false_eq_true, implies_true]
  simp only [someF_len, someF_zero, exists_const]
  refine ⟨⟨p1, p2, p3, p4⟩, by omega, by omega, by omega, 0, ⟨by omega, rfl, trivial, by simp [someF]⟩, fun k hk => ⟨fun h1 => ⟨by omega, by omega, fun x hx => ⟨by omega, by omega, k + 1, by omega, by omega, w64 (by omega) (by omega), ?_⟩⟩, fun h1 => ⟨0, ⟨by omega, rfl, by rw [show k = I.sup.length by omega], by simp [someF]⟩, fun k2 hk2 => ⟨fun h2 => ⟨by omega, by omega, fun x hx => ⟨k2 + 1, by omega, by omega, w64 (by omega) (by omega), ?_⟩⟩, fun h2 => ⟨0, ⟨by omega, rfl, by simp [someF], by rw [show k2 = I.arcs.length by omega]⟩, fun k3 hk3 => ⟨fun h3 => ⟨by omega, by omega, fun x hx => ⟨k3 + 1, by omega, by omega, w64 (by omega) (by omega), ?_⟩⟩, fun h3 => ⟨⟨p1, p2, p3, p4⟩, by omega, ⟨by omega, fun e => ?_⟩, fun h => h trivial⟩⟩⟩⟩⟩⟩⟩
  · have hg := someF_get hx (by omega)
    have := hwi x (List.mem_of_getElem? hg)
    rw [w64 (by omega) (by omega), ← someF_step hg]
  · exact someF_step (f := fun a : Arc => { a with cap := 7 }) (someF_get hx (by omega))
  · exact someF_step (f := fun a : Arc => { a with low := 9 }) (someF_get hx (by omega))
  · have e1 := congrArg Inst.sup e
    dsimp only at e1
    rw [someF_all (Nat.le_refl _)] at e1
    have hne : 0 < I.sup.length := by omega
    have e2 := congrArg (fun l : List Int => l[0]?) e1
    simp only [List.getElem?_map, List.getElem?_eq_getElem hne, Option.map_some, Option.some.injEq] at e2
    omega

theorem InstCopy_ok : SpecOk Try.prog InstCopy_n true (specOf true InstCopy_fs) :=
  spec_ok' TT_ok (show GsOk Try.prog InstCopy_g from gsOk_cons Inst_ok (gsOk_cons Copy_ok (gsOk_cons Same_ok (gsOk_cons Without_ok (gsOk_cons known_ok (gsOk_cons rSame_ok (gsOk_nil))))))) mixedOrders Try.func9 rfl rfl (by kernel_rfl) (n := 2) (by decide +kernel) (A := InstCopy_A)
    (fun args h r hr => by
      unfold InstCopy_fs at hr
      split at hr
      · rename_i ty0 c ty1 d; cases hr; refine ⟨rfl, fun hp => ?_⟩; have hE := InstCopy_E c d ty0 ty1 hp; exact hE
      · cases hr)

end Go.Proofs.Ytimkpgkpebjglaa
