/-
  CONTRACTS, PROVED: InstAsks.
-/
import Derived.Test.YtimkpgkpebjglaaFA5
import Derived.Test.YtimkpgkpebjglaaDBInstAsks
import Derived.Test.YtimkpgkpebjglaaAid
set_option linter.unusedVariables false
set_option maxRecDepth 100000
namespace Go.Proofs.Ytimkpgkpebjglaa
open Go Go.RowKit Go.Ql Go.Vc

def InstAsks_E0 (I : Inst) (J : Inst) (nodes : List Bool) (offs : List Bool) (n : Int) (c : List Int) (d : List Int) (ty0 ty1 ty2 ty3 ty4 ty5 ty6 ty7 : TypeId) : Prop :=
      (I.sup.length ≤ (1000000000000000000 : Nat) ∧ I.arcs.length ≤ (1000000000000000000 : Nat)) ∧
        (decide ((↑I.sup.length : Int) + (2 : Int) * (↑I.arcs.length : Int) > (120 : Int)) = true → True ∧ (true = true ∧ True) ∧ True) ∧
          (decide ((↑I.sup.length : Int) + (2 : Int) * (↑I.arcs.length : Int) > (120 : Int)) = false →
            (J.sup.length ≤ (1000000000000000000 : Nat) ∧ J.arcs.length ≤ (1000000000000000000 : Nat)) ∧
              (decide ((↑J.sup.length : Int) + (2 : Int) * (↑J.arcs.length : Int) > (120 : Int)) = true → True ∧ (true = true ∧ True) ∧ True) ∧
                (decide ((↑J.sup.length : Int) + (2 : Int) * (↑J.arcs.length : Int) > (120 : Int)) = false →
                  (decide (IntKind.i64.wrap ((↑nodes.length : Int) + (↑offs.length : Int)) > (200 : Int)) = true → True ∧ (true = true ∧ True) ∧ True) ∧
                    (decide (IntKind.i64.wrap ((↑nodes.length : Int) + (↑offs.length : Int)) > (200 : Int)) = false →
                      True ∧
                        ((!true) = true → True ∧ (true = true ∧ True) ∧ True) ∧
                          ((!true) = false →
                            (Bytes c ∧ Bytes d ∧ c.length ≤ maxLen ∧ d.length ≤ maxLen) ∧
                              (I.sup.length ≤ (1000000 : Nat) ∧ I.arcs.length ≤ (1000000 : Nat) ∧ nodes.length ≤ (1000000 : Nat) ∧ offs.length ≤ (1000000 : Nat)) ∧
                                (true = true →
                                    ((instF c d).sup.length ≤ (1000000 : Nat) ∧
                                        (instF c d).arcs.length ≤ (1000000 : Nat) ∧ nodes.length ≤ (1000000 : Nat) ∧ offs.length ≤ (1000000 : Nat)) ∧
                                      (true = true →
                                          (Bytes d ∧ (↑(instF c d).sup.length : Int) ≤ (1000000 : Int)) ∧
                                            (Bytes c ∧ (↑(instF c d).arcs.length : Int) ≤ (1000000 : Int)) ∧
                                              ((instF c d).sup.length ≤ (1000000 : Nat) ∧
                                                  (instF c d).arcs.length ≤ (1000000 : Nat) ∧
                                                    (marksF d (↑(instF c d).sup.length : Int).toNat).length ≤ (1000000 : Nat) ∧
                                                      (marksF c (↑(instF c d).arcs.length : Int).toNat).length ≤ (1000000 : Nat)) ∧
                                                (true = true →
                                                    (I.sup.length ≤ (1000000 : Nat) ∧ I.arcs.length ≤ (1000000 : Nat)) ∧
                                                      (true = true →
                                                          ((instF c d).sup.length ≤ (1000000 : Nat) ∧ (instF c d).arcs.length ≤ (1000000 : Nat)) ∧
                                                            (true = true →
                                                                ((instF c d).sup.length ≤ (1000000 : Nat) ∧ (instF c d).arcs.length ≤ (1000000 : Nat)) ∧
                                                                  (true = true →
                                                                      True ∧
                                                                        True ∧
                                                                          (List.map Int.ofNat (keptF nodes (keptN n))).length ≤ (1000000000 : Nat) ∧
                                                                            (decide (List.map Int.ofNat (keptF nodes (keptN n)) = List.map Int.ofNat (keptF nodes (keptN n))) = true ∧
                                                                                True) ∧
                                                                              True) ∧
                                                                    (true = false → (false = true ∧ True) ∧ True)) ∧
                                                              (true = false → (false = true ∧ True) ∧ True)) ∧
                                                        (true = false → (false = true ∧ True) ∧ True)) ∧
                                                  (true = false → (false = true ∧ True) ∧ True)) ∧
                                        (true = false → (false = true ∧ True) ∧ True)) ∧
                                  (true = false → (false = true ∧ True) ∧ True)))))
theorem InstAsks_q (I : Inst) (J : Inst) (nodes : List Bool) (offs : List Bool) (n : Int) (c : List Int) (d : List Int) (ty0 ty1 ty2 ty3 ty4 ty5 ty6 ty7 : TypeId) : InstAsks_E0 I J nodes offs n c d ty0 ty1 ty2 ty3 ty4 ty5 ty6 ty7 = FVcP TT InstAsks_g (InstAsks_an I J nodes offs n c d) Try.f8 [.agg [.row 0, .row 1], .agg [.row 2, .row 3], .row 4, .row 5, .int .i64 n, .row 6, .row 7] [(0, .row false ty0 (.ints .i64 I.sup)), (1, .row false ty1 (.arcs I.arcs)), (2, .row false ty2 (.ints .i64 J.sup)), (3, .row false ty3 (.arcs J.arcs)), (4, .row false ty4 (.bools nodes)), (5, .row false ty5 (.bools offs)), (6, .row false ty6 (.ints .u8 c)), (7, .row false ty7 (.ints .u8 d))] (InstAsks_r I J nodes offs n c d) := by kernel_rfl
theorem InstAsks_E (I : Inst) (J : Inst) (nodes : List Bool) (offs : List Bool) (n : Int) (c : List Int) (d : List Int) (ty0 ty1 ty2 ty3 ty4 ty5 ty6 ty7 : TypeId) (hp : Bytes c ∧ Bytes d ∧ c.length ≤ maxLen ∧ d.length ≤ maxLen ∧ I.sup.length ≤ 140737488351232 ∧ I.arcs.length ≤ 140737488351232 ∧ J.sup.length ≤ 140737488351232 ∧ J.arcs.length ≤ 140737488351232 ∧ nodes.length ≤ 140737488351232 ∧ offs.length ≤ 140737488351232) : FVc TT InstAsks_g (InstAsks_an I J nodes offs n c d) Try.f8 [.agg [.row 0, .row 1], .agg [.row 2, .row 3], .row 4, .row 5, .int .i64 n, .row 6, .row 7] [(0, .row false ty0 (.ints .i64 I.sup)), (1, .row false ty1 (.arcs I.arcs)), (2, .row false ty2 (.ints .i64 J.sup)), (3, .row false ty3 (.arcs J.arcs)), (4, .row false ty4 (.bools nodes)), (5, .row false ty5 (.bools offs)), (6, .row false ty6 (.ints .u8 c)), (7, .row false ty7 (.ints .u8 d))] (InstAsks_r I J nodes offs n c d) := by
  refine FVc.of (InstAsks_E0 I J nodes offs n c d ty0 ty1 ty2 ty3 ty4 ty5 ty6 ty7) (InstAsks_q I J nodes offs n c d ty0 ty1 ty2 ty3 ty4 ty5 ty6 ty7) ?_
  unfold InstAsks_E0
  simp only [eq_self, decide_eq_true_eq, decide_eq_false_iff_not, and_true, true_and, bne_iff_ne, ne_eq, bne_eq_false_iff_eq, Int.toNat_natCast, Bool.not_eq_true', Bool.not_eq_false', beq_iff_eq, beq_eq_false_iff_ne, nilEq_true, forall_const, false_implies, reduceCtorEq, Bool.not_true, Bool.true_eq_false, Bool.false_eq_true, implies_true]
  obtain ⟨p1, p2, p3, p4, p5, p6, p7, p8, p9, p10⟩ := hp
  have l1 := instF_sup c d
  have l2 := nOf_pos d
  have l3 := nOf_le d
  have l4 := instF_arcs c d
  have hml : ∀ (c : List Int) k, (marksF c k).length ≤ k := fun c k => by unfold marksF; simp; omega
  have m1 := hml d (instF c d).sup.length
  have m2 := hml c (instF c d).arcs.length
  have hN : keptN n ≤ 1000 := by unfold keptN; omega
  have k1 := keptF_len nodes (keptN n)
  unfold maxLen at *
  refine ⟨⟨by omega, by omega⟩, fun h1 => ⟨⟨by omega, by omega⟩, fun h2 h3 => ?_⟩⟩
  rw [w64 (by omega) (by omega)] at h3
  have k2 : (List.map Int.ofNat (keptF nodes (keptN n))).length ≤ 1000 := by rw [List.length_map]; omega
  refine ⟨⟨p1, p2, by omega, by omega⟩, ⟨by omega, by omega, by omega, by omega⟩, ⟨by omega, by omega, by omega, by omega⟩, ⟨p2, by omega⟩, ⟨p1, by omega⟩, ⟨by omega, by omega, by omega, by omega⟩, ⟨by omega, by omega⟩, ⟨by omega, by omega⟩, ⟨by omega, by omega⟩, by omega⟩

theorem InstAsks_ok : SpecOk Try.prog InstAsks_n true (specOf true InstAsks_fs) :=
  spec_ok' TT_ok (show GsOk Try.prog InstAsks_g from gsOk_cons known_ok (gsOk_cons Size_ok (gsOk_cons Inst_ok (gsOk_cons asks_ok (gsOk_cons Marks_ok (gsOk_cons same_ok (gsOk_cons Ints_ok (gsOk_cons Kept_ok (gsOk_cons rKept_ok (gsOk_nil)))))))))) mixedOrders Try.func8 rfl rfl (by kernel_rfl) (n := 7) (by decide +kernel) (A := InstAsks_A)
    (fun args h r hr => by
      unfold InstAsks_fs at hr
      split at hr
      · rename_i n ty0 I_s ty1 I_a ty2 J_s ty3 J_a ty4 nodes ty5 offs ty6 c ty7 d; cases hr; refine ⟨rfl, fun hp => ?_⟩; have hE := InstAsks_E ⟨I_s, I_a⟩ ⟨J_s, J_a⟩ nodes offs n c d ty0 ty1 ty2 ty3 ty4 ty5 ty6 ty7 hp; exact hE
      · cases hr)

end Go.Proofs.Ytimkpgkpebjglaa
