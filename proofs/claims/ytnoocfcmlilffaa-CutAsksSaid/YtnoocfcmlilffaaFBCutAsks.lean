/-
  CONTRACTS, PROVED: CutAsks.
-/
import Derived.Test.YtnoocfcmlilffaaFC10
import Derived.Test.YtnoocfcmlilffaaDBCutAsks
import Derived.Test.YtnoocfcmlilffaaAid
set_option linter.unusedVariables false
set_option linter.all false
set_option linter.unusedSimpArgs false
set_option maxRecDepth 100000
namespace Go.Proofs.Ytnoocfcmlilffaa
open Go Go.RowKit Go.Ql Go.Vc

def CutAsks_E0 (I : Inst) (side : List Bool) (n : Int) (c : List Int) (d : List Int) (e : List Int) (ty0 ty1 ty2 ty3 ty4 ty5 : TypeId) : Prop :=
      (I.sup.length ≤ (1000000000000000000 : Nat) ∧ I.arcs.length ≤ (1000000000000000000 : Nat)) ∧
        (decide ((↑I.sup.length : Int) + (2 : Int) * (↑I.arcs.length : Int) > (120 : Int)) = true → True ∧ (true = true ∧ True) ∧ True) ∧
          (decide ((↑I.sup.length : Int) + (2 : Int) * (↑I.arcs.length : Int) > (120 : Int)) = false →
            (decide ((↑side.length : Int) > (200 : Int)) = true → True ∧ (true = true ∧ True) ∧ True) ∧
              (decide ((↑side.length : Int) > (200 : Int)) = false →
                True ∧
                  ((!true) = true → True ∧ (true = true ∧ True) ∧ True) ∧
                    ((!true) = false →
                      (Bytes c ∧ Bytes d ∧ c.length ≤ maxLen ∧ d.length ≤ maxLen) ∧
                        (A64a I.arcs ∧ I.arcs.length ≤ (140737488351232 : Nat) ∧ A64 I.sup ∧ I.sup.length ≤ (140737488351232 : Nat)) ∧
                          (true = true →
                              (A64a (instF c d).arcs ∧ (instF c d).arcs.length ≤ (140737488351232 : Nat) ∧ A64 (instF c d).sup ∧ (instF c d).sup.length ≤ (140737488351232 : Nat)) ∧
                                (true = true →
                                    (Bytes e ∧ (↑(instF c d).sup.length : Int) ≤ (1000000 : Int)) ∧
                                      (A64a (instF c d).arcs ∧
                                          (instF c d).arcs.length ≤ (140737488351232 : Nat) ∧ A64 (instF c d).sup ∧ (instF c d).sup.length ≤ (140737488351232 : Nat)) ∧
                                        (true = true →
                                            True ∧
                                              True ∧
                                                (otherF side (keptN n)).length ≤ (1000000000 : Nat) ∧ (decide (otherF side (keptN n) = otherF side (keptN n)) = true ∧ True) ∧ True) ∧
                                          (true = false → (false = true ∧ True) ∧ True)) ∧
                                  (true = false → (false = true ∧ True) ∧ True)) ∧
                            (true = false → (false = true ∧ True) ∧ True))))
theorem CutAsks_q (I : Inst) (side : List Bool) (n : Int) (c : List Int) (d : List Int) (e : List Int) (ty0 ty1 ty2 ty3 ty4 ty5 : TypeId) : CutAsks_E0 I side n c d e ty0 ty1 ty2 ty3 ty4 ty5 = FVcP TT CutAsks_g (CutAsks_I I side n c d e) (CutAsks_an I side n c d e) Try.f5 [.agg [.row 0, .row 1], .row 2, .int .i64 n, .row 3, .row 4, .row 5] [(0, .row false ty0 (.ints .i64 I.sup)), (1, .row false ty1 (.arcs I.arcs)), (2, .row false ty2 (.bools side)), (3, .row false ty3 (.ints .u8 c)), (4, .row false ty4 (.ints .u8 d)), (5, .row false ty5 (.ints .u8 e))] (CutAsks_r I side n c d e) := by kernel_rfl
theorem CutAsks_E (I : Inst) (side : List Bool) (n : Int) (c : List Int) (d : List Int) (e : List Int) (ty0 ty1 ty2 ty3 ty4 ty5 : TypeId) (hp : I.sup.length ≤ 140737488351232 ∧ I.arcs.length ≤ 140737488351232 ∧ side.length ≤ 140737488351232 ∧ A64 I.sup ∧ A64a I.arcs ∧ Bytes c ∧ Bytes d ∧ c.length ≤ maxLen ∧ d.length ≤ maxLen ∧ Bytes e ∧ e.length ≤ maxLen) : FVc TT CutAsks_g (CutAsks_I I side n c d e) (CutAsks_an I side n c d e) Try.f5 [.agg [.row 0, .row 1], .row 2, .int .i64 n, .row 3, .row 4, .row 5] [(0, .row false ty0 (.ints .i64 I.sup)), (1, .row false ty1 (.arcs I.arcs)), (2, .row false ty2 (.bools side)), (3, .row false ty3 (.ints .u8 c)), (4, .row false ty4 (.ints .u8 d)), (5, .row false ty5 (.ints .u8 e))] (CutAsks_r I side n c d e) := by
  refine FVc.of (CutAsks_E0 I side n c d e ty0 ty1 ty2 ty3 ty4 ty5) (CutAsks_q I side n c d e ty0 ty1 ty2 ty3 ty4 ty5) ?_
  unfold CutAsks_E0
  obtain ⟨p1, p2, p3, p4, p5, p6, p7, p8, p9, p10, p11⟩ := hp
  have l1 := instF_sup c d
  have l2 := nOf_pos d
  have l3 := nOf_le d
  have l4 := instF_arcs c d
  have q1 := instF_A64 c d
  have q2 := instF_A64a c d
  have hM : keptN n ≤ 1000 := by unfold keptN; omega
  have ho := otherF_len side (keptN n)
  simp only [eq_self, exists_const, forall_const, decide_eq_true_eq, decide_eq_false_iff_not, and_true, true_and, bne_iff_ne, ne_eq, bne_eq_false_iff_eq, Int.toNat_natCast, Bool.not_eq_true', Bool.not_eq_false', beq_iff_eq, beq_eq_false_iff_ne, nilEq_true]
  simp only [false_implies, reduceCtorEq, Bool.not_true, Bool.true_eq_false, Bool.false_eq_true, implies_true, and_true, true_and]
  refine ⟨by omega, fun h1 h2 => ⟨⟨p6, p7, p8, p9⟩, ⟨p5, p2, p4, p1⟩, ⟨q2, by omega, q1, by omega⟩, ⟨p10, by omega⟩, ⟨q2, by omega, q1, by omega⟩, by omega⟩⟩

theorem CutAsks_ok : SpecOk Try.prog CutAsks_n true (specOf true CutAsks_fs) :=
  spec_ok' TT_ok (show GsOk Try.prog CutAsks_g from gsOk_cons Size_ok (gsOk_cons known10_ok (gsOk_cons Inst_ok (gsOk_cons asks10_ok (gsOk_cons Marks_ok (gsOk_cons Other_ok (gsOk_cons rOther_ok (gsOk_cons Bools_ok (gsOk_nil))))))))) (by kernel_rfl) mixedOrders Try.func5 rfl rfl (by kernel_rfl) (n := 6) (by decide +kernel) (I := CutAsks_IA) (fun _ _ => isOk_nil) (A := CutAsks_A)
    (fun args h r hr => by
      unfold CutAsks_fs at hr
      split at hr
      · rename_i n ty0 I_s ty1 I_a ty2 side ty3 c ty4 d ty5 e; cases hr; refine ⟨rfl, fun hp => ?_⟩; have hE := CutAsks_E ⟨I_s, I_a⟩ side n c d e ty0 ty1 ty2 ty3 ty4 ty5 hp; exact hE
      · cases hr)

end Go.Proofs.Ytnoocfcmlilffaa
