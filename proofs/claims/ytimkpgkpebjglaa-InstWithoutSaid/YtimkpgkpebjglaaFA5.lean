/-
  CONTRACTS, PROVED: InstBent.
-/
import Derived.Test.YtimkpgkpebjglaaFA4
import Derived.Test.YtimkpgkpebjglaaDA5
import Derived.Test.YtimkpgkpebjglaaAid
set_option linter.unusedVariables false
set_option linter.unusedSimpArgs false
set_option maxRecDepth 100000
namespace Go.Proofs.Ytimkpgkpebjglaa
open Go Go.RowKit Go.Ql Go.Vc

def InstBent_E0 (c : List Int) (d : List Int) (x : Int) (f : Int) (n : Int) (y : Int) (g : Int) (m : Int) (ty0 ty1 : TypeId) : Prop :=
      (Bytes c ∧ Bytes d ∧ c.length ≤ maxLen ∧ d.length ≤ maxLen) ∧
        ((0 : Nat) < (instF c d).sup.length ∧
            (instF c d).sup.length ≤ (1000000 : Nat) ∧ (instF c d).arcs.length ≤ (1000000 : Nat) ∧ (0 : Int) ≤ x ∧ x ≤ (255 : Int) ∧ (0 : Int) ≤ f ∧ f ≤ (255 : Int)) ∧
          ((0 : Nat) < (bendF (instF c d) x f n).sup.length ∧
              (bendF (instF c d) x f n).sup.length ≤ (1000000 : Nat) ∧
                (bendF (instF c d) x f n).arcs.length ≤ (1000000 : Nat) ∧ (0 : Int) ≤ y ∧ y ≤ (255 : Int) ∧ (0 : Int) ≤ g ∧ g ≤ (255 : Int)) ∧
            True ∧
              (true = true → True ∧ True ∧ ((IntKind.i64.wrap (rightF (bendF (bendF (instF c d) x f n) y g m)) == rightF (bendF (bendF (instF c d) x f n) y g m)) = true ∧ True) ∧ True) ∧
                (true = false → (false = true ∧ True) ∧ True)
theorem InstBent_q (c : List Int) (d : List Int) (x : Int) (f : Int) (n : Int) (y : Int) (g : Int) (m : Int) (ty0 ty1 : TypeId) : InstBent_E0 c d x f n y g m ty0 ty1 = FVcP TT InstBent_g (InstBent_an c d x f n y g m) Try.f3 [.row 0, .row 1, .int .u8 x, .int .u8 f, .int .i64 n, .int .u8 y, .int .u8 g, .int .i64 m] [(0, .row false ty0 (.ints .u8 c)), (1, .row false ty1 (.ints .u8 d))] (InstBent_r c d x f n y g m) := by kernel_rfl
theorem InstBent_E (c : List Int) (d : List Int) (x : Int) (f : Int) (n : Int) (y : Int) (g : Int) (m : Int) (ty0 ty1 : TypeId) (hp : Bytes c ∧ Bytes d ∧ c.length ≤ maxLen ∧ d.length ≤ maxLen ∧ 0 ≤ x ∧ x ≤ 255 ∧ 0 ≤ f ∧ f ≤ 255 ∧ 0 ≤ y ∧ y ≤ 255 ∧ 0 ≤ g ∧ g ≤ 255) : FVc TT InstBent_g (InstBent_an c d x f n y g m) Try.f3 [.row 0, .row 1, .int .u8 x, .int .u8 f, .int .i64 n, .int .u8 y, .int .u8 g, .int .i64 m] [(0, .row false ty0 (.ints .u8 c)), (1, .row false ty1 (.ints .u8 d))] (InstBent_r c d x f n y g m) := by
  refine FVc.of (InstBent_E0 c d x f n y g m ty0 ty1) (InstBent_q c d x f n y g m ty0 ty1) ?_
  unfold InstBent_E0
  obtain ⟨p1, p2, p3, p4, p5⟩ := hp
  have l1 := instF_sup c d
  have l2 := nOf_pos d
  have l3 := nOf_le d
  have l4 := instF_arcs c d
  have e := rightF_small (bendF (bendF (instF c d) x f n) y g m)
  rw [w64 (by omega) (by omega)]
  simp only [bendF_sup, bendF_arcs]
  simp [p1, p2, p3, p4]
  omega

theorem InstBent_ok : SpecOk Try.prog InstBent_n true (specOf true InstBent_fs) :=
  spec_ok' TT_ok (show GsOk Try.prog InstBent_g from gsOk_cons Inst_ok (gsOk_cons bend_ok (gsOk_cons known_ok (gsOk_cons Right_ok (gsOk_cons rRight_ok (gsOk_nil)))))) mixedOrders Try.func3 rfl rfl (by kernel_rfl) (n := 8) (by decide +kernel) (A := InstBent_A)
    (fun args h r hr => by
      unfold InstBent_fs at hr
      split at hr
      · rename_i x f n y g m ty0 c ty1 d; cases hr; refine ⟨rfl, fun hp => ?_⟩; have hE := InstBent_E c d x f n y g m ty0 ty1 hp; exact hE
      · cases hr)

end Go.Proofs.Ytimkpgkpebjglaa
