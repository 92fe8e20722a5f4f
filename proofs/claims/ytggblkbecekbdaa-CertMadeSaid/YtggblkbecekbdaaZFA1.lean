/- Part of the proof, FA1. -/
import Derived.Test.YtggblkbecekbdaaZDA1
import Derived.Test.YtggblkbecekbdaaZVc11
set_option linter.unusedVariables false
set_option linter.all false
set_option linter.unusedSimpArgs false
set_option maxRecDepth 100000
namespace Go.Proofs.Ytggblkbecekbdaa
open Go Go.RowKit Go.Ql Go.Vc
def isNode_E0 (n : Int) (m : Int) : Prop :=
      (decide (n ≥ (0 : Int)) = true → (decide (n < m) = (decide ((0 : Int) ≤ n) && decide (n < m)) ∧ True) ∧ True) ∧
 (decide (n ≥ (0 : Int)) = false → (false = (decide ((0 : Int) ≤ n) && decide (n < m)) ∧ True) ∧ True)
theorem isNode_q (n : Int) (m : Int) : isNode_E0 n m = FVcP TT isNode_g (isNode_I n m) (isNode_an n m) Try.f94 [.int .i64 n, .int .i64 m] [] (isNode_r n m) := by kernel_rfl
theorem isNode_E (n : Int) (m : Int) (hp : True) : FVc TT isNode_g (isNode_I n m) (isNode_an n m) Try.f94 [.int .i64 n, .int .i64 m] [] (isNode_r n m) := by
  refine FVc.of (isNode_E0 n m) (isNode_q n m) ?_
  unfold isNode_E0
  simp; grind
theorem isNode_ok : SpecOk Try.prog isNode_n true (specOf true isNode_fs) :=
  spec_ok' TT_ok (show GsOk Try.prog isNode_g from gsOk_nil) (by kernel_rfl) mixedOrders Try.func94 rfl rfl (by kernel_rfl) (n := 2) (by decide +kernel) (I := isNode_IA) (fun _ _ => isOk_nil) (A := isNode_A)
    (fun args h r hr => by
      unfold isNode_fs at hr
      split at hr
      · rename_i n m; cases hr; refine ⟨rfl, fun hp => ?_⟩; have hE := isNode_E n m hp; exact hE
      · cases hr)
def rightArc_E0 (x : Arc) (m : Int) : Prop :=
      True ∧
 ((!(decide ((0 : Int) ≤ x.src) && decide (x.src < m))) = true → ((21 : Int) = rightArcF x m ∧ True) ∧ True) ∧
 ((!(decide ((0 : Int) ≤ x.src) && decide (x.src < m))) = false →
 True ∧
 ((!(decide ((0 : Int) ≤ x.dst) && decide (x.dst < m))) = true → ((21 : Int) = rightArcF x m ∧ True) ∧ True) ∧
 ((!(decide ((0 : Int) ≤ x.dst) && decide (x.dst < m))) = false →
 (decide (x.low < (0 : Int)) = true → ((22 : Int) = rightArcF x m ∧ True) ∧ True) ∧
 (decide (x.low < (0 : Int)) = false →
 (decide (x.low > (4398046511104 : Int)) = true → ((22 : Int) = rightArcF x m ∧ True) ∧ True) ∧
 (decide (x.low > (4398046511104 : Int)) = false →
 ((x.cap != (4611686018427387904 : Int)) = true →
 (decide (x.cap < x.low) = true → ((22 : Int) = rightArcF x m ∧ True) ∧ True) ∧
 (decide (x.cap < x.low) = false →
 (decide (x.cap > (4398046511104 : Int)) = true → ((22 : Int) = rightArcF x m ∧ True) ∧ True) ∧
 (decide (x.cap > (4398046511104 : Int)) = false →
 (decide (x.cost < (-4398046511104 : Int)) = true → ((23 : Int) = rightArcF x m ∧ True) ∧ True) ∧
 (decide (x.cost < (-4398046511104 : Int)) = false →
 (decide (x.cost > (4398046511104 : Int)) = true → ((23 : Int) = rightArcF x m ∧ True) ∧ True) ∧
 (decide (x.cost > (4398046511104 : Int)) = false → ((0 : Int) = rightArcF x m ∧ True) ∧ True))))) ∧
 ((x.cap != (4611686018427387904 : Int)) = false →
 (decide (x.cost < (-4398046511104 : Int)) = true → ((23 : Int) = rightArcF x m ∧ True) ∧ True) ∧
 (decide (x.cost < (-4398046511104 : Int)) = false →
 (decide (x.cost > (4398046511104 : Int)) = true → ((23 : Int) = rightArcF x m ∧ True) ∧ True) ∧
 (decide (x.cost > (4398046511104 : Int)) = false → ((0 : Int) = rightArcF x m ∧ True) ∧ True)))))))
theorem rightArc_q (x : Arc) (m : Int) : rightArc_E0 x m = FVcP TT rightArc_g (rightArc_I x m) (rightArc_an x m) Try.f53 [.agg (encArc x), .int .i64 m] [] (rightArc_r x m) := by kernel_rfl
theorem rightArc_E (x : Arc) (m : Int) (hp : True) : FVc TT rightArc_g (rightArc_I x m) (rightArc_an x m) Try.f53 [.agg (encArc x), .int .i64 m] [] (rightArc_r x m) := by
  refine FVc.of (rightArc_E0 x m) (rightArc_q x m) ?_
  unfold rightArc_E0
  simp; unfold rightArcF; grind
theorem rightArc_ok : SpecOk Try.prog rightArc_n true (specOf true rightArc_fs) :=
  spec_ok' TT_ok (show GsOk Try.prog rightArc_g from gsOk_cons isNode_ok (gsOk_nil)) (by kernel_rfl) mixedOrders Try.func53 rfl rfl (by kernel_rfl) (n := 2) (by decide +kernel) (I := rightArc_IA) (fun _ _ => isOk_nil) (A := rightArc_A)
    (fun args h r hr => by
      unfold rightArc_fs at hr
      split at hr
      · rename_i x_0 x_1 x_2 x_3 x_4 m; cases hr; refine ⟨rfl, fun hp => ?_⟩; have hE := rightArc_E ⟨x_0, x_1, x_2, x_3, x_4⟩ m hp; exact hE
      · cases hr)
def CopyF1_E0 (n : Int) : Prop :=
      (true = true ∧ True) ∧ True
theorem CopyF1_q (n : Int) : CopyF1_E0 n = FVcP TT CopyF1_g (CopyF1_I n) (CopyF1_an n) Try.f102 [.int .i64 n] [] (CopyF1_r n) := by kernel_rfl
theorem CopyF1_E (n : Int) (hp : True) : FVc TT CopyF1_g (CopyF1_I n) (CopyF1_an n) Try.f102 [.int .i64 n] [] (CopyF1_r n) := by
  refine FVc.of (CopyF1_E0 n) (CopyF1_q n) ?_
  unfold CopyF1_E0
  simp
theorem CopyF1_ok : SpecOk Try.prog CopyF1_n true (specOf true CopyF1_fs) :=
  spec_ok' TT_ok (show GsOk Try.prog CopyF1_g from gsOk_nil) (by kernel_rfl) mixedOrders Try.func102 rfl rfl (by kernel_rfl) (n := 1) (by decide +kernel) (I := CopyF1_IA) (fun _ _ => isOk_nil) (A := CopyF1_A)
    (fun args h r hr => by
      unfold CopyF1_fs at hr
      split at hr
      · rename_i n; cases hr; refine ⟨rfl, fun hp => ?_⟩; have hE := CopyF1_E n hp; exact hE
      · cases hr)
def CopyF2_E0 (x : Arc) : Prop :=
      (true = true ∧ True) ∧ True
theorem CopyF2_q (x : Arc) : CopyF2_E0 x = FVcP TT CopyF2_g (CopyF2_I x) (CopyF2_an x) Try.f104 [.agg (encArc x)] [] (CopyF2_r x) := by kernel_rfl
theorem CopyF2_E (x : Arc) (hp : True) : FVc TT CopyF2_g (CopyF2_I x) (CopyF2_an x) Try.f104 [.agg (encArc x)] [] (CopyF2_r x) := by
  refine FVc.of (CopyF2_E0 x) (CopyF2_q x) ?_
  unfold CopyF2_E0
  simp
theorem CopyF2_ok : SpecOk Try.prog CopyF2_n true (specOf true CopyF2_fs) :=
  spec_ok' TT_ok (show GsOk Try.prog CopyF2_g from gsOk_nil) (by kernel_rfl) mixedOrders Try.func104 rfl rfl (by kernel_rfl) (n := 1) (by decide +kernel) (I := CopyF2_IA) (fun _ _ => isOk_nil) (A := CopyF2_A)
    (fun args h r hr => by
      unfold CopyF2_fs at hr
      split at hr
      · rename_i x_0 x_1 x_2 x_3 x_4; cases hr; refine ⟨rfl, fun hp => ?_⟩; have hE := CopyF2_E ⟨x_0, x_1, x_2, x_3, x_4⟩ hp; exact hE
      · cases hr)
end Go.Proofs.Ytggblkbecekbdaa
