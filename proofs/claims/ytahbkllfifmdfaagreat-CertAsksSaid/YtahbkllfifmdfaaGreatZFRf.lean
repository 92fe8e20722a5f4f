/- Part of the proof, FRf. -/
import Derived.Test.YtahbkllfifmdfaaGreatZFA4
import Derived.Test.YtahbkllfifmdfaaGreatZFN1
import Derived.Test.YtahbkllfifmdfaaGreatZDRf
import Derived.Test.YtahbkllfifmdfaaGreatZVc11
set_option linter.unusedVariables false
set_option linter.all false
set_option linter.unusedSimpArgs false
set_option maxRecDepth 100000
namespace Go.Proofs.YtahbkllfifmdfaaGreat
open Go Go.RowKit Go.Ql Go.Vc
def rfit_E0 (I : Inst) (a : Int) (ty0 ty1 : TypeId) : Prop :=
      (decide (a < (0 : Int)) = true → (false = gOk (↑I.sup.length : Int) I.arcs a ∧ True) ∧ True) ∧
 (decide (a < (0 : Int)) = false →
 (decide (a ≥ (↑I.arcs.length : Int)) = true → (false = gOk (↑I.sup.length : Int) I.arcs a ∧ True) ∧ True) ∧
 (decide (a ≥ (↑I.arcs.length : Int)) = false →
 ((0 : Int) ≤ a ∧ a < (↑I.arcs.length : Int)) ∧
 a.toNat < I.arcs.length ∧
 ∀ (x : Arc),
 I.arcs[a.toNat]? = some x →
 (decide (x.src ≥ (0 : Int)) = true →
 (decide (x.src < (↑I.sup.length : Int)) = true →
 (decide (x.dst ≥ (0 : Int)) = true → (decide (x.dst < (↑I.sup.length : Int)) = gOk (↑I.sup.length : Int) I.arcs a ∧ True) ∧ True) ∧
 (decide (x.dst ≥ (0 : Int)) = false → (false = gOk (↑I.sup.length : Int) I.arcs a ∧ True) ∧ True)) ∧
 (decide (x.src < (↑I.sup.length : Int)) = false → (false = gOk (↑I.sup.length : Int) I.arcs a ∧ True) ∧ True)) ∧
 (decide (x.src ≥ (0 : Int)) = false → (false = gOk (↑I.sup.length : Int) I.arcs a ∧ True) ∧ True)))
theorem rfit_q (I : Inst) (a : Int) (ty0 ty1 : TypeId) : rfit_E0 I a ty0 ty1 = FVcP TT rfit_g (rfit_I I a) (rfit_an I a) Tryz.f107 [.agg [.row 0, .row 1], .int .i64 a] [(0, .row false ty0 (.ints .i64 I.sup)), (1, .row false ty1 (.arcs I.arcs))] (rfit_r I a) := by kernel_rfl
theorem rfit_E (I : Inst) (a : Int) (ty0 ty1 : TypeId) (hp : True) : FVc TT rfit_g (rfit_I I a) (rfit_an I a) Tryz.f107 [.agg [.row 0, .row 1], .int .i64 a] [(0, .row false ty0 (.ints .i64 I.sup)), (1, .row false ty1 (.arcs I.arcs))] (rfit_r I a) := by
  refine FVc.of (rfit_E0 I a ty0 ty1) (rfit_q I a ty0 ty1) ?_
  unfold rfit_E0
  simp only [eq_self, exists_const, forall_const, decide_eq_true_eq, decide_eq_false_iff_not, and_true, true_and, bne_iff_ne, ne_eq, bne_eq_false_iff_eq, Int.toNat_natCast, Bool.not_eq_true', Bool.not_eq_false', beq_iff_eq, beq_eq_false_iff_ne, nilEq_true]
  refine ⟨fun h => (gOk_out (.inl h)).symm, fun h => ⟨fun h2 => (gOk_out (.inr h2)).symm, fun h2 => ⟨by omega, by omega, fun x hx => ?_⟩⟩⟩
  rw [gOk_at (by omega) hx]
  unfold okArc
  refine ⟨fun h3 => ⟨fun h4 => ⟨fun h5 => ?_, fun h5 => ?_⟩, fun h4 => ?_⟩, fun h3 => ?_⟩
  · simp [show 0 ≤ x.src from h3, h4, show 0 ≤ x.dst from h5]
  · simp; omega
  · simp; omega
  · simp; omega
theorem rfit_ok : SpecOk Tryz.prog rfit_n true (specOf true rfit_fs) :=
  spec_ok' TT_ok (show GsOk Tryz.prog rfit_g from gsOk_nil) (by kernel_rfl) mixedOrders Tryz.func107 rfl rfl (by kernel_rfl) (n := 2) (by decide +kernel) (I := rfit_IA) (fun _ _ => isOk_nil) (A := rfit_A)
    (fun args h r hr => by
      unfold rfit_fs at hr
      split at hr
      · rename_i a ty0 I_s ty1 I_a; cases hr; refine ⟨rfl, fun hp => ?_⟩; have hE := rfit_E ⟨I_s, I_a⟩ a ty0 ty1 hp; exact hE
      · cases hr)
end Go.Proofs.YtahbkllfifmdfaaGreat
