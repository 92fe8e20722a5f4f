/- Part of the proof, FU15. -/
import Derived.Test.YtahbkllfifmdfaaZFT15
import Derived.Test.YtahbkllfifmdfaaZFRf
import Derived.Test.YtahbkllfifmdfaaZDU15
import Derived.Test.YtahbkllfifmdfaaZVc11
set_option linter.unusedVariables false
set_option linter.all false
set_option linter.unusedSimpArgs false
set_option maxRecDepth 100000
namespace Go.Proofs.Ytahbkllfifmdfaa
open Go Go.RowKit Go.Ql Go.Vc
def pass15_E0 (k : Int) (I : Inst) (ty0 ty1 : TypeId) : Prop :=
      (4 : Int) ≠ (0 : Int) ∧
 ((k.tmod (4 : Int) == (0 : Int)) = true →
 (I.sup.length ≤ (1000000 : Nat) ∧ I.arcs.length ≤ (1000000 : Nat)) ∧
 (((True ∧
 True ∧
 (lowS I).fst.pass = (passK k I).fst.pass ∧
 True ∧ True ∧ (lowS I).fst.off.hi = (passK k I).fst.off.hi ∧ (lowS I).fst.off.lo = (passK k I).fst.off.lo ∧ (lowS I).fst.did = (passK k I).fst.did ∧ True) ∧
 (lowS I).snd = (passK k I).snd ∧ True) ∧
 True) ∧
 (lowS I).fst.inst.sup = (passK k I).fst.inst.sup ∧
 (lowS I).fst.inst.arcs = (passK k I).fst.inst.arcs ∧ (lowS I).fst.was.sup = (passK k I).fst.was.sup ∧ (lowS I).fst.was.arcs = (passK k I).fst.was.arcs ∧ True) ∧
 ((k.tmod (4 : Int) == (0 : Int)) = false →
 ((k.tmod (4 : Int) == (1 : Int)) = true →
 (I.sup.length ≤ (1000000 : Nat) ∧ I.arcs.length ≤ (1000000 : Nat)) ∧
 (((True ∧
 True ∧
 (loopS I).fst.pass = (passK k I).fst.pass ∧
 True ∧
 True ∧ (loopS I).fst.off.hi = (passK k I).fst.off.hi ∧ (loopS I).fst.off.lo = (passK k I).fst.off.lo ∧ (loopS I).fst.did = (passK k I).fst.did ∧ True) ∧
 (loopS I).snd = (passK k I).snd ∧ True) ∧
 True) ∧
 (loopS I).fst.inst.sup = (passK k I).fst.inst.sup ∧
 (loopS I).fst.inst.arcs = (passK k I).fst.inst.arcs ∧ (loopS I).fst.was.sup = (passK k I).fst.was.sup ∧ (loopS I).fst.was.arcs = (passK k I).fst.was.arcs ∧ True) ∧
 ((k.tmod (4 : Int) == (1 : Int)) = false →
 ((k.tmod (4 : Int) == (2 : Int)) = true →
 (I.sup.length ≤ (1000000 : Nat) ∧ I.arcs.length ≤ (1000000 : Nat)) ∧
 (((True ∧
 True ∧
 (fixS I).fst.pass = (passK k I).fst.pass ∧
 True ∧
 True ∧ (fixS I).fst.off.hi = (passK k I).fst.off.hi ∧ (fixS I).fst.off.lo = (passK k I).fst.off.lo ∧ (fixS I).fst.did = (passK k I).fst.did ∧ True) ∧
 (fixS I).snd = (passK k I).snd ∧ True) ∧
 True) ∧
 (fixS I).fst.inst.sup = (passK k I).fst.inst.sup ∧
 (fixS I).fst.inst.arcs = (passK k I).fst.inst.arcs ∧ (fixS I).fst.was.sup = (passK k I).fst.was.sup ∧ (fixS I).fst.was.arcs = (passK k I).fst.was.arcs ∧ True) ∧
 ((k.tmod (4 : Int) == (2 : Int)) = false →
 (I.sup.length ≤ (1000000 : Nat) ∧ I.arcs.length ≤ (1000000 : Nat)) ∧
 (((True ∧
 True ∧
 (loneS I).fst.pass = (passK k I).fst.pass ∧
 True ∧
 True ∧
 (loneS I).fst.off.hi = (passK k I).fst.off.hi ∧ (loneS I).fst.off.lo = (passK k I).fst.off.lo ∧ (loneS I).fst.did = (passK k I).fst.did ∧ True) ∧
 (loneS I).snd = (passK k I).snd ∧ True) ∧
 True) ∧
 (loneS I).fst.inst.sup = (passK k I).fst.inst.sup ∧
 (loneS I).fst.inst.arcs = (passK k I).fst.inst.arcs ∧
 (loneS I).fst.was.sup = (passK k I).fst.was.sup ∧ (loneS I).fst.was.arcs = (passK k I).fst.was.arcs ∧ True)))
theorem pass15_q (k : Int) (I : Inst) (ty0 ty1 : TypeId) : pass15_E0 k I ty0 ty1 = FVcP TT pass15_g (pass15_I k I) (pass15_an k I) Try.f22 [.int .u8 k, .agg [.row 0, .row 1]] [(0, .row false ty0 (.ints .i64 I.sup)), (1, .row false ty1 (.arcs I.arcs))] (pass15_r k I) := by kernel_rfl
theorem pass15_E (k : Int) (I : Inst) (ty0 ty1 : TypeId) (hp : 0 ≤ k ∧ k ≤ 255 ∧ I.sup.length ≤ 1000000 ∧ I.arcs.length ≤ 1000000) : FVc TT pass15_g (pass15_I k I) (pass15_an k I) Try.f22 [.int .u8 k, .agg [.row 0, .row 1]] [(0, .row false ty0 (.ints .i64 I.sup)), (1, .row false ty1 (.arcs I.arcs))] (pass15_r k I) := by
  refine FVc.of (pass15_E0 k I ty0 ty1) (pass15_q k I ty0 ty1) ?_
  unfold pass15_E0
  simp only [eq_self, exists_const, forall_const, decide_eq_true_eq, decide_eq_false_iff_not, and_true, true_and, bne_iff_ne, ne_eq, bne_eq_false_iff_eq, Int.toNat_natCast, Bool.not_eq_true', Bool.not_eq_false', beq_iff_eq, beq_eq_false_iff_ne, nilEq_true]
  obtain ⟨h1, h2, h3, h4⟩ := hp
  have e : k.tmod 4 = k % 4 := Int.tmod_eq_emod_of_nonneg h1
  rw [e]
  unfold passK
  refine ⟨by omega, fun e0 => ⟨⟨h3, h4⟩, ?_⟩, fun e0 => ⟨fun e1 => ⟨⟨h3, h4⟩, ?_⟩, fun e1 => ⟨fun e2 => ⟨⟨h3, h4⟩, ?_⟩, fun e2 => ⟨⟨h3, h4⟩, ?_⟩⟩⟩⟩
  · simp [e0]
  · simp [e0, e1]
  · simp [e0, e1, e2]
  · simp [e0, e1, e2]
theorem pass15_ok : SpecOk Try.prog pass15_n true (specOf true pass15_fs) :=
  spec_ok' TT_ok (show GsOk Try.prog pass15_g from gsOk_cons Low_ok (gsOk_cons Loop_ok (gsOk_cons Fix_ok (gsOk_cons Lone_ok (gsOk_nil))))) (by kernel_rfl) mixedOrders Try.func22 rfl rfl (by kernel_rfl) (n := 2) (by decide +kernel) (I := pass15_IA) (fun _ _ => isOk_nil) (A := pass15_A)
    (fun args h r hr => by
      unfold pass15_fs at hr
      split at hr
      · rename_i k ty0 I_s ty1 I_a; cases hr; refine ⟨rfl, fun hp => ?_⟩; have hE := pass15_E k ⟨I_s, I_a⟩ ty0 ty1 hp; exact hE
      · cases hr)
end Go.Proofs.Ytahbkllfifmdfaa
