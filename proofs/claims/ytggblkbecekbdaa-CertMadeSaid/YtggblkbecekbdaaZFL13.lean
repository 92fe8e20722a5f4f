/- Part of the proof, FL13. -/
import Derived.Test.YtggblkbecekbdaaZFK13
import Derived.Test.YtggblkbecekbdaaZDL13
import Derived.Test.YtggblkbecekbdaaZVc11
set_option linter.unusedVariables false
set_option linter.all false
set_option linter.unusedSimpArgs false
set_option maxRecDepth 100000
namespace Go.Proofs.Ytggblkbecekbdaa
open Go Go.RowKit Go.Ql Go.Vc
theorem instOk_of {I : Inst} (h : rightF I = 0) : InstOk I := by
  obtain ⟨a1, a2, a3, a4⟩ := right_A64 h
  have := right_small h
  exact ⟨by omega, by omega, a3, a1, a2⟩
theorem cpot_len (e : List Int) (n : Nat) : (potF e n).length = n := by simp [potF]
theorem cpot_A64 (e : List Int) (n : Nat) : A64 (potF e n) := fun p hp => by
  unfold potF at hp
  rw [List.mem_map] at hp
  obtain ⟨k, _, rfl⟩ := hp
  unfold potE I64
  split <;> omega
def known13_E0 : Prop :=
      (CertOk { kind := (0 : Int), flow := [], pot := [], side := [], cycle := [] : Cert } ∧ InstOk { sup := [], arcs := [] : Inst }) ∧
 (CertOk { kind := (1 : Int), flow := [], pot := [], side := [], cycle := [] : Cert } ∧ InstOk { sup := [], arcs := [] : Inst }) ∧
 ((checkF { sup := [], arcs := [] : Inst } { kind := (1 : Int), flow := [], pot := [], side := [], cycle := [] : Cert } == (0 : Int)) = true →
 (CertOk { kind := (0 : Int), flow := [], pot := [], side := [], cycle := [] : Cert } ∧ InstOk { sup := [], arcs := [] : Inst }) ∧
 ((checkF { sup := [], arcs := [] : Inst } { kind := (0 : Int), flow := [], pot := [], side := [], cycle := [] : Cert } == (36 : Int)) = true →
 True ∧
 (plainF { kind := (2 : Int), flow := [], pot := [], side := [true], cycle := [] : Cert } = true →
 True ∧
 ((!plainF { kind := (2 : Int), flow := [], pot := [], side := [], cycle := [(1 : Int)] : Cert }) = true →
 ((!decide ((0 : Int) = (1 : Int))) = true ∧ True) ∧ True) ∧
 ((!plainF { kind := (2 : Int), flow := [], pot := [], side := [], cycle := [(1 : Int)] : Cert }) = false → (false = true ∧ True) ∧ True)) ∧
 (plainF { kind := (2 : Int), flow := [], pot := [], side := [true], cycle := [] : Cert } = false → (false = true ∧ True) ∧ True)) ∧
 ((checkF { sup := [], arcs := [] : Inst } { kind := (0 : Int), flow := [], pot := [], side := [], cycle := [] : Cert } == (36 : Int)) = false →
 (false = true ∧ True) ∧ True)) ∧
 ((checkF { sup := [], arcs := [] : Inst } { kind := (1 : Int), flow := [], pot := [], side := [], cycle := [] : Cert } == (0 : Int)) = false → (false = true ∧ True) ∧ True)
theorem known13_q : known13_E0 = FVcP TT known13_g (known13_I) (known13_an) Try.f12 [] [] (known13_r) := by kernel_rfl
theorem known13_E (hp : True) : FVc TT known13_g (known13_I) (known13_an) Try.f12 [] [] (known13_r) := by
  refine FVc.of (known13_E0) (known13_q) ?_
  unfold known13_E0
  simp only [eq_self, exists_const, forall_const, decide_eq_true_eq, decide_eq_false_iff_not, and_true, true_and, bne_iff_ne, ne_eq, bne_eq_false_iff_eq, Int.toNat_natCast, Bool.not_eq_true', Bool.not_eq_false', beq_iff_eq, beq_eq_false_iff_ne, nilEq_true]
  have k1 : checkF ⟨[], []⟩ ⟨1, [], [], [], []⟩ = 0 := by decide
  have k2 : checkF ⟨[], []⟩ ⟨0, [], [], [], []⟩ = 36 := by decide
  have k3 : plainF ⟨2, [], [], [true], []⟩ = true := by decide
  have k4 : plainF ⟨2, [], [], [], [1]⟩ = false := by decide
  have c0 : CertOk ⟨0, [], [], [], []⟩ := by simp [CertOk, A64]
  have c1 : CertOk ⟨1, [], [], [], []⟩ := by simp [CertOk, A64]
  have i0 : InstOk ⟨[], []⟩ := by simp [InstOk, A64, A64a, A64c]
  simp [k1, k2, k3, k4, c0, c1, i0]
theorem known13_ok : SpecOk Try.prog known13_n true (specOf true known13_fs) :=
  spec_ok' TT_ok (show GsOk Try.prog known13_g from gsOk_cons ValueC_ok (gsOk_cons Check_ok (gsOk_cons Plain13_ok (gsOk_nil)))) (by kernel_rfl) mixedOrders Try.func12 rfl rfl (by kernel_rfl) (n := 0) (by decide +kernel) (I := known13_IA) (fun _ _ => isOk_nil) (A := known13_A)
    (fun args h r hr => by
      unfold known13_fs at hr
      split at hr
      · cases hr; refine ⟨rfl, fun hp => ?_⟩; have hE := known13_E  hp; exact hE
      · cases hr)
end Go.Proofs.Ytggblkbecekbdaa
