/- TrimOver: the law is true for every input: the given statement, with no condition of its own. -/
import Derived.Test.YtahbkllfifmdfaaZFBTrimOver
import Derived.Test.YtahbkllfifmdfaaZVc11
import Derived.Test.YtahbkllfifmdfaaZWrap3
set_option linter.all false
set_option linter.unusedSimpArgs false
set_option linter.unusedVariables false
set_option maxRecDepth 100000
namespace Go.Proofs.Ytahbkllfifmdfaa
open Go Go.RowKit Go.ChangeShapes Go.WideShapes Go.ChangeAt Go.Deep Go.Ql Go.Vc
theorem trimOver_contract (H : Type) (enc : TypeId × Value → H) (W : World) (base : Nat) (args : Array Value) (ds gs : List (DataW H)) (before : List MemPlace)
    (hval : ∀ (j : Nat) t v, Try.f3.params[j]? = some t → args[j]? = some v → Value.okWide Try.prog W .any base t v)
    (hW : DataW.Whole enc Try.prog Try.f3.params.toList Rows.trimOverSpec.vars false W args.toList ds gs before)
    (hz : (DataW.weightsEach Try.prog (Try.f3.params.toList ++ Rows.trimOverSpec.plain.varTypes Try.prog) (ds ++ gs)).all (· ≤ reachBytes) = true) :
    Calls Try.prog 3 args W fun e W' => ∃ v, e = .returned v ∧ Rows.trimOverSpec.post enc Try.prog Try.f3 false true false false W args v W' := by
  have hW' := hW
  obtain ⟨p, q, hA0, hV, rfl, hfz, hnd⟩ := hW
  have hA : DataW.TrodAll enc Try.prog W 0 (fun _ => true) true Try.f3.params.toList args.toList ds p := hA0
  rw [Try.params3] at hA hval hz
  obtain ⟨v0, vs0, d0, ds0, p0, q0, hargs, rfl, rfl, h0, r0⟩ := trodAll_cons hA
  obtain ⟨v1, vs1, d1, ds1, p1, q1, rfl, rfl, rfl, h1, r1⟩ := trodAll_cons r0
  obtain ⟨v2, vs2, d2, ds2, p2, q2, rfl, rfl, rfl, h2, r2⟩ := trodAll_cons r1
  obtain ⟨rfl, rfl, rfl⟩ := trodAll_nil r2
  obtain rfl : args = #[v0, v1, v2] := by cases args; simp_all
  obtain ⟨z0, hz⟩ := weights_cons hz
  obtain ⟨z1, hz⟩ := weights_cons hz
  obtain ⟨z2, hz⟩ := weights_cons hz
  obtain ⟨x0, rfl, rfl, rfl, wn0⟩ := open_int Try.underlying22 (hval 0 22 v0 rfl rfl) h0
  have hb0 := wf1_u64 wn0
  obtain ⟨x1, rfl, rfl, rfl, wn1⟩ := open_int Try.underlying22 (hval 1 22 v1 rfl rfl) h1
  have hb1 := wf1_u64 wn1
  obtain ⟨x2, rfl, rfl, rfl⟩ := open_bool Try.underlying4 (hval 2 4 v2 rfl rfl) h2
  have hpre : (TrimOver_r x0 x1 x2).pre := ⟨hb0.1, hb0.2, hb1.1, hb1.2⟩
  have hc := law_calls (enter_gen Try.func3 rfl rfl) TrimOver_ok (ρ := fun k => .int .i64 0) (W := W) (args := [.int .u64 x0, .int .u64 x1, .bool x2]) (hp := []) (fun k => by (repeat' split) <;> rfl) trivial ((TrimOver_r x0 x1 x2).pre ∧ SV.bool true = .bool true) ⟨hpre, rfl⟩ (by kernel_rfl)
  simp only [toVs, SV.toV] at hc
  refine Calls.mono (show Calls Try.prog 3 #[_, _, _] W _ from hc) fun e W' hx => ?_
  obtain ⟨rfl, hb⟩ := hx
  exact ⟨_, rfl, law_post laid_out hW' rfl (by kernel_rfl) Try.underlying4 (by kernel_rfl) rfl hb⟩
theorem trimOver_lifted (os : Os) (started : os.Started) (H : Type) (enc : TypeId × Value → H) :
    ReturnsInHanded {} Try.checked os 3 .any (Rows.trimOverSpec.pre6 enc Try.prog Try.f3 Rows.trimOverRow.domain false) (Rows.trimOverSpec.post enc Try.prog Try.f3 false true false false) := by
  refine returnsInHanded_of_change_sized (C := Try.checked) own_knob started (by kernel_rfl) Try.func3
    (ChangeSpec.witness6 (enc := enc) (C := Try.checked) false ⟨#[], #[.int .u64 0, .int .u64 0, .bool false], []⟩ 8 (by kernel_rfl) (by kernel_rfl) (by kernel_rfl) (by kernel_rfl)) ?_
  intro W base args ds gs before hval0 hW hcnd hz _
  exact trimOver_contract H enc W base args ds gs before hval0 hW hz
theorem trimOver_holds : Rows.TrimOverSaid :=
  OpenClaim.holds_of_wide 3 Try.f3 rfl rfl rfl rfl rfl rfl rfl ⟨rfl, rfl, rfl, rfl, rfl⟩ rfl rfl rfl rfl rfl (by kernel_rfl) Try.func3 (by kernel_rfl)
    (of_decide_eq_true (by kernel_rfl)) (by unfold Func.isWrapper; first | (rw [if_pos (by decide +kernel)]; kernel_rfl) | (rw [if_neg (by decide +kernel)]; exact ⟨rfl, rfl⟩))
    (fun os started H enc _ => trimOver_lifted os started H enc)
end Go.Proofs.Ytahbkllfifmdfaa
