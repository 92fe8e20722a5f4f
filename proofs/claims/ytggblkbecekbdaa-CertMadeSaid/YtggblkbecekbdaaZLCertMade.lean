/- CertMade: the law is true for every input: the given statement, with no condition of its own. -/
import Derived.Test.YtggblkbecekbdaaZFBCertMade
import Derived.Test.YtggblkbecekbdaaZVc11
import Derived.Test.YtggblkbecekbdaaZWrap3
set_option linter.all false
set_option linter.unusedSimpArgs false
set_option linter.unusedVariables false
set_option maxRecDepth 100000
namespace Go.Proofs.Ytggblkbecekbdaa
open Go Go.RowKit Go.ChangeShapes Go.WideShapes Go.ChangeAt Go.Deep Go.Ql Go.Vc
theorem certMade_contract (H : Type) (enc : TypeId × Value → H) (W : World) (base : Nat) (args : Array Value) (ds gs : List (DataW H)) (before : List MemPlace)
    (hval : ∀ (j : Nat) t v, Try.f4.params[j]? = some t → args[j]? = some v → Value.okWide Try.prog W .any base t v)
    (hW : DataW.Whole enc Try.prog Try.f4.params.toList Rows.certMadeSpec.vars false W args.toList ds gs before)
    (hz : (DataW.weightsEach Try.prog (Try.f4.params.toList ++ Rows.certMadeSpec.plain.varTypes Try.prog) (ds ++ gs)).all (· ≤ reachBytes) = true) :
    Calls Try.prog 4 args W fun e W' => ∃ v, e = .returned v ∧ Rows.certMadeSpec.post enc Try.prog Try.f4 false true false false W args v W' := by
  have hW' := hW
  obtain ⟨p, q, hA0, hV, rfl, hfz, hnd⟩ := hW
  have hA : DataW.TrodAll enc Try.prog W 0 (fun _ => true) true Try.f4.params.toList args.toList ds p := hA0
  rw [Try.params4] at hA hval hz
  obtain ⟨v0, vs0, d0, ds0, p0, q0, hargs, rfl, rfl, h0, r0⟩ := trodAll_cons hA
  obtain ⟨v1, vs1, d1, ds1, p1, q1, rfl, rfl, rfl, h1, r1⟩ := trodAll_cons r0
  obtain ⟨v2, vs2, d2, ds2, p2, q2, rfl, rfl, rfl, h2, r2⟩ := trodAll_cons r1
  obtain ⟨v3, vs3, d3, ds3, p3, q3, rfl, rfl, rfl, h3, r3⟩ := trodAll_cons r2
  obtain ⟨rfl, rfl, rfl⟩ := trodAll_nil r3
  obtain rfl : args = #[v0, v1, v2, v3] := by cases args; simp_all
  obtain ⟨z0, hz⟩ := weights_cons hz
  obtain ⟨z1, hz⟩ := weights_cons hz
  obtain ⟨z2, hz⟩ := weights_cons hz
  obtain ⟨z3, hz⟩ := weights_cons hz
  obtain ⟨A0, c0, x0, rfl, hR0, hm0, hw0⟩ := dec_ints Try.underlying22 Try.underlying5 (by kernel_rfl) (hval 0 22 v0 rfl rfl) h0
  have hb0 := wf_u8 hw0
  have hs0 := small_slice Try.underlying22 (of_decide_eq_true (by kernel_rfl)) h0 z0
  obtain ⟨A1, c1, x1, rfl, hR1, hm1, hw1⟩ := dec_ints Try.underlying22 Try.underlying5 (by kernel_rfl) (hval 1 22 v1 rfl rfl) h1
  have hb1 := wf_u8 hw1
  have hs1 := small_slice Try.underlying22 (of_decide_eq_true (by kernel_rfl)) h1 z1
  obtain ⟨A2, c2, x2, rfl, hR2, hm2, hw2⟩ := dec_ints Try.underlying22 Try.underlying5 (by kernel_rfl) (hval 2 22 v2 rfl rfl) h2
  have hb2 := wf_u8 hw2
  have hs2 := small_slice Try.underlying22 (of_decide_eq_true (by kernel_rfl)) h2 z2
  obtain ⟨x3, rfl, rfl, rfl, wn3⟩ := open_int Try.underlying5 (hval 3 5 v3 rfl rfl) h3
  have hb3 := wf1_u8 wn3
  have hpre : (CertMade_r x0 x1 x2 x3).pre := ⟨hb0, hb1, hm0, hm1, hb2, hm2, hb3.1, hb3.2⟩
  have hc := law_calls (enter_gen Try.func4 rfl rfl) CertMade_ok (ρ := fun k => if k = 0 then .slice A0 x0.length c0 else if k = 1 then .slice A1 x1.length c1 else if k = 2 then .slice A2 x2.length c2 else .int .i64 0) (W := W) (args := [.row 0, .row 1, .row 2, .int .u8 x3]) (hp := [(0, .row false 0 (.ints .u8 x0)), (1, .row false 0 (.ints .u8 x1)), (2, .row false 0 (.ints .u8 x2))]) (fun k => by (repeat' split) <;> rfl) ⟨⟨rfl, ro_ints hR0⟩, ⟨⟨rfl, ro_ints hR1⟩, ⟨⟨rfl, ro_ints hR2⟩, trivial⟩⟩⟩ ((CertMade_r x0 x1 x2 x3).pre ∧ SV.bool true = .bool true) ⟨hpre, rfl⟩ (by kernel_rfl)
  simp only [toVs, SV.toV] at hc
  refine Calls.mono (show Calls Try.prog 4 #[_, _, _, _] W _ from hc) fun e W' hx => ?_
  obtain ⟨rfl, hb⟩ := hx
  exact ⟨_, rfl, law_post laid_out hW' rfl (by kernel_rfl) Try.underlying4 (by kernel_rfl) rfl hb⟩
theorem certMade_lifted (os : Os) (started : os.Started) (H : Type) (enc : TypeId × Value → H) :
    ReturnsInHanded {} Try.checked os 4 .any (Rows.certMadeSpec.pre6 enc Try.prog Try.f4 Rows.certMadeRow.domain false) (Rows.certMadeSpec.post enc Try.prog Try.f4 false true false false) := by
  refine returnsInHanded_of_change_sized (C := Try.checked) own_knob started (by kernel_rfl) Try.func4
    (ChangeSpec.witness6 (enc := enc) (C := Try.checked) false ⟨#[], #[.slice none 0 0, .slice none 0 0, .slice none 0 0, .int .u8 0], []⟩ 8 (by kernel_rfl) (by kernel_rfl) (by kernel_rfl) (by kernel_rfl)) ?_
  intro W base args ds gs before hval0 hW hcnd hz _
  exact certMade_contract H enc W base args ds gs before hval0 hW hz
theorem certMade_holds : Rows.CertMadeSaid :=
  OpenClaim.holds_of_wide 4 Try.f4 rfl rfl rfl rfl rfl rfl rfl ⟨rfl, rfl, rfl, rfl, rfl⟩ rfl rfl rfl rfl rfl (by kernel_rfl) Try.func4 (by kernel_rfl)
    (of_decide_eq_true (by kernel_rfl)) (by unfold Func.isWrapper; first | (rw [if_pos (by decide +kernel)]; kernel_rfl) | (rw [if_neg (by decide +kernel)]; exact ⟨rfl, rfl⟩))
    (fun os started H enc _ => certMade_lifted os started H enc)
end Go.Proofs.Ytggblkbecekbdaa
