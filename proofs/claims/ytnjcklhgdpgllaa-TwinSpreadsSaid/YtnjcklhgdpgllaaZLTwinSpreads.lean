/- TwinSpreads: the law is true for every input: the given statement, with no condition of its own. -/
import Derived.Test.YtnjcklhgdpgllaaZFBTwinSpreads
import Derived.Test.YtnjcklhgdpgllaaZVc11
import Derived.Test.YtnjcklhgdpgllaaZWrap3
set_option linter.all false
set_option linter.unusedSimpArgs false
set_option linter.unusedVariables false
set_option maxRecDepth 100000
namespace Go.Proofs.Ytnjcklhgdpgllaa
open Go Go.RowKit Go.ChangeShapes Go.WideShapes Go.ChangeAt Go.Deep Go.Ql Go.Vc
set_option maxHeartbeats 2000000 in
theorem twinSpreads_contract (H : Type) (enc : TypeId × Value → H) (W : World) (base : Nat) (args : Array Value) (ds gs : List (DataW H)) (before : List MemPlace)
    (hval : ∀ (j : Nat) t v, Try.f10.params[j]? = some t → args[j]? = some v → Value.okWide Try.prog W .any base t v)
    (hW : DataW.Whole enc Try.prog Try.f10.params.toList Rows.twinSpreadsSpec.vars false W args.toList ds gs before)
    (hz : (DataW.weightsEach Try.prog (Try.f10.params.toList ++ Rows.twinSpreadsSpec.plain.varTypes Try.prog) (ds ++ gs)).all (· ≤ reachBytes) = true) :
    Calls Try.prog 10 args W fun e W' => ∃ v, e = .returned v ∧ Rows.twinSpreadsSpec.post enc Try.prog Try.f10 false true false false W args v W' := by
  have hW' := hW
  obtain ⟨p, q, hA0, hV, rfl, hfz, hnd⟩ := hW
  have hA : DataW.TrodAll enc Try.prog W 0 (fun _ => true) true Try.f10.params.toList args.toList ds p := hA0
  rw [Try.params10] at hA hval hz
  obtain ⟨v0, vs0, d0, ds0, p0, q0, hargs, rfl, rfl, h0, r0⟩ := trodAll_cons hA
  obtain ⟨v1, vs1, d1, ds1, p1, q1, rfl, rfl, rfl, h1, r1⟩ := trodAll_cons r0
  obtain ⟨v2, vs2, d2, ds2, p2, q2, rfl, rfl, rfl, h2, r2⟩ := trodAll_cons r1
  obtain ⟨v3, vs3, d3, ds3, p3, q3, rfl, rfl, rfl, h3, r3⟩ := trodAll_cons r2
  obtain ⟨v4, vs4, d4, ds4, p4, q4, rfl, rfl, rfl, h4, r4⟩ := trodAll_cons r3
  obtain ⟨v5, vs5, d5, ds5, p5, q5, rfl, rfl, rfl, h5, r5⟩ := trodAll_cons r4
  obtain ⟨rfl, rfl, rfl⟩ := trodAll_nil r5
  obtain rfl : args = #[v0, v1, v2, v3, v4, v5] := by cases args; simp_all
  obtain ⟨z0, hz⟩ := weights_cons hz
  obtain ⟨z1, hz⟩ := weights_cons hz
  obtain ⟨z2, hz⟩ := weights_cons hz
  obtain ⟨z3, hz⟩ := weights_cons hz
  obtain ⟨z4, hz⟩ := weights_cons hz
  obtain ⟨z5, hz⟩ := weights_cons hz
  obtain ⟨A0, c0, x0, rfl, hR0, hm0, hw0⟩ := dec_ints Try.underlying23 Try.underlying5 (by kernel_rfl) (hval 0 23 v0 rfl rfl) h0
  have hb0 := wf_u8 hw0
  have hs0 := small_slice Try.underlying23 (of_decide_eq_true (by kernel_rfl)) h0 z0
  obtain ⟨A1, c1, x1, rfl, hR1, hm1, hw1⟩ := dec_ints Try.underlying23 Try.underlying5 (by kernel_rfl) (hval 1 23 v1 rfl rfl) h1
  have hb1 := wf_u8 hw1
  have hs1 := small_slice Try.underlying23 (of_decide_eq_true (by kernel_rfl)) h1 z1
  obtain ⟨A2, c2, x2, rfl, hR2, hm2, hw2⟩ := dec_ints Try.underlying23 Try.underlying5 (by kernel_rfl) (hval 2 23 v2 rfl rfl) h2
  have hb2 := wf_u8 hw2
  have hs2 := small_slice Try.underlying23 (of_decide_eq_true (by kernel_rfl)) h2 z2
  obtain ⟨x3, rfl, rfl, rfl, wn3⟩ := open_int Try.underlying2 (hval 3 2 v3 rfl rfl) h3
  have hb3 := wf1_i64 wn3
  obtain ⟨x4, rfl, rfl, rfl, wn4⟩ := open_int Try.underlying72 (hval 4 72 v4 rfl rfl) h4
  have hb4 := wf1_i8 wn4
  obtain ⟨A5, c5, x5, rfl, hR5, hm5, hw5⟩ := dec_ints Try.underlying62 Try.underlying3 (by kernel_rfl) (hval 5 62 v5 rfl rfl) h5
  have hb5 := wf_i64 hw5
  have hs5 := small_slice Try.underlying62 (of_decide_eq_true (by kernel_rfl)) h5 z5
  have hpre : (TwinSpreads_r x0 x1 x2 x3 x4 x5).pre := ⟨hb0, hb1, hm0, hm1, hb2, hm2, hb3, hb4.1, hb4.2, hs5⟩
  have hc := law_calls (enter_gen Try.func10 rfl rfl) TwinSpreads_ok (ρ := fun k => if k = 0 then .slice A0 x0.length c0 else if k = 1 then .slice A1 x1.length c1 else if k = 2 then .slice A2 x2.length c2 else if k = 3 then .slice A5 x5.length c5 else .int .i64 0) (W := W) (args := [.row 0, .row 1, .row 2, .int .i64 x3, .int .i8 x4, .row 3]) (hp := [(0, .row false 0 (.ints .u8 x0)), (1, .row false 0 (.ints .u8 x1)), (2, .row false 0 (.ints .u8 x2)), (3, .row false 0 (.ints .i64 x5))]) (fun k => by (repeat' split) <;> rfl) ⟨⟨rfl, ro_ints hR0⟩, ⟨⟨rfl, ro_ints hR1⟩, ⟨⟨rfl, ro_ints hR2⟩, ⟨⟨rfl, ro_ints hR5⟩, trivial⟩⟩⟩⟩ ((TwinSpreads_r x0 x1 x2 x3 x4 x5).pre ∧ SV.bool true = .bool true) ⟨hpre, rfl⟩ (by kernel_rfl)
  simp only [toVs, SV.toV] at hc
  refine Calls.mono (show Calls Try.prog 10 #[_, _, _, _, _, _] W _ from hc) fun e W' hx => ?_
  obtain ⟨rfl, hb⟩ := hx
  exact ⟨_, rfl, law_post laid_out hW' rfl (by kernel_rfl) Try.underlying4 (by kernel_rfl) rfl hb⟩
theorem twinSpreads_lifted (os : Os) (started : os.Started) (H : Type) (enc : TypeId × Value → H) :
    ReturnsInHanded {} Try.checked os 10 .any (Rows.twinSpreadsSpec.pre6 enc Try.prog Try.f10 Rows.twinSpreadsRow.domain false) (Rows.twinSpreadsSpec.post enc Try.prog Try.f10 false true false false) := by
  refine returnsInHanded_of_change_sized (C := Try.checked) own_knob started (by kernel_rfl) Try.func10
    (ChangeSpec.witness6 (enc := enc) (C := Try.checked) false ⟨#[], #[.slice none 0 0, .slice none 0 0, .slice none 0 0, .int .i64 0, .int .i8 0, .slice none 0 0], []⟩ 8 (by kernel_rfl) (by kernel_rfl) (by kernel_rfl) (by kernel_rfl)) ?_
  intro W base args ds gs before hval0 hW hcnd hz _
  exact twinSpreads_contract H enc W base args ds gs before hval0 hW hz
theorem twinSpreads_holds : Rows.TwinSpreadsSaid :=
  OpenClaim.holds_of_wide 10 Try.f10 rfl rfl rfl rfl rfl rfl rfl ⟨rfl, rfl, rfl, rfl, rfl⟩ rfl rfl rfl rfl rfl (by kernel_rfl) Try.func10 (by kernel_rfl)
    (of_decide_eq_true (by kernel_rfl)) (by unfold Func.isWrapper; first | (rw [if_pos (by decide +kernel)]; kernel_rfl) | (rw [if_neg (by decide +kernel)]; exact ⟨rfl, rfl⟩))
    (fun os started H enc _ => twinSpreads_lifted os started H enc)
end Go.Proofs.Ytnjcklhgdpgllaa
