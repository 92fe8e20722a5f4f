/- CertOne: the law is true for every input: the given statement, with no condition of its own. -/
import Derived.Test.YtggblkbecekbdaaZFBCertOne
import Derived.Test.YtggblkbecekbdaaZVc11
import Derived.Test.YtggblkbecekbdaaZWrap3
import Derived.Test.YtggblkbecekbdaaZWrapC
set_option linter.all false
set_option linter.unusedSimpArgs false
set_option linter.unusedVariables false
set_option maxRecDepth 100000
namespace Go.Proofs.Ytggblkbecekbdaa
open Go Go.RowKit Go.ChangeShapes Go.WideShapes Go.ChangeAt Go.Deep Go.Ql Go.Vc
theorem one_ite {c : Prop} [Decidable c] {a b : Value} (h1 : a.oneCell' = true) (h2 : b.oneCell' = true) : (if c then a else b).oneCell' = true := by split <;> assumption
set_option maxHeartbeats 2000000 in
theorem certOne_contract (H : Type) (enc : TypeId × Value → H) (W : World) (base : Nat) (args : Array Value) (ds gs : List (DataW H)) (before : List MemPlace)
    (hval : ∀ (j : Nat) t v, Try.f3.params[j]? = some t → args[j]? = some v → Value.okWide Try.prog W .any base t v)
    (hW : DataW.Whole enc Try.prog Try.f3.params.toList Rows.certOneSpec.vars false W args.toList ds gs before)
    (hz : (DataW.weightsEach Try.prog (Try.f3.params.toList ++ Rows.certOneSpec.plain.varTypes Try.prog) (ds ++ gs)).all (· ≤ reachBytes) = true) :
    Calls Try.prog 3 args W fun e W' => ∃ v, e = .returned v ∧ Rows.certOneSpec.post enc Try.prog Try.f3 false true false false W args v W' := by
  have hW' := hW
  obtain ⟨p, q, hA0, hV, rfl, hfz, hnd⟩ := hW
  have hA : DataW.TrodAll enc Try.prog W 0 (fun _ => true) true Try.f3.params.toList args.toList ds p := hA0
  rw [Try.params3] at hA hval hz
  obtain ⟨v0, vs0, d0, ds0, p0, q0, hargs, rfl, rfl, h0, r0⟩ := trodAll_cons hA
  obtain ⟨v1, vs1, d1, ds1, p1, q1, rfl, rfl, rfl, h1, r1⟩ := trodAll_cons r0
  obtain ⟨v2, vs2, d2, ds2, p2, q2, rfl, rfl, rfl, h2, r2⟩ := trodAll_cons r1
  obtain ⟨v3, vs3, d3, ds3, p3, q3, rfl, rfl, rfl, h3, r3⟩ := trodAll_cons r2
  obtain ⟨v4, vs4, d4, ds4, p4, q4, rfl, rfl, rfl, h4, r4⟩ := trodAll_cons r3
  obtain ⟨v5, vs5, d5, ds5, p5, q5, rfl, rfl, rfl, h5, r5⟩ := trodAll_cons r4
  obtain ⟨v6, vs6, d6, ds6, p6, q6, rfl, rfl, rfl, h6, r6⟩ := trodAll_cons r5
  obtain ⟨v7, vs7, d7, ds7, p7, q7, rfl, rfl, rfl, h7, r7⟩ := trodAll_cons r6
  obtain ⟨rfl, rfl, rfl⟩ := trodAll_nil r7
  obtain rfl : args = #[v0, v1, v2, v3, v4, v5, v6, v7] := by cases args; simp_all
  obtain ⟨z0, hz⟩ := weights_cons hz
  obtain ⟨z1, hz⟩ := weights_cons hz
  obtain ⟨z2, hz⟩ := weights_cons hz
  obtain ⟨z3, hz⟩ := weights_cons hz
  obtain ⟨z4, hz⟩ := weights_cons hz
  obtain ⟨z5, hz⟩ := weights_cons hz
  obtain ⟨z6, hz⟩ := weights_cons hz
  obtain ⟨z7, hz⟩ := weights_cons hz
  obtain ⟨A0, c0, x0, rfl, hR0, hm0, hw0⟩ := dec_ints Try.underlying22 Try.underlying5 (by kernel_rfl) (hval 0 22 v0 rfl rfl) h0
  have hb0 := wf_u8 hw0
  have hs0 := small_slice Try.underlying22 (of_decide_eq_true (by kernel_rfl)) h0 z0
  obtain ⟨A1, c1, x1, rfl, hR1, hm1, hw1⟩ := dec_ints Try.underlying22 Try.underlying5 (by kernel_rfl) (hval 1 22 v1 rfl rfl) h1
  have hb1 := wf_u8 hw1
  have hs1 := small_slice Try.underlying22 (of_decide_eq_true (by kernel_rfl)) h1 z1
  obtain ⟨A2, c2, x2, rfl, hR2, hm2, hw2⟩ := dec_ints Try.underlying22 Try.underlying5 (by kernel_rfl) (hval 2 22 v2 rfl rfl) h2
  have hb2 := wf_u8 hw2
  have hs2 := small_slice Try.underlying22 (of_decide_eq_true (by kernel_rfl)) h2 z2
  obtain ⟨A3, c3, x3, rfl, hR3, hm3, hw3⟩ := dec_ints Try.underlying22 Try.underlying5 (by kernel_rfl) (hval 3 22 v3 rfl rfl) h3
  have hb3 := wf_u8 hw3
  have hs3 := small_slice Try.underlying22 (of_decide_eq_true (by kernel_rfl)) h3 z3
  obtain ⟨A41, c41, A42, c42, A43, c43, A44, c44, k4, x41, x42, x43, x44, rfl, hR41, hR42, hR43, hR44, hb4, hs4⟩ := dec_cert (hval 4 27 v4 rfl rfl) h4
  replace hs4 := hs4 z4
  obtain ⟨A51, c51, A52, c52, A53, c53, A54, c54, k5, x51, x52, x53, x54, rfl, hR51, hR52, hR53, hR54, hb5, hs5⟩ := dec_cert (hval 5 27 v5 rfl rfl) h5
  replace hs5 := hs5 z5
  obtain ⟨x6, rfl, rfl, rfl, wn6⟩ := open_int Try.underlying5 (hval 6 5 v6 rfl rfl) h6
  have hb6 := wf1_u8 wn6
  obtain ⟨x7, rfl, rfl, rfl, wn7⟩ := open_int Try.underlying5 (hval 7 5 v7 rfl rfl) h7
  have hb7 := wf1_u8 wn7
  have hpre : (CertOne_r x0 x1 x2 x3 ⟨k4, x41, x42, x43, x44⟩ ⟨k5, x51, x52, x53, x54⟩ x6 x7).pre := ⟨hb0, hb1, hb2, hb3, hm0, hm1, hm2, hm3, ⟨fun y hy => hb4.1 y hy, fun y hy => hb4.2.1 y hy, hs4.1, hs4.2.1, hs4.2.2.1, hs4.2.2.2⟩, ⟨fun y hy => hb5.1 y hy, fun y hy => hb5.2.1 y hy, hs5.1, hs5.2.1, hs5.2.2.1, hs5.2.2.2⟩, hb6.1, hb6.2, hb7.1, hb7.2⟩
  have hc := law_calls (enter_gen Try.func3 rfl rfl) CertOne_ok (ρ := fun k => if k = 0 then .slice A0 x0.length c0 else if k = 1 then .slice A1 x1.length c1 else if k = 2 then .slice A2 x2.length c2 else if k = 3 then .slice A3 x3.length c3 else if k = 4 then .slice A41 x41.length c41 else if k = 5 then .slice A42 x42.length c42 else if k = 6 then .slice A43 x43.length c43 else if k = 7 then .slice A44 x44.length c44 else if k = 8 then .slice A51 x51.length c51 else if k = 9 then .slice A52 x52.length c52 else if k = 10 then .slice A53 x53.length c53 else if k = 11 then .slice A54 x54.length c54 else .int .i64 0) (W := W) (args := [.row 0, .row 1, .row 2, .row 3, .agg [.int .i64 k4, .row 4, .row 5, .row 6, .row 7], .agg [.int .i64 k5, .row 8, .row 9, .row 10, .row 11], .int .u8 x6, .int .u8 x7]) (hp := [(0, .row false 0 (.ints .u8 x0)), (1, .row false 0 (.ints .u8 x1)), (2, .row false 0 (.ints .u8 x2)), (3, .row false 0 (.ints .u8 x3)), (4, .row false 0 (.ints .i64 x41)), (5, .row false 0 (.ints .i64 x42)), (6, .row false 0 (.bools x43)), (7, .row false 0 (.ints .i64 x44)), (8, .row false 0 (.ints .i64 x51)), (9, .row false 0 (.ints .i64 x52)), (10, .row false 0 (.bools x53)), (11, .row false 0 (.ints .i64 x54))]) (fun k => by (repeat (refine one_ite rfl ?_)); rfl) ⟨⟨rfl, ro_ints hR0⟩, ⟨⟨rfl, ro_ints hR1⟩, ⟨⟨rfl, ro_ints hR2⟩, ⟨⟨rfl, ro_ints hR3⟩, ⟨⟨rfl, ro_ints hR41⟩, ⟨⟨rfl, ro_ints hR42⟩, ⟨⟨rfl, ro_bools hR43⟩, ⟨⟨rfl, ro_ints hR44⟩, ⟨⟨rfl, ro_ints hR51⟩, ⟨⟨rfl, ro_ints hR52⟩, ⟨⟨rfl, ro_bools hR53⟩, ⟨⟨rfl, ro_ints hR54⟩, trivial⟩⟩⟩⟩⟩⟩⟩⟩⟩⟩⟩⟩ ((CertOne_r x0 x1 x2 x3 ⟨k4, x41, x42, x43, x44⟩ ⟨k5, x51, x52, x53, x54⟩ x6 x7).pre ∧ SV.bool true = .bool true) ⟨hpre, rfl⟩ (by kernel_rfl)
  simp only [toVs, SV.toV] at hc
  refine Calls.mono (show Calls Try.prog 3 #[_, _, _, _, _, _, _, _] W _ from hc) fun e W' hx => ?_
  obtain ⟨rfl, hb⟩ := hx
  exact ⟨_, rfl, law_post laid_out hW' rfl (by kernel_rfl) Try.underlying4 (by kernel_rfl) rfl hb⟩
theorem certOne_lifted (os : Os) (started : os.Started) (H : Type) (enc : TypeId × Value → H) :
    ReturnsInHanded {} Try.checked os 3 .any (Rows.certOneSpec.pre6 enc Try.prog Try.f3 Rows.certOneRow.domain false) (Rows.certOneSpec.post enc Try.prog Try.f3 false true false false) := by
  refine returnsInHanded_of_change_sized (C := Try.checked) own_knob started (by kernel_rfl) Try.func3
    (ChangeSpec.witness6 (enc := enc) (C := Try.checked) false ⟨#[], #[.slice none 0 0, .slice none 0 0, .slice none 0 0, .slice none 0 0, .agg #[.int .i64 0, .slice none 0 0, .slice none 0 0, .slice none 0 0, .slice none 0 0], .agg #[.int .i64 0, .slice none 0 0, .slice none 0 0, .slice none 0 0, .slice none 0 0], .int .u8 0, .int .u8 0], []⟩ 8 (by kernel_rfl) (by kernel_rfl) (by kernel_rfl) (by kernel_rfl)) ?_
  intro W base args ds gs before hval0 hW hcnd hz _
  exact certOne_contract H enc W base args ds gs before hval0 hW hz
theorem certOne_holds : Rows.CertOneSaid :=
  OpenClaim.holds_of_wide 3 Try.f3 rfl rfl rfl rfl rfl rfl rfl ⟨rfl, rfl, rfl, rfl, rfl⟩ rfl rfl rfl rfl rfl (by kernel_rfl) Try.func3 (by kernel_rfl)
    (of_decide_eq_true (by kernel_rfl)) (by unfold Func.isWrapper; first | (rw [if_pos (by decide +kernel)]; kernel_rfl) | (rw [if_neg (by decide +kernel)]; exact ⟨rfl, rfl⟩))
    (fun os started H enc _ => certOne_lifted os started H enc)
end Go.Proofs.Ytggblkbecekbdaa
