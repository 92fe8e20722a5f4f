/- CertAsks: the law is true for every input: the given statement, with no condition of its own. -/
import Derived.Test.YtahbkllfifmdfaaGreatZFM13
import Derived.Test.YtahbkllfifmdfaaGreatZVc11
import Derived.Test.YtahbkllfifmdfaaGreatZWrap3
import Derived.Test.YtahbkllfifmdfaaGreatZWrapC
set_option linter.all false
set_option linter.unusedSimpArgs false
set_option linter.unusedVariables false
set_option maxRecDepth 100000
namespace Go.Proofs.YtahbkllfifmdfaaGreat
open Go Go.RowKit Go.ChangeShapes Go.WideShapes Go.ChangeAt Go.Deep Go.Ql Go.Vc
set_option maxHeartbeats 2000000 in
theorem certAsks_contract (H : Type) (enc : TypeId × Value → H) (W : World) (base : Nat) (args : Array Value) (ds gs : List (DataW H)) (before : List MemPlace)
    (hval : ∀ (j : Nat) t v, Tryz.f3.params[j]? = some t → args[j]? = some v → Value.okWide Tryz.prog W .any base t v)
    (hW : DataW.Whole enc Tryz.prog Tryz.f3.params.toList Rows.certAsksSpec.vars false W args.toList ds gs before)
    (hz : (DataW.weightsEach Tryz.prog (Tryz.f3.params.toList ++ Rows.certAsksSpec.plain.varTypes Tryz.prog) (ds ++ gs)).all (· ≤ reachBytes) = true) :
    Calls Tryz.prog 3 args W fun e W' => ∃ v, e = .returned v ∧ Rows.certAsksSpec.post enc Tryz.prog Tryz.f3 false true false false W args v W' := by
  have hW' := hW
  obtain ⟨p, q, hA0, hV, rfl, hfz, hnd⟩ := hW
  have hA : DataW.TrodAll enc Tryz.prog W 0 (fun _ => true) true Tryz.f3.params.toList args.toList ds p := hA0
  rw [Tryz.params3] at hA hval hz
  obtain ⟨v0, vs0, d0, ds0, p0, q0, hargs, rfl, rfl, h0, r0⟩ := trodAll_cons hA
  obtain ⟨v1, vs1, d1, ds1, p1, q1, rfl, rfl, rfl, h1, r1⟩ := trodAll_cons r0
  obtain ⟨v2, vs2, d2, ds2, p2, q2, rfl, rfl, rfl, h2, r2⟩ := trodAll_cons r1
  obtain ⟨v3, vs3, d3, ds3, p3, q3, rfl, rfl, rfl, h3, r3⟩ := trodAll_cons r2
  obtain ⟨v4, vs4, d4, ds4, p4, q4, rfl, rfl, rfl, h4, r4⟩ := trodAll_cons r3
  obtain ⟨v5, vs5, d5, ds5, p5, q5, rfl, rfl, rfl, h5, r5⟩ := trodAll_cons r4
  obtain ⟨rfl, rfl, rfl⟩ := trodAll_nil r5
  obtain rfl : args = #[v0, v1, v2, v3, v4, v5] := by cases args; simp_all
  obtain ⟨z0, hz⟩ := weights_cons hz
  obtain ⟨z1, hz⟩ := weights_cons hz
  obtain ⟨z2, hz⟩ := weights_cons hz
  obtain ⟨z3, hz⟩ := weights_cons hz
  obtain ⟨z4, hz⟩ := weights_cons hz
  obtain ⟨z5, hz⟩ := weights_cons hz
  obtain ⟨A0, c0, A0', c0', I0, rfl, hR0, hR0', hb0, hs0⟩ := dec_inst (hval 0 25 v0 rfl rfl) h0
  replace hs0 := hs0 z0
  obtain ⟨A11, c11, A12, c12, A13, c13, A14, c14, k1, x11, x12, x13, x14, rfl, hR11, hR12, hR13, hR14, hb1, hs1⟩ := dec_cert (hval 1 29 v1 rfl rfl) h1
  replace hs1 := hs1 z1
  obtain ⟨A2, c2, x2, rfl, hR2, hm2, hw2⟩ := dec_ints Tryz.underlying30 Tryz.underlying5 (by kernel_rfl) (hval 2 30 v2 rfl rfl) h2
  have hb2 := wf_u8 hw2
  have hs2 := small_slice Tryz.underlying30 (of_decide_eq_true (by kernel_rfl)) h2 z2
  obtain ⟨A3, c3, x3, rfl, hR3, hm3, hw3⟩ := dec_ints Tryz.underlying30 Tryz.underlying5 (by kernel_rfl) (hval 3 30 v3 rfl rfl) h3
  have hb3 := wf_u8 hw3
  have hs3 := small_slice Tryz.underlying30 (of_decide_eq_true (by kernel_rfl)) h3 z3
  obtain ⟨A4, c4, x4, rfl, hR4, hm4, hw4⟩ := dec_ints Tryz.underlying30 Tryz.underlying5 (by kernel_rfl) (hval 4 30 v4 rfl rfl) h4
  have hb4 := wf_u8 hw4
  have hs4 := small_slice Tryz.underlying30 (of_decide_eq_true (by kernel_rfl)) h4 z4
  obtain ⟨x5, rfl, rfl, rfl, wn5⟩ := open_int Tryz.underlying5 (hval 5 5 v5 rfl rfl) h5
  have hb5 := wf1_u8 wn5
  have hpre : (CertAsks_r I0 ⟨k1, x11, x12, x13, x14⟩ x2 x3 x4 x5).pre := ⟨⟨fun y hy => hb1.1 y hy, fun y hy => hb1.2.1 y hy, hs1.1, hs1.2.1, hs1.2.2.1, hs1.2.2.2⟩, fun x hx => hb0.1 x hx, fun a ha => ⟨(hb0.2.1 a ha).2.2.1, (hb0.2.1 a ha).2.2.2.1⟩, fun a ha => (hb0.2.1 a ha).2.2.2.2, hs0.1, hs0.2, hb2, hb3, hb4, hm2, hm3, hm4, hb5.1, hb5.2⟩
  have hc := law_calls (enter_gen Tryz.func3 rfl rfl) CertAsks_ok (ρ := fun k => if k = 0 then .slice A0 I0.sup.length c0 else if k = 1 then .slice A0' I0.arcs.length c0' else if k = 2 then .slice A11 x11.length c11 else if k = 3 then .slice A12 x12.length c12 else if k = 4 then .slice A13 x13.length c13 else if k = 5 then .slice A14 x14.length c14 else if k = 6 then .slice A2 x2.length c2 else if k = 7 then .slice A3 x3.length c3 else if k = 8 then .slice A4 x4.length c4 else .int .i64 0) (W := W) (args := [.agg [.row 0, .row 1], .agg [.int .i64 k1, .row 2, .row 3, .row 4, .row 5], .row 6, .row 7, .row 8, .int .u8 x5]) (hp := [(0, .row false 0 (.ints .i64 I0.sup)), (1, .row false 0 (.arcs I0.arcs)), (2, .row false 0 (.ints .i64 x11)), (3, .row false 0 (.ints .i64 x12)), (4, .row false 0 (.bools x13)), (5, .row false 0 (.ints .i64 x14)), (6, .row false 0 (.ints .u8 x2)), (7, .row false 0 (.ints .u8 x3)), (8, .row false 0 (.ints .u8 x4))]) (fun k => by (repeat' split) <;> rfl) ⟨⟨rfl, ro_ints hR0⟩, ⟨⟨rfl, ro_arcs hR0'⟩, ⟨⟨rfl, ro_ints hR11⟩, ⟨⟨rfl, ro_ints hR12⟩, ⟨⟨rfl, ro_bools hR13⟩, ⟨⟨rfl, ro_ints hR14⟩, ⟨⟨rfl, ro_ints hR2⟩, ⟨⟨rfl, ro_ints hR3⟩, ⟨⟨rfl, ro_ints hR4⟩, trivial⟩⟩⟩⟩⟩⟩⟩⟩⟩ ((CertAsks_r I0 ⟨k1, x11, x12, x13, x14⟩ x2 x3 x4 x5).pre ∧ SV.bool true = .bool true) ⟨hpre, rfl⟩ (by kernel_rfl)
  simp only [toVs, SV.toV] at hc
  refine Calls.mono (show Calls Tryz.prog 3 #[_, _, _, _, _, _] W _ from hc) fun e W' hx => ?_
  obtain ⟨rfl, hb⟩ := hx
  exact ⟨_, rfl, law_post laid_out hW' rfl (by kernel_rfl) Tryz.underlying4 (by kernel_rfl) rfl hb⟩
theorem certAsks_lifted (os : Os) (started : os.Started) (H : Type) (enc : TypeId × Value → H) :
    ReturnsInHanded {} Tryz.checked os 3 .any (Rows.certAsksSpec.pre6 enc Tryz.prog Tryz.f3 Rows.certAsksRow.domain false) (Rows.certAsksSpec.post enc Tryz.prog Tryz.f3 false true false false) := by
  refine returnsInHanded_of_change_sized (C := Tryz.checked) own_knob started (by kernel_rfl) Tryz.func3
    (ChangeSpec.witness6 (enc := enc) (C := Tryz.checked) false ⟨#[], #[.agg #[.slice none 0 0, .slice none 0 0], .agg #[.int .i64 0, .slice none 0 0, .slice none 0 0, .slice none 0 0, .slice none 0 0], .slice none 0 0, .slice none 0 0, .slice none 0 0, .int .u8 0], []⟩ 8 (by kernel_rfl) (by kernel_rfl) (by kernel_rfl) (by kernel_rfl)) ?_
  intro W base args ds gs before hval0 hW hcnd hz _
  exact certAsks_contract H enc W base args ds gs before hval0 hW hz
theorem certAsks_holds : Rows.CertAsksSaid :=
  OpenClaim.holds_of_wide 3 Tryz.f3 rfl rfl rfl rfl rfl rfl rfl ⟨rfl, rfl, rfl, rfl, rfl⟩ rfl rfl rfl rfl rfl (by kernel_rfl) Tryz.func3 (by kernel_rfl)
    (of_decide_eq_true (by kernel_rfl)) (by unfold Func.isWrapper; first | (rw [if_pos (by decide +kernel)]; kernel_rfl) | (rw [if_neg (by decide +kernel)]; exact ⟨rfl, rfl⟩))
    (fun os started H enc _ => certAsks_lifted os started H enc)
end Go.Proofs.YtahbkllfifmdfaaGreat
