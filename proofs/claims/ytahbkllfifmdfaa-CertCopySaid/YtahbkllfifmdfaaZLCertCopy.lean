/- CertCopy: the law is true for every input: the given statement, with no condition of its own. -/
import Derived.Test.YtahbkllfifmdfaaZFL13
import Derived.Test.YtahbkllfifmdfaaZVc11
import Derived.Test.YtahbkllfifmdfaaZWrap3
import Derived.Test.YtahbkllfifmdfaaZWrapC
set_option linter.all false
set_option linter.unusedSimpArgs false
set_option linter.unusedVariables false
set_option maxRecDepth 100000
namespace Go.Proofs.Ytahbkllfifmdfaa
open Go Go.RowKit Go.ChangeShapes Go.WideShapes Go.ChangeAt Go.Deep Go.Ql Go.Vc
theorem certCopy_contract (H : Type) (enc : TypeId × Value → H) (W : World) (base : Nat) (args : Array Value) (ds gs : List (DataW H)) (before : List MemPlace)
    (hval : ∀ (j : Nat) t v, Try.f11.params[j]? = some t → args[j]? = some v → Value.okWide Try.prog W .any base t v)
    (hW : DataW.Whole enc Try.prog Try.f11.params.toList Rows.certCopySpec.vars false W args.toList ds gs before)
    (hz : (DataW.weightsEach Try.prog (Try.f11.params.toList ++ Rows.certCopySpec.plain.varTypes Try.prog) (ds ++ gs)).all (· ≤ reachBytes) = true) :
    Calls Try.prog 11 args W fun e W' => ∃ v, e = .returned v ∧ Rows.certCopySpec.post enc Try.prog Try.f11 false true false false W args v W' := by
  have hW' := hW
  obtain ⟨p, q, hA0, hV, rfl, hfz, hnd⟩ := hW
  have hA : DataW.TrodAll enc Try.prog W 0 (fun _ => true) true Try.f11.params.toList args.toList ds p := hA0
  rw [Try.params11] at hA hval hz
  obtain ⟨v0, vs0, d0, ds0, p0, q0, hargs, rfl, rfl, h0, r0⟩ := trodAll_cons hA
  obtain ⟨rfl, rfl, rfl⟩ := trodAll_nil r0
  obtain rfl : args = #[v0] := by cases args; simp_all
  obtain ⟨z0, hz⟩ := weights_cons hz
  obtain ⟨A01, c01, A02, c02, A03, c03, A04, c04, k0, x01, x02, x03, x04, rfl, hR01, hR02, hR03, hR04, hb0, hs0⟩ := dec_cert (hval 0 69 v0 rfl rfl) h0
  replace hs0 := hs0 z0
  have hpre : (CertCopy_r ⟨k0, x01, x02, x03, x04⟩).pre := ⟨fun y hy => hb0.1 y hy, fun y hy => hb0.2.1 y hy, hs0.1, hs0.2.1, hs0.2.2.1, hs0.2.2.2⟩
  have hc := law_calls (enter_gen Try.func11 rfl rfl) CertCopy_ok (ρ := fun k => if k = 0 then .slice A01 x01.length c01 else if k = 1 then .slice A02 x02.length c02 else if k = 2 then .slice A03 x03.length c03 else if k = 3 then .slice A04 x04.length c04 else .int .i64 0) (W := W) (args := [.agg [.int .i64 k0, .row 0, .row 1, .row 2, .row 3]]) (hp := [(0, .row false 0 (.ints .i64 x01)), (1, .row false 0 (.ints .i64 x02)), (2, .row false 0 (.bools x03)), (3, .row false 0 (.ints .i64 x04))]) (fun k => by (repeat' split) <;> rfl) ⟨⟨rfl, ro_ints hR01⟩, ⟨⟨rfl, ro_ints hR02⟩, ⟨⟨rfl, ro_bools hR03⟩, ⟨⟨rfl, ro_ints hR04⟩, trivial⟩⟩⟩⟩ ((CertCopy_r ⟨k0, x01, x02, x03, x04⟩).pre ∧ SV.bool true = .bool true) ⟨hpre, rfl⟩ (by kernel_rfl)
  simp only [toVs, SV.toV] at hc
  refine Calls.mono (show Calls Try.prog 11 #[_] W _ from hc) fun e W' hx => ?_
  obtain ⟨rfl, hb⟩ := hx
  exact ⟨_, rfl, law_post laid_out hW' rfl (by kernel_rfl) Try.underlying4 (by kernel_rfl) rfl hb⟩
theorem certCopy_lifted (os : Os) (started : os.Started) (H : Type) (enc : TypeId × Value → H) :
    ReturnsInHanded {} Try.checked os 11 .any (Rows.certCopySpec.pre6 enc Try.prog Try.f11 Rows.certCopyRow.domain false) (Rows.certCopySpec.post enc Try.prog Try.f11 false true false false) := by
  refine returnsInHanded_of_change_sized (C := Try.checked) own_knob started (by kernel_rfl) Try.func11
    (ChangeSpec.witness6 (enc := enc) (C := Try.checked) false ⟨#[], #[.agg #[.int .i64 0, .slice none 0 0, .slice none 0 0, .slice none 0 0, .slice none 0 0]], []⟩ 8 (by kernel_rfl) (by kernel_rfl) (by kernel_rfl) (by kernel_rfl)) ?_
  intro W base args ds gs before hval0 hW hcnd hz _
  exact certCopy_contract H enc W base args ds gs before hval0 hW hz
theorem certCopy_holds : Rows.CertCopySaid :=
  OpenClaim.holds_of_wide 11 Try.f11 rfl rfl rfl rfl rfl rfl rfl ⟨rfl, rfl, rfl, rfl, rfl⟩ rfl rfl rfl rfl rfl (by kernel_rfl) Try.func11 (by kernel_rfl)
    (of_decide_eq_true (by kernel_rfl)) (by unfold Func.isWrapper; first | (rw [if_pos (by decide +kernel)]; kernel_rfl) | (rw [if_neg (by decide +kernel)]; exact ⟨rfl, rfl⟩))
    (fun os started H enc _ => certCopy_lifted os started H enc)
end Go.Proofs.Ytahbkllfifmdfaa
