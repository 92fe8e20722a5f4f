/-
  For every input the law quittancelaw03.InstKept returns true, and all memory that was there is as it was.
-/
import Derived.Test.YtimkpgkpebjglaaKnown3
import Derived.Test.YtimkpgkpebjglaaWrap
import Derived.Test.YtimkpgkpebjglaaRows
namespace Go.Proofs.Ytimkpgkpebjglaa
open Go Go.RowKit Go.Ql Go.Draw Go.ChangeShapes Go.WideShapes Go.ChangeAt

theorem own_knob : ownKnob Try.prog.godebug = none := by kernel_rfl
theorem laid_out : laidOutB Try.prog = true := by kernel_rfl
theorem cells_bool : Try.prog.cellsOf 4 = 1 := by kernel_rfl

/-- the next that is kept, from k on -/
theorem keptGo_step (off : List Bool) (n k : Nat) (h : k < n) : keptGo off (n - k) k = if off.getD k false then keptGo off (n - (k + 1)) (k + 1) else k :: keptGo off (n - (k + 1)) (k + 1) := by
  rw [show n - k = (n - (k + 1)) + 1 by omega]; rfl

set_option maxRecDepth 100000 in
set_option maxHeartbeats 1000000 in
theorem lawKept_any (A : Option Addr) (c : Nat) (off : List Bool) (n : Int) (w : World) (hn0 : 0 ≤ n) (hn1 : n ≤ 255) (hA : RowR Value.bool w w.heap.size A off) (hm : off.length ≤ maxLen) :
    Calls Try.prog 5 #[.slice A off.length c, .int .u8 n] w fun e w' => e = .returned (.bool true) ∧ Below w.heap.size w w' := by
  unfold maxLen at hm
  obtain ⟨N, rfl⟩ := Int.eq_ofNat_of_zero_le hn0
  by_cases hbig : 300 < off.length
  · go_enter Try.func5, Try.ntmps5
    go_wp2_with fail
    refine (known_any _).mono ?_
    rintro e w1 ⟨rfl, hb1⟩
    go_wp2_with fail
    go_ret
    exact ⟨rfl, hb1⟩
  · have hsm : off.length ≤ 300 := by omega
    clear hbig hm
    go_enter Try.func5, Try.ntmps5
    go_wp2_with fail
    refine (kept_any A c off (N : Int) _ (by omega) hA).mono ?_
    rintro e w1 ⟨v, rfl, hown, hb1⟩
    have hkN : keptN (N : Int) = N := by unfold keptN; omega
    rw [hkN] at hown
    clear hkN
    obtain ⟨An, cn, rfl, hrn, _, _, _⟩ := rowR_of_own hown
    have hl : (keptF off N).length ≤ N := keptF_len _ _
    have Hl0 : Hid (keptGo off N 0 = keptF off N) := Lib.hid rfl
    generalize keptF off N = l at *
    have hs1 := hb1.size
    clear hown
    go_wp2_with fail
    go_loop [6, 7] (fun t i => ∃ k j : Nat, k ≤ N ∧ j ≤ l.length ∧ j ≤ k ∧ i = .int .i64 k ∧ t = .int .i64 j ∧ l.drop j = keptGo off (N - k) k) (fun _ i => N - (intOf i).toNat)
    case atStart => exact ⟨0, 0, by omega, by omega, by omega, rfl, rfl, by simpa using Hl0.out.symm⟩
    case round =>
      obtain ⟨k, j, hk, hj, hjk, rfl, rfl, hspec⟩ := hrel
      have Hs := Lib.hid hspec
      clear hspec
      by_cases hlt : k < N
      · have St := Lib.hid (keptGo_step off N k hlt)
        have hA1 := (hA.keep hb1 (Nat.le_refl _))
        cases h2 : off.getD k false with
        | true =>
          have h1 : k < off.length := by
            rcases Nat.lt_or_ge k off.length with h | h
            · exact h
            · simp [List.getD, List.getElem?_eq_none h] at h2
          obtain ⟨b, o, rfl, hbl, e1⟩ := hA1.at_ h1
          have e2 : off[k] = true := by simpa [List.getD, h1] using h2
          rw [e2] at e1
          have Hn : Hid (l.drop j = keptGo off (N - (k + 1)) (k + 1)) := Lib.hid (by rw [Hs.out, St.out, h2]; rfl)
          clear h2 e2
          go_wp2_with fail
          go_round
          case rel => exact ⟨k + 1, j, by omega, by omega, by omega, by go_num, rfl, Hn.out⟩
          case measure => simp [intOf]; omega
        | false =>
          have Hn : Hid (l.drop j = k :: keptGo off (N - (k + 1)) (k + 1)) := Lib.hid (by rw [Hs.out, St.out, h2]; rfl)
          have hjl : j < l.length := by
            rcases Nat.lt_or_ge j l.length with h | h
            · exact h
            · have := Hn.out; rw [List.drop_of_length_le h] at this; cases this
          have hlj : l[j] = k := by
            have := Hn.out; rw [drop_cons l j hjl] at this; injection this
          have Hn2 : Hid (l.drop (j + 1) = keptGo off (N - (k + 1)) (k + 1)) := Lib.hid (by
            have := Hn.out; rw [drop_cons l j hjl] at this; injection this)
          obtain ⟨bn, on, rfl, hbn, en⟩ := hrn.at_ hjl
          unfold nat64 at en
          rw [hlj] at en
          clear hlj
          by_cases h1 : k < off.length
          · obtain ⟨b, o, rfl, hbl, e1⟩ := hA1.at_ h1
            have e2 : off[k] = false := by simpa [List.getD, h1] using h2
            rw [e2] at e1
            clear h2 e2
            go_wp2_with fail
            go_round
            case rel => exact ⟨k + 1, j + 1, by omega, by omega, by omega, by go_num, by go_num, Hn2.out⟩
            case measure => simp [intOf]; omega
          · clear h2
            go_wp2_with fail
            go_round
            case rel => exact ⟨k + 1, j + 1, by omega, by omega, by omega, by go_num, by go_num, Hn2.out⟩
            case measure => simp [intOf]; omega
      · have hjl : j = l.length := by
          have := Hs.out
          rw [show N - k = 0 by omega] at this
          have h3 : (l.drop j).length = 0 := by rw [this]; rfl
          simp at h3
          omega
        have hjl2 : ((j : Int) == (l.length : Int)) = true := by simp [hjl]
        clear hjl
        go_wp2_with fail
        refine (known_any _).mono ?_
        rintro e w2 ⟨rfl, hb2⟩
        have hb2w : Below w.heap.size w w2 := hb1.trans (hb2.mono hs1)
        go_wp2_with fail
        refine (kept_any A c off (-(N : Int)) _ (by omega) ((hA.keep hb2w (Nat.le_refl _)).more hb2w.size)).mono ?_
        rintro e w3 ⟨v3, rfl, hown3, hb3⟩
        have hk0 : keptF off (keptN (-(N : Int))) = [] := by
          have : keptN (-(N : Int)) = 0 := by unfold keptN; omega
          rw [this]; rfl
        rw [hk0] at hown3
        obtain ⟨A3, c3, rfl⟩ := ownsRow_slice hown3
        simp only [List.length_nil]
        clear hk0 hown3
        go_wp2_with fail
        go_ret
        exact ⟨rfl, hb2w.trans (hb3.mono hb2w.size)⟩

theorem instKept_contract (H : Type) (enc : TypeId × Value → H) (W : World) (base : Nat) (args : Array Value) (ds gs : List (DataW H)) (before : List MemPlace)
    (hval : ∀ (j : Nat) t v, Try.f5.params[j]? = some t → args[j]? = some v → Value.okWide Try.prog W .any base t v)
    (hW : DataW.Whole enc Try.prog Try.f5.params.toList Rows.instKeptSpec.vars false W args.toList ds gs before) :
    Calls Try.prog 5 args W fun e W' => ∃ v, e = .returned v ∧ Rows.instKeptSpec.post enc Try.prog Try.f5 false true false false W args v W' := by
  have hW' := hW
  obtain ⟨p, q, hA0, hV, rfl, hfz, hnd⟩ := hW
  have hA : DataW.TrodAll enc Try.prog W 0 (fun _ => true) true Try.f5.params.toList args.toList ds p := hA0
  rw [Try.params5] at hA hval
  obtain ⟨v0, vs0, d0, ds0, p0, q0, hargs, rfl, rfl, h0, r0⟩ := trodAll_cons hA
  obtain ⟨v1, vs1, d1, ds1, p1, q1, rfl, rfl, rfl, h1, r1⟩ := trodAll_cons r0
  obtain ⟨rfl, rfl, rfl⟩ := trodAll_nil r1
  obtain rfl : args = #[v0, v1] := by cases args; simp_all
  obtain ⟨A, c, off, rfl, hR, hm⟩ := dec_bools Try.underlying35 Try.underlying4 cells_bool (hval 0 35 v0 rfl rfl) h0
  obtain ⟨n, rfl, rfl, rfl, wn⟩ := open_int Try.underlying5 (hval 1 5 v1 rfl rfl) h1
  have hn : 0 ≤ n ∧ n ≤ 255 := by simpa [Lit.wf, IntKind.min, IntKind.max, IntKind.signed, IntKind.bits] using wn
  refine (lawKept_any A c off n W hn.1 hn.2 hR hm).mono fun e W' ⟨he, hb⟩ => ?_
  subst he
  exact ⟨_, rfl, law_post laid_out hW' rfl (by kernel_rfl) Try.underlying4 (by kernel_rfl) rfl hb⟩

set_option maxRecDepth 100000 in
theorem instKept_lifted (os : Os) (started : os.Started) (H : Type) (enc : TypeId × Value → H) :
    ReturnsInHanded {} Try.checked os 5 .any (Rows.instKeptSpec.pre6 enc Try.prog Try.f5 Rows.instKeptRow.domain false) (Rows.instKeptSpec.post enc Try.prog Try.f5 false true false false) := by
  refine returnsInHanded_of_change (C := Try.checked) own_knob started (by kernel_rfl) Try.func5
    (ChangeSpec.witness6 (enc := enc) (C := Try.checked) false ⟨#[], #[.slice none 0 0, .int .u8 0], []⟩ 8 (by kernel_rfl) (by kernel_rfl) (by kernel_rfl) (by kernel_rfl)) ?_
  intro W base args ds gs before hval0 hW hcnd _
  exact instKept_contract H enc W base args ds gs before hval0 hW

theorem instKept_holds : Rows.InstKeptSaid :=
  OpenClaim.holds_of_wide 5 Try.f5 rfl rfl rfl rfl rfl rfl rfl ⟨rfl, rfl, rfl, rfl, rfl⟩ rfl rfl rfl rfl rfl (by kernel_rfl) Try.func5 (by kernel_rfl)
    (of_decide_eq_true (by kernel_rfl)) (by unfold Func.isWrapper; first | (rw [if_pos (by decide +kernel)]; kernel_rfl) | (rw [if_neg (by decide +kernel)]; exact ⟨rfl, rfl⟩))
    (fun os started H enc _ => instKept_lifted os started H enc)
end Go.Proofs.Ytimkpgkpebjglaa
