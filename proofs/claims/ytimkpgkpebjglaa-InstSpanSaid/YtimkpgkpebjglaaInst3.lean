/-
  CONTRACTS: inst.Kept; the document's Off, Kept.
-/
import Derived.Test.YtimkpgkpebjglaaBase
namespace Go.Proofs.Ytimkpgkpebjglaa
open Go Go.RowKit Go.Ql Go.Draw

theorem keptBounds (n : Int) : ∃ (X : Int) (M : Nat), (∀ w, (Builtin.max_ #[3, 3] 3 #[.int .i64 n, .int .i64 0]).run Try.prog w = .ok (.int .i64 X) w) ∧
    (∀ w, (Builtin.min_ #[3, 3] 3 #[.int .i64 X, .int .i64 1000]).run Try.prog w = .ok (.int .i64 (M : Int)) w) ∧ M = keptN n ∧ M ≤ 1000 := by
  refine ⟨if 0 > n then 0 else n, keptN n, fun w => rfl, fun w => ?_, rfl, by unfold keptN; omega⟩
  have e : ((keptN n : Nat) : Int) = if 1000 < (if 0 > n then 0 else n) then 1000 else (if 0 > n then 0 else n) := by
    unfold keptN
    repeat' split
    all_goals omega
  rw [e]
  rfl

theorem kept_any (A : Option Addr) (c : Nat) (off : List Bool) (n : Int) (w : World) (hx : off.length ≤ 1000000) (hA : RowR Value.bool w w.heap.size A off) :
    Calls Try.prog 16 #[.slice A off.length c, .int .i64 n] w fun e w' => ∃ v, e = .returned v ∧ w'.ownsRow w.heap.size 3 1 v (keptF off (keptN n)).length ((keptF off (keptN n)).map nat64) ∧ Below w.heap.size w w' := by
  obtain ⟨X, M, hmx, hmn, hM, hM2⟩ := keptBounds n
  rw [← hM]
  clear hM
  obtain ⟨i0, hi, hz0, hz1, hz2⟩ := info_parts info_int
  go_enter Try.func16, Try.ntmps16
  go_wp2_with fail
  clear hmx hmn
  go_loopw [5, 10] (fun v i wr => ∃ (k : Nat) (acc : List Nat), k ≤ M ∧ acc.length ≤ k ∧ i = .int .i64 k ∧ wr.ownsRow w.heap.size 3 1 v acc.length (acc.map nat64) ∧ acc ++ keptGo off (M - k) k = keptF off M ∧ Below w.heap.size w wr) (fun _ i _ => M - (intOf i).toNat)
  case atStart => exact ⟨0, [], by omega, by simp, rfl, World.ownsRow_nil _ _ _ _, by simp [keptF], Below.refl _ _⟩
  case round =>
    obtain ⟨k, acc, hk, hacc, rfl, hown, hspec, hb⟩ := hrel
    have Hs := Lib.hid hspec
    clear hspec
    by_cases hlt : k < M
    · obtain ⟨hc, hf⟩ := bcell hb
      have step : keptGo off (M - k) k = if off.getD k false then keptGo off (M - (k + 1)) (k + 1) else k :: keptGo off (M - (k + 1)) (k + 1) := by
        rw [show M - k = (M - (k + 1)) + 1 by omega]; rfl
      by_cases hoff : k < off.length ∧ off.getD k false = true
      · obtain ⟨h1, h2⟩ := hoff
        obtain ⟨b, o, rfl, hbl, e1⟩ := hA.at_ h1
        have e2 : off[k] = true := by simpa [List.getD, h1] using h2
        rw [e2] at e1
        rw [h2] at step
        have St := Lib.hid step
        clear step e2 h2
        go_wp2_with fail
        go_roundw
        case rel => exact ⟨k + 1, acc, by omega, by omega, by go_num, hown, by rw [← Hs.out, St.out]; rfl, hb⟩
        case measure => simp [intOf]; omega
      · have h2 : off.getD k false = false := by
          by_cases h1 : k < off.length
          · simpa using fun h => hoff ⟨h1, h⟩
          · simp [List.getD, List.getElem?_eq_none (by omega : off.length ≤ k)]
        rw [h2] at step
        have St := Lib.hid step
        clear step hoff
        by_cases h1 : k < off.length
        · obtain ⟨b, o, rfl, hbl, e1⟩ := hA.at_ h1
          have e2 : off[k] = false := by simpa [List.getD, h1] using h2
          rw [e2] at e1
          clear e2 h2
          go_wp2_with (at_builtin; refine wpList_append_own_at _ rfl (.tmp 24) (.tmp 26) 37 rfl w.heap.size 3 i0 (.int .i64 0) 1 8 Try.underlying37 hi hz0 hz1 hz2 rfl (by decide) _ _ _ rfl (hown.alloc _) ⟨wr.heap.size, 0, none⟩ 1 1 [.int .i64 k] rfl rfl ?c1 ?c2 ?c3 ?c4 ?c5 ?_)
          case c1 => exact cell_one_new _ _ _
          case c2 => simp [Value.oneCell']
          case c3 => simp only [maxLen]; omega
          case c4 => omega
          case c5 => have := hb.size; simp; omega
          intro v' w1 hown' hgrow _ hat
          have hb1 : Below w.heap.size w w1 := (hb.alloc hb.size _).grown hgrow (by have := hb.size; simp; omega) (fun g hg => (hown.lt g hg).1)
          go_wp2_with fail
          go_roundw
          case rel => exact ⟨k + 1, acc ++ [k], by omega, by simp; omega, by go_num, by simpa [nat64] using hown', by rw [← Hs.out, St.out]; simp, hb1⟩
          case measure => simp [intOf]; omega
        · clear h2
          go_wp2_with (at_builtin; refine wpList_append_own_at _ rfl (.tmp 24) (.tmp 26) 37 rfl w.heap.size 3 i0 (.int .i64 0) 1 8 Try.underlying37 hi hz0 hz1 hz2 rfl (by decide) _ _ _ rfl (hown.alloc _) ⟨wr.heap.size, 0, none⟩ 1 1 [.int .i64 k] rfl rfl ?d1 ?d2 ?d3 ?d4 ?d5 ?_)
          case d1 => exact cell_one_new _ _ _
          case d2 => simp [Value.oneCell']
          case d3 => simp only [maxLen]; omega
          case d4 => omega
          case d5 => have := hb.size; simp; omega
          intro v' w1 hown' hgrow _ hat
          have hb1 : Below w.heap.size w w1 := (hb.alloc hb.size _).grown hgrow (by have := hb.size; simp; omega) (fun g hg => (hown.lt g hg).1)
          go_wp2_with fail
          go_roundw
          case rel => exact ⟨k + 1, acc ++ [k], by omega, by simp; omega, by go_num, by simpa [nat64] using hown', by rw [← Hs.out, St.out]; simp, hb1⟩
          case measure => simp [intOf]; omega
    · have he : acc = keptF off M := by
        have := Hs.out
        rw [show M - k = 0 by omega] at this
        simpa [keptGo] using this
      subst he
      go_wp2_with fail
      go_ret
      exact ⟨_, rfl, hown, hb⟩
end Go.Proofs.Ytimkpgkpebjglaa
