/- Part of the proof, Ty. -/
import Derived.Test.YtahbkllfifmdfaaZVc11
import Derived.Test.YtahbkllfifmdfaaProg
set_option linter.all false
set_option linter.unusedSimpArgs false
set_option linter.unusedVariables false
set_option maxRecDepth 100000
namespace Go.Proofs.Ytahbkllfifmdfaa
open Go Go.RowKit Go.Ql Go.Vc
theorem tsOk_nil (P : Program) : TsOk P [] := fun _ _ h => by simp [lk] at h
theorem tsOk_cons {P : Program} {t : Nat} {ti : TI} {T : Tys} (h : TiOk P t ti) (hT : TsOk P T) : TsOk P ((t, ti) :: T) := by
  intro t' ti' hl
  rw [lk_cons] at hl
  split at hl
  · rename_i e; subst e; cases hl; exact h
  · exact hT t' ti' hl
def ti1 : TI := ⟨[.val .nilFunc], false, [], none, none, []⟩
theorem ti1_ok : TiOk Try.prog 1 ti1 := ⟨by kernel_rfl, by kernel_rfl, (fun e rk b h => by cases h), (fun k h => by cases h), by rfl, (.inr rfl), (fun h => by cases h), (fun l h => by cases h), (fun l h => by cases h), (fun h => absurd rfl h), (fun kk vk l h => by cases h), (fun l h => by cases h)⟩
def ti2 : TI := ⟨[.int .i64], false, [], none, some .i64, []⟩
theorem ti2_ok : TiOk Try.prog 2 ti2 := ⟨by kernel_rfl, by kernel_rfl, (fun e rk b h => by cases h), (fun k h => by cases h; exact (by kernel_rfl)), by rfl, (.inr rfl), (fun h => by cases h), (fun l h => by cases h), (fun l h => by cases h), (fun h => absurd rfl h), (fun kk vk l h => by cases h), (fun l h => by cases h)⟩
def ti3 : TI := ⟨[.int .i64], false, [], none, some .i64, []⟩
theorem ti3_ok : TiOk Try.prog 3 ti3 := ⟨by kernel_rfl, by kernel_rfl, (fun e rk b h => by cases h), (fun k h => by cases h; exact (by kernel_rfl)), by rfl, (.inr rfl), (fun h => by cases h), (fun l h => by cases h), (fun l h => by cases h), (fun h => absurd rfl h), (fun kk vk l h => by cases h), (fun l h => by cases h)⟩
def ti4 : TI := ⟨[.bool], false, [], none, none, []⟩
theorem ti4_ok : TiOk Try.prog 4 ti4 := ⟨by kernel_rfl, by kernel_rfl, (fun e rk b h => by cases h), (fun k h => by cases h), by rfl, (.inr rfl), (fun h => by cases h), (fun l _ _ => by kernel_rfl), (fun l h => by cases h), (fun h => absurd rfl h), (fun kk vk l h => by cases h), (fun l h => by cases h)⟩
def ti5 : TI := ⟨[.int .u8], false, [], none, some .u8, []⟩
theorem ti5_ok : TiOk Try.prog 5 ti5 := ⟨by kernel_rfl, by kernel_rfl, (fun e rk b h => by cases h), (fun k h => by cases h; exact (by kernel_rfl)), by rfl, (.inr rfl), (fun h => by cases h), (fun l h => by cases h), (fun l h => by cases h), (fun h => absurd rfl h), (fun kk vk l h => by cases h), (fun l h => by cases h)⟩
def ti15 : TI := ⟨[.val (.pointer none)], false, [], none, none, []⟩
theorem ti15_ok : TiOk Try.prog 15 ti15 := ⟨by kernel_rfl, by kernel_rfl, (fun e rk b h => by cases h), (fun k h => by cases h), by rfl, (.inr rfl), (fun h => by cases h), (fun l h => by cases h), (fun l _ _ => by kernel_rfl), (fun h => absurd rfl h), (fun kk vk l h => by cases h), (fun l h => by cases h)⟩
def ti16 : TI := ⟨[.val (.pointer none)], false, [], none, none, []⟩
theorem ti16_ok : TiOk Try.prog 16 ti16 := ⟨by kernel_rfl, by kernel_rfl, (fun e rk b h => by cases h), (fun k h => by cases h), by rfl, (.inr rfl), (fun h => by cases h), (fun l h => by cases h), (fun l _ _ => by kernel_rfl), (fun h => absurd rfl h), (fun kk vk l h => by cases h), (fun l h => by cases h)⟩
def ti17 : TI := ⟨[.val (.pointer none)], false, [], none, none, []⟩
theorem ti17_ok : TiOk Try.prog 17 ti17 := ⟨by kernel_rfl, by kernel_rfl, (fun e rk b h => by cases h), (fun k h => by cases h), by rfl, (.inr rfl), (fun h => by cases h), (fun l h => by cases h), (fun l _ _ => by kernel_rfl), (fun h => absurd rfl h), (fun kk vk l h => by cases h), (fun l h => by cases h)⟩
def ti20 : TI := ⟨[.val .nilIface], false, [], none, none, []⟩
theorem ti20_ok : TiOk Try.prog 20 ti20 := ⟨by kernel_rfl, by kernel_rfl, (fun e rk b h => by cases h), (fun k h => by cases h), by rfl, (.inr rfl), (fun h => by cases h), (fun l h => by cases h), (fun l h => by cases h), (fun h => absurd rfl h), (fun kk vk l h => by cases h), (fun l _ _ => by kernel_rfl)⟩
def ti21 : TI := ⟨[.int .i32], false, [], none, some .i32, []⟩
theorem ti21_ok : TiOk Try.prog 21 ti21 := ⟨by kernel_rfl, by kernel_rfl, (fun e rk b h => by cases h), (fun k h => by cases h; exact (by kernel_rfl)), by rfl, (.inr rfl), (fun h => by cases h), (fun l h => by cases h), (fun l h => by cases h), (fun h => absurd rfl h), (fun kk vk l h => by cases h), (fun l h => by cases h)⟩
def ti22 : TI := ⟨[.int .u64], false, [], none, some .u64, []⟩
theorem ti22_ok : TiOk Try.prog 22 ti22 := ⟨by kernel_rfl, by kernel_rfl, (fun e rk b h => by cases h), (fun k h => by cases h; exact (by kernel_rfl)), by rfl, (.inr rfl), (fun h => by cases h), (fun l h => by cases h), (fun l h => by cases h), (fun h => absurd rfl h), (fun kk vk l h => by cases h), (fun l h => by cases h)⟩
theorem eq24 (w : World) : ∀ a b : List Int, a.length = 5 → b.length = 5 → (Op.equal 24 (.agg (mkInts [.i64, .i64, .i64, .i64, .i64] a)) (.agg (mkInts [.i64, .i64, .i64, .i64, .i64] b))).run Try.prog w = .ok (decide (a = b)) w := by
  intro a b ha hb
  match a, b, ha, hb with
  | [a0, a1, a2, a3, a4], [b0, b1, b2, b3, b4], _, _ =>
    show (Op.equalIn 10000 24 _ _).run Try.prog w = _
    by_cases e0 : a0 = b0
    · by_cases e1 : a1 = b1
      · by_cases e2 : a2 = b2
        · by_cases e3 : a3 = b3
          · by_cases e4 : a4 = b4
            · subst e0 e1 e2 e3 e4
              simp [mkInts, go_sem]
            · subst e0 e1 e2 e3; simp [mkInts, go_sem, e4]
          · subst e0 e1 e2; simp [mkInts, go_sem, e3]
        · subst e0 e1; simp [mkInts, go_sem, e2]
      · subst e0; simp [mkInts, go_sem, e1]
    · simp [mkInts, go_sem, e0]
def ti24 : TI := ⟨[.int .i64, .int .i64, .int .i64, .int .i64, .int .i64], true, [(0, 1, false), (1, 1, false), (2, 1, false), (3, 1, false), (4, 1, false)], none, none, [.i64, .i64, .i64, .i64, .i64]⟩
theorem ti24_ok : TiOk Try.prog 24 ti24 := ⟨by kernel_rfl, by kernel_rfl, (fun e rk b h => by cases h), (fun k h => by cases h), by rfl, (.inl rfl), (fun _ => by kernel_rfl), (fun l h => by cases h), (fun l h => by cases h), (fun _ => ⟨by kernel_rfl, fun a b w => eq24 w a b⟩), (fun kk vk l h => by cases h), (fun l h => by cases h)⟩
def ti25 : TI := ⟨[.slice 2 (.int .i64)], false, [], some (2, .int .i64, 8), none, []⟩
theorem ti25_ok : TiOk Try.prog 25 ti25 := ⟨by kernel_rfl, by kernel_rfl, (fun e rk b h => by cases h; exact ⟨by kernel_rfl, by kernel_rfl, by decide⟩), (fun k h => by cases h), by rfl, (.inr rfl), (fun h => by cases h), (fun l h => by cases h), (fun l h => by cases h), (fun h => absurd rfl h), (fun kk vk l h => by cases h), (fun l h => by cases h)⟩
def ti26 : TI := ⟨[.slice 24 (.arc)], false, [], some (24, .arc, 40), none, []⟩
theorem ti26_ok : TiOk Try.prog 26 ti26 := ⟨by kernel_rfl, by kernel_rfl, (fun e rk b h => by cases h; exact ⟨by kernel_rfl, by kernel_rfl, by decide⟩), (fun k h => by cases h), by rfl, (.inr rfl), (fun h => by cases h), (fun l h => by cases h), (fun l h => by cases h), (fun h => absurd rfl h), (fun kk vk l h => by cases h), (fun l h => by cases h)⟩
def ti28 : TI := ⟨[.slice 2 (.int .i64), .slice 24 (.arc)], true, [(0, 1, false), (1, 1, false)], none, none, []⟩
theorem ti28_ok : TiOk Try.prog 28 ti28 := ⟨by kernel_rfl, by kernel_rfl, (fun e rk b h => by cases h), (fun k h => by cases h), by rfl, (.inl rfl), (fun _ => by kernel_rfl), (fun l h => by cases h), (fun l h => by cases h), (fun h => absurd rfl h), (fun kk vk l h => by cases h), (fun l h => by cases h)⟩
def ti30 : TI := ⟨[.int .i64, .slice 2 (.int .i64), .slice 24 (.arc)], true, [(0, 1, false), (1, 2, true)], none, none, []⟩
theorem ti30_ok : TiOk Try.prog 30 ti30 := ⟨by kernel_rfl, by kernel_rfl, (fun e rk b h => by cases h), (fun k h => by cases h), by rfl, (.inl rfl), (fun _ => by kernel_rfl), (fun l h => by cases h), (fun l h => by cases h), (fun h => absurd rfl h), (fun kk vk l h => by cases h), (fun l h => by cases h)⟩
theorem eq32 (w : World) : ∀ a b : List Int, a.length = 2 → b.length = 2 → (Op.equal 32 (.agg (mkInts [.i64, .u64] a)) (.agg (mkInts [.i64, .u64] b))).run Try.prog w = .ok (decide (a = b)) w := by
  intro a b ha hb
  match a, b, ha, hb with
  | [a0, a1], [b0, b1], _, _ =>
    show (Op.equalIn 10000 32 _ _).run Try.prog w = _
    by_cases e0 : a0 = b0
    · by_cases e1 : a1 = b1
      · subst e0 e1
        simp [mkInts, go_sem]
      · subst e0; simp [mkInts, go_sem, e1]
    · simp [mkInts, go_sem, e0]
def ti32 : TI := ⟨[.int .i64, .int .u64], true, [(0, 1, false), (1, 1, false)], none, none, [.i64, .u64]⟩
theorem ti32_ok : TiOk Try.prog 32 ti32 := ⟨by kernel_rfl, by kernel_rfl, (fun e rk b h => by cases h), (fun k h => by cases h), by rfl, (.inl rfl), (fun _ => by kernel_rfl), (fun l h => by cases h), (fun l h => by cases h), (fun _ => ⟨by kernel_rfl, fun a b w => eq32 w a b⟩), (fun kk vk l h => by cases h), (fun l h => by cases h)⟩
def ti34 : TI := ⟨[.slice 2 (.int .i64), .slice 24 (.arc), .int .i64, .slice 2 (.int .i64), .slice 24 (.arc), .int .i64, .int .u64, .bool], true, [(0, 2, true), (2, 3, true), (5, 2, true), (7, 1, false)], none, none, []⟩
theorem ti34_ok : TiOk Try.prog 34 ti34 := ⟨by kernel_rfl, by kernel_rfl, (fun e rk b h => by cases h), (fun k h => by cases h), by rfl, (.inl rfl), (fun _ => by kernel_rfl), (fun l h => by cases h), (fun l h => by cases h), (fun h => absurd rfl h), (fun kk vk l h => by cases h), (fun l h => by cases h)⟩
def ti35 : TI := ⟨[.int .u16], false, [], none, some .u16, []⟩
theorem ti35_ok : TiOk Try.prog 35 ti35 := ⟨by kernel_rfl, by kernel_rfl, (fun e rk b h => by cases h), (fun k h => by cases h; exact (by kernel_rfl)), by rfl, (.inr rfl), (fun h => by cases h), (fun l h => by cases h), (fun l h => by cases h), (fun h => absurd rfl h), (fun kk vk l h => by cases h), (fun l h => by cases h)⟩
def ti36 : TI := ⟨[.int .u16], false, [], none, some .u16, []⟩
theorem ti36_ok : TiOk Try.prog 36 ti36 := ⟨by kernel_rfl, by kernel_rfl, (fun e rk b h => by cases h), (fun k h => by cases h; exact (by kernel_rfl)), by rfl, (.inr rfl), (fun h => by cases h), (fun l h => by cases h), (fun l h => by cases h), (fun h => absurd rfl h), (fun kk vk l h => by cases h), (fun l h => by cases h)⟩
def ti38 : TI := ⟨[.val .nilFunc], false, [], none, none, []⟩
theorem ti38_ok : TiOk Try.prog 38 ti38 := ⟨by kernel_rfl, by kernel_rfl, (fun e rk b h => by cases h), (fun k h => by cases h), by rfl, (.inr rfl), (fun h => by cases h), (fun l h => by cases h), (fun l h => by cases h), (fun h => absurd rfl h), (fun kk vk l h => by cases h), (fun l h => by cases h)⟩
def ti39 : TI := ⟨[.val .nilFunc], false, [], none, none, []⟩
theorem ti39_ok : TiOk Try.prog 39 ti39 := ⟨by kernel_rfl, by kernel_rfl, (fun e rk b h => by cases h), (fun k h => by cases h), by rfl, (.inr rfl), (fun h => by cases h), (fun l h => by cases h), (fun l h => by cases h), (fun h => absurd rfl h), (fun kk vk l h => by cases h), (fun l h => by cases h)⟩
def ti40 : TI := ⟨[.val .nilFunc], false, [], none, none, []⟩
theorem ti40_ok : TiOk Try.prog 40 ti40 := ⟨by kernel_rfl, by kernel_rfl, (fun e rk b h => by cases h), (fun k h => by cases h), by rfl, (.inr rfl), (fun h => by cases h), (fun l h => by cases h), (fun l h => by cases h), (fun h => absurd rfl h), (fun kk vk l h => by cases h), (fun l h => by cases h)⟩
def ti41 : TI := ⟨[.slice 5 (.int .u8)], false, [], some (5, .int .u8, 1), none, []⟩
theorem ti41_ok : TiOk Try.prog 41 ti41 := ⟨by kernel_rfl, by kernel_rfl, (fun e rk b h => by cases h; exact ⟨by kernel_rfl, by kernel_rfl, by decide⟩), (fun k h => by cases h), by rfl, (.inr rfl), (fun h => by cases h), (fun l h => by cases h), (fun l h => by cases h), (fun h => absurd rfl h), (fun kk vk l h => by cases h), (fun l h => by cases h)⟩
def ti42 : TI := ⟨[.val .nilFunc], false, [], none, none, []⟩
theorem ti42_ok : TiOk Try.prog 42 ti42 := ⟨by kernel_rfl, by kernel_rfl, (fun e rk b h => by cases h), (fun k h => by cases h), by rfl, (.inr rfl), (fun h => by cases h), (fun l h => by cases h), (fun l h => by cases h), (fun h => absurd rfl h), (fun kk vk l h => by cases h), (fun l h => by cases h)⟩
def ti43 : TI := ⟨[.val .nilFunc], false, [], none, none, []⟩
theorem ti43_ok : TiOk Try.prog 43 ti43 := ⟨by kernel_rfl, by kernel_rfl, (fun e rk b h => by cases h), (fun k h => by cases h), by rfl, (.inr rfl), (fun h => by cases h), (fun l h => by cases h), (fun l h => by cases h), (fun h => absurd rfl h), (fun kk vk l h => by cases h), (fun l h => by cases h)⟩
def ti44 : TI := ⟨[.val .nilFunc], false, [], none, none, []⟩
theorem ti44_ok : TiOk Try.prog 44 ti44 := ⟨by kernel_rfl, by kernel_rfl, (fun e rk b h => by cases h), (fun k h => by cases h), by rfl, (.inr rfl), (fun h => by cases h), (fun l h => by cases h), (fun l h => by cases h), (fun h => absurd rfl h), (fun kk vk l h => by cases h), (fun l h => by cases h)⟩
def ti45 : TI := ⟨[.val .nilFunc], false, [], none, none, []⟩
theorem ti45_ok : TiOk Try.prog 45 ti45 := ⟨by kernel_rfl, by kernel_rfl, (fun e rk b h => by cases h), (fun k h => by cases h), by rfl, (.inr rfl), (fun h => by cases h), (fun l h => by cases h), (fun l h => by cases h), (fun h => absurd rfl h), (fun kk vk l h => by cases h), (fun l h => by cases h)⟩
def ti46 : TI := ⟨[.val .nilFunc], false, [], none, none, []⟩
theorem ti46_ok : TiOk Try.prog 46 ti46 := ⟨by kernel_rfl, by kernel_rfl, (fun e rk b h => by cases h), (fun k h => by cases h), by rfl, (.inr rfl), (fun h => by cases h), (fun l h => by cases h), (fun l h => by cases h), (fun h => absurd rfl h), (fun kk vk l h => by cases h), (fun l h => by cases h)⟩
def ti47 : TI := ⟨[.val .nilFunc], false, [], none, none, []⟩
theorem ti47_ok : TiOk Try.prog 47 ti47 := ⟨by kernel_rfl, by kernel_rfl, (fun e rk b h => by cases h), (fun k h => by cases h), by rfl, (.inr rfl), (fun h => by cases h), (fun l h => by cases h), (fun l h => by cases h), (fun h => absurd rfl h), (fun kk vk l h => by cases h), (fun l h => by cases h)⟩
def ti48 : TI := ⟨[.val .nilFunc], false, [], none, none, []⟩
theorem ti48_ok : TiOk Try.prog 48 ti48 := ⟨by kernel_rfl, by kernel_rfl, (fun e rk b h => by cases h), (fun k h => by cases h), by rfl, (.inr rfl), (fun h => by cases h), (fun l h => by cases h), (fun l h => by cases h), (fun h => absurd rfl h), (fun kk vk l h => by cases h), (fun l h => by cases h)⟩
def ti49 : TI := ⟨[.val .nilFunc], false, [], none, none, []⟩
theorem ti49_ok : TiOk Try.prog 49 ti49 := ⟨by kernel_rfl, by kernel_rfl, (fun e rk b h => by cases h), (fun k h => by cases h), by rfl, (.inr rfl), (fun h => by cases h), (fun l h => by cases h), (fun l h => by cases h), (fun h => absurd rfl h), (fun kk vk l h => by cases h), (fun l h => by cases h)⟩
def ti50 : TI := ⟨[.val .nilFunc], false, [], none, none, []⟩
theorem ti50_ok : TiOk Try.prog 50 ti50 := ⟨by kernel_rfl, by kernel_rfl, (fun e rk b h => by cases h), (fun k h => by cases h), by rfl, (.inr rfl), (fun h => by cases h), (fun l h => by cases h), (fun l h => by cases h), (fun h => absurd rfl h), (fun kk vk l h => by cases h), (fun l h => by cases h)⟩
def ti51 : TI := ⟨[.val .nilFunc], false, [], none, none, []⟩
theorem ti51_ok : TiOk Try.prog 51 ti51 := ⟨by kernel_rfl, by kernel_rfl, (fun e rk b h => by cases h), (fun k h => by cases h), by rfl, (.inr rfl), (fun h => by cases h), (fun l h => by cases h), (fun l h => by cases h), (fun h => absurd rfl h), (fun kk vk l h => by cases h), (fun l h => by cases h)⟩
def ti52 : TI := ⟨[.val .nilFunc], false, [], none, none, []⟩
theorem ti52_ok : TiOk Try.prog 52 ti52 := ⟨by kernel_rfl, by kernel_rfl, (fun e rk b h => by cases h), (fun k h => by cases h), by rfl, (.inr rfl), (fun h => by cases h), (fun l h => by cases h), (fun l h => by cases h), (fun h => absurd rfl h), (fun kk vk l h => by cases h), (fun l h => by cases h)⟩
def ti53 : TI := ⟨[.val .nilFunc], false, [], none, none, []⟩
theorem ti53_ok : TiOk Try.prog 53 ti53 := ⟨by kernel_rfl, by kernel_rfl, (fun e rk b h => by cases h), (fun k h => by cases h), by rfl, (.inr rfl), (fun h => by cases h), (fun l h => by cases h), (fun l h => by cases h), (fun h => absurd rfl h), (fun kk vk l h => by cases h), (fun l h => by cases h)⟩
def ti54 : TI := ⟨[.slice 4 (.bool)], false, [], some (4, .bool, 1), none, []⟩
theorem ti54_ok : TiOk Try.prog 54 ti54 := ⟨by kernel_rfl, by kernel_rfl, (fun e rk b h => by cases h; exact ⟨by kernel_rfl, by kernel_rfl, by decide⟩), (fun k h => by cases h), by rfl, (.inr rfl), (fun h => by cases h), (fun l h => by cases h), (fun l h => by cases h), (fun h => absurd rfl h), (fun kk vk l h => by cases h), (fun l h => by cases h)⟩
def ti55 : TI := ⟨[.val .nilFunc], false, [], none, none, []⟩
theorem ti55_ok : TiOk Try.prog 55 ti55 := ⟨by kernel_rfl, by kernel_rfl, (fun e rk b h => by cases h), (fun k h => by cases h), by rfl, (.inr rfl), (fun h => by cases h), (fun l h => by cases h), (fun l h => by cases h), (fun h => absurd rfl h), (fun kk vk l h => by cases h), (fun l h => by cases h)⟩
def ti57 : TI := ⟨[.val .nilFunc], false, [], none, none, []⟩
theorem ti57_ok : TiOk Try.prog 57 ti57 := ⟨by kernel_rfl, by kernel_rfl, (fun e rk b h => by cases h), (fun k h => by cases h), by rfl, (.inr rfl), (fun h => by cases h), (fun l h => by cases h), (fun l h => by cases h), (fun h => absurd rfl h), (fun kk vk l h => by cases h), (fun l h => by cases h)⟩
def ti58 : TI := ⟨[.val .nilFunc], false, [], none, none, []⟩
theorem ti58_ok : TiOk Try.prog 58 ti58 := ⟨by kernel_rfl, by kernel_rfl, (fun e rk b h => by cases h), (fun k h => by cases h), by rfl, (.inr rfl), (fun h => by cases h), (fun l h => by cases h), (fun l h => by cases h), (fun h => absurd rfl h), (fun kk vk l h => by cases h), (fun l h => by cases h)⟩
def ti59 : TI := ⟨[.val .nilFunc], false, [], none, none, []⟩
theorem ti59_ok : TiOk Try.prog 59 ti59 := ⟨by kernel_rfl, by kernel_rfl, (fun e rk b h => by cases h), (fun k h => by cases h), by rfl, (.inr rfl), (fun h => by cases h), (fun l h => by cases h), (fun l h => by cases h), (fun h => absurd rfl h), (fun kk vk l h => by cases h), (fun l h => by cases h)⟩
def ti60 : TI := ⟨[.val .nilFunc], false, [], none, none, []⟩
theorem ti60_ok : TiOk Try.prog 60 ti60 := ⟨by kernel_rfl, by kernel_rfl, (fun e rk b h => by cases h), (fun k h => by cases h), by rfl, (.inr rfl), (fun h => by cases h), (fun l h => by cases h), (fun l h => by cases h), (fun h => absurd rfl h), (fun kk vk l h => by cases h), (fun l h => by cases h)⟩
def ti61 : TI := ⟨[.val .nilFunc], false, [], none, none, []⟩
theorem ti61_ok : TiOk Try.prog 61 ti61 := ⟨by kernel_rfl, by kernel_rfl, (fun e rk b h => by cases h), (fun k h => by cases h), by rfl, (.inr rfl), (fun h => by cases h), (fun l h => by cases h), (fun l h => by cases h), (fun h => absurd rfl h), (fun kk vk l h => by cases h), (fun l h => by cases h)⟩
def ti62 : TI := ⟨[.val .nilFunc], false, [], none, none, []⟩
theorem ti62_ok : TiOk Try.prog 62 ti62 := ⟨by kernel_rfl, by kernel_rfl, (fun e rk b h => by cases h), (fun k h => by cases h), by rfl, (.inr rfl), (fun h => by cases h), (fun l h => by cases h), (fun l h => by cases h), (fun h => absurd rfl h), (fun kk vk l h => by cases h), (fun l h => by cases h)⟩
def ti63 : TI := ⟨[.val .nilFunc], false, [], none, none, []⟩
theorem ti63_ok : TiOk Try.prog 63 ti63 := ⟨by kernel_rfl, by kernel_rfl, (fun e rk b h => by cases h), (fun k h => by cases h), by rfl, (.inr rfl), (fun h => by cases h), (fun l h => by cases h), (fun l h => by cases h), (fun h => absurd rfl h), (fun kk vk l h => by cases h), (fun l h => by cases h)⟩
def ti64 : TI := ⟨[.val .nilFunc], false, [], none, none, []⟩
theorem ti64_ok : TiOk Try.prog 64 ti64 := ⟨by kernel_rfl, by kernel_rfl, (fun e rk b h => by cases h), (fun k h => by cases h), by rfl, (.inr rfl), (fun h => by cases h), (fun l h => by cases h), (fun l h => by cases h), (fun h => absurd rfl h), (fun kk vk l h => by cases h), (fun l h => by cases h)⟩
def ti65 : TI := ⟨[.val .nilFunc], false, [], none, none, []⟩
theorem ti65_ok : TiOk Try.prog 65 ti65 := ⟨by kernel_rfl, by kernel_rfl, (fun e rk b h => by cases h), (fun k h => by cases h), by rfl, (.inr rfl), (fun h => by cases h), (fun l h => by cases h), (fun l h => by cases h), (fun h => absurd rfl h), (fun kk vk l h => by cases h), (fun l h => by cases h)⟩
def ti66 : TI := ⟨[.val .nilFunc], false, [], none, none, []⟩
theorem ti66_ok : TiOk Try.prog 66 ti66 := ⟨by kernel_rfl, by kernel_rfl, (fun e rk b h => by cases h), (fun k h => by cases h), by rfl, (.inr rfl), (fun h => by cases h), (fun l h => by cases h), (fun l h => by cases h), (fun h => absurd rfl h), (fun kk vk l h => by cases h), (fun l h => by cases h)⟩
def ti67 : TI := ⟨[.slice 3 (.int .i64)], false, [], some (3, .int .i64, 8), none, []⟩
theorem ti67_ok : TiOk Try.prog 67 ti67 := ⟨by kernel_rfl, by kernel_rfl, (fun e rk b h => by cases h; exact ⟨by kernel_rfl, by kernel_rfl, by decide⟩), (fun k h => by cases h), by rfl, (.inr rfl), (fun h => by cases h), (fun l h => by cases h), (fun l h => by cases h), (fun h => absurd rfl h), (fun kk vk l h => by cases h), (fun l h => by cases h)⟩
def ti69 : TI := ⟨[.int .i64, .slice 2 (.int .i64), .slice 2 (.int .i64), .slice 4 (.bool), .slice 3 (.int .i64)], true, [(0, 1, false), (1, 1, false), (2, 1, false), (3, 1, false), (4, 1, false)], none, none, []⟩
theorem ti69_ok : TiOk Try.prog 69 ti69 := ⟨by kernel_rfl, by kernel_rfl, (fun e rk b h => by cases h), (fun k h => by cases h), by rfl, (.inl rfl), (fun _ => by kernel_rfl), (fun l h => by cases h), (fun l h => by cases h), (fun h => absurd rfl h), (fun kk vk l h => by cases h), (fun l h => by cases h)⟩
def ti70 : TI := ⟨[.val .nilFunc], false, [], none, none, []⟩
theorem ti70_ok : TiOk Try.prog 70 ti70 := ⟨by kernel_rfl, by kernel_rfl, (fun e rk b h => by cases h), (fun k h => by cases h), by rfl, (.inr rfl), (fun h => by cases h), (fun l h => by cases h), (fun l h => by cases h), (fun h => absurd rfl h), (fun kk vk l h => by cases h), (fun l h => by cases h)⟩
def ti71 : TI := ⟨[.val .nilFunc], false, [], none, none, []⟩
theorem ti71_ok : TiOk Try.prog 71 ti71 := ⟨by kernel_rfl, by kernel_rfl, (fun e rk b h => by cases h), (fun k h => by cases h), by rfl, (.inr rfl), (fun h => by cases h), (fun l h => by cases h), (fun l h => by cases h), (fun h => absurd rfl h), (fun kk vk l h => by cases h), (fun l h => by cases h)⟩
def ti72 : TI := ⟨[.val .nilFunc], false, [], none, none, []⟩
theorem ti72_ok : TiOk Try.prog 72 ti72 := ⟨by kernel_rfl, by kernel_rfl, (fun e rk b h => by cases h), (fun k h => by cases h), by rfl, (.inr rfl), (fun h => by cases h), (fun l h => by cases h), (fun l h => by cases h), (fun h => absurd rfl h), (fun kk vk l h => by cases h), (fun l h => by cases h)⟩
def ti73 : TI := ⟨[.val .nilFunc], false, [], none, none, []⟩
theorem ti73_ok : TiOk Try.prog 73 ti73 := ⟨by kernel_rfl, by kernel_rfl, (fun e rk b h => by cases h), (fun k h => by cases h), by rfl, (.inr rfl), (fun h => by cases h), (fun l h => by cases h), (fun l h => by cases h), (fun h => absurd rfl h), (fun kk vk l h => by cases h), (fun l h => by cases h)⟩
def ti74 : TI := ⟨[.val .nilFunc], false, [], none, none, []⟩
theorem ti74_ok : TiOk Try.prog 74 ti74 := ⟨by kernel_rfl, by kernel_rfl, (fun e rk b h => by cases h), (fun k h => by cases h), by rfl, (.inr rfl), (fun h => by cases h), (fun l h => by cases h), (fun l h => by cases h), (fun h => absurd rfl h), (fun kk vk l h => by cases h), (fun l h => by cases h)⟩
def ti75 : TI := ⟨[.val .nilFunc], false, [], none, none, []⟩
theorem ti75_ok : TiOk Try.prog 75 ti75 := ⟨by kernel_rfl, by kernel_rfl, (fun e rk b h => by cases h), (fun k h => by cases h), by rfl, (.inr rfl), (fun h => by cases h), (fun l h => by cases h), (fun l h => by cases h), (fun h => absurd rfl h), (fun kk vk l h => by cases h), (fun l h => by cases h)⟩
def ti76 : TI := ⟨[.val .nilFunc], false, [], none, none, []⟩
theorem ti76_ok : TiOk Try.prog 76 ti76 := ⟨by kernel_rfl, by kernel_rfl, (fun e rk b h => by cases h), (fun k h => by cases h), by rfl, (.inr rfl), (fun h => by cases h), (fun l h => by cases h), (fun l h => by cases h), (fun h => absurd rfl h), (fun kk vk l h => by cases h), (fun l h => by cases h)⟩
def ti77 : TI := ⟨[.val .nilFunc], false, [], none, none, []⟩
theorem ti77_ok : TiOk Try.prog 77 ti77 := ⟨by kernel_rfl, by kernel_rfl, (fun e rk b h => by cases h), (fun k h => by cases h), by rfl, (.inr rfl), (fun h => by cases h), (fun l h => by cases h), (fun l h => by cases h), (fun h => absurd rfl h), (fun kk vk l h => by cases h), (fun l h => by cases h)⟩
def ti79 : TI := ⟨[.val .nilFunc], false, [], none, none, []⟩
theorem ti79_ok : TiOk Try.prog 79 ti79 := ⟨by kernel_rfl, by kernel_rfl, (fun e rk b h => by cases h), (fun k h => by cases h), by rfl, (.inr rfl), (fun h => by cases h), (fun l h => by cases h), (fun l h => by cases h), (fun h => absurd rfl h), (fun kk vk l h => by cases h), (fun l h => by cases h)⟩
def ti80 : TI := ⟨[.val .nilFunc], false, [], none, none, []⟩
theorem ti80_ok : TiOk Try.prog 80 ti80 := ⟨by kernel_rfl, by kernel_rfl, (fun e rk b h => by cases h), (fun k h => by cases h), by rfl, (.inr rfl), (fun h => by cases h), (fun l h => by cases h), (fun l h => by cases h), (fun h => absurd rfl h), (fun kk vk l h => by cases h), (fun l h => by cases h)⟩
def ti81 : TI := ⟨[.val .nilFunc], false, [], none, none, []⟩
theorem ti81_ok : TiOk Try.prog 81 ti81 := ⟨by kernel_rfl, by kernel_rfl, (fun e rk b h => by cases h), (fun k h => by cases h), by rfl, (.inr rfl), (fun h => by cases h), (fun l h => by cases h), (fun l h => by cases h), (fun h => absurd rfl h), (fun kk vk l h => by cases h), (fun l h => by cases h)⟩
def ti82 : TI := ⟨[.val .nilFunc], false, [], none, none, []⟩
theorem ti82_ok : TiOk Try.prog 82 ti82 := ⟨by kernel_rfl, by kernel_rfl, (fun e rk b h => by cases h), (fun k h => by cases h), by rfl, (.inr rfl), (fun h => by cases h), (fun l h => by cases h), (fun l h => by cases h), (fun h => absurd rfl h), (fun kk vk l h => by cases h), (fun l h => by cases h)⟩
def ti83 : TI := ⟨[.val (.pointer none)], false, [], none, none, []⟩
theorem ti83_ok : TiOk Try.prog 83 ti83 := ⟨by kernel_rfl, by kernel_rfl, (fun e rk b h => by cases h), (fun k h => by cases h), by rfl, (.inr rfl), (fun h => by cases h), (fun l h => by cases h), (fun l _ _ => by kernel_rfl), (fun h => absurd rfl h), (fun kk vk l h => by cases h), (fun l h => by cases h)⟩
def ti85 : TI := ⟨[.val .nilFunc], false, [], none, none, []⟩
theorem ti85_ok : TiOk Try.prog 85 ti85 := ⟨by kernel_rfl, by kernel_rfl, (fun e rk b h => by cases h), (fun k h => by cases h), by rfl, (.inr rfl), (fun h => by cases h), (fun l h => by cases h), (fun l h => by cases h), (fun h => absurd rfl h), (fun kk vk l h => by cases h), (fun l h => by cases h)⟩
def ti86 : TI := ⟨[.val .nilFunc], false, [], none, none, []⟩
theorem ti86_ok : TiOk Try.prog 86 ti86 := ⟨by kernel_rfl, by kernel_rfl, (fun e rk b h => by cases h), (fun k h => by cases h), by rfl, (.inr rfl), (fun h => by cases h), (fun l h => by cases h), (fun l h => by cases h), (fun h => absurd rfl h), (fun kk vk l h => by cases h), (fun l h => by cases h)⟩
def ti87 : TI := ⟨[.val .nilFunc], false, [], none, none, []⟩
theorem ti87_ok : TiOk Try.prog 87 ti87 := ⟨by kernel_rfl, by kernel_rfl, (fun e rk b h => by cases h), (fun k h => by cases h), by rfl, (.inr rfl), (fun h => by cases h), (fun l h => by cases h), (fun l h => by cases h), (fun h => absurd rfl h), (fun kk vk l h => by cases h), (fun l h => by cases h)⟩
def ti88 : TI := ⟨[.val .nilFunc], false, [], none, none, []⟩
theorem ti88_ok : TiOk Try.prog 88 ti88 := ⟨by kernel_rfl, by kernel_rfl, (fun e rk b h => by cases h), (fun k h => by cases h), by rfl, (.inr rfl), (fun h => by cases h), (fun l h => by cases h), (fun l h => by cases h), (fun h => absurd rfl h), (fun kk vk l h => by cases h), (fun l h => by cases h)⟩
def ti89 : TI := ⟨[.int .u64], false, [], none, some .u64, []⟩
theorem ti89_ok : TiOk Try.prog 89 ti89 := ⟨by kernel_rfl, by kernel_rfl, (fun e rk b h => by cases h), (fun k h => by cases h; exact (by kernel_rfl)), by rfl, (.inr rfl), (fun h => by cases h), (fun l h => by cases h), (fun l h => by cases h), (fun h => absurd rfl h), (fun kk vk l h => by cases h), (fun l h => by cases h)⟩
def ti90 : TI := ⟨[.val .nilFunc], false, [], none, none, []⟩
theorem ti90_ok : TiOk Try.prog 90 ti90 := ⟨by kernel_rfl, by kernel_rfl, (fun e rk b h => by cases h), (fun k h => by cases h), by rfl, (.inr rfl), (fun h => by cases h), (fun l h => by cases h), (fun l h => by cases h), (fun h => absurd rfl h), (fun kk vk l h => by cases h), (fun l h => by cases h)⟩
def ti91 : TI := ⟨[.val .nilFunc], false, [], none, none, []⟩
theorem ti91_ok : TiOk Try.prog 91 ti91 := ⟨by kernel_rfl, by kernel_rfl, (fun e rk b h => by cases h), (fun k h => by cases h), by rfl, (.inr rfl), (fun h => by cases h), (fun l h => by cases h), (fun l h => by cases h), (fun h => absurd rfl h), (fun kk vk l h => by cases h), (fun l h => by cases h)⟩
def ti92 : TI := ⟨[.val .nilFunc], false, [], none, none, []⟩
theorem ti92_ok : TiOk Try.prog 92 ti92 := ⟨by kernel_rfl, by kernel_rfl, (fun e rk b h => by cases h), (fun k h => by cases h), by rfl, (.inr rfl), (fun h => by cases h), (fun l h => by cases h), (fun l h => by cases h), (fun h => absurd rfl h), (fun kk vk l h => by cases h), (fun l h => by cases h)⟩
def ti93 : TI := ⟨[.val .nilFunc], false, [], none, none, []⟩
theorem ti93_ok : TiOk Try.prog 93 ti93 := ⟨by kernel_rfl, by kernel_rfl, (fun e rk b h => by cases h), (fun k h => by cases h), by rfl, (.inr rfl), (fun h => by cases h), (fun l h => by cases h), (fun l h => by cases h), (fun h => absurd rfl h), (fun kk vk l h => by cases h), (fun l h => by cases h)⟩
def ti94 : TI := ⟨[.val .nilFunc], false, [], none, none, []⟩
theorem ti94_ok : TiOk Try.prog 94 ti94 := ⟨by kernel_rfl, by kernel_rfl, (fun e rk b h => by cases h), (fun k h => by cases h), by rfl, (.inr rfl), (fun h => by cases h), (fun l h => by cases h), (fun l h => by cases h), (fun h => absurd rfl h), (fun kk vk l h => by cases h), (fun l h => by cases h)⟩
def ti95 : TI := ⟨[.val .nilFunc], false, [], none, none, []⟩
theorem ti95_ok : TiOk Try.prog 95 ti95 := ⟨by kernel_rfl, by kernel_rfl, (fun e rk b h => by cases h), (fun k h => by cases h), by rfl, (.inr rfl), (fun h => by cases h), (fun l h => by cases h), (fun l h => by cases h), (fun h => absurd rfl h), (fun kk vk l h => by cases h), (fun l h => by cases h)⟩
def ti97 : TI := ⟨[.val .nilFunc], false, [], none, none, []⟩
theorem ti97_ok : TiOk Try.prog 97 ti97 := ⟨by kernel_rfl, by kernel_rfl, (fun e rk b h => by cases h), (fun k h => by cases h), by rfl, (.inr rfl), (fun h => by cases h), (fun l h => by cases h), (fun l h => by cases h), (fun h => absurd rfl h), (fun kk vk l h => by cases h), (fun l h => by cases h)⟩
def ti98 : TI := ⟨[.val .nilFunc], false, [], none, none, []⟩
theorem ti98_ok : TiOk Try.prog 98 ti98 := ⟨by kernel_rfl, by kernel_rfl, (fun e rk b h => by cases h), (fun k h => by cases h), by rfl, (.inr rfl), (fun h => by cases h), (fun l h => by cases h), (fun l h => by cases h), (fun h => absurd rfl h), (fun kk vk l h => by cases h), (fun l h => by cases h)⟩
def ti99 : TI := ⟨[.val .nilFunc], false, [], none, none, []⟩
theorem ti99_ok : TiOk Try.prog 99 ti99 := ⟨by kernel_rfl, by kernel_rfl, (fun e rk b h => by cases h), (fun k h => by cases h), by rfl, (.inr rfl), (fun h => by cases h), (fun l h => by cases h), (fun l h => by cases h), (fun h => absurd rfl h), (fun kk vk l h => by cases h), (fun l h => by cases h)⟩
def ti100 : TI := ⟨[.slice 32 (.wide)], false, [], some (32, .wide, 16), none, []⟩
theorem ti100_ok : TiOk Try.prog 100 ti100 := ⟨by kernel_rfl, by kernel_rfl, (fun e rk b h => by cases h; exact ⟨by kernel_rfl, by kernel_rfl, by decide⟩), (fun k h => by cases h), by rfl, (.inr rfl), (fun h => by cases h), (fun l h => by cases h), (fun l h => by cases h), (fun h => absurd rfl h), (fun kk vk l h => by cases h), (fun l h => by cases h)⟩
def ti101 : TI := ⟨[.val .nilFunc], false, [], none, none, []⟩
theorem ti101_ok : TiOk Try.prog 101 ti101 := ⟨by kernel_rfl, by kernel_rfl, (fun e rk b h => by cases h), (fun k h => by cases h), by rfl, (.inr rfl), (fun h => by cases h), (fun l h => by cases h), (fun l h => by cases h), (fun h => absurd rfl h), (fun kk vk l h => by cases h), (fun l h => by cases h)⟩
def ti102 : TI := ⟨[.val .nilFunc], false, [], none, none, []⟩
theorem ti102_ok : TiOk Try.prog 102 ti102 := ⟨by kernel_rfl, by kernel_rfl, (fun e rk b h => by cases h), (fun k h => by cases h), by rfl, (.inr rfl), (fun h => by cases h), (fun l h => by cases h), (fun l h => by cases h), (fun h => absurd rfl h), (fun kk vk l h => by cases h), (fun l h => by cases h)⟩
def ti103 : TI := ⟨[.val .nilFunc], false, [], none, none, []⟩
theorem ti103_ok : TiOk Try.prog 103 ti103 := ⟨by kernel_rfl, by kernel_rfl, (fun e rk b h => by cases h), (fun k h => by cases h), by rfl, (.inr rfl), (fun h => by cases h), (fun l h => by cases h), (fun l h => by cases h), (fun h => absurd rfl h), (fun kk vk l h => by cases h), (fun l h => by cases h)⟩
def ti104 : TI := ⟨[.val .nilFunc], false, [], none, none, []⟩
theorem ti104_ok : TiOk Try.prog 104 ti104 := ⟨by kernel_rfl, by kernel_rfl, (fun e rk b h => by cases h), (fun k h => by cases h), by rfl, (.inr rfl), (fun h => by cases h), (fun l h => by cases h), (fun l h => by cases h), (fun h => absurd rfl h), (fun kk vk l h => by cases h), (fun l h => by cases h)⟩
def ti105 : TI := ⟨[.val .nilFunc], false, [], none, none, []⟩
theorem ti105_ok : TiOk Try.prog 105 ti105 := ⟨by kernel_rfl, by kernel_rfl, (fun e rk b h => by cases h), (fun k h => by cases h), by rfl, (.inr rfl), (fun h => by cases h), (fun l h => by cases h), (fun l h => by cases h), (fun h => absurd rfl h), (fun kk vk l h => by cases h), (fun l h => by cases h)⟩
def ti106 : TI := ⟨[.val .nilFunc], false, [], none, none, []⟩
theorem ti106_ok : TiOk Try.prog 106 ti106 := ⟨by kernel_rfl, by kernel_rfl, (fun e rk b h => by cases h), (fun k h => by cases h), by rfl, (.inr rfl), (fun h => by cases h), (fun l h => by cases h), (fun l h => by cases h), (fun h => absurd rfl h), (fun kk vk l h => by cases h), (fun l h => by cases h)⟩
def ti107 : TI := ⟨[.val .nilFunc], false, [], none, none, []⟩
theorem ti107_ok : TiOk Try.prog 107 ti107 := ⟨by kernel_rfl, by kernel_rfl, (fun e rk b h => by cases h), (fun k h => by cases h), by rfl, (.inr rfl), (fun h => by cases h), (fun l h => by cases h), (fun l h => by cases h), (fun h => absurd rfl h), (fun kk vk l h => by cases h), (fun l h => by cases h)⟩
def ti108 : TI := ⟨[.val .nilFunc], false, [], none, none, []⟩
theorem ti108_ok : TiOk Try.prog 108 ti108 := ⟨by kernel_rfl, by kernel_rfl, (fun e rk b h => by cases h), (fun k h => by cases h), by rfl, (.inr rfl), (fun h => by cases h), (fun l h => by cases h), (fun l h => by cases h), (fun h => absurd rfl h), (fun kk vk l h => by cases h), (fun l h => by cases h)⟩
def ti109 : TI := ⟨[.val .nilFunc], false, [], none, none, []⟩
theorem ti109_ok : TiOk Try.prog 109 ti109 := ⟨by kernel_rfl, by kernel_rfl, (fun e rk b h => by cases h), (fun k h => by cases h), by rfl, (.inr rfl), (fun h => by cases h), (fun l h => by cases h), (fun l h => by cases h), (fun h => absurd rfl h), (fun kk vk l h => by cases h), (fun l h => by cases h)⟩
def ti110 : TI := ⟨[.val .nilFunc], false, [], none, none, []⟩
theorem ti110_ok : TiOk Try.prog 110 ti110 := ⟨by kernel_rfl, by kernel_rfl, (fun e rk b h => by cases h), (fun k h => by cases h), by rfl, (.inr rfl), (fun h => by cases h), (fun l h => by cases h), (fun l h => by cases h), (fun h => absurd rfl h), (fun kk vk l h => by cases h), (fun l h => by cases h)⟩
def ti111 : TI := ⟨[.val .nilFunc], false, [], none, none, []⟩
theorem ti111_ok : TiOk Try.prog 111 ti111 := ⟨by kernel_rfl, by kernel_rfl, (fun e rk b h => by cases h), (fun k h => by cases h), by rfl, (.inr rfl), (fun h => by cases h), (fun l h => by cases h), (fun l h => by cases h), (fun h => absurd rfl h), (fun kk vk l h => by cases h), (fun l h => by cases h)⟩
def ti112 : TI := ⟨[.val .nilFunc], false, [], none, none, []⟩
theorem ti112_ok : TiOk Try.prog 112 ti112 := ⟨by kernel_rfl, by kernel_rfl, (fun e rk b h => by cases h), (fun k h => by cases h), by rfl, (.inr rfl), (fun h => by cases h), (fun l h => by cases h), (fun l h => by cases h), (fun h => absurd rfl h), (fun kk vk l h => by cases h), (fun l h => by cases h)⟩
def ti113 : TI := ⟨[.val .nilFunc], false, [], none, none, []⟩
theorem ti113_ok : TiOk Try.prog 113 ti113 := ⟨by kernel_rfl, by kernel_rfl, (fun e rk b h => by cases h), (fun k h => by cases h), by rfl, (.inr rfl), (fun h => by cases h), (fun l h => by cases h), (fun l h => by cases h), (fun h => absurd rfl h), (fun kk vk l h => by cases h), (fun l h => by cases h)⟩
def ti115 : TI := ⟨[.map [.i64] .fn], false, [], none, none, []⟩
theorem ti115_ok : TiOk Try.prog 115 ti115 := ⟨by kernel_rfl, by kernel_rfl, (fun e rk b h => by cases h), (fun k h => by cases h), by rfl, (.inr rfl), (fun h => by cases h), (fun l h => by cases h), (fun l h => by cases h), (fun h => absurd rfl h), (fun kk vk l h _ => by cases h; exact ⟨⟨3, 76, by kernel_rfl, by kernel_rfl, .inl ⟨_, rfl, by kernel_rfl⟩⟩⟩), (fun l h => by cases h)⟩
def ti116 : TI := ⟨[.val .nilFunc], false, [], none, none, []⟩
theorem ti116_ok : TiOk Try.prog 116 ti116 := ⟨by kernel_rfl, by kernel_rfl, (fun e rk b h => by cases h), (fun k h => by cases h), by rfl, (.inr rfl), (fun h => by cases h), (fun l h => by cases h), (fun l h => by cases h), (fun h => absurd rfl h), (fun kk vk l h => by cases h), (fun l h => by cases h)⟩
def ti118 : TI := ⟨[], true, [], none, none, []⟩
theorem ti118_ok : TiOk Try.prog 118 ti118 := ⟨by kernel_rfl, by kernel_rfl, (fun e rk b h => by cases h), (fun k h => by cases h), by rfl, (.inl rfl), (fun _ => by kernel_rfl), (fun l h => by cases h), (fun l h => by cases h), (fun h => absurd rfl h), (fun kk vk l h => by cases h), (fun l h => by cases h)⟩
def ti120 : TI := ⟨[.val .nilFunc], false, [], none, none, []⟩
theorem ti120_ok : TiOk Try.prog 120 ti120 := ⟨by kernel_rfl, by kernel_rfl, (fun e rk b h => by cases h), (fun k h => by cases h), by rfl, (.inr rfl), (fun h => by cases h), (fun l h => by cases h), (fun l h => by cases h), (fun h => absurd rfl h), (fun kk vk l h => by cases h), (fun l h => by cases h)⟩
def ti122 : TI := ⟨[.slice 2 (.int .i64), .slice 24 (.arc), .slice 4 (.bool), .slice 4 (.bool), .int .i64, .int .u64, .bool], true, [(0, 2, true), (2, 1, false), (3, 1, false), (4, 2, true), (6, 1, false)], none, none, []⟩
theorem ti122_ok : TiOk Try.prog 122 ti122 := ⟨by kernel_rfl, by kernel_rfl, (fun e rk b h => by cases h), (fun k h => by cases h), by rfl, (.inl rfl), (fun _ => by kernel_rfl), (fun l h => by cases h), (fun l h => by cases h), (fun h => absurd rfl h), (fun kk vk l h => by cases h), (fun l h => by cases h)⟩
def ti123 : TI := ⟨[.val .nilFunc], false, [], none, none, []⟩
theorem ti123_ok : TiOk Try.prog 123 ti123 := ⟨by kernel_rfl, by kernel_rfl, (fun e rk b h => by cases h), (fun k h => by cases h), by rfl, (.inr rfl), (fun h => by cases h), (fun l h => by cases h), (fun l h => by cases h), (fun h => absurd rfl h), (fun kk vk l h => by cases h), (fun l h => by cases h)⟩
def ti124 : TI := ⟨[.val .nilFunc], false, [], none, none, []⟩
theorem ti124_ok : TiOk Try.prog 124 ti124 := ⟨by kernel_rfl, by kernel_rfl, (fun e rk b h => by cases h), (fun k h => by cases h), by rfl, (.inr rfl), (fun h => by cases h), (fun l h => by cases h), (fun l h => by cases h), (fun h => absurd rfl h), (fun kk vk l h => by cases h), (fun l h => by cases h)⟩
def ti125 : TI := ⟨[.val .nilFunc], false, [], none, none, []⟩
theorem ti125_ok : TiOk Try.prog 125 ti125 := ⟨by kernel_rfl, by kernel_rfl, (fun e rk b h => by cases h), (fun k h => by cases h), by rfl, (.inr rfl), (fun h => by cases h), (fun l h => by cases h), (fun l h => by cases h), (fun h => absurd rfl h), (fun kk vk l h => by cases h), (fun l h => by cases h)⟩
def ti126 : TI := ⟨[.val .nilFunc], false, [], none, none, []⟩
theorem ti126_ok : TiOk Try.prog 126 ti126 := ⟨by kernel_rfl, by kernel_rfl, (fun e rk b h => by cases h), (fun k h => by cases h), by rfl, (.inr rfl), (fun h => by cases h), (fun l h => by cases h), (fun l h => by cases h), (fun h => absurd rfl h), (fun kk vk l h => by cases h), (fun l h => by cases h)⟩
def ti127 : TI := ⟨[.val .nilFunc], false, [], none, none, []⟩
theorem ti127_ok : TiOk Try.prog 127 ti127 := ⟨by kernel_rfl, by kernel_rfl, (fun e rk b h => by cases h), (fun k h => by cases h), by rfl, (.inr rfl), (fun h => by cases h), (fun l h => by cases h), (fun l h => by cases h), (fun h => absurd rfl h), (fun kk vk l h => by cases h), (fun l h => by cases h)⟩
def ti128 : TI := ⟨[.val .nilFunc], false, [], none, none, []⟩
theorem ti128_ok : TiOk Try.prog 128 ti128 := ⟨by kernel_rfl, by kernel_rfl, (fun e rk b h => by cases h), (fun k h => by cases h), by rfl, (.inr rfl), (fun h => by cases h), (fun l h => by cases h), (fun l h => by cases h), (fun h => absurd rfl h), (fun kk vk l h => by cases h), (fun l h => by cases h)⟩
def ti129 : TI := ⟨[.slice 32 (.wide)], false, [], some (32, .wide, 16), none, []⟩
theorem ti129_ok : TiOk Try.prog 129 ti129 := ⟨by kernel_rfl, by kernel_rfl, (fun e rk b h => by cases h; exact ⟨by kernel_rfl, by kernel_rfl, by decide⟩), (fun k h => by cases h), by rfl, (.inr rfl), (fun h => by cases h), (fun l h => by cases h), (fun l h => by cases h), (fun h => absurd rfl h), (fun kk vk l h => by cases h), (fun l h => by cases h)⟩
def ti130 : TI := ⟨[.val (.pointer none)], false, [], none, none, []⟩
theorem ti130_ok : TiOk Try.prog 130 ti130 := ⟨by kernel_rfl, by kernel_rfl, (fun e rk b h => by cases h), (fun k h => by cases h), by rfl, (.inr rfl), (fun h => by cases h), (fun l h => by cases h), (fun l _ _ => by kernel_rfl), (fun h => absurd rfl h), (fun kk vk l h => by cases h), (fun l h => by cases h)⟩
def ti131 : TI := ⟨[.val .nilFunc], false, [], none, none, []⟩
theorem ti131_ok : TiOk Try.prog 131 ti131 := ⟨by kernel_rfl, by kernel_rfl, (fun e rk b h => by cases h), (fun k h => by cases h), by rfl, (.inr rfl), (fun h => by cases h), (fun l h => by cases h), (fun l h => by cases h), (fun h => absurd rfl h), (fun kk vk l h => by cases h), (fun l h => by cases h)⟩
def ti133 : TI := ⟨[.slice 32 (.wide), .val (.pointer none)], true, [(0, 1, false), (1, 1, false)], none, none, []⟩
theorem ti133_ok : TiOk Try.prog 133 ti133 := ⟨by kernel_rfl, by kernel_rfl, (fun e rk b h => by cases h), (fun k h => by cases h), by rfl, (.inl rfl), (fun _ => by kernel_rfl), (fun l h => by cases h), (fun l h => by cases h), (fun h => absurd rfl h), (fun kk vk l h => by cases h), (fun l h => by cases h)⟩
def ti134 : TI := ⟨[.val .nilFunc], false, [], none, none, []⟩
theorem ti134_ok : TiOk Try.prog 134 ti134 := ⟨by kernel_rfl, by kernel_rfl, (fun e rk b h => by cases h), (fun k h => by cases h), by rfl, (.inr rfl), (fun h => by cases h), (fun l h => by cases h), (fun l h => by cases h), (fun h => absurd rfl h), (fun kk vk l h => by cases h), (fun l h => by cases h)⟩
def ti135 : TI := ⟨[.val .nilFunc], false, [], none, none, []⟩
theorem ti135_ok : TiOk Try.prog 135 ti135 := ⟨by kernel_rfl, by kernel_rfl, (fun e rk b h => by cases h), (fun k h => by cases h), by rfl, (.inr rfl), (fun h => by cases h), (fun l h => by cases h), (fun l h => by cases h), (fun h => absurd rfl h), (fun kk vk l h => by cases h), (fun l h => by cases h)⟩
def ti136 : TI := ⟨[.val .nilFunc], false, [], none, none, []⟩
theorem ti136_ok : TiOk Try.prog 136 ti136 := ⟨by kernel_rfl, by kernel_rfl, (fun e rk b h => by cases h), (fun k h => by cases h), by rfl, (.inr rfl), (fun h => by cases h), (fun l h => by cases h), (fun l h => by cases h), (fun h => absurd rfl h), (fun kk vk l h => by cases h), (fun l h => by cases h)⟩
def ti137 : TI := ⟨[.val .nilFunc], false, [], none, none, []⟩
theorem ti137_ok : TiOk Try.prog 137 ti137 := ⟨by kernel_rfl, by kernel_rfl, (fun e rk b h => by cases h), (fun k h => by cases h), by rfl, (.inr rfl), (fun h => by cases h), (fun l h => by cases h), (fun l h => by cases h), (fun h => absurd rfl h), (fun kk vk l h => by cases h), (fun l h => by cases h)⟩
def ti138 : TI := ⟨[.val .nilFunc], false, [], none, none, []⟩
theorem ti138_ok : TiOk Try.prog 138 ti138 := ⟨by kernel_rfl, by kernel_rfl, (fun e rk b h => by cases h), (fun k h => by cases h), by rfl, (.inr rfl), (fun h => by cases h), (fun l h => by cases h), (fun l h => by cases h), (fun h => absurd rfl h), (fun kk vk l h => by cases h), (fun l h => by cases h)⟩
def ti139 : TI := ⟨[.val .nilFunc], false, [], none, none, []⟩
theorem ti139_ok : TiOk Try.prog 139 ti139 := ⟨by kernel_rfl, by kernel_rfl, (fun e rk b h => by cases h), (fun k h => by cases h), by rfl, (.inr rfl), (fun h => by cases h), (fun l h => by cases h), (fun l h => by cases h), (fun h => absurd rfl h), (fun kk vk l h => by cases h), (fun l h => by cases h)⟩
def ti140 : TI := ⟨[.val .nilFunc], false, [], none, none, []⟩
theorem ti140_ok : TiOk Try.prog 140 ti140 := ⟨by kernel_rfl, by kernel_rfl, (fun e rk b h => by cases h), (fun k h => by cases h), by rfl, (.inr rfl), (fun h => by cases h), (fun l h => by cases h), (fun l h => by cases h), (fun h => absurd rfl h), (fun kk vk l h => by cases h), (fun l h => by cases h)⟩
def ti141 : TI := ⟨[.val .nilFunc], false, [], none, none, []⟩
theorem ti141_ok : TiOk Try.prog 141 ti141 := ⟨by kernel_rfl, by kernel_rfl, (fun e rk b h => by cases h), (fun k h => by cases h), by rfl, (.inr rfl), (fun h => by cases h), (fun l h => by cases h), (fun l h => by cases h), (fun h => absurd rfl h), (fun kk vk l h => by cases h), (fun l h => by cases h)⟩
def ti142 : TI := ⟨[.val .nilFunc], false, [], none, none, []⟩
theorem ti142_ok : TiOk Try.prog 142 ti142 := ⟨by kernel_rfl, by kernel_rfl, (fun e rk b h => by cases h), (fun k h => by cases h), by rfl, (.inr rfl), (fun h => by cases h), (fun l h => by cases h), (fun l h => by cases h), (fun h => absurd rfl h), (fun kk vk l h => by cases h), (fun l h => by cases h)⟩
def ti143 : TI := ⟨[.val .nilFunc], false, [], none, none, []⟩
theorem ti143_ok : TiOk Try.prog 143 ti143 := ⟨by kernel_rfl, by kernel_rfl, (fun e rk b h => by cases h), (fun k h => by cases h), by rfl, (.inr rfl), (fun h => by cases h), (fun l h => by cases h), (fun l h => by cases h), (fun h => absurd rfl h), (fun kk vk l h => by cases h), (fun l h => by cases h)⟩
def ti145 : TI := ⟨[.val .nilFunc], false, [], none, none, []⟩
theorem ti145_ok : TiOk Try.prog 145 ti145 := ⟨by kernel_rfl, by kernel_rfl, (fun e rk b h => by cases h), (fun k h => by cases h), by rfl, (.inr rfl), (fun h => by cases h), (fun l h => by cases h), (fun l h => by cases h), (fun h => absurd rfl h), (fun kk vk l h => by cases h), (fun l h => by cases h)⟩
def ti146 : TI := ⟨[.val .nilFunc], false, [], none, none, []⟩
theorem ti146_ok : TiOk Try.prog 146 ti146 := ⟨by kernel_rfl, by kernel_rfl, (fun e rk b h => by cases h), (fun k h => by cases h), by rfl, (.inr rfl), (fun h => by cases h), (fun l h => by cases h), (fun l h => by cases h), (fun h => absurd rfl h), (fun kk vk l h => by cases h), (fun l h => by cases h)⟩
def ti148 : TI := ⟨[.val .nilFunc], false, [], none, none, []⟩
theorem ti148_ok : TiOk Try.prog 148 ti148 := ⟨by kernel_rfl, by kernel_rfl, (fun e rk b h => by cases h), (fun k h => by cases h), by rfl, (.inr rfl), (fun h => by cases h), (fun l h => by cases h), (fun l h => by cases h), (fun h => absurd rfl h), (fun kk vk l h => by cases h), (fun l h => by cases h)⟩
def ti149 : TI := ⟨[.val .nilFunc], false, [], none, none, []⟩
theorem ti149_ok : TiOk Try.prog 149 ti149 := ⟨by kernel_rfl, by kernel_rfl, (fun e rk b h => by cases h), (fun k h => by cases h), by rfl, (.inr rfl), (fun h => by cases h), (fun l h => by cases h), (fun l h => by cases h), (fun h => absurd rfl h), (fun kk vk l h => by cases h), (fun l h => by cases h)⟩
def ti150 : TI := ⟨[.val .nilFunc], false, [], none, none, []⟩
theorem ti150_ok : TiOk Try.prog 150 ti150 := ⟨by kernel_rfl, by kernel_rfl, (fun e rk b h => by cases h), (fun k h => by cases h), by rfl, (.inr rfl), (fun h => by cases h), (fun l h => by cases h), (fun l h => by cases h), (fun h => absurd rfl h), (fun kk vk l h => by cases h), (fun l h => by cases h)⟩
def ti152 : TI := ⟨[.int .i64, .slice 24 (.arc), .slice 3 (.int .i64), .slice 3 (.int .i64)], true, [(0, 1, false), (1, 1, false), (2, 1, false), (3, 1, false)], none, none, []⟩
theorem ti152_ok : TiOk Try.prog 152 ti152 := ⟨by kernel_rfl, by kernel_rfl, (fun e rk b h => by cases h), (fun k h => by cases h), by rfl, (.inl rfl), (fun _ => by kernel_rfl), (fun l h => by cases h), (fun l h => by cases h), (fun h => absurd rfl h), (fun kk vk l h => by cases h), (fun l h => by cases h)⟩
def ti154 : TI := ⟨[.val .nilFunc], false, [], none, none, []⟩
theorem ti154_ok : TiOk Try.prog 154 ti154 := ⟨by kernel_rfl, by kernel_rfl, (fun e rk b h => by cases h), (fun k h => by cases h), by rfl, (.inr rfl), (fun h => by cases h), (fun l h => by cases h), (fun l h => by cases h), (fun h => absurd rfl h), (fun kk vk l h => by cases h), (fun l h => by cases h)⟩
def ti155 : TI := ⟨[.val .nilFunc], false, [], none, none, []⟩
theorem ti155_ok : TiOk Try.prog 155 ti155 := ⟨by kernel_rfl, by kernel_rfl, (fun e rk b h => by cases h), (fun k h => by cases h), by rfl, (.inr rfl), (fun h => by cases h), (fun l h => by cases h), (fun l h => by cases h), (fun h => absurd rfl h), (fun kk vk l h => by cases h), (fun l h => by cases h)⟩
def ti156 : TI := ⟨[.val .nilFunc], false, [], none, none, []⟩
theorem ti156_ok : TiOk Try.prog 156 ti156 := ⟨by kernel_rfl, by kernel_rfl, (fun e rk b h => by cases h), (fun k h => by cases h), by rfl, (.inr rfl), (fun h => by cases h), (fun l h => by cases h), (fun l h => by cases h), (fun h => absurd rfl h), (fun kk vk l h => by cases h), (fun l h => by cases h)⟩
def ti157 : TI := ⟨[.val .nilFunc], false, [], none, none, []⟩
theorem ti157_ok : TiOk Try.prog 157 ti157 := ⟨by kernel_rfl, by kernel_rfl, (fun e rk b h => by cases h), (fun k h => by cases h), by rfl, (.inr rfl), (fun h => by cases h), (fun l h => by cases h), (fun l h => by cases h), (fun h => absurd rfl h), (fun kk vk l h => by cases h), (fun l h => by cases h)⟩
def ti158 : TI := ⟨[.val .nilFunc], false, [], none, none, []⟩
theorem ti158_ok : TiOk Try.prog 158 ti158 := ⟨by kernel_rfl, by kernel_rfl, (fun e rk b h => by cases h), (fun k h => by cases h), by rfl, (.inr rfl), (fun h => by cases h), (fun l h => by cases h), (fun l h => by cases h), (fun h => absurd rfl h), (fun kk vk l h => by cases h), (fun l h => by cases h)⟩
def ti160 : TI := ⟨[.int .i64, .int .i64, .int .i64, .int .i64, .int .i64, .int .i64, .int .i64], true, [(0, 5, true), (5, 1, false), (6, 1, false)], none, none, []⟩
theorem ti160_ok : TiOk Try.prog 160 ti160 := ⟨by kernel_rfl, by kernel_rfl, (fun e rk b h => by cases h), (fun k h => by cases h), by rfl, (.inl rfl), (fun _ => by kernel_rfl), (fun l h => by cases h), (fun l h => by cases h), (fun h => absurd rfl h), (fun kk vk l h => by cases h), (fun l h => by cases h)⟩
def ti161 : TI := ⟨[.val .nilFunc], false, [], none, none, []⟩
theorem ti161_ok : TiOk Try.prog 161 ti161 := ⟨by kernel_rfl, by kernel_rfl, (fun e rk b h => by cases h), (fun k h => by cases h), by rfl, (.inr rfl), (fun h => by cases h), (fun l h => by cases h), (fun l h => by cases h), (fun h => absurd rfl h), (fun kk vk l h => by cases h), (fun l h => by cases h)⟩
def ti162 : TI := ⟨[.slice 39 .fn], false, [], some (39, .fn, 8), none, []⟩
theorem ti162_ok : TiOk Try.prog 162 ti162 := ⟨by kernel_rfl, by kernel_rfl, (fun e rk b h => by cases h; exact ⟨by kernel_rfl, by kernel_rfl, by decide⟩), (fun k h => by cases h), by rfl, (.inr rfl), (fun h => by cases h), (fun l h => by cases h), (fun l h => by cases h), (fun h => absurd rfl h), (fun kk vk l h => by cases h), (fun l h => by cases h)⟩
def ti163 : TI := ⟨[.val .nilFunc], false, [], none, none, []⟩
theorem ti163_ok : TiOk Try.prog 163 ti163 := ⟨by kernel_rfl, by kernel_rfl, (fun e rk b h => by cases h), (fun k h => by cases h), by rfl, (.inr rfl), (fun h => by cases h), (fun l h => by cases h), (fun l h => by cases h), (fun h => absurd rfl h), (fun kk vk l h => by cases h), (fun l h => by cases h)⟩
def ti164 : TI := ⟨[.val .nilFunc], false, [], none, none, []⟩
theorem ti164_ok : TiOk Try.prog 164 ti164 := ⟨by kernel_rfl, by kernel_rfl, (fun e rk b h => by cases h), (fun k h => by cases h), by rfl, (.inr rfl), (fun h => by cases h), (fun l h => by cases h), (fun l h => by cases h), (fun h => absurd rfl h), (fun kk vk l h => by cases h), (fun l h => by cases h)⟩
def ti165 : TI := ⟨[.val .nilFunc], false, [], none, none, []⟩
theorem ti165_ok : TiOk Try.prog 165 ti165 := ⟨by kernel_rfl, by kernel_rfl, (fun e rk b h => by cases h), (fun k h => by cases h), by rfl, (.inr rfl), (fun h => by cases h), (fun l h => by cases h), (fun l h => by cases h), (fun h => absurd rfl h), (fun kk vk l h => by cases h), (fun l h => by cases h)⟩
def ti166 : TI := ⟨[.val .nilFunc], false, [], none, none, []⟩
theorem ti166_ok : TiOk Try.prog 166 ti166 := ⟨by kernel_rfl, by kernel_rfl, (fun e rk b h => by cases h), (fun k h => by cases h), by rfl, (.inr rfl), (fun h => by cases h), (fun l h => by cases h), (fun l h => by cases h), (fun h => absurd rfl h), (fun kk vk l h => by cases h), (fun l h => by cases h)⟩
def ti167 : TI := ⟨[.val .nilFunc], false, [], none, none, []⟩
theorem ti167_ok : TiOk Try.prog 167 ti167 := ⟨by kernel_rfl, by kernel_rfl, (fun e rk b h => by cases h), (fun k h => by cases h), by rfl, (.inr rfl), (fun h => by cases h), (fun l h => by cases h), (fun l h => by cases h), (fun h => absurd rfl h), (fun kk vk l h => by cases h), (fun l h => by cases h)⟩
def ti168 : TI := ⟨[.val .nilFunc], false, [], none, none, []⟩
theorem ti168_ok : TiOk Try.prog 168 ti168 := ⟨by kernel_rfl, by kernel_rfl, (fun e rk b h => by cases h), (fun k h => by cases h), by rfl, (.inr rfl), (fun h => by cases h), (fun l h => by cases h), (fun l h => by cases h), (fun h => absurd rfl h), (fun kk vk l h => by cases h), (fun l h => by cases h)⟩
def ti170 : TI := ⟨[.val .nilFunc], false, [], none, none, []⟩
theorem ti170_ok : TiOk Try.prog 170 ti170 := ⟨by kernel_rfl, by kernel_rfl, (fun e rk b h => by cases h), (fun k h => by cases h), by rfl, (.inr rfl), (fun h => by cases h), (fun l h => by cases h), (fun l h => by cases h), (fun h => absurd rfl h), (fun kk vk l h => by cases h), (fun l h => by cases h)⟩
def ti171 : TI := ⟨[.val .nilFunc], false, [], none, none, []⟩
theorem ti171_ok : TiOk Try.prog 171 ti171 := ⟨by kernel_rfl, by kernel_rfl, (fun e rk b h => by cases h), (fun k h => by cases h), by rfl, (.inr rfl), (fun h => by cases h), (fun l h => by cases h), (fun l h => by cases h), (fun h => absurd rfl h), (fun kk vk l h => by cases h), (fun l h => by cases h)⟩
def ti172 : TI := ⟨[.val .nilFunc], false, [], none, none, []⟩
theorem ti172_ok : TiOk Try.prog 172 ti172 := ⟨by kernel_rfl, by kernel_rfl, (fun e rk b h => by cases h), (fun k h => by cases h), by rfl, (.inr rfl), (fun h => by cases h), (fun l h => by cases h), (fun l h => by cases h), (fun h => absurd rfl h), (fun kk vk l h => by cases h), (fun l h => by cases h)⟩
def ti173 : TI := ⟨[.map [.i64] .bool], false, [], none, none, []⟩
theorem ti173_ok : TiOk Try.prog 173 ti173 := ⟨by kernel_rfl, by kernel_rfl, (fun e rk b h => by cases h), (fun k h => by cases h), by rfl, (.inr rfl), (fun h => by cases h), (fun l h => by cases h), (fun l h => by cases h), (fun h => absurd rfl h), (fun kk vk l h _ => by cases h; exact ⟨⟨3, 4, by kernel_rfl, by kernel_rfl, .inl ⟨_, rfl, by kernel_rfl⟩⟩⟩), (fun l h => by cases h)⟩
def ti174 : TI := ⟨[.val .nilFunc], false, [], none, none, []⟩
theorem ti174_ok : TiOk Try.prog 174 ti174 := ⟨by kernel_rfl, by kernel_rfl, (fun e rk b h => by cases h), (fun k h => by cases h), by rfl, (.inr rfl), (fun h => by cases h), (fun l h => by cases h), (fun l h => by cases h), (fun h => absurd rfl h), (fun kk vk l h => by cases h), (fun l h => by cases h)⟩
def ti175 : TI := ⟨[.val .nilFunc], false, [], none, none, []⟩
theorem ti175_ok : TiOk Try.prog 175 ti175 := ⟨by kernel_rfl, by kernel_rfl, (fun e rk b h => by cases h), (fun k h => by cases h), by rfl, (.inr rfl), (fun h => by cases h), (fun l h => by cases h), (fun l h => by cases h), (fun h => absurd rfl h), (fun kk vk l h => by cases h), (fun l h => by cases h)⟩
def ti176 : TI := ⟨[.val .nilFunc], false, [], none, none, []⟩
theorem ti176_ok : TiOk Try.prog 176 ti176 := ⟨by kernel_rfl, by kernel_rfl, (fun e rk b h => by cases h), (fun k h => by cases h), by rfl, (.inr rfl), (fun h => by cases h), (fun l h => by cases h), (fun l h => by cases h), (fun h => absurd rfl h), (fun kk vk l h => by cases h), (fun l h => by cases h)⟩
def ti177 : TI := ⟨[.val .nilFunc], false, [], none, none, []⟩
theorem ti177_ok : TiOk Try.prog 177 ti177 := ⟨by kernel_rfl, by kernel_rfl, (fun e rk b h => by cases h), (fun k h => by cases h), by rfl, (.inr rfl), (fun h => by cases h), (fun l h => by cases h), (fun l h => by cases h), (fun h => absurd rfl h), (fun kk vk l h => by cases h), (fun l h => by cases h)⟩
def ti183 : TI := ⟨[.int .u32], false, [], none, some .u32, []⟩
theorem ti183_ok : TiOk Try.prog 183 ti183 := ⟨by kernel_rfl, by kernel_rfl, (fun e rk b h => by cases h), (fun k h => by cases h; exact (by kernel_rfl)), by rfl, (.inr rfl), (fun h => by cases h), (fun l h => by cases h), (fun l h => by cases h), (fun h => absurd rfl h), (fun kk vk l h => by cases h), (fun l h => by cases h)⟩
def ti186 : TI := ⟨[.val .nilFunc], false, [], none, none, []⟩
theorem ti186_ok : TiOk Try.prog 186 ti186 := ⟨by kernel_rfl, by kernel_rfl, (fun e rk b h => by cases h), (fun k h => by cases h), by rfl, (.inr rfl), (fun h => by cases h), (fun l h => by cases h), (fun l h => by cases h), (fun h => absurd rfl h), (fun kk vk l h => by cases h), (fun l h => by cases h)⟩
def ti187 : TI := ⟨[.val (.pointer none)], false, [], none, none, []⟩
theorem ti187_ok : TiOk Try.prog 187 ti187 := ⟨by kernel_rfl, by kernel_rfl, (fun e rk b h => by cases h), (fun k h => by cases h), by rfl, (.inr rfl), (fun h => by cases h), (fun l h => by cases h), (fun l _ _ => by kernel_rfl), (fun h => absurd rfl h), (fun kk vk l h => by cases h), (fun l h => by cases h)⟩
def TT : Tys := [(1, ti1), (2, ti2), (3, ti3), (4, ti4), (5, ti5), (15, ti15), (16, ti16), (17, ti17), (20, ti20), (21, ti21), (22, ti22), (24, ti24), (25, ti25), (26, ti26), (28, ti28), (30, ti30), (32, ti32), (34, ti34), (35, ti35), (36, ti36), (38, ti38), (39, ti39), (40, ti40), (41, ti41), (42, ti42), (43, ti43), (44, ti44), (45, ti45), (46, ti46), (47, ti47), (48, ti48), (49, ti49), (50, ti50), (51, ti51), (52, ti52), (53, ti53), (54, ti54), (55, ti55), (57, ti57), (58, ti58), (59, ti59), (60, ti60), (61, ti61), (62, ti62), (63, ti63), (64, ti64), (65, ti65), (66, ti66), (67, ti67), (69, ti69), (70, ti70), (71, ti71), (72, ti72), (73, ti73), (74, ti74), (75, ti75), (76, ti76), (77, ti77), (79, ti79), (80, ti80), (81, ti81), (82, ti82), (83, ti83), (85, ti85), (86, ti86), (87, ti87), (88, ti88), (89, ti89), (90, ti90), (91, ti91), (92, ti92), (93, ti93), (94, ti94), (95, ti95), (97, ti97), (98, ti98), (99, ti99), (100, ti100), (101, ti101), (102, ti102), (103, ti103), (104, ti104), (105, ti105), (106, ti106), (107, ti107), (108, ti108), (109, ti109), (110, ti110), (111, ti111), (112, ti112), (113, ti113), (115, ti115), (116, ti116), (118, ti118), (120, ti120), (122, ti122), (123, ti123), (124, ti124), (125, ti125), (126, ti126), (127, ti127), (128, ti128), (129, ti129), (130, ti130), (131, ti131), (133, ti133), (134, ti134), (135, ti135), (136, ti136), (137, ti137), (138, ti138), (139, ti139), (140, ti140), (141, ti141), (142, ti142), (143, ti143), (145, ti145), (146, ti146), (148, ti148), (149, ti149), (150, ti150), (152, ti152), (154, ti154), (155, ti155), (156, ti156), (157, ti157), (158, ti158), (160, ti160), (161, ti161), (162, ti162), (163, ti163), (164, ti164), (165, ti165), (166, ti166), (167, ti167), (168, ti168), (170, ti170), (171, ti171), (172, ti172), (173, ti173), (174, ti174), (175, ti175), (176, ti176), (177, ti177), (183, ti183), (186, ti186), (187, ti187)]
theorem TT_ok : TsOk Try.prog TT := tsOk_cons ti1_ok (tsOk_cons ti2_ok (tsOk_cons ti3_ok (tsOk_cons ti4_ok (tsOk_cons ti5_ok (tsOk_cons ti15_ok (tsOk_cons ti16_ok (tsOk_cons ti17_ok (tsOk_cons ti20_ok (tsOk_cons ti21_ok (tsOk_cons ti22_ok (tsOk_cons ti24_ok (tsOk_cons ti25_ok (tsOk_cons ti26_ok (tsOk_cons ti28_ok (tsOk_cons ti30_ok (tsOk_cons ti32_ok (tsOk_cons ti34_ok (tsOk_cons ti35_ok (tsOk_cons ti36_ok (tsOk_cons ti38_ok (tsOk_cons ti39_ok (tsOk_cons ti40_ok (tsOk_cons ti41_ok (tsOk_cons ti42_ok (tsOk_cons ti43_ok (tsOk_cons ti44_ok (tsOk_cons ti45_ok (tsOk_cons ti46_ok (tsOk_cons ti47_ok (tsOk_cons ti48_ok (tsOk_cons ti49_ok (tsOk_cons ti50_ok (tsOk_cons ti51_ok (tsOk_cons ti52_ok (tsOk_cons ti53_ok (tsOk_cons ti54_ok (tsOk_cons ti55_ok (tsOk_cons ti57_ok (tsOk_cons ti58_ok (tsOk_cons ti59_ok (tsOk_cons ti60_ok (tsOk_cons ti61_ok (tsOk_cons ti62_ok (tsOk_cons ti63_ok (tsOk_cons ti64_ok (tsOk_cons ti65_ok (tsOk_cons ti66_ok (tsOk_cons ti67_ok (tsOk_cons ti69_ok (tsOk_cons ti70_ok (tsOk_cons ti71_ok (tsOk_cons ti72_ok (tsOk_cons ti73_ok (tsOk_cons ti74_ok (tsOk_cons ti75_ok (tsOk_cons ti76_ok (tsOk_cons ti77_ok (tsOk_cons ti79_ok (tsOk_cons ti80_ok (tsOk_cons ti81_ok (tsOk_cons ti82_ok (tsOk_cons ti83_ok (tsOk_cons ti85_ok (tsOk_cons ti86_ok (tsOk_cons ti87_ok (tsOk_cons ti88_ok (tsOk_cons ti89_ok (tsOk_cons ti90_ok (tsOk_cons ti91_ok (tsOk_cons ti92_ok (tsOk_cons ti93_ok (tsOk_cons ti94_ok (tsOk_cons ti95_ok (tsOk_cons ti97_ok (tsOk_cons ti98_ok (tsOk_cons ti99_ok (tsOk_cons ti100_ok (tsOk_cons ti101_ok (tsOk_cons ti102_ok (tsOk_cons ti103_ok (tsOk_cons ti104_ok (tsOk_cons ti105_ok (tsOk_cons ti106_ok (tsOk_cons ti107_ok (tsOk_cons ti108_ok (tsOk_cons ti109_ok (tsOk_cons ti110_ok (tsOk_cons ti111_ok (tsOk_cons ti112_ok (tsOk_cons ti113_ok (tsOk_cons ti115_ok (tsOk_cons ti116_ok (tsOk_cons ti118_ok (tsOk_cons ti120_ok (tsOk_cons ti122_ok (tsOk_cons ti123_ok (tsOk_cons ti124_ok (tsOk_cons ti125_ok (tsOk_cons ti126_ok (tsOk_cons ti127_ok (tsOk_cons ti128_ok (tsOk_cons ti129_ok (tsOk_cons ti130_ok (tsOk_cons ti131_ok (tsOk_cons ti133_ok (tsOk_cons ti134_ok (tsOk_cons ti135_ok (tsOk_cons ti136_ok (tsOk_cons ti137_ok (tsOk_cons ti138_ok (tsOk_cons ti139_ok (tsOk_cons ti140_ok (tsOk_cons ti141_ok (tsOk_cons ti142_ok (tsOk_cons ti143_ok (tsOk_cons ti145_ok (tsOk_cons ti146_ok (tsOk_cons ti148_ok (tsOk_cons ti149_ok (tsOk_cons ti150_ok (tsOk_cons ti152_ok (tsOk_cons ti154_ok (tsOk_cons ti155_ok (tsOk_cons ti156_ok (tsOk_cons ti157_ok (tsOk_cons ti158_ok (tsOk_cons ti160_ok (tsOk_cons ti161_ok (tsOk_cons ti162_ok (tsOk_cons ti163_ok (tsOk_cons ti164_ok (tsOk_cons ti165_ok (tsOk_cons ti166_ok (tsOk_cons ti167_ok (tsOk_cons ti168_ok (tsOk_cons ti170_ok (tsOk_cons ti171_ok (tsOk_cons ti172_ok (tsOk_cons ti173_ok (tsOk_cons ti174_ok (tsOk_cons ti175_ok (tsOk_cons ti176_ok (tsOk_cons ti177_ok (tsOk_cons ti183_ok (tsOk_cons ti186_ok (tsOk_cons ti187_ok (tsOk_nil _)))))))))))))))))))))))))))))))))))))))))))))))))))))))))))))))))))))))))))))))))))))))))))))))))))))))))))))))))))))))))))))))))))))))))))))))))))
theorem mixedOrders : Try.prog.follows .mixedOrders = true := by kernel_rfl
end Go.Proofs.Ytahbkllfifmdfaa
