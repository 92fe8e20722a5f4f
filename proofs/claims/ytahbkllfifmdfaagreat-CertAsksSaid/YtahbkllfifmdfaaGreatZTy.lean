/- Part of the proof, Ty. -/
import Derived.Test.YtahbkllfifmdfaaGreatZVc11
import Derived.Test.YtahbkllfifmdfaaGreatProg
set_option linter.all false
set_option linter.unusedSimpArgs false
set_option linter.unusedVariables false
set_option maxRecDepth 100000
namespace Go.Proofs.YtahbkllfifmdfaaGreat
open Go Go.RowKit Go.Ql Go.Vc
theorem tsOk_nil (P : Program) : TsOk P [] := fun _ _ h => by simp [lk] at h
theorem tsOk_cons {P : Program} {t : Nat} {ti : TI} {T : Tys} (h : TiOk P t ti) (hT : TsOk P T) : TsOk P ((t, ti) :: T) := by
  intro t' ti' hl
  rw [lk_cons] at hl
  split at hl
  · rename_i e; subst e; cases hl; exact h
  · exact hT t' ti' hl
def ti1 : TI := ⟨[.val .nilFunc], false, [], none, none, []⟩
theorem ti1_ok : TiOk Tryz.prog 1 ti1 := ⟨by kernel_rfl, by kernel_rfl, (fun e rk b h => by cases h), (fun k h => by cases h), by rfl, (.inr rfl), (fun h => by cases h), (fun l h => by cases h), (fun l h => by cases h), (fun h => absurd rfl h), (fun kk vk l h => by cases h), (fun l h => by cases h)⟩
def ti2 : TI := ⟨[.int .i64], false, [], none, some .i64, []⟩
theorem ti2_ok : TiOk Tryz.prog 2 ti2 := ⟨by kernel_rfl, by kernel_rfl, (fun e rk b h => by cases h), (fun k h => by cases h; exact (by kernel_rfl)), by rfl, (.inr rfl), (fun h => by cases h), (fun l h => by cases h), (fun l h => by cases h), (fun h => absurd rfl h), (fun kk vk l h => by cases h), (fun l h => by cases h)⟩
def ti3 : TI := ⟨[.int .i64], false, [], none, some .i64, []⟩
theorem ti3_ok : TiOk Tryz.prog 3 ti3 := ⟨by kernel_rfl, by kernel_rfl, (fun e rk b h => by cases h), (fun k h => by cases h; exact (by kernel_rfl)), by rfl, (.inr rfl), (fun h => by cases h), (fun l h => by cases h), (fun l h => by cases h), (fun h => absurd rfl h), (fun kk vk l h => by cases h), (fun l h => by cases h)⟩
def ti4 : TI := ⟨[.bool], false, [], none, none, []⟩
theorem ti4_ok : TiOk Tryz.prog 4 ti4 := ⟨by kernel_rfl, by kernel_rfl, (fun e rk b h => by cases h), (fun k h => by cases h), by rfl, (.inr rfl), (fun h => by cases h), (fun l _ _ => by kernel_rfl), (fun l h => by cases h), (fun h => absurd rfl h), (fun kk vk l h => by cases h), (fun l h => by cases h)⟩
def ti5 : TI := ⟨[.int .u8], false, [], none, some .u8, []⟩
theorem ti5_ok : TiOk Tryz.prog 5 ti5 := ⟨by kernel_rfl, by kernel_rfl, (fun e rk b h => by cases h), (fun k h => by cases h; exact (by kernel_rfl)), by rfl, (.inr rfl), (fun h => by cases h), (fun l h => by cases h), (fun l h => by cases h), (fun h => absurd rfl h), (fun kk vk l h => by cases h), (fun l h => by cases h)⟩
def ti15 : TI := ⟨[.val (.pointer none)], false, [], none, none, []⟩
theorem ti15_ok : TiOk Tryz.prog 15 ti15 := ⟨by kernel_rfl, by kernel_rfl, (fun e rk b h => by cases h), (fun k h => by cases h), by rfl, (.inr rfl), (fun h => by cases h), (fun l h => by cases h), (fun l _ _ => by kernel_rfl), (fun h => absurd rfl h), (fun kk vk l h => by cases h), (fun l h => by cases h)⟩
def ti16 : TI := ⟨[.val (.pointer none)], false, [], none, none, []⟩
theorem ti16_ok : TiOk Tryz.prog 16 ti16 := ⟨by kernel_rfl, by kernel_rfl, (fun e rk b h => by cases h), (fun k h => by cases h), by rfl, (.inr rfl), (fun h => by cases h), (fun l h => by cases h), (fun l _ _ => by kernel_rfl), (fun h => absurd rfl h), (fun kk vk l h => by cases h), (fun l h => by cases h)⟩
def ti17 : TI := ⟨[.val (.pointer none)], false, [], none, none, []⟩
theorem ti17_ok : TiOk Tryz.prog 17 ti17 := ⟨by kernel_rfl, by kernel_rfl, (fun e rk b h => by cases h), (fun k h => by cases h), by rfl, (.inr rfl), (fun h => by cases h), (fun l h => by cases h), (fun l _ _ => by kernel_rfl), (fun h => absurd rfl h), (fun kk vk l h => by cases h), (fun l h => by cases h)⟩
def ti20 : TI := ⟨[.val .nilIface], false, [], none, none, []⟩
theorem ti20_ok : TiOk Tryz.prog 20 ti20 := ⟨by kernel_rfl, by kernel_rfl, (fun e rk b h => by cases h), (fun k h => by cases h), by rfl, (.inr rfl), (fun h => by cases h), (fun l h => by cases h), (fun l h => by cases h), (fun h => absurd rfl h), (fun kk vk l h => by cases h), (fun l _ _ => by kernel_rfl)⟩
def ti21 : TI := ⟨[.int .i32], false, [], none, some .i32, []⟩
theorem ti21_ok : TiOk Tryz.prog 21 ti21 := ⟨by kernel_rfl, by kernel_rfl, (fun e rk b h => by cases h), (fun k h => by cases h; exact (by kernel_rfl)), by rfl, (.inr rfl), (fun h => by cases h), (fun l h => by cases h), (fun l h => by cases h), (fun h => absurd rfl h), (fun kk vk l h => by cases h), (fun l h => by cases h)⟩
def ti22 : TI := ⟨[.slice 2 (.int .i64)], false, [], some (2, .int .i64, 8), none, []⟩
theorem ti22_ok : TiOk Tryz.prog 22 ti22 := ⟨by kernel_rfl, by kernel_rfl, (fun e rk b h => by cases h; exact ⟨by kernel_rfl, by kernel_rfl, by decide⟩), (fun k h => by cases h), by rfl, (.inr rfl), (fun h => by cases h), (fun l h => by cases h), (fun l h => by cases h), (fun h => absurd rfl h), (fun kk vk l h => by cases h), (fun l h => by cases h)⟩
def ti23 : TI := ⟨[.slice 53 (.arc)], false, [], some (53, .arc, 40), none, []⟩
theorem ti23_ok : TiOk Tryz.prog 23 ti23 := ⟨by kernel_rfl, by kernel_rfl, (fun e rk b h => by cases h; exact ⟨by kernel_rfl, by kernel_rfl, by decide⟩), (fun k h => by cases h), by rfl, (.inr rfl), (fun h => by cases h), (fun l h => by cases h), (fun l h => by cases h), (fun h => absurd rfl h), (fun kk vk l h => by cases h), (fun l h => by cases h)⟩
def ti25 : TI := ⟨[.slice 2 (.int .i64), .slice 53 (.arc)], true, [(0, 1, false), (1, 1, false)], none, none, []⟩
theorem ti25_ok : TiOk Tryz.prog 25 ti25 := ⟨by kernel_rfl, by kernel_rfl, (fun e rk b h => by cases h), (fun k h => by cases h), by rfl, (.inl rfl), (fun _ => by kernel_rfl), (fun l h => by cases h), (fun l h => by cases h), (fun h => absurd rfl h), (fun kk vk l h => by cases h), (fun l h => by cases h)⟩
def ti26 : TI := ⟨[.slice 4 (.bool)], false, [], some (4, .bool, 1), none, []⟩
theorem ti26_ok : TiOk Tryz.prog 26 ti26 := ⟨by kernel_rfl, by kernel_rfl, (fun e rk b h => by cases h; exact ⟨by kernel_rfl, by kernel_rfl, by decide⟩), (fun k h => by cases h), by rfl, (.inr rfl), (fun h => by cases h), (fun l h => by cases h), (fun l h => by cases h), (fun h => absurd rfl h), (fun kk vk l h => by cases h), (fun l h => by cases h)⟩
def ti27 : TI := ⟨[.slice 3 (.int .i64)], false, [], some (3, .int .i64, 8), none, []⟩
theorem ti27_ok : TiOk Tryz.prog 27 ti27 := ⟨by kernel_rfl, by kernel_rfl, (fun e rk b h => by cases h; exact ⟨by kernel_rfl, by kernel_rfl, by decide⟩), (fun k h => by cases h), by rfl, (.inr rfl), (fun h => by cases h), (fun l h => by cases h), (fun l h => by cases h), (fun h => absurd rfl h), (fun kk vk l h => by cases h), (fun l h => by cases h)⟩
def ti29 : TI := ⟨[.int .i64, .slice 2 (.int .i64), .slice 2 (.int .i64), .slice 4 (.bool), .slice 3 (.int .i64)], true, [(0, 1, false), (1, 1, false), (2, 1, false), (3, 1, false), (4, 1, false)], none, none, []⟩
theorem ti29_ok : TiOk Tryz.prog 29 ti29 := ⟨by kernel_rfl, by kernel_rfl, (fun e rk b h => by cases h), (fun k h => by cases h), by rfl, (.inl rfl), (fun _ => by kernel_rfl), (fun l h => by cases h), (fun l h => by cases h), (fun h => absurd rfl h), (fun kk vk l h => by cases h), (fun l h => by cases h)⟩
def ti30 : TI := ⟨[.slice 5 (.int .u8)], false, [], some (5, .int .u8, 1), none, []⟩
theorem ti30_ok : TiOk Tryz.prog 30 ti30 := ⟨by kernel_rfl, by kernel_rfl, (fun e rk b h => by cases h; exact ⟨by kernel_rfl, by kernel_rfl, by decide⟩), (fun k h => by cases h), by rfl, (.inr rfl), (fun h => by cases h), (fun l h => by cases h), (fun l h => by cases h), (fun h => absurd rfl h), (fun kk vk l h => by cases h), (fun l h => by cases h)⟩
def ti31 : TI := ⟨[.val .nilFunc], false, [], none, none, []⟩
theorem ti31_ok : TiOk Tryz.prog 31 ti31 := ⟨by kernel_rfl, by kernel_rfl, (fun e rk b h => by cases h), (fun k h => by cases h), by rfl, (.inr rfl), (fun h => by cases h), (fun l h => by cases h), (fun l h => by cases h), (fun h => absurd rfl h), (fun kk vk l h => by cases h), (fun l h => by cases h)⟩
def ti32 : TI := ⟨[.val .nilFunc], false, [], none, none, []⟩
theorem ti32_ok : TiOk Tryz.prog 32 ti32 := ⟨by kernel_rfl, by kernel_rfl, (fun e rk b h => by cases h), (fun k h => by cases h), by rfl, (.inr rfl), (fun h => by cases h), (fun l h => by cases h), (fun l h => by cases h), (fun h => absurd rfl h), (fun kk vk l h => by cases h), (fun l h => by cases h)⟩
def ti33 : TI := ⟨[.val .nilFunc], false, [], none, none, []⟩
theorem ti33_ok : TiOk Tryz.prog 33 ti33 := ⟨by kernel_rfl, by kernel_rfl, (fun e rk b h => by cases h), (fun k h => by cases h), by rfl, (.inr rfl), (fun h => by cases h), (fun l h => by cases h), (fun l h => by cases h), (fun h => absurd rfl h), (fun kk vk l h => by cases h), (fun l h => by cases h)⟩
def ti34 : TI := ⟨[.val .nilFunc], false, [], none, none, []⟩
theorem ti34_ok : TiOk Tryz.prog 34 ti34 := ⟨by kernel_rfl, by kernel_rfl, (fun e rk b h => by cases h), (fun k h => by cases h), by rfl, (.inr rfl), (fun h => by cases h), (fun l h => by cases h), (fun l h => by cases h), (fun h => absurd rfl h), (fun kk vk l h => by cases h), (fun l h => by cases h)⟩
def ti35 : TI := ⟨[.val .nilFunc], false, [], none, none, []⟩
theorem ti35_ok : TiOk Tryz.prog 35 ti35 := ⟨by kernel_rfl, by kernel_rfl, (fun e rk b h => by cases h), (fun k h => by cases h), by rfl, (.inr rfl), (fun h => by cases h), (fun l h => by cases h), (fun l h => by cases h), (fun h => absurd rfl h), (fun kk vk l h => by cases h), (fun l h => by cases h)⟩
def ti37 : TI := ⟨[.val .nilFunc], false, [], none, none, []⟩
theorem ti37_ok : TiOk Tryz.prog 37 ti37 := ⟨by kernel_rfl, by kernel_rfl, (fun e rk b h => by cases h), (fun k h => by cases h), by rfl, (.inr rfl), (fun h => by cases h), (fun l h => by cases h), (fun l h => by cases h), (fun h => absurd rfl h), (fun kk vk l h => by cases h), (fun l h => by cases h)⟩
def ti38 : TI := ⟨[.val .nilFunc], false, [], none, none, []⟩
theorem ti38_ok : TiOk Tryz.prog 38 ti38 := ⟨by kernel_rfl, by kernel_rfl, (fun e rk b h => by cases h), (fun k h => by cases h), by rfl, (.inr rfl), (fun h => by cases h), (fun l h => by cases h), (fun l h => by cases h), (fun h => absurd rfl h), (fun kk vk l h => by cases h), (fun l h => by cases h)⟩
def ti39 : TI := ⟨[.val .nilFunc], false, [], none, none, []⟩
theorem ti39_ok : TiOk Tryz.prog 39 ti39 := ⟨by kernel_rfl, by kernel_rfl, (fun e rk b h => by cases h), (fun k h => by cases h), by rfl, (.inr rfl), (fun h => by cases h), (fun l h => by cases h), (fun l h => by cases h), (fun h => absurd rfl h), (fun kk vk l h => by cases h), (fun l h => by cases h)⟩
def ti40 : TI := ⟨[.val .nilFunc], false, [], none, none, []⟩
theorem ti40_ok : TiOk Tryz.prog 40 ti40 := ⟨by kernel_rfl, by kernel_rfl, (fun e rk b h => by cases h), (fun k h => by cases h), by rfl, (.inr rfl), (fun h => by cases h), (fun l h => by cases h), (fun l h => by cases h), (fun h => absurd rfl h), (fun kk vk l h => by cases h), (fun l h => by cases h)⟩
def ti41 : TI := ⟨[.val .nilFunc], false, [], none, none, []⟩
theorem ti41_ok : TiOk Tryz.prog 41 ti41 := ⟨by kernel_rfl, by kernel_rfl, (fun e rk b h => by cases h), (fun k h => by cases h), by rfl, (.inr rfl), (fun h => by cases h), (fun l h => by cases h), (fun l h => by cases h), (fun h => absurd rfl h), (fun kk vk l h => by cases h), (fun l h => by cases h)⟩
def ti42 : TI := ⟨[.int .u64], false, [], none, some .u64, []⟩
theorem ti42_ok : TiOk Tryz.prog 42 ti42 := ⟨by kernel_rfl, by kernel_rfl, (fun e rk b h => by cases h), (fun k h => by cases h; exact (by kernel_rfl)), by rfl, (.inr rfl), (fun h => by cases h), (fun l h => by cases h), (fun l h => by cases h), (fun h => absurd rfl h), (fun kk vk l h => by cases h), (fun l h => by cases h)⟩
theorem eq44 (w : World) : ∀ a b : List Int, a.length = 2 → b.length = 2 → (Op.equal 44 (.agg (mkInts [.i64, .u64] a)) (.agg (mkInts [.i64, .u64] b))).run Tryz.prog w = .ok (decide (a = b)) w := by
  intro a b ha hb
  match a, b, ha, hb with
  | [a0, a1], [b0, b1], _, _ =>
    show (Op.equalIn 10000 44 _ _).run Tryz.prog w = _
    by_cases e0 : a0 = b0
    · by_cases e1 : a1 = b1
      · subst e0 e1
        simp [mkInts, go_sem]
      · subst e0; simp [mkInts, go_sem, e1]
    · simp [mkInts, go_sem, e0]
def ti44 : TI := ⟨[.int .i64, .int .u64], true, [(0, 1, false), (1, 1, false)], none, none, [.i64, .u64]⟩
theorem ti44_ok : TiOk Tryz.prog 44 ti44 := ⟨by kernel_rfl, by kernel_rfl, (fun e rk b h => by cases h), (fun k h => by cases h), by rfl, (.inl rfl), (fun _ => by kernel_rfl), (fun l h => by cases h), (fun l h => by cases h), (fun _ => ⟨by kernel_rfl, fun a b w => eq44 w a b⟩), (fun kk vk l h => by cases h), (fun l h => by cases h)⟩
def ti46 : TI := ⟨[.val .nilFunc], false, [], none, none, []⟩
theorem ti46_ok : TiOk Tryz.prog 46 ti46 := ⟨by kernel_rfl, by kernel_rfl, (fun e rk b h => by cases h), (fun k h => by cases h), by rfl, (.inr rfl), (fun h => by cases h), (fun l h => by cases h), (fun l h => by cases h), (fun h => absurd rfl h), (fun kk vk l h => by cases h), (fun l h => by cases h)⟩
def ti47 : TI := ⟨[.int .u16], false, [], none, some .u16, []⟩
theorem ti47_ok : TiOk Tryz.prog 47 ti47 := ⟨by kernel_rfl, by kernel_rfl, (fun e rk b h => by cases h), (fun k h => by cases h; exact (by kernel_rfl)), by rfl, (.inr rfl), (fun h => by cases h), (fun l h => by cases h), (fun l h => by cases h), (fun h => absurd rfl h), (fun kk vk l h => by cases h), (fun l h => by cases h)⟩
def ti48 : TI := ⟨[.int .u16], false, [], none, some .u16, []⟩
theorem ti48_ok : TiOk Tryz.prog 48 ti48 := ⟨by kernel_rfl, by kernel_rfl, (fun e rk b h => by cases h), (fun k h => by cases h; exact (by kernel_rfl)), by rfl, (.inr rfl), (fun h => by cases h), (fun l h => by cases h), (fun l h => by cases h), (fun h => absurd rfl h), (fun kk vk l h => by cases h), (fun l h => by cases h)⟩
def ti49 : TI := ⟨[.val .nilFunc], false, [], none, none, []⟩
theorem ti49_ok : TiOk Tryz.prog 49 ti49 := ⟨by kernel_rfl, by kernel_rfl, (fun e rk b h => by cases h), (fun k h => by cases h), by rfl, (.inr rfl), (fun h => by cases h), (fun l h => by cases h), (fun l h => by cases h), (fun h => absurd rfl h), (fun kk vk l h => by cases h), (fun l h => by cases h)⟩
def ti50 : TI := ⟨[.val .nilFunc], false, [], none, none, []⟩
theorem ti50_ok : TiOk Tryz.prog 50 ti50 := ⟨by kernel_rfl, by kernel_rfl, (fun e rk b h => by cases h), (fun k h => by cases h), by rfl, (.inr rfl), (fun h => by cases h), (fun l h => by cases h), (fun l h => by cases h), (fun h => absurd rfl h), (fun kk vk l h => by cases h), (fun l h => by cases h)⟩
def ti51 : TI := ⟨[.val .nilFunc], false, [], none, none, []⟩
theorem ti51_ok : TiOk Tryz.prog 51 ti51 := ⟨by kernel_rfl, by kernel_rfl, (fun e rk b h => by cases h), (fun k h => by cases h), by rfl, (.inr rfl), (fun h => by cases h), (fun l h => by cases h), (fun l h => by cases h), (fun h => absurd rfl h), (fun kk vk l h => by cases h), (fun l h => by cases h)⟩
theorem eq53 (w : World) : ∀ a b : List Int, a.length = 5 → b.length = 5 → (Op.equal 53 (.agg (mkInts [.i64, .i64, .i64, .i64, .i64] a)) (.agg (mkInts [.i64, .i64, .i64, .i64, .i64] b))).run Tryz.prog w = .ok (decide (a = b)) w := by
  intro a b ha hb
  match a, b, ha, hb with
  | [a0, a1, a2, a3, a4], [b0, b1, b2, b3, b4], _, _ =>
    show (Op.equalIn 10000 53 _ _).run Tryz.prog w = _
    by_cases e0 : a0 = b0
    · by_cases e1 : a1 = b1
      · by_cases e2 : a2 = b2
        · by_cases e3 : a3 = b3
          · by_cases e4 : a4 = b4
            · subst e0 e1 e2 e3 e4
              simp [mkInts, go_sem]
            · subst e0 e1 e2 e3; simp [mkInts, go_sem, e4]
          · subst e0 e1 e2; simp [mkInts, go_sem, e3]
        · subst e0 e1; simp [mkInts, go_sem, e2]
      · subst e0; simp [mkInts, go_sem, e1]
    · simp [mkInts, go_sem, e0]
def ti53 : TI := ⟨[.int .i64, .int .i64, .int .i64, .int .i64, .int .i64], true, [(0, 1, false), (1, 1, false), (2, 1, false), (3, 1, false), (4, 1, false)], none, none, [.i64, .i64, .i64, .i64, .i64]⟩
theorem ti53_ok : TiOk Tryz.prog 53 ti53 := ⟨by kernel_rfl, by kernel_rfl, (fun e rk b h => by cases h), (fun k h => by cases h), by rfl, (.inl rfl), (fun _ => by kernel_rfl), (fun l h => by cases h), (fun l h => by cases h), (fun _ => ⟨by kernel_rfl, fun a b w => eq53 w a b⟩), (fun kk vk l h => by cases h), (fun l h => by cases h)⟩
def ti54 : TI := ⟨[.val .nilFunc], false, [], none, none, []⟩
theorem ti54_ok : TiOk Tryz.prog 54 ti54 := ⟨by kernel_rfl, by kernel_rfl, (fun e rk b h => by cases h), (fun k h => by cases h), by rfl, (.inr rfl), (fun h => by cases h), (fun l h => by cases h), (fun l h => by cases h), (fun h => absurd rfl h), (fun kk vk l h => by cases h), (fun l h => by cases h)⟩
def ti55 : TI := ⟨[.val .nilFunc], false, [], none, none, []⟩
theorem ti55_ok : TiOk Tryz.prog 55 ti55 := ⟨by kernel_rfl, by kernel_rfl, (fun e rk b h => by cases h), (fun k h => by cases h), by rfl, (.inr rfl), (fun h => by cases h), (fun l h => by cases h), (fun l h => by cases h), (fun h => absurd rfl h), (fun kk vk l h => by cases h), (fun l h => by cases h)⟩
def ti56 : TI := ⟨[.val .nilFunc], false, [], none, none, []⟩
theorem ti56_ok : TiOk Tryz.prog 56 ti56 := ⟨by kernel_rfl, by kernel_rfl, (fun e rk b h => by cases h), (fun k h => by cases h), by rfl, (.inr rfl), (fun h => by cases h), (fun l h => by cases h), (fun l h => by cases h), (fun h => absurd rfl h), (fun kk vk l h => by cases h), (fun l h => by cases h)⟩
def ti57 : TI := ⟨[.val .nilFunc], false, [], none, none, []⟩
theorem ti57_ok : TiOk Tryz.prog 57 ti57 := ⟨by kernel_rfl, by kernel_rfl, (fun e rk b h => by cases h), (fun k h => by cases h), by rfl, (.inr rfl), (fun h => by cases h), (fun l h => by cases h), (fun l h => by cases h), (fun h => absurd rfl h), (fun kk vk l h => by cases h), (fun l h => by cases h)⟩
def ti58 : TI := ⟨[.val .nilFunc], false, [], none, none, []⟩
theorem ti58_ok : TiOk Tryz.prog 58 ti58 := ⟨by kernel_rfl, by kernel_rfl, (fun e rk b h => by cases h), (fun k h => by cases h), by rfl, (.inr rfl), (fun h => by cases h), (fun l h => by cases h), (fun l h => by cases h), (fun h => absurd rfl h), (fun kk vk l h => by cases h), (fun l h => by cases h)⟩
def ti59 : TI := ⟨[.val .nilFunc], false, [], none, none, []⟩
theorem ti59_ok : TiOk Tryz.prog 59 ti59 := ⟨by kernel_rfl, by kernel_rfl, (fun e rk b h => by cases h), (fun k h => by cases h), by rfl, (.inr rfl), (fun h => by cases h), (fun l h => by cases h), (fun l h => by cases h), (fun h => absurd rfl h), (fun kk vk l h => by cases h), (fun l h => by cases h)⟩
def ti61 : TI := ⟨[.map [.i64] .fn], false, [], none, none, []⟩
theorem ti61_ok : TiOk Tryz.prog 61 ti61 := ⟨by kernel_rfl, by kernel_rfl, (fun e rk b h => by cases h), (fun k h => by cases h), by rfl, (.inr rfl), (fun h => by cases h), (fun l h => by cases h), (fun l h => by cases h), (fun h => absurd rfl h), (fun kk vk l h _ => by cases h; exact ⟨⟨3, 49, by kernel_rfl, by kernel_rfl, .inl ⟨_, rfl, by kernel_rfl⟩⟩⟩), (fun l h => by cases h)⟩
def ti62 : TI := ⟨[.val .nilFunc], false, [], none, none, []⟩
theorem ti62_ok : TiOk Tryz.prog 62 ti62 := ⟨by kernel_rfl, by kernel_rfl, (fun e rk b h => by cases h), (fun k h => by cases h), by rfl, (.inr rfl), (fun h => by cases h), (fun l h => by cases h), (fun l h => by cases h), (fun h => absurd rfl h), (fun kk vk l h => by cases h), (fun l h => by cases h)⟩
def ti63 : TI := ⟨[.val .nilFunc], false, [], none, none, []⟩
theorem ti63_ok : TiOk Tryz.prog 63 ti63 := ⟨by kernel_rfl, by kernel_rfl, (fun e rk b h => by cases h), (fun k h => by cases h), by rfl, (.inr rfl), (fun h => by cases h), (fun l h => by cases h), (fun l h => by cases h), (fun h => absurd rfl h), (fun kk vk l h => by cases h), (fun l h => by cases h)⟩
def ti64 : TI := ⟨[.val .nilFunc], false, [], none, none, []⟩
theorem ti64_ok : TiOk Tryz.prog 64 ti64 := ⟨by kernel_rfl, by kernel_rfl, (fun e rk b h => by cases h), (fun k h => by cases h), by rfl, (.inr rfl), (fun h => by cases h), (fun l h => by cases h), (fun l h => by cases h), (fun h => absurd rfl h), (fun kk vk l h => by cases h), (fun l h => by cases h)⟩
def ti65 : TI := ⟨[.val .nilFunc], false, [], none, none, []⟩
theorem ti65_ok : TiOk Tryz.prog 65 ti65 := ⟨by kernel_rfl, by kernel_rfl, (fun e rk b h => by cases h), (fun k h => by cases h), by rfl, (.inr rfl), (fun h => by cases h), (fun l h => by cases h), (fun l h => by cases h), (fun h => absurd rfl h), (fun kk vk l h => by cases h), (fun l h => by cases h)⟩
def ti66 : TI := ⟨[.val .nilFunc], false, [], none, none, []⟩
theorem ti66_ok : TiOk Tryz.prog 66 ti66 := ⟨by kernel_rfl, by kernel_rfl, (fun e rk b h => by cases h), (fun k h => by cases h), by rfl, (.inr rfl), (fun h => by cases h), (fun l h => by cases h), (fun l h => by cases h), (fun h => absurd rfl h), (fun kk vk l h => by cases h), (fun l h => by cases h)⟩
def ti67 : TI := ⟨[.val .nilFunc], false, [], none, none, []⟩
theorem ti67_ok : TiOk Tryz.prog 67 ti67 := ⟨by kernel_rfl, by kernel_rfl, (fun e rk b h => by cases h), (fun k h => by cases h), by rfl, (.inr rfl), (fun h => by cases h), (fun l h => by cases h), (fun l h => by cases h), (fun h => absurd rfl h), (fun kk vk l h => by cases h), (fun l h => by cases h)⟩
def ti68 : TI := ⟨[.val .nilFunc], false, [], none, none, []⟩
theorem ti68_ok : TiOk Tryz.prog 68 ti68 := ⟨by kernel_rfl, by kernel_rfl, (fun e rk b h => by cases h), (fun k h => by cases h), by rfl, (.inr rfl), (fun h => by cases h), (fun l h => by cases h), (fun l h => by cases h), (fun h => absurd rfl h), (fun kk vk l h => by cases h), (fun l h => by cases h)⟩
def ti69 : TI := ⟨[.val .nilFunc], false, [], none, none, []⟩
theorem ti69_ok : TiOk Tryz.prog 69 ti69 := ⟨by kernel_rfl, by kernel_rfl, (fun e rk b h => by cases h), (fun k h => by cases h), by rfl, (.inr rfl), (fun h => by cases h), (fun l h => by cases h), (fun l h => by cases h), (fun h => absurd rfl h), (fun kk vk l h => by cases h), (fun l h => by cases h)⟩
def ti70 : TI := ⟨[.val .nilFunc], false, [], none, none, []⟩
theorem ti70_ok : TiOk Tryz.prog 70 ti70 := ⟨by kernel_rfl, by kernel_rfl, (fun e rk b h => by cases h), (fun k h => by cases h), by rfl, (.inr rfl), (fun h => by cases h), (fun l h => by cases h), (fun l h => by cases h), (fun h => absurd rfl h), (fun kk vk l h => by cases h), (fun l h => by cases h)⟩
def ti71 : TI := ⟨[.val .nilFunc], false, [], none, none, []⟩
theorem ti71_ok : TiOk Tryz.prog 71 ti71 := ⟨by kernel_rfl, by kernel_rfl, (fun e rk b h => by cases h), (fun k h => by cases h), by rfl, (.inr rfl), (fun h => by cases h), (fun l h => by cases h), (fun l h => by cases h), (fun h => absurd rfl h), (fun kk vk l h => by cases h), (fun l h => by cases h)⟩
def ti72 : TI := ⟨[.val .nilFunc], false, [], none, none, []⟩
theorem ti72_ok : TiOk Tryz.prog 72 ti72 := ⟨by kernel_rfl, by kernel_rfl, (fun e rk b h => by cases h), (fun k h => by cases h), by rfl, (.inr rfl), (fun h => by cases h), (fun l h => by cases h), (fun l h => by cases h), (fun h => absurd rfl h), (fun kk vk l h => by cases h), (fun l h => by cases h)⟩
def ti73 : TI := ⟨[.val .nilFunc], false, [], none, none, []⟩
theorem ti73_ok : TiOk Tryz.prog 73 ti73 := ⟨by kernel_rfl, by kernel_rfl, (fun e rk b h => by cases h), (fun k h => by cases h), by rfl, (.inr rfl), (fun h => by cases h), (fun l h => by cases h), (fun l h => by cases h), (fun h => absurd rfl h), (fun kk vk l h => by cases h), (fun l h => by cases h)⟩
def ti74 : TI := ⟨[.val .nilFunc], false, [], none, none, []⟩
theorem ti74_ok : TiOk Tryz.prog 74 ti74 := ⟨by kernel_rfl, by kernel_rfl, (fun e rk b h => by cases h), (fun k h => by cases h), by rfl, (.inr rfl), (fun h => by cases h), (fun l h => by cases h), (fun l h => by cases h), (fun h => absurd rfl h), (fun kk vk l h => by cases h), (fun l h => by cases h)⟩
def ti75 : TI := ⟨[.val .nilFunc], false, [], none, none, []⟩
theorem ti75_ok : TiOk Tryz.prog 75 ti75 := ⟨by kernel_rfl, by kernel_rfl, (fun e rk b h => by cases h), (fun k h => by cases h), by rfl, (.inr rfl), (fun h => by cases h), (fun l h => by cases h), (fun l h => by cases h), (fun h => absurd rfl h), (fun kk vk l h => by cases h), (fun l h => by cases h)⟩
def ti76 : TI := ⟨[.val .nilFunc], false, [], none, none, []⟩
theorem ti76_ok : TiOk Tryz.prog 76 ti76 := ⟨by kernel_rfl, by kernel_rfl, (fun e rk b h => by cases h), (fun k h => by cases h), by rfl, (.inr rfl), (fun h => by cases h), (fun l h => by cases h), (fun l h => by cases h), (fun h => absurd rfl h), (fun kk vk l h => by cases h), (fun l h => by cases h)⟩
def ti77 : TI := ⟨[.val .nilFunc], false, [], none, none, []⟩
theorem ti77_ok : TiOk Tryz.prog 77 ti77 := ⟨by kernel_rfl, by kernel_rfl, (fun e rk b h => by cases h), (fun k h => by cases h), by rfl, (.inr rfl), (fun h => by cases h), (fun l h => by cases h), (fun l h => by cases h), (fun h => absurd rfl h), (fun kk vk l h => by cases h), (fun l h => by cases h)⟩
def ti78 : TI := ⟨[.val .nilFunc], false, [], none, none, []⟩
theorem ti78_ok : TiOk Tryz.prog 78 ti78 := ⟨by kernel_rfl, by kernel_rfl, (fun e rk b h => by cases h), (fun k h => by cases h), by rfl, (.inr rfl), (fun h => by cases h), (fun l h => by cases h), (fun l h => by cases h), (fun h => absurd rfl h), (fun kk vk l h => by cases h), (fun l h => by cases h)⟩
def ti79 : TI := ⟨[.val .nilFunc], false, [], none, none, []⟩
theorem ti79_ok : TiOk Tryz.prog 79 ti79 := ⟨by kernel_rfl, by kernel_rfl, (fun e rk b h => by cases h), (fun k h => by cases h), by rfl, (.inr rfl), (fun h => by cases h), (fun l h => by cases h), (fun l h => by cases h), (fun h => absurd rfl h), (fun kk vk l h => by cases h), (fun l h => by cases h)⟩
def ti80 : TI := ⟨[.val .nilFunc], false, [], none, none, []⟩
theorem ti80_ok : TiOk Tryz.prog 80 ti80 := ⟨by kernel_rfl, by kernel_rfl, (fun e rk b h => by cases h), (fun k h => by cases h), by rfl, (.inr rfl), (fun h => by cases h), (fun l h => by cases h), (fun l h => by cases h), (fun h => absurd rfl h), (fun kk vk l h => by cases h), (fun l h => by cases h)⟩
def ti81 : TI := ⟨[.val .nilFunc], false, [], none, none, []⟩
theorem ti81_ok : TiOk Tryz.prog 81 ti81 := ⟨by kernel_rfl, by kernel_rfl, (fun e rk b h => by cases h), (fun k h => by cases h), by rfl, (.inr rfl), (fun h => by cases h), (fun l h => by cases h), (fun l h => by cases h), (fun h => absurd rfl h), (fun kk vk l h => by cases h), (fun l h => by cases h)⟩
def ti82 : TI := ⟨[.val .nilFunc], false, [], none, none, []⟩
theorem ti82_ok : TiOk Tryz.prog 82 ti82 := ⟨by kernel_rfl, by kernel_rfl, (fun e rk b h => by cases h), (fun k h => by cases h), by rfl, (.inr rfl), (fun h => by cases h), (fun l h => by cases h), (fun l h => by cases h), (fun h => absurd rfl h), (fun kk vk l h => by cases h), (fun l h => by cases h)⟩
def ti83 : TI := ⟨[.val .nilFunc], false, [], none, none, []⟩
theorem ti83_ok : TiOk Tryz.prog 83 ti83 := ⟨by kernel_rfl, by kernel_rfl, (fun e rk b h => by cases h), (fun k h => by cases h), by rfl, (.inr rfl), (fun h => by cases h), (fun l h => by cases h), (fun l h => by cases h), (fun h => absurd rfl h), (fun kk vk l h => by cases h), (fun l h => by cases h)⟩
def ti84 : TI := ⟨[.val .nilFunc], false, [], none, none, []⟩
theorem ti84_ok : TiOk Tryz.prog 84 ti84 := ⟨by kernel_rfl, by kernel_rfl, (fun e rk b h => by cases h), (fun k h => by cases h), by rfl, (.inr rfl), (fun h => by cases h), (fun l h => by cases h), (fun l h => by cases h), (fun h => absurd rfl h), (fun kk vk l h => by cases h), (fun l h => by cases h)⟩
def ti85 : TI := ⟨[.val .nilFunc], false, [], none, none, []⟩
theorem ti85_ok : TiOk Tryz.prog 85 ti85 := ⟨by kernel_rfl, by kernel_rfl, (fun e rk b h => by cases h), (fun k h => by cases h), by rfl, (.inr rfl), (fun h => by cases h), (fun l h => by cases h), (fun l h => by cases h), (fun h => absurd rfl h), (fun kk vk l h => by cases h), (fun l h => by cases h)⟩
def ti86 : TI := ⟨[.val .nilFunc], false, [], none, none, []⟩
theorem ti86_ok : TiOk Tryz.prog 86 ti86 := ⟨by kernel_rfl, by kernel_rfl, (fun e rk b h => by cases h), (fun k h => by cases h), by rfl, (.inr rfl), (fun h => by cases h), (fun l h => by cases h), (fun l h => by cases h), (fun h => absurd rfl h), (fun kk vk l h => by cases h), (fun l h => by cases h)⟩
def ti87 : TI := ⟨[.val .nilFunc], false, [], none, none, []⟩
theorem ti87_ok : TiOk Tryz.prog 87 ti87 := ⟨by kernel_rfl, by kernel_rfl, (fun e rk b h => by cases h), (fun k h => by cases h), by rfl, (.inr rfl), (fun h => by cases h), (fun l h => by cases h), (fun l h => by cases h), (fun h => absurd rfl h), (fun kk vk l h => by cases h), (fun l h => by cases h)⟩
def ti88 : TI := ⟨[.val .nilFunc], false, [], none, none, []⟩
theorem ti88_ok : TiOk Tryz.prog 88 ti88 := ⟨by kernel_rfl, by kernel_rfl, (fun e rk b h => by cases h), (fun k h => by cases h), by rfl, (.inr rfl), (fun h => by cases h), (fun l h => by cases h), (fun l h => by cases h), (fun h => absurd rfl h), (fun kk vk l h => by cases h), (fun l h => by cases h)⟩
def ti89 : TI := ⟨[.slice 44 (.wide)], false, [], some (44, .wide, 16), none, []⟩
theorem ti89_ok : TiOk Tryz.prog 89 ti89 := ⟨by kernel_rfl, by kernel_rfl, (fun e rk b h => by cases h; exact ⟨by kernel_rfl, by kernel_rfl, by decide⟩), (fun k h => by cases h), by rfl, (.inr rfl), (fun h => by cases h), (fun l h => by cases h), (fun l h => by cases h), (fun h => absurd rfl h), (fun kk vk l h => by cases h), (fun l h => by cases h)⟩
def ti90 : TI := ⟨[.val .nilFunc], false, [], none, none, []⟩
theorem ti90_ok : TiOk Tryz.prog 90 ti90 := ⟨by kernel_rfl, by kernel_rfl, (fun e rk b h => by cases h), (fun k h => by cases h), by rfl, (.inr rfl), (fun h => by cases h), (fun l h => by cases h), (fun l h => by cases h), (fun h => absurd rfl h), (fun kk vk l h => by cases h), (fun l h => by cases h)⟩
def ti91 : TI := ⟨[.val .nilFunc], false, [], none, none, []⟩
theorem ti91_ok : TiOk Tryz.prog 91 ti91 := ⟨by kernel_rfl, by kernel_rfl, (fun e rk b h => by cases h), (fun k h => by cases h), by rfl, (.inr rfl), (fun h => by cases h), (fun l h => by cases h), (fun l h => by cases h), (fun h => absurd rfl h), (fun kk vk l h => by cases h), (fun l h => by cases h)⟩
def ti92 : TI := ⟨[.val .nilFunc], false, [], none, none, []⟩
theorem ti92_ok : TiOk Tryz.prog 92 ti92 := ⟨by kernel_rfl, by kernel_rfl, (fun e rk b h => by cases h), (fun k h => by cases h), by rfl, (.inr rfl), (fun h => by cases h), (fun l h => by cases h), (fun l h => by cases h), (fun h => absurd rfl h), (fun kk vk l h => by cases h), (fun l h => by cases h)⟩
def ti93 : TI := ⟨[.val .nilFunc], false, [], none, none, []⟩
theorem ti93_ok : TiOk Tryz.prog 93 ti93 := ⟨by kernel_rfl, by kernel_rfl, (fun e rk b h => by cases h), (fun k h => by cases h), by rfl, (.inr rfl), (fun h => by cases h), (fun l h => by cases h), (fun l h => by cases h), (fun h => absurd rfl h), (fun kk vk l h => by cases h), (fun l h => by cases h)⟩
def ti95 : TI := ⟨[.val .nilFunc], false, [], none, none, []⟩
theorem ti95_ok : TiOk Tryz.prog 95 ti95 := ⟨by kernel_rfl, by kernel_rfl, (fun e rk b h => by cases h), (fun k h => by cases h), by rfl, (.inr rfl), (fun h => by cases h), (fun l h => by cases h), (fun l h => by cases h), (fun h => absurd rfl h), (fun kk vk l h => by cases h), (fun l h => by cases h)⟩
def ti96 : TI := ⟨[.val .nilFunc], false, [], none, none, []⟩
theorem ti96_ok : TiOk Tryz.prog 96 ti96 := ⟨by kernel_rfl, by kernel_rfl, (fun e rk b h => by cases h), (fun k h => by cases h), by rfl, (.inr rfl), (fun h => by cases h), (fun l h => by cases h), (fun l h => by cases h), (fun h => absurd rfl h), (fun kk vk l h => by cases h), (fun l h => by cases h)⟩
def ti97 : TI := ⟨[.val .nilFunc], false, [], none, none, []⟩
theorem ti97_ok : TiOk Tryz.prog 97 ti97 := ⟨by kernel_rfl, by kernel_rfl, (fun e rk b h => by cases h), (fun k h => by cases h), by rfl, (.inr rfl), (fun h => by cases h), (fun l h => by cases h), (fun l h => by cases h), (fun h => absurd rfl h), (fun kk vk l h => by cases h), (fun l h => by cases h)⟩
def ti98 : TI := ⟨[.val .nilFunc], false, [], none, none, []⟩
theorem ti98_ok : TiOk Tryz.prog 98 ti98 := ⟨by kernel_rfl, by kernel_rfl, (fun e rk b h => by cases h), (fun k h => by cases h), by rfl, (.inr rfl), (fun h => by cases h), (fun l h => by cases h), (fun l h => by cases h), (fun h => absurd rfl h), (fun kk vk l h => by cases h), (fun l h => by cases h)⟩
def ti99 : TI := ⟨[.val .nilFunc], false, [], none, none, []⟩
theorem ti99_ok : TiOk Tryz.prog 99 ti99 := ⟨by kernel_rfl, by kernel_rfl, (fun e rk b h => by cases h), (fun k h => by cases h), by rfl, (.inr rfl), (fun h => by cases h), (fun l h => by cases h), (fun l h => by cases h), (fun h => absurd rfl h), (fun kk vk l h => by cases h), (fun l h => by cases h)⟩
def ti100 : TI := ⟨[.val .nilFunc], false, [], none, none, []⟩
theorem ti100_ok : TiOk Tryz.prog 100 ti100 := ⟨by kernel_rfl, by kernel_rfl, (fun e rk b h => by cases h), (fun k h => by cases h), by rfl, (.inr rfl), (fun h => by cases h), (fun l h => by cases h), (fun l h => by cases h), (fun h => absurd rfl h), (fun kk vk l h => by cases h), (fun l h => by cases h)⟩
def ti101 : TI := ⟨[.val .nilFunc], false, [], none, none, []⟩
theorem ti101_ok : TiOk Tryz.prog 101 ti101 := ⟨by kernel_rfl, by kernel_rfl, (fun e rk b h => by cases h), (fun k h => by cases h), by rfl, (.inr rfl), (fun h => by cases h), (fun l h => by cases h), (fun l h => by cases h), (fun h => absurd rfl h), (fun kk vk l h => by cases h), (fun l h => by cases h)⟩
def ti103 : TI := ⟨[.int .i64, .int .i64, .int .i64, .int .i64, .int .i64, .int .i64, .int .i64], true, [(0, 5, true), (5, 1, false), (6, 1, false)], none, none, []⟩
theorem ti103_ok : TiOk Tryz.prog 103 ti103 := ⟨by kernel_rfl, by kernel_rfl, (fun e rk b h => by cases h), (fun k h => by cases h), by rfl, (.inl rfl), (fun _ => by kernel_rfl), (fun l h => by cases h), (fun l h => by cases h), (fun h => absurd rfl h), (fun kk vk l h => by cases h), (fun l h => by cases h)⟩
def ti104 : TI := ⟨[.val .nilFunc], false, [], none, none, []⟩
theorem ti104_ok : TiOk Tryz.prog 104 ti104 := ⟨by kernel_rfl, by kernel_rfl, (fun e rk b h => by cases h), (fun k h => by cases h), by rfl, (.inr rfl), (fun h => by cases h), (fun l h => by cases h), (fun l h => by cases h), (fun h => absurd rfl h), (fun kk vk l h => by cases h), (fun l h => by cases h)⟩
def ti105 : TI := ⟨[.slice 33 .fn], false, [], some (33, .fn, 8), none, []⟩
theorem ti105_ok : TiOk Tryz.prog 105 ti105 := ⟨by kernel_rfl, by kernel_rfl, (fun e rk b h => by cases h; exact ⟨by kernel_rfl, by kernel_rfl, by decide⟩), (fun k h => by cases h), by rfl, (.inr rfl), (fun h => by cases h), (fun l h => by cases h), (fun l h => by cases h), (fun h => absurd rfl h), (fun kk vk l h => by cases h), (fun l h => by cases h)⟩
def ti106 : TI := ⟨[.val .nilFunc], false, [], none, none, []⟩
theorem ti106_ok : TiOk Tryz.prog 106 ti106 := ⟨by kernel_rfl, by kernel_rfl, (fun e rk b h => by cases h), (fun k h => by cases h), by rfl, (.inr rfl), (fun h => by cases h), (fun l h => by cases h), (fun l h => by cases h), (fun h => absurd rfl h), (fun kk vk l h => by cases h), (fun l h => by cases h)⟩
def ti107 : TI := ⟨[.int .u64], false, [], none, some .u64, []⟩
theorem ti107_ok : TiOk Tryz.prog 107 ti107 := ⟨by kernel_rfl, by kernel_rfl, (fun e rk b h => by cases h), (fun k h => by cases h; exact (by kernel_rfl)), by rfl, (.inr rfl), (fun h => by cases h), (fun l h => by cases h), (fun l h => by cases h), (fun h => absurd rfl h), (fun kk vk l h => by cases h), (fun l h => by cases h)⟩
def ti108 : TI := ⟨[.val .nilFunc], false, [], none, none, []⟩
theorem ti108_ok : TiOk Tryz.prog 108 ti108 := ⟨by kernel_rfl, by kernel_rfl, (fun e rk b h => by cases h), (fun k h => by cases h), by rfl, (.inr rfl), (fun h => by cases h), (fun l h => by cases h), (fun l h => by cases h), (fun h => absurd rfl h), (fun kk vk l h => by cases h), (fun l h => by cases h)⟩
def ti110 : TI := ⟨[.val .nilFunc], false, [], none, none, []⟩
theorem ti110_ok : TiOk Tryz.prog 110 ti110 := ⟨by kernel_rfl, by kernel_rfl, (fun e rk b h => by cases h), (fun k h => by cases h), by rfl, (.inr rfl), (fun h => by cases h), (fun l h => by cases h), (fun l h => by cases h), (fun h => absurd rfl h), (fun kk vk l h => by cases h), (fun l h => by cases h)⟩
def ti111 : TI := ⟨[.val .nilFunc], false, [], none, none, []⟩
theorem ti111_ok : TiOk Tryz.prog 111 ti111 := ⟨by kernel_rfl, by kernel_rfl, (fun e rk b h => by cases h), (fun k h => by cases h), by rfl, (.inr rfl), (fun h => by cases h), (fun l h => by cases h), (fun l h => by cases h), (fun h => absurd rfl h), (fun kk vk l h => by cases h), (fun l h => by cases h)⟩
def ti112 : TI := ⟨[.val .nilFunc], false, [], none, none, []⟩
theorem ti112_ok : TiOk Tryz.prog 112 ti112 := ⟨by kernel_rfl, by kernel_rfl, (fun e rk b h => by cases h), (fun k h => by cases h), by rfl, (.inr rfl), (fun h => by cases h), (fun l h => by cases h), (fun l h => by cases h), (fun h => absurd rfl h), (fun kk vk l h => by cases h), (fun l h => by cases h)⟩
def ti113 : TI := ⟨[.val .nilFunc], false, [], none, none, []⟩
theorem ti113_ok : TiOk Tryz.prog 113 ti113 := ⟨by kernel_rfl, by kernel_rfl, (fun e rk b h => by cases h), (fun k h => by cases h), by rfl, (.inr rfl), (fun h => by cases h), (fun l h => by cases h), (fun l h => by cases h), (fun h => absurd rfl h), (fun kk vk l h => by cases h), (fun l h => by cases h)⟩
def ti115 : TI := ⟨[.val .nilFunc], false, [], none, none, []⟩
theorem ti115_ok : TiOk Tryz.prog 115 ti115 := ⟨by kernel_rfl, by kernel_rfl, (fun e rk b h => by cases h), (fun k h => by cases h), by rfl, (.inr rfl), (fun h => by cases h), (fun l h => by cases h), (fun l h => by cases h), (fun h => absurd rfl h), (fun kk vk l h => by cases h), (fun l h => by cases h)⟩
def ti116 : TI := ⟨[.val .nilFunc], false, [], none, none, []⟩
theorem ti116_ok : TiOk Tryz.prog 116 ti116 := ⟨by kernel_rfl, by kernel_rfl, (fun e rk b h => by cases h), (fun k h => by cases h), by rfl, (.inr rfl), (fun h => by cases h), (fun l h => by cases h), (fun l h => by cases h), (fun h => absurd rfl h), (fun kk vk l h => by cases h), (fun l h => by cases h)⟩
def ti117 : TI := ⟨[.val .nilFunc], false, [], none, none, []⟩
theorem ti117_ok : TiOk Tryz.prog 117 ti117 := ⟨by kernel_rfl, by kernel_rfl, (fun e rk b h => by cases h), (fun k h => by cases h), by rfl, (.inr rfl), (fun h => by cases h), (fun l h => by cases h), (fun l h => by cases h), (fun h => absurd rfl h), (fun kk vk l h => by cases h), (fun l h => by cases h)⟩
def ti118 : TI := ⟨[.val .nilFunc], false, [], none, none, []⟩
theorem ti118_ok : TiOk Tryz.prog 118 ti118 := ⟨by kernel_rfl, by kernel_rfl, (fun e rk b h => by cases h), (fun k h => by cases h), by rfl, (.inr rfl), (fun h => by cases h), (fun l h => by cases h), (fun l h => by cases h), (fun h => absurd rfl h), (fun kk vk l h => by cases h), (fun l h => by cases h)⟩
def ti119 : TI := ⟨[.val .nilFunc], false, [], none, none, []⟩
theorem ti119_ok : TiOk Tryz.prog 119 ti119 := ⟨by kernel_rfl, by kernel_rfl, (fun e rk b h => by cases h), (fun k h => by cases h), by rfl, (.inr rfl), (fun h => by cases h), (fun l h => by cases h), (fun l h => by cases h), (fun h => absurd rfl h), (fun kk vk l h => by cases h), (fun l h => by cases h)⟩
def ti120 : TI := ⟨[.val .nilFunc], false, [], none, none, []⟩
theorem ti120_ok : TiOk Tryz.prog 120 ti120 := ⟨by kernel_rfl, by kernel_rfl, (fun e rk b h => by cases h), (fun k h => by cases h), by rfl, (.inr rfl), (fun h => by cases h), (fun l h => by cases h), (fun l h => by cases h), (fun h => absurd rfl h), (fun kk vk l h => by cases h), (fun l h => by cases h)⟩
def ti121 : TI := ⟨[.val .nilFunc], false, [], none, none, []⟩
theorem ti121_ok : TiOk Tryz.prog 121 ti121 := ⟨by kernel_rfl, by kernel_rfl, (fun e rk b h => by cases h), (fun k h => by cases h), by rfl, (.inr rfl), (fun h => by cases h), (fun l h => by cases h), (fun l h => by cases h), (fun h => absurd rfl h), (fun kk vk l h => by cases h), (fun l h => by cases h)⟩
def ti122 : TI := ⟨[.val .nilFunc], false, [], none, none, []⟩
theorem ti122_ok : TiOk Tryz.prog 122 ti122 := ⟨by kernel_rfl, by kernel_rfl, (fun e rk b h => by cases h), (fun k h => by cases h), by rfl, (.inr rfl), (fun h => by cases h), (fun l h => by cases h), (fun l h => by cases h), (fun h => absurd rfl h), (fun kk vk l h => by cases h), (fun l h => by cases h)⟩
def ti123 : TI := ⟨[.slice 44 (.wide)], false, [], some (44, .wide, 16), none, []⟩
theorem ti123_ok : TiOk Tryz.prog 123 ti123 := ⟨by kernel_rfl, by kernel_rfl, (fun e rk b h => by cases h; exact ⟨by kernel_rfl, by kernel_rfl, by decide⟩), (fun k h => by cases h), by rfl, (.inr rfl), (fun h => by cases h), (fun l h => by cases h), (fun l h => by cases h), (fun h => absurd rfl h), (fun kk vk l h => by cases h), (fun l h => by cases h)⟩
def ti124 : TI := ⟨[.val (.pointer none)], false, [], none, none, []⟩
theorem ti124_ok : TiOk Tryz.prog 124 ti124 := ⟨by kernel_rfl, by kernel_rfl, (fun e rk b h => by cases h), (fun k h => by cases h), by rfl, (.inr rfl), (fun h => by cases h), (fun l h => by cases h), (fun l _ _ => by kernel_rfl), (fun h => absurd rfl h), (fun kk vk l h => by cases h), (fun l h => by cases h)⟩
def ti125 : TI := ⟨[.val .nilFunc], false, [], none, none, []⟩
theorem ti125_ok : TiOk Tryz.prog 125 ti125 := ⟨by kernel_rfl, by kernel_rfl, (fun e rk b h => by cases h), (fun k h => by cases h), by rfl, (.inr rfl), (fun h => by cases h), (fun l h => by cases h), (fun l h => by cases h), (fun h => absurd rfl h), (fun kk vk l h => by cases h), (fun l h => by cases h)⟩
def ti127 : TI := ⟨[.slice 44 (.wide), .val (.pointer none)], true, [(0, 1, false), (1, 1, false)], none, none, []⟩
theorem ti127_ok : TiOk Tryz.prog 127 ti127 := ⟨by kernel_rfl, by kernel_rfl, (fun e rk b h => by cases h), (fun k h => by cases h), by rfl, (.inl rfl), (fun _ => by kernel_rfl), (fun l h => by cases h), (fun l h => by cases h), (fun h => absurd rfl h), (fun kk vk l h => by cases h), (fun l h => by cases h)⟩
def ti128 : TI := ⟨[.val .nilFunc], false, [], none, none, []⟩
theorem ti128_ok : TiOk Tryz.prog 128 ti128 := ⟨by kernel_rfl, by kernel_rfl, (fun e rk b h => by cases h), (fun k h => by cases h), by rfl, (.inr rfl), (fun h => by cases h), (fun l h => by cases h), (fun l h => by cases h), (fun h => absurd rfl h), (fun kk vk l h => by cases h), (fun l h => by cases h)⟩
def ti129 : TI := ⟨[.val .nilFunc], false, [], none, none, []⟩
theorem ti129_ok : TiOk Tryz.prog 129 ti129 := ⟨by kernel_rfl, by kernel_rfl, (fun e rk b h => by cases h), (fun k h => by cases h), by rfl, (.inr rfl), (fun h => by cases h), (fun l h => by cases h), (fun l h => by cases h), (fun h => absurd rfl h), (fun kk vk l h => by cases h), (fun l h => by cases h)⟩
def ti130 : TI := ⟨[.map [.i64] .bool], false, [], none, none, []⟩
theorem ti130_ok : TiOk Tryz.prog 130 ti130 := ⟨by kernel_rfl, by kernel_rfl, (fun e rk b h => by cases h), (fun k h => by cases h), by rfl, (.inr rfl), (fun h => by cases h), (fun l h => by cases h), (fun l h => by cases h), (fun h => absurd rfl h), (fun kk vk l h _ => by cases h; exact ⟨⟨3, 4, by kernel_rfl, by kernel_rfl, .inl ⟨_, rfl, by kernel_rfl⟩⟩⟩), (fun l h => by cases h)⟩
def ti131 : TI := ⟨[.val .nilFunc], false, [], none, none, []⟩
theorem ti131_ok : TiOk Tryz.prog 131 ti131 := ⟨by kernel_rfl, by kernel_rfl, (fun e rk b h => by cases h), (fun k h => by cases h), by rfl, (.inr rfl), (fun h => by cases h), (fun l h => by cases h), (fun l h => by cases h), (fun h => absurd rfl h), (fun kk vk l h => by cases h), (fun l h => by cases h)⟩
def ti132 : TI := ⟨[.val .nilFunc], false, [], none, none, []⟩
theorem ti132_ok : TiOk Tryz.prog 132 ti132 := ⟨by kernel_rfl, by kernel_rfl, (fun e rk b h => by cases h), (fun k h => by cases h), by rfl, (.inr rfl), (fun h => by cases h), (fun l h => by cases h), (fun l h => by cases h), (fun h => absurd rfl h), (fun kk vk l h => by cases h), (fun l h => by cases h)⟩
def ti133 : TI := ⟨[.val .nilFunc], false, [], none, none, []⟩
theorem ti133_ok : TiOk Tryz.prog 133 ti133 := ⟨by kernel_rfl, by kernel_rfl, (fun e rk b h => by cases h), (fun k h => by cases h), by rfl, (.inr rfl), (fun h => by cases h), (fun l h => by cases h), (fun l h => by cases h), (fun h => absurd rfl h), (fun kk vk l h => by cases h), (fun l h => by cases h)⟩
def ti134 : TI := ⟨[.val .nilFunc], false, [], none, none, []⟩
theorem ti134_ok : TiOk Tryz.prog 134 ti134 := ⟨by kernel_rfl, by kernel_rfl, (fun e rk b h => by cases h), (fun k h => by cases h), by rfl, (.inr rfl), (fun h => by cases h), (fun l h => by cases h), (fun l h => by cases h), (fun h => absurd rfl h), (fun kk vk l h => by cases h), (fun l h => by cases h)⟩
def ti136 : TI := ⟨[.int .i64, .slice 53 (.arc), .slice 3 (.int .i64), .slice 3 (.int .i64)], true, [(0, 1, false), (1, 1, false), (2, 1, false), (3, 1, false)], none, none, []⟩
theorem ti136_ok : TiOk Tryz.prog 136 ti136 := ⟨by kernel_rfl, by kernel_rfl, (fun e rk b h => by cases h), (fun k h => by cases h), by rfl, (.inl rfl), (fun _ => by kernel_rfl), (fun l h => by cases h), (fun l h => by cases h), (fun h => absurd rfl h), (fun kk vk l h => by cases h), (fun l h => by cases h)⟩
def ti137 : TI := ⟨[.val .nilFunc], false, [], none, none, []⟩
theorem ti137_ok : TiOk Tryz.prog 137 ti137 := ⟨by kernel_rfl, by kernel_rfl, (fun e rk b h => by cases h), (fun k h => by cases h), by rfl, (.inr rfl), (fun h => by cases h), (fun l h => by cases h), (fun l h => by cases h), (fun h => absurd rfl h), (fun kk vk l h => by cases h), (fun l h => by cases h)⟩
def ti138 : TI := ⟨[.val .nilFunc], false, [], none, none, []⟩
theorem ti138_ok : TiOk Tryz.prog 138 ti138 := ⟨by kernel_rfl, by kernel_rfl, (fun e rk b h => by cases h), (fun k h => by cases h), by rfl, (.inr rfl), (fun h => by cases h), (fun l h => by cases h), (fun l h => by cases h), (fun h => absurd rfl h), (fun kk vk l h => by cases h), (fun l h => by cases h)⟩
def ti139 : TI := ⟨[.val .nilFunc], false, [], none, none, []⟩
theorem ti139_ok : TiOk Tryz.prog 139 ti139 := ⟨by kernel_rfl, by kernel_rfl, (fun e rk b h => by cases h), (fun k h => by cases h), by rfl, (.inr rfl), (fun h => by cases h), (fun l h => by cases h), (fun l h => by cases h), (fun h => absurd rfl h), (fun kk vk l h => by cases h), (fun l h => by cases h)⟩
def ti140 : TI := ⟨[.val .nilFunc], false, [], none, none, []⟩
theorem ti140_ok : TiOk Tryz.prog 140 ti140 := ⟨by kernel_rfl, by kernel_rfl, (fun e rk b h => by cases h), (fun k h => by cases h), by rfl, (.inr rfl), (fun h => by cases h), (fun l h => by cases h), (fun l h => by cases h), (fun h => absurd rfl h), (fun kk vk l h => by cases h), (fun l h => by cases h)⟩
def ti141 : TI := ⟨[.val .nilFunc], false, [], none, none, []⟩
theorem ti141_ok : TiOk Tryz.prog 141 ti141 := ⟨by kernel_rfl, by kernel_rfl, (fun e rk b h => by cases h), (fun k h => by cases h), by rfl, (.inr rfl), (fun h => by cases h), (fun l h => by cases h), (fun l h => by cases h), (fun h => absurd rfl h), (fun kk vk l h => by cases h), (fun l h => by cases h)⟩
def ti142 : TI := ⟨[.val .nilFunc], false, [], none, none, []⟩
theorem ti142_ok : TiOk Tryz.prog 142 ti142 := ⟨by kernel_rfl, by kernel_rfl, (fun e rk b h => by cases h), (fun k h => by cases h), by rfl, (.inr rfl), (fun h => by cases h), (fun l h => by cases h), (fun l h => by cases h), (fun h => absurd rfl h), (fun kk vk l h => by cases h), (fun l h => by cases h)⟩
def ti148 : TI := ⟨[.int .u32], false, [], none, some .u32, []⟩
theorem ti148_ok : TiOk Tryz.prog 148 ti148 := ⟨by kernel_rfl, by kernel_rfl, (fun e rk b h => by cases h), (fun k h => by cases h; exact (by kernel_rfl)), by rfl, (.inr rfl), (fun h => by cases h), (fun l h => by cases h), (fun l h => by cases h), (fun h => absurd rfl h), (fun kk vk l h => by cases h), (fun l h => by cases h)⟩
def ti151 : TI := ⟨[.val .nilFunc], false, [], none, none, []⟩
theorem ti151_ok : TiOk Tryz.prog 151 ti151 := ⟨by kernel_rfl, by kernel_rfl, (fun e rk b h => by cases h), (fun k h => by cases h), by rfl, (.inr rfl), (fun h => by cases h), (fun l h => by cases h), (fun l h => by cases h), (fun h => absurd rfl h), (fun kk vk l h => by cases h), (fun l h => by cases h)⟩
def ti152 : TI := ⟨[.val (.pointer none)], false, [], none, none, []⟩
theorem ti152_ok : TiOk Tryz.prog 152 ti152 := ⟨by kernel_rfl, by kernel_rfl, (fun e rk b h => by cases h), (fun k h => by cases h), by rfl, (.inr rfl), (fun h => by cases h), (fun l h => by cases h), (fun l _ _ => by kernel_rfl), (fun h => absurd rfl h), (fun kk vk l h => by cases h), (fun l h => by cases h)⟩
def TT : Tys := [(1, ti1), (2, ti2), (3, ti3), (4, ti4), (5, ti5), (15, ti15), (16, ti16), (17, ti17), (20, ti20), (21, ti21), (22, ti22), (23, ti23), (25, ti25), (26, ti26), (27, ti27), (29, ti29), (30, ti30), (31, ti31), (32, ti32), (33, ti33), (34, ti34), (35, ti35), (37, ti37), (38, ti38), (39, ti39), (40, ti40), (41, ti41), (42, ti42), (44, ti44), (46, ti46), (47, ti47), (48, ti48), (49, ti49), (50, ti50), (51, ti51), (53, ti53), (54, ti54), (55, ti55), (56, ti56), (57, ti57), (58, ti58), (59, ti59), (61, ti61), (62, ti62), (63, ti63), (64, ti64), (65, ti65), (66, ti66), (67, ti67), (68, ti68), (69, ti69), (70, ti70), (71, ti71), (72, ti72), (73, ti73), (74, ti74), (75, ti75), (76, ti76), (77, ti77), (78, ti78), (79, ti79), (80, ti80), (81, ti81), (82, ti82), (83, ti83), (84, ti84), (85, ti85), (86, ti86), (87, ti87), (88, ti88), (89, ti89), (90, ti90), (91, ti91), (92, ti92), (93, ti93), (95, ti95), (96, ti96), (97, ti97), (98, ti98), (99, ti99), (100, ti100), (101, ti101), (103, ti103), (104, ti104), (105, ti105), (106, ti106), (107, ti107), (108, ti108), (110, ti110), (111, ti111), (112, ti112), (113, ti113), (115, ti115), (116, ti116), (117, ti117), (118, ti118), (119, ti119), (120, ti120), (121, ti121), (122, ti122), (123, ti123), (124, ti124), (125, ti125), (127, ti127), (128, ti128), (129, ti129), (130, ti130), (131, ti131), (132, ti132), (133, ti133), (134, ti134), (136, ti136), (137, ti137), (138, ti138), (139, ti139), (140, ti140), (141, ti141), (142, ti142), (148, ti148), (151, ti151), (152, ti152)]
theorem TT_ok : TsOk Tryz.prog TT := tsOk_cons ti1_ok (tsOk_cons ti2_ok (tsOk_cons ti3_ok (tsOk_cons ti4_ok (tsOk_cons ti5_ok (tsOk_cons ti15_ok (tsOk_cons ti16_ok (tsOk_cons ti17_ok (tsOk_cons ti20_ok (tsOk_cons ti21_ok (tsOk_cons ti22_ok (tsOk_cons ti23_ok (tsOk_cons ti25_ok (tsOk_cons ti26_ok (tsOk_cons ti27_ok (tsOk_cons ti29_ok (tsOk_cons ti30_ok (tsOk_cons ti31_ok (tsOk_cons ti32_ok (tsOk_cons ti33_ok (tsOk_cons ti34_ok (tsOk_cons ti35_ok (tsOk_cons ti37_ok (tsOk_cons ti38_ok (tsOk_cons ti39_ok (tsOk_cons ti40_ok (tsOk_cons ti41_ok (tsOk_cons ti42_ok (tsOk_cons ti44_ok (tsOk_cons ti46_ok (tsOk_cons ti47_ok (tsOk_cons ti48_ok (tsOk_cons ti49_ok (tsOk_cons ti50_ok (tsOk_cons ti51_ok (tsOk_cons ti53_ok (tsOk_cons ti54_ok (tsOk_cons ti55_ok (tsOk_cons ti56_ok (tsOk_cons ti57_ok (tsOk_cons ti58_ok (tsOk_cons ti59_ok (tsOk_cons ti61_ok (tsOk_cons ti62_ok (tsOk_cons ti63_ok (tsOk_cons ti64_ok (tsOk_cons ti65_ok (tsOk_cons ti66_ok (tsOk_cons ti67_ok (tsOk_cons ti68_ok (tsOk_cons ti69_ok (tsOk_cons ti70_ok (tsOk_cons ti71_ok (tsOk_cons ti72_ok (tsOk_cons ti73_ok (tsOk_cons ti74_ok (tsOk_cons ti75_ok (tsOk_cons ti76_ok (tsOk_cons ti77_ok (tsOk_cons ti78_ok (tsOk_cons ti79_ok (tsOk_cons ti80_ok (tsOk_cons ti81_ok (tsOk_cons ti82_ok (tsOk_cons ti83_ok (tsOk_cons ti84_ok (tsOk_cons ti85_ok (tsOk_cons ti86_ok (tsOk_cons ti87_ok (tsOk_cons ti88_ok (tsOk_cons ti89_ok (tsOk_cons ti90_ok (tsOk_cons ti91_ok (tsOk_cons ti92_ok (tsOk_cons ti93_ok (tsOk_cons ti95_ok (tsOk_cons ti96_ok (tsOk_cons ti97_ok (tsOk_cons ti98_ok (tsOk_cons ti99_ok (tsOk_cons ti100_ok (tsOk_cons ti101_ok (tsOk_cons ti103_ok (tsOk_cons ti104_ok (tsOk_cons ti105_ok (tsOk_cons ti106_ok (tsOk_cons ti107_ok (tsOk_cons ti108_ok (tsOk_cons ti110_ok (tsOk_cons ti111_ok (tsOk_cons ti112_ok (tsOk_cons ti113_ok (tsOk_cons ti115_ok (tsOk_cons ti116_ok (tsOk_cons ti117_ok (tsOk_cons ti118_ok (tsOk_cons ti119_ok (tsOk_cons ti120_ok (tsOk_cons ti121_ok (tsOk_cons ti122_ok (tsOk_cons ti123_ok (tsOk_cons ti124_ok (tsOk_cons ti125_ok (tsOk_cons ti127_ok (tsOk_cons ti128_ok (tsOk_cons ti129_ok (tsOk_cons ti130_ok (tsOk_cons ti131_ok (tsOk_cons ti132_ok (tsOk_cons ti133_ok (tsOk_cons ti134_ok (tsOk_cons ti136_ok (tsOk_cons ti137_ok (tsOk_cons ti138_ok (tsOk_cons ti139_ok (tsOk_cons ti140_ok (tsOk_cons ti141_ok (tsOk_cons ti142_ok (tsOk_cons ti148_ok (tsOk_cons ti151_ok (tsOk_cons ti152_ok (tsOk_nil _)))))))))))))))))))))))))))))))))))))))))))))))))))))))))))))))))))))))))))))))))))))))))))))))))))))))))))))))))))))))))
theorem mixedOrders : Tryz.prog.follows .mixedOrders = true := by kernel_rfl
end Go.Proofs.YtahbkllfifmdfaaGreat
