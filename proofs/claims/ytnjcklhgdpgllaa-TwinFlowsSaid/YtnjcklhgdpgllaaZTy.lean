/- Part of the proof, Ty. -/
import Derived.Test.YtnjcklhgdpgllaaZVc11
import Derived.Test.YtnjcklhgdpgllaaProg
set_option linter.all false
set_option linter.unusedSimpArgs false
set_option linter.unusedVariables false
set_option maxRecDepth 100000
namespace Go.Proofs.Ytnjcklhgdpgllaa
open Go Go.RowKit Go.Ql Go.Vc
theorem tsOk_nil (P : Program) : TsOk P [] := fun _ _ h => by simp [lk] at h
theorem tsOk_cons {P : Program} {t : Nat} {ti : TI} {T : Tys} (h : TiOk P t ti) (hT : TsOk P T) : TsOk P ((t, ti) :: T) := by
  intro t' ti' hl
  rw [lk_cons] at hl
  split at hl
  · rename_i e; subst e; cases hl; exact h
  · exact hT t' ti' hl
def ti26 : TI := ⟨[.slice 2 (.int .i64), .slice 32 (.arc)], true, [(0, 1, false), (1, 1, false)], none, none, []⟩
theorem ti26_ok : TiOk Try.prog 26 ti26 := ⟨by kernel_rfl, by kernel_rfl, (fun e rk b h => by cases h), (fun k h => by cases h), by rfl, (.inl rfl), (fun _ => by kernel_rfl), (fun l h => by cases h), (fun l h => by cases h), (fun h => absurd rfl h), (fun kk vk l h => by cases h), (fun l h => by cases h)⟩
theorem eq30 (w : World) : ∀ a b : List Int, a.length = 2 → b.length = 2 → (Op.equal 30 (.agg (mkInts [.i64, .u64] a)) (.agg (mkInts [.i64, .u64] b))).run Try.prog w = .ok (decide (a = b)) w := by
  intro a b ha hb
  match a, b, ha, hb with
  | [a0, a1], [b0, b1], _, _ =>
    show (Op.equalIn 10000 30 _ _).run Try.prog w = _
    by_cases e0 : a0 = b0
    · by_cases e1 : a1 = b1
      · subst e0 e1
        simp [mkInts, go_sem]
      · subst e0; simp [mkInts, go_sem, e1]
    · simp [mkInts, go_sem, e0]
def ti30 : TI := ⟨[.int .i64, .int .u64], true, [(0, 1, false), (1, 1, false)], none, none, [.i64, .u64]⟩
theorem ti30_ok : TiOk Try.prog 30 ti30 := ⟨by kernel_rfl, by kernel_rfl, (fun e rk b h => by cases h), (fun k h => by cases h), by rfl, (.inl rfl), (fun _ => by kernel_rfl), (fun l h => by cases h), (fun l h => by cases h), (fun _ => ⟨by kernel_rfl, fun a b w => eq30 w a b⟩), (fun kk vk l h => by cases h), (fun l h => by cases h)⟩
theorem eq32 (w : World) : ∀ a b : List Int, a.length = 5 → b.length = 5 → (Op.equal 32 (.agg (mkInts [.i64, .i64, .i64, .i64, .i64] a)) (.agg (mkInts [.i64, .i64, .i64, .i64, .i64] b))).run Try.prog w = .ok (decide (a = b)) w := by
  intro a b ha hb
  match a, b, ha, hb with
  | [a0, a1, a2, a3, a4], [b0, b1, b2, b3, b4], _, _ =>
    show (Op.equalIn 10000 32 _ _).run Try.prog w = _
    by_cases e0 : a0 = b0
    · by_cases e1 : a1 = b1
      · by_cases e2 : a2 = b2
        · by_cases e3 : a3 = b3
          · by_cases e4 : a4 = b4
            · subst e0 e1 e2 e3 e4
              simp [mkInts, go_sem]
            · subst e0 e1 e2 e3; simp [mkInts, go_sem, e4]
          · subst e0 e1 e2; simp [mkInts, go_sem, e3]
        · subst e0 e1; simp [mkInts, go_sem, e2]
      · subst e0; simp [mkInts, go_sem, e1]
    · simp [mkInts, go_sem, e0]
def ti32 : TI := ⟨[.int .i64, .int .i64, .int .i64, .int .i64, .int .i64], true, [(0, 1, false), (1, 1, false), (2, 1, false), (3, 1, false), (4, 1, false)], none, none, [.i64, .i64, .i64, .i64, .i64]⟩
theorem ti32_ok : TiOk Try.prog 32 ti32 := ⟨by kernel_rfl, by kernel_rfl, (fun e rk b h => by cases h), (fun k h => by cases h), by rfl, (.inl rfl), (fun _ => by kernel_rfl), (fun l h => by cases h), (fun l h => by cases h), (fun _ => ⟨by kernel_rfl, fun a b w => eq32 w a b⟩), (fun kk vk l h => by cases h), (fun l h => by cases h)⟩
def ti80 : TI := ⟨[.int .i64, .slice 2 (.int .i64), .slice 32 (.arc)], true, [(0, 1, false), (1, 2, true)], none, none, []⟩
theorem ti80_ok : TiOk Try.prog 80 ti80 := ⟨by kernel_rfl, by kernel_rfl, (fun e rk b h => by cases h), (fun k h => by cases h), by rfl, (.inl rfl), (fun _ => by kernel_rfl), (fun l h => by cases h), (fun l h => by cases h), (fun h => absurd rfl h), (fun kk vk l h => by cases h), (fun l h => by cases h)⟩
def ti82 : TI := ⟨[.slice 2 (.int .i64), .slice 32 (.arc), .int .i64, .slice 2 (.int .i64), .slice 32 (.arc), .int .i64, .int .u64, .bool], true, [(0, 2, true), (2, 3, true), (5, 2, true), (7, 1, false)], none, none, []⟩
theorem ti82_ok : TiOk Try.prog 82 ti82 := ⟨by kernel_rfl, by kernel_rfl, (fun e rk b h => by cases h), (fun k h => by cases h), by rfl, (.inl rfl), (fun _ => by kernel_rfl), (fun l h => by cases h), (fun l h => by cases h), (fun h => absurd rfl h), (fun kk vk l h => by cases h), (fun l h => by cases h)⟩
def ti96 : TI := ⟨[.int .i64, .int .i64, .int .i64, .int .i64, .int .i64, .int .i64, .int .i64], true, [(0, 5, true), (5, 1, false), (6, 1, false)], none, none, []⟩
theorem ti96_ok : TiOk Try.prog 96 ti96 := ⟨by kernel_rfl, by kernel_rfl, (fun e rk b h => by cases h), (fun k h => by cases h), by rfl, (.inl rfl), (fun _ => by kernel_rfl), (fun l h => by cases h), (fun l h => by cases h), (fun h => absurd rfl h), (fun kk vk l h => by cases h), (fun l h => by cases h)⟩
def ti107 : TI := ⟨[.slice 30 (.wide), .val (.pointer none)], true, [(0, 1, false), (1, 1, false)], none, none, []⟩
theorem ti107_ok : TiOk Try.prog 107 ti107 := ⟨by kernel_rfl, by kernel_rfl, (fun e rk b h => by cases h), (fun k h => by cases h), by rfl, (.inl rfl), (fun _ => by kernel_rfl), (fun l h => by cases h), (fun l h => by cases h), (fun h => absurd rfl h), (fun kk vk l h => by cases h), (fun l h => by cases h)⟩
theorem eq129 (w : World) : ∀ a b : List Int, a.length = 3 → b.length = 3 → (Op.equal 129 (.agg (mkInts [.i64, .i64, .i64] a)) (.agg (mkInts [.i64, .i64, .i64] b))).run Try.prog w = .ok (decide (a = b)) w := by
  intro a b ha hb
  match a, b, ha, hb with
  | [a0, a1, a2], [b0, b1, b2], _, _ =>
    show (Op.equalIn 10000 129 _ _).run Try.prog w = _
    by_cases e0 : a0 = b0
    · by_cases e1 : a1 = b1
      · by_cases e2 : a2 = b2
        · subst e0 e1 e2
          simp [mkInts, go_sem]
        · subst e0 e1; simp [mkInts, go_sem, e2]
      · subst e0; simp [mkInts, go_sem, e1]
    · simp [mkInts, go_sem, e0]
def ti129 : TI := ⟨[.int .i64, .int .i64, .int .i64], true, [(0, 1, false), (1, 1, false), (2, 1, false)], none, none, [.i64, .i64, .i64]⟩
theorem ti129_ok : TiOk Try.prog 129 ti129 := ⟨by kernel_rfl, by kernel_rfl, (fun e rk b h => by cases h), (fun k h => by cases h), by rfl, (.inl rfl), (fun _ => by kernel_rfl), (fun l h => by cases h), (fun l h => by cases h), (fun _ => ⟨by kernel_rfl, fun a b w => eq129 w a b⟩), (fun kk vk l h => by cases h), (fun l h => by cases h)⟩
def ti134 : TI := ⟨[.int .i64, .bool], true, [(0, 1, false), (1, 1, false)], none, none, []⟩
theorem ti134_ok : TiOk Try.prog 134 ti134 := ⟨by kernel_rfl, by kernel_rfl, (fun e rk b h => by cases h), (fun k h => by cases h), by rfl, (.inl rfl), (fun _ => by kernel_rfl), (fun l h => by cases h), (fun l h => by cases h), (fun h => absurd rfl h), (fun kk vk l h => by cases h), (fun l h => by cases h)⟩
def ti147 : TI := ⟨[.int .i64, .slice 32 (.arc), .slice 3 (.int .i64), .slice 3 (.int .i64)], true, [(0, 1, false), (1, 1, false), (2, 1, false), (3, 1, false)], none, none, []⟩
theorem ti147_ok : TiOk Try.prog 147 ti147 := ⟨by kernel_rfl, by kernel_rfl, (fun e rk b h => by cases h), (fun k h => by cases h), by rfl, (.inl rfl), (fun _ => by kernel_rfl), (fun l h => by cases h), (fun l h => by cases h), (fun h => absurd rfl h), (fun kk vk l h => by cases h), (fun l h => by cases h)⟩
def ti1 : TI := ⟨[.val .nilFunc], false, [], none, none, []⟩
theorem ti1_ok : TiOk Try.prog 1 ti1 := ⟨by kernel_rfl, by kernel_rfl, (fun e rk b h => by cases h), (fun k h => by cases h), by rfl, (.inr rfl), (fun h => by cases h), (fun l h => by cases h), (fun l h => by cases h), (fun h => absurd rfl h), (fun kk vk l h => by cases h), (fun l h => by cases h)⟩
def ti2 : TI := ⟨[.int .i64], false, [], none, some .i64, []⟩
theorem ti2_ok : TiOk Try.prog 2 ti2 := ⟨by kernel_rfl, by kernel_rfl, (fun e rk b h => by cases h), (fun k h => by cases h; exact (by kernel_rfl)), by rfl, (.inr rfl), (fun h => by cases h), (fun l h => by cases h), (fun l h => by cases h), (fun h => absurd rfl h), (fun kk vk l h => by cases h), (fun l h => by cases h)⟩
def ti3 : TI := ⟨[.int .i64], false, [], none, some .i64, []⟩
theorem ti3_ok : TiOk Try.prog 3 ti3 := ⟨by kernel_rfl, by kernel_rfl, (fun e rk b h => by cases h), (fun k h => by cases h; exact (by kernel_rfl)), by rfl, (.inr rfl), (fun h => by cases h), (fun l h => by cases h), (fun l h => by cases h), (fun h => absurd rfl h), (fun kk vk l h => by cases h), (fun l h => by cases h)⟩
def ti4 : TI := ⟨[.bool], false, [], none, none, []⟩
theorem ti4_ok : TiOk Try.prog 4 ti4 := ⟨by kernel_rfl, by kernel_rfl, (fun e rk b h => by cases h), (fun k h => by cases h), by rfl, (.inr rfl), (fun h => by cases h), (fun l _ _ => by kernel_rfl), (fun l h => by cases h), (fun h => absurd rfl h), (fun kk vk l h => by cases h), (fun l h => by cases h)⟩
def ti5 : TI := ⟨[.int .u8], false, [], none, some .u8, []⟩
theorem ti5_ok : TiOk Try.prog 5 ti5 := ⟨by kernel_rfl, by kernel_rfl, (fun e rk b h => by cases h), (fun k h => by cases h; exact (by kernel_rfl)), by rfl, (.inr rfl), (fun h => by cases h), (fun l h => by cases h), (fun l h => by cases h), (fun h => absurd rfl h), (fun kk vk l h => by cases h), (fun l h => by cases h)⟩
def ti15 : TI := ⟨[.val (.pointer none)], false, [], none, none, []⟩
theorem ti15_ok : TiOk Try.prog 15 ti15 := ⟨by kernel_rfl, by kernel_rfl, (fun e rk b h => by cases h), (fun k h => by cases h), by rfl, (.inr rfl), (fun h => by cases h), (fun l h => by cases h), (fun l _ _ => by kernel_rfl), (fun h => absurd rfl h), (fun kk vk l h => by cases h), (fun l h => by cases h)⟩
def ti16 : TI := ⟨[.val (.pointer none)], false, [], none, none, []⟩
theorem ti16_ok : TiOk Try.prog 16 ti16 := ⟨by kernel_rfl, by kernel_rfl, (fun e rk b h => by cases h), (fun k h => by cases h), by rfl, (.inr rfl), (fun h => by cases h), (fun l h => by cases h), (fun l _ _ => by kernel_rfl), (fun h => absurd rfl h), (fun kk vk l h => by cases h), (fun l h => by cases h)⟩
def ti17 : TI := ⟨[.val (.pointer none)], false, [], none, none, []⟩
theorem ti17_ok : TiOk Try.prog 17 ti17 := ⟨by kernel_rfl, by kernel_rfl, (fun e rk b h => by cases h), (fun k h => by cases h), by rfl, (.inr rfl), (fun h => by cases h), (fun l h => by cases h), (fun l _ _ => by kernel_rfl), (fun h => absurd rfl h), (fun kk vk l h => by cases h), (fun l h => by cases h)⟩
def ti20 : TI := ⟨[.val .nilIface], false, [], none, none, []⟩
theorem ti20_ok : TiOk Try.prog 20 ti20 := ⟨by kernel_rfl, by kernel_rfl, (fun e rk b h => by cases h), (fun k h => by cases h), by rfl, (.inr rfl), (fun h => by cases h), (fun l h => by cases h), (fun l h => by cases h), (fun h => absurd rfl h), (fun kk vk l h => by cases h), (fun l _ _ => by kernel_rfl)⟩
def ti21 : TI := ⟨[.int .i32], false, [], none, some .i32, []⟩
theorem ti21_ok : TiOk Try.prog 21 ti21 := ⟨by kernel_rfl, by kernel_rfl, (fun e rk b h => by cases h), (fun k h => by cases h; exact (by kernel_rfl)), by rfl, (.inr rfl), (fun h => by cases h), (fun l h => by cases h), (fun l h => by cases h), (fun h => absurd rfl h), (fun kk vk l h => by cases h), (fun l h => by cases h)⟩
def ti22 : TI := ⟨[.slice 2 (.int .i64)], false, [], some (2, .int .i64, 8), none, []⟩
theorem ti22_ok : TiOk Try.prog 22 ti22 := ⟨by kernel_rfl, by kernel_rfl, (fun e rk b h => by cases h; exact ⟨by kernel_rfl, by kernel_rfl, by decide⟩), (fun k h => by cases h), by rfl, (.inr rfl), (fun h => by cases h), (fun l h => by cases h), (fun l h => by cases h), (fun h => absurd rfl h), (fun kk vk l h => by cases h), (fun l h => by cases h)⟩
def ti23 : TI := ⟨[.slice 5 (.int .u8)], false, [], some (5, .int .u8, 1), none, []⟩
theorem ti23_ok : TiOk Try.prog 23 ti23 := ⟨by kernel_rfl, by kernel_rfl, (fun e rk b h => by cases h; exact ⟨by kernel_rfl, by kernel_rfl, by decide⟩), (fun k h => by cases h), by rfl, (.inr rfl), (fun h => by cases h), (fun l h => by cases h), (fun l h => by cases h), (fun h => absurd rfl h), (fun kk vk l h => by cases h), (fun l h => by cases h)⟩
def ti24 : TI := ⟨[.slice 32 (.arc)], false, [], some (32, .arc, 40), none, []⟩
theorem ti24_ok : TiOk Try.prog 24 ti24 := ⟨by kernel_rfl, by kernel_rfl, (fun e rk b h => by cases h; exact ⟨by kernel_rfl, by kernel_rfl, by decide⟩), (fun k h => by cases h), by rfl, (.inr rfl), (fun h => by cases h), (fun l h => by cases h), (fun l h => by cases h), (fun h => absurd rfl h), (fun kk vk l h => by cases h), (fun l h => by cases h)⟩
def ti27 : TI := ⟨[.val .nilFunc], false, [], none, none, []⟩
theorem ti27_ok : TiOk Try.prog 27 ti27 := ⟨by kernel_rfl, by kernel_rfl, (fun e rk b h => by cases h), (fun k h => by cases h), by rfl, (.inr rfl), (fun h => by cases h), (fun l h => by cases h), (fun l h => by cases h), (fun h => absurd rfl h), (fun kk vk l h => by cases h), (fun l h => by cases h)⟩
def ti28 : TI := ⟨[.int .u64], false, [], none, some .u64, []⟩
theorem ti28_ok : TiOk Try.prog 28 ti28 := ⟨by kernel_rfl, by kernel_rfl, (fun e rk b h => by cases h), (fun k h => by cases h; exact (by kernel_rfl)), by rfl, (.inr rfl), (fun h => by cases h), (fun l h => by cases h), (fun l h => by cases h), (fun h => absurd rfl h), (fun kk vk l h => by cases h), (fun l h => by cases h)⟩
def ti33 : TI := ⟨[.val .nilFunc], false, [], none, none, []⟩
theorem ti33_ok : TiOk Try.prog 33 ti33 := ⟨by kernel_rfl, by kernel_rfl, (fun e rk b h => by cases h), (fun k h => by cases h), by rfl, (.inr rfl), (fun h => by cases h), (fun l h => by cases h), (fun l h => by cases h), (fun h => absurd rfl h), (fun kk vk l h => by cases h), (fun l h => by cases h)⟩
def ti34 : TI := ⟨[.val .nilFunc], false, [], none, none, []⟩
theorem ti34_ok : TiOk Try.prog 34 ti34 := ⟨by kernel_rfl, by kernel_rfl, (fun e rk b h => by cases h), (fun k h => by cases h), by rfl, (.inr rfl), (fun h => by cases h), (fun l h => by cases h), (fun l h => by cases h), (fun h => absurd rfl h), (fun kk vk l h => by cases h), (fun l h => by cases h)⟩
def ti35 : TI := ⟨[.val .nilFunc], false, [], none, none, []⟩
theorem ti35_ok : TiOk Try.prog 35 ti35 := ⟨by kernel_rfl, by kernel_rfl, (fun e rk b h => by cases h), (fun k h => by cases h), by rfl, (.inr rfl), (fun h => by cases h), (fun l h => by cases h), (fun l h => by cases h), (fun h => absurd rfl h), (fun kk vk l h => by cases h), (fun l h => by cases h)⟩
def ti36 : TI := ⟨[.val .nilFunc], false, [], none, none, []⟩
theorem ti36_ok : TiOk Try.prog 36 ti36 := ⟨by kernel_rfl, by kernel_rfl, (fun e rk b h => by cases h), (fun k h => by cases h), by rfl, (.inr rfl), (fun h => by cases h), (fun l h => by cases h), (fun l h => by cases h), (fun h => absurd rfl h), (fun kk vk l h => by cases h), (fun l h => by cases h)⟩
def ti37 : TI := ⟨[.val .nilFunc], false, [], none, none, []⟩
theorem ti37_ok : TiOk Try.prog 37 ti37 := ⟨by kernel_rfl, by kernel_rfl, (fun e rk b h => by cases h), (fun k h => by cases h), by rfl, (.inr rfl), (fun h => by cases h), (fun l h => by cases h), (fun l h => by cases h), (fun h => absurd rfl h), (fun kk vk l h => by cases h), (fun l h => by cases h)⟩
def ti38 : TI := ⟨[.val .nilFunc], false, [], none, none, []⟩
theorem ti38_ok : TiOk Try.prog 38 ti38 := ⟨by kernel_rfl, by kernel_rfl, (fun e rk b h => by cases h), (fun k h => by cases h), by rfl, (.inr rfl), (fun h => by cases h), (fun l h => by cases h), (fun l h => by cases h), (fun h => absurd rfl h), (fun kk vk l h => by cases h), (fun l h => by cases h)⟩
def ti39 : TI := ⟨[.val .nilFunc], false, [], none, none, []⟩
theorem ti39_ok : TiOk Try.prog 39 ti39 := ⟨by kernel_rfl, by kernel_rfl, (fun e rk b h => by cases h), (fun k h => by cases h), by rfl, (.inr rfl), (fun h => by cases h), (fun l h => by cases h), (fun l h => by cases h), (fun h => absurd rfl h), (fun kk vk l h => by cases h), (fun l h => by cases h)⟩
def ti40 : TI := ⟨[.val .nilFunc], false, [], none, none, []⟩
theorem ti40_ok : TiOk Try.prog 40 ti40 := ⟨by kernel_rfl, by kernel_rfl, (fun e rk b h => by cases h), (fun k h => by cases h), by rfl, (.inr rfl), (fun h => by cases h), (fun l h => by cases h), (fun l h => by cases h), (fun h => absurd rfl h), (fun kk vk l h => by cases h), (fun l h => by cases h)⟩
def ti41 : TI := ⟨[.val .nilFunc], false, [], none, none, []⟩
theorem ti41_ok : TiOk Try.prog 41 ti41 := ⟨by kernel_rfl, by kernel_rfl, (fun e rk b h => by cases h), (fun k h => by cases h), by rfl, (.inr rfl), (fun h => by cases h), (fun l h => by cases h), (fun l h => by cases h), (fun h => absurd rfl h), (fun kk vk l h => by cases h), (fun l h => by cases h)⟩
def ti42 : TI := ⟨[.val .nilFunc], false, [], none, none, []⟩
theorem ti42_ok : TiOk Try.prog 42 ti42 := ⟨by kernel_rfl, by kernel_rfl, (fun e rk b h => by cases h), (fun k h => by cases h), by rfl, (.inr rfl), (fun h => by cases h), (fun l h => by cases h), (fun l h => by cases h), (fun h => absurd rfl h), (fun kk vk l h => by cases h), (fun l h => by cases h)⟩
def ti43 : TI := ⟨[.slice 30 (.wide)], false, [], some (30, .wide, 16), none, []⟩
theorem ti43_ok : TiOk Try.prog 43 ti43 := ⟨by kernel_rfl, by kernel_rfl, (fun e rk b h => by cases h; exact ⟨by kernel_rfl, by kernel_rfl, by decide⟩), (fun k h => by cases h), by rfl, (.inr rfl), (fun h => by cases h), (fun l h => by cases h), (fun l h => by cases h), (fun h => absurd rfl h), (fun kk vk l h => by cases h), (fun l h => by cases h)⟩
def ti44 : TI := ⟨[.val .nilFunc], false, [], none, none, []⟩
theorem ti44_ok : TiOk Try.prog 44 ti44 := ⟨by kernel_rfl, by kernel_rfl, (fun e rk b h => by cases h), (fun k h => by cases h), by rfl, (.inr rfl), (fun h => by cases h), (fun l h => by cases h), (fun l h => by cases h), (fun h => absurd rfl h), (fun kk vk l h => by cases h), (fun l h => by cases h)⟩
def ti46 : TI := ⟨[.val .nilFunc], false, [], none, none, []⟩
theorem ti46_ok : TiOk Try.prog 46 ti46 := ⟨by kernel_rfl, by kernel_rfl, (fun e rk b h => by cases h), (fun k h => by cases h), by rfl, (.inr rfl), (fun h => by cases h), (fun l h => by cases h), (fun l h => by cases h), (fun h => absurd rfl h), (fun kk vk l h => by cases h), (fun l h => by cases h)⟩
def ti47 : TI := ⟨[.int .u16], false, [], none, some .u16, []⟩
theorem ti47_ok : TiOk Try.prog 47 ti47 := ⟨by kernel_rfl, by kernel_rfl, (fun e rk b h => by cases h), (fun k h => by cases h; exact (by kernel_rfl)), by rfl, (.inr rfl), (fun h => by cases h), (fun l h => by cases h), (fun l h => by cases h), (fun h => absurd rfl h), (fun kk vk l h => by cases h), (fun l h => by cases h)⟩
def ti48 : TI := ⟨[.int .u16], false, [], none, some .u16, []⟩
theorem ti48_ok : TiOk Try.prog 48 ti48 := ⟨by kernel_rfl, by kernel_rfl, (fun e rk b h => by cases h), (fun k h => by cases h; exact (by kernel_rfl)), by rfl, (.inr rfl), (fun h => by cases h), (fun l h => by cases h), (fun l h => by cases h), (fun h => absurd rfl h), (fun kk vk l h => by cases h), (fun l h => by cases h)⟩
def ti49 : TI := ⟨[.val .nilFunc], false, [], none, none, []⟩
theorem ti49_ok : TiOk Try.prog 49 ti49 := ⟨by kernel_rfl, by kernel_rfl, (fun e rk b h => by cases h), (fun k h => by cases h), by rfl, (.inr rfl), (fun h => by cases h), (fun l h => by cases h), (fun l h => by cases h), (fun h => absurd rfl h), (fun kk vk l h => by cases h), (fun l h => by cases h)⟩
def ti50 : TI := ⟨[.val .nilFunc], false, [], none, none, []⟩
theorem ti50_ok : TiOk Try.prog 50 ti50 := ⟨by kernel_rfl, by kernel_rfl, (fun e rk b h => by cases h), (fun k h => by cases h), by rfl, (.inr rfl), (fun h => by cases h), (fun l h => by cases h), (fun l h => by cases h), (fun h => absurd rfl h), (fun kk vk l h => by cases h), (fun l h => by cases h)⟩
def ti51 : TI := ⟨[.val .nilFunc], false, [], none, none, []⟩
theorem ti51_ok : TiOk Try.prog 51 ti51 := ⟨by kernel_rfl, by kernel_rfl, (fun e rk b h => by cases h), (fun k h => by cases h), by rfl, (.inr rfl), (fun h => by cases h), (fun l h => by cases h), (fun l h => by cases h), (fun h => absurd rfl h), (fun kk vk l h => by cases h), (fun l h => by cases h)⟩
def ti52 : TI := ⟨[.val .nilFunc], false, [], none, none, []⟩
theorem ti52_ok : TiOk Try.prog 52 ti52 := ⟨by kernel_rfl, by kernel_rfl, (fun e rk b h => by cases h), (fun k h => by cases h), by rfl, (.inr rfl), (fun h => by cases h), (fun l h => by cases h), (fun l h => by cases h), (fun h => absurd rfl h), (fun kk vk l h => by cases h), (fun l h => by cases h)⟩
def ti53 : TI := ⟨[.val .nilFunc], false, [], none, none, []⟩
theorem ti53_ok : TiOk Try.prog 53 ti53 := ⟨by kernel_rfl, by kernel_rfl, (fun e rk b h => by cases h), (fun k h => by cases h), by rfl, (.inr rfl), (fun h => by cases h), (fun l h => by cases h), (fun l h => by cases h), (fun h => absurd rfl h), (fun kk vk l h => by cases h), (fun l h => by cases h)⟩
def ti55 : TI := ⟨[.val .nilFunc], false, [], none, none, []⟩
theorem ti55_ok : TiOk Try.prog 55 ti55 := ⟨by kernel_rfl, by kernel_rfl, (fun e rk b h => by cases h), (fun k h => by cases h), by rfl, (.inr rfl), (fun h => by cases h), (fun l h => by cases h), (fun l h => by cases h), (fun h => absurd rfl h), (fun kk vk l h => by cases h), (fun l h => by cases h)⟩
def ti56 : TI := ⟨[.val .nilFunc], false, [], none, none, []⟩
theorem ti56_ok : TiOk Try.prog 56 ti56 := ⟨by kernel_rfl, by kernel_rfl, (fun e rk b h => by cases h), (fun k h => by cases h), by rfl, (.inr rfl), (fun h => by cases h), (fun l h => by cases h), (fun l h => by cases h), (fun h => absurd rfl h), (fun kk vk l h => by cases h), (fun l h => by cases h)⟩
def ti57 : TI := ⟨[.val .nilFunc], false, [], none, none, []⟩
theorem ti57_ok : TiOk Try.prog 57 ti57 := ⟨by kernel_rfl, by kernel_rfl, (fun e rk b h => by cases h), (fun k h => by cases h), by rfl, (.inr rfl), (fun h => by cases h), (fun l h => by cases h), (fun l h => by cases h), (fun h => absurd rfl h), (fun kk vk l h => by cases h), (fun l h => by cases h)⟩
def ti58 : TI := ⟨[.val .nilFunc], false, [], none, none, []⟩
theorem ti58_ok : TiOk Try.prog 58 ti58 := ⟨by kernel_rfl, by kernel_rfl, (fun e rk b h => by cases h), (fun k h => by cases h), by rfl, (.inr rfl), (fun h => by cases h), (fun l h => by cases h), (fun l h => by cases h), (fun h => absurd rfl h), (fun kk vk l h => by cases h), (fun l h => by cases h)⟩
def ti60 : TI := ⟨[.val .nilFunc], false, [], none, none, []⟩
theorem ti60_ok : TiOk Try.prog 60 ti60 := ⟨by kernel_rfl, by kernel_rfl, (fun e rk b h => by cases h), (fun k h => by cases h), by rfl, (.inr rfl), (fun h => by cases h), (fun l h => by cases h), (fun l h => by cases h), (fun h => absurd rfl h), (fun kk vk l h => by cases h), (fun l h => by cases h)⟩
def ti61 : TI := ⟨[.val .nilFunc], false, [], none, none, []⟩
theorem ti61_ok : TiOk Try.prog 61 ti61 := ⟨by kernel_rfl, by kernel_rfl, (fun e rk b h => by cases h), (fun k h => by cases h), by rfl, (.inr rfl), (fun h => by cases h), (fun l h => by cases h), (fun l h => by cases h), (fun h => absurd rfl h), (fun kk vk l h => by cases h), (fun l h => by cases h)⟩
def ti62 : TI := ⟨[.slice 3 (.int .i64)], false, [], some (3, .int .i64, 8), none, []⟩
theorem ti62_ok : TiOk Try.prog 62 ti62 := ⟨by kernel_rfl, by kernel_rfl, (fun e rk b h => by cases h; exact ⟨by kernel_rfl, by kernel_rfl, by decide⟩), (fun k h => by cases h), by rfl, (.inr rfl), (fun h => by cases h), (fun l h => by cases h), (fun l h => by cases h), (fun h => absurd rfl h), (fun kk vk l h => by cases h), (fun l h => by cases h)⟩
def ti64 : TI := ⟨[.val .nilFunc], false, [], none, none, []⟩
theorem ti64_ok : TiOk Try.prog 64 ti64 := ⟨by kernel_rfl, by kernel_rfl, (fun e rk b h => by cases h), (fun k h => by cases h), by rfl, (.inr rfl), (fun h => by cases h), (fun l h => by cases h), (fun l h => by cases h), (fun h => absurd rfl h), (fun kk vk l h => by cases h), (fun l h => by cases h)⟩
def ti65 : TI := ⟨[.val .nilFunc], false, [], none, none, []⟩
theorem ti65_ok : TiOk Try.prog 65 ti65 := ⟨by kernel_rfl, by kernel_rfl, (fun e rk b h => by cases h), (fun k h => by cases h), by rfl, (.inr rfl), (fun h => by cases h), (fun l h => by cases h), (fun l h => by cases h), (fun h => absurd rfl h), (fun kk vk l h => by cases h), (fun l h => by cases h)⟩
def ti66 : TI := ⟨[.val .nilFunc], false, [], none, none, []⟩
theorem ti66_ok : TiOk Try.prog 66 ti66 := ⟨by kernel_rfl, by kernel_rfl, (fun e rk b h => by cases h), (fun k h => by cases h), by rfl, (.inr rfl), (fun h => by cases h), (fun l h => by cases h), (fun l h => by cases h), (fun h => absurd rfl h), (fun kk vk l h => by cases h), (fun l h => by cases h)⟩
def ti67 : TI := ⟨[.val .nilFunc], false, [], none, none, []⟩
theorem ti67_ok : TiOk Try.prog 67 ti67 := ⟨by kernel_rfl, by kernel_rfl, (fun e rk b h => by cases h), (fun k h => by cases h), by rfl, (.inr rfl), (fun h => by cases h), (fun l h => by cases h), (fun l h => by cases h), (fun h => absurd rfl h), (fun kk vk l h => by cases h), (fun l h => by cases h)⟩
def ti68 : TI := ⟨[.val .nilFunc], false, [], none, none, []⟩
theorem ti68_ok : TiOk Try.prog 68 ti68 := ⟨by kernel_rfl, by kernel_rfl, (fun e rk b h => by cases h), (fun k h => by cases h), by rfl, (.inr rfl), (fun h => by cases h), (fun l h => by cases h), (fun l h => by cases h), (fun h => absurd rfl h), (fun kk vk l h => by cases h), (fun l h => by cases h)⟩
def ti69 : TI := ⟨[.val .nilFunc], false, [], none, none, []⟩
theorem ti69_ok : TiOk Try.prog 69 ti69 := ⟨by kernel_rfl, by kernel_rfl, (fun e rk b h => by cases h), (fun k h => by cases h), by rfl, (.inr rfl), (fun h => by cases h), (fun l h => by cases h), (fun l h => by cases h), (fun h => absurd rfl h), (fun kk vk l h => by cases h), (fun l h => by cases h)⟩
def ti70 : TI := ⟨[.val .nilFunc], false, [], none, none, []⟩
theorem ti70_ok : TiOk Try.prog 70 ti70 := ⟨by kernel_rfl, by kernel_rfl, (fun e rk b h => by cases h), (fun k h => by cases h), by rfl, (.inr rfl), (fun h => by cases h), (fun l h => by cases h), (fun l h => by cases h), (fun h => absurd rfl h), (fun kk vk l h => by cases h), (fun l h => by cases h)⟩
def ti71 : TI := ⟨[.val .nilFunc], false, [], none, none, []⟩
theorem ti71_ok : TiOk Try.prog 71 ti71 := ⟨by kernel_rfl, by kernel_rfl, (fun e rk b h => by cases h), (fun k h => by cases h), by rfl, (.inr rfl), (fun h => by cases h), (fun l h => by cases h), (fun l h => by cases h), (fun h => absurd rfl h), (fun kk vk l h => by cases h), (fun l h => by cases h)⟩
def ti72 : TI := ⟨[.int .i8], false, [], none, some .i8, []⟩
theorem ti72_ok : TiOk Try.prog 72 ti72 := ⟨by kernel_rfl, by kernel_rfl, (fun e rk b h => by cases h), (fun k h => by cases h; exact (by kernel_rfl)), by rfl, (.inr rfl), (fun h => by cases h), (fun l h => by cases h), (fun l h => by cases h), (fun h => absurd rfl h), (fun kk vk l h => by cases h), (fun l h => by cases h)⟩
def ti73 : TI := ⟨[.val .nilFunc], false, [], none, none, []⟩
theorem ti73_ok : TiOk Try.prog 73 ti73 := ⟨by kernel_rfl, by kernel_rfl, (fun e rk b h => by cases h), (fun k h => by cases h), by rfl, (.inr rfl), (fun h => by cases h), (fun l h => by cases h), (fun l h => by cases h), (fun h => absurd rfl h), (fun kk vk l h => by cases h), (fun l h => by cases h)⟩
def ti74 : TI := ⟨[.val .nilFunc], false, [], none, none, []⟩
theorem ti74_ok : TiOk Try.prog 74 ti74 := ⟨by kernel_rfl, by kernel_rfl, (fun e rk b h => by cases h), (fun k h => by cases h), by rfl, (.inr rfl), (fun h => by cases h), (fun l h => by cases h), (fun l h => by cases h), (fun h => absurd rfl h), (fun kk vk l h => by cases h), (fun l h => by cases h)⟩
def ti75 : TI := ⟨[.slice 62 (.slice 3 (.int .i64))], false, [], some (62, .slice 3 (.int .i64), 24), none, []⟩
theorem ti75_ok : TiOk Try.prog 75 ti75 := ⟨by kernel_rfl, by kernel_rfl, (fun e rk b h => by cases h; exact ⟨by kernel_rfl, by kernel_rfl, by decide⟩), (fun k h => by cases h), by rfl, (.inr rfl), (fun h => by cases h), (fun l h => by cases h), (fun l h => by cases h), (fun h => absurd rfl h), (fun kk vk l h => by cases h), (fun l h => by cases h)⟩
def ti76 : TI := ⟨[.val .nilFunc], false, [], none, none, []⟩
theorem ti76_ok : TiOk Try.prog 76 ti76 := ⟨by kernel_rfl, by kernel_rfl, (fun e rk b h => by cases h), (fun k h => by cases h), by rfl, (.inr rfl), (fun h => by cases h), (fun l h => by cases h), (fun l h => by cases h), (fun h => absurd rfl h), (fun kk vk l h => by cases h), (fun l h => by cases h)⟩
def ti77 : TI := ⟨[.val .nilFunc], false, [], none, none, []⟩
theorem ti77_ok : TiOk Try.prog 77 ti77 := ⟨by kernel_rfl, by kernel_rfl, (fun e rk b h => by cases h), (fun k h => by cases h), by rfl, (.inr rfl), (fun h => by cases h), (fun l h => by cases h), (fun l h => by cases h), (fun h => absurd rfl h), (fun kk vk l h => by cases h), (fun l h => by cases h)⟩
def ti78 : TI := ⟨[.val .nilFunc], false, [], none, none, []⟩
theorem ti78_ok : TiOk Try.prog 78 ti78 := ⟨by kernel_rfl, by kernel_rfl, (fun e rk b h => by cases h), (fun k h => by cases h), by rfl, (.inr rfl), (fun h => by cases h), (fun l h => by cases h), (fun l h => by cases h), (fun h => absurd rfl h), (fun kk vk l h => by cases h), (fun l h => by cases h)⟩
def ti84 : TI := ⟨[.val .nilFunc], false, [], none, none, []⟩
theorem ti84_ok : TiOk Try.prog 84 ti84 := ⟨by kernel_rfl, by kernel_rfl, (fun e rk b h => by cases h), (fun k h => by cases h), by rfl, (.inr rfl), (fun h => by cases h), (fun l h => by cases h), (fun l h => by cases h), (fun h => absurd rfl h), (fun kk vk l h => by cases h), (fun l h => by cases h)⟩
def ti85 : TI := ⟨[.val .nilFunc], false, [], none, none, []⟩
theorem ti85_ok : TiOk Try.prog 85 ti85 := ⟨by kernel_rfl, by kernel_rfl, (fun e rk b h => by cases h), (fun k h => by cases h), by rfl, (.inr rfl), (fun h => by cases h), (fun l h => by cases h), (fun l h => by cases h), (fun h => absurd rfl h), (fun kk vk l h => by cases h), (fun l h => by cases h)⟩
def ti86 : TI := ⟨[.val .nilFunc], false, [], none, none, []⟩
theorem ti86_ok : TiOk Try.prog 86 ti86 := ⟨by kernel_rfl, by kernel_rfl, (fun e rk b h => by cases h), (fun k h => by cases h), by rfl, (.inr rfl), (fun h => by cases h), (fun l h => by cases h), (fun l h => by cases h), (fun h => absurd rfl h), (fun kk vk l h => by cases h), (fun l h => by cases h)⟩
def ti87 : TI := ⟨[.slice 4 (.bool)], false, [], some (4, .bool, 1), none, []⟩
theorem ti87_ok : TiOk Try.prog 87 ti87 := ⟨by kernel_rfl, by kernel_rfl, (fun e rk b h => by cases h; exact ⟨by kernel_rfl, by kernel_rfl, by decide⟩), (fun k h => by cases h), by rfl, (.inr rfl), (fun h => by cases h), (fun l h => by cases h), (fun l h => by cases h), (fun h => absurd rfl h), (fun kk vk l h => by cases h), (fun l h => by cases h)⟩
def ti88 : TI := ⟨[.val .nilFunc], false, [], none, none, []⟩
theorem ti88_ok : TiOk Try.prog 88 ti88 := ⟨by kernel_rfl, by kernel_rfl, (fun e rk b h => by cases h), (fun k h => by cases h), by rfl, (.inr rfl), (fun h => by cases h), (fun l h => by cases h), (fun l h => by cases h), (fun h => absurd rfl h), (fun kk vk l h => by cases h), (fun l h => by cases h)⟩
def ti89 : TI := ⟨[.val .nilFunc], false, [], none, none, []⟩
theorem ti89_ok : TiOk Try.prog 89 ti89 := ⟨by kernel_rfl, by kernel_rfl, (fun e rk b h => by cases h), (fun k h => by cases h), by rfl, (.inr rfl), (fun h => by cases h), (fun l h => by cases h), (fun l h => by cases h), (fun h => absurd rfl h), (fun kk vk l h => by cases h), (fun l h => by cases h)⟩
def ti90 : TI := ⟨[.val .nilFunc], false, [], none, none, []⟩
theorem ti90_ok : TiOk Try.prog 90 ti90 := ⟨by kernel_rfl, by kernel_rfl, (fun e rk b h => by cases h), (fun k h => by cases h), by rfl, (.inr rfl), (fun h => by cases h), (fun l h => by cases h), (fun l h => by cases h), (fun h => absurd rfl h), (fun kk vk l h => by cases h), (fun l h => by cases h)⟩
def ti91 : TI := ⟨[.val .nilFunc], false, [], none, none, []⟩
theorem ti91_ok : TiOk Try.prog 91 ti91 := ⟨by kernel_rfl, by kernel_rfl, (fun e rk b h => by cases h), (fun k h => by cases h), by rfl, (.inr rfl), (fun h => by cases h), (fun l h => by cases h), (fun l h => by cases h), (fun h => absurd rfl h), (fun kk vk l h => by cases h), (fun l h => by cases h)⟩
def ti93 : TI := ⟨[.val .nilFunc], false, [], none, none, []⟩
theorem ti93_ok : TiOk Try.prog 93 ti93 := ⟨by kernel_rfl, by kernel_rfl, (fun e rk b h => by cases h), (fun k h => by cases h), by rfl, (.inr rfl), (fun h => by cases h), (fun l h => by cases h), (fun l h => by cases h), (fun h => absurd rfl h), (fun kk vk l h => by cases h), (fun l h => by cases h)⟩
def ti94 : TI := ⟨[.int .u64], false, [], none, some .u64, []⟩
theorem ti94_ok : TiOk Try.prog 94 ti94 := ⟨by kernel_rfl, by kernel_rfl, (fun e rk b h => by cases h), (fun k h => by cases h; exact (by kernel_rfl)), by rfl, (.inr rfl), (fun h => by cases h), (fun l h => by cases h), (fun l h => by cases h), (fun h => absurd rfl h), (fun kk vk l h => by cases h), (fun l h => by cases h)⟩
def ti98 : TI := ⟨[.val .nilFunc], false, [], none, none, []⟩
theorem ti98_ok : TiOk Try.prog 98 ti98 := ⟨by kernel_rfl, by kernel_rfl, (fun e rk b h => by cases h), (fun k h => by cases h), by rfl, (.inr rfl), (fun h => by cases h), (fun l h => by cases h), (fun l h => by cases h), (fun h => absurd rfl h), (fun kk vk l h => by cases h), (fun l h => by cases h)⟩
def ti99 : TI := ⟨[.val .nilFunc], false, [], none, none, []⟩
theorem ti99_ok : TiOk Try.prog 99 ti99 := ⟨by kernel_rfl, by kernel_rfl, (fun e rk b h => by cases h), (fun k h => by cases h), by rfl, (.inr rfl), (fun h => by cases h), (fun l h => by cases h), (fun l h => by cases h), (fun h => absurd rfl h), (fun kk vk l h => by cases h), (fun l h => by cases h)⟩
def ti100 : TI := ⟨[.val .nilFunc], false, [], none, none, []⟩
theorem ti100_ok : TiOk Try.prog 100 ti100 := ⟨by kernel_rfl, by kernel_rfl, (fun e rk b h => by cases h), (fun k h => by cases h), by rfl, (.inr rfl), (fun h => by cases h), (fun l h => by cases h), (fun l h => by cases h), (fun h => absurd rfl h), (fun kk vk l h => by cases h), (fun l h => by cases h)⟩
def ti101 : TI := ⟨[.val .nilFunc], false, [], none, none, []⟩
theorem ti101_ok : TiOk Try.prog 101 ti101 := ⟨by kernel_rfl, by kernel_rfl, (fun e rk b h => by cases h), (fun k h => by cases h), by rfl, (.inr rfl), (fun h => by cases h), (fun l h => by cases h), (fun l h => by cases h), (fun h => absurd rfl h), (fun kk vk l h => by cases h), (fun l h => by cases h)⟩
def ti102 : TI := ⟨[.val .nilFunc], false, [], none, none, []⟩
theorem ti102_ok : TiOk Try.prog 102 ti102 := ⟨by kernel_rfl, by kernel_rfl, (fun e rk b h => by cases h), (fun k h => by cases h), by rfl, (.inr rfl), (fun h => by cases h), (fun l h => by cases h), (fun l h => by cases h), (fun h => absurd rfl h), (fun kk vk l h => by cases h), (fun l h => by cases h)⟩
def ti103 : TI := ⟨[.slice 30 (.wide)], false, [], some (30, .wide, 16), none, []⟩
theorem ti103_ok : TiOk Try.prog 103 ti103 := ⟨by kernel_rfl, by kernel_rfl, (fun e rk b h => by cases h; exact ⟨by kernel_rfl, by kernel_rfl, by decide⟩), (fun k h => by cases h), by rfl, (.inr rfl), (fun h => by cases h), (fun l h => by cases h), (fun l h => by cases h), (fun h => absurd rfl h), (fun kk vk l h => by cases h), (fun l h => by cases h)⟩
def ti104 : TI := ⟨[.val (.pointer none)], false, [], none, none, []⟩
theorem ti104_ok : TiOk Try.prog 104 ti104 := ⟨by kernel_rfl, by kernel_rfl, (fun e rk b h => by cases h), (fun k h => by cases h), by rfl, (.inr rfl), (fun h => by cases h), (fun l h => by cases h), (fun l _ _ => by kernel_rfl), (fun h => absurd rfl h), (fun kk vk l h => by cases h), (fun l h => by cases h)⟩
def ti105 : TI := ⟨[.val .nilFunc], false, [], none, none, []⟩
theorem ti105_ok : TiOk Try.prog 105 ti105 := ⟨by kernel_rfl, by kernel_rfl, (fun e rk b h => by cases h), (fun k h => by cases h), by rfl, (.inr rfl), (fun h => by cases h), (fun l h => by cases h), (fun l h => by cases h), (fun h => absurd rfl h), (fun kk vk l h => by cases h), (fun l h => by cases h)⟩
def ti108 : TI := ⟨[.val .nilFunc], false, [], none, none, []⟩
theorem ti108_ok : TiOk Try.prog 108 ti108 := ⟨by kernel_rfl, by kernel_rfl, (fun e rk b h => by cases h), (fun k h => by cases h), by rfl, (.inr rfl), (fun h => by cases h), (fun l h => by cases h), (fun l h => by cases h), (fun h => absurd rfl h), (fun kk vk l h => by cases h), (fun l h => by cases h)⟩
def ti109 : TI := ⟨[.val .nilFunc], false, [], none, none, []⟩
theorem ti109_ok : TiOk Try.prog 109 ti109 := ⟨by kernel_rfl, by kernel_rfl, (fun e rk b h => by cases h), (fun k h => by cases h), by rfl, (.inr rfl), (fun h => by cases h), (fun l h => by cases h), (fun l h => by cases h), (fun h => absurd rfl h), (fun kk vk l h => by cases h), (fun l h => by cases h)⟩
def ti110 : TI := ⟨[.val .nilFunc], false, [], none, none, []⟩
theorem ti110_ok : TiOk Try.prog 110 ti110 := ⟨by kernel_rfl, by kernel_rfl, (fun e rk b h => by cases h), (fun k h => by cases h), by rfl, (.inr rfl), (fun h => by cases h), (fun l h => by cases h), (fun l h => by cases h), (fun h => absurd rfl h), (fun kk vk l h => by cases h), (fun l h => by cases h)⟩
def ti111 : TI := ⟨[.val .nilFunc], false, [], none, none, []⟩
theorem ti111_ok : TiOk Try.prog 111 ti111 := ⟨by kernel_rfl, by kernel_rfl, (fun e rk b h => by cases h), (fun k h => by cases h), by rfl, (.inr rfl), (fun h => by cases h), (fun l h => by cases h), (fun l h => by cases h), (fun h => absurd rfl h), (fun kk vk l h => by cases h), (fun l h => by cases h)⟩
def ti112 : TI := ⟨[.val .nilFunc], false, [], none, none, []⟩
theorem ti112_ok : TiOk Try.prog 112 ti112 := ⟨by kernel_rfl, by kernel_rfl, (fun e rk b h => by cases h), (fun k h => by cases h), by rfl, (.inr rfl), (fun h => by cases h), (fun l h => by cases h), (fun l h => by cases h), (fun h => absurd rfl h), (fun kk vk l h => by cases h), (fun l h => by cases h)⟩
def ti113 : TI := ⟨[.val .nilFunc], false, [], none, none, []⟩
theorem ti113_ok : TiOk Try.prog 113 ti113 := ⟨by kernel_rfl, by kernel_rfl, (fun e rk b h => by cases h), (fun k h => by cases h), by rfl, (.inr rfl), (fun h => by cases h), (fun l h => by cases h), (fun l h => by cases h), (fun h => absurd rfl h), (fun kk vk l h => by cases h), (fun l h => by cases h)⟩
def ti114 : TI := ⟨[.val .nilFunc], false, [], none, none, []⟩
theorem ti114_ok : TiOk Try.prog 114 ti114 := ⟨by kernel_rfl, by kernel_rfl, (fun e rk b h => by cases h), (fun k h => by cases h), by rfl, (.inr rfl), (fun h => by cases h), (fun l h => by cases h), (fun l h => by cases h), (fun h => absurd rfl h), (fun kk vk l h => by cases h), (fun l h => by cases h)⟩
def ti115 : TI := ⟨[.val .nilFunc], false, [], none, none, []⟩
theorem ti115_ok : TiOk Try.prog 115 ti115 := ⟨by kernel_rfl, by kernel_rfl, (fun e rk b h => by cases h), (fun k h => by cases h), by rfl, (.inr rfl), (fun h => by cases h), (fun l h => by cases h), (fun l h => by cases h), (fun h => absurd rfl h), (fun kk vk l h => by cases h), (fun l h => by cases h)⟩
def ti116 : TI := ⟨[.val .nilFunc], false, [], none, none, []⟩
theorem ti116_ok : TiOk Try.prog 116 ti116 := ⟨by kernel_rfl, by kernel_rfl, (fun e rk b h => by cases h), (fun k h => by cases h), by rfl, (.inr rfl), (fun h => by cases h), (fun l h => by cases h), (fun l h => by cases h), (fun h => absurd rfl h), (fun kk vk l h => by cases h), (fun l h => by cases h)⟩
def ti117 : TI := ⟨[.val .nilFunc], false, [], none, none, []⟩
theorem ti117_ok : TiOk Try.prog 117 ti117 := ⟨by kernel_rfl, by kernel_rfl, (fun e rk b h => by cases h), (fun k h => by cases h), by rfl, (.inr rfl), (fun h => by cases h), (fun l h => by cases h), (fun l h => by cases h), (fun h => absurd rfl h), (fun kk vk l h => by cases h), (fun l h => by cases h)⟩
def ti118 : TI := ⟨[.slice 27 .fn], false, [], some (27, .fn, 8), none, []⟩
theorem ti118_ok : TiOk Try.prog 118 ti118 := ⟨by kernel_rfl, by kernel_rfl, (fun e rk b h => by cases h; exact ⟨by kernel_rfl, by kernel_rfl, by decide⟩), (fun k h => by cases h), by rfl, (.inr rfl), (fun h => by cases h), (fun l h => by cases h), (fun l h => by cases h), (fun h => absurd rfl h), (fun kk vk l h => by cases h), (fun l h => by cases h)⟩
def ti119 : TI := ⟨[.val .nilFunc], false, [], none, none, []⟩
theorem ti119_ok : TiOk Try.prog 119 ti119 := ⟨by kernel_rfl, by kernel_rfl, (fun e rk b h => by cases h), (fun k h => by cases h), by rfl, (.inr rfl), (fun h => by cases h), (fun l h => by cases h), (fun l h => by cases h), (fun h => absurd rfl h), (fun kk vk l h => by cases h), (fun l h => by cases h)⟩
def ti120 : TI := ⟨[.val .nilFunc], false, [], none, none, []⟩
theorem ti120_ok : TiOk Try.prog 120 ti120 := ⟨by kernel_rfl, by kernel_rfl, (fun e rk b h => by cases h), (fun k h => by cases h), by rfl, (.inr rfl), (fun h => by cases h), (fun l h => by cases h), (fun l h => by cases h), (fun h => absurd rfl h), (fun kk vk l h => by cases h), (fun l h => by cases h)⟩
def ti121 : TI := ⟨[.val .nilFunc], false, [], none, none, []⟩
theorem ti121_ok : TiOk Try.prog 121 ti121 := ⟨by kernel_rfl, by kernel_rfl, (fun e rk b h => by cases h), (fun k h => by cases h), by rfl, (.inr rfl), (fun h => by cases h), (fun l h => by cases h), (fun l h => by cases h), (fun h => absurd rfl h), (fun kk vk l h => by cases h), (fun l h => by cases h)⟩
def ti122 : TI := ⟨[.val .nilFunc], false, [], none, none, []⟩
theorem ti122_ok : TiOk Try.prog 122 ti122 := ⟨by kernel_rfl, by kernel_rfl, (fun e rk b h => by cases h), (fun k h => by cases h), by rfl, (.inr rfl), (fun h => by cases h), (fun l h => by cases h), (fun l h => by cases h), (fun h => absurd rfl h), (fun kk vk l h => by cases h), (fun l h => by cases h)⟩
def ti124 : TI := ⟨[.val .nilFunc], false, [], none, none, []⟩
theorem ti124_ok : TiOk Try.prog 124 ti124 := ⟨by kernel_rfl, by kernel_rfl, (fun e rk b h => by cases h), (fun k h => by cases h), by rfl, (.inr rfl), (fun h => by cases h), (fun l h => by cases h), (fun l h => by cases h), (fun h => absurd rfl h), (fun kk vk l h => by cases h), (fun l h => by cases h)⟩
def ti125 : TI := ⟨[.val .nilFunc], false, [], none, none, []⟩
theorem ti125_ok : TiOk Try.prog 125 ti125 := ⟨by kernel_rfl, by kernel_rfl, (fun e rk b h => by cases h), (fun k h => by cases h), by rfl, (.inr rfl), (fun h => by cases h), (fun l h => by cases h), (fun l h => by cases h), (fun h => absurd rfl h), (fun kk vk l h => by cases h), (fun l h => by cases h)⟩
def ti126 : TI := ⟨[.val .nilFunc], false, [], none, none, []⟩
theorem ti126_ok : TiOk Try.prog 126 ti126 := ⟨by kernel_rfl, by kernel_rfl, (fun e rk b h => by cases h), (fun k h => by cases h), by rfl, (.inr rfl), (fun h => by cases h), (fun l h => by cases h), (fun l h => by cases h), (fun h => absurd rfl h), (fun kk vk l h => by cases h), (fun l h => by cases h)⟩
theorem ck127 (w : World) (b : Bool) : ∀ a : List Int, a.length = 3 → (Instr.checkKey b 10000 129 (.agg (mkInts [.i64, .i64, .i64] a))).run Try.prog w = .ok () w := by
  intro a ha
  match a, ha with
  | [a0, a1, a2], _ =>
    show (Instr.checkKey b 10000 129 (.agg (mkInts [.i64, .i64, .i64] [a0, a1, a2]))).run Try.prog w = .ok () w
    kernel_rfl
def ti127 : TI := ⟨[.map [.i64, .i64, .i64] (.int .i64)], false, [], none, none, []⟩
theorem ti127_ok : TiOk Try.prog 127 ti127 := ⟨by kernel_rfl, by kernel_rfl, (fun e rk b h => by cases h), (fun k h => by cases h), by rfl, (.inr rfl), (fun h => by cases h), (fun l h => by cases h), (fun l h => by cases h), (fun h => absurd rfl h), (fun kk vk l h _ => by cases h; exact ⟨⟨129, 3, by kernel_rfl, by kernel_rfl, .inr ⟨(fun k h => by cases h), ⟨_, Try.underlying129⟩, (fun a b w => ck127 w b a), (fun a b w => eq129 w a b)⟩⟩⟩), (fun l h => by cases h)⟩
def ti131 : TI := ⟨[.val .nilFunc], false, [], none, none, []⟩
theorem ti131_ok : TiOk Try.prog 131 ti131 := ⟨by kernel_rfl, by kernel_rfl, (fun e rk b h => by cases h), (fun k h => by cases h), by rfl, (.inr rfl), (fun h => by cases h), (fun l h => by cases h), (fun l h => by cases h), (fun h => absurd rfl h), (fun kk vk l h => by cases h), (fun l h => by cases h)⟩
def ti132 : TI := ⟨[.val .nilFunc], false, [], none, none, []⟩
theorem ti132_ok : TiOk Try.prog 132 ti132 := ⟨by kernel_rfl, by kernel_rfl, (fun e rk b h => by cases h), (fun k h => by cases h), by rfl, (.inr rfl), (fun h => by cases h), (fun l h => by cases h), (fun l h => by cases h), (fun h => absurd rfl h), (fun kk vk l h => by cases h), (fun l h => by cases h)⟩
def ti135 : TI := ⟨[.val .nilFunc], false, [], none, none, []⟩
theorem ti135_ok : TiOk Try.prog 135 ti135 := ⟨by kernel_rfl, by kernel_rfl, (fun e rk b h => by cases h), (fun k h => by cases h), by rfl, (.inr rfl), (fun h => by cases h), (fun l h => by cases h), (fun l h => by cases h), (fun h => absurd rfl h), (fun kk vk l h => by cases h), (fun l h => by cases h)⟩
def ti136 : TI := ⟨[.val .nilFunc], false, [], none, none, []⟩
theorem ti136_ok : TiOk Try.prog 136 ti136 := ⟨by kernel_rfl, by kernel_rfl, (fun e rk b h => by cases h), (fun k h => by cases h), by rfl, (.inr rfl), (fun h => by cases h), (fun l h => by cases h), (fun l h => by cases h), (fun h => absurd rfl h), (fun kk vk l h => by cases h), (fun l h => by cases h)⟩
def ti137 : TI := ⟨[.val .nilFunc], false, [], none, none, []⟩
theorem ti137_ok : TiOk Try.prog 137 ti137 := ⟨by kernel_rfl, by kernel_rfl, (fun e rk b h => by cases h), (fun k h => by cases h), by rfl, (.inr rfl), (fun h => by cases h), (fun l h => by cases h), (fun l h => by cases h), (fun h => absurd rfl h), (fun kk vk l h => by cases h), (fun l h => by cases h)⟩
def ti138 : TI := ⟨[.val .nilFunc], false, [], none, none, []⟩
theorem ti138_ok : TiOk Try.prog 138 ti138 := ⟨by kernel_rfl, by kernel_rfl, (fun e rk b h => by cases h), (fun k h => by cases h), by rfl, (.inr rfl), (fun h => by cases h), (fun l h => by cases h), (fun l h => by cases h), (fun h => absurd rfl h), (fun kk vk l h => by cases h), (fun l h => by cases h)⟩
def ti139 : TI := ⟨[.val .nilFunc], false, [], none, none, []⟩
theorem ti139_ok : TiOk Try.prog 139 ti139 := ⟨by kernel_rfl, by kernel_rfl, (fun e rk b h => by cases h), (fun k h => by cases h), by rfl, (.inr rfl), (fun h => by cases h), (fun l h => by cases h), (fun l h => by cases h), (fun h => absurd rfl h), (fun kk vk l h => by cases h), (fun l h => by cases h)⟩
def ti140 : TI := ⟨[.val .nilFunc], false, [], none, none, []⟩
theorem ti140_ok : TiOk Try.prog 140 ti140 := ⟨by kernel_rfl, by kernel_rfl, (fun e rk b h => by cases h), (fun k h => by cases h), by rfl, (.inr rfl), (fun h => by cases h), (fun l h => by cases h), (fun l h => by cases h), (fun h => absurd rfl h), (fun kk vk l h => by cases h), (fun l h => by cases h)⟩
def ti141 : TI := ⟨[.val .nilFunc], false, [], none, none, []⟩
theorem ti141_ok : TiOk Try.prog 141 ti141 := ⟨by kernel_rfl, by kernel_rfl, (fun e rk b h => by cases h), (fun k h => by cases h), by rfl, (.inr rfl), (fun h => by cases h), (fun l h => by cases h), (fun l h => by cases h), (fun h => absurd rfl h), (fun kk vk l h => by cases h), (fun l h => by cases h)⟩
def ti142 : TI := ⟨[.val .nilFunc], false, [], none, none, []⟩
theorem ti142_ok : TiOk Try.prog 142 ti142 := ⟨by kernel_rfl, by kernel_rfl, (fun e rk b h => by cases h), (fun k h => by cases h), by rfl, (.inr rfl), (fun h => by cases h), (fun l h => by cases h), (fun l h => by cases h), (fun h => absurd rfl h), (fun kk vk l h => by cases h), (fun l h => by cases h)⟩
def ti143 : TI := ⟨[.val .nilFunc], false, [], none, none, []⟩
theorem ti143_ok : TiOk Try.prog 143 ti143 := ⟨by kernel_rfl, by kernel_rfl, (fun e rk b h => by cases h), (fun k h => by cases h), by rfl, (.inr rfl), (fun h => by cases h), (fun l h => by cases h), (fun l h => by cases h), (fun h => absurd rfl h), (fun kk vk l h => by cases h), (fun l h => by cases h)⟩
def ti144 : TI := ⟨[.val .nilFunc], false, [], none, none, []⟩
theorem ti144_ok : TiOk Try.prog 144 ti144 := ⟨by kernel_rfl, by kernel_rfl, (fun e rk b h => by cases h), (fun k h => by cases h), by rfl, (.inr rfl), (fun h => by cases h), (fun l h => by cases h), (fun l h => by cases h), (fun h => absurd rfl h), (fun kk vk l h => by cases h), (fun l h => by cases h)⟩
def ti145 : TI := ⟨[.val .nilFunc], false, [], none, none, []⟩
theorem ti145_ok : TiOk Try.prog 145 ti145 := ⟨by kernel_rfl, by kernel_rfl, (fun e rk b h => by cases h), (fun k h => by cases h), by rfl, (.inr rfl), (fun h => by cases h), (fun l h => by cases h), (fun l h => by cases h), (fun h => absurd rfl h), (fun kk vk l h => by cases h), (fun l h => by cases h)⟩
def ti149 : TI := ⟨[.val .nilFunc], false, [], none, none, []⟩
theorem ti149_ok : TiOk Try.prog 149 ti149 := ⟨by kernel_rfl, by kernel_rfl, (fun e rk b h => by cases h), (fun k h => by cases h), by rfl, (.inr rfl), (fun h => by cases h), (fun l h => by cases h), (fun l h => by cases h), (fun h => absurd rfl h), (fun kk vk l h => by cases h), (fun l h => by cases h)⟩
def ti150 : TI := ⟨[.val .nilFunc], false, [], none, none, []⟩
theorem ti150_ok : TiOk Try.prog 150 ti150 := ⟨by kernel_rfl, by kernel_rfl, (fun e rk b h => by cases h), (fun k h => by cases h), by rfl, (.inr rfl), (fun h => by cases h), (fun l h => by cases h), (fun l h => by cases h), (fun h => absurd rfl h), (fun kk vk l h => by cases h), (fun l h => by cases h)⟩
def ti151 : TI := ⟨[.val .nilFunc], false, [], none, none, []⟩
theorem ti151_ok : TiOk Try.prog 151 ti151 := ⟨by kernel_rfl, by kernel_rfl, (fun e rk b h => by cases h), (fun k h => by cases h), by rfl, (.inr rfl), (fun h => by cases h), (fun l h => by cases h), (fun l h => by cases h), (fun h => absurd rfl h), (fun kk vk l h => by cases h), (fun l h => by cases h)⟩
def ti152 : TI := ⟨[.val .nilFunc], false, [], none, none, []⟩
theorem ti152_ok : TiOk Try.prog 152 ti152 := ⟨by kernel_rfl, by kernel_rfl, (fun e rk b h => by cases h), (fun k h => by cases h), by rfl, (.inr rfl), (fun h => by cases h), (fun l h => by cases h), (fun l h => by cases h), (fun h => absurd rfl h), (fun kk vk l h => by cases h), (fun l h => by cases h)⟩
def ti153 : TI := ⟨[.val .nilFunc], false, [], none, none, []⟩
theorem ti153_ok : TiOk Try.prog 153 ti153 := ⟨by kernel_rfl, by kernel_rfl, (fun e rk b h => by cases h), (fun k h => by cases h), by rfl, (.inr rfl), (fun h => by cases h), (fun l h => by cases h), (fun l h => by cases h), (fun h => absurd rfl h), (fun kk vk l h => by cases h), (fun l h => by cases h)⟩
def ti154 : TI := ⟨[.val .nilFunc], false, [], none, none, []⟩
theorem ti154_ok : TiOk Try.prog 154 ti154 := ⟨by kernel_rfl, by kernel_rfl, (fun e rk b h => by cases h), (fun k h => by cases h), by rfl, (.inr rfl), (fun h => by cases h), (fun l h => by cases h), (fun l h => by cases h), (fun h => absurd rfl h), (fun kk vk l h => by cases h), (fun l h => by cases h)⟩
def ti155 : TI := ⟨[.val .nilFunc], false, [], none, none, []⟩
theorem ti155_ok : TiOk Try.prog 155 ti155 := ⟨by kernel_rfl, by kernel_rfl, (fun e rk b h => by cases h), (fun k h => by cases h), by rfl, (.inr rfl), (fun h => by cases h), (fun l h => by cases h), (fun l h => by cases h), (fun h => absurd rfl h), (fun kk vk l h => by cases h), (fun l h => by cases h)⟩
def ti156 : TI := ⟨[.val .nilFunc], false, [], none, none, []⟩
theorem ti156_ok : TiOk Try.prog 156 ti156 := ⟨by kernel_rfl, by kernel_rfl, (fun e rk b h => by cases h), (fun k h => by cases h), by rfl, (.inr rfl), (fun h => by cases h), (fun l h => by cases h), (fun l h => by cases h), (fun h => absurd rfl h), (fun kk vk l h => by cases h), (fun l h => by cases h)⟩
def ti157 : TI := ⟨[.map [.i64] .bool], false, [], none, none, []⟩
theorem ti157_ok : TiOk Try.prog 157 ti157 := ⟨by kernel_rfl, by kernel_rfl, (fun e rk b h => by cases h), (fun k h => by cases h), by rfl, (.inr rfl), (fun h => by cases h), (fun l h => by cases h), (fun l h => by cases h), (fun h => absurd rfl h), (fun kk vk l h _ => by cases h; exact ⟨⟨3, 4, by kernel_rfl, by kernel_rfl, .inl ⟨_, rfl, by kernel_rfl⟩⟩⟩), (fun l h => by cases h)⟩
def ti158 : TI := ⟨[.val .nilFunc], false, [], none, none, []⟩
theorem ti158_ok : TiOk Try.prog 158 ti158 := ⟨by kernel_rfl, by kernel_rfl, (fun e rk b h => by cases h), (fun k h => by cases h), by rfl, (.inr rfl), (fun h => by cases h), (fun l h => by cases h), (fun l h => by cases h), (fun h => absurd rfl h), (fun kk vk l h => by cases h), (fun l h => by cases h)⟩
def ti159 : TI := ⟨[.val .nilFunc], false, [], none, none, []⟩
theorem ti159_ok : TiOk Try.prog 159 ti159 := ⟨by kernel_rfl, by kernel_rfl, (fun e rk b h => by cases h), (fun k h => by cases h), by rfl, (.inr rfl), (fun h => by cases h), (fun l h => by cases h), (fun l h => by cases h), (fun h => absurd rfl h), (fun kk vk l h => by cases h), (fun l h => by cases h)⟩
def ti160 : TI := ⟨[.val .nilFunc], false, [], none, none, []⟩
theorem ti160_ok : TiOk Try.prog 160 ti160 := ⟨by kernel_rfl, by kernel_rfl, (fun e rk b h => by cases h), (fun k h => by cases h), by rfl, (.inr rfl), (fun h => by cases h), (fun l h => by cases h), (fun l h => by cases h), (fun h => absurd rfl h), (fun kk vk l h => by cases h), (fun l h => by cases h)⟩
def ti161 : TI := ⟨[.val .nilFunc], false, [], none, none, []⟩
theorem ti161_ok : TiOk Try.prog 161 ti161 := ⟨by kernel_rfl, by kernel_rfl, (fun e rk b h => by cases h), (fun k h => by cases h), by rfl, (.inr rfl), (fun h => by cases h), (fun l h => by cases h), (fun l h => by cases h), (fun h => absurd rfl h), (fun kk vk l h => by cases h), (fun l h => by cases h)⟩
def ti162 : TI := ⟨[.val .nilFunc], false, [], none, none, []⟩
theorem ti162_ok : TiOk Try.prog 162 ti162 := ⟨by kernel_rfl, by kernel_rfl, (fun e rk b h => by cases h), (fun k h => by cases h), by rfl, (.inr rfl), (fun h => by cases h), (fun l h => by cases h), (fun l h => by cases h), (fun h => absurd rfl h), (fun kk vk l h => by cases h), (fun l h => by cases h)⟩
def ti163 : TI := ⟨[.val .nilFunc], false, [], none, none, []⟩
theorem ti163_ok : TiOk Try.prog 163 ti163 := ⟨by kernel_rfl, by kernel_rfl, (fun e rk b h => by cases h), (fun k h => by cases h), by rfl, (.inr rfl), (fun h => by cases h), (fun l h => by cases h), (fun l h => by cases h), (fun h => absurd rfl h), (fun kk vk l h => by cases h), (fun l h => by cases h)⟩
def ti164 : TI := ⟨[.val .nilFunc], false, [], none, none, []⟩
theorem ti164_ok : TiOk Try.prog 164 ti164 := ⟨by kernel_rfl, by kernel_rfl, (fun e rk b h => by cases h), (fun k h => by cases h), by rfl, (.inr rfl), (fun h => by cases h), (fun l h => by cases h), (fun l h => by cases h), (fun h => absurd rfl h), (fun kk vk l h => by cases h), (fun l h => by cases h)⟩
def ti165 : TI := ⟨[.val .nilFunc], false, [], none, none, []⟩
theorem ti165_ok : TiOk Try.prog 165 ti165 := ⟨by kernel_rfl, by kernel_rfl, (fun e rk b h => by cases h), (fun k h => by cases h), by rfl, (.inr rfl), (fun h => by cases h), (fun l h => by cases h), (fun l h => by cases h), (fun h => absurd rfl h), (fun kk vk l h => by cases h), (fun l h => by cases h)⟩
def ti166 : TI := ⟨[.val .nilFunc], false, [], none, none, []⟩
theorem ti166_ok : TiOk Try.prog 166 ti166 := ⟨by kernel_rfl, by kernel_rfl, (fun e rk b h => by cases h), (fun k h => by cases h), by rfl, (.inr rfl), (fun h => by cases h), (fun l h => by cases h), (fun l h => by cases h), (fun h => absurd rfl h), (fun kk vk l h => by cases h), (fun l h => by cases h)⟩
def ti167 : TI := ⟨[.val .nilFunc], false, [], none, none, []⟩
theorem ti167_ok : TiOk Try.prog 167 ti167 := ⟨by kernel_rfl, by kernel_rfl, (fun e rk b h => by cases h), (fun k h => by cases h), by rfl, (.inr rfl), (fun h => by cases h), (fun l h => by cases h), (fun l h => by cases h), (fun h => absurd rfl h), (fun kk vk l h => by cases h), (fun l h => by cases h)⟩
def ti168 : TI := ⟨[.val .nilFunc], false, [], none, none, []⟩
theorem ti168_ok : TiOk Try.prog 168 ti168 := ⟨by kernel_rfl, by kernel_rfl, (fun e rk b h => by cases h), (fun k h => by cases h), by rfl, (.inr rfl), (fun h => by cases h), (fun l h => by cases h), (fun l h => by cases h), (fun h => absurd rfl h), (fun kk vk l h => by cases h), (fun l h => by cases h)⟩
def ti169 : TI := ⟨[.val .nilFunc], false, [], none, none, []⟩
theorem ti169_ok : TiOk Try.prog 169 ti169 := ⟨by kernel_rfl, by kernel_rfl, (fun e rk b h => by cases h), (fun k h => by cases h), by rfl, (.inr rfl), (fun h => by cases h), (fun l h => by cases h), (fun l h => by cases h), (fun h => absurd rfl h), (fun kk vk l h => by cases h), (fun l h => by cases h)⟩
def ti170 : TI := ⟨[.val .nilFunc], false, [], none, none, []⟩
theorem ti170_ok : TiOk Try.prog 170 ti170 := ⟨by kernel_rfl, by kernel_rfl, (fun e rk b h => by cases h), (fun k h => by cases h), by rfl, (.inr rfl), (fun h => by cases h), (fun l h => by cases h), (fun l h => by cases h), (fun h => absurd rfl h), (fun kk vk l h => by cases h), (fun l h => by cases h)⟩
def ti176 : TI := ⟨[.int .u32], false, [], none, some .u32, []⟩
theorem ti176_ok : TiOk Try.prog 176 ti176 := ⟨by kernel_rfl, by kernel_rfl, (fun e rk b h => by cases h), (fun k h => by cases h; exact (by kernel_rfl)), by rfl, (.inr rfl), (fun h => by cases h), (fun l h => by cases h), (fun l h => by cases h), (fun h => absurd rfl h), (fun kk vk l h => by cases h), (fun l h => by cases h)⟩
def ti179 : TI := ⟨[.val .nilFunc], false, [], none, none, []⟩
theorem ti179_ok : TiOk Try.prog 179 ti179 := ⟨by kernel_rfl, by kernel_rfl, (fun e rk b h => by cases h), (fun k h => by cases h), by rfl, (.inr rfl), (fun h => by cases h), (fun l h => by cases h), (fun l h => by cases h), (fun h => absurd rfl h), (fun kk vk l h => by cases h), (fun l h => by cases h)⟩
def ti180 : TI := ⟨[.val (.pointer none)], false, [], none, none, []⟩
theorem ti180_ok : TiOk Try.prog 180 ti180 := ⟨by kernel_rfl, by kernel_rfl, (fun e rk b h => by cases h), (fun k h => by cases h), by rfl, (.inr rfl), (fun h => by cases h), (fun l h => by cases h), (fun l _ _ => by kernel_rfl), (fun h => absurd rfl h), (fun kk vk l h => by cases h), (fun l h => by cases h)⟩
def TT : Tys := [(1, ti1), (2, ti2), (3, ti3), (4, ti4), (5, ti5), (15, ti15), (16, ti16), (17, ti17), (20, ti20), (21, ti21), (22, ti22), (23, ti23), (24, ti24), (26, ti26), (27, ti27), (28, ti28), (30, ti30), (32, ti32), (33, ti33), (34, ti34), (35, ti35), (36, ti36), (37, ti37), (38, ti38), (39, ti39), (40, ti40), (41, ti41), (42, ti42), (43, ti43), (44, ti44), (46, ti46), (47, ti47), (48, ti48), (49, ti49), (50, ti50), (51, ti51), (52, ti52), (53, ti53), (55, ti55), (56, ti56), (57, ti57), (58, ti58), (60, ti60), (61, ti61), (62, ti62), (64, ti64), (65, ti65), (66, ti66), (67, ti67), (68, ti68), (69, ti69), (70, ti70), (71, ti71), (72, ti72), (73, ti73), (74, ti74), (75, ti75), (76, ti76), (77, ti77), (78, ti78), (80, ti80), (82, ti82), (84, ti84), (85, ti85), (86, ti86), (87, ti87), (88, ti88), (89, ti89), (90, ti90), (91, ti91), (93, ti93), (94, ti94), (96, ti96), (98, ti98), (99, ti99), (100, ti100), (101, ti101), (102, ti102), (103, ti103), (104, ti104), (105, ti105), (107, ti107), (108, ti108), (109, ti109), (110, ti110), (111, ti111), (112, ti112), (113, ti113), (114, ti114), (115, ti115), (116, ti116), (117, ti117), (118, ti118), (119, ti119), (120, ti120), (121, ti121), (122, ti122), (124, ti124), (125, ti125), (126, ti126), (127, ti127), (129, ti129), (131, ti131), (132, ti132), (134, ti134), (135, ti135), (136, ti136), (137, ti137), (138, ti138), (139, ti139), (140, ti140), (141, ti141), (142, ti142), (143, ti143), (144, ti144), (145, ti145), (147, ti147), (149, ti149), (150, ti150), (151, ti151), (152, ti152), (153, ti153), (154, ti154), (155, ti155), (156, ti156), (157, ti157), (158, ti158), (159, ti159), (160, ti160), (161, ti161), (162, ti162), (163, ti163), (164, ti164), (165, ti165), (166, ti166), (167, ti167), (168, ti168), (169, ti169), (170, ti170), (176, ti176), (179, ti179), (180, ti180)]
theorem TT_ok : TsOk Try.prog TT := tsOk_cons ti1_ok (tsOk_cons ti2_ok (tsOk_cons ti3_ok (tsOk_cons ti4_ok (tsOk_cons ti5_ok (tsOk_cons ti15_ok (tsOk_cons ti16_ok (tsOk_cons ti17_ok (tsOk_cons ti20_ok (tsOk_cons ti21_ok (tsOk_cons ti22_ok (tsOk_cons ti23_ok (tsOk_cons ti24_ok (tsOk_cons ti26_ok (tsOk_cons ti27_ok (tsOk_cons ti28_ok (tsOk_cons ti30_ok (tsOk_cons ti32_ok (tsOk_cons ti33_ok (tsOk_cons ti34_ok (tsOk_cons ti35_ok (tsOk_cons ti36_ok (tsOk_cons ti37_ok (tsOk_cons ti38_ok (tsOk_cons ti39_ok (tsOk_cons ti40_ok (tsOk_cons ti41_ok (tsOk_cons ti42_ok (tsOk_cons ti43_ok (tsOk_cons ti44_ok (tsOk_cons ti46_ok (tsOk_cons ti47_ok (tsOk_cons ti48_ok (tsOk_cons ti49_ok (tsOk_cons ti50_ok (tsOk_cons ti51_ok (tsOk_cons ti52_ok (tsOk_cons ti53_ok (tsOk_cons ti55_ok (tsOk_cons ti56_ok (tsOk_cons ti57_ok (tsOk_cons ti58_ok (tsOk_cons ti60_ok (tsOk_cons ti61_ok (tsOk_cons ti62_ok (tsOk_cons ti64_ok (tsOk_cons ti65_ok (tsOk_cons ti66_ok (tsOk_cons ti67_ok (tsOk_cons ti68_ok (tsOk_cons ti69_ok (tsOk_cons ti70_ok (tsOk_cons ti71_ok (tsOk_cons ti72_ok (tsOk_cons ti73_ok (tsOk_cons ti74_ok (tsOk_cons ti75_ok (tsOk_cons ti76_ok (tsOk_cons ti77_ok (tsOk_cons ti78_ok (tsOk_cons ti80_ok (tsOk_cons ti82_ok (tsOk_cons ti84_ok (tsOk_cons ti85_ok (tsOk_cons ti86_ok (tsOk_cons ti87_ok (tsOk_cons ti88_ok (tsOk_cons ti89_ok (tsOk_cons ti90_ok (tsOk_cons ti91_ok (tsOk_cons ti93_ok (tsOk_cons ti94_ok (tsOk_cons ti96_ok (tsOk_cons ti98_ok (tsOk_cons ti99_ok (tsOk_cons ti100_ok (tsOk_cons ti101_ok (tsOk_cons ti102_ok (tsOk_cons ti103_ok (tsOk_cons ti104_ok (tsOk_cons ti105_ok (tsOk_cons ti107_ok (tsOk_cons ti108_ok (tsOk_cons ti109_ok (tsOk_cons ti110_ok (tsOk_cons ti111_ok (tsOk_cons ti112_ok (tsOk_cons ti113_ok (tsOk_cons ti114_ok (tsOk_cons ti115_ok (tsOk_cons ti116_ok (tsOk_cons ti117_ok (tsOk_cons ti118_ok (tsOk_cons ti119_ok (tsOk_cons ti120_ok (tsOk_cons ti121_ok (tsOk_cons ti122_ok (tsOk_cons ti124_ok (tsOk_cons ti125_ok (tsOk_cons ti126_ok (tsOk_cons ti127_ok (tsOk_cons ti129_ok (tsOk_cons ti131_ok (tsOk_cons ti132_ok (tsOk_cons ti134_ok (tsOk_cons ti135_ok (tsOk_cons ti136_ok (tsOk_cons ti137_ok (tsOk_cons ti138_ok (tsOk_cons ti139_ok (tsOk_cons ti140_ok (tsOk_cons ti141_ok (tsOk_cons ti142_ok (tsOk_cons ti143_ok (tsOk_cons ti144_ok (tsOk_cons ti145_ok (tsOk_cons ti147_ok (tsOk_cons ti149_ok (tsOk_cons ti150_ok (tsOk_cons ti151_ok (tsOk_cons ti152_ok (tsOk_cons ti153_ok (tsOk_cons ti154_ok (tsOk_cons ti155_ok (tsOk_cons ti156_ok (tsOk_cons ti157_ok (tsOk_cons ti158_ok (tsOk_cons ti159_ok (tsOk_cons ti160_ok (tsOk_cons ti161_ok (tsOk_cons ti162_ok (tsOk_cons ti163_ok (tsOk_cons ti164_ok (tsOk_cons ti165_ok (tsOk_cons ti166_ok (tsOk_cons ti167_ok (tsOk_cons ti168_ok (tsOk_cons ti169_ok (tsOk_cons ti170_ok (tsOk_cons ti176_ok (tsOk_cons ti179_ok (tsOk_cons ti180_ok (tsOk_nil _))))))))))))))))))))))))))))))))))))))))))))))))))))))))))))))))))))))))))))))))))))))))))))))))))))))))))))))))))))))))))))))))))))))))))))))
theorem mixedOrders : Try.prog.follows .mixedOrders = true := by kernel_rfl
end Go.Proofs.Ytnjcklhgdpgllaa
