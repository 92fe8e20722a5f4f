/-
  THE TYPES OF THE PROGRAM, as the symbolic executor reads them.
-/
import Derived.Test.YtimkpgkpebjglaaVc11
import Derived.Test.YtimkpgkpebjglaaProg
set_option linter.unusedSimpArgs false
set_option linter.unusedVariables false
namespace Go.Proofs.Ytimkpgkpebjglaa
open Go Go.RowKit Go.Ql Go.Vc

theorem tsOk_nil (P : Program) : TsOk P [] := fun _ _ h => by simp [lk] at h
theorem tsOk_cons {P : Program} {t : Nat} {ti : TI} {T : Tys} (h : TiOk P t ti) (hT : TsOk P T) : TsOk P ((t, ti) :: T) := by
  intro t' ti' hl
  rw [lk_cons] at hl
  split at hl
  · rename_i e; subst e; cases hl; exact h
  · exact hT t' ti' hl

def ti1 : TI := ⟨[.val .nilFunc], false, [], none, none, []⟩
theorem ti1_ok : TiOk Try.prog 1 ti1 := ⟨by kernel_rfl, by kernel_rfl, (fun e rk b h => by cases h), (fun k h => by cases h), by rfl, (.inr rfl), (fun h => absurd rfl h), (fun l h => by cases h), (fun h => absurd rfl h)⟩
def ti2 : TI := ⟨[.int .i64], false, [], none, some .i64, []⟩
theorem ti2_ok : TiOk Try.prog 2 ti2 := ⟨by kernel_rfl, by kernel_rfl, (fun e rk b h => by cases h), (fun k h => by cases h; exact (by kernel_rfl)), by rfl, (.inr rfl), (fun h => absurd rfl h), (fun l h => by cases h), (fun h => absurd rfl h)⟩
def ti3 : TI := ⟨[.int .i64], false, [], none, some .i64, []⟩
theorem ti3_ok : TiOk Try.prog 3 ti3 := ⟨by kernel_rfl, by kernel_rfl, (fun e rk b h => by cases h), (fun k h => by cases h; exact (by kernel_rfl)), by rfl, (.inr rfl), (fun h => absurd rfl h), (fun l h => by cases h), (fun h => absurd rfl h)⟩
def ti4 : TI := ⟨[.bool], false, [], none, none, []⟩
theorem ti4_ok : TiOk Try.prog 4 ti4 := ⟨by kernel_rfl, by kernel_rfl, (fun e rk b h => by cases h), (fun k h => by cases h), by rfl, (.inr rfl), (fun h => absurd rfl h), (fun l _ _ => by kernel_rfl), (fun h => absurd rfl h)⟩
def ti5 : TI := ⟨[.int .u8], false, [], none, some .u8, []⟩
theorem ti5_ok : TiOk Try.prog 5 ti5 := ⟨by kernel_rfl, by kernel_rfl, (fun e rk b h => by cases h), (fun k h => by cases h; exact (by kernel_rfl)), by rfl, (.inr rfl), (fun h => absurd rfl h), (fun l h => by cases h), (fun h => absurd rfl h)⟩
def ti15 : TI := ⟨[.val (.pointer none)], false, [], none, none, []⟩
theorem ti15_ok : TiOk Try.prog 15 ti15 := ⟨by kernel_rfl, by kernel_rfl, (fun e rk b h => by cases h), (fun k h => by cases h), by rfl, (.inr rfl), (fun h => absurd rfl h), (fun l h => by cases h), (fun h => absurd rfl h)⟩
def ti16 : TI := ⟨[.val (.pointer none)], false, [], none, none, []⟩
theorem ti16_ok : TiOk Try.prog 16 ti16 := ⟨by kernel_rfl, by kernel_rfl, (fun e rk b h => by cases h), (fun k h => by cases h), by rfl, (.inr rfl), (fun h => absurd rfl h), (fun l h => by cases h), (fun h => absurd rfl h)⟩
def ti17 : TI := ⟨[.val (.pointer none)], false, [], none, none, []⟩
theorem ti17_ok : TiOk Try.prog 17 ti17 := ⟨by kernel_rfl, by kernel_rfl, (fun e rk b h => by cases h), (fun k h => by cases h), by rfl, (.inr rfl), (fun h => absurd rfl h), (fun l h => by cases h), (fun h => absurd rfl h)⟩
def ti21 : TI := ⟨[.int .i32], false, [], none, some .i32, []⟩
theorem ti21_ok : TiOk Try.prog 21 ti21 := ⟨by kernel_rfl, by kernel_rfl, (fun e rk b h => by cases h), (fun k h => by cases h; exact (by kernel_rfl)), by rfl, (.inr rfl), (fun h => absurd rfl h), (fun l h => by cases h), (fun h => absurd rfl h)⟩
def ti22 : TI := ⟨[.slice 5 (.int .u8)], false, [], some (5, .int .u8, 1), none, []⟩
theorem ti22_ok : TiOk Try.prog 22 ti22 := ⟨by kernel_rfl, by kernel_rfl, (fun e rk b h => by cases h; exact ⟨by kernel_rfl, by kernel_rfl, by decide⟩), (fun k h => by cases h), by rfl, (.inr rfl), (fun h => absurd rfl h), (fun l h => by cases h), (fun h => absurd rfl h)⟩
def ti23 : TI := ⟨[.slice 2 (.int .i64)], false, [], some (2, .int .i64, 8), none, []⟩
theorem ti23_ok : TiOk Try.prog 23 ti23 := ⟨by kernel_rfl, by kernel_rfl, (fun e rk b h => by cases h; exact ⟨by kernel_rfl, by kernel_rfl, by decide⟩), (fun k h => by cases h), by rfl, (.inr rfl), (fun h => absurd rfl h), (fun l h => by cases h), (fun h => absurd rfl h)⟩
def ti24 : TI := ⟨[.slice 41 (.arc)], false, [], some (41, .arc, 40), none, []⟩
theorem ti24_ok : TiOk Try.prog 24 ti24 := ⟨by kernel_rfl, by kernel_rfl, (fun e rk b h => by cases h; exact ⟨by kernel_rfl, by kernel_rfl, by decide⟩), (fun k h => by cases h), by rfl, (.inr rfl), (fun h => absurd rfl h), (fun l h => by cases h), (fun h => absurd rfl h)⟩
def ti26 : TI := ⟨[.slice 2 (.int .i64), .slice 41 (.arc)], true, [(0, 1, false), (1, 1, false)], none, none, []⟩
theorem ti26_ok : TiOk Try.prog 26 ti26 := ⟨by kernel_rfl, by kernel_rfl, (fun e rk b h => by cases h), (fun k h => by cases h), by rfl, (.inl rfl), (fun _ => by kernel_rfl), (fun l h => by cases h), (fun h => absurd rfl h)⟩
def ti27 : TI := ⟨[.val .nilFunc], false, [], none, none, []⟩
theorem ti27_ok : TiOk Try.prog 27 ti27 := ⟨by kernel_rfl, by kernel_rfl, (fun e rk b h => by cases h), (fun k h => by cases h), by rfl, (.inr rfl), (fun h => absurd rfl h), (fun l h => by cases h), (fun h => absurd rfl h)⟩
def ti28 : TI := ⟨[.val .nilFunc], false, [], none, none, []⟩
theorem ti28_ok : TiOk Try.prog 28 ti28 := ⟨by kernel_rfl, by kernel_rfl, (fun e rk b h => by cases h), (fun k h => by cases h), by rfl, (.inr rfl), (fun h => absurd rfl h), (fun l h => by cases h), (fun h => absurd rfl h)⟩
def ti29 : TI := ⟨[.val .nilFunc], false, [], none, none, []⟩
theorem ti29_ok : TiOk Try.prog 29 ti29 := ⟨by kernel_rfl, by kernel_rfl, (fun e rk b h => by cases h), (fun k h => by cases h), by rfl, (.inr rfl), (fun h => absurd rfl h), (fun l h => by cases h), (fun h => absurd rfl h)⟩
def ti30 : TI := ⟨[.int .u16], false, [], none, some .u16, []⟩
theorem ti30_ok : TiOk Try.prog 30 ti30 := ⟨by kernel_rfl, by kernel_rfl, (fun e rk b h => by cases h), (fun k h => by cases h; exact (by kernel_rfl)), by rfl, (.inr rfl), (fun h => absurd rfl h), (fun l h => by cases h), (fun h => absurd rfl h)⟩
def ti31 : TI := ⟨[.int .u16], false, [], none, some .u16, []⟩
theorem ti31_ok : TiOk Try.prog 31 ti31 := ⟨by kernel_rfl, by kernel_rfl, (fun e rk b h => by cases h), (fun k h => by cases h; exact (by kernel_rfl)), by rfl, (.inr rfl), (fun h => absurd rfl h), (fun l h => by cases h), (fun h => absurd rfl h)⟩
def ti32 : TI := ⟨[.val .nilFunc], false, [], none, none, []⟩
theorem ti32_ok : TiOk Try.prog 32 ti32 := ⟨by kernel_rfl, by kernel_rfl, (fun e rk b h => by cases h), (fun k h => by cases h), by rfl, (.inr rfl), (fun h => absurd rfl h), (fun l h => by cases h), (fun h => absurd rfl h)⟩
def ti33 : TI := ⟨[.val .nilFunc], false, [], none, none, []⟩
theorem ti33_ok : TiOk Try.prog 33 ti33 := ⟨by kernel_rfl, by kernel_rfl, (fun e rk b h => by cases h), (fun k h => by cases h), by rfl, (.inr rfl), (fun h => absurd rfl h), (fun l h => by cases h), (fun h => absurd rfl h)⟩
def ti34 : TI := ⟨[.val .nilFunc], false, [], none, none, []⟩
theorem ti34_ok : TiOk Try.prog 34 ti34 := ⟨by kernel_rfl, by kernel_rfl, (fun e rk b h => by cases h), (fun k h => by cases h), by rfl, (.inr rfl), (fun h => absurd rfl h), (fun l h => by cases h), (fun h => absurd rfl h)⟩
def ti35 : TI := ⟨[.slice 4 (.bool)], false, [], some (4, .bool, 1), none, []⟩
theorem ti35_ok : TiOk Try.prog 35 ti35 := ⟨by kernel_rfl, by kernel_rfl, (fun e rk b h => by cases h; exact ⟨by kernel_rfl, by kernel_rfl, by decide⟩), (fun k h => by cases h), by rfl, (.inr rfl), (fun h => absurd rfl h), (fun l h => by cases h), (fun h => absurd rfl h)⟩
def ti36 : TI := ⟨[.val .nilFunc], false, [], none, none, []⟩
theorem ti36_ok : TiOk Try.prog 36 ti36 := ⟨by kernel_rfl, by kernel_rfl, (fun e rk b h => by cases h), (fun k h => by cases h), by rfl, (.inr rfl), (fun h => absurd rfl h), (fun l h => by cases h), (fun h => absurd rfl h)⟩
def ti37 : TI := ⟨[.slice 3 (.int .i64)], false, [], some (3, .int .i64, 8), none, []⟩
theorem ti37_ok : TiOk Try.prog 37 ti37 := ⟨by kernel_rfl, by kernel_rfl, (fun e rk b h => by cases h; exact ⟨by kernel_rfl, by kernel_rfl, by decide⟩), (fun k h => by cases h), by rfl, (.inr rfl), (fun h => absurd rfl h), (fun l h => by cases h), (fun h => absurd rfl h)⟩
def ti38 : TI := ⟨[.val .nilFunc], false, [], none, none, []⟩
theorem ti38_ok : TiOk Try.prog 38 ti38 := ⟨by kernel_rfl, by kernel_rfl, (fun e rk b h => by cases h), (fun k h => by cases h), by rfl, (.inr rfl), (fun h => absurd rfl h), (fun l h => by cases h), (fun h => absurd rfl h)⟩
def ti39 : TI := ⟨[.val .nilFunc], false, [], none, none, []⟩
theorem ti39_ok : TiOk Try.prog 39 ti39 := ⟨by kernel_rfl, by kernel_rfl, (fun e rk b h => by cases h), (fun k h => by cases h), by rfl, (.inr rfl), (fun h => absurd rfl h), (fun l h => by cases h), (fun h => absurd rfl h)⟩
theorem eq41 (w : World) : ∀ a b : List Int, a.length = 5 → b.length = 5 → (Op.equal 41 (.agg (mkInts [.i64, .i64, .i64, .i64, .i64] a)) (.agg (mkInts [.i64, .i64, .i64, .i64, .i64] b))).run Try.prog w = .ok (decide (a = b)) w := by
  intro a b ha hb
  match a, b, ha, hb with
  | [a0, a1, a2, a3, a4], [b0, b1, b2, b3, b4], _, _ =>
    show (Op.equalIn 10000 41 _ _).run Try.prog w = _
    by_cases e0 : a0 = b0
    · by_cases e1 : a1 = b1
      · by_cases e2 : a2 = b2
        · by_cases e3 : a3 = b3
          · by_cases e4 : a4 = b4
            · subst e0 e1 e2 e3 e4
              simp [mkInts, go_sem]
            · subst e0 e1 e2 e3; simp [mkInts, go_sem, e4]
          · subst e0 e1 e2; simp [mkInts, go_sem, e3]
        · subst e0 e1; simp [mkInts, go_sem, e2]
      · subst e0; simp [mkInts, go_sem, e1]
    · simp [mkInts, go_sem, e0]
def ti41 : TI := ⟨[.int .i64, .int .i64, .int .i64, .int .i64, .int .i64], true, [(0, 1, false), (1, 1, false), (2, 1, false), (3, 1, false), (4, 1, false)], none, none, [.i64, .i64, .i64, .i64, .i64]⟩
theorem ti41_ok : TiOk Try.prog 41 ti41 := ⟨by kernel_rfl, by kernel_rfl, (fun e rk b h => by cases h), (fun k h => by cases h), by rfl, (.inl rfl), (fun _ => by kernel_rfl), (fun l h => by cases h), (fun _ => ⟨by kernel_rfl, fun a b w => eq41 w a b⟩)⟩
def ti42 : TI := ⟨[.val .nilFunc], false, [], none, none, []⟩
theorem ti42_ok : TiOk Try.prog 42 ti42 := ⟨by kernel_rfl, by kernel_rfl, (fun e rk b h => by cases h), (fun k h => by cases h), by rfl, (.inr rfl), (fun h => absurd rfl h), (fun l h => by cases h), (fun h => absurd rfl h)⟩
def ti43 : TI := ⟨[.val .nilFunc], false, [], none, none, []⟩
theorem ti43_ok : TiOk Try.prog 43 ti43 := ⟨by kernel_rfl, by kernel_rfl, (fun e rk b h => by cases h), (fun k h => by cases h), by rfl, (.inr rfl), (fun h => absurd rfl h), (fun l h => by cases h), (fun h => absurd rfl h)⟩
def ti44 : TI := ⟨[.val .nilFunc], false, [], none, none, []⟩
theorem ti44_ok : TiOk Try.prog 44 ti44 := ⟨by kernel_rfl, by kernel_rfl, (fun e rk b h => by cases h), (fun k h => by cases h), by rfl, (.inr rfl), (fun h => absurd rfl h), (fun l h => by cases h), (fun h => absurd rfl h)⟩
def ti45 : TI := ⟨[.val .nilFunc], false, [], none, none, []⟩
theorem ti45_ok : TiOk Try.prog 45 ti45 := ⟨by kernel_rfl, by kernel_rfl, (fun e rk b h => by cases h), (fun k h => by cases h), by rfl, (.inr rfl), (fun h => absurd rfl h), (fun l h => by cases h), (fun h => absurd rfl h)⟩
def ti46 : TI := ⟨[.val .nilFunc], false, [], none, none, []⟩
theorem ti46_ok : TiOk Try.prog 46 ti46 := ⟨by kernel_rfl, by kernel_rfl, (fun e rk b h => by cases h), (fun k h => by cases h), by rfl, (.inr rfl), (fun h => absurd rfl h), (fun l h => by cases h), (fun h => absurd rfl h)⟩
def ti47 : TI := ⟨[.val .nilFunc], false, [], none, none, []⟩
theorem ti47_ok : TiOk Try.prog 47 ti47 := ⟨by kernel_rfl, by kernel_rfl, (fun e rk b h => by cases h), (fun k h => by cases h), by rfl, (.inr rfl), (fun h => absurd rfl h), (fun l h => by cases h), (fun h => absurd rfl h)⟩
def ti48 : TI := ⟨[.val .nilFunc], false, [], none, none, []⟩
theorem ti48_ok : TiOk Try.prog 48 ti48 := ⟨by kernel_rfl, by kernel_rfl, (fun e rk b h => by cases h), (fun k h => by cases h), by rfl, (.inr rfl), (fun h => absurd rfl h), (fun l h => by cases h), (fun h => absurd rfl h)⟩
def ti49 : TI := ⟨[.val .nilFunc], false, [], none, none, []⟩
theorem ti49_ok : TiOk Try.prog 49 ti49 := ⟨by kernel_rfl, by kernel_rfl, (fun e rk b h => by cases h), (fun k h => by cases h), by rfl, (.inr rfl), (fun h => absurd rfl h), (fun l h => by cases h), (fun h => absurd rfl h)⟩
def ti50 : TI := ⟨[.val .nilFunc], false, [], none, none, []⟩
theorem ti50_ok : TiOk Try.prog 50 ti50 := ⟨by kernel_rfl, by kernel_rfl, (fun e rk b h => by cases h), (fun k h => by cases h), by rfl, (.inr rfl), (fun h => absurd rfl h), (fun l h => by cases h), (fun h => absurd rfl h)⟩
def ti51 : TI := ⟨[.val .nilFunc], false, [], none, none, []⟩
theorem ti51_ok : TiOk Try.prog 51 ti51 := ⟨by kernel_rfl, by kernel_rfl, (fun e rk b h => by cases h), (fun k h => by cases h), by rfl, (.inr rfl), (fun h => absurd rfl h), (fun l h => by cases h), (fun h => absurd rfl h)⟩
def ti52 : TI := ⟨[.val .nilFunc], false, [], none, none, []⟩
theorem ti52_ok : TiOk Try.prog 52 ti52 := ⟨by kernel_rfl, by kernel_rfl, (fun e rk b h => by cases h), (fun k h => by cases h), by rfl, (.inr rfl), (fun h => absurd rfl h), (fun l h => by cases h), (fun h => absurd rfl h)⟩
def ti53 : TI := ⟨[.val .nilFunc], false, [], none, none, []⟩
theorem ti53_ok : TiOk Try.prog 53 ti53 := ⟨by kernel_rfl, by kernel_rfl, (fun e rk b h => by cases h), (fun k h => by cases h), by rfl, (.inr rfl), (fun h => absurd rfl h), (fun l h => by cases h), (fun h => absurd rfl h)⟩
def ti54 : TI := ⟨[.val .nilFunc], false, [], none, none, []⟩
theorem ti54_ok : TiOk Try.prog 54 ti54 := ⟨by kernel_rfl, by kernel_rfl, (fun e rk b h => by cases h), (fun k h => by cases h), by rfl, (.inr rfl), (fun h => absurd rfl h), (fun l h => by cases h), (fun h => absurd rfl h)⟩
def ti55 : TI := ⟨[.val .nilFunc], false, [], none, none, []⟩
theorem ti55_ok : TiOk Try.prog 55 ti55 := ⟨by kernel_rfl, by kernel_rfl, (fun e rk b h => by cases h), (fun k h => by cases h), by rfl, (.inr rfl), (fun h => absurd rfl h), (fun l h => by cases h), (fun h => absurd rfl h)⟩
def ti56 : TI := ⟨[.val .nilFunc], false, [], none, none, []⟩
theorem ti56_ok : TiOk Try.prog 56 ti56 := ⟨by kernel_rfl, by kernel_rfl, (fun e rk b h => by cases h), (fun k h => by cases h), by rfl, (.inr rfl), (fun h => absurd rfl h), (fun l h => by cases h), (fun h => absurd rfl h)⟩
def ti57 : TI := ⟨[.val .nilFunc], false, [], none, none, []⟩
theorem ti57_ok : TiOk Try.prog 57 ti57 := ⟨by kernel_rfl, by kernel_rfl, (fun e rk b h => by cases h), (fun k h => by cases h), by rfl, (.inr rfl), (fun h => absurd rfl h), (fun l h => by cases h), (fun h => absurd rfl h)⟩
def ti58 : TI := ⟨[.val .nilFunc], false, [], none, none, []⟩
theorem ti58_ok : TiOk Try.prog 58 ti58 := ⟨by kernel_rfl, by kernel_rfl, (fun e rk b h => by cases h), (fun k h => by cases h), by rfl, (.inr rfl), (fun h => absurd rfl h), (fun l h => by cases h), (fun h => absurd rfl h)⟩
def ti59 : TI := ⟨[.val .nilFunc], false, [], none, none, []⟩
theorem ti59_ok : TiOk Try.prog 59 ti59 := ⟨by kernel_rfl, by kernel_rfl, (fun e rk b h => by cases h), (fun k h => by cases h), by rfl, (.inr rfl), (fun h => absurd rfl h), (fun l h => by cases h), (fun h => absurd rfl h)⟩
def ti60 : TI := ⟨[.val .nilFunc], false, [], none, none, []⟩
theorem ti60_ok : TiOk Try.prog 60 ti60 := ⟨by kernel_rfl, by kernel_rfl, (fun e rk b h => by cases h), (fun k h => by cases h), by rfl, (.inr rfl), (fun h => absurd rfl h), (fun l h => by cases h), (fun h => absurd rfl h)⟩
def ti61 : TI := ⟨[.val .nilFunc], false, [], none, none, []⟩
theorem ti61_ok : TiOk Try.prog 61 ti61 := ⟨by kernel_rfl, by kernel_rfl, (fun e rk b h => by cases h), (fun k h => by cases h), by rfl, (.inr rfl), (fun h => absurd rfl h), (fun l h => by cases h), (fun h => absurd rfl h)⟩
def ti62 : TI := ⟨[.val .nilFunc], false, [], none, none, []⟩
theorem ti62_ok : TiOk Try.prog 62 ti62 := ⟨by kernel_rfl, by kernel_rfl, (fun e rk b h => by cases h), (fun k h => by cases h), by rfl, (.inr rfl), (fun h => absurd rfl h), (fun l h => by cases h), (fun h => absurd rfl h)⟩
def ti63 : TI := ⟨[.val .nilFunc], false, [], none, none, []⟩
theorem ti63_ok : TiOk Try.prog 63 ti63 := ⟨by kernel_rfl, by kernel_rfl, (fun e rk b h => by cases h), (fun k h => by cases h), by rfl, (.inr rfl), (fun h => absurd rfl h), (fun l h => by cases h), (fun h => absurd rfl h)⟩
def ti64 : TI := ⟨[.val .nilFunc], false, [], none, none, []⟩
theorem ti64_ok : TiOk Try.prog 64 ti64 := ⟨by kernel_rfl, by kernel_rfl, (fun e rk b h => by cases h), (fun k h => by cases h), by rfl, (.inr rfl), (fun h => absurd rfl h), (fun l h => by cases h), (fun h => absurd rfl h)⟩
def ti65 : TI := ⟨[.val .nilFunc], false, [], none, none, []⟩
theorem ti65_ok : TiOk Try.prog 65 ti65 := ⟨by kernel_rfl, by kernel_rfl, (fun e rk b h => by cases h), (fun k h => by cases h), by rfl, (.inr rfl), (fun h => absurd rfl h), (fun l h => by cases h), (fun h => absurd rfl h)⟩
def ti66 : TI := ⟨[.val .nilFunc], false, [], none, none, []⟩
theorem ti66_ok : TiOk Try.prog 66 ti66 := ⟨by kernel_rfl, by kernel_rfl, (fun e rk b h => by cases h), (fun k h => by cases h), by rfl, (.inr rfl), (fun h => absurd rfl h), (fun l h => by cases h), (fun h => absurd rfl h)⟩
def ti72 : TI := ⟨[.val .nilFunc], false, [], none, none, []⟩
theorem ti72_ok : TiOk Try.prog 72 ti72 := ⟨by kernel_rfl, by kernel_rfl, (fun e rk b h => by cases h), (fun k h => by cases h), by rfl, (.inr rfl), (fun h => absurd rfl h), (fun l h => by cases h), (fun h => absurd rfl h)⟩
def ti73 : TI := ⟨[.int .u32], false, [], none, some .u32, []⟩
theorem ti73_ok : TiOk Try.prog 73 ti73 := ⟨by kernel_rfl, by kernel_rfl, (fun e rk b h => by cases h), (fun k h => by cases h; exact (by kernel_rfl)), by rfl, (.inr rfl), (fun h => absurd rfl h), (fun l h => by cases h), (fun h => absurd rfl h)⟩
def ti76 : TI := ⟨[.val .nilFunc], false, [], none, none, []⟩
theorem ti76_ok : TiOk Try.prog 76 ti76 := ⟨by kernel_rfl, by kernel_rfl, (fun e rk b h => by cases h), (fun k h => by cases h), by rfl, (.inr rfl), (fun h => absurd rfl h), (fun l h => by cases h), (fun h => absurd rfl h)⟩
def ti77 : TI := ⟨[.val (.pointer none)], false, [], none, none, []⟩
theorem ti77_ok : TiOk Try.prog 77 ti77 := ⟨by kernel_rfl, by kernel_rfl, (fun e rk b h => by cases h), (fun k h => by cases h), by rfl, (.inr rfl), (fun h => absurd rfl h), (fun l h => by cases h), (fun h => absurd rfl h)⟩
def TT : Tys := [(1, ti1), (2, ti2), (3, ti3), (4, ti4), (5, ti5), (15, ti15), (16, ti16), (17, ti17), (21, ti21), (22, ti22), (23, ti23), (24, ti24), (26, ti26), (27, ti27), (28, ti28), (29, ti29), (30, ti30), (31, ti31), (32, ti32), (33, ti33), (34, ti34), (35, ti35), (36, ti36), (37, ti37), (38, ti38), (39, ti39), (41, ti41), (42, ti42), (43, ti43), (44, ti44), (45, ti45), (46, ti46), (47, ti47), (48, ti48), (49, ti49), (50, ti50), (51, ti51), (52, ti52), (53, ti53), (54, ti54), (55, ti55), (56, ti56), (57, ti57), (58, ti58), (59, ti59), (60, ti60), (61, ti61), (62, ti62), (63, ti63), (64, ti64), (65, ti65), (66, ti66), (72, ti72), (73, ti73), (76, ti76), (77, ti77)]
theorem TT_ok : TsOk Try.prog TT := tsOk_cons ti1_ok (tsOk_cons ti2_ok (tsOk_cons ti3_ok (tsOk_cons ti4_ok (tsOk_cons ti5_ok (tsOk_cons ti15_ok (tsOk_cons ti16_ok (tsOk_cons ti17_ok (tsOk_cons ti21_ok (tsOk_cons ti22_ok (tsOk_cons ti23_ok (tsOk_cons ti24_ok (tsOk_cons ti26_ok (tsOk_cons ti27_ok (tsOk_cons ti28_ok (tsOk_cons ti29_ok (tsOk_cons ti30_ok (tsOk_cons ti31_ok (tsOk_cons ti32_ok (tsOk_cons ti33_ok (tsOk_cons ti34_ok (tsOk_cons ti35_ok (tsOk_cons ti36_ok (tsOk_cons ti37_ok (tsOk_cons ti38_ok (tsOk_cons ti39_ok (tsOk_cons ti41_ok (tsOk_cons ti42_ok (tsOk_cons ti43_ok (tsOk_cons ti44_ok (tsOk_cons ti45_ok (tsOk_cons ti46_ok (tsOk_cons ti47_ok (tsOk_cons ti48_ok (tsOk_cons ti49_ok (tsOk_cons ti50_ok (tsOk_cons ti51_ok (tsOk_cons ti52_ok (tsOk_cons ti53_ok (tsOk_cons ti54_ok (tsOk_cons ti55_ok (tsOk_cons ti56_ok (tsOk_cons ti57_ok (tsOk_cons ti58_ok (tsOk_cons ti59_ok (tsOk_cons ti60_ok (tsOk_cons ti61_ok (tsOk_cons ti62_ok (tsOk_cons ti63_ok (tsOk_cons ti64_ok (tsOk_cons ti65_ok (tsOk_cons ti66_ok (tsOk_cons ti72_ok (tsOk_cons ti73_ok (tsOk_cons ti76_ok (tsOk_cons ti77_ok (tsOk_nil _))))))))))))))))))))))))))))))))))))))))))))))))))))))))
theorem mixedOrders : Try.prog.follows .mixedOrders = true := by kernel_rfl
end Go.Proofs.Ytimkpgkpebjglaa
