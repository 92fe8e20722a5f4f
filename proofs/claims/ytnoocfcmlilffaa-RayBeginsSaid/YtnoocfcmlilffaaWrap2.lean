/-
  FROM A WALK TO THE ROW, more: bounds of integers that come in; closed facts of the seat's program.
-/
import Derived.Test.YtnoocfcmlilffaaWrap
import Derived.Test.YtnoocfcmlilffaaSpec2
import Derived.Test.YtnoocfcmlilffaaBase
import Derived.Test.YtnoocfcmlilffaaRows
set_option linter.all false
set_option linter.unusedSimpArgs false
set_option linter.unusedVariables false
set_option maxRecDepth 100000
namespace Go.Ql
open Go Go.RowKit
theorem wf1_u8 {n : Int} (h : (Lit.int .u8 n).wf = true) : 0 ≤ n ∧ n ≤ 255 := by simpa [Lit.wf, IntKind.min, IntKind.max, IntKind.signed, IntKind.bits] using h
theorem wf1_u16 {n : Int} (h : (Lit.int .u16 n).wf = true) : 0 ≤ n ∧ n ≤ 65535 := by simpa [Lit.wf, IntKind.min, IntKind.max, IntKind.signed, IntKind.bits] using h
theorem wf1_i64 {n : Int} (h : (Lit.int .i64 n).wf = true) : -9223372036854775808 ≤ n ∧ n ≤ 9223372036854775807 := by simpa [Lit.wf, IntKind.min, IntKind.max, IntKind.signed, IntKind.bits] using h
theorem wf1_i32 {n : Int} (h : (Lit.int .i32 n).wf = true) : -2147483648 ≤ n ∧ n ≤ 2147483647 := by simpa [Lit.wf, IntKind.min, IntKind.max, IntKind.signed, IntKind.bits] using h
/-- 64 bits -/
def I64s (c : List Int) : Prop := ∀ x ∈ c, -9223372036854775808 ≤ x ∧ x ≤ 9223372036854775807
def I32s (c : List Int) : Prop := ∀ x ∈ c, -2147483648 ≤ x ∧ x ≤ 2147483647
theorem wf_u8 {c : List Int} (h : ∀ x ∈ c, (Lit.int .u8 x).wf = true) : Bytes c := fun x hx => wf1_u8 (h x hx)
theorem wf_i64 {c : List Int} (h : ∀ x ∈ c, (Lit.int .i64 x).wf = true) : I64s c := fun x hx => wf1_i64 (h x hx)
theorem wf_i32 {c : List Int} (h : ∀ x ∈ c, (Lit.int .i32 x).wf = true) : I32s c := fun x hx => wf1_i32 (h x hx)
end Go.Ql
namespace Go.Proofs.Ytnoocfcmlilffaa
open Go Go.RowKit Go.Ql
theorem own_knob : ownKnob Try.prog.godebug = none := by kernel_rfl
theorem laid_out : laidOutB Try.prog = true := by kernel_rfl
end Go.Proofs.Ytnoocfcmlilffaa
