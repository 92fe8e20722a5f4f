/- Part of the proof, Base. -/
import Derived.Test.YtggblkbecekbdaaZSpec
import Derived.Test.YtggblkbecekbdaaProg
set_option linter.all false
set_option linter.unusedSimpArgs false
set_option linter.unusedVariables false
namespace Go.Proofs.Ytggblkbecekbdaa
open Go Go.RowKit Go.Ql Go.Draw
theorem mixed : Try.prog.follows .mixedOrders = true := by kernel_rfl
theorem info_int : (Try.prog.info? 3).map (fun i => (i.zero, i.size, i.bytes)) = some (some (.int .i64 0), 1, 8) := by kernel_rfl
theorem info_int64 : (Try.prog.info? 2).map (fun i => (i.zero, i.size, i.bytes)) = some (some (.int .i64 0), 1, 8) := by kernel_rfl
theorem info_bool : (Try.prog.info? 4).map (fun i => (i.zero, i.size, i.bytes)) = some (some (.bool false), 1, 1) := by kernel_rfl
theorem info_arc : (Try.prog.info? 50).map (fun i => (i.zero, i.size, i.bytes)) = some (some (.agg #[.int .i64 0, .int .i64 0, .int .i64 0, .int .i64 0, .int .i64 0]), 5, 40) := by kernel_rfl
theorem field_inst0 (x y : Value) (w : World) : (Instr.field 30 (.agg #[x, y]) 0).run Try.prog w = .ok x w := by kernel_rfl
theorem field_inst1 (x y : Value) (w : World) : (Instr.field 30 (.agg #[x, y]) 1).run Try.prog w = .ok y w := by kernel_rfl
end Go.Proofs.Ytggblkbecekbdaa
