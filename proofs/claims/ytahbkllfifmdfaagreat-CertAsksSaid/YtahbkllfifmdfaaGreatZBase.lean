/- Part of the proof, Base. -/
import Derived.Test.YtahbkllfifmdfaaGreatZSpec
import Derived.Test.YtahbkllfifmdfaaGreatProg
set_option linter.all false
set_option linter.unusedSimpArgs false
set_option linter.unusedVariables false
namespace Go.Proofs.YtahbkllfifmdfaaGreat
open Go Go.RowKit Go.Ql Go.Draw
theorem mixed : Tryz.prog.follows .mixedOrders = true := by kernel_rfl
theorem info_int : (Tryz.prog.info? 3).map (fun i => (i.zero, i.size, i.bytes)) = some (some (.int .i64 0), 1, 8) := by kernel_rfl
theorem info_int64 : (Tryz.prog.info? 2).map (fun i => (i.zero, i.size, i.bytes)) = some (some (.int .i64 0), 1, 8) := by kernel_rfl
theorem info_bool : (Tryz.prog.info? 4).map (fun i => (i.zero, i.size, i.bytes)) = some (some (.bool false), 1, 1) := by kernel_rfl
theorem info_arc : (Tryz.prog.info? 53).map (fun i => (i.zero, i.size, i.bytes)) = some (some (.agg #[.int .i64 0, .int .i64 0, .int .i64 0, .int .i64 0, .int .i64 0]), 5, 40) := by kernel_rfl
theorem field_inst0 (x y : Value) (w : World) : (Instr.field 25 (.agg #[x, y]) 0).run Tryz.prog w = .ok x w := by kernel_rfl
theorem field_inst1 (x y : Value) (w : World) : (Instr.field 25 (.agg #[x, y]) 1).run Tryz.prog w = .ok y w := by kernel_rfl
end Go.Proofs.YtahbkllfifmdfaaGreat
