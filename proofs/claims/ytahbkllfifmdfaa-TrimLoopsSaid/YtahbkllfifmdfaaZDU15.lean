/- Part of the proof, DU15. -/
import Derived.Test.YtahbkllfifmdfaaZDT15
import Derived.Test.YtahbkllfifmdfaaZDRf
import Derived.Test.YtahbkllfifmdfaaZTrim2
import Derived.Test.YtahbkllfifmdfaaZTy
set_option linter.all false
set_option linter.unusedSimpArgs false
set_option linter.unusedVariables false
namespace Go.Proofs.Ytahbkllfifmdfaa
open Go Go.RowKit Go.Ql Go.Vc
def pass15_r (k : Int) (I : Inst) : FRes := { pre := 0 ≤ k ∧ k ≤ 255 ∧ I.sup.length ≤ 1000000 ∧ I.arcs.length ≤ 1000000, res := .tup [.agg [.row 2, .row 3, .int .i64 ((passK k I).1).pass, .row 4, .row 5, .int .i64 ((passK k I).1).off.hi, .int .u64 ((passK k I).1).off.lo, .bool ((passK k I).1).did], .int .u16 ((passK k I).2)], rows := [.row 2 (.ints .i64 ((passK k I).1).inst.sup), .row 24 (.arcs ((passK k I).1).inst.arcs), .row 2 (.ints .i64 ((passK k I).1).was.sup), .row 24 (.arcs ((passK k I).1).was.arcs)], eff := [] }
def pass15_fs : FS := fun args h => match args, h with
  | [.int .u8 k, .agg [.row 0, .row 1]], [(0, .row false ty0 (.ints .i64 I_s)), (1, .row false ty1 (.arcs I_a))] => some (pass15_r k ⟨I_s, I_a⟩)
  | _, _ => none
def pass15_an (k : Int) (I : Inst) : List (Nat × Ann) := []
def pass15_A : List SV → Heap → List (Nat × Ann) := fun _ _ => []
def pass15_g : Specs := [(Low_n, (true, specOf true Low_fs)), (Loop_n, (true, specOf true Loop_fs)), (Fix_n, (true, specOf true Fix_fs)), (Lone_n, (true, specOf true Lone_fs))]
abbrev pass15_n : Nat := 22
def pass15_I (k : Int) (I : Inst) : List (Nat × ISpec) := []
def pass15_IA : List SV → Heap → List (Nat × ISpec) := fun _ _ => []
end Go.Proofs.Ytahbkllfifmdfaa
