/-
  CONTRACTS, as data: InstAsks. No proofs.
-/
import Derived.Test.YtimkpgkpebjglaaDA5
import Derived.Test.YtimkpgkpebjglaaTy
set_option linter.unusedVariables false
namespace Go.Proofs.Ytimkpgkpebjglaa
open Go Go.RowKit Go.Ql Go.Vc


def InstAsks_r (I : Inst) (J : Inst) (nodes : List Bool) (offs : List Bool) (n : Int) (c : List Int) (d : List Int) : FRes := { pre := Bytes c ∧ Bytes d ∧ c.length ≤ maxLen ∧ d.length ≤ maxLen ∧ I.sup.length ≤ 140737488351232 ∧ I.arcs.length ≤ 140737488351232 ∧ J.sup.length ≤ 140737488351232 ∧ J.arcs.length ≤ 140737488351232 ∧ nodes.length ≤ 140737488351232 ∧ offs.length ≤ 140737488351232, res := .bool (true), rows := [], eff := [] }
def InstAsks_fs : FS := fun args h => match args, h with
  | [.agg [.row 0, .row 1], .agg [.row 2, .row 3], .row 4, .row 5, .int .i64 n, .row 6, .row 7], [(0, .row false ty0 (.ints .i64 I_s)), (1, .row false ty1 (.arcs I_a)), (2, .row false ty2 (.ints .i64 J_s)), (3, .row false ty3 (.arcs J_a)), (4, .row false ty4 (.bools nodes)), (5, .row false ty5 (.bools offs)), (6, .row false ty6 (.ints .u8 c)), (7, .row false ty7 (.ints .u8 d))] => some (InstAsks_r ⟨I_s, I_a⟩ ⟨J_s, J_a⟩ nodes offs n c d)
  | _, _ => none
def InstAsks_an (I : Inst) (J : Inst) (nodes : List Bool) (offs : List Bool) (n : Int) (c : List Int) (d : List Int) : List (Nat × Ann) := []
def InstAsks_A : List SV → Heap → List (Nat × Ann) := fun _ _ => []
def InstAsks_g : Specs := [(known_n, (true, specOf true known_fs)), (Size_n, (true, specOf true Size_fs)), (Inst_n, (true, specOf true Inst_fs)), (asks_n, (true, specOf true asks_fs)), (Marks_n, (true, specOf true Marks_fs)), (same_n, (true, specOf true same_fs)), (Ints_n, (true, specOf true Ints_fs)), (Kept_n, (true, specOf true Kept_fs)), (rKept_n, (true, specOf true rKept_fs))]
abbrev InstAsks_n : Nat := 8
end Go.Proofs.Ytimkpgkpebjglaa
