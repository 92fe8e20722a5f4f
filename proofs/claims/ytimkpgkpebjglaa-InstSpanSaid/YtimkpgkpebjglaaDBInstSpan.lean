/-
  CONTRACTS, as data: InstSpan. No proofs.
-/
import Derived.Test.YtimkpgkpebjglaaDA5
import Derived.Test.YtimkpgkpebjglaaTy
set_option linter.unusedVariables false
namespace Go.Proofs.Ytimkpgkpebjglaa
open Go Go.RowKit Go.Ql Go.Vc


def InstSpan_r (c : List Int) (d : List Int) (k : Int) : FRes := { pre := Bytes c ∧ Bytes d ∧ c.length ≤ maxLen ∧ d.length ≤ maxLen ∧ 0 ≤ k ∧ k ≤ 255, res := .bool (true), rows := [], eff := [] }
def InstSpan_fs : FS := fun args h => match args, h with
  | [.row 0, .row 1, .int .u8 k], [(0, .row false ty0 (.ints .u8 c)), (1, .row false ty1 (.ints .u8 d))] => some (InstSpan_r c d k)
  | _, _ => none
def InstSpan_an (c : List Int) (d : List Int) (k : Int) : List (Nat × Ann) := []
def InstSpan_A : List SV → Heap → List (Nat × Ann) := fun _ _ => []
def InstSpan_g : Specs := [(Inst_n, (true, specOf true Inst_fs)), (known_n, (true, specOf true known_fs)), (Span_n, (true, specOf true Span_fs)), (Without_n, (true, specOf true Without_fs)), (rSame_n, (true, specOf true rSame_fs))]
abbrev InstSpan_n : Nat := 7
end Go.Proofs.Ytimkpgkpebjglaa
