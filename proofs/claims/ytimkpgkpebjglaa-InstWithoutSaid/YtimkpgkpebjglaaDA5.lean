/-
  CONTRACTS, as data: InstBent. No proofs.
-/
import Derived.Test.YtimkpgkpebjglaaDA4
import Derived.Test.YtimkpgkpebjglaaTy
set_option linter.unusedSimpArgs false
set_option linter.unusedVariables false
namespace Go.Proofs.Ytimkpgkpebjglaa
open Go Go.RowKit Go.Ql Go.Vc


theorem bendF_sup (I : Inst) (x f n : Int) : (bendF I x f n).sup.length = I.sup.length := by
  unfold bendF; (repeat' split) <;> simp
theorem bendF_arcs (I : Inst) (x f n : Int) : (bendF I x f n).arcs.length = I.arcs.length := by
  unfold bendF; (repeat' split) <;> simp


def InstBent_r (c : List Int) (d : List Int) (x : Int) (f : Int) (n : Int) (y : Int) (g : Int) (m : Int) : FRes := { pre := Bytes c ∧ Bytes d ∧ c.length ≤ maxLen ∧ d.length ≤ maxLen ∧ 0 ≤ x ∧ x ≤ 255 ∧ 0 ≤ f ∧ f ≤ 255 ∧ 0 ≤ y ∧ y ≤ 255 ∧ 0 ≤ g ∧ g ≤ 255, res := .bool (true), rows := [], eff := [] }
def InstBent_fs : FS := fun args h => match args, h with
  | [.row 0, .row 1, .int .u8 x, .int .u8 f, .int .i64 n, .int .u8 y, .int .u8 g, .int .i64 m], [(0, .row false ty0 (.ints .u8 c)), (1, .row false ty1 (.ints .u8 d))] => some (InstBent_r c d x f n y g m)
  | _, _ => none
def InstBent_an (c : List Int) (d : List Int) (x : Int) (f : Int) (n : Int) (y : Int) (g : Int) (m : Int) : List (Nat × Ann) := []
def InstBent_A : List SV → Heap → List (Nat × Ann) := fun _ _ => []
def InstBent_g : Specs := [(Inst_n, (true, specOf true Inst_fs)), (bend_n, (false, specOf false bend_fs)), (known_n, (true, specOf true known_fs)), (Right_n, (true, specOf true Right_fs)), (rRight_n, (true, specOf true rRight_fs))]
abbrev InstBent_n : Nat := 3
end Go.Proofs.Ytimkpgkpebjglaa
