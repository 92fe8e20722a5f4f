/- Part of the proof, DBTwinDoes. -/
import Derived.Test.YtnjcklhgdpgllaaZDT16
import Derived.Test.YtnjcklhgdpgllaaZTy
set_option linter.all false
set_option linter.unusedSimpArgs false
set_option linter.unusedVariables false
namespace Go.Proofs.Ytnjcklhgdpgllaa
open Go Go.RowKit Go.Ql Go.Vc
def TwinDoes_r (I : Inst) (c : List Int) (d : List Int) (at_ : Int) (n : Int) : FRes := { pre := I.sup.length ≤ 140737488351232 ∧ I.arcs.length ≤ 140737488351232 ∧ Bytes c ∧ Bytes d ∧ c.length ≤ maxLen ∧ d.length ≤ maxLen ∧ 0 ≤ at_ ∧ at_ ≤ 255, res := .bool (true), rows := [], eff := [] }
def TwinDoes_fs : FS := fun args h => match args, h with
  | [.agg [.row 0, .row 1], .row 2, .row 3, .int .u8 at_, .int .i64 n], [(0, .row false ty0 (.ints .i64 I_s)), (1, .row false ty1 (.arcs I_a)), (2, .row false ty2 (.ints .u8 c)), (3, .row false ty3 (.ints .u8 d))] => some (TwinDoes_r ⟨I_s, I_a⟩ c d at_ n)
  | _, _ => none
def TwinDoes_an (I : Inst) (c : List Int) (d : List Int) (at_ : Int) (n : Int) : List (Nat × Ann) := []
def TwinDoes_A : List SV → Heap → List (Nat × Ann) := fun _ _ => []
def TwinDoes_g : Specs := [(Size_n, (true, specOf true Size_fs)), (known16_n, (true, specOf true known16_fs)), (Alike_n, (true, specOf true Alike_fs)), (does16_n, (true, specOf true does16_fs)), (Inst_n, (true, specOf true Inst_fs))]
abbrev TwinDoes_n : Nat := 9
def TwinDoes_I (I : Inst) (c : List Int) (d : List Int) (at_ : Int) (n : Int) : List (Nat × ISpec) := []
def TwinDoes_IA : List SV → Heap → List (Nat × ISpec) := fun _ _ => []
end Go.Proofs.Ytnjcklhgdpgllaa
