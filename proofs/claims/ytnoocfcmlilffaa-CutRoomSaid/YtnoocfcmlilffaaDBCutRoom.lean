/-
  CONTRACTS, as data: CutRoom. No proofs.
-/
import Derived.Test.YtnoocfcmlilffaaDC10
import Derived.Test.YtnoocfcmlilffaaLaw10
import Derived.Test.YtnoocfcmlilffaaTy
set_option linter.all false
set_option linter.unusedSimpArgs false
set_option linter.unusedVariables false
namespace Go.Proofs.Ytnoocfcmlilffaa
open Go Go.RowKit Go.Ql Go.Vc


def CutRoom_r (c : List Int) (d : List Int) (e : List Int) (u : Int) (v : Int) (low : Int) (more : Int) : FRes := { pre := Bytes c ∧ Bytes d ∧ c.length ≤ maxLen ∧ d.length ≤ maxLen ∧ Bytes e ∧ e.length ≤ maxLen ∧ 0 ≤ u ∧ u ≤ 255 ∧ 0 ≤ v ∧ v ≤ 255 ∧ 0 ≤ low ∧ low ≤ 255 ∧ 0 ≤ more ∧ more ≤ 255, res := .bool (true), rows := [], eff := [] }
def CutRoom_fs : FS := fun args h => match args, h with
  | [.row 0, .row 1, .row 2, .int .u8 u, .int .u8 v, .int .u8 low, .int .u8 more], [(0, .row false ty0 (.ints .u8 c)), (1, .row false ty1 (.ints .u8 d)), (2, .row false ty2 (.ints .u8 e))] => some (CutRoom_r c d e u v low more)
  | _, _ => none
def CutRoom_an (c : List Int) (d : List Int) (e : List Int) (u : Int) (v : Int) (low : Int) (more : Int) : List (Nat × Ann) := []
def CutRoom_A : List SV → Heap → List (Nat × Ann) := fun _ _ => []
def CutRoom_g : Specs := [(Inst_n, (true, specOf true Inst_fs)), (whole_n, (true, specOf true whole_fs)), (CRoom_n, (true, specOf true CRoom_fs)), (Plus_n, (true, specOf true Plus_fs)), (Minus_n, (true, specOf true Minus_fs)), (Of_n, (true, specOf true Of_fs)), (known10_n, (true, specOf true known10_fs))]
abbrev CutRoom_n : Nat := 4
def CutRoom_I (c : List Int) (d : List Int) (e : List Int) (u : Int) (v : Int) (low : Int) (more : Int) : List (Nat × ISpec) := []
def CutRoom_IA : List SV → Heap → List (Nat × ISpec) := fun _ _ => []
end Go.Proofs.Ytnoocfcmlilffaa
