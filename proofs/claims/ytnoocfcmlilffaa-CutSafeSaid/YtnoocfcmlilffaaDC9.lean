/-
  CONTRACTS, as data: known9, asks9, FlowAsks. No proofs.
-/
import Derived.Test.YtnoocfcmlilffaaDB9
import Derived.Test.YtnoocfcmlilffaaTy
set_option linter.all false
set_option linter.unusedSimpArgs false
set_option linter.unusedVariables false
namespace Go.Proofs.Ytnoocfcmlilffaa
open Go Go.RowKit Go.Ql Go.Vc


def known9_r : FRes := { pre := True, res := .bool (true), rows := [], eff := [] }
def known9_fs : FS := fun args h => match args, h with
  | [], [] => some (known9_r)
  | _, _ => none
def known9_an : List (Nat × Ann) := []
def known9_A : List SV → Heap → List (Nat × Ann) := fun _ _ => []
def known9_g : Specs := [(FRoom_n, (true, specOf true FRoom_fs)), (Net_n, (true, specOf true Net_fs)), (Wides_n, (true, specOf true Wides_fs)), (Of_n, (true, specOf true Of_fs)), (Cost_n, (true, specOf true Cost_fs)), (Fits_n, (true, specOf true Fits_fs))]
abbrev known9_n : Nat := 39
def known9_I : List (Nat × ISpec) := []
def known9_IA : List SV → Heap → List (Nat × ISpec) := fun _ _ => []
def asks9_r (I : Inst) (x : List Int) (a : Int) : FRes := { pre := I.sup.length ≤ 10000 ∧ I.arcs.length ≤ 10000 ∧ A64 x ∧ A64 I.sup ∧ A64a I.arcs ∧ A64c I.arcs, res := .bool (true), rows := [], eff := [] }
def asks9_fs : FS := fun args h => match args, h with
  | [.agg [.row 0, .row 1], .row 2, .int .i64 a], [(0, .row false ty0 (.ints .i64 I_s)), (1, .row false ty1 (.arcs I_a)), (2, .row false ty2 (.ints .i64 x))] => some (asks9_r ⟨I_s, I_a⟩ x a)
  | _, _ => none
def asks9_an (I : Inst) (x : List Int) (a : Int) : List (Nat × Ann) := []
def asks9_A : List SV → Heap → List (Nat × Ann) := fun _ _ => []
def asks9_g : Specs := [(FRoom_n, (true, specOf true FRoom_fs)), (rRoom_n, (true, specOf true rRoom_fs)), (rRight_n, (true, specOf true rRight_fs)), (Wides_n, (true, specOf true Wides_fs)), (Net_n, (true, specOf true Net_fs)), (rNet_n, (true, specOf true rNet_fs)), (Cost_n, (true, specOf true Cost_fs)), (rCost_n, (true, specOf true rCost_fs)), (Fits_n, (true, specOf true Fits_fs)), (rFits_n, (true, specOf true rFits_fs))]
abbrev asks9_n : Nat := 40
def asks9_I (I : Inst) (x : List Int) (a : Int) : List (Nat × ISpec) := []
def asks9_IA : List SV → Heap → List (Nat × ISpec) := fun _ _ => []
def FlowAsks_r (I : Inst) (x : List Int) (a : Int) (c : List Int) (d : List Int) (k : Int) : FRes := { pre := I.sup.length ≤ 140737488351232 ∧ I.arcs.length ≤ 140737488351232 ∧ x.length ≤ 140737488351232 ∧ A64 x ∧ A64 I.sup ∧ A64a I.arcs ∧ A64c I.arcs ∧ Bytes c ∧ Bytes d ∧ c.length ≤ maxLen ∧ d.length ≤ maxLen ∧ 0 ≤ k ∧ k ≤ 255, res := .bool (true), rows := [], eff := [] }
def FlowAsks_fs : FS := fun args h => match args, h with
  | [.agg [.row 0, .row 1], .row 2, .int .i64 a, .row 3, .row 4, .int .u8 k], [(0, .row false ty0 (.ints .i64 I_s)), (1, .row false ty1 (.arcs I_a)), (2, .row false ty2 (.ints .i64 x)), (3, .row false ty3 (.ints .u8 c)), (4, .row false ty4 (.ints .u8 d))] => some (FlowAsks_r ⟨I_s, I_a⟩ x a c d k)
  | _, _ => none
def FlowAsks_an (I : Inst) (x : List Int) (a : Int) (c : List Int) (d : List Int) (k : Int) : List (Nat × Ann) := []
def FlowAsks_A : List SV → Heap → List (Nat × Ann) := fun _ _ => []
def FlowAsks_g : Specs := [(Size_n, (true, specOf true Size_fs)), (known9_n, (true, specOf true known9_fs)), (Inst_n, (true, specOf true Inst_fs)), (Flow_n, (true, specOf true Flow_fs)), (asks9_n, (true, specOf true asks9_fs))]
abbrev FlowAsks_n : Nat := 9
def FlowAsks_I (I : Inst) (x : List Int) (a : Int) (c : List Int) (d : List Int) (k : Int) : List (Nat × ISpec) := []
def FlowAsks_IA : List SV → Heap → List (Nat × ISpec) := fun _ _ => []
end Go.Proofs.Ytnoocfcmlilffaa
