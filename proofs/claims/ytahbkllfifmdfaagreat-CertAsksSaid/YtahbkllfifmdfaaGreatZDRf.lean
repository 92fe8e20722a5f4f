/- Part of the proof, DRf. -/
import Derived.Test.YtahbkllfifmdfaaGreatZDA4
import Derived.Test.YtahbkllfifmdfaaGreatZDN1
import Derived.Test.YtahbkllfifmdfaaGreatZFlow
import Derived.Test.YtahbkllfifmdfaaGreatZTy
set_option linter.all false
set_option linter.unusedSimpArgs false
set_option linter.unusedVariables false
namespace Go.Proofs.YtahbkllfifmdfaaGreat
open Go Go.RowKit Go.Ql Go.Vc
def rfit_r (I : Inst) (a : Int) : FRes := { pre := True, res := .bool (gOk I.sup.length I.arcs a), rows := [], eff := [] }
def rfit_fs : FS := fun args h => match args, h with
  | [.agg [.row 0, .row 1], .int .i64 a], [(0, .row false ty0 (.ints .i64 I_s)), (1, .row false ty1 (.arcs I_a))] => some (rfit_r ⟨I_s, I_a⟩ a)
  | _, _ => none
def rfit_an (I : Inst) (a : Int) : List (Nat × Ann) := []
def rfit_A : List SV → Heap → List (Nat × Ann) := fun _ _ => []
def rfit_g : Specs := []
abbrev rfit_n : Nat := 107
def rfit_I (I : Inst) (a : Int) : List (Nat × ISpec) := []
def rfit_IA : List SV → Heap → List (Nat × ISpec) := fun _ _ => []
end Go.Proofs.YtahbkllfifmdfaaGreat
