/- Part of the proof, DV15. -/
import Derived.Test.YtahbkllfifmdfaaZDU15
import Derived.Test.YtahbkllfifmdfaaZLaw15
import Derived.Test.YtahbkllfifmdfaaZTy
set_option linter.all false
set_option linter.unusedSimpArgs false
set_option linter.unusedVariables false
namespace Go.Proofs.Ytahbkllfifmdfaa
open Go Go.RowKit Go.Ql Go.Vc
def known15_r : FRes := { pre := True, res := .bool (true), rows := [], eff := [] }
def known15_fs : FS := fun args h => match args, h with
  | [], [] => some (known15_r)
  | _, _ => none
def known15_an : List (Nat × Ann) := []
def known15_A : List SV → Heap → List (Nat × Ann) := fun _ _ => []
def known15_g : Specs := [(Low_n, (true, specOf true Low_fs)), (Of_n, (true, specOf true Of_fs)), (rSame_n, (true, specOf true rSame_fs))]
abbrev known15_n : Nat := 15
def known15_I : List (Nat × ISpec) := []
def known15_IA : List SV → Heap → List (Nat × ISpec) := fun _ _ => []
def Odd_r (c : List Int) (d : List Int) (e : List Int) : FRes := { pre := Bytes c ∧ Bytes d ∧ c.length ≤ maxLen ∧ d.length ≤ maxLen ∧ Bytes e ∧ e.length ≤ maxLen, res := .agg [.row 3, .row 4], rows := [.row 2 (.ints .i64 (oddF c d e).sup), .row 24 (.arcs (oddF c d e).arcs)], eff := [] }
def Odd_fs : FS := fun args h => match args, h with
  | [.row 0, .row 1, .row 2], [(0, .row false ty0 (.ints .u8 c)), (1, .row false ty1 (.ints .u8 d)), (2, .row false ty2 (.ints .u8 e))] => some (Odd_r c d e)
  | _, _ => none
def Odd_an (c : List Int) (d : List Int) (e : List Int) : List (Nat × Ann) := [(3, { G := (Nat), inv := fun k => ⟨[(2, SV.row (2 : Nat)), (6, SV.ptr (5 : Nat) (0 : Nat) (0 : Nat) (0 : Nat)), (7, SV.ptr (10 : Nat) (0 : Nat) (0 : Nat) (0 : Nat)), (8, .int .i64 k)], [(10, Ent.box true 28 [SV.row (6 : Nat), SV.row (7 : Nat)]), (6, .row true 2 (.ints .i64 (oddTo (instF c d) e k).sup)), (7, .row true 24 (.arcs (oddTo (instF c d) e k).arcs)), (5, Ent.box true 28 [SV.row (3 : Nat), SV.row (4 : Nat)]), (3, Ent.row true 2 (Row.ints IntKind.i64 [])), (4, Ent.row true 24 (Row.arcs [])), (2, Ent.row false 0 (Row.ints IntKind.u8 e))], 11⟩, rel := fun k0 k => k ≤ oddN (instF c d) e, meas := fun k => oddN (instF c d) e - k })]
def Odd_A : List SV → Heap → List (Nat × Ann) := fun args h => match args, h with
  | [.row 0, .row 1, .row 2], [(0, .row false ty0 (.ints .u8 c)), (1, .row false ty1 (.ints .u8 d)), (2, .row false ty2 (.ints .u8 e))] => Odd_an c d e
  | _, _ => []
def Odd_g : Specs := [(Inst_n, (true, specOf true Inst_fs))]
abbrev Odd_n : Nat := 16
def Odd_I (c : List Int) (d : List Int) (e : List Int) : List (Nat × ISpec) := []
def Odd_IA : List SV → Heap → List (Nat × ISpec) := fun _ _ => []
end Go.Proofs.Ytahbkllfifmdfaa
