/- Part of the proof, DBTrimFlows. -/
import Derived.Test.YtahbkllfifmdfaaZDV15
import Derived.Test.YtahbkllfifmdfaaZDB9
import Derived.Test.YtahbkllfifmdfaaZTrimL
import Derived.Test.YtahbkllfifmdfaaZTy
set_option linter.all false
set_option linter.unusedSimpArgs false
set_option linter.unusedVariables false
namespace Go.Proofs.Ytahbkllfifmdfaa
open Go Go.RowKit Go.Ql Go.Vc
def TrimFlows_r (k : Int) (c : List Int) (d : List Int) (e : List Int) (f : List Int) : FRes := { pre := 0 ≤ k ∧ k ≤ 255 ∧ Bytes c ∧ Bytes d ∧ c.length ≤ maxLen ∧ d.length ≤ maxLen ∧ Bytes e ∧ e.length ≤ maxLen ∧ Bytes f ∧ f.length ≤ maxLen, res := .bool (true), rows := [], eff := [] }
def TrimFlows_fs : FS := fun args h => match args, h with
  | [.int .u8 k, .row 0, .row 1, .row 2, .row 3], [(0, .row false ty0 (.ints .u8 c)), (1, .row false ty1 (.ints .u8 d)), (2, .row false ty2 (.ints .u8 e)), (3, .row false ty3 (.ints .u8 f))] => some (TrimFlows_r k c d e f)
  | _, _ => none
def TrimFlows_an (k : Int) (c : List Int) (d : List Int) (e : List Int) (f : List Int) : List (Nat × Ann) := [(9, { G := (Int) × (Nat), inv := fun ⟨j, k⟩ => ⟨[(11, SV.ptr (8 : Nat) (0 : Nat) (0 : Nat) (0 : Nat)), (12, SV.int IntKind.u8 j), (13, SV.ptr (18 : Nat) (0 : Nat) (0 : Nat) (0 : Nat)), (15, SV.row (19 : Nat)), (16, SV.row (20 : Nat)), (17, .int .i64 k)], [(20, .row true 2 (.ints .i64 (yJ j ((oddF c d e).arcs.take k) (flowF (oddF c d e) f)))), (19, .row true 2 (.ints .i64 (xJ j ((oddF c d e).arcs.take k) (flowF (oddF c d e) f)))), (18, Ent.box true 34 [SV.row (10 : Nat), SV.row (11 : Nat), SV.int IntKind.i64 (passK j (oddF c d e)).fst.pass, SV.row (12 : Nat), SV.row (13 : Nat), SV.int IntKind.i64 (passK j (oddF c d e)).fst.off.hi, SV.int IntKind.u64 (passK j (oddF c d e)).fst.off.lo, SV.bool (passK j (oddF c d e)).fst.did]), (10, Ent.row true 2 (Row.ints IntKind.i64 (passK j (oddF c d e)).fst.inst.sup)), (11, Ent.row true 24 (Row.arcs (passK j (oddF c d e)).fst.inst.arcs)), (12, Ent.row true 2 (Row.ints IntKind.i64 (passK j (oddF c d e)).fst.was.sup)), (13, Ent.row true 24 (Row.arcs (passK j (oddF c d e)).fst.was.arcs)), (8, Ent.box true 28 [SV.row (4 : Nat), SV.row (5 : Nat)]), (4, Ent.row true 2 (Row.ints IntKind.i64 (oddF c d e).sup)), (5, Ent.row true 24 (Row.arcs (oddF c d e).arcs))], 21⟩, rel := fun ⟨j0, k0⟩ ⟨j, k⟩ => j = j0 ∧ (j = 0 ∨ j = 2 ∨ j = 3) ∧ k ≤ (oddF c d e).arcs.length, meas := fun ⟨j, k⟩ => (oddF c d e).arcs.length - k })]
def TrimFlows_A : List SV → Heap → List (Nat × Ann) := fun args h => match args, h with
  | [.int .u8 k, .row 0, .row 1, .row 2, .row 3], [(0, .row false ty0 (.ints .u8 c)), (1, .row false ty1 (.ints .u8 d)), (2, .row false ty2 (.ints .u8 e)), (3, .row false ty3 (.ints .u8 f))] => TrimFlows_an k c d e f
  | _, _ => []
def TrimFlows_g : Specs := [(Odd_n, (true, specOf true Odd_fs)), (pass15_n, (true, specOf true pass15_fs)), (Flow_n, (true, specOf true Flow_fs)), (known15_n, (true, specOf true known15_fs)), (Fits_n, (true, specOf true Fits_fs)), (Cost_n, (true, specOf true Cost_fs)), (Plus_n, (true, specOf true Plus_fs))]
abbrev TrimFlows_n : Nat := 9
def TrimFlows_I (k : Int) (c : List Int) (d : List Int) (e : List Int) (f : List Int) : List (Nat × ISpec) := []
def TrimFlows_IA : List SV → Heap → List (Nat × ISpec) := fun _ _ => []
end Go.Proofs.Ytahbkllfifmdfaa
