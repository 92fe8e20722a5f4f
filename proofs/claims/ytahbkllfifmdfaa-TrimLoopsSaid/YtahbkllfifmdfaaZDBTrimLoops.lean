/- Part of the proof, DBTrimLoops. -/
import Derived.Test.YtahbkllfifmdfaaZDV15
import Derived.Test.YtahbkllfifmdfaaZDB9
import Derived.Test.YtahbkllfifmdfaaZTrimL
import Derived.Test.YtahbkllfifmdfaaZTy
set_option linter.all false
set_option linter.unusedSimpArgs false
set_option linter.unusedVariables false
namespace Go.Proofs.Ytahbkllfifmdfaa
open Go Go.RowKit Go.Ql Go.Vc
def TrimLoops_r (c : List Int) (d : List Int) (e : List Int) (f : List Int) : FRes := { pre := Bytes c ∧ Bytes d ∧ c.length ≤ maxLen ∧ d.length ≤ maxLen ∧ Bytes e ∧ e.length ≤ maxLen ∧ Bytes f ∧ f.length ≤ maxLen, res := .bool (true), rows := [], eff := [] }
def TrimLoops_fs : FS := fun args h => match args, h with
  | [.row 0, .row 1, .row 2, .row 3], [(0, .row false ty0 (.ints .u8 c)), (1, .row false ty1 (.ints .u8 d)), (2, .row false ty2 (.ints .u8 e)), (3, .row false ty3 (.ints .u8 f))] => some (TrimLoops_r c d e f)
  | _, _ => none
def TrimLoops_an (c : List Int) (d : List Int) (e : List Int) (f : List Int) : List (Nat × Ann) := [(9, { G := (Nat), inv := fun k => ⟨[(9, SV.ptr (8 : Nat) (0 : Nat) (0 : Nat) (0 : Nat)), (10, SV.ptr (17 : Nat) (0 : Nat) (0 : Nat) (0 : Nat)), (12, SV.row (18 : Nat)), (13, SV.row (19 : Nat)), (14, SV.ptr (20 : Nat) (0 : Nat) (0 : Nat) (0 : Nat)), (15, .int .i64 k)], [(20, .box true 32 (encWide (W (offAll takeLoop ((oddF c d e).arcs.take k) 0)))), (19, .row true 2 (.ints .i64 (yTake takeLoop ((oddF c d e).arcs.take k) (flowF (oddF c d e) f)))), (18, Ent.row true 2 (Row.ints IntKind.i64 (flowF (oddF c d e) f))), (17, Ent.box true 34 [SV.row (9 : Nat), SV.row (10 : Nat), SV.int IntKind.i64 (loopS (oddF c d e)).fst.pass, SV.row (11 : Nat), SV.row (12 : Nat), SV.int IntKind.i64 (loopS (oddF c d e)).fst.off.hi, SV.int IntKind.u64 (loopS (oddF c d e)).fst.off.lo, SV.bool (loopS (oddF c d e)).fst.did]), (9, Ent.row true 2 (Row.ints IntKind.i64 (loopS (oddF c d e)).fst.inst.sup)), (10, Ent.row true 24 (Row.arcs (loopS (oddF c d e)).fst.inst.arcs)), (11, Ent.row true 2 (Row.ints IntKind.i64 (loopS (oddF c d e)).fst.was.sup)), (12, Ent.row true 24 (Row.arcs (loopS (oddF c d e)).fst.was.arcs)), (8, Ent.box true 28 [SV.row (4 : Nat), SV.row (5 : Nat)]), (4, Ent.row true 2 (Row.ints IntKind.i64 (oddF c d e).sup)), (5, Ent.row true 24 (Row.arcs (oddF c d e).arcs))], 21⟩, rel := fun k0 k => k ≤ (oddF c d e).arcs.length, meas := fun k => (oddF c d e).arcs.length - k }),
  (19, { G := (Nat), inv := fun k => ⟨[(9, SV.ptr (8 : Nat) (0 : Nat) (0 : Nat) (0 : Nat)), (10, SV.ptr (17 : Nat) (0 : Nat) (0 : Nat) (0 : Nat)), (12, SV.row (18 : Nat)), (13, SV.row (19 : Nat)), (14, SV.ptr (20 : Nat) (0 : Nat) (0 : Nat) (0 : Nat)), (18, .int .i64 k)], [(20, .box true 32 (encWide (W (offAll takeLoop (oddF c d e).arcs 0)))), (19, .row true 2 (.ints .i64 (yTake takeLoop (oddF c d e).arcs (flowF (oddF c d e) f)))), (18, Ent.row true 2 (Row.ints IntKind.i64 (flowF (oddF c d e) f))), (17, Ent.box true 34 [SV.row (9 : Nat), SV.row (10 : Nat), SV.int IntKind.i64 (loopS (oddF c d e)).fst.pass, SV.row (11 : Nat), SV.row (12 : Nat), SV.int IntKind.i64 (loopS (oddF c d e)).fst.off.hi, SV.int IntKind.u64 (loopS (oddF c d e)).fst.off.lo, SV.bool (loopS (oddF c d e)).fst.did]), (9, Ent.row true 2 (Row.ints IntKind.i64 (loopS (oddF c d e)).fst.inst.sup)), (10, Ent.row true 24 (Row.arcs (loopS (oddF c d e)).fst.inst.arcs)), (11, Ent.row true 2 (Row.ints IntKind.i64 (loopS (oddF c d e)).fst.was.sup)), (12, Ent.row true 24 (Row.arcs (loopS (oddF c d e)).fst.was.arcs)), (8, Ent.box true 28 [SV.row (4 : Nat), SV.row (5 : Nat)]), (4, Ent.row true 2 (Row.ints IntKind.i64 (oddF c d e).sup)), (5, Ent.row true 24 (Row.arcs (oddF c d e).arcs))], 21⟩, rel := fun k0 k => k ≤ (loopS (oddF c d e)).1.inst.arcs.length, meas := fun k => (loopS (oddF c d e)).1.inst.arcs.length - k })]
def TrimLoops_A : List SV → Heap → List (Nat × Ann) := fun args h => match args, h with
  | [.row 0, .row 1, .row 2, .row 3], [(0, .row false ty0 (.ints .u8 c)), (1, .row false ty1 (.ints .u8 d)), (2, .row false ty2 (.ints .u8 e)), (3, .row false ty3 (.ints .u8 f))] => TrimLoops_an c d e f
  | _, _ => []
def TrimLoops_g : Specs := [(Odd_n, (true, specOf true Odd_fs)), (Loop_n, (true, specOf true Loop_fs)), (Flow_n, (true, specOf true Flow_fs)), (known15_n, (true, specOf true known15_fs)), (Fits_n, (true, specOf true Fits_fs)), (Cost_n, (true, specOf true Cost_fs)), (Plus_n, (true, specOf true Plus_fs)), (Times_n, (true, specOf true Times_fs)), (Compare_n, (true, specOf true Compare_fs))]
abbrev TrimLoops_n : Nat := 10
def TrimLoops_I (c : List Int) (d : List Int) (e : List Int) (f : List Int) : List (Nat × ISpec) := []
def TrimLoops_IA : List SV → Heap → List (Nat × ISpec) := fun _ _ => []
end Go.Proofs.Ytahbkllfifmdfaa
