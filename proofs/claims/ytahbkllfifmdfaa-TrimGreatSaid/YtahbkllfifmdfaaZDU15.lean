/- Part of the proof, DU15. -/
import Derived.Test.YtahbkllfifmdfaaZDT15
import Derived.Test.YtahbkllfifmdfaaZDRf
import Derived.Test.YtahbkllfifmdfaaZTrim2
import Derived.Test.YtahbkllfifmdfaaZTy
set_option linter.all false
set_option linter.unusedSimpArgs false
set_option linter.unusedVariables false
namespace Go.Proofs.Ytahbkllfifmdfaa
open Go Go.RowKit Go.Ql Go.Vc
def rCopy_r (I : Inst) : FRes := { pre := I.sup.length ≤ 1000000 ∧ I.arcs.length ≤ 1000000, res := .agg [.row 2, .row 3], rows := [.row 2 (.ints .i64 (I).sup), .row 24 (.arcs (I).arcs)], eff := [] }
def rCopy_fs : FS := fun args h => match args, h with
  | [.agg [.row 0, .row 1]], [(0, .row false ty0 (.ints .i64 I_s)), (1, .row false ty1 (.arcs I_a))] => some (rCopy_r ⟨I_s, I_a⟩)
  | _, _ => none
def rCopy_an (I : Inst) : List (Nat × Ann) := []
def rCopy_A : List SV → Heap → List (Nat × Ann) := fun _ _ => []
def rCopy_g : Specs := []
abbrev rCopy_n : Nat := 129
def rCopy_I (I : Inst) : List (Nat × ISpec) := []
def rCopy_IA : List SV → Heap → List (Nat × ISpec) := fun _ _ => []
def Fixed15_r (I : Inst) (a : Int) (n : Int) (o : Wide) : FRes := { pre := FixOk I a n o, res := .tup [.agg [.row 2, .row 3], .agg (encWide (wplus o (W (n * (I.arcs.getD a.toNat default).cost))))], rows := [.row 2 (.ints .i64 (Inst.mk (fixSup I.sup (I.arcs.getD a.toNat default) n) I.arcs).sup), .row 24 (.arcs (Inst.mk (fixSup I.sup (I.arcs.getD a.toNat default) n) I.arcs).arcs)], eff := [] }
def Fixed15_fs : FS := fun args h => match args, h with
  | [.agg [.row 0, .row 1], .int .i64 a, .int .i64 n, .agg [.int .i64 o_0, .int .u64 o_1]], [(0, .row false ty0 (.ints .i64 I_s)), (1, .row false ty1 (.arcs I_a))] => some (Fixed15_r ⟨I_s, I_a⟩ a n ⟨o_0, o_1⟩)
  | _, _ => none
def Fixed15_an (I : Inst) (a : Int) (n : Int) (o : Wide) : List (Nat × Ann) := []
def Fixed15_A : List SV → Heap → List (Nat × Ann) := fun _ _ => []
def Fixed15_g : Specs := [(rCopy_n, (true, specOf true rCopy_fs)), (rPlus_n, (true, specOf true rPlus_fs)), (rTimes_n, (true, specOf true rTimes_fs))]
abbrev Fixed15_n : Nat := 111
def Fixed15_I (I : Inst) (a : Int) (n : Int) (o : Wide) : List (Nat × ISpec) := []
def Fixed15_IA : List SV → Heap → List (Nat × ISpec) := fun _ _ => []
abbrev Done15_n : Nat := 112
def Done15_g : Specs := [(rRight_n, (true, specOf true rRight_fs))]
def Done15_spec : Vc.Spec := inlSpec TT Done15_g (fun _ _ _ => []) Try.f112
def rLow_r (I : Inst) : FRes := { pre := I.sup.length ≤ 1000000 ∧ I.arcs.length ≤ 1000000, res := .tup [.agg [.row 2, .row 3, .int .i64 ((lowS I).1).pass, .row 4, .row 5, .int .i64 ((lowS I).1).off.hi, .int .u64 ((lowS I).1).off.lo, .bool ((lowS I).1).did], .int .i64 ((lowS I).2)], rows := [.view 2 (.ints .i64 ((lowS I).1).inst.sup), .view 24 (.arcs ((lowS I).1).inst.arcs), .view 2 (.ints .i64 ((lowS I).1).was.sup), .view 24 (.arcs ((lowS I).1).was.arcs)], eff := [] }
def rLow_fs : FS := fun args h => match args, h with
  | [.agg [.row 0, .row 1]], [(0, .row false ty0 (.ints .i64 I_s)), (1, .row false ty1 (.arcs I_a))] => some (rLow_r ⟨I_s, I_a⟩)
  | _, _ => none
def rLow_an (I : Inst) : List (Nat × Ann) := [(8, { G := (Nat), inv := fun k => ⟨[(1, SV.ptr (2 : Nat) (0 : Nat) (0 : Nat) (0 : Nat)), (2, SV.ptr (7 : Nat) (0 : Nat) (0 : Nat) (0 : Nat)), (5, SV.ptr (10 : Nat) (0 : Nat) (0 : Nat) (0 : Nat)), (6, SV.ptr (11 : Nat) (0 : Nat) (0 : Nat) (0 : Nat)), (7, .bool (didTo takeLow I k)), (8, .int .i64 k)], [(11, .box true 32 [.int .i64 (W (offTo takeLow I k)).hi, .int .u64 (W (offTo takeLow I k)).lo]), (10, .box true 28 [.row 20, .row 21]), (7, Ent.box true 34 [SV.row (3 : Nat), SV.row (4 : Nat), SV.int IntKind.i64 (0 : Int), SV.row (5 : Nat), SV.row (6 : Nat), SV.int IntKind.i64 (0 : Int), SV.int IntKind.u64 (0 : Int), SV.ff]), (3, Ent.row true 2 (Row.ints IntKind.i64 [])), (4, Ent.row true 24 (Row.arcs [])), (5, Ent.row true 2 (Row.ints IntKind.i64 [])), (6, Ent.row true 24 (Row.arcs [])), (2, Ent.box true 28 [SV.row (0 : Nat), SV.row (1 : Nat)]), (0, Ent.row false 0 (Row.ints IntKind.i64 I.sup)), (1, Ent.row false 0 (Row.arcs I.arcs)), (20, .row false 2 (.ints .i64 (supTo takeLow I k))), (21, .row false 24 (.arcs ((I.arcs.take k).map lowArc ++ I.arcs.drop k)))], 22⟩, rel := fun k0 k => k ≤ I.arcs.length, meas := fun k => I.arcs.length - k })]
def rLow_A : List SV → Heap → List (Nat × Ann) := fun args h => match args, h with
  | [.agg [.row 0, .row 1]], [(0, .row false ty0 (.ints .i64 I_s)), (1, .row false ty1 (.arcs I_a))] => rLow_an ⟨I_s, I_a⟩
  | _, _ => []
def rLow_g : Specs := [(rRight_n, (true, specOf true rRight_fs)), (Fixed15_n, (true, specOf true Fixed15_fs)), (Done15_n, (false, Done15_spec))]
abbrev rLow_n : Nat := 87
def rLow_I (I : Inst) : List (Nat × ISpec) := []
def rLow_IA : List SV → Heap → List (Nat × ISpec) := fun _ _ => []
def LoopOf_r (a : Arc) : FRes := { pre := True, res := .tup [.bool ((takeLoop a).isSome), .int .i64 ((takeLoop a).getD 0)], rows := [], eff := [] }
def LoopOf_fs : FS := fun args h => match args, h with
  | [.agg [.int .i64 a_0, .int .i64 a_1, .int .i64 a_2, .int .i64 a_3, .int .i64 a_4]], [] => some (LoopOf_r ⟨a_0, a_1, a_2, a_3, a_4⟩)
  | _, _ => none
def LoopOf_an (a : Arc) : List (Nat × Ann) := []
def LoopOf_A : List SV → Heap → List (Nat × Ann) := fun _ _ => []
def LoopOf_g : Specs := []
abbrev LoopOf_n : Nat := 113
def LoopOf_I (a : Arc) : List (Nat × ISpec) := []
def LoopOf_IA : List SV → Heap → List (Nat × ISpec) := fun _ _ => []
def rOut_r (p : Int) (I : Inst) (is : List Bool) (ns : List Int) : FRes := { pre := OutOk I is ns, res := .tup [.agg [.row 4, .row 5, .int .i64 ((outF p I is ns).1).pass, .row 6, .row 7, .int .i64 ((outF p I is ns).1).off.hi, .int .u64 ((outF p I is ns).1).off.lo, .bool ((outF p I is ns).1).did], .int .i64 ((outF p I is ns).2)], rows := [.view 2 (.ints .i64 ((outF p I is ns).1).inst.sup), .view 24 (.arcs ((outF p I is ns).1).inst.arcs), .view 2 (.ints .i64 ((outF p I is ns).1).was.sup), .view 24 (.arcs ((outF p I is ns).1).was.arcs)], eff := [] }
def rOut_fs : FS := fun args h => match args, h with
  | [.int .i64 p, .agg [.row 0, .row 1], .row 2, .row 3], [(0, .row false ty0 (.ints .i64 I_s)), (1, .row false ty1 (.arcs I_a)), (2, .row false ty2 (.bools is)), (3, .row false ty3 (.ints .i64 ns))] => some (rOut_r p ⟨I_s, I_a⟩ is ns)
  | _, _ => none
def rOut_an (p : Int) (I : Inst) (is : List Bool) (ns : List Int) : List (Nat × Ann) := [(5, { G := (Nat), inv := fun k => ⟨[(0, SV.int IntKind.i64 p), (2, SV.row (2 : Nat)), (3, SV.row (3 : Nat)), (5, SV.ptr (4 : Nat) (0 : Nat) (0 : Nat) (0 : Nat)), (8, SV.ptr (9 : Nat) (0 : Nat) (0 : Nat) (0 : Nat)), (10, SV.ptr (12 : Nat) (0 : Nat) (0 : Nat) (0 : Nat)), (11, SV.ptr (13 : Nat) (0 : Nat) (0 : Nat) (0 : Nat)), (12, .bool (outDid is k)), (13, .int .i64 k)], [(13, .box true 32 [.int .i64 (W (outOff is ns I k)).hi, .int .u64 (W (outOff is ns I k)).lo]), (12, .box true 28 [.row 20, .row 21]), (9, Ent.box true 34 [SV.row (5 : Nat), SV.row (6 : Nat), SV.int IntKind.i64 (0 : Int), SV.row (7 : Nat), SV.row (8 : Nat), SV.int IntKind.i64 (0 : Int), SV.int IntKind.u64 (0 : Int), SV.ff]), (5, Ent.row true 2 (Row.ints IntKind.i64 [])), (6, Ent.row true 24 (Row.arcs [])), (7, Ent.row true 2 (Row.ints IntKind.i64 [])), (8, Ent.row true 24 (Row.arcs [])), (4, Ent.box true 28 [SV.row (0 : Nat), SV.row (1 : Nat)]), (0, Ent.row false 0 (Row.ints IntKind.i64 I.sup)), (1, Ent.row false 0 (Row.arcs I.arcs)), (2, Ent.row false 0 (Row.bools is)), (3, Ent.row false 0 (Row.ints IntKind.i64 ns)), (20, .row false 2 (.ints .i64 (outTo is ns I k))), (21, .row false 24 (.arcs (I.arcs)))], 22⟩, rel := fun k0 k => k ≤ I.arcs.length, meas := fun k => I.arcs.length - k })]
def rOut_A : List SV → Heap → List (Nat × Ann) := fun args h => match args, h with
  | [.int .i64 p, .agg [.row 0, .row 1], .row 2, .row 3], [(0, .row false ty0 (.ints .i64 I_s)), (1, .row false ty1 (.arcs I_a)), (2, .row false ty2 (.bools is)), (3, .row false ty3 (.ints .i64 ns))] => rOut_an p ⟨I_s, I_a⟩ is ns
  | _, _ => []
def rOut_g : Specs := [(Fixed15_n, (true, specOf true Fixed15_fs)), (rWithout_n, (true, specOf true rWithout_fs)), (Done15_n, (false, Done15_spec))]
abbrev rOut_n : Nat := 114
def rOut_I (p : Int) (I : Inst) (is : List Bool) (ns : List Int) : List (Nat × ISpec) := []
def rOut_IA : List SV → Heap → List (Nat × ISpec) := fun _ _ => []
def rLoop_r (I : Inst) : FRes := { pre := I.sup.length ≤ 1000000 ∧ I.arcs.length ≤ 1000000, res := .tup [.agg [.row 2, .row 3, .int .i64 ((loopS I).1).pass, .row 4, .row 5, .int .i64 ((loopS I).1).off.hi, .int .u64 ((loopS I).1).off.lo, .bool ((loopS I).1).did], .int .i64 ((loopS I).2)], rows := [.view 2 (.ints .i64 ((loopS I).1).inst.sup), .view 24 (.arcs ((loopS I).1).inst.arcs), .view 2 (.ints .i64 ((loopS I).1).was.sup), .view 24 (.arcs ((loopS I).1).was.arcs)], eff := [] }
def rLoop_fs : FS := fun args h => match args, h with
  | [.agg [.row 0, .row 1]], [(0, .row false ty0 (.ints .i64 I_s)), (1, .row false ty1 (.arcs I_a))] => some (rLoop_r ⟨I_s, I_a⟩)
  | _, _ => none
def rLoop_an (I : Inst) : List (Nat × Ann) := [(7, { G := (Nat), inv := fun k => ⟨[(1, SV.ptr (2 : Nat) (0 : Nat) (0 : Nat) (0 : Nat)), (2, SV.ptr (7 : Nat) (0 : Nat) (0 : Nat) (0 : Nat)), (5, SV.row (8 : Nat)), (6, SV.row (9 : Nat)), (7, .int .i64 k)], [(9, .row true 2 (.ints .i64 (amtTo (fun a => (takeLoop a).getD 0) I k))), (8, .row true 4 (.bools (markTo takeLoop I k))), (7, Ent.box true 34 [SV.row (3 : Nat), SV.row (4 : Nat), SV.int IntKind.i64 (0 : Int), SV.row (5 : Nat), SV.row (6 : Nat), SV.int IntKind.i64 (0 : Int), SV.int IntKind.u64 (0 : Int), SV.ff]), (3, Ent.row true 2 (Row.ints IntKind.i64 [])), (4, Ent.row true 24 (Row.arcs [])), (5, Ent.row true 2 (Row.ints IntKind.i64 [])), (6, Ent.row true 24 (Row.arcs [])), (2, Ent.box true 28 [SV.row (0 : Nat), SV.row (1 : Nat)]), (0, Ent.row false 0 (Row.ints IntKind.i64 I.sup)), (1, Ent.row false 0 (Row.arcs I.arcs))], 10⟩, rel := fun k0 k => k ≤ I.arcs.length, meas := fun k => I.arcs.length - k }),
  (1000012, { G := Unit, inv := fun _ => ⟨[(1, SV.ptr (2 : Nat) (0 : Nat) (0 : Nat) (0 : Nat)), (2, SV.ptr (7 : Nat) (0 : Nat) (0 : Nat) (0 : Nat)), (5, SV.row (8 : Nat)), (6, SV.row (9 : Nat))], [(9, .row false 2 (.ints .i64 (I.arcs.map fun a => (takeLoop a).getD 0))), (8, .row false 4 (.bools (marksOf takeLoop I.arcs))), (7, Ent.box true 34 [SV.row (3 : Nat), SV.row (4 : Nat), SV.int IntKind.i64 (0 : Int), SV.row (5 : Nat), SV.row (6 : Nat), SV.int IntKind.i64 (0 : Int), SV.int IntKind.u64 (0 : Int), SV.ff]), (3, Ent.row true 2 (Row.ints IntKind.i64 [])), (4, Ent.row true 24 (Row.arcs [])), (5, Ent.row true 2 (Row.ints IntKind.i64 [])), (6, Ent.row true 24 (Row.arcs [])), (2, Ent.box true 28 [SV.row (0 : Nat), SV.row (1 : Nat)]), (0, Ent.row false 0 (Row.ints IntKind.i64 I.sup)), (1, Ent.row false 0 (Row.arcs I.arcs))], 10⟩, rel := fun _ _ => True, meas := fun _ => 0 })]
def rLoop_A : List SV → Heap → List (Nat × Ann) := fun args h => match args, h with
  | [.agg [.row 0, .row 1]], [(0, .row false ty0 (.ints .i64 I_s)), (1, .row false ty1 (.arcs I_a))] => rLoop_an ⟨I_s, I_a⟩
  | _, _ => []
def rLoop_g : Specs := [(rRight_n, (true, specOf true rRight_fs)), (LoopOf_n, (true, specOf true LoopOf_fs)), (rOut_n, (true, specOf true rOut_fs))]
abbrev rLoop_n : Nat := 88
def rLoop_I (I : Inst) : List (Nat × ISpec) := []
def rLoop_IA : List SV → Heap → List (Nat × ISpec) := fun _ _ => []
def rFix_r (I : Inst) : FRes := { pre := I.sup.length ≤ 1000000 ∧ I.arcs.length ≤ 1000000, res := .tup [.agg [.row 2, .row 3, .int .i64 ((fixS I).1).pass, .row 4, .row 5, .int .i64 ((fixS I).1).off.hi, .int .u64 ((fixS I).1).off.lo, .bool ((fixS I).1).did], .int .i64 ((fixS I).2)], rows := [.view 2 (.ints .i64 ((fixS I).1).inst.sup), .view 24 (.arcs ((fixS I).1).inst.arcs), .view 2 (.ints .i64 ((fixS I).1).was.sup), .view 24 (.arcs ((fixS I).1).was.arcs)], eff := [] }
def rFix_fs : FS := fun args h => match args, h with
  | [.agg [.row 0, .row 1]], [(0, .row false ty0 (.ints .i64 I_s)), (1, .row false ty1 (.arcs I_a))] => some (rFix_r ⟨I_s, I_a⟩)
  | _, _ => none
def rFix_an (I : Inst) : List (Nat × Ann) := [(7, { G := (Nat), inv := fun k => ⟨[(1, SV.ptr (2 : Nat) (0 : Nat) (0 : Nat) (0 : Nat)), (2, SV.ptr (7 : Nat) (0 : Nat) (0 : Nat) (0 : Nat)), (5, SV.row (8 : Nat)), (6, SV.row (9 : Nat)), (7, .int .i64 k)], [(9, .row true 2 (.ints .i64 (amtTo (fun a => a.low) I k))), (8, .row true 4 (.bools (markTo takeFix I k))), (7, Ent.box true 34 [SV.row (3 : Nat), SV.row (4 : Nat), SV.int IntKind.i64 (0 : Int), SV.row (5 : Nat), SV.row (6 : Nat), SV.int IntKind.i64 (0 : Int), SV.int IntKind.u64 (0 : Int), SV.ff]), (3, Ent.row true 2 (Row.ints IntKind.i64 [])), (4, Ent.row true 24 (Row.arcs [])), (5, Ent.row true 2 (Row.ints IntKind.i64 [])), (6, Ent.row true 24 (Row.arcs [])), (2, Ent.box true 28 [SV.row (0 : Nat), SV.row (1 : Nat)]), (0, Ent.row false 0 (Row.ints IntKind.i64 I.sup)), (1, Ent.row false 0 (Row.arcs I.arcs))], 10⟩, rel := fun k0 k => k ≤ I.arcs.length, meas := fun k => I.arcs.length - k }),
  (1000011, { G := Unit, inv := fun _ => ⟨[(1, SV.ptr (2 : Nat) (0 : Nat) (0 : Nat) (0 : Nat)), (2, SV.ptr (7 : Nat) (0 : Nat) (0 : Nat) (0 : Nat)), (5, SV.row (8 : Nat)), (6, SV.row (9 : Nat))], [(9, .row false 2 (.ints .i64 (I.arcs.map fun a => a.low))), (8, .row false 4 (.bools (marksOf takeFix I.arcs))), (7, Ent.box true 34 [SV.row (3 : Nat), SV.row (4 : Nat), SV.int IntKind.i64 (0 : Int), SV.row (5 : Nat), SV.row (6 : Nat), SV.int IntKind.i64 (0 : Int), SV.int IntKind.u64 (0 : Int), SV.ff]), (3, Ent.row true 2 (Row.ints IntKind.i64 [])), (4, Ent.row true 24 (Row.arcs [])), (5, Ent.row true 2 (Row.ints IntKind.i64 [])), (6, Ent.row true 24 (Row.arcs [])), (2, Ent.box true 28 [SV.row (0 : Nat), SV.row (1 : Nat)]), (0, Ent.row false 0 (Row.ints IntKind.i64 I.sup)), (1, Ent.row false 0 (Row.arcs I.arcs))], 10⟩, rel := fun _ _ => True, meas := fun _ => 0 })]
def rFix_A : List SV → Heap → List (Nat × Ann) := fun args h => match args, h with
  | [.agg [.row 0, .row 1]], [(0, .row false ty0 (.ints .i64 I_s)), (1, .row false ty1 (.arcs I_a))] => rFix_an ⟨I_s, I_a⟩
  | _, _ => []
def rFix_g : Specs := [(rRight_n, (true, specOf true rRight_fs)), (rOut_n, (true, specOf true rOut_fs))]
abbrev rFix_n : Nat := 89
def rFix_I (I : Inst) : List (Nat × ISpec) := []
def rFix_IA : List SV → Heap → List (Nat × ISpec) := fun _ _ => []
def rsome_r (I : Inst) (n : Int) (o : Bool) (i : Bool) : FRes := { pre := I.sup.length ≤ 1000000 ∧ I.arcs.length ≤ 1000000, res := .row 2, rows := [.row 3 (.ints .i64 (someTo I n o i I.arcs.length))], eff := [] }
def rsome_fs : FS := fun args h => match args, h with
  | [.agg [.row 0, .row 1], .int .i64 n, .bool o, .bool i], [(0, .row false ty0 (.ints .i64 I_s)), (1, .row false ty1 (.arcs I_a))] => some (rsome_r ⟨I_s, I_a⟩ n o i)
  | _, _ => none
def rsome_an (I : Inst) (n : Int) (o : Bool) (i : Bool) : List (Nat × Ann) := [(3, { G := (Nat), inv := fun k => ⟨[(1, SV.int IntKind.i64 n), (2, SV.bool o), (3, SV.bool i), (4, SV.ptr (2 : Nat) (0 : Nat) (0 : Nat) (0 : Nat)), (9, SV.row (4 : Nat)), (10, .int .i64 k)], [(4, .row true 3 (.ints .i64 (someTo I n o i k))), (2, Ent.box true 28 [SV.row (0 : Nat), SV.row (1 : Nat)]), (0, Ent.row false 0 (Row.ints IntKind.i64 I.sup)), (1, Ent.row false 0 (Row.arcs I.arcs))], 5⟩, rel := fun k0 k => k ≤ I.arcs.length, meas := fun k => I.arcs.length - k })]
def rsome_A : List SV → Heap → List (Nat × Ann) := fun args h => match args, h with
  | [.agg [.row 0, .row 1], .int .i64 n, .bool o, .bool i], [(0, .row false ty0 (.ints .i64 I_s)), (1, .row false ty1 (.arcs I_a))] => rsome_an ⟨I_s, I_a⟩ n o i
  | _, _ => []
def rsome_g : Specs := [(rfit_n, (true, specOf true rfit_fs))]
abbrev rsome_n : Nat := 149
def rsome_I (I : Inst) (n : Int) (o : Bool) (i : Bool) : List (Nat × ISpec) := []
def rsome_IA : List SV → Heap → List (Nat × ISpec) := fun _ _ => []
def rAt_r (I : Inst) (n : Int) : FRes := { pre := I.sup.length ≤ 1000000 ∧ I.arcs.length ≤ 1000000, res := .row 2, rows := [.row 3 (.ints .i64 (someTo I n true true I.arcs.length))], eff := [] }
def rAt_fs : FS := fun args h => match args, h with
  | [.agg [.row 0, .row 1], .int .i64 n], [(0, .row false ty0 (.ints .i64 I_s)), (1, .row false ty1 (.arcs I_a))] => some (rAt_r ⟨I_s, I_a⟩ n)
  | _, _ => none
def rAt_an (I : Inst) (n : Int) : List (Nat × Ann) := []
def rAt_A : List SV → Heap → List (Nat × Ann) := fun _ _ => []
def rAt_g : Specs := [(rsome_n, (true, specOf true rsome_fs))]
abbrev rAt_n : Nat := 132
def rAt_I (I : Inst) (n : Int) : List (Nat × ISpec) := []
def rAt_IA : List SV → Heap → List (Nat × ISpec) := fun _ _ => []
def LoneOf_r (I : Inst) : FRes := { pre := I.sup.length ≤ 1000000 ∧ I.arcs.length ≤ 1000000 ∧ OkArcs I, res := .row 2, rows := [.row 4 (.bools (loneF I))], eff := [] }
def LoneOf_fs : FS := fun args h => match args, h with
  | [.agg [.row 0, .row 1]], [(0, .row false ty0 (.ints .i64 I_s)), (1, .row false ty1 (.arcs I_a))] => some (LoneOf_r ⟨I_s, I_a⟩)
  | _, _ => none
def LoneOf_an (I : Inst) : List (Nat × Ann) := [(3, { G := (Nat), inv := fun k => ⟨[(1, SV.ptr (2 : Nat) (0 : Nat) (0 : Nat) (0 : Nat)), (3, SV.row (4 : Nat)), (4, .int .i64 k)], [(4, .row true 4 (.bools ((List.range k).map (loneAt I)))), (2, Ent.box true 28 [SV.row (0 : Nat), SV.row (1 : Nat)]), (0, Ent.row false 0 (Row.ints IntKind.i64 I.sup)), (1, Ent.row false 0 (Row.arcs I.arcs))], 5⟩, rel := fun k0 k => k ≤ I.sup.length, meas := fun k => I.sup.length - k })]
def LoneOf_A : List SV → Heap → List (Nat × Ann) := fun args h => match args, h with
  | [.agg [.row 0, .row 1]], [(0, .row false ty0 (.ints .i64 I_s)), (1, .row false ty1 (.arcs I_a))] => LoneOf_an ⟨I_s, I_a⟩
  | _, _ => []
def LoneOf_g : Specs := [(rAt_n, (true, specOf true rAt_fs))]
abbrev LoneOf_n : Nat := 115
def LoneOf_I (I : Inst) : List (Nat × ISpec) := []
def LoneOf_IA : List SV → Heap → List (Nat × ISpec) := fun _ _ => []
def rLone_r (I : Inst) : FRes := { pre := I.sup.length ≤ 1000000 ∧ I.arcs.length ≤ 1000000, res := .tup [.agg [.row 2, .row 3, .int .i64 ((loneS I).1).pass, .row 4, .row 5, .int .i64 ((loneS I).1).off.hi, .int .u64 ((loneS I).1).off.lo, .bool ((loneS I).1).did], .int .i64 ((loneS I).2)], rows := [.view 2 (.ints .i64 ((loneS I).1).inst.sup), .view 24 (.arcs ((loneS I).1).inst.arcs), .view 2 (.ints .i64 ((loneS I).1).was.sup), .view 24 (.arcs ((loneS I).1).was.arcs)], eff := [] }
def rLone_fs : FS := fun args h => match args, h with
  | [.agg [.row 0, .row 1]], [(0, .row false ty0 (.ints .i64 I_s)), (1, .row false ty1 (.arcs I_a))] => some (rLone_r ⟨I_s, I_a⟩)
  | _, _ => none
def rLone_an (I : Inst) : List (Nat × Ann) := []
def rLone_A : List SV → Heap → List (Nat × Ann) := fun _ _ => []
def rLone_g : Specs := [(rRight_n, (true, specOf true rRight_fs)), (LoneOf_n, (true, specOf true LoneOf_fs)), (rWithout_n, (true, specOf true rWithout_fs)), (Done15_n, (false, Done15_spec))]
abbrev rLone_n : Nat := 90
def rLone_I (I : Inst) : List (Nat × ISpec) := []
def rLone_IA : List SV → Heap → List (Nat × ISpec) := fun _ _ => []
def StepSame_r (s : StepD) (t : StepD) : FRes := { pre := StepSmall s ∧ StepSmall t, res := .bool (decide (s = t)), rows := [], eff := [] }
def StepSame_fs : FS := fun args h => match args, h with
  | [.agg [.row 0, .row 1, .int .i64 s_p, .row 2, .row 3, .int .i64 s_h, .int .u64 s_l, .bool s_d], .agg [.row 4, .row 5, .int .i64 t_p, .row 6, .row 7, .int .i64 t_h, .int .u64 t_l, .bool t_d]], [(0, .row false ty0 (.ints .i64 s_s)), (1, .row false ty1 (.arcs s_a)), (2, .row false ty2 (.ints .i64 s_t)), (3, .row false ty3 (.arcs s_b)), (4, .row false ty4 (.ints .i64 t_s)), (5, .row false ty5 (.arcs t_a)), (6, .row false ty6 (.ints .i64 t_t)), (7, .row false ty7 (.arcs t_b))] => some (StepSame_r ⟨⟨s_s, s_a⟩, s_p, ⟨s_t, s_b⟩, ⟨s_h, s_l⟩, s_d⟩ ⟨⟨t_s, t_a⟩, t_p, ⟨t_t, t_b⟩, ⟨t_h, t_l⟩, t_d⟩)
  | _, _ => none
def StepSame_an (s : StepD) (t : StepD) : List (Nat × Ann) := []
def StepSame_A : List SV → Heap → List (Nat × Ann) := fun _ _ => []
def StepSame_g : Specs := [(rSame_n, (true, specOf true rSame_fs))]
abbrev StepSame_n : Nat := 53
def StepSame_I (s : StepD) (t : StepD) : List (Nat × ISpec) := []
def StepSame_IA : List SV → Heap → List (Nat × ISpec) := fun _ _ => []
def pass15_r (k : Int) (I : Inst) : FRes := { pre := 0 ≤ k ∧ k ≤ 255 ∧ I.sup.length ≤ 1000000 ∧ I.arcs.length ≤ 1000000, res := .tup [.agg [.row 2, .row 3, .int .i64 ((passK k I).1).pass, .row 4, .row 5, .int .i64 ((passK k I).1).off.hi, .int .u64 ((passK k I).1).off.lo, .bool ((passK k I).1).did], .int .u16 ((passK k I).2)], rows := [.row 2 (.ints .i64 ((passK k I).1).inst.sup), .row 24 (.arcs ((passK k I).1).inst.arcs), .row 2 (.ints .i64 ((passK k I).1).was.sup), .row 24 (.arcs ((passK k I).1).was.arcs)], eff := [] }
def pass15_fs : FS := fun args h => match args, h with
  | [.int .u8 k, .agg [.row 0, .row 1]], [(0, .row false ty0 (.ints .i64 I_s)), (1, .row false ty1 (.arcs I_a))] => some (pass15_r k ⟨I_s, I_a⟩)
  | _, _ => none
def pass15_an (k : Int) (I : Inst) : List (Nat × Ann) := []
def pass15_A : List SV → Heap → List (Nat × Ann) := fun _ _ => []
def pass15_g : Specs := [(Low_n, (true, specOf true Low_fs)), (Loop_n, (true, specOf true Loop_fs)), (Fix_n, (true, specOf true Fix_fs)), (Lone_n, (true, specOf true Lone_fs))]
abbrev pass15_n : Nat := 22
def pass15_I (k : Int) (I : Inst) : List (Nat × ISpec) := []
def pass15_IA : List SV → Heap → List (Nat × ISpec) := fun _ _ => []
def ref15_r (k : Int) (I : Inst) : FRes := { pre := 0 ≤ k ∧ k ≤ 255 ∧ I.sup.length ≤ 1000000 ∧ I.arcs.length ≤ 1000000, res := .tup [.agg [.row 2, .row 3, .int .i64 ((passK k I).1).pass, .row 4, .row 5, .int .i64 ((passK k I).1).off.hi, .int .u64 ((passK k I).1).off.lo, .bool ((passK k I).1).did], .int .i64 ((passK k I).2)], rows := [.view 2 (.ints .i64 ((passK k I).1).inst.sup), .view 24 (.arcs ((passK k I).1).inst.arcs), .view 2 (.ints .i64 ((passK k I).1).was.sup), .view 24 (.arcs ((passK k I).1).was.arcs)], eff := [] }
def ref15_fs : FS := fun args h => match args, h with
  | [.int .u8 k, .agg [.row 0, .row 1]], [(0, .row false ty0 (.ints .i64 I_s)), (1, .row false ty1 (.arcs I_a))] => some (ref15_r k ⟨I_s, I_a⟩)
  | _, _ => none
def ref15_an (k : Int) (I : Inst) : List (Nat × Ann) := []
def ref15_A : List SV → Heap → List (Nat × Ann) := fun _ _ => []
def ref15_g : Specs := [(rLow_n, (true, specOf true rLow_fs)), (rLoop_n, (true, specOf true rLoop_fs)), (rFix_n, (true, specOf true rFix_fs)), (rLone_n, (true, specOf true rLone_fs))]
abbrev ref15_n : Nat := 52
def ref15_I (k : Int) (I : Inst) : List (Nat × ISpec) := []
def ref15_IA : List SV → Heap → List (Nat × ISpec) := fun _ _ => []
def does15_r (k : Int) (I : Inst) : FRes := { pre := 0 ≤ k ∧ k ≤ 255 ∧ I.sup.length ≤ 1000000 ∧ I.arcs.length ≤ 1000000, res := .bool (true), rows := [], eff := [] }
def does15_fs : FS := fun args h => match args, h with
  | [.int .u8 k, .agg [.row 0, .row 1]], [(0, .row false ty0 (.ints .i64 I_s)), (1, .row false ty1 (.arcs I_a))] => some (does15_r k ⟨I_s, I_a⟩)
  | _, _ => none
def does15_an (k : Int) (I : Inst) : List (Nat × Ann) := []
def does15_A : List SV → Heap → List (Nat × Ann) := fun _ _ => []
def does15_g : Specs := [(pass15_n, (true, specOf true pass15_fs)), (ref15_n, (true, specOf true ref15_fs)), (StepSame_n, (true, specOf true StepSame_fs))]
abbrev does15_n : Nat := 20
def does15_I (k : Int) (I : Inst) : List (Nat × ISpec) := []
def does15_IA : List SV → Heap → List (Nat × ISpec) := fun _ _ => []
end Go.Proofs.Ytahbkllfifmdfaa
