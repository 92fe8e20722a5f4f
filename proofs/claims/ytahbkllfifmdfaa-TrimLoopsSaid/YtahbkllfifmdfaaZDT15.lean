/- Part of the proof, DT15. -/
import Derived.Test.YtahbkllfifmdfaaZDA4
import Derived.Test.YtahbkllfifmdfaaZDN1
import Derived.Test.YtahbkllfifmdfaaZTrim
import Derived.Test.YtahbkllfifmdfaaZTy
set_option linter.all false
set_option linter.unusedSimpArgs false
set_option linter.unusedVariables false
namespace Go.Proofs.Ytahbkllfifmdfaa
open Go Go.RowKit Go.Ql Go.Vc
abbrev fix15_n : Nat := 86
def fix15_g : Specs := [(Plus_n, (true, specOf true Plus_fs)), (Times_n, (true, specOf true Times_fs))]
def fix15_spec : Vc.Spec := inlSpec TT fix15_g (fun _ _ _ => []) Try.f86
def low15_r (w : WorkD) : FRes := { pre := rightF w.inst = 0 ∧ w.off = W 0 ∧ w.did = false ∧ w.nodes = List.replicate w.inst.sup.length false ∧ w.arcs = List.replicate w.inst.arcs.length false, res := .tup [], rows := [], eff := [(0, .box true 122 [.row 1, .row 2, .row 3, .row 4, .int .i64 ((workLow w.inst w.nodes w.arcs).off.hi), .int .u64 ((workLow w.inst w.nodes w.arcs).off.lo), .bool ((workLow w.inst w.nodes w.arcs).did)]), (1, .row true 2 (.ints .i64 (workLow w.inst w.nodes w.arcs).inst.sup)), (2, .row true 24 (.arcs (workLow w.inst w.nodes w.arcs).inst.arcs)), (3, .row true 4 (.bools (workLow w.inst w.nodes w.arcs).nodes)), (4, .row true 4 (.bools (workLow w.inst w.nodes w.arcs).arcs))] }
def low15_fs : FS := fun args h => match args, h with
  | [.ptr 0 0 0 0], [(0, .box true 122 [.row 1, .row 2, .row 3, .row 4, .int .i64 w_h, .int .u64 w_l, .bool w_d]), (1, .row true 2 (.ints .i64 w_s)), (2, .row true 24 (.arcs w_a)), (3, .row true 4 (.bools w_n)), (4, .row true 4 (.bools w_c))] => some (low15_r ⟨⟨w_s, w_a⟩, w_n, w_c, ⟨w_h, w_l⟩, w_d⟩)
  | _, _ => none
def low15_an (w : WorkD) : List (Nat × Ann) := [(1, { G := (Nat), inv := fun k => ⟨[(0, SV.ptr (0 : Nat) (0 : Nat) (0 : Nat) (0 : Nat)), (8, SV.row (2 : Nat)), (9, SV.int IntKind.i64 (↑w.inst.arcs.length : Int)), (10, .int .i64 k)], [(0, .box true 122 [.row 1, .row 2, .row 3, .row 4, .int .i64 ((W (offTo takeLow w.inst k)).hi), .int .u64 ((W (offTo takeLow w.inst k)).lo), .bool (didTo takeLow w.inst k)]), (1, .row true 2 (.ints .i64 (supTo takeLow w.inst k))), (2, .row true 24 (.arcs ((w.inst.arcs.take k).map lowArc ++ w.inst.arcs.drop k))), (3, Ent.row true 4 (Row.bools w.nodes)), (4, .row true 4 (.bools (w.arcs)))], 5⟩, rel := fun k0 k => k ≤ w.inst.arcs.length, meas := fun k => w.inst.arcs.length - k })]
def low15_A : List SV → Heap → List (Nat × Ann) := fun args h => match args, h with
  | [.ptr 0 0 0 0], [(0, .box true 122 [.row 1, .row 2, .row 3, .row 4, .int .i64 w_h, .int .u64 w_l, .bool w_d]), (1, .row true 2 (.ints .i64 w_s)), (2, .row true 24 (.arcs w_a)), (3, .row true 4 (.bools w_n)), (4, .row true 4 (.bools w_c))] => low15_an ⟨⟨w_s, w_a⟩, w_n, w_c, ⟨w_h, w_l⟩, w_d⟩
  | _, _ => []
def low15_g : Specs := [(fix15_n, (false, fix15_spec))]
abbrev low15_n : Nat := 48
def low15_I (w : WorkD) : List (Nat × ISpec) := []
def low15_IA : List SV → Heap → List (Nat × ISpec) := fun _ _ => []
def loop15_r (w : WorkD) : FRes := { pre := rightF w.inst = 0 ∧ w.off = W 0 ∧ w.did = false ∧ w.nodes = List.replicate w.inst.sup.length false ∧ w.arcs = List.replicate w.inst.arcs.length false, res := .tup [], rows := [], eff := [(0, .box true 122 [.row 1, .row 2, .row 3, .row 4, .int .i64 ((workTake takeLoop w.inst w.nodes).off.hi), .int .u64 ((workTake takeLoop w.inst w.nodes).off.lo), .bool ((workTake takeLoop w.inst w.nodes).did)]), (1, .row true 2 (.ints .i64 (workTake takeLoop w.inst w.nodes).inst.sup)), (2, .row true 24 (.arcs (workTake takeLoop w.inst w.nodes).inst.arcs)), (3, .row true 4 (.bools (workTake takeLoop w.inst w.nodes).nodes)), (4, .row true 4 (.bools (workTake takeLoop w.inst w.nodes).arcs))] }
def loop15_fs : FS := fun args h => match args, h with
  | [.ptr 0 0 0 0], [(0, .box true 122 [.row 1, .row 2, .row 3, .row 4, .int .i64 w_h, .int .u64 w_l, .bool w_d]), (1, .row true 2 (.ints .i64 w_s)), (2, .row true 24 (.arcs w_a)), (3, .row true 4 (.bools w_n)), (4, .row true 4 (.bools w_c))] => some (loop15_r ⟨⟨w_s, w_a⟩, w_n, w_c, ⟨w_h, w_l⟩, w_d⟩)
  | _, _ => none
def loop15_an (w : WorkD) : List (Nat × Ann) := [(1, { G := (Nat), inv := fun k => ⟨[(0, SV.ptr (0 : Nat) (0 : Nat) (0 : Nat) (0 : Nat)), (8, SV.row (2 : Nat)), (9, SV.int IntKind.i64 (↑w.inst.arcs.length : Int)), (10, .int .i64 k)], [(0, .box true 122 [.row 1, .row 2, .row 3, .row 4, .int .i64 ((W (offTo takeLoop w.inst k)).hi), .int .u64 ((W (offTo takeLoop w.inst k)).lo), .bool (didTo takeLoop w.inst k)]), (1, .row true 2 (.ints .i64 (supTo takeLoop w.inst k))), (2, .row true 24 (.arcs (w.inst.arcs))), (3, Ent.row true 4 (Row.bools w.nodes)), (4, .row true 4 (.bools (markTo takeLoop w.inst k)))], 5⟩, rel := fun k0 k => k ≤ w.inst.arcs.length, meas := fun k => w.inst.arcs.length - k })]
def loop15_A : List SV → Heap → List (Nat × Ann) := fun args h => match args, h with
  | [.ptr 0 0 0 0], [(0, .box true 122 [.row 1, .row 2, .row 3, .row 4, .int .i64 w_h, .int .u64 w_l, .bool w_d]), (1, .row true 2 (.ints .i64 w_s)), (2, .row true 24 (.arcs w_a)), (3, .row true 4 (.bools w_n)), (4, .row true 4 (.bools w_c))] => loop15_an ⟨⟨w_s, w_a⟩, w_n, w_c, ⟨w_h, w_l⟩, w_d⟩
  | _, _ => []
def loop15_g : Specs := [(fix15_n, (false, fix15_spec))]
abbrev loop15_n : Nat := 67
def loop15_I (w : WorkD) : List (Nat × ISpec) := []
def loop15_IA : List SV → Heap → List (Nat × ISpec) := fun _ _ => []
def fixed15_r (w : WorkD) : FRes := { pre := rightF w.inst = 0 ∧ w.off = W 0 ∧ w.did = false ∧ w.nodes = List.replicate w.inst.sup.length false ∧ w.arcs = List.replicate w.inst.arcs.length false, res := .tup [], rows := [], eff := [(0, .box true 122 [.row 1, .row 2, .row 3, .row 4, .int .i64 ((workTake takeFix w.inst w.nodes).off.hi), .int .u64 ((workTake takeFix w.inst w.nodes).off.lo), .bool ((workTake takeFix w.inst w.nodes).did)]), (1, .row true 2 (.ints .i64 (workTake takeFix w.inst w.nodes).inst.sup)), (2, .row true 24 (.arcs (workTake takeFix w.inst w.nodes).inst.arcs)), (3, .row true 4 (.bools (workTake takeFix w.inst w.nodes).nodes)), (4, .row true 4 (.bools (workTake takeFix w.inst w.nodes).arcs))] }
def fixed15_fs : FS := fun args h => match args, h with
  | [.ptr 0 0 0 0], [(0, .box true 122 [.row 1, .row 2, .row 3, .row 4, .int .i64 w_h, .int .u64 w_l, .bool w_d]), (1, .row true 2 (.ints .i64 w_s)), (2, .row true 24 (.arcs w_a)), (3, .row true 4 (.bools w_n)), (4, .row true 4 (.bools w_c))] => some (fixed15_r ⟨⟨w_s, w_a⟩, w_n, w_c, ⟨w_h, w_l⟩, w_d⟩)
  | _, _ => none
def fixed15_an (w : WorkD) : List (Nat × Ann) := [(1, { G := (Nat), inv := fun k => ⟨[(0, SV.ptr (0 : Nat) (0 : Nat) (0 : Nat) (0 : Nat)), (8, SV.row (2 : Nat)), (9, SV.int IntKind.i64 (↑w.inst.arcs.length : Int)), (10, .int .i64 k)], [(0, .box true 122 [.row 1, .row 2, .row 3, .row 4, .int .i64 ((W (offTo takeFix w.inst k)).hi), .int .u64 ((W (offTo takeFix w.inst k)).lo), .bool (didTo takeFix w.inst k)]), (1, .row true 2 (.ints .i64 (supTo takeFix w.inst k))), (2, .row true 24 (.arcs (w.inst.arcs))), (3, Ent.row true 4 (Row.bools w.nodes)), (4, .row true 4 (.bools (markTo takeFix w.inst k)))], 5⟩, rel := fun k0 k => k ≤ w.inst.arcs.length, meas := fun k => w.inst.arcs.length - k })]
def fixed15_A : List SV → Heap → List (Nat × Ann) := fun args h => match args, h with
  | [.ptr 0 0 0 0], [(0, .box true 122 [.row 1, .row 2, .row 3, .row 4, .int .i64 w_h, .int .u64 w_l, .bool w_d]), (1, .row true 2 (.ints .i64 w_s)), (2, .row true 24 (.arcs w_a)), (3, .row true 4 (.bools w_n)), (4, .row true 4 (.bools w_c))] => fixed15_an ⟨⟨w_s, w_a⟩, w_n, w_c, ⟨w_h, w_l⟩, w_d⟩
  | _, _ => []
def fixed15_g : Specs := [(fix15_n, (false, fix15_spec))]
abbrev fixed15_n : Nat := 50
def fixed15_I (w : WorkD) : List (Nat × ISpec) := []
def fixed15_IA : List SV → Heap → List (Nat × ISpec) := fun _ _ => []
def lone15_r (w : WorkD) : FRes := { pre := rightF w.inst = 0 ∧ w.off = W 0 ∧ w.did = false ∧ w.nodes = List.replicate w.inst.sup.length false ∧ w.arcs = List.replicate w.inst.arcs.length false, res := .tup [], rows := [], eff := [(0, .box true 122 [.row 1, .row 2, .row 3, .row 4, .int .i64 ((workLone w.inst w.arcs).off.hi), .int .u64 ((workLone w.inst w.arcs).off.lo), .bool ((workLone w.inst w.arcs).did)]), (1, .row true 2 (.ints .i64 (workLone w.inst w.arcs).inst.sup)), (2, .row true 24 (.arcs (workLone w.inst w.arcs).inst.arcs)), (3, .row true 4 (.bools (workLone w.inst w.arcs).nodes)), (4, .row true 4 (.bools (workLone w.inst w.arcs).arcs))] }
def lone15_fs : FS := fun args h => match args, h with
  | [.ptr 0 0 0 0], [(0, .box true 122 [.row 1, .row 2, .row 3, .row 4, .int .i64 w_h, .int .u64 w_l, .bool w_d]), (1, .row true 2 (.ints .i64 w_s)), (2, .row true 24 (.arcs w_a)), (3, .row true 4 (.bools w_n)), (4, .row true 4 (.bools w_c))] => some (lone15_r ⟨⟨w_s, w_a⟩, w_n, w_c, ⟨w_h, w_l⟩, w_d⟩)
  | _, _ => none
def lone15_an (w : WorkD) : List (Nat × Ann) := [(2, { G := (Nat), inv := fun k => ⟨[(0, SV.ptr (0 : Nat) (0 : Nat) (0 : Nat) (0 : Nat)), (2, SV.row (5 : Nat)), (18, SV.row (2 : Nat)), (19, SV.int IntKind.i64 (↑w.inst.arcs.length : Int)), (20, .int .i64 k)], [(5, .row true 4 (.bools (touchTo w.inst k))), (0, Ent.box true 122 [SV.row (1 : Nat), SV.row (2 : Nat), SV.row (3 : Nat), SV.row (4 : Nat), SV.int IntKind.i64 w.off.hi, SV.int IntKind.u64 w.off.lo, SV.bool w.did]), (1, Ent.row true 2 (Row.ints IntKind.i64 w.inst.sup)), (2, Ent.row true 24 (Row.arcs w.inst.arcs)), (3, Ent.row true 4 (Row.bools w.nodes)), (4, Ent.row true 4 (Row.bools w.arcs))], 6⟩, rel := fun k0 k => k ≤ w.inst.arcs.length, meas := fun k => w.inst.arcs.length - k }),
  (8, { G := (Nat), inv := fun k => ⟨[(0, SV.ptr (0 : Nat) (0 : Nat) (0 : Nat) (0 : Nat)), (2, SV.row (5 : Nat)), (37, SV.row (1 : Nat)), (38, SV.int IntKind.i64 (↑w.inst.sup.length : Int)), (39, .int .i64 k)], [(5, .row true 4 (.bools ((List.range w.inst.sup.length).map (touchF w.inst.arcs)))), (0, .box true 122 [.row 1, .row 2, .row 3, .row 4, .int .i64 (w.off.hi), .int .u64 (w.off.lo), .bool (((List.range k).map (loneAt w.inst)).any id)]), (1, Ent.row true 2 (Row.ints IntKind.i64 w.inst.sup)), (2, Ent.row true 24 (Row.arcs w.inst.arcs)), (3, .row true 4 (.bools (loneTo w.inst k))), (4, Ent.row true 4 (Row.bools w.arcs))], 6⟩, rel := fun k0 k => k ≤ w.inst.sup.length, meas := fun k => w.inst.sup.length - k })]
def lone15_A : List SV → Heap → List (Nat × Ann) := fun args h => match args, h with
  | [.ptr 0 0 0 0], [(0, .box true 122 [.row 1, .row 2, .row 3, .row 4, .int .i64 w_h, .int .u64 w_l, .bool w_d]), (1, .row true 2 (.ints .i64 w_s)), (2, .row true 24 (.arcs w_a)), (3, .row true 4 (.bools w_n)), (4, .row true 4 (.bools w_c))] => lone15_an ⟨⟨w_s, w_a⟩, w_n, w_c, ⟨w_h, w_l⟩, w_d⟩
  | _, _ => []
def lone15_g : Specs := []
abbrev lone15_n : Nat := 51
def lone15_I (w : WorkD) : List (Nat × ISpec) := []
def lone15_IA : List SV → Heap → List (Nat × ISpec) := fun _ _ => []
abbrev step15_n : Nat := 85
def step15_g : Specs := [(Copy_n, (true, specOf true Copy_fs)), (Without_n, (true, specOf true Without_fs)), (Right_n, (true, specOf true Right_fs))]
def step15_spec : Vc.Spec := panSpec TT step15_g (fun _ _ _ => []) Try.f85
abbrev runC_n : Nat := 83
def runC_g : Specs := []
def runC_d : Value → Vc.Spec := recSpec TT runC_g (fun _ _ _ => []) Try.f83
abbrev run15_n : Nat := 47
def run15_g : Specs := [(Right_n, (true, specOf true Right_fs)), (Copy_n, (true, specOf true Copy_fs)), (low15_n, (false, specOf false low15_fs)), (loop15_n, (false, specOf false loop15_fs)), (fixed15_n, (false, specOf false fixed15_fs)), (lone15_n, (false, specOf false lone15_fs)), (pid step15_n, (false, step15_spec))]
def run15_spec : Vc.Spec := inlD TT run15_g (fun _ _ _ => []) runC_n runC_d Try.f47
def Low_r (I : Inst) : FRes := { pre := I.sup.length ≤ 1000000 ∧ I.arcs.length ≤ 1000000, res := .tup [.agg [.row 2, .row 3, .int .i64 ((lowS I).1).pass, .row 4, .row 5, .int .i64 ((lowS I).1).off.hi, .int .u64 ((lowS I).1).off.lo, .bool ((lowS I).1).did], .int .u16 ((lowS I).2)], rows := [.row 2 (.ints .i64 ((lowS I).1).inst.sup), .row 24 (.arcs ((lowS I).1).inst.arcs), .row 2 (.ints .i64 ((lowS I).1).was.sup), .row 24 (.arcs ((lowS I).1).was.arcs)], eff := [] }
def Low_fs : FS := fun args h => match args, h with
  | [.agg [.row 0, .row 1]], [(0, .row false ty0 (.ints .i64 I_s)), (1, .row false ty1 (.arcs I_a))] => some (Low_r ⟨I_s, I_a⟩)
  | _, _ => none
def Low_an (I : Inst) : List (Nat × Ann) := []
def Low_A : List SV → Heap → List (Nat × Ann) := fun _ _ => []
def Low_g : Specs := [(run15_n, (false, run15_spec))]
abbrev Low_n : Nat := 14
def Low_I (I : Inst) : List (Nat × ISpec) := []
def Low_IA : List SV → Heap → List (Nat × ISpec) := fun _ _ => []
def Loop_r (I : Inst) : FRes := { pre := I.sup.length ≤ 1000000 ∧ I.arcs.length ≤ 1000000, res := .tup [.agg [.row 2, .row 3, .int .i64 ((loopS I).1).pass, .row 4, .row 5, .int .i64 ((loopS I).1).off.hi, .int .u64 ((loopS I).1).off.lo, .bool ((loopS I).1).did], .int .u16 ((loopS I).2)], rows := [.row 2 (.ints .i64 ((loopS I).1).inst.sup), .row 24 (.arcs ((loopS I).1).inst.arcs), .row 2 (.ints .i64 ((loopS I).1).was.sup), .row 24 (.arcs ((loopS I).1).was.arcs)], eff := [] }
def Loop_fs : FS := fun args h => match args, h with
  | [.agg [.row 0, .row 1]], [(0, .row false ty0 (.ints .i64 I_s)), (1, .row false ty1 (.arcs I_a))] => some (Loop_r ⟨I_s, I_a⟩)
  | _, _ => none
def Loop_an (I : Inst) : List (Nat × Ann) := []
def Loop_A : List SV → Heap → List (Nat × Ann) := fun _ _ => []
def Loop_g : Specs := [(run15_n, (false, run15_spec))]
abbrev Loop_n : Nat := 35
def Loop_I (I : Inst) : List (Nat × ISpec) := []
def Loop_IA : List SV → Heap → List (Nat × ISpec) := fun _ _ => []
def Fix_r (I : Inst) : FRes := { pre := I.sup.length ≤ 1000000 ∧ I.arcs.length ≤ 1000000, res := .tup [.agg [.row 2, .row 3, .int .i64 ((fixS I).1).pass, .row 4, .row 5, .int .i64 ((fixS I).1).off.hi, .int .u64 ((fixS I).1).off.lo, .bool ((fixS I).1).did], .int .u16 ((fixS I).2)], rows := [.row 2 (.ints .i64 ((fixS I).1).inst.sup), .row 24 (.arcs ((fixS I).1).inst.arcs), .row 2 (.ints .i64 ((fixS I).1).was.sup), .row 24 (.arcs ((fixS I).1).was.arcs)], eff := [] }
def Fix_fs : FS := fun args h => match args, h with
  | [.agg [.row 0, .row 1]], [(0, .row false ty0 (.ints .i64 I_s)), (1, .row false ty1 (.arcs I_a))] => some (Fix_r ⟨I_s, I_a⟩)
  | _, _ => none
def Fix_an (I : Inst) : List (Nat × Ann) := []
def Fix_A : List SV → Heap → List (Nat × Ann) := fun _ _ => []
def Fix_g : Specs := [(run15_n, (false, run15_spec))]
abbrev Fix_n : Nat := 17
def Fix_I (I : Inst) : List (Nat × ISpec) := []
def Fix_IA : List SV → Heap → List (Nat × ISpec) := fun _ _ => []
def Lone_r (I : Inst) : FRes := { pre := I.sup.length ≤ 1000000 ∧ I.arcs.length ≤ 1000000, res := .tup [.agg [.row 2, .row 3, .int .i64 ((loneS I).1).pass, .row 4, .row 5, .int .i64 ((loneS I).1).off.hi, .int .u64 ((loneS I).1).off.lo, .bool ((loneS I).1).did], .int .u16 ((loneS I).2)], rows := [.row 2 (.ints .i64 ((loneS I).1).inst.sup), .row 24 (.arcs ((loneS I).1).inst.arcs), .row 2 (.ints .i64 ((loneS I).1).was.sup), .row 24 (.arcs ((loneS I).1).was.arcs)], eff := [] }
def Lone_fs : FS := fun args h => match args, h with
  | [.agg [.row 0, .row 1]], [(0, .row false ty0 (.ints .i64 I_s)), (1, .row false ty1 (.arcs I_a))] => some (Lone_r ⟨I_s, I_a⟩)
  | _, _ => none
def Lone_an (I : Inst) : List (Nat × Ann) := []
def Lone_A : List SV → Heap → List (Nat × Ann) := fun _ _ => []
def Lone_g : Specs := [(run15_n, (false, run15_spec))]
abbrev Lone_n : Nat := 18
def Lone_I (I : Inst) : List (Nat × ISpec) := []
def Lone_IA : List SV → Heap → List (Nat × ISpec) := fun _ _ => []
end Go.Proofs.Ytahbkllfifmdfaa
