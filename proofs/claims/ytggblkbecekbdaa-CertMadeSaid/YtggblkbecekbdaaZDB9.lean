/- Part of the proof, DB9. -/
import Derived.Test.YtggblkbecekbdaaZDRf
import Derived.Test.YtggblkbecekbdaaZTy
set_option linter.all false
set_option linter.unusedSimpArgs false
set_option linter.unusedVariables false
namespace Go.Proofs.Ytggblkbecekbdaa
open Go Go.RowKit Go.Ql Go.Vc
def has_r (g_n : Int) (g_l : List Arc) (g_i : List Int) (g_s : List Int) (a : Int) : FRes := { pre := True, res := .bool (decide (0 ≤ a) && decide (a < g_n)), rows := [], eff := [] }
def has_fs : FS := fun args h => match args, h with
  | [.ptr 0 0 0 0, .int .i64 a], [(0, .box false ty0 [.int .i64 g_n, .row 1, .row 2, .row 3]), (1, .row false ty1 (.arcs g_l)), (2, .row false ty2 (.ints .i64 g_i)), (3, .row false ty3 (.ints .i64 g_s))] => some (has_r g_n g_l g_i g_s a)
  | _, _ => none
def has_an (g_n : Int) (g_l : List Arc) (g_i : List Int) (g_s : List Int) (a : Int) : List (Nat × Ann) := []
def has_A : List SV → Heap → List (Nat × Ann) := fun _ _ => []
def has_g : Specs := []
abbrev has_n : Nat := 105
def has_I (g_n : Int) (g_l : List Arc) (g_i : List Int) (g_s : List Int) (a : Int) : List (Nat × ISpec) := []
def has_IA : List SV → Heap → List (Nat × ISpec) := fun _ _ => []
def GArc_r (g_n : Int) (g_l : List Arc) (g_i : List Int) (g_s : List Int) (a : Int) : FRes := { pre := True, res := .tup [.agg (encArc (gArc g_n g_l a)), .bool (gOk g_n g_l a)], rows := [], eff := [] }
def GArc_fs : FS := fun args h => match args, h with
  | [.ptr 0 0 0 0, .int .i64 a], [(0, .box false ty0 [.int .i64 g_n, .row 1, .row 2, .row 3]), (1, .row false ty1 (.arcs g_l)), (2, .row false ty2 (.ints .i64 g_i)), (3, .row false ty3 (.ints .i64 g_s))] => some (GArc_r g_n g_l g_i g_s a)
  | _, _ => none
def GArc_an (g_n : Int) (g_l : List Arc) (g_i : List Int) (g_s : List Int) (a : Int) : List (Nat × Ann) := []
def GArc_A : List SV → Heap → List (Nat × Ann) := fun _ _ => []
def GArc_g : Specs := [(has_n, (true, specOf true has_fs))]
abbrev GArc_n : Nat := 65
def GArc_I (g_n : Int) (g_l : List Arc) (g_i : List Int) (g_s : List Int) (a : Int) : List (Nat × ISpec) := []
def GArc_IA : List SV → Heap → List (Nat × ISpec) := fun _ _ => []
def CloneI_r (l : List Int) : FRes := { pre := l.length ≤ 1000000000, res := .row 1, rows := [.row 3 (.ints .i64 (l))], eff := [] }
def CloneI_fs : FS := fun args h => match args, h with
  | [.row 0], [(0, .row false ty0 (.ints .i64 l))] => some (CloneI_r l)
  | _, _ => none
def CloneI_an (l : List Int) : List (Nat × Ann) := []
def CloneI_A : List SV → Heap → List (Nat × Ann) := fun _ _ => []
def CloneI_g : Specs := []
abbrev CloneI_n : Nat := 66
def CloneI_I (l : List Int) : List (Nat × ISpec) := []
def CloneI_IA : List SV → Heap → List (Nat × ISpec) := fun _ _ => []
abbrev put_n : Nat := 67
def put_g : Specs := []
def put_spec : Vc.Spec := inlSpec TT put_g (fun _ _ _ => []) Try.f67
def New_r (I : Inst) : FRes := { pre := I.sup.length ≤ 10000 ∧ I.arcs.length ≤ 10000, res := .ptr 2 0 0 0, rows := [.box 117 [.int .i64 I.sup.length, .row 3, .row 4, .row 5], .row 50 (.arcs I.arcs), .row 3 (.ints .i64 (listF I)), .row 3 (.ints .i64 (startF I))], eff := [] }
def New_fs : FS := fun args h => match args, h with
  | [.agg [.row 0, .row 1]], [(0, .row false ty0 (.ints .i64 I_s)), (1, .row false ty1 (.arcs I_a))] => some (New_r ⟨I_s, I_a⟩)
  | _, _ => none
def New_an (I : Inst) : List (Nat × Ann) := [(1000002, { G := Unit, inv := fun _ => ⟨[(3, SV.ptr (9 : Nat) (0 : Nat) (0 : Nat) (0 : Nat))], [(9, Ent.box true 85 [SV.ptr (8 : Nat) (0 : Nat) (0 : Nat) (0 : Nat)]), (8, Ent.box true 117 [SV.int IntKind.i64 (↑I.sup.length : Int), SV.row (4 : Nat), SV.row (6 : Nat), SV.row (7 : Nat)]), (6, Ent.row true 3 (Row.ints IntKind.i64 [])), (7, Ent.row true 3 (Row.ints IntKind.i64 [])), (4, Ent.row true 50 (Row.arcs I.arcs))], 10⟩, rel := fun _ _ => True, meas := fun _ => 0 }),
  (4, { G := (Nat), inv := fun k => ⟨[(3, SV.ptr (9 : Nat) (0 : Nat) (0 : Nat) (0 : Nat)), (35, SV.int IntKind.i64 (↑I.arcs.length : Int)), (36, .int .i64 k)], [(10, .row true 3 (.ints .i64 (S1 I k))), (9, Ent.box true 85 [SV.ptr (8 : Nat) (0 : Nat) (0 : Nat) (0 : Nat)]), (8, Ent.box true 117 [SV.int IntKind.i64 (↑I.sup.length : Int), SV.row (4 : Nat), SV.row (6 : Nat), SV.row (10 : Nat)]), (6, Ent.row true 3 (Row.ints IntKind.i64 [])), (4, Ent.row true 50 (Row.arcs I.arcs))], 11⟩, rel := fun k0 k => k ≤ I.arcs.length, meas := fun k => I.arcs.length - k }),
  (12, { G := (Nat), inv := fun k => ⟨[(3, SV.ptr (9 : Nat) (0 : Nat) (0 : Nat) (0 : Nat)), (77, .int .i64 (2 * I.sup.length : Nat)), (78, .int .i64 k)], [(10, .row true 3 (.ints .i64 (S2 I k))), (9, Ent.box true 85 [SV.ptr (8 : Nat) (0 : Nat) (0 : Nat) (0 : Nat)]), (8, Ent.box true 117 [SV.int IntKind.i64 (↑I.sup.length : Int), SV.row (4 : Nat), SV.row (6 : Nat), SV.row (10 : Nat)]), (6, Ent.row true 3 (Row.ints IntKind.i64 [])), (4, Ent.row true 50 (Row.arcs I.arcs))], 11⟩, rel := fun k0 k => k ≤ 2 * I.sup.length, meas := fun k => 2 * I.sup.length - k }),
  (20, { G := (Nat), inv := fun k => ⟨[(3, SV.ptr (9 : Nat) (0 : Nat) (0 : Nat) (0 : Nat)), (9, SV.fn 67 [SV.ptr (9 : Nat) (0 : Nat) (0 : Nat) (0 : Nat), SV.ptr (14 : Nat) (0 : Nat) (0 : Nat) (0 : Nat)]), (124, SV.int IntKind.i64 (↑I.arcs.length : Int)), (125, .int .i64 k)], [(14, Ent.box true 25 [SV.row (12 : Nat)]), (12, .row true 3 (.ints .i64 (N3 I k))), (11, .row true 3 (.ints .i64 (L3 I k))), (10, .row true 3 (.ints .i64 (startF I))), (9, Ent.box true 85 [SV.ptr (8 : Nat) (0 : Nat) (0 : Nat) (0 : Nat)]), (8, Ent.box true 117 [SV.int IntKind.i64 (↑I.sup.length : Int), SV.row (4 : Nat), SV.row (11 : Nat), SV.row (10 : Nat)]), (4, Ent.row true 50 (Row.arcs I.arcs))], 15⟩, rel := fun k0 k => k ≤ I.arcs.length, meas := fun k => I.arcs.length - k })]
def New_A : List SV → Heap → List (Nat × Ann) := fun args h => match args, h with
  | [.agg [.row 0, .row 1]], [(0, .row false ty0 (.ints .i64 I_s)), (1, .row false ty1 (.arcs I_a))] => New_an ⟨I_s, I_a⟩
  | _, _ => []
def New_g : Specs := [(Copy_n, (true, specOf true Copy_fs)), (GArc_n, (true, specOf true GArc_fs)), (CloneI_n, (true, specOf true CloneI_fs)), (put_n, (false, put_spec))]
abbrev New_n : Nat := 39
def New_I (I : Inst) : List (Nat × ISpec) := []
def New_IA : List SV → Heap → List (Nat × ISpec) := fun _ _ => []
def along_r (x : List Int) (a : Int) : FRes := { pre := 0 ≤ a, res := .int .i64 (x.getD a.toNat 0), rows := [], eff := [] }
def along_fs : FS := fun args h => match args, h with
  | [.row 0, .int .i64 a], [(0, .row false ty0 (.ints .i64 x))] => some (along_r x a)
  | _, _ => none
def along_an (x : List Int) (a : Int) : List (Nat × Ann) := []
def along_A : List SV → Heap → List (Nat × Ann) := fun _ _ => []
def along_g : Specs := []
abbrev along_n : Nat := 41
def along_I (x : List Int) (a : Int) : List (Nat × ISpec) := []
def along_IA : List SV → Heap → List (Nat × ISpec) := fun _ _ => []
def fit_r (x : Arc) (n : Int) : FRes := { pre := True, res := .bool (fitF x n), rows := [], eff := [] }
def fit_fs : FS := fun args h => match args, h with
  | [.agg [.int .i64 x_0, .int .i64 x_1, .int .i64 x_2, .int .i64 x_3, .int .i64 x_4], .int .i64 n], [] => some (fit_r ⟨x_0, x_1, x_2, x_3, x_4⟩ n)
  | _, _ => none
def fit_an (x : Arc) (n : Int) : List (Nat × Ann) := []
def fit_A : List SV → Heap → List (Nat × Ann) := fun _ _ => []
def fit_g : Specs := []
abbrev fit_n : Nat := 99
def fit_I (x : Arc) (n : Int) : List (Nat × ISpec) := []
def fit_IA : List SV → Heap → List (Nat × ISpec) := fun _ _ => []
abbrev more_n : Nat := 68
def more_g : Specs := [(Of_n, (true, specOf true Of_fs)), (Plus_n, (true, specOf true Plus_fs))]
def more_spec : Vc.Spec := inlSpec TT more_g (fun _ _ _ => []) Try.f68
abbrev less_n : Nat := 69
def less_g : Specs := [(Of_n, (true, specOf true Of_fs)), (Minus_n, (true, specOf true Minus_fs))]
def less_spec : Vc.Spec := inlSpec TT less_g (fun _ _ _ => []) Try.f69
abbrev flows_n : Nat := 40
def flows_g : Specs := [(GArc_n, (true, specOf true GArc_fs)), (more_n, (false, more_spec)), (less_n, (false, less_spec))]
def flows_spec : Vc.Spec := inlSpec TT flows_g (fun _ _ _ => []) Try.f40
def Net_r (I : Inst) (x : List Int) : FRes := { pre := I.sup.length ≤ 10000 ∧ I.arcs.length ≤ 10000 ∧ A64 x, res := .row 3, rows := [.row 41 (.wides (netF I x))], eff := [] }
def Net_fs : FS := fun args h => match args, h with
  | [.agg [.row 0, .row 1], .row 2], [(0, .row false ty0 (.ints .i64 I_s)), (1, .row false ty1 (.arcs I_a)), (2, .row false ty2 (.ints .i64 x))] => some (Net_r ⟨I_s, I_a⟩ x)
  | _, _ => none
def Net_an (I : Inst) (x : List Int) : List (Nat × Ann) := [(1000002, { G := Unit, inv := fun _ => ⟨[(1, SV.row (2 : Nat)), (2, SV.ptr (3 : Nat) (0 : Nat) (0 : Nat) (0 : Nat)), (5, SV.ptr (12 : Nat) (0 : Nat) (0 : Nat) (0 : Nat))], [(12, Ent.box true 88 [SV.row (5 : Nat), SV.ptr (6 : Nat) (0 : Nat) (0 : Nat) (0 : Nat)]), (6, Ent.box true 117 [SV.int IntKind.i64 (↑I.sup.length : Int), SV.row (7 : Nat), SV.row (8 : Nat), SV.row (9 : Nat)]), (7, Ent.row true 50 (Row.arcs I.arcs)), (8, Ent.row true 3 (Row.ints IntKind.i64 (listF I))), (9, Ent.row true 3 (Row.ints IntKind.i64 (startF I))), (5, Ent.row true 41 (Row.wides (List.replicate (↑I.sup.length : Int).toNat { hi := (0 : Int), lo := (0 : Int) : Wide }))), (3, Ent.box true 30 [SV.row (0 : Nat), SV.row (1 : Nat)]), (0, Ent.row false 0 (Row.ints IntKind.i64 I.sup)), (1, Ent.row false 0 (Row.arcs I.arcs)), (2, Ent.row false 0 (Row.ints IntKind.i64 x))], 13⟩, rel := fun _ _ => True, meas := fun _ => 0 }),
  (3, { G := (Nat), inv := fun k => ⟨[(1, SV.row (2 : Nat)), (5, SV.ptr (12 : Nat) (0 : Nat) (0 : Nat) (0 : Nat)), (16, SV.int IntKind.i64 (↑I.arcs.length : Int)), (17, .int .i64 k)], [(12, Ent.box true 88 [SV.row (5 : Nat), SV.ptr (6 : Nat) (0 : Nat) (0 : Nat) (0 : Nat)]), (6, Ent.box true 117 [SV.int IntKind.i64 (↑I.sup.length : Int), SV.row (7 : Nat), SV.row (8 : Nat), SV.row (9 : Nat)]), (7, Ent.row true 50 (Row.arcs I.arcs)), (8, Ent.row true 3 (Row.ints IntKind.i64 (listF I))), (9, Ent.row true 3 (Row.ints IntKind.i64 (startF I))), (5, .row true 41 (.wides (netAt I x k))), (2, Ent.row false 0 (Row.ints IntKind.i64 x))], 13⟩, rel := fun k0 k => k ≤ I.arcs.length, meas := fun k => I.arcs.length - k })]
def Net_A : List SV → Heap → List (Nat × Ann) := fun args h => match args, h with
  | [.agg [.row 0, .row 1], .row 2], [(0, .row false ty0 (.ints .i64 I_s)), (1, .row false ty1 (.arcs I_a)), (2, .row false ty2 (.ints .i64 x))] => Net_an ⟨I_s, I_a⟩ x
  | _, _ => []
def Net_g : Specs := [(New_n, (true, specOf true New_fs)), (along_n, (true, specOf true along_fs)), (flows_n, (false, flows_spec))]
abbrev Net_n : Nat := 20
def Net_I (I : Inst) (x : List Int) : List (Nat × ISpec) := []
def Net_IA : List SV → Heap → List (Nat × ISpec) := fun _ _ => []
def Cost_r (I : Inst) (x : List Int) : FRes := { pre := A64 x ∧ A64c I.arcs ∧ I.arcs.length ≤ 1000000, res := .agg (encWide (W (costF I x))), rows := [], eff := [] }
def Cost_fs : FS := fun args h => match args, h with
  | [.agg [.row 0, .row 1], .row 2], [(0, .row false ty0 (.ints .i64 I_s)), (1, .row false ty1 (.arcs I_a)), (2, .row false ty2 (.ints .i64 x))] => some (Cost_r ⟨I_s, I_a⟩ x)
  | _, _ => none
def Cost_an (I : Inst) (x : List Int) : List (Nat × Ann) := [(3, { G := (Nat), inv := fun k => ⟨[(1, SV.row (2 : Nat)), (4, SV.ptr (4 : Nat) (0 : Nat) (0 : Nat) (0 : Nat)), (5, SV.ptr (5 : Nat) (0 : Nat) (0 : Nat) (0 : Nat)), (9, SV.row (1 : Nat)), (10, SV.int IntKind.i64 (↑I.arcs.length : Int)), (11, .int .i64 k)], [(5, .box true 41 (encWide (W (costK I.arcs x k)))), (4, Ent.box true 41 [SV.int IntKind.i64 (0 : Int), SV.int IntKind.u64 (0 : Int)]), (1, Ent.row false 0 (Row.arcs I.arcs)), (2, Ent.row false 0 (Row.ints IntKind.i64 x))], 6⟩, rel := fun k0 k => k ≤ I.arcs.length, meas := fun k => I.arcs.length - k })]
def Cost_A : List SV → Heap → List (Nat × Ann) := fun args h => match args, h with
  | [.agg [.row 0, .row 1], .row 2], [(0, .row false ty0 (.ints .i64 I_s)), (1, .row false ty1 (.arcs I_a)), (2, .row false ty2 (.ints .i64 x))] => Cost_an ⟨I_s, I_a⟩ x
  | _, _ => []
def Cost_g : Specs := [(along_n, (true, specOf true along_fs)), (Times_n, (true, specOf true Times_fs)), (Plus_n, (true, specOf true Plus_fs))]
abbrev Cost_n : Nat := 34
def Cost_I (I : Inst) (x : List Int) : List (Nat × ISpec) := []
def Cost_IA : List SV → Heap → List (Nat × ISpec) := fun _ _ => []
def Fits_r (I : Inst) (x : List Int) : FRes := { pre := I.sup.length ≤ 10000 ∧ I.arcs.length ≤ 10000 ∧ A64 x ∧ A64 I.sup, res := .int .u16 (fitsF I x), rows := [], eff := [] }
def Fits_fs : FS := fun args h => match args, h with
  | [.agg [.row 0, .row 1], .row 2], [(0, .row false ty0 (.ints .i64 I_s)), (1, .row false ty1 (.arcs I_a)), (2, .row false ty2 (.ints .i64 x))] => some (Fits_r ⟨I_s, I_a⟩ x)
  | _, _ => none
def Fits_an (I : Inst) (x : List Int) : List (Nat × Ann) := [(7, { G := (Nat), inv := fun k => ⟨[(1, SV.row (2 : Nat)), (2, SV.ptr (3 : Nat) (0 : Nat) (0 : Nat) (0 : Nat)), (22, SV.row (1 : Nat)), (23, SV.int IntKind.i64 (↑I.arcs.length : Int)), (24, .int .i64 k)], [(3, Ent.box true 30 [SV.row (0 : Nat), SV.row (1 : Nat)]), (0, Ent.row false 0 (Row.ints IntKind.i64 I.sup)), (1, Ent.row false 0 (Row.arcs I.arcs)), (2, Ent.row false 0 (Row.ints IntKind.i64 x))], 4⟩, rel := fun k0 k => k ≤ I.arcs.length ∧ fitsAll (I.arcs.drop k) (x.drop k) = fitsAll I.arcs x, meas := fun k => I.arcs.length - k }),
  (13, { G := (Nat), inv := fun k => ⟨[(2, SV.ptr (3 : Nat) (0 : Nat) (0 : Nat) (0 : Nat)), (39, SV.row (4 : Nat)), (40, SV.int IntKind.i64 (↑(netF I x).length : Int)), (41, .int .i64 k)], [(4, Ent.row true 41 (Row.wides (netF I x))), (3, Ent.box true 30 [SV.row (0 : Nat), SV.row (1 : Nat)]), (0, Ent.row false 0 (Row.ints IntKind.i64 I.sup)), (1, Ent.row false 0 (Row.arcs I.arcs))], 5⟩, rel := fun k0 k => k ≤ I.sup.length ∧ ∀ v, v < k → W (netK I.sup.length I.arcs x I.arcs.length v) = W (I.sup.getD v 0), meas := fun k => I.sup.length - k })]
def Fits_A : List SV → Heap → List (Nat × Ann) := fun args h => match args, h with
  | [.agg [.row 0, .row 1], .row 2], [(0, .row false ty0 (.ints .i64 I_s)), (1, .row false ty1 (.arcs I_a)), (2, .row false ty2 (.ints .i64 x))] => Fits_an ⟨I_s, I_a⟩ x
  | _, _ => []
def Fits_g : Specs := [(Right_n, (true, specOf true Right_fs)), (fit_n, (true, specOf true fit_fs)), (Net_n, (true, specOf true Net_fs)), (Of_n, (true, specOf true Of_fs))]
abbrev Fits_n : Nat := 59
def Fits_I (I : Inst) (x : List Int) : List (Nat × ISpec) := []
def Fits_IA : List SV → Heap → List (Nat × ISpec) := fun _ _ => []
def Flow_r (I : Inst) (d : List Int) : FRes := { pre := Bytes d ∧ I.arcs.length ≤ 1000000 ∧ L42 I.arcs, res := .row 3, rows := [.row 2 (.ints .i64 (flowF I d))], eff := [] }
def Flow_fs : FS := fun args h => match args, h with
  | [.agg [.row 0, .row 1], .row 2], [(0, .row false ty0 (.ints .i64 I_s)), (1, .row false ty1 (.arcs I_a)), (2, .row false ty2 (.ints .u8 d))] => some (Flow_r ⟨I_s, I_a⟩ d)
  | _, _ => none
def Flow_an (I : Inst) (d : List Int) : List (Nat × Ann) := [(3, { G := (Nat), inv := fun k => ⟨[(1, SV.row (2 : Nat)), (2, SV.ptr (3 : Nat) (0 : Nat) (0 : Nat) (0 : Nat)), (5, SV.row (5 : Nat)), (6, .int .i64 k)], [(5, .row true 2 (.ints .i64 ((flowF I d).take k))), (3, Ent.box true 30 [SV.row (0 : Nat), SV.row (1 : Nat)]), (0, Ent.row false 0 (Row.ints IntKind.i64 I.sup)), (1, Ent.row false 0 (Row.arcs I.arcs)), (2, Ent.row false 0 (Row.ints IntKind.u8 d))], 6⟩, rel := fun k0 k => k ≤ I.arcs.length, meas := fun k => I.arcs.length - k })]
def Flow_A : List SV → Heap → List (Nat × Ann) := fun args h => match args, h with
  | [.agg [.row 0, .row 1], .row 2], [(0, .row false ty0 (.ints .i64 I_s)), (1, .row false ty1 (.arcs I_a)), (2, .row false ty2 (.ints .u8 d))] => Flow_an ⟨I_s, I_a⟩ d
  | _, _ => []
def Flow_g : Specs := []
abbrev Flow_n : Nat := 17
def Flow_I (I : Inst) (d : List Int) : List (Nat × ISpec) := []
def Flow_IA : List SV → Heap → List (Nat × ISpec) := fun _ _ => []
end Go.Proofs.Ytggblkbecekbdaa
