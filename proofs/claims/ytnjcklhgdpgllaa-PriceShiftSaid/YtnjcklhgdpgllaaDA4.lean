/-
  CONTRACTS, as data: Inst, stays, Without, rWithout. No proofs.
-/
import Derived.Test.YtnjcklhgdpgllaaDA3
import Derived.Test.YtnjcklhgdpgllaaTy
set_option linter.all false
set_option linter.unusedSimpArgs false
set_option linter.unusedVariables false
namespace Go.Proofs.Ytnjcklhgdpgllaa
open Go Go.RowKit Go.Ql Go.Vc


def setF (a : Arc) : Nat → Int → Arc
  | 0, n => { a with src := n }
  | 1, n => { a with dst := n }
  | 2, n => { a with low := n }
  | 3, n => { a with cap := n }
  | _, n => { a with cost := n }
def bendF (I : Inst) (x f n : Int) : Inst :=
  if I.arcs.length = 0 ∨ f % 7 = 6 then { I with sup := I.sup.set (x % I.sup.length).toNat n }
  else if f % 7 = 5 then I
  else { I with arcs := I.arcs.set (x % I.arcs.length).toNat (setF (I.arcs.getD (x % I.arcs.length).toNat default) (f % 7).toNat n) }
def placesF (n : Nat) (l : List Nat) : List Int := (List.range n).map (fun j : Nat => placeGo (j : Int) l 0)
def instK : Inst := ⟨[1, -1], [⟨0, 1, 0, 2, 0⟩]⟩
def instJ : Inst := ⟨[1, -1], [⟨0, 1, 0, -1, 0⟩]⟩


def Inst_r (c : List Int) (d : List Int) : FRes := { pre := Bytes c ∧ Bytes d ∧ c.length ≤ maxLen ∧ d.length ≤ maxLen, res := .agg [.row 2, .row 3], rows := [.row 2 (.ints .i64 (instF c d).sup), .row 32 (.arcs (instF c d).arcs)], eff := [] }
def Inst_fs : FS := fun args h => match args, h with
  | [.row 0, .row 1], [(0, .row false ty0 (.ints .u8 c)), (1, .row false ty1 (.ints .u8 d))] => some (Inst_r c d)
  | _, _ => none
def Inst_an (c : List Int) (d : List Int) : List (Nat × Ann) := [(1000004, { G := Unit, inv := fun _ => ⟨[(0, SV.row (0 : Nat)), (1, SV.row (1 : Nat)), (4, SV.ptr (4 : Nat) (0 : Nat) (0 : Nat) (0 : Nat)), (5, .int .i64 (nOf d))], [(4, Ent.box true 26 [SV.row (2 : Nat), SV.row (3 : Nat)]), (2, Ent.row true 2 (Row.ints IntKind.i64 [])), (3, Ent.row true 32 (Row.arcs [])), (0, Ent.row false 0 (Row.ints IntKind.u8 c)), (1, Ent.row false 0 (Row.ints IntKind.u8 d))], 5⟩, rel := fun _ _ => True, meas := fun _ => 0 }),
  (1000005, { G := Unit, inv := fun _ => ⟨[(1, SV.row (1 : Nat)), (4, SV.ptr (4 : Nat) (0 : Nat) (0 : Nat) (0 : Nat)), (5, SV.int IntKind.i64 (↑(nOf d) : Int)), (6, SV.ptr (11 : Nat) (0 : Nat) (0 : Nat) (0 : Nat))], [(11, Ent.box true 26 [SV.row (5 : Nat), SV.row (6 : Nat)]), (6, Ent.row true 32 (Row.arcs (arcsF c (↑(nOf d) : Int)))), (5, Ent.row true 2 (Row.ints IntKind.i64 (List.replicate (↑(nOf d) : Int).toNat (0 : Int)))), (4, Ent.box true 26 [SV.row (2 : Nat), SV.row (3 : Nat)]), (2, Ent.row true 2 (Row.ints IntKind.i64 [])), (3, Ent.row true 32 (Row.arcs [])), (1, Ent.row false 0 (Row.ints IntKind.u8 d))], 12⟩, rel := fun _ _ => True, meas := fun _ => 0 }),
  (6, { G := (Nat) × (List Int), inv := fun ⟨k, s⟩ => ⟨[(1, SV.row (1 : Nat)), (4, SV.ptr (4 : Nat) (0 : Nat) (0 : Nat) (0 : Nat)), (5, SV.int IntKind.i64 (↑(nOf d) : Int)), (6, SV.ptr (11 : Nat) (0 : Nat) (0 : Nat) (0 : Nat)), (7, .int .i64 k)], [(11, Ent.box true 26 [SV.row (5 : Nat), SV.row (6 : Nat)]), (6, Ent.row true 32 (Row.arcs (arcsF c (↑(nOf d) : Int)))), (5, .row true 2 (.ints .i64 s)), (4, Ent.box true 26 [SV.row (2 : Nat), SV.row (3 : Nat)]), (2, Ent.row true 2 (Row.ints IntKind.i64 [])), (3, Ent.row true 32 (Row.arcs [])), (1, Ent.row false 0 (Row.ints IntKind.u8 d))], 12⟩, rel := fun ⟨k0, s0⟩ ⟨k, s⟩ => k ≤ (arcsF c (nOf d)).length ∧ s.length = nOf d ∧ Within (10 * k) s ∧ supGo d ((arcsF c (nOf d)).drop k) k s = sup1 c d, meas := fun ⟨k, s⟩ => (arcsF c (nOf d)).length - k })]
def Inst_A : List SV → Heap → List (Nat × Ann) := fun args h => match args, h with
  | [.row 0, .row 1], [(0, .row false ty0 (.ints .u8 c)), (1, .row false ty1 (.ints .u8 d))] => Inst_an c d
  | _, _ => []
def Inst_g : Specs := [(Arcs_n, (true, specOf true Arcs_fs))]
abbrev Inst_n : Nat := 19
def Inst_I (c : List Int) (d : List Int) : List (Nat × ISpec) := []
def Inst_IA : List SV → Heap → List (Nat × ISpec) := fun _ _ => []
abbrev stays_n : Nat := 131
def stays_g : Specs := [(isNode_n, (true, specOf true isNode_fs))]
def stays_spec : Vc.Spec := inlSpec TT stays_g (fun _ _ _ => []) Try.f131
def Without_r (I : Inst) (nodes : List Bool) (offs : List Bool) : FRes := { pre := I.sup.length ≤ 1000000 ∧ I.arcs.length ≤ 1000000 ∧ nodes.length ≤ 1000000 ∧ offs.length ≤ 1000000, res := .agg [.row 4, .row 5], rows := [.row 2 (.ints .i64 (withoutF I nodes offs).sup), .row 32 (.arcs (withoutF I nodes offs).arcs)], eff := [] }
def Without_fs : FS := fun args h => match args, h with
  | [.agg [.row 0, .row 1], .row 2, .row 3], [(0, .row false ty0 (.ints .i64 I_s)), (1, .row false ty1 (.arcs I_a)), (2, .row false ty2 (.bools nodes)), (3, .row false ty3 (.bools offs))] => some (Without_r ⟨I_s, I_a⟩ nodes offs)
  | _, _ => none
def Without_an (I : Inst) (nodes : List Bool) (offs : List Bool) : List (Nat × Ann) := [(4, { G := (Nat), inv := fun k => ⟨[(1, SV.row (2 : Nat)), (2, SV.row (3 : Nat)), (3, SV.ptr (4 : Nat) (0 : Nat) (0 : Nat) (0 : Nat)), (6, SV.ptr (7 : Nat) (0 : Nat) (0 : Nat) (0 : Nat)), (7, SV.ptr (10 : Nat) (0 : Nat) (0 : Nat) (0 : Nat)), (8, SV.ptr (13 : Nat) (0 : Nat) (0 : Nat) (0 : Nat)), (21, .int .i64 I.sup.length), (22, .int .i64 k)], [(13, Ent.box true 62 [SV.row (11 : Nat)]), (11, .row true 3 (.ints .i64 (List.replicate k (-1) ++ List.replicate (I.sup.length - k) 0))), (10, Ent.box true 26 [SV.row (8 : Nat), SV.row (9 : Nat)]), (8, Ent.row true 2 (Row.ints IntKind.i64 [])), (9, Ent.row true 32 (Row.arcs [])), (7, Ent.box true 26 [SV.row (5 : Nat), SV.row (6 : Nat)]), (5, Ent.row true 2 (Row.ints IntKind.i64 [])), (6, Ent.row true 32 (Row.arcs [])), (4, Ent.box true 26 [SV.row (0 : Nat), SV.row (1 : Nat)]), (0, Ent.row false 0 (Row.ints IntKind.i64 I.sup)), (1, Ent.row false 0 (Row.arcs I.arcs)), (2, Ent.row false 0 (Row.bools nodes)), (3, Ent.row false 0 (Row.bools offs))], 14⟩, rel := fun k0 k => k ≤ I.sup.length, meas := fun k => I.sup.length - k }),
  (9, { G := (Nat), inv := fun k => ⟨[(2, SV.row (3 : Nat)), (3, SV.ptr (4 : Nat) (0 : Nat) (0 : Nat) (0 : Nat)), (6, SV.ptr (7 : Nat) (0 : Nat) (0 : Nat) (0 : Nat)), (7, SV.ptr (10 : Nat) (0 : Nat) (0 : Nat) (0 : Nat)), (8, SV.ptr (13 : Nat) (0 : Nat) (0 : Nat) (0 : Nat)), (33, SV.row (14 : Nat)), (34, SV.int IntKind.i64 (↑(List.map Int.ofNat (keptF nodes (keptN (↑I.sup.length : Int)))).length : Int)), (35, .int .i64 k)], [(14, Ent.row true 3 (Row.ints IntKind.i64 (List.map Int.ofNat (keptF nodes (keptN (↑I.sup.length : Int)))))), (13, Ent.box true 62 [SV.row (11 : Nat)]), (11, .row true 3 (.ints .i64 (placesF I.sup.length ((keptNodes I nodes).take k)))), (10, Ent.box true 26 [SV.row (8 : Nat), SV.row (9 : Nat)]), (8, .row true 2 (.ints .i64 (((keptNodes I nodes).take k).map (fun j => I.sup.getD j 0)))), (9, Ent.row true 32 (Row.arcs [])), (7, Ent.box true 26 [SV.row (5 : Nat), SV.row (6 : Nat)]), (5, Ent.row true 2 (Row.ints IntKind.i64 [])), (6, Ent.row true 32 (Row.arcs [])), (4, Ent.box true 26 [SV.row (0 : Nat), SV.row (1 : Nat)]), (0, Ent.row false 0 (Row.ints IntKind.i64 I.sup)), (1, Ent.row false 0 (Row.arcs I.arcs)), (3, Ent.row false 0 (Row.bools offs))], 15⟩, rel := fun k0 k => k ≤ (keptNodes I nodes).length, meas := fun k => (keptNodes I nodes).length - k }),
  (16, { G := (Nat), inv := fun k => ⟨[(3, SV.ptr (4 : Nat) (0 : Nat) (0 : Nat) (0 : Nat)), (6, SV.ptr (7 : Nat) (0 : Nat) (0 : Nat) (0 : Nat)), (7, SV.ptr (10 : Nat) (0 : Nat) (0 : Nat) (0 : Nat)), (8, SV.ptr (13 : Nat) (0 : Nat) (0 : Nat) (0 : Nat)), (12, SV.fn 131 [SV.ptr (13 : Nat) (0 : Nat) (0 : Nat) (0 : Nat)]), (60, SV.row (15 : Nat)), (61, SV.int IntKind.i64 (↑(List.map Int.ofNat (keptF offs (keptN (↑I.arcs.length : Int)))).length : Int)), (62, .int .i64 k)], [(15, Ent.row true 3 (Row.ints IntKind.i64 (List.map Int.ofNat (keptF offs (keptN (↑I.arcs.length : Int)))))), (13, Ent.box true 62 [SV.row (11 : Nat)]), (11, .row true 3 (.ints .i64 (placesF I.sup.length (keptNodes I nodes)))), (10, Ent.box true 26 [SV.row (8 : Nat), SV.row (9 : Nat)]), (8, .row true 2 (.ints .i64 (withoutF I nodes offs).sup)), (9, .row true 32 (.arcs (((keptArcs I offs).take k).filterMap (fun j => keepArc (keptNodes I nodes) (I.arcs.getD j default))))), (7, Ent.box true 26 [SV.row (5 : Nat), SV.row (6 : Nat)]), (5, Ent.row true 2 (Row.ints IntKind.i64 [])), (6, Ent.row true 32 (Row.arcs [])), (4, Ent.box true 26 [SV.row (0 : Nat), SV.row (1 : Nat)]), (0, Ent.row false 0 (Row.ints IntKind.i64 I.sup)), (1, Ent.row false 0 (Row.arcs I.arcs))], 16⟩, rel := fun k0 k => k ≤ (keptArcs I offs).length, meas := fun k => (keptArcs I offs).length - k })]
def Without_A : List SV → Heap → List (Nat × Ann) := fun args h => match args, h with
  | [.agg [.row 0, .row 1], .row 2, .row 3], [(0, .row false ty0 (.ints .i64 I_s)), (1, .row false ty1 (.arcs I_a)), (2, .row false ty2 (.bools nodes)), (3, .row false ty3 (.bools offs))] => Without_an ⟨I_s, I_a⟩ nodes offs
  | _, _ => []
def Without_g : Specs := [(Kept_n, (true, specOf true Kept_fs)), (stays_n, (false, stays_spec))]
abbrev Without_n : Nat := 88
def Without_I (I : Inst) (nodes : List Bool) (offs : List Bool) : List (Nat × ISpec) := []
def Without_IA : List SV → Heap → List (Nat × ISpec) := fun _ _ => []
def rWithout_r (I : Inst) (nodes : List Bool) (offs : List Bool) : FRes := { pre := I.sup.length ≤ 1000000 ∧ I.arcs.length ≤ 1000000, res := .agg [.row 4, .row 5], rows := [.row 2 (.ints .i64 (withoutF I nodes offs).sup), .row 32 (.arcs (withoutF I nodes offs).arcs)], eff := [] }
def rWithout_fs : FS := fun args h => match args, h with
  | [.agg [.row 0, .row 1], .row 2, .row 3], [(0, .row false ty0 (.ints .i64 I_s)), (1, .row false ty1 (.arcs I_a)), (2, .row false ty2 (.bools nodes)), (3, .row false ty3 (.bools offs))] => some (rWithout_r ⟨I_s, I_a⟩ nodes offs)
  | _, _ => none
def rWithout_an (I : Inst) (nodes : List Bool) (offs : List Bool) : List (Nat × Ann) := [(4, { G := (Nat), inv := fun k => ⟨[(2, SV.row (3 : Nat)), (3, SV.ptr (4 : Nat) (0 : Nat) (0 : Nat) (0 : Nat)), (6, SV.ptr (7 : Nat) (0 : Nat) (0 : Nat) (0 : Nat)), (7, SV.ptr (12 : Nat) (0 : Nat) (0 : Nat) (0 : Nat)), (8, SV.row (13 : Nat)), (9, .int .i64 k)], [(13, Ent.row true 3 (Row.ints IntKind.i64 (List.map Int.ofNat (keptF nodes (keptN (↑I.sup.length : Int)))))), (12, Ent.box true 26 [SV.row (8 : Nat), SV.row (9 : Nat)]), (8, .row true 2 (.ints .i64 (((keptNodes I nodes).take k).map (fun j => I.sup.getD j 0)))), (9, Ent.row true 32 (Row.arcs [])), (7, Ent.box true 26 [SV.row (5 : Nat), SV.row (6 : Nat)]), (5, Ent.row true 2 (Row.ints IntKind.i64 [])), (6, Ent.row true 32 (Row.arcs [])), (4, Ent.box true 26 [SV.row (0 : Nat), SV.row (1 : Nat)]), (0, Ent.row false 0 (Row.ints IntKind.i64 I.sup)), (1, Ent.row false 0 (Row.arcs I.arcs)), (3, Ent.row false 0 (Row.bools offs))], 14⟩, rel := fun k0 k => k ≤ (keptNodes I nodes).length, meas := fun k => (keptNodes I nodes).length - k }),
  (9, { G := (Nat), inv := fun k => ⟨[(3, SV.ptr (4 : Nat) (0 : Nat) (0 : Nat) (0 : Nat)), (6, SV.ptr (7 : Nat) (0 : Nat) (0 : Nat) (0 : Nat)), (7, SV.ptr (12 : Nat) (0 : Nat) (0 : Nat) (0 : Nat)), (8, SV.row (13 : Nat)), (10, SV.row (14 : Nat)), (11, .int .i64 k)], [(14, Ent.row true 3 (Row.ints IntKind.i64 (List.map Int.ofNat (keptF offs (keptN (↑I.arcs.length : Int)))))), (13, Ent.row true 3 (Row.ints IntKind.i64 (List.map Int.ofNat (keptF nodes (keptN (↑I.sup.length : Int)))))), (12, Ent.box true 26 [SV.row (8 : Nat), SV.row (9 : Nat)]), (8, .row true 2 (.ints .i64 (withoutF I nodes offs).sup)), (9, .row true 32 (.arcs (((keptArcs I offs).take k).filterMap (fun j => keepArc (keptNodes I nodes) (I.arcs.getD j default))))), (7, Ent.box true 26 [SV.row (5 : Nat), SV.row (6 : Nat)]), (5, Ent.row true 2 (Row.ints IntKind.i64 [])), (6, Ent.row true 32 (Row.arcs [])), (4, Ent.box true 26 [SV.row (0 : Nat), SV.row (1 : Nat)]), (0, Ent.row false 0 (Row.ints IntKind.i64 I.sup)), (1, Ent.row false 0 (Row.arcs I.arcs))], 15⟩, rel := fun k0 k => k ≤ (keptArcs I offs).length, meas := fun k => (keptArcs I offs).length - k })]
def rWithout_A : List SV → Heap → List (Nat × Ann) := fun args h => match args, h with
  | [.agg [.row 0, .row 1], .row 2, .row 3], [(0, .row false ty0 (.ints .i64 I_s)), (1, .row false ty1 (.arcs I_a)), (2, .row false ty2 (.bools nodes)), (3, .row false ty3 (.bools offs))] => rWithout_an ⟨I_s, I_a⟩ nodes offs
  | _, _ => []
def rWithout_g : Specs := [(rKept_n, (true, specOf true rKept_fs)), (Place_n, (true, specOf true Place_fs))]
abbrev rWithout_n : Nat := 122
def rWithout_I (I : Inst) (nodes : List Bool) (offs : List Bool) : List (Nat × ISpec) := []
def rWithout_IA : List SV → Heap → List (Nat × ISpec) := fun _ _ => []
end Go.Proofs.Ytnjcklhgdpgllaa
