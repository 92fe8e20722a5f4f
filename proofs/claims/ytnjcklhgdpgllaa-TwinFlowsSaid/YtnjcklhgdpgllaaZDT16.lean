/- Part of the proof, DT16. -/
import Derived.Test.YtnjcklhgdpgllaaZDA4
import Derived.Test.YtnjcklhgdpgllaaZDN1
import Derived.Test.YtnjcklhgdpgllaaZTwin3
import Derived.Test.YtnjcklhgdpgllaaZTy
set_option linter.all false
set_option linter.unusedSimpArgs false
set_option linter.unusedVariables false
namespace Go.Proofs.Ytnjcklhgdpgllaa
open Go Go.RowKit Go.Ql Go.Vc
def Sub_r (a : Int) (b : Int) : FRes := { pre := I64 a ∧ I64 b, res := .tup [.int .i64 (if I64 (a - b) then a - b else 0), .bool (decide (I64 (a - b)))], rows := [], eff := [] }
def Sub_fs : FS := fun args h => match args, h with
  | [.int .i64 a, .int .i64 b], [] => some (Sub_r a b)
  | _, _ => none
def Sub_an (a : Int) (b : Int) : List (Nat × Ann) := []
def Sub_A : List SV → Heap → List (Nat × Ann) := fun _ _ => []
def Sub_g : Specs := []
abbrev Sub_n : Nat := 82
def Sub_I (a : Int) (b : Int) : List (Nat × ISpec) := []
def Sub_IA : List SV → Heap → List (Nat × ISpec) := fun _ _ => []
abbrev limit16_n : Nat := 85
def limit16_g : Specs := []
def limit16_spec : Vc.Spec := inlSpec TT limit16_g (fun _ _ _ => []) Try.f85
abbrev plus16_n : Nat := 86
def plus16_g : Specs := []
def plus16_spec : Vc.Spec := inlSpec TT plus16_g (fun _ _ _ => []) Try.f86
abbrev capOf16_n : Nat := 87
def capOf16_g : Specs := []
def capOf16_spec : Vc.Spec := inlSpec TT capOf16_g (fun _ _ _ => []) Try.f87
def share_r (a : Arc) (n : Int) : FRes := { pre := I64 n ∧ 0 ≤ a.low ∧ a.low ≤ 4398046511104 ∧ (a.cap = inf ∨ a.low ≤ a.cap ∧ a.cap ≤ 4398046511104), res := .tup [.int .i64 (giveT a n false), .bool (true)], rows := [], eff := [] }
def share_fs : FS := fun args h => match args, h with
  | [.agg [.int .i64 a_0, .int .i64 a_1, .int .i64 a_2, .int .i64 a_3, .int .i64 a_4], .int .i64 n], [] => some (share_r ⟨a_0, a_1, a_2, a_3, a_4⟩ n)
  | _, _ => none
def share_an (a : Arc) (n : Int) : List (Nat × Ann) := []
def share_A : List SV → Heap → List (Nat × Ann) := fun _ _ => []
def share_g : Specs := [(limit16_n, (false, limit16_spec)), (Sub_n, (true, specOf true Sub_fs))]
abbrev share_n : Nat := 83
def share_I (a : Arc) (n : Int) : List (Nat × ISpec) := []
def share_IA : List SV → Heap → List (Nat × ISpec) := fun _ _ => []
def Spread_r (I : Inst) (l : List Int) (n : Int) : FRes := { pre := rightF I = 0 ∧ I64 n ∧ l.length ≤ 1000000, res := .tup [.row 3, .bool ((spreadF I l n).isSome)], rows := [.row 2 (.ints .i64 ((spreadF I l n).getD []))], eff := [] }
def Spread_fs : FS := fun args h => match args, h with
  | [.agg [.row 0, .row 1], .row 2, .int .i64 n], [(0, .row false ty0 (.ints .i64 I_s)), (1, .row false ty1 (.arcs I_a)), (2, .row false ty2 (.ints .i64 l))] => some (Spread_r ⟨I_s, I_a⟩ l n)
  | _, _ => none
def Spread_an (I : Inst) (l : List Int) (n : Int) : List (Nat × Ann) := [(5, { G := (Nat) × (Int), inv := fun ⟨k, s⟩ => ⟨[(1, SV.row (2 : Nat)), (3, SV.ptr (3 : Nat) (0 : Nat) (0 : Nat) (0 : Nat)), (8, .int .i64 s), (26, SV.row (2 : Nat)), (27, SV.int IntKind.i64 (↑l.length : Int)), (28, .int .i64 k)], [(3, Ent.box true 26 [SV.row (0 : Nat), SV.row (1 : Nat)]), (0, Ent.row false 0 (Row.ints IntKind.i64 I.sup)), (1, Ent.row false 0 (Row.arcs I.arcs)), (2, Ent.row false 0 (Row.ints IntKind.i64 l))], 5⟩, rel := fun ⟨k0, s0⟩ ⟨k, s⟩ => k ≤ l.length ∧ I64 s ∧ subAll I (l.drop k) s = subAll I l n, meas := fun ⟨k, s⟩ => l.length - k }),
  (16, { G := (Nat) × (Int) × (List Int), inv := fun ⟨k, s, o⟩ => ⟨[(1, SV.row (2 : Nat)), (3, SV.ptr (3 : Nat) (0 : Nat) (0 : Nat) (0 : Nat)), (8, .int .i64 s), (13, SV.row (5 : Nat)), (59, SV.row (2 : Nat)), (60, SV.int IntKind.i64 (↑l.length : Int)), (61, .int .i64 k)], [(5, .row true 2 (.ints .i64 o)), (3, Ent.box true 26 [SV.row (0 : Nat), SV.row (1 : Nat)]), (0, Ent.row false 0 (Row.ints IntKind.i64 I.sup)), (1, Ent.row false 0 (Row.arcs I.arcs)), (2, Ent.row false 0 (Row.ints IntKind.i64 l))], 6⟩, rel := fun ⟨k0, s0, o0⟩ ⟨k, s, o⟩ => k ≤ l.length ∧ o.length = k ∧ I64 s ∧ l.all (isArcF I) = true ∧ spreadGo I (l.drop k) s o = spreadF I l n, meas := fun ⟨k, s, o⟩ => l.length - k })]
def Spread_A : List SV → Heap → List (Nat × Ann) := fun args h => match args, h with
  | [.agg [.row 0, .row 1], .row 2, .int .i64 n], [(0, .row false ty0 (.ints .i64 I_s)), (1, .row false ty1 (.arcs I_a)), (2, .row false ty2 (.ints .i64 l))] => Spread_an ⟨I_s, I_a⟩ l n
  | _, _ => []
def Spread_g : Specs := [(Sub_n, (true, specOf true Sub_fs)), (share_n, (true, specOf true share_fs)), (Add_n, (true, specOf true Add_fs))]
abbrev Spread_n : Nat := 46
def Spread_I (I : Inst) (l : List Int) (n : Int) : List (Nat × ISpec) := []
def Spread_IA : List SV → Heap → List (Nat × ISpec) := fun _ _ => []
def Alike_r (c : List Int) (d : List Int) : FRes := { pre := Bytes c ∧ Bytes d ∧ c.length ≤ maxLen ∧ d.length ≤ maxLen, res := .agg [.row 2, .row 3], rows := [.row 2 (.ints .i64 (alikeF c d).sup), .row 32 (.arcs (alikeF c d).arcs)], eff := [] }
def Alike_fs : FS := fun args h => match args, h with
  | [.row 0, .row 1], [(0, .row false ty0 (.ints .u8 c)), (1, .row false ty1 (.ints .u8 d))] => some (Alike_r c d)
  | _, _ => none
def Alike_an (c : List Int) (d : List Int) : List (Nat × Ann) := [(3, { G := (Nat), inv := fun k => ⟨[(1, SV.row (1 : Nat)), (4, SV.ptr (4 : Nat) (0 : Nat) (0 : Nat) (0 : Nat)), (5, SV.ptr (9 : Nat) (0 : Nat) (0 : Nat) (0 : Nat)), (6, .int .i64 k)], [(9, Ent.box true 26 [SV.row (5 : Nat), SV.row (6 : Nat)]), (5, .row true 2 (.ints .i64 (alikeTo (instF c d) d k).sup)), (6, .row true 32 (.arcs (alikeTo (instF c d) d k).arcs)), (4, Ent.box true 26 [SV.row (2 : Nat), SV.row (3 : Nat)]), (2, Ent.row true 2 (Row.ints IntKind.i64 [])), (3, Ent.row true 32 (Row.arcs [])), (1, Ent.row false 0 (Row.ints IntKind.u8 d))], 10⟩, rel := fun k0 k => k ≤ (instF c d).arcs.length, meas := fun k => (instF c d).arcs.length - k })]
def Alike_A : List SV → Heap → List (Nat × Ann) := fun args h => match args, h with
  | [.row 0, .row 1], [(0, .row false ty0 (.ints .u8 c)), (1, .row false ty1 (.ints .u8 d))] => Alike_an c d
  | _, _ => []
def Alike_g : Specs := [(Inst_n, (true, specOf true Inst_fs))]
abbrev Alike_n : Nat := 42
def Alike_I (c : List Int) (d : List Int) : List (Nat × ISpec) := []
def Alike_IA : List SV → Heap → List (Nat × ISpec) := fun _ _ => []
def Groups_r (I : Inst) : FRes := { pre := I.arcs.length ≤ 1000000, res := .row 2, rows := [.deep 62 3 (.ints .i64 (groupsF I.arcs))], eff := [] }
def Groups_fs : FS := fun args h => match args, h with
  | [.agg [.row 0, .row 1]], [(0, .row false ty0 (.ints .i64 I_s)), (1, .row false ty1 (.arcs I_a))] => some (Groups_r ⟨I_s, I_a⟩)
  | _, _ => none
def Groups_an (I : Inst) : List (Nat × Ann) := [(4, { G := (Nat) × (List Value), inv := fun ⟨k, vs⟩ => ⟨[(3, SV.row (4 : Nat)), (4, SV.row (5 : Nat)), (12, SV.row (1 : Nat)), (13, SV.int IntKind.i64 (↑I.arcs.length : Int)), (14, .int .i64 k)], [(5, .map [.i64, .i64, .i64] (.int .i64) (keysM I.arcs k)), (4, .deep true 62 3 (.ints .i64 (groupsTo I.arcs k)) vs none), (1, Ent.row false 0 (Row.arcs I.arcs))], 6⟩, rel := fun ⟨k0, vs0⟩ ⟨k, vs⟩ => k ≤ I.arcs.length, meas := fun ⟨k, vs⟩ => I.arcs.length - k })]
def Groups_A : List SV → Heap → List (Nat × Ann) := fun args h => match args, h with
  | [.agg [.row 0, .row 1]], [(0, .row false ty0 (.ints .i64 I_s)), (1, .row false ty1 (.arcs I_a))] => Groups_an ⟨I_s, I_a⟩
  | _, _ => []
def Groups_g : Specs := []
abbrev Groups_n : Nat := 45
def Groups_I (I : Inst) : List (Nat × ISpec) := []
def Groups_IA : List SV → Heap → List (Nat × ISpec) := fun _ _ => []
def Twin_r (I : Inst) : FRes := { pre := I.sup.length ≤ 1000000 ∧ I.arcs.length ≤ 1000000, res := .tup [.agg [.row 2, .row 3, .int .i64 ((twinS I).1).pass, .row 4, .row 5, .int .i64 ((twinS I).1).off.hi, .int .u64 ((twinS I).1).off.lo, .bool ((twinS I).1).did], .int .u16 ((twinS I).2)], rows := [.row 2 (.ints .i64 ((twinS I).1).inst.sup), .row 32 (.arcs ((twinS I).1).inst.arcs), .row 2 (.ints .i64 ((twinS I).1).was.sup), .row 32 (.arcs ((twinS I).1).was.arcs)], eff := [] }
def Twin_fs : FS := fun args h => match args, h with
  | [.agg [.row 0, .row 1]], [(0, .row false ty0 (.ints .i64 I_s)), (1, .row false ty1 (.arcs I_a))] => some (Twin_r ⟨I_s, I_a⟩)
  | _, _ => none
def Twin_an (I : Inst) : List (Nat × Ann) := [(8, { G := (Nat) × (List Value), inv := fun ⟨t, vs⟩ => ⟨[(1, SV.ptr (2 : Nat) (0 : Nat) (0 : Nat) (0 : Nat)), (2, SV.ptr (7 : Nat) (0 : Nat) (0 : Nat) (0 : Nat)), (5, SV.ptr (12 : Nat) (0 : Nat) (0 : Nat) (0 : Nat)), (6, SV.row (13 : Nat)), (7, .bool (didB I.arcs t)), (29, SV.row (14 : Nat)), (30, .int .i64 (groupsF I.arcs).length), (31, .int .i64 t)], [(14, .deep false 62 3 (.ints .i64 (groupsF I.arcs)) vs none), (13, .row true 4 (.bools (outB I.arcs t))), (12, Ent.box true 26 [SV.row (8 : Nat), SV.row (9 : Nat)]), (8, Ent.row true 2 (Row.ints IntKind.i64 I.sup)), (9, .row true 32 (.arcs (wA I.arcs t))), (7, Ent.box true 82 [SV.row (3 : Nat), SV.row (4 : Nat), SV.int IntKind.i64 (0 : Int), SV.row (5 : Nat), SV.row (6 : Nat), SV.int IntKind.i64 (0 : Int), SV.int IntKind.u64 (0 : Int), SV.ff]), (3, Ent.row true 2 (Row.ints IntKind.i64 [])), (4, Ent.row true 32 (Row.arcs [])), (5, Ent.row true 2 (Row.ints IntKind.i64 [])), (6, Ent.row true 32 (Row.arcs [])), (2, Ent.box true 26 [SV.row (0 : Nat), SV.row (1 : Nat)]), (0, Ent.row false 0 (Row.ints IntKind.i64 I.sup)), (1, Ent.row false 0 (Row.arcs I.arcs))], 15⟩, rel := fun ⟨t0, vs0⟩ ⟨t, vs⟩ => t ≤ (groupsF I.arcs).length, meas := fun ⟨t, vs⟩ => (groupsF I.arcs).length - t }),
  (14, { G := (Nat) × (List Value) × (Nat), inv := fun ⟨t, vs, j⟩ => ⟨[(1, SV.ptr (2 : Nat) (0 : Nat) (0 : Nat) (0 : Nat)), (2, SV.ptr (7 : Nat) (0 : Nat) (0 : Nat) (0 : Nat)), (5, SV.ptr (12 : Nat) (0 : Nat) (0 : Nat) (0 : Nat)), (6, SV.row (13 : Nat)), (7, .bool (didB I.arcs t || decide (0 < j))), (29, SV.row (14 : Nat)), (30, .int .i64 (groupsF I.arcs).length), (31, .int .i64 t), (10, .int .i64 ((grp I.arcs t).getD 0 0)), (11, .int .i64 (lowM I.arcs ((grp I.arcs t).take (j + 1)))), (12, SV.ptr (18 : Nat) (0 : Nat) (0 : Nat) (0 : Nat)), (51, SV.row (19 : Nat)), (52, .int .i64 ((grp I.arcs t).drop 1).length), (53, .int .i64 j)], [(19, .row false 3 (.ints .i64 ((grp I.arcs t).drop 1))), (18, .box true 134 [.int .i64 (if capI I.arcs ((grp I.arcs t).take (j + 1)) then 0 else capN I.arcs ((grp I.arcs t).take (j + 1))), .bool (capI I.arcs ((grp I.arcs t).take (j + 1)))]), (14, .deep false 62 3 (.ints .i64 (groupsF I.arcs)) vs none), (13, .row true 4 (.bools (outC I.arcs t j))), (12, Ent.box true 26 [SV.row (8 : Nat), SV.row (9 : Nat)]), (8, Ent.row true 2 (Row.ints IntKind.i64 I.sup)), (9, .row true 32 (.arcs (wA I.arcs t))), (7, Ent.box true 82 [SV.row (3 : Nat), SV.row (4 : Nat), SV.int IntKind.i64 (0 : Int), SV.row (5 : Nat), SV.row (6 : Nat), SV.int IntKind.i64 (0 : Int), SV.int IntKind.u64 (0 : Int), SV.ff]), (3, Ent.row true 2 (Row.ints IntKind.i64 [])), (4, Ent.row true 32 (Row.arcs [])), (5, Ent.row true 2 (Row.ints IntKind.i64 [])), (6, Ent.row true 32 (Row.arcs [])), (2, Ent.box true 26 [SV.row (0 : Nat), SV.row (1 : Nat)]), (0, Ent.row false 0 (Row.ints IntKind.i64 I.sup)), (1, Ent.row false 0 (Row.arcs I.arcs))], 20⟩, rel := fun ⟨t0, vs0, j0⟩ ⟨t, vs, j⟩ => t = t0 ∧ vs = vs0 ∧ j + 1 ≤ (grp I.arcs t).length, meas := fun ⟨t, vs, j⟩ => (grp I.arcs t).length - j })]
def Twin_A : List SV → Heap → List (Nat × Ann) := fun args h => match args, h with
  | [.agg [.row 0, .row 1]], [(0, .row false ty0 (.ints .i64 I_s)), (1, .row false ty1 (.arcs I_a))] => Twin_an ⟨I_s, I_a⟩
  | _, _ => []
def Twin_g : Specs := [(Right_n, (true, specOf true Right_fs)), (Copy_n, (true, specOf true Copy_fs)), (Groups_n, (true, specOf true Groups_fs)), (limit16_n, (false, limit16_spec)), (plus16_n, (false, plus16_spec)), (capOf16_n, (false, capOf16_spec)), (Without_n, (true, specOf true Without_fs))]
abbrev Twin_n : Nat := 47
def Twin_I (I : Inst) : List (Nat × ISpec) := []
def Twin_IA : List SV → Heap → List (Nat × ISpec) := fun _ _ => []
def known16_r : FRes := { pre := True, res := .bool (true), rows := [], eff := [] }
def known16_fs : FS := fun args h => match args, h with
  | [], [] => some (known16_r)
  | _, _ => none
def known16_an : List (Nat × Ann) := []
def known16_A : List SV → Heap → List (Nat × Ann) := fun _ _ => []
def known16_g : Specs := [(Spread_n, (true, specOf true Spread_fs)), (Nums_n, (true, specOf true Nums_fs)), (Twin_n, (true, specOf true Twin_fs))]
abbrev known16_n : Nat := 41
def known16_I : List (Nat × ISpec) := []
def known16_IA : List SV → Heap → List (Nat × ISpec) := fun _ _ => []
end Go.Proofs.Ytnjcklhgdpgllaa
