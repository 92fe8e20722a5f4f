/- Part of the proof, DA2. -/
import Derived.Test.YtggblkbecekbdaaZDA1
import Derived.Test.YtggblkbecekbdaaZTy
set_option linter.all false
set_option linter.unusedSimpArgs false
set_option linter.unusedVariables false
namespace Go.Proofs.Ytggblkbecekbdaa
open Go Go.RowKit Go.Ql Go.Vc
def Right_r (I : Inst) : FRes := { pre := True, res := .int .u16 (rightF I), rows := [], eff := [] }
def Right_fs : FS := fun args h => match args, h with
  | [.agg [.row 0, .row 1]], [(0, .row false ty0 (.ints .i64 I_s)), (1, .row false ty1 (.arcs I_a))] => some (Right_r ⟨I_s, I_a⟩)
  | _, _ => none
def Right_an (I : Inst) : List (Nat × Ann) := [(4, { G := (Nat), inv := fun k => ⟨[(1, SV.ptr (2 : Nat) (0 : Nat) (0 : Nat) (0 : Nat)), (20, SV.row (1 : Nat)), (21, SV.int IntKind.i64 ↑I.arcs.length), (22, .int .i64 k)], [(2, Ent.box true 30 [SV.row (0 : Nat), SV.row (1 : Nat)]), (0, Ent.row false 0 (Row.ints IntKind.i64 I.sup)), (1, Ent.row false 0 (Row.arcs I.arcs))], 3⟩, rel := fun k0 k => k ≤ I.arcs.length ∧ arcsErr I.sup.length (I.arcs.drop k) = arcsErr I.sup.length I.arcs, meas := fun k => I.arcs.length - k }),
  (12, { G := (Nat) × (Int), inv := fun ⟨k, s⟩ => ⟨[(6, .int .i64 s), (36, SV.row (0 : Nat)), (37, SV.int IntKind.i64 ↑I.sup.length), (38, .int .i64 k)], [(0, Ent.row false 0 (Row.ints IntKind.i64 I.sup))], 3⟩, rel := fun ⟨k0, s0⟩ ⟨k, s⟩ => k ≤ I.sup.length ∧ supErr (I.sup.drop k) s = supErr I.sup 0 ∧ -(4398046511104 * (k : Int)) ≤ s ∧ s ≤ 4398046511104 * (k : Int), meas := fun ⟨k, s⟩ => I.sup.length - k })]
def Right_A : List SV → Heap → List (Nat × Ann) := fun args h => match args, h with
  | [.agg [.row 0, .row 1]], [(0, .row false ty0 (.ints .i64 I_s)), (1, .row false ty1 (.arcs I_a))] => Right_an ⟨I_s, I_a⟩
  | _, _ => []
def Right_g : Specs := [(rightArc_n, (true, specOf true rightArc_fs))]
abbrev Right_n : Nat := 32
def Right_I (I : Inst) : List (Nat × ISpec) := []
def Right_IA : List SV → Heap → List (Nat × ISpec) := fun _ _ => []
def takeI_r (l : List Int) : FRes := { pre := l.length ≤ 1000000000, res := .row 1, rows := [.row 2 (.ints .i64 (l))], eff := [] }
def takeI_fs : FS := fun args h => match args, h with
  | [.row 0, .fn 102 []], [(0, .row false ty0 (.ints .i64 l))] => some (takeI_r l)
  | _, _ => none
def takeI_an (l : List Int) : List (Nat × Ann) := [(3, { G := (Nat), inv := fun k => ⟨[(1, SV.fn 102 []), (5, SV.row (2 : Nat)), (8, SV.row (0 : Nat)), (9, SV.int IntKind.i64 ↑l.length), (10, .int .i64 k)], [(2, .row true 2 (.ints .i64 (l.take k))), (0, Ent.row false 0 (Row.ints IntKind.i64 l))], 3⟩, rel := fun k0 k => k ≤ l.length, meas := fun k => l.length - k })]
def takeI_A : List SV → Heap → List (Nat × Ann) := fun args h => match args, h with
  | [.row 0, .fn 102 []], [(0, .row false ty0 (.ints .i64 l))] => takeI_an l
  | _, _ => []
def takeI_g : Specs := [(CopyF1_n, (true, specOf true CopyF1_fs))]
abbrev takeI_n : Nat := 101
def takeI_I (l : List Int) : List (Nat × ISpec) := []
def takeI_IA : List SV → Heap → List (Nat × ISpec) := fun _ _ => []
def takeA_r (l : List Arc) : FRes := { pre := l.length ≤ 1000000000, res := .row 1, rows := [.row 50 (.arcs (l))], eff := [] }
def takeA_fs : FS := fun args h => match args, h with
  | [.row 0, .fn 104 []], [(0, .row false ty0 (.arcs l))] => some (takeA_r l)
  | _, _ => none
def takeA_an (l : List Arc) : List (Nat × Ann) := [(3, { G := (Nat), inv := fun k => ⟨[(1, SV.fn 104 []), (5, SV.row (2 : Nat)), (8, SV.row (0 : Nat)), (9, SV.int IntKind.i64 ↑l.length), (10, .int .i64 k)], [(2, .row true 50 (.arcs (l.take k))), (0, Ent.row false 0 (Row.arcs l))], 3⟩, rel := fun k0 k => k ≤ l.length, meas := fun k => l.length - k })]
def takeA_A : List SV → Heap → List (Nat × Ann) := fun args h => match args, h with
  | [.row 0, .fn 104 []], [(0, .row false ty0 (.arcs l))] => takeA_an l
  | _, _ => []
def takeA_g : Specs := [(CopyF2_n, (true, specOf true CopyF2_fs))]
abbrev takeA_n : Nat := 103
def takeA_I (l : List Arc) : List (Nat × ISpec) := []
def takeA_IA : List SV → Heap → List (Nat × ISpec) := fun _ _ => []
end Go.Proofs.Ytggblkbecekbdaa
