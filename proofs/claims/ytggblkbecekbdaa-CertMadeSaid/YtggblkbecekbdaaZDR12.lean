/- Part of the proof, DR12. -/
import Derived.Test.YtggblkbecekbdaaZDB9
import Derived.Test.YtggblkbecekbdaaZRay
import Derived.Test.YtggblkbecekbdaaZTy
set_option linter.all false
set_option linter.unusedSimpArgs false
set_option linter.unusedVariables false
namespace Go.Proofs.Ytggblkbecekbdaa
open Go Go.RowKit Go.Ql Go.Vc
def isArc_r (I : Inst) (a : Int) : FRes := { pre := True, res := .bool (isArcF I a), rows := [], eff := [] }
def isArc_fs : FS := fun args h => match args, h with
  | [.agg [.row 0, .row 1], .int .i64 a], [(0, .row false ty0 (.ints .i64 I_s)), (1, .row false ty1 (.arcs I_a))] => some (isArc_r ⟨I_s, I_a⟩ a)
  | _, _ => none
def isArc_an (I : Inst) (a : Int) : List (Nat × Ann) := []
def isArc_A : List SV → Heap → List (Nat × Ann) := fun _ _ => []
def isArc_g : Specs := []
abbrev isArc_n : Nat := 128
def isArc_I (I : Inst) (a : Int) : List (Nat × ISpec) := []
def isArc_IA : List SV → Heap → List (Nat × ISpec) := fun _ _ => []
def Sum12_r (I : Inst) (l : List Int) : FRes := { pre := A64c I.arcs ∧ l.length ≤ 140737488351232, res := .agg (encWide (W (rayS I l))), rows := [], eff := [] }
def Sum12_fs : FS := fun args h => match args, h with
  | [.agg [.row 0, .row 1], .row 2], [(0, .row false ty0 (.ints .i64 I_s)), (1, .row false ty1 (.arcs I_a)), (2, .row false ty2 (.ints .i64 l))] => some (Sum12_r ⟨I_s, I_a⟩ l)
  | _, _ => none
def Sum12_an (I : Inst) (l : List Int) : List (Nat × Ann) := [(3, { G := (Nat), inv := fun k => ⟨[(2, SV.ptr (3 : Nat) (0 : Nat) (0 : Nat) (0 : Nat)), (4, SV.ptr (4 : Nat) (0 : Nat) (0 : Nat) (0 : Nat)), (5, SV.ptr (5 : Nat) (0 : Nat) (0 : Nat) (0 : Nat)), (8, SV.row (2 : Nat)), (9, SV.int IntKind.i64 (↑l.length : Int)), (10, .int .i64 k)], [(5, .box true 41 (encWide (W (rayK I l k)))), (4, Ent.box true 41 [SV.int IntKind.i64 (0 : Int), SV.int IntKind.u64 (0 : Int)]), (3, Ent.box true 30 [SV.row (0 : Nat), SV.row (1 : Nat)]), (0, Ent.row false 0 (Row.ints IntKind.i64 I.sup)), (1, Ent.row false 0 (Row.arcs I.arcs)), (2, Ent.row false 0 (Row.ints IntKind.i64 l))], 6⟩, rel := fun k0 k => k ≤ l.length, meas := fun k => l.length - k })]
def Sum12_A : List SV → Heap → List (Nat × Ann) := fun args h => match args, h with
  | [.agg [.row 0, .row 1], .row 2], [(0, .row false ty0 (.ints .i64 I_s)), (1, .row false ty1 (.arcs I_a)), (2, .row false ty2 (.ints .i64 l))] => Sum12_an ⟨I_s, I_a⟩ l
  | _, _ => []
def Sum12_g : Specs := [(isArc_n, (true, specOf true isArc_fs)), (Plus_n, (true, specOf true Plus_fs)), (Of_n, (true, specOf true Of_fs))]
abbrev Sum12_n : Nat := 133
def Sum12_I (I : Inst) (l : List Int) : List (Nat × ISpec) := []
def Sum12_IA : List SV → Heap → List (Nat × ISpec) := fun _ _ => []
def asked1_r (l : List Int) (I : Inst) : FRes := { pre := l.length ≤ 140737488351232, res := .bool (c1F I l), rows := [], eff := [] }
def asked1_fs : FS := fun args h => match args, h with
  | [.ptr 0 0 0 0, .ptr 2 0 0 0], [(0, .box false 25 [.row 1]), (1, .row false ty1 (.ints .i64 l)), (2, .box false 30 [.row 3, .row 4]), (3, .row false ty3 (.ints .i64 I_s)), (4, .row false ty4 (.arcs I_a))] => some (asked1_r l ⟨I_s, I_a⟩)
  | _, _ => none
def asked1_an (l : List Int) (I : Inst) : List (Nat × Ann) := [(2, { G := (Nat), inv := fun k => ⟨[(1, SV.ptr (2 : Nat) (0 : Nat) (0 : Nat) (0 : Nat)), (5, SV.row (1 : Nat)), (6, SV.int IntKind.i64 (↑l.length : Int)), (7, .int .i64 k)], [(1, Ent.row false 0 (Row.ints IntKind.i64 l)), (2, Ent.box false 30 [SV.row (3 : Nat), SV.row (4 : Nat)]), (3, Ent.row false 0 (Row.ints IntKind.i64 I.sup)), (4, Ent.row false 0 (Row.arcs I.arcs))], 5⟩, rel := fun k0 k => k ≤ l.length ∧ (l.take k).all (isArcF I) = true, meas := fun k => l.length - k })]
def asked1_A : List SV → Heap → List (Nat × Ann) := fun args h => match args, h with
  | [.ptr 0 0 0 0, .ptr 2 0 0 0], [(0, .box false 25 [.row 1]), (1, .row false ty1 (.ints .i64 l)), (2, .box false 30 [.row 3, .row 4]), (3, .row false ty3 (.ints .i64 I_s)), (4, .row false ty4 (.arcs I_a))] => asked1_an l ⟨I_s, I_a⟩
  | _, _ => []
def asked1_g : Specs := [(isArc_n, (true, specOf true isArc_fs))]
abbrev asked1_n : Nat := 127
def asked1_I (l : List Int) (I : Inst) : List (Nat × ISpec) := []
def asked1_IA : List SV → Heap → List (Nat × ISpec) := fun _ _ => []
def asked2_r (l : List Int) : FRes := { pre := l.length ≤ 140737488351232, res := .bool (c2F l), rows := [], eff := [] }
def asked2_fs : FS := fun args h => match args, h with
  | [.ptr 0 0 0 0], [(0, .box false 25 [.row 1]), (1, .row false ty1 (.ints .i64 l))] => some (asked2_r l)
  | _, _ => none
def asked2_an (l : List Int) : List (Nat × Ann) := [(3, { G := (Nat), inv := fun k => ⟨[(2, SV.row (2 : Nat)), (6, SV.row (1 : Nat)), (7, SV.int IntKind.i64 (↑l.length : Int)), (8, .int .i64 k)], [(2, .map [.i64] .bool (metM (l.take k))), (1, Ent.row false 0 (Row.ints IntKind.i64 l))], 3⟩, rel := fun k0 k => k ≤ l.length ∧ nodI (l.take k), meas := fun k => l.length - k })]
def asked2_A : List SV → Heap → List (Nat × Ann) := fun args h => match args, h with
  | [.ptr 0 0 0 0], [(0, .box false 25 [.row 1]), (1, .row false ty1 (.ints .i64 l))] => asked2_an l
  | _, _ => []
def asked2_g : Specs := []
abbrev asked2_n : Nat := 129
def asked2_I (l : List Int) : List (Nat × ISpec) := []
def asked2_IA : List SV → Heap → List (Nat × ISpec) := fun _ _ => []
def asked3_r (l : List Int) (I : Inst) : FRes := { pre := l.length ≤ 140737488351232 ∧ c1F I l = true, res := .bool (c3F I l), rows := [], eff := [] }
def asked3_fs : FS := fun args h => match args, h with
  | [.ptr 0 0 0 0, .ptr 2 0 0 0], [(0, .box false 25 [.row 1]), (1, .row false ty1 (.ints .i64 l)), (2, .box false 30 [.row 3, .row 4]), (3, .row false ty3 (.ints .i64 I_s)), (4, .row false ty4 (.arcs I_a))] => some (asked3_r l ⟨I_s, I_a⟩)
  | _, _ => none
def asked3_an (l : List Int) (I : Inst) : List (Nat × Ann) := [(2, { G := (Nat), inv := fun k => ⟨[(0, SV.ptr (0 : Nat) (0 : Nat) (0 : Nat) (0 : Nat)), (1, SV.ptr (2 : Nat) (0 : Nat) (0 : Nat) (0 : Nat)), (6, SV.row (1 : Nat)), (7, SV.int IntKind.i64 (↑l.length : Int)), (8, .int .i64 k)], [(0, Ent.box false 25 [SV.row (1 : Nat)]), (1, Ent.row false 0 (Row.ints IntKind.i64 l)), (2, Ent.box false 30 [SV.row (3 : Nat), SV.row (4 : Nat)]), (3, Ent.row false 0 (Row.ints IntKind.i64 I.sup)), (4, Ent.row false 0 (Row.arcs I.arcs))], 5⟩, rel := fun k0 k => k ≤ l.length ∧ ∀ j, j < k → linkF I l j = true, meas := fun k => l.length - k })]
def asked3_A : List SV → Heap → List (Nat × Ann) := fun args h => match args, h with
  | [.ptr 0 0 0 0, .ptr 2 0 0 0], [(0, .box false 25 [.row 1]), (1, .row false ty1 (.ints .i64 l)), (2, .box false 30 [.row 3, .row 4]), (3, .row false ty3 (.ints .i64 I_s)), (4, .row false ty4 (.arcs I_a))] => asked3_an l ⟨I_s, I_a⟩
  | _, _ => []
def asked3_g : Specs := []
abbrev asked3_n : Nat := 130
def asked3_I (l : List Int) (I : Inst) : List (Nat × ISpec) := []
def asked3_IA : List SV → Heap → List (Nat × ISpec) := fun _ _ => []
def asked4_r (l : List Int) (I : Inst) : FRes := { pre := l.length ≤ 140737488351232 ∧ c1F I l = true, res := .bool (c4F I l), rows := [], eff := [] }
def asked4_fs : FS := fun args h => match args, h with
  | [.ptr 0 0 0 0, .ptr 2 0 0 0], [(0, .box false 25 [.row 1]), (1, .row false ty1 (.ints .i64 l)), (2, .box false 30 [.row 3, .row 4]), (3, .row false ty3 (.ints .i64 I_s)), (4, .row false ty4 (.arcs I_a))] => some (asked4_r l ⟨I_s, I_a⟩)
  | _, _ => none
def asked4_an (l : List Int) (I : Inst) : List (Nat × Ann) := [(2, { G := (Nat), inv := fun k => ⟨[(1, SV.ptr (2 : Nat) (0 : Nat) (0 : Nat) (0 : Nat)), (5, SV.row (1 : Nat)), (6, SV.int IntKind.i64 (↑l.length : Int)), (7, .int .i64 k)], [(1, Ent.row false 0 (Row.ints IntKind.i64 l)), (2, Ent.box false 30 [SV.row (3 : Nat), SV.row (4 : Nat)]), (3, Ent.row false 0 (Row.ints IntKind.i64 I.sup)), (4, Ent.row false 0 (Row.arcs I.arcs))], 5⟩, rel := fun k0 k => k ≤ l.length ∧ (l.take k).all (fun a => decide ((arcAt I a).cap = inf)) = true, meas := fun k => l.length - k })]
def asked4_A : List SV → Heap → List (Nat × Ann) := fun args h => match args, h with
  | [.ptr 0 0 0 0, .ptr 2 0 0 0], [(0, .box false 25 [.row 1]), (1, .row false ty1 (.ints .i64 l)), (2, .box false 30 [.row 3, .row 4]), (3, .row false ty3 (.ints .i64 I_s)), (4, .row false ty4 (.arcs I_a))] => asked4_an l ⟨I_s, I_a⟩
  | _, _ => []
def asked4_g : Specs := []
abbrev asked4_n : Nat := 131
def asked4_I (l : List Int) (I : Inst) : List (Nat × ISpec) := []
def asked4_IA : List SV → Heap → List (Nat × ISpec) := fun _ _ => []
def asked5_r (I : Inst) (l : List Int) : FRes := { pre := l.length ≤ 140737488351232 ∧ A64c I.arcs, res := .bool (c5F I l), rows := [], eff := [] }
def asked5_fs : FS := fun args h => match args, h with
  | [.ptr 0 0 0 0, .ptr 3 0 0 0], [(0, .box false 30 [.row 1, .row 2]), (1, .row false ty1 (.ints .i64 I_s)), (2, .row false ty2 (.arcs I_a)), (3, .box false 25 [.row 4]), (4, .row false ty4 (.ints .i64 l))] => some (asked5_r ⟨I_s, I_a⟩ l)
  | _, _ => none
def asked5_an (I : Inst) (l : List Int) : List (Nat × Ann) := []
def asked5_A : List SV → Heap → List (Nat × Ann) := fun _ _ => []
def asked5_g : Specs := [(Sum12_n, (true, specOf true Sum12_fs)), (Of_n, (true, specOf true Of_fs)), (Compare_n, (true, specOf true Compare_fs))]
abbrev asked5_n : Nat := 132
def asked5_I (I : Inst) (l : List Int) : List (Nat × ISpec) := []
def asked5_IA : List SV → Heap → List (Nat × ISpec) := fun _ _ => []
abbrev asked_n : Nat := 100
def asked_g : Specs := []
def asked_spec : Vc.Spec := inlSpec TT asked_g (fun _ _ _ => []) Try.f100
def Turns_r (I : Inst) (l : List Int) : FRes := { pre := l.length ≤ 140737488351232 ∧ A64c I.arcs, res := .int .u16 (turnsF I l), rows := [], eff := [] }
def Turns_fs : FS := fun args h => match args, h with
  | [.agg [.row 0, .row 1], .row 2], [(0, .row false ty0 (.ints .i64 I_s)), (1, .row false ty1 (.arcs I_a)), (2, .row false ty2 (.ints .i64 l))] => some (Turns_r ⟨I_s, I_a⟩ l)
  | _, _ => none
def Turns_an (I : Inst) (l : List Int) : List (Nat × Ann) := [(7, { G := (Nat), inv := fun k => ⟨[(26, SV.row (7 : Nat)), (27, SV.int IntKind.i64 (↑(5 : Nat) : Int)), (28, .int .i64 k)], [(7, Ent.vec 33 [SV.fn 127 [SV.ptr (5 : Nat) (0 : Nat) (0 : Nat) (0 : Nat), SV.ptr (4 : Nat) (0 : Nat) (0 : Nat) (0 : Nat)], SV.fn 129 [SV.ptr (5 : Nat) (0 : Nat) (0 : Nat) (0 : Nat)], SV.fn 130 [SV.ptr (5 : Nat) (0 : Nat) (0 : Nat) (0 : Nat), SV.ptr (4 : Nat) (0 : Nat) (0 : Nat) (0 : Nat)], SV.fn 131 [SV.ptr (5 : Nat) (0 : Nat) (0 : Nat) (0 : Nat), SV.ptr (4 : Nat) (0 : Nat) (0 : Nat) (0 : Nat)], SV.fn 132 [SV.ptr (4 : Nat) (0 : Nat) (0 : Nat) (0 : Nat), SV.ptr (5 : Nat) (0 : Nat) (0 : Nat) (0 : Nat)]]), (5, Ent.box true 25 [SV.row (2 : Nat)]), (4, Ent.box true 30 [SV.row (0 : Nat), SV.row (1 : Nat)]), (0, Ent.row false 0 (Row.ints IntKind.i64 I.sup)), (1, Ent.row false 0 (Row.arcs I.arcs)), (2, Ent.row false 0 (Row.ints IntKind.i64 l))], 8⟩, rel := fun k0 k => k ≤ 5 ∧ (1 ≤ k → c1F I l = true) ∧ (2 ≤ k → c2F l = true) ∧ (3 ≤ k → c3F I l = true) ∧ (4 ≤ k → c4F I l = true) ∧ (5 ≤ k → c5F I l = true), meas := fun k => 5 - k })]
def Turns_A : List SV → Heap → List (Nat × Ann) := fun args h => match args, h with
  | [.agg [.row 0, .row 1], .row 2], [(0, .row false ty0 (.ints .i64 I_s)), (1, .row false ty1 (.arcs I_a)), (2, .row false ty2 (.ints .i64 l))] => Turns_an ⟨I_s, I_a⟩ l
  | _, _ => []
def Turns_g : Specs := [(Right_n, (true, specOf true Right_fs)), (asked_n, (false, asked_spec)), (asked1_n, (true, specOf true asked1_fs)), (asked2_n, (true, specOf true asked2_fs)), (asked3_n, (true, specOf true asked3_fs)), (asked4_n, (true, specOf true asked4_fs)), (asked5_n, (true, specOf true asked5_fs))]
abbrev Turns_n : Nat := 60
def Turns_I (I : Inst) (l : List Int) : List (Nat × ISpec) := []
def Turns_IA : List SV → Heap → List (Nat × ISpec) := fun _ _ => []
end Go.Proofs.Ytggblkbecekbdaa
