/- Part of the proof, DC10. -/
import Derived.Test.YtggblkbecekbdaaZDB9
import Derived.Test.YtggblkbecekbdaaZLaw10
import Derived.Test.YtggblkbecekbdaaZTy
set_option linter.all false
set_option linter.unusedSimpArgs false
set_option linter.unusedVariables false
namespace Go.Proofs.Ytggblkbecekbdaa
open Go Go.RowKit Go.Ql Go.Vc
def on_r (side : List Bool) (n : Int) : FRes := { pre := True, res := .bool (onF side n), rows := [], eff := [] }
def on_fs : FS := fun args h => match args, h with
  | [.row 0, .int .i64 n], [(0, .row false ty0 (.bools side))] => some (on_r side n)
  | _, _ => none
def on_an (side : List Bool) (n : Int) : List (Nat × Ann) := []
def on_A : List SV → Heap → List (Nat × Ann) := fun _ _ => []
def on_g : Specs := []
abbrev on_n : Nat := 126
def on_I (side : List Bool) (n : Int) : List (Nat × ISpec) := []
def on_IA : List SV → Heap → List (Nat × ISpec) := fun _ _ => []
def over1_r (n : Int) (I : Inst) : FRes := { pre := True, res := .bool (isN I.sup.length n), rows := [], eff := [] }
def over1_fs : FS := fun args h => match args, h with
  | [.int .i64 n, .ptr 0 0 0 0], [(0, .box false 30 [.row 1, .row 2]), (1, .row false ty1 (.ints .i64 I_s)), (2, .row false ty2 (.arcs I_a))] => some (over1_r n ⟨I_s, I_a⟩)
  | _, _ => none
def over1_an (n : Int) (I : Inst) : List (Nat × Ann) := []
def over1_A : List SV → Heap → List (Nat × Ann) := fun _ _ => []
def over1_g : Specs := []
abbrev over1_n : Nat := 142
def over1_I (n : Int) (I : Inst) : List (Nat × ISpec) := []
def over1_IA : List SV → Heap → List (Nat × ISpec) := fun _ _ => []
abbrev over_n : Nat := 125
def over_g : Specs := []
def over_spec : Vc.Spec := inlSpec TT over_g (fun _ _ _ => []) Try.f125
def CRoom_r (I : Inst) (side : List Bool) : FRes := { pre := A64a I.arcs ∧ I.arcs.length ≤ 140737488351232, res := .tup [.agg (encWide (roomW (roomC I side))), .bool ((roomC I side).isSome)], rows := [], eff := [] }
def CRoom_fs : FS := fun args h => match args, h with
  | [.agg [.row 0, .row 1], .row 2], [(0, .row false ty0 (.ints .i64 I_s)), (1, .row false ty1 (.arcs I_a)), (2, .row false ty2 (.bools side))] => some (CRoom_r ⟨I_s, I_a⟩ side)
  | _, _ => none
def CRoom_an (I : Inst) (side : List Bool) : List (Nat × Ann) := []
def CRoom_A : List SV → Heap → List (Nat × Ann) := fun _ _ => []
def CRoom_g : Specs := [(over_n, (false, over_spec)), (Minus_n, (true, specOf true Minus_fs)), (Of_n, (true, specOf true Of_fs)), (Plus_n, (true, specOf true Plus_fs))]
abbrev CRoom_n : Nat := 97
def CRoom_i0g : Specs := [(over1_n, (true, specOf true over1_fs)), (on_n, (true, specOf true on_fs))]
def CRoom_i0 (I : Inst) (side : List Bool) : ISpec := inlI TT CRoom_i0g (fun args hp nk => match args with
    | [y, c1, c2, c3] => [(1, { G := Nat × Int, inv := fun g => ⟨[(0, y), (1, c1), (2, c2), (3, c3), (9, .row 1), (10, .int .i64 I.arcs.length), (11, .int .i64 g.1)], Vc.put 6 (.box true 41 (encWide (W g.2))) hp, nk⟩, rel := fun _ g => g.1 ≤ I.arcs.length ∧ roomAcc I.sup.length side (I.arcs.drop g.1) g.2 = roomC I side, meas := fun g => I.arcs.length - g.1 })]
    | _ => []) Try.f143
def CRoom_I (I : Inst) (side : List Bool) : List (Nat × ISpec) := [(143, CRoom_i0 I side)]
def CRoom_IA : List SV → Heap → List (Nat × ISpec) := fun args h => match args, h with
  | [.agg [.row 0, .row 1], .row 2], [(0, .row false ty0 (.ints .i64 I_s)), (1, .row false ty1 (.arcs I_a)), (2, .row false ty2 (.bools side))] => CRoom_I ⟨I_s, I_a⟩ side
  | _, _ => []
def Need_r (I : Inst) (side : List Bool) : FRes := { pre := A64 I.sup ∧ I.sup.length ≤ 140737488351232, res := .agg (encWide (W (needF I side))), rows := [], eff := [] }
def Need_fs : FS := fun args h => match args, h with
  | [.agg [.row 0, .row 1], .row 2], [(0, .row false ty0 (.ints .i64 I_s)), (1, .row false ty1 (.arcs I_a)), (2, .row false ty2 (.bools side))] => some (Need_r ⟨I_s, I_a⟩ side)
  | _, _ => none
def Need_an (I : Inst) (side : List Bool) : List (Nat × Ann) := [(3, { G := (Nat), inv := fun k => ⟨[(1, SV.row (2 : Nat)), (4, SV.ptr (4 : Nat) (0 : Nat) (0 : Nat) (0 : Nat)), (5, SV.ptr (5 : Nat) (0 : Nat) (0 : Nat) (0 : Nat)), (9, SV.row (0 : Nat)), (10, SV.int IntKind.i64 (↑I.sup.length : Int)), (11, .int .i64 k)], [(5, .box true 41 (encWide (W (needK side I.sup k)))), (4, Ent.box true 41 [SV.int IntKind.i64 (0 : Int), SV.int IntKind.u64 (0 : Int)]), (0, Ent.row false 0 (Row.ints IntKind.i64 I.sup)), (2, Ent.row false 0 (Row.bools side))], 6⟩, rel := fun k0 k => k ≤ I.sup.length, meas := fun k => I.sup.length - k })]
def Need_A : List SV → Heap → List (Nat × Ann) := fun args h => match args, h with
  | [.agg [.row 0, .row 1], .row 2], [(0, .row false ty0 (.ints .i64 I_s)), (1, .row false ty1 (.arcs I_a)), (2, .row false ty2 (.bools side))] => Need_an ⟨I_s, I_a⟩ side
  | _, _ => []
def Need_g : Specs := [(on_n, (true, specOf true on_fs)), (Plus_n, (true, specOf true Plus_fs)), (Of_n, (true, specOf true Of_fs))]
abbrev Need_n : Nat := 98
def Need_I (I : Inst) (side : List Bool) : List (Nat × ISpec) := []
def Need_IA : List SV → Heap → List (Nat × ISpec) := fun _ _ => []
def Proves_r (I : Inst) (side : List Bool) : FRes := { pre := A64a I.arcs ∧ I.arcs.length ≤ 140737488351232 ∧ A64 I.sup ∧ I.sup.length ≤ 140737488351232, res := .int .u16 (provesF I side), rows := [], eff := [] }
def Proves_fs : FS := fun args h => match args, h with
  | [.agg [.row 0, .row 1], .row 2], [(0, .row false ty0 (.ints .i64 I_s)), (1, .row false ty1 (.arcs I_a)), (2, .row false ty2 (.bools side))] => some (Proves_r ⟨I_s, I_a⟩ side)
  | _, _ => none
def Proves_an (I : Inst) (side : List Bool) : List (Nat × Ann) := []
def Proves_A : List SV → Heap → List (Nat × Ann) := fun _ _ => []
def Proves_g : Specs := [(Right_n, (true, specOf true Right_fs)), (CRoom_n, (true, specOf true CRoom_fs)), (Need_n, (true, specOf true Need_fs)), (Compare_n, (true, specOf true Compare_fs))]
abbrev Proves_n : Nat := 57
def Proves_I (I : Inst) (side : List Bool) : List (Nat × ISpec) := []
def Proves_IA : List SV → Heap → List (Nat × ISpec) := fun _ _ => []
end Go.Proofs.Ytggblkbecekbdaa
