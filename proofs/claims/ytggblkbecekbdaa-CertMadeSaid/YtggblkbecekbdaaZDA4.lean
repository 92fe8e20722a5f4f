/- Part of the proof, DA4. -/
import Derived.Test.YtggblkbecekbdaaZDA3
import Derived.Test.YtggblkbecekbdaaZTy
set_option linter.all false
set_option linter.unusedSimpArgs false
set_option linter.unusedVariables false
namespace Go.Proofs.Ytggblkbecekbdaa
open Go Go.RowKit Go.Ql Go.Vc
def Inst_r (c : List Int) (d : List Int) : FRes := { pre := Bytes c ∧ Bytes d ∧ c.length ≤ maxLen ∧ d.length ≤ maxLen, res := .agg [.row 2, .row 3], rows := [.row 2 (.ints .i64 (instF c d).sup), .row 50 (.arcs (instF c d).arcs)], eff := [] }
def Inst_fs : FS := fun args h => match args, h with
  | [.row 0, .row 1], [(0, .row false ty0 (.ints .u8 c)), (1, .row false ty1 (.ints .u8 d))] => some (Inst_r c d)
  | _, _ => none
def Inst_an (c : List Int) (d : List Int) : List (Nat × Ann) := [(1000004, { G := Unit, inv := fun _ => ⟨[(0, SV.row (0 : Nat)), (1, SV.row (1 : Nat)), (4, SV.ptr (4 : Nat) (0 : Nat) (0 : Nat) (0 : Nat)), (5, .int .i64 (nOf d))], [(4, Ent.box true 30 [SV.row (2 : Nat), SV.row (3 : Nat)]), (2, Ent.row true 2 (Row.ints IntKind.i64 [])), (3, Ent.row true 50 (Row.arcs [])), (0, Ent.row false 0 (Row.ints IntKind.u8 c)), (1, Ent.row false 0 (Row.ints IntKind.u8 d))], 5⟩, rel := fun _ _ => True, meas := fun _ => 0 }),
  (1000005, { G := Unit, inv := fun _ => ⟨[(1, SV.row (1 : Nat)), (4, SV.ptr (4 : Nat) (0 : Nat) (0 : Nat) (0 : Nat)), (5, SV.int IntKind.i64 (↑(nOf d) : Int)), (6, SV.ptr (11 : Nat) (0 : Nat) (0 : Nat) (0 : Nat))], [(11, Ent.box true 30 [SV.row (5 : Nat), SV.row (6 : Nat)]), (6, Ent.row true 50 (Row.arcs (arcsF c (↑(nOf d) : Int)))), (5, Ent.row true 2 (Row.ints IntKind.i64 (List.replicate (↑(nOf d) : Int).toNat (0 : Int)))), (4, Ent.box true 30 [SV.row (2 : Nat), SV.row (3 : Nat)]), (2, Ent.row true 2 (Row.ints IntKind.i64 [])), (3, Ent.row true 50 (Row.arcs [])), (1, Ent.row false 0 (Row.ints IntKind.u8 d))], 12⟩, rel := fun _ _ => True, meas := fun _ => 0 }),
  (6, { G := (Nat) × (List Int), inv := fun ⟨k, s⟩ => ⟨[(1, SV.row (1 : Nat)), (4, SV.ptr (4 : Nat) (0 : Nat) (0 : Nat) (0 : Nat)), (5, SV.int IntKind.i64 (↑(nOf d) : Int)), (6, SV.ptr (11 : Nat) (0 : Nat) (0 : Nat) (0 : Nat)), (7, .int .i64 k)], [(11, Ent.box true 30 [SV.row (5 : Nat), SV.row (6 : Nat)]), (6, Ent.row true 50 (Row.arcs (arcsF c (↑(nOf d) : Int)))), (5, .row true 2 (.ints .i64 s)), (4, Ent.box true 30 [SV.row (2 : Nat), SV.row (3 : Nat)]), (2, Ent.row true 2 (Row.ints IntKind.i64 [])), (3, Ent.row true 50 (Row.arcs [])), (1, Ent.row false 0 (Row.ints IntKind.u8 d))], 12⟩, rel := fun ⟨k0, s0⟩ ⟨k, s⟩ => k ≤ (arcsF c (nOf d)).length ∧ s.length = nOf d ∧ Within (10 * k) s ∧ supGo d ((arcsF c (nOf d)).drop k) k s = sup1 c d, meas := fun ⟨k, s⟩ => (arcsF c (nOf d)).length - k })]
def Inst_A : List SV → Heap → List (Nat × Ann) := fun args h => match args, h with
  | [.row 0, .row 1], [(0, .row false ty0 (.ints .u8 c)), (1, .row false ty1 (.ints .u8 d))] => Inst_an c d
  | _, _ => []
def Inst_g : Specs := [(Arcs_n, (true, specOf true Arcs_fs))]
abbrev Inst_n : Nat := 10
def Inst_I (c : List Int) (d : List Int) : List (Nat × ISpec) := []
def Inst_IA : List SV → Heap → List (Nat × ISpec) := fun _ _ => []
end Go.Proofs.Ytggblkbecekbdaa
