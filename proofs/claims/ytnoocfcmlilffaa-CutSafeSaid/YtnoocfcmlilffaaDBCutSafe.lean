/-
  CONTRACTS, as data: CutSafe. No proofs.
-/
import Derived.Test.YtnoocfcmlilffaaDC10
import Derived.Test.YtnoocfcmlilffaaLaw10
import Derived.Test.YtnoocfcmlilffaaTy
set_option linter.all false
set_option linter.unusedSimpArgs false
set_option linter.unusedVariables false
namespace Go.Proofs.Ytnoocfcmlilffaa
open Go Go.RowKit Go.Ql Go.Vc


def CutSafe_r (c : List Int) (d : List Int) (e : List Int) (fl : List Int) (more : Int) : FRes := { pre := Bytes c ∧ Bytes d ∧ c.length ≤ maxLen ∧ d.length ≤ maxLen ∧ Bytes e ∧ e.length ≤ maxLen ∧ A64 fl ∧ 0 ≤ more ∧ more ≤ 255, res := .bool (true), rows := [], eff := [] }
def CutSafe_fs : FS := fun args h => match args, h with
  | [.row 0, .row 1, .row 2, .row 3, .int .u8 more], [(0, .row false ty0 (.ints .u8 c)), (1, .row false ty1 (.ints .u8 d)), (2, .row false ty2 (.ints .u8 e)), (3, .row false ty3 (.ints .i64 fl))] => some (CutSafe_r c d e fl more)
  | _, _ => none
def CutSafe_an (c : List Int) (d : List Int) (e : List Int) (fl : List Int) (more : Int) : List (Nat × Ann) := [(1000005, { G := Unit, inv := fun _ => ⟨[(1, SV.row (1 : Nat)), (2, SV.row (2 : Nat)), (3, SV.row (3 : Nat)), (11, SV.ptr (8 : Nat) (0 : Nat) (0 : Nat) (0 : Nat))], [(8, Ent.box true 26 [SV.row (4 : Nat), SV.row (5 : Nat)]), (4, .row true 2 (.ints .i64 (supM (instF c d).sup more))), (5, Ent.row true 34 (Row.arcs (instF c d).arcs)), (1, Ent.row false 0 (Row.ints IntKind.u8 d)), (2, Ent.row false 0 (Row.ints IntKind.u8 e)), (3, Ent.row false 0 (Row.ints IntKind.i64 fl))], 9⟩, rel := fun _ _ => True, meas := fun _ => 0 }),
  (14, { G := (Nat), inv := fun k => ⟨[(11, SV.ptr (8 : Nat) (0 : Nat) (0 : Nat) (0 : Nat)), (12, SV.row (9 : Nat)), (13, SV.row (10 : Nat)), (15, SV.ptr (11 : Nat) (0 : Nat) (0 : Nat) (0 : Nat)), (16, .int .i64 k)], [(11, .box true 42 (encWide (W (crossK (supM (instF c d).sup more).length (wholeF e (supM (instF c d).sup more).length) (instF c d).arcs (flowF ⟨supM (instF c d).sup more, (instF c d).arcs⟩ d) k)))), (10, Ent.row true 2 (Row.ints IntKind.i64 (flowF { sup := supM (instF c d).sup more, arcs := (instF c d).arcs : Inst } d))), (9, Ent.row true 4 (Row.bools (wholeF e (↑(supM (instF c d).sup more).length : Int).toNat))), (8, Ent.box true 26 [SV.row (4 : Nat), SV.row (5 : Nat)]), (4, Ent.row true 2 (Row.ints IntKind.i64 (supM (instF c d).sup more))), (5, Ent.row true 34 (Row.arcs (instF c d).arcs))], 12⟩, rel := fun k0 k => k ≤ (instF c d).arcs.length, meas := fun k => (instF c d).arcs.length - k })]
def CutSafe_A : List SV → Heap → List (Nat × Ann) := fun args h => match args, h with
  | [.row 0, .row 1, .row 2, .row 3, .int .u8 more], [(0, .row false ty0 (.ints .u8 c)), (1, .row false ty1 (.ints .u8 d)), (2, .row false ty2 (.ints .u8 e)), (3, .row false ty3 (.ints .i64 fl))] => CutSafe_an c d e fl more
  | _, _ => []
def CutSafe_g : Specs := [(Inst_n, (true, specOf true Inst_fs)), (whole_n, (true, specOf true whole_fs)), (Flow_n, (true, specOf true Flow_fs)), (Proves_n, (true, specOf true Proves_fs)), (Fits_n, (true, specOf true Fits_fs)), (known10_n, (true, specOf true known10_fs)), (Plus_n, (true, specOf true Plus_fs)), (Minus_n, (true, specOf true Minus_fs)), (Of_n, (true, specOf true Of_fs)), (CRoom_n, (true, specOf true CRoom_fs)), (Need_n, (true, specOf true Need_fs)), (Compare_n, (true, specOf true Compare_fs))]
abbrev CutSafe_n : Nat := 14
def CutSafe_I (c : List Int) (d : List Int) (e : List Int) (fl : List Int) (more : Int) : List (Nat × ISpec) := []
def CutSafe_IA : List SV → Heap → List (Nat × ISpec) := fun _ _ => []
end Go.Proofs.Ytnoocfcmlilffaa
