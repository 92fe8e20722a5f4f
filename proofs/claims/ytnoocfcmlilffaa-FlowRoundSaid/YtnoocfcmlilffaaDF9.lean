/-
  CONTRACTS, as data: FlowRound. No proofs.
-/
import Derived.Test.YtnoocfcmlilffaaDC9
import Derived.Test.YtnoocfcmlilffaaLaw09
import Derived.Test.YtnoocfcmlilffaaTy
set_option linter.all false
set_option linter.unusedSimpArgs false
set_option linter.unusedVariables false
namespace Go.Proofs.Ytnoocfcmlilffaa
open Go Go.RowKit Go.Ql Go.Vc


def FlowRound_r (c : List Int) (d : List Int) (x : List Int) (n : Int) (m : Int) : FRes := { pre := Bytes c ∧ Bytes d ∧ c.length ≤ maxLen ∧ d.length ≤ maxLen ∧ A32 x ∧ -2147483648 ≤ n ∧ n ≤ 2147483647 ∧ 0 ≤ m ∧ m ≤ 255, res := .bool (true), rows := [], eff := [] }
def FlowRound_fs : FS := fun args h => match args, h with
  | [.row 0, .row 1, .row 2, .int .i32 n, .int .u8 m], [(0, .row false ty0 (.ints .u8 c)), (1, .row false ty1 (.ints .u8 d)), (2, .row false ty2 (.ints .i32 x))] => some (FlowRound_r c d x n m)
  | _, _ => none
def FlowRound_an (c : List Int) (d : List Int) (x : List Int) (n : Int) (m : Int) : List (Nat × Ann) := [(6, { G := (Nat), inv := fun k => ⟨[(2, SV.row (2 : Nat)), (3, SV.int IntKind.i32 n), (11, SV.ptr (7 : Nat) (0 : Nat) (0 : Nat) (0 : Nat)), (12, SV.int IntKind.i64 (↑(instF c d).sup.length : Int)), (13, .int .i64 (1 + m % (instF c d).sup.length)), (14, SV.int IntKind.i64 (↑(instF c d).arcs.length : Int)), (15, .int .i64 k)], [(7, Ent.box true 26 [SV.row (3 : Nat), SV.row (4 : Nat)]), (3, Ent.row true 2 (Row.ints IntKind.i64 (instF c d).sup)), (4, .row true 34 (.arcs ((instF c d).arcs ++ roundA (1 + m % (instF c d).sup.length).toNat k))), (2, Ent.row false 0 (Row.ints IntKind.i32 x))], 8⟩, rel := fun k0 k => (k : Int) ≤ 1 + m % (instF c d).sup.length, meas := fun k => (1 + m % (instF c d).sup.length).toNat - k }),
  (11, { G := (Nat), inv := fun k => ⟨[(2, SV.row (2 : Nat)), (3, SV.int IntKind.i32 n), (11, SV.ptr (7 : Nat) (0 : Nat) (0 : Nat) (0 : Nat)), (12, SV.int IntKind.i64 (↑(instF c d).sup.length : Int)), (13, SV.int IntKind.i64 ((1 : Int) + m % (↑(instF c d).sup.length : Int))), (14, SV.int IntKind.i64 (↑(instF c d).arcs.length : Int)), (16, SV.row (8 : Nat)), (17, SV.row (9 : Nat)), (18, .int .i64 k)], [(9, .row true 2 (.ints .i64 (plusF x (instF c d).arcs.length n k))), (8, .row true 2 (.ints .i64 (padF x k))), (7, Ent.box true 26 [SV.row (3 : Nat), SV.row (4 : Nat)]), (3, Ent.row true 2 (Row.ints IntKind.i64 (instF c d).sup)), (4, .row true 34 (.arcs ((instF c d).arcs ++ roundA (1 + m % (instF c d).sup.length).toNat (1 + m % (instF c d).sup.length).toNat))), (2, Ent.row false 0 (Row.ints IntKind.i32 x))], 10⟩, rel := fun k0 k => k ≤ (instF c d).arcs.length + (1 + m % (instF c d).sup.length).toNat, meas := fun k => (instF c d).arcs.length + (1 + m % (instF c d).sup.length).toNat - k }),
  (25, { G := (Nat), inv := fun k => ⟨[(3, SV.int IntKind.i32 n), (11, SV.ptr (7 : Nat) (0 : Nat) (0 : Nat) (0 : Nat)), (12, SV.int IntKind.i64 (↑(instF c d).sup.length : Int)), (13, SV.int IntKind.i64 ((1 : Int) + m % (↑(instF c d).sup.length : Int))), (16, SV.row (8 : Nat)), (17, SV.row (9 : Nat)), (20, SV.row (10 : Nat)), (21, SV.row (11 : Nat)), (22, .int .i64 k)], [(11, .row true 42 (.wides (netF ⟨(instF c d).sup, (instF c d).arcs ++ roundA (1 + m % (instF c d).sup.length).toNat (1 + m % (instF c d).sup.length).toNat⟩ (plusF x (instF c d).arcs.length n ((instF c d).arcs.length + (1 + m % (instF c d).sup.length).toNat))))), (10, .row true 42 (.wides (netF ⟨(instF c d).sup, (instF c d).arcs ++ roundA (1 + m % (instF c d).sup.length).toNat (1 + m % (instF c d).sup.length).toNat⟩ (padF x ((instF c d).arcs.length + (1 + m % (instF c d).sup.length).toNat))))), (9, .row true 2 (.ints .i64 (plusF x (instF c d).arcs.length n ((instF c d).arcs.length + (1 + m % (instF c d).sup.length).toNat)))), (8, .row true 2 (.ints .i64 (padF x ((instF c d).arcs.length + (1 + m % (instF c d).sup.length).toNat)))), (7, Ent.box true 26 [SV.row (3 : Nat), SV.row (4 : Nat)]), (3, Ent.row true 2 (Row.ints IntKind.i64 (instF c d).sup)), (4, .row true 34 (.arcs ((instF c d).arcs ++ roundA (1 + m % (instF c d).sup.length).toNat (1 + m % (instF c d).sup.length).toNat)))], 12⟩, rel := fun k0 k => k ≤ (instF c d).sup.length, meas := fun k => (instF c d).sup.length - k })]
def FlowRound_A : List SV → Heap → List (Nat × Ann) := fun args h => match args, h with
  | [.row 0, .row 1, .row 2, .int .i32 n, .int .u8 m], [(0, .row false ty0 (.ints .u8 c)), (1, .row false ty1 (.ints .u8 d)), (2, .row false ty2 (.ints .i32 x))] => FlowRound_an c d x n m
  | _, _ => []
def FlowRound_g : Specs := [(Inst_n, (true, specOf true Inst_fs)), (Net_n, (true, specOf true Net_fs)), (known9_n, (true, specOf true known9_fs)), (Cost_n, (true, specOf true Cost_fs)), (Plus_n, (true, specOf true Plus_fs)), (Times_n, (true, specOf true Times_fs))]
abbrev FlowRound_n : Nat := 12
end Go.Proofs.Ytnoocfcmlilffaa
