/-
  CONTRACTS, as data: InstWithout. No proofs.
-/
import Derived.Test.YtimkpgkpebjglaaDA5
import Derived.Test.YtimkpgkpebjglaaTy
set_option linter.unusedSimpArgs false
set_option linter.unusedVariables false
namespace Go.Proofs.Ytimkpgkpebjglaa
open Go Go.RowKit Go.Ql Go.Vc


def onesF (c d e : List Int) : Inst := withoutF (instF c d) (marksF e (instF c d).sup.length) []
def leftF (c d e : List Int) : List Nat := keptF (marksF e (instF c d).sup.length) (keptN (instF c d).sup.length)


def InstWithout_r (c : List Int) (d : List Int) (e : List Int) : FRes := { pre := Bytes c ∧ Bytes d ∧ c.length ≤ maxLen ∧ d.length ≤ maxLen ∧ Bytes e ∧ e.length ≤ maxLen, res := .bool (true), rows := [], eff := [] }
def InstWithout_fs : FS := fun args h => match args, h with
  | [.row 0, .row 1, .row 2], [(0, .row false ty0 (.ints .u8 c)), (1, .row false ty1 (.ints .u8 d)), (2, .row false ty2 (.ints .u8 e))] => some (InstWithout_r c d e)
  | _, _ => none
def InstWithout_an (c : List Int) (d : List Int) (e : List Int) : List (Nat × Ann) := [(8, { G := (Nat), inv := fun k => ⟨[(7, SV.ptr (7 : Nat) (0 : Nat) (0 : Nat) (0 : Nat)), (9, SV.row (9 : Nat)), (10, SV.ptr (15 : Nat) (0 : Nat) (0 : Nat) (0 : Nat)), (11, .int .i64 k)], [(15, Ent.box true 26 [SV.row (11 : Nat), SV.row (12 : Nat)]), (11, .row true 2 (.ints .i64 (onesF c d e).sup)), (12, .row true 41 (.arcs (onesF c d e).arcs)), (9, .row true 3 (.ints .i64 ((leftF c d e).map Int.ofNat))), (7, Ent.box true 26 [SV.row (3 : Nat), SV.row (4 : Nat)]), (3, Ent.row true 2 (Row.ints IntKind.i64 (instF c d).sup)), (4, Ent.row true 41 (Row.arcs (instF c d).arcs))], 16⟩, rel := fun k0 k => k ≤ (onesF c d e).arcs.length, meas := fun k => (onesF c d e).arcs.length - k }),
  (17, { G := (Nat) × (Nat) × (Bool) × (Arc), inv := fun ⟨k, j, f, a⟩ => ⟨[(7, SV.ptr (7 : Nat) (0 : Nat) (0 : Nat) (0 : Nat)), (9, SV.row (9 : Nat)), (10, SV.ptr (15 : Nat) (0 : Nat) (0 : Nat) (0 : Nat)), (11, .int .i64 k), (12, SV.ptr (16 : Nat) (0 : Nat) (0 : Nat) (0 : Nat)), (13, .bool f), (14, .int .i64 j)], [(16, .box true 41 (encArc a)), (15, Ent.box true 26 [SV.row (11 : Nat), SV.row (12 : Nat)]), (11, .row true 2 (.ints .i64 (onesF c d e).sup)), (12, .row true 41 (.arcs (onesF c d e).arcs)), (9, .row true 3 (.ints .i64 ((leftF c d e).map Int.ofNat))), (7, Ent.box true 26 [SV.row (3 : Nat), SV.row (4 : Nat)]), (3, Ent.row true 2 (Row.ints IntKind.i64 (instF c d).sup)), (4, Ent.row true 41 (Row.arcs (instF c d).arcs))], 17⟩, rel := fun ⟨k0, j0, f0, a0⟩ ⟨k, j, f, a⟩ => k < (onesF c d e).arcs.length ∧ k = k0 ∧ a = a0 ∧ j ≤ (instF c d).arcs.length ∧ (f = true ↔ a ∈ (instF c d).arcs.take j), meas := fun ⟨k, j, f, a⟩ => (instF c d).arcs.length - j }),
  (23, { G := (Nat), inv := fun k => ⟨[(7, SV.ptr (7 : Nat) (0 : Nat) (0 : Nat) (0 : Nat)), (9, SV.row (9 : Nat)), (10, SV.ptr (15 : Nat) (0 : Nat) (0 : Nat) (0 : Nat)), (15, .int .i64 k)], [(15, Ent.box true 26 [SV.row (11 : Nat), SV.row (12 : Nat)]), (11, .row true 2 (.ints .i64 (onesF c d e).sup)), (12, .row true 41 (.arcs (onesF c d e).arcs)), (9, .row true 3 (.ints .i64 ((leftF c d e).map Int.ofNat))), (7, Ent.box true 26 [SV.row (3 : Nat), SV.row (4 : Nat)]), (3, Ent.row true 2 (Row.ints IntKind.i64 (instF c d).sup)), (4, Ent.row true 41 (Row.arcs (instF c d).arcs))], 16⟩, rel := fun k0 k => k ≤ (leftF c d e).length, meas := fun k => (leftF c d e).length - k })]
def InstWithout_A : List SV → Heap → List (Nat × Ann) := fun args h => match args, h with
  | [.row 0, .row 1, .row 2], [(0, .row false ty0 (.ints .u8 c)), (1, .row false ty1 (.ints .u8 d)), (2, .row false ty2 (.ints .u8 e))] => InstWithout_an c d e
  | _, _ => []
def InstWithout_g : Specs := [(Inst_n, (true, specOf true Inst_fs)), (Marks_n, (true, specOf true Marks_fs)), (Kept_n, (true, specOf true Kept_fs)), (Without_n, (true, specOf true Without_fs)), (known_n, (true, specOf true known_fs)), (Same_n, (true, specOf true Same_fs)), (Span_n, (true, specOf true Span_fs))]
abbrev InstWithout_n : Nat := 4
end Go.Proofs.Ytimkpgkpebjglaa
