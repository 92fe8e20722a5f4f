/- Part of the proof, DBTwinSums. -/
import Derived.Test.YtnjcklhgdpgllaaZDT16
import Derived.Test.YtnjcklhgdpgllaaZTwin5
import Derived.Test.YtnjcklhgdpgllaaZTy
set_option linter.all false
set_option linter.unusedSimpArgs false
set_option linter.unusedVariables false
namespace Go.Proofs.Ytnjcklhgdpgllaa
open Go Go.RowKit Go.Ql Go.Vc
def TwinSums_r (c : List Int) (d : List Int) (n : Int) (k : Int) : FRes := { pre := Bytes c ∧ Bytes d ∧ c.length ≤ maxLen ∧ d.length ≤ maxLen ∧ -2147483648 ≤ n ∧ n ≤ 2147483647 ∧ 0 ≤ k ∧ k ≤ 255, res := .bool (true), rows := [], eff := [] }
def TwinSums_fs : FS := fun args h => match args, h with
  | [.row 0, .row 1, .int .i32 n, .int .u8 k], [(0, .row false ty0 (.ints .u8 c)), (1, .row false ty1 (.ints .u8 d))] => some (TwinSums_r c d n k)
  | _, _ => none
def TwinSums_an (c : List Int) (d : List Int) (n : Int) (k : Int) : List (Nat × Ann) := [(16, { G := (List Int) × (Nat), inv := fun ⟨l, j⟩ => ⟨[(9, SV.ptr (6 : Nat) (0 : Nat) (0 : Nat) (0 : Nat)), (11, SV.row (8 : Nat)), (12, SV.int IntKind.i64 (IntKind.i64.wrap (n.tmod (40 : Int)))), (13, SV.row (9 : Nat)), (15, .int .i64 (sumTo (fun i : Nat => ((spreadF (alikeF c d) l (IntKind.i64.wrap (n.tmod (40 : Int)))).getD []).getD i 0) j)), (16, .int .i64 (lowT (alikeF c d) l j)), (17, .int .i64 (topT (alikeF c d) l j)), (18, .bool (infT (alikeF c d) l j)), (19, .bool (fitT (alikeF c d) l ((spreadF (alikeF c d) l (IntKind.i64.wrap (n.tmod (40 : Int)))).getD []) j)), (20, .int .i64 j)], [(9, Ent.row true 2 (Row.ints IntKind.i64 ((spreadF (alikeF c d) l (IntKind.i64.wrap (n.tmod (40 : Int)))).getD []))), (8, Ent.row true 3 (Row.ints IntKind.i64 l)), (6, Ent.box true 26 [SV.row (2 : Nat), SV.row (3 : Nat)]), (2, Ent.row true 2 (Row.ints IntKind.i64 (alikeF c d).sup)), (3, Ent.row true 32 (Row.arcs (alikeF c d).arcs))], 10⟩, rel := fun ⟨l0, j0⟩ ⟨l, j⟩ => l = l0 ∧ j ≤ l.length, meas := fun ⟨l, j⟩ => l.length - j })]
def TwinSums_A : List SV → Heap → List (Nat × Ann) := fun args h => match args, h with
  | [.row 0, .row 1, .int .i32 n, .int .u8 k], [(0, .row false ty0 (.ints .u8 c)), (1, .row false ty1 (.ints .u8 d))] => TwinSums_an c d n k
  | _, _ => []
def TwinSums_g : Specs := [(Alike_n, (true, specOf true Alike_fs)), (known16_n, (true, specOf true known16_fs)), (Groups_n, (true, specOf true Groups_fs)), (Spread_n, (true, specOf true Spread_fs))]
abbrev TwinSums_n : Nat := 11
def TwinSums_I (c : List Int) (d : List Int) (n : Int) (k : Int) : List (Nat × ISpec) := []
def TwinSums_IA : List SV → Heap → List (Nat × ISpec) := fun _ _ => []
end Go.Proofs.Ytnjcklhgdpgllaa
