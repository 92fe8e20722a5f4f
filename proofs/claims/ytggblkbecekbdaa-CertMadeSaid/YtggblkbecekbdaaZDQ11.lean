/- Part of the proof, DQ11. -/
import Derived.Test.YtggblkbecekbdaaZDP11
import Derived.Test.YtggblkbecekbdaaZLaw11
import Derived.Test.YtggblkbecekbdaaZTy
set_option linter.all false
set_option linter.unusedSimpArgs false
set_option linter.unusedVariables false
namespace Go.Proofs.Ytggblkbecekbdaa
open Go Go.RowKit Go.Ql Go.Vc
def potE (e : List Int) (n : Nat) : Int := if n < e.length then e.getD n 0 % 25 - 8 else 0
def potF (e : List Int) (n : Nat) : List Int := (List.range n).map (potE e)
def Pot_r (e : List Int) (n : Int) : FRes := { pre := Bytes e ∧ e.length ≤ maxLen ∧ 0 ≤ n ∧ n ≤ 1000000, res := .row 1, rows := [.row 2 (.ints .i64 (potF e n.toNat))], eff := [] }
def Pot_fs : FS := fun args h => match args, h with
  | [.row 0, .int .i64 n], [(0, .row false ty0 (.ints .u8 e))] => some (Pot_r e n)
  | _, _ => none
def Pot_an (e : List Int) (n : Int) : List (Nat × Ann) := [(3, { G := (Nat), inv := fun k => ⟨[(0, SV.row (0 : Nat)), (1, SV.int IntKind.i64 n), (5, SV.row (2 : Nat)), (6, .int .i64 k)], [(2, .row true 2 (.ints .i64 (potF e k))), (0, Ent.row false 0 (Row.ints IntKind.u8 e))], 3⟩, rel := fun k0 k => k ≤ n.toNat, meas := fun k => n.toNat - k })]
def Pot_A : List SV → Heap → List (Nat × Ann) := fun args h => match args, h with
  | [.row 0, .int .i64 n], [(0, .row false ty0 (.ints .u8 e))] => Pot_an e n
  | _, _ => []
def Pot_g : Specs := []
abbrev Pot_n : Nat := 16
def Pot_I (e : List Int) (n : Int) : List (Nat × ISpec) := []
def Pot_IA : List SV → Heap → List (Nat × ISpec) := fun _ _ => []
end Go.Proofs.Ytggblkbecekbdaa
