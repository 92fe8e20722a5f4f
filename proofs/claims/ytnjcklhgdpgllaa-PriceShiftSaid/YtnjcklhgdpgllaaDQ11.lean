/-
  CONTRACTS, as data: known11, Pot, asks11, bound11. No proofs.
-/
import Derived.Test.YtnjcklhgdpgllaaDP11
import Derived.Test.YtnjcklhgdpgllaaLaw11
import Derived.Test.YtnjcklhgdpgllaaTy
set_option linter.all false
set_option linter.unusedSimpArgs false
set_option linter.unusedVariables false
namespace Go.Proofs.Ytnjcklhgdpgllaa
open Go Go.RowKit Go.Ql Go.Vc


def potE (e : List Int) (n : Nat) : Int := if n < e.length then e.getD n 0 % 25 - 8 else 0
def potF (e : List Int) (n : Nat) : List Int := (List.range n).map (potE e)


def known11_r : FRes := { pre := True, res := .bool (true), rows := [], eff := [] }
def known11_fs : FS := fun args h => match args, h with
  | [], [] => some (known11_r)
  | _, _ => none
def known11_an : List (Nat × Ann) := []
def known11_A : List SV → Heap → List (Nat × Ann) := fun _ _ => []
def known11_g : Specs := [(Bound_n, (true, specOf true Bound_fs)), (Reduced_n, (true, specOf true Reduced_fs)), (Of_n, (true, specOf true Of_fs)), (Slack_n, (true, specOf true Slack_fs))]
abbrev known11_n : Nat := 15
def known11_I : List (Nat × ISpec) := []
def known11_IA : List SV → Heap → List (Nat × ISpec) := fun _ _ => []
def Pot_r (e : List Int) (n : Int) : FRes := { pre := Bytes e ∧ e.length ≤ maxLen ∧ 0 ≤ n ∧ n ≤ 1000000, res := .row 1, rows := [.row 2 (.ints .i64 (potF e n.toNat))], eff := [] }
def Pot_fs : FS := fun args h => match args, h with
  | [.row 0, .int .i64 n], [(0, .row false ty0 (.ints .u8 e))] => some (Pot_r e n)
  | _, _ => none
def Pot_an (e : List Int) (n : Int) : List (Nat × Ann) := [(3, { G := (Nat), inv := fun k => ⟨[(0, SV.row (0 : Nat)), (1, SV.int IntKind.i64 n), (5, SV.row (2 : Nat)), (6, .int .i64 k)], [(2, .row true 2 (.ints .i64 (potF e k))), (0, Ent.row false 0 (Row.ints IntKind.u8 e))], 3⟩, rel := fun k0 k => k ≤ n.toNat, meas := fun k => n.toNat - k })]
def Pot_A : List SV → Heap → List (Nat × Ann) := fun args h => match args, h with
  | [.row 0, .int .i64 n], [(0, .row false ty0 (.ints .u8 e))] => Pot_an e n
  | _, _ => []
def Pot_g : Specs := []
abbrev Pot_n : Nat := 22
def Pot_I (e : List Int) (n : Int) : List (Nat × ISpec) := []
def Pot_IA : List SV → Heap → List (Nat × ISpec) := fun _ _ => []
def asks11_r (I : Inst) (x : List Int) (pot : List Int) (a : Int) : FRes := { pre := I.sup.length ≤ 10000 ∧ I.arcs.length ≤ 10000 ∧ A64 x ∧ A64 I.sup ∧ A64 pot ∧ A64c I.arcs ∧ A64a I.arcs, res := .bool (true), rows := [], eff := [] }
def asks11_fs : FS := fun args h => match args, h with
  | [.agg [.row 0, .row 1], .row 2, .row 3, .int .i64 a], [(0, .row false ty0 (.ints .i64 I_s)), (1, .row false ty1 (.arcs I_a)), (2, .row false ty2 (.ints .i64 x)), (3, .row false ty3 (.ints .i64 pot))] => some (asks11_r ⟨I_s, I_a⟩ x pot a)
  | _, _ => none
def asks11_an (I : Inst) (x : List Int) (pot : List Int) (a : Int) : List (Nat × Ann) := []
def asks11_A : List SV → Heap → List (Nat × Ann) := fun _ _ => []
def asks11_g : Specs := [(Bound_n, (true, specOf true Bound_fs)), (rBound_n, (true, specOf true rBound_fs)), (rRight_n, (true, specOf true rRight_fs)), (Reduced_n, (true, specOf true Reduced_fs)), (rReduced_n, (true, specOf true rReduced_fs)), (Slack_n, (true, specOf true Slack_fs)), (rSlack_n, (true, specOf true rSlack_fs))]
abbrev asks11_n : Nat := 33
def asks11_I (I : Inst) (x : List Int) (pot : List Int) (a : Int) : List (Nat × ISpec) := []
def asks11_IA : List SV → Heap → List (Nat × ISpec) := fun _ _ => []
def bound11_r (I : Inst) (x : List Int) (pot : List Int) : FRes := { pre := rightF I = 0 ∧ A64 x ∧ A64 I.sup ∧ Within 4398046511104 I.sup ∧ A64 pot ∧ A64c I.arcs ∧ A64a I.arcs ∧ pot.length = I.sup.length, res := .bool (true), rows := [], eff := [] }
def bound11_fs : FS := fun args h => match args, h with
  | [.agg [.row 0, .row 1], .row 2, .row 3], [(0, .row false ty0 (.ints .i64 I_s)), (1, .row false ty1 (.arcs I_a)), (2, .row false ty2 (.ints .i64 x)), (3, .row false ty3 (.ints .i64 pot))] => some (bound11_r ⟨I_s, I_a⟩ x pot)
  | _, _ => none
def bound11_an (I : Inst) (x : List Int) (pot : List Int) : List (Nat × Ann) := []
def bound11_A : List SV → Heap → List (Nat × Ann) := fun _ _ => []
def bound11_g : Specs := [(Bound_n, (true, specOf true Bound_fs)), (Fits_n, (true, specOf true Fits_fs)), (Slack_n, (true, specOf true Slack_fs)), (Cost_n, (true, specOf true Cost_fs)), (Compare_n, (true, specOf true Compare_fs))]
abbrev bound11_n : Nat := 21
def bound11_I (I : Inst) (x : List Int) (pot : List Int) : List (Nat × ISpec) := []
def bound11_IA : List SV → Heap → List (Nat × ISpec) := fun _ _ => []
end Go.Proofs.Ytnjcklhgdpgllaa
