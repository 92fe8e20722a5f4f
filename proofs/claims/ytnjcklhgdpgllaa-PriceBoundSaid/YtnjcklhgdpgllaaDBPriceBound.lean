/-
  CONTRACTS, as data: PriceBound. No proofs.
-/
import Derived.Test.YtnjcklhgdpgllaaDQ11
import Derived.Test.YtnjcklhgdpgllaaTy
set_option linter.all false
set_option linter.unusedSimpArgs false
set_option linter.unusedVariables false
namespace Go.Proofs.Ytnjcklhgdpgllaa
open Go Go.RowKit Go.Ql Go.Vc


def PriceBound_r (c : List Int) (d : List Int) (e : List Int) (pot : List Int) (x : List Int) : FRes := { pre := Bytes c ∧ Bytes d ∧ c.length ≤ maxLen ∧ d.length ≤ maxLen ∧ Bytes e ∧ e.length ≤ maxLen ∧ A64 pot ∧ A64 x, res := .bool (true), rows := [], eff := [] }
def PriceBound_fs : FS := fun args h => match args, h with
  | [.row 0, .row 1, .row 2, .row 3, .row 4], [(0, .row false ty0 (.ints .u8 c)), (1, .row false ty1 (.ints .u8 d)), (2, .row false ty2 (.ints .u8 e)), (3, .row false ty3 (.ints .i64 pot)), (4, .row false ty4 (.ints .i64 x))] => some (PriceBound_r c d e pot x)
  | _, _ => none
def PriceBound_an (c : List Int) (d : List Int) (e : List Int) (pot : List Int) (x : List Int) : List (Nat × Ann) := []
def PriceBound_A : List SV → Heap → List (Nat × Ann) := fun _ _ => []
def PriceBound_g : Specs := [(known11_n, (true, specOf true known11_fs)), (Inst_n, (true, specOf true Inst_fs)), (bound11_n, (true, specOf true bound11_fs)), (Flow_n, (true, specOf true Flow_fs)), (Pot_n, (true, specOf true Pot_fs))]
abbrev PriceBound_n : Nat := 4
def PriceBound_I (c : List Int) (d : List Int) (e : List Int) (pot : List Int) (x : List Int) : List (Nat × ISpec) := []
def PriceBound_IA : List SV → Heap → List (Nat × ISpec) := fun _ _ => []
end Go.Proofs.Ytnjcklhgdpgllaa
