/-
  CONTRACTS, as data: PriceAsks. No proofs.
-/
import Derived.Test.YtnjcklhgdpgllaaDQ11
import Derived.Test.YtnjcklhgdpgllaaTy
set_option linter.all false
set_option linter.unusedSimpArgs false
set_option linter.unusedVariables false
namespace Go.Proofs.Ytnjcklhgdpgllaa
open Go Go.RowKit Go.Ql Go.Vc


def PriceAsks_r (I : Inst) (x : List Int) (pot : List Int) (a : Int) (n : Int) (c : List Int) (d : List Int) (e : List Int) : FRes := { pre := I.sup.length ≤ 140737488351232 ∧ I.arcs.length ≤ 140737488351232 ∧ x.length ≤ 140737488351232 ∧ pot.length ≤ 140737488351232 ∧ A64 x ∧ A64 I.sup ∧ A64 pot ∧ A64c I.arcs ∧ A64a I.arcs ∧ I64 n ∧ Bytes c ∧ Bytes d ∧ c.length ≤ maxLen ∧ d.length ≤ maxLen ∧ Bytes e ∧ e.length ≤ maxLen, res := .bool (true), rows := [], eff := [] }
def PriceAsks_fs : FS := fun args h => match args, h with
  | [.agg [.row 0, .row 1], .row 2, .row 3, .int .i64 a, .int .i64 n, .row 4, .row 5, .row 6], [(0, .row false ty0 (.ints .i64 I_s)), (1, .row false ty1 (.arcs I_a)), (2, .row false ty2 (.ints .i64 x)), (3, .row false ty3 (.ints .i64 pot)), (4, .row false ty4 (.ints .u8 c)), (5, .row false ty5 (.ints .u8 d)), (6, .row false ty6 (.ints .u8 e))] => some (PriceAsks_r ⟨I_s, I_a⟩ x pot a n c d e)
  | _, _ => none
def PriceAsks_an (I : Inst) (x : List Int) (pot : List Int) (a : Int) (n : Int) (c : List Int) (d : List Int) (e : List Int) : List (Nat × Ann) := []
def PriceAsks_A : List SV → Heap → List (Nat × Ann) := fun _ _ => []
def PriceAsks_g : Specs := [(Size_n, (true, specOf true Size_fs)), (known11_n, (true, specOf true known11_fs)), (Inst_n, (true, specOf true Inst_fs)), (Shift_n, (true, specOf true Shift_fs)), (rShift_n, (true, specOf true rShift_fs)), (Nums_n, (true, specOf true Nums_fs)), (asks11_n, (true, specOf true asks11_fs)), (Flow_n, (true, specOf true Flow_fs)), (Pot_n, (true, specOf true Pot_fs))]
abbrev PriceAsks_n : Nat := 6
def PriceAsks_I (I : Inst) (x : List Int) (pot : List Int) (a : Int) (n : Int) (c : List Int) (d : List Int) (e : List Int) : List (Nat × ISpec) := []
def PriceAsks_IA : List SV → Heap → List (Nat × ISpec) := fun _ _ => []
end Go.Proofs.Ytnjcklhgdpgllaa
