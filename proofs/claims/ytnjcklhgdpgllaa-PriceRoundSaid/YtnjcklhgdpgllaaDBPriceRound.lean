/-
  CONTRACTS, as data: PriceRound. No proofs.
-/
import Derived.Test.YtnjcklhgdpgllaaDQ11
import Derived.Test.YtnjcklhgdpgllaaTy
set_option linter.all false
set_option linter.unusedSimpArgs false
set_option linter.unusedVariables false
namespace Go.Proofs.Ytnjcklhgdpgllaa
open Go Go.RowKit Go.Ql Go.Vc


def mR (n : Int) : Nat := 1 + (n % 9).toNat
def costR (c : List Int) (k : Nat) : Int := if k < c.length then c.getD k 0 - 100 else k
def arcR (c : List Int) (m k : Nat) : Arc := ⟨(k : Int), (((k + 1) % m : Nat) : Int), 0, 1, costR c k⟩
def arcsR (c : List Int) (m k : Nat) : List Arc := (List.range k).map (arcR c m)
def instR (c : List Int) (m : Nat) : Inst := ⟨List.replicate m 0, arcsR c m m⟩


def PriceRound_r (n : Int) (pot : List Int) (c : List Int) : FRes := { pre := 0 ≤ n ∧ n ≤ 255 ∧ A64 pot ∧ Bytes c ∧ c.length ≤ maxLen, res := .bool (true), rows := [], eff := [] }
def PriceRound_fs : FS := fun args h => match args, h with
  | [.int .u8 n, .row 0, .row 1], [(0, .row false ty0 (.ints .i64 pot)), (1, .row false ty1 (.ints .u8 c))] => some (PriceRound_r n pot c)
  | _, _ => none
def PriceRound_an (n : Int) (pot : List Int) (c : List Int) : List (Nat × Ann) := [(8, { G := (Nat), inv := fun k => ⟨[(1, SV.row (0 : Nat)), (2, SV.row (1 : Nat)), (7, .int .i64 (mR n)), (8, SV.ptr (7 : Nat) (0 : Nat) (0 : Nat) (0 : Nat)), (9, SV.ptr (8 : Nat) (0 : Nat) (0 : Nat) (0 : Nat)), (10, SV.ptr (9 : Nat) (0 : Nat) (0 : Nat) (0 : Nat)), (11, .int .i64 k)], [(9, .box true 30 (encWide (W (sumTo (costR c) k)))), (8, Ent.box true 30 [SV.int IntKind.i64 (0 : Int), SV.int IntKind.u64 (0 : Int)]), (7, Ent.box true 26 [SV.row (2 : Nat), SV.row (4 : Nat)]), (4, .row true 32 (.arcs (arcsR c (mR n) k))), (2, .row true 2 (.ints .i64 (List.replicate (mR n) 0))), (0, Ent.row false 0 (Row.ints IntKind.i64 pot)), (1, Ent.row false 0 (Row.ints IntKind.u8 c))], 10⟩, rel := fun k0 k => k ≤ mR n, meas := fun k => mR n - k }),
  (16, { G := (Nat), inv := fun k => ⟨[(1, SV.row (0 : Nat)), (7, SV.int IntKind.i64 (↑(mR n) : Int)), (8, SV.ptr (7 : Nat) (0 : Nat) (0 : Nat) (0 : Nat)), (9, SV.ptr (8 : Nat) (0 : Nat) (0 : Nat) (0 : Nat)), (10, SV.ptr (9 : Nat) (0 : Nat) (0 : Nat) (0 : Nat)), (13, .int .i64 k)], [(9, .box true 30 (encWide (W (sumTo (costR c) (mR n))))), (8, .box true 30 (encWide (W (sumTo (fun j => redF (instR c (mR n)) pot j) k)))), (7, Ent.box true 26 [SV.row (2 : Nat), SV.row (4 : Nat)]), (4, .row true 32 (.arcs (arcsR c (mR n) (mR n)))), (2, Ent.row true 2 (Row.ints IntKind.i64 (List.replicate (mR n) (0 : Int)))), (0, Ent.row false 0 (Row.ints IntKind.i64 pot))], 10⟩, rel := fun k0 k => k ≤ mR n, meas := fun k => mR n - k })]
def PriceRound_A : List SV → Heap → List (Nat × Ann) := fun args h => match args, h with
  | [.int .u8 n, .row 0, .row 1], [(0, .row false ty0 (.ints .i64 pot)), (1, .row false ty1 (.ints .u8 c))] => PriceRound_an n pot c
  | _, _ => []
def PriceRound_g : Specs := [(known11_n, (true, specOf true known11_fs)), (Plus_n, (true, specOf true Plus_fs)), (Of_n, (true, specOf true Of_fs)), (Reduced_n, (true, specOf true Reduced_fs))]
abbrev PriceRound_n : Nat := 3
def PriceRound_I (n : Int) (pot : List Int) (c : List Int) : List (Nat × ISpec) := []
def PriceRound_IA : List SV → Heap → List (Nat × ISpec) := fun _ _ => []
end Go.Proofs.Ytnjcklhgdpgllaa
