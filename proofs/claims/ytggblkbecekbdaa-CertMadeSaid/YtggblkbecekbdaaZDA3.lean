/- Part of the proof, DA3. -/
import Derived.Test.YtggblkbecekbdaaZDA2
import Derived.Test.YtggblkbecekbdaaZSpec
import Derived.Test.YtggblkbecekbdaaZTy
set_option linter.all false
set_option linter.unusedSimpArgs false
set_option linter.unusedVariables false
namespace Go.Proofs.Ytggblkbecekbdaa
open Go Go.RowKit Go.Ql Go.Vc
def Copy_r (I : Inst) : FRes := { pre := I.sup.length ≤ 1000000000 ∧ I.arcs.length ≤ 1000000000, res := .agg [.row 2, .row 3], rows := [.row 2 (.ints .i64 (I).sup), .row 50 (.arcs (I).arcs)], eff := [] }
def Copy_fs : FS := fun args h => match args, h with
  | [.agg [.row 0, .row 1]], [(0, .row false ty0 (.ints .i64 I_s)), (1, .row false ty1 (.arcs I_a))] => some (Copy_r ⟨I_s, I_a⟩)
  | _, _ => none
def Copy_an (I : Inst) : List (Nat × Ann) := []
def Copy_A : List SV → Heap → List (Nat × Ann) := fun _ _ => []
def Copy_g : Specs := [(takeI_n, (true, specOf true takeI_fs)), (takeA_n, (true, specOf true takeA_fs))]
abbrev Copy_n : Nat := 64
def Copy_I (I : Inst) : List (Nat × ISpec) := []
def Copy_IA : List SV → Heap → List (Nat × ISpec) := fun _ _ => []
def Arcs_r (c : List Int) (many : Int) : FRes := { pre := Bytes c ∧ 1 ≤ many ∧ many ≤ 1000, res := .row 1, rows := [.row 50 (.arcs (arcsF c many))], eff := [] }
def Arcs_fs : FS := fun args h => match args, h with
  | [.row 0, .int .i64 many], [(0, .row false ty0 (.ints .u8 c))] => some (Arcs_r c many)
  | _, _ => none
def Arcs_an (c : List Int) (many : Int) : List (Nat × Ann) := [(3, { G := (Nat) × (List Arc), inv := fun ⟨k, l⟩ => ⟨[(0, SV.row (0 : Nat)), (1, SV.int IntKind.i64 many), (5, SV.row (2 : Nat)), (6, .int .i64 (4 * (k : Int)))], [(2, .row true 50 (.arcs l)), (0, Ent.row false 0 (Row.ints IntKind.u8 c))], 3⟩, rel := fun ⟨k0, l0⟩ ⟨k, l⟩ => k ≤ 18 ∧ l.length ≤ k ∧ l ++ arcsGo c many (18 - k) (4 * k) = arcsF c many, meas := fun ⟨k, l⟩ => 18 - k })]
def Arcs_A : List SV → Heap → List (Nat × Ann) := fun args h => match args, h with
  | [.row 0, .int .i64 many], [(0, .row false ty0 (.ints .u8 c))] => Arcs_an c many
  | _, _ => []
def Arcs_g : Specs := []
abbrev Arcs_n : Nat := 29
def Arcs_I (c : List Int) (many : Int) : List (Nat × ISpec) := []
def Arcs_IA : List SV → Heap → List (Nat × ISpec) := fun _ _ => []
end Go.Proofs.Ytggblkbecekbdaa
