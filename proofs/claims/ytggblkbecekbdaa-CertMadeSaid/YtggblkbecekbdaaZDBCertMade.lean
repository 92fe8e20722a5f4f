/- Part of the proof, DBCertMade. -/
import Derived.Test.YtggblkbecekbdaaZDL13
import Derived.Test.YtggblkbecekbdaaZCertMade
import Derived.Test.YtggblkbecekbdaaZTy
set_option linter.all false
set_option linter.unusedSimpArgs false
set_option linter.unusedVariables false
namespace Go.Proofs.Ytggblkbecekbdaa
open Go Go.RowKit Go.Ql Go.Vc
structure SupI (I : Inst) (B : List Arc) (y : List Int) (k : Nat) (s : List Int) : Prop where
  len : s.length = I.sup.length
  at_ : ∀ v, v < k → s.getD v 0 = netK I.sup.length B y B.length v
def CertMade_r (p : List Int) (d : List Int) (e : List Int) (h : Int) : FRes := { pre := Bytes p ∧ Bytes d ∧ p.length ≤ maxLen ∧ d.length ≤ maxLen ∧ Bytes e ∧ e.length ≤ maxLen ∧ 0 ≤ h ∧ h ≤ 255, res := .bool (true), rows := [], eff := [] }
def CertMade_fs : FS := fun args h => match args, h with
  | [.row 0, .row 1, .row 2, .int .u8 h], [(0, .row false ty0 (.ints .u8 p)), (1, .row false ty1 (.ints .u8 d)), (2, .row false ty2 (.ints .u8 e))] => some (CertMade_r p d e h)
  | _, _ => none
def CertMade_an (p : List Int) (d : List Int) (e : List Int) (h : Int) : List (Nat × Ann) := [(5, { G := (Nat) × (List Arc) × (List Int), inv := fun ⟨k, B, y⟩ => ⟨[(3, SV.int IntKind.u8 h), (9, SV.ptr (7 : Nat) (0 : Nat) (0 : Nat) (0 : Nat)), (10, SV.row (8 : Nat)), (11, SV.row (9 : Nat)), (12, .int .i64 k)], [(9, .row true 2 (.ints .i64 y)), (8, Ent.row true 2 (Row.ints IntKind.i64 (potF e (↑(instF p d).sup.length : Int).toNat))), (7, Ent.box true 30 [SV.row (3 : Nat), SV.row (4 : Nat)]), (3, Ent.row true 2 (Row.ints IntKind.i64 (instF p d).sup)), (4, .row true 50 (.arcs B))], 10⟩, rel := fun ⟨k0, B0, y0⟩ ⟨k, B, y⟩ => k ≤ (instF p d).arcs.length ∧ MadeI (instF p d) (potF e (instF p d).sup.length) (flowF (instF p d) d) k B y, meas := fun ⟨k, B, y⟩ => (instF p d).arcs.length - k }),
  (16, { G := (Nat) × (List Int) × (List Arc) × (List Int), inv := fun ⟨k, s, B, y⟩ => ⟨[(3, SV.int IntKind.u8 h), (9, SV.ptr (7 : Nat) (0 : Nat) (0 : Nat) (0 : Nat)), (10, SV.row (8 : Nat)), (11, SV.row (9 : Nat)), (14, SV.row (10 : Nat)), (15, .int .i64 k)], [(10, .row true 41 (.wides (netF ⟨(instF p d).sup, B⟩ y))), (9, .row true 2 (.ints .i64 y)), (8, Ent.row true 2 (Row.ints IntKind.i64 (potF e (↑(instF p d).sup.length : Int).toNat))), (7, Ent.box true 30 [SV.row (3 : Nat), SV.row (4 : Nat)]), (3, .row true 2 (.ints .i64 s)), (4, .row true 50 (.arcs B))], 11⟩, rel := fun ⟨k0, s0, B0, y0⟩ ⟨k, s, B, y⟩ => k ≤ (instF p d).sup.length ∧ SupI (instF p d) B y k s ∧ MadeI (instF p d) (potF e (instF p d).sup.length) (flowF (instF p d) d) (instF p d).arcs.length B y, meas := fun ⟨k, s, B, y⟩ => (instF p d).sup.length - k })]
def CertMade_A : List SV → Heap → List (Nat × Ann) := fun args h => match args, h with
  | [.row 0, .row 1, .row 2, .int .u8 h], [(0, .row false ty0 (.ints .u8 p)), (1, .row false ty1 (.ints .u8 d)), (2, .row false ty2 (.ints .u8 e))] => CertMade_an p d e h
  | _, _ => []
def CertMade_g : Specs := [(known13_n, (true, specOf true known13_fs)), (Inst_n, (true, specOf true Inst_fs)), (Flow_n, (true, specOf true Flow_fs)), (Pot_n, (true, specOf true Pot_fs)), (Compare_n, (true, specOf true Compare_fs)), (Reduced_n, (true, specOf true Reduced_fs)), (Net_n, (true, specOf true Net_fs)), (Back_n, (true, specOf true Back_fs)), (Check_n, (true, specOf true Check_fs))]
abbrev CertMade_n : Nat := 4
def CertMade_I (p : List Int) (d : List Int) (e : List Int) (h : Int) : List (Nat × ISpec) := []
def CertMade_IA : List SV → Heap → List (Nat × ISpec) := fun _ _ => []
end Go.Proofs.Ytggblkbecekbdaa
