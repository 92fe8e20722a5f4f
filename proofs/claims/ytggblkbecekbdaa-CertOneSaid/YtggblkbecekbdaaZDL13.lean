/- Part of the proof, DL13. -/
import Derived.Test.YtggblkbecekbdaaZDK13
import Derived.Test.YtggblkbecekbdaaZTy
set_option linter.all false
set_option linter.unusedSimpArgs false
set_option linter.unusedVariables false
namespace Go.Proofs.Ytggblkbecekbdaa
open Go Go.RowKit Go.Ql Go.Vc
def certK (I : Inst) (k : Int) (d e : List Int) : Cert :=
  if k % 3 = 0 then ⟨1, flowF I d, potF e I.sup.length, [], []⟩
  else if k % 3 = 1 then ⟨2, [], [], wholeF e I.sup.length, []⟩
  else ⟨3, flowF I d, [], [], (e.take 4).map fun x => x % ((I.arcs.length : Int) + 1)⟩
def certF (I : Inst) (k : Int) (d e : List Int) : Cert :=
  let c := certK I k d e
  if k / 3 % 12 = 0 then { c with side := c.side ++ [true] } else if k / 3 % 12 = 1 then { c with pot := c.pot ++ [1] } else if k / 3 % 12 = 2 then { c with kind := k / 36 } else c
def known13_r : FRes := { pre := True, res := .bool (true), rows := [], eff := [] }
def known13_fs : FS := fun args h => match args, h with
  | [], [] => some (known13_r)
  | _, _ => none
def known13_an : List (Nat × Ann) := []
def known13_A : List SV → Heap → List (Nat × Ann) := fun _ _ => []
def known13_g : Specs := [(ValueC_n, (true, specOf true ValueC_fs)), (Check_n, (true, specOf true Check_fs)), (Plain13_n, (true, specOf true Plain13_fs))]
abbrev known13_n : Nat := 12
def known13_I : List (Nat × ISpec) := []
def known13_IA : List SV → Heap → List (Nat × ISpec) := fun _ _ => []
def LongC_r (c : Cert) : FRes := { pre := CertOk c, res := .int .i64 (c.flow.length + c.pot.length + c.side.length + c.cycle.length), rows := [], eff := [] }
def LongC_fs : FS := fun args h => match args, h with
  | [.agg [.int .i64 c_k, .row 0, .row 1, .row 2, .row 3]], [(0, .row false ty0 (.ints .i64 c_f)), (1, .row false ty1 (.ints .i64 c_p)), (2, .row false ty2 (.bools c_s)), (3, .row false ty3 (.ints .i64 c_y))] => some (LongC_r ⟨c_k, c_f, c_p, c_s, c_y⟩)
  | _, _ => none
def LongC_an (c : Cert) : List (Nat × Ann) := []
def LongC_A : List SV → Heap → List (Nat × Ann) := fun _ _ => []
def LongC_g : Specs := []
abbrev LongC_n : Nat := 11
def LongC_I (c : Cert) : List (Nat × ISpec) := []
def LongC_IA : List SV → Heap → List (Nat × ISpec) := fun _ _ => []
def CertC_r (I : Inst) (k : Int) (d : List Int) (e : List Int) : FRes := { pre := 0 ≤ k ∧ k ≤ 255 ∧ I.sup.length ≤ 1000 ∧ I.arcs.length ≤ 1000 ∧ L42 I.arcs ∧ Bytes d ∧ Bytes e ∧ e.length ≤ maxLen, res := .agg [.int .i64 (certF I k d e).kind, .row 4, .row 5, .row 6, .row 7], rows := [.row 2 (.ints .i64 (certF I k d e).flow), .row 2 (.ints .i64 (certF I k d e).pot), .row 4 (.bools (certF I k d e).side), .row 3 (.ints .i64 (certF I k d e).cycle)], eff := [] }
def CertC_fs : FS := fun args h => match args, h with
  | [.agg [.row 0, .row 1], .int .u8 k, .row 2, .row 3], [(0, .row false ty0 (.ints .i64 I_s)), (1, .row false ty1 (.arcs I_a)), (2, .row false ty2 (.ints .u8 d)), (3, .row false ty3 (.ints .u8 e))] => some (CertC_r ⟨I_s, I_a⟩ k d e)
  | _, _ => none
def CertC_an (I : Inst) (k : Int) (d : List Int) (e : List Int) : List (Nat × Ann) := [(5, { G := (Nat), inv := fun n => ⟨[(1, SV.int IntKind.u8 k), (3, SV.row (3 : Nat)), (4, SV.ptr (4 : Nat) (0 : Nat) (0 : Nat) (0 : Nat)), (8, SV.ptr (9 : Nat) (0 : Nat) (0 : Nat) (0 : Nat)), (9, SV.ptr (18 : Nat) (0 : Nat) (0 : Nat) (0 : Nat)), (10, .int .i64 n)], [(19, Ent.row true 2 (Row.ints IntKind.i64 (flowF I d))), (18, Ent.box true 27 [SV.int IntKind.i64 (IntKind.i64.wrap ((1 : Int) + IntKind.i64.wrap (k.tmod (3 : Int)))), SV.row (19 : Nat), SV.row (11 : Nat), SV.row (12 : Nat), SV.row (13 : Nat)]), (11, Ent.row true 2 (Row.ints IntKind.i64 [])), (12, Ent.row true 4 (Row.bools [])), (13, .row true 3 (.ints .i64 ((e.take n).map fun x => x % ((I.arcs.length : Int) + 1)))), (9, Ent.box true 27 [SV.int IntKind.i64 (0 : Int), SV.row (5 : Nat), SV.row (6 : Nat), SV.row (7 : Nat), SV.row (8 : Nat)]), (5, Ent.row true 2 (Row.ints IntKind.i64 [])), (6, Ent.row true 2 (Row.ints IntKind.i64 [])), (7, Ent.row true 4 (Row.bools [])), (8, Ent.row true 3 (Row.ints IntKind.i64 [])), (4, Ent.box true 30 [SV.row (0 : Nat), SV.row (1 : Nat)]), (0, Ent.row false 0 (Row.ints IntKind.i64 I.sup)), (1, Ent.row false 0 (Row.arcs I.arcs)), (3, Ent.row false 0 (Row.ints IntKind.u8 e))], 20⟩, rel := fun n0 n => n ≤ e.length ∧ n ≤ 4, meas := fun n => 4 - n }),
  (1000014, { G := Unit, inv := fun _ => ⟨[(1, SV.int IntKind.u8 k), (8, SV.ptr (9 : Nat) (0 : Nat) (0 : Nat) (0 : Nat)), (9, SV.ptr (18 : Nat) (0 : Nat) (0 : Nat) (0 : Nat))], [(9, Ent.box true 27 [SV.int IntKind.i64 (0 : Int), SV.row (5 : Nat), SV.row (6 : Nat), SV.row (7 : Nat), SV.row (8 : Nat)]), (18, .box true 27 [.int .i64 (certK I k d e).kind, .row 19, .row 20, .row 12, .row 13]), (5, Ent.row true 2 (Row.ints IntKind.i64 [])), (6, Ent.row true 2 (Row.ints IntKind.i64 [])), (7, Ent.row true 4 (Row.bools [])), (8, Ent.row true 3 (Row.ints IntKind.i64 [])), (19, .row true 2 (.ints .i64 (certK I k d e).flow)), (20, .row true 2 (.ints .i64 (certK I k d e).pot)), (12, .row true 4 (.bools (certK I k d e).side)), (13, .row true 3 (.ints .i64 (certK I k d e).cycle))], 21⟩, rel := fun _ _ => True, meas := fun _ => 0 })]
def CertC_A : List SV → Heap → List (Nat × Ann) := fun args h => match args, h with
  | [.agg [.row 0, .row 1], .int .u8 k, .row 2, .row 3], [(0, .row false ty0 (.ints .i64 I_s)), (1, .row false ty1 (.arcs I_a)), (2, .row false ty2 (.ints .u8 d)), (3, .row false ty3 (.ints .u8 e))] => CertC_an ⟨I_s, I_a⟩ k d e
  | _, _ => []
def CertC_g : Specs := [(Flow_n, (true, specOf true Flow_fs)), (Pot_n, (true, specOf true Pot_fs)), (Marks_n, (true, specOf true Marks_fs))]
abbrev CertC_n : Nat := 13
def CertC_I (I : Inst) (k : Int) (d : List Int) (e : List Int) : List (Nat × ISpec) := []
def CertC_IA : List SV → Heap → List (Nat × ISpec) := fun _ _ => []
end Go.Proofs.Ytggblkbecekbdaa
