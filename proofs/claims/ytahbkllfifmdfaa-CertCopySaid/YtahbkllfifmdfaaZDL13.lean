/- Part of the proof, DL13. -/
import Derived.Test.YtahbkllfifmdfaaZDK13
import Derived.Test.YtahbkllfifmdfaaZTy
set_option linter.all false
set_option linter.unusedSimpArgs false
set_option linter.unusedVariables false
namespace Go.Proofs.Ytahbkllfifmdfaa
open Go Go.RowKit Go.Ql Go.Vc
def certK (I : Inst) (k : Int) (d e : List Int) : Cert :=
  if k % 3 = 0 then ⟨1, flowF I d, potF e I.sup.length, [], []⟩
  else if k % 3 = 1 then ⟨2, [], [], wholeF e I.sup.length, []⟩
  else ⟨3, flowF I d, [], [], (e.take 4).map fun x => x % ((I.arcs.length : Int) + 1)⟩
def certF (I : Inst) (k : Int) (d e : List Int) : Cert :=
  let c := certK I k d e
  if k / 3 % 12 = 0 then { c with side := c.side ++ [true] } else if k / 3 % 12 = 1 then { c with pot := c.pot ++ [1] } else if k / 3 % 12 = 2 then { c with kind := k / 36 } else c
def known13_r : FRes := { pre := True, res := .bool (true), rows := [], eff := [] }
def known13_fs : FS := fun args h => match args, h with
  | [], [] => some (known13_r)
  | _, _ => none
def known13_an : List (Nat × Ann) := []
def known13_A : List SV → Heap → List (Nat × Ann) := fun _ _ => []
def known13_g : Specs := [(ValueC_n, (true, specOf true ValueC_fs)), (Check_n, (true, specOf true Check_fs)), (Plain13_n, (true, specOf true Plain13_fs))]
abbrev known13_n : Nat := 39
def known13_I : List (Nat × ISpec) := []
def known13_IA : List SV → Heap → List (Nat × ISpec) := fun _ _ => []
def LongC_r (c : Cert) : FRes := { pre := CertOk c, res := .int .i64 (c.flow.length + c.pot.length + c.side.length + c.cycle.length), rows := [], eff := [] }
def LongC_fs : FS := fun args h => match args, h with
  | [.agg [.int .i64 c_k, .row 0, .row 1, .row 2, .row 3]], [(0, .row false ty0 (.ints .i64 c_f)), (1, .row false ty1 (.ints .i64 c_p)), (2, .row false ty2 (.bools c_s)), (3, .row false ty3 (.ints .i64 c_y))] => some (LongC_r ⟨c_k, c_f, c_p, c_s, c_y⟩)
  | _, _ => none
def LongC_an (c : Cert) : List (Nat × Ann) := []
def LongC_A : List SV → Heap → List (Nat × Ann) := fun _ _ => []
def LongC_g : Specs := []
abbrev LongC_n : Nat := 38
def LongC_I (c : Cert) : List (Nat × ISpec) := []
def LongC_IA : List SV → Heap → List (Nat × ISpec) := fun _ _ => []
def rSameC_r (c : Cert) (d : Cert) : FRes := { pre := c.flow.length ≤ 1000000000 ∧ c.pot.length ≤ 1000000000 ∧ c.side.length ≤ 1000000000 ∧ c.cycle.length ≤ 1000000000, res := .bool (decide (c = d)), rows := [], eff := [] }
def rSameC_fs : FS := fun args h => match args, h with
  | [.agg [.int .i64 c_k, .row 0, .row 1, .row 2, .row 3], .agg [.int .i64 d_k, .row 4, .row 5, .row 6, .row 7]], [(0, .row false ty0 (.ints .i64 c_f)), (1, .row false ty1 (.ints .i64 c_p)), (2, .row false ty2 (.bools c_s)), (3, .row false ty3 (.ints .i64 c_y)), (4, .row false ty4 (.ints .i64 d_f)), (5, .row false ty5 (.ints .i64 d_p)), (6, .row false ty6 (.bools d_s)), (7, .row false ty7 (.ints .i64 d_y))] => some (rSameC_r ⟨c_k, c_f, c_p, c_s, c_y⟩ ⟨d_k, d_f, d_p, d_s, d_y⟩)
  | _, _ => none
def rSameC_an (c : Cert) (d : Cert) : List (Nat × Ann) := []
def rSameC_A : List SV → Heap → List (Nat × Ann) := fun _ _ => []
def rSameC_g : Specs := [(Nums_n, (true, specOf true Nums_fs)), (Bools_n, (true, specOf true Bools_fs)), (Ints_n, (true, specOf true Ints_fs))]
abbrev rSameC_n : Nat := 42
def rSameC_I (c : Cert) (d : Cert) : List (Nat × ISpec) := []
def rSameC_IA : List SV → Heap → List (Nat × ISpec) := fun _ _ => []
def CertC_r (I : Inst) (k : Int) (d : List Int) (e : List Int) : FRes := { pre := 0 ≤ k ∧ k ≤ 255 ∧ I.sup.length ≤ 1000 ∧ I.arcs.length ≤ 1000 ∧ L42 I.arcs ∧ Bytes d ∧ Bytes e ∧ e.length ≤ maxLen, res := .agg [.int .i64 (certF I k d e).kind, .row 4, .row 5, .row 6, .row 7], rows := [.row 2 (.ints .i64 (certF I k d e).flow), .row 2 (.ints .i64 (certF I k d e).pot), .row 4 (.bools (certF I k d e).side), .row 3 (.ints .i64 (certF I k d e).cycle)], eff := [] }
def CertC_fs : FS := fun args h => match args, h with
  | [.agg [.row 0, .row 1], .int .u8 k, .row 2, .row 3], [(0, .row false ty0 (.ints .i64 I_s)), (1, .row false ty1 (.arcs I_a)), (2, .row false ty2 (.ints .u8 d)), (3, .row false ty3 (.ints .u8 e))] => some (CertC_r ⟨I_s, I_a⟩ k d e)
  | _, _ => none
def CertC_an (I : Inst) (k : Int) (d : List Int) (e : List Int) : List (Nat × Ann) := [(5, { G := (Nat), inv := fun n => ⟨[(1, SV.int IntKind.u8 k), (3, SV.row (3 : Nat)), (4, SV.ptr (4 : Nat) (0 : Nat) (0 : Nat) (0 : Nat)), (8, SV.ptr (9 : Nat) (0 : Nat) (0 : Nat) (0 : Nat)), (9, SV.ptr (18 : Nat) (0 : Nat) (0 : Nat) (0 : Nat)), (10, .int .i64 n)], [(19, Ent.row true 2 (Row.ints IntKind.i64 (flowF I d))), (18, Ent.box true 69 [SV.int IntKind.i64 (IntKind.i64.wrap ((1 : Int) + IntKind.i64.wrap (k.tmod (3 : Int)))), SV.row (19 : Nat), SV.row (11 : Nat), SV.row (12 : Nat), SV.row (13 : Nat)]), (11, Ent.row true 2 (Row.ints IntKind.i64 [])), (12, Ent.row true 4 (Row.bools [])), (13, .row true 3 (.ints .i64 ((e.take n).map fun x => x % ((I.arcs.length : Int) + 1)))), (9, Ent.box true 69 [SV.int IntKind.i64 (0 : Int), SV.row (5 : Nat), SV.row (6 : Nat), SV.row (7 : Nat), SV.row (8 : Nat)]), (5, Ent.row true 2 (Row.ints IntKind.i64 [])), (6, Ent.row true 2 (Row.ints IntKind.i64 [])), (7, Ent.row true 4 (Row.bools [])), (8, Ent.row true 3 (Row.ints IntKind.i64 [])), (4, Ent.box true 28 [SV.row (0 : Nat), SV.row (1 : Nat)]), (0, Ent.row false 0 (Row.ints IntKind.i64 I.sup)), (1, Ent.row false 0 (Row.arcs I.arcs)), (3, Ent.row false 0 (Row.ints IntKind.u8 e))], 20⟩, rel := fun n0 n => n ≤ e.length ∧ n ≤ 4, meas := fun n => 4 - n }),
  (1000014, { G := Unit, inv := fun _ => ⟨[(1, SV.int IntKind.u8 k), (8, SV.ptr (9 : Nat) (0 : Nat) (0 : Nat) (0 : Nat)), (9, SV.ptr (18 : Nat) (0 : Nat) (0 : Nat) (0 : Nat))], [(9, Ent.box true 69 [SV.int IntKind.i64 (0 : Int), SV.row (5 : Nat), SV.row (6 : Nat), SV.row (7 : Nat), SV.row (8 : Nat)]), (18, .box true 69 [.int .i64 (certK I k d e).kind, .row 19, .row 20, .row 12, .row 13]), (5, Ent.row true 2 (Row.ints IntKind.i64 [])), (6, Ent.row true 2 (Row.ints IntKind.i64 [])), (7, Ent.row true 4 (Row.bools [])), (8, Ent.row true 3 (Row.ints IntKind.i64 [])), (19, .row true 2 (.ints .i64 (certK I k d e).flow)), (20, .row true 2 (.ints .i64 (certK I k d e).pot)), (12, .row true 4 (.bools (certK I k d e).side)), (13, .row true 3 (.ints .i64 (certK I k d e).cycle))], 21⟩, rel := fun _ _ => True, meas := fun _ => 0 })]
def CertC_A : List SV → Heap → List (Nat × Ann) := fun args h => match args, h with
  | [.agg [.row 0, .row 1], .int .u8 k, .row 2, .row 3], [(0, .row false ty0 (.ints .i64 I_s)), (1, .row false ty1 (.arcs I_a)), (2, .row false ty2 (.ints .u8 d)), (3, .row false ty3 (.ints .u8 e))] => CertC_an ⟨I_s, I_a⟩ k d e
  | _, _ => []
def CertC_g : Specs := [(Flow_n, (true, specOf true Flow_fs)), (Pot_n, (true, specOf true Pot_fs)), (Marks_n, (true, specOf true Marks_fs))]
abbrev CertC_n : Nat := 44
def CertC_I (I : Inst) (k : Int) (d : List Int) (e : List Int) : List (Nat × ISpec) := []
def CertC_IA : List SV → Heap → List (Nat × ISpec) := fun _ _ => []
def CertLong_r (a : List Int) (d : List Int) (e : List Int) (k : Int) (h : Int) : FRes := { pre := Bytes a ∧ Bytes d ∧ a.length ≤ maxLen ∧ d.length ≤ maxLen ∧ Bytes e ∧ e.length ≤ maxLen ∧ 0 ≤ k ∧ k ≤ 255 ∧ 0 ≤ h ∧ h ≤ 255, res := .bool (true), rows := [], eff := [] }
def CertLong_fs : FS := fun args h => match args, h with
  | [.row 0, .row 1, .row 2, .int .u8 k, .int .u8 h], [(0, .row false ty0 (.ints .u8 a)), (1, .row false ty1 (.ints .u8 d)), (2, .row false ty2 (.ints .u8 e))] => some (CertLong_r a d e k h)
  | _, _ => none
def CertLong_an (a : List Int) (d : List Int) (e : List Int) (k : Int) (h : Int) : List (Nat × Ann) := []
def CertLong_A : List SV → Heap → List (Nat × Ann) := fun _ _ => []
def CertLong_g : Specs := [(Inst_n, (true, specOf true Inst_fs)), (CertC_n, (true, specOf true CertC_fs)), (Check_n, (true, specOf true Check_fs)), (known13_n, (true, specOf true known13_fs))]
abbrev CertLong_n : Nat := 12
def CertLong_I (a : List Int) (d : List Int) (e : List Int) (k : Int) (h : Int) : List (Nat × ISpec) := []
def CertLong_IA : List SV → Heap → List (Nat × ISpec) := fun _ _ => []
def CertRay_r (a : List Int) (d : List Int) (k : Int) : FRes := { pre := Bytes a ∧ Bytes d ∧ a.length ≤ maxLen ∧ d.length ≤ maxLen ∧ 0 ≤ k ∧ k ≤ 255, res := .bool (true), rows := [], eff := [] }
def CertRay_fs : FS := fun args h => match args, h with
  | [.row 0, .row 1, .int .u8 k], [(0, .row false ty0 (.ints .u8 a)), (1, .row false ty1 (.ints .u8 d))] => some (CertRay_r a d k)
  | _, _ => none
def CertRay_an (a : List Int) (d : List Int) (k : Int) : List (Nat × Ann) := []
def CertRay_A : List SV → Heap → List (Nat × Ann) := fun _ _ => []
def CertRay_g : Specs := [(Round_n, (true, specOf true Round_fs)), (Flow_n, (true, specOf true Flow_fs)), (Check_n, (true, specOf true Check_fs)), (known13_n, (true, specOf true known13_fs))]
abbrev CertRay_n : Nat := 13
def CertRay_I (a : List Int) (d : List Int) (k : Int) : List (Nat × ISpec) := []
def CertRay_IA : List SV → Heap → List (Nat × ISpec) := fun _ _ => []
def CertCopy_r (c : Cert) : FRes := { pre := CertOk c, res := .bool (true), rows := [], eff := [] }
def CertCopy_fs : FS := fun args h => match args, h with
  | [.agg [.int .i64 c_k, .row 0, .row 1, .row 2, .row 3]], [(0, .row false ty0 (.ints .i64 c_f)), (1, .row false ty1 (.ints .i64 c_p)), (2, .row false ty2 (.bools c_s)), (3, .row false ty3 (.ints .i64 c_y))] => some (CertCopy_r ⟨c_k, c_f, c_p, c_s, c_y⟩)
  | _, _ => none
def CertCopy_an (c : Cert) : List (Nat × Ann) := [(11, { G := (Nat) × (List Int), inv := fun ⟨k, l⟩ => ⟨[(1, SV.ptr (4 : Nat) (0 : Nat) (0 : Nat) (0 : Nat)), (3, SV.ptr (13 : Nat) (0 : Nat) (0 : Nat) (0 : Nat)), (4, SV.ptr (26 : Nat) (0 : Nat) (0 : Nat) (0 : Nat)), (5, SV.bool (decide ({ kind := c.kind, flow := c.flow, pot := c.pot, side := c.side, cycle := c.cycle : Cert } = { kind := c.kind, flow := c.flow, pot := c.pot, side := c.side, cycle := c.cycle : Cert }))), (6, .int .i64 k)], [(26, Ent.box true 69 [SV.int IntKind.i64 c.kind, SV.row (18 : Nat), SV.row (19 : Nat), SV.row (20 : Nat), SV.row (21 : Nat)]), (18, .row true 2 (.ints .i64 l)), (19, Ent.row true 2 (Row.ints IntKind.i64 c.pot)), (20, Ent.row true 4 (Row.bools c.side)), (21, Ent.row true 3 (Row.ints IntKind.i64 c.cycle)), (17, Ent.row true 3 (Row.ints IntKind.i64 c.cycle)), (16, Ent.row true 4 (Row.bools c.side)), (15, Ent.row true 2 (Row.ints IntKind.i64 c.pot)), (14, Ent.row true 2 (Row.ints IntKind.i64 c.flow)), (13, Ent.box true 69 [SV.int IntKind.i64 c.kind, SV.row (14 : Nat), SV.row (15 : Nat), SV.row (16 : Nat), SV.row (17 : Nat)]), (4, Ent.box true 69 [SV.int IntKind.i64 c.kind, SV.row (0 : Nat), SV.row (1 : Nat), SV.row (2 : Nat), SV.row (3 : Nat)]), (0, Ent.row false 0 (Row.ints IntKind.i64 c.flow)), (1, Ent.row false 0 (Row.ints IntKind.i64 c.pot)), (2, Ent.row false 0 (Row.bools c.side)), (3, Ent.row false 0 (Row.ints IntKind.i64 c.cycle))], 27⟩, rel := fun ⟨k0, l0⟩ ⟨k, l⟩ => k ≤ l.length ∧ l.length = c.flow.length, meas := fun ⟨k, l⟩ => l.length - k }),
  (15, { G := (Nat) × (List Int) × (List Int), inv := fun ⟨k, l, m⟩ => ⟨[(1, SV.ptr (4 : Nat) (0 : Nat) (0 : Nat) (0 : Nat)), (3, SV.ptr (13 : Nat) (0 : Nat) (0 : Nat) (0 : Nat)), (4, SV.ptr (26 : Nat) (0 : Nat) (0 : Nat) (0 : Nat)), (5, SV.bool (decide (c = c))), (7, .int .i64 k)], [(26, Ent.box true 69 [SV.int IntKind.i64 c.kind, SV.row (18 : Nat), SV.row (19 : Nat), SV.row (20 : Nat), SV.row (21 : Nat)]), (18, .row true 2 (.ints .i64 l)), (19, .row true 2 (.ints .i64 m)), (20, Ent.row true 4 (Row.bools c.side)), (21, Ent.row true 3 (Row.ints IntKind.i64 c.cycle)), (17, Ent.row true 3 (Row.ints IntKind.i64 c.cycle)), (16, Ent.row true 4 (Row.bools c.side)), (15, Ent.row true 2 (Row.ints IntKind.i64 c.pot)), (14, Ent.row true 2 (Row.ints IntKind.i64 c.flow)), (13, Ent.box true 69 [SV.int IntKind.i64 c.kind, SV.row (14 : Nat), SV.row (15 : Nat), SV.row (16 : Nat), SV.row (17 : Nat)]), (4, Ent.box true 69 [SV.int IntKind.i64 c.kind, SV.row (0 : Nat), SV.row (1 : Nat), SV.row (2 : Nat), SV.row (3 : Nat)]), (0, Ent.row false 0 (Row.ints IntKind.i64 c.flow)), (1, Ent.row false 0 (Row.ints IntKind.i64 c.pot)), (2, Ent.row false 0 (Row.bools c.side)), (3, Ent.row false 0 (Row.ints IntKind.i64 c.cycle))], 27⟩, rel := fun ⟨k0, l0, m0⟩ ⟨k, l, m⟩ => k ≤ m.length ∧ m.length = c.pot.length, meas := fun ⟨k, l, m⟩ => m.length - k }),
  (19, { G := (Nat) × (List Int) × (List Int) × (List Bool), inv := fun ⟨k, l, m, o⟩ => ⟨[(1, SV.ptr (4 : Nat) (0 : Nat) (0 : Nat) (0 : Nat)), (3, SV.ptr (13 : Nat) (0 : Nat) (0 : Nat) (0 : Nat)), (4, SV.ptr (26 : Nat) (0 : Nat) (0 : Nat) (0 : Nat)), (5, SV.bool (decide (c = c))), (8, .int .i64 k)], [(26, Ent.box true 69 [SV.int IntKind.i64 c.kind, SV.row (18 : Nat), SV.row (19 : Nat), SV.row (20 : Nat), SV.row (21 : Nat)]), (18, .row true 2 (.ints .i64 l)), (19, .row true 2 (.ints .i64 m)), (20, .row true 4 (.bools o)), (21, Ent.row true 3 (Row.ints IntKind.i64 c.cycle)), (17, Ent.row true 3 (Row.ints IntKind.i64 c.cycle)), (16, Ent.row true 4 (Row.bools c.side)), (15, Ent.row true 2 (Row.ints IntKind.i64 c.pot)), (14, Ent.row true 2 (Row.ints IntKind.i64 c.flow)), (13, Ent.box true 69 [SV.int IntKind.i64 c.kind, SV.row (14 : Nat), SV.row (15 : Nat), SV.row (16 : Nat), SV.row (17 : Nat)]), (4, Ent.box true 69 [SV.int IntKind.i64 c.kind, SV.row (0 : Nat), SV.row (1 : Nat), SV.row (2 : Nat), SV.row (3 : Nat)]), (0, Ent.row false 0 (Row.ints IntKind.i64 c.flow)), (1, Ent.row false 0 (Row.ints IntKind.i64 c.pot)), (2, Ent.row false 0 (Row.bools c.side)), (3, Ent.row false 0 (Row.ints IntKind.i64 c.cycle))], 27⟩, rel := fun ⟨k0, l0, m0, o0⟩ ⟨k, l, m, o⟩ => k ≤ o.length ∧ o.length = c.side.length, meas := fun ⟨k, l, m, o⟩ => o.length - k }),
  (23, { G := (Nat) × (List Int) × (List Int) × (List Bool) × (List Int), inv := fun ⟨k, l, m, o, p⟩ => ⟨[(1, SV.ptr (4 : Nat) (0 : Nat) (0 : Nat) (0 : Nat)), (3, SV.ptr (13 : Nat) (0 : Nat) (0 : Nat) (0 : Nat)), (4, SV.ptr (26 : Nat) (0 : Nat) (0 : Nat) (0 : Nat)), (5, SV.bool (decide (c = c))), (9, .int .i64 k)], [(26, Ent.box true 69 [SV.int IntKind.i64 c.kind, SV.row (18 : Nat), SV.row (19 : Nat), SV.row (20 : Nat), SV.row (21 : Nat)]), (18, .row true 2 (.ints .i64 l)), (19, .row true 2 (.ints .i64 m)), (20, .row true 4 (.bools o)), (21, .row true 3 (.ints .i64 p)), (17, Ent.row true 3 (Row.ints IntKind.i64 c.cycle)), (16, Ent.row true 4 (Row.bools c.side)), (15, Ent.row true 2 (Row.ints IntKind.i64 c.pot)), (14, Ent.row true 2 (Row.ints IntKind.i64 c.flow)), (13, Ent.box true 69 [SV.int IntKind.i64 c.kind, SV.row (14 : Nat), SV.row (15 : Nat), SV.row (16 : Nat), SV.row (17 : Nat)]), (4, Ent.box true 69 [SV.int IntKind.i64 c.kind, SV.row (0 : Nat), SV.row (1 : Nat), SV.row (2 : Nat), SV.row (3 : Nat)]), (0, Ent.row false 0 (Row.ints IntKind.i64 c.flow)), (1, Ent.row false 0 (Row.ints IntKind.i64 c.pot)), (2, Ent.row false 0 (Row.bools c.side)), (3, Ent.row false 0 (Row.ints IntKind.i64 c.cycle))], 27⟩, rel := fun ⟨k0, l0, m0, o0, p0⟩ ⟨k, l, m, o, p⟩ => k ≤ p.length ∧ p.length = c.cycle.length, meas := fun ⟨k, l, m, o, p⟩ => p.length - k })]
def CertCopy_A : List SV → Heap → List (Nat × Ann) := fun args h => match args, h with
  | [.agg [.int .i64 c_k, .row 0, .row 1, .row 2, .row 3]], [(0, .row false ty0 (.ints .i64 c_f)), (1, .row false ty1 (.ints .i64 c_p)), (2, .row false ty2 (.bools c_s)), (3, .row false ty3 (.ints .i64 c_y))] => CertCopy_an ⟨c_k, c_f, c_p, c_s, c_y⟩
  | _, _ => []
def CertCopy_g : Specs := [(LongC_n, (true, specOf true LongC_fs)), (known13_n, (true, specOf true known13_fs)), (CopyC_n, (true, specOf true CopyC_fs)), (SameC_n, (true, specOf true SameC_fs)), (rSameC_n, (true, specOf true rSameC_fs)), (Nums_n, (true, specOf true Nums_fs))]
abbrev CertCopy_n : Nat := 11
def CertCopy_I (c : Cert) : List (Nat × ISpec) := []
def CertCopy_IA : List SV → Heap → List (Nat × ISpec) := fun _ _ => []
end Go.Proofs.Ytahbkllfifmdfaa
