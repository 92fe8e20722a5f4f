/- Part of the proof, DK13. -/
import Derived.Test.YtahbkllfifmdfaaGreatZDC10
import Derived.Test.YtahbkllfifmdfaaGreatZDP11
import Derived.Test.YtahbkllfifmdfaaGreatZDQ11
import Derived.Test.YtahbkllfifmdfaaGreatZDS12
import Derived.Test.YtahbkllfifmdfaaGreatZCert
import Derived.Test.YtahbkllfifmdfaaGreatZTy
set_option linter.all false
set_option linter.unusedSimpArgs false
set_option linter.unusedVariables false
namespace Go.Proofs.YtahbkllfifmdfaaGreat
open Go Go.RowKit Go.Ql Go.Vc
def empty13_r (l : List Int) : FRes := { pre := l.length ≤ 1000000000, res := .int .i64 (zerosF l), rows := [], eff := [] }
def empty13_fs : FS := fun args h => match args, h with
  | [.row 0], [(0, .row false ty0 (.ints .i64 l))] => some (empty13_r l)
  | _, _ => none
def empty13_an (l : List Int) : List (Nat × Ann) := [(3, { G := (Nat), inv := fun k => ⟨[(3, .int .i64 (zerosF (l.take k))), (6, SV.row (0 : Nat)), (7, SV.int IntKind.i64 (↑l.length : Int)), (8, .int .i64 k)], [(0, Ent.row false 0 (Row.ints IntKind.i64 l))], 1⟩, rel := fun k0 k => k ≤ l.length, meas := fun k => l.length - k })]
def empty13_A : List SV → Heap → List (Nat × Ann) := fun args h => match args, h with
  | [.row 0], [(0, .row false ty0 (.ints .i64 l))] => empty13_an l
  | _, _ => []
def empty13_g : Specs := []
abbrev empty13_n : Nat := 28
def empty13_I (l : List Int) : List (Nat × ISpec) := []
def empty13_IA : List SV → Heap → List (Nat × ISpec) := fun _ _ => []
def Plain13_r (c : Cert) : FRes := { pre := True, res := .bool (plainF c), rows := [], eff := [] }
def Plain13_fs : FS := fun args h => match args, h with
  | [.agg [.int .i64 c_k, .row 0, .row 1, .row 2, .row 3]], [(0, .row false ty0 (.ints .i64 c_f)), (1, .row false ty1 (.ints .i64 c_p)), (2, .row false ty2 (.bools c_s)), (3, .row false ty3 (.ints .i64 c_y))] => some (Plain13_r ⟨c_k, c_f, c_p, c_s, c_y⟩)
  | _, _ => none
def Plain13_an (c : Cert) : List (Nat × Ann) := []
def Plain13_A : List SV → Heap → List (Nat × Ann) := fun _ _ => []
def Plain13_g : Specs := [(empty13_n, (true, specOf true empty13_fs))]
abbrev Plain13_n : Nat := 15
def Plain13_I (c : Cert) : List (Nat × ISpec) := []
def Plain13_IA : List SV → Heap → List (Nat × ISpec) := fun _ _ => []
def fresh1_r (l : List Int) : FRes := { pre := l.length ≤ 1000000000, res := .row 1, rows := [.row 2 (.ints .i64 (l))], eff := [] }
def fresh1_fs : FS := fun args h => match args, h with
  | [.row 0], [(0, .row false ty0 (.ints .i64 l))] => some (fresh1_r l)
  | _, _ => none
def fresh1_an (l : List Int) : List (Nat × Ann) := []
def fresh1_A : List SV → Heap → List (Nat × Ann) := fun _ _ => []
def fresh1_g : Specs := []
abbrev fresh1_n : Nat := 38
def fresh1_I (l : List Int) : List (Nat × ISpec) := []
def fresh1_IA : List SV → Heap → List (Nat × ISpec) := fun _ _ => []
def fresh2_r (l : List Bool) : FRes := { pre := l.length ≤ 1000000000, res := .row 1, rows := [.row 4 (.bools (l))], eff := [] }
def fresh2_fs : FS := fun args h => match args, h with
  | [.row 0], [(0, .row false ty0 (.bools l))] => some (fresh2_r l)
  | _, _ => none
def fresh2_an (l : List Bool) : List (Nat × Ann) := []
def fresh2_A : List SV → Heap → List (Nat × Ann) := fun _ _ => []
def fresh2_g : Specs := []
abbrev fresh2_n : Nat := 39
def fresh2_I (l : List Bool) : List (Nat × ISpec) := []
def fresh2_IA : List SV → Heap → List (Nat × ISpec) := fun _ _ => []
def fresh3_r (l : List Int) : FRes := { pre := l.length ≤ 1000000000, res := .row 1, rows := [.row 3 (.ints .i64 (l))], eff := [] }
def fresh3_fs : FS := fun args h => match args, h with
  | [.row 0], [(0, .row false ty0 (.ints .i64 l))] => some (fresh3_r l)
  | _, _ => none
def fresh3_an (l : List Int) : List (Nat × Ann) := []
def fresh3_A : List SV → Heap → List (Nat × Ann) := fun _ _ => []
def fresh3_g : Specs := []
abbrev fresh3_n : Nat := 40
def fresh3_I (l : List Int) : List (Nat × ISpec) := []
def fresh3_IA : List SV → Heap → List (Nat × ISpec) := fun _ _ => []
def CopyC_r (c : Cert) : FRes := { pre := c.flow.length ≤ 1000000000 ∧ c.pot.length ≤ 1000000000 ∧ c.side.length ≤ 1000000000 ∧ c.cycle.length ≤ 1000000000, res := .agg [.int .i64 (c).kind, .row 4, .row 5, .row 6, .row 7], rows := [.row 2 (.ints .i64 (c).flow), .row 2 (.ints .i64 (c).pot), .row 4 (.bools (c).side), .row 3 (.ints .i64 (c).cycle)], eff := [] }
def CopyC_fs : FS := fun args h => match args, h with
  | [.agg [.int .i64 c_k, .row 0, .row 1, .row 2, .row 3]], [(0, .row false ty0 (.ints .i64 c_f)), (1, .row false ty1 (.ints .i64 c_p)), (2, .row false ty2 (.bools c_s)), (3, .row false ty3 (.ints .i64 c_y))] => some (CopyC_r ⟨c_k, c_f, c_p, c_s, c_y⟩)
  | _, _ => none
def CopyC_an (c : Cert) : List (Nat × Ann) := []
def CopyC_A : List SV → Heap → List (Nat × Ann) := fun _ _ => []
def CopyC_g : Specs := [(fresh1_n, (true, specOf true fresh1_fs)), (fresh2_n, (true, specOf true fresh2_fs)), (fresh3_n, (true, specOf true fresh3_fs))]
abbrev CopyC_n : Nat := 23
def CopyC_I (c : Cert) : List (Nat × ISpec) := []
def CopyC_IA : List SV → Heap → List (Nat × ISpec) := fun _ _ => []
def EqI_r (xs : List Int) (ys : List Int) : FRes := { pre := xs.length ≤ 1000000000, res := .bool (decide (xs = ys)), rows := [], eff := [] }
def EqI_fs : FS := fun args h => match args, h with
  | [.row 0, .row 1], [(0, .row false ty0 (.ints .i64 xs)), (1, .row false ty1 (.ints .i64 ys))] => some (EqI_r xs ys)
  | _, _ => none
def EqI_an (xs : List Int) (ys : List Int) : List (Nat × Ann) := [(4, { G := (Nat), inv := fun k => ⟨[(0, SV.row (0 : Nat)), (1, SV.row (1 : Nat)), (12, SV.int IntKind.i64 (↑xs.length : Int)), (13, .int .i64 k)], [(0, Ent.row false 0 (Row.ints IntKind.i64 xs)), (1, Ent.row false 0 (Row.ints IntKind.i64 ys))], 2⟩, rel := fun k0 k => k ≤ xs.length ∧ xs.take k = ys.take k, meas := fun k => xs.length - k })]
def EqI_A : List SV → Heap → List (Nat × Ann) := fun args h => match args, h with
  | [.row 0, .row 1], [(0, .row false ty0 (.ints .i64 xs)), (1, .row false ty1 (.ints .i64 ys))] => EqI_an xs ys
  | _, _ => []
def EqI_g : Specs := []
abbrev EqI_n : Nat := 43
def EqI_I (xs : List Int) (ys : List Int) : List (Nat × ISpec) := []
def EqI_IA : List SV → Heap → List (Nat × ISpec) := fun _ _ => []
def EqB_r (xs : List Bool) (ys : List Bool) : FRes := { pre := xs.length ≤ 1000000000, res := .bool (decide (xs = ys)), rows := [], eff := [] }
def EqB_fs : FS := fun args h => match args, h with
  | [.row 0, .row 1], [(0, .row false ty0 (.bools xs)), (1, .row false ty1 (.bools ys))] => some (EqB_r xs ys)
  | _, _ => none
def EqB_an (xs : List Bool) (ys : List Bool) : List (Nat × Ann) := [(4, { G := (Nat), inv := fun k => ⟨[(0, SV.row (0 : Nat)), (1, SV.row (1 : Nat)), (12, SV.int IntKind.i64 (↑xs.length : Int)), (13, .int .i64 k)], [(0, Ent.row false 0 (Row.bools xs)), (1, Ent.row false 0 (Row.bools ys))], 2⟩, rel := fun k0 k => k ≤ xs.length ∧ xs.take k = ys.take k, meas := fun k => xs.length - k })]
def EqB_A : List SV → Heap → List (Nat × Ann) := fun args h => match args, h with
  | [.row 0, .row 1], [(0, .row false ty0 (.bools xs)), (1, .row false ty1 (.bools ys))] => EqB_an xs ys
  | _, _ => []
def EqB_g : Specs := []
abbrev EqB_n : Nat := 42
def EqB_I (xs : List Bool) (ys : List Bool) : List (Nat × ISpec) := []
def EqB_IA : List SV → Heap → List (Nat × ISpec) := fun _ _ => []
def SameC_r (c : Cert) (d : Cert) : FRes := { pre := c.flow.length ≤ 1000000000 ∧ c.pot.length ≤ 1000000000 ∧ c.side.length ≤ 1000000000 ∧ c.cycle.length ≤ 1000000000, res := .bool (decide (c = d)), rows := [], eff := [] }
def SameC_fs : FS := fun args h => match args, h with
  | [.agg [.int .i64 c_k, .row 0, .row 1, .row 2, .row 3], .agg [.int .i64 d_k, .row 4, .row 5, .row 6, .row 7]], [(0, .row false ty0 (.ints .i64 c_f)), (1, .row false ty1 (.ints .i64 c_p)), (2, .row false ty2 (.bools c_s)), (3, .row false ty3 (.ints .i64 c_y)), (4, .row false ty4 (.ints .i64 d_f)), (5, .row false ty5 (.ints .i64 d_p)), (6, .row false ty6 (.bools d_s)), (7, .row false ty7 (.ints .i64 d_y))] => some (SameC_r ⟨c_k, c_f, c_p, c_s, c_y⟩ ⟨d_k, d_f, d_p, d_s, d_y⟩)
  | _, _ => none
def SameC_an (c : Cert) (d : Cert) : List (Nat × Ann) := []
def SameC_A : List SV → Heap → List (Nat × Ann) := fun _ _ => []
def SameC_g : Specs := [(EqInts_n, (true, specOf true EqInts_fs)), (EqB_n, (true, specOf true EqB_fs)), (EqI_n, (true, specOf true EqI_fs))]
abbrev SameC_n : Nat := 24
def SameC_I (c : Cert) (d : Cert) : List (Nat × ISpec) := []
def SameC_IA : List SV → Heap → List (Nat × ISpec) := fun _ _ => []
def ValueC_r (I : Inst) (c : Cert) : FRes := { pre := CertOk c ∧ InstOk I, res := .tup [.agg (encWide (valueW I c)), .bool (decide (c.kind = 1))], rows := [], eff := [] }
def ValueC_fs : FS := fun args h => match args, h with
  | [.agg [.row 0, .row 1], .agg [.int .i64 c_k, .row 2, .row 3, .row 4, .row 5]], [(0, .row false ty0 (.ints .i64 I_s)), (1, .row false ty1 (.arcs I_a)), (2, .row false ty2 (.ints .i64 c_f)), (3, .row false ty3 (.ints .i64 c_p)), (4, .row false ty4 (.bools c_s)), (5, .row false ty5 (.ints .i64 c_y))] => some (ValueC_r ⟨I_s, I_a⟩ ⟨c_k, c_f, c_p, c_s, c_y⟩)
  | _, _ => none
def ValueC_an (I : Inst) (c : Cert) : List (Nat × Ann) := []
def ValueC_A : List SV → Heap → List (Nat × Ann) := fun _ _ => []
def ValueC_g : Specs := [(Cost_n, (true, specOf true Cost_fs))]
abbrev ValueC_n : Nat := 13
def ValueC_I (I : Inst) (c : Cert) : List (Nat × ISpec) := []
def ValueC_IA : List SV → Heap → List (Nat × ISpec) := fun _ _ => []
def askedC1_r (I : Inst) (c : Cert) : FRes := { pre := CertOk c ∧ InstOk I, res := .int .u16 (slackF I c.flow c.pot), rows := [], eff := [] }
def askedC1_fs : FS := fun args h => match args, h with
  | [.agg [.row 0, .row 1], .agg [.int .i64 c_k, .row 2, .row 3, .row 4, .row 5]], [(0, .row false ty0 (.ints .i64 I_s)), (1, .row false ty1 (.arcs I_a)), (2, .row false ty2 (.ints .i64 c_f)), (3, .row false ty3 (.ints .i64 c_p)), (4, .row false ty4 (.bools c_s)), (5, .row false ty5 (.ints .i64 c_y))] => some (askedC1_r ⟨I_s, I_a⟩ ⟨c_k, c_f, c_p, c_s, c_y⟩)
  | _, _ => none
def askedC1_an (I : Inst) (c : Cert) : List (Nat × Ann) := []
def askedC1_A : List SV → Heap → List (Nat × Ann) := fun _ _ => []
def askedC1_g : Specs := [(Slack_n, (true, specOf true Slack_fs))]
abbrev askedC1_n : Nat := 48
def askedC1_I (I : Inst) (c : Cert) : List (Nat × ISpec) := []
def askedC1_IA : List SV → Heap → List (Nat × ISpec) := fun _ _ => []
def askedC2_r (I : Inst) (c : Cert) : FRes := { pre := CertOk c ∧ InstOk I, res := .int .u16 (provesF I c.side), rows := [], eff := [] }
def askedC2_fs : FS := fun args h => match args, h with
  | [.agg [.row 0, .row 1], .agg [.int .i64 c_k, .row 2, .row 3, .row 4, .row 5]], [(0, .row false ty0 (.ints .i64 I_s)), (1, .row false ty1 (.arcs I_a)), (2, .row false ty2 (.ints .i64 c_f)), (3, .row false ty3 (.ints .i64 c_p)), (4, .row false ty4 (.bools c_s)), (5, .row false ty5 (.ints .i64 c_y))] => some (askedC2_r ⟨I_s, I_a⟩ ⟨c_k, c_f, c_p, c_s, c_y⟩)
  | _, _ => none
def askedC2_an (I : Inst) (c : Cert) : List (Nat × Ann) := []
def askedC2_A : List SV → Heap → List (Nat × Ann) := fun _ _ => []
def askedC2_g : Specs := [(Proves_n, (true, specOf true Proves_fs))]
abbrev askedC2_n : Nat := 50
def askedC2_I (I : Inst) (c : Cert) : List (Nat × ISpec) := []
def askedC2_IA : List SV → Heap → List (Nat × ISpec) := fun _ _ => []
def askedC3_r (I : Inst) (c : Cert) : FRes := { pre := CertOk c ∧ InstOk I, res := .int .u16 ((if fitsF I c.flow ≠ 0 then fitsF I c.flow else turnsF I c.cycle)), rows := [], eff := [] }
def askedC3_fs : FS := fun args h => match args, h with
  | [.agg [.row 0, .row 1], .agg [.int .i64 c_k, .row 2, .row 3, .row 4, .row 5]], [(0, .row false ty0 (.ints .i64 I_s)), (1, .row false ty1 (.arcs I_a)), (2, .row false ty2 (.ints .i64 c_f)), (3, .row false ty3 (.ints .i64 c_p)), (4, .row false ty4 (.bools c_s)), (5, .row false ty5 (.ints .i64 c_y))] => some (askedC3_r ⟨I_s, I_a⟩ ⟨c_k, c_f, c_p, c_s, c_y⟩)
  | _, _ => none
def askedC3_an (I : Inst) (c : Cert) : List (Nat × Ann) := []
def askedC3_A : List SV → Heap → List (Nat × Ann) := fun _ _ => []
def askedC3_g : Specs := [(Fits_n, (true, specOf true Fits_fs)), (Turns_n, (true, specOf true Turns_fs))]
abbrev askedC3_n : Nat := 52
def askedC3_I (I : Inst) (c : Cert) : List (Nat × ISpec) := []
def askedC3_IA : List SV → Heap → List (Nat × ISpec) := fun _ _ => []
abbrev askedC_n : Nat := 27
def askedC_g : Specs := []
def askedC_spec : Vc.Spec := inlSpec TT askedC_g (fun _ _ _ => []) Tryz.f27
def Check_r (I : Inst) (c : Cert) : FRes := { pre := CertOk c ∧ InstOk I, res := .int .u16 (checkF I c), rows := [], eff := [] }
def Check_fs : FS := fun args h => match args, h with
  | [.agg [.row 0, .row 1], .agg [.int .i64 c_k, .row 2, .row 3, .row 4, .row 5]], [(0, .row false ty0 (.ints .i64 I_s)), (1, .row false ty1 (.arcs I_a)), (2, .row false ty2 (.ints .i64 c_f)), (3, .row false ty3 (.ints .i64 c_p)), (4, .row false ty4 (.bools c_s)), (5, .row false ty5 (.ints .i64 c_y))] => some (Check_r ⟨I_s, I_a⟩ ⟨c_k, c_f, c_p, c_s, c_y⟩)
  | _, _ => none
def Check_an (I : Inst) (c : Cert) : List (Nat × Ann) := []
def Check_A : List SV → Heap → List (Nat × Ann) := fun _ _ => []
def Check_g : Specs := [(Right_n, (true, specOf true Right_fs)), (Plain13_n, (true, specOf true Plain13_fs)), (askedC_n, (false, askedC_spec)), (askedC1_n, (true, specOf true askedC1_fs)), (askedC2_n, (true, specOf true askedC2_fs)), (askedC3_n, (true, specOf true askedC3_fs))]
abbrev Check_n : Nat := 14
def Check_I (I : Inst) (c : Cert) : List (Nat × ISpec) := []
def Check_IA : List SV → Heap → List (Nat × ISpec) := fun _ _ => []
end Go.Proofs.YtahbkllfifmdfaaGreat
