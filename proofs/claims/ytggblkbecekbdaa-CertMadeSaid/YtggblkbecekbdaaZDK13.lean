/- Part of the proof, DK13. -/
import Derived.Test.YtggblkbecekbdaaZDC10
import Derived.Test.YtggblkbecekbdaaZDP11
import Derived.Test.YtggblkbecekbdaaZDQ11
import Derived.Test.YtggblkbecekbdaaZDS12
import Derived.Test.YtggblkbecekbdaaZCert
import Derived.Test.YtggblkbecekbdaaZTy
set_option linter.all false
set_option linter.unusedSimpArgs false
set_option linter.unusedVariables false
namespace Go.Proofs.Ytggblkbecekbdaa
open Go Go.RowKit Go.Ql Go.Vc
def empty13_r (l : List Int) : FRes := { pre := l.length ≤ 1000000000, res := .int .i64 (zerosF l), rows := [], eff := [] }
def empty13_fs : FS := fun args h => match args, h with
  | [.row 0], [(0, .row false ty0 (.ints .i64 l))] => some (empty13_r l)
  | _, _ => none
def empty13_an (l : List Int) : List (Nat × Ann) := [(3, { G := (Nat), inv := fun k => ⟨[(3, .int .i64 (zerosF (l.take k))), (6, SV.row (0 : Nat)), (7, SV.int IntKind.i64 (↑l.length : Int)), (8, .int .i64 k)], [(0, Ent.row false 0 (Row.ints IntKind.i64 l))], 1⟩, rel := fun k0 k => k ≤ l.length, meas := fun k => l.length - k })]
def empty13_A : List SV → Heap → List (Nat × Ann) := fun args h => match args, h with
  | [.row 0], [(0, .row false ty0 (.ints .i64 l))] => empty13_an l
  | _, _ => []
def empty13_g : Specs := []
abbrev empty13_n : Nat := 52
def empty13_I (l : List Int) : List (Nat × ISpec) := []
def empty13_IA : List SV → Heap → List (Nat × ISpec) := fun _ _ => []
def Plain13_r (c : Cert) : FRes := { pre := True, res := .bool (plainF c), rows := [], eff := [] }
def Plain13_fs : FS := fun args h => match args, h with
  | [.agg [.int .i64 c_k, .row 0, .row 1, .row 2, .row 3]], [(0, .row false ty0 (.ints .i64 c_f)), (1, .row false ty1 (.ints .i64 c_p)), (2, .row false ty2 (.bools c_s)), (3, .row false ty3 (.ints .i64 c_y))] => some (Plain13_r ⟨c_k, c_f, c_p, c_s, c_y⟩)
  | _, _ => none
def Plain13_an (c : Cert) : List (Nat × Ann) := []
def Plain13_A : List SV → Heap → List (Nat × Ann) := fun _ _ => []
def Plain13_g : Specs := [(empty13_n, (true, specOf true empty13_fs))]
abbrev Plain13_n : Nat := 30
def Plain13_I (c : Cert) : List (Nat × ISpec) := []
def Plain13_IA : List SV → Heap → List (Nat × ISpec) := fun _ _ => []
def ValueC_r (I : Inst) (c : Cert) : FRes := { pre := CertOk c ∧ InstOk I, res := .tup [.agg (encWide (valueW I c)), .bool (decide (c.kind = 1))], rows := [], eff := [] }
def ValueC_fs : FS := fun args h => match args, h with
  | [.agg [.row 0, .row 1], .agg [.int .i64 c_k, .row 2, .row 3, .row 4, .row 5]], [(0, .row false ty0 (.ints .i64 I_s)), (1, .row false ty1 (.arcs I_a)), (2, .row false ty2 (.ints .i64 c_f)), (3, .row false ty3 (.ints .i64 c_p)), (4, .row false ty4 (.bools c_s)), (5, .row false ty5 (.ints .i64 c_y))] => some (ValueC_r ⟨I_s, I_a⟩ ⟨c_k, c_f, c_p, c_s, c_y⟩)
  | _, _ => none
def ValueC_an (I : Inst) (c : Cert) : List (Nat × Ann) := []
def ValueC_A : List SV → Heap → List (Nat × Ann) := fun _ _ => []
def ValueC_g : Specs := [(Cost_n, (true, specOf true Cost_fs))]
abbrev ValueC_n : Nat := 15
def ValueC_I (I : Inst) (c : Cert) : List (Nat × ISpec) := []
def ValueC_IA : List SV → Heap → List (Nat × ISpec) := fun _ _ => []
def askedC1_r (I : Inst) (c : Cert) : FRes := { pre := CertOk c ∧ InstOk I, res := .int .u16 (slackF I c.flow c.pot), rows := [], eff := [] }
def askedC1_fs : FS := fun args h => match args, h with
  | [.agg [.row 0, .row 1], .agg [.int .i64 c_k, .row 2, .row 3, .row 4, .row 5]], [(0, .row false ty0 (.ints .i64 I_s)), (1, .row false ty1 (.arcs I_a)), (2, .row false ty2 (.ints .i64 c_f)), (3, .row false ty3 (.ints .i64 c_p)), (4, .row false ty4 (.bools c_s)), (5, .row false ty5 (.ints .i64 c_y))] => some (askedC1_r ⟨I_s, I_a⟩ ⟨c_k, c_f, c_p, c_s, c_y⟩)
  | _, _ => none
def askedC1_an (I : Inst) (c : Cert) : List (Nat × Ann) := []
def askedC1_A : List SV → Heap → List (Nat × Ann) := fun _ _ => []
def askedC1_g : Specs := [(Slack_n, (true, specOf true Slack_fs))]
abbrev askedC1_n : Nat := 54
def askedC1_I (I : Inst) (c : Cert) : List (Nat × ISpec) := []
def askedC1_IA : List SV → Heap → List (Nat × ISpec) := fun _ _ => []
def askedC2_r (I : Inst) (c : Cert) : FRes := { pre := CertOk c ∧ InstOk I, res := .int .u16 (provesF I c.side), rows := [], eff := [] }
def askedC2_fs : FS := fun args h => match args, h with
  | [.agg [.row 0, .row 1], .agg [.int .i64 c_k, .row 2, .row 3, .row 4, .row 5]], [(0, .row false ty0 (.ints .i64 I_s)), (1, .row false ty1 (.arcs I_a)), (2, .row false ty2 (.ints .i64 c_f)), (3, .row false ty3 (.ints .i64 c_p)), (4, .row false ty4 (.bools c_s)), (5, .row false ty5 (.ints .i64 c_y))] => some (askedC2_r ⟨I_s, I_a⟩ ⟨c_k, c_f, c_p, c_s, c_y⟩)
  | _, _ => none
def askedC2_an (I : Inst) (c : Cert) : List (Nat × Ann) := []
def askedC2_A : List SV → Heap → List (Nat × Ann) := fun _ _ => []
def askedC2_g : Specs := [(Proves_n, (true, specOf true Proves_fs))]
abbrev askedC2_n : Nat := 56
def askedC2_I (I : Inst) (c : Cert) : List (Nat × ISpec) := []
def askedC2_IA : List SV → Heap → List (Nat × ISpec) := fun _ _ => []
def askedC3_r (I : Inst) (c : Cert) : FRes := { pre := CertOk c ∧ InstOk I, res := .int .u16 ((if fitsF I c.flow ≠ 0 then fitsF I c.flow else turnsF I c.cycle)), rows := [], eff := [] }
def askedC3_fs : FS := fun args h => match args, h with
  | [.agg [.row 0, .row 1], .agg [.int .i64 c_k, .row 2, .row 3, .row 4, .row 5]], [(0, .row false ty0 (.ints .i64 I_s)), (1, .row false ty1 (.arcs I_a)), (2, .row false ty2 (.ints .i64 c_f)), (3, .row false ty3 (.ints .i64 c_p)), (4, .row false ty4 (.bools c_s)), (5, .row false ty5 (.ints .i64 c_y))] => some (askedC3_r ⟨I_s, I_a⟩ ⟨c_k, c_f, c_p, c_s, c_y⟩)
  | _, _ => none
def askedC3_an (I : Inst) (c : Cert) : List (Nat × Ann) := []
def askedC3_A : List SV → Heap → List (Nat × Ann) := fun _ _ => []
def askedC3_g : Specs := [(Fits_n, (true, specOf true Fits_fs)), (Turns_n, (true, specOf true Turns_fs))]
abbrev askedC3_n : Nat := 58
def askedC3_I (I : Inst) (c : Cert) : List (Nat × ISpec) := []
def askedC3_IA : List SV → Heap → List (Nat × ISpec) := fun _ _ => []
abbrev askedC_n : Nat := 33
def askedC_g : Specs := []
def askedC_spec : Vc.Spec := inlSpec TT askedC_g (fun _ _ _ => []) Try.f33
def Check_r (I : Inst) (c : Cert) : FRes := { pre := CertOk c ∧ InstOk I, res := .int .u16 (checkF I c), rows := [], eff := [] }
def Check_fs : FS := fun args h => match args, h with
  | [.agg [.row 0, .row 1], .agg [.int .i64 c_k, .row 2, .row 3, .row 4, .row 5]], [(0, .row false ty0 (.ints .i64 I_s)), (1, .row false ty1 (.arcs I_a)), (2, .row false ty2 (.ints .i64 c_f)), (3, .row false ty3 (.ints .i64 c_p)), (4, .row false ty4 (.bools c_s)), (5, .row false ty5 (.ints .i64 c_y))] => some (Check_r ⟨I_s, I_a⟩ ⟨c_k, c_f, c_p, c_s, c_y⟩)
  | _, _ => none
def Check_an (I : Inst) (c : Cert) : List (Nat × Ann) := []
def Check_A : List SV → Heap → List (Nat × Ann) := fun _ _ => []
def Check_g : Specs := [(Right_n, (true, specOf true Right_fs)), (Plain13_n, (true, specOf true Plain13_fs)), (askedC_n, (false, askedC_spec)), (askedC1_n, (true, specOf true askedC1_fs)), (askedC2_n, (true, specOf true askedC2_fs)), (askedC3_n, (true, specOf true askedC3_fs))]
abbrev Check_n : Nat := 14
def Check_I (I : Inst) (c : Cert) : List (Nat × ISpec) := []
def Check_IA : List SV → Heap → List (Nat × ISpec) := fun _ _ => []
end Go.Proofs.Ytggblkbecekbdaa
