/- Part of the proof, DM13. -/
import Derived.Test.YtahbkllfifmdfaaGreatZDL13
import Derived.Test.YtahbkllfifmdfaaGreatZTy
set_option linter.all false
set_option linter.unusedSimpArgs false
set_option linter.unusedVariables false
namespace Go.Proofs.YtahbkllfifmdfaaGreat
open Go Go.RowKit Go.Ql Go.Vc
def rPlain13_r (c : Cert) : FRes := { pre := True, res := .bool (plainF c), rows := [], eff := [] }
def rPlain13_fs : FS := fun args h => match args, h with
  | [.agg [.int .i64 c_k, .row 0, .row 1, .row 2, .row 3]], [(0, .row false ty0 (.ints .i64 c_f)), (1, .row false ty1 (.ints .i64 c_p)), (2, .row false ty2 (.bools c_s)), (3, .row false ty3 (.ints .i64 c_y))] => some (rPlain13_r ⟨c_k, c_f, c_p, c_s, c_y⟩)
  | _, _ => none
def rPlain13_an (c : Cert) : List (Nat × Ann) := []
def rPlain13_A : List SV → Heap → List (Nat × Ann) := fun _ _ => []
def rPlain13_g : Specs := []
abbrev rPlain13_n : Nat := 21
def rPlain13_I (c : Cert) : List (Nat × ISpec) := []
def rPlain13_IA : List SV → Heap → List (Nat × ISpec) := fun _ _ => []
def rCheck13_r (I : Inst) (c : Cert) : FRes := { pre := CertOk c ∧ InstOk I ∧ c.cycle.length ≤ 1000000, res := .int .i64 (checkF I c), rows := [], eff := [] }
def rCheck13_fs : FS := fun args h => match args, h with
  | [.agg [.row 0, .row 1], .agg [.int .i64 c_k, .row 2, .row 3, .row 4, .row 5]], [(0, .row false ty0 (.ints .i64 I_s)), (1, .row false ty1 (.arcs I_a)), (2, .row false ty2 (.ints .i64 c_f)), (3, .row false ty3 (.ints .i64 c_p)), (4, .row false ty4 (.bools c_s)), (5, .row false ty5 (.ints .i64 c_y))] => some (rCheck13_r ⟨I_s, I_a⟩ ⟨c_k, c_f, c_p, c_s, c_y⟩)
  | _, _ => none
def rCheck13_an (I : Inst) (c : Cert) : List (Nat × Ann) := []
def rCheck13_A : List SV → Heap → List (Nat × Ann) := fun _ _ => []
def rCheck13_g : Specs := [(rRight_n, (true, specOf true rRight_fs)), (rPlain13_n, (true, specOf true rPlain13_fs)), (rSlack_n, (true, specOf true rSlack_fs)), (rProves_n, (true, specOf true rProves_fs)), (rFits_n, (true, specOf true rFits_fs)), (rTurns_n, (true, specOf true rTurns_fs))]
abbrev rCheck13_n : Nat := 20
def rCheck13_I (I : Inst) (c : Cert) : List (Nat × ISpec) := []
def rCheck13_IA : List SV → Heap → List (Nat × ISpec) := fun _ _ => []
def rValueC_r (I : Inst) (c : Cert) : FRes := { pre := CertOk c ∧ InstOk I, res := .tup [.agg (encWide (valueW I c)), .bool (decide (c.kind = 1))], rows := [], eff := [] }
def rValueC_fs : FS := fun args h => match args, h with
  | [.agg [.row 0, .row 1], .agg [.int .i64 c_k, .row 2, .row 3, .row 4, .row 5]], [(0, .row false ty0 (.ints .i64 I_s)), (1, .row false ty1 (.arcs I_a)), (2, .row false ty2 (.ints .i64 c_f)), (3, .row false ty3 (.ints .i64 c_p)), (4, .row false ty4 (.bools c_s)), (5, .row false ty5 (.ints .i64 c_y))] => some (rValueC_r ⟨I_s, I_a⟩ ⟨c_k, c_f, c_p, c_s, c_y⟩)
  | _, _ => none
def rValueC_an (I : Inst) (c : Cert) : List (Nat × Ann) := []
def rValueC_A : List SV → Heap → List (Nat × Ann) := fun _ _ => []
def rValueC_g : Specs := [(rCost_n, (true, specOf true rCost_fs))]
abbrev rValueC_n : Nat := 19
def rValueC_I (I : Inst) (c : Cert) : List (Nat × ISpec) := []
def rValueC_IA : List SV → Heap → List (Nat × ISpec) := fun _ _ => []
def asks13_r (I : Inst) (c : Cert) : FRes := { pre := CertOk c ∧ InstOk I ∧ c.flow.length ≤ 1000000 ∧ c.pot.length ≤ 1000000 ∧ c.side.length ≤ 1000000 ∧ c.cycle.length ≤ 1000000, res := .bool (true), rows := [], eff := [] }
def asks13_fs : FS := fun args h => match args, h with
  | [.agg [.row 0, .row 1], .agg [.int .i64 c_k, .row 2, .row 3, .row 4, .row 5]], [(0, .row false ty0 (.ints .i64 I_s)), (1, .row false ty1 (.arcs I_a)), (2, .row false ty2 (.ints .i64 c_f)), (3, .row false ty3 (.ints .i64 c_p)), (4, .row false ty4 (.bools c_s)), (5, .row false ty5 (.ints .i64 c_y))] => some (asks13_r ⟨I_s, I_a⟩ ⟨c_k, c_f, c_p, c_s, c_y⟩)
  | _, _ => none
def asks13_an (I : Inst) (c : Cert) : List (Nat × Ann) := []
def asks13_A : List SV → Heap → List (Nat × Ann) := fun _ _ => []
def asks13_g : Specs := [(ValueC_n, (true, specOf true ValueC_fs)), (rValueC_n, (true, specOf true rValueC_fs)), (Check_n, (true, specOf true Check_fs)), (rCheck13_n, (true, specOf true rCheck13_fs)), (Plain13_n, (true, specOf true Plain13_fs)), (rPlain13_n, (true, specOf true rPlain13_fs)), (rSameC_n, (true, specOf true rSameC_fs)), (CopyC_n, (true, specOf true CopyC_fs))]
abbrev asks13_n : Nat := 11
def asks13_I (I : Inst) (c : Cert) : List (Nat × ISpec) := []
def asks13_IA : List SV → Heap → List (Nat × ISpec) := fun _ _ => []
def same13_r (c : Cert) (d : Cert) : FRes := { pre := c.flow.length ≤ 1000000 ∧ c.pot.length ≤ 1000000 ∧ c.side.length ≤ 1000000 ∧ c.cycle.length ≤ 1000000, res := .bool (true), rows := [], eff := [] }
def same13_fs : FS := fun args h => match args, h with
  | [.agg [.int .i64 c_k, .row 0, .row 1, .row 2, .row 3], .agg [.int .i64 d_k, .row 4, .row 5, .row 6, .row 7]], [(0, .row false ty0 (.ints .i64 c_f)), (1, .row false ty1 (.ints .i64 c_p)), (2, .row false ty2 (.bools c_s)), (3, .row false ty3 (.ints .i64 c_y)), (4, .row false ty4 (.ints .i64 d_f)), (5, .row false ty5 (.ints .i64 d_p)), (6, .row false ty6 (.bools d_s)), (7, .row false ty7 (.ints .i64 d_y))] => some (same13_r ⟨c_k, c_f, c_p, c_s, c_y⟩ ⟨d_k, d_f, d_p, d_s, d_y⟩)
  | _, _ => none
def same13_an (c : Cert) (d : Cert) : List (Nat × Ann) := []
def same13_A : List SV → Heap → List (Nat × Ann) := fun _ _ => []
def same13_g : Specs := [(SameC_n, (true, specOf true SameC_fs)), (rSameC_n, (true, specOf true rSameC_fs))]
abbrev same13_n : Nat := 12
def same13_I (c : Cert) (d : Cert) : List (Nat × ISpec) := []
def same13_IA : List SV → Heap → List (Nat × ISpec) := fun _ _ => []
def CertAsks_r (I : Inst) (c : Cert) (a : List Int) (d : List Int) (e : List Int) (k : Int) : FRes := { pre := CertOk c ∧ A64 I.sup ∧ A64a I.arcs ∧ A64c I.arcs ∧ I.sup.length ≤ 140737488351232 ∧ I.arcs.length ≤ 140737488351232 ∧ Bytes a ∧ Bytes d ∧ Bytes e ∧ a.length ≤ maxLen ∧ d.length ≤ maxLen ∧ e.length ≤ maxLen ∧ 0 ≤ k ∧ k ≤ 255, res := .bool (true), rows := [], eff := [] }
def CertAsks_fs : FS := fun args h => match args, h with
  | [.agg [.row 0, .row 1], .agg [.int .i64 c_k, .row 2, .row 3, .row 4, .row 5], .row 6, .row 7, .row 8, .int .u8 k], [(0, .row false ty0 (.ints .i64 I_s)), (1, .row false ty1 (.arcs I_a)), (2, .row false ty2 (.ints .i64 c_f)), (3, .row false ty3 (.ints .i64 c_p)), (4, .row false ty4 (.bools c_s)), (5, .row false ty5 (.ints .i64 c_y)), (6, .row false ty6 (.ints .u8 a)), (7, .row false ty7 (.ints .u8 d)), (8, .row false ty8 (.ints .u8 e))] => some (CertAsks_r ⟨I_s, I_a⟩ ⟨c_k, c_f, c_p, c_s, c_y⟩ a d e k)
  | _, _ => none
def CertAsks_an (I : Inst) (c : Cert) (a : List Int) (d : List Int) (e : List Int) (k : Int) : List (Nat × Ann) := []
def CertAsks_A : List SV → Heap → List (Nat × Ann) := fun _ _ => []
def CertAsks_g : Specs := [(Size_n, (true, specOf true Size_fs)), (LongC_n, (true, specOf true LongC_fs)), (known13_n, (true, specOf true known13_fs)), (Inst_n, (true, specOf true Inst_fs)), (CertC_n, (true, specOf true CertC_fs)), (Round_n, (true, specOf true Round_fs)), (Flow_n, (true, specOf true Flow_fs)), (asks13_n, (true, specOf true asks13_fs)), (same13_n, (true, specOf true same13_fs))]
abbrev CertAsks_n : Nat := 3
def CertAsks_I (I : Inst) (c : Cert) (a : List Int) (d : List Int) (e : List Int) (k : Int) : List (Nat × ISpec) := []
def CertAsks_IA : List SV → Heap → List (Nat × ISpec) := fun _ _ => []
end Go.Proofs.YtahbkllfifmdfaaGreat
