/- Part of the proof, DP11. -/
import Derived.Test.YtggblkbecekbdaaZDB9
import Derived.Test.YtggblkbecekbdaaZPrice
import Derived.Test.YtggblkbecekbdaaZTy
set_option linter.all false
set_option linter.unusedSimpArgs false
set_option linter.unusedVariables false
namespace Go.Proofs.Ytggblkbecekbdaa
open Go Go.RowKit Go.Ql Go.Vc
def of11_r (pot : List Int) (n : Int) : FRes := { pre := 0 ≤ n, res := .int .i64 (pot.getD n.toNat 0), rows := [], eff := [] }
def of11_fs : FS := fun args h => match args, h with
  | [.row 0, .int .i64 n], [(0, .row false ty0 (.ints .i64 pot))] => some (of11_r pot n)
  | _, _ => none
def of11_an (pot : List Int) (n : Int) : List (Nat × Ann) := []
def of11_A : List SV → Heap → List (Nat × Ann) := fun _ _ => []
def of11_g : Specs := []
abbrev of11_n : Nat := 63
def of11_I (pot : List Int) (n : Int) : List (Nat × ISpec) := []
def of11_IA : List SV → Heap → List (Nat × ISpec) := fun _ _ => []
def reduced_r (p : Arc) (pf : Int) (pt : Int) : FRes := { pre := I64 p.cost ∧ I64 pf ∧ I64 pt, res := .agg (encWide (W (redA p pf pt))), rows := [], eff := [] }
def reduced_fs : FS := fun args h => match args, h with
  | [.agg [.int .i64 p_0, .int .i64 p_1, .int .i64 p_2, .int .i64 p_3, .int .i64 p_4, .int .i64 pf, .int .i64 pt]], [] => some (reduced_r ⟨p_0, p_1, p_2, p_3, p_4⟩ pf pt)
  | _, _ => none
def reduced_an (p : Arc) (pf : Int) (pt : Int) : List (Nat × Ann) := []
def reduced_A : List SV → Heap → List (Nat × Ann) := fun _ _ => []
def reduced_g : Specs := [(Plus_n, (true, specOf true Plus_fs)), (Minus_n, (true, specOf true Minus_fs)), (Of_n, (true, specOf true Of_fs))]
abbrev reduced_n : Nat := 38
def reduced_I (p : Arc) (pf : Int) (pt : Int) : List (Nat × ISpec) := []
def reduced_IA : List SV → Heap → List (Nat × ISpec) := fun _ _ => []
def sign_r (p : Arc) (pf : Int) (pt : Int) : FRes := { pre := I64 p.cost ∧ I64 pf ∧ I64 pt, res := .int .i64 (sgn (redA p pf pt)), rows := [], eff := [] }
def sign_fs : FS := fun args h => match args, h with
  | [.agg [.int .i64 p_0, .int .i64 p_1, .int .i64 p_2, .int .i64 p_3, .int .i64 p_4, .int .i64 pf, .int .i64 pt]], [] => some (sign_r ⟨p_0, p_1, p_2, p_3, p_4⟩ pf pt)
  | _, _ => none
def sign_an (p : Arc) (pf : Int) (pt : Int) : List (Nat × Ann) := []
def sign_A : List SV → Heap → List (Nat × Ann) := fun _ _ => []
def sign_g : Specs := [(Compare_n, (true, specOf true Compare_fs)), (reduced_n, (true, specOf true reduced_fs)), (Of_n, (true, specOf true Of_fs))]
abbrev sign_n : Nat := 96
def sign_I (p : Arc) (pf : Int) (pt : Int) : List (Nat × ISpec) := []
def sign_IA : List SV → Heap → List (Nat × ISpec) := fun _ _ => []
def at11_r (I : Inst) (pot : List Int) (a : Int) : FRes := { pre := True, res := .tup [.agg [.int .i64 (atA I a).src, .int .i64 (atA I a).dst, .int .i64 (atA I a).low, .int .i64 (atA I a).cap, .int .i64 (atA I a).cost, .int .i64 (atF I pot a), .int .i64 (atT I pot a)], .bool (gOk I.sup.length I.arcs a)], rows := [], eff := [] }
def at11_fs : FS := fun args h => match args, h with
  | [.agg [.row 0, .row 1], .row 2, .int .i64 a], [(0, .row false ty0 (.ints .i64 I_s)), (1, .row false ty1 (.arcs I_a)), (2, .row false ty2 (.ints .i64 pot))] => some (at11_r ⟨I_s, I_a⟩ pot a)
  | _, _ => none
def at11_an (I : Inst) (pot : List Int) (a : Int) : List (Nat × Ann) := []
def at11_A : List SV → Heap → List (Nat × Ann) := fun _ _ => []
def at11_g : Specs := [(of11_n, (true, specOf true of11_fs))]
abbrev at11_n : Nat := 37
def at11_I (I : Inst) (pot : List Int) (a : Int) : List (Nat × ISpec) := []
def at11_IA : List SV → Heap → List (Nat × ISpec) := fun _ _ => []
abbrev arcs11_n : Nat := 95
def arcs11_g : Specs := []
def arcs11_spec : Vc.Spec := inlSpec TT arcs11_g (fun _ _ _ => []) Try.f95
def Reduced_r (I : Inst) (pot : List Int) (a : Int) : FRes := { pre := A64 pot ∧ A64c I.arcs, res := .agg (encWide (W (redF I pot a))), rows := [], eff := [] }
def Reduced_fs : FS := fun args h => match args, h with
  | [.agg [.row 0, .row 1], .row 2, .int .i64 a], [(0, .row false ty0 (.ints .i64 I_s)), (1, .row false ty1 (.arcs I_a)), (2, .row false ty2 (.ints .i64 pot))] => some (Reduced_r ⟨I_s, I_a⟩ pot a)
  | _, _ => none
def Reduced_an (I : Inst) (pot : List Int) (a : Int) : List (Nat × Ann) := []
def Reduced_A : List SV → Heap → List (Nat × Ann) := fun _ _ => []
def Reduced_g : Specs := [(at11_n, (true, specOf true at11_fs)), (reduced_n, (true, specOf true reduced_fs))]
abbrev Reduced_n : Nat := 19
def Reduced_I (I : Inst) (pot : List Int) (a : Int) : List (Nat × ISpec) := []
def Reduced_IA : List SV → Heap → List (Nat × ISpec) := fun _ _ => []
def Slack_r (I : Inst) (x : List Int) (pot : List Int) : FRes := { pre := I.sup.length ≤ 10000 ∧ I.arcs.length ≤ 10000 ∧ A64 x ∧ A64 I.sup ∧ A64 pot ∧ A64c I.arcs, res := .int .u16 (slackF I x pot), rows := [], eff := [] }
def Slack_fs : FS := fun args h => match args, h with
  | [.agg [.row 0, .row 1], .row 2, .row 3], [(0, .row false ty0 (.ints .i64 I_s)), (1, .row false ty1 (.arcs I_a)), (2, .row false ty2 (.ints .i64 x)), (3, .row false ty3 (.ints .i64 pot))] => some (Slack_r ⟨I_s, I_a⟩ x pot)
  | _, _ => none
def Slack_an (I : Inst) (x : List Int) (pot : List Int) : List (Nat × Ann) := []
def Slack_A : List SV → Heap → List (Nat × Ann) := fun _ _ => []
def Slack_g : Specs := [(Fits_n, (true, specOf true Fits_fs)), (arcs11_n, (false, arcs11_spec)), (sign_n, (true, specOf true sign_fs))]
abbrev Slack_n : Nat := 55
def Slack_i0g : Specs := [(at11_n, (true, specOf true at11_fs))]
def Slack_i0 (I : Inst) (x : List Int) (pot : List Int) : ISpec := inlI TT Slack_i0g (fun args hp nk => match args with
    | [y, c1, c2] => [(1, { G := Nat, inv := fun g => ⟨[(0, y), (1, c1), (2, c2), (9, .int .i64 I.arcs.length), (10, .int .i64 g)], hp, nk⟩, rel := fun _ g => g ≤ I.arcs.length ∧ ∀ j, j < g → slackK I x pot j = true, meas := fun g => I.arcs.length - g })]
    | _ => []) Try.f124
def Slack_I (I : Inst) (x : List Int) (pot : List Int) : List (Nat × ISpec) := [(124, Slack_i0 I x pot)]
def Slack_IA : List SV → Heap → List (Nat × ISpec) := fun args h => match args, h with
  | [.agg [.row 0, .row 1], .row 2, .row 3], [(0, .row false ty0 (.ints .i64 I_s)), (1, .row false ty1 (.arcs I_a)), (2, .row false ty2 (.ints .i64 x)), (3, .row false ty3 (.ints .i64 pot))] => Slack_I ⟨I_s, I_a⟩ x pot
  | _, _ => []
end Go.Proofs.Ytggblkbecekbdaa
