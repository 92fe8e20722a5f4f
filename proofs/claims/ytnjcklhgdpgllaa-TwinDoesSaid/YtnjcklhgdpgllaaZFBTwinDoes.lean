/- Part of the proof, FBTwinDoes. -/
import Derived.Test.YtnjcklhgdpgllaaZFT16
import Derived.Test.YtnjcklhgdpgllaaZDBTwinDoes
import Derived.Test.YtnjcklhgdpgllaaZVc11
set_option linter.unusedVariables false
set_option linter.all false
set_option linter.unusedSimpArgs false
set_option maxRecDepth 100000
namespace Go.Proofs.Ytnjcklhgdpgllaa
open Go Go.RowKit Go.Ql Go.Vc
abbrev TwinDoes_a0 := (true = false → (false = true ∧ True) ∧ True)
abbrev TwinDoes_a1 (at_ : Int) (c : List Int) (d : List Int) := ((IntKind.i64.wrap at_).tmod (↑(alikeF c d).arcs.length : Int))
abbrev TwinDoes_a2 (c : List Int) (d : List Int) := ((alikeF c d).sup.length ≤ (1000000 : Nat) ∧ (alikeF c d).arcs.length ≤ (1000000 : Nat))
abbrev TwinDoes_a3 (at_ : Int) (c : List Int) (d : List Int) := ((0 : Int) ≤ (IntKind.i64.wrap at_).tmod (↑(alikeF c d).arcs.length : Int) ∧
 (IntKind.i64.wrap at_).tmod (↑(alikeF c d).arcs.length : Int) < (↑(alikeF c d).arcs.length : Int))
def TwinDoes_E0 (I : Inst) (c : List Int) (d : List Int) (at_ : Int) (n : Int) (ty0 ty1 ty2 ty3 : TypeId) : Prop :=
      (I.sup.length ≤ (1000000000000000000 : Nat) ∧ I.arcs.length ≤ (1000000000000000000 : Nat)) ∧
 (decide ((↑I.sup.length : Int) + (2 : Int) * (↑I.arcs.length : Int) > (120 : Int)) = true → True ∧ (true = true ∧ True) ∧ True) ∧
 (decide ((↑I.sup.length : Int) + (2 : Int) * (↑I.arcs.length : Int) > (120 : Int)) = false →
 True ∧
 ((!true) = true → True ∧ (true = true ∧ True) ∧ True) ∧
 ((!true) = false →
 (Bytes c ∧ Bytes d ∧ c.length ≤ maxLen ∧ d.length ≤ maxLen) ∧
 (Bytes c ∧ Bytes d ∧ c.length ≤ maxLen ∧ d.length ≤ maxLen) ∧
 (decide ((↑(alikeF c d).arcs.length : Int) > (0 : Int)) = true →
 (↑(alikeF c d).arcs.length : Int) ≠ (0 : Int) ∧
 (TwinDoes_a3 at_ c d) ∧
 (TwinDoes_a1 at_ c d).toNat < (alikeF c d).arcs.length ∧
 ∀ (x : Arc),
 (alikeF c d).arcs[(TwinDoes_a1 at_ c d).toNat]? = some x →
 (4398046511104 : Int) ≠ (0 : Int) ∧
 (4398046511104 : Int) ≠ (0 : Int) ∧
 (TwinDoes_a3 at_ c d) ∧
 (TwinDoes_a1 at_ c d).toNat < (alikeF c d).arcs.length ∧
 ∀ (x_1 : Arc),
 (alikeF c d).arcs[(TwinDoes_a1 at_ c d).toNat]? = some x_1 →
 (I.sup.length ≤ (1000000 : Nat) ∧ I.arcs.length ≤ (1000000 : Nat)) ∧
 (true = true →
 (TwinDoes_a2 c d) ∧
 (true = true →
 ((alikeF c d).sup.length ≤ (1000000 : Nat) ∧
 ((alikeF c d).arcs.set (TwinDoes_a1 at_ c d).toNat
 { src := x_1.src, dst := x_1.dst, low := x_1.low, cap := IntKind.i64.wrap (x.low + max (n.tmod (4398046511104 : Int)) (IntKind.i64.wrap ((0 : Int) - n.tmod (4398046511104 : Int)))), cost := x_1.cost : Arc }).length ≤
 (1000000 : Nat)) ∧
 (true = true →
 (Bytes c ∧ Bytes d ∧ c.length ≤ maxLen ∧ d.length ≤ maxLen) ∧
 ((instF c d).sup.length ≤ (1000000 : Nat) ∧ (instF c d).arcs.length ≤ (1000000 : Nat)) ∧
 (true = true ∧ True) ∧ True) ∧
 (TwinDoes_a0)) ∧
 (TwinDoes_a0)) ∧
 (TwinDoes_a0)) ∧
 (decide ((↑(alikeF c d).arcs.length : Int) > (0 : Int)) = false →
 (I.sup.length ≤ (1000000 : Nat) ∧ I.arcs.length ≤ (1000000 : Nat)) ∧
 (true = true →
 (TwinDoes_a2 c d) ∧
 (true = true →
 (TwinDoes_a2 c d) ∧
 (true = true →
 (Bytes c ∧ Bytes d ∧ c.length ≤ maxLen ∧ d.length ≤ maxLen) ∧
 ((instF c d).sup.length ≤ (1000000 : Nat) ∧ (instF c d).arcs.length ≤ (1000000 : Nat)) ∧ (true = true ∧ True) ∧ True) ∧
 (TwinDoes_a0)) ∧
 (TwinDoes_a0)) ∧
 (TwinDoes_a0))))
theorem TwinDoes_q (I : Inst) (c : List Int) (d : List Int) (at_ : Int) (n : Int) (ty0 ty1 ty2 ty3 : TypeId) : TwinDoes_E0 I c d at_ n ty0 ty1 ty2 ty3 = FVcP TT TwinDoes_g (TwinDoes_I I c d at_ n) (TwinDoes_an I c d at_ n) Try.f9 [.agg [.row 0, .row 1], .row 2, .row 3, .int .u8 at_, .int .i64 n] [(0, .row false ty0 (.ints .i64 I.sup)), (1, .row false ty1 (.arcs I.arcs)), (2, .row false ty2 (.ints .u8 c)), (3, .row false ty3 (.ints .u8 d))] (TwinDoes_r I c d at_ n) := by kernel_rfl
theorem TwinDoes_E (I : Inst) (c : List Int) (d : List Int) (at_ : Int) (n : Int) (ty0 ty1 ty2 ty3 : TypeId) (hp : I.sup.length ≤ 140737488351232 ∧ I.arcs.length ≤ 140737488351232 ∧ Bytes c ∧ Bytes d ∧ c.length ≤ maxLen ∧ d.length ≤ maxLen ∧ 0 ≤ at_ ∧ at_ ≤ 255) : FVc TT TwinDoes_g (TwinDoes_I I c d at_ n) (TwinDoes_an I c d at_ n) Try.f9 [.agg [.row 0, .row 1], .row 2, .row 3, .int .u8 at_, .int .i64 n] [(0, .row false ty0 (.ints .i64 I.sup)), (1, .row false ty1 (.arcs I.arcs)), (2, .row false ty2 (.ints .u8 c)), (3, .row false ty3 (.ints .u8 d))] (TwinDoes_r I c d at_ n) := by
  refine FVc.of (TwinDoes_E0 I c d at_ n ty0 ty1 ty2 ty3) (TwinDoes_q I c d at_ n ty0 ty1 ty2 ty3) ?_
  unfold TwinDoes_E0
  delta TwinDoes_a3 TwinDoes_a2 TwinDoes_a1 TwinDoes_a0
  obtain ⟨p1, p2, b1, b2, b3, b4, a1, a2⟩ := hp
  obtain ⟨o1, o2, o3, o4, o5⟩ := alikeF_all c d
  have n3 := right_small (instF_right c d)
  have n4 := right_small o1
  generalize alikeF c d = J at *
  have hw : IntKind.i64.wrap at_ = at_ := w64 (by omega) (by omega)
  have hj : J.arcs.length ≠ 0 → 0 ≤ at_.tmod (J.arcs.length : Int) ∧ at_.tmod (J.arcs.length : Int) < J.arcs.length := fun h => ⟨Int.tmod_nonneg _ a1, Int.tmod_lt_of_pos _ (by omega)⟩
  rw [hw]
  simp only [List.length_set]
  simp only [eq_self, exists_const, forall_const, decide_eq_true_eq, decide_eq_false_iff_not, and_true, true_and, bne_iff_ne, ne_eq, bne_eq_false_iff_eq, Int.toNat_natCast, Bool.not_eq_true', Bool.not_eq_false', beq_iff_eq, beq_eq_false_iff_ne, nilEq_true]
  repeat' first | omega | assumption | trivial | refine And.intro ?_ ?_ | intro _ | contradiction
theorem TwinDoes_ok : SpecOk Try.prog TwinDoes_n true (specOf true TwinDoes_fs) :=
  spec_ok' TT_ok (show GsOk Try.prog TwinDoes_g from gsOk_cons Size_ok (gsOk_cons known16_ok (gsOk_cons Alike_ok (gsOk_cons does16_ok (gsOk_cons Inst_ok (gsOk_nil)))))) (by kernel_rfl) mixedOrders Try.func9 rfl rfl (by kernel_rfl) (n := 5) (by decide +kernel) (I := TwinDoes_IA) (fun _ _ => isOk_nil) (A := TwinDoes_A)
    (fun args h r hr => by
      unfold TwinDoes_fs at hr
      split at hr
      · rename_i at_ n ty0 I_s ty1 I_a ty2 c ty3 d; cases hr; refine ⟨rfl, fun hp => ?_⟩; have hE := TwinDoes_E ⟨I_s, I_a⟩ c d at_ n ty0 ty1 ty2 ty3 hp; exact hE
      · cases hr)
end Go.Proofs.Ytnjcklhgdpgllaa
