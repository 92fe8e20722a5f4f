/- Part of the proof, FBTwinSides. -/
import Derived.Test.YtnjcklhgdpgllaaZFT16
import Derived.Test.YtnjcklhgdpgllaaZFC10
import Derived.Test.YtnjcklhgdpgllaaZDBTwinSides
import Derived.Test.YtnjcklhgdpgllaaZVc11
set_option linter.unusedVariables false
set_option linter.all false
set_option linter.unusedSimpArgs false
set_option maxRecDepth 100000
namespace Go.Proofs.Ytnjcklhgdpgllaa
open Go Go.RowKit Go.Ql Go.Vc
def TwinSides_E0 (c : List Int) (d : List Int) (e : List Int) (ty0 ty1 ty2 : TypeId) : Prop :=
      (Bytes c ∧ Bytes d ∧ c.length ≤ maxLen ∧ d.length ≤ maxLen) ∧
 ((alikeF c d).sup.length ≤ (1000000 : Nat) ∧ (alikeF c d).arcs.length ≤ (1000000 : Nat)) ∧
 (Bytes e ∧ (↑(alikeF c d).sup.length : Int) ≤ (1000000 : Int)) ∧
 (A64a (alikeF c d).arcs ∧ (alikeF c d).arcs.length ≤ (140737488351232 : Nat)) ∧
 (A64a (twinS (alikeF c d)).fst.inst.arcs ∧ (twinS (alikeF c d)).fst.inst.arcs.length ≤ (140737488351232 : Nat)) ∧
 True ∧
 (true = true →
 (((twinS (alikeF c d)).snd == (0 : Int)) = true →
 (((roomC (alikeF c d) (marksF e (↑(alikeF c d).sup.length : Int).toNat)).isSome ==
 (roomC (twinS (alikeF c d)).fst.inst (marksF e (↑(alikeF c d).sup.length : Int).toNat)).isSome) =
 true →
 (decide
 ([(roomW (roomC (alikeF c d) (marksF e (↑(alikeF c d).sup.length : Int).toNat))).hi,
 (roomW (roomC (alikeF c d) (marksF e (↑(alikeF c d).sup.length : Int).toNat))).lo] =
 [(roomW (roomC (twinS (alikeF c d)).fst.inst (marksF e (↑(alikeF c d).sup.length : Int).toNat))).hi,
 (roomW (roomC (twinS (alikeF c d)).fst.inst (marksF e (↑(alikeF c d).sup.length : Int).toNat))).lo]) =
 true →
 (A64 (alikeF c d).sup ∧ (alikeF c d).sup.length ≤ (140737488351232 : Nat)) ∧
 (A64 (twinS (alikeF c d)).fst.inst.sup ∧ (twinS (alikeF c d)).fst.inst.sup.length ≤ (140737488351232 : Nat)) ∧
 (decide
 ([(W (needF (alikeF c d) (marksF e (↑(alikeF c d).sup.length : Int).toNat))).hi,
 (W (needF (alikeF c d) (marksF e (↑(alikeF c d).sup.length : Int).toNat))).lo] =
 [(W (needF (twinS (alikeF c d)).fst.inst (marksF e (↑(alikeF c d).sup.length : Int).toNat))).hi,
 (W (needF (twinS (alikeF c d)).fst.inst (marksF e (↑(alikeF c d).sup.length : Int).toNat))).lo]) =
 true ∧
 True) ∧
 True) ∧
 (decide
 ([(roomW (roomC (alikeF c d) (marksF e (↑(alikeF c d).sup.length : Int).toNat))).hi,
 (roomW (roomC (alikeF c d) (marksF e (↑(alikeF c d).sup.length : Int).toNat))).lo] =
 [(roomW (roomC (twinS (alikeF c d)).fst.inst (marksF e (↑(alikeF c d).sup.length : Int).toNat))).hi,
 (roomW (roomC (twinS (alikeF c d)).fst.inst (marksF e (↑(alikeF c d).sup.length : Int).toNat))).lo]) =
 false →
 (false = true ∧ True) ∧ True)) ∧
 (((roomC (alikeF c d) (marksF e (↑(alikeF c d).sup.length : Int).toNat)).isSome ==
 (roomC (twinS (alikeF c d)).fst.inst (marksF e (↑(alikeF c d).sup.length : Int).toNat)).isSome) =
 false →
 (false = true ∧ True) ∧ True)) ∧
 (((twinS (alikeF c d)).snd == (0 : Int)) = false → (false = true ∧ True) ∧ True)) ∧
 (true = false → (false = true ∧ True) ∧ True)
theorem TwinSides_q (c : List Int) (d : List Int) (e : List Int) (ty0 ty1 ty2 : TypeId) : TwinSides_E0 c d e ty0 ty1 ty2 = FVcP TT TwinSides_g (TwinSides_I c d e) (TwinSides_an c d e) Try.f13 [.row 0, .row 1, .row 2] [(0, .row false ty0 (.ints .u8 c)), (1, .row false ty1 (.ints .u8 d)), (2, .row false ty2 (.ints .u8 e))] (TwinSides_r c d e) := by kernel_rfl
theorem TwinSides_E (c : List Int) (d : List Int) (e : List Int) (ty0 ty1 ty2 : TypeId) (hp : Bytes c ∧ Bytes d ∧ c.length ≤ maxLen ∧ d.length ≤ maxLen ∧ Bytes e ∧ e.length ≤ maxLen) : FVc TT TwinSides_g (TwinSides_I c d e) (TwinSides_an c d e) Try.f13 [.row 0, .row 1, .row 2] [(0, .row false ty0 (.ints .u8 c)), (1, .row false ty1 (.ints .u8 d)), (2, .row false ty2 (.ints .u8 e))] (TwinSides_r c d e) := by
  refine FVc.of (TwinSides_E0 c d e ty0 ty1 ty2) (TwinSides_q c d e ty0 ty1 ty2) ?_
  unfold TwinSides_E0
  obtain ⟨b1, b2, b3, b4, b5, b6⟩ := hp
  obtain ⟨o1, o2, o3, o4, o5⟩ := alikeF_all c d
  generalize alikeF c d = J at *
  have hT := twin_right o1 o4 o3 o5
  obtain ⟨t1, t2, t3, t4⟩ := twinS_eq o1 hT
  have ts : (twinI J).sup = J.sup := by rw [twinI_eq o1]
  have tr := twin_room o1 o4 o3 (marksF e J.sup.length)
  have tn : needF (twinI J) (marksF e J.sup.length) = needF J (marksF e J.sup.length) := by unfold needF; rw [ts]
  have r1 := right_small o1
  have r2 := right_small hT
  have q1 := right_A64 o1
  have q2 := right_A64 hT
  rw [t1, t2]
  simp only [Int.toNat_natCast, tr, tn, ts]
  simp only [eq_self, exists_const, forall_const, decide_eq_true_eq, decide_eq_false_iff_not, and_true, true_and, bne_iff_ne, ne_eq, bne_eq_false_iff_eq, Int.toNat_natCast, Bool.not_eq_true', Bool.not_eq_false', beq_iff_eq, beq_eq_false_iff_ne, nilEq_true]
  refine ⟨⟨b1, b2, b3, b4⟩, ⟨by omega, by omega⟩, ⟨b5, by omega⟩, ⟨q1.1, by omega⟩, ⟨q2.1, by omega⟩, ?_⟩
  repeat' first | trivial | exact ⟨q1.2.2.1, by omega⟩ | refine And.intro ?_ ?_ | intro _ | contradiction
theorem TwinSides_ok : SpecOk Try.prog TwinSides_n true (specOf true TwinSides_fs) :=
  spec_ok' TT_ok (show GsOk Try.prog TwinSides_g from gsOk_cons Alike_ok (gsOk_cons known16_ok (gsOk_cons Twin_ok (gsOk_cons Marks_ok (gsOk_cons CRoom_ok (gsOk_cons Need_ok (gsOk_nil))))))) (by kernel_rfl) mixedOrders Try.func13 rfl rfl (by kernel_rfl) (n := 3) (by decide +kernel) (I := TwinSides_IA) (fun _ _ => isOk_nil) (A := TwinSides_A)
    (fun args h r hr => by
      unfold TwinSides_fs at hr
      split at hr
      · rename_i ty0 c ty1 d ty2 e; cases hr; refine ⟨rfl, fun hp => ?_⟩; have hE := TwinSides_E c d e ty0 ty1 ty2 hp; exact hE
      · cases hr)
end Go.Proofs.Ytnjcklhgdpgllaa
