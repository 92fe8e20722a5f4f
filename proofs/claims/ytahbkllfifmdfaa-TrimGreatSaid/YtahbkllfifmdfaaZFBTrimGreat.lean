/- Part of the proof, FBTrimGreat. -/
import Derived.Test.YtahbkllfifmdfaaZFV15
import Derived.Test.YtahbkllfifmdfaaZDBTrimGreat
import Derived.Test.YtahbkllfifmdfaaZVc11
set_option linter.unusedVariables false
set_option linter.all false
set_option linter.unusedSimpArgs false
set_option maxRecDepth 100000
namespace Go.Proofs.Ytahbkllfifmdfaa
open Go Go.RowKit Go.Ql Go.Vc
abbrev TrimGreat_a0 (c : List Int) (d : List Int) (e : List Int) (at_ : Int) (x : Arc) (n : Int) := ((oddF c d e).arcs.set ((IntKind.i64.wrap at_).tmod (↑(oddF c d e).arcs.length : Int)).toNat
 { src := x.src, dst := x.dst, low := max (n.tmod (4398046511105 : Int)) (IntKind.i64.wrap ((0 : Int) - n.tmod (4398046511105 : Int))), cap := x.cap, cost := x.cost : Arc })
abbrev TrimGreat_a1 (c : List Int) (d : List Int) (e : List Int) (at_ : Int) (x : Int) (n : Int) := ((oddF c d e).sup.set ((IntKind.i64.wrap at_).tmod (↑(oddF c d e).sup.length : Int)).toNat
 (IntKind.i64.wrap (x + n.tmod (4398046511105 : Int))))
abbrev TrimGreat_a2 (at_ : Int) (c : List Int) (d : List Int) (e : List Int) := ((0 : Int) ≤ (IntKind.i64.wrap at_).tmod (↑(oddF c d e).arcs.length : Int) ∧
 (IntKind.i64.wrap at_).tmod (↑(oddF c d e).arcs.length : Int) < (↑(oddF c d e).arcs.length : Int))
abbrev TrimGreat_a3 (at_ : Int) (c : List Int) (d : List Int) (e : List Int) := ((0 : Int) ≤ (IntKind.i64.wrap at_).tmod (↑(oddF c d e).sup.length : Int) ∧
 (IntKind.i64.wrap at_).tmod (↑(oddF c d e).sup.length : Int) < (↑(oddF c d e).sup.length : Int))
abbrev TrimGreat_a4 (at_ : Int) (c : List Int) (d : List Int) (e : List Int) := ((IntKind.i64.wrap at_).tmod (↑(oddF c d e).arcs.length : Int))
abbrev TrimGreat_a5 := (true = false → (false = true ∧ True) ∧ True)
abbrev TrimGreat_a6 (at_ : Int) (c : List Int) (d : List Int) (e : List Int) := ((IntKind.i64.wrap at_).tmod (↑(oddF c d e).sup.length : Int))
abbrev TrimGreat_a7 (k : Int) (c : List Int) (d : List Int) (e : List Int) (at_ : Int) (x : Int) (n : Int) (x_1 : Int) := (true = true →
 ((0 : Int) ≤ k ∧
 k ≤ (255 : Int) ∧
 ((TrimGreat_a1 c d e at_ x n).set
 (Int.toNat (0 : Int)) (IntKind.i64.wrap (x_1 - n.tmod (4398046511105 : Int)))).length ≤
 (1000000 : Nat) ∧
 (oddF c d e).arcs.length ≤ (1000000 : Nat)) ∧
 (true = true ∧ True) ∧ True)
def TrimGreat_E0 (k : Int) (c : List Int) (d : List Int) (e : List Int) (at_ : Int) (f : Int) (n : Int) (ty0 ty1 ty2 : TypeId) : Prop :=
      (Bytes c ∧ Bytes d ∧ c.length ≤ maxLen ∧ d.length ≤ maxLen ∧ Bytes e ∧ e.length ≤ maxLen) ∧
 (4398046511105 : Int) ≠ (0 : Int) ∧
 (↑(oddF c d e).sup.length : Int) ≠ (0 : Int) ∧
 (4 : Int) ≠ (0 : Int) ∧
 ((f.tmod (4 : Int) == (0 : Int)) = true →
 (TrimGreat_a3 at_ c d e) ∧
 (TrimGreat_a6 at_ c d e).toNat < (oddF c d e).sup.length ∧
 ∀ (x : Int),
 (oddF c d e).sup[(TrimGreat_a6 at_ c d e).toNat]? = some x →
 (TrimGreat_a3 at_ c d e) ∧
 (TrimGreat_a6 at_ c d e).toNat < (oddF c d e).sup.length ∧
 ((0 : Int) ≤ (0 : Int) ∧
 (0 : Int) <
 (↑(TrimGreat_a1 c d e at_ x n).length :
 Int)) ∧
 Int.toNat (0 : Int) <
 (TrimGreat_a1 c d e at_ x n).length ∧
 ∀ (x_1 : Int),
 (TrimGreat_a1 c d e at_ x n)[Int.toNat (0 : Int)]? =
 some x_1 →
 ((0 : Int) ≤ (0 : Int) ∧
 (0 : Int) <
 (↑(TrimGreat_a1 c d e at_ x n).length :
 Int)) ∧
 Int.toNat (0 : Int) <
 (TrimGreat_a1 c d e at_ x n).length ∧
 True ∧
 (TrimGreat_a7 k c d e at_ x n x_1) ∧
 (TrimGreat_a5)) ∧
 ((f.tmod (4 : Int) == (0 : Int)) = false →
 (((↑(oddF c d e).arcs.length : Int) == (0 : Int)) = true →
 (TrimGreat_a3 at_ c d e) ∧
 (TrimGreat_a6 at_ c d e).toNat < (oddF c d e).sup.length ∧
 ∀ (x : Int),
 (oddF c d e).sup[(TrimGreat_a6 at_ c d e).toNat]? = some x →
 (TrimGreat_a3 at_ c d e) ∧
 (TrimGreat_a6 at_ c d e).toNat < (oddF c d e).sup.length ∧
 ((0 : Int) ≤ (0 : Int) ∧
 (0 : Int) <
 (↑(TrimGreat_a1 c d e at_ x n).length :
 Int)) ∧
 Int.toNat (0 : Int) <
 (TrimGreat_a1 c d e at_ x n).length ∧
 ∀ (x_1 : Int),
 (TrimGreat_a1 c d e at_ x n)[Int.toNat (0 : Int)]? =
 some x_1 →
 ((0 : Int) ≤ (0 : Int) ∧
 (0 : Int) <
 (↑(TrimGreat_a1 c d e at_ x n).length :
 Int)) ∧
 Int.toNat (0 : Int) <
 (TrimGreat_a1 c d e at_ x n).length ∧
 True ∧
 (TrimGreat_a7 k c d e at_ x n x_1) ∧
 (TrimGreat_a5)) ∧
 (((↑(oddF c d e).arcs.length : Int) == (0 : Int)) = false →
 (4 : Int) ≠ (0 : Int) ∧
 ((f.tmod (4 : Int) == (1 : Int)) = true →
 (↑(oddF c d e).arcs.length : Int) ≠ (0 : Int) ∧
 (TrimGreat_a2 at_ c d e) ∧
 (TrimGreat_a4 at_ c d e).toNat < (oddF c d e).arcs.length ∧
 ∀ (x : Arc),
 (oddF c d e).arcs[(TrimGreat_a4 at_ c d e).toNat]? = some x →
 True ∧
 (true = true →
 ((0 : Int) ≤ k ∧
 k ≤ (255 : Int) ∧
 (oddF c d e).sup.length ≤ (1000000 : Nat) ∧
 ((oddF c d e).arcs.set (TrimGreat_a4 at_ c d e).toNat
 { src := x.src, dst := x.dst, low := x.low, cap := x.cap, cost := n.tmod (4398046511105 : Int) : Arc }).length ≤
 (1000000 : Nat)) ∧
 (true = true ∧ True) ∧ True) ∧
 (TrimGreat_a5)) ∧
 ((f.tmod (4 : Int) == (1 : Int)) = false →
 (4 : Int) ≠ (0 : Int) ∧
 ((f.tmod (4 : Int) == (2 : Int)) = true →
 (↑(oddF c d e).arcs.length : Int) ≠ (0 : Int) ∧
 (TrimGreat_a2 at_ c d e) ∧
 (TrimGreat_a4 at_ c d e).toNat < (oddF c d e).arcs.length ∧
 ∀ (x : Arc),
 (oddF c d e).arcs[(TrimGreat_a4 at_ c d e).toNat]? = some x →
 (↑(TrimGreat_a0 c d e at_ x n).length :
 Int) ≠
 (0 : Int) ∧
 ((0 : Int) ≤
 (IntKind.i64.wrap at_).tmod
 (↑(TrimGreat_a0 c d e at_ x n).length :
 Int) ∧
 (IntKind.i64.wrap at_).tmod
 (↑(TrimGreat_a0 c d e at_ x n).length :
 Int) <
 (↑(TrimGreat_a0 c d e at_ x n).length :
 Int)) ∧
 ((IntKind.i64.wrap at_).tmod
 (↑(TrimGreat_a0 c d e at_ x n).length :
 Int)).toNat <
 (TrimGreat_a0 c d e at_ x n).length ∧
 ∀ (x_1 : Arc),
 (TrimGreat_a0 c d e at_ x n)[((IntKind.i64.wrap at_).tmod
 (↑(TrimGreat_a0 c d e at_ x n).length :
 Int)).toNat]? =
 some x_1 →
 True ∧
 (true = true →
 ((0 : Int) ≤ k ∧
 k ≤ (255 : Int) ∧
 (oddF c d e).sup.length ≤ (1000000 : Nat) ∧
 ((TrimGreat_a0 c d e at_ x n).set
 ((IntKind.i64.wrap at_).tmod
 (↑(TrimGreat_a0 c d e at_ x n).length :
 Int)).toNat
 { src := x_1.src, dst := x_1.dst, low := x_1.low, cap := (4398046511104 : Int), cost := x_1.cost : Arc }).length ≤
 (1000000 : Nat)) ∧
 (true = true ∧ True) ∧ True) ∧
 (TrimGreat_a5)) ∧
 ((f.tmod (4 : Int) == (2 : Int)) = false →
 (↑(oddF c d e).arcs.length : Int) ≠ (0 : Int) ∧
 (↑(oddF c d e).arcs.length : Int) ≠ (0 : Int) ∧
 (TrimGreat_a2 at_ c d e) ∧
 (TrimGreat_a4 at_ c d e).toNat < (oddF c d e).arcs.length ∧
 ∀ (x : Arc),
 (oddF c d e).arcs[(TrimGreat_a4 at_ c d e).toNat]? = some x →
 (TrimGreat_a2 at_ c d e) ∧
 (TrimGreat_a4 at_ c d e).toNat < (oddF c d e).arcs.length ∧
 ∀ (x_1 : Arc),
 (oddF c d e).arcs[(TrimGreat_a4 at_ c d e).toNat]? = some x_1 →
 True ∧
 (true = true →
 ((0 : Int) ≤ k ∧
 k ≤ (255 : Int) ∧
 (oddF c d e).sup.length ≤ (1000000 : Nat) ∧
 ((oddF c d e).arcs.set (TrimGreat_a4 at_ c d e).toNat
 { src := x_1.src, dst := x_1.dst, low := x_1.low, cap := IntKind.i64.wrap (x.low + max (n.tmod (4398046511105 : Int)) (IntKind.i64.wrap ((0 : Int) - n.tmod (4398046511105 : Int)))), cost := x_1.cost : Arc }).length ≤
 (1000000 : Nat)) ∧
 (true = true ∧ True) ∧ True) ∧
 (TrimGreat_a5)))))
theorem TrimGreat_q (k : Int) (c : List Int) (d : List Int) (e : List Int) (at_ : Int) (f : Int) (n : Int) (ty0 ty1 ty2 : TypeId) : TrimGreat_E0 k c d e at_ f n ty0 ty1 ty2 = FVcP TT TrimGreat_g (TrimGreat_I k c d e at_ f n) (TrimGreat_an k c d e at_ f n) Try.f6 [.int .u8 k, .row 0, .row 1, .row 2, .int .u8 at_, .int .u8 f, .int .i64 n] [(0, .row false ty0 (.ints .u8 c)), (1, .row false ty1 (.ints .u8 d)), (2, .row false ty2 (.ints .u8 e))] (TrimGreat_r k c d e at_ f n) := by kernel_rfl
theorem TrimGreat_E (k : Int) (c : List Int) (d : List Int) (e : List Int) (at_ : Int) (f : Int) (n : Int) (ty0 ty1 ty2 : TypeId) (hp : 0 ≤ k ∧ k ≤ 255 ∧ Bytes c ∧ Bytes d ∧ c.length ≤ maxLen ∧ d.length ≤ maxLen ∧ Bytes e ∧ e.length ≤ maxLen ∧ 0 ≤ at_ ∧ at_ ≤ 255 ∧ 0 ≤ f ∧ f ≤ 255) : FVc TT TrimGreat_g (TrimGreat_I k c d e at_ f n) (TrimGreat_an k c d e at_ f n) Try.f6 [.int .u8 k, .row 0, .row 1, .row 2, .int .u8 at_, .int .u8 f, .int .i64 n] [(0, .row false ty0 (.ints .u8 c)), (1, .row false ty1 (.ints .u8 d)), (2, .row false ty2 (.ints .u8 e))] (TrimGreat_r k c d e at_ f n) := by
  refine FVc.of (TrimGreat_E0 k c d e at_ f n ty0 ty1 ty2) (TrimGreat_q k c d e at_ f n ty0 ty1 ty2) ?_
  unfold TrimGreat_E0
  delta TrimGreat_a7 TrimGreat_a6 TrimGreat_a5 TrimGreat_a4 TrimGreat_a3 TrimGreat_a2 TrimGreat_a1 TrimGreat_a0
  obtain ⟨k0, k1, b1, b2, b3, b4, b5, b6, a1, a2, f1, f2⟩ := hp
  obtain ⟨o1, o2, o3, o4, o5, o6⟩ := oddF_all c d e
  refine ⟨⟨b1, b2, b3, b4, b5, b6⟩, ?_⟩
  generalize oddF c d e = I at *
  have hw : IntKind.i64.wrap at_ = at_ := w64 (by omega) (by omega)
  have hi : 0 ≤ at_.tmod (I.sup.length : Int) ∧ at_.tmod (I.sup.length : Int) < I.sup.length := ⟨Int.tmod_nonneg _ a1, Int.tmod_lt_of_pos _ (by omega)⟩
  have hj : I.arcs.length ≠ 0 → 0 ≤ at_.tmod (I.arcs.length : Int) ∧ at_.tmod (I.arcs.length : Int) < I.arcs.length := fun h => ⟨Int.tmod_nonneg _ a1, Int.tmod_lt_of_pos _ (by omega)⟩
  rw [hw]
  simp only [List.length_set]
  simp only [eq_self, exists_const, forall_const, decide_eq_true_eq, decide_eq_false_iff_not, and_true, true_and, bne_iff_ne, ne_eq, bne_eq_false_iff_eq, Int.toNat_natCast, Bool.not_eq_true', Bool.not_eq_false', beq_iff_eq, beq_eq_false_iff_ne, nilEq_true]
  repeat' first | omega | refine And.intro ?_ ?_ | intro _ | contradiction
theorem TrimGreat_ok : SpecOk Try.prog TrimGreat_n true (specOf true TrimGreat_fs) :=
  spec_ok' TT_ok (show GsOk Try.prog TrimGreat_g from gsOk_cons Odd_ok (gsOk_cons known15_ok (gsOk_cons does15_ok (gsOk_nil)))) (by kernel_rfl) mixedOrders Try.func6 rfl rfl (by kernel_rfl) (n := 7) (by decide +kernel) (I := TrimGreat_IA) (fun _ _ => isOk_nil) (A := TrimGreat_A)
    (fun args h r hr => by
      unfold TrimGreat_fs at hr
      split at hr
      · rename_i k at_ f n ty0 c ty1 d ty2 e; cases hr; refine ⟨rfl, fun hp => ?_⟩; have hE := TrimGreat_E k c d e at_ f n ty0 ty1 ty2 hp; exact hE
      · cases hr)
end Go.Proofs.Ytahbkllfifmdfaa
