/-
  CONTRACTS, PROVED: RayAsks.
-/
import Derived.Test.YtnoocfcmlilffaaFS12
import Derived.Test.YtnoocfcmlilffaaDBRayAsks
import Derived.Test.YtnoocfcmlilffaaAid
set_option linter.unusedVariables false
set_option linter.all false
set_option linter.unusedSimpArgs false
set_option maxRecDepth 100000
namespace Go.Proofs.Ytnoocfcmlilffaa
open Go Go.RowKit Go.Ql Go.Vc

def RayAsks_E0 (I : Inst) (l : List Int) (x : List Int) (n : Int) (c : List Int) (d : List Int) (k : Int) (ty0 ty1 ty2 ty3 ty4 ty5 : TypeId) : Prop :=
      (I.sup.length ≤ (1000000000000000000 : Nat) ∧ I.arcs.length ≤ (1000000000000000000 : Nat)) ∧
 (decide ((↑I.sup.length : Int) + (2 : Int) * (↑I.arcs.length : Int) > (120 : Int)) = true → True ∧ (true = true ∧ True) ∧ True) ∧
 (decide ((↑I.sup.length : Int) + (2 : Int) * (↑I.arcs.length : Int) > (120 : Int)) = false →
 (decide (IntKind.i64.wrap ((↑l.length : Int) + (↑x.length : Int)) > (300 : Int)) = true → True ∧ (true = true ∧ True) ∧ True) ∧
 (decide (IntKind.i64.wrap ((↑l.length : Int) + (↑x.length : Int)) > (300 : Int)) = false →
 True ∧
 ((!true) = true → True ∧ (true = true ∧ True) ∧ True) ∧
 ((!true) = false →
 (Bytes c ∧ Bytes d ∧ c.length ≤ maxLen ∧ d.length ≤ maxLen) ∧
 ((1 : Nat) ≤ (roundL c d).length ∧ (roundL c d).length ≤ (1000000 : Nat) ∧ (0 : Int) ≤ k ∧ k ≤ (255 : Int)) ∧
 (A64c I.arcs ∧ l.length ≤ (1000000 : Nat) ∧ x.length ≤ (1000000 : Nat) ∧ A64 x ∧ I64 n) ∧
 (true = true →
 (A64c (roundI c d).arcs ∧ l.length ≤ (1000000 : Nat) ∧ x.length ≤ (1000000 : Nat) ∧ A64 x ∧ I64 n) ∧
 (true = true →
 (Bytes d ∧ (roundI c d).arcs.length ≤ (1000000 : Nat) ∧ L42 (roundI c d).arcs) ∧
 (A64c (roundI c d).arcs ∧
 (roundL c d).length ≤ (1000000 : Nat) ∧ (flowF (roundI c d) d).length ≤ (1000000 : Nat) ∧ A64 (flowF (roundI c d) d) ∧ I64 n) ∧
 (true = true →
 (Bytes d ∧ (roundI c d).arcs.length ≤ (1000000 : Nat) ∧ L42 (roundI c d).arcs) ∧
 (A64c (roundI c d).arcs ∧
 (round0F (roundL c d) k).length ≤ (1000000 : Nat) ∧
 (flowF (roundI c d) d).length ≤ (1000000 : Nat) ∧ A64 (flowF (roundI c d) d) ∧ I64 (IntKind.i64.wrap k)) ∧
 (true = true →
 (A64c I.arcs ∧ (roundL c d).length ≤ (1000000 : Nat) ∧ x.length ≤ (1000000 : Nat) ∧ A64 x ∧ I64 n) ∧ (true = true ∧ True) ∧ True) ∧
 (true = false → (false = true ∧ True) ∧ True)) ∧
 (true = false → (false = true ∧ True) ∧ True)) ∧
 (true = false → (false = true ∧ True) ∧ True)) ∧
 (true = false → (false = true ∧ True) ∧ True))))
theorem RayAsks_q (I : Inst) (l : List Int) (x : List Int) (n : Int) (c : List Int) (d : List Int) (k : Int) (ty0 ty1 ty2 ty3 ty4 ty5 : TypeId) : RayAsks_E0 I l x n c d k ty0 ty1 ty2 ty3 ty4 ty5 = FVcP TT RayAsks_g (RayAsks_I I l x n c d k) (RayAsks_an I l x n c d k) Try.f7 [.agg [.row 0, .row 1], .row 2, .row 3, .int .i64 n, .row 4, .row 5, .int .u8 k] [(0, .row false ty0 (.ints .i64 I.sup)), (1, .row false ty1 (.arcs I.arcs)), (2, .row false ty2 (.ints .i64 l)), (3, .row false ty3 (.ints .i64 x)), (4, .row false ty4 (.ints .u8 c)), (5, .row false ty5 (.ints .u8 d))] (RayAsks_r I l x n c d k) := by kernel_rfl
theorem RayAsks_E (I : Inst) (l : List Int) (x : List Int) (n : Int) (c : List Int) (d : List Int) (k : Int) (ty0 ty1 ty2 ty3 ty4 ty5 : TypeId) (hp : I.sup.length ≤ 140737488351232 ∧ I.arcs.length ≤ 140737488351232 ∧ l.length ≤ 140737488351232 ∧ x.length ≤ 140737488351232 ∧ A64 x ∧ A64c I.arcs ∧ I64 n ∧ 0 ≤ k ∧ k ≤ 255 ∧ Bytes c ∧ Bytes d ∧ c.length ≤ maxLen ∧ d.length ≤ maxLen) : FVc TT RayAsks_g (RayAsks_I I l x n c d k) (RayAsks_an I l x n c d k) Try.f7 [.agg [.row 0, .row 1], .row 2, .row 3, .int .i64 n, .row 4, .row 5, .int .u8 k] [(0, .row false ty0 (.ints .i64 I.sup)), (1, .row false ty1 (.arcs I.arcs)), (2, .row false ty2 (.ints .i64 l)), (3, .row false ty3 (.ints .i64 x)), (4, .row false ty4 (.ints .u8 c)), (5, .row false ty5 (.ints .u8 d))] (RayAsks_r I l x n c d k) := by
  refine FVc.of (RayAsks_E0 I l x n c d k ty0 ty1 ty2 ty3 ty4 ty5) (RayAsks_q I l x n c d k ty0 ty1 ty2 ty3 ty4 ty5) ?_
  unfold RayAsks_E0
  obtain ⟨p1, p2, p3, p4, p5, p6, p7, p8, p9, p10⟩ := hp
  have r1 := roundL_pos c d
  have r2 := roundL_le c d
  have r3 := roundI_len c d
  have r4 := instF_arcs c d
  have r5 := roundI_A64c c d
  have r6 := roundI_L42 c d
  have r7 := roundI_A64 c d d
  have r8 := flowF_len (roundI c d) d
  have r9 := round0F_len (roundL c d) k
  have wk : IntKind.i64.wrap k = k := w64 (by omega) (by omega)
  have ik : I64 k := by unfold I64; omega
  have wl : IntKind.i64.wrap ((l.length : Int) + (x.length : Int)) = (l.length : Int) + (x.length : Int) := w64 (by omega) (by omega)
  simp only [eq_self, exists_const, forall_const, decide_eq_true_eq, decide_eq_false_iff_not, and_true, true_and, bne_iff_ne, ne_eq, bne_eq_false_iff_eq, Int.toNat_natCast, Bool.not_eq_true', Bool.not_eq_false', beq_iff_eq, beq_eq_false_iff_ne, nilEq_true]
  simp only [wk, wl, false_implies, reduceCtorEq, Bool.true_eq_false, Bool.false_eq_true, implies_true, and_true, true_and]
  refine ⟨by omega, fun h1 h2 => ⟨p10, ⟨r1, by omega, p8, p9⟩, ⟨p6, by omega, by omega, p5, p7⟩, ⟨r5, by omega, by omega, p5, p7⟩, ⟨p10.2.1, by omega, r6⟩, ⟨r5, by omega, by omega, r7, p7⟩, ⟨p10.2.1, by omega, r6⟩, ⟨r5, by omega, by omega, r7, ik⟩, ⟨p6, by omega, by omega, p5, p7⟩⟩⟩

theorem RayAsks_ok : SpecOk Try.prog RayAsks_n true (specOf true RayAsks_fs) :=
  spec_ok' TT_ok (show GsOk Try.prog RayAsks_g from gsOk_cons Size_ok (gsOk_cons known12_ok (gsOk_cons Round_ok (gsOk_cons Round0_ok (gsOk_cons Flow_ok (gsOk_cons asks12_ok (gsOk_nil))))))) (by kernel_rfl) mixedOrders Try.func7 rfl rfl (by kernel_rfl) (n := 7) (by decide +kernel) (I := RayAsks_IA) (fun _ _ => isOk_nil) (A := RayAsks_A)
    (fun args h r hr => by
      unfold RayAsks_fs at hr
      split at hr
      · rename_i n k ty0 I_s ty1 I_a ty2 l ty3 x ty4 c ty5 d; cases hr; refine ⟨rfl, fun hp => ?_⟩; have hE := RayAsks_E ⟨I_s, I_a⟩ l x n c d k ty0 ty1 ty2 ty3 ty4 ty5 hp; exact hE
      · cases hr)

end Go.Proofs.Ytnoocfcmlilffaa
