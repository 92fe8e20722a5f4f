/-
  CONTRACTS, PROVED: PriceAsks.
-/
import Derived.Test.YtnjcklhgdpgllaaFQ11
import Derived.Test.YtnjcklhgdpgllaaDBPriceAsks
import Derived.Test.YtnjcklhgdpgllaaVc11
set_option linter.unusedVariables false
set_option linter.all false
set_option linter.unusedSimpArgs false
set_option maxRecDepth 100000
namespace Go.Proofs.Ytnjcklhgdpgllaa
open Go Go.RowKit Go.Ql Go.Vc

def PriceAsks_E0 (I : Inst) (x : List Int) (pot : List Int) (a : Int) (n : Int) (c : List Int) (d : List Int) (e : List Int) (ty0 ty1 ty2 ty3 ty4 ty5 ty6 : TypeId) : Prop :=
      (I.sup.length ≤ (1000000000000000000 : Nat) ∧ I.arcs.length ≤ (1000000000000000000 : Nat)) ∧
 (decide ((↑I.sup.length : Int) + (2 : Int) * (↑I.arcs.length : Int) > (120 : Int)) = true → True ∧ (true = true ∧ True) ∧ True) ∧
 (decide ((↑I.sup.length : Int) + (2 : Int) * (↑I.arcs.length : Int) > (120 : Int)) = false →
 (decide (IntKind.i64.wrap ((↑x.length : Int) + (↑pot.length : Int)) > (300 : Int)) = true → True ∧ (true = true ∧ True) ∧ True) ∧
 (decide (IntKind.i64.wrap ((↑x.length : Int) + (↑pot.length : Int)) > (300 : Int)) = false →
 True ∧
 ((!true) = true → True ∧ (true = true ∧ True) ∧ True) ∧
 ((!true) = false →
 (Bytes c ∧ Bytes d ∧ c.length ≤ maxLen ∧ d.length ≤ maxLen) ∧
 (A64 pot ∧ I64 n ∧ pot.length ≤ (1000000 : Nat)) ∧
 (A64 pot ∧ I64 n ∧ pot.length ≤ (1000000 : Nat)) ∧
 (((shiftF n [] pot).isSome == (shiftF n [] pot).isSome) = true →
 ((shiftF n [] pot).getD []).length ≤ (1000000000 : Nat) ∧
 (decide ((shiftF n [] pot).getD [] = (shiftF n [] pot).getD []) = true →
 (I.sup.length ≤ (10000 : Nat) ∧ I.arcs.length ≤ (10000 : Nat) ∧ A64 x ∧ A64 I.sup ∧ A64 pot ∧ A64c I.arcs ∧ A64a I.arcs) ∧
 (true = true →
 ((instF c d).sup.length ≤ (10000 : Nat) ∧
 (instF c d).arcs.length ≤ (10000 : Nat) ∧ A64 x ∧ A64 (instF c d).sup ∧ A64 pot ∧ A64c (instF c d).arcs ∧ A64a (instF c d).arcs) ∧
 (true = true →
 (Bytes d ∧ (instF c d).arcs.length ≤ (1000000 : Nat) ∧ L42 (instF c d).arcs) ∧
 (Bytes e ∧ e.length ≤ maxLen ∧ (0 : Int) ≤ (↑(instF c d).sup.length : Int) ∧ (↑(instF c d).sup.length : Int) ≤ (1000000 : Int)) ∧
 ((instF c d).sup.length ≤ (10000 : Nat) ∧
 (instF c d).arcs.length ≤ (10000 : Nat) ∧
 A64 (flowF (instF c d) d) ∧
 A64 (instF c d).sup ∧ A64 (potF e (↑(instF c d).sup.length : Int).toNat) ∧ A64c (instF c d).arcs ∧ A64a (instF c d).arcs) ∧
 (true = true →
 (Bytes e ∧ e.length ≤ maxLen ∧ (0 : Int) ≤ (9 : Int) ∧ (9 : Int) ≤ (1000000 : Int)) ∧
 (I.sup.length ≤ (10000 : Nat) ∧
 I.arcs.length ≤ (10000 : Nat) ∧ A64 x ∧ A64 I.sup ∧ A64 (potF e (Int.toNat (9 : Int))) ∧ A64c I.arcs ∧ A64a I.arcs) ∧
 (true = true ∧ True) ∧ True) ∧
 (true = false → (false = true ∧ True) ∧ True)) ∧
 (true = false → (false = true ∧ True) ∧ True)) ∧
 (true = false → (false = true ∧ True) ∧ True)) ∧
 (decide ((shiftF n [] pot).getD [] = (shiftF n [] pot).getD []) = false → (false = true ∧ True) ∧ True)) ∧
 (((shiftF n [] pot).isSome == (shiftF n [] pot).isSome) = false → (false = true ∧ True) ∧ True))))
theorem PriceAsks_q (I : Inst) (x : List Int) (pot : List Int) (a : Int) (n : Int) (c : List Int) (d : List Int) (e : List Int) (ty0 ty1 ty2 ty3 ty4 ty5 ty6 : TypeId) : PriceAsks_E0 I x pot a n c d e ty0 ty1 ty2 ty3 ty4 ty5 ty6 = FVcP TT PriceAsks_g (PriceAsks_I I x pot a n c d e) (PriceAsks_an I x pot a n c d e) Try.f6 [.agg [.row 0, .row 1], .row 2, .row 3, .int .i64 a, .int .i64 n, .row 4, .row 5, .row 6] [(0, .row false ty0 (.ints .i64 I.sup)), (1, .row false ty1 (.arcs I.arcs)), (2, .row false ty2 (.ints .i64 x)), (3, .row false ty3 (.ints .i64 pot)), (4, .row false ty4 (.ints .u8 c)), (5, .row false ty5 (.ints .u8 d)), (6, .row false ty6 (.ints .u8 e))] (PriceAsks_r I x pot a n c d e) := by kernel_rfl
theorem PriceAsks_E (I : Inst) (x : List Int) (pot : List Int) (a : Int) (n : Int) (c : List Int) (d : List Int) (e : List Int) (ty0 ty1 ty2 ty3 ty4 ty5 ty6 : TypeId) (hp : I.sup.length ≤ 140737488351232 ∧ I.arcs.length ≤ 140737488351232 ∧ x.length ≤ 140737488351232 ∧ pot.length ≤ 140737488351232 ∧ A64 x ∧ A64 I.sup ∧ A64 pot ∧ A64c I.arcs ∧ A64a I.arcs ∧ I64 n ∧ Bytes c ∧ Bytes d ∧ c.length ≤ maxLen ∧ d.length ≤ maxLen ∧ Bytes e ∧ e.length ≤ maxLen) : FVc TT PriceAsks_g (PriceAsks_I I x pot a n c d e) (PriceAsks_an I x pot a n c d e) Try.f6 [.agg [.row 0, .row 1], .row 2, .row 3, .int .i64 a, .int .i64 n, .row 4, .row 5, .row 6] [(0, .row false ty0 (.ints .i64 I.sup)), (1, .row false ty1 (.arcs I.arcs)), (2, .row false ty2 (.ints .i64 x)), (3, .row false ty3 (.ints .i64 pot)), (4, .row false ty4 (.ints .u8 c)), (5, .row false ty5 (.ints .u8 d)), (6, .row false ty6 (.ints .u8 e))] (PriceAsks_r I x pot a n c d e) := by
  refine FVc.of (PriceAsks_E0 I x pot a n c d e ty0 ty1 ty2 ty3 ty4 ty5 ty6) (PriceAsks_q I x pot a n c d e ty0 ty1 ty2 ty3 ty4 ty5 ty6) ?_
  unfold PriceAsks_E0
  obtain ⟨p1, p2, p3, p4, p5, p6, p7, p8, p9, p10, p11, p12, p13, p14, p15, p16⟩ := hp
  have l1 := instF_sup c d
  have l2 := nOf_pos d
  have l3 := nOf_le d
  have l4 := instF_arcs c d
  have q1 := instF_A64 c d
  have q2 := instF_A64a c d
  have q3 := instF_A64c c d
  have q4 := instF_L42 c d
  have q5 := flowF_A64 c d d
  have q6 := flowF_len (instF c d) d
  have q7 := flowF_mem c d d
  simp only [eq_self, exists_const, forall_const, decide_eq_true_eq, decide_eq_false_iff_not, and_true, true_and, bne_iff_ne, ne_eq, bne_eq_false_iff_eq, Int.toNat_natCast, Bool.not_eq_true', Bool.not_eq_false', beq_iff_eq, beq_eq_false_iff_ne, nilEq_true]
  simp only [false_implies, reduceCtorEq, Bool.not_true, Bool.true_eq_false, Bool.false_eq_true, implies_true, and_true, true_and]
  have q8 := potF_A64 e (instF c d).sup.length
  have q9 := potF_A64 e 9
  have hs : x.length + pot.length ≤ 300 → ((shiftF n [] pot).getD []).length ≤ 1000000000 := fun h => by
    rw [shiftF_iff]
    split
    · simp; omega
    · simp
  have wl : IntKind.i64.wrap ((x.length : Int) + (pot.length : Int)) = (x.length : Int) + (pot.length : Int) := w64 (by omega) (by omega)
  rw [wl]
  refine ⟨by omega, fun h1 h2 => ?_⟩
  exact ⟨⟨p11, p12, p13, p14⟩, ⟨p7, p10, by omega⟩, ⟨p7, p10, by omega⟩, ⟨hs (by omega), ⟨⟨by omega, by omega, p5, p6, p7, p8, p9⟩, ⟨by omega, by omega, p5, q1, p7, q3, q2⟩, ⟨p12, by omega, q4⟩, ⟨p15, p16, by omega, by omega⟩, ⟨by omega, by omega, q5, q1, q8, q3, q2⟩, ⟨p15, p16, by omega, by omega⟩, by omega, by omega, p5, p6, q9, p8, p9⟩, fun h => h trivial⟩, fun h => h trivial⟩

theorem PriceAsks_ok : SpecOk Try.prog PriceAsks_n true (specOf true PriceAsks_fs) :=
  spec_ok' TT_ok (show GsOk Try.prog PriceAsks_g from gsOk_cons Size_ok (gsOk_cons known11_ok (gsOk_cons Inst_ok (gsOk_cons Shift_ok (gsOk_cons rShift_ok (gsOk_cons Nums_ok (gsOk_cons asks11_ok (gsOk_cons Flow_ok (gsOk_cons Pot_ok (gsOk_nil)))))))))) (by kernel_rfl) mixedOrders Try.func6 rfl rfl (by kernel_rfl) (n := 8) (by decide +kernel) (I := PriceAsks_IA) (fun _ _ => isOk_nil) (A := PriceAsks_A)
    (fun args h r hr => by
      unfold PriceAsks_fs at hr
      split at hr
      · rename_i a n ty0 I_s ty1 I_a ty2 x ty3 pot ty4 c ty5 d ty6 e; cases hr; refine ⟨rfl, fun hp => ?_⟩; have hE := PriceAsks_E ⟨I_s, I_a⟩ x pot a n c d e ty0 ty1 ty2 ty3 ty4 ty5 ty6 hp; exact hE
      · cases hr)

end Go.Proofs.Ytnjcklhgdpgllaa
