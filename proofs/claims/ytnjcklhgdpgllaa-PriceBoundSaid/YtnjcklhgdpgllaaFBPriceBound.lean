/-
  CONTRACTS, PROVED: PriceBound.
-/
import Derived.Test.YtnjcklhgdpgllaaFQ11
import Derived.Test.YtnjcklhgdpgllaaDBPriceBound
import Derived.Test.YtnjcklhgdpgllaaVc11
set_option linter.unusedVariables false
set_option linter.all false
set_option linter.unusedSimpArgs false
set_option maxRecDepth 100000
namespace Go.Proofs.Ytnjcklhgdpgllaa
open Go Go.RowKit Go.Ql Go.Vc

def PriceBound_E0 (c : List Int) (d : List Int) (e : List Int) (pot : List Int) (x : List Int) (ty0 ty1 ty2 ty3 ty4 : TypeId) : Prop :=
      (Bytes c ∧ Bytes d ∧ c.length ≤ maxLen ∧ d.length ≤ maxLen) ∧
 (decide ((↑pot.length : Int) > (40 : Int)) = true → True ∧ (true = true ∧ True) ∧ True) ∧
 (decide ((↑pot.length : Int) > (40 : Int)) = false →
 ((↑(instF c d).sup.length : Int) = (↑(instF c d).sup.length : Int) ∧ (0 : Int) ≤ (↑(instF c d).sup.length : Int) ∧ (↑(instF c d).sup.length : Int) ≤ (1000000000 : Int)) ∧
 (Bytes d ∧ (instF c d).arcs.length ≤ (1000000 : Nat) ∧ L42 (instF c d).arcs) ∧
 True ∧
 (true = true →
 (rightF (instF c d) = (0 : Int) ∧
 A64 x ∧
 A64 (instF c d).sup ∧
 Within (4398046511104 : Int) (instF c d).sup ∧
 A64
 (List.take (List.replicate (↑(instF c d).sup.length : Int).toNat (0 : Int)).length pot ++
 List.drop pot.length (List.replicate (↑(instF c d).sup.length : Int).toNat (0 : Int))) ∧
 A64c (instF c d).arcs ∧
 A64a (instF c d).arcs ∧
 (List.take (List.replicate (↑(instF c d).sup.length : Int).toNat (0 : Int)).length pot ++
 List.drop pot.length (List.replicate (↑(instF c d).sup.length : Int).toNat (0 : Int))).length =
 (instF c d).sup.length) ∧
 (true = true →
 (rightF (instF c d) = (0 : Int) ∧
 A64 (flowF (instF c d) d) ∧
 A64 (instF c d).sup ∧
 Within (4398046511104 : Int) (instF c d).sup ∧
 A64
 (List.take (List.replicate (↑(instF c d).sup.length : Int).toNat (0 : Int)).length pot ++
 List.drop pot.length (List.replicate (↑(instF c d).sup.length : Int).toNat (0 : Int))) ∧
 A64c (instF c d).arcs ∧
 A64a (instF c d).arcs ∧
 (List.take (List.replicate (↑(instF c d).sup.length : Int).toNat (0 : Int)).length pot ++
 List.drop pot.length (List.replicate (↑(instF c d).sup.length : Int).toNat (0 : Int))).length =
 (instF c d).sup.length) ∧
 (true = true →
 (Bytes e ∧ e.length ≤ maxLen ∧ (0 : Int) ≤ (↑(instF c d).sup.length : Int) ∧ (↑(instF c d).sup.length : Int) ≤ (1000000 : Int)) ∧
 (rightF (instF c d) = (0 : Int) ∧
 A64 (flowF (instF c d) d) ∧
 A64 (instF c d).sup ∧
 Within (4398046511104 : Int) (instF c d).sup ∧
 A64 (potF e (↑(instF c d).sup.length : Int).toNat) ∧
 A64c (instF c d).arcs ∧ A64a (instF c d).arcs ∧ (potF e (↑(instF c d).sup.length : Int).toNat).length = (instF c d).sup.length) ∧
 (true = true ∧ True) ∧ True) ∧
 (true = false → (false = true ∧ True) ∧ True)) ∧
 (true = false → (false = true ∧ True) ∧ True)) ∧
 (true = false → (false = true ∧ True) ∧ True))
theorem PriceBound_q (c : List Int) (d : List Int) (e : List Int) (pot : List Int) (x : List Int) (ty0 ty1 ty2 ty3 ty4 : TypeId) : PriceBound_E0 c d e pot x ty0 ty1 ty2 ty3 ty4 = FVcP TT PriceBound_g (PriceBound_I c d e pot x) (PriceBound_an c d e pot x) Try.f4 [.row 0, .row 1, .row 2, .row 3, .row 4] [(0, .row false ty0 (.ints .u8 c)), (1, .row false ty1 (.ints .u8 d)), (2, .row false ty2 (.ints .u8 e)), (3, .row false ty3 (.ints .i64 pot)), (4, .row false ty4 (.ints .i64 x))] (PriceBound_r c d e pot x) := by kernel_rfl
theorem PriceBound_E (c : List Int) (d : List Int) (e : List Int) (pot : List Int) (x : List Int) (ty0 ty1 ty2 ty3 ty4 : TypeId) (hp : Bytes c ∧ Bytes d ∧ c.length ≤ maxLen ∧ d.length ≤ maxLen ∧ Bytes e ∧ e.length ≤ maxLen ∧ A64 pot ∧ A64 x) : FVc TT PriceBound_g (PriceBound_I c d e pot x) (PriceBound_an c d e pot x) Try.f4 [.row 0, .row 1, .row 2, .row 3, .row 4] [(0, .row false ty0 (.ints .u8 c)), (1, .row false ty1 (.ints .u8 d)), (2, .row false ty2 (.ints .u8 e)), (3, .row false ty3 (.ints .i64 pot)), (4, .row false ty4 (.ints .i64 x))] (PriceBound_r c d e pot x) := by
  refine FVc.of (PriceBound_E0 c d e pot x ty0 ty1 ty2 ty3 ty4) (PriceBound_q c d e pot x ty0 ty1 ty2 ty3 ty4) ?_
  unfold PriceBound_E0
  obtain ⟨p1, p2, p3, p4, p5, p6, p7, p8⟩ := hp
  have l1 := instF_sup c d
  have l2 := nOf_pos d
  have l3 := nOf_le d
  have l4 := instF_arcs c d
  have q1 := instF_A64 c d
  have q2 := instF_A64a c d
  have q3 := instF_A64c c d
  have q4 := instF_L42 c d
  have q5 := flowF_A64 c d d
  have q6 := flowF_len (instF c d) d
  have q7 := flowF_mem c d d
  simp only [eq_self, exists_const, forall_const, decide_eq_true_eq, decide_eq_false_iff_not, and_true, true_and, bne_iff_ne, ne_eq, bne_eq_false_iff_eq, Int.toNat_natCast, Bool.not_eq_true', Bool.not_eq_false', beq_iff_eq, beq_eq_false_iff_ne, nilEq_true]
  simp only [false_implies, reduceCtorEq, Bool.not_true, Bool.true_eq_false, Bool.false_eq_true, implies_true, and_true, true_and]
  have q8 := potF_A64 e (instF c d).sup.length
  have q9 := potF_len e (instF c d).sup.length
  have qr := instF_right c d
  have qw : Within 4398046511104 (instF c d).sup := (instF_within c d).more (by omega)
  have hA : A64 (List.take (List.replicate (instF c d).sup.length (0 : Int)).length pot ++ List.drop pot.length (List.replicate (instF c d).sup.length (0 : Int))) := fun p hp => by
    rcases List.mem_append.1 hp with h | h
    · exact p7 p (List.mem_of_mem_take h)
    · have := List.eq_of_mem_replicate (List.mem_of_mem_drop h)
      subst this; simp [I64]
  have hL : (List.take (List.replicate (instF c d).sup.length (0 : Int)).length pot ++ List.drop pot.length (List.replicate (instF c d).sup.length (0 : Int))).length = (instF c d).sup.length := by
    rw [List.length_append, List.length_take, List.length_drop, List.length_replicate]; omega
  exact ⟨⟨p1, p2, p3, p4⟩, fun h => ⟨by omega, ⟨p2, by omega, q4⟩, ⟨qr, p8, q1, qw, hA, q3, q2, hL⟩, ⟨qr, q5, q1, qw, hA, q3, q2, hL⟩, ⟨p5, p6, by omega, by omega⟩, qr, q5, q1, qw, q8, q3, q2, q9⟩⟩

theorem PriceBound_ok : SpecOk Try.prog PriceBound_n true (specOf true PriceBound_fs) :=
  spec_ok' TT_ok (show GsOk Try.prog PriceBound_g from gsOk_cons known11_ok (gsOk_cons Inst_ok (gsOk_cons bound11_ok (gsOk_cons Flow_ok (gsOk_cons Pot_ok (gsOk_nil)))))) (by kernel_rfl) mixedOrders Try.func4 rfl rfl (by kernel_rfl) (n := 5) (by decide +kernel) (I := PriceBound_IA) (fun _ _ => isOk_nil) (A := PriceBound_A)
    (fun args h r hr => by
      unfold PriceBound_fs at hr
      split at hr
      · rename_i ty0 c ty1 d ty2 e ty3 pot ty4 x; cases hr; refine ⟨rfl, fun hp => ?_⟩; have hE := PriceBound_E c d e pot x ty0 ty1 ty2 ty3 ty4 hp; exact hE
      · cases hr)

end Go.Proofs.Ytnjcklhgdpgllaa
