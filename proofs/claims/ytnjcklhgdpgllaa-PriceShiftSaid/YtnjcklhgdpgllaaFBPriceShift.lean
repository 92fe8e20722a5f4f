/-
  CONTRACTS, PROVED: PriceShift.
-/
import Derived.Test.YtnjcklhgdpgllaaFQ11
import Derived.Test.YtnjcklhgdpgllaaDBPriceShift
import Derived.Test.YtnjcklhgdpgllaaVc11
set_option linter.unusedVariables false
set_option linter.all false
set_option linter.unusedSimpArgs false
set_option maxRecDepth 100000
namespace Go.Proofs.Ytnjcklhgdpgllaa
open Go Go.RowKit Go.Ql Go.Vc

def PriceShift_E0 (c : List Int) (d : List Int) (e : List Int) (n : Int) (x : List Int) (ty0 ty1 ty2 ty3 : TypeId) : Prop :=
      (Bytes c ∧ Bytes d ∧ c.length ≤ maxLen ∧ d.length ≤ maxLen) ∧
 (Bytes e ∧ e.length ≤ maxLen ∧ (0 : Int) ≤ (↑(instF c d).sup.length : Int) ∧ (↑(instF c d).sup.length : Int) ≤ (1000000 : Int)) ∧
 (A64 (potF e (↑(instF c d).sup.length : Int).toNat) ∧ I64 (IntKind.i64.wrap n) ∧ (potF e (↑(instF c d).sup.length : Int).toNat).length ≤ (1000000 : Nat)) ∧
 ((!(shiftF (IntKind.i64.wrap n) [] (potF e (↑(instF c d).sup.length : Int).toNat)).isSome) = true → (false = true ∧ True) ∧ True) ∧
 ((!(shiftF (IntKind.i64.wrap n) [] (potF e (↑(instF c d).sup.length : Int).toNat)).isSome) = false →
 (((↑((shiftF (IntKind.i64.wrap n) [] (potF e (↑(instF c d).sup.length : Int).toNat)).getD []).length : Int) !=
 (↑(potF e (↑(instF c d).sup.length : Int).toNat).length : Int)) =
 true →
 (false = true ∧ True) ∧ True) ∧
 (((↑((shiftF (IntKind.i64.wrap n) [] (potF e (↑(instF c d).sup.length : Int).toNat)).getD []).length : Int) !=
 (↑(potF e (↑(instF c d).sup.length : Int).toNat).length : Int)) =
 false →
 ∃ (g0 : Nat),
 (g0 ≤ (instF c d).arcs.length ∧
 (n = n ∧ True ∧ (0 : Nat) = (0 : Nat) ∧ True ∧ True ∧ (0 : Int) = (↑g0 : Int) ∧ True) ∧
 (shiftF (IntKind.i64.wrap n) [] (potF e (↑(instF c d).sup.length : Int).toNat)).getD [] =
 (shiftF (IntKind.i64.wrap n) [] (potF e (↑(instF c d).sup.length : Int).toNat)).getD [] ∧
 potF e (↑(instF c d).sup.length : Int).toNat = potF e (↑(instF c d).sup.length : Int).toNat ∧
 (True ∧ True ∧ True) ∧ (instF c d).sup = (instF c d).sup ∧ (instF c d).arcs = (instF c d).arcs ∧ x = x ∧ True) ∧
 ∀ (g : Nat),
 g ≤ (instF c d).arcs.length →
 (decide ((↑g : Int) < (↑(instF c d).arcs.length : Int)) = true →
 (A64 (potF e (↑(instF c d).sup.length : Int).toNat) ∧ A64c (instF c d).arcs) ∧
 (A64 ((shiftF (IntKind.i64.wrap n) [] (potF e (↑(instF c d).sup.length : Int).toNat)).getD []) ∧ A64c (instF c d).arcs) ∧
 ((!decide
 ([(W (redF (instF c d) (potF e (↑(instF c d).sup.length : Int).toNat) (↑g : Int))).hi,
 (W (redF (instF c d) (potF e (↑(instF c d).sup.length : Int).toNat) (↑g : Int))).lo] =
 [(W (redF (instF c d) ((shiftF (IntKind.i64.wrap n) [] (potF e (↑(instF c d).sup.length : Int).toNat)).getD []) (↑g : Int))).hi,
 (W (redF (instF c d) ((shiftF (IntKind.i64.wrap n) [] (potF e (↑(instF c d).sup.length : Int).toNat)).getD []) (↑g : Int))).lo])) =
 true →
 (false = true ∧ True) ∧ True) ∧
 ((!decide
 ([(W (redF (instF c d) (potF e (↑(instF c d).sup.length : Int).toNat) (↑g : Int))).hi,
 (W (redF (instF c d) (potF e (↑(instF c d).sup.length : Int).toNat) (↑g : Int))).lo] =
 [(W (redF (instF c d) ((shiftF (IntKind.i64.wrap n) [] (potF e (↑(instF c d).sup.length : Int).toNat)).getD []) (↑g : Int))).hi,
 (W (redF (instF c d) ((shiftF (IntKind.i64.wrap n) [] (potF e (↑(instF c d).sup.length : Int).toNat)).getD []) (↑g : Int))).lo])) =
 false →
 ∃ (g' : Nat),
 g' ≤ (instF c d).arcs.length ∧
 (instF c d).arcs.length - g' < (instF c d).arcs.length - g ∧
 (n = n ∧ True ∧ (0 : Nat) = (0 : Nat) ∧ True ∧ True ∧ IntKind.i64.wrap ((↑g : Int) + (1 : Int)) = (↑g' : Int) ∧ True) ∧
 (shiftF (IntKind.i64.wrap n) [] (potF e (↑(instF c d).sup.length : Int).toNat)).getD [] =
 (shiftF (IntKind.i64.wrap n) [] (potF e (↑(instF c d).sup.length : Int).toNat)).getD [] ∧
 potF e (↑(instF c d).sup.length : Int).toNat = potF e (↑(instF c d).sup.length : Int).toNat ∧
 (True ∧ True ∧ True) ∧ (instF c d).sup = (instF c d).sup ∧ (instF c d).arcs = (instF c d).arcs ∧ x = x ∧ True)) ∧
 (decide ((↑g : Int) < (↑(instF c d).arcs.length : Int)) = false →
 ((instF c d).sup.length ≤ (140737488351232 : Nat) ∧
 (instF c d).arcs.length ≤ (140737488351232 : Nat) ∧
 A64 (instF c d).sup ∧ A64a (instF c d).arcs ∧ A64c (instF c d).arcs ∧ A64 (potF e (↑(instF c d).sup.length : Int).toNat)) ∧
 ((instF c d).sup.length ≤ (140737488351232 : Nat) ∧
 (instF c d).arcs.length ≤ (140737488351232 : Nat) ∧
 A64 (instF c d).sup ∧
 A64a (instF c d).arcs ∧ A64c (instF c d).arcs ∧ A64 ((shiftF (IntKind.i64.wrap n) [] (potF e (↑(instF c d).sup.length : Int).toNat)).getD [])) ∧
 (A64 ((shiftF (IntKind.i64.wrap n) [] (potF e (↑(instF c d).sup.length : Int).toNat)).getD []) ∧
 I64 (IntKind.i64.wrap ((0 : Int) - IntKind.i64.wrap n)) ∧
 ((shiftF (IntKind.i64.wrap n) [] (potF e (↑(instF c d).sup.length : Int).toNat)).getD []).length ≤ (1000000 : Nat)) ∧
 True ∧
 (true = true →
 (decide
 ([(boundW (boundF (instF c d) (potF e (↑(instF c d).sup.length : Int).toNat))).hi,
 (boundW (boundF (instF c d) (potF e (↑(instF c d).sup.length : Int).toNat))).lo] =
 [(boundW (boundF (instF c d) ((shiftF (IntKind.i64.wrap n) [] (potF e (↑(instF c d).sup.length : Int).toNat)).getD []))).hi,
 (boundW (boundF (instF c d) ((shiftF (IntKind.i64.wrap n) [] (potF e (↑(instF c d).sup.length : Int).toNat)).getD []))).lo]) =
 true →
 (((boundF (instF c d) (potF e (↑(instF c d).sup.length : Int).toNat)).isSome ==
 (boundF (instF c d) ((shiftF (IntKind.i64.wrap n) [] (potF e (↑(instF c d).sup.length : Int).toNat)).getD [])).isSome) =
 true →
 ((instF c d).sup.length ≤ (10000 : Nat) ∧
 (instF c d).arcs.length ≤ (10000 : Nat) ∧
 A64 x ∧ A64 (instF c d).sup ∧ A64 (potF e (↑(instF c d).sup.length : Int).toNat) ∧ A64c (instF c d).arcs) ∧
 ((instF c d).sup.length ≤ (10000 : Nat) ∧
 (instF c d).arcs.length ≤ (10000 : Nat) ∧
 A64 x ∧
 A64 (instF c d).sup ∧
 A64 ((shiftF (IntKind.i64.wrap n) [] (potF e (↑(instF c d).sup.length : Int).toNat)).getD []) ∧ A64c (instF c d).arcs) ∧
 ((slackF (instF c d) x (potF e (↑(instF c d).sup.length : Int).toNat) ==
 slackF (instF c d) x ((shiftF (IntKind.i64.wrap n) [] (potF e (↑(instF c d).sup.length : Int).toNat)).getD [])) =
 true →
 ((shiftF (IntKind.i64.wrap ((0 : Int) - IntKind.i64.wrap n)) []
 ((shiftF (IntKind.i64.wrap n) [] (potF e (↑(instF c d).sup.length : Int).toNat)).getD [])).getD
 []).length ≤
 (1000000000 : Nat) ∧
 (decide
 ((shiftF (IntKind.i64.wrap ((0 : Int) - IntKind.i64.wrap n)) []
 ((shiftF (IntKind.i64.wrap n) [] (potF e (↑(instF c d).sup.length : Int).toNat)).getD [])).getD
 [] =
 potF e (↑(instF c d).sup.length : Int).toNat) =
 true ∧
 True) ∧
 True) ∧
 ((slackF (instF c d) x (potF e (↑(instF c d).sup.length : Int).toNat) ==
 slackF (instF c d) x ((shiftF (IntKind.i64.wrap n) [] (potF e (↑(instF c d).sup.length : Int).toNat)).getD [])) =
 false →
 (false = true ∧ True) ∧ True)) ∧
 (((boundF (instF c d) (potF e (↑(instF c d).sup.length : Int).toNat)).isSome ==
 (boundF (instF c d) ((shiftF (IntKind.i64.wrap n) [] (potF e (↑(instF c d).sup.length : Int).toNat)).getD [])).isSome) =
 false →
 (false = true ∧ True) ∧ True)) ∧
 (decide
 ([(boundW (boundF (instF c d) (potF e (↑(instF c d).sup.length : Int).toNat))).hi,
 (boundW (boundF (instF c d) (potF e (↑(instF c d).sup.length : Int).toNat))).lo] =
 [(boundW (boundF (instF c d) ((shiftF (IntKind.i64.wrap n) [] (potF e (↑(instF c d).sup.length : Int).toNat)).getD []))).hi,
 (boundW (boundF (instF c d) ((shiftF (IntKind.i64.wrap n) [] (potF e (↑(instF c d).sup.length : Int).toNat)).getD []))).lo]) =
 false →
 (false = true ∧ True) ∧ True)) ∧
 (true = false → (false = true ∧ True) ∧ True))))
theorem PriceShift_q (c : List Int) (d : List Int) (e : List Int) (n : Int) (x : List Int) (ty0 ty1 ty2 ty3 : TypeId) : PriceShift_E0 c d e n x ty0 ty1 ty2 ty3 = FVcP TT PriceShift_g (PriceShift_I c d e n x) (PriceShift_an c d e n x) Try.f7 [.row 0, .row 1, .row 2, .int .i32 n, .row 3] [(0, .row false ty0 (.ints .u8 c)), (1, .row false ty1 (.ints .u8 d)), (2, .row false ty2 (.ints .u8 e)), (3, .row false ty3 (.ints .i64 x))] (PriceShift_r c d e n x) := by kernel_rfl
theorem PriceShift_E (c : List Int) (d : List Int) (e : List Int) (n : Int) (x : List Int) (ty0 ty1 ty2 ty3 : TypeId) (hp : Bytes c ∧ Bytes d ∧ c.length ≤ maxLen ∧ d.length ≤ maxLen ∧ Bytes e ∧ e.length ≤ maxLen ∧ -2147483648 ≤ n ∧ n ≤ 2147483647 ∧ A64 x) : FVc TT PriceShift_g (PriceShift_I c d e n x) (PriceShift_an c d e n x) Try.f7 [.row 0, .row 1, .row 2, .int .i32 n, .row 3] [(0, .row false ty0 (.ints .u8 c)), (1, .row false ty1 (.ints .u8 d)), (2, .row false ty2 (.ints .u8 e)), (3, .row false ty3 (.ints .i64 x))] (PriceShift_r c d e n x) := by
  refine FVc.of (PriceShift_E0 c d e n x ty0 ty1 ty2 ty3) (PriceShift_q c d e n x ty0 ty1 ty2 ty3) ?_
  unfold PriceShift_E0
  obtain ⟨p1, p2, p3, p4, p5, p6, p7, p8, p9⟩ := hp
  have l1 := instF_sup c d
  have l2 := nOf_pos d
  have l3 := nOf_le d
  have l4 := instF_arcs c d
  have q1 := instF_A64 c d
  have q2 := instF_A64a c d
  have q3 := instF_A64c c d
  have q4 := instF_L42 c d
  have q5 := flowF_A64 c d d
  have q6 := flowF_len (instF c d) d
  have q7 := flowF_mem c d d
  have q8 := potF_A64 e (instF c d).sup.length
  have hl := potF_len e (instF c d).sup.length
  have hm : ∀ p ∈ potF e (instF c d).sup.length, -8 ≤ p ∧ p ≤ 16 := fun p hp => potF_mem hp
  have hz := instF_sum c d
  have wn : IntKind.i64.wrap n = n := w64 (by omega) (by omega)
  have w2 : IntKind.i64.wrap (0 - n) = -n := by rw [w64 (by omega) (by omega)]; omega
  simp only [eq_self, exists_const, forall_const, decide_eq_true_eq, decide_eq_false_iff_not, and_true, true_and, bne_iff_ne, ne_eq, bne_eq_false_iff_eq, Int.toNat_natCast, Bool.not_eq_true', Bool.not_eq_false', beq_iff_eq, beq_eq_false_iff_ne, nilEq_true]
  simp only [false_implies, reduceCtorEq, Bool.not_true, Bool.true_eq_false, Bool.false_eq_true, implies_true, and_true, true_and]
  generalize potF e (instF c d).sup.length = P at *
  have hs : shiftF n [] P = some (P.map (· + n)) := shift_all fun p hp => by have := hm p hp; unfold I64; omega
  have hA : A64 (P.map (· + n)) := fun p hp => by
    obtain ⟨q, hq, rfl⟩ := List.mem_map.1 hp
    have := hm q hq; unfold I64; omega
  have hb : shiftF (-n) [] (P.map (· + n)) = some P := by
    rw [shift_all (fun p hp => by
      obtain ⟨q, hq, rfl⟩ := List.mem_map.1 hp
      have := hm q hq; unfold I64; omega), List.map_map]
    congr 1
    rw [show ((fun x : Int => x + -n) ∘ (fun x : Int => x + n)) = id from funext fun p => by show p + n + -n = p; omega, List.map_id]
  have i1 : I64 n := by unfold I64; omega
  have i2 : I64 (-n) := by unfold I64; omega
  simp only [wn, w2, hs, Option.getD_some, Option.isSome_some, redF_shift hl, bound_shift hl hz, slack_shift hl, List.length_map, hb]
  refine ⟨⟨p1, p2, p3, p4⟩, ⟨p5, p6, by omega, by omega⟩, ⟨q8, i1, by omega⟩, ?_⟩
  simp [q8, q3, hA, q1, q2, i2, p9]
  exact ⟨⟨0, by omega, rfl⟩, fun g hg => ⟨fun h => ⟨g + 1, by omega, by omega, by rw [w64 (by omega) (by omega)]; omega⟩, fun _ => by omega⟩⟩

theorem PriceShift_ok : SpecOk Try.prog PriceShift_n true (specOf true PriceShift_fs) :=
  spec_ok' TT_ok (show GsOk Try.prog PriceShift_g from gsOk_cons known11_ok (gsOk_cons Inst_ok (gsOk_cons Pot_ok (gsOk_cons Shift_ok (gsOk_cons Reduced_ok (gsOk_cons Bound_ok (gsOk_cons Slack_ok (gsOk_cons Nums_ok (gsOk_nil))))))))) (by kernel_rfl) mixedOrders Try.func7 rfl rfl (by kernel_rfl) (n := 5) (by decide +kernel) (I := PriceShift_IA) (fun _ _ => isOk_nil) (A := PriceShift_A)
    (fun args h r hr => by
      unfold PriceShift_fs at hr
      split at hr
      · rename_i n ty0 c ty1 d ty2 e ty3 x; cases hr; refine ⟨rfl, fun hp => ?_⟩; have hE := PriceShift_E c d e n x ty0 ty1 ty2 ty3 hp; exact hE
      · cases hr)

end Go.Proofs.Ytnjcklhgdpgllaa
