/-
  CONTRACTS, PROVED: CutSides.
-/
import Derived.Test.YtnoocfcmlilffaaFC10
import Derived.Test.YtnoocfcmlilffaaDBCutSides
import Derived.Test.YtnoocfcmlilffaaAid
set_option linter.unusedVariables false
set_option linter.all false
set_option linter.unusedSimpArgs false
set_option maxRecDepth 100000
namespace Go.Proofs.Ytnoocfcmlilffaa
open Go Go.RowKit Go.Ql Go.Vc

def CutSides_E0 (c : List Int) (d : List Int) (e : List Int) (ty0 ty1 ty2 : TypeId) : Prop :=
      (Bytes c ∧ Bytes d ∧ c.length ≤ maxLen ∧ d.length ≤ maxLen) ∧
        (Bytes e ∧ e.length ≤ maxLen ∧ (0 : Int) ≤ (↑(instF c d).sup.length : Int) ∧ (↑(instF c d).sup.length : Int) ≤ (1000000 : Int)) ∧
          True ∧
            (((↑(otherF (wholeF e (↑(instF c d).sup.length : Int).toNat) (keptN (↑(instF c d).sup.length : Int))).length : Int) != (↑(instF c d).sup.length : Int)) = true →
                (false = true ∧ True) ∧ True) ∧
              (((↑(otherF (wholeF e (↑(instF c d).sup.length : Int).toNat) (keptN (↑(instF c d).sup.length : Int))).length : Int) != (↑(instF c d).sup.length : Int)) = false →
                ∃ (g0 : Nat),
                  (g0 ≤ (instF c d).sup.length ∧
                      ((0 : Nat) = (0 : Nat) ∧ (↑(instF c d).sup.length : Int) = (↑(instF c d).sup.length : Int) ∧ True ∧ True ∧ (0 : Int) = (↑g0 : Int) ∧ True) ∧
                        otherF (wholeF e (↑(instF c d).sup.length : Int).toNat) (keptN (↑(instF c d).sup.length : Int)) =
                            otherF (wholeF e (↑(instF c d).sup.length : Int).toNat) (keptN (↑(instF c d).sup.length : Int)) ∧
                          wholeF e (↑(instF c d).sup.length : Int).toNat = wholeF e (↑(instF c d).sup.length : Int).toNat ∧
                            (True ∧ True ∧ True) ∧ (instF c d).sup = (instF c d).sup ∧ (instF c d).arcs = (instF c d).arcs ∧ True) ∧
                    ∀ (g : Nat),
                      g ≤ (instF c d).sup.length →
                        (decide ((↑g : Int) < (↑(instF c d).sup.length : Int)) = true →
                            ((0 : Int) ≤ (↑g : Int) ∧ (↑g : Int) < (↑(otherF (wholeF e (↑(instF c d).sup.length : Int).toNat) (keptN (↑(instF c d).sup.length : Int))).length : Int)) ∧
                              (↑g : Int).toNat < (otherF (wholeF e (↑(instF c d).sup.length : Int).toNat) (keptN (↑(instF c d).sup.length : Int))).length ∧
                                ∀ (x : Bool),
                                  (otherF (wholeF e (↑(instF c d).sup.length : Int).toNat) (keptN (↑(instF c d).sup.length : Int)))[(↑g : Int).toNat]? = some x →
                                    ((0 : Int) ≤ (↑g : Int) ∧ (↑g : Int) < (↑(wholeF e (↑(instF c d).sup.length : Int).toNat).length : Int)) ∧
                                      (↑g : Int).toNat < (wholeF e (↑(instF c d).sup.length : Int).toNat).length ∧
                                        ∀ (x_1 : Bool),
                                          (wholeF e (↑(instF c d).sup.length : Int).toNat)[(↑g : Int).toNat]? = some x_1 →
                                            ((x == x_1) = true → (false = true ∧ True) ∧ True) ∧
                                              ((x == x_1) = false →
                                                ∃ (g' : Nat),
                                                  g' ≤ (instF c d).sup.length ∧
                                                    (instF c d).sup.length - g' < (instF c d).sup.length - g ∧
                                                      ((0 : Nat) = (0 : Nat) ∧
                                                          (↑(instF c d).sup.length : Int) = (↑(instF c d).sup.length : Int) ∧
                                                            True ∧ True ∧ IntKind.i64.wrap ((↑g : Int) + (1 : Int)) = (↑g' : Int) ∧ True) ∧
                                                        otherF (wholeF e (↑(instF c d).sup.length : Int).toNat) (keptN (↑(instF c d).sup.length : Int)) =
                                                            otherF (wholeF e (↑(instF c d).sup.length : Int).toNat) (keptN (↑(instF c d).sup.length : Int)) ∧
                                                          wholeF e (↑(instF c d).sup.length : Int).toNat = wholeF e (↑(instF c d).sup.length : Int).toNat ∧
                                                            (True ∧ True ∧ True) ∧ (instF c d).sup = (instF c d).sup ∧ (instF c d).arcs = (instF c d).arcs ∧ True)) ∧
                          (decide ((↑g : Int) < (↑(instF c d).sup.length : Int)) = false →
                            True ∧
                              (true = true →
                                  (A64 (instF c d).sup ∧ (instF c d).sup.length ≤ (140737488351232 : Nat)) ∧
                                    (A64 (instF c d).sup ∧ (instF c d).sup.length ≤ (140737488351232 : Nat)) ∧
                                      ((W (needF (instF c d) (wholeF e (↑(instF c d).sup.length : Int).toNat))).ok ∧
                                          (W (needF (instF c d) (otherF (wholeF e (↑(instF c d).sup.length : Int).toNat) (keptN (↑(instF c d).sup.length : Int))))).ok) ∧
                                        I64 (0 : Int) ∧
                                          (decide
                                                  ([(wplus (W (needF (instF c d) (wholeF e (↑(instF c d).sup.length : Int).toNat)))
                                                          (W (needF (instF c d) (otherF (wholeF e (↑(instF c d).sup.length : Int).toNat) (keptN (↑(instF c d).sup.length : Int)))))).hi,
                                                      (wplus (W (needF (instF c d) (wholeF e (↑(instF c d).sup.length : Int).toNat)))
                                                          (W (needF (instF c d) (otherF (wholeF e (↑(instF c d).sup.length : Int).toNat) (keptN (↑(instF c d).sup.length : Int)))))).lo] =
                                                    [(W (0 : Int)).hi, (W (0 : Int)).lo]) =
                                                true →
                                              ((↑(instF c d).sup.length : Int) = (↑(instF c d).sup.length : Int) ∧
                                                  (0 : Int) ≤ (↑(instF c d).sup.length : Int) ∧ (↑(instF c d).sup.length : Int) ≤ (1000000000 : Int)) ∧
                                                (A64a (instF c d).arcs ∧
                                                    (instF c d).arcs.length ≤ (140737488351232 : Nat) ∧ A64 (instF c d).sup ∧ (instF c d).sup.length ≤ (140737488351232 : Nat)) ∧
                                                  ((provesF (instF c d) (List.replicate (↑(instF c d).sup.length : Int).toNat false) == (34 : Int)) = true →
                                                      True ∧
                                                        (A64a (instF c d).arcs ∧
                                                            (instF c d).arcs.length ≤ (140737488351232 : Nat) ∧ A64 (instF c d).sup ∧ (instF c d).sup.length ≤ (140737488351232 : Nat)) ∧
                                                          ((provesF (instF c d) (otherF [] (keptN (↑(instF c d).sup.length : Int))) == (34 : Int)) = true →
                                                              True ∧
                                                                (otherF (otherF (wholeF e (↑(instF c d).sup.length : Int).toNat) (keptN (↑(instF c d).sup.length : Int)))
                                                                        (keptN (↑(instF c d).sup.length : Int))).length ≤
                                                                    (1000000000 : Nat) ∧
                                                                  (decide
                                                                          (otherF (otherF (wholeF e (↑(instF c d).sup.length : Int).toNat) (keptN (↑(instF c d).sup.length : Int)))
                                                                              (keptN (↑(instF c d).sup.length : Int)) =
                                                                            wholeF e (↑(instF c d).sup.length : Int).toNat) =
                                                                        true →
                                                                      ((0 : Int) ≤ (0 : Int) ∧
                                                                          (0 : Int) ≤ IntKind.i64.wrap ((↑(instF c d).sup.length : Int) - (1 : Int)) ∧
                                                                            IntKind.i64.wrap ((↑(instF c d).sup.length : Int) - (1 : Int)) ≤
                                                                                (↑(wholeF e (↑(instF c d).sup.length : Int).toNat).length : Int) ∧
                                                                              (↑(wholeF e (↑(instF c d).sup.length : Int).toNat).length : Int) ≤
                                                                                (↑(wholeF e (↑(instF c d).sup.length : Int).toNat).length : Int)) ∧
                                                                        (A64a (instF c d).arcs ∧
                                                                            (instF c d).arcs.length ≤ (140737488351232 : Nat) ∧
                                                                              A64 (instF c d).sup ∧ (instF c d).sup.length ≤ (140737488351232 : Nat)) ∧
                                                                          ((provesF (instF c d)
                                                                                    (List.drop (0 : Nat)
                                                                                      (List.take (IntKind.i64.wrap ((↑(instF c d).sup.length : Int) - (1 : Int))).toNat
                                                                                        (wholeF e (↑(instF c d).sup.length : Int).toNat))) ==
                                                                                  (30 : Int)) =
                                                                                true ∧
                                                                              True) ∧
                                                                            True) ∧
                                                                    (decide
                                                                          (otherF (otherF (wholeF e (↑(instF c d).sup.length : Int).toNat) (keptN (↑(instF c d).sup.length : Int)))
                                                                              (keptN (↑(instF c d).sup.length : Int)) =
                                                                            wholeF e (↑(instF c d).sup.length : Int).toNat) =
                                                                        false →
                                                                      (false = true ∧ True) ∧ True)) ∧
                                                            ((provesF (instF c d) (otherF [] (keptN (↑(instF c d).sup.length : Int))) == (34 : Int)) = false →
                                                              (false = true ∧ True) ∧ True)) ∧
                                                    ((provesF (instF c d) (List.replicate (↑(instF c d).sup.length : Int).toNat false) == (34 : Int)) = false →
                                                      (false = true ∧ True) ∧ True)) ∧
                                            (decide
                                                  ([(wplus (W (needF (instF c d) (wholeF e (↑(instF c d).sup.length : Int).toNat)))
                                                          (W (needF (instF c d) (otherF (wholeF e (↑(instF c d).sup.length : Int).toNat) (keptN (↑(instF c d).sup.length : Int)))))).hi,
                                                      (wplus (W (needF (instF c d) (wholeF e (↑(instF c d).sup.length : Int).toNat)))
                                                          (W (needF (instF c d) (otherF (wholeF e (↑(instF c d).sup.length : Int).toNat) (keptN (↑(instF c d).sup.length : Int)))))).lo] =
                                                    [(W (0 : Int)).hi, (W (0 : Int)).lo]) =
                                                false →
                                              (false = true ∧ True) ∧ True)) ∧
                                (true = false → (false = true ∧ True) ∧ True)))
theorem CutSides_q (c : List Int) (d : List Int) (e : List Int) (ty0 ty1 ty2 : TypeId) : CutSides_E0 c d e ty0 ty1 ty2 = FVcP TT CutSides_g (CutSides_I c d e) (CutSides_an c d e) Try.f6 [.row 0, .row 1, .row 2] [(0, .row false ty0 (.ints .u8 c)), (1, .row false ty1 (.ints .u8 d)), (2, .row false ty2 (.ints .u8 e))] (CutSides_r c d e) := by kernel_rfl
theorem CutSides_E (c : List Int) (d : List Int) (e : List Int) (ty0 ty1 ty2 : TypeId) (hp : Bytes c ∧ Bytes d ∧ c.length ≤ maxLen ∧ d.length ≤ maxLen ∧ Bytes e ∧ e.length ≤ maxLen) : FVc TT CutSides_g (CutSides_I c d e) (CutSides_an c d e) Try.f6 [.row 0, .row 1, .row 2] [(0, .row false ty0 (.ints .u8 c)), (1, .row false ty1 (.ints .u8 d)), (2, .row false ty2 (.ints .u8 e))] (CutSides_r c d e) := by
  refine FVc.of (CutSides_E0 c d e ty0 ty1 ty2) (CutSides_q c d e ty0 ty1 ty2) ?_
  unfold CutSides_E0
  obtain ⟨p1, p2, p3, p4, p5, p6⟩ := hp
  have l1 := instF_sup c d
  have l2 := nOf_pos d
  have l3 := nOf_le d
  have l4 := instF_arcs c d
  have q1 := instF_A64 c d
  have q2 := instF_A64a c d
  have hr := instF_right c d
  have hsum := instF_sum c d
  have hk : keptN ((instF c d).sup.length : Int) = (instF c d).sup.length := by unfold keptN; omega
  obtain ⟨n, hn⟩ : ∃ n, (instF c d).sup.length = n := ⟨_, rfl⟩
  simp only [eq_self, exists_const, forall_const, decide_eq_true_eq, decide_eq_false_iff_not, and_true, true_and, bne_iff_ne, ne_eq, bne_eq_false_iff_eq, Int.toNat_natCast, Bool.not_eq_true', Bool.not_eq_false', beq_iff_eq, beq_eq_false_iff_ne, nilEq_true]
  have hk2 : keptN (n : Int) = n := by unfold keptN; omega
  simp only [hn, hk2]
  have hsd := wholeF_len e n
  have hso := otherF_len (wholeF e n) n
  have hgo : ∀ (s : List Bool) (k : Nat), k < n → (otherF s n).getD k false = !s.getD k false := fun s k hk => by simp [otherF, List.getD, hk]
  simp only [hsd, hso]
  have wn : IntKind.i64.wrap ((n : Int) - 1) = ((n - 1 : Nat) : Int) := by rw [w64 (by omega) (by omega)]; omega
  simp only [wn, Int.toNat_natCast]
  have hall : ∀ s : List Bool, s.length = n → (∀ k, k < n → s.getD k false = s.getD 0 false) → needF (instF c d) s = 0 → provesF (instF c d) s = 34 := fun s hs h0 h1 => by
    have hroom : roomC (instF c d) s = some 0 := roomAcc_none fun a ha => by
      have hN := instF_nice c d a ha
      have e1 := hN.s0; have e2 := hN.s1; have e3 := hN.d0; have e4 := hN.d1
      unfold outA inA onF
      rw [h0 a.src.toNat (by omega), h0 a.dst.toNat (by omega)]
      simp only [e1, e3, decide_true, Bool.true_and]
      cases s.getD 0 false <;> simp
    unfold provesF
    rw [hroom, h1, hs, hn, hr]
    simp [wcmp]
  have n0 : needF (instF c d) (List.replicate n false) = 0 := by
    unfold needF
    rw [needK_sumTo, sumTo_congr (g := fun _ => 0) (fun v hv => by simp [List.getD_eq_getElem?_getD, List.getElem?_replicate, show v < n by omega]), sumTo_zero]
  have n1 : needF (instF c d) (otherF [] n) = 0 := by
    unfold needF
    rw [needK_sumTo, sumTo_congr (g := fun v => (instF c d).sup.getD v 0) (fun v hv => by rw [hgo [] v (by omega)]; simp), ← sum_sumTo, hsum]
  have n2 : needF (instF c d) (wholeF e n) + needF (instF c d) (otherF (wholeF e n) n) = 0 := by
    unfold needF
    rw [need_other (fun k hk => hgo (wholeF e n) k (by omega)), hsum]
  have oo : otherF (otherF (wholeF e n) n) n = wholeF e n := by
    apply List.ext_getElem?
    intro k
    by_cases hk : k < n
    · have h1 := List.getElem?_eq_getElem (show k < (wholeF e n).length by omega)
      simp [otherF, hk, List.getD, h1]
    · rw [List.getElem?_eq_none (by rw [otherF_len]; omega), List.getElem?_eq_none (by omega)]
  have z1 : provesF (instF c d) (List.replicate n false) = 34 := hall _ (by simp) (fun k hk => by simp [List.getD_eq_getElem?_getD, List.getElem?_replicate, hk, show 0 < n by omega]) n0
  have z2 : provesF (instF c d) (otherF [] n) = 34 := hall _ (otherF_len _ _) (fun k hk => by rw [hgo [] k hk, hgo [] 0 (by omega)]; simp) n1
  have z3 : provesF (instF c d) ((wholeF e n).take (n - 1)) = 30 := by
    unfold provesF
    rw [hr, hn]
    have : ((wholeF e n).take (n - 1)).length = n - 1 := by rw [List.length_take, hsd]; omega
    simp only [ne_eq, not_true, if_false, this]
    rw [if_pos (by omega)]
  have i0 : I64 0 := by simp [I64]
  simp only [z1, z2, oo, List.drop_zero, z3, n2, wplus_W, hsd, hso, otherF_len]
  refine ⟨⟨p1, p2, p3, p4⟩, ⟨p5, p6, by omega, by omega⟩, fun h => by simp at h, fun _ => ⟨0, ⟨by omega, rfl⟩, fun g hg => ⟨fun h1 => ⟨by omega, by omega, fun x hx => ⟨by omega, by omega, fun y hy => ⟨fun h2 => ?_, fun h2 => ⟨g + 1, by omega, by omega, by rw [w64 (by omega) (by omega)]; omega⟩⟩⟩⟩, fun h1 => ?_⟩⟩⟩
  · subst h2
    have h3 := hgo (wholeF e n) g (by omega)
    simp [List.getD, hx, hy] at h3
  · simp [q1, q2, W_ok, i0]
    omega

theorem CutSides_ok : SpecOk Try.prog CutSides_n true (specOf true CutSides_fs) :=
  spec_ok' TT_ok (show GsOk Try.prog CutSides_g from gsOk_cons Inst_ok (gsOk_cons whole_ok (gsOk_cons Other_ok (gsOk_cons known10_ok (gsOk_cons Need_ok (gsOk_cons Plus_ok (gsOk_cons Of_ok (gsOk_cons Proves_ok (gsOk_cons Bools_ok (gsOk_nil)))))))))) (by kernel_rfl) mixedOrders Try.func6 rfl rfl (by kernel_rfl) (n := 3) (by decide +kernel) (I := CutSides_IA) (fun _ _ => isOk_nil) (A := CutSides_A)
    (fun args h r hr => by
      unfold CutSides_fs at hr
      split at hr
      · rename_i ty0 c ty1 d ty2 e; cases hr; refine ⟨rfl, fun hp => ?_⟩; have hE := CutSides_E c d e ty0 ty1 ty2 hp; exact hE
      · cases hr)

end Go.Proofs.Ytnoocfcmlilffaa
