/-
  CONTRACTS, PROVED: InstMany.
-/
import Derived.Test.YtimkpgkpebjglaaFA5
import Derived.Test.YtimkpgkpebjglaaDBInstMany
import Derived.Test.YtimkpgkpebjglaaAid
set_option linter.unusedVariables false
set_option linter.unusedSimpArgs false
set_option maxRecDepth 100000
namespace Go.Proofs.Ytimkpgkpebjglaa
open Go Go.RowKit Go.Ql Go.Vc

def InstMany_E0 (n : Int) (m : Int) (k : Int) : Prop :=
      (8 : Int) ≠ (0 : Int) ∧
        (8 : Int) ≠ (0 : Int) ∧
          (IntKind.i64.wrap ((60 : Int) + IntKind.i64.wrap (n.tmod (8 : Int))) = IntKind.i64.wrap ((60 : Int) + IntKind.i64.wrap (n.tmod (8 : Int))) ∧
              (0 : Int) ≤ IntKind.i64.wrap ((60 : Int) + IntKind.i64.wrap (n.tmod (8 : Int))) ∧
                IntKind.i64.wrap ((60 : Int) + IntKind.i64.wrap (n.tmod (8 : Int))) ≤ (1000000000 : Int)) ∧
            ∃ (g0 : Nat),
              ((↑g0 : Int) ≤ (252 : Int) + m % (8 : Int) ∧
                  (k = k ∧
                      IntKind.i64.wrap ((60 : Int) + IntKind.i64.wrap (n.tmod (8 : Int))) = (60 : Int) + n % (8 : Int) ∧
                        IntKind.i64.wrap ((252 : Int) + IntKind.i64.wrap (m.tmod (8 : Int))) = (252 : Int) + m % (8 : Int) ∧ (0 : Nat) = (0 : Nat) ∧ (0 : Int) = (↑g0 : Int) ∧ True) ∧
                    (True ∧ True ∧ True) ∧
                      [] = manyF ((60 : Int) + n % (8 : Int)) k g0 ∧
                        List.replicate (IntKind.i64.wrap ((60 : Int) + IntKind.i64.wrap (n.tmod (8 : Int)))).toNat (0 : Int) =
                            List.replicate ((60 : Int) + n % (8 : Int)).toNat (0 : Int) ∧
                          True) ∧
                ∀ (g : Nat),
                  (↑g : Int) ≤ (252 : Int) + m % (8 : Int) →
                    (decide ((↑g : Int) < (252 : Int) + m % (8 : Int)) = true →
                        (60 : Int) + n % (8 : Int) ≠ (0 : Int) ∧
                          (60 : Int) + n % (8 : Int) ≠ (0 : Int) ∧
                            (manyF ((60 : Int) + n % (8 : Int)) k g).length + (1 : Nat) ≤ (1000000000 : Nat) ∧
                              ∃ (g' : Nat),
                                (↑g' : Int) ≤ (252 : Int) + m % (8 : Int) ∧
                                  ((252 : Int) + m % (8 : Int)).toNat - g' < ((252 : Int) + m % (8 : Int)).toNat - g ∧
                                    (k = k ∧
                                        (60 : Int) + n % (8 : Int) = (60 : Int) + n % (8 : Int) ∧
                                          (252 : Int) + m % (8 : Int) = (252 : Int) + m % (8 : Int) ∧
                                            (0 : Nat) = (0 : Nat) ∧ IntKind.i64.wrap ((↑g : Int) + (1 : Int)) = (↑g' : Int) ∧ True) ∧
                                      (True ∧ True ∧ True) ∧
                                        manyF ((60 : Int) + n % (8 : Int)) k g ++
                                              [{ src := (↑g : Int).tmod ((60 : Int) + n % (8 : Int)), dst := (IntKind.i64.wrap k).tmod ((60 : Int) + n % (8 : Int)), low := (0 : Int),
                                                  cap := (1 : Int), cost := (0 : Int) : Arc }] =
                                            manyF ((60 : Int) + n % (8 : Int)) k g' ∧
                                          List.replicate ((60 : Int) + n % (8 : Int)).toNat (0 : Int) = List.replicate ((60 : Int) + n % (8 : Int)).toNat (0 : Int) ∧ True) ∧
                      (decide ((↑g : Int) < (252 : Int) + m % (8 : Int)) = false →
                        (decide ((60 : Int) + n % (8 : Int) > (64 : Int)) = true →
                            True ∧
                              (true = true →
                                  True ∧
                                    ((rightF { sup := List.replicate ((60 : Int) + n % (8 : Int)).toNat (0 : Int), arcs := manyF ((60 : Int) + n % (8 : Int)) k g : Inst } ==
                                            (20 : Int)) =
                                          true →
                                        ((List.replicate ((60 : Int) + n % (8 : Int)).toNat (0 : Int)).length ≤ (1000000000 : Nat) ∧
                                            (manyF ((60 : Int) + n % (8 : Int)) k g).length ≤ (1000000000 : Nat)) ∧
                                          (((↑(spanF { sup := List.replicate ((60 : Int) + n % (8 : Int)).toNat (0 : Int), arcs := manyF ((60 : Int) + n % (8 : Int)) k g : Inst }) :
                                                    Int) ==
                                                  IntKind.i64.wrap ((60 : Int) + n % (8 : Int) + ((252 : Int) + m % (8 : Int)))) =
                                                true ∧
                                              True) ∧
                                            True) ∧
                                      ((rightF { sup := List.replicate ((60 : Int) + n % (8 : Int)).toNat (0 : Int), arcs := manyF ((60 : Int) + n % (8 : Int)) k g : Inst } ==
                                            (20 : Int)) =
                                          false →
                                        (false = true ∧ True) ∧ True)) ∧
                                (true = false → (false = true ∧ True) ∧ True)) ∧
                          (decide ((60 : Int) + n % (8 : Int) > (64 : Int)) = false →
                            (decide ((252 : Int) + m % (8 : Int) > (256 : Int)) = true →
                                True ∧
                                  (true = true →
                                      True ∧
                                        ((rightF { sup := List.replicate ((60 : Int) + n % (8 : Int)).toNat (0 : Int), arcs := manyF ((60 : Int) + n % (8 : Int)) k g : Inst } ==
                                                (20 : Int)) =
                                              true →
                                            ((List.replicate ((60 : Int) + n % (8 : Int)).toNat (0 : Int)).length ≤ (1000000000 : Nat) ∧
                                                (manyF ((60 : Int) + n % (8 : Int)) k g).length ≤ (1000000000 : Nat)) ∧
                                              (((↑(spanF { sup := List.replicate ((60 : Int) + n % (8 : Int)).toNat (0 : Int), arcs := manyF ((60 : Int) + n % (8 : Int)) k g : Inst }) :
                                                        Int) ==
                                                      IntKind.i64.wrap ((60 : Int) + n % (8 : Int) + ((252 : Int) + m % (8 : Int)))) =
                                                    true ∧
                                                  True) ∧
                                                True) ∧
                                          ((rightF { sup := List.replicate ((60 : Int) + n % (8 : Int)).toNat (0 : Int), arcs := manyF ((60 : Int) + n % (8 : Int)) k g : Inst } ==
                                                (20 : Int)) =
                                              false →
                                            (false = true ∧ True) ∧ True)) ∧
                                    (true = false → (false = true ∧ True) ∧ True)) ∧
                              (decide ((252 : Int) + m % (8 : Int) > (256 : Int)) = false →
                                True ∧
                                  (true = true →
                                      True ∧
                                        ((rightF { sup := List.replicate ((60 : Int) + n % (8 : Int)).toNat (0 : Int), arcs := manyF ((60 : Int) + n % (8 : Int)) k g : Inst } ==
                                                (0 : Int)) =
                                              true →
                                            ((List.replicate ((60 : Int) + n % (8 : Int)).toNat (0 : Int)).length ≤ (1000000000 : Nat) ∧
                                                (manyF ((60 : Int) + n % (8 : Int)) k g).length ≤ (1000000000 : Nat)) ∧
                                              (((↑(spanF { sup := List.replicate ((60 : Int) + n % (8 : Int)).toNat (0 : Int), arcs := manyF ((60 : Int) + n % (8 : Int)) k g : Inst }) :
                                                        Int) ==
                                                      IntKind.i64.wrap ((60 : Int) + n % (8 : Int) + ((252 : Int) + m % (8 : Int)))) =
                                                    true ∧
                                                  True) ∧
                                                True) ∧
                                          ((rightF { sup := List.replicate ((60 : Int) + n % (8 : Int)).toNat (0 : Int), arcs := manyF ((60 : Int) + n % (8 : Int)) k g : Inst } ==
                                                (0 : Int)) =
                                              false →
                                            (false = true ∧ True) ∧ True)) ∧
                                    (true = false → (false = true ∧ True) ∧ True))))
theorem InstMany_q (n : Int) (m : Int) (k : Int) : InstMany_E0 n m k = FVcP TT InstMany_g (InstMany_an n m k) Try.f6 [.int .u16 n, .int .u16 m, .int .u8 k] [] (InstMany_r n m k) := by kernel_rfl
theorem InstMany_E (n : Int) (m : Int) (k : Int) (hp : 0 ≤ n ∧ n ≤ 65535 ∧ 0 ≤ m ∧ m ≤ 65535 ∧ 0 ≤ k ∧ k ≤ 255) : FVc TT InstMany_g (InstMany_an n m k) Try.f6 [.int .u16 n, .int .u16 m, .int .u8 k] [] (InstMany_r n m k) := by
  refine FVc.of (InstMany_E0 n m k) (InstMany_q n m k) ?_
  unfold InstMany_E0
  simp only [eq_self, decide_eq_true_eq, decide_eq_false_iff_not, and_true, true_and, bne_iff_ne, ne_eq, bne_eq_false_iff_eq, Int.toNat_natCast, Bool.not_eq_true', Bool.not_eq_false', beq_iff_eq, beq_eq_false_iff_ne, nilEq_true, forall_const, false_implies, reduceCtorEq, Bool.not_true, Bool.true_eq_false, Bool.false_eq_true, implies_true]
  obtain ⟨p1, p2, p3, p4, p5, p6⟩ := hp
  have e1 : IntKind.i64.wrap (60 + IntKind.i64.wrap (n.tmod 8)) = 60 + n % 8 := by rw [tmod_pos p1, w64 (x := n % 8) (by omega) (by omega), w64 (by omega) (by omega)]
  have e2 : IntKind.i64.wrap (252 + IntKind.i64.wrap (m.tmod 8)) = 252 + m % 8 := by rw [tmod_pos p3, w64 (x := m % 8) (by omega) (by omega), w64 (by omega) (by omega)]
  have e3 : IntKind.i64.wrap k = k := w64 (by omega) (by omega)
  simp only [e1, e2, e3, manyF_len]
  refine ⟨by decide, by decide, by omega, 0, ⟨by omega, ⟨trivial, trivial, rfl⟩, by simp [manyF], trivial⟩, fun g hg => ⟨fun h1 => ⟨by omega, by omega, by omega, g + 1, by omega, by omega, w64 (by omega) (by omega), ?_⟩, fun h1 => ?_⟩⟩
  · rw [manyF_succ, tmod_pos (by omega), tmod_pos p5]
  have hmem := manyF_mem (n := 60 + n % 8) (k := k) (j := g) (by omega)
  have hlen := manyF_len (60 + n % 8) k g
  have hsp : (↑(spanF { sup := List.replicate (60 + n % 8).toNat 0, arcs := manyF (60 + n % 8) k g }) : Int) = IntKind.i64.wrap (60 + n % 8 + (252 + m % 8)) := by
    rw [w64 (by omega) (by omega)]
    unfold spanF
    dsimp only
    rw [cntLow_zero _ (fun a ha => (hmem a ha).2), hlen, List.length_replicate]
    omega
  have hr : rightF { sup := List.replicate (60 + n % 8).toNat 0, arcs := manyF (60 + n % 8) k g } = if 60 + n % 8 > 64 ∨ 252 + m % 8 > 256 then 20 else 0 := by
    unfold rightF
    dsimp only
    rw [hlen, List.length_replicate]
    have hc : (((60 + n % 8).toNat : Nat) : Int) = 60 + n % 8 := by omega
    rw [hc, arcsErr_zero _ _ (fun a ha => (hmem a ha).1), supErr_zero _ (fun x hx => (List.mem_replicate.1 hx).2)]
    by_cases hb : 60 + n % 8 > 64 ∨ 252 + m % 8 > 256
    · rw [if_pos hb, if_pos (by omega)]
    · rw [if_neg hb, if_neg (by omega)]; rfl
  rw [hr, hsp]
  simp only [List.length_replicate, and_true, true_and, eq_self]
  refine ⟨fun c1 => ⟨fun _ => by omega, fun h => h (if_pos (.inl c1))⟩, fun c1 => ⟨fun c2 => ⟨fun _ => by omega, fun h => h (if_pos (.inr c2))⟩, fun c2 => ⟨fun _ => by omega, fun h => h (if_neg (by omega))⟩⟩⟩

theorem InstMany_ok : SpecOk Try.prog InstMany_n true (specOf true InstMany_fs) :=
  spec_ok' TT_ok (show GsOk Try.prog InstMany_g from gsOk_cons known_ok (gsOk_cons Right_ok (gsOk_cons Span_ok (gsOk_nil)))) mixedOrders Try.func6 rfl rfl (by kernel_rfl) (n := 3) (by decide +kernel) (A := InstMany_A)
    (fun args h r hr => by
      unfold InstMany_fs at hr
      split at hr
      · rename_i n m k; cases hr; refine ⟨rfl, fun hp => ?_⟩; have hE := InstMany_E n m k hp; exact hE
      · cases hr)

end Go.Proofs.Ytimkpgkpebjglaa
