/-
  CONTRACTS, PROVED: FlowMade.
-/
import Derived.Test.YtnoocfcmlilffaaFC9
import Derived.Test.YtnoocfcmlilffaaDD9
import Derived.Test.YtnoocfcmlilffaaAid
set_option linter.unusedVariables false
set_option linter.all false
set_option linter.unusedSimpArgs false
set_option maxRecDepth 100000
namespace Go.Proofs.Ytnoocfcmlilffaa
open Go Go.RowKit Go.Ql Go.Vc

def FlowMade_E0 (c : List Int) (d : List Int) (n : Int) (ty0 ty1 : TypeId) : Prop :=
      (Bytes c ∧ Bytes d ∧ c.length ≤ maxLen ∧ d.length ≤ maxLen) ∧
        (Bytes d ∧ (instF c d).arcs.length ≤ (1000000 : Nat) ∧ L42 (instF c d).arcs) ∧
          ((instF c d).sup.length ≤ (10000 : Nat) ∧ (instF c d).arcs.length ≤ (10000 : Nat) ∧ A64 (flowF (instF c d) d)) ∧
            (((↑(netF (instF c d) (flowF (instF c d) d)).length : Int) != (↑(instF c d).sup.length : Int)) = true → (false = true ∧ True) ∧ True) ∧
              (((↑(netF (instF c d) (flowF (instF c d) d)).length : Int) != (↑(instF c d).sup.length : Int)) = false →
                ∃ (g0 : Nat),
                  (g0 ≤ (instF c d).sup.length ∧
                      (n = n ∧ (0 : Nat) = (0 : Nat) ∧ True ∧ True ∧ (0 : Int) = (↑g0 : Int) ∧ True) ∧
                        netF (instF c d) (flowF (instF c d) d) = netF (instF c d) (flowF (instF c d) d) ∧
                          flowF (instF c d) d = flowF (instF c d) d ∧
                            (True ∧ True ∧ True) ∧ (instF c d).sup = madeS (instF c d) (flowF (instF c d) d) g0 ∧ (instF c d).arcs = (instF c d).arcs ∧ True) ∧
                    ∀ (g : Nat),
                      g ≤ (instF c d).sup.length →
                        (decide ((↑g : Int) < (↑(netF (instF c d) (flowF (instF c d) d)).length : Int)) = true →
                            ((0 : Int) ≤ (↑g : Int) ∧ (↑g : Int) < (↑(netF (instF c d) (flowF (instF c d) d)).length : Int)) ∧
                              (↑g : Int).toNat < (netF (instF c d) (flowF (instF c d) d)).length ∧
                                ∀ (x : Wide),
                                  (netF (instF c d) (flowF (instF c d) d))[(↑g : Int).toNat]? = some x →
                                    x.ok ∧
                                      ((!decide (I64 x.v)) = true → (false = true ∧ True) ∧ True) ∧
                                        ((!decide (I64 x.v)) = false →
                                          ((0 : Int) ≤ (↑g : Int) ∧ (↑g : Int) < (↑(madeS (instF c d) (flowF (instF c d) d) g).length : Int)) ∧
                                            (↑g : Int).toNat < (madeS (instF c d) (flowF (instF c d) d) g).length ∧
                                              ∃ (g' : Nat),
                                                g' ≤ (instF c d).sup.length ∧
                                                  (instF c d).sup.length - g' < (instF c d).sup.length - g ∧
                                                    (n = n ∧ (0 : Nat) = (0 : Nat) ∧ True ∧ True ∧ IntKind.i64.wrap ((↑g : Int) + (1 : Int)) = (↑g' : Int) ∧ True) ∧
                                                      netF (instF c d) (flowF (instF c d) d) = netF (instF c d) (flowF (instF c d) d) ∧
                                                        flowF (instF c d) d = flowF (instF c d) d ∧
                                                          (True ∧ True ∧ True) ∧
                                                            (madeS (instF c d) (flowF (instF c d) d) g).set (↑g : Int).toNat (if I64 x.v then x.v else (0 : Int)) =
                                                                madeS (instF c d) (flowF (instF c d) d) g' ∧
                                                              (instF c d).arcs = (instF c d).arcs ∧ True)) ∧
                          (decide ((↑g : Int) < (↑(netF (instF c d) (flowF (instF c d) d)).length : Int)) = false →
                            ∃ (g0 : Nat),
                              (g0 ≤ (instF c d).arcs.length ∧
                                  (n = n ∧ (0 : Nat) = (0 : Nat) ∧ True ∧ (0 : Int) = (↑g0 : Int) ∧ True) ∧
                                    flowF (instF c d) d = flowF (instF c d) d ∧
                                      (True ∧ True ∧ True) ∧
                                        madeS (instF c d) (flowF (instF c d) d) g = madeS (instF c d) (flowF (instF c d) d) (instF c d).sup.length ∧
                                          (instF c d).arcs = costA (n.tmod (1000 : Int)) g0 (instF c d).arcs ∧ True) ∧
                                ∀ (g : Nat),
                                  g ≤ (instF c d).arcs.length →
                                    (decide ((↑g : Int) < (↑(costA (n.tmod (1000 : Int)) g (instF c d).arcs).length : Int)) = true →
                                        (1000 : Int) ≠ (0 : Int) ∧
                                          ((0 : Int) ≤ (↑g : Int) ∧ (↑g : Int) < (↑(costA (n.tmod (1000 : Int)) g (instF c d).arcs).length : Int)) ∧
                                            (↑g : Int).toNat < (costA (n.tmod (1000 : Int)) g (instF c d).arcs).length ∧
                                              ∀ (x : Arc),
                                                (costA (n.tmod (1000 : Int)) g (instF c d).arcs)[(↑g : Int).toNat]? = some x →
                                                  ∃ (g' : Nat),
                                                    g' ≤ (instF c d).arcs.length ∧
                                                      (instF c d).arcs.length - g' < (instF c d).arcs.length - g ∧
                                                        (n = n ∧ (0 : Nat) = (0 : Nat) ∧ True ∧ IntKind.i64.wrap ((↑g : Int) + (1 : Int)) = (↑g' : Int) ∧ True) ∧
                                                          flowF (instF c d) d = flowF (instF c d) d ∧
                                                            (True ∧ True ∧ True) ∧
                                                              madeS (instF c d) (flowF (instF c d) d) (instF c d).sup.length =
                                                                  madeS (instF c d) (flowF (instF c d) d) (instF c d).sup.length ∧
                                                                (costA (n.tmod (1000 : Int)) g (instF c d).arcs).set (↑g : Int).toNat
                                                                      { src := x.src, dst := x.dst, low := x.low, cap := x.cap, cost := n.tmod (1000 : Int) : Arc } =
                                                                    costA (n.tmod (1000 : Int)) g' (instF c d).arcs ∧
                                                                  True) ∧
                                      (decide ((↑g : Int) < (↑(costA (n.tmod (1000 : Int)) g (instF c d).arcs).length : Int)) = false →
                                        True ∧
                                          (true = true →
                                              ((madeS (instF c d) (flowF (instF c d) d) (instF c d).sup.length).length ≤ (10000 : Nat) ∧
                                                  (costA (n.tmod (1000 : Int)) g (instF c d).arcs).length ≤ (10000 : Nat) ∧
                                                    A64 (flowF (instF c d) d) ∧ A64 (madeS (instF c d) (flowF (instF c d) d) (instF c d).sup.length)) ∧
                                                ((fitsF
                                                          { sup := madeS (instF c d) (flowF (instF c d) d) (instF c d).sup.length,
                                                            arcs := costA (n.tmod (1000 : Int)) g (instF c d).arcs : Inst }
                                                          (flowF (instF c d) d) ==
                                                        (0 : Int)) =
                                                      true ∧
                                                    True) ∧
                                                  True) ∧
                                            (true = false → (false = true ∧ True) ∧ True))))
theorem FlowMade_q (c : List Int) (d : List Int) (n : Int) (ty0 ty1 : TypeId) : FlowMade_E0 c d n ty0 ty1 = FVcP TT FlowMade_g (FlowMade_an c d n) Try.f13 [.row 0, .row 1, .int .i64 n] [(0, .row false ty0 (.ints .u8 c)), (1, .row false ty1 (.ints .u8 d))] (FlowMade_r c d n) := by kernel_rfl
theorem FlowMade_E (c : List Int) (d : List Int) (n : Int) (ty0 ty1 : TypeId) (hp : Bytes c ∧ Bytes d ∧ c.length ≤ maxLen ∧ d.length ≤ maxLen ∧ I64 n) : FVc TT FlowMade_g (FlowMade_an c d n) Try.f13 [.row 0, .row 1, .int .i64 n] [(0, .row false ty0 (.ints .u8 c)), (1, .row false ty1 (.ints .u8 d))] (FlowMade_r c d n) := by
  refine FVc.of (FlowMade_E0 c d n ty0 ty1) (FlowMade_q c d n ty0 ty1) ?_
  unfold FlowMade_E0
  obtain ⟨p1, p2, p3, p4, p5⟩ := hp
  have l1 := instF_sup c d
  have l2 := nOf_pos d
  have l3 := nOf_le d
  have l4 := instF_arcs c d
  have q1 := instF_A64 c d
  have q2 := instF_A64a c d
  have q3 := instF_A64c c d
  have q4 := instF_L42 c d
  have q5 := flowF_A64 c d d
  have q6 := flowF_len (instF c d) d
  have q7 := flowF_mem c d d
  simp only [eq_self, exists_const, forall_const, decide_eq_true_eq, decide_eq_false_iff_not, and_true, true_and, bne_iff_ne, ne_eq, bne_eq_false_iff_eq, Int.toNat_natCast, Bool.not_eq_true', Bool.not_eq_false', beq_iff_eq, beq_eq_false_iff_ne, nilEq_true]
  simp only [false_implies, reduceCtorEq, Bool.not_true, Bool.true_eq_false, Bool.false_eq_true, implies_true, and_true, true_and]
  have hnet : ∀ v : Int, -4398046511104 ≤ netK (instF c d).sup.length (instF c d).arcs (flowF (instF c d) d) (instF c d).arcs.length v ∧ netK (instF c d).sup.length (instF c d).arcs (flowF (instF c d) d) (instF c d).arcs.length v ≤ 4398046511104 := fun v => by
    have := netK_bound (n := (instF c d).sup.length) (l := (instF c d).arcs) (x := flowF (instF c d) d) (v := v) (B := 5) (by omega) (fun y hy => by have := q7 y hy; omega) (instF c d).arcs.length
    omega
  have ml : ∀ k, (madeS (instF c d) (flowF (instF c d) d) k).length = (instF c d).sup.length := fun k => by simp [madeS]
  refine ⟨⟨p1, p2, p3, p4⟩, ⟨p2, by omega, q4⟩, ⟨by omega, by omega, q5⟩, fun h => h (by rw [netF_len]), fun _ => ⟨0, ⟨by omega, rfl, (madeS_zero _ _).symm⟩, fun g hg => ⟨fun h1 => ?_, fun h1 => ?_⟩⟩⟩
  · rw [netF_len] at h1
    refine ⟨by rw [netF_len]; omega, by rw [netF_len]; omega, fun x hx => ?_⟩
    obtain ⟨_, e2⟩ := netAt_get (k := (instF c d).arcs.length) hx
    subst e2
    have hb := hnet g
    have hv := v_of (n := netK (instF c d).sup.length (instF c d).arcs (flowF (instF c d) d) (instF c d).arcs.length g) (by unfold I128; omega)
    have hi : I64 (W (netK (instF c d).sup.length (instF c d).arcs (flowF (instF c d) d) (instF c d).arcs.length g)).v := by rw [hv]; unfold I64; omega
    refine ⟨W_ok _, fun h => h hi, fun _ => ⟨by rw [ml]; omega, by rw [ml]; omega, g + 1, by omega, by omega, ?_, ?_⟩⟩
    · rw [w64 (by omega) (by omega)]; omega
    · rw [if_pos hi, hv]; exact madeS_step
  · rw [netF_len] at h1
    have eg : g = (instF c d).sup.length := by omega
    refine ⟨0, ⟨by omega, rfl, by rw [eg], (costA_zero _ _).symm⟩, fun g2 hg2 => ⟨fun h2 => ?_, fun h2 => ?_⟩⟩
    · rw [costA_len] at h2
      refine ⟨by decide, by rw [costA_len]; omega, by rw [costA_len]; omega, fun x hx => ⟨g2 + 1, by omega, by omega, ?_, costA_step (by omega) hx⟩⟩
      rw [w64 (by omega) (by omega)]; omega
    · rw [costA_len] at h2
      refine ⟨⟨by rw [ml]; omega, by rw [costA_len]; omega, q5, fun y hy => ?_⟩, ?_⟩
      · unfold madeS at hy
        rw [List.mem_map] at hy
        obtain ⟨v, hv, rfl⟩ := hy
        rw [if_pos (List.mem_range.1 hv)]
        have := hnet v
        unfold I64; omega
      · rw [costA_all _ _ (by omega)]
        exact made_fits c d (tmod_b n)

theorem FlowMade_ok : SpecOk Try.prog FlowMade_n true (specOf true FlowMade_fs) :=
  spec_ok' TT_ok (show GsOk Try.prog FlowMade_g from gsOk_cons Inst_ok (gsOk_cons Flow_ok (gsOk_cons Net_ok (gsOk_cons Back_ok (gsOk_cons known9_ok (gsOk_cons Fits_ok (gsOk_nil))))))) mixedOrders Try.func13 rfl rfl (by kernel_rfl) (n := 3) (by decide +kernel) (A := FlowMade_A)
    (fun args h r hr => by
      unfold FlowMade_fs at hr
      split at hr
      · rename_i n ty0 c ty1 d; cases hr; refine ⟨rfl, fun hp => ?_⟩; have hE := FlowMade_E c d n ty0 ty1 hp; exact hE
      · cases hr)

end Go.Proofs.Ytnoocfcmlilffaa
