/-
  CONTRACTS, PROVED: known9, asks9, FlowAsks.
-/
import Derived.Test.YtnoocfcmlilffaaFB9
import Derived.Test.YtnoocfcmlilffaaDC9
import Derived.Test.YtnoocfcmlilffaaAid
set_option linter.unusedVariables false
set_option linter.all false
set_option linter.unusedSimpArgs false
set_option maxRecDepth 100000
namespace Go.Proofs.Ytnoocfcmlilffaa
open Go Go.RowKit Go.Ql Go.Vc

def known9_E0 : Prop :=
      True ∧
        ((2 : Nat) ≤ (10000 : Nat) ∧ (1 : Nat) ≤ (10000 : Nat) ∧ A64 [(3 : Int)]) ∧
          I64 (3 : Int) ∧
            I64 (-3 : Int) ∧
              (netF { sup := [(3 : Int), (-3 : Int)], arcs := [{ src := (0 : Int), dst := (1 : Int), low := (0 : Int), cap := (4 : Int), cost := (5 : Int) : Arc }] : Inst }
                      [(3 : Int)]).length ≤
                  (1000000000 : Nat) ∧
                (decide
                        (netF { sup := [(3 : Int), (-3 : Int)], arcs := [{ src := (0 : Int), dst := (1 : Int), low := (0 : Int), cap := (4 : Int), cost := (5 : Int) : Arc }] : Inst }
                            [(3 : Int)] =
                          [W (3 : Int), W (-3 : Int)]) =
                      true →
                    (A64 [(3 : Int)] ∧ A64c [{ src := (0 : Int), dst := (1 : Int), low := (0 : Int), cap := (4 : Int), cost := (5 : Int) : Arc }] ∧ (1 : Nat) ≤ (1000000 : Nat)) ∧
                      I64 (15 : Int) ∧
                        (decide
                                ([(W
                                        (costF
                                          { sup := [(3 : Int), (-3 : Int)],
                                            arcs := [{ src := (0 : Int), dst := (1 : Int), low := (0 : Int), cap := (4 : Int), cost := (5 : Int) : Arc }] : Inst }
                                          [(3 : Int)])).hi,
                                    (W
                                        (costF
                                          { sup := [(3 : Int), (-3 : Int)],
                                            arcs := [{ src := (0 : Int), dst := (1 : Int), low := (0 : Int), cap := (4 : Int), cost := (5 : Int) : Arc }] : Inst }
                                          [(3 : Int)])).lo] =
                                  [(W (15 : Int)).hi, (W (15 : Int)).lo]) =
                              true →
                            ((2 : Nat) ≤ (10000 : Nat) ∧ (1 : Nat) ≤ (10000 : Nat) ∧ A64 [(3 : Int)] ∧ A64 [(3 : Int), (-3 : Int)]) ∧
                              ((fitsF
                                        { sup := [(3 : Int), (-3 : Int)], arcs := [{ src := (0 : Int), dst := (1 : Int), low := (0 : Int), cap := (4 : Int), cost := (5 : Int) : Arc }] :
                                          Inst }
                                        [(3 : Int)] ==
                                      (0 : Int)) =
                                    true →
                                  ((2 : Nat) ≤ (10000 : Nat) ∧ (1 : Nat) ≤ (10000 : Nat) ∧ A64 [(2 : Int)] ∧ A64 [(3 : Int), (-3 : Int)]) ∧
                                    ((fitsF
                                              { sup := [(3 : Int), (-3 : Int)],
                                                arcs := [{ src := (0 : Int), dst := (1 : Int), low := (0 : Int), cap := (4 : Int), cost := (5 : Int) : Arc }] : Inst }
                                              [(2 : Int)] ==
                                            (32 : Int)) =
                                          true →
                                        (((roomF
                                                    { sup := [(3 : Int), (-3 : Int)],
                                                      arcs := [{ src := (0 : Int), dst := (1 : Int), low := (0 : Int), cap := (4 : Int), cost := (5 : Int) : Arc }] : Inst }
                                                    [(3 : Int)] (0 : Int)).fst ==
                                                (1 : Int)) =
                                              true →
                                            (((roomF
                                                        { sup := [(3 : Int), (-3 : Int)],
                                                          arcs := [{ src := (0 : Int), dst := (1 : Int), low := (0 : Int), cap := (4 : Int), cost := (5 : Int) : Arc }] : Inst }
                                                        [(3 : Int)] (0 : Int)).snd ==
                                                    (3 : Int)) =
                                                  true ∧
                                                True) ∧
                                              True) ∧
                                          (((roomF
                                                    { sup := [(3 : Int), (-3 : Int)],
                                                      arcs := [{ src := (0 : Int), dst := (1 : Int), low := (0 : Int), cap := (4 : Int), cost := (5 : Int) : Arc }] : Inst }
                                                    [(3 : Int)] (0 : Int)).fst ==
                                                (1 : Int)) =
                                              false →
                                            (false = true ∧ True) ∧ True)) ∧
                                      ((fitsF
                                              { sup := [(3 : Int), (-3 : Int)],
                                                arcs := [{ src := (0 : Int), dst := (1 : Int), low := (0 : Int), cap := (4 : Int), cost := (5 : Int) : Arc }] : Inst }
                                              [(2 : Int)] ==
                                            (32 : Int)) =
                                          false →
                                        (false = true ∧ True) ∧ True)) ∧
                                ((fitsF
                                        { sup := [(3 : Int), (-3 : Int)], arcs := [{ src := (0 : Int), dst := (1 : Int), low := (0 : Int), cap := (4 : Int), cost := (5 : Int) : Arc }] :
                                          Inst }
                                        [(3 : Int)] ==
                                      (0 : Int)) =
                                    false →
                                  (false = true ∧ True) ∧ True)) ∧
                          (decide
                                ([(W
                                        (costF
                                          { sup := [(3 : Int), (-3 : Int)],
                                            arcs := [{ src := (0 : Int), dst := (1 : Int), low := (0 : Int), cap := (4 : Int), cost := (5 : Int) : Arc }] : Inst }
                                          [(3 : Int)])).hi,
                                    (W
                                        (costF
                                          { sup := [(3 : Int), (-3 : Int)],
                                            arcs := [{ src := (0 : Int), dst := (1 : Int), low := (0 : Int), cap := (4 : Int), cost := (5 : Int) : Arc }] : Inst }
                                          [(3 : Int)])).lo] =
                                  [(W (15 : Int)).hi, (W (15 : Int)).lo]) =
                              false →
                            (false = true ∧ True) ∧ True)) ∧
                  (decide
                        (netF { sup := [(3 : Int), (-3 : Int)], arcs := [{ src := (0 : Int), dst := (1 : Int), low := (0 : Int), cap := (4 : Int), cost := (5 : Int) : Arc }] : Inst }
                            [(3 : Int)] =
                          [W (3 : Int), W (-3 : Int)]) =
                      false →
                    (false = true ∧ True) ∧ True)
theorem known9_q : known9_E0 = FVcP TT known9_g (known9_I) (known9_an) Try.f39 [] [] (known9_r) := by kernel_rfl
theorem known9_E (hp : True) : FVc TT known9_g (known9_I) (known9_an) Try.f39 [] [] (known9_r) := by
  refine FVc.of (known9_E0) (known9_q) ?_
  unfold known9_E0
  have k1 : netF ⟨[3, -3], [⟨0, 1, 0, 4, 5⟩]⟩ [3] = [W 3, W (-3)] := by decide
  have k2 : costF ⟨[3, -3], [⟨0, 1, 0, 4, 5⟩]⟩ [3] = 15 := by decide
  have k3 : fitsF ⟨[3, -3], [⟨0, 1, 0, 4, 5⟩]⟩ [3] = 0 := by decide
  have k4 : fitsF ⟨[3, -3], [⟨0, 1, 0, 4, 5⟩]⟩ [2] = 32 := by decide
  have k5 : roomF ⟨[3, -3], [⟨0, 1, 0, 4, 5⟩]⟩ [3] 0 = (1, 3) := by decide
  have a1 : A64 [3] := by simp [A64, I64]
  have a2 : A64 [2] := by simp [A64, I64]
  have a3 : A64 [3, -3] := by simp [A64, I64]
  have a4 : A64c [⟨0, 1, 0, 4, 5⟩] := by simp [A64c, I64]
  have i1 : I64 3 := by simp [I64]
  have i2 : I64 (-3) := by simp [I64]
  have i3 : I64 15 := by simp [I64]
  simp [k1, k2, k3, k4, k5, a1, a2, a3, a4, i1, i2, i3]

theorem known9_ok : SpecOk Try.prog known9_n true (specOf true known9_fs) :=
  spec_ok' TT_ok (show GsOk Try.prog known9_g from gsOk_cons FRoom_ok (gsOk_cons Net_ok (gsOk_cons Wides_ok (gsOk_cons Of_ok (gsOk_cons Cost_ok (gsOk_cons Fits_ok (gsOk_nil))))))) (by kernel_rfl) mixedOrders Try.func39 rfl rfl (by kernel_rfl) (n := 0) (by decide +kernel) (I := known9_IA) (fun _ _ => isOk_nil) (A := known9_A)
    (fun args h r hr => by
      unfold known9_fs at hr
      split at hr
      · cases hr; refine ⟨rfl, fun hp => ?_⟩; have hE := known9_E  hp; exact hE
      · cases hr)

theorem room_eq {I : Inst} {x : List Int} {a : Int} (hr : rightF I = 0) (hx : A64 x) : roomF I x a = roomR I x a := by
  unfold roomF roomR
  split
  · rfl
  · rename_i h
    split
    · rename_i hf
      have hal : a.toNat < I.arcs.length := by omega
      have hm : I.arcs.getD a.toNat default ∈ I.arcs := by rw [List.getD_eq_getElem?_getD, List.getElem?_eq_getElem hal]; exact List.getElem_mem hal
      have hra := rightF_arc hr hm
      obtain ⟨r1, r2, r3⟩ := hra
      have hx' := hx.getD a.toNat
      unfold I64 at hx'
      unfold fitF inf at hf
      simp only [Bool.and_eq_true, Bool.or_eq_true, decide_eq_true_eq] at hf
      have hl : chk (x.getD a.toNat 0 - (I.arcs.getD a.toNat default).low) = IntKind.i64.wrap (x.getD a.toNat 0 - (I.arcs.getD a.toNat default).low) := by
        unfold chk
        rw [if_pos (by unfold I64; omega), w64 (by omega) (by omega)]
      rw [hl]
      by_cases hc : (I.arcs.getD a.toNat default).cap = inf
      · rw [if_pos hc, if_pos hc]
      · rw [if_neg hc, if_neg hc]
        unfold inf at hc
        have hm : chk ((I.arcs.getD a.toNat default).cap - x.getD a.toNat 0) = IntKind.i64.wrap ((I.arcs.getD a.toNat default).cap - x.getD a.toNat 0) := by
          unfold chk
          rw [if_pos (by unfold I64; omega), w64 (by omega) (by omega)]
        rw [hm]
    · rfl

def asks9_E0 (I : Inst) (x : List Int) (a : Int) (ty0 ty1 ty2 : TypeId) : Prop :=
      True ∧
        (A64 x ∧ A64a I.arcs) ∧
          True ∧
            ((rightF I == (0 : Int)) = true →
                (((roomF I x a).fst != (roomR I x a).fst) = true → (false = true ∧ True) ∧ True) ∧
                  (((roomF I x a).fst != (roomR I x a).fst) = false →
                    (((roomF I x a).snd != (roomR I x a).snd) = true → (false = true ∧ True) ∧ True) ∧
                      (((roomF I x a).snd != (roomR I x a).snd) = false →
                        (I.sup.length ≤ (10000 : Nat) ∧ I.arcs.length ≤ (10000 : Nat) ∧ A64 x) ∧
                          (A64 x ∧ I.sup.length ≤ (10000 : Nat) ∧ I.arcs.length ≤ (10000 : Nat)) ∧
                            (netF I x).length ≤ (1000000000 : Nat) ∧
                              (decide (netF I x = netF I x) = true →
                                  (A64 x ∧ A64c I.arcs ∧ I.arcs.length ≤ (1000000 : Nat)) ∧
                                    (A64 x ∧ A64c I.arcs ∧ I.arcs.length ≤ (1000000 : Nat)) ∧
                                      (decide ([(W (costF I x)).hi, (W (costF I x)).lo] = [(W (costF I x)).hi, (W (costF I x)).lo]) = true →
                                          (I.sup.length ≤ (10000 : Nat) ∧ I.arcs.length ≤ (10000 : Nat) ∧ A64 x ∧ A64 I.sup) ∧
                                            (I.sup.length ≤ (10000 : Nat) ∧ I.arcs.length ≤ (10000 : Nat) ∧ A64 x ∧ A64 I.sup) ∧
                                              ((IntKind.i64.wrap (fitsF I x) == fitsF I x) = true ∧ True) ∧ True) ∧
                                        (decide ([(W (costF I x)).hi, (W (costF I x)).lo] = [(W (costF I x)).hi, (W (costF I x)).lo]) = false → (false = true ∧ True) ∧ True)) ∧
                                (decide (netF I x = netF I x) = false → (false = true ∧ True) ∧ True)))) ∧
              ((rightF I == (0 : Int)) = false →
                (I.sup.length ≤ (10000 : Nat) ∧ I.arcs.length ≤ (10000 : Nat) ∧ A64 x) ∧
                  (A64 x ∧ I.sup.length ≤ (10000 : Nat) ∧ I.arcs.length ≤ (10000 : Nat)) ∧
                    (netF I x).length ≤ (1000000000 : Nat) ∧
                      (decide (netF I x = netF I x) = true →
                          (A64 x ∧ A64c I.arcs ∧ I.arcs.length ≤ (1000000 : Nat)) ∧
                            (A64 x ∧ A64c I.arcs ∧ I.arcs.length ≤ (1000000 : Nat)) ∧
                              (decide ([(W (costF I x)).hi, (W (costF I x)).lo] = [(W (costF I x)).hi, (W (costF I x)).lo]) = true →
                                  (I.sup.length ≤ (10000 : Nat) ∧ I.arcs.length ≤ (10000 : Nat) ∧ A64 x ∧ A64 I.sup) ∧
                                    (I.sup.length ≤ (10000 : Nat) ∧ I.arcs.length ≤ (10000 : Nat) ∧ A64 x ∧ A64 I.sup) ∧
                                      ((IntKind.i64.wrap (fitsF I x) == fitsF I x) = true ∧ True) ∧ True) ∧
                                (decide ([(W (costF I x)).hi, (W (costF I x)).lo] = [(W (costF I x)).hi, (W (costF I x)).lo]) = false → (false = true ∧ True) ∧ True)) ∧
                        (decide (netF I x = netF I x) = false → (false = true ∧ True) ∧ True))
theorem asks9_q (I : Inst) (x : List Int) (a : Int) (ty0 ty1 ty2 : TypeId) : asks9_E0 I x a ty0 ty1 ty2 = FVcP TT asks9_g (asks9_I I x a) (asks9_an I x a) Try.f40 [.agg [.row 0, .row 1], .row 2, .int .i64 a] [(0, .row false ty0 (.ints .i64 I.sup)), (1, .row false ty1 (.arcs I.arcs)), (2, .row false ty2 (.ints .i64 x))] (asks9_r I x a) := by kernel_rfl
theorem asks9_E (I : Inst) (x : List Int) (a : Int) (ty0 ty1 ty2 : TypeId) (hp : I.sup.length ≤ 10000 ∧ I.arcs.length ≤ 10000 ∧ A64 x ∧ A64 I.sup ∧ A64a I.arcs ∧ A64c I.arcs) : FVc TT asks9_g (asks9_I I x a) (asks9_an I x a) Try.f40 [.agg [.row 0, .row 1], .row 2, .int .i64 a] [(0, .row false ty0 (.ints .i64 I.sup)), (1, .row false ty1 (.arcs I.arcs)), (2, .row false ty2 (.ints .i64 x))] (asks9_r I x a) := by
  refine FVc.of (asks9_E0 I x a ty0 ty1 ty2) (asks9_q I x a ty0 ty1 ty2) ?_
  unfold asks9_E0
  simp only [eq_self, exists_const, forall_const, decide_eq_true_eq, decide_eq_false_iff_not, and_true, true_and, bne_iff_ne, ne_eq, bne_eq_false_iff_eq, Int.toNat_natCast, Bool.not_eq_true', Bool.not_eq_false', beq_iff_eq, beq_eq_false_iff_ne, nilEq_true]
  obtain ⟨p1, p2, p3, p4, p5, p6⟩ := hp
  have hb := fitsF_small I x
  have hw : IntKind.i64.wrap (fitsF I x) = fitsF I x := w64 (by omega) (by omega)
  rw [hw]
  have hn := netF_len I x
  refine ⟨⟨p3, p5⟩, fun h => ?_, fun h => ?_⟩
  · rw [room_eq h p3]
    refine ⟨fun h => absurd rfl h, fun _ => ⟨fun h => absurd rfl h, fun _ => ?_⟩⟩
    refine ⟨⟨p1, p2, p3⟩, ⟨p3, p1, p2⟩, by omega, ?_⟩
    simp [p1, p2, p3, p4, p6]
    omega
  · refine ⟨⟨p1, p2, p3⟩, ⟨p3, p1, p2⟩, by omega, ?_⟩
    simp [p1, p2, p3, p4, p6]
    omega

theorem asks9_ok : SpecOk Try.prog asks9_n true (specOf true asks9_fs) :=
  spec_ok' TT_ok (show GsOk Try.prog asks9_g from gsOk_cons FRoom_ok (gsOk_cons rRoom_ok (gsOk_cons rRight_ok (gsOk_cons Wides_ok (gsOk_cons Net_ok (gsOk_cons rNet_ok (gsOk_cons Cost_ok (gsOk_cons rCost_ok (gsOk_cons Fits_ok (gsOk_cons rFits_ok (gsOk_nil))))))))))) (by kernel_rfl) mixedOrders Try.func40 rfl rfl (by kernel_rfl) (n := 3) (by decide +kernel) (I := asks9_IA) (fun _ _ => isOk_nil) (A := asks9_A)
    (fun args h r hr => by
      unfold asks9_fs at hr
      split at hr
      · rename_i a ty0 I_s ty1 I_a ty2 x; cases hr; refine ⟨rfl, fun hp => ?_⟩; have hE := asks9_E ⟨I_s, I_a⟩ x a ty0 ty1 ty2 hp; exact hE
      · cases hr)

def FlowAsks_E0 (I : Inst) (x : List Int) (a : Int) (c : List Int) (d : List Int) (k : Int) (ty0 ty1 ty2 ty3 ty4 : TypeId) : Prop :=
      (I.sup.length ≤ (1000000000000000000 : Nat) ∧ I.arcs.length ≤ (1000000000000000000 : Nat)) ∧
        (decide ((↑I.sup.length : Int) + (2 : Int) * (↑I.arcs.length : Int) > (120 : Int)) = true → True ∧ (true = true ∧ True) ∧ True) ∧
          (decide ((↑I.sup.length : Int) + (2 : Int) * (↑I.arcs.length : Int) > (120 : Int)) = false →
            (decide ((↑x.length : Int) > (200 : Int)) = true → True ∧ (true = true ∧ True) ∧ True) ∧
              (decide ((↑x.length : Int) > (200 : Int)) = false →
                True ∧
                  ((!true) = true → True ∧ (true = true ∧ True) ∧ True) ∧
                    ((!true) = false →
                      (Bytes c ∧ Bytes d ∧ c.length ≤ maxLen ∧ d.length ≤ maxLen) ∧
                        (Bytes d ∧ (instF c d).arcs.length ≤ (1000000 : Nat) ∧ L42 (instF c d).arcs) ∧
                          (Bytes d ∧ (instF c d).arcs.length ≤ (1000000 : Nat) ∧ L42 (instF c d).arcs) ∧
                            (decide ((↑(flowF (instF c d) d).length : Int) > (0 : Int)) = true →
                                (↑(flowF (instF c d) d).length : Int) ≠ (0 : Int) ∧
                                  ((0 : Int) ≤ (IntKind.i64.wrap k).tmod (↑(flowF (instF c d) d).length : Int) ∧
                                      (IntKind.i64.wrap k).tmod (↑(flowF (instF c d) d).length : Int) < (↑(flowF (instF c d) d).length : Int)) ∧
                                    ((IntKind.i64.wrap k).tmod (↑(flowF (instF c d) d).length : Int)).toNat < (flowF (instF c d) d).length ∧
                                      ∀ (x_1 : Int),
                                        (flowF (instF c d) d)[((IntKind.i64.wrap k).tmod (↑(flowF (instF c d) d).length : Int)).toNat]? = some x_1 →
                                          (7 : Int) ≠ (0 : Int) ∧
                                            ((0 : Int) ≤ (IntKind.i64.wrap k).tmod (↑(flowF (instF c d) d).length : Int) ∧
                                                (IntKind.i64.wrap k).tmod (↑(flowF (instF c d) d).length : Int) < (↑(flowF (instF c d) d).length : Int)) ∧
                                              ((IntKind.i64.wrap k).tmod (↑(flowF (instF c d) d).length : Int)).toNat < (flowF (instF c d) d).length ∧
                                                (I.sup.length ≤ (10000 : Nat) ∧ I.arcs.length ≤ (10000 : Nat) ∧ A64 x ∧ A64 I.sup ∧ A64a I.arcs ∧ A64c I.arcs) ∧
                                                  (true = true →
                                                      ((instF c d).sup.length ≤ (10000 : Nat) ∧
                                                          (instF c d).arcs.length ≤ (10000 : Nat) ∧ A64 x ∧ A64 (instF c d).sup ∧ A64a (instF c d).arcs ∧ A64c (instF c d).arcs) ∧
                                                        (true = true →
                                                            IntKind.i64.wrap ((↑(flowF (instF c d) d).length : Int) + (1 : Int)) ≠ (0 : Int) ∧
                                                              ((instF c d).sup.length ≤ (10000 : Nat) ∧
                                                                  (instF c d).arcs.length ≤ (10000 : Nat) ∧
                                                                    A64 (flowF (instF c d) d) ∧ A64 (instF c d).sup ∧ A64a (instF c d).arcs ∧ A64c (instF c d).arcs) ∧
                                                                (true = true →
                                                                    IntKind.i64.wrap ((↑(flowF (instF c d) d).length : Int) + (1 : Int)) ≠ (0 : Int) ∧
                                                                      ((instF c d).sup.length ≤ (10000 : Nat) ∧
                                                                          (instF c d).arcs.length ≤ (10000 : Nat) ∧
                                                                            A64
                                                                                ((flowF (instF c d) d).set ((IntKind.i64.wrap k).tmod (↑(flowF (instF c d) d).length : Int)).toNat
                                                                                  (IntKind.i64.wrap (x_1 + IntKind.i64.wrap (IntKind.i64.wrap (k.tmod (7 : Int)) - (3 : Int))))) ∧
                                                                              A64 (instF c d).sup ∧ A64a (instF c d).arcs ∧ A64c (instF c d).arcs) ∧
                                                                        (true = true →
                                                                            (9 : Int) ≠ (0 : Int) ∧
                                                                              (I.sup.length ≤ (10000 : Nat) ∧
                                                                                  I.arcs.length ≤ (10000 : Nat) ∧ A64 (flowF (instF c d) d) ∧ A64 I.sup ∧ A64a I.arcs ∧ A64c I.arcs) ∧
                                                                                (true = true ∧ True) ∧ True) ∧
                                                                          (true = false → (false = true ∧ True) ∧ True)) ∧
                                                                  (true = false → (false = true ∧ True) ∧ True)) ∧
                                                          (true = false → (false = true ∧ True) ∧ True)) ∧
                                                    (true = false → (false = true ∧ True) ∧ True)) ∧
                              (decide ((↑(flowF (instF c d) d).length : Int) > (0 : Int)) = false →
                                (I.sup.length ≤ (10000 : Nat) ∧ I.arcs.length ≤ (10000 : Nat) ∧ A64 x ∧ A64 I.sup ∧ A64a I.arcs ∧ A64c I.arcs) ∧
                                  (true = true →
                                      ((instF c d).sup.length ≤ (10000 : Nat) ∧
                                          (instF c d).arcs.length ≤ (10000 : Nat) ∧ A64 x ∧ A64 (instF c d).sup ∧ A64a (instF c d).arcs ∧ A64c (instF c d).arcs) ∧
                                        (true = true →
                                            IntKind.i64.wrap ((↑(flowF (instF c d) d).length : Int) + (1 : Int)) ≠ (0 : Int) ∧
                                              ((instF c d).sup.length ≤ (10000 : Nat) ∧
                                                  (instF c d).arcs.length ≤ (10000 : Nat) ∧
                                                    A64 (flowF (instF c d) d) ∧ A64 (instF c d).sup ∧ A64a (instF c d).arcs ∧ A64c (instF c d).arcs) ∧
                                                (true = true →
                                                    IntKind.i64.wrap ((↑(flowF (instF c d) d).length : Int) + (1 : Int)) ≠ (0 : Int) ∧
                                                      ((instF c d).sup.length ≤ (10000 : Nat) ∧
                                                          (instF c d).arcs.length ≤ (10000 : Nat) ∧
                                                            A64 (flowF (instF c d) d) ∧ A64 (instF c d).sup ∧ A64a (instF c d).arcs ∧ A64c (instF c d).arcs) ∧
                                                        (true = true →
                                                            (9 : Int) ≠ (0 : Int) ∧
                                                              (I.sup.length ≤ (10000 : Nat) ∧
                                                                  I.arcs.length ≤ (10000 : Nat) ∧ A64 (flowF (instF c d) d) ∧ A64 I.sup ∧ A64a I.arcs ∧ A64c I.arcs) ∧
                                                                (true = true ∧ True) ∧ True) ∧
                                                          (true = false → (false = true ∧ True) ∧ True)) ∧
                                                  (true = false → (false = true ∧ True) ∧ True)) ∧
                                          (true = false → (false = true ∧ True) ∧ True)) ∧
                                    (true = false → (false = true ∧ True) ∧ True)))))
theorem FlowAsks_q (I : Inst) (x : List Int) (a : Int) (c : List Int) (d : List Int) (k : Int) (ty0 ty1 ty2 ty3 ty4 : TypeId) : FlowAsks_E0 I x a c d k ty0 ty1 ty2 ty3 ty4 = FVcP TT FlowAsks_g (FlowAsks_I I x a c d k) (FlowAsks_an I x a c d k) Try.f9 [.agg [.row 0, .row 1], .row 2, .int .i64 a, .row 3, .row 4, .int .u8 k] [(0, .row false ty0 (.ints .i64 I.sup)), (1, .row false ty1 (.arcs I.arcs)), (2, .row false ty2 (.ints .i64 x)), (3, .row false ty3 (.ints .u8 c)), (4, .row false ty4 (.ints .u8 d))] (FlowAsks_r I x a c d k) := by kernel_rfl
theorem FlowAsks_E (I : Inst) (x : List Int) (a : Int) (c : List Int) (d : List Int) (k : Int) (ty0 ty1 ty2 ty3 ty4 : TypeId) (hp : I.sup.length ≤ 140737488351232 ∧ I.arcs.length ≤ 140737488351232 ∧ x.length ≤ 140737488351232 ∧ A64 x ∧ A64 I.sup ∧ A64a I.arcs ∧ A64c I.arcs ∧ Bytes c ∧ Bytes d ∧ c.length ≤ maxLen ∧ d.length ≤ maxLen ∧ 0 ≤ k ∧ k ≤ 255) : FVc TT FlowAsks_g (FlowAsks_I I x a c d k) (FlowAsks_an I x a c d k) Try.f9 [.agg [.row 0, .row 1], .row 2, .int .i64 a, .row 3, .row 4, .int .u8 k] [(0, .row false ty0 (.ints .i64 I.sup)), (1, .row false ty1 (.arcs I.arcs)), (2, .row false ty2 (.ints .i64 x)), (3, .row false ty3 (.ints .u8 c)), (4, .row false ty4 (.ints .u8 d))] (FlowAsks_r I x a c d k) := by
  refine FVc.of (FlowAsks_E0 I x a c d k ty0 ty1 ty2 ty3 ty4) (FlowAsks_q I x a c d k ty0 ty1 ty2 ty3 ty4) ?_
  unfold FlowAsks_E0
  obtain ⟨p1, p2, p3, p4, p5, p6, p7, p8, p9, p10, p11, p12, p13⟩ := hp
  have l1 := instF_sup c d
  have l2 := nOf_pos d
  have l3 := nOf_le d
  have l4 := instF_arcs c d
  have q1 := instF_A64 c d
  have q2 := instF_A64a c d
  have q3 := instF_A64c c d
  have q4 := instF_L42 c d
  have q5 := flowF_A64 c d d
  have q6 := flowF_len (instF c d) d
  have q7 := flowF_mem c d d
  have wk : IntKind.i64.wrap k = k := w64 (by omega) (by omega)
  simp only [eq_self, exists_const, forall_const, decide_eq_true_eq, decide_eq_false_iff_not, and_true, true_and, bne_iff_ne, ne_eq, bne_eq_false_iff_eq, Int.toNat_natCast, Bool.not_eq_true', Bool.not_eq_false', beq_iff_eq, beq_eq_false_iff_ne, nilEq_true]
  simp only [wk, false_implies, reduceCtorEq, Bool.not_true, Bool.true_eq_false, Bool.false_eq_true, implies_true, and_true, true_and]
  refine ⟨by omega, fun h1 h2 => ?_⟩
  have i1 : I.sup.length ≤ 10000 := by omega
  have i2 : I.arcs.length ≤ 10000 := by omega
  refine ⟨⟨p8, p9, p10, p11⟩, ⟨p9, by omega, q4⟩, ⟨p9, by omega, q4⟩, fun h3 => ?_, fun h3 => ?_⟩
  · have t0 := Int.emod_nonneg k (b := ((flowF (instF c d) d).length : Int)) (by omega)
    have t1 := Int.emod_lt_of_pos k (show (0 : Int) < (flowF (instF c d) d).length by omega)
    rw [tmod_pos p12]
    refine ⟨by omega, by omega, by omega, fun y hy => ⟨by decide, by omega, by omega, ⟨i1, i2, p4, p5, p6, p7⟩, ⟨by omega, by omega, p4, q1, q2, q3⟩, ?_, ⟨by omega, by omega, q5, q1, q2, q3⟩, ?_, ⟨by omega, by omega, ?_, q1, q2, q3⟩, by decide, i1, i2, q5, p5, p6, p7⟩⟩
    · rw [w64 (by omega) (by omega)]; omega
    · rw [w64 (by omega) (by omega)]; omega
    · have hy' := q7 y (List.mem_of_getElem? hy)
      refine q5.set ?_
      rw [tmod_pos p12, w64 (x := k % 7) (by omega) (by omega), w64 (x := k % 7 - 3) (by omega) (by omega), w64 (by omega) (by omega)]
      unfold I64; omega
  · refine ⟨⟨i1, i2, p4, p5, p6, p7⟩, ⟨by omega, by omega, p4, q1, q2, q3⟩, ?_, ⟨by omega, by omega, q5, q1, q2, q3⟩, ?_, ⟨by omega, by omega, q5, q1, q2, q3⟩, by decide, i1, i2, q5, p5, p6, p7⟩
    · rw [w64 (by omega) (by omega)]; omega
    · rw [w64 (by omega) (by omega)]; omega

theorem FlowAsks_ok : SpecOk Try.prog FlowAsks_n true (specOf true FlowAsks_fs) :=
  spec_ok' TT_ok (show GsOk Try.prog FlowAsks_g from gsOk_cons Size_ok (gsOk_cons known9_ok (gsOk_cons Inst_ok (gsOk_cons Flow_ok (gsOk_cons asks9_ok (gsOk_nil)))))) (by kernel_rfl) mixedOrders Try.func9 rfl rfl (by kernel_rfl) (n := 6) (by decide +kernel) (I := FlowAsks_IA) (fun _ _ => isOk_nil) (A := FlowAsks_A)
    (fun args h r hr => by
      unfold FlowAsks_fs at hr
      split at hr
      · rename_i a k ty0 I_s ty1 I_a ty2 x ty3 c ty4 d; cases hr; refine ⟨rfl, fun hp => ?_⟩; have hE := FlowAsks_E ⟨I_s, I_a⟩ x a c d k ty0 ty1 ty2 ty3 ty4 hp; exact hE
      · cases hr)

end Go.Proofs.Ytnoocfcmlilffaa
