/-
  CONTRACTS, PROVED: Inst, Without, known, bend, rWithout, asks, same.
-/
import Derived.Test.YtimkpgkpebjglaaFA3
import Derived.Test.YtimkpgkpebjglaaDA4
import Derived.Test.YtimkpgkpebjglaaAid
import Derived.Test.YtimkpgkpebjglaaBr
set_option linter.unusedVariables false
set_option maxRecDepth 100000
namespace Go.Proofs.Ytimkpgkpebjglaa
open Go Go.RowKit Go.Ql Go.Vc

def known_E0 : Prop :=
      True ∧
        ((rightF { sup := [(1 : Int), (-1 : Int)], arcs := [{ src := (0 : Int), dst := (1 : Int), low := (0 : Int), cap := (2 : Int), cost := (0 : Int) : Arc }] : Inst } == (0 : Int)) =
              true →
            True ∧
              ((rightF { sup := [(1 : Int), (-1 : Int)], arcs := [{ src := (0 : Int), dst := (1 : Int), low := (0 : Int), cap := (-1 : Int), cost := (0 : Int) : Arc }] : Inst } ==
                      (22 : Int)) =
                    true →
                  ((2 : Nat) ≤ (1000000000 : Nat) ∧ (1 : Nat) ≤ (1000000000 : Nat)) ∧
                    (((↑(spanF { sup := [(1 : Int), (-1 : Int)], arcs := [{ src := (0 : Int), dst := (1 : Int), low := (0 : Int), cap := (2 : Int), cost := (0 : Int) : Arc }] : Inst }) :
                              Int) ==
                            (3 : Int)) =
                          true →
                        ((2 : Nat) ≤ (1000000000 : Nat) ∧ (1 : Nat) ≤ (1000000000 : Nat)) ∧
                          (decide
                                  ({ sup := [(1 : Int), (-1 : Int)], arcs := [{ src := (0 : Int), dst := (1 : Int), low := (0 : Int), cap := (2 : Int), cost := (0 : Int) : Arc }] :
                                      Inst } =
                                    { sup := [(1 : Int), (-1 : Int)], arcs := [{ src := (0 : Int), dst := (1 : Int), low := (0 : Int), cap := (2 : Int), cost := (0 : Int) : Arc }] :
                                      Inst }) =
                                true →
                              ((2 : Nat) ≤ (1000000000 : Nat) ∧ (1 : Nat) ≤ (1000000000 : Nat)) ∧
                                ((!decide
                                          ({ sup := [(1 : Int), (-1 : Int)],
                                              arcs := [{ src := (0 : Int), dst := (1 : Int), low := (0 : Int), cap := (2 : Int), cost := (0 : Int) : Arc }] : Inst } =
                                            { sup := [(1 : Int), (-1 : Int)],
                                              arcs := [{ src := (0 : Int), dst := (1 : Int), low := (0 : Int), cap := (-1 : Int), cost := (0 : Int) : Arc }] : Inst })) =
                                      true →
                                    ((2 : Nat) ≤ (1000000 : Nat) ∧ (1 : Nat) ≤ (1000000 : Nat) ∧ (1 : Nat) ≤ (1000000 : Nat) ∧ (0 : Nat) ≤ (1000000 : Nat)) ∧
                                      (((↑(withoutF
                                                        { sup := [(1 : Int), (-1 : Int)],
                                                          arcs := [{ src := (0 : Int), dst := (1 : Int), low := (0 : Int), cap := (2 : Int), cost := (0 : Int) : Arc }] : Inst }
                                                        [true] []).arcs.length :
                                                Int) ==
                                              (0 : Int)) =
                                            true ∧
                                          True) ∧
                                        True) ∧
                                  ((!decide
                                          ({ sup := [(1 : Int), (-1 : Int)],
                                              arcs := [{ src := (0 : Int), dst := (1 : Int), low := (0 : Int), cap := (2 : Int), cost := (0 : Int) : Arc }] : Inst } =
                                            { sup := [(1 : Int), (-1 : Int)],
                                              arcs := [{ src := (0 : Int), dst := (1 : Int), low := (0 : Int), cap := (-1 : Int), cost := (0 : Int) : Arc }] : Inst })) =
                                      false →
                                    (false = true ∧ True) ∧ True)) ∧
                            (decide
                                  ({ sup := [(1 : Int), (-1 : Int)], arcs := [{ src := (0 : Int), dst := (1 : Int), low := (0 : Int), cap := (2 : Int), cost := (0 : Int) : Arc }] :
                                      Inst } =
                                    { sup := [(1 : Int), (-1 : Int)], arcs := [{ src := (0 : Int), dst := (1 : Int), low := (0 : Int), cap := (2 : Int), cost := (0 : Int) : Arc }] :
                                      Inst }) =
                                false →
                              (false = true ∧ True) ∧ True)) ∧
                      (((↑(spanF
                                  { sup := [(1 : Int), (-1 : Int)], arcs := [{ src := (0 : Int), dst := (1 : Int), low := (0 : Int), cap := (2 : Int), cost := (0 : Int) : Arc }] :
                                    Inst }) :
                              Int) ==
                            (3 : Int)) =
                          false →
                        (false = true ∧ True) ∧ True)) ∧
                ((rightF { sup := [(1 : Int), (-1 : Int)], arcs := [{ src := (0 : Int), dst := (1 : Int), low := (0 : Int), cap := (-1 : Int), cost := (0 : Int) : Arc }] : Inst } ==
                      (22 : Int)) =
                    false →
                  (false = true ∧ True) ∧ True)) ∧
          ((rightF { sup := [(1 : Int), (-1 : Int)], arcs := [{ src := (0 : Int), dst := (1 : Int), low := (0 : Int), cap := (2 : Int), cost := (0 : Int) : Arc }] : Inst } ==
                (0 : Int)) =
              false →
            (false = true ∧ True) ∧ True)
theorem known_q : known_E0 = FVcP TT known_g (known_an) Try.f12 [] [] (known_r) := by kernel_rfl
theorem known_E (hp : True) : FVc TT known_g (known_an) Try.f12 [] [] (known_r) := by
  refine FVc.of (known_E0) (known_q) ?_
  unfold known_E0
  have k1 : rightF ⟨[1, -1], [⟨0, 1, 0, 2, 0⟩]⟩ = 0 := by decide
  have k2 : rightF ⟨[1, -1], [⟨0, 1, 0, -1, 0⟩]⟩ = 22 := by decide
  have k3 : spanF ⟨[1, -1], [⟨0, 1, 0, 2, 0⟩]⟩ = 3 := by decide
  have k4 : (withoutF ⟨[1, -1], [⟨0, 1, 0, 2, 0⟩]⟩ [true] []).arcs = [] := by decide
  simp [k1, k2, k3, k4]

theorem known_ok : SpecOk Try.prog known_n true (specOf true known_fs) :=
  spec_ok' TT_ok (show GsOk Try.prog known_g from gsOk_cons Right_ok (gsOk_cons Span_ok (gsOk_cons Same_ok (gsOk_cons Without_ok (gsOk_nil))))) mixedOrders Try.func12 rfl rfl (by kernel_rfl) (n := 0) (by decide +kernel) (A := known_A)
    (fun args h r hr => by
      unfold known_fs at hr
      split at hr
      · cases hr; refine ⟨rfl, fun hp => ?_⟩; have hE := known_E  hp; exact hE
      · cases hr)

def bend_E0 (I : Inst) (x : Int) (f : Int) (n : Int) : Prop :=
      (((↑I.arcs.length : Int) == (0 : Int)) = true →
          (↑I.sup.length : Int) ≠ (0 : Int) ∧
            ((0 : Int) ≤ (IntKind.i64.wrap x).tmod (↑I.sup.length : Int) ∧ (IntKind.i64.wrap x).tmod (↑I.sup.length : Int) < (↑I.sup.length : Int)) ∧
              ((IntKind.i64.wrap x).tmod (↑I.sup.length : Int)).toNat < I.sup.length ∧
                (True ∧ True) ∧ I.sup.set ((IntKind.i64.wrap x).tmod (↑I.sup.length : Int)).toNat n = (bendF I x f n).sup ∧ I.arcs = (bendF I x f n).arcs ∧ True) ∧
        (((↑I.arcs.length : Int) == (0 : Int)) = false →
          (7 : Int) ≠ (0 : Int) ∧
            ((f.tmod (7 : Int) == (6 : Int)) = true →
                (↑I.sup.length : Int) ≠ (0 : Int) ∧
                  ((0 : Int) ≤ (IntKind.i64.wrap x).tmod (↑I.sup.length : Int) ∧ (IntKind.i64.wrap x).tmod (↑I.sup.length : Int) < (↑I.sup.length : Int)) ∧
                    ((IntKind.i64.wrap x).tmod (↑I.sup.length : Int)).toNat < I.sup.length ∧
                      (True ∧ True) ∧ I.sup.set ((IntKind.i64.wrap x).tmod (↑I.sup.length : Int)).toNat n = (bendF I x f n).sup ∧ I.arcs = (bendF I x f n).arcs ∧ True) ∧
              ((f.tmod (7 : Int) == (6 : Int)) = false →
                (↑I.arcs.length : Int) ≠ (0 : Int) ∧
                  (7 : Int) ≠ (0 : Int) ∧
                    ((f.tmod (7 : Int) == (0 : Int)) = true →
                        ((0 : Int) ≤ (IntKind.i64.wrap x).tmod (↑I.arcs.length : Int) ∧ (IntKind.i64.wrap x).tmod (↑I.arcs.length : Int) < (↑I.arcs.length : Int)) ∧
                          ((IntKind.i64.wrap x).tmod (↑I.arcs.length : Int)).toNat < I.arcs.length ∧
                            ∀ (x_1 : Arc),
                              I.arcs[((IntKind.i64.wrap x).tmod (↑I.arcs.length : Int)).toNat]? = some x_1 →
                                (True ∧ True) ∧
                                  I.sup = (bendF I x f n).sup ∧
                                    I.arcs.set ((IntKind.i64.wrap x).tmod (↑I.arcs.length : Int)).toNat
                                          { src := n, dst := x_1.dst, low := x_1.low, cap := x_1.cap, cost := x_1.cost : Arc } =
                                        (bendF I x f n).arcs ∧
                                      True) ∧
                      ((f.tmod (7 : Int) == (0 : Int)) = false →
                        ((f.tmod (7 : Int) == (1 : Int)) = true →
                            ((0 : Int) ≤ (IntKind.i64.wrap x).tmod (↑I.arcs.length : Int) ∧ (IntKind.i64.wrap x).tmod (↑I.arcs.length : Int) < (↑I.arcs.length : Int)) ∧
                              ((IntKind.i64.wrap x).tmod (↑I.arcs.length : Int)).toNat < I.arcs.length ∧
                                ∀ (x_1 : Arc),
                                  I.arcs[((IntKind.i64.wrap x).tmod (↑I.arcs.length : Int)).toNat]? = some x_1 →
                                    (True ∧ True) ∧
                                      I.sup = (bendF I x f n).sup ∧
                                        I.arcs.set ((IntKind.i64.wrap x).tmod (↑I.arcs.length : Int)).toNat
                                              { src := x_1.src, dst := n, low := x_1.low, cap := x_1.cap, cost := x_1.cost : Arc } =
                                            (bendF I x f n).arcs ∧
                                          True) ∧
                          ((f.tmod (7 : Int) == (1 : Int)) = false →
                            ((f.tmod (7 : Int) == (2 : Int)) = true →
                                ((0 : Int) ≤ (IntKind.i64.wrap x).tmod (↑I.arcs.length : Int) ∧ (IntKind.i64.wrap x).tmod (↑I.arcs.length : Int) < (↑I.arcs.length : Int)) ∧
                                  ((IntKind.i64.wrap x).tmod (↑I.arcs.length : Int)).toNat < I.arcs.length ∧
                                    ∀ (x_1 : Arc),
                                      I.arcs[((IntKind.i64.wrap x).tmod (↑I.arcs.length : Int)).toNat]? = some x_1 →
                                        (True ∧ True) ∧
                                          I.sup = (bendF I x f n).sup ∧
                                            I.arcs.set ((IntKind.i64.wrap x).tmod (↑I.arcs.length : Int)).toNat
                                                  { src := x_1.src, dst := x_1.dst, low := n, cap := x_1.cap, cost := x_1.cost : Arc } =
                                                (bendF I x f n).arcs ∧
                                              True) ∧
                              ((f.tmod (7 : Int) == (2 : Int)) = false →
                                ((f.tmod (7 : Int) == (3 : Int)) = true →
                                    ((0 : Int) ≤ (IntKind.i64.wrap x).tmod (↑I.arcs.length : Int) ∧ (IntKind.i64.wrap x).tmod (↑I.arcs.length : Int) < (↑I.arcs.length : Int)) ∧
                                      ((IntKind.i64.wrap x).tmod (↑I.arcs.length : Int)).toNat < I.arcs.length ∧
                                        ∀ (x_1 : Arc),
                                          I.arcs[((IntKind.i64.wrap x).tmod (↑I.arcs.length : Int)).toNat]? = some x_1 →
                                            (True ∧ True) ∧
                                              I.sup = (bendF I x f n).sup ∧
                                                I.arcs.set ((IntKind.i64.wrap x).tmod (↑I.arcs.length : Int)).toNat
                                                      { src := x_1.src, dst := x_1.dst, low := x_1.low, cap := n, cost := x_1.cost : Arc } =
                                                    (bendF I x f n).arcs ∧
                                                  True) ∧
                                  ((f.tmod (7 : Int) == (3 : Int)) = false →
                                    ((f.tmod (7 : Int) == (4 : Int)) = true →
                                        ((0 : Int) ≤ (IntKind.i64.wrap x).tmod (↑I.arcs.length : Int) ∧ (IntKind.i64.wrap x).tmod (↑I.arcs.length : Int) < (↑I.arcs.length : Int)) ∧
                                          ((IntKind.i64.wrap x).tmod (↑I.arcs.length : Int)).toNat < I.arcs.length ∧
                                            ∀ (x_1 : Arc),
                                              I.arcs[((IntKind.i64.wrap x).tmod (↑I.arcs.length : Int)).toNat]? = some x_1 →
                                                (True ∧ True) ∧
                                                  I.sup = (bendF I x f n).sup ∧
                                                    I.arcs.set ((IntKind.i64.wrap x).tmod (↑I.arcs.length : Int)).toNat
                                                          { src := x_1.src, dst := x_1.dst, low := x_1.low, cap := x_1.cap, cost := n : Arc } =
                                                        (bendF I x f n).arcs ∧
                                                      True) ∧
                                      ((f.tmod (7 : Int) == (4 : Int)) = false → (True ∧ True) ∧ I.sup = (bendF I x f n).sup ∧ I.arcs = (bendF I x f n).arcs ∧ True)))))))
theorem bend_q (I : Inst) (x : Int) (f : Int) (n : Int) : bend_E0 I x f n = FVcP TT bend_g (bend_an I x f n) Try.f11 [.agg [.row 0, .row 1], .int .u8 x, .int .u8 f, .int .i64 n] [(0, .row true 2 (.ints .i64 I.sup)), (1, .row true 41 (.arcs I.arcs))] (bend_r I x f n) := by kernel_rfl
theorem bend_E (I : Inst) (x : Int) (f : Int) (n : Int) (hp : 0 < I.sup.length ∧ I.sup.length ≤ 1000000 ∧ I.arcs.length ≤ 1000000 ∧ 0 ≤ x ∧ x ≤ 255 ∧ 0 ≤ f ∧ f ≤ 255) : FVc TT bend_g (bend_an I x f n) Try.f11 [.agg [.row 0, .row 1], .int .u8 x, .int .u8 f, .int .i64 n] [(0, .row true 2 (.ints .i64 I.sup)), (1, .row true 41 (.arcs I.arcs))] (bend_r I x f n) := by
  refine FVc.of (bend_E0 I x f n) (bend_q I x f n) ?_
  unfold bend_E0
  simp only [eq_self, decide_eq_true_eq, decide_eq_false_iff_not, and_true, true_and, bne_iff_ne, ne_eq, bne_eq_false_iff_eq, Int.toNat_natCast, Bool.not_eq_true', Bool.not_eq_false', beq_iff_eq, beq_eq_false_iff_ne]
  obtain ⟨s, a⟩ := I
  obtain ⟨h1, h2, h3, h4, h5, h6, h7⟩ := hp
  dsimp only at *
  have e1 : IntKind.i64.wrap x = x := w64 (by omega) (by omega)
  have e2 : ∀ m : Int, x.tmod m = x % m := fun m => tmod_pos h4
  have e3 : f.tmod 7 = f % 7 := tmod_pos h6
  have hs0 := Int.emod_nonneg x (b := (s.length : Int)) (by omega)
  have hs1 := Int.emod_lt_of_pos x (show (0 : Int) < s.length by omega)
  simp only [e1, e2, e3]
  have hset : ∀ (i : Nat) (y : Arc), a[(x % (a.length : Int)).toNat]? = some y → a.getD (x % (a.length : Int)).toNat default = y := fun i y hy => by simp [List.getD, hy]
  refine ⟨fun q => ⟨by omega, by omega, by omega, ?_, ?_⟩, fun q => ⟨by omega, fun q1 => ⟨by omega, by omega, by omega, ?_, ?_⟩, fun q1 => ⟨by omega, by omega, ?_⟩⟩⟩
  · simp [bendF, show a = [] by simpa using q]
  · simp [bendF, show a = [] by simpa using q]
  · simp [bendF, q1]
  · simp [bendF, q1]
  have ha0 : 0 < a.length := by omega
  have hm0 := Int.emod_nonneg x (b := (a.length : Int)) (by omega)
  have hm1 := Int.emod_lt_of_pos x (show (0 : Int) < a.length by omega)
  have hne : ¬ (a.length = 0) := by omega
  refine ⟨fun q2 => ⟨by omega, by omega, fun y hy => ?_⟩, fun q2 => ⟨fun q3 => ⟨by omega, by omega, fun y hy => ?_⟩, fun q3 => ⟨fun q4 => ⟨by omega, by omega, fun y hy => ?_⟩, fun q4 => ⟨fun q5 => ⟨by omega, by omega, fun y hy => ?_⟩, fun q5 => ⟨fun q6 => ⟨by omega, by omega, fun y hy => ?_⟩, fun q6 => ?_⟩⟩⟩⟩⟩
  all_goals first
    | (have hy' := hset 0 y hy
       simp only [bendF, hne, q1, false_or, if_false, hy']
       simp_all [setF]
       done)
    | (have h5' : f % 7 = 5 := by omega
       simp [bendF, hne, h5'])

theorem bend_ok : SpecOk Try.prog bend_n false (specOf false bend_fs) :=
  spec_ok' TT_ok (show GsOk Try.prog bend_g from gsOk_nil) mixedOrders Try.func11 rfl rfl (by kernel_rfl) (n := 4) (by decide +kernel) (A := bend_A)
    (fun args h r hr => by
      unfold bend_fs at hr
      split at hr
      · rename_i x f n I_s I_a; cases hr; refine ⟨rfl, fun hp => ?_⟩; have hE := bend_E ⟨I_s, I_a⟩ x f n hp; exact hE
      · cases hr)

def rWithout_E0 (I : Inst) (nodes : List Bool) (offs : List Bool) (ty0 ty1 ty2 ty3 : TypeId) : Prop :=
      True ∧
        ∃ (g0 : Nat),
          (g0 ≤ (keptNodes I nodes).length ∧
              (True ∧ (0 : Nat) = (0 : Nat) ∧ (0 : Nat) = (0 : Nat) ∧ (0 : Nat) = (0 : Nat) ∧ True ∧ (0 : Int) = (↑g0 : Int) ∧ True) ∧
                List.map Int.ofNat (keptF nodes (keptN (↑I.sup.length : Int))) = List.map Int.ofNat (keptF nodes (keptN (↑I.sup.length : Int))) ∧
                  (True ∧ True ∧ True) ∧
                    [] = List.map (fun (j : Nat) => I.sup.getD j (0 : Int)) (List.take g0 (keptNodes I nodes)) ∧
                      nilEq Arc ∧ (True ∧ True ∧ True) ∧ nilEq Int ∧ nilEq Arc ∧ (True ∧ True ∧ True) ∧ I.sup = I.sup ∧ I.arcs = I.arcs ∧ offs = offs ∧ True) ∧
            ∀ (g : Nat),
              g ≤ (keptNodes I nodes).length →
                (decide ((↑g : Int) < (↑(List.map Int.ofNat (keptF nodes (keptN (↑I.sup.length : Int)))).length : Int)) = true →
                    ((0 : Int) ≤ (↑g : Int) ∧ (↑g : Int) < (↑(List.map Int.ofNat (keptF nodes (keptN (↑I.sup.length : Int)))).length : Int)) ∧
                      (↑g : Int).toNat < (List.map Int.ofNat (keptF nodes (keptN (↑I.sup.length : Int)))).length ∧
                        ∀ (x : Int),
                          (List.map Int.ofNat (keptF nodes (keptN (↑I.sup.length : Int))))[(↑g : Int).toNat]? = some x →
                            ((0 : Int) ≤ x ∧ x < (↑I.sup.length : Int)) ∧
                              x.toNat < I.sup.length ∧
                                ∀ (x_1 : Int),
                                  I.sup[x.toNat]? = some x_1 →
                                    (List.map (fun (j : Nat) => I.sup.getD j (0 : Int)) (List.take g (keptNodes I nodes))).length + (1 : Nat) ≤ (1000000000 : Nat) ∧
                                      ∃ (g' : Nat),
                                        g' ≤ (keptNodes I nodes).length ∧
                                          (keptNodes I nodes).length - g' < (keptNodes I nodes).length - g ∧
                                            (True ∧
                                                (0 : Nat) = (0 : Nat) ∧
                                                  (0 : Nat) = (0 : Nat) ∧ (0 : Nat) = (0 : Nat) ∧ True ∧ IntKind.i64.wrap ((↑g : Int) + (1 : Int)) = (↑g' : Int) ∧ True) ∧
                                              List.map Int.ofNat (keptF nodes (keptN (↑I.sup.length : Int))) = List.map Int.ofNat (keptF nodes (keptN (↑I.sup.length : Int))) ∧
                                                (True ∧ True ∧ True) ∧
                                                  List.map (fun (j : Nat) => I.sup.getD j (0 : Int)) (List.take g (keptNodes I nodes)) ++ [x_1] =
                                                      List.map (fun (j : Nat) => I.sup.getD j (0 : Int)) (List.take g' (keptNodes I nodes)) ∧
                                                    nilEq Arc ∧
                                                      (True ∧ True ∧ True) ∧ nilEq Int ∧ nilEq Arc ∧ (True ∧ True ∧ True) ∧ I.sup = I.sup ∧ I.arcs = I.arcs ∧ offs = offs ∧ True) ∧
                  (decide ((↑g : Int) < (↑(List.map Int.ofNat (keptF nodes (keptN (↑I.sup.length : Int)))).length : Int)) = false →
                    True ∧
                      ∃ (g0 : Nat),
                        (g0 ≤ (keptArcs I offs).length ∧
                            ((0 : Nat) = (0 : Nat) ∧ (0 : Nat) = (0 : Nat) ∧ (0 : Nat) = (0 : Nat) ∧ True ∧ True ∧ (0 : Int) = (↑g0 : Int) ∧ True) ∧
                              List.map Int.ofNat (keptF offs (keptN (↑I.arcs.length : Int))) = List.map Int.ofNat (keptF offs (keptN (↑I.arcs.length : Int))) ∧
                                List.map Int.ofNat (keptF nodes (keptN (↑I.sup.length : Int))) = List.map Int.ofNat (keptF nodes (keptN (↑I.sup.length : Int))) ∧
                                  (True ∧ True ∧ True) ∧
                                    List.map (fun (j : Nat) => I.sup.getD j (0 : Int)) (List.take g (keptNodes I nodes)) = (withoutF I nodes offs).sup ∧
                                      [] = List.filterMap (fun (j : Nat) => keepArc (keptNodes I nodes) (I.arcs.getD j default)) (List.take g0 (keptArcs I offs)) ∧
                                        (True ∧ True ∧ True) ∧ nilEq Int ∧ nilEq Arc ∧ (True ∧ True ∧ True) ∧ I.sup = I.sup ∧ I.arcs = I.arcs ∧ True) ∧
                          ∀ (g : Nat),
                            g ≤ (keptArcs I offs).length →
                              (decide ((↑g : Int) < (↑(List.map Int.ofNat (keptF offs (keptN (↑I.arcs.length : Int)))).length : Int)) = true →
                                  ((0 : Int) ≤ (↑g : Int) ∧ (↑g : Int) < (↑(List.map Int.ofNat (keptF offs (keptN (↑I.arcs.length : Int)))).length : Int)) ∧
                                    (↑g : Int).toNat < (List.map Int.ofNat (keptF offs (keptN (↑I.arcs.length : Int)))).length ∧
                                      ∀ (x : Int),
                                        (List.map Int.ofNat (keptF offs (keptN (↑I.arcs.length : Int))))[(↑g : Int).toNat]? = some x →
                                          ((0 : Int) ≤ x ∧ x < (↑I.arcs.length : Int)) ∧
                                            x.toNat < I.arcs.length ∧
                                              ∀ (x_1 : Arc),
                                                I.arcs[x.toNat]? = some x_1 →
                                                  (List.map Int.ofNat (keptF nodes (keptN (↑I.sup.length : Int)))).length ≤ (1000000000 : Nat) ∧
                                                    (List.map Int.ofNat (keptF nodes (keptN (↑I.sup.length : Int)))).length ≤ (1000000000 : Nat) ∧
                                                      (decide (placeI x_1.src (List.map Int.ofNat (keptF nodes (keptN (↑I.sup.length : Int)))) (0 : Nat) ≥ (0 : Int)) = true →
                                                          (decide (placeI x_1.dst (List.map Int.ofNat (keptF nodes (keptN (↑I.sup.length : Int)))) (0 : Nat) ≥ (0 : Int)) = true →
                                                              (List.filterMap (fun (j : Nat) => keepArc (keptNodes I nodes) (I.arcs.getD j default))
                                                                        (List.take g (keptArcs I offs))).length +
                                                                    (1 : Nat) ≤
                                                                  (1000000000 : Nat) ∧
                                                                ∃ (g' : Nat),
                                                                  g' ≤ (keptArcs I offs).length ∧
                                                                    (keptArcs I offs).length - g' < (keptArcs I offs).length - g ∧
                                                                      ((0 : Nat) = (0 : Nat) ∧
                                                                          (0 : Nat) = (0 : Nat) ∧
                                                                            (0 : Nat) = (0 : Nat) ∧ True ∧ True ∧ IntKind.i64.wrap ((↑g : Int) + (1 : Int)) = (↑g' : Int) ∧ True) ∧
                                                                        List.map Int.ofNat (keptF offs (keptN (↑I.arcs.length : Int))) =
                                                                            List.map Int.ofNat (keptF offs (keptN (↑I.arcs.length : Int))) ∧
                                                                          List.map Int.ofNat (keptF nodes (keptN (↑I.sup.length : Int))) =
                                                                              List.map Int.ofNat (keptF nodes (keptN (↑I.sup.length : Int))) ∧
                                                                            (True ∧ True ∧ True) ∧
                                                                              (withoutF I nodes offs).sup = (withoutF I nodes offs).sup ∧
                                                                                List.filterMap (fun (j : Nat) => keepArc (keptNodes I nodes) (I.arcs.getD j default))
                                                                                        (List.take g (keptArcs I offs)) ++
                                                                                      [{ src := placeI x_1.src (List.map Int.ofNat (keptF nodes (keptN (↑I.sup.length : Int)))) (0 : Nat),
                                                                                          dst :=
                                                                                            placeI x_1.dst (List.map Int.ofNat (keptF nodes (keptN (↑I.sup.length : Int)))) (0 : Nat),
                                                                                          low := x_1.low, cap := x_1.cap, cost := x_1.cost : Arc }] =
                                                                                    List.filterMap (fun (j : Nat) => keepArc (keptNodes I nodes) (I.arcs.getD j default))
                                                                                      (List.take g' (keptArcs I offs)) ∧
                                                                                  (True ∧ True ∧ True) ∧
                                                                                    nilEq Int ∧ nilEq Arc ∧ (True ∧ True ∧ True) ∧ I.sup = I.sup ∧ I.arcs = I.arcs ∧ True) ∧
                                                            (decide (placeI x_1.dst (List.map Int.ofNat (keptF nodes (keptN (↑I.sup.length : Int)))) (0 : Nat) ≥ (0 : Int)) = false →
                                                              ∃ (g' : Nat),
                                                                g' ≤ (keptArcs I offs).length ∧
                                                                  (keptArcs I offs).length - g' < (keptArcs I offs).length - g ∧
                                                                    ((0 : Nat) = (0 : Nat) ∧
                                                                        (0 : Nat) = (0 : Nat) ∧
                                                                          (0 : Nat) = (0 : Nat) ∧ True ∧ True ∧ IntKind.i64.wrap ((↑g : Int) + (1 : Int)) = (↑g' : Int) ∧ True) ∧
                                                                      List.map Int.ofNat (keptF offs (keptN (↑I.arcs.length : Int))) =
                                                                          List.map Int.ofNat (keptF offs (keptN (↑I.arcs.length : Int))) ∧
                                                                        List.map Int.ofNat (keptF nodes (keptN (↑I.sup.length : Int))) =
                                                                            List.map Int.ofNat (keptF nodes (keptN (↑I.sup.length : Int))) ∧
                                                                          (True ∧ True ∧ True) ∧
                                                                            (withoutF I nodes offs).sup = (withoutF I nodes offs).sup ∧
                                                                              List.filterMap (fun (j : Nat) => keepArc (keptNodes I nodes) (I.arcs.getD j default))
                                                                                    (List.take g (keptArcs I offs)) =
                                                                                  List.filterMap (fun (j : Nat) => keepArc (keptNodes I nodes) (I.arcs.getD j default))
                                                                                    (List.take g' (keptArcs I offs)) ∧
                                                                                (True ∧ True ∧ True) ∧
                                                                                  nilEq Int ∧ nilEq Arc ∧ (True ∧ True ∧ True) ∧ I.sup = I.sup ∧ I.arcs = I.arcs ∧ True)) ∧
                                                        (decide (placeI x_1.src (List.map Int.ofNat (keptF nodes (keptN (↑I.sup.length : Int)))) (0 : Nat) ≥ (0 : Int)) = false →
                                                          ∃ (g' : Nat),
                                                            g' ≤ (keptArcs I offs).length ∧
                                                              (keptArcs I offs).length - g' < (keptArcs I offs).length - g ∧
                                                                ((0 : Nat) = (0 : Nat) ∧
                                                                    (0 : Nat) = (0 : Nat) ∧
                                                                      (0 : Nat) = (0 : Nat) ∧ True ∧ True ∧ IntKind.i64.wrap ((↑g : Int) + (1 : Int)) = (↑g' : Int) ∧ True) ∧
                                                                  List.map Int.ofNat (keptF offs (keptN (↑I.arcs.length : Int))) =
                                                                      List.map Int.ofNat (keptF offs (keptN (↑I.arcs.length : Int))) ∧
                                                                    List.map Int.ofNat (keptF nodes (keptN (↑I.sup.length : Int))) =
                                                                        List.map Int.ofNat (keptF nodes (keptN (↑I.sup.length : Int))) ∧
                                                                      (True ∧ True ∧ True) ∧
                                                                        (withoutF I nodes offs).sup = (withoutF I nodes offs).sup ∧
                                                                          List.filterMap (fun (j : Nat) => keepArc (keptNodes I nodes) (I.arcs.getD j default))
                                                                                (List.take g (keptArcs I offs)) =
                                                                              List.filterMap (fun (j : Nat) => keepArc (keptNodes I nodes) (I.arcs.getD j default))
                                                                                (List.take g' (keptArcs I offs)) ∧
                                                                            (True ∧ True ∧ True) ∧
                                                                              nilEq Int ∧ nilEq Arc ∧ (True ∧ True ∧ True) ∧ I.sup = I.sup ∧ I.arcs = I.arcs ∧ True)) ∧
                                (decide ((↑g : Int) < (↑(List.map Int.ofNat (keptF offs (keptN (↑I.arcs.length : Int)))).length : Int)) = false →
                                  ((True ∧ True ∧ True) ∧ True) ∧
                                    (withoutF I nodes offs).sup = (withoutF I nodes offs).sup ∧
                                      List.filterMap (fun (j : Nat) => keepArc (keptNodes I nodes) (I.arcs.getD j default)) (List.take g (keptArcs I offs)) =
                                          (withoutF I nodes offs).arcs ∧
                                        True))
theorem rWithout_q (I : Inst) (nodes : List Bool) (offs : List Bool) (ty0 ty1 ty2 ty3 : TypeId) : rWithout_E0 I nodes offs ty0 ty1 ty2 ty3 = FVcP TT rWithout_g (rWithout_an I nodes offs) Try.f39 [.agg [.row 0, .row 1], .row 2, .row 3] [(0, .row false ty0 (.ints .i64 I.sup)), (1, .row false ty1 (.arcs I.arcs)), (2, .row false ty2 (.bools nodes)), (3, .row false ty3 (.bools offs))] (rWithout_r I nodes offs) := by kernel_rfl
theorem rWithout_E (I : Inst) (nodes : List Bool) (offs : List Bool) (ty0 ty1 ty2 ty3 : TypeId) (hp : I.sup.length ≤ 1000000 ∧ I.arcs.length ≤ 1000000) : FVc TT rWithout_g (rWithout_an I nodes offs) Try.f39 [.agg [.row 0, .row 1], .row 2, .row 3] [(0, .row false ty0 (.ints .i64 I.sup)), (1, .row false ty1 (.arcs I.arcs)), (2, .row false ty2 (.bools nodes)), (3, .row false ty3 (.bools offs))] (rWithout_r I nodes offs) := by
  refine FVc.of (rWithout_E0 I nodes offs ty0 ty1 ty2 ty3) (rWithout_q I nodes offs ty0 ty1 ty2 ty3) ?_
  unfold rWithout_E0
  have hN : ∀ n : Nat, keptN (n : Int) ≤ n ∧ keptN (n : Int) ≤ 1000 := fun n => by unfold keptN; omega
  have hn := hN I.sup.length
  have ha := hN I.arcs.length
  have ln := keptF_len nodes (keptN I.sup.length)
  have la := keptF_len offs (keptN I.arcs.length)
  simp only [eq_self, decide_eq_true_eq, decide_eq_false_iff_not, and_true, true_and, bne_iff_ne, ne_eq, bne_eq_false_iff_eq, Int.toNat_natCast, Bool.not_eq_true', Bool.not_eq_false', beq_iff_eq, beq_eq_false_iff_ne]
  simp only [nilEq_true, and_true, true_and, placeI_map, List.length_map, List.getElem?_map]
  refine ⟨0, by simp, fun k hk => ⟨fun h1 => ⟨⟨by omega, h1⟩, by omega, fun x hx => ?_⟩, fun h1 => ?_⟩⟩
  · obtain ⟨z, hz, rfl⟩ := Option.map_eq_some_iff.1 hx
    have hzl := keptF_lt (List.mem_of_getElem? hz)
    simp only [Int.ofNat_eq_natCast, Int.toNat_natCast]
    refine ⟨⟨by omega, by omega⟩, by omega, fun y hy => ⟨?_, k + 1, ?_, ?_, ?_, ?_⟩⟩
    · have := List.length_take_le k (keptNodes I nodes); have : (keptNodes I nodes).length ≤ 1000 := by unfold keptNodes; omega
      omega
    · have := get_lt hz; unfold keptNodes; omega
    · have := get_lt hz; unfold keptNodes; omega
    · have := get_lt hz; exact w64 (by omega) (by omega)
    · rw [take_get (show (keptNodes I nodes)[k]? = some z from hz)]
      simp [List.getD, hy]
  · have hk' : (keptNodes I nodes).take k = keptNodes I nodes := List.take_of_length_le (by unfold keptNodes; omega)
    refine ⟨0, ⟨by omega, by simp, by rw [hk']; rfl, by simp⟩, fun j hj => ⟨fun h2 => ⟨⟨by omega, h2⟩, by omega, fun x hx => ?_⟩, fun h2 => ?_⟩⟩
    · obtain ⟨z, hz, rfl⟩ := Option.map_eq_some_iff.1 hx
      have hzl := keptF_lt (List.mem_of_getElem? hz)
      have hjl := get_lt hz
      simp only [Int.ofNat_eq_natCast, Int.toNat_natCast]
      refine ⟨⟨by omega, by omega⟩, by omega, fun y hy => ⟨by omega, by omega, ?_⟩⟩
      have htk := take_get (show (keptArcs I offs)[j]? = some z from hz)
      have hget : I.arcs.getD z default = y := by simp [List.getD, hy]
      have hlen : (((keptArcs I offs).take j).filterMap (fun j => keepArc (keptNodes I nodes) (I.arcs.getD j default))).length ≤ 1000 :=
        Nat.le_trans (List.length_filterMap_le _ _) (Nat.le_trans (List.length_take_le _ _) (by omega))
      have hkn : keptF nodes (keptN I.sup.length) = keptNodes I nodes := rfl
      simp only [hkn]
      have hka : (keptArcs I offs).length = (keptF offs (keptN I.arcs.length)).length := rfl
      refine ⟨fun q1 => ⟨fun q2 => ⟨by omega, j + 1, by omega, by omega, w64 (by omega) (by omega), ?_⟩, fun q2 => ⟨j + 1, by omega, by omega, w64 (by omega) (by omega), ?_⟩⟩, fun q1 => ⟨j + 1, by omega, by omega, w64 (by omega) (by omega), ?_⟩⟩
      all_goals
        rw [htk, List.filterMap_append]
        simp only [List.filterMap_cons, List.filterMap_nil, hget, keepArc]
      · rw [if_pos ⟨q1, q2⟩]
      · rw [if_neg (fun h => q2 h.2)]; simp
      · rw [if_neg (fun h => q1 h.1)]; simp
    · have hj' : (keptArcs I offs).take j = keptArcs I offs := List.take_of_length_le (by unfold keptArcs; omega)
      rw [hj']; rfl

theorem rWithout_ok : SpecOk Try.prog rWithout_n true (specOf true rWithout_fs) :=
  spec_ok' TT_ok (show GsOk Try.prog rWithout_g from gsOk_cons rKept_ok (gsOk_cons Place_ok (gsOk_nil))) mixedOrders Try.func39 rfl rfl (by kernel_rfl) (n := 3) (by decide +kernel) (A := rWithout_A)
    (fun args h r hr => by
      unfold rWithout_fs at hr
      split at hr
      · rename_i ty0 I_s ty1 I_a ty2 nodes ty3 offs; cases hr; refine ⟨rfl, fun hp => ?_⟩; have hE := rWithout_E ⟨I_s, I_a⟩ nodes offs ty0 ty1 ty2 ty3 hp; exact hE
      · cases hr)

theorem rightF_small (I : Inst) : 0 ≤ rightF I ∧ rightF I ≤ 25 := by
  have h1 : ∀ (n : Int) (l : List Arc), 0 ≤ arcsErr n l ∧ arcsErr n l ≤ 23 := fun n l => by
    induction l with
    | nil => simp [arcsErr]
    | cons x l ih => simp only [arcsErr]; unfold rightArcF at *; (repeat' split) <;> omega
  have h2 : ∀ (l : List Int) (s : Int), 0 ≤ supErr l s ∧ supErr l s ≤ 25 := fun l => by
    induction l with
    | nil => intro s; simp only [supErr]; split <;> omega
    | cons x l ih => intro s; simp only [supErr]; split
                     · omega
                     · exact ih _
  have := h1 I.sup.length I.arcs
  have := h2 I.sup 0
  unfold rightF; (repeat' split) <;> omega
theorem withoutF_len (I : Inst) (nodes offs : List Bool) : (withoutF I nodes offs).sup.length ≤ 1000 ∧ (withoutF I nodes offs).arcs.length ≤ 1000 := by
  have h1 := keptF_len nodes (keptN I.sup.length)
  have h2 := keptF_len offs (keptN I.arcs.length)
  have h3 : keptN I.sup.length ≤ 1000 := by unfold keptN; omega
  have h4 : keptN I.arcs.length ≤ 1000 := by unfold keptN; omega
  refine ⟨by simp [withoutF, keptNodes]; omega, ?_⟩
  simp only [withoutF, keptArcs]
  exact Nat.le_trans (List.length_filterMap_le _ _) (by omega)

def asks_E0 (I : Inst) (nodes : List Bool) (offs : List Bool) (ty0 ty1 ty2 ty3 : TypeId) : Prop :=
      True ∧
        True ∧
          ((IntKind.i64.wrap (rightF { sup := I.sup, arcs := I.arcs : Inst }) == rightF { sup := I.sup, arcs := I.arcs : Inst }) = true →
              (I.sup.length ≤ (1000000000 : Nat) ∧ I.arcs.length ≤ (1000000000 : Nat)) ∧
                (I.sup.length ≤ (1000000000 : Nat) ∧ I.arcs.length ≤ (1000000000 : Nat)) ∧
                  (((↑(spanF { sup := I.sup, arcs := I.arcs : Inst }) : Int) == (↑(spanF { sup := I.sup, arcs := I.arcs : Inst }) : Int)) = true →
                      (I.sup.length ≤ (1000000000 : Nat) ∧ I.arcs.length ≤ (1000000000 : Nat)) ∧
                        (I.sup.length ≤ (1000000000 : Nat) ∧ I.arcs.length ≤ (1000000000 : Nat)) ∧
                          (decide ({ sup := I.sup, arcs := I.arcs : Inst } = { sup := I.sup, arcs := I.arcs : Inst }) = true →
                              (I.sup.length ≤ (1000000 : Nat) ∧ I.arcs.length ≤ (1000000 : Nat) ∧ nodes.length ≤ (1000000 : Nat) ∧ offs.length ≤ (1000000 : Nat)) ∧
                                (I.sup.length ≤ (1000000 : Nat) ∧ I.arcs.length ≤ (1000000 : Nat)) ∧
                                  ((withoutF { sup := I.sup, arcs := I.arcs : Inst } nodes offs).sup.length ≤ (1000000000 : Nat) ∧
                                      (withoutF { sup := I.sup, arcs := I.arcs : Inst } nodes offs).arcs.length ≤ (1000000000 : Nat)) ∧
                                    (decide
                                            ({ sup := (withoutF { sup := I.sup, arcs := I.arcs : Inst } nodes offs).sup,
                                                arcs := (withoutF { sup := I.sup, arcs := I.arcs : Inst } nodes offs).arcs : Inst } =
                                              { sup := (withoutF { sup := I.sup, arcs := I.arcs : Inst } nodes offs).sup,
                                                arcs := (withoutF { sup := I.sup, arcs := I.arcs : Inst } nodes offs).arcs : Inst }) =
                                          true ∧
                                        True) ∧
                                      True) ∧
                            (decide ({ sup := I.sup, arcs := I.arcs : Inst } = { sup := I.sup, arcs := I.arcs : Inst }) = false → (false = true ∧ True) ∧ True)) ∧
                    (((↑(spanF { sup := I.sup, arcs := I.arcs : Inst }) : Int) == (↑(spanF { sup := I.sup, arcs := I.arcs : Inst }) : Int)) = false → (false = true ∧ True) ∧ True)) ∧
            ((IntKind.i64.wrap (rightF { sup := I.sup, arcs := I.arcs : Inst }) == rightF { sup := I.sup, arcs := I.arcs : Inst }) = false → (false = true ∧ True) ∧ True)
theorem asks_q (I : Inst) (nodes : List Bool) (offs : List Bool) (ty0 ty1 ty2 ty3 : TypeId) : asks_E0 I nodes offs ty0 ty1 ty2 ty3 = FVcP TT asks_g (asks_an I nodes offs) Try.f22 [.agg [.row 0, .row 1], .row 2, .row 3] [(0, .row false ty0 (.ints .i64 I.sup)), (1, .row false ty1 (.arcs I.arcs)), (2, .row false ty2 (.bools nodes)), (3, .row false ty3 (.bools offs))] (asks_r I nodes offs) := by kernel_rfl
theorem asks_E (I : Inst) (nodes : List Bool) (offs : List Bool) (ty0 ty1 ty2 ty3 : TypeId) (hp : I.sup.length ≤ 1000000 ∧ I.arcs.length ≤ 1000000 ∧ nodes.length ≤ 1000000 ∧ offs.length ≤ 1000000) : FVc TT asks_g (asks_an I nodes offs) Try.f22 [.agg [.row 0, .row 1], .row 2, .row 3] [(0, .row false ty0 (.ints .i64 I.sup)), (1, .row false ty1 (.arcs I.arcs)), (2, .row false ty2 (.bools nodes)), (3, .row false ty3 (.bools offs))] (asks_r I nodes offs) := by
  refine FVc.of (asks_E0 I nodes offs ty0 ty1 ty2 ty3) (asks_q I nodes offs ty0 ty1 ty2 ty3) ?_
  unfold asks_E0
  simp only [eq_self, decide_eq_true_eq, decide_eq_false_iff_not, and_true, true_and, bne_iff_ne, ne_eq, bne_eq_false_iff_eq, Int.toNat_natCast, Bool.not_eq_true', Bool.not_eq_false', beq_iff_eq, beq_eq_false_iff_ne]
  have hb := rightF_small I
  have e : IntKind.i64.wrap (rightF I) = rightF I := w64 (by omega) (by omega)
  have hw := withoutF_len I nodes offs
  obtain ⟨s, a⟩ := I
  dsimp only at *
  simp only [e, eq_self, beq_self_eq_true, decide_true, and_true, true_and, forall_const, Bool.true_eq_false, false_implies, reduceCtorEq]
  grind

theorem asks_ok : SpecOk Try.prog asks_n true (specOf true asks_fs) :=
  spec_ok' TT_ok (show GsOk Try.prog asks_g from gsOk_cons Right_ok (gsOk_cons rRight_ok (gsOk_cons Span_ok (gsOk_cons rSpan_ok (gsOk_cons rSame_ok (gsOk_cons Copy_ok (gsOk_cons Without_ok (gsOk_cons rWithout_ok (gsOk_nil))))))))) mixedOrders Try.func22 rfl rfl (by kernel_rfl) (n := 3) (by decide +kernel) (A := asks_A)
    (fun args h r hr => by
      unfold asks_fs at hr
      split at hr
      · rename_i ty0 I_s ty1 I_a ty2 nodes ty3 offs; cases hr; refine ⟨rfl, fun hp => ?_⟩; have hE := asks_E ⟨I_s, I_a⟩ nodes offs ty0 ty1 ty2 ty3 hp; exact hE
      · cases hr)

def same_E0 (I : Inst) (J : Inst) (ty0 ty1 ty2 ty3 : TypeId) : Prop :=
      (I.sup.length ≤ (1000000000 : Nat) ∧ I.arcs.length ≤ (1000000000 : Nat)) ∧
        (I.sup.length ≤ (1000000000 : Nat) ∧ I.arcs.length ≤ (1000000000 : Nat)) ∧
          ((decide ({ sup := I.sup, arcs := I.arcs : Inst } = { sup := J.sup, arcs := J.arcs : Inst }) ==
                  decide ({ sup := I.sup, arcs := I.arcs : Inst } = { sup := J.sup, arcs := J.arcs : Inst })) =
                true ∧
              True) ∧
            True
theorem same_q (I : Inst) (J : Inst) (ty0 ty1 ty2 ty3 : TypeId) : same_E0 I J ty0 ty1 ty2 ty3 = FVcP TT same_g (same_an I J) Try.f23 [.agg [.row 0, .row 1], .agg [.row 2, .row 3]] [(0, .row false ty0 (.ints .i64 I.sup)), (1, .row false ty1 (.arcs I.arcs)), (2, .row false ty2 (.ints .i64 J.sup)), (3, .row false ty3 (.arcs J.arcs))] (same_r I J) := by kernel_rfl
theorem same_E (I : Inst) (J : Inst) (ty0 ty1 ty2 ty3 : TypeId) (hp : I.sup.length ≤ 1000000 ∧ I.arcs.length ≤ 1000000) : FVc TT same_g (same_an I J) Try.f23 [.agg [.row 0, .row 1], .agg [.row 2, .row 3]] [(0, .row false ty0 (.ints .i64 I.sup)), (1, .row false ty1 (.arcs I.arcs)), (2, .row false ty2 (.ints .i64 J.sup)), (3, .row false ty3 (.arcs J.arcs))] (same_r I J) := by
  refine FVc.of (same_E0 I J ty0 ty1 ty2 ty3) (same_q I J ty0 ty1 ty2 ty3) ?_
  unfold same_E0
  simp; omega

theorem same_ok : SpecOk Try.prog same_n true (specOf true same_fs) :=
  spec_ok' TT_ok (show GsOk Try.prog same_g from gsOk_cons Same_ok (gsOk_cons rSame_ok (gsOk_nil))) mixedOrders Try.func23 rfl rfl (by kernel_rfl) (n := 2) (by decide +kernel) (A := same_A)
    (fun args h r hr => by
      unfold same_fs at hr
      split at hr
      · rename_i ty0 I_s ty1 I_a ty2 J_s ty3 J_a; cases hr; refine ⟨rfl, fun hp => ?_⟩; have hE := same_E ⟨I_s, I_a⟩ ⟨J_s, J_a⟩ ty0 ty1 ty2 ty3 hp; exact hE
      · cases hr)

end Go.Proofs.Ytimkpgkpebjglaa
