/- Part of the proof, FBTrimOver. -/
import Derived.Test.YtahbkllfifmdfaaZFV15
import Derived.Test.YtahbkllfifmdfaaZDBTrimOver
import Derived.Test.YtahbkllfifmdfaaZVc11
set_option linter.unusedVariables false
set_option linter.all false
set_option linter.unusedSimpArgs false
set_option maxRecDepth 100000
namespace Go.Proofs.Ytahbkllfifmdfaa
open Go Go.RowKit Go.Ql Go.Vc
theorem over_low {s l : Int} (s0 : 0 ≤ s) (s1 : s < 4398046511104) (l0 : 0 ≤ l) (l1 : l < 4398046511104) (t : Bool) : ∃ st : StepD, lowS ⟨[-s, s], [if t then ⟨1, 0, l, 4398046511104, 1⟩ else ⟨0, 1, l, 4398046511104, 1⟩]⟩ = (st, if t = false ∧ 4398046511104 < s + l then 40 else 0) ∧ st.did = (!decide (t = false ∧ 4398046511104 < s + l) && decide (¬ l = 0)) ∧ ((t = false ∧ 4398046511104 < s + l) → st.inst.sup.length = 0) := by
  have hr : rightF ⟨[-s, s], [if t then ⟨1, 0, l, 4398046511104, 1⟩ else ⟨0, 1, l, 4398046511104, 1⟩]⟩ = 0 := by
    cases t <;> simp [rightF, arcsErr, rightArcF, supErr] <;> omega
  rw [← lowS_done hr]
  by_cases h0 : l = 0
  · subst h0
    rw [doneF_stay (by cases t <;> simp [anyF, takeLow])]
    have hno : ¬ (t = false ∧ 4398046511104 < s + 0) := fun h => by have := h.2; omega
    exact ⟨_, Prod.ext rfl (if_neg hno).symm, by simp, fun h => absurd h hno⟩
  · have hd : anyF takeLow [if t then (⟨1, 0, l, 4398046511104, 1⟩ : Arc) else ⟨0, 1, l, 4398046511104, 1⟩] = true := by cases t <;> simp [anyF, takeLow, h0]
    dsimp only
    rw [hd]
    cases t with
    | true =>
      have e : lowI ⟨[-s, s], [if true = true then ⟨1, 0, l, 4398046511104, 1⟩ else ⟨0, 1, l, 4398046511104, 1⟩]⟩ = ⟨[-s + l, s + -l], [⟨1, 0, 0, 4398046511104 - l, 1⟩]⟩ := by
        simp [lowI, supAll, takeLow, h0, fixSup, addAt, lowArc, inf]
      rw [e, doneF_done rfl (by simp [rightF, arcsErr, rightArcF, supErr]; omega)]
      exact ⟨_, rfl, by simp [h0], fun h => by simp at h⟩
    | false =>
      have e : lowI ⟨[-s, s], [if false = true then ⟨1, 0, l, 4398046511104, 1⟩ else ⟨0, 1, l, 4398046511104, 1⟩]⟩ = ⟨[-s + -l, s + l], [⟨0, 1, 0, 4398046511104 - l, 1⟩]⟩ := by
        simp [lowI, supAll, takeLow, h0, fixSup, addAt, lowArc, inf]
      rw [e]
      by_cases h1 : 4398046511104 < s + l
      · rw [doneF_over rfl (by simp [rightF, arcsErr, rightArcF, supErr]; omega)]
        exact ⟨_, Prod.ext rfl (if_pos ⟨rfl, h1⟩).symm, by simp [StepD.none, h1], fun _ => rfl⟩
      · rw [doneF_done rfl (by simp [rightF, arcsErr, rightArcF, supErr]; omega)]
        exact ⟨_, Prod.ext rfl (if_neg (fun h => h1 h.2)).symm, by simp [h0, h1], fun h => absurd h.2 h1⟩
abbrev TrimOver_a0 (n : Int) (m : Int) := (lowS
 { sup := [IntKind.i64.wrap ((0 : Int) - IntKind.i64.wrap (n.tmod (4398046511104 : Int))), IntKind.i64.wrap (n.tmod (4398046511104 : Int))], arcs := [{ src := (1 : Int), dst := (0 : Int), low := IntKind.i64.wrap (m.tmod (4398046511104 : Int)), cap := (4398046511104 : Int), cost := (1 : Int) : Arc }] : Inst })
abbrev TrimOver_a1 (n : Int) (m : Int) := (lowS
 { sup := [IntKind.i64.wrap ((0 : Int) - IntKind.i64.wrap (n.tmod (4398046511104 : Int))), IntKind.i64.wrap (n.tmod (4398046511104 : Int))], arcs := [{ src := (0 : Int), dst := (1 : Int), low := IntKind.i64.wrap (m.tmod (4398046511104 : Int)), cap := (4398046511104 : Int), cost := (1 : Int) : Arc }] : Inst })
abbrev TrimOver_a2 (n : Int) (m : Int) := (IntKind.i64.wrap (n.tmod (4398046511104 : Int)) + IntKind.i64.wrap (m.tmod (4398046511104 : Int)))
abbrev TrimOver_a3 (n : Int) (m : Int) := ((!decide
 (IntKind.i64.wrap (TrimOver_a2 n m) >
 (4398046511104 : Int))) =
 false →
 ((!(TrimOver_a0 n m).fst.did) =
 true →
 (((↑(TrimOver_a0 n m).fst.inst.sup.length :
 Int) ==
 (0 : Int)) =
 true ∧
 True) ∧
 True) ∧
 ((!(TrimOver_a0 n m).fst.did) =
 false →
 (false = true ∧ True) ∧ True))
abbrev TrimOver_a4 (n : Int) (m : Int) := ((!decide
 (IntKind.i64.wrap (TrimOver_a2 n m) >
 (4398046511104 : Int))) =
 false →
 ((!(TrimOver_a1 n m).fst.did) =
 true →
 (((↑(TrimOver_a1 n m).fst.inst.sup.length :
 Int) ==
 (0 : Int)) =
 true ∧
 True) ∧
 True) ∧
 ((!(TrimOver_a1 n m).fst.did) =
 false →
 (false = true ∧ True) ∧ True))
abbrev TrimOver_a5 (n : Int) (m : Int) := ((!decide
 (IntKind.i64.wrap (TrimOver_a2 n m) >
 (4398046511104 : Int))) =
 true →
 (true = true ∧ True) ∧ True)
abbrev TrimOver_a6 (m : Int) := (IntKind.i64.wrap (m.tmod (4398046511104 : Int)) != (0 : Int))
abbrev TrimOver_a7 (n : Int) (m : Int) := (IntKind.i64.wrap (TrimOver_a2 n m) > (4398046511104 : Int))
abbrev TrimOver_a8 (n : Int) (m : Int) := (decide
 (TrimOver_a7 n m) =
 false →
 (((TrimOver_a0 n m).fst.did ==
 (TrimOver_a6 m)) =
 true →
 (TrimOver_a5 n m) ∧
 (TrimOver_a3 n m)) ∧
 (((TrimOver_a0 n m).fst.did ==
 (TrimOver_a6 m)) =
 false →
 (false = true ∧ True) ∧ True))
abbrev TrimOver_a9 (n : Int) (m : Int) := (decide
 (TrimOver_a7 n m) =
 false →
 (((TrimOver_a1 n m).fst.did ==
 (TrimOver_a6 m)) =
 true →
 (TrimOver_a5 n m) ∧
 (TrimOver_a4 n m)) ∧
 (((TrimOver_a1 n m).fst.did ==
 (TrimOver_a6 m)) =
 false →
 (false = true ∧ True) ∧ True))
abbrev TrimOver_a10 := (true = false → (false = true ∧ True) ∧ True)
def TrimOver_E0 (n : Int) (m : Int) (t : Bool) : Prop :=
      (4398046511104 : Int) ≠ (0 : Int) ∧
 (4398046511104 : Int) ≠ (0 : Int) ∧
 (t = true →
 ((2 : Nat) ≤ (1000000 : Nat) ∧ (1 : Nat) ≤ (1000000 : Nat)) ∧
 ((!t) = true →
 (decide (TrimOver_a7 n m) = true →
 True ∧
 (true = true →
 (((TrimOver_a0 n m).snd ==
 (40 : Int)) =
 true →
 (decide (TrimOver_a7 n m) =
 true →
 (TrimOver_a5 n m) ∧
 (TrimOver_a3 n m)) ∧
 (TrimOver_a8 n m)) ∧
 (((TrimOver_a0 n m).snd ==
 (40 : Int)) =
 false →
 (false = true ∧ True) ∧ True)) ∧
 (TrimOver_a10)) ∧
 (decide (TrimOver_a7 n m) = false →
 True ∧
 (true = true →
 (((TrimOver_a0 n m).snd ==
 (0 : Int)) =
 true →
 (decide (TrimOver_a7 n m) =
 true →
 (TrimOver_a5 n m) ∧
 (TrimOver_a3 n m)) ∧
 (TrimOver_a8 n m)) ∧
 (((TrimOver_a0 n m).snd ==
 (0 : Int)) =
 false →
 (false = true ∧ True) ∧ True)) ∧
 (TrimOver_a10))) ∧
 ((!t) = false →
 True ∧
 (true = true →
 (((TrimOver_a0 n m).snd ==
 (0 : Int)) =
 true →
 (((TrimOver_a0 n m).fst.did ==
 (TrimOver_a6 m)) =
 true →
 (true = true ∧ True) ∧ True) ∧
 (((TrimOver_a0 n m).fst.did ==
 (TrimOver_a6 m)) =
 false →
 (false = true ∧ True) ∧ True)) ∧
 (((TrimOver_a0 n m).snd ==
 (0 : Int)) =
 false →
 (false = true ∧ True) ∧ True)) ∧
 (TrimOver_a10))) ∧
 (t = false →
 ((2 : Nat) ≤ (1000000 : Nat) ∧ (1 : Nat) ≤ (1000000 : Nat)) ∧
 ((!t) = true →
 (decide (TrimOver_a7 n m) = true →
 True ∧
 (true = true →
 (((TrimOver_a1 n m).snd ==
 (40 : Int)) =
 true →
 (decide (TrimOver_a7 n m) =
 true →
 (TrimOver_a5 n m) ∧
 (TrimOver_a4 n m)) ∧
 (TrimOver_a9 n m)) ∧
 (((TrimOver_a1 n m).snd ==
 (40 : Int)) =
 false →
 (false = true ∧ True) ∧ True)) ∧
 (TrimOver_a10)) ∧
 (decide (TrimOver_a7 n m) = false →
 True ∧
 (true = true →
 (((TrimOver_a1 n m).snd ==
 (0 : Int)) =
 true →
 (decide (TrimOver_a7 n m) =
 true →
 (TrimOver_a5 n m) ∧
 (TrimOver_a4 n m)) ∧
 (TrimOver_a9 n m)) ∧
 (((TrimOver_a1 n m).snd ==
 (0 : Int)) =
 false →
 (false = true ∧ True) ∧ True)) ∧
 (TrimOver_a10))) ∧
 ((!t) = false →
 True ∧
 (true = true →
 (((TrimOver_a1 n m).snd ==
 (0 : Int)) =
 true →
 (((TrimOver_a1 n m).fst.did ==
 (TrimOver_a6 m)) =
 true →
 (true = true ∧ True) ∧ True) ∧
 (((TrimOver_a1 n m).fst.did ==
 (TrimOver_a6 m)) =
 false →
 (false = true ∧ True) ∧ True)) ∧
 (((TrimOver_a1 n m).snd ==
 (0 : Int)) =
 false →
 (false = true ∧ True) ∧ True)) ∧
 (TrimOver_a10)))
theorem TrimOver_q (n : Int) (m : Int) (t : Bool) : TrimOver_E0 n m t = FVcP TT TrimOver_g (TrimOver_I n m t) (TrimOver_an n m t) Try.f3 [.int .u64 n, .int .u64 m, .bool t] [] (TrimOver_r n m t) := by kernel_rfl
theorem TrimOver_E (n : Int) (m : Int) (t : Bool) (hp : 0 ≤ n ∧ n ≤ 18446744073709551615 ∧ 0 ≤ m ∧ m ≤ 18446744073709551615) : FVc TT TrimOver_g (TrimOver_I n m t) (TrimOver_an n m t) Try.f3 [.int .u64 n, .int .u64 m, .bool t] [] (TrimOver_r n m t) := by
  refine FVc.of (TrimOver_E0 n m t) (TrimOver_q n m t) ?_
  unfold TrimOver_E0
  delta TrimOver_a10 TrimOver_a9 TrimOver_a8 TrimOver_a7 TrimOver_a6 TrimOver_a5 TrimOver_a4 TrimOver_a3 TrimOver_a2 TrimOver_a1 TrimOver_a0
  obtain ⟨n0, n1, m0, m1⟩ := hp
  have en : n.tmod 4398046511104 = n % 4398046511104 := Int.tmod_eq_emod_of_nonneg n0
  have em : m.tmod 4398046511104 = m % 4398046511104 := Int.tmod_eq_emod_of_nonneg m0
  rw [en, em]
  obtain ⟨s, hs⟩ : ∃ s, s = n % 4398046511104 := ⟨_, rfl⟩
  obtain ⟨l, hl⟩ : ∃ l, l = m % 4398046511104 := ⟨_, rfl⟩
  rw [← hs, ← hl]
  have ws : IntKind.i64.wrap s = s := w64 (by omega) (by omega)
  have wl : IntKind.i64.wrap l = l := w64 (by omega) (by omega)
  have wn : IntKind.i64.wrap (0 - s) = -s := by rw [w64 (by omega) (by omega)]; omega
  have wp : IntKind.i64.wrap (s + l) = s + l := w64 (by omega) (by omega)
  simp only [ws, wl, wn, wp]
  obtain ⟨st, e1, e2, e3⟩ := over_low (s := s) (l := l) (by omega) (by omega) (by omega) (by omega) t
  refine ⟨by omega, by omega, ?_, ?_⟩ <;> intro ht <;> subst ht
  all_goals
    simp only [if_true, if_false, Bool.false_eq_true, reduceCtorEq, false_and, true_and] at e1 e2 e3
    simp only [e1]
    clear hs hl ws wl wn wp en em
    by_cases h1 : 4398046511104 < s + l <;> by_cases h0 : l = 0 <;> simp_all
theorem TrimOver_ok : SpecOk Try.prog TrimOver_n true (specOf true TrimOver_fs) :=
  spec_ok' TT_ok (show GsOk Try.prog TrimOver_g from gsOk_cons Low_ok (gsOk_cons known15_ok (gsOk_nil))) (by kernel_rfl) mixedOrders Try.func3 rfl rfl (by kernel_rfl) (n := 3) (by decide +kernel) (I := TrimOver_IA) (fun _ _ => isOk_nil) (A := TrimOver_A)
    (fun args h r hr => by
      unfold TrimOver_fs at hr
      split at hr
      · rename_i n m t; cases hr; refine ⟨rfl, fun hp => ?_⟩; have hE := TrimOver_E n m t hp; exact hE
      · cases hr)
end Go.Proofs.Ytahbkllfifmdfaa
