/-
  CONTRACTS: inst.isNode, inst.rightArc, inst.Right.
-/
import Derived.Test.YtimkpgkpebjglaaBase
namespace Go.Proofs.Ytimkpgkpebjglaa
open Go Go.RowKit Go.Ql Go.Draw

theorem isNode_any (n m : Int) (w : World) :
    Calls Try.prog 32 #[.int .i64 n, .int .i64 m] w fun e w' => e = .returned (.bool (decide (0 ≤ n) && decide (n < m))) ∧ w = w' := by
  by_cases h1 : 0 ≤ n <;> by_cases h2 : n < m
  all_goals go_enter Try.func32, Try.ntmps32
  all_goals go_wp2
  all_goals go_ret
  all_goals exact ⟨by simp [*], rfl⟩

theorem rightArc_any (a : Arc) (n : Int) (w : World) :
    Calls Try.prog 28 #[.agg #[.int .i64 a.src, .int .i64 a.dst, .int .i64 a.low, .int .i64 a.cap, .int .i64 a.cost], .int .i64 n] w fun e w' => e = .returned (.int .u16 (rightArcF a n)) ∧ Below w.heap.size w w' := by
  obtain ⟨f, t, l, c, k⟩ := a
  dsimp only
  go_enter Try.func28, Try.ntmps28
  go_wp2_with (first | (go_at_call 32; refine (isNode_any _ _ _).mono ?_; rintro e w' ⟨rfl, rfl⟩))
  all_goals go_ret
  all_goals refine ⟨ret_int ?_, (Below.refl _ _).alloc (Nat.le_refl _) _⟩
  all_goals (simp only [rightArcF, Bool.not_eq_true', Bool.not_eq_false', decide_eq_false_iff_not, decide_eq_true_eq, bne_iff_ne, bne_eq_false_iff_eq, ne_eq] at *; (repeat' split) <;> first | rfl | omega | (exfalso; omega) | (simp_all; done) | (simp_all; omega))

theorem right_any (v : Value) (I : Inst) (w : World) (hI : InstR w w.heap.size v I) (hs : I.sup.length ≤ 1000000) (hm : I.arcs.length ≤ 1000000) :
    Calls Try.prog 13 #[v] w fun e w' => e = .returned (.int .u16 (rightF I)) ∧ Below w.heap.size w w' := by
  obtain ⟨sup, arcs⟩ := I
  obtain ⟨A, c, A', c', rfl, hA, hA'⟩ := hI
  dsimp only at *
  by_cases hbig : 64 < sup.length ∨ 256 < arcs.length
  case pos =>
    have Hr : Hid (rightF ⟨sup, arcs⟩ = 20) := Lib.hid (by unfold rightF; rw [if_pos hbig])
    by_cases h1 : 64 < sup.length
    · go_enter Try.func13, Try.ntmps13
      go_wp2_with fail
      go_ret
      exact ⟨by rw [Hr.out]; rfl, (Below.refl _ _).alloc (Nat.le_refl _) _⟩
    · have h2 : 256 < arcs.length := by omega
      go_enter Try.func13, Try.ntmps13
      go_wp2_with fail
      go_ret
      exact ⟨by rw [Hr.out]; rfl, (Below.refl _ _).alloc (Nat.le_refl _) _⟩
  case neg =>
    have h1 : sup.length ≤ 64 := by omega
    have h2 : arcs.length ≤ 256 := by omega
    clear hbig
    have Hr : Hid (rightF ⟨sup, arcs⟩ = if arcsErr sup.length arcs = 0 then supErr sup 0 else arcsErr sup.length arcs) := Lib.hid (by unfold rightF; rw [if_neg (by dsimp only; omega)])
    go_enter Try.func13, Try.ntmps13
    go_wp2_with fail
    go_loopw [22] (fun i wr => ∃ k : Nat, k ≤ arcs.length ∧ i = .int .i64 k ∧ arcsErr sup.length arcs = arcsErr sup.length (arcs.drop k) ∧ Below (w.heap.size + 1) (w.alloc (.cells #[.slice A sup.length c, .slice A' arcs.length c'] 26)) wr) (fun i _ => arcs.length - (intOf i).toNat)
    case atStart => exact ⟨0, by omega, rfl, by simp, Below.refl _ _⟩
    case round =>
      obtain ⟨k, hk, rfl, herr, hbel⟩ := hrel
      have Herr := Lib.hid herr
      clear herr
      obtain ⟨hc, hf⟩ := bcell hbel
      have hz : w.heap.size < wr.heap.size := by have := hbel.size; simp at this; omega
      have g0 : wr.cell? ⟨w.heap.size, 0, none⟩ = some (.slice A sup.length c) := (hc _ _ (by omega)).trans (by simp)
      have g1 : wr.cell? ⟨w.heap.size, 1, none⟩ = some (.slice A' arcs.length c') := (hc _ _ (by omega)).trans (by simp)
      have hb0 : Below w.heap.size w wr := ((Below.refl _ _).alloc (Nat.le_refl _) _).trans (hbel.mono (by omega))
      by_cases hlt : k < arcs.length
      · obtain ⟨b, off, rfl, hb, e0, e1, e2, e3, e4⟩ := hA'.at_ hlt
        go_wp2_with fail
        refine (rightArc_any arcs[k] _ _).mono ?_
        rintro e w1 ⟨rfl, hb1⟩
        have hb2 : Below wr.heap.size wr w1 := ((Below.refl _ _).alloc (Nat.le_refl _) _).trans (hb1.mono (by simp))
        by_cases hz0 : rightArcF arcs[k] sup.length = 0
        · have H0 := Lib.hid hz0
          have hz1 : (rightArcF arcs[k] sup.length != 0) = false := by simp [hz0]
          clear hz0
          go_wp2_with fail
          go_roundw
          case rel => exact ⟨k + 1, by omega, by go_num, by rw [Herr.out, drop_cons _ _ hlt, arcsErr, if_pos H0.out], hbel.trans (hb2.mono (by omega))⟩
          case measure => simp [intOf]; omega
        · have H0 := Lib.hid hz0
          have hz1 : (rightArcF arcs[k] sup.length != 0) = true := by simp [hz0]
          clear hz0
          go_wp2_with fail
          go_ret
          refine ⟨ret_int ?_, hb0.trans (hb2.mono (by omega))⟩
          have he : arcsErr sup.length arcs = rightArcF arcs[k] sup.length := by rw [Herr.out, drop_cons _ _ hlt, arcsErr, if_neg H0.out]
          rw [Hr.out, he, if_neg H0.out]
      · have he : arcsErr sup.length arcs = 0 := by rw [Herr.out, List.drop_of_length_le (by omega)]; rfl
        rw [he, if_pos rfl] at Hr
        clear he Herr
        go_wp2_with fail
        go_loop [6, 38] (fun t i => ∃ (j : Nat) (s : Int), j ≤ sup.length ∧ i = .int .i64 j ∧ t = .int .i64 s ∧ (-(4398046511104 * j) ≤ s ∧ s ≤ 4398046511104 * j) ∧ supErr sup 0 = supErr (sup.drop j) s) (fun _ i => sup.length - (intOf i).toNat)
        case atStart => exact ⟨0, 0, by omega, rfl, rfl, by omega, by simp⟩
        case round =>
          obtain ⟨j, s, hj, rfl, rfl, hsb, herr⟩ := hrel
          have Herr := Lib.hid herr
          clear herr
          by_cases hltj : j < sup.length
          · obtain ⟨b, off, rfl, hb, e0⟩ := hA.at_ hltj
            unfold i64 at e0
            generalize hx : sup[j] = x at e0
            by_cases hr1 : x < -4398046511104
            · go_wp2_with fail
              go_ret
              refine ⟨ret_int ?_, hb0⟩
              rw [Hr.out, Herr.out, drop_cons _ _ hltj, supErr, if_pos (by omega)]
            · by_cases hr2 : 4398046511104 < x
              · go_wp2_with fail
                go_ret
                refine ⟨ret_int ?_, hb0⟩
                rw [Hr.out, Herr.out, drop_cons _ _ hltj, supErr, if_pos (by omega)]
              · go_wp2_with fail
                go_round
                case rel => exact ⟨j + 1, s + x, by omega, by go_num, by go_num, by omega, by rw [Herr.out, drop_cons _ _ hltj, supErr, if_neg (by omega), hx]⟩
                case measure => simp [intOf]; omega
          · have he : supErr sup 0 = if s = 0 then 0 else 25 := by rw [Herr.out, List.drop_of_length_le (by omega)]; rfl
            rw [he] at Hr
            clear he Herr
            by_cases hs0 : s = 0
            · have hs1 : (s != 0) = false := by simp [hs0]
              have H0 := Lib.hid hs0
              clear hs0
              go_wp2_with fail
              go_ret
              exact ⟨ret_int (by rw [Hr.out, if_pos H0.out]), hb0⟩
            · have hs1 : (s != 0) = true := by simp [hs0]
              go_wp2_with fail
              go_ret
              exact ⟨ret_int (by rw [Hr.out, if_neg hs0]), hb0⟩
end Go.Proofs.Ytimkpgkpebjglaa
