/-
  CONTRACTS: inst.Span and what it calls; the document's in, arc, Right, Off, Kept, Span, Place, Same.
-/
import Derived.Test.YtimkpgkpebjglaaInst2
namespace Go.Proofs.Ytimkpgkpebjglaa
open Go Go.RowKit Go.Ql Go.Draw

theorem refIn_any (n : Int) (w : World) :
    Calls Try.prog 30 #[.int .i64 n] w fun e w' => e = .returned (.bool (decide (-4398046511104 ≤ n) && decide (n ≤ 4398046511104))) ∧ w = w' := by
  by_cases h1 : -4398046511104 ≤ n <;> by_cases h2 : n ≤ 4398046511104
  all_goals go_enter Try.func30, Try.ntmps30
  all_goals go_wp2
  all_goals go_ret
  all_goals exact ⟨by simp [*], rfl⟩

set_option maxHeartbeats 1000000 in
theorem refArc_any (a : Arc) (n : Int) (w : World) :
    Calls Try.prog 29 #[.agg #[.int .i64 a.src, .int .i64 a.dst, .int .i64 a.low, .int .i64 a.cap, .int .i64 a.cost], .int .i64 n] w fun e w' => e = .returned (.int .i64 (rightArcF a n)) ∧ Below w.heap.size w w' := by
  obtain ⟨f, t, l, c, k⟩ := a
  dsimp only
  go_enter Try.func29, Try.ntmps29
  go_wp2_with (first | (go_at_call 30; refine (refIn_any _ _).mono ?_; rintro e w' ⟨rfl, rfl⟩))
  all_goals go_ret
  all_goals refine ⟨ret_int ?_, (Below.refl _ _).alloc (Nat.le_refl _) _⟩
  all_goals (simp only [rightArcF, Bool.not_eq_true', Bool.not_eq_false', decide_eq_false_iff_not, decide_eq_true_eq, bne_iff_ne, bne_eq_false_iff_eq, ne_eq, Bool.and_eq_true, Bool.and_eq_false_iff] at *; (repeat' split) <;> first | rfl | omega | (exfalso; omega) | (simp_all; done) | (simp_all; omega))

theorem refRight_any (v : Value) (I : Inst) (w : World) (hI : InstR w w.heap.size v I) (hs : I.sup.length ≤ 1000000) (hm : I.arcs.length ≤ 1000000) :
    Calls Try.prog 14 #[v] w fun e w' => e = .returned (.int .i64 (rightF I)) ∧ Below w.heap.size w w' := by
  obtain ⟨sup, arcs⟩ := I
  obtain ⟨A, c, A', c', rfl, hA, hA'⟩ := hI
  dsimp only at *
  by_cases hbig : 64 < sup.length ∨ 256 < arcs.length
  case pos =>
    have Hr : Hid (rightF ⟨sup, arcs⟩ = 20) := Lib.hid (by unfold rightF; rw [if_pos hbig])
    by_cases h1 : 64 < sup.length
    · go_enter Try.func14, Try.ntmps14
      go_wp2_with fail
      go_ret
      exact ⟨by rw [Hr.out]; rfl, (Below.refl _ _).alloc (Nat.le_refl _) _⟩
    · have h2 : 256 < arcs.length := by omega
      go_enter Try.func14, Try.ntmps14
      go_wp2_with fail
      go_ret
      exact ⟨by rw [Hr.out]; rfl, (Below.refl _ _).alloc (Nat.le_refl _) _⟩
  case neg =>
    have h1 : sup.length ≤ 64 := by omega
    have h2 : arcs.length ≤ 256 := by omega
    clear hbig
    have Hr : Hid (rightF ⟨sup, arcs⟩ = if arcsErr sup.length arcs = 0 then supErr sup 0 else arcsErr sup.length arcs) := Lib.hid (by unfold rightF; rw [if_neg (by dsimp only; omega)])
    go_enter Try.func14, Try.ntmps14
    go_wp2_with fail
    go_loopw [3] (fun i wr => ∃ k : Nat, k ≤ arcs.length ∧ i = .int .i64 k ∧ arcsErr sup.length arcs = arcsErr sup.length (arcs.drop k) ∧ Below (w.heap.size + 1) (w.alloc (.cells #[.slice A sup.length c, .slice A' arcs.length c'] 26)) wr) (fun i _ => arcs.length - (intOf i).toNat)
    case atStart => exact ⟨0, by omega, rfl, by simp, Below.refl _ _⟩
    case round =>
      obtain ⟨k, hk, rfl, herr, hbel⟩ := hrel
      have Herr := Lib.hid herr
      clear herr
      obtain ⟨hc, hf⟩ := bcell hbel
      have hz : w.heap.size < wr.heap.size := by have := hbel.size; simp at this; omega
      have g0 : wr.cell? ⟨w.heap.size, 0, none⟩ = some (.slice A sup.length c) := (hc _ _ (by omega)).trans (by simp)
      have g1 : wr.cell? ⟨w.heap.size, 1, none⟩ = some (.slice A' arcs.length c') := (hc _ _ (by omega)).trans (by simp)
      have hb0 : Below w.heap.size w wr := ((Below.refl _ _).alloc (Nat.le_refl _) _).trans (hbel.mono (by omega))
      by_cases hlt : k < arcs.length
      · obtain ⟨b, off, rfl, hb, hat⟩ := hA'.at_ hlt
        obtain ⟨e0, e1, e2, e3, e4⟩ := hat.keep hb0 hb
        clear hc hf hat
        go_wp2_with fail
        refine wp_draw mixed (by kernel_rfl) (fun K hK => ?_)
        go_wp2_with fail
        refine (refArc_any arcs[k] _ _).mono ?_
        rintro e w1 ⟨rfl, hb1⟩
        have hb2 : Below wr.heap.size wr w1 := (below_drew (Below.refl _ _)).trans hb1
        go_wp2_with fail
        refine ⟨by kernel_rfl, ?_⟩
        by_cases hz0 : rightArcF arcs[k] sup.length = 0
        · have H0 := Lib.hid hz0
          have hz1 : (rightArcF arcs[k] sup.length != 0) = false := by simp [hz0]
          clear hz0
          go_wp2_with fail
          go_roundw
          case rel => exact ⟨k + 1, by omega, by go_num, by rw [Herr.out, drop_cons _ _ hlt, arcsErr, if_pos H0.out], hbel.trans (hb2.mono (by omega))⟩
          case measure => simp [intOf]; omega
        · have H0 := Lib.hid hz0
          have hz1 : (rightArcF arcs[k] sup.length != 0) = true := by simp [hz0]
          clear hz0
          go_wp2_with fail
          go_ret
          refine ⟨ret_int ?_, hb0.trans (hb2.mono (by omega))⟩
          have he : arcsErr sup.length arcs = rightArcF arcs[k] sup.length := by rw [Herr.out, drop_cons _ _ hlt, arcsErr, if_neg H0.out]
          rw [Hr.out, he, if_neg H0.out]
      · have he : arcsErr sup.length arcs = 0 := by rw [Herr.out, List.drop_of_length_le (by omega)]; rfl
        rw [he, if_pos rfl] at Hr
        clear he Herr
        go_wp2_with fail
        go_loop [5, 6] (fun t i => ∃ (j : Nat) (s : Int), j ≤ sup.length ∧ i = .int .i64 j ∧ t = .int .i64 s ∧ (-(4398046511104 * j) ≤ s ∧ s ≤ 4398046511104 * j) ∧ supErr sup 0 = supErr (sup.drop j) s) (fun _ i => sup.length - (intOf i).toNat)
        case atStart => exact ⟨0, 0, by omega, rfl, rfl, by omega, by simp⟩
        case round =>
          obtain ⟨j, s, hj, rfl, rfl, hsb, herr⟩ := hrel
          have Herr := Lib.hid herr
          clear herr
          by_cases hltj : j < sup.length
          · obtain ⟨b, off, rfl, hb, e0⟩ := hA.at_ hltj
            unfold i64 at e0
            generalize hx : sup[j] = x at e0
            by_cases hr : x < -4398046511104 ∨ 4398046511104 < x
            · have hd : (decide (-4398046511104 ≤ x) && decide (x ≤ 4398046511104)) = false := by simp; omega
              go_wp2_with (go_at_call 30; refine (refIn_any _ _).mono ?_; rintro e w' ⟨rfl, rfl⟩)
              go_ret
              refine ⟨ret_int ?_, hb0⟩
              rw [Hr.out, Herr.out, drop_cons _ _ hltj, supErr, if_pos (by omega)]
            · have hd : (decide (-4398046511104 ≤ x) && decide (x ≤ 4398046511104)) = true := by simp; omega
              go_wp2_with (go_at_call 30; refine (refIn_any _ _).mono ?_; rintro e w' ⟨rfl, rfl⟩)
              go_round
              case rel => exact ⟨j + 1, s + x, by omega, by go_num, by go_num, by omega, by rw [Herr.out, drop_cons _ _ hltj, supErr, if_neg (by omega), hx]⟩
              case measure => simp [intOf]; omega
          · have he : supErr sup 0 = if s = 0 then 0 else 25 := by rw [Herr.out, List.drop_of_length_le (by omega)]; rfl
            rw [he] at Hr
            clear he Herr
            by_cases hs0 : s = 0
            · have hs1 : (s != 0) = false := by simp [hs0]
              have H0 := Lib.hid hs0
              clear hs0
              go_wp2_with fail
              go_ret
              exact ⟨ret_int (by rw [Hr.out, if_pos H0.out]), hb0⟩
            · have hs1 : (s != 0) = true := by simp [hs0]
              go_wp2_with fail
              go_ret
              exact ⟨ret_int (by rw [Hr.out, if_neg hs0]), hb0⟩

theorem refOff_any (A : Option Addr) (c : Nat) (off : List Bool) (k : Nat) (w : World) (hA : RowR Value.bool w w.heap.size A off) :
    Calls Try.prog 40 #[.slice A off.length c, .int .i64 k] w fun e w' => e = .returned (.bool (off.getD k false)) ∧ w = w' := by
  by_cases h : k < off.length
  · obtain ⟨b, o, rfl, hb, e0⟩ := hA.at_ h
    have e1 : off.getD k false = off[k] := by simp [List.getD, h]
    rw [e1]
    clear e1
    go_enter Try.func40, Try.ntmps40
    go_wp2_with fail
    go_ret
    exact ⟨rfl, rfl⟩
  · have e1 : off.getD k false = false := by simp [List.getD, List.getElem?_eq_none (by omega : off.length ≤ k)]
    rw [e1]
    clear e1
    go_enter Try.func40, Try.ntmps40
    go_wp2_with fail
    go_ret
    exact ⟨rfl, rfl⟩

set_option maxRecDepth 100000 in
theorem refKept_any (A : Option Addr) (c : Nat) (off : List Bool) (n : Int) (w : World) (hA : RowR Value.bool w w.heap.size A off) :
    Calls Try.prog 25 #[.slice A off.length c, .int .i64 n] w fun e w' => ∃ v, e = .returned v ∧ w'.ownsRow w.heap.size 3 1 v (keptF off (keptN n)).length ((keptF off (keptN n)).map nat64) ∧ Below w.heap.size w w' := by
  have hM2 : keptN n ≤ 1000 := by unfold keptN; omega
  have hM3 : ∀ k : Nat, k < keptN n → (k : Int) < n := by unfold keptN; omega
  have hM4 : ∀ k : Nat, k ≤ keptN n → ¬ k < keptN n → (k : Int) < n → ¬ k < 1000 := by unfold keptN; omega
  generalize keptN n = M at *
  have H3 := Lib.hid hM3
  have H4 := Lib.hid hM4
  clear hM3 hM4
  obtain ⟨i0, hi, hz0, hz1, hz2⟩ := info_parts info_int
  go_enter Try.func25, Try.ntmps25
  go_wp2_with fail
  go_loopw [5, 6] (fun v i wr => ∃ (k : Nat) (acc : List Nat), k ≤ M ∧ acc.length ≤ k ∧ i = .int .i64 k ∧ wr.ownsRow w.heap.size 3 1 v acc.length (acc.map nat64) ∧ acc ++ keptGo off (M - k) k = keptF off M ∧ Below w.heap.size w wr) (fun _ i _ => M - (intOf i).toNat)
  case atStart => exact ⟨0, [], by omega, by simp, rfl, World.ownsRow_nil _ _ _ _, by simp [keptF], Below.refl _ _⟩
  case round =>
    obtain ⟨k, acc, hk, hacc, rfl, hown, hspec, hb⟩ := hrel
    have Hs := Lib.hid hspec
    clear hspec
    have hA2 : RowR Value.bool wr wr.heap.size A off := (hA.keep hb (Nat.le_refl _)).more hb.size
    by_cases hlt : k < M
    · have hn := H3.out k hlt
      have step : keptGo off (M - k) k = if off.getD k false then keptGo off (M - (k + 1)) (k + 1) else k :: keptGo off (M - (k + 1)) (k + 1) := by
        rw [show M - k = (M - (k + 1)) + 1 by omega]; rfl
      cases h2 : off.getD k false with
      | true =>
        rw [h2] at step
        have St := Lib.hid step
        have hoff : (off.getD k false) = true := h2
        clear step h2
        go_wp2_with fail
        refine (refOff_any A c off k _ hA2).mono ?_
        rintro e w' ⟨rfl, rfl⟩
        rw [hoff]
        clear hoff
        go_wp2_with fail
        go_roundw
        case rel => exact ⟨k + 1, acc, by omega, by omega, by go_num, hown, by rw [← Hs.out, St.out]; rfl, hb⟩
        case measure => simp [intOf]; omega
      | false =>
        rw [h2] at step
        have St := Lib.hid step
        have hoff : (off.getD k false) = false := h2
        clear step h2
        go_wp2_with fail
        refine (refOff_any A c off k _ hA2).mono ?_
        rintro e w' ⟨rfl, rfl⟩
        rw [hoff]
        clear hoff
        go_wp2_with (at_builtin; refine wpList_append_own_at _ rfl (.tmp 20) (.tmp 22) 37 rfl w.heap.size 3 i0 (.int .i64 0) 1 8 Try.underlying37 hi hz0 hz1 hz2 rfl (by decide) _ _ _ rfl (hown.alloc _) ⟨wr.heap.size, 0, none⟩ 1 1 [.int .i64 k] rfl rfl ?c1 ?c2 ?c3 ?c4 ?c5 ?_)
        case c1 => exact cell_one_new _ _ _
        case c2 => simp [Value.oneCell']
        case c3 => simp only [maxLen]; omega
        case c4 => omega
        case c5 => have := hb.size; simp; omega
        intro v' w1 hown' hgrow _ hat
        have hb1 : Below w.heap.size w w1 := (hb.alloc hb.size _).grown hgrow (by have := hb.size; simp; omega) (fun g hg => (hown.lt g hg).1)
        go_wp2_with fail
        go_roundw
        case rel => exact ⟨k + 1, acc ++ [k], by omega, by simp; omega, by go_num, by simpa [nat64] using hown', by rw [← Hs.out, St.out]; simp, hb1⟩
        case measure => simp [intOf]; omega
    · have he : acc = keptF off M := by
        have := Hs.out
        rw [show M - k = 0 by omega] at this
        simpa [keptGo] using this
      subst he
      by_cases hn : (k : Int) < n
      · have hn2 := H4.out k hk hlt hn
        go_wp2_with fail
        go_ret
        exact ⟨_, rfl, hown, hb⟩
      · go_wp2_with fail
        go_ret
        exact ⟨_, rfl, hown, hb⟩

theorem spanFn_any (a : Arc) (w : World) :
    Calls Try.prog 36 #[.agg #[.int .i64 a.src, .int .i64 a.dst, .int .i64 a.low, .int .i64 a.cap, .int .i64 a.cost]] w fun e w' => e = .returned (.bool (a.low != 0)) ∧ Below w.heap.size w w' := by
  go_enter Try.func36, Try.ntmps36
  go_wp2_with fail
  go_ret
  exact ⟨rfl, (Below.refl _ _).alloc (Nat.le_refl _) _⟩

theorem count_any (A : Option Addr) (c : Nat) (arcs : List Arc) (w : World) (hm : arcs.length ≤ 1000000) (hA : ArcsR w w.heap.size A arcs) :
    Calls Try.prog 35 #[.slice A arcs.length c, .func (.func 36) #[] #[]] w fun e w' => e = .returned (.int .i64 (cntLow arcs)) ∧ Below w.heap.size w w' := by
  go_enter Try.func35, Try.ntmps35
  go_wp2_with fail
  go_loopw [5, 10] (fun t i wr => ∃ (k m : Nat), k ≤ arcs.length ∧ m ≤ k ∧ i = .int .i64 k ∧ t = .int .i64 m ∧ m + cntLow (arcs.drop k) = cntLow arcs ∧ Below w.heap.size w wr) (fun _ i _ => arcs.length - (intOf i).toNat)
  case atStart => exact ⟨0, 0, by omega, by omega, rfl, rfl, by simp, Below.refl _ _⟩
  case round =>
    obtain ⟨k, m, hk, hmk, rfl, rfl, hspec, hb⟩ := hrel
    have Hs := Lib.hid hspec
    clear hspec
    by_cases hlt : k < arcs.length
    · obtain ⟨b, off, rfl, hbl, hat⟩ := hA.at_ hlt
      obtain ⟨e0, e1, e2, e3, e4⟩ := hat.keep hb hbl
      have hz := hb.size
      clear hat
      go_wp2_with fail
      refine (spanFn_any arcs[k] _).mono ?_
      rintro e w1 ⟨rfl, hb1⟩
      have hb2 : Below w.heap.size w w1 := (hb.alloc hz _).trans (hb1.mono (by simp; omega))
      by_cases h0 : arcs[k].low = 0
      · have St : Hid (cntLow (arcs.drop k) = cntLow (arcs.drop (k + 1))) := Lib.hid (by rw [drop_cons _ _ hlt, cntLow, if_pos h0]; omega)
        have h1 : (arcs[k].low != 0) = false := by simp [h0]
        clear h0
        go_wp2_with fail
        go_roundw
        case rel => exact ⟨k + 1, m, by omega, by omega, by go_num, rfl, by rw [← Hs.out, St.out], hb2⟩
        case measure => simp [intOf]; omega
      · have St : Hid (cntLow (arcs.drop k) = 1 + cntLow (arcs.drop (k + 1))) := Lib.hid (by rw [drop_cons _ _ hlt, cntLow, if_neg h0])
        have h1 : (arcs[k].low != 0) = true := by simp [h0]
        clear h0
        go_wp2_with fail
        go_roundw
        case rel => exact ⟨k + 1, m + 1, by omega, by omega, by go_num, by go_num, by rw [← Hs.out, St.out]; omega, hb2⟩
        case measure => simp [intOf]; omega
    · go_wp2_with fail
      go_ret
      refine ⟨ret_int ?_, hb⟩
      have := Hs.out
      rw [List.drop_of_length_le (by omega)] at this
      simp only [cntLow] at this
      omega

theorem span_any (v : Value) (I : Inst) (w : World) (hI : InstR w w.heap.size v I) (hs : I.sup.length ≤ 1000000) (hm : I.arcs.length ≤ 1000000) :
    Calls Try.prog 19 #[v] w fun e w' => e = .returned (.int .i64 (spanF I)) ∧ Below w.heap.size w w' := by
  obtain ⟨sup, arcs⟩ := I
  obtain ⟨A, c, A', c', rfl, hA, hA'⟩ := hI
  dsimp only at *
  have hcl := cntLow_le arcs
  have hw1 : Below w.heap.size w (w.alloc (.cells #[.slice A sup.length c, .slice A' arcs.length c'] 26)) := (Below.refl _ _).alloc (Nat.le_refl _) _
  go_enter Try.func19, Try.ntmps19
  go_wp2_with fail
  refine (count_any A' c' arcs _ hm ((hA'.keep hw1 (Nat.le_refl _)).more (by simp))).mono ?_
  rintro e w1 ⟨rfl, hb1⟩
  have g0 : w1.cell? ⟨w.heap.size, 0, none⟩ = some (.slice A sup.length c) := (hb1.cell (p := ⟨w.heap.size, 0, none⟩) (by simp)).trans (by simp)
  have g1 : w1.cell? ⟨w.heap.size, 1, none⟩ = some (.slice A' arcs.length c') := (hb1.cell (p := ⟨w.heap.size, 1, none⟩) (by simp)).trans (by simp)
  go_wp2_with fail
  go_ret
  exact ⟨ret_int (by simp [spanF]), hw1.trans (hb1.mono (by simp))⟩

theorem refSpan_any (v : Value) (I : Inst) (w : World) (hI : InstR w w.heap.size v I) (hs : I.sup.length ≤ 1000000) (hm : I.arcs.length ≤ 1000000) :
    Calls Try.prog 38 #[v] w fun e w' => e = .returned (.int .i64 (spanF I)) ∧ Below w.heap.size w w' := by
  obtain ⟨sup, arcs⟩ := I
  obtain ⟨A, c, A', c', rfl, hA, hA'⟩ := hI
  dsimp only at *
  have hw1 : Below w.heap.size w (w.alloc (.cells #[.slice A sup.length c, .slice A' arcs.length c'] 26)) := (Below.refl _ _).alloc (Nat.le_refl _) _
  go_enter Try.func38, Try.ntmps38
  go_wp2_with fail
  go_loop [3, 4] (fun t i => ∃ (k m : Nat), k ≤ arcs.length ∧ m ≤ k ∧ i = .int .i64 k ∧ t = .int .i64 (sup.length + arcs.length + m) ∧ m + cntLow (arcs.drop k) = cntLow arcs) (fun _ i => arcs.length - (intOf i).toNat)
  case atStart => exact ⟨0, 0, by omega, by omega, rfl, by simp, by simp⟩
  case round =>
    obtain ⟨k, m, hk, hmk, rfl, rfl, hspec⟩ := hrel
    have Hs := Lib.hid hspec
    clear hspec
    by_cases hlt : k < arcs.length
    · obtain ⟨b, off, rfl, hbl, hat⟩ := hA'.at_ hlt
      obtain ⟨e0, e1, e2, e3, e4⟩ := hat
      by_cases h0 : arcs[k].low = 0
      · have St : Hid (cntLow (arcs.drop k) = cntLow (arcs.drop (k + 1))) := Lib.hid (by rw [drop_cons _ _ hlt, cntLow, if_pos h0]; omega)
        have h1 : (arcs[k].low != 0) = false := by simp [h0]
        clear h0
        go_wp2_with fail
        go_round
        case rel => exact ⟨k + 1, m, by omega, by omega, by go_num, rfl, by rw [← Hs.out, St.out]⟩
        case measure => simp [intOf]; omega
      · have St : Hid (cntLow (arcs.drop k) = 1 + cntLow (arcs.drop (k + 1))) := Lib.hid (by rw [drop_cons _ _ hlt, cntLow, if_neg h0])
        have h1 : (arcs[k].low != 0) = true := by simp [h0]
        clear h0
        go_wp2_with fail
        go_round
        case rel => exact ⟨k + 1, m + 1, by omega, by omega, by go_num, by go_num, by rw [← Hs.out, St.out]; omega⟩
        case measure => simp [intOf]; omega
    · go_wp2_with fail
      go_ret
      refine ⟨ret_int ?_, hw1⟩
      have := Hs.out
      rw [List.drop_of_length_le (by omega)] at this
      simp only [cntLow, spanF] at this ⊢
      omega

theorem refPlace_any (A : Option Addr) (c : Nat) (l : List Nat) (n : Int) (w : World) (hl : l.length ≤ 1000000) (hA : RowR nat64 w w.heap.size A l) :
    Calls Try.prog 45 #[.slice A l.length c, .int .i64 n] w fun e w' => e = .returned (.int .i64 (placeGo n l 0)) ∧ w = w' := by
  go_enter Try.func45, Try.ntmps45
  go_wp2_with fail
  go_loop [5] (fun i => ∃ k : Nat, k ≤ l.length ∧ i = .int .i64 k ∧ placeGo n (l.drop k) k = placeGo n l 0) (fun i => l.length - (intOf i).toNat)
  case atStart => exact ⟨0, by omega, rfl, by simp⟩
  case round =>
    obtain ⟨k, hk, rfl, hspec⟩ := hrel
    have Hs := Lib.hid hspec
    clear hspec
    by_cases hlt : k < l.length
    · obtain ⟨b, off, rfl, hbl, e0⟩ := hA.at_ hlt
      unfold nat64 at e0
      by_cases h0 : ((l[k] : Nat) : Int) = n
      · have St : Hid (placeGo n (l.drop k) k = k) := Lib.hid (by rw [drop_cons _ _ hlt, placeGo, if_pos h0])
        have h1 : (((l[k] : Nat) : Int) == n) = true := by simp [h0]
        clear h0
        go_wp2_with fail
        go_ret
        exact ⟨ret_int (by rw [← Hs.out, St.out]), rfl⟩
      · have St : Hid (placeGo n (l.drop k) k = placeGo n (l.drop (k + 1)) (k + 1)) := Lib.hid (by rw [drop_cons _ _ hlt, placeGo, if_neg h0])
        have h1 : (((l[k] : Nat) : Int) == n) = false := by simp [h0]
        clear h0
        go_wp2_with fail
        go_round
        case rel => exact ⟨k + 1, by omega, by go_num, by rw [← Hs.out, St.out]⟩
        case measure => simp [intOf]; omega
    · go_wp2_with fail
      go_ret
      refine ⟨ret_int ?_, rfl⟩
      have := Hs.out
      rw [List.drop_of_length_le (by omega)] at this
      rw [← this]; rfl

theorem refSame_any (v u : Value) (I J : Inst) (w : World) (hI : InstR w w.heap.size v I) (hJ : InstR w w.heap.size u J) (hs : I.sup.length ≤ 1000000) (hm : I.arcs.length ≤ 1000000) :
    Calls Try.prog 20 #[v, u] w fun e w' => e = .returned (.bool (decide (I = J))) ∧ Below w.heap.size w w' := by
  obtain ⟨sup, arcs⟩ := I
  obtain ⟨sup', arcs'⟩ := J
  obtain ⟨A, c, A', c', rfl, hA, hA'⟩ := hI
  obtain ⟨B, d, B', d', rfl, hB, hB'⟩ := hJ
  dsimp only at *
  have hw2 : Below w.heap.size w ((w.alloc (.cells #[.slice A sup.length c, .slice A' arcs.length c'] 26)).alloc (.cells #[.slice B sup'.length d, .slice B' arcs'.length d'] 26)) := ((Below.refl _ _).alloc (Nat.le_refl _) _).alloc (by simp) _
  have hn1 : RowR i64 _ _ A sup := (hA.keep hw2 (Nat.le_refl _)).more (B' := w.heap.size + 2) (by omega)
  have hn2 : RowR i64 _ _ B sup' := (hB.keep hw2 (Nat.le_refl _)).more (B' := w.heap.size + 2) (by omega)
  by_cases h1 : sup = sup'
  case neg =>
    have Hr : Hid (decide ((⟨sup, arcs⟩ : Inst) = ⟨sup', arcs'⟩) = false) := Lib.hid (by simp [h1])
    have hd : decide (sup = sup') = false := by simp [h1]
    clear h1
    go_enter Try.func20, Try.ntmps20
    go_wp2_with fail
    refine (nums_any A B c d sup sup' _ hs (by simpa using hn1) (by simpa using hn2)).mono ?_
    rintro e w1 ⟨rfl, hb1⟩
    go_wp2_with fail
    go_ret
    exact ⟨ret_bool Hr.out.symm, hw2.trans (hb1.mono (by simp; omega))⟩
  case pos =>
    have Hr : Hid (decide ((⟨sup, arcs⟩ : Inst) = ⟨sup', arcs'⟩) = decide (arcs = arcs')) := Lib.hid (by simp [h1])
    have hd : decide (sup = sup') = true := by simp [h1]
    clear h1
    by_cases hl : arcs.length = arcs'.length
    case neg =>
      have Hr2 : Hid (decide (arcs = arcs') = false) := Lib.hid (by simp; rintro rfl; exact hl rfl)
      have hl1 : ((arcs.length : Int) != (arcs'.length : Int)) = true := by simp; omega
      clear hl
      go_enter Try.func20, Try.ntmps20
      go_wp2_with fail
      refine (nums_any A B c d sup sup' _ hs (by simpa using hn1) (by simpa using hn2)).mono ?_
      rintro e w1 ⟨rfl, hb1⟩
      have hz1 := hb1.size
      have g0 : w1.cell? ⟨w.heap.size, 1, none⟩ = some (.slice A' arcs.length c') := (hb1.cell (p := ⟨w.heap.size, 1, none⟩) (by simp; omega)).trans (by simp)
      have g1 : w1.cell? ⟨w.heap.size + 1, 1, none⟩ = some (.slice B' arcs'.length d') := (hb1.cell (p := ⟨w.heap.size + 1, 1, none⟩) (by simp)).trans (by simp)
      go_wp2_with fail
      go_ret
      exact ⟨ret_bool (by rw [Hr.out, Hr2.out]), hw2.trans (hb1.mono (by simp; omega))⟩
    case pos =>
      have hl1 : ((arcs.length : Int) != (arcs'.length : Int)) = false := by simp; omega
      have hl2 : arcs.length ≤ arcs'.length := by omega
      have hl3 : arcs'.length ≤ arcs.length := by omega
      clear hl
      go_enter Try.func20, Try.ntmps20
      go_wp2_with fail
      refine (nums_any A B c d sup sup' _ hs (by simpa using hn1) (by simpa using hn2)).mono ?_
      rintro e w1 ⟨rfl, hb1⟩
      have hz1 := hb1.size
      simp only [World.size_alloc] at hz1
      have g0 : w1.cell? ⟨w.heap.size, 1, none⟩ = some (.slice A' arcs.length c') := (hb1.cell (p := ⟨w.heap.size, 1, none⟩) (by simp; omega)).trans (by simp)
      have g1 : w1.cell? ⟨w.heap.size + 1, 1, none⟩ = some (.slice B' arcs'.length d') := (hb1.cell (p := ⟨w.heap.size + 1, 1, none⟩) (by simp)).trans (by simp)
      have hb2 : Below w.heap.size w w1 := hw2.trans (hb1.mono (by simp; omega))
      clear hn1 hn2
      go_wp2_with fail
      go_loopw [5] (fun i wr => ∃ k : Nat, k ≤ arcs.length ∧ i = .int .i64 k ∧ arcs.take k = arcs'.take k ∧ Below (w.heap.size + 2) w1 wr) (fun i _ => arcs.length - (intOf i).toNat)
      case atStart => exact ⟨0, by omega, rfl, by simp, Below.refl _ _⟩
      case round =>
        obtain ⟨k, hk, rfl, htk, hb⟩ := hrel
        have Htk := Lib.hid htk
        clear htk
        have k0 : wr.cell? ⟨w.heap.size, 1, none⟩ = some (.slice A' arcs.length c') := (hb.cell (p := ⟨w.heap.size, 1, none⟩) (by simp)).trans g0
        have k1 : wr.cell? ⟨w.heap.size + 1, 1, none⟩ = some (.slice B' arcs'.length d') := (hb.cell (p := ⟨w.heap.size + 1, 1, none⟩) (by simp)).trans g1
        have hb5 : Below w.heap.size w wr := hb2.trans (hb.mono (by omega))
        by_cases hlt : k < arcs.length
        · obtain ⟨b, off, rfl, hbl, e1⟩ := hA'.at_ hlt
          obtain ⟨b', off', rfl, hbl', e2⟩ := hB'.at_ (show k < arcs'.length by omega)
          obtain ⟨c0, c1, c2, c3, c4⟩ := e1.keep hb5 hbl
          obtain ⟨d0, d1, d2, d3, d4⟩ := e2.keep hb5 hbl'
          generalize hxk : arcs[k] = x at *
          generalize hyk : arcs'[k] = y at *
          have Hx := Lib.hid hxk
          have Hy := Lib.hid hyk
          clear hxk hyk e1 e2
          have hq := arc_equal x y
          go_wp2_with fail
          refine wp_draw mixed (by kernel_rfl) (fun K hK => ?_)
          go_wp2_with fail
          refine ⟨by kernel_rfl, ?_⟩
          go_wp2_with fail
          · have hne : x ≠ y := by simpa using ‹(!decide (x = y)) = true›
            go_ret
            refine ⟨ret_bool ?_, below_drew hb5⟩
            have : decide (arcs = arcs') = false := by simp; rintro rfl; exact hne (Hx.out.symm.trans Hy.out)
            rw [Hr.out, this]
          · have heq : x = y := by simpa using ‹(!decide (x = y)) = false›
            go_roundw
            case rel => exact ⟨k + 1, by omega, by go_num, by rw [take_snoc _ _ hlt, take_snoc arcs' k (by omega), Htk.out, Hx.out, Hy.out, heq], below_drew hb⟩
            case measure => simp [intOf]; omega
        · go_wp2_with fail
          go_ret
          have h1 := Htk.out
          rw [List.take_of_length_le (by omega), List.take_of_length_le (by omega)] at h1
          refine ⟨ret_bool ?_, hb5⟩
          rw [Hr.out, decide_eq_true h1]
end Go.Proofs.Ytimkpgkpebjglaa
