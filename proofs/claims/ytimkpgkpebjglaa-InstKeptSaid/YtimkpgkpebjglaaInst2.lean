/-
  CONTRACTS: slices.Equal at []int64 and at []api.Arc, inst.Same; the document's Nums, Ints, Same.
-/
import Derived.Test.YtimkpgkpebjglaaBase
namespace Go.Proofs.Ytimkpgkpebjglaa
open Go Go.RowKit Go.Ql Go.Draw

theorem equalInts_any (A B : Option Addr) (c d : Nat) (xs ys : List Int) (w : World) (hx : xs.length ≤ 1000000) (hA : RowR i64 w w.heap.size A xs) (hB : RowR i64 w w.heap.size B ys) :
    Calls Try.prog 33 #[.slice A xs.length c, .slice B ys.length d] w fun e w' => e = .returned (.bool (decide (xs = ys))) ∧ Below w.heap.size w w' := by
  by_cases hl : xs.length = ys.length
  case neg =>
    have h1 : ((xs.length : Int) != (ys.length : Int)) = true := by simp; omega
    have h2 : decide (xs = ys) = false := by simp; rintro rfl; exact hl rfl
    have H2 := Lib.hid h2
    clear h2
    go_enter Try.func33, Try.ntmps33
    go_wp2_with fail
    go_ret
    exact ⟨by rw [H2.out]; rfl, Below.refl _ _⟩
  case pos =>
    have Hl := Lib.hid hl
    have h1 : ((xs.length : Int) != (ys.length : Int)) = false := by simp; omega
    have hl1 : xs.length ≤ ys.length := by omega
    have hl2 : ys.length ≤ xs.length := by omega
    clear hl
    go_enter Try.func33, Try.ntmps33
    go_wp2_with fail
    go_loopw [13] (fun i wr => ∃ k : Nat, k ≤ xs.length ∧ i = .int .i64 k ∧ xs.take k = ys.take k ∧ Below w.heap.size w wr) (fun i _ => xs.length - (intOf i).toNat)
    case atStart => exact ⟨0, by omega, rfl, by simp, Below.refl _ _⟩
    case round =>
      obtain ⟨k, hk, rfl, htk, hb⟩ := hrel
      have Htk := Lib.hid htk
      clear htk
      by_cases hlt : k < xs.length
      · obtain ⟨b, off, rfl, hbl, e1⟩ := hA.at_ hlt
        obtain ⟨b', off', rfl, hbl', e2⟩ := hB.at_ (show k < ys.length by omega)
        obtain ⟨hc, hf⟩ := bcell hb
        have c1 := (hc b (off + k) hbl).trans e1
        have c2 := (hc b' (off' + k) hbl').trans e2
        clear hc hf e1 e2
        unfold i64 at c1 c2
        go_wp2_with fail
        refine wp_draw mixed (by kernel_rfl) (fun K hK => ?_)
        go_wp2_with fail
        refine ⟨by kernel_rfl, ?_⟩
        go_wp2_with fail
        · have hne : xs[k] ≠ ys[k] := by simpa using ‹(xs[k] != ys[k]) = true›
          go_ret
          refine ⟨?_, below_drew hb⟩
          have : decide (xs = ys) = false := by simp; rintro rfl; exact hne rfl
          rw [this]; rfl
        · have heq : xs[k] = ys[k] := by simpa using ‹(xs[k] != ys[k]) = false›
          go_roundw
          case rel => exact ⟨k + 1, by omega, by go_num, by rw [take_snoc _ _ hlt, take_snoc ys k (by omega), Htk.out, heq], below_drew hb⟩
          case measure => simp [intOf]; omega
      · go_wp2_with fail
        go_ret
        have h1 := Htk.out
        rw [List.take_of_length_le (by omega), List.take_of_length_le (by omega)] at h1
        refine ⟨?_, hb⟩
        rw [decide_eq_true h1]; rfl

theorem nums_any (A B : Option Addr) (c d : Nat) (xs ys : List Int) (w : World) (hx : xs.length ≤ 1000000) (hA : RowR i64 w w.heap.size A xs) (hB : RowR i64 w w.heap.size B ys) :
    Calls Try.prog 37 #[.slice A xs.length c, .slice B ys.length d] w fun e w' => e = .returned (.bool (decide (xs = ys))) ∧ Below w.heap.size w w' := by
  by_cases hl : xs.length = ys.length
  case neg =>
    have h1 : ((xs.length : Int) != (ys.length : Int)) = true := by simp; omega
    have h2 : decide (xs = ys) = false := by simp; rintro rfl; exact hl rfl
    have H2 := Lib.hid h2
    clear h2
    go_enter Try.func37, Try.ntmps37
    go_wp2_with fail
    go_ret
    exact ⟨by rw [H2.out]; rfl, Below.refl _ _⟩
  case pos =>
    have Hl := Lib.hid hl
    have h1 : ((xs.length : Int) != (ys.length : Int)) = false := by simp; omega
    have hl1 : xs.length ≤ ys.length := by omega
    have hl2 : ys.length ≤ xs.length := by omega
    clear hl
    go_enter Try.func37, Try.ntmps37
    go_wp2_with fail
    go_loopw [5] (fun i wr => ∃ k : Nat, k ≤ xs.length ∧ i = .int .i64 k ∧ xs.take k = ys.take k ∧ Below w.heap.size w wr) (fun i _ => xs.length - (intOf i).toNat)
    case atStart => exact ⟨0, by omega, rfl, by simp, Below.refl _ _⟩
    case round =>
      obtain ⟨k, hk, rfl, htk, hb⟩ := hrel
      have Htk := Lib.hid htk
      clear htk
      by_cases hlt : k < xs.length
      · obtain ⟨b, off, rfl, hbl, e1⟩ := hA.at_ hlt
        obtain ⟨b', off', rfl, hbl', e2⟩ := hB.at_ (show k < ys.length by omega)
        obtain ⟨hc, hf⟩ := bcell hb
        have c1 := (hc b (off + k) hbl).trans e1
        have c2 := (hc b' (off' + k) hbl').trans e2
        clear hc hf e1 e2
        unfold i64 at c1 c2
        go_wp2_with fail
        refine wp_draw mixed (by kernel_rfl) (fun K hK => ?_)
        go_wp2_with fail
        refine ⟨by kernel_rfl, ?_⟩
        go_wp2_with fail
        · have hne : xs[k] ≠ ys[k] := by simpa using ‹(xs[k] != ys[k]) = true›
          go_ret
          refine ⟨?_, below_drew hb⟩
          have : decide (xs = ys) = false := by simp; rintro rfl; exact hne rfl
          rw [this]; rfl
        · have heq : xs[k] = ys[k] := by simpa using ‹(xs[k] != ys[k]) = false›
          go_roundw
          case rel => exact ⟨k + 1, by omega, by go_num, by rw [take_snoc _ _ hlt, take_snoc ys k (by omega), Htk.out, heq], below_drew hb⟩
          case measure => simp [intOf]; omega
      · go_wp2_with fail
        go_ret
        have h1 := Htk.out
        rw [List.take_of_length_le (by omega), List.take_of_length_le (by omega)] at h1
        refine ⟨?_, hb⟩
        rw [decide_eq_true h1]; rfl

/-- two arcs, field by field -/
theorem arc_equal (x y : Arc) (w : World) : (Op.equalIn 10000 41 (.agg #[.int .i64 x.src, .int .i64 x.dst, .int .i64 x.low, .int .i64 x.cap, .int .i64 x.cost]) (.agg #[.int .i64 y.src, .int .i64 y.dst, .int .i64 y.low, .int .i64 y.cap, .int .i64 y.cost])).run Try.prog w = .ok (decide (x = y)) w := by
  obtain ⟨x0, x1, x2, x3, x4⟩ := x
  obtain ⟨y0, y1, y2, y3, y4⟩ := y
  by_cases e0 : x0 = y0
  · by_cases e1 : x1 = y1
    · by_cases e2 : x2 = y2
      · by_cases e3 : x3 = y3
        · by_cases e4 : x4 = y4
          · subst e0 e1 e2 e3 e4; simp [go_sem]
          · subst e0 e1 e2 e3; simp [go_sem, e4]
        · subst e0 e1 e2; simp [go_sem, e3]
      · subst e0 e1; simp [go_sem, e2]
    · subst e0; simp [go_sem, e1]
  · simp [go_sem, e0]

theorem equalArcs_any (A B : Option Addr) (c d : Nat) (xs ys : List Arc) (w : World) (hx : xs.length ≤ 1000000) (hA : ArcsR w w.heap.size A xs) (hB : ArcsR w w.heap.size B ys) :
    Calls Try.prog 34 #[.slice A xs.length c, .slice B ys.length d] w fun e w' => e = .returned (.bool (decide (xs = ys))) ∧ Below w.heap.size w w' := by
  by_cases hl : xs.length = ys.length
  case neg =>
    have h1 : ((xs.length : Int) != (ys.length : Int)) = true := by simp; omega
    have h2 : decide (xs = ys) = false := by simp; rintro rfl; exact hl rfl
    have H2 := Lib.hid h2
    clear h2
    go_enter Try.func34, Try.ntmps34
    go_wp2_with fail
    go_ret
    exact ⟨by rw [H2.out]; rfl, Below.refl _ _⟩
  case pos =>
    have Hl := Lib.hid hl
    have h1 : ((xs.length : Int) != (ys.length : Int)) = false := by simp; omega
    have hl1 : xs.length ≤ ys.length := by omega
    have hl2 : ys.length ≤ xs.length := by omega
    clear hl
    go_enter Try.func34, Try.ntmps34
    go_wp2_with fail
    go_loopw [13] (fun i wr => ∃ k : Nat, k ≤ xs.length ∧ i = .int .i64 k ∧ xs.take k = ys.take k ∧ Below w.heap.size w wr) (fun i _ => xs.length - (intOf i).toNat)
    case atStart => exact ⟨0, by omega, rfl, by simp, Below.refl _ _⟩
    case round =>
      obtain ⟨k, hk, rfl, htk, hb⟩ := hrel
      have Htk := Lib.hid htk
      clear htk
      by_cases hlt : k < xs.length
      · obtain ⟨b, off, rfl, hbl, e1⟩ := hA.at_ hlt
        obtain ⟨b', off', rfl, hbl', e2⟩ := hB.at_ (show k < ys.length by omega)
        obtain ⟨c0, c1, c2, c3, c4⟩ := e1.keep hb hbl
        obtain ⟨d0, d1, d2, d3, d4⟩ := e2.keep hb hbl'
        generalize hxk : xs[k] = x at *
        generalize hyk : ys[k] = y at *
        have Hx := Lib.hid hxk
        have Hy := Lib.hid hyk
        clear hxk hyk e1 e2
        have hq := arc_equal x y
        go_wp2_with fail
        refine wp_draw mixed (by kernel_rfl) (fun K hK => ?_)
        go_wp2_with fail
        refine ⟨by kernel_rfl, ?_⟩
        go_wp2_with fail
        · have hne : x ≠ y := by simpa using ‹(!decide (x = y)) = true›
          go_ret
          refine ⟨?_, below_drew hb⟩
          have : decide (xs = ys) = false := by simp; rintro rfl; exact hne (Hx.out.symm.trans Hy.out)
          rw [this]; rfl
        · have heq : x = y := by simpa using ‹(!decide (x = y)) = false›
          go_roundw
          case rel => exact ⟨k + 1, by omega, by go_num, by rw [take_snoc _ _ hlt, take_snoc ys k (by omega), Htk.out, Hx.out, Hy.out, heq], below_drew hb⟩
          case measure => simp [intOf]; omega
      · go_wp2_with fail
        go_ret
        have h1 := Htk.out
        rw [List.take_of_length_le (by omega), List.take_of_length_le (by omega)] at h1
        refine ⟨?_, hb⟩
        rw [decide_eq_true h1]; rfl
theorem ints_any (A B : Option Addr) (c d : Nat) (xs ys : List Int) (w : World) (hx : xs.length ≤ 1000000) (hA : RowR i64 w w.heap.size A xs) (hB : RowR i64 w w.heap.size B ys) :
    Calls Try.prog 24 #[.slice A xs.length c, .slice B ys.length d] w fun e w' => e = .returned (.bool (decide (xs = ys))) ∧ Below w.heap.size w w' := by
  by_cases hl : xs.length = ys.length
  case neg =>
    have h1 : ((xs.length : Int) != (ys.length : Int)) = true := by simp; omega
    have h2 : decide (xs = ys) = false := by simp; rintro rfl; exact hl rfl
    have H2 := Lib.hid h2
    clear h2
    go_enter Try.func24, Try.ntmps24
    go_wp2_with fail
    go_ret
    exact ⟨by rw [H2.out]; rfl, Below.refl _ _⟩
  case pos =>
    have Hl := Lib.hid hl
    have h1 : ((xs.length : Int) != (ys.length : Int)) = false := by simp; omega
    have hl1 : xs.length ≤ ys.length := by omega
    have hl2 : ys.length ≤ xs.length := by omega
    clear hl
    go_enter Try.func24, Try.ntmps24
    go_wp2_with fail
    go_loopw [5] (fun i wr => ∃ k : Nat, k ≤ xs.length ∧ i = .int .i64 k ∧ xs.take k = ys.take k ∧ Below w.heap.size w wr) (fun i _ => xs.length - (intOf i).toNat)
    case atStart => exact ⟨0, by omega, rfl, by simp, Below.refl _ _⟩
    case round =>
      obtain ⟨k, hk, rfl, htk, hb⟩ := hrel
      have Htk := Lib.hid htk
      clear htk
      by_cases hlt : k < xs.length
      · obtain ⟨b, off, rfl, hbl, e1⟩ := hA.at_ hlt
        obtain ⟨b', off', rfl, hbl', e2⟩ := hB.at_ (show k < ys.length by omega)
        obtain ⟨hc, hf⟩ := bcell hb
        have c1 := (hc b (off + k) hbl).trans e1
        have c2 := (hc b' (off' + k) hbl').trans e2
        clear hc hf e1 e2
        unfold i64 at c1 c2
        go_wp2_with fail
        refine wp_draw mixed (by kernel_rfl) (fun K hK => ?_)
        go_wp2_with fail
        refine ⟨by kernel_rfl, ?_⟩
        go_wp2_with fail
        · have hne : xs[k] ≠ ys[k] := by simpa using ‹(xs[k] != ys[k]) = true›
          go_ret
          refine ⟨?_, below_drew hb⟩
          have : decide (xs = ys) = false := by simp; rintro rfl; exact hne rfl
          rw [this]; rfl
        · have heq : xs[k] = ys[k] := by simpa using ‹(xs[k] != ys[k]) = false›
          go_roundw
          case rel => exact ⟨k + 1, by omega, by go_num, by rw [take_snoc _ _ hlt, take_snoc ys k (by omega), Htk.out, heq], below_drew hb⟩
          case measure => simp [intOf]; omega
      · go_wp2_with fail
        go_ret
        have h1 := Htk.out
        rw [List.take_of_length_le (by omega), List.take_of_length_le (by omega)] at h1
        refine ⟨?_, hb⟩
        rw [decide_eq_true h1]; rfl


theorem same_any (v u : Value) (I J : Inst) (w : World) (hI : InstR w w.heap.size v I) (hJ : InstR w w.heap.size u J) (hs : I.sup.length ≤ 1000000) (hm : I.arcs.length ≤ 1000000) :
    Calls Try.prog 18 #[v, u] w fun e w' => e = .returned (.bool (decide (I = J))) ∧ Below w.heap.size w w' := by
  obtain ⟨sup, arcs⟩ := I
  obtain ⟨sup', arcs'⟩ := J
  obtain ⟨A, c, A', c', rfl, hA, hA'⟩ := hI
  obtain ⟨B, d, B', d', rfl, hB, hB'⟩ := hJ
  dsimp only at *
  have hw2 : Below w.heap.size w ((w.alloc (.cells #[.slice A sup.length c, .slice A' arcs.length c'] 26)).alloc (.cells #[.slice B sup'.length d, .slice B' arcs'.length d'] 26)) := ((Below.refl _ _).alloc (Nat.le_refl _) _).alloc (by simp) _
  by_cases h1 : sup = sup'
  case neg =>
    have Hr : Hid (decide ((⟨sup, arcs⟩ : Inst) = ⟨sup', arcs'⟩) = false) := Lib.hid (by simp [h1])
    have hd : decide (sup = sup') = false := by simp [h1]
    clear h1
    go_enter Try.func18, Try.ntmps18
    go_wp2_with fail
    refine (equalInts_any A B c d sup sup' _ hs ((hA.keep hw2 (Nat.le_refl _)).more (by simp; omega)) ((hB.keep hw2 (Nat.le_refl _)).more (by simp; omega))).mono ?_
    rintro e w1 ⟨rfl, hb1⟩
    go_wp2_with fail
    go_ret
    exact ⟨ret_bool Hr.out.symm, hw2.trans (hb1.mono (by simp; omega))⟩
  case pos =>
    have Hr : Hid (decide ((⟨sup, arcs⟩ : Inst) = ⟨sup', arcs'⟩) = decide (arcs = arcs')) := Lib.hid (by simp [h1])
    have hd : decide (sup = sup') = true := by simp [h1]
    clear h1
    go_enter Try.func18, Try.ntmps18
    go_wp2_with fail
    refine (equalInts_any A B c d sup sup' _ hs ((hA.keep hw2 (Nat.le_refl _)).more (by simp; omega)) ((hB.keep hw2 (Nat.le_refl _)).more (by simp; omega))).mono ?_
    rintro e w1 ⟨rfl, hb1⟩
    have hz1 := hb1.size
    have g0 : w1.cell? ⟨w.heap.size, 1, none⟩ = some (.slice A' arcs.length c') := (hb1.cell (p := ⟨w.heap.size, 1, none⟩) (by simp; omega)).trans (by simp)
    have g1 : w1.cell? ⟨w.heap.size + 1, 1, none⟩ = some (.slice B' arcs'.length d') := (hb1.cell (p := ⟨w.heap.size + 1, 1, none⟩) (by simp)).trans (by simp)
    have hb2 : Below w.heap.size w w1 := hw2.trans (hb1.mono (by simp; omega))
    go_wp2_with fail
    refine (equalArcs_any A' B' c' d' arcs arcs' _ hm ((hA'.keep hb2 (Nat.le_refl _)).more hb2.size) ((hB'.keep hb2 (Nat.le_refl _)).more hb2.size)).mono ?_
    rintro e w3 ⟨rfl, hb3⟩
    go_wp2_with fail
    go_ret
    exact ⟨ret_bool Hr.out.symm, hb2.trans (hb3.mono hb2.size)⟩
end Go.Proofs.Ytimkpgkpebjglaa
