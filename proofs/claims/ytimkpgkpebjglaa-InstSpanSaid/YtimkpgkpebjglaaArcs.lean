/-
  CONTRACT: quittancelaw03.Arcs: arcs, as choices say.
-/
import Derived.Test.YtimkpgkpebjglaaBase
import Derived.Deep.CutRange
namespace Go.Proofs.Ytimkpgkpebjglaa
open Go Go.RowKit Go.Ql Go.Draw

theorem ownsRow_setNew {w w1 : World} {b e size n : Nat} {v : Value} {xs : List Value} (h : w.ownsRow b e size v n xs) (hk : ∀ g, g < w.heap.size → w1.heap[g]? = w.heap[g]?) {p : Addr} (hp : w.heap.size ≤ p.block) (u : Value) : (w1.setCell p u).ownsRow b e size v n xs :=
  ownsRow_keep h fun g _ hg => (heap_set_other w1 p u g (by omega)).trans (hk g hg)

set_option maxRecDepth 100000 in
set_option maxHeartbeats 2000000 in
theorem arcs_any (A : Option Addr) (cc : Nat) (c : List Int) (many : Int) (w : World) (hm1 : 1 ≤ many) (hm2 : many ≤ 1000) (hA : RowR (Value.int .u8) w w.heap.size A c) (hm : c.length ≤ maxLen) (hc : ∀ x ∈ c, 0 ≤ x ∧ x ≤ 255) :
    Calls Try.prog 27 #[.slice A c.length cc, .int .i64 many] w fun e w' => ∃ v, e = .returned v ∧ w'.ownsRow w.heap.size 41 5 v (arcsF c many).length ((arcsF c many).flatMap Arc.cells) ∧ Below w.heap.size w w' := by
  unfold maxLen at hm
  have Hc := Lib.hid hc
  clear hc
  obtain ⟨i2, hi2, hx0, hx1, hx2⟩ := info_parts info_arc
  go_enter Try.func27, Try.ntmps27
  go_wp2_with fail
  go_loopw [5, 6] (fun v i wr => ∃ (j : Nat) (acc : List Arc), j ≤ 18 ∧ acc.length ≤ j ∧ i = .int .i64 ((4 * j : Nat) : Int) ∧ wr.ownsRow w.heap.size 41 5 v acc.length (acc.flatMap Arc.cells) ∧ acc ++ arcsGo c many (18 - j) (4 * j) = arcsF c many ∧ Below w.heap.size w wr) (fun _ i _ => 72 - (intOf i).toNat)
  case atStart => exact ⟨0, [], by omega, by simp, rfl, World.ownsRow_nil _ _ _ _, by simp [arcsF], Below.refl _ _⟩
  case round =>
    obtain ⟨j, acc, hj, hacc, rfl, hown, hspec, hb⟩ := hrel
    have Hs := Lib.hid hspec
    clear hspec
    have hz := hb.size
    by_cases hlt : 4 * j + 3 < c.length ∧ j < 18
    · obtain ⟨hl1, hl2⟩ := hlt
      have Hstep : Hid (arcsGo c many (18 - j) (4 * j) = arcOf (c.getD (4 * j) 0) (c.getD (4 * j + 1) 0) (c.getD (4 * j + 2) 0) (c.getD (4 * j + 3) 0) many :: arcsGo c many (18 - (j + 1)) (4 * (j + 1))) := Lib.hid (by
        rw [show 18 - j = (18 - (j + 1)) + 1 by omega, arcsGo, if_pos hl1]; rfl)
      obtain ⟨b, off, rfl, hbl, hcells⟩ := (hA.keep hb (Nat.le_refl _)) (show 0 < c.length by omega)
      have e0 := hcells (4 * j) _ (List.getElem?_eq_getElem (show 4 * j < c.length by omega))
      have e1 := hcells (4 * j + 1) _ (List.getElem?_eq_getElem (show 4 * j + 1 < c.length by omega))
      have e2 := hcells (4 * j + 2) _ (List.getElem?_eq_getElem (show 4 * j + 2 < c.length by omega))
      have e3 := hcells (4 * j + 3) _ (List.getElem?_eq_getElem (show 4 * j + 3 < c.length by omega))
      clear hcells
      have b0 := Hc.out _ (List.getElem_mem (show 4 * j < c.length by omega))
      have b1 := Hc.out _ (List.getElem_mem (show 4 * j + 1 < c.length by omega))
      have b2 := Hc.out _ (List.getElem_mem (show 4 * j + 2 < c.length by omega))
      have b3 := Hc.out _ (List.getElem_mem (show 4 * j + 3 < c.length by omega))
      have Hg : Hid (c.getD (4 * j) 0 = c[4 * j] ∧ c.getD (4 * j + 1) 0 = c[4 * j + 1] ∧ c.getD (4 * j + 2) 0 = c[4 * j + 2] ∧ c.getD (4 * j + 3) 0 = c[4 * j + 3]) := Lib.hid (by
        refine ⟨?_, ?_, ?_, ?_⟩ <;> simp only [List.getD, List.getElem?_eq_getElem (show 4 * j < c.length by omega), List.getElem?_eq_getElem (show 4 * j + 1 < c.length by omega), List.getElem?_eq_getElem (show 4 * j + 2 < c.length by omega), List.getElem?_eq_getElem (show 4 * j + 3 < c.length by omega), Option.getD_some])
      rw [Hg.out.1, Hg.out.2.1, Hg.out.2.2.1, Hg.out.2.2.2] at Hstep
      clear Hg
      generalize c[4 * j] = x0 at *
      generalize c[4 * j + 1] = x1 at *
      generalize c[4 * j + 2] = x2 at *
      generalize c[4 * j + 3] = x3 at *
      obtain ⟨b0l, b0u⟩ := b0
      obtain ⟨b1l, b1u⟩ := b1
      obtain ⟨b2l, b2u⟩ := b2
      obtain ⟨b3l, b3u⟩ := b3
      have hbl2 : b < wr.heap.size := by omega
      go_wp2_with fail
      refine wp_draw mixed (by kernel_rfl) (fun K hK => ?_)
      go_wp2_with fail
      refine ⟨by kernel_rfl, ?_⟩
      go_wp2_with fail
      refine wp_draw mixed (by kernel_rfl) (fun K hK => ?_)
      go_wp2_with fail
      refine ⟨by kernel_rfl, ?_⟩
      obtain ⟨f, hf⟩ : ∃ f : Int, f = x3 % 8 := ⟨_, rfl⟩
      go_upto_region 8 with (fail)
      rw [← hf]
      have hf0 : 0 ≤ f := by omega
      have hf1 : f < 8 := by omega
      have Harc : Hid (arcOf x0 x1 x2 x3 many = if f = 0 then ⟨x0 % many, x0 / 16 % many, x1 % 3, 4611686018427387904, x2 % 21 - 8⟩ else if f = 1 then ⟨x0 % many, x0 / 16 % many, 0, x1 % 3 + x1 / 3 % 6, x2 % 21 - 8⟩ else if f = 2 then ⟨x0 % many, x0 / 16 % many, x1 % 3, x1 % 3 + x1 / 3 % 6, 0⟩ else ⟨x0 % many, x0 / 16 % many, x1 % 3, x1 % 3 + x1 / 3 % 6, x2 % 21 - 8⟩) := Lib.hid (by unfold arcOf; rw [hf])
      clear hf
      rcases (show f = 0 ∨ f = 1 ∨ f = 2 ∨ (f ≠ 0 ∧ f ≠ 1 ∧ f ≠ 2) by omega) with h | h | h | ⟨h, h', h''⟩
      case' inl => subst h
      case' inr.inl => subst h
      case' inr.inr.inl => subst h
      case' inl => rw [if_pos rfl] at Harc
      case' inr.inl => rw [if_neg (by omega), if_pos rfl] at Harc
      case' inr.inr.inl => rw [if_neg (by omega), if_neg (by omega), if_pos rfl] at Harc
      case' inr.inr.inr => rw [if_neg h, if_neg h', if_neg h''] at Harc
      all_goals go_upto_region 14 with (fail)
      all_goals refine wp_world (fun W => Below w.heap.size w W ∧ W.ownsRow w.heap.size 41 5 u5 acc.length (acc.flatMap Arc.cells) ∧ Has W wr.heap.size 41 (arcOf x0 x1 x2 x3 many).cells.toArray) ⟨below_drew (below_drew (hb.alloc hz _)), ownsRow_drew (ownsRow_drew (hown.alloc _)), by rw [Harc.out]; exact Has.new _ _ _⟩ ?_
      all_goals clear e0 e1 e2 e3 hown hb hbl2
      all_goals rintro W ⟨hbW, hownW, hh⟩
      all_goals clear Harc
      all_goals have hgW := hh.lt
      all_goals generalize wr.heap.size = g at *
      all_goals generalize arcOf x0 x1 x2 x3 many = ar at *
      all_goals obtain ⟨src, dst, low, cap, cost⟩ := ar
      all_goals have c0 : W.cell? ⟨g, 0, none⟩ = some (.int .i64 src) := (hh.cell 0).trans (by simp [Arc.cells])
      all_goals have c1 : W.cell? ⟨g, 1, none⟩ = some (.int .i64 dst) := (hh.cell 1).trans (by simp [Arc.cells])
      all_goals have c2 : W.cell? ⟨g, 2, none⟩ = some (.int .i64 low) := (hh.cell 2).trans (by simp [Arc.cells])
      all_goals have c3 : W.cell? ⟨g, 3, none⟩ = some (.int .i64 cap) := (hh.cell 3).trans (by simp [Arc.cells])
      all_goals have c4 : W.cell? ⟨g, 4, none⟩ = some (.int .i64 cost) := (hh.cell 4).trans (by simp [Arc.cells])
      all_goals have hWz := hbW.size
      all_goals obtain ⟨As, cs, rfl⟩ := ownsRow_slice hownW
      all_goals go_wp2_with (at_builtin; refine wpList_append_own_at _ rfl (.tmp 77) (.tmp 79) 24 rfl w.heap.size 41 i2 (Value.agg #[.int .i64 0, .int .i64 0, .int .i64 0, .int .i64 0, .int .i64 0]) 5 40 Try.underlying24 hi2 hx0 hx1 hx2 rfl (by decide) _ _ _ rfl (hownW.alloc _) ⟨W.heap.size, 0, none⟩ 1 1 (Arc.cells ⟨src, dst, low, cap, cost⟩) rfl rfl (news_row W (Arc.cells ⟨src, dst, low, cap, cost⟩) 41) (by simp [Arc.cells, Value.oneCell']) (by simp only [maxLen]; omega) (by omega) (by simp only [World.size_alloc]; omega) ?_)
      all_goals intro v' wa hown' hgrow _ hat
      all_goals go_wp2_with fail
      all_goals go_roundw
      all_goals try (case measure => simp [intOf]; omega)
      all_goals refine ⟨j + 1, acc ++ [⟨src, dst, low, cap, cost⟩], by omega, by simp; omega, by go_num, by simpa using hown', by rw [← Hs.out, Hstep.out]; simp, (hbW.alloc hWz _).grown hgrow (by simp only [World.size_alloc]; omega) (fun k e => (hownW.lt k e).1)⟩
    · have Hstep : Hid (arcsGo c many (18 - j) (4 * j) = []) := Lib.hid (by
        by_cases h : j < 18
        · rw [show 18 - j = (18 - (j + 1)) + 1 by omega, arcsGo, if_neg (by omega)]
        · rw [show 18 - j = 0 by omega]; rfl)
      rw [Hstep.out, List.append_nil] at Hs
      go_wp2_with fail
      all_goals go_ret
      all_goals refine ⟨_, rfl, ?_, hb⟩
      all_goals rw [← Hs.out]
      all_goals exact hown
end Go.Proofs.Ytimkpgkpebjglaa
