/-
  CONTRACT: quittancelaw03.Inst: an instance, as choices say.
-/
import Derived.Test.YtimkpgkpebjglaaBase2
import Derived.Test.YtimkpgkpebjglaaArcs
import Derived.Deep.DeepCutAuto
import Derived.Deep.RegionWith
namespace Go.Proofs.Ytimkpgkpebjglaa
open Go Go.RowKit Go.Ql Go.Draw

theorem FrB.arcsR {B : Nat} {S : List Nat} {a w : World} {B' : Nat} {A : Option Addr} {xs : List Arc} (h : FrB B S a w) (hr : ArcsR a B' A xs) (hB : B' ≤ B) (hs : ∀ ad, A = some ad → ad.block ∉ S) : ArcsR w B' A xs := by
  intro hn
  obtain ⟨b, off, e, hlt, hc⟩ := hr hn
  refine ⟨b, off, e, hlt, fun i x hx => ?_⟩
  have := hc i x hx
  have hh : ∀ o, w.cell? ⟨b, o, none⟩ = a.cell? ⟨b, o, none⟩ := fun o => World.cell?_of_block (h.block b (by omega) (hs _ e))
  unfold ArcAt at *
  rw [hh, hh, hh, hh, hh]
  exact this

theorem ownsRow_keep' {w w' : World} {b e size n : Nat} {v : Value} {xs : List Value} (h : w.ownsRow b e size v n xs) (hk : ∀ g, v.ownBlock = some g → w'.heap[g]? = w.heap[g]?) : w'.ownsRow b e size v n xs := by
  refine ⟨h.1, h.2.imp id ?_⟩
  rintro ⟨g, cap, cur, rfl, hg, hh, rest⟩
  exact ⟨g, cap, cur, rfl, hg, (hk g (by simp [Value.ownBlock])).trans hh, rest⟩
theorem ownsRow_of_has {w : World} {b g e : Nat} {s : List Int} {n : Nat} (h : Has w g e (s.map i64).toArray) (hn : s.length = n) (hb : b ≤ g) (hm : n ≤ maxLen) : w.ownsRow b e 1 (.slice (some ⟨g, 0, none⟩) n n) s.length (s.map i64) := by
  subst hn
  refine ⟨by simp, .inr ⟨g, s.length, _, rfl, hb, h, Nat.le_refl _, hm, by simp, by rw [Nat.mul_one]; exact List.take_of_length_le (by simp)⟩⟩

theorem addAt_cells (s : List Int) (k : Nat) (x y : Int) (h : y = s.getD k 0 + x) : (s.map i64).toArray.setIfInBounds k (.int .i64 y) = ((addAt s k x).map i64).toArray := by
  subst h
  rw [List.setIfInBounds_toArray, addAt, List.map_set]
  rfl

set_option maxRecDepth 100000 in
set_option maxHeartbeats 2000000 in
theorem inst_any (A A' : Option Addr) (cc dd : Nat) (c d : List Int) (w : World) (hA : RowR (Value.int .u8) w w.heap.size A c) (hA' : RowR (Value.int .u8) w w.heap.size A' d) (hm : c.length ≤ maxLen) (hm' : d.length ≤ maxLen) (hc : Bytes c) (hd : Bytes d) :
    Calls Try.prog 10 #[.slice A c.length cc, .slice A' d.length dd] w fun e w' => ∃ v, e = .returned v ∧ OwnI w' w.heap.size v (instF c d) ∧ Below w.heap.size w w' := by
  have Hm := Lib.hid hm
  unfold maxLen at hm'
  clear hm
  have Hc := Lib.hid hc
  have Hd := Lib.hid hd
  clear hc hd
  go_enter Try.func10, Try.ntmps10
  go_upto_if 13 with (fail)
  go_cut [5] (fun v W => v = .int .i64 (nOf d) ∧ Below w.heap.size w W ∧ Has W w.heap.size 26 #[.slice none 0 0, .slice none 0 0] ∧ w.heap.size < W.heap.size)
  case first =>
    by_cases h0 : 0 < d.length
    · obtain ⟨b, off, rfl, hbl, e0⟩ := hA'.at_ h0
      rw [Nat.add_zero] at e0
      have hb0 := Hd.out _ (List.getElem_mem h0)
      have Hn : Hid (nOf d = 1 + (d[0] % 7).toNat) := Lib.hid (by unfold nOf; rw [if_pos h0]; simp [List.getD, h0])
      generalize d[0] = x at *
      obtain ⟨hx0, hx1⟩ := hb0
      go_wp2_with fail
      go_meet
      refine ⟨?_, (Below.refl _ _).alloc (Nat.le_refl _) _, Has.new _ _ _, by simp⟩
      rw [Hn.out]
      congr 1
      omega
    · have Hn : Hid (nOf d = 1) := Lib.hid (by unfold nOf; rw [if_neg h0])
      go_wp2_with fail
      go_meet
      refine ⟨?_, (Below.refl _ _).alloc (Nat.le_refl _) _, Has.new _ _ _, by simp⟩
      rw [Hn.out]; rfl
  case rest =>
    obtain ⟨rfl, hbw, hh4, hws⟩ := hcut
    generalize hn : nOf d = n at *
    have Hn := Lib.hid hn
    have hn1 : 1 ≤ n := by rw [← hn]; exact nOf_pos d
    have hn7 : n ≤ 7 := by rw [← hn]; exact nOf_le d
    clear hn
    go_upto_region 4 with (fail)
    have hmk := make_int64s n (by omega)
    have hAc := hA.below hbw
    obtain ⟨w0, rfl⟩ : ∃ w0 : World, w0 = wc := ⟨_, rfl⟩
    go_cut [6] (fun p W => ∃ g bs va, p = .pointer (some ⟨g, 0, none⟩) ∧ w0.heap.size ≤ g ∧ w0.heap.size ≤ bs ∧ Has W g 26 #[.slice (some ⟨bs, 0, none⟩) n n, va] ∧ Has W bs 2 (Array.replicate n (i64 0)) ∧ W.ownsRow w0.heap.size 41 5 va (arcsF c n).length ((arcsF c n).flatMap Arc.cells) ∧ Below w0.heap.size w0 W)
    case first =>
      go_region_with (
        go_at_call 27
        refine (arcs_any A cc c n _ (by omega) (by omega) (by first | exact hAc | exact hAc.alloc _ | exact (hAc.alloc _).alloc _) Hm.out Hc.out).mono ?_
        rintro e w' ⟨va, rfl, hown, hb⟩
        obtain ⟨Av, cv, rfl⟩ := ownsRow_slice hown
        have hbz := hb.size
        try simp only [World.size_alloc, World.size_drew] at hbz
        first
          | (have H0 : Has w' w0.heap.size 26 #[.slice none 0 0, .slice none 0 0] := by
               refine Has.below (Has.new' _ _ _ ?_).drew hb ?_
               · simp; done
               · simp; done)
          | (have H0 : Has w' w0.heap.size 26 #[.slice none 0 0, .slice none 0 0] := by
               refine Has.below ((Has.new' _ _ _ ?_).alloc _).drew hb ?_
               · simp; done
               · simp; omega)
          | (have H0 : Has w' (w0.heap.size + 1) 26 #[.slice none 0 0, .slice none 0 0] := by
               refine Has.below (Has.new' _ _ _ ?_).drew hb ?_
               · simp; done
               · simp; done)
          | skip
        try (have H5 := H0.lt
             have H1 := H0.cell 0
             have H2 := H0.cell 1
             have H3 := H0.free 0
             have H4 := H0.free 1
             simp only [List.getElem?_toArray, List.getElem?_cons_zero, List.getElem?_cons_succ] at H1 H2))
      all_goals go_wp2_with fail
      all_goals go_meet
      all_goals have hbR : Below w0.heap.size w0 w0 := Below.refl _ _
      · refine ⟨_, _, _, rfl, by omega, Nat.le_refl _, Has.new _ _ _, ((Has.new w0 _ _).drew.below hb (by simp)).alloc _, (ownsRow_base hown (by simp)).alloc _, (((hbR.alloc (Nat.le_refl _) _).drew).trans (hb.mono (by simp))).alloc (by omega) _⟩
      · refine ⟨_, _, _, rfl, by omega, Nat.le_refl _, by simpa using (H0.set 0 _).set 1 _, ((((Has.new w0 _ _).alloc _).drew.below hb (by simp; omega)).far (by simp) _).far (by simp) _, ownsRow_base (ownsRow_set (ownsRow_set hown (by simp) _) (by simp) _) (by simp; omega), ?_⟩
        exact below_setCell (below_setCell ((((hbR.alloc (Nat.le_refl _) _).alloc (by simp) _).drew).trans (hb.mono (by simp; omega))) (by simp) _) (by simp) _
      · refine ⟨_, _, _, rfl, ?_, ?_, Has.new' _ _ _ (by simp), (Has.new' _ _ _ (by simp)).alloc _, ((ownsRow_base hown (by simp)).alloc _).alloc _, (((hbR.drew).trans (hb.mono (by simp))).alloc ?_ _).alloc ?_ _⟩
        all_goals (first | (simp; omega) | omega | simp)
      · refine ⟨_, _, _, rfl, ?_, ?_, (Has.new' _ _ _ (by simp)).alloc _, Has.new' _ _ _ (by simp), ((ownsRow_base hown (by simp)).alloc _).alloc _, (((hbR.drew).trans (hb.mono (by simp))).alloc ?_ _).alloc ?_ _⟩
        all_goals (first | (simp; omega) | omega | simp)
      · refine ⟨_, w0.heap.size + 1, _, rfl, Nat.le_refl _, by omega, by simpa using (H0.set 0 _).set 1 _, ((((Has.new' _ _ _ (by simp))).drew.below hb (by simp)).far (by simp) _).far (by simp) _, ownsRow_base (ownsRow_set (ownsRow_set hown (by simp; omega) _) (by simp; omega) _) (by simp; omega), ?_⟩
        exact below_setCell (below_setCell ((((hbR.alloc (Nat.le_refl _) _).alloc (by simp) _).drew).trans (hb.mono (by simp; omega))) (by simp) _) (by simp) _
      · refine ⟨_, w'.heap.size, _, rfl, Nat.le_refl _, by omega, Has.alloc (by simpa using (H0.set 0 _).set 1 _) _, Has.new' _ _ _ (by simp), World.ownsRow.alloc (ownsRow_base (ownsRow_set (ownsRow_set hown (by simp) _) (by simp) _) (by simp)) _, ?_⟩
        exact (below_setCell (below_setCell ((hbR.alloc (Nat.le_refl _) _).drew.trans (hb.mono (by simp))) (Nat.le_refl _) _) (Nat.le_refl _) _).alloc (by simp; omega) _
    case rest =>
      obtain ⟨g, bs, va, rfl, hg, hbs, hhg, hhs, hown, hbW⟩ := hcut
      obtain ⟨W, rfl⟩ : ∃ W : World, W = wc := ⟨_, rfl⟩
      obtain ⟨Av, cv, rfl, hAr, _, _, hAo⟩ := arcsR_of_own hown
      have Hfin : Hid (instF c d = { sup := if 1 < d.length ∧ d.getD (d.length - 1) 0 % 5 = 0 then addAt (addAt (supGo d (arcsF c n) 0 (List.replicate n 0)) 0 (d.getD 1 0 % 3)) (n - 1) (-(d.getD 1 0 % 3)) else supGo d (arcsF c n) 0 (List.replicate n 0), arcs := arcsF c n }) := Lib.hid (by unfold instF sup1; rw [Hn.out])
      have Hni := Lib.hid (arcsF_nice c n (by omega))
      have hal := arcsF_len c n
      generalize arcsF c n = arcs at *
      have hgb := hhg.ne hhs (by decide)
      have Hao : Hid (∀ a, Av = some a → w0.heap.size ≤ a.block ∧ a.block ≠ bs ∧ a.block < W.heap.size) := Lib.hid (fun a ha => by
        obtain ⟨h1, h2, _, _, cs, h3⟩ := hAo a ha
        exact ⟨h1, h3.ne hhs (by decide), h2⟩)
      have hgl := hhg.lt
      have hbl := hhs.lt
      have hWz := hbW.size
      clear hAo hmk hA hAc Hc
      go_wp2_with fail
      go_loopw [7] (fun i wr => ∃ (j : Nat) (s : List Int), j ≤ arcs.length ∧ i = .int .i64 j ∧ s.length = n ∧ Within (10 * j) s ∧ supGo d (arcs.drop j) j s = supGo d arcs 0 (List.replicate n 0) ∧ FrB W.heap.size [bs] W wr ∧ Has wr bs 2 (s.map i64).toArray) (fun i _ => arcs.length - (intOf i).toNat)
      case atStart =>
        refine ⟨0, List.replicate n 0, by omega, rfl, by simp, fun x hx => ?_, by simp, FrB.refl _ _ _, by simpa using hhs⟩
        simp [List.mem_replicate] at hx; omega
      case round =>
        obtain ⟨j, s, hj, rfl, hsl, hwi, hspec, hfr, hh⟩ := hrel
        have Hs := Lib.hid hspec
        have Hwi := Lib.hid hwi
        have Hsl := Lib.hid hsl
        clear hspec hwi hsl
        have hhg2 := hfr.has hhg (by omega) (by simp; omega)
        have g0 : wr.cell? ⟨g, 0, none⟩ = some (.slice (some ⟨bs, 0, none⟩) n n) := (hhg2.cell 0).trans (by simp)
        have g1 : wr.cell? ⟨g, 1, none⟩ = some (.slice Av arcs.length cv) := (hhg2.cell 1).trans (by simp)
        have hzr := hfr.size
        have hbr : Below w.heap.size w wr := hbw.trans ((hbW.mono (by omega)).trans (hfr.toBelow (by omega) (by simp; omega)))
        by_cases hlt : j < arcs.length
        · have hstep : supGo d (arcs.drop j) j s = supGo d (arcs.drop (j + 1)) (j + 1) (addAt (addAt s arcs[j].src.toNat (useOf d j arcs[j])) arcs[j].dst.toNat (-(useOf d j arcs[j]))) := by
            rw [drop_cons arcs j hlt, supGo]
          rw [hstep] at Hs
          clear hstep
          obtain ⟨ba, oa, rfl, hba, eat⟩ := (FrB.arcsR hfr hAr (Nat.le_refl _) (fun ad h => by have := (Hao.out ad h).2.1; simpa using this)).at_ hlt
          have hnice := Hni.out _ (List.getElem_mem hlt)
          generalize arcs[j] = a at *
          have hu := useOf_ok (d := d) (k := j) hnice
          have hba1 := (Hao.out _ rfl).2.1
          obtain ⟨src, dst, low, cap, cost⟩ := a
          obtain ⟨s0, s1, d0, d1, l0, l1, c0, c1', k0, k1⟩ := hnice
          dsimp only at s0 s1 d0 d1 l0 l1 c0 c1' k0 k1 hba1
          have c1 : cap ≤ 4611686018427387904 := by omega
          clear c1'
          obtain ⟨ns, rfl⟩ : ∃ ns : Nat, src = ns := ⟨src.toNat, by omega⟩
          obtain ⟨nd, rfl⟩ : ∃ nd : Nat, dst = nd := ⟨dst.toNat, by omega⟩
          obtain ⟨e0, e1, e2, e3, e4⟩ := eat
          dsimp only at e0 e1 e2 e3 e4 Hs
          rw [Int.toNat_natCast, Int.toNat_natCast] at Hs
          have zg : g < wr.heap.size := by omega
          have zb : bs < wr.heap.size := by omega
          have za : ba < wr.heap.size := by omega
          go_upto_if 44 with (fail)
          go_cut [9] (fun x W2 => x = .int .i64 (useOf d j ⟨ns, nd, low, cap, cost⟩) ∧ FrB W.heap.size [bs] W W2 ∧ Has W2 bs 2 (s.map i64).toArray ∧ Has W2 wr.heap.size 41 #[.int .i64 ns, .int .i64 nd, .int .i64 low, .int .i64 cap, .int .i64 cost])
          case first =>
            by_cases hdl : j + 1 < d.length
            · obtain ⟨bd, od, rfl, hbd, ed⟩ := (hA'.keep hbr (Nat.le_refl _)).at_ hdl
              have hdb := Hd.out _ (List.getElem_mem hdl)
              have zd : bd < wr.heap.size := by have := hbr.size; omega
              have Hu : Hid (useOf d j ⟨ns, nd, low, cap, cost⟩ = min (low + d[j + 1] % 4) cap) := Lib.hid (by unfold useOf; rw [if_pos hdl]; simp [List.getD, hdl])
              generalize d[j + 1] = y at *
              obtain ⟨y0, y1⟩ := hdb
              go_wp2_with fail
              refine wp_draw mixed (by kernel_rfl) (fun K hK => ?_)
              go_wp2_with fail
              all_goals refine ⟨by kernel_rfl, ?_⟩
              all_goals go_wp2_with fail
              all_goals go_meet
              all_goals exact ⟨by rw [Hu.out]; congr 1; omega, (hfr.alloc hzr _).drew, (hh.alloc _).drew, (Has.new _ _ _).drew⟩
            · have Hu : Hid (useOf d j ⟨ns, nd, low, cap, cost⟩ = low) := Lib.hid (by unfold useOf; rw [if_neg hdl])
              go_wp2_with fail
              go_meet
              exact ⟨by rw [Hu.out], hfr.alloc hzr _, hh.alloc _, Has.new _ _ _⟩
          case rest =>
            obtain ⟨rfl, hfr2, hh2, hha⟩ := hcut
            obtain ⟨W2, rfl⟩ : ∃ W2 : World, W2 = wc := ⟨_, rfl⟩
            generalize useOf d j ⟨ns, nd, low, cap, cost⟩ = x at *
            have hg1 := Hwi.out.getD (by omega) ns
            have hzw : wr.heap.size < W2.heap.size := hha.lt
            generalize wr.heap.size = ga at *
            have hga : ga ≠ bs := hha.ne hh2 (by decide)
            clear g0 g1 hhg2 e0 e1 e2 e3 e4 hbr hfr hh
            have hhg2 := hfr2.has hhg (by omega) (by simp; omega)
            have g0 : W2.cell? ⟨g, 0, none⟩ = some (.slice (some ⟨bs, 0, none⟩) n n) := (hhg2.cell 0).trans (by simp)
            have a0 : W2.cell? ⟨ga, 0, none⟩ = some (.int .i64 ns) := (hha.cell 0).trans (by simp)
            have q0 : W2.cell? ⟨bs, ns, none⟩ = some (.int .i64 (s.getD ns 0)) := (hh2.cell ns).trans (by simp [i64, List.getD, Hsl.out, show ns < n by omega])
            have f0 := hh2.free ns
            obtain ⟨y, hy⟩ : ∃ y, y = s.getD ns 0 := ⟨_, rfl⟩
            rw [← hy] at hg1 q0
            have Hy := Lib.hid hy
            clear hy
            go_upto_region 13 with (fail)
            refine wp_world (fun W3 => FrB W.heap.size [bs] W W3 ∧ Has W3 bs 2 ((addAt s ns x).map i64).toArray ∧ Has W3 ga 41 #[.int .i64 ns, .int .i64 nd, .int .i64 low, .int .i64 cap, .int .i64 cost]) ⟨hfr2.set (.inl (by simp)) _, by have := hh2.set ns (.int .i64 (y + x)); rw [addAt_cells s ns x _ (by rw [Hy.out])] at this; exact this, hha.far (by simpa using hga) _⟩ ?_
            clear g0 a0 q0 f0 hhg2 hfr2 hh2 hha Hy hg1
            rintro W3 ⟨hfr2, hh2, hha⟩
            have hhg2 := hfr2.has hhg (by omega) (by simp; omega)
            have Hsl2 : Hid ((addAt s ns x).length = n) := Lib.hid (by rw [addAt_len]; exact Hsl.out)
            have Hw2 : Hid (Within (10 * j + 5) (addAt s ns x)) := Lib.hid (Hwi.out.addAt (by omega) ns (by omega) hu.2)
            have hg2 := Hw2.out.getD (by omega) nd
            generalize addAt s ns x = s2 at *
            have g0 : W3.cell? ⟨g, 0, none⟩ = some (.slice (some ⟨bs, 0, none⟩) n n) := (hhg2.cell 0).trans (by simp)
            have a0 : W3.cell? ⟨ga, 1, none⟩ = some (.int .i64 nd) := (hha.cell 1).trans (by simp)
            have q0 : W3.cell? ⟨bs, nd, none⟩ = some (.int .i64 (s2.getD nd 0)) := (hh2.cell nd).trans (by simp [i64, List.getD, Hsl2.out, show nd < n by omega])
            have f0 := hh2.free nd
            obtain ⟨y, hy⟩ : ∃ y, y = s2.getD nd 0 := ⟨_, rfl⟩
            rw [← hy] at hg2 q0
            have Hy := Lib.hid hy
            clear hy
            go_wp2_with fail
            go_roundw
            case rel =>
              refine ⟨j + 1, addAt s2 nd (-x), by omega, by go_num, by rw [addAt_len]; exact Hsl2.out, (Hw2.out.addAt (by omega) nd (y := 5) (by omega) (by omega)).more (by omega), ?_, hfr2.set (.inl (by simp)) _, ?_⟩
              · exact Hs.out
              · have := hh2.set nd (.int .i64 (y - x))
                rw [addAt_cells s2 nd (-x) _ (by rw [← Hy.out]; omega)] at this
                exact this
            case measure => simp [intOf]; omega
        · have hj2 : j = arcs.length := by omega
          subst hj2
          rw [List.drop_of_length_le (Nat.le_refl _)] at Hs
          simp only [supGo] at Hs
          have hg0 := hfr.has hhg (by omega) (by simp; omega)
          by_cases hdl : 1 < d.length
          · obtain ⟨bd, od, rfl, hbd, hcells⟩ := (hA'.keep hbr (Nat.le_refl _)) (show 0 < d.length by omega)
            have ed1 := hcells 1 _ (List.getElem?_eq_getElem hdl)
            have ed2 := hcells (d.length - 1) _ (List.getElem?_eq_getElem (show d.length - 1 < d.length by omega))
            have b1 := Hd.out _ (List.getElem_mem hdl)
            have b2 := Hd.out _ (List.getElem_mem (show d.length - 1 < d.length by omega))
            have Hg1 : Hid (d.getD 1 0 = d[1]) := Lib.hid (by simp [List.getD, hdl])
            have Hg2 : Hid (d.getD (d.length - 1) 0 = d[d.length - 1]) := Lib.hid (by simp [List.getD, show d.length - 1 < d.length by omega])
            rw [Hg1.out, Hg2.out] at Hfin
            generalize d[1] = y at *
            generalize d[d.length - 1] = z at *
            obtain ⟨y0, y1⟩ := b1
            obtain ⟨z0, z1⟩ := b2
            clear Hg1 Hg2 hcells
            by_cases hz : z % 5 = 0
            · rw [if_pos ⟨hdl, hz⟩] at Hfin
              have hwi0 := Hwi.out.getD (by omega) 0
              have q0 : wr.cell? ⟨bs, 0, none⟩ = some (.int .i64 (s.getD 0 0)) := (hh.cell 0).trans (by simp [i64, List.getD, Hsl.out, show 0 < n by omega])
              have f0 := hh.free 0
              obtain ⟨v, hv⟩ : ∃ v, v = s.getD 0 0 := ⟨_, rfl⟩
              rw [← hv] at hwi0 q0
              have Hv := Lib.hid hv
              clear hv
              go_upto_region 17 with (fail)
              refine wp_world (fun W3 => FrB W.heap.size [bs] W W3 ∧ Has W3 bs 2 ((addAt s 0 (y % 3)).map i64).toArray) ⟨hfr.set (.inl (by simp)) _, by have := hh.set 0 (.int .i64 (v + y % 3)); rw [addAt_cells s 0 (y % 3) _ (by rw [Hv.out])] at this; exact this⟩ ?_
              clear g0 g1 q0 f0 hhg2 hg0 hfr hh Hv hwi0 hbr hzr
              rintro W3 ⟨hfr, hh⟩
              have hzr := hfr.size
              have hg0 := hfr.has hhg (by omega) (by simp; omega)
              have Hsl2 : Hid ((addAt s 0 (y % 3)).length = n) := Lib.hid (by rw [addAt_len]; exact Hsl.out)
              have Hw2 : Hid (Within (10 * arcs.length + 2) (addAt s 0 (y % 3))) := Lib.hid (Hwi.out.addAt (by omega) 0 (by omega) (by omega))
              have hg2 := Hw2.out.getD (by omega) (n - 1)
              rw [← Hs.out] at Hfin
              generalize addAt s 0 (y % 3) = s2 at *
              have g0 : W3.cell? ⟨g, 0, none⟩ = some (.slice (some ⟨bs, 0, none⟩) n n) := (hg0.cell 0).trans (by simp)
              have q0 : W3.cell? ⟨bs, n - 1, none⟩ = some (.int .i64 (s2.getD (n - 1) 0)) := (hh.cell (n - 1)).trans (by simp [i64, List.getD, Hsl2.out, show n - 1 < n by omega])
              have f0 := hh.free (n - 1)
              obtain ⟨v2, hv2⟩ : ∃ v, v = s2.getD (n - 1) 0 := ⟨_, rfl⟩
              rw [← hv2] at hg2 q0
              have Hv := Lib.hid hv2
              clear hv2
              go_upto_region 18 with (fail)
              refine wp_world (fun W4 => FrB W.heap.size [bs] W W4 ∧ Has W4 bs 2 ((addAt s2 (n - 1) (-(y % 3))).map i64).toArray) ⟨hfr.set (.inl (by simp)) _, by have := hh.set (n - 1) (.int .i64 (v2 - y % 3)); rw [addAt_cells s2 (n - 1) (-(y % 3)) _ (by rw [← Hv.out]; omega)] at this; exact this⟩ ?_
              clear g0 q0 f0 hg0 hfr hh Hv hg2 hzr
              rintro W4 ⟨hfr, hh⟩
              have hzr := hfr.size
              have r4 := hfr.has (hh4.below hbW (by omega)) (by omega) (by simp; omega)
              have rg := hfr.has hhg (by omega) (by simp; omega)
              have x0 : W4.cell? ⟨g, 0, none⟩ = some (.slice (some ⟨bs, 0, none⟩) n n) := (rg.cell 0).trans (by simp)
              have x1 : W4.cell? ⟨g, 1, none⟩ = some (.slice Av arcs.length cv) := (rg.cell 1).trans (by simp)
              have x2 : W4.cell? ⟨w.heap.size, 0, none⟩ = some (.slice none 0 0) := (r4.cell 0).trans (by simp)
              have x3 : W4.cell? ⟨w.heap.size, 1, none⟩ = some (.slice none 0 0) := (r4.cell 1).trans (by simp)
              have x4 := r4.free 0
              have x5 := r4.free 1
              have x6 : W4.ownsRow w0.heap.size 41 5 (.slice Av arcs.length cv) arcs.length (arcs.flatMap Arc.cells) := ownsRow_keep' hown (fun k hk => hfr.block k (by have := (hown.lt k hk).2; omega) (by obtain ⟨cs, hcs⟩ := ownsRow_has hown hk; simpa using hcs.ne hhs (by decide)))
              have x7 : W4.ownsRow w0.heap.size 2 1 (.slice (some ⟨bs, 0, none⟩) n n) (addAt s2 (n - 1) (-(y % 3))).length ((addAt s2 (n - 1) (-(y % 3))).map i64) := ownsRow_of_has hh (by rw [addAt_len, Hsl2.out]) (by omega) (by simp only [maxLen]; omega)
              have x8 : Below w.heap.size w W4 := hbw.trans ((hbW.mono (by omega)).trans (hfr.toBelow (by omega) (by simp; omega)))
              clear hh
              go_wp2_with fail
              refine post_world (fun Wf => Has Wf w.heap.size 26 #[.slice (some ⟨bs, 0, none⟩) n n, .slice Av arcs.length cv] ∧ Wf.ownsRow w0.heap.size 2 1 (.slice (some ⟨bs, 0, none⟩) n n) (addAt s2 (n - 1) (-(y % 3))).length ((addAt s2 (n - 1) (-(y % 3))).map i64) ∧ Wf.ownsRow w0.heap.size 41 5 (.slice Av arcs.length cv) arcs.length (arcs.flatMap Arc.cells) ∧ Below w.heap.size w Wf) ⟨by simpa using (r4.set 0 (.slice (some ⟨bs, 0, none⟩) n n)).set 1 (.slice Av arcs.length cv), ownsRow_set (p := ⟨w.heap.size, 1, none⟩) (ownsRow_set (p := ⟨w.heap.size, 0, none⟩) x7 (by simpa using hws) _) (by simpa using hws) _, ownsRow_set (p := ⟨w.heap.size, 1, none⟩) (ownsRow_set (p := ⟨w.heap.size, 0, none⟩) x6 (by simpa using hws) _) (by simpa using hws) _, below_setCell (below_setCell x8 (Nat.le_refl _) _) (Nat.le_refl _) _⟩ ?_
              rintro Wf ⟨tf, o1, o2, hbf⟩
              have k0 : Wf.cell? ⟨w.heap.size, 0, none⟩ = some (.slice (some ⟨bs, 0, none⟩) n n) := (tf.cell 0).trans (by simp)
              have k1 : Wf.cell? ⟨w.heap.size, 1, none⟩ = some (.slice Av arcs.length cv) := (tf.cell 1).trans (by simp)
              refine bodyPost_ret (v := .agg #[.slice (some ⟨bs, 0, none⟩) n n, .slice Av arcs.length cv]) (by simp [results, Try.results10, go_sem, k0, k1]) rfl ⟨_, rfl, ?_, hbf⟩
              rw [Hfin.out]
              exact ⟨_, _, rfl, ownsRow_base o1 (by omega), ownsRow_base o2 (by omega)⟩
            · rw [if_neg (fun h => hz h.2)] at Hfin
              rw [← Hs.out] at Hfin
              go_upto_region 18 with (fail)
              have r4 := hfr.has (hh4.below hbW (by omega)) (by omega) (by simp; omega)
              have rg := hfr.has hhg (by omega) (by simp; omega)
              have x0 : wr.cell? ⟨g, 0, none⟩ = some (.slice (some ⟨bs, 0, none⟩) n n) := (rg.cell 0).trans (by simp)
              have x1 : wr.cell? ⟨g, 1, none⟩ = some (.slice Av arcs.length cv) := (rg.cell 1).trans (by simp)
              have x2 : wr.cell? ⟨w.heap.size, 0, none⟩ = some (.slice none 0 0) := (r4.cell 0).trans (by simp)
              have x3 : wr.cell? ⟨w.heap.size, 1, none⟩ = some (.slice none 0 0) := (r4.cell 1).trans (by simp)
              have x4 := r4.free 0
              have x5 := r4.free 1
              have x6 : wr.ownsRow w0.heap.size 41 5 (.slice Av arcs.length cv) arcs.length (arcs.flatMap Arc.cells) := ownsRow_keep' hown (fun k hk => hfr.block k (by have := (hown.lt k hk).2; omega) (by obtain ⟨cs, hcs⟩ := ownsRow_has hown hk; simpa using hcs.ne hhs (by decide)))
              have x7 : wr.ownsRow w0.heap.size 2 1 (.slice (some ⟨bs, 0, none⟩) n n) (s).length ((s).map i64) := ownsRow_of_has hh (by rw [Hsl.out]) (by omega) (by simp only [maxLen]; omega)
              have x8 : Below w.heap.size w wr := hbw.trans ((hbW.mono (by omega)).trans (hfr.toBelow (by omega) (by simp; omega)))
              clear hh
              go_wp2_with fail
              refine post_world (fun Wf => Has Wf w.heap.size 26 #[.slice (some ⟨bs, 0, none⟩) n n, .slice Av arcs.length cv] ∧ Wf.ownsRow w0.heap.size 2 1 (.slice (some ⟨bs, 0, none⟩) n n) (s).length ((s).map i64) ∧ Wf.ownsRow w0.heap.size 41 5 (.slice Av arcs.length cv) arcs.length (arcs.flatMap Arc.cells) ∧ Below w.heap.size w Wf) ⟨by simpa using (r4.set 0 (.slice (some ⟨bs, 0, none⟩) n n)).set 1 (.slice Av arcs.length cv), ownsRow_set (p := ⟨w.heap.size, 1, none⟩) (ownsRow_set (p := ⟨w.heap.size, 0, none⟩) x7 (by simpa using hws) _) (by simpa using hws) _, ownsRow_set (p := ⟨w.heap.size, 1, none⟩) (ownsRow_set (p := ⟨w.heap.size, 0, none⟩) x6 (by simpa using hws) _) (by simpa using hws) _, below_setCell (below_setCell x8 (Nat.le_refl _) _) (Nat.le_refl _) _⟩ ?_
              rintro Wf ⟨tf, o1, o2, hbf⟩
              have k0 : Wf.cell? ⟨w.heap.size, 0, none⟩ = some (.slice (some ⟨bs, 0, none⟩) n n) := (tf.cell 0).trans (by simp)
              have k1 : Wf.cell? ⟨w.heap.size, 1, none⟩ = some (.slice Av arcs.length cv) := (tf.cell 1).trans (by simp)
              refine bodyPost_ret (v := .agg #[.slice (some ⟨bs, 0, none⟩) n n, .slice Av arcs.length cv]) (by simp [results, Try.results10, go_sem, k0, k1]) rfl ⟨_, rfl, ?_, hbf⟩
              rw [Hfin.out]
              exact ⟨_, _, rfl, ownsRow_base o1 (by omega), ownsRow_base o2 (by omega)⟩
          · rw [if_neg (fun h => hdl h.1)] at Hfin
            rw [← Hs.out] at Hfin
            go_upto_region 18 with (fail)
            have r4 := hfr.has (hh4.below hbW (by omega)) (by omega) (by simp; omega)
            have rg := hfr.has hhg (by omega) (by simp; omega)
            have x0 : wr.cell? ⟨g, 0, none⟩ = some (.slice (some ⟨bs, 0, none⟩) n n) := (rg.cell 0).trans (by simp)
            have x1 : wr.cell? ⟨g, 1, none⟩ = some (.slice Av arcs.length cv) := (rg.cell 1).trans (by simp)
            have x2 : wr.cell? ⟨w.heap.size, 0, none⟩ = some (.slice none 0 0) := (r4.cell 0).trans (by simp)
            have x3 : wr.cell? ⟨w.heap.size, 1, none⟩ = some (.slice none 0 0) := (r4.cell 1).trans (by simp)
            have x4 := r4.free 0
            have x5 := r4.free 1
            have x6 : wr.ownsRow w0.heap.size 41 5 (.slice Av arcs.length cv) arcs.length (arcs.flatMap Arc.cells) := ownsRow_keep' hown (fun k hk => hfr.block k (by have := (hown.lt k hk).2; omega) (by obtain ⟨cs, hcs⟩ := ownsRow_has hown hk; simpa using hcs.ne hhs (by decide)))
            have x7 : wr.ownsRow w0.heap.size 2 1 (.slice (some ⟨bs, 0, none⟩) n n) (s).length ((s).map i64) := ownsRow_of_has hh (by rw [Hsl.out]) (by omega) (by simp only [maxLen]; omega)
            have x8 : Below w.heap.size w wr := hbw.trans ((hbW.mono (by omega)).trans (hfr.toBelow (by omega) (by simp; omega)))
            clear hh
            go_wp2_with fail
            refine post_world (fun Wf => Has Wf w.heap.size 26 #[.slice (some ⟨bs, 0, none⟩) n n, .slice Av arcs.length cv] ∧ Wf.ownsRow w0.heap.size 2 1 (.slice (some ⟨bs, 0, none⟩) n n) (s).length ((s).map i64) ∧ Wf.ownsRow w0.heap.size 41 5 (.slice Av arcs.length cv) arcs.length (arcs.flatMap Arc.cells) ∧ Below w.heap.size w Wf) ⟨by simpa using (r4.set 0 (.slice (some ⟨bs, 0, none⟩) n n)).set 1 (.slice Av arcs.length cv), ownsRow_set (p := ⟨w.heap.size, 1, none⟩) (ownsRow_set (p := ⟨w.heap.size, 0, none⟩) x7 (by simpa using hws) _) (by simpa using hws) _, ownsRow_set (p := ⟨w.heap.size, 1, none⟩) (ownsRow_set (p := ⟨w.heap.size, 0, none⟩) x6 (by simpa using hws) _) (by simpa using hws) _, below_setCell (below_setCell x8 (Nat.le_refl _) _) (Nat.le_refl _) _⟩ ?_
            rintro Wf ⟨tf, o1, o2, hbf⟩
            have k0 : Wf.cell? ⟨w.heap.size, 0, none⟩ = some (.slice (some ⟨bs, 0, none⟩) n n) := (tf.cell 0).trans (by simp)
            have k1 : Wf.cell? ⟨w.heap.size, 1, none⟩ = some (.slice Av arcs.length cv) := (tf.cell 1).trans (by simp)
            refine bodyPost_ret (v := .agg #[.slice (some ⟨bs, 0, none⟩) n n, .slice Av arcs.length cv]) (by simp [results, Try.results10, go_sem, k0, k1]) rfl ⟨_, rfl, ?_, hbf⟩
            rw [Hfin.out]
            exact ⟨_, _, rfl, ownsRow_base o1 (by omega), ownsRow_base o2 (by omega)⟩
end Go.Proofs.Ytimkpgkpebjglaa
