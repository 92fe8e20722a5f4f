/-
  CONTRACTS: inst.Without and the function that it makes.
-/
import Derived.Test.YtimkpgkpebjglaaInst1
import Derived.Test.YtimkpgkpebjglaaInst3
import Derived.Deep.CutRange
namespace Go.Proofs.Ytimkpgkpebjglaa
open Go Go.RowKit Go.Ql Go.Draw

/-- 'make([]int, n)' -/
theorem make_ints (n : Nat) (hn : n ≤ 1000000) (u : World) : (Instr.makeSlice 37 (.int .i64 (n : Int)) (.int .i64 (n : Int))).run Try.prog u =
    .ok (.slice (some ⟨u.heap.size, 0, none⟩) n n) (u.alloc (.cells ((List.range n).map (fun _ => Value.int .i64 0)).toArray 3)) := by
  obtain ⟨i0, hi, hz0, hz1, hz2⟩ := info_parts info_int
  have h := run_make (P := Try.prog) u 37 3 i0 (.int .i64 0) Try.underlying37 hi hz0 .i64 .i64 (n : Int) (n : Int) (by omega) (Int.le_refl _) (by rw [hz2]; omega) (by omega)
  rw [h]
  have : madeCells (Value.cells (.int .i64 0)) (((n : Int)).toNat * i0.size) = ((List.range n).map (fun _ => Value.int .i64 0)).toArray := by
    rw [hz1]
    have e := toList_madeCells_one (.int .i64 0) n
    apply Array.toList_inj.1
    simp only [Value.cells, Int.toNat_natCast, Nat.mul_one] at e ⊢
    rw [e, List.map_const', List.length_range]
  rw [this]
  simp

/-- the places of nodes, as a row -/
def placesC (n : List Nat) (len : Nat) : Array Value := ((List.range len).map (fun x : Nat => Value.int .i64 (placeGo (x : Int) n 0))).toArray

theorem placesC_at (n : List Nat) (len k : Nat) (h : k < len) : (placesC n len)[k]? = some (.int .i64 (placeGo (k : Int) n 0)) := by
  simp [placesC, h]

theorem placesC_set (n : List Nat) (len y : Nat) (hy : y < len) (hn : ∀ z ∈ n, z ≠ y) : (placesC n len).setIfInBounds y (.int .i64 (n.length : Int)) = placesC (n ++ [y]) len := by
  unfold placesC
  rw [set_map _ _ _ _ hy]
  congr 2
  funext x
  rw [placeGo_snoc]
  rcases placeGo_cases (x : Int) n 0 with ⟨h1, h2⟩ | ⟨h1, h2, z, hz, hzx⟩
  · rw [h1]
    by_cases e : x = y
    · subst e; simp
    · simp [e, Ne.symm e]; intro h; omega
  · have : x ≠ y := fun e => hn z hz (by omega)
    rw [if_neg this, if_pos (by omega)]

theorem stays_any (b3 b4 len : Nat) (n : List Nat) (x : Int) (w : World) (h4 : Has w b4 37 #[.slice (some ⟨b3, 0, none⟩) len len]) (h3 : Has w b3 3 (placesC n len)) (hn : ∀ z ∈ n, z < len) :
    Calls Try.prog 31 #[.int .i64 x, .pointer (some ⟨b4, 0, none⟩)] w fun e w' => e = .returned (.bool (decide (0 ≤ placeGo x n 0))) ∧ w = w' := by
  have g4 : w.cell? ⟨b4, 0, none⟩ = some (.slice (some ⟨b3, 0, none⟩) len len) := (h4.cell 0).trans (by simp)
  by_cases hx : 0 ≤ x ∧ x < len
  · obtain ⟨hx0, hx1⟩ := hx
    obtain ⟨k, rfl⟩ := Int.eq_ofNat_of_zero_le hx0
    have hk : k < len := by omega
    have g3 : w.cell? ⟨b3, k, none⟩ = some (.int .i64 (placeGo (k : Int) n 0)) := (h3.cell k).trans (placesC_at _ _ _ hk)
    have hd : (decide (0 ≤ (k : Int)) && decide ((k : Int) < (len : Int))) = true := by simp; omega
    go_enter Try.func31, Try.ntmps31
    go_wp2_with (go_at_call 32; refine (isNode_any _ _ _).mono ?_; rintro e w' ⟨rfl, rfl⟩; rw [hd])
    go_ret
    exact ⟨ret_bool rfl, rfl⟩
  · have hd : (decide (0 ≤ x) && decide (x < (len : Int))) = false := by simp; omega
    have Hr : Hid (decide (0 ≤ placeGo x n 0) = false) := Lib.hid (by
      rcases placeGo_cases x n 0 with ⟨h1, _⟩ | ⟨_, _, z, hz, hzx⟩
      · simp [h1]
      · have := hn z hz; omega)
    clear hx
    go_enter Try.func31, Try.ntmps31
    go_wp2_with (go_at_call 32; refine (isNode_any _ _ _).mono ?_; rintro e w' ⟨rfl, rfl⟩; rw [hd])
    go_ret
    exact ⟨ret_bool Hr.out.symm, rfl⟩

set_option maxRecDepth 100000 in
set_option maxHeartbeats 2000000 in
theorem without_any (v : Value) (I : Inst) (B1 B2 : Option Addr) (d1 d2 : Nat) (nodes offs : List Bool) (w : World) (hI : InstR w w.heap.size v I) (hs : I.sup.length ≤ 1000000) (hm : I.arcs.length ≤ 1000000)
    (hn1 : nodes.length ≤ 1000000) (hn2 : offs.length ≤ 1000000) (hB1 : RowR Value.bool w w.heap.size B1 nodes) (hB2 : RowR Value.bool w w.heap.size B2 offs) :
    Calls Try.prog 17 #[v, .slice B1 nodes.length d1, .slice B2 offs.length d2] w fun e w' => ∃ v1 v2, e = .returned (.agg #[v1, v2]) ∧
      w'.ownsRow w.heap.size 2 1 v1 (withoutF I nodes offs).sup.length ((withoutF I nodes offs).sup.map i64) ∧
      w'.ownsRow w.heap.size 41 5 v2 (withoutF I nodes offs).arcs.length ((withoutF I nodes offs).arcs.flatMap Arc.cells) ∧ Below w.heap.size w w' := by
  obtain ⟨sup, arcs⟩ := I
  obtain ⟨A, c, A', c', rfl, hA, hA'⟩ := hI
  dsimp only at *
  obtain ⟨i1, hi1, hy0, hy1, hy2⟩ := info_parts info_int64
  obtain ⟨i2, hi2, hx0, hx1, hx2⟩ := info_parts info_arc
  have hmk := make_ints sup.length hs
  go_enter Try.func17, Try.ntmps17
  go_wp2_with fail
  clear hmk
  refine wp_world (fun W => Below w.heap.size w W ∧ W.heap.size = w.heap.size + 1 + 1 + 1 + 1 + 1 ∧ Has W w.heap.size 26 #[.slice A sup.length c, .slice A' arcs.length c'] ∧ Has W (w.heap.size + 1) 26 #[.slice none 0 0, .slice none 0 0] ∧
    Has W (w.heap.size + 1 + 1) 26 #[.slice none 0 0, .slice none 0 0] ∧ Has W (w.heap.size + 1 + 1 + 1) 3 ((List.range sup.length).map (fun _ => Value.int .i64 0)).toArray ∧ Has W (w.heap.size + 1 + 1 + 1 + 1) 37 #[.slice (some ⟨w.heap.size + 1 + 1 + 1, 0, none⟩) sup.length sup.length]) ?_ ?_
  · refine ⟨?_, by simp, ((((Has.new _ _ _).alloc _).alloc _).alloc _).alloc _, (((Has.new' _ _ _ (by simp)).alloc _).alloc _).alloc _, ((Has.new' _ _ _ (by simp)).alloc _).alloc _, (Has.new' _ _ _ (by simp)).alloc _, Has.new' _ _ _ (by simp)⟩
    exact (((((Below.refl _ _).alloc (by simp) _).alloc (by simp <;> omega) _).alloc (by simp <;> omega) _).alloc (by simp <;> omega) _).alloc (by simp <;> omega) _
  rintro W ⟨hW, hWs, h0, h1, h2, h3, h4⟩
  obtain ⟨b0, eb0⟩ : ∃ b0, b0 = w.heap.size := ⟨_, rfl⟩
  generalize eb4 : w.heap.size + 1 + 1 + 1 + 1 = b4 at *
  generalize eb3 : w.heap.size + 1 + 1 + 1 = b3 at *
  generalize eb2 : w.heap.size + 1 + 1 = b2 at *
  generalize eb1 : w.heap.size + 1 = b1 at *
  have q0 : w.heap.size < b1 := by omega
  have q1 : b1 < b2 := by omega
  have q2 : b2 < b3 := by omega
  have q3 : b3 < b4 := by omega
  have q4 : b4 < W.heap.size := by omega
  clear hWs eb0 eb1 eb2 eb3 eb4 b0
  go_loopw [22] (fun i wr => ∃ k : Nat, k ≤ sup.length ∧ i = .int .i64 k ∧ FrB W.heap.size [b3] W wr ∧ Has wr b3 3 ((List.range sup.length).map (fun x => Value.int .i64 (if x < k then -1 else 0))).toArray) (fun i _ => sup.length - (intOf i).toNat)
  case atStart => exact ⟨0, by omega, rfl, FrB.refl _ _ _, by simpa using h3⟩
  case round =>
    obtain ⟨k, hk, rfl, hfr, hh3⟩ := hrel
    have hh4 := hfr.has h4 (by omega) (by simp; omega)
    have g4 : wr.cell? ⟨b4, 0, none⟩ = some (.slice (some ⟨b3, 0, none⟩) sup.length sup.length) := (hh4.cell 0).trans (by simp)
    by_cases hlt : k < sup.length
    · have g3 : wr.cell? ⟨b3, k, none⟩ = some (.int .i64 0) := (hh3.cell k).trans (by simp [hlt])
      have f3 := hh3.free k
      go_wp2_with fail
      go_roundw
      case rel =>
        refine ⟨k + 1, by omega, by go_num, hfr.set (.inl (by simp)) _, ?_⟩
        have := hh3.set k (.int .i64 (-1))
        rw [set_map _ _ _ _ hlt] at this
        have e : (fun x => if x = k then Value.int .i64 (-1) else Value.int .i64 (if x < k then -1 else 0)) = (fun x => Value.int .i64 (if x < k + 1 then -1 else 0)) := by
          funext x
          by_cases h1 : x = k
          · rw [if_pos h1, if_pos (by omega)]
          · rw [if_neg h1]
            by_cases h2 : x < k
            · rw [if_pos h2, if_pos (by omega)]
            · rw [if_neg h2, if_neg (by omega)]
        rw [e] at this
        exact this
      case measure => simp [intOf]; omega
    · have hp3 : Has wr b3 3 (placesC [] sup.length) := by
        have e : ((List.range sup.length).map (fun x => Value.int .i64 (if x < k then -1 else 0))) = (List.range sup.length).map (fun x : Nat => Value.int .i64 (placeGo (x : Int) [] 0)) := by
          apply List.map_congr_left
          intro x hx
          have := List.mem_range.1 hx
          rw [if_pos (by omega)]; rfl
        rw [e] at hh3
        exact hh3
      have hh0 := hfr.has h0 (by omega) (by simp; omega)
      have hh1 := hfr.has h1 (by omega) (by simp; omega)
      have hh2 := hfr.has h2 (by omega) (by simp; omega)
      have g0 : wr.cell? ⟨w.heap.size, 0, none⟩ = some (.slice A sup.length c) := (hh0.cell 0).trans (by simp)
      have hbr : Below w.heap.size w wr := hW.trans (hfr.toBelow (by omega) (by simp; omega))
      have qr := hfr.size
      clear hh3
      go_wp2_with fail
      refine (kept_any B1 d1 nodes sup.length _ hn1 ((hB1.keep hbr (Nat.le_refl _)).more (by omega))).mono ?_
      rintro e w1 ⟨vn, rfl, hown1, hb1⟩
      have hN : keptF nodes (keptN sup.length) = keptNodes ⟨sup, arcs⟩ nodes := rfl
      rw [hN] at hown1
      have hlt1 : ∀ z ∈ keptNodes ⟨sup, arcs⟩ nodes, z < sup.length := fun z hz => by
        have := keptF_lt hz; unfold keptN at this; dsimp only at this; omega
      have hsorted : (keptNodes ⟨sup, arcs⟩ nodes).Pairwise (· < ·) := keptGo_sorted _ _ _
      have hlen1 : (keptNodes ⟨sup, arcs⟩ nodes).length ≤ 1000 := Nat.le_trans (keptF_len _ _) (by unfold keptN; omega)
      obtain ⟨An, cn, rfl, hrn, _, _, hAn⟩ := rowR_of_own hown1
      have Hw : Hid (withoutF ⟨sup, arcs⟩ nodes offs = { sup := (keptNodes ⟨sup, arcs⟩ nodes).map (fun k => sup.getD k 0), arcs := (keptArcs ⟨sup, arcs⟩ offs).filterMap (fun k => keepArc (keptNodes ⟨sup, arcs⟩ nodes) (arcs.getD k default)) }) := Lib.hid rfl
      generalize keptNodes ⟨sup, arcs⟩ nodes = n at *
      have Hlt := Lib.hid hlt1
      have Hso := Lib.hid hsorted
      have Han := Lib.hid hAn
      clear hlt1 hsorted hAn hN hown1
      have k0 := hh0.below hb1 (by omega)
      have k1 := hh1.below hb1 (by omega)
      have k2 := hh2.below hb1 (by omega)
      have k3 := hp3.below hb1 (by omega)
      have k4 := hh4.below hb1 (by omega)
      have hb1w : Below w.heap.size w w1 := hbr.trans (hb1.mono (by omega))
      have qw := hb1.size
      clear hh0 hh1 hh2 hp3 hh4 g0 g4
      go_wp2_with fail
      obtain ⟨wo, rfl⟩ : ∃ wo : World, wo = wr := ⟨_, rfl⟩
      go_loopw [35] (fun i wr => ∃ (j : Nat) (vs : Value), j ≤ n.length ∧ i = .int .i64 j ∧ FrB w1.heap.size [b2, b3] w1 wr ∧ Has wr b3 3 (placesC (n.take j) sup.length) ∧ Has wr b2 26 #[vs, .slice none 0 0] ∧
        wr.ownsRow w1.heap.size 2 1 vs j ((n.take j).map (fun k => i64 (sup.getD k 0)))) (fun i _ => n.length - (intOf i).toNat)
      case atStart => exact ⟨0, .slice none 0 0, by omega, rfl, FrB.refl _ _ _, by simpa using k3, k2, by simpa using World.ownsRow_nil _ _ _ _⟩
      case round =>
        obtain ⟨j, vs, hj, rfl, hfr2, m3, m2, hown⟩ := hrel
        have m4 := hfr2.has k4 (by omega) (by simp; omega)
        have m0 := hfr2.has k0 (by omega) (by simp; omega)
        have m1 := hfr2.has k1 (by omega) (by simp; omega)
        have hbr2 : Below w.heap.size w wr := hb1w.trans (hfr2.toBelow (by omega) (by simp; omega))
        have qr2 := hfr2.size
        have hrn2 : RowR nat64 wr w1.heap.size An n := hfr2.rowR hrn (Nat.le_refl _) (fun ad h => by have := (Han.out ad h).1; simp; omega)
        have g4 : wr.cell? ⟨b4, 0, none⟩ = some (.slice (some ⟨b3, 0, none⟩) sup.length sup.length) := (m4.cell 0).trans (by simp)
        have g0 : wr.cell? ⟨w.heap.size, 0, none⟩ = some (.slice A sup.length c) := (m0.cell 0).trans (by simp)
        have g01 : wr.cell? ⟨w.heap.size, 1, none⟩ = some (.slice A' arcs.length c') := (m0.cell 1).trans (by simp)
        by_cases hltj : j < n.length
        · obtain ⟨bn, on, rfl, hbn, en⟩ := hrn2.at_ hltj
          have hnj := Hlt.out n[j] (List.getElem_mem hltj)
          have hbn2 := (Han.out _ rfl).1
          have hnew : ∀ z ∈ n.take j, z ≠ n[j] := by
            intro z hz he
            obtain ⟨i, hi, rfl⟩ := List.getElem_of_mem hz
            simp only [List.length_take] at hi
            have := List.pairwise_iff_getElem.1 Hso.out i j (by omega) hltj (by omega)
            rw [List.getElem_take] at he
            omega
          have Hset : Hid ((placesC (n.take j) sup.length).setIfInBounds n[j] (.int .i64 (j : Int)) = placesC (n.take (j + 1)) sup.length) := Lib.hid (by
            rw [take_snoc n j hltj, ← placesC_set _ _ _ hnj hnew, List.length_take_of_le (by omega)])
          have g3 : wr.cell? ⟨b3, n[j], none⟩ = some (.int .i64 (placeGo (n[j] : Int) (n.take j) 0)) := (m3.cell _).trans (placesC_at _ _ _ hnj)
          have f3 := m3.free n[j]
          unfold nat64 at en
          clear hnew
          generalize hx : n[j] = x at *
          have Hx := Lib.hid hx
          clear hx
          go_upto_region 12 with (fail)
          refine wp_world (fun W2 => FrB w1.heap.size [b2, b3] w1 W2 ∧ Has W2 b3 3 (placesC (n.take (j + 1)) sup.length) ∧ Has W2 b2 26 #[vs, .slice none 0 0] ∧ W2.ownsRow w1.heap.size 2 1 vs j ((n.take j).map (fun k => i64 (sup.getD k 0)))) ⟨hfr2.set (.inl (by simp)) _, by have := m3.set x (.int .i64 (j : Int)); rw [Hset.out] at this; exact this, m2.far (by simp; omega) _, ownsRow_set hown (by simp; omega) _⟩ ?_
          clear hfr2 m3 m2 hown m4 m0 m1 hbr2 hrn2 g4 g0 g01 g3 f3 en qr2
          rintro W2 ⟨hfr2, m3, m2, hown⟩
          have m0 := hfr2.has k0 (by omega) (by simp; omega)
          have hbr2 : Below w.heap.size w W2 := hb1w.trans (hfr2.toBelow (by omega) (by simp; omega))
          have qr2 := hfr2.size
          have g0 : W2.cell? ⟨w.heap.size, 0, none⟩ = some (.slice A sup.length c) := (m0.cell 0).trans (by simp)
          have g2 : W2.cell? ⟨b2, 0, none⟩ = some vs := (m2.cell 0).trans (by simp)
          obtain ⟨bA, oA, rfl, hbA, eA⟩ := (hA.keep hbr2 (Nat.le_refl _)).at_ hnj
          unfold i64 at eA
          obtain ⟨As, cs, rfl⟩ := ownsRow_slice hown
          have hbase : w1.heap.size ≤ W2.heap.size := qr2
          refine wp_draw mixed (by kernel_rfl) (fun K hK => ?_)
          go_wp2_with (at_builtin; refine wpList_append_own_at _ rfl (.tmp 45) (.tmp 51) 23 rfl w1.heap.size 2 i1 (.int .i64 0) 1 8 Try.underlying23 hi1 hy0 hy1 hy2 rfl (by decide) _ _ _ rfl (ownsRow_drew (hown.alloc _)) ⟨W2.heap.size, 0, none⟩ 1 1 [.int .i64 sup[x]] rfl rfl (news_one W2 (.int .i64 sup[x]) 2) ?c2 ?c3 ?c4 ?c5 ?_)
          case c2 => simp [Value.oneCell']
          case c3 => simp only [maxLen]; omega
          case c4 => omega
          case c5 => first | omega | (simp <;> omega)
          intro v' wa hown' hgrow _ hat
          obtain ⟨Av, cv, rfl⟩ := ownsRow_slice hown'
          have m2a : Has (W2.alloc (.cells #[.int .i64 sup[x]] 2)).drew b2 26 #[.slice As j cs, .slice none 0 0] := (m2.alloc _).drew
          have m3a : Has (W2.alloc (.cells #[.int .i64 sup[x]] 2)).drew b3 3 (placesC (n.take (j + 1)) sup.length) := (m3.alloc _).drew
          have hne : ∀ g, g < w1.heap.size → some g ≠ (Value.slice As j cs).ownBlock := fun g hg he => by have := (hown.lt g he.symm).1; omega
          have m2b := m2a.grown hgrow (hne _ (by omega))
          have m3b := m3a.grown hgrow (hne _ (by omega))
          have hfr3 : FrB w1.heap.size [b2, b3] w1 wa := (((hfr2.alloc hbase _).drew).grown hgrow (by simp; omega) (fun g hg => .inl (hown.lt g hg).1))
          have g2a : wa.cell? ⟨b2, 0, none⟩ = some (.slice As j cs) := (m2b.cell 0).trans (by simp)
          have f2a := m2b.free 0
          clear hne m2a m3a
          go_wp2_with fail
          refine ⟨by kernel_rfl, ?_⟩
          go_wp2_with fail
          go_roundw
          case rel =>
            refine ⟨j + 1, .slice Av (j + 1) cv, by omega, by go_num, hfr3.set (.inl (by simp)) _, m3b.far (by simp; omega) _, by simpa using m2b.set 0 (.slice Av (j + 1) cv), ?_⟩
            have hx1 : (n.take (j + 1)).map (fun k => i64 (sup.getD k 0)) = (n.take j).map (fun k => i64 (sup.getD k 0)) ++ [.int .i64 sup[x]] := by
              rw [take_snoc n j hltj, List.map_append, Hx.out]
              simp [i64, List.getD, hnj]
            rw [hx1]
            have := ownsRow_set (p := ⟨b2, 0, none⟩) hown' (show b2 < w1.heap.size by omega) (.slice Av (j + 1) cv)
            simpa using this
          case measure => simp [intOf]; omega
        · have hj2 : j = n.length := by omega
          subst hj2
          rw [List.take_of_length_le (Nat.le_refl _)] at m3 hown
          go_wp2_with fail
          refine (kept_any B2 d2 offs arcs.length _ hn2 ((hB2.keep hbr2 (Nat.le_refl _)).more (by omega))).mono ?_
          rintro e w3 ⟨vl, rfl, hownl, hb3⟩
          have hN : keptF offs (keptN arcs.length) = keptArcs ⟨sup, arcs⟩ offs := rfl
          rw [hN] at hownl
          have hltl : ∀ z ∈ keptArcs ⟨sup, arcs⟩ offs, z < arcs.length := fun z hz => by
            have := keptF_lt hz; unfold keptN at this; dsimp only at this; omega
          have hlenl : (keptArcs ⟨sup, arcs⟩ offs).length ≤ 1000 := Nat.le_trans (keptF_len _ _) (by unfold keptN; omega)
          obtain ⟨Al, cl, rfl, hrl, _, _, hAl⟩ := rowR_of_own hownl
          generalize keptArcs ⟨sup, arcs⟩ offs = l at *
          have Hll := Lib.hid hltl
          have Hal := Lib.hid hAl
          clear hltl hAl hN hownl
          have p0 := m0.below hb3 (by omega)
          have p1 := m1.below hb3 (by omega)
          have p2 := m2.below hb3 (by omega)
          have p3 := m3.below hb3 (by omega)
          have p4 := m4.below hb3 (by omega)
          have hb3w : Below w.heap.size w w3 := hbr2.trans (hb3.mono (by omega))
          have q3w := hb3.size
          have hown3 := ownsRow_below hown hb3 (Nat.le_refl _)
          clear m0 m1 m2 m3 m4 g0 g01 g4 hrn2
          go_wp2_with fail
          obtain ⟨wp, rfl⟩ : ∃ wp : World, wp = wr := ⟨_, rfl⟩
          go_loopw [62] (fun i wr => ∃ (j : Nat) (va : Value) (acc : List Arc), j ≤ l.length ∧ acc.length ≤ j ∧ i = .int .i64 j ∧ FrB w3.heap.size [b2] w3 wr ∧ Has wr b2 26 #[vs, va] ∧
            acc = (l.take j).filterMap (fun k => keepArc n (arcs.getD k default)) ∧ wr.ownsRow w3.heap.size 41 5 va acc.length (acc.flatMap Arc.cells)) (fun i _ => l.length - (intOf i).toNat)
          case atStart => exact ⟨0, .slice none 0 0, [], by omega, by simp, rfl, FrB.refl _ _ _, p2, by simp, World.ownsRow_nil _ _ _ _⟩
          case round =>
            obtain ⟨j, va, acc, hj, hacc, rfl, hfr3, s2, hspec, hownA⟩ := hrel
            have Hspec := Lib.hid hspec
            clear hspec
            have s0 := hfr3.has p0 (by omega) (by simp; omega)
            have s1 := hfr3.has p1 (by omega) (by simp; omega)
            have s3 := hfr3.has p3 (by omega) (by simp; omega)
            have s4 := hfr3.has p4 (by omega) (by simp; omega)
            have hbr3 : Below w.heap.size w wr := hb3w.trans (hfr3.toBelow (by omega) (by simp; omega))
            have qr3 := hfr3.size
            by_cases hltj : j < l.length
            · have hrl3 : RowR nat64 wr w3.heap.size Al l := hfr3.rowR hrl (Nat.le_refl _) (fun ad h => by have := (Hal.out ad h).1; simp; omega)
              obtain ⟨bl, ol, rfl, hbl, el⟩ := hrl3.at_ hltj
              have hxl := Hll.out l[j] (List.getElem_mem hltj)
              unfold nat64 at el
              have Hstep : Hid ((l.take (j + 1)).filterMap (fun k => keepArc n (arcs.getD k default)) = acc ++ (keepArc n (arcs.getD l[j] default)).toList) := Lib.hid (by
                rw [take_snoc l j hltj, List.filterMap_append, Hspec.out]
                simp only [List.filterMap_cons, List.filterMap_nil]
                cases keepArc n (arcs.getD l[j] default) <;> rfl)
              generalize l[j] = x at *
              have Hga : Hid (arcs.getD x default = arcs[x]) := Lib.hid (by simp [List.getD, hxl])
              rw [Hga.out] at Hstep
              obtain ⟨ba, oa, rfl, hba, eat⟩ := (hA'.at_ hxl)
              have eat := eat.keep hbr3 hba
              generalize arcs[x] = a at *
              obtain ⟨src, dst, low, cap, cost⟩ := a
              obtain ⟨e0, e1, e2, e3, e4⟩ := eat
              have g01 : wr.cell? ⟨w.heap.size, 1, none⟩ = some (.slice (some ⟨ba, oa, none⟩) arcs.length c') := (s0.cell 1).trans (by simp)
              have g4 : wr.cell? ⟨b4, 0, none⟩ = some (.slice (some ⟨b3, 0, none⟩) sup.length sup.length) := (s4.cell 0).trans (by simp)
              have g2 : wr.cell? ⟨b2, 1, none⟩ = some va := (s2.cell 1).trans (by simp)
              have z4 : b4 < wr.heap.size := by omega
              have z2 : b2 < wr.heap.size := by omega
              have z3 : b3 < wr.heap.size := by omega
              have z0 : w.heap.size < wr.heap.size := by omega
              dsimp only at e0 e1 e2 e3 e4
              by_cases hs1 : 0 ≤ placeGo src n 0
              · have hd1 : decide (0 ≤ placeGo src n 0) = true := by simpa using hs1
                by_cases hs2 : 0 ≤ placeGo dst n 0
                · have hd2 : decide (0 ≤ placeGo dst n 0) = true := by simpa using hs2
                  have Hk : Hid ((keepArc n ⟨src, dst, low, cap, cost⟩).toList = [⟨placeGo src n 0, placeGo dst n 0, low, cap, cost⟩]) := Lib.hid (by unfold keepArc; rw [if_pos ⟨hs1, hs2⟩]; rfl)
                  rw [Hk.out] at Hstep
                  obtain ⟨y1, hy1, hy1l⟩ : ∃ y : Nat, src = (y : Int) ∧ y < sup.length := by
                    rcases placeGo_cases src n 0 with ⟨h1, _⟩ | ⟨_, _, z, hz, hzx⟩
                    · omega
                    · exact ⟨z, hzx.symm, Hlt.out z hz⟩
                  obtain ⟨y2, hy2, hy2l⟩ : ∃ y : Nat, dst = (y : Int) ∧ y < sup.length := by
                    rcases placeGo_cases dst n 0 with ⟨h1, _⟩ | ⟨_, _, z, hz, hzx⟩
                    · omega
                    · exact ⟨z, hzx.symm, Hlt.out z hz⟩
                  subst hy1 hy2
                  have g31 : wr.cell? ⟨b3, y1, none⟩ = some (.int .i64 (placeGo (y1 : Int) n 0)) := (s3.cell _).trans (placesC_at _ _ _ hy1l)
                  have g32 : wr.cell? ⟨b3, y2, none⟩ = some (.int .i64 (placeGo (y2 : Int) n 0)) := (s3.cell _).trans (placesC_at _ _ _ hy2l)
                  clear hs1 hs2 Hk
                  go_wp2_with fail
                  refine (stays_any b3 b4 sup.length n _ _ (s4.alloc _) (s3.alloc _) Hlt.out).mono ?_
                  rintro e w' ⟨rfl, rfl⟩
                  rw [hd1]
                  go_wp2_with fail
                  refine (stays_any b3 b4 sup.length n _ _ (s4.alloc _) (s3.alloc _) Hlt.out).mono ?_
                  rintro e w' ⟨rfl, rfl⟩
                  rw [hd2]
                  clear hd1 hd2
                  go_wp2_with fail
                  go_region
                  obtain ⟨Aa, ca, rfl⟩ := ownsRow_slice hownA
                  go_wp2_with (at_builtin; refine wpList_append_own_at _ rfl (.tmp 96) (.tmp 98) 24 rfl w3.heap.size 41 i2 _ 5 40 Try.underlying24 hi2 hx0 hx1 hx2 rfl (by decide) _ _ _ rfl (ownsRow_drew ((hownA.alloc _).alloc _)) ⟨wr.heap.size + 1, 0, none⟩ 1 1 (Arc.cells ⟨placeGo (y1 : Int) n 0, placeGo (y2 : Int) n 0, low, cap, cost⟩) rfl rfl (news_row2 wr _ (Arc.cells ⟨placeGo (y1 : Int) n 0, placeGo (y2 : Int) n 0, low, cap, cost⟩) 41) ?c6 ?c7 ?c8 ?c9 ?_)
                  case c6 => simp [Arc.cells, Value.oneCell']
                  case c7 => simp only [maxLen]; omega
                  case c8 => omega
                  case c9 => first | omega | (simp <;> omega)
                  intro v' wa hown' hgrow _ hat
                  obtain ⟨Av, cv, rfl⟩ := ownsRow_slice hown'
                  have hne : ∀ g, g < w3.heap.size → some g ≠ (Value.slice Aa acc.length ca).ownBlock := fun g hg he => by have := (hownA.lt g he.symm).1; omega
                  have s2b := (((s2.alloc _).alloc _).drew).grown hgrow (hne _ (by omega))
                  have hfr4 : FrB w3.heap.size [b2] w3 wa := ((((hfr3.alloc qr3 _).alloc (by first | omega | (simp <;> omega)) _).drew).grown hgrow (by first | omega | (simp <;> omega)) (fun g hg => .inl (hownA.lt g hg).1))
                  have g2a : wa.cell? ⟨b2, 1, none⟩ = some (.slice Aa acc.length ca) := (s2b.cell 1).trans (by simp)
                  have f2a := s2b.free 1
                  clear hne
                  go_wp2_with fail
                  go_roundw
                  case rel =>
                    refine ⟨j + 1, .slice Av (acc.length + 1) cv, acc ++ [⟨placeGo (y1 : Int) n 0, placeGo (y2 : Int) n 0, low, cap, cost⟩], by omega, by simp; omega, by go_num, hfr4.set (.inl (by simp)) _, by simpa using s2b.set 1 (.slice Av (acc.length + 1) cv), Hstep.out.symm, ?_⟩
                    have := ownsRow_set (p := ⟨b2, 1, none⟩) hown' (show b2 < w3.heap.size by omega) (.slice Av (acc.length + 1) cv)
                    simpa using this
                  case measure => simp [intOf]; omega
                · have hd2 : decide (0 ≤ placeGo dst n 0) = false := by simpa using hs2
                  have Hk : Hid ((keepArc n ⟨src, dst, low, cap, cost⟩).toList = []) := Lib.hid (by unfold keepArc; rw [if_neg (by simp only; omega)]; rfl)
                  rw [Hk.out, List.append_nil] at Hstep
                  clear hs1 hs2 Hk
                  go_wp2_with fail
                  refine (stays_any b3 b4 sup.length n _ _ (s4.alloc _) (s3.alloc _) Hlt.out).mono ?_
                  rintro e w' ⟨rfl, rfl⟩
                  rw [hd1]
                  go_wp2_with fail
                  refine (stays_any b3 b4 sup.length n _ _ (s4.alloc _) (s3.alloc _) Hlt.out).mono ?_
                  rintro e w' ⟨rfl, rfl⟩
                  rw [hd2]
                  clear hd1 hd2
                  go_wp2_with fail
                  go_roundw
                  case rel => exact ⟨j + 1, va, acc, by omega, by omega, by go_num, hfr3.alloc qr3 _, s2.alloc _, Hstep.out.symm, hownA.alloc _⟩
                  case measure => simp [intOf]; omega
              · have hd1 : decide (0 ≤ placeGo src n 0) = false := by simpa using hs1
                have Hk : Hid ((keepArc n ⟨src, dst, low, cap, cost⟩).toList = []) := Lib.hid (by unfold keepArc; rw [if_neg (by simp only; omega)]; rfl)
                rw [Hk.out, List.append_nil] at Hstep
                clear hs1 Hk
                go_wp2_with fail
                refine (stays_any b3 b4 sup.length n _ _ (s4.alloc _) (s3.alloc _) Hlt.out).mono ?_
                rintro e w' ⟨rfl, rfl⟩
                rw [hd1]
                clear hd1
                go_wp2_with fail
                go_roundw
                case rel => exact ⟨j + 1, va, acc, by omega, by omega, by go_num, hfr3.alloc qr3 _, s2.alloc _, Hstep.out.symm, hownA.alloc _⟩
                case measure => simp [intOf]; omega
            · have hj3 : j = l.length := by omega
              subst hj3
              have Hsp : Hid (acc = l.filterMap (fun k => keepArc n (arcs.getD k default))) := Lib.hid (by have h := Hspec.out; rw [List.take_of_length_le (Nat.le_refl _)] at h; exact h)
              have hownS := ownsRow_keep hown3 (w' := wr) (fun g hg hlt => hfr3.block g (by omega) (by simp; omega))
              obtain ⟨As, cs, rfl⟩ := ownsRow_slice hownS
              obtain ⟨Aa, ca, rfl⟩ := ownsRow_slice hownA
              have g20 : wr.cell? ⟨b2, 0, none⟩ = some (.slice As n.length cs) := (s2.cell 0).trans (by simp)
              have g21 : wr.cell? ⟨b2, 1, none⟩ = some (.slice Aa acc.length ca) := (s2.cell 1).trans (by simp)
              have g10 : wr.cell? ⟨b1, 0, none⟩ = some (.slice none 0 0) := (s1.cell 0).trans (by simp)
              have g11 : wr.cell? ⟨b1, 1, none⟩ = some (.slice none 0 0) := (s1.cell 1).trans (by simp)
              have f10 := s1.free 0
              have f11 := s1.free 1
              go_wp2_with fail
              refine post_world (fun W => Has W b1 26 #[.slice As n.length cs, .slice Aa acc.length ca] ∧ W.ownsRow w1.heap.size 2 1 (.slice As n.length cs) n.length (n.map (fun k => i64 (sup.getD k 0))) ∧
                W.ownsRow w3.heap.size 41 5 (.slice Aa acc.length ca) acc.length (acc.flatMap Arc.cells) ∧ Below w.heap.size w W) ⟨by simpa using (s1.set 0 (.slice As n.length cs)).set 1 (.slice Aa acc.length ca),
                  ownsRow_set (p := ⟨b1, 1, none⟩) (ownsRow_set (p := ⟨b1, 0, none⟩) hownS (show b1 < w1.heap.size by omega) _) (show b1 < w1.heap.size by omega) _,
                  ownsRow_set (p := ⟨b1, 1, none⟩) (ownsRow_set (p := ⟨b1, 0, none⟩) hownA (show b1 < w3.heap.size by omega) _) (show b1 < w3.heap.size by omega) _,
                  below_setCell (below_setCell hbr3 (show w.heap.size ≤ b1 by omega) _) (show w.heap.size ≤ b1 by omega) _⟩ ?_
              rintro Wf ⟨tf, o1, o2, hbf⟩
              have c0 : Wf.cell? ⟨b1, 0, none⟩ = some (.slice As n.length cs) := (tf.cell 0).trans (by simp)
              have c1 : Wf.cell? ⟨b1, 1, none⟩ = some (.slice Aa acc.length ca) := (tf.cell 1).trans (by simp)
              refine bodyPost_ret (v := .agg #[.slice As n.length cs, .slice Aa acc.length ca]) (by simp [results, Try.results17, go_sem, c0, c1]) rfl ⟨_, _, rfl, ?_, ?_, hbf⟩
              · rw [Hw.out]
                have := ownsRow_base o1 (show w.heap.size ≤ w1.heap.size by omega)
                rw [List.length_map, List.map_map]
                exact this
              · rw [Hw.out, ← Hsp.out]
                exact ownsRow_base o2 (by omega)
end Go.Proofs.Ytimkpgkpebjglaa
