/-
  CONTRACT: quittancelaw03.known: the chapter's example holds: it returns true.
-/
import Derived.Test.YtimkpgkpebjglaaInst2
import Derived.Test.YtimkpgkpebjglaaInst4
import Derived.Test.YtimkpgkpebjglaaInst5
namespace Go.Proofs.Ytimkpgkpebjglaa
open Go Go.RowKit Go.Ql Go.Draw

def arcK : Arc := ⟨0, 1, 0, 2, 0⟩
def arcJ : Arc := ⟨0, 1, 0, -1, 0⟩
def instK : Inst := ⟨[1, -1], [arcK]⟩
def instJ : Inst := ⟨[1, -1], [arcJ]⟩

theorem instR_of {w : World} {g1 g2 t1 t2 : Nat} {B : Nat} (a : Arc) (h1 : Has w g1 t1 #[.int .i64 1, .int .i64 (-1)]) (h2 : Has w g2 t2 #[.int .i64 a.src, .int .i64 a.dst, .int .i64 a.low, .int .i64 a.cap, .int .i64 a.cost]) (hB1 : g1 < B) (hB2 : g2 < B) :
    InstR w B (.agg #[.slice (some ⟨g1, 0, none⟩) 2 2, .slice (some ⟨g2, 0, none⟩) 1 1]) ⟨[1, -1], [a]⟩ := by
  refine ⟨some ⟨g1, 0, none⟩, 2, some ⟨g2, 0, none⟩, 1, rfl, fun _ => ⟨g1, 0, rfl, hB1, fun i x hx => ?_⟩, fun _ => ⟨g2, 0, rfl, hB2, fun i x hx => ?_⟩⟩
  · rw [Nat.zero_add, h1.cell i]
    match i, hx with
    | 0, hx => simp at hx; subst hx; simp [i64]
    | 1, hx => simp at hx; subst hx; simp [i64]
    | i + 2, hx => simp at hx
  · match i, hx with
    | 0, hx =>
      simp at hx
      subst hx
      refine ⟨?_, ?_, ?_, ?_, ?_⟩
      · rw [h2.cell]; simp
      · rw [h2.cell]; simp
      · rw [h2.cell]; simp
      · rw [h2.cell]; simp
      · rw [h2.cell]; simp
    | i + 1, hx => simp at hx

set_option maxRecDepth 100000 in
set_option maxHeartbeats 1000000 in
theorem known_any (w : World) : Calls Try.prog 12 #[] w fun e w' => e = .returned (.bool true) ∧ Below w.heap.size w w' := by
  go_enter Try.func12, Try.ntmps12
  go_upto_region 3 with (fail)
  refine wp_world (fun W => Below w.heap.size w W ∧ W.heap.size = w.heap.size + 1 + 1 + 1 + 1 + 1 + 1 ∧ InstR W W.heap.size (.agg #[.slice (some ⟨w.heap.size, 0, none⟩) 2 2, .slice (some ⟨w.heap.size + 1, 0, none⟩) 1 1]) instK ∧
    InstR W W.heap.size (.agg #[.slice (some ⟨w.heap.size + 1 + 1 + 1, 0, none⟩) 2 2, .slice (some ⟨w.heap.size + 1 + 1 + 1 + 1, 0, none⟩) 1 1]) instJ ∧
    Has W (w.heap.size + 1 + 1) 26 #[.slice (some ⟨w.heap.size, 0, none⟩) 2 2, .slice (some ⟨w.heap.size + 1, 0, none⟩) 1 1] ∧
    Has W (w.heap.size + 1 + 1 + 1 + 1 + 1) 26 #[.slice (some ⟨w.heap.size + 1 + 1 + 1, 0, none⟩) 2 2, .slice (some ⟨w.heap.size + 1 + 1 + 1 + 1, 0, none⟩) 1 1]) ?_ ?_
  · refine ⟨?_, by simp, instR_of arcK (t1 := 2) (t2 := 41) ?_ ?_ ?_ ?_, instR_of arcJ (t1 := 2) (t2 := 41) ?_ ?_ ?_ ?_, ?_, ?_⟩
    · exact ((((((Below.refl _ _).alloc (by simp) _).alloc (by simp <;> omega) _).alloc (by simp <;> omega) _).alloc (by simp <;> omega) _).alloc (by simp <;> omega) _).alloc (by simp <;> omega) _
    · exact (((((Has.new _ _ _).alloc _).alloc _).alloc _).alloc _).alloc _
    · exact ((((Has.new' _ _ _ (by simp)).alloc _).alloc _).alloc _).alloc _
    · simp <;> omega
    · simp <;> omega
    · exact ((Has.new' _ _ _ (by simp)).alloc _).alloc _
    · exact (Has.new' _ _ _ (by simp)).alloc _
    · simp <;> omega
    · simp <;> omega
    · exact (((Has.new' _ _ _ (by simp)).alloc _).alloc _).alloc _
    · exact Has.new' _ _ _ (by simp)
  rintro W ⟨hW, hWs, hK, hJ, h2, h5⟩
  generalize e5 : w.heap.size + 1 + 1 + 1 + 1 + 1 = b5 at *
  generalize e4 : w.heap.size + 1 + 1 + 1 + 1 = b4 at *
  generalize e3 : w.heap.size + 1 + 1 + 1 = b3 at *
  generalize e2 : w.heap.size + 1 + 1 = b2 at *
  generalize e1 : w.heap.size + 1 = b1 at *
  have q2 : w.heap.size < b2 := by omega
  have q5 : b2 < b5 := by omega
  have q6 : b5 < W.heap.size := by omega
  clear hWs e1 e2 e3 e4 e5
  have rK : rightF instK = 0 := by decide
  have rJ : rightF instJ = 22 := by decide
  have sK : ((spanF instK : Nat) : Int) = 3 := by decide
  have wK : (withoutF instK [true] []).arcs.length = 0 := by decide
  have HrK := Lib.hid rK
  have HrJ := Lib.hid rJ
  have HsK := Lib.hid sK
  have HwK := Lib.hid wK
  clear rK rJ sK wK
  have lK1 : instK.sup.length ≤ 1000000 := by decide
  have lK2 : instK.arcs.length ≤ 1000000 := by decide
  have lJ1 : instJ.sup.length ≤ 1000000 := by decide
  have lJ2 : instJ.arcs.length ≤ 1000000 := by decide
  have g20 : W.cell? ⟨b2, 0, none⟩ = some (.slice (some ⟨w.heap.size, 0, none⟩) 2 2) := (h2.cell 0).trans (by simp)
  have g21 : W.cell? ⟨b2, 1, none⟩ = some (.slice (some ⟨b1, 0, none⟩) 1 1) := (h2.cell 1).trans (by simp)
  go_wp2_with fail
  refine (right_any _ instK _ hK lK1 lK2).mono ?_
  rintro e w1 ⟨rfl, hb1⟩
  rw [HrK.out]
  clear g20 g21
  have g50 : w1.cell? ⟨b5, 0, none⟩ = some (.slice (some ⟨b3, 0, none⟩) 2 2) := ((h5.below hb1 (by omega)).cell 0).trans (by simp)
  have g51 : w1.cell? ⟨b5, 1, none⟩ = some (.slice (some ⟨b4, 0, none⟩) 1 1) := ((h5.below hb1 (by omega)).cell 1).trans (by simp)
  have hs1 := hb1.size
  go_wp2_with fail
  refine (right_any _ instJ _ ((hJ.keep hb1 (Nat.le_refl _)).more hs1) lJ1 lJ2).mono ?_
  rintro e w2 ⟨rfl, hb2⟩
  rw [HrJ.out]
  clear g50 g51
  have hb2 : Below W.heap.size W w2 := hb1.trans (hb2.mono hs1)
  clear hs1 hb1
  have hs2 := hb2.size
  have g20 : w2.cell? ⟨b2, 0, none⟩ = some (.slice (some ⟨w.heap.size, 0, none⟩) 2 2) := ((h2.below hb2 (by omega)).cell 0).trans (by simp)
  have g21 : w2.cell? ⟨b2, 1, none⟩ = some (.slice (some ⟨b1, 0, none⟩) 1 1) := ((h2.below hb2 (by omega)).cell 1).trans (by simp)
  go_wp2_with fail
  refine (span_any _ instK _ ((hK.keep hb2 (Nat.le_refl _)).more hs2) lK1 lK2).mono ?_
  rintro e w3 ⟨rfl, hb3⟩
  rw [HsK.out]
  clear g20 g21
  have hb3 : Below W.heap.size W w3 := hb2.trans (hb3.mono hs2)
  clear hs2 hb2
  have hs3 := hb3.size
  have g20 : w3.cell? ⟨b2, 0, none⟩ = some (.slice (some ⟨w.heap.size, 0, none⟩) 2 2) := ((h2.below hb3 (by omega)).cell 0).trans (by simp)
  have g21 : w3.cell? ⟨b2, 1, none⟩ = some (.slice (some ⟨b1, 0, none⟩) 1 1) := ((h2.below hb3 (by omega)).cell 1).trans (by simp)
  go_wp2_with fail
  refine (same_any _ _ instK instK _ ((hK.keep hb3 (Nat.le_refl _)).more hs3) ((hK.keep hb3 (Nat.le_refl _)).more hs3) lK1 lK2).mono ?_
  rintro e w4 ⟨rfl, hb4⟩
  rw [show decide (instK = instK) = true from by decide]
  clear g20 g21
  have hb4 : Below W.heap.size W w4 := hb3.trans (hb4.mono hs3)
  clear hs3 hb3
  have hs4 := hb4.size
  have g20 : w4.cell? ⟨b2, 0, none⟩ = some (.slice (some ⟨w.heap.size, 0, none⟩) 2 2) := ((h2.below hb4 (by omega)).cell 0).trans (by simp)
  have g21 : w4.cell? ⟨b2, 1, none⟩ = some (.slice (some ⟨b1, 0, none⟩) 1 1) := ((h2.below hb4 (by omega)).cell 1).trans (by simp)
  have g50 : w4.cell? ⟨b5, 0, none⟩ = some (.slice (some ⟨b3, 0, none⟩) 2 2) := ((h5.below hb4 (by omega)).cell 0).trans (by simp)
  have g51 : w4.cell? ⟨b5, 1, none⟩ = some (.slice (some ⟨b4, 0, none⟩) 1 1) := ((h5.below hb4 (by omega)).cell 1).trans (by simp)
  go_wp2_with fail
  refine (same_any _ _ instK instJ _ ((hK.keep hb4 (Nat.le_refl _)).more hs4) ((hJ.keep hb4 (Nat.le_refl _)).more hs4) lK1 lK2).mono ?_
  rintro e w5 ⟨rfl, hb5⟩
  rw [show decide (instK = instJ) = false from by decide]
  clear g20 g21 g50 g51
  have hb5 : Below W.heap.size W w5 := hb4.trans (hb5.mono hs4)
  clear hs4 hb4
  have hs5 := hb5.size
  have g20 : w5.cell? ⟨b2, 0, none⟩ = some (.slice (some ⟨w.heap.size, 0, none⟩) 2 2) := ((h2.below hb5 (by omega)).cell 0).trans (by simp)
  have g21 : w5.cell? ⟨b2, 1, none⟩ = some (.slice (some ⟨b1, 0, none⟩) 1 1) := ((h2.below hb5 (by omega)).cell 1).trans (by simp)
  go_wp2_with fail
  have hb5a : Below w5.heap.size w5 (w5.alloc (.cells #[.bool true] 4)) := (Below.refl _ _).alloc (Nat.le_refl _) _
  have hrow : RowR Value.bool (w5.alloc (.cells #[.bool true] 4)) (w5.alloc (.cells #[.bool true] 4)).heap.size (some ⟨w5.heap.size, 0, none⟩) [true] := fun _ => ⟨w5.heap.size, 0, rfl, by simp, fun i x hx => by
    match i, hx with
    | 0, hx => simp at hx; subst hx; simp
    | i + 1, hx => simp at hx⟩
  refine (without_any _ instK (some ⟨w5.heap.size, 0, none⟩) none 1 0 [true] [] _ (((hK.keep hb5 (Nat.le_refl _)).keep (hb5a.mono hs5) (Nat.le_refl _)).more (by simp; omega)) lK1 lK2 (by simp) (by simp) hrow RowR.nil).mono ?_
  rintro e w6 ⟨v1, v2, rfl, hown1, hown2, hb6⟩
  obtain ⟨A1, c1, rfl⟩ := ownsRow_slice hown1
  obtain ⟨A2, c2, rfl⟩ := ownsRow_slice hown2
  rw [HwK.out]
  clear hown1 hown2 hrow g20 g21
  have hfd := field_inst1
  go_wp2_with fail
  go_ret
  exact ⟨rfl, hW.trans ((hb5.trans (hb5a.mono hs5 |>.trans (hb6.mono (by simp; omega)))).mono (by omega))⟩
end Go.Proofs.Ytimkpgkpebjglaa
