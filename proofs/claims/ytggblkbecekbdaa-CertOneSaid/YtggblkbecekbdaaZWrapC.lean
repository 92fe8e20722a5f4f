/- Part of the proof, WrapC. -/
import Derived.Test.YtggblkbecekbdaaZWrap3
set_option linter.all false
set_option linter.unusedSimpArgs false
set_option linter.unusedVariables false
set_option maxRecDepth 100000
namespace Go.Ql
open Go Go.RowKit Go.ChangeShapes Go.WideShapes Go.ChangeAt Go.Deep
section
variable {H : Type} {P : Program} {enc : TypeId × Value → H}
theorem trod_struct5 {w : World} {base : Nat} {spare : Nat → Bool} {held : Bool} {t : TypeId} {f0 f1 f2 f3 f4 : Field} {fuel : Nat} {cs : List Value} {x : DataW H × List MemPlace} (ht : P.underlying t = some (.struct #[f0, f1, f2, f3, f4])) (h : DataW.trod enc P w base spare held fuel t cs = some x) :
    ∃ y0 y1 y2 y3 y4 n, x = (.agg [y0.1, y1.1, y2.1, y3.1, y4.1], y0.2 ++ (y1.2 ++ (y2.2 ++ (y3.2 ++ y4.2)))) ∧ cs.length = P.cellsOf t ∧ DataW.trod enc P w base spare held n f0.type ((cs.drop f0.offset).take (P.cellsOf f0.type)) = some y0 ∧
      DataW.trod enc P w base spare held n f1.type ((cs.drop f1.offset).take (P.cellsOf f1.type)) = some y1 ∧ DataW.trod enc P w base spare held n f2.type ((cs.drop f2.offset).take (P.cellsOf f2.type)) = some y2 ∧
      DataW.trod enc P w base spare held n f3.type ((cs.drop f3.offset).take (P.cellsOf f3.type)) = some y3 ∧ DataW.trod enc P w base spare held n f4.type ((cs.drop f4.offset).take (P.cellsOf f4.type)) = some y4 := by
  obtain ⟨xs, n, _, rfl, hl, hlen, hf⟩ := DataW.trod_struct ht h
  match xs, hlen with
  | [y0, y1, y2, y3, y4], _ => exact ⟨y0, y1, y2, y3, y4, n, by simp, hl, by simpa using hf 0 f0 rfl, by simpa using hf 1 f1 rfl, by simpa using hf 2 f2 rfl, by simpa using hf 3 f3 rfl, by simpa using hf 4 f4 rfl⟩
theorem dec_bools_cell {W : World} {base : Nat} {t e : TypeId} {fuel : Nat} {cs : List Value} {x : DataW H × List MemPlace} (ht : P.underlying t = some (.slice e)) (he : P.underlying e = some .bool) (hc : P.cellsOf e = 1)
    (h : DataW.trod enc P W base (fun _ => true) true fuel t cs = some x) :
    ∃ A c xs, cs = [.slice A xs.length c] ∧ (RowR Value.bool W W.heap.size A xs ∧ xs.length ≤ c) ∧ xs.length ≤ maxLen := by
  rcases open_bools ht he hc h with ⟨hcs, _⟩ | ⟨a, len, cap', B, hcs, _, hl, hm, _, hcell⟩
  · exact ⟨none, 0, [], by simpa using hcs, ⟨RowR.nil, by simp⟩, by simp⟩
  · have hlen : ((List.range len).map B).length = len := by simp
    refine ⟨some a, cap', (List.range len).map B, by rw [hlen]; exact hcs, ⟨fun h0 => ?_, by omega⟩, by omega⟩
    have h1 := hcell 0 (by omega)
    have hz0 : a.add 0 = a := by unfold Addr.add; simp
    rw [hz0] at h1
    obtain ⟨e1, e2⟩ := addr_plain h1
    refine ⟨a.block, a.off, by rw [← e1], e2, fun i x hx => ?_⟩
    rw [List.getElem?_map] at hx
    by_cases hi : i < len
    · have h2 := hcell i (by omega)
      rw [e1, add_plain] at h2
      rw [h2]
      rw [List.getElem?_range hi] at hx
      simp at hx
      rw [hx]
    · rw [List.getElem?_eq_none (by simpa using hi)] at hx; cases hx
theorem dec_cert0 {W : World} {base : Nat} {r : Reach} {b0 : Nat} {t : TypeId} {g0 g1 g2 g3 g4 : Field} {v : Value} {d : DataW H} {p : List MemPlace} (ht : P.underlying t = some (.struct #[g0, g1, g2, g3, g4]))
    (hk : P.underlying g0.type = some (.int .i64)) {e1 e2 e3 e4 : TypeId} (h1 : P.underlying g1.type = some (.slice e1)) (h2 : P.underlying g2.type = some (.slice e2)) (h3 : P.underlying g3.type = some (.slice e3)) (h4 : P.underlying g4.type = some (.slice e4))
    (i1 : P.underlying e1 = some (.int .i64)) (i2 : P.underlying e2 = some (.int .i64)) (i3 : P.underlying e3 = some .bool) (i4 : P.underlying e4 = some (.int .i64))
    (b1 : 1 ≤ P.bytesOf e1) (b2 : 1 ≤ P.bytesOf e2) (b3 : 1 ≤ P.bytesOf e3) (b4 : 1 ≤ P.bytesOf e4)
    (hg : [P.cellsOf g0.type, P.cellsOf g1.type, P.cellsOf g2.type, P.cellsOf g3.type, P.cellsOf g4.type, g0.offset, g1.offset, g2.offset, g3.offset, g4.offset, P.cellsOf t, P.cellsOf e1, P.cellsOf e2, P.cellsOf e3, P.cellsOf e4] = [1, 1, 1, 1, 1, 0, 1, 2, 3, 4, 5, 1, 1, 1, 1])
    (hv : Value.okWide P W r b0 t v) (h : DataW.Trod enc P W base (fun _ => true) true t v d p) :
    ∃ A1 c1 A2 c2 A3 c3 A4 c4, ∃ (k : Int) (x1 x2 : List Int) (x3 : List Bool) (x4 : List Int), v = .agg #[.int .i64 k, .slice A1 x1.length c1, .slice A2 x2.length c2, .slice A3 x3.length c3, .slice A4 x4.length c4] ∧
      (RowR (Value.int .i64) W W.heap.size A1 x1 ∧ x1.length ≤ c1) ∧ (RowR (Value.int .i64) W W.heap.size A2 x2 ∧ x2.length ≤ c2) ∧ (RowR Value.bool W W.heap.size A3 x3 ∧ x3.length ≤ c3) ∧ (RowR (Value.int .i64) W W.heap.size A4 x4 ∧ x4.length ≤ c4) ∧
      (I64s x1 ∧ I64s x2 ∧ I64s x4 ∧ -9223372036854775808 ≤ k ∧ k ≤ 9223372036854775807) ∧ ((d.weights P t).all (· ≤ reachBytes) = true → x1.length ≤ 140737488351232 ∧ x2.length ≤ 140737488351232 ∧ x3.length ≤ 140737488351232 ∧ x4.length ≤ 140737488351232) := by
  simp only [List.cons.injEq, and_true] at hg
  obtain ⟨k0, k1, k2, k3, k4, o0, o1, o2, o3, o4, kt, l1, l2, l3, l4⟩ := hg
  obtain ⟨xs, rfl⟩ := okWide_struct ht hv
  obtain ⟨fuel, hf⟩ := h
  obtain ⟨y0, y1, y2, y3, y4, n, hy, hl, q0, q1, q2, q3, q4⟩ := trod_struct5 ht hf
  simp only [Value.cells] at hl q0 q1 q2 q3 q4
  rw [kt] at hl
  obtain ⟨l⟩ := xs
  match l, hl with
  | [u0, u1, u2, u3, u4], _ =>
    simp [o0, o1, o2, o3, o4, k0, k1, k2, k3, k4] at q0 q1 q2 q3 q4
    obtain ⟨A1, c1, s1, e1', R1, m1, w1⟩ := dec_ints_cell h1 i1 l1 q1
    obtain ⟨A2, c2, s2, e2', R2, m2, w2⟩ := dec_ints_cell h2 i2 l2 q2
    obtain ⟨A3, c3, s3, e3', R3, m3⟩ := dec_bools_cell h3 i3 l3 q3
    obtain ⟨A4, c4, s4, e4', R4, m4, w4⟩ := dec_ints_cell h4 i4 l4 q4
    obtain ⟨k, e0', _, w0⟩ := DataW.trod_int hk q0
    simp only [List.cons.injEq, and_true] at e0' e1' e2' e3' e4'
    subst e0' e1' e2' e3' e4'
    refine ⟨A1, c1, A2, c2, A3, c3, A4, c4, k, s1, s2, s3, s4, rfl, R1, R2, R3, R4, ⟨wf_i64 w1, wf_i64 w2, wf_i64 w4, wf1_i64 w0⟩, fun hz => ?_⟩
    simp only [Prod.mk.injEq] at hy
    obtain ⟨rfl, _⟩ := hy
    simp only [DataW.weights, ht, List.map_cons, List.map_nil, DataW.weightsEach, List.all_append, Bool.and_eq_true] at hz
    exact ⟨slice_small h1 b1 q1 hz.2.1, slice_small h2 b2 q2 hz.2.2.1, slice_small h3 b3 q3 hz.2.2.2.1, slice_small h4 b4 q4 hz.2.2.2.2.1⟩
end
end Go.Ql
namespace Go.Proofs.Ytggblkbecekbdaa
open Go Go.RowKit Go.Ql
theorem dec_cert {H : Type} {enc : TypeId × Value → H} {W : World} {base : Nat} {r : Reach} {b0 : Nat} {v : Value} {d : DataW H} {p : List MemPlace} (hv : Value.okWide Try.prog W r b0 27 v)
    (h : DataW.Trod enc Try.prog W base (fun _ => true) true 27 v d p) :
    ∃ A1 c1 A2 c2 A3 c3 A4 c4, ∃ (k : Int) (x1 x2 : List Int) (x3 : List Bool) (x4 : List Int), v = .agg #[.int .i64 k, .slice A1 x1.length c1, .slice A2 x2.length c2, .slice A3 x3.length c3, .slice A4 x4.length c4] ∧
      (RowR (Value.int .i64) W W.heap.size A1 x1 ∧ x1.length ≤ c1) ∧ (RowR (Value.int .i64) W W.heap.size A2 x2 ∧ x2.length ≤ c2) ∧ (RowR Value.bool W W.heap.size A3 x3 ∧ x3.length ≤ c3) ∧ (RowR (Value.int .i64) W W.heap.size A4 x4 ∧ x4.length ≤ c4) ∧
      (I64s x1 ∧ I64s x2 ∧ I64s x4 ∧ -9223372036854775808 ≤ k ∧ k ≤ 9223372036854775807) ∧ ((d.weights Try.prog 27).all (· ≤ reachBytes) = true → x1.length ≤ 140737488351232 ∧ x2.length ≤ 140737488351232 ∧ x3.length ≤ 140737488351232 ∧ x4.length ≤ 140737488351232) :=
  dec_cert0 Try.underlying27 Try.underlying3 Try.underlying23 Try.underlying23 Try.underlying24 Try.underlying25 Try.underlying2 Try.underlying2 Try.underlying4 Try.underlying3
    (of_decide_eq_true (by kernel_rfl)) (of_decide_eq_true (by kernel_rfl)) (of_decide_eq_true (by kernel_rfl)) (of_decide_eq_true (by kernel_rfl)) (by kernel_rfl) hv h
end Go.Proofs.Ytggblkbecekbdaa
