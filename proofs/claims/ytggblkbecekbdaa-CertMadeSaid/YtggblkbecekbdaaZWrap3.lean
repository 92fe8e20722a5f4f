/- Part of the proof, Wrap3. -/
import Derived.Test.YtggblkbecekbdaaZSpec
import Derived.ProofKit
import Derived.OpenShut
import Derived.ChangeSame
import Derived.Deep.Slices
import Derived.Deep.Grids
import Derived.Test.YtggblkbecekbdaaZBase
import Derived.Test.YtggblkbecekbdaaRows
section
set_option linter.all false
set_option linter.unusedSimpArgs false
set_option linter.unusedVariables false
namespace Go.Ql
open Go Go.RowKit Go.ChangeShapes Go.WideShapes Go.ChangeAt Go.Deep
section
variable {H : Type} {enc : TypeId × Value → H} {P : Program}
theorem addr_plain {w : World} {a : Addr} {v : Value} (h : w.cell? a = some v) : a = ⟨a.block, a.off, none⟩ ∧ a.block < w.heap.size := by
  refine ⟨?_, World.block_lt_of_cell? w a h⟩
  obtain ⟨b, o, s⟩ := a
  cases s with
  | none => rfl
  | some s =>
    exfalso
    unfold World.cell? at h
    split at h <;> simp at h
theorem add_plain (b o i : Nat) : (⟨b, o, none⟩ : Addr).add i = ⟨b, o + i, none⟩ := by
  unfold Addr.add
  split
  · rename_i h; simp_all
  · rfl
theorem dec_ints {W : World} {base : Nat} {r : Reach} {b0 : Nat} {t e : TypeId} {k : IntKind} {v : Value} {d : DataW H} {p : List MemPlace} (ht : P.underlying t = some (.slice e)) (he : P.underlying e = some (.int k)) (hc : P.cellsOf e = 1)
    (hv : Value.okWide P W r b0 t v) (h : DataW.Trod enc P W base (fun _ => true) true t v d p) :
    ∃ A c xs, v = .slice A xs.length c ∧ (RowR (Value.int k) W W.heap.size A xs ∧ xs.length ≤ c) ∧ xs.length ≤ maxLen ∧ ∀ x ∈ xs, (Lit.int k x).wf = true := by
  obtain ⟨a0, len, cap, rfl⟩ := okWide_slice ht hv
  obtain ⟨fuel, hf⟩ := h
  rcases open_ints ht he hc hf with ⟨hcs, _⟩ | ⟨a, len', cap', zs, hcs, _, hl, hm, hz, _, hcell, hwz⟩
  · simp [Value.cells] at hcs
    obtain ⟨rfl, rfl, rfl⟩ := hcs
    exact ⟨none, 0, [], rfl, ⟨RowR.nil, by simp⟩, by simp, by simp⟩
  · simp [Value.cells] at hcs
    obtain ⟨rfl, rfl, rfl⟩ := hcs
    simp only [if_true] at hz
    have hlen : (zs.take len).length = len := by simp; omega
    refine ⟨some a, cap, zs.take len, by rw [hlen], ⟨fun h0 => ?_, by omega⟩, by omega, fun x hx => hwz x (List.mem_of_mem_take hx)⟩
    have h1 := hcell 0 (by omega)
    have hz0 : a.add 0 = a := by unfold Addr.add; simp
    rw [hz0] at h1
    obtain ⟨e1, e2⟩ := addr_plain h1
    refine ⟨a.block, a.off, by rw [← e1], e2, fun i x hx => ?_⟩
    rw [List.getElem?_take] at hx
    split at hx
    · have h2 := hcell i (by omega)
      rw [e1, add_plain] at h2
      rw [h2]
      simp [List.getD, hx]
    · cases hx
theorem dec_bools {W : World} {base : Nat} {r : Reach} {b0 : Nat} {t e : TypeId} {v : Value} {d : DataW H} {p : List MemPlace} (ht : P.underlying t = some (.slice e)) (he : P.underlying e = some .bool) (hc : P.cellsOf e = 1)
    (hv : Value.okWide P W r b0 t v) (h : DataW.Trod enc P W base (fun _ => true) true t v d p) :
    ∃ A c xs, v = .slice A xs.length c ∧ (RowR Value.bool W W.heap.size A xs ∧ xs.length ≤ c) ∧ xs.length ≤ maxLen := by
  obtain ⟨a0, len, cap, rfl⟩ := okWide_slice ht hv
  obtain ⟨fuel, hf⟩ := h
  rcases open_bools ht he hc hf with ⟨hcs, _⟩ | ⟨a, len', cap', B, hcs, _, hl, hm, _, hcell⟩
  · simp [Value.cells] at hcs
    obtain ⟨rfl, rfl, rfl⟩ := hcs
    exact ⟨none, 0, [], rfl, ⟨RowR.nil, by simp⟩, by simp⟩
  · simp [Value.cells] at hcs
    obtain ⟨rfl, rfl, rfl⟩ := hcs
    have hlen : ((List.range len).map B).length = len := by simp
    refine ⟨some a, cap, (List.range len).map B, by rw [hlen], ⟨fun h0 => ?_, by omega⟩, by omega⟩
    have h1 := hcell 0 (by omega)
    have hz0 : a.add 0 = a := by unfold Addr.add; simp
    rw [hz0] at h1
    obtain ⟨e1, e2⟩ := addr_plain h1
    refine ⟨a.block, a.off, by rw [← e1], e2, fun i x hx => ?_⟩
    rw [List.getElem?_map] at hx
    by_cases hi : i < len
    · rw [List.getElem?_range hi] at hx
      simp only [Option.map_some, Option.some.injEq] at hx
      have h2 := hcell i (by omega)
      rw [e1, add_plain] at h2
      rw [h2, hx]
    · rw [List.getElem?_eq_none (by simpa using hi)] at hx
      cases hx
theorem trodAll_below {W W' : World} (hl : laidOutB P = true) (hb : Below W.heap.size W W') : ∀ (ts : List TypeId) (vs : List Value) (ds : List (DataW H)) (ps : List MemPlace), (ts.all fun t => P.readableRec t && decide (t < P.types.size)) = true →
    (∀ x ∈ ps, x.block < W.heap.size) → DataW.TrodAll enc P W 0 (fun _ => true) true ts vs ds ps → ∀ sp : Nat → Bool, (∀ x ∈ ps, sp x.block = true) → DataW.TrodAll enc P W' 0 sp true ts vs ds ps
  | [], vs, ds, ps, _, _, h, _, _ => by
    cases vs <;> cases ds <;> simp [DataW.TrodAll] at h ⊢
    exact h
  | t :: ts, vs, ds, ps, hr, hlt, h, sp, hsp => by
    obtain ⟨v, vs', d, ds', p, q, rfl, rfl, rfl, h1, h2⟩ := trodAll_cons h
    simp only [List.all_cons, Bool.and_eq_true, decide_eq_true_eq] at hr
    refine ⟨p, q, ?_, trodAll_below hl hb ts vs' ds' q (by simpa using hr.2) (fun x hx => hlt x (by simp [hx])) h2 sp (fun x hx => hsp x (by simp [hx])), rfl⟩
    exact WideElems.Trod_stays hl hr.1.1 hr.1.2 h1 (fun x hx => hb.same (hlt x (by simp [hx]))) (fun x hx => hsp x (by simp [hx]))
theorem law_post {f : Func} {s : ChangeSpec} {W W' : World} {args : Array Value} {ds gs : List (DataW H)} {before : List MemPlace} {tb : TypeId} (hl : laidOutB P = true)
    (hW : DataW.Whole enc P f.params.toList s.vars false W args.toList ds gs before) (hvars : s.vars = []) (hres : f.resultTypes = #[tb]) (htb : P.underlying tb = some .bool)
    (hr : (f.params.toList.all fun t => P.readableRec t && decide (t < P.types.size)) = true)
    (hfn : s.fn H ds = { results := [.lit (.bool true)], args := ds }) (hb : Below W.heap.size W W') :
    s.post enc P f false true false false W args (.bool true) W' := by
  have hW' := hW
  have hlt : ∀ p ∈ before, p.block < W.heap.size := fun p hp => hW.lt p hp
  obtain ⟨pa, pv, hA, hV, hps, hz, hn⟩ := hW
  rw [hvars] at hV
  obtain ⟨rfl, rfl⟩ := trodVars_none hV
  rw [List.append_nil] at hps
  subst hps
  have hargs : ∀ sp : Nat → Bool, (∀ p ∈ before, sp p.block = true) → DataW.TrodAll enc P W' 0 sp true f.params.toList args.toList ds before := fun sp hsp =>
    trodAll_below hl hb _ _ _ _ hr hlt hA sp hsp
  have hres' : ∀ (b : Nat) (sp : Nat → Bool) (hd : Bool), DataW.TrodAll enc P W' b sp hd f.resultTypes.toList ((Value.bool true).resultList f.resultTypes.size) [.lit (.bool true)] [] := fun b sp hd => by
    rw [hres]
    exact trodAll_cons_mk (shut_bool htb _) trodAll_mk0
  have hf2 : s.fn H (ds ++ []) = { results := [.lit (.bool true)], args := ds } := by rw [List.append_nil]; exact hfn
  have hvr : ∀ sp : Nat → Bool, DataW.TrodVars enc P W' sp s.vars (s.fn H (ds ++ [])).vars [] := fun sp => by rw [hvars, hf2]; rfl
  have hold : ∀ p ∈ before, (fun b => decide (b < W.heap.size)) p.block = true := fun p hp => by simpa using hlt p hp
  refine ⟨ds, [], before, [], before, [], hW', by rw [hf2]; exact hres' _ _ _, by rw [hf2]; exact hargs _ hold, hvr _, World.keptBut_mono (fun p hp => ⟨hp, ?_⟩) (hb.frame (· ∈ before)), fun h => by cases h⟩
  exact .inr (by simpa using hp)
end
end Go.Ql
end
section
set_option linter.all false
set_option linter.unusedSimpArgs false
set_option linter.unusedVariables false
set_option maxRecDepth 100000
namespace Go.Ql
open Go Go.RowKit
theorem wf1_u8 {n : Int} (h : (Lit.int .u8 n).wf = true) : 0 ≤ n ∧ n ≤ 255 := by simpa [Lit.wf, IntKind.min, IntKind.max, IntKind.signed, IntKind.bits] using h
theorem wf1_u16 {n : Int} (h : (Lit.int .u16 n).wf = true) : 0 ≤ n ∧ n ≤ 65535 := by simpa [Lit.wf, IntKind.min, IntKind.max, IntKind.signed, IntKind.bits] using h
theorem wf1_i64 {n : Int} (h : (Lit.int .i64 n).wf = true) : -9223372036854775808 ≤ n ∧ n ≤ 9223372036854775807 := by simpa [Lit.wf, IntKind.min, IntKind.max, IntKind.signed, IntKind.bits] using h
theorem wf1_u64 {n : Int} (h : (Lit.int .u64 n).wf = true) : 0 ≤ n ∧ n ≤ 18446744073709551615 := by simpa [Lit.wf, IntKind.min, IntKind.max, IntKind.signed, IntKind.bits] using h
theorem wf1_i8 {n : Int} (h : (Lit.int .i8 n).wf = true) : -128 ≤ n ∧ n ≤ 127 := by simpa [Lit.wf, IntKind.min, IntKind.max, IntKind.signed, IntKind.bits] using h
theorem wf1_i32 {n : Int} (h : (Lit.int .i32 n).wf = true) : -2147483648 ≤ n ∧ n ≤ 2147483647 := by simpa [Lit.wf, IntKind.min, IntKind.max, IntKind.signed, IntKind.bits] using h
def I64s (c : List Int) : Prop := ∀ x ∈ c, -9223372036854775808 ≤ x ∧ x ≤ 9223372036854775807
def I32s (c : List Int) : Prop := ∀ x ∈ c, -2147483648 ≤ x ∧ x ≤ 2147483647
theorem wf_u8 {c : List Int} (h : ∀ x ∈ c, (Lit.int .u8 x).wf = true) : Bytes c := fun x hx => wf1_u8 (h x hx)
theorem wf_i64 {c : List Int} (h : ∀ x ∈ c, (Lit.int .i64 x).wf = true) : I64s c := fun x hx => wf1_i64 (h x hx)
theorem wf_i32 {c : List Int} (h : ∀ x ∈ c, (Lit.int .i32 x).wf = true) : I32s c := fun x hx => wf1_i32 (h x hx)
end Go.Ql
namespace Go.Proofs.Ytggblkbecekbdaa
open Go Go.RowKit Go.Ql
theorem own_knob : ownKnob Try.prog.godebug = none := by kernel_rfl
theorem laid_out : laidOutB Try.prog = true := by kernel_rfl
end Go.Proofs.Ytggblkbecekbdaa
end
section
set_option linter.all false
set_option linter.unusedSimpArgs false
set_option linter.unusedVariables false
set_option maxRecDepth 100000
namespace Go.Ql
open Go Go.RowKit Go.ChangeShapes Go.WideShapes Go.ChangeAt Go.Deep
def Arc.Wf (a : Arc) : Prop := (-9223372036854775808 ≤ a.src ∧ a.src ≤ 9223372036854775807) ∧ (-9223372036854775808 ≤ a.dst ∧ a.dst ≤ 9223372036854775807) ∧ (-9223372036854775808 ≤ a.low ∧ a.low ≤ 9223372036854775807) ∧
  (-9223372036854775808 ≤ a.cap ∧ a.cap ≤ 9223372036854775807) ∧ (-9223372036854775808 ≤ a.cost ∧ a.cost ≤ 9223372036854775807)
def Inst.Wf (I : Inst) : Prop := I64s I.sup ∧ (∀ a ∈ I.arcs, a.Wf) ∧ I.sup.length ≤ maxLen ∧ I.arcs.length ≤ maxLen
section
variable {H : Type} {enc : TypeId × Value → H} {P : Program}
theorem slice_small {W : World} {base : Nat} {t e : TypeId} {fuel n c : Nat} {A : Option Addr} {x : DataW H × List MemPlace} {sp : Nat → Bool} {hd : Bool} (ht : P.underlying t = some (.slice e)) (hb : 1 ≤ P.bytesOf e)
    (h : DataW.trod enc P W base sp hd fuel t [.slice A n c] = some x) (hz : (x.1.weights P t).all (· ≤ reachBytes) = true) : n ≤ 140737488351232 := by
  rcases DataW.trod_slice ht h with ⟨hcs, _⟩ | ⟨a, len, cap, elems, rest, m, _, hcs, rfl, _, _, _, hlen, _⟩
  · simp at hcs; omega
  · simp only [List.cons.injEq, Value.slice.injEq, and_true] at hcs
    obtain ⟨_, rfl, _⟩ := hcs
    simp only [DataW.weights, ht, List.all_cons, Bool.and_eq_true, decide_eq_true_eq, List.length_map, hlen] at hz
    have h1 := hz.1
    have h2 : n ≤ n + rest.length := Nat.le_add_right _ _
    have h3 : (n + rest.length) * 1 ≤ (n + rest.length) * P.bytesOf e := Nat.mul_le_mul_left _ hb
    unfold reachBytes at h1
    omega
theorem small_slice {W : World} {base : Nat} {t e : TypeId} {n c : Nat} {A : Option Addr} {d : DataW H} {p : List MemPlace} {sp : Nat → Bool} {hd : Bool} (ht : P.underlying t = some (.slice e)) (hb : 1 ≤ P.bytesOf e)
    (h : DataW.Trod enc P W base sp hd t (.slice A n c) d p) (hz : (d.weights P t).all (· ≤ reachBytes) = true) : n ≤ 140737488351232 := by
  obtain ⟨fuel, hf⟩ := h
  exact slice_small ht hb hf hz
theorem weights_cons {t : TypeId} {ts vt : List TypeId} {d : DataW H} {ds gs : List (DataW H)} (h : (DataW.weightsEach P ((t :: ts) ++ vt) ((d :: ds) ++ gs)).all (· ≤ reachBytes) = true) :
    (d.weights P t).all (· ≤ reachBytes) = true ∧ (DataW.weightsEach P (ts ++ vt) (ds ++ gs)).all (· ≤ reachBytes) = true := by
  simpa only [List.cons_append, DataW.weightsEach, List.all_append, Bool.and_eq_true] using h
theorem dec_arcs {W : World} {base : Nat} {t e : TypeId} {f0 f1 f2 f3 f4 : Field} {fuel : Nat} {cs : List Value} {x : DataW H × List MemPlace} (ht : P.underlying t = some (.slice e)) (he : P.underlying e = some (.struct #[f0, f1, f2, f3, f4]))
    (ce : P.cellsOf e = 5) (hi0 : P.underlying f0.type = some (.int .i64)) (hi1 : P.underlying f1.type = some (.int .i64)) (hi2 : P.underlying f2.type = some (.int .i64)) (hi3 : P.underlying f3.type = some (.int .i64)) (hi4 : P.underlying f4.type = some (.int .i64))
    (hc : [P.cellsOf f0.type, P.cellsOf f1.type, P.cellsOf f2.type, P.cellsOf f3.type, P.cellsOf f4.type] = [1, 1, 1, 1, 1]) (ho : [f0.offset, f1.offset, f2.offset, f3.offset, f4.offset] = [0, 1, 2, 3, 4])
    (h : DataW.trod enc P W base (fun _ => true) true fuel t cs = some x) :
    ∃ A c xs, cs = [.slice A xs.length c] ∧ (ArcsR W W.heap.size A xs ∧ xs.length ≤ c) ∧ xs.length ≤ maxLen ∧ ∀ a ∈ xs, a.Wf := by
  simp only [List.cons.injEq, and_true] at hc ho
  obtain ⟨c0, c1, c2, c3, c4⟩ := hc
  obtain ⟨o0, o1, o2, o3, o4⟩ := ho
  rcases open_slice ht h with ⟨hcs, _⟩ | ⟨a, len, cap, m, n, D, Pl, hcs, hb, hl, hm, hmm, _, hx⟩
  · exact ⟨none, 0, [], by simpa using hcs, ⟨ArcsR.nil, by simp⟩, by simp, by simp⟩
  simp only [if_true] at hmm
  have each : ∀ i, i < len → ∃ q : Arc, (W.cell? (a.add (i * 5)) = some (.int .i64 q.src) ∧ W.cell? (a.add (i * 5 + 1)) = some (.int .i64 q.dst) ∧ W.cell? (a.add (i * 5 + 2)) = some (.int .i64 q.low) ∧
      W.cell? (a.add (i * 5 + 3)) = some (.int .i64 q.cap) ∧ W.cell? (a.add (i * 5 + 4)) = some (.int .i64 q.cost)) ∧ q.Wf := by
    intro i hi
    obtain ⟨cs', h1, h2⟩ := hx i (by omega)
    rw [ce] at h1
    obtain ⟨_, hlen, hcell⟩ := World.cells?_some h1
    obtain ⟨xs, k, hk, hxy, _, hxl, hf⟩ := DataW.trod_struct he h2
    match xs, hxl, cs', hlen with
    | [y0, y1, y2, y3, y4], _, [v0, v1, v2, v3, v4], _ =>
      have g0 := hf 0 f0 rfl
      have g1 := hf 1 f1 rfl
      have g2 := hf 2 f2 rfl
      have g3 := hf 3 f3 rfl
      have g4 := hf 4 f4 rfl
      simp [o0, o1, o2, o3, o4, c0, c1, c2, c3, c4] at g0 g1 g2 g3 g4
      obtain ⟨n0, e0, _, w0⟩ := DataW.trod_int hi0 g0
      obtain ⟨n1, e1, _, w1⟩ := DataW.trod_int hi1 g1
      obtain ⟨n2, e2, _, w2⟩ := DataW.trod_int hi2 g2
      obtain ⟨n3, e3, _, w3⟩ := DataW.trod_int hi3 g3
      obtain ⟨n4, e4, _, w4⟩ := DataW.trod_int hi4 g4
      simp only [List.cons.injEq, and_true] at e0 e1 e2 e3 e4
      subst e0 e1 e2 e3 e4
      have k0 := hcell 0 (by omega)
      have k1 := hcell 1 (by omega)
      have k2 := hcell 2 (by omega)
      have k3 := hcell 3 (by omega)
      have k4 := hcell 4 (by omega)
      rw [add_add] at k0 k1 k2 k3 k4
      exact ⟨⟨n0, n1, n2, n3, n4⟩, ⟨by simpa using k0, by simpa using k1, by simpa using k2, by simpa using k3, by simpa using k4⟩, wf1_i64 w0, wf1_i64 w1, wf1_i64 w2, wf1_i64 w3, wf1_i64 w4⟩
  haveI : Inhabited Arc := ⟨⟨0, 0, 0, 0, 0⟩⟩
  obtain ⟨q, hq⟩ := choose_lt each
  have hlen : ((List.range len).map q).length = len := by simp
  refine ⟨some a, cap, (List.range len).map q, by rw [hlen]; exact hcs, ⟨fun h0 => ?_, by omega⟩, by omega, fun y hy => ?_⟩
  · have h1 := (hq 0 (by omega)).1.1
    have hz0 : a.add (0 * 5) = a := by unfold Addr.add; simp
    rw [hz0] at h1
    obtain ⟨e1, e2⟩ := addr_plain h1
    refine ⟨a.block, a.off, by rw [← e1], e2, fun i x hx => ?_⟩
    rw [List.getElem?_map] at hx
    by_cases hi : i < len
    · rw [List.getElem?_range hi] at hx
      simp only [Option.map_some, Option.some.injEq] at hx
      subst hx
      obtain ⟨⟨a0, a1, a2, a3, a4⟩, _⟩ := hq i hi
      rw [e1, add_plain] at a0 a1 a2 a3 a4
      exact ⟨a0, a1, a2, a3, a4⟩
    · rw [List.getElem?_eq_none (by simpa using hi)] at hx
      cases hx
  · rw [List.mem_map] at hy
    obtain ⟨i, hi, rfl⟩ := hy
    exact (hq i (List.mem_range.1 hi)).2
theorem okWide_struct {W : World} {r : Reach} {b0 : Nat} {t : TypeId} {fs : Array Field} {v : Value} (ht : P.underlying t = some (.struct fs)) (h : Value.okWide P W r b0 t v) : ∃ xs : Array Value, v = .agg xs := by
  simp only [Value.okWide, ht] at h
  obtain ⟨cs, h1, _⟩ := h
  exact ⟨cs, h1⟩
theorem dec_ints_cell {W : World} {base : Nat} {t e : TypeId} {k : IntKind} {fuel : Nat} {cs : List Value} {x : DataW H × List MemPlace} (ht : P.underlying t = some (.slice e)) (he : P.underlying e = some (.int k)) (hc : P.cellsOf e = 1)
    (h : DataW.trod enc P W base (fun _ => true) true fuel t cs = some x) :
    ∃ A c xs, cs = [.slice A xs.length c] ∧ (RowR (Value.int k) W W.heap.size A xs ∧ xs.length ≤ c) ∧ xs.length ≤ maxLen ∧ ∀ x ∈ xs, (Lit.int k x).wf = true := by
  rcases open_ints ht he hc h with ⟨hcs, _⟩ | ⟨a, len', cap', zs, hcs, _, hl, hm, hz, _, hcell, hwz⟩
  · exact ⟨none, 0, [], by simpa using hcs, ⟨RowR.nil, by simp⟩, by simp, by simp⟩
  · simp only [if_true] at hz
    have hlen : (zs.take len').length = len' := by simp; omega
    refine ⟨some a, cap', zs.take len', by rw [hlen]; exact hcs, ⟨fun h0 => ?_, by omega⟩, by omega, fun x hx => hwz x (List.mem_of_mem_take hx)⟩
    have h1 := hcell 0 (by omega)
    have hz0 : a.add 0 = a := by unfold Addr.add; simp
    rw [hz0] at h1
    obtain ⟨e1, e2⟩ := addr_plain h1
    refine ⟨a.block, a.off, by rw [← e1], e2, fun i x hx => ?_⟩
    rw [List.getElem?_take] at hx
    split at hx
    · have h2 := hcell i (by omega)
      rw [e1, add_plain] at h2
      rw [h2]
      simp [List.getD, hx]
    · cases hx
theorem dec_inst0 {W : World} {base : Nat} {r : Reach} {b0 : Nat} {t te ti : TypeId} {g0 g1 f0 f1 f2 f3 f4 : Field} {v : Value} {d : DataW H} {p : List MemPlace} (ht : P.underlying t = some (.struct #[g0, g1]))
    (h0 : P.underlying g0.type = some (.slice ti)) (hti : P.underlying ti = some (.int .i64)) (h1 : P.underlying g1.type = some (.slice te)) (hbi : 1 ≤ P.bytesOf ti) (hbe : 1 ≤ P.bytesOf te) (hg : [P.cellsOf g0.type, P.cellsOf g1.type, g0.offset, g1.offset, P.cellsOf t, P.cellsOf ti] = [1, 1, 0, 1, 2, 1])
    (he : P.underlying te = some (.struct #[f0, f1, f2, f3, f4])) (ce : P.cellsOf te = 5) (hi0 : P.underlying f0.type = some (.int .i64)) (hi1 : P.underlying f1.type = some (.int .i64)) (hi2 : P.underlying f2.type = some (.int .i64))
    (hi3 : P.underlying f3.type = some (.int .i64)) (hi4 : P.underlying f4.type = some (.int .i64))
    (hc : [P.cellsOf f0.type, P.cellsOf f1.type, P.cellsOf f2.type, P.cellsOf f3.type, P.cellsOf f4.type] = [1, 1, 1, 1, 1]) (ho : [f0.offset, f1.offset, f2.offset, f3.offset, f4.offset] = [0, 1, 2, 3, 4])
    (hv : Value.okWide P W r b0 t v) (h : DataW.Trod enc P W base (fun _ => true) true t v d p) :
    ∃ A c A' c', ∃ I : Inst, v = .agg #[.slice A I.sup.length c, .slice A' I.arcs.length c'] ∧ (RowR (Value.int .i64) W W.heap.size A I.sup ∧ I.sup.length ≤ c) ∧ (ArcsR W W.heap.size A' I.arcs ∧ I.arcs.length ≤ c') ∧ I.Wf ∧ ((d.weights P t).all (· ≤ reachBytes) = true → I.sup.length ≤ 140737488351232 ∧ I.arcs.length ≤ 140737488351232) := by
  simp only [List.cons.injEq, and_true] at hg
  obtain ⟨k0, k1, o0, o1, kt, ki⟩ := hg
  obtain ⟨xs, rfl⟩ := okWide_struct ht hv
  obtain ⟨fuel, hf⟩ := h
  obtain ⟨y0, y1, n, hy, hl, q0, q1⟩ := trod_struct2 ht hf
  simp only [Value.cells] at hl q0 q1
  rw [kt] at hl
  obtain ⟨l⟩ := xs
  match l, hl with
  | [u0, u1], _ =>
    simp [o0, o1, k0, k1] at q0 q1
    obtain ⟨A, c, s, e0, R, m0, w0⟩ := dec_ints_cell h0 hti ki q0
    obtain ⟨A', c', l1, e1, R', m1, w1⟩ := dec_arcs h1 he ce hi0 hi1 hi2 hi3 hi4 hc ho q1
    simp only [List.cons.injEq, and_true] at e0 e1
    subst e0 e1
    refine ⟨A, c, A', c', ⟨s, l1⟩, rfl, R, R', ⟨wf_i64 w0, w1, m0, m1⟩, fun hz => ?_⟩
    simp only [Prod.mk.injEq] at hy
    obtain ⟨rfl, _⟩ := hy
    simp only [DataW.weights, ht, List.map_cons, List.map_nil, DataW.weightsEach, List.all_append, Bool.and_eq_true] at hz
    exact ⟨slice_small h0 hbi q0 hz.1, slice_small h1 hbe q1 hz.2.1⟩
end
end Go.Ql
namespace Go.Proofs.Ytggblkbecekbdaa
open Go Go.RowKit Go.Ql
theorem dec_inst {H : Type} {enc : TypeId × Value → H} {W : World} {base : Nat} {r : Reach} {b0 : Nat} {v : Value} {d : DataW H} {p : List MemPlace} (hv : Value.okWide Try.prog W r b0 30 v)
    (h : DataW.Trod enc Try.prog W base (fun _ => true) true 30 v d p) :
    ∃ A c A' c', ∃ I : Inst, v = .agg #[.slice A I.sup.length c, .slice A' I.arcs.length c'] ∧ (RowR (Value.int .i64) W W.heap.size A I.sup ∧ I.sup.length ≤ c) ∧ (ArcsR W W.heap.size A' I.arcs ∧ I.arcs.length ≤ c') ∧ I.Wf ∧ ((d.weights Try.prog 30).all (· ≤ reachBytes) = true → I.sup.length ≤ 140737488351232 ∧ I.arcs.length ≤ 140737488351232) :=
  dec_inst0 Try.underlying30 Try.underlying23 Try.underlying2 Try.underlying28 (of_decide_eq_true (by kernel_rfl)) (of_decide_eq_true (by kernel_rfl)) (by kernel_rfl) Try.underlying50 (by kernel_rfl) Try.underlying3 Try.underlying3 Try.underlying2 Try.underlying2 Try.underlying2 (by kernel_rfl) (by kernel_rfl) hv h
end Go.Proofs.Ytggblkbecekbdaa
end
