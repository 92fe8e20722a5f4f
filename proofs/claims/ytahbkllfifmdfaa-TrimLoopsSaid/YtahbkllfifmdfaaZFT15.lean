/- Part of the proof, FT15. -/
import Derived.Test.YtahbkllfifmdfaaZFA4
import Derived.Test.YtahbkllfifmdfaaZFN1
import Derived.Test.YtahbkllfifmdfaaZDT15
import Derived.Test.YtahbkllfifmdfaaZVc11
set_option linter.unusedVariables false
set_option linter.all false
set_option linter.unusedSimpArgs false
set_option maxRecDepth 100000
namespace Go.Proofs.Ytahbkllfifmdfaa
open Go Go.RowKit Go.Ql Go.Vc
theorem fix15_ok : SpecOk Try.prog fix15_n false fix15_spec :=
  inl_ok TT_ok (show GsOk Try.prog fix15_g from gsOk_cons Plus_ok (gsOk_cons Times_ok (gsOk_nil))) (by kernel_rfl) mixedOrders Try.func86 rfl rfl (by kernel_rfl) _
abbrev low15_a0 (g : Nat) (w : WorkD) := (List.map lowArc (List.take g w.inst.arcs) ++ List.drop g w.inst.arcs)
abbrev low15_a1 (w : WorkD) (g : Nat) (x : Arc) (x_1 : Int) := ((supTo takeLow w.inst g).set x.src.toNat (IntKind.i64.wrap (x_1 - x.low)))
abbrev low15_a2 (g : Nat) (w : WorkD) (x_4 : Arc) (x_3 : Arc) (x : Arc) := ((low15_a0 g w).set (↑g : Int).toNat
 { src := x_4.src, dst := x_4.dst, low := x_4.low, cap := IntKind.i64.wrap (x_3.cap - x.low), cost := x_4.cost : Arc })
abbrev low15_a3 (w : WorkD) (g : Nat) (g' : Nat) := ((0 : Nat) = (0 : Nat) ∧
 True ∧
 (↑w.inst.arcs.length : Int) = (↑w.inst.arcs.length : Int) ∧
 IntKind.i64.wrap ((↑g : Int) + (1 : Int)) = (↑g' : Int) ∧ True)
def low15_E0 (w : WorkD) : Prop :=
      ∃ (g0 : Nat),
 (g0 ≤ w.inst.arcs.length ∧
 ((0 : Nat) = (0 : Nat) ∧ True ∧ (↑w.inst.arcs.length : Int) = (↑w.inst.arcs.length : Int) ∧ (0 : Int) = (↑g0 : Int) ∧ True) ∧
 (True ∧ True ∧ True ∧ True ∧ w.off.hi = (W (offTo takeLow w.inst g0)).hi ∧ w.off.lo = (W (offTo takeLow w.inst g0)).lo ∧ w.did = didTo takeLow w.inst g0 ∧ True) ∧
 w.inst.sup = supTo takeLow w.inst g0 ∧
 w.inst.arcs = List.map lowArc (List.take g0 w.inst.arcs) ++ List.drop g0 w.inst.arcs ∧ w.nodes = w.nodes ∧ w.arcs = w.arcs ∧ True) ∧
 ∀ (g : Nat),
 g ≤ w.inst.arcs.length →
 (decide ((↑g : Int) < (↑w.inst.arcs.length : Int)) = true →
 ((0 : Int) ≤ (↑g : Int) ∧ (↑g : Int) < (↑(low15_a0 g w).length : Int)) ∧
 (↑g : Int).toNat < (low15_a0 g w).length ∧
 ∀ (x : Arc),
 (low15_a0 g w)[(↑g : Int).toNat]? = some x →
 ((x.low == (0 : Int)) = true →
 ∃ (g' : Nat),
 g' ≤ w.inst.arcs.length ∧
 w.inst.arcs.length - g' < w.inst.arcs.length - g ∧
 ((0 : Nat) = (0 : Nat) ∧
 True ∧ (↑w.inst.arcs.length : Int) = (↑w.inst.arcs.length : Int) ∧ IntKind.i64.wrap ((↑g : Int) + (1 : Int)) = (↑g' : Int) ∧ True) ∧
 (True ∧
 True ∧
 True ∧
 True ∧
 (W (offTo takeLow w.inst g)).hi = (W (offTo takeLow w.inst g')).hi ∧
 (W (offTo takeLow w.inst g)).lo = (W (offTo takeLow w.inst g')).lo ∧ didTo takeLow w.inst g = didTo takeLow w.inst g' ∧ True) ∧
 supTo takeLow w.inst g = supTo takeLow w.inst g' ∧
 List.map lowArc (List.take g w.inst.arcs) ++ List.drop g w.inst.arcs = List.map lowArc (List.take g' w.inst.arcs) ++ List.drop g' w.inst.arcs ∧
 w.nodes = w.nodes ∧ w.arcs = w.arcs ∧ True) ∧
 ((x.low == (0 : Int)) = false →
 ((0 : Int) ≤ x.src ∧ x.src < (↑(supTo takeLow w.inst g).length : Int)) ∧
 x.src.toNat < (supTo takeLow w.inst g).length ∧
 ∀ (x_1 : Int),
 (supTo takeLow w.inst g)[x.src.toNat]? = some x_1 →
 ((0 : Int) ≤ x.src ∧ x.src < (↑(supTo takeLow w.inst g).length : Int)) ∧
 x.src.toNat < (supTo takeLow w.inst g).length ∧
 ((0 : Int) ≤ x.dst ∧ x.dst < (↑(low15_a1 w g x x_1).length : Int)) ∧
 x.dst.toNat < (low15_a1 w g x x_1).length ∧
 ∀ (x_2 : Int),
 (low15_a1 w g x x_1)[x.dst.toNat]? = some x_2 →
 ((0 : Int) ≤ x.dst ∧ x.dst < (↑(low15_a1 w g x x_1).length : Int)) ∧
 x.dst.toNat < (low15_a1 w g x x_1).length ∧
 (I64 x.low ∧ I64 x.cost) ∧
 ((W (offTo takeLow w.inst g)).ok ∧ (W (x.low * x.cost)).ok) ∧
 ((x.cap != (4611686018427387904 : Int)) = true →
 ((0 : Int) ≤ (↑g : Int) ∧
 (↑g : Int) < (↑(low15_a0 g w).length : Int)) ∧
 (↑g : Int).toNat < (low15_a0 g w).length ∧
 ∀ (x_3 : Arc),
 (low15_a0 g w)[(↑g : Int).toNat]? = some x_3 →
 ((0 : Int) ≤ (↑g : Int) ∧
 (↑g : Int) < (↑(low15_a0 g w).length : Int)) ∧
 (↑g : Int).toNat < (low15_a0 g w).length ∧
 ∀ (x_4 : Arc),
 (low15_a0 g w)[(↑g : Int).toNat]? = some x_4 →
 ((0 : Int) ≤ (↑g : Int) ∧
 (↑g : Int) <
 (↑(low15_a2 g w x_4 x_3 x).length :
 Int)) ∧
 (↑g : Int).toNat <
 (low15_a2 g w x_4 x_3 x).length ∧
 ∀ (x_5 : Arc),
 (low15_a2 g w x_4 x_3 x)[(↑g : Int).toNat]? =
 some x_5 →
 ∃ (g' : Nat),
 g' ≤ w.inst.arcs.length ∧
 w.inst.arcs.length - g' < w.inst.arcs.length - g ∧
 (low15_a3 w g g') ∧
 (True ∧
 True ∧
 True ∧
 True ∧
 (wplus (W (offTo takeLow w.inst g)) (W (x.low * x.cost))).hi =
 (W (offTo takeLow w.inst g')).hi ∧
 (wplus (W (offTo takeLow w.inst g)) (W (x.low * x.cost))).lo =
 (W (offTo takeLow w.inst g')).lo ∧
 true = didTo takeLow w.inst g' ∧ True) ∧
 (low15_a1 w g x x_1).set
 x.dst.toNat (IntKind.i64.wrap (x_2 + x.low)) =
 supTo takeLow w.inst g' ∧
 ((low15_a0 g w).set
 (↑g : Int).toNat
 { src := x_4.src, dst := x_4.dst, low := x_4.low, cap := IntKind.i64.wrap (x_3.cap - x.low), cost := x_4.cost : Arc }).set
 (↑g : Int).toNat
 { src := x_5.src, dst := x_5.dst, low := (0 : Int), cap := x_5.cap, cost := x_5.cost : Arc } =
 List.map lowArc (List.take g' w.inst.arcs) ++ List.drop g' w.inst.arcs ∧
 w.nodes = w.nodes ∧ w.arcs = w.arcs ∧ True) ∧
 ((x.cap != (4611686018427387904 : Int)) = false →
 ((0 : Int) ≤ (↑g : Int) ∧
 (↑g : Int) < (↑(low15_a0 g w).length : Int)) ∧
 (↑g : Int).toNat < (low15_a0 g w).length ∧
 ∀ (x_3 : Arc),
 (low15_a0 g w)[(↑g : Int).toNat]? = some x_3 →
 ∃ (g' : Nat),
 g' ≤ w.inst.arcs.length ∧
 w.inst.arcs.length - g' < w.inst.arcs.length - g ∧
 (low15_a3 w g g') ∧
 (True ∧
 True ∧
 True ∧
 True ∧
 (wplus (W (offTo takeLow w.inst g)) (W (x.low * x.cost))).hi = (W (offTo takeLow w.inst g')).hi ∧
 (wplus (W (offTo takeLow w.inst g)) (W (x.low * x.cost))).lo =
 (W (offTo takeLow w.inst g')).lo ∧
 true = didTo takeLow w.inst g' ∧ True) ∧
 (low15_a1 w g x x_1).set x.dst.toNat
 (IntKind.i64.wrap (x_2 + x.low)) =
 supTo takeLow w.inst g' ∧
 (low15_a0 g w).set (↑g : Int).toNat
 { src := x_3.src, dst := x_3.dst, low := (0 : Int), cap := x_3.cap, cost := x_3.cost : Arc } =
 List.map lowArc (List.take g' w.inst.arcs) ++ List.drop g' w.inst.arcs ∧
 w.nodes = w.nodes ∧ w.arcs = w.arcs ∧ True))) ∧
 (decide ((↑g : Int) < (↑w.inst.arcs.length : Int)) = false →
 (True ∧ True) ∧
 (True ∧
 True ∧
 True ∧
 True ∧
 (W (offTo takeLow w.inst g)).hi = (workLow w.inst w.nodes w.arcs).off.hi ∧
 (W (offTo takeLow w.inst g)).lo = (workLow w.inst w.nodes w.arcs).off.lo ∧ didTo takeLow w.inst g = (workLow w.inst w.nodes w.arcs).did ∧ True) ∧
 supTo takeLow w.inst g = (workLow w.inst w.nodes w.arcs).inst.sup ∧
 List.map lowArc (List.take g w.inst.arcs) ++ List.drop g w.inst.arcs = (workLow w.inst w.nodes w.arcs).inst.arcs ∧
 w.nodes = (workLow w.inst w.nodes w.arcs).nodes ∧ w.arcs = (workLow w.inst w.nodes w.arcs).arcs ∧ True)
theorem low15_q (w : WorkD) : low15_E0 w = FVcP TT low15_g (low15_I w) (low15_an w) Try.f48 [.ptr 0 0 0 0] [(0, .box true 122 [.row 1, .row 2, .row 3, .row 4, .int .i64 w.off.hi, .int .u64 w.off.lo, .bool w.did]), (1, .row true 2 (.ints .i64 w.inst.sup)), (2, .row true 24 (.arcs w.inst.arcs)), (3, .row true 4 (.bools w.nodes)), (4, .row true 4 (.bools w.arcs))] (low15_r w) := by kernel_rfl
theorem low15_E (w : WorkD) (hp : rightF w.inst = 0 ∧ w.off = W 0 ∧ w.did = false ∧ w.nodes = List.replicate w.inst.sup.length false ∧ w.arcs = List.replicate w.inst.arcs.length false) : FVc TT low15_g (low15_I w) (low15_an w) Try.f48 [.ptr 0 0 0 0] [(0, .box true 122 [.row 1, .row 2, .row 3, .row 4, .int .i64 w.off.hi, .int .u64 w.off.lo, .bool w.did]), (1, .row true 2 (.ints .i64 w.inst.sup)), (2, .row true 24 (.arcs w.inst.arcs)), (3, .row true 4 (.bools w.nodes)), (4, .row true 4 (.bools w.arcs))] (low15_r w) := by
  refine FVc.of (low15_E0 w) (low15_q w) ?_
  unfold low15_E0
  delta low15_a3 low15_a2 low15_a1 low15_a0
  obtain ⟨p1, p2, p3, p4, p5⟩ := hp
  have hin := (right_within p1).1
  have hlen := right_small p1
  have hz := to_zero takeLow w.inst
  simp only [eq_self, exists_const, forall_const, decide_eq_true_eq, decide_eq_false_iff_not, and_true, true_and, bne_iff_ne, ne_eq, bne_eq_false_iff_eq, Int.toNat_natCast, Bool.not_eq_true', Bool.not_eq_false', beq_iff_eq, beq_eq_false_iff_ne, nilEq_true]
  simp only [List.length_set, supTo_len, mapto_len]
  refine ⟨0, ⟨by omega, rfl, ⟨by rw [p2, hz.2.1], by rw [p2, hz.2.1], by rw [p3, hz.2.2]⟩, hz.1.symm, by simp⟩, fun g hg => ⟨fun h1 => ⟨by omega, by omega, fun x hx => ?_⟩, fun h1 => ?_⟩⟩
  · have hgl : g < w.inst.arcs.length := by omega
    rw [mapto_get hgl] at hx ⊢
    obtain ⟨ho, hb1, hb2⟩ := rightF_arc p1 (List.mem_of_getElem? hx)
    obtain ⟨o1, o2, o3, o4⟩ := okArc_iff.1 ho
    have hwi := supTo_within (small_low p1) hin g hg
    refine ⟨fun h2 => ?_, fun h2 => ⟨by omega, by omega, fun p hp => ⟨by omega, by omega, by omega, by omega, fun q hq => ⟨by omega, by omega, by unfold I64; omega, ⟨W_ok _, W_ok _⟩, ?_⟩⟩⟩⟩
    · have hf : takeLow x = none := by unfold takeLow; rw [if_pos h2]
      refine ⟨g + 1, by omega, by omega, by rw [w64 (by omega) (by omega)]; omega, ?_, ?_, mapto_stay hx (by unfold lowArc; rw [if_pos h2])⟩
      · rw [offTo_succ hx, didTo_succ hx, hf]; simp
      · rw [supTo_succ hx, hf]
    · have hf : takeLow x = some x.low := by unfold takeLow; rw [if_neg h2]
      have hfix := fix_step hwi (by omega) (by omega) (by omega) (by omega) hp hq
      have hnext : ∀ arcs' : List Arc, arcs' = (w.inst.arcs.take (g + 1)).map lowArc ++ w.inst.arcs.drop (g + 1) → ∃ g', g' ≤ w.inst.arcs.length ∧ w.inst.arcs.length - g' < w.inst.arcs.length - g ∧ IntKind.i64.wrap (↑g + 1) = (g' : Int) ∧ ((wplus (W (offTo takeLow w.inst g)) (W (x.low * x.cost))).hi = (W (offTo takeLow w.inst g')).hi ∧ (wplus (W (offTo takeLow w.inst g)) (W (x.low * x.cost))).lo = (W (offTo takeLow w.inst g')).lo ∧ true = didTo takeLow w.inst g') ∧ ((supTo takeLow w.inst g).set x.src.toNat (IntKind.i64.wrap (p - x.low))).set x.dst.toNat (IntKind.i64.wrap (q + x.low)) = supTo takeLow w.inst g' ∧ arcs' = (w.inst.arcs.take g').map lowArc ++ w.inst.arcs.drop g' := fun arcs' ha =>
        ⟨g + 1, by omega, by omega, by rw [w64 (by omega) (by omega)]; omega, by rw [offTo_succ hx, didTo_succ hx, hf, wplus_W]; simp, by rw [hfix, supTo_succ hx, hf], ha⟩
      have hlow : lowArc x = { x with low := 0, cap := if x.cap = inf then x.cap else x.cap - x.low } := by unfold lowArc; rw [if_neg h2]
      refine ⟨fun h3 => ⟨by omega, by omega, fun x3 h4 => ⟨by omega, by omega, fun x4 h5 => ⟨by omega, by omega, fun x5 h6 => hnext _ ?_⟩⟩⟩, fun h3 => ⟨by omega, by omega, fun x3 h4 => hnext _ ?_⟩⟩
      · rw [hx] at h4 h5
        cases h4; cases h5
        rw [List.getElem?_set_self (by rw [mapto_len]; exact hgl)] at h6
        cases h6
        rw [List.set_set]
        refine mapto_set hx ?_
        rw [hlow, if_neg (show ¬ x.cap = inf from h3)]
        dsimp only
        rw [w64 (by omega) (by omega)]
      · rw [hx] at h4
        cases h4
        refine mapto_set hx ?_
        rw [hlow, if_pos (show x.cap = inf from h3)]
  · have he := to_end takeLow w.inst (k := g) (by omega)
    rw [he.1, he.2.1, he.2.2, take_end (by omega), List.drop_of_length_le (by omega), List.append_nil]
    exact ⟨⟨rfl, rfl, rfl⟩, rfl, rfl, rfl, rfl⟩
theorem low15_ok : SpecOk Try.prog low15_n false (specOf false low15_fs) :=
  spec_ok' TT_ok (show GsOk Try.prog low15_g from gsOk_cons fix15_ok (gsOk_nil)) (by kernel_rfl) mixedOrders Try.func48 rfl rfl (by kernel_rfl) (n := 1) (by decide +kernel) (I := low15_IA) (fun _ _ => isOk_nil) (A := low15_A)
    (fun args h r hr => by
      unfold low15_fs at hr
      split at hr
      · rename_i w_h w_l w_d w_s w_a w_n w_c; cases hr; refine ⟨rfl, fun hp => ?_⟩; have hE := low15_E ⟨⟨w_s, w_a⟩, w_n, w_c, ⟨w_h, w_l⟩, w_d⟩ hp; exact hE
      · cases hr)
abbrev loop15_a0 (w : WorkD) (g : Nat) (x : Arc) (x_1 : Int) := ((supTo takeLoop w.inst g).set x.src.toNat (IntKind.i64.wrap (x_1 - x.low)))
abbrev loop15_a1 (w : WorkD) (g : Nat) (x : Arc) (x_1 : Int) := ((supTo takeLoop w.inst g).set x.src.toNat (IntKind.i64.wrap (x_1 - x.cap)))
abbrev loop15_a2 (w : WorkD) (g : Nat) (g' : Nat) := ((0 : Nat) = (0 : Nat) ∧
 True ∧
 (↑w.inst.arcs.length : Int) = (↑w.inst.arcs.length : Int) ∧
 IntKind.i64.wrap ((↑g : Int) + (1 : Int)) = (↑g' : Int) ∧ True)
abbrev loop15_a3 (x : Arc) (w : WorkD) (g : Nat) := ((0 : Int) ≤ x.src ∧ x.src < (↑(supTo takeLoop w.inst g).length : Int))
abbrev loop15_a4 (w : WorkD) (g : Nat) (x : Arc) (g' : Nat) := (True ∧
 True ∧
 True ∧
 True ∧
 (wplus (W (offTo takeLoop w.inst g)) (W (x.low * x.cost))).hi =
 (W (offTo takeLoop w.inst g')).hi ∧
 (wplus (W (offTo takeLoop w.inst g)) (W (x.low * x.cost))).lo =
 (W (offTo takeLoop w.inst g')).lo ∧
 true = didTo takeLoop w.inst g' ∧ True)
abbrev loop15_a5 (w : WorkD) (g : Nat) (x : Arc) (g' : Nat) := (True ∧
 True ∧
 True ∧
 True ∧
 (wplus (W (offTo takeLoop w.inst g)) (W (x.cap * x.cost))).hi =
 (W (offTo takeLoop w.inst g')).hi ∧
 (wplus (W (offTo takeLoop w.inst g)) (W (x.cap * x.cost))).lo =
 (W (offTo takeLoop w.inst g')).lo ∧
 true = didTo takeLoop w.inst g' ∧ True)
abbrev loop15_a6 (w : WorkD) (g : Nat) (g' : Nat) := ((0 : Nat) = (0 : Nat) ∧
 True ∧ (↑w.inst.arcs.length : Int) = (↑w.inst.arcs.length : Int) ∧ IntKind.i64.wrap ((↑g : Int) + (1 : Int)) = (↑g' : Int) ∧ True)
def loop15_E0 (w : WorkD) : Prop :=
      ∃ (g0 : Nat),
 (g0 ≤ w.inst.arcs.length ∧
 ((0 : Nat) = (0 : Nat) ∧ True ∧ (↑w.inst.arcs.length : Int) = (↑w.inst.arcs.length : Int) ∧ (0 : Int) = (↑g0 : Int) ∧ True) ∧
 (True ∧ True ∧ True ∧ True ∧ w.off.hi = (W (offTo takeLoop w.inst g0)).hi ∧ w.off.lo = (W (offTo takeLoop w.inst g0)).lo ∧ w.did = didTo takeLoop w.inst g0 ∧ True) ∧
 w.inst.sup = supTo takeLoop w.inst g0 ∧ w.inst.arcs = w.inst.arcs ∧ w.nodes = w.nodes ∧ w.arcs = markTo takeLoop w.inst g0 ∧ True) ∧
 ∀ (g : Nat),
 g ≤ w.inst.arcs.length →
 (decide ((↑g : Int) < (↑w.inst.arcs.length : Int)) = true →
 ((0 : Int) ≤ (↑g : Int) ∧ (↑g : Int) < (↑w.inst.arcs.length : Int)) ∧
 (↑g : Int).toNat < w.inst.arcs.length ∧
 ∀ (x : Arc),
 w.inst.arcs[(↑g : Int).toNat]? = some x →
 ((x.src != x.dst) = true →
 ∃ (g' : Nat),
 g' ≤ w.inst.arcs.length ∧
 w.inst.arcs.length - g' < w.inst.arcs.length - g ∧
 (loop15_a6 w g g') ∧
 (True ∧
 True ∧
 True ∧
 True ∧
 (W (offTo takeLoop w.inst g)).hi = (W (offTo takeLoop w.inst g')).hi ∧
 (W (offTo takeLoop w.inst g)).lo = (W (offTo takeLoop w.inst g')).lo ∧ didTo takeLoop w.inst g = didTo takeLoop w.inst g' ∧ True) ∧
 supTo takeLoop w.inst g = supTo takeLoop w.inst g' ∧
 w.inst.arcs = w.inst.arcs ∧ w.nodes = w.nodes ∧ markTo takeLoop w.inst g = markTo takeLoop w.inst g' ∧ True) ∧
 ((x.src != x.dst) = false →
 (decide (x.cost < (0 : Int)) = true →
 ((x.cap == (4611686018427387904 : Int)) = true →
 ∃ (g' : Nat),
 g' ≤ w.inst.arcs.length ∧
 w.inst.arcs.length - g' < w.inst.arcs.length - g ∧
 (loop15_a6 w g g') ∧
 (True ∧
 True ∧
 True ∧
 True ∧
 (W (offTo takeLoop w.inst g)).hi = (W (offTo takeLoop w.inst g')).hi ∧
 (W (offTo takeLoop w.inst g)).lo = (W (offTo takeLoop w.inst g')).lo ∧
 didTo takeLoop w.inst g = didTo takeLoop w.inst g' ∧ True) ∧
 supTo takeLoop w.inst g = supTo takeLoop w.inst g' ∧
 w.inst.arcs = w.inst.arcs ∧ w.nodes = w.nodes ∧ markTo takeLoop w.inst g = markTo takeLoop w.inst g' ∧ True) ∧
 ((x.cap == (4611686018427387904 : Int)) = false →
 ((0 : Int) ≤ (↑g : Int) ∧ (↑g : Int) < (↑(markTo takeLoop w.inst g).length : Int)) ∧
 (↑g : Int).toNat < (markTo takeLoop w.inst g).length ∧
 (decide (x.cost ≥ (0 : Int)) = true →
 (loop15_a3 x w g) ∧
 x.src.toNat < (supTo takeLoop w.inst g).length ∧
 ∀ (x_1 : Int),
 (supTo takeLoop w.inst g)[x.src.toNat]? = some x_1 →
 (loop15_a3 x w g) ∧
 x.src.toNat < (supTo takeLoop w.inst g).length ∧
 ((0 : Int) ≤ x.dst ∧ x.dst < (↑(loop15_a0 w g x x_1).length : Int)) ∧
 x.dst.toNat < (loop15_a0 w g x x_1).length ∧
 ∀ (x_2 : Int),
 (loop15_a0 w g x x_1)[x.dst.toNat]? = some x_2 →
 ((0 : Int) ≤ x.dst ∧
 x.dst < (↑(loop15_a0 w g x x_1).length : Int)) ∧
 x.dst.toNat < (loop15_a0 w g x x_1).length ∧
 (I64 x.low ∧ I64 x.cost) ∧
 ((W (offTo takeLoop w.inst g)).ok ∧ (W (x.low * x.cost)).ok) ∧
 ∃ (g' : Nat),
 g' ≤ w.inst.arcs.length ∧
 w.inst.arcs.length - g' < w.inst.arcs.length - g ∧
 (loop15_a2 w g g') ∧
 (loop15_a4 w g x g') ∧
 (loop15_a0 w g x x_1).set x.dst.toNat
 (IntKind.i64.wrap (x_2 + x.low)) =
 supTo takeLoop w.inst g' ∧
 w.inst.arcs = w.inst.arcs ∧
 w.nodes = w.nodes ∧
 (markTo takeLoop w.inst g).set (↑g : Int).toNat true = markTo takeLoop w.inst g' ∧ True) ∧
 (decide (x.cost ≥ (0 : Int)) = false →
 (loop15_a3 x w g) ∧
 x.src.toNat < (supTo takeLoop w.inst g).length ∧
 ∀ (x_1 : Int),
 (supTo takeLoop w.inst g)[x.src.toNat]? = some x_1 →
 (loop15_a3 x w g) ∧
 x.src.toNat < (supTo takeLoop w.inst g).length ∧
 ((0 : Int) ≤ x.dst ∧ x.dst < (↑(loop15_a1 w g x x_1).length : Int)) ∧
 x.dst.toNat < (loop15_a1 w g x x_1).length ∧
 ∀ (x_2 : Int),
 (loop15_a1 w g x x_1)[x.dst.toNat]? = some x_2 →
 ((0 : Int) ≤ x.dst ∧
 x.dst < (↑(loop15_a1 w g x x_1).length : Int)) ∧
 x.dst.toNat < (loop15_a1 w g x x_1).length ∧
 (I64 x.cap ∧ I64 x.cost) ∧
 ((W (offTo takeLoop w.inst g)).ok ∧ (W (x.cap * x.cost)).ok) ∧
 ∃ (g' : Nat),
 g' ≤ w.inst.arcs.length ∧
 w.inst.arcs.length - g' < w.inst.arcs.length - g ∧
 (loop15_a2 w g g') ∧
 (loop15_a5 w g x g') ∧
 (loop15_a1 w g x x_1).set x.dst.toNat
 (IntKind.i64.wrap (x_2 + x.cap)) =
 supTo takeLoop w.inst g' ∧
 w.inst.arcs = w.inst.arcs ∧
 w.nodes = w.nodes ∧
 (markTo takeLoop w.inst g).set (↑g : Int).toNat true = markTo takeLoop w.inst g' ∧ True))) ∧
 (decide (x.cost < (0 : Int)) = false →
 ((0 : Int) ≤ (↑g : Int) ∧ (↑g : Int) < (↑(markTo takeLoop w.inst g).length : Int)) ∧
 (↑g : Int).toNat < (markTo takeLoop w.inst g).length ∧
 (decide (x.cost ≥ (0 : Int)) = true →
 (loop15_a3 x w g) ∧
 x.src.toNat < (supTo takeLoop w.inst g).length ∧
 ∀ (x_1 : Int),
 (supTo takeLoop w.inst g)[x.src.toNat]? = some x_1 →
 (loop15_a3 x w g) ∧
 x.src.toNat < (supTo takeLoop w.inst g).length ∧
 ((0 : Int) ≤ x.dst ∧ x.dst < (↑(loop15_a0 w g x x_1).length : Int)) ∧
 x.dst.toNat < (loop15_a0 w g x x_1).length ∧
 ∀ (x_2 : Int),
 (loop15_a0 w g x x_1)[x.dst.toNat]? = some x_2 →
 ((0 : Int) ≤ x.dst ∧ x.dst < (↑(loop15_a0 w g x x_1).length : Int)) ∧
 x.dst.toNat < (loop15_a0 w g x x_1).length ∧
 (I64 x.low ∧ I64 x.cost) ∧
 ((W (offTo takeLoop w.inst g)).ok ∧ (W (x.low * x.cost)).ok) ∧
 ∃ (g' : Nat),
 g' ≤ w.inst.arcs.length ∧
 w.inst.arcs.length - g' < w.inst.arcs.length - g ∧
 (loop15_a2 w g g') ∧
 (loop15_a4 w g x g') ∧
 (loop15_a0 w g x x_1).set x.dst.toNat
 (IntKind.i64.wrap (x_2 + x.low)) =
 supTo takeLoop w.inst g' ∧
 w.inst.arcs = w.inst.arcs ∧
 w.nodes = w.nodes ∧
 (markTo takeLoop w.inst g).set (↑g : Int).toNat true = markTo takeLoop w.inst g' ∧ True) ∧
 (decide (x.cost ≥ (0 : Int)) = false →
 (loop15_a3 x w g) ∧
 x.src.toNat < (supTo takeLoop w.inst g).length ∧
 ∀ (x_1 : Int),
 (supTo takeLoop w.inst g)[x.src.toNat]? = some x_1 →
 (loop15_a3 x w g) ∧
 x.src.toNat < (supTo takeLoop w.inst g).length ∧
 ((0 : Int) ≤ x.dst ∧ x.dst < (↑(loop15_a1 w g x x_1).length : Int)) ∧
 x.dst.toNat < (loop15_a1 w g x x_1).length ∧
 ∀ (x_2 : Int),
 (loop15_a1 w g x x_1)[x.dst.toNat]? = some x_2 →
 ((0 : Int) ≤ x.dst ∧ x.dst < (↑(loop15_a1 w g x x_1).length : Int)) ∧
 x.dst.toNat < (loop15_a1 w g x x_1).length ∧
 (I64 x.cap ∧ I64 x.cost) ∧
 ((W (offTo takeLoop w.inst g)).ok ∧ (W (x.cap * x.cost)).ok) ∧
 ∃ (g' : Nat),
 g' ≤ w.inst.arcs.length ∧
 w.inst.arcs.length - g' < w.inst.arcs.length - g ∧
 (loop15_a2 w g g') ∧
 (loop15_a5 w g x g') ∧
 (loop15_a1 w g x x_1).set x.dst.toNat
 (IntKind.i64.wrap (x_2 + x.cap)) =
 supTo takeLoop w.inst g' ∧
 w.inst.arcs = w.inst.arcs ∧
 w.nodes = w.nodes ∧
 (markTo takeLoop w.inst g).set (↑g : Int).toNat true = markTo takeLoop w.inst g' ∧ True)))) ∧
 (decide ((↑g : Int) < (↑w.inst.arcs.length : Int)) = false →
 (True ∧ True) ∧
 (True ∧
 True ∧
 True ∧
 True ∧
 (W (offTo takeLoop w.inst g)).hi = (workTake takeLoop w.inst w.nodes).off.hi ∧
 (W (offTo takeLoop w.inst g)).lo = (workTake takeLoop w.inst w.nodes).off.lo ∧ didTo takeLoop w.inst g = (workTake takeLoop w.inst w.nodes).did ∧ True) ∧
 supTo takeLoop w.inst g = (workTake takeLoop w.inst w.nodes).inst.sup ∧
 w.inst.arcs = (workTake takeLoop w.inst w.nodes).inst.arcs ∧
 w.nodes = (workTake takeLoop w.inst w.nodes).nodes ∧ markTo takeLoop w.inst g = (workTake takeLoop w.inst w.nodes).arcs ∧ True)
theorem loop15_q (w : WorkD) : loop15_E0 w = FVcP TT loop15_g (loop15_I w) (loop15_an w) Try.f67 [.ptr 0 0 0 0] [(0, .box true 122 [.row 1, .row 2, .row 3, .row 4, .int .i64 w.off.hi, .int .u64 w.off.lo, .bool w.did]), (1, .row true 2 (.ints .i64 w.inst.sup)), (2, .row true 24 (.arcs w.inst.arcs)), (3, .row true 4 (.bools w.nodes)), (4, .row true 4 (.bools w.arcs))] (loop15_r w) := by kernel_rfl
theorem loop15_E (w : WorkD) (hp : rightF w.inst = 0 ∧ w.off = W 0 ∧ w.did = false ∧ w.nodes = List.replicate w.inst.sup.length false ∧ w.arcs = List.replicate w.inst.arcs.length false) : FVc TT loop15_g (loop15_I w) (loop15_an w) Try.f67 [.ptr 0 0 0 0] [(0, .box true 122 [.row 1, .row 2, .row 3, .row 4, .int .i64 w.off.hi, .int .u64 w.off.lo, .bool w.did]), (1, .row true 2 (.ints .i64 w.inst.sup)), (2, .row true 24 (.arcs w.inst.arcs)), (3, .row true 4 (.bools w.nodes)), (4, .row true 4 (.bools w.arcs))] (loop15_r w) := by
  refine FVc.of (loop15_E0 w) (loop15_q w) ?_
  unfold loop15_E0
  delta loop15_a6 loop15_a5 loop15_a4 loop15_a3 loop15_a2 loop15_a1 loop15_a0
  obtain ⟨p1, p2, p3, p4, p5⟩ := hp
  have hin := (right_within p1).1
  have hlen := right_small p1
  have hz := to_zero takeLoop w.inst
  have hm : ∀ k, k ≤ w.inst.arcs.length → (markTo takeLoop w.inst k).length = w.inst.arcs.length := fun k hk => markTo_len hk
  simp only [eq_self, exists_const, forall_const, decide_eq_true_eq, decide_eq_false_iff_not, and_true, true_and, bne_iff_ne, ne_eq, bne_eq_false_iff_eq, Int.toNat_natCast, Bool.not_eq_true', Bool.not_eq_false', beq_iff_eq, beq_eq_false_iff_ne, nilEq_true]
  simp only [List.length_set, supTo_len]
  refine ⟨0, ⟨by omega, rfl, ⟨by rw [p2, hz.2.1], by rw [p2, hz.2.1], by rw [p3, hz.2.2]⟩, hz.1.symm, by rw [p5, markTo_zero]⟩, fun g hg => ⟨fun h1 => ⟨by omega, by omega, fun x hx => ?_⟩, fun h1 => ?_⟩⟩
  rw [hm g hg]
  rotate_left
  · have he := to_end takeLoop w.inst (k := g) (by omega)
    rw [he.1, he.2.1, he.2.2, markTo_end _ _ (by omega)]
    exact ⟨⟨rfl, rfl, rfl⟩, rfl, rfl, rfl, rfl⟩
  obtain ⟨ho, hb1, hb2⟩ := rightF_arc p1 (List.mem_of_getElem? hx)
  obtain ⟨o1, o2, o3, o4⟩ := okArc_iff.1 ho
  have hwi := supTo_within (small_loop p1) hin g hg
  refine ⟨fun h2 => ?_, fun h2 => ⟨fun h3 => ⟨fun h4 => ?_, fun h4 => ⟨by omega, by omega, fun h5 => by omega, fun h5 => ?_⟩⟩, fun h3 => ⟨by omega, by omega, fun h5 => ?_, fun h5 => by omega⟩⟩⟩
  · have hf : takeLoop x = none := by unfold takeLoop; rw [if_pos (.inl h2)]
    exact ⟨g + 1, by omega, by omega, by rw [w64 (by omega) (by omega)]; omega, by rw [offTo_succ hx, didTo_succ hx, hf]; simp, by rw [supTo_succ hx, hf], (markTo_stay hx hf).symm⟩
  · have hf : takeLoop x = none := by unfold takeLoop; rw [if_pos (.inr ⟨h3, h4⟩)]
    exact ⟨g + 1, by omega, by omega, by rw [w64 (by omega) (by omega)]; omega, by rw [offTo_succ hx, didTo_succ hx, hf]; simp, by rw [supTo_succ hx, hf], (markTo_stay hx hf).symm⟩
  · have hf : takeLoop x = some x.cap := by unfold takeLoop inf; rw [if_neg (by omega), if_neg (by omega)]
    exact ⟨by omega, by omega, fun p hp => ⟨by omega, by omega, by omega, by omega, fun q hq => ⟨by omega, by omega, by unfold I64; omega, ⟨W_ok _, W_ok _⟩, g + 1, by omega, by omega, by rw [w64 (by omega) (by omega)]; omega, by rw [offTo_succ hx, didTo_succ hx, hf, wplus_W]; simp, by rw [fix_step hwi (by omega) (by omega) (by omega) (by omega) hp hq, supTo_succ hx, hf], by rw [markTo_succ hx, hf]; rfl⟩⟩⟩
  · have hf : takeLoop x = some x.low := by unfold takeLoop inf; rw [if_neg (by omega), if_pos (by omega)]
    exact ⟨by omega, by omega, fun p hp => ⟨by omega, by omega, by omega, by omega, fun q hq => ⟨by omega, by omega, by unfold I64; omega, ⟨W_ok _, W_ok _⟩, g + 1, by omega, by omega, by rw [w64 (by omega) (by omega)]; omega, by rw [offTo_succ hx, didTo_succ hx, hf, wplus_W]; simp, by rw [fix_step hwi (by omega) (by omega) (by omega) (by omega) hp hq, supTo_succ hx, hf], by rw [markTo_succ hx, hf]; rfl⟩⟩⟩
theorem loop15_ok : SpecOk Try.prog loop15_n false (specOf false loop15_fs) :=
  spec_ok' TT_ok (show GsOk Try.prog loop15_g from gsOk_cons fix15_ok (gsOk_nil)) (by kernel_rfl) mixedOrders Try.func67 rfl rfl (by kernel_rfl) (n := 1) (by decide +kernel) (I := loop15_IA) (fun _ _ => isOk_nil) (A := loop15_A)
    (fun args h r hr => by
      unfold loop15_fs at hr
      split at hr
      · rename_i w_h w_l w_d w_s w_a w_n w_c; cases hr; refine ⟨rfl, fun hp => ?_⟩; have hE := loop15_E ⟨⟨w_s, w_a⟩, w_n, w_c, ⟨w_h, w_l⟩, w_d⟩ hp; exact hE
      · cases hr)
abbrev fixed15_a0 (w : WorkD) (g : Nat) (x : Arc) (x_1 : Int) := ((supTo takeFix w.inst g).set x.src.toNat (IntKind.i64.wrap (x_1 - x.low)))
def fixed15_E0 (w : WorkD) : Prop :=
      ∃ (g0 : Nat),
 (g0 ≤ w.inst.arcs.length ∧
 ((0 : Nat) = (0 : Nat) ∧ True ∧ (↑w.inst.arcs.length : Int) = (↑w.inst.arcs.length : Int) ∧ (0 : Int) = (↑g0 : Int) ∧ True) ∧
 (True ∧ True ∧ True ∧ True ∧ w.off.hi = (W (offTo takeFix w.inst g0)).hi ∧ w.off.lo = (W (offTo takeFix w.inst g0)).lo ∧ w.did = didTo takeFix w.inst g0 ∧ True) ∧
 w.inst.sup = supTo takeFix w.inst g0 ∧ w.inst.arcs = w.inst.arcs ∧ w.nodes = w.nodes ∧ w.arcs = markTo takeFix w.inst g0 ∧ True) ∧
 ∀ (g : Nat),
 g ≤ w.inst.arcs.length →
 (decide ((↑g : Int) < (↑w.inst.arcs.length : Int)) = true →
 ((0 : Int) ≤ (↑g : Int) ∧ (↑g : Int) < (↑w.inst.arcs.length : Int)) ∧
 (↑g : Int).toNat < w.inst.arcs.length ∧
 ∀ (x : Arc),
 w.inst.arcs[(↑g : Int).toNat]? = some x →
 ((x.low != x.cap) = true →
 ∃ (g' : Nat),
 g' ≤ w.inst.arcs.length ∧
 w.inst.arcs.length - g' < w.inst.arcs.length - g ∧
 ((0 : Nat) = (0 : Nat) ∧
 True ∧ (↑w.inst.arcs.length : Int) = (↑w.inst.arcs.length : Int) ∧ IntKind.i64.wrap ((↑g : Int) + (1 : Int)) = (↑g' : Int) ∧ True) ∧
 (True ∧
 True ∧
 True ∧
 True ∧
 (W (offTo takeFix w.inst g)).hi = (W (offTo takeFix w.inst g')).hi ∧
 (W (offTo takeFix w.inst g)).lo = (W (offTo takeFix w.inst g')).lo ∧ didTo takeFix w.inst g = didTo takeFix w.inst g' ∧ True) ∧
 supTo takeFix w.inst g = supTo takeFix w.inst g' ∧
 w.inst.arcs = w.inst.arcs ∧ w.nodes = w.nodes ∧ markTo takeFix w.inst g = markTo takeFix w.inst g' ∧ True) ∧
 ((x.low != x.cap) = false →
 ((0 : Int) ≤ (↑g : Int) ∧ (↑g : Int) < (↑(markTo takeFix w.inst g).length : Int)) ∧
 (↑g : Int).toNat < (markTo takeFix w.inst g).length ∧
 ((0 : Int) ≤ x.src ∧ x.src < (↑(supTo takeFix w.inst g).length : Int)) ∧
 x.src.toNat < (supTo takeFix w.inst g).length ∧
 ∀ (x_1 : Int),
 (supTo takeFix w.inst g)[x.src.toNat]? = some x_1 →
 ((0 : Int) ≤ x.src ∧ x.src < (↑(supTo takeFix w.inst g).length : Int)) ∧
 x.src.toNat < (supTo takeFix w.inst g).length ∧
 ((0 : Int) ≤ x.dst ∧ x.dst < (↑(fixed15_a0 w g x x_1).length : Int)) ∧
 x.dst.toNat < (fixed15_a0 w g x x_1).length ∧
 ∀ (x_2 : Int),
 (fixed15_a0 w g x x_1)[x.dst.toNat]? = some x_2 →
 ((0 : Int) ≤ x.dst ∧ x.dst < (↑(fixed15_a0 w g x x_1).length : Int)) ∧
 x.dst.toNat < (fixed15_a0 w g x x_1).length ∧
 (I64 x.low ∧ I64 x.cost) ∧
 ((W (offTo takeFix w.inst g)).ok ∧ (W (x.low * x.cost)).ok) ∧
 ∃ (g' : Nat),
 g' ≤ w.inst.arcs.length ∧
 w.inst.arcs.length - g' < w.inst.arcs.length - g ∧
 ((0 : Nat) = (0 : Nat) ∧
 True ∧
 (↑w.inst.arcs.length : Int) = (↑w.inst.arcs.length : Int) ∧
 IntKind.i64.wrap ((↑g : Int) + (1 : Int)) = (↑g' : Int) ∧ True) ∧
 (True ∧
 True ∧
 True ∧
 True ∧
 (wplus (W (offTo takeFix w.inst g)) (W (x.low * x.cost))).hi = (W (offTo takeFix w.inst g')).hi ∧
 (wplus (W (offTo takeFix w.inst g)) (W (x.low * x.cost))).lo = (W (offTo takeFix w.inst g')).lo ∧
 true = didTo takeFix w.inst g' ∧ True) ∧
 (fixed15_a0 w g x x_1).set x.dst.toNat
 (IntKind.i64.wrap (x_2 + x.low)) =
 supTo takeFix w.inst g' ∧
 w.inst.arcs = w.inst.arcs ∧
 w.nodes = w.nodes ∧ (markTo takeFix w.inst g).set (↑g : Int).toNat true = markTo takeFix w.inst g' ∧ True)) ∧
 (decide ((↑g : Int) < (↑w.inst.arcs.length : Int)) = false →
 (True ∧ True) ∧
 (True ∧
 True ∧
 True ∧
 True ∧
 (W (offTo takeFix w.inst g)).hi = (workTake takeFix w.inst w.nodes).off.hi ∧
 (W (offTo takeFix w.inst g)).lo = (workTake takeFix w.inst w.nodes).off.lo ∧ didTo takeFix w.inst g = (workTake takeFix w.inst w.nodes).did ∧ True) ∧
 supTo takeFix w.inst g = (workTake takeFix w.inst w.nodes).inst.sup ∧
 w.inst.arcs = (workTake takeFix w.inst w.nodes).inst.arcs ∧
 w.nodes = (workTake takeFix w.inst w.nodes).nodes ∧ markTo takeFix w.inst g = (workTake takeFix w.inst w.nodes).arcs ∧ True)
theorem fixed15_q (w : WorkD) : fixed15_E0 w = FVcP TT fixed15_g (fixed15_I w) (fixed15_an w) Try.f50 [.ptr 0 0 0 0] [(0, .box true 122 [.row 1, .row 2, .row 3, .row 4, .int .i64 w.off.hi, .int .u64 w.off.lo, .bool w.did]), (1, .row true 2 (.ints .i64 w.inst.sup)), (2, .row true 24 (.arcs w.inst.arcs)), (3, .row true 4 (.bools w.nodes)), (4, .row true 4 (.bools w.arcs))] (fixed15_r w) := by kernel_rfl
theorem fixed15_E (w : WorkD) (hp : rightF w.inst = 0 ∧ w.off = W 0 ∧ w.did = false ∧ w.nodes = List.replicate w.inst.sup.length false ∧ w.arcs = List.replicate w.inst.arcs.length false) : FVc TT fixed15_g (fixed15_I w) (fixed15_an w) Try.f50 [.ptr 0 0 0 0] [(0, .box true 122 [.row 1, .row 2, .row 3, .row 4, .int .i64 w.off.hi, .int .u64 w.off.lo, .bool w.did]), (1, .row true 2 (.ints .i64 w.inst.sup)), (2, .row true 24 (.arcs w.inst.arcs)), (3, .row true 4 (.bools w.nodes)), (4, .row true 4 (.bools w.arcs))] (fixed15_r w) := by
  refine FVc.of (fixed15_E0 w) (fixed15_q w) ?_
  unfold fixed15_E0
  delta fixed15_a0
  obtain ⟨p1, p2, p3, p4, p5⟩ := hp
  have hin := (right_within p1).1
  have hlen := right_small p1
  have hz := to_zero takeFix w.inst
  have hm : ∀ k, k ≤ w.inst.arcs.length → (markTo takeFix w.inst k).length = w.inst.arcs.length := fun k hk => markTo_len hk
  simp only [eq_self, exists_const, forall_const, decide_eq_true_eq, decide_eq_false_iff_not, and_true, true_and, bne_iff_ne, ne_eq, bne_eq_false_iff_eq, Int.toNat_natCast, Bool.not_eq_true', Bool.not_eq_false', beq_iff_eq, beq_eq_false_iff_ne, nilEq_true]
  simp only [List.length_set, supTo_len]
  refine ⟨0, ⟨by omega, rfl, ⟨by rw [p2, hz.2.1], by rw [p2, hz.2.1], by rw [p3, hz.2.2]⟩, hz.1.symm, by rw [p5, markTo_zero]⟩, fun g hg => ⟨fun h1 => ⟨by omega, by omega, fun x hx => ?_⟩, fun h1 => ?_⟩⟩
  rw [hm g hg]
  rotate_left
  · have he := to_end takeFix w.inst (k := g) (by omega)
    rw [he.1, he.2.1, he.2.2, markTo_end _ _ (by omega)]
    exact ⟨⟨rfl, rfl, rfl⟩, rfl, rfl, rfl, rfl⟩
  obtain ⟨ho, hb1, hb2⟩ := rightF_arc p1 (List.mem_of_getElem? hx)
  obtain ⟨o1, o2, o3, o4⟩ := okArc_iff.1 ho
  have hwi := supTo_within (small_fix p1) hin g hg
  refine ⟨fun h2 => ?_, fun h2 => ⟨by omega, by omega, ?_⟩⟩
  · have hf : takeFix x = none := by unfold takeFix; rw [if_neg h2]
    exact ⟨g + 1, by omega, by omega, by rw [w64 (by omega) (by omega)]; omega, by rw [offTo_succ hx, didTo_succ hx, hf]; simp, by rw [supTo_succ hx, hf], (markTo_stay hx hf).symm⟩
  · have hf : takeFix x = some x.low := by unfold takeFix; rw [if_pos h2]
    exact ⟨by omega, by omega, fun p hp => ⟨by omega, by omega, by omega, by omega, fun q hq => ⟨by omega, by omega, by unfold I64; omega, ⟨W_ok _, W_ok _⟩, g + 1, by omega, by omega, by rw [w64 (by omega) (by omega)]; omega, by rw [offTo_succ hx, didTo_succ hx, hf, wplus_W]; simp, by rw [fix_step hwi (by omega) (by omega) (by omega) (by omega) hp hq, supTo_succ hx, hf], by rw [markTo_succ hx, hf]; rfl⟩⟩⟩
theorem fixed15_ok : SpecOk Try.prog fixed15_n false (specOf false fixed15_fs) :=
  spec_ok' TT_ok (show GsOk Try.prog fixed15_g from gsOk_cons fix15_ok (gsOk_nil)) (by kernel_rfl) mixedOrders Try.func50 rfl rfl (by kernel_rfl) (n := 1) (by decide +kernel) (I := fixed15_IA) (fun _ _ => isOk_nil) (A := fixed15_A)
    (fun args h r hr => by
      unfold fixed15_fs at hr
      split at hr
      · rename_i w_h w_l w_d w_s w_a w_n w_c; cases hr; refine ⟨rfl, fun hp => ?_⟩; have hE := fixed15_E ⟨⟨w_s, w_a⟩, w_n, w_c, ⟨w_h, w_l⟩, w_d⟩ hp; exact hE
      · cases hr)
abbrev lone15_a0 (w : WorkD) (g : Nat) (g' : Nat) := ((0 : Nat) = (0 : Nat) ∧
 True ∧
 True ∧
 (↑w.inst.sup.length : Int) = (↑w.inst.sup.length : Int) ∧
 IntKind.i64.wrap ((↑g : Int) + (1 : Int)) = (↑g' : Int) ∧ True)
def lone15_E0 (w : WorkD) : Prop :=
      ((↑w.inst.sup.length : Int) = (↑w.inst.sup.length : Int) ∧ (0 : Int) ≤ (↑w.inst.sup.length : Int) ∧ (↑w.inst.sup.length : Int) ≤ (1000000000 : Int)) ∧
 ∃ (g0 : Nat),
 (g0 ≤ w.inst.arcs.length ∧
 ((0 : Nat) = (0 : Nat) ∧ True ∧ True ∧ (↑w.inst.arcs.length : Int) = (↑w.inst.arcs.length : Int) ∧ (0 : Int) = (↑g0 : Int) ∧ True) ∧
 List.replicate (↑w.inst.sup.length : Int).toNat false = touchTo w.inst g0 ∧
 (True ∧ True ∧ True ∧ True ∧ w.off.hi = w.off.hi ∧ w.off.lo = w.off.lo ∧ w.did = w.did ∧ True) ∧
 w.inst.sup = w.inst.sup ∧ w.inst.arcs = w.inst.arcs ∧ w.nodes = w.nodes ∧ w.arcs = w.arcs ∧ True) ∧
 ∀ (g : Nat),
 g ≤ w.inst.arcs.length →
 (decide ((↑g : Int) < (↑w.inst.arcs.length : Int)) = true →
 ((0 : Int) ≤ (↑g : Int) ∧ (↑g : Int) < (↑w.inst.arcs.length : Int)) ∧
 (↑g : Int).toNat < w.inst.arcs.length ∧
 ∀ (x : Arc),
 w.inst.arcs[(↑g : Int).toNat]? = some x →
 ((0 : Int) ≤ x.src ∧ x.src < (↑(touchTo w.inst g).length : Int)) ∧
 x.src.toNat < (touchTo w.inst g).length ∧
 ((0 : Int) ≤ x.dst ∧ x.dst < (↑((touchTo w.inst g).set x.src.toNat true).length : Int)) ∧
 x.dst.toNat < ((touchTo w.inst g).set x.src.toNat true).length ∧
 ∃ (g' : Nat),
 g' ≤ w.inst.arcs.length ∧
 w.inst.arcs.length - g' < w.inst.arcs.length - g ∧
 ((0 : Nat) = (0 : Nat) ∧
 True ∧ True ∧ (↑w.inst.arcs.length : Int) = (↑w.inst.arcs.length : Int) ∧ IntKind.i64.wrap ((↑g : Int) + (1 : Int)) = (↑g' : Int) ∧ True) ∧
 ((touchTo w.inst g).set x.src.toNat true).set x.dst.toNat true = touchTo w.inst g' ∧
 (True ∧ True ∧ True ∧ True ∧ w.off.hi = w.off.hi ∧ w.off.lo = w.off.lo ∧ w.did = w.did ∧ True) ∧
 w.inst.sup = w.inst.sup ∧ w.inst.arcs = w.inst.arcs ∧ w.nodes = w.nodes ∧ w.arcs = w.arcs ∧ True) ∧
 (decide ((↑g : Int) < (↑w.inst.arcs.length : Int)) = false →
 ∃ (g0 : Nat),
 (g0 ≤ w.inst.sup.length ∧
 ((0 : Nat) = (0 : Nat) ∧ True ∧ True ∧ (↑w.inst.sup.length : Int) = (↑w.inst.sup.length : Int) ∧ (0 : Int) = (↑g0 : Int) ∧ True) ∧
 touchTo w.inst g = List.map (touchF w.inst.arcs) (List.range w.inst.sup.length) ∧
 (True ∧ True ∧ True ∧ True ∧ w.off.hi = w.off.hi ∧ w.off.lo = w.off.lo ∧ w.did = (List.map (loneAt w.inst) (List.range g0)).any id ∧ True) ∧
 w.inst.sup = w.inst.sup ∧ w.inst.arcs = w.inst.arcs ∧ w.nodes = loneTo w.inst g0 ∧ w.arcs = w.arcs ∧ True) ∧
 ∀ (g : Nat),
 g ≤ w.inst.sup.length →
 (decide ((↑g : Int) < (↑w.inst.sup.length : Int)) = true →
 ((0 : Int) ≤ (↑g : Int) ∧ (↑g : Int) < (↑w.inst.sup.length : Int)) ∧
 (↑g : Int).toNat < w.inst.sup.length ∧
 ∀ (x : Int),
 w.inst.sup[(↑g : Int).toNat]? = some x →
 ((0 : Int) ≤ (↑g : Int) ∧ (↑g : Int) < (↑(List.map (touchF w.inst.arcs) (List.range w.inst.sup.length)).length : Int)) ∧
 (↑g : Int).toNat < (List.map (touchF w.inst.arcs) (List.range w.inst.sup.length)).length ∧
 ∀ (x_1 : Bool),
 (List.map (touchF w.inst.arcs) (List.range w.inst.sup.length))[(↑g : Int).toNat]? = some x_1 →
 ((!x_1) = true →
 ((x == (0 : Int)) = true →
 ((0 : Int) ≤ (↑g : Int) ∧ (↑g : Int) < (↑(loneTo w.inst g).length : Int)) ∧
 (↑g : Int).toNat < (loneTo w.inst g).length ∧
 ∃ (g' : Nat),
 g' ≤ w.inst.sup.length ∧
 w.inst.sup.length - g' < w.inst.sup.length - g ∧
 (lone15_a0 w g g') ∧
 List.map (touchF w.inst.arcs) (List.range w.inst.sup.length) =
 List.map (touchF w.inst.arcs) (List.range w.inst.sup.length) ∧
 (True ∧
 True ∧
 True ∧
 True ∧
 w.off.hi = w.off.hi ∧
 w.off.lo = w.off.lo ∧ true = (List.map (loneAt w.inst) (List.range g')).any id ∧ True) ∧
 w.inst.sup = w.inst.sup ∧
 w.inst.arcs = w.inst.arcs ∧
 (loneTo w.inst g).set (↑g : Int).toNat true = loneTo w.inst g' ∧ w.arcs = w.arcs ∧ True) ∧
 ((x == (0 : Int)) = false →
 ∃ (g' : Nat),
 g' ≤ w.inst.sup.length ∧
 w.inst.sup.length - g' < w.inst.sup.length - g ∧
 (lone15_a0 w g g') ∧
 List.map (touchF w.inst.arcs) (List.range w.inst.sup.length) =
 List.map (touchF w.inst.arcs) (List.range w.inst.sup.length) ∧
 (True ∧
 True ∧
 True ∧
 True ∧
 w.off.hi = w.off.hi ∧
 w.off.lo = w.off.lo ∧
 (List.map (loneAt w.inst) (List.range g)).any id = (List.map (loneAt w.inst) (List.range g')).any id ∧
 True) ∧
 w.inst.sup = w.inst.sup ∧ w.inst.arcs = w.inst.arcs ∧ loneTo w.inst g = loneTo w.inst g' ∧ w.arcs = w.arcs ∧ True)) ∧
 ((!x_1) = false →
 ∃ (g' : Nat),
 g' ≤ w.inst.sup.length ∧
 w.inst.sup.length - g' < w.inst.sup.length - g ∧
 (lone15_a0 w g g') ∧
 List.map (touchF w.inst.arcs) (List.range w.inst.sup.length) = List.map (touchF w.inst.arcs) (List.range w.inst.sup.length) ∧
 (True ∧
 True ∧
 True ∧
 True ∧
 w.off.hi = w.off.hi ∧
 w.off.lo = w.off.lo ∧
 (List.map (loneAt w.inst) (List.range g)).any id = (List.map (loneAt w.inst) (List.range g')).any id ∧ True) ∧
 w.inst.sup = w.inst.sup ∧ w.inst.arcs = w.inst.arcs ∧ loneTo w.inst g = loneTo w.inst g' ∧ w.arcs = w.arcs ∧ True)) ∧
 (decide ((↑g : Int) < (↑w.inst.sup.length : Int)) = false →
 (True ∧ True) ∧
 (True ∧
 True ∧
 True ∧
 True ∧
 w.off.hi = (workLone w.inst w.arcs).off.hi ∧
 w.off.lo = (workLone w.inst w.arcs).off.lo ∧ (List.map (loneAt w.inst) (List.range g)).any id = (workLone w.inst w.arcs).did ∧ True) ∧
 w.inst.sup = (workLone w.inst w.arcs).inst.sup ∧
 w.inst.arcs = (workLone w.inst w.arcs).inst.arcs ∧
 loneTo w.inst g = (workLone w.inst w.arcs).nodes ∧ w.arcs = (workLone w.inst w.arcs).arcs ∧ True))
theorem lone15_q (w : WorkD) : lone15_E0 w = FVcP TT lone15_g (lone15_I w) (lone15_an w) Try.f51 [.ptr 0 0 0 0] [(0, .box true 122 [.row 1, .row 2, .row 3, .row 4, .int .i64 w.off.hi, .int .u64 w.off.lo, .bool w.did]), (1, .row true 2 (.ints .i64 w.inst.sup)), (2, .row true 24 (.arcs w.inst.arcs)), (3, .row true 4 (.bools w.nodes)), (4, .row true 4 (.bools w.arcs))] (lone15_r w) := by kernel_rfl
theorem lone15_E (w : WorkD) (hp : rightF w.inst = 0 ∧ w.off = W 0 ∧ w.did = false ∧ w.nodes = List.replicate w.inst.sup.length false ∧ w.arcs = List.replicate w.inst.arcs.length false) : FVc TT lone15_g (lone15_I w) (lone15_an w) Try.f51 [.ptr 0 0 0 0] [(0, .box true 122 [.row 1, .row 2, .row 3, .row 4, .int .i64 w.off.hi, .int .u64 w.off.lo, .bool w.did]), (1, .row true 2 (.ints .i64 w.inst.sup)), (2, .row true 24 (.arcs w.inst.arcs)), (3, .row true 4 (.bools w.nodes)), (4, .row true 4 (.bools w.arcs))] (lone15_r w) := by
  refine FVc.of (lone15_E0 w) (lone15_q w) ?_
  unfold lone15_E0
  delta lone15_a0
  obtain ⟨p1, p2, p3, p4, p5⟩ := hp
  have hlen := right_small p1
  simp only [eq_self, exists_const, forall_const, decide_eq_true_eq, decide_eq_false_iff_not, and_true, true_and, bne_iff_ne, ne_eq, bne_eq_false_iff_eq, Int.toNat_natCast, Bool.not_eq_true', Bool.not_eq_false', beq_iff_eq, beq_eq_false_iff_ne, nilEq_true]
  simp only [List.length_set, touchTo_len, List.length_map, List.length_range]
  refine ⟨by omega, 0, ⟨by omega, rfl, by rw [touchTo_zero]⟩, fun g hg => ⟨fun h1 => ⟨by omega, by omega, fun x hx => ?_⟩, fun h1 => ⟨0, ⟨by omega, rfl, by rw [touchTo_end _ (by omega)], by rw [p3]; rfl, by rw [p4, loneTo_zero]⟩, fun k hk => ⟨fun h2 => ⟨by omega, by omega, fun x hx => ⟨by omega, by omega, fun y hy => ?_⟩⟩, fun h2 => ?_⟩⟩⟩⟩
  · obtain ⟨ho, hb1, hb2⟩ := rightF_arc p1 (List.mem_of_getElem? hx)
    obtain ⟨o1, o2, o3, o4⟩ := okArc_iff.1 ho
    exact ⟨by omega, by omega, by omega, by omega, g + 1, by omega, by omega, by rw [w64 (by omega) (by omega)]; omega, touchTo_succ hx o1 o3⟩
  · have hkl : k < w.inst.sup.length := by omega
    obtain ⟨_, rfl⟩ := map_range_get hy
    have hx0 : w.inst.sup.getD k 0 = x := by simp [List.getD, hx]
    have hwr : IntKind.i64.wrap ((k : Int) + 1) = ((k + 1 : Nat) : Int) := by rw [w64 (by omega) (by omega)]; omega
    have stay : loneAt w.inst k = false → ∃ g', g' ≤ w.inst.sup.length ∧ w.inst.sup.length - g' < w.inst.sup.length - k ∧ IntKind.i64.wrap (↑k + 1) = (g' : Int) ∧ (List.map (loneAt w.inst) (List.range k)).any id = (List.map (loneAt w.inst) (List.range g')).any id ∧ loneTo w.inst k = loneTo w.inst g' := fun h => ⟨k + 1, by omega, by omega, hwr, by rw [loneAny_succ, h, Bool.or_false], loneTo_stay hkl h⟩
    refine ⟨fun h3 => ⟨fun h4 => ?_, fun h4 => stay ?_⟩, fun h3 => stay ?_⟩
    · have hl : loneAt w.inst k = true := by unfold loneAt; rw [h3, hx0, h4]; rfl
      rw [loneTo_len hk]
      exact ⟨by omega, by omega, k + 1, by omega, by omega, hwr, by rw [loneAny_succ, hl, Bool.or_true], by rw [← hl, loneTo_succ hkl]⟩
    · unfold loneAt; rw [h3, hx0]; simp [h4]
    · unfold loneAt; rw [h3]; rfl
  · have hke : k = w.inst.sup.length := by omega
    rw [loneTo_end _ hke]
    subst hke
    exact ⟨⟨by rw [p2, W_zero]; rfl, by rw [p2, W_zero]; rfl, rfl⟩, rfl, rfl, rfl, rfl⟩
theorem lone15_ok : SpecOk Try.prog lone15_n false (specOf false lone15_fs) :=
  spec_ok' TT_ok (show GsOk Try.prog lone15_g from gsOk_nil) (by kernel_rfl) mixedOrders Try.func51 rfl rfl (by kernel_rfl) (n := 1) (by decide +kernel) (I := lone15_IA) (fun _ _ => isOk_nil) (A := lone15_A)
    (fun args h r hr => by
      unfold lone15_fs at hr
      split at hr
      · rename_i w_h w_l w_d w_s w_a w_n w_c; cases hr; refine ⟨rfl, fun hp => ?_⟩; have hE := lone15_E ⟨⟨w_s, w_a⟩, w_n, w_c, ⟨w_h, w_l⟩, w_d⟩ hp; exact hE
      · cases hr)
theorem step15_ok : PanOk Try.prog step15_n step15_spec :=
  pan_ok TT_ok (show GsOk Try.prog step15_g from gsOk_cons Copy_ok (gsOk_cons Without_ok (gsOk_cons Right_ok (gsOk_nil)))) (by kernel_rfl) mixedOrders Try.func85 rfl rfl (by kernel_rfl) _
theorem runC_ok : RecOk Try.prog runC_n runC_d :=
  rec_ok TT_ok (show GsOk Try.prog runC_g from gsOk_nil) (by kernel_rfl) mixedOrders Try.func83 rfl rfl (by kernel_rfl) _
theorem run15_ok : SpecOk Try.prog run15_n false run15_spec :=
  inlD_ok TT_ok (show GsOk Try.prog run15_g from gsOk_cons Right_ok (gsOk_cons Copy_ok (gsOk_cons low15_ok (gsOk_cons loop15_ok (gsOk_cons fixed15_ok (gsOk_cons lone15_ok (gsOk_consP step15_ok (gsOk_nil)))))))) (by kernel_rfl) mixedOrders Try.func47 rfl rfl (by kernel_rfl) _ runC_ok
abbrev Low_a0 (I : Inst) := (workLow I (List.replicate (↑I.sup.length : Int).toNat false) (List.replicate (↑I.arcs.length : Int).toNat false))
abbrev Low_a1 (I : Inst) := ((!(Low_a0 I).did) = false →
 (((Low_a0 I).inst.sup.length ≤ (1000000 : Nat) ∧
 (Low_a0 I).inst.arcs.length ≤
 (1000000 : Nat) ∧
 (Low_a0 I).nodes.length ≤ (1000000 : Nat) ∧
 (Low_a0 I).arcs.length ≤
 (1000000 : Nat)) ∧
 True ∧
 ((rightF
 (withoutF (Low_a0 I).inst
 (Low_a0 I).nodes
 (Low_a0 I).arcs) !=
 (0 : Int)) =
 true →
 (((True ∧
 True ∧
 (0 : Int) = (lowS I).fst.pass ∧
 True ∧ True ∧ (0 : Int) = (lowS I).fst.off.hi ∧ (0 : Int) = (lowS I).fst.off.lo ∧ false = (lowS I).fst.did ∧ True) ∧
 (40 : Int) = (lowS I).snd ∧ True) ∧
 True) ∧
 [] = (lowS I).fst.inst.sup ∧ [] = (lowS I).fst.inst.arcs ∧ [] = (lowS I).fst.was.sup ∧ [] = (lowS I).fst.was.arcs ∧ True) ∧
 ((rightF
 (withoutF (Low_a0 I).inst
 (Low_a0 I).nodes
 (Low_a0 I).arcs) !=
 (0 : Int)) =
 false →
 (I.sup.length ≤ (1000000000 : Nat) ∧ I.arcs.length ≤ (1000000000 : Nat)) ∧
 (((True ∧
 True ∧
 (1 : Int) = (lowS I).fst.pass ∧
 True ∧
 True ∧
 (Low_a0 I).off.hi =
 (lowS I).fst.off.hi ∧
 (Low_a0 I).off.lo =
 (lowS I).fst.off.lo ∧
 true = (lowS I).fst.did ∧ True) ∧
 (0 : Int) = (lowS I).snd ∧ True) ∧
 True) ∧
 (withoutF (Low_a0 I).inst
 (Low_a0 I).nodes
 (Low_a0 I).arcs).sup =
 (lowS I).fst.inst.sup ∧
 (withoutF (Low_a0 I).inst
 (Low_a0 I).nodes
 (Low_a0 I).arcs).arcs =
 (lowS I).fst.inst.arcs ∧
 I.sup = (lowS I).fst.was.sup ∧ I.arcs = (lowS I).fst.was.arcs ∧ True)) ∧
 ((Low_a0 I).inst.sup.length ≤ (1000000 : Nat) ∧
 (Low_a0 I).inst.arcs.length ≤
 (1000000 : Nat) ∧
 (Low_a0 I).nodes.length ≤ (1000000 : Nat) ∧
 (Low_a0 I).arcs.length ≤
 (1000000 : Nat)) ∧
 True ∧
 ((rightF
 (withoutF (Low_a0 I).inst
 (Low_a0 I).nodes
 (Low_a0 I).arcs) !=
 (0 : Int)) =
 true →
 (((True ∧
 True ∧
 (0 : Int) = (lowS I).fst.pass ∧
 True ∧ True ∧ (0 : Int) = (lowS I).fst.off.hi ∧ (0 : Int) = (lowS I).fst.off.lo ∧ false = (lowS I).fst.did ∧ True) ∧
 (40 : Int) = (lowS I).snd ∧ True) ∧
 True) ∧
 [] = (lowS I).fst.inst.sup ∧ [] = (lowS I).fst.inst.arcs ∧ [] = (lowS I).fst.was.sup ∧ [] = (lowS I).fst.was.arcs ∧ True) ∧
 ((rightF
 (withoutF (Low_a0 I).inst
 (Low_a0 I).nodes
 (Low_a0 I).arcs) !=
 (0 : Int)) =
 false →
 (I.sup.length ≤ (1000000000 : Nat) ∧ I.arcs.length ≤ (1000000000 : Nat)) ∧
 (((True ∧
 True ∧
 (1 : Int) = (lowS I).fst.pass ∧
 True ∧
 True ∧
 (Low_a0 I).off.hi =
 (lowS I).fst.off.hi ∧
 (Low_a0 I).off.lo =
 (lowS I).fst.off.lo ∧
 true = (lowS I).fst.did ∧ True) ∧
 (0 : Int) = (lowS I).snd ∧ True) ∧
 True) ∧
 (withoutF (Low_a0 I).inst
 (Low_a0 I).nodes
 (Low_a0 I).arcs).sup =
 (lowS I).fst.inst.sup ∧
 (withoutF (Low_a0 I).inst
 (Low_a0 I).nodes
 (Low_a0 I).arcs).arcs =
 (lowS I).fst.inst.arcs ∧
 I.sup = (lowS I).fst.was.sup ∧ I.arcs = (lowS I).fst.was.arcs ∧ True))
abbrev Low_a2 (I : Inst) := ((!(Low_a0 I).did) = false →
 (((Low_a0 I).inst.sup.length ≤ (1000000 : Nat) ∧
 (Low_a0 I).inst.arcs.length ≤ (1000000 : Nat) ∧
 (Low_a0 I).nodes.length ≤ (1000000 : Nat) ∧
 (Low_a0 I).arcs.length ≤ (1000000 : Nat)) ∧
 True ∧
 ((rightF
 (withoutF (Low_a0 I).inst
 (Low_a0 I).nodes
 (Low_a0 I).arcs) !=
 (0 : Int)) =
 true →
 (((True ∧
 True ∧
 (0 : Int) = (lowS I).fst.pass ∧
 True ∧ True ∧ (0 : Int) = (lowS I).fst.off.hi ∧ (0 : Int) = (lowS I).fst.off.lo ∧ false = (lowS I).fst.did ∧ True) ∧
 (40 : Int) = (lowS I).snd ∧ True) ∧
 True) ∧
 [] = (lowS I).fst.inst.sup ∧ [] = (lowS I).fst.inst.arcs ∧ [] = (lowS I).fst.was.sup ∧ [] = (lowS I).fst.was.arcs ∧ True) ∧
 ((rightF
 (withoutF (Low_a0 I).inst
 (Low_a0 I).nodes
 (Low_a0 I).arcs) !=
 (0 : Int)) =
 false →
 (I.sup.length ≤ (1000000000 : Nat) ∧ I.arcs.length ≤ (1000000000 : Nat)) ∧
 (((True ∧
 True ∧
 (1 : Int) = (lowS I).fst.pass ∧
 True ∧
 True ∧
 (Low_a0 I).off.hi =
 (lowS I).fst.off.hi ∧
 (Low_a0 I).off.lo =
 (lowS I).fst.off.lo ∧
 true = (lowS I).fst.did ∧ True) ∧
 (0 : Int) = (lowS I).snd ∧ True) ∧
 True) ∧
 (withoutF (Low_a0 I).inst
 (Low_a0 I).nodes
 (Low_a0 I).arcs).sup =
 (lowS I).fst.inst.sup ∧
 (withoutF (Low_a0 I).inst
 (Low_a0 I).nodes
 (Low_a0 I).arcs).arcs =
 (lowS I).fst.inst.arcs ∧
 I.sup = (lowS I).fst.was.sup ∧ I.arcs = (lowS I).fst.was.arcs ∧ True)) ∧
 ((Low_a0 I).inst.sup.length ≤ (1000000 : Nat) ∧
 (Low_a0 I).inst.arcs.length ≤ (1000000 : Nat) ∧
 (Low_a0 I).nodes.length ≤ (1000000 : Nat) ∧
 (Low_a0 I).arcs.length ≤ (1000000 : Nat)) ∧
 True ∧
 ((rightF
 (withoutF (Low_a0 I).inst
 (Low_a0 I).nodes
 (Low_a0 I).arcs) !=
 (0 : Int)) =
 true →
 (((True ∧
 True ∧
 (0 : Int) = (lowS I).fst.pass ∧
 True ∧ True ∧ (0 : Int) = (lowS I).fst.off.hi ∧ (0 : Int) = (lowS I).fst.off.lo ∧ false = (lowS I).fst.did ∧ True) ∧
 (40 : Int) = (lowS I).snd ∧ True) ∧
 True) ∧
 [] = (lowS I).fst.inst.sup ∧ [] = (lowS I).fst.inst.arcs ∧ [] = (lowS I).fst.was.sup ∧ [] = (lowS I).fst.was.arcs ∧ True) ∧
 ((rightF
 (withoutF (Low_a0 I).inst
 (Low_a0 I).nodes
 (Low_a0 I).arcs) !=
 (0 : Int)) =
 false →
 (I.sup.length ≤ (1000000000 : Nat) ∧ I.arcs.length ≤ (1000000000 : Nat)) ∧
 (((True ∧
 True ∧
 (1 : Int) = (lowS I).fst.pass ∧
 True ∧
 True ∧
 (Low_a0 I).off.hi =
 (lowS I).fst.off.hi ∧
 (Low_a0 I).off.lo =
 (lowS I).fst.off.lo ∧
 true = (lowS I).fst.did ∧ True) ∧
 (0 : Int) = (lowS I).snd ∧ True) ∧
 True) ∧
 (withoutF (Low_a0 I).inst
 (Low_a0 I).nodes
 (Low_a0 I).arcs).sup =
 (lowS I).fst.inst.sup ∧
 (withoutF (Low_a0 I).inst
 (Low_a0 I).nodes
 (Low_a0 I).arcs).arcs =
 (lowS I).fst.inst.arcs ∧
 I.sup = (lowS I).fst.was.sup ∧ I.arcs = (lowS I).fst.was.arcs ∧ True))
abbrev Low_a3 (I : Inst) := ((!(Low_a0 I).did) = true →
 (I.sup.length ≤ (1000000000 : Nat) ∧ I.arcs.length ≤ (1000000000 : Nat)) ∧
 (((True ∧
 True ∧
 (0 : Int) = (lowS I).fst.pass ∧
 True ∧ True ∧ (0 : Int) = (lowS I).fst.off.hi ∧ (0 : Int) = (lowS I).fst.off.lo ∧ false = (lowS I).fst.did ∧ True) ∧
 (0 : Int) = (lowS I).snd ∧ True) ∧
 True) ∧
 I.sup = (lowS I).fst.inst.sup ∧ I.arcs = (lowS I).fst.inst.arcs ∧ [] = (lowS I).fst.was.sup ∧ [] = (lowS I).fst.was.arcs ∧ True)
abbrev Low_a4 (I : Inst) := (rightF I = (0 : Int) ∧
 { hi := (0 : Int), lo := (0 : Int) : Wide } = W (0 : Int) ∧
 false = false ∧
 List.replicate (↑I.sup.length : Int).toNat false = List.replicate I.sup.length false ∧
 List.replicate (↑I.arcs.length : Int).toNat false = List.replicate I.arcs.length false)
abbrev Low_a5 (I : Inst) := ((↑I.arcs.length : Int) = (↑I.arcs.length : Int) ∧ (0 : Int) ≤ (↑I.arcs.length : Int) ∧ (↑I.arcs.length : Int) ≤ (1000000000 : Int))
abbrev Low_a6 (I : Inst) := ((↑I.sup.length : Int) = (↑I.sup.length : Int) ∧ (0 : Int) ≤ (↑I.sup.length : Int) ∧ (↑I.sup.length : Int) ≤ (1000000000 : Int))
abbrev Low_a7 (I : Inst) := (I.sup.length ≤ (1000000000 : Nat) ∧ I.arcs.length ≤ (1000000000 : Nat))
def Low_E0 (I : Inst) (ty0 ty1 : TypeId) : Prop :=
      True ∧
 ((rightF I != (0 : Int)) = true →
 (((True ∧ True ∧ (0 : Int) = (lowS I).fst.pass ∧ True ∧ True ∧ (0 : Int) = (lowS I).fst.off.hi ∧ (0 : Int) = (lowS I).fst.off.lo ∧ false = (lowS I).fst.did ∧ True) ∧
 rightF I = (lowS I).snd ∧ True) ∧
 True) ∧
 [] = (lowS I).fst.inst.sup ∧ [] = (lowS I).fst.inst.arcs ∧ [] = (lowS I).fst.was.sup ∧ [] = (lowS I).fst.was.arcs ∧ True) ∧
 ((rightF I != (0 : Int)) = false →
 ((Low_a7 I) ∧
 ((Low_a6 I) ∧
 (Low_a5 I) ∧
 (Low_a4 I) ∧
 (Low_a3 I) ∧
 (Low_a2 I)) ∧
 (Low_a5 I) ∧
 (Low_a6 I) ∧
 (Low_a4 I) ∧
 (Low_a3 I) ∧
 (Low_a2 I)) ∧
 ((Low_a6 I) ∧
 ((Low_a7 I) ∧
 (Low_a5 I) ∧
 (Low_a4 I) ∧
 (Low_a3 I) ∧
 (Low_a1 I)) ∧
 (Low_a5 I) ∧
 (Low_a7 I) ∧
 (Low_a4 I) ∧
 (Low_a3 I) ∧
 (Low_a1 I)) ∧
 (Low_a5 I) ∧
 ((Low_a7 I) ∧
 (Low_a6 I) ∧
 (Low_a4 I) ∧
 (Low_a3 I) ∧
 (Low_a1 I)) ∧
 (Low_a6 I) ∧
 (Low_a7 I) ∧
 (Low_a4 I) ∧
 (Low_a3 I) ∧
 (Low_a1 I))
theorem Low_q (I : Inst) (ty0 ty1 : TypeId) : Low_E0 I ty0 ty1 = FVcP TT Low_g (Low_I I) (Low_an I) Try.f14 [.agg [.row 0, .row 1]] [(0, .row false ty0 (.ints .i64 I.sup)), (1, .row false ty1 (.arcs I.arcs))] (Low_r I) := by kernel_rfl
theorem Low_E (I : Inst) (ty0 ty1 : TypeId) (hp : I.sup.length ≤ 1000000 ∧ I.arcs.length ≤ 1000000) : FVc TT Low_g (Low_I I) (Low_an I) Try.f14 [.agg [.row 0, .row 1]] [(0, .row false ty0 (.ints .i64 I.sup)), (1, .row false ty1 (.arcs I.arcs))] (Low_r I) := by
  refine FVc.of (Low_E0 I ty0 ty1) (Low_q I ty0 ty1) ?_
  unfold Low_E0
  delta Low_a7 Low_a6 Low_a5 Low_a4 Low_a3 Low_a2 Low_a1 Low_a0
  simp only [eq_self, exists_const, forall_const, decide_eq_true_eq, decide_eq_false_iff_not, and_true, true_and, bne_iff_ne, ne_eq, bne_eq_false_iff_eq, Int.toNat_natCast, Bool.not_eq_true', Bool.not_eq_false', beq_iff_eq, beq_eq_false_iff_ne, nilEq_true]
  obtain ⟨q1, q2, q3, q4⟩ := workLow_len I (List.replicate I.sup.length false) (List.replicate I.arcs.length false)
  simp only [List.length_replicate] at q3 q4
  unfold lowS
  generalize workLow I (List.replicate I.sup.length false) (List.replicate I.arcs.length false) = w0 at *
  have z : W 0 = ⟨0, 0⟩ := W_zero
  by_cases hr : rightF I = 0
  · cases hd : w0.did with
    | false =>
      rw [passF_stay hr hd]
      simp [hr, z]
      omega
    | true =>
      by_cases hq : rightF (withoutF w0.inst w0.nodes w0.arcs) = 0
      · rw [passF_done hr hd hq]
        simp [hr, hq, z, q1, q2, q3, q4]
        omega
      · rw [passF_over hr hd hq]
        simp [hr, hq, z, q1, q2, q3, q4, StepD.none]
        omega
  · rw [passF_bad hr]
    simp [hr, StepD.none]
theorem Low_ok : SpecOk Try.prog Low_n true (specOf true Low_fs) :=
  spec_ok' TT_ok (show GsOk Try.prog Low_g from gsOk_cons run15_ok (gsOk_nil)) (by kernel_rfl) mixedOrders Try.func14 rfl rfl (by kernel_rfl) (n := 1) (by decide +kernel) (I := Low_IA) (fun _ _ => isOk_nil) (A := Low_A)
    (fun args h r hr => by
      unfold Low_fs at hr
      split at hr
      · rename_i ty0 I_s ty1 I_a; cases hr; refine ⟨rfl, fun hp => ?_⟩; have hE := Low_E ⟨I_s, I_a⟩ ty0 ty1 hp; exact hE
      · cases hr)
abbrev Loop_a0 (I : Inst) := ((!(workTake takeLoop I (List.replicate (↑I.sup.length : Int).toNat false)).did) = false →
 (((workTake takeLoop I (List.replicate (↑I.sup.length : Int).toNat false)).inst.sup.length ≤ (1000000 : Nat) ∧
 (workTake takeLoop I (List.replicate (↑I.sup.length : Int).toNat false)).inst.arcs.length ≤ (1000000 : Nat) ∧
 (workTake takeLoop I (List.replicate (↑I.sup.length : Int).toNat false)).nodes.length ≤ (1000000 : Nat) ∧
 (workTake takeLoop I (List.replicate (↑I.sup.length : Int).toNat false)).arcs.length ≤ (1000000 : Nat)) ∧
 True ∧
 ((rightF
 (withoutF (workTake takeLoop I (List.replicate (↑I.sup.length : Int).toNat false)).inst
 (workTake takeLoop I (List.replicate (↑I.sup.length : Int).toNat false)).nodes
 (workTake takeLoop I (List.replicate (↑I.sup.length : Int).toNat false)).arcs) !=
 (0 : Int)) =
 true →
 (((True ∧
 True ∧
 (0 : Int) = (loopS I).fst.pass ∧
 True ∧ True ∧ (0 : Int) = (loopS I).fst.off.hi ∧ (0 : Int) = (loopS I).fst.off.lo ∧ false = (loopS I).fst.did ∧ True) ∧
 (40 : Int) = (loopS I).snd ∧ True) ∧
 True) ∧
 [] = (loopS I).fst.inst.sup ∧ [] = (loopS I).fst.inst.arcs ∧ [] = (loopS I).fst.was.sup ∧ [] = (loopS I).fst.was.arcs ∧ True) ∧
 ((rightF
 (withoutF (workTake takeLoop I (List.replicate (↑I.sup.length : Int).toNat false)).inst
 (workTake takeLoop I (List.replicate (↑I.sup.length : Int).toNat false)).nodes
 (workTake takeLoop I (List.replicate (↑I.sup.length : Int).toNat false)).arcs) !=
 (0 : Int)) =
 false →
 (I.sup.length ≤ (1000000000 : Nat) ∧ I.arcs.length ≤ (1000000000 : Nat)) ∧
 (((True ∧
 True ∧
 (2 : Int) = (loopS I).fst.pass ∧
 True ∧
 True ∧
 (workTake takeLoop I (List.replicate (↑I.sup.length : Int).toNat false)).off.hi = (loopS I).fst.off.hi ∧
 (workTake takeLoop I (List.replicate (↑I.sup.length : Int).toNat false)).off.lo = (loopS I).fst.off.lo ∧
 true = (loopS I).fst.did ∧ True) ∧
 (0 : Int) = (loopS I).snd ∧ True) ∧
 True) ∧
 (withoutF (workTake takeLoop I (List.replicate (↑I.sup.length : Int).toNat false)).inst
 (workTake takeLoop I (List.replicate (↑I.sup.length : Int).toNat false)).nodes
 (workTake takeLoop I (List.replicate (↑I.sup.length : Int).toNat false)).arcs).sup =
 (loopS I).fst.inst.sup ∧
 (withoutF (workTake takeLoop I (List.replicate (↑I.sup.length : Int).toNat false)).inst
 (workTake takeLoop I (List.replicate (↑I.sup.length : Int).toNat false)).nodes
 (workTake takeLoop I (List.replicate (↑I.sup.length : Int).toNat false)).arcs).arcs =
 (loopS I).fst.inst.arcs ∧
 I.sup = (loopS I).fst.was.sup ∧ I.arcs = (loopS I).fst.was.arcs ∧ True)) ∧
 ((workTake takeLoop I (List.replicate (↑I.sup.length : Int).toNat false)).inst.sup.length ≤ (1000000 : Nat) ∧
 (workTake takeLoop I (List.replicate (↑I.sup.length : Int).toNat false)).inst.arcs.length ≤ (1000000 : Nat) ∧
 (workTake takeLoop I (List.replicate (↑I.sup.length : Int).toNat false)).nodes.length ≤ (1000000 : Nat) ∧
 (workTake takeLoop I (List.replicate (↑I.sup.length : Int).toNat false)).arcs.length ≤ (1000000 : Nat)) ∧
 True ∧
 ((rightF
 (withoutF (workTake takeLoop I (List.replicate (↑I.sup.length : Int).toNat false)).inst
 (workTake takeLoop I (List.replicate (↑I.sup.length : Int).toNat false)).nodes
 (workTake takeLoop I (List.replicate (↑I.sup.length : Int).toNat false)).arcs) !=
 (0 : Int)) =
 true →
 (((True ∧
 True ∧
 (0 : Int) = (loopS I).fst.pass ∧
 True ∧ True ∧ (0 : Int) = (loopS I).fst.off.hi ∧ (0 : Int) = (loopS I).fst.off.lo ∧ false = (loopS I).fst.did ∧ True) ∧
 (40 : Int) = (loopS I).snd ∧ True) ∧
 True) ∧
 [] = (loopS I).fst.inst.sup ∧ [] = (loopS I).fst.inst.arcs ∧ [] = (loopS I).fst.was.sup ∧ [] = (loopS I).fst.was.arcs ∧ True) ∧
 ((rightF
 (withoutF (workTake takeLoop I (List.replicate (↑I.sup.length : Int).toNat false)).inst
 (workTake takeLoop I (List.replicate (↑I.sup.length : Int).toNat false)).nodes
 (workTake takeLoop I (List.replicate (↑I.sup.length : Int).toNat false)).arcs) !=
 (0 : Int)) =
 false →
 (I.sup.length ≤ (1000000000 : Nat) ∧ I.arcs.length ≤ (1000000000 : Nat)) ∧
 (((True ∧
 True ∧
 (2 : Int) = (loopS I).fst.pass ∧
 True ∧
 True ∧
 (workTake takeLoop I (List.replicate (↑I.sup.length : Int).toNat false)).off.hi = (loopS I).fst.off.hi ∧
 (workTake takeLoop I (List.replicate (↑I.sup.length : Int).toNat false)).off.lo = (loopS I).fst.off.lo ∧
 true = (loopS I).fst.did ∧ True) ∧
 (0 : Int) = (loopS I).snd ∧ True) ∧
 True) ∧
 (withoutF (workTake takeLoop I (List.replicate (↑I.sup.length : Int).toNat false)).inst
 (workTake takeLoop I (List.replicate (↑I.sup.length : Int).toNat false)).nodes
 (workTake takeLoop I (List.replicate (↑I.sup.length : Int).toNat false)).arcs).sup =
 (loopS I).fst.inst.sup ∧
 (withoutF (workTake takeLoop I (List.replicate (↑I.sup.length : Int).toNat false)).inst
 (workTake takeLoop I (List.replicate (↑I.sup.length : Int).toNat false)).nodes
 (workTake takeLoop I (List.replicate (↑I.sup.length : Int).toNat false)).arcs).arcs =
 (loopS I).fst.inst.arcs ∧
 I.sup = (loopS I).fst.was.sup ∧ I.arcs = (loopS I).fst.was.arcs ∧ True))
abbrev Loop_a1 (I : Inst) := ((!(workTake takeLoop I (List.replicate (↑I.sup.length : Int).toNat false)).did) = true →
 (I.sup.length ≤ (1000000000 : Nat) ∧ I.arcs.length ≤ (1000000000 : Nat)) ∧
 (((True ∧
 True ∧
 (0 : Int) = (loopS I).fst.pass ∧
 True ∧ True ∧ (0 : Int) = (loopS I).fst.off.hi ∧ (0 : Int) = (loopS I).fst.off.lo ∧ false = (loopS I).fst.did ∧ True) ∧
 (0 : Int) = (loopS I).snd ∧ True) ∧
 True) ∧
 I.sup = (loopS I).fst.inst.sup ∧ I.arcs = (loopS I).fst.inst.arcs ∧ [] = (loopS I).fst.was.sup ∧ [] = (loopS I).fst.was.arcs ∧ True)
abbrev Loop_a2 (I : Inst) := (rightF I = (0 : Int) ∧
 { hi := (0 : Int), lo := (0 : Int) : Wide } = W (0 : Int) ∧
 false = false ∧
 List.replicate (↑I.sup.length : Int).toNat false = List.replicate I.sup.length false ∧
 List.replicate (↑I.arcs.length : Int).toNat false = List.replicate I.arcs.length false)
abbrev Loop_a3 (I : Inst) := ((↑I.arcs.length : Int) = (↑I.arcs.length : Int) ∧ (0 : Int) ≤ (↑I.arcs.length : Int) ∧ (↑I.arcs.length : Int) ≤ (1000000000 : Int))
abbrev Loop_a4 (I : Inst) := ((↑I.sup.length : Int) = (↑I.sup.length : Int) ∧ (0 : Int) ≤ (↑I.sup.length : Int) ∧ (↑I.sup.length : Int) ≤ (1000000000 : Int))
abbrev Loop_a5 (I : Inst) := (I.sup.length ≤ (1000000000 : Nat) ∧ I.arcs.length ≤ (1000000000 : Nat))
def Loop_E0 (I : Inst) (ty0 ty1 : TypeId) : Prop :=
      True ∧
 ((rightF I != (0 : Int)) = true →
 (((True ∧ True ∧ (0 : Int) = (loopS I).fst.pass ∧ True ∧ True ∧ (0 : Int) = (loopS I).fst.off.hi ∧ (0 : Int) = (loopS I).fst.off.lo ∧ false = (loopS I).fst.did ∧ True) ∧
 rightF I = (loopS I).snd ∧ True) ∧
 True) ∧
 [] = (loopS I).fst.inst.sup ∧ [] = (loopS I).fst.inst.arcs ∧ [] = (loopS I).fst.was.sup ∧ [] = (loopS I).fst.was.arcs ∧ True) ∧
 ((rightF I != (0 : Int)) = false →
 ((Loop_a5 I) ∧
 ((Loop_a4 I) ∧
 (Loop_a3 I) ∧
 (Loop_a2 I) ∧
 (Loop_a1 I) ∧
 (Loop_a0 I)) ∧
 (Loop_a3 I) ∧
 (Loop_a4 I) ∧
 (Loop_a2 I) ∧
 (Loop_a1 I) ∧
 (Loop_a0 I)) ∧
 ((Loop_a4 I) ∧
 ((Loop_a5 I) ∧
 (Loop_a3 I) ∧
 (Loop_a2 I) ∧
 (Loop_a1 I) ∧
 (Loop_a0 I)) ∧
 (Loop_a3 I) ∧
 (Loop_a5 I) ∧
 (Loop_a2 I) ∧
 (Loop_a1 I) ∧
 (Loop_a0 I)) ∧
 (Loop_a3 I) ∧
 ((Loop_a5 I) ∧
 (Loop_a4 I) ∧
 (Loop_a2 I) ∧
 (Loop_a1 I) ∧
 (Loop_a0 I)) ∧
 (Loop_a4 I) ∧
 (Loop_a5 I) ∧
 (Loop_a2 I) ∧
 (Loop_a1 I) ∧
 (Loop_a0 I))
theorem Loop_q (I : Inst) (ty0 ty1 : TypeId) : Loop_E0 I ty0 ty1 = FVcP TT Loop_g (Loop_I I) (Loop_an I) Try.f35 [.agg [.row 0, .row 1]] [(0, .row false ty0 (.ints .i64 I.sup)), (1, .row false ty1 (.arcs I.arcs))] (Loop_r I) := by kernel_rfl
theorem Loop_E (I : Inst) (ty0 ty1 : TypeId) (hp : I.sup.length ≤ 1000000 ∧ I.arcs.length ≤ 1000000) : FVc TT Loop_g (Loop_I I) (Loop_an I) Try.f35 [.agg [.row 0, .row 1]] [(0, .row false ty0 (.ints .i64 I.sup)), (1, .row false ty1 (.arcs I.arcs))] (Loop_r I) := by
  refine FVc.of (Loop_E0 I ty0 ty1) (Loop_q I ty0 ty1) ?_
  unfold Loop_E0
  delta Loop_a5 Loop_a4 Loop_a3 Loop_a2 Loop_a1 Loop_a0
  simp only [eq_self, exists_const, forall_const, decide_eq_true_eq, decide_eq_false_iff_not, and_true, true_and, bne_iff_ne, ne_eq, bne_eq_false_iff_eq, Int.toNat_natCast, Bool.not_eq_true', Bool.not_eq_false', beq_iff_eq, beq_eq_false_iff_ne, nilEq_true]
  obtain ⟨q1, q2, q3, q4⟩ := workTake_len takeLoop I (List.replicate I.sup.length false)
  simp only [List.length_replicate] at q3 q4
  unfold loopS
  generalize workTake takeLoop I (List.replicate I.sup.length false) = w0 at *
  have z : W 0 = ⟨0, 0⟩ := W_zero
  by_cases hr : rightF I = 0
  · cases hd : w0.did with
    | false =>
      rw [passF_stay hr hd]
      simp [hr, z]
      omega
    | true =>
      by_cases hq : rightF (withoutF w0.inst w0.nodes w0.arcs) = 0
      · rw [passF_done hr hd hq]
        simp [hr, hq, z, q1, q2, q3, q4]
        omega
      · rw [passF_over hr hd hq]
        simp [hr, hq, z, q1, q2, q3, q4, StepD.none]
        omega
  · rw [passF_bad hr]
    simp [hr, StepD.none]
theorem Loop_ok : SpecOk Try.prog Loop_n true (specOf true Loop_fs) :=
  spec_ok' TT_ok (show GsOk Try.prog Loop_g from gsOk_cons run15_ok (gsOk_nil)) (by kernel_rfl) mixedOrders Try.func35 rfl rfl (by kernel_rfl) (n := 1) (by decide +kernel) (I := Loop_IA) (fun _ _ => isOk_nil) (A := Loop_A)
    (fun args h r hr => by
      unfold Loop_fs at hr
      split at hr
      · rename_i ty0 I_s ty1 I_a; cases hr; refine ⟨rfl, fun hp => ?_⟩; have hE := Loop_E ⟨I_s, I_a⟩ ty0 ty1 hp; exact hE
      · cases hr)
abbrev Fix_a0 (I : Inst) := ((!(workTake takeFix I (List.replicate (↑I.sup.length : Int).toNat false)).did) = false →
 (((workTake takeFix I (List.replicate (↑I.sup.length : Int).toNat false)).inst.sup.length ≤ (1000000 : Nat) ∧
 (workTake takeFix I (List.replicate (↑I.sup.length : Int).toNat false)).inst.arcs.length ≤ (1000000 : Nat) ∧
 (workTake takeFix I (List.replicate (↑I.sup.length : Int).toNat false)).nodes.length ≤ (1000000 : Nat) ∧
 (workTake takeFix I (List.replicate (↑I.sup.length : Int).toNat false)).arcs.length ≤ (1000000 : Nat)) ∧
 True ∧
 ((rightF
 (withoutF (workTake takeFix I (List.replicate (↑I.sup.length : Int).toNat false)).inst
 (workTake takeFix I (List.replicate (↑I.sup.length : Int).toNat false)).nodes
 (workTake takeFix I (List.replicate (↑I.sup.length : Int).toNat false)).arcs) !=
 (0 : Int)) =
 true →
 (((True ∧
 True ∧
 (0 : Int) = (fixS I).fst.pass ∧
 True ∧ True ∧ (0 : Int) = (fixS I).fst.off.hi ∧ (0 : Int) = (fixS I).fst.off.lo ∧ false = (fixS I).fst.did ∧ True) ∧
 (40 : Int) = (fixS I).snd ∧ True) ∧
 True) ∧
 [] = (fixS I).fst.inst.sup ∧ [] = (fixS I).fst.inst.arcs ∧ [] = (fixS I).fst.was.sup ∧ [] = (fixS I).fst.was.arcs ∧ True) ∧
 ((rightF
 (withoutF (workTake takeFix I (List.replicate (↑I.sup.length : Int).toNat false)).inst
 (workTake takeFix I (List.replicate (↑I.sup.length : Int).toNat false)).nodes
 (workTake takeFix I (List.replicate (↑I.sup.length : Int).toNat false)).arcs) !=
 (0 : Int)) =
 false →
 (I.sup.length ≤ (1000000000 : Nat) ∧ I.arcs.length ≤ (1000000000 : Nat)) ∧
 (((True ∧
 True ∧
 (3 : Int) = (fixS I).fst.pass ∧
 True ∧
 True ∧
 (workTake takeFix I (List.replicate (↑I.sup.length : Int).toNat false)).off.hi = (fixS I).fst.off.hi ∧
 (workTake takeFix I (List.replicate (↑I.sup.length : Int).toNat false)).off.lo = (fixS I).fst.off.lo ∧
 true = (fixS I).fst.did ∧ True) ∧
 (0 : Int) = (fixS I).snd ∧ True) ∧
 True) ∧
 (withoutF (workTake takeFix I (List.replicate (↑I.sup.length : Int).toNat false)).inst
 (workTake takeFix I (List.replicate (↑I.sup.length : Int).toNat false)).nodes
 (workTake takeFix I (List.replicate (↑I.sup.length : Int).toNat false)).arcs).sup =
 (fixS I).fst.inst.sup ∧
 (withoutF (workTake takeFix I (List.replicate (↑I.sup.length : Int).toNat false)).inst
 (workTake takeFix I (List.replicate (↑I.sup.length : Int).toNat false)).nodes
 (workTake takeFix I (List.replicate (↑I.sup.length : Int).toNat false)).arcs).arcs =
 (fixS I).fst.inst.arcs ∧
 I.sup = (fixS I).fst.was.sup ∧ I.arcs = (fixS I).fst.was.arcs ∧ True)) ∧
 ((workTake takeFix I (List.replicate (↑I.sup.length : Int).toNat false)).inst.sup.length ≤ (1000000 : Nat) ∧
 (workTake takeFix I (List.replicate (↑I.sup.length : Int).toNat false)).inst.arcs.length ≤ (1000000 : Nat) ∧
 (workTake takeFix I (List.replicate (↑I.sup.length : Int).toNat false)).nodes.length ≤ (1000000 : Nat) ∧
 (workTake takeFix I (List.replicate (↑I.sup.length : Int).toNat false)).arcs.length ≤ (1000000 : Nat)) ∧
 True ∧
 ((rightF
 (withoutF (workTake takeFix I (List.replicate (↑I.sup.length : Int).toNat false)).inst
 (workTake takeFix I (List.replicate (↑I.sup.length : Int).toNat false)).nodes
 (workTake takeFix I (List.replicate (↑I.sup.length : Int).toNat false)).arcs) !=
 (0 : Int)) =
 true →
 (((True ∧
 True ∧
 (0 : Int) = (fixS I).fst.pass ∧
 True ∧ True ∧ (0 : Int) = (fixS I).fst.off.hi ∧ (0 : Int) = (fixS I).fst.off.lo ∧ false = (fixS I).fst.did ∧ True) ∧
 (40 : Int) = (fixS I).snd ∧ True) ∧
 True) ∧
 [] = (fixS I).fst.inst.sup ∧ [] = (fixS I).fst.inst.arcs ∧ [] = (fixS I).fst.was.sup ∧ [] = (fixS I).fst.was.arcs ∧ True) ∧
 ((rightF
 (withoutF (workTake takeFix I (List.replicate (↑I.sup.length : Int).toNat false)).inst
 (workTake takeFix I (List.replicate (↑I.sup.length : Int).toNat false)).nodes
 (workTake takeFix I (List.replicate (↑I.sup.length : Int).toNat false)).arcs) !=
 (0 : Int)) =
 false →
 (I.sup.length ≤ (1000000000 : Nat) ∧ I.arcs.length ≤ (1000000000 : Nat)) ∧
 (((True ∧
 True ∧
 (3 : Int) = (fixS I).fst.pass ∧
 True ∧
 True ∧
 (workTake takeFix I (List.replicate (↑I.sup.length : Int).toNat false)).off.hi = (fixS I).fst.off.hi ∧
 (workTake takeFix I (List.replicate (↑I.sup.length : Int).toNat false)).off.lo = (fixS I).fst.off.lo ∧
 true = (fixS I).fst.did ∧ True) ∧
 (0 : Int) = (fixS I).snd ∧ True) ∧
 True) ∧
 (withoutF (workTake takeFix I (List.replicate (↑I.sup.length : Int).toNat false)).inst
 (workTake takeFix I (List.replicate (↑I.sup.length : Int).toNat false)).nodes
 (workTake takeFix I (List.replicate (↑I.sup.length : Int).toNat false)).arcs).sup =
 (fixS I).fst.inst.sup ∧
 (withoutF (workTake takeFix I (List.replicate (↑I.sup.length : Int).toNat false)).inst
 (workTake takeFix I (List.replicate (↑I.sup.length : Int).toNat false)).nodes
 (workTake takeFix I (List.replicate (↑I.sup.length : Int).toNat false)).arcs).arcs =
 (fixS I).fst.inst.arcs ∧
 I.sup = (fixS I).fst.was.sup ∧ I.arcs = (fixS I).fst.was.arcs ∧ True))
abbrev Fix_a1 (I : Inst) := ((!(workTake takeFix I (List.replicate (↑I.sup.length : Int).toNat false)).did) = true →
 (I.sup.length ≤ (1000000000 : Nat) ∧ I.arcs.length ≤ (1000000000 : Nat)) ∧
 (((True ∧
 True ∧
 (0 : Int) = (fixS I).fst.pass ∧
 True ∧ True ∧ (0 : Int) = (fixS I).fst.off.hi ∧ (0 : Int) = (fixS I).fst.off.lo ∧ false = (fixS I).fst.did ∧ True) ∧
 (0 : Int) = (fixS I).snd ∧ True) ∧
 True) ∧
 I.sup = (fixS I).fst.inst.sup ∧ I.arcs = (fixS I).fst.inst.arcs ∧ [] = (fixS I).fst.was.sup ∧ [] = (fixS I).fst.was.arcs ∧ True)
abbrev Fix_a2 (I : Inst) := (rightF I = (0 : Int) ∧
 { hi := (0 : Int), lo := (0 : Int) : Wide } = W (0 : Int) ∧
 false = false ∧
 List.replicate (↑I.sup.length : Int).toNat false = List.replicate I.sup.length false ∧
 List.replicate (↑I.arcs.length : Int).toNat false = List.replicate I.arcs.length false)
abbrev Fix_a3 (I : Inst) := ((↑I.arcs.length : Int) = (↑I.arcs.length : Int) ∧ (0 : Int) ≤ (↑I.arcs.length : Int) ∧ (↑I.arcs.length : Int) ≤ (1000000000 : Int))
abbrev Fix_a4 (I : Inst) := ((↑I.sup.length : Int) = (↑I.sup.length : Int) ∧ (0 : Int) ≤ (↑I.sup.length : Int) ∧ (↑I.sup.length : Int) ≤ (1000000000 : Int))
abbrev Fix_a5 (I : Inst) := (I.sup.length ≤ (1000000000 : Nat) ∧ I.arcs.length ≤ (1000000000 : Nat))
def Fix_E0 (I : Inst) (ty0 ty1 : TypeId) : Prop :=
      True ∧
 ((rightF I != (0 : Int)) = true →
 (((True ∧ True ∧ (0 : Int) = (fixS I).fst.pass ∧ True ∧ True ∧ (0 : Int) = (fixS I).fst.off.hi ∧ (0 : Int) = (fixS I).fst.off.lo ∧ false = (fixS I).fst.did ∧ True) ∧
 rightF I = (fixS I).snd ∧ True) ∧
 True) ∧
 [] = (fixS I).fst.inst.sup ∧ [] = (fixS I).fst.inst.arcs ∧ [] = (fixS I).fst.was.sup ∧ [] = (fixS I).fst.was.arcs ∧ True) ∧
 ((rightF I != (0 : Int)) = false →
 ((Fix_a5 I) ∧
 ((Fix_a4 I) ∧
 (Fix_a3 I) ∧
 (Fix_a2 I) ∧
 (Fix_a1 I) ∧
 (Fix_a0 I)) ∧
 (Fix_a3 I) ∧
 (Fix_a4 I) ∧
 (Fix_a2 I) ∧
 (Fix_a1 I) ∧
 (Fix_a0 I)) ∧
 ((Fix_a4 I) ∧
 ((Fix_a5 I) ∧
 (Fix_a3 I) ∧
 (Fix_a2 I) ∧
 (Fix_a1 I) ∧
 (Fix_a0 I)) ∧
 (Fix_a3 I) ∧
 (Fix_a5 I) ∧
 (Fix_a2 I) ∧
 (Fix_a1 I) ∧
 (Fix_a0 I)) ∧
 (Fix_a3 I) ∧
 ((Fix_a5 I) ∧
 (Fix_a4 I) ∧
 (Fix_a2 I) ∧
 (Fix_a1 I) ∧
 (Fix_a0 I)) ∧
 (Fix_a4 I) ∧
 (Fix_a5 I) ∧
 (Fix_a2 I) ∧
 (Fix_a1 I) ∧
 (Fix_a0 I))
theorem Fix_q (I : Inst) (ty0 ty1 : TypeId) : Fix_E0 I ty0 ty1 = FVcP TT Fix_g (Fix_I I) (Fix_an I) Try.f17 [.agg [.row 0, .row 1]] [(0, .row false ty0 (.ints .i64 I.sup)), (1, .row false ty1 (.arcs I.arcs))] (Fix_r I) := by kernel_rfl
theorem Fix_E (I : Inst) (ty0 ty1 : TypeId) (hp : I.sup.length ≤ 1000000 ∧ I.arcs.length ≤ 1000000) : FVc TT Fix_g (Fix_I I) (Fix_an I) Try.f17 [.agg [.row 0, .row 1]] [(0, .row false ty0 (.ints .i64 I.sup)), (1, .row false ty1 (.arcs I.arcs))] (Fix_r I) := by
  refine FVc.of (Fix_E0 I ty0 ty1) (Fix_q I ty0 ty1) ?_
  unfold Fix_E0
  delta Fix_a5 Fix_a4 Fix_a3 Fix_a2 Fix_a1 Fix_a0
  simp only [eq_self, exists_const, forall_const, decide_eq_true_eq, decide_eq_false_iff_not, and_true, true_and, bne_iff_ne, ne_eq, bne_eq_false_iff_eq, Int.toNat_natCast, Bool.not_eq_true', Bool.not_eq_false', beq_iff_eq, beq_eq_false_iff_ne, nilEq_true]
  obtain ⟨q1, q2, q3, q4⟩ := workTake_len takeFix I (List.replicate I.sup.length false)
  simp only [List.length_replicate] at q3 q4
  unfold fixS
  generalize workTake takeFix I (List.replicate I.sup.length false) = w0 at *
  have z : W 0 = ⟨0, 0⟩ := W_zero
  by_cases hr : rightF I = 0
  · cases hd : w0.did with
    | false =>
      rw [passF_stay hr hd]
      simp [hr, z]
      omega
    | true =>
      by_cases hq : rightF (withoutF w0.inst w0.nodes w0.arcs) = 0
      · rw [passF_done hr hd hq]
        simp [hr, hq, z, q1, q2, q3, q4]
        omega
      · rw [passF_over hr hd hq]
        simp [hr, hq, z, q1, q2, q3, q4, StepD.none]
        omega
  · rw [passF_bad hr]
    simp [hr, StepD.none]
theorem Fix_ok : SpecOk Try.prog Fix_n true (specOf true Fix_fs) :=
  spec_ok' TT_ok (show GsOk Try.prog Fix_g from gsOk_cons run15_ok (gsOk_nil)) (by kernel_rfl) mixedOrders Try.func17 rfl rfl (by kernel_rfl) (n := 1) (by decide +kernel) (I := Fix_IA) (fun _ _ => isOk_nil) (A := Fix_A)
    (fun args h r hr => by
      unfold Fix_fs at hr
      split at hr
      · rename_i ty0 I_s ty1 I_a; cases hr; refine ⟨rfl, fun hp => ?_⟩; have hE := Fix_E ⟨I_s, I_a⟩ ty0 ty1 hp; exact hE
      · cases hr)
abbrev Lone_a0 (I : Inst) := ((!(workLone I (List.replicate (↑I.arcs.length : Int).toNat false)).did) = false →
 (((workLone I (List.replicate (↑I.arcs.length : Int).toNat false)).inst.sup.length ≤ (1000000 : Nat) ∧
 (workLone I (List.replicate (↑I.arcs.length : Int).toNat false)).inst.arcs.length ≤ (1000000 : Nat) ∧
 (workLone I (List.replicate (↑I.arcs.length : Int).toNat false)).nodes.length ≤ (1000000 : Nat) ∧
 (workLone I (List.replicate (↑I.arcs.length : Int).toNat false)).arcs.length ≤ (1000000 : Nat)) ∧
 True ∧
 ((rightF
 (withoutF (workLone I (List.replicate (↑I.arcs.length : Int).toNat false)).inst
 (workLone I (List.replicate (↑I.arcs.length : Int).toNat false)).nodes
 (workLone I (List.replicate (↑I.arcs.length : Int).toNat false)).arcs) !=
 (0 : Int)) =
 true →
 (((True ∧
 True ∧
 (0 : Int) = (loneS I).fst.pass ∧
 True ∧ True ∧ (0 : Int) = (loneS I).fst.off.hi ∧ (0 : Int) = (loneS I).fst.off.lo ∧ false = (loneS I).fst.did ∧ True) ∧
 (40 : Int) = (loneS I).snd ∧ True) ∧
 True) ∧
 [] = (loneS I).fst.inst.sup ∧ [] = (loneS I).fst.inst.arcs ∧ [] = (loneS I).fst.was.sup ∧ [] = (loneS I).fst.was.arcs ∧ True) ∧
 ((rightF
 (withoutF (workLone I (List.replicate (↑I.arcs.length : Int).toNat false)).inst
 (workLone I (List.replicate (↑I.arcs.length : Int).toNat false)).nodes
 (workLone I (List.replicate (↑I.arcs.length : Int).toNat false)).arcs) !=
 (0 : Int)) =
 false →
 (I.sup.length ≤ (1000000000 : Nat) ∧ I.arcs.length ≤ (1000000000 : Nat)) ∧
 (((True ∧
 True ∧
 (4 : Int) = (loneS I).fst.pass ∧
 True ∧
 True ∧
 (workLone I (List.replicate (↑I.arcs.length : Int).toNat false)).off.hi = (loneS I).fst.off.hi ∧
 (workLone I (List.replicate (↑I.arcs.length : Int).toNat false)).off.lo = (loneS I).fst.off.lo ∧
 true = (loneS I).fst.did ∧ True) ∧
 (0 : Int) = (loneS I).snd ∧ True) ∧
 True) ∧
 (withoutF (workLone I (List.replicate (↑I.arcs.length : Int).toNat false)).inst
 (workLone I (List.replicate (↑I.arcs.length : Int).toNat false)).nodes
 (workLone I (List.replicate (↑I.arcs.length : Int).toNat false)).arcs).sup =
 (loneS I).fst.inst.sup ∧
 (withoutF (workLone I (List.replicate (↑I.arcs.length : Int).toNat false)).inst
 (workLone I (List.replicate (↑I.arcs.length : Int).toNat false)).nodes
 (workLone I (List.replicate (↑I.arcs.length : Int).toNat false)).arcs).arcs =
 (loneS I).fst.inst.arcs ∧
 I.sup = (loneS I).fst.was.sup ∧ I.arcs = (loneS I).fst.was.arcs ∧ True)) ∧
 ((workLone I (List.replicate (↑I.arcs.length : Int).toNat false)).inst.sup.length ≤ (1000000 : Nat) ∧
 (workLone I (List.replicate (↑I.arcs.length : Int).toNat false)).inst.arcs.length ≤ (1000000 : Nat) ∧
 (workLone I (List.replicate (↑I.arcs.length : Int).toNat false)).nodes.length ≤ (1000000 : Nat) ∧
 (workLone I (List.replicate (↑I.arcs.length : Int).toNat false)).arcs.length ≤ (1000000 : Nat)) ∧
 True ∧
 ((rightF
 (withoutF (workLone I (List.replicate (↑I.arcs.length : Int).toNat false)).inst
 (workLone I (List.replicate (↑I.arcs.length : Int).toNat false)).nodes
 (workLone I (List.replicate (↑I.arcs.length : Int).toNat false)).arcs) !=
 (0 : Int)) =
 true →
 (((True ∧
 True ∧
 (0 : Int) = (loneS I).fst.pass ∧
 True ∧ True ∧ (0 : Int) = (loneS I).fst.off.hi ∧ (0 : Int) = (loneS I).fst.off.lo ∧ false = (loneS I).fst.did ∧ True) ∧
 (40 : Int) = (loneS I).snd ∧ True) ∧
 True) ∧
 [] = (loneS I).fst.inst.sup ∧ [] = (loneS I).fst.inst.arcs ∧ [] = (loneS I).fst.was.sup ∧ [] = (loneS I).fst.was.arcs ∧ True) ∧
 ((rightF
 (withoutF (workLone I (List.replicate (↑I.arcs.length : Int).toNat false)).inst
 (workLone I (List.replicate (↑I.arcs.length : Int).toNat false)).nodes
 (workLone I (List.replicate (↑I.arcs.length : Int).toNat false)).arcs) !=
 (0 : Int)) =
 false →
 (I.sup.length ≤ (1000000000 : Nat) ∧ I.arcs.length ≤ (1000000000 : Nat)) ∧
 (((True ∧
 True ∧
 (4 : Int) = (loneS I).fst.pass ∧
 True ∧
 True ∧
 (workLone I (List.replicate (↑I.arcs.length : Int).toNat false)).off.hi = (loneS I).fst.off.hi ∧
 (workLone I (List.replicate (↑I.arcs.length : Int).toNat false)).off.lo = (loneS I).fst.off.lo ∧
 true = (loneS I).fst.did ∧ True) ∧
 (0 : Int) = (loneS I).snd ∧ True) ∧
 True) ∧
 (withoutF (workLone I (List.replicate (↑I.arcs.length : Int).toNat false)).inst
 (workLone I (List.replicate (↑I.arcs.length : Int).toNat false)).nodes
 (workLone I (List.replicate (↑I.arcs.length : Int).toNat false)).arcs).sup =
 (loneS I).fst.inst.sup ∧
 (withoutF (workLone I (List.replicate (↑I.arcs.length : Int).toNat false)).inst
 (workLone I (List.replicate (↑I.arcs.length : Int).toNat false)).nodes
 (workLone I (List.replicate (↑I.arcs.length : Int).toNat false)).arcs).arcs =
 (loneS I).fst.inst.arcs ∧
 I.sup = (loneS I).fst.was.sup ∧ I.arcs = (loneS I).fst.was.arcs ∧ True))
abbrev Lone_a1 (I : Inst) := ((!(workLone I (List.replicate (↑I.arcs.length : Int).toNat false)).did) = true →
 (I.sup.length ≤ (1000000000 : Nat) ∧ I.arcs.length ≤ (1000000000 : Nat)) ∧
 (((True ∧
 True ∧
 (0 : Int) = (loneS I).fst.pass ∧
 True ∧ True ∧ (0 : Int) = (loneS I).fst.off.hi ∧ (0 : Int) = (loneS I).fst.off.lo ∧ false = (loneS I).fst.did ∧ True) ∧
 (0 : Int) = (loneS I).snd ∧ True) ∧
 True) ∧
 I.sup = (loneS I).fst.inst.sup ∧ I.arcs = (loneS I).fst.inst.arcs ∧ [] = (loneS I).fst.was.sup ∧ [] = (loneS I).fst.was.arcs ∧ True)
abbrev Lone_a2 (I : Inst) := (rightF I = (0 : Int) ∧
 { hi := (0 : Int), lo := (0 : Int) : Wide } = W (0 : Int) ∧
 false = false ∧
 List.replicate (↑I.sup.length : Int).toNat false = List.replicate I.sup.length false ∧
 List.replicate (↑I.arcs.length : Int).toNat false = List.replicate I.arcs.length false)
abbrev Lone_a3 (I : Inst) := ((↑I.arcs.length : Int) = (↑I.arcs.length : Int) ∧ (0 : Int) ≤ (↑I.arcs.length : Int) ∧ (↑I.arcs.length : Int) ≤ (1000000000 : Int))
abbrev Lone_a4 (I : Inst) := ((↑I.sup.length : Int) = (↑I.sup.length : Int) ∧ (0 : Int) ≤ (↑I.sup.length : Int) ∧ (↑I.sup.length : Int) ≤ (1000000000 : Int))
abbrev Lone_a5 (I : Inst) := (I.sup.length ≤ (1000000000 : Nat) ∧ I.arcs.length ≤ (1000000000 : Nat))
def Lone_E0 (I : Inst) (ty0 ty1 : TypeId) : Prop :=
      True ∧
 ((rightF I != (0 : Int)) = true →
 (((True ∧ True ∧ (0 : Int) = (loneS I).fst.pass ∧ True ∧ True ∧ (0 : Int) = (loneS I).fst.off.hi ∧ (0 : Int) = (loneS I).fst.off.lo ∧ false = (loneS I).fst.did ∧ True) ∧
 rightF I = (loneS I).snd ∧ True) ∧
 True) ∧
 [] = (loneS I).fst.inst.sup ∧ [] = (loneS I).fst.inst.arcs ∧ [] = (loneS I).fst.was.sup ∧ [] = (loneS I).fst.was.arcs ∧ True) ∧
 ((rightF I != (0 : Int)) = false →
 ((Lone_a5 I) ∧
 ((Lone_a4 I) ∧
 (Lone_a3 I) ∧
 (Lone_a2 I) ∧
 (Lone_a1 I) ∧
 (Lone_a0 I)) ∧
 (Lone_a3 I) ∧
 (Lone_a4 I) ∧
 (Lone_a2 I) ∧
 (Lone_a1 I) ∧
 (Lone_a0 I)) ∧
 ((Lone_a4 I) ∧
 ((Lone_a5 I) ∧
 (Lone_a3 I) ∧
 (Lone_a2 I) ∧
 (Lone_a1 I) ∧
 (Lone_a0 I)) ∧
 (Lone_a3 I) ∧
 (Lone_a5 I) ∧
 (Lone_a2 I) ∧
 (Lone_a1 I) ∧
 (Lone_a0 I)) ∧
 (Lone_a3 I) ∧
 ((Lone_a5 I) ∧
 (Lone_a4 I) ∧
 (Lone_a2 I) ∧
 (Lone_a1 I) ∧
 (Lone_a0 I)) ∧
 (Lone_a4 I) ∧
 (Lone_a5 I) ∧
 (Lone_a2 I) ∧
 (Lone_a1 I) ∧
 (Lone_a0 I))
theorem Lone_q (I : Inst) (ty0 ty1 : TypeId) : Lone_E0 I ty0 ty1 = FVcP TT Lone_g (Lone_I I) (Lone_an I) Try.f18 [.agg [.row 0, .row 1]] [(0, .row false ty0 (.ints .i64 I.sup)), (1, .row false ty1 (.arcs I.arcs))] (Lone_r I) := by kernel_rfl
theorem Lone_E (I : Inst) (ty0 ty1 : TypeId) (hp : I.sup.length ≤ 1000000 ∧ I.arcs.length ≤ 1000000) : FVc TT Lone_g (Lone_I I) (Lone_an I) Try.f18 [.agg [.row 0, .row 1]] [(0, .row false ty0 (.ints .i64 I.sup)), (1, .row false ty1 (.arcs I.arcs))] (Lone_r I) := by
  refine FVc.of (Lone_E0 I ty0 ty1) (Lone_q I ty0 ty1) ?_
  unfold Lone_E0
  delta Lone_a5 Lone_a4 Lone_a3 Lone_a2 Lone_a1 Lone_a0
  simp only [eq_self, exists_const, forall_const, decide_eq_true_eq, decide_eq_false_iff_not, and_true, true_and, bne_iff_ne, ne_eq, bne_eq_false_iff_eq, Int.toNat_natCast, Bool.not_eq_true', Bool.not_eq_false', beq_iff_eq, beq_eq_false_iff_ne, nilEq_true]
  obtain ⟨q1, q2, q3, q4⟩ := workLone_len I (List.replicate I.arcs.length false)
  simp only [List.length_replicate] at q3 q4
  unfold loneS
  generalize workLone I (List.replicate I.arcs.length false) = w0 at *
  have z : W 0 = ⟨0, 0⟩ := W_zero
  by_cases hr : rightF I = 0
  · cases hd : w0.did with
    | false =>
      rw [passF_stay hr hd]
      simp [hr, z]
      omega
    | true =>
      by_cases hq : rightF (withoutF w0.inst w0.nodes w0.arcs) = 0
      · rw [passF_done hr hd hq]
        simp [hr, hq, z, q1, q2, q3, q4]
        omega
      · rw [passF_over hr hd hq]
        simp [hr, hq, z, q1, q2, q3, q4, StepD.none]
        omega
  · rw [passF_bad hr]
    simp [hr, StepD.none]
theorem Lone_ok : SpecOk Try.prog Lone_n true (specOf true Lone_fs) :=
  spec_ok' TT_ok (show GsOk Try.prog Lone_g from gsOk_cons run15_ok (gsOk_nil)) (by kernel_rfl) mixedOrders Try.func18 rfl rfl (by kernel_rfl) (n := 1) (by decide +kernel) (I := Lone_IA) (fun _ _ => isOk_nil) (A := Lone_A)
    (fun args h r hr => by
      unfold Lone_fs at hr
      split at hr
      · rename_i ty0 I_s ty1 I_a; cases hr; refine ⟨rfl, fun hp => ?_⟩; have hE := Lone_E ⟨I_s, I_a⟩ ty0 ty1 hp; exact hE
      · cases hr)
end Go.Proofs.Ytahbkllfifmdfaa
