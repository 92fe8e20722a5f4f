/- Part of the proof, FA3. -/
import Derived.Test.YtnjcklhgdpgllaaZFA2
import Derived.Test.YtnjcklhgdpgllaaZDA3
import Derived.Test.YtnjcklhgdpgllaaZVc11
set_option linter.unusedVariables false
set_option linter.all false
set_option linter.unusedSimpArgs false
set_option maxRecDepth 100000
namespace Go.Proofs.Ytnjcklhgdpgllaa
open Go Go.RowKit Go.Ql Go.Vc
def rin_E0 (n : Int) : Prop :=
      (decide (n ≥ (-4398046511104 : Int)) = true → (decide (n ≤ (4398046511104 : Int)) = (decide ((-4398046511104 : Int) ≤ n) && decide (n ≤ (4398046511104 : Int))) ∧ True) ∧ True) ∧
 (decide (n ≥ (-4398046511104 : Int)) = false → (false = (decide ((-4398046511104 : Int) ≤ n) && decide (n ≤ (4398046511104 : Int))) ∧ True) ∧ True)
theorem rin_q (n : Int) : rin_E0 n = FVcP TT rin_g (rin_I n) (rin_an n) Try.f110 [.int .i64 n] [] (rin_r n) := by kernel_rfl
theorem rin_E (n : Int) (hp : True) : FVc TT rin_g (rin_I n) (rin_an n) Try.f110 [.int .i64 n] [] (rin_r n) := by
  refine FVc.of (rin_E0 n) (rin_q n) ?_
  unfold rin_E0
  simp; grind
theorem rin_ok : SpecOk Try.prog rin_n true (specOf true rin_fs) :=
  spec_ok' TT_ok (show GsOk Try.prog rin_g from gsOk_nil) (by kernel_rfl) mixedOrders Try.func110 rfl rfl (by kernel_rfl) (n := 1) (by decide +kernel) (I := rin_IA) (fun _ _ => isOk_nil) (A := rin_A)
    (fun args h r hr => by
      unfold rin_fs at hr
      split at hr
      · rename_i n; cases hr; refine ⟨rfl, fun hp => ?_⟩; have hE := rin_E n hp; exact hE
      · cases hr)
def rarc_E0 (x : Arc) (m : Int) : Prop :=
      (decide (x.src < (0 : Int)) = true → ((21 : Int) = rightArcF x m ∧ True) ∧ True) ∧
 (decide (x.src < (0 : Int)) = false →
 (decide (x.src ≥ m) = true → ((21 : Int) = rightArcF x m ∧ True) ∧ True) ∧
 (decide (x.src ≥ m) = false →
 (decide (x.dst < (0 : Int)) = true → ((21 : Int) = rightArcF x m ∧ True) ∧ True) ∧
 (decide (x.dst < (0 : Int)) = false →
 (decide (x.dst ≥ m) = true → ((21 : Int) = rightArcF x m ∧ True) ∧ True) ∧
 (decide (x.dst ≥ m) = false →
 (decide (x.low < (0 : Int)) = true → ((22 : Int) = rightArcF x m ∧ True) ∧ True) ∧
 (decide (x.low < (0 : Int)) = false →
 (decide (x.low > (4398046511104 : Int)) = true → ((22 : Int) = rightArcF x m ∧ True) ∧ True) ∧
 (decide (x.low > (4398046511104 : Int)) = false →
 ((x.cap != (4611686018427387904 : Int)) = true →
 (decide (x.cap < x.low) = true → ((22 : Int) = rightArcF x m ∧ True) ∧ True) ∧
 (decide (x.cap < x.low) = false →
 (decide (x.cap > (4398046511104 : Int)) = true → ((22 : Int) = rightArcF x m ∧ True) ∧ True) ∧
 (decide (x.cap > (4398046511104 : Int)) = false →
 True ∧
 ((!(decide ((-4398046511104 : Int) ≤ x.cost) && decide (x.cost ≤ (4398046511104 : Int)))) = true →
 ((23 : Int) = rightArcF x m ∧ True) ∧ True) ∧
 ((!(decide ((-4398046511104 : Int) ≤ x.cost) && decide (x.cost ≤ (4398046511104 : Int)))) = false →
 ((0 : Int) = rightArcF x m ∧ True) ∧ True)))) ∧
 ((x.cap != (4611686018427387904 : Int)) = false →
 True ∧
 ((!(decide ((-4398046511104 : Int) ≤ x.cost) && decide (x.cost ≤ (4398046511104 : Int)))) = true → ((23 : Int) = rightArcF x m ∧ True) ∧ True) ∧
 ((!(decide ((-4398046511104 : Int) ≤ x.cost) && decide (x.cost ≤ (4398046511104 : Int)))) = false →
 ((0 : Int) = rightArcF x m ∧ True) ∧ True))))))))
theorem rarc_q (x : Arc) (m : Int) : rarc_E0 x m = FVcP TT rarc_g (rarc_I x m) (rarc_an x m) Try.f109 [.agg (encArc x), .int .i64 m] [] (rarc_r x m) := by kernel_rfl
theorem rarc_E (x : Arc) (m : Int) (hp : True) : FVc TT rarc_g (rarc_I x m) (rarc_an x m) Try.f109 [.agg (encArc x), .int .i64 m] [] (rarc_r x m) := by
  refine FVc.of (rarc_E0 x m) (rarc_q x m) ?_
  unfold rarc_E0
  simp; unfold rightArcF; grind
theorem rarc_ok : SpecOk Try.prog rarc_n true (specOf true rarc_fs) :=
  spec_ok' TT_ok (show GsOk Try.prog rarc_g from gsOk_cons rin_ok (gsOk_nil)) (by kernel_rfl) mixedOrders Try.func109 rfl rfl (by kernel_rfl) (n := 2) (by decide +kernel) (I := rarc_IA) (fun _ _ => isOk_nil) (A := rarc_A)
    (fun args h r hr => by
      unfold rarc_fs at hr
      split at hr
      · rename_i x_0 x_1 x_2 x_3 x_4 m; cases hr; refine ⟨rfl, fun hp => ?_⟩; have hE := rarc_E ⟨x_0, x_1, x_2, x_3, x_4⟩ m hp; exact hE
      · cases hr)
def rRight_E0 (I : Inst) (ty0 ty1 : TypeId) : Prop :=
      (decide ((↑I.sup.length : Int) > (64 : Int)) = true → ((20 : Int) = rightF I ∧ True) ∧ True) ∧
 (decide ((↑I.sup.length : Int) > (64 : Int)) = false →
 (decide ((↑I.arcs.length : Int) > (256 : Int)) = true → ((20 : Int) = rightF I ∧ True) ∧ True) ∧
 (decide ((↑I.arcs.length : Int) > (256 : Int)) = false →
 ∃ (g0 : Nat),
 ((g0 ≤ I.arcs.length ∧ arcsErr (↑I.sup.length : Int) (List.drop g0 I.arcs) = arcsErr (↑I.sup.length : Int) I.arcs) ∧
 ((0 : Nat) = (0 : Nat) ∧ (0 : Int) = (↑g0 : Int) ∧ True) ∧ (True ∧ True ∧ True) ∧ I.sup = I.sup ∧ I.arcs = I.arcs ∧ True) ∧
 ∀ (g : Nat),
 g ≤ I.arcs.length ∧ arcsErr (↑I.sup.length : Int) (List.drop g I.arcs) = arcsErr (↑I.sup.length : Int) I.arcs →
 (decide ((↑g : Int) < (↑I.arcs.length : Int)) = true →
 ((0 : Int) ≤ (↑g : Int) ∧ (↑g : Int) < (↑I.arcs.length : Int)) ∧
 (↑g : Int).toNat < I.arcs.length ∧
 ∀ (x : Arc),
 I.arcs[(↑g : Int).toNat]? = some x →
 True ∧
 ((rightArcF x (↑I.sup.length : Int) != (0 : Int)) = true → (rightArcF x (↑I.sup.length : Int) = rightF I ∧ True) ∧ True) ∧
 ((rightArcF x (↑I.sup.length : Int) != (0 : Int)) = false →
 ∃ (g' : Nat),
 (g' ≤ I.arcs.length ∧ arcsErr (↑I.sup.length : Int) (List.drop g' I.arcs) = arcsErr (↑I.sup.length : Int) I.arcs) ∧
 I.arcs.length - g' < I.arcs.length - g ∧
 ((0 : Nat) = (0 : Nat) ∧ IntKind.i64.wrap ((↑g : Int) + (1 : Int)) = (↑g' : Int) ∧ True) ∧
 (True ∧ True ∧ True) ∧ I.sup = I.sup ∧ I.arcs = I.arcs ∧ True)) ∧
 (decide ((↑g : Int) < (↑I.arcs.length : Int)) = false →
 ∃ (g0 : Nat × Int),
 ((g0.fst ≤ I.sup.length ∧
 supErr (List.drop g0.fst I.sup) g0.snd = supErr I.sup (0 : Int) ∧
 -((4398046511104 : Int) * (↑g0.fst : Int)) ≤ g0.snd ∧ g0.snd ≤ (4398046511104 : Int) * (↑g0.fst : Int)) ∧
 ((0 : Nat) = (0 : Nat) ∧ (0 : Int) = g0.2 ∧ (0 : Int) = (↑g0.1 : Int) ∧ True) ∧ (True ∧ True ∧ True) ∧ I.sup = I.sup ∧ I.arcs = I.arcs ∧ True) ∧
 ∀ (g : Nat × Int),
 g.fst ≤ I.sup.length ∧
 supErr (List.drop g.fst I.sup) g.snd = supErr I.sup (0 : Int) ∧
 -((4398046511104 : Int) * (↑g.fst : Int)) ≤ g.snd ∧ g.snd ≤ (4398046511104 : Int) * (↑g.fst : Int) →
 (decide ((↑g.1 : Int) < (↑I.sup.length : Int)) = true →
 ((0 : Int) ≤ (↑g.1 : Int) ∧ (↑g.1 : Int) < (↑I.sup.length : Int)) ∧
 (↑g.1 : Int).toNat < I.sup.length ∧
 ∀ (x : Int),
 I.sup[(↑g.1 : Int).toNat]? = some x →
 True ∧
 ((!(decide ((-4398046511104 : Int) ≤ x) && decide (x ≤ (4398046511104 : Int)))) = true → ((24 : Int) = rightF I ∧ True) ∧ True) ∧
 ((!(decide ((-4398046511104 : Int) ≤ x) && decide (x ≤ (4398046511104 : Int)))) = false →
 ((0 : Int) ≤ (↑g.1 : Int) ∧ (↑g.1 : Int) < (↑I.sup.length : Int)) ∧
 (↑g.1 : Int).toNat < I.sup.length ∧
 ∀ (x : Int),
 I.sup[(↑g.1 : Int).toNat]? = some x →
 ∃ (g' : Nat × Int),
 (g'.fst ≤ I.sup.length ∧
 supErr (List.drop g'.fst I.sup) g'.snd = supErr I.sup (0 : Int) ∧
 -((4398046511104 : Int) * (↑g'.fst : Int)) ≤ g'.snd ∧ g'.snd ≤ (4398046511104 : Int) * (↑g'.fst : Int)) ∧
 I.sup.length - g'.fst < I.sup.length - g.fst ∧
 ((0 : Nat) = (0 : Nat) ∧
 IntKind.i64.wrap (g.2 + x) = g'.2 ∧ IntKind.i64.wrap ((↑g.1 : Int) + (1 : Int)) = (↑g'.1 : Int) ∧ True) ∧
 (True ∧ True ∧ True) ∧ I.sup = I.sup ∧ I.arcs = I.arcs ∧ True)) ∧
 (decide ((↑g.1 : Int) < (↑I.sup.length : Int)) = false →
 ((g.2 != (0 : Int)) = true → ((25 : Int) = rightF I ∧ True) ∧ True) ∧ ((g.2 != (0 : Int)) = false → ((0 : Int) = rightF I ∧ True) ∧ True)))))
theorem rRight_q (I : Inst) (ty0 ty1 : TypeId) : rRight_E0 I ty0 ty1 = FVcP TT rRight_g (rRight_I I) (rRight_an I) Try.f68 [.agg [.row 0, .row 1]] [(0, .row false ty0 (.ints .i64 I.sup)), (1, .row false ty1 (.arcs I.arcs))] (rRight_r I) := by kernel_rfl
theorem rRight_E (I : Inst) (ty0 ty1 : TypeId) (hp : True) : FVc TT rRight_g (rRight_I I) (rRight_an I) Try.f68 [.agg [.row 0, .row 1]] [(0, .row false ty0 (.ints .i64 I.sup)), (1, .row false ty1 (.arcs I.arcs))] (rRight_r I) := by
  refine FVc.of (rRight_E0 I ty0 ty1) (rRight_q I ty0 ty1) ?_
  unfold rRight_E0
  simp only [eq_self, decide_eq_true_eq, decide_eq_false_iff_not, and_true, true_and, bne_iff_ne, ne_eq, bne_eq_false_iff_eq, Int.toNat_natCast, Bool.not_eq_true', Bool.not_eq_false', beq_iff_eq, beq_eq_false_iff_ne]
  refine ⟨fun h => by grind [rightF], fun h1 => ⟨fun h => by grind [rightF], fun h2 => ⟨0, by simp, fun k hk => ⟨fun h3 => ⟨by omega, by omega, fun x hx => ?_⟩, fun h3 => ?_⟩⟩⟩⟩
  · have hd := drop_get hx
    rw [hd] at hk
    refine ⟨fun h4 => by grind [rightF, arcsErr], fun h4 => ⟨k + 1, by grind [arcsErr], by omega, w64 (by omega) (by omega)⟩⟩
  · rw [drop_end (by omega)] at hk
    have h0 : arcsErr I.sup.length I.arcs = 0 := hk.2.symm
    refine ⟨(0, 0), by simp, fun g hg => ?_⟩
    obtain ⟨k, s⟩ := g
    dsimp only at hg ⊢
    refine ⟨fun h4 => ⟨by omega, by omega, fun x hx => ?_⟩, fun h4 => ?_⟩
    · rw [drop_get hx] at hg
      refine ⟨fun h5 => by grind [rightF, supErr], fun h5 => ⟨by omega, by omega, fun y hy => ?_⟩⟩
      rw [hx] at hy
      cases hy
      simp at h5
      refine ⟨(k + 1, s + x), ?_, by dsimp only; omega, ?_, ?_⟩
      · refine ⟨by dsimp only; omega, ?_, by dsimp only; omega, by dsimp only; omega⟩
        grind [supErr]
      · exact w64 (by omega) (by omega)
      · exact w64 (by omega) (by omega)
    · rw [drop_end (by omega)] at hg
      grind [rightF, supErr]
theorem rRight_ok : SpecOk Try.prog rRight_n true (specOf true rRight_fs) :=
  spec_ok' TT_ok (show GsOk Try.prog rRight_g from gsOk_cons rin_ok (gsOk_cons rarc_ok (gsOk_nil))) (by kernel_rfl) mixedOrders Try.func68 rfl rfl (by kernel_rfl) (n := 1) (by decide +kernel) (I := rRight_IA) (fun _ _ => isOk_nil) (A := rRight_A)
    (fun args h r hr => by
      unfold rRight_fs at hr
      split at hr
      · rename_i ty0 I_s ty1 I_a; cases hr; refine ⟨rfl, fun hp => ?_⟩; have hE := rRight_E ⟨I_s, I_a⟩ ty0 ty1 hp; exact hE
      · cases hr)
def Nums_E0 (xs : List Int) (ys : List Int) (ty0 ty1 : TypeId) : Prop :=
      (((↑xs.length : Int) != (↑ys.length : Int)) = true → (false = decide (xs = ys) ∧ True) ∧ True) ∧
 (((↑xs.length : Int) != (↑ys.length : Int)) = false →
 ∃ (g0 : Nat),
 ((g0 ≤ xs.length ∧ List.take g0 xs = List.take g0 ys) ∧ (True ∧ True ∧ (0 : Int) = (↑g0 : Int) ∧ True) ∧ xs = xs ∧ ys = ys ∧ True) ∧
 ∀ (g : Nat),
 g ≤ xs.length ∧ List.take g xs = List.take g ys →
 (decide ((↑g : Int) < (↑xs.length : Int)) = true →
 ((0 : Int) ≤ (↑g : Int) ∧ (↑g : Int) < (↑xs.length : Int)) ∧
 (↑g : Int).toNat < xs.length ∧
 ∀ (x : Int),
 xs[(↑g : Int).toNat]? = some x →
 ((0 : Int) ≤ (↑g : Int) ∧ (↑g : Int) < (↑ys.length : Int)) ∧
 (↑g : Int).toNat < ys.length ∧
 ∀ (x_1 : Int),
 ys[(↑g : Int).toNat]? = some x_1 →
 ((x != x_1) = true → (false = decide (xs = ys) ∧ True) ∧ True) ∧
 ((x != x_1) = false →
 ∃ (g' : Nat),
 (g' ≤ xs.length ∧ List.take g' xs = List.take g' ys) ∧
 xs.length - g' < xs.length - g ∧
 (True ∧ True ∧ IntKind.i64.wrap ((↑g : Int) + (1 : Int)) = (↑g' : Int) ∧ True) ∧ xs = xs ∧ ys = ys ∧ True)) ∧
 (decide ((↑g : Int) < (↑xs.length : Int)) = false → (true = decide (xs = ys) ∧ True) ∧ True))
theorem Nums_q (xs : List Int) (ys : List Int) (ty0 ty1 : TypeId) : Nums_E0 xs ys ty0 ty1 = FVcP TT Nums_g (Nums_I xs ys) (Nums_an xs ys) Try.f32 [.row 0, .row 1] [(0, .row false ty0 (.ints .i64 xs)), (1, .row false ty1 (.ints .i64 ys))] (Nums_r xs ys) := by kernel_rfl
theorem Nums_E (xs : List Int) (ys : List Int) (ty0 ty1 : TypeId) (hp : xs.length ≤ 1000000000) : FVc TT Nums_g (Nums_I xs ys) (Nums_an xs ys) Try.f32 [.row 0, .row 1] [(0, .row false ty0 (.ints .i64 xs)), (1, .row false ty1 (.ints .i64 ys))] (Nums_r xs ys) := by
  refine FVc.of (Nums_E0 xs ys ty0 ty1) (Nums_q xs ys ty0 ty1) ?_
  unfold Nums_E0
  simp only [eq_self, decide_eq_true_eq, decide_eq_false_iff_not, and_true, true_and, bne_iff_ne, ne_eq, bne_eq_false_iff_eq, Int.toNat_natCast, Bool.not_eq_true', Bool.not_eq_false', beq_iff_eq, beq_eq_false_iff_ne]
  refine ⟨fun h => ?_, fun h1 => ⟨0, by simp, fun k hk => ⟨fun h2 => ⟨by omega, by omega, fun x hx => ⟨by omega, by omega, fun y hy => ?_⟩⟩, fun h2 => ?_⟩⟩⟩
  · exact (decide_eq_false (fun e => h (by rw [e]))).symm
  · refine ⟨fun h3 => (decide_eq_false (fun e => ?_)).symm, fun h3 => ⟨k + 1, ⟨by omega, ?_⟩, by omega, w64 (by omega) (by omega)⟩⟩
    · subst e; rw [hx] at hy; cases hy; exact h3 rfl
    · rw [take_get hx, take_get hy, hk.2, h3]
  · have h3 := hk.2
    rw [List.take_of_length_le (by omega), List.take_of_length_le (by omega)] at h3
    exact (decide_eq_true h3).symm
theorem Nums_ok : SpecOk Try.prog Nums_n true (specOf true Nums_fs) :=
  spec_ok' TT_ok (show GsOk Try.prog Nums_g from gsOk_nil) (by kernel_rfl) mixedOrders Try.func32 rfl rfl (by kernel_rfl) (n := 2) (by decide +kernel) (I := Nums_IA) (fun _ _ => isOk_nil) (A := Nums_A)
    (fun args h r hr => by
      unfold Nums_fs at hr
      split at hr
      · rename_i ty0 xs ty1 ys; cases hr; refine ⟨rfl, fun hp => ?_⟩; have hE := Nums_E xs ys ty0 ty1 hp; exact hE
      · cases hr)
def rSame_E0 (I : Inst) (J : Inst) (ty0 ty1 ty2 ty3 : TypeId) : Prop :=
      I.sup.length ≤ (1000000000 : Nat) ∧
 ((!decide (I.sup = J.sup)) = true → (false = decide (I = J) ∧ True) ∧ True) ∧
 ((!decide (I.sup = J.sup)) = false →
 (((↑I.arcs.length : Int) != (↑J.arcs.length : Int)) = true → (false = decide (I = J) ∧ True) ∧ True) ∧
 (((↑I.arcs.length : Int) != (↑J.arcs.length : Int)) = false →
 ∃ (g0 : Nat),
 ((g0 ≤ I.arcs.length ∧ List.take g0 I.arcs = List.take g0 J.arcs) ∧
 ((0 : Nat) = (0 : Nat) ∧ (0 : Nat) = (0 : Nat) ∧ (0 : Int) = (↑g0 : Int) ∧ True) ∧
 (True ∧ True ∧ True) ∧ (True ∧ True ∧ True) ∧ I.sup = I.sup ∧ I.arcs = I.arcs ∧ J.sup = J.sup ∧ J.arcs = J.arcs ∧ True) ∧
 ∀ (g : Nat),
 g ≤ I.arcs.length ∧ List.take g I.arcs = List.take g J.arcs →
 (decide ((↑g : Int) < (↑I.arcs.length : Int)) = true →
 ((0 : Int) ≤ (↑g : Int) ∧ (↑g : Int) < (↑I.arcs.length : Int)) ∧
 (↑g : Int).toNat < I.arcs.length ∧
 ∀ (x : Arc),
 I.arcs[(↑g : Int).toNat]? = some x →
 ((0 : Int) ≤ (↑g : Int) ∧ (↑g : Int) < (↑J.arcs.length : Int)) ∧
 (↑g : Int).toNat < J.arcs.length ∧
 ∀ (x_1 : Arc),
 J.arcs[(↑g : Int).toNat]? = some x_1 →
 ((!decide ([x.src, x.dst, x.low, x.cap, x.cost] = [x_1.src, x_1.dst, x_1.low, x_1.cap, x_1.cost])) = true →
 (false = decide (I = J) ∧ True) ∧ True) ∧
 ((!decide ([x.src, x.dst, x.low, x.cap, x.cost] = [x_1.src, x_1.dst, x_1.low, x_1.cap, x_1.cost])) = false →
 ∃ (g' : Nat),
 (g' ≤ I.arcs.length ∧ List.take g' I.arcs = List.take g' J.arcs) ∧
 I.arcs.length - g' < I.arcs.length - g ∧
 ((0 : Nat) = (0 : Nat) ∧ (0 : Nat) = (0 : Nat) ∧ IntKind.i64.wrap ((↑g : Int) + (1 : Int)) = (↑g' : Int) ∧ True) ∧
 (True ∧ True ∧ True) ∧ (True ∧ True ∧ True) ∧ I.sup = I.sup ∧ I.arcs = I.arcs ∧ J.sup = J.sup ∧ J.arcs = J.arcs ∧ True)) ∧
 (decide ((↑g : Int) < (↑I.arcs.length : Int)) = false → (true = decide (I = J) ∧ True) ∧ True)))
theorem rSame_q (I : Inst) (J : Inst) (ty0 ty1 ty2 ty3 : TypeId) : rSame_E0 I J ty0 ty1 ty2 ty3 = FVcP TT rSame_g (rSame_I I J) (rSame_an I J) Try.f123 [.agg [.row 0, .row 1], .agg [.row 2, .row 3]] [(0, .row false ty0 (.ints .i64 I.sup)), (1, .row false ty1 (.arcs I.arcs)), (2, .row false ty2 (.ints .i64 J.sup)), (3, .row false ty3 (.arcs J.arcs))] (rSame_r I J) := by kernel_rfl
theorem rSame_E (I : Inst) (J : Inst) (ty0 ty1 ty2 ty3 : TypeId) (hp : I.sup.length ≤ 1000000000 ∧ I.arcs.length ≤ 1000000000) : FVc TT rSame_g (rSame_I I J) (rSame_an I J) Try.f123 [.agg [.row 0, .row 1], .agg [.row 2, .row 3]] [(0, .row false ty0 (.ints .i64 I.sup)), (1, .row false ty1 (.arcs I.arcs)), (2, .row false ty2 (.ints .i64 J.sup)), (3, .row false ty3 (.arcs J.arcs))] (rSame_r I J) := by
  refine FVc.of (rSame_E0 I J ty0 ty1 ty2 ty3) (rSame_q I J ty0 ty1 ty2 ty3) ?_
  unfold rSame_E0
  simp only [eq_self, decide_eq_true_eq, decide_eq_false_iff_not, and_true, true_and, bne_iff_ne, ne_eq, bne_eq_false_iff_eq, Int.toNat_natCast, Bool.not_eq_true', Bool.not_eq_false', beq_iff_eq, beq_eq_false_iff_ne]
  obtain ⟨s, a⟩ := I
  obtain ⟨s', a'⟩ := J
  dsimp only at hp ⊢
  refine ⟨hp.1, fun h => ?_, fun h => ⟨fun h1 => ?_, fun h1 => ⟨0, by simp, fun k hk => ⟨fun h2 => ⟨by omega, by omega, fun x hx => ⟨by omega, by omega, fun y hy => ?_⟩⟩, fun h2 => ?_⟩⟩⟩⟩
  · exact (decide_eq_false (fun e => by cases e; exact h rfl)).symm
  · exact (decide_eq_false (fun e => by cases e; exact h1 rfl)).symm
  · refine ⟨fun h3 => (decide_eq_false (fun e => ?_)).symm, fun h3 => ⟨k + 1, ⟨by omega, ?_⟩, by omega, w64 (by omega) (by omega)⟩⟩
    · cases e; rw [hx] at hy; cases hy; exact h3 rfl
    · obtain ⟨p1, p2, p3, p4, p5⟩ := x
      obtain ⟨q1, q2, q3, q4, q5⟩ := y
      rw [take_get hx, take_get hy, hk.2]
      simp at h3
      simp [h3]
  · have h3 := hk.2
    rw [List.take_of_length_le (by omega), List.take_of_length_le (by omega)] at h3
    exact (decide_eq_true (by rw [h3, h])).symm
theorem rSame_ok : SpecOk Try.prog rSame_n true (specOf true rSame_fs) :=
  spec_ok' TT_ok (show GsOk Try.prog rSame_g from gsOk_cons Nums_ok (gsOk_nil)) (by kernel_rfl) mixedOrders Try.func123 rfl rfl (by kernel_rfl) (n := 2) (by decide +kernel) (I := rSame_IA) (fun _ _ => isOk_nil) (A := rSame_A)
    (fun args h r hr => by
      unfold rSame_fs at hr
      split at hr
      · rename_i ty0 I_s ty1 I_a ty2 J_s ty3 J_a; cases hr; refine ⟨rfl, fun hp => ?_⟩; have hE := rSame_E ⟨I_s, I_a⟩ ⟨J_s, J_a⟩ ty0 ty1 ty2 ty3 hp; exact hE
      · cases hr)
def Off_E0 (l : List Bool) (k : Int) (ty0 : TypeId) : Prop :=
      (decide (k < (↑l.length : Int)) = true →
 ((0 : Int) ≤ k ∧ k < (↑l.length : Int)) ∧ k.toNat < l.length ∧ ∀ (x : Bool), l[k.toNat]? = some x → (x = l.getD k.toNat false ∧ True) ∧ True) ∧
 (decide (k < (↑l.length : Int)) = false → (false = l.getD k.toNat false ∧ True) ∧ True)
theorem Off_q (l : List Bool) (k : Int) (ty0 : TypeId) : Off_E0 l k ty0 = FVcP TT Off_g (Off_I l k) (Off_an l k) Try.f143 [.row 0, .int .i64 k] [(0, .row false ty0 (.bools l))] (Off_r l k) := by kernel_rfl
theorem Off_E (l : List Bool) (k : Int) (ty0 : TypeId) (hp : 0 ≤ k) : FVc TT Off_g (Off_I l k) (Off_an l k) Try.f143 [.row 0, .int .i64 k] [(0, .row false ty0 (.bools l))] (Off_r l k) := by
  refine FVc.of (Off_E0 l k ty0) (Off_q l k ty0) ?_
  unfold Off_E0
  simp only [eq_self, decide_eq_true_eq, decide_eq_false_iff_not, and_true, true_and, bne_iff_ne, ne_eq, bne_eq_false_iff_eq, Int.toNat_natCast, Bool.not_eq_true', Bool.not_eq_false', beq_iff_eq, beq_eq_false_iff_ne]
  refine ⟨fun h => ⟨by omega, by omega, fun x hx => by simp [List.getD, hx]⟩, fun h => ?_⟩
  rw [List.getD, List.getElem?_eq_none (by omega)]; rfl
theorem Off_ok : SpecOk Try.prog Off_n true (specOf true Off_fs) :=
  spec_ok' TT_ok (show GsOk Try.prog Off_g from gsOk_nil) (by kernel_rfl) mixedOrders Try.func143 rfl rfl (by kernel_rfl) (n := 2) (by decide +kernel) (I := Off_IA) (fun _ _ => isOk_nil) (A := Off_A)
    (fun args h r hr => by
      unfold Off_fs at hr
      split at hr
      · rename_i k ty0 l; cases hr; refine ⟨rfl, fun hp => ?_⟩; have hE := Off_E l k ty0 hp; exact hE
      · cases hr)
def rKept_E0 (off : List Bool) (n : Int) (ty0 : TypeId) : Prop :=
      ∃ (g0 : Nat × List Int),
 ((g0.fst ≤ keptN n ∧ g0.snd.length ≤ g0.fst ∧ g0.snd ++ List.map Int.ofNat (keptGo off (keptN n - g0.fst) g0.fst) = List.map Int.ofNat (keptF off (keptN n))) ∧
 (True ∧ n = n ∧ True ∧ (0 : Int) = (↑g0.1 : Int) ∧ True) ∧ [] = g0.2 ∧ off = off ∧ True) ∧
 ∀ (g : Nat × List Int),
 g.fst ≤ keptN n ∧ g.snd.length ≤ g.fst ∧ g.snd ++ List.map Int.ofNat (keptGo off (keptN n - g.fst) g.fst) = List.map Int.ofNat (keptF off (keptN n)) →
 (decide ((↑g.1 : Int) < n) = true →
 (decide ((↑g.1 : Int) < (1000 : Int)) = true →
 (0 : Int) ≤ (↑g.1 : Int) ∧
 ((!off.getD (↑g.1 : Int).toNat false) = true →
 g.2.length + (1 : Nat) ≤ (1000000000 : Nat) ∧
 ∃ (g' : Nat × List Int),
 (g'.fst ≤ keptN n ∧
 g'.snd.length ≤ g'.fst ∧ g'.snd ++ List.map Int.ofNat (keptGo off (keptN n - g'.fst) g'.fst) = List.map Int.ofNat (keptF off (keptN n))) ∧
 keptN n - g'.fst < keptN n - g.fst ∧
 (True ∧ n = n ∧ True ∧ IntKind.i64.wrap ((↑g.1 : Int) + (1 : Int)) = (↑g'.1 : Int) ∧ True) ∧ g.2 ++ [(↑g.1 : Int)] = g'.2 ∧ off = off ∧ True) ∧
 ((!off.getD (↑g.1 : Int).toNat false) = false →
 ∃ (g' : Nat × List Int),
 (g'.fst ≤ keptN n ∧
 g'.snd.length ≤ g'.fst ∧ g'.snd ++ List.map Int.ofNat (keptGo off (keptN n - g'.fst) g'.fst) = List.map Int.ofNat (keptF off (keptN n))) ∧
 keptN n - g'.fst < keptN n - g.fst ∧
 (True ∧ n = n ∧ True ∧ IntKind.i64.wrap ((↑g.1 : Int) + (1 : Int)) = (↑g'.1 : Int) ∧ True) ∧ g.2 = g'.2 ∧ off = off ∧ True)) ∧
 (decide ((↑g.1 : Int) < (1000 : Int)) = false → (True ∧ True) ∧ g.2 = List.map Int.ofNat (keptF off (keptN n)) ∧ True)) ∧
 (decide ((↑g.1 : Int) < n) = false → (True ∧ True) ∧ g.2 = List.map Int.ofNat (keptF off (keptN n)) ∧ True)
theorem rKept_q (off : List Bool) (n : Int) (ty0 : TypeId) : rKept_E0 off n ty0 = FVcP TT rKept_g (rKept_I off n) (rKept_an off n) Try.f141 [.row 0, .int .i64 n] [(0, .row false ty0 (.bools off))] (rKept_r off n) := by kernel_rfl
theorem rKept_E (off : List Bool) (n : Int) (ty0 : TypeId) (hp : True) : FVc TT rKept_g (rKept_I off n) (rKept_an off n) Try.f141 [.row 0, .int .i64 n] [(0, .row false ty0 (.bools off))] (rKept_r off n) := by
  refine FVc.of (rKept_E0 off n ty0) (rKept_q off n ty0) ?_
  unfold rKept_E0
  simp only [eq_self, decide_eq_true_eq, decide_eq_false_iff_not, and_true, true_and, bne_iff_ne, ne_eq, bne_eq_false_iff_eq, Int.toNat_natCast, Bool.not_eq_true', Bool.not_eq_false', beq_iff_eq, beq_eq_false_iff_ne]
  have hM : (keptN n : Int) = min (max n 0) 1000 := by unfold keptN; omega
  refine ⟨(0, []), by simp [keptF], fun g hg => ?_⟩
  obtain ⟨k, l⟩ := g
  dsimp only at hg ⊢
  obtain ⟨g1, g2, g3⟩ := hg
  have hend : keptN n ≤ k → l = (keptF off (keptN n)).map Int.ofNat := fun h => by
    rw [← g3, show keptN n - k = 0 by omega]; simp [keptGo]
  refine ⟨fun h1 => ⟨fun h2 => ⟨by omega, fun h3 => ⟨by simp; omega, (k + 1, l ++ [(k : Int)]), ⟨by dsimp only; omega, by simp; omega, ?_⟩, by dsimp only; omega, ⟨w64 (by omega) (by omega), by simp⟩⟩, fun h3 => ⟨(k + 1, l), ⟨by dsimp only; omega, by dsimp only; omega, ?_⟩, by dsimp only; omega, w64 (by omega) (by omega), rfl⟩⟩, fun h2 => hend (by omega)⟩, fun h1 => hend (by omega)⟩
  all_goals
    rw [← g3, show keptN n - k = (keptN n - (k + 1)) + 1 by omega, keptGo]
    simp_all
theorem rKept_ok : SpecOk Try.prog rKept_n true (specOf true rKept_fs) :=
  spec_ok' TT_ok (show GsOk Try.prog rKept_g from gsOk_cons Off_ok (gsOk_nil)) (by kernel_rfl) mixedOrders Try.func141 rfl rfl (by kernel_rfl) (n := 2) (by decide +kernel) (I := rKept_IA) (fun _ _ => isOk_nil) (A := rKept_A)
    (fun args h r hr => by
      unfold rKept_fs at hr
      split at hr
      · rename_i n ty0 off; cases hr; refine ⟨rfl, fun hp => ?_⟩; have hE := rKept_E off n ty0 hp; exact hE
      · cases hr)
def Place_E0 (l : List Int) (n : Int) (ty0 : TypeId) : Prop :=
      ∃ (g0 : Nat),
 ((g0 ≤ l.length ∧ placeI n (List.drop g0 l) g0 = placeI n l (0 : Nat)) ∧ (True ∧ n = n ∧ (0 : Int) = (↑g0 : Int) ∧ True) ∧ l = l ∧ True) ∧
 ∀ (g : Nat),
 g ≤ l.length ∧ placeI n (List.drop g l) g = placeI n l (0 : Nat) →
 (decide ((↑g : Int) < (↑l.length : Int)) = true →
 ((0 : Int) ≤ (↑g : Int) ∧ (↑g : Int) < (↑l.length : Int)) ∧
 (↑g : Int).toNat < l.length ∧
 ∀ (x : Int),
 l[(↑g : Int).toNat]? = some x →
 ((x == n) = true → ((↑g : Int) = placeI n l (0 : Nat) ∧ True) ∧ True) ∧
 ((x == n) = false →
 ∃ (g' : Nat),
 (g' ≤ l.length ∧ placeI n (List.drop g' l) g' = placeI n l (0 : Nat)) ∧
 l.length - g' < l.length - g ∧ (True ∧ n = n ∧ IntKind.i64.wrap ((↑g : Int) + (1 : Int)) = (↑g' : Int) ∧ True) ∧ l = l ∧ True)) ∧
 (decide ((↑g : Int) < (↑l.length : Int)) = false → ((-1 : Int) = placeI n l (0 : Nat) ∧ True) ∧ True)
theorem Place_q (l : List Int) (n : Int) (ty0 : TypeId) : Place_E0 l n ty0 = FVcP TT Place_g (Place_I l n) (Place_an l n) Try.f142 [.row 0, .int .i64 n] [(0, .row false ty0 (.ints .i64 l))] (Place_r l n) := by kernel_rfl
theorem Place_E (l : List Int) (n : Int) (ty0 : TypeId) (hp : l.length ≤ 1000000000) : FVc TT Place_g (Place_I l n) (Place_an l n) Try.f142 [.row 0, .int .i64 n] [(0, .row false ty0 (.ints .i64 l))] (Place_r l n) := by
  refine FVc.of (Place_E0 l n ty0) (Place_q l n ty0) ?_
  unfold Place_E0
  simp only [eq_self, decide_eq_true_eq, decide_eq_false_iff_not, and_true, true_and, bne_iff_ne, ne_eq, bne_eq_false_iff_eq, Int.toNat_natCast, Bool.not_eq_true', Bool.not_eq_false', beq_iff_eq, beq_eq_false_iff_ne]
  refine ⟨0, by simp, fun k hk => ⟨fun h1 => ⟨by omega, by omega, fun x hx => ?_⟩, fun h1 => ?_⟩⟩
  · rw [drop_get hx, placeI] at hk
    refine ⟨fun h2 => by rw [if_pos h2] at hk; exact hk.2, fun h2 => ⟨k + 1, ⟨by omega, by rw [if_neg h2] at hk; exact hk.2⟩, by omega, w64 (by omega) (by omega)⟩⟩
  · rw [drop_end (by omega), placeI] at hk
    exact hk.2
theorem Place_ok : SpecOk Try.prog Place_n true (specOf true Place_fs) :=
  spec_ok' TT_ok (show GsOk Try.prog Place_g from gsOk_nil) (by kernel_rfl) mixedOrders Try.func142 rfl rfl (by kernel_rfl) (n := 2) (by decide +kernel) (I := Place_IA) (fun _ _ => isOk_nil) (A := Place_A)
    (fun args h r hr => by
      unfold Place_fs at hr
      split at hr
      · rename_i n ty0 l; cases hr; refine ⟨rfl, fun hp => ?_⟩; have hE := Place_E l n ty0 hp; exact hE
      · cases hr)
def Copy_E0 (I : Inst) (ty0 ty1 : TypeId) : Prop :=
      I.sup.length ≤ (1000000000 : Nat) ∧ I.arcs.length ≤ (1000000000 : Nat) ∧ ((True ∧ True ∧ True) ∧ True) ∧ I.sup = I.sup ∧ I.arcs = I.arcs ∧ True
theorem Copy_q (I : Inst) (ty0 ty1 : TypeId) : Copy_E0 I ty0 ty1 = FVcP TT Copy_g (Copy_I I) (Copy_an I) Try.f84 [.agg [.row 0, .row 1]] [(0, .row false ty0 (.ints .i64 I.sup)), (1, .row false ty1 (.arcs I.arcs))] (Copy_r I) := by kernel_rfl
theorem Copy_E (I : Inst) (ty0 ty1 : TypeId) (hp : I.sup.length ≤ 1000000000 ∧ I.arcs.length ≤ 1000000000) : FVc TT Copy_g (Copy_I I) (Copy_an I) Try.f84 [.agg [.row 0, .row 1]] [(0, .row false ty0 (.ints .i64 I.sup)), (1, .row false ty1 (.arcs I.arcs))] (Copy_r I) := by
  refine FVc.of (Copy_E0 I ty0 ty1) (Copy_q I ty0 ty1) ?_
  unfold Copy_E0
  simp [hp]
theorem Copy_ok : SpecOk Try.prog Copy_n true (specOf true Copy_fs) :=
  spec_ok' TT_ok (show GsOk Try.prog Copy_g from gsOk_cons takeI_ok (gsOk_cons takeA_ok (gsOk_nil))) (by kernel_rfl) mixedOrders Try.func84 rfl rfl (by kernel_rfl) (n := 1) (by decide +kernel) (I := Copy_IA) (fun _ _ => isOk_nil) (A := Copy_A)
    (fun args h r hr => by
      unfold Copy_fs at hr
      split at hr
      · rename_i ty0 I_s ty1 I_a; cases hr; refine ⟨rfl, fun hp => ?_⟩; have hE := Copy_E ⟨I_s, I_a⟩ ty0 ty1 hp; exact hE
      · cases hr)
def Size_E0 (I : Inst) (ty0 ty1 : TypeId) : Prop :=
      (IntKind.i64.wrap ((↑I.sup.length : Int) + IntKind.i64.wrap ((2 : Int) * (↑I.arcs.length : Int))) = (↑I.sup.length : Int) + (2 : Int) * (↑I.arcs.length : Int) ∧ True) ∧ True
theorem Size_q (I : Inst) (ty0 ty1 : TypeId) : Size_E0 I ty0 ty1 = FVcP TT Size_g (Size_I I) (Size_an I) Try.f29 [.agg [.row 0, .row 1]] [(0, .row false ty0 (.ints .i64 I.sup)), (1, .row false ty1 (.arcs I.arcs))] (Size_r I) := by kernel_rfl
theorem Size_E (I : Inst) (ty0 ty1 : TypeId) (hp : I.sup.length ≤ 1000000000000000000 ∧ I.arcs.length ≤ 1000000000000000000) : FVc TT Size_g (Size_I I) (Size_an I) Try.f29 [.agg [.row 0, .row 1]] [(0, .row false ty0 (.ints .i64 I.sup)), (1, .row false ty1 (.arcs I.arcs))] (Size_r I) := by
  refine FVc.of (Size_E0 I ty0 ty1) (Size_q I ty0 ty1) ?_
  unfold Size_E0
  simp only [eq_self, decide_eq_true_eq, decide_eq_false_iff_not, and_true, true_and, bne_iff_ne, ne_eq, bne_eq_false_iff_eq, Int.toNat_natCast, Bool.not_eq_true', Bool.not_eq_false', beq_iff_eq, beq_eq_false_iff_ne]
  rw [w64 (x := 2 * (I.arcs.length : Int)) (by omega) (by omega), w64 (by omega) (by omega)]
theorem Size_ok : SpecOk Try.prog Size_n true (specOf true Size_fs) :=
  spec_ok' TT_ok (show GsOk Try.prog Size_g from gsOk_nil) (by kernel_rfl) mixedOrders Try.func29 rfl rfl (by kernel_rfl) (n := 1) (by decide +kernel) (I := Size_IA) (fun _ _ => isOk_nil) (A := Size_A)
    (fun args h r hr => by
      unfold Size_fs at hr
      split at hr
      · rename_i ty0 I_s ty1 I_a; cases hr; refine ⟨rfl, fun hp => ?_⟩; have hE := Size_E ⟨I_s, I_a⟩ ty0 ty1 hp; exact hE
      · cases hr)
abbrev Arcs_a0 (many : Int) (g : Nat × List Arc) (g' : Nat × List Arc) := (True ∧
 many = many ∧
 True ∧
 IntKind.i64.wrap ((4 : Int) * (↑g.1 : Int) + (4 : Int)) =
 (4 : Int) * (↑g'.1 : Int) ∧
 True)
abbrev Arcs_a1 (g' : Nat × List Arc) (c : List Int) (many : Int) := (g'.fst ≤ (18 : Nat) ∧
 g'.snd.length ≤ g'.fst ∧
 g'.snd ++ arcsGo c many ((18 : Nat) - g'.fst) ((4 : Nat) * g'.fst) =
 arcsF c many)
abbrev Arcs_a2 (x_2 : Int) (x_4 : Int) := (IntKind.i64.wrap (x_2.tmod (3 : Int)) + IntKind.i64.wrap ((IntKind.u8.wrap (x_4.tdiv (3 : Int))).tmod (6 : Int)))
abbrev Arcs_a3 (x_1 : Int) := (IntKind.i64.wrap (IntKind.u8.wrap (x_1.tdiv (16 : Int))))
abbrev Arcs_a4 (g : Nat × List Arc) := (IntKind.i64.wrap ((4 : Int) * (↑g.1 : Int) + (1 : Int)))
abbrev Arcs_a5 (g : Nat × List Arc) (c : List Int) := ((0 : Int) ≤ IntKind.i64.wrap ((4 : Int) * (↑g.1 : Int) + (1 : Int)) ∧
 IntKind.i64.wrap ((4 : Int) * (↑g.1 : Int) + (1 : Int)) < (↑c.length : Int))
def Arcs_E0 (c : List Int) (many : Int) (ty0 : TypeId) : Prop :=
      ∃ (g0 : Nat × List Arc),
 ((g0.fst ≤ (18 : Nat) ∧ g0.snd.length ≤ g0.fst ∧ g0.snd ++ arcsGo c many ((18 : Nat) - g0.fst) ((4 : Nat) * g0.fst) = arcsF c many) ∧
 (True ∧ many = many ∧ True ∧ (0 : Int) = (4 : Int) * (↑g0.1 : Int) ∧ True) ∧ [] = g0.2 ∧ c = c ∧ True) ∧
 ∀ (g : Nat × List Arc),
 g.fst ≤ (18 : Nat) ∧ g.snd.length ≤ g.fst ∧ g.snd ++ arcsGo c many ((18 : Nat) - g.fst) ((4 : Nat) * g.fst) = arcsF c many →
 (decide (IntKind.i64.wrap ((4 : Int) * (↑g.1 : Int) + (3 : Int)) < (↑c.length : Int)) = true →
 (decide ((4 : Int) * (↑g.1 : Int) < (72 : Int)) = true →
 ((0 : Int) ≤ (4 : Int) * (↑g.1 : Int) ∧ (4 : Int) * (↑g.1 : Int) < (↑c.length : Int)) ∧
 ((4 : Int) * (↑g.1 : Int)).toNat < c.length ∧
 ∀ (x : Int),
 c[((4 : Int) * (↑g.1 : Int)).toNat]? = some x →
 many ≠ (0 : Int) ∧
 ((0 : Int) ≤ (4 : Int) * (↑g.1 : Int) ∧ (4 : Int) * (↑g.1 : Int) < (↑c.length : Int)) ∧
 ((4 : Int) * (↑g.1 : Int)).toNat < c.length ∧
 ∀ (x_1 : Int),
 c[((4 : Int) * (↑g.1 : Int)).toNat]? = some x_1 →
 (16 : Int) ≠ (0 : Int) ∧
 many ≠ (0 : Int) ∧
 (Arcs_a5 g c) ∧
 (Arcs_a4 g).toNat < c.length ∧
 ∀ (x_2 : Int),
 c[(Arcs_a4 g).toNat]? = some x_2 →
 (3 : Int) ≠ (0 : Int) ∧
 ((0 : Int) ≤ IntKind.i64.wrap ((4 : Int) * (↑g.1 : Int) + (2 : Int)) ∧
 IntKind.i64.wrap ((4 : Int) * (↑g.1 : Int) + (2 : Int)) < (↑c.length : Int)) ∧
 (IntKind.i64.wrap ((4 : Int) * (↑g.1 : Int) + (2 : Int))).toNat < c.length ∧
 ∀ (x_3 : Int),
 c[(IntKind.i64.wrap ((4 : Int) * (↑g.1 : Int) + (2 : Int))).toNat]? = some x_3 →
 (21 : Int) ≠ (0 : Int) ∧
 (Arcs_a5 g c) ∧
 (Arcs_a4 g).toNat < c.length ∧
 ∀ (x_4 : Int),
 c[(Arcs_a4 g).toNat]? = some x_4 →
 (3 : Int) ≠ (0 : Int) ∧
 (6 : Int) ≠ (0 : Int) ∧
 ((0 : Int) ≤ IntKind.i64.wrap ((4 : Int) * (↑g.1 : Int) + (3 : Int)) ∧
 IntKind.i64.wrap ((4 : Int) * (↑g.1 : Int) + (3 : Int)) < (↑c.length : Int)) ∧
 (IntKind.i64.wrap ((4 : Int) * (↑g.1 : Int) + (3 : Int))).toNat < c.length ∧
 ∀ (x_5 : Int),
 c[(IntKind.i64.wrap ((4 : Int) * (↑g.1 : Int) + (3 : Int))).toNat]? = some x_5 →
 (8 : Int) ≠ (0 : Int) ∧
 ((x_5.tmod (8 : Int) == (0 : Int)) = true →
 g.2.length + (1 : Nat) ≤ (1000000000 : Nat) ∧
 ∃ (g' : Nat × List Arc),
 (g'.fst ≤ (18 : Nat) ∧
 g'.snd.length ≤ g'.fst ∧
 g'.snd ++ arcsGo c many ((18 : Nat) - g'.fst) ((4 : Nat) * g'.fst) = arcsF c many) ∧
 (18 : Nat) - g'.fst < (18 : Nat) - g.fst ∧
 (Arcs_a0 many g g') ∧
 g.2 ++
 [{ src := (IntKind.i64.wrap x).tmod many, dst := (Arcs_a3 x_1).tmod many, low := IntKind.i64.wrap (x_2.tmod (3 : Int)), cap := (4611686018427387904 : Int), cost := IntKind.i64.wrap (IntKind.i64.wrap (x_3.tmod (21 : Int)) - (8 : Int)) : Arc }] =
 g'.2 ∧
 c = c ∧ True) ∧
 ((x_5.tmod (8 : Int) == (0 : Int)) = false →
 ((x_5.tmod (8 : Int) == (1 : Int)) = true →
 g.2.length + (1 : Nat) ≤ (1000000000 : Nat) ∧
 ∃ (g' : Nat × List Arc),
 (Arcs_a1 g' c many) ∧
 (18 : Nat) - g'.fst < (18 : Nat) - g.fst ∧
 (Arcs_a0 many g g') ∧
 g.2 ++
 [{ src := (IntKind.i64.wrap x).tmod many, dst := (Arcs_a3 x_1).tmod many, low := (0 : Int), cap := IntKind.i64.wrap (Arcs_a2 x_2 x_4), cost := IntKind.i64.wrap (IntKind.i64.wrap (x_3.tmod (21 : Int)) - (8 : Int)) : Arc }] =
 g'.2 ∧
 c = c ∧ True) ∧
 ((x_5.tmod (8 : Int) == (1 : Int)) = false →
 ((x_5.tmod (8 : Int) == (2 : Int)) = true →
 g.2.length + (1 : Nat) ≤ (1000000000 : Nat) ∧
 ∃ (g' : Nat × List Arc),
 (Arcs_a1 g' c many) ∧
 (18 : Nat) - g'.fst < (18 : Nat) - g.fst ∧
 (Arcs_a0 many g g') ∧
 g.2 ++
 [{ src := (IntKind.i64.wrap x).tmod many, dst := (Arcs_a3 x_1).tmod many, low := IntKind.i64.wrap (x_2.tmod (3 : Int)), cap := IntKind.i64.wrap (Arcs_a2 x_2 x_4), cost := (0 : Int) : Arc }] =
 g'.2 ∧
 c = c ∧ True) ∧
 ((x_5.tmod (8 : Int) == (2 : Int)) = false →
 g.2.length + (1 : Nat) ≤ (1000000000 : Nat) ∧
 ∃ (g' : Nat × List Arc),
 (Arcs_a1 g' c many) ∧
 (18 : Nat) - g'.fst < (18 : Nat) - g.fst ∧
 (Arcs_a0 many g g') ∧
 g.2 ++
 [{ src := (IntKind.i64.wrap x).tmod many, dst := (Arcs_a3 x_1).tmod many, low := IntKind.i64.wrap (x_2.tmod (3 : Int)), cap := IntKind.i64.wrap (Arcs_a2 x_2 x_4), cost := IntKind.i64.wrap (IntKind.i64.wrap (x_3.tmod (21 : Int)) - (8 : Int)) : Arc }] =
 g'.2 ∧
 c = c ∧ True)))) ∧
 (decide ((4 : Int) * (↑g.1 : Int) < (72 : Int)) = false → (True ∧ True) ∧ g.2 = arcsF c many ∧ True)) ∧
 (decide (IntKind.i64.wrap ((4 : Int) * (↑g.1 : Int) + (3 : Int)) < (↑c.length : Int)) = false → (True ∧ True) ∧ g.2 = arcsF c many ∧ True)
theorem Arcs_q (c : List Int) (many : Int) (ty0 : TypeId) : Arcs_E0 c many ty0 = FVcP TT Arcs_g (Arcs_I c many) (Arcs_an c many) Try.f55 [.row 0, .int .i64 many] [(0, .row false ty0 (.ints .u8 c))] (Arcs_r c many) := by kernel_rfl
theorem Arcs_E (c : List Int) (many : Int) (ty0 : TypeId) (hp : Bytes c ∧ 1 ≤ many ∧ many ≤ 1000) : FVc TT Arcs_g (Arcs_I c many) (Arcs_an c many) Try.f55 [.row 0, .int .i64 many] [(0, .row false ty0 (.ints .u8 c))] (Arcs_r c many) := by
  refine FVc.of (Arcs_E0 c many ty0) (Arcs_q c many ty0) ?_
  unfold Arcs_E0
  delta Arcs_a5 Arcs_a4 Arcs_a3 Arcs_a2 Arcs_a1 Arcs_a0
  simp only [eq_self, decide_eq_true_eq, decide_eq_false_iff_not, and_true, true_and, bne_iff_ne, ne_eq, bne_eq_false_iff_eq, Int.toNat_natCast, Bool.not_eq_true', Bool.not_eq_false', beq_iff_eq, beq_eq_false_iff_ne]
  obtain ⟨hb, hm1, hm2⟩ := hp
  refine ⟨(0, []), by simp [arcsF], fun g hg => ?_⟩
  obtain ⟨k, l⟩ := g
  dsimp only at hg ⊢
  obtain ⟨g1, g2, g3⟩ := hg
  have e0 : ∀ j : Int, 0 ≤ j → j ≤ 3 → IntKind.i64.wrap (4 * (k : Int) + j) = 4 * (k : Int) + j := fun j h1 h2 => w64 (by omega) (by omega)
  rw [e0 3 (by omega) (by omega), e0 1 (by omega) (by omega), e0 2 (by omega) (by omega)]
  have t0 : (4 * (k : Int)).toNat = 4 * k := by omega
  have t1 : (4 * (k : Int) + 1).toNat = 4 * k + 1 := by omega
  have t2 : (4 * (k : Int) + 2).toNat = 4 * k + 2 := by omega
  have t3 : (4 * (k : Int) + 3).toNat = 4 * k + 3 := by omega
  rw [t0, t1, t2, t3]
  have hend : (18 ≤ k ∨ c.length ≤ 4 * k + 3) → l = arcsF c many := fun h => by
    rw [← g3]
    by_cases h18 : 18 - k = 0
    · rw [h18]; simp [arcsGo]
    · rw [show 18 - k = (17 - k) + 1 by omega, arcsGo, if_neg (by omega)]; simp
  refine ⟨fun h1 => ⟨fun h2 => ⟨by omega, by omega, fun x hx => ⟨by omega, by omega, by omega, fun x1 hx1 => ⟨by omega, by omega, by omega, by omega, fun x2 hx2 => ⟨by omega, by omega, by omega, fun x3 hx3 => ⟨by omega, by omega, by omega, fun x4 hx4 => ⟨by omega, by omega, by omega, by omega, fun x5 hx5 => ?_⟩⟩⟩⟩⟩⟩, fun h2 => hend (by omega)⟩, fun h1 => hend (by omega)⟩
  rw [hx] at hx1
  rw [hx2] at hx4
  cases hx1
  cases hx4
  have bx := hb x (List.mem_of_getElem? hx)
  have bx2 := hb x2 (List.mem_of_getElem? hx2)
  have bx3 := hb x3 (List.mem_of_getElem? hx3)
  have bx5 := hb x5 (List.mem_of_getElem? hx5)
  have hstep : l ++ [arcOf x x2 x3 x5 many] ++ arcsGo c many (18 - (k + 1)) (4 * (k + 1)) = arcsF c many := by
    rw [← g3, show 18 - k = (18 - (k + 1)) + 1 by omega, arcsGo, if_pos (by omega)]
    simp only [List.getD, hx, hx2, hx3, hx5, Option.getD_some, List.append_assoc, List.cons_append, List.nil_append]
    rw [show 4 * k + 4 = 4 * (k + 1) by omega]
  have r1 : x5.tmod 8 = x5 % 8 := tmod_pos bx5.1
  have r2 : IntKind.i64.wrap x = x := w64 (by omega) (by omega)
  have r3 : x.tmod many = x % many := tmod_pos bx.1
  have r4 : x.tdiv 16 = x / 16 := tdiv_pos bx.1
  have r5 : IntKind.u8.wrap (x / 16) = x / 16 := wu8 (by omega) (by omega)
  have r6 : IntKind.i64.wrap (x / 16) = x / 16 := w64 (by omega) (by omega)
  have r7 : (x / 16).tmod many = x / 16 % many := tmod_pos (by omega)
  have r8 : x2.tmod 3 = x2 % 3 := tmod_pos bx2.1
  have r9 : IntKind.i64.wrap (x2 % 3) = x2 % 3 := w64 (by omega) (by omega)
  have r10 : x3.tmod 21 = x3 % 21 := tmod_pos bx3.1
  have r11 : IntKind.i64.wrap (x3 % 21) = x3 % 21 := w64 (by omega) (by omega)
  have r12 : IntKind.i64.wrap (x3 % 21 - 8) = x3 % 21 - 8 := w64 (by omega) (by omega)
  have r13 : x2.tdiv 3 = x2 / 3 := tdiv_pos bx2.1
  have r14 : IntKind.u8.wrap (x2 / 3) = x2 / 3 := wu8 (by omega) (by omega)
  have r15 : (x2 / 3).tmod 6 = x2 / 3 % 6 := tmod_pos (by omega)
  have r16 : IntKind.i64.wrap (x2 / 3 % 6) = x2 / 3 % 6 := w64 (by omega) (by omega)
  have r17 : IntKind.i64.wrap (x2 % 3 + x2 / 3 % 6) = x2 % 3 + x2 / 3 % 6 := w64 (by omega) (by omega)
  simp only [r1, r2, r3, r4, r5, r6, r7, r8, r9, r10, r11, r12, r13, r14, r15, r16, r17, List.nil_append]
  have hk4 : IntKind.i64.wrap (4 * (k : Int) + 4) = 4 * ((k + 1 : Nat) : Int) := by rw [w64 (by omega) (by omega)]; omega
  have hlen : l.length + 1 ≤ 1000000000 := by omega
  refine ⟨by omega, fun q0 => ?_, fun q0 => ⟨fun q1 => ?_, fun q1 => ⟨fun q2 => ?_, fun q2 => ?_⟩⟩⟩
  all_goals
    refine ⟨by simp; omega, (k + 1, l ++ [arcOf x x2 x3 x5 many]), ⟨by dsimp only; omega, by simp; omega, hstep⟩, by dsimp only; omega, ⟨hk4, ?_⟩⟩
    simp [arcOf, *]
theorem Arcs_ok : SpecOk Try.prog Arcs_n true (specOf true Arcs_fs) :=
  spec_ok' TT_ok (show GsOk Try.prog Arcs_g from gsOk_nil) (by kernel_rfl) mixedOrders Try.func55 rfl rfl (by kernel_rfl) (n := 2) (by decide +kernel) (I := Arcs_IA) (fun _ _ => isOk_nil) (A := Arcs_A)
    (fun args h r hr => by
      unfold Arcs_fs at hr
      split at hr
      · rename_i many ty0 c; cases hr; refine ⟨rfl, fun hp => ?_⟩; have hE := Arcs_E c many ty0 hp; exact hE
      · cases hr)
end Go.Proofs.Ytnjcklhgdpgllaa
