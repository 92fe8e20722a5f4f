/- Part of the proof, FA2. -/
import Derived.Test.YtggblkbecekbdaaZFA1
import Derived.Test.YtggblkbecekbdaaZDA2
import Derived.Test.YtggblkbecekbdaaZVc11
set_option linter.unusedVariables false
set_option linter.all false
set_option linter.unusedSimpArgs false
set_option maxRecDepth 100000
namespace Go.Proofs.Ytggblkbecekbdaa
open Go Go.RowKit Go.Ql Go.Vc
def Right_E0 (I : Inst) (ty0 ty1 : TypeId) : Prop :=
      (decide ((↑I.sup.length : Int) > (64 : Int)) = true → ((20 : Int) = rightF I ∧ True) ∧ True) ∧
 (decide ((↑I.sup.length : Int) > (64 : Int)) = false →
 (decide ((↑I.arcs.length : Int) > (256 : Int)) = true → ((20 : Int) = rightF I ∧ True) ∧ True) ∧
 (decide ((↑I.arcs.length : Int) > (256 : Int)) = false →
 ∃ (g0 : Nat),
 ((g0 ≤ I.arcs.length ∧ arcsErr (↑I.sup.length : Int) (List.drop g0 I.arcs) = arcsErr (↑I.sup.length : Int) I.arcs) ∧
 ((0 : Nat) = (0 : Nat) ∧ True ∧ (↑I.arcs.length : Int) = (↑I.arcs.length : Int) ∧ (0 : Int) = (↑g0 : Int) ∧ True) ∧
 (True ∧ True ∧ True) ∧ I.sup = I.sup ∧ I.arcs = I.arcs ∧ True) ∧
 ∀ (g : Nat),
 g ≤ I.arcs.length ∧ arcsErr (↑I.sup.length : Int) (List.drop g I.arcs) = arcsErr (↑I.sup.length : Int) I.arcs →
 (decide ((↑g : Int) < (↑I.arcs.length : Int)) = true →
 ((0 : Int) ≤ (↑g : Int) ∧ (↑g : Int) < (↑I.arcs.length : Int)) ∧
 (↑g : Int).toNat < I.arcs.length ∧
 ∀ (x : Arc),
 I.arcs[(↑g : Int).toNat]? = some x →
 True ∧
 ((rightArcF x (↑I.sup.length : Int) != (0 : Int)) = true → (rightArcF x (↑I.sup.length : Int) = rightF I ∧ True) ∧ True) ∧
 ((rightArcF x (↑I.sup.length : Int) != (0 : Int)) = false →
 ∃ (g' : Nat),
 (g' ≤ I.arcs.length ∧ arcsErr (↑I.sup.length : Int) (List.drop g' I.arcs) = arcsErr (↑I.sup.length : Int) I.arcs) ∧
 I.arcs.length - g' < I.arcs.length - g ∧
 ((0 : Nat) = (0 : Nat) ∧
 True ∧ (↑I.arcs.length : Int) = (↑I.arcs.length : Int) ∧ IntKind.i64.wrap ((↑g : Int) + (1 : Int)) = (↑g' : Int) ∧ True) ∧
 (True ∧ True ∧ True) ∧ I.sup = I.sup ∧ I.arcs = I.arcs ∧ True)) ∧
 (decide ((↑g : Int) < (↑I.arcs.length : Int)) = false →
 ∃ (g0 : Nat × Int),
 ((g0.fst ≤ I.sup.length ∧
 supErr (List.drop g0.fst I.sup) g0.snd = supErr I.sup (0 : Int) ∧
 -((4398046511104 : Int) * (↑g0.fst : Int)) ≤ g0.snd ∧ g0.snd ≤ (4398046511104 : Int) * (↑g0.fst : Int)) ∧
 ((0 : Int) = g0.2 ∧ True ∧ (↑I.sup.length : Int) = (↑I.sup.length : Int) ∧ (0 : Int) = (↑g0.1 : Int) ∧ True) ∧ I.sup = I.sup ∧ True) ∧
 ∀ (g : Nat × Int),
 g.fst ≤ I.sup.length ∧
 supErr (List.drop g.fst I.sup) g.snd = supErr I.sup (0 : Int) ∧
 -((4398046511104 : Int) * (↑g.fst : Int)) ≤ g.snd ∧ g.snd ≤ (4398046511104 : Int) * (↑g.fst : Int) →
 (decide ((↑g.1 : Int) < (↑I.sup.length : Int)) = true →
 ((0 : Int) ≤ (↑g.1 : Int) ∧ (↑g.1 : Int) < (↑I.sup.length : Int)) ∧
 (↑g.1 : Int).toNat < I.sup.length ∧
 ∀ (x : Int),
 I.sup[(↑g.1 : Int).toNat]? = some x →
 (decide (x < (-4398046511104 : Int)) = true → ((24 : Int) = rightF I ∧ True) ∧ True) ∧
 (decide (x < (-4398046511104 : Int)) = false →
 (decide (x > (4398046511104 : Int)) = true → ((24 : Int) = rightF I ∧ True) ∧ True) ∧
 (decide (x > (4398046511104 : Int)) = false →
 ∃ (g' : Nat × Int),
 (g'.fst ≤ I.sup.length ∧
 supErr (List.drop g'.fst I.sup) g'.snd = supErr I.sup (0 : Int) ∧
 -((4398046511104 : Int) * (↑g'.fst : Int)) ≤ g'.snd ∧ g'.snd ≤ (4398046511104 : Int) * (↑g'.fst : Int)) ∧
 I.sup.length - g'.fst < I.sup.length - g.fst ∧
 (IntKind.i64.wrap (g.2 + x) = g'.2 ∧
 True ∧
 (↑I.sup.length : Int) = (↑I.sup.length : Int) ∧ IntKind.i64.wrap ((↑g.1 : Int) + (1 : Int)) = (↑g'.1 : Int) ∧ True) ∧
 I.sup = I.sup ∧ True))) ∧
 (decide ((↑g.1 : Int) < (↑I.sup.length : Int)) = false →
 ((g.2 != (0 : Int)) = true → ((25 : Int) = rightF I ∧ True) ∧ True) ∧ ((g.2 != (0 : Int)) = false → ((0 : Int) = rightF I ∧ True) ∧ True)))))
theorem Right_q (I : Inst) (ty0 ty1 : TypeId) : Right_E0 I ty0 ty1 = FVcP TT Right_g (Right_I I) (Right_an I) Try.f32 [.agg [.row 0, .row 1]] [(0, .row false ty0 (.ints .i64 I.sup)), (1, .row false ty1 (.arcs I.arcs))] (Right_r I) := by kernel_rfl
theorem Right_E (I : Inst) (ty0 ty1 : TypeId) (hp : True) : FVc TT Right_g (Right_I I) (Right_an I) Try.f32 [.agg [.row 0, .row 1]] [(0, .row false ty0 (.ints .i64 I.sup)), (1, .row false ty1 (.arcs I.arcs))] (Right_r I) := by
  refine FVc.of (Right_E0 I ty0 ty1) (Right_q I ty0 ty1) ?_
  unfold Right_E0
  simp only [decide_eq_true_eq, decide_eq_false_iff_not, and_true, true_and, bne_iff_ne, ne_eq, bne_eq_false_iff_eq, Int.toNat_natCast, Bool.not_eq_true', Bool.not_eq_false']
  refine ⟨fun h => by grind [rightF], fun h1 => ⟨fun h => by grind [rightF], fun h2 => ⟨0, by simp, fun k hk => ⟨fun h3 => ⟨by omega, by omega, fun x hx => ?_⟩, fun h3 => ?_⟩⟩⟩⟩
  · have hd := drop_get hx
    rw [hd] at hk
    refine ⟨fun h4 => by grind [rightF, arcsErr], fun h4 => ⟨k + 1, by grind [arcsErr], by omega, w64 (by omega) (by omega)⟩⟩
  · rw [drop_end (by omega)] at hk
    have h0 : arcsErr I.sup.length I.arcs = 0 := hk.2.symm
    refine ⟨(0, 0), by simp, fun g hg => ?_⟩
    obtain ⟨k, s⟩ := g
    dsimp only at hg ⊢
    refine ⟨fun h4 => ⟨by omega, by omega, fun x hx => ?_⟩, fun h4 => ?_⟩
    · rw [drop_get hx] at hg
      refine ⟨fun h5 => by grind [rightF, supErr], fun h5 => ⟨fun h6 => by grind [rightF, supErr], fun h6 => ⟨(k + 1, s + x), ?_, by dsimp only; omega, ?_, ?_⟩⟩⟩
      · refine ⟨by dsimp only; omega, ?_, by dsimp only; omega, by dsimp only; omega⟩
        grind [supErr]
      · exact w64 (by omega) (by omega)
      · exact w64 (by omega) (by omega)
    · rw [drop_end (by omega)] at hg
      grind [rightF, supErr]
theorem Right_ok : SpecOk Try.prog Right_n true (specOf true Right_fs) :=
  spec_ok' TT_ok (show GsOk Try.prog Right_g from gsOk_cons rightArc_ok (gsOk_nil)) (by kernel_rfl) mixedOrders Try.func32 rfl rfl (by kernel_rfl) (n := 1) (by decide +kernel) (I := Right_IA) (fun _ _ => isOk_nil) (A := Right_A)
    (fun args h r hr => by
      unfold Right_fs at hr
      split at hr
      · rename_i ty0 I_s ty1 I_a; cases hr; refine ⟨rfl, fun hp => ?_⟩; have hE := Right_E ⟨I_s, I_a⟩ ty0 ty1 hp; exact hE
      · cases hr)
def takeI_E0 (l : List Int) (ty0 : TypeId) : Prop :=
      ∃ (g0 : Nat),
 (g0 ≤ l.length ∧ (True ∧ True ∧ True ∧ (↑l.length : Int) = (↑l.length : Int) ∧ (0 : Int) = (↑g0 : Int) ∧ True) ∧ [] = List.take g0 l ∧ l = l ∧ True) ∧
 ∀ (g : Nat),
 g ≤ l.length →
 (decide ((↑g : Int) < (↑l.length : Int)) = true →
 ((0 : Int) ≤ (↑g : Int) ∧ (↑g : Int) < (↑l.length : Int)) ∧
 (↑g : Int).toNat < l.length ∧
 ∀ (x : Int),
 l[(↑g : Int).toNat]? = some x →
 True ∧
 (true = true →
 (List.take g l).length + (1 : Nat) ≤ (1000000000 : Nat) ∧
 ∃ (g' : Nat),
 g' ≤ l.length ∧
 l.length - g' < l.length - g ∧
 (True ∧ True ∧ True ∧ (↑l.length : Int) = (↑l.length : Int) ∧ IntKind.i64.wrap ((↑g : Int) + (1 : Int)) = (↑g' : Int) ∧ True) ∧
 List.take g l ++ [x] = List.take g' l ∧ l = l ∧ True) ∧
 (true = false →
 ∃ (g' : Nat),
 g' ≤ l.length ∧
 l.length - g' < l.length - g ∧
 (True ∧ True ∧ True ∧ (↑l.length : Int) = (↑l.length : Int) ∧ IntKind.i64.wrap ((↑g : Int) + (1 : Int)) = (↑g' : Int) ∧ True) ∧
 List.take g l = List.take g' l ∧ l = l ∧ True)) ∧
 (decide ((↑g : Int) < (↑l.length : Int)) = false → (True ∧ True) ∧ List.take g l = l ∧ True)
theorem takeI_q (l : List Int) (ty0 : TypeId) : takeI_E0 l ty0 = FVcP TT takeI_g (takeI_I l) (takeI_an l) Try.f101 [.row 0, .fn 102 []] [(0, .row false ty0 (.ints .i64 l))] (takeI_r l) := by kernel_rfl
theorem takeI_E (l : List Int) (ty0 : TypeId) (hp : l.length ≤ 1000000000) : FVc TT takeI_g (takeI_I l) (takeI_an l) Try.f101 [.row 0, .fn 102 []] [(0, .row false ty0 (.ints .i64 l))] (takeI_r l) := by
  refine FVc.of (takeI_E0 l ty0) (takeI_q l ty0) ?_
  unfold takeI_E0
  simp only [decide_eq_true_eq, decide_eq_false_iff_not, and_true, true_and, bne_iff_ne, ne_eq, bne_eq_false_iff_eq, Int.toNat_natCast, Bool.not_eq_true', Bool.not_eq_false']
  refine ⟨0, by simp, fun k hk => ⟨fun h1 => ⟨by omega, by omega, fun x hx => ⟨fun _ => ⟨by simp; omega, k + 1, by omega, by omega, w64 (by omega) (by omega), ?_⟩, fun h => by simp at h⟩⟩, fun h1 => ?_⟩⟩
  · rw [take_get hx]
  · rw [List.take_of_length_le (by omega)]
theorem takeI_ok : SpecOk Try.prog takeI_n true (specOf true takeI_fs) :=
  spec_ok' TT_ok (show GsOk Try.prog takeI_g from gsOk_cons CopyF1_ok (gsOk_nil)) (by kernel_rfl) mixedOrders Try.func101 rfl rfl (by kernel_rfl) (n := 2) (by decide +kernel) (I := takeI_IA) (fun _ _ => isOk_nil) (A := takeI_A)
    (fun args h r hr => by
      unfold takeI_fs at hr
      split at hr
      · rename_i ty0 l; cases hr; refine ⟨rfl, fun hp => ?_⟩; have hE := takeI_E l ty0 hp; exact hE
      · cases hr)
def takeA_E0 (l : List Arc) (ty0 : TypeId) : Prop :=
      ∃ (g0 : Nat),
 (g0 ≤ l.length ∧ (True ∧ True ∧ True ∧ (↑l.length : Int) = (↑l.length : Int) ∧ (0 : Int) = (↑g0 : Int) ∧ True) ∧ [] = List.take g0 l ∧ l = l ∧ True) ∧
 ∀ (g : Nat),
 g ≤ l.length →
 (decide ((↑g : Int) < (↑l.length : Int)) = true →
 ((0 : Int) ≤ (↑g : Int) ∧ (↑g : Int) < (↑l.length : Int)) ∧
 (↑g : Int).toNat < l.length ∧
 ∀ (x : Arc),
 l[(↑g : Int).toNat]? = some x →
 True ∧
 (true = true →
 (List.take g l).length + (1 : Nat) ≤ (1000000000 : Nat) ∧
 ∃ (g' : Nat),
 g' ≤ l.length ∧
 l.length - g' < l.length - g ∧
 (True ∧ True ∧ True ∧ (↑l.length : Int) = (↑l.length : Int) ∧ IntKind.i64.wrap ((↑g : Int) + (1 : Int)) = (↑g' : Int) ∧ True) ∧
 List.take g l ++ [x] = List.take g' l ∧ l = l ∧ True) ∧
 (true = false →
 ∃ (g' : Nat),
 g' ≤ l.length ∧
 l.length - g' < l.length - g ∧
 (True ∧ True ∧ True ∧ (↑l.length : Int) = (↑l.length : Int) ∧ IntKind.i64.wrap ((↑g : Int) + (1 : Int)) = (↑g' : Int) ∧ True) ∧
 List.take g l = List.take g' l ∧ l = l ∧ True)) ∧
 (decide ((↑g : Int) < (↑l.length : Int)) = false → (True ∧ True) ∧ List.take g l = l ∧ True)
theorem takeA_q (l : List Arc) (ty0 : TypeId) : takeA_E0 l ty0 = FVcP TT takeA_g (takeA_I l) (takeA_an l) Try.f103 [.row 0, .fn 104 []] [(0, .row false ty0 (.arcs l))] (takeA_r l) := by kernel_rfl
theorem takeA_E (l : List Arc) (ty0 : TypeId) (hp : l.length ≤ 1000000000) : FVc TT takeA_g (takeA_I l) (takeA_an l) Try.f103 [.row 0, .fn 104 []] [(0, .row false ty0 (.arcs l))] (takeA_r l) := by
  refine FVc.of (takeA_E0 l ty0) (takeA_q l ty0) ?_
  unfold takeA_E0
  simp only [decide_eq_true_eq, decide_eq_false_iff_not, and_true, true_and, bne_iff_ne, ne_eq, bne_eq_false_iff_eq, Int.toNat_natCast, Bool.not_eq_true', Bool.not_eq_false']
  refine ⟨0, by simp, fun k hk => ⟨fun h1 => ⟨by omega, by omega, fun x hx => ⟨fun _ => ⟨by simp; omega, k + 1, by omega, by omega, w64 (by omega) (by omega), ?_⟩, fun h => by simp at h⟩⟩, fun h1 => ?_⟩⟩
  · rw [take_get hx]
  · rw [List.take_of_length_le (by omega)]
theorem takeA_ok : SpecOk Try.prog takeA_n true (specOf true takeA_fs) :=
  spec_ok' TT_ok (show GsOk Try.prog takeA_g from gsOk_cons CopyF2_ok (gsOk_nil)) (by kernel_rfl) mixedOrders Try.func103 rfl rfl (by kernel_rfl) (n := 2) (by decide +kernel) (I := takeA_IA) (fun _ _ => isOk_nil) (A := takeA_A)
    (fun args h r hr => by
      unfold takeA_fs at hr
      split at hr
      · rename_i ty0 l; cases hr; refine ⟨rfl, fun hp => ?_⟩; have hE := takeA_E l ty0 hp; exact hE
      · cases hr)
end Go.Proofs.Ytggblkbecekbdaa
