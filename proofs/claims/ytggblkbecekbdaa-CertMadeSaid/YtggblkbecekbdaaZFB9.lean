/- Part of the proof, FB9. -/
import Derived.Test.YtggblkbecekbdaaZFRf
import Derived.Test.YtggblkbecekbdaaZDB9
import Derived.Test.YtggblkbecekbdaaZVc11
set_option linter.unusedVariables false
set_option linter.all false
set_option linter.unusedSimpArgs false
set_option maxRecDepth 100000
namespace Go.Proofs.Ytggblkbecekbdaa
open Go Go.RowKit Go.Ql Go.Vc
def has_E0 (g_n : Int) (g_l : List Arc) (g_i : List Int) (g_s : List Int) (a : Int) (ty0 ty1 ty2 ty3 : TypeId) : Prop :=
      ((!false) = true →
 (decide (a ≥ (0 : Int)) = true → (decide (a < g_n) = (decide ((0 : Int) ≤ a) && decide (a < g_n)) ∧ True) ∧ True) ∧
 (decide (a ≥ (0 : Int)) = false → (false = (decide ((0 : Int) ≤ a) && decide (a < g_n)) ∧ True) ∧ True)) ∧
 ((!false) = false → (false = (decide ((0 : Int) ≤ a) && decide (a < g_n)) ∧ True) ∧ True)
theorem has_q (g_n : Int) (g_l : List Arc) (g_i : List Int) (g_s : List Int) (a : Int) (ty0 ty1 ty2 ty3 : TypeId) : has_E0 g_n g_l g_i g_s a ty0 ty1 ty2 ty3 = FVcP TT has_g (has_I g_n g_l g_i g_s a) (has_an g_n g_l g_i g_s a) Try.f105 [.ptr 0 0 0 0, .int .i64 a] [(0, .box false ty0 [.int .i64 g_n, .row 1, .row 2, .row 3]), (1, .row false ty1 (.arcs g_l)), (2, .row false ty2 (.ints .i64 g_i)), (3, .row false ty3 (.ints .i64 g_s))] (has_r g_n g_l g_i g_s a) := by kernel_rfl
theorem has_E (g_n : Int) (g_l : List Arc) (g_i : List Int) (g_s : List Int) (a : Int) (ty0 ty1 ty2 ty3 : TypeId) (hp : True) : FVc TT has_g (has_I g_n g_l g_i g_s a) (has_an g_n g_l g_i g_s a) Try.f105 [.ptr 0 0 0 0, .int .i64 a] [(0, .box false ty0 [.int .i64 g_n, .row 1, .row 2, .row 3]), (1, .row false ty1 (.arcs g_l)), (2, .row false ty2 (.ints .i64 g_i)), (3, .row false ty3 (.ints .i64 g_s))] (has_r g_n g_l g_i g_s a) := by
  refine FVc.of (has_E0 g_n g_l g_i g_s a ty0 ty1 ty2 ty3) (has_q g_n g_l g_i g_s a ty0 ty1 ty2 ty3) ?_
  unfold has_E0
  simp only [eq_self, exists_const, forall_const, decide_eq_true_eq, decide_eq_false_iff_not, and_true, true_and, bne_iff_ne, ne_eq, bne_eq_false_iff_eq, Int.toNat_natCast, Bool.not_eq_true', Bool.not_eq_false', beq_iff_eq, beq_eq_false_iff_ne, nilEq_true]
  by_cases h : 0 ≤ a <;> simp [h] <;> omega
theorem has_ok : SpecOk Try.prog has_n true (specOf true has_fs) :=
  spec_ok' TT_ok (show GsOk Try.prog has_g from gsOk_nil) (by kernel_rfl) mixedOrders Try.func105 rfl rfl (by kernel_rfl) (n := 2) (by decide +kernel) (I := has_IA) (fun _ _ => isOk_nil) (A := has_A)
    (fun args h r hr => by
      unfold has_fs at hr
      split at hr
      · rename_i a ty0 g_n ty1 g_l ty2 g_i ty3 g_s; cases hr; refine ⟨rfl, fun hp => ?_⟩; have hE := has_E g_n g_l g_i g_s a ty0 ty1 ty2 ty3 hp; exact hE
      · cases hr)
def GArc_E0 (g_n : Int) (g_l : List Arc) (g_i : List Int) (g_s : List Int) (a : Int) (ty0 ty1 ty2 ty3 : TypeId) : Prop :=
      (false = true →
 ((((0 : Int) = (gArc g_n g_l a).src ∧
 (0 : Int) = (gArc g_n g_l a).dst ∧ (0 : Int) = (gArc g_n g_l a).low ∧ (0 : Int) = (gArc g_n g_l a).cap ∧ (0 : Int) = (gArc g_n g_l a).cost ∧ True) ∧
 false = gOk g_n g_l a ∧ True) ∧
 True) ∧
 True) ∧
 (false = false →
 (decide (a < (0 : Int)) = true →
 ((((0 : Int) = (gArc g_n g_l a).src ∧
 (0 : Int) = (gArc g_n g_l a).dst ∧ (0 : Int) = (gArc g_n g_l a).low ∧ (0 : Int) = (gArc g_n g_l a).cap ∧ (0 : Int) = (gArc g_n g_l a).cost ∧ True) ∧
 false = gOk g_n g_l a ∧ True) ∧
 True) ∧
 True) ∧
 (decide (a < (0 : Int)) = false →
 (decide (a ≥ (↑g_l.length : Int)) = true →
 ((((0 : Int) = (gArc g_n g_l a).src ∧
 (0 : Int) = (gArc g_n g_l a).dst ∧ (0 : Int) = (gArc g_n g_l a).low ∧ (0 : Int) = (gArc g_n g_l a).cap ∧ (0 : Int) = (gArc g_n g_l a).cost ∧ True) ∧
 false = gOk g_n g_l a ∧ True) ∧
 True) ∧
 True) ∧
 (decide (a ≥ (↑g_l.length : Int)) = false →
 ((0 : Int) ≤ a ∧ a < (↑g_l.length : Int)) ∧
 a.toNat < g_l.length ∧
 ∀ (x : Arc),
 g_l[a.toNat]? = some x →
 True ∧
 ((!(decide ((0 : Int) ≤ x.src) && decide (x.src < g_n))) = true →
 ((((0 : Int) = (gArc g_n g_l a).src ∧
 (0 : Int) = (gArc g_n g_l a).dst ∧
 (0 : Int) = (gArc g_n g_l a).low ∧ (0 : Int) = (gArc g_n g_l a).cap ∧ (0 : Int) = (gArc g_n g_l a).cost ∧ True) ∧
 false = gOk g_n g_l a ∧ True) ∧
 True) ∧
 True) ∧
 ((!(decide ((0 : Int) ≤ x.src) && decide (x.src < g_n))) = false →
 True ∧
 ((!(decide ((0 : Int) ≤ x.dst) && decide (x.dst < g_n))) = true →
 ((((0 : Int) = (gArc g_n g_l a).src ∧
 (0 : Int) = (gArc g_n g_l a).dst ∧
 (0 : Int) = (gArc g_n g_l a).low ∧ (0 : Int) = (gArc g_n g_l a).cap ∧ (0 : Int) = (gArc g_n g_l a).cost ∧ True) ∧
 false = gOk g_n g_l a ∧ True) ∧
 True) ∧
 True) ∧
 ((!(decide ((0 : Int) ≤ x.dst) && decide (x.dst < g_n))) = false →
 (((x.src = (gArc g_n g_l a).src ∧
 x.dst = (gArc g_n g_l a).dst ∧ x.low = (gArc g_n g_l a).low ∧ x.cap = (gArc g_n g_l a).cap ∧ x.cost = (gArc g_n g_l a).cost ∧ True) ∧
 true = gOk g_n g_l a ∧ True) ∧
 True) ∧
 True)))))
theorem GArc_q (g_n : Int) (g_l : List Arc) (g_i : List Int) (g_s : List Int) (a : Int) (ty0 ty1 ty2 ty3 : TypeId) : GArc_E0 g_n g_l g_i g_s a ty0 ty1 ty2 ty3 = FVcP TT GArc_g (GArc_I g_n g_l g_i g_s a) (GArc_an g_n g_l g_i g_s a) Try.f65 [.ptr 0 0 0 0, .int .i64 a] [(0, .box false ty0 [.int .i64 g_n, .row 1, .row 2, .row 3]), (1, .row false ty1 (.arcs g_l)), (2, .row false ty2 (.ints .i64 g_i)), (3, .row false ty3 (.ints .i64 g_s))] (GArc_r g_n g_l g_i g_s a) := by kernel_rfl
theorem GArc_E (g_n : Int) (g_l : List Arc) (g_i : List Int) (g_s : List Int) (a : Int) (ty0 ty1 ty2 ty3 : TypeId) (hp : True) : FVc TT GArc_g (GArc_I g_n g_l g_i g_s a) (GArc_an g_n g_l g_i g_s a) Try.f65 [.ptr 0 0 0 0, .int .i64 a] [(0, .box false ty0 [.int .i64 g_n, .row 1, .row 2, .row 3]), (1, .row false ty1 (.arcs g_l)), (2, .row false ty2 (.ints .i64 g_i)), (3, .row false ty3 (.ints .i64 g_s))] (GArc_r g_n g_l g_i g_s a) := by
  refine FVc.of (GArc_E0 g_n g_l g_i g_s a ty0 ty1 ty2 ty3) (GArc_q g_n g_l g_i g_s a ty0 ty1 ty2 ty3) ?_
  unfold GArc_E0
  simp only [eq_self, exists_const, forall_const, decide_eq_true_eq, decide_eq_false_iff_not, and_true, true_and, bne_iff_ne, ne_eq, bne_eq_false_iff_eq, Int.toNat_natCast, Bool.not_eq_true', Bool.not_eq_false', beq_iff_eq, beq_eq_false_iff_ne, nilEq_true]
  refine ⟨fun h => (by cases h), fun h => ?_, fun h => ⟨fun h2 => ?_, fun h2 => ⟨by omega, by omega, fun x hx => ?_⟩⟩⟩
  · simp [gArc_out (n := g_n) (l := g_l) (.inl h), gOk_out (n := g_n) (l := g_l) (.inl h)]
  · simp [gArc_out (n := g_n) (l := g_l) (.inr h2), gOk_out (n := g_n) (l := g_l) (.inr h2)]
  · rw [gOk_at (by omega) hx, gArc_at (by omega) hx]
    have e : okArc g_n x = ((decide (0 ≤ x.src) && decide (x.src < g_n)) && (decide (0 ≤ x.dst) && decide (x.dst < g_n))) := rfl
    refine ⟨fun h3 => ?_, fun h3 => ⟨fun h4 => ?_, fun h4 => ?_⟩⟩
    · simp [e, h3]
    · simp [e, h3, h4]
    · simp [e, h3, h4]
theorem GArc_ok : SpecOk Try.prog GArc_n true (specOf true GArc_fs) :=
  spec_ok' TT_ok (show GsOk Try.prog GArc_g from gsOk_cons has_ok (gsOk_nil)) (by kernel_rfl) mixedOrders Try.func65 rfl rfl (by kernel_rfl) (n := 2) (by decide +kernel) (I := GArc_IA) (fun _ _ => isOk_nil) (A := GArc_A)
    (fun args h r hr => by
      unfold GArc_fs at hr
      split at hr
      · rename_i a ty0 g_n ty1 g_l ty2 g_i ty3 g_s; cases hr; refine ⟨rfl, fun hp => ?_⟩; have hE := GArc_E g_n g_l g_i g_s a ty0 ty1 ty2 ty3 hp; exact hE
      · cases hr)
def CloneI_E0 (l : List Int) (ty0 : TypeId) : Prop :=
      ∀ (b : Bool),
 ((0 : Nat) < l.length → b = false) → (b = true → (True ∧ True) ∧ [] = l ∧ True) ∧ (b = false → (0 : Nat) + l.length ≤ (1000000000 : Nat) ∧ (True ∧ True) ∧ l = l ∧ True)
theorem CloneI_q (l : List Int) (ty0 : TypeId) : CloneI_E0 l ty0 = FVcP TT CloneI_g (CloneI_I l) (CloneI_an l) Try.f66 [.row 0] [(0, .row false ty0 (.ints .i64 l))] (CloneI_r l) := by kernel_rfl
theorem CloneI_E (l : List Int) (ty0 : TypeId) (hp : l.length ≤ 1000000000) : FVc TT CloneI_g (CloneI_I l) (CloneI_an l) Try.f66 [.row 0] [(0, .row false ty0 (.ints .i64 l))] (CloneI_r l) := by
  refine FVc.of (CloneI_E0 l ty0) (CloneI_q l ty0) ?_
  unfold CloneI_E0
  simp only [eq_self, exists_const, forall_const, decide_eq_true_eq, decide_eq_false_iff_not, and_true, true_and, bne_iff_ne, ne_eq, bne_eq_false_iff_eq, Int.toNat_natCast, Bool.not_eq_true', Bool.not_eq_false', beq_iff_eq, beq_eq_false_iff_ne, nilEq_true]
  refine fun b hb => ⟨fun h => ?_, fun h => by omega⟩
  have : l = [] := by
    cases l with
    | nil => rfl
    | cons y l => have := hb (by simp); rw [h] at this; cases this
  rw [this]
theorem CloneI_ok : SpecOk Try.prog CloneI_n true (specOf true CloneI_fs) :=
  spec_ok' TT_ok (show GsOk Try.prog CloneI_g from gsOk_nil) (by kernel_rfl) mixedOrders Try.func66 rfl rfl (by kernel_rfl) (n := 1) (by decide +kernel) (I := CloneI_IA) (fun _ _ => isOk_nil) (A := CloneI_A)
    (fun args h r hr => by
      unfold CloneI_fs at hr
      split at hr
      · rename_i ty0 l; cases hr; refine ⟨rfl, fun hp => ?_⟩; have hE := CloneI_E l ty0 hp; exact hE
      · cases hr)
theorem put_ok : SpecOk Try.prog put_n false put_spec :=
  inl_ok TT_ok (show GsOk Try.prog put_g from gsOk_nil) (by kernel_rfl) mixedOrders Try.func67 rfl rfl (by kernel_rfl) _
abbrev New_a0 (I : Inst) (g : Nat) := (gArc (↑I.sup.length : Int) I.arcs (↑g : Int))
abbrev New_a1 (I : Inst) (g : Nat) := (IntKind.i64.wrap ((2 : Int) * (New_a0 I g).src) + (0 : Int))
abbrev New_a2 (I : Inst) := ((↑I.sup.length : Int) = (↑I.sup.length : Int) ∧ True ∧ True ∧ True ∧ True)
abbrev New_a3 (I : Inst) (g : Nat) := (IntKind.i64.wrap ((2 : Int) * (New_a0 I g).dst) + (1 : Int))
abbrev New_a4 (I : Inst) (g : Nat) (x : Int) := ((S1 I g).set
 (IntKind.i64.wrap
 (IntKind.i64.wrap (New_a1 I g) +
 (1 : Int))).toNat
 (IntKind.i64.wrap (x + (1 : Int))))
abbrev New_a5 (I : Inst) (g : Nat) := (IntKind.i64.wrap ((2 : Int) * (New_a0 I g).src) +
 (0 : Int))
abbrev New_a6 (I : Inst) (g : Nat) (x_1 : Int) := ((N3 I g).set
 (IntKind.i64.wrap
 (IntKind.i64.wrap
 ((2 : Int) *
 (New_a0 I g).src) +
 (0 : Int))).toNat
 (IntKind.i64.wrap (x_1 + (1 : Int))))
abbrev New_a7 (I : Inst) := (IntKind.i64.wrap ((2 : Int) * (↑I.sup.length : Int)) + (1 : Int))
abbrev New_a8 (I : Inst) (g : Nat) := (IntKind.i64.wrap (New_a1 I g) + (1 : Int))
abbrev New_a9 (I : Inst) (g : Nat) := (IntKind.i64.wrap
 ((2 : Int) *
 (New_a0 I g).dst) +
 (1 : Int))
abbrev New_a10 (I : Inst) (g : Nat) := (IntKind.i64.wrap
 ((2 : Int) * (New_a0 I g).dst) +
 (1 : Int))
abbrev New_a11 (I : Inst) (g : Nat) (x_1 : Int) := ((N3 I g).set
 (IntKind.i64.wrap
 (IntKind.i64.wrap
 ((2 : Int) *
 (gArc (↑I.sup.length : Int) I.arcs
 (↑g : Int)).src) +
 (0 : Int))).toNat
 (IntKind.i64.wrap (x_1 + (1 : Int))))
abbrev New_a12 (I : Inst) (g : Nat) := (IntKind.i64.wrap
 (IntKind.i64.wrap
 ((2 : Int) * (New_a0 I g).src) +
 (0 : Int)))
abbrev New_a13 (I : Inst) (g : Nat) := (IntKind.i64.wrap (New_a3 I g) +
 (1 : Int))
abbrev New_a14 := ((0 : Nat) = (0 : Nat) ∧ (0 : Nat) = (0 : Nat) ∧ True)
def New_E0 (I : Inst) (ty0 ty1 : TypeId) : Prop :=
      (((I.sup.length ≤ (1000000000 : Nat) ∧ I.arcs.length ≤ (1000000000 : Nat)) ∧
 (∃ (g : Unit),
 True ∧
 ((0 : Nat) = (0 : Nat) ∧ True) ∧
 ((0 : Nat) = (0 : Nat) ∧ True) ∧ (New_a2 I) ∧ nilEq Int ∧ nilEq Int ∧ I.arcs = I.arcs ∧ True) ∧
 ∃ (g : Unit),
 True ∧
 ((0 : Nat) = (0 : Nat) ∧ True) ∧
 ((0 : Nat) = (0 : Nat) ∧ True) ∧ (New_a2 I) ∧ nilEq Int ∧ nilEq Int ∧ I.arcs = I.arcs ∧ True) ∧
 (I.sup.length ≤ (1000000000 : Nat) ∧ I.arcs.length ≤ (1000000000 : Nat)) ∧
 ∃ (g : Unit),
 True ∧
 ((0 : Nat) = (0 : Nat) ∧ True) ∧
 ((0 : Nat) = (0 : Nat) ∧ True) ∧ (New_a2 I) ∧ nilEq Int ∧ nilEq Int ∧ I.arcs = I.arcs ∧ True) ∧
 ∀ (g : Unit),
 True →
 (IntKind.i64.wrap (New_a7 I) = IntKind.i64.wrap (New_a7 I) ∧
 (0 : Int) ≤ IntKind.i64.wrap (New_a7 I) ∧
 IntKind.i64.wrap (New_a7 I) ≤ (1000000000 : Int)) ∧
 ∃ (g0 : Nat),
 (g0 ≤ I.arcs.length ∧
 ((0 : Nat) = (0 : Nat) ∧ (↑I.arcs.length : Int) = (↑I.arcs.length : Int) ∧ (0 : Int) = (↑g0 : Int) ∧ True) ∧
 List.replicate (IntKind.i64.wrap (New_a7 I)).toNat (0 : Int) = S1 I g0 ∧
 ((0 : Nat) = (0 : Nat) ∧ True) ∧ (New_a2 I) ∧ nilEq Int ∧ I.arcs = I.arcs ∧ True) ∧
 ∀ (g : Nat),
 g ≤ I.arcs.length →
 (decide ((↑g : Int) < (↑I.arcs.length : Int)) = true →
 True ∧
 (gOk (↑I.sup.length : Int) I.arcs (↑g : Int) = true →
 ((0 : Int) ≤
 IntKind.i64.wrap (New_a8 I g) ∧
 IntKind.i64.wrap (New_a8 I g) <
 (↑(S1 I g).length : Int)) ∧
 (IntKind.i64.wrap
 (New_a8 I g)).toNat <
 (S1 I g).length ∧
 ∀ (x : Int),
 (S1 I
 g)[(IntKind.i64.wrap
 (New_a8 I g)).toNat]? =
 some x →
 ((0 : Int) ≤
 IntKind.i64.wrap
 (New_a8 I g) ∧
 IntKind.i64.wrap
 (New_a8 I g) <
 (↑(S1 I g).length : Int)) ∧
 (IntKind.i64.wrap
 (New_a8 I g)).toNat <
 (S1 I g).length ∧
 ((0 : Int) ≤
 IntKind.i64.wrap
 (IntKind.i64.wrap (New_a3 I g) + (1 : Int)) ∧
 IntKind.i64.wrap
 (IntKind.i64.wrap (New_a3 I g) + (1 : Int)) <
 (↑(New_a4 I g x).length :
 Int)) ∧
 (IntKind.i64.wrap
 (New_a13 I g)).toNat <
 (New_a4 I g x).length ∧
 ∀ (x_1 : Int),
 ((S1 I g).set
 (IntKind.i64.wrap
 (IntKind.i64.wrap (New_a1 I g) +
 (1 : Int))).toNat
 (IntKind.i64.wrap
 (x +
 (1 :
 Int))))[(IntKind.i64.wrap
 (New_a13 I g)).toNat]? =
 some x_1 →
 ((0 : Int) ≤
 IntKind.i64.wrap
 (New_a13 I g) ∧
 IntKind.i64.wrap
 (New_a13 I g) <
 (↑(New_a4 I g x).length :
 Int)) ∧
 (IntKind.i64.wrap
 (New_a13 I g)).toNat <
 (New_a4 I g x).length ∧
 ∃ (g' : Nat),
 g' ≤ I.arcs.length ∧
 I.arcs.length - g' < I.arcs.length - g ∧
 ((0 : Nat) = (0 : Nat) ∧
 (↑I.arcs.length : Int) = (↑I.arcs.length : Int) ∧ IntKind.i64.wrap ((↑g : Int) + (1 : Int)) = (↑g' : Int) ∧ True) ∧
 ((S1 I g).set
 (IntKind.i64.wrap
 (IntKind.i64.wrap
 (New_a1 I g) +
 (1 : Int))).toNat
 (IntKind.i64.wrap (x + (1 : Int)))).set
 (IntKind.i64.wrap
 (IntKind.i64.wrap
 (New_a3 I g) +
 (1 : Int))).toNat
 (IntKind.i64.wrap (x_1 + (1 : Int))) =
 S1 I g' ∧
 ((0 : Nat) = (0 : Nat) ∧ True) ∧
 (New_a2 I) ∧ nilEq Int ∧ I.arcs = I.arcs ∧ True) ∧
 (gOk (↑I.sup.length : Int) I.arcs (↑g : Int) = false →
 ∃ (g' : Nat),
 g' ≤ I.arcs.length ∧
 I.arcs.length - g' < I.arcs.length - g ∧
 ((0 : Nat) = (0 : Nat) ∧ (↑I.arcs.length : Int) = (↑I.arcs.length : Int) ∧ IntKind.i64.wrap ((↑g : Int) + (1 : Int)) = (↑g' : Int) ∧ True) ∧
 S1 I g = S1 I g' ∧
 ((0 : Nat) = (0 : Nat) ∧ True) ∧
 (New_a2 I) ∧ nilEq Int ∧ I.arcs = I.arcs ∧ True)) ∧
 (decide ((↑g : Int) < (↑I.arcs.length : Int)) = false →
 ∃ (g0 : Nat),
 (g0 ≤ (2 : Nat) * I.sup.length ∧
 ((0 : Nat) = (0 : Nat) ∧ IntKind.i64.wrap ((2 : Int) * (↑I.sup.length : Int)) = (↑((2 : Nat) * I.sup.length) : Int) ∧ (0 : Int) = (↑g0 : Int) ∧ True) ∧
 S1 I g = S2 I g0 ∧
 ((0 : Nat) = (0 : Nat) ∧ True) ∧ (New_a2 I) ∧ nilEq Int ∧ I.arcs = I.arcs ∧ True) ∧
 ∀ (g : Nat),
 g ≤ (2 : Nat) * I.sup.length →
 (decide ((↑g : Int) < (↑((2 : Nat) * I.sup.length) : Int)) = true →
 ((0 : Int) ≤ IntKind.i64.wrap ((↑g : Int) + (1 : Int)) ∧ IntKind.i64.wrap ((↑g : Int) + (1 : Int)) < (↑(S2 I g).length : Int)) ∧
 (IntKind.i64.wrap ((↑g : Int) + (1 : Int))).toNat < (S2 I g).length ∧
 ∀ (x : Int),
 (S2 I g)[(IntKind.i64.wrap ((↑g : Int) + (1 : Int))).toNat]? = some x →
 ((0 : Int) ≤ (↑g : Int) ∧ (↑g : Int) < (↑(S2 I g).length : Int)) ∧
 (↑g : Int).toNat < (S2 I g).length ∧
 ∀ (x_1 : Int),
 (S2 I g)[(↑g : Int).toNat]? = some x_1 →
 ((0 : Int) ≤ IntKind.i64.wrap ((↑g : Int) + (1 : Int)) ∧ IntKind.i64.wrap ((↑g : Int) + (1 : Int)) < (↑(S2 I g).length : Int)) ∧
 (IntKind.i64.wrap ((↑g : Int) + (1 : Int))).toNat < (S2 I g).length ∧
 ∃ (g' : Nat),
 g' ≤ (2 : Nat) * I.sup.length ∧
 (2 : Nat) * I.sup.length - g' < (2 : Nat) * I.sup.length - g ∧
 ((0 : Nat) = (0 : Nat) ∧
 (↑((2 : Nat) * I.sup.length) : Int) = (↑((2 : Nat) * I.sup.length) : Int) ∧
 IntKind.i64.wrap ((↑g : Int) + (1 : Int)) = (↑g' : Int) ∧ True) ∧
 (S2 I g).set (IntKind.i64.wrap ((↑g : Int) + (1 : Int))).toNat (IntKind.i64.wrap (x + x_1)) = S2 I g' ∧
 ((0 : Nat) = (0 : Nat) ∧ True) ∧
 (New_a2 I) ∧ nilEq Int ∧ I.arcs = I.arcs ∧ True) ∧
 (decide ((↑g : Int) < (↑((2 : Nat) * I.sup.length) : Int)) = false →
 ((0 : Int) ≤ IntKind.i64.wrap ((2 : Int) * (↑I.sup.length : Int)) ∧
 IntKind.i64.wrap ((2 : Int) * (↑I.sup.length : Int)) < (↑(S2 I g).length : Int)) ∧
 (IntKind.i64.wrap ((2 : Int) * (↑I.sup.length : Int))).toNat < (S2 I g).length ∧
 ∀ (x : Int),
 (S2 I g)[(IntKind.i64.wrap ((2 : Int) * (↑I.sup.length : Int))).toNat]? = some x →
 (x = x ∧ (0 : Int) ≤ x ∧ x ≤ (1000000000 : Int)) ∧
 (S2 I g).length ≤ (1000000000 : Nat) ∧
 ∃ (g0 : Nat),
 (g0 ≤ I.arcs.length ∧
 ((0 : Nat) = (0 : Nat) ∧
 (New_a14) ∧
 (↑I.arcs.length : Int) = (↑I.arcs.length : Int) ∧ (0 : Int) = (↑g0 : Int) ∧ True) ∧
 (True ∧ True) ∧
 S2 I g = N3 I g0 ∧
 List.replicate x.toNat (0 : Int) = L3 I g0 ∧
 S2 I g = startF I ∧
 ((0 : Nat) = (0 : Nat) ∧ True) ∧
 (New_a2 I) ∧ I.arcs = I.arcs ∧ True) ∧
 ∀ (g : Nat),
 g ≤ I.arcs.length →
 (decide ((↑g : Int) < (↑I.arcs.length : Int)) = true →
 True ∧
 (gOk (↑I.sup.length : Int) I.arcs (↑g : Int) = true →
 ((0 : Int) ≤
 IntKind.i64.wrap
 (New_a1 I g) ∧
 IntKind.i64.wrap (New_a1 I g) <
 (↑(N3 I g).length : Int)) ∧
 (IntKind.i64.wrap
 (New_a1 I g)).toNat <
 (N3 I g).length ∧
 ∀ (x : Int),
 (N3 I
 g)[(IntKind.i64.wrap
 (New_a5 I g)).toNat]? =
 some x →
 ((0 : Int) ≤ x ∧ x < (↑(L3 I g).length : Int)) ∧
 x.toNat < (L3 I g).length ∧
 ((0 : Int) ≤
 IntKind.i64.wrap
 (New_a1 I g) ∧
 IntKind.i64.wrap
 (New_a1 I g) <
 (↑(N3 I g).length : Int)) ∧
 (IntKind.i64.wrap
 (New_a5 I g)).toNat <
 (N3 I g).length ∧
 ∀ (x_1 : Int),
 (N3 I
 g)[(IntKind.i64.wrap
 (New_a5 I g)).toNat]? =
 some x_1 →
 ((0 : Int) ≤
 IntKind.i64.wrap
 (New_a5 I g) ∧
 IntKind.i64.wrap
 (New_a5 I g) <
 (↑(N3 I g).length : Int)) ∧
 (IntKind.i64.wrap
 (New_a5 I g)).toNat <
 (N3 I g).length ∧
 ((0 : Int) ≤
 IntKind.i64.wrap
 (IntKind.i64.wrap ((2 : Int) * (New_a0 I g).dst) +
 (1 : Int)) ∧
 IntKind.i64.wrap
 (IntKind.i64.wrap ((2 : Int) * (New_a0 I g).dst) +
 (1 : Int)) <
 (↑((N3 I g).set
 (New_a12 I g).toNat
 (IntKind.i64.wrap (x_1 + (1 : Int)))).length :
 Int)) ∧
 (IntKind.i64.wrap
 (IntKind.i64.wrap ((2 : Int) * (New_a0 I g).dst) +
 (1 : Int))).toNat <
 ((N3 I g).set
 (New_a12 I g).toNat
 (IntKind.i64.wrap (x_1 + (1 : Int)))).length ∧
 ∀ (x_2 : Int),
 ((N3 I g).set
 (New_a12 I g).toNat
 (IntKind.i64.wrap
 (x_1 +
 (1 :
 Int))))[(IntKind.i64.wrap
 (New_a10 I g)).toNat]? =
 some x_2 →
 ((0 : Int) ≤ x_2 ∧ x_2 < (↑((L3 I g).set x.toNat (↑g : Int)).length : Int)) ∧
 x_2.toNat < ((L3 I g).set x.toNat (↑g : Int)).length ∧
 ((0 : Int) ≤
 IntKind.i64.wrap
 (New_a10 I g) ∧
 IntKind.i64.wrap
 (New_a10 I g) <
 (↑(New_a6 I g x_1).length :
 Int)) ∧
 (IntKind.i64.wrap
 (New_a10 I g)).toNat <
 (New_a6 I g x_1).length ∧
 ∀ (x_3 : Int),
 ((N3 I g).set
 (IntKind.i64.wrap
 (IntKind.i64.wrap
 ((2 : Int) *
 (New_a0 I g).src) +
 (0 : Int))).toNat
 (IntKind.i64.wrap
 (x_1 +
 (1 :
 Int))))[(IntKind.i64.wrap
 (New_a9 I g)).toNat]? =
 some x_3 →
 ((0 : Int) ≤
 IntKind.i64.wrap
 (New_a9 I g) ∧
 IntKind.i64.wrap
 (New_a9 I g) <
 (↑(New_a11 I g x_1).length :
 Int)) ∧
 (IntKind.i64.wrap
 (New_a9 I g)).toNat <
 (New_a6 I g x_1).length ∧
 ∃ (g' : Nat),
 g' ≤ I.arcs.length ∧
 I.arcs.length - g' < I.arcs.length - g ∧
 ((0 : Nat) = (0 : Nat) ∧
 (New_a14) ∧
 (↑I.arcs.length : Int) = (↑I.arcs.length : Int) ∧
 IntKind.i64.wrap ((↑g : Int) + (1 : Int)) =
 (↑g' : Int) ∧
 True) ∧
 (True ∧ True) ∧
 (New_a11 I g x_1).set
 (IntKind.i64.wrap
 (IntKind.i64.wrap
 ((2 : Int) *
 (gArc (↑I.sup.length : Int) I.arcs
 (↑g : Int)).dst) +
 (1 : Int))).toNat
 (IntKind.i64.wrap (x_3 + (1 : Int))) =
 N3 I g' ∧
 ((L3 I g).set x.toNat (↑g : Int)).set x_2.toNat
 (↑g : Int) =
 L3 I g' ∧
 startF I = startF I ∧
 ((0 : Nat) = (0 : Nat) ∧ True) ∧
 ((↑I.sup.length : Int) = (↑I.sup.length : Int) ∧
 True ∧ True ∧ True ∧ True) ∧
 I.arcs = I.arcs ∧ True) ∧
 (gOk (↑I.sup.length : Int) I.arcs (↑g : Int) = false →
 ∃ (g' : Nat),
 g' ≤ I.arcs.length ∧
 I.arcs.length - g' < I.arcs.length - g ∧
 ((0 : Nat) = (0 : Nat) ∧
 (New_a14) ∧
 (↑I.arcs.length : Int) = (↑I.arcs.length : Int) ∧
 IntKind.i64.wrap ((↑g : Int) + (1 : Int)) = (↑g' : Int) ∧ True) ∧
 (True ∧ True) ∧
 N3 I g = N3 I g' ∧
 L3 I g = L3 I g' ∧
 startF I = startF I ∧
 ((0 : Nat) = (0 : Nat) ∧ True) ∧
 (New_a2 I) ∧
 I.arcs = I.arcs ∧ True)) ∧
 (decide ((↑g : Int) < (↑I.arcs.length : Int)) = false →
 ((0 : Nat) = (0 : Nat) ∧ True) ∧
 (New_a2 I) ∧
 I.arcs = I.arcs ∧ L3 I g = listF I ∧ startF I = startF I ∧ True)))
theorem New_q (I : Inst) (ty0 ty1 : TypeId) : New_E0 I ty0 ty1 = FVcP TT New_g (New_I I) (New_an I) Try.f39 [.agg [.row 0, .row 1]] [(0, .row false ty0 (.ints .i64 I.sup)), (1, .row false ty1 (.arcs I.arcs))] (New_r I) := by kernel_rfl
theorem New_E (I : Inst) (ty0 ty1 : TypeId) (hp : I.sup.length ≤ 10000 ∧ I.arcs.length ≤ 10000) : FVc TT New_g (New_I I) (New_an I) Try.f39 [.agg [.row 0, .row 1]] [(0, .row false ty0 (.ints .i64 I.sup)), (1, .row false ty1 (.arcs I.arcs))] (New_r I) := by
  refine FVc.of (New_E0 I ty0 ty1) (New_q I ty0 ty1) ?_
  unfold New_E0
  delta New_a14 New_a13 New_a12 New_a11 New_a10 New_a9 New_a8 New_a7 New_a6 New_a5 New_a4 New_a3 New_a2 New_a1 New_a0
  simp only [eq_self, exists_const, forall_const, decide_eq_true_eq, decide_eq_false_iff_not, and_true, true_and, bne_iff_ne, ne_eq, bne_eq_false_iff_eq, Int.toNat_natCast, Bool.not_eq_true', Bool.not_eq_false', beq_iff_eq, beq_eq_false_iff_ne, nilEq_true]
  obtain ⟨p1, p2⟩ := hp
  have e1 : IntKind.i64.wrap (2 * (I.sup.length : Int)) = ((2 * I.sup.length : Nat) : Int) := by rw [w64 (by omega) (by omega)]; omega
  have e2 : IntKind.i64.wrap (((2 * I.sup.length : Nat) : Int) + 1) = ((2 * I.sup.length + 1 : Nat) : Int) := by rw [w64 (by omega) (by omega)]; omega
  simp only [e1, e2, Int.toNat_natCast, show ∀ k, (S1 I k).length = 2 * I.sup.length + 1 from fun k => by simp [S1], show ∀ k, (S2 I k).length = 2 * I.sup.length + 1 from fun k => by simp [S2], show ∀ k, (N3 I k).length = 2 * I.sup.length + 1 from fun k => by simp [N3], List.length_set]
  have hL3 : ∀ k, k ≤ I.arcs.length → (L3 I k).length = sumA I (2 * I.sup.length) := fun k hk => flatMap_len I (fun t => segL_len hk t) _
  have hs1 : ∀ (k j : Nat) (v : Int), (S1 I k)[j]? = some v → k ≤ I.arcs.length → 0 ≤ v ∧ v ≤ 10000 := fun k j v h hk => by
    have e := S1_get h
    subst e
    have := cntA_le I (j - 1) k
    split <;> omega
  have hsum : ∀ k, k ≤ 2 * I.sup.length → sumA I k ≤ 200000000 := fun k hk => by
    have h1 := sumA_mono I k (2 * I.sup.length - k)
    rw [show k + (2 * I.sup.length - k) = 2 * I.sup.length by omega] at h1
    have h2 := sumA_le I (2 * I.sup.length)
    have h3 : 2 * I.sup.length * I.arcs.length ≤ 20000 * 10000 := Nat.mul_le_mul (by omega) p2
    omega
  have arcs : ∀ k : Nat, k < I.arcs.length → ∃ a, I.arcs[k]? = some a ∧ gOk I.sup.length I.arcs k = okArc I.sup.length a ∧ (okArc I.sup.length a = true → gArc I.sup.length I.arcs k = a) := fun k hk => by
    have ha : I.arcs[k]? = some I.arcs[k] := List.getElem?_eq_getElem hk
    exact ⟨_, ha, gOk_at (by omega) (by simpa using ha), fun ho => by rw [gArc_at (x := I.arcs[k]) (by omega) (by simpa using ha), if_pos ho]⟩
  refine ⟨by omega, by omega, 0, ⟨by omega, rfl, by rw [S1_zero]⟩, fun k hk => ⟨fun h1 => ?_, fun h1 => ?_⟩⟩
  · obtain ⟨a, ha, hgo, hga⟩ := arcs k (by omega)
    rw [hgo]
    refine ⟨fun ho => ?_, fun ho => ⟨k + 1, by omega, by omega, w64 (by omega) (by omega), S1_same ha ho⟩⟩
    rw [hga ho]
    obtain ⟨o1, o2, o3, o4⟩ := okArc_iff.1 ho
    have f1 : IntKind.i64.wrap (IntKind.i64.wrap (IntKind.i64.wrap (2 * a.src) + 0) + 1) = 2 * a.src + 1 := by rw [w64 (x := 2 * a.src) (by omega) (by omega), w64 (x := 2 * a.src + 0) (by omega) (by omega), w64 (by omega) (by omega)]; omega
    have f2 : IntKind.i64.wrap (IntKind.i64.wrap (IntKind.i64.wrap (2 * a.dst) + 1) + 1) = 2 * a.dst + 2 := by rw [w64 (x := 2 * a.dst) (by omega) (by omega), w64 (x := 2 * a.dst + 1) (by omega) (by omega), w64 (by omega) (by omega)]; omega
    rw [f1, f2]
    refine ⟨by omega, by omega, fun x hx => ?_⟩
    have bx := hs1 k _ x hx hk
    rw [w64 (x := x + 1) (by omega) (by omega)]
    refine ⟨by omega, by omega, by omega, by omega, fun y hy => ?_⟩
    have hstep := S1_step ha ho hx hy
    have by' : 0 ≤ y ∧ y ≤ 10001 := by
      rw [List.getElem?_set] at hy
      split at hy
      · split at hy
        · cases hy; omega
        · cases hy
      · have := hs1 k _ y hy hk; omega
    rw [w64 (x := y + 1) (by omega) (by omega)]
    exact ⟨by omega, by omega, k + 1, by omega, by omega, w64 (by omega) (by omega), hstep⟩
  have hk' : k = I.arcs.length := by omega
  refine ⟨0, ⟨by omega, ⟨trivial, rfl⟩, by rw [hk', S1_S2]⟩, fun k2 hk2 => ⟨fun h2 => ?_, fun h2 => ?_⟩⟩
  · have f : IntKind.i64.wrap ((k2 : Int) + 1) = ((k2 + 1 : Nat) : Int) := by rw [w64 (by omega) (by omega)]; omega
    simp only [f, Int.toNat_natCast]
    refine ⟨by omega, by omega, fun x hx => ⟨by omega, by omega, fun y hy => ⟨by omega, by omega, k2 + 1, by omega, by omega, rfl, ?_⟩⟩⟩
    have hstep := S2_step (by omega) hx hy
    have ex := S2_get hx
    have ey := S2_get hy
    rw [if_neg (by omega)] at ex
    rw [if_pos (by omega)] at ey
    have c1 := cntA_le I (k2 + 1 - 1) I.arcs.length
    have c2 := hsum k2 hk2
    rw [w64 (by omega) (by omega), hstep]
  have hk2' : k2 = 2 * I.sup.length := by omega
  subst hk2'
  rw [S2_end]
  have hstart : (startF I).length = 2 * I.sup.length + 1 := by simp [startF]
  refine ⟨by omega, by omega, fun x hx => ?_⟩
  have ex := startF_get hx
  have bx := hsum (2 * I.sup.length) (by omega)
  subst ex
  refine ⟨by omega, by omega, 0, ⟨by omega, rfl, startF_N3 I, by rw [L3_zero]; simp, rfl⟩, fun m hm => ⟨fun h3 => ?_, fun h3 => ?_⟩⟩
  · obtain ⟨a, ha, hgo, hga⟩ := arcs m (by omega)
    have hml : m < I.arcs.length := by omega
    rw [hgo]
    refine ⟨fun ho => ?_, fun ho => ?_⟩
    · rw [hga ho]
      obtain ⟨o1, o2, o3, o4⟩ := okArc_iff.1 ho
      have f1 : IntKind.i64.wrap (IntKind.i64.wrap (2 * a.src) + 0) = ((2 * a.src).toNat : Int) := by rw [w64 (x := 2 * a.src) (by omega) (by omega), w64 (by omega) (by omega)]; omega
      have f2 : IntKind.i64.wrap (IntKind.i64.wrap (2 * a.dst) + 1) = ((2 * a.dst + 1).toNat : Int) := by rw [w64 (x := 2 * a.dst) (by omega) (by omega), w64 (by omega) (by omega)]; omega
      obtain ⟨P, hP⟩ : ∃ P, P = (2 * a.src).toNat := ⟨_, rfl⟩
      obtain ⟨Q, hQ⟩ : ∃ Q, Q = (2 * a.dst + 1).toNat := ⟨_, rfl⟩
      rw [f1, f2, ← hP, ← hQ]
      simp only [Int.toNat_natCast]
      have hne : Q ≠ P := by omega
      have hPn : P < 2 * I.sup.length := by omega
      have hQn : Q < 2 * I.sup.length := by omega
      have hin : ∀ j, inK I j m = true ↔ j = P ∨ j = Q := fun j => by
        rw [inK_of ha, ho, Bool.true_and, hasK_iff]; omega
      have iP := (hin P).2 (.inl rfl)
      have iQ := (hin Q).2 (.inr rfl)
      have room : ∀ j, j < 2 * I.sup.length → inK I j m = true → sumA I j + cntA I m j < sumA I (2 * I.sup.length) := fun j hj hi => by
        have h1 := cntA_lt hml hi
        have h2 := sumA_mono I (j + 1) (2 * I.sup.length - (j + 1))
        rw [show j + 1 + (2 * I.sup.length - (j + 1)) = 2 * I.sup.length by omega] at h2
        have h4 : sumA I (j + 1) = sumA I j + cntA I I.arcs.length j := rfl
        omega
      have rP := room P hPn iP
      have rQ := room Q hQn iQ
      have hl := hL3 m hm
      have dQ : (fun t => t == P || (fun _ => false) t) Q = false := by simp [hne]
      refine ⟨by omega, by omega, fun x hx => ?_⟩
      rw [N3_nP] at hx
      have ex := nP_get hx rfl
      subst ex
      rw [hl]
      refine ⟨by omega, by omega, by omega, by omega, fun x1 hx1 => ?_⟩
      rw [N3_nP] at hx1
      have ex1 := nP_get hx1 rfl
      subst ex1
      rw [w64 (x := ((sumA I P + cntA I m P : Nat) : Int) + 1) (by omega) (by omega), N3_nP, nP_put iP rfl, L3_segP, Int.toNat_natCast, L3_put hml hPn iP rfl]
      refine ⟨by omega, by omega, by omega, by omega, fun x2 hx2 => ?_⟩
      have ex2 := nP_get hx2 dQ
      subst ex2
      refine ⟨by omega, by omega, by omega, by omega, fun x3 hx3 => ?_⟩
      have ex3 := nP_get hx3 dQ
      subst ex3
      rw [w64 (x := ((sumA I Q + cntA I m Q : Nat) : Int) + 1) (by omega) (by omega), nP_put iQ dQ, Int.toNat_natCast, L3_put hml hQn iQ dQ]
      refine ⟨by omega, by omega, m + 1, by omega, by omega, w64 (by omega) (by omega), ?_, ?_⟩
      · exact nP_done hin
      · exact L3_done hin
    · obtain ⟨s1, s2⟩ := N3_same ha ho
      exact ⟨m + 1, by omega, by omega, w64 (by omega) (by omega), s1, s2⟩
  · rw [show m = I.arcs.length by omega, L3_end]
theorem New_ok : SpecOk Try.prog New_n true (specOf true New_fs) :=
  spec_ok' TT_ok (show GsOk Try.prog New_g from gsOk_cons Copy_ok (gsOk_cons GArc_ok (gsOk_cons CloneI_ok (gsOk_cons put_ok (gsOk_nil))))) (by kernel_rfl) mixedOrders Try.func39 rfl rfl (by kernel_rfl) (n := 1) (by decide +kernel) (I := New_IA) (fun _ _ => isOk_nil) (A := New_A)
    (fun args h r hr => by
      unfold New_fs at hr
      split at hr
      · rename_i ty0 I_s ty1 I_a; cases hr; refine ⟨rfl, fun hp => ?_⟩; have hE := New_E ⟨I_s, I_a⟩ ty0 ty1 hp; exact hE
      · cases hr)
def along_E0 (x : List Int) (a : Int) (ty0 : TypeId) : Prop :=
      (decide (a ≥ (↑x.length : Int)) = true → ((0 : Int) = x.getD a.toNat (0 : Int) ∧ True) ∧ True) ∧
 (decide (a ≥ (↑x.length : Int)) = false →
 ((0 : Int) ≤ a ∧ a < (↑x.length : Int)) ∧ a.toNat < x.length ∧ ∀ (x_1 : Int), x[a.toNat]? = some x_1 → (x_1 = x.getD a.toNat (0 : Int) ∧ True) ∧ True)
theorem along_q (x : List Int) (a : Int) (ty0 : TypeId) : along_E0 x a ty0 = FVcP TT along_g (along_I x a) (along_an x a) Try.f41 [.row 0, .int .i64 a] [(0, .row false ty0 (.ints .i64 x))] (along_r x a) := by kernel_rfl
theorem along_E (x : List Int) (a : Int) (ty0 : TypeId) (hp : 0 ≤ a) : FVc TT along_g (along_I x a) (along_an x a) Try.f41 [.row 0, .int .i64 a] [(0, .row false ty0 (.ints .i64 x))] (along_r x a) := by
  refine FVc.of (along_E0 x a ty0) (along_q x a ty0) ?_
  unfold along_E0
  simp only [eq_self, exists_const, forall_const, decide_eq_true_eq, decide_eq_false_iff_not, and_true, true_and, bne_iff_ne, ne_eq, bne_eq_false_iff_eq, Int.toNat_natCast, Bool.not_eq_true', Bool.not_eq_false', beq_iff_eq, beq_eq_false_iff_ne, nilEq_true]
  refine ⟨fun h => ?_, fun h => ⟨by omega, by omega, fun y hy => by simp [List.getD, hy]⟩⟩
  simp [List.getD, show ¬ a.toNat < x.length by omega]
theorem along_ok : SpecOk Try.prog along_n true (specOf true along_fs) :=
  spec_ok' TT_ok (show GsOk Try.prog along_g from gsOk_nil) (by kernel_rfl) mixedOrders Try.func41 rfl rfl (by kernel_rfl) (n := 2) (by decide +kernel) (I := along_IA) (fun _ _ => isOk_nil) (A := along_A)
    (fun args h r hr => by
      unfold along_fs at hr
      split at hr
      · rename_i a ty0 x; cases hr; refine ⟨rfl, fun hp => ?_⟩; have hE := along_E x a ty0 hp; exact hE
      · cases hr)
def fit_E0 (x : Arc) (n : Int) : Prop :=
      (decide (n ≥ x.low) = true →
 ((x.cap == (4611686018427387904 : Int)) = true → (true = fitF x n ∧ True) ∧ True) ∧
 ((x.cap == (4611686018427387904 : Int)) = false → (decide (n ≤ x.cap) = fitF x n ∧ True) ∧ True)) ∧
 (decide (n ≥ x.low) = false → (false = fitF x n ∧ True) ∧ True)
theorem fit_q (x : Arc) (n : Int) : fit_E0 x n = FVcP TT fit_g (fit_I x n) (fit_an x n) Try.f99 [.agg (encArc x), .int .i64 n] [] (fit_r x n) := by kernel_rfl
theorem fit_E (x : Arc) (n : Int) (hp : True) : FVc TT fit_g (fit_I x n) (fit_an x n) Try.f99 [.agg (encArc x), .int .i64 n] [] (fit_r x n) := by
  refine FVc.of (fit_E0 x n) (fit_q x n) ?_
  unfold fit_E0
  simp only [eq_self, exists_const, forall_const, decide_eq_true_eq, decide_eq_false_iff_not, and_true, true_and, bne_iff_ne, ne_eq, bne_eq_false_iff_eq, Int.toNat_natCast, Bool.not_eq_true', Bool.not_eq_false', beq_iff_eq, beq_eq_false_iff_ne, nilEq_true]
  unfold fitF inf
  refine ⟨fun h => ⟨fun h2 => ?_, fun h2 => ?_⟩, fun h => ?_⟩
  · simp [h2]; omega
  · simp [h2]; omega
  · simp; omega
theorem fit_ok : SpecOk Try.prog fit_n true (specOf true fit_fs) :=
  spec_ok' TT_ok (show GsOk Try.prog fit_g from gsOk_nil) (by kernel_rfl) mixedOrders Try.func99 rfl rfl (by kernel_rfl) (n := 2) (by decide +kernel) (I := fit_IA) (fun _ _ => isOk_nil) (A := fit_A)
    (fun args h r hr => by
      unfold fit_fs at hr
      split at hr
      · rename_i x_0 x_1 x_2 x_3 x_4 n; cases hr; refine ⟨rfl, fun hp => ?_⟩; have hE := fit_E ⟨x_0, x_1, x_2, x_3, x_4⟩ n hp; exact hE
      · cases hr)
theorem more_ok : SpecOk Try.prog more_n false more_spec :=
  inl_ok TT_ok (show GsOk Try.prog more_g from gsOk_cons Of_ok (gsOk_cons Plus_ok (gsOk_nil))) (by kernel_rfl) mixedOrders Try.func68 rfl rfl (by kernel_rfl) _
theorem less_ok : SpecOk Try.prog less_n false less_spec :=
  inl_ok TT_ok (show GsOk Try.prog less_g from gsOk_cons Of_ok (gsOk_cons Minus_ok (gsOk_nil))) (by kernel_rfl) mixedOrders Try.func69 rfl rfl (by kernel_rfl) _
theorem flows_ok : SpecOk Try.prog flows_n false flows_spec :=
  inl_ok TT_ok (show GsOk Try.prog flows_g from gsOk_cons GArc_ok (gsOk_cons more_ok (gsOk_cons less_ok (gsOk_nil)))) (by kernel_rfl) mixedOrders Try.func40 rfl rfl (by kernel_rfl) _
abbrev Net_a0 (I : Inst) (g : Nat) := (gArc (↑I.sup.length : Int) I.arcs (↑g : Int))
abbrev Net_a1 (I : Inst) := ((↑I.sup.length : Int) = (↑I.sup.length : Int) ∧ True ∧ True ∧ True ∧ True)
abbrev Net_a2 (I : Inst) := ((↑I.sup.length : Int) = (↑I.sup.length : Int) ∧ (0 : Int) ≤ (↑I.sup.length : Int) ∧ (↑I.sup.length : Int) ≤ (1000000000 : Int))
abbrev Net_a3 (I : Inst) (x : List Int) (g : Nat) (x_1 : Wide) := ((netAt I x g).set (Net_a0 I g).src.toNat
 (wplus x_1 (W (x.getD (↑g : Int).toNat (0 : Int)))))
abbrev Net_a4 := (True ∧ (0 : Nat) = (0 : Nat) ∧ (0 : Nat) = (0 : Nat) ∧ True)
abbrev Net_a5 (I : Inst) := (I.sup.length ≤ (10000 : Nat) ∧ I.arcs.length ≤ (10000 : Nat))
def Net_E0 (I : Inst) (x : List Int) (ty0 ty1 ty2 : TypeId) : Prop :=
      (((Net_a2 I) ∧
 ((Net_a5 I) ∧
 ∃ (g : Unit),
 True ∧
 (Net_a4) ∧
 (True ∧ (0 : Nat) = (0 : Nat) ∧ True) ∧
 (Net_a1 I) ∧
 I.arcs = I.arcs ∧
 listF I = listF I ∧
 startF I = startF I ∧
 List.replicate (↑I.sup.length : Int).toNat { hi := (0 : Int), lo := (0 : Int) : Wide } =
 List.replicate (↑I.sup.length : Int).toNat { hi := (0 : Int), lo := (0 : Int) : Wide } ∧
 (True ∧ True ∧ True) ∧ I.sup = I.sup ∧ I.arcs = I.arcs ∧ x = x ∧ True) ∧
 (Net_a5 I) ∧
 ∃ (g : Unit),
 True ∧
 (Net_a4) ∧
 (True ∧ (0 : Nat) = (0 : Nat) ∧ True) ∧
 (Net_a1 I) ∧
 I.arcs = I.arcs ∧
 listF I = listF I ∧
 startF I = startF I ∧
 List.replicate (↑I.sup.length : Int).toNat { hi := (0 : Int), lo := (0 : Int) : Wide } =
 List.replicate (↑I.sup.length : Int).toNat { hi := (0 : Int), lo := (0 : Int) : Wide } ∧
 (True ∧ True ∧ True) ∧ I.sup = I.sup ∧ I.arcs = I.arcs ∧ x = x ∧ True) ∧
 ((Net_a5 I) ∧
 ((Net_a2 I) ∧
 ∃ (g : Unit),
 True ∧
 (Net_a4) ∧
 (True ∧ (0 : Nat) = (0 : Nat) ∧ True) ∧
 (Net_a1 I) ∧
 I.arcs = I.arcs ∧
 listF I = listF I ∧
 startF I = startF I ∧
 List.replicate (↑I.sup.length : Int).toNat { hi := (0 : Int), lo := (0 : Int) : Wide } =
 List.replicate (↑I.sup.length : Int).toNat { hi := (0 : Int), lo := (0 : Int) : Wide } ∧
 (True ∧ True ∧ True) ∧ I.sup = I.sup ∧ I.arcs = I.arcs ∧ x = x ∧ True) ∧
 (Net_a2 I) ∧
 ∃ (g : Unit),
 True ∧
 (Net_a4) ∧
 (True ∧ (0 : Nat) = (0 : Nat) ∧ True) ∧
 (Net_a1 I) ∧
 I.arcs = I.arcs ∧
 listF I = listF I ∧
 startF I = startF I ∧
 List.replicate (↑I.sup.length : Int).toNat { hi := (0 : Int), lo := (0 : Int) : Wide } =
 List.replicate (↑I.sup.length : Int).toNat { hi := (0 : Int), lo := (0 : Int) : Wide } ∧
 (True ∧ True ∧ True) ∧ I.sup = I.sup ∧ I.arcs = I.arcs ∧ x = x ∧ True) ∧
 ((Net_a2 I) ∧
 (Net_a5 I) ∧
 ∃ (g : Unit),
 True ∧
 (Net_a4) ∧
 (True ∧ (0 : Nat) = (0 : Nat) ∧ True) ∧
 (Net_a1 I) ∧
 I.arcs = I.arcs ∧
 listF I = listF I ∧
 startF I = startF I ∧
 List.replicate (↑I.sup.length : Int).toNat { hi := (0 : Int), lo := (0 : Int) : Wide } =
 List.replicate (↑I.sup.length : Int).toNat { hi := (0 : Int), lo := (0 : Int) : Wide } ∧
 (True ∧ True ∧ True) ∧ I.sup = I.sup ∧ I.arcs = I.arcs ∧ x = x ∧ True) ∧
 (Net_a5 I) ∧
 (Net_a2 I) ∧
 ∃ (g : Unit),
 True ∧
 (Net_a4) ∧
 (True ∧ (0 : Nat) = (0 : Nat) ∧ True) ∧
 (Net_a1 I) ∧
 I.arcs = I.arcs ∧
 listF I = listF I ∧
 startF I = startF I ∧
 List.replicate (↑I.sup.length : Int).toNat { hi := (0 : Int), lo := (0 : Int) : Wide } =
 List.replicate (↑I.sup.length : Int).toNat { hi := (0 : Int), lo := (0 : Int) : Wide } ∧
 (True ∧ True ∧ True) ∧ I.sup = I.sup ∧ I.arcs = I.arcs ∧ x = x ∧ True) ∧
 ∀ (g : Unit),
 True →
 ∃ (g0 : Nat),
 (g0 ≤ I.arcs.length ∧
 (True ∧ (0 : Nat) = (0 : Nat) ∧ (↑I.arcs.length : Int) = (↑I.arcs.length : Int) ∧ (0 : Int) = (↑g0 : Int) ∧ True) ∧
 (True ∧ (0 : Nat) = (0 : Nat) ∧ True) ∧
 (Net_a1 I) ∧
 I.arcs = I.arcs ∧
 listF I = listF I ∧
 startF I = startF I ∧ List.replicate (↑I.sup.length : Int).toNat { hi := (0 : Int), lo := (0 : Int) : Wide } = netAt I x g0 ∧ x = x ∧ True) ∧
 ∀ (g : Nat),
 g ≤ I.arcs.length →
 (decide ((↑g : Int) < (↑I.arcs.length : Int)) = true →
 (0 : Int) ≤ (↑g : Int) ∧
 True ∧
 (gOk (↑I.sup.length : Int) I.arcs (↑g : Int) = true →
 ((0 : Int) ≤ (Net_a0 I g).src ∧ (Net_a0 I g).src < (↑(netAt I x g).length : Int)) ∧
 (Net_a0 I g).src.toNat < (netAt I x g).length ∧
 ∀ (x_1 : Wide),
 (netAt I x g)[(Net_a0 I g).src.toNat]? = some x_1 →
 I64 (x.getD (↑g : Int).toNat (0 : Int)) ∧
 (x_1.ok ∧ (W (x.getD (↑g : Int).toNat (0 : Int))).ok) ∧
 ((0 : Int) ≤ (Net_a0 I g).src ∧
 (Net_a0 I g).src < (↑(netAt I x g).length : Int)) ∧
 (Net_a0 I g).src.toNat < (netAt I x g).length ∧
 ((0 : Int) ≤ (Net_a0 I g).dst ∧
 (Net_a0 I g).dst <
 (↑(Net_a3 I x g x_1).length :
 Int)) ∧
 (Net_a0 I g).dst.toNat <
 (Net_a3 I x g x_1).length ∧
 ∀ (x_2 : Wide),
 (Net_a3 I x g x_1)[(Net_a0 I g).dst.toNat]? =
 some x_2 →
 I64 (x.getD (↑g : Int).toNat (0 : Int)) ∧
 (x_2.ok ∧ (W (x.getD (↑g : Int).toNat (0 : Int))).ok) ∧
 ((0 : Int) ≤ (Net_a0 I g).dst ∧
 (Net_a0 I g).dst <
 (↑(Net_a3 I x g x_1).length :
 Int)) ∧
 (Net_a0 I g).dst.toNat <
 (Net_a3 I x g x_1).length ∧
 ∃ (g' : Nat),
 g' ≤ I.arcs.length ∧
 I.arcs.length - g' < I.arcs.length - g ∧
 (True ∧
 (0 : Nat) = (0 : Nat) ∧
 (↑I.arcs.length : Int) = (↑I.arcs.length : Int) ∧
 IntKind.i64.wrap ((↑g : Int) + (1 : Int)) = (↑g' : Int) ∧ True) ∧
 (True ∧ (0 : Nat) = (0 : Nat) ∧ True) ∧
 (Net_a1 I) ∧
 I.arcs = I.arcs ∧
 listF I = listF I ∧
 startF I = startF I ∧
 (Net_a3 I x g x_1).set
 (Net_a0 I g).dst.toNat
 (wminus x_2 (W (x.getD (↑g : Int).toNat (0 : Int)))) =
 netAt I x g' ∧
 x = x ∧ True) ∧
 (gOk (↑I.sup.length : Int) I.arcs (↑g : Int) = false →
 ∃ (g' : Nat),
 g' ≤ I.arcs.length ∧
 I.arcs.length - g' < I.arcs.length - g ∧
 (True ∧ (0 : Nat) = (0 : Nat) ∧ (↑I.arcs.length : Int) = (↑I.arcs.length : Int) ∧ IntKind.i64.wrap ((↑g : Int) + (1 : Int)) = (↑g' : Int) ∧ True) ∧
 (True ∧ (0 : Nat) = (0 : Nat) ∧ True) ∧
 (Net_a1 I) ∧
 I.arcs = I.arcs ∧ listF I = listF I ∧ startF I = startF I ∧ netAt I x g = netAt I x g' ∧ x = x ∧ True)) ∧
 (decide ((↑g : Int) < (↑I.arcs.length : Int)) = false → (True ∧ True) ∧ netAt I x g = netF I x ∧ True)
theorem Net_q (I : Inst) (x : List Int) (ty0 ty1 ty2 : TypeId) : Net_E0 I x ty0 ty1 ty2 = FVcP TT Net_g (Net_I I x) (Net_an I x) Try.f20 [.agg [.row 0, .row 1], .row 2] [(0, .row false ty0 (.ints .i64 I.sup)), (1, .row false ty1 (.arcs I.arcs)), (2, .row false ty2 (.ints .i64 x))] (Net_r I x) := by kernel_rfl
theorem Net_E (I : Inst) (x : List Int) (ty0 ty1 ty2 : TypeId) (hp : I.sup.length ≤ 10000 ∧ I.arcs.length ≤ 10000 ∧ A64 x) : FVc TT Net_g (Net_I I x) (Net_an I x) Try.f20 [.agg [.row 0, .row 1], .row 2] [(0, .row false ty0 (.ints .i64 I.sup)), (1, .row false ty1 (.arcs I.arcs)), (2, .row false ty2 (.ints .i64 x))] (Net_r I x) := by
  refine FVc.of (Net_E0 I x ty0 ty1 ty2) (Net_q I x ty0 ty1 ty2) ?_
  unfold Net_E0
  delta Net_a5 Net_a4 Net_a3 Net_a2 Net_a1 Net_a0
  simp only [eq_self, exists_const, forall_const, decide_eq_true_eq, decide_eq_false_iff_not, and_true, true_and, bne_iff_ne, ne_eq, bne_eq_false_iff_eq, Int.toNat_natCast, Bool.not_eq_true', Bool.not_eq_false', beq_iff_eq, beq_eq_false_iff_ne, nilEq_true]
  obtain ⟨p1, p2, p3⟩ := hp
  simp only [netAt_len, List.length_set]
  refine ⟨by omega, 0, ⟨by omega, rfl, ?_⟩, fun k hk => ⟨fun h1 => ?_, fun h1 => ?_⟩⟩
  · unfold netAt
    simp only [netK]
    rw [W_zero]
    simp [List.map_const']
  · obtain ⟨a, ha⟩ : ∃ a, I.arcs[k]? = some a := ⟨_, List.getElem?_eq_getElem (by omega)⟩
    have hg : gArc I.sup.length I.arcs k = if okArc I.sup.length a then a else ⟨0, 0, 0, 0, 0⟩ := gArc_at (by omega) (by simpa using ha)
    have hgo : gOk I.sup.length I.arcs k = okArc I.sup.length a := gOk_at (by omega) (by simpa using ha)
    have hx := p3.getD k
    rw [hg, hgo]
    refine ⟨by omega, fun ho => ?_, fun ho => ⟨k + 1, by omega, by omega, w64 (by omega) (by omega), netAt_same ha ho⟩⟩
    rw [if_pos ho]
    obtain ⟨o1, o2, o3, o4⟩ := okArc_iff.1 ho
    refine ⟨by omega, by omega, fun p hp => ?_⟩
    obtain ⟨_, hpw⟩ := netAt_get hp
    refine ⟨hx, ⟨by rw [hpw]; exact W_ok _, W_ok _⟩, by omega, by omega, by omega, by omega, fun q hq => ?_⟩
    obtain ⟨q1, q2, q3⟩ := netAt_step ha ho hp hq
    exact ⟨hx, ⟨q1, W_ok _⟩, by omega, by omega, k + 1, by omega, by omega, w64 (by omega) (by omega), q3⟩
  · rw [show k = I.arcs.length by omega]; rfl
theorem Net_ok : SpecOk Try.prog Net_n true (specOf true Net_fs) :=
  spec_ok' TT_ok (show GsOk Try.prog Net_g from gsOk_cons New_ok (gsOk_cons along_ok (gsOk_cons flows_ok (gsOk_nil)))) (by kernel_rfl) mixedOrders Try.func20 rfl rfl (by kernel_rfl) (n := 2) (by decide +kernel) (I := Net_IA) (fun _ _ => isOk_nil) (A := Net_A)
    (fun args h r hr => by
      unfold Net_fs at hr
      split at hr
      · rename_i ty0 I_s ty1 I_a ty2 x; cases hr; refine ⟨rfl, fun hp => ?_⟩; have hE := Net_E ⟨I_s, I_a⟩ x ty0 ty1 ty2 hp; exact hE
      · cases hr)
def Cost_E0 (I : Inst) (x : List Int) (ty0 ty1 ty2 : TypeId) : Prop :=
      ∃ (g0 : Nat),
 (g0 ≤ I.arcs.length ∧
 (True ∧ (0 : Nat) = (0 : Nat) ∧ (0 : Nat) = (0 : Nat) ∧ True ∧ (↑I.arcs.length : Int) = (↑I.arcs.length : Int) ∧ (0 : Int) = (↑g0 : Int) ∧ True) ∧
 ((0 : Int) = (W (costK I.arcs x g0)).hi ∧ (0 : Int) = (W (costK I.arcs x g0)).lo ∧ True) ∧
 ((0 : Int) = (0 : Int) ∧ (0 : Int) = (0 : Int) ∧ True) ∧ I.arcs = I.arcs ∧ x = x ∧ True) ∧
 ∀ (g : Nat),
 g ≤ I.arcs.length →
 (decide ((↑g : Int) < (↑I.arcs.length : Int)) = true →
 ((0 : Int) ≤ (↑g : Int) ∧ (↑g : Int) < (↑I.arcs.length : Int)) ∧
 (↑g : Int).toNat < I.arcs.length ∧
 ∀ (x_1 : Arc),
 I.arcs[(↑g : Int).toNat]? = some x_1 →
 (0 : Int) ≤ (↑g : Int) ∧
 (I64 x_1.cost ∧ I64 (x.getD (↑g : Int).toNat (0 : Int))) ∧
 ((W (costK I.arcs x g)).ok ∧ (W (x_1.cost * x.getD (↑g : Int).toNat (0 : Int))).ok) ∧
 ∃ (g' : Nat),
 g' ≤ I.arcs.length ∧
 I.arcs.length - g' < I.arcs.length - g ∧
 (True ∧
 (0 : Nat) = (0 : Nat) ∧
 (0 : Nat) = (0 : Nat) ∧
 True ∧ (↑I.arcs.length : Int) = (↑I.arcs.length : Int) ∧ IntKind.i64.wrap ((↑g : Int) + (1 : Int)) = (↑g' : Int) ∧ True) ∧
 ((wplus (W (costK I.arcs x g)) (W (x_1.cost * x.getD (↑g : Int).toNat (0 : Int)))).hi = (W (costK I.arcs x g')).hi ∧
 (wplus (W (costK I.arcs x g)) (W (x_1.cost * x.getD (↑g : Int).toNat (0 : Int)))).lo = (W (costK I.arcs x g')).lo ∧ True) ∧
 ((0 : Int) = (0 : Int) ∧ (0 : Int) = (0 : Int) ∧ True) ∧ I.arcs = I.arcs ∧ x = x ∧ True) ∧
 (decide ((↑g : Int) < (↑I.arcs.length : Int)) = false →
 (((W (costK I.arcs x g)).hi = (W (costF I x)).hi ∧ (W (costK I.arcs x g)).lo = (W (costF I x)).lo ∧ True) ∧ True) ∧ True)
theorem Cost_q (I : Inst) (x : List Int) (ty0 ty1 ty2 : TypeId) : Cost_E0 I x ty0 ty1 ty2 = FVcP TT Cost_g (Cost_I I x) (Cost_an I x) Try.f34 [.agg [.row 0, .row 1], .row 2] [(0, .row false ty0 (.ints .i64 I.sup)), (1, .row false ty1 (.arcs I.arcs)), (2, .row false ty2 (.ints .i64 x))] (Cost_r I x) := by kernel_rfl
theorem Cost_E (I : Inst) (x : List Int) (ty0 ty1 ty2 : TypeId) (hp : A64 x ∧ A64c I.arcs ∧ I.arcs.length ≤ 1000000) : FVc TT Cost_g (Cost_I I x) (Cost_an I x) Try.f34 [.agg [.row 0, .row 1], .row 2] [(0, .row false ty0 (.ints .i64 I.sup)), (1, .row false ty1 (.arcs I.arcs)), (2, .row false ty2 (.ints .i64 x))] (Cost_r I x) := by
  refine FVc.of (Cost_E0 I x ty0 ty1 ty2) (Cost_q I x ty0 ty1 ty2) ?_
  unfold Cost_E0
  simp only [eq_self, exists_const, forall_const, decide_eq_true_eq, decide_eq_false_iff_not, and_true, true_and, bne_iff_ne, ne_eq, bne_eq_false_iff_eq, Int.toNat_natCast, Bool.not_eq_true', Bool.not_eq_false', beq_iff_eq, beq_eq_false_iff_ne, nilEq_true]
  obtain ⟨p1, p2, p3⟩ := hp
  refine ⟨0, ⟨by omega, rfl, by simp only [costK, W_zero], by simp only [costK, W_zero]⟩, fun k hk => ⟨fun h1 => ⟨by omega, by omega, fun a ha => ?_⟩, fun h1 => ?_⟩⟩
  · have hc := p2 a (List.mem_of_getElem? ha)
    have hg : I.arcs.getD k default = a := by simp [List.getD, ha]
    have hx := p1.getD k
    rw [wplus_W]
    refine ⟨by omega, ⟨hc, hx⟩, ⟨W_ok _, W_ok _⟩, k + 1, by omega, by omega, w64 (by omega) (by omega), ?_⟩
    rw [show costK I.arcs x (k + 1) = costK I.arcs x k + a.cost * x.getD k 0 by simp only [costK, hg]]
    exact ⟨rfl, rfl⟩
  · rw [show k = I.arcs.length by omega]
    exact ⟨rfl, rfl⟩
theorem Cost_ok : SpecOk Try.prog Cost_n true (specOf true Cost_fs) :=
  spec_ok' TT_ok (show GsOk Try.prog Cost_g from gsOk_cons along_ok (gsOk_cons Times_ok (gsOk_cons Plus_ok (gsOk_nil)))) (by kernel_rfl) mixedOrders Try.func34 rfl rfl (by kernel_rfl) (n := 2) (by decide +kernel) (I := Cost_IA) (fun _ _ => isOk_nil) (A := Cost_A)
    (fun args h r hr => by
      unfold Cost_fs at hr
      split at hr
      · rename_i ty0 I_s ty1 I_a ty2 x; cases hr; refine ⟨rfl, fun hp => ?_⟩; have hE := Cost_E ⟨I_s, I_a⟩ x ty0 ty1 ty2 hp; exact hE
      · cases hr)
def Fits_E0 (I : Inst) (x : List Int) (ty0 ty1 ty2 : TypeId) : Prop :=
      True ∧
 ((rightF I != (0 : Int)) = true → (rightF I = fitsF I x ∧ True) ∧ True) ∧
 ((rightF I != (0 : Int)) = false →
 (((↑x.length : Int) != (↑I.arcs.length : Int)) = true → ((30 : Int) = fitsF I x ∧ True) ∧ True) ∧
 (((↑x.length : Int) != (↑I.arcs.length : Int)) = false →
 ∃ (g0 : Nat),
 ((g0 ≤ I.arcs.length ∧ fitsAll (List.drop g0 I.arcs) (List.drop g0 x) = fitsAll I.arcs x) ∧
 (True ∧ (0 : Nat) = (0 : Nat) ∧ True ∧ (↑I.arcs.length : Int) = (↑I.arcs.length : Int) ∧ (0 : Int) = (↑g0 : Int) ∧ True) ∧
 (True ∧ True ∧ True) ∧ I.sup = I.sup ∧ I.arcs = I.arcs ∧ x = x ∧ True) ∧
 ∀ (g : Nat),
 g ≤ I.arcs.length ∧ fitsAll (List.drop g I.arcs) (List.drop g x) = fitsAll I.arcs x →
 (decide ((↑g : Int) < (↑I.arcs.length : Int)) = true →
 ((0 : Int) ≤ (↑g : Int) ∧ (↑g : Int) < (↑I.arcs.length : Int)) ∧
 (↑g : Int).toNat < I.arcs.length ∧
 ∀ (x_1 : Arc),
 I.arcs[(↑g : Int).toNat]? = some x_1 →
 ((0 : Int) ≤ (↑g : Int) ∧ (↑g : Int) < (↑x.length : Int)) ∧
 (↑g : Int).toNat < x.length ∧
 ∀ (x_2 : Int),
 x[(↑g : Int).toNat]? = some x_2 →
 True ∧
 ((!fitF x_1 x_2) = true → ((31 : Int) = fitsF I x ∧ True) ∧ True) ∧
 ((!fitF x_1 x_2) = false →
 ∃ (g' : Nat),
 (g' ≤ I.arcs.length ∧ fitsAll (List.drop g' I.arcs) (List.drop g' x) = fitsAll I.arcs x) ∧
 I.arcs.length - g' < I.arcs.length - g ∧
 (True ∧
 (0 : Nat) = (0 : Nat) ∧
 True ∧ (↑I.arcs.length : Int) = (↑I.arcs.length : Int) ∧ IntKind.i64.wrap ((↑g : Int) + (1 : Int)) = (↑g' : Int) ∧ True) ∧
 (True ∧ True ∧ True) ∧ I.sup = I.sup ∧ I.arcs = I.arcs ∧ x = x ∧ True)) ∧
 (decide ((↑g : Int) < (↑I.arcs.length : Int)) = false →
 (I.sup.length ≤ (10000 : Nat) ∧ I.arcs.length ≤ (10000 : Nat) ∧ A64 x) ∧
 ∃ (g0 : Nat),
 ((g0 ≤ I.sup.length ∧ ∀ (v : Nat), v < g0 → W (netK (↑I.sup.length : Int) I.arcs x I.arcs.length (↑v : Int)) = W (I.sup.getD v (0 : Int))) ∧
 ((0 : Nat) = (0 : Nat) ∧ True ∧ (↑(netF I x).length : Int) = (↑(netF I x).length : Int) ∧ (0 : Int) = (↑g0 : Int) ∧ True) ∧
 netF I x = netF I x ∧ (True ∧ True ∧ True) ∧ I.sup = I.sup ∧ I.arcs = I.arcs ∧ True) ∧
 ∀ (g : Nat),
 (g ≤ I.sup.length ∧ ∀ (v : Nat), v < g → W (netK (↑I.sup.length : Int) I.arcs x I.arcs.length (↑v : Int)) = W (I.sup.getD v (0 : Int))) →
 (decide ((↑g : Int) < (↑(netF I x).length : Int)) = true →
 ((0 : Int) ≤ (↑g : Int) ∧ (↑g : Int) < (↑(netF I x).length : Int)) ∧
 (↑g : Int).toNat < (netF I x).length ∧
 ∀ (x_1 : Wide),
 (netF I x)[(↑g : Int).toNat]? = some x_1 →
 ((0 : Int) ≤ (↑g : Int) ∧ (↑g : Int) < (↑I.sup.length : Int)) ∧
 (↑g : Int).toNat < I.sup.length ∧
 ∀ (x_2 : Int),
 I.sup[(↑g : Int).toNat]? = some x_2 →
 I64 x_2 ∧
 ((!decide ([x_1.hi, x_1.lo] = [(W x_2).hi, (W x_2).lo])) = true → ((32 : Int) = fitsF I x ∧ True) ∧ True) ∧
 ((!decide ([x_1.hi, x_1.lo] = [(W x_2).hi, (W x_2).lo])) = false →
 ∃ (g' : Nat),
 (g' ≤ I.sup.length ∧
 ∀ (v : Nat),
 v < g' → W (netK (↑I.sup.length : Int) I.arcs x I.arcs.length (↑v : Int)) = W (I.sup.getD v (0 : Int))) ∧
 I.sup.length - g' < I.sup.length - g ∧
 ((0 : Nat) = (0 : Nat) ∧
 True ∧
 (↑(netF I x).length : Int) = (↑(netF I x).length : Int) ∧
 IntKind.i64.wrap ((↑g : Int) + (1 : Int)) = (↑g' : Int) ∧ True) ∧
 netF I x = netF I x ∧ (True ∧ True ∧ True) ∧ I.sup = I.sup ∧ I.arcs = I.arcs ∧ True)) ∧
 (decide ((↑g : Int) < (↑(netF I x).length : Int)) = false → ((0 : Int) = fitsF I x ∧ True) ∧ True))))
theorem Fits_q (I : Inst) (x : List Int) (ty0 ty1 ty2 : TypeId) : Fits_E0 I x ty0 ty1 ty2 = FVcP TT Fits_g (Fits_I I x) (Fits_an I x) Try.f59 [.agg [.row 0, .row 1], .row 2] [(0, .row false ty0 (.ints .i64 I.sup)), (1, .row false ty1 (.arcs I.arcs)), (2, .row false ty2 (.ints .i64 x))] (Fits_r I x) := by kernel_rfl
theorem Fits_E (I : Inst) (x : List Int) (ty0 ty1 ty2 : TypeId) (hp : I.sup.length ≤ 10000 ∧ I.arcs.length ≤ 10000 ∧ A64 x ∧ A64 I.sup) : FVc TT Fits_g (Fits_I I x) (Fits_an I x) Try.f59 [.agg [.row 0, .row 1], .row 2] [(0, .row false ty0 (.ints .i64 I.sup)), (1, .row false ty1 (.arcs I.arcs)), (2, .row false ty2 (.ints .i64 x))] (Fits_r I x) := by
  refine FVc.of (Fits_E0 I x ty0 ty1 ty2) (Fits_q I x ty0 ty1 ty2) ?_
  unfold Fits_E0
  simp only [eq_self, exists_const, forall_const, decide_eq_true_eq, decide_eq_false_iff_not, and_true, true_and, bne_iff_ne, ne_eq, bne_eq_false_iff_eq, Int.toNat_natCast, Bool.not_eq_true', Bool.not_eq_false', beq_iff_eq, beq_eq_false_iff_ne, nilEq_true]
  obtain ⟨p1, p2, p3, p4⟩ := hp
  simp only [netF_len]
  refine ⟨fun h => by simp [fitsF, h], fun h1 => ⟨fun h2 => ?_, fun h2 => ⟨0, ⟨⟨by omega, by simp⟩, rfl⟩, fun k hk => ⟨fun h3 => ⟨by omega, by omega, fun a ha => ⟨by omega, by omega, fun y hy => ?_⟩⟩, fun h3 => ?_⟩⟩⟩⟩
  · have h2' : ¬ x.length = I.arcs.length := by omega
    simp [fitsF, h1, h2']
  · have e := fitsAll_drop (x := x) ha
    have hyd : x.getD k 0 = y := by simp [List.getD, hy]
    rw [hk.2, hyd] at e
    have h2' : x.length = I.arcs.length := by omega
    refine ⟨fun h4 => ?_, fun h4 => ⟨k + 1, ⟨by omega, ?_⟩, by omega, w64 (by omega) (by omega)⟩⟩
    · rw [h4] at e
      simp only [Bool.false_and] at e
      simp [fitsF, h1, h2', e]
    · rw [e, h4, Bool.true_and]
  · have h2' : x.length = I.arcs.length := by omega
    have hall : fitsAll I.arcs x = true := by rw [← hk.2, drop_end (by omega)]; rfl
    refine ⟨⟨p1, p2, p3⟩, 0, ⟨⟨by omega, fun v hv => by omega⟩, rfl⟩, fun j hj => ⟨fun h4 => ⟨by omega, by omega, fun w hw => ⟨by omega, by omega, fun z hz => ?_⟩⟩, fun h4 => ?_⟩⟩
    · obtain ⟨_, rfl⟩ := map_range_get hw
      have hzd : I.sup.getD j 0 = z := by simp [List.getD, hz]
      have hwe : ∀ u v : Wide, [u.hi, u.lo] = [v.hi, v.lo] ↔ u = v := fun u v => by obtain ⟨u1, u2⟩ := u; obtain ⟨v1, v2⟩ := v; simp
      rw [hwe]
      refine ⟨p4 z (List.mem_of_getElem? hz), fun h5 => ?_, fun h5 => ⟨j + 1, ⟨by omega, fun v hv => ?_⟩, by omega, w64 (by omega) (by omega)⟩⟩
      · have hno : netOk I x = false := by
          rw [Bool.eq_false_iff]
          intro h
          unfold netOk at h
          have := List.all_eq_true.1 h j (List.mem_range.2 (by omega))
          rw [decide_eq_true_eq, hzd] at this
          exact h5 this
        simp [fitsF, h1, h2', hall, hno]
      · by_cases hvj : v = j
        · subst hvj; rw [hzd]; exact h5
        · exact hj.2 v (by omega)
    · have hno : netOk I x = true := by
        unfold netOk
        rw [List.all_eq_true]
        intro v hv
        rw [decide_eq_true_eq]
        exact hj.2 v (by have := List.mem_range.1 hv; omega)
      simp [fitsF, h1, h2', hall, hno]
theorem Fits_ok : SpecOk Try.prog Fits_n true (specOf true Fits_fs) :=
  spec_ok' TT_ok (show GsOk Try.prog Fits_g from gsOk_cons Right_ok (gsOk_cons fit_ok (gsOk_cons Net_ok (gsOk_cons Of_ok (gsOk_nil))))) (by kernel_rfl) mixedOrders Try.func59 rfl rfl (by kernel_rfl) (n := 2) (by decide +kernel) (I := Fits_IA) (fun _ _ => isOk_nil) (A := Fits_A)
    (fun args h r hr => by
      unfold Fits_fs at hr
      split at hr
      · rename_i ty0 I_s ty1 I_a ty2 x; cases hr; refine ⟨rfl, fun hp => ?_⟩; have hE := Fits_E ⟨I_s, I_a⟩ x ty0 ty1 ty2 hp; exact hE
      · cases hr)
def Flow_E0 (I : Inst) (d : List Int) (ty0 ty1 ty2 : TypeId) : Prop :=
      ∃ (g0 : Nat),
 (g0 ≤ I.arcs.length ∧
 (True ∧ (0 : Nat) = (0 : Nat) ∧ True ∧ (0 : Int) = (↑g0 : Int) ∧ True) ∧
 [] = List.take g0 (flowF I d) ∧ (True ∧ True ∧ True) ∧ I.sup = I.sup ∧ I.arcs = I.arcs ∧ d = d ∧ True) ∧
 ∀ (g : Nat),
 g ≤ I.arcs.length →
 (decide ((↑g : Int) < (↑I.arcs.length : Int)) = true →
 ((0 : Int) ≤ (↑g : Int) ∧ (↑g : Int) < (↑I.arcs.length : Int)) ∧
 (↑g : Int).toNat < I.arcs.length ∧
 ∀ (x : Arc),
 I.arcs[(↑g : Int).toNat]? = some x →
 (decide (IntKind.i64.wrap ((↑g : Int) + (1 : Int)) < (↑d.length : Int)) = true →
 ((0 : Int) ≤ IntKind.i64.wrap ((↑g : Int) + (1 : Int)) ∧ IntKind.i64.wrap ((↑g : Int) + (1 : Int)) < (↑d.length : Int)) ∧
 (IntKind.i64.wrap ((↑g : Int) + (1 : Int))).toNat < d.length ∧
 ∀ (x_1 : Int),
 d[(IntKind.i64.wrap ((↑g : Int) + (1 : Int))).toNat]? = some x_1 →
 (4 : Int) ≠ (0 : Int) ∧
 (List.take g (flowF I d)).length + (1 : Nat) ≤ (1000000000 : Nat) ∧
 ∃ (g' : Nat),
 g' ≤ I.arcs.length ∧
 I.arcs.length - g' < I.arcs.length - g ∧
 (True ∧ (0 : Nat) = (0 : Nat) ∧ True ∧ IntKind.i64.wrap ((↑g : Int) + (1 : Int)) = (↑g' : Int) ∧ True) ∧
 List.take g (flowF I d) ++ [min (IntKind.i64.wrap (x.low + IntKind.i64.wrap (x_1.tmod (4 : Int)))) x.cap] = List.take g' (flowF I d) ∧
 (True ∧ True ∧ True) ∧ I.sup = I.sup ∧ I.arcs = I.arcs ∧ d = d ∧ True) ∧
 (decide (IntKind.i64.wrap ((↑g : Int) + (1 : Int)) < (↑d.length : Int)) = false →
 (List.take g (flowF I d)).length + (1 : Nat) ≤ (1000000000 : Nat) ∧
 ∃ (g' : Nat),
 g' ≤ I.arcs.length ∧
 I.arcs.length - g' < I.arcs.length - g ∧
 (True ∧ (0 : Nat) = (0 : Nat) ∧ True ∧ IntKind.i64.wrap ((↑g : Int) + (1 : Int)) = (↑g' : Int) ∧ True) ∧
 List.take g (flowF I d) ++ [x.low] = List.take g' (flowF I d) ∧ (True ∧ True ∧ True) ∧ I.sup = I.sup ∧ I.arcs = I.arcs ∧ d = d ∧ True)) ∧
 (decide ((↑g : Int) < (↑I.arcs.length : Int)) = false → (True ∧ True) ∧ List.take g (flowF I d) = flowF I d ∧ True)
theorem Flow_q (I : Inst) (d : List Int) (ty0 ty1 ty2 : TypeId) : Flow_E0 I d ty0 ty1 ty2 = FVcP TT Flow_g (Flow_I I d) (Flow_an I d) Try.f17 [.agg [.row 0, .row 1], .row 2] [(0, .row false ty0 (.ints .i64 I.sup)), (1, .row false ty1 (.arcs I.arcs)), (2, .row false ty2 (.ints .u8 d))] (Flow_r I d) := by kernel_rfl
theorem Flow_E (I : Inst) (d : List Int) (ty0 ty1 ty2 : TypeId) (hp : Bytes d ∧ I.arcs.length ≤ 1000000 ∧ L42 I.arcs) : FVc TT Flow_g (Flow_I I d) (Flow_an I d) Try.f17 [.agg [.row 0, .row 1], .row 2] [(0, .row false ty0 (.ints .i64 I.sup)), (1, .row false ty1 (.arcs I.arcs)), (2, .row false ty2 (.ints .u8 d))] (Flow_r I d) := by
  refine FVc.of (Flow_E0 I d ty0 ty1 ty2) (Flow_q I d ty0 ty1 ty2) ?_
  unfold Flow_E0
  simp only [eq_self, exists_const, forall_const, decide_eq_true_eq, decide_eq_false_iff_not, and_true, true_and, bne_iff_ne, ne_eq, bne_eq_false_iff_eq, Int.toNat_natCast, Bool.not_eq_true', Bool.not_eq_false', beq_iff_eq, beq_eq_false_iff_ne, nilEq_true]
  obtain ⟨p1, p2, p3⟩ := hp
  have hlen : (flowF I d).length = I.arcs.length := by simp [flowF]
  refine ⟨0, ⟨by omega, rfl, by simp⟩, fun k hk => ⟨fun h1 => ⟨by omega, by omega, fun a ha => ?_⟩, fun h1 => ?_⟩⟩
  · have hw := p3 a (List.mem_of_getElem? ha)
    have hk1 : IntKind.i64.wrap ((k : Int) + 1) = ((k + 1 : Nat) : Int) := by rw [w64 (by omega) (by omega)]; omega
    have hg : I.arcs.getD k default = a := by simp [List.getD, ha]
    have hf : (flowF I d)[k]? = some (useOf d k a) := by
      unfold flowF
      rw [List.getElem?_map, List.getElem?_range (by omega)]
      simp only [Option.map_some, hg]
    have htl : ((flowF I d).take k).length = k := by rw [List.length_take, hlen]; omega
    simp only [hk1, Int.toNat_natCast]
    refine ⟨fun h2 => ⟨by omega, by omega, fun y hy => ⟨by decide, by omega, k + 1, by omega, by omega, rfl, ?_⟩⟩, fun h2 => ⟨by omega, k + 1, by omega, by omega, rfl, ?_⟩⟩
    · have hb := p1 y (List.mem_of_getElem? hy)
      rw [take_get hf, tmod_pos hb.1, w64 (x := y % 4) (by omega) (by omega), w64 (by omega) (by omega)]
      unfold useOf
      rw [if_pos (by omega)]
      simp [List.getD, hy]
    · rw [take_get hf]
      unfold useOf
      rw [if_neg (by omega)]
  · rw [List.take_of_length_le (by omega)]
theorem Flow_ok : SpecOk Try.prog Flow_n true (specOf true Flow_fs) :=
  spec_ok' TT_ok (show GsOk Try.prog Flow_g from gsOk_nil) (by kernel_rfl) mixedOrders Try.func17 rfl rfl (by kernel_rfl) (n := 2) (by decide +kernel) (I := Flow_IA) (fun _ _ => isOk_nil) (A := Flow_A)
    (fun args h r hr => by
      unfold Flow_fs at hr
      split at hr
      · rename_i ty0 I_s ty1 I_a ty2 d; cases hr; refine ⟨rfl, fun hp => ?_⟩; have hE := Flow_E ⟨I_s, I_a⟩ d ty0 ty1 ty2 hp; exact hE
      · cases hr)
end Go.Proofs.Ytggblkbecekbdaa
