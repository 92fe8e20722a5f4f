/- Part of the proof, FP11. -/
import Derived.Test.YtggblkbecekbdaaZFB9
import Derived.Test.YtggblkbecekbdaaZDP11
import Derived.Test.YtggblkbecekbdaaZVc11
import Derived.Test.YtggblkbecekbdaaZLaw11
set_option linter.unusedVariables false
set_option linter.all false
set_option linter.unusedSimpArgs false
set_option maxRecDepth 100000
namespace Go.Proofs.Ytggblkbecekbdaa
open Go Go.RowKit Go.Ql Go.Vc
def of11_E0 (pot : List Int) (n : Int) (ty0 : TypeId) : Prop :=
      (decide (n ≥ (↑pot.length : Int)) = true → ((0 : Int) = pot.getD n.toNat (0 : Int) ∧ True) ∧ True) ∧
 (decide (n ≥ (↑pot.length : Int)) = false →
 ((0 : Int) ≤ n ∧ n < (↑pot.length : Int)) ∧ n.toNat < pot.length ∧ ∀ (x : Int), pot[n.toNat]? = some x → (x = pot.getD n.toNat (0 : Int) ∧ True) ∧ True)
theorem of11_q (pot : List Int) (n : Int) (ty0 : TypeId) : of11_E0 pot n ty0 = FVcP TT of11_g (of11_I pot n) (of11_an pot n) Try.f63 [.row 0, .int .i64 n] [(0, .row false ty0 (.ints .i64 pot))] (of11_r pot n) := by kernel_rfl
theorem of11_E (pot : List Int) (n : Int) (ty0 : TypeId) (hp : 0 ≤ n) : FVc TT of11_g (of11_I pot n) (of11_an pot n) Try.f63 [.row 0, .int .i64 n] [(0, .row false ty0 (.ints .i64 pot))] (of11_r pot n) := by
  refine FVc.of (of11_E0 pot n ty0) (of11_q pot n ty0) ?_
  unfold of11_E0
  simp only [eq_self, exists_const, forall_const, decide_eq_true_eq, decide_eq_false_iff_not, and_true, true_and, bne_iff_ne, ne_eq, bne_eq_false_iff_eq, Int.toNat_natCast, Bool.not_eq_true', Bool.not_eq_false', beq_iff_eq, beq_eq_false_iff_ne, nilEq_true]
  refine ⟨fun h => ?_, fun h => ⟨by omega, by omega, fun x hx => ?_⟩⟩
  · simp [List.getD, List.getElem?_eq_none (show pot.length ≤ n.toNat by omega)]
  · simp [List.getD, hx]
theorem of11_ok : SpecOk Try.prog of11_n true (specOf true of11_fs) :=
  spec_ok' TT_ok (show GsOk Try.prog of11_g from gsOk_nil) (by kernel_rfl) mixedOrders Try.func63 rfl rfl (by kernel_rfl) (n := 2) (by decide +kernel) (I := of11_IA) (fun _ _ => isOk_nil) (A := of11_A)
    (fun args h r hr => by
      unfold of11_fs at hr
      split at hr
      · rename_i n ty0 pot; cases hr; refine ⟨rfl, fun hp => ?_⟩; have hE := of11_E pot n ty0 hp; exact hE
      · cases hr)
def reduced_E0 (p : Arc) (pf : Int) (pt : Int) : Prop :=
      I64 p.cost ∧
 I64 pf ∧
 ((W p.cost).ok ∧ (W pf).ok) ∧
 I64 pt ∧
 ((wminus (W p.cost) (W pf)).ok ∧ (W pt).ok) ∧
 (((wplus (wminus (W p.cost) (W pf)) (W pt)).hi = (W (redA p pf pt)).hi ∧ (wplus (wminus (W p.cost) (W pf)) (W pt)).lo = (W (redA p pf pt)).lo ∧ True) ∧ True) ∧ True
theorem reduced_q (p : Arc) (pf : Int) (pt : Int) : reduced_E0 p pf pt = FVcP TT reduced_g (reduced_I p pf pt) (reduced_an p pf pt) Try.f38 [.agg [.int .i64 p.src, .int .i64 p.dst, .int .i64 p.low, .int .i64 p.cap, .int .i64 p.cost, .int .i64 pf, .int .i64 pt]] [] (reduced_r p pf pt) := by kernel_rfl
theorem reduced_E (p : Arc) (pf : Int) (pt : Int) (hp : I64 p.cost ∧ I64 pf ∧ I64 pt) : FVc TT reduced_g (reduced_I p pf pt) (reduced_an p pf pt) Try.f38 [.agg [.int .i64 p.src, .int .i64 p.dst, .int .i64 p.low, .int .i64 p.cap, .int .i64 p.cost, .int .i64 pf, .int .i64 pt]] [] (reduced_r p pf pt) := by
  refine FVc.of (reduced_E0 p pf pt) (reduced_q p pf pt) ?_
  unfold reduced_E0
  obtain ⟨p1, p2, p3⟩ := hp
  simp only [eq_self, exists_const, forall_const, decide_eq_true_eq, decide_eq_false_iff_not, and_true, true_and, bne_iff_ne, ne_eq, bne_eq_false_iff_eq, Int.toNat_natCast, Bool.not_eq_true', Bool.not_eq_false', beq_iff_eq, beq_eq_false_iff_ne, nilEq_true]
  simp [p1, p2, p3, W_ok, redA]
theorem reduced_ok : SpecOk Try.prog reduced_n true (specOf true reduced_fs) :=
  spec_ok' TT_ok (show GsOk Try.prog reduced_g from gsOk_cons Plus_ok (gsOk_cons Minus_ok (gsOk_cons Of_ok (gsOk_nil)))) (by kernel_rfl) mixedOrders Try.func38 rfl rfl (by kernel_rfl) (n := 1) (by decide +kernel) (I := reduced_IA) (fun _ _ => isOk_nil) (A := reduced_A)
    (fun args h r hr => by
      unfold reduced_fs at hr
      split at hr
      · rename_i p_0 p_1 p_2 p_3 p_4 pf pt; cases hr; refine ⟨rfl, fun hp => ?_⟩; have hE := reduced_E ⟨p_0, p_1, p_2, p_3, p_4⟩ pf pt hp; exact hE
      · cases hr)
def sign_E0 (p : Arc) (pf : Int) (pt : Int) : Prop :=
      (I64 p.cost ∧ I64 pf ∧ I64 pt) ∧ I64 (0 : Int) ∧ ((W (redA p pf pt)).ok ∧ (W (0 : Int)).ok) ∧ (wcmp (W (redA p pf pt)) (W (0 : Int)) = sgn (redA p pf pt) ∧ True) ∧ True
theorem sign_q (p : Arc) (pf : Int) (pt : Int) : sign_E0 p pf pt = FVcP TT sign_g (sign_I p pf pt) (sign_an p pf pt) Try.f96 [.agg [.int .i64 p.src, .int .i64 p.dst, .int .i64 p.low, .int .i64 p.cap, .int .i64 p.cost, .int .i64 pf, .int .i64 pt]] [] (sign_r p pf pt) := by kernel_rfl
theorem sign_E (p : Arc) (pf : Int) (pt : Int) (hp : I64 p.cost ∧ I64 pf ∧ I64 pt) : FVc TT sign_g (sign_I p pf pt) (sign_an p pf pt) Try.f96 [.agg [.int .i64 p.src, .int .i64 p.dst, .int .i64 p.low, .int .i64 p.cap, .int .i64 p.cost, .int .i64 pf, .int .i64 pt]] [] (sign_r p pf pt) := by
  refine FVc.of (sign_E0 p pf pt) (sign_q p pf pt) ?_
  unfold sign_E0
  obtain ⟨p1, p2, p3⟩ := hp
  have i0 : I64 0 := by simp [I64]
  simp only [eq_self, exists_const, forall_const, decide_eq_true_eq, decide_eq_false_iff_not, and_true, true_and, bne_iff_ne, ne_eq, bne_eq_false_iff_eq, Int.toNat_natCast, Bool.not_eq_true', Bool.not_eq_false', beq_iff_eq, beq_eq_false_iff_ne, nilEq_true]
  simp [p1, p2, p3, W_ok, i0, sgn]
theorem sign_ok : SpecOk Try.prog sign_n true (specOf true sign_fs) :=
  spec_ok' TT_ok (show GsOk Try.prog sign_g from gsOk_cons Compare_ok (gsOk_cons reduced_ok (gsOk_cons Of_ok (gsOk_nil)))) (by kernel_rfl) mixedOrders Try.func96 rfl rfl (by kernel_rfl) (n := 1) (by decide +kernel) (I := sign_IA) (fun _ _ => isOk_nil) (A := sign_A)
    (fun args h r hr => by
      unfold sign_fs at hr
      split at hr
      · rename_i p_0 p_1 p_2 p_3 p_4 pf pt; cases hr; refine ⟨rfl, fun hp => ?_⟩; have hE := sign_E ⟨p_0, p_1, p_2, p_3, p_4⟩ pf pt hp; exact hE
      · cases hr)
theorem at_ok {I : Inst} {pot : List Int} {a : Int} (h1 : A64 pot) (h2 : A64c I.arcs) : I64 (atA I a).cost ∧ I64 (atF I pot a) ∧ I64 (atT I pot a) := by
  have z : I64 0 := by simp [I64]
  refine ⟨?_, ?_, ?_⟩
  · unfold atA gArc
    split
    · rename_i h
      unfold gOk at h
      simp only [Bool.and_eq_true, decide_eq_true_eq] at h
      have hl : a.toNat < I.arcs.length := by omega
      rw [List.getD_eq_getElem?_getD, List.getElem?_eq_getElem hl]
      exact h2 _ (List.getElem_mem hl)
    · exact z
  · unfold atF
    split
    · exact h1.getD _
    · exact z
  · unfold atT
    split
    · exact h1.getD _
    · exact z
def at11_E0 (I : Inst) (pot : List Int) (a : Int) (ty0 ty1 ty2 : TypeId) : Prop :=
      (decide (a < (0 : Int)) = true →
 ((((0 : Int) = (atA I a).src ∧
 (0 : Int) = (atA I a).dst ∧
 (0 : Int) = (atA I a).low ∧ (0 : Int) = (atA I a).cap ∧ (0 : Int) = (atA I a).cost ∧ (0 : Int) = atF I pot a ∧ (0 : Int) = atT I pot a ∧ True) ∧
 false = gOk (↑I.sup.length : Int) I.arcs a ∧ True) ∧
 True) ∧
 True) ∧
 (decide (a < (0 : Int)) = false →
 (decide (a ≥ (↑I.arcs.length : Int)) = true →
 ((((0 : Int) = (atA I a).src ∧
 (0 : Int) = (atA I a).dst ∧
 (0 : Int) = (atA I a).low ∧ (0 : Int) = (atA I a).cap ∧ (0 : Int) = (atA I a).cost ∧ (0 : Int) = atF I pot a ∧ (0 : Int) = atT I pot a ∧ True) ∧
 false = gOk (↑I.sup.length : Int) I.arcs a ∧ True) ∧
 True) ∧
 True) ∧
 (decide (a ≥ (↑I.arcs.length : Int)) = false →
 ((0 : Int) ≤ a ∧ a < (↑I.arcs.length : Int)) ∧
 a.toNat < I.arcs.length ∧
 ∀ (x : Arc),
 I.arcs[a.toNat]? = some x →
 (decide (x.src < (0 : Int)) = true →
 ((((0 : Int) = (atA I a).src ∧
 (0 : Int) = (atA I a).dst ∧
 (0 : Int) = (atA I a).low ∧ (0 : Int) = (atA I a).cap ∧ (0 : Int) = (atA I a).cost ∧ (0 : Int) = atF I pot a ∧ (0 : Int) = atT I pot a ∧ True) ∧
 false = gOk (↑I.sup.length : Int) I.arcs a ∧ True) ∧
 True) ∧
 True) ∧
 (decide (x.src < (0 : Int)) = false →
 (decide (x.src ≥ (↑I.sup.length : Int)) = true →
 ((((0 : Int) = (atA I a).src ∧
 (0 : Int) = (atA I a).dst ∧
 (0 : Int) = (atA I a).low ∧ (0 : Int) = (atA I a).cap ∧ (0 : Int) = (atA I a).cost ∧ (0 : Int) = atF I pot a ∧ (0 : Int) = atT I pot a ∧ True) ∧
 false = gOk (↑I.sup.length : Int) I.arcs a ∧ True) ∧
 True) ∧
 True) ∧
 (decide (x.src ≥ (↑I.sup.length : Int)) = false →
 (decide (x.dst < (0 : Int)) = true →
 ((((0 : Int) = (atA I a).src ∧
 (0 : Int) = (atA I a).dst ∧
 (0 : Int) = (atA I a).low ∧
 (0 : Int) = (atA I a).cap ∧ (0 : Int) = (atA I a).cost ∧ (0 : Int) = atF I pot a ∧ (0 : Int) = atT I pot a ∧ True) ∧
 false = gOk (↑I.sup.length : Int) I.arcs a ∧ True) ∧
 True) ∧
 True) ∧
 (decide (x.dst < (0 : Int)) = false →
 (decide (x.dst ≥ (↑I.sup.length : Int)) = true →
 ((((0 : Int) = (atA I a).src ∧
 (0 : Int) = (atA I a).dst ∧
 (0 : Int) = (atA I a).low ∧
 (0 : Int) = (atA I a).cap ∧ (0 : Int) = (atA I a).cost ∧ (0 : Int) = atF I pot a ∧ (0 : Int) = atT I pot a ∧ True) ∧
 false = gOk (↑I.sup.length : Int) I.arcs a ∧ True) ∧
 True) ∧
 True) ∧
 (decide (x.dst ≥ (↑I.sup.length : Int)) = false →
 (0 : Int) ≤ x.src ∧
 (0 : Int) ≤ x.dst ∧
 (((x.src = (atA I a).src ∧
 x.dst = (atA I a).dst ∧
 x.low = (atA I a).low ∧
 x.cap = (atA I a).cap ∧
 x.cost = (atA I a).cost ∧ pot.getD x.src.toNat (0 : Int) = atF I pot a ∧ pot.getD x.dst.toNat (0 : Int) = atT I pot a ∧ True) ∧
 true = gOk (↑I.sup.length : Int) I.arcs a ∧ True) ∧
 True) ∧
 True))))))
theorem at11_q (I : Inst) (pot : List Int) (a : Int) (ty0 ty1 ty2 : TypeId) : at11_E0 I pot a ty0 ty1 ty2 = FVcP TT at11_g (at11_I I pot a) (at11_an I pot a) Try.f37 [.agg [.row 0, .row 1], .row 2, .int .i64 a] [(0, .row false ty0 (.ints .i64 I.sup)), (1, .row false ty1 (.arcs I.arcs)), (2, .row false ty2 (.ints .i64 pot))] (at11_r I pot a) := by kernel_rfl
theorem at11_E (I : Inst) (pot : List Int) (a : Int) (ty0 ty1 ty2 : TypeId) (hp : True) : FVc TT at11_g (at11_I I pot a) (at11_an I pot a) Try.f37 [.agg [.row 0, .row 1], .row 2, .int .i64 a] [(0, .row false ty0 (.ints .i64 I.sup)), (1, .row false ty1 (.arcs I.arcs)), (2, .row false ty2 (.ints .i64 pot))] (at11_r I pot a) := by
  refine FVc.of (at11_E0 I pot a ty0 ty1 ty2) (at11_q I pot a ty0 ty1 ty2) ?_
  unfold at11_E0
  have z : gOk I.sup.length I.arcs a = false → (0 = (atA I a).src ∧ 0 = (atA I a).dst ∧ 0 = (atA I a).low ∧ 0 = (atA I a).cap ∧ 0 = (atA I a).cost ∧ 0 = atF I pot a ∧ 0 = atT I pot a) ∧ false = gOk I.sup.length I.arcs a := fun h => by
    simp [atA, gArc, atF, atT, h]
  simp only [eq_self, exists_const, forall_const, decide_eq_true_eq, decide_eq_false_iff_not, and_true, true_and, bne_iff_ne, ne_eq, bne_eq_false_iff_eq, Int.toNat_natCast, Bool.not_eq_true', Bool.not_eq_false', beq_iff_eq, beq_eq_false_iff_ne, nilEq_true]
  refine ⟨fun h => z (gOk_out (.inl h)), fun h => ⟨fun h2 => z (gOk_out (.inr h2)), fun h2 => ⟨by omega, by omega, fun x hx => ?_⟩⟩⟩
  have hg := gOk_at (n := I.sup.length) (a := a) (by omega) hx
  have no : ¬ (0 ≤ x.src ∧ x.src < I.sup.length ∧ 0 ≤ x.dst ∧ x.dst < I.sup.length) → gOk I.sup.length I.arcs a = false := fun h => by
    rw [hg]
    cases ho : okArc (I.sup.length : Int) x with
    | false => rfl
    | true => exact absurd (okArc_iff.1 ho) h
  refine ⟨fun h3 => z (no (by omega)), fun h3 => ⟨fun h4 => z (no (by omega)), fun h4 => ⟨fun h5 => z (no (by omega)), fun h5 => ⟨fun h6 => z (no (by omega)), fun h6 => ⟨by omega, by omega, ?_⟩⟩⟩⟩⟩
  have hgt : gOk I.sup.length I.arcs a = true := by rw [hg]; exact okArc_iff.2 ⟨by omega, by omega, by omega, by omega⟩
  have hA : atA I a = x := by unfold atA gArc; rw [if_pos hgt]; simp [List.getD, hx]
  simp [hgt, hA, atF, atT]
theorem at11_ok : SpecOk Try.prog at11_n true (specOf true at11_fs) :=
  spec_ok' TT_ok (show GsOk Try.prog at11_g from gsOk_cons of11_ok (gsOk_nil)) (by kernel_rfl) mixedOrders Try.func37 rfl rfl (by kernel_rfl) (n := 3) (by decide +kernel) (I := at11_IA) (fun _ _ => isOk_nil) (A := at11_A)
    (fun args h r hr => by
      unfold at11_fs at hr
      split at hr
      · rename_i a ty0 I_s ty1 I_a ty2 pot; cases hr; refine ⟨rfl, fun hp => ?_⟩; have hE := at11_E ⟨I_s, I_a⟩ pot a ty0 ty1 ty2 hp; exact hE
      · cases hr)
theorem arcs11_ok : SpecOk Try.prog arcs11_n false arcs11_spec :=
  inl_ok TT_ok (show GsOk Try.prog arcs11_g from gsOk_nil) (by kernel_rfl) mixedOrders Try.func95 rfl rfl (by kernel_rfl) _
def Reduced_E0 (I : Inst) (pot : List Int) (a : Int) (ty0 ty1 ty2 : TypeId) : Prop :=
      True ∧
 ((!gOk (↑I.sup.length : Int) I.arcs a) = true → (((0 : Int) = (W (redF I pot a)).hi ∧ (0 : Int) = (W (redF I pot a)).lo ∧ True) ∧ True) ∧ True) ∧
 ((!gOk (↑I.sup.length : Int) I.arcs a) = false →
 (I64 (atA I a).cost ∧ I64 (atF I pot a) ∧ I64 (atT I pot a)) ∧
 (((W (redA (atA I a) (atF I pot a) (atT I pot a))).hi = (W (redF I pot a)).hi ∧ (W (redA (atA I a) (atF I pot a) (atT I pot a))).lo = (W (redF I pot a)).lo ∧ True) ∧
 True) ∧
 True)
theorem Reduced_q (I : Inst) (pot : List Int) (a : Int) (ty0 ty1 ty2 : TypeId) : Reduced_E0 I pot a ty0 ty1 ty2 = FVcP TT Reduced_g (Reduced_I I pot a) (Reduced_an I pot a) Try.f19 [.agg [.row 0, .row 1], .row 2, .int .i64 a] [(0, .row false ty0 (.ints .i64 I.sup)), (1, .row false ty1 (.arcs I.arcs)), (2, .row false ty2 (.ints .i64 pot))] (Reduced_r I pot a) := by kernel_rfl
theorem Reduced_E (I : Inst) (pot : List Int) (a : Int) (ty0 ty1 ty2 : TypeId) (hp : A64 pot ∧ A64c I.arcs) : FVc TT Reduced_g (Reduced_I I pot a) (Reduced_an I pot a) Try.f19 [.agg [.row 0, .row 1], .row 2, .int .i64 a] [(0, .row false ty0 (.ints .i64 I.sup)), (1, .row false ty1 (.arcs I.arcs)), (2, .row false ty2 (.ints .i64 pot))] (Reduced_r I pot a) := by
  refine FVc.of (Reduced_E0 I pot a ty0 ty1 ty2) (Reduced_q I pot a ty0 ty1 ty2) ?_
  unfold Reduced_E0
  obtain ⟨p1, p2⟩ := hp
  have hk := at_ok (a := a) p1 p2
  simp only [eq_self, exists_const, forall_const, decide_eq_true_eq, decide_eq_false_iff_not, and_true, true_and, bne_iff_ne, ne_eq, bne_eq_false_iff_eq, Int.toNat_natCast, Bool.not_eq_true', Bool.not_eq_false', beq_iff_eq, beq_eq_false_iff_ne, nilEq_true]
  refine ⟨fun h => ?_, fun h => ⟨hk, ?_⟩⟩
  · unfold redF; rw [h, if_neg (by decide), W_zero]; exact ⟨rfl, rfl⟩
  · unfold redF; rw [if_pos h]; exact ⟨rfl, rfl⟩
theorem Reduced_ok : SpecOk Try.prog Reduced_n true (specOf true Reduced_fs) :=
  spec_ok' TT_ok (show GsOk Try.prog Reduced_g from gsOk_cons at11_ok (gsOk_cons reduced_ok (gsOk_nil))) (by kernel_rfl) mixedOrders Try.func19 rfl rfl (by kernel_rfl) (n := 3) (by decide +kernel) (I := Reduced_IA) (fun _ _ => isOk_nil) (A := Reduced_A)
    (fun args h r hr => by
      unfold Reduced_fs at hr
      split at hr
      · rename_i a ty0 I_s ty1 I_a ty2 pot; cases hr; refine ⟨rfl, fun hp => ?_⟩; have hE := Reduced_E ⟨I_s, I_a⟩ pot a ty0 ty1 ty2 hp; exact hE
      · cases hr)
abbrev Slack_a0 (I : Inst) (g : Nat) (g' : Nat) := (True ∧
 (0 : Nat) = (0 : Nat) ∧
 (0 : Nat) = (0 : Nat) ∧
 (↑I.arcs.length : Int) = (↑I.arcs.length : Int) ∧
 IntKind.i64.wrap ((↑g : Int) + (1 : Int)) = (↑g' : Int) ∧ True)
abbrev Slack_a1 (I : Inst) (g : Nat) (pot : List Int) := (redA (atA I (↑g : Int)) (atF I pot (↑g : Int)) (atT I pot (↑g : Int)))
abbrev Slack_a2 (g' : Nat) (I : Inst) (x : List Int) (pot : List Int) := (g' ≤ I.arcs.length ∧ ∀ (j : Nat), j < g' → slackK I x pot j = true)
abbrev Slack_a3 (I : Inst) (g : Nat) (g' : Nat) := (True ∧
 (0 : Nat) = (0 : Nat) ∧
 (0 : Nat) = (0 : Nat) ∧
 (↑I.arcs.length : Int) = (↑I.arcs.length : Int) ∧ IntKind.i64.wrap ((↑g : Int) + (1 : Int)) = (↑g' : Int) ∧ True)
abbrev Slack_a4 (I : Inst) (g : Nat) := ((atA I (↑g : Int)).cap == (4611686018427387904 : Int))
def Slack_E0 (I : Inst) (x : List Int) (pot : List Int) (ty0 ty1 ty2 ty3 : TypeId) : Prop :=
      (I.sup.length ≤ (10000 : Nat) ∧ I.arcs.length ≤ (10000 : Nat) ∧ A64 x ∧ A64 I.sup) ∧
 ((fitsF I x != (0 : Int)) = true → (fitsF I x = slackF I x pot ∧ True) ∧ True) ∧
 ((fitsF I x != (0 : Int)) = false →
 (((↑pot.length : Int) != (↑I.sup.length : Int)) = true → ((30 : Int) = slackF I x pot ∧ True) ∧ True) ∧
 (((↑pot.length : Int) != (↑I.sup.length : Int)) = false →
 ∀ (R : Loop → Prop),
 ∃ (g0 : Nat),
 ((g0 ≤ I.arcs.length ∧ ∀ (j : Nat), j < g0 → slackK I x pot j = true) ∧
 (True ∧ (0 : Nat) = (0 : Nat) ∧ (0 : Nat) = (0 : Nat) ∧ (↑I.arcs.length : Int) = (↑I.arcs.length : Int) ∧ (0 : Int) = (↑g0 : Int) ∧ True) ∧
 R = R ∧
 (True ∧ True) ∧
 (True ∧ True ∧ True) ∧ ((0 : Int) = (0 : Int) ∧ True) ∧ (True ∧ True) ∧ (True ∧ True ∧ True) ∧ I.sup = I.sup ∧ I.arcs = I.arcs ∧ x = x ∧ pot = pot ∧ True) ∧
 ∀ (g : Nat),
 (g ≤ I.arcs.length ∧ ∀ (j : Nat), j < g → slackK I x pot j = true) →
 (decide ((↑g : Int) < (↑I.arcs.length : Int)) = true →
 True ∧
 (gOk (↑I.sup.length : Int) I.arcs (↑g : Int) = true →
 R = R ∧
 (I64 (atA I (↑g : Int)).cost ∧ I64 (atF I pot (↑g : Int)) ∧ I64 (atT I pot (↑g : Int))) ∧
 (decide (sgn (Slack_a1 I g pot) > (0 : Int)) = true →
 ((0 : Int) ≤ (↑g : Int) ∧ (↑g : Int) < (↑x.length : Int)) ∧
 (↑g : Int).toNat < x.length ∧
 ∀ (x_1 : Int),
 x[(↑g : Int).toNat]? = some x_1 →
 ((x_1 != (atA I (↑g : Int)).low) = true → ((33 : Int) = slackF I x pot ∧ True) ∧ True) ∧
 ((x_1 != (atA I (↑g : Int)).low) = false →
 (decide (sgn (Slack_a1 I g pot) < (0 : Int)) = true →
 ((0 : Int) ≤ (↑g : Int) ∧ (↑g : Int) < (↑x.length : Int)) ∧
 (↑g : Int).toNat < x.length ∧
 ∀ (x_2 : Int),
 x[(↑g : Int).toNat]? = some x_2 →
 ((x_2 != (atA I (↑g : Int)).cap) = true → ((33 : Int) = slackF I x pot ∧ True) ∧ True) ∧
 ((x_2 != (atA I (↑g : Int)).cap) = false →
 ((Slack_a4 I g) = true → ((33 : Int) = slackF I x pot ∧ True) ∧ True) ∧
 ((Slack_a4 I g) = false →
 ∃ (g' : Nat),
 (Slack_a2 g' I x pot) ∧
 I.arcs.length - g' < I.arcs.length - g ∧
 (Slack_a0 I g g') ∧
 R = R ∧
 (True ∧ True) ∧
 (True ∧ True ∧ True) ∧
 ((0 : Int) = (0 : Int) ∧ True) ∧
 (True ∧ True) ∧
 (True ∧ True ∧ True) ∧ I.sup = I.sup ∧ I.arcs = I.arcs ∧ x = x ∧ pot = pot ∧ True))) ∧
 (decide (sgn (Slack_a1 I g pot) < (0 : Int)) = false →
 ∃ (g' : Nat),
 (Slack_a2 g' I x pot) ∧
 I.arcs.length - g' < I.arcs.length - g ∧
 (Slack_a0 I g g') ∧
 R = R ∧
 (True ∧ True) ∧
 (True ∧ True ∧ True) ∧
 ((0 : Int) = (0 : Int) ∧ True) ∧
 (True ∧ True) ∧ (True ∧ True ∧ True) ∧ I.sup = I.sup ∧ I.arcs = I.arcs ∧ x = x ∧ pot = pot ∧ True))) ∧
 (decide (sgn (Slack_a1 I g pot) > (0 : Int)) = false →
 (decide (sgn (Slack_a1 I g pot) < (0 : Int)) = true →
 ((0 : Int) ≤ (↑g : Int) ∧ (↑g : Int) < (↑x.length : Int)) ∧
 (↑g : Int).toNat < x.length ∧
 ∀ (x_1 : Int),
 x[(↑g : Int).toNat]? = some x_1 →
 ((x_1 != (atA I (↑g : Int)).cap) = true → ((33 : Int) = slackF I x pot ∧ True) ∧ True) ∧
 ((x_1 != (atA I (↑g : Int)).cap) = false →
 ((Slack_a4 I g) = true → ((33 : Int) = slackF I x pot ∧ True) ∧ True) ∧
 ((Slack_a4 I g) = false →
 ∃ (g' : Nat),
 (Slack_a2 g' I x pot) ∧
 I.arcs.length - g' < I.arcs.length - g ∧
 (Slack_a0 I g g') ∧
 R = R ∧
 (True ∧ True) ∧
 (True ∧ True ∧ True) ∧
 ((0 : Int) = (0 : Int) ∧ True) ∧
 (True ∧ True) ∧ (True ∧ True ∧ True) ∧ I.sup = I.sup ∧ I.arcs = I.arcs ∧ x = x ∧ pot = pot ∧ True))) ∧
 (decide (sgn (Slack_a1 I g pot) < (0 : Int)) = false →
 ∃ (g' : Nat),
 (Slack_a2 g' I x pot) ∧
 I.arcs.length - g' < I.arcs.length - g ∧
 (Slack_a3 I g g') ∧
 R = R ∧
 (True ∧ True) ∧
 (True ∧ True ∧ True) ∧
 ((0 : Int) = (0 : Int) ∧ True) ∧
 (True ∧ True) ∧ (True ∧ True ∧ True) ∧ I.sup = I.sup ∧ I.arcs = I.arcs ∧ x = x ∧ pot = pot ∧ True))) ∧
 (gOk (↑I.sup.length : Int) I.arcs (↑g : Int) = false →
 ∃ (g' : Nat),
 (Slack_a2 g' I x pot) ∧
 I.arcs.length - g' < I.arcs.length - g ∧
 (Slack_a3 I g g') ∧
 R = R ∧
 (True ∧ True) ∧
 (True ∧ True ∧ True) ∧
 ((0 : Int) = (0 : Int) ∧ True) ∧ (True ∧ True) ∧ (True ∧ True ∧ True) ∧ I.sup = I.sup ∧ I.arcs = I.arcs ∧ x = x ∧ pot = pot ∧ True)) ∧
 (decide ((↑g : Int) < (↑I.arcs.length : Int)) = false → ((0 : Int) = slackF I x pot ∧ True) ∧ True)))
theorem Slack_q (I : Inst) (x : List Int) (pot : List Int) (ty0 ty1 ty2 ty3 : TypeId) : Slack_E0 I x pot ty0 ty1 ty2 ty3 = FVcP TT Slack_g (Slack_I I x pot) (Slack_an I x pot) Try.f55 [.agg [.row 0, .row 1], .row 2, .row 3] [(0, .row false ty0 (.ints .i64 I.sup)), (1, .row false ty1 (.arcs I.arcs)), (2, .row false ty2 (.ints .i64 x)), (3, .row false ty3 (.ints .i64 pot))] (Slack_r I x pot) := by kernel_rfl
theorem Slack_E (I : Inst) (x : List Int) (pot : List Int) (ty0 ty1 ty2 ty3 : TypeId) (hp : I.sup.length ≤ 10000 ∧ I.arcs.length ≤ 10000 ∧ A64 x ∧ A64 I.sup ∧ A64 pot ∧ A64c I.arcs) : FVc TT Slack_g (Slack_I I x pot) (Slack_an I x pot) Try.f55 [.agg [.row 0, .row 1], .row 2, .row 3] [(0, .row false ty0 (.ints .i64 I.sup)), (1, .row false ty1 (.arcs I.arcs)), (2, .row false ty2 (.ints .i64 x)), (3, .row false ty3 (.ints .i64 pot))] (Slack_r I x pot) := by
  refine FVc.of (Slack_E0 I x pot ty0 ty1 ty2 ty3) (Slack_q I x pot ty0 ty1 ty2 ty3) ?_
  unfold Slack_E0
  delta Slack_a4 Slack_a3 Slack_a2 Slack_a1 Slack_a0
  obtain ⟨p1, p2, p3, p4, p5, p6⟩ := hp
  have bad : ∀ j, j < I.arcs.length → fitsF I x = 0 → pot.length = I.sup.length → slackK I x pot j = false → 33 = slackF I x pot := fun j hj h1 h2 h3 => by
    unfold slackF
    rw [if_neg (by omega), if_neg (by omega), if_neg]
    intro ha
    have := List.all_eq_true.1 ha j (List.mem_range.2 hj)
    rw [h3] at this; cases this
  have nx : ∀ g, g < I.arcs.length → (∀ j, j < g → slackK I x pot j = true) → slackK I x pot g = true → ∃ g', (g' ≤ I.arcs.length ∧ ∀ j, j < g' → slackK I x pot j = true) ∧ I.arcs.length - g' < I.arcs.length - g ∧ IntKind.i64.wrap ((g : Int) + 1) = (g' : Int) := fun g hg h1 h2 =>
    ⟨g + 1, ⟨by omega, fun j hj => by
      by_cases e : j = g
      · subst e; exact h2
      · exact h1 j (by omega)⟩, by omega, by rw [w64 (by omega) (by omega)]; omega⟩
  simp only [eq_self, exists_const, forall_const, decide_eq_true_eq, decide_eq_false_iff_not, and_true, true_and, bne_iff_ne, ne_eq, bne_eq_false_iff_eq, Int.toNat_natCast, Bool.not_eq_true', Bool.not_eq_false', beq_iff_eq, beq_eq_false_iff_ne, nilEq_true]
  refine ⟨⟨p1, p2, p3, p4⟩, fun h => by unfold slackF; rw [if_pos h], fun hf => ⟨fun h => by unfold slackF; rw [if_neg (by omega), if_pos (by omega)], fun hl => ⟨0, ⟨⟨by omega, fun j hj => by omega⟩, rfl⟩, fun g hg => ⟨fun h1 => ?_, fun h1 => ?_⟩⟩⟩⟩
  · have hz := fitsF_zero.1 hf
    have hgl : g < I.arcs.length := by omega
    have hgx : g < x.length := by omega
    obtain ⟨b, hb⟩ : ∃ b, I.arcs[g]? = some b := ⟨_, List.getElem?_eq_getElem hgl⟩
    obtain ⟨y, hy⟩ : ∃ y, x[g]? = some y := ⟨_, List.getElem?_eq_getElem hgx⟩
    have ho := (rightF_arc hz.1 (List.mem_of_getElem? hb)).1
    have hgk : gOk I.sup.length I.arcs (g : Int) = true := by rw [gOk_at (by omega) (by rw [Int.toNat_natCast]; exact hb)]; exact ho
    have hA := atA_get hb ho
    have hr : redA (atA I g) (atF I pot g) (atT I pot g) = redF I pot g := by unfold redF; rw [if_pos hgk]
    have hbd : I.arcs.getD g default = b := by simp [List.getD, hb]
    have hyd : x.getD g 0 = y := by simp [List.getD, hy]
    have key : slackK I x pot g = slackA (redF I pot g) y b := by unfold slackK; rw [hbd, hyd]
    refine ⟨fun _ => ⟨at_ok p5 p6, ?_⟩, fun h => by rw [hgk] at h; cases h⟩
    have B := bad g hgl hf (by omega)
    have N := nx g hgl hg.2
    rw [key] at B N
    rw [hr, hA]
    simp only [hy, Option.some.injEq, forall_eq']
    have q1 : (0 : Int) ≤ g := by omega
    have q2 : (g : Int) < x.length := by omega
    unfold slackA inf at B N
    generalize redF I pot g = r at *
    refine ⟨fun c1 => ⟨⟨q1, q2⟩, hgx, fun c2 => B (by simp [show 0 < sgn r from c1, c2]), fun c2 => ⟨fun c3 => by omega, fun c3 => N (by simp [c3, c2])⟩⟩, fun c1 => ⟨fun c3 => ⟨⟨q1, q2⟩, hgx, fun c4 => B (by simp [c3, c4]), fun c4 => ⟨fun c5 => B (by simp [c3, c5]), fun c5 => N (by simp [show ¬ 0 < sgn r from c1, c4, c5])⟩⟩, fun c3 => N (by simp [show ¬ 0 < sgn r from c1, c3])⟩⟩
  · have : (List.range I.arcs.length).all (slackK I x pot) = true := List.all_eq_true.2 fun j hj => hg.2 j (by have := List.mem_range.1 hj; omega)
    unfold slackF
    rw [if_neg (by omega), if_neg (by omega), if_pos this]
theorem Slack_i0_ok (I : Inst) (x : List Int) (pot : List Int) : ISpecOk Try.prog 124 (Slack_i0 I x pot) :=
  inlI_ok TT_ok (show GsOk Try.prog Slack_i0g from gsOk_cons at11_ok (gsOk_nil)) (by kernel_rfl) mixedOrders Try.func124 rfl rfl (fun key spec => by kernel_rfl) _
theorem Slack_ok : SpecOk Try.prog Slack_n true (specOf true Slack_fs) :=
  spec_ok' TT_ok (show GsOk Try.prog Slack_g from gsOk_cons Fits_ok (gsOk_cons arcs11_ok (gsOk_cons sign_ok (gsOk_nil)))) (by kernel_rfl) mixedOrders Try.func55 rfl rfl (by kernel_rfl) (n := 3) (by decide +kernel) (I := Slack_IA) (fun args h => by
      unfold Slack_IA
      split
      · exact isOk_cons (Slack_i0_ok _ _ _) (isOk_nil)
      · exact isOk_nil) (A := Slack_A)
    (fun args h r hr => by
      unfold Slack_fs at hr
      split at hr
      · rename_i ty0 I_s ty1 I_a ty2 x ty3 pot; cases hr; refine ⟨rfl, fun hp => ?_⟩; have hE := Slack_E ⟨I_s, I_a⟩ x pot ty0 ty1 ty2 ty3 hp; exact hE
      · cases hr)
end Go.Proofs.Ytggblkbecekbdaa
