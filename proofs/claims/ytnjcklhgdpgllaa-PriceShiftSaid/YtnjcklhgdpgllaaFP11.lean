/-
  CONTRACTS, PROVED: of11, reduced, sign, at11, arcs11, Reduced, Shift, Slack, Bound, rReduced, rSlack, rBound, rShift.
-/
import Derived.Test.YtnjcklhgdpgllaaFB9
import Derived.Test.YtnjcklhgdpgllaaDP11
import Derived.Test.YtnjcklhgdpgllaaVc11
import Derived.Test.YtnjcklhgdpgllaaLaw11
set_option linter.unusedVariables false
set_option linter.all false
set_option linter.unusedSimpArgs false
set_option maxRecDepth 100000
namespace Go.Proofs.Ytnjcklhgdpgllaa
open Go Go.RowKit Go.Ql Go.Vc

def of11_E0 (pot : List Int) (n : Int) (ty0 : TypeId) : Prop :=
      (decide (n ≥ (↑pot.length : Int)) = true → ((0 : Int) = pot.getD n.toNat (0 : Int) ∧ True) ∧ True) ∧
 (decide (n ≥ (↑pot.length : Int)) = false →
 ((0 : Int) ≤ n ∧ n < (↑pot.length : Int)) ∧ n.toNat < pot.length ∧ ∀ (x : Int), pot[n.toNat]? = some x → (x = pot.getD n.toNat (0 : Int) ∧ True) ∧ True)
theorem of11_q (pot : List Int) (n : Int) (ty0 : TypeId) : of11_E0 pot n ty0 = FVcP TT of11_g (of11_I pot n) (of11_an pot n) Try.f71 [.row 0, .int .i64 n] [(0, .row false ty0 (.ints .i64 pot))] (of11_r pot n) := by kernel_rfl
theorem of11_E (pot : List Int) (n : Int) (ty0 : TypeId) (hp : 0 ≤ n) : FVc TT of11_g (of11_I pot n) (of11_an pot n) Try.f71 [.row 0, .int .i64 n] [(0, .row false ty0 (.ints .i64 pot))] (of11_r pot n) := by
  refine FVc.of (of11_E0 pot n ty0) (of11_q pot n ty0) ?_
  unfold of11_E0
  simp only [eq_self, exists_const, forall_const, decide_eq_true_eq, decide_eq_false_iff_not, and_true, true_and, bne_iff_ne, ne_eq, bne_eq_false_iff_eq, Int.toNat_natCast, Bool.not_eq_true', Bool.not_eq_false', beq_iff_eq, beq_eq_false_iff_ne, nilEq_true]
  refine ⟨fun h => ?_, fun h => ⟨by omega, by omega, fun x hx => ?_⟩⟩
  · simp [List.getD, List.getElem?_eq_none (show pot.length ≤ n.toNat by omega)]
  · simp [List.getD, hx]

theorem of11_ok : SpecOk Try.prog of11_n true (specOf true of11_fs) :=
  spec_ok' TT_ok (show GsOk Try.prog of11_g from gsOk_nil) (by kernel_rfl) mixedOrders Try.func71 rfl rfl (by kernel_rfl) (n := 2) (by decide +kernel) (I := of11_IA) (fun _ _ => isOk_nil) (A := of11_A)
    (fun args h r hr => by
      unfold of11_fs at hr
      split at hr
      · rename_i n ty0 pot; cases hr; refine ⟨rfl, fun hp => ?_⟩; have hE := of11_E pot n ty0 hp; exact hE
      · cases hr)

def reduced_E0 (p : Arc) (pf : Int) (pt : Int) : Prop :=
      I64 p.cost ∧
 I64 pf ∧
 ((W p.cost).ok ∧ (W pf).ok) ∧
 I64 pt ∧
 ((wminus (W p.cost) (W pf)).ok ∧ (W pt).ok) ∧
 (((wplus (wminus (W p.cost) (W pf)) (W pt)).hi = (W (redA p pf pt)).hi ∧ (wplus (wminus (W p.cost) (W pf)) (W pt)).lo = (W (redA p pf pt)).lo ∧ True) ∧ True) ∧ True
theorem reduced_q (p : Arc) (pf : Int) (pt : Int) : reduced_E0 p pf pt = FVcP TT reduced_g (reduced_I p pf pt) (reduced_an p pf pt) Try.f54 [.agg [.int .i64 p.src, .int .i64 p.dst, .int .i64 p.low, .int .i64 p.cap, .int .i64 p.cost, .int .i64 pf, .int .i64 pt]] [] (reduced_r p pf pt) := by kernel_rfl
theorem reduced_E (p : Arc) (pf : Int) (pt : Int) (hp : I64 p.cost ∧ I64 pf ∧ I64 pt) : FVc TT reduced_g (reduced_I p pf pt) (reduced_an p pf pt) Try.f54 [.agg [.int .i64 p.src, .int .i64 p.dst, .int .i64 p.low, .int .i64 p.cap, .int .i64 p.cost, .int .i64 pf, .int .i64 pt]] [] (reduced_r p pf pt) := by
  refine FVc.of (reduced_E0 p pf pt) (reduced_q p pf pt) ?_
  unfold reduced_E0
  obtain ⟨p1, p2, p3⟩ := hp
  simp only [eq_self, exists_const, forall_const, decide_eq_true_eq, decide_eq_false_iff_not, and_true, true_and, bne_iff_ne, ne_eq, bne_eq_false_iff_eq, Int.toNat_natCast, Bool.not_eq_true', Bool.not_eq_false', beq_iff_eq, beq_eq_false_iff_ne, nilEq_true]
  simp [p1, p2, p3, W_ok, redA]

theorem reduced_ok : SpecOk Try.prog reduced_n true (specOf true reduced_fs) :=
  spec_ok' TT_ok (show GsOk Try.prog reduced_g from gsOk_cons Plus_ok (gsOk_cons Minus_ok (gsOk_cons Of_ok (gsOk_nil)))) (by kernel_rfl) mixedOrders Try.func54 rfl rfl (by kernel_rfl) (n := 1) (by decide +kernel) (I := reduced_IA) (fun _ _ => isOk_nil) (A := reduced_A)
    (fun args h r hr => by
      unfold reduced_fs at hr
      split at hr
      · rename_i p_0 p_1 p_2 p_3 p_4 pf pt; cases hr; refine ⟨rfl, fun hp => ?_⟩; have hE := reduced_E ⟨p_0, p_1, p_2, p_3, p_4⟩ pf pt hp; exact hE
      · cases hr)

def sign_E0 (p : Arc) (pf : Int) (pt : Int) : Prop :=
      (I64 p.cost ∧ I64 pf ∧ I64 pt) ∧ I64 (0 : Int) ∧ ((W (redA p pf pt)).ok ∧ (W (0 : Int)).ok) ∧ (wcmp (W (redA p pf pt)) (W (0 : Int)) = sgn (redA p pf pt) ∧ True) ∧ True
theorem sign_q (p : Arc) (pf : Int) (pt : Int) : sign_E0 p pf pt = FVcP TT sign_g (sign_I p pf pt) (sign_an p pf pt) Try.f62 [.agg [.int .i64 p.src, .int .i64 p.dst, .int .i64 p.low, .int .i64 p.cap, .int .i64 p.cost, .int .i64 pf, .int .i64 pt]] [] (sign_r p pf pt) := by kernel_rfl
theorem sign_E (p : Arc) (pf : Int) (pt : Int) (hp : I64 p.cost ∧ I64 pf ∧ I64 pt) : FVc TT sign_g (sign_I p pf pt) (sign_an p pf pt) Try.f62 [.agg [.int .i64 p.src, .int .i64 p.dst, .int .i64 p.low, .int .i64 p.cap, .int .i64 p.cost, .int .i64 pf, .int .i64 pt]] [] (sign_r p pf pt) := by
  refine FVc.of (sign_E0 p pf pt) (sign_q p pf pt) ?_
  unfold sign_E0
  obtain ⟨p1, p2, p3⟩ := hp
  have i0 : I64 0 := by simp [I64]
  simp only [eq_self, exists_const, forall_const, decide_eq_true_eq, decide_eq_false_iff_not, and_true, true_and, bne_iff_ne, ne_eq, bne_eq_false_iff_eq, Int.toNat_natCast, Bool.not_eq_true', Bool.not_eq_false', beq_iff_eq, beq_eq_false_iff_ne, nilEq_true]
  simp [p1, p2, p3, W_ok, i0, sgn]

theorem sign_ok : SpecOk Try.prog sign_n true (specOf true sign_fs) :=
  spec_ok' TT_ok (show GsOk Try.prog sign_g from gsOk_cons Compare_ok (gsOk_cons reduced_ok (gsOk_cons Of_ok (gsOk_nil)))) (by kernel_rfl) mixedOrders Try.func62 rfl rfl (by kernel_rfl) (n := 1) (by decide +kernel) (I := sign_IA) (fun _ _ => isOk_nil) (A := sign_A)
    (fun args h r hr => by
      unfold sign_fs at hr
      split at hr
      · rename_i p_0 p_1 p_2 p_3 p_4 pf pt; cases hr; refine ⟨rfl, fun hp => ?_⟩; have hE := sign_E ⟨p_0, p_1, p_2, p_3, p_4⟩ pf pt hp; exact hE
      · cases hr)

def at11_E0 (I : Inst) (pot : List Int) (a : Int) (ty0 ty1 ty2 : TypeId) : Prop :=
      (decide (a < (0 : Int)) = true →
 ((((0 : Int) = (atA I a).src ∧
 (0 : Int) = (atA I a).dst ∧
 (0 : Int) = (atA I a).low ∧ (0 : Int) = (atA I a).cap ∧ (0 : Int) = (atA I a).cost ∧ (0 : Int) = atF I pot a ∧ (0 : Int) = atT I pot a ∧ True) ∧
 false = gOk (↑I.sup.length : Int) I.arcs a ∧ True) ∧
 True) ∧
 True) ∧
 (decide (a < (0 : Int)) = false →
 (decide (a ≥ (↑I.arcs.length : Int)) = true →
 ((((0 : Int) = (atA I a).src ∧
 (0 : Int) = (atA I a).dst ∧
 (0 : Int) = (atA I a).low ∧ (0 : Int) = (atA I a).cap ∧ (0 : Int) = (atA I a).cost ∧ (0 : Int) = atF I pot a ∧ (0 : Int) = atT I pot a ∧ True) ∧
 false = gOk (↑I.sup.length : Int) I.arcs a ∧ True) ∧
 True) ∧
 True) ∧
 (decide (a ≥ (↑I.arcs.length : Int)) = false →
 ((0 : Int) ≤ a ∧ a < (↑I.arcs.length : Int)) ∧
 a.toNat < I.arcs.length ∧
 ∀ (x : Arc),
 I.arcs[a.toNat]? = some x →
 (decide (x.src < (0 : Int)) = true →
 ((((0 : Int) = (atA I a).src ∧
 (0 : Int) = (atA I a).dst ∧
 (0 : Int) = (atA I a).low ∧ (0 : Int) = (atA I a).cap ∧ (0 : Int) = (atA I a).cost ∧ (0 : Int) = atF I pot a ∧ (0 : Int) = atT I pot a ∧ True) ∧
 false = gOk (↑I.sup.length : Int) I.arcs a ∧ True) ∧
 True) ∧
 True) ∧
 (decide (x.src < (0 : Int)) = false →
 (decide (x.src ≥ (↑I.sup.length : Int)) = true →
 ((((0 : Int) = (atA I a).src ∧
 (0 : Int) = (atA I a).dst ∧
 (0 : Int) = (atA I a).low ∧ (0 : Int) = (atA I a).cap ∧ (0 : Int) = (atA I a).cost ∧ (0 : Int) = atF I pot a ∧ (0 : Int) = atT I pot a ∧ True) ∧
 false = gOk (↑I.sup.length : Int) I.arcs a ∧ True) ∧
 True) ∧
 True) ∧
 (decide (x.src ≥ (↑I.sup.length : Int)) = false →
 (decide (x.dst < (0 : Int)) = true →
 ((((0 : Int) = (atA I a).src ∧
 (0 : Int) = (atA I a).dst ∧
 (0 : Int) = (atA I a).low ∧
 (0 : Int) = (atA I a).cap ∧ (0 : Int) = (atA I a).cost ∧ (0 : Int) = atF I pot a ∧ (0 : Int) = atT I pot a ∧ True) ∧
 false = gOk (↑I.sup.length : Int) I.arcs a ∧ True) ∧
 True) ∧
 True) ∧
 (decide (x.dst < (0 : Int)) = false →
 (decide (x.dst ≥ (↑I.sup.length : Int)) = true →
 ((((0 : Int) = (atA I a).src ∧
 (0 : Int) = (atA I a).dst ∧
 (0 : Int) = (atA I a).low ∧
 (0 : Int) = (atA I a).cap ∧ (0 : Int) = (atA I a).cost ∧ (0 : Int) = atF I pot a ∧ (0 : Int) = atT I pot a ∧ True) ∧
 false = gOk (↑I.sup.length : Int) I.arcs a ∧ True) ∧
 True) ∧
 True) ∧
 (decide (x.dst ≥ (↑I.sup.length : Int)) = false →
 (0 : Int) ≤ x.src ∧
 (0 : Int) ≤ x.dst ∧
 (((x.src = (atA I a).src ∧
 x.dst = (atA I a).dst ∧
 x.low = (atA I a).low ∧
 x.cap = (atA I a).cap ∧
 x.cost = (atA I a).cost ∧ pot.getD x.src.toNat (0 : Int) = atF I pot a ∧ pot.getD x.dst.toNat (0 : Int) = atT I pot a ∧ True) ∧
 true = gOk (↑I.sup.length : Int) I.arcs a ∧ True) ∧
 True) ∧
 True))))))
theorem at11_q (I : Inst) (pot : List Int) (a : Int) (ty0 ty1 ty2 : TypeId) : at11_E0 I pot a ty0 ty1 ty2 = FVcP TT at11_g (at11_I I pot a) (at11_an I pot a) Try.f53 [.agg [.row 0, .row 1], .row 2, .int .i64 a] [(0, .row false ty0 (.ints .i64 I.sup)), (1, .row false ty1 (.arcs I.arcs)), (2, .row false ty2 (.ints .i64 pot))] (at11_r I pot a) := by kernel_rfl
theorem at11_E (I : Inst) (pot : List Int) (a : Int) (ty0 ty1 ty2 : TypeId) (hp : True) : FVc TT at11_g (at11_I I pot a) (at11_an I pot a) Try.f53 [.agg [.row 0, .row 1], .row 2, .int .i64 a] [(0, .row false ty0 (.ints .i64 I.sup)), (1, .row false ty1 (.arcs I.arcs)), (2, .row false ty2 (.ints .i64 pot))] (at11_r I pot a) := by
  refine FVc.of (at11_E0 I pot a ty0 ty1 ty2) (at11_q I pot a ty0 ty1 ty2) ?_
  unfold at11_E0
  have z : gOk I.sup.length I.arcs a = false → (0 = (atA I a).src ∧ 0 = (atA I a).dst ∧ 0 = (atA I a).low ∧ 0 = (atA I a).cap ∧ 0 = (atA I a).cost ∧ 0 = atF I pot a ∧ 0 = atT I pot a) ∧ false = gOk I.sup.length I.arcs a := fun h => by
    simp [atA, gArc, atF, atT, h]
  simp only [eq_self, exists_const, forall_const, decide_eq_true_eq, decide_eq_false_iff_not, and_true, true_and, bne_iff_ne, ne_eq, bne_eq_false_iff_eq, Int.toNat_natCast, Bool.not_eq_true', Bool.not_eq_false', beq_iff_eq, beq_eq_false_iff_ne, nilEq_true]
  refine ⟨fun h => z (gOk_out (.inl h)), fun h => ⟨fun h2 => z (gOk_out (.inr h2)), fun h2 => ⟨by omega, by omega, fun x hx => ?_⟩⟩⟩
  have hg := gOk_at (n := I.sup.length) (a := a) (by omega) hx
  have no : ¬ (0 ≤ x.src ∧ x.src < I.sup.length ∧ 0 ≤ x.dst ∧ x.dst < I.sup.length) → gOk I.sup.length I.arcs a = false := fun h => by
    rw [hg]
    cases ho : okArc (I.sup.length : Int) x with
    | false => rfl
    | true => exact absurd (okArc_iff.1 ho) h
  refine ⟨fun h3 => z (no (by omega)), fun h3 => ⟨fun h4 => z (no (by omega)), fun h4 => ⟨fun h5 => z (no (by omega)), fun h5 => ⟨fun h6 => z (no (by omega)), fun h6 => ⟨by omega, by omega, ?_⟩⟩⟩⟩⟩
  have hgt : gOk I.sup.length I.arcs a = true := by rw [hg]; exact okArc_iff.2 ⟨by omega, by omega, by omega, by omega⟩
  have hA : atA I a = x := by unfold atA gArc; rw [if_pos hgt]; simp [List.getD, hx]
  simp [hgt, hA, atF, atT]

theorem at11_ok : SpecOk Try.prog at11_n true (specOf true at11_fs) :=
  spec_ok' TT_ok (show GsOk Try.prog at11_g from gsOk_cons of11_ok (gsOk_nil)) (by kernel_rfl) mixedOrders Try.func53 rfl rfl (by kernel_rfl) (n := 3) (by decide +kernel) (I := at11_IA) (fun _ _ => isOk_nil) (A := at11_A)
    (fun args h r hr => by
      unfold at11_fs at hr
      split at hr
      · rename_i a ty0 I_s ty1 I_a ty2 pot; cases hr; refine ⟨rfl, fun hp => ?_⟩; have hE := at11_E ⟨I_s, I_a⟩ pot a ty0 ty1 ty2 hp; exact hE
      · cases hr)

theorem arcs11_ok : SpecOk Try.prog arcs11_n false arcs11_spec :=
  inl_ok TT_ok (show GsOk Try.prog arcs11_g from gsOk_nil) (by kernel_rfl) mixedOrders Try.func61 rfl rfl (by kernel_rfl) _

theorem at_ok {I : Inst} {pot : List Int} {a : Int} (h1 : A64 pot) (h2 : A64c I.arcs) : I64 (atA I a).cost ∧ I64 (atF I pot a) ∧ I64 (atT I pot a) := by
  have z : I64 0 := by simp [I64]
  refine ⟨?_, ?_, ?_⟩
  · unfold atA gArc
    split
    · rename_i h
      unfold gOk at h
      simp only [Bool.and_eq_true, decide_eq_true_eq] at h
      have hl : a.toNat < I.arcs.length := by omega
      rw [List.getD_eq_getElem?_getD, List.getElem?_eq_getElem hl]
      exact h2 _ (List.getElem_mem hl)
    · exact z
  · unfold atF
    split
    · exact h1.getD _
    · exact z
  · unfold atT
    split
    · exact h1.getD _
    · exact z

def Reduced_E0 (I : Inst) (pot : List Int) (a : Int) (ty0 ty1 ty2 : TypeId) : Prop :=
      True ∧
 ((!gOk (↑I.sup.length : Int) I.arcs a) = true → (((0 : Int) = (W (redF I pot a)).hi ∧ (0 : Int) = (W (redF I pot a)).lo ∧ True) ∧ True) ∧ True) ∧
 ((!gOk (↑I.sup.length : Int) I.arcs a) = false →
 (I64 (atA I a).cost ∧ I64 (atF I pot a) ∧ I64 (atT I pot a)) ∧
 (((W (redA (atA I a) (atF I pot a) (atT I pot a))).hi = (W (redF I pot a)).hi ∧ (W (redA (atA I a) (atF I pot a) (atT I pot a))).lo = (W (redF I pot a)).lo ∧ True) ∧
 True) ∧
 True)
theorem Reduced_q (I : Inst) (pot : List Int) (a : Int) (ty0 ty1 ty2 : TypeId) : Reduced_E0 I pot a ty0 ty1 ty2 = FVcP TT Reduced_g (Reduced_I I pot a) (Reduced_an I pot a) Try.f18 [.agg [.row 0, .row 1], .row 2, .int .i64 a] [(0, .row false ty0 (.ints .i64 I.sup)), (1, .row false ty1 (.arcs I.arcs)), (2, .row false ty2 (.ints .i64 pot))] (Reduced_r I pot a) := by kernel_rfl
theorem Reduced_E (I : Inst) (pot : List Int) (a : Int) (ty0 ty1 ty2 : TypeId) (hp : A64 pot ∧ A64c I.arcs) : FVc TT Reduced_g (Reduced_I I pot a) (Reduced_an I pot a) Try.f18 [.agg [.row 0, .row 1], .row 2, .int .i64 a] [(0, .row false ty0 (.ints .i64 I.sup)), (1, .row false ty1 (.arcs I.arcs)), (2, .row false ty2 (.ints .i64 pot))] (Reduced_r I pot a) := by
  refine FVc.of (Reduced_E0 I pot a ty0 ty1 ty2) (Reduced_q I pot a ty0 ty1 ty2) ?_
  unfold Reduced_E0
  obtain ⟨p1, p2⟩ := hp
  have hk := at_ok (a := a) p1 p2
  simp only [eq_self, exists_const, forall_const, decide_eq_true_eq, decide_eq_false_iff_not, and_true, true_and, bne_iff_ne, ne_eq, bne_eq_false_iff_eq, Int.toNat_natCast, Bool.not_eq_true', Bool.not_eq_false', beq_iff_eq, beq_eq_false_iff_ne, nilEq_true]
  refine ⟨fun h => ?_, fun h => ⟨hk, ?_⟩⟩
  · unfold redF; rw [h, if_neg (by decide), W_zero]; exact ⟨rfl, rfl⟩
  · unfold redF; rw [if_pos h]; exact ⟨rfl, rfl⟩

theorem Reduced_ok : SpecOk Try.prog Reduced_n true (specOf true Reduced_fs) :=
  spec_ok' TT_ok (show GsOk Try.prog Reduced_g from gsOk_cons at11_ok (gsOk_cons reduced_ok (gsOk_nil))) (by kernel_rfl) mixedOrders Try.func18 rfl rfl (by kernel_rfl) (n := 3) (by decide +kernel) (I := Reduced_IA) (fun _ _ => isOk_nil) (A := Reduced_A)
    (fun args h r hr => by
      unfold Reduced_fs at hr
      split at hr
      · rename_i a ty0 I_s ty1 I_a ty2 pot; cases hr; refine ⟨rfl, fun hp => ?_⟩; have hE := Reduced_E ⟨I_s, I_a⟩ pot a ty0 ty1 ty2 hp; exact hE
      · cases hr)

theorem shift_bad {n : Int} {pot : List Int} {k : Nat} {p : Int} (hx : pot[k]? = some p) (h : ¬ I64 (p + n)) : shiftF n [] pot = none := by
  rw [shiftF_iff, if_neg]
  intro ha
  exact h (of_decide_eq_true (List.all_eq_true.1 ha p (List.mem_of_getElem? hx)))
theorem shift_good {n : Int} {pot : List Int} {k : Nat} (hk : pot.length ≤ k) (h : ∀ p ∈ pot.take k, I64 (p + n)) : shiftF n [] pot = some ((pot.take k).map (· + n)) := by
  rw [List.take_of_length_le hk] at h ⊢
  rw [shiftF_iff, if_pos (List.all_eq_true.2 fun p hp => decide_eq_true (h p hp)), List.nil_append]
theorem shift_step {n : Int} {pot : List Int} {k : Nat} {p : Int} (hx : pot[k]? = some p) (h : I64 (p + n)) (hall : ∀ p ∈ pot.take k, I64 (p + n)) : ∀ p ∈ pot.take (k + 1), I64 (p + n) := by
  rw [take_get hx]
  intro q hq
  rcases List.mem_append.1 hq with hq | hq
  · exact hall q hq
  · rw [List.mem_singleton.1 hq]; exact h

def Shift_E0 (pot : List Int) (n : Int) (ty0 : TypeId) : Prop :=
      ((↑pot.length : Int) = (↑pot.length : Int) ∧ (0 : Int) ≤ (↑pot.length : Int) ∧ (↑pot.length : Int) ≤ (1000000000 : Int)) ∧
 ∃ (g0 : Nat),
 ((g0 ≤ pot.length ∧ shOk n (List.take g0 pot)) ∧
 (n = n ∧ True ∧ True ∧ (↑pot.length : Int) = (↑pot.length : Int) ∧ (0 : Int) = (↑g0 : Int) ∧ True) ∧
 List.replicate (↑pot.length : Int).toNat (0 : Int) = List.map (fun (x : Int) => x + n) (List.take g0 pot) ++ List.replicate (pot.length - g0) (0 : Int) ∧
 pot = pot ∧ True) ∧
 ∀ (g : Nat),
 g ≤ pot.length ∧ shOk n (List.take g pot) →
 (decide ((↑g : Int) < (↑pot.length : Int)) = true →
 ((0 : Int) ≤ (↑g : Int) ∧ (↑g : Int) < (↑pot.length : Int)) ∧
 (↑g : Int).toNat < pot.length ∧
 ∀ (x : Int),
 pot[(↑g : Int).toNat]? = some x →
 (I64 x ∧ I64 n) ∧
 ((!decide (I64 (x + n))) = true → ((True ∧ false = (shiftF n [] pot).isSome ∧ True) ∧ True) ∧ [] = (shiftF n [] pot).getD [] ∧ True) ∧
 ((!decide (I64 (x + n))) = false →
 ((0 : Int) ≤ (↑g : Int) ∧
 (↑g : Int) < (↑(List.map (fun (x : Int) => x + n) (List.take g pot) ++ List.replicate (pot.length - g) (0 : Int)).length : Int)) ∧
 (↑g : Int).toNat < (List.map (fun (x : Int) => x + n) (List.take g pot) ++ List.replicate (pot.length - g) (0 : Int)).length ∧
 ∃ (g' : Nat),
 (g' ≤ pot.length ∧ shOk n (List.take g' pot)) ∧
 pot.length - g' < pot.length - g ∧
 (n = n ∧ True ∧ True ∧ (↑pot.length : Int) = (↑pot.length : Int) ∧ IntKind.i64.wrap ((↑g : Int) + (1 : Int)) = (↑g' : Int) ∧ True) ∧
 (List.map (fun (x : Int) => x + n) (List.take g pot) ++ List.replicate (pot.length - g) (0 : Int)).set (↑g : Int).toNat
 (if I64 (x + n) then x + n else (0 : Int)) =
 List.map (fun (x : Int) => x + n) (List.take g' pot) ++ List.replicate (pot.length - g') (0 : Int) ∧
 pot = pot ∧ True)) ∧
 (decide ((↑g : Int) < (↑pot.length : Int)) = false →
 ((True ∧ true = (shiftF n [] pot).isSome ∧ True) ∧ True) ∧
 List.map (fun (x : Int) => x + n) (List.take g pot) ++ List.replicate (pot.length - g) (0 : Int) = (shiftF n [] pot).getD [] ∧ True)
theorem Shift_q (pot : List Int) (n : Int) (ty0 : TypeId) : Shift_E0 pot n ty0 = FVcP TT Shift_g (Shift_I pot n) (Shift_an pot n) Try.f30 [.row 0, .int .i64 n] [(0, .row false ty0 (.ints .i64 pot))] (Shift_r pot n) := by kernel_rfl
theorem Shift_E (pot : List Int) (n : Int) (ty0 : TypeId) (hp : A64 pot ∧ I64 n ∧ pot.length ≤ 1000000) : FVc TT Shift_g (Shift_I pot n) (Shift_an pot n) Try.f30 [.row 0, .int .i64 n] [(0, .row false ty0 (.ints .i64 pot))] (Shift_r pot n) := by
  refine FVc.of (Shift_E0 pot n ty0) (Shift_q pot n ty0) ?_
  unfold Shift_E0
  obtain ⟨p1, p2, p3⟩ := hp
  simp only [eq_self, exists_const, forall_const, decide_eq_true_eq, decide_eq_false_iff_not, and_true, true_and, bne_iff_ne, ne_eq, bne_eq_false_iff_eq, Int.toNat_natCast, Bool.not_eq_true', Bool.not_eq_false', beq_iff_eq, beq_eq_false_iff_ne, nilEq_true]
  have hl : ∀ g, g ≤ pot.length → ((pot.take g).map (· + n)).length = g := fun g hg => by rw [List.length_map, List.length_take]; omega
  refine ⟨by omega, 0, ⟨⟨by omega, fun p hp => by simp at hp⟩, rfl, by simp⟩, fun g hg => ⟨fun h1 => ⟨by omega, by omega, fun p hx => ⟨⟨p1 p (List.mem_of_getElem? hx), p2⟩, fun h2 => ?_, fun h2 => ?_⟩⟩, fun h1 => ?_⟩⟩
  · rw [shift_bad hx h2]; exact ⟨rfl, rfl⟩
  · rw [if_pos h2]
    have hl2 := hl g (by omega)
    refine ⟨by rw [List.length_append, hl2, List.length_replicate]; omega, by rw [List.length_append, hl2, List.length_replicate]; omega, g + 1, ⟨by omega, shift_step hx h2 hg.2⟩, by omega, by rw [w64 (by omega) (by omega)]; omega, ?_⟩
    rw [List.set_append_right _ _ (by omega), hl2, Nat.sub_self, show pot.length - g = (pot.length - (g + 1)) + 1 by omega, List.replicate_succ, take_get hx]
    simp
  · rw [shift_good (by omega) hg.2, show pot.length - g = 0 by omega]
    simp

theorem Shift_ok : SpecOk Try.prog Shift_n true (specOf true Shift_fs) :=
  spec_ok' TT_ok (show GsOk Try.prog Shift_g from gsOk_cons Add_ok (gsOk_nil)) (by kernel_rfl) mixedOrders Try.func30 rfl rfl (by kernel_rfl) (n := 2) (by decide +kernel) (I := Shift_IA) (fun _ _ => isOk_nil) (A := Shift_A)
    (fun args h r hr => by
      unfold Shift_fs at hr
      split at hr
      · rename_i n ty0 pot; cases hr; refine ⟨rfl, fun hp => ?_⟩; have hE := Shift_E pot n ty0 hp; exact hE
      · cases hr)

def Slack_E0 (I : Inst) (x : List Int) (pot : List Int) (ty0 ty1 ty2 ty3 : TypeId) : Prop :=
      (I.sup.length ≤ (10000 : Nat) ∧ I.arcs.length ≤ (10000 : Nat) ∧ A64 x ∧ A64 I.sup) ∧
 ((fitsF I x != (0 : Int)) = true → (fitsF I x = slackF I x pot ∧ True) ∧ True) ∧
 ((fitsF I x != (0 : Int)) = false →
 (((↑pot.length : Int) != (↑I.sup.length : Int)) = true → ((30 : Int) = slackF I x pot ∧ True) ∧ True) ∧
 (((↑pot.length : Int) != (↑I.sup.length : Int)) = false →
 ∀ (R : Loop → Prop),
 ∃ (g0 : Nat),
 ((g0 ≤ I.arcs.length ∧ ∀ (j : Nat), j < g0 → slackK I x pot j = true) ∧
 (True ∧ (0 : Nat) = (0 : Nat) ∧ (0 : Nat) = (0 : Nat) ∧ (↑I.arcs.length : Int) = (↑I.arcs.length : Int) ∧ (0 : Int) = (↑g0 : Int) ∧ True) ∧
 R = R ∧
 (True ∧ True) ∧
 (True ∧ True ∧ True) ∧ ((0 : Int) = (0 : Int) ∧ True) ∧ (True ∧ True) ∧ (True ∧ True ∧ True) ∧ I.sup = I.sup ∧ I.arcs = I.arcs ∧ x = x ∧ pot = pot ∧ True) ∧
 ∀ (g : Nat),
 (g ≤ I.arcs.length ∧ ∀ (j : Nat), j < g → slackK I x pot j = true) →
 (decide ((↑g : Int) < (↑I.arcs.length : Int)) = true →
 True ∧
 (gOk (↑I.sup.length : Int) I.arcs (↑g : Int) = true →
 R = R ∧
 (I64 (atA I (↑g : Int)).cost ∧ I64 (atF I pot (↑g : Int)) ∧ I64 (atT I pot (↑g : Int))) ∧
 (decide (sgn (redA (atA I (↑g : Int)) (atF I pot (↑g : Int)) (atT I pot (↑g : Int))) > (0 : Int)) = true →
 ((0 : Int) ≤ (↑g : Int) ∧ (↑g : Int) < (↑x.length : Int)) ∧
 (↑g : Int).toNat < x.length ∧
 ∀ (x_1 : Int),
 x[(↑g : Int).toNat]? = some x_1 →
 ((x_1 != (atA I (↑g : Int)).low) = true → ((33 : Int) = slackF I x pot ∧ True) ∧ True) ∧
 ((x_1 != (atA I (↑g : Int)).low) = false →
 (decide (sgn (redA (atA I (↑g : Int)) (atF I pot (↑g : Int)) (atT I pot (↑g : Int))) < (0 : Int)) = true →
 ((0 : Int) ≤ (↑g : Int) ∧ (↑g : Int) < (↑x.length : Int)) ∧
 (↑g : Int).toNat < x.length ∧
 ∀ (x_2 : Int),
 x[(↑g : Int).toNat]? = some x_2 →
 ((x_2 != (atA I (↑g : Int)).cap) = true → ((33 : Int) = slackF I x pot ∧ True) ∧ True) ∧
 ((x_2 != (atA I (↑g : Int)).cap) = false →
 (((atA I (↑g : Int)).cap == (4611686018427387904 : Int)) = true → ((33 : Int) = slackF I x pot ∧ True) ∧ True) ∧
 (((atA I (↑g : Int)).cap == (4611686018427387904 : Int)) = false →
 ∃ (g' : Nat),
 (g' ≤ I.arcs.length ∧ ∀ (j : Nat), j < g' → slackK I x pot j = true) ∧
 I.arcs.length - g' < I.arcs.length - g ∧
 (True ∧
 (0 : Nat) = (0 : Nat) ∧
 (0 : Nat) = (0 : Nat) ∧
 (↑I.arcs.length : Int) = (↑I.arcs.length : Int) ∧
 IntKind.i64.wrap ((↑g : Int) + (1 : Int)) = (↑g' : Int) ∧ True) ∧
 R = R ∧
 (True ∧ True) ∧
 (True ∧ True ∧ True) ∧
 ((0 : Int) = (0 : Int) ∧ True) ∧
 (True ∧ True) ∧
 (True ∧ True ∧ True) ∧ I.sup = I.sup ∧ I.arcs = I.arcs ∧ x = x ∧ pot = pot ∧ True))) ∧
 (decide (sgn (redA (atA I (↑g : Int)) (atF I pot (↑g : Int)) (atT I pot (↑g : Int))) < (0 : Int)) = false →
 ∃ (g' : Nat),
 (g' ≤ I.arcs.length ∧ ∀ (j : Nat), j < g' → slackK I x pot j = true) ∧
 I.arcs.length - g' < I.arcs.length - g ∧
 (True ∧
 (0 : Nat) = (0 : Nat) ∧
 (0 : Nat) = (0 : Nat) ∧
 (↑I.arcs.length : Int) = (↑I.arcs.length : Int) ∧
 IntKind.i64.wrap ((↑g : Int) + (1 : Int)) = (↑g' : Int) ∧ True) ∧
 R = R ∧
 (True ∧ True) ∧
 (True ∧ True ∧ True) ∧
 ((0 : Int) = (0 : Int) ∧ True) ∧
 (True ∧ True) ∧ (True ∧ True ∧ True) ∧ I.sup = I.sup ∧ I.arcs = I.arcs ∧ x = x ∧ pot = pot ∧ True))) ∧
 (decide (sgn (redA (atA I (↑g : Int)) (atF I pot (↑g : Int)) (atT I pot (↑g : Int))) > (0 : Int)) = false →
 (decide (sgn (redA (atA I (↑g : Int)) (atF I pot (↑g : Int)) (atT I pot (↑g : Int))) < (0 : Int)) = true →
 ((0 : Int) ≤ (↑g : Int) ∧ (↑g : Int) < (↑x.length : Int)) ∧
 (↑g : Int).toNat < x.length ∧
 ∀ (x_1 : Int),
 x[(↑g : Int).toNat]? = some x_1 →
 ((x_1 != (atA I (↑g : Int)).cap) = true → ((33 : Int) = slackF I x pot ∧ True) ∧ True) ∧
 ((x_1 != (atA I (↑g : Int)).cap) = false →
 (((atA I (↑g : Int)).cap == (4611686018427387904 : Int)) = true → ((33 : Int) = slackF I x pot ∧ True) ∧ True) ∧
 (((atA I (↑g : Int)).cap == (4611686018427387904 : Int)) = false →
 ∃ (g' : Nat),
 (g' ≤ I.arcs.length ∧ ∀ (j : Nat), j < g' → slackK I x pot j = true) ∧
 I.arcs.length - g' < I.arcs.length - g ∧
 (True ∧
 (0 : Nat) = (0 : Nat) ∧
 (0 : Nat) = (0 : Nat) ∧
 (↑I.arcs.length : Int) = (↑I.arcs.length : Int) ∧
 IntKind.i64.wrap ((↑g : Int) + (1 : Int)) = (↑g' : Int) ∧ True) ∧
 R = R ∧
 (True ∧ True) ∧
 (True ∧ True ∧ True) ∧
 ((0 : Int) = (0 : Int) ∧ True) ∧
 (True ∧ True) ∧ (True ∧ True ∧ True) ∧ I.sup = I.sup ∧ I.arcs = I.arcs ∧ x = x ∧ pot = pot ∧ True))) ∧
 (decide (sgn (redA (atA I (↑g : Int)) (atF I pot (↑g : Int)) (atT I pot (↑g : Int))) < (0 : Int)) = false →
 ∃ (g' : Nat),
 (g' ≤ I.arcs.length ∧ ∀ (j : Nat), j < g' → slackK I x pot j = true) ∧
 I.arcs.length - g' < I.arcs.length - g ∧
 (True ∧
 (0 : Nat) = (0 : Nat) ∧
 (0 : Nat) = (0 : Nat) ∧
 (↑I.arcs.length : Int) = (↑I.arcs.length : Int) ∧ IntKind.i64.wrap ((↑g : Int) + (1 : Int)) = (↑g' : Int) ∧ True) ∧
 R = R ∧
 (True ∧ True) ∧
 (True ∧ True ∧ True) ∧
 ((0 : Int) = (0 : Int) ∧ True) ∧
 (True ∧ True) ∧ (True ∧ True ∧ True) ∧ I.sup = I.sup ∧ I.arcs = I.arcs ∧ x = x ∧ pot = pot ∧ True))) ∧
 (gOk (↑I.sup.length : Int) I.arcs (↑g : Int) = false →
 ∃ (g' : Nat),
 (g' ≤ I.arcs.length ∧ ∀ (j : Nat), j < g' → slackK I x pot j = true) ∧
 I.arcs.length - g' < I.arcs.length - g ∧
 (True ∧
 (0 : Nat) = (0 : Nat) ∧
 (0 : Nat) = (0 : Nat) ∧
 (↑I.arcs.length : Int) = (↑I.arcs.length : Int) ∧ IntKind.i64.wrap ((↑g : Int) + (1 : Int)) = (↑g' : Int) ∧ True) ∧
 R = R ∧
 (True ∧ True) ∧
 (True ∧ True ∧ True) ∧
 ((0 : Int) = (0 : Int) ∧ True) ∧ (True ∧ True) ∧ (True ∧ True ∧ True) ∧ I.sup = I.sup ∧ I.arcs = I.arcs ∧ x = x ∧ pot = pot ∧ True)) ∧
 (decide ((↑g : Int) < (↑I.arcs.length : Int)) = false → ((0 : Int) = slackF I x pot ∧ True) ∧ True)))
theorem Slack_q (I : Inst) (x : List Int) (pot : List Int) (ty0 ty1 ty2 ty3 : TypeId) : Slack_E0 I x pot ty0 ty1 ty2 ty3 = FVcP TT Slack_g (Slack_I I x pot) (Slack_an I x pot) Try.f26 [.agg [.row 0, .row 1], .row 2, .row 3] [(0, .row false ty0 (.ints .i64 I.sup)), (1, .row false ty1 (.arcs I.arcs)), (2, .row false ty2 (.ints .i64 x)), (3, .row false ty3 (.ints .i64 pot))] (Slack_r I x pot) := by kernel_rfl
theorem Slack_E (I : Inst) (x : List Int) (pot : List Int) (ty0 ty1 ty2 ty3 : TypeId) (hp : I.sup.length ≤ 10000 ∧ I.arcs.length ≤ 10000 ∧ A64 x ∧ A64 I.sup ∧ A64 pot ∧ A64c I.arcs) : FVc TT Slack_g (Slack_I I x pot) (Slack_an I x pot) Try.f26 [.agg [.row 0, .row 1], .row 2, .row 3] [(0, .row false ty0 (.ints .i64 I.sup)), (1, .row false ty1 (.arcs I.arcs)), (2, .row false ty2 (.ints .i64 x)), (3, .row false ty3 (.ints .i64 pot))] (Slack_r I x pot) := by
  refine FVc.of (Slack_E0 I x pot ty0 ty1 ty2 ty3) (Slack_q I x pot ty0 ty1 ty2 ty3) ?_
  unfold Slack_E0
  obtain ⟨p1, p2, p3, p4, p5, p6⟩ := hp
  have bad : ∀ j, j < I.arcs.length → fitsF I x = 0 → pot.length = I.sup.length → slackK I x pot j = false → 33 = slackF I x pot := fun j hj h1 h2 h3 => by
    unfold slackF
    rw [if_neg (by omega), if_neg (by omega), if_neg]
    intro ha
    have := List.all_eq_true.1 ha j (List.mem_range.2 hj)
    rw [h3] at this; cases this
  have nx : ∀ g, g < I.arcs.length → (∀ j, j < g → slackK I x pot j = true) → slackK I x pot g = true → ∃ g', (g' ≤ I.arcs.length ∧ ∀ j, j < g' → slackK I x pot j = true) ∧ I.arcs.length - g' < I.arcs.length - g ∧ IntKind.i64.wrap ((g : Int) + 1) = (g' : Int) := fun g hg h1 h2 =>
    ⟨g + 1, ⟨by omega, fun j hj => by
      by_cases e : j = g
      · subst e; exact h2
      · exact h1 j (by omega)⟩, by omega, by rw [w64 (by omega) (by omega)]; omega⟩
  simp only [eq_self, exists_const, forall_const, decide_eq_true_eq, decide_eq_false_iff_not, and_true, true_and, bne_iff_ne, ne_eq, bne_eq_false_iff_eq, Int.toNat_natCast, Bool.not_eq_true', Bool.not_eq_false', beq_iff_eq, beq_eq_false_iff_ne, nilEq_true]
  refine ⟨⟨p1, p2, p3, p4⟩, fun h => by unfold slackF; rw [if_pos h], fun hf => ⟨fun h => by unfold slackF; rw [if_neg (by omega), if_pos (by omega)], fun hl => ⟨0, ⟨⟨by omega, fun j hj => by omega⟩, rfl⟩, fun g hg => ⟨fun h1 => ?_, fun h1 => ?_⟩⟩⟩⟩
  · have hz := fitsF_zero.1 hf
    have hgl : g < I.arcs.length := by omega
    have hgx : g < x.length := by omega
    obtain ⟨b, hb⟩ : ∃ b, I.arcs[g]? = some b := ⟨_, List.getElem?_eq_getElem hgl⟩
    obtain ⟨y, hy⟩ : ∃ y, x[g]? = some y := ⟨_, List.getElem?_eq_getElem hgx⟩
    have ho := (rightF_arc hz.1 (List.mem_of_getElem? hb)).1
    have hgk : gOk I.sup.length I.arcs (g : Int) = true := by rw [gOk_at (by omega) (by rw [Int.toNat_natCast]; exact hb)]; exact ho
    have hA := atA_get hb ho
    have hr : redA (atA I g) (atF I pot g) (atT I pot g) = redF I pot g := by unfold redF; rw [if_pos hgk]
    have hbd : I.arcs.getD g default = b := by simp [List.getD, hb]
    have hyd : x.getD g 0 = y := by simp [List.getD, hy]
    have key : slackK I x pot g = slackA (redF I pot g) y b := by unfold slackK; rw [hbd, hyd]
    refine ⟨fun _ => ⟨at_ok p5 p6, ?_⟩, fun h => by rw [hgk] at h; cases h⟩
    have B := bad g hgl hf (by omega)
    have N := nx g hgl hg.2
    rw [key] at B N
    rw [hr, hA]
    simp only [hy, Option.some.injEq, forall_eq']
    have q1 : (0 : Int) ≤ g := by omega
    have q2 : (g : Int) < x.length := by omega
    unfold slackA inf at B N
    generalize redF I pot g = r at *
    refine ⟨fun c1 => ⟨⟨q1, q2⟩, hgx, fun c2 => B (by simp [show 0 < sgn r from c1, c2]), fun c2 => ⟨fun c3 => by omega, fun c3 => N (by simp [c3, c2])⟩⟩, fun c1 => ⟨fun c3 => ⟨⟨q1, q2⟩, hgx, fun c4 => B (by simp [c3, c4]), fun c4 => ⟨fun c5 => B (by simp [c3, c5]), fun c5 => N (by simp [show ¬ 0 < sgn r from c1, c4, c5])⟩⟩, fun c3 => N (by simp [show ¬ 0 < sgn r from c1, c3])⟩⟩
  · have : (List.range I.arcs.length).all (slackK I x pot) = true := List.all_eq_true.2 fun j hj => hg.2 j (by have := List.mem_range.1 hj; omega)
    unfold slackF
    rw [if_neg (by omega), if_neg (by omega), if_pos this]

theorem Slack_i0_ok (I : Inst) (x : List Int) (pot : List Int) : ISpecOk Try.prog 100 (Slack_i0 I x pot) :=
  inlI_ok TT_ok (show GsOk Try.prog Slack_i0g from gsOk_cons at11_ok (gsOk_nil)) (by kernel_rfl) mixedOrders Try.func100 rfl rfl (fun key spec => by kernel_rfl) _
theorem Slack_ok : SpecOk Try.prog Slack_n true (specOf true Slack_fs) :=
  spec_ok' TT_ok (show GsOk Try.prog Slack_g from gsOk_cons Fits_ok (gsOk_cons arcs11_ok (gsOk_cons sign_ok (gsOk_nil)))) (by kernel_rfl) mixedOrders Try.func26 rfl rfl (by kernel_rfl) (n := 3) (by decide +kernel) (I := Slack_IA) (fun args h => by
      unfold Slack_IA
      split
      · exact isOk_cons (Slack_i0_ok _ _ _) (isOk_nil)
      · exact isOk_nil) (A := Slack_A)
    (fun args h r hr => by
      unfold Slack_fs at hr
      split at hr
      · rename_i ty0 I_s ty1 I_a ty2 x ty3 pot; cases hr; refine ⟨rfl, fun hp => ?_⟩; have hE := Slack_E ⟨I_s, I_a⟩ x pot ty0 ty1 ty2 ty3 hp; exact hE
      · cases hr)

theorem at_red {I : Inst} {pot : List Int} {k : Nat} {b : Arc} (hb : I.arcs[k]? = some b) (ho : okArc I.sup.length b = true) : redA (atA I k) (atF I pot k) (atT I pot k) = redP pot b := by
  rw [← redF_at hb ho]
  have hgk : gOk I.sup.length I.arcs (k : Int) = true := by rw [gOk_at (by omega) (by rw [Int.toNat_natCast]; exact hb)]; exact ho
  unfold redF; rw [if_pos hgk]
theorem red_mul (m : Int) (a : Arc) (f t : Int) (s : Int) : s + m * a.cost - m * f + m * t = s + m * redA a f t := by
  unfold redA
  rw [Int.mul_add, Int.mul_sub]; omega

def Bound_E0 (I : Inst) (pot : List Int) (ty0 ty1 ty2 : TypeId) : Prop :=
      ∃ (g0 : Nat),
 (g0 ≤ I.sup.length ∧
 (True ∧
 (0 : Nat) = (0 : Nat) ∧
 (0 : Nat) = (0 : Nat) ∧ (0 : Nat) = (0 : Nat) ∧ (0 : Nat) = (0 : Nat) ∧ True ∧ (↑I.sup.length : Int) = (↑I.sup.length : Int) ∧ (0 : Int) = (↑g0 : Int) ∧ True) ∧
 ((0 : Int) = (W (boundS I.sup pot g0)).hi ∧ (0 : Int) = (W (boundS I.sup pot g0)).lo ∧ True) ∧
 (True ∧ True) ∧ ((0 : Int) = (0 : Int) ∧ (0 : Int) = (0 : Int) ∧ True) ∧ (True ∧ True ∧ True) ∧ I.sup = I.sup ∧ I.arcs = I.arcs ∧ pot = pot ∧ True) ∧
 ∀ (g : Nat),
 g ≤ I.sup.length →
 (decide ((↑g : Int) < (↑I.sup.length : Int)) = true →
 ((0 : Int) ≤ (↑g : Int) ∧ (↑g : Int) < (↑I.sup.length : Int)) ∧
 (↑g : Int).toNat < I.sup.length ∧
 ∀ (x : Int),
 I.sup[(↑g : Int).toNat]? = some x →
 (0 : Int) ≤ (↑g : Int) ∧
 (I64 x ∧ I64 (pot.getD (↑g : Int).toNat (0 : Int))) ∧
 ((W (boundS I.sup pot g)).ok ∧ (W (x * pot.getD (↑g : Int).toNat (0 : Int))).ok) ∧
 ∃ (g' : Nat),
 g' ≤ I.sup.length ∧
 I.sup.length - g' < I.sup.length - g ∧
 (True ∧
 (0 : Nat) = (0 : Nat) ∧
 (0 : Nat) = (0 : Nat) ∧
 (0 : Nat) = (0 : Nat) ∧
 (0 : Nat) = (0 : Nat) ∧
 True ∧ (↑I.sup.length : Int) = (↑I.sup.length : Int) ∧ IntKind.i64.wrap ((↑g : Int) + (1 : Int)) = (↑g' : Int) ∧ True) ∧
 ((wplus (W (boundS I.sup pot g)) (W (x * pot.getD (↑g : Int).toNat (0 : Int)))).hi = (W (boundS I.sup pot g')).hi ∧
 (wplus (W (boundS I.sup pot g)) (W (x * pot.getD (↑g : Int).toNat (0 : Int)))).lo = (W (boundS I.sup pot g')).lo ∧ True) ∧
 (True ∧ True) ∧
 ((0 : Int) = (0 : Int) ∧ (0 : Int) = (0 : Int) ∧ True) ∧ (True ∧ True ∧ True) ∧ I.sup = I.sup ∧ I.arcs = I.arcs ∧ pot = pot ∧ True) ∧
 (decide ((↑g : Int) < (↑I.sup.length : Int)) = false →
 ∀ (R : Loop → Prop),
 ∃ (g0 : Nat × Int),
 ((g0.fst ≤ I.arcs.length ∧ boundAcc (↑I.sup.length : Int) pot (List.drop g0.fst I.arcs) g0.snd = boundF I pot) ∧
 (True ∧ (0 : Nat) = (0 : Nat) ∧ (0 : Nat) = (0 : Nat) ∧ (↑I.arcs.length : Int) = (↑I.arcs.length : Int) ∧ (0 : Int) = (↑g0.fst : Int) ∧ True) ∧
 R = R ∧
 (True ∧ True) ∧
 (True ∧ True ∧ True) ∧
 ((W (boundS I.sup pot g)).hi = (W g0.snd).hi ∧ (W (boundS I.sup pot g)).lo = (W g0.snd).lo ∧ True) ∧
 (True ∧ True) ∧ ((0 : Int) = (0 : Int) ∧ (0 : Int) = (0 : Int) ∧ True) ∧ (True ∧ True ∧ True) ∧ I.sup = I.sup ∧ I.arcs = I.arcs ∧ pot = pot ∧ True) ∧
 ∀ (g : Nat × Int),
 g.fst ≤ I.arcs.length ∧ boundAcc (↑I.sup.length : Int) pot (List.drop g.fst I.arcs) g.snd = boundF I pot →
 (decide ((↑g.fst : Int) < (↑I.arcs.length : Int)) = true →
 True ∧
 (gOk (↑I.sup.length : Int) I.arcs (↑g.fst : Int) = true →
 R = R ∧
 (I64 (atA I (↑g.fst : Int)).cost ∧ I64 (atF I pot (↑g.fst : Int)) ∧ I64 (atT I pot (↑g.fst : Int))) ∧
 (decide (sgn (redA (atA I (↑g.fst : Int)) (atF I pot (↑g.fst : Int)) (atT I pot (↑g.fst : Int))) < (0 : Int)) = true →
 (((atA I (↑g.fst : Int)).cap == (4611686018427387904 : Int)) = true →
 ((((0 : Int) = (boundW (boundF I pot)).hi ∧ (0 : Int) = (boundW (boundF I pot)).lo ∧ True) ∧ false = (boundF I pot).isSome ∧ True) ∧
 True) ∧
 True) ∧
 (((atA I (↑g.fst : Int)).cap == (4611686018427387904 : Int)) = false →
 (I64 (atA I (↑g.fst : Int)).cap ∧ I64 (atA I (↑g.fst : Int)).cost) ∧
 ((W g.snd).ok ∧ (W ((atA I (↑g.fst : Int)).cap * (atA I (↑g.fst : Int)).cost)).ok) ∧
 (I64 (atA I (↑g.fst : Int)).cap ∧ I64 (atF I pot (↑g.fst : Int))) ∧
 ((wplus (W g.snd) (W ((atA I (↑g.fst : Int)).cap * (atA I (↑g.fst : Int)).cost))).ok ∧
 (W ((atA I (↑g.fst : Int)).cap * atF I pot (↑g.fst : Int))).ok) ∧
 (I64 (atA I (↑g.fst : Int)).cap ∧ I64 (atT I pot (↑g.fst : Int))) ∧
 ((wminus (wplus (W g.snd) (W ((atA I (↑g.fst : Int)).cap * (atA I (↑g.fst : Int)).cost)))
 (W ((atA I (↑g.fst : Int)).cap * atF I pot (↑g.fst : Int)))).ok ∧
 (W ((atA I (↑g.fst : Int)).cap * atT I pot (↑g.fst : Int))).ok) ∧
 ∃ (g' : Nat × Int),
 (g'.fst ≤ I.arcs.length ∧ boundAcc (↑I.sup.length : Int) pot (List.drop g'.fst I.arcs) g'.snd = boundF I pot) ∧
 I.arcs.length - g'.fst < I.arcs.length - g.fst ∧
 (True ∧
 (0 : Nat) = (0 : Nat) ∧
 (0 : Nat) = (0 : Nat) ∧
 (↑I.arcs.length : Int) = (↑I.arcs.length : Int) ∧
 IntKind.i64.wrap ((↑g.fst : Int) + (1 : Int)) = (↑g'.fst : Int) ∧ True) ∧
 R = R ∧
 (True ∧ True) ∧
 (True ∧ True ∧ True) ∧
 ((wplus
 (wminus (wplus (W g.snd) (W ((atA I (↑g.fst : Int)).cap * (atA I (↑g.fst : Int)).cost)))
 (W ((atA I (↑g.fst : Int)).cap * atF I pot (↑g.fst : Int))))
 (W ((atA I (↑g.fst : Int)).cap * atT I pot (↑g.fst : Int)))).hi =
 (W g'.snd).hi ∧
 (wplus
 (wminus (wplus (W g.snd) (W ((atA I (↑g.fst : Int)).cap * (atA I (↑g.fst : Int)).cost)))
 (W ((atA I (↑g.fst : Int)).cap * atF I pot (↑g.fst : Int))))
 (W ((atA I (↑g.fst : Int)).cap * atT I pot (↑g.fst : Int)))).lo =
 (W g'.snd).lo ∧
 True) ∧
 (True ∧ True) ∧
 ((0 : Int) = (0 : Int) ∧ (0 : Int) = (0 : Int) ∧ True) ∧
 (True ∧ True ∧ True) ∧ I.sup = I.sup ∧ I.arcs = I.arcs ∧ pot = pot ∧ True)) ∧
 (decide (sgn (redA (atA I (↑g.fst : Int)) (atF I pot (↑g.fst : Int)) (atT I pot (↑g.fst : Int))) < (0 : Int)) = false →
 (I64 (atA I (↑g.fst : Int)).low ∧ I64 (atA I (↑g.fst : Int)).cost) ∧
 ((W g.snd).ok ∧ (W ((atA I (↑g.fst : Int)).low * (atA I (↑g.fst : Int)).cost)).ok) ∧
 (I64 (atA I (↑g.fst : Int)).low ∧ I64 (atF I pot (↑g.fst : Int))) ∧
 ((wplus (W g.snd) (W ((atA I (↑g.fst : Int)).low * (atA I (↑g.fst : Int)).cost))).ok ∧
 (W ((atA I (↑g.fst : Int)).low * atF I pot (↑g.fst : Int))).ok) ∧
 (I64 (atA I (↑g.fst : Int)).low ∧ I64 (atT I pot (↑g.fst : Int))) ∧
 ((wminus (wplus (W g.snd) (W ((atA I (↑g.fst : Int)).low * (atA I (↑g.fst : Int)).cost)))
 (W ((atA I (↑g.fst : Int)).low * atF I pot (↑g.fst : Int)))).ok ∧
 (W ((atA I (↑g.fst : Int)).low * atT I pot (↑g.fst : Int))).ok) ∧
 ∃ (g' : Nat × Int),
 (g'.fst ≤ I.arcs.length ∧ boundAcc (↑I.sup.length : Int) pot (List.drop g'.fst I.arcs) g'.snd = boundF I pot) ∧
 I.arcs.length - g'.fst < I.arcs.length - g.fst ∧
 (True ∧
 (0 : Nat) = (0 : Nat) ∧
 (0 : Nat) = (0 : Nat) ∧
 (↑I.arcs.length : Int) = (↑I.arcs.length : Int) ∧
 IntKind.i64.wrap ((↑g.fst : Int) + (1 : Int)) = (↑g'.fst : Int) ∧ True) ∧
 R = R ∧
 (True ∧ True) ∧
 (True ∧ True ∧ True) ∧
 ((wplus
 (wminus (wplus (W g.snd) (W ((atA I (↑g.fst : Int)).low * (atA I (↑g.fst : Int)).cost)))
 (W ((atA I (↑g.fst : Int)).low * atF I pot (↑g.fst : Int))))
 (W ((atA I (↑g.fst : Int)).low * atT I pot (↑g.fst : Int)))).hi =
 (W g'.snd).hi ∧
 (wplus
 (wminus (wplus (W g.snd) (W ((atA I (↑g.fst : Int)).low * (atA I (↑g.fst : Int)).cost)))
 (W ((atA I (↑g.fst : Int)).low * atF I pot (↑g.fst : Int))))
 (W ((atA I (↑g.fst : Int)).low * atT I pot (↑g.fst : Int)))).lo =
 (W g'.snd).lo ∧
 True) ∧
 (True ∧ True) ∧
 ((0 : Int) = (0 : Int) ∧ (0 : Int) = (0 : Int) ∧ True) ∧
 (True ∧ True ∧ True) ∧ I.sup = I.sup ∧ I.arcs = I.arcs ∧ pot = pot ∧ True)) ∧
 (gOk (↑I.sup.length : Int) I.arcs (↑g.fst : Int) = false →
 ∃ (g' : Nat × Int),
 (g'.fst ≤ I.arcs.length ∧ boundAcc (↑I.sup.length : Int) pot (List.drop g'.fst I.arcs) g'.snd = boundF I pot) ∧
 I.arcs.length - g'.fst < I.arcs.length - g.fst ∧
 (True ∧
 (0 : Nat) = (0 : Nat) ∧
 (0 : Nat) = (0 : Nat) ∧
 (↑I.arcs.length : Int) = (↑I.arcs.length : Int) ∧ IntKind.i64.wrap ((↑g.fst : Int) + (1 : Int)) = (↑g'.fst : Int) ∧ True) ∧
 R = R ∧
 (True ∧ True) ∧
 (True ∧ True ∧ True) ∧
 ((W g.snd).hi = (W g'.snd).hi ∧ (W g.snd).lo = (W g'.snd).lo ∧ True) ∧
 (True ∧ True) ∧
 ((0 : Int) = (0 : Int) ∧ (0 : Int) = (0 : Int) ∧ True) ∧
 (True ∧ True ∧ True) ∧ I.sup = I.sup ∧ I.arcs = I.arcs ∧ pot = pot ∧ True)) ∧
 (decide ((↑g.fst : Int) < (↑I.arcs.length : Int)) = false →
 ((((W g.snd).hi = (boundW (boundF I pot)).hi ∧ (W g.snd).lo = (boundW (boundF I pot)).lo ∧ True) ∧ true = (boundF I pot).isSome ∧ True) ∧ True) ∧ True))
theorem Bound_q (I : Inst) (pot : List Int) (ty0 ty1 ty2 : TypeId) : Bound_E0 I pot ty0 ty1 ty2 = FVcP TT Bound_g (Bound_I I pot) (Bound_an I pot) Try.f34 [.agg [.row 0, .row 1], .row 2] [(0, .row false ty0 (.ints .i64 I.sup)), (1, .row false ty1 (.arcs I.arcs)), (2, .row false ty2 (.ints .i64 pot))] (Bound_r I pot) := by kernel_rfl
theorem Bound_E (I : Inst) (pot : List Int) (ty0 ty1 ty2 : TypeId) (hp : I.sup.length ≤ 140737488351232 ∧ I.arcs.length ≤ 140737488351232 ∧ A64 I.sup ∧ A64a I.arcs ∧ A64c I.arcs ∧ A64 pot) : FVc TT Bound_g (Bound_I I pot) (Bound_an I pot) Try.f34 [.agg [.row 0, .row 1], .row 2] [(0, .row false ty0 (.ints .i64 I.sup)), (1, .row false ty1 (.arcs I.arcs)), (2, .row false ty2 (.ints .i64 pot))] (Bound_r I pot) := by
  refine FVc.of (Bound_E0 I pot ty0 ty1 ty2) (Bound_q I pot ty0 ty1 ty2) ?_
  unfold Bound_E0
  obtain ⟨p1, p2, p3, p4, p5, p6⟩ := hp
  simp only [eq_self, exists_const, forall_const, decide_eq_true_eq, decide_eq_false_iff_not, and_true, true_and, bne_iff_ne, ne_eq, bne_eq_false_iff_eq, Int.toNat_natCast, Bool.not_eq_true', Bool.not_eq_false', beq_iff_eq, beq_eq_false_iff_ne, nilEq_true]
  refine ⟨0, ⟨by omega, rfl, by simp only [boundS]; decide, by simp only [boundS]; decide⟩, fun g hg => ⟨fun h1 => ⟨by omega, by omega, fun x hx => ⟨by omega, ⟨p3 x (List.mem_of_getElem? hx), p6.getD _⟩, ⟨W_ok _, W_ok _⟩, g + 1, by omega, by omega, by rw [w64 (by omega) (by omega)]; omega, ?_⟩⟩, fun h1 => ?_⟩⟩
  · have hd : I.sup.getD g 0 = x := by simp [List.getD, hx]
    rw [wplus_W, boundS, hd]; exact ⟨rfl, rfl⟩
  · have hge : g = I.sup.length := by omega
    subst hge
    refine ⟨(0, boundS I.sup pot I.sup.length), ⟨⟨by dsimp only; omega, rfl⟩, rfl, rfl, rfl⟩, fun g hg => ⟨fun h2 => ?_, fun h2 => ?_⟩⟩
    · obtain ⟨k, s⟩ := g
      dsimp only at hg h2 ⊢
      obtain ⟨g1, g2⟩ := hg
      have hkl : k < I.arcs.length := by omega
      obtain ⟨b, hb⟩ : ∃ b, I.arcs[k]? = some b := ⟨_, List.getElem?_eq_getElem hkl⟩
      have hgo := gOk_at (n := I.sup.length) (a := (k : Int)) (by omega) (by rw [Int.toNat_natCast]; exact hb)
      have hm := p4 b (List.mem_of_getElem? hb)
      have ha := at_ok (I := I) (a := (k : Int)) p6 p5
      have nx : ∀ s', boundAcc I.sup.length pot (I.arcs.drop (k + 1)) s' = boundF I pot → ∃ g' : Nat × Int, (g'.fst ≤ I.arcs.length ∧ boundAcc I.sup.length pot (I.arcs.drop g'.fst) g'.snd = boundF I pot) ∧ I.arcs.length - g'.fst < I.arcs.length - k ∧ IntKind.i64.wrap ((k : Int) + 1) = (g'.fst : Int) ∧ (W s').hi = (W g'.snd).hi ∧ (W s').lo = (W g'.snd).lo := fun s' h =>
        ⟨(k + 1, s'), ⟨by dsimp only; omega, h⟩, by dsimp only; omega, by rw [w64 (by omega) (by omega)]; dsimp only; omega, rfl, rfl⟩
      rw [drop_get hb, boundAcc] at g2
      rw [hgo]
      refine ⟨fun ho => ⟨ha, ?_⟩, fun ho => nx s (by simpa [ho] using g2)⟩
      rw [if_pos ho] at g2
      rw [at_red hb ho]
      have hA := atA_get hb ho
      rw [hA] at ha ⊢
      simp only [wplus_W, wminus_W, red_mul]
      have hr := at_red (pot := pot) hb ho
      rw [hA] at hr
      rw [hr]
      refine ⟨fun h3 => ?_, fun h3 => ?_⟩
      · rw [if_pos h3] at g2
        refine ⟨fun h4 => ?_, fun h4 => ⟨⟨hm.2, ha.1⟩, ⟨W_ok _, W_ok _⟩, ⟨hm.2, ha.2.1⟩, ⟨W_ok _, W_ok _⟩, ⟨hm.2, ha.2.2⟩, ⟨W_ok _, W_ok _⟩, nx _ ?_⟩⟩
        · rw [if_pos (show b.cap = inf from h4)] at g2
          rw [← g2]; exact ⟨⟨rfl, rfl⟩, rfl⟩
        · rwa [if_neg (show ¬ b.cap = inf from h4)] at g2
      · rw [if_neg h3] at g2
        exact ⟨⟨hm.1, ha.1⟩, ⟨W_ok _, W_ok _⟩, ⟨hm.1, ha.2.1⟩, ⟨W_ok _, W_ok _⟩, ⟨hm.1, ha.2.2⟩, ⟨W_ok _, W_ok _⟩, nx _ g2⟩
    · obtain ⟨g1, g2⟩ := hg
      rw [drop_end (by omega)] at g2
      rw [← g2]; exact ⟨⟨rfl, rfl⟩, rfl⟩

theorem Bound_i0_ok (I : Inst) (pot : List Int) : ISpecOk Try.prog 100 (Bound_i0 I pot) :=
  inlI_ok TT_ok (show GsOk Try.prog Bound_i0g from gsOk_cons at11_ok (gsOk_nil)) (by kernel_rfl) mixedOrders Try.func100 rfl rfl (fun key spec => by kernel_rfl) _
theorem Bound_ok : SpecOk Try.prog Bound_n true (specOf true Bound_fs) :=
  spec_ok' TT_ok (show GsOk Try.prog Bound_g from gsOk_cons of11_ok (gsOk_cons Plus_ok (gsOk_cons Times_ok (gsOk_cons Minus_ok (gsOk_cons arcs11_ok (gsOk_cons sign_ok (gsOk_nil))))))) (by kernel_rfl) mixedOrders Try.func34 rfl rfl (by kernel_rfl) (n := 2) (by decide +kernel) (I := Bound_IA) (fun args h => by
      unfold Bound_IA
      split
      · exact isOk_cons (Bound_i0_ok _ _) (isOk_nil)
      · exact isOk_nil) (A := Bound_A)
    (fun args h r hr => by
      unfold Bound_fs at hr
      split at hr
      · rename_i ty0 I_s ty1 I_a ty2 pot; cases hr; refine ⟨rfl, fun hp => ?_⟩; have hE := Bound_E ⟨I_s, I_a⟩ pot ty0 ty1 ty2 hp; exact hE
      · cases hr)

def rReduced_E0 (I : Inst) (pot : List Int) (a : Int) (ty0 ty1 ty2 : TypeId) : Prop :=
      True ∧
 ((!gOk (↑I.sup.length : Int) I.arcs a) = true → (((0 : Int) = (W (redF I pot a)).hi ∧ (0 : Int) = (W (redF I pot a)).lo ∧ True) ∧ True) ∧ True) ∧
 ((!gOk (↑I.sup.length : Int) I.arcs a) = false →
 (I64 (gArc (↑I.sup.length : Int) I.arcs a).cost ∧
 (True ∧
 (I64 (if (0 : Int) ≤ (gArc (↑I.sup.length : Int) I.arcs a).src then pot.getD (gArc (↑I.sup.length : Int) I.arcs a).src.toNat (0 : Int) else (0 : Int)) ∧
 (((W (gArc (↑I.sup.length : Int) I.arcs a).cost).ok ∧
 (W (if (0 : Int) ≤ (gArc (↑I.sup.length : Int) I.arcs a).src then pot.getD (gArc (↑I.sup.length : Int) I.arcs a).src.toNat (0 : Int) else (0 : Int))).ok) ∧
 True ∧
 I64 (if (0 : Int) ≤ (gArc (↑I.sup.length : Int) I.arcs a).dst then pot.getD (gArc (↑I.sup.length : Int) I.arcs a).dst.toNat (0 : Int) else (0 : Int)) ∧
 ((wminus (W (gArc (↑I.sup.length : Int) I.arcs a).cost)
 (W
 (if (0 : Int) ≤ (gArc (↑I.sup.length : Int) I.arcs a).src then pot.getD (gArc (↑I.sup.length : Int) I.arcs a).src.toNat (0 : Int)
 else (0 : Int)))).ok ∧
 (W
 (if (0 : Int) ≤ (gArc (↑I.sup.length : Int) I.arcs a).dst then pot.getD (gArc (↑I.sup.length : Int) I.arcs a).dst.toNat (0 : Int)
 else (0 : Int))).ok) ∧
 (((wplus
 (wminus (W (gArc (↑I.sup.length : Int) I.arcs a).cost)
 (W
 (if (0 : Int) ≤ (gArc (↑I.sup.length : Int) I.arcs a).src then pot.getD (gArc (↑I.sup.length : Int) I.arcs a).src.toNat (0 : Int)
 else (0 : Int))))
 (W
 (if (0 : Int) ≤ (gArc (↑I.sup.length : Int) I.arcs a).dst then pot.getD (gArc (↑I.sup.length : Int) I.arcs a).dst.toNat (0 : Int)
 else (0 : Int)))).hi =
 (W (redF I pot a)).hi ∧
 (wplus
 (wminus (W (gArc (↑I.sup.length : Int) I.arcs a).cost)
 (W
 (if (0 : Int) ≤ (gArc (↑I.sup.length : Int) I.arcs a).src then pot.getD (gArc (↑I.sup.length : Int) I.arcs a).src.toNat (0 : Int)
 else (0 : Int))))
 (W
 (if (0 : Int) ≤ (gArc (↑I.sup.length : Int) I.arcs a).dst then pot.getD (gArc (↑I.sup.length : Int) I.arcs a).dst.toNat (0 : Int)
 else (0 : Int)))).lo =
 (W (redF I pot a)).lo ∧
 True) ∧
 True) ∧
 True) ∧
 ((W (gArc (↑I.sup.length : Int) I.arcs a).cost).ok ∧
 (W (if (0 : Int) ≤ (gArc (↑I.sup.length : Int) I.arcs a).src then pot.getD (gArc (↑I.sup.length : Int) I.arcs a).src.toNat (0 : Int) else (0 : Int))).ok) ∧
 True ∧
 I64 (if (0 : Int) ≤ (gArc (↑I.sup.length : Int) I.arcs a).dst then pot.getD (gArc (↑I.sup.length : Int) I.arcs a).dst.toNat (0 : Int) else (0 : Int)) ∧
 ((wminus (W (gArc (↑I.sup.length : Int) I.arcs a).cost)
 (W
 (if (0 : Int) ≤ (gArc (↑I.sup.length : Int) I.arcs a).src then pot.getD (gArc (↑I.sup.length : Int) I.arcs a).src.toNat (0 : Int)
 else (0 : Int)))).ok ∧
 (W
 (if (0 : Int) ≤ (gArc (↑I.sup.length : Int) I.arcs a).dst then pot.getD (gArc (↑I.sup.length : Int) I.arcs a).dst.toNat (0 : Int)
 else (0 : Int))).ok) ∧
 (((wplus
 (wminus (W (gArc (↑I.sup.length : Int) I.arcs a).cost)
 (W
 (if (0 : Int) ≤ (gArc (↑I.sup.length : Int) I.arcs a).src then pot.getD (gArc (↑I.sup.length : Int) I.arcs a).src.toNat (0 : Int)
 else (0 : Int))))
 (W
 (if (0 : Int) ≤ (gArc (↑I.sup.length : Int) I.arcs a).dst then pot.getD (gArc (↑I.sup.length : Int) I.arcs a).dst.toNat (0 : Int)
 else (0 : Int)))).hi =
 (W (redF I pot a)).hi ∧
 (wplus
 (wminus (W (gArc (↑I.sup.length : Int) I.arcs a).cost)
 (W
 (if (0 : Int) ≤ (gArc (↑I.sup.length : Int) I.arcs a).src then pot.getD (gArc (↑I.sup.length : Int) I.arcs a).src.toNat (0 : Int)
 else (0 : Int))))
 (W
 (if (0 : Int) ≤ (gArc (↑I.sup.length : Int) I.arcs a).dst then pot.getD (gArc (↑I.sup.length : Int) I.arcs a).dst.toNat (0 : Int)
 else (0 : Int)))).lo =
 (W (redF I pot a)).lo ∧
 True) ∧
 True) ∧
 True) ∧
 I64 (if (0 : Int) ≤ (gArc (↑I.sup.length : Int) I.arcs a).src then pot.getD (gArc (↑I.sup.length : Int) I.arcs a).src.toNat (0 : Int) else (0 : Int)) ∧
 ((W (gArc (↑I.sup.length : Int) I.arcs a).cost).ok ∧
 (W (if (0 : Int) ≤ (gArc (↑I.sup.length : Int) I.arcs a).src then pot.getD (gArc (↑I.sup.length : Int) I.arcs a).src.toNat (0 : Int) else (0 : Int))).ok) ∧
 True ∧
 I64 (if (0 : Int) ≤ (gArc (↑I.sup.length : Int) I.arcs a).dst then pot.getD (gArc (↑I.sup.length : Int) I.arcs a).dst.toNat (0 : Int) else (0 : Int)) ∧
 ((wminus (W (gArc (↑I.sup.length : Int) I.arcs a).cost)
 (W
 (if (0 : Int) ≤ (gArc (↑I.sup.length : Int) I.arcs a).src then pot.getD (gArc (↑I.sup.length : Int) I.arcs a).src.toNat (0 : Int)
 else (0 : Int)))).ok ∧
 (W
 (if (0 : Int) ≤ (gArc (↑I.sup.length : Int) I.arcs a).dst then pot.getD (gArc (↑I.sup.length : Int) I.arcs a).dst.toNat (0 : Int)
 else (0 : Int))).ok) ∧
 (((wplus
 (wminus (W (gArc (↑I.sup.length : Int) I.arcs a).cost)
 (W
 (if (0 : Int) ≤ (gArc (↑I.sup.length : Int) I.arcs a).src then pot.getD (gArc (↑I.sup.length : Int) I.arcs a).src.toNat (0 : Int)
 else (0 : Int))))
 (W
 (if (0 : Int) ≤ (gArc (↑I.sup.length : Int) I.arcs a).dst then pot.getD (gArc (↑I.sup.length : Int) I.arcs a).dst.toNat (0 : Int)
 else (0 : Int)))).hi =
 (W (redF I pot a)).hi ∧
 (wplus
 (wminus (W (gArc (↑I.sup.length : Int) I.arcs a).cost)
 (W
 (if (0 : Int) ≤ (gArc (↑I.sup.length : Int) I.arcs a).src then pot.getD (gArc (↑I.sup.length : Int) I.arcs a).src.toNat (0 : Int)
 else (0 : Int))))
 (W
 (if (0 : Int) ≤ (gArc (↑I.sup.length : Int) I.arcs a).dst then pot.getD (gArc (↑I.sup.length : Int) I.arcs a).dst.toNat (0 : Int)
 else (0 : Int)))).lo =
 (W (redF I pot a)).lo ∧
 True) ∧
 True) ∧
 True) ∧
 True ∧
 I64 (if (0 : Int) ≤ (gArc (↑I.sup.length : Int) I.arcs a).src then pot.getD (gArc (↑I.sup.length : Int) I.arcs a).src.toNat (0 : Int) else (0 : Int)) ∧
 ((W (gArc (↑I.sup.length : Int) I.arcs a).cost).ok ∧
 (W (if (0 : Int) ≤ (gArc (↑I.sup.length : Int) I.arcs a).src then pot.getD (gArc (↑I.sup.length : Int) I.arcs a).src.toNat (0 : Int) else (0 : Int))).ok) ∧
 True ∧
 I64 (if (0 : Int) ≤ (gArc (↑I.sup.length : Int) I.arcs a).dst then pot.getD (gArc (↑I.sup.length : Int) I.arcs a).dst.toNat (0 : Int) else (0 : Int)) ∧
 ((wminus (W (gArc (↑I.sup.length : Int) I.arcs a).cost)
 (W
 (if (0 : Int) ≤ (gArc (↑I.sup.length : Int) I.arcs a).src then pot.getD (gArc (↑I.sup.length : Int) I.arcs a).src.toNat (0 : Int)
 else (0 : Int)))).ok ∧
 (W
 (if (0 : Int) ≤ (gArc (↑I.sup.length : Int) I.arcs a).dst then pot.getD (gArc (↑I.sup.length : Int) I.arcs a).dst.toNat (0 : Int)
 else (0 : Int))).ok) ∧
 (((wplus
 (wminus (W (gArc (↑I.sup.length : Int) I.arcs a).cost)
 (W
 (if (0 : Int) ≤ (gArc (↑I.sup.length : Int) I.arcs a).src then pot.getD (gArc (↑I.sup.length : Int) I.arcs a).src.toNat (0 : Int)
 else (0 : Int))))
 (W
 (if (0 : Int) ≤ (gArc (↑I.sup.length : Int) I.arcs a).dst then pot.getD (gArc (↑I.sup.length : Int) I.arcs a).dst.toNat (0 : Int)
 else (0 : Int)))).hi =
 (W (redF I pot a)).hi ∧
 (wplus
 (wminus (W (gArc (↑I.sup.length : Int) I.arcs a).cost)
 (W
 (if (0 : Int) ≤ (gArc (↑I.sup.length : Int) I.arcs a).src then pot.getD (gArc (↑I.sup.length : Int) I.arcs a).src.toNat (0 : Int)
 else (0 : Int))))
 (W
 (if (0 : Int) ≤ (gArc (↑I.sup.length : Int) I.arcs a).dst then pot.getD (gArc (↑I.sup.length : Int) I.arcs a).dst.toNat (0 : Int)
 else (0 : Int)))).lo =
 (W (redF I pot a)).lo ∧
 True) ∧
 True) ∧
 True) ∧
 I64 (gArc (↑I.sup.length : Int) I.arcs a).cost ∧
 True ∧
 I64 (if (0 : Int) ≤ (gArc (↑I.sup.length : Int) I.arcs a).src then pot.getD (gArc (↑I.sup.length : Int) I.arcs a).src.toNat (0 : Int) else (0 : Int)) ∧
 ((W (gArc (↑I.sup.length : Int) I.arcs a).cost).ok ∧
 (W (if (0 : Int) ≤ (gArc (↑I.sup.length : Int) I.arcs a).src then pot.getD (gArc (↑I.sup.length : Int) I.arcs a).src.toNat (0 : Int) else (0 : Int))).ok) ∧
 True ∧
 I64 (if (0 : Int) ≤ (gArc (↑I.sup.length : Int) I.arcs a).dst then pot.getD (gArc (↑I.sup.length : Int) I.arcs a).dst.toNat (0 : Int) else (0 : Int)) ∧
 ((wminus (W (gArc (↑I.sup.length : Int) I.arcs a).cost)
 (W
 (if (0 : Int) ≤ (gArc (↑I.sup.length : Int) I.arcs a).src then pot.getD (gArc (↑I.sup.length : Int) I.arcs a).src.toNat (0 : Int)
 else (0 : Int)))).ok ∧
 (W (if (0 : Int) ≤ (gArc (↑I.sup.length : Int) I.arcs a).dst then pot.getD (gArc (↑I.sup.length : Int) I.arcs a).dst.toNat (0 : Int) else (0 : Int))).ok) ∧
 (((wplus
 (wminus (W (gArc (↑I.sup.length : Int) I.arcs a).cost)
 (W
 (if (0 : Int) ≤ (gArc (↑I.sup.length : Int) I.arcs a).src then pot.getD (gArc (↑I.sup.length : Int) I.arcs a).src.toNat (0 : Int)
 else (0 : Int))))
 (W
 (if (0 : Int) ≤ (gArc (↑I.sup.length : Int) I.arcs a).dst then pot.getD (gArc (↑I.sup.length : Int) I.arcs a).dst.toNat (0 : Int)
 else (0 : Int)))).hi =
 (W (redF I pot a)).hi ∧
 (wplus
 (wminus (W (gArc (↑I.sup.length : Int) I.arcs a).cost)
 (W
 (if (0 : Int) ≤ (gArc (↑I.sup.length : Int) I.arcs a).src then pot.getD (gArc (↑I.sup.length : Int) I.arcs a).src.toNat (0 : Int)
 else (0 : Int))))
 (W
 (if (0 : Int) ≤ (gArc (↑I.sup.length : Int) I.arcs a).dst then pot.getD (gArc (↑I.sup.length : Int) I.arcs a).dst.toNat (0 : Int)
 else (0 : Int)))).lo =
 (W (redF I pot a)).lo ∧
 True) ∧
 True) ∧
 True)
theorem rReduced_q (I : Inst) (pot : List Int) (a : Int) (ty0 ty1 ty2 : TypeId) : rReduced_E0 I pot a ty0 ty1 ty2 = FVcP TT rReduced_g (rReduced_I I pot a) (rReduced_an I pot a) Try.f69 [.agg [.row 0, .row 1], .row 2, .int .i64 a] [(0, .row false ty0 (.ints .i64 I.sup)), (1, .row false ty1 (.arcs I.arcs)), (2, .row false ty2 (.ints .i64 pot))] (rReduced_r I pot a) := by kernel_rfl
theorem rReduced_E (I : Inst) (pot : List Int) (a : Int) (ty0 ty1 ty2 : TypeId) (hp : A64 pot ∧ A64c I.arcs) : FVc TT rReduced_g (rReduced_I I pot a) (rReduced_an I pot a) Try.f69 [.agg [.row 0, .row 1], .row 2, .int .i64 a] [(0, .row false ty0 (.ints .i64 I.sup)), (1, .row false ty1 (.arcs I.arcs)), (2, .row false ty2 (.ints .i64 pot))] (rReduced_r I pot a) := by
  refine FVc.of (rReduced_E0 I pot a ty0 ty1 ty2) (rReduced_q I pot a ty0 ty1 ty2) ?_
  unfold rReduced_E0
  obtain ⟨p1, p2⟩ := hp
  have hk := at_ok (a := a) p1 p2
  simp only [eq_self, exists_const, forall_const, decide_eq_true_eq, decide_eq_false_iff_not, and_true, true_and, bne_iff_ne, ne_eq, bne_eq_false_iff_eq, Int.toNat_natCast, Bool.not_eq_true', Bool.not_eq_false', beq_iff_eq, beq_eq_false_iff_ne, nilEq_true]
  refine ⟨fun h => ?_, fun h => ?_⟩
  · unfold redF; rw [h, if_neg (by decide), W_zero]; exact ⟨rfl, rfl⟩
  · have ho := gOk_ok h
    obtain ⟨o1, o2, o3, o4⟩ := okArc_iff.1 ho
    have e : gArc (I.sup.length : Int) I.arcs a = atA I a := rfl
    have e1 : atF I pot a = pot.getD (atA I a).src.toNat 0 := by unfold atF; rw [if_pos h]
    have e2 : atT I pot a = pot.getD (atA I a).dst.toNat 0 := by unfold atT; rw [if_pos h]
    rw [e1, e2] at hk
    simp only [e, o1, o3, if_true, wminus_W, wplus_W, redF, h, e1, e2, redA, and_self]
    exact ⟨hk.1, hk.2.1, ⟨W_ok _, W_ok _⟩, hk.2.2, ⟨W_ok _, W_ok _⟩, trivial⟩

theorem rReduced_ok : SpecOk Try.prog rReduced_n true (specOf true rReduced_fs) :=
  spec_ok' TT_ok (show GsOk Try.prog rReduced_g from gsOk_cons rArc_ok (gsOk_cons rMinus_ok (gsOk_cons rOf_ok (gsOk_cons At_ok (gsOk_cons rPlus_ok (gsOk_nil)))))) (by kernel_rfl) mixedOrders Try.func69 rfl rfl (by kernel_rfl) (n := 3) (by decide +kernel) (I := rReduced_IA) (fun _ _ => isOk_nil) (A := rReduced_A)
    (fun args h r hr => by
      unfold rReduced_fs at hr
      split at hr
      · rename_i a ty0 I_s ty1 I_a ty2 pot; cases hr; refine ⟨rfl, fun hp => ?_⟩; have hE := rReduced_E ⟨I_s, I_a⟩ pot a ty0 ty1 ty2 hp; exact hE
      · cases hr)

def rSlack_E0 (I : Inst) (x : List Int) (pot : List Int) (ty0 ty1 ty2 ty3 : TypeId) : Prop :=
      (I.sup.length ≤ (10000 : Nat) ∧ I.arcs.length ≤ (10000 : Nat) ∧ A64 x ∧ A64 I.sup) ∧
 ((fitsF I x != (0 : Int)) = true → (fitsF I x = slackF I x pot ∧ True) ∧ True) ∧
 ((fitsF I x != (0 : Int)) = false →
 (((↑pot.length : Int) != (↑I.sup.length : Int)) = true → ((30 : Int) = slackF I x pot ∧ True) ∧ True) ∧
 (((↑pot.length : Int) != (↑I.sup.length : Int)) = false →
 ∃ (g0 : Nat),
 ((g0 ≤ I.arcs.length ∧ ∀ (j : Nat), j < g0 → slackK I x pot j = true) ∧
 (True ∧ True ∧ (0 : Nat) = (0 : Nat) ∧ (0 : Int) = (↑g0 : Int) ∧ True) ∧ (True ∧ True ∧ True) ∧ I.sup = I.sup ∧ I.arcs = I.arcs ∧ x = x ∧ pot = pot ∧ True) ∧
 ∀ (g : Nat),
 (g ≤ I.arcs.length ∧ ∀ (j : Nat), j < g → slackK I x pot j = true) →
 (decide ((↑g : Int) < (↑x.length : Int)) = true →
 (A64 pot ∧ A64c I.arcs) ∧
 ((W (redF I pot (↑g : Int))).ok ∧ { hi := (0 : Int), lo := (0 : Int) : Wide }.ok) ∧
 (decide (wcmp (W (redF I pot (↑g : Int))) { hi := (0 : Int), lo := (0 : Int) : Wide } > (0 : Int)) = true →
 ((0 : Int) ≤ (↑g : Int) ∧ (↑g : Int) < (↑x.length : Int)) ∧
 (↑g : Int).toNat < x.length ∧
 ∀ (x_1 : Int),
 x[(↑g : Int).toNat]? = some x_1 →
 ((0 : Int) ≤ (↑g : Int) ∧ (↑g : Int) < (↑I.arcs.length : Int)) ∧
 (↑g : Int).toNat < I.arcs.length ∧
 ∀ (x_2 : Arc),
 I.arcs[(↑g : Int).toNat]? = some x_2 →
 ((x_1 != x_2.low) = true → ((33 : Int) = slackF I x pot ∧ True) ∧ True) ∧
 ((x_1 != x_2.low) = false →
 (decide (wcmp (W (redF I pot (↑g : Int))) { hi := (0 : Int), lo := (0 : Int) : Wide } < (0 : Int)) = true →
 ((0 : Int) ≤ (↑g : Int) ∧ (↑g : Int) < (↑x.length : Int)) ∧
 (↑g : Int).toNat < x.length ∧
 ∀ (x_3 : Int),
 x[(↑g : Int).toNat]? = some x_3 →
 ((0 : Int) ≤ (↑g : Int) ∧ (↑g : Int) < (↑I.arcs.length : Int)) ∧
 (↑g : Int).toNat < I.arcs.length ∧
 ∀ (x_4 : Arc),
 I.arcs[(↑g : Int).toNat]? = some x_4 →
 ((x_3 != x_4.cap) = true → ((33 : Int) = slackF I x pot ∧ True) ∧ True) ∧
 ((x_3 != x_4.cap) = false →
 ((0 : Int) ≤ (↑g : Int) ∧ (↑g : Int) < (↑I.arcs.length : Int)) ∧
 (↑g : Int).toNat < I.arcs.length ∧
 ∀ (x_5 : Arc),
 I.arcs[(↑g : Int).toNat]? = some x_5 →
 ((x_5.cap == (4611686018427387904 : Int)) = true → ((33 : Int) = slackF I x pot ∧ True) ∧ True) ∧
 ((x_5.cap == (4611686018427387904 : Int)) = false →
 ∃ (g' : Nat),
 (g' ≤ I.arcs.length ∧ ∀ (j : Nat), j < g' → slackK I x pot j = true) ∧
 I.arcs.length - g' < I.arcs.length - g ∧
 (True ∧
 True ∧
 (0 : Nat) = (0 : Nat) ∧
 IntKind.i64.wrap ((↑g : Int) + (1 : Int)) = (↑g' : Int) ∧ True) ∧
 (True ∧ True ∧ True) ∧ I.sup = I.sup ∧ I.arcs = I.arcs ∧ x = x ∧ pot = pot ∧ True))) ∧
 (decide (wcmp (W (redF I pot (↑g : Int))) { hi := (0 : Int), lo := (0 : Int) : Wide } < (0 : Int)) = false →
 ∃ (g' : Nat),
 (g' ≤ I.arcs.length ∧ ∀ (j : Nat), j < g' → slackK I x pot j = true) ∧
 I.arcs.length - g' < I.arcs.length - g ∧
 (True ∧ True ∧ (0 : Nat) = (0 : Nat) ∧ IntKind.i64.wrap ((↑g : Int) + (1 : Int)) = (↑g' : Int) ∧ True) ∧
 (True ∧ True ∧ True) ∧ I.sup = I.sup ∧ I.arcs = I.arcs ∧ x = x ∧ pot = pot ∧ True))) ∧
 (decide (wcmp (W (redF I pot (↑g : Int))) { hi := (0 : Int), lo := (0 : Int) : Wide } > (0 : Int)) = false →
 (decide (wcmp (W (redF I pot (↑g : Int))) { hi := (0 : Int), lo := (0 : Int) : Wide } < (0 : Int)) = true →
 ((0 : Int) ≤ (↑g : Int) ∧ (↑g : Int) < (↑x.length : Int)) ∧
 (↑g : Int).toNat < x.length ∧
 ∀ (x_1 : Int),
 x[(↑g : Int).toNat]? = some x_1 →
 ((0 : Int) ≤ (↑g : Int) ∧ (↑g : Int) < (↑I.arcs.length : Int)) ∧
 (↑g : Int).toNat < I.arcs.length ∧
 ∀ (x_2 : Arc),
 I.arcs[(↑g : Int).toNat]? = some x_2 →
 ((x_1 != x_2.cap) = true → ((33 : Int) = slackF I x pot ∧ True) ∧ True) ∧
 ((x_1 != x_2.cap) = false →
 ((0 : Int) ≤ (↑g : Int) ∧ (↑g : Int) < (↑I.arcs.length : Int)) ∧
 (↑g : Int).toNat < I.arcs.length ∧
 ∀ (x_3 : Arc),
 I.arcs[(↑g : Int).toNat]? = some x_3 →
 ((x_3.cap == (4611686018427387904 : Int)) = true → ((33 : Int) = slackF I x pot ∧ True) ∧ True) ∧
 ((x_3.cap == (4611686018427387904 : Int)) = false →
 ∃ (g' : Nat),
 (g' ≤ I.arcs.length ∧ ∀ (j : Nat), j < g' → slackK I x pot j = true) ∧
 I.arcs.length - g' < I.arcs.length - g ∧
 (True ∧ True ∧ (0 : Nat) = (0 : Nat) ∧ IntKind.i64.wrap ((↑g : Int) + (1 : Int)) = (↑g' : Int) ∧ True) ∧
 (True ∧ True ∧ True) ∧ I.sup = I.sup ∧ I.arcs = I.arcs ∧ x = x ∧ pot = pot ∧ True))) ∧
 (decide (wcmp (W (redF I pot (↑g : Int))) { hi := (0 : Int), lo := (0 : Int) : Wide } < (0 : Int)) = false →
 ∃ (g' : Nat),
 (g' ≤ I.arcs.length ∧ ∀ (j : Nat), j < g' → slackK I x pot j = true) ∧
 I.arcs.length - g' < I.arcs.length - g ∧
 (True ∧ True ∧ (0 : Nat) = (0 : Nat) ∧ IntKind.i64.wrap ((↑g : Int) + (1 : Int)) = (↑g' : Int) ∧ True) ∧
 (True ∧ True ∧ True) ∧ I.sup = I.sup ∧ I.arcs = I.arcs ∧ x = x ∧ pot = pot ∧ True))) ∧
 (decide ((↑g : Int) < (↑x.length : Int)) = false → ((0 : Int) = slackF I x pot ∧ True) ∧ True)))
theorem rSlack_q (I : Inst) (x : List Int) (pot : List Int) (ty0 ty1 ty2 ty3 : TypeId) : rSlack_E0 I x pot ty0 ty1 ty2 ty3 = FVcP TT rSlack_g (rSlack_I I x pot) (rSlack_an I x pot) Try.f70 [.agg [.row 0, .row 1], .row 2, .row 3] [(0, .row false ty0 (.ints .i64 I.sup)), (1, .row false ty1 (.arcs I.arcs)), (2, .row false ty2 (.ints .i64 x)), (3, .row false ty3 (.ints .i64 pot))] (rSlack_r I x pot) := by kernel_rfl
theorem rSlack_E (I : Inst) (x : List Int) (pot : List Int) (ty0 ty1 ty2 ty3 : TypeId) (hp : I.sup.length ≤ 10000 ∧ I.arcs.length ≤ 10000 ∧ A64 x ∧ A64 I.sup ∧ A64 pot ∧ A64c I.arcs) : FVc TT rSlack_g (rSlack_I I x pot) (rSlack_an I x pot) Try.f70 [.agg [.row 0, .row 1], .row 2, .row 3] [(0, .row false ty0 (.ints .i64 I.sup)), (1, .row false ty1 (.arcs I.arcs)), (2, .row false ty2 (.ints .i64 x)), (3, .row false ty3 (.ints .i64 pot))] (rSlack_r I x pot) := by
  refine FVc.of (rSlack_E0 I x pot ty0 ty1 ty2 ty3) (rSlack_q I x pot ty0 ty1 ty2 ty3) ?_
  unfold rSlack_E0
  obtain ⟨p1, p2, p3, p4, p5, p6⟩ := hp
  have bad : ∀ j, j < I.arcs.length → fitsF I x = 0 → pot.length = I.sup.length → slackK I x pot j = false → 33 = slackF I x pot := fun j hj h1 h2 h3 => by
    unfold slackF
    rw [if_neg (by omega), if_neg (by omega), if_neg]
    intro ha
    have := List.all_eq_true.1 ha j (List.mem_range.2 hj)
    rw [h3] at this; cases this
  have nx : ∀ g, g < I.arcs.length → (∀ j, j < g → slackK I x pot j = true) → slackK I x pot g = true → ∃ g', (g' ≤ I.arcs.length ∧ ∀ j, j < g' → slackK I x pot j = true) ∧ I.arcs.length - g' < I.arcs.length - g ∧ IntKind.i64.wrap ((g : Int) + 1) = (g' : Int) := fun g hg h1 h2 =>
    ⟨g + 1, ⟨by omega, fun j hj => by
      by_cases e : j = g
      · subst e; exact h2
      · exact h1 j (by omega)⟩, by omega, by rw [w64 (by omega) (by omega)]; omega⟩
  simp only [eq_self, exists_const, forall_const, decide_eq_true_eq, decide_eq_false_iff_not, and_true, true_and, bne_iff_ne, ne_eq, bne_eq_false_iff_eq, Int.toNat_natCast, Bool.not_eq_true', Bool.not_eq_false', beq_iff_eq, beq_eq_false_iff_ne, nilEq_true]
  refine ⟨⟨p1, p2, p3, p4⟩, fun h => by unfold slackF; rw [if_pos h], fun hf => ⟨fun h => by unfold slackF; rw [if_neg (by omega), if_pos (by omega)], fun hl => ?_⟩⟩
  have hz := fitsF_zero.1 hf
  have hzl := hz.2.1
  refine ⟨0, ⟨⟨by omega, fun j hj => by omega⟩, rfl⟩, fun g hg => ⟨fun h1 => ?_, fun h1 => ?_⟩⟩
  · have hgl : g < I.arcs.length := by omega
    have hgx : g < x.length := by omega
    obtain ⟨b, hb⟩ : ∃ b, I.arcs[g]? = some b := ⟨_, List.getElem?_eq_getElem hgl⟩
    obtain ⟨y, hy⟩ : ∃ y, x[g]? = some y := ⟨_, List.getElem?_eq_getElem hgx⟩
    have hbd : I.arcs.getD g default = b := by simp [List.getD, hb]
    have hyd : x.getD g 0 = y := by simp [List.getD, hy]
    have key : slackK I x pot g = slackA (redF I pot g) y b := by unfold slackK; rw [hbd, hyd]
    have B := bad g hgl hf (by omega)
    have N := nx g hgl hg.2
    rw [key] at B N
    have e0 : (⟨0, 0⟩ : Wide) = W 0 := W_zero.symm
    simp only [hy, hb, Option.some.injEq, forall_eq', e0]
    have hs : wcmp (W (redF I pot g)) (W 0) = sgn (redF I pot g) := rfl
    rw [hs]
    have q1 : (0 : Int) ≤ g := by omega
    have q2 : (g : Int) < x.length := by omega
    have q3 : (g : Int) < I.arcs.length := by omega
    unfold slackA inf at B N
    refine ⟨⟨p5, p6⟩, ⟨W_ok _, W_ok _⟩, ?_⟩
    generalize redF I pot g = r at *
    refine ⟨fun c1 => ⟨⟨q1, q2⟩, hgx, ⟨q1, q3⟩, hgl, fun c2 => B (by simp [show 0 < sgn r from c1, c2]), fun c2 => ⟨fun c3 => by omega, fun c3 => N (by simp [c3, c2])⟩⟩, fun c1 => ⟨fun c3 => ⟨⟨q1, q2⟩, hgx, ⟨q1, q3⟩, hgl, fun c4 => B (by simp [c3, c4]), fun c4 => ⟨⟨q1, q3⟩, hgl, fun c5 => B (by simp [c3, c5]), fun c5 => N (by simp [show ¬ 0 < sgn r from c1, c4, c5])⟩⟩, fun c3 => N (by simp [show ¬ 0 < sgn r from c1, c3])⟩⟩
  · have : (List.range I.arcs.length).all (slackK I x pot) = true := List.all_eq_true.2 fun j hj => hg.2 j (by have := List.mem_range.1 hj; omega)
    unfold slackF
    rw [if_neg (by omega), if_neg (by omega), if_pos this]

theorem rSlack_ok : SpecOk Try.prog rSlack_n true (specOf true rSlack_fs) :=
  spec_ok' TT_ok (show GsOk Try.prog rSlack_g from gsOk_cons rFits_ok (gsOk_cons rReduced_ok (gsOk_cons rCompare_ok (gsOk_nil)))) (by kernel_rfl) mixedOrders Try.func70 rfl rfl (by kernel_rfl) (n := 3) (by decide +kernel) (I := rSlack_IA) (fun _ _ => isOk_nil) (A := rSlack_A)
    (fun args h r hr => by
      unfold rSlack_fs at hr
      split at hr
      · rename_i ty0 I_s ty1 I_a ty2 x ty3 pot; cases hr; refine ⟨rfl, fun hp => ?_⟩; have hE := rSlack_E ⟨I_s, I_a⟩ x pot ty0 ty1 ty2 ty3 hp; exact hE
      · cases hr)

theorem red_mulR (m : Int) (b : Arc) (pot : List Int) (s : Int) : s + m * b.cost - m * potR pot b.src + m * potR pot b.dst = s + m * redP pot b := by
  unfold redP redA
  rw [Int.mul_add, Int.mul_sub]; omega

def rBound_E0 (I : Inst) (pot : List Int) (ty0 ty1 ty2 : TypeId) : Prop :=
      ∃ (g0 : Nat),
 (g0 ≤ I.sup.length ∧
 (True ∧ (0 : Nat) = (0 : Nat) ∧ (0 : Nat) = (0 : Nat) ∧ (0 : Nat) = (0 : Nat) ∧ (0 : Int) = (↑g0 : Int) ∧ True) ∧
 ((0 : Int) = (W (boundS I.sup pot g0)).hi ∧ (0 : Int) = (W (boundS I.sup pot g0)).lo ∧ True) ∧
 ((0 : Int) = (0 : Int) ∧ (0 : Int) = (0 : Int) ∧ True) ∧ (True ∧ True ∧ True) ∧ I.sup = I.sup ∧ I.arcs = I.arcs ∧ pot = pot ∧ True) ∧
 ∀ (g : Nat),
 g ≤ I.sup.length →
 (decide ((↑g : Int) < (↑I.sup.length : Int)) = true →
 ((0 : Int) ≤ (↑g : Int) ∧ (↑g : Int) < (↑I.sup.length : Int)) ∧
 (↑g : Int).toNat < I.sup.length ∧
 ∀ (x : Int),
 I.sup[(↑g : Int).toNat]? = some x →
 True ∧
 (I64 x ∧ I64 (if (0 : Int) ≤ (↑g : Int) then pot.getD (↑g : Int).toNat (0 : Int) else (0 : Int))) ∧
 ((W (boundS I.sup pot g)).ok ∧ (W (x * if (0 : Int) ≤ (↑g : Int) then pot.getD (↑g : Int).toNat (0 : Int) else (0 : Int))).ok) ∧
 ∃ (g' : Nat),
 g' ≤ I.sup.length ∧
 I.sup.length - g' < I.sup.length - g ∧
 (True ∧ (0 : Nat) = (0 : Nat) ∧ (0 : Nat) = (0 : Nat) ∧ (0 : Nat) = (0 : Nat) ∧ IntKind.i64.wrap ((↑g : Int) + (1 : Int)) = (↑g' : Int) ∧ True) ∧
 ((wplus (W (boundS I.sup pot g)) (W (x * if (0 : Int) ≤ (↑g : Int) then pot.getD (↑g : Int).toNat (0 : Int) else (0 : Int)))).hi =
 (W (boundS I.sup pot g')).hi ∧
 (wplus (W (boundS I.sup pot g)) (W (x * if (0 : Int) ≤ (↑g : Int) then pot.getD (↑g : Int).toNat (0 : Int) else (0 : Int)))).lo =
 (W (boundS I.sup pot g')).lo ∧
 True) ∧
 ((0 : Int) = (0 : Int) ∧ (0 : Int) = (0 : Int) ∧ True) ∧ (True ∧ True ∧ True) ∧ I.sup = I.sup ∧ I.arcs = I.arcs ∧ pot = pot ∧ True) ∧
 (decide ((↑g : Int) < (↑I.sup.length : Int)) = false →
 ∃ (g0 : Nat × Int),
 ((g0.fst ≤ I.arcs.length ∧ boundRA (↑I.sup.length : Int) pot (List.drop g0.fst I.arcs) g0.snd = boundR I pot) ∧
 (True ∧ (0 : Nat) = (0 : Nat) ∧ (0 : Nat) = (0 : Nat) ∧ (0 : Nat) = (0 : Nat) ∧ (0 : Int) = (↑g0.1 : Int) ∧ True) ∧
 ((W (boundS I.sup pot g)).hi = (W g0.2).hi ∧ (W (boundS I.sup pot g)).lo = (W g0.2).lo ∧ True) ∧
 ((0 : Int) = (0 : Int) ∧ (0 : Int) = (0 : Int) ∧ True) ∧ (True ∧ True ∧ True) ∧ I.sup = I.sup ∧ I.arcs = I.arcs ∧ pot = pot ∧ True) ∧
 ∀ (g : Nat × Int),
 g.fst ≤ I.arcs.length ∧ boundRA (↑I.sup.length : Int) pot (List.drop g.fst I.arcs) g.snd = boundR I pot →
 (decide ((↑g.1 : Int) < (↑I.arcs.length : Int)) = true →
 ((0 : Int) ≤ (↑g.1 : Int) ∧ (↑g.1 : Int) < (↑I.arcs.length : Int)) ∧
 (↑g.1 : Int).toNat < I.arcs.length ∧
 ∀ (x : Arc),
 I.arcs[(↑g.1 : Int).toNat]? = some x →
 (A64 pot ∧ A64c I.arcs) ∧
 ((W (redF I pot (↑g.1 : Int))).ok ∧ { hi := (0 : Int), lo := (0 : Int) : Wide }.ok) ∧
 (decide (wcmp (W (redF I pot (↑g.1 : Int))) { hi := (0 : Int), lo := (0 : Int) : Wide } < (0 : Int)) = true →
 ((x.cap == (4611686018427387904 : Int)) = true →
 ((((0 : Int) = (boundW (boundR I pot)).hi ∧ (0 : Int) = (boundW (boundR I pot)).lo ∧ True) ∧ false = (boundR I pot).isSome ∧ True) ∧
 True) ∧
 True) ∧
 ((x.cap == (4611686018427387904 : Int)) = false →
 (I64 x.cap ∧ I64 x.cost) ∧
 ((W g.2).ok ∧ (W (x.cap * x.cost)).ok) ∧
 True ∧
 (I64 x.cap ∧ I64 (if (0 : Int) ≤ x.src then pot.getD x.src.toNat (0 : Int) else (0 : Int))) ∧
 ((wplus (W g.2) (W (x.cap * x.cost))).ok ∧
 (W (x.cap * if (0 : Int) ≤ x.src then pot.getD x.src.toNat (0 : Int) else (0 : Int))).ok) ∧
 True ∧
 (I64 x.cap ∧ I64 (if (0 : Int) ≤ x.dst then pot.getD x.dst.toNat (0 : Int) else (0 : Int))) ∧
 ((wminus (wplus (W g.2) (W (x.cap * x.cost)))
 (W (x.cap * if (0 : Int) ≤ x.src then pot.getD x.src.toNat (0 : Int) else (0 : Int)))).ok ∧
 (W (x.cap * if (0 : Int) ≤ x.dst then pot.getD x.dst.toNat (0 : Int) else (0 : Int))).ok) ∧
 ∃ (g' : Nat × Int),
 (g'.fst ≤ I.arcs.length ∧ boundRA (↑I.sup.length : Int) pot (List.drop g'.fst I.arcs) g'.snd = boundR I pot) ∧
 I.arcs.length - g'.fst < I.arcs.length - g.fst ∧
 (True ∧
 (0 : Nat) = (0 : Nat) ∧
 (0 : Nat) = (0 : Nat) ∧
 (0 : Nat) = (0 : Nat) ∧ IntKind.i64.wrap ((↑g.1 : Int) + (1 : Int)) = (↑g'.1 : Int) ∧ True) ∧
 ((wplus
 (wminus (wplus (W g.2) (W (x.cap * x.cost)))
 (W (x.cap * if (0 : Int) ≤ x.src then pot.getD x.src.toNat (0 : Int) else (0 : Int))))
 (W (x.cap * if (0 : Int) ≤ x.dst then pot.getD x.dst.toNat (0 : Int) else (0 : Int)))).hi =
 (W g'.2).hi ∧
 (wplus
 (wminus (wplus (W g.2) (W (x.cap * x.cost)))
 (W (x.cap * if (0 : Int) ≤ x.src then pot.getD x.src.toNat (0 : Int) else (0 : Int))))
 (W (x.cap * if (0 : Int) ≤ x.dst then pot.getD x.dst.toNat (0 : Int) else (0 : Int)))).lo =
 (W g'.2).lo ∧
 True) ∧
 ((0 : Int) = (0 : Int) ∧ (0 : Int) = (0 : Int) ∧ True) ∧
 (True ∧ True ∧ True) ∧ I.sup = I.sup ∧ I.arcs = I.arcs ∧ pot = pot ∧ True)) ∧
 (decide (wcmp (W (redF I pot (↑g.1 : Int))) { hi := (0 : Int), lo := (0 : Int) : Wide } < (0 : Int)) = false →
 (I64 x.low ∧ I64 x.cost) ∧
 ((W g.2).ok ∧ (W (x.low * x.cost)).ok) ∧
 True ∧
 (I64 x.low ∧ I64 (if (0 : Int) ≤ x.src then pot.getD x.src.toNat (0 : Int) else (0 : Int))) ∧
 ((wplus (W g.2) (W (x.low * x.cost))).ok ∧
 (W (x.low * if (0 : Int) ≤ x.src then pot.getD x.src.toNat (0 : Int) else (0 : Int))).ok) ∧
 True ∧
 (I64 x.low ∧ I64 (if (0 : Int) ≤ x.dst then pot.getD x.dst.toNat (0 : Int) else (0 : Int))) ∧
 ((wminus (wplus (W g.2) (W (x.low * x.cost)))
 (W (x.low * if (0 : Int) ≤ x.src then pot.getD x.src.toNat (0 : Int) else (0 : Int)))).ok ∧
 (W (x.low * if (0 : Int) ≤ x.dst then pot.getD x.dst.toNat (0 : Int) else (0 : Int))).ok) ∧
 ∃ (g' : Nat × Int),
 (g'.fst ≤ I.arcs.length ∧ boundRA (↑I.sup.length : Int) pot (List.drop g'.fst I.arcs) g'.snd = boundR I pot) ∧
 I.arcs.length - g'.fst < I.arcs.length - g.fst ∧
 (True ∧
 (0 : Nat) = (0 : Nat) ∧
 (0 : Nat) = (0 : Nat) ∧
 (0 : Nat) = (0 : Nat) ∧ IntKind.i64.wrap ((↑g.1 : Int) + (1 : Int)) = (↑g'.1 : Int) ∧ True) ∧
 ((wplus
 (wminus (wplus (W g.2) (W (x.low * x.cost)))
 (W (x.low * if (0 : Int) ≤ x.src then pot.getD x.src.toNat (0 : Int) else (0 : Int))))
 (W (x.low * if (0 : Int) ≤ x.dst then pot.getD x.dst.toNat (0 : Int) else (0 : Int)))).hi =
 (W g'.2).hi ∧
 (wplus
 (wminus (wplus (W g.2) (W (x.low * x.cost)))
 (W (x.low * if (0 : Int) ≤ x.src then pot.getD x.src.toNat (0 : Int) else (0 : Int))))
 (W (x.low * if (0 : Int) ≤ x.dst then pot.getD x.dst.toNat (0 : Int) else (0 : Int)))).lo =
 (W g'.2).lo ∧
 True) ∧
 ((0 : Int) = (0 : Int) ∧ (0 : Int) = (0 : Int) ∧ True) ∧
 (True ∧ True ∧ True) ∧ I.sup = I.sup ∧ I.arcs = I.arcs ∧ pot = pot ∧ True)) ∧
 (decide ((↑g.1 : Int) < (↑I.arcs.length : Int)) = false →
 ((((W g.2).hi = (boundW (boundR I pot)).hi ∧ (W g.2).lo = (boundW (boundR I pot)).lo ∧ True) ∧ true = (boundR I pot).isSome ∧ True) ∧ True) ∧ True))
theorem rBound_q (I : Inst) (pot : List Int) (ty0 ty1 ty2 : TypeId) : rBound_E0 I pot ty0 ty1 ty2 = FVcP TT rBound_g (rBound_I I pot) (rBound_an I pot) Try.f67 [.agg [.row 0, .row 1], .row 2] [(0, .row false ty0 (.ints .i64 I.sup)), (1, .row false ty1 (.arcs I.arcs)), (2, .row false ty2 (.ints .i64 pot))] (rBound_r I pot) := by kernel_rfl
theorem rBound_E (I : Inst) (pot : List Int) (ty0 ty1 ty2 : TypeId) (hp : I.sup.length ≤ 140737488351232 ∧ I.arcs.length ≤ 140737488351232 ∧ A64 I.sup ∧ A64a I.arcs ∧ A64c I.arcs ∧ A64 pot) : FVc TT rBound_g (rBound_I I pot) (rBound_an I pot) Try.f67 [.agg [.row 0, .row 1], .row 2] [(0, .row false ty0 (.ints .i64 I.sup)), (1, .row false ty1 (.arcs I.arcs)), (2, .row false ty2 (.ints .i64 pot))] (rBound_r I pot) := by
  refine FVc.of (rBound_E0 I pot ty0 ty1 ty2) (rBound_q I pot ty0 ty1 ty2) ?_
  unfold rBound_E0
  obtain ⟨p1, p2, p3, p4, p5, p6⟩ := hp
  simp only [eq_self, exists_const, forall_const, decide_eq_true_eq, decide_eq_false_iff_not, and_true, true_and, bne_iff_ne, ne_eq, bne_eq_false_iff_eq, Int.toNat_natCast, Bool.not_eq_true', Bool.not_eq_false', beq_iff_eq, beq_eq_false_iff_ne, nilEq_true]
  have hN : ∀ g : Nat, (if 0 ≤ (g : Int) then pot.getD g 0 else 0) = pot.getD g 0 := fun g => if_pos (by omega)
  simp only [hN]
  refine ⟨0, ⟨by omega, rfl, by simp only [boundS]; decide, by simp only [boundS]; decide⟩, fun g hg => ⟨fun h1 => ⟨by omega, by omega, fun x hx => ⟨⟨p3 x (List.mem_of_getElem? hx), p6.getD _⟩, ⟨W_ok _, W_ok _⟩, g + 1, by omega, by omega, by rw [w64 (by omega) (by omega)]; omega, ?_⟩⟩, fun h1 => ?_⟩⟩
  · have hd : I.sup.getD g 0 = x := by simp [List.getD, hx]
    rw [wplus_W, boundS, hd]; exact ⟨rfl, rfl⟩
  · have hge : g = I.sup.length := by omega
    subst hge
    refine ⟨(0, boundS I.sup pot I.sup.length), ⟨⟨by dsimp only; omega, rfl⟩, rfl, rfl, rfl⟩, fun g hg => ⟨fun h2 => ⟨by omega, by omega, fun b hb => ?_⟩, fun h2 => ?_⟩⟩
    · obtain ⟨k, s⟩ := g
      dsimp only at hg h2 hb ⊢
      obtain ⟨g1, g2⟩ := hg
      have hgo := gOk_at (n := I.sup.length) (a := (k : Int)) (by omega) (by rw [Int.toNat_natCast]; exact hb)
      have hm := p4 b (List.mem_of_getElem? hb)
      have hc := p5 b (List.mem_of_getElem? hb)
      have nx : ∀ s', boundRA I.sup.length pot (I.arcs.drop (k + 1)) s' = boundR I pot → ∃ g' : Nat × Int, (g'.fst ≤ I.arcs.length ∧ boundRA I.sup.length pot (I.arcs.drop g'.fst) g'.snd = boundR I pot) ∧ I.arcs.length - g'.fst < I.arcs.length - k ∧ IntKind.i64.wrap ((k : Int) + 1) = (g'.fst : Int) ∧ (W s').hi = (W g'.snd).hi ∧ (W s').lo = (W g'.snd).lo := fun s' h =>
        ⟨(k + 1, s'), ⟨by dsimp only; omega, h⟩, by dsimp only; omega, by rw [w64 (by omega) (by omega)]; dsimp only; omega, rfl, rfl⟩
      rw [drop_get hb, boundRA] at g2
      have e0 : (⟨0, 0⟩ : Wide) = W 0 := W_zero.symm
      have hs : wcmp (W (redF I pot k)) (W 0) = sgn (redF I pot k) := rfl
      have eP : ∀ v : Int, (if 0 ≤ v then pot.getD v.toNat 0 else 0) = potR pot v := fun v => rfl
      have hP : ∀ v, I64 (potR pot v) := fun v => by
        unfold potR
        split
        · exact p6.getD _
        · simp [I64]
      simp only [e0, hs, eP, wplus_W, wminus_W, red_mulR]
      have hcnd : sgn (redF I pot k) < 0 ↔ (okArc I.sup.length b = true ∧ sgn (redP pot b) < 0) := by
        cases ho : okArc (I.sup.length : Int) b with
        | false =>
          have : redF I pot k = 0 := by unfold redF; rw [if_neg (by rw [hgo, ho]; decide)]
          rw [this, sgn_zero]; simp
        | true => rw [redF_at hb ho]; simp
      refine ⟨⟨p6, p5⟩, ⟨W_ok _, W_ok _⟩, fun h3 => ?_, fun h3 => ?_⟩
      · rw [if_pos (hcnd.1 h3)] at g2
        refine ⟨fun h4 => ?_, fun h4 => ⟨⟨hm.2, hc⟩, ⟨W_ok _, W_ok _⟩, ⟨hm.2, hP _⟩, ⟨W_ok _, W_ok _⟩, ⟨hm.2, hP _⟩, ⟨W_ok _, W_ok _⟩, nx _ ?_⟩⟩
        · rw [if_pos (show b.cap = inf from h4)] at g2
          rw [← g2]; exact ⟨⟨rfl, rfl⟩, rfl⟩
        · rwa [if_neg (show ¬ b.cap = inf from h4)] at g2
      · rw [if_neg (fun h => h3 (hcnd.2 h))] at g2
        exact ⟨⟨hm.1, hc⟩, ⟨W_ok _, W_ok _⟩, ⟨hm.1, hP _⟩, ⟨W_ok _, W_ok _⟩, ⟨hm.1, hP _⟩, ⟨W_ok _, W_ok _⟩, nx _ g2⟩
    · obtain ⟨g1, g2⟩ := hg
      rw [drop_end (by omega)] at g2
      rw [← g2]; exact ⟨⟨rfl, rfl⟩, rfl⟩

theorem rBound_ok : SpecOk Try.prog rBound_n true (specOf true rBound_fs) :=
  spec_ok' TT_ok (show GsOk Try.prog rBound_g from gsOk_cons rPlus_ok (gsOk_cons rTimes_ok (gsOk_cons At_ok (gsOk_cons rReduced_ok (gsOk_cons rCompare_ok (gsOk_cons rMinus_ok (gsOk_nil))))))) (by kernel_rfl) mixedOrders Try.func67 rfl rfl (by kernel_rfl) (n := 2) (by decide +kernel) (I := rBound_IA) (fun _ _ => isOk_nil) (A := rBound_A)
    (fun args h r hr => by
      unfold rBound_fs at hr
      split at hr
      · rename_i ty0 I_s ty1 I_a ty2 pot; cases hr; refine ⟨rfl, fun hp => ?_⟩; have hE := rBound_E ⟨I_s, I_a⟩ pot ty0 ty1 ty2 hp; exact hE
      · cases hr)

def rShift_E0 (pot : List Int) (n : Int) (ty0 : TypeId) : Prop :=
      ∃ (g0 : Nat),
 ((g0 ≤ pot.length ∧ shOk n (List.take g0 pot)) ∧
 (True ∧ n = n ∧ True ∧ (0 : Int) = (↑g0 : Int) ∧ True) ∧ [] = List.map (fun (x : Int) => x + n) (List.take g0 pot) ∧ pot = pot ∧ True) ∧
 ∀ (g : Nat),
 g ≤ pot.length ∧ shOk n (List.take g pot) →
 (decide ((↑g : Int) < (↑pot.length : Int)) = true →
 ((0 : Int) ≤ (↑g : Int) ∧ (↑g : Int) < (↑pot.length : Int)) ∧
 (↑g : Int).toNat < pot.length ∧
 ∀ (x : Int),
 pot[(↑g : Int).toNat]? = some x →
 (I64 x ∧ I64 n) ∧
 ((!decide (I64 (x + n))) = true → ((True ∧ false = (shiftF n [] pot).isSome ∧ True) ∧ True) ∧ [] = (shiftF n [] pot).getD [] ∧ True) ∧
 ((!decide (I64 (x + n))) = false →
 (List.map (fun (x : Int) => x + n) (List.take g pot)).length + (1 : Nat) ≤ (1000000000 : Nat) ∧
 ∃ (g' : Nat),
 (g' ≤ pot.length ∧ shOk n (List.take g' pot)) ∧
 pot.length - g' < pot.length - g ∧
 (True ∧ n = n ∧ True ∧ IntKind.i64.wrap ((↑g : Int) + (1 : Int)) = (↑g' : Int) ∧ True) ∧
 List.map (fun (x : Int) => x + n) (List.take g pot) ++ [if I64 (x + n) then x + n else (0 : Int)] =
 List.map (fun (x : Int) => x + n) (List.take g' pot) ∧
 pot = pot ∧ True)) ∧
 (decide ((↑g : Int) < (↑pot.length : Int)) = false →
 ((True ∧ true = (shiftF n [] pot).isSome ∧ True) ∧ True) ∧ List.map (fun (x : Int) => x + n) (List.take g pot) = (shiftF n [] pot).getD [] ∧ True)
theorem rShift_q (pot : List Int) (n : Int) (ty0 : TypeId) : rShift_E0 pot n ty0 = FVcP TT rShift_g (rShift_I pot n) (rShift_an pot n) Try.f31 [.row 0, .int .i64 n] [(0, .row false ty0 (.ints .i64 pot))] (rShift_r pot n) := by kernel_rfl
theorem rShift_E (pot : List Int) (n : Int) (ty0 : TypeId) (hp : A64 pot ∧ I64 n ∧ pot.length ≤ 1000000) : FVc TT rShift_g (rShift_I pot n) (rShift_an pot n) Try.f31 [.row 0, .int .i64 n] [(0, .row false ty0 (.ints .i64 pot))] (rShift_r pot n) := by
  refine FVc.of (rShift_E0 pot n ty0) (rShift_q pot n ty0) ?_
  unfold rShift_E0
  obtain ⟨p1, p2, p3⟩ := hp
  simp only [eq_self, exists_const, forall_const, decide_eq_true_eq, decide_eq_false_iff_not, and_true, true_and, bne_iff_ne, ne_eq, bne_eq_false_iff_eq, Int.toNat_natCast, Bool.not_eq_true', Bool.not_eq_false', beq_iff_eq, beq_eq_false_iff_ne, nilEq_true]
  have hl : ∀ g, g ≤ pot.length → ((pot.take g).map (· + n)).length = g := fun g hg => by rw [List.length_map, List.length_take]; omega
  refine ⟨0, ⟨⟨by omega, fun p hp => by simp at hp⟩, rfl, by simp⟩, fun g hg => ⟨fun h1 => ⟨by omega, by omega, fun p hx => ⟨⟨p1 p (List.mem_of_getElem? hx), p2⟩, fun h2 => ?_, fun h2 => ?_⟩⟩, fun h1 => ?_⟩⟩
  · rw [shift_bad hx h2]; exact ⟨rfl, rfl⟩
  · rw [if_pos h2]
    have hl2 := hl g (by omega)
    refine ⟨by rw [hl2]; omega, g + 1, ⟨by omega, shift_step hx h2 hg.2⟩, by omega, by rw [w64 (by omega) (by omega)]; omega, ?_⟩
    rw [take_get hx]
    simp
  · rw [shift_good (by omega) hg.2]
    simp

theorem rShift_ok : SpecOk Try.prog rShift_n true (specOf true rShift_fs) :=
  spec_ok' TT_ok (show GsOk Try.prog rShift_g from gsOk_cons rAdd_ok (gsOk_nil)) (by kernel_rfl) mixedOrders Try.func31 rfl rfl (by kernel_rfl) (n := 2) (by decide +kernel) (I := rShift_IA) (fun _ _ => isOk_nil) (A := rShift_A)
    (fun args h r hr => by
      unfold rShift_fs at hr
      split at hr
      · rename_i n ty0 pot; cases hr; refine ⟨rfl, fun hp => ?_⟩; have hE := rShift_E pot n ty0 hp; exact hE
      · cases hr)

end Go.Proofs.Ytnjcklhgdpgllaa
