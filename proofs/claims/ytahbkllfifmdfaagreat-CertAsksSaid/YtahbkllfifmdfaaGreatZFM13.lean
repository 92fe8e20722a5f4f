/- Part of the proof, FM13. -/
import Derived.Test.YtahbkllfifmdfaaGreatZFL13
import Derived.Test.YtahbkllfifmdfaaGreatZDM13
import Derived.Test.YtahbkllfifmdfaaGreatZVc11
set_option linter.unusedVariables false
set_option linter.all false
set_option linter.unusedSimpArgs false
set_option maxRecDepth 100000
namespace Go.Proofs.YtahbkllfifmdfaaGreat
open Go Go.RowKit Go.Ql Go.Vc
def rPlain13_E0 (c : Cert) (ty0 ty1 ty2 ty3 : TypeId) : Prop :=
      ((c.kind == (1 : Int)) = true →
 (((↑c.side.length : Int) == (0 : Int)) = true → (((↑c.cycle.length : Int) == (0 : Int)) = plainF c ∧ True) ∧ True) ∧
 (((↑c.side.length : Int) == (0 : Int)) = false → (false = plainF c ∧ True) ∧ True)) ∧
 ((c.kind == (1 : Int)) = false →
 ((c.kind == (2 : Int)) = true →
 (((↑c.flow.length : Int) == (0 : Int)) = true →
 (((↑c.pot.length : Int) == (0 : Int)) = true → (((↑c.cycle.length : Int) == (0 : Int)) = plainF c ∧ True) ∧ True) ∧
 (((↑c.pot.length : Int) == (0 : Int)) = false → (false = plainF c ∧ True) ∧ True)) ∧
 (((↑c.flow.length : Int) == (0 : Int)) = false → (false = plainF c ∧ True) ∧ True)) ∧
 ((c.kind == (2 : Int)) = false →
 ((c.kind == (3 : Int)) = true →
 (((↑c.pot.length : Int) == (0 : Int)) = true → (((↑c.side.length : Int) == (0 : Int)) = plainF c ∧ True) ∧ True) ∧
 (((↑c.pot.length : Int) == (0 : Int)) = false → (false = plainF c ∧ True) ∧ True)) ∧
 ((c.kind == (3 : Int)) = false → (false = plainF c ∧ True) ∧ True)))
theorem rPlain13_q (c : Cert) (ty0 ty1 ty2 ty3 : TypeId) : rPlain13_E0 c ty0 ty1 ty2 ty3 = FVcP TT rPlain13_g (rPlain13_I c) (rPlain13_an c) Tryz.f21 [.agg [.int .i64 c.kind, .row 0, .row 1, .row 2, .row 3]] [(0, .row false ty0 (.ints .i64 c.flow)), (1, .row false ty1 (.ints .i64 c.pot)), (2, .row false ty2 (.bools c.side)), (3, .row false ty3 (.ints .i64 c.cycle))] (rPlain13_r c) := by kernel_rfl
theorem rPlain13_E (c : Cert) (ty0 ty1 ty2 ty3 : TypeId) (hp : True) : FVc TT rPlain13_g (rPlain13_I c) (rPlain13_an c) Tryz.f21 [.agg [.int .i64 c.kind, .row 0, .row 1, .row 2, .row 3]] [(0, .row false ty0 (.ints .i64 c.flow)), (1, .row false ty1 (.ints .i64 c.pot)), (2, .row false ty2 (.bools c.side)), (3, .row false ty3 (.ints .i64 c.cycle))] (rPlain13_r c) := by
  refine FVc.of (rPlain13_E0 c ty0 ty1 ty2 ty3) (rPlain13_q c ty0 ty1 ty2 ty3) ?_
  unfold rPlain13_E0
  simp only [eq_self, exists_const, forall_const, decide_eq_true_eq, decide_eq_false_iff_not, and_true, true_and, bne_iff_ne, ne_eq, bne_eq_false_iff_eq, Int.toNat_natCast, Bool.not_eq_true', Bool.not_eq_false', beq_iff_eq, beq_eq_false_iff_ne, nilEq_true]
  unfold plainF
  have b0 : ∀ n : Nat, (((n : Int) == 0) : Bool) = decide (n = 0) := fun n => by by_cases h : n = 0 <;> simp [h]
  simp only [b0]
  refine ⟨fun k1 => ⟨fun h1 => ?_, fun h1 => ?_⟩, fun k1 => ⟨fun k2 => ⟨fun h1 => ⟨fun h2 => ?_, fun h2 => ?_⟩, fun h1 => ?_⟩, fun k2 => ⟨fun k3 => ⟨fun h1 => ?_, fun h1 => ?_⟩, fun k3 => ?_⟩⟩⟩
  all_goals
    first
      | (rw [if_pos (by assumption)])
      | (rw [if_neg (by assumption), if_pos (by assumption)])
      | (rw [if_neg (by assumption), if_neg (by assumption), if_pos (by assumption)])
      | (rw [if_neg (by assumption), if_neg (by assumption), if_neg (by assumption)])
  all_goals simp_all
theorem rPlain13_ok : SpecOk Tryz.prog rPlain13_n true (specOf true rPlain13_fs) :=
  spec_ok' TT_ok (show GsOk Tryz.prog rPlain13_g from gsOk_nil) (by kernel_rfl) mixedOrders Tryz.func21 rfl rfl (by kernel_rfl) (n := 1) (by decide +kernel) (I := rPlain13_IA) (fun _ _ => isOk_nil) (A := rPlain13_A)
    (fun args h r hr => by
      unfold rPlain13_fs at hr
      split at hr
      · rename_i c_k ty0 c_f ty1 c_p ty2 c_s ty3 c_y; cases hr; refine ⟨rfl, fun hp => ?_⟩; have hE := rPlain13_E ⟨c_k, c_f, c_p, c_s, c_y⟩ ty0 ty1 ty2 ty3 hp; exact hE
      · cases hr)
def rCheck13_E0 (I : Inst) (c : Cert) (ty0 ty1 ty2 ty3 ty4 ty5 : TypeId) : Prop :=
      True ∧
 ((rightF I != (0 : Int)) = true → (rightF I = checkF I c ∧ True) ∧ True) ∧
 ((rightF I != (0 : Int)) = false →
 True ∧
 ((!plainF { kind := c.kind, flow := c.flow, pot := c.pot, side := c.side, cycle := c.cycle : Cert }) = true → ((36 : Int) = checkF I c ∧ True) ∧ True) ∧
 ((!plainF { kind := c.kind, flow := c.flow, pot := c.pot, side := c.side, cycle := c.cycle : Cert }) = false →
 ((c.kind == (1 : Int)) = true →
 (I.sup.length ≤ (10000 : Nat) ∧ I.arcs.length ≤ (10000 : Nat) ∧ A64 c.flow ∧ A64 I.sup ∧ A64 c.pot ∧ A64c I.arcs) ∧
 (slackF I c.flow c.pot = checkF I c ∧ True) ∧ True) ∧
 ((c.kind == (1 : Int)) = false →
 ((c.kind == (2 : Int)) = true →
 (A64a I.arcs ∧ I.arcs.length ≤ (140737488351232 : Nat) ∧ A64 I.sup ∧ I.sup.length ≤ (140737488351232 : Nat)) ∧ (provesF I c.side = checkF I c ∧ True) ∧ True) ∧
 ((c.kind == (2 : Int)) = false →
 (I.sup.length ≤ (10000 : Nat) ∧ I.arcs.length ≤ (10000 : Nat) ∧ A64 c.flow ∧ A64 I.sup) ∧
 ((fitsF I c.flow != (0 : Int)) = true → (fitsF I c.flow = checkF I c ∧ True) ∧ True) ∧
 ((fitsF I c.flow != (0 : Int)) = false → (c.cycle.length ≤ (1000000 : Nat) ∧ A64c I.arcs) ∧ (turnsF I c.cycle = checkF I c ∧ True) ∧ True)))))
theorem rCheck13_q (I : Inst) (c : Cert) (ty0 ty1 ty2 ty3 ty4 ty5 : TypeId) : rCheck13_E0 I c ty0 ty1 ty2 ty3 ty4 ty5 = FVcP TT rCheck13_g (rCheck13_I I c) (rCheck13_an I c) Tryz.f20 [.agg [.row 0, .row 1], .agg [.int .i64 c.kind, .row 2, .row 3, .row 4, .row 5]] [(0, .row false ty0 (.ints .i64 I.sup)), (1, .row false ty1 (.arcs I.arcs)), (2, .row false ty2 (.ints .i64 c.flow)), (3, .row false ty3 (.ints .i64 c.pot)), (4, .row false ty4 (.bools c.side)), (5, .row false ty5 (.ints .i64 c.cycle))] (rCheck13_r I c) := by kernel_rfl
theorem rCheck13_E (I : Inst) (c : Cert) (ty0 ty1 ty2 ty3 ty4 ty5 : TypeId) (hp : CertOk c ∧ InstOk I ∧ c.cycle.length ≤ 1000000) : FVc TT rCheck13_g (rCheck13_I I c) (rCheck13_an I c) Tryz.f20 [.agg [.row 0, .row 1], .agg [.int .i64 c.kind, .row 2, .row 3, .row 4, .row 5]] [(0, .row false ty0 (.ints .i64 I.sup)), (1, .row false ty1 (.arcs I.arcs)), (2, .row false ty2 (.ints .i64 c.flow)), (3, .row false ty3 (.ints .i64 c.pot)), (4, .row false ty4 (.bools c.side)), (5, .row false ty5 (.ints .i64 c.cycle))] (rCheck13_r I c) := by
  refine FVc.of (rCheck13_E0 I c ty0 ty1 ty2 ty3 ty4 ty5) (rCheck13_q I c ty0 ty1 ty2 ty3 ty4 ty5) ?_
  unfold rCheck13_E0
  obtain ⟨c1, c2, c3, c4, c5, c6⟩ := hp.1
  obtain ⟨i1, i2, i3, i4, i5⟩ := hp.2.1
  have l1 := hp.2.2
  simp only [eq_self, exists_const, forall_const, decide_eq_true_eq, decide_eq_false_iff_not, and_true, true_and, bne_iff_ne, ne_eq, bne_eq_false_iff_eq, Int.toNat_natCast, Bool.not_eq_true', Bool.not_eq_false', beq_iff_eq, beq_eq_false_iff_ne, nilEq_true]
  refine ⟨fun h => by unfold checkF; rw [if_pos h], fun h => ⟨fun h2 => by unfold checkF; rw [if_neg (fun h5 => h5 h), if_pos h2], fun h2 => ?_⟩⟩
  have e0 : checkF I c = if c.kind = 1 then slackF I c.flow c.pot else if c.kind = 2 then provesF I c.side else if fitsF I c.flow ≠ 0 then fitsF I c.flow else turnsF I c.cycle := by
    unfold checkF; rw [if_neg (fun h5 => h5 h), if_neg (by rw [h2]; simp)]
  rw [e0]
  exact ⟨fun k1 => ⟨⟨i1, i2, c1, i3, c2, i5⟩, by rw [if_pos k1]⟩, fun k1 => ⟨fun k2 => ⟨⟨i4, by omega, i3, by omega⟩, by rw [if_neg k1, if_pos k2]⟩, fun k2 => ⟨⟨i1, i2, c1, i3⟩, fun f => by rw [if_neg k1, if_neg k2, if_pos f], fun f => ⟨⟨l1, i5⟩, by rw [if_neg k1, if_neg k2, if_neg (fun h5 => h5 f)]⟩⟩⟩⟩
theorem rCheck13_ok : SpecOk Tryz.prog rCheck13_n true (specOf true rCheck13_fs) :=
  spec_ok' TT_ok (show GsOk Tryz.prog rCheck13_g from gsOk_cons rRight_ok (gsOk_cons rPlain13_ok (gsOk_cons rSlack_ok (gsOk_cons rProves_ok (gsOk_cons rFits_ok (gsOk_cons rTurns_ok (gsOk_nil))))))) (by kernel_rfl) mixedOrders Tryz.func20 rfl rfl (by kernel_rfl) (n := 2) (by decide +kernel) (I := rCheck13_IA) (fun _ _ => isOk_nil) (A := rCheck13_A)
    (fun args h r hr => by
      unfold rCheck13_fs at hr
      split at hr
      · rename_i c_k ty0 I_s ty1 I_a ty2 c_f ty3 c_p ty4 c_s ty5 c_y; cases hr; refine ⟨rfl, fun hp => ?_⟩; have hE := rCheck13_E ⟨I_s, I_a⟩ ⟨c_k, c_f, c_p, c_s, c_y⟩ ty0 ty1 ty2 ty3 ty4 ty5 hp; exact hE
      · cases hr)
def rValueC_E0 (I : Inst) (c : Cert) (ty0 ty1 ty2 ty3 ty4 ty5 : TypeId) : Prop :=
      ((c.kind != (1 : Int)) = true → ((((0 : Int) = (valueW I c).hi ∧ (0 : Int) = (valueW I c).lo ∧ True) ∧ false = decide (c.kind = (1 : Int)) ∧ True) ∧ True) ∧ True) ∧
 ((c.kind != (1 : Int)) = false →
 (A64 c.flow ∧ A64c I.arcs ∧ I.arcs.length ≤ (1000000 : Nat)) ∧
 ((((W (costF I c.flow)).hi = (valueW I c).hi ∧ (W (costF I c.flow)).lo = (valueW I c).lo ∧ True) ∧ true = decide (c.kind = (1 : Int)) ∧ True) ∧ True) ∧ True)
theorem rValueC_q (I : Inst) (c : Cert) (ty0 ty1 ty2 ty3 ty4 ty5 : TypeId) : rValueC_E0 I c ty0 ty1 ty2 ty3 ty4 ty5 = FVcP TT rValueC_g (rValueC_I I c) (rValueC_an I c) Tryz.f19 [.agg [.row 0, .row 1], .agg [.int .i64 c.kind, .row 2, .row 3, .row 4, .row 5]] [(0, .row false ty0 (.ints .i64 I.sup)), (1, .row false ty1 (.arcs I.arcs)), (2, .row false ty2 (.ints .i64 c.flow)), (3, .row false ty3 (.ints .i64 c.pot)), (4, .row false ty4 (.bools c.side)), (5, .row false ty5 (.ints .i64 c.cycle))] (rValueC_r I c) := by kernel_rfl
theorem rValueC_E (I : Inst) (c : Cert) (ty0 ty1 ty2 ty3 ty4 ty5 : TypeId) (hp : CertOk c ∧ InstOk I) : FVc TT rValueC_g (rValueC_I I c) (rValueC_an I c) Tryz.f19 [.agg [.row 0, .row 1], .agg [.int .i64 c.kind, .row 2, .row 3, .row 4, .row 5]] [(0, .row false ty0 (.ints .i64 I.sup)), (1, .row false ty1 (.arcs I.arcs)), (2, .row false ty2 (.ints .i64 c.flow)), (3, .row false ty3 (.ints .i64 c.pot)), (4, .row false ty4 (.bools c.side)), (5, .row false ty5 (.ints .i64 c.cycle))] (rValueC_r I c) := by
  refine FVc.of (rValueC_E0 I c ty0 ty1 ty2 ty3 ty4 ty5) (rValueC_q I c ty0 ty1 ty2 ty3 ty4 ty5) ?_
  unfold rValueC_E0
  obtain ⟨c1, c2, c3, c4, c5, c6⟩ := hp.1
  obtain ⟨i1, i2, i3, i4, i5⟩ := hp.2
  simp only [eq_self, exists_const, forall_const, decide_eq_true_eq, decide_eq_false_iff_not, and_true, true_and, bne_iff_ne, ne_eq, bne_eq_false_iff_eq, Int.toNat_natCast, Bool.not_eq_true', Bool.not_eq_false', beq_iff_eq, beq_eq_false_iff_ne, nilEq_true]
  unfold valueW
  refine ⟨fun h => by rw [if_neg h]; exact ⟨⟨rfl, rfl⟩, (decide_eq_false h).symm⟩, fun h => ⟨⟨c1, i5, by omega⟩, by rw [if_pos h]; exact ⟨⟨rfl, rfl⟩, (decide_eq_true h).symm⟩⟩⟩
theorem rValueC_ok : SpecOk Tryz.prog rValueC_n true (specOf true rValueC_fs) :=
  spec_ok' TT_ok (show GsOk Tryz.prog rValueC_g from gsOk_cons rCost_ok (gsOk_nil)) (by kernel_rfl) mixedOrders Tryz.func19 rfl rfl (by kernel_rfl) (n := 2) (by decide +kernel) (I := rValueC_IA) (fun _ _ => isOk_nil) (A := rValueC_A)
    (fun args h r hr => by
      unfold rValueC_fs at hr
      split at hr
      · rename_i c_k ty0 I_s ty1 I_a ty2 c_f ty3 c_p ty4 c_s ty5 c_y; cases hr; refine ⟨rfl, fun hp => ?_⟩; have hE := rValueC_E ⟨I_s, I_a⟩ ⟨c_k, c_f, c_p, c_s, c_y⟩ ty0 ty1 ty2 ty3 ty4 ty5 hp; exact hE
      · cases hr)
theorem checkF_small (I : Inst) (c : Cert) : 0 ≤ checkF I c ∧ checkF I c ≤ 65535 := by
  have h1 := rightF_small' I
  have h2 := slackF_small I c.flow c.pot
  have h3 := provesF_small I c.side
  have h4 := fitsF_small I c.flow
  have h5 := turnsF_small I c.cycle
  unfold checkF
  (repeat' split) <;> omega
abbrev asks13_a0 (I : Inst) (c : Cert) := (valueW I { kind := c.kind, flow := c.flow, pot := c.pot, side := c.side, cycle := c.cycle : Cert })
abbrev asks13_a1 (I : Inst) (c : Cert) := (IntKind.i64.wrap (checkF I { kind := c.kind, flow := c.flow, pot := c.pot, side := c.side, cycle := c.cycle : Cert }) ==
 checkF I { kind := c.kind, flow := c.flow, pot := c.pot, side := c.side, cycle := c.cycle : Cert })
abbrev asks13_a2 (c : Cert) := (plainF { kind := c.kind, flow := c.flow, pot := c.pot, side := c.side, cycle := c.cycle : Cert } ==
 plainF { kind := c.kind, flow := c.flow, pot := c.pot, side := c.side, cycle := c.cycle : Cert })
abbrev asks13_a3 (c : Cert) (I : Inst) := (CertOk { kind := c.kind, flow := c.flow, pot := c.pot, side := c.side, cycle := c.cycle : Cert } ∧ InstOk I)
abbrev asks13_a4 (c : Cert) := (c.flow.length ≤ (1000000000 : Nat) ∧ c.pot.length ≤ (1000000000 : Nat) ∧ c.side.length ≤ (1000000000 : Nat) ∧ c.cycle.length ≤ (1000000000 : Nat))
def asks13_E0 (I : Inst) (c : Cert) (ty0 ty1 ty2 ty3 ty4 ty5 : TypeId) : Prop :=
      (asks13_a3 c I) ∧
 (asks13_a3 c I) ∧
 (asks13_a3 c I) ∧
 (CertOk { kind := c.kind, flow := c.flow, pot := c.pot, side := c.side, cycle := c.cycle : Cert } ∧ InstOk I ∧ c.cycle.length ≤ (1000000 : Nat)) ∧
 ((asks13_a1 I c) =
 true →
 (decide
 ([(asks13_a0 I c).hi,
 (asks13_a0 I c).lo] =
 [(asks13_a0 I c).hi,
 (asks13_a0 I c).lo]) =
 true →
 ((decide (c.kind = (1 : Int)) == decide (c.kind = (1 : Int))) = true →
 True ∧
 True ∧
 ((asks13_a2 c) =
 true →
 (asks13_a4 c) ∧
 (asks13_a4 c) ∧
 (decide
 ({ kind := c.kind, flow := c.flow, pot := c.pot, side := c.side, cycle := c.cycle : Cert } =
 { kind := c.kind, flow := c.flow, pot := c.pot, side := c.side, cycle := c.cycle : Cert }) =
 true ∧
 True) ∧
 True) ∧
 ((asks13_a2 c) =
 false →
 (false = true ∧ True) ∧ True)) ∧
 ((decide (c.kind = (1 : Int)) == decide (c.kind = (1 : Int))) = false → (false = true ∧ True) ∧ True)) ∧
 (decide
 ([(asks13_a0 I c).hi,
 (asks13_a0 I c).lo] =
 [(asks13_a0 I c).hi,
 (asks13_a0 I c).lo]) =
 false →
 (false = true ∧ True) ∧ True)) ∧
 ((asks13_a1 I c) =
 false →
 (false = true ∧ True) ∧ True)
theorem asks13_q (I : Inst) (c : Cert) (ty0 ty1 ty2 ty3 ty4 ty5 : TypeId) : asks13_E0 I c ty0 ty1 ty2 ty3 ty4 ty5 = FVcP TT asks13_g (asks13_I I c) (asks13_an I c) Tryz.f11 [.agg [.row 0, .row 1], .agg [.int .i64 c.kind, .row 2, .row 3, .row 4, .row 5]] [(0, .row false ty0 (.ints .i64 I.sup)), (1, .row false ty1 (.arcs I.arcs)), (2, .row false ty2 (.ints .i64 c.flow)), (3, .row false ty3 (.ints .i64 c.pot)), (4, .row false ty4 (.bools c.side)), (5, .row false ty5 (.ints .i64 c.cycle))] (asks13_r I c) := by kernel_rfl
theorem asks13_E (I : Inst) (c : Cert) (ty0 ty1 ty2 ty3 ty4 ty5 : TypeId) (hp : CertOk c ∧ InstOk I ∧ c.flow.length ≤ 1000000 ∧ c.pot.length ≤ 1000000 ∧ c.side.length ≤ 1000000 ∧ c.cycle.length ≤ 1000000) : FVc TT asks13_g (asks13_I I c) (asks13_an I c) Tryz.f11 [.agg [.row 0, .row 1], .agg [.int .i64 c.kind, .row 2, .row 3, .row 4, .row 5]] [(0, .row false ty0 (.ints .i64 I.sup)), (1, .row false ty1 (.arcs I.arcs)), (2, .row false ty2 (.ints .i64 c.flow)), (3, .row false ty3 (.ints .i64 c.pot)), (4, .row false ty4 (.bools c.side)), (5, .row false ty5 (.ints .i64 c.cycle))] (asks13_r I c) := by
  refine FVc.of (asks13_E0 I c ty0 ty1 ty2 ty3 ty4 ty5) (asks13_q I c ty0 ty1 ty2 ty3 ty4 ty5) ?_
  unfold asks13_E0
  delta asks13_a4 asks13_a3 asks13_a2 asks13_a1 asks13_a0
  obtain ⟨hc, hi, l1, l2, l3, l4⟩ := hp
  have hc' : CertOk ⟨c.kind, c.flow, c.pot, c.side, c.cycle⟩ := hc
  have hw : IntKind.i64.wrap (checkF I ⟨c.kind, c.flow, c.pot, c.side, c.cycle⟩) = checkF I ⟨c.kind, c.flow, c.pot, c.side, c.cycle⟩ := by
    have := checkF_small I ⟨c.kind, c.flow, c.pot, c.side, c.cycle⟩
    exact w64 (by omega) (by omega)
  have n1 : c.flow.length ≤ 1000000000 := by omega
  have n2 : c.pot.length ≤ 1000000000 := by omega
  have n3 : c.side.length ≤ 1000000000 := by omega
  have n4 : c.cycle.length ≤ 1000000000 := by omega
  rw [hw]
  simp [hc, hi, l4, n1, n2, n3, n4]
theorem asks13_ok : SpecOk Tryz.prog asks13_n true (specOf true asks13_fs) :=
  spec_ok' TT_ok (show GsOk Tryz.prog asks13_g from gsOk_cons ValueC_ok (gsOk_cons rValueC_ok (gsOk_cons Check_ok (gsOk_cons rCheck13_ok (gsOk_cons Plain13_ok (gsOk_cons rPlain13_ok (gsOk_cons rSameC_ok (gsOk_cons CopyC_ok (gsOk_nil))))))))) (by kernel_rfl) mixedOrders Tryz.func11 rfl rfl (by kernel_rfl) (n := 2) (by decide +kernel) (I := asks13_IA) (fun _ _ => isOk_nil) (A := asks13_A)
    (fun args h r hr => by
      unfold asks13_fs at hr
      split at hr
      · rename_i c_k ty0 I_s ty1 I_a ty2 c_f ty3 c_p ty4 c_s ty5 c_y; cases hr; refine ⟨rfl, fun hp => ?_⟩; have hE := asks13_E ⟨I_s, I_a⟩ ⟨c_k, c_f, c_p, c_s, c_y⟩ ty0 ty1 ty2 ty3 ty4 ty5 hp; exact hE
      · cases hr)
def same13_E0 (c : Cert) (d : Cert) (ty0 ty1 ty2 ty3 ty4 ty5 ty6 ty7 : TypeId) : Prop :=
      (c.flow.length ≤ (1000000000 : Nat) ∧ c.pot.length ≤ (1000000000 : Nat) ∧ c.side.length ≤ (1000000000 : Nat) ∧ c.cycle.length ≤ (1000000000 : Nat)) ∧
 (c.flow.length ≤ (1000000000 : Nat) ∧ c.pot.length ≤ (1000000000 : Nat) ∧ c.side.length ≤ (1000000000 : Nat) ∧ c.cycle.length ≤ (1000000000 : Nat)) ∧
 ((decide
 ({ kind := c.kind, flow := c.flow, pot := c.pot, side := c.side, cycle := c.cycle : Cert } =
 { kind := d.kind, flow := d.flow, pot := d.pot, side := d.side, cycle := d.cycle : Cert }) ==
 decide
 ({ kind := c.kind, flow := c.flow, pot := c.pot, side := c.side, cycle := c.cycle : Cert } =
 { kind := d.kind, flow := d.flow, pot := d.pot, side := d.side, cycle := d.cycle : Cert })) =
 true ∧
 True) ∧
 True
theorem same13_q (c : Cert) (d : Cert) (ty0 ty1 ty2 ty3 ty4 ty5 ty6 ty7 : TypeId) : same13_E0 c d ty0 ty1 ty2 ty3 ty4 ty5 ty6 ty7 = FVcP TT same13_g (same13_I c d) (same13_an c d) Tryz.f12 [.agg [.int .i64 c.kind, .row 0, .row 1, .row 2, .row 3], .agg [.int .i64 d.kind, .row 4, .row 5, .row 6, .row 7]] [(0, .row false ty0 (.ints .i64 c.flow)), (1, .row false ty1 (.ints .i64 c.pot)), (2, .row false ty2 (.bools c.side)), (3, .row false ty3 (.ints .i64 c.cycle)), (4, .row false ty4 (.ints .i64 d.flow)), (5, .row false ty5 (.ints .i64 d.pot)), (6, .row false ty6 (.bools d.side)), (7, .row false ty7 (.ints .i64 d.cycle))] (same13_r c d) := by kernel_rfl
theorem same13_E (c : Cert) (d : Cert) (ty0 ty1 ty2 ty3 ty4 ty5 ty6 ty7 : TypeId) (hp : c.flow.length ≤ 1000000 ∧ c.pot.length ≤ 1000000 ∧ c.side.length ≤ 1000000 ∧ c.cycle.length ≤ 1000000) : FVc TT same13_g (same13_I c d) (same13_an c d) Tryz.f12 [.agg [.int .i64 c.kind, .row 0, .row 1, .row 2, .row 3], .agg [.int .i64 d.kind, .row 4, .row 5, .row 6, .row 7]] [(0, .row false ty0 (.ints .i64 c.flow)), (1, .row false ty1 (.ints .i64 c.pot)), (2, .row false ty2 (.bools c.side)), (3, .row false ty3 (.ints .i64 c.cycle)), (4, .row false ty4 (.ints .i64 d.flow)), (5, .row false ty5 (.ints .i64 d.pot)), (6, .row false ty6 (.bools d.side)), (7, .row false ty7 (.ints .i64 d.cycle))] (same13_r c d) := by
  refine FVc.of (same13_E0 c d ty0 ty1 ty2 ty3 ty4 ty5 ty6 ty7) (same13_q c d ty0 ty1 ty2 ty3 ty4 ty5 ty6 ty7) ?_
  unfold same13_E0
  simp only [eq_self, exists_const, forall_const, decide_eq_true_eq, decide_eq_false_iff_not, and_true, true_and, bne_iff_ne, ne_eq, bne_eq_false_iff_eq, Int.toNat_natCast, Bool.not_eq_true', Bool.not_eq_false', beq_iff_eq, beq_eq_false_iff_ne, nilEq_true]
  obtain ⟨l1, l2, l3, l4⟩ := hp
  have n1 : c.flow.length ≤ 1000000000 := by omega
  have n2 : c.pot.length ≤ 1000000000 := by omega
  have n3 : c.side.length ≤ 1000000000 := by omega
  have n4 : c.cycle.length ≤ 1000000000 := by omega
  simp [n1, n2, n3, n4]
theorem same13_ok : SpecOk Tryz.prog same13_n true (specOf true same13_fs) :=
  spec_ok' TT_ok (show GsOk Tryz.prog same13_g from gsOk_cons SameC_ok (gsOk_cons rSameC_ok (gsOk_nil))) (by kernel_rfl) mixedOrders Tryz.func12 rfl rfl (by kernel_rfl) (n := 2) (by decide +kernel) (I := same13_IA) (fun _ _ => isOk_nil) (A := same13_A)
    (fun args h r hr => by
      unfold same13_fs at hr
      split at hr
      · rename_i c_k d_k ty0 c_f ty1 c_p ty2 c_s ty3 c_y ty4 d_f ty5 d_p ty6 d_s ty7 d_y; cases hr; refine ⟨rfl, fun hp => ?_⟩; have hE := same13_E ⟨c_k, c_f, c_p, c_s, c_y⟩ ⟨d_k, d_f, d_p, d_s, d_y⟩ ty0 ty1 ty2 ty3 ty4 ty5 ty6 ty7 hp; exact hE
      · cases hr)
theorem certF_ok {I : Inst} {k : Int} {d e : List Int} (hr : rightF I = 0) (hF : A64 (flowF I d)) : CertOk (certF I k d e) ∧ (certF I k d e).flow.length ≤ 1000000 ∧ (certF I k d e).pot.length ≤ 1000000 ∧ (certF I k d e).side.length ≤ 1000000 ∧ (certF I k d e).cycle.length ≤ 1000000 := by
  have hrs := right_small hr
  have hFl := flowF_len I d
  have hpl := cpot_len e I.sup.length
  have hpa := cpot_A64 e I.sup.length
  have hwl := wholeF_len e I.sup.length
  have hp1 : ∀ p : List Int, A64 p → A64 (p ++ [1]) := fun p hp y hy => by
    rcases List.mem_append.1 hy with h | h
    · exact hp y h
    · simp at h; subst h; unfold I64; omega
  have base : CertOk (certK I k d e) ∧ (certK I k d e).flow.length ≤ 1000 ∧ (certK I k d e).pot.length ≤ 1000 ∧ (certK I k d e).side.length ≤ 1000 ∧ (certK I k d e).cycle.length ≤ 1000 := by
    have nil : A64 ([] : List Int) := fun y hy => by simp at hy
    have hcl : ((e.take 4).map fun x => x % ((I.arcs.length : Int) + 1)).length ≤ 4 := by simp; omega
    unfold certK
    split
    · exact ⟨⟨hF, hpa, by dsimp only; omega, by dsimp only; omega, by simp, by simp⟩, by dsimp only; omega, by dsimp only; omega, by simp, by simp⟩
    · split
      · exact ⟨⟨nil, nil, by simp, by simp, by dsimp only; omega, by simp⟩, by simp, by simp, by dsimp only; omega, by simp⟩
      · exact ⟨⟨hF, nil, by dsimp only; omega, by simp, by simp, by dsimp only; omega⟩, by dsimp only; omega, by simp, by simp, by dsimp only; omega⟩
  obtain ⟨⟨a1, a2, a3, a4, a5, a6⟩, l1, l2, l3, l4⟩ := base
  unfold certF
  dsimp only
  split
  · refine ⟨⟨a1, a2, a3, a4, ?_, a6⟩, by dsimp only; omega, by dsimp only; omega, ?_, by dsimp only; omega⟩ <;> (dsimp only; rw [List.length_append, List.length_singleton]; omega)
  · split
    · refine ⟨⟨a1, hp1 _ a2, a3, ?_, a5, a6⟩, by dsimp only; omega, ?_, by dsimp only; omega, by dsimp only; omega⟩ <;> (dsimp only; rw [List.length_append, List.length_singleton]; omega)
    · split
      · exact ⟨⟨a1, a2, a3, a4, a5, a6⟩, by dsimp only; omega, by dsimp only; omega, by dsimp only; omega, by dsimp only; omega⟩
      · exact ⟨⟨a1, a2, a3, a4, a5, a6⟩, by omega, by omega, by omega, by omega⟩
abbrev CertAsks_a0 := (true = false → (false = true ∧ True) ∧ True)
abbrev CertAsks_a1 (a : List Int) (d : List Int) (k : Int) (e : List Int) := ((certF (instF a d) k d e).flow.length ≤ (1000000 : Nat) ∧
 (certF (instF a d) k d e).pot.length ≤ (1000000 : Nat) ∧
 (certF (instF a d) k d e).side.length ≤ (1000000 : Nat) ∧
 (certF (instF a d) k d e).cycle.length ≤ (1000000 : Nat))
def CertAsks_E0 (I : Inst) (c : Cert) (a : List Int) (d : List Int) (e : List Int) (k : Int) (ty0 ty1 ty2 ty3 ty4 ty5 ty6 ty7 ty8 : TypeId) : Prop :=
      (I.sup.length ≤ (1000000000000000000 : Nat) ∧ I.arcs.length ≤ (1000000000000000000 : Nat)) ∧
 (decide ((↑I.sup.length : Int) + (2 : Int) * (↑I.arcs.length : Int) > (120 : Int)) = true → True ∧ (true = true ∧ True) ∧ True) ∧
 (decide ((↑I.sup.length : Int) + (2 : Int) * (↑I.arcs.length : Int) > (120 : Int)) = false →
 CertOk { kind := c.kind, flow := c.flow, pot := c.pot, side := c.side, cycle := c.cycle : Cert } ∧
 (decide ((↑c.flow.length : Int) + (↑c.pot.length : Int) + (↑c.side.length : Int) + (↑c.cycle.length : Int) > (300 : Int)) = true → True ∧ (true = true ∧ True) ∧ True) ∧
 (decide ((↑c.flow.length : Int) + (↑c.pot.length : Int) + (↑c.side.length : Int) + (↑c.cycle.length : Int) > (300 : Int)) = false →
 True ∧
 ((!true) = true → True ∧ (true = true ∧ True) ∧ True) ∧
 ((!true) = false →
 (Bytes a ∧ Bytes d ∧ a.length ≤ maxLen ∧ d.length ≤ maxLen) ∧
 ((0 : Int) ≤ k ∧
 k ≤ (255 : Int) ∧
 (instF a d).sup.length ≤ (1000 : Nat) ∧ (instF a d).arcs.length ≤ (1000 : Nat) ∧ L42 (instF a d).arcs ∧ Bytes d ∧ Bytes e ∧ e.length ≤ maxLen) ∧
 ((0 : Int) ≤ (0 : Int) ∧
 (0 : Int) ≤ (255 : Int) ∧
 (instF a d).sup.length ≤ (1000 : Nat) ∧ (instF a d).arcs.length ≤ (1000 : Nat) ∧ L42 (instF a d).arcs ∧ Bytes d ∧ Bytes e ∧ e.length ≤ maxLen) ∧
 (Bytes a ∧ Bytes d ∧ a.length ≤ maxLen ∧ d.length ≤ maxLen) ∧
 (Bytes d ∧ (roundI a d).arcs.length ≤ (1000000 : Nat) ∧ L42 (roundI a d).arcs) ∧
 (CertOk { kind := c.kind, flow := c.flow, pot := c.pot, side := c.side, cycle := c.cycle : Cert } ∧
 InstOk I ∧ c.flow.length ≤ (1000000 : Nat) ∧ c.pot.length ≤ (1000000 : Nat) ∧ c.side.length ≤ (1000000 : Nat) ∧ c.cycle.length ≤ (1000000 : Nat)) ∧
 (true = true →
 (CertOk { kind := c.kind, flow := c.flow, pot := c.pot, side := c.side, cycle := c.cycle : Cert } ∧
 InstOk (instF a d) ∧
 c.flow.length ≤ (1000000 : Nat) ∧ c.pot.length ≤ (1000000 : Nat) ∧ c.side.length ≤ (1000000 : Nat) ∧ c.cycle.length ≤ (1000000 : Nat)) ∧
 (true = true →
 (CertOk
 { kind := (certF (instF a d) k d e).kind, flow := (certF (instF a d) k d e).flow, pot := (certF (instF a d) k d e).pot, side := (certF (instF a d) k d e).side, cycle := (certF (instF a d) k d e).cycle : Cert } ∧
 InstOk (instF a d) ∧
 (certF (instF a d) k d e).flow.length ≤ (1000000 : Nat) ∧
 (certF (instF a d) k d e).pot.length ≤ (1000000 : Nat) ∧
 (certF (instF a d) k d e).side.length ≤ (1000000 : Nat) ∧ (certF (instF a d) k d e).cycle.length ≤ (1000000 : Nat)) ∧
 (true = true →
 (CertOk
 { kind := (certF (instF a d) (0 : Int) d e).kind, flow := (certF (instF a d) (0 : Int) d e).flow, pot := (certF (instF a d) (0 : Int) d e).pot, side := (certF (instF a d) (0 : Int) d e).side, cycle := (certF (instF a d) (0 : Int) d e).cycle : Cert } ∧
 InstOk (instF a d) ∧
 (certF (instF a d) (0 : Int) d e).flow.length ≤ (1000000 : Nat) ∧
 (certF (instF a d) (0 : Int) d e).pot.length ≤ (1000000 : Nat) ∧
 (certF (instF a d) (0 : Int) d e).side.length ≤ (1000000 : Nat) ∧
 (certF (instF a d) (0 : Int) d e).cycle.length ≤ (1000000 : Nat)) ∧
 (true = true →
 (CertOk { kind := (3 : Int), flow := flowF (roundI a d) d, pot := [], side := [], cycle := roundL a d : Cert } ∧
 InstOk (roundI a d) ∧
 (flowF (roundI a d) d).length ≤ (1000000 : Nat) ∧
 (0 : Nat) ≤ (1000000 : Nat) ∧ (0 : Nat) ≤ (1000000 : Nat) ∧ (roundL a d).length ≤ (1000000 : Nat)) ∧
 (true = true →
 (c.flow.length ≤ (1000000 : Nat) ∧
 c.pot.length ≤ (1000000 : Nat) ∧ c.side.length ≤ (1000000 : Nat) ∧ c.cycle.length ≤ (1000000 : Nat)) ∧
 (true = true →
 (CertAsks_a1 a d k e) ∧
 (true = true →
 (CertAsks_a1 a d k e) ∧
 (true = true →
 (c.flow.length ≤ (1000000 : Nat) ∧
 c.pot.length ≤ (1000000 : Nat) ∧
 c.side.length ≤ (1000000 : Nat) ∧ c.cycle.length ≤ (1000000 : Nat)) ∧
 (true = true ∧ True) ∧ True) ∧
 (CertAsks_a0)) ∧
 (CertAsks_a0)) ∧
 (CertAsks_a0)) ∧
 (CertAsks_a0)) ∧
 (CertAsks_a0)) ∧
 (CertAsks_a0)) ∧
 (CertAsks_a0)) ∧
 (CertAsks_a0))))
theorem CertAsks_q (I : Inst) (c : Cert) (a : List Int) (d : List Int) (e : List Int) (k : Int) (ty0 ty1 ty2 ty3 ty4 ty5 ty6 ty7 ty8 : TypeId) : CertAsks_E0 I c a d e k ty0 ty1 ty2 ty3 ty4 ty5 ty6 ty7 ty8 = FVcP TT CertAsks_g (CertAsks_I I c a d e k) (CertAsks_an I c a d e k) Tryz.f3 [.agg [.row 0, .row 1], .agg [.int .i64 c.kind, .row 2, .row 3, .row 4, .row 5], .row 6, .row 7, .row 8, .int .u8 k] [(0, .row false ty0 (.ints .i64 I.sup)), (1, .row false ty1 (.arcs I.arcs)), (2, .row false ty2 (.ints .i64 c.flow)), (3, .row false ty3 (.ints .i64 c.pot)), (4, .row false ty4 (.bools c.side)), (5, .row false ty5 (.ints .i64 c.cycle)), (6, .row false ty6 (.ints .u8 a)), (7, .row false ty7 (.ints .u8 d)), (8, .row false ty8 (.ints .u8 e))] (CertAsks_r I c a d e k) := by kernel_rfl
theorem CertAsks_E (I : Inst) (c : Cert) (a : List Int) (d : List Int) (e : List Int) (k : Int) (ty0 ty1 ty2 ty3 ty4 ty5 ty6 ty7 ty8 : TypeId) (hp : CertOk c ∧ A64 I.sup ∧ A64a I.arcs ∧ A64c I.arcs ∧ I.sup.length ≤ 140737488351232 ∧ I.arcs.length ≤ 140737488351232 ∧ Bytes a ∧ Bytes d ∧ Bytes e ∧ a.length ≤ maxLen ∧ d.length ≤ maxLen ∧ e.length ≤ maxLen ∧ 0 ≤ k ∧ k ≤ 255) : FVc TT CertAsks_g (CertAsks_I I c a d e k) (CertAsks_an I c a d e k) Tryz.f3 [.agg [.row 0, .row 1], .agg [.int .i64 c.kind, .row 2, .row 3, .row 4, .row 5], .row 6, .row 7, .row 8, .int .u8 k] [(0, .row false ty0 (.ints .i64 I.sup)), (1, .row false ty1 (.arcs I.arcs)), (2, .row false ty2 (.ints .i64 c.flow)), (3, .row false ty3 (.ints .i64 c.pot)), (4, .row false ty4 (.bools c.side)), (5, .row false ty5 (.ints .i64 c.cycle)), (6, .row false ty6 (.ints .u8 a)), (7, .row false ty7 (.ints .u8 d)), (8, .row false ty8 (.ints .u8 e))] (CertAsks_r I c a d e k) := by
  refine FVc.of (CertAsks_E0 I c a d e k ty0 ty1 ty2 ty3 ty4 ty5 ty6 ty7 ty8) (CertAsks_q I c a d e k ty0 ty1 ty2 ty3 ty4 ty5 ty6 ty7 ty8) ?_
  unfold CertAsks_E0
  delta CertAsks_a1 CertAsks_a0
  obtain ⟨hc, i1, i2, i3, i4, i5, b1, b2, b3, b4, b5, b6, k0, k1⟩ := hp
  have hr := instF_right a d
  have hrs := right_small hr
  have hio := instOk_of hr
  obtain ⟨-, -, -, hL⟩ := right_A64 hr
  have hX := certF_ok (I := instF a d) (k := k) (d := d) (e := e) hr (flow_few (instF_nice a d) d).a64
  have hY := certF_ok (I := instF a d) (k := 0) (d := d) (e := e) hr (flow_few (instF_nice a d) d).a64
  have hr2 := roundI_right a d
  have hrs2 := right_small hr2
  have hio2 := instOk_of hr2
  obtain ⟨-, -, -, hL2⟩ := right_A64 hr2
  have hF2 := flowF_len (roundI a d) d
  have hA2 := roundI_A64 a d d
  have hLl := roundL_le a d
  have hZ : CertOk ⟨3, flowF (roundI a d) d, [], [], roundL a d⟩ := ⟨hA2, by simp [A64], by dsimp only; omega, by simp, by simp, by dsimp only; omega⟩
  have hc' : CertOk ⟨c.kind, c.flow, c.pot, c.side, c.cycle⟩ := hc
  simp only [eq_self, exists_const, forall_const, decide_eq_true_eq, decide_eq_false_iff_not, and_true, true_and, bne_iff_ne, ne_eq, bne_eq_false_iff_eq, Int.toNat_natCast, Bool.not_eq_true', Bool.not_eq_false', beq_iff_eq, beq_eq_false_iff_ne, nilEq_true]
  generalize certF (instF a d) k d e = X at *
  generalize certF (instF a d) 0 d e = Y at *
  generalize instF a d = J at *
  generalize roundI a d = R at *
  have hX' : CertOk ⟨X.kind, X.flow, X.pot, X.side, X.cycle⟩ := hX.1
  have hY' : CertOk ⟨Y.kind, Y.flow, Y.pot, Y.side, Y.cycle⟩ := hY.1
  refine ⟨by omega, fun _ => trivial, fun h1 => ⟨hc', fun _ => trivial, fun h2 => ?_⟩⟩
  have hI : InstOk I := ⟨by omega, by omega, i1, i2, i3⟩
  have m1 : c.flow.length ≤ 1000000 ∧ c.pot.length ≤ 1000000 ∧ c.side.length ≤ 1000000 ∧ c.cycle.length ≤ 1000000 := by omega
  have m2 := hX.2
  have m3 := hY.2
  have m4 : (flowF R d).length ≤ 1000000 ∧ (roundL a d).length ≤ 1000000 := by omega
  have n1 : J.sup.length ≤ 1000 := by omega
  have n2 : J.arcs.length ≤ 1000 := by omega
  have n3 : R.arcs.length ≤ 1000000 := by omega
  simp [b1, b2, b3, b4, b5, b6, k0, k1, hL, hL2, hc, hX.1, hY.1, hZ, hI, hio, hio2, m1, m2, m3, m4, n1, n2, n3]
theorem CertAsks_ok : SpecOk Tryz.prog CertAsks_n true (specOf true CertAsks_fs) :=
  spec_ok' TT_ok (show GsOk Tryz.prog CertAsks_g from gsOk_cons Size_ok (gsOk_cons LongC_ok (gsOk_cons known13_ok (gsOk_cons Inst_ok (gsOk_cons CertC_ok (gsOk_cons Round_ok (gsOk_cons Flow_ok (gsOk_cons asks13_ok (gsOk_cons same13_ok (gsOk_nil)))))))))) (by kernel_rfl) mixedOrders Tryz.func3 rfl rfl (by kernel_rfl) (n := 6) (by decide +kernel) (I := CertAsks_IA) (fun _ _ => isOk_nil) (A := CertAsks_A)
    (fun args h r hr => by
      unfold CertAsks_fs at hr
      split at hr
      · rename_i c_k k ty0 I_s ty1 I_a ty2 c_f ty3 c_p ty4 c_s ty5 c_y ty6 a ty7 d ty8 e; cases hr; refine ⟨rfl, fun hp => ?_⟩; have hE := CertAsks_E ⟨I_s, I_a⟩ ⟨c_k, c_f, c_p, c_s, c_y⟩ a d e k ty0 ty1 ty2 ty3 ty4 ty5 ty6 ty7 ty8 hp; exact hE
      · cases hr)
end Go.Proofs.YtahbkllfifmdfaaGreat
