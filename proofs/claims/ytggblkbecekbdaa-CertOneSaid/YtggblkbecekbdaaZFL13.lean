/- Part of the proof, FL13. -/
import Derived.Test.YtggblkbecekbdaaZFK13
import Derived.Test.YtggblkbecekbdaaZDL13
import Derived.Test.YtggblkbecekbdaaZVc11
set_option linter.unusedVariables false
set_option linter.all false
set_option linter.unusedSimpArgs false
set_option maxRecDepth 100000
namespace Go.Proofs.Ytggblkbecekbdaa
open Go Go.RowKit Go.Ql Go.Vc
theorem instOk_of {I : Inst} (h : rightF I = 0) : InstOk I := by
  obtain ⟨a1, a2, a3, a4⟩ := right_A64 h
  have := right_small h
  exact ⟨by omega, by omega, a3, a1, a2⟩
theorem cpot_len (e : List Int) (n : Nat) : (potF e n).length = n := by simp [potF]
theorem cpot_A64 (e : List Int) (n : Nat) : A64 (potF e n) := fun p hp => by
  unfold potF at hp
  rw [List.mem_map] at hp
  obtain ⟨k, _, rfl⟩ := hp
  unfold potE I64
  split <;> omega
theorem whole_eq (e : List Int) (n : Nat) : List.take n (marksF e n) ++ List.drop (marksF e n).length (List.replicate n false) = wholeF e n := by
  have h : (marksF e n).length ≤ n := by unfold marksF; simp; omega
  unfold wholeF
  rw [List.take_of_length_le h, List.drop_replicate]
def known13_E0 : Prop :=
      (CertOk { kind := (0 : Int), flow := [], pot := [], side := [], cycle := [] : Cert } ∧ InstOk { sup := [], arcs := [] : Inst }) ∧
 (CertOk { kind := (1 : Int), flow := [], pot := [], side := [], cycle := [] : Cert } ∧ InstOk { sup := [], arcs := [] : Inst }) ∧
 ((checkF { sup := [], arcs := [] : Inst } { kind := (1 : Int), flow := [], pot := [], side := [], cycle := [] : Cert } == (0 : Int)) = true →
 (CertOk { kind := (0 : Int), flow := [], pot := [], side := [], cycle := [] : Cert } ∧ InstOk { sup := [], arcs := [] : Inst }) ∧
 ((checkF { sup := [], arcs := [] : Inst } { kind := (0 : Int), flow := [], pot := [], side := [], cycle := [] : Cert } == (36 : Int)) = true →
 True ∧
 (plainF { kind := (2 : Int), flow := [], pot := [], side := [true], cycle := [] : Cert } = true →
 True ∧
 ((!plainF { kind := (2 : Int), flow := [], pot := [], side := [], cycle := [(1 : Int)] : Cert }) = true →
 ((!decide ((0 : Int) = (1 : Int))) = true ∧ True) ∧ True) ∧
 ((!plainF { kind := (2 : Int), flow := [], pot := [], side := [], cycle := [(1 : Int)] : Cert }) = false → (false = true ∧ True) ∧ True)) ∧
 (plainF { kind := (2 : Int), flow := [], pot := [], side := [true], cycle := [] : Cert } = false → (false = true ∧ True) ∧ True)) ∧
 ((checkF { sup := [], arcs := [] : Inst } { kind := (0 : Int), flow := [], pot := [], side := [], cycle := [] : Cert } == (36 : Int)) = false →
 (false = true ∧ True) ∧ True)) ∧
 ((checkF { sup := [], arcs := [] : Inst } { kind := (1 : Int), flow := [], pot := [], side := [], cycle := [] : Cert } == (0 : Int)) = false → (false = true ∧ True) ∧ True)
theorem known13_q : known13_E0 = FVcP TT known13_g (known13_I) (known13_an) Try.f12 [] [] (known13_r) := by kernel_rfl
theorem known13_E (hp : True) : FVc TT known13_g (known13_I) (known13_an) Try.f12 [] [] (known13_r) := by
  refine FVc.of (known13_E0) (known13_q) ?_
  unfold known13_E0
  simp only [eq_self, exists_const, forall_const, decide_eq_true_eq, decide_eq_false_iff_not, and_true, true_and, bne_iff_ne, ne_eq, bne_eq_false_iff_eq, Int.toNat_natCast, Bool.not_eq_true', Bool.not_eq_false', beq_iff_eq, beq_eq_false_iff_ne, nilEq_true]
  have k1 : checkF ⟨[], []⟩ ⟨1, [], [], [], []⟩ = 0 := by decide
  have k2 : checkF ⟨[], []⟩ ⟨0, [], [], [], []⟩ = 36 := by decide
  have k3 : plainF ⟨2, [], [], [true], []⟩ = true := by decide
  have k4 : plainF ⟨2, [], [], [], [1]⟩ = false := by decide
  have c0 : CertOk ⟨0, [], [], [], []⟩ := by simp [CertOk, A64]
  have c1 : CertOk ⟨1, [], [], [], []⟩ := by simp [CertOk, A64]
  have i0 : InstOk ⟨[], []⟩ := by simp [InstOk, A64, A64a, A64c]
  simp [k1, k2, k3, k4, c0, c1, i0]
theorem known13_ok : SpecOk Try.prog known13_n true (specOf true known13_fs) :=
  spec_ok' TT_ok (show GsOk Try.prog known13_g from gsOk_cons ValueC_ok (gsOk_cons Check_ok (gsOk_cons Plain13_ok (gsOk_nil)))) (by kernel_rfl) mixedOrders Try.func12 rfl rfl (by kernel_rfl) (n := 0) (by decide +kernel) (I := known13_IA) (fun _ _ => isOk_nil) (A := known13_A)
    (fun args h r hr => by
      unfold known13_fs at hr
      split at hr
      · cases hr; refine ⟨rfl, fun hp => ?_⟩; have hE := known13_E  hp; exact hE
      · cases hr)
def LongC_E0 (c : Cert) (ty0 ty1 ty2 ty3 : TypeId) : Prop :=
      (IntKind.i64.wrap (IntKind.i64.wrap (IntKind.i64.wrap ((↑c.flow.length : Int) + (↑c.pot.length : Int)) + (↑c.side.length : Int)) + (↑c.cycle.length : Int)) =
 (↑c.flow.length : Int) + (↑c.pot.length : Int) + (↑c.side.length : Int) + (↑c.cycle.length : Int) ∧
 True) ∧
 True
theorem LongC_q (c : Cert) (ty0 ty1 ty2 ty3 : TypeId) : LongC_E0 c ty0 ty1 ty2 ty3 = FVcP TT LongC_g (LongC_I c) (LongC_an c) Try.f11 [.agg [.int .i64 c.kind, .row 0, .row 1, .row 2, .row 3]] [(0, .row false ty0 (.ints .i64 c.flow)), (1, .row false ty1 (.ints .i64 c.pot)), (2, .row false ty2 (.bools c.side)), (3, .row false ty3 (.ints .i64 c.cycle))] (LongC_r c) := by kernel_rfl
theorem LongC_E (c : Cert) (ty0 ty1 ty2 ty3 : TypeId) (hp : CertOk c) : FVc TT LongC_g (LongC_I c) (LongC_an c) Try.f11 [.agg [.int .i64 c.kind, .row 0, .row 1, .row 2, .row 3]] [(0, .row false ty0 (.ints .i64 c.flow)), (1, .row false ty1 (.ints .i64 c.pot)), (2, .row false ty2 (.bools c.side)), (3, .row false ty3 (.ints .i64 c.cycle))] (LongC_r c) := by
  refine FVc.of (LongC_E0 c ty0 ty1 ty2 ty3) (LongC_q c ty0 ty1 ty2 ty3) ?_
  unfold LongC_E0
  obtain ⟨c1, c2, c3, c4, c5, c6⟩ := hp
  simp only [eq_self, exists_const, forall_const, decide_eq_true_eq, decide_eq_false_iff_not, and_true, true_and, bne_iff_ne, ne_eq, bne_eq_false_iff_eq, Int.toNat_natCast, Bool.not_eq_true', Bool.not_eq_false', beq_iff_eq, beq_eq_false_iff_ne, nilEq_true]
  rw [w64 (x := (c.flow.length : Int) + c.pot.length) (by omega) (by omega), w64 (x := (c.flow.length : Int) + c.pot.length + c.side.length) (by omega) (by omega), w64 (by omega) (by omega)]
theorem LongC_ok : SpecOk Try.prog LongC_n true (specOf true LongC_fs) :=
  spec_ok' TT_ok (show GsOk Try.prog LongC_g from gsOk_nil) (by kernel_rfl) mixedOrders Try.func11 rfl rfl (by kernel_rfl) (n := 1) (by decide +kernel) (I := LongC_IA) (fun _ _ => isOk_nil) (A := LongC_A)
    (fun args h r hr => by
      unfold LongC_fs at hr
      split at hr
      · rename_i c_k ty0 c_f ty1 c_p ty2 c_s ty3 c_y; cases hr; refine ⟨rfl, fun hp => ?_⟩; have hE := LongC_E ⟨c_k, c_f, c_p, c_s, c_y⟩ ty0 ty1 ty2 ty3 hp; exact hE
      · cases hr)
abbrev CertC_a0 (k : Int) := ((1 : Int) + IntKind.i64.wrap (k.tmod (3 : Int)))
abbrev CertC_a1 := ((0 : Int) = (0 : Int) ∧ True ∧ True ∧ True ∧ True ∧ True)
abbrev CertC_a2 (I : Inst) := (fun (x : Int) => x % ((↑I.arcs.length : Int) + (1 : Int)))
abbrev CertC_a3 (k : Int) (I : Inst) (d : List Int) (e : List Int) := (IntKind.i64.wrap (CertC_a0 k) = (certK I k d e).kind ∧ True ∧ True ∧ True ∧ True ∧ True)
abbrev CertC_a4 (k : Int) := (k = k ∧ (0 : Nat) = (0 : Nat) ∧ (0 : Nat) = (0 : Nat) ∧ True)
def CertC_E0 (I : Inst) (k : Int) (d : List Int) (e : List Int) (ty0 ty1 ty2 ty3 : TypeId) : Prop :=
      (3 : Int) ≠ (0 : Int) ∧
 (((IntKind.i64.wrap (CertC_a0 k) == (1 : Int)) = true →
 (Bytes d ∧ I.arcs.length ≤ (1000000 : Nat) ∧ L42 I.arcs) ∧
 (Bytes e ∧ e.length ≤ maxLen ∧ (0 : Int) ≤ (↑I.sup.length : Int) ∧ (↑I.sup.length : Int) ≤ (1000000 : Int)) ∧
 ∃ (g : Unit),
 True ∧
 (CertC_a4 k) ∧
 (CertC_a1) ∧
 (CertC_a3 k I d e) ∧
 nilEq Int ∧
 nilEq Int ∧
 nilEq Bool ∧
 nilEq Int ∧
 flowF I d = (certK I k d e).flow ∧
 potF e (↑I.sup.length : Int).toNat = (certK I k d e).pot ∧ [] = (certK I k d e).side ∧ [] = (certK I k d e).cycle ∧ True) ∧
 ((IntKind.i64.wrap (CertC_a0 k) == (1 : Int)) = false →
 ((IntKind.i64.wrap (CertC_a0 k) == (2 : Int)) = true →
 ((↑I.sup.length : Int) = (↑I.sup.length : Int) ∧ (0 : Int) ≤ (↑I.sup.length : Int) ∧ (↑I.sup.length : Int) ≤ (1000000000 : Int)) ∧
 (Bytes e ∧ (↑I.sup.length : Int) ≤ (1000000 : Int)) ∧
 ∃ (g : Unit),
 True ∧
 (CertC_a4 k) ∧
 (CertC_a1) ∧
 (CertC_a3 k I d e) ∧
 nilEq Int ∧
 nilEq Int ∧
 nilEq Bool ∧
 nilEq Int ∧
 [] = (certK I k d e).flow ∧
 [] = (certK I k d e).pot ∧
 List.take (List.replicate (↑I.sup.length : Int).toNat false).length (marksF e (↑I.sup.length : Int).toNat) ++
 List.drop (marksF e (↑I.sup.length : Int).toNat).length (List.replicate (↑I.sup.length : Int).toNat false) =
 (certK I k d e).side ∧
 [] = (certK I k d e).cycle ∧ True) ∧
 ((IntKind.i64.wrap (CertC_a0 k) == (2 : Int)) = false →
 (Bytes d ∧ I.arcs.length ≤ (1000000 : Nat) ∧ L42 I.arcs) ∧
 ∃ (g0 : Nat),
 ((g0 ≤ e.length ∧ g0 ≤ (4 : Nat)) ∧
 (k = k ∧ True ∧ (0 : Nat) = (0 : Nat) ∧ (0 : Nat) = (0 : Nat) ∧ (0 : Nat) = (0 : Nat) ∧ (0 : Int) = (↑g0 : Int) ∧ True) ∧
 flowF I d = flowF I d ∧
 (IntKind.i64.wrap (CertC_a0 k) = IntKind.i64.wrap (CertC_a0 k) ∧
 True ∧ True ∧ True ∧ True ∧ True) ∧
 nilEq Int ∧
 nilEq Bool ∧
 [] = List.map (CertC_a2 I) (List.take g0 e) ∧
 (CertC_a1) ∧
 nilEq Int ∧ nilEq Int ∧ nilEq Bool ∧ nilEq Int ∧ (True ∧ True ∧ True) ∧ I.sup = I.sup ∧ I.arcs = I.arcs ∧ e = e ∧ True) ∧
 ∀ (g : Nat),
 g ≤ e.length ∧ g ≤ (4 : Nat) →
 (decide ((↑g : Int) < (↑e.length : Int)) = true →
 (decide ((↑g : Int) < (4 : Int)) = true →
 ((0 : Int) ≤ (↑g : Int) ∧ (↑g : Int) < (↑e.length : Int)) ∧
 (↑g : Int).toNat < e.length ∧
 ∀ (x : Int),
 e[(↑g : Int).toNat]? = some x →
 IntKind.i64.wrap ((↑I.arcs.length : Int) + (1 : Int)) ≠ (0 : Int) ∧
 (List.map (CertC_a2 I) (List.take g e)).length + (1 : Nat) ≤ (1000000000 : Nat) ∧
 ∃ (g' : Nat),
 (g' ≤ e.length ∧ g' ≤ (4 : Nat)) ∧
 (4 : Nat) - g' < (4 : Nat) - g ∧
 (k = k ∧
 True ∧
 (0 : Nat) = (0 : Nat) ∧
 (0 : Nat) = (0 : Nat) ∧ (0 : Nat) = (0 : Nat) ∧ IntKind.i64.wrap ((↑g : Int) + (1 : Int)) = (↑g' : Int) ∧ True) ∧
 flowF I d = flowF I d ∧
 (IntKind.i64.wrap (CertC_a0 k) =
 IntKind.i64.wrap (CertC_a0 k) ∧
 True ∧ True ∧ True ∧ True ∧ True) ∧
 nilEq Int ∧
 nilEq Bool ∧
 List.map (CertC_a2 I) (List.take g e) ++
 [(IntKind.i64.wrap x).tmod (IntKind.i64.wrap ((↑I.arcs.length : Int) + (1 : Int)))] =
 List.map (CertC_a2 I) (List.take g' e) ∧
 (CertC_a1) ∧
 nilEq Int ∧
 nilEq Int ∧ nilEq Bool ∧ nilEq Int ∧ (True ∧ True ∧ True) ∧ I.sup = I.sup ∧ I.arcs = I.arcs ∧ e = e ∧ True) ∧
 (decide ((↑g : Int) < (4 : Int)) = false →
 ∃ (g_1 : Unit),
 True ∧
 (CertC_a4 k) ∧
 (CertC_a1) ∧
 (CertC_a3 k I d e) ∧
 nilEq Int ∧
 nilEq Int ∧
 nilEq Bool ∧
 nilEq Int ∧
 flowF I d = (certK I k d e).flow ∧
 [] = (certK I k d e).pot ∧
 [] = (certK I k d e).side ∧
 List.map (CertC_a2 I) (List.take g e) = (certK I k d e).cycle ∧ True)) ∧
 (decide ((↑g : Int) < (↑e.length : Int)) = false →
 ∃ (g_1 : Unit),
 True ∧
 (CertC_a4 k) ∧
 (CertC_a1) ∧
 (CertC_a3 k I d e) ∧
 nilEq Int ∧
 nilEq Int ∧
 nilEq Bool ∧
 nilEq Int ∧
 flowF I d = (certK I k d e).flow ∧
 [] = (certK I k d e).pot ∧
 [] = (certK I k d e).side ∧
 List.map (CertC_a2 I) (List.take g e) = (certK I k d e).cycle ∧ True)))) ∧
 ∀ (g : Unit),
 True →
 (3 : Int) ≠ (0 : Int) ∧
 (12 : Int) ≠ (0 : Int) ∧
 (((IntKind.u8.wrap (k.tdiv (3 : Int))).tmod (12 : Int) == (0 : Int)) = true →
 (certK I k d e).side.length + (1 : Nat) ≤ (1000000000 : Nat) ∧
 (((certK I k d e).kind = (certF I k d e).kind ∧ True ∧ True ∧ True ∧ True ∧ True) ∧ True) ∧
 (certK I k d e).flow = (certF I k d e).flow ∧
 (certK I k d e).pot = (certF I k d e).pot ∧ (certK I k d e).side ++ [true] = (certF I k d e).side ∧ (certK I k d e).cycle = (certF I k d e).cycle ∧ True) ∧
 (((IntKind.u8.wrap (k.tdiv (3 : Int))).tmod (12 : Int) == (0 : Int)) = false →
 (((IntKind.u8.wrap (k.tdiv (3 : Int))).tmod (12 : Int) == (1 : Int)) = true →
 (certK I k d e).pot.length + (1 : Nat) ≤ (1000000000 : Nat) ∧
 (((certK I k d e).kind = (certF I k d e).kind ∧ True ∧ True ∧ True ∧ True ∧ True) ∧ True) ∧
 (certK I k d e).flow = (certF I k d e).flow ∧
 (certK I k d e).pot ++ [(1 : Int)] = (certF I k d e).pot ∧
 (certK I k d e).side = (certF I k d e).side ∧ (certK I k d e).cycle = (certF I k d e).cycle ∧ True) ∧
 (((IntKind.u8.wrap (k.tdiv (3 : Int))).tmod (12 : Int) == (1 : Int)) = false →
 (((IntKind.u8.wrap (k.tdiv (3 : Int))).tmod (12 : Int) == (2 : Int)) = true →
 (36 : Int) ≠ (0 : Int) ∧
 ((IntKind.i64.wrap (IntKind.u8.wrap (k.tdiv (36 : Int))) = (certF I k d e).kind ∧ True ∧ True ∧ True ∧ True ∧ True) ∧ True) ∧
 (certK I k d e).flow = (certF I k d e).flow ∧
 (certK I k d e).pot = (certF I k d e).pot ∧ (certK I k d e).side = (certF I k d e).side ∧ (certK I k d e).cycle = (certF I k d e).cycle ∧ True) ∧
 (((IntKind.u8.wrap (k.tdiv (3 : Int))).tmod (12 : Int) == (2 : Int)) = false →
 (((certK I k d e).kind = (certF I k d e).kind ∧ True ∧ True ∧ True ∧ True ∧ True) ∧ True) ∧
 (certK I k d e).flow = (certF I k d e).flow ∧
 (certK I k d e).pot = (certF I k d e).pot ∧ (certK I k d e).side = (certF I k d e).side ∧ (certK I k d e).cycle = (certF I k d e).cycle ∧ True)))
theorem CertC_q (I : Inst) (k : Int) (d : List Int) (e : List Int) (ty0 ty1 ty2 ty3 : TypeId) : CertC_E0 I k d e ty0 ty1 ty2 ty3 = FVcP TT CertC_g (CertC_I I k d e) (CertC_an I k d e) Try.f13 [.agg [.row 0, .row 1], .int .u8 k, .row 2, .row 3] [(0, .row false ty0 (.ints .i64 I.sup)), (1, .row false ty1 (.arcs I.arcs)), (2, .row false ty2 (.ints .u8 d)), (3, .row false ty3 (.ints .u8 e))] (CertC_r I k d e) := by kernel_rfl
theorem CertC_E (I : Inst) (k : Int) (d : List Int) (e : List Int) (ty0 ty1 ty2 ty3 : TypeId) (hp : 0 ≤ k ∧ k ≤ 255 ∧ I.sup.length ≤ 1000 ∧ I.arcs.length ≤ 1000 ∧ L42 I.arcs ∧ Bytes d ∧ Bytes e ∧ e.length ≤ maxLen) : FVc TT CertC_g (CertC_I I k d e) (CertC_an I k d e) Try.f13 [.agg [.row 0, .row 1], .int .u8 k, .row 2, .row 3] [(0, .row false ty0 (.ints .i64 I.sup)), (1, .row false ty1 (.arcs I.arcs)), (2, .row false ty2 (.ints .u8 d)), (3, .row false ty3 (.ints .u8 e))] (CertC_r I k d e) := by
  refine FVc.of (CertC_E0 I k d e ty0 ty1 ty2 ty3) (CertC_q I k d e ty0 ty1 ty2 ty3) ?_
  unfold CertC_E0
  delta CertC_a4 CertC_a3 CertC_a2 CertC_a1 CertC_a0
  obtain ⟨k0, k1, n1, n2, hl, hd, he, hel⟩ := hp
  have km : k.tmod 3 = k % 3 := Int.tmod_eq_emod_of_nonneg k0
  have kd : k.tdiv 3 = k / 3 := tdiv_pos k0
  have kd2 : k.tdiv 36 = k / 36 := tdiv_pos k0
  have kw : IntKind.i64.wrap (1 + IntKind.i64.wrap (k % 3)) = 1 + k % 3 := by rw [w64 (x := k % 3) (by omega) (by omega), w64 (by omega) (by omega)]
  have ku : IntKind.u8.wrap (k / 3) = k / 3 := wu8 (by omega) (by omega)
  have ku2 : IntKind.i64.wrap (IntKind.u8.wrap (k / 36)) = k / 36 := by rw [wu8 (by omega) (by omega), w64 (by omega) (by omega)]
  have kt : (k / 3).tmod 12 = k / 3 % 12 := Int.tmod_eq_emod_of_nonneg (by omega)
  have hn : IntKind.i64.wrap ((I.arcs.length : Int) + 1) = (I.arcs.length : Int) + 1 := w64 (by omega) (by omega)
  simp only [km, kd, kd2, kw, ku, ku2, kt, hn]
  simp only [eq_self, exists_const, forall_const, decide_eq_true_eq, decide_eq_false_iff_not, and_true, true_and, bne_iff_ne, ne_eq, bne_eq_false_iff_eq, Int.toNat_natCast, Bool.not_eq_true', Bool.not_eq_false', beq_iff_eq, beq_eq_false_iff_ne, nilEq_true]
  simp only [List.length_replicate, whole_eq]
  have hw : ∀ g : Nat, g ≤ 10 → IntKind.i64.wrap ((g : Int) + 1) = ((g + 1 : Nat) : Int) := fun g hg => by rw [w64 (by omega) (by omega)]; omega
  have c0 : k % 3 = 0 → certK I k d e = ⟨1, flowF I d, potF e I.sup.length, [], []⟩ := fun h => by unfold certK; rw [if_pos h]
  have c1 : ¬ k % 3 = 0 → k % 3 = 1 → certK I k d e = ⟨2, [], [], wholeF e I.sup.length, []⟩ := fun h h2 => by unfold certK; rw [if_neg h, if_pos h2]
  have c2 : ¬ k % 3 = 0 → ¬ k % 3 = 1 → certK I k d e = ⟨3, flowF I d, [], [], (e.take 4).map fun x => x % ((I.arcs.length : Int) + 1)⟩ := fun h h2 => by unfold certK; rw [if_neg h, if_neg h2]
  have lens : (certK I k d e).side.length ≤ 1000 ∧ (certK I k d e).pot.length ≤ 1000 := by
    unfold certK
    split
    · simp [cpot_len]; omega
    · split
      · simp [wholeF_len]; omega
      · simp
  have three : ∀ g : Nat, g ≤ e.length ∧ g ≤ 4 → ¬ ((g : Int) < e.length ∧ (g : Int) < 4) → List.take g e = e.take 4 := fun g hg h => by
    by_cases h4 : g = 4
    · rw [h4]
    · rw [List.take_of_length_le (by omega), List.take_of_length_le (by omega)]
  refine ⟨by omega, ⟨fun h1 => ?_, fun h1 => ⟨fun h2 => ?_, fun h2 => ⟨⟨hd, by omega, hl⟩, 0, ⟨by omega, rfl, by simp⟩, fun g hg => ⟨fun l1 => ⟨fun l2 => ⟨by omega, by omega, fun x hx => ⟨by omega, ?_, g + 1, by omega, by omega, hw g (by omega), ?_⟩⟩, fun l2 => ?_⟩, fun l1 => ?_⟩⟩⟩⟩, by omega, by omega, ?_⟩
  · rw [c0 (by omega)]; exact ⟨⟨hd, by omega, hl⟩, ⟨he, hel, by omega, by omega⟩, by dsimp only; omega, rfl, rfl, rfl, rfl⟩
  · rw [c1 (by omega) (by omega)]; exact ⟨by omega, ⟨he, by omega⟩, by dsimp only; omega, rfl, rfl, rfl, rfl⟩
  · simp; omega
  · have hb := he x (List.mem_of_getElem? hx)
    rw [take_get hx, List.map_append, w64 (x := x) (by omega) (by omega), Int.tmod_eq_emod_of_nonneg hb.1]; rfl
  · rw [c2 (by omega) (by omega), three g hg (by omega)]; exact ⟨by dsimp only; omega, rfl, rfl, rfl, rfl⟩
  · rw [c2 (by omega) (by omega), three g hg (by omega)]; exact ⟨by dsimp only; omega, rfl, rfl, rfl, rfl⟩
  · unfold certF
    dsimp only
    refine ⟨fun h1 => ?_, fun h1 => ⟨fun h2 => ?_, fun h2 => ⟨fun h3 => ?_, fun h3 => ?_⟩⟩⟩
    · simp only [h1, if_true]; exact ⟨by omega, by simp, by simp, by simp, by simp, by simp⟩
    · simp only [h1, h2, if_true, if_false]; exact ⟨by omega, by simp, by simp, by simp, by simp, by simp⟩
    · simp only [h1, h2, h3, if_true, if_false]; exact ⟨by omega, by simp, by simp, by simp, by simp, by simp⟩
    · simp only [h1, h2, h3, if_false]; exact ⟨by simp, by simp, by simp, by simp, by simp⟩
theorem CertC_ok : SpecOk Try.prog CertC_n true (specOf true CertC_fs) :=
  spec_ok' TT_ok (show GsOk Try.prog CertC_g from gsOk_cons Flow_ok (gsOk_cons Pot_ok (gsOk_cons Marks_ok (gsOk_nil)))) (by kernel_rfl) mixedOrders Try.func13 rfl rfl (by kernel_rfl) (n := 4) (by decide +kernel) (I := CertC_IA) (fun _ _ => isOk_nil) (A := CertC_A)
    (fun args h r hr => by
      unfold CertC_fs at hr
      split at hr
      · rename_i k ty0 I_s ty1 I_a ty2 d ty3 e; cases hr; refine ⟨rfl, fun hp => ?_⟩; have hE := CertC_E ⟨I_s, I_a⟩ k d e ty0 ty1 ty2 ty3 hp; exact hE
      · cases hr)
end Go.Proofs.Ytggblkbecekbdaa
