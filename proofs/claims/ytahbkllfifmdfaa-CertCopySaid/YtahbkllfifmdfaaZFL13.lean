/- Part of the proof, FL13. -/
import Derived.Test.YtahbkllfifmdfaaZFK13
import Derived.Test.YtahbkllfifmdfaaZDL13
import Derived.Test.YtahbkllfifmdfaaZVc11
set_option linter.unusedVariables false
set_option linter.all false
set_option linter.unusedSimpArgs false
set_option maxRecDepth 100000
namespace Go.Proofs.Ytahbkllfifmdfaa
open Go Go.RowKit Go.Ql Go.Vc
theorem instOk_of {I : Inst} (h : rightF I = 0) : InstOk I := by
  obtain ⟨a1, a2, a3, a4⟩ := right_A64 h
  have := right_small h
  exact ⟨by omega, by omega, a3, a1, a2⟩
theorem cpot_len (e : List Int) (n : Nat) : (potF e n).length = n := by simp [potF]
theorem cpot_A64 (e : List Int) (n : Nat) : A64 (potF e n) := fun p hp => by
  unfold potF at hp
  rw [List.mem_map] at hp
  obtain ⟨k, _, rfl⟩ := hp
  unfold potE I64
  split <;> omega
theorem whole_eq (e : List Int) (n : Nat) : List.take n (marksF e n) ++ List.drop (marksF e n).length (List.replicate n false) = wholeF e n := by
  have h : (marksF e n).length ≤ n := by unfold marksF; simp; omega
  unfold wholeF
  rw [List.take_of_length_le h, List.drop_replicate]
def known13_E0 : Prop :=
      (CertOk { kind := (0 : Int), flow := [], pot := [], side := [], cycle := [] : Cert } ∧ InstOk { sup := [], arcs := [] : Inst }) ∧
 (CertOk { kind := (1 : Int), flow := [], pot := [], side := [], cycle := [] : Cert } ∧ InstOk { sup := [], arcs := [] : Inst }) ∧
 ((checkF { sup := [], arcs := [] : Inst } { kind := (1 : Int), flow := [], pot := [], side := [], cycle := [] : Cert } == (0 : Int)) = true →
 (CertOk { kind := (0 : Int), flow := [], pot := [], side := [], cycle := [] : Cert } ∧ InstOk { sup := [], arcs := [] : Inst }) ∧
 ((checkF { sup := [], arcs := [] : Inst } { kind := (0 : Int), flow := [], pot := [], side := [], cycle := [] : Cert } == (36 : Int)) = true →
 True ∧
 (plainF { kind := (2 : Int), flow := [], pot := [], side := [true], cycle := [] : Cert } = true →
 True ∧
 ((!plainF { kind := (2 : Int), flow := [], pot := [], side := [], cycle := [(1 : Int)] : Cert }) = true →
 ((!decide ((0 : Int) = (1 : Int))) = true ∧ True) ∧ True) ∧
 ((!plainF { kind := (2 : Int), flow := [], pot := [], side := [], cycle := [(1 : Int)] : Cert }) = false → (false = true ∧ True) ∧ True)) ∧
 (plainF { kind := (2 : Int), flow := [], pot := [], side := [true], cycle := [] : Cert } = false → (false = true ∧ True) ∧ True)) ∧
 ((checkF { sup := [], arcs := [] : Inst } { kind := (0 : Int), flow := [], pot := [], side := [], cycle := [] : Cert } == (36 : Int)) = false →
 (false = true ∧ True) ∧ True)) ∧
 ((checkF { sup := [], arcs := [] : Inst } { kind := (1 : Int), flow := [], pot := [], side := [], cycle := [] : Cert } == (0 : Int)) = false → (false = true ∧ True) ∧ True)
theorem known13_q : known13_E0 = FVcP TT known13_g (known13_I) (known13_an) Try.f39 [] [] (known13_r) := by kernel_rfl
theorem known13_E (hp : True) : FVc TT known13_g (known13_I) (known13_an) Try.f39 [] [] (known13_r) := by
  refine FVc.of (known13_E0) (known13_q) ?_
  unfold known13_E0
  simp only [eq_self, exists_const, forall_const, decide_eq_true_eq, decide_eq_false_iff_not, and_true, true_and, bne_iff_ne, ne_eq, bne_eq_false_iff_eq, Int.toNat_natCast, Bool.not_eq_true', Bool.not_eq_false', beq_iff_eq, beq_eq_false_iff_ne, nilEq_true]
  have k1 : checkF ⟨[], []⟩ ⟨1, [], [], [], []⟩ = 0 := by decide
  have k2 : checkF ⟨[], []⟩ ⟨0, [], [], [], []⟩ = 36 := by decide
  have k3 : plainF ⟨2, [], [], [true], []⟩ = true := by decide
  have k4 : plainF ⟨2, [], [], [], [1]⟩ = false := by decide
  have c0 : CertOk ⟨0, [], [], [], []⟩ := by simp [CertOk, A64]
  have c1 : CertOk ⟨1, [], [], [], []⟩ := by simp [CertOk, A64]
  have i0 : InstOk ⟨[], []⟩ := by simp [InstOk, A64, A64a, A64c]
  simp [k1, k2, k3, k4, c0, c1, i0]
theorem known13_ok : SpecOk Try.prog known13_n true (specOf true known13_fs) :=
  spec_ok' TT_ok (show GsOk Try.prog known13_g from gsOk_cons ValueC_ok (gsOk_cons Check_ok (gsOk_cons Plain13_ok (gsOk_nil)))) (by kernel_rfl) mixedOrders Try.func39 rfl rfl (by kernel_rfl) (n := 0) (by decide +kernel) (I := known13_IA) (fun _ _ => isOk_nil) (A := known13_A)
    (fun args h r hr => by
      unfold known13_fs at hr
      split at hr
      · cases hr; refine ⟨rfl, fun hp => ?_⟩; have hE := known13_E  hp; exact hE
      · cases hr)
def LongC_E0 (c : Cert) (ty0 ty1 ty2 ty3 : TypeId) : Prop :=
      (IntKind.i64.wrap (IntKind.i64.wrap (IntKind.i64.wrap ((↑c.flow.length : Int) + (↑c.pot.length : Int)) + (↑c.side.length : Int)) + (↑c.cycle.length : Int)) =
 (↑c.flow.length : Int) + (↑c.pot.length : Int) + (↑c.side.length : Int) + (↑c.cycle.length : Int) ∧
 True) ∧
 True
theorem LongC_q (c : Cert) (ty0 ty1 ty2 ty3 : TypeId) : LongC_E0 c ty0 ty1 ty2 ty3 = FVcP TT LongC_g (LongC_I c) (LongC_an c) Try.f38 [.agg [.int .i64 c.kind, .row 0, .row 1, .row 2, .row 3]] [(0, .row false ty0 (.ints .i64 c.flow)), (1, .row false ty1 (.ints .i64 c.pot)), (2, .row false ty2 (.bools c.side)), (3, .row false ty3 (.ints .i64 c.cycle))] (LongC_r c) := by kernel_rfl
theorem LongC_E (c : Cert) (ty0 ty1 ty2 ty3 : TypeId) (hp : CertOk c) : FVc TT LongC_g (LongC_I c) (LongC_an c) Try.f38 [.agg [.int .i64 c.kind, .row 0, .row 1, .row 2, .row 3]] [(0, .row false ty0 (.ints .i64 c.flow)), (1, .row false ty1 (.ints .i64 c.pot)), (2, .row false ty2 (.bools c.side)), (3, .row false ty3 (.ints .i64 c.cycle))] (LongC_r c) := by
  refine FVc.of (LongC_E0 c ty0 ty1 ty2 ty3) (LongC_q c ty0 ty1 ty2 ty3) ?_
  unfold LongC_E0
  obtain ⟨c1, c2, c3, c4, c5, c6⟩ := hp
  simp only [eq_self, exists_const, forall_const, decide_eq_true_eq, decide_eq_false_iff_not, and_true, true_and, bne_iff_ne, ne_eq, bne_eq_false_iff_eq, Int.toNat_natCast, Bool.not_eq_true', Bool.not_eq_false', beq_iff_eq, beq_eq_false_iff_ne, nilEq_true]
  rw [w64 (x := (c.flow.length : Int) + c.pot.length) (by omega) (by omega), w64 (x := (c.flow.length : Int) + c.pot.length + c.side.length) (by omega) (by omega), w64 (by omega) (by omega)]
theorem LongC_ok : SpecOk Try.prog LongC_n true (specOf true LongC_fs) :=
  spec_ok' TT_ok (show GsOk Try.prog LongC_g from gsOk_nil) (by kernel_rfl) mixedOrders Try.func38 rfl rfl (by kernel_rfl) (n := 1) (by decide +kernel) (I := LongC_IA) (fun _ _ => isOk_nil) (A := LongC_A)
    (fun args h r hr => by
      unfold LongC_fs at hr
      split at hr
      · rename_i c_k ty0 c_f ty1 c_p ty2 c_s ty3 c_y; cases hr; refine ⟨rfl, fun hp => ?_⟩; have hE := LongC_E ⟨c_k, c_f, c_p, c_s, c_y⟩ ty0 ty1 ty2 ty3 hp; exact hE
      · cases hr)
def rSameC_E0 (c : Cert) (d : Cert) (ty0 ty1 ty2 ty3 ty4 ty5 ty6 ty7 : TypeId) : Prop :=
      ((c.kind == d.kind) = true →
 c.flow.length ≤ (1000000000 : Nat) ∧
 (decide (c.flow = d.flow) = true →
 c.pot.length ≤ (1000000000 : Nat) ∧
 (decide (c.pot = d.pot) = true →
 c.side.length ≤ (1000000000 : Nat) ∧
 (decide (c.side = d.side) = true → c.cycle.length ≤ (1000000000 : Nat) ∧ (decide (c.cycle = d.cycle) = decide (c = d) ∧ True) ∧ True) ∧
 (decide (c.side = d.side) = false → (false = decide (c = d) ∧ True) ∧ True)) ∧
 (decide (c.pot = d.pot) = false → (false = decide (c = d) ∧ True) ∧ True)) ∧
 (decide (c.flow = d.flow) = false → (false = decide (c = d) ∧ True) ∧ True)) ∧
 ((c.kind == d.kind) = false → (false = decide (c = d) ∧ True) ∧ True)
theorem rSameC_q (c : Cert) (d : Cert) (ty0 ty1 ty2 ty3 ty4 ty5 ty6 ty7 : TypeId) : rSameC_E0 c d ty0 ty1 ty2 ty3 ty4 ty5 ty6 ty7 = FVcP TT rSameC_g (rSameC_I c d) (rSameC_an c d) Try.f42 [.agg [.int .i64 c.kind, .row 0, .row 1, .row 2, .row 3], .agg [.int .i64 d.kind, .row 4, .row 5, .row 6, .row 7]] [(0, .row false ty0 (.ints .i64 c.flow)), (1, .row false ty1 (.ints .i64 c.pot)), (2, .row false ty2 (.bools c.side)), (3, .row false ty3 (.ints .i64 c.cycle)), (4, .row false ty4 (.ints .i64 d.flow)), (5, .row false ty5 (.ints .i64 d.pot)), (6, .row false ty6 (.bools d.side)), (7, .row false ty7 (.ints .i64 d.cycle))] (rSameC_r c d) := by kernel_rfl
theorem rSameC_E (c : Cert) (d : Cert) (ty0 ty1 ty2 ty3 ty4 ty5 ty6 ty7 : TypeId) (hp : c.flow.length ≤ 1000000000 ∧ c.pot.length ≤ 1000000000 ∧ c.side.length ≤ 1000000000 ∧ c.cycle.length ≤ 1000000000) : FVc TT rSameC_g (rSameC_I c d) (rSameC_an c d) Try.f42 [.agg [.int .i64 c.kind, .row 0, .row 1, .row 2, .row 3], .agg [.int .i64 d.kind, .row 4, .row 5, .row 6, .row 7]] [(0, .row false ty0 (.ints .i64 c.flow)), (1, .row false ty1 (.ints .i64 c.pot)), (2, .row false ty2 (.bools c.side)), (3, .row false ty3 (.ints .i64 c.cycle)), (4, .row false ty4 (.ints .i64 d.flow)), (5, .row false ty5 (.ints .i64 d.pot)), (6, .row false ty6 (.bools d.side)), (7, .row false ty7 (.ints .i64 d.cycle))] (rSameC_r c d) := by
  refine FVc.of (rSameC_E0 c d ty0 ty1 ty2 ty3 ty4 ty5 ty6 ty7) (rSameC_q c d ty0 ty1 ty2 ty3 ty4 ty5 ty6 ty7) ?_
  unfold rSameC_E0
  simp only [eq_self, exists_const, forall_const, decide_eq_true_eq, decide_eq_false_iff_not, and_true, true_and, bne_iff_ne, ne_eq, bne_eq_false_iff_eq, Int.toNat_natCast, Bool.not_eq_true', Bool.not_eq_false', beq_iff_eq, beq_eq_false_iff_ne, nilEq_true]
  obtain ⟨a1, a2, a3, a4⟩ := hp
  refine ⟨fun h0 => ⟨a1, fun h1 => ⟨a2, fun h2 => ⟨a3, fun h3 => ⟨a4, ?_⟩, fun h3 => ?_⟩, fun h2 => ?_⟩, fun h1 => ?_⟩, fun h0 => ?_⟩
  · exact decide_eq_decide.2 ⟨fun e => cert_ext.2 ⟨h0, h1, h2, h3, e⟩, fun e => by rw [e]⟩
  · exact (decide_eq_false fun e => h3 (by rw [e])).symm
  · exact (decide_eq_false fun e => h2 (by rw [e])).symm
  · exact (decide_eq_false fun e => h1 (by rw [e])).symm
  · exact (decide_eq_false fun e => h0 (by rw [e])).symm
theorem rSameC_ok : SpecOk Try.prog rSameC_n true (specOf true rSameC_fs) :=
  spec_ok' TT_ok (show GsOk Try.prog rSameC_g from gsOk_cons Nums_ok (gsOk_cons Bools_ok (gsOk_cons Ints_ok (gsOk_nil)))) (by kernel_rfl) mixedOrders Try.func42 rfl rfl (by kernel_rfl) (n := 2) (by decide +kernel) (I := rSameC_IA) (fun _ _ => isOk_nil) (A := rSameC_A)
    (fun args h r hr => by
      unfold rSameC_fs at hr
      split at hr
      · rename_i c_k d_k ty0 c_f ty1 c_p ty2 c_s ty3 c_y ty4 d_f ty5 d_p ty6 d_s ty7 d_y; cases hr; refine ⟨rfl, fun hp => ?_⟩; have hE := rSameC_E ⟨c_k, c_f, c_p, c_s, c_y⟩ ⟨d_k, d_f, d_p, d_s, d_y⟩ ty0 ty1 ty2 ty3 ty4 ty5 ty6 ty7 hp; exact hE
      · cases hr)
abbrev CertC_a0 (k : Int) := ((1 : Int) + IntKind.i64.wrap (k.tmod (3 : Int)))
abbrev CertC_a1 := ((0 : Int) = (0 : Int) ∧ True ∧ True ∧ True ∧ True ∧ True)
abbrev CertC_a2 (I : Inst) := (fun (x : Int) => x % ((↑I.arcs.length : Int) + (1 : Int)))
abbrev CertC_a3 (k : Int) (I : Inst) (d : List Int) (e : List Int) := (IntKind.i64.wrap (CertC_a0 k) = (certK I k d e).kind ∧ True ∧ True ∧ True ∧ True ∧ True)
abbrev CertC_a4 (k : Int) := (k = k ∧ (0 : Nat) = (0 : Nat) ∧ (0 : Nat) = (0 : Nat) ∧ True)
def CertC_E0 (I : Inst) (k : Int) (d : List Int) (e : List Int) (ty0 ty1 ty2 ty3 : TypeId) : Prop :=
      (3 : Int) ≠ (0 : Int) ∧
 (((IntKind.i64.wrap (CertC_a0 k) == (1 : Int)) = true →
 (Bytes d ∧ I.arcs.length ≤ (1000000 : Nat) ∧ L42 I.arcs) ∧
 (Bytes e ∧ e.length ≤ maxLen ∧ (0 : Int) ≤ (↑I.sup.length : Int) ∧ (↑I.sup.length : Int) ≤ (1000000 : Int)) ∧
 ∃ (g : Unit),
 True ∧
 (CertC_a4 k) ∧
 (CertC_a1) ∧
 (CertC_a3 k I d e) ∧
 nilEq Int ∧
 nilEq Int ∧
 nilEq Bool ∧
 nilEq Int ∧
 flowF I d = (certK I k d e).flow ∧
 potF e (↑I.sup.length : Int).toNat = (certK I k d e).pot ∧ [] = (certK I k d e).side ∧ [] = (certK I k d e).cycle ∧ True) ∧
 ((IntKind.i64.wrap (CertC_a0 k) == (1 : Int)) = false →
 ((IntKind.i64.wrap (CertC_a0 k) == (2 : Int)) = true →
 ((↑I.sup.length : Int) = (↑I.sup.length : Int) ∧ (0 : Int) ≤ (↑I.sup.length : Int) ∧ (↑I.sup.length : Int) ≤ (1000000000 : Int)) ∧
 (Bytes e ∧ (↑I.sup.length : Int) ≤ (1000000 : Int)) ∧
 ∃ (g : Unit),
 True ∧
 (CertC_a4 k) ∧
 (CertC_a1) ∧
 (CertC_a3 k I d e) ∧
 nilEq Int ∧
 nilEq Int ∧
 nilEq Bool ∧
 nilEq Int ∧
 [] = (certK I k d e).flow ∧
 [] = (certK I k d e).pot ∧
 List.take (List.replicate (↑I.sup.length : Int).toNat false).length (marksF e (↑I.sup.length : Int).toNat) ++
 List.drop (marksF e (↑I.sup.length : Int).toNat).length (List.replicate (↑I.sup.length : Int).toNat false) =
 (certK I k d e).side ∧
 [] = (certK I k d e).cycle ∧ True) ∧
 ((IntKind.i64.wrap (CertC_a0 k) == (2 : Int)) = false →
 (Bytes d ∧ I.arcs.length ≤ (1000000 : Nat) ∧ L42 I.arcs) ∧
 ∃ (g0 : Nat),
 ((g0 ≤ e.length ∧ g0 ≤ (4 : Nat)) ∧
 (k = k ∧ True ∧ (0 : Nat) = (0 : Nat) ∧ (0 : Nat) = (0 : Nat) ∧ (0 : Nat) = (0 : Nat) ∧ (0 : Int) = (↑g0 : Int) ∧ True) ∧
 flowF I d = flowF I d ∧
 (IntKind.i64.wrap (CertC_a0 k) = IntKind.i64.wrap (CertC_a0 k) ∧
 True ∧ True ∧ True ∧ True ∧ True) ∧
 nilEq Int ∧
 nilEq Bool ∧
 [] = List.map (CertC_a2 I) (List.take g0 e) ∧
 (CertC_a1) ∧
 nilEq Int ∧ nilEq Int ∧ nilEq Bool ∧ nilEq Int ∧ (True ∧ True ∧ True) ∧ I.sup = I.sup ∧ I.arcs = I.arcs ∧ e = e ∧ True) ∧
 ∀ (g : Nat),
 g ≤ e.length ∧ g ≤ (4 : Nat) →
 (decide ((↑g : Int) < (↑e.length : Int)) = true →
 (decide ((↑g : Int) < (4 : Int)) = true →
 ((0 : Int) ≤ (↑g : Int) ∧ (↑g : Int) < (↑e.length : Int)) ∧
 (↑g : Int).toNat < e.length ∧
 ∀ (x : Int),
 e[(↑g : Int).toNat]? = some x →
 IntKind.i64.wrap ((↑I.arcs.length : Int) + (1 : Int)) ≠ (0 : Int) ∧
 (List.map (CertC_a2 I) (List.take g e)).length + (1 : Nat) ≤ (1000000000 : Nat) ∧
 ∃ (g' : Nat),
 (g' ≤ e.length ∧ g' ≤ (4 : Nat)) ∧
 (4 : Nat) - g' < (4 : Nat) - g ∧
 (k = k ∧
 True ∧
 (0 : Nat) = (0 : Nat) ∧
 (0 : Nat) = (0 : Nat) ∧ (0 : Nat) = (0 : Nat) ∧ IntKind.i64.wrap ((↑g : Int) + (1 : Int)) = (↑g' : Int) ∧ True) ∧
 flowF I d = flowF I d ∧
 (IntKind.i64.wrap (CertC_a0 k) =
 IntKind.i64.wrap (CertC_a0 k) ∧
 True ∧ True ∧ True ∧ True ∧ True) ∧
 nilEq Int ∧
 nilEq Bool ∧
 List.map (CertC_a2 I) (List.take g e) ++
 [(IntKind.i64.wrap x).tmod (IntKind.i64.wrap ((↑I.arcs.length : Int) + (1 : Int)))] =
 List.map (CertC_a2 I) (List.take g' e) ∧
 (CertC_a1) ∧
 nilEq Int ∧
 nilEq Int ∧ nilEq Bool ∧ nilEq Int ∧ (True ∧ True ∧ True) ∧ I.sup = I.sup ∧ I.arcs = I.arcs ∧ e = e ∧ True) ∧
 (decide ((↑g : Int) < (4 : Int)) = false →
 ∃ (g_1 : Unit),
 True ∧
 (CertC_a4 k) ∧
 (CertC_a1) ∧
 (CertC_a3 k I d e) ∧
 nilEq Int ∧
 nilEq Int ∧
 nilEq Bool ∧
 nilEq Int ∧
 flowF I d = (certK I k d e).flow ∧
 [] = (certK I k d e).pot ∧
 [] = (certK I k d e).side ∧
 List.map (CertC_a2 I) (List.take g e) = (certK I k d e).cycle ∧ True)) ∧
 (decide ((↑g : Int) < (↑e.length : Int)) = false →
 ∃ (g_1 : Unit),
 True ∧
 (CertC_a4 k) ∧
 (CertC_a1) ∧
 (CertC_a3 k I d e) ∧
 nilEq Int ∧
 nilEq Int ∧
 nilEq Bool ∧
 nilEq Int ∧
 flowF I d = (certK I k d e).flow ∧
 [] = (certK I k d e).pot ∧
 [] = (certK I k d e).side ∧
 List.map (CertC_a2 I) (List.take g e) = (certK I k d e).cycle ∧ True)))) ∧
 ∀ (g : Unit),
 True →
 (3 : Int) ≠ (0 : Int) ∧
 (12 : Int) ≠ (0 : Int) ∧
 (((IntKind.u8.wrap (k.tdiv (3 : Int))).tmod (12 : Int) == (0 : Int)) = true →
 (certK I k d e).side.length + (1 : Nat) ≤ (1000000000 : Nat) ∧
 (((certK I k d e).kind = (certF I k d e).kind ∧ True ∧ True ∧ True ∧ True ∧ True) ∧ True) ∧
 (certK I k d e).flow = (certF I k d e).flow ∧
 (certK I k d e).pot = (certF I k d e).pot ∧ (certK I k d e).side ++ [true] = (certF I k d e).side ∧ (certK I k d e).cycle = (certF I k d e).cycle ∧ True) ∧
 (((IntKind.u8.wrap (k.tdiv (3 : Int))).tmod (12 : Int) == (0 : Int)) = false →
 (((IntKind.u8.wrap (k.tdiv (3 : Int))).tmod (12 : Int) == (1 : Int)) = true →
 (certK I k d e).pot.length + (1 : Nat) ≤ (1000000000 : Nat) ∧
 (((certK I k d e).kind = (certF I k d e).kind ∧ True ∧ True ∧ True ∧ True ∧ True) ∧ True) ∧
 (certK I k d e).flow = (certF I k d e).flow ∧
 (certK I k d e).pot ++ [(1 : Int)] = (certF I k d e).pot ∧
 (certK I k d e).side = (certF I k d e).side ∧ (certK I k d e).cycle = (certF I k d e).cycle ∧ True) ∧
 (((IntKind.u8.wrap (k.tdiv (3 : Int))).tmod (12 : Int) == (1 : Int)) = false →
 (((IntKind.u8.wrap (k.tdiv (3 : Int))).tmod (12 : Int) == (2 : Int)) = true →
 (36 : Int) ≠ (0 : Int) ∧
 ((IntKind.i64.wrap (IntKind.u8.wrap (k.tdiv (36 : Int))) = (certF I k d e).kind ∧ True ∧ True ∧ True ∧ True ∧ True) ∧ True) ∧
 (certK I k d e).flow = (certF I k d e).flow ∧
 (certK I k d e).pot = (certF I k d e).pot ∧ (certK I k d e).side = (certF I k d e).side ∧ (certK I k d e).cycle = (certF I k d e).cycle ∧ True) ∧
 (((IntKind.u8.wrap (k.tdiv (3 : Int))).tmod (12 : Int) == (2 : Int)) = false →
 (((certK I k d e).kind = (certF I k d e).kind ∧ True ∧ True ∧ True ∧ True ∧ True) ∧ True) ∧
 (certK I k d e).flow = (certF I k d e).flow ∧
 (certK I k d e).pot = (certF I k d e).pot ∧ (certK I k d e).side = (certF I k d e).side ∧ (certK I k d e).cycle = (certF I k d e).cycle ∧ True)))
theorem CertC_q (I : Inst) (k : Int) (d : List Int) (e : List Int) (ty0 ty1 ty2 ty3 : TypeId) : CertC_E0 I k d e ty0 ty1 ty2 ty3 = FVcP TT CertC_g (CertC_I I k d e) (CertC_an I k d e) Try.f44 [.agg [.row 0, .row 1], .int .u8 k, .row 2, .row 3] [(0, .row false ty0 (.ints .i64 I.sup)), (1, .row false ty1 (.arcs I.arcs)), (2, .row false ty2 (.ints .u8 d)), (3, .row false ty3 (.ints .u8 e))] (CertC_r I k d e) := by kernel_rfl
theorem CertC_E (I : Inst) (k : Int) (d : List Int) (e : List Int) (ty0 ty1 ty2 ty3 : TypeId) (hp : 0 ≤ k ∧ k ≤ 255 ∧ I.sup.length ≤ 1000 ∧ I.arcs.length ≤ 1000 ∧ L42 I.arcs ∧ Bytes d ∧ Bytes e ∧ e.length ≤ maxLen) : FVc TT CertC_g (CertC_I I k d e) (CertC_an I k d e) Try.f44 [.agg [.row 0, .row 1], .int .u8 k, .row 2, .row 3] [(0, .row false ty0 (.ints .i64 I.sup)), (1, .row false ty1 (.arcs I.arcs)), (2, .row false ty2 (.ints .u8 d)), (3, .row false ty3 (.ints .u8 e))] (CertC_r I k d e) := by
  refine FVc.of (CertC_E0 I k d e ty0 ty1 ty2 ty3) (CertC_q I k d e ty0 ty1 ty2 ty3) ?_
  unfold CertC_E0
  delta CertC_a4 CertC_a3 CertC_a2 CertC_a1 CertC_a0
  obtain ⟨k0, k1, n1, n2, hl, hd, he, hel⟩ := hp
  have km : k.tmod 3 = k % 3 := Int.tmod_eq_emod_of_nonneg k0
  have kd : k.tdiv 3 = k / 3 := tdiv_pos k0
  have kd2 : k.tdiv 36 = k / 36 := tdiv_pos k0
  have kw : IntKind.i64.wrap (1 + IntKind.i64.wrap (k % 3)) = 1 + k % 3 := by rw [w64 (x := k % 3) (by omega) (by omega), w64 (by omega) (by omega)]
  have ku : IntKind.u8.wrap (k / 3) = k / 3 := wu8 (by omega) (by omega)
  have ku2 : IntKind.i64.wrap (IntKind.u8.wrap (k / 36)) = k / 36 := by rw [wu8 (by omega) (by omega), w64 (by omega) (by omega)]
  have kt : (k / 3).tmod 12 = k / 3 % 12 := Int.tmod_eq_emod_of_nonneg (by omega)
  have hn : IntKind.i64.wrap ((I.arcs.length : Int) + 1) = (I.arcs.length : Int) + 1 := w64 (by omega) (by omega)
  simp only [km, kd, kd2, kw, ku, ku2, kt, hn]
  simp only [eq_self, exists_const, forall_const, decide_eq_true_eq, decide_eq_false_iff_not, and_true, true_and, bne_iff_ne, ne_eq, bne_eq_false_iff_eq, Int.toNat_natCast, Bool.not_eq_true', Bool.not_eq_false', beq_iff_eq, beq_eq_false_iff_ne, nilEq_true]
  simp only [List.length_replicate, whole_eq]
  have hw : ∀ g : Nat, g ≤ 10 → IntKind.i64.wrap ((g : Int) + 1) = ((g + 1 : Nat) : Int) := fun g hg => by rw [w64 (by omega) (by omega)]; omega
  have c0 : k % 3 = 0 → certK I k d e = ⟨1, flowF I d, potF e I.sup.length, [], []⟩ := fun h => by unfold certK; rw [if_pos h]
  have c1 : ¬ k % 3 = 0 → k % 3 = 1 → certK I k d e = ⟨2, [], [], wholeF e I.sup.length, []⟩ := fun h h2 => by unfold certK; rw [if_neg h, if_pos h2]
  have c2 : ¬ k % 3 = 0 → ¬ k % 3 = 1 → certK I k d e = ⟨3, flowF I d, [], [], (e.take 4).map fun x => x % ((I.arcs.length : Int) + 1)⟩ := fun h h2 => by unfold certK; rw [if_neg h, if_neg h2]
  have lens : (certK I k d e).side.length ≤ 1000 ∧ (certK I k d e).pot.length ≤ 1000 := by
    unfold certK
    split
    · simp [cpot_len]; omega
    · split
      · simp [wholeF_len]; omega
      · simp
  have three : ∀ g : Nat, g ≤ e.length ∧ g ≤ 4 → ¬ ((g : Int) < e.length ∧ (g : Int) < 4) → List.take g e = e.take 4 := fun g hg h => by
    by_cases h4 : g = 4
    · rw [h4]
    · rw [List.take_of_length_le (by omega), List.take_of_length_le (by omega)]
  refine ⟨by omega, ⟨fun h1 => ?_, fun h1 => ⟨fun h2 => ?_, fun h2 => ⟨⟨hd, by omega, hl⟩, 0, ⟨by omega, rfl, by simp⟩, fun g hg => ⟨fun l1 => ⟨fun l2 => ⟨by omega, by omega, fun x hx => ⟨by omega, ?_, g + 1, by omega, by omega, hw g (by omega), ?_⟩⟩, fun l2 => ?_⟩, fun l1 => ?_⟩⟩⟩⟩, by omega, by omega, ?_⟩
  · rw [c0 (by omega)]; exact ⟨⟨hd, by omega, hl⟩, ⟨he, hel, by omega, by omega⟩, by dsimp only; omega, rfl, rfl, rfl, rfl⟩
  · rw [c1 (by omega) (by omega)]; exact ⟨by omega, ⟨he, by omega⟩, by dsimp only; omega, rfl, rfl, rfl, rfl⟩
  · simp; omega
  · have hb := he x (List.mem_of_getElem? hx)
    rw [take_get hx, List.map_append, w64 (x := x) (by omega) (by omega), Int.tmod_eq_emod_of_nonneg hb.1]; rfl
  · rw [c2 (by omega) (by omega), three g hg (by omega)]; exact ⟨by dsimp only; omega, rfl, rfl, rfl, rfl⟩
  · rw [c2 (by omega) (by omega), three g hg (by omega)]; exact ⟨by dsimp only; omega, rfl, rfl, rfl, rfl⟩
  · unfold certF
    dsimp only
    refine ⟨fun h1 => ?_, fun h1 => ⟨fun h2 => ?_, fun h2 => ⟨fun h3 => ?_, fun h3 => ?_⟩⟩⟩
    · simp only [h1, if_true]; exact ⟨by omega, by simp, by simp, by simp, by simp, by simp⟩
    · simp only [h1, h2, if_true, if_false]; exact ⟨by omega, by simp, by simp, by simp, by simp, by simp⟩
    · simp only [h1, h2, h3, if_true, if_false]; exact ⟨by omega, by simp, by simp, by simp, by simp, by simp⟩
    · simp only [h1, h2, h3, if_false]; exact ⟨by simp, by simp, by simp, by simp, by simp⟩
theorem CertC_ok : SpecOk Try.prog CertC_n true (specOf true CertC_fs) :=
  spec_ok' TT_ok (show GsOk Try.prog CertC_g from gsOk_cons Flow_ok (gsOk_cons Pot_ok (gsOk_cons Marks_ok (gsOk_nil)))) (by kernel_rfl) mixedOrders Try.func44 rfl rfl (by kernel_rfl) (n := 4) (by decide +kernel) (I := CertC_IA) (fun _ _ => isOk_nil) (A := CertC_A)
    (fun args h r hr => by
      unfold CertC_fs at hr
      split at hr
      · rename_i k ty0 I_s ty1 I_a ty2 d ty3 e; cases hr; refine ⟨rfl, fun hp => ?_⟩; have hE := CertC_E ⟨I_s, I_a⟩ k d e ty0 ty1 ty2 ty3 hp; exact hE
      · cases hr)
abbrev CertLong_a0 (a : List Int) (d : List Int) (k : Int) (e : List Int) := (certF (instF a d) (IntKind.u8.wrap ((9 : Int) + k.tmod (3 : Int))) d e)
abbrev CertLong_a1 (a : List Int) (d : List Int) (k : Int) (e : List Int) (h : Int) := (((CertLong_a0 a d k e).kind == (1 : Int)) = true →
 (4 : Int) ≠ (0 : Int) ∧
 ((h.tmod (4 : Int) == (1 : Int)) = true →
 ((0 : Int) ≤ (1 : Int) ∧
 (1 : Int) ≤ (↑(CertLong_a0 a d k e).pot.length : Int) ∧
 (↑(CertLong_a0 a d k e).pot.length : Int) ≤
 (↑(CertLong_a0 a d k e).pot.length : Int) ∧
 (↑(CertLong_a0 a d k e).pot.length : Int) ≤
 (↑(CertLong_a0 a d k e).pot.length : Int)) ∧
 (CertOk
 { kind := (CertLong_a0 a d k e).kind, flow := (CertLong_a0 a d k e).flow, pot := List.drop (Int.toNat (1 : Int)) (List.take (↑(CertLong_a0 a d k e).pot.length : Int).toNat (CertLong_a0 a d k e).pot), side := (CertLong_a0 a d k e).side, cycle := (CertLong_a0 a d k e).cycle : Cert } ∧
 InstOk (instF a d)) ∧
 True ∧
 (true = true →
 ((checkF (instF a d)
 { kind := (CertLong_a0 a d k e).kind, flow := (CertLong_a0 a d k e).flow, pot := List.drop (Int.toNat (1 : Int)) (List.take (↑(CertLong_a0 a d k e).pot.length : Int).toNat (CertLong_a0 a d k e).pot), side := (CertLong_a0 a d k e).side, cycle := (CertLong_a0 a d k e).cycle : Cert } !=
 (0 : Int)) =
 true →
 (((CertLong_a0 a d k e).kind != (2 : Int)) = true →
 (true = true ∧ True) ∧ True) ∧
 (((CertLong_a0 a d k e).kind != (2 : Int)) = false →
 ((checkF (instF a d)
 { kind := (CertLong_a0 a d k e).kind, flow := (CertLong_a0 a d k e).flow, pot := List.drop (Int.toNat (1 : Int)) (List.take (↑(CertLong_a0 a d k e).pot.length : Int).toNat (CertLong_a0 a d k e).pot), side := (CertLong_a0 a d k e).side, cycle := (CertLong_a0 a d k e).cycle : Cert } ==
 (30 : Int)) =
 true ∧
 True) ∧
 True)) ∧
 ((checkF (instF a d)
 { kind := (CertLong_a0 a d k e).kind, flow := (CertLong_a0 a d k e).flow, pot := List.drop (Int.toNat (1 : Int)) (List.take (↑(CertLong_a0 a d k e).pot.length : Int).toNat (CertLong_a0 a d k e).pot), side := (CertLong_a0 a d k e).side, cycle := (CertLong_a0 a d k e).cycle : Cert } !=
 (0 : Int)) =
 false →
 (false = true ∧ True) ∧ True)) ∧
 (true = false → (false = true ∧ True) ∧ True)) ∧
 ((h.tmod (4 : Int) == (1 : Int)) = false →
 (CertLong_a0 a d k e).flow.length + (1 : Nat) ≤ (1000000000 : Nat) ∧
 (CertOk
 { kind := (CertLong_a0 a d k e).kind, flow := (CertLong_a0 a d k e).flow ++ [(0 : Int)], pot := (CertLong_a0 a d k e).pot, side := (CertLong_a0 a d k e).side, cycle := (CertLong_a0 a d k e).cycle : Cert } ∧
 InstOk (instF a d)) ∧
 True ∧
 (true = true →
 ((checkF (instF a d)
 { kind := (CertLong_a0 a d k e).kind, flow := (CertLong_a0 a d k e).flow ++ [(0 : Int)], pot := (CertLong_a0 a d k e).pot, side := (CertLong_a0 a d k e).side, cycle := (CertLong_a0 a d k e).cycle : Cert } !=
 (0 : Int)) =
 true →
 (((CertLong_a0 a d k e).kind != (2 : Int)) = true →
 (true = true ∧ True) ∧ True) ∧
 (((CertLong_a0 a d k e).kind != (2 : Int)) = false →
 ((checkF (instF a d)
 { kind := (CertLong_a0 a d k e).kind, flow := (CertLong_a0 a d k e).flow ++ [(0 : Int)], pot := (CertLong_a0 a d k e).pot, side := (CertLong_a0 a d k e).side, cycle := (CertLong_a0 a d k e).cycle : Cert } ==
 (30 : Int)) =
 true ∧
 True) ∧
 True)) ∧
 ((checkF (instF a d)
 { kind := (CertLong_a0 a d k e).kind, flow := (CertLong_a0 a d k e).flow ++ [(0 : Int)], pot := (CertLong_a0 a d k e).pot, side := (CertLong_a0 a d k e).side, cycle := (CertLong_a0 a d k e).cycle : Cert } !=
 (0 : Int)) =
 false →
 (false = true ∧ True) ∧ True)) ∧
 (true = false → (false = true ∧ True) ∧ True)))
abbrev CertLong_a2 (a : List Int) (d : List Int) (k : Int) (e : List Int) := (true = true →
 ((checkF (instF a d)
 { kind := (CertLong_a0 a d k e).kind, flow := (CertLong_a0 a d k e).flow ++ [(0 : Int)], pot := (CertLong_a0 a d k e).pot, side := (CertLong_a0 a d k e).side, cycle := (CertLong_a0 a d k e).cycle : Cert } !=
 (0 : Int)) =
 true →
 (((CertLong_a0 a d k e).kind != (2 : Int)) = true → (true = true ∧ True) ∧ True) ∧
 (((CertLong_a0 a d k e).kind != (2 : Int)) = false →
 ((checkF (instF a d)
 { kind := (CertLong_a0 a d k e).kind, flow := (CertLong_a0 a d k e).flow ++ [(0 : Int)], pot := (CertLong_a0 a d k e).pot, side := (CertLong_a0 a d k e).side, cycle := (CertLong_a0 a d k e).cycle : Cert } ==
 (30 : Int)) =
 true ∧
 True) ∧
 True)) ∧
 ((checkF (instF a d)
 { kind := (CertLong_a0 a d k e).kind, flow := (CertLong_a0 a d k e).flow ++ [(0 : Int)], pot := (CertLong_a0 a d k e).pot, side := (CertLong_a0 a d k e).side, cycle := (CertLong_a0 a d k e).cycle : Cert } !=
 (0 : Int)) =
 false →
 (false = true ∧ True) ∧ True))
abbrev CertLong_a3 (a : List Int) (d : List Int) (k : Int) (e : List Int) := (((CertLong_a0 a d k e).kind == (2 : Int)) = true →
 ((0 : Int) ≤ (1 : Int) ∧
 (1 : Int) ≤ (↑(CertLong_a0 a d k e).side.length : Int) ∧
 (↑(CertLong_a0 a d k e).side.length : Int) ≤
 (↑(CertLong_a0 a d k e).side.length : Int) ∧
 (↑(CertLong_a0 a d k e).side.length : Int) ≤
 (↑(CertLong_a0 a d k e).side.length : Int)) ∧
 (CertOk
 { kind := (CertLong_a0 a d k e).kind, flow := (CertLong_a0 a d k e).flow, pot := (CertLong_a0 a d k e).pot, side := List.drop (Int.toNat (1 : Int)) (List.take (↑(CertLong_a0 a d k e).side.length : Int).toNat (CertLong_a0 a d k e).side), cycle := (CertLong_a0 a d k e).cycle : Cert } ∧
 InstOk (instF a d)) ∧
 True ∧
 (true = true →
 ((checkF (instF a d)
 { kind := (CertLong_a0 a d k e).kind, flow := (CertLong_a0 a d k e).flow, pot := (CertLong_a0 a d k e).pot, side := List.drop (Int.toNat (1 : Int)) (List.take (↑(CertLong_a0 a d k e).side.length : Int).toNat (CertLong_a0 a d k e).side), cycle := (CertLong_a0 a d k e).cycle : Cert } !=
 (0 : Int)) =
 true →
 (((CertLong_a0 a d k e).kind != (2 : Int)) = true → (true = true ∧ True) ∧ True) ∧
 (((CertLong_a0 a d k e).kind != (2 : Int)) = false →
 ((checkF (instF a d)
 { kind := (CertLong_a0 a d k e).kind, flow := (CertLong_a0 a d k e).flow, pot := (CertLong_a0 a d k e).pot, side := List.drop (Int.toNat (1 : Int)) (List.take (↑(CertLong_a0 a d k e).side.length : Int).toNat (CertLong_a0 a d k e).side), cycle := (CertLong_a0 a d k e).cycle : Cert } ==
 (30 : Int)) =
 true ∧
 True) ∧
 True)) ∧
 ((checkF (instF a d)
 { kind := (CertLong_a0 a d k e).kind, flow := (CertLong_a0 a d k e).flow, pot := (CertLong_a0 a d k e).pot, side := List.drop (Int.toNat (1 : Int)) (List.take (↑(CertLong_a0 a d k e).side.length : Int).toNat (CertLong_a0 a d k e).side), cycle := (CertLong_a0 a d k e).cycle : Cert } !=
 (0 : Int)) =
 false →
 (false = true ∧ True) ∧ True)) ∧
 (true = false → (false = true ∧ True) ∧ True))
abbrev CertLong_a4 (h : Int) (a : List Int) (d : List Int) (k : Int) (e : List Int) := ((h.tmod (4 : Int) == (0 : Int)) = true →
 (CertLong_a0 a d k e).pot.length + (1 : Nat) ≤ (1000000000 : Nat) ∧
 (CertOk
 { kind := (CertLong_a0 a d k e).kind, flow := (CertLong_a0 a d k e).flow, pot := (CertLong_a0 a d k e).pot ++ [(1 : Int)], side := (CertLong_a0 a d k e).side, cycle := (CertLong_a0 a d k e).cycle : Cert } ∧
 InstOk (instF a d)) ∧
 True ∧
 (true = true →
 ((checkF (instF a d)
 { kind := (CertLong_a0 a d k e).kind, flow := (CertLong_a0 a d k e).flow, pot := (CertLong_a0 a d k e).pot ++ [(1 : Int)], side := (CertLong_a0 a d k e).side, cycle := (CertLong_a0 a d k e).cycle : Cert } !=
 (0 : Int)) =
 true →
 (((CertLong_a0 a d k e).kind != (2 : Int)) = true → (true = true ∧ True) ∧ True) ∧
 (((CertLong_a0 a d k e).kind != (2 : Int)) = false →
 ((checkF (instF a d)
 { kind := (CertLong_a0 a d k e).kind, flow := (CertLong_a0 a d k e).flow, pot := (CertLong_a0 a d k e).pot ++ [(1 : Int)], side := (CertLong_a0 a d k e).side, cycle := (CertLong_a0 a d k e).cycle : Cert } ==
 (30 : Int)) =
 true ∧
 True) ∧
 True)) ∧
 ((checkF (instF a d)
 { kind := (CertLong_a0 a d k e).kind, flow := (CertLong_a0 a d k e).flow, pot := (CertLong_a0 a d k e).pot ++ [(1 : Int)], side := (CertLong_a0 a d k e).side, cycle := (CertLong_a0 a d k e).cycle : Cert } !=
 (0 : Int)) =
 false →
 (false = true ∧ True) ∧ True)) ∧
 (true = false → (false = true ∧ True) ∧ True))
abbrev CertLong_a5 (a : List Int) (d : List Int) (k : Int) (e : List Int) := (CertOk
 { kind := (CertLong_a0 a d k e).kind, flow := (CertLong_a0 a d k e).flow ++ [(0 : Int)], pot := (CertLong_a0 a d k e).pot, side := (CertLong_a0 a d k e).side, cycle := (CertLong_a0 a d k e).cycle : Cert } ∧
 InstOk (instF a d))
abbrev CertLong_a6 (a : List Int) (d : List Int) (k : Int) (e : List Int) := (((CertLong_a0 a d k e).kind == (1 : Int)) = false →
 (CertLong_a0 a d k e).flow.length + (1 : Nat) ≤ (1000000000 : Nat) ∧
 (CertLong_a5 a d k e) ∧
 True ∧
 (CertLong_a2 a d k e) ∧
 (true = false → (false = true ∧ True) ∧ True))
abbrev CertLong_a7 (a : List Int) (d : List Int) (k : Int) (e : List Int) := (checkF (instF a d)
 { kind := (CertLong_a0 a d k e).kind, flow := (CertLong_a0 a d k e).flow, pot := List.drop (Int.toNat (1 : Int)) (List.take (↑(CertLong_a0 a d k e).pot.length : Int).toNat (CertLong_a0 a d k e).pot), side := (CertLong_a0 a d k e).side, cycle := (CertLong_a0 a d k e).cycle : Cert } !=
 (0 : Int))
abbrev CertLong_a8 (a : List Int) (d : List Int) (k : Int) (e : List Int) := (checkF (instF a d)
 { kind := (CertLong_a0 a d k e).kind, flow := (CertLong_a0 a d k e).flow ++ [(0 : Int)], pot := (CertLong_a0 a d k e).pot, side := (CertLong_a0 a d k e).side, cycle := (CertLong_a0 a d k e).cycle : Cert } !=
 (0 : Int))
abbrev CertLong_a9 (a : List Int) (d : List Int) (k : Int) (e : List Int) := (checkF (instF a d)
 { kind := (CertLong_a0 a d k e).kind, flow := (CertLong_a0 a d k e).flow, pot := (CertLong_a0 a d k e).pot, side := (CertLong_a0 a d k e).side ++ [true], cycle := (CertLong_a0 a d k e).cycle : Cert } !=
 (0 : Int))
def CertLong_E0 (a : List Int) (d : List Int) (e : List Int) (k : Int) (h : Int) (ty0 ty1 ty2 : TypeId) : Prop :=
      (Bytes a ∧ Bytes d ∧ a.length ≤ maxLen ∧ d.length ≤ maxLen) ∧
 (3 : Int) ≠ (0 : Int) ∧
 ((0 : Int) ≤ IntKind.u8.wrap ((9 : Int) + k.tmod (3 : Int)) ∧
 IntKind.u8.wrap ((9 : Int) + k.tmod (3 : Int)) ≤ (255 : Int) ∧
 (instF a d).sup.length ≤ (1000 : Nat) ∧ (instF a d).arcs.length ≤ (1000 : Nat) ∧ L42 (instF a d).arcs ∧ Bytes d ∧ Bytes e ∧ e.length ≤ maxLen) ∧
 (((CertLong_a0 a d k e).kind == (2 : Int)) = true →
 (2 : Int) ≠ (0 : Int) ∧
 ((h.tmod (2 : Int) == (0 : Int)) = true →
 (CertLong_a0 a d k e).side.length + (1 : Nat) ≤ (1000000000 : Nat) ∧
 (CertOk
 { kind := (CertLong_a0 a d k e).kind, flow := (CertLong_a0 a d k e).flow, pot := (CertLong_a0 a d k e).pot, side := (CertLong_a0 a d k e).side ++ [true], cycle := (CertLong_a0 a d k e).cycle : Cert } ∧
 InstOk (instF a d)) ∧
 True ∧
 (true = true →
 ((CertLong_a9 a d k e) =
 true →
 (((CertLong_a0 a d k e).kind != (2 : Int)) = true → (true = true ∧ True) ∧ True) ∧
 (((CertLong_a0 a d k e).kind != (2 : Int)) = false →
 ((checkF (instF a d)
 { kind := (CertLong_a0 a d k e).kind, flow := (CertLong_a0 a d k e).flow, pot := (CertLong_a0 a d k e).pot, side := (CertLong_a0 a d k e).side ++ [true], cycle := (CertLong_a0 a d k e).cycle : Cert } ==
 (30 : Int)) =
 true ∧
 True) ∧
 True)) ∧
 ((CertLong_a9 a d k e) =
 false →
 (false = true ∧ True) ∧ True)) ∧
 (true = false → (false = true ∧ True) ∧ True)) ∧
 ((h.tmod (2 : Int) == (0 : Int)) = false →
 (CertLong_a3 a d k e) ∧
 (((CertLong_a0 a d k e).kind == (2 : Int)) = false →
 (((CertLong_a0 a d k e).kind == (1 : Int)) = true →
 (4 : Int) ≠ (0 : Int) ∧
 (CertLong_a4 h a d k e) ∧
 ((h.tmod (4 : Int) == (0 : Int)) = false →
 (CertLong_a1 a d k e h) ∧
 (((CertLong_a0 a d k e).kind == (1 : Int)) = false →
 (CertLong_a0 a d k e).flow.length + (1 : Nat) ≤ (1000000000 : Nat) ∧
 (CertLong_a5 a d k e) ∧
 True ∧
 (true = true →
 ((CertLong_a8 a d k e) =
 true →
 (((CertLong_a0 a d k e).kind != (2 : Int)) = true →
 (true = true ∧ True) ∧ True) ∧
 (((CertLong_a0 a d k e).kind != (2 : Int)) = false →
 ((checkF (instF a d)
 { kind := (CertLong_a0 a d k e).kind, flow := (CertLong_a0 a d k e).flow ++ [(0 : Int)], pot := (CertLong_a0 a d k e).pot, side := (CertLong_a0 a d k e).side, cycle := (CertLong_a0 a d k e).cycle : Cert } ==
 (30 : Int)) =
 true ∧
 True) ∧
 True)) ∧
 ((CertLong_a8 a d k e) =
 false →
 (false = true ∧ True) ∧ True)) ∧
 (true = false → (false = true ∧ True) ∧ True)))) ∧
 (((CertLong_a0 a d k e).kind == (1 : Int)) = false →
 (CertLong_a1 a d k e h) ∧
 (CertLong_a6 a d k e))))) ∧
 (((CertLong_a0 a d k e).kind == (2 : Int)) = false →
 (CertLong_a3 a d k e) ∧
 (((CertLong_a0 a d k e).kind == (2 : Int)) = false →
 (((CertLong_a0 a d k e).kind == (1 : Int)) = true →
 (4 : Int) ≠ (0 : Int) ∧
 (CertLong_a4 h a d k e) ∧
 ((h.tmod (4 : Int) == (0 : Int)) = false →
 (CertLong_a1 a d k e h) ∧
 (CertLong_a6 a d k e))) ∧
 (((CertLong_a0 a d k e).kind == (1 : Int)) = false →
 (((CertLong_a0 a d k e).kind == (1 : Int)) = true →
 (4 : Int) ≠ (0 : Int) ∧
 ((h.tmod (4 : Int) == (1 : Int)) = true →
 ((0 : Int) ≤ (1 : Int) ∧
 (1 : Int) ≤ (↑(CertLong_a0 a d k e).pot.length : Int) ∧
 (↑(CertLong_a0 a d k e).pot.length : Int) ≤
 (↑(CertLong_a0 a d k e).pot.length : Int) ∧
 (↑(CertLong_a0 a d k e).pot.length : Int) ≤
 (↑(CertLong_a0 a d k e).pot.length : Int)) ∧
 (CertOk
 { kind := (CertLong_a0 a d k e).kind, flow := (CertLong_a0 a d k e).flow, pot := List.drop (Int.toNat (1 : Int)) (List.take (↑(CertLong_a0 a d k e).pot.length : Int).toNat (CertLong_a0 a d k e).pot), side := (CertLong_a0 a d k e).side, cycle := (CertLong_a0 a d k e).cycle : Cert } ∧
 InstOk (instF a d)) ∧
 True ∧
 (true = true →
 ((CertLong_a7 a d k e) =
 true →
 (((CertLong_a0 a d k e).kind != (2 : Int)) = true → (true = true ∧ True) ∧ True) ∧
 (((CertLong_a0 a d k e).kind != (2 : Int)) = false →
 ((checkF (instF a d)
 { kind := (CertLong_a0 a d k e).kind, flow := (CertLong_a0 a d k e).flow, pot := List.drop (Int.toNat (1 : Int)) (List.take (↑(CertLong_a0 a d k e).pot.length : Int).toNat (CertLong_a0 a d k e).pot), side := (CertLong_a0 a d k e).side, cycle := (CertLong_a0 a d k e).cycle : Cert } ==
 (30 : Int)) =
 true ∧
 True) ∧
 True)) ∧
 ((CertLong_a7 a d k e) =
 false →
 (false = true ∧ True) ∧ True)) ∧
 (true = false → (false = true ∧ True) ∧ True)) ∧
 ((h.tmod (4 : Int) == (1 : Int)) = false →
 (CertLong_a0 a d k e).flow.length + (1 : Nat) ≤ (1000000000 : Nat) ∧
 (CertLong_a5 a d k e) ∧
 True ∧
 (CertLong_a2 a d k e) ∧
 (true = false → (false = true ∧ True) ∧ True))) ∧
 (CertLong_a6 a d k e))))
theorem CertLong_q (a : List Int) (d : List Int) (e : List Int) (k : Int) (h : Int) (ty0 ty1 ty2 : TypeId) : CertLong_E0 a d e k h ty0 ty1 ty2 = FVcP TT CertLong_g (CertLong_I a d e k h) (CertLong_an a d e k h) Try.f12 [.row 0, .row 1, .row 2, .int .u8 k, .int .u8 h] [(0, .row false ty0 (.ints .u8 a)), (1, .row false ty1 (.ints .u8 d)), (2, .row false ty2 (.ints .u8 e))] (CertLong_r a d e k h) := by kernel_rfl
theorem CertLong_E (a : List Int) (d : List Int) (e : List Int) (k : Int) (h : Int) (ty0 ty1 ty2 : TypeId) (hp : Bytes a ∧ Bytes d ∧ a.length ≤ maxLen ∧ d.length ≤ maxLen ∧ Bytes e ∧ e.length ≤ maxLen ∧ 0 ≤ k ∧ k ≤ 255 ∧ 0 ≤ h ∧ h ≤ 255) : FVc TT CertLong_g (CertLong_I a d e k h) (CertLong_an a d e k h) Try.f12 [.row 0, .row 1, .row 2, .int .u8 k, .int .u8 h] [(0, .row false ty0 (.ints .u8 a)), (1, .row false ty1 (.ints .u8 d)), (2, .row false ty2 (.ints .u8 e))] (CertLong_r a d e k h) := by
  refine FVc.of (CertLong_E0 a d e k h ty0 ty1 ty2) (CertLong_q a d e k h ty0 ty1 ty2) ?_
  unfold CertLong_E0
  delta CertLong_a9 CertLong_a8 CertLong_a7 CertLong_a6 CertLong_a5 CertLong_a4 CertLong_a3 CertLong_a2 CertLong_a1 CertLong_a0
  obtain ⟨b1, b2, b3, b4, b5, b6, k0, k1, h0, h1⟩ := hp
  have km : k.tmod 3 = k % 3 := Int.tmod_eq_emod_of_nonneg k0
  have kw : IntKind.u8.wrap (9 + k % 3) = 9 + k % 3 := wu8 (by omega) (by omega)
  simp only [km, kw]
  have hr := instF_right a d
  have hio := instOk_of hr
  have hrs := right_small hr
  obtain ⟨-, -, -, hL⟩ := right_A64 hr
  have hFl := flowF_len (instF a d) d
  have hF := (flow_few (instF_nice a d) d).a64
  have hwl := wholeF_len e (instF a d).sup.length
  have hns := instF_sup a d
  have hnp := nOf_pos d
  refine ⟨⟨b1, b2, b3, b4⟩, by omega, ⟨by omega, by omega, by omega, by omega, hL, b2, b5, b6⟩, ?_⟩
  generalize instF a d = I at *
  have hpl := cpot_len e I.sup.length
  have hpa := cpot_A64 e I.sup.length
  have three : k % 3 = 0 ∨ k % 3 = 1 ∨ k % 3 = 2 := by omega
  have hx0 : A64 (flowF I d ++ [0]) := fun y hy => by
    rcases List.mem_append.1 hy with h | h
    · exact hF y h
    · simp at h; subst h; unfold I64; omega
  have hp1 : A64 (potF e I.sup.length ++ [1]) := fun y hy => by
    rcases List.mem_append.1 hy with h | h
    · exact hpa y h
    · simp at h; subst h; unfold I64; omega
  have hp2 : A64 ((potF e I.sup.length).drop 1) := fun y hy => hpa y (List.mem_of_mem_drop hy)
  have fits0 : fitsF I (flowF I d ++ [0]) = 30 := by
    unfold fitsF
    rw [if_neg (fun h => h hr), if_pos (by simp [hFl])]
  have slack_len : ∀ p : List Int, p.length ≠ I.sup.length → slackF I (flowF I d) p ≠ 0 := fun p hp => by
    unfold slackF
    split
    · assumption
    · first | omega | (rw [if_pos hp]; omega)
  have slack0 : ∀ p : List Int, slackF I (flowF I d ++ [0]) p = 30 := fun p => by
    unfold slackF
    rw [if_pos (by rw [fits0]; omega), fits0]
  have proves_len : ∀ s : List Bool, s.length ≠ I.sup.length → provesF I s = 30 := fun s hs => by
    unfold provesF
    rw [if_neg (fun h => h hr), if_pos hs]
  have chk : ∀ c : Cert, plainF c = true → checkF I c = if c.kind = 1 then slackF I c.flow c.pot else if c.kind = 2 then provesF I c.side else if fitsF I c.flow ≠ 0 then fitsF I c.flow else turnsF I c.cycle := fun c hc => by
    unfold checkF; rw [if_neg (fun h => h hr), if_neg (by rw [hc]; simp)]
  rcases three with h3 | h3 | h3
  · have hc : certF I (9 + k % 3) d e = ⟨1, flowF I d, potF e I.sup.length, [], []⟩ := by unfold certF certK; simp [h3]
    rw [hc]
    have e1 : checkF I ⟨1, flowF I d, potF e I.sup.length ++ [1], [], []⟩ ≠ 0 := by rw [chk _ rfl]; exact slack_len _ (by simp [hpl])
    have e2 : checkF I ⟨1, flowF I d, (potF e I.sup.length).drop 1, [], []⟩ ≠ 0 := by rw [chk _ rfl]; exact slack_len _ (by rw [List.length_drop, hpl]; omega)
    have e3 : checkF I ⟨1, flowF I d ++ [0], potF e I.sup.length, [], []⟩ ≠ 0 := by rw [chk _ rfl]; show slackF I (flowF I d ++ [0]) _ ≠ 0; rw [slack0]; omega
    have k1 : CertOk ⟨1, flowF I d, potF e I.sup.length ++ [1], [], []⟩ := ⟨hF, hp1, by dsimp only; omega, by simp [hpl]; omega, by simp, by simp⟩
    have k2 : CertOk ⟨1, flowF I d, (potF e I.sup.length).drop 1, [], []⟩ := ⟨hF, hp2, by dsimp only; omega, by simp [hpl]; omega, by simp, by simp⟩
    have k3 : CertOk ⟨1, flowF I d ++ [0], potF e I.sup.length, [], []⟩ := ⟨hx0, hpa, by simp [hFl]; omega, by dsimp only; omega, by simp, by simp⟩
    have n1 : 1 ≤ I.sup.length := by omega
    have n2 : I.sup.length + 1 ≤ 1000000000 := by omega
    have n3 : I.arcs.length + 1 ≤ 1000000000 := by omega
    have t1 : (potF e I.sup.length).take I.sup.length = potF e I.sup.length := List.take_of_length_le (by omega)
    simp only [Int.toNat_natCast, hpl, t1, Int.toNat_one]
    simp [e1, e2, e3, k1, k2, k3, hio, n1, n2, n3, hFl, hpl]
    exact fun _ _ => ⟨by omega, by simpa using k2, by simpa using e2⟩
  · have hc : certF I (9 + k % 3) d e = ⟨2, [], [], wholeF e I.sup.length, []⟩ := by unfold certF certK; simp [h3]
    rw [hc]
    have e1 : checkF I ⟨2, [], [], wholeF e I.sup.length ++ [true], []⟩ = 30 := by rw [chk _ rfl]; exact proves_len _ (by simp [hwl])
    have e2 : checkF I ⟨2, [], [], (wholeF e I.sup.length).drop 1, []⟩ = 30 := by rw [chk _ rfl]; exact proves_len _ (by rw [List.length_drop, hwl]; omega)
    have k1 : CertOk ⟨2, [], [], wholeF e I.sup.length ++ [true], []⟩ := ⟨by simp [A64], by simp [A64], by simp, by simp, by simp [hwl]; omega, by simp⟩
    have k2 : CertOk ⟨2, [], [], (wholeF e I.sup.length).drop 1, []⟩ := ⟨by simp [A64], by simp [A64], by simp, by simp, by simp [hwl]; omega, by simp⟩
    have n1 : 1 ≤ I.sup.length := by omega
    have n2 : I.sup.length + 1 ≤ 1000000000 := by omega
    have t1 : (wholeF e I.sup.length).take I.sup.length = wholeF e I.sup.length := List.take_of_length_le (by omega)
    simp only [Int.toNat_natCast, hwl, t1, Int.toNat_one]
    simp [e1, e2, k1, k2, hio, n1, n2, hwl]
    exact fun _ => ⟨by omega, by simpa using k2, by have := e2; simp at this; simp [this]⟩
  · have hc : certF I (9 + k % 3) d e = ⟨3, flowF I d, [], [], (e.take 4).map fun x => x % ((I.arcs.length : Int) + 1)⟩ := by unfold certF certK; simp [h3]
    rw [hc]
    clear hc
    have hcl : ((e.take 4).map fun x => x % ((I.arcs.length : Int) + 1)).length ≤ 4 := by simp; omega
    generalize ((e.take 4).map fun x => x % ((I.arcs.length : Int) + 1)) = cy at hcl ⊢
    have e3 : checkF I ⟨3, flowF I d ++ [0], [], [], cy⟩ = 30 := by rw [chk _ rfl]; simp [fits0]
    have k3 : CertOk ⟨3, flowF I d ++ [0], [], [], cy⟩ := ⟨hx0, by simp [A64], by simp [hFl]; omega, by simp, by simp, by dsimp only; omega⟩
    have n3 : I.arcs.length + 1 ≤ 1000000000 := by omega
    simp [e3, k3, hio, n3, hFl]
theorem CertLong_ok : SpecOk Try.prog CertLong_n true (specOf true CertLong_fs) :=
  spec_ok' TT_ok (show GsOk Try.prog CertLong_g from gsOk_cons Inst_ok (gsOk_cons CertC_ok (gsOk_cons Check_ok (gsOk_cons known13_ok (gsOk_nil))))) (by kernel_rfl) mixedOrders Try.func12 rfl rfl (by kernel_rfl) (n := 5) (by decide +kernel) (I := CertLong_IA) (fun _ _ => isOk_nil) (A := CertLong_A)
    (fun args h r hr => by
      unfold CertLong_fs at hr
      split at hr
      · rename_i k h ty0 a ty1 d ty2 e; cases hr; refine ⟨rfl, fun hp => ?_⟩; have hE := CertLong_E a d e k h ty0 ty1 ty2 hp; exact hE
      · cases hr)
abbrev CertRay_a0 (a : List Int) (d : List Int) (k : Int) := (checkF (roundI a d)
 { kind := (3 : Int), flow := (flowF (roundI a d) d).set ((IntKind.i64.wrap k).tmod (↑(flowF (roundI a d) d).length : Int)).toNat (-1 : Int), pot := [], side := [], cycle := roundL a d : Cert } ==
 (31 : Int))
def CertRay_E0 (a : List Int) (d : List Int) (k : Int) (ty0 ty1 : TypeId) : Prop :=
      (Bytes a ∧ Bytes d ∧ a.length ≤ maxLen ∧ d.length ≤ maxLen) ∧
 (Bytes d ∧ (roundI a d).arcs.length ≤ (1000000 : Nat) ∧ L42 (roundI a d).arcs) ∧
 (CertOk { kind := (3 : Int), flow := flowF (roundI a d) d, pot := [], side := [], cycle := roundL a d : Cert } ∧ InstOk (roundI a d)) ∧
 ((checkF (roundI a d) { kind := (3 : Int), flow := flowF (roundI a d) d, pot := [], side := [], cycle := roundL a d : Cert } != (0 : Int)) = true →
 True ∧ (true = true ∧ True) ∧ True) ∧
 ((checkF (roundI a d) { kind := (3 : Int), flow := flowF (roundI a d) d, pot := [], side := [], cycle := roundL a d : Cert } != (0 : Int)) = false →
 (0 : Nat) + (flowF (roundI a d) d).length ≤ (1000000000 : Nat) ∧
 (↑(flowF (roundI a d) d).length : Int) ≠ (0 : Int) ∧
 ((0 : Int) ≤ (IntKind.i64.wrap k).tmod (↑(flowF (roundI a d) d).length : Int) ∧
 (IntKind.i64.wrap k).tmod (↑(flowF (roundI a d) d).length : Int) < (↑(flowF (roundI a d) d).length : Int)) ∧
 ((IntKind.i64.wrap k).tmod (↑(flowF (roundI a d) d).length : Int)).toNat < (flowF (roundI a d) d).length ∧
 (0 : Nat) + (roundL a d).length ≤ (1000000000 : Nat) ∧
 ((0 : Int) ≤ (0 : Int) ∧ (0 : Int) < (↑(roundL a d).length : Int)) ∧
 Int.toNat (0 : Int) < (roundL a d).length ∧
 ∀ (x : Int),
 (roundL a d)[Int.toNat (0 : Int)]? = some x →
 (roundL a d).length + (1 : Nat) ≤ (1000000000 : Nat) ∧
 True ∧
 (true = true →
 (CertOk
 { kind := (3 : Int), flow := (flowF (roundI a d) d).set ((IntKind.i64.wrap k).tmod (↑(flowF (roundI a d) d).length : Int)).toNat (-1 : Int), pot := [], side := [], cycle := roundL a d : Cert } ∧
 InstOk (roundI a d)) ∧
 ((CertRay_a0 a d k) =
 true →
 (CertOk { kind := (3 : Int), flow := flowF (roundI a d) d, pot := [], side := [], cycle := [] : Cert } ∧ InstOk (roundI a d)) ∧
 ((checkF (roundI a d) { kind := (3 : Int), flow := flowF (roundI a d) d, pot := [], side := [], cycle := [] : Cert } == (30 : Int)) =
 true →
 (CertOk { kind := (3 : Int), flow := flowF (roundI a d) d, pot := [], side := [], cycle := roundL a d ++ [x] : Cert } ∧
 InstOk (roundI a d)) ∧
 ((checkF (roundI a d)
 { kind := (3 : Int), flow := flowF (roundI a d) d, pot := [], side := [], cycle := roundL a d ++ [x] : Cert } ==
 (35 : Int)) =
 true →
 (true = true ∧ True) ∧ True) ∧
 ((checkF (roundI a d)
 { kind := (3 : Int), flow := flowF (roundI a d) d, pot := [], side := [], cycle := roundL a d ++ [x] : Cert } ==
 (35 : Int)) =
 false →
 (CertOk { kind := (3 : Int), flow := flowF (roundI a d) d, pot := [], side := [], cycle := roundL a d ++ [x] : Cert } ∧
 InstOk (roundI a d)) ∧
 ((checkF (roundI a d)
 { kind := (3 : Int), flow := flowF (roundI a d) d, pot := [], side := [], cycle := roundL a d ++ [x] : Cert } ==
 (30 : Int)) =
 true ∧
 True) ∧
 True)) ∧
 ((checkF (roundI a d) { kind := (3 : Int), flow := flowF (roundI a d) d, pot := [], side := [], cycle := [] : Cert } == (30 : Int)) =
 false →
 (false = true ∧ True) ∧ True)) ∧
 ((CertRay_a0 a d k) =
 false →
 (false = true ∧ True) ∧ True)) ∧
 (true = false → (false = true ∧ True) ∧ True))
theorem CertRay_q (a : List Int) (d : List Int) (k : Int) (ty0 ty1 : TypeId) : CertRay_E0 a d k ty0 ty1 = FVcP TT CertRay_g (CertRay_I a d k) (CertRay_an a d k) Try.f13 [.row 0, .row 1, .int .u8 k] [(0, .row false ty0 (.ints .u8 a)), (1, .row false ty1 (.ints .u8 d))] (CertRay_r a d k) := by kernel_rfl
theorem CertRay_E (a : List Int) (d : List Int) (k : Int) (ty0 ty1 : TypeId) (hp : Bytes a ∧ Bytes d ∧ a.length ≤ maxLen ∧ d.length ≤ maxLen ∧ 0 ≤ k ∧ k ≤ 255) : FVc TT CertRay_g (CertRay_I a d k) (CertRay_an a d k) Try.f13 [.row 0, .row 1, .int .u8 k] [(0, .row false ty0 (.ints .u8 a)), (1, .row false ty1 (.ints .u8 d))] (CertRay_r a d k) := by
  refine FVc.of (CertRay_E0 a d k ty0 ty1) (CertRay_q a d k ty0 ty1) ?_
  unfold CertRay_E0
  delta CertRay_a0
  obtain ⟨b1, b2, b3, b4, k0, k1⟩ := hp
  have hr := roundI_right a d
  have hio := instOk_of hr
  have hrs := right_small hr
  have hFl := flowF_len (roundI a d) d
  have hF0 := roundI_flow a d d
  have hF := roundI_A64 a d d
  have hLl := roundL_le a d
  have hLp := roundL_pos a d
  have hIl := roundI_len a d
  obtain ⟨-, -, -, hL⟩ := right_A64 hr
  have hkw : IntKind.i64.wrap k = k := w64 (by omega) (by omega)
  simp only [hkw]
  refine ⟨⟨b1, b2, b3, b4⟩, ⟨b2, by omega, hL⟩, ?_⟩
  generalize roundI a d = I at *
  generalize roundL a d = L at *
  have chk : ∀ c : Cert, plainF c = true → checkF I c = if c.kind = 1 then slackF I c.flow c.pot else if c.kind = 2 then provesF I c.side else if fitsF I c.flow ≠ 0 then fitsF I c.flow else turnsF I c.cycle := fun c hc => by
    unfold checkF; rw [if_neg (fun h => h hr), if_neg (by rw [hc]; simp)]
  generalize flowF I d = F at *
  have ok : ∀ (x l : List Int), A64 x → x.length ≤ 1000 → l.length ≤ 1000 → CertOk ⟨3, x, [], [], l⟩ := fun x l h1 h2 h3 => ⟨h1, by simp [A64], by dsimp only; omega, by simp, by simp, by dsimp only; omega⟩
  have c3 : ∀ (x l : List Int), checkF I ⟨3, x, [], [], l⟩ = if fitsF I x ≠ 0 then fitsF I x else turnsF I l := fun x l => by rw [chk _ rfl]; rfl
  have o1 := ok F L hF (by omega) (by omega)
  refine ⟨⟨o1, hio⟩, ?_⟩
  by_cases h0 : checkF I ⟨3, F, [], [], L⟩ = 0
  · have hm0 : 0 ≤ k.tmod (F.length : Int) := Int.tmod_nonneg _ k0
    have hm1 : k.tmod (F.length : Int) < F.length := Int.tmod_lt_of_pos _ (by omega)
    have hfit : fitsF I F = 0 := by
      rw [c3] at h0
      apply Classical.byContradiction
      intro h
      rw [if_pos h] at h0
      exact h h0
    have hA : A64 (F.set (k.tmod (F.length : Int)).toNat (-1)) := hF.set (by unfold I64; omega)
    have o2 := ok _ L hA (by rw [List.length_set]; omega) (by omega)
    have o3 := ok F [] hF (by omega) (by simp)
    have e2 : checkF I ⟨3, F.set (k.tmod (F.length : Int)).toNat (-1), [], [], L⟩ = 31 := by
      have hj : (k.tmod (F.length : Int)).toNat < F.length := by omega
      generalize (k.tmod (F.length : Int)).toNat = j at *
      have hnf : fitsAll I.arcs (F.set j (-1)) = false := by
        obtain ⟨x, hx⟩ : ∃ x, I.arcs[j]? = some x := ⟨_, List.getElem?_eq_getElem (by omega)⟩
        have hb := rightF_arc hr (List.mem_of_getElem? hx)
        have key : ∀ (l : List Arc) (y : List Int) (i : Nat) (b : Arc), l[i]? = some b → fitF b (y.getD i 0) = false → fitsAll l y = false := fun l => by
          induction l with
          | nil => intro y i b h; simp at h
          | cons c l ih =>
            intro y i b h h2
            rw [fitsAll]
            cases i with
            | zero => simp at h; subst h; rw [headD_getD, h2]; rfl
            | succ i => rw [ih y.tail i b (by simpa using h) (by rw [tail_getD]; exact h2)]; simp
        refine key _ _ j x hx ?_
        rw [List.getD_eq_getElem?_getD, List.getElem?_set_self hj]
        unfold fitF
        simp
        omega
      have hf31 : fitsF I (F.set j (-1)) = 31 := by
        unfold fitsF
        rw [if_neg (fun h => h hr), if_neg (by rw [List.length_set]; omega), hnf]
        rfl
      rw [c3, hf31]; rfl
    have e3 : checkF I ⟨3, F, [], [], []⟩ = 30 := by
      rw [c3, if_neg (fun h => h hfit)]
      unfold turnsF
      rw [if_neg (fun h => h hr), if_pos (.inl rfl)]
    refine ⟨fun h => absurd h0 (by simpa using h), fun _ => ?_⟩
    simp only [eq_self, exists_const, forall_const, decide_eq_true_eq, decide_eq_false_iff_not, and_true, true_and, bne_iff_ne, ne_eq, bne_eq_false_iff_eq, Int.toNat_natCast, Bool.not_eq_true', Bool.not_eq_false', beq_iff_eq, beq_eq_false_iff_ne, nilEq_true]
    refine ⟨by omega, by omega, by omega, by omega, by omega, by omega, by omega, fun x hx => ?_⟩
    have hxl : x ∈ L := List.mem_of_getElem? hx
    have o4 := ok F (L ++ [x]) hF (by omega) (by rw [List.length_append, List.length_singleton]; omega)
    have e4 : checkF I ⟨3, F, [], [], L ++ [x]⟩ = 35 ∨ checkF I ⟨3, F, [], [], L ++ [x]⟩ = 30 := by
      rw [c3, if_neg (fun h => h hfit)]
      unfold turnsF
      rw [if_neg (fun h => h hr)]
      by_cases h : (L ++ [x]).length = 0 ∨ I.arcs.length < (L ++ [x]).length
      · right; rw [if_pos h]
      · left
        rw [if_neg h]
        have hc : c2F (L ++ [x]) = false := by
          unfold c2F
          refine decide_eq_false fun hn => ?_
          rw [List.nodup_append] at hn
          exact hn.2.2 x hxl x (by simp) rfl
        rw [hc]; simp
    refine ⟨by omega, ?_⟩
    rcases e4 with e4 | e4 <;> simp [e2, e3, e4, o2, o3, o4, hio]
  · refine ⟨fun _ => ⟨trivial, ⟨trivial, trivial⟩, trivial⟩, fun h => absurd (by simpa using h) h0⟩
theorem CertRay_ok : SpecOk Try.prog CertRay_n true (specOf true CertRay_fs) :=
  spec_ok' TT_ok (show GsOk Try.prog CertRay_g from gsOk_cons Round_ok (gsOk_cons Flow_ok (gsOk_cons Check_ok (gsOk_cons known13_ok (gsOk_nil))))) (by kernel_rfl) mixedOrders Try.func13 rfl rfl (by kernel_rfl) (n := 3) (by decide +kernel) (I := CertRay_IA) (fun _ _ => isOk_nil) (A := CertRay_A)
    (fun args h r hr => by
      unfold CertRay_fs at hr
      split at hr
      · rename_i k ty0 a ty1 d; cases hr; refine ⟨rfl, fun hp => ?_⟩; have hE := CertRay_E a d k ty0 ty1 hp; exact hE
      · cases hr)
abbrev CertCopy_a0 (c : Cert) := (c.kind = c.kind ∧ True ∧ True ∧ True ∧ True ∧ True)
abbrev CertCopy_a1 (c : Cert) := ({ kind := c.kind, flow := c.flow, pot := c.pot, side := c.side, cycle := c.cycle : Cert } =
 { kind := c.kind, flow := c.flow, pot := c.pot, side := c.side, cycle := c.cycle : Cert })
abbrev CertCopy_a2 (c : Cert) := (c.flow.length ≤ (1000000000 : Nat) ∧
 c.pot.length ≤ (1000000000 : Nat) ∧
 c.side.length ≤ (1000000000 : Nat) ∧ c.cycle.length ≤ (1000000000 : Nat))
abbrev CertCopy_a3 (c : Cert) := (c.flow.length ≤ (1000000000 : Nat) ∧ c.pot.length ≤ (1000000000 : Nat) ∧ c.side.length ≤ (1000000000 : Nat) ∧ c.cycle.length ≤ (1000000000 : Nat))
def CertCopy_E0 (c : Cert) (ty0 ty1 ty2 ty3 : TypeId) : Prop :=
      CertOk { kind := c.kind, flow := c.flow, pot := c.pot, side := c.side, cycle := c.cycle : Cert } ∧
 (decide ((↑c.flow.length : Int) + (↑c.pot.length : Int) + (↑c.side.length : Int) + (↑c.cycle.length : Int) > (300 : Int)) = true → True ∧ (true = true ∧ True) ∧ True) ∧
 (decide ((↑c.flow.length : Int) + (↑c.pot.length : Int) + (↑c.side.length : Int) + (↑c.cycle.length : Int) > (300 : Int)) = false →
 (0 : Nat) + c.flow.length ≤ (1000000000 : Nat) ∧
 (0 : Nat) + c.pot.length ≤ (1000000000 : Nat) ∧
 (0 : Nat) + c.side.length ≤ (1000000000 : Nat) ∧
 (0 : Nat) + c.cycle.length ≤ (1000000000 : Nat) ∧
 (CertCopy_a3 c) ∧
 (CertCopy_a3 c) ∧
 ∃ (g0 : Nat × List Int),
 ((g0.fst ≤ g0.snd.length ∧ g0.snd.length = c.flow.length) ∧
 ((0 : Nat) = (0 : Nat) ∧
 (0 : Nat) = (0 : Nat) ∧
 (0 : Nat) = (0 : Nat) ∧
 decide
 (CertCopy_a1 c) =
 decide (c = c) ∧
 (0 : Int) = (↑g0.1 : Int) ∧ True) ∧
 (CertCopy_a0 c) ∧
 c.flow = g0.2 ∧
 c.pot = c.pot ∧
 c.side = c.side ∧
 c.cycle = c.cycle ∧
 c.cycle = c.cycle ∧
 c.side = c.side ∧
 c.pot = c.pot ∧
 c.flow = c.flow ∧
 (CertCopy_a0 c) ∧
 (CertCopy_a0 c) ∧ c.flow = c.flow ∧ c.pot = c.pot ∧ c.side = c.side ∧ c.cycle = c.cycle ∧ True) ∧
 ∀ (g : Nat × List Int),
 g.fst ≤ g.snd.length ∧ g.snd.length = c.flow.length →
 (decide ((↑g.1 : Int) < (↑g.2.length : Int)) = true →
 ((0 : Int) ≤ (↑g.1 : Int) ∧ (↑g.1 : Int) < (↑g.2.length : Int)) ∧
 (↑g.1 : Int).toNat < g.2.length ∧
 ∀ (x : Int),
 g.2[(↑g.1 : Int).toNat]? = some x →
 ((0 : Int) ≤ (↑g.1 : Int) ∧ (↑g.1 : Int) < (↑g.2.length : Int)) ∧
 (↑g.1 : Int).toNat < g.2.length ∧
 ∃ (g' : Nat × List Int),
 (g'.fst ≤ g'.snd.length ∧ g'.snd.length = c.flow.length) ∧
 g'.snd.length - g'.fst < g.snd.length - g.fst ∧
 ((0 : Nat) = (0 : Nat) ∧
 (0 : Nat) = (0 : Nat) ∧
 (0 : Nat) = (0 : Nat) ∧
 decide (c = c) = decide (c = c) ∧ IntKind.i64.wrap ((↑g.1 : Int) + (1 : Int)) = (↑g'.1 : Int) ∧ True) ∧
 (CertCopy_a0 c) ∧
 g.2.set (↑g.1 : Int).toNat (IntKind.i64.wrap (x + (1 : Int))) = g'.2 ∧
 c.pot = c.pot ∧
 c.side = c.side ∧
 c.cycle = c.cycle ∧
 c.cycle = c.cycle ∧
 c.side = c.side ∧
 c.pot = c.pot ∧
 c.flow = c.flow ∧
 (CertCopy_a0 c) ∧
 (CertCopy_a0 c) ∧
 c.flow = c.flow ∧ c.pot = c.pot ∧ c.side = c.side ∧ c.cycle = c.cycle ∧ True) ∧
 (decide ((↑g.1 : Int) < (↑g.2.length : Int)) = false →
 ∃ (g0 : Nat × List Int × List Int),
 ((g0.fst ≤ g0.2.snd.length ∧ g0.2.snd.length = c.pot.length) ∧
 ((0 : Nat) = (0 : Nat) ∧ (0 : Nat) = (0 : Nat) ∧ (0 : Nat) = (0 : Nat) ∧ decide (c = c) = decide (c = c) ∧ (0 : Int) = (↑g0.1 : Int) ∧ True) ∧
 (CertCopy_a0 c) ∧
 g.2 = g0.2.1 ∧
 c.pot = g0.2.2 ∧
 c.side = c.side ∧
 c.cycle = c.cycle ∧
 c.cycle = c.cycle ∧
 c.side = c.side ∧
 c.pot = c.pot ∧
 c.flow = c.flow ∧
 (CertCopy_a0 c) ∧
 (CertCopy_a0 c) ∧
 c.flow = c.flow ∧ c.pot = c.pot ∧ c.side = c.side ∧ c.cycle = c.cycle ∧ True) ∧
 ∀ (g : Nat × List Int × List Int),
 g.fst ≤ g.2.snd.length ∧ g.2.snd.length = c.pot.length →
 (decide ((↑g.1 : Int) < (↑g.2.2.length : Int)) = true →
 ((0 : Int) ≤ (↑g.1 : Int) ∧ (↑g.1 : Int) < (↑g.2.2.length : Int)) ∧
 (↑g.1 : Int).toNat < g.2.2.length ∧
 ∀ (x : Int),
 g.2.2[(↑g.1 : Int).toNat]? = some x →
 ((0 : Int) ≤ (↑g.1 : Int) ∧ (↑g.1 : Int) < (↑g.2.2.length : Int)) ∧
 (↑g.1 : Int).toNat < g.2.2.length ∧
 ∃ (g' : Nat × List Int × List Int),
 (g'.fst ≤ g'.2.snd.length ∧ g'.2.snd.length = c.pot.length) ∧
 g'.2.snd.length - g'.fst < g.2.snd.length - g.fst ∧
 ((0 : Nat) = (0 : Nat) ∧
 (0 : Nat) = (0 : Nat) ∧
 (0 : Nat) = (0 : Nat) ∧
 decide (c = c) = decide (c = c) ∧ IntKind.i64.wrap ((↑g.1 : Int) + (1 : Int)) = (↑g'.1 : Int) ∧ True) ∧
 (CertCopy_a0 c) ∧
 g.2.1 = g'.2.1 ∧
 g.2.2.set (↑g.1 : Int).toNat (IntKind.i64.wrap (x - (1 : Int))) = g'.2.2 ∧
 c.side = c.side ∧
 c.cycle = c.cycle ∧
 c.cycle = c.cycle ∧
 c.side = c.side ∧
 c.pot = c.pot ∧
 c.flow = c.flow ∧
 (CertCopy_a0 c) ∧
 (CertCopy_a0 c) ∧
 c.flow = c.flow ∧ c.pot = c.pot ∧ c.side = c.side ∧ c.cycle = c.cycle ∧ True) ∧
 (decide ((↑g.1 : Int) < (↑g.2.2.length : Int)) = false →
 ∃ (g0 : Nat × List Int × List Int × List Bool),
 ((g0.fst ≤ g0.2.2.snd.length ∧ g0.2.2.snd.length = c.side.length) ∧
 ((0 : Nat) = (0 : Nat) ∧
 (0 : Nat) = (0 : Nat) ∧ (0 : Nat) = (0 : Nat) ∧ decide (c = c) = decide (c = c) ∧ (0 : Int) = (↑g0.1 : Int) ∧ True) ∧
 (CertCopy_a0 c) ∧
 g.2.1 = g0.2.1 ∧
 g.2.2 = g0.2.2.1 ∧
 c.side = g0.2.2.2 ∧
 c.cycle = c.cycle ∧
 c.cycle = c.cycle ∧
 c.side = c.side ∧
 c.pot = c.pot ∧
 c.flow = c.flow ∧
 (CertCopy_a0 c) ∧
 (CertCopy_a0 c) ∧
 c.flow = c.flow ∧ c.pot = c.pot ∧ c.side = c.side ∧ c.cycle = c.cycle ∧ True) ∧
 ∀ (g : Nat × List Int × List Int × List Bool),
 g.fst ≤ g.2.2.snd.length ∧ g.2.2.snd.length = c.side.length →
 (decide ((↑g.1 : Int) < (↑g.2.2.2.length : Int)) = true →
 ((0 : Int) ≤ (↑g.1 : Int) ∧ (↑g.1 : Int) < (↑g.2.2.2.length : Int)) ∧
 (↑g.1 : Int).toNat < g.2.2.2.length ∧
 ∀ (x : Bool),
 g.2.2.2[(↑g.1 : Int).toNat]? = some x →
 ((0 : Int) ≤ (↑g.1 : Int) ∧ (↑g.1 : Int) < (↑g.2.2.2.length : Int)) ∧
 (↑g.1 : Int).toNat < g.2.2.2.length ∧
 ∃ (g' : Nat × List Int × List Int × List Bool),
 (g'.fst ≤ g'.2.2.snd.length ∧ g'.2.2.snd.length = c.side.length) ∧
 g'.2.2.snd.length - g'.fst < g.2.2.snd.length - g.fst ∧
 ((0 : Nat) = (0 : Nat) ∧
 (0 : Nat) = (0 : Nat) ∧
 (0 : Nat) = (0 : Nat) ∧
 decide (c = c) = decide (c = c) ∧
 IntKind.i64.wrap ((↑g.1 : Int) + (1 : Int)) = (↑g'.1 : Int) ∧ True) ∧
 (CertCopy_a0 c) ∧
 g.2.1 = g'.2.1 ∧
 g.2.2.1 = g'.2.2.1 ∧
 (g.2.2.2.set (↑g.1 : Int).toNat !x) = g'.2.2.2 ∧
 c.cycle = c.cycle ∧
 c.cycle = c.cycle ∧
 c.side = c.side ∧
 c.pot = c.pot ∧
 c.flow = c.flow ∧
 (CertCopy_a0 c) ∧
 (CertCopy_a0 c) ∧
 c.flow = c.flow ∧ c.pot = c.pot ∧ c.side = c.side ∧ c.cycle = c.cycle ∧ True) ∧
 (decide ((↑g.1 : Int) < (↑g.2.2.2.length : Int)) = false →
 ∃ (g0 : Nat × List Int × List Int × List Bool × List Int),
 ((g0.fst ≤ g0.2.2.2.snd.length ∧ g0.2.2.2.snd.length = c.cycle.length) ∧
 ((0 : Nat) = (0 : Nat) ∧
 (0 : Nat) = (0 : Nat) ∧
 (0 : Nat) = (0 : Nat) ∧ decide (c = c) = decide (c = c) ∧ (0 : Int) = (↑g0.1 : Int) ∧ True) ∧
 (CertCopy_a0 c) ∧
 g.2.1 = g0.2.1 ∧
 g.2.2.1 = g0.2.2.1 ∧
 g.2.2.2 = g0.2.2.2.1 ∧
 c.cycle = g0.2.2.2.2 ∧
 c.cycle = c.cycle ∧
 c.side = c.side ∧
 c.pot = c.pot ∧
 c.flow = c.flow ∧
 (CertCopy_a0 c) ∧
 (CertCopy_a0 c) ∧
 c.flow = c.flow ∧ c.pot = c.pot ∧ c.side = c.side ∧ c.cycle = c.cycle ∧ True) ∧
 ∀ (g : Nat × List Int × List Int × List Bool × List Int),
 g.fst ≤ g.2.2.2.snd.length ∧ g.2.2.2.snd.length = c.cycle.length →
 (decide ((↑g.1 : Int) < (↑g.2.2.2.2.length : Int)) = true →
 ((0 : Int) ≤ (↑g.1 : Int) ∧ (↑g.1 : Int) < (↑g.2.2.2.2.length : Int)) ∧
 (↑g.1 : Int).toNat < g.2.2.2.2.length ∧
 ∃ (g' : Nat × List Int × List Int × List Bool × List Int),
 (g'.fst ≤ g'.2.2.2.snd.length ∧ g'.2.2.2.snd.length = c.cycle.length) ∧
 g'.2.2.2.snd.length - g'.fst < g.2.2.2.snd.length - g.fst ∧
 ((0 : Nat) = (0 : Nat) ∧
 (0 : Nat) = (0 : Nat) ∧
 (0 : Nat) = (0 : Nat) ∧
 decide (c = c) = decide (c = c) ∧
 IntKind.i64.wrap ((↑g.1 : Int) + (1 : Int)) = (↑g'.1 : Int) ∧ True) ∧
 (CertCopy_a0 c) ∧
 g.2.1 = g'.2.1 ∧
 g.2.2.1 = g'.2.2.1 ∧
 g.2.2.2.1 = g'.2.2.2.1 ∧
 g.2.2.2.2.set (↑g.1 : Int).toNat (-1 : Int) = g'.2.2.2.2 ∧
 c.cycle = c.cycle ∧
 c.side = c.side ∧
 c.pot = c.pot ∧
 c.flow = c.flow ∧
 (CertCopy_a0 c) ∧
 (CertCopy_a0 c) ∧
 c.flow = c.flow ∧ c.pot = c.pot ∧ c.side = c.side ∧ c.cycle = c.cycle ∧ True) ∧
 (decide ((↑g.1 : Int) < (↑g.2.2.2.2.length : Int)) = false →
 True ∧
 (true = true →
 (decide (c = c) = true →
 (CertCopy_a2 c) ∧
 (decide
 (CertCopy_a1 c) =
 true →
 c.flow.length ≤ (1000000000 : Nat) ∧
 (decide (c.flow = c.flow) = true →
 (CertCopy_a2 c) ∧
 (decide
 (CertCopy_a1 c) =
 true ∧
 True) ∧
 True) ∧
 (decide (c.flow = c.flow) = false → (false = true ∧ True) ∧ True)) ∧
 (decide
 (CertCopy_a1 c) =
 false →
 (false = true ∧ True) ∧ True)) ∧
 (decide (c = c) = false → (false = true ∧ True) ∧ True)) ∧
 (true = false → (false = true ∧ True) ∧ True))))))
theorem CertCopy_q (c : Cert) (ty0 ty1 ty2 ty3 : TypeId) : CertCopy_E0 c ty0 ty1 ty2 ty3 = FVcP TT CertCopy_g (CertCopy_I c) (CertCopy_an c) Try.f11 [.agg [.int .i64 c.kind, .row 0, .row 1, .row 2, .row 3]] [(0, .row false ty0 (.ints .i64 c.flow)), (1, .row false ty1 (.ints .i64 c.pot)), (2, .row false ty2 (.bools c.side)), (3, .row false ty3 (.ints .i64 c.cycle))] (CertCopy_r c) := by kernel_rfl
theorem CertCopy_E (c : Cert) (ty0 ty1 ty2 ty3 : TypeId) (hp : CertOk c) : FVc TT CertCopy_g (CertCopy_I c) (CertCopy_an c) Try.f11 [.agg [.int .i64 c.kind, .row 0, .row 1, .row 2, .row 3]] [(0, .row false ty0 (.ints .i64 c.flow)), (1, .row false ty1 (.ints .i64 c.pot)), (2, .row false ty2 (.bools c.side)), (3, .row false ty3 (.ints .i64 c.cycle))] (CertCopy_r c) := by
  refine FVc.of (CertCopy_E0 c ty0 ty1 ty2 ty3) (CertCopy_q c ty0 ty1 ty2 ty3) ?_
  unfold CertCopy_E0
  delta CertCopy_a3 CertCopy_a2 CertCopy_a1 CertCopy_a0
  have hc : CertOk ⟨c.kind, c.flow, c.pot, c.side, c.cycle⟩ := hp
  simp only [eq_self, exists_const, forall_const, decide_eq_true_eq, decide_eq_false_iff_not, and_true, true_and, bne_iff_ne, ne_eq, bne_eq_false_iff_eq, Int.toNat_natCast, Bool.not_eq_true', Bool.not_eq_false', beq_iff_eq, beq_eq_false_iff_ne, nilEq_true]
  refine ⟨hc, fun _ => trivial, fun h0 => ?_⟩
  have hw : ∀ g : Nat, g ≤ 1000 → IntKind.i64.wrap ((g : Int) + 1) = ((g + 1 : Nat) : Int) := fun g hg => by rw [w64 (by omega) (by omega)]; omega
  have sm : c.flow.length ≤ 1000000000 ∧ c.pot.length ≤ 1000000000 ∧ c.side.length ≤ 1000000000 ∧ c.cycle.length ≤ 1000000000 := by omega
  refine ⟨by omega, by omega, by omega, by omega, sm, sm, (0, c.flow), ⟨⟨by dsimp only; omega, rfl⟩, rfl, rfl⟩, fun g hg => ?_⟩
  obtain ⟨g, l⟩ := g
  dsimp only at hg ⊢
  refine ⟨fun h1 => ⟨by omega, by omega, fun x hx => ⟨by omega, by omega, (g + 1, _), ⟨?_, ?_⟩, ?_, hw g (by omega), rfl⟩⟩, fun h1 => ?_⟩
  · dsimp only; rw [List.length_set]; omega
  · dsimp only; rw [List.length_set]; omega
  · dsimp only; rw [List.length_set]; omega
  refine ⟨(0, l, c.pot), ⟨⟨by dsimp only; omega, rfl⟩, rfl, rfl, rfl⟩, fun g hg => ?_⟩
  obtain ⟨g, l2, m⟩ := g
  dsimp only at hg ⊢
  refine ⟨fun h1 => ⟨by omega, by omega, fun x hx => ⟨by omega, by omega, (g + 1, l2, _), ⟨?_, ?_⟩, ?_, hw g (by omega), rfl, rfl⟩⟩, fun h1 => ?_⟩
  · dsimp only; rw [List.length_set]; omega
  · dsimp only; rw [List.length_set]; omega
  · dsimp only; rw [List.length_set]; omega
  refine ⟨(0, l2, m, c.side), ⟨⟨by dsimp only; omega, rfl⟩, rfl, rfl, rfl, rfl⟩, fun g hg => ?_⟩
  obtain ⟨g, l3, m2, o⟩ := g
  dsimp only at hg ⊢
  refine ⟨fun h1 => ⟨by omega, by omega, fun x hx => ⟨by omega, by omega, (g + 1, l3, m2, _), ⟨?_, ?_⟩, ?_, hw g (by omega), rfl, rfl, rfl⟩⟩, fun h1 => ?_⟩
  · dsimp only; rw [List.length_set]; omega
  · dsimp only; rw [List.length_set]; omega
  · dsimp only; rw [List.length_set]; omega
  refine ⟨(0, l3, m2, o, c.cycle), ⟨⟨by dsimp only; omega, rfl⟩, rfl, rfl, rfl, rfl, rfl⟩, fun g hg => ?_⟩
  obtain ⟨g, l4, m3, o2, p⟩ := g
  dsimp only at hg ⊢
  refine ⟨fun h1 => ⟨by omega, by omega, (g + 1, l4, m3, o2, _), ⟨?_, ?_⟩, ?_, hw g (by omega), rfl, rfl, rfl, rfl⟩, fun h1 => ?_⟩
  · dsimp only; rw [List.length_set]; omega
  · dsimp only; rw [List.length_set]; omega
  · dsimp only; rw [List.length_set]; omega
  simp [sm]
theorem CertCopy_ok : SpecOk Try.prog CertCopy_n true (specOf true CertCopy_fs) :=
  spec_ok' TT_ok (show GsOk Try.prog CertCopy_g from gsOk_cons LongC_ok (gsOk_cons known13_ok (gsOk_cons CopyC_ok (gsOk_cons SameC_ok (gsOk_cons rSameC_ok (gsOk_cons Nums_ok (gsOk_nil))))))) (by kernel_rfl) mixedOrders Try.func11 rfl rfl (by kernel_rfl) (n := 1) (by decide +kernel) (I := CertCopy_IA) (fun _ _ => isOk_nil) (A := CertCopy_A)
    (fun args h r hr => by
      unfold CertCopy_fs at hr
      split at hr
      · rename_i c_k ty0 c_f ty1 c_p ty2 c_s ty3 c_y; cases hr; refine ⟨rfl, fun hp => ?_⟩; have hE := CertCopy_E ⟨c_k, c_f, c_p, c_s, c_y⟩ ty0 ty1 ty2 ty3 hp; exact hE
      · cases hr)
end Go.Proofs.Ytahbkllfifmdfaa
