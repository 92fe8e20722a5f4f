/- Part of the proof, FA3. -/
import Derived.Test.YtggblkbecekbdaaZFA2
import Derived.Test.YtggblkbecekbdaaZDA3
import Derived.Test.YtggblkbecekbdaaZVc11
set_option linter.unusedVariables false
set_option linter.all false
set_option linter.unusedSimpArgs false
set_option maxRecDepth 100000
namespace Go.Proofs.Ytggblkbecekbdaa
open Go Go.RowKit Go.Ql Go.Vc
def Copy_E0 (I : Inst) (ty0 ty1 : TypeId) : Prop :=
      I.sup.length ≤ (1000000000 : Nat) ∧ I.arcs.length ≤ (1000000000 : Nat) ∧ ((True ∧ True ∧ True) ∧ True) ∧ I.sup = I.sup ∧ I.arcs = I.arcs ∧ True
theorem Copy_q (I : Inst) (ty0 ty1 : TypeId) : Copy_E0 I ty0 ty1 = FVcP TT Copy_g (Copy_I I) (Copy_an I) Try.f64 [.agg [.row 0, .row 1]] [(0, .row false ty0 (.ints .i64 I.sup)), (1, .row false ty1 (.arcs I.arcs))] (Copy_r I) := by kernel_rfl
theorem Copy_E (I : Inst) (ty0 ty1 : TypeId) (hp : I.sup.length ≤ 1000000000 ∧ I.arcs.length ≤ 1000000000) : FVc TT Copy_g (Copy_I I) (Copy_an I) Try.f64 [.agg [.row 0, .row 1]] [(0, .row false ty0 (.ints .i64 I.sup)), (1, .row false ty1 (.arcs I.arcs))] (Copy_r I) := by
  refine FVc.of (Copy_E0 I ty0 ty1) (Copy_q I ty0 ty1) ?_
  unfold Copy_E0
  simp [hp]
theorem Copy_ok : SpecOk Try.prog Copy_n true (specOf true Copy_fs) :=
  spec_ok' TT_ok (show GsOk Try.prog Copy_g from gsOk_cons takeI_ok (gsOk_cons takeA_ok (gsOk_nil))) (by kernel_rfl) mixedOrders Try.func64 rfl rfl (by kernel_rfl) (n := 1) (by decide +kernel) (I := Copy_IA) (fun _ _ => isOk_nil) (A := Copy_A)
    (fun args h r hr => by
      unfold Copy_fs at hr
      split at hr
      · rename_i ty0 I_s ty1 I_a; cases hr; refine ⟨rfl, fun hp => ?_⟩; have hE := Copy_E ⟨I_s, I_a⟩ ty0 ty1 hp; exact hE
      · cases hr)
abbrev Arcs_a0 (many : Int) (g : Nat × List Arc) (g' : Nat × List Arc) := (True ∧
 many = many ∧
 True ∧
 IntKind.i64.wrap ((4 : Int) * (↑g.1 : Int) + (4 : Int)) =
 (4 : Int) * (↑g'.1 : Int) ∧
 True)
abbrev Arcs_a1 (g' : Nat × List Arc) (c : List Int) (many : Int) := (g'.fst ≤ (18 : Nat) ∧
 g'.snd.length ≤ g'.fst ∧
 g'.snd ++ arcsGo c many ((18 : Nat) - g'.fst) ((4 : Nat) * g'.fst) =
 arcsF c many)
abbrev Arcs_a2 (x_2 : Int) (x_4 : Int) := (IntKind.i64.wrap (x_2.tmod (3 : Int)) + IntKind.i64.wrap ((IntKind.u8.wrap (x_4.tdiv (3 : Int))).tmod (6 : Int)))
abbrev Arcs_a3 (x_1 : Int) := (IntKind.i64.wrap (IntKind.u8.wrap (x_1.tdiv (16 : Int))))
abbrev Arcs_a4 (g : Nat × List Arc) := (IntKind.i64.wrap ((4 : Int) * (↑g.1 : Int) + (1 : Int)))
abbrev Arcs_a5 (g : Nat × List Arc) (c : List Int) := ((0 : Int) ≤ IntKind.i64.wrap ((4 : Int) * (↑g.1 : Int) + (1 : Int)) ∧
 IntKind.i64.wrap ((4 : Int) * (↑g.1 : Int) + (1 : Int)) < (↑c.length : Int))
def Arcs_E0 (c : List Int) (many : Int) (ty0 : TypeId) : Prop :=
      ∃ (g0 : Nat × List Arc),
 ((g0.fst ≤ (18 : Nat) ∧ g0.snd.length ≤ g0.fst ∧ g0.snd ++ arcsGo c many ((18 : Nat) - g0.fst) ((4 : Nat) * g0.fst) = arcsF c many) ∧
 (True ∧ many = many ∧ True ∧ (0 : Int) = (4 : Int) * (↑g0.1 : Int) ∧ True) ∧ [] = g0.2 ∧ c = c ∧ True) ∧
 ∀ (g : Nat × List Arc),
 g.fst ≤ (18 : Nat) ∧ g.snd.length ≤ g.fst ∧ g.snd ++ arcsGo c many ((18 : Nat) - g.fst) ((4 : Nat) * g.fst) = arcsF c many →
 (decide (IntKind.i64.wrap ((4 : Int) * (↑g.1 : Int) + (3 : Int)) < (↑c.length : Int)) = true →
 (decide ((4 : Int) * (↑g.1 : Int) < (72 : Int)) = true →
 ((0 : Int) ≤ (4 : Int) * (↑g.1 : Int) ∧ (4 : Int) * (↑g.1 : Int) < (↑c.length : Int)) ∧
 ((4 : Int) * (↑g.1 : Int)).toNat < c.length ∧
 ∀ (x : Int),
 c[((4 : Int) * (↑g.1 : Int)).toNat]? = some x →
 many ≠ (0 : Int) ∧
 ((0 : Int) ≤ (4 : Int) * (↑g.1 : Int) ∧ (4 : Int) * (↑g.1 : Int) < (↑c.length : Int)) ∧
 ((4 : Int) * (↑g.1 : Int)).toNat < c.length ∧
 ∀ (x_1 : Int),
 c[((4 : Int) * (↑g.1 : Int)).toNat]? = some x_1 →
 (16 : Int) ≠ (0 : Int) ∧
 many ≠ (0 : Int) ∧
 (Arcs_a5 g c) ∧
 (Arcs_a4 g).toNat < c.length ∧
 ∀ (x_2 : Int),
 c[(Arcs_a4 g).toNat]? = some x_2 →
 (3 : Int) ≠ (0 : Int) ∧
 ((0 : Int) ≤ IntKind.i64.wrap ((4 : Int) * (↑g.1 : Int) + (2 : Int)) ∧
 IntKind.i64.wrap ((4 : Int) * (↑g.1 : Int) + (2 : Int)) < (↑c.length : Int)) ∧
 (IntKind.i64.wrap ((4 : Int) * (↑g.1 : Int) + (2 : Int))).toNat < c.length ∧
 ∀ (x_3 : Int),
 c[(IntKind.i64.wrap ((4 : Int) * (↑g.1 : Int) + (2 : Int))).toNat]? = some x_3 →
 (21 : Int) ≠ (0 : Int) ∧
 (Arcs_a5 g c) ∧
 (Arcs_a4 g).toNat < c.length ∧
 ∀ (x_4 : Int),
 c[(Arcs_a4 g).toNat]? = some x_4 →
 (3 : Int) ≠ (0 : Int) ∧
 (6 : Int) ≠ (0 : Int) ∧
 ((0 : Int) ≤ IntKind.i64.wrap ((4 : Int) * (↑g.1 : Int) + (3 : Int)) ∧
 IntKind.i64.wrap ((4 : Int) * (↑g.1 : Int) + (3 : Int)) < (↑c.length : Int)) ∧
 (IntKind.i64.wrap ((4 : Int) * (↑g.1 : Int) + (3 : Int))).toNat < c.length ∧
 ∀ (x_5 : Int),
 c[(IntKind.i64.wrap ((4 : Int) * (↑g.1 : Int) + (3 : Int))).toNat]? = some x_5 →
 (8 : Int) ≠ (0 : Int) ∧
 ((x_5.tmod (8 : Int) == (0 : Int)) = true →
 g.2.length + (1 : Nat) ≤ (1000000000 : Nat) ∧
 ∃ (g' : Nat × List Arc),
 (g'.fst ≤ (18 : Nat) ∧
 g'.snd.length ≤ g'.fst ∧
 g'.snd ++ arcsGo c many ((18 : Nat) - g'.fst) ((4 : Nat) * g'.fst) = arcsF c many) ∧
 (18 : Nat) - g'.fst < (18 : Nat) - g.fst ∧
 (Arcs_a0 many g g') ∧
 g.2 ++
 [{ src := (IntKind.i64.wrap x).tmod many, dst := (Arcs_a3 x_1).tmod many, low := IntKind.i64.wrap (x_2.tmod (3 : Int)), cap := (4611686018427387904 : Int), cost := IntKind.i64.wrap (IntKind.i64.wrap (x_3.tmod (21 : Int)) - (8 : Int)) : Arc }] =
 g'.2 ∧
 c = c ∧ True) ∧
 ((x_5.tmod (8 : Int) == (0 : Int)) = false →
 ((x_5.tmod (8 : Int) == (1 : Int)) = true →
 g.2.length + (1 : Nat) ≤ (1000000000 : Nat) ∧
 ∃ (g' : Nat × List Arc),
 (Arcs_a1 g' c many) ∧
 (18 : Nat) - g'.fst < (18 : Nat) - g.fst ∧
 (Arcs_a0 many g g') ∧
 g.2 ++
 [{ src := (IntKind.i64.wrap x).tmod many, dst := (Arcs_a3 x_1).tmod many, low := (0 : Int), cap := IntKind.i64.wrap (Arcs_a2 x_2 x_4), cost := IntKind.i64.wrap (IntKind.i64.wrap (x_3.tmod (21 : Int)) - (8 : Int)) : Arc }] =
 g'.2 ∧
 c = c ∧ True) ∧
 ((x_5.tmod (8 : Int) == (1 : Int)) = false →
 ((x_5.tmod (8 : Int) == (2 : Int)) = true →
 g.2.length + (1 : Nat) ≤ (1000000000 : Nat) ∧
 ∃ (g' : Nat × List Arc),
 (Arcs_a1 g' c many) ∧
 (18 : Nat) - g'.fst < (18 : Nat) - g.fst ∧
 (Arcs_a0 many g g') ∧
 g.2 ++
 [{ src := (IntKind.i64.wrap x).tmod many, dst := (Arcs_a3 x_1).tmod many, low := IntKind.i64.wrap (x_2.tmod (3 : Int)), cap := IntKind.i64.wrap (Arcs_a2 x_2 x_4), cost := (0 : Int) : Arc }] =
 g'.2 ∧
 c = c ∧ True) ∧
 ((x_5.tmod (8 : Int) == (2 : Int)) = false →
 g.2.length + (1 : Nat) ≤ (1000000000 : Nat) ∧
 ∃ (g' : Nat × List Arc),
 (Arcs_a1 g' c many) ∧
 (18 : Nat) - g'.fst < (18 : Nat) - g.fst ∧
 (Arcs_a0 many g g') ∧
 g.2 ++
 [{ src := (IntKind.i64.wrap x).tmod many, dst := (Arcs_a3 x_1).tmod many, low := IntKind.i64.wrap (x_2.tmod (3 : Int)), cap := IntKind.i64.wrap (Arcs_a2 x_2 x_4), cost := IntKind.i64.wrap (IntKind.i64.wrap (x_3.tmod (21 : Int)) - (8 : Int)) : Arc }] =
 g'.2 ∧
 c = c ∧ True)))) ∧
 (decide ((4 : Int) * (↑g.1 : Int) < (72 : Int)) = false → (True ∧ True) ∧ g.2 = arcsF c many ∧ True)) ∧
 (decide (IntKind.i64.wrap ((4 : Int) * (↑g.1 : Int) + (3 : Int)) < (↑c.length : Int)) = false → (True ∧ True) ∧ g.2 = arcsF c many ∧ True)
theorem Arcs_q (c : List Int) (many : Int) (ty0 : TypeId) : Arcs_E0 c many ty0 = FVcP TT Arcs_g (Arcs_I c many) (Arcs_an c many) Try.f29 [.row 0, .int .i64 many] [(0, .row false ty0 (.ints .u8 c))] (Arcs_r c many) := by kernel_rfl
theorem Arcs_E (c : List Int) (many : Int) (ty0 : TypeId) (hp : Bytes c ∧ 1 ≤ many ∧ many ≤ 1000) : FVc TT Arcs_g (Arcs_I c many) (Arcs_an c many) Try.f29 [.row 0, .int .i64 many] [(0, .row false ty0 (.ints .u8 c))] (Arcs_r c many) := by
  refine FVc.of (Arcs_E0 c many ty0) (Arcs_q c many ty0) ?_
  unfold Arcs_E0
  delta Arcs_a5 Arcs_a4 Arcs_a3 Arcs_a2 Arcs_a1 Arcs_a0
  simp only [eq_self, decide_eq_true_eq, decide_eq_false_iff_not, and_true, true_and, bne_iff_ne, ne_eq, bne_eq_false_iff_eq, Int.toNat_natCast, Bool.not_eq_true', Bool.not_eq_false', beq_iff_eq, beq_eq_false_iff_ne]
  obtain ⟨hb, hm1, hm2⟩ := hp
  refine ⟨(0, []), by simp [arcsF], fun g hg => ?_⟩
  obtain ⟨k, l⟩ := g
  dsimp only at hg ⊢
  obtain ⟨g1, g2, g3⟩ := hg
  have e0 : ∀ j : Int, 0 ≤ j → j ≤ 3 → IntKind.i64.wrap (4 * (k : Int) + j) = 4 * (k : Int) + j := fun j h1 h2 => w64 (by omega) (by omega)
  rw [e0 3 (by omega) (by omega), e0 1 (by omega) (by omega), e0 2 (by omega) (by omega)]
  have t0 : (4 * (k : Int)).toNat = 4 * k := by omega
  have t1 : (4 * (k : Int) + 1).toNat = 4 * k + 1 := by omega
  have t2 : (4 * (k : Int) + 2).toNat = 4 * k + 2 := by omega
  have t3 : (4 * (k : Int) + 3).toNat = 4 * k + 3 := by omega
  rw [t0, t1, t2, t3]
  have hend : (18 ≤ k ∨ c.length ≤ 4 * k + 3) → l = arcsF c many := fun h => by
    rw [← g3]
    by_cases h18 : 18 - k = 0
    · rw [h18]; simp [arcsGo]
    · rw [show 18 - k = (17 - k) + 1 by omega, arcsGo, if_neg (by omega)]; simp
  refine ⟨fun h1 => ⟨fun h2 => ⟨by omega, by omega, fun x hx => ⟨by omega, by omega, by omega, fun x1 hx1 => ⟨by omega, by omega, by omega, by omega, fun x2 hx2 => ⟨by omega, by omega, by omega, fun x3 hx3 => ⟨by omega, by omega, by omega, fun x4 hx4 => ⟨by omega, by omega, by omega, by omega, fun x5 hx5 => ?_⟩⟩⟩⟩⟩⟩, fun h2 => hend (by omega)⟩, fun h1 => hend (by omega)⟩
  rw [hx] at hx1
  rw [hx2] at hx4
  cases hx1
  cases hx4
  have bx := hb x (List.mem_of_getElem? hx)
  have bx2 := hb x2 (List.mem_of_getElem? hx2)
  have bx3 := hb x3 (List.mem_of_getElem? hx3)
  have bx5 := hb x5 (List.mem_of_getElem? hx5)
  have hstep : l ++ [arcOf x x2 x3 x5 many] ++ arcsGo c many (18 - (k + 1)) (4 * (k + 1)) = arcsF c many := by
    rw [← g3, show 18 - k = (18 - (k + 1)) + 1 by omega, arcsGo, if_pos (by omega)]
    simp only [List.getD, hx, hx2, hx3, hx5, Option.getD_some, List.append_assoc, List.cons_append, List.nil_append]
    rw [show 4 * k + 4 = 4 * (k + 1) by omega]
  have r1 : x5.tmod 8 = x5 % 8 := tmod_pos bx5.1
  have r2 : IntKind.i64.wrap x = x := w64 (by omega) (by omega)
  have r3 : x.tmod many = x % many := tmod_pos bx.1
  have r4 : x.tdiv 16 = x / 16 := tdiv_pos bx.1
  have r5 : IntKind.u8.wrap (x / 16) = x / 16 := wu8 (by omega) (by omega)
  have r6 : IntKind.i64.wrap (x / 16) = x / 16 := w64 (by omega) (by omega)
  have r7 : (x / 16).tmod many = x / 16 % many := tmod_pos (by omega)
  have r8 : x2.tmod 3 = x2 % 3 := tmod_pos bx2.1
  have r9 : IntKind.i64.wrap (x2 % 3) = x2 % 3 := w64 (by omega) (by omega)
  have r10 : x3.tmod 21 = x3 % 21 := tmod_pos bx3.1
  have r11 : IntKind.i64.wrap (x3 % 21) = x3 % 21 := w64 (by omega) (by omega)
  have r12 : IntKind.i64.wrap (x3 % 21 - 8) = x3 % 21 - 8 := w64 (by omega) (by omega)
  have r13 : x2.tdiv 3 = x2 / 3 := tdiv_pos bx2.1
  have r14 : IntKind.u8.wrap (x2 / 3) = x2 / 3 := wu8 (by omega) (by omega)
  have r15 : (x2 / 3).tmod 6 = x2 / 3 % 6 := tmod_pos (by omega)
  have r16 : IntKind.i64.wrap (x2 / 3 % 6) = x2 / 3 % 6 := w64 (by omega) (by omega)
  have r17 : IntKind.i64.wrap (x2 % 3 + x2 / 3 % 6) = x2 % 3 + x2 / 3 % 6 := w64 (by omega) (by omega)
  simp only [r1, r2, r3, r4, r5, r6, r7, r8, r9, r10, r11, r12, r13, r14, r15, r16, r17, List.nil_append]
  have hk4 : IntKind.i64.wrap (4 * (k : Int) + 4) = 4 * ((k + 1 : Nat) : Int) := by rw [w64 (by omega) (by omega)]; omega
  have hlen : l.length + 1 ≤ 1000000000 := by omega
  refine ⟨by omega, fun q0 => ?_, fun q0 => ⟨fun q1 => ?_, fun q1 => ⟨fun q2 => ?_, fun q2 => ?_⟩⟩⟩
  all_goals
    refine ⟨by simp; omega, (k + 1, l ++ [arcOf x x2 x3 x5 many]), ⟨by dsimp only; omega, by simp; omega, hstep⟩, by dsimp only; omega, ⟨hk4, ?_⟩⟩
    simp [arcOf, *]
theorem Arcs_ok : SpecOk Try.prog Arcs_n true (specOf true Arcs_fs) :=
  spec_ok' TT_ok (show GsOk Try.prog Arcs_g from gsOk_nil) (by kernel_rfl) mixedOrders Try.func29 rfl rfl (by kernel_rfl) (n := 2) (by decide +kernel) (I := Arcs_IA) (fun _ _ => isOk_nil) (A := Arcs_A)
    (fun args h r hr => by
      unfold Arcs_fs at hr
      split at hr
      · rename_i many ty0 c; cases hr; refine ⟨rfl, fun hp => ?_⟩; have hE := Arcs_E c many ty0 hp; exact hE
      · cases hr)
end Go.Proofs.Ytggblkbecekbdaa
