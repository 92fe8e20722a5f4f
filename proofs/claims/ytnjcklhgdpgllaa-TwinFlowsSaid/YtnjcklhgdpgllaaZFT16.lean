/- Part of the proof, FT16. -/
import Derived.Test.YtnjcklhgdpgllaaZFA4
import Derived.Test.YtnjcklhgdpgllaaZFN1
import Derived.Test.YtnjcklhgdpgllaaZDT16
import Derived.Test.YtnjcklhgdpgllaaZVc11
set_option linter.unusedVariables false
set_option linter.all false
set_option linter.unusedSimpArgs false
set_option maxRecDepth 100000
namespace Go.Proofs.Ytnjcklhgdpgllaa
open Go Go.RowKit Go.Ql Go.Vc
def Sub_E0 (a : Int) (b : Int) : Prop :=
      ((!decide (b > (0 : Int)) == decide (IntKind.i64.wrap (a - b) < a)) = true →
 ((((0 : Int) = if I64 (a - b) then a - b else (0 : Int)) ∧ false = decide (I64 (a - b)) ∧ True) ∧ True) ∧ True) ∧
 ((!decide (b > (0 : Int)) == decide (IntKind.i64.wrap (a - b) < a)) = false →
 (((IntKind.i64.wrap (a - b) = if I64 (a - b) then a - b else (0 : Int)) ∧ true = decide (I64 (a - b)) ∧ True) ∧ True) ∧ True)
theorem Sub_q (a : Int) (b : Int) : Sub_E0 a b = FVcP TT Sub_g (Sub_I a b) (Sub_an a b) Try.f82 [.int .i64 a, .int .i64 b] [] (Sub_r a b) := by kernel_rfl
theorem Sub_E (a : Int) (b : Int) (hp : I64 a ∧ I64 b) : FVc TT Sub_g (Sub_I a b) (Sub_an a b) Try.f82 [.int .i64 a, .int .i64 b] [] (Sub_r a b) := by
  refine FVc.of (Sub_E0 a b) (Sub_q a b) ?_
  unfold Sub_E0
  simp only [eq_self, exists_const, forall_const, decide_eq_true_eq, decide_eq_false_iff_not, and_true, true_and, bne_iff_ne, ne_eq, bne_eq_false_iff_eq, Int.toNat_natCast, Bool.not_eq_true', Bool.not_eq_false', beq_iff_eq, beq_eq_false_iff_ne, nilEq_true]
  obtain ⟨⟨a1, a2⟩, b1, b2⟩ := hp
  have hd : I64 (a - b) ↔ (decide (b > 0) = decide (IntKind.i64.wrap (a - b) < a)) := by
    rw [wrapI64]
    by_cases h1 : b > 0 <;> by_cases h2 : (a - b + 9223372036854775808) % 18446744073709551616 - 9223372036854775808 < a <;> simp only [h1, h2, decide_true, decide_false, I64] <;> first | (simp; omega) | omega
  refine ⟨fun h => ?_, fun h => ?_⟩
  · have := mt hd.1 h
    simp [this]
  · have h2 := hd.2 h
    simp only [h2, decide_true, and_true, if_true]
    exact w64 h2.1 h2.2
theorem Sub_ok : SpecOk Try.prog Sub_n true (specOf true Sub_fs) :=
  spec_ok' TT_ok (show GsOk Try.prog Sub_g from gsOk_nil) (by kernel_rfl) mixedOrders Try.func82 rfl rfl (by kernel_rfl) (n := 2) (by decide +kernel) (I := Sub_IA) (fun _ _ => isOk_nil) (A := Sub_A)
    (fun args h r hr => by
      unfold Sub_fs at hr
      split at hr
      · rename_i a b; cases hr; refine ⟨rfl, fun hp => ?_⟩; have hE := Sub_E a b hp; exact hE
      · cases hr)
theorem limit16_ok : SpecOk Try.prog limit16_n false limit16_spec :=
  inl_ok TT_ok (show GsOk Try.prog limit16_g from gsOk_nil) (by kernel_rfl) mixedOrders Try.func85 rfl rfl (by kernel_rfl) _
theorem plus16_ok : SpecOk Try.prog plus16_n false plus16_spec :=
  inl_ok TT_ok (show GsOk Try.prog plus16_g from gsOk_nil) (by kernel_rfl) mixedOrders Try.func86 rfl rfl (by kernel_rfl) _
theorem capOf16_ok : SpecOk Try.prog capOf16_n false capOf16_spec :=
  inl_ok TT_ok (show GsOk Try.prog capOf16_g from gsOk_nil) (by kernel_rfl) mixedOrders Try.func87 rfl rfl (by kernel_rfl) _
def share_E0 (a : Arc) (n : Int) : Prop :=
      (decide (n ≤ (0 : Int)) = true → (((0 : Int) = giveT a n false ∧ true = true ∧ True) ∧ True) ∧ True) ∧
 (decide (n ≤ (0 : Int)) = false →
 ((a.cap == (4611686018427387904 : Int)) = true → ((n = giveT a n false ∧ true = true ∧ True) ∧ True) ∧ True) ∧
 ((a.cap == (4611686018427387904 : Int)) = false →
 (I64 a.cap ∧ I64 a.low) ∧
 ((!decide (I64 (a.cap - a.low))) = true → (((0 : Int) = giveT a n false ∧ false = true ∧ True) ∧ True) ∧ True) ∧
 ((!decide (I64 (a.cap - a.low))) = false → ((min (if I64 (a.cap - a.low) then a.cap - a.low else (0 : Int)) n = giveT a n false ∧ true = true ∧ True) ∧ True) ∧ True)))
theorem share_q (a : Arc) (n : Int) : share_E0 a n = FVcP TT share_g (share_I a n) (share_an a n) Try.f83 [.agg (encArc a), .int .i64 n] [] (share_r a n) := by kernel_rfl
theorem share_E (a : Arc) (n : Int) (hp : I64 n ∧ 0 ≤ a.low ∧ a.low ≤ 4398046511104 ∧ (a.cap = inf ∨ a.low ≤ a.cap ∧ a.cap ≤ 4398046511104)) : FVc TT share_g (share_I a n) (share_an a n) Try.f83 [.agg (encArc a), .int .i64 n] [] (share_r a n) := by
  refine FVc.of (share_E0 a n) (share_q a n) ?_
  unfold share_E0
  simp only [eq_self, exists_const, forall_const, decide_eq_true_eq, decide_eq_false_iff_not, and_true, true_and, bne_iff_ne, ne_eq, bne_eq_false_iff_eq, Int.toNat_natCast, Bool.not_eq_true', Bool.not_eq_false', beq_iff_eq, beq_eq_false_iff_ne, nilEq_true]
  obtain ⟨h1, h2, h3, h4⟩ := hp
  unfold giveT inf
  simp only [Bool.false_eq_true, if_false]
  unfold inf at h4
  refine ⟨fun a1 => by rw [if_pos a1], fun a1 => ⟨fun a2 => by rw [if_neg a1, if_pos a2], fun a2 => ?_⟩⟩
  have a3 : I64 (a.cap - a.low) := by unfold I64; omega
  refine ⟨⟨by unfold I64; omega, by unfold I64; omega⟩, fun h => absurd a3 (by simpa using h), fun _ => ?_⟩
  rw [if_pos a3, if_neg a1, if_neg a2]
theorem share_ok : SpecOk Try.prog share_n true (specOf true share_fs) :=
  spec_ok' TT_ok (show GsOk Try.prog share_g from gsOk_cons limit16_ok (gsOk_cons Sub_ok (gsOk_nil))) (by kernel_rfl) mixedOrders Try.func83 rfl rfl (by kernel_rfl) (n := 2) (by decide +kernel) (I := share_IA) (fun _ _ => isOk_nil) (A := share_A)
    (fun args h r hr => by
      unfold share_fs at hr
      split at hr
      · rename_i a_0 a_1 a_2 a_3 a_4 n; cases hr; refine ⟨rfl, fun hp => ?_⟩; have hE := share_E ⟨a_0, a_1, a_2, a_3, a_4⟩ n hp; exact hE
      · cases hr)
theorem subAll_step {I : Inst} {l : List Int} {k : Nat} {x s : Int} (h : l[k]? = some x) : subAll I (l.drop k) s = if isArcF I x then (if I64 (s - (arcAt I x).low) then subAll I (l.drop (k + 1)) (s - (arcAt I x).low) else none) else none := by
  rw [drop_get h]; rfl
theorem spreadGo_step {I : Inst} {l o : List Int} {k : Nat} {x s : Int} (h : l[k]? = some x) : spreadGo I (l.drop k) s o = if I64 ((arcAt I x).low + giveT (arcAt I x) s (decide (l.length ≤ k + 1))) then spreadGo I (l.drop (k + 1)) (s - giveT (arcAt I x) s (decide (l.length ≤ k + 1))) (o ++ [(arcAt I x).low + giveT (arcAt I x) s (decide (l.length ≤ k + 1))]) else none := by
  have e : (l.drop (k + 1)).isEmpty = decide (l.length ≤ k + 1) := by
    by_cases h2 : l.length ≤ k + 1
    · rw [List.drop_of_length_le h2, decide_eq_true h2]; rfl
    · rw [decide_eq_false h2]
      cases h3 : l.drop (k + 1) with
      | nil => have := congrArg List.length h3; rw [List.length_drop] at this; simp at this; omega
      | cons y r => rfl
  rw [drop_get h, spreadGo, e]
theorem subAll_all {I : Inst} : ∀ {l : List Int} {s t : Int}, subAll I l s = some t → l.all (isArcF I) = true
  | [], _, _, _ => rfl
  | a :: l, s, t, h => by
    rw [subAll] at h
    split at h
    · rename_i h1
      split at h
      · rw [List.all_cons, h1, subAll_all h]; rfl
      · cases h
    · cases h
theorem giveT_I64 {a : Arc} {t : Int} (h : I64 t) (h0 : 0 ≤ a.low) (h1 : a.cap = inf ∨ a.low ≤ a.cap ∧ a.cap ≤ 4398046511104) : I64 (giveT a t false) ∧ I64 (t - giveT a t false) := by
  unfold I64 at h ⊢
  unfold giveT
  simp only [Bool.false_eq_true, if_false]
  split
  · omega
  · split
    · omega
    · omega
theorem spread_none {I : Inst} {l : List Int} {n : Int} (h : subAll I l n = none) : spreadF I l n = none := by
  unfold spreadF
  split
  · rfl
  · rw [h]; rfl
abbrev Spread_a0 (I : Inst) (l : List Int) (n : Int) := ((True ∧ false = (spreadF I l n).isSome ∧ True) ∧ True)
def Spread_E0 (I : Inst) (l : List Int) (n : Int) (ty0 ty1 ty2 : TypeId) : Prop :=
      (((↑l.length : Int) == (0 : Int)) = true → (Spread_a0 I l n) ∧ [] = (spreadF I l n).getD [] ∧ True) ∧
 (((↑l.length : Int) == (0 : Int)) = false →
 ∃ (g0 : Nat × Int),
 ((g0.fst ≤ l.length ∧ I64 g0.snd ∧ subAll I (List.drop g0.fst l) g0.snd = subAll I l n) ∧
 (True ∧ (0 : Nat) = (0 : Nat) ∧ n = g0.2 ∧ True ∧ (↑l.length : Int) = (↑l.length : Int) ∧ (0 : Int) = (↑g0.1 : Int) ∧ True) ∧
 (True ∧ True ∧ True) ∧ I.sup = I.sup ∧ I.arcs = I.arcs ∧ l = l ∧ True) ∧
 ∀ (g : Nat × Int),
 g.fst ≤ l.length ∧ I64 g.snd ∧ subAll I (List.drop g.fst l) g.snd = subAll I l n →
 (decide ((↑g.1 : Int) < (↑l.length : Int)) = true →
 ((0 : Int) ≤ (↑g.1 : Int) ∧ (↑g.1 : Int) < (↑l.length : Int)) ∧
 (↑g.1 : Int).toNat < l.length ∧
 ∀ (x : Int),
 l[(↑g.1 : Int).toNat]? = some x →
 (decide (x < (0 : Int)) = true → (Spread_a0 I l n) ∧ [] = (spreadF I l n).getD [] ∧ True) ∧
 (decide (x < (0 : Int)) = false →
 (decide (x ≥ (↑I.arcs.length : Int)) = true → (Spread_a0 I l n) ∧ [] = (spreadF I l n).getD [] ∧ True) ∧
 (decide (x ≥ (↑I.arcs.length : Int)) = false →
 ((0 : Int) ≤ x ∧ x < (↑I.arcs.length : Int)) ∧
 x.toNat < I.arcs.length ∧
 ∀ (x_1 : Arc),
 I.arcs[x.toNat]? = some x_1 →
 (I64 g.2 ∧ I64 x_1.low) ∧
 ((!decide (I64 (g.2 - x_1.low))) = true → (Spread_a0 I l n) ∧ [] = (spreadF I l n).getD [] ∧ True) ∧
 ((!decide (I64 (g.2 - x_1.low))) = false →
 ∃ (g' : Nat × Int),
 (g'.fst ≤ l.length ∧ I64 g'.snd ∧ subAll I (List.drop g'.fst l) g'.snd = subAll I l n) ∧
 l.length - g'.fst < l.length - g.fst ∧
 (True ∧
 (0 : Nat) = (0 : Nat) ∧
 (if I64 (g.2 - x_1.low) then g.2 - x_1.low else (0 : Int)) = g'.2 ∧
 True ∧ (↑l.length : Int) = (↑l.length : Int) ∧ IntKind.i64.wrap ((↑g.1 : Int) + (1 : Int)) = (↑g'.1 : Int) ∧ True) ∧
 (True ∧ True ∧ True) ∧ I.sup = I.sup ∧ I.arcs = I.arcs ∧ l = l ∧ True)))) ∧
 (decide ((↑g.1 : Int) < (↑l.length : Int)) = false →
 ((0 : Int) ≤ (0 : Int) ∧ (0 : Int) ≤ (↑l.length : Int) ∧ (↑l.length : Int) ≤ (1000000000 : Int)) ∧
 ∃ (g0 : Nat × Int × List Int),
 ((g0.fst ≤ l.length ∧ g0.2.snd.length = g0.fst ∧ I64 g0.2.fst ∧ l.all (isArcF I) = true ∧ spreadGo I (List.drop g0.fst l) g0.2.fst g0.2.snd = spreadF I l n) ∧
 (True ∧ (0 : Nat) = (0 : Nat) ∧ g.2 = g0.2.1 ∧ True ∧ True ∧ (↑l.length : Int) = (↑l.length : Int) ∧ (0 : Int) = (↑g0.1 : Int) ∧ True) ∧
 List.replicate (Int.toNat (0 : Int)) (0 : Int) = g0.2.2 ∧ (True ∧ True ∧ True) ∧ I.sup = I.sup ∧ I.arcs = I.arcs ∧ l = l ∧ True) ∧
 ∀ (g : Nat × Int × List Int),
 g.fst ≤ l.length ∧ g.2.snd.length = g.fst ∧ I64 g.2.fst ∧ l.all (isArcF I) = true ∧ spreadGo I (List.drop g.fst l) g.2.fst g.2.snd = spreadF I l n →
 (decide ((↑g.1 : Int) < (↑l.length : Int)) = true →
 ((0 : Int) ≤ (↑g.1 : Int) ∧ (↑g.1 : Int) < (↑l.length : Int)) ∧
 (↑g.1 : Int).toNat < l.length ∧
 ∀ (x : Int),
 l[(↑g.1 : Int).toNat]? = some x →
 (decide ((↑g.1 : Int) < IntKind.i64.wrap ((↑l.length : Int) - (1 : Int))) = true →
 ((0 : Int) ≤ x ∧ x < (↑I.arcs.length : Int)) ∧
 x.toNat < I.arcs.length ∧
 ∀ (x_1 : Arc),
 I.arcs[x.toNat]? = some x_1 →
 (I64 g.2.1 ∧
 (0 : Int) ≤ x_1.low ∧
 x_1.low ≤ (4398046511104 : Int) ∧ (x_1.cap = inf ∨ x_1.low ≤ x_1.cap ∧ x_1.cap ≤ (4398046511104 : Int))) ∧
 ((!true) = true → (Spread_a0 I l n) ∧ [] = (spreadF I l n).getD [] ∧ True) ∧
 ((!true) = false →
 ((0 : Int) ≤ x ∧ x < (↑I.arcs.length : Int)) ∧
 x.toNat < I.arcs.length ∧
 ∀ (x_2 : Arc),
 I.arcs[x.toNat]? = some x_2 →
 (I64 x_2.low ∧ I64 (giveT x_1 g.2.1 false)) ∧
 ((!decide (I64 (x_2.low + giveT x_1 g.2.1 false))) = true →
 (Spread_a0 I l n) ∧ [] = (spreadF I l n).getD [] ∧ True) ∧
 ((!decide (I64 (x_2.low + giveT x_1 g.2.1 false))) = false →
 g.2.2.length + (1 : Nat) ≤ (1000000000 : Nat) ∧
 (I64 g.2.1 ∧ I64 (giveT x_1 g.2.1 false)) ∧
 ((!decide (I64 (g.2.1 - giveT x_1 g.2.1 false))) = true →
 (Spread_a0 I l n) ∧ [] = (spreadF I l n).getD [] ∧ True) ∧
 ((!decide (I64 (g.2.1 - giveT x_1 g.2.1 false))) = false →
 ∃ (g' : Nat × Int × List Int),
 (g'.fst ≤ l.length ∧
 g'.2.snd.length = g'.fst ∧
 I64 g'.2.fst ∧
 l.all (isArcF I) = true ∧
 spreadGo I (List.drop g'.fst l) g'.2.fst g'.2.snd = spreadF I l n) ∧
 l.length - g'.fst < l.length - g.fst ∧
 (True ∧
 (0 : Nat) = (0 : Nat) ∧
 (if I64 (g.2.1 - giveT x_1 g.2.1 false) then g.2.1 - giveT x_1 g.2.1 false
 else (0 : Int)) =
 g'.2.1 ∧
 True ∧
 True ∧
 (↑l.length : Int) = (↑l.length : Int) ∧
 IntKind.i64.wrap ((↑g.1 : Int) + (1 : Int)) = (↑g'.1 : Int) ∧ True) ∧
 g.2.2 ++
 [if I64 (x_2.low + giveT x_1 g.2.1 false) then x_2.low + giveT x_1 g.2.1 false
 else (0 : Int)] =
 g'.2.2 ∧
 (True ∧ True ∧ True) ∧ I.sup = I.sup ∧ I.arcs = I.arcs ∧ l = l ∧ True)))) ∧
 (decide ((↑g.1 : Int) < IntKind.i64.wrap ((↑l.length : Int) - (1 : Int))) = false →
 ((0 : Int) ≤ x ∧ x < (↑I.arcs.length : Int)) ∧
 x.toNat < I.arcs.length ∧
 ∀ (x_1 : Arc),
 I.arcs[x.toNat]? = some x_1 →
 (I64 x_1.low ∧ I64 g.2.1) ∧
 ((!decide (I64 (x_1.low + g.2.1))) = true →
 (Spread_a0 I l n) ∧ [] = (spreadF I l n).getD [] ∧ True) ∧
 ((!decide (I64 (x_1.low + g.2.1))) = false →
 g.2.2.length + (1 : Nat) ≤ (1000000000 : Nat) ∧
 (I64 g.2.1 ∧ I64 g.2.1) ∧
 ((!decide (I64 (g.2.1 - g.2.1))) = true →
 (Spread_a0 I l n) ∧ [] = (spreadF I l n).getD [] ∧ True) ∧
 ((!decide (I64 (g.2.1 - g.2.1))) = false →
 ∃ (g' : Nat × Int × List Int),
 (g'.fst ≤ l.length ∧
 g'.2.snd.length = g'.fst ∧
 I64 g'.2.fst ∧
 l.all (isArcF I) = true ∧ spreadGo I (List.drop g'.fst l) g'.2.fst g'.2.snd = spreadF I l n) ∧
 l.length - g'.fst < l.length - g.fst ∧
 (True ∧
 (0 : Nat) = (0 : Nat) ∧
 (if I64 (g.2.1 - g.2.1) then g.2.1 - g.2.1 else (0 : Int)) = g'.2.1 ∧
 True ∧
 True ∧
 (↑l.length : Int) = (↑l.length : Int) ∧
 IntKind.i64.wrap ((↑g.1 : Int) + (1 : Int)) = (↑g'.1 : Int) ∧ True) ∧
 g.2.2 ++ [if I64 (x_1.low + g.2.1) then x_1.low + g.2.1 else (0 : Int)] = g'.2.2 ∧
 (True ∧ True ∧ True) ∧ I.sup = I.sup ∧ I.arcs = I.arcs ∧ l = l ∧ True)))) ∧
 (decide ((↑g.1 : Int) < (↑l.length : Int)) = false → ((True ∧ true = (spreadF I l n).isSome ∧ True) ∧ True) ∧ g.2.2 = (spreadF I l n).getD [] ∧ True)))
theorem Spread_q (I : Inst) (l : List Int) (n : Int) (ty0 ty1 ty2 : TypeId) : Spread_E0 I l n ty0 ty1 ty2 = FVcP TT Spread_g (Spread_I I l n) (Spread_an I l n) Try.f46 [.agg [.row 0, .row 1], .row 2, .int .i64 n] [(0, .row false ty0 (.ints .i64 I.sup)), (1, .row false ty1 (.arcs I.arcs)), (2, .row false ty2 (.ints .i64 l))] (Spread_r I l n) := by kernel_rfl
theorem Spread_E (I : Inst) (l : List Int) (n : Int) (ty0 ty1 ty2 : TypeId) (hp : rightF I = 0 ∧ I64 n ∧ l.length ≤ 1000000) : FVc TT Spread_g (Spread_I I l n) (Spread_an I l n) Try.f46 [.agg [.row 0, .row 1], .row 2, .int .i64 n] [(0, .row false ty0 (.ints .i64 I.sup)), (1, .row false ty1 (.arcs I.arcs)), (2, .row false ty2 (.ints .i64 l))] (Spread_r I l n) := by
  refine FVc.of (Spread_E0 I l n ty0 ty1 ty2) (Spread_q I l n ty0 ty1 ty2) ?_
  unfold Spread_E0
  delta Spread_a0
  obtain ⟨hr, hn, hl⟩ := hp
  simp only [eq_self, exists_const, forall_const, decide_eq_true_eq, decide_eq_false_iff_not, and_true, true_and, bne_iff_ne, ne_eq, bne_eq_false_iff_eq, Int.toNat_natCast, Bool.not_eq_true', Bool.not_eq_false', beq_iff_eq, beq_eq_false_iff_ne, nilEq_true]
  refine ⟨fun h => ?_, fun h => ⟨(0, n), ⟨⟨by dsimp only; omega, hn, rfl⟩, rfl, rfl⟩, fun g hg => ?_⟩⟩
  · have : l = [] := List.eq_nil_of_length_eq_zero (by omega)
    rw [this]; exact ⟨rfl, rfl⟩
  have hne : l ≠ [] := fun e => by rw [e] at h; simp at h
  obtain ⟨k, s⟩ := g
  dsimp only at hg ⊢
  obtain ⟨g1, g2, g3⟩ := hg
  have hw : ∀ j : Nat, j ≤ 1000000 → IntKind.i64.wrap ((j : Int) + 1) = ((j + 1 : Nat) : Int) := fun j hj => by rw [w64 (by omega) (by omega)]; omega
  have arcs : ∀ (x : Int) (a : Arc), I.arcs[x.toNat]? = some a → I64 a.low ∧ 0 ≤ a.low ∧ a.low ≤ 4398046511104 ∧ (a.cap = inf ∨ a.low ≤ a.cap ∧ a.cap ≤ 4398046511104) := fun x a ha => by
    have := rightF_arc hr (List.mem_of_getElem? ha)
    unfold I64 inf; omega
  refine ⟨fun h1 => ⟨by omega, by omega, fun x hx => ?_⟩, fun h1 => ?_⟩
  · have hst := subAll_step (I := I) (s := s) hx
    have bad : isArcF I x = false → spreadF I l n = none := fun hb => spread_none (by rw [← g3, hst, hb]; rfl)
    refine ⟨fun h2 => by rw [bad (by unfold isArcF; simp; omega)]; exact ⟨rfl, rfl⟩, fun h2 => ⟨fun h3 => by rw [bad (by unfold isArcF; simp; omega)]; exact ⟨rfl, rfl⟩, fun h3 => ⟨by omega, by omega, fun a ha => ?_⟩⟩⟩
    have hok : isArcF I x = true := by unfold isArcF; simp; omega
    obtain ⟨l0, l1, l2, l3⟩ := arcs x a ha
    rw [hok, arcAt_get ha] at hst
    refine ⟨⟨g2, l0⟩, fun h4 => ?_, fun h4 => ⟨(k + 1, s - a.low), ⟨by dsimp only; omega, h4, ?_⟩, by dsimp only; omega, by rw [if_pos h4], hw k (by omega)⟩⟩
    · rw [spread_none (by rw [← g3, hst, if_neg h4]; rfl)]; exact ⟨rfl, rfl⟩
    · dsimp only; rw [← g3, hst, if_pos h4]; rfl
  · have ek : k = l.length := by omega
    subst ek
    rw [List.drop_length] at g3
    have hall := subAll_all g3.symm
    have hF : spreadF I l n = spreadGo I l s [] := by unfold spreadF; rw [if_neg hne, ← g3]; rfl
    refine ⟨⟨by omega, by omega⟩, (0, s, []), ⟨⟨by dsimp only; omega, rfl, g2, hall, hF.symm⟩, ⟨rfl, rfl⟩, rfl⟩, fun q hq => ?_⟩
    obtain ⟨k, t, o⟩ := q
    dsimp only at hq ⊢
    obtain ⟨q1, q2, q3, q4, q5⟩ := hq
    have hl1 : IntKind.i64.wrap ((l.length : Int) - 1) = (l.length : Int) - 1 := w64 (by omega) (by omega)
    rw [hl1]
    refine ⟨fun h1 => ⟨by omega, by omega, fun x hx => ?_⟩, fun h1 => ?_⟩
    · have hst := spreadGo_step (I := I) (s := t) (o := o) hx
      have hok := List.all_eq_true.1 q4 x (List.mem_of_getElem? hx)
      obtain ⟨x0, x1⟩ := isArcF_iff.1 hok
      obtain ⟨a, ha⟩ : ∃ a, I.arcs[x.toNat]? = some a := ⟨_, List.getElem?_eq_getElem (by omega)⟩
      obtain ⟨l0, l1, l2, l3⟩ := arcs x a ha
      rw [arcAt_get ha] at hst
      simp only [ha, Option.some.injEq, forall_eq']
      have dn : ∀ y z : Prop, (false = true → y) ∧ z ↔ z := fun y z => by simp
      refine ⟨fun h2 => ?_, fun h2 => ?_⟩
      · obtain ⟨v1, v2⟩ := giveT_I64 q3 l1 l3
        rw [decide_eq_false (show ¬ l.length ≤ k + 1 by omega)] at hst
        refine ⟨by omega, by omega, ⟨q3, l1, l2, l3⟩, fun h => by simp at h, by omega, by omega, ⟨l0, v1⟩, fun h3 => ?_, fun h3 => ⟨by omega, ⟨q3, v1⟩, fun h4 => absurd v2 h4, fun h4 => ⟨(k + 1, t - giveT a t false, o ++ [a.low + giveT a t false]), ⟨by dsimp only; omega, by simp [q2], v2, q4, ?_⟩, by dsimp only; omega, ⟨by rw [if_pos v2], hw k (by omega)⟩, by rw [if_pos h3]⟩⟩⟩
        · rw [if_neg h3] at hst; rw [← q5, hst]; exact ⟨rfl, rfl⟩
        · dsimp only; rw [← q5, hst, if_pos h3]
      · have e0 : giveT a t true = t := rfl
        have z0 : I64 (t - t) := by rw [Int.sub_self]; unfold I64; omega
        rw [decide_eq_true (show l.length ≤ k + 1 by omega), e0] at hst
        refine ⟨by omega, by omega, ⟨l0, q3⟩, fun h3 => ?_, fun h3 => ⟨by omega, ⟨q3, q3⟩, fun h4 => absurd z0 h4, fun h4 => ⟨(k + 1, t - t, o ++ [a.low + t]), ⟨by dsimp only; omega, by simp [q2], z0, q4, ?_⟩, by dsimp only; omega, ⟨by rw [if_pos z0], hw k (by omega)⟩, by rw [if_pos h3]⟩⟩⟩
        · rw [if_neg h3] at hst; rw [← q5, hst]; exact ⟨rfl, rfl⟩
        · dsimp only; rw [← q5, hst, if_pos h3]
    · have : k = l.length := by omega
      subst this
      rw [List.drop_length] at q5
      rw [← q5]; exact ⟨rfl, rfl⟩
theorem Spread_ok : SpecOk Try.prog Spread_n true (specOf true Spread_fs) :=
  spec_ok' TT_ok (show GsOk Try.prog Spread_g from gsOk_cons Sub_ok (gsOk_cons share_ok (gsOk_cons Add_ok (gsOk_nil)))) (by kernel_rfl) mixedOrders Try.func46 rfl rfl (by kernel_rfl) (n := 3) (by decide +kernel) (I := Spread_IA) (fun _ _ => isOk_nil) (A := Spread_A)
    (fun args h r hr => by
      unfold Spread_fs at hr
      split at hr
      · rename_i n ty0 I_s ty1 I_a ty2 l; cases hr; refine ⟨rfl, fun hp => ?_⟩; have hE := Spread_E ⟨I_s, I_a⟩ l n ty0 ty1 ty2 hp; exact hE
      · cases hr)
theorem set_wrap {b x v : Int} {s : List Int} {k : Nat} (hs : Within b s) (hb : 0 ≤ b) (hb2 : b ≤ 1000) (h0 : -2 ≤ x) (h1 : x ≤ 2) (hv : s[k]? = some v) : s.set k (IntKind.i64.wrap (v + x)) = addAt s k x ∧ Within (b + 2) (addAt s k x) := by
  have := hs v (List.mem_of_getElem? hv)
  refine ⟨?_, hs.addAt hb k (x := x) (y := 2) h0 h1⟩
  rw [w64 (by omega) (by omega)]
  unfold addAt; rw [List.getD_eq_getElem?_getD, hv]; rfl
abbrev Alike_a0 (c : List Int) (d : List Int) (g : Nat) (x : Arc) (x_3 : Int) := ((alikeTo (instF c d) d g).sup.set x.src.toNat (IntKind.i64.wrap (x_3 - x.low)))
abbrev Alike_a1 (c : List Int) (d : List Int) (g : Nat) (x_2 : Arc) (x_7 : Arc) := ((alikeTo (instF c d) d g).arcs.set (↑g : Int).toNat
 { src := x_2.src, dst := x_7.dst, low := x_7.low, cap := x_7.cap, cost := x_7.cost : Arc })
abbrev Alike_a2 (c : List Int) (d : List Int) (g : Nat) (x_2 : Arc) (x_7 : Arc) (x_8 : Arc) := ((Alike_a1 c d g x_2 x_7).set
 (↑g : Int).toNat
 { src := x_8.src, dst := x_2.dst, low := x_8.low, cap := x_8.cap, cost := x_8.cost : Arc })
abbrev Alike_a3 (c : List Int) (d : List Int) (g : Nat) (x : Arc) (x_3 : Int) (x_4 : Int) := ((Alike_a0 c d g x x_3).set
 x.dst.toNat (IntKind.i64.wrap (x_4 + x.low)))
def Alike_E0 (c : List Int) (d : List Int) (ty0 ty1 : TypeId) : Prop :=
      (Bytes c ∧ Bytes d ∧ c.length ≤ maxLen ∧ d.length ≤ maxLen) ∧
 ∃ (g0 : Nat),
 (g0 ≤ (instF c d).arcs.length ∧
 (True ∧ (0 : Nat) = (0 : Nat) ∧ (0 : Nat) = (0 : Nat) ∧ (0 : Int) = (↑g0 : Int) ∧ True) ∧
 (True ∧ True ∧ True) ∧
 (instF c d).sup = (alikeTo (instF c d) d g0).sup ∧ (instF c d).arcs = (alikeTo (instF c d) d g0).arcs ∧ (True ∧ True ∧ True) ∧ nilEq Int ∧ nilEq Arc ∧ d = d ∧ True) ∧
 ∀ (g : Nat),
 g ≤ (instF c d).arcs.length →
 (decide ((↑g : Int) < (↑(alikeTo (instF c d) d g).arcs.length : Int)) = true →
 ((0 : Int) ≤ (↑g : Int) ∧ (↑g : Int) < (↑(alikeTo (instF c d) d g).arcs.length : Int)) ∧
 (↑g : Int).toNat < (alikeTo (instF c d) d g).arcs.length ∧
 ∀ (x : Arc),
 (alikeTo (instF c d) d g).arcs[(↑g : Int).toNat]? = some x →
 (decide ((↑g : Int) < (↑d.length : Int)) = true →
 ((0 : Int) ≤ (↑g : Int) ∧ (↑g : Int) < (↑d.length : Int)) ∧
 (↑g : Int).toNat < d.length ∧
 ∀ (x_1 : Int),
 d[(↑g : Int).toNat]? = some x_1 →
 (3 : Int) ≠ (0 : Int) ∧
 (decide (x_1.tmod (3 : Int) > (0 : Int)) = true →
 (2 : Int) ≠ (0 : Int) ∧
 ((0 : Int) ≤ IntKind.i64.wrap ((↑g : Int).tdiv (2 : Int)) ∧
 IntKind.i64.wrap ((↑g : Int).tdiv (2 : Int)) < (↑(alikeTo (instF c d) d g).arcs.length : Int)) ∧
 (IntKind.i64.wrap ((↑g : Int).tdiv (2 : Int))).toNat < (alikeTo (instF c d) d g).arcs.length ∧
 ∀ (x_2 : Arc),
 (alikeTo (instF c d) d g).arcs[(IntKind.i64.wrap ((↑g : Int).tdiv (2 : Int))).toNat]? = some x_2 →
 ((0 : Int) ≤ x.src ∧ x.src < (↑(alikeTo (instF c d) d g).sup.length : Int)) ∧
 x.src.toNat < (alikeTo (instF c d) d g).sup.length ∧
 ∀ (x_3 : Int),
 (alikeTo (instF c d) d g).sup[x.src.toNat]? = some x_3 →
 ((0 : Int) ≤ x.src ∧ x.src < (↑(alikeTo (instF c d) d g).sup.length : Int)) ∧
 x.src.toNat < (alikeTo (instF c d) d g).sup.length ∧
 ((0 : Int) ≤ x.dst ∧
 x.dst < (↑(Alike_a0 c d g x x_3).length : Int)) ∧
 x.dst.toNat < (Alike_a0 c d g x x_3).length ∧
 ∀ (x_4 : Int),
 (Alike_a0 c d g x x_3)[x.dst.toNat]? = some x_4 →
 ((0 : Int) ≤ x.dst ∧
 x.dst <
 (↑(Alike_a0 c d g x x_3).length : Int)) ∧
 x.dst.toNat < (Alike_a0 c d g x x_3).length ∧
 ((0 : Int) ≤ x_2.src ∧
 x_2.src <
 (↑((Alike_a0 c d g x x_3).set x.dst.toNat
 (IntKind.i64.wrap (x_4 + x.low))).length :
 Int)) ∧
 x_2.src.toNat <
 ((Alike_a0 c d g x x_3).set x.dst.toNat
 (IntKind.i64.wrap (x_4 + x.low))).length ∧
 ∀ (x_5 : Int),
 ((Alike_a0 c d g x x_3).set x.dst.toNat
 (IntKind.i64.wrap (x_4 + x.low)))[x_2.src.toNat]? =
 some x_5 →
 ((0 : Int) ≤ x_2.src ∧
 x_2.src <
 (↑(Alike_a3 c d g x x_3 x_4).length :
 Int)) ∧
 x_2.src.toNat <
 (Alike_a3 c d g x x_3 x_4).length ∧
 ((0 : Int) ≤ x_2.dst ∧
 x_2.dst <
 (↑((Alike_a3 c d g x x_3 x_4).set
 x_2.src.toNat (IntKind.i64.wrap (x_5 + x.low))).length :
 Int)) ∧
 x_2.dst.toNat <
 ((Alike_a3 c d g x x_3 x_4).set
 x_2.src.toNat (IntKind.i64.wrap (x_5 + x.low))).length ∧
 ∀ (x_6 : Int),
 ((Alike_a3 c d g x x_3 x_4).set
 x_2.src.toNat (IntKind.i64.wrap (x_5 + x.low)))[x_2.dst.toNat]? =
 some x_6 →
 ((0 : Int) ≤ x_2.dst ∧
 x_2.dst <
 (↑((((alikeTo (instF c d) d g).sup.set x.src.toNat
 (IntKind.i64.wrap (x_3 - x.low))).set
 x.dst.toNat (IntKind.i64.wrap (x_4 + x.low))).set
 x_2.src.toNat (IntKind.i64.wrap (x_5 + x.low))).length :
 Int)) ∧
 x_2.dst.toNat <
 ((((alikeTo (instF c d) d g).sup.set x.src.toNat
 (IntKind.i64.wrap (x_3 - x.low))).set
 x.dst.toNat (IntKind.i64.wrap (x_4 + x.low))).set
 x_2.src.toNat (IntKind.i64.wrap (x_5 + x.low))).length ∧
 ((0 : Int) ≤ (↑g : Int) ∧
 (↑g : Int) < (↑(alikeTo (instF c d) d g).arcs.length : Int)) ∧
 (↑g : Int).toNat < (alikeTo (instF c d) d g).arcs.length ∧
 ∀ (x_7 : Arc),
 (alikeTo (instF c d) d g).arcs[(↑g : Int).toNat]? = some x_7 →
 ((0 : Int) ≤ (↑g : Int) ∧
 (↑g : Int) <
 (↑(Alike_a1 c d g x_2 x_7).length :
 Int)) ∧
 (↑g : Int).toNat <
 (Alike_a1 c d g x_2 x_7).length ∧
 ∀ (x_8 : Arc),
 (Alike_a1 c d g x_2 x_7)[(↑g : Int).toNat]? =
 some x_8 →
 ((0 : Int) ≤ (↑g : Int) ∧
 (↑g : Int) <
 (↑(Alike_a2 c d g x_2 x_7 x_8).length :
 Int)) ∧
 (↑g : Int).toNat <
 (Alike_a2 c d g x_2 x_7 x_8).length ∧
 ∀ (x_9 : Arc),
 (Alike_a2 c d g x_2 x_7 x_8)[(↑g : Int).toNat]? =
 some x_9 →
 ∃ (g' : Nat),
 g' ≤ (instF c d).arcs.length ∧
 (instF c d).arcs.length - g' <
 (instF c d).arcs.length - g ∧
 (True ∧
 (0 : Nat) = (0 : Nat) ∧
 (0 : Nat) = (0 : Nat) ∧
 IntKind.i64.wrap ((↑g : Int) + (1 : Int)) =
 (↑g' : Int) ∧
 True) ∧
 (True ∧ True ∧ True) ∧
 ((((alikeTo (instF c d) d g).sup.set x.src.toNat
 (IntKind.i64.wrap
 (x_3 - x.low))).set
 x.dst.toNat
 (IntKind.i64.wrap
 (x_4 + x.low))).set
 x_2.src.toNat
 (IntKind.i64.wrap (x_5 + x.low))).set
 x_2.dst.toNat
 (IntKind.i64.wrap (x_6 - x.low)) =
 (alikeTo (instF c d) d g').sup ∧
 (((alikeTo (instF c d) d g).arcs.set
 (↑g : Int).toNat
 { src := x_2.src, dst := x_7.dst, low := x_7.low, cap := x_7.cap, cost := x_7.cost : Arc }).set
 (↑g : Int).toNat
 { src := x_8.src, dst := x_2.dst, low := x_8.low, cap := x_8.cap, cost := x_8.cost : Arc }).set
 (↑g : Int).toNat
 { src := x_9.src, dst := x_9.dst, low := x_9.low, cap := x_9.cap, cost := x_2.cost : Arc } =
 (alikeTo (instF c d) d g').arcs ∧
 (True ∧ True ∧ True) ∧
 nilEq Int ∧ nilEq Arc ∧ d = d ∧ True) ∧
 (decide (x_1.tmod (3 : Int) > (0 : Int)) = false →
 ∃ (g' : Nat),
 g' ≤ (instF c d).arcs.length ∧
 (instF c d).arcs.length - g' < (instF c d).arcs.length - g ∧
 (True ∧ (0 : Nat) = (0 : Nat) ∧ (0 : Nat) = (0 : Nat) ∧ IntKind.i64.wrap ((↑g : Int) + (1 : Int)) = (↑g' : Int) ∧ True) ∧
 (True ∧ True ∧ True) ∧
 (alikeTo (instF c d) d g).sup = (alikeTo (instF c d) d g').sup ∧
 (alikeTo (instF c d) d g).arcs = (alikeTo (instF c d) d g').arcs ∧
 (True ∧ True ∧ True) ∧ nilEq Int ∧ nilEq Arc ∧ d = d ∧ True)) ∧
 (decide ((↑g : Int) < (↑d.length : Int)) = false →
 ∃ (g' : Nat),
 g' ≤ (instF c d).arcs.length ∧
 (instF c d).arcs.length - g' < (instF c d).arcs.length - g ∧
 (True ∧ (0 : Nat) = (0 : Nat) ∧ (0 : Nat) = (0 : Nat) ∧ IntKind.i64.wrap ((↑g : Int) + (1 : Int)) = (↑g' : Int) ∧ True) ∧
 (True ∧ True ∧ True) ∧
 (alikeTo (instF c d) d g).sup = (alikeTo (instF c d) d g').sup ∧
 (alikeTo (instF c d) d g).arcs = (alikeTo (instF c d) d g').arcs ∧ (True ∧ True ∧ True) ∧ nilEq Int ∧ nilEq Arc ∧ d = d ∧ True)) ∧
 (decide ((↑g : Int) < (↑(alikeTo (instF c d) d g).arcs.length : Int)) = false →
 ((True ∧ True ∧ True) ∧ True) ∧ (alikeTo (instF c d) d g).sup = (alikeF c d).sup ∧ (alikeTo (instF c d) d g).arcs = (alikeF c d).arcs ∧ True)
theorem Alike_q (c : List Int) (d : List Int) (ty0 ty1 : TypeId) : Alike_E0 c d ty0 ty1 = FVcP TT Alike_g (Alike_I c d) (Alike_an c d) Try.f42 [.row 0, .row 1] [(0, .row false ty0 (.ints .u8 c)), (1, .row false ty1 (.ints .u8 d))] (Alike_r c d) := by kernel_rfl
theorem Alike_E (c : List Int) (d : List Int) (ty0 ty1 : TypeId) (hp : Bytes c ∧ Bytes d ∧ c.length ≤ maxLen ∧ d.length ≤ maxLen) : FVc TT Alike_g (Alike_I c d) (Alike_an c d) Try.f42 [.row 0, .row 1] [(0, .row false ty0 (.ints .u8 c)), (1, .row false ty1 (.ints .u8 d))] (Alike_r c d) := by
  refine FVc.of (Alike_E0 c d ty0 ty1) (Alike_q c d ty0 ty1) ?_
  unfold Alike_E0
  delta Alike_a3 Alike_a2 Alike_a1 Alike_a0
  simp only [eq_self, exists_const, forall_const, decide_eq_true_eq, decide_eq_false_iff_not, and_true, true_and, bne_iff_ne, ne_eq, bne_eq_false_iff_eq, Int.toNat_natCast, Bool.not_eq_true', Bool.not_eq_false', beq_iff_eq, beq_eq_false_iff_ne, nilEq_true]
  obtain ⟨b1, b2, b3, b4⟩ := hp
  have hs := instF_sup c d
  have hn := instF_nice c d
  have hwi := instF_within c d
  have har := instF_arcs c d
  have hnq := nOf_le d
  have hn2 : ∀ a ∈ (instF c d).arcs, a.Nice (instF c d).sup.length := by rw [hs]; exact hn
  have hw : ∀ j : Nat, j ≤ 1000000 → IntKind.i64.wrap ((j : Int) + 1) = ((j + 1 : Nat) : Int) := fun j hj => by rw [w64 (by omega) (by omega)]; omega
  refine ⟨⟨b1, b2, b3, b4⟩, 0, ⟨by omega, rfl, rfl, rfl⟩, fun g hg => ?_⟩
  have hl := alikeTo_len (instF c d) d g
  have hat := alikeTo_at (instF c d) d g g (Nat.le_refl _)
  have hnk := alikeTo_nice (d := d) hn2 g hg
  obtain ⟨-, hsw⟩ := alikeTo_sup (d := d) hn2 hwi (by omega) g hg
  have hdef : alikeTo (instF c d) d (g + 1) = if g < d.length ∧ 0 < d.getD g 0 % 3 then ⟨alikeSup ((instF c d).arcs.getD g default) ((alikeTo (instF c d) d g).arcs.getD (g / 2) default) (alikeTo (instF c d) d g).sup, (alikeTo (instF c d) d g).arcs.set g (alikeArc ((instF c d).arcs.getD g default) ((alikeTo (instF c d) d g).arcs.getD (g / 2) default))⟩ else alikeTo (instF c d) d g := rfl
  have hend : alikeF c d = alikeTo (instF c d) d (instF c d).arcs.length := rfl
  rw [hend]
  generalize hJ : alikeTo (instF c d) d g = J at *
  refine ⟨fun h1 => ⟨by omega, by omega, fun a ha => ?_⟩, fun h1 => ?_⟩
  · have hgl : g < (instF c d).arcs.length := by omega
    rw [hat] at ha
    have hda : (instF c d).arcs.getD g default = a := by rw [List.getD_eq_getElem?_getD, ha]; rfl
    have hJa : J.arcs[g]? = some a := by rw [hat]; exact ha
    have an := hn2 a (List.mem_of_getElem? ha)
    have a1 := an.s0; have a2 := an.s1; have a3 := an.d0; have a4 := an.d1; have a5 := an.l0; have a6 := an.l1
    have ht : (g : Int).tdiv 2 = ((g / 2 : Nat) : Int) := by rw [Int.tdiv_eq_ediv_of_nonneg (by omega)]; omega
    have hwt : IntKind.i64.wrap ((g : Int).tdiv 2) = ((g / 2 : Nat) : Int) := by rw [ht, w64 (by omega) (by omega)]
    rw [hwt]
    obtain ⟨b, hb⟩ : ∃ b, J.arcs[g / 2]? = some b := ⟨_, List.getElem?_eq_getElem (by omega)⟩
    have hdb : J.arcs.getD (g / 2) default = b := by rw [List.getD_eq_getElem?_getD, hb]; rfl
    have bn := hnk b (List.mem_of_getElem? hb)
    have e1 := bn.s0; have e2 := bn.s1; have e3 := bn.d0; have e4 := bn.d1
    rw [hda, hdb] at hdef
    refine ⟨fun h2 => ⟨by omega, by omega, fun y hy => ⟨by omega, ?_⟩⟩, fun h2 => ⟨g + 1, by omega, by omega, hw g (by omega), ?_⟩⟩
    · have hyb := b2 y (List.mem_of_getElem? hy)
      have hy2 : d.getD g 0 = y := by rw [List.getD_eq_getElem?_getD, hy]; rfl
      rw [show y.tmod 3 = y % 3 from Int.tmod_eq_emod_of_nonneg hyb.1]
      refine ⟨fun h3 => ?_, fun h3 => ⟨g + 1, by omega, by omega, hw g (by omega), ?_⟩⟩
      · rw [if_pos ⟨by omega, by rw [hy2]; omega⟩] at hdef
        simp only [Int.toNat_natCast, List.length_set]
        refine ⟨by omega, by omega, by omega, fun b' hb' => ?_⟩
        rw [hb] at hb'
        cases hb'
        refine ⟨by omega, by omega, fun p hp => ⟨by omega, by omega, by omega, by omega, fun q hq => ⟨by omega, by omega, by omega, by omega, fun r hr => ⟨by omega, by omega, by omega, by omega, fun s hs2 => ?_⟩⟩⟩⟩
        rw [show p - a.low = p + -a.low by omega] at hq hr hs2 ⊢
        rw [show s - a.low = s + -a.low by omega]
        obtain ⟨z1, w1⟩ := set_wrap (x := -a.low) hsw (by omega) (by omega) (by omega) (by omega) hp
        rw [z1] at hq hr hs2 ⊢
        obtain ⟨z2, w2⟩ := set_wrap (x := a.low) w1 (by omega) (by omega) (by omega) (by omega) hq
        rw [z2] at hr hs2 ⊢
        obtain ⟨z3, w3⟩ := set_wrap (x := a.low) w2 (by omega) (by omega) (by omega) (by omega) hr
        rw [z3] at hs2 ⊢
        obtain ⟨z4, w4⟩ := set_wrap (x := -a.low) w3 (by omega) (by omega) (by omega) (by omega) hs2
        rw [z4]
        have gs : ∀ (l : List Arc) (v : Arc), g < l.length → (l.set g v)[g]? = some v := fun l v h => by rw [List.getElem?_set_self h]
        have gl : g < J.arcs.length := by omega
        simp only [hJa, gs, gl, List.length_set, Option.some.injEq, forall_eq', List.set_set]
        refine ⟨by omega, by omega, by omega, trivial, by omega, trivial, by omega, trivial, g + 1, by omega, by omega, hw g (by omega), ?_, ?_⟩
        · rw [hdef]; rfl
        · rw [hdef]; rfl
      · rw [hdef, if_neg (by rw [hy2]; omega)]; exact ⟨rfl, rfl⟩
    · rw [hdef, if_neg (by omega)]; exact ⟨rfl, rfl⟩
  · have eg : g = (instF c d).arcs.length := by omega
    rw [eg] at hJ
    rw [← hJ]; exact ⟨rfl, rfl⟩
theorem Alike_ok : SpecOk Try.prog Alike_n true (specOf true Alike_fs) :=
  spec_ok' TT_ok (show GsOk Try.prog Alike_g from gsOk_cons Inst_ok (gsOk_nil)) (by kernel_rfl) mixedOrders Try.func42 rfl rfl (by kernel_rfl) (n := 2) (by decide +kernel) (I := Alike_IA) (fun _ _ => isOk_nil) (A := Alike_A)
    (fun args h r hr => by
      unfold Alike_fs at hr
      split at hr
      · rename_i ty0 c ty1 d; cases hr; refine ⟨rfl, fun hp => ?_⟩; have hE := Alike_E c d ty0 ty1 hp; exact hE
      · cases hr)
abbrev Groups_a0 (I : Inst) (g : Nat × List Value) := (↑(DK.ints IntKind.i64 (groupsTo I.arcs g.1)).len : Int)
abbrev Groups_a1 (I : Inst) (g : Nat × List Value) (x : Arc) := (mget (keysM I.arcs g.1) [x.src, x.dst, x.cost])
abbrev Groups_a2 (I : Inst) (g : Nat × List Value) := (groupsTo I.arcs g.1 ++ List.replicate (1 : Nat) [])
def Groups_E0 (I : Inst) (ty0 ty1 : TypeId) : Prop :=
      ∃ (g0 : Nat × List Value),
 (g0.fst ≤ I.arcs.length ∧
 (True ∧ True ∧ True ∧ (↑I.arcs.length : Int) = (↑I.arcs.length : Int) ∧ (0 : Int) = (↑g0.1 : Int) ∧ True) ∧
 [] = keysM I.arcs g0.1 ∧ ([] = groupsTo I.arcs g0.1 ∧ [] = g0.2 ∧ (none : Option Nat) = none) ∧ I.arcs = I.arcs ∧ True) ∧
 ∀ (g : Nat × List Value),
 g.fst ≤ I.arcs.length →
 (decide ((↑g.1 : Int) < (↑I.arcs.length : Int)) = true →
 ((0 : Int) ≤ (↑g.1 : Int) ∧ (↑g.1 : Int) < (↑I.arcs.length : Int)) ∧
 (↑g.1 : Int).toNat < I.arcs.length ∧
 ∀ (x : Arc),
 I.arcs[(↑g.1 : Int).toNat]? = some x →
 ((!(Groups_a1 I g x).isSome) = true →
 (DK.ints IntKind.i64 (groupsTo I.arcs g.1)).len + (DK.many (1 : Nat) (DK.ints IntKind.i64 [])).len ≤ (1000000000 : Nat) ∧
 ((0 : Int) ≤ (Groups_a0 I g) ∧
 (Groups_a0 I g) < (↑(DK.ints IntKind.i64 (Groups_a2 I g)).len : Int)) ∧
 (Groups_a0 I g).toNat < (Groups_a2 I g).length ∧
 ∀ (x_1 : List Int),
 (Groups_a2 I g)[(Groups_a0 I g).toNat]? = some x_1 →
 x_1.length + (1 : Nat) ≤ (1000000000 : Nat) ∧
 ((0 : Int) ≤ (Groups_a0 I g) ∧
 (Groups_a0 I g) <
 (↑(DK.ints IntKind.i64 (Groups_a2 I g)).len : Int)) ∧
 (Groups_a0 I g).toNat = (Groups_a0 I g).toNat ∧
 (Groups_a0 I g).toNat < (Groups_a2 I g).length ∧
 ∀ (u : Value),
 ∃ (g' : Nat × List Value),
 g'.fst ≤ I.arcs.length ∧
 I.arcs.length - g'.fst < I.arcs.length - g.fst ∧
 (True ∧
 True ∧
 True ∧
 (↑I.arcs.length : Int) = (↑I.arcs.length : Int) ∧ IntKind.i64.wrap ((↑g.1 : Int) + (1 : Int)) = (↑g'.1 : Int) ∧ True) ∧
 mput (keysM I.arcs g.1) [x.src, x.dst, x.cost] (Groups_a0 I g) = keysM I.arcs g'.1 ∧
 ((Groups_a2 I g).set (Groups_a0 I g).toNat
 (x_1 ++ [(↑g.1 : Int)]) =
 groupsTo I.arcs g'.1 ∧
 (g.2 ++ [Value.slice none (0 : Nat) (0 : Nat)]).set (Groups_a0 I g).toNat u =
 g'.2 ∧
 (none : Option Nat) = none) ∧
 I.arcs = I.arcs ∧ True) ∧
 ((!(Groups_a1 I g x).isSome) = false →
 ((0 : Int) ≤ (Groups_a1 I g x).getD (0 : Int) ∧
 (Groups_a1 I g x).getD (0 : Int) < (Groups_a0 I g)) ∧
 ((Groups_a1 I g x).getD (0 : Int)).toNat < (groupsTo I.arcs g.1).length ∧
 ∀ (x_1 : List Int),
 (groupsTo I.arcs g.1)[((Groups_a1 I g x).getD (0 : Int)).toNat]? = some x_1 →
 x_1.length + (1 : Nat) ≤ (1000000000 : Nat) ∧
 ((0 : Int) ≤ (Groups_a1 I g x).getD (0 : Int) ∧
 (Groups_a1 I g x).getD (0 : Int) < (Groups_a0 I g)) ∧
 ((Groups_a1 I g x).getD (0 : Int)).toNat =
 ((Groups_a1 I g x).getD (0 : Int)).toNat ∧
 ((Groups_a1 I g x).getD (0 : Int)).toNat < (groupsTo I.arcs g.1).length ∧
 ∀ (u : Value),
 ∃ (g' : Nat × List Value),
 g'.fst ≤ I.arcs.length ∧
 I.arcs.length - g'.fst < I.arcs.length - g.fst ∧
 (True ∧
 True ∧
 True ∧ (↑I.arcs.length : Int) = (↑I.arcs.length : Int) ∧ IntKind.i64.wrap ((↑g.1 : Int) + (1 : Int)) = (↑g'.1 : Int) ∧ True) ∧
 keysM I.arcs g.1 = keysM I.arcs g'.1 ∧
 ((groupsTo I.arcs g.1).set ((Groups_a1 I g x).getD (0 : Int)).toNat (x_1 ++ [(↑g.1 : Int)]) =
 groupsTo I.arcs g'.1 ∧
 g.2.set ((Groups_a1 I g x).getD (0 : Int)).toNat u = g'.2 ∧ (none : Option Nat) = none) ∧
 I.arcs = I.arcs ∧ True)) ∧
 (decide ((↑g.1 : Int) < (↑I.arcs.length : Int)) = false →
 ∃ (V : Nat → List Value), (True ∧ True) ∧ (groupsTo I.arcs g.1 = groupsF I.arcs ∧ g.2 = V (0 : Nat) ∧ (none : Option Nat) = none) ∧ True)
theorem Groups_q (I : Inst) (ty0 ty1 : TypeId) : Groups_E0 I ty0 ty1 = FVcP TT Groups_g (Groups_I I) (Groups_an I) Try.f45 [.agg [.row 0, .row 1]] [(0, .row false ty0 (.ints .i64 I.sup)), (1, .row false ty1 (.arcs I.arcs))] (Groups_r I) := by kernel_rfl
theorem Groups_E (I : Inst) (ty0 ty1 : TypeId) (hp : I.arcs.length ≤ 1000000) : FVc TT Groups_g (Groups_I I) (Groups_an I) Try.f45 [.agg [.row 0, .row 1]] [(0, .row false ty0 (.ints .i64 I.sup)), (1, .row false ty1 (.arcs I.arcs))] (Groups_r I) := by
  refine FVc.of (Groups_E0 I ty0 ty1) (Groups_q I ty0 ty1) ?_
  unfold Groups_E0
  delta Groups_a2 Groups_a1 Groups_a0
  simp only [eq_self, exists_const, forall_const, decide_eq_true_eq, decide_eq_false_iff_not, and_true, true_and, bne_iff_ne, ne_eq, bne_eq_false_iff_eq, Int.toNat_natCast, Bool.not_eq_true', Bool.not_eq_false', beq_iff_eq, beq_eq_false_iff_ne, nilEq_true]
  refine ⟨(0, []), ⟨by dsimp only; omega, rfl, rfl, rfl, rfl⟩, fun g hg => ?_⟩
  obtain ⟨k, vs⟩ := g
  dsimp only at hg ⊢
  refine ⟨fun h1 => ⟨by omega, by omega, fun x hx => ?_⟩, fun h1 => ?_⟩
  · have hw : IntKind.i64.wrap ((k : Int) + 1) = ((k + 1 : Nat) : Int) := by rw [w64 (by omega) (by omega)]; omega
    have hd : I.arcs.getD k default = x := by rw [List.getD_eq_getElem?_getD, hx]; rfl
    have hk : [x.src, x.dst, x.cost] = keyA (I.arcs.getD k default) := by rw [hd]; rfl
    have hgl := groupsTo_len I.arcs k
    have hfl := firsts_len I.arcs k
    rw [hk]
    simp only [DK.len, DK.many, hw]
    cases hf : firstK I.arcs k with
    | true =>
      obtain ⟨e1, e2, e3⟩ := groups_first hf
      rw [e1]
      have hlen : (groupsTo I.arcs k ++ List.replicate 1 []).length = (groupsTo I.arcs k).length + 1 := by simp
      refine ⟨fun _ => ?_, fun h => by simp at h⟩
      rw [hlen]
      refine ⟨by simp; omega, by omega, by omega, fun y hy => ?_⟩
      have hy0 : y = [] := by
        rw [List.getElem?_append_right (Nat.le_refl _), Nat.sub_self] at hy
        simp at hy; exact hy
      subst hy0
      refine ⟨by simp, by omega, by omega, fun u => ⟨(k + 1, _), by dsimp only; omega, by dsimp only; omega, rfl, e2, ?_, rfl⟩⟩
      dsimp only
      rw [e3, List.set_append_right _ _ (Nat.le_refl _), Nat.sub_self]
      rfl
    | false =>
      obtain ⟨i, p, e0, e1, e2, e3, e4⟩ := groups_next hf
      rw [e1]
      have hil := get_lt e2
      have hml := memsK_len I.arcs p k
      refine ⟨fun h => by simp at h, fun _ => ?_⟩
      simp only [Option.getD_some, Int.toNat_natCast]
      refine ⟨by omega, by omega, fun y hy => ?_⟩
      rw [e2] at hy
      cases hy
      exact ⟨by omega, by omega, by omega, fun u => ⟨(k + 1, _), by dsimp only; omega, by dsimp only; omega, rfl, e3.symm, e4.symm, rfl⟩⟩
  · have ek : k = I.arcs.length := by omega
    subst ek
    exact ⟨fun _ => vs, rfl, rfl⟩
theorem Groups_ok : SpecOk Try.prog Groups_n true (specOf true Groups_fs) :=
  spec_ok' TT_ok (show GsOk Try.prog Groups_g from gsOk_nil) (by kernel_rfl) mixedOrders Try.func45 rfl rfl (by kernel_rfl) (n := 1) (by decide +kernel) (I := Groups_IA) (fun _ _ => isOk_nil) (A := Groups_A)
    (fun args h r hr => by
      unfold Groups_fs at hr
      split at hr
      · rename_i ty0 I_s ty1 I_a; cases hr; refine ⟨rfl, fun hp => ?_⟩; have hE := Groups_E ⟨I_s, I_a⟩ ty0 ty1 hp; exact hE
      · cases hr)
abbrev Twin_a0 (I : Inst) (g_1 : Nat × List Value × Nat) (x : Int) (g0 : Nat × List Value × Nat) (x_4 : Arc) := (capI I.arcs (List.take (g_1.2.2 + (1 : Nat)) (grp I.arcs g_1.1)) = true →
 ((0 : Int) ≤ x ∧ x < (↑(outC I.arcs g_1.1 g_1.2.2).length : Int)) ∧
 x.toNat < (outC I.arcs g_1.1 g_1.2.2).length ∧
 ∃ (g' : Nat × List Value × Nat),
 (g'.fst = g0.fst ∧
 g'.2.fst = g0.2.fst ∧
 g'.2.snd + (1 : Nat) ≤ (grp I.arcs g'.fst).length) ∧
 (grp I.arcs g'.fst).length - g'.2.snd <
 (grp I.arcs g_1.fst).length - g_1.2.snd ∧
 ((0 : Nat) = (0 : Nat) ∧
 (0 : Nat) = (0 : Nat) ∧
 (0 : Nat) = (0 : Nat) ∧
 True ∧
 true =
 (didB I.arcs g'.1 ||
 decide ((0 : Nat) < g'.2.2)) ∧
 True ∧
 (↑(groupsF I.arcs).length : Int) =
 (↑(groupsF I.arcs).length : Int) ∧
 (↑g_1.1 : Int) = (↑g'.1 : Int) ∧
 (grp I.arcs g_1.1).getD (0 : Nat)
 (0 : Int) =
 (grp I.arcs g'.1).getD (0 : Nat)
 (0 : Int) ∧
 IntKind.i64.wrap
 (lowM I.arcs
 (List.take
 (g_1.2.2 + (1 : Nat))
 (grp I.arcs g_1.1)) +
 x_4.low) =
 lowM I.arcs
 (List.take (g'.2.2 + (1 : Nat))
 (grp I.arcs g'.1)) ∧
 (0 : Nat) = (0 : Nat) ∧
 True ∧
 (↑(List.drop (1 : Nat)
 (grp I.arcs
 g_1.1)).length :
 Int) =
 (↑(List.drop (1 : Nat)
 (grp I.arcs
 g'.1)).length :
 Int) ∧
 IntKind.i64.wrap
 ((↑g_1.2.2 : Int) +
 (1 : Int)) =
 (↑g'.2.2 : Int) ∧
 True) ∧
 List.drop (1 : Nat) (grp I.arcs g_1.1) =
 List.drop (1 : Nat) (grp I.arcs g'.1) ∧
 (((0 : Int) =
 if
 capI I.arcs
 (List.take (g'.2.2 + (1 : Nat))
 (grp I.arcs g'.1)) =
 true then
 (0 : Int)
 else
 capN I.arcs
 (List.take (g'.2.2 + (1 : Nat))
 (grp I.arcs g'.1))) ∧
 true =
 capI I.arcs
 (List.take (g'.2.2 + (1 : Nat))
 (grp I.arcs g'.1)) ∧
 True) ∧
 (groupsF I.arcs = groupsF I.arcs ∧ g_1.2.1 = g'.2.1) ∧
 (outC I.arcs g_1.1 g_1.2.2).set x.toNat true =
 outC I.arcs g'.1 g'.2.2 ∧
 (True ∧ True ∧ True) ∧
 I.sup = I.sup ∧
 wA I.arcs g_1.1 = wA I.arcs g'.1 ∧
 (True ∧
 True ∧
 (0 : Int) = (0 : Int) ∧
 True ∧
 True ∧
 (0 : Int) = (0 : Int) ∧
 (0 : Int) = (0 : Int) ∧
 True ∧ True) ∧
 nilEq Int ∧
 nilEq Arc ∧
 nilEq Int ∧
 nilEq Arc ∧
 (True ∧ True ∧ True) ∧
 I.sup = I.sup ∧
 I.arcs = I.arcs ∧ True)
abbrev Twin_a1 (x_5 : Arc) (I : Inst) (g_1 : Nat × List Value × Nat) (x : Int) (g0 : Nat × List Value × Nat) (x_4 : Arc) := ((x_5.cap == (4611686018427387904 : Int)) = false →
 (Twin_a0 I g_1 x g0 x_4) ∧
 (capI I.arcs (List.take (g_1.2.2 + (1 : Nat)) (grp I.arcs g_1.1)) =
 false →
 ((0 : Int) ≤ x ∧ x < (↑(outC I.arcs g_1.1 g_1.2.2).length : Int)) ∧
 x.toNat < (outC I.arcs g_1.1 g_1.2.2).length ∧
 ∃ (g' : Nat × List Value × Nat),
 (g'.fst = g0.fst ∧
 g'.2.fst = g0.2.fst ∧
 g'.2.snd + (1 : Nat) ≤ (grp I.arcs g'.fst).length) ∧
 (grp I.arcs g'.fst).length - g'.2.snd <
 (grp I.arcs g_1.fst).length - g_1.2.snd ∧
 ((0 : Nat) = (0 : Nat) ∧
 (0 : Nat) = (0 : Nat) ∧
 (0 : Nat) = (0 : Nat) ∧
 True ∧
 true =
 (didB I.arcs g'.1 ||
 decide ((0 : Nat) < g'.2.2)) ∧
 True ∧
 (↑(groupsF I.arcs).length : Int) =
 (↑(groupsF I.arcs).length : Int) ∧
 (↑g_1.1 : Int) = (↑g'.1 : Int) ∧
 (grp I.arcs g_1.1).getD (0 : Nat)
 (0 : Int) =
 (grp I.arcs g'.1).getD (0 : Nat)
 (0 : Int) ∧
 IntKind.i64.wrap
 (lowM I.arcs
 (List.take
 (g_1.2.2 + (1 : Nat))
 (grp I.arcs g_1.1)) +
 x_4.low) =
 lowM I.arcs
 (List.take (g'.2.2 + (1 : Nat))
 (grp I.arcs g'.1)) ∧
 (0 : Nat) = (0 : Nat) ∧
 True ∧
 (↑(List.drop (1 : Nat)
 (grp I.arcs
 g_1.1)).length :
 Int) =
 (↑(List.drop (1 : Nat)
 (grp I.arcs
 g'.1)).length :
 Int) ∧
 IntKind.i64.wrap
 ((↑g_1.2.2 : Int) +
 (1 : Int)) =
 (↑g'.2.2 : Int) ∧
 True) ∧
 List.drop (1 : Nat) (grp I.arcs g_1.1) =
 List.drop (1 : Nat) (grp I.arcs g'.1) ∧
 ((IntKind.i64.wrap
 ((if
 capI I.arcs
 (List.take (g_1.2.2 + (1 : Nat))
 (grp I.arcs g_1.1)) =
 true then
 (0 : Int)
 else
 capN I.arcs
 (List.take (g_1.2.2 + (1 : Nat))
 (grp I.arcs g_1.1))) +
 x_5.cap) =
 if
 capI I.arcs
 (List.take (g'.2.2 + (1 : Nat))
 (grp I.arcs g'.1)) =
 true then
 (0 : Int)
 else
 capN I.arcs
 (List.take (g'.2.2 + (1 : Nat))
 (grp I.arcs g'.1))) ∧
 false =
 capI I.arcs
 (List.take (g'.2.2 + (1 : Nat))
 (grp I.arcs g'.1)) ∧
 True) ∧
 (groupsF I.arcs = groupsF I.arcs ∧ g_1.2.1 = g'.2.1) ∧
 (outC I.arcs g_1.1 g_1.2.2).set x.toNat true =
 outC I.arcs g'.1 g'.2.2 ∧
 (True ∧ True ∧ True) ∧
 I.sup = I.sup ∧
 wA I.arcs g_1.1 = wA I.arcs g'.1 ∧
 (True ∧
 True ∧
 (0 : Int) = (0 : Int) ∧
 True ∧
 True ∧
 (0 : Int) = (0 : Int) ∧
 (0 : Int) = (0 : Int) ∧
 True ∧ True) ∧
 nilEq Int ∧
 nilEq Arc ∧
 nilEq Int ∧
 nilEq Arc ∧
 (True ∧ True ∧ True) ∧
 I.sup = I.sup ∧
 I.arcs = I.arcs ∧ True))
abbrev Twin_a2 (x_5 : Arc) (I : Inst) (g_1 : Nat × List Value × Nat) (x : Int) (g0 : Nat × List Value × Nat) (x_4 : Arc) := ((x_5.cap == (4611686018427387904 : Int)) = true →
 (Twin_a0 I g_1 x g0 x_4) ∧
 (capI I.arcs (List.take (g_1.2.2 + (1 : Nat)) (grp I.arcs g_1.1)) =
 false →
 ((0 : Int) ≤ x ∧ x < (↑(outC I.arcs g_1.1 g_1.2.2).length : Int)) ∧
 x.toNat < (outC I.arcs g_1.1 g_1.2.2).length ∧
 ∃ (g' : Nat × List Value × Nat),
 (g'.fst = g0.fst ∧
 g'.2.fst = g0.2.fst ∧
 g'.2.snd + (1 : Nat) ≤ (grp I.arcs g'.fst).length) ∧
 (grp I.arcs g'.fst).length - g'.2.snd <
 (grp I.arcs g_1.fst).length - g_1.2.snd ∧
 ((0 : Nat) = (0 : Nat) ∧
 (0 : Nat) = (0 : Nat) ∧
 (0 : Nat) = (0 : Nat) ∧
 True ∧
 true =
 (didB I.arcs g'.1 ||
 decide ((0 : Nat) < g'.2.2)) ∧
 True ∧
 (↑(groupsF I.arcs).length : Int) =
 (↑(groupsF I.arcs).length : Int) ∧
 (↑g_1.1 : Int) = (↑g'.1 : Int) ∧
 (grp I.arcs g_1.1).getD (0 : Nat)
 (0 : Int) =
 (grp I.arcs g'.1).getD (0 : Nat)
 (0 : Int) ∧
 IntKind.i64.wrap
 (lowM I.arcs
 (List.take
 (g_1.2.2 + (1 : Nat))
 (grp I.arcs g_1.1)) +
 x_4.low) =
 lowM I.arcs
 (List.take (g'.2.2 + (1 : Nat))
 (grp I.arcs g'.1)) ∧
 (0 : Nat) = (0 : Nat) ∧
 True ∧
 (↑(List.drop (1 : Nat)
 (grp I.arcs
 g_1.1)).length :
 Int) =
 (↑(List.drop (1 : Nat)
 (grp I.arcs
 g'.1)).length :
 Int) ∧
 IntKind.i64.wrap
 ((↑g_1.2.2 : Int) +
 (1 : Int)) =
 (↑g'.2.2 : Int) ∧
 True) ∧
 List.drop (1 : Nat) (grp I.arcs g_1.1) =
 List.drop (1 : Nat) (grp I.arcs g'.1) ∧
 (((0 : Int) =
 if
 capI I.arcs
 (List.take (g'.2.2 + (1 : Nat))
 (grp I.arcs g'.1)) =
 true then
 (0 : Int)
 else
 capN I.arcs
 (List.take (g'.2.2 + (1 : Nat))
 (grp I.arcs g'.1))) ∧
 true =
 capI I.arcs
 (List.take (g'.2.2 + (1 : Nat))
 (grp I.arcs g'.1)) ∧
 True) ∧
 (groupsF I.arcs = groupsF I.arcs ∧ g_1.2.1 = g'.2.1) ∧
 (outC I.arcs g_1.1 g_1.2.2).set x.toNat true =
 outC I.arcs g'.1 g'.2.2 ∧
 (True ∧ True ∧ True) ∧
 I.sup = I.sup ∧
 wA I.arcs g_1.1 = wA I.arcs g'.1 ∧
 (True ∧
 True ∧
 (0 : Int) = (0 : Int) ∧
 True ∧
 True ∧
 (0 : Int) = (0 : Int) ∧
 (0 : Int) = (0 : Int) ∧
 True ∧ True) ∧
 nilEq Int ∧
 nilEq Arc ∧
 nilEq Int ∧
 nilEq Arc ∧
 (True ∧ True ∧ True) ∧
 I.sup = I.sup ∧
 I.arcs = I.arcs ∧ True))
abbrev Twin_a3 (I : Inst) (g_1 : Nat × List Value × Nat) (x : Arc) := ((wA I.arcs g_1.1).set ((grp I.arcs g_1.1).getD (0 : Nat) (0 : Int)).toNat
 { src := x.src, dst := x.dst, low := lowM I.arcs (List.take (g_1.2.2 + (1 : Nat)) (grp I.arcs g_1.1)), cap := x.cap, cost := x.cost : Arc })
abbrev Twin_a4 (I : Inst) (g_1 : Nat × List Value × Nat) (g' : Nat × List Value) := ((0 : Nat) = (0 : Nat) ∧
 (0 : Nat) = (0 : Nat) ∧
 (0 : Nat) = (0 : Nat) ∧
 True ∧
 (didB I.arcs g_1.1 || decide ((0 : Nat) < g_1.2.2)) =
 didB I.arcs g'.1 ∧
 True ∧
 (↑(groupsF I.arcs).length : Int) =
 (↑(groupsF I.arcs).length : Int) ∧
 IntKind.i64.wrap ((↑g_1.1 : Int) + (1 : Int)) =
 (↑g'.1 : Int) ∧
 True)
abbrev Twin_a5 (I : Inst) (g_1 : Nat × List Value × Nat) (x : Arc) := ((wA I.arcs g_1.1).set
 ((grp I.arcs g_1.1).getD (0 : Nat) (0 : Int)).toNat
 { src := x.src, dst := x.dst, low := lowM I.arcs (List.take (g_1.2.2 + (1 : Nat)) (grp I.arcs g_1.1)), cap := x.cap, cost := x.cost : Arc })
abbrev Twin_a6 (I : Inst) (g_1 : Nat × List Value × Nat) (x : Arc) := ((0 : Int) ≤ (grp I.arcs g_1.1).getD (0 : Nat) (0 : Int) ∧
 (grp I.arcs g_1.1).getD (0 : Nat) (0 : Int) <
 (↑(Twin_a3 I g_1 x).length :
 Int))
abbrev Twin_a7 := (True ∧
 True ∧
 (0 : Int) = (0 : Int) ∧
 True ∧
 True ∧
 (0 : Int) = (0 : Int) ∧
 (0 : Int) = (0 : Int) ∧ True ∧ True)
abbrev Twin_a8 (I : Inst) (g_1 : Nat × List Value × Nat) := ((grp I.arcs g_1.1).getD (0 : Nat) (0 : Int))
abbrev Twin_a9 (g_1 : Nat × List Value × Nat) (I : Inst) := (List.take (g_1.2.2 + (1 : Nat)) (grp I.arcs g_1.1))
abbrev Twin_a10 (I : Inst) (g : Nat × List Value) (g0 : Nat × List Value × Nat) (x_1 : Int) (x_2 : Arc) (x : List Int) := ((0 : Nat) = (0 : Nat) ∧
 (0 : Nat) = (0 : Nat) ∧
 (0 : Nat) = (0 : Nat) ∧
 True ∧
 didB I.arcs g.1 = (didB I.arcs g0.1 || decide ((0 : Nat) < g0.2.2)) ∧
 True ∧
 (↑(groupsF I.arcs).length : Int) = (↑(groupsF I.arcs).length : Int) ∧
 (↑g.1 : Int) = (↑g0.1 : Int) ∧
 x_1 = (grp I.arcs g0.1).getD (0 : Nat) (0 : Int) ∧
 x_2.low = lowM I.arcs (List.take (g0.2.2 + (1 : Nat)) (grp I.arcs g0.1)) ∧
 (0 : Nat) = (0 : Nat) ∧
 True ∧
 (↑(List.drop (Int.toNat (1 : Int)) (List.take (↑x.length : Int).toNat x)).length :
 Int) =
 (↑(List.drop (1 : Nat) (grp I.arcs g0.1)).length : Int) ∧
 (0 : Int) = (↑g0.2.2 : Int) ∧ True)
abbrev Twin_a11 (I : Inst) (g_1 : Nat × List Value × Nat) := (List.drop (1 : Nat) (grp I.arcs g_1.1))
abbrev Twin_a12 (I : Inst) (g : Nat × List Value) := (withoutF { sup := I.sup, arcs := wA I.arcs g.1 : Inst } [] (outB I.arcs g.1))
abbrev Twin_a13 (I : Inst) := (True ∧
 True ∧
 (0 : Int) = (twinS I).fst.pass ∧
 True ∧ True ∧ (0 : Int) = (twinS I).fst.off.hi ∧ (0 : Int) = (twinS I).fst.off.lo ∧ false = (twinS I).fst.did ∧ True)
abbrev Twin_a14 (I : Inst) (g_1 : Nat × List Value × Nat) (g' : Nat × List Value) := (groupsF I.arcs = groupsF I.arcs ∧ g_1.2.1 = g'.2)
abbrev Twin_a15 (g0 : Nat × List Value × Nat) (I : Inst) := (List.take (g0.2.2 + (1 : Nat)) (grp I.arcs g0.1))
abbrev Twin_a16 (I : Inst) := (I.sup.length ≤ (1000000000 : Nat) ∧ I.arcs.length ≤ (1000000000 : Nat))
abbrev Twin_a17 (x : List Int) := ((0 : Int) ≤ (1 : Int) ∧
 (1 : Int) ≤ (↑x.length : Int) ∧ (↑x.length : Int) ≤ (↑x.length : Int) ∧ (↑x.length : Int) ≤ (↑x.length : Int))
abbrev Twin_a18 := (True ∧
 True ∧
 (0 : Int) = (0 : Int) ∧
 True ∧ True ∧ (0 : Int) = (0 : Int) ∧ (0 : Int) = (0 : Int) ∧ True ∧ True)
def Twin_E0 (I : Inst) (ty0 ty1 : TypeId) : Prop :=
      True ∧
 ((rightF I != (0 : Int)) = true →
 (((True ∧ True ∧ (0 : Int) = (twinS I).fst.pass ∧ True ∧ True ∧ (0 : Int) = (twinS I).fst.off.hi ∧ (0 : Int) = (twinS I).fst.off.lo ∧ false = (twinS I).fst.did ∧ True) ∧
 rightF I = (twinS I).snd ∧ True) ∧
 True) ∧
 [] = (twinS I).fst.inst.sup ∧ [] = (twinS I).fst.inst.arcs ∧ [] = (twinS I).fst.was.sup ∧ [] = (twinS I).fst.was.arcs ∧ True) ∧
 ((rightF I != (0 : Int)) = false →
 (Twin_a16 I) ∧
 ((↑I.arcs.length : Int) = (↑I.arcs.length : Int) ∧ (0 : Int) ≤ (↑I.arcs.length : Int) ∧ (↑I.arcs.length : Int) ≤ (1000000000 : Int)) ∧
 I.arcs.length ≤ (1000000 : Nat) ∧
 ∀ (V : Nat → List Value),
 ∃ (g0 : Nat × List Value),
 (g0.fst ≤ (groupsF I.arcs).length ∧
 ((0 : Nat) = (0 : Nat) ∧
 (0 : Nat) = (0 : Nat) ∧
 (0 : Nat) = (0 : Nat) ∧
 True ∧
 false = didB I.arcs g0.1 ∧
 True ∧ (↑(DK.ints IntKind.i64 (groupsF I.arcs)).len : Int) = (↑(groupsF I.arcs).length : Int) ∧ (0 : Int) = (↑g0.1 : Int) ∧ True) ∧
 (groupsF I.arcs = groupsF I.arcs ∧ V (0 : Nat) = g0.2 ∧ (none : Option Nat) = none) ∧
 List.replicate (↑I.arcs.length : Int).toNat false = outB I.arcs g0.1 ∧
 (True ∧ True ∧ True) ∧
 I.sup = I.sup ∧
 I.arcs = wA I.arcs g0.1 ∧
 (True ∧ True ∧ (0 : Int) = (0 : Int) ∧ True ∧ True ∧ (0 : Int) = (0 : Int) ∧ (0 : Int) = (0 : Int) ∧ True ∧ True) ∧
 nilEq Int ∧ nilEq Arc ∧ nilEq Int ∧ nilEq Arc ∧ (True ∧ True ∧ True) ∧ I.sup = I.sup ∧ I.arcs = I.arcs ∧ True) ∧
 ∀ (g : Nat × List Value),
 g.fst ≤ (groupsF I.arcs).length →
 (decide ((↑g.1 : Int) < (↑(groupsF I.arcs).length : Int)) = true →
 ((0 : Int) ≤ (↑g.1 : Int) ∧ (↑g.1 : Int) < (↑(DK.ints IntKind.i64 (groupsF I.arcs)).len : Int)) ∧
 (↑g.1 : Int).toNat < (groupsF I.arcs).length ∧
 ∀ (x : List Int),
 (groupsF I.arcs)[(↑g.1 : Int).toNat]? = some x →
 ((0 : Int) ≤ (0 : Int) ∧ (0 : Int) < (↑x.length : Int)) ∧
 Int.toNat (0 : Int) < x.length ∧
 ∀ (x_1 : Int),
 x[Int.toNat (0 : Int)]? = some x_1 →
 ((0 : Int) ≤ x_1 ∧ x_1 < (↑I.arcs.length : Int)) ∧
 x_1.toNat < I.arcs.length ∧
 ∀ (x_2 : Arc),
 I.arcs[x_1.toNat]? = some x_2 →
 ((0 : Int) ≤ x_1 ∧ x_1 < (↑I.arcs.length : Int)) ∧
 x_1.toNat < I.arcs.length ∧
 ∀ (x_3 : Arc),
 I.arcs[x_1.toNat]? = some x_3 →
 ((x_3.cap == (4611686018427387904 : Int)) = true →
 (Twin_a17 x) ∧
 ∃ (g0 : Nat × List Value × Nat),
 ((g0.fst = g0.fst ∧ g0.2.fst = g0.2.fst ∧ g0.2.snd + (1 : Nat) ≤ (grp I.arcs g0.fst).length) ∧
 (Twin_a10 I g g0 x_1 x_2 x) ∧
 List.drop (Int.toNat (1 : Int)) (List.take (↑x.length : Int).toNat x) =
 List.drop (1 : Nat) (grp I.arcs g0.1) ∧
 (((0 : Int) =
 if capI I.arcs (Twin_a15 g0 I) = true then (0 : Int)
 else capN I.arcs (Twin_a15 g0 I)) ∧
 true = capI I.arcs (Twin_a15 g0 I) ∧ True) ∧
 (groupsF I.arcs = groupsF I.arcs ∧ g.2 = g0.2.1) ∧
 outB I.arcs g.1 = outC I.arcs g0.1 g0.2.2 ∧
 (True ∧ True ∧ True) ∧
 I.sup = I.sup ∧
 wA I.arcs g.1 = wA I.arcs g0.1 ∧
 (Twin_a18) ∧
 nilEq Int ∧
 nilEq Arc ∧
 nilEq Int ∧ nilEq Arc ∧ (True ∧ True ∧ True) ∧ I.sup = I.sup ∧ I.arcs = I.arcs ∧ True) ∧
 ∀ (g_1 : Nat × List Value × Nat),
 g_1.fst = g0.fst ∧ g_1.2.fst = g0.2.fst ∧ g_1.2.snd + (1 : Nat) ≤ (grp I.arcs g_1.fst).length →
 (decide ((↑g_1.2.2 : Int) < (↑(Twin_a11 I g_1).length : Int)) = true →
 ((0 : Int) ≤ (↑g_1.2.2 : Int) ∧
 (↑g_1.2.2 : Int) < (↑(Twin_a11 I g_1).length : Int)) ∧
 (↑g_1.2.2 : Int).toNat < (Twin_a11 I g_1).length ∧
 ∀ (x : Int),
 (Twin_a11 I g_1)[(↑g_1.2.2 : Int).toNat]? = some x →
 ((0 : Int) ≤ x ∧ x < (↑I.arcs.length : Int)) ∧
 x.toNat < I.arcs.length ∧
 ∀ (x_4 : Arc),
 I.arcs[x.toNat]? = some x_4 →
 ((0 : Int) ≤ x ∧ x < (↑I.arcs.length : Int)) ∧
 x.toNat < I.arcs.length ∧
 ∀ (x_5 : Arc),
 I.arcs[x.toNat]? = some x_5 →
 ((Twin_a2 x_5 I g_1 x g0 x_4) ∧
 (Twin_a1 x_5 I g_1 x g0 x_4)) ∧
 (Twin_a2 x_5 I g_1 x g0 x_4) ∧
 (Twin_a1 x_5 I g_1 x g0 x_4)) ∧
 (decide ((↑g_1.2.2 : Int) < (↑(Twin_a11 I g_1).length : Int)) = false →
 ((0 : Int) ≤ (grp I.arcs g_1.1).getD (0 : Nat) (0 : Int) ∧
 (grp I.arcs g_1.1).getD (0 : Nat) (0 : Int) < (↑(wA I.arcs g_1.1).length : Int)) ∧
 (Twin_a8 I g_1).toNat < (wA I.arcs g_1.1).length ∧
 ∀ (x : Arc),
 (wA I.arcs g_1.1)[(Twin_a8 I g_1).toNat]? = some x →
 ((capI I.arcs (Twin_a9 g_1 I) = true →
 (Twin_a6 I g_1 x) ∧
 (Twin_a8 I g_1).toNat <
 (Twin_a3 I g_1 x).length ∧
 ∀ (x_4 : Arc),
 (Twin_a3 I g_1 x)[(Twin_a8 I g_1).toNat]? =
 some x_4 →
 ∃ (g' : Nat × List Value),
 g'.fst ≤ (groupsF I.arcs).length ∧
 (groupsF I.arcs).length - g'.fst < (groupsF I.arcs).length - g.fst ∧
 (Twin_a4 I g_1 g') ∧
 (Twin_a14 I g_1 g') ∧
 outC I.arcs g_1.1 g_1.2.2 = outB I.arcs g'.1 ∧
 (True ∧ True ∧ True) ∧
 I.sup = I.sup ∧
 (Twin_a5 I g_1 x).set
 (Twin_a8 I g_1).toNat
 { src := x_4.src, dst := x_4.dst, low := x_4.low, cap := (4611686018427387904 : Int), cost := x_4.cost : Arc } =
 wA I.arcs g'.1 ∧
 (Twin_a7) ∧
 nilEq Int ∧
 nilEq Arc ∧
 nilEq Int ∧
 nilEq Arc ∧
 (True ∧ True ∧ True) ∧
 I.sup = I.sup ∧ I.arcs = I.arcs ∧ True) ∧
 (capI I.arcs (Twin_a9 g_1 I) = false →
 (Twin_a6 I g_1 x) ∧
 (Twin_a8 I g_1).toNat <
 (Twin_a3 I g_1 x).length ∧
 ∀ (x_4 : Arc),
 (Twin_a3 I g_1 x)[(Twin_a8 I g_1).toNat]? =
 some x_4 →
 ∃ (g' : Nat × List Value),
 g'.fst ≤ (groupsF I.arcs).length ∧
 (groupsF I.arcs).length - g'.fst < (groupsF I.arcs).length - g.fst ∧
 (Twin_a4 I g_1 g') ∧
 (Twin_a14 I g_1 g') ∧
 outC I.arcs g_1.1 g_1.2.2 = outB I.arcs g'.1 ∧
 (True ∧ True ∧ True) ∧
 I.sup = I.sup ∧
 (Twin_a5 I g_1 x).set
 (Twin_a8 I g_1).toNat
 { src := x_4.src, dst := x_4.dst, low := x_4.low, cap := if capI I.arcs (Twin_a9 g_1 I) = true then (0 : Int) else capN I.arcs (Twin_a9 g_1 I), cost := x_4.cost : Arc } =
 wA I.arcs g'.1 ∧
 (Twin_a7) ∧
 nilEq Int ∧
 nilEq Arc ∧
 nilEq Int ∧
 nilEq Arc ∧
 (True ∧ True ∧ True) ∧
 I.sup = I.sup ∧ I.arcs = I.arcs ∧ True)) ∧
 (capI I.arcs (Twin_a9 g_1 I) = true →
 (Twin_a6 I g_1 x) ∧
 (Twin_a8 I g_1).toNat <
 (Twin_a3 I g_1 x).length ∧
 ∀ (x_4 : Arc),
 (Twin_a3 I g_1 x)[(Twin_a8 I g_1).toNat]? =
 some x_4 →
 ∃ (g' : Nat × List Value),
 g'.fst ≤ (groupsF I.arcs).length ∧
 (groupsF I.arcs).length - g'.fst < (groupsF I.arcs).length - g.fst ∧
 (Twin_a4 I g_1 g') ∧
 (Twin_a14 I g_1 g') ∧
 outC I.arcs g_1.1 g_1.2.2 = outB I.arcs g'.1 ∧
 (True ∧ True ∧ True) ∧
 I.sup = I.sup ∧
 (Twin_a5 I g_1 x).set
 (Twin_a8 I g_1).toNat
 { src := x_4.src, dst := x_4.dst, low := x_4.low, cap := (4611686018427387904 : Int), cost := x_4.cost : Arc } =
 wA I.arcs g'.1 ∧
 (Twin_a7) ∧
 nilEq Int ∧
 nilEq Arc ∧
 nilEq Int ∧
 nilEq Arc ∧
 (True ∧ True ∧ True) ∧
 I.sup = I.sup ∧ I.arcs = I.arcs ∧ True) ∧
 (capI I.arcs (Twin_a9 g_1 I) = false →
 (Twin_a6 I g_1 x) ∧
 (Twin_a8 I g_1).toNat <
 (Twin_a3 I g_1 x).length ∧
 ∀ (x_4 : Arc),
 (Twin_a3 I g_1 x)[(Twin_a8 I g_1).toNat]? =
 some x_4 →
 ∃ (g' : Nat × List Value),
 g'.fst ≤ (groupsF I.arcs).length ∧
 (groupsF I.arcs).length - g'.fst < (groupsF I.arcs).length - g.fst ∧
 (Twin_a4 I g_1 g') ∧
 (Twin_a14 I g_1 g') ∧
 outC I.arcs g_1.1 g_1.2.2 = outB I.arcs g'.1 ∧
 (True ∧ True ∧ True) ∧
 I.sup = I.sup ∧
 (Twin_a5 I g_1 x).set
 (Twin_a8 I g_1).toNat
 { src := x_4.src, dst := x_4.dst, low := x_4.low, cap := if capI I.arcs (Twin_a9 g_1 I) = true then (0 : Int) else capN I.arcs (Twin_a9 g_1 I), cost := x_4.cost : Arc } =
 wA I.arcs g'.1 ∧
 (Twin_a7) ∧
 nilEq Int ∧
 nilEq Arc ∧
 nilEq Int ∧
 nilEq Arc ∧
 (True ∧ True ∧ True) ∧
 I.sup = I.sup ∧ I.arcs = I.arcs ∧ True))) ∧
 ((x_3.cap == (4611686018427387904 : Int)) = false →
 (Twin_a17 x) ∧
 ∃ (g0 : Nat × List Value × Nat),
 ((g0.fst = g0.fst ∧ g0.2.fst = g0.2.fst ∧ g0.2.snd + (1 : Nat) ≤ (grp I.arcs g0.fst).length) ∧
 (Twin_a10 I g g0 x_1 x_2 x) ∧
 List.drop (Int.toNat (1 : Int)) (List.take (↑x.length : Int).toNat x) =
 List.drop (1 : Nat) (grp I.arcs g0.1) ∧
 ((x_3.cap =
 if capI I.arcs (Twin_a15 g0 I) = true then (0 : Int)
 else capN I.arcs (Twin_a15 g0 I)) ∧
 false = capI I.arcs (Twin_a15 g0 I) ∧ True) ∧
 (groupsF I.arcs = groupsF I.arcs ∧ g.2 = g0.2.1) ∧
 outB I.arcs g.1 = outC I.arcs g0.1 g0.2.2 ∧
 (True ∧ True ∧ True) ∧
 I.sup = I.sup ∧
 wA I.arcs g.1 = wA I.arcs g0.1 ∧
 (Twin_a18) ∧
 nilEq Int ∧
 nilEq Arc ∧
 nilEq Int ∧ nilEq Arc ∧ (True ∧ True ∧ True) ∧ I.sup = I.sup ∧ I.arcs = I.arcs ∧ True) ∧
 ∀ (g_1 : Nat × List Value × Nat),
 g_1.fst = g0.fst ∧ g_1.2.fst = g0.2.fst ∧ g_1.2.snd + (1 : Nat) ≤ (grp I.arcs g_1.fst).length →
 (decide ((↑g_1.2.2 : Int) < (↑(Twin_a11 I g_1).length : Int)) = true →
 ((0 : Int) ≤ (↑g_1.2.2 : Int) ∧
 (↑g_1.2.2 : Int) < (↑(Twin_a11 I g_1).length : Int)) ∧
 (↑g_1.2.2 : Int).toNat < (Twin_a11 I g_1).length ∧
 ∀ (x : Int),
 (Twin_a11 I g_1)[(↑g_1.2.2 : Int).toNat]? = some x →
 ((0 : Int) ≤ x ∧ x < (↑I.arcs.length : Int)) ∧
 x.toNat < I.arcs.length ∧
 ∀ (x_4 : Arc),
 I.arcs[x.toNat]? = some x_4 →
 ((0 : Int) ≤ x ∧ x < (↑I.arcs.length : Int)) ∧
 x.toNat < I.arcs.length ∧
 ∀ (x_5 : Arc),
 I.arcs[x.toNat]? = some x_5 →
 ((Twin_a2 x_5 I g_1 x g0 x_4) ∧
 (Twin_a1 x_5 I g_1 x g0 x_4)) ∧
 (Twin_a2 x_5 I g_1 x g0 x_4) ∧
 (Twin_a1 x_5 I g_1 x g0 x_4)) ∧
 (decide ((↑g_1.2.2 : Int) < (↑(Twin_a11 I g_1).length : Int)) = false →
 ((0 : Int) ≤ (grp I.arcs g_1.1).getD (0 : Nat) (0 : Int) ∧
 (grp I.arcs g_1.1).getD (0 : Nat) (0 : Int) < (↑(wA I.arcs g_1.1).length : Int)) ∧
 (Twin_a8 I g_1).toNat < (wA I.arcs g_1.1).length ∧
 ∀ (x : Arc),
 (wA I.arcs g_1.1)[(Twin_a8 I g_1).toNat]? = some x →
 ((capI I.arcs (Twin_a9 g_1 I) = true →
 (Twin_a6 I g_1 x) ∧
 (Twin_a8 I g_1).toNat <
 (Twin_a3 I g_1 x).length ∧
 ∀ (x_4 : Arc),
 (Twin_a3 I g_1 x)[(Twin_a8 I g_1).toNat]? =
 some x_4 →
 ∃ (g' : Nat × List Value),
 g'.fst ≤ (groupsF I.arcs).length ∧
 (groupsF I.arcs).length - g'.fst < (groupsF I.arcs).length - g.fst ∧
 (Twin_a4 I g_1 g') ∧
 (Twin_a14 I g_1 g') ∧
 outC I.arcs g_1.1 g_1.2.2 = outB I.arcs g'.1 ∧
 (True ∧ True ∧ True) ∧
 I.sup = I.sup ∧
 (Twin_a5 I g_1 x).set
 (Twin_a8 I g_1).toNat
 { src := x_4.src, dst := x_4.dst, low := x_4.low, cap := (4611686018427387904 : Int), cost := x_4.cost : Arc } =
 wA I.arcs g'.1 ∧
 (Twin_a7) ∧
 nilEq Int ∧
 nilEq Arc ∧
 nilEq Int ∧
 nilEq Arc ∧
 (True ∧ True ∧ True) ∧
 I.sup = I.sup ∧ I.arcs = I.arcs ∧ True) ∧
 (capI I.arcs (Twin_a9 g_1 I) = false →
 (Twin_a6 I g_1 x) ∧
 (Twin_a8 I g_1).toNat <
 (Twin_a3 I g_1 x).length ∧
 ∀ (x_4 : Arc),
 (Twin_a3 I g_1 x)[(Twin_a8 I g_1).toNat]? =
 some x_4 →
 ∃ (g' : Nat × List Value),
 g'.fst ≤ (groupsF I.arcs).length ∧
 (groupsF I.arcs).length - g'.fst < (groupsF I.arcs).length - g.fst ∧
 (Twin_a4 I g_1 g') ∧
 (Twin_a14 I g_1 g') ∧
 outC I.arcs g_1.1 g_1.2.2 = outB I.arcs g'.1 ∧
 (True ∧ True ∧ True) ∧
 I.sup = I.sup ∧
 (Twin_a5 I g_1 x).set
 (Twin_a8 I g_1).toNat
 { src := x_4.src, dst := x_4.dst, low := x_4.low, cap := if capI I.arcs (Twin_a9 g_1 I) = true then (0 : Int) else capN I.arcs (Twin_a9 g_1 I), cost := x_4.cost : Arc } =
 wA I.arcs g'.1 ∧
 (Twin_a7) ∧
 nilEq Int ∧
 nilEq Arc ∧
 nilEq Int ∧
 nilEq Arc ∧
 (True ∧ True ∧ True) ∧
 I.sup = I.sup ∧ I.arcs = I.arcs ∧ True)) ∧
 (capI I.arcs (Twin_a9 g_1 I) = true →
 (Twin_a6 I g_1 x) ∧
 (Twin_a8 I g_1).toNat <
 (Twin_a3 I g_1 x).length ∧
 ∀ (x_4 : Arc),
 (Twin_a3 I g_1 x)[(Twin_a8 I g_1).toNat]? =
 some x_4 →
 ∃ (g' : Nat × List Value),
 g'.fst ≤ (groupsF I.arcs).length ∧
 (groupsF I.arcs).length - g'.fst < (groupsF I.arcs).length - g.fst ∧
 (Twin_a4 I g_1 g') ∧
 (Twin_a14 I g_1 g') ∧
 outC I.arcs g_1.1 g_1.2.2 = outB I.arcs g'.1 ∧
 (True ∧ True ∧ True) ∧
 I.sup = I.sup ∧
 (Twin_a5 I g_1 x).set
 (Twin_a8 I g_1).toNat
 { src := x_4.src, dst := x_4.dst, low := x_4.low, cap := (4611686018427387904 : Int), cost := x_4.cost : Arc } =
 wA I.arcs g'.1 ∧
 (Twin_a7) ∧
 nilEq Int ∧
 nilEq Arc ∧
 nilEq Int ∧
 nilEq Arc ∧
 (True ∧ True ∧ True) ∧
 I.sup = I.sup ∧ I.arcs = I.arcs ∧ True) ∧
 (capI I.arcs (Twin_a9 g_1 I) = false →
 (Twin_a6 I g_1 x) ∧
 (Twin_a8 I g_1).toNat <
 (Twin_a3 I g_1 x).length ∧
 ∀ (x_4 : Arc),
 (Twin_a3 I g_1 x)[(Twin_a8 I g_1).toNat]? =
 some x_4 →
 ∃ (g' : Nat × List Value),
 g'.fst ≤ (groupsF I.arcs).length ∧
 (groupsF I.arcs).length - g'.fst < (groupsF I.arcs).length - g.fst ∧
 (Twin_a4 I g_1 g') ∧
 (Twin_a14 I g_1 g') ∧
 outC I.arcs g_1.1 g_1.2.2 = outB I.arcs g'.1 ∧
 (True ∧ True ∧ True) ∧
 I.sup = I.sup ∧
 (Twin_a5 I g_1 x).set
 (Twin_a8 I g_1).toNat
 { src := x_4.src, dst := x_4.dst, low := x_4.low, cap := if capI I.arcs (Twin_a9 g_1 I) = true then (0 : Int) else capN I.arcs (Twin_a9 g_1 I), cost := x_4.cost : Arc } =
 wA I.arcs g'.1 ∧
 (Twin_a7) ∧
 nilEq Int ∧
 nilEq Arc ∧
 nilEq Int ∧
 nilEq Arc ∧
 (True ∧ True ∧ True) ∧
 I.sup = I.sup ∧ I.arcs = I.arcs ∧ True)))) ∧
 (decide ((↑g.1 : Int) < (↑(groupsF I.arcs).length : Int)) = false →
 ((!didB I.arcs g.1) = true →
 (Twin_a16 I) ∧
 (((Twin_a13 I) ∧
 (0 : Int) = (twinS I).snd ∧ True) ∧
 True) ∧
 I.sup = (twinS I).fst.inst.sup ∧ I.arcs = (twinS I).fst.inst.arcs ∧ [] = (twinS I).fst.was.sup ∧ [] = (twinS I).fst.was.arcs ∧ True) ∧
 ((!didB I.arcs g.1) = false →
 (I.sup.length ≤ (1000000 : Nat) ∧
 (wA I.arcs g.1).length ≤ (1000000 : Nat) ∧ (0 : Nat) ≤ (1000000 : Nat) ∧ (outB I.arcs g.1).length ≤ (1000000 : Nat)) ∧
 True ∧
 ((rightF (Twin_a12 I g) != (0 : Int)) = true →
 (((Twin_a13 I) ∧
 (40 : Int) = (twinS I).snd ∧ True) ∧
 True) ∧
 [] = (twinS I).fst.inst.sup ∧ [] = (twinS I).fst.inst.arcs ∧ [] = (twinS I).fst.was.sup ∧ [] = (twinS I).fst.was.arcs ∧ True) ∧
 ((rightF (Twin_a12 I g) != (0 : Int)) = false →
 (Twin_a16 I) ∧
 (((True ∧
 True ∧
 (5 : Int) = (twinS I).fst.pass ∧
 True ∧ True ∧ (0 : Int) = (twinS I).fst.off.hi ∧ (0 : Int) = (twinS I).fst.off.lo ∧ true = (twinS I).fst.did ∧ True) ∧
 (0 : Int) = (twinS I).snd ∧ True) ∧
 True) ∧
 (Twin_a12 I g).sup = (twinS I).fst.inst.sup ∧
 (Twin_a12 I g).arcs = (twinS I).fst.inst.arcs ∧
 I.sup = (twinS I).fst.was.sup ∧ I.arcs = (twinS I).fst.was.arcs ∧ True))))
theorem Twin_q (I : Inst) (ty0 ty1 : TypeId) : Twin_E0 I ty0 ty1 = FVcP TT Twin_g (Twin_I I) (Twin_an I) Try.f47 [.agg [.row 0, .row 1]] [(0, .row false ty0 (.ints .i64 I.sup)), (1, .row false ty1 (.arcs I.arcs))] (Twin_r I) := by kernel_rfl
theorem Twin_E (I : Inst) (ty0 ty1 : TypeId) (hp : I.sup.length ≤ 1000000 ∧ I.arcs.length ≤ 1000000) : FVc TT Twin_g (Twin_I I) (Twin_an I) Try.f47 [.agg [.row 0, .row 1]] [(0, .row false ty0 (.ints .i64 I.sup)), (1, .row false ty1 (.arcs I.arcs))] (Twin_r I) := by
  refine FVc.of (Twin_E0 I ty0 ty1) (Twin_q I ty0 ty1) ?_
  unfold Twin_E0
  delta Twin_a18 Twin_a17 Twin_a16 Twin_a15 Twin_a14 Twin_a13 Twin_a12 Twin_a11 Twin_a10 Twin_a9 Twin_a8 Twin_a7 Twin_a6 Twin_a5 Twin_a4 Twin_a3 Twin_a2 Twin_a1 Twin_a0
  obtain ⟨p1, p2⟩ := hp
  simp only [eq_self, exists_const, forall_const, decide_eq_true_eq, decide_eq_false_iff_not, and_true, true_and, bne_iff_ne, ne_eq, bne_eq_false_iff_eq, Int.toNat_natCast, Bool.not_eq_true', Bool.not_eq_false', beq_iff_eq, beq_eq_false_iff_ne, nilEq_true]
  simp only [DK.len]
  have bad : ¬ rightF I = 0 → twinS I = (StepD.none, rightF I) := fun h => by unfold twinS; rw [if_pos h]
  refine ⟨fun h => by rw [bad h]; exact ⟨⟨⟨rfl, rfl, rfl, rfl⟩, rfl⟩, rfl, rfl, rfl, rfl⟩, fun hr => ⟨⟨by omega, by omega⟩, ⟨by omega, by omega⟩, p2, fun V => ⟨(0, V 0), by simp [didB_zero, ← outB_zero, ← wA_zero], fun g hg => ?_⟩⟩⟩
  have hrs := right_small hr
  have hGF : (groupsF I.arcs).length = (firsts I.arcs I.arcs.length).length := groupsTo_len _ _
  have hFl := firsts_len I.arcs I.arcs.length
  obtain ⟨t, vs⟩ := g
  dsimp only at hg ⊢
  have hw : ∀ j : Nat, j ≤ 1000000 → IntKind.i64.wrap ((j : Int) + 1) = ((j + 1 : Nat) : Int) := fun j hj => by rw [w64 (by omega) (by omega)]; omega
  refine ⟨fun h1 => ?_, fun h1 => ?_⟩
  · have htl : t < (groupsF I.arcs).length := by omega
    have hgt : (groupsF I.arcs)[t]? = some (grp I.arcs t) := by unfold grp; rw [List.getD_eq_getElem?_getD, List.getElem?_eq_getElem htl]; rfl
    obtain ⟨p, hp, hpl, hf, he, r, hgr⟩ := grp_at htl
    obtain ⟨a, ha⟩ : ∃ a, I.arcs[p]? = some a := ⟨_, List.getElem?_eq_getElem hpl⟩
    have hda : I.arcs.getD p default = a := by rw [List.getD_eq_getElem?_getD, ha]; rfl
    have hgl := grp_len hr htl
    have hg0 : (grp I.arcs t)[Int.toNat 0]? = some (p : Int) := by rw [hgr]; rfl
    have hgd : (grp I.arcs t).getD 0 0 = (p : Int) := by rw [hgr]; rfl
    have hlen1 : 1 ≤ (grp I.arcs t).length := by rw [hgr]; simp
    have hap : I.arcs[((p : Int)).toNat]? = some a := by simpa using ha
    simp only [hgt, Option.some.injEq, forall_eq', hg0]
    refine ⟨by omega, htl, by omega, by exact hlen1, by omega, by simpa using hpl, ?_⟩
    simp only [Int.toNat_natCast, ha, Option.some.injEq, forall_eq', Int.toNat_one]
    refine ⟨by omega, hpl, fun hc => ?_, fun hc => ?_⟩
    all_goals
      refine ⟨by omega, (t, vs, 0), ?_, fun g1 hq => ?_⟩
      · dsimp only
        have htk1 : (grp I.arcs t).take (0 + 1) = [(p : Int)] := by rw [hgr]; rfl
        rw [List.take_length, htk1]
        have e1 : lowM I.arcs [(p : Int)] = a.low := by unfold lowM gsum; simp only [List.map_cons, List.map_nil, List.sum_cons, List.sum_nil, Int.toNat_natCast, hda, Int.add_zero]
        have e2 : capN I.arcs [(p : Int)] = a.cap := by unfold capN gsum; simp only [List.map_cons, List.map_nil, List.sum_cons, List.sum_nil, Int.toNat_natCast, hda, Int.add_zero]
        have e3 : capI I.arcs [(p : Int)] = decide (a.cap = inf) := by unfold capI; simp only [List.any_cons, List.any_nil, Int.toNat_natCast, hda, Bool.or_false]
        rw [e1, e2, e3, hgd]
        first
          | (rw [decide_eq_true (show a.cap = inf from hc)]
             exact ⟨hlen1, ⟨by simp, rfl, rfl, rfl, rfl, rfl⟩, rfl, ⟨rfl, rfl⟩, rfl, outC_zero _ _, rfl⟩)
          | (rw [decide_eq_false (show ¬ a.cap = inf from hc)]
             exact ⟨hlen1, ⟨by simp, rfl, rfl, rfl, rfl, rfl⟩, rfl, ⟨rfl, rfl⟩, rfl, outC_zero _ _, rfl⟩)
      · obtain ⟨t1, vs1, j⟩ := g1
        dsimp only at hq ⊢
        obtain ⟨rfl, rfl, hj⟩ := hq
        have hdl : ((grp I.arcs t1).drop 1).length = (grp I.arcs t1).length - 1 := List.length_drop
        refine ⟨fun h3 => ⟨by omega, by omega, fun x hx => ?_⟩, fun h3 => ?_⟩
        · have hxm : x ∈ grp I.arcs t1 := List.mem_of_mem_drop (List.mem_of_getElem? hx)
          obtain ⟨hx0, hxl, y, hy, hym⟩ := grp_arc hr htl hxm
          have hdy : I.arcs.getD x.toNat default = y := by rw [List.getD_eq_getElem?_getD, hy]; rfl
          have htk := drop_one_get hx
          have hlow : lowM I.arcs ((grp I.arcs t1).take (j + 2)) = lowM I.arcs ((grp I.arcs t1).take (j + 1)) + y.low := by unfold lowM; rw [htk, gsum_snoc, hdy]
          have hcN : capN I.arcs ((grp I.arcs t1).take (j + 2)) = capN I.arcs ((grp I.arcs t1).take (j + 1)) + y.cap := by unfold capN; rw [htk, gsum_snoc, hdy]
          have hcI : capI I.arcs ((grp I.arcs t1).take (j + 2)) = (capI I.arcs ((grp I.arcs t1).take (j + 1)) || decide (y.cap = inf)) := by rw [htk, capI_snoc, hdy]
          have b2 := lowM_bd hr htl (j + 2)
          have b3 := capN_bd hr htl (j + 2)
          have hwl : IntKind.i64.wrap (lowM I.arcs ((grp I.arcs t1).take (j + 1)) + y.low) = lowM I.arcs ((grp I.arcs t1).take (j + 2)) := by rw [← hlow]; exact w64 (by omega) (by omega)
          simp only [hy, Option.some.injEq, forall_eq']
          rw [hwl]
          have leaf : ∀ (n : Int) (b : Bool), n = (if capI I.arcs ((grp I.arcs t1).take (j + 2)) = true then 0 else capN I.arcs ((grp I.arcs t1).take (j + 2))) → b = capI I.arcs ((grp I.arcs t1).take (j + 2)) →
              ((0 ≤ x ∧ x < ((outC I.arcs t1 j).length : Int)) ∧ x.toNat < (outC I.arcs t1 j).length ∧ ∃ g' : Nat × List Value × Nat, (g'.fst = t1 ∧ g'.snd.fst = vs1 ∧ g'.snd.snd + 1 ≤ (grp I.arcs g'.fst).length) ∧ (grp I.arcs g'.fst).length - g'.snd.snd < (grp I.arcs t1).length - j ∧
                (true = (didB I.arcs g'.fst || decide (0 < g'.snd.snd)) ∧ (t1 : Int) = (g'.fst : Int) ∧ (grp I.arcs t1).getD 0 0 = (grp I.arcs g'.fst).getD 0 0 ∧ lowM I.arcs ((grp I.arcs t1).take (j + 2)) = lowM I.arcs (List.take (g'.snd.snd + 1) (grp I.arcs g'.fst)) ∧
                  (((grp I.arcs t1).drop 1).length : Int) = (((grp I.arcs g'.fst).drop 1).length : Int) ∧ IntKind.i64.wrap ((j : Int) + 1) = (g'.snd.snd : Int)) ∧ List.drop 1 (grp I.arcs t1) = List.drop 1 (grp I.arcs g'.fst) ∧
                ((n = if capI I.arcs (List.take (g'.snd.snd + 1) (grp I.arcs g'.fst)) = true then 0 else capN I.arcs (List.take (g'.snd.snd + 1) (grp I.arcs g'.fst))) ∧ b = capI I.arcs (List.take (g'.snd.snd + 1) (grp I.arcs g'.fst))) ∧
                vs1 = g'.snd.fst ∧ (outC I.arcs t1 j).set x.toNat true = outC I.arcs g'.fst g'.snd.snd ∧ wA I.arcs t1 = wA I.arcs g'.fst) := by
            intro n b hn hb
            exact ⟨⟨hx0, by rw [outC_len]; exact hxl⟩, by rw [outC_len]; omega, (t1, vs1, j + 1), ⟨rfl, rfl, by dsimp only; omega⟩, by dsimp only; omega, ⟨by simp, rfl, rfl, rfl, rfl, hw j (by omega)⟩, rfl, ⟨hn, hb⟩, rfl, outC_succ hx hx0, rfl⟩
          refine ⟨⟨hx0, hxl⟩, by omega, ⟨hx0, hxl⟩, by omega, ?_⟩
          repeat' first | refine leaf _ _ ?_ ?_ | apply And.intro | intro _
          all_goals
            clear leaf
            first
              | (rw [hcI]; simp [inf, *]; done)
              | (have hyq : decide (y.cap = inf) = false := decide_eq_false (show ¬ y.cap = inf from ‹¬ y.cap = 4611686018427387904›)
                 have hk : capI I.arcs ((grp I.arcs t1).take (j + 1)) = true := by assumption
                 rw [hcI, hk, Bool.true_or]; try rfl)
              | (have hyq : decide (y.cap = inf) = false := decide_eq_false (show ¬ y.cap = inf from ‹¬ y.cap = 4611686018427387904›)
                 have e0 : capI I.arcs ((grp I.arcs t1).take (j + 1)) = false := by assumption
                 rw [hcI, e0, hyq]; rfl)
              | (have hyq : decide (y.cap = inf) = false := decide_eq_false (show ¬ y.cap = inf from ‹¬ y.cap = 4611686018427387904›)
                 have e0 : capI I.arcs ((grp I.arcs t1).take (j + 1)) = false := by assumption
                 have e : capI I.arcs ((grp I.arcs t1).take (j + 2)) = false := by rw [hcI, e0, hyq]; rfl
                 have b4 := b3 e
                 rw [e, e0, if_neg (by decide), if_neg (by decide), hcN]
                 exact w64 (by omega) (by omega))
              | (trace_state; sorry)
        · have htl2 : (grp I.arcs t1).take (j + 1) = grp I.arcs t1 := List.take_of_length_le (by omega)
          have hwa := wA_at hp hpl
          rw [hda] at hwa
          have hgs : ∀ z, ((wA I.arcs t1).set p z)[p]? = some z := fun z => List.getElem?_set_self (by rw [wA_len]; exact hpl)
          have hset := wA_succ hp
          have hm : mergedA I.arcs p = { a with low := lowM I.arcs (grp I.arcs t1), cap := capM I.arcs (grp I.arcs t1) } := by unfold mergedA; rw [← he, hda]
          rw [hm] at hset
          have hoc := outC_end htl (j := j) (by omega)
          have hdd := didB_succ htl
          have hdj : decide (0 < j) = decide (1 < (grp I.arcs t1).length) := decide_eq_decide.2 (by omega)
          have hww := hw t1 (by omega)
          simp only [htl2, hgd, Int.toNat_natCast, hwa, Option.some.injEq, forall_eq', hgs, List.length_set, wA_len, List.set_set]
          have e1 : capI I.arcs (grp I.arcs t1) = true → (wA I.arcs t1).set p { src := a.src, dst := a.dst, low := lowM I.arcs (grp I.arcs t1), cap := 4611686018427387904, cost := a.cost } = wA I.arcs (t1 + 1) := fun h => by rw [← hset]; unfold capM; rw [if_pos h]; rfl
          have e2 : capI I.arcs (grp I.arcs t1) = false → (wA I.arcs t1).set p { src := a.src, dst := a.dst, low := lowM I.arcs (grp I.arcs t1), cap := if capI I.arcs (grp I.arcs t1) = true then 0 else capN I.arcs (grp I.arcs t1), cost := a.cost } = wA I.arcs (t1 + 1) := fun h => by rw [← hset]; unfold capM; rw [if_neg (by rw [h]; decide), if_neg (by rw [h]; decide)]
          have leaf : ∀ w : List Arc, w = wA I.arcs (t1 + 1) → ∃ g' : Nat × List Value, g'.fst ≤ (groupsF I.arcs).length ∧ (groupsF I.arcs).length - g'.fst < (groupsF I.arcs).length - t1 ∧ ((didB I.arcs t1 || decide (0 < j)) = didB I.arcs g'.fst ∧ IntKind.i64.wrap ((t1 : Int) + 1) = (g'.fst : Int)) ∧ vs1 = g'.snd ∧ outC I.arcs t1 j = outB I.arcs g'.fst ∧ w = wA I.arcs g'.fst := fun w h => ⟨(t1 + 1, vs1), by dsimp only; omega, by dsimp only; omega, ⟨by dsimp only; rw [hdd, hdj], hww⟩, rfl, hoc, h⟩
          exact ⟨by omega, hpl, ⟨fun h => ⟨by omega, hpl, leaf _ (e1 h)⟩, fun h => ⟨by omega, hpl, leaf _ (e2 h)⟩⟩, fun h => ⟨by omega, hpl, leaf _ (e1 h)⟩, fun h => ⟨by omega, hpl, leaf _ (e2 h)⟩⟩
  · have et : t = (groupsF I.arcs).length := by omega
    subst et
    have hd := didB_end I.arcs
    have hS : twinS I = doneF 5 I (twinI I) ⟨0, 0⟩ (decide ((firsts I.arcs I.arcs.length).length < I.arcs.length)) := by unfold twinS; rw [if_neg (fun h => h hr)]
    have hI : withoutF ⟨I.sup, wA I.arcs (groupsF I.arcs).length⟩ [] (outB I.arcs (groupsF I.arcs).length) = twinI I := by unfold twinI; rw [← hGF]
    rw [hI, hS, ← hd, wA_len, outB_len]
    refine ⟨fun h2 => ⟨⟨by omega, by omega⟩, by rw [doneF_stay h2]; exact ⟨⟨⟨rfl, rfl, rfl, rfl⟩, rfl⟩, rfl, rfl, rfl, rfl⟩⟩, fun h2 => ⟨⟨by omega, by omega, by omega, by omega⟩, fun h3 => by rw [doneF_over h2 h3]; exact ⟨⟨⟨rfl, rfl, rfl, rfl⟩, rfl⟩, rfl, rfl, rfl, rfl⟩, fun h3 => ⟨⟨by omega, by omega⟩, by rw [doneF_done h2 h3]; exact ⟨⟨⟨rfl, rfl, rfl, rfl⟩, rfl⟩, rfl, rfl, rfl, rfl⟩⟩⟩⟩
theorem Twin_ok : SpecOk Try.prog Twin_n true (specOf true Twin_fs) :=
  spec_ok' TT_ok (show GsOk Try.prog Twin_g from gsOk_cons Right_ok (gsOk_cons Copy_ok (gsOk_cons Groups_ok (gsOk_cons limit16_ok (gsOk_cons plus16_ok (gsOk_cons capOf16_ok (gsOk_cons Without_ok (gsOk_nil)))))))) (by kernel_rfl) mixedOrders Try.func47 rfl rfl (by kernel_rfl) (n := 1) (by decide +kernel) (I := Twin_IA) (fun _ _ => isOk_nil) (A := Twin_A)
    (fun args h r hr => by
      unfold Twin_fs at hr
      split at hr
      · rename_i ty0 I_s ty1 I_a; cases hr; refine ⟨rfl, fun hp => ?_⟩; have hE := Twin_E ⟨I_s, I_a⟩ ty0 ty1 hp; exact hE
      · cases hr)
abbrev known16_a0 := (twinS
 { sup := List.replicate (Int.toNat (2 : Int)) (0 : Int), arcs := [{ src := (0 : Int), dst := (1 : Int), low := (1 : Int), cap := (2 : Int), cost := (0 : Int) : Arc }, { src := (0 : Int), dst := (1 : Int), low := (0 : Int), cap := (4611686018427387904 : Int), cost := (0 : Int) : Arc }] : Inst })
abbrev known16_a1 := (spreadF
 { sup := List.replicate (Int.toNat (2 : Int)) (0 : Int), arcs := [{ src := (0 : Int), dst := (1 : Int), low := (1 : Int), cap := (2 : Int), cost := (0 : Int) : Arc }, { src := (0 : Int), dst := (1 : Int), low := (0 : Int), cap := (4611686018427387904 : Int), cost := (0 : Int) : Arc }] : Inst }
 [(0 : Int), (1 : Int)] (5 : Int))
def known16_E0 : Prop :=
      ((2 : Int) = (2 : Int) ∧ (0 : Int) ≤ (2 : Int) ∧ (2 : Int) ≤ (1000000000 : Int)) ∧
 (rightF
 { sup := List.replicate (Int.toNat (2 : Int)) (0 : Int), arcs := [{ src := (0 : Int), dst := (1 : Int), low := (1 : Int), cap := (2 : Int), cost := (0 : Int) : Arc }, { src := (0 : Int), dst := (1 : Int), low := (0 : Int), cap := (4611686018427387904 : Int), cost := (0 : Int) : Arc }] : Inst } =
 (0 : Int) ∧
 I64 (5 : Int) ∧ (2 : Nat) ≤ (1000000 : Nat)) ∧
 ((List.replicate (Int.toNat (2 : Int)) (0 : Int)).length ≤ (1000000 : Nat) ∧ (2 : Nat) ≤ (1000000 : Nat)) ∧
 ((known16_a1).isSome =
 true →
 ((known16_a1).getD
 []).length ≤
 (1000000000 : Nat) ∧
 (decide
 ((known16_a1).getD
 [] =
 [(2 : Int), (3 : Int)]) =
 true →
 (((known16_a0).snd ==
 (0 : Int)) =
 true →
 ((known16_a0).fst.did =
 true →
 (((↑(known16_a0).fst.inst.arcs.length :
 Int) ==
 (1 : Int)) =
 true →
 ((0 : Int) ≤ (0 : Int) ∧
 (0 : Int) <
 (↑(known16_a0).fst.inst.arcs.length :
 Int)) ∧
 Int.toNat (0 : Int) <
 (known16_a0).fst.inst.arcs.length ∧
 ∀ (x : Arc),
 (known16_a0).fst.inst.arcs[Int.toNat (0 : Int)]? =
 some x →
 ((x.cap == (4611686018427387904 : Int)) = true →
 ((0 : Int) ≤ (0 : Int) ∧
 (0 : Int) <
 (↑(known16_a0).fst.inst.arcs.length :
 Int)) ∧
 Int.toNat (0 : Int) <
 (known16_a0).fst.inst.arcs.length ∧
 ∀ (x : Arc),
 (known16_a0).fst.inst.arcs[Int.toNat (0 : Int)]? =
 some x →
 ((x.low == (1 : Int)) = true ∧ True) ∧ True) ∧
 ((x.cap == (4611686018427387904 : Int)) = false → (false = true ∧ True) ∧ True)) ∧
 (((↑(known16_a0).fst.inst.arcs.length :
 Int) ==
 (1 : Int)) =
 false →
 (false = true ∧ True) ∧ True)) ∧
 ((known16_a0).fst.did =
 false →
 (false = true ∧ True) ∧ True)) ∧
 (((known16_a0).snd ==
 (0 : Int)) =
 false →
 (false = true ∧ True) ∧ True)) ∧
 (decide
 ((known16_a1).getD
 [] =
 [(2 : Int), (3 : Int)]) =
 false →
 (false = true ∧ True) ∧ True)) ∧
 ((known16_a1).isSome =
 false →
 (false = true ∧ True) ∧ True)
theorem known16_q : known16_E0 = FVcP TT known16_g (known16_I) (known16_an) Try.f41 [] [] (known16_r) := by kernel_rfl
theorem known16_E (hp : True) : FVc TT known16_g (known16_I) (known16_an) Try.f41 [] [] (known16_r) := by
  refine FVc.of (known16_E0) (known16_q) ?_
  unfold known16_E0
  delta known16_a1 known16_a0
  simp only [show (⟨List.replicate (Int.toNat 2) 0, [⟨0, 1, 1, 2, 0⟩, ⟨0, 1, 0, 4611686018427387904, 0⟩]⟩ : Inst) = known16I from rfl, known16_spread, known16_twin, known16_right]
  simp [I64]
theorem known16_ok : SpecOk Try.prog known16_n true (specOf true known16_fs) :=
  spec_ok' TT_ok (show GsOk Try.prog known16_g from gsOk_cons Spread_ok (gsOk_cons Nums_ok (gsOk_cons Twin_ok (gsOk_nil)))) (by kernel_rfl) mixedOrders Try.func41 rfl rfl (by kernel_rfl) (n := 0) (by decide +kernel) (I := known16_IA) (fun _ _ => isOk_nil) (A := known16_A)
    (fun args h r hr => by
      unfold known16_fs at hr
      split at hr
      · cases hr; refine ⟨rfl, fun hp => ?_⟩; have hE := known16_E  hp; exact hE
      · cases hr)
end Go.Proofs.Ytnjcklhgdpgllaa
