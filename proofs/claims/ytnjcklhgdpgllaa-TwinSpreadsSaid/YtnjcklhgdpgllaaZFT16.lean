/- Part of the proof, FT16. -/
import Derived.Test.YtnjcklhgdpgllaaZFA4
import Derived.Test.YtnjcklhgdpgllaaZFN1
import Derived.Test.YtnjcklhgdpgllaaZDT16
import Derived.Test.YtnjcklhgdpgllaaZVc11
set_option linter.unusedVariables false
set_option linter.all false
set_option linter.unusedSimpArgs false
set_option maxRecDepth 100000
namespace Go.Proofs.Ytnjcklhgdpgllaa
open Go Go.RowKit Go.Ql Go.Vc
def Sub_E0 (a : Int) (b : Int) : Prop :=
      ((!decide (b > (0 : Int)) == decide (IntKind.i64.wrap (a - b) < a)) = true →
 ((((0 : Int) = if I64 (a - b) then a - b else (0 : Int)) ∧ false = decide (I64 (a - b)) ∧ True) ∧ True) ∧ True) ∧
 ((!decide (b > (0 : Int)) == decide (IntKind.i64.wrap (a - b) < a)) = false →
 (((IntKind.i64.wrap (a - b) = if I64 (a - b) then a - b else (0 : Int)) ∧ true = decide (I64 (a - b)) ∧ True) ∧ True) ∧ True)
theorem Sub_q (a : Int) (b : Int) : Sub_E0 a b = FVcP TT Sub_g (Sub_I a b) (Sub_an a b) Try.f82 [.int .i64 a, .int .i64 b] [] (Sub_r a b) := by kernel_rfl
theorem Sub_E (a : Int) (b : Int) (hp : I64 a ∧ I64 b) : FVc TT Sub_g (Sub_I a b) (Sub_an a b) Try.f82 [.int .i64 a, .int .i64 b] [] (Sub_r a b) := by
  refine FVc.of (Sub_E0 a b) (Sub_q a b) ?_
  unfold Sub_E0
  simp only [eq_self, exists_const, forall_const, decide_eq_true_eq, decide_eq_false_iff_not, and_true, true_and, bne_iff_ne, ne_eq, bne_eq_false_iff_eq, Int.toNat_natCast, Bool.not_eq_true', Bool.not_eq_false', beq_iff_eq, beq_eq_false_iff_ne, nilEq_true]
  obtain ⟨⟨a1, a2⟩, b1, b2⟩ := hp
  have hd : I64 (a - b) ↔ (decide (b > 0) = decide (IntKind.i64.wrap (a - b) < a)) := by
    rw [wrapI64]
    by_cases h1 : b > 0 <;> by_cases h2 : (a - b + 9223372036854775808) % 18446744073709551616 - 9223372036854775808 < a <;> simp only [h1, h2, decide_true, decide_false, I64] <;> first | (simp; omega) | omega
  refine ⟨fun h => ?_, fun h => ?_⟩
  · have := mt hd.1 h
    simp [this]
  · have h2 := hd.2 h
    simp only [h2, decide_true, and_true, if_true]
    exact w64 h2.1 h2.2
theorem Sub_ok : SpecOk Try.prog Sub_n true (specOf true Sub_fs) :=
  spec_ok' TT_ok (show GsOk Try.prog Sub_g from gsOk_nil) (by kernel_rfl) mixedOrders Try.func82 rfl rfl (by kernel_rfl) (n := 2) (by decide +kernel) (I := Sub_IA) (fun _ _ => isOk_nil) (A := Sub_A)
    (fun args h r hr => by
      unfold Sub_fs at hr
      split at hr
      · rename_i a b; cases hr; refine ⟨rfl, fun hp => ?_⟩; have hE := Sub_E a b hp; exact hE
      · cases hr)
theorem limit16_ok : SpecOk Try.prog limit16_n false limit16_spec :=
  inl_ok TT_ok (show GsOk Try.prog limit16_g from gsOk_nil) (by kernel_rfl) mixedOrders Try.func85 rfl rfl (by kernel_rfl) _
theorem plus16_ok : SpecOk Try.prog plus16_n false plus16_spec :=
  inl_ok TT_ok (show GsOk Try.prog plus16_g from gsOk_nil) (by kernel_rfl) mixedOrders Try.func86 rfl rfl (by kernel_rfl) _
theorem capOf16_ok : SpecOk Try.prog capOf16_n false capOf16_spec :=
  inl_ok TT_ok (show GsOk Try.prog capOf16_g from gsOk_nil) (by kernel_rfl) mixedOrders Try.func87 rfl rfl (by kernel_rfl) _
def share_E0 (a : Arc) (n : Int) : Prop :=
      (decide (n ≤ (0 : Int)) = true → (((0 : Int) = giveT a n false ∧ true = true ∧ True) ∧ True) ∧ True) ∧
 (decide (n ≤ (0 : Int)) = false →
 ((a.cap == (4611686018427387904 : Int)) = true → ((n = giveT a n false ∧ true = true ∧ True) ∧ True) ∧ True) ∧
 ((a.cap == (4611686018427387904 : Int)) = false →
 (I64 a.cap ∧ I64 a.low) ∧
 ((!decide (I64 (a.cap - a.low))) = true → (((0 : Int) = giveT a n false ∧ false = true ∧ True) ∧ True) ∧ True) ∧
 ((!decide (I64 (a.cap - a.low))) = false → ((min (if I64 (a.cap - a.low) then a.cap - a.low else (0 : Int)) n = giveT a n false ∧ true = true ∧ True) ∧ True) ∧ True)))
theorem share_q (a : Arc) (n : Int) : share_E0 a n = FVcP TT share_g (share_I a n) (share_an a n) Try.f83 [.agg (encArc a), .int .i64 n] [] (share_r a n) := by kernel_rfl
theorem share_E (a : Arc) (n : Int) (hp : I64 n ∧ 0 ≤ a.low ∧ a.low ≤ 4398046511104 ∧ (a.cap = inf ∨ a.low ≤ a.cap ∧ a.cap ≤ 4398046511104)) : FVc TT share_g (share_I a n) (share_an a n) Try.f83 [.agg (encArc a), .int .i64 n] [] (share_r a n) := by
  refine FVc.of (share_E0 a n) (share_q a n) ?_
  unfold share_E0
  simp only [eq_self, exists_const, forall_const, decide_eq_true_eq, decide_eq_false_iff_not, and_true, true_and, bne_iff_ne, ne_eq, bne_eq_false_iff_eq, Int.toNat_natCast, Bool.not_eq_true', Bool.not_eq_false', beq_iff_eq, beq_eq_false_iff_ne, nilEq_true]
  obtain ⟨h1, h2, h3, h4⟩ := hp
  unfold giveT inf
  simp only [Bool.false_eq_true, if_false]
  unfold inf at h4
  refine ⟨fun a1 => by rw [if_pos a1], fun a1 => ⟨fun a2 => by rw [if_neg a1, if_pos a2], fun a2 => ?_⟩⟩
  have a3 : I64 (a.cap - a.low) := by unfold I64; omega
  refine ⟨⟨by unfold I64; omega, by unfold I64; omega⟩, fun h => absurd a3 (by simpa using h), fun _ => ?_⟩
  rw [if_pos a3, if_neg a1, if_neg a2]
theorem share_ok : SpecOk Try.prog share_n true (specOf true share_fs) :=
  spec_ok' TT_ok (show GsOk Try.prog share_g from gsOk_cons limit16_ok (gsOk_cons Sub_ok (gsOk_nil))) (by kernel_rfl) mixedOrders Try.func83 rfl rfl (by kernel_rfl) (n := 2) (by decide +kernel) (I := share_IA) (fun _ _ => isOk_nil) (A := share_A)
    (fun args h r hr => by
      unfold share_fs at hr
      split at hr
      · rename_i a_0 a_1 a_2 a_3 a_4 n; cases hr; refine ⟨rfl, fun hp => ?_⟩; have hE := share_E ⟨a_0, a_1, a_2, a_3, a_4⟩ n hp; exact hE
      · cases hr)
theorem subAll_step {I : Inst} {l : List Int} {k : Nat} {x s : Int} (h : l[k]? = some x) : subAll I (l.drop k) s = if isArcF I x then (if I64 (s - (arcAt I x).low) then subAll I (l.drop (k + 1)) (s - (arcAt I x).low) else none) else none := by
  rw [drop_get h]; rfl
theorem spreadGo_step {I : Inst} {l o : List Int} {k : Nat} {x s : Int} (h : l[k]? = some x) : spreadGo I (l.drop k) s o = if I64 ((arcAt I x).low + giveT (arcAt I x) s (decide (l.length ≤ k + 1))) then spreadGo I (l.drop (k + 1)) (s - giveT (arcAt I x) s (decide (l.length ≤ k + 1))) (o ++ [(arcAt I x).low + giveT (arcAt I x) s (decide (l.length ≤ k + 1))]) else none := by
  have e : (l.drop (k + 1)).isEmpty = decide (l.length ≤ k + 1) := by
    by_cases h2 : l.length ≤ k + 1
    · rw [List.drop_of_length_le h2, decide_eq_true h2]; rfl
    · rw [decide_eq_false h2]
      cases h3 : l.drop (k + 1) with
      | nil => have := congrArg List.length h3; rw [List.length_drop] at this; simp at this; omega
      | cons y r => rfl
  rw [drop_get h, spreadGo, e]
theorem subAll_all {I : Inst} : ∀ {l : List Int} {s t : Int}, subAll I l s = some t → l.all (isArcF I) = true
  | [], _, _, _ => rfl
  | a :: l, s, t, h => by
    rw [subAll] at h
    split at h
    · rename_i h1
      split at h
      · rw [List.all_cons, h1, subAll_all h]; rfl
      · cases h
    · cases h
theorem giveT_I64 {a : Arc} {t : Int} (h : I64 t) (h0 : 0 ≤ a.low) (h1 : a.cap = inf ∨ a.low ≤ a.cap ∧ a.cap ≤ 4398046511104) : I64 (giveT a t false) ∧ I64 (t - giveT a t false) := by
  unfold I64 at h ⊢
  unfold giveT
  simp only [Bool.false_eq_true, if_false]
  split
  · omega
  · split
    · omega
    · omega
theorem spread_none {I : Inst} {l : List Int} {n : Int} (h : subAll I l n = none) : spreadF I l n = none := by
  unfold spreadF
  split
  · rfl
  · rw [h]; rfl
abbrev Spread_a0 (I : Inst) (l : List Int) (n : Int) := ((True ∧ false = (spreadF I l n).isSome ∧ True) ∧ True)
def Spread_E0 (I : Inst) (l : List Int) (n : Int) (ty0 ty1 ty2 : TypeId) : Prop :=
      (((↑l.length : Int) == (0 : Int)) = true → (Spread_a0 I l n) ∧ [] = (spreadF I l n).getD [] ∧ True) ∧
 (((↑l.length : Int) == (0 : Int)) = false →
 ∃ (g0 : Nat × Int),
 ((g0.fst ≤ l.length ∧ I64 g0.snd ∧ subAll I (List.drop g0.fst l) g0.snd = subAll I l n) ∧
 (True ∧ (0 : Nat) = (0 : Nat) ∧ n = g0.2 ∧ True ∧ (↑l.length : Int) = (↑l.length : Int) ∧ (0 : Int) = (↑g0.1 : Int) ∧ True) ∧
 (True ∧ True ∧ True) ∧ I.sup = I.sup ∧ I.arcs = I.arcs ∧ l = l ∧ True) ∧
 ∀ (g : Nat × Int),
 g.fst ≤ l.length ∧ I64 g.snd ∧ subAll I (List.drop g.fst l) g.snd = subAll I l n →
 (decide ((↑g.1 : Int) < (↑l.length : Int)) = true →
 ((0 : Int) ≤ (↑g.1 : Int) ∧ (↑g.1 : Int) < (↑l.length : Int)) ∧
 (↑g.1 : Int).toNat < l.length ∧
 ∀ (x : Int),
 l[(↑g.1 : Int).toNat]? = some x →
 (decide (x < (0 : Int)) = true → (Spread_a0 I l n) ∧ [] = (spreadF I l n).getD [] ∧ True) ∧
 (decide (x < (0 : Int)) = false →
 (decide (x ≥ (↑I.arcs.length : Int)) = true → (Spread_a0 I l n) ∧ [] = (spreadF I l n).getD [] ∧ True) ∧
 (decide (x ≥ (↑I.arcs.length : Int)) = false →
 ((0 : Int) ≤ x ∧ x < (↑I.arcs.length : Int)) ∧
 x.toNat < I.arcs.length ∧
 ∀ (x_1 : Arc),
 I.arcs[x.toNat]? = some x_1 →
 (I64 g.2 ∧ I64 x_1.low) ∧
 ((!decide (I64 (g.2 - x_1.low))) = true → (Spread_a0 I l n) ∧ [] = (spreadF I l n).getD [] ∧ True) ∧
 ((!decide (I64 (g.2 - x_1.low))) = false →
 ∃ (g' : Nat × Int),
 (g'.fst ≤ l.length ∧ I64 g'.snd ∧ subAll I (List.drop g'.fst l) g'.snd = subAll I l n) ∧
 l.length - g'.fst < l.length - g.fst ∧
 (True ∧
 (0 : Nat) = (0 : Nat) ∧
 (if I64 (g.2 - x_1.low) then g.2 - x_1.low else (0 : Int)) = g'.2 ∧
 True ∧ (↑l.length : Int) = (↑l.length : Int) ∧ IntKind.i64.wrap ((↑g.1 : Int) + (1 : Int)) = (↑g'.1 : Int) ∧ True) ∧
 (True ∧ True ∧ True) ∧ I.sup = I.sup ∧ I.arcs = I.arcs ∧ l = l ∧ True)))) ∧
 (decide ((↑g.1 : Int) < (↑l.length : Int)) = false →
 ((0 : Int) ≤ (0 : Int) ∧ (0 : Int) ≤ (↑l.length : Int) ∧ (↑l.length : Int) ≤ (1000000000 : Int)) ∧
 ∃ (g0 : Nat × Int × List Int),
 ((g0.fst ≤ l.length ∧ g0.2.snd.length = g0.fst ∧ I64 g0.2.fst ∧ l.all (isArcF I) = true ∧ spreadGo I (List.drop g0.fst l) g0.2.fst g0.2.snd = spreadF I l n) ∧
 (True ∧ (0 : Nat) = (0 : Nat) ∧ g.2 = g0.2.1 ∧ True ∧ True ∧ (↑l.length : Int) = (↑l.length : Int) ∧ (0 : Int) = (↑g0.1 : Int) ∧ True) ∧
 List.replicate (Int.toNat (0 : Int)) (0 : Int) = g0.2.2 ∧ (True ∧ True ∧ True) ∧ I.sup = I.sup ∧ I.arcs = I.arcs ∧ l = l ∧ True) ∧
 ∀ (g : Nat × Int × List Int),
 g.fst ≤ l.length ∧ g.2.snd.length = g.fst ∧ I64 g.2.fst ∧ l.all (isArcF I) = true ∧ spreadGo I (List.drop g.fst l) g.2.fst g.2.snd = spreadF I l n →
 (decide ((↑g.1 : Int) < (↑l.length : Int)) = true →
 ((0 : Int) ≤ (↑g.1 : Int) ∧ (↑g.1 : Int) < (↑l.length : Int)) ∧
 (↑g.1 : Int).toNat < l.length ∧
 ∀ (x : Int),
 l[(↑g.1 : Int).toNat]? = some x →
 (decide ((↑g.1 : Int) < IntKind.i64.wrap ((↑l.length : Int) - (1 : Int))) = true →
 ((0 : Int) ≤ x ∧ x < (↑I.arcs.length : Int)) ∧
 x.toNat < I.arcs.length ∧
 ∀ (x_1 : Arc),
 I.arcs[x.toNat]? = some x_1 →
 (I64 g.2.1 ∧
 (0 : Int) ≤ x_1.low ∧
 x_1.low ≤ (4398046511104 : Int) ∧ (x_1.cap = inf ∨ x_1.low ≤ x_1.cap ∧ x_1.cap ≤ (4398046511104 : Int))) ∧
 ((!true) = true → (Spread_a0 I l n) ∧ [] = (spreadF I l n).getD [] ∧ True) ∧
 ((!true) = false →
 ((0 : Int) ≤ x ∧ x < (↑I.arcs.length : Int)) ∧
 x.toNat < I.arcs.length ∧
 ∀ (x_2 : Arc),
 I.arcs[x.toNat]? = some x_2 →
 (I64 x_2.low ∧ I64 (giveT x_1 g.2.1 false)) ∧
 ((!decide (I64 (x_2.low + giveT x_1 g.2.1 false))) = true →
 (Spread_a0 I l n) ∧ [] = (spreadF I l n).getD [] ∧ True) ∧
 ((!decide (I64 (x_2.low + giveT x_1 g.2.1 false))) = false →
 g.2.2.length + (1 : Nat) ≤ (1000000000 : Nat) ∧
 (I64 g.2.1 ∧ I64 (giveT x_1 g.2.1 false)) ∧
 ((!decide (I64 (g.2.1 - giveT x_1 g.2.1 false))) = true →
 (Spread_a0 I l n) ∧ [] = (spreadF I l n).getD [] ∧ True) ∧
 ((!decide (I64 (g.2.1 - giveT x_1 g.2.1 false))) = false →
 ∃ (g' : Nat × Int × List Int),
 (g'.fst ≤ l.length ∧
 g'.2.snd.length = g'.fst ∧
 I64 g'.2.fst ∧
 l.all (isArcF I) = true ∧
 spreadGo I (List.drop g'.fst l) g'.2.fst g'.2.snd = spreadF I l n) ∧
 l.length - g'.fst < l.length - g.fst ∧
 (True ∧
 (0 : Nat) = (0 : Nat) ∧
 (if I64 (g.2.1 - giveT x_1 g.2.1 false) then g.2.1 - giveT x_1 g.2.1 false
 else (0 : Int)) =
 g'.2.1 ∧
 True ∧
 True ∧
 (↑l.length : Int) = (↑l.length : Int) ∧
 IntKind.i64.wrap ((↑g.1 : Int) + (1 : Int)) = (↑g'.1 : Int) ∧ True) ∧
 g.2.2 ++
 [if I64 (x_2.low + giveT x_1 g.2.1 false) then x_2.low + giveT x_1 g.2.1 false
 else (0 : Int)] =
 g'.2.2 ∧
 (True ∧ True ∧ True) ∧ I.sup = I.sup ∧ I.arcs = I.arcs ∧ l = l ∧ True)))) ∧
 (decide ((↑g.1 : Int) < IntKind.i64.wrap ((↑l.length : Int) - (1 : Int))) = false →
 ((0 : Int) ≤ x ∧ x < (↑I.arcs.length : Int)) ∧
 x.toNat < I.arcs.length ∧
 ∀ (x_1 : Arc),
 I.arcs[x.toNat]? = some x_1 →
 (I64 x_1.low ∧ I64 g.2.1) ∧
 ((!decide (I64 (x_1.low + g.2.1))) = true →
 (Spread_a0 I l n) ∧ [] = (spreadF I l n).getD [] ∧ True) ∧
 ((!decide (I64 (x_1.low + g.2.1))) = false →
 g.2.2.length + (1 : Nat) ≤ (1000000000 : Nat) ∧
 (I64 g.2.1 ∧ I64 g.2.1) ∧
 ((!decide (I64 (g.2.1 - g.2.1))) = true →
 (Spread_a0 I l n) ∧ [] = (spreadF I l n).getD [] ∧ True) ∧
 ((!decide (I64 (g.2.1 - g.2.1))) = false →
 ∃ (g' : Nat × Int × List Int),
 (g'.fst ≤ l.length ∧
 g'.2.snd.length = g'.fst ∧
 I64 g'.2.fst ∧
 l.all (isArcF I) = true ∧ spreadGo I (List.drop g'.fst l) g'.2.fst g'.2.snd = spreadF I l n) ∧
 l.length - g'.fst < l.length - g.fst ∧
 (True ∧
 (0 : Nat) = (0 : Nat) ∧
 (if I64 (g.2.1 - g.2.1) then g.2.1 - g.2.1 else (0 : Int)) = g'.2.1 ∧
 True ∧
 True ∧
 (↑l.length : Int) = (↑l.length : Int) ∧
 IntKind.i64.wrap ((↑g.1 : Int) + (1 : Int)) = (↑g'.1 : Int) ∧ True) ∧
 g.2.2 ++ [if I64 (x_1.low + g.2.1) then x_1.low + g.2.1 else (0 : Int)] = g'.2.2 ∧
 (True ∧ True ∧ True) ∧ I.sup = I.sup ∧ I.arcs = I.arcs ∧ l = l ∧ True)))) ∧
 (decide ((↑g.1 : Int) < (↑l.length : Int)) = false → ((True ∧ true = (spreadF I l n).isSome ∧ True) ∧ True) ∧ g.2.2 = (spreadF I l n).getD [] ∧ True)))
theorem Spread_q (I : Inst) (l : List Int) (n : Int) (ty0 ty1 ty2 : TypeId) : Spread_E0 I l n ty0 ty1 ty2 = FVcP TT Spread_g (Spread_I I l n) (Spread_an I l n) Try.f46 [.agg [.row 0, .row 1], .row 2, .int .i64 n] [(0, .row false ty0 (.ints .i64 I.sup)), (1, .row false ty1 (.arcs I.arcs)), (2, .row false ty2 (.ints .i64 l))] (Spread_r I l n) := by kernel_rfl
theorem Spread_E (I : Inst) (l : List Int) (n : Int) (ty0 ty1 ty2 : TypeId) (hp : rightF I = 0 ∧ I64 n ∧ l.length ≤ 1000000) : FVc TT Spread_g (Spread_I I l n) (Spread_an I l n) Try.f46 [.agg [.row 0, .row 1], .row 2, .int .i64 n] [(0, .row false ty0 (.ints .i64 I.sup)), (1, .row false ty1 (.arcs I.arcs)), (2, .row false ty2 (.ints .i64 l))] (Spread_r I l n) := by
  refine FVc.of (Spread_E0 I l n ty0 ty1 ty2) (Spread_q I l n ty0 ty1 ty2) ?_
  unfold Spread_E0
  delta Spread_a0
  obtain ⟨hr, hn, hl⟩ := hp
  simp only [eq_self, exists_const, forall_const, decide_eq_true_eq, decide_eq_false_iff_not, and_true, true_and, bne_iff_ne, ne_eq, bne_eq_false_iff_eq, Int.toNat_natCast, Bool.not_eq_true', Bool.not_eq_false', beq_iff_eq, beq_eq_false_iff_ne, nilEq_true]
  refine ⟨fun h => ?_, fun h => ⟨(0, n), ⟨⟨by dsimp only; omega, hn, rfl⟩, rfl, rfl⟩, fun g hg => ?_⟩⟩
  · have : l = [] := List.eq_nil_of_length_eq_zero (by omega)
    rw [this]; exact ⟨rfl, rfl⟩
  have hne : l ≠ [] := fun e => by rw [e] at h; simp at h
  obtain ⟨k, s⟩ := g
  dsimp only at hg ⊢
  obtain ⟨g1, g2, g3⟩ := hg
  have hw : ∀ j : Nat, j ≤ 1000000 → IntKind.i64.wrap ((j : Int) + 1) = ((j + 1 : Nat) : Int) := fun j hj => by rw [w64 (by omega) (by omega)]; omega
  have arcs : ∀ (x : Int) (a : Arc), I.arcs[x.toNat]? = some a → I64 a.low ∧ 0 ≤ a.low ∧ a.low ≤ 4398046511104 ∧ (a.cap = inf ∨ a.low ≤ a.cap ∧ a.cap ≤ 4398046511104) := fun x a ha => by
    have := rightF_arc hr (List.mem_of_getElem? ha)
    unfold I64 inf; omega
  refine ⟨fun h1 => ⟨by omega, by omega, fun x hx => ?_⟩, fun h1 => ?_⟩
  · have hst := subAll_step (I := I) (s := s) hx
    have bad : isArcF I x = false → spreadF I l n = none := fun hb => spread_none (by rw [← g3, hst, hb]; rfl)
    refine ⟨fun h2 => by rw [bad (by unfold isArcF; simp; omega)]; exact ⟨rfl, rfl⟩, fun h2 => ⟨fun h3 => by rw [bad (by unfold isArcF; simp; omega)]; exact ⟨rfl, rfl⟩, fun h3 => ⟨by omega, by omega, fun a ha => ?_⟩⟩⟩
    have hok : isArcF I x = true := by unfold isArcF; simp; omega
    obtain ⟨l0, l1, l2, l3⟩ := arcs x a ha
    rw [hok, arcAt_get ha] at hst
    refine ⟨⟨g2, l0⟩, fun h4 => ?_, fun h4 => ⟨(k + 1, s - a.low), ⟨by dsimp only; omega, h4, ?_⟩, by dsimp only; omega, by rw [if_pos h4], hw k (by omega)⟩⟩
    · rw [spread_none (by rw [← g3, hst, if_neg h4]; rfl)]; exact ⟨rfl, rfl⟩
    · dsimp only; rw [← g3, hst, if_pos h4]; rfl
  · have ek : k = l.length := by omega
    subst ek
    rw [List.drop_length] at g3
    have hall := subAll_all g3.symm
    have hF : spreadF I l n = spreadGo I l s [] := by unfold spreadF; rw [if_neg hne, ← g3]; rfl
    refine ⟨⟨by omega, by omega⟩, (0, s, []), ⟨⟨by dsimp only; omega, rfl, g2, hall, hF.symm⟩, ⟨rfl, rfl⟩, rfl⟩, fun q hq => ?_⟩
    obtain ⟨k, t, o⟩ := q
    dsimp only at hq ⊢
    obtain ⟨q1, q2, q3, q4, q5⟩ := hq
    have hl1 : IntKind.i64.wrap ((l.length : Int) - 1) = (l.length : Int) - 1 := w64 (by omega) (by omega)
    rw [hl1]
    refine ⟨fun h1 => ⟨by omega, by omega, fun x hx => ?_⟩, fun h1 => ?_⟩
    · have hst := spreadGo_step (I := I) (s := t) (o := o) hx
      have hok := List.all_eq_true.1 q4 x (List.mem_of_getElem? hx)
      obtain ⟨x0, x1⟩ := isArcF_iff.1 hok
      obtain ⟨a, ha⟩ : ∃ a, I.arcs[x.toNat]? = some a := ⟨_, List.getElem?_eq_getElem (by omega)⟩
      obtain ⟨l0, l1, l2, l3⟩ := arcs x a ha
      rw [arcAt_get ha] at hst
      simp only [ha, Option.some.injEq, forall_eq']
      have dn : ∀ y z : Prop, (false = true → y) ∧ z ↔ z := fun y z => by simp
      refine ⟨fun h2 => ?_, fun h2 => ?_⟩
      · obtain ⟨v1, v2⟩ := giveT_I64 q3 l1 l3
        rw [decide_eq_false (show ¬ l.length ≤ k + 1 by omega)] at hst
        refine ⟨by omega, by omega, ⟨q3, l1, l2, l3⟩, fun h => by simp at h, by omega, by omega, ⟨l0, v1⟩, fun h3 => ?_, fun h3 => ⟨by omega, ⟨q3, v1⟩, fun h4 => absurd v2 h4, fun h4 => ⟨(k + 1, t - giveT a t false, o ++ [a.low + giveT a t false]), ⟨by dsimp only; omega, by simp [q2], v2, q4, ?_⟩, by dsimp only; omega, ⟨by rw [if_pos v2], hw k (by omega)⟩, by rw [if_pos h3]⟩⟩⟩
        · rw [if_neg h3] at hst; rw [← q5, hst]; exact ⟨rfl, rfl⟩
        · dsimp only; rw [← q5, hst, if_pos h3]
      · have e0 : giveT a t true = t := rfl
        have z0 : I64 (t - t) := by rw [Int.sub_self]; unfold I64; omega
        rw [decide_eq_true (show l.length ≤ k + 1 by omega), e0] at hst
        refine ⟨by omega, by omega, ⟨l0, q3⟩, fun h3 => ?_, fun h3 => ⟨by omega, ⟨q3, q3⟩, fun h4 => absurd z0 h4, fun h4 => ⟨(k + 1, t - t, o ++ [a.low + t]), ⟨by dsimp only; omega, by simp [q2], z0, q4, ?_⟩, by dsimp only; omega, ⟨by rw [if_pos z0], hw k (by omega)⟩, by rw [if_pos h3]⟩⟩⟩
        · rw [if_neg h3] at hst; rw [← q5, hst]; exact ⟨rfl, rfl⟩
        · dsimp only; rw [← q5, hst, if_pos h3]
    · have : k = l.length := by omega
      subst this
      rw [List.drop_length] at q5
      rw [← q5]; exact ⟨rfl, rfl⟩
theorem Spread_ok : SpecOk Try.prog Spread_n true (specOf true Spread_fs) :=
  spec_ok' TT_ok (show GsOk Try.prog Spread_g from gsOk_cons Sub_ok (gsOk_cons share_ok (gsOk_cons Add_ok (gsOk_nil)))) (by kernel_rfl) mixedOrders Try.func46 rfl rfl (by kernel_rfl) (n := 3) (by decide +kernel) (I := Spread_IA) (fun _ _ => isOk_nil) (A := Spread_A)
    (fun args h r hr => by
      unfold Spread_fs at hr
      split at hr
      · rename_i n ty0 I_s ty1 I_a ty2 l; cases hr; refine ⟨rfl, fun hp => ?_⟩; have hE := Spread_E ⟨I_s, I_a⟩ l n ty0 ty1 ty2 hp; exact hE
      · cases hr)
abbrev rSpread_a0 (g' : Nat × Int × List Int) (l : List Int) (I : Inst) (n : Int) := (g'.fst ≤ l.length ∧
 g'.2.snd.length = g'.fst ∧
 I64 g'.2.fst ∧
 l.all (isArcF I) = true ∧
 spreadGo I (List.drop g'.fst l) g'.2.fst g'.2.snd = if l = [] then some [] else spreadF I l n)
abbrev rSpread_a1 (I : Inst) (l : List Int) (n : Int) := ((True ∧ false = (spreadF I l n).isSome ∧ True) ∧ True)
def rSpread_E0 (I : Inst) (l : List Int) (n : Int) (ty0 ty1 ty2 : TypeId) : Prop :=
      ∃ (g0 : Nat),
 ((g0 ≤ l.length ∧ (List.take g0 l).all (isArcF I) = true) ∧
 (True ∧ n = n ∧ (0 : Nat) = (0 : Nat) ∧ (0 : Int) = (↑g0 : Int) ∧ True) ∧ (True ∧ True ∧ True) ∧ I.sup = I.sup ∧ I.arcs = I.arcs ∧ l = l ∧ True) ∧
 ∀ (g : Nat),
 g ≤ l.length ∧ (List.take g l).all (isArcF I) = true →
 (decide ((↑g : Int) < (↑l.length : Int)) = true →
 ((0 : Int) ≤ (↑g : Int) ∧ (↑g : Int) < (↑l.length : Int)) ∧
 (↑g : Int).toNat < l.length ∧
 ∀ (x : Int),
 l[(↑g : Int).toNat]? = some x →
 (decide (x < (0 : Int)) = true → (rSpread_a1 I l n) ∧ [] = (spreadF I l n).getD [] ∧ True) ∧
 (decide (x < (0 : Int)) = false →
 ((0 : Int) ≤ (↑g : Int) ∧ (↑g : Int) < (↑l.length : Int)) ∧
 (↑g : Int).toNat < l.length ∧
 ∀ (x : Int),
 l[(↑g : Int).toNat]? = some x →
 (decide (x ≥ (↑I.arcs.length : Int)) = true → (rSpread_a1 I l n) ∧ [] = (spreadF I l n).getD [] ∧ True) ∧
 (decide (x ≥ (↑I.arcs.length : Int)) = false →
 ∃ (g' : Nat),
 (g' ≤ l.length ∧ (List.take g' l).all (isArcF I) = true) ∧
 l.length - g' < l.length - g ∧
 (True ∧ n = n ∧ (0 : Nat) = (0 : Nat) ∧ IntKind.i64.wrap ((↑g : Int) + (1 : Int)) = (↑g' : Int) ∧ True) ∧
 (True ∧ True ∧ True) ∧ I.sup = I.sup ∧ I.arcs = I.arcs ∧ l = l ∧ True))) ∧
 (decide ((↑g : Int) < (↑l.length : Int)) = false →
 ∃ (g0 : Nat × Int),
 ((g0.fst ≤ l.length ∧ l.all (isArcF I) = true ∧ I64 g0.snd ∧ subAll I (List.drop g0.fst l) g0.snd = subAll I l n) ∧
 (True ∧ (0 : Nat) = (0 : Nat) ∧ n = g0.2 ∧ (0 : Int) = (↑g0.1 : Int) ∧ True) ∧ (True ∧ True ∧ True) ∧ I.sup = I.sup ∧ I.arcs = I.arcs ∧ l = l ∧ True) ∧
 ∀ (g : Nat × Int),
 g.fst ≤ l.length ∧ l.all (isArcF I) = true ∧ I64 g.snd ∧ subAll I (List.drop g.fst l) g.snd = subAll I l n →
 (decide ((↑g.1 : Int) < (↑l.length : Int)) = true →
 ((0 : Int) ≤ (↑g.1 : Int) ∧ (↑g.1 : Int) < (↑l.length : Int)) ∧
 (↑g.1 : Int).toNat < l.length ∧
 ∀ (x : Int),
 l[(↑g.1 : Int).toNat]? = some x →
 ((0 : Int) ≤ x ∧ x < (↑I.arcs.length : Int)) ∧
 x.toNat < I.arcs.length ∧
 ∀ (x_1 : Arc),
 I.arcs[x.toNat]? = some x_1 →
 (I64 g.2 ∧ I64 x_1.low) ∧
 ((!decide (I64 (g.2 - x_1.low))) = true → (rSpread_a1 I l n) ∧ [] = (spreadF I l n).getD [] ∧ True) ∧
 ((!decide (I64 (g.2 - x_1.low))) = false →
 ∃ (g' : Nat × Int),
 (g'.fst ≤ l.length ∧ l.all (isArcF I) = true ∧ I64 g'.snd ∧ subAll I (List.drop g'.fst l) g'.snd = subAll I l n) ∧
 l.length - g'.fst < l.length - g.fst ∧
 (True ∧
 (0 : Nat) = (0 : Nat) ∧
 (if I64 (g.2 - x_1.low) then g.2 - x_1.low else (0 : Int)) = g'.2 ∧
 IntKind.i64.wrap ((↑g.1 : Int) + (1 : Int)) = (↑g'.1 : Int) ∧ True) ∧
 (True ∧ True ∧ True) ∧ I.sup = I.sup ∧ I.arcs = I.arcs ∧ l = l ∧ True)) ∧
 (decide ((↑g.1 : Int) < (↑l.length : Int)) = false →
 ∃ (g0 : Nat × Int × List Int),
 ((g0.fst ≤ l.length ∧
 g0.2.snd.length = g0.fst ∧
 I64 g0.2.fst ∧ l.all (isArcF I) = true ∧ spreadGo I (List.drop g0.fst l) g0.2.fst g0.2.snd = if l = [] then some [] else spreadF I l n) ∧
 (True ∧ (0 : Nat) = (0 : Nat) ∧ g.2 = g0.2.1 ∧ True ∧ (0 : Int) = (↑g0.1 : Int) ∧ True) ∧
 [] = g0.2.2 ∧ (True ∧ True ∧ True) ∧ I.sup = I.sup ∧ I.arcs = I.arcs ∧ l = l ∧ True) ∧
 ∀ (g : Nat × Int × List Int),
 (g.fst ≤ l.length ∧
 g.2.snd.length = g.fst ∧
 I64 g.2.fst ∧ l.all (isArcF I) = true ∧ spreadGo I (List.drop g.fst l) g.2.fst g.2.snd = if l = [] then some [] else spreadF I l n) →
 (decide ((↑g.1 : Int) < (↑l.length : Int)) = true →
 ((0 : Int) ≤ (↑g.1 : Int) ∧ (↑g.1 : Int) < (↑l.length : Int)) ∧
 (↑g.1 : Int).toNat < l.length ∧
 ∀ (x : Int),
 l[(↑g.1 : Int).toNat]? = some x →
 ((0 : Int) ≤ x ∧ x < (↑I.arcs.length : Int)) ∧
 x.toNat < I.arcs.length ∧
 ∀ (x_1 : Arc),
 I.arcs[x.toNat]? = some x_1 →
 (decide ((↑g.1 : Int) < IntKind.i64.wrap ((↑l.length : Int) - (1 : Int))) = true →
 ((x_1.cap != (4611686018427387904 : Int)) = true →
 (I64 x_1.low ∧ I64 (min (max g.2.1 (0 : Int)) (IntKind.i64.wrap (x_1.cap - x_1.low)))) ∧
 ((!decide (I64 (x_1.low + min (max g.2.1 (0 : Int)) (IntKind.i64.wrap (x_1.cap - x_1.low))))) = true →
 (rSpread_a1 I l n) ∧ [] = (spreadF I l n).getD [] ∧ True) ∧
 ((!decide (I64 (x_1.low + min (max g.2.1 (0 : Int)) (IntKind.i64.wrap (x_1.cap - x_1.low))))) = false →
 g.2.2.length + (1 : Nat) ≤ (1000000000 : Nat) ∧
 ∃ (g' : Nat × Int × List Int),
 (rSpread_a0 g' l I n) ∧
 l.length - g'.fst < l.length - g.fst ∧
 (True ∧
 (0 : Nat) = (0 : Nat) ∧
 IntKind.i64.wrap (g.2.1 - min (max g.2.1 (0 : Int)) (IntKind.i64.wrap (x_1.cap - x_1.low))) =
 g'.2.1 ∧
 True ∧ IntKind.i64.wrap ((↑g.1 : Int) + (1 : Int)) = (↑g'.1 : Int) ∧ True) ∧
 g.2.2 ++
 [if I64 (x_1.low + min (max g.2.1 (0 : Int)) (IntKind.i64.wrap (x_1.cap - x_1.low))) then
 x_1.low + min (max g.2.1 (0 : Int)) (IntKind.i64.wrap (x_1.cap - x_1.low))
 else (0 : Int)] =
 g'.2.2 ∧
 (True ∧ True ∧ True) ∧ I.sup = I.sup ∧ I.arcs = I.arcs ∧ l = l ∧ True)) ∧
 ((x_1.cap != (4611686018427387904 : Int)) = false →
 (I64 x_1.low ∧ I64 (max g.2.1 (0 : Int))) ∧
 ((!decide (I64 (x_1.low + max g.2.1 (0 : Int)))) = true →
 (rSpread_a1 I l n) ∧ [] = (spreadF I l n).getD [] ∧ True) ∧
 ((!decide (I64 (x_1.low + max g.2.1 (0 : Int)))) = false →
 g.2.2.length + (1 : Nat) ≤ (1000000000 : Nat) ∧
 ∃ (g' : Nat × Int × List Int),
 (rSpread_a0 g' l I n) ∧
 l.length - g'.fst < l.length - g.fst ∧
 (True ∧
 (0 : Nat) = (0 : Nat) ∧
 IntKind.i64.wrap (g.2.1 - max g.2.1 (0 : Int)) = g'.2.1 ∧
 True ∧ IntKind.i64.wrap ((↑g.1 : Int) + (1 : Int)) = (↑g'.1 : Int) ∧ True) ∧
 g.2.2 ++ [if I64 (x_1.low + max g.2.1 (0 : Int)) then x_1.low + max g.2.1 (0 : Int) else (0 : Int)] =
 g'.2.2 ∧
 (True ∧ True ∧ True) ∧ I.sup = I.sup ∧ I.arcs = I.arcs ∧ l = l ∧ True))) ∧
 (decide ((↑g.1 : Int) < IntKind.i64.wrap ((↑l.length : Int) - (1 : Int))) = false →
 (I64 x_1.low ∧ I64 g.2.1) ∧
 ((!decide (I64 (x_1.low + g.2.1))) = true →
 (rSpread_a1 I l n) ∧ [] = (spreadF I l n).getD [] ∧ True) ∧
 ((!decide (I64 (x_1.low + g.2.1))) = false →
 g.2.2.length + (1 : Nat) ≤ (1000000000 : Nat) ∧
 ∃ (g' : Nat × Int × List Int),
 (rSpread_a0 g' l I n) ∧
 l.length - g'.fst < l.length - g.fst ∧
 (True ∧
 (0 : Nat) = (0 : Nat) ∧
 IntKind.i64.wrap (g.2.1 - g.2.1) = g'.2.1 ∧
 True ∧ IntKind.i64.wrap ((↑g.1 : Int) + (1 : Int)) = (↑g'.1 : Int) ∧ True) ∧
 g.2.2 ++ [if I64 (x_1.low + g.2.1) then x_1.low + g.2.1 else (0 : Int)] = g'.2.2 ∧
 (True ∧ True ∧ True) ∧ I.sup = I.sup ∧ I.arcs = I.arcs ∧ l = l ∧ True))) ∧
 (decide ((↑g.1 : Int) < (↑l.length : Int)) = false →
 ((True ∧ decide ((↑l.length : Int) > (0 : Int)) = (spreadF I l n).isSome ∧ True) ∧ True) ∧ g.2.2 = (spreadF I l n).getD [] ∧ True)))
theorem rSpread_q (I : Inst) (l : List Int) (n : Int) (ty0 ty1 ty2 : TypeId) : rSpread_E0 I l n ty0 ty1 ty2 = FVcP TT rSpread_g (rSpread_I I l n) (rSpread_an I l n) Try.f81 [.agg [.row 0, .row 1], .row 2, .int .i64 n] [(0, .row false ty0 (.ints .i64 I.sup)), (1, .row false ty1 (.arcs I.arcs)), (2, .row false ty2 (.ints .i64 l))] (rSpread_r I l n) := by kernel_rfl
theorem rSpread_E (I : Inst) (l : List Int) (n : Int) (ty0 ty1 ty2 : TypeId) (hp : rightF I = 0 ∧ I64 n ∧ l.length ≤ 1000000) : FVc TT rSpread_g (rSpread_I I l n) (rSpread_an I l n) Try.f81 [.agg [.row 0, .row 1], .row 2, .int .i64 n] [(0, .row false ty0 (.ints .i64 I.sup)), (1, .row false ty1 (.arcs I.arcs)), (2, .row false ty2 (.ints .i64 l))] (rSpread_r I l n) := by
  refine FVc.of (rSpread_E0 I l n ty0 ty1 ty2) (rSpread_q I l n ty0 ty1 ty2) ?_
  unfold rSpread_E0
  delta rSpread_a1 rSpread_a0
  obtain ⟨hr, hn, hl⟩ := hp
  simp only [eq_self, exists_const, forall_const, decide_eq_true_eq, decide_eq_false_iff_not, and_true, true_and, bne_iff_ne, ne_eq, bne_eq_false_iff_eq, Int.toNat_natCast, Bool.not_eq_true', Bool.not_eq_false', beq_iff_eq, beq_eq_false_iff_ne, nilEq_true]
  have hw : ∀ j : Nat, j ≤ 1000000 → IntKind.i64.wrap ((j : Int) + 1) = ((j + 1 : Nat) : Int) := fun j hj => by rw [w64 (by omega) (by omega)]; omega
  have arcs : ∀ (x : Int) (a : Arc), I.arcs[x.toNat]? = some a → I64 a.low ∧ 0 ≤ a.low ∧ a.low ≤ 4398046511104 ∧ (a.cap = inf ∨ a.low ≤ a.cap ∧ a.cap ≤ 4398046511104) := fun x a ha => by
    have := rightF_arc hr (List.mem_of_getElem? ha)
    unfold I64 inf; omega
  refine ⟨0, ⟨⟨by omega, by simp⟩, rfl⟩, fun g hg => ⟨fun h1 => ⟨by omega, by omega, fun x hx => ?_⟩, fun h1 => ?_⟩⟩
  · have bad : isArcF I x = false → spreadF I l n = none := fun hb => by
      cases hs : subAll I l n with
      | none => exact spread_none hs
      | some s =>
        have := List.all_eq_true.1 (subAll_all hs) x (List.mem_of_getElem? hx)
        rw [hb] at this; cases this
    refine ⟨fun h2 => by rw [bad (by unfold isArcF; simp; omega)]; exact ⟨rfl, rfl⟩, fun h2 => ⟨by omega, by omega, fun y hy => ?_⟩⟩
    rw [hx] at hy
    cases hy
    refine ⟨fun h3 => by rw [bad (by unfold isArcF; simp; omega)]; exact ⟨rfl, rfl⟩, fun h3 => ⟨g + 1, ⟨by omega, ?_⟩, by omega, hw g (by omega)⟩⟩
    rw [take_get hx, List.all_append, hg.2]
    unfold isArcF; simp; omega
  have hall : l.all (isArcF I) = true := by
    have := hg.2
    rw [List.take_of_length_le (by omega)] at this
    exact this
  refine ⟨(0, n), ⟨⟨by dsimp only; omega, hall, hn, rfl⟩, rfl, rfl⟩, fun g hg => ?_⟩
  obtain ⟨k, s⟩ := g
  dsimp only at hg ⊢
  obtain ⟨g1, -, g2, g3⟩ := hg
  refine ⟨fun h1 => ⟨by omega, by omega, fun x hx => ?_⟩, fun h1 => ?_⟩
  · have hst := subAll_step (I := I) (s := s) hx
    have hok := List.all_eq_true.1 hall x (List.mem_of_getElem? hx)
    obtain ⟨x0, x1⟩ := isArcF_iff.1 hok
    obtain ⟨a, ha⟩ : ∃ a, I.arcs[x.toNat]? = some a := ⟨_, List.getElem?_eq_getElem (by omega)⟩
    obtain ⟨l0, l1, l2, l3⟩ := arcs x a ha
    rw [hok, arcAt_get ha] at hst
    simp only [ha, Option.some.injEq, forall_eq']
    refine ⟨by omega, by omega, ⟨g2, l0⟩, fun h4 => ?_, fun h4 => ⟨(k + 1, s - a.low), ⟨by dsimp only; omega, hall, h4, ?_⟩, by dsimp only; omega, by rw [if_pos h4], hw k (by omega)⟩⟩
    · rw [spread_none (by rw [← g3, hst, if_neg h4]; rfl)]; exact ⟨rfl, rfl⟩
    · dsimp only; rw [← g3, hst, if_pos h4]; rfl
  have ek : k = l.length := by omega
  subst ek
  rw [List.drop_length] at g3
  have hF : spreadGo I l s [] = if l = [] then some [] else spreadF I l n := by
    split
    · rename_i h; rw [h]; rfl
    · rename_i h; unfold spreadF; rw [if_neg h, ← g3]; rfl
  refine ⟨(0, s, []), ⟨⟨by dsimp only; omega, rfl, g2, hall, hF⟩, ⟨rfl, rfl⟩, rfl⟩, fun q hq => ?_⟩
  obtain ⟨k, t, o⟩ := q
  dsimp only at hq ⊢
  obtain ⟨q1, q2, q3, -, q5⟩ := hq
  refine ⟨fun h1 => ⟨by omega, by omega, fun x hx => ?_⟩, fun h1 => ?_⟩
  · have hne : l ≠ [] := fun e => by rw [e] at hx; simp at hx
    rw [if_neg hne] at q5 ⊢
    have hl1 : IntKind.i64.wrap ((l.length : Int) - 1) = (l.length : Int) - 1 := w64 (by omega) (by omega)
    rw [hl1]
    have hst := spreadGo_step (I := I) (s := t) (o := o) hx
    have hok := List.all_eq_true.1 hall x (List.mem_of_getElem? hx)
    obtain ⟨x0, x1⟩ := isArcF_iff.1 hok
    obtain ⟨a, ha⟩ : ∃ a, I.arcs[x.toNat]? = some a := ⟨_, List.getElem?_eq_getElem (by omega)⟩
    obtain ⟨l0, l1, l2, l3⟩ := arcs x a ha
    rw [arcAt_get ha] at hst
    simp only [ha, Option.some.injEq, forall_eq']
    have fin : ∀ v : Int, v = giveT a t (decide (l.length ≤ k + 1)) → I64 v → I64 (t - v) → (I64 a.low ∧ I64 v) ∧ (¬ I64 (a.low + v) → false = (spreadF I l n).isSome ∧ [] = (spreadF I l n).getD []) ∧ (I64 (a.low + v) → o.length + 1 ≤ 1000000000 ∧ ∃ g' : Nat × Int × List Int, (g'.fst ≤ l.length ∧ g'.2.snd.length = g'.fst ∧ I64 g'.2.fst ∧ l.all (isArcF I) = true ∧ spreadGo I (List.drop g'.fst l) g'.2.fst g'.2.snd = spreadF I l n) ∧ l.length - g'.fst < l.length - k ∧ (IntKind.i64.wrap (t - v) = g'.2.1 ∧ IntKind.i64.wrap ((k : Int) + 1) = (g'.1 : Int)) ∧ o ++ [if I64 (a.low + v) then a.low + v else 0] = g'.2.2) := fun v hv h2 h3 => by
      rw [← hv] at hst
      refine ⟨⟨l0, h2⟩, fun h4 => ?_, fun h4 => ⟨by omega, (k + 1, t - v, o ++ [a.low + v]), ⟨by dsimp only; omega, by simp [q2], h3, hall, ?_⟩, by dsimp only; omega, ⟨w64 h3.1 h3.2, hw k (by omega)⟩, by rw [if_pos h4]⟩⟩
      · rw [if_neg h4] at hst; rw [← q5, hst]; exact ⟨rfl, rfl⟩
      · dsimp only; rw [← q5, hst, if_pos h4]
    obtain ⟨v1, v2⟩ := giveT_I64 q3 l1 l3
    refine ⟨by omega, by omega, fun h2 => ⟨fun h3 => ?_, fun h3 => ?_⟩, fun h2 => ?_⟩
    · have e : min (max t 0) (IntKind.i64.wrap (a.cap - a.low)) = giveT a t false := by
        have h4 := l3.resolve_left h3
        rw [w64 (by omega) (by omega)]
        unfold giveT
        simp only [Bool.false_eq_true, if_false, show ¬ a.cap = inf from h3]
        split <;> omega
      rw [e]
      exact fin _ (by rw [decide_eq_false (show ¬ l.length ≤ k + 1 by omega)]) v1 v2
    · have e : max t 0 = giveT a t false := by
        unfold giveT
        simp only [Bool.false_eq_true, if_false, show a.cap = inf from h3, if_true]
        split <;> omega
      rw [e]
      exact fin _ (by rw [decide_eq_false (show ¬ l.length ≤ k + 1 by omega)]) v1 v2
    · exact fin t (by rw [decide_eq_true (show l.length ≤ k + 1 by omega)]; rfl) q3 (by rw [Int.sub_self]; unfold I64; omega)
  · have : k = l.length := by omega
    subst this
    rw [List.drop_length] at q5
    by_cases hne : l = []
    · subst hne
      have ho : o = [] := List.eq_nil_of_length_eq_zero q2
      subst ho
      exact ⟨rfl, rfl⟩
    · rw [if_neg hne] at q5
      rw [← q5]
      have : 0 < l.length := List.length_pos_iff.2 hne
      exact ⟨decide_eq_true (by omega), rfl⟩
theorem rSpread_ok : SpecOk Try.prog rSpread_n true (specOf true rSpread_fs) :=
  spec_ok' TT_ok (show GsOk Try.prog rSpread_g from gsOk_cons rSub_ok (gsOk_cons rAdd_ok (gsOk_nil))) (by kernel_rfl) mixedOrders Try.func81 rfl rfl (by kernel_rfl) (n := 3) (by decide +kernel) (I := rSpread_IA) (fun _ _ => isOk_nil) (A := rSpread_A)
    (fun args h r hr => by
      unfold rSpread_fs at hr
      split at hr
      · rename_i n ty0 I_s ty1 I_a ty2 l; cases hr; refine ⟨rfl, fun hp => ?_⟩; have hE := rSpread_E ⟨I_s, I_a⟩ l n ty0 ty1 ty2 hp; exact hE
      · cases hr)
def rlike_E0 (a : Arc) (b : Arc) : Prop :=
      ((a.src == b.src) = true → ((a.dst == b.dst) = true → ((a.cost == b.cost) = likeA a b ∧ True) ∧ True) ∧ ((a.dst == b.dst) = false → (false = likeA a b ∧ True) ∧ True)) ∧
 ((a.src == b.src) = false → (false = likeA a b ∧ True) ∧ True)
theorem rlike_q (a : Arc) (b : Arc) : rlike_E0 a b = FVcP TT rlike_g (rlike_I a b) (rlike_an a b) Try.f124 [.agg (encArc a), .agg (encArc b)] [] (rlike_r a b) := by kernel_rfl
theorem rlike_E (a : Arc) (b : Arc) (hp : True) : FVc TT rlike_g (rlike_I a b) (rlike_an a b) Try.f124 [.agg (encArc a), .agg (encArc b)] [] (rlike_r a b) := by
  refine FVc.of (rlike_E0 a b) (rlike_q a b) ?_
  unfold rlike_E0
  simp only [eq_self, exists_const, forall_const, decide_eq_true_eq, decide_eq_false_iff_not, and_true, true_and, bne_iff_ne, ne_eq, bne_eq_false_iff_eq, Int.toNat_natCast, Bool.not_eq_true', Bool.not_eq_false', beq_iff_eq, beq_eq_false_iff_ne, nilEq_true]
  unfold likeA
  refine ⟨fun h1 => ⟨fun h2 => ?_, fun h2 => ?_⟩, fun h1 => ?_⟩
  · by_cases h3 : a.cost = b.cost <;> simp [h1, h2, h3]
  · simp [h2]
  · simp [h1]
theorem rlike_ok : SpecOk Try.prog rlike_n true (specOf true rlike_fs) :=
  spec_ok' TT_ok (show GsOk Try.prog rlike_g from gsOk_nil) (by kernel_rfl) mixedOrders Try.func124 rfl rfl (by kernel_rfl) (n := 2) (by decide +kernel) (I := rlike_IA) (fun _ _ => isOk_nil) (A := rlike_A)
    (fun args h r hr => by
      unfold rlike_fs at hr
      split at hr
      · rename_i a_0 a_1 a_2 a_3 a_4 b_0 b_1 b_2 b_3 b_4; cases hr; refine ⟨rfl, fun hp => ?_⟩; have hE := rlike_E ⟨a_0, a_1, a_2, a_3, a_4⟩ ⟨b_0, b_1, b_2, b_3, b_4⟩ hp; exact hE
      · cases hr)
theorem set_wrap {b x v : Int} {s : List Int} {k : Nat} (hs : Within b s) (hb : 0 ≤ b) (hb2 : b ≤ 1000) (h0 : -2 ≤ x) (h1 : x ≤ 2) (hv : s[k]? = some v) : s.set k (IntKind.i64.wrap (v + x)) = addAt s k x ∧ Within (b + 2) (addAt s k x) := by
  have := hs v (List.mem_of_getElem? hv)
  refine ⟨?_, hs.addAt hb k (x := x) (y := 2) h0 h1⟩
  rw [w64 (by omega) (by omega)]
  unfold addAt; rw [List.getD_eq_getElem?_getD, hv]; rfl
abbrev Alike_a0 (c : List Int) (d : List Int) (g : Nat) (x : Arc) (x_3 : Int) := ((alikeTo (instF c d) d g).sup.set x.src.toNat (IntKind.i64.wrap (x_3 - x.low)))
abbrev Alike_a1 (c : List Int) (d : List Int) (g : Nat) (x_2 : Arc) (x_7 : Arc) := ((alikeTo (instF c d) d g).arcs.set (↑g : Int).toNat
 { src := x_2.src, dst := x_7.dst, low := x_7.low, cap := x_7.cap, cost := x_7.cost : Arc })
abbrev Alike_a2 (c : List Int) (d : List Int) (g : Nat) (x_2 : Arc) (x_7 : Arc) (x_8 : Arc) := ((Alike_a1 c d g x_2 x_7).set
 (↑g : Int).toNat
 { src := x_8.src, dst := x_2.dst, low := x_8.low, cap := x_8.cap, cost := x_8.cost : Arc })
abbrev Alike_a3 (c : List Int) (d : List Int) (g : Nat) (x : Arc) (x_3 : Int) (x_4 : Int) := ((Alike_a0 c d g x x_3).set
 x.dst.toNat (IntKind.i64.wrap (x_4 + x.low)))
def Alike_E0 (c : List Int) (d : List Int) (ty0 ty1 : TypeId) : Prop :=
      (Bytes c ∧ Bytes d ∧ c.length ≤ maxLen ∧ d.length ≤ maxLen) ∧
 ∃ (g0 : Nat),
 (g0 ≤ (instF c d).arcs.length ∧
 (True ∧ (0 : Nat) = (0 : Nat) ∧ (0 : Nat) = (0 : Nat) ∧ (0 : Int) = (↑g0 : Int) ∧ True) ∧
 (True ∧ True ∧ True) ∧
 (instF c d).sup = (alikeTo (instF c d) d g0).sup ∧ (instF c d).arcs = (alikeTo (instF c d) d g0).arcs ∧ (True ∧ True ∧ True) ∧ nilEq Int ∧ nilEq Arc ∧ d = d ∧ True) ∧
 ∀ (g : Nat),
 g ≤ (instF c d).arcs.length →
 (decide ((↑g : Int) < (↑(alikeTo (instF c d) d g).arcs.length : Int)) = true →
 ((0 : Int) ≤ (↑g : Int) ∧ (↑g : Int) < (↑(alikeTo (instF c d) d g).arcs.length : Int)) ∧
 (↑g : Int).toNat < (alikeTo (instF c d) d g).arcs.length ∧
 ∀ (x : Arc),
 (alikeTo (instF c d) d g).arcs[(↑g : Int).toNat]? = some x →
 (decide ((↑g : Int) < (↑d.length : Int)) = true →
 ((0 : Int) ≤ (↑g : Int) ∧ (↑g : Int) < (↑d.length : Int)) ∧
 (↑g : Int).toNat < d.length ∧
 ∀ (x_1 : Int),
 d[(↑g : Int).toNat]? = some x_1 →
 (3 : Int) ≠ (0 : Int) ∧
 (decide (x_1.tmod (3 : Int) > (0 : Int)) = true →
 (2 : Int) ≠ (0 : Int) ∧
 ((0 : Int) ≤ IntKind.i64.wrap ((↑g : Int).tdiv (2 : Int)) ∧
 IntKind.i64.wrap ((↑g : Int).tdiv (2 : Int)) < (↑(alikeTo (instF c d) d g).arcs.length : Int)) ∧
 (IntKind.i64.wrap ((↑g : Int).tdiv (2 : Int))).toNat < (alikeTo (instF c d) d g).arcs.length ∧
 ∀ (x_2 : Arc),
 (alikeTo (instF c d) d g).arcs[(IntKind.i64.wrap ((↑g : Int).tdiv (2 : Int))).toNat]? = some x_2 →
 ((0 : Int) ≤ x.src ∧ x.src < (↑(alikeTo (instF c d) d g).sup.length : Int)) ∧
 x.src.toNat < (alikeTo (instF c d) d g).sup.length ∧
 ∀ (x_3 : Int),
 (alikeTo (instF c d) d g).sup[x.src.toNat]? = some x_3 →
 ((0 : Int) ≤ x.src ∧ x.src < (↑(alikeTo (instF c d) d g).sup.length : Int)) ∧
 x.src.toNat < (alikeTo (instF c d) d g).sup.length ∧
 ((0 : Int) ≤ x.dst ∧
 x.dst < (↑(Alike_a0 c d g x x_3).length : Int)) ∧
 x.dst.toNat < (Alike_a0 c d g x x_3).length ∧
 ∀ (x_4 : Int),
 (Alike_a0 c d g x x_3)[x.dst.toNat]? = some x_4 →
 ((0 : Int) ≤ x.dst ∧
 x.dst <
 (↑(Alike_a0 c d g x x_3).length : Int)) ∧
 x.dst.toNat < (Alike_a0 c d g x x_3).length ∧
 ((0 : Int) ≤ x_2.src ∧
 x_2.src <
 (↑((Alike_a0 c d g x x_3).set x.dst.toNat
 (IntKind.i64.wrap (x_4 + x.low))).length :
 Int)) ∧
 x_2.src.toNat <
 ((Alike_a0 c d g x x_3).set x.dst.toNat
 (IntKind.i64.wrap (x_4 + x.low))).length ∧
 ∀ (x_5 : Int),
 ((Alike_a0 c d g x x_3).set x.dst.toNat
 (IntKind.i64.wrap (x_4 + x.low)))[x_2.src.toNat]? =
 some x_5 →
 ((0 : Int) ≤ x_2.src ∧
 x_2.src <
 (↑(Alike_a3 c d g x x_3 x_4).length :
 Int)) ∧
 x_2.src.toNat <
 (Alike_a3 c d g x x_3 x_4).length ∧
 ((0 : Int) ≤ x_2.dst ∧
 x_2.dst <
 (↑((Alike_a3 c d g x x_3 x_4).set
 x_2.src.toNat (IntKind.i64.wrap (x_5 + x.low))).length :
 Int)) ∧
 x_2.dst.toNat <
 ((Alike_a3 c d g x x_3 x_4).set
 x_2.src.toNat (IntKind.i64.wrap (x_5 + x.low))).length ∧
 ∀ (x_6 : Int),
 ((Alike_a3 c d g x x_3 x_4).set
 x_2.src.toNat (IntKind.i64.wrap (x_5 + x.low)))[x_2.dst.toNat]? =
 some x_6 →
 ((0 : Int) ≤ x_2.dst ∧
 x_2.dst <
 (↑((((alikeTo (instF c d) d g).sup.set x.src.toNat
 (IntKind.i64.wrap (x_3 - x.low))).set
 x.dst.toNat (IntKind.i64.wrap (x_4 + x.low))).set
 x_2.src.toNat (IntKind.i64.wrap (x_5 + x.low))).length :
 Int)) ∧
 x_2.dst.toNat <
 ((((alikeTo (instF c d) d g).sup.set x.src.toNat
 (IntKind.i64.wrap (x_3 - x.low))).set
 x.dst.toNat (IntKind.i64.wrap (x_4 + x.low))).set
 x_2.src.toNat (IntKind.i64.wrap (x_5 + x.low))).length ∧
 ((0 : Int) ≤ (↑g : Int) ∧
 (↑g : Int) < (↑(alikeTo (instF c d) d g).arcs.length : Int)) ∧
 (↑g : Int).toNat < (alikeTo (instF c d) d g).arcs.length ∧
 ∀ (x_7 : Arc),
 (alikeTo (instF c d) d g).arcs[(↑g : Int).toNat]? = some x_7 →
 ((0 : Int) ≤ (↑g : Int) ∧
 (↑g : Int) <
 (↑(Alike_a1 c d g x_2 x_7).length :
 Int)) ∧
 (↑g : Int).toNat <
 (Alike_a1 c d g x_2 x_7).length ∧
 ∀ (x_8 : Arc),
 (Alike_a1 c d g x_2 x_7)[(↑g : Int).toNat]? =
 some x_8 →
 ((0 : Int) ≤ (↑g : Int) ∧
 (↑g : Int) <
 (↑(Alike_a2 c d g x_2 x_7 x_8).length :
 Int)) ∧
 (↑g : Int).toNat <
 (Alike_a2 c d g x_2 x_7 x_8).length ∧
 ∀ (x_9 : Arc),
 (Alike_a2 c d g x_2 x_7 x_8)[(↑g : Int).toNat]? =
 some x_9 →
 ∃ (g' : Nat),
 g' ≤ (instF c d).arcs.length ∧
 (instF c d).arcs.length - g' <
 (instF c d).arcs.length - g ∧
 (True ∧
 (0 : Nat) = (0 : Nat) ∧
 (0 : Nat) = (0 : Nat) ∧
 IntKind.i64.wrap ((↑g : Int) + (1 : Int)) =
 (↑g' : Int) ∧
 True) ∧
 (True ∧ True ∧ True) ∧
 ((((alikeTo (instF c d) d g).sup.set x.src.toNat
 (IntKind.i64.wrap
 (x_3 - x.low))).set
 x.dst.toNat
 (IntKind.i64.wrap
 (x_4 + x.low))).set
 x_2.src.toNat
 (IntKind.i64.wrap (x_5 + x.low))).set
 x_2.dst.toNat
 (IntKind.i64.wrap (x_6 - x.low)) =
 (alikeTo (instF c d) d g').sup ∧
 (((alikeTo (instF c d) d g).arcs.set
 (↑g : Int).toNat
 { src := x_2.src, dst := x_7.dst, low := x_7.low, cap := x_7.cap, cost := x_7.cost : Arc }).set
 (↑g : Int).toNat
 { src := x_8.src, dst := x_2.dst, low := x_8.low, cap := x_8.cap, cost := x_8.cost : Arc }).set
 (↑g : Int).toNat
 { src := x_9.src, dst := x_9.dst, low := x_9.low, cap := x_9.cap, cost := x_2.cost : Arc } =
 (alikeTo (instF c d) d g').arcs ∧
 (True ∧ True ∧ True) ∧
 nilEq Int ∧ nilEq Arc ∧ d = d ∧ True) ∧
 (decide (x_1.tmod (3 : Int) > (0 : Int)) = false →
 ∃ (g' : Nat),
 g' ≤ (instF c d).arcs.length ∧
 (instF c d).arcs.length - g' < (instF c d).arcs.length - g ∧
 (True ∧ (0 : Nat) = (0 : Nat) ∧ (0 : Nat) = (0 : Nat) ∧ IntKind.i64.wrap ((↑g : Int) + (1 : Int)) = (↑g' : Int) ∧ True) ∧
 (True ∧ True ∧ True) ∧
 (alikeTo (instF c d) d g).sup = (alikeTo (instF c d) d g').sup ∧
 (alikeTo (instF c d) d g).arcs = (alikeTo (instF c d) d g').arcs ∧
 (True ∧ True ∧ True) ∧ nilEq Int ∧ nilEq Arc ∧ d = d ∧ True)) ∧
 (decide ((↑g : Int) < (↑d.length : Int)) = false →
 ∃ (g' : Nat),
 g' ≤ (instF c d).arcs.length ∧
 (instF c d).arcs.length - g' < (instF c d).arcs.length - g ∧
 (True ∧ (0 : Nat) = (0 : Nat) ∧ (0 : Nat) = (0 : Nat) ∧ IntKind.i64.wrap ((↑g : Int) + (1 : Int)) = (↑g' : Int) ∧ True) ∧
 (True ∧ True ∧ True) ∧
 (alikeTo (instF c d) d g).sup = (alikeTo (instF c d) d g').sup ∧
 (alikeTo (instF c d) d g).arcs = (alikeTo (instF c d) d g').arcs ∧ (True ∧ True ∧ True) ∧ nilEq Int ∧ nilEq Arc ∧ d = d ∧ True)) ∧
 (decide ((↑g : Int) < (↑(alikeTo (instF c d) d g).arcs.length : Int)) = false →
 ((True ∧ True ∧ True) ∧ True) ∧ (alikeTo (instF c d) d g).sup = (alikeF c d).sup ∧ (alikeTo (instF c d) d g).arcs = (alikeF c d).arcs ∧ True)
theorem Alike_q (c : List Int) (d : List Int) (ty0 ty1 : TypeId) : Alike_E0 c d ty0 ty1 = FVcP TT Alike_g (Alike_I c d) (Alike_an c d) Try.f42 [.row 0, .row 1] [(0, .row false ty0 (.ints .u8 c)), (1, .row false ty1 (.ints .u8 d))] (Alike_r c d) := by kernel_rfl
theorem Alike_E (c : List Int) (d : List Int) (ty0 ty1 : TypeId) (hp : Bytes c ∧ Bytes d ∧ c.length ≤ maxLen ∧ d.length ≤ maxLen) : FVc TT Alike_g (Alike_I c d) (Alike_an c d) Try.f42 [.row 0, .row 1] [(0, .row false ty0 (.ints .u8 c)), (1, .row false ty1 (.ints .u8 d))] (Alike_r c d) := by
  refine FVc.of (Alike_E0 c d ty0 ty1) (Alike_q c d ty0 ty1) ?_
  unfold Alike_E0
  delta Alike_a3 Alike_a2 Alike_a1 Alike_a0
  simp only [eq_self, exists_const, forall_const, decide_eq_true_eq, decide_eq_false_iff_not, and_true, true_and, bne_iff_ne, ne_eq, bne_eq_false_iff_eq, Int.toNat_natCast, Bool.not_eq_true', Bool.not_eq_false', beq_iff_eq, beq_eq_false_iff_ne, nilEq_true]
  obtain ⟨b1, b2, b3, b4⟩ := hp
  have hs := instF_sup c d
  have hn := instF_nice c d
  have hwi := instF_within c d
  have har := instF_arcs c d
  have hnq := nOf_le d
  have hn2 : ∀ a ∈ (instF c d).arcs, a.Nice (instF c d).sup.length := by rw [hs]; exact hn
  have hw : ∀ j : Nat, j ≤ 1000000 → IntKind.i64.wrap ((j : Int) + 1) = ((j + 1 : Nat) : Int) := fun j hj => by rw [w64 (by omega) (by omega)]; omega
  refine ⟨⟨b1, b2, b3, b4⟩, 0, ⟨by omega, rfl, rfl, rfl⟩, fun g hg => ?_⟩
  have hl := alikeTo_len (instF c d) d g
  have hat := alikeTo_at (instF c d) d g g (Nat.le_refl _)
  have hnk := alikeTo_nice (d := d) hn2 g hg
  obtain ⟨-, hsw⟩ := alikeTo_sup (d := d) hn2 hwi (by omega) g hg
  have hdef : alikeTo (instF c d) d (g + 1) = if g < d.length ∧ 0 < d.getD g 0 % 3 then ⟨alikeSup ((instF c d).arcs.getD g default) ((alikeTo (instF c d) d g).arcs.getD (g / 2) default) (alikeTo (instF c d) d g).sup, (alikeTo (instF c d) d g).arcs.set g (alikeArc ((instF c d).arcs.getD g default) ((alikeTo (instF c d) d g).arcs.getD (g / 2) default))⟩ else alikeTo (instF c d) d g := rfl
  have hend : alikeF c d = alikeTo (instF c d) d (instF c d).arcs.length := rfl
  rw [hend]
  generalize hJ : alikeTo (instF c d) d g = J at *
  refine ⟨fun h1 => ⟨by omega, by omega, fun a ha => ?_⟩, fun h1 => ?_⟩
  · have hgl : g < (instF c d).arcs.length := by omega
    rw [hat] at ha
    have hda : (instF c d).arcs.getD g default = a := by rw [List.getD_eq_getElem?_getD, ha]; rfl
    have hJa : J.arcs[g]? = some a := by rw [hat]; exact ha
    have an := hn2 a (List.mem_of_getElem? ha)
    have a1 := an.s0; have a2 := an.s1; have a3 := an.d0; have a4 := an.d1; have a5 := an.l0; have a6 := an.l1
    have ht : (g : Int).tdiv 2 = ((g / 2 : Nat) : Int) := by rw [Int.tdiv_eq_ediv_of_nonneg (by omega)]; omega
    have hwt : IntKind.i64.wrap ((g : Int).tdiv 2) = ((g / 2 : Nat) : Int) := by rw [ht, w64 (by omega) (by omega)]
    rw [hwt]
    obtain ⟨b, hb⟩ : ∃ b, J.arcs[g / 2]? = some b := ⟨_, List.getElem?_eq_getElem (by omega)⟩
    have hdb : J.arcs.getD (g / 2) default = b := by rw [List.getD_eq_getElem?_getD, hb]; rfl
    have bn := hnk b (List.mem_of_getElem? hb)
    have e1 := bn.s0; have e2 := bn.s1; have e3 := bn.d0; have e4 := bn.d1
    rw [hda, hdb] at hdef
    refine ⟨fun h2 => ⟨by omega, by omega, fun y hy => ⟨by omega, ?_⟩⟩, fun h2 => ⟨g + 1, by omega, by omega, hw g (by omega), ?_⟩⟩
    · have hyb := b2 y (List.mem_of_getElem? hy)
      have hy2 : d.getD g 0 = y := by rw [List.getD_eq_getElem?_getD, hy]; rfl
      rw [show y.tmod 3 = y % 3 from Int.tmod_eq_emod_of_nonneg hyb.1]
      refine ⟨fun h3 => ?_, fun h3 => ⟨g + 1, by omega, by omega, hw g (by omega), ?_⟩⟩
      · rw [if_pos ⟨by omega, by rw [hy2]; omega⟩] at hdef
        simp only [Int.toNat_natCast, List.length_set]
        refine ⟨by omega, by omega, by omega, fun b' hb' => ?_⟩
        rw [hb] at hb'
        cases hb'
        refine ⟨by omega, by omega, fun p hp => ⟨by omega, by omega, by omega, by omega, fun q hq => ⟨by omega, by omega, by omega, by omega, fun r hr => ⟨by omega, by omega, by omega, by omega, fun s hs2 => ?_⟩⟩⟩⟩
        rw [show p - a.low = p + -a.low by omega] at hq hr hs2 ⊢
        rw [show s - a.low = s + -a.low by omega]
        obtain ⟨z1, w1⟩ := set_wrap (x := -a.low) hsw (by omega) (by omega) (by omega) (by omega) hp
        rw [z1] at hq hr hs2 ⊢
        obtain ⟨z2, w2⟩ := set_wrap (x := a.low) w1 (by omega) (by omega) (by omega) (by omega) hq
        rw [z2] at hr hs2 ⊢
        obtain ⟨z3, w3⟩ := set_wrap (x := a.low) w2 (by omega) (by omega) (by omega) (by omega) hr
        rw [z3] at hs2 ⊢
        obtain ⟨z4, w4⟩ := set_wrap (x := -a.low) w3 (by omega) (by omega) (by omega) (by omega) hs2
        rw [z4]
        have gs : ∀ (l : List Arc) (v : Arc), g < l.length → (l.set g v)[g]? = some v := fun l v h => by rw [List.getElem?_set_self h]
        have gl : g < J.arcs.length := by omega
        simp only [hJa, gs, gl, List.length_set, Option.some.injEq, forall_eq', List.set_set]
        refine ⟨by omega, by omega, by omega, trivial, by omega, trivial, by omega, trivial, g + 1, by omega, by omega, hw g (by omega), ?_, ?_⟩
        · rw [hdef]; rfl
        · rw [hdef]; rfl
      · rw [hdef, if_neg (by rw [hy2]; omega)]; exact ⟨rfl, rfl⟩
    · rw [hdef, if_neg (by omega)]; exact ⟨rfl, rfl⟩
  · have eg : g = (instF c d).arcs.length := by omega
    rw [eg] at hJ
    rw [← hJ]; exact ⟨rfl, rfl⟩
theorem Alike_ok : SpecOk Try.prog Alike_n true (specOf true Alike_fs) :=
  spec_ok' TT_ok (show GsOk Try.prog Alike_g from gsOk_cons Inst_ok (gsOk_nil)) (by kernel_rfl) mixedOrders Try.func42 rfl rfl (by kernel_rfl) (n := 2) (by decide +kernel) (I := Alike_IA) (fun _ _ => isOk_nil) (A := Alike_A)
    (fun args h r hr => by
      unfold Alike_fs at hr
      split at hr
      · rename_i ty0 c ty1 d; cases hr; refine ⟨rfl, fun hp => ?_⟩; have hE := Alike_E c d ty0 ty1 hp; exact hE
      · cases hr)
abbrev Groups_a0 (I : Inst) (g : Nat × List Value) := (↑(DK.ints IntKind.i64 (groupsTo I.arcs g.1)).len : Int)
abbrev Groups_a1 (I : Inst) (g : Nat × List Value) (x : Arc) := (mget (keysM I.arcs g.1) [x.src, x.dst, x.cost])
abbrev Groups_a2 (I : Inst) (g : Nat × List Value) := (groupsTo I.arcs g.1 ++ List.replicate (1 : Nat) [])
def Groups_E0 (I : Inst) (ty0 ty1 : TypeId) : Prop :=
      ∃ (g0 : Nat × List Value),
 (g0.fst ≤ I.arcs.length ∧
 (True ∧ True ∧ True ∧ (↑I.arcs.length : Int) = (↑I.arcs.length : Int) ∧ (0 : Int) = (↑g0.1 : Int) ∧ True) ∧
 [] = keysM I.arcs g0.1 ∧ ([] = groupsTo I.arcs g0.1 ∧ [] = g0.2 ∧ (none : Option Nat) = none) ∧ I.arcs = I.arcs ∧ True) ∧
 ∀ (g : Nat × List Value),
 g.fst ≤ I.arcs.length →
 (decide ((↑g.1 : Int) < (↑I.arcs.length : Int)) = true →
 ((0 : Int) ≤ (↑g.1 : Int) ∧ (↑g.1 : Int) < (↑I.arcs.length : Int)) ∧
 (↑g.1 : Int).toNat < I.arcs.length ∧
 ∀ (x : Arc),
 I.arcs[(↑g.1 : Int).toNat]? = some x →
 ((!(Groups_a1 I g x).isSome) = true →
 (DK.ints IntKind.i64 (groupsTo I.arcs g.1)).len + (DK.many (1 : Nat) (DK.ints IntKind.i64 [])).len ≤ (1000000000 : Nat) ∧
 ((0 : Int) ≤ (Groups_a0 I g) ∧
 (Groups_a0 I g) < (↑(DK.ints IntKind.i64 (Groups_a2 I g)).len : Int)) ∧
 (Groups_a0 I g).toNat < (Groups_a2 I g).length ∧
 ∀ (x_1 : List Int),
 (Groups_a2 I g)[(Groups_a0 I g).toNat]? = some x_1 →
 x_1.length + (1 : Nat) ≤ (1000000000 : Nat) ∧
 ((0 : Int) ≤ (Groups_a0 I g) ∧
 (Groups_a0 I g) <
 (↑(DK.ints IntKind.i64 (Groups_a2 I g)).len : Int)) ∧
 (Groups_a0 I g).toNat = (Groups_a0 I g).toNat ∧
 (Groups_a0 I g).toNat < (Groups_a2 I g).length ∧
 ∀ (u : Value),
 ∃ (g' : Nat × List Value),
 g'.fst ≤ I.arcs.length ∧
 I.arcs.length - g'.fst < I.arcs.length - g.fst ∧
 (True ∧
 True ∧
 True ∧
 (↑I.arcs.length : Int) = (↑I.arcs.length : Int) ∧ IntKind.i64.wrap ((↑g.1 : Int) + (1 : Int)) = (↑g'.1 : Int) ∧ True) ∧
 mput (keysM I.arcs g.1) [x.src, x.dst, x.cost] (Groups_a0 I g) = keysM I.arcs g'.1 ∧
 ((Groups_a2 I g).set (Groups_a0 I g).toNat
 (x_1 ++ [(↑g.1 : Int)]) =
 groupsTo I.arcs g'.1 ∧
 (g.2 ++ [Value.slice none (0 : Nat) (0 : Nat)]).set (Groups_a0 I g).toNat u =
 g'.2 ∧
 (none : Option Nat) = none) ∧
 I.arcs = I.arcs ∧ True) ∧
 ((!(Groups_a1 I g x).isSome) = false →
 ((0 : Int) ≤ (Groups_a1 I g x).getD (0 : Int) ∧
 (Groups_a1 I g x).getD (0 : Int) < (Groups_a0 I g)) ∧
 ((Groups_a1 I g x).getD (0 : Int)).toNat < (groupsTo I.arcs g.1).length ∧
 ∀ (x_1 : List Int),
 (groupsTo I.arcs g.1)[((Groups_a1 I g x).getD (0 : Int)).toNat]? = some x_1 →
 x_1.length + (1 : Nat) ≤ (1000000000 : Nat) ∧
 ((0 : Int) ≤ (Groups_a1 I g x).getD (0 : Int) ∧
 (Groups_a1 I g x).getD (0 : Int) < (Groups_a0 I g)) ∧
 ((Groups_a1 I g x).getD (0 : Int)).toNat =
 ((Groups_a1 I g x).getD (0 : Int)).toNat ∧
 ((Groups_a1 I g x).getD (0 : Int)).toNat < (groupsTo I.arcs g.1).length ∧
 ∀ (u : Value),
 ∃ (g' : Nat × List Value),
 g'.fst ≤ I.arcs.length ∧
 I.arcs.length - g'.fst < I.arcs.length - g.fst ∧
 (True ∧
 True ∧
 True ∧ (↑I.arcs.length : Int) = (↑I.arcs.length : Int) ∧ IntKind.i64.wrap ((↑g.1 : Int) + (1 : Int)) = (↑g'.1 : Int) ∧ True) ∧
 keysM I.arcs g.1 = keysM I.arcs g'.1 ∧
 ((groupsTo I.arcs g.1).set ((Groups_a1 I g x).getD (0 : Int)).toNat (x_1 ++ [(↑g.1 : Int)]) =
 groupsTo I.arcs g'.1 ∧
 g.2.set ((Groups_a1 I g x).getD (0 : Int)).toNat u = g'.2 ∧ (none : Option Nat) = none) ∧
 I.arcs = I.arcs ∧ True)) ∧
 (decide ((↑g.1 : Int) < (↑I.arcs.length : Int)) = false →
 ∃ (V : Nat → List Value), (True ∧ True) ∧ (groupsTo I.arcs g.1 = groupsF I.arcs ∧ g.2 = V (0 : Nat) ∧ (none : Option Nat) = none) ∧ True)
theorem Groups_q (I : Inst) (ty0 ty1 : TypeId) : Groups_E0 I ty0 ty1 = FVcP TT Groups_g (Groups_I I) (Groups_an I) Try.f45 [.agg [.row 0, .row 1]] [(0, .row false ty0 (.ints .i64 I.sup)), (1, .row false ty1 (.arcs I.arcs))] (Groups_r I) := by kernel_rfl
theorem Groups_E (I : Inst) (ty0 ty1 : TypeId) (hp : I.arcs.length ≤ 1000000) : FVc TT Groups_g (Groups_I I) (Groups_an I) Try.f45 [.agg [.row 0, .row 1]] [(0, .row false ty0 (.ints .i64 I.sup)), (1, .row false ty1 (.arcs I.arcs))] (Groups_r I) := by
  refine FVc.of (Groups_E0 I ty0 ty1) (Groups_q I ty0 ty1) ?_
  unfold Groups_E0
  delta Groups_a2 Groups_a1 Groups_a0
  simp only [eq_self, exists_const, forall_const, decide_eq_true_eq, decide_eq_false_iff_not, and_true, true_and, bne_iff_ne, ne_eq, bne_eq_false_iff_eq, Int.toNat_natCast, Bool.not_eq_true', Bool.not_eq_false', beq_iff_eq, beq_eq_false_iff_ne, nilEq_true]
  refine ⟨(0, []), ⟨by dsimp only; omega, rfl, rfl, rfl, rfl⟩, fun g hg => ?_⟩
  obtain ⟨k, vs⟩ := g
  dsimp only at hg ⊢
  refine ⟨fun h1 => ⟨by omega, by omega, fun x hx => ?_⟩, fun h1 => ?_⟩
  · have hw : IntKind.i64.wrap ((k : Int) + 1) = ((k + 1 : Nat) : Int) := by rw [w64 (by omega) (by omega)]; omega
    have hd : I.arcs.getD k default = x := by rw [List.getD_eq_getElem?_getD, hx]; rfl
    have hk : [x.src, x.dst, x.cost] = keyA (I.arcs.getD k default) := by rw [hd]; rfl
    have hgl := groupsTo_len I.arcs k
    have hfl := firsts_len I.arcs k
    rw [hk]
    simp only [DK.len, DK.many, hw]
    cases hf : firstK I.arcs k with
    | true =>
      obtain ⟨e1, e2, e3⟩ := groups_first hf
      rw [e1]
      have hlen : (groupsTo I.arcs k ++ List.replicate 1 []).length = (groupsTo I.arcs k).length + 1 := by simp
      refine ⟨fun _ => ?_, fun h => by simp at h⟩
      rw [hlen]
      refine ⟨by simp; omega, by omega, by omega, fun y hy => ?_⟩
      have hy0 : y = [] := by
        rw [List.getElem?_append_right (Nat.le_refl _), Nat.sub_self] at hy
        simp at hy; exact hy
      subst hy0
      refine ⟨by simp, by omega, by omega, fun u => ⟨(k + 1, _), by dsimp only; omega, by dsimp only; omega, rfl, e2, ?_, rfl⟩⟩
      dsimp only
      rw [e3, List.set_append_right _ _ (Nat.le_refl _), Nat.sub_self]
      rfl
    | false =>
      obtain ⟨i, p, e0, e1, e2, e3, e4⟩ := groups_next hf
      rw [e1]
      have hil := get_lt e2
      have hml := memsK_len I.arcs p k
      refine ⟨fun h => by simp at h, fun _ => ?_⟩
      simp only [Option.getD_some, Int.toNat_natCast]
      refine ⟨by omega, by omega, fun y hy => ?_⟩
      rw [e2] at hy
      cases hy
      exact ⟨by omega, by omega, by omega, fun u => ⟨(k + 1, _), by dsimp only; omega, by dsimp only; omega, rfl, e3.symm, e4.symm, rfl⟩⟩
  · have ek : k = I.arcs.length := by omega
    subst ek
    exact ⟨fun _ => vs, rfl, rfl⟩
theorem Groups_ok : SpecOk Try.prog Groups_n true (specOf true Groups_fs) :=
  spec_ok' TT_ok (show GsOk Try.prog Groups_g from gsOk_nil) (by kernel_rfl) mixedOrders Try.func45 rfl rfl (by kernel_rfl) (n := 1) (by decide +kernel) (I := Groups_IA) (fun _ _ => isOk_nil) (A := Groups_A)
    (fun args h r hr => by
      unfold Groups_fs at hr
      split at hr
      · rename_i ty0 I_s ty1 I_a; cases hr; refine ⟨rfl, fun hp => ?_⟩; have hE := Groups_E ⟨I_s, I_a⟩ ty0 ty1 hp; exact hE
      · cases hr)
theorem firstB_succ (l : List Arc) (a b : Nat) : firstB l a (b + 1) = (firstB l a b && !likeA (l.getD a default) (l.getD b default)) := by
  unfold firstB
  rw [List.range_succ, List.all_append]
  simp
theorem groupsR_succ (l : List Arc) (k : Nat) : groupsR l (k + 1) = groupsR l k ++ (if firstK l k then [memsK l k l.length] else []) := by
  unfold groupsR
  rw [firsts_succ, List.map_append]
  congr 1
  cases firstK l k <;> rfl
def rGroups_E0 (I : Inst) (ty0 ty1 : TypeId) : Prop :=
      ∃ (g0 : Nat × List Value),
 (g0.fst ≤ I.arcs.length ∧
 ((0 : Nat) = (0 : Nat) ∧ True ∧ (0 : Int) = (↑g0.1 : Int) ∧ True) ∧
 ([] = groupsR I.arcs g0.1 ∧ [] = g0.2 ∧ (none : Option Nat) = none) ∧ (True ∧ True ∧ True) ∧ I.sup = I.sup ∧ I.arcs = I.arcs ∧ True) ∧
 ∀ (g : Nat × List Value),
 g.fst ≤ I.arcs.length →
 (decide ((↑g.1 : Int) < (↑I.arcs.length : Int)) = true →
 ∃ (g0 : Nat × List Value × Nat),
 ((g0.fst = g0.fst ∧ g0.2.fst = g0.2.fst ∧ g0.2.snd ≤ g0.fst) ∧
 ((0 : Nat) = (0 : Nat) ∧ True ∧ (↑g.1 : Int) = (↑g0.1 : Int) ∧ true = firstB I.arcs g0.1 g0.2.2 ∧ (0 : Int) = (↑g0.2.2 : Int) ∧ True) ∧
 (groupsR I.arcs g.1 = groupsR I.arcs g0.1 ∧ g.2 = g0.2.1 ∧ (none : Option Nat) = none) ∧ (True ∧ True ∧ True) ∧ I.sup = I.sup ∧ I.arcs = I.arcs ∧ True) ∧
 ∀ (g_1 : Nat × List Value × Nat),
 g_1.fst = g0.fst ∧ g_1.2.fst = g0.2.fst ∧ g_1.2.snd ≤ g_1.fst →
 (decide ((↑g_1.2.2 : Int) < (↑g_1.1 : Int)) = true →
 (firstB I.arcs g_1.1 g_1.2.2 = true →
 ((0 : Int) ≤ (↑g_1.1 : Int) ∧ (↑g_1.1 : Int) < (↑I.arcs.length : Int)) ∧
 (↑g_1.1 : Int).toNat < I.arcs.length ∧
 ∀ (x : Arc),
 I.arcs[(↑g_1.1 : Int).toNat]? = some x →
 ((0 : Int) ≤ (↑g_1.2.2 : Int) ∧ (↑g_1.2.2 : Int) < (↑I.arcs.length : Int)) ∧
 (↑g_1.2.2 : Int).toNat < I.arcs.length ∧
 ∀ (x_1 : Arc),
 I.arcs[(↑g_1.2.2 : Int).toNat]? = some x_1 →
 True ∧
 ∃ (g' : Nat × List Value × Nat),
 (g'.fst = g0.fst ∧ g'.2.fst = g0.2.fst ∧ g'.2.snd ≤ g'.fst) ∧
 g'.fst - g'.2.snd < g_1.fst - g_1.2.snd ∧
 ((0 : Nat) = (0 : Nat) ∧
 True ∧
 (↑g_1.1 : Int) = (↑g'.1 : Int) ∧
 (!likeA x x_1) = firstB I.arcs g'.1 g'.2.2 ∧ IntKind.i64.wrap ((↑g_1.2.2 : Int) + (1 : Int)) = (↑g'.2.2 : Int) ∧ True) ∧
 (groupsR I.arcs g_1.1 = groupsR I.arcs g'.1 ∧ g_1.2.1 = g'.2.1 ∧ (none : Option Nat) = none) ∧
 (True ∧ True ∧ True) ∧ I.sup = I.sup ∧ I.arcs = I.arcs ∧ True) ∧
 (firstB I.arcs g_1.1 g_1.2.2 = false →
 ∃ (g' : Nat × List Value × Nat),
 (g'.fst = g0.fst ∧ g'.2.fst = g0.2.fst ∧ g'.2.snd ≤ g'.fst) ∧
 g'.fst - g'.2.snd < g_1.fst - g_1.2.snd ∧
 ((0 : Nat) = (0 : Nat) ∧
 True ∧
 (↑g_1.1 : Int) = (↑g'.1 : Int) ∧
 false = firstB I.arcs g'.1 g'.2.2 ∧ IntKind.i64.wrap ((↑g_1.2.2 : Int) + (1 : Int)) = (↑g'.2.2 : Int) ∧ True) ∧
 (groupsR I.arcs g_1.1 = groupsR I.arcs g'.1 ∧ g_1.2.1 = g'.2.1 ∧ (none : Option Nat) = none) ∧
 (True ∧ True ∧ True) ∧ I.sup = I.sup ∧ I.arcs = I.arcs ∧ True)) ∧
 (decide ((↑g_1.2.2 : Int) < (↑g_1.1 : Int)) = false →
 ((!firstB I.arcs g_1.1 g_1.2.2) = true →
 ∃ (g' : Nat × List Value),
 g'.fst ≤ I.arcs.length ∧
 I.arcs.length - g'.fst < I.arcs.length - g.fst ∧
 ((0 : Nat) = (0 : Nat) ∧ True ∧ IntKind.i64.wrap ((↑g_1.1 : Int) + (1 : Int)) = (↑g'.1 : Int) ∧ True) ∧
 (groupsR I.arcs g_1.1 = groupsR I.arcs g'.1 ∧ g_1.2.1 = g'.2 ∧ (none : Option Nat) = none) ∧ (True ∧ True ∧ True) ∧ I.sup = I.sup ∧ I.arcs = I.arcs ∧ True) ∧
 ((!firstB I.arcs g_1.1 g_1.2.2) = false →
 ∃ (g0 : Nat × List Value × Nat),
 ((g0.fst = g0.fst ∧ g0.2.fst = g0.2.fst ∧ g0.fst ≤ g0.2.snd ∧ g0.2.snd ≤ I.arcs.length) ∧
 ((0 : Nat) = (0 : Nat) ∧ True ∧ (↑g_1.1 : Int) = (↑g0.1 : Int) ∧ True ∧ (↑g_1.1 : Int) = (↑g0.2.2 : Int) ∧ True) ∧
 [] = memsK I.arcs g0.1 g0.2.2 ∧
 (groupsR I.arcs g_1.1 = groupsR I.arcs g0.1 ∧ g_1.2.1 = g0.2.1 ∧ (none : Option Nat) = none) ∧
 (True ∧ True ∧ True) ∧ I.sup = I.sup ∧ I.arcs = I.arcs ∧ True) ∧
 ∀ (g_2 : Nat × List Value × Nat),
 g_2.fst = g0.fst ∧ g_2.2.fst = g0.2.fst ∧ g_2.fst ≤ g_2.2.snd ∧ g_2.2.snd ≤ I.arcs.length →
 (decide ((↑g_2.2.2 : Int) < (↑I.arcs.length : Int)) = true →
 ((0 : Int) ≤ (↑g_2.1 : Int) ∧ (↑g_2.1 : Int) < (↑I.arcs.length : Int)) ∧
 (↑g_2.1 : Int).toNat < I.arcs.length ∧
 ∀ (x : Arc),
 I.arcs[(↑g_2.1 : Int).toNat]? = some x →
 ((0 : Int) ≤ (↑g_2.2.2 : Int) ∧ (↑g_2.2.2 : Int) < (↑I.arcs.length : Int)) ∧
 (↑g_2.2.2 : Int).toNat < I.arcs.length ∧
 ∀ (x_1 : Arc),
 I.arcs[(↑g_2.2.2 : Int).toNat]? = some x_1 →
 True ∧
 (likeA x x_1 = true →
 (memsK I.arcs g_2.1 g_2.2.2).length + (1 : Nat) ≤ (1000000000 : Nat) ∧
 ∃ (g' : Nat × List Value × Nat),
 (g'.fst = g0.fst ∧ g'.2.fst = g0.2.fst ∧ g'.fst ≤ g'.2.snd ∧ g'.2.snd ≤ I.arcs.length) ∧
 I.arcs.length - g'.2.snd < I.arcs.length - g_2.2.snd ∧
 ((0 : Nat) = (0 : Nat) ∧
 True ∧
 (↑g_2.1 : Int) = (↑g'.1 : Int) ∧
 True ∧ IntKind.i64.wrap ((↑g_2.2.2 : Int) + (1 : Int)) = (↑g'.2.2 : Int) ∧ True) ∧
 memsK I.arcs g_2.1 g_2.2.2 ++ [(↑g_2.2.2 : Int)] = memsK I.arcs g'.1 g'.2.2 ∧
 (groupsR I.arcs g_2.1 = groupsR I.arcs g'.1 ∧ g_2.2.1 = g'.2.1 ∧ (none : Option Nat) = none) ∧
 (True ∧ True ∧ True) ∧ I.sup = I.sup ∧ I.arcs = I.arcs ∧ True) ∧
 (likeA x x_1 = false →
 ∃ (g' : Nat × List Value × Nat),
 (g'.fst = g0.fst ∧ g'.2.fst = g0.2.fst ∧ g'.fst ≤ g'.2.snd ∧ g'.2.snd ≤ I.arcs.length) ∧
 I.arcs.length - g'.2.snd < I.arcs.length - g_2.2.snd ∧
 ((0 : Nat) = (0 : Nat) ∧
 True ∧
 (↑g_2.1 : Int) = (↑g'.1 : Int) ∧
 True ∧ IntKind.i64.wrap ((↑g_2.2.2 : Int) + (1 : Int)) = (↑g'.2.2 : Int) ∧ True) ∧
 memsK I.arcs g_2.1 g_2.2.2 = memsK I.arcs g'.1 g'.2.2 ∧
 (groupsR I.arcs g_2.1 = groupsR I.arcs g'.1 ∧ g_2.2.1 = g'.2.1 ∧ (none : Option Nat) = none) ∧
 (True ∧ True ∧ True) ∧ I.sup = I.sup ∧ I.arcs = I.arcs ∧ True)) ∧
 (decide ((↑g_2.2.2 : Int) < (↑I.arcs.length : Int)) = false →
 ∀ (u : Value),
 (DK.ints IntKind.i64 (groupsR I.arcs g_2.1)).len + (DK.ints IntKind.i64 [memsK I.arcs g_2.1 g_2.2.2]).len ≤ (1000000000 : Nat) ∧
 ∃ (g' : Nat × List Value),
 g'.fst ≤ I.arcs.length ∧
 I.arcs.length - g'.fst < I.arcs.length - g.fst ∧
 ((0 : Nat) = (0 : Nat) ∧ True ∧ IntKind.i64.wrap ((↑g_2.1 : Int) + (1 : Int)) = (↑g'.1 : Int) ∧ True) ∧
 (groupsR I.arcs g_2.1 ++ [memsK I.arcs g_2.1 g_2.2.2] = groupsR I.arcs g'.1 ∧ g_2.2.1 ++ [u] = g'.2 ∧ (none : Option Nat) = none) ∧
 (True ∧ True ∧ True) ∧ I.sup = I.sup ∧ I.arcs = I.arcs ∧ True)))) ∧
 (decide ((↑g.1 : Int) < (↑I.arcs.length : Int)) = false →
 ∃ (V : Nat → List Value), (True ∧ True) ∧ (groupsR I.arcs g.1 = groupsF I.arcs ∧ g.2 = V (0 : Nat) ∧ (none : Option Nat) = none) ∧ True)
theorem rGroups_q (I : Inst) (ty0 ty1 : TypeId) : rGroups_E0 I ty0 ty1 = FVcP TT rGroups_g (rGroups_I I) (rGroups_an I) Try.f80 [.agg [.row 0, .row 1]] [(0, .row false ty0 (.ints .i64 I.sup)), (1, .row false ty1 (.arcs I.arcs))] (rGroups_r I) := by kernel_rfl
theorem rGroups_E (I : Inst) (ty0 ty1 : TypeId) (hp : I.arcs.length ≤ 1000000) : FVc TT rGroups_g (rGroups_I I) (rGroups_an I) Try.f80 [.agg [.row 0, .row 1]] [(0, .row false ty0 (.ints .i64 I.sup)), (1, .row false ty1 (.arcs I.arcs))] (rGroups_r I) := by
  refine FVc.of (rGroups_E0 I ty0 ty1) (rGroups_q I ty0 ty1) ?_
  unfold rGroups_E0
  simp only [eq_self, exists_const, forall_const, decide_eq_true_eq, decide_eq_false_iff_not, and_true, true_and, bne_iff_ne, ne_eq, bne_eq_false_iff_eq, Int.toNat_natCast, Bool.not_eq_true', Bool.not_eq_false', beq_iff_eq, beq_eq_false_iff_ne, nilEq_true]
  have hw : ∀ j : Nat, j ≤ 1000000 → IntKind.i64.wrap ((j : Int) + 1) = ((j + 1 : Nat) : Int) := fun j hj => by rw [w64 (by omega) (by omega)]; omega
  refine ⟨(0, []), ⟨by dsimp only; omega, rfl, rfl, rfl⟩, fun g hg => ?_⟩
  obtain ⟨k, vs⟩ := g
  dsimp only at hg ⊢
  refine ⟨fun h1 => ?_, fun h1 => ?_⟩
  · have hkl : k < I.arcs.length := by omega
    obtain ⟨a, ha⟩ : ∃ a, I.arcs[k]? = some a := ⟨_, List.getElem?_eq_getElem hkl⟩
    have hda : I.arcs.getD k default = a := by rw [List.getD_eq_getElem?_getD, ha]; rfl
    have hR := groupsR_succ I.arcs k
    refine ⟨(k, vs, 0), ⟨by dsimp only; omega, ⟨rfl, rfl, rfl⟩, rfl, rfl⟩, fun q hq => ?_⟩
    obtain ⟨k', vs', b⟩ := q
    dsimp only at hq ⊢
    obtain ⟨rfl, rfl, hb⟩ := hq
    refine ⟨fun h2 => ?_, fun h2 => ?_⟩
    · obtain ⟨x, hx⟩ : ∃ x, I.arcs[b]? = some x := ⟨_, List.getElem?_eq_getElem (show b < I.arcs.length by omega)⟩
      have hdx : I.arcs.getD b default = x := by rw [List.getD_eq_getElem?_getD, hx]; rfl
      have hs := firstB_succ I.arcs k' b
      rw [hda, hdx] at hs
      simp only [ha, hx, Option.some.injEq, forall_eq']
      exact ⟨fun h3 => ⟨by omega, by omega, by omega, by omega, (k', vs', b + 1), ⟨rfl, rfl, by dsimp only; omega⟩, by dsimp only; omega, ⟨rfl, by dsimp only; rw [hs, h3]; rfl, hw b (by omega)⟩, rfl, rfl⟩, fun h3 => ⟨(k', vs', b + 1), ⟨rfl, rfl, by dsimp only; omega⟩, by dsimp only; omega, ⟨rfl, by dsimp only; rw [hs, h3]; rfl, hw b (by omega)⟩, rfl, rfl⟩⟩
    · have eb : b = k' := by omega
      subst eb
      have hfb : firstB I.arcs b b = firstK I.arcs b := rfl
      rw [hfb]
      refine ⟨fun h3 => ⟨(b + 1, vs'), by dsimp only; omega, by dsimp only; omega, hw b (by omega), by dsimp only; rw [hR, h3]; simp, rfl⟩, fun h3 => ?_⟩
      refine ⟨(b, vs', b), ⟨⟨Nat.le_refl _, by dsimp only; omega⟩, ⟨rfl, rfl⟩, by dsimp only; rw [memsK_none _ _ _ (Nat.le_refl _)], rfl, rfl⟩, fun q hq => ?_⟩
      obtain ⟨k2, vs2, b2⟩ := q
      dsimp only at hq ⊢
      obtain ⟨rfl, rfl, hb1, hb2⟩ := hq
      refine ⟨fun h4 => ?_, fun h4 u => ?_⟩
      · obtain ⟨x, hx⟩ : ∃ x, I.arcs[b2]? = some x := ⟨_, List.getElem?_eq_getElem (show b2 < I.arcs.length by omega)⟩
        have hdx : I.arcs.getD b2 default = x := by rw [List.getD_eq_getElem?_getD, hx]; rfl
        have hs := memsK_succ I.arcs k2 b2
        have hml := memsK_len I.arcs k2 b2
        rw [hda, hdx] at hs
        simp only [ha, hx, Option.some.injEq, forall_eq']
        exact ⟨by omega, by omega, by omega, by omega, fun h5 => ⟨by omega, (k2, vs2, b2 + 1), ⟨rfl, rfl, by dsimp only; omega, by dsimp only; omega⟩, by dsimp only; omega, ⟨rfl, hw b2 (by omega)⟩, by dsimp only; rw [hs, if_pos ⟨hb1, h5⟩], rfl, rfl⟩, fun h5 => ⟨(k2, vs2, b2 + 1), ⟨rfl, rfl, by dsimp only; omega, by dsimp only; omega⟩, by dsimp only; omega, ⟨rfl, hw b2 (by omega)⟩, by dsimp only; rw [hs, if_neg (fun h => by rw [h.2] at h5; cases h5), List.append_nil], rfl, rfl⟩⟩
      · have e2 : b2 = I.arcs.length := by omega
        subst e2
        have hrl : (groupsR I.arcs k2).length ≤ k2 := by unfold groupsR; rw [List.length_map]; exact firsts_len _ _
        refine ⟨by simp only [DK.len, List.length_cons, List.length_nil]; omega, (k2 + 1, _), by dsimp only; omega, by dsimp only; omega, hw k2 (by omega), by dsimp only; rw [hR, h3]; rfl, rfl⟩
  · have ek : k = I.arcs.length := by omega
    subst ek
    exact ⟨fun _ => vs, rfl, rfl⟩
theorem rGroups_ok : SpecOk Try.prog rGroups_n true (specOf true rGroups_fs) :=
  spec_ok' TT_ok (show GsOk Try.prog rGroups_g from gsOk_cons rlike_ok (gsOk_nil)) (by kernel_rfl) mixedOrders Try.func80 rfl rfl (by kernel_rfl) (n := 1) (by decide +kernel) (I := rGroups_IA) (fun _ _ => isOk_nil) (A := rGroups_A)
    (fun args h r hr => by
      unfold rGroups_fs at hr
      split at hr
      · rename_i ty0 I_s ty1 I_a; cases hr; refine ⟨rfl, fun hp => ?_⟩; have hE := rGroups_E ⟨I_s, I_a⟩ ty0 ty1 hp; exact hE
      · cases hr)
abbrev Twin_a0 (I : Inst) (g_1 : Nat × List Value × Nat) (x : Int) (g0 : Nat × List Value × Nat) (x_4 : Arc) := (capI I.arcs (List.take (g_1.2.2 + (1 : Nat)) (grp I.arcs g_1.1)) = true →
 ((0 : Int) ≤ x ∧ x < (↑(outC I.arcs g_1.1 g_1.2.2).length : Int)) ∧
 x.toNat < (outC I.arcs g_1.1 g_1.2.2).length ∧
 ∃ (g' : Nat × List Value × Nat),
 (g'.fst = g0.fst ∧
 g'.2.fst = g0.2.fst ∧
 g'.2.snd + (1 : Nat) ≤ (grp I.arcs g'.fst).length) ∧
 (grp I.arcs g'.fst).length - g'.2.snd <
 (grp I.arcs g_1.fst).length - g_1.2.snd ∧
 ((0 : Nat) = (0 : Nat) ∧
 (0 : Nat) = (0 : Nat) ∧
 (0 : Nat) = (0 : Nat) ∧
 True ∧
 true =
 (didB I.arcs g'.1 ||
 decide ((0 : Nat) < g'.2.2)) ∧
 True ∧
 (↑(groupsF I.arcs).length : Int) =
 (↑(groupsF I.arcs).length : Int) ∧
 (↑g_1.1 : Int) = (↑g'.1 : Int) ∧
 (grp I.arcs g_1.1).getD (0 : Nat)
 (0 : Int) =
 (grp I.arcs g'.1).getD (0 : Nat)
 (0 : Int) ∧
 IntKind.i64.wrap
 (lowM I.arcs
 (List.take
 (g_1.2.2 + (1 : Nat))
 (grp I.arcs g_1.1)) +
 x_4.low) =
 lowM I.arcs
 (List.take (g'.2.2 + (1 : Nat))
 (grp I.arcs g'.1)) ∧
 (0 : Nat) = (0 : Nat) ∧
 True ∧
 (↑(List.drop (1 : Nat)
 (grp I.arcs
 g_1.1)).length :
 Int) =
 (↑(List.drop (1 : Nat)
 (grp I.arcs
 g'.1)).length :
 Int) ∧
 IntKind.i64.wrap
 ((↑g_1.2.2 : Int) +
 (1 : Int)) =
 (↑g'.2.2 : Int) ∧
 True) ∧
 List.drop (1 : Nat) (grp I.arcs g_1.1) =
 List.drop (1 : Nat) (grp I.arcs g'.1) ∧
 (((0 : Int) =
 if
 capI I.arcs
 (List.take (g'.2.2 + (1 : Nat))
 (grp I.arcs g'.1)) =
 true then
 (0 : Int)
 else
 capN I.arcs
 (List.take (g'.2.2 + (1 : Nat))
 (grp I.arcs g'.1))) ∧
 true =
 capI I.arcs
 (List.take (g'.2.2 + (1 : Nat))
 (grp I.arcs g'.1)) ∧
 True) ∧
 (groupsF I.arcs = groupsF I.arcs ∧ g_1.2.1 = g'.2.1) ∧
 (outC I.arcs g_1.1 g_1.2.2).set x.toNat true =
 outC I.arcs g'.1 g'.2.2 ∧
 (True ∧ True ∧ True) ∧
 I.sup = I.sup ∧
 wA I.arcs g_1.1 = wA I.arcs g'.1 ∧
 (True ∧
 True ∧
 (0 : Int) = (0 : Int) ∧
 True ∧
 True ∧
 (0 : Int) = (0 : Int) ∧
 (0 : Int) = (0 : Int) ∧
 True ∧ True) ∧
 nilEq Int ∧
 nilEq Arc ∧
 nilEq Int ∧
 nilEq Arc ∧
 (True ∧ True ∧ True) ∧
 I.sup = I.sup ∧
 I.arcs = I.arcs ∧ True)
abbrev Twin_a1 (x_5 : Arc) (I : Inst) (g_1 : Nat × List Value × Nat) (x : Int) (g0 : Nat × List Value × Nat) (x_4 : Arc) := ((x_5.cap == (4611686018427387904 : Int)) = false →
 (Twin_a0 I g_1 x g0 x_4) ∧
 (capI I.arcs (List.take (g_1.2.2 + (1 : Nat)) (grp I.arcs g_1.1)) =
 false →
 ((0 : Int) ≤ x ∧ x < (↑(outC I.arcs g_1.1 g_1.2.2).length : Int)) ∧
 x.toNat < (outC I.arcs g_1.1 g_1.2.2).length ∧
 ∃ (g' : Nat × List Value × Nat),
 (g'.fst = g0.fst ∧
 g'.2.fst = g0.2.fst ∧
 g'.2.snd + (1 : Nat) ≤ (grp I.arcs g'.fst).length) ∧
 (grp I.arcs g'.fst).length - g'.2.snd <
 (grp I.arcs g_1.fst).length - g_1.2.snd ∧
 ((0 : Nat) = (0 : Nat) ∧
 (0 : Nat) = (0 : Nat) ∧
 (0 : Nat) = (0 : Nat) ∧
 True ∧
 true =
 (didB I.arcs g'.1 ||
 decide ((0 : Nat) < g'.2.2)) ∧
 True ∧
 (↑(groupsF I.arcs).length : Int) =
 (↑(groupsF I.arcs).length : Int) ∧
 (↑g_1.1 : Int) = (↑g'.1 : Int) ∧
 (grp I.arcs g_1.1).getD (0 : Nat)
 (0 : Int) =
 (grp I.arcs g'.1).getD (0 : Nat)
 (0 : Int) ∧
 IntKind.i64.wrap
 (lowM I.arcs
 (List.take
 (g_1.2.2 + (1 : Nat))
 (grp I.arcs g_1.1)) +
 x_4.low) =
 lowM I.arcs
 (List.take (g'.2.2 + (1 : Nat))
 (grp I.arcs g'.1)) ∧
 (0 : Nat) = (0 : Nat) ∧
 True ∧
 (↑(List.drop (1 : Nat)
 (grp I.arcs
 g_1.1)).length :
 Int) =
 (↑(List.drop (1 : Nat)
 (grp I.arcs
 g'.1)).length :
 Int) ∧
 IntKind.i64.wrap
 ((↑g_1.2.2 : Int) +
 (1 : Int)) =
 (↑g'.2.2 : Int) ∧
 True) ∧
 List.drop (1 : Nat) (grp I.arcs g_1.1) =
 List.drop (1 : Nat) (grp I.arcs g'.1) ∧
 ((IntKind.i64.wrap
 ((if
 capI I.arcs
 (List.take (g_1.2.2 + (1 : Nat))
 (grp I.arcs g_1.1)) =
 true then
 (0 : Int)
 else
 capN I.arcs
 (List.take (g_1.2.2 + (1 : Nat))
 (grp I.arcs g_1.1))) +
 x_5.cap) =
 if
 capI I.arcs
 (List.take (g'.2.2 + (1 : Nat))
 (grp I.arcs g'.1)) =
 true then
 (0 : Int)
 else
 capN I.arcs
 (List.take (g'.2.2 + (1 : Nat))
 (grp I.arcs g'.1))) ∧
 false =
 capI I.arcs
 (List.take (g'.2.2 + (1 : Nat))
 (grp I.arcs g'.1)) ∧
 True) ∧
 (groupsF I.arcs = groupsF I.arcs ∧ g_1.2.1 = g'.2.1) ∧
 (outC I.arcs g_1.1 g_1.2.2).set x.toNat true =
 outC I.arcs g'.1 g'.2.2 ∧
 (True ∧ True ∧ True) ∧
 I.sup = I.sup ∧
 wA I.arcs g_1.1 = wA I.arcs g'.1 ∧
 (True ∧
 True ∧
 (0 : Int) = (0 : Int) ∧
 True ∧
 True ∧
 (0 : Int) = (0 : Int) ∧
 (0 : Int) = (0 : Int) ∧
 True ∧ True) ∧
 nilEq Int ∧
 nilEq Arc ∧
 nilEq Int ∧
 nilEq Arc ∧
 (True ∧ True ∧ True) ∧
 I.sup = I.sup ∧
 I.arcs = I.arcs ∧ True))
abbrev Twin_a2 (x_5 : Arc) (I : Inst) (g_1 : Nat × List Value × Nat) (x : Int) (g0 : Nat × List Value × Nat) (x_4 : Arc) := ((x_5.cap == (4611686018427387904 : Int)) = true →
 (Twin_a0 I g_1 x g0 x_4) ∧
 (capI I.arcs (List.take (g_1.2.2 + (1 : Nat)) (grp I.arcs g_1.1)) =
 false →
 ((0 : Int) ≤ x ∧ x < (↑(outC I.arcs g_1.1 g_1.2.2).length : Int)) ∧
 x.toNat < (outC I.arcs g_1.1 g_1.2.2).length ∧
 ∃ (g' : Nat × List Value × Nat),
 (g'.fst = g0.fst ∧
 g'.2.fst = g0.2.fst ∧
 g'.2.snd + (1 : Nat) ≤ (grp I.arcs g'.fst).length) ∧
 (grp I.arcs g'.fst).length - g'.2.snd <
 (grp I.arcs g_1.fst).length - g_1.2.snd ∧
 ((0 : Nat) = (0 : Nat) ∧
 (0 : Nat) = (0 : Nat) ∧
 (0 : Nat) = (0 : Nat) ∧
 True ∧
 true =
 (didB I.arcs g'.1 ||
 decide ((0 : Nat) < g'.2.2)) ∧
 True ∧
 (↑(groupsF I.arcs).length : Int) =
 (↑(groupsF I.arcs).length : Int) ∧
 (↑g_1.1 : Int) = (↑g'.1 : Int) ∧
 (grp I.arcs g_1.1).getD (0 : Nat)
 (0 : Int) =
 (grp I.arcs g'.1).getD (0 : Nat)
 (0 : Int) ∧
 IntKind.i64.wrap
 (lowM I.arcs
 (List.take
 (g_1.2.2 + (1 : Nat))
 (grp I.arcs g_1.1)) +
 x_4.low) =
 lowM I.arcs
 (List.take (g'.2.2 + (1 : Nat))
 (grp I.arcs g'.1)) ∧
 (0 : Nat) = (0 : Nat) ∧
 True ∧
 (↑(List.drop (1 : Nat)
 (grp I.arcs
 g_1.1)).length :
 Int) =
 (↑(List.drop (1 : Nat)
 (grp I.arcs
 g'.1)).length :
 Int) ∧
 IntKind.i64.wrap
 ((↑g_1.2.2 : Int) +
 (1 : Int)) =
 (↑g'.2.2 : Int) ∧
 True) ∧
 List.drop (1 : Nat) (grp I.arcs g_1.1) =
 List.drop (1 : Nat) (grp I.arcs g'.1) ∧
 (((0 : Int) =
 if
 capI I.arcs
 (List.take (g'.2.2 + (1 : Nat))
 (grp I.arcs g'.1)) =
 true then
 (0 : Int)
 else
 capN I.arcs
 (List.take (g'.2.2 + (1 : Nat))
 (grp I.arcs g'.1))) ∧
 true =
 capI I.arcs
 (List.take (g'.2.2 + (1 : Nat))
 (grp I.arcs g'.1)) ∧
 True) ∧
 (groupsF I.arcs = groupsF I.arcs ∧ g_1.2.1 = g'.2.1) ∧
 (outC I.arcs g_1.1 g_1.2.2).set x.toNat true =
 outC I.arcs g'.1 g'.2.2 ∧
 (True ∧ True ∧ True) ∧
 I.sup = I.sup ∧
 wA I.arcs g_1.1 = wA I.arcs g'.1 ∧
 (True ∧
 True ∧
 (0 : Int) = (0 : Int) ∧
 True ∧
 True ∧
 (0 : Int) = (0 : Int) ∧
 (0 : Int) = (0 : Int) ∧
 True ∧ True) ∧
 nilEq Int ∧
 nilEq Arc ∧
 nilEq Int ∧
 nilEq Arc ∧
 (True ∧ True ∧ True) ∧
 I.sup = I.sup ∧
 I.arcs = I.arcs ∧ True))
abbrev Twin_a3 (I : Inst) (g_1 : Nat × List Value × Nat) (x : Arc) := ((wA I.arcs g_1.1).set ((grp I.arcs g_1.1).getD (0 : Nat) (0 : Int)).toNat
 { src := x.src, dst := x.dst, low := lowM I.arcs (List.take (g_1.2.2 + (1 : Nat)) (grp I.arcs g_1.1)), cap := x.cap, cost := x.cost : Arc })
abbrev Twin_a4 (I : Inst) (g_1 : Nat × List Value × Nat) (g' : Nat × List Value) := ((0 : Nat) = (0 : Nat) ∧
 (0 : Nat) = (0 : Nat) ∧
 (0 : Nat) = (0 : Nat) ∧
 True ∧
 (didB I.arcs g_1.1 || decide ((0 : Nat) < g_1.2.2)) =
 didB I.arcs g'.1 ∧
 True ∧
 (↑(groupsF I.arcs).length : Int) =
 (↑(groupsF I.arcs).length : Int) ∧
 IntKind.i64.wrap ((↑g_1.1 : Int) + (1 : Int)) =
 (↑g'.1 : Int) ∧
 True)
abbrev Twin_a5 (I : Inst) (g_1 : Nat × List Value × Nat) (x : Arc) := ((wA I.arcs g_1.1).set
 ((grp I.arcs g_1.1).getD (0 : Nat) (0 : Int)).toNat
 { src := x.src, dst := x.dst, low := lowM I.arcs (List.take (g_1.2.2 + (1 : Nat)) (grp I.arcs g_1.1)), cap := x.cap, cost := x.cost : Arc })
abbrev Twin_a6 (I : Inst) (g_1 : Nat × List Value × Nat) (x : Arc) := ((0 : Int) ≤ (grp I.arcs g_1.1).getD (0 : Nat) (0 : Int) ∧
 (grp I.arcs g_1.1).getD (0 : Nat) (0 : Int) <
 (↑(Twin_a3 I g_1 x).length :
 Int))
abbrev Twin_a7 := (True ∧
 True ∧
 (0 : Int) = (0 : Int) ∧
 True ∧
 True ∧
 (0 : Int) = (0 : Int) ∧
 (0 : Int) = (0 : Int) ∧ True ∧ True)
abbrev Twin_a8 (I : Inst) (g_1 : Nat × List Value × Nat) := ((grp I.arcs g_1.1).getD (0 : Nat) (0 : Int))
abbrev Twin_a9 (g_1 : Nat × List Value × Nat) (I : Inst) := (List.take (g_1.2.2 + (1 : Nat)) (grp I.arcs g_1.1))
abbrev Twin_a10 (I : Inst) (g : Nat × List Value) (g0 : Nat × List Value × Nat) (x_1 : Int) (x_2 : Arc) (x : List Int) := ((0 : Nat) = (0 : Nat) ∧
 (0 : Nat) = (0 : Nat) ∧
 (0 : Nat) = (0 : Nat) ∧
 True ∧
 didB I.arcs g.1 = (didB I.arcs g0.1 || decide ((0 : Nat) < g0.2.2)) ∧
 True ∧
 (↑(groupsF I.arcs).length : Int) = (↑(groupsF I.arcs).length : Int) ∧
 (↑g.1 : Int) = (↑g0.1 : Int) ∧
 x_1 = (grp I.arcs g0.1).getD (0 : Nat) (0 : Int) ∧
 x_2.low = lowM I.arcs (List.take (g0.2.2 + (1 : Nat)) (grp I.arcs g0.1)) ∧
 (0 : Nat) = (0 : Nat) ∧
 True ∧
 (↑(List.drop (Int.toNat (1 : Int)) (List.take (↑x.length : Int).toNat x)).length :
 Int) =
 (↑(List.drop (1 : Nat) (grp I.arcs g0.1)).length : Int) ∧
 (0 : Int) = (↑g0.2.2 : Int) ∧ True)
abbrev Twin_a11 (I : Inst) (g_1 : Nat × List Value × Nat) := (List.drop (1 : Nat) (grp I.arcs g_1.1))
abbrev Twin_a12 (I : Inst) (g : Nat × List Value) := (withoutF { sup := I.sup, arcs := wA I.arcs g.1 : Inst } [] (outB I.arcs g.1))
abbrev Twin_a13 (I : Inst) := (True ∧
 True ∧
 (0 : Int) = (twinS I).fst.pass ∧
 True ∧ True ∧ (0 : Int) = (twinS I).fst.off.hi ∧ (0 : Int) = (twinS I).fst.off.lo ∧ false = (twinS I).fst.did ∧ True)
abbrev Twin_a14 (I : Inst) (g_1 : Nat × List Value × Nat) (g' : Nat × List Value) := (groupsF I.arcs = groupsF I.arcs ∧ g_1.2.1 = g'.2)
abbrev Twin_a15 (g0 : Nat × List Value × Nat) (I : Inst) := (List.take (g0.2.2 + (1 : Nat)) (grp I.arcs g0.1))
abbrev Twin_a16 (I : Inst) := (I.sup.length ≤ (1000000000 : Nat) ∧ I.arcs.length ≤ (1000000000 : Nat))
abbrev Twin_a17 (x : List Int) := ((0 : Int) ≤ (1 : Int) ∧
 (1 : Int) ≤ (↑x.length : Int) ∧ (↑x.length : Int) ≤ (↑x.length : Int) ∧ (↑x.length : Int) ≤ (↑x.length : Int))
abbrev Twin_a18 := (True ∧
 True ∧
 (0 : Int) = (0 : Int) ∧
 True ∧ True ∧ (0 : Int) = (0 : Int) ∧ (0 : Int) = (0 : Int) ∧ True ∧ True)
def Twin_E0 (I : Inst) (ty0 ty1 : TypeId) : Prop :=
      True ∧
 ((rightF I != (0 : Int)) = true →
 (((True ∧ True ∧ (0 : Int) = (twinS I).fst.pass ∧ True ∧ True ∧ (0 : Int) = (twinS I).fst.off.hi ∧ (0 : Int) = (twinS I).fst.off.lo ∧ false = (twinS I).fst.did ∧ True) ∧
 rightF I = (twinS I).snd ∧ True) ∧
 True) ∧
 [] = (twinS I).fst.inst.sup ∧ [] = (twinS I).fst.inst.arcs ∧ [] = (twinS I).fst.was.sup ∧ [] = (twinS I).fst.was.arcs ∧ True) ∧
 ((rightF I != (0 : Int)) = false →
 (Twin_a16 I) ∧
 ((↑I.arcs.length : Int) = (↑I.arcs.length : Int) ∧ (0 : Int) ≤ (↑I.arcs.length : Int) ∧ (↑I.arcs.length : Int) ≤ (1000000000 : Int)) ∧
 I.arcs.length ≤ (1000000 : Nat) ∧
 ∀ (V : Nat → List Value),
 ∃ (g0 : Nat × List Value),
 (g0.fst ≤ (groupsF I.arcs).length ∧
 ((0 : Nat) = (0 : Nat) ∧
 (0 : Nat) = (0 : Nat) ∧
 (0 : Nat) = (0 : Nat) ∧
 True ∧
 false = didB I.arcs g0.1 ∧
 True ∧ (↑(DK.ints IntKind.i64 (groupsF I.arcs)).len : Int) = (↑(groupsF I.arcs).length : Int) ∧ (0 : Int) = (↑g0.1 : Int) ∧ True) ∧
 (groupsF I.arcs = groupsF I.arcs ∧ V (0 : Nat) = g0.2 ∧ (none : Option Nat) = none) ∧
 List.replicate (↑I.arcs.length : Int).toNat false = outB I.arcs g0.1 ∧
 (True ∧ True ∧ True) ∧
 I.sup = I.sup ∧
 I.arcs = wA I.arcs g0.1 ∧
 (True ∧ True ∧ (0 : Int) = (0 : Int) ∧ True ∧ True ∧ (0 : Int) = (0 : Int) ∧ (0 : Int) = (0 : Int) ∧ True ∧ True) ∧
 nilEq Int ∧ nilEq Arc ∧ nilEq Int ∧ nilEq Arc ∧ (True ∧ True ∧ True) ∧ I.sup = I.sup ∧ I.arcs = I.arcs ∧ True) ∧
 ∀ (g : Nat × List Value),
 g.fst ≤ (groupsF I.arcs).length →
 (decide ((↑g.1 : Int) < (↑(groupsF I.arcs).length : Int)) = true →
 ((0 : Int) ≤ (↑g.1 : Int) ∧ (↑g.1 : Int) < (↑(DK.ints IntKind.i64 (groupsF I.arcs)).len : Int)) ∧
 (↑g.1 : Int).toNat < (groupsF I.arcs).length ∧
 ∀ (x : List Int),
 (groupsF I.arcs)[(↑g.1 : Int).toNat]? = some x →
 ((0 : Int) ≤ (0 : Int) ∧ (0 : Int) < (↑x.length : Int)) ∧
 Int.toNat (0 : Int) < x.length ∧
 ∀ (x_1 : Int),
 x[Int.toNat (0 : Int)]? = some x_1 →
 ((0 : Int) ≤ x_1 ∧ x_1 < (↑I.arcs.length : Int)) ∧
 x_1.toNat < I.arcs.length ∧
 ∀ (x_2 : Arc),
 I.arcs[x_1.toNat]? = some x_2 →
 ((0 : Int) ≤ x_1 ∧ x_1 < (↑I.arcs.length : Int)) ∧
 x_1.toNat < I.arcs.length ∧
 ∀ (x_3 : Arc),
 I.arcs[x_1.toNat]? = some x_3 →
 ((x_3.cap == (4611686018427387904 : Int)) = true →
 (Twin_a17 x) ∧
 ∃ (g0 : Nat × List Value × Nat),
 ((g0.fst = g0.fst ∧ g0.2.fst = g0.2.fst ∧ g0.2.snd + (1 : Nat) ≤ (grp I.arcs g0.fst).length) ∧
 (Twin_a10 I g g0 x_1 x_2 x) ∧
 List.drop (Int.toNat (1 : Int)) (List.take (↑x.length : Int).toNat x) =
 List.drop (1 : Nat) (grp I.arcs g0.1) ∧
 (((0 : Int) =
 if capI I.arcs (Twin_a15 g0 I) = true then (0 : Int)
 else capN I.arcs (Twin_a15 g0 I)) ∧
 true = capI I.arcs (Twin_a15 g0 I) ∧ True) ∧
 (groupsF I.arcs = groupsF I.arcs ∧ g.2 = g0.2.1) ∧
 outB I.arcs g.1 = outC I.arcs g0.1 g0.2.2 ∧
 (True ∧ True ∧ True) ∧
 I.sup = I.sup ∧
 wA I.arcs g.1 = wA I.arcs g0.1 ∧
 (Twin_a18) ∧
 nilEq Int ∧
 nilEq Arc ∧
 nilEq Int ∧ nilEq Arc ∧ (True ∧ True ∧ True) ∧ I.sup = I.sup ∧ I.arcs = I.arcs ∧ True) ∧
 ∀ (g_1 : Nat × List Value × Nat),
 g_1.fst = g0.fst ∧ g_1.2.fst = g0.2.fst ∧ g_1.2.snd + (1 : Nat) ≤ (grp I.arcs g_1.fst).length →
 (decide ((↑g_1.2.2 : Int) < (↑(Twin_a11 I g_1).length : Int)) = true →
 ((0 : Int) ≤ (↑g_1.2.2 : Int) ∧
 (↑g_1.2.2 : Int) < (↑(Twin_a11 I g_1).length : Int)) ∧
 (↑g_1.2.2 : Int).toNat < (Twin_a11 I g_1).length ∧
 ∀ (x : Int),
 (Twin_a11 I g_1)[(↑g_1.2.2 : Int).toNat]? = some x →
 ((0 : Int) ≤ x ∧ x < (↑I.arcs.length : Int)) ∧
 x.toNat < I.arcs.length ∧
 ∀ (x_4 : Arc),
 I.arcs[x.toNat]? = some x_4 →
 ((0 : Int) ≤ x ∧ x < (↑I.arcs.length : Int)) ∧
 x.toNat < I.arcs.length ∧
 ∀ (x_5 : Arc),
 I.arcs[x.toNat]? = some x_5 →
 ((Twin_a2 x_5 I g_1 x g0 x_4) ∧
 (Twin_a1 x_5 I g_1 x g0 x_4)) ∧
 (Twin_a2 x_5 I g_1 x g0 x_4) ∧
 (Twin_a1 x_5 I g_1 x g0 x_4)) ∧
 (decide ((↑g_1.2.2 : Int) < (↑(Twin_a11 I g_1).length : Int)) = false →
 ((0 : Int) ≤ (grp I.arcs g_1.1).getD (0 : Nat) (0 : Int) ∧
 (grp I.arcs g_1.1).getD (0 : Nat) (0 : Int) < (↑(wA I.arcs g_1.1).length : Int)) ∧
 (Twin_a8 I g_1).toNat < (wA I.arcs g_1.1).length ∧
 ∀ (x : Arc),
 (wA I.arcs g_1.1)[(Twin_a8 I g_1).toNat]? = some x →
 ((capI I.arcs (Twin_a9 g_1 I) = true →
 (Twin_a6 I g_1 x) ∧
 (Twin_a8 I g_1).toNat <
 (Twin_a3 I g_1 x).length ∧
 ∀ (x_4 : Arc),
 (Twin_a3 I g_1 x)[(Twin_a8 I g_1).toNat]? =
 some x_4 →
 ∃ (g' : Nat × List Value),
 g'.fst ≤ (groupsF I.arcs).length ∧
 (groupsF I.arcs).length - g'.fst < (groupsF I.arcs).length - g.fst ∧
 (Twin_a4 I g_1 g') ∧
 (Twin_a14 I g_1 g') ∧
 outC I.arcs g_1.1 g_1.2.2 = outB I.arcs g'.1 ∧
 (True ∧ True ∧ True) ∧
 I.sup = I.sup ∧
 (Twin_a5 I g_1 x).set
 (Twin_a8 I g_1).toNat
 { src := x_4.src, dst := x_4.dst, low := x_4.low, cap := (4611686018427387904 : Int), cost := x_4.cost : Arc } =
 wA I.arcs g'.1 ∧
 (Twin_a7) ∧
 nilEq Int ∧
 nilEq Arc ∧
 nilEq Int ∧
 nilEq Arc ∧
 (True ∧ True ∧ True) ∧
 I.sup = I.sup ∧ I.arcs = I.arcs ∧ True) ∧
 (capI I.arcs (Twin_a9 g_1 I) = false →
 (Twin_a6 I g_1 x) ∧
 (Twin_a8 I g_1).toNat <
 (Twin_a3 I g_1 x).length ∧
 ∀ (x_4 : Arc),
 (Twin_a3 I g_1 x)[(Twin_a8 I g_1).toNat]? =
 some x_4 →
 ∃ (g' : Nat × List Value),
 g'.fst ≤ (groupsF I.arcs).length ∧
 (groupsF I.arcs).length - g'.fst < (groupsF I.arcs).length - g.fst ∧
 (Twin_a4 I g_1 g') ∧
 (Twin_a14 I g_1 g') ∧
 outC I.arcs g_1.1 g_1.2.2 = outB I.arcs g'.1 ∧
 (True ∧ True ∧ True) ∧
 I.sup = I.sup ∧
 (Twin_a5 I g_1 x).set
 (Twin_a8 I g_1).toNat
 { src := x_4.src, dst := x_4.dst, low := x_4.low, cap := if capI I.arcs (Twin_a9 g_1 I) = true then (0 : Int) else capN I.arcs (Twin_a9 g_1 I), cost := x_4.cost : Arc } =
 wA I.arcs g'.1 ∧
 (Twin_a7) ∧
 nilEq Int ∧
 nilEq Arc ∧
 nilEq Int ∧
 nilEq Arc ∧
 (True ∧ True ∧ True) ∧
 I.sup = I.sup ∧ I.arcs = I.arcs ∧ True)) ∧
 (capI I.arcs (Twin_a9 g_1 I) = true →
 (Twin_a6 I g_1 x) ∧
 (Twin_a8 I g_1).toNat <
 (Twin_a3 I g_1 x).length ∧
 ∀ (x_4 : Arc),
 (Twin_a3 I g_1 x)[(Twin_a8 I g_1).toNat]? =
 some x_4 →
 ∃ (g' : Nat × List Value),
 g'.fst ≤ (groupsF I.arcs).length ∧
 (groupsF I.arcs).length - g'.fst < (groupsF I.arcs).length - g.fst ∧
 (Twin_a4 I g_1 g') ∧
 (Twin_a14 I g_1 g') ∧
 outC I.arcs g_1.1 g_1.2.2 = outB I.arcs g'.1 ∧
 (True ∧ True ∧ True) ∧
 I.sup = I.sup ∧
 (Twin_a5 I g_1 x).set
 (Twin_a8 I g_1).toNat
 { src := x_4.src, dst := x_4.dst, low := x_4.low, cap := (4611686018427387904 : Int), cost := x_4.cost : Arc } =
 wA I.arcs g'.1 ∧
 (Twin_a7) ∧
 nilEq Int ∧
 nilEq Arc ∧
 nilEq Int ∧
 nilEq Arc ∧
 (True ∧ True ∧ True) ∧
 I.sup = I.sup ∧ I.arcs = I.arcs ∧ True) ∧
 (capI I.arcs (Twin_a9 g_1 I) = false →
 (Twin_a6 I g_1 x) ∧
 (Twin_a8 I g_1).toNat <
 (Twin_a3 I g_1 x).length ∧
 ∀ (x_4 : Arc),
 (Twin_a3 I g_1 x)[(Twin_a8 I g_1).toNat]? =
 some x_4 →
 ∃ (g' : Nat × List Value),
 g'.fst ≤ (groupsF I.arcs).length ∧
 (groupsF I.arcs).length - g'.fst < (groupsF I.arcs).length - g.fst ∧
 (Twin_a4 I g_1 g') ∧
 (Twin_a14 I g_1 g') ∧
 outC I.arcs g_1.1 g_1.2.2 = outB I.arcs g'.1 ∧
 (True ∧ True ∧ True) ∧
 I.sup = I.sup ∧
 (Twin_a5 I g_1 x).set
 (Twin_a8 I g_1).toNat
 { src := x_4.src, dst := x_4.dst, low := x_4.low, cap := if capI I.arcs (Twin_a9 g_1 I) = true then (0 : Int) else capN I.arcs (Twin_a9 g_1 I), cost := x_4.cost : Arc } =
 wA I.arcs g'.1 ∧
 (Twin_a7) ∧
 nilEq Int ∧
 nilEq Arc ∧
 nilEq Int ∧
 nilEq Arc ∧
 (True ∧ True ∧ True) ∧
 I.sup = I.sup ∧ I.arcs = I.arcs ∧ True))) ∧
 ((x_3.cap == (4611686018427387904 : Int)) = false →
 (Twin_a17 x) ∧
 ∃ (g0 : Nat × List Value × Nat),
 ((g0.fst = g0.fst ∧ g0.2.fst = g0.2.fst ∧ g0.2.snd + (1 : Nat) ≤ (grp I.arcs g0.fst).length) ∧
 (Twin_a10 I g g0 x_1 x_2 x) ∧
 List.drop (Int.toNat (1 : Int)) (List.take (↑x.length : Int).toNat x) =
 List.drop (1 : Nat) (grp I.arcs g0.1) ∧
 ((x_3.cap =
 if capI I.arcs (Twin_a15 g0 I) = true then (0 : Int)
 else capN I.arcs (Twin_a15 g0 I)) ∧
 false = capI I.arcs (Twin_a15 g0 I) ∧ True) ∧
 (groupsF I.arcs = groupsF I.arcs ∧ g.2 = g0.2.1) ∧
 outB I.arcs g.1 = outC I.arcs g0.1 g0.2.2 ∧
 (True ∧ True ∧ True) ∧
 I.sup = I.sup ∧
 wA I.arcs g.1 = wA I.arcs g0.1 ∧
 (Twin_a18) ∧
 nilEq Int ∧
 nilEq Arc ∧
 nilEq Int ∧ nilEq Arc ∧ (True ∧ True ∧ True) ∧ I.sup = I.sup ∧ I.arcs = I.arcs ∧ True) ∧
 ∀ (g_1 : Nat × List Value × Nat),
 g_1.fst = g0.fst ∧ g_1.2.fst = g0.2.fst ∧ g_1.2.snd + (1 : Nat) ≤ (grp I.arcs g_1.fst).length →
 (decide ((↑g_1.2.2 : Int) < (↑(Twin_a11 I g_1).length : Int)) = true →
 ((0 : Int) ≤ (↑g_1.2.2 : Int) ∧
 (↑g_1.2.2 : Int) < (↑(Twin_a11 I g_1).length : Int)) ∧
 (↑g_1.2.2 : Int).toNat < (Twin_a11 I g_1).length ∧
 ∀ (x : Int),
 (Twin_a11 I g_1)[(↑g_1.2.2 : Int).toNat]? = some x →
 ((0 : Int) ≤ x ∧ x < (↑I.arcs.length : Int)) ∧
 x.toNat < I.arcs.length ∧
 ∀ (x_4 : Arc),
 I.arcs[x.toNat]? = some x_4 →
 ((0 : Int) ≤ x ∧ x < (↑I.arcs.length : Int)) ∧
 x.toNat < I.arcs.length ∧
 ∀ (x_5 : Arc),
 I.arcs[x.toNat]? = some x_5 →
 ((Twin_a2 x_5 I g_1 x g0 x_4) ∧
 (Twin_a1 x_5 I g_1 x g0 x_4)) ∧
 (Twin_a2 x_5 I g_1 x g0 x_4) ∧
 (Twin_a1 x_5 I g_1 x g0 x_4)) ∧
 (decide ((↑g_1.2.2 : Int) < (↑(Twin_a11 I g_1).length : Int)) = false →
 ((0 : Int) ≤ (grp I.arcs g_1.1).getD (0 : Nat) (0 : Int) ∧
 (grp I.arcs g_1.1).getD (0 : Nat) (0 : Int) < (↑(wA I.arcs g_1.1).length : Int)) ∧
 (Twin_a8 I g_1).toNat < (wA I.arcs g_1.1).length ∧
 ∀ (x : Arc),
 (wA I.arcs g_1.1)[(Twin_a8 I g_1).toNat]? = some x →
 ((capI I.arcs (Twin_a9 g_1 I) = true →
 (Twin_a6 I g_1 x) ∧
 (Twin_a8 I g_1).toNat <
 (Twin_a3 I g_1 x).length ∧
 ∀ (x_4 : Arc),
 (Twin_a3 I g_1 x)[(Twin_a8 I g_1).toNat]? =
 some x_4 →
 ∃ (g' : Nat × List Value),
 g'.fst ≤ (groupsF I.arcs).length ∧
 (groupsF I.arcs).length - g'.fst < (groupsF I.arcs).length - g.fst ∧
 (Twin_a4 I g_1 g') ∧
 (Twin_a14 I g_1 g') ∧
 outC I.arcs g_1.1 g_1.2.2 = outB I.arcs g'.1 ∧
 (True ∧ True ∧ True) ∧
 I.sup = I.sup ∧
 (Twin_a5 I g_1 x).set
 (Twin_a8 I g_1).toNat
 { src := x_4.src, dst := x_4.dst, low := x_4.low, cap := (4611686018427387904 : Int), cost := x_4.cost : Arc } =
 wA I.arcs g'.1 ∧
 (Twin_a7) ∧
 nilEq Int ∧
 nilEq Arc ∧
 nilEq Int ∧
 nilEq Arc ∧
 (True ∧ True ∧ True) ∧
 I.sup = I.sup ∧ I.arcs = I.arcs ∧ True) ∧
 (capI I.arcs (Twin_a9 g_1 I) = false →
 (Twin_a6 I g_1 x) ∧
 (Twin_a8 I g_1).toNat <
 (Twin_a3 I g_1 x).length ∧
 ∀ (x_4 : Arc),
 (Twin_a3 I g_1 x)[(Twin_a8 I g_1).toNat]? =
 some x_4 →
 ∃ (g' : Nat × List Value),
 g'.fst ≤ (groupsF I.arcs).length ∧
 (groupsF I.arcs).length - g'.fst < (groupsF I.arcs).length - g.fst ∧
 (Twin_a4 I g_1 g') ∧
 (Twin_a14 I g_1 g') ∧
 outC I.arcs g_1.1 g_1.2.2 = outB I.arcs g'.1 ∧
 (True ∧ True ∧ True) ∧
 I.sup = I.sup ∧
 (Twin_a5 I g_1 x).set
 (Twin_a8 I g_1).toNat
 { src := x_4.src, dst := x_4.dst, low := x_4.low, cap := if capI I.arcs (Twin_a9 g_1 I) = true then (0 : Int) else capN I.arcs (Twin_a9 g_1 I), cost := x_4.cost : Arc } =
 wA I.arcs g'.1 ∧
 (Twin_a7) ∧
 nilEq Int ∧
 nilEq Arc ∧
 nilEq Int ∧
 nilEq Arc ∧
 (True ∧ True ∧ True) ∧
 I.sup = I.sup ∧ I.arcs = I.arcs ∧ True)) ∧
 (capI I.arcs (Twin_a9 g_1 I) = true →
 (Twin_a6 I g_1 x) ∧
 (Twin_a8 I g_1).toNat <
 (Twin_a3 I g_1 x).length ∧
 ∀ (x_4 : Arc),
 (Twin_a3 I g_1 x)[(Twin_a8 I g_1).toNat]? =
 some x_4 →
 ∃ (g' : Nat × List Value),
 g'.fst ≤ (groupsF I.arcs).length ∧
 (groupsF I.arcs).length - g'.fst < (groupsF I.arcs).length - g.fst ∧
 (Twin_a4 I g_1 g') ∧
 (Twin_a14 I g_1 g') ∧
 outC I.arcs g_1.1 g_1.2.2 = outB I.arcs g'.1 ∧
 (True ∧ True ∧ True) ∧
 I.sup = I.sup ∧
 (Twin_a5 I g_1 x).set
 (Twin_a8 I g_1).toNat
 { src := x_4.src, dst := x_4.dst, low := x_4.low, cap := (4611686018427387904 : Int), cost := x_4.cost : Arc } =
 wA I.arcs g'.1 ∧
 (Twin_a7) ∧
 nilEq Int ∧
 nilEq Arc ∧
 nilEq Int ∧
 nilEq Arc ∧
 (True ∧ True ∧ True) ∧
 I.sup = I.sup ∧ I.arcs = I.arcs ∧ True) ∧
 (capI I.arcs (Twin_a9 g_1 I) = false →
 (Twin_a6 I g_1 x) ∧
 (Twin_a8 I g_1).toNat <
 (Twin_a3 I g_1 x).length ∧
 ∀ (x_4 : Arc),
 (Twin_a3 I g_1 x)[(Twin_a8 I g_1).toNat]? =
 some x_4 →
 ∃ (g' : Nat × List Value),
 g'.fst ≤ (groupsF I.arcs).length ∧
 (groupsF I.arcs).length - g'.fst < (groupsF I.arcs).length - g.fst ∧
 (Twin_a4 I g_1 g') ∧
 (Twin_a14 I g_1 g') ∧
 outC I.arcs g_1.1 g_1.2.2 = outB I.arcs g'.1 ∧
 (True ∧ True ∧ True) ∧
 I.sup = I.sup ∧
 (Twin_a5 I g_1 x).set
 (Twin_a8 I g_1).toNat
 { src := x_4.src, dst := x_4.dst, low := x_4.low, cap := if capI I.arcs (Twin_a9 g_1 I) = true then (0 : Int) else capN I.arcs (Twin_a9 g_1 I), cost := x_4.cost : Arc } =
 wA I.arcs g'.1 ∧
 (Twin_a7) ∧
 nilEq Int ∧
 nilEq Arc ∧
 nilEq Int ∧
 nilEq Arc ∧
 (True ∧ True ∧ True) ∧
 I.sup = I.sup ∧ I.arcs = I.arcs ∧ True)))) ∧
 (decide ((↑g.1 : Int) < (↑(groupsF I.arcs).length : Int)) = false →
 ((!didB I.arcs g.1) = true →
 (Twin_a16 I) ∧
 (((Twin_a13 I) ∧
 (0 : Int) = (twinS I).snd ∧ True) ∧
 True) ∧
 I.sup = (twinS I).fst.inst.sup ∧ I.arcs = (twinS I).fst.inst.arcs ∧ [] = (twinS I).fst.was.sup ∧ [] = (twinS I).fst.was.arcs ∧ True) ∧
 ((!didB I.arcs g.1) = false →
 (I.sup.length ≤ (1000000 : Nat) ∧
 (wA I.arcs g.1).length ≤ (1000000 : Nat) ∧ (0 : Nat) ≤ (1000000 : Nat) ∧ (outB I.arcs g.1).length ≤ (1000000 : Nat)) ∧
 True ∧
 ((rightF (Twin_a12 I g) != (0 : Int)) = true →
 (((Twin_a13 I) ∧
 (40 : Int) = (twinS I).snd ∧ True) ∧
 True) ∧
 [] = (twinS I).fst.inst.sup ∧ [] = (twinS I).fst.inst.arcs ∧ [] = (twinS I).fst.was.sup ∧ [] = (twinS I).fst.was.arcs ∧ True) ∧
 ((rightF (Twin_a12 I g) != (0 : Int)) = false →
 (Twin_a16 I) ∧
 (((True ∧
 True ∧
 (5 : Int) = (twinS I).fst.pass ∧
 True ∧ True ∧ (0 : Int) = (twinS I).fst.off.hi ∧ (0 : Int) = (twinS I).fst.off.lo ∧ true = (twinS I).fst.did ∧ True) ∧
 (0 : Int) = (twinS I).snd ∧ True) ∧
 True) ∧
 (Twin_a12 I g).sup = (twinS I).fst.inst.sup ∧
 (Twin_a12 I g).arcs = (twinS I).fst.inst.arcs ∧
 I.sup = (twinS I).fst.was.sup ∧ I.arcs = (twinS I).fst.was.arcs ∧ True))))
theorem Twin_q (I : Inst) (ty0 ty1 : TypeId) : Twin_E0 I ty0 ty1 = FVcP TT Twin_g (Twin_I I) (Twin_an I) Try.f47 [.agg [.row 0, .row 1]] [(0, .row false ty0 (.ints .i64 I.sup)), (1, .row false ty1 (.arcs I.arcs))] (Twin_r I) := by kernel_rfl
theorem Twin_E (I : Inst) (ty0 ty1 : TypeId) (hp : I.sup.length ≤ 1000000 ∧ I.arcs.length ≤ 1000000) : FVc TT Twin_g (Twin_I I) (Twin_an I) Try.f47 [.agg [.row 0, .row 1]] [(0, .row false ty0 (.ints .i64 I.sup)), (1, .row false ty1 (.arcs I.arcs))] (Twin_r I) := by
  refine FVc.of (Twin_E0 I ty0 ty1) (Twin_q I ty0 ty1) ?_
  unfold Twin_E0
  delta Twin_a18 Twin_a17 Twin_a16 Twin_a15 Twin_a14 Twin_a13 Twin_a12 Twin_a11 Twin_a10 Twin_a9 Twin_a8 Twin_a7 Twin_a6 Twin_a5 Twin_a4 Twin_a3 Twin_a2 Twin_a1 Twin_a0
  obtain ⟨p1, p2⟩ := hp
  simp only [eq_self, exists_const, forall_const, decide_eq_true_eq, decide_eq_false_iff_not, and_true, true_and, bne_iff_ne, ne_eq, bne_eq_false_iff_eq, Int.toNat_natCast, Bool.not_eq_true', Bool.not_eq_false', beq_iff_eq, beq_eq_false_iff_ne, nilEq_true]
  simp only [DK.len]
  have bad : ¬ rightF I = 0 → twinS I = (StepD.none, rightF I) := fun h => by unfold twinS; rw [if_pos h]
  refine ⟨fun h => by rw [bad h]; exact ⟨⟨⟨rfl, rfl, rfl, rfl⟩, rfl⟩, rfl, rfl, rfl, rfl⟩, fun hr => ⟨⟨by omega, by omega⟩, ⟨by omega, by omega⟩, p2, fun V => ⟨(0, V 0), by simp [didB_zero, ← outB_zero, ← wA_zero], fun g hg => ?_⟩⟩⟩
  have hrs := right_small hr
  have hGF : (groupsF I.arcs).length = (firsts I.arcs I.arcs.length).length := groupsTo_len _ _
  have hFl := firsts_len I.arcs I.arcs.length
  obtain ⟨t, vs⟩ := g
  dsimp only at hg ⊢
  have hw : ∀ j : Nat, j ≤ 1000000 → IntKind.i64.wrap ((j : Int) + 1) = ((j + 1 : Nat) : Int) := fun j hj => by rw [w64 (by omega) (by omega)]; omega
  refine ⟨fun h1 => ?_, fun h1 => ?_⟩
  · have htl : t < (groupsF I.arcs).length := by omega
    have hgt : (groupsF I.arcs)[t]? = some (grp I.arcs t) := by unfold grp; rw [List.getD_eq_getElem?_getD, List.getElem?_eq_getElem htl]; rfl
    obtain ⟨p, hp, hpl, hf, he, r, hgr⟩ := grp_at htl
    obtain ⟨a, ha⟩ : ∃ a, I.arcs[p]? = some a := ⟨_, List.getElem?_eq_getElem hpl⟩
    have hda : I.arcs.getD p default = a := by rw [List.getD_eq_getElem?_getD, ha]; rfl
    have hgl := grp_len hr htl
    have hg0 : (grp I.arcs t)[Int.toNat 0]? = some (p : Int) := by rw [hgr]; rfl
    have hgd : (grp I.arcs t).getD 0 0 = (p : Int) := by rw [hgr]; rfl
    have hlen1 : 1 ≤ (grp I.arcs t).length := by rw [hgr]; simp
    have hap : I.arcs[((p : Int)).toNat]? = some a := by simpa using ha
    simp only [hgt, Option.some.injEq, forall_eq', hg0]
    refine ⟨by omega, htl, by omega, by exact hlen1, by omega, by simpa using hpl, ?_⟩
    simp only [Int.toNat_natCast, ha, Option.some.injEq, forall_eq', Int.toNat_one]
    refine ⟨by omega, hpl, fun hc => ?_, fun hc => ?_⟩
    all_goals
      refine ⟨by omega, (t, vs, 0), ?_, fun g1 hq => ?_⟩
      · dsimp only
        have htk1 : (grp I.arcs t).take (0 + 1) = [(p : Int)] := by rw [hgr]; rfl
        rw [List.take_length, htk1]
        have e1 : lowM I.arcs [(p : Int)] = a.low := by unfold lowM gsum; simp only [List.map_cons, List.map_nil, List.sum_cons, List.sum_nil, Int.toNat_natCast, hda, Int.add_zero]
        have e2 : capN I.arcs [(p : Int)] = a.cap := by unfold capN gsum; simp only [List.map_cons, List.map_nil, List.sum_cons, List.sum_nil, Int.toNat_natCast, hda, Int.add_zero]
        have e3 : capI I.arcs [(p : Int)] = decide (a.cap = inf) := by unfold capI; simp only [List.any_cons, List.any_nil, Int.toNat_natCast, hda, Bool.or_false]
        rw [e1, e2, e3, hgd]
        first
          | (rw [decide_eq_true (show a.cap = inf from hc)]
             exact ⟨hlen1, ⟨by simp, rfl, rfl, rfl, rfl, rfl⟩, rfl, ⟨rfl, rfl⟩, rfl, outC_zero _ _, rfl⟩)
          | (rw [decide_eq_false (show ¬ a.cap = inf from hc)]
             exact ⟨hlen1, ⟨by simp, rfl, rfl, rfl, rfl, rfl⟩, rfl, ⟨rfl, rfl⟩, rfl, outC_zero _ _, rfl⟩)
      · obtain ⟨t1, vs1, j⟩ := g1
        dsimp only at hq ⊢
        obtain ⟨rfl, rfl, hj⟩ := hq
        have hdl : ((grp I.arcs t1).drop 1).length = (grp I.arcs t1).length - 1 := List.length_drop
        refine ⟨fun h3 => ⟨by omega, by omega, fun x hx => ?_⟩, fun h3 => ?_⟩
        · have hxm : x ∈ grp I.arcs t1 := List.mem_of_mem_drop (List.mem_of_getElem? hx)
          obtain ⟨hx0, hxl, y, hy, hym⟩ := grp_arc hr htl hxm
          have hdy : I.arcs.getD x.toNat default = y := by rw [List.getD_eq_getElem?_getD, hy]; rfl
          have htk := drop_one_get hx
          have hlow : lowM I.arcs ((grp I.arcs t1).take (j + 2)) = lowM I.arcs ((grp I.arcs t1).take (j + 1)) + y.low := by unfold lowM; rw [htk, gsum_snoc, hdy]
          have hcN : capN I.arcs ((grp I.arcs t1).take (j + 2)) = capN I.arcs ((grp I.arcs t1).take (j + 1)) + y.cap := by unfold capN; rw [htk, gsum_snoc, hdy]
          have hcI : capI I.arcs ((grp I.arcs t1).take (j + 2)) = (capI I.arcs ((grp I.arcs t1).take (j + 1)) || decide (y.cap = inf)) := by rw [htk, capI_snoc, hdy]
          have b2 := lowM_bd hr htl (j + 2)
          have b3 := capN_bd hr htl (j + 2)
          have hwl : IntKind.i64.wrap (lowM I.arcs ((grp I.arcs t1).take (j + 1)) + y.low) = lowM I.arcs ((grp I.arcs t1).take (j + 2)) := by rw [← hlow]; exact w64 (by omega) (by omega)
          simp only [hy, Option.some.injEq, forall_eq']
          rw [hwl]
          have leaf : ∀ (n : Int) (b : Bool), n = (if capI I.arcs ((grp I.arcs t1).take (j + 2)) = true then 0 else capN I.arcs ((grp I.arcs t1).take (j + 2))) → b = capI I.arcs ((grp I.arcs t1).take (j + 2)) →
              ((0 ≤ x ∧ x < ((outC I.arcs t1 j).length : Int)) ∧ x.toNat < (outC I.arcs t1 j).length ∧ ∃ g' : Nat × List Value × Nat, (g'.fst = t1 ∧ g'.snd.fst = vs1 ∧ g'.snd.snd + 1 ≤ (grp I.arcs g'.fst).length) ∧ (grp I.arcs g'.fst).length - g'.snd.snd < (grp I.arcs t1).length - j ∧
                (true = (didB I.arcs g'.fst || decide (0 < g'.snd.snd)) ∧ (t1 : Int) = (g'.fst : Int) ∧ (grp I.arcs t1).getD 0 0 = (grp I.arcs g'.fst).getD 0 0 ∧ lowM I.arcs ((grp I.arcs t1).take (j + 2)) = lowM I.arcs (List.take (g'.snd.snd + 1) (grp I.arcs g'.fst)) ∧
                  (((grp I.arcs t1).drop 1).length : Int) = (((grp I.arcs g'.fst).drop 1).length : Int) ∧ IntKind.i64.wrap ((j : Int) + 1) = (g'.snd.snd : Int)) ∧ List.drop 1 (grp I.arcs t1) = List.drop 1 (grp I.arcs g'.fst) ∧
                ((n = if capI I.arcs (List.take (g'.snd.snd + 1) (grp I.arcs g'.fst)) = true then 0 else capN I.arcs (List.take (g'.snd.snd + 1) (grp I.arcs g'.fst))) ∧ b = capI I.arcs (List.take (g'.snd.snd + 1) (grp I.arcs g'.fst))) ∧
                vs1 = g'.snd.fst ∧ (outC I.arcs t1 j).set x.toNat true = outC I.arcs g'.fst g'.snd.snd ∧ wA I.arcs t1 = wA I.arcs g'.fst) := by
            intro n b hn hb
            exact ⟨⟨hx0, by rw [outC_len]; exact hxl⟩, by rw [outC_len]; omega, (t1, vs1, j + 1), ⟨rfl, rfl, by dsimp only; omega⟩, by dsimp only; omega, ⟨by simp, rfl, rfl, rfl, rfl, hw j (by omega)⟩, rfl, ⟨hn, hb⟩, rfl, outC_succ hx hx0, rfl⟩
          refine ⟨⟨hx0, hxl⟩, by omega, ⟨hx0, hxl⟩, by omega, ?_⟩
          repeat' first | refine leaf _ _ ?_ ?_ | apply And.intro | intro _
          all_goals
            clear leaf
            first
              | (rw [hcI]; simp [inf, *]; done)
              | (have hyq : decide (y.cap = inf) = false := decide_eq_false (show ¬ y.cap = inf from ‹¬ y.cap = 4611686018427387904›)
                 have hk : capI I.arcs ((grp I.arcs t1).take (j + 1)) = true := by assumption
                 rw [hcI, hk, Bool.true_or]; try rfl)
              | (have hyq : decide (y.cap = inf) = false := decide_eq_false (show ¬ y.cap = inf from ‹¬ y.cap = 4611686018427387904›)
                 have e0 : capI I.arcs ((grp I.arcs t1).take (j + 1)) = false := by assumption
                 rw [hcI, e0, hyq]; rfl)
              | (have hyq : decide (y.cap = inf) = false := decide_eq_false (show ¬ y.cap = inf from ‹¬ y.cap = 4611686018427387904›)
                 have e0 : capI I.arcs ((grp I.arcs t1).take (j + 1)) = false := by assumption
                 have e : capI I.arcs ((grp I.arcs t1).take (j + 2)) = false := by rw [hcI, e0, hyq]; rfl
                 have b4 := b3 e
                 rw [e, e0, if_neg (by decide), if_neg (by decide), hcN]
                 exact w64 (by omega) (by omega))
              | (trace_state; sorry)
        · have htl2 : (grp I.arcs t1).take (j + 1) = grp I.arcs t1 := List.take_of_length_le (by omega)
          have hwa := wA_at hp hpl
          rw [hda] at hwa
          have hgs : ∀ z, ((wA I.arcs t1).set p z)[p]? = some z := fun z => List.getElem?_set_self (by rw [wA_len]; exact hpl)
          have hset := wA_succ hp
          have hm : mergedA I.arcs p = { a with low := lowM I.arcs (grp I.arcs t1), cap := capM I.arcs (grp I.arcs t1) } := by unfold mergedA; rw [← he, hda]
          rw [hm] at hset
          have hoc := outC_end htl (j := j) (by omega)
          have hdd := didB_succ htl
          have hdj : decide (0 < j) = decide (1 < (grp I.arcs t1).length) := decide_eq_decide.2 (by omega)
          have hww := hw t1 (by omega)
          simp only [htl2, hgd, Int.toNat_natCast, hwa, Option.some.injEq, forall_eq', hgs, List.length_set, wA_len, List.set_set]
          have e1 : capI I.arcs (grp I.arcs t1) = true → (wA I.arcs t1).set p { src := a.src, dst := a.dst, low := lowM I.arcs (grp I.arcs t1), cap := 4611686018427387904, cost := a.cost } = wA I.arcs (t1 + 1) := fun h => by rw [← hset]; unfold capM; rw [if_pos h]; rfl
          have e2 : capI I.arcs (grp I.arcs t1) = false → (wA I.arcs t1).set p { src := a.src, dst := a.dst, low := lowM I.arcs (grp I.arcs t1), cap := if capI I.arcs (grp I.arcs t1) = true then 0 else capN I.arcs (grp I.arcs t1), cost := a.cost } = wA I.arcs (t1 + 1) := fun h => by rw [← hset]; unfold capM; rw [if_neg (by rw [h]; decide), if_neg (by rw [h]; decide)]
          have leaf : ∀ w : List Arc, w = wA I.arcs (t1 + 1) → ∃ g' : Nat × List Value, g'.fst ≤ (groupsF I.arcs).length ∧ (groupsF I.arcs).length - g'.fst < (groupsF I.arcs).length - t1 ∧ ((didB I.arcs t1 || decide (0 < j)) = didB I.arcs g'.fst ∧ IntKind.i64.wrap ((t1 : Int) + 1) = (g'.fst : Int)) ∧ vs1 = g'.snd ∧ outC I.arcs t1 j = outB I.arcs g'.fst ∧ w = wA I.arcs g'.fst := fun w h => ⟨(t1 + 1, vs1), by dsimp only; omega, by dsimp only; omega, ⟨by dsimp only; rw [hdd, hdj], hww⟩, rfl, hoc, h⟩
          exact ⟨by omega, hpl, ⟨fun h => ⟨by omega, hpl, leaf _ (e1 h)⟩, fun h => ⟨by omega, hpl, leaf _ (e2 h)⟩⟩, fun h => ⟨by omega, hpl, leaf _ (e1 h)⟩, fun h => ⟨by omega, hpl, leaf _ (e2 h)⟩⟩
  · have et : t = (groupsF I.arcs).length := by omega
    subst et
    have hd := didB_end I.arcs
    have hS : twinS I = doneF 5 I (twinI I) ⟨0, 0⟩ (decide ((firsts I.arcs I.arcs.length).length < I.arcs.length)) := by unfold twinS; rw [if_neg (fun h => h hr)]
    have hI : withoutF ⟨I.sup, wA I.arcs (groupsF I.arcs).length⟩ [] (outB I.arcs (groupsF I.arcs).length) = twinI I := by unfold twinI; rw [← hGF]
    rw [hI, hS, ← hd, wA_len, outB_len]
    refine ⟨fun h2 => ⟨⟨by omega, by omega⟩, by rw [doneF_stay h2]; exact ⟨⟨⟨rfl, rfl, rfl, rfl⟩, rfl⟩, rfl, rfl, rfl, rfl⟩⟩, fun h2 => ⟨⟨by omega, by omega, by omega, by omega⟩, fun h3 => by rw [doneF_over h2 h3]; exact ⟨⟨⟨rfl, rfl, rfl, rfl⟩, rfl⟩, rfl, rfl, rfl, rfl⟩, fun h3 => ⟨⟨by omega, by omega⟩, by rw [doneF_done h2 h3]; exact ⟨⟨⟨rfl, rfl, rfl, rfl⟩, rfl⟩, rfl, rfl, rfl, rfl⟩⟩⟩⟩
theorem Twin_ok : SpecOk Try.prog Twin_n true (specOf true Twin_fs) :=
  spec_ok' TT_ok (show GsOk Try.prog Twin_g from gsOk_cons Right_ok (gsOk_cons Copy_ok (gsOk_cons Groups_ok (gsOk_cons limit16_ok (gsOk_cons plus16_ok (gsOk_cons capOf16_ok (gsOk_cons Without_ok (gsOk_nil)))))))) (by kernel_rfl) mixedOrders Try.func47 rfl rfl (by kernel_rfl) (n := 1) (by decide +kernel) (I := Twin_IA) (fun _ _ => isOk_nil) (A := Twin_A)
    (fun args h r hr => by
      unfold Twin_fs at hr
      split at hr
      · rename_i ty0 I_s ty1 I_a; cases hr; refine ⟨rfl, fun hp => ?_⟩; have hE := Twin_E ⟨I_s, I_a⟩ ty0 ty1 hp; exact hE
      · cases hr)
def rboth_E0 (a : Int) (b : Int) : Prop :=
      ((a == (4611686018427387904 : Int)) = true → (((4611686018427387904 : Int) = if a = inf ∨ b = inf then inf else IntKind.i64.wrap (a + b)) ∧ True) ∧ True) ∧
 ((a == (4611686018427387904 : Int)) = false →
 ((b == (4611686018427387904 : Int)) = true → (((4611686018427387904 : Int) = if a = inf ∨ b = inf then inf else IntKind.i64.wrap (a + b)) ∧ True) ∧ True) ∧
 ((b == (4611686018427387904 : Int)) = false → ((IntKind.i64.wrap (a + b) = if a = inf ∨ b = inf then inf else IntKind.i64.wrap (a + b)) ∧ True) ∧ True))
theorem rboth_q (a : Int) (b : Int) : rboth_E0 a b = FVcP TT rboth_g (rboth_I a b) (rboth_an a b) Try.f120 [.int .i64 a, .int .i64 b] [] (rboth_r a b) := by kernel_rfl
theorem rboth_E (a : Int) (b : Int) (hp : True) : FVc TT rboth_g (rboth_I a b) (rboth_an a b) Try.f120 [.int .i64 a, .int .i64 b] [] (rboth_r a b) := by
  refine FVc.of (rboth_E0 a b) (rboth_q a b) ?_
  unfold rboth_E0
  simp only [eq_self, exists_const, forall_const, decide_eq_true_eq, decide_eq_false_iff_not, and_true, true_and, bne_iff_ne, ne_eq, bne_eq_false_iff_eq, Int.toNat_natCast, Bool.not_eq_true', Bool.not_eq_false', beq_iff_eq, beq_eq_false_iff_ne, nilEq_true]
  unfold inf
  refine ⟨fun h => by rw [if_pos (Or.inl h)], fun h1 => ⟨fun h => by rw [if_pos (Or.inr h)], fun h2 => by rw [if_neg (by rintro (h | h); exact h1 h; exact h2 h)]⟩⟩
theorem rboth_ok : SpecOk Try.prog rboth_n true (specOf true rboth_fs) :=
  spec_ok' TT_ok (show GsOk Try.prog rboth_g from gsOk_nil) (by kernel_rfl) mixedOrders Try.func120 rfl rfl (by kernel_rfl) (n := 2) (by decide +kernel) (I := rboth_IA) (fun _ _ => isOk_nil) (A := rboth_A)
    (fun args h r hr => by
      unfold rboth_fs at hr
      split at hr
      · rename_i a b; cases hr; refine ⟨rfl, fun hp => ?_⟩; have hE := rboth_E a b hp; exact hE
      · cases hr)
def rCopy_E0 (I : Inst) (ty0 ty1 : TypeId) : Prop :=
      (0 : Nat) + I.sup.length ≤ (1000000000 : Nat) ∧ (0 : Nat) + I.arcs.length ≤ (1000000000 : Nat) ∧ ((True ∧ True ∧ True) ∧ True) ∧ I.sup = I.sup ∧ I.arcs = I.arcs ∧ True
theorem rCopy_q (I : Inst) (ty0 ty1 : TypeId) : rCopy_E0 I ty0 ty1 = FVcP TT rCopy_g (rCopy_I I) (rCopy_an I) Try.f119 [.agg [.row 0, .row 1]] [(0, .row false ty0 (.ints .i64 I.sup)), (1, .row false ty1 (.arcs I.arcs))] (rCopy_r I) := by kernel_rfl
theorem rCopy_E (I : Inst) (ty0 ty1 : TypeId) (hp : I.sup.length ≤ 1000000 ∧ I.arcs.length ≤ 1000000) : FVc TT rCopy_g (rCopy_I I) (rCopy_an I) Try.f119 [.agg [.row 0, .row 1]] [(0, .row false ty0 (.ints .i64 I.sup)), (1, .row false ty1 (.arcs I.arcs))] (rCopy_r I) := by
  refine FVc.of (rCopy_E0 I ty0 ty1) (rCopy_q I ty0 ty1) ?_
  unfold rCopy_E0
  simp only [eq_self, exists_const, forall_const, decide_eq_true_eq, decide_eq_false_iff_not, and_true, true_and, bne_iff_ne, ne_eq, bne_eq_false_iff_eq, Int.toNat_natCast, Bool.not_eq_true', Bool.not_eq_false', beq_iff_eq, beq_eq_false_iff_ne, nilEq_true]
  exact ⟨by omega, by omega⟩
theorem rCopy_ok : SpecOk Try.prog rCopy_n true (specOf true rCopy_fs) :=
  spec_ok' TT_ok (show GsOk Try.prog rCopy_g from gsOk_nil) (by kernel_rfl) mixedOrders Try.func119 rfl rfl (by kernel_rfl) (n := 1) (by decide +kernel) (I := rCopy_IA) (fun _ _ => isOk_nil) (A := rCopy_A)
    (fun args h r hr => by
      unfold rCopy_fs at hr
      split at hr
      · rename_i ty0 I_s ty1 I_a; cases hr; refine ⟨rfl, fun hp => ?_⟩; have hE := rCopy_E ⟨I_s, I_a⟩ ty0 ty1 hp; exact hE
      · cases hr)
theorem Done15_ok : SpecOk Try.prog Done15_n false Done15_spec :=
  inl_ok TT_ok (show GsOk Try.prog Done15_g from gsOk_cons rRight_ok (gsOk_nil)) (by kernel_rfl) mixedOrders Try.func121 rfl rfl (by kernel_rfl) _
def StepSame_E0 (s : StepD) (t : StepD) (ty0 ty1 ty2 ty3 ty4 ty5 ty6 ty7 : TypeId) : Prop :=
      ((s.did == t.did) = true →
 (decide ([s.off.hi, s.off.lo] = [t.off.hi, t.off.lo]) = true →
 ((s.pass == t.pass) = true →
 (s.inst.sup.length ≤ (1000000000 : Nat) ∧ s.inst.arcs.length ≤ (1000000000 : Nat)) ∧
 (decide (s.inst = t.inst) = true →
 (s.was.sup.length ≤ (1000000000 : Nat) ∧ s.was.arcs.length ≤ (1000000000 : Nat)) ∧ (decide (s.was = t.was) = decide (s = t) ∧ True) ∧ True) ∧
 (decide (s.inst = t.inst) = false → (false = decide (s = t) ∧ True) ∧ True)) ∧
 ((s.pass == t.pass) = false → (false = decide (s = t) ∧ True) ∧ True)) ∧
 (decide ([s.off.hi, s.off.lo] = [t.off.hi, t.off.lo]) = false → (false = decide (s = t) ∧ True) ∧ True)) ∧
 ((s.did == t.did) = false → (false = decide (s = t) ∧ True) ∧ True)
theorem StepSame_q (s : StepD) (t : StepD) (ty0 ty1 ty2 ty3 ty4 ty5 ty6 ty7 : TypeId) : StepSame_E0 s t ty0 ty1 ty2 ty3 ty4 ty5 ty6 ty7 = FVcP TT StepSame_g (StepSame_I s t) (StepSame_an s t) Try.f78 [.agg [.row 0, .row 1, .int .i64 s.pass, .row 2, .row 3, .int .i64 s.off.hi, .int .u64 s.off.lo, .bool s.did], .agg [.row 4, .row 5, .int .i64 t.pass, .row 6, .row 7, .int .i64 t.off.hi, .int .u64 t.off.lo, .bool t.did]] [(0, .row false ty0 (.ints .i64 s.inst.sup)), (1, .row false ty1 (.arcs s.inst.arcs)), (2, .row false ty2 (.ints .i64 s.was.sup)), (3, .row false ty3 (.arcs s.was.arcs)), (4, .row false ty4 (.ints .i64 t.inst.sup)), (5, .row false ty5 (.arcs t.inst.arcs)), (6, .row false ty6 (.ints .i64 t.was.sup)), (7, .row false ty7 (.arcs t.was.arcs))] (StepSame_r s t) := by kernel_rfl
theorem StepSame_E (s : StepD) (t : StepD) (ty0 ty1 ty2 ty3 ty4 ty5 ty6 ty7 : TypeId) (hp : StepSmall s ∧ StepSmall t) : FVc TT StepSame_g (StepSame_I s t) (StepSame_an s t) Try.f78 [.agg [.row 0, .row 1, .int .i64 s.pass, .row 2, .row 3, .int .i64 s.off.hi, .int .u64 s.off.lo, .bool s.did], .agg [.row 4, .row 5, .int .i64 t.pass, .row 6, .row 7, .int .i64 t.off.hi, .int .u64 t.off.lo, .bool t.did]] [(0, .row false ty0 (.ints .i64 s.inst.sup)), (1, .row false ty1 (.arcs s.inst.arcs)), (2, .row false ty2 (.ints .i64 s.was.sup)), (3, .row false ty3 (.arcs s.was.arcs)), (4, .row false ty4 (.ints .i64 t.inst.sup)), (5, .row false ty5 (.arcs t.inst.arcs)), (6, .row false ty6 (.ints .i64 t.was.sup)), (7, .row false ty7 (.arcs t.was.arcs))] (StepSame_r s t) := by
  refine FVc.of (StepSame_E0 s t ty0 ty1 ty2 ty3 ty4 ty5 ty6 ty7) (StepSame_q s t ty0 ty1 ty2 ty3 ty4 ty5 ty6 ty7) ?_
  unfold StepSame_E0
  simp only [eq_self, exists_const, forall_const, decide_eq_true_eq, decide_eq_false_iff_not, and_true, true_and, bne_iff_ne, ne_eq, bne_eq_false_iff_eq, Int.toNat_natCast, Bool.not_eq_true', Bool.not_eq_false', beq_iff_eq, beq_eq_false_iff_ne, nilEq_true]
  obtain ⟨⟨a1, a2, a3, a4⟩, b1, b2, b3, b4⟩ := hp
  refine ⟨fun h0 => ⟨fun h1 => ⟨fun h2 => ⟨⟨by omega, by omega⟩, fun h3 => ⟨⟨by omega, by omega⟩, ?_⟩, fun h3 => ?_⟩, fun h2 => ?_⟩, fun h1 => ?_⟩, fun h0 => ?_⟩
  · exact decide_eq_decide.2 ⟨fun e => stepD_ext.2 ⟨h0, h1, h2, h3, e⟩, fun e => by rw [e]⟩
  · exact (decide_eq_false fun e => h3 (by rw [e])).symm
  · exact (decide_eq_false fun e => h2 (by rw [e])).symm
  · exact (decide_eq_false fun e => h1 (by rw [e])).symm
  · exact (decide_eq_false fun e => h0 (by rw [e])).symm
theorem StepSame_ok : SpecOk Try.prog StepSame_n true (specOf true StepSame_fs) :=
  spec_ok' TT_ok (show GsOk Try.prog StepSame_g from gsOk_cons rSame_ok (gsOk_nil)) (by kernel_rfl) mixedOrders Try.func78 rfl rfl (by kernel_rfl) (n := 2) (by decide +kernel) (I := StepSame_IA) (fun _ _ => isOk_nil) (A := StepSame_A)
    (fun args h r hr => by
      unfold StepSame_fs at hr
      split at hr
      · rename_i s_p s_h s_l s_d t_p t_h t_l t_d ty0 s_s ty1 s_a ty2 s_t ty3 s_b ty4 t_s ty5 t_a ty6 t_t ty7 t_b; cases hr; refine ⟨rfl, fun hp => ?_⟩; have hE := StepSame_E ⟨⟨s_s, s_a⟩, s_p, ⟨s_t, s_b⟩, ⟨s_h, s_l⟩, s_d⟩ ⟨⟨t_s, t_a⟩, t_p, ⟨t_t, t_b⟩, ⟨t_h, t_l⟩, t_d⟩ ty0 ty1 ty2 ty3 ty4 ty5 ty6 ty7 hp; exact hE
      · cases hr)
abbrev rTwin_a0 (I : Inst) (g : Nat × List Value) := ((!decide ((↑(DK.ints IntKind.i64 (groupsF I.arcs)).len : Int) < (↑I.arcs.length : Int))) = false →
 True ∧
 ((rightF (withoutF { sup := I.sup, arcs := wA I.arcs g.1 : Inst } [] (outB I.arcs g.1)) != (0 : Int)) = true →
 (((True ∧
 True ∧
 (0 : Int) = (twinS I).fst.pass ∧
 True ∧ True ∧ (0 : Int) = (twinS I).fst.off.hi ∧ (0 : Int) = (twinS I).fst.off.lo ∧ false = (twinS I).fst.did ∧ True) ∧
 (40 : Int) = (twinS I).snd ∧ True) ∧
 True) ∧
 [] = (twinS I).fst.inst.sup ∧ [] = (twinS I).fst.inst.arcs ∧ [] = (twinS I).fst.was.sup ∧ [] = (twinS I).fst.was.arcs ∧ True) ∧
 ((rightF (withoutF { sup := I.sup, arcs := wA I.arcs g.1 : Inst } [] (outB I.arcs g.1)) != (0 : Int)) = false →
 (((True ∧
 True ∧
 (5 : Int) = (twinS I).fst.pass ∧
 True ∧ True ∧ (0 : Int) = (twinS I).fst.off.hi ∧ (0 : Int) = (twinS I).fst.off.lo ∧ true = (twinS I).fst.did ∧ True) ∧
 (0 : Int) = (twinS I).snd ∧ True) ∧
 True) ∧
 (withoutF { sup := I.sup, arcs := wA I.arcs g.1 : Inst } [] (outB I.arcs g.1)).sup = (twinS I).fst.inst.sup ∧
 (withoutF { sup := I.sup, arcs := wA I.arcs g.1 : Inst } [] (outB I.arcs g.1)).arcs = (twinS I).fst.inst.arcs ∧
 I.sup = (twinS I).fst.was.sup ∧ I.arcs = (twinS I).fst.was.arcs ∧ True))
abbrev rTwin_a1 (I : Inst) := ((!decide ((↑(DK.ints IntKind.i64 (groupsF I.arcs)).len : Int) < (↑I.arcs.length : Int))) = true →
 (((True ∧
 True ∧
 (0 : Int) = (twinS I).fst.pass ∧
 True ∧ True ∧ (0 : Int) = (twinS I).fst.off.hi ∧ (0 : Int) = (twinS I).fst.off.lo ∧ false = (twinS I).fst.did ∧ True) ∧
 (0 : Int) = (twinS I).snd ∧ True) ∧
 True) ∧
 I.sup = (twinS I).fst.inst.sup ∧ I.arcs = (twinS I).fst.inst.arcs ∧ [] = (twinS I).fst.was.sup ∧ [] = (twinS I).fst.was.arcs ∧ True)
abbrev rTwin_a2 (I : Inst) (g_1 : Nat × List Value × Nat) (x_4 : Arc) (x : Arc) (x_3 : Arc) := ((wB I.arcs g_1.1 g_1.2.2).set
 ((grp I.arcs g_1.1).getD (0 : Nat)
 (0 : Int)).toNat
 { src := x_4.src, dst := x_4.dst, low := IntKind.i64.wrap (x.low + x_3.low), cap := x_4.cap, cost := x_4.cost : Arc })
abbrev rTwin_a3 (I : Inst) (g_1 : Nat × List Value × Nat) (x_4 : Arc) (x : Arc) (x_3 : Arc) := ((wB I.arcs g_1.1 g_1.2.2).set
 ((grp I.arcs g_1.1).getD (0 : Nat) (0 : Int)).toNat
 { src := x_4.src, dst := x_4.dst, low := IntKind.i64.wrap (x.low + x_3.low), cap := x_4.cap, cost := x_4.cost : Arc })
abbrev rTwin_a4 (I : Inst) := (↑(DK.ints IntKind.i64 (groupsF I.arcs)).len : Int)
abbrev rTwin_a5 (I : Inst) (g_1 : Nat × List Value × Nat) := ((grp I.arcs g_1.1).getD (0 : Nat) (0 : Int))
abbrev rTwin_a6 := (True ∧ True ∧ (0 : Int) = (0 : Int) ∧ True ∧ True ∧ (0 : Int) = (0 : Int) ∧ (0 : Int) = (0 : Int) ∧ True ∧ True)
def rTwin_E0 (I : Inst) (ty0 ty1 : TypeId) : Prop :=
      True ∧
 ((rightF I != (0 : Int)) = true →
 (((True ∧ True ∧ (0 : Int) = (twinS I).fst.pass ∧ True ∧ True ∧ (0 : Int) = (twinS I).fst.off.hi ∧ (0 : Int) = (twinS I).fst.off.lo ∧ false = (twinS I).fst.did ∧ True) ∧
 rightF I = (twinS I).snd ∧ True) ∧
 True) ∧
 [] = (twinS I).fst.inst.sup ∧ [] = (twinS I).fst.inst.arcs ∧ [] = (twinS I).fst.was.sup ∧ [] = (twinS I).fst.was.arcs ∧ True) ∧
 ((rightF I != (0 : Int)) = false →
 I.arcs.length ≤ (1000000 : Nat) ∧
 ∀ (V : Nat → List Value),
 (I.sup.length ≤ (1000000 : Nat) ∧ I.arcs.length ≤ (1000000 : Nat)) ∧
 ((↑I.arcs.length : Int) = (↑I.arcs.length : Int) ∧ (0 : Int) ≤ (↑I.arcs.length : Int) ∧ (↑I.arcs.length : Int) ≤ (1000000000 : Int)) ∧
 ∃ (g0 : Nat × List Value),
 (g0.fst ≤ (groupsF I.arcs).length ∧
 ((0 : Nat) = (0 : Nat) ∧ (0 : Nat) = (0 : Nat) ∧ True ∧ (0 : Nat) = (0 : Nat) ∧ True ∧ (0 : Int) = (↑g0.1 : Int) ∧ True) ∧
 List.replicate (↑I.arcs.length : Int).toNat false = outB I.arcs g0.1 ∧
 (True ∧ True ∧ True) ∧
 I.sup = I.sup ∧
 I.arcs = wA I.arcs g0.1 ∧
 (groupsF I.arcs = groupsF I.arcs ∧ V (0 : Nat) = g0.2 ∧ (none : Option Nat) = none) ∧
 (rTwin_a6) ∧
 nilEq Int ∧ nilEq Arc ∧ nilEq Int ∧ nilEq Arc ∧ (True ∧ True ∧ True) ∧ I.sup = I.sup ∧ I.arcs = I.arcs ∧ True) ∧
 ∀ (g : Nat × List Value),
 g.fst ≤ (groupsF I.arcs).length →
 (decide ((↑g.1 : Int) < (rTwin_a4 I)) = true →
 ((0 : Int) ≤ (↑g.1 : Int) ∧ (↑g.1 : Int) < (rTwin_a4 I)) ∧
 (↑g.1 : Int).toNat < (groupsF I.arcs).length ∧
 ∀ (x : List Int),
 (groupsF I.arcs)[(↑g.1 : Int).toNat]? = some x →
 ((0 : Int) ≤ (0 : Int) ∧ (0 : Int) < (↑x.length : Int)) ∧
 Int.toNat (0 : Int) < x.length ∧
 ∀ (x_1 : Int),
 x[Int.toNat (0 : Int)]? = some x_1 →
 ∃ (g0 : Nat × List Value × Nat),
 ((g0.fst = g0.fst ∧ g0.2.fst = g0.2.fst ∧ (1 : Nat) ≤ g0.2.snd ∧ g0.2.snd ≤ (grp I.arcs g0.fst).length) ∧
 ((0 : Nat) = (0 : Nat) ∧
 (0 : Nat) = (0 : Nat) ∧
 True ∧
 (0 : Nat) = (0 : Nat) ∧
 True ∧
 (↑g.1 : Int) = (↑g0.1 : Int) ∧ x_1 = (grp I.arcs g0.1).getD (0 : Nat) (0 : Int) ∧ (1 : Int) = (↑g0.2.2 : Int) ∧ True) ∧
 outB I.arcs g.1 = outC I.arcs g0.1 (g0.2.2 - (1 : Nat)) ∧
 (True ∧ True ∧ True) ∧
 I.sup = I.sup ∧
 wA I.arcs g.1 = wB I.arcs g0.1 g0.2.2 ∧
 (groupsF I.arcs = groupsF I.arcs ∧ g.2 = g0.2.1) ∧
 (rTwin_a6) ∧
 nilEq Int ∧ nilEq Arc ∧ nilEq Int ∧ nilEq Arc ∧ (True ∧ True ∧ True) ∧ I.sup = I.sup ∧ I.arcs = I.arcs ∧ True) ∧
 ∀ (g_1 : Nat × List Value × Nat),
 g_1.fst = g0.fst ∧ g_1.2.fst = g0.2.fst ∧ (1 : Nat) ≤ g_1.2.snd ∧ g_1.2.snd ≤ (grp I.arcs g_1.fst).length →
 ((0 : Int) ≤ (↑g_1.1 : Int) ∧ (↑g_1.1 : Int) < (rTwin_a4 I)) ∧
 (↑g_1.1 : Int).toNat < (groupsF I.arcs).length ∧
 ∀ (x : List Int),
 (groupsF I.arcs)[(↑g_1.1 : Int).toNat]? = some x →
 (decide ((↑g_1.2.2 : Int) < (↑x.length : Int)) = true →
 ((0 : Int) ≤ (↑g_1.1 : Int) ∧ (↑g_1.1 : Int) < (rTwin_a4 I)) ∧
 (↑g_1.1 : Int).toNat < (groupsF I.arcs).length ∧
 ∀ (x : List Int),
 (groupsF I.arcs)[(↑g_1.1 : Int).toNat]? = some x →
 ((0 : Int) ≤ (↑g_1.2.2 : Int) ∧ (↑g_1.2.2 : Int) < (↑x.length : Int)) ∧
 (↑g_1.2.2 : Int).toNat < x.length ∧
 ∀ (x_2 : Int),
 x[(↑g_1.2.2 : Int).toNat]? = some x_2 →
 ((0 : Int) ≤ (grp I.arcs g_1.1).getD (0 : Nat) (0 : Int) ∧
 (grp I.arcs g_1.1).getD (0 : Nat) (0 : Int) < (↑(wB I.arcs g_1.1 g_1.2.2).length : Int)) ∧
 (rTwin_a5 I g_1).toNat < (wB I.arcs g_1.1 g_1.2.2).length ∧
 ∀ (x : Arc),
 (wB I.arcs g_1.1 g_1.2.2)[(rTwin_a5 I g_1).toNat]? = some x →
 ((0 : Int) ≤ x_2 ∧ x_2 < (↑I.arcs.length : Int)) ∧
 x_2.toNat < I.arcs.length ∧
 ∀ (x_3 : Arc),
 I.arcs[x_2.toNat]? = some x_3 →
 ((0 : Int) ≤ (grp I.arcs g_1.1).getD (0 : Nat) (0 : Int) ∧
 (grp I.arcs g_1.1).getD (0 : Nat) (0 : Int) <
 (↑(wB I.arcs g_1.1 g_1.2.2).length : Int)) ∧
 (rTwin_a5 I g_1).toNat <
 (wB I.arcs g_1.1 g_1.2.2).length ∧
 ∀ (x_4 : Arc),
 (wB I.arcs g_1.1
 g_1.2.2)[(rTwin_a5 I g_1).toNat]? =
 some x_4 →
 ((0 : Int) ≤ (grp I.arcs g_1.1).getD (0 : Nat) (0 : Int) ∧
 (grp I.arcs g_1.1).getD (0 : Nat) (0 : Int) <
 (↑(rTwin_a3 I g_1 x_4 x x_3).length :
 Int)) ∧
 (rTwin_a5 I g_1).toNat <
 (rTwin_a3 I g_1 x_4 x x_3).length ∧
 ∀ (x_5 : Arc),
 (rTwin_a3 I g_1 x_4 x x_3)[(rTwin_a5 I g_1).toNat]? =
 some x_5 →
 ((0 : Int) ≤ x_2 ∧ x_2 < (↑I.arcs.length : Int)) ∧
 x_2.toNat < I.arcs.length ∧
 ∀ (x_6 : Arc),
 I.arcs[x_2.toNat]? = some x_6 →
 True ∧
 ((0 : Int) ≤ (grp I.arcs g_1.1).getD (0 : Nat) (0 : Int) ∧
 (grp I.arcs g_1.1).getD (0 : Nat) (0 : Int) <
 (↑(rTwin_a2 I g_1 x_4 x x_3).length :
 Int)) ∧
 (rTwin_a5 I g_1).toNat <
 (rTwin_a2 I g_1 x_4 x x_3).length ∧
 ∀ (x_7 : Arc),
 (rTwin_a2 I g_1 x_4 x x_3)[((grp I.arcs g_1.1).getD (0 : Nat)
 (0 : Int)).toNat]? =
 some x_7 →
 ((0 : Int) ≤ x_2 ∧
 x_2 <
 (↑(outC I.arcs g_1.1
 (g_1.2.2 - (1 : Nat))).length :
 Int)) ∧
 x_2.toNat <
 (outC I.arcs g_1.1
 (g_1.2.2 - (1 : Nat))).length ∧
 ∃ (g' : Nat × List Value × Nat),
 (g'.fst = g0.fst ∧
 g'.2.fst = g0.2.fst ∧
 (1 : Nat) ≤ g'.2.snd ∧
 g'.2.snd ≤
 (grp I.arcs g'.fst).length) ∧
 (grp I.arcs g'.fst).length - g'.2.snd <
 (grp I.arcs g_1.fst).length -
 g_1.2.snd ∧
 ((0 : Nat) = (0 : Nat) ∧
 (0 : Nat) = (0 : Nat) ∧
 True ∧
 (0 : Nat) = (0 : Nat) ∧
 True ∧
 (↑g_1.1 : Int) =
 (↑g'.1 : Int) ∧
 (grp I.arcs g_1.1).getD
 (0 : Nat) (0 : Int) =
 (grp I.arcs g'.1).getD
 (0 : Nat) (0 : Int) ∧
 IntKind.i64.wrap
 ((↑g_1.2.2 : Int) +
 (1 : Int)) =
 (↑g'.2.2 : Int) ∧
 True) ∧
 (outC I.arcs g_1.1
 (g_1.2.2 - (1 : Nat))).set
 x_2.toNat true =
 outC I.arcs g'.1
 (g'.2.2 - (1 : Nat)) ∧
 (True ∧ True ∧ True) ∧
 I.sup = I.sup ∧
 ((wB I.arcs g_1.1 g_1.2.2).set
 ((grp I.arcs g_1.1).getD
 (0 : Nat)
 (0 : Int)).toNat
 { src := x_4.src, dst := x_4.dst, low := IntKind.i64.wrap (x.low + x_3.low), cap := x_4.cap, cost := x_4.cost : Arc }).set
 ((grp I.arcs g_1.1).getD
 (0 : Nat)
 (0 : Int)).toNat
 { src := x_7.src, dst := x_7.dst, low := x_7.low, cap := if x_5.cap = inf ∨ x_6.cap = inf then inf else IntKind.i64.wrap (x_5.cap + x_6.cap), cost := x_7.cost : Arc } =
 wB I.arcs g'.1 g'.2.2 ∧
 (groupsF I.arcs =
 groupsF I.arcs ∧
 g_1.2.1 = g'.2.1) ∧
 (True ∧
 True ∧
 (0 : Int) = (0 : Int) ∧
 True ∧
 True ∧
 (0 : Int) =
 (0 : Int) ∧
 (0 : Int) =
 (0 : Int) ∧
 True ∧ True) ∧
 nilEq Int ∧
 nilEq Arc ∧
 nilEq Int ∧
 nilEq Arc ∧
 (True ∧
 True ∧ True) ∧
 I.sup = I.sup ∧
 I.arcs =
 I.arcs ∧
 True) ∧
 (decide ((↑g_1.2.2 : Int) < (↑x.length : Int)) = false →
 ∃ (g' : Nat × List Value),
 g'.fst ≤ (groupsF I.arcs).length ∧
 (groupsF I.arcs).length - g'.fst < (groupsF I.arcs).length - g.fst ∧
 ((0 : Nat) = (0 : Nat) ∧
 (0 : Nat) = (0 : Nat) ∧
 True ∧
 (0 : Nat) = (0 : Nat) ∧ True ∧ IntKind.i64.wrap ((↑g_1.1 : Int) + (1 : Int)) = (↑g'.1 : Int) ∧ True) ∧
 outC I.arcs g_1.1 (g_1.2.2 - (1 : Nat)) = outB I.arcs g'.1 ∧
 (True ∧ True ∧ True) ∧
 I.sup = I.sup ∧
 wB I.arcs g_1.1 g_1.2.2 = wA I.arcs g'.1 ∧
 (groupsF I.arcs = groupsF I.arcs ∧ g_1.2.1 = g'.2) ∧
 (True ∧
 True ∧
 (0 : Int) = (0 : Int) ∧
 True ∧ True ∧ (0 : Int) = (0 : Int) ∧ (0 : Int) = (0 : Int) ∧ True ∧ True) ∧
 nilEq Int ∧
 nilEq Arc ∧
 nilEq Int ∧ nilEq Arc ∧ (True ∧ True ∧ True) ∧ I.sup = I.sup ∧ I.arcs = I.arcs ∧ True)) ∧
 (decide ((↑g.1 : Int) < (rTwin_a4 I)) = false →
 ((I.sup.length ≤ (1000000 : Nat) ∧ (wA I.arcs g.1).length ≤ (1000000 : Nat)) ∧
 ((rTwin_a1 I) ∧
 (rTwin_a0 I g)) ∧
 (rTwin_a1 I) ∧
 (rTwin_a0 I g)) ∧
 (I.sup.length ≤ (1000000 : Nat) ∧ (wA I.arcs g.1).length ≤ (1000000 : Nat)) ∧
 (rTwin_a1 I) ∧
 (rTwin_a0 I g)))
theorem rTwin_q (I : Inst) (ty0 ty1 : TypeId) : rTwin_E0 I ty0 ty1 = FVcP TT rTwin_g (rTwin_I I) (rTwin_an I) Try.f77 [.agg [.row 0, .row 1]] [(0, .row false ty0 (.ints .i64 I.sup)), (1, .row false ty1 (.arcs I.arcs))] (rTwin_r I) := by kernel_rfl
theorem rTwin_E (I : Inst) (ty0 ty1 : TypeId) (hp : I.sup.length ≤ 1000000 ∧ I.arcs.length ≤ 1000000) : FVc TT rTwin_g (rTwin_I I) (rTwin_an I) Try.f77 [.agg [.row 0, .row 1]] [(0, .row false ty0 (.ints .i64 I.sup)), (1, .row false ty1 (.arcs I.arcs))] (rTwin_r I) := by
  refine FVc.of (rTwin_E0 I ty0 ty1) (rTwin_q I ty0 ty1) ?_
  unfold rTwin_E0
  delta rTwin_a6 rTwin_a5 rTwin_a4 rTwin_a3 rTwin_a2 rTwin_a1 rTwin_a0
  obtain ⟨p1, p2⟩ := hp
  simp only [eq_self, exists_const, forall_const, decide_eq_true_eq, decide_eq_false_iff_not, and_true, true_and, bne_iff_ne, ne_eq, bne_eq_false_iff_eq, Int.toNat_natCast, Bool.not_eq_true', Bool.not_eq_false', beq_iff_eq, beq_eq_false_iff_ne, nilEq_true]
  simp only [DK.len]
  have bad : ¬ rightF I = 0 → twinS I = (StepD.none, rightF I) := fun h => by unfold twinS; rw [if_pos h]
  refine ⟨fun h => by rw [bad h]; exact ⟨⟨⟨rfl, rfl, rfl, rfl⟩, rfl⟩, rfl, rfl, rfl, rfl⟩, fun hr => ⟨p2, fun V => ⟨⟨p1, p2⟩, by omega, (0, V 0), by simp [← outB_zero, ← wA_zero], fun g hg => ?_⟩⟩⟩
  have hrs := right_small hr
  have hGF : (groupsF I.arcs).length = (firsts I.arcs I.arcs.length).length := groupsTo_len _ _
  have hFl := firsts_len I.arcs I.arcs.length
  obtain ⟨t, vs⟩ := g
  dsimp only at hg ⊢
  have hw : ∀ j : Nat, j ≤ 1000000 → IntKind.i64.wrap ((j : Int) + 1) = ((j + 1 : Nat) : Int) := fun j hj => by rw [w64 (by omega) (by omega)]; omega
  refine ⟨fun h1 => ?_, fun h1 => ?_⟩
  · have htl : t < (groupsF I.arcs).length := by omega
    have hgt : (groupsF I.arcs)[t]? = some (grp I.arcs t) := by unfold grp; rw [List.getD_eq_getElem?_getD, List.getElem?_eq_getElem htl]; rfl
    obtain ⟨p, hp, hpl, hf, he, r, hgr⟩ := grp_at htl
    obtain ⟨a, ha⟩ : ∃ a, I.arcs[p]? = some a := ⟨_, List.getElem?_eq_getElem hpl⟩
    have hda : I.arcs.getD p default = a := by rw [List.getD_eq_getElem?_getD, ha]; rfl
    have hgl := grp_len hr htl
    have hg0 : (grp I.arcs t)[Int.toNat 0]? = some (p : Int) := by rw [hgr]; rfl
    have hgd : (grp I.arcs t).getD 0 0 = (p : Int) := by rw [hgr]; rfl
    have hlen1 : 1 ≤ (grp I.arcs t).length := by rw [hgr]; simp
    simp only [hgt, Option.some.injEq, forall_eq', hg0]
    have wB_at : ∀ j, (wB I.arcs t j)[p]? = some ⟨a.src, a.dst, lowM I.arcs ((grp I.arcs t).take j), capM I.arcs ((grp I.arcs t).take j), a.cost⟩ := fun j => by
      unfold wB; rw [hgd, Int.toNat_natCast, hda]; exact List.getElem?_set_self (by rw [wA_len]; exact hpl)
    have wB_set : ∀ j l c, (wB I.arcs t j).set p ⟨a.src, a.dst, l, c, a.cost⟩ = (wA I.arcs t).set p ⟨a.src, a.dst, l, c, a.cost⟩ := fun j l c => by
      unfold wB; rw [hgd, Int.toNat_natCast, List.set_set]
    have wB_is : ∀ j, wB I.arcs t j = (wA I.arcs t).set p ⟨a.src, a.dst, lowM I.arcs ((grp I.arcs t).take j), capM I.arcs ((grp I.arcs t).take j), a.cost⟩ := fun j => by
      unfold wB; rw [hgd, Int.toNat_natCast, hda]
    have wB_len : ∀ j, (wB I.arcs t j).length = I.arcs.length := fun j => by rw [wB_is, List.length_set, wA_len]
    have hgs : ∀ j z, ((wB I.arcs t j).set p z)[p]? = some z := fun j z => List.getElem?_set_self (by rw [wB_len]; exact hpl)
    have hwa := wA_at hp hpl
    rw [hda] at hwa
    have htk1 : (grp I.arcs t).take 1 = [(p : Int)] := by rw [hgr]; rfl
    have e1 : lowM I.arcs [(p : Int)] = a.low := by unfold lowM gsum; simp only [List.map_cons, List.map_nil, List.sum_cons, List.sum_nil, Int.toNat_natCast, hda, Int.add_zero]
    have e2 : capM I.arcs [(p : Int)] = a.cap := by
      unfold capM capI capN gsum; simp only [List.any_cons, List.any_nil, List.map_cons, List.map_nil, List.sum_cons, List.sum_nil, Int.toNat_natCast, hda, Int.add_zero, Bool.or_false, decide_eq_true_eq]
      split <;> simp [*]
    have hB1 : wA I.arcs t = wB I.arcs t 1 := by
      rw [wB_is, htk1, e1, e2]
      obtain ⟨hl, hv⟩ := List.getElem?_eq_some_iff.1 hwa
      exact (by rw [← hv]; exact (List.set_getElem_self hl).symm)
    refine ⟨by omega, htl, by omega, by exact hlen1, (t, vs, 1), ⟨⟨Nat.le_refl _, hlen1⟩, ⟨rfl, hgd.symm, rfl⟩, outC_zero _ _, hB1, rfl⟩, fun g1 hq => ?_⟩
    obtain ⟨t1, vs1, j⟩ := g1
    dsimp only at hq ⊢
    obtain ⟨rfl, rfl, hj1, hj⟩ := hq
    refine ⟨by omega, htl, ?_⟩
    simp only [hgt, Option.some.injEq, forall_eq', hgd, Int.toNat_natCast, wB_at, hgs, List.length_set, wB_len, List.set_set, outC_len]
    refine ⟨fun h3 => ⟨by omega, htl, by omega, by omega, fun x hx => ?_⟩, fun h3 => ?_⟩
    · have hxm : x ∈ grp I.arcs t1 := List.mem_of_getElem? hx
      obtain ⟨hx0, hxl, y, hy, hym⟩ := grp_arc hr htl hxm
      simp only [hy, Option.some.injEq, forall_eq']
      obtain ⟨k, rfl⟩ : ∃ k, j = k + 1 := ⟨j - 1, by omega⟩
      have htk : (grp I.arcs t1).take (k + 1 + 1) = (grp I.arcs t1).take (k + 1) ++ [x] := by rw [List.take_succ (i := k + 1), hx]; rfl
      have hdy : I.arcs.getD x.toNat default = y := by rw [List.getD_eq_getElem?_getD, hy]; rfl
      have hlow : lowM I.arcs ((grp I.arcs t1).take (k + 1 + 1)) = lowM I.arcs ((grp I.arcs t1).take (k + 1)) + y.low := by unfold lowM; rw [htk, gsum_snoc, hdy]
      have hcN : capN I.arcs ((grp I.arcs t1).take (k + 1 + 1)) = capN I.arcs ((grp I.arcs t1).take (k + 1)) + y.cap := by unfold capN; rw [htk, gsum_snoc, hdy]
      have hcI : capI I.arcs ((grp I.arcs t1).take (k + 1 + 1)) = (capI I.arcs ((grp I.arcs t1).take (k + 1)) || decide (y.cap = inf)) := by rw [htk, capI_snoc, hdy]
      have b2 := lowM_bd hr htl (k + 1 + 1)
      have b3 := capN_bd hr htl (k + 1 + 1)
      have b4 := capN_bd hr htl (k + 1)
      have hwl : IntKind.i64.wrap (lowM I.arcs ((grp I.arcs t1).take (k + 1)) + y.low) = lowM I.arcs ((grp I.arcs t1).take (k + 1 + 1)) := by rw [← hlow]; exact w64 (by omega) (by omega)
      have hcap : (if capM I.arcs ((grp I.arcs t1).take (k + 1)) = inf ∨ y.cap = inf then inf else IntKind.i64.wrap (capM I.arcs ((grp I.arcs t1).take (k + 1)) + y.cap)) = capM I.arcs ((grp I.arcs t1).take (k + 1 + 1)) := by
        unfold capM
        rw [hcI]
        by_cases q1 : y.cap = inf
        · rw [if_pos (Or.inr q1), decide_eq_true q1, Bool.or_true, if_pos rfl]
        · rw [decide_eq_false q1, Bool.or_false]
          cases q2 : capI I.arcs ((grp I.arcs t1).take (k + 1))
          · have b5 := b4 q2
            have b6 := b3 (by rw [hcI, q2, decide_eq_false q1]; rfl)
            rw [if_neg Bool.false_ne_true, if_neg (by unfold inf at q1 ⊢; omega), hcN]
            exact w64 (by omega) (by omega)
          · rw [if_pos rfl, if_pos (Or.inl rfl), if_pos rfl]
      rw [hwl, hcap, wB_set, ← wB_is]
      have hxd : ((grp I.arcs t1).drop 1)[k]? = some x := by rw [List.getElem?_drop, Nat.add_comm]; exact hx
      refine ⟨by omega, hpl, ⟨hx0, hxl⟩, by omega, by omega, hpl, by omega, hpl, ⟨hx0, hxl⟩, by omega, by omega, hpl, ⟨hx0, hxl⟩, by omega, (t1, vs1, k + 1 + 1), ⟨rfl, rfl, by dsimp only; omega, by dsimp only; omega⟩, by dsimp only; omega, ⟨rfl, hgd.symm, hw (k + 1) (by omega)⟩, outC_succ hxd hx0, rfl, rfl⟩
    · have htl2 : (grp I.arcs t1).take j = grp I.arcs t1 := List.take_of_length_le (by omega)
      have hdl : ((grp I.arcs t1).drop 1).length = (grp I.arcs t1).length - 1 := List.length_drop
      have hm : mergedA I.arcs p = { a with low := lowM I.arcs (grp I.arcs t1), cap := capM I.arcs (grp I.arcs t1) } := by unfold mergedA; rw [← he, hda]
      have hset := wA_succ hp
      rw [hm] at hset
      refine ⟨(t1 + 1, vs1), by dsimp only; omega, by dsimp only; omega, hw t1 (by omega), outC_end htl (by omega), by rw [wB_is, htl2]; exact hset, rfl⟩
  · have et : t = (groupsF I.arcs).length := by omega
    subst et
    have hI : withoutF ⟨I.sup, wA I.arcs (groupsF I.arcs).length⟩ [] (outB I.arcs (groupsF I.arcs).length) = twinI I := by unfold twinI; rw [← hGF]
    have hS : twinS I = doneF 5 I (twinI I) ⟨0, 0⟩ (decide ((groupsF I.arcs).length < I.arcs.length)) := by unfold twinS; rw [if_neg (fun h => h hr), hGF]
    rw [hI, hS, wA_len]
    have E1 : ¬ ((groupsF I.arcs).length : Int) < (I.arcs.length : Int) → decide ((groupsF I.arcs).length < I.arcs.length) = false := fun h => decide_eq_false (by omega)
    have E2 : ((groupsF I.arcs).length : Int) < (I.arcs.length : Int) → decide ((groupsF I.arcs).length < I.arcs.length) = true := fun h => decide_eq_true (by omega)
    refine ⟨⟨⟨p1, p2⟩, ?_, ?_⟩, ⟨p1, p2⟩, ?_⟩
    all_goals
      exact ⟨fun h2 => by rw [doneF_stay (E1 h2)]; exact ⟨⟨⟨rfl, rfl, rfl, rfl⟩, rfl⟩, rfl, rfl, rfl, rfl⟩, fun h2 => ⟨fun h3 => by rw [doneF_over (E2 h2) h3]; exact ⟨⟨⟨rfl, rfl, rfl, rfl⟩, rfl⟩, rfl, rfl, rfl, rfl⟩, fun h3 => by rw [doneF_done (E2 h2) h3]; exact ⟨⟨⟨rfl, rfl, rfl, rfl⟩, rfl⟩, rfl, rfl, rfl, rfl⟩⟩⟩
theorem rTwin_ok : SpecOk Try.prog rTwin_n true (specOf true rTwin_fs) :=
  spec_ok' TT_ok (show GsOk Try.prog rTwin_g from gsOk_cons rRight_ok (gsOk_cons rCopy_ok (gsOk_cons rGroups_ok (gsOk_cons rboth_ok (gsOk_cons rWithout_ok (gsOk_cons Done15_ok (gsOk_nil))))))) (by kernel_rfl) mixedOrders Try.func77 rfl rfl (by kernel_rfl) (n := 1) (by decide +kernel) (I := rTwin_IA) (fun _ _ => isOk_nil) (A := rTwin_A)
    (fun args h r hr => by
      unfold rTwin_fs at hr
      split at hr
      · rename_i ty0 I_s ty1 I_a; cases hr; refine ⟨rfl, fun hp => ?_⟩; have hE := rTwin_E ⟨I_s, I_a⟩ ty0 ty1 hp; exact hE
      · cases hr)
def Lists_E0 (G : List (List Int)) (G_v : List Value) (H : List (List Int)) (H_v : List Value) (ty0 tz0 ty1 tz1 : TypeId) : Prop :=
      (((↑(DK.ints IntKind.i64 G).len : Int) != (↑(DK.ints IntKind.i64 H).len : Int)) = true → (false = decide (G = H) ∧ True) ∧ True) ∧
 (((↑(DK.ints IntKind.i64 G).len : Int) != (↑(DK.ints IntKind.i64 H).len : Int)) = false →
 ∃ (g0 : Nat),
 ((g0 ≤ G.length ∧ List.take g0 G = List.take g0 H) ∧ (True ∧ True ∧ (0 : Int) = (↑g0 : Int) ∧ True) ∧ (G = G ∧ G_v = G_v) ∧ (H = H ∧ H_v = H_v) ∧ True) ∧
 ∀ (g : Nat),
 g ≤ G.length ∧ List.take g G = List.take g H →
 (decide ((↑g : Int) < (↑(DK.ints IntKind.i64 G).len : Int)) = true →
 ((0 : Int) ≤ (↑g : Int) ∧ (↑g : Int) < (↑(DK.ints IntKind.i64 G).len : Int)) ∧
 (↑g : Int).toNat < G.length ∧
 ∀ (x : List Int),
 G[(↑g : Int).toNat]? = some x →
 ((0 : Int) ≤ (↑g : Int) ∧ (↑g : Int) < (↑(DK.ints IntKind.i64 H).len : Int)) ∧
 (↑g : Int).toNat < H.length ∧
 ∀ (x_1 : List Int),
 H[(↑g : Int).toNat]? = some x_1 →
 (((↑x.length : Int) != (↑x_1.length : Int)) = true → (false = decide (G = H) ∧ True) ∧ True) ∧
 (((↑x.length : Int) != (↑x_1.length : Int)) = false →
 ∃ (g0 : Nat × Nat),
 ((g0.fst = g0.fst ∧ g0.snd ≤ (G.getD g0.fst []).length ∧ List.take g0.snd (G.getD g0.fst []) = List.take g0.snd (H.getD g0.fst [])) ∧
 (True ∧ True ∧ (↑g : Int) = (↑g0.1 : Int) ∧ (0 : Int) = (↑g0.2 : Int) ∧ True) ∧ (G = G ∧ G_v = G_v) ∧ (H = H ∧ H_v = H_v) ∧ True) ∧
 ∀ (g_1 : Nat × Nat),
 g_1.fst = g0.fst ∧ g_1.snd ≤ (G.getD g_1.fst []).length ∧ List.take g_1.snd (G.getD g_1.fst []) = List.take g_1.snd (H.getD g_1.fst []) →
 ((0 : Int) ≤ (↑g_1.1 : Int) ∧ (↑g_1.1 : Int) < (↑(DK.ints IntKind.i64 G).len : Int)) ∧
 (↑g_1.1 : Int).toNat < G.length ∧
 ∀ (x : List Int),
 G[(↑g_1.1 : Int).toNat]? = some x →
 (decide ((↑g_1.2 : Int) < (↑x.length : Int)) = true →
 ((0 : Int) ≤ (↑g_1.1 : Int) ∧ (↑g_1.1 : Int) < (↑(DK.ints IntKind.i64 G).len : Int)) ∧
 (↑g_1.1 : Int).toNat < G.length ∧
 ∀ (x : List Int),
 G[(↑g_1.1 : Int).toNat]? = some x →
 ((0 : Int) ≤ (↑g_1.2 : Int) ∧ (↑g_1.2 : Int) < (↑x.length : Int)) ∧
 (↑g_1.2 : Int).toNat < x.length ∧
 ∀ (x_2 : Int),
 x[(↑g_1.2 : Int).toNat]? = some x_2 →
 ((0 : Int) ≤ (↑g_1.1 : Int) ∧ (↑g_1.1 : Int) < (↑(DK.ints IntKind.i64 H).len : Int)) ∧
 (↑g_1.1 : Int).toNat < H.length ∧
 ∀ (x : List Int),
 H[(↑g_1.1 : Int).toNat]? = some x →
 ((0 : Int) ≤ (↑g_1.2 : Int) ∧ (↑g_1.2 : Int) < (↑x.length : Int)) ∧
 (↑g_1.2 : Int).toNat < x.length ∧
 ∀ (x_3 : Int),
 x[(↑g_1.2 : Int).toNat]? = some x_3 →
 ((x_2 != x_3) = true → (false = decide (G = H) ∧ True) ∧ True) ∧
 ((x_2 != x_3) = false →
 ∃ (g' : Nat × Nat),
 (g'.fst = g0.fst ∧
 g'.snd ≤ (G.getD g'.fst []).length ∧
 List.take g'.snd (G.getD g'.fst []) = List.take g'.snd (H.getD g'.fst [])) ∧
 (G.getD g'.fst []).length - g'.snd < (G.getD g_1.fst []).length - g_1.snd ∧
 (True ∧
 True ∧
 (↑g_1.1 : Int) = (↑g'.1 : Int) ∧
 IntKind.i64.wrap ((↑g_1.2 : Int) + (1 : Int)) = (↑g'.2 : Int) ∧ True) ∧
 (G = G ∧ G_v = G_v) ∧ (H = H ∧ H_v = H_v) ∧ True)) ∧
 (decide ((↑g_1.2 : Int) < (↑x.length : Int)) = false →
 ∃ (g' : Nat),
 (g' ≤ G.length ∧ List.take g' G = List.take g' H) ∧
 G.length - g' < G.length - g ∧
 (True ∧ True ∧ IntKind.i64.wrap ((↑g_1.1 : Int) + (1 : Int)) = (↑g' : Int) ∧ True) ∧
 (G = G ∧ G_v = G_v) ∧ (H = H ∧ H_v = H_v) ∧ True))) ∧
 (decide ((↑g : Int) < (↑(DK.ints IntKind.i64 G).len : Int)) = false → (true = decide (G = H) ∧ True) ∧ True))
theorem Lists_q (G : List (List Int)) (G_v : List Value) (H : List (List Int)) (H_v : List Value) (ty0 tz0 ty1 tz1 : TypeId) : Lists_E0 G G_v H H_v ty0 tz0 ty1 tz1 = FVcP TT Lists_g (Lists_I G G_v H H_v) (Lists_an G G_v H H_v) Try.f79 [.row 0, .row 1] [(0, .deep false ty0 tz0 (.ints .i64 G) G_v none), (1, .deep false ty1 tz1 (.ints .i64 H) H_v none)] (Lists_r G G_v H H_v) := by kernel_rfl
theorem Lists_E (G : List (List Int)) (G_v : List Value) (H : List (List Int)) (H_v : List Value) (ty0 tz0 ty1 tz1 : TypeId) (hp : G.length ≤ 1000000 ∧ H.length ≤ 1000000 ∧ (∀ l ∈ G, l.length ≤ 1000000) ∧ (∀ l ∈ H, l.length ≤ 1000000)) : FVc TT Lists_g (Lists_I G G_v H H_v) (Lists_an G G_v H H_v) Try.f79 [.row 0, .row 1] [(0, .deep false ty0 tz0 (.ints .i64 G) G_v none), (1, .deep false ty1 tz1 (.ints .i64 H) H_v none)] (Lists_r G G_v H H_v) := by
  refine FVc.of (Lists_E0 G G_v H H_v ty0 tz0 ty1 tz1) (Lists_q G G_v H H_v ty0 tz0 ty1 tz1) ?_
  unfold Lists_E0
  obtain ⟨p1, p2, p3, p4⟩ := hp
  simp only [eq_self, exists_const, forall_const, decide_eq_true_eq, decide_eq_false_iff_not, and_true, true_and, bne_iff_ne, ne_eq, bne_eq_false_iff_eq, Int.toNat_natCast, Bool.not_eq_true', Bool.not_eq_false', beq_iff_eq, beq_eq_false_iff_ne, nilEq_true]
  simp only [DK.len]
  refine ⟨fun h => (decide_eq_false fun e => h (by rw [e])).symm, fun h => ⟨0, ⟨⟨Nat.zero_le _, rfl⟩, rfl⟩, fun k hk => ⟨fun h1 => ⟨by omega, by omega, fun x hx => ⟨by omega, by omega, fun y hy => ⟨fun h2 => ?_, fun h2 => ⟨(k, 0), ⟨⟨Nat.zero_le _, rfl⟩, rfl, rfl⟩, fun q hq => ?_⟩⟩⟩⟩, fun h1 => ?_⟩⟩⟩
  · refine (decide_eq_false fun e => h2 ?_).symm
    subst e; rw [hx] at hy; cases hy; rfl
  · obtain ⟨k2, j⟩ := q
    dsimp only at hq ⊢
    obtain ⟨rfl, hj, hjt⟩ := hq
    have hdx : G.getD k2 [] = x := by rw [List.getD_eq_getElem?_getD, hx]; rfl
    have hdy : H.getD k2 [] = y := by rw [List.getD_eq_getElem?_getD, hy]; rfl
    rw [hdx] at hj hjt ⊢
    rw [hdy] at hjt
    have hxl := p3 x (List.mem_of_getElem? hx)
    simp only [hx, hy, Option.some.injEq, forall_eq']
    refine ⟨by omega, by omega, fun h3 => ⟨by omega, by omega, by omega, by omega, fun u hu => ⟨by omega, by omega, by omega, by omega, fun v hv => ?_⟩⟩, fun h3 => ?_⟩
    · refine ⟨fun h4 => (decide_eq_false fun e => ?_).symm, fun h4 => ⟨(k2, j + 1), ⟨rfl, by dsimp only; rw [hdx]; omega, ?_⟩, ?_, rfl, by dsimp only; rw [w64 (by omega) (by omega)]; omega⟩⟩
      · subst e; rw [hx] at hy; cases hy; rw [hu] at hv; cases hv; exact h4 rfl
      · dsimp only; rw [hdx, hdy]; subst h4; exact take_snoc_eq hu hv hjt
      · dsimp only; rw [hdx]; omega
    · have exy : x = y := by rwa [List.take_of_length_le (by omega), List.take_of_length_le (by omega)] at hjt
      subst exy
      exact ⟨k2 + 1, ⟨by omega, take_snoc_eq hx hy hk.2⟩, by omega, by rw [w64 (by omega) (by omega)]; omega⟩
  · have h3 := hk.2
    rw [List.take_of_length_le (by omega), List.take_of_length_le (by omega)] at h3
    exact (decide_eq_true h3).symm
theorem Lists_ok : SpecOk Try.prog Lists_n true (specOf true Lists_fs) :=
  spec_ok' TT_ok (show GsOk Try.prog Lists_g from gsOk_nil) (by kernel_rfl) mixedOrders Try.func79 rfl rfl (by kernel_rfl) (n := 2) (by decide +kernel) (I := Lists_IA) (fun _ _ => isOk_nil) (A := Lists_A)
    (fun args h r hr => by
      unfold Lists_fs at hr
      split at hr
      · rename_i ty0 tz0 G G_v ty1 tz1 H H_v; cases hr; refine ⟨rfl, fun hp => ?_⟩; have hE := Lists_E G G_v H H_v ty0 tz0 ty1 tz1 hp; exact hE
      · cases hr)
abbrev known16_a0 := (twinS
 { sup := List.replicate (Int.toNat (2 : Int)) (0 : Int), arcs := [{ src := (0 : Int), dst := (1 : Int), low := (1 : Int), cap := (2 : Int), cost := (0 : Int) : Arc }, { src := (0 : Int), dst := (1 : Int), low := (0 : Int), cap := (4611686018427387904 : Int), cost := (0 : Int) : Arc }] : Inst })
abbrev known16_a1 := (spreadF
 { sup := List.replicate (Int.toNat (2 : Int)) (0 : Int), arcs := [{ src := (0 : Int), dst := (1 : Int), low := (1 : Int), cap := (2 : Int), cost := (0 : Int) : Arc }, { src := (0 : Int), dst := (1 : Int), low := (0 : Int), cap := (4611686018427387904 : Int), cost := (0 : Int) : Arc }] : Inst }
 [(0 : Int), (1 : Int)] (5 : Int))
def known16_E0 : Prop :=
      ((2 : Int) = (2 : Int) ∧ (0 : Int) ≤ (2 : Int) ∧ (2 : Int) ≤ (1000000000 : Int)) ∧
 (rightF
 { sup := List.replicate (Int.toNat (2 : Int)) (0 : Int), arcs := [{ src := (0 : Int), dst := (1 : Int), low := (1 : Int), cap := (2 : Int), cost := (0 : Int) : Arc }, { src := (0 : Int), dst := (1 : Int), low := (0 : Int), cap := (4611686018427387904 : Int), cost := (0 : Int) : Arc }] : Inst } =
 (0 : Int) ∧
 I64 (5 : Int) ∧ (2 : Nat) ≤ (1000000 : Nat)) ∧
 ((List.replicate (Int.toNat (2 : Int)) (0 : Int)).length ≤ (1000000 : Nat) ∧ (2 : Nat) ≤ (1000000 : Nat)) ∧
 ((known16_a1).isSome =
 true →
 ((known16_a1).getD
 []).length ≤
 (1000000000 : Nat) ∧
 (decide
 ((known16_a1).getD
 [] =
 [(2 : Int), (3 : Int)]) =
 true →
 (((known16_a0).snd ==
 (0 : Int)) =
 true →
 ((known16_a0).fst.did =
 true →
 (((↑(known16_a0).fst.inst.arcs.length :
 Int) ==
 (1 : Int)) =
 true →
 ((0 : Int) ≤ (0 : Int) ∧
 (0 : Int) <
 (↑(known16_a0).fst.inst.arcs.length :
 Int)) ∧
 Int.toNat (0 : Int) <
 (known16_a0).fst.inst.arcs.length ∧
 ∀ (x : Arc),
 (known16_a0).fst.inst.arcs[Int.toNat (0 : Int)]? =
 some x →
 ((x.cap == (4611686018427387904 : Int)) = true →
 ((0 : Int) ≤ (0 : Int) ∧
 (0 : Int) <
 (↑(known16_a0).fst.inst.arcs.length :
 Int)) ∧
 Int.toNat (0 : Int) <
 (known16_a0).fst.inst.arcs.length ∧
 ∀ (x : Arc),
 (known16_a0).fst.inst.arcs[Int.toNat (0 : Int)]? =
 some x →
 ((x.low == (1 : Int)) = true ∧ True) ∧ True) ∧
 ((x.cap == (4611686018427387904 : Int)) = false → (false = true ∧ True) ∧ True)) ∧
 (((↑(known16_a0).fst.inst.arcs.length :
 Int) ==
 (1 : Int)) =
 false →
 (false = true ∧ True) ∧ True)) ∧
 ((known16_a0).fst.did =
 false →
 (false = true ∧ True) ∧ True)) ∧
 (((known16_a0).snd ==
 (0 : Int)) =
 false →
 (false = true ∧ True) ∧ True)) ∧
 (decide
 ((known16_a1).getD
 [] =
 [(2 : Int), (3 : Int)]) =
 false →
 (false = true ∧ True) ∧ True)) ∧
 ((known16_a1).isSome =
 false →
 (false = true ∧ True) ∧ True)
theorem known16_q : known16_E0 = FVcP TT known16_g (known16_I) (known16_an) Try.f41 [] [] (known16_r) := by kernel_rfl
theorem known16_E (hp : True) : FVc TT known16_g (known16_I) (known16_an) Try.f41 [] [] (known16_r) := by
  refine FVc.of (known16_E0) (known16_q) ?_
  unfold known16_E0
  delta known16_a1 known16_a0
  simp only [show (⟨List.replicate (Int.toNat 2) 0, [⟨0, 1, 1, 2, 0⟩, ⟨0, 1, 0, 4611686018427387904, 0⟩]⟩ : Inst) = known16I from rfl, known16_spread, known16_twin, known16_right]
  simp [I64]
theorem known16_ok : SpecOk Try.prog known16_n true (specOf true known16_fs) :=
  spec_ok' TT_ok (show GsOk Try.prog known16_g from gsOk_cons Spread_ok (gsOk_cons Nums_ok (gsOk_cons Twin_ok (gsOk_nil)))) (by kernel_rfl) mixedOrders Try.func41 rfl rfl (by kernel_rfl) (n := 0) (by decide +kernel) (I := known16_IA) (fun _ _ => isOk_nil) (A := known16_A)
    (fun args h r hr => by
      unfold known16_fs at hr
      split at hr
      · cases hr; refine ⟨rfl, fun hp => ?_⟩; have hE := known16_E  hp; exact hE
      · cases hr)
def does16_E0 (I : Inst) (ty0 ty1 : TypeId) : Prop :=
      (I.sup.length ≤ (1000000 : Nat) ∧ I.arcs.length ≤ (1000000 : Nat)) ∧
 (I.sup.length ≤ (1000000 : Nat) ∧ I.arcs.length ≤ (1000000 : Nat)) ∧
 ((IntKind.i64.wrap (twinS I).snd == (twinS I).snd) = true →
 (StepSmall { inst := (twinS I).fst.inst, pass := (twinS I).fst.pass, was := (twinS I).fst.was, off := (twinS I).fst.off, did := (twinS I).fst.did : StepD } ∧
 StepSmall { inst := (twinS I).fst.inst, pass := (twinS I).fst.pass, was := (twinS I).fst.was, off := (twinS I).fst.off, did := (twinS I).fst.did : StepD }) ∧
 (decide
 ({ inst := (twinS I).fst.inst, pass := (twinS I).fst.pass, was := (twinS I).fst.was, off := (twinS I).fst.off, did := (twinS I).fst.did : StepD } =
 { inst := (twinS I).fst.inst, pass := (twinS I).fst.pass, was := (twinS I).fst.was, off := (twinS I).fst.off, did := (twinS I).fst.did : StepD }) =
 true →
 I.arcs.length ≤ (1000000 : Nat) ∧
 ∀ (V : Nat → List Value),
 I.arcs.length ≤ (1000000 : Nat) ∧
 ∀ (V : Nat → List Value),
 ((groupsF I.arcs).length ≤ (1000000 : Nat) ∧
 (groupsF I.arcs).length ≤ (1000000 : Nat) ∧
 (∀ (l : List Int), List.Mem l (groupsF I.arcs) → l.length ≤ (1000000 : Nat)) ∧
 ∀ (l : List Int), List.Mem l (groupsF I.arcs) → l.length ≤ (1000000 : Nat)) ∧
 (decide (groupsF I.arcs = groupsF I.arcs) = true ∧ True) ∧ True) ∧
 (decide
 ({ inst := (twinS I).fst.inst, pass := (twinS I).fst.pass, was := (twinS I).fst.was, off := (twinS I).fst.off, did := (twinS I).fst.did : StepD } =
 { inst := (twinS I).fst.inst, pass := (twinS I).fst.pass, was := (twinS I).fst.was, off := (twinS I).fst.off, did := (twinS I).fst.did : StepD }) =
 false →
 (false = true ∧ True) ∧ True)) ∧
 ((IntKind.i64.wrap (twinS I).snd == (twinS I).snd) = false → (false = true ∧ True) ∧ True)
theorem does16_q (I : Inst) (ty0 ty1 : TypeId) : does16_E0 I ty0 ty1 = FVcP TT does16_g (does16_I I) (does16_an I) Try.f43 [.agg [.row 0, .row 1]] [(0, .row false ty0 (.ints .i64 I.sup)), (1, .row false ty1 (.arcs I.arcs))] (does16_r I) := by kernel_rfl
theorem does16_E (I : Inst) (ty0 ty1 : TypeId) (hp : I.sup.length ≤ 1000000 ∧ I.arcs.length ≤ 1000000) : FVc TT does16_g (does16_I I) (does16_an I) Try.f43 [.agg [.row 0, .row 1]] [(0, .row false ty0 (.ints .i64 I.sup)), (1, .row false ty1 (.arcs I.arcs))] (does16_r I) := by
  refine FVc.of (does16_E0 I ty0 ty1) (does16_q I ty0 ty1) ?_
  unfold does16_E0
  simp only [eq_self, exists_const, forall_const, decide_eq_true_eq, decide_eq_false_iff_not, and_true, true_and, bne_iff_ne, ne_eq, bne_eq_false_iff_eq, Int.toNat_natCast, Bool.not_eq_true', Bool.not_eq_false', beq_iff_eq, beq_eq_false_iff_ne, nilEq_true]
  obtain ⟨p1, p2⟩ := hp
  have hs := twinS_small p1 p2
  have he := twinS_err I
  have hg := groupsF_rows p2
  exact ⟨⟨p1, p2⟩, ⟨p1, p2⟩, fun _ => ⟨⟨hs, hs⟩, ⟨p2, p2, hg.1, hg.1, hg.2, hg.2⟩, fun h => absurd trivial h⟩, fun h => absurd he h⟩
theorem does16_ok : SpecOk Try.prog does16_n true (specOf true does16_fs) :=
  spec_ok' TT_ok (show GsOk Try.prog does16_g from gsOk_cons Twin_ok (gsOk_cons rTwin_ok (gsOk_cons StepSame_ok (gsOk_cons Groups_ok (gsOk_cons rGroups_ok (gsOk_cons Lists_ok (gsOk_nil))))))) (by kernel_rfl) mixedOrders Try.func43 rfl rfl (by kernel_rfl) (n := 1) (by decide +kernel) (I := does16_IA) (fun _ _ => isOk_nil) (A := does16_A)
    (fun args h r hr => by
      unfold does16_fs at hr
      split at hr
      · rename_i ty0 I_s ty1 I_a; cases hr; refine ⟨rfl, fun hp => ?_⟩; have hE := does16_E ⟨I_s, I_a⟩ ty0 ty1 hp; exact hE
      · cases hr)
def spreads16_E0 (I : Inst) (l : List Int) (n : Int) (ty0 ty1 ty2 : TypeId) : Prop :=
      (rightF I = (0 : Int) ∧ I64 n ∧ l.length ≤ (1000000 : Nat)) ∧
 (rightF I = (0 : Int) ∧ I64 n ∧ l.length ≤ (1000000 : Nat)) ∧
 (((spreadF I l n).isSome == (spreadF I l n).isSome) = true →
 ((spreadF I l n).getD []).length ≤ (1000000000 : Nat) ∧ (decide ((spreadF I l n).getD [] = (spreadF I l n).getD []) = true ∧ True) ∧ True) ∧
 (((spreadF I l n).isSome == (spreadF I l n).isSome) = false → (false = true ∧ True) ∧ True)
theorem spreads16_q (I : Inst) (l : List Int) (n : Int) (ty0 ty1 ty2 : TypeId) : spreads16_E0 I l n ty0 ty1 ty2 = FVcP TT spreads16_g (spreads16_I I l n) (spreads16_an I l n) Try.f44 [.agg [.row 0, .row 1], .row 2, .int .i64 n] [(0, .row false ty0 (.ints .i64 I.sup)), (1, .row false ty1 (.arcs I.arcs)), (2, .row false ty2 (.ints .i64 l))] (spreads16_r I l n) := by kernel_rfl
theorem spreads16_E (I : Inst) (l : List Int) (n : Int) (ty0 ty1 ty2 : TypeId) (hp : rightF I = 0 ∧ I64 n ∧ l.length ≤ 1000000) : FVc TT spreads16_g (spreads16_I I l n) (spreads16_an I l n) Try.f44 [.agg [.row 0, .row 1], .row 2, .int .i64 n] [(0, .row false ty0 (.ints .i64 I.sup)), (1, .row false ty1 (.arcs I.arcs)), (2, .row false ty2 (.ints .i64 l))] (spreads16_r I l n) := by
  refine FVc.of (spreads16_E0 I l n ty0 ty1 ty2) (spreads16_q I l n ty0 ty1 ty2) ?_
  unfold spreads16_E0
  simp only [eq_self, exists_const, forall_const, decide_eq_true_eq, decide_eq_false_iff_not, and_true, true_and, bne_iff_ne, ne_eq, bne_eq_false_iff_eq, Int.toNat_natCast, Bool.not_eq_true', Bool.not_eq_false', beq_iff_eq, beq_eq_false_iff_ne, nilEq_true]
  have hb := spreadF_bd I l n
  have hl := hp.2.2
  exact ⟨hp, hp, by omega, fun h => absurd trivial h⟩
theorem spreads16_ok : SpecOk Try.prog spreads16_n true (specOf true spreads16_fs) :=
  spec_ok' TT_ok (show GsOk Try.prog spreads16_g from gsOk_cons Spread_ok (gsOk_cons rSpread_ok (gsOk_cons Nums_ok (gsOk_nil)))) (by kernel_rfl) mixedOrders Try.func44 rfl rfl (by kernel_rfl) (n := 3) (by decide +kernel) (I := spreads16_IA) (fun _ _ => isOk_nil) (A := spreads16_A)
    (fun args h r hr => by
      unfold spreads16_fs at hr
      split at hr
      · rename_i n ty0 I_s ty1 I_a ty2 l; cases hr; refine ⟨rfl, fun hp => ?_⟩; have hE := spreads16_E ⟨I_s, I_a⟩ l n ty0 ty1 ty2 hp; exact hE
      · cases hr)
end Go.Proofs.Ytnjcklhgdpgllaa
