/- Part of the proof, FBTwinSpreads. -/
import Derived.Test.YtnjcklhgdpgllaaZFT16
import Derived.Test.YtnjcklhgdpgllaaZDBTwinSpreads
import Derived.Test.YtnjcklhgdpgllaaZVc11
set_option linter.unusedVariables false
set_option linter.all false
set_option linter.unusedSimpArgs false
set_option maxRecDepth 100000
namespace Go.Proofs.Ytnjcklhgdpgllaa
open Go Go.RowKit Go.Ql Go.Vc
abbrev TwinSpreads_a0 (c : List Int) (d : List Int) (n : Int) (g : List Int × Nat) (k : Int) (raw : List Int) := (true = true →
 (rightF (alikeF c d) = (0 : Int) ∧ I64 n ∧ g.1.length ≤ (1000000 : Nat)) ∧
 (true = true →
 (rightF (alikeF c d) = (0 : Int) ∧ I64 (IntKind.i64.wrap k) ∧ g.1.length ≤ (1000000 : Nat)) ∧
 (true = true → (rightF (alikeF c d) = (0 : Int) ∧ I64 (IntKind.i64.wrap k) ∧ raw.length ≤ (1000000 : Nat)) ∧ (true = true ∧ True) ∧ True) ∧
 (true = false → (false = true ∧ True) ∧ True)) ∧
 (true = false → (false = true ∧ True) ∧ True))
def TwinSpreads_E0 (c : List Int) (d : List Int) (e : List Int) (n : Int) (k : Int) (raw : List Int) (ty0 ty1 ty2 ty3 : TypeId) : Prop :=
      (Bytes c ∧ Bytes d ∧ c.length ≤ maxLen ∧ d.length ≤ maxLen) ∧
 (decide ((↑raw.length : Int) > (100 : Int)) = true → True ∧ (true = true ∧ True) ∧ True) ∧
 (decide ((↑raw.length : Int) > (100 : Int)) = false →
 ∃ (g0 : List Int × Nat),
 ((g0.snd ≤ (6 : Nat) ∧ g0.fst.length = g0.snd) ∧
 (True ∧ n = n ∧ k = k ∧ True ∧ (0 : Nat) = (0 : Nat) ∧ True ∧ (0 : Int) = (↑g0.2 : Int) ∧ True) ∧
 [] = g0.1 ∧ (True ∧ True ∧ True) ∧ (alikeF c d).sup = (alikeF c d).sup ∧ (alikeF c d).arcs = (alikeF c d).arcs ∧ e = e ∧ raw = raw ∧ True) ∧
 ∀ (g : List Int × Nat),
 g.snd ≤ (6 : Nat) ∧ g.fst.length = g.snd →
 (decide ((↑g.2 : Int) < (↑e.length : Int)) = true →
 (decide ((↑g.2 : Int) < (6 : Int)) = true →
 (decide ((↑(alikeF c d).arcs.length : Int) > (0 : Int)) = true →
 ((0 : Int) ≤ (↑g.2 : Int) ∧ (↑g.2 : Int) < (↑e.length : Int)) ∧
 (↑g.2 : Int).toNat < e.length ∧
 ∀ (x : Int),
 e[(↑g.2 : Int).toNat]? = some x →
 (↑(alikeF c d).arcs.length : Int) ≠ (0 : Int) ∧
 g.1.length + (1 : Nat) ≤ (1000000000 : Nat) ∧
 ∃ (g' : List Int × Nat),
 (g'.snd ≤ (6 : Nat) ∧ g'.fst.length = g'.snd) ∧
 (6 : Nat) - g'.snd < (6 : Nat) - g.snd ∧
 (True ∧ n = n ∧ k = k ∧ True ∧ (0 : Nat) = (0 : Nat) ∧ True ∧ IntKind.i64.wrap ((↑g.2 : Int) + (1 : Int)) = (↑g'.2 : Int) ∧ True) ∧
 g.1 ++ [(IntKind.i64.wrap x).tmod (↑(alikeF c d).arcs.length : Int)] = g'.1 ∧
 (True ∧ True ∧ True) ∧ (alikeF c d).sup = (alikeF c d).sup ∧ (alikeF c d).arcs = (alikeF c d).arcs ∧ e = e ∧ raw = raw ∧ True) ∧
 (decide ((↑(alikeF c d).arcs.length : Int) > (0 : Int)) = false →
 True ∧
 (TwinSpreads_a0 c d n g k raw) ∧
 (true = false → (false = true ∧ True) ∧ True))) ∧
 (decide ((↑g.2 : Int) < (6 : Int)) = false →
 True ∧
 (TwinSpreads_a0 c d n g k raw) ∧
 (true = false → (false = true ∧ True) ∧ True))) ∧
 (decide ((↑g.2 : Int) < (↑e.length : Int)) = false →
 True ∧
 (TwinSpreads_a0 c d n g k raw) ∧
 (true = false → (false = true ∧ True) ∧ True)))
theorem TwinSpreads_q (c : List Int) (d : List Int) (e : List Int) (n : Int) (k : Int) (raw : List Int) (ty0 ty1 ty2 ty3 : TypeId) : TwinSpreads_E0 c d e n k raw ty0 ty1 ty2 ty3 = FVcP TT TwinSpreads_g (TwinSpreads_I c d e n k raw) (TwinSpreads_an c d e n k raw) Try.f10 [.row 0, .row 1, .row 2, .int .i64 n, .int .i8 k, .row 3] [(0, .row false ty0 (.ints .u8 c)), (1, .row false ty1 (.ints .u8 d)), (2, .row false ty2 (.ints .u8 e)), (3, .row false ty3 (.ints .i64 raw))] (TwinSpreads_r c d e n k raw) := by kernel_rfl
theorem TwinSpreads_E (c : List Int) (d : List Int) (e : List Int) (n : Int) (k : Int) (raw : List Int) (ty0 ty1 ty2 ty3 : TypeId) (hp : Bytes c ∧ Bytes d ∧ c.length ≤ maxLen ∧ d.length ≤ maxLen ∧ Bytes e ∧ e.length ≤ maxLen ∧ I64 n ∧ -128 ≤ k ∧ k ≤ 127 ∧ raw.length ≤ 140737488351232) : FVc TT TwinSpreads_g (TwinSpreads_I c d e n k raw) (TwinSpreads_an c d e n k raw) Try.f10 [.row 0, .row 1, .row 2, .int .i64 n, .int .i8 k, .row 3] [(0, .row false ty0 (.ints .u8 c)), (1, .row false ty1 (.ints .u8 d)), (2, .row false ty2 (.ints .u8 e)), (3, .row false ty3 (.ints .i64 raw))] (TwinSpreads_r c d e n k raw) := by
  refine FVc.of (TwinSpreads_E0 c d e n k raw ty0 ty1 ty2 ty3) (TwinSpreads_q c d e n k raw ty0 ty1 ty2 ty3) ?_
  unfold TwinSpreads_E0
  delta TwinSpreads_a0
  obtain ⟨b1, b2, b3, b4, b5, b6, n1, k0, k1, r1⟩ := hp
  obtain ⟨o1, o2, o3, o4, o5⟩ := alikeF_all c d
  generalize alikeF c d = J at *
  have hw : IntKind.i64.wrap k = k := w64 (by omega) (by omega)
  have hk : I64 k := ⟨by omega, by omega⟩
  rw [hw]
  simp only [eq_self, exists_const, forall_const, decide_eq_true_eq, decide_eq_false_iff_not, and_true, true_and, bne_iff_ne, ne_eq, bne_eq_false_iff_eq, Int.toNat_natCast, Bool.not_eq_true', Bool.not_eq_false', beq_iff_eq, beq_eq_false_iff_ne, nilEq_true]
  refine ⟨⟨b1, b2, b3, b4⟩, fun _ => trivial, fun hr => ⟨([], 0), ⟨⟨by dsimp only; omega, rfl⟩, rfl, rfl⟩, fun g hg => ?_⟩⟩
  obtain ⟨l, j⟩ := g
  dsimp only at hg ⊢
  have fin : ∀ q : Prop, q → q := fun q h => h
  have e1 : rightF J = 0 ∧ I64 n ∧ l.length ≤ 1000000 := ⟨o1, n1, by omega⟩
  have e2 : rightF J = 0 ∧ I64 k ∧ l.length ≤ 1000000 := ⟨o1, hk, by omega⟩
  have e3 : rightF J = 0 ∧ I64 k ∧ raw.length ≤ 1000000 := ⟨o1, hk, by omega⟩
  repeat' first | trivial | omega | assumption | exact e1 | exact e2 | exact e3 | refine ⟨(l ++ [_], j + 1), ⟨by dsimp only; omega, by simp; omega⟩, by dsimp only; omega, ⟨by rw [w64 (by omega) (by omega)]; omega, rfl⟩⟩ | refine And.intro ?_ ?_ | intro _ | contradiction
theorem TwinSpreads_ok : SpecOk Try.prog TwinSpreads_n true (specOf true TwinSpreads_fs) :=
  spec_ok' TT_ok (show GsOk Try.prog TwinSpreads_g from gsOk_cons Alike_ok (gsOk_cons known16_ok (gsOk_cons spreads16_ok (gsOk_nil)))) (by kernel_rfl) mixedOrders Try.func10 rfl rfl (by kernel_rfl) (n := 6) (by decide +kernel) (I := TwinSpreads_IA) (fun _ _ => isOk_nil) (A := TwinSpreads_A)
    (fun args h r hr => by
      unfold TwinSpreads_fs at hr
      split at hr
      · rename_i n k ty0 c ty1 d ty2 e ty3 raw; cases hr; refine ⟨rfl, fun hp => ?_⟩; have hE := TwinSpreads_E c d e n k raw ty0 ty1 ty2 ty3 hp; exact hE
      · cases hr)
end Go.Proofs.Ytnjcklhgdpgllaa
