/- Part of the proof, FBTrimStill. -/
import Derived.Test.YtahbkllfifmdfaaZFV15
import Derived.Test.YtahbkllfifmdfaaZDBTrimStill
import Derived.Test.YtahbkllfifmdfaaZVc11
set_option linter.unusedVariables false
set_option linter.all false
set_option linter.unusedSimpArgs false
set_option maxRecDepth 100000
namespace Go.Proofs.Ytahbkllfifmdfaa
open Go Go.RowKit Go.Ql Go.Vc
abbrev TrimStill_a0 := (true = false → (false = true ∧ True) ∧ True)
abbrev TrimStill_a1 (k : Int) (c : List Int) (d : List Int) (e : List Int) := ((passK k (oddF c d e)).fst.inst.sup.length ≤ (1000000000 : Nat) ∧ (passK k (oddF c d e)).fst.inst.arcs.length ≤ (1000000000 : Nat))
abbrev TrimStill_a2 (k : Int) (c : List Int) (d : List Int) (e : List Int) := ((passK k (passK k (oddF c d e)).fst.inst).fst.inst = (passK k (oddF c d e)).fst.inst)
def TrimStill_E0 (k : Int) (c : List Int) (d : List Int) (e : List Int) (ty0 ty1 ty2 : TypeId) : Prop :=
      (Bytes c ∧ Bytes d ∧ c.length ≤ maxLen ∧ d.length ≤ maxLen ∧ Bytes e ∧ e.length ≤ maxLen) ∧
 ((0 : Int) ≤ k ∧ k ≤ (255 : Int) ∧ (oddF c d e).sup.length ≤ (1000000 : Nat) ∧ (oddF c d e).arcs.length ≤ (1000000 : Nat)) ∧
 (((passK k (oddF c d e)).snd != (0 : Int)) = true →
 True ∧
 (true = true →
 (((passK k (oddF c d e)).snd == (40 : Int)) = true →
 (TrimStill_a1 k c d e) ∧
 (decide ((passK k (oddF c d e)).fst.inst = { sup := [], arcs := [] : Inst }) = true ∧ True) ∧ True) ∧
 (((passK k (oddF c d e)).snd == (40 : Int)) = false → (false = true ∧ True) ∧ True)) ∧
 (TrimStill_a0)) ∧
 (((passK k (oddF c d e)).snd != (0 : Int)) = false →
 ((0 : Int) ≤ k ∧ k ≤ (255 : Int) ∧ (passK k (oddF c d e)).fst.inst.sup.length ≤ (1000000 : Nat) ∧ (passK k (oddF c d e)).fst.inst.arcs.length ≤ (1000000 : Nat)) ∧
 (((passK k (passK k (oddF c d e)).fst.inst).snd == (0 : Int)) = true →
 ((!(passK k (passK k (oddF c d e)).fst.inst).fst.did) = true →
 ((passK k (passK k (oddF c d e)).fst.inst).fst.inst.sup.length ≤ (1000000000 : Nat) ∧
 (passK k (passK k (oddF c d e)).fst.inst).fst.inst.arcs.length ≤ (1000000000 : Nat)) ∧
 ((!(passK k (oddF c d e)).fst.did) = true →
 True ∧
 (true = true →
 (decide (TrimStill_a2 k c d e) = true →
 (TrimStill_a1 k c d e) ∧
 (decide ((passK k (oddF c d e)).fst.inst = oddF c d e) = true →
 I64 (0 : Int) ∧
 (decide ([(passK k (oddF c d e)).fst.off.hi, (passK k (oddF c d e)).fst.off.lo] = [(W (0 : Int)).hi, (W (0 : Int)).lo]) = true →
 (((passK k (oddF c d e)).fst.pass == (0 : Int)) = true ∧ True) ∧ True) ∧
 (decide ([(passK k (oddF c d e)).fst.off.hi, (passK k (oddF c d e)).fst.off.lo] = [(W (0 : Int)).hi, (W (0 : Int)).lo]) = false →
 (false = true ∧ True) ∧ True)) ∧
 (decide ((passK k (oddF c d e)).fst.inst = oddF c d e) = false → (false = true ∧ True) ∧ True)) ∧
 (decide (TrimStill_a2 k c d e) = false → (false = true ∧ True) ∧ True)) ∧
 (TrimStill_a0)) ∧
 ((!(passK k (oddF c d e)).fst.did) = false →
 True ∧
 (true = true →
 (decide (TrimStill_a2 k c d e) = true →
 (TrimStill_a1 k c d e) ∧
 ((oddF c d e).sup.length ≤ (1000000000 : Nat) ∧ (oddF c d e).arcs.length ≤ (1000000000 : Nat)) ∧
 (decide ((↑(spanF (passK k (oddF c d e)).fst.inst) : Int) < (↑(spanF (oddF c d e)) : Int)) = true →
 True ∧
 ((rightF (passK k (oddF c d e)).fst.inst == (0 : Int)) = true →
 (4 : Int) ≠ (0 : Int) ∧
 (((passK k (oddF c d e)).fst.pass == IntKind.i64.wrap ((1 : Int) + IntKind.i64.wrap (k.tmod (4 : Int)))) = true →
 ((passK k (oddF c d e)).fst.was.sup.length ≤ (1000000000 : Nat) ∧
 (passK k (oddF c d e)).fst.was.arcs.length ≤ (1000000000 : Nat)) ∧
 (decide ((passK k (oddF c d e)).fst.was = oddF c d e) = true ∧ True) ∧ True) ∧
 (((passK k (oddF c d e)).fst.pass == IntKind.i64.wrap ((1 : Int) + IntKind.i64.wrap (k.tmod (4 : Int)))) = false →
 (false = true ∧ True) ∧ True)) ∧
 ((rightF (passK k (oddF c d e)).fst.inst == (0 : Int)) = false → (false = true ∧ True) ∧ True)) ∧
 (decide ((↑(spanF (passK k (oddF c d e)).fst.inst) : Int) < (↑(spanF (oddF c d e)) : Int)) = false → (false = true ∧ True) ∧ True)) ∧
 (decide (TrimStill_a2 k c d e) = false → (false = true ∧ True) ∧ True)) ∧
 (TrimStill_a0))) ∧
 ((!(passK k (passK k (oddF c d e)).fst.inst).fst.did) = false →
 ((!(passK k (oddF c d e)).fst.did) = true → True ∧ (true = true → (false = true ∧ True) ∧ True) ∧ (TrimStill_a0)) ∧
 ((!(passK k (oddF c d e)).fst.did) = false → True ∧ (true = true → (false = true ∧ True) ∧ True) ∧ (TrimStill_a0)))) ∧
 (((passK k (passK k (oddF c d e)).fst.inst).snd == (0 : Int)) = false →
 ((!(passK k (oddF c d e)).fst.did) = true → True ∧ (true = true → (false = true ∧ True) ∧ True) ∧ (TrimStill_a0)) ∧
 ((!(passK k (oddF c d e)).fst.did) = false → True ∧ (true = true → (false = true ∧ True) ∧ True) ∧ (TrimStill_a0))))
theorem TrimStill_q (k : Int) (c : List Int) (d : List Int) (e : List Int) (ty0 ty1 ty2 : TypeId) : TrimStill_E0 k c d e ty0 ty1 ty2 = FVcP TT TrimStill_g (TrimStill_I k c d e) (TrimStill_an k c d e) Try.f7 [.int .u8 k, .row 0, .row 1, .row 2] [(0, .row false ty0 (.ints .u8 c)), (1, .row false ty1 (.ints .u8 d)), (2, .row false ty2 (.ints .u8 e))] (TrimStill_r k c d e) := by kernel_rfl
theorem TrimStill_E (k : Int) (c : List Int) (d : List Int) (e : List Int) (ty0 ty1 ty2 : TypeId) (hp : 0 ≤ k ∧ k ≤ 255 ∧ Bytes c ∧ Bytes d ∧ c.length ≤ maxLen ∧ d.length ≤ maxLen ∧ Bytes e ∧ e.length ≤ maxLen) : FVc TT TrimStill_g (TrimStill_I k c d e) (TrimStill_an k c d e) Try.f7 [.int .u8 k, .row 0, .row 1, .row 2] [(0, .row false ty0 (.ints .u8 c)), (1, .row false ty1 (.ints .u8 d)), (2, .row false ty2 (.ints .u8 e))] (TrimStill_r k c d e) := by
  refine FVc.of (TrimStill_E0 k c d e ty0 ty1 ty2) (TrimStill_q k c d e ty0 ty1 ty2) ?_
  unfold TrimStill_E0
  delta TrimStill_a2 TrimStill_a1 TrimStill_a0
  obtain ⟨k0, k1, hb⟩ := hp
  obtain ⟨o1, o2, o3, o4, o5, o6⟩ := oddF_all c d e
  refine ⟨hb, ?_⟩
  generalize oddF c d e = I at *
  have km : k.tmod 4 = k % 4 := Int.tmod_eq_emod_of_nonneg k0
  have kw : IntKind.i64.wrap (1 + IntKind.i64.wrap (k % 4)) = 1 + k % 4 := by rw [w64 (x := k % 4) (by omega) (by omega), w64 (by omega) (by omega)]
  have z1 : I64 0 := by unfold I64; omega
  by_cases h : (passK k I).2 = 0
  · have hT := passK_twice h
    obtain ⟨hr, ⟨h1, h2⟩ | ⟨h1, h2, h3⟩⟩ := passK_cases h
    · have e : passK k I = (⟨I, 0, ⟨[], []⟩, ⟨0, 0⟩, false⟩, 0) := Prod.ext h2 h
      rw [e] at hT
      dsimp only at hT
      simp only [e]
      rw [W_zero]
      simp [k0, k1, z1]
      omega
    · have hl := right_small h2
      have hs := left_less hr h1
      have e : passK k I = (⟨leftK k I, 1 + k % 4, I, W (offK k I), true⟩, 0) := Prod.ext h3 h
      rw [e] at hT
      dsimp only at hT
      simp only [e, hT, km, kw]
      simp [k0, k1, h2, hs]
      omega
  · have e := passK_over o1 h
    simp [e, StepD.none, k0, k1]
    omega
theorem TrimStill_ok : SpecOk Try.prog TrimStill_n true (specOf true TrimStill_fs) :=
  spec_ok' TT_ok (show GsOk Try.prog TrimStill_g from gsOk_cons Odd_ok (gsOk_cons pass15_ok (gsOk_cons known15_ok (gsOk_cons Same_ok (gsOk_cons Span_ok (gsOk_cons Right_ok (gsOk_cons Of_ok (gsOk_nil)))))))) (by kernel_rfl) mixedOrders Try.func7 rfl rfl (by kernel_rfl) (n := 4) (by decide +kernel) (I := TrimStill_IA) (fun _ _ => isOk_nil) (A := TrimStill_A)
    (fun args h r hr => by
      unfold TrimStill_fs at hr
      split at hr
      · rename_i k ty0 c ty1 d ty2 e; cases hr; refine ⟨rfl, fun hp => ?_⟩; have hE := TrimStill_E k c d e ty0 ty1 ty2 hp; exact hE
      · cases hr)
end Go.Proofs.Ytahbkllfifmdfaa
