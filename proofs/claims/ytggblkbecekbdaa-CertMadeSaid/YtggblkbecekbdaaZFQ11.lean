/- Part of the proof, FQ11. -/
import Derived.Test.YtggblkbecekbdaaZFP11
import Derived.Test.YtggblkbecekbdaaZDQ11
import Derived.Test.YtggblkbecekbdaaZVc11
set_option linter.unusedVariables false
set_option linter.all false
set_option linter.unusedSimpArgs false
set_option maxRecDepth 100000
namespace Go.Proofs.Ytggblkbecekbdaa
open Go Go.RowKit Go.Ql Go.Vc
theorem potF_len (e : List Int) (n : Nat) : (potF e n).length = n := by simp [potF]
theorem potF_succ (e : List Int) (n : Nat) : potF e (n + 1) = potF e n ++ [potE e n] := by simp [potF, List.range_succ]
def Pot_E0 (e : List Int) (n : Int) (ty0 : TypeId) : Prop :=
      ∃ (g0 : Nat),
 (g0 ≤ n.toNat ∧ (True ∧ n = n ∧ True ∧ (0 : Int) = (↑g0 : Int) ∧ True) ∧ [] = potF e g0 ∧ e = e ∧ True) ∧
 ∀ (g : Nat),
 g ≤ n.toNat →
 (decide ((↑g : Int) < n) = true →
 (decide ((↑g : Int) < (↑e.length : Int)) = true →
 ((0 : Int) ≤ (↑g : Int) ∧ (↑g : Int) < (↑e.length : Int)) ∧
 (↑g : Int).toNat < e.length ∧
 ∀ (x : Int),
 e[(↑g : Int).toNat]? = some x →
 (25 : Int) ≠ (0 : Int) ∧
 (potF e g).length + (1 : Nat) ≤ (1000000000 : Nat) ∧
 ∃ (g' : Nat),
 g' ≤ n.toNat ∧
 n.toNat - g' < n.toNat - g ∧
 (True ∧ n = n ∧ True ∧ IntKind.i64.wrap ((↑g : Int) + (1 : Int)) = (↑g' : Int) ∧ True) ∧
 potF e g ++ [IntKind.i64.wrap (IntKind.i64.wrap (x.tmod (25 : Int)) - (8 : Int))] = potF e g' ∧ e = e ∧ True) ∧
 (decide ((↑g : Int) < (↑e.length : Int)) = false →
 (potF e g).length + (1 : Nat) ≤ (1000000000 : Nat) ∧
 ∃ (g' : Nat),
 g' ≤ n.toNat ∧
 n.toNat - g' < n.toNat - g ∧
 (True ∧ n = n ∧ True ∧ IntKind.i64.wrap ((↑g : Int) + (1 : Int)) = (↑g' : Int) ∧ True) ∧ potF e g ++ [(0 : Int)] = potF e g' ∧ e = e ∧ True)) ∧
 (decide ((↑g : Int) < n) = false → (True ∧ True) ∧ potF e g = potF e n.toNat ∧ True)
theorem Pot_q (e : List Int) (n : Int) (ty0 : TypeId) : Pot_E0 e n ty0 = FVcP TT Pot_g (Pot_I e n) (Pot_an e n) Try.f16 [.row 0, .int .i64 n] [(0, .row false ty0 (.ints .u8 e))] (Pot_r e n) := by kernel_rfl
theorem Pot_E (e : List Int) (n : Int) (ty0 : TypeId) (hp : Bytes e ∧ e.length ≤ maxLen ∧ 0 ≤ n ∧ n ≤ 1000000) : FVc TT Pot_g (Pot_I e n) (Pot_an e n) Try.f16 [.row 0, .int .i64 n] [(0, .row false ty0 (.ints .u8 e))] (Pot_r e n) := by
  refine FVc.of (Pot_E0 e n ty0) (Pot_q e n ty0) ?_
  unfold Pot_E0
  obtain ⟨p1, p2, p3, p4⟩ := hp
  simp only [eq_self, exists_const, forall_const, decide_eq_true_eq, decide_eq_false_iff_not, and_true, true_and, bne_iff_ne, ne_eq, bne_eq_false_iff_eq, Int.toNat_natCast, Bool.not_eq_true', Bool.not_eq_false', beq_iff_eq, beq_eq_false_iff_ne, nilEq_true]
  refine ⟨0, ⟨by omega, rfl, rfl⟩, fun g hg => ⟨fun h1 => ⟨fun h2 => ⟨by omega, by omega, fun x hx => ⟨by decide, ?_⟩⟩, fun h2 => ?_⟩, fun h1 => ?_⟩⟩
  · have hb := p1 x (List.mem_of_getElem? hx)
    have hd : e.getD g 0 = x := by simp [List.getD, hx]
    refine ⟨by rw [potF_len]; omega, g + 1, by omega, by omega, by rw [w64 (by omega) (by omega)]; omega, ?_⟩
    rw [potF_succ, tmod_pos hb.1, w64 (x := x % 25) (by omega) (by omega), w64 (by omega) (by omega)]
    unfold potE
    rw [if_pos (by omega), hd]
  · refine ⟨by rw [potF_len]; omega, g + 1, by omega, by omega, by rw [w64 (by omega) (by omega)]; omega, ?_⟩
    rw [potF_succ]
    unfold potE
    rw [if_neg (by omega)]
  · rw [show n.toNat = g by omega]
theorem Pot_ok : SpecOk Try.prog Pot_n true (specOf true Pot_fs) :=
  spec_ok' TT_ok (show GsOk Try.prog Pot_g from gsOk_nil) (by kernel_rfl) mixedOrders Try.func16 rfl rfl (by kernel_rfl) (n := 2) (by decide +kernel) (I := Pot_IA) (fun _ _ => isOk_nil) (A := Pot_A)
    (fun args h r hr => by
      unfold Pot_fs at hr
      split at hr
      · rename_i n ty0 e; cases hr; refine ⟨rfl, fun hp => ?_⟩; have hE := Pot_E e n ty0 hp; exact hE
      · cases hr)
end Go.Proofs.Ytggblkbecekbdaa
