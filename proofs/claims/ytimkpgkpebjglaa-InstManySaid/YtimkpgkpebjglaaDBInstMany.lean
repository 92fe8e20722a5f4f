/-
  CONTRACTS, as data: InstMany. No proofs.
-/
import Derived.Test.YtimkpgkpebjglaaDA5
import Derived.Test.YtimkpgkpebjglaaTy
set_option linter.unusedSimpArgs false
set_option linter.unusedVariables false
namespace Go.Proofs.Ytimkpgkpebjglaa
open Go Go.RowKit Go.Ql Go.Vc


def manyF (n k : Int) (j : Nat) : List Arc := (List.range j).map (fun a : Nat => ⟨(a : Int) % n, k % n, 0, 1, 0⟩)
theorem manyF_succ (n k : Int) (j : Nat) : manyF n k (j + 1) = manyF n k j ++ [⟨(j : Int) % n, k % n, 0, 1, 0⟩] := by simp [manyF, List.range_succ]
theorem manyF_len (n k : Int) (j : Nat) : (manyF n k j).length = j := by simp [manyF]
theorem arcsErr_zero (n : Int) : ∀ (l : List Arc), (∀ a ∈ l, rightArcF a n = 0) → arcsErr n l = 0
  | [], _ => rfl
  | a :: l, h => by simp only [arcsErr, h a (by simp), arcsErr_zero n l (fun b hb => h b (by simp [hb]))]; simp
theorem supErr_zero : ∀ (l : List Int), (∀ x ∈ l, x = 0) → supErr l 0 = 0
  | [], _ => rfl
  | x :: l, h => by have := h x (by simp); subst this; simp only [supErr]; rw [if_neg (by omega)]; exact supErr_zero l (fun y hy => h y (by simp [hy]))
theorem cntLow_zero : ∀ (l : List Arc), (∀ a ∈ l, a.low = 0) → cntLow l = 0
  | [], _ => rfl
  | a :: l, h => by simp only [cntLow, h a (by simp), cntLow_zero l (fun b hb => h b (by simp [hb]))]; simp
theorem manyF_mem {n k : Int} {j : Nat} (hn : 0 < n) : ∀ a ∈ manyF n k j, rightArcF a n = 0 ∧ a.low = 0 := fun a ha => by
  simp only [manyF, List.mem_map] at ha
  obtain ⟨i, _, rfl⟩ := ha
  have h1 := Int.emod_nonneg (i : Int) (b := n) (by omega)
  have h2 := Int.emod_lt_of_pos (i : Int) hn
  have h3 := Int.emod_nonneg k (b := n) (by omega)
  have h4 := Int.emod_lt_of_pos k hn
  refine ⟨?_, rfl⟩
  unfold rightArcF
  grind


def InstMany_r (n : Int) (m : Int) (k : Int) : FRes := { pre := 0 ≤ n ∧ n ≤ 65535 ∧ 0 ≤ m ∧ m ≤ 65535 ∧ 0 ≤ k ∧ k ≤ 255, res := .bool (true), rows := [], eff := [] }
def InstMany_fs : FS := fun args h => match args, h with
  | [.int .u16 n, .int .u16 m, .int .u8 k], [] => some (InstMany_r n m k)
  | _, _ => none
def InstMany_an (n : Int) (m : Int) (k : Int) : List (Nat × Ann) := [(5, { G := (Nat), inv := fun j => ⟨[(2, SV.int IntKind.u8 k), (7, .int .i64 (60 + n % 8)), (8, .int .i64 (252 + m % 8)), (9, SV.ptr (5 : Nat) (0 : Nat) (0 : Nat) (0 : Nat)), (10, .int .i64 j)], [(5, Ent.box true 26 [SV.row (0 : Nat), SV.row (2 : Nat)]), (2, .row true 41 (.arcs (manyF (60 + n % 8) k j))), (0, .row true 2 (.ints .i64 (List.replicate (60 + n % 8).toNat 0)))], 6⟩, rel := fun j0 j => (j : Int) ≤ 252 + m % 8, meas := fun j => (252 + m % 8).toNat - j })]
def InstMany_A : List SV → Heap → List (Nat × Ann) := fun args h => match args, h with
  | [.int .u16 n, .int .u16 m, .int .u8 k], [] => InstMany_an n m k
  | _, _ => []
def InstMany_g : Specs := [(known_n, (true, specOf true known_fs)), (Right_n, (true, specOf true Right_fs)), (Span_n, (true, specOf true Span_fs))]
abbrev InstMany_n : Nat := 6
end Go.Proofs.Ytimkpgkpebjglaa
