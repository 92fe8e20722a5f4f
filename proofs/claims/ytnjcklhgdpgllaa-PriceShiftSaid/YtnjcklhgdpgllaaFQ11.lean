/-
  CONTRACTS, PROVED: known11, Pot, asks11, bound11.
-/
import Derived.Test.YtnjcklhgdpgllaaFP11
import Derived.Test.YtnjcklhgdpgllaaDQ11
import Derived.Test.YtnjcklhgdpgllaaVc11
set_option linter.unusedVariables false
set_option linter.all false
set_option linter.unusedSimpArgs false
set_option maxRecDepth 100000
namespace Go.Proofs.Ytnjcklhgdpgllaa
open Go Go.RowKit Go.Ql Go.Vc

def known11_E0 : Prop :=
      ((2 : Nat) ≤ (140737488351232 : Nat) ∧
 (1 : Nat) ≤ (140737488351232 : Nat) ∧
 A64 [(3 : Int), (-3 : Int)] ∧
 A64a [{ src := (0 : Int), dst := (1 : Int), low := (0 : Int), cap := (4 : Int), cost := (5 : Int) : Arc }] ∧
 A64c [{ src := (0 : Int), dst := (1 : Int), low := (0 : Int), cap := (4 : Int), cost := (5 : Int) : Arc }] ∧ A64 [(7 : Int), (2 : Int)]) ∧
 (A64 [(7 : Int), (2 : Int)] ∧ A64c [{ src := (0 : Int), dst := (1 : Int), low := (0 : Int), cap := (4 : Int), cost := (5 : Int) : Arc }]) ∧
 I64 (0 : Int) ∧
 (decide
 ([(W
 (redF { sup := [(3 : Int), (-3 : Int)], arcs := [{ src := (0 : Int), dst := (1 : Int), low := (0 : Int), cap := (4 : Int), cost := (5 : Int) : Arc }] : Inst }
 [(7 : Int), (2 : Int)] (0 : Int))).hi,
 (W
 (redF { sup := [(3 : Int), (-3 : Int)], arcs := [{ src := (0 : Int), dst := (1 : Int), low := (0 : Int), cap := (4 : Int), cost := (5 : Int) : Arc }] : Inst }
 [(7 : Int), (2 : Int)] (0 : Int))).lo] =
 [(W (0 : Int)).hi, (W (0 : Int)).lo]) =
 true →
 (((2 : Nat) ≤ (10000 : Nat) ∧
 (1 : Nat) ≤ (10000 : Nat) ∧
 A64 [(3 : Int)] ∧
 A64 [(3 : Int), (-3 : Int)] ∧
 A64 [(7 : Int), (2 : Int)] ∧ A64c [{ src := (0 : Int), dst := (1 : Int), low := (0 : Int), cap := (4 : Int), cost := (5 : Int) : Arc }]) ∧
 ((slackF { sup := [(3 : Int), (-3 : Int)], arcs := [{ src := (0 : Int), dst := (1 : Int), low := (0 : Int), cap := (4 : Int), cost := (5 : Int) : Arc }] : Inst }
 [(3 : Int)] [(7 : Int), (2 : Int)] ==
 (0 : Int)) =
 true →
 (((2 : Nat) ≤ (10000 : Nat) ∧
 (1 : Nat) ≤ (10000 : Nat) ∧
 A64 [(3 : Int)] ∧
 A64 [(3 : Int), (-3 : Int)] ∧
 A64 [(7 : Int), (3 : Int)] ∧ A64c [{ src := (0 : Int), dst := (1 : Int), low := (0 : Int), cap := (4 : Int), cost := (5 : Int) : Arc }]) ∧
 ((slackF
 { sup := [(3 : Int), (-3 : Int)], arcs := [{ src := (0 : Int), dst := (1 : Int), low := (0 : Int), cap := (4 : Int), cost := (5 : Int) : Arc }] : Inst }
 [(3 : Int)] [(7 : Int), (3 : Int)] ==
 (33 : Int)) =
 true →
 ((boundF
 { sup := [(3 : Int), (-3 : Int)], arcs := [{ src := (0 : Int), dst := (1 : Int), low := (0 : Int), cap := (4 : Int), cost := (5 : Int) : Arc }] : Inst }
 [(7 : Int), (2 : Int)]).isSome =
 true →
 I64 (15 : Int) ∧
 (decide
 ([(boundW
 (boundF
 { sup := [(3 : Int), (-3 : Int)], arcs := [{ src := (0 : Int), dst := (1 : Int), low := (0 : Int), cap := (4 : Int), cost := (5 : Int) : Arc }] : Inst }
 [(7 : Int), (2 : Int)])).hi,
 (boundW
 (boundF
 { sup := [(3 : Int), (-3 : Int)], arcs := [{ src := (0 : Int), dst := (1 : Int), low := (0 : Int), cap := (4 : Int), cost := (5 : Int) : Arc }] : Inst }
 [(7 : Int), (2 : Int)])).lo] =
 [(W (15 : Int)).hi, (W (15 : Int)).lo]) =
 true ∧
 True) ∧
 True) ∧
 ((boundF
 { sup := [(3 : Int), (-3 : Int)], arcs := [{ src := (0 : Int), dst := (1 : Int), low := (0 : Int), cap := (4 : Int), cost := (5 : Int) : Arc }] : Inst }
 [(7 : Int), (2 : Int)]).isSome =
 false →
 (false = true ∧ True) ∧ True)) ∧
 ((slackF
 { sup := [(3 : Int), (-3 : Int)], arcs := [{ src := (0 : Int), dst := (1 : Int), low := (0 : Int), cap := (4 : Int), cost := (5 : Int) : Arc }] : Inst }
 [(3 : Int)] [(7 : Int), (3 : Int)] ==
 (33 : Int)) =
 false →
 (false = true ∧ True) ∧ True)) ∧
 ((2 : Nat) ≤ (10000 : Nat) ∧
 (1 : Nat) ≤ (10000 : Nat) ∧
 A64 [(3 : Int)] ∧
 A64 [(3 : Int), (-3 : Int)] ∧
 A64 [(7 : Int), (3 : Int)] ∧ A64c [{ src := (0 : Int), dst := (1 : Int), low := (0 : Int), cap := (4 : Int), cost := (5 : Int) : Arc }]) ∧
 ((slackF
 { sup := [(3 : Int), (-3 : Int)], arcs := [{ src := (0 : Int), dst := (1 : Int), low := (0 : Int), cap := (4 : Int), cost := (5 : Int) : Arc }] : Inst }
 [(3 : Int)] [(7 : Int), (3 : Int)] ==
 (33 : Int)) =
 true →
 ((boundF
 { sup := [(3 : Int), (-3 : Int)], arcs := [{ src := (0 : Int), dst := (1 : Int), low := (0 : Int), cap := (4 : Int), cost := (5 : Int) : Arc }] : Inst }
 [(7 : Int), (2 : Int)]).isSome =
 true →
 I64 (15 : Int) ∧
 (decide
 ([(boundW
 (boundF
 { sup := [(3 : Int), (-3 : Int)], arcs := [{ src := (0 : Int), dst := (1 : Int), low := (0 : Int), cap := (4 : Int), cost := (5 : Int) : Arc }] : Inst }
 [(7 : Int), (2 : Int)])).hi,
 (boundW
 (boundF
 { sup := [(3 : Int), (-3 : Int)], arcs := [{ src := (0 : Int), dst := (1 : Int), low := (0 : Int), cap := (4 : Int), cost := (5 : Int) : Arc }] : Inst }
 [(7 : Int), (2 : Int)])).lo] =
 [(W (15 : Int)).hi, (W (15 : Int)).lo]) =
 true ∧
 True) ∧
 True) ∧
 ((boundF
 { sup := [(3 : Int), (-3 : Int)], arcs := [{ src := (0 : Int), dst := (1 : Int), low := (0 : Int), cap := (4 : Int), cost := (5 : Int) : Arc }] : Inst }
 [(7 : Int), (2 : Int)]).isSome =
 false →
 (false = true ∧ True) ∧ True)) ∧
 ((slackF
 { sup := [(3 : Int), (-3 : Int)], arcs := [{ src := (0 : Int), dst := (1 : Int), low := (0 : Int), cap := (4 : Int), cost := (5 : Int) : Arc }] : Inst }
 [(3 : Int)] [(7 : Int), (3 : Int)] ==
 (33 : Int)) =
 false →
 (false = true ∧ True) ∧ True)) ∧
 ((slackF { sup := [(3 : Int), (-3 : Int)], arcs := [{ src := (0 : Int), dst := (1 : Int), low := (0 : Int), cap := (4 : Int), cost := (5 : Int) : Arc }] : Inst }
 [(3 : Int)] [(7 : Int), (2 : Int)] ==
 (0 : Int)) =
 false →
 ((false = true ∧ True) ∧ True) ∧ (false = true ∧ True) ∧ True)) ∧
 ((2 : Nat) ≤ (10000 : Nat) ∧
 (1 : Nat) ≤ (10000 : Nat) ∧
 A64 [(3 : Int)] ∧
 A64 [(3 : Int), (-3 : Int)] ∧
 A64 [(7 : Int), (2 : Int)] ∧ A64c [{ src := (0 : Int), dst := (1 : Int), low := (0 : Int), cap := (4 : Int), cost := (5 : Int) : Arc }]) ∧
 ((slackF { sup := [(3 : Int), (-3 : Int)], arcs := [{ src := (0 : Int), dst := (1 : Int), low := (0 : Int), cap := (4 : Int), cost := (5 : Int) : Arc }] : Inst }
 [(3 : Int)] [(7 : Int), (2 : Int)] ==
 (0 : Int)) =
 true →
 (((2 : Nat) ≤ (10000 : Nat) ∧
 (1 : Nat) ≤ (10000 : Nat) ∧
 A64 [(3 : Int)] ∧
 A64 [(3 : Int), (-3 : Int)] ∧
 A64 [(7 : Int), (3 : Int)] ∧ A64c [{ src := (0 : Int), dst := (1 : Int), low := (0 : Int), cap := (4 : Int), cost := (5 : Int) : Arc }]) ∧
 ((slackF
 { sup := [(3 : Int), (-3 : Int)], arcs := [{ src := (0 : Int), dst := (1 : Int), low := (0 : Int), cap := (4 : Int), cost := (5 : Int) : Arc }] : Inst }
 [(3 : Int)] [(7 : Int), (3 : Int)] ==
 (33 : Int)) =
 true →
 ((boundF
 { sup := [(3 : Int), (-3 : Int)], arcs := [{ src := (0 : Int), dst := (1 : Int), low := (0 : Int), cap := (4 : Int), cost := (5 : Int) : Arc }] : Inst }
 [(7 : Int), (2 : Int)]).isSome =
 true →
 I64 (15 : Int) ∧
 (decide
 ([(boundW
 (boundF
 { sup := [(3 : Int), (-3 : Int)], arcs := [{ src := (0 : Int), dst := (1 : Int), low := (0 : Int), cap := (4 : Int), cost := (5 : Int) : Arc }] : Inst }
 [(7 : Int), (2 : Int)])).hi,
 (boundW
 (boundF
 { sup := [(3 : Int), (-3 : Int)], arcs := [{ src := (0 : Int), dst := (1 : Int), low := (0 : Int), cap := (4 : Int), cost := (5 : Int) : Arc }] : Inst }
 [(7 : Int), (2 : Int)])).lo] =
 [(W (15 : Int)).hi, (W (15 : Int)).lo]) =
 true ∧
 True) ∧
 True) ∧
 ((boundF
 { sup := [(3 : Int), (-3 : Int)], arcs := [{ src := (0 : Int), dst := (1 : Int), low := (0 : Int), cap := (4 : Int), cost := (5 : Int) : Arc }] : Inst }
 [(7 : Int), (2 : Int)]).isSome =
 false →
 (false = true ∧ True) ∧ True)) ∧
 ((slackF
 { sup := [(3 : Int), (-3 : Int)], arcs := [{ src := (0 : Int), dst := (1 : Int), low := (0 : Int), cap := (4 : Int), cost := (5 : Int) : Arc }] : Inst }
 [(3 : Int)] [(7 : Int), (3 : Int)] ==
 (33 : Int)) =
 false →
 (false = true ∧ True) ∧ True)) ∧
 ((2 : Nat) ≤ (10000 : Nat) ∧
 (1 : Nat) ≤ (10000 : Nat) ∧
 A64 [(3 : Int)] ∧
 A64 [(3 : Int), (-3 : Int)] ∧
 A64 [(7 : Int), (3 : Int)] ∧ A64c [{ src := (0 : Int), dst := (1 : Int), low := (0 : Int), cap := (4 : Int), cost := (5 : Int) : Arc }]) ∧
 ((slackF
 { sup := [(3 : Int), (-3 : Int)], arcs := [{ src := (0 : Int), dst := (1 : Int), low := (0 : Int), cap := (4 : Int), cost := (5 : Int) : Arc }] : Inst }
 [(3 : Int)] [(7 : Int), (3 : Int)] ==
 (33 : Int)) =
 true →
 ((boundF
 { sup := [(3 : Int), (-3 : Int)], arcs := [{ src := (0 : Int), dst := (1 : Int), low := (0 : Int), cap := (4 : Int), cost := (5 : Int) : Arc }] : Inst }
 [(7 : Int), (2 : Int)]).isSome =
 true →
 I64 (15 : Int) ∧
 (decide
 ([(boundW
 (boundF
 { sup := [(3 : Int), (-3 : Int)], arcs := [{ src := (0 : Int), dst := (1 : Int), low := (0 : Int), cap := (4 : Int), cost := (5 : Int) : Arc }] : Inst }
 [(7 : Int), (2 : Int)])).hi,
 (boundW
 (boundF
 { sup := [(3 : Int), (-3 : Int)], arcs := [{ src := (0 : Int), dst := (1 : Int), low := (0 : Int), cap := (4 : Int), cost := (5 : Int) : Arc }] : Inst }
 [(7 : Int), (2 : Int)])).lo] =
 [(W (15 : Int)).hi, (W (15 : Int)).lo]) =
 true ∧
 True) ∧
 True) ∧
 ((boundF
 { sup := [(3 : Int), (-3 : Int)], arcs := [{ src := (0 : Int), dst := (1 : Int), low := (0 : Int), cap := (4 : Int), cost := (5 : Int) : Arc }] : Inst }
 [(7 : Int), (2 : Int)]).isSome =
 false →
 (false = true ∧ True) ∧ True)) ∧
 ((slackF
 { sup := [(3 : Int), (-3 : Int)], arcs := [{ src := (0 : Int), dst := (1 : Int), low := (0 : Int), cap := (4 : Int), cost := (5 : Int) : Arc }] : Inst }
 [(3 : Int)] [(7 : Int), (3 : Int)] ==
 (33 : Int)) =
 false →
 (false = true ∧ True) ∧ True)) ∧
 ((slackF { sup := [(3 : Int), (-3 : Int)], arcs := [{ src := (0 : Int), dst := (1 : Int), low := (0 : Int), cap := (4 : Int), cost := (5 : Int) : Arc }] : Inst }
 [(3 : Int)] [(7 : Int), (2 : Int)] ==
 (0 : Int)) =
 false →
 ((false = true ∧ True) ∧ True) ∧ (false = true ∧ True) ∧ True)) ∧
 (decide
 ([(W
 (redF { sup := [(3 : Int), (-3 : Int)], arcs := [{ src := (0 : Int), dst := (1 : Int), low := (0 : Int), cap := (4 : Int), cost := (5 : Int) : Arc }] : Inst }
 [(7 : Int), (2 : Int)] (0 : Int))).hi,
 (W
 (redF { sup := [(3 : Int), (-3 : Int)], arcs := [{ src := (0 : Int), dst := (1 : Int), low := (0 : Int), cap := (4 : Int), cost := (5 : Int) : Arc }] : Inst }
 [(7 : Int), (2 : Int)] (0 : Int))).lo] =
 [(W (0 : Int)).hi, (W (0 : Int)).lo]) =
 false →
 (((false = true ∧ True) ∧ True) ∧ (false = true ∧ True) ∧ True) ∧ ((false = true ∧ True) ∧ True) ∧ (false = true ∧ True) ∧ True)
theorem known11_q : known11_E0 = FVcP TT known11_g (known11_I) (known11_an) Try.f15 [] [] (known11_r) := by kernel_rfl
theorem known11_E (hp : True) : FVc TT known11_g (known11_I) (known11_an) Try.f15 [] [] (known11_r) := by
  refine FVc.of (known11_E0) (known11_q) ?_
  unfold known11_E0
  have k1 : boundF ⟨[3, -3], [⟨0, 1, 0, 4, 5⟩]⟩ [7, 2] = some 15 := by decide
  have k2 : redF ⟨[3, -3], [⟨0, 1, 0, 4, 5⟩]⟩ [7, 2] 0 = 0 := by decide
  have k3 : slackF ⟨[3, -3], [⟨0, 1, 0, 4, 5⟩]⟩ [3] [7, 2] = 0 := by decide
  have k4 : slackF ⟨[3, -3], [⟨0, 1, 0, 4, 5⟩]⟩ [3] [7, 3] = 33 := by decide
  have a1 : A64 [3] := by simp [A64, I64]
  have a2 : A64 [7, 2] := by simp [A64, I64]
  have a3 : A64 [3, -3] := by simp [A64, I64]
  have a4 : A64 [7, 3] := by simp [A64, I64]
  have a5 : A64c [⟨0, 1, 0, 4, 5⟩] := by simp [A64c, I64]
  have a6 : A64a [⟨0, 1, 0, 4, 5⟩] := by simp [A64a, I64]
  have i1 : I64 0 := by simp [I64]
  have i3 : I64 15 := by simp [I64]
  simp [k1, k2, k3, k4, a1, a2, a3, a4, a5, a6, i1, i3, boundW]

theorem known11_ok : SpecOk Try.prog known11_n true (specOf true known11_fs) :=
  spec_ok' TT_ok (show GsOk Try.prog known11_g from gsOk_cons Bound_ok (gsOk_cons Reduced_ok (gsOk_cons Of_ok (gsOk_cons Slack_ok (gsOk_nil))))) (by kernel_rfl) mixedOrders Try.func15 rfl rfl (by kernel_rfl) (n := 0) (by decide +kernel) (I := known11_IA) (fun _ _ => isOk_nil) (A := known11_A)
    (fun args h r hr => by
      unfold known11_fs at hr
      split at hr
      · cases hr; refine ⟨rfl, fun hp => ?_⟩; have hE := known11_E  hp; exact hE
      · cases hr)

theorem potF_len (e : List Int) (n : Nat) : (potF e n).length = n := by simp [potF]
theorem potF_succ (e : List Int) (n : Nat) : potF e (n + 1) = potF e n ++ [potE e n] := by simp [potF, List.range_succ]
theorem potF_mem {e : List Int} {n : Nat} {p : Int} (h : p ∈ potF e n) : -8 ≤ p ∧ p ≤ 16 := by
  unfold potF at h
  rw [List.mem_map] at h
  obtain ⟨k, _, rfl⟩ := h
  unfold potE
  split <;> omega
theorem potF_A64 (e : List Int) (n : Nat) : A64 (potF e n) := fun p hp => by
  have := potF_mem hp
  unfold I64; omega

def Pot_E0 (e : List Int) (n : Int) (ty0 : TypeId) : Prop :=
      ∃ (g0 : Nat),
 (g0 ≤ n.toNat ∧ (True ∧ n = n ∧ True ∧ (0 : Int) = (↑g0 : Int) ∧ True) ∧ [] = potF e g0 ∧ e = e ∧ True) ∧
 ∀ (g : Nat),
 g ≤ n.toNat →
 (decide ((↑g : Int) < n) = true →
 (decide ((↑g : Int) < (↑e.length : Int)) = true →
 ((0 : Int) ≤ (↑g : Int) ∧ (↑g : Int) < (↑e.length : Int)) ∧
 (↑g : Int).toNat < e.length ∧
 ∀ (x : Int),
 e[(↑g : Int).toNat]? = some x →
 (25 : Int) ≠ (0 : Int) ∧
 (potF e g).length + (1 : Nat) ≤ (1000000000 : Nat) ∧
 ∃ (g' : Nat),
 g' ≤ n.toNat ∧
 n.toNat - g' < n.toNat - g ∧
 (True ∧ n = n ∧ True ∧ IntKind.i64.wrap ((↑g : Int) + (1 : Int)) = (↑g' : Int) ∧ True) ∧
 potF e g ++ [IntKind.i64.wrap (IntKind.i64.wrap (x.tmod (25 : Int)) - (8 : Int))] = potF e g' ∧ e = e ∧ True) ∧
 (decide ((↑g : Int) < (↑e.length : Int)) = false →
 (potF e g).length + (1 : Nat) ≤ (1000000000 : Nat) ∧
 ∃ (g' : Nat),
 g' ≤ n.toNat ∧
 n.toNat - g' < n.toNat - g ∧
 (True ∧ n = n ∧ True ∧ IntKind.i64.wrap ((↑g : Int) + (1 : Int)) = (↑g' : Int) ∧ True) ∧ potF e g ++ [(0 : Int)] = potF e g' ∧ e = e ∧ True)) ∧
 (decide ((↑g : Int) < n) = false → (True ∧ True) ∧ potF e g = potF e n.toNat ∧ True)
theorem Pot_q (e : List Int) (n : Int) (ty0 : TypeId) : Pot_E0 e n ty0 = FVcP TT Pot_g (Pot_I e n) (Pot_an e n) Try.f22 [.row 0, .int .i64 n] [(0, .row false ty0 (.ints .u8 e))] (Pot_r e n) := by kernel_rfl
theorem Pot_E (e : List Int) (n : Int) (ty0 : TypeId) (hp : Bytes e ∧ e.length ≤ maxLen ∧ 0 ≤ n ∧ n ≤ 1000000) : FVc TT Pot_g (Pot_I e n) (Pot_an e n) Try.f22 [.row 0, .int .i64 n] [(0, .row false ty0 (.ints .u8 e))] (Pot_r e n) := by
  refine FVc.of (Pot_E0 e n ty0) (Pot_q e n ty0) ?_
  unfold Pot_E0
  obtain ⟨p1, p2, p3, p4⟩ := hp
  simp only [eq_self, exists_const, forall_const, decide_eq_true_eq, decide_eq_false_iff_not, and_true, true_and, bne_iff_ne, ne_eq, bne_eq_false_iff_eq, Int.toNat_natCast, Bool.not_eq_true', Bool.not_eq_false', beq_iff_eq, beq_eq_false_iff_ne, nilEq_true]
  refine ⟨0, ⟨by omega, rfl, rfl⟩, fun g hg => ⟨fun h1 => ⟨fun h2 => ⟨by omega, by omega, fun x hx => ⟨by decide, ?_⟩⟩, fun h2 => ?_⟩, fun h1 => ?_⟩⟩
  · have hb := p1 x (List.mem_of_getElem? hx)
    have hd : e.getD g 0 = x := by simp [List.getD, hx]
    refine ⟨by rw [potF_len]; omega, g + 1, by omega, by omega, by rw [w64 (by omega) (by omega)]; omega, ?_⟩
    rw [potF_succ, tmod_pos hb.1, w64 (x := x % 25) (by omega) (by omega), w64 (by omega) (by omega)]
    unfold potE
    rw [if_pos (by omega), hd]
  · refine ⟨by rw [potF_len]; omega, g + 1, by omega, by omega, by rw [w64 (by omega) (by omega)]; omega, ?_⟩
    rw [potF_succ]
    unfold potE
    rw [if_neg (by omega)]
  · rw [show n.toNat = g by omega]

theorem Pot_ok : SpecOk Try.prog Pot_n true (specOf true Pot_fs) :=
  spec_ok' TT_ok (show GsOk Try.prog Pot_g from gsOk_nil) (by kernel_rfl) mixedOrders Try.func22 rfl rfl (by kernel_rfl) (n := 2) (by decide +kernel) (I := Pot_IA) (fun _ _ => isOk_nil) (A := Pot_A)
    (fun args h r hr => by
      unfold Pot_fs at hr
      split at hr
      · rename_i n ty0 e; cases hr; refine ⟨rfl, fun hp => ?_⟩; have hE := Pot_E e n ty0 hp; exact hE
      · cases hr)

def asks11_E0 (I : Inst) (x : List Int) (pot : List Int) (a : Int) (ty0 ty1 ty2 ty3 : TypeId) : Prop :=
      (I.sup.length ≤ (140737488351232 : Nat) ∧ I.arcs.length ≤ (140737488351232 : Nat) ∧ A64 I.sup ∧ A64a I.arcs ∧ A64c I.arcs ∧ A64 pot) ∧
 (I.sup.length ≤ (140737488351232 : Nat) ∧ I.arcs.length ≤ (140737488351232 : Nat) ∧ A64 I.sup ∧ A64a I.arcs ∧ A64c I.arcs ∧ A64 pot) ∧
 True ∧
 ((rightF I == (0 : Int)) = true →
 ((!decide ([(boundW (boundF I pot)).hi, (boundW (boundF I pot)).lo] = [(boundW (boundR I pot)).hi, (boundW (boundR I pot)).lo])) = true → (false = true ∧ True) ∧ True) ∧
 ((!decide ([(boundW (boundF I pot)).hi, (boundW (boundF I pot)).lo] = [(boundW (boundR I pot)).hi, (boundW (boundR I pot)).lo])) = false →
 ((!(boundF I pot).isSome == (boundR I pot).isSome) = true → (false = true ∧ True) ∧ True) ∧
 ((!(boundF I pot).isSome == (boundR I pot).isSome) = false →
 (A64 pot ∧ A64c I.arcs) ∧
 (A64 pot ∧ A64c I.arcs) ∧
 (decide ([(W (redF I pot a)).hi, (W (redF I pot a)).lo] = [(W (redF I pot a)).hi, (W (redF I pot a)).lo]) = true →
 (A64 pot ∧ A64c I.arcs) ∧
 (A64 pot ∧ A64c I.arcs) ∧
 (decide ([(W (redF I pot (0 : Int))).hi, (W (redF I pot (0 : Int))).lo] = [(W (redF I pot (0 : Int))).hi, (W (redF I pot (0 : Int))).lo]) = true →
 (I.sup.length ≤ (10000 : Nat) ∧ I.arcs.length ≤ (10000 : Nat) ∧ A64 x ∧ A64 I.sup ∧ A64 pot ∧ A64c I.arcs) ∧
 (I.sup.length ≤ (10000 : Nat) ∧ I.arcs.length ≤ (10000 : Nat) ∧ A64 x ∧ A64 I.sup ∧ A64 pot ∧ A64c I.arcs) ∧
 ((IntKind.i64.wrap (slackF I x pot) == slackF I x pot) = true ∧ True) ∧ True) ∧
 (decide ([(W (redF I pot (0 : Int))).hi, (W (redF I pot (0 : Int))).lo] = [(W (redF I pot (0 : Int))).hi, (W (redF I pot (0 : Int))).lo]) = false →
 (false = true ∧ True) ∧ True)) ∧
 (decide ([(W (redF I pot a)).hi, (W (redF I pot a)).lo] = [(W (redF I pot a)).hi, (W (redF I pot a)).lo]) = false → (false = true ∧ True) ∧ True)))) ∧
 ((rightF I == (0 : Int)) = false →
 (A64 pot ∧ A64c I.arcs) ∧
 (A64 pot ∧ A64c I.arcs) ∧
 (decide ([(W (redF I pot a)).hi, (W (redF I pot a)).lo] = [(W (redF I pot a)).hi, (W (redF I pot a)).lo]) = true →
 (A64 pot ∧ A64c I.arcs) ∧
 (A64 pot ∧ A64c I.arcs) ∧
 (decide ([(W (redF I pot (0 : Int))).hi, (W (redF I pot (0 : Int))).lo] = [(W (redF I pot (0 : Int))).hi, (W (redF I pot (0 : Int))).lo]) = true →
 (I.sup.length ≤ (10000 : Nat) ∧ I.arcs.length ≤ (10000 : Nat) ∧ A64 x ∧ A64 I.sup ∧ A64 pot ∧ A64c I.arcs) ∧
 (I.sup.length ≤ (10000 : Nat) ∧ I.arcs.length ≤ (10000 : Nat) ∧ A64 x ∧ A64 I.sup ∧ A64 pot ∧ A64c I.arcs) ∧
 ((IntKind.i64.wrap (slackF I x pot) == slackF I x pot) = true ∧ True) ∧ True) ∧
 (decide ([(W (redF I pot (0 : Int))).hi, (W (redF I pot (0 : Int))).lo] = [(W (redF I pot (0 : Int))).hi, (W (redF I pot (0 : Int))).lo]) = false →
 (false = true ∧ True) ∧ True)) ∧
 (decide ([(W (redF I pot a)).hi, (W (redF I pot a)).lo] = [(W (redF I pot a)).hi, (W (redF I pot a)).lo]) = false → (false = true ∧ True) ∧ True))
theorem asks11_q (I : Inst) (x : List Int) (pot : List Int) (a : Int) (ty0 ty1 ty2 ty3 : TypeId) : asks11_E0 I x pot a ty0 ty1 ty2 ty3 = FVcP TT asks11_g (asks11_I I x pot a) (asks11_an I x pot a) Try.f33 [.agg [.row 0, .row 1], .row 2, .row 3, .int .i64 a] [(0, .row false ty0 (.ints .i64 I.sup)), (1, .row false ty1 (.arcs I.arcs)), (2, .row false ty2 (.ints .i64 x)), (3, .row false ty3 (.ints .i64 pot))] (asks11_r I x pot a) := by kernel_rfl
theorem asks11_E (I : Inst) (x : List Int) (pot : List Int) (a : Int) (ty0 ty1 ty2 ty3 : TypeId) (hp : I.sup.length ≤ 10000 ∧ I.arcs.length ≤ 10000 ∧ A64 x ∧ A64 I.sup ∧ A64 pot ∧ A64c I.arcs ∧ A64a I.arcs) : FVc TT asks11_g (asks11_I I x pot a) (asks11_an I x pot a) Try.f33 [.agg [.row 0, .row 1], .row 2, .row 3, .int .i64 a] [(0, .row false ty0 (.ints .i64 I.sup)), (1, .row false ty1 (.arcs I.arcs)), (2, .row false ty2 (.ints .i64 x)), (3, .row false ty3 (.ints .i64 pot))] (asks11_r I x pot a) := by
  refine FVc.of (asks11_E0 I x pot a ty0 ty1 ty2 ty3) (asks11_q I x pot a ty0 ty1 ty2 ty3) ?_
  unfold asks11_E0
  obtain ⟨p1, p2, p3, p4, p5, p6, p7⟩ := hp
  have hb := slackF_small I x pot
  have hw : IntKind.i64.wrap (slackF I x pot) = slackF I x pot := w64 (by omega) (by omega)
  simp only [eq_self, exists_const, forall_const, decide_eq_true_eq, decide_eq_false_iff_not, and_true, true_and, bne_iff_ne, ne_eq, bne_eq_false_iff_eq, Int.toNat_natCast, Bool.not_eq_true', Bool.not_eq_false', beq_iff_eq, beq_eq_false_iff_ne, nilEq_true]
  have P : I.sup.length ≤ 140737488351232 ∧ I.arcs.length ≤ 140737488351232 := ⟨by omega, by omega⟩
  refine ⟨⟨P.1, P.2, p4, p7, p6, p5⟩, ⟨P.1, P.2, p4, p7, p6, p5⟩, fun h => ?_, fun h => ?_⟩
  · rw [bound_eq h]; simp [p1, p2, p3, p4, p5, p6, p7, hw]
  · simp [p1, p2, p3, p4, p5, p6, p7, hw]

theorem asks11_ok : SpecOk Try.prog asks11_n true (specOf true asks11_fs) :=
  spec_ok' TT_ok (show GsOk Try.prog asks11_g from gsOk_cons Bound_ok (gsOk_cons rBound_ok (gsOk_cons rRight_ok (gsOk_cons Reduced_ok (gsOk_cons rReduced_ok (gsOk_cons Slack_ok (gsOk_cons rSlack_ok (gsOk_nil)))))))) (by kernel_rfl) mixedOrders Try.func33 rfl rfl (by kernel_rfl) (n := 4) (by decide +kernel) (I := asks11_IA) (fun _ _ => isOk_nil) (A := asks11_A)
    (fun args h r hr => by
      unfold asks11_fs at hr
      split at hr
      · rename_i a ty0 I_s ty1 I_a ty2 x ty3 pot; cases hr; refine ⟨rfl, fun hp => ?_⟩; have hE := asks11_E ⟨I_s, I_a⟩ x pot a ty0 ty1 ty2 ty3 hp; exact hE
      · cases hr)

def bound11_E0 (I : Inst) (x : List Int) (pot : List Int) (ty0 ty1 ty2 ty3 : TypeId) : Prop :=
      (I.sup.length ≤ (140737488351232 : Nat) ∧ I.arcs.length ≤ (140737488351232 : Nat) ∧ A64 I.sup ∧ A64a I.arcs ∧ A64c I.arcs ∧ A64 pot) ∧
 (I.sup.length ≤ (10000 : Nat) ∧ I.arcs.length ≤ (10000 : Nat) ∧ A64 x ∧ A64 I.sup) ∧
 ((fitsF I x != (0 : Int)) = true → (true = true ∧ True) ∧ True) ∧
 ((fitsF I x != (0 : Int)) = false →
 (I.sup.length ≤ (10000 : Nat) ∧ I.arcs.length ≤ (10000 : Nat) ∧ A64 x ∧ A64 I.sup ∧ A64 pot ∧ A64c I.arcs) ∧
 (A64 x ∧ A64c I.arcs ∧ I.arcs.length ≤ (1000000 : Nat)) ∧
 ((boundW (boundF I pot)).ok ∧ (W (costF I x)).ok) ∧
 ((!(boundF I pot).isSome) = true → ((slackF I x pot == (33 : Int)) = true ∧ True) ∧ True) ∧
 ((!(boundF I pot).isSome) = false →
 (decide (wcmp (boundW (boundF I pot)) (W (costF I x)) ≤ (0 : Int)) = true →
 (((wcmp (boundW (boundF I pot)) (W (costF I x)) == (0 : Int)) == (slackF I x pot == (0 : Int))) = true ∧ True) ∧ True) ∧
 (decide (wcmp (boundW (boundF I pot)) (W (costF I x)) ≤ (0 : Int)) = false → (false = true ∧ True) ∧ True)))
theorem bound11_q (I : Inst) (x : List Int) (pot : List Int) (ty0 ty1 ty2 ty3 : TypeId) : bound11_E0 I x pot ty0 ty1 ty2 ty3 = FVcP TT bound11_g (bound11_I I x pot) (bound11_an I x pot) Try.f21 [.agg [.row 0, .row 1], .row 2, .row 3] [(0, .row false ty0 (.ints .i64 I.sup)), (1, .row false ty1 (.arcs I.arcs)), (2, .row false ty2 (.ints .i64 x)), (3, .row false ty3 (.ints .i64 pot))] (bound11_r I x pot) := by kernel_rfl
theorem bound11_E (I : Inst) (x : List Int) (pot : List Int) (ty0 ty1 ty2 ty3 : TypeId) (hp : rightF I = 0 ∧ A64 x ∧ A64 I.sup ∧ Within 4398046511104 I.sup ∧ A64 pot ∧ A64c I.arcs ∧ A64a I.arcs ∧ pot.length = I.sup.length) : FVc TT bound11_g (bound11_I I x pot) (bound11_an I x pot) Try.f21 [.agg [.row 0, .row 1], .row 2, .row 3] [(0, .row false ty0 (.ints .i64 I.sup)), (1, .row false ty1 (.arcs I.arcs)), (2, .row false ty2 (.ints .i64 x)), (3, .row false ty3 (.ints .i64 pot))] (bound11_r I x pot) := by
  refine FVc.of (bound11_E0 I x pot ty0 ty1 ty2 ty3) (bound11_q I x pot ty0 ty1 ty2 ty3) ?_
  unfold bound11_E0
  obtain ⟨p1, p2, p3, p4, p5, p6, p7, p8⟩ := hp
  have hl := right_small p1
  simp only [eq_self, exists_const, forall_const, decide_eq_true_eq, decide_eq_false_iff_not, and_true, true_and, bne_iff_ne, ne_eq, bne_eq_false_iff_eq, Int.toNat_natCast, Bool.not_eq_true', Bool.not_eq_false', beq_iff_eq, beq_eq_false_iff_ne, nilEq_true]
  refine ⟨⟨by omega, by omega, p3, p7, p6, p5⟩, ⟨by omega, by omega, p2, p3⟩, fun _ => trivial, fun hf => ⟨⟨by omega, by omega, p2, p3, p5, p6⟩, ⟨p2, p6, by omega⟩, ?_⟩⟩
  have hb := price_bound (x := x) (pot := pot) (by omega) p2 p4 p5 p8 hf
  cases hB : boundF I pot with
  | none => exact ⟨⟨ok_zero, W_ok _⟩, fun _ => hb.1 hB, fun h => by cases h⟩
  | some t =>
    have ht := hb.2 t hB
    simp only [boundW]
    rw [wcmp_W (bound_I128 p1 p4 p5 hB) (cost_I128 p1 p2)]
    refine ⟨⟨W_ok _, W_ok _⟩, fun h => (by cases h), fun _ => ⟨fun _ => ?_, fun h => ?_⟩⟩
    · by_cases e : t = costF I x
      · rw [ht.2.1 e, if_neg (by omega), if_neg (by omega)]
      · have h2 : ¬ slackF I x pot = 0 := fun h => e (ht.2.2 h)
        rw [if_pos (by omega)]
        simp [h2]
    · exfalso; apply h; split
      · omega
      · rw [if_neg (by omega)]; omega

theorem bound11_ok : SpecOk Try.prog bound11_n true (specOf true bound11_fs) :=
  spec_ok' TT_ok (show GsOk Try.prog bound11_g from gsOk_cons Bound_ok (gsOk_cons Fits_ok (gsOk_cons Slack_ok (gsOk_cons Cost_ok (gsOk_cons Compare_ok (gsOk_nil)))))) (by kernel_rfl) mixedOrders Try.func21 rfl rfl (by kernel_rfl) (n := 3) (by decide +kernel) (I := bound11_IA) (fun _ _ => isOk_nil) (A := bound11_A)
    (fun args h r hr => by
      unfold bound11_fs at hr
      split at hr
      · rename_i ty0 I_s ty1 I_a ty2 x ty3 pot; cases hr; refine ⟨rfl, fun hp => ?_⟩; have hE := bound11_E ⟨I_s, I_a⟩ x pot ty0 ty1 ty2 ty3 hp; exact hE
      · cases hr)

end Go.Proofs.Ytnjcklhgdpgllaa
