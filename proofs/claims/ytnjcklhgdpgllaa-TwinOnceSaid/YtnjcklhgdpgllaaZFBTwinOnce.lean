/- Part of the proof, FBTwinOnce. -/
import Derived.Test.YtnjcklhgdpgllaaZFT16
import Derived.Test.YtnjcklhgdpgllaaZDBTwinOnce
import Derived.Test.YtnjcklhgdpgllaaZVc11
set_option linter.unusedVariables false
set_option linter.all false
set_option linter.unusedSimpArgs false
set_option maxRecDepth 100000
namespace Go.Proofs.Ytnjcklhgdpgllaa
open Go Go.RowKit Go.Ql Go.Vc
abbrev TwinOnce_a0 (c : List Int) (d : List Int) := (True ∧
 True ∧
 (twinS (alikeF c d)).fst.pass = (twinS (alikeF c d)).fst.pass ∧
 True ∧
 True ∧
 (twinS (alikeF c d)).fst.off.hi = (twinS (alikeF c d)).fst.off.hi ∧
 (twinS (alikeF c d)).fst.off.lo = (twinS (alikeF c d)).fst.off.lo ∧
 (twinS (alikeF c d)).fst.did = (twinS (alikeF c d)).fst.did ∧ True)
abbrev TwinOnce_a1 (c : List Int) (d : List Int) (g_1 : Nat × Nat × List Value) (g' : Nat × Nat × List Value) := ((0 : Nat) = (0 : Nat) ∧
 (0 : Nat) = (0 : Nat) ∧
 (twinS (alikeF c d)).snd = (twinS (alikeF c d)).snd ∧
 True ∧
 lensG (groupsF (alikeF c d).arcs) (groupsF (alikeF c d).arcs).length =
 lensG (groupsF (alikeF c d).arcs) (groupsF (alikeF c d).arcs).length ∧
 (↑g_1.1 : Int) = (↑g'.1 : Int) ∧
 IntKind.i64.wrap ((↑g_1.2.1 : Int) + (1 : Int)) = (↑g'.2.1 : Int) ∧ True)
abbrev TwinOnce_a2 (c : List Int) (d : List Int) := (↑(DK.ints IntKind.i64 (groupsF (alikeF c d).arcs)).len : Int)
abbrev TwinOnce_a3 (c : List Int) (d : List Int) := (↑(twinS (alikeF c d)).fst.inst.arcs.length : Int)
def TwinOnce_E0 (c : List Int) (d : List Int) (ty0 ty1 : TypeId) : Prop :=
      (Bytes c ∧ Bytes d ∧ c.length ≤ maxLen ∧ d.length ≤ maxLen) ∧
 ((alikeF c d).sup.length ≤ (1000000 : Nat) ∧ (alikeF c d).arcs.length ≤ (1000000 : Nat)) ∧
 (alikeF c d).arcs.length ≤ (1000000 : Nat) ∧
 ∀ (V : Nat → List Value),
 ∃ (g0 : Nat × List Value),
 (g0.fst ≤ (groupsF (alikeF c d).arcs).length ∧
 ((0 : Nat) = (0 : Nat) ∧
 (0 : Nat) = (0 : Nat) ∧
 (twinS (alikeF c d)).snd = (twinS (alikeF c d)).snd ∧ True ∧ (0 : Int) = lensG (groupsF (alikeF c d).arcs) g0.1 ∧ (0 : Int) = (↑g0.1 : Int) ∧ True) ∧
 (groupsF (alikeF c d).arcs = groupsF (alikeF c d).arcs ∧ V (0 : Nat) = g0.2 ∧ (none : Option Nat) = none) ∧
 (True ∧
 True ∧
 (twinS (alikeF c d)).fst.pass = (twinS (alikeF c d)).fst.pass ∧
 True ∧
 True ∧
 (twinS (alikeF c d)).fst.off.hi = (twinS (alikeF c d)).fst.off.hi ∧
 (twinS (alikeF c d)).fst.off.lo = (twinS (alikeF c d)).fst.off.lo ∧ (twinS (alikeF c d)).fst.did = (twinS (alikeF c d)).fst.did ∧ True) ∧
 (twinS (alikeF c d)).fst.inst.sup = (twinS (alikeF c d)).fst.inst.sup ∧
 (twinS (alikeF c d)).fst.inst.arcs = (twinS (alikeF c d)).fst.inst.arcs ∧
 (twinS (alikeF c d)).fst.was.sup = (twinS (alikeF c d)).fst.was.sup ∧
 (twinS (alikeF c d)).fst.was.arcs = (twinS (alikeF c d)).fst.was.arcs ∧
 (True ∧ True ∧ True) ∧ (alikeF c d).sup = (alikeF c d).sup ∧ (alikeF c d).arcs = (alikeF c d).arcs ∧ True) ∧
 ∀ (g : Nat × List Value),
 g.fst ≤ (groupsF (alikeF c d).arcs).length →
 (decide ((↑g.1 : Int) < (TwinOnce_a2 c d)) = true →
 ((0 : Int) ≤ (↑g.1 : Int) ∧ (↑g.1 : Int) < (TwinOnce_a2 c d)) ∧
 (↑g.1 : Int).toNat < (groupsF (alikeF c d).arcs).length ∧
 ∀ (x : List Int),
 (groupsF (alikeF c d).arcs)[(↑g.1 : Int).toNat]? = some x →
 ∃ (g' : Nat × List Value),
 g'.fst ≤ (groupsF (alikeF c d).arcs).length ∧
 (groupsF (alikeF c d).arcs).length - g'.fst < (groupsF (alikeF c d).arcs).length - g.fst ∧
 ((0 : Nat) = (0 : Nat) ∧
 (0 : Nat) = (0 : Nat) ∧
 (twinS (alikeF c d)).snd = (twinS (alikeF c d)).snd ∧
 True ∧
 IntKind.i64.wrap (lensG (groupsF (alikeF c d).arcs) g.1 + (↑x.length : Int)) = lensG (groupsF (alikeF c d).arcs) g'.1 ∧
 IntKind.i64.wrap ((↑g.1 : Int) + (1 : Int)) = (↑g'.1 : Int) ∧ True) ∧
 (groupsF (alikeF c d).arcs = groupsF (alikeF c d).arcs ∧ g.2 = g'.2) ∧
 (TwinOnce_a0 c d) ∧
 (twinS (alikeF c d)).fst.inst.sup = (twinS (alikeF c d)).fst.inst.sup ∧
 (twinS (alikeF c d)).fst.inst.arcs = (twinS (alikeF c d)).fst.inst.arcs ∧
 (twinS (alikeF c d)).fst.was.sup = (twinS (alikeF c d)).fst.was.sup ∧
 (twinS (alikeF c d)).fst.was.arcs = (twinS (alikeF c d)).fst.was.arcs ∧
 (True ∧ True ∧ True) ∧ (alikeF c d).sup = (alikeF c d).sup ∧ (alikeF c d).arcs = (alikeF c d).arcs ∧ True) ∧
 (decide ((↑g.1 : Int) < (TwinOnce_a2 c d)) = false →
 ∃ (g0 : Nat × List Value),
 (g0.fst ≤ (twinS (alikeF c d)).fst.inst.arcs.length ∧
 ((0 : Nat) = (0 : Nat) ∧
 (0 : Nat) = (0 : Nat) ∧
 (twinS (alikeF c d)).snd = (twinS (alikeF c d)).snd ∧
 True ∧
 lensG (groupsF (alikeF c d).arcs) g.1 = lensG (groupsF (alikeF c d).arcs) (groupsF (alikeF c d).arcs).length ∧
 (0 : Int) = (↑g0.1 : Int) ∧ True) ∧
 (groupsF (alikeF c d).arcs = groupsF (alikeF c d).arcs ∧ g.2 = g0.2) ∧
 (TwinOnce_a0 c d) ∧
 (twinS (alikeF c d)).fst.inst.sup = (twinS (alikeF c d)).fst.inst.sup ∧
 (twinS (alikeF c d)).fst.inst.arcs = (twinS (alikeF c d)).fst.inst.arcs ∧
 (twinS (alikeF c d)).fst.was.sup = (twinS (alikeF c d)).fst.was.sup ∧
 (twinS (alikeF c d)).fst.was.arcs = (twinS (alikeF c d)).fst.was.arcs ∧
 (True ∧ True ∧ True) ∧ (alikeF c d).sup = (alikeF c d).sup ∧ (alikeF c d).arcs = (alikeF c d).arcs ∧ True) ∧
 ∀ (g : Nat × List Value),
 g.fst ≤ (twinS (alikeF c d)).fst.inst.arcs.length →
 (decide ((↑g.1 : Int) < (TwinOnce_a3 c d)) = true →
 ∃ (g0 : Nat × Nat × List Value),
 ((g0.fst = g0.fst ∧ g0.2.fst ≤ g0.fst) ∧
 ((0 : Nat) = (0 : Nat) ∧
 (0 : Nat) = (0 : Nat) ∧
 (twinS (alikeF c d)).snd = (twinS (alikeF c d)).snd ∧
 True ∧
 lensG (groupsF (alikeF c d).arcs) (groupsF (alikeF c d).arcs).length =
 lensG (groupsF (alikeF c d).arcs) (groupsF (alikeF c d).arcs).length ∧
 (↑g.1 : Int) = (↑g0.1 : Int) ∧ (0 : Int) = (↑g0.2.1 : Int) ∧ True) ∧
 (groupsF (alikeF c d).arcs = groupsF (alikeF c d).arcs ∧ g.2 = g0.2.2) ∧
 (TwinOnce_a0 c d) ∧
 (twinS (alikeF c d)).fst.inst.sup = (twinS (alikeF c d)).fst.inst.sup ∧
 (twinS (alikeF c d)).fst.inst.arcs = (twinS (alikeF c d)).fst.inst.arcs ∧
 (twinS (alikeF c d)).fst.was.sup = (twinS (alikeF c d)).fst.was.sup ∧
 (twinS (alikeF c d)).fst.was.arcs = (twinS (alikeF c d)).fst.was.arcs ∧
 (True ∧ True ∧ True) ∧ (alikeF c d).sup = (alikeF c d).sup ∧ (alikeF c d).arcs = (alikeF c d).arcs ∧ True) ∧
 ∀ (g_1 : Nat × Nat × List Value),
 g_1.fst = g0.fst ∧ g_1.2.fst ≤ g_1.fst →
 (decide ((↑g_1.2.1 : Int) < (↑g_1.1 : Int)) = true →
 ((0 : Int) ≤ (↑g_1.1 : Int) ∧ (↑g_1.1 : Int) < (TwinOnce_a3 c d)) ∧
 (↑g_1.1 : Int).toNat < (twinS (alikeF c d)).fst.inst.arcs.length ∧
 ∀ (x : Arc),
 (twinS (alikeF c d)).fst.inst.arcs[(↑g_1.1 : Int).toNat]? = some x →
 ((0 : Int) ≤ (↑g_1.2.1 : Int) ∧ (↑g_1.2.1 : Int) < (TwinOnce_a3 c d)) ∧
 (↑g_1.2.1 : Int).toNat < (twinS (alikeF c d)).fst.inst.arcs.length ∧
 ∀ (x_1 : Arc),
 (twinS (alikeF c d)).fst.inst.arcs[(↑g_1.2.1 : Int).toNat]? = some x_1 →
 ((x.src == x_1.src) = true →
 ((x.dst == x_1.dst) = true →
 ((x.cost == x_1.cost) = true → (false = true ∧ True) ∧ True) ∧
 ((x.cost == x_1.cost) = false →
 ∃ (g' : Nat × Nat × List Value),
 (g'.fst = g0.fst ∧ g'.2.fst ≤ g'.fst) ∧
 g'.fst - g'.2.fst < g_1.fst - g_1.2.fst ∧
 (TwinOnce_a1 c d g_1 g') ∧
 (groupsF (alikeF c d).arcs = groupsF (alikeF c d).arcs ∧ g_1.2.2 = g'.2.2) ∧
 (TwinOnce_a0 c d) ∧
 (twinS (alikeF c d)).fst.inst.sup = (twinS (alikeF c d)).fst.inst.sup ∧
 (twinS (alikeF c d)).fst.inst.arcs = (twinS (alikeF c d)).fst.inst.arcs ∧
 (twinS (alikeF c d)).fst.was.sup = (twinS (alikeF c d)).fst.was.sup ∧
 (twinS (alikeF c d)).fst.was.arcs = (twinS (alikeF c d)).fst.was.arcs ∧
 (True ∧ True ∧ True) ∧
 (alikeF c d).sup = (alikeF c d).sup ∧ (alikeF c d).arcs = (alikeF c d).arcs ∧ True)) ∧
 ((x.dst == x_1.dst) = false →
 ∃ (g' : Nat × Nat × List Value),
 (g'.fst = g0.fst ∧ g'.2.fst ≤ g'.fst) ∧
 g'.fst - g'.2.fst < g_1.fst - g_1.2.fst ∧
 (TwinOnce_a1 c d g_1 g') ∧
 (groupsF (alikeF c d).arcs = groupsF (alikeF c d).arcs ∧ g_1.2.2 = g'.2.2) ∧
 (TwinOnce_a0 c d) ∧
 (twinS (alikeF c d)).fst.inst.sup = (twinS (alikeF c d)).fst.inst.sup ∧
 (twinS (alikeF c d)).fst.inst.arcs = (twinS (alikeF c d)).fst.inst.arcs ∧
 (twinS (alikeF c d)).fst.was.sup = (twinS (alikeF c d)).fst.was.sup ∧
 (twinS (alikeF c d)).fst.was.arcs = (twinS (alikeF c d)).fst.was.arcs ∧
 (True ∧ True ∧ True) ∧
 (alikeF c d).sup = (alikeF c d).sup ∧ (alikeF c d).arcs = (alikeF c d).arcs ∧ True)) ∧
 ((x.src == x_1.src) = false →
 ∃ (g' : Nat × Nat × List Value),
 (g'.fst = g0.fst ∧ g'.2.fst ≤ g'.fst) ∧
 g'.fst - g'.2.fst < g_1.fst - g_1.2.fst ∧
 (TwinOnce_a1 c d g_1 g') ∧
 (groupsF (alikeF c d).arcs = groupsF (alikeF c d).arcs ∧ g_1.2.2 = g'.2.2) ∧
 (TwinOnce_a0 c d) ∧
 (twinS (alikeF c d)).fst.inst.sup = (twinS (alikeF c d)).fst.inst.sup ∧
 (twinS (alikeF c d)).fst.inst.arcs = (twinS (alikeF c d)).fst.inst.arcs ∧
 (twinS (alikeF c d)).fst.was.sup = (twinS (alikeF c d)).fst.was.sup ∧
 (twinS (alikeF c d)).fst.was.arcs = (twinS (alikeF c d)).fst.was.arcs ∧
 (True ∧ True ∧ True) ∧
 (alikeF c d).sup = (alikeF c d).sup ∧ (alikeF c d).arcs = (alikeF c d).arcs ∧ True)) ∧
 (decide ((↑g_1.2.1 : Int) < (↑g_1.1 : Int)) = false →
 ∃ (g' : Nat × List Value),
 g'.fst ≤ (twinS (alikeF c d)).fst.inst.arcs.length ∧
 (twinS (alikeF c d)).fst.inst.arcs.length - g'.fst < (twinS (alikeF c d)).fst.inst.arcs.length - g.fst ∧
 ((0 : Nat) = (0 : Nat) ∧
 (0 : Nat) = (0 : Nat) ∧
 (twinS (alikeF c d)).snd = (twinS (alikeF c d)).snd ∧
 True ∧
 lensG (groupsF (alikeF c d).arcs) (groupsF (alikeF c d).arcs).length =
 lensG (groupsF (alikeF c d).arcs) (groupsF (alikeF c d).arcs).length ∧
 IntKind.i64.wrap ((↑g_1.1 : Int) + (1 : Int)) = (↑g'.1 : Int) ∧ True) ∧
 (groupsF (alikeF c d).arcs = groupsF (alikeF c d).arcs ∧ g_1.2.2 = g'.2) ∧
 (TwinOnce_a0 c d) ∧
 (twinS (alikeF c d)).fst.inst.sup = (twinS (alikeF c d)).fst.inst.sup ∧
 (twinS (alikeF c d)).fst.inst.arcs = (twinS (alikeF c d)).fst.inst.arcs ∧
 (twinS (alikeF c d)).fst.was.sup = (twinS (alikeF c d)).fst.was.sup ∧
 (twinS (alikeF c d)).fst.was.arcs = (twinS (alikeF c d)).fst.was.arcs ∧
 (True ∧ True ∧ True) ∧ (alikeF c d).sup = (alikeF c d).sup ∧ (alikeF c d).arcs = (alikeF c d).arcs ∧ True)) ∧
 (decide ((↑g.1 : Int) < (TwinOnce_a3 c d)) = false →
 True ∧
 (true = true →
 (((twinS (alikeF c d)).snd == (0 : Int)) = true →
 ((lensG (groupsF (alikeF c d).arcs) (groupsF (alikeF c d).arcs).length == (↑(alikeF c d).arcs.length : Int)) = true →
 (((twinS (alikeF c d)).fst.did ==
 decide ((TwinOnce_a2 c d) < (↑(alikeF c d).arcs.length : Int))) =
 true →
 (((TwinOnce_a3 c d) == (TwinOnce_a2 c d)) = true →
 ((twinS (alikeF c d)).fst.did = true →
 I64 (0 : Int) ∧
 (decide ([(twinS (alikeF c d)).fst.off.hi, (twinS (alikeF c d)).fst.off.lo] = [(W (0 : Int)).hi, (W (0 : Int)).lo]) =
 true ∧
 True) ∧
 True) ∧
 ((twinS (alikeF c d)).fst.did = false →
 ((twinS (alikeF c d)).fst.inst.sup.length ≤ (1000000000 : Nat) ∧
 (twinS (alikeF c d)).fst.inst.arcs.length ≤ (1000000000 : Nat)) ∧
 (decide ((twinS (alikeF c d)).fst.inst = alikeF c d) = true →
 I64 (0 : Int) ∧
 (decide
 ([(twinS (alikeF c d)).fst.off.hi, (twinS (alikeF c d)).fst.off.lo] =
 [(W (0 : Int)).hi, (W (0 : Int)).lo]) =
 true ∧
 True) ∧
 True) ∧
 (decide ((twinS (alikeF c d)).fst.inst = alikeF c d) = false → (false = true ∧ True) ∧ True))) ∧
 (((TwinOnce_a3 c d) == (TwinOnce_a2 c d)) =
 false →
 (false = true ∧ True) ∧ True)) ∧
 (((twinS (alikeF c d)).fst.did ==
 decide ((TwinOnce_a2 c d) < (↑(alikeF c d).arcs.length : Int))) =
 false →
 (false = true ∧ True) ∧ True)) ∧
 ((lensG (groupsF (alikeF c d).arcs) (groupsF (alikeF c d).arcs).length == (↑(alikeF c d).arcs.length : Int)) = false →
 (false = true ∧ True) ∧ True)) ∧
 (((twinS (alikeF c d)).snd == (0 : Int)) = false → (false = true ∧ True) ∧ True)) ∧
 (true = false → (false = true ∧ True) ∧ True)))
theorem TwinOnce_q (c : List Int) (d : List Int) (ty0 ty1 : TypeId) : TwinOnce_E0 c d ty0 ty1 = FVcP TT TwinOnce_g (TwinOnce_I c d) (TwinOnce_an c d) Try.f12 [.row 0, .row 1] [(0, .row false ty0 (.ints .u8 c)), (1, .row false ty1 (.ints .u8 d))] (TwinOnce_r c d) := by kernel_rfl
theorem TwinOnce_E (c : List Int) (d : List Int) (ty0 ty1 : TypeId) (hp : Bytes c ∧ Bytes d ∧ c.length ≤ maxLen ∧ d.length ≤ maxLen) : FVc TT TwinOnce_g (TwinOnce_I c d) (TwinOnce_an c d) Try.f12 [.row 0, .row 1] [(0, .row false ty0 (.ints .u8 c)), (1, .row false ty1 (.ints .u8 d))] (TwinOnce_r c d) := by
  refine FVc.of (TwinOnce_E0 c d ty0 ty1) (TwinOnce_q c d ty0 ty1) ?_
  unfold TwinOnce_E0
  delta TwinOnce_a3 TwinOnce_a2 TwinOnce_a1 TwinOnce_a0
  obtain ⟨b1, b2, b3, b4⟩ := hp
  obtain ⟨o1, o2, o3, o4, o5⟩ := alikeF_all c d
  generalize alikeF c d = J at *
  have hT := twin_right o1 o4 o3 o5
  obtain ⟨t1, t2, t3, t4⟩ := twinS_eq o1 hT
  have tl : (twinI J).arcs.length = (groupsF J.arcs).length := by rw [twinI_eq o1, groupsF_len]; dsimp only; rw [List.length_map]
  have ts : (twinI J).sup = J.sup := by rw [twinI_eq o1]
  have hG := groupsF_len J.arcs
  have hF := firsts_len J.arcs J.arcs.length
  have hs := right_small o1
  have tal : ¬ (firsts J.arcs J.arcs.length).length < J.arcs.length → twinI J = J := twin_alone o1
  have hap : ∀ (a b : Nat) (x y : Arc), (twinI J).arcs[a]? = some x → (twinI J).arcs[b]? = some y → b < a → x.src = y.src → x.dst = y.dst → x.cost = y.cost → False := fun a b x y h1 h2 h3 h4 h5 h6 => twin_apart o1 h1 h2 h3 h4 h5 h6
  have hen := lensG_all J.arcs
  have heb := lensG_bd o3
  rw [t1, t2, t3, t4]
  simp only [eq_self, exists_const, forall_const, decide_eq_true_eq, decide_eq_false_iff_not, and_true, true_and, bne_iff_ne, ne_eq, bne_eq_false_iff_eq, Int.toNat_natCast, Bool.not_eq_true', Bool.not_eq_false', beq_iff_eq, beq_eq_false_iff_ne, nilEq_true]
  simp only [DK.len]
  have hw : ∀ j : Nat, j ≤ 1000000 → IntKind.i64.wrap ((j : Int) + 1) = ((j + 1 : Nat) : Int) := fun j hj => by rw [w64 (by omega) (by omega)]; omega
  refine ⟨⟨b1, b2, b3, b4⟩, ⟨by omega, by omega⟩, by omega, fun V => ⟨(0, V 0), ⟨Nat.zero_le _, ⟨rfl, rfl⟩, rfl⟩, fun g hg => ?_⟩⟩
  obtain ⟨k, vs⟩ := g
  dsimp only at hg ⊢
  refine ⟨fun h1 => ⟨by omega, by omega, fun ms hms => ⟨(k + 1, vs), by dsimp only; omega, by dsimp only; omega, ⟨?_, hw k (by omega)⟩, rfl⟩⟩, fun h1 => ?_⟩
  · have e : lensG (groupsF J.arcs) (k + 1) = lensG (groupsF J.arcs) k + ms.length := by
      show lensG (groupsF J.arcs) k + (((groupsF J.arcs).getD k []).length : Int) = _
      rw [List.getD_eq_getElem?_getD, hms]; rfl
    have := heb (k + 1) (by omega)
    rw [e] at this
    dsimp only
    rw [e]; exact w64 (by omega) (by omega)
  have ek : k = (groupsF J.arcs).length := by omega
  subst ek
  refine ⟨(0, vs), ⟨Nat.zero_le _, ⟨rfl, rfl⟩, rfl⟩, fun g hg => ?_⟩
  obtain ⟨a, vs2⟩ := g
  dsimp only at hg ⊢
  refine ⟨fun h2 => ⟨(a, 0, vs2), ⟨Nat.zero_le _, ⟨rfl, rfl⟩, rfl⟩, fun g hg2 => ?_⟩, fun h2 => ?_⟩
  · obtain ⟨a', b, vs3⟩ := g
    dsimp only at hg2 ⊢
    obtain ⟨rfl, hb⟩ := hg2
    refine ⟨fun h3 => ⟨by omega, by omega, fun x hx => ⟨by omega, by omega, fun y hy => ⟨fun c1 => ⟨fun c2 => ⟨fun c3 => (hap _ _ x y hx hy (by omega) c1 c2 c3).elim, fun c3 => ?_⟩, fun c2 => ?_⟩, fun c1 => ?_⟩⟩⟩, fun h3 => ⟨(a' + 1, vs3), by dsimp only; omega, by dsimp only; omega, hw a' (by omega), rfl⟩⟩
    all_goals exact ⟨(a', b + 1, vs3), ⟨rfl, by dsimp only; omega⟩, by dsimp only; omega, ⟨rfl, hw b (by omega)⟩, rfl⟩
  · have z : I64 0 ∧ [(0 : Int), 0] = [(W 0).hi, (W 0).lo] := by rw [W_zero]; exact ⟨⟨by omega, by omega⟩, rfl⟩
    refine ⟨⟨⟨fun _ => ⟨fun _ => ⟨fun _ => ⟨fun _ => z, fun h4 => ⟨⟨by rw [ts]; omega, by omega⟩, fun _ => z, fun h5 => absurd (tal (by omega)) h5⟩⟩, fun h4 => absurd (by rw [tl]) h4⟩, fun h4 => absurd ?_ h4⟩, fun h4 => absurd hen h4⟩, fun h4 => absurd trivial h4⟩, fun h4 => by cases h4⟩
    by_cases q : (firsts J.arcs J.arcs.length).length < J.arcs.length
    · exact (decide_eq_true q).trans (decide_eq_true (show ((groupsF J.arcs).length : Int) < (J.arcs.length : Int) by omega)).symm
    · exact (decide_eq_false q).trans (decide_eq_false (show ¬ ((groupsF J.arcs).length : Int) < (J.arcs.length : Int) by omega)).symm
theorem TwinOnce_ok : SpecOk Try.prog TwinOnce_n true (specOf true TwinOnce_fs) :=
  spec_ok' TT_ok (show GsOk Try.prog TwinOnce_g from gsOk_cons Alike_ok (gsOk_cons known16_ok (gsOk_cons Groups_ok (gsOk_cons Twin_ok (gsOk_cons Same_ok (gsOk_cons Of_ok (gsOk_nil))))))) (by kernel_rfl) mixedOrders Try.func12 rfl rfl (by kernel_rfl) (n := 2) (by decide +kernel) (I := TwinOnce_IA) (fun _ _ => isOk_nil) (A := TwinOnce_A)
    (fun args h r hr => by
      unfold TwinOnce_fs at hr
      split at hr
      · rename_i ty0 c ty1 d; cases hr; refine ⟨rfl, fun hp => ?_⟩; have hE := TwinOnce_E c d ty0 ty1 hp; exact hE
      · cases hr)
end Go.Proofs.Ytnjcklhgdpgllaa
