/- Part of the proof, FBCertOne. -/
import Derived.Test.YtggblkbecekbdaaZFL13
import Derived.Test.YtggblkbecekbdaaZDBCertOne
import Derived.Test.YtggblkbecekbdaaZVc11
set_option linter.unusedVariables false
set_option linter.all false
set_option linter.unusedSimpArgs false
set_option maxRecDepth 1000000
namespace Go.Proofs.Ytggblkbecekbdaa
open Go Go.RowKit Go.Ql Go.Vc
theorem certF_ok {I : Inst} {k : Int} {d e : List Int} (hr : rightF I = 0) (hF : A64 (flowF I d)) : CertOk (certF I k d e) ∧ (certF I k d e).flow.length ≤ 1000000 ∧ (certF I k d e).pot.length ≤ 1000000 ∧ (certF I k d e).side.length ≤ 1000000 ∧ (certF I k d e).cycle.length ≤ 1000000 := by
  have hrs := right_small hr
  have hFl := flowF_len I d
  have hpl := cpot_len e I.sup.length
  have hpa := cpot_A64 e I.sup.length
  have hwl := wholeF_len e I.sup.length
  have hp1 : ∀ p : List Int, A64 p → A64 (p ++ [1]) := fun p hp y hy => by
    rcases List.mem_append.1 hy with h | h
    · exact hp y h
    · simp at h; subst h; unfold I64; omega
  have base : CertOk (certK I k d e) ∧ (certK I k d e).flow.length ≤ 1000 ∧ (certK I k d e).pot.length ≤ 1000 ∧ (certK I k d e).side.length ≤ 1000 ∧ (certK I k d e).cycle.length ≤ 1000 := by
    have nil : A64 ([] : List Int) := fun y hy => by simp at hy
    have hcl : ((e.take 4).map fun x => x % ((I.arcs.length : Int) + 1)).length ≤ 4 := by simp; omega
    unfold certK
    split
    · exact ⟨⟨hF, hpa, by dsimp only; omega, by dsimp only; omega, by simp, by simp⟩, by dsimp only; omega, by dsimp only; omega, by simp, by simp⟩
    · split
      · exact ⟨⟨nil, nil, by simp, by simp, by dsimp only; omega, by simp⟩, by simp, by simp, by dsimp only; omega, by simp⟩
      · exact ⟨⟨hF, nil, by dsimp only; omega, by simp, by simp, by dsimp only; omega⟩, by dsimp only; omega, by simp, by simp, by dsimp only; omega⟩
  obtain ⟨⟨a1, a2, a3, a4, a5, a6⟩, l1, l2, l3, l4⟩ := base
  unfold certF
  dsimp only
  split
  · refine ⟨⟨a1, a2, a3, a4, ?_, a6⟩, by dsimp only; omega, by dsimp only; omega, ?_, by dsimp only; omega⟩ <;> (dsimp only; rw [List.length_append, List.length_singleton]; omega)
  · split
    · refine ⟨⟨a1, hp1 _ a2, a3, ?_, a5, a6⟩, by dsimp only; omega, ?_, by dsimp only; omega, by dsimp only; omega⟩ <;> (dsimp only; rw [List.length_append, List.length_singleton]; omega)
    · split
      · exact ⟨⟨a1, a2, a3, a4, a5, a6⟩, by dsimp only; omega, by dsimp only; omega, by dsimp only; omega, by dsimp only; omega⟩
      · exact ⟨⟨a1, a2, a3, a4, a5, a6⟩, by omega, by omega, by omega, by omega⟩
abbrev CertOne_a0 (x : Cert) (y : Cert) (p : List Int) (d : List Int) (k : Int) (e : List Int) (j : Int) (f : List Int) := ((x.kind = x.kind ∧ True ∧ True ∧ True ∧ True ∧ True) ∧
 (y.kind = y.kind ∧ True ∧ True ∧ True ∧ True ∧ True) ∧
 ((certF (instF p d) k d e).kind = (certF (instF p d) k d e).kind ∧
 True ∧ True ∧ True ∧ True ∧ True) ∧
 ((certF (instF p d) j f e).kind = (certF (instF p d) j f e).kind ∧
 True ∧ True ∧ True ∧ True ∧ True) ∧
 ((certF (instF p d) k f f).kind = (certF (instF p d) k f f).kind ∧
 True ∧ True ∧ True ∧ True ∧ True) ∧
 True)
abbrev CertOne_a1 (p : List Int) (d : List Int) (e : List Int) (f : List Int) (x : Cert) (y : Cert) (k : Int) (j : Int) (g : Nat × Nat) (g0 : Nat × Nat) (g_1 : Nat × Nat) := ((!decide
 ([(valueW (instF p d) (certs1 p d e f x y k j g.2)).hi,
 (valueW (instF p d) (certs1 p d e f x y k j g.2)).lo] =
 [(valueW (instF p d) (certs1 p d e f x y k j g.1)).hi,
 (valueW (instF p d) (certs1 p d e f x y k j g.1)).lo])) =
 false →
 ((!decide ((certs1 p d e f x y k j g.2).kind = (1 : Int)) ==
 decide ((certs1 p d e f x y k j g.1).kind = (1 : Int))) =
 true →
 (false = true ∧ True) ∧ True) ∧
 ((!decide ((certs1 p d e f x y k j g.2).kind = (1 : Int)) ==
 decide ((certs1 p d e f x y k j g.1).kind = (1 : Int))) =
 false →
 ∃ (g' : Nat × Nat),
 (g'.snd = g0.snd ∧ g'.fst ≤ g'.snd) ∧
 g'.snd - g'.fst < g_1.snd - g_1.fst ∧
 ((0 : Nat) = (0 : Nat) ∧
 True ∧
 (↑g.2 : Int) = (↑g'.2 : Int) ∧
 IntKind.i64.wrap ((↑g.1 : Int) + (1 : Int)) =
 (↑g'.1 : Int) ∧
 True) ∧
 ((x.kind = x.kind ∧ True ∧ True ∧ True ∧ True ∧ True) ∧
 (y.kind = y.kind ∧ True ∧ True ∧ True ∧ True ∧ True) ∧
 ((certF (instF p d) k d e).kind =
 (certF (instF p d) k d e).kind ∧
 True ∧ True ∧ True ∧ True ∧ True) ∧
 ((certF (instF p d) j f e).kind =
 (certF (instF p d) j f e).kind ∧
 True ∧ True ∧ True ∧ True ∧ True) ∧
 ((certF (instF p d) k f f).kind =
 (certF (instF p d) k f f).kind ∧
 True ∧ True ∧ True ∧ True ∧ True) ∧
 True) ∧
 (certF (instF p d) k f f).flow =
 (certF (instF p d) k f f).flow ∧
 (certF (instF p d) k f f).pot =
 (certF (instF p d) k f f).pot ∧
 (certF (instF p d) k f f).side =
 (certF (instF p d) k f f).side ∧
 (certF (instF p d) k f f).cycle =
 (certF (instF p d) k f f).cycle ∧
 (certF (instF p d) j f e).flow =
 (certF (instF p d) j f e).flow ∧
 (certF (instF p d) j f e).pot =
 (certF (instF p d) j f e).pot ∧
 (certF (instF p d) j f e).side =
 (certF (instF p d) j f e).side ∧
 (certF (instF p d) j f e).cycle =
 (certF (instF p d) j f e).cycle ∧
 (certF (instF p d) k d e).flow =
 (certF (instF p d) k d e).flow ∧
 (certF (instF p d) k d e).pot =
 (certF (instF p d) k d e).pot ∧
 (certF (instF p d) k d e).side =
 (certF (instF p d) k d e).side ∧
 (certF (instF p d) k d e).cycle =
 (certF (instF p d) k d
 e).cycle ∧
 (True ∧ True ∧ True) ∧
 (instF p d).sup =
 (instF p d).sup ∧
 (instF p d).arcs =
 (instF p d).arcs ∧
 x.flow = x.flow ∧
 x.pot = x.pot ∧
 x.side = x.side ∧
 x.cycle = x.cycle ∧
 y.flow = y.flow ∧
 y.pot = y.pot ∧
 y.side =
 y.side ∧
 y.cycle =
 y.cycle ∧
 True))
abbrev CertOne_a2 (p : List Int) (d : List Int) (e : List Int) (f : List Int) (x : Cert) (y : Cert) (k : Int) (j : Int) (g : Nat × Nat) (g0 : Nat × Nat) (g_1 : Nat × Nat) := ((!decide
 ([(valueW (instF p d) (certs1 p d e f x y k j g.2)).hi,
 (valueW (instF p d) (certs1 p d e f x y k j g.2)).lo] =
 [(valueW (instF p d) (certs1 p d e f x y k j g.1)).hi,
 (valueW (instF p d) (certs1 p d e f x y k j g.1)).lo])) =
 false →
 ((!decide ((certs1 p d e f x y k j g.2).kind = (1 : Int)) ==
 decide ((certs1 p d e f x y k j g.1).kind = (1 : Int))) =
 true →
 (false = true ∧ True) ∧ True) ∧
 ((!decide ((certs1 p d e f x y k j g.2).kind = (1 : Int)) ==
 decide ((certs1 p d e f x y k j g.1).kind = (1 : Int))) =
 false →
 ∃ (g' : Nat × Nat),
 (g'.snd = g0.snd ∧ g'.fst ≤ g'.snd) ∧
 g'.snd - g'.fst < g_1.snd - g_1.fst ∧
 ((0 : Nat) = (0 : Nat) ∧
 True ∧
 (↑g.2 : Int) = (↑g'.2 : Int) ∧
 IntKind.i64.wrap ((↑g.1 : Int) + (1 : Int)) =
 (↑g'.1 : Int) ∧
 True) ∧
 ((x.kind = x.kind ∧ True ∧ True ∧ True ∧ True ∧ True) ∧
 (y.kind = y.kind ∧ True ∧ True ∧ True ∧ True ∧ True) ∧
 ((certF (instF p d) k d e).kind =
 (certF (instF p d) k d e).kind ∧
 True ∧ True ∧ True ∧ True ∧ True) ∧
 ((certF (instF p d) j f e).kind =
 (certF (instF p d) j f e).kind ∧
 True ∧ True ∧ True ∧ True ∧ True) ∧
 ((certF (instF p d) k f f).kind =
 (certF (instF p d) k f f).kind ∧
 True ∧ True ∧ True ∧ True ∧ True) ∧
 True) ∧
 (certF (instF p d) k f f).flow =
 (certF (instF p d) k f f).flow ∧
 (certF (instF p d) k f f).pot =
 (certF (instF p d) k f f).pot ∧
 (certF (instF p d) k f f).side =
 (certF (instF p d) k f f).side ∧
 (certF (instF p d) k f f).cycle =
 (certF (instF p d) k f f).cycle ∧
 (certF (instF p d) j f e).flow =
 (certF (instF p d) j f e).flow ∧
 (certF (instF p d) j f e).pot =
 (certF (instF p d) j f e).pot ∧
 (certF (instF p d) j f e).side =
 (certF (instF p d) j f e).side ∧
 (certF (instF p d) j f e).cycle =
 (certF (instF p d) j f e).cycle ∧
 (certF (instF p d) k d e).flow =
 (certF (instF p d) k d e).flow ∧
 (certF (instF p d) k d e).pot =
 (certF (instF p d) k d e).pot ∧
 (certF (instF p d) k d e).side =
 (certF (instF p d) k d e).side ∧
 (certF (instF p d) k d e).cycle =
 (certF (instF p d) k d e).cycle ∧
 (True ∧ True ∧ True) ∧
 (instF p d).sup = (instF p d).sup ∧
 (instF p d).arcs =
 (instF p d).arcs ∧
 x.flow = x.flow ∧
 x.pot = x.pot ∧
 x.side = x.side ∧
 x.cycle = x.cycle ∧
 y.flow = y.flow ∧
 y.pot = y.pot ∧
 y.side = y.side ∧
 y.cycle =
 y.cycle ∧
 True))
abbrev CertOne_a3 (p : List Int) (d : List Int) (e : List Int) (f : List Int) (x : Cert) (y : Cert) (k : Int) (j : Int) (g : Nat × Nat) (g0 : Nat × Nat) (g_1 : Nat × Nat) := ((!decide
 ([(valueW (instF p d) (certs1 p d e f x y k j g.2)).hi,
 (valueW (instF p d) (certs1 p d e f x y k j g.2)).lo] =
 [(valueW (instF p d) (certs1 p d e f x y k j g.1)).hi,
 (valueW (instF p d) (certs1 p d e f x y k j g.1)).lo])) =
 false →
 ((!decide ((certs1 p d e f x y k j g.2).kind = (1 : Int)) ==
 decide ((certs1 p d e f x y k j g.1).kind = (1 : Int))) =
 true →
 (false = true ∧ True) ∧ True) ∧
 ((!decide ((certs1 p d e f x y k j g.2).kind = (1 : Int)) ==
 decide ((certs1 p d e f x y k j g.1).kind = (1 : Int))) =
 false →
 ∃ (g' : Nat × Nat),
 (g'.snd = g0.snd ∧ g'.fst ≤ g'.snd) ∧
 g'.snd - g'.fst < g_1.snd - g_1.fst ∧
 ((0 : Nat) = (0 : Nat) ∧
 True ∧
 (↑g.2 : Int) = (↑g'.2 : Int) ∧
 IntKind.i64.wrap ((↑g.1 : Int) + (1 : Int)) =
 (↑g'.1 : Int) ∧
 True) ∧
 ((x.kind = x.kind ∧ True ∧ True ∧ True ∧ True ∧ True) ∧
 (y.kind = y.kind ∧ True ∧ True ∧ True ∧ True ∧ True) ∧
 ((certF (instF p d) k d e).kind =
 (certF (instF p d) k d e).kind ∧
 True ∧ True ∧ True ∧ True ∧ True) ∧
 ((certF (instF p d) j f e).kind =
 (certF (instF p d) j f e).kind ∧
 True ∧ True ∧ True ∧ True ∧ True) ∧
 ((certF (instF p d) k f f).kind =
 (certF (instF p d) k f f).kind ∧
 True ∧ True ∧ True ∧ True ∧ True) ∧
 True) ∧
 (certF (instF p d) k f f).flow =
 (certF (instF p d) k f f).flow ∧
 (certF (instF p d) k f f).pot =
 (certF (instF p d) k f f).pot ∧
 (certF (instF p d) k f f).side =
 (certF (instF p d) k f f).side ∧
 (certF (instF p d) k f f).cycle =
 (certF (instF p d) k f f).cycle ∧
 (certF (instF p d) j f e).flow =
 (certF (instF p d) j f e).flow ∧
 (certF (instF p d) j f e).pot =
 (certF (instF p d) j f e).pot ∧
 (certF (instF p d) j f e).side =
 (certF (instF p d) j f e).side ∧
 (certF (instF p d) j f e).cycle =
 (certF (instF p d) j f e).cycle ∧
 (certF (instF p d) k d e).flow =
 (certF (instF p d) k d e).flow ∧
 (certF (instF p d) k d e).pot =
 (certF (instF p d) k d e).pot ∧
 (certF (instF p d) k d e).side =
 (certF (instF p d) k d e).side ∧
 (certF (instF p d) k d e).cycle =
 (certF (instF p d) k d e).cycle ∧
 (True ∧ True ∧ True) ∧
 (instF p d).sup =
 (instF p d).sup ∧
 (instF p d).arcs =
 (instF p d).arcs ∧
 x.flow = x.flow ∧
 x.pot = x.pot ∧
 x.side = x.side ∧
 x.cycle = x.cycle ∧
 y.flow = y.flow ∧
 y.pot = y.pot ∧
 y.side = y.side ∧
 y.cycle =
 y.cycle ∧
 True))
abbrev CertOne_a4 (p : List Int) (d : List Int) (e : List Int) (f : List Int) (x : Cert) (y : Cert) (k : Int) (j : Int) (g : Nat × Nat) := (!decide
 ([(valueW (instF p d) (certs1 p d e f x y k j g.2)).hi,
 (valueW (instF p d) (certs1 p d e f x y k j g.2)).lo] =
 [(valueW (instF p d) (certs1 p d e f x y k j g.1)).hi,
 (valueW (instF p d) (certs1 p d e f x y k j g.1)).lo]))
abbrev CertOne_a5 (p : List Int) (d : List Int) (e : List Int) (f : List Int) (x : Cert) (y : Cert) (k : Int) (j : Int) (g : Nat × Nat) (g0 : Nat × Nat) (g_1 : Nat × Nat) := ((CertOne_a4 p d e f x y k j g) =
 false →
 ((!decide ((certs1 p d e f x y k j g.2).kind = (1 : Int)) ==
 decide ((certs1 p d e f x y k j g.1).kind = (1 : Int))) =
 true →
 (false = true ∧ True) ∧ True) ∧
 ((!decide ((certs1 p d e f x y k j g.2).kind = (1 : Int)) ==
 decide ((certs1 p d e f x y k j g.1).kind = (1 : Int))) =
 false →
 ∃ (g' : Nat × Nat),
 (g'.snd = g0.snd ∧ g'.fst ≤ g'.snd) ∧
 g'.snd - g'.fst < g_1.snd - g_1.fst ∧
 ((0 : Nat) = (0 : Nat) ∧
 True ∧
 (↑g.2 : Int) = (↑g'.2 : Int) ∧
 IntKind.i64.wrap ((↑g.1 : Int) + (1 : Int)) =
 (↑g'.1 : Int) ∧
 True) ∧
 ((x.kind = x.kind ∧ True ∧ True ∧ True ∧ True ∧ True) ∧
 (y.kind = y.kind ∧ True ∧ True ∧ True ∧ True ∧ True) ∧
 ((certF (instF p d) k d e).kind =
 (certF (instF p d) k d e).kind ∧
 True ∧ True ∧ True ∧ True ∧ True) ∧
 ((certF (instF p d) j f e).kind =
 (certF (instF p d) j f e).kind ∧
 True ∧ True ∧ True ∧ True ∧ True) ∧
 ((certF (instF p d) k f f).kind =
 (certF (instF p d) k f f).kind ∧
 True ∧ True ∧ True ∧ True ∧ True) ∧
 True) ∧
 (certF (instF p d) k f f).flow =
 (certF (instF p d) k f f).flow ∧
 (certF (instF p d) k f f).pot =
 (certF (instF p d) k f f).pot ∧
 (certF (instF p d) k f f).side =
 (certF (instF p d) k f f).side ∧
 (certF (instF p d) k f f).cycle =
 (certF (instF p d) k f f).cycle ∧
 (certF (instF p d) j f e).flow =
 (certF (instF p d) j f e).flow ∧
 (certF (instF p d) j f e).pot =
 (certF (instF p d) j f e).pot ∧
 (certF (instF p d) j f e).side =
 (certF (instF p d) j f e).side ∧
 (certF (instF p d) j f e).cycle =
 (certF (instF p d) j f e).cycle ∧
 (certF (instF p d) k d e).flow =
 (certF (instF p d) k d e).flow ∧
 (certF (instF p d) k d e).pot =
 (certF (instF p d) k d e).pot ∧
 (certF (instF p d) k d e).side =
 (certF (instF p d) k d e).side ∧
 (certF (instF p d) k d e).cycle =
 (certF (instF p d) k d e).cycle ∧
 (True ∧ True ∧ True) ∧
 (instF p d).sup = (instF p d).sup ∧
 (instF p d).arcs =
 (instF p d).arcs ∧
 x.flow = x.flow ∧
 x.pot = x.pot ∧
 x.side = x.side ∧
 x.cycle = x.cycle ∧
 y.flow = y.flow ∧
 y.pot = y.pot ∧
 y.side = y.side ∧
 y.cycle = y.cycle ∧
 True))
abbrev CertOne_a6 (p : List Int) (d : List Int) (e : List Int) (f : List Int) (x : Cert) (y : Cert) (k : Int) (j : Int) (g : Nat × Nat) (g0 : Nat × Nat) (g_1 : Nat × Nat) := ((CertOne_a4 p d e f x y k j g) =
 false →
 ((!decide ((certs1 p d e f x y k j g.2).kind = (1 : Int)) ==
 decide ((certs1 p d e f x y k j g.1).kind = (1 : Int))) =
 true →
 (false = true ∧ True) ∧ True) ∧
 ((!decide ((certs1 p d e f x y k j g.2).kind = (1 : Int)) ==
 decide ((certs1 p d e f x y k j g.1).kind = (1 : Int))) =
 false →
 ∃ (g' : Nat × Nat),
 (g'.snd = g0.snd ∧ g'.fst ≤ g'.snd) ∧
 g'.snd - g'.fst < g_1.snd - g_1.fst ∧
 ((0 : Nat) = (0 : Nat) ∧
 True ∧
 (↑g.2 : Int) = (↑g'.2 : Int) ∧
 IntKind.i64.wrap ((↑g.1 : Int) + (1 : Int)) = (↑g'.1 : Int) ∧
 True) ∧
 ((x.kind = x.kind ∧ True ∧ True ∧ True ∧ True ∧ True) ∧
 (y.kind = y.kind ∧ True ∧ True ∧ True ∧ True ∧ True) ∧
 ((certF (instF p d) k d e).kind =
 (certF (instF p d) k d e).kind ∧
 True ∧ True ∧ True ∧ True ∧ True) ∧
 ((certF (instF p d) j f e).kind =
 (certF (instF p d) j f e).kind ∧
 True ∧ True ∧ True ∧ True ∧ True) ∧
 ((certF (instF p d) k f f).kind =
 (certF (instF p d) k f f).kind ∧
 True ∧ True ∧ True ∧ True ∧ True) ∧
 True) ∧
 (certF (instF p d) k f f).flow = (certF (instF p d) k f f).flow ∧
 (certF (instF p d) k f f).pot = (certF (instF p d) k f f).pot ∧
 (certF (instF p d) k f f).side =
 (certF (instF p d) k f f).side ∧
 (certF (instF p d) k f f).cycle =
 (certF (instF p d) k f f).cycle ∧
 (certF (instF p d) j f e).flow =
 (certF (instF p d) j f e).flow ∧
 (certF (instF p d) j f e).pot =
 (certF (instF p d) j f e).pot ∧
 (certF (instF p d) j f e).side =
 (certF (instF p d) j f e).side ∧
 (certF (instF p d) j f e).cycle =
 (certF (instF p d) j f e).cycle ∧
 (certF (instF p d) k d e).flow =
 (certF (instF p d) k d e).flow ∧
 (certF (instF p d) k d e).pot =
 (certF (instF p d) k d e).pot ∧
 (certF (instF p d) k d e).side =
 (certF (instF p d) k d e).side ∧
 (certF (instF p d) k d e).cycle =
 (certF (instF p d) k d e).cycle ∧
 (True ∧ True ∧ True) ∧
 (instF p d).sup = (instF p d).sup ∧
 (instF p d).arcs = (instF p d).arcs ∧
 x.flow = x.flow ∧
 x.pot = x.pot ∧
 x.side = x.side ∧
 x.cycle = x.cycle ∧
 y.flow = y.flow ∧
 y.pot = y.pot ∧
 y.side = y.side ∧
 y.cycle = y.cycle ∧
 True))
abbrev CertOne_a7 (g_1 : Nat × Nat) (g' : Nat × Nat) := ((0 : Nat) = (0 : Nat) ∧
 True ∧
 (↑g_1.2 : Int) = (↑g'.2 : Int) ∧
 IntKind.i64.wrap ((↑g_1.1 : Int) + (1 : Int)) = (↑g'.1 : Int) ∧ True)
abbrev CertOne_a8 (p : List Int) (d : List Int) (j : Int) (f : List Int) (e : List Int) (g0 : Nat × Nat) (g_1 : Nat × Nat) (x : Cert) (y : Cert) (k : Int) := ((checkF (instF p d)
 { kind := (certF (instF p d) j f e).kind, flow := (certF (instF p d) j f e).flow, pot := (certF (instF p d) j f e).pot, side := (certF (instF p d) j f e).side, cycle := (certF (instF p d) j f e).cycle : Cert } !=
 (0 : Int)) =
 true →
 ∃ (g' : Nat × Nat),
 (g'.snd = g0.snd ∧ g'.fst ≤ g'.snd) ∧
 g'.snd - g'.fst < g_1.snd - g_1.fst ∧
 (CertOne_a7 g_1 g') ∧
 (CertOne_a0 x y p d k e j f) ∧
 (certF (instF p d) k f f).flow = (certF (instF p d) k f f).flow ∧
 (certF (instF p d) k f f).pot = (certF (instF p d) k f f).pot ∧
 (certF (instF p d) k f f).side = (certF (instF p d) k f f).side ∧
 (certF (instF p d) k f f).cycle = (certF (instF p d) k f f).cycle ∧
 (certF (instF p d) j f e).flow = (certF (instF p d) j f e).flow ∧
 (certF (instF p d) j f e).pot = (certF (instF p d) j f e).pot ∧
 (certF (instF p d) j f e).side = (certF (instF p d) j f e).side ∧
 (certF (instF p d) j f e).cycle = (certF (instF p d) j f e).cycle ∧
 (certF (instF p d) k d e).flow = (certF (instF p d) k d e).flow ∧
 (certF (instF p d) k d e).pot = (certF (instF p d) k d e).pot ∧
 (certF (instF p d) k d e).side =
 (certF (instF p d) k d e).side ∧
 (certF (instF p d) k d e).cycle =
 (certF (instF p d) k d e).cycle ∧
 (True ∧ True ∧ True) ∧
 (instF p d).sup = (instF p d).sup ∧
 (instF p d).arcs = (instF p d).arcs ∧
 x.flow = x.flow ∧
 x.pot = x.pot ∧
 x.side = x.side ∧
 x.cycle = x.cycle ∧
 y.flow = y.flow ∧
 y.pot = y.pot ∧
 y.side = y.side ∧
 y.cycle = y.cycle ∧ True)
abbrev CertOne_a9 (p : List Int) (d : List Int) (k : Int) (f : List Int) (g0 : Nat × Nat) (g_1 : Nat × Nat) (x : Cert) (y : Cert) (e : List Int) (j : Int) := ((checkF (instF p d)
 { kind := (certF (instF p d) k f f).kind, flow := (certF (instF p d) k f f).flow, pot := (certF (instF p d) k f f).pot, side := (certF (instF p d) k f f).side, cycle := (certF (instF p d) k f f).cycle : Cert } !=
 (0 : Int)) =
 true →
 ∃ (g' : Nat × Nat),
 (g'.snd = g0.snd ∧ g'.fst ≤ g'.snd) ∧
 g'.snd - g'.fst < g_1.snd - g_1.fst ∧
 (CertOne_a7 g_1 g') ∧
 (CertOne_a0 x y p d k e j f) ∧
 (certF (instF p d) k f f).flow = (certF (instF p d) k f f).flow ∧
 (certF (instF p d) k f f).pot = (certF (instF p d) k f f).pot ∧
 (certF (instF p d) k f f).side = (certF (instF p d) k f f).side ∧
 (certF (instF p d) k f f).cycle = (certF (instF p d) k f f).cycle ∧
 (certF (instF p d) j f e).flow = (certF (instF p d) j f e).flow ∧
 (certF (instF p d) j f e).pot = (certF (instF p d) j f e).pot ∧
 (certF (instF p d) j f e).side = (certF (instF p d) j f e).side ∧
 (certF (instF p d) j f e).cycle = (certF (instF p d) j f e).cycle ∧
 (certF (instF p d) k d e).flow = (certF (instF p d) k d e).flow ∧
 (certF (instF p d) k d e).pot = (certF (instF p d) k d e).pot ∧
 (certF (instF p d) k d e).side =
 (certF (instF p d) k d e).side ∧
 (certF (instF p d) k d e).cycle =
 (certF (instF p d) k d e).cycle ∧
 (True ∧ True ∧ True) ∧
 (instF p d).sup = (instF p d).sup ∧
 (instF p d).arcs = (instF p d).arcs ∧
 x.flow = x.flow ∧
 x.pot = x.pot ∧
 x.side = x.side ∧
 x.cycle = x.cycle ∧
 y.flow = y.flow ∧
 y.pot = y.pot ∧
 y.side = y.side ∧
 y.cycle = y.cycle ∧ True)
abbrev CertOne_a10 (p : List Int) (d : List Int) (x : Cert) (g0 : Nat × Nat) (g_1 : Nat × Nat) (y : Cert) (k : Int) (e : List Int) (j : Int) (f : List Int) := ((checkF (instF p d)
 { kind := x.kind, flow := x.flow, pot := x.pot, side := x.side, cycle := x.cycle : Cert } !=
 (0 : Int)) =
 true →
 ∃ (g' : Nat × Nat),
 (g'.snd = g0.snd ∧ g'.fst ≤ g'.snd) ∧
 g'.snd - g'.fst < g_1.snd - g_1.fst ∧
 (CertOne_a7 g_1 g') ∧
 (CertOne_a0 x y p d k e j f) ∧
 (certF (instF p d) k f f).flow = (certF (instF p d) k f f).flow ∧
 (certF (instF p d) k f f).pot = (certF (instF p d) k f f).pot ∧
 (certF (instF p d) k f f).side = (certF (instF p d) k f f).side ∧
 (certF (instF p d) k f f).cycle = (certF (instF p d) k f f).cycle ∧
 (certF (instF p d) j f e).flow = (certF (instF p d) j f e).flow ∧
 (certF (instF p d) j f e).pot = (certF (instF p d) j f e).pot ∧
 (certF (instF p d) j f e).side = (certF (instF p d) j f e).side ∧
 (certF (instF p d) j f e).cycle = (certF (instF p d) j f e).cycle ∧
 (certF (instF p d) k d e).flow = (certF (instF p d) k d e).flow ∧
 (certF (instF p d) k d e).pot = (certF (instF p d) k d e).pot ∧
 (certF (instF p d) k d e).side = (certF (instF p d) k d e).side ∧
 (certF (instF p d) k d e).cycle = (certF (instF p d) k d e).cycle ∧
 (True ∧ True ∧ True) ∧
 (instF p d).sup = (instF p d).sup ∧
 (instF p d).arcs = (instF p d).arcs ∧
 x.flow = x.flow ∧
 x.pot = x.pot ∧
 x.side = x.side ∧
 x.cycle = x.cycle ∧
 y.flow = y.flow ∧
 y.pot = y.pot ∧
 y.side = y.side ∧ y.cycle = y.cycle ∧ True)
abbrev CertOne_a11 (p : List Int) (d : List Int) (k : Int) (e : List Int) := (checkF (instF p d)
 { kind := (certF (instF p d) k d e).kind, flow := (certF (instF p d) k d e).flow, pot := (certF (instF p d) k d e).pot, side := (certF (instF p d) k d e).side, cycle := (certF (instF p d) k d e).cycle : Cert } !=
 (0 : Int))
abbrev CertOne_a12 (g_1 : Nat × Nat) (g : Nat × Nat) := ((0 : Nat) = (0 : Nat) ∧
 True ∧ (↑g_1.2 : Int) = (↑g.2 : Int) ∧ (↑g_1.1 : Int) = (↑g.1 : Int) ∧ True)
abbrev CertOne_a13 (p : List Int) (d : List Int) (k : Int) (e : List Int) := (CertOk
 { kind := (certF (instF p d) k d e).kind, flow := (certF (instF p d) k d e).flow, pot := (certF (instF p d) k d e).pot, side := (certF (instF p d) k d e).side, cycle := (certF (instF p d) k d e).cycle : Cert } ∧
 InstOk (instF p d))
abbrev CertOne_a14 (p : List Int) (d : List Int) (k : Int) (f : List Int) := (CertOk
 { kind := (certF (instF p d) k f f).kind, flow := (certF (instF p d) k f f).flow, pot := (certF (instF p d) k f f).pot, side := (certF (instF p d) k f f).side, cycle := (certF (instF p d) k f f).cycle : Cert } ∧
 InstOk (instF p d))
abbrev CertOne_a15 (p : List Int) (d : List Int) (j : Int) (f : List Int) (e : List Int) := (CertOk
 { kind := (certF (instF p d) j f e).kind, flow := (certF (instF p d) j f e).flow, pot := (certF (instF p d) j f e).pot, side := (certF (instF p d) j f e).side, cycle := (certF (instF p d) j f e).cycle : Cert } ∧
 InstOk (instF p d))
abbrev CertOne_a16 (p : List Int) (d : List Int) (k : Int) (f : List Int) := (checkF (instF p d)
 { kind := (certF (instF p d) k f f).kind, flow := (certF (instF p d) k f f).flow, pot := (certF (instF p d) k f f).pot, side := (certF (instF p d) k f f).side, cycle := (certF (instF p d) k f f).cycle : Cert } !=
 (0 : Int))
abbrev CertOne_a17 (p : List Int) (d : List Int) (j : Int) (f : List Int) (e : List Int) := (checkF (instF p d)
 { kind := (certF (instF p d) j f e).kind, flow := (certF (instF p d) j f e).flow, pot := (certF (instF p d) j f e).pot, side := (certF (instF p d) j f e).side, cycle := (certF (instF p d) j f e).cycle : Cert } !=
 (0 : Int))
abbrev CertOne_a18 (p : List Int) (d : List Int) (e : List Int) (f : List Int) (x : Cert) (y : Cert) (k : Int) (j : Int) (g : Nat × Nat) (g_2 : Nat × Nat) := ((valueW (instF p d) (certs1 p d e f x y k j g.2)).hi =
 (valueW (instF p d) (certs1 p d e f x y k j g_2.2)).hi ∧
 (valueW (instF p d) (certs1 p d e f x y k j g.2)).lo =
 (valueW (instF p d) (certs1 p d e f x y k j g_2.2)).lo ∧
 True)
abbrev CertOne_a19 (p : List Int) (d : List Int) (k : Int) (e : List Int) := (valueW (instF p d)
 { kind := (certF (instF p d) k d e).kind, flow := (certF (instF p d) k d e).flow, pot := (certF (instF p d) k d e).pot, side := (certF (instF p d) k d e).side, cycle := (certF (instF p d) k d e).cycle : Cert })
abbrev CertOne_a20 (p : List Int) (d : List Int) (k : Int) (f : List Int) := (valueW (instF p d)
 { kind := (certF (instF p d) k f f).kind, flow := (certF (instF p d) k f f).flow, pot := (certF (instF p d) k f f).pot, side := (certF (instF p d) k f f).side, cycle := (certF (instF p d) k f f).cycle : Cert })
abbrev CertOne_a21 (p : List Int) (d : List Int) (j : Int) (f : List Int) (e : List Int) := (valueW (instF p d)
 { kind := (certF (instF p d) j f e).kind, flow := (certF (instF p d) j f e).flow, pot := (certF (instF p d) j f e).pot, side := (certF (instF p d) j f e).side, cycle := (certF (instF p d) j f e).cycle : Cert })
abbrev CertOne_a22 (p : List Int) (d : List Int) (y : Cert) (g0 : Nat × Nat) (g_1 : Nat × Nat) (x : Cert) (k : Int) (e : List Int) (j : Int) (f : List Int) := ((checkF (instF p d)
 { kind := y.kind, flow := y.flow, pot := y.pot, side := y.side, cycle := y.cycle : Cert } !=
 (0 : Int)) =
 true →
 ∃ (g' : Nat × Nat),
 (g'.snd = g0.snd ∧ g'.fst ≤ g'.snd) ∧
 g'.snd - g'.fst < g_1.snd - g_1.fst ∧
 (CertOne_a7 g_1 g') ∧
 (CertOne_a0 x y p d k e j f) ∧
 (certF (instF p d) k f f).flow = (certF (instF p d) k f f).flow ∧
 (certF (instF p d) k f f).pot = (certF (instF p d) k f f).pot ∧
 (certF (instF p d) k f f).side = (certF (instF p d) k f f).side ∧
 (certF (instF p d) k f f).cycle = (certF (instF p d) k f f).cycle ∧
 (certF (instF p d) j f e).flow = (certF (instF p d) j f e).flow ∧
 (certF (instF p d) j f e).pot = (certF (instF p d) j f e).pot ∧
 (certF (instF p d) j f e).side = (certF (instF p d) j f e).side ∧
 (certF (instF p d) j f e).cycle = (certF (instF p d) j f e).cycle ∧
 (certF (instF p d) k d e).flow = (certF (instF p d) k d e).flow ∧
 (certF (instF p d) k d e).pot = (certF (instF p d) k d e).pot ∧
 (certF (instF p d) k d e).side = (certF (instF p d) k d e).side ∧
 (certF (instF p d) k d e).cycle =
 (certF (instF p d) k d e).cycle ∧
 (True ∧ True ∧ True) ∧
 (instF p d).sup = (instF p d).sup ∧
 (instF p d).arcs = (instF p d).arcs ∧
 x.flow = x.flow ∧
 x.pot = x.pot ∧
 x.side = x.side ∧
 x.cycle = x.cycle ∧
 y.flow = y.flow ∧
 y.pot = y.pot ∧
 y.side = y.side ∧
 y.cycle = y.cycle ∧ True)
abbrev CertOne_a23 (p : List Int) (d : List Int) (x : Cert) (g0 : Nat × Nat) (g_1 : Nat × Nat) (y : Cert) (k : Int) (e : List Int) (j : Int) (f : List Int) := ((checkF (instF p d)
 { kind := x.kind, flow := x.flow, pot := x.pot, side := x.side, cycle := x.cycle : Cert } !=
 (0 : Int)) =
 true →
 ∃ (g' : Nat × Nat),
 (g'.snd = g0.snd ∧ g'.fst ≤ g'.snd) ∧
 g'.snd - g'.fst < g_1.snd - g_1.fst ∧
 (CertOne_a7 g_1 g') ∧
 (CertOne_a0 x y p d k e j f) ∧
 (certF (instF p d) k f f).flow = (certF (instF p d) k f f).flow ∧
 (certF (instF p d) k f f).pot = (certF (instF p d) k f f).pot ∧
 (certF (instF p d) k f f).side = (certF (instF p d) k f f).side ∧
 (certF (instF p d) k f f).cycle = (certF (instF p d) k f f).cycle ∧
 (certF (instF p d) j f e).flow = (certF (instF p d) j f e).flow ∧
 (certF (instF p d) j f e).pot = (certF (instF p d) j f e).pot ∧
 (certF (instF p d) j f e).side = (certF (instF p d) j f e).side ∧
 (certF (instF p d) j f e).cycle = (certF (instF p d) j f e).cycle ∧
 (certF (instF p d) k d e).flow = (certF (instF p d) k d e).flow ∧
 (certF (instF p d) k d e).pot = (certF (instF p d) k d e).pot ∧
 (certF (instF p d) k d e).side = (certF (instF p d) k d e).side ∧
 (certF (instF p d) k d e).cycle =
 (certF (instF p d) k d e).cycle ∧
 (True ∧ True ∧ True) ∧
 (instF p d).sup = (instF p d).sup ∧
 (instF p d).arcs = (instF p d).arcs ∧
 x.flow = x.flow ∧
 x.pot = x.pot ∧
 x.side = x.side ∧
 x.cycle = x.cycle ∧
 y.flow = y.flow ∧
 y.pot = y.pot ∧
 y.side = y.side ∧ y.cycle = y.cycle ∧ True)
abbrev CertOne_a24 (p : List Int) (d : List Int) (y : Cert) (g0 : Nat × Nat) (g_1 : Nat × Nat) (x : Cert) (k : Int) (e : List Int) (j : Int) (f : List Int) := ((checkF (instF p d)
 { kind := y.kind, flow := y.flow, pot := y.pot, side := y.side, cycle := y.cycle : Cert } !=
 (0 : Int)) =
 true →
 ∃ (g' : Nat × Nat),
 (g'.snd = g0.snd ∧ g'.fst ≤ g'.snd) ∧
 g'.snd - g'.fst < g_1.snd - g_1.fst ∧
 (CertOne_a7 g_1 g') ∧
 (CertOne_a0 x y p d k e j f) ∧
 (certF (instF p d) k f f).flow = (certF (instF p d) k f f).flow ∧
 (certF (instF p d) k f f).pot = (certF (instF p d) k f f).pot ∧
 (certF (instF p d) k f f).side = (certF (instF p d) k f f).side ∧
 (certF (instF p d) k f f).cycle = (certF (instF p d) k f f).cycle ∧
 (certF (instF p d) j f e).flow = (certF (instF p d) j f e).flow ∧
 (certF (instF p d) j f e).pot = (certF (instF p d) j f e).pot ∧
 (certF (instF p d) j f e).side = (certF (instF p d) j f e).side ∧
 (certF (instF p d) j f e).cycle = (certF (instF p d) j f e).cycle ∧
 (certF (instF p d) k d e).flow = (certF (instF p d) k d e).flow ∧
 (certF (instF p d) k d e).pot = (certF (instF p d) k d e).pot ∧
 (certF (instF p d) k d e).side = (certF (instF p d) k d e).side ∧
 (certF (instF p d) k d e).cycle = (certF (instF p d) k d e).cycle ∧
 (True ∧ True ∧ True) ∧
 (instF p d).sup = (instF p d).sup ∧
 (instF p d).arcs = (instF p d).arcs ∧
 x.flow = x.flow ∧
 x.pot = x.pot ∧
 x.side = x.side ∧
 x.cycle = x.cycle ∧
 y.flow = y.flow ∧
 y.pot = y.pot ∧
 y.side = y.side ∧ y.cycle = y.cycle ∧ True)
abbrev CertOne_a25 (p : List Int) (d : List Int) (k : Int) (e : List Int) (g0 : Nat × Nat) (g_1 : Nat × Nat) (x : Cert) (y : Cert) (j : Int) (f : List Int) := ((CertOne_a11 p d k e) =
 true →
 ∃ (g' : Nat × Nat),
 (g'.snd = g0.snd ∧ g'.fst ≤ g'.snd) ∧
 g'.snd - g'.fst < g_1.snd - g_1.fst ∧
 (CertOne_a7 g_1 g') ∧
 (CertOne_a0 x y p d k e j f) ∧
 (certF (instF p d) k f f).flow = (certF (instF p d) k f f).flow ∧
 (certF (instF p d) k f f).pot = (certF (instF p d) k f f).pot ∧
 (certF (instF p d) k f f).side = (certF (instF p d) k f f).side ∧
 (certF (instF p d) k f f).cycle = (certF (instF p d) k f f).cycle ∧
 (certF (instF p d) j f e).flow = (certF (instF p d) j f e).flow ∧
 (certF (instF p d) j f e).pot = (certF (instF p d) j f e).pot ∧
 (certF (instF p d) j f e).side = (certF (instF p d) j f e).side ∧
 (certF (instF p d) j f e).cycle = (certF (instF p d) j f e).cycle ∧
 (certF (instF p d) k d e).flow = (certF (instF p d) k d e).flow ∧
 (certF (instF p d) k d e).pot = (certF (instF p d) k d e).pot ∧
 (certF (instF p d) k d e).side =
 (certF (instF p d) k d e).side ∧
 (certF (instF p d) k d e).cycle =
 (certF (instF p d) k d e).cycle ∧
 (True ∧ True ∧ True) ∧
 (instF p d).sup = (instF p d).sup ∧
 (instF p d).arcs = (instF p d).arcs ∧
 x.flow = x.flow ∧
 x.pot = x.pot ∧
 x.side = x.side ∧
 x.cycle = x.cycle ∧
 y.flow = y.flow ∧
 y.pot = y.pot ∧
 y.side = y.side ∧
 y.cycle = y.cycle ∧ True)
abbrev CertOne_a26 (p : List Int) (d : List Int) (e : List Int) (f : List Int) (x : Cert) (y : Cert) (k : Int) (j : Int) (g : Nat × Nat) := ((CertOne_a4 p d e f x y k j g) =
 true →
 (false = true ∧ True) ∧ True)
abbrev CertOne_a27 (x : Cert) (p : List Int) (d : List Int) := (CertOk { kind := x.kind, flow := x.flow, pot := x.pot, side := x.side, cycle := x.cycle : Cert } ∧
 InstOk (instF p d))
abbrev CertOne_a28 (y : Cert) (p : List Int) (d : List Int) := (CertOk { kind := y.kind, flow := y.flow, pot := y.pot, side := y.side, cycle := y.cycle : Cert } ∧
 InstOk (instF p d))
abbrev CertOne_a29 (x : Cert) (y : Cert) (p : List Int) (d : List Int) (k : Int) (e : List Int) (j : Int) (f : List Int) := ((x.kind = x.kind ∧ True ∧ True ∧ True ∧ True ∧ True) ∧
 (y.kind = y.kind ∧ True ∧ True ∧ True ∧ True ∧ True) ∧
 ((certF (instF p d) k d e).kind = (certF (instF p d) k d e).kind ∧ True ∧ True ∧ True ∧ True ∧ True) ∧
 ((certF (instF p d) j f e).kind = (certF (instF p d) j f e).kind ∧ True ∧ True ∧ True ∧ True ∧ True) ∧
 ((certF (instF p d) k f f).kind = (certF (instF p d) k f f).kind ∧ True ∧ True ∧ True ∧ True ∧ True) ∧ True)
abbrev CertOne_a30 (p : List Int) (d : List Int) (x : Cert) := (valueW (instF p d)
 { kind := x.kind, flow := x.flow, pot := x.pot, side := x.side, cycle := x.cycle : Cert })
abbrev CertOne_a31 (p : List Int) (d : List Int) (y : Cert) := (valueW (instF p d)
 { kind := y.kind, flow := y.flow, pot := y.pot, side := y.side, cycle := y.cycle : Cert })
abbrev CertOne_a32 (p : List Int) (d : List Int) (y : Cert) := (checkF (instF p d)
 { kind := y.kind, flow := y.flow, pot := y.pot, side := y.side, cycle := y.cycle : Cert } !=
 (0 : Int))
abbrev CertOne_a33 (p : List Int) (d : List Int) (x : Cert) := (checkF (instF p d)
 { kind := x.kind, flow := x.flow, pot := x.pot, side := x.side, cycle := x.cycle : Cert } !=
 (0 : Int))
abbrev CertOne_a34 (g : Nat × Nat) := ((0 : Int) ≤ (↑g.1 : Int) ∧ (↑g.1 : Int) < (↑(5 : Nat) : Int))
abbrev CertOne_a35 (p : List Int) (d : List Int) (e : List Int) (f : List Int) (x : Cert) (y : Cert) (k : Int) (j : Int) (g_2 : Nat × Nat) := (valueW (instF p d) (certs1 p d e f x y k j g_2.2))
abbrev CertOne_a36 (p : List Int) (d : List Int) (e : List Int) (f : List Int) (x : Cert) (y : Cert) (k : Int) (j : Int) (g_2 : Nat × Nat) := (valueW (instF p d) (certs1 p d e f x y k j g_2.1))
abbrev CertOne_a37 (g : Nat × Nat) (g_2 : Nat × Nat) (p : List Int) (d : List Int) (e : List Int) (f : List Int) (x : Cert) (y : Cert) (k : Int) (j : Int) := ((0 : Nat) = (0 : Nat) ∧
 True ∧
 (↑g.2 : Int) = (↑g_2.2 : Int) ∧
 (↑g.1 : Int) = (↑g_2.1 : Int) ∧
 (0 : Nat) = (0 : Nat) ∧
 decide ((certs1 p d e f x y k j g.2).kind = (1 : Int)) =
 decide ((certs1 p d e f x y k j g_2.2).kind = (1 : Int)) ∧
 (0 : Nat) = (0 : Nat) ∧
 decide ((certF (instF p d) k d e).kind = (1 : Int)) =
 decide ((certs1 p d e f x y k j g_2.1).kind = (1 : Int)) ∧
 True)
abbrev CertOne_a38 (g : Nat × Nat) (g_2 : Nat × Nat) (p : List Int) (d : List Int) (e : List Int) (f : List Int) (x : Cert) (y : Cert) (k : Int) (j : Int) := ((0 : Nat) = (0 : Nat) ∧
 True ∧
 (↑g.2 : Int) = (↑g_2.2 : Int) ∧
 (↑g.1 : Int) = (↑g_2.1 : Int) ∧
 (0 : Nat) = (0 : Nat) ∧
 decide ((certs1 p d e f x y k j g.2).kind = (1 : Int)) =
 decide ((certs1 p d e f x y k j g_2.2).kind = (1 : Int)) ∧
 (0 : Nat) = (0 : Nat) ∧
 decide ((certF (instF p d) j f e).kind = (1 : Int)) =
 decide ((certs1 p d e f x y k j g_2.1).kind = (1 : Int)) ∧
 True)
abbrev CertOne_a39 (g : Nat × Nat) (g_2 : Nat × Nat) (p : List Int) (d : List Int) (e : List Int) (f : List Int) (x : Cert) (y : Cert) (k : Int) (j : Int) := ((0 : Nat) = (0 : Nat) ∧
 True ∧
 (↑g.2 : Int) = (↑g_2.2 : Int) ∧
 (↑g.1 : Int) = (↑g_2.1 : Int) ∧
 (0 : Nat) = (0 : Nat) ∧
 decide ((certs1 p d e f x y k j g.2).kind = (1 : Int)) =
 decide ((certs1 p d e f x y k j g_2.2).kind = (1 : Int)) ∧
 (0 : Nat) = (0 : Nat) ∧
 decide ((certF (instF p d) k f f).kind = (1 : Int)) =
 decide ((certs1 p d e f x y k j g_2.1).kind = (1 : Int)) ∧
 True)
abbrev CertOne_a40 (g_1 : Nat × Nat) := ((0 : Int) ≤ (↑g_1.1 : Int) ∧ (↑g_1.1 : Int) < (↑(5 : Nat) : Int))
abbrev CertOne_a41 (g : Nat × Nat) (g_2 : Nat × Nat) (p : List Int) (d : List Int) (e : List Int) (f : List Int) (x : Cert) (y : Cert) (k : Int) (j : Int) := ((0 : Nat) = (0 : Nat) ∧
 True ∧
 (↑g.2 : Int) = (↑g_2.2 : Int) ∧
 (↑g.1 : Int) = (↑g_2.1 : Int) ∧
 (0 : Nat) = (0 : Nat) ∧
 decide ((certs1 p d e f x y k j g.2).kind = (1 : Int)) =
 decide ((certs1 p d e f x y k j g_2.2).kind = (1 : Int)) ∧
 (0 : Nat) = (0 : Nat) ∧
 decide (x.kind = (1 : Int)) =
 decide ((certs1 p d e f x y k j g_2.1).kind = (1 : Int)) ∧
 True)
abbrev CertOne_a42 (g : Nat × Nat) (g_2 : Nat × Nat) (p : List Int) (d : List Int) (e : List Int) (f : List Int) (x : Cert) (y : Cert) (k : Int) (j : Int) := ((0 : Nat) = (0 : Nat) ∧
 True ∧
 (↑g.2 : Int) = (↑g_2.2 : Int) ∧
 (↑g.1 : Int) = (↑g_2.1 : Int) ∧
 (0 : Nat) = (0 : Nat) ∧
 decide ((certs1 p d e f x y k j g.2).kind = (1 : Int)) =
 decide ((certs1 p d e f x y k j g_2.2).kind = (1 : Int)) ∧
 (0 : Nat) = (0 : Nat) ∧
 decide (y.kind = (1 : Int)) =
 decide ((certs1 p d e f x y k j g_2.1).kind = (1 : Int)) ∧
 True)
def CertOne_E0 (p : List Int) (d : List Int) (e : List Int) (f : List Int) (x : Cert) (y : Cert) (k : Int) (j : Int) (ty0 ty1 ty2 ty3 ty4 ty5 ty6 ty7 ty8 ty9 ty10 ty11 : TypeId) : Prop :=
      (Bytes p ∧ Bytes d ∧ p.length ≤ maxLen ∧ d.length ≤ maxLen) ∧
 CertOk { kind := x.kind, flow := x.flow, pot := x.pot, side := x.side, cycle := x.cycle : Cert } ∧
 (decide ((↑x.flow.length : Int) + (↑x.pot.length : Int) + (↑x.side.length : Int) + (↑x.cycle.length : Int) > (300 : Int)) = true → True ∧ (true = true ∧ True) ∧ True) ∧
 (decide ((↑x.flow.length : Int) + (↑x.pot.length : Int) + (↑x.side.length : Int) + (↑x.cycle.length : Int) > (300 : Int)) = false →
 CertOk { kind := y.kind, flow := y.flow, pot := y.pot, side := y.side, cycle := y.cycle : Cert } ∧
 (decide ((↑y.flow.length : Int) + (↑y.pot.length : Int) + (↑y.side.length : Int) + (↑y.cycle.length : Int) > (300 : Int)) = true → True ∧ (true = true ∧ True) ∧ True) ∧
 (decide ((↑y.flow.length : Int) + (↑y.pot.length : Int) + (↑y.side.length : Int) + (↑y.cycle.length : Int) > (300 : Int)) = false →
 ((0 : Int) ≤ k ∧
 k ≤ (255 : Int) ∧ (instF p d).sup.length ≤ (1000 : Nat) ∧ (instF p d).arcs.length ≤ (1000 : Nat) ∧ L42 (instF p d).arcs ∧ Bytes d ∧ Bytes e ∧ e.length ≤ maxLen) ∧
 ((0 : Int) ≤ j ∧
 j ≤ (255 : Int) ∧
 (instF p d).sup.length ≤ (1000 : Nat) ∧ (instF p d).arcs.length ≤ (1000 : Nat) ∧ L42 (instF p d).arcs ∧ Bytes f ∧ Bytes e ∧ e.length ≤ maxLen) ∧
 ((0 : Int) ≤ k ∧
 k ≤ (255 : Int) ∧
 (instF p d).sup.length ≤ (1000 : Nat) ∧ (instF p d).arcs.length ≤ (1000 : Nat) ∧ L42 (instF p d).arcs ∧ Bytes f ∧ Bytes f ∧ f.length ≤ maxLen) ∧
 ∃ (g0 : Nat),
 (g0 ≤ (5 : Nat) ∧
 ((0 : Nat) = (0 : Nat) ∧ True ∧ (0 : Int) = (↑g0 : Int) ∧ True) ∧
 (CertOne_a29 x y p d k e j f) ∧
 (certF (instF p d) k f f).flow = (certF (instF p d) k f f).flow ∧
 (certF (instF p d) k f f).pot = (certF (instF p d) k f f).pot ∧
 (certF (instF p d) k f f).side = (certF (instF p d) k f f).side ∧
 (certF (instF p d) k f f).cycle = (certF (instF p d) k f f).cycle ∧
 (certF (instF p d) j f e).flow = (certF (instF p d) j f e).flow ∧
 (certF (instF p d) j f e).pot = (certF (instF p d) j f e).pot ∧
 (certF (instF p d) j f e).side = (certF (instF p d) j f e).side ∧
 (certF (instF p d) j f e).cycle = (certF (instF p d) j f e).cycle ∧
 (certF (instF p d) k d e).flow = (certF (instF p d) k d e).flow ∧
 (certF (instF p d) k d e).pot = (certF (instF p d) k d e).pot ∧
 (certF (instF p d) k d e).side = (certF (instF p d) k d e).side ∧
 (certF (instF p d) k d e).cycle = (certF (instF p d) k d e).cycle ∧
 (True ∧ True ∧ True) ∧
 (instF p d).sup = (instF p d).sup ∧
 (instF p d).arcs = (instF p d).arcs ∧
 x.flow = x.flow ∧
 x.pot = x.pot ∧
 x.side = x.side ∧
 x.cycle = x.cycle ∧ y.flow = y.flow ∧ y.pot = y.pot ∧ y.side = y.side ∧ y.cycle = y.cycle ∧ True) ∧
 ∀ (g : Nat),
 g ≤ (5 : Nat) →
 (decide ((↑g : Int) < (↑(5 : Nat) : Int)) = true →
 ∃ (g0 : Nat × Nat),
 ((g0.snd = g0.snd ∧ g0.fst ≤ g0.snd) ∧
 ((0 : Nat) = (0 : Nat) ∧ True ∧ (↑g : Int) = (↑g0.2 : Int) ∧ (0 : Int) = (↑g0.1 : Int) ∧ True) ∧
 (CertOne_a29 x y p d k e j f) ∧
 (certF (instF p d) k f f).flow = (certF (instF p d) k f f).flow ∧
 (certF (instF p d) k f f).pot = (certF (instF p d) k f f).pot ∧
 (certF (instF p d) k f f).side = (certF (instF p d) k f f).side ∧
 (certF (instF p d) k f f).cycle = (certF (instF p d) k f f).cycle ∧
 (certF (instF p d) j f e).flow = (certF (instF p d) j f e).flow ∧
 (certF (instF p d) j f e).pot = (certF (instF p d) j f e).pot ∧
 (certF (instF p d) j f e).side = (certF (instF p d) j f e).side ∧
 (certF (instF p d) j f e).cycle = (certF (instF p d) j f e).cycle ∧
 (certF (instF p d) k d e).flow = (certF (instF p d) k d e).flow ∧
 (certF (instF p d) k d e).pot = (certF (instF p d) k d e).pot ∧
 (certF (instF p d) k d e).side = (certF (instF p d) k d e).side ∧
 (certF (instF p d) k d e).cycle = (certF (instF p d) k d e).cycle ∧
 (True ∧ True ∧ True) ∧
 (instF p d).sup = (instF p d).sup ∧
 (instF p d).arcs = (instF p d).arcs ∧
 x.flow = x.flow ∧
 x.pot = x.pot ∧
 x.side = x.side ∧
 x.cycle = x.cycle ∧ y.flow = y.flow ∧ y.pot = y.pot ∧ y.side = y.side ∧ y.cycle = y.cycle ∧ True) ∧
 ∀ (g_1 : Nat × Nat),
 g_1.snd = g0.snd ∧ g_1.fst ≤ g_1.snd →
 (decide ((↑g_1.1 : Int) < (↑g_1.2 : Int)) = true →
 ∃ (Q :
 { G := Nat × Nat, inv := fun (x_1 : Nat × Nat) => match x_1 with | (m, n) => { tm := [((17 : Nat), SV.ptr (18 : Nat) (0 : Nat) (0 : Nat) (0 : Nat)), ((18 : Nat), SV.row (31 : Nat)), ((19 : Nat), SV.int IntKind.i64 (↑n : Int)), ((20 : Nat), SV.int IntKind.i64 (↑m : Int))], hp := [((31 : Nat), Ent.vec (27 : TypeId) [SV.agg [SV.int IntKind.i64 x.kind, SV.row (4 : Nat), SV.row (5 : Nat), SV.row (6 : Nat), SV.row (7 : Nat)], SV.agg [SV.int IntKind.i64 y.kind, SV.row (8 : Nat), SV.row (9 : Nat), SV.row (10 : Nat), SV.row (11 : Nat)], SV.agg [SV.int IntKind.i64 (certF (instF p d) k d e).kind, SV.row (19 : Nat), SV.row (20 : Nat), SV.row (21 : Nat), SV.row (22 : Nat)], SV.agg [SV.int IntKind.i64 (certF (instF p d) j f e).kind, SV.row (23 : Nat), SV.row (24 : Nat), SV.row (25 : Nat), SV.row (26 : Nat)], SV.agg [SV.int IntKind.i64 (certF (instF p d) k f f).kind, SV.row (27 : Nat), SV.row (28 : Nat), SV.row (29 : Nat), SV.row (30 : Nat)]]), ((27 : Nat), Ent.row true (2 : TypeId) (Row.ints IntKind.i64 (certF (instF p d) k f f).flow)), ((28 : Nat), Ent.row true (2 : TypeId) (Row.ints IntKind.i64 (certF (instF p d) k f f).pot)), ((29 : Nat), Ent.row true (4 : TypeId) (Row.bools (certF (instF p d) k f f).side)), ((30 : Nat), Ent.row true (3 : TypeId) (Row.ints IntKind.i64 (certF (instF p d) k f f).cycle)), ((23 : Nat), Ent.row true (2 : TypeId) (Row.ints IntKind.i64 (certF (instF p d) j f e).flow)), ((24 : Nat), Ent.row true (2 : TypeId) (Row.ints IntKind.i64 (certF (instF p d) j f e).pot)), ((25 : Nat), Ent.row true (4 : TypeId) (Row.bools (certF (instF p d) j f e).side)), ((26 : Nat), Ent.row true (3 : TypeId) (Row.ints IntKind.i64 (certF (instF p d) j f e).cycle)), ((19 : Nat), Ent.row true (2 : TypeId) (Row.ints IntKind.i64 (certF (instF p d) k d e).flow)), ((20 : Nat), Ent.row true (2 : TypeId) (Row.ints IntKind.i64 (certF (instF p d) k d e).pot)), ((21 : Nat), Ent.row true (4 : TypeId) (Row.bools (certF (instF p d) k d e).side)), ((22 : Nat), Ent.row true (3 : TypeId) (Row.ints IntKind.i64 (certF (instF p d) k d e).cycle)), ((18 : Nat), Ent.box true (30 : TypeId) [SV.row (14 : Nat), SV.row (15 : Nat)]), ((14 : Nat), Ent.row true (2 : TypeId) (Row.ints IntKind.i64 (instF p d).sup)), ((15 : Nat), Ent.row true (50 : TypeId) (Row.arcs (instF p d).arcs)), ((4 : Nat), Ent.row false (0 : TypeId) (Row.ints IntKind.i64 x.flow)), ((5 : Nat), Ent.row false (0 : TypeId) (Row.ints IntKind.i64 x.pot)), ((6 : Nat), Ent.row false (0 : TypeId) (Row.bools x.side)), ((7 : Nat), Ent.row false (0 : TypeId) (Row.ints IntKind.i64 x.cycle)), ((8 : Nat), Ent.row false (0 : TypeId) (Row.ints IntKind.i64 y.flow)), ((9 : Nat), Ent.row false (0 : TypeId) (Row.ints IntKind.i64 y.pot)), ((10 : Nat), Ent.row false (0 : TypeId) (Row.bools y.side)), ((11 : Nat), Ent.row false (0 : TypeId) (Row.ints IntKind.i64 y.cycle))], nk := (32 : Nat) : St }, rel := fun (x_1 x_2 : Nat × Nat) => match x_1 with | (m0, n0) => match x_2 with | (m, n) => BothOk (instF p d) (certs1 p d e f x y k j n) (certs1 p d e f x y k j m), meas := fun (x : Nat × Nat) => match x with | (m, n) => (0 : Nat), link := true : Ann }.G →
 Prop),
 (((0 : Int) ≤ (↑g_1.2 : Int) ∧ (↑g_1.2 : Int) < (↑(5 : Nat) : Int)) ∧
 (↑g_1.2 : Int).toNat < (5 : Nat) ∧
 ((↑g_1.2 : Int).toNat = (0 : Nat) →
 (CertOk { kind := x.kind, flow := x.flow, pot := x.pot, side := x.side, cycle := x.cycle : Cert } ∧ InstOk (instF p d)) ∧
 ((checkF (instF p d) { kind := x.kind, flow := x.flow, pot := x.pot, side := x.side, cycle := x.cycle : Cert } !=
 (0 : Int)) =
 true →
 ∃ (g' : Nat × Nat),
 (g'.snd = g0.snd ∧ g'.fst ≤ g'.snd) ∧
 g'.snd - g'.fst < g_1.snd - g_1.fst ∧
 ((0 : Nat) = (0 : Nat) ∧
 True ∧
 (↑g_1.2 : Int) = (↑g'.2 : Int) ∧ IntKind.i64.wrap ((↑g_1.1 : Int) + (1 : Int)) = (↑g'.1 : Int) ∧ True) ∧
 ((x.kind = x.kind ∧ True ∧ True ∧ True ∧ True ∧ True) ∧
 (y.kind = y.kind ∧ True ∧ True ∧ True ∧ True ∧ True) ∧
 ((certF (instF p d) k d e).kind = (certF (instF p d) k d e).kind ∧ True ∧ True ∧ True ∧ True ∧ True) ∧
 ((certF (instF p d) j f e).kind = (certF (instF p d) j f e).kind ∧ True ∧ True ∧ True ∧ True ∧ True) ∧
 ((certF (instF p d) k f f).kind = (certF (instF p d) k f f).kind ∧
 True ∧ True ∧ True ∧ True ∧ True) ∧
 True) ∧
 (certF (instF p d) k f f).flow = (certF (instF p d) k f f).flow ∧
 (certF (instF p d) k f f).pot = (certF (instF p d) k f f).pot ∧
 (certF (instF p d) k f f).side = (certF (instF p d) k f f).side ∧
 (certF (instF p d) k f f).cycle = (certF (instF p d) k f f).cycle ∧
 (certF (instF p d) j f e).flow = (certF (instF p d) j f e).flow ∧
 (certF (instF p d) j f e).pot = (certF (instF p d) j f e).pot ∧
 (certF (instF p d) j f e).side = (certF (instF p d) j f e).side ∧
 (certF (instF p d) j f e).cycle = (certF (instF p d) j f e).cycle ∧
 (certF (instF p d) k d e).flow = (certF (instF p d) k d e).flow ∧
 (certF (instF p d) k d e).pot = (certF (instF p d) k d e).pot ∧
 (certF (instF p d) k d e).side = (certF (instF p d) k d e).side ∧
 (certF (instF p d) k d e).cycle = (certF (instF p d) k d e).cycle ∧
 (True ∧ True ∧ True) ∧
 (instF p d).sup = (instF p d).sup ∧
 (instF p d).arcs = (instF p d).arcs ∧
 x.flow = x.flow ∧
 x.pot = x.pot ∧
 x.side = x.side ∧
 x.cycle = x.cycle ∧
 y.flow = y.flow ∧
 y.pot = y.pot ∧ y.side = y.side ∧ y.cycle = y.cycle ∧ True) ∧
 ((checkF (instF p d) { kind := x.kind, flow := x.flow, pot := x.pot, side := x.side, cycle := x.cycle : Cert } !=
 (0 : Int)) =
 false →
 (CertOne_a40 g_1) ∧
 (↑g_1.1 : Int).toNat < (5 : Nat) ∧
 ((↑g_1.1 : Int).toNat = (0 : Nat) →
 (CertOne_a27 x p d) ∧
 (CertOne_a10 p d x g0 g_1 y k e j f) ∧
 ((CertOne_a33 p d x) =
 false →
 ∃ (g : Nat × Nat),
 (BothOk (instF p d) (certs1 p d e f x y k j g.snd) (certs1 p d e f x y k j g.fst) ∧ Q g) ∧
 (CertOne_a12 g_1 g) ∧
 (CertOne_a0 x y p d k e j f) ∧
 (certF (instF p d) k f f).flow = (certF (instF p d) k f f).flow ∧
 (certF (instF p d) k f f).pot = (certF (instF p d) k f f).pot ∧
 (certF (instF p d) k f f).side = (certF (instF p d) k f f).side ∧
 (certF (instF p d) k f f).cycle = (certF (instF p d) k f f).cycle ∧
 (certF (instF p d) j f e).flow = (certF (instF p d) j f e).flow ∧
 (certF (instF p d) j f e).pot = (certF (instF p d) j f e).pot ∧
 (certF (instF p d) j f e).side = (certF (instF p d) j f e).side ∧
 (certF (instF p d) j f e).cycle = (certF (instF p d) j f e).cycle ∧
 (certF (instF p d) k d e).flow = (certF (instF p d) k d e).flow ∧
 (certF (instF p d) k d e).pot = (certF (instF p d) k d e).pot ∧
 (certF (instF p d) k d e).side = (certF (instF p d) k d e).side ∧
 (certF (instF p d) k d e).cycle = (certF (instF p d) k d e).cycle ∧
 (True ∧ True ∧ True) ∧
 (instF p d).sup = (instF p d).sup ∧
 (instF p d).arcs = (instF p d).arcs ∧
 x.flow = x.flow ∧
 x.pot = x.pot ∧
 x.side = x.side ∧
 x.cycle = x.cycle ∧
 y.flow = y.flow ∧
 y.pot = y.pot ∧
 y.side = y.side ∧ y.cycle = y.cycle ∧ True)) ∧
 ((↑g_1.1 : Int).toNat = (0 : Nat) + (1 : Nat) →
 (CertOne_a28 y p d) ∧
 (CertOne_a24 p d y g0 g_1 x k e j f) ∧
 ((CertOne_a32 p d y) =
 false →
 ∃ (g : Nat × Nat),
 (BothOk (instF p d) (certs1 p d e f x y k j g.snd) (certs1 p d e f x y k j g.fst) ∧ Q g) ∧
 (CertOne_a12 g_1 g) ∧
 (CertOne_a0 x y p d k e j f) ∧
 (certF (instF p d) k f f).flow = (certF (instF p d) k f f).flow ∧
 (certF (instF p d) k f f).pot = (certF (instF p d) k f f).pot ∧
 (certF (instF p d) k f f).side = (certF (instF p d) k f f).side ∧
 (certF (instF p d) k f f).cycle = (certF (instF p d) k f f).cycle ∧
 (certF (instF p d) j f e).flow = (certF (instF p d) j f e).flow ∧
 (certF (instF p d) j f e).pot = (certF (instF p d) j f e).pot ∧
 (certF (instF p d) j f e).side = (certF (instF p d) j f e).side ∧
 (certF (instF p d) j f e).cycle = (certF (instF p d) j f e).cycle ∧
 (certF (instF p d) k d e).flow = (certF (instF p d) k d e).flow ∧
 (certF (instF p d) k d e).pot = (certF (instF p d) k d e).pot ∧
 (certF (instF p d) k d e).side = (certF (instF p d) k d e).side ∧
 (certF (instF p d) k d e).cycle = (certF (instF p d) k d e).cycle ∧
 (True ∧ True ∧ True) ∧
 (instF p d).sup = (instF p d).sup ∧
 (instF p d).arcs = (instF p d).arcs ∧
 x.flow = x.flow ∧
 x.pot = x.pot ∧
 x.side = x.side ∧
 x.cycle = x.cycle ∧
 y.flow = y.flow ∧
 y.pot = y.pot ∧
 y.side = y.side ∧ y.cycle = y.cycle ∧ True)) ∧
 ((↑g_1.1 : Int).toNat = (0 : Nat) + (1 : Nat) + (1 : Nat) →
 (CertOne_a13 p d k e) ∧
 ((CertOne_a11 p d k e) =
 true →
 ∃ (g' : Nat × Nat),
 (g'.snd = g0.snd ∧ g'.fst ≤ g'.snd) ∧
 g'.snd - g'.fst < g_1.snd - g_1.fst ∧
 (CertOne_a7 g_1 g') ∧
 (CertOne_a0 x y p d k e j f) ∧
 (certF (instF p d) k f f).flow = (certF (instF p d) k f f).flow ∧
 (certF (instF p d) k f f).pot = (certF (instF p d) k f f).pot ∧
 (certF (instF p d) k f f).side = (certF (instF p d) k f f).side ∧
 (certF (instF p d) k f f).cycle = (certF (instF p d) k f f).cycle ∧
 (certF (instF p d) j f e).flow = (certF (instF p d) j f e).flow ∧
 (certF (instF p d) j f e).pot = (certF (instF p d) j f e).pot ∧
 (certF (instF p d) j f e).side = (certF (instF p d) j f e).side ∧
 (certF (instF p d) j f e).cycle = (certF (instF p d) j f e).cycle ∧
 (certF (instF p d) k d e).flow = (certF (instF p d) k d e).flow ∧
 (certF (instF p d) k d e).pot = (certF (instF p d) k d e).pot ∧
 (certF (instF p d) k d e).side = (certF (instF p d) k d e).side ∧
 (certF (instF p d) k d e).cycle = (certF (instF p d) k d e).cycle ∧
 (True ∧ True ∧ True) ∧
 (instF p d).sup = (instF p d).sup ∧
 (instF p d).arcs = (instF p d).arcs ∧
 x.flow = x.flow ∧
 x.pot = x.pot ∧
 x.side = x.side ∧
 x.cycle = x.cycle ∧
 y.flow = y.flow ∧
 y.pot = y.pot ∧
 y.side = y.side ∧ y.cycle = y.cycle ∧ True) ∧
 ((CertOne_a11 p d k e) =
 false →
 ∃ (g : Nat × Nat),
 (BothOk (instF p d) (certs1 p d e f x y k j g.snd) (certs1 p d e f x y k j g.fst) ∧ Q g) ∧
 (CertOne_a12 g_1 g) ∧
 (CertOne_a0 x y p d k e j f) ∧
 (certF (instF p d) k f f).flow = (certF (instF p d) k f f).flow ∧
 (certF (instF p d) k f f).pot = (certF (instF p d) k f f).pot ∧
 (certF (instF p d) k f f).side = (certF (instF p d) k f f).side ∧
 (certF (instF p d) k f f).cycle = (certF (instF p d) k f f).cycle ∧
 (certF (instF p d) j f e).flow = (certF (instF p d) j f e).flow ∧
 (certF (instF p d) j f e).pot = (certF (instF p d) j f e).pot ∧
 (certF (instF p d) j f e).side = (certF (instF p d) j f e).side ∧
 (certF (instF p d) j f e).cycle = (certF (instF p d) j f e).cycle ∧
 (certF (instF p d) k d e).flow = (certF (instF p d) k d e).flow ∧
 (certF (instF p d) k d e).pot = (certF (instF p d) k d e).pot ∧
 (certF (instF p d) k d e).side = (certF (instF p d) k d e).side ∧
 (certF (instF p d) k d e).cycle = (certF (instF p d) k d e).cycle ∧
 (True ∧ True ∧ True) ∧
 (instF p d).sup = (instF p d).sup ∧
 (instF p d).arcs = (instF p d).arcs ∧
 x.flow = x.flow ∧
 x.pot = x.pot ∧
 x.side = x.side ∧
 x.cycle = x.cycle ∧
 y.flow = y.flow ∧
 y.pot = y.pot ∧
 y.side = y.side ∧ y.cycle = y.cycle ∧ True)) ∧
 ((↑g_1.1 : Int).toNat = (0 : Nat) + (1 : Nat) + (1 : Nat) + (1 : Nat) →
 (CertOne_a15 p d j f e) ∧
 ((CertOne_a17 p d j f e) =
 true →
 ∃ (g' : Nat × Nat),
 (g'.snd = g0.snd ∧ g'.fst ≤ g'.snd) ∧
 g'.snd - g'.fst < g_1.snd - g_1.fst ∧
 (CertOne_a7 g_1 g') ∧
 (CertOne_a0 x y p d k e j f) ∧
 (certF (instF p d) k f f).flow = (certF (instF p d) k f f).flow ∧
 (certF (instF p d) k f f).pot = (certF (instF p d) k f f).pot ∧
 (certF (instF p d) k f f).side = (certF (instF p d) k f f).side ∧
 (certF (instF p d) k f f).cycle = (certF (instF p d) k f f).cycle ∧
 (certF (instF p d) j f e).flow = (certF (instF p d) j f e).flow ∧
 (certF (instF p d) j f e).pot = (certF (instF p d) j f e).pot ∧
 (certF (instF p d) j f e).side = (certF (instF p d) j f e).side ∧
 (certF (instF p d) j f e).cycle = (certF (instF p d) j f e).cycle ∧
 (certF (instF p d) k d e).flow = (certF (instF p d) k d e).flow ∧
 (certF (instF p d) k d e).pot = (certF (instF p d) k d e).pot ∧
 (certF (instF p d) k d e).side = (certF (instF p d) k d e).side ∧
 (certF (instF p d) k d e).cycle =
 (certF (instF p d) k d e).cycle ∧
 (True ∧ True ∧ True) ∧
 (instF p d).sup = (instF p d).sup ∧
 (instF p d).arcs = (instF p d).arcs ∧
 x.flow = x.flow ∧
 x.pot = x.pot ∧
 x.side = x.side ∧
 x.cycle = x.cycle ∧
 y.flow = y.flow ∧
 y.pot = y.pot ∧
 y.side = y.side ∧ y.cycle = y.cycle ∧ True) ∧
 ((CertOne_a17 p d j f e) =
 false →
 ∃ (g : Nat × Nat),
 (BothOk (instF p d) (certs1 p d e f x y k j g.snd) (certs1 p d e f x y k j g.fst) ∧ Q g) ∧
 (CertOne_a12 g_1 g) ∧
 (CertOne_a0 x y p d k e j f) ∧
 (certF (instF p d) k f f).flow = (certF (instF p d) k f f).flow ∧
 (certF (instF p d) k f f).pot = (certF (instF p d) k f f).pot ∧
 (certF (instF p d) k f f).side = (certF (instF p d) k f f).side ∧
 (certF (instF p d) k f f).cycle = (certF (instF p d) k f f).cycle ∧
 (certF (instF p d) j f e).flow = (certF (instF p d) j f e).flow ∧
 (certF (instF p d) j f e).pot = (certF (instF p d) j f e).pot ∧
 (certF (instF p d) j f e).side = (certF (instF p d) j f e).side ∧
 (certF (instF p d) j f e).cycle = (certF (instF p d) j f e).cycle ∧
 (certF (instF p d) k d e).flow = (certF (instF p d) k d e).flow ∧
 (certF (instF p d) k d e).pot = (certF (instF p d) k d e).pot ∧
 (certF (instF p d) k d e).side = (certF (instF p d) k d e).side ∧
 (certF (instF p d) k d e).cycle = (certF (instF p d) k d e).cycle ∧
 (True ∧ True ∧ True) ∧
 (instF p d).sup = (instF p d).sup ∧
 (instF p d).arcs = (instF p d).arcs ∧
 x.flow = x.flow ∧
 x.pot = x.pot ∧
 x.side = x.side ∧
 x.cycle = x.cycle ∧
 y.flow = y.flow ∧
 y.pot = y.pot ∧
 y.side = y.side ∧ y.cycle = y.cycle ∧ True)) ∧
 ((↑g_1.1 : Int).toNat = (0 : Nat) + (1 : Nat) + (1 : Nat) + (1 : Nat) + (1 : Nat) →
 (CertOne_a14 p d k f) ∧
 ((CertOne_a16 p d k f) =
 true →
 ∃ (g' : Nat × Nat),
 (g'.snd = g0.snd ∧ g'.fst ≤ g'.snd) ∧
 g'.snd - g'.fst < g_1.snd - g_1.fst ∧
 (CertOne_a7 g_1 g') ∧
 (CertOne_a0 x y p d k e j f) ∧
 (certF (instF p d) k f f).flow = (certF (instF p d) k f f).flow ∧
 (certF (instF p d) k f f).pot = (certF (instF p d) k f f).pot ∧
 (certF (instF p d) k f f).side = (certF (instF p d) k f f).side ∧
 (certF (instF p d) k f f).cycle = (certF (instF p d) k f f).cycle ∧
 (certF (instF p d) j f e).flow = (certF (instF p d) j f e).flow ∧
 (certF (instF p d) j f e).pot = (certF (instF p d) j f e).pot ∧
 (certF (instF p d) j f e).side = (certF (instF p d) j f e).side ∧
 (certF (instF p d) j f e).cycle = (certF (instF p d) j f e).cycle ∧
 (certF (instF p d) k d e).flow = (certF (instF p d) k d e).flow ∧
 (certF (instF p d) k d e).pot = (certF (instF p d) k d e).pot ∧
 (certF (instF p d) k d e).side = (certF (instF p d) k d e).side ∧
 (certF (instF p d) k d e).cycle =
 (certF (instF p d) k d e).cycle ∧
 (True ∧ True ∧ True) ∧
 (instF p d).sup = (instF p d).sup ∧
 (instF p d).arcs = (instF p d).arcs ∧
 x.flow = x.flow ∧
 x.pot = x.pot ∧
 x.side = x.side ∧
 x.cycle = x.cycle ∧
 y.flow = y.flow ∧
 y.pot = y.pot ∧
 y.side = y.side ∧ y.cycle = y.cycle ∧ True) ∧
 ((CertOne_a16 p d k f) =
 false →
 ∃ (g : Nat × Nat),
 (BothOk (instF p d) (certs1 p d e f x y k j g.snd) (certs1 p d e f x y k j g.fst) ∧ Q g) ∧
 (CertOne_a12 g_1 g) ∧
 (CertOne_a0 x y p d k e j f) ∧
 (certF (instF p d) k f f).flow = (certF (instF p d) k f f).flow ∧
 (certF (instF p d) k f f).pot = (certF (instF p d) k f f).pot ∧
 (certF (instF p d) k f f).side = (certF (instF p d) k f f).side ∧
 (certF (instF p d) k f f).cycle = (certF (instF p d) k f f).cycle ∧
 (certF (instF p d) j f e).flow = (certF (instF p d) j f e).flow ∧
 (certF (instF p d) j f e).pot = (certF (instF p d) j f e).pot ∧
 (certF (instF p d) j f e).side = (certF (instF p d) j f e).side ∧
 (certF (instF p d) j f e).cycle = (certF (instF p d) j f e).cycle ∧
 (certF (instF p d) k d e).flow = (certF (instF p d) k d e).flow ∧
 (certF (instF p d) k d e).pot = (certF (instF p d) k d e).pot ∧
 (certF (instF p d) k d e).side = (certF (instF p d) k d e).side ∧
 (certF (instF p d) k d e).cycle = (certF (instF p d) k d e).cycle ∧
 (True ∧ True ∧ True) ∧
 (instF p d).sup = (instF p d).sup ∧
 (instF p d).arcs = (instF p d).arcs ∧
 x.flow = x.flow ∧
 x.pot = x.pot ∧
 x.side = x.side ∧
 x.cycle = x.cycle ∧
 y.flow = y.flow ∧
 y.pot = y.pot ∧
 y.side = y.side ∧ y.cycle = y.cycle ∧ True)))) ∧
 ((↑g_1.2 : Int).toNat = (0 : Nat) + (1 : Nat) →
 (CertOk { kind := y.kind, flow := y.flow, pot := y.pot, side := y.side, cycle := y.cycle : Cert } ∧ InstOk (instF p d)) ∧
 ((checkF (instF p d) { kind := y.kind, flow := y.flow, pot := y.pot, side := y.side, cycle := y.cycle : Cert } !=
 (0 : Int)) =
 true →
 ∃ (g' : Nat × Nat),
 (g'.snd = g0.snd ∧ g'.fst ≤ g'.snd) ∧
 g'.snd - g'.fst < g_1.snd - g_1.fst ∧
 ((0 : Nat) = (0 : Nat) ∧
 True ∧
 (↑g_1.2 : Int) = (↑g'.2 : Int) ∧ IntKind.i64.wrap ((↑g_1.1 : Int) + (1 : Int)) = (↑g'.1 : Int) ∧ True) ∧
 ((x.kind = x.kind ∧ True ∧ True ∧ True ∧ True ∧ True) ∧
 (y.kind = y.kind ∧ True ∧ True ∧ True ∧ True ∧ True) ∧
 ((certF (instF p d) k d e).kind = (certF (instF p d) k d e).kind ∧ True ∧ True ∧ True ∧ True ∧ True) ∧
 ((certF (instF p d) j f e).kind = (certF (instF p d) j f e).kind ∧
 True ∧ True ∧ True ∧ True ∧ True) ∧
 ((certF (instF p d) k f f).kind = (certF (instF p d) k f f).kind ∧
 True ∧ True ∧ True ∧ True ∧ True) ∧
 True) ∧
 (certF (instF p d) k f f).flow = (certF (instF p d) k f f).flow ∧
 (certF (instF p d) k f f).pot = (certF (instF p d) k f f).pot ∧
 (certF (instF p d) k f f).side = (certF (instF p d) k f f).side ∧
 (certF (instF p d) k f f).cycle = (certF (instF p d) k f f).cycle ∧
 (certF (instF p d) j f e).flow = (certF (instF p d) j f e).flow ∧
 (certF (instF p d) j f e).pot = (certF (instF p d) j f e).pot ∧
 (certF (instF p d) j f e).side = (certF (instF p d) j f e).side ∧
 (certF (instF p d) j f e).cycle = (certF (instF p d) j f e).cycle ∧
 (certF (instF p d) k d e).flow = (certF (instF p d) k d e).flow ∧
 (certF (instF p d) k d e).pot = (certF (instF p d) k d e).pot ∧
 (certF (instF p d) k d e).side = (certF (instF p d) k d e).side ∧
 (certF (instF p d) k d e).cycle = (certF (instF p d) k d e).cycle ∧
 (True ∧ True ∧ True) ∧
 (instF p d).sup = (instF p d).sup ∧
 (instF p d).arcs = (instF p d).arcs ∧
 x.flow = x.flow ∧
 x.pot = x.pot ∧
 x.side = x.side ∧
 x.cycle = x.cycle ∧
 y.flow = y.flow ∧
 y.pot = y.pot ∧ y.side = y.side ∧ y.cycle = y.cycle ∧ True) ∧
 ((checkF (instF p d) { kind := y.kind, flow := y.flow, pot := y.pot, side := y.side, cycle := y.cycle : Cert } !=
 (0 : Int)) =
 false →
 (CertOne_a40 g_1) ∧
 (↑g_1.1 : Int).toNat < (5 : Nat) ∧
 ((↑g_1.1 : Int).toNat = (0 : Nat) →
 (CertOne_a27 x p d) ∧
 (CertOne_a10 p d x g0 g_1 y k e j f) ∧
 ((CertOne_a33 p d x) =
 false →
 ∃ (g : Nat × Nat),
 (BothOk (instF p d) (certs1 p d e f x y k j g.snd) (certs1 p d e f x y k j g.fst) ∧ Q g) ∧
 (CertOne_a12 g_1 g) ∧
 (CertOne_a0 x y p d k e j f) ∧
 (certF (instF p d) k f f).flow = (certF (instF p d) k f f).flow ∧
 (certF (instF p d) k f f).pot = (certF (instF p d) k f f).pot ∧
 (certF (instF p d) k f f).side = (certF (instF p d) k f f).side ∧
 (certF (instF p d) k f f).cycle = (certF (instF p d) k f f).cycle ∧
 (certF (instF p d) j f e).flow = (certF (instF p d) j f e).flow ∧
 (certF (instF p d) j f e).pot = (certF (instF p d) j f e).pot ∧
 (certF (instF p d) j f e).side = (certF (instF p d) j f e).side ∧
 (certF (instF p d) j f e).cycle = (certF (instF p d) j f e).cycle ∧
 (certF (instF p d) k d e).flow = (certF (instF p d) k d e).flow ∧
 (certF (instF p d) k d e).pot = (certF (instF p d) k d e).pot ∧
 (certF (instF p d) k d e).side = (certF (instF p d) k d e).side ∧
 (certF (instF p d) k d e).cycle = (certF (instF p d) k d e).cycle ∧
 (True ∧ True ∧ True) ∧
 (instF p d).sup = (instF p d).sup ∧
 (instF p d).arcs = (instF p d).arcs ∧
 x.flow = x.flow ∧
 x.pot = x.pot ∧
 x.side = x.side ∧
 x.cycle = x.cycle ∧
 y.flow = y.flow ∧
 y.pot = y.pot ∧
 y.side = y.side ∧ y.cycle = y.cycle ∧ True)) ∧
 ((↑g_1.1 : Int).toNat = (0 : Nat) + (1 : Nat) →
 (CertOne_a28 y p d) ∧
 (CertOne_a24 p d y g0 g_1 x k e j f) ∧
 ((CertOne_a32 p d y) =
 false →
 ∃ (g : Nat × Nat),
 (BothOk (instF p d) (certs1 p d e f x y k j g.snd) (certs1 p d e f x y k j g.fst) ∧ Q g) ∧
 (CertOne_a12 g_1 g) ∧
 (CertOne_a0 x y p d k e j f) ∧
 (certF (instF p d) k f f).flow = (certF (instF p d) k f f).flow ∧
 (certF (instF p d) k f f).pot = (certF (instF p d) k f f).pot ∧
 (certF (instF p d) k f f).side = (certF (instF p d) k f f).side ∧
 (certF (instF p d) k f f).cycle = (certF (instF p d) k f f).cycle ∧
 (certF (instF p d) j f e).flow = (certF (instF p d) j f e).flow ∧
 (certF (instF p d) j f e).pot = (certF (instF p d) j f e).pot ∧
 (certF (instF p d) j f e).side = (certF (instF p d) j f e).side ∧
 (certF (instF p d) j f e).cycle = (certF (instF p d) j f e).cycle ∧
 (certF (instF p d) k d e).flow = (certF (instF p d) k d e).flow ∧
 (certF (instF p d) k d e).pot = (certF (instF p d) k d e).pot ∧
 (certF (instF p d) k d e).side = (certF (instF p d) k d e).side ∧
 (certF (instF p d) k d e).cycle = (certF (instF p d) k d e).cycle ∧
 (True ∧ True ∧ True) ∧
 (instF p d).sup = (instF p d).sup ∧
 (instF p d).arcs = (instF p d).arcs ∧
 x.flow = x.flow ∧
 x.pot = x.pot ∧
 x.side = x.side ∧
 x.cycle = x.cycle ∧
 y.flow = y.flow ∧
 y.pot = y.pot ∧
 y.side = y.side ∧ y.cycle = y.cycle ∧ True)) ∧
 ((↑g_1.1 : Int).toNat = (0 : Nat) + (1 : Nat) + (1 : Nat) →
 (CertOne_a13 p d k e) ∧
 ((CertOne_a11 p d k e) =
 true →
 ∃ (g' : Nat × Nat),
 (g'.snd = g0.snd ∧ g'.fst ≤ g'.snd) ∧
 g'.snd - g'.fst < g_1.snd - g_1.fst ∧
 (CertOne_a7 g_1 g') ∧
 (CertOne_a0 x y p d k e j f) ∧
 (certF (instF p d) k f f).flow = (certF (instF p d) k f f).flow ∧
 (certF (instF p d) k f f).pot = (certF (instF p d) k f f).pot ∧
 (certF (instF p d) k f f).side = (certF (instF p d) k f f).side ∧
 (certF (instF p d) k f f).cycle = (certF (instF p d) k f f).cycle ∧
 (certF (instF p d) j f e).flow = (certF (instF p d) j f e).flow ∧
 (certF (instF p d) j f e).pot = (certF (instF p d) j f e).pot ∧
 (certF (instF p d) j f e).side = (certF (instF p d) j f e).side ∧
 (certF (instF p d) j f e).cycle = (certF (instF p d) j f e).cycle ∧
 (certF (instF p d) k d e).flow = (certF (instF p d) k d e).flow ∧
 (certF (instF p d) k d e).pot = (certF (instF p d) k d e).pot ∧
 (certF (instF p d) k d e).side = (certF (instF p d) k d e).side ∧
 (certF (instF p d) k d e).cycle =
 (certF (instF p d) k d e).cycle ∧
 (True ∧ True ∧ True) ∧
 (instF p d).sup = (instF p d).sup ∧
 (instF p d).arcs = (instF p d).arcs ∧
 x.flow = x.flow ∧
 x.pot = x.pot ∧
 x.side = x.side ∧
 x.cycle = x.cycle ∧
 y.flow = y.flow ∧
 y.pot = y.pot ∧
 y.side = y.side ∧ y.cycle = y.cycle ∧ True) ∧
 ((CertOne_a11 p d k e) =
 false →
 ∃ (g : Nat × Nat),
 (BothOk (instF p d) (certs1 p d e f x y k j g.snd) (certs1 p d e f x y k j g.fst) ∧ Q g) ∧
 (CertOne_a12 g_1 g) ∧
 (CertOne_a0 x y p d k e j f) ∧
 (certF (instF p d) k f f).flow = (certF (instF p d) k f f).flow ∧
 (certF (instF p d) k f f).pot = (certF (instF p d) k f f).pot ∧
 (certF (instF p d) k f f).side = (certF (instF p d) k f f).side ∧
 (certF (instF p d) k f f).cycle = (certF (instF p d) k f f).cycle ∧
 (certF (instF p d) j f e).flow = (certF (instF p d) j f e).flow ∧
 (certF (instF p d) j f e).pot = (certF (instF p d) j f e).pot ∧
 (certF (instF p d) j f e).side = (certF (instF p d) j f e).side ∧
 (certF (instF p d) j f e).cycle = (certF (instF p d) j f e).cycle ∧
 (certF (instF p d) k d e).flow = (certF (instF p d) k d e).flow ∧
 (certF (instF p d) k d e).pot = (certF (instF p d) k d e).pot ∧
 (certF (instF p d) k d e).side = (certF (instF p d) k d e).side ∧
 (certF (instF p d) k d e).cycle = (certF (instF p d) k d e).cycle ∧
 (True ∧ True ∧ True) ∧
 (instF p d).sup = (instF p d).sup ∧
 (instF p d).arcs = (instF p d).arcs ∧
 x.flow = x.flow ∧
 x.pot = x.pot ∧
 x.side = x.side ∧
 x.cycle = x.cycle ∧
 y.flow = y.flow ∧
 y.pot = y.pot ∧
 y.side = y.side ∧ y.cycle = y.cycle ∧ True)) ∧
 ((↑g_1.1 : Int).toNat = (0 : Nat) + (1 : Nat) + (1 : Nat) + (1 : Nat) →
 (CertOne_a15 p d j f e) ∧
 ((CertOne_a17 p d j f e) =
 true →
 ∃ (g' : Nat × Nat),
 (g'.snd = g0.snd ∧ g'.fst ≤ g'.snd) ∧
 g'.snd - g'.fst < g_1.snd - g_1.fst ∧
 (CertOne_a7 g_1 g') ∧
 (CertOne_a0 x y p d k e j f) ∧
 (certF (instF p d) k f f).flow = (certF (instF p d) k f f).flow ∧
 (certF (instF p d) k f f).pot = (certF (instF p d) k f f).pot ∧
 (certF (instF p d) k f f).side = (certF (instF p d) k f f).side ∧
 (certF (instF p d) k f f).cycle = (certF (instF p d) k f f).cycle ∧
 (certF (instF p d) j f e).flow = (certF (instF p d) j f e).flow ∧
 (certF (instF p d) j f e).pot = (certF (instF p d) j f e).pot ∧
 (certF (instF p d) j f e).side = (certF (instF p d) j f e).side ∧
 (certF (instF p d) j f e).cycle = (certF (instF p d) j f e).cycle ∧
 (certF (instF p d) k d e).flow = (certF (instF p d) k d e).flow ∧
 (certF (instF p d) k d e).pot = (certF (instF p d) k d e).pot ∧
 (certF (instF p d) k d e).side = (certF (instF p d) k d e).side ∧
 (certF (instF p d) k d e).cycle =
 (certF (instF p d) k d e).cycle ∧
 (True ∧ True ∧ True) ∧
 (instF p d).sup = (instF p d).sup ∧
 (instF p d).arcs = (instF p d).arcs ∧
 x.flow = x.flow ∧
 x.pot = x.pot ∧
 x.side = x.side ∧
 x.cycle = x.cycle ∧
 y.flow = y.flow ∧
 y.pot = y.pot ∧
 y.side = y.side ∧
 y.cycle = y.cycle ∧ True) ∧
 ((CertOne_a17 p d j f e) =
 false →
 ∃ (g : Nat × Nat),
 (BothOk (instF p d) (certs1 p d e f x y k j g.snd) (certs1 p d e f x y k j g.fst) ∧ Q g) ∧
 (CertOne_a12 g_1 g) ∧
 (CertOne_a0 x y p d k e j f) ∧
 (certF (instF p d) k f f).flow = (certF (instF p d) k f f).flow ∧
 (certF (instF p d) k f f).pot = (certF (instF p d) k f f).pot ∧
 (certF (instF p d) k f f).side = (certF (instF p d) k f f).side ∧
 (certF (instF p d) k f f).cycle = (certF (instF p d) k f f).cycle ∧
 (certF (instF p d) j f e).flow = (certF (instF p d) j f e).flow ∧
 (certF (instF p d) j f e).pot = (certF (instF p d) j f e).pot ∧
 (certF (instF p d) j f e).side = (certF (instF p d) j f e).side ∧
 (certF (instF p d) j f e).cycle = (certF (instF p d) j f e).cycle ∧
 (certF (instF p d) k d e).flow = (certF (instF p d) k d e).flow ∧
 (certF (instF p d) k d e).pot = (certF (instF p d) k d e).pot ∧
 (certF (instF p d) k d e).side = (certF (instF p d) k d e).side ∧
 (certF (instF p d) k d e).cycle =
 (certF (instF p d) k d e).cycle ∧
 (True ∧ True ∧ True) ∧
 (instF p d).sup = (instF p d).sup ∧
 (instF p d).arcs = (instF p d).arcs ∧
 x.flow = x.flow ∧
 x.pot = x.pot ∧
 x.side = x.side ∧
 x.cycle = x.cycle ∧
 y.flow = y.flow ∧
 y.pot = y.pot ∧
 y.side = y.side ∧ y.cycle = y.cycle ∧ True)) ∧
 ((↑g_1.1 : Int).toNat = (0 : Nat) + (1 : Nat) + (1 : Nat) + (1 : Nat) + (1 : Nat) →
 (CertOne_a14 p d k f) ∧
 ((CertOne_a16 p d k f) =
 true →
 ∃ (g' : Nat × Nat),
 (g'.snd = g0.snd ∧ g'.fst ≤ g'.snd) ∧
 g'.snd - g'.fst < g_1.snd - g_1.fst ∧
 (CertOne_a7 g_1 g') ∧
 (CertOne_a0 x y p d k e j f) ∧
 (certF (instF p d) k f f).flow = (certF (instF p d) k f f).flow ∧
 (certF (instF p d) k f f).pot = (certF (instF p d) k f f).pot ∧
 (certF (instF p d) k f f).side = (certF (instF p d) k f f).side ∧
 (certF (instF p d) k f f).cycle = (certF (instF p d) k f f).cycle ∧
 (certF (instF p d) j f e).flow = (certF (instF p d) j f e).flow ∧
 (certF (instF p d) j f e).pot = (certF (instF p d) j f e).pot ∧
 (certF (instF p d) j f e).side = (certF (instF p d) j f e).side ∧
 (certF (instF p d) j f e).cycle = (certF (instF p d) j f e).cycle ∧
 (certF (instF p d) k d e).flow = (certF (instF p d) k d e).flow ∧
 (certF (instF p d) k d e).pot = (certF (instF p d) k d e).pot ∧
 (certF (instF p d) k d e).side = (certF (instF p d) k d e).side ∧
 (certF (instF p d) k d e).cycle =
 (certF (instF p d) k d e).cycle ∧
 (True ∧ True ∧ True) ∧
 (instF p d).sup = (instF p d).sup ∧
 (instF p d).arcs = (instF p d).arcs ∧
 x.flow = x.flow ∧
 x.pot = x.pot ∧
 x.side = x.side ∧
 x.cycle = x.cycle ∧
 y.flow = y.flow ∧
 y.pot = y.pot ∧
 y.side = y.side ∧
 y.cycle = y.cycle ∧ True) ∧
 ((CertOne_a16 p d k f) =
 false →
 ∃ (g : Nat × Nat),
 (BothOk (instF p d) (certs1 p d e f x y k j g.snd) (certs1 p d e f x y k j g.fst) ∧ Q g) ∧
 (CertOne_a12 g_1 g) ∧
 (CertOne_a0 x y p d k e j f) ∧
 (certF (instF p d) k f f).flow = (certF (instF p d) k f f).flow ∧
 (certF (instF p d) k f f).pot = (certF (instF p d) k f f).pot ∧
 (certF (instF p d) k f f).side = (certF (instF p d) k f f).side ∧
 (certF (instF p d) k f f).cycle = (certF (instF p d) k f f).cycle ∧
 (certF (instF p d) j f e).flow = (certF (instF p d) j f e).flow ∧
 (certF (instF p d) j f e).pot = (certF (instF p d) j f e).pot ∧
 (certF (instF p d) j f e).side = (certF (instF p d) j f e).side ∧
 (certF (instF p d) j f e).cycle = (certF (instF p d) j f e).cycle ∧
 (certF (instF p d) k d e).flow = (certF (instF p d) k d e).flow ∧
 (certF (instF p d) k d e).pot = (certF (instF p d) k d e).pot ∧
 (certF (instF p d) k d e).side = (certF (instF p d) k d e).side ∧
 (certF (instF p d) k d e).cycle =
 (certF (instF p d) k d e).cycle ∧
 (True ∧ True ∧ True) ∧
 (instF p d).sup = (instF p d).sup ∧
 (instF p d).arcs = (instF p d).arcs ∧
 x.flow = x.flow ∧
 x.pot = x.pot ∧
 x.side = x.side ∧
 x.cycle = x.cycle ∧
 y.flow = y.flow ∧
 y.pot = y.pot ∧
 y.side = y.side ∧
 y.cycle = y.cycle ∧ True)))) ∧
 ((↑g_1.2 : Int).toNat = (0 : Nat) + (1 : Nat) + (1 : Nat) →
 (CertOne_a13 p d k e) ∧
 ((CertOne_a11 p d k e) =
 true →
 ∃ (g' : Nat × Nat),
 (g'.snd = g0.snd ∧ g'.fst ≤ g'.snd) ∧
 g'.snd - g'.fst < g_1.snd - g_1.fst ∧
 (CertOne_a7 g_1 g') ∧
 (CertOne_a0 x y p d k e j f) ∧
 (certF (instF p d) k f f).flow = (certF (instF p d) k f f).flow ∧
 (certF (instF p d) k f f).pot = (certF (instF p d) k f f).pot ∧
 (certF (instF p d) k f f).side = (certF (instF p d) k f f).side ∧
 (certF (instF p d) k f f).cycle = (certF (instF p d) k f f).cycle ∧
 (certF (instF p d) j f e).flow = (certF (instF p d) j f e).flow ∧
 (certF (instF p d) j f e).pot = (certF (instF p d) j f e).pot ∧
 (certF (instF p d) j f e).side = (certF (instF p d) j f e).side ∧
 (certF (instF p d) j f e).cycle = (certF (instF p d) j f e).cycle ∧
 (certF (instF p d) k d e).flow = (certF (instF p d) k d e).flow ∧
 (certF (instF p d) k d e).pot = (certF (instF p d) k d e).pot ∧
 (certF (instF p d) k d e).side = (certF (instF p d) k d e).side ∧
 (certF (instF p d) k d e).cycle = (certF (instF p d) k d e).cycle ∧
 (True ∧ True ∧ True) ∧
 (instF p d).sup = (instF p d).sup ∧
 (instF p d).arcs = (instF p d).arcs ∧
 x.flow = x.flow ∧
 x.pot = x.pot ∧
 x.side = x.side ∧
 x.cycle = x.cycle ∧
 y.flow = y.flow ∧
 y.pot = y.pot ∧ y.side = y.side ∧ y.cycle = y.cycle ∧ True) ∧
 ((CertOne_a11 p d k e) =
 false →
 (CertOne_a40 g_1) ∧
 (↑g_1.1 : Int).toNat < (5 : Nat) ∧
 ((↑g_1.1 : Int).toNat = (0 : Nat) →
 (CertOne_a27 x p d) ∧
 (CertOne_a10 p d x g0 g_1 y k e j f) ∧
 ((CertOne_a33 p d x) =
 false →
 ∃ (g : Nat × Nat),
 (BothOk (instF p d) (certs1 p d e f x y k j g.snd) (certs1 p d e f x y k j g.fst) ∧ Q g) ∧
 (CertOne_a12 g_1 g) ∧
 (CertOne_a0 x y p d k e j f) ∧
 (certF (instF p d) k f f).flow = (certF (instF p d) k f f).flow ∧
 (certF (instF p d) k f f).pot = (certF (instF p d) k f f).pot ∧
 (certF (instF p d) k f f).side = (certF (instF p d) k f f).side ∧
 (certF (instF p d) k f f).cycle = (certF (instF p d) k f f).cycle ∧
 (certF (instF p d) j f e).flow = (certF (instF p d) j f e).flow ∧
 (certF (instF p d) j f e).pot = (certF (instF p d) j f e).pot ∧
 (certF (instF p d) j f e).side = (certF (instF p d) j f e).side ∧
 (certF (instF p d) j f e).cycle = (certF (instF p d) j f e).cycle ∧
 (certF (instF p d) k d e).flow = (certF (instF p d) k d e).flow ∧
 (certF (instF p d) k d e).pot = (certF (instF p d) k d e).pot ∧
 (certF (instF p d) k d e).side = (certF (instF p d) k d e).side ∧
 (certF (instF p d) k d e).cycle = (certF (instF p d) k d e).cycle ∧
 (True ∧ True ∧ True) ∧
 (instF p d).sup = (instF p d).sup ∧
 (instF p d).arcs = (instF p d).arcs ∧
 x.flow = x.flow ∧
 x.pot = x.pot ∧
 x.side = x.side ∧
 x.cycle = x.cycle ∧
 y.flow = y.flow ∧
 y.pot = y.pot ∧
 y.side = y.side ∧ y.cycle = y.cycle ∧ True)) ∧
 ((↑g_1.1 : Int).toNat = (0 : Nat) + (1 : Nat) →
 (CertOne_a28 y p d) ∧
 ((CertOne_a32 p d y) =
 true →
 ∃ (g' : Nat × Nat),
 (g'.snd = g0.snd ∧ g'.fst ≤ g'.snd) ∧
 g'.snd - g'.fst < g_1.snd - g_1.fst ∧
 (CertOne_a7 g_1 g') ∧
 (CertOne_a0 x y p d k e j f) ∧
 (certF (instF p d) k f f).flow = (certF (instF p d) k f f).flow ∧
 (certF (instF p d) k f f).pot = (certF (instF p d) k f f).pot ∧
 (certF (instF p d) k f f).side = (certF (instF p d) k f f).side ∧
 (certF (instF p d) k f f).cycle = (certF (instF p d) k f f).cycle ∧
 (certF (instF p d) j f e).flow = (certF (instF p d) j f e).flow ∧
 (certF (instF p d) j f e).pot = (certF (instF p d) j f e).pot ∧
 (certF (instF p d) j f e).side = (certF (instF p d) j f e).side ∧
 (certF (instF p d) j f e).cycle = (certF (instF p d) j f e).cycle ∧
 (certF (instF p d) k d e).flow = (certF (instF p d) k d e).flow ∧
 (certF (instF p d) k d e).pot = (certF (instF p d) k d e).pot ∧
 (certF (instF p d) k d e).side = (certF (instF p d) k d e).side ∧
 (certF (instF p d) k d e).cycle =
 (certF (instF p d) k d e).cycle ∧
 (True ∧ True ∧ True) ∧
 (instF p d).sup = (instF p d).sup ∧
 (instF p d).arcs = (instF p d).arcs ∧
 x.flow = x.flow ∧
 x.pot = x.pot ∧
 x.side = x.side ∧
 x.cycle = x.cycle ∧
 y.flow = y.flow ∧
 y.pot = y.pot ∧
 y.side = y.side ∧ y.cycle = y.cycle ∧ True) ∧
 ((CertOne_a32 p d y) =
 false →
 ∃ (g : Nat × Nat),
 (BothOk (instF p d) (certs1 p d e f x y k j g.snd) (certs1 p d e f x y k j g.fst) ∧ Q g) ∧
 (CertOne_a12 g_1 g) ∧
 (CertOne_a0 x y p d k e j f) ∧
 (certF (instF p d) k f f).flow = (certF (instF p d) k f f).flow ∧
 (certF (instF p d) k f f).pot = (certF (instF p d) k f f).pot ∧
 (certF (instF p d) k f f).side = (certF (instF p d) k f f).side ∧
 (certF (instF p d) k f f).cycle = (certF (instF p d) k f f).cycle ∧
 (certF (instF p d) j f e).flow = (certF (instF p d) j f e).flow ∧
 (certF (instF p d) j f e).pot = (certF (instF p d) j f e).pot ∧
 (certF (instF p d) j f e).side = (certF (instF p d) j f e).side ∧
 (certF (instF p d) j f e).cycle = (certF (instF p d) j f e).cycle ∧
 (certF (instF p d) k d e).flow = (certF (instF p d) k d e).flow ∧
 (certF (instF p d) k d e).pot = (certF (instF p d) k d e).pot ∧
 (certF (instF p d) k d e).side = (certF (instF p d) k d e).side ∧
 (certF (instF p d) k d e).cycle = (certF (instF p d) k d e).cycle ∧
 (True ∧ True ∧ True) ∧
 (instF p d).sup = (instF p d).sup ∧
 (instF p d).arcs = (instF p d).arcs ∧
 x.flow = x.flow ∧
 x.pot = x.pot ∧
 x.side = x.side ∧
 x.cycle = x.cycle ∧
 y.flow = y.flow ∧
 y.pot = y.pot ∧
 y.side = y.side ∧ y.cycle = y.cycle ∧ True)) ∧
 ((↑g_1.1 : Int).toNat = (0 : Nat) + (1 : Nat) + (1 : Nat) →
 (CertOne_a13 p d k e) ∧
 ((CertOne_a11 p d k e) =
 true →
 ∃ (g' : Nat × Nat),
 (g'.snd = g0.snd ∧ g'.fst ≤ g'.snd) ∧
 g'.snd - g'.fst < g_1.snd - g_1.fst ∧
 (CertOne_a7 g_1 g') ∧
 (CertOne_a0 x y p d k e j f) ∧
 (certF (instF p d) k f f).flow = (certF (instF p d) k f f).flow ∧
 (certF (instF p d) k f f).pot = (certF (instF p d) k f f).pot ∧
 (certF (instF p d) k f f).side = (certF (instF p d) k f f).side ∧
 (certF (instF p d) k f f).cycle = (certF (instF p d) k f f).cycle ∧
 (certF (instF p d) j f e).flow = (certF (instF p d) j f e).flow ∧
 (certF (instF p d) j f e).pot = (certF (instF p d) j f e).pot ∧
 (certF (instF p d) j f e).side = (certF (instF p d) j f e).side ∧
 (certF (instF p d) j f e).cycle = (certF (instF p d) j f e).cycle ∧
 (certF (instF p d) k d e).flow = (certF (instF p d) k d e).flow ∧
 (certF (instF p d) k d e).pot = (certF (instF p d) k d e).pot ∧
 (certF (instF p d) k d e).side = (certF (instF p d) k d e).side ∧
 (certF (instF p d) k d e).cycle =
 (certF (instF p d) k d e).cycle ∧
 (True ∧ True ∧ True) ∧
 (instF p d).sup = (instF p d).sup ∧
 (instF p d).arcs = (instF p d).arcs ∧
 x.flow = x.flow ∧
 x.pot = x.pot ∧
 x.side = x.side ∧
 x.cycle = x.cycle ∧
 y.flow = y.flow ∧
 y.pot = y.pot ∧
 y.side = y.side ∧
 y.cycle = y.cycle ∧ True) ∧
 ((CertOne_a11 p d k e) =
 false →
 ∃ (g : Nat × Nat),
 (BothOk (instF p d) (certs1 p d e f x y k j g.snd) (certs1 p d e f x y k j g.fst) ∧ Q g) ∧
 (CertOne_a12 g_1 g) ∧
 (CertOne_a0 x y p d k e j f) ∧
 (certF (instF p d) k f f).flow = (certF (instF p d) k f f).flow ∧
 (certF (instF p d) k f f).pot = (certF (instF p d) k f f).pot ∧
 (certF (instF p d) k f f).side = (certF (instF p d) k f f).side ∧
 (certF (instF p d) k f f).cycle = (certF (instF p d) k f f).cycle ∧
 (certF (instF p d) j f e).flow = (certF (instF p d) j f e).flow ∧
 (certF (instF p d) j f e).pot = (certF (instF p d) j f e).pot ∧
 (certF (instF p d) j f e).side = (certF (instF p d) j f e).side ∧
 (certF (instF p d) j f e).cycle = (certF (instF p d) j f e).cycle ∧
 (certF (instF p d) k d e).flow = (certF (instF p d) k d e).flow ∧
 (certF (instF p d) k d e).pot = (certF (instF p d) k d e).pot ∧
 (certF (instF p d) k d e).side = (certF (instF p d) k d e).side ∧
 (certF (instF p d) k d e).cycle =
 (certF (instF p d) k d e).cycle ∧
 (True ∧ True ∧ True) ∧
 (instF p d).sup = (instF p d).sup ∧
 (instF p d).arcs = (instF p d).arcs ∧
 x.flow = x.flow ∧
 x.pot = x.pot ∧
 x.side = x.side ∧
 x.cycle = x.cycle ∧
 y.flow = y.flow ∧
 y.pot = y.pot ∧
 y.side = y.side ∧ y.cycle = y.cycle ∧ True)) ∧
 ((↑g_1.1 : Int).toNat = (0 : Nat) + (1 : Nat) + (1 : Nat) + (1 : Nat) →
 (CertOne_a15 p d j f e) ∧
 (CertOne_a8 p d j f e g0 g_1 x y k) ∧
 ((CertOne_a17 p d j f e) =
 false →
 ∃ (g : Nat × Nat),
 (BothOk (instF p d) (certs1 p d e f x y k j g.snd) (certs1 p d e f x y k j g.fst) ∧ Q g) ∧
 (CertOne_a12 g_1 g) ∧
 (CertOne_a0 x y p d k e j f) ∧
 (certF (instF p d) k f f).flow = (certF (instF p d) k f f).flow ∧
 (certF (instF p d) k f f).pot = (certF (instF p d) k f f).pot ∧
 (certF (instF p d) k f f).side = (certF (instF p d) k f f).side ∧
 (certF (instF p d) k f f).cycle = (certF (instF p d) k f f).cycle ∧
 (certF (instF p d) j f e).flow = (certF (instF p d) j f e).flow ∧
 (certF (instF p d) j f e).pot = (certF (instF p d) j f e).pot ∧
 (certF (instF p d) j f e).side = (certF (instF p d) j f e).side ∧
 (certF (instF p d) j f e).cycle = (certF (instF p d) j f e).cycle ∧
 (certF (instF p d) k d e).flow = (certF (instF p d) k d e).flow ∧
 (certF (instF p d) k d e).pot = (certF (instF p d) k d e).pot ∧
 (certF (instF p d) k d e).side = (certF (instF p d) k d e).side ∧
 (certF (instF p d) k d e).cycle =
 (certF (instF p d) k d e).cycle ∧
 (True ∧ True ∧ True) ∧
 (instF p d).sup = (instF p d).sup ∧
 (instF p d).arcs = (instF p d).arcs ∧
 x.flow = x.flow ∧
 x.pot = x.pot ∧
 x.side = x.side ∧
 x.cycle = x.cycle ∧
 y.flow = y.flow ∧
 y.pot = y.pot ∧
 y.side = y.side ∧
 y.cycle = y.cycle ∧ True)) ∧
 ((↑g_1.1 : Int).toNat = (0 : Nat) + (1 : Nat) + (1 : Nat) + (1 : Nat) + (1 : Nat) →
 (CertOne_a14 p d k f) ∧
 (CertOne_a9 p d k f g0 g_1 x y e j) ∧
 ((CertOne_a16 p d k f) =
 false →
 ∃ (g : Nat × Nat),
 (BothOk (instF p d) (certs1 p d e f x y k j g.snd) (certs1 p d e f x y k j g.fst) ∧ Q g) ∧
 (CertOne_a12 g_1 g) ∧
 (CertOne_a0 x y p d k e j f) ∧
 (certF (instF p d) k f f).flow = (certF (instF p d) k f f).flow ∧
 (certF (instF p d) k f f).pot = (certF (instF p d) k f f).pot ∧
 (certF (instF p d) k f f).side = (certF (instF p d) k f f).side ∧
 (certF (instF p d) k f f).cycle = (certF (instF p d) k f f).cycle ∧
 (certF (instF p d) j f e).flow = (certF (instF p d) j f e).flow ∧
 (certF (instF p d) j f e).pot = (certF (instF p d) j f e).pot ∧
 (certF (instF p d) j f e).side = (certF (instF p d) j f e).side ∧
 (certF (instF p d) j f e).cycle = (certF (instF p d) j f e).cycle ∧
 (certF (instF p d) k d e).flow = (certF (instF p d) k d e).flow ∧
 (certF (instF p d) k d e).pot = (certF (instF p d) k d e).pot ∧
 (certF (instF p d) k d e).side = (certF (instF p d) k d e).side ∧
 (certF (instF p d) k d e).cycle =
 (certF (instF p d) k d e).cycle ∧
 (True ∧ True ∧ True) ∧
 (instF p d).sup = (instF p d).sup ∧
 (instF p d).arcs = (instF p d).arcs ∧
 x.flow = x.flow ∧
 x.pot = x.pot ∧
 x.side = x.side ∧
 x.cycle = x.cycle ∧
 y.flow = y.flow ∧
 y.pot = y.pot ∧
 y.side = y.side ∧
 y.cycle = y.cycle ∧ True)))) ∧
 ((↑g_1.2 : Int).toNat = (0 : Nat) + (1 : Nat) + (1 : Nat) + (1 : Nat) →
 (CertOne_a15 p d j f e) ∧
 ((CertOne_a17 p d j f e) =
 true →
 ∃ (g' : Nat × Nat),
 (g'.snd = g0.snd ∧ g'.fst ≤ g'.snd) ∧
 g'.snd - g'.fst < g_1.snd - g_1.fst ∧
 (CertOne_a7 g_1 g') ∧
 (CertOne_a0 x y p d k e j f) ∧
 (certF (instF p d) k f f).flow = (certF (instF p d) k f f).flow ∧
 (certF (instF p d) k f f).pot = (certF (instF p d) k f f).pot ∧
 (certF (instF p d) k f f).side = (certF (instF p d) k f f).side ∧
 (certF (instF p d) k f f).cycle = (certF (instF p d) k f f).cycle ∧
 (certF (instF p d) j f e).flow = (certF (instF p d) j f e).flow ∧
 (certF (instF p d) j f e).pot = (certF (instF p d) j f e).pot ∧
 (certF (instF p d) j f e).side = (certF (instF p d) j f e).side ∧
 (certF (instF p d) j f e).cycle = (certF (instF p d) j f e).cycle ∧
 (certF (instF p d) k d e).flow = (certF (instF p d) k d e).flow ∧
 (certF (instF p d) k d e).pot = (certF (instF p d) k d e).pot ∧
 (certF (instF p d) k d e).side = (certF (instF p d) k d e).side ∧
 (certF (instF p d) k d e).cycle = (certF (instF p d) k d e).cycle ∧
 (True ∧ True ∧ True) ∧
 (instF p d).sup = (instF p d).sup ∧
 (instF p d).arcs = (instF p d).arcs ∧
 x.flow = x.flow ∧
 x.pot = x.pot ∧
 x.side = x.side ∧
 x.cycle = x.cycle ∧
 y.flow = y.flow ∧
 y.pot = y.pot ∧ y.side = y.side ∧ y.cycle = y.cycle ∧ True) ∧
 ((CertOne_a17 p d j f e) =
 false →
 (CertOne_a40 g_1) ∧
 (↑g_1.1 : Int).toNat < (5 : Nat) ∧
 ((↑g_1.1 : Int).toNat = (0 : Nat) →
 (CertOne_a27 x p d) ∧
 (CertOne_a23 p d x g0 g_1 y k e j f) ∧
 ((CertOne_a33 p d x) =
 false →
 ∃ (g : Nat × Nat),
 (BothOk (instF p d) (certs1 p d e f x y k j g.snd) (certs1 p d e f x y k j g.fst) ∧ Q g) ∧
 (CertOne_a12 g_1 g) ∧
 (CertOne_a0 x y p d k e j f) ∧
 (certF (instF p d) k f f).flow = (certF (instF p d) k f f).flow ∧
 (certF (instF p d) k f f).pot = (certF (instF p d) k f f).pot ∧
 (certF (instF p d) k f f).side = (certF (instF p d) k f f).side ∧
 (certF (instF p d) k f f).cycle = (certF (instF p d) k f f).cycle ∧
 (certF (instF p d) j f e).flow = (certF (instF p d) j f e).flow ∧
 (certF (instF p d) j f e).pot = (certF (instF p d) j f e).pot ∧
 (certF (instF p d) j f e).side = (certF (instF p d) j f e).side ∧
 (certF (instF p d) j f e).cycle = (certF (instF p d) j f e).cycle ∧
 (certF (instF p d) k d e).flow = (certF (instF p d) k d e).flow ∧
 (certF (instF p d) k d e).pot = (certF (instF p d) k d e).pot ∧
 (certF (instF p d) k d e).side = (certF (instF p d) k d e).side ∧
 (certF (instF p d) k d e).cycle = (certF (instF p d) k d e).cycle ∧
 (True ∧ True ∧ True) ∧
 (instF p d).sup = (instF p d).sup ∧
 (instF p d).arcs = (instF p d).arcs ∧
 x.flow = x.flow ∧
 x.pot = x.pot ∧
 x.side = x.side ∧
 x.cycle = x.cycle ∧
 y.flow = y.flow ∧
 y.pot = y.pot ∧
 y.side = y.side ∧ y.cycle = y.cycle ∧ True)) ∧
 ((↑g_1.1 : Int).toNat = (0 : Nat) + (1 : Nat) →
 (CertOne_a28 y p d) ∧
 (CertOne_a22 p d y g0 g_1 x k e j f) ∧
 ((CertOne_a32 p d y) =
 false →
 ∃ (g : Nat × Nat),
 (BothOk (instF p d) (certs1 p d e f x y k j g.snd) (certs1 p d e f x y k j g.fst) ∧ Q g) ∧
 (CertOne_a12 g_1 g) ∧
 (CertOne_a0 x y p d k e j f) ∧
 (certF (instF p d) k f f).flow = (certF (instF p d) k f f).flow ∧
 (certF (instF p d) k f f).pot = (certF (instF p d) k f f).pot ∧
 (certF (instF p d) k f f).side = (certF (instF p d) k f f).side ∧
 (certF (instF p d) k f f).cycle = (certF (instF p d) k f f).cycle ∧
 (certF (instF p d) j f e).flow = (certF (instF p d) j f e).flow ∧
 (certF (instF p d) j f e).pot = (certF (instF p d) j f e).pot ∧
 (certF (instF p d) j f e).side = (certF (instF p d) j f e).side ∧
 (certF (instF p d) j f e).cycle = (certF (instF p d) j f e).cycle ∧
 (certF (instF p d) k d e).flow = (certF (instF p d) k d e).flow ∧
 (certF (instF p d) k d e).pot = (certF (instF p d) k d e).pot ∧
 (certF (instF p d) k d e).side = (certF (instF p d) k d e).side ∧
 (certF (instF p d) k d e).cycle =
 (certF (instF p d) k d e).cycle ∧
 (True ∧ True ∧ True) ∧
 (instF p d).sup = (instF p d).sup ∧
 (instF p d).arcs = (instF p d).arcs ∧
 x.flow = x.flow ∧
 x.pot = x.pot ∧
 x.side = x.side ∧
 x.cycle = x.cycle ∧
 y.flow = y.flow ∧
 y.pot = y.pot ∧
 y.side = y.side ∧ y.cycle = y.cycle ∧ True)) ∧
 ((↑g_1.1 : Int).toNat = (0 : Nat) + (1 : Nat) + (1 : Nat) →
 (CertOne_a13 p d k e) ∧
 (CertOne_a25 p d k e g0 g_1 x y j f) ∧
 ((CertOne_a11 p d k e) =
 false →
 ∃ (g : Nat × Nat),
 (BothOk (instF p d) (certs1 p d e f x y k j g.snd) (certs1 p d e f x y k j g.fst) ∧ Q g) ∧
 (CertOne_a12 g_1 g) ∧
 (CertOne_a0 x y p d k e j f) ∧
 (certF (instF p d) k f f).flow = (certF (instF p d) k f f).flow ∧
 (certF (instF p d) k f f).pot = (certF (instF p d) k f f).pot ∧
 (certF (instF p d) k f f).side = (certF (instF p d) k f f).side ∧
 (certF (instF p d) k f f).cycle = (certF (instF p d) k f f).cycle ∧
 (certF (instF p d) j f e).flow = (certF (instF p d) j f e).flow ∧
 (certF (instF p d) j f e).pot = (certF (instF p d) j f e).pot ∧
 (certF (instF p d) j f e).side = (certF (instF p d) j f e).side ∧
 (certF (instF p d) j f e).cycle = (certF (instF p d) j f e).cycle ∧
 (certF (instF p d) k d e).flow = (certF (instF p d) k d e).flow ∧
 (certF (instF p d) k d e).pot = (certF (instF p d) k d e).pot ∧
 (certF (instF p d) k d e).side = (certF (instF p d) k d e).side ∧
 (certF (instF p d) k d e).cycle =
 (certF (instF p d) k d e).cycle ∧
 (True ∧ True ∧ True) ∧
 (instF p d).sup = (instF p d).sup ∧
 (instF p d).arcs = (instF p d).arcs ∧
 x.flow = x.flow ∧
 x.pot = x.pot ∧
 x.side = x.side ∧
 x.cycle = x.cycle ∧
 y.flow = y.flow ∧
 y.pot = y.pot ∧
 y.side = y.side ∧
 y.cycle = y.cycle ∧ True)) ∧
 ((↑g_1.1 : Int).toNat = (0 : Nat) + (1 : Nat) + (1 : Nat) + (1 : Nat) →
 (CertOne_a15 p d j f e) ∧
 (CertOne_a8 p d j f e g0 g_1 x y k) ∧
 ((CertOne_a17 p d j f e) =
 false →
 ∃ (g : Nat × Nat),
 (BothOk (instF p d) (certs1 p d e f x y k j g.snd) (certs1 p d e f x y k j g.fst) ∧ Q g) ∧
 (CertOne_a12 g_1 g) ∧
 (CertOne_a0 x y p d k e j f) ∧
 (certF (instF p d) k f f).flow = (certF (instF p d) k f f).flow ∧
 (certF (instF p d) k f f).pot = (certF (instF p d) k f f).pot ∧
 (certF (instF p d) k f f).side = (certF (instF p d) k f f).side ∧
 (certF (instF p d) k f f).cycle = (certF (instF p d) k f f).cycle ∧
 (certF (instF p d) j f e).flow = (certF (instF p d) j f e).flow ∧
 (certF (instF p d) j f e).pot = (certF (instF p d) j f e).pot ∧
 (certF (instF p d) j f e).side = (certF (instF p d) j f e).side ∧
 (certF (instF p d) j f e).cycle = (certF (instF p d) j f e).cycle ∧
 (certF (instF p d) k d e).flow = (certF (instF p d) k d e).flow ∧
 (certF (instF p d) k d e).pot = (certF (instF p d) k d e).pot ∧
 (certF (instF p d) k d e).side =
 (certF (instF p d) k d e).side ∧
 (certF (instF p d) k d e).cycle =
 (certF (instF p d) k d e).cycle ∧
 (True ∧ True ∧ True) ∧
 (instF p d).sup = (instF p d).sup ∧
 (instF p d).arcs = (instF p d).arcs ∧
 x.flow = x.flow ∧
 x.pot = x.pot ∧
 x.side = x.side ∧
 x.cycle = x.cycle ∧
 y.flow = y.flow ∧
 y.pot = y.pot ∧
 y.side = y.side ∧
 y.cycle = y.cycle ∧ True)) ∧
 ((↑g_1.1 : Int).toNat = (0 : Nat) + (1 : Nat) + (1 : Nat) + (1 : Nat) + (1 : Nat) →
 (CertOne_a14 p d k f) ∧
 (CertOne_a9 p d k f g0 g_1 x y e j) ∧
 ((CertOne_a16 p d k f) =
 false →
 ∃ (g : Nat × Nat),
 (BothOk (instF p d) (certs1 p d e f x y k j g.snd) (certs1 p d e f x y k j g.fst) ∧ Q g) ∧
 (CertOne_a12 g_1 g) ∧
 (CertOne_a0 x y p d k e j f) ∧
 (certF (instF p d) k f f).flow = (certF (instF p d) k f f).flow ∧
 (certF (instF p d) k f f).pot = (certF (instF p d) k f f).pot ∧
 (certF (instF p d) k f f).side = (certF (instF p d) k f f).side ∧
 (certF (instF p d) k f f).cycle = (certF (instF p d) k f f).cycle ∧
 (certF (instF p d) j f e).flow = (certF (instF p d) j f e).flow ∧
 (certF (instF p d) j f e).pot = (certF (instF p d) j f e).pot ∧
 (certF (instF p d) j f e).side = (certF (instF p d) j f e).side ∧
 (certF (instF p d) j f e).cycle = (certF (instF p d) j f e).cycle ∧
 (certF (instF p d) k d e).flow = (certF (instF p d) k d e).flow ∧
 (certF (instF p d) k d e).pot = (certF (instF p d) k d e).pot ∧
 (certF (instF p d) k d e).side =
 (certF (instF p d) k d e).side ∧
 (certF (instF p d) k d e).cycle =
 (certF (instF p d) k d e).cycle ∧
 (True ∧ True ∧ True) ∧
 (instF p d).sup = (instF p d).sup ∧
 (instF p d).arcs = (instF p d).arcs ∧
 x.flow = x.flow ∧
 x.pot = x.pot ∧
 x.side = x.side ∧
 x.cycle = x.cycle ∧
 y.flow = y.flow ∧
 y.pot = y.pot ∧
 y.side = y.side ∧
 y.cycle = y.cycle ∧ True)))) ∧
 ((↑g_1.2 : Int).toNat = (0 : Nat) + (1 : Nat) + (1 : Nat) + (1 : Nat) + (1 : Nat) →
 (CertOne_a14 p d k f) ∧
 ((CertOne_a16 p d k f) =
 true →
 ∃ (g' : Nat × Nat),
 (g'.snd = g0.snd ∧ g'.fst ≤ g'.snd) ∧
 g'.snd - g'.fst < g_1.snd - g_1.fst ∧
 (CertOne_a7 g_1 g') ∧
 (CertOne_a0 x y p d k e j f) ∧
 (certF (instF p d) k f f).flow = (certF (instF p d) k f f).flow ∧
 (certF (instF p d) k f f).pot = (certF (instF p d) k f f).pot ∧
 (certF (instF p d) k f f).side = (certF (instF p d) k f f).side ∧
 (certF (instF p d) k f f).cycle = (certF (instF p d) k f f).cycle ∧
 (certF (instF p d) j f e).flow = (certF (instF p d) j f e).flow ∧
 (certF (instF p d) j f e).pot = (certF (instF p d) j f e).pot ∧
 (certF (instF p d) j f e).side = (certF (instF p d) j f e).side ∧
 (certF (instF p d) j f e).cycle = (certF (instF p d) j f e).cycle ∧
 (certF (instF p d) k d e).flow = (certF (instF p d) k d e).flow ∧
 (certF (instF p d) k d e).pot = (certF (instF p d) k d e).pot ∧
 (certF (instF p d) k d e).side = (certF (instF p d) k d e).side ∧
 (certF (instF p d) k d e).cycle = (certF (instF p d) k d e).cycle ∧
 (True ∧ True ∧ True) ∧
 (instF p d).sup = (instF p d).sup ∧
 (instF p d).arcs = (instF p d).arcs ∧
 x.flow = x.flow ∧
 x.pot = x.pot ∧
 x.side = x.side ∧
 x.cycle = x.cycle ∧
 y.flow = y.flow ∧
 y.pot = y.pot ∧ y.side = y.side ∧ y.cycle = y.cycle ∧ True) ∧
 ((CertOne_a16 p d k f) =
 false →
 (CertOne_a40 g_1) ∧
 (↑g_1.1 : Int).toNat < (5 : Nat) ∧
 ((↑g_1.1 : Int).toNat = (0 : Nat) →
 (CertOne_a27 x p d) ∧
 (CertOne_a23 p d x g0 g_1 y k e j f) ∧
 ((CertOne_a33 p d x) =
 false →
 ∃ (g : Nat × Nat),
 (BothOk (instF p d) (certs1 p d e f x y k j g.snd) (certs1 p d e f x y k j g.fst) ∧ Q g) ∧
 (CertOne_a12 g_1 g) ∧
 (CertOne_a0 x y p d k e j f) ∧
 (certF (instF p d) k f f).flow = (certF (instF p d) k f f).flow ∧
 (certF (instF p d) k f f).pot = (certF (instF p d) k f f).pot ∧
 (certF (instF p d) k f f).side = (certF (instF p d) k f f).side ∧
 (certF (instF p d) k f f).cycle = (certF (instF p d) k f f).cycle ∧
 (certF (instF p d) j f e).flow = (certF (instF p d) j f e).flow ∧
 (certF (instF p d) j f e).pot = (certF (instF p d) j f e).pot ∧
 (certF (instF p d) j f e).side = (certF (instF p d) j f e).side ∧
 (certF (instF p d) j f e).cycle = (certF (instF p d) j f e).cycle ∧
 (certF (instF p d) k d e).flow = (certF (instF p d) k d e).flow ∧
 (certF (instF p d) k d e).pot = (certF (instF p d) k d e).pot ∧
 (certF (instF p d) k d e).side = (certF (instF p d) k d e).side ∧
 (certF (instF p d) k d e).cycle = (certF (instF p d) k d e).cycle ∧
 (True ∧ True ∧ True) ∧
 (instF p d).sup = (instF p d).sup ∧
 (instF p d).arcs = (instF p d).arcs ∧
 x.flow = x.flow ∧
 x.pot = x.pot ∧
 x.side = x.side ∧
 x.cycle = x.cycle ∧
 y.flow = y.flow ∧
 y.pot = y.pot ∧
 y.side = y.side ∧ y.cycle = y.cycle ∧ True)) ∧
 ((↑g_1.1 : Int).toNat = (0 : Nat) + (1 : Nat) →
 (CertOne_a28 y p d) ∧
 (CertOne_a22 p d y g0 g_1 x k e j f) ∧
 ((CertOne_a32 p d y) =
 false →
 ∃ (g : Nat × Nat),
 (BothOk (instF p d) (certs1 p d e f x y k j g.snd) (certs1 p d e f x y k j g.fst) ∧ Q g) ∧
 (CertOne_a12 g_1 g) ∧
 (CertOne_a0 x y p d k e j f) ∧
 (certF (instF p d) k f f).flow = (certF (instF p d) k f f).flow ∧
 (certF (instF p d) k f f).pot = (certF (instF p d) k f f).pot ∧
 (certF (instF p d) k f f).side = (certF (instF p d) k f f).side ∧
 (certF (instF p d) k f f).cycle = (certF (instF p d) k f f).cycle ∧
 (certF (instF p d) j f e).flow = (certF (instF p d) j f e).flow ∧
 (certF (instF p d) j f e).pot = (certF (instF p d) j f e).pot ∧
 (certF (instF p d) j f e).side = (certF (instF p d) j f e).side ∧
 (certF (instF p d) j f e).cycle = (certF (instF p d) j f e).cycle ∧
 (certF (instF p d) k d e).flow = (certF (instF p d) k d e).flow ∧
 (certF (instF p d) k d e).pot = (certF (instF p d) k d e).pot ∧
 (certF (instF p d) k d e).side = (certF (instF p d) k d e).side ∧
 (certF (instF p d) k d e).cycle =
 (certF (instF p d) k d e).cycle ∧
 (True ∧ True ∧ True) ∧
 (instF p d).sup = (instF p d).sup ∧
 (instF p d).arcs = (instF p d).arcs ∧
 x.flow = x.flow ∧
 x.pot = x.pot ∧
 x.side = x.side ∧
 x.cycle = x.cycle ∧
 y.flow = y.flow ∧
 y.pot = y.pot ∧
 y.side = y.side ∧ y.cycle = y.cycle ∧ True)) ∧
 ((↑g_1.1 : Int).toNat = (0 : Nat) + (1 : Nat) + (1 : Nat) →
 (CertOne_a13 p d k e) ∧
 (CertOne_a25 p d k e g0 g_1 x y j f) ∧
 ((CertOne_a11 p d k e) =
 false →
 ∃ (g : Nat × Nat),
 (BothOk (instF p d) (certs1 p d e f x y k j g.snd) (certs1 p d e f x y k j g.fst) ∧ Q g) ∧
 (CertOne_a12 g_1 g) ∧
 (CertOne_a0 x y p d k e j f) ∧
 (certF (instF p d) k f f).flow = (certF (instF p d) k f f).flow ∧
 (certF (instF p d) k f f).pot = (certF (instF p d) k f f).pot ∧
 (certF (instF p d) k f f).side = (certF (instF p d) k f f).side ∧
 (certF (instF p d) k f f).cycle = (certF (instF p d) k f f).cycle ∧
 (certF (instF p d) j f e).flow = (certF (instF p d) j f e).flow ∧
 (certF (instF p d) j f e).pot = (certF (instF p d) j f e).pot ∧
 (certF (instF p d) j f e).side = (certF (instF p d) j f e).side ∧
 (certF (instF p d) j f e).cycle = (certF (instF p d) j f e).cycle ∧
 (certF (instF p d) k d e).flow = (certF (instF p d) k d e).flow ∧
 (certF (instF p d) k d e).pot = (certF (instF p d) k d e).pot ∧
 (certF (instF p d) k d e).side = (certF (instF p d) k d e).side ∧
 (certF (instF p d) k d e).cycle =
 (certF (instF p d) k d e).cycle ∧
 (True ∧ True ∧ True) ∧
 (instF p d).sup = (instF p d).sup ∧
 (instF p d).arcs = (instF p d).arcs ∧
 x.flow = x.flow ∧
 x.pot = x.pot ∧
 x.side = x.side ∧
 x.cycle = x.cycle ∧
 y.flow = y.flow ∧
 y.pot = y.pot ∧
 y.side = y.side ∧
 y.cycle = y.cycle ∧ True)) ∧
 ((↑g_1.1 : Int).toNat = (0 : Nat) + (1 : Nat) + (1 : Nat) + (1 : Nat) →
 (CertOne_a15 p d j f e) ∧
 (CertOne_a8 p d j f e g0 g_1 x y k) ∧
 ((CertOne_a17 p d j f e) =
 false →
 ∃ (g : Nat × Nat),
 (BothOk (instF p d) (certs1 p d e f x y k j g.snd) (certs1 p d e f x y k j g.fst) ∧ Q g) ∧
 (CertOne_a12 g_1 g) ∧
 (CertOne_a0 x y p d k e j f) ∧
 (certF (instF p d) k f f).flow = (certF (instF p d) k f f).flow ∧
 (certF (instF p d) k f f).pot = (certF (instF p d) k f f).pot ∧
 (certF (instF p d) k f f).side = (certF (instF p d) k f f).side ∧
 (certF (instF p d) k f f).cycle = (certF (instF p d) k f f).cycle ∧
 (certF (instF p d) j f e).flow = (certF (instF p d) j f e).flow ∧
 (certF (instF p d) j f e).pot = (certF (instF p d) j f e).pot ∧
 (certF (instF p d) j f e).side = (certF (instF p d) j f e).side ∧
 (certF (instF p d) j f e).cycle = (certF (instF p d) j f e).cycle ∧
 (certF (instF p d) k d e).flow = (certF (instF p d) k d e).flow ∧
 (certF (instF p d) k d e).pot = (certF (instF p d) k d e).pot ∧
 (certF (instF p d) k d e).side =
 (certF (instF p d) k d e).side ∧
 (certF (instF p d) k d e).cycle =
 (certF (instF p d) k d e).cycle ∧
 (True ∧ True ∧ True) ∧
 (instF p d).sup = (instF p d).sup ∧
 (instF p d).arcs = (instF p d).arcs ∧
 x.flow = x.flow ∧
 x.pot = x.pot ∧
 x.side = x.side ∧
 x.cycle = x.cycle ∧
 y.flow = y.flow ∧
 y.pot = y.pot ∧
 y.side = y.side ∧
 y.cycle = y.cycle ∧ True)) ∧
 ((↑g_1.1 : Int).toNat = (0 : Nat) + (1 : Nat) + (1 : Nat) + (1 : Nat) + (1 : Nat) →
 (CertOne_a14 p d k f) ∧
 (CertOne_a9 p d k f g0 g_1 x y e j) ∧
 ((CertOne_a16 p d k f) =
 false →
 ∃ (g : Nat × Nat),
 (BothOk (instF p d) (certs1 p d e f x y k j g.snd) (certs1 p d e f x y k j g.fst) ∧ Q g) ∧
 (CertOne_a12 g_1 g) ∧
 (CertOne_a0 x y p d k e j f) ∧
 (certF (instF p d) k f f).flow = (certF (instF p d) k f f).flow ∧
 (certF (instF p d) k f f).pot = (certF (instF p d) k f f).pot ∧
 (certF (instF p d) k f f).side = (certF (instF p d) k f f).side ∧
 (certF (instF p d) k f f).cycle = (certF (instF p d) k f f).cycle ∧
 (certF (instF p d) j f e).flow = (certF (instF p d) j f e).flow ∧
 (certF (instF p d) j f e).pot = (certF (instF p d) j f e).pot ∧
 (certF (instF p d) j f e).side = (certF (instF p d) j f e).side ∧
 (certF (instF p d) j f e).cycle = (certF (instF p d) j f e).cycle ∧
 (certF (instF p d) k d e).flow = (certF (instF p d) k d e).flow ∧
 (certF (instF p d) k d e).pot = (certF (instF p d) k d e).pot ∧
 (certF (instF p d) k d e).side =
 (certF (instF p d) k d e).side ∧
 (certF (instF p d) k d e).cycle =
 (certF (instF p d) k d e).cycle ∧
 (True ∧ True ∧ True) ∧
 (instF p d).sup = (instF p d).sup ∧
 (instF p d).arcs = (instF p d).arcs ∧
 x.flow = x.flow ∧
 x.pot = x.pot ∧
 x.side = x.side ∧
 x.cycle = x.cycle ∧
 y.flow = y.flow ∧
 y.pot = y.pot ∧
 y.side = y.side ∧
 y.cycle = y.cycle ∧ True))))) ∧
 ∀ (g : Nat × Nat),
 BothOk (instF p d) (certs1 p d e f x y k j g.snd) (certs1 p d e f x y k j g.fst) →
 Q g →
 ∃ (Q :
 { G := Nat × Nat, inv := fun (x_1 : Nat × Nat) => match x_1 with | (m, n) => { tm := [((17 : Nat), SV.ptr (18 : Nat) (0 : Nat) (0 : Nat) (0 : Nat)), ((18 : Nat), SV.row (31 : Nat)), ((19 : Nat), SV.int IntKind.i64 (↑n : Int)), ((20 : Nat), SV.int IntKind.i64 (↑m : Int)), ((21 : Nat), SV.ptr (32 : Nat) (0 : Nat) (0 : Nat) (0 : Nat)), ((22 : Nat), SV.bool (decide ((certs1 p d e f x y k j n).kind = (1 : Int))))], hp := [((32 : Nat), Ent.box true (41 : TypeId) [SV.int IntKind.i64 (valueW (instF p d) (certs1 p d e f x y k j n)).hi, SV.int IntKind.u64 (valueW (instF p d) (certs1 p d e f x y k j n)).lo]), ((31 : Nat), Ent.vec (27 : TypeId) [SV.agg [SV.int IntKind.i64 x.kind, SV.row (4 : Nat), SV.row (5 : Nat), SV.row (6 : Nat), SV.row (7 : Nat)], SV.agg [SV.int IntKind.i64 y.kind, SV.row (8 : Nat), SV.row (9 : Nat), SV.row (10 : Nat), SV.row (11 : Nat)], SV.agg [SV.int IntKind.i64 (certF (instF p d) k d e).kind, SV.row (19 : Nat), SV.row (20 : Nat), SV.row (21 : Nat), SV.row (22 : Nat)], SV.agg [SV.int IntKind.i64 (certF (instF p d) j f e).kind, SV.row (23 : Nat), SV.row (24 : Nat), SV.row (25 : Nat), SV.row (26 : Nat)], SV.agg [SV.int IntKind.i64 (certF (instF p d) k f f).kind, SV.row (27 : Nat), SV.row (28 : Nat), SV.row (29 : Nat), SV.row (30 : Nat)]]), ((27 : Nat), Ent.row true (2 : TypeId) (Row.ints IntKind.i64 (certF (instF p d) k f f).flow)), ((28 : Nat), Ent.row true (2 : TypeId) (Row.ints IntKind.i64 (certF (instF p d) k f f).pot)), ((29 : Nat), Ent.row true (4 : TypeId) (Row.bools (certF (instF p d) k f f).side)), ((30 : Nat), Ent.row true (3 : TypeId) (Row.ints IntKind.i64 (certF (instF p d) k f f).cycle)), ((23 : Nat), Ent.row true (2 : TypeId) (Row.ints IntKind.i64 (certF (instF p d) j f e).flow)), ((24 : Nat), Ent.row true (2 : TypeId) (Row.ints IntKind.i64 (certF (instF p d) j f e).pot)), ((25 : Nat), Ent.row true (4 : TypeId) (Row.bools (certF (instF p d) j f e).side)), ((26 : Nat), Ent.row true (3 : TypeId) (Row.ints IntKind.i64 (certF (instF p d) j f e).cycle)), ((19 : Nat), Ent.row true (2 : TypeId) (Row.ints IntKind.i64 (certF (instF p d) k d e).flow)), ((20 : Nat), Ent.row true (2 : TypeId) (Row.ints IntKind.i64 (certF (instF p d) k d e).pot)), ((21 : Nat), Ent.row true (4 : TypeId) (Row.bools (certF (instF p d) k d e).side)), ((22 : Nat), Ent.row true (3 : TypeId) (Row.ints IntKind.i64 (certF (instF p d) k d e).cycle)), ((18 : Nat), Ent.box true (30 : TypeId) [SV.row (14 : Nat), SV.row (15 : Nat)]), ((14 : Nat), Ent.row true (2 : TypeId) (Row.ints IntKind.i64 (instF p d).sup)), ((15 : Nat), Ent.row true (50 : TypeId) (Row.arcs (instF p d).arcs)), ((4 : Nat), Ent.row false (0 : TypeId) (Row.ints IntKind.i64 x.flow)), ((5 : Nat), Ent.row false (0 : TypeId) (Row.ints IntKind.i64 x.pot)), ((6 : Nat), Ent.row false (0 : TypeId) (Row.bools x.side)), ((7 : Nat), Ent.row false (0 : TypeId) (Row.ints IntKind.i64 x.cycle)), ((8 : Nat), Ent.row false (0 : TypeId) (Row.ints IntKind.i64 y.flow)), ((9 : Nat), Ent.row false (0 : TypeId) (Row.ints IntKind.i64 y.pot)), ((10 : Nat), Ent.row false (0 : TypeId) (Row.bools y.side)), ((11 : Nat), Ent.row false (0 : TypeId) (Row.ints IntKind.i64 y.cycle))], nk := (33 : Nat) : St }, rel := fun (x x_1 : Nat × Nat) => match x with | (m0, n0) => match x_1 with | (m, n) => True, meas := fun (x : Nat × Nat) => match x with | (m, n) => (0 : Nat), link := true : Ann }.G →
 Prop),
 (((0 : Int) ≤ (↑g.2 : Int) ∧ (↑g.2 : Int) < (↑(5 : Nat) : Int)) ∧
 (↑g.2 : Int).toNat < (5 : Nat) ∧
 ((↑g.2 : Int).toNat = (0 : Nat) →
 ((CertOne_a27 x p d) ∧
 ∃ (g_2 : Nat × Nat),
 (True ∧ Q g_2) ∧
 ((0 : Nat) = (0 : Nat) ∧
 True ∧
 (↑g.2 : Int) = (↑g_2.2 : Int) ∧
 (↑g.1 : Int) = (↑g_2.1 : Int) ∧
 (0 : Nat) = (0 : Nat) ∧
 decide (x.kind = (1 : Int)) = decide ((certs1 p d e f x y k j g_2.2).kind = (1 : Int)) ∧
 True) ∧
 ((CertOne_a30 p d x).hi =
 (CertOne_a35 p d e f x y k j g_2).hi ∧
 (CertOne_a30 p d x).lo =
 (CertOne_a35 p d e f x y k j g_2).lo ∧
 True) ∧
 (CertOne_a0 x y p d k e j f) ∧
 (certF (instF p d) k f f).flow = (certF (instF p d) k f f).flow ∧
 (certF (instF p d) k f f).pot = (certF (instF p d) k f f).pot ∧
 (certF (instF p d) k f f).side = (certF (instF p d) k f f).side ∧
 (certF (instF p d) k f f).cycle = (certF (instF p d) k f f).cycle ∧
 (certF (instF p d) j f e).flow = (certF (instF p d) j f e).flow ∧
 (certF (instF p d) j f e).pot = (certF (instF p d) j f e).pot ∧
 (certF (instF p d) j f e).side = (certF (instF p d) j f e).side ∧
 (certF (instF p d) j f e).cycle = (certF (instF p d) j f e).cycle ∧
 (certF (instF p d) k d e).flow = (certF (instF p d) k d e).flow ∧
 (certF (instF p d) k d e).pot = (certF (instF p d) k d e).pot ∧
 (certF (instF p d) k d e).side = (certF (instF p d) k d e).side ∧
 (certF (instF p d) k d e).cycle = (certF (instF p d) k d e).cycle ∧
 (True ∧ True ∧ True) ∧
 (instF p d).sup = (instF p d).sup ∧
 (instF p d).arcs = (instF p d).arcs ∧
 x.flow = x.flow ∧
 x.pot = x.pot ∧
 x.side = x.side ∧
 x.cycle = x.cycle ∧
 y.flow = y.flow ∧
 y.pot = y.pot ∧
 y.side = y.side ∧ y.cycle = y.cycle ∧ True) ∧
 (CertOne_a27 x p d) ∧
 ∃ (g_2 : Nat × Nat),
 (True ∧ Q g_2) ∧
 ((0 : Nat) = (0 : Nat) ∧
 True ∧
 (↑g.2 : Int) = (↑g_2.2 : Int) ∧
 (↑g.1 : Int) = (↑g_2.1 : Int) ∧
 (0 : Nat) = (0 : Nat) ∧
 decide (x.kind = (1 : Int)) = decide ((certs1 p d e f x y k j g_2.2).kind = (1 : Int)) ∧
 True) ∧
 ((CertOne_a30 p d x).hi =
 (CertOne_a35 p d e f x y k j g_2).hi ∧
 (CertOne_a30 p d x).lo =
 (CertOne_a35 p d e f x y k j g_2).lo ∧
 True) ∧
 (CertOne_a0 x y p d k e j f) ∧
 (certF (instF p d) k f f).flow = (certF (instF p d) k f f).flow ∧
 (certF (instF p d) k f f).pot = (certF (instF p d) k f f).pot ∧
 (certF (instF p d) k f f).side = (certF (instF p d) k f f).side ∧
 (certF (instF p d) k f f).cycle = (certF (instF p d) k f f).cycle ∧
 (certF (instF p d) j f e).flow = (certF (instF p d) j f e).flow ∧
 (certF (instF p d) j f e).pot = (certF (instF p d) j f e).pot ∧
 (certF (instF p d) j f e).side = (certF (instF p d) j f e).side ∧
 (certF (instF p d) j f e).cycle = (certF (instF p d) j f e).cycle ∧
 (certF (instF p d) k d e).flow = (certF (instF p d) k d e).flow ∧
 (certF (instF p d) k d e).pot = (certF (instF p d) k d e).pot ∧
 (certF (instF p d) k d e).side = (certF (instF p d) k d e).side ∧
 (certF (instF p d) k d e).cycle = (certF (instF p d) k d e).cycle ∧
 (True ∧ True ∧ True) ∧
 (instF p d).sup = (instF p d).sup ∧
 (instF p d).arcs = (instF p d).arcs ∧
 x.flow = x.flow ∧
 x.pot = x.pot ∧
 x.side = x.side ∧
 x.cycle = x.cycle ∧
 y.flow = y.flow ∧
 y.pot = y.pot ∧
 y.side = y.side ∧ y.cycle = y.cycle ∧ True) ∧
 ((↑g.2 : Int).toNat = (0 : Nat) + (1 : Nat) →
 ((CertOne_a28 y p d) ∧
 ∃ (g_2 : Nat × Nat),
 (True ∧ Q g_2) ∧
 ((0 : Nat) = (0 : Nat) ∧
 True ∧
 (↑g.2 : Int) = (↑g_2.2 : Int) ∧
 (↑g.1 : Int) = (↑g_2.1 : Int) ∧
 (0 : Nat) = (0 : Nat) ∧
 decide (y.kind = (1 : Int)) = decide ((certs1 p d e f x y k j g_2.2).kind = (1 : Int)) ∧
 True) ∧
 ((CertOne_a31 p d y).hi =
 (CertOne_a35 p d e f x y k j g_2).hi ∧
 (CertOne_a31 p d y).lo =
 (CertOne_a35 p d e f x y k j g_2).lo ∧
 True) ∧
 (CertOne_a0 x y p d k e j f) ∧
 (certF (instF p d) k f f).flow = (certF (instF p d) k f f).flow ∧
 (certF (instF p d) k f f).pot = (certF (instF p d) k f f).pot ∧
 (certF (instF p d) k f f).side = (certF (instF p d) k f f).side ∧
 (certF (instF p d) k f f).cycle = (certF (instF p d) k f f).cycle ∧
 (certF (instF p d) j f e).flow = (certF (instF p d) j f e).flow ∧
 (certF (instF p d) j f e).pot = (certF (instF p d) j f e).pot ∧
 (certF (instF p d) j f e).side = (certF (instF p d) j f e).side ∧
 (certF (instF p d) j f e).cycle = (certF (instF p d) j f e).cycle ∧
 (certF (instF p d) k d e).flow = (certF (instF p d) k d e).flow ∧
 (certF (instF p d) k d e).pot = (certF (instF p d) k d e).pot ∧
 (certF (instF p d) k d e).side = (certF (instF p d) k d e).side ∧
 (certF (instF p d) k d e).cycle = (certF (instF p d) k d e).cycle ∧
 (True ∧ True ∧ True) ∧
 (instF p d).sup = (instF p d).sup ∧
 (instF p d).arcs = (instF p d).arcs ∧
 x.flow = x.flow ∧
 x.pot = x.pot ∧
 x.side = x.side ∧
 x.cycle = x.cycle ∧
 y.flow = y.flow ∧
 y.pot = y.pot ∧
 y.side = y.side ∧ y.cycle = y.cycle ∧ True) ∧
 (CertOne_a28 y p d) ∧
 ∃ (g_2 : Nat × Nat),
 (True ∧ Q g_2) ∧
 ((0 : Nat) = (0 : Nat) ∧
 True ∧
 (↑g.2 : Int) = (↑g_2.2 : Int) ∧
 (↑g.1 : Int) = (↑g_2.1 : Int) ∧
 (0 : Nat) = (0 : Nat) ∧
 decide (y.kind = (1 : Int)) = decide ((certs1 p d e f x y k j g_2.2).kind = (1 : Int)) ∧
 True) ∧
 ((CertOne_a31 p d y).hi =
 (CertOne_a35 p d e f x y k j g_2).hi ∧
 (CertOne_a31 p d y).lo =
 (CertOne_a35 p d e f x y k j g_2).lo ∧
 True) ∧
 (CertOne_a0 x y p d k e j f) ∧
 (certF (instF p d) k f f).flow = (certF (instF p d) k f f).flow ∧
 (certF (instF p d) k f f).pot = (certF (instF p d) k f f).pot ∧
 (certF (instF p d) k f f).side = (certF (instF p d) k f f).side ∧
 (certF (instF p d) k f f).cycle = (certF (instF p d) k f f).cycle ∧
 (certF (instF p d) j f e).flow = (certF (instF p d) j f e).flow ∧
 (certF (instF p d) j f e).pot = (certF (instF p d) j f e).pot ∧
 (certF (instF p d) j f e).side = (certF (instF p d) j f e).side ∧
 (certF (instF p d) j f e).cycle = (certF (instF p d) j f e).cycle ∧
 (certF (instF p d) k d e).flow = (certF (instF p d) k d e).flow ∧
 (certF (instF p d) k d e).pot = (certF (instF p d) k d e).pot ∧
 (certF (instF p d) k d e).side = (certF (instF p d) k d e).side ∧
 (certF (instF p d) k d e).cycle = (certF (instF p d) k d e).cycle ∧
 (True ∧ True ∧ True) ∧
 (instF p d).sup = (instF p d).sup ∧
 (instF p d).arcs = (instF p d).arcs ∧
 x.flow = x.flow ∧
 x.pot = x.pot ∧
 x.side = x.side ∧
 x.cycle = x.cycle ∧
 y.flow = y.flow ∧
 y.pot = y.pot ∧
 y.side = y.side ∧ y.cycle = y.cycle ∧ True) ∧
 ((↑g.2 : Int).toNat = (0 : Nat) + (1 : Nat) + (1 : Nat) →
 ((CertOne_a13 p d k e) ∧
 ∃ (g_2 : Nat × Nat),
 (True ∧ Q g_2) ∧
 ((0 : Nat) = (0 : Nat) ∧
 True ∧
 (↑g.2 : Int) = (↑g_2.2 : Int) ∧
 (↑g.1 : Int) = (↑g_2.1 : Int) ∧
 (0 : Nat) = (0 : Nat) ∧
 decide ((certF (instF p d) k d e).kind = (1 : Int)) =
 decide ((certs1 p d e f x y k j g_2.2).kind = (1 : Int)) ∧
 True) ∧
 ((CertOne_a19 p d k e).hi =
 (CertOne_a35 p d e f x y k j g_2).hi ∧
 (CertOne_a19 p d k e).lo =
 (CertOne_a35 p d e f x y k j g_2).lo ∧
 True) ∧
 (CertOne_a0 x y p d k e j f) ∧
 (certF (instF p d) k f f).flow = (certF (instF p d) k f f).flow ∧
 (certF (instF p d) k f f).pot = (certF (instF p d) k f f).pot ∧
 (certF (instF p d) k f f).side = (certF (instF p d) k f f).side ∧
 (certF (instF p d) k f f).cycle = (certF (instF p d) k f f).cycle ∧
 (certF (instF p d) j f e).flow = (certF (instF p d) j f e).flow ∧
 (certF (instF p d) j f e).pot = (certF (instF p d) j f e).pot ∧
 (certF (instF p d) j f e).side = (certF (instF p d) j f e).side ∧
 (certF (instF p d) j f e).cycle = (certF (instF p d) j f e).cycle ∧
 (certF (instF p d) k d e).flow = (certF (instF p d) k d e).flow ∧
 (certF (instF p d) k d e).pot = (certF (instF p d) k d e).pot ∧
 (certF (instF p d) k d e).side = (certF (instF p d) k d e).side ∧
 (certF (instF p d) k d e).cycle = (certF (instF p d) k d e).cycle ∧
 (True ∧ True ∧ True) ∧
 (instF p d).sup = (instF p d).sup ∧
 (instF p d).arcs = (instF p d).arcs ∧
 x.flow = x.flow ∧
 x.pot = x.pot ∧
 x.side = x.side ∧
 x.cycle = x.cycle ∧
 y.flow = y.flow ∧
 y.pot = y.pot ∧
 y.side = y.side ∧ y.cycle = y.cycle ∧ True) ∧
 (CertOne_a13 p d k e) ∧
 ∃ (g_2 : Nat × Nat),
 (True ∧ Q g_2) ∧
 ((0 : Nat) = (0 : Nat) ∧
 True ∧
 (↑g.2 : Int) = (↑g_2.2 : Int) ∧
 (↑g.1 : Int) = (↑g_2.1 : Int) ∧
 (0 : Nat) = (0 : Nat) ∧
 decide ((certF (instF p d) k d e).kind = (1 : Int)) =
 decide ((certs1 p d e f x y k j g_2.2).kind = (1 : Int)) ∧
 True) ∧
 ((CertOne_a19 p d k e).hi =
 (CertOne_a35 p d e f x y k j g_2).hi ∧
 (CertOne_a19 p d k e).lo =
 (CertOne_a35 p d e f x y k j g_2).lo ∧
 True) ∧
 (CertOne_a0 x y p d k e j f) ∧
 (certF (instF p d) k f f).flow = (certF (instF p d) k f f).flow ∧
 (certF (instF p d) k f f).pot = (certF (instF p d) k f f).pot ∧
 (certF (instF p d) k f f).side = (certF (instF p d) k f f).side ∧
 (certF (instF p d) k f f).cycle = (certF (instF p d) k f f).cycle ∧
 (certF (instF p d) j f e).flow = (certF (instF p d) j f e).flow ∧
 (certF (instF p d) j f e).pot = (certF (instF p d) j f e).pot ∧
 (certF (instF p d) j f e).side = (certF (instF p d) j f e).side ∧
 (certF (instF p d) j f e).cycle = (certF (instF p d) j f e).cycle ∧
 (certF (instF p d) k d e).flow = (certF (instF p d) k d e).flow ∧
 (certF (instF p d) k d e).pot = (certF (instF p d) k d e).pot ∧
 (certF (instF p d) k d e).side = (certF (instF p d) k d e).side ∧
 (certF (instF p d) k d e).cycle = (certF (instF p d) k d e).cycle ∧
 (True ∧ True ∧ True) ∧
 (instF p d).sup = (instF p d).sup ∧
 (instF p d).arcs = (instF p d).arcs ∧
 x.flow = x.flow ∧
 x.pot = x.pot ∧
 x.side = x.side ∧
 x.cycle = x.cycle ∧
 y.flow = y.flow ∧
 y.pot = y.pot ∧
 y.side = y.side ∧ y.cycle = y.cycle ∧ True) ∧
 ((↑g.2 : Int).toNat = (0 : Nat) + (1 : Nat) + (1 : Nat) + (1 : Nat) →
 ((CertOne_a15 p d j f e) ∧
 ∃ (g_2 : Nat × Nat),
 (True ∧ Q g_2) ∧
 ((0 : Nat) = (0 : Nat) ∧
 True ∧
 (↑g.2 : Int) = (↑g_2.2 : Int) ∧
 (↑g.1 : Int) = (↑g_2.1 : Int) ∧
 (0 : Nat) = (0 : Nat) ∧
 decide ((certF (instF p d) j f e).kind = (1 : Int)) =
 decide ((certs1 p d e f x y k j g_2.2).kind = (1 : Int)) ∧
 True) ∧
 ((CertOne_a21 p d j f e).hi =
 (CertOne_a35 p d e f x y k j g_2).hi ∧
 (CertOne_a21 p d j f e).lo =
 (CertOne_a35 p d e f x y k j g_2).lo ∧
 True) ∧
 (CertOne_a0 x y p d k e j f) ∧
 (certF (instF p d) k f f).flow = (certF (instF p d) k f f).flow ∧
 (certF (instF p d) k f f).pot = (certF (instF p d) k f f).pot ∧
 (certF (instF p d) k f f).side = (certF (instF p d) k f f).side ∧
 (certF (instF p d) k f f).cycle = (certF (instF p d) k f f).cycle ∧
 (certF (instF p d) j f e).flow = (certF (instF p d) j f e).flow ∧
 (certF (instF p d) j f e).pot = (certF (instF p d) j f e).pot ∧
 (certF (instF p d) j f e).side = (certF (instF p d) j f e).side ∧
 (certF (instF p d) j f e).cycle = (certF (instF p d) j f e).cycle ∧
 (certF (instF p d) k d e).flow = (certF (instF p d) k d e).flow ∧
 (certF (instF p d) k d e).pot = (certF (instF p d) k d e).pot ∧
 (certF (instF p d) k d e).side = (certF (instF p d) k d e).side ∧
 (certF (instF p d) k d e).cycle = (certF (instF p d) k d e).cycle ∧
 (True ∧ True ∧ True) ∧
 (instF p d).sup = (instF p d).sup ∧
 (instF p d).arcs = (instF p d).arcs ∧
 x.flow = x.flow ∧
 x.pot = x.pot ∧
 x.side = x.side ∧
 x.cycle = x.cycle ∧
 y.flow = y.flow ∧
 y.pot = y.pot ∧
 y.side = y.side ∧ y.cycle = y.cycle ∧ True) ∧
 (CertOne_a15 p d j f e) ∧
 ∃ (g_2 : Nat × Nat),
 (True ∧ Q g_2) ∧
 ((0 : Nat) = (0 : Nat) ∧
 True ∧
 (↑g.2 : Int) = (↑g_2.2 : Int) ∧
 (↑g.1 : Int) = (↑g_2.1 : Int) ∧
 (0 : Nat) = (0 : Nat) ∧
 decide ((certF (instF p d) j f e).kind = (1 : Int)) =
 decide ((certs1 p d e f x y k j g_2.2).kind = (1 : Int)) ∧
 True) ∧
 ((CertOne_a21 p d j f e).hi =
 (CertOne_a35 p d e f x y k j g_2).hi ∧
 (CertOne_a21 p d j f e).lo =
 (CertOne_a35 p d e f x y k j g_2).lo ∧
 True) ∧
 (CertOne_a0 x y p d k e j f) ∧
 (certF (instF p d) k f f).flow = (certF (instF p d) k f f).flow ∧
 (certF (instF p d) k f f).pot = (certF (instF p d) k f f).pot ∧
 (certF (instF p d) k f f).side = (certF (instF p d) k f f).side ∧
 (certF (instF p d) k f f).cycle = (certF (instF p d) k f f).cycle ∧
 (certF (instF p d) j f e).flow = (certF (instF p d) j f e).flow ∧
 (certF (instF p d) j f e).pot = (certF (instF p d) j f e).pot ∧
 (certF (instF p d) j f e).side = (certF (instF p d) j f e).side ∧
 (certF (instF p d) j f e).cycle = (certF (instF p d) j f e).cycle ∧
 (certF (instF p d) k d e).flow = (certF (instF p d) k d e).flow ∧
 (certF (instF p d) k d e).pot = (certF (instF p d) k d e).pot ∧
 (certF (instF p d) k d e).side = (certF (instF p d) k d e).side ∧
 (certF (instF p d) k d e).cycle = (certF (instF p d) k d e).cycle ∧
 (True ∧ True ∧ True) ∧
 (instF p d).sup = (instF p d).sup ∧
 (instF p d).arcs = (instF p d).arcs ∧
 x.flow = x.flow ∧
 x.pot = x.pot ∧
 x.side = x.side ∧
 x.cycle = x.cycle ∧
 y.flow = y.flow ∧
 y.pot = y.pot ∧
 y.side = y.side ∧ y.cycle = y.cycle ∧ True) ∧
 ((↑g.2 : Int).toNat = (0 : Nat) + (1 : Nat) + (1 : Nat) + (1 : Nat) + (1 : Nat) →
 ((CertOne_a14 p d k f) ∧
 ∃ (g_2 : Nat × Nat),
 (True ∧ Q g_2) ∧
 ((0 : Nat) = (0 : Nat) ∧
 True ∧
 (↑g.2 : Int) = (↑g_2.2 : Int) ∧
 (↑g.1 : Int) = (↑g_2.1 : Int) ∧
 (0 : Nat) = (0 : Nat) ∧
 decide ((certF (instF p d) k f f).kind = (1 : Int)) =
 decide ((certs1 p d e f x y k j g_2.2).kind = (1 : Int)) ∧
 True) ∧
 ((CertOne_a20 p d k f).hi =
 (CertOne_a35 p d e f x y k j g_2).hi ∧
 (CertOne_a20 p d k f).lo =
 (CertOne_a35 p d e f x y k j g_2).lo ∧
 True) ∧
 (CertOne_a0 x y p d k e j f) ∧
 (certF (instF p d) k f f).flow = (certF (instF p d) k f f).flow ∧
 (certF (instF p d) k f f).pot = (certF (instF p d) k f f).pot ∧
 (certF (instF p d) k f f).side = (certF (instF p d) k f f).side ∧
 (certF (instF p d) k f f).cycle = (certF (instF p d) k f f).cycle ∧
 (certF (instF p d) j f e).flow = (certF (instF p d) j f e).flow ∧
 (certF (instF p d) j f e).pot = (certF (instF p d) j f e).pot ∧
 (certF (instF p d) j f e).side = (certF (instF p d) j f e).side ∧
 (certF (instF p d) j f e).cycle = (certF (instF p d) j f e).cycle ∧
 (certF (instF p d) k d e).flow = (certF (instF p d) k d e).flow ∧
 (certF (instF p d) k d e).pot = (certF (instF p d) k d e).pot ∧
 (certF (instF p d) k d e).side = (certF (instF p d) k d e).side ∧
 (certF (instF p d) k d e).cycle = (certF (instF p d) k d e).cycle ∧
 (True ∧ True ∧ True) ∧
 (instF p d).sup = (instF p d).sup ∧
 (instF p d).arcs = (instF p d).arcs ∧
 x.flow = x.flow ∧
 x.pot = x.pot ∧
 x.side = x.side ∧
 x.cycle = x.cycle ∧
 y.flow = y.flow ∧
 y.pot = y.pot ∧
 y.side = y.side ∧ y.cycle = y.cycle ∧ True) ∧
 (CertOne_a14 p d k f) ∧
 ∃ (g_2 : Nat × Nat),
 (True ∧ Q g_2) ∧
 ((0 : Nat) = (0 : Nat) ∧
 True ∧
 (↑g.2 : Int) = (↑g_2.2 : Int) ∧
 (↑g.1 : Int) = (↑g_2.1 : Int) ∧
 (0 : Nat) = (0 : Nat) ∧
 decide ((certF (instF p d) k f f).kind = (1 : Int)) =
 decide ((certs1 p d e f x y k j g_2.2).kind = (1 : Int)) ∧
 True) ∧
 ((CertOne_a20 p d k f).hi =
 (CertOne_a35 p d e f x y k j g_2).hi ∧
 (CertOne_a20 p d k f).lo =
 (CertOne_a35 p d e f x y k j g_2).lo ∧
 True) ∧
 (CertOne_a0 x y p d k e j f) ∧
 (certF (instF p d) k f f).flow = (certF (instF p d) k f f).flow ∧
 (certF (instF p d) k f f).pot = (certF (instF p d) k f f).pot ∧
 (certF (instF p d) k f f).side = (certF (instF p d) k f f).side ∧
 (certF (instF p d) k f f).cycle = (certF (instF p d) k f f).cycle ∧
 (certF (instF p d) j f e).flow = (certF (instF p d) j f e).flow ∧
 (certF (instF p d) j f e).pot = (certF (instF p d) j f e).pot ∧
 (certF (instF p d) j f e).side = (certF (instF p d) j f e).side ∧
 (certF (instF p d) j f e).cycle = (certF (instF p d) j f e).cycle ∧
 (certF (instF p d) k d e).flow = (certF (instF p d) k d e).flow ∧
 (certF (instF p d) k d e).pot = (certF (instF p d) k d e).pot ∧
 (certF (instF p d) k d e).side = (certF (instF p d) k d e).side ∧
 (certF (instF p d) k d e).cycle = (certF (instF p d) k d e).cycle ∧
 (True ∧ True ∧ True) ∧
 (instF p d).sup = (instF p d).sup ∧
 (instF p d).arcs = (instF p d).arcs ∧
 x.flow = x.flow ∧
 x.pot = x.pot ∧
 x.side = x.side ∧
 x.cycle = x.cycle ∧
 y.flow = y.flow ∧
 y.pot = y.pot ∧
 y.side = y.side ∧ y.cycle = y.cycle ∧ True)) ∧
 ∀ (g : Nat × Nat),
 True →
 Q g →
 ∃ (Q :
 { G := Nat × Nat, inv := fun (x_1 : Nat × Nat) => match x_1 with | (m, n) => { tm := [((17 : Nat), SV.ptr (18 : Nat) (0 : Nat) (0 : Nat) (0 : Nat)), ((18 : Nat), SV.row (31 : Nat)), ((19 : Nat), SV.int IntKind.i64 (↑n : Int)), ((20 : Nat), SV.int IntKind.i64 (↑m : Int)), ((21 : Nat), SV.ptr (32 : Nat) (0 : Nat) (0 : Nat) (0 : Nat)), ((22 : Nat), SV.bool (decide ((certs1 p d e f x y k j n).kind = (1 : Int)))), ((23 : Nat), SV.ptr (33 : Nat) (0 : Nat) (0 : Nat) (0 : Nat)), ((24 : Nat), SV.bool (decide ((certs1 p d e f x y k j m).kind = (1 : Int))))], hp := [((33 : Nat), Ent.box true (41 : TypeId) [SV.int IntKind.i64 (valueW (instF p d) (certs1 p d e f x y k j m)).hi, SV.int IntKind.u64 (valueW (instF p d) (certs1 p d e f x y k j m)).lo]), ((32 : Nat), Ent.box true (41 : TypeId) [SV.int IntKind.i64 (valueW (instF p d) (certs1 p d e f x y k j n)).hi, SV.int IntKind.u64 (valueW (instF p d) (certs1 p d e f x y k j n)).lo]), ((31 : Nat), Ent.vec (27 : TypeId) [SV.agg [SV.int IntKind.i64 x.kind, SV.row (4 : Nat), SV.row (5 : Nat), SV.row (6 : Nat), SV.row (7 : Nat)], SV.agg [SV.int IntKind.i64 y.kind, SV.row (8 : Nat), SV.row (9 : Nat), SV.row (10 : Nat), SV.row (11 : Nat)], SV.agg [SV.int IntKind.i64 (certF (instF p d) k d e).kind, SV.row (19 : Nat), SV.row (20 : Nat), SV.row (21 : Nat), SV.row (22 : Nat)], SV.agg [SV.int IntKind.i64 (certF (instF p d) j f e).kind, SV.row (23 : Nat), SV.row (24 : Nat), SV.row (25 : Nat), SV.row (26 : Nat)], SV.agg [SV.int IntKind.i64 (certF (instF p d) k f f).kind, SV.row (27 : Nat), SV.row (28 : Nat), SV.row (29 : Nat), SV.row (30 : Nat)]]), ((27 : Nat), Ent.row true (2 : TypeId) (Row.ints IntKind.i64 (certF (instF p d) k f f).flow)), ((28 : Nat), Ent.row true (2 : TypeId) (Row.ints IntKind.i64 (certF (instF p d) k f f).pot)), ((29 : Nat), Ent.row true (4 : TypeId) (Row.bools (certF (instF p d) k f f).side)), ((30 : Nat), Ent.row true (3 : TypeId) (Row.ints IntKind.i64 (certF (instF p d) k f f).cycle)), ((23 : Nat), Ent.row true (2 : TypeId) (Row.ints IntKind.i64 (certF (instF p d) j f e).flow)), ((24 : Nat), Ent.row true (2 : TypeId) (Row.ints IntKind.i64 (certF (instF p d) j f e).pot)), ((25 : Nat), Ent.row true (4 : TypeId) (Row.bools (certF (instF p d) j f e).side)), ((26 : Nat), Ent.row true (3 : TypeId) (Row.ints IntKind.i64 (certF (instF p d) j f e).cycle)), ((19 : Nat), Ent.row true (2 : TypeId) (Row.ints IntKind.i64 (certF (instF p d) k d e).flow)), ((20 : Nat), Ent.row true (2 : TypeId) (Row.ints IntKind.i64 (certF (instF p d) k d e).pot)), ((21 : Nat), Ent.row true (4 : TypeId) (Row.bools (certF (instF p d) k d e).side)), ((22 : Nat), Ent.row true (3 : TypeId) (Row.ints IntKind.i64 (certF (instF p d) k d e).cycle)), ((18 : Nat), Ent.box true (30 : TypeId) [SV.row (14 : Nat), SV.row (15 : Nat)]), ((14 : Nat), Ent.row true (2 : TypeId) (Row.ints IntKind.i64 (instF p d).sup)), ((15 : Nat), Ent.row true (50 : TypeId) (Row.arcs (instF p d).arcs)), ((4 : Nat), Ent.row false (0 : TypeId) (Row.ints IntKind.i64 x.flow)), ((5 : Nat), Ent.row false (0 : TypeId) (Row.ints IntKind.i64 x.pot)), ((6 : Nat), Ent.row false (0 : TypeId) (Row.bools x.side)), ((7 : Nat), Ent.row false (0 : TypeId) (Row.ints IntKind.i64 x.cycle)), ((8 : Nat), Ent.row false (0 : TypeId) (Row.ints IntKind.i64 y.flow)), ((9 : Nat), Ent.row false (0 : TypeId) (Row.ints IntKind.i64 y.pot)), ((10 : Nat), Ent.row false (0 : TypeId) (Row.bools y.side)), ((11 : Nat), Ent.row false (0 : TypeId) (Row.ints IntKind.i64 y.cycle))], nk := (34 : Nat) : St }, rel := fun (x x_1 : Nat × Nat) => match x with | (m0, n0) => match x_1 with | (m, n) => True, meas := fun (x : Nat × Nat) => match x with | (m, n) => (0 : Nat), link := true : Ann }.G →
 Prop),
 ((CertOne_a34 g) ∧
 (↑g.1 : Int).toNat < (5 : Nat) ∧
 ((↑g.1 : Int).toNat = (0 : Nat) →
 ((CertOne_a27 x p d) ∧
 ∃ (g_2 : Nat × Nat),
 (True ∧ Q g_2) ∧
 (CertOne_a41 g g_2 p d e f x y k j) ∧
 ((CertOne_a30 p d x).hi =
 (CertOne_a36 p d e f x y k j g_2).hi ∧
 (CertOne_a30 p d x).lo =
 (CertOne_a36 p d e f x y k j g_2).lo ∧
 True) ∧
 (CertOne_a18 p d e f x y k j g g_2) ∧
 (CertOne_a0 x y p d k e j f) ∧
 (certF (instF p d) k f f).flow = (certF (instF p d) k f f).flow ∧
 (certF (instF p d) k f f).pot = (certF (instF p d) k f f).pot ∧
 (certF (instF p d) k f f).side = (certF (instF p d) k f f).side ∧
 (certF (instF p d) k f f).cycle = (certF (instF p d) k f f).cycle ∧
 (certF (instF p d) j f e).flow = (certF (instF p d) j f e).flow ∧
 (certF (instF p d) j f e).pot = (certF (instF p d) j f e).pot ∧
 (certF (instF p d) j f e).side = (certF (instF p d) j f e).side ∧
 (certF (instF p d) j f e).cycle = (certF (instF p d) j f e).cycle ∧
 (certF (instF p d) k d e).flow = (certF (instF p d) k d e).flow ∧
 (certF (instF p d) k d e).pot = (certF (instF p d) k d e).pot ∧
 (certF (instF p d) k d e).side = (certF (instF p d) k d e).side ∧
 (certF (instF p d) k d e).cycle =
 (certF (instF p d) k d e).cycle ∧
 (True ∧ True ∧ True) ∧
 (instF p d).sup = (instF p d).sup ∧
 (instF p d).arcs = (instF p d).arcs ∧
 x.flow = x.flow ∧
 x.pot = x.pot ∧
 x.side = x.side ∧
 x.cycle = x.cycle ∧
 y.flow = y.flow ∧
 y.pot = y.pot ∧
 y.side = y.side ∧ y.cycle = y.cycle ∧ True) ∧
 (CertOne_a27 x p d) ∧
 ∃ (g_2 : Nat × Nat),
 (True ∧ Q g_2) ∧
 (CertOne_a41 g g_2 p d e f x y k j) ∧
 ((CertOne_a30 p d x).hi =
 (CertOne_a36 p d e f x y k j g_2).hi ∧
 (CertOne_a30 p d x).lo =
 (CertOne_a36 p d e f x y k j g_2).lo ∧
 True) ∧
 (CertOne_a18 p d e f x y k j g g_2) ∧
 (CertOne_a0 x y p d k e j f) ∧
 (certF (instF p d) k f f).flow = (certF (instF p d) k f f).flow ∧
 (certF (instF p d) k f f).pot = (certF (instF p d) k f f).pot ∧
 (certF (instF p d) k f f).side = (certF (instF p d) k f f).side ∧
 (certF (instF p d) k f f).cycle = (certF (instF p d) k f f).cycle ∧
 (certF (instF p d) j f e).flow = (certF (instF p d) j f e).flow ∧
 (certF (instF p d) j f e).pot = (certF (instF p d) j f e).pot ∧
 (certF (instF p d) j f e).side = (certF (instF p d) j f e).side ∧
 (certF (instF p d) j f e).cycle = (certF (instF p d) j f e).cycle ∧
 (certF (instF p d) k d e).flow = (certF (instF p d) k d e).flow ∧
 (certF (instF p d) k d e).pot = (certF (instF p d) k d e).pot ∧
 (certF (instF p d) k d e).side = (certF (instF p d) k d e).side ∧
 (certF (instF p d) k d e).cycle =
 (certF (instF p d) k d e).cycle ∧
 (True ∧ True ∧ True) ∧
 (instF p d).sup = (instF p d).sup ∧
 (instF p d).arcs = (instF p d).arcs ∧
 x.flow = x.flow ∧
 x.pot = x.pot ∧
 x.side = x.side ∧
 x.cycle = x.cycle ∧
 y.flow = y.flow ∧
 y.pot = y.pot ∧
 y.side = y.side ∧ y.cycle = y.cycle ∧ True) ∧
 ((↑g.1 : Int).toNat = (0 : Nat) + (1 : Nat) →
 ((CertOne_a28 y p d) ∧
 ∃ (g_2 : Nat × Nat),
 (True ∧ Q g_2) ∧
 (CertOne_a42 g g_2 p d e f x y k j) ∧
 ((CertOne_a31 p d y).hi =
 (CertOne_a36 p d e f x y k j g_2).hi ∧
 (CertOne_a31 p d y).lo =
 (CertOne_a36 p d e f x y k j g_2).lo ∧
 True) ∧
 (CertOne_a18 p d e f x y k j g g_2) ∧
 (CertOne_a0 x y p d k e j f) ∧
 (certF (instF p d) k f f).flow = (certF (instF p d) k f f).flow ∧
 (certF (instF p d) k f f).pot = (certF (instF p d) k f f).pot ∧
 (certF (instF p d) k f f).side = (certF (instF p d) k f f).side ∧
 (certF (instF p d) k f f).cycle = (certF (instF p d) k f f).cycle ∧
 (certF (instF p d) j f e).flow = (certF (instF p d) j f e).flow ∧
 (certF (instF p d) j f e).pot = (certF (instF p d) j f e).pot ∧
 (certF (instF p d) j f e).side = (certF (instF p d) j f e).side ∧
 (certF (instF p d) j f e).cycle = (certF (instF p d) j f e).cycle ∧
 (certF (instF p d) k d e).flow = (certF (instF p d) k d e).flow ∧
 (certF (instF p d) k d e).pot = (certF (instF p d) k d e).pot ∧
 (certF (instF p d) k d e).side = (certF (instF p d) k d e).side ∧
 (certF (instF p d) k d e).cycle =
 (certF (instF p d) k d e).cycle ∧
 (True ∧ True ∧ True) ∧
 (instF p d).sup = (instF p d).sup ∧
 (instF p d).arcs = (instF p d).arcs ∧
 x.flow = x.flow ∧
 x.pot = x.pot ∧
 x.side = x.side ∧
 x.cycle = x.cycle ∧
 y.flow = y.flow ∧
 y.pot = y.pot ∧
 y.side = y.side ∧
 y.cycle = y.cycle ∧ True) ∧
 (CertOne_a28 y p d) ∧
 ∃ (g_2 : Nat × Nat),
 (True ∧ Q g_2) ∧
 (CertOne_a42 g g_2 p d e f x y k j) ∧
 ((CertOne_a31 p d y).hi =
 (CertOne_a36 p d e f x y k j g_2).hi ∧
 (CertOne_a31 p d y).lo =
 (CertOne_a36 p d e f x y k j g_2).lo ∧
 True) ∧
 (CertOne_a18 p d e f x y k j g g_2) ∧
 (CertOne_a0 x y p d k e j f) ∧
 (certF (instF p d) k f f).flow = (certF (instF p d) k f f).flow ∧
 (certF (instF p d) k f f).pot = (certF (instF p d) k f f).pot ∧
 (certF (instF p d) k f f).side = (certF (instF p d) k f f).side ∧
 (certF (instF p d) k f f).cycle = (certF (instF p d) k f f).cycle ∧
 (certF (instF p d) j f e).flow = (certF (instF p d) j f e).flow ∧
 (certF (instF p d) j f e).pot = (certF (instF p d) j f e).pot ∧
 (certF (instF p d) j f e).side = (certF (instF p d) j f e).side ∧
 (certF (instF p d) j f e).cycle = (certF (instF p d) j f e).cycle ∧
 (certF (instF p d) k d e).flow = (certF (instF p d) k d e).flow ∧
 (certF (instF p d) k d e).pot = (certF (instF p d) k d e).pot ∧
 (certF (instF p d) k d e).side = (certF (instF p d) k d e).side ∧
 (certF (instF p d) k d e).cycle =
 (certF (instF p d) k d e).cycle ∧
 (True ∧ True ∧ True) ∧
 (instF p d).sup = (instF p d).sup ∧
 (instF p d).arcs = (instF p d).arcs ∧
 x.flow = x.flow ∧
 x.pot = x.pot ∧
 x.side = x.side ∧
 x.cycle = x.cycle ∧
 y.flow = y.flow ∧
 y.pot = y.pot ∧
 y.side = y.side ∧
 y.cycle = y.cycle ∧ True) ∧
 ((↑g.1 : Int).toNat = (0 : Nat) + (1 : Nat) + (1 : Nat) →
 ((CertOne_a13 p d k e) ∧
 ∃ (g_2 : Nat × Nat),
 (True ∧ Q g_2) ∧
 (CertOne_a37 g g_2 p d e f x y k j) ∧
 ((CertOne_a19 p d k e).hi =
 (CertOne_a36 p d e f x y k j g_2).hi ∧
 (CertOne_a19 p d k e).lo =
 (CertOne_a36 p d e f x y k j g_2).lo ∧
 True) ∧
 (CertOne_a18 p d e f x y k j g g_2) ∧
 (CertOne_a0 x y p d k e j f) ∧
 (certF (instF p d) k f f).flow = (certF (instF p d) k f f).flow ∧
 (certF (instF p d) k f f).pot = (certF (instF p d) k f f).pot ∧
 (certF (instF p d) k f f).side = (certF (instF p d) k f f).side ∧
 (certF (instF p d) k f f).cycle = (certF (instF p d) k f f).cycle ∧
 (certF (instF p d) j f e).flow = (certF (instF p d) j f e).flow ∧
 (certF (instF p d) j f e).pot = (certF (instF p d) j f e).pot ∧
 (certF (instF p d) j f e).side = (certF (instF p d) j f e).side ∧
 (certF (instF p d) j f e).cycle = (certF (instF p d) j f e).cycle ∧
 (certF (instF p d) k d e).flow = (certF (instF p d) k d e).flow ∧
 (certF (instF p d) k d e).pot = (certF (instF p d) k d e).pot ∧
 (certF (instF p d) k d e).side =
 (certF (instF p d) k d e).side ∧
 (certF (instF p d) k d e).cycle =
 (certF (instF p d) k d e).cycle ∧
 (True ∧ True ∧ True) ∧
 (instF p d).sup = (instF p d).sup ∧
 (instF p d).arcs = (instF p d).arcs ∧
 x.flow = x.flow ∧
 x.pot = x.pot ∧
 x.side = x.side ∧
 x.cycle = x.cycle ∧
 y.flow = y.flow ∧
 y.pot = y.pot ∧
 y.side = y.side ∧
 y.cycle = y.cycle ∧ True) ∧
 (CertOne_a13 p d k e) ∧
 ∃ (g_2 : Nat × Nat),
 (True ∧ Q g_2) ∧
 (CertOne_a37 g g_2 p d e f x y k j) ∧
 ((CertOne_a19 p d k e).hi =
 (CertOne_a36 p d e f x y k j g_2).hi ∧
 (CertOne_a19 p d k e).lo =
 (CertOne_a36 p d e f x y k j g_2).lo ∧
 True) ∧
 (CertOne_a18 p d e f x y k j g g_2) ∧
 (CertOne_a0 x y p d k e j f) ∧
 (certF (instF p d) k f f).flow = (certF (instF p d) k f f).flow ∧
 (certF (instF p d) k f f).pot = (certF (instF p d) k f f).pot ∧
 (certF (instF p d) k f f).side = (certF (instF p d) k f f).side ∧
 (certF (instF p d) k f f).cycle = (certF (instF p d) k f f).cycle ∧
 (certF (instF p d) j f e).flow = (certF (instF p d) j f e).flow ∧
 (certF (instF p d) j f e).pot = (certF (instF p d) j f e).pot ∧
 (certF (instF p d) j f e).side = (certF (instF p d) j f e).side ∧
 (certF (instF p d) j f e).cycle = (certF (instF p d) j f e).cycle ∧
 (certF (instF p d) k d e).flow = (certF (instF p d) k d e).flow ∧
 (certF (instF p d) k d e).pot = (certF (instF p d) k d e).pot ∧
 (certF (instF p d) k d e).side =
 (certF (instF p d) k d e).side ∧
 (certF (instF p d) k d e).cycle =
 (certF (instF p d) k d e).cycle ∧
 (True ∧ True ∧ True) ∧
 (instF p d).sup = (instF p d).sup ∧
 (instF p d).arcs = (instF p d).arcs ∧
 x.flow = x.flow ∧
 x.pot = x.pot ∧
 x.side = x.side ∧
 x.cycle = x.cycle ∧
 y.flow = y.flow ∧
 y.pot = y.pot ∧
 y.side = y.side ∧
 y.cycle = y.cycle ∧ True) ∧
 ((↑g.1 : Int).toNat = (0 : Nat) + (1 : Nat) + (1 : Nat) + (1 : Nat) →
 ((CertOne_a15 p d j f e) ∧
 ∃ (g_2 : Nat × Nat),
 (True ∧ Q g_2) ∧
 (CertOne_a38 g g_2 p d e f x y k j) ∧
 ((CertOne_a21 p d j f e).hi =
 (CertOne_a36 p d e f x y k j g_2).hi ∧
 (CertOne_a21 p d j f e).lo =
 (CertOne_a36 p d e f x y k j g_2).lo ∧
 True) ∧
 (CertOne_a18 p d e f x y k j g g_2) ∧
 (CertOne_a0 x y p d k e j f) ∧
 (certF (instF p d) k f f).flow = (certF (instF p d) k f f).flow ∧
 (certF (instF p d) k f f).pot = (certF (instF p d) k f f).pot ∧
 (certF (instF p d) k f f).side = (certF (instF p d) k f f).side ∧
 (certF (instF p d) k f f).cycle = (certF (instF p d) k f f).cycle ∧
 (certF (instF p d) j f e).flow = (certF (instF p d) j f e).flow ∧
 (certF (instF p d) j f e).pot = (certF (instF p d) j f e).pot ∧
 (certF (instF p d) j f e).side = (certF (instF p d) j f e).side ∧
 (certF (instF p d) j f e).cycle = (certF (instF p d) j f e).cycle ∧
 (certF (instF p d) k d e).flow = (certF (instF p d) k d e).flow ∧
 (certF (instF p d) k d e).pot = (certF (instF p d) k d e).pot ∧
 (certF (instF p d) k d e).side =
 (certF (instF p d) k d e).side ∧
 (certF (instF p d) k d e).cycle =
 (certF (instF p d) k d e).cycle ∧
 (True ∧ True ∧ True) ∧
 (instF p d).sup = (instF p d).sup ∧
 (instF p d).arcs = (instF p d).arcs ∧
 x.flow = x.flow ∧
 x.pot = x.pot ∧
 x.side = x.side ∧
 x.cycle = x.cycle ∧
 y.flow = y.flow ∧
 y.pot = y.pot ∧
 y.side = y.side ∧
 y.cycle = y.cycle ∧ True) ∧
 (CertOne_a15 p d j f e) ∧
 ∃ (g_2 : Nat × Nat),
 (True ∧ Q g_2) ∧
 (CertOne_a38 g g_2 p d e f x y k j) ∧
 ((CertOne_a21 p d j f e).hi =
 (CertOne_a36 p d e f x y k j g_2).hi ∧
 (CertOne_a21 p d j f e).lo =
 (CertOne_a36 p d e f x y k j g_2).lo ∧
 True) ∧
 (CertOne_a18 p d e f x y k j g g_2) ∧
 (CertOne_a0 x y p d k e j f) ∧
 (certF (instF p d) k f f).flow = (certF (instF p d) k f f).flow ∧
 (certF (instF p d) k f f).pot = (certF (instF p d) k f f).pot ∧
 (certF (instF p d) k f f).side = (certF (instF p d) k f f).side ∧
 (certF (instF p d) k f f).cycle = (certF (instF p d) k f f).cycle ∧
 (certF (instF p d) j f e).flow = (certF (instF p d) j f e).flow ∧
 (certF (instF p d) j f e).pot = (certF (instF p d) j f e).pot ∧
 (certF (instF p d) j f e).side = (certF (instF p d) j f e).side ∧
 (certF (instF p d) j f e).cycle = (certF (instF p d) j f e).cycle ∧
 (certF (instF p d) k d e).flow = (certF (instF p d) k d e).flow ∧
 (certF (instF p d) k d e).pot = (certF (instF p d) k d e).pot ∧
 (certF (instF p d) k d e).side =
 (certF (instF p d) k d e).side ∧
 (certF (instF p d) k d e).cycle =
 (certF (instF p d) k d e).cycle ∧
 (True ∧ True ∧ True) ∧
 (instF p d).sup = (instF p d).sup ∧
 (instF p d).arcs = (instF p d).arcs ∧
 x.flow = x.flow ∧
 x.pot = x.pot ∧
 x.side = x.side ∧
 x.cycle = x.cycle ∧
 y.flow = y.flow ∧
 y.pot = y.pot ∧
 y.side = y.side ∧
 y.cycle = y.cycle ∧ True) ∧
 ((↑g.1 : Int).toNat = (0 : Nat) + (1 : Nat) + (1 : Nat) + (1 : Nat) + (1 : Nat) →
 ((CertOne_a14 p d k f) ∧
 ∃ (g_2 : Nat × Nat),
 (True ∧ Q g_2) ∧
 (CertOne_a39 g g_2 p d e f x y k j) ∧
 ((CertOne_a20 p d k f).hi =
 (CertOne_a36 p d e f x y k j g_2).hi ∧
 (CertOne_a20 p d k f).lo =
 (CertOne_a36 p d e f x y k j g_2).lo ∧
 True) ∧
 (CertOne_a18 p d e f x y k j g g_2) ∧
 (CertOne_a0 x y p d k e j f) ∧
 (certF (instF p d) k f f).flow = (certF (instF p d) k f f).flow ∧
 (certF (instF p d) k f f).pot = (certF (instF p d) k f f).pot ∧
 (certF (instF p d) k f f).side = (certF (instF p d) k f f).side ∧
 (certF (instF p d) k f f).cycle = (certF (instF p d) k f f).cycle ∧
 (certF (instF p d) j f e).flow = (certF (instF p d) j f e).flow ∧
 (certF (instF p d) j f e).pot = (certF (instF p d) j f e).pot ∧
 (certF (instF p d) j f e).side = (certF (instF p d) j f e).side ∧
 (certF (instF p d) j f e).cycle = (certF (instF p d) j f e).cycle ∧
 (certF (instF p d) k d e).flow = (certF (instF p d) k d e).flow ∧
 (certF (instF p d) k d e).pot = (certF (instF p d) k d e).pot ∧
 (certF (instF p d) k d e).side =
 (certF (instF p d) k d e).side ∧
 (certF (instF p d) k d e).cycle =
 (certF (instF p d) k d e).cycle ∧
 (True ∧ True ∧ True) ∧
 (instF p d).sup = (instF p d).sup ∧
 (instF p d).arcs = (instF p d).arcs ∧
 x.flow = x.flow ∧
 x.pot = x.pot ∧
 x.side = x.side ∧
 x.cycle = x.cycle ∧
 y.flow = y.flow ∧
 y.pot = y.pot ∧
 y.side = y.side ∧
 y.cycle = y.cycle ∧ True) ∧
 (CertOne_a14 p d k f) ∧
 ∃ (g_2 : Nat × Nat),
 (True ∧ Q g_2) ∧
 (CertOne_a39 g g_2 p d e f x y k j) ∧
 ((CertOne_a20 p d k f).hi =
 (CertOne_a36 p d e f x y k j g_2).hi ∧
 (CertOne_a20 p d k f).lo =
 (CertOne_a36 p d e f x y k j g_2).lo ∧
 True) ∧
 (CertOne_a18 p d e f x y k j g g_2) ∧
 (CertOne_a0 x y p d k e j f) ∧
 (certF (instF p d) k f f).flow = (certF (instF p d) k f f).flow ∧
 (certF (instF p d) k f f).pot = (certF (instF p d) k f f).pot ∧
 (certF (instF p d) k f f).side = (certF (instF p d) k f f).side ∧
 (certF (instF p d) k f f).cycle = (certF (instF p d) k f f).cycle ∧
 (certF (instF p d) j f e).flow = (certF (instF p d) j f e).flow ∧
 (certF (instF p d) j f e).pot = (certF (instF p d) j f e).pot ∧
 (certF (instF p d) j f e).side = (certF (instF p d) j f e).side ∧
 (certF (instF p d) j f e).cycle = (certF (instF p d) j f e).cycle ∧
 (certF (instF p d) k d e).flow = (certF (instF p d) k d e).flow ∧
 (certF (instF p d) k d e).pot = (certF (instF p d) k d e).pot ∧
 (certF (instF p d) k d e).side =
 (certF (instF p d) k d e).side ∧
 (certF (instF p d) k d e).cycle =
 (certF (instF p d) k d e).cycle ∧
 (True ∧ True ∧ True) ∧
 (instF p d).sup = (instF p d).sup ∧
 (instF p d).arcs = (instF p d).arcs ∧
 x.flow = x.flow ∧
 x.pot = x.pot ∧
 x.side = x.side ∧
 x.cycle = x.cycle ∧
 y.flow = y.flow ∧
 y.pot = y.pot ∧
 y.side = y.side ∧
 y.cycle = y.cycle ∧ True)) ∧
 ∀ (g : Nat × Nat),
 True →
 Q g →
 ((0 : Int) ≤ (↑g.2 : Int) ∧ (↑g.2 : Int) < (↑(5 : Nat) : Int)) ∧
 (↑g.2 : Int).toNat < (5 : Nat) ∧
 ((↑g.2 : Int).toNat = (0 : Nat) →
 (CertOne_a34 g) ∧
 (↑g.1 : Int).toNat < (5 : Nat) ∧
 ((↑g.1 : Int).toNat = (0 : Nat) →
 ((x.kind != x.kind) = true → (false = true ∧ True) ∧ True) ∧
 ((x.kind != x.kind) = false →
 (CertOne_a26 p d e f x y k j g) ∧
 (CertOne_a6 p d e f x y k j g g0 g_1))) ∧
 ((↑g.1 : Int).toNat = (0 : Nat) + (1 : Nat) →
 ((x.kind != y.kind) = true → (false = true ∧ True) ∧ True) ∧
 ((x.kind != y.kind) = false →
 (CertOne_a26 p d e f x y k j g) ∧
 (CertOne_a6 p d e f x y k j g g0 g_1))) ∧
 ((↑g.1 : Int).toNat = (0 : Nat) + (1 : Nat) + (1 : Nat) →
 ((x.kind != (certF (instF p d) k d e).kind) = true → (false = true ∧ True) ∧ True) ∧
 ((x.kind != (certF (instF p d) k d e).kind) = false →
 (CertOne_a26 p d e f x y k j g) ∧
 (CertOne_a5 p d e f x y k j g g0 g_1))) ∧
 ((↑g.1 : Int).toNat = (0 : Nat) + (1 : Nat) + (1 : Nat) + (1 : Nat) →
 ((x.kind != (certF (instF p d) j f e).kind) = true → (false = true ∧ True) ∧ True) ∧
 ((x.kind != (certF (instF p d) j f e).kind) = false →
 (CertOne_a26 p d e f x y k j g) ∧
 (CertOne_a2 p d e f x y k j g g0 g_1))) ∧
 ((↑g.1 : Int).toNat = (0 : Nat) + (1 : Nat) + (1 : Nat) + (1 : Nat) + (1 : Nat) →
 ((x.kind != (certF (instF p d) k f f).kind) = true → (false = true ∧ True) ∧ True) ∧
 ((x.kind != (certF (instF p d) k f f).kind) = false →
 (CertOne_a26 p d e f x y k j g) ∧
 (CertOne_a2 p d e f x y k j g g0 g_1)))) ∧
 ((↑g.2 : Int).toNat = (0 : Nat) + (1 : Nat) →
 (CertOne_a34 g) ∧
 (↑g.1 : Int).toNat < (5 : Nat) ∧
 ((↑g.1 : Int).toNat = (0 : Nat) →
 ((y.kind != x.kind) = true → (false = true ∧ True) ∧ True) ∧
 ((y.kind != x.kind) = false →
 (CertOne_a26 p d e f x y k j g) ∧
 (CertOne_a6 p d e f x y k j g g0 g_1))) ∧
 ((↑g.1 : Int).toNat = (0 : Nat) + (1 : Nat) →
 ((y.kind != y.kind) = true → (false = true ∧ True) ∧ True) ∧
 ((y.kind != y.kind) = false →
 (CertOne_a26 p d e f x y k j g) ∧
 (CertOne_a5 p d e f x y k j g g0 g_1))) ∧
 ((↑g.1 : Int).toNat = (0 : Nat) + (1 : Nat) + (1 : Nat) →
 ((y.kind != (certF (instF p d) k d e).kind) = true → (false = true ∧ True) ∧ True) ∧
 ((y.kind != (certF (instF p d) k d e).kind) = false →
 (CertOne_a26 p d e f x y k j g) ∧
 (CertOne_a2 p d e f x y k j g g0 g_1))) ∧
 ((↑g.1 : Int).toNat = (0 : Nat) + (1 : Nat) + (1 : Nat) + (1 : Nat) →
 ((y.kind != (certF (instF p d) j f e).kind) = true →
 (false = true ∧ True) ∧ True) ∧
 ((y.kind != (certF (instF p d) j f e).kind) = false →
 (CertOne_a26 p d e f x y k j g) ∧
 (CertOne_a3 p d e f x y k j g g0 g_1))) ∧
 ((↑g.1 : Int).toNat = (0 : Nat) + (1 : Nat) + (1 : Nat) + (1 : Nat) + (1 : Nat) →
 ((y.kind != (certF (instF p d) k f f).kind) = true →
 (false = true ∧ True) ∧ True) ∧
 ((y.kind != (certF (instF p d) k f f).kind) = false →
 (CertOne_a26 p d e f x y k j g) ∧
 (CertOne_a3 p d e f x y k j g g0 g_1)))) ∧
 ((↑g.2 : Int).toNat = (0 : Nat) + (1 : Nat) + (1 : Nat) →
 (CertOne_a34 g) ∧
 (↑g.1 : Int).toNat < (5 : Nat) ∧
 ((↑g.1 : Int).toNat = (0 : Nat) →
 (((certF (instF p d) k d e).kind != x.kind) = true → (false = true ∧ True) ∧ True) ∧
 (((certF (instF p d) k d e).kind != x.kind) = false →
 (CertOne_a26 p d e f x y k j g) ∧
 (CertOne_a5 p d e f x y k j g g0 g_1))) ∧
 ((↑g.1 : Int).toNat = (0 : Nat) + (1 : Nat) →
 (((certF (instF p d) k d e).kind != y.kind) = true → (false = true ∧ True) ∧ True) ∧
 (((certF (instF p d) k d e).kind != y.kind) = false →
 (CertOne_a26 p d e f x y k j g) ∧
 (CertOne_a2 p d e f x y k j g g0 g_1))) ∧
 ((↑g.1 : Int).toNat = (0 : Nat) + (1 : Nat) + (1 : Nat) →
 (((certF (instF p d) k d e).kind != (certF (instF p d) k d e).kind) = true →
 (false = true ∧ True) ∧ True) ∧
 (((certF (instF p d) k d e).kind != (certF (instF p d) k d e).kind) = false →
 (CertOne_a26 p d e f x y k j g) ∧
 (CertOne_a3 p d e f x y k j g g0 g_1))) ∧
 ((↑g.1 : Int).toNat = (0 : Nat) + (1 : Nat) + (1 : Nat) + (1 : Nat) →
 (((certF (instF p d) k d e).kind != (certF (instF p d) j f e).kind) = true →
 (false = true ∧ True) ∧ True) ∧
 (((certF (instF p d) k d e).kind != (certF (instF p d) j f e).kind) = false →
 (CertOne_a26 p d e f x y k j g) ∧
 (CertOne_a1 p d e f x y k j g g0 g_1))) ∧
 ((↑g.1 : Int).toNat = (0 : Nat) + (1 : Nat) + (1 : Nat) + (1 : Nat) + (1 : Nat) →
 (((certF (instF p d) k d e).kind != (certF (instF p d) k f f).kind) = true →
 (false = true ∧ True) ∧ True) ∧
 (((certF (instF p d) k d e).kind != (certF (instF p d) k f f).kind) = false →
 (CertOne_a26 p d e f x y k j g) ∧
 (CertOne_a1 p d e f x y k j g g0 g_1)))) ∧
 ((↑g.2 : Int).toNat = (0 : Nat) + (1 : Nat) + (1 : Nat) + (1 : Nat) →
 (CertOne_a34 g) ∧
 (↑g.1 : Int).toNat < (5 : Nat) ∧
 ((↑g.1 : Int).toNat = (0 : Nat) →
 (((certF (instF p d) j f e).kind != x.kind) = true → (false = true ∧ True) ∧ True) ∧
 (((certF (instF p d) j f e).kind != x.kind) = false →
 (CertOne_a26 p d e f x y k j g) ∧
 (CertOne_a2 p d e f x y k j g g0 g_1))) ∧
 ((↑g.1 : Int).toNat = (0 : Nat) + (1 : Nat) →
 (((certF (instF p d) j f e).kind != y.kind) = true →
 (false = true ∧ True) ∧ True) ∧
 (((certF (instF p d) j f e).kind != y.kind) = false →
 (CertOne_a26 p d e f x y k j g) ∧
 (CertOne_a3 p d e f x y k j g g0 g_1))) ∧
 ((↑g.1 : Int).toNat = (0 : Nat) + (1 : Nat) + (1 : Nat) →
 (((certF (instF p d) j f e).kind != (certF (instF p d) k d e).kind) = true →
 (false = true ∧ True) ∧ True) ∧
 (((certF (instF p d) j f e).kind != (certF (instF p d) k d e).kind) = false →
 (CertOne_a26 p d e f x y k j g) ∧
 (CertOne_a1 p d e f x y k j g g0 g_1))) ∧
 ((↑g.1 : Int).toNat = (0 : Nat) + (1 : Nat) + (1 : Nat) + (1 : Nat) →
 (((certF (instF p d) j f e).kind != (certF (instF p d) j f e).kind) = true →
 (false = true ∧ True) ∧ True) ∧
 (((certF (instF p d) j f e).kind != (certF (instF p d) j f e).kind) =
 false →
 (CertOne_a26 p d e f x y k j g) ∧
 (CertOne_a1 p d e f x y k j g g0 g_1))) ∧
 ((↑g.1 : Int).toNat =
 (0 : Nat) + (1 : Nat) + (1 : Nat) + (1 : Nat) + (1 : Nat) →
 (((certF (instF p d) j f e).kind != (certF (instF p d) k f f).kind) = true →
 (false = true ∧ True) ∧ True) ∧
 (((certF (instF p d) j f e).kind != (certF (instF p d) k f f).kind) =
 false →
 (CertOne_a26 p d e f x y k j g) ∧
 (CertOne_a1 p d e f x y k j g g0 g_1)))) ∧
 ((↑g.2 : Int).toNat = (0 : Nat) + (1 : Nat) + (1 : Nat) + (1 : Nat) + (1 : Nat) →
 (CertOne_a34 g) ∧
 (↑g.1 : Int).toNat < (5 : Nat) ∧
 ((↑g.1 : Int).toNat = (0 : Nat) →
 (((certF (instF p d) k f f).kind != x.kind) = true → (false = true ∧ True) ∧ True) ∧
 (((certF (instF p d) k f f).kind != x.kind) = false →
 (CertOne_a26 p d e f x y k j g) ∧
 (CertOne_a2 p d e f x y k j g g0 g_1))) ∧
 ((↑g.1 : Int).toNat = (0 : Nat) + (1 : Nat) →
 (((certF (instF p d) k f f).kind != y.kind) = true →
 (false = true ∧ True) ∧ True) ∧
 (((certF (instF p d) k f f).kind != y.kind) = false →
 (CertOne_a26 p d e f x y k j g) ∧
 (CertOne_a3 p d e f x y k j g g0 g_1))) ∧
 ((↑g.1 : Int).toNat = (0 : Nat) + (1 : Nat) + (1 : Nat) →
 (((certF (instF p d) k f f).kind != (certF (instF p d) k d e).kind) = true →
 (false = true ∧ True) ∧ True) ∧
 (((certF (instF p d) k f f).kind != (certF (instF p d) k d e).kind) = false →
 (CertOne_a26 p d e f x y k j g) ∧
 (CertOne_a1 p d e f x y k j g g0 g_1))) ∧
 ((↑g.1 : Int).toNat = (0 : Nat) + (1 : Nat) + (1 : Nat) + (1 : Nat) →
 (((certF (instF p d) k f f).kind != (certF (instF p d) j f e).kind) = true →
 (false = true ∧ True) ∧ True) ∧
 (((certF (instF p d) k f f).kind != (certF (instF p d) j f e).kind) =
 false →
 (CertOne_a26 p d e f x y k j g) ∧
 (CertOne_a1 p d e f x y k j g g0 g_1))) ∧
 ((↑g.1 : Int).toNat =
 (0 : Nat) + (1 : Nat) + (1 : Nat) + (1 : Nat) + (1 : Nat) →
 (((certF (instF p d) k f f).kind != (certF (instF p d) k f f).kind) = true →
 (false = true ∧ True) ∧ True) ∧
 (((certF (instF p d) k f f).kind != (certF (instF p d) k f f).kind) =
 false →
 (CertOne_a26 p d e f x y k j g) ∧
 (CertOne_a1 p d e f x y k j g g0 g_1))))) ∧
 (decide ((↑g_1.1 : Int) < (↑g_1.2 : Int)) = false →
 ∃ (g' : Nat),
 g' ≤ (5 : Nat) ∧
 (5 : Nat) - g' < (5 : Nat) - g ∧
 ((0 : Nat) = (0 : Nat) ∧ True ∧ IntKind.i64.wrap ((↑g_1.2 : Int) + (1 : Int)) = (↑g' : Int) ∧ True) ∧
 (CertOne_a29 x y p d k e j f) ∧
 (certF (instF p d) k f f).flow = (certF (instF p d) k f f).flow ∧
 (certF (instF p d) k f f).pot = (certF (instF p d) k f f).pot ∧
 (certF (instF p d) k f f).side = (certF (instF p d) k f f).side ∧
 (certF (instF p d) k f f).cycle = (certF (instF p d) k f f).cycle ∧
 (certF (instF p d) j f e).flow = (certF (instF p d) j f e).flow ∧
 (certF (instF p d) j f e).pot = (certF (instF p d) j f e).pot ∧
 (certF (instF p d) j f e).side = (certF (instF p d) j f e).side ∧
 (certF (instF p d) j f e).cycle = (certF (instF p d) j f e).cycle ∧
 (certF (instF p d) k d e).flow = (certF (instF p d) k d e).flow ∧
 (certF (instF p d) k d e).pot = (certF (instF p d) k d e).pot ∧
 (certF (instF p d) k d e).side = (certF (instF p d) k d e).side ∧
 (certF (instF p d) k d e).cycle = (certF (instF p d) k d e).cycle ∧
 (True ∧ True ∧ True) ∧
 (instF p d).sup = (instF p d).sup ∧
 (instF p d).arcs = (instF p d).arcs ∧
 x.flow = x.flow ∧
 x.pot = x.pot ∧
 x.side = x.side ∧
 x.cycle = x.cycle ∧
 y.flow = y.flow ∧ y.pot = y.pot ∧ y.side = y.side ∧ y.cycle = y.cycle ∧ True)) ∧
 (decide ((↑g : Int) < (↑(5 : Nat) : Int)) = false → True ∧ (true = true ∧ True) ∧ True)))
theorem CertOne_q (p : List Int) (d : List Int) (e : List Int) (f : List Int) (x : Cert) (y : Cert) (k : Int) (j : Int) (ty0 ty1 ty2 ty3 ty4 ty5 ty6 ty7 ty8 ty9 ty10 ty11 : TypeId) : CertOne_E0 p d e f x y k j ty0 ty1 ty2 ty3 ty4 ty5 ty6 ty7 ty8 ty9 ty10 ty11 = FVcP TT CertOne_g (CertOne_I p d e f x y k j) (CertOne_an p d e f x y k j) Try.f3 [.row 0, .row 1, .row 2, .row 3, .agg [.int .i64 x.kind, .row 4, .row 5, .row 6, .row 7], .agg [.int .i64 y.kind, .row 8, .row 9, .row 10, .row 11], .int .u8 k, .int .u8 j] [(0, .row false ty0 (.ints .u8 p)), (1, .row false ty1 (.ints .u8 d)), (2, .row false ty2 (.ints .u8 e)), (3, .row false ty3 (.ints .u8 f)), (4, .row false ty4 (.ints .i64 x.flow)), (5, .row false ty5 (.ints .i64 x.pot)), (6, .row false ty6 (.bools x.side)), (7, .row false ty7 (.ints .i64 x.cycle)), (8, .row false ty8 (.ints .i64 y.flow)), (9, .row false ty9 (.ints .i64 y.pot)), (10, .row false ty10 (.bools y.side)), (11, .row false ty11 (.ints .i64 y.cycle))] (CertOne_r p d e f x y k j) := by kernel_rfl
theorem CertOne_E (p : List Int) (d : List Int) (e : List Int) (f : List Int) (x : Cert) (y : Cert) (k : Int) (j : Int) (ty0 ty1 ty2 ty3 ty4 ty5 ty6 ty7 ty8 ty9 ty10 ty11 : TypeId) (hp : Bytes p ∧ Bytes d ∧ Bytes e ∧ Bytes f ∧ p.length ≤ maxLen ∧ d.length ≤ maxLen ∧ e.length ≤ maxLen ∧ f.length ≤ maxLen ∧ CertOk x ∧ CertOk y ∧ 0 ≤ k ∧ k ≤ 255 ∧ 0 ≤ j ∧ j ≤ 255) : FVc TT CertOne_g (CertOne_I p d e f x y k j) (CertOne_an p d e f x y k j) Try.f3 [.row 0, .row 1, .row 2, .row 3, .agg [.int .i64 x.kind, .row 4, .row 5, .row 6, .row 7], .agg [.int .i64 y.kind, .row 8, .row 9, .row 10, .row 11], .int .u8 k, .int .u8 j] [(0, .row false ty0 (.ints .u8 p)), (1, .row false ty1 (.ints .u8 d)), (2, .row false ty2 (.ints .u8 e)), (3, .row false ty3 (.ints .u8 f)), (4, .row false ty4 (.ints .i64 x.flow)), (5, .row false ty5 (.ints .i64 x.pot)), (6, .row false ty6 (.bools x.side)), (7, .row false ty7 (.ints .i64 x.cycle)), (8, .row false ty8 (.ints .i64 y.flow)), (9, .row false ty9 (.ints .i64 y.pot)), (10, .row false ty10 (.bools y.side)), (11, .row false ty11 (.ints .i64 y.cycle))] (CertOne_r p d e f x y k j) := by
  refine FVc.of (CertOne_E0 p d e f x y k j ty0 ty1 ty2 ty3 ty4 ty5 ty6 ty7 ty8 ty9 ty10 ty11) (CertOne_q p d e f x y k j ty0 ty1 ty2 ty3 ty4 ty5 ty6 ty7 ty8 ty9 ty10 ty11) ?_
  unfold CertOne_E0
  delta CertOne_a42 CertOne_a41 CertOne_a40 CertOne_a39 CertOne_a38 CertOne_a37 CertOne_a36 CertOne_a35 CertOne_a34 CertOne_a33 CertOne_a32 CertOne_a31 CertOne_a30 CertOne_a29 CertOne_a28 CertOne_a27 CertOne_a26 CertOne_a25 CertOne_a24 CertOne_a23 CertOne_a22 CertOne_a21 CertOne_a20 CertOne_a19 CertOne_a18 CertOne_a17 CertOne_a16 CertOne_a15 CertOne_a14 CertOne_a13 CertOne_a12 CertOne_a11 CertOne_a10 CertOne_a9 CertOne_a8 CertOne_a7 CertOne_a6 CertOne_a5 CertOne_a4 CertOne_a3 CertOne_a2 CertOne_a1 CertOne_a0
  simp only [eq_self, exists_const, forall_const, decide_eq_true_eq, decide_eq_false_iff_not, and_true, true_and, bne_iff_ne, ne_eq, bne_eq_false_iff_eq, Int.toNat_natCast, Bool.not_eq_true', Bool.not_eq_false', beq_iff_eq, beq_eq_false_iff_ne, nilEq_true]
  obtain ⟨b1, b2, b3, b4, b5, b6, b7, b8, hx, hy, k0, k1, j0, j1⟩ := hp
  have hr := instF_right p d
  have hI := instOk_of hr
  have hrs := right_small hr
  obtain ⟨-, -, -, hL⟩ := right_A64 hr
  have c2 := (certF_ok (k := k) (d := d) (e := e) hr (flow_few (instF_nice p d) d).a64).1
  have c3 := (certF_ok (k := j) (d := f) (e := e) hr (flow_few (instF_nice p d) f).a64).1
  have c4 := (certF_ok (k := k) (d := f) (e := f) hr (flow_few (instF_nice p d) f).a64).1
  have ox : CertOk x ∧ InstOk (instF p d) := ⟨hx, hI⟩
  have oy : CertOk y ∧ InstOk (instF p d) := ⟨hy, hI⟩
  have o2 : CertOk (certF (instF p d) k d e) ∧ InstOk (instF p d) := ⟨c2, hI⟩
  have o3 : CertOk (certF (instF p d) j f e) ∧ InstOk (instF p d) := ⟨c3, hI⟩
  have o4 : CertOk (certF (instF p d) k f f) ∧ InstOk (instF p d) := ⟨c4, hI⟩
  have hC : ∀ n, CertOk (certs1 p d e f x y k j n) := fun n => by
    unfold certs1
    match n with
    | 0 => exact hx
    | 1 => exact hy
    | 2 => exact c2
    | 3 => exact c3
    | 4 => exact c4
    | n + 5 => exact hx
  refine ⟨⟨b1, b2, b5, b6⟩, hx, fun _ => trivial, fun _ => ⟨hy, fun _ => trivial, fun _ => ⟨⟨k0, k1, by omega, by omega, hL, b2, b3, b7⟩, ⟨j0, j1, by omega, by omega, hL, b4, b3, b7⟩, ⟨k0, k1, by omega, by omega, hL, b4, b4, b8⟩, 0, ⟨by omega, rfl⟩, ?_⟩⟩⟩
  intro n hn
  refine ⟨fun h1 => ⟨(0, n), ⟨by dsimp only; omega, rfl, rfl⟩, ?_⟩, fun h1 => ?_⟩
  rintro ⟨m, n1⟩ ⟨e1, hm⟩
  dsimp only at e1 hm ⊢
  subst e1
  refine ⟨fun h2 => ?_, fun h2 => ?_⟩
  have hnext : ∃ g' : Nat × Nat, (g'.2 = n1 ∧ g'.1 ≤ g'.2) ∧ g'.2 - g'.1 < n1 - m ∧ (n1 : Int) = (g'.2 : Int) ∧ IntKind.i64.wrap ((m : Int) + 1) = (g'.1 : Int) := ⟨(m + 1, n1), ⟨rfl, by dsimp only; omega⟩, by dsimp only; omega, rfl, by dsimp only; rw [w64 (by omega) (by omega)]; omega⟩
  have s0 : certs1 p d e f x y k j 0 = x := rfl
  have s1 : certs1 p d e f x y k j 1 = y := rfl
  have s2 : certs1 p d e f x y k j 2 = certF (instF p d) k d e := rfl
  have s3 : certs1 p d e f x y k j 3 = certF (instF p d) j f e := rfl
  have s4 : certs1 p d e f x y k j 4 = certF (instF p d) k f f := rfl
  refine ⟨fun g => g = (m, n1), ?_, ?_⟩
  · have cc : checkF (instF p d) (certs1 p d e f x y k j n1) = 0 → checkF (instF p d) (certs1 p d e f x y k j m) = 0 → ∃ g : Nat × Nat, (BothOk (instF p d) (certs1 p d e f x y k j g.2) (certs1 p d e f x y k j g.1) ∧ g = (m, n1)) ∧ (n1 : Int) = (g.2 : Int) ∧ (m : Int) = (g.1 : Int) := fun q1 q2 => ⟨(m, n1), ⟨⟨q1, q2⟩, rfl⟩, rfl, rfl⟩
    refine ⟨by omega, by omega, ?_⟩
    have lm : (0 ≤ (m : Int) ∧ (m : Int) < ((5 : Nat) : Int)) ∧ m < 5 := by omega
    repeat' first
      | exact hnext
      | exact ox
      | exact oy
      | exact o2
      | exact o3
      | exact o4
      | exact lm.1
      | exact lm.2
      | apply And.intro
      | intro h
      | exact cc (by simp only [‹n1 = _›, s0, s1, s2, s3, s4]; assumption) (by simp only [‹m = _›, s0, s1, s2, s3, s4]; assumption)
  · rintro ⟨m2, n2⟩ hB hq
    obtain ⟨rfl, rfl⟩ := Prod.mk.inj hq
    dsimp only at hB ⊢
    have lm : (0 ≤ (m2 : Int) ∧ (m2 : Int) < ((5 : Nat) : Int)) ∧ m2 < 5 := by omega
    have ln : (0 ≤ (n2 : Int) ∧ (n2 : Int) < ((5 : Nat) : Int)) ∧ n2 < 5 := by omega
    obtain ⟨hk, hv⟩ := cert_one (hC n2) (hC m2) hB.one hB.two
    refine ⟨fun g => g = (m2, n2), ?_, ?_⟩
    · refine ⟨ln.1, ln.2, ?_⟩
      repeat' first
        | exact ox
        | exact oy
        | exact o2
        | exact o3
        | exact o4
        | apply And.intro
        | intro h
        | exact ⟨(m2, n2), rfl, ⟨rfl, rfl, by simp only [‹n2 = _›, s0, s1, s2, s3, s4]⟩, by simp only [‹n2 = _›, s0, s1, s2, s3, s4], by simp only [‹n2 = _›, s0, s1, s2, s3, s4]⟩
    rintro ⟨m3, n3⟩ hq
    obtain ⟨rfl, rfl⟩ := Prod.mk.inj hq
    dsimp only
    refine ⟨fun g => g = (m3, n3), ?_, ?_⟩
    · refine ⟨lm.1, lm.2, ?_⟩
      repeat' first
        | exact ox
        | exact oy
        | exact o2
        | exact o3
        | exact o4
        | apply And.intro
        | intro h
        | exact ⟨(m3, n3), rfl, ⟨rfl, rfl, rfl, by simp only [‹m3 = _›, s0, s1, s2, s3, s4]⟩, ⟨by simp only [‹m3 = _›, s0, s1, s2, s3, s4], by simp only [‹m3 = _›, s0, s1, s2, s3, s4]⟩, rfl, rfl⟩
    rintro ⟨m4, n4⟩ hq
    obtain ⟨rfl, rfl⟩ := Prod.mk.inj hq
    dsimp only
    rw [hv, hk]
    refine ⟨ln.1, ln.2, ?_⟩
    repeat' first
      | exact hnext
      | exact lm.1
      | exact lm.2
      | exact fun h => absurd trivial h
      | exact fun h => absurd (by simpa only [‹n4 = _›, ‹m4 = _›, s0, s1, s2, s3, s4] using hk) h
      | exact fun h => absurd rfl h
      | apply And.intro
      | intro h
  · exact ⟨n1 + 1, by omega, by omega, by rw [w64 (by omega) (by omega)]; omega⟩
  · trivial
theorem CertOne_ok : SpecOk Try.prog CertOne_n true (specOf true CertOne_fs) :=
  spec_ok' TT_ok (show GsOk Try.prog CertOne_g from gsOk_cons Inst_ok (gsOk_cons LongC_ok (gsOk_cons CertC_ok (gsOk_cons Check_ok (gsOk_cons ValueC_ok (gsOk_cons known13_ok (gsOk_nil))))))) (by kernel_rfl) mixedOrders Try.func3 rfl rfl (by kernel_rfl) (n := 8) (by decide +kernel) (I := CertOne_IA) (fun _ _ => isOk_nil) (A := CertOne_A)
    (fun args h r hr => by
      unfold CertOne_fs at hr
      split at hr
      · rename_i x_k y_k k j ty0 p ty1 d ty2 e ty3 f ty4 x_f ty5 x_p ty6 x_s ty7 x_y ty8 y_f ty9 y_p ty10 y_s ty11 y_y; cases hr; refine ⟨rfl, fun hp => ?_⟩; have hE := CertOne_E p d e f ⟨x_k, x_f, x_p, x_s, x_y⟩ ⟨y_k, y_f, y_p, y_s, y_y⟩ k j ty0 ty1 ty2 ty3 ty4 ty5 ty6 ty7 ty8 ty9 ty10 ty11 hp; exact hE
      · cases hr)
end Go.Proofs.Ytggblkbecekbdaa
