/- Part of the proof, Twin3. -/
import Derived.Test.YtnjcklhgdpgllaaZTwin2
set_option linter.all false
set_option linter.unusedSimpArgs false
set_option linter.unusedVariables false
namespace Go.Ql
open Go Go.Vc
theorem twinS_small {I : Inst} (h1 : I.sup.length ≤ 1000000) (h2 : I.arcs.length ≤ 1000000) : StepSmall (twinS I).1 := by
  have hw := withoutF_len ⟨I.sup, wA I.arcs (firsts I.arcs I.arcs.length).length⟩ [] (outB I.arcs (firsts I.arcs I.arcs.length).length)
  unfold twinS twinI doneF StepSmall StepD.none
  split
  · simp
  · split
    · split
      · exact ⟨by dsimp only; omega, by dsimp only; omega, h1, h2⟩
      · simp
    · exact ⟨h1, h2, by simp, by simp⟩
theorem twinS_err (I : Inst) : IntKind.i64.wrap (twinS I).2 = (twinS I).2 := by
  have h := rightF_small' I
  have : (twinS I).2 = rightF I ∨ (twinS I).2 = 40 ∨ (twinS I).2 = 0 := by
    unfold twinS doneF
    split
    · exact .inl rfl
    · split
      · split
        · exact .inr (.inr rfl)
        · exact .inr (.inl rfl)
      · exact .inr (.inr rfl)
  rcases this with h1 | h1 | h1 <;> rw [h1] <;> exact w64 (by omega) (by omega)
theorem groupsF_rows {I : Inst} (h2 : I.arcs.length ≤ 1000000) : (groupsF I.arcs).length ≤ 1000000 ∧ ∀ l : List Int, List.Mem l (groupsF I.arcs) → l.length ≤ 1000000 := by
  have h := groupsTo_len I.arcs I.arcs.length
  have h3 := firsts_len I.arcs I.arcs.length
  refine ⟨by unfold groupsF; omega, fun l hl => ?_⟩
  have hl2 : l ∈ groupsF I.arcs := hl
  unfold groupsF at hl2
  rw [groupsTo_eq] at hl2
  obtain ⟨k, _, rfl⟩ := List.mem_map.1 hl2
  have := memsK_len I.arcs k I.arcs.length
  omega
theorem spreadGo_len (I : Inst) : ∀ (l : List Int) (left : Int) (out x : List Int), spreadGo I l left out = some x → x.length = out.length + l.length
  | [], left, out, x, h => by cases h; rfl
  | a :: l, left, out, x, h => by
    rw [spreadGo] at h
    split at h
    · have := spreadGo_len I l _ _ _ h
      rw [this]; simp; omega
    · cases h
theorem spreadF_len {I : Inst} {l : List Int} {n : Int} {x : List Int} (h : spreadF I l n = some x) : x.length = l.length := by
  unfold spreadF at h
  split at h
  · cases h
  · obtain ⟨s, _, h2⟩ := Option.bind_eq_some_iff.1 h
    rw [spreadGo_len I l s [] x h2]; simp
theorem spreadF_bd (I : Inst) (l : List Int) (n : Int) : ((spreadF I l n).getD []).length ≤ l.length := by
  cases h : spreadF I l n
  · exact Nat.zero_le _
  · exact Nat.le_of_eq (spreadF_len h)
def known16I : Inst := ⟨[0, 0], [⟨0, 1, 1, 2, 0⟩, ⟨0, 1, 0, 4611686018427387904, 0⟩]⟩
theorem known16_right : rightF known16I = 0 := by decide +kernel
theorem known16_spread : spreadF known16I [0, 1] 5 = some [2, 3] := by decide +kernel
theorem known16_twin : twinS known16I = (⟨⟨[0, 0], [⟨0, 1, 1, 4611686018427387904, 0⟩]⟩, 5, known16I, ⟨0, 0⟩, true⟩, 0) := by decide +kernel
theorem take_snoc_eq {α : Type} {G H : List α} {k : Nat} {x : α} (hG : G[k]? = some x) (hH : H[k]? = some x) (h : G.take k = H.take k) : G.take (k + 1) = H.take (k + 1) := by
  rw [List.take_succ, List.take_succ, hG, hH, h]
end Go.Ql
