/- Part of the proof, Cert. -/
import Derived.Test.YtggblkbecekbdaaZTrimL
import Derived.Test.YtggblkbecekbdaaZRay
set_option linter.all false
set_option linter.unusedSimpArgs false
set_option linter.unusedVariables false
namespace Go.Ql
open Go Go.Vc
def zerosF (l : List Int) : Nat := (l.filter fun x => decide (x = 0)).length
def plainF (c : Cert) : Bool :=
  if c.kind = 1 then decide (c.side.length = 0) && decide (c.cycle.length = 0)
  else if c.kind = 2 then decide (c.flow.length = 0) && decide (c.pot.length = 0) && decide (c.cycle.length = 0)
  else if c.kind = 3 then decide (c.pot.length = 0) && decide (c.side.length = 0)
  else false
def checkF (I : Inst) (c : Cert) : Int :=
  if rightF I ≠ 0 then rightF I else if plainF c = false then 36
  else if c.kind = 1 then slackF I c.flow c.pot
  else if c.kind = 2 then provesF I c.side
  else if fitsF I c.flow ≠ 0 then fitsF I c.flow else turnsF I c.cycle
def valueW (I : Inst) (c : Cert) : Wide := if c.kind = 1 then W (costF I c.flow) else ⟨0, 0⟩
def CertOk (c : Cert) : Prop := A64 c.flow ∧ A64 c.pot ∧ c.flow.length ≤ 140737488351232 ∧ c.pot.length ≤ 140737488351232 ∧ c.side.length ≤ 140737488351232 ∧ c.cycle.length ≤ 140737488351232
def InstOk (I : Inst) : Prop := I.sup.length ≤ 10000 ∧ I.arcs.length ≤ 10000 ∧ A64 I.sup ∧ A64a I.arcs ∧ A64c I.arcs
theorem plainF_kind {c : Cert} (h : plainF c = true) : c.kind = 1 ∨ c.kind = 2 ∨ c.kind = 3 := by
  unfold plainF at h
  by_cases h1 : c.kind = 1
  · exact .inl h1
  · by_cases h2 : c.kind = 2
    · exact .inr (.inl h2)
    · by_cases h3 : c.kind = 3
      · exact .inr (.inr h3)
      · rw [if_neg h1, if_neg h2, if_neg h3] at h; cases h
theorem zerosF_nil : zerosF [] = 0 := rfl
theorem zerosF_cons (x : Int) (l : List Int) : zerosF (x :: l) = (if x = 0 then 1 else 0) + zerosF l := by
  unfold zerosF
  rw [List.filter_cons]
  by_cases h : x = 0 <;> simp [h]; omega
theorem zerosF_snoc (l : List Int) (x : Int) : zerosF (l ++ [x]) = zerosF l + (if x = 0 then 1 else 0) := by
  unfold zerosF
  rw [List.filter_append]
  by_cases h : x = 0 <;> simp [h]
theorem zerosF_le (l : List Int) : zerosF l ≤ l.length := List.length_filter_le _ _
end Go.Ql
