/- Part of the proof, TrimL. -/
import Derived.Test.YtggblkbecekbdaaZOdd
set_option linter.all false
set_option linter.unusedSimpArgs false
set_option linter.unusedVariables false
namespace Go.Ql
open Go Go.Vc
def Few (x : List Int) : Prop := ∀ y ∈ x, 0 ≤ y ∧ y ≤ 7
theorem Few.head {x : List Int} (h : Few x) : 0 ≤ x.headD 0 ∧ x.headD 0 ≤ 7 := by
  cases x with
  | nil => simp
  | cons y x => exact h y (by simp)
theorem Few.tail {x : List Int} (h : Few x) : Few x.tail := fun y hy => h y (List.mem_of_mem_tail hy)
theorem Few.a64 {x : List Int} (h : Few x) : A64 x := fun y hy => by have := h y hy; unfold I64; omega
theorem flow_few {I : Inst} {m : Int} (h : ∀ a ∈ I.arcs, a.Nice m) (d : List Int) : Few (flowF I d) := fun y hy => by
  unfold flowF at hy
  rw [List.mem_map] at hy
  obtain ⟨k, hk, rfl⟩ := hy
  have hk' : k < I.arcs.length := by simpa using hk
  obtain ⟨a, ha⟩ : ∃ a, I.arcs[k]? = some a := ⟨_, List.getElem?_eq_getElem hk'⟩
  rw [show I.arcs.getD k default = a by rw [List.getD_eq_getElem?_getD, ha]; rfl]
  have := useOf_ok (d := d) (k := k) (h a (List.mem_of_getElem? ha))
  omega
theorem right_A64 {I : Inst} (h : rightF I = 0) : A64a I.arcs ∧ A64c I.arcs ∧ A64 I.sup ∧ L42 I.arcs := by
  refine ⟨fun a ha => ?_, fun a ha => ?_, fun x hx => ?_, fun a ha => ?_⟩
  · have := rightF_arc h ha; unfold I64; omega
  · have := rightF_arc h ha; unfold I64; omega
  · have := (right_within h).1 x hx; unfold I64; omega
  · have := rightF_arc h ha; omega
end Go.Ql
