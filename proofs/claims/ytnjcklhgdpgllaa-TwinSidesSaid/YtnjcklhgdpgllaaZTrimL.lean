/- Part of the proof, TrimL. -/
import Derived.Test.YtnjcklhgdpgllaaZOdd
set_option linter.all false
set_option linter.unusedSimpArgs false
set_option linter.unusedVariables false
namespace Go.Ql
open Go Go.Vc
def conA (m : Int) (side : List Bool) (a : Arc) : Option Int := if outA m side a then (if a.cap = inf then none else some a.cap) else if inA m side a then some (-a.low) else some 0
def conS (m : Int) (side : List Bool) : List Arc → Option Int
  | [] => some 0
  | a :: l => (conA m side a).bind fun x => (conS m side l).map fun y => x + y
theorem roomAcc_con (m : Int) (side : List Bool) : ∀ (l : List Arc) (s : Int), roomAcc m side l s = (conS m side l).map (fun y => s + y)
  | [], s => by simp [roomAcc, conS]
  | a :: l, s => by
    rw [roomAcc_cons, conS]
    unfold conA
    split
    · split
      · rfl
      · rw [roomAcc_con m side l]; cases conS m side l <;> simp; omega
    · split
      · rw [roomAcc_con m side l]; cases conS m side l <;> simp; omega
      · rw [roomAcc_con m side l]; cases conS m side l <;> simp
theorem roomC_con (I : Inst) (side : List Bool) : roomC I side = conS I.sup.length side I.arcs := by
  unfold roomC
  rw [roomAcc_con]
  cases conS (I.sup.length : Int) side I.arcs <;> simp
def Few (x : List Int) : Prop := ∀ y ∈ x, 0 ≤ y ∧ y ≤ 7
theorem Few.head {x : List Int} (h : Few x) : 0 ≤ x.headD 0 ∧ x.headD 0 ≤ 7 := by
  cases x with
  | nil => simp
  | cons y x => exact h y (by simp)
theorem Few.tail {x : List Int} (h : Few x) : Few x.tail := fun y hy => h y (List.mem_of_mem_tail hy)
theorem right_A64 {I : Inst} (h : rightF I = 0) : A64a I.arcs ∧ A64c I.arcs ∧ A64 I.sup ∧ L42 I.arcs := by
  refine ⟨fun a ha => ?_, fun a ha => ?_, fun x hx => ?_, fun a ha => ?_⟩
  · have := rightF_arc h ha; unfold I64; omega
  · have := rightF_arc h ha; unfold I64; omega
  · have := (right_within h).1 x hx; unfold I64; omega
  · have := rightF_arc h ha; omega
end Go.Ql
