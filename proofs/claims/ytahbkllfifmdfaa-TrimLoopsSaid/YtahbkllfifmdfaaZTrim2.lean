/- Part of the proof, Trim2. -/
import Derived.Test.YtahbkllfifmdfaaZTrim
import Derived.Test.YtahbkllfifmdfaaZLaw03
set_option linter.all false
set_option linter.unusedSimpArgs false
set_option linter.unusedVariables false
namespace Go.Ql
open Go Go.Vc
theorem keptF_false {off : List Bool} {n : Nat} (h : ∀ j, j < n → off.getD j false = false) : keptF off n = List.range n := by
  unfold keptF
  rw [keptGo_all n 0 (fun j _ hj => h j (by omega)), List.range_eq_range']
theorem rep_false (m j : Nat) : (List.replicate m false).getD j false = false := by
  rw [List.getD_eq_getElem?_getD, List.getElem?_replicate]; split <;> rfl
theorem without_nodes (I : Inst) (m : Nat) (offs : List Bool) : withoutF I (List.replicate m false) offs = withoutF I [] offs := by
  have e : keptNodes I (List.replicate m false) = keptNodes I [] := by
    unfold keptNodes; rw [keptF_nil, keptF_false (fun j _ => rep_false m j)]
  unfold withoutF; rw [e]
theorem without_arcs (I : Inst) (m : Nat) (nodes : List Bool) : withoutF I nodes (List.replicate m false) = withoutF I nodes [] := by
  have e : keptArcs I (List.replicate m false) = keptArcs I [] := by
    unfold keptArcs; rw [keptF_nil, keptF_false (fun j _ => rep_false m j)]
  unfold withoutF; rw [e]
theorem right_in {I : Inst} (h : rightF I = 0) : ∀ a ∈ I.arcs, a.In I.sup.length := fun a ha => okArc_iff.1 (rightF_arc h ha).1
theorem lowArc_ends (a : Arc) : (lowArc a).src = a.src ∧ (lowArc a).dst = a.dst := by unfold lowArc; split <;> exact ⟨rfl, rfl⟩
def lowI (I : Inst) : Inst := ⟨supAll takeLow I.arcs I.sup, I.arcs.map lowArc⟩
theorem lowI_same {I : Inst} (h : rightF I = 0) (m n : Nat) : withoutF (lowI I) (List.replicate m false) (List.replicate n false) = lowI I := by
  have hs := right_small h
  rw [without_nodes, without_arcs]
  refine withoutF_nothing ?_ ?_ ?_
  · show (supAll takeLow I.arcs I.sup).length ≤ 1000; rw [supAll_len]; omega
  · show (I.arcs.map lowArc).length ≤ 1000; rw [List.length_map]; omega
  · intro a ha
    obtain ⟨b, hb, rfl⟩ := List.mem_map.1 ha
    have := right_in h b hb
    show (lowArc b).In (supAll takeLow I.arcs I.sup).length
    rw [supAll_len]
    unfold Arc.In
    rw [(lowArc_ends b).1, (lowArc_ends b).2]
    exact this
end Go.Ql
