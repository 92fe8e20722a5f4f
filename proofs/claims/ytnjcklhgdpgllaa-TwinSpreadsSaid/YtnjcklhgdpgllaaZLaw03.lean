/- Part of the proof, Law03. -/
import Derived.Test.YtnjcklhgdpgllaaZSpec
set_option linter.all false
set_option linter.unusedSimpArgs false
set_option linter.unusedVariables false
namespace Go.Ql
open Go Go.RowKit
theorem map_getD_range {α : Type} (l : List α) (d : α) : (List.range l.length).map (fun k => l.getD k d) = l := by
  apply List.ext_getElem?
  intro i
  by_cases hi : i < l.length
  · simp [hi, List.getD_eq_getElem?_getD]
  · simp [hi]
theorem withoutF_sup_len (I : Inst) (nodes offs : List Bool) : (withoutF I nodes offs).sup.length = (keptNodes I nodes).length := by simp [withoutF]
end Go.Ql
