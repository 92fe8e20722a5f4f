/- Part of the proof, Twin3. -/
import Derived.Test.YtnjcklhgdpgllaaZTwin2
set_option linter.all false
set_option linter.unusedSimpArgs false
set_option linter.unusedVariables false
namespace Go.Ql
open Go Go.Vc
def known16I : Inst := ⟨[0, 0], [⟨0, 1, 1, 2, 0⟩, ⟨0, 1, 0, 4611686018427387904, 0⟩]⟩
theorem known16_right : rightF known16I = 0 := by decide +kernel
theorem known16_spread : spreadF known16I [0, 1] 5 = some [2, 3] := by decide +kernel
theorem known16_twin : twinS known16I = (⟨⟨[0, 0], [⟨0, 1, 1, 4611686018427387904, 0⟩]⟩, 5, known16I, ⟨0, 0⟩, true⟩, 0) := by decide +kernel
end Go.Ql
