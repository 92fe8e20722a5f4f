/- Part of the proof, DA1. -/
import Derived.Test.YtggblkbecekbdaaZTy
set_option linter.all false
set_option linter.unusedSimpArgs false
set_option linter.unusedVariables false
namespace Go.Proofs.Ytggblkbecekbdaa
open Go Go.RowKit Go.Ql Go.Vc
def isNode_r (n : Int) (m : Int) : FRes := { pre := True, res := .bool (decide (0 ≤ n) && decide (n < m)), rows := [], eff := [] }
def isNode_fs : FS := fun args h => match args, h with
  | [.int .i64 n, .int .i64 m], [] => some (isNode_r n m)
  | _, _ => none
def isNode_an (n : Int) (m : Int) : List (Nat × Ann) := []
def isNode_A : List SV → Heap → List (Nat × Ann) := fun _ _ => []
def isNode_g : Specs := []
abbrev isNode_n : Nat := 94
def isNode_I (n : Int) (m : Int) : List (Nat × ISpec) := []
def isNode_IA : List SV → Heap → List (Nat × ISpec) := fun _ _ => []
def rightArc_r (x : Arc) (m : Int) : FRes := { pre := True, res := .int .u16 (rightArcF x m), rows := [], eff := [] }
def rightArc_fs : FS := fun args h => match args, h with
  | [.agg [.int .i64 x_0, .int .i64 x_1, .int .i64 x_2, .int .i64 x_3, .int .i64 x_4], .int .i64 m], [] => some (rightArc_r ⟨x_0, x_1, x_2, x_3, x_4⟩ m)
  | _, _ => none
def rightArc_an (x : Arc) (m : Int) : List (Nat × Ann) := []
def rightArc_A : List SV → Heap → List (Nat × Ann) := fun _ _ => []
def rightArc_g : Specs := [(isNode_n, (true, specOf true isNode_fs))]
abbrev rightArc_n : Nat := 53
def rightArc_I (x : Arc) (m : Int) : List (Nat × ISpec) := []
def rightArc_IA : List SV → Heap → List (Nat × ISpec) := fun _ _ => []
def CopyF1_r (n : Int) : FRes := { pre := True, res := .bool (true), rows := [], eff := [] }
def CopyF1_fs : FS := fun args h => match args, h with
  | [.int .i64 n], [] => some (CopyF1_r n)
  | _, _ => none
def CopyF1_an (n : Int) : List (Nat × Ann) := []
def CopyF1_A : List SV → Heap → List (Nat × Ann) := fun _ _ => []
def CopyF1_g : Specs := []
abbrev CopyF1_n : Nat := 102
def CopyF1_I (n : Int) : List (Nat × ISpec) := []
def CopyF1_IA : List SV → Heap → List (Nat × ISpec) := fun _ _ => []
def CopyF2_r (x : Arc) : FRes := { pre := True, res := .bool (true), rows := [], eff := [] }
def CopyF2_fs : FS := fun args h => match args, h with
  | [.agg [.int .i64 x_0, .int .i64 x_1, .int .i64 x_2, .int .i64 x_3, .int .i64 x_4]], [] => some (CopyF2_r ⟨x_0, x_1, x_2, x_3, x_4⟩)
  | _, _ => none
def CopyF2_an (x : Arc) : List (Nat × Ann) := []
def CopyF2_A : List SV → Heap → List (Nat × Ann) := fun _ _ => []
def CopyF2_g : Specs := []
abbrev CopyF2_n : Nat := 104
def CopyF2_I (x : Arc) : List (Nat × ISpec) := []
def CopyF2_IA : List SV → Heap → List (Nat × ISpec) := fun _ _ => []
end Go.Proofs.Ytggblkbecekbdaa
