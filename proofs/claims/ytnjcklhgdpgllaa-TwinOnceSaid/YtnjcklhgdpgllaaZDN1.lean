/- Part of the proof, DN1. -/
import Derived.Test.YtnjcklhgdpgllaaZFlow
import Derived.Test.YtnjcklhgdpgllaaZTy
set_option linter.all false
set_option linter.unusedSimpArgs false
set_option linter.unusedVariables false
namespace Go.Proofs.Ytnjcklhgdpgllaa
open Go Go.RowKit Go.Ql Go.Vc
def Of_r (n : Int) : FRes := { pre := I64 n, res := .agg (encWide (W n)), rows := [], eff := [] }
def Of_fs : FS := fun args h => match args, h with
  | [.int .i64 n], [] => some (Of_r n)
  | _, _ => none
def Of_an (n : Int) : List (Nat × Ann) := []
def Of_A : List SV → Heap → List (Nat × Ann) := fun _ _ => []
def Of_g : Specs := []
abbrev Of_n : Nat := 17
def Of_I (n : Int) : List (Nat × ISpec) := []
def Of_IA : List SV → Heap → List (Nat × ISpec) := fun _ _ => []
def Add_r (a : Int) (b : Int) : FRes := { pre := I64 a ∧ I64 b, res := .tup [.int .i64 (if I64 (a + b) then a + b else 0), .bool (decide (I64 (a + b)))], rows := [], eff := [] }
def Add_fs : FS := fun args h => match args, h with
  | [.int .i64 a, .int .i64 b], [] => some (Add_r a b)
  | _, _ => none
def Add_an (a : Int) (b : Int) : List (Nat × Ann) := []
def Add_A : List SV → Heap → List (Nat × Ann) := fun _ _ => []
def Add_g : Specs := []
abbrev Add_n : Nat := 65
def Add_I (a : Int) (b : Int) : List (Nat × ISpec) := []
def Add_IA : List SV → Heap → List (Nat × ISpec) := fun _ _ => []
end Go.Proofs.Ytnjcklhgdpgllaa
