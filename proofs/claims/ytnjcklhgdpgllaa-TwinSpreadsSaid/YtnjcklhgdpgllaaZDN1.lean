/- Part of the proof, DN1. -/
import Derived.Test.YtnjcklhgdpgllaaZFlow
import Derived.Test.YtnjcklhgdpgllaaZTy
set_option linter.all false
set_option linter.unusedSimpArgs false
set_option linter.unusedVariables false
namespace Go.Proofs.Ytnjcklhgdpgllaa
open Go Go.RowKit Go.Ql Go.Vc
def Add_r (a : Int) (b : Int) : FRes := { pre := I64 a ∧ I64 b, res := .tup [.int .i64 (if I64 (a + b) then a + b else 0), .bool (decide (I64 (a + b)))], rows := [], eff := [] }
def Add_fs : FS := fun args h => match args, h with
  | [.int .i64 a, .int .i64 b], [] => some (Add_r a b)
  | _, _ => none
def Add_an (a : Int) (b : Int) : List (Nat × Ann) := []
def Add_A : List SV → Heap → List (Nat × Ann) := fun _ _ => []
def Add_g : Specs := []
abbrev Add_n : Nat := 65
def Add_I (a : Int) (b : Int) : List (Nat × ISpec) := []
def Add_IA : List SV → Heap → List (Nat × ISpec) := fun _ _ => []
def rOf_r (n : Int) : FRes := { pre := I64 n, res := .agg (encWide (W n)), rows := [], eff := [] }
def rOf_fs : FS := fun args h => match args, h with
  | [.int .i64 n], [] => some (rOf_r n)
  | _, _ => none
def rOf_an (n : Int) : List (Nat × Ann) := []
def rOf_A : List SV → Heap → List (Nat × Ann) := fun _ _ => []
def rOf_g : Specs := []
abbrev rOf_n : Nat := 104
def rOf_I (n : Int) : List (Nat × ISpec) := []
def rOf_IA : List SV → Heap → List (Nat × ISpec) := fun _ _ => []
def rPlus_r (a : Wide) (b : Wide) : FRes := { pre := a.ok ∧ b.ok, res := .agg (encWide (wplus a b)), rows := [], eff := [] }
def rPlus_fs : FS := fun args h => match args, h with
  | [.agg [.int .i64 a_0, .int .u64 a_1], .agg [.int .i64 b_0, .int .u64 b_1]], [] => some (rPlus_r ⟨a_0, a_1⟩ ⟨b_0, b_1⟩)
  | _, _ => none
def rPlus_an (a : Wide) (b : Wide) : List (Nat × Ann) := []
def rPlus_A : List SV → Heap → List (Nat × Ann) := fun _ _ => []
def rPlus_g : Specs := []
abbrev rPlus_n : Nat := 103
def rPlus_I (a : Wide) (b : Wide) : List (Nat × ISpec) := []
def rPlus_IA : List SV → Heap → List (Nat × ISpec) := fun _ _ => []
def rLess_r (a : Wide) : FRes := { pre := a.ok, res := .agg (encWide (W (-a.v))), rows := [], eff := [] }
def rLess_fs : FS := fun args h => match args, h with
  | [.agg [.int .i64 a_0, .int .u64 a_1]], [] => some (rLess_r ⟨a_0, a_1⟩)
  | _, _ => none
def rLess_an (a : Wide) : List (Nat × Ann) := []
def rLess_A : List SV → Heap → List (Nat × Ann) := fun _ _ => []
def rLess_g : Specs := [(rPlus_n, (true, specOf true rPlus_fs))]
abbrev rLess_n : Nat := 137
def rLess_I (a : Wide) : List (Nat × ISpec) := []
def rLess_IA : List SV → Heap → List (Nat × ISpec) := fun _ _ => []
def rMinus_r (a : Wide) (b : Wide) : FRes := { pre := a.ok ∧ b.ok, res := .agg (encWide (wminus a b)), rows := [], eff := [] }
def rMinus_fs : FS := fun args h => match args, h with
  | [.agg [.int .i64 a_0, .int .u64 a_1], .agg [.int .i64 b_0, .int .u64 b_1]], [] => some (rMinus_r ⟨a_0, a_1⟩ ⟨b_0, b_1⟩)
  | _, _ => none
def rMinus_an (a : Wide) (b : Wide) : List (Nat × Ann) := []
def rMinus_A : List SV → Heap → List (Nat × Ann) := fun _ _ => []
def rMinus_g : Specs := [(rPlus_n, (true, specOf true rPlus_fs)), (rLess_n, (true, specOf true rLess_fs))]
abbrev rMinus_n : Nat := 108
def rMinus_I (a : Wide) (b : Wide) : List (Nat × ISpec) := []
def rMinus_IA : List SV → Heap → List (Nat × ISpec) := fun _ _ => []
def rCompare_r (a : Wide) (b : Wide) : FRes := { pre := a.ok ∧ b.ok, res := .int .i64 (wcmp a b), rows := [], eff := [] }
def rCompare_fs : FS := fun args h => match args, h with
  | [.agg [.int .i64 a_0, .int .u64 a_1], .agg [.int .i64 b_0, .int .u64 b_1]], [] => some (rCompare_r ⟨a_0, a_1⟩ ⟨b_0, b_1⟩)
  | _, _ => none
def rCompare_an (a : Wide) (b : Wide) : List (Nat × Ann) := []
def rCompare_A : List SV → Heap → List (Nat × Ann) := fun _ _ => []
def rCompare_g : Specs := []
abbrev rCompare_n : Nat := 107
def rCompare_I (a : Wide) (b : Wide) : List (Nat × ISpec) := []
def rCompare_IA : List SV → Heap → List (Nat × ISpec) := fun _ _ => []
def rBack_r (a : Wide) : FRes := { pre := a.ok, res := .tup [.int .i64 (if I64 a.v then a.v else 0), .bool (decide (I64 a.v))], rows := [], eff := [] }
def rBack_fs : FS := fun args h => match args, h with
  | [.agg [.int .i64 a_0, .int .u64 a_1]], [] => some (rBack_r ⟨a_0, a_1⟩)
  | _, _ => none
def rBack_an (a : Wide) : List (Nat × Ann) := []
def rBack_A : List SV → Heap → List (Nat × Ann) := fun _ _ => []
def rBack_g : Specs := [(rOf_n, (true, specOf true rOf_fs)), (rCompare_n, (true, specOf true rCompare_fs))]
abbrev rBack_n : Nat := 102
def rBack_I (a : Wide) : List (Nat × ISpec) := []
def rBack_IA : List SV → Heap → List (Nat × ISpec) := fun _ _ => []
def rAdd_r (a : Int) (b : Int) : FRes := { pre := I64 a ∧ I64 b, res := .tup [.int .i64 (if I64 (a + b) then a + b else 0), .bool (decide (I64 (a + b)))], rows := [], eff := [] }
def rAdd_fs : FS := fun args h => match args, h with
  | [.int .i64 a, .int .i64 b], [] => some (rAdd_r a b)
  | _, _ => none
def rAdd_an (a : Int) (b : Int) : List (Nat × Ann) := []
def rAdd_A : List SV → Heap → List (Nat × Ann) := fun _ _ => []
def rAdd_g : Specs := [(rOf_n, (true, specOf true rOf_fs)), (rPlus_n, (true, specOf true rPlus_fs)), (rBack_n, (true, specOf true rBack_fs))]
abbrev rAdd_n : Nat := 66
def rAdd_I (a : Int) (b : Int) : List (Nat × ISpec) := []
def rAdd_IA : List SV → Heap → List (Nat × ISpec) := fun _ _ => []
def rSub_r (a : Int) (b : Int) : FRes := { pre := I64 a ∧ I64 b, res := .tup [.int .i64 (if I64 (a - b) then a - b else 0), .bool (decide (I64 (a - b)))], rows := [], eff := [] }
def rSub_fs : FS := fun args h => match args, h with
  | [.int .i64 a, .int .i64 b], [] => some (rSub_r a b)
  | _, _ => none
def rSub_an (a : Int) (b : Int) : List (Nat × Ann) := []
def rSub_A : List SV → Heap → List (Nat × Ann) := fun _ _ => []
def rSub_g : Specs := [(rOf_n, (true, specOf true rOf_fs)), (rMinus_n, (true, specOf true rMinus_fs)), (rBack_n, (true, specOf true rBack_fs))]
abbrev rSub_n : Nat := 125
def rSub_I (a : Int) (b : Int) : List (Nat × ISpec) := []
def rSub_IA : List SV → Heap → List (Nat × ISpec) := fun _ _ => []
end Go.Proofs.Ytnjcklhgdpgllaa
