/- Part of the proof, DN1. -/
import Derived.Test.YtggblkbecekbdaaZFlow
import Derived.Test.YtggblkbecekbdaaZTy
set_option linter.all false
set_option linter.unusedSimpArgs false
set_option linter.unusedVariables false
namespace Go.Proofs.Ytggblkbecekbdaa
open Go Go.RowKit Go.Ql Go.Vc
abbrev Add64_n : Nat := 43
def Add64_spec : Vc.Spec := fun args hp nk K => match args with
  | [.int .u64 x, .int .u64 y, .int .u64 c] => (0 ≤ x ∧ 0 ≤ y ∧ 0 ≤ c ∧ c ≤ 1) ∧ K (.tup [.int .u64 ((x + y + c) % 18446744073709551616), .int .u64 ((x + y + c) / 18446744073709551616)]) hp nk
  | _ => False
abbrev Sub64_n : Nat := 76
def Sub64_spec : Vc.Spec := fun args hp nk K => match args with
  | [.int .u64 x, .int .u64 y, .int .u64 c] => (0 ≤ x ∧ 0 ≤ y ∧ y ≤ 18446744073709551615 ∧ 0 ≤ c ∧ c ≤ 1) ∧ K (.tup [.int .u64 ((x - y - c) % 18446744073709551616), .int .u64 (if x < y + c then 1 else 0)]) hp nk
  | _ => False
def Mul64_r (x : Int) (y : Int) : FRes := { pre := U64 x ∧ U64 y, res := .tup [.int .u64 (x * y / 18446744073709551616), .int .u64 ((x * y) % 18446744073709551616)], rows := [], eff := [] }
def Mul64_fs : FS := fun args h => match args, h with
  | [.int .u64 x, .int .u64 y], [] => some (Mul64_r x y)
  | _, _ => none
def Mul64_an (x : Int) (y : Int) : List (Nat × Ann) := []
def Mul64_A : List SV → Heap → List (Nat × Ann) := fun _ _ => []
def Mul64_g : Specs := []
abbrev Mul64_n : Nat := 44
def Mul64_I (x : Int) (y : Int) : List (Nat × ISpec) := []
def Mul64_IA : List SV → Heap → List (Nat × ISpec) := fun _ _ => []
def size_r (n : Int) : FRes := { pre := I64 n, res := .int .u64 (if n < 0 then -n else n), rows := [], eff := [] }
def size_fs : FS := fun args h => match args, h with
  | [.int .i64 n], [] => some (size_r n)
  | _, _ => none
def size_an (n : Int) : List (Nat × Ann) := []
def size_A : List SV → Heap → List (Nat × Ann) := fun _ _ => []
def size_g : Specs := []
abbrev size_n : Nat := 45
def size_I (n : Int) : List (Nat × ISpec) := []
def size_IA : List SV → Heap → List (Nat × ISpec) := fun _ _ => []
def Of_r (n : Int) : FRes := { pre := I64 n, res := .agg (encWide (W n)), rows := [], eff := [] }
def Of_fs : FS := fun args h => match args, h with
  | [.int .i64 n], [] => some (Of_r n)
  | _, _ => none
def Of_an (n : Int) : List (Nat × Ann) := []
def Of_A : List SV → Heap → List (Nat × Ann) := fun _ _ => []
def Of_g : Specs := []
abbrev Of_n : Nat := 26
def Of_I (n : Int) : List (Nat × ISpec) := []
def Of_IA : List SV → Heap → List (Nat × ISpec) := fun _ _ => []
def Plus_r (a : Wide) (b : Wide) : FRes := { pre := a.ok ∧ b.ok, res := .agg (encWide (wplus a b)), rows := [], eff := [] }
def Plus_fs : FS := fun args h => match args, h with
  | [.agg [.int .i64 a_0, .int .u64 a_1], .agg [.int .i64 b_0, .int .u64 b_1]], [] => some (Plus_r ⟨a_0, a_1⟩ ⟨b_0, b_1⟩)
  | _, _ => none
def Plus_an (a : Wide) (b : Wide) : List (Nat × Ann) := []
def Plus_A : List SV → Heap → List (Nat × Ann) := fun _ _ => []
def Plus_g : Specs := [(Add64_n, (true, Add64_spec))]
abbrev Plus_n : Nat := 25
def Plus_I (a : Wide) (b : Wide) : List (Nat × ISpec) := []
def Plus_IA : List SV → Heap → List (Nat × ISpec) := fun _ _ => []
def Minus_r (a : Wide) (b : Wide) : FRes := { pre := a.ok ∧ b.ok, res := .agg (encWide (wminus a b)), rows := [], eff := [] }
def Minus_fs : FS := fun args h => match args, h with
  | [.agg [.int .i64 a_0, .int .u64 a_1], .agg [.int .i64 b_0, .int .u64 b_1]], [] => some (Minus_r ⟨a_0, a_1⟩ ⟨b_0, b_1⟩)
  | _, _ => none
def Minus_an (a : Wide) (b : Wide) : List (Nat × Ann) := []
def Minus_A : List SV → Heap → List (Nat × Ann) := fun _ _ => []
def Minus_g : Specs := [(Sub64_n, (true, Sub64_spec))]
abbrev Minus_n : Nat := 46
def Minus_I (a : Wide) (b : Wide) : List (Nat × ISpec) := []
def Minus_IA : List SV → Heap → List (Nat × ISpec) := fun _ _ => []
def Times_r (a : Int) (b : Int) : FRes := { pre := I64 a ∧ I64 b, res := .agg (encWide (W (a * b))), rows := [], eff := [] }
def Times_fs : FS := fun args h => match args, h with
  | [.int .i64 a, .int .i64 b], [] => some (Times_r a b)
  | _, _ => none
def Times_an (a : Int) (b : Int) : List (Nat × Ann) := []
def Times_A : List SV → Heap → List (Nat × Ann) := fun _ _ => []
def Times_g : Specs := [(size_n, (true, specOf true size_fs)), (Mul64_n, (true, specOf true Mul64_fs)), (Minus_n, (true, specOf true Minus_fs))]
abbrev Times_n : Nat := 27
def Times_I (a : Int) (b : Int) : List (Nat × ISpec) := []
def Times_IA : List SV → Heap → List (Nat × ISpec) := fun _ _ => []
def nan1_r (n : Int) : FRes := { pre := True, res := .bool (false), rows := [], eff := [] }
def nan1_fs : FS := fun args h => match args, h with
  | [.int .i64 n], [] => some (nan1_r n)
  | _, _ => none
def nan1_an (n : Int) : List (Nat × Ann) := []
def nan1_A : List SV → Heap → List (Nat × Ann) := fun _ _ => []
def nan1_g : Specs := []
abbrev nan1_n : Nat := 61
def nan1_I (n : Int) : List (Nat × ISpec) := []
def nan1_IA : List SV → Heap → List (Nat × ISpec) := fun _ _ => []
def nan2_r (n : Int) : FRes := { pre := True, res := .bool (false), rows := [], eff := [] }
def nan2_fs : FS := fun args h => match args, h with
  | [.int .u64 n], [] => some (nan2_r n)
  | _, _ => none
def nan2_an (n : Int) : List (Nat × Ann) := []
def nan2_A : List SV → Heap → List (Nat × Ann) := fun _ _ => []
def nan2_g : Specs := []
abbrev nan2_n : Nat := 62
def nan2_I (n : Int) : List (Nat × ISpec) := []
def nan2_IA : List SV → Heap → List (Nat × ISpec) := fun _ _ => []
def cmp1_r (a : Int) (b : Int) : FRes := { pre := True, res := .int .i64 (if a < b then -1 else if b < a then 1 else 0), rows := [], eff := [] }
def cmp1_fs : FS := fun args h => match args, h with
  | [.int .i64 a, .int .i64 b], [] => some (cmp1_r a b)
  | _, _ => none
def cmp1_an (a : Int) (b : Int) : List (Nat × Ann) := []
def cmp1_A : List SV → Heap → List (Nat × Ann) := fun _ _ => []
def cmp1_g : Specs := [(nan1_n, (true, specOf true nan1_fs))]
abbrev cmp1_n : Nat := 35
def cmp1_I (a : Int) (b : Int) : List (Nat × ISpec) := []
def cmp1_IA : List SV → Heap → List (Nat × ISpec) := fun _ _ => []
def cmp2_r (a : Int) (b : Int) : FRes := { pre := True, res := .int .i64 (if a < b then -1 else if b < a then 1 else 0), rows := [], eff := [] }
def cmp2_fs : FS := fun args h => match args, h with
  | [.int .u64 a, .int .u64 b], [] => some (cmp2_r a b)
  | _, _ => none
def cmp2_an (a : Int) (b : Int) : List (Nat × Ann) := []
def cmp2_A : List SV → Heap → List (Nat × Ann) := fun _ _ => []
def cmp2_g : Specs := [(nan2_n, (true, specOf true nan2_fs))]
abbrev cmp2_n : Nat := 36
def cmp2_I (a : Int) (b : Int) : List (Nat × ISpec) := []
def cmp2_IA : List SV → Heap → List (Nat × ISpec) := fun _ _ => []
def Compare_r (a : Wide) (b : Wide) : FRes := { pre := a.ok ∧ b.ok, res := .int .i64 (wcmp a b), rows := [], eff := [] }
def Compare_fs : FS := fun args h => match args, h with
  | [.agg [.int .i64 a_0, .int .u64 a_1], .agg [.int .i64 b_0, .int .u64 b_1]], [] => some (Compare_r ⟨a_0, a_1⟩ ⟨b_0, b_1⟩)
  | _, _ => none
def Compare_an (a : Wide) (b : Wide) : List (Nat × Ann) := []
def Compare_A : List SV → Heap → List (Nat × Ann) := fun _ _ => []
def Compare_g : Specs := [(cmp1_n, (true, specOf true cmp1_fs)), (cmp2_n, (true, specOf true cmp2_fs))]
abbrev Compare_n : Nat := 18
def Compare_I (a : Wide) (b : Wide) : List (Nat × ISpec) := []
def Compare_IA : List SV → Heap → List (Nat × ISpec) := fun _ _ => []
def Back_r (a : Wide) : FRes := { pre := a.ok, res := .tup [.int .i64 (if I64 a.v then a.v else 0), .bool (decide (I64 a.v))], rows := [], eff := [] }
def Back_fs : FS := fun args h => match args, h with
  | [.agg [.int .i64 a_0, .int .u64 a_1]], [] => some (Back_r ⟨a_0, a_1⟩)
  | _, _ => none
def Back_an (a : Wide) : List (Nat × Ann) := []
def Back_A : List SV → Heap → List (Nat × Ann) := fun _ _ => []
def Back_g : Specs := [(Of_n, (true, specOf true Of_fs))]
abbrev Back_n : Nat := 21
def Back_I (a : Wide) : List (Nat × ISpec) := []
def Back_IA : List SV → Heap → List (Nat × ISpec) := fun _ _ => []
end Go.Proofs.Ytggblkbecekbdaa
