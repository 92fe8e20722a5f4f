/- Part of the proof, DA3. -/
import Derived.Test.YtnjcklhgdpgllaaZDA2
import Derived.Test.YtnjcklhgdpgllaaZSpec
import Derived.Test.YtnjcklhgdpgllaaZTy
set_option linter.all false
set_option linter.unusedSimpArgs false
set_option linter.unusedVariables false
namespace Go.Proofs.Ytnjcklhgdpgllaa
open Go Go.RowKit Go.Ql Go.Vc
def placeI (n : Int) : List Int → Nat → Int
  | [], _ => -1
  | x :: r, k => if x = n then k else placeI n r (k + 1)
theorem placeI_map (n : Int) : ∀ (l : List Nat) (k : Nat), placeI n (l.map Int.ofNat) k = placeGo n l k
  | [], _ => rfl
  | x :: r, k => by simp only [List.map_cons, placeI, placeGo, placeI_map n r]; rfl
def rin_r (n : Int) : FRes := { pre := True, res := .bool (decide (-4398046511104 ≤ n) && decide (n ≤ 4398046511104)), rows := [], eff := [] }
def rin_fs : FS := fun args h => match args, h with
  | [.int .i64 n], [] => some (rin_r n)
  | _, _ => none
def rin_an (n : Int) : List (Nat × Ann) := []
def rin_A : List SV → Heap → List (Nat × Ann) := fun _ _ => []
def rin_g : Specs := []
abbrev rin_n : Nat := 110
def rin_I (n : Int) : List (Nat × ISpec) := []
def rin_IA : List SV → Heap → List (Nat × ISpec) := fun _ _ => []
def rarc_r (x : Arc) (m : Int) : FRes := { pre := True, res := .int .i64 (rightArcF x m), rows := [], eff := [] }
def rarc_fs : FS := fun args h => match args, h with
  | [.agg [.int .i64 x_0, .int .i64 x_1, .int .i64 x_2, .int .i64 x_3, .int .i64 x_4], .int .i64 m], [] => some (rarc_r ⟨x_0, x_1, x_2, x_3, x_4⟩ m)
  | _, _ => none
def rarc_an (x : Arc) (m : Int) : List (Nat × Ann) := []
def rarc_A : List SV → Heap → List (Nat × Ann) := fun _ _ => []
def rarc_g : Specs := [(rin_n, (true, specOf true rin_fs))]
abbrev rarc_n : Nat := 109
def rarc_I (x : Arc) (m : Int) : List (Nat × ISpec) := []
def rarc_IA : List SV → Heap → List (Nat × ISpec) := fun _ _ => []
def rRight_r (I : Inst) : FRes := { pre := True, res := .int .i64 (rightF I), rows := [], eff := [] }
def rRight_fs : FS := fun args h => match args, h with
  | [.agg [.row 0, .row 1]], [(0, .row false ty0 (.ints .i64 I_s)), (1, .row false ty1 (.arcs I_a))] => some (rRight_r ⟨I_s, I_a⟩)
  | _, _ => none
def rRight_an (I : Inst) : List (Nat × Ann) := [(4, { G := (Nat), inv := fun k => ⟨[(1, SV.ptr (2 : Nat) (0 : Nat) (0 : Nat) (0 : Nat)), (3, .int .i64 k)], [(2, Ent.box true 26 [SV.row (0 : Nat), SV.row (1 : Nat)]), (0, Ent.row false 0 (Row.ints IntKind.i64 I.sup)), (1, Ent.row false 0 (Row.arcs I.arcs))], 3⟩, rel := fun k0 k => k ≤ I.arcs.length ∧ arcsErr I.sup.length (I.arcs.drop k) = arcsErr I.sup.length I.arcs, meas := fun k => I.arcs.length - k }),
  (11, { G := (Nat) × (Int), inv := fun ⟨k, s⟩ => ⟨[(1, SV.ptr (2 : Nat) (0 : Nat) (0 : Nat) (0 : Nat)), (5, .int .i64 s), (6, .int .i64 k)], [(2, Ent.box true 26 [SV.row (0 : Nat), SV.row (1 : Nat)]), (0, Ent.row false 0 (Row.ints IntKind.i64 I.sup)), (1, Ent.row false 0 (Row.arcs I.arcs))], 3⟩, rel := fun ⟨k0, s0⟩ ⟨k, s⟩ => k ≤ I.sup.length ∧ supErr (I.sup.drop k) s = supErr I.sup 0 ∧ -(4398046511104 * (k : Int)) ≤ s ∧ s ≤ 4398046511104 * (k : Int), meas := fun ⟨k, s⟩ => I.sup.length - k })]
def rRight_A : List SV → Heap → List (Nat × Ann) := fun args h => match args, h with
  | [.agg [.row 0, .row 1]], [(0, .row false ty0 (.ints .i64 I_s)), (1, .row false ty1 (.arcs I_a))] => rRight_an ⟨I_s, I_a⟩
  | _, _ => []
def rRight_g : Specs := [(rin_n, (true, specOf true rin_fs)), (rarc_n, (true, specOf true rarc_fs))]
abbrev rRight_n : Nat := 68
def rRight_I (I : Inst) : List (Nat × ISpec) := []
def rRight_IA : List SV → Heap → List (Nat × ISpec) := fun _ _ => []
def Nums_r (xs : List Int) (ys : List Int) : FRes := { pre := xs.length ≤ 1000000000, res := .bool (decide (xs = ys)), rows := [], eff := [] }
def Nums_fs : FS := fun args h => match args, h with
  | [.row 0, .row 1], [(0, .row false ty0 (.ints .i64 xs)), (1, .row false ty1 (.ints .i64 ys))] => some (Nums_r xs ys)
  | _, _ => none
def Nums_an (xs : List Int) (ys : List Int) : List (Nat × Ann) := [(4, { G := (Nat), inv := fun k => ⟨[(0, SV.row (0 : Nat)), (1, SV.row (1 : Nat)), (5, .int .i64 k)], [(0, Ent.row false 0 (Row.ints IntKind.i64 xs)), (1, Ent.row false 0 (Row.ints IntKind.i64 ys))], 2⟩, rel := fun k0 k => k ≤ xs.length ∧ xs.take k = ys.take k, meas := fun k => xs.length - k })]
def Nums_A : List SV → Heap → List (Nat × Ann) := fun args h => match args, h with
  | [.row 0, .row 1], [(0, .row false ty0 (.ints .i64 xs)), (1, .row false ty1 (.ints .i64 ys))] => Nums_an xs ys
  | _, _ => []
def Nums_g : Specs := []
abbrev Nums_n : Nat := 32
def Nums_I (xs : List Int) (ys : List Int) : List (Nat × ISpec) := []
def Nums_IA : List SV → Heap → List (Nat × ISpec) := fun _ _ => []
def rSame_r (I : Inst) (J : Inst) : FRes := { pre := I.sup.length ≤ 1000000000 ∧ I.arcs.length ≤ 1000000000, res := .bool (decide (I = J)), rows := [], eff := [] }
def rSame_fs : FS := fun args h => match args, h with
  | [.agg [.row 0, .row 1], .agg [.row 2, .row 3]], [(0, .row false ty0 (.ints .i64 I_s)), (1, .row false ty1 (.arcs I_a)), (2, .row false ty2 (.ints .i64 J_s)), (3, .row false ty3 (.arcs J_a))] => some (rSame_r ⟨I_s, I_a⟩ ⟨J_s, J_a⟩)
  | _, _ => none
def rSame_an (I : Inst) (J : Inst) : List (Nat × Ann) := [(4, { G := (Nat), inv := fun k => ⟨[(2, SV.ptr (4 : Nat) (0 : Nat) (0 : Nat) (0 : Nat)), (3, SV.ptr (5 : Nat) (0 : Nat) (0 : Nat) (0 : Nat)), (5, .int .i64 k)], [(5, Ent.box true 26 [SV.row (2 : Nat), SV.row (3 : Nat)]), (4, Ent.box true 26 [SV.row (0 : Nat), SV.row (1 : Nat)]), (0, Ent.row false 0 (Row.ints IntKind.i64 I.sup)), (1, Ent.row false 0 (Row.arcs I.arcs)), (2, Ent.row false 0 (Row.ints IntKind.i64 J.sup)), (3, Ent.row false 0 (Row.arcs J.arcs))], 6⟩, rel := fun k0 k => k ≤ I.arcs.length ∧ I.arcs.take k = J.arcs.take k, meas := fun k => I.arcs.length - k })]
def rSame_A : List SV → Heap → List (Nat × Ann) := fun args h => match args, h with
  | [.agg [.row 0, .row 1], .agg [.row 2, .row 3]], [(0, .row false ty0 (.ints .i64 I_s)), (1, .row false ty1 (.arcs I_a)), (2, .row false ty2 (.ints .i64 J_s)), (3, .row false ty3 (.arcs J_a))] => rSame_an ⟨I_s, I_a⟩ ⟨J_s, J_a⟩
  | _, _ => []
def rSame_g : Specs := [(Nums_n, (true, specOf true Nums_fs))]
abbrev rSame_n : Nat := 123
def rSame_I (I : Inst) (J : Inst) : List (Nat × ISpec) := []
def rSame_IA : List SV → Heap → List (Nat × ISpec) := fun _ _ => []
def Off_r (l : List Bool) (k : Int) : FRes := { pre := 0 ≤ k, res := .bool (l.getD k.toNat false), rows := [], eff := [] }
def Off_fs : FS := fun args h => match args, h with
  | [.row 0, .int .i64 k], [(0, .row false ty0 (.bools l))] => some (Off_r l k)
  | _, _ => none
def Off_an (l : List Bool) (k : Int) : List (Nat × Ann) := []
def Off_A : List SV → Heap → List (Nat × Ann) := fun _ _ => []
def Off_g : Specs := []
abbrev Off_n : Nat := 143
def Off_I (l : List Bool) (k : Int) : List (Nat × ISpec) := []
def Off_IA : List SV → Heap → List (Nat × ISpec) := fun _ _ => []
def rKept_r (off : List Bool) (n : Int) : FRes := { pre := True, res := .row 1, rows := [.row 3 (.ints .i64 ((keptF off (keptN n)).map Int.ofNat))], eff := [] }
def rKept_fs : FS := fun args h => match args, h with
  | [.row 0, .int .i64 n], [(0, .row false ty0 (.bools off))] => some (rKept_r off n)
  | _, _ => none
def rKept_an (off : List Bool) (n : Int) : List (Nat × Ann) := [(3, { G := (Nat) × (List Int), inv := fun ⟨k, l⟩ => ⟨[(0, SV.row (0 : Nat)), (1, SV.int IntKind.i64 n), (5, SV.row (2 : Nat)), (6, .int .i64 k)], [(2, .row true 3 (.ints .i64 l)), (0, Ent.row false 0 (Row.bools off))], 3⟩, rel := fun ⟨k0, l0⟩ ⟨k, l⟩ => k ≤ keptN n ∧ l.length ≤ k ∧ l ++ (keptGo off (keptN n - k) k).map Int.ofNat = (keptF off (keptN n)).map Int.ofNat, meas := fun ⟨k, l⟩ => keptN n - k })]
def rKept_A : List SV → Heap → List (Nat × Ann) := fun args h => match args, h with
  | [.row 0, .int .i64 n], [(0, .row false ty0 (.bools off))] => rKept_an off n
  | _, _ => []
def rKept_g : Specs := [(Off_n, (true, specOf true Off_fs))]
abbrev rKept_n : Nat := 141
def rKept_I (off : List Bool) (n : Int) : List (Nat × ISpec) := []
def rKept_IA : List SV → Heap → List (Nat × ISpec) := fun _ _ => []
def Place_r (l : List Int) (n : Int) : FRes := { pre := l.length ≤ 1000000000, res := .int .i64 (placeI n l 0), rows := [], eff := [] }
def Place_fs : FS := fun args h => match args, h with
  | [.row 0, .int .i64 n], [(0, .row false ty0 (.ints .i64 l))] => some (Place_r l n)
  | _, _ => none
def Place_an (l : List Int) (n : Int) : List (Nat × Ann) := [(2, { G := (Nat), inv := fun k => ⟨[(0, SV.row (0 : Nat)), (1, SV.int IntKind.i64 n), (5, .int .i64 k)], [(0, Ent.row false 0 (Row.ints IntKind.i64 l))], 1⟩, rel := fun k0 k => k ≤ l.length ∧ placeI n (l.drop k) k = placeI n l 0, meas := fun k => l.length - k })]
def Place_A : List SV → Heap → List (Nat × Ann) := fun args h => match args, h with
  | [.row 0, .int .i64 n], [(0, .row false ty0 (.ints .i64 l))] => Place_an l n
  | _, _ => []
def Place_g : Specs := []
abbrev Place_n : Nat := 142
def Place_I (l : List Int) (n : Int) : List (Nat × ISpec) := []
def Place_IA : List SV → Heap → List (Nat × ISpec) := fun _ _ => []
def Copy_r (I : Inst) : FRes := { pre := I.sup.length ≤ 1000000000 ∧ I.arcs.length ≤ 1000000000, res := .agg [.row 2, .row 3], rows := [.row 2 (.ints .i64 (I).sup), .row 32 (.arcs (I).arcs)], eff := [] }
def Copy_fs : FS := fun args h => match args, h with
  | [.agg [.row 0, .row 1]], [(0, .row false ty0 (.ints .i64 I_s)), (1, .row false ty1 (.arcs I_a))] => some (Copy_r ⟨I_s, I_a⟩)
  | _, _ => none
def Copy_an (I : Inst) : List (Nat × Ann) := []
def Copy_A : List SV → Heap → List (Nat × Ann) := fun _ _ => []
def Copy_g : Specs := [(takeI_n, (true, specOf true takeI_fs)), (takeA_n, (true, specOf true takeA_fs))]
abbrev Copy_n : Nat := 84
def Copy_I (I : Inst) : List (Nat × ISpec) := []
def Copy_IA : List SV → Heap → List (Nat × ISpec) := fun _ _ => []
def Size_r (I : Inst) : FRes := { pre := I.sup.length ≤ 1000000000000000000 ∧ I.arcs.length ≤ 1000000000000000000, res := .int .i64 (I.sup.length + 2 * I.arcs.length), rows := [], eff := [] }
def Size_fs : FS := fun args h => match args, h with
  | [.agg [.row 0, .row 1]], [(0, .row false ty0 (.ints .i64 I_s)), (1, .row false ty1 (.arcs I_a))] => some (Size_r ⟨I_s, I_a⟩)
  | _, _ => none
def Size_an (I : Inst) : List (Nat × Ann) := []
def Size_A : List SV → Heap → List (Nat × Ann) := fun _ _ => []
def Size_g : Specs := []
abbrev Size_n : Nat := 29
def Size_I (I : Inst) : List (Nat × ISpec) := []
def Size_IA : List SV → Heap → List (Nat × ISpec) := fun _ _ => []
def Arcs_r (c : List Int) (many : Int) : FRes := { pre := Bytes c ∧ 1 ≤ many ∧ many ≤ 1000, res := .row 1, rows := [.row 32 (.arcs (arcsF c many))], eff := [] }
def Arcs_fs : FS := fun args h => match args, h with
  | [.row 0, .int .i64 many], [(0, .row false ty0 (.ints .u8 c))] => some (Arcs_r c many)
  | _, _ => none
def Arcs_an (c : List Int) (many : Int) : List (Nat × Ann) := [(3, { G := (Nat) × (List Arc), inv := fun ⟨k, l⟩ => ⟨[(0, SV.row (0 : Nat)), (1, SV.int IntKind.i64 many), (5, SV.row (2 : Nat)), (6, .int .i64 (4 * (k : Int)))], [(2, .row true 32 (.arcs l)), (0, Ent.row false 0 (Row.ints IntKind.u8 c))], 3⟩, rel := fun ⟨k0, l0⟩ ⟨k, l⟩ => k ≤ 18 ∧ l.length ≤ k ∧ l ++ arcsGo c many (18 - k) (4 * k) = arcsF c many, meas := fun ⟨k, l⟩ => 18 - k })]
def Arcs_A : List SV → Heap → List (Nat × Ann) := fun args h => match args, h with
  | [.row 0, .int .i64 many], [(0, .row false ty0 (.ints .u8 c))] => Arcs_an c many
  | _, _ => []
def Arcs_g : Specs := []
abbrev Arcs_n : Nat := 55
def Arcs_I (c : List Int) (many : Int) : List (Nat × ISpec) := []
def Arcs_IA : List SV → Heap → List (Nat × ISpec) := fun _ _ => []
end Go.Proofs.Ytnjcklhgdpgllaa
