/- Part of the proof, DS12. -/
import Derived.Test.YtahbkllfifmdfaaGreatZDR12
import Derived.Test.YtahbkllfifmdfaaGreatZLaw10
import Derived.Test.YtahbkllfifmdfaaGreatZTy
set_option linter.all false
set_option linter.unusedSimpArgs false
set_option linter.unusedVariables false
namespace Go.Proofs.YtahbkllfifmdfaaGreat
open Go Go.RowKit Go.Ql Go.Vc
def roundM (c : List Int) (n : Nat) : Nat := if c.length = 0 then 1 else 1 + (c.getD 0 0).toNat % n
def roundC (d : List Int) (k : Nat) : Int := if k < d.length then d.getD k 0 % 9 - 6 else 0
def roundP (c : List Int) (k : Nat) : Int := if 1 < c.length ∧ c.getD 1 0 % 8 = 0 ∧ k = 0 then 5 else inf
def roundA (c d : List Int) (m k : Nat) : Arc := ⟨k, ((k + 1) % m : Nat), 0, roundP c k, roundC d k⟩
def roundAs (c d : List Int) (m k : Nat) : List Arc := (List.range k).map (roundA c d m)
def roundLs (b k : Nat) : List Int := (List.range k).map fun j : Nat => ((b + j : Nat) : Int)
def roundI (c d : List Int) : Inst := ⟨(instF c d).sup, (instF c d).arcs ++ roundAs c d (roundM c (instF c d).sup.length) (roundM c (instF c d).sup.length)⟩
def roundL (c d : List Int) : List Int := roundLs (instF c d).arcs.length (roundM c (instF c d).sup.length)
theorem roundAs_snoc (c d : List Int) (m k : Nat) : roundAs c d m (k + 1) = roundAs c d m k ++ [roundA c d m k] := by simp [roundAs, List.range_succ]
theorem roundLs_snoc (b k : Nat) : roundLs b (k + 1) = roundLs b k ++ [((b + k : Nat) : Int)] := by simp [roundLs, List.range_succ]
theorem roundAs_len (c d : List Int) (m k : Nat) : (roundAs c d m k).length = k := by simp [roundAs]
theorem roundLs_len (b k : Nat) : (roundLs b k).length = k := by simp [roundLs]
theorem roundM_pos (c : List Int) (n : Nat) : 1 ≤ roundM c n := by unfold roundM; split <;> omega
theorem roundM_le (c : List Int) {n : Nat} (h : 0 < n) : roundM c n ≤ n := by
  unfold roundM
  split
  · omega
  · have := Nat.mod_lt (c.getD 0 0).toNat h; omega
theorem roundA_nice (c d : List Int) {m k n : Nat} (hk : k < m) (hm : m ≤ n) : (roundA c d m k).Nice (n : Int) := by
  have h1 : (k + 1) % m < m := Nat.mod_lt _ (by omega)
  have h2 : roundP c k = 5 ∨ roundP c k = 4611686018427387904 := by unfold roundP inf; split <;> simp
  have h3 : -6 ≤ roundC d k ∧ roundC d k ≤ 2 := by unfold roundC; split <;> omega
  unfold roundA
  constructor <;> dsimp only <;> omega
theorem roundI_sup (c d : List Int) : (roundI c d).sup = (instF c d).sup := rfl
theorem roundI_arcs (c d : List Int) : (roundI c d).arcs = (instF c d).arcs ++ roundAs c d (roundM c (instF c d).sup.length) (roundM c (instF c d).sup.length) := rfl
theorem roundI_nice (c d : List Int) : ∀ a ∈ (roundI c d).arcs, a.Nice (nOf d) := fun a ha => by
  have l1 := instF_sup c d
  have l2 := nOf_pos d
  rw [roundI_arcs, List.mem_append] at ha
  rcases ha with ha | ha
  · exact instF_nice c d a ha
  · unfold roundAs at ha
    rw [List.mem_map] at ha
    obtain ⟨k, hk, rfl⟩ := ha
    have := roundM_le c (show 0 < (instF c d).sup.length by omega)
    exact roundA_nice c d (List.mem_range.1 hk) (by omega)
theorem roundL_len (c d : List Int) : (roundL c d).length = roundM c (instF c d).sup.length := roundLs_len _ _
theorem roundI_len (c d : List Int) : (roundI c d).arcs.length = (instF c d).arcs.length + (roundL c d).length := by rw [roundI_arcs, List.length_append, roundAs_len, roundL_len]
theorem roundL_le (c d : List Int) : (roundL c d).length ≤ 7 := by
  have l1 := instF_sup c d
  have l2 := nOf_pos d
  have l3 := nOf_le d
  have := roundM_le c (show 0 < (instF c d).sup.length by omega)
  rw [roundL_len]; omega
theorem roundI_flow (c d e : List Int) : ∀ y ∈ flowF (roundI c d) e, 0 ≤ y ∧ y ≤ 5 := fun y hy => by
  unfold flowF at hy
  rw [List.mem_map] at hy
  obtain ⟨k, hk, rfl⟩ := hy
  have hk := List.mem_range.1 hk
  have hm : (roundI c d).arcs.getD k default ∈ (roundI c d).arcs := by rw [List.getD_eq_getElem?_getD, List.getElem?_eq_getElem hk]; exact List.getElem_mem hk
  exact useOf_ok (roundI_nice c d _ hm)
theorem roundI_A64 (c d e : List Int) : A64 (flowF (roundI c d) e) := fun y hy => by have := roundI_flow c d e y hy; unfold I64; omega
theorem roundI_right (c d : List Int) : rightF (roundI c d) = 0 := by
  have l1 := instF_sup c d
  have l3 := nOf_le d
  have l4 := instF_arcs c d
  have l5 := roundI_len c d
  have l6 := roundL_le c d
  exact right_sup (I := roundI c d) rfl (by rw [roundI_sup]; omega) (by omega) (fun a ha => by rw [roundI_sup, l1]; exact roundI_nice c d a ha) ((instF_within c d).more (by omega)) (instF_sum c d)
def Round_r (c : List Int) (d : List Int) : FRes := { pre := Bytes c ∧ Bytes d ∧ c.length ≤ maxLen ∧ d.length ≤ maxLen, res := .tup [.agg [.row 2, .row 3], .row 4], rows := [.row 2 (.ints .i64 (roundI c d).sup), .row 53 (.arcs (roundI c d).arcs), .row 3 (.ints .i64 (roundL c d))], eff := [] }
def Round_fs : FS := fun args h => match args, h with
  | [.row 0, .row 1], [(0, .row false ty0 (.ints .u8 c)), (1, .row false ty1 (.ints .u8 d))] => some (Round_r c d)
  | _, _ => none
def Round_an (c : List Int) (d : List Int) : List (Nat × Ann) := [(8, { G := (Nat), inv := fun k => ⟨[(0, SV.row (0 : Nat)), (1, SV.row (1 : Nat)), (4, SV.ptr (4 : Nat) (0 : Nat) (0 : Nat) (0 : Nat)), (6, SV.ptr (10 : Nat) (0 : Nat) (0 : Nat) (0 : Nat)), (8, .int .i64 (roundM c (instF c d).sup.length)), (9, .row 11), (10, .int .i64 k)], [(11, .row true 3 (.ints .i64 (roundLs (instF c d).arcs.length k))), (10, Ent.box true 25 [SV.row (6 : Nat), SV.row (7 : Nat)]), (6, Ent.row true 2 (Row.ints IntKind.i64 (instF c d).sup)), (7, .row true 53 (.arcs ((instF c d).arcs ++ roundAs c d (roundM c (instF c d).sup.length) k))), (4, Ent.box true 25 [SV.row (2 : Nat), SV.row (3 : Nat)]), (2, Ent.row true 2 (Row.ints IntKind.i64 [])), (3, Ent.row true 53 (Row.arcs [])), (0, Ent.row false 0 (Row.ints IntKind.u8 c)), (1, Ent.row false 0 (Row.ints IntKind.u8 d))], 12⟩, rel := fun k0 k => k ≤ roundM c (instF c d).sup.length, meas := fun k => roundM c (instF c d).sup.length - k })]
def Round_A : List SV → Heap → List (Nat × Ann) := fun args h => match args, h with
  | [.row 0, .row 1], [(0, .row false ty0 (.ints .u8 c)), (1, .row false ty1 (.ints .u8 d))] => Round_an c d
  | _, _ => []
def Round_g : Specs := [(Inst_n, (true, specOf true Inst_fs))]
abbrev Round_n : Nat := 9
def Round_I (c : List Int) (d : List Int) : List (Nat × ISpec) := []
def Round_IA : List SV → Heap → List (Nat × ISpec) := fun _ _ => []
end Go.Proofs.YtahbkllfifmdfaaGreat
