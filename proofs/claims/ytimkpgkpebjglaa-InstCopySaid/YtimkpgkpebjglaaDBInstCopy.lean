/-
  CONTRACTS, as data: InstCopy. No proofs.
-/
import Derived.Test.YtimkpgkpebjglaaDA5
import Derived.Test.YtimkpgkpebjglaaTy
set_option linter.unusedSimpArgs false
set_option linter.unusedVariables false
namespace Go.Proofs.Ytimkpgkpebjglaa
open Go Go.RowKit Go.Ql Go.Vc


def someF {α : Type} (f : α → α) (k : Nat) (l : List α) : List α := (l.take k).map f ++ l.drop k
theorem someF_len {α : Type} (f : α → α) (k : Nat) (l : List α) : (someF f k l).length = l.length := by simp [someF]; omega
theorem someF_get {α : Type} {f : α → α} {k : Nat} {l : List α} {x : α} (h : (someF f k l)[k]? = some x) (hk : k < l.length) : l[k]? = some x := by
  unfold someF at h
  rw [List.getElem?_append_right (by simp; omega)] at h
  simp only [List.length_map, List.length_take, Nat.min_eq_left (Nat.le_of_lt hk), Nat.sub_self, List.getElem?_drop, Nat.add_zero] at h
  exact h
theorem someF_step {α : Type} {f : α → α} {k : Nat} {l : List α} {x : α} (h : l[k]? = some x) : (someF f k l).set k (f x) = someF f (k + 1) l := by
  obtain ⟨hk, rfl⟩ := List.getElem?_eq_some_iff.1 h
  unfold someF
  rw [List.set_append_right _ _ (by simp; omega)]
  simp only [List.length_map, List.length_take, Nat.min_eq_left (Nat.le_of_lt hk), Nat.sub_self]
  rw [List.drop_eq_getElem_cons hk, List.set_cons_zero, List.take_succ_eq_append_getElem hk, List.map_append, List.map_cons, List.map_nil, List.append_assoc, List.singleton_append]
theorem someF_zero {α : Type} (f : α → α) (l : List α) : someF f 0 l = l := by simp [someF]
theorem someF_all {α : Type} {f : α → α} {k : Nat} {l : List α} (h : l.length ≤ k) : someF f k l = l.map f := by simp [someF, List.take_of_length_le h, List.drop_of_length_le h]


def InstCopy_r (c : List Int) (d : List Int) : FRes := { pre := Bytes c ∧ Bytes d ∧ c.length ≤ maxLen ∧ d.length ≤ maxLen, res := .bool (true), rows := [], eff := [] }
def InstCopy_fs : FS := fun args h => match args, h with
  | [.row 0, .row 1], [(0, .row false ty0 (.ints .u8 c)), (1, .row false ty1 (.ints .u8 d))] => some (InstCopy_r c d)
  | _, _ => none
def InstCopy_an (c : List Int) (d : List Int) : List (Nat × Ann) := [(6, { G := (Nat), inv := fun k => ⟨[(0, SV.row (0 : Nat)), (1, SV.row (1 : Nat)), (5, SV.ptr (6 : Nat) (0 : Nat) (0 : Nat) (0 : Nat)), (6, SV.ptr (11 : Nat) (0 : Nat) (0 : Nat) (0 : Nat)), (7, .bool true), (8, SV.ptr (18 : Nat) (0 : Nat) (0 : Nat) (0 : Nat)), (9, .int .i64 k)], [(18, Ent.box true 26 [SV.row (14 : Nat), SV.row (15 : Nat)]), (14, .row true 2 (.ints .i64 (instF c d).sup)), (15, .row true 41 (.arcs (someF (fun a => { a with low := 9 }) 0 (instF c d).arcs))), (11, Ent.box true 26 [SV.row (7 : Nat), SV.row (8 : Nat)]), (7, .row true 2 (.ints .i64 (someF (fun x => x + 1) k (instF c d).sup))), (8, Ent.row true 41 (Row.arcs (instF c d).arcs)), (6, Ent.box true 26 [SV.row (2 : Nat), SV.row (3 : Nat)]), (2, Ent.row true 2 (Row.ints IntKind.i64 (instF c d).sup)), (3, Ent.row true 41 (Row.arcs (instF c d).arcs)), (0, Ent.row false 0 (Row.ints IntKind.u8 c)), (1, Ent.row false 0 (Row.ints IntKind.u8 d))], 19⟩, rel := fun k0 k => k ≤ (instF c d).sup.length, meas := fun k => (instF c d).sup.length - k }),
  (10, { G := (Nat), inv := fun k => ⟨[(0, SV.row (0 : Nat)), (1, SV.row (1 : Nat)), (5, SV.ptr (6 : Nat) (0 : Nat) (0 : Nat) (0 : Nat)), (6, SV.ptr (11 : Nat) (0 : Nat) (0 : Nat) (0 : Nat)), (7, .bool true), (8, SV.ptr (18 : Nat) (0 : Nat) (0 : Nat) (0 : Nat)), (10, .int .i64 k)], [(18, Ent.box true 26 [SV.row (14 : Nat), SV.row (15 : Nat)]), (14, .row true 2 (.ints .i64 (instF c d).sup)), (15, .row true 41 (.arcs (someF (fun a => { a with low := 9 }) 0 (instF c d).arcs))), (11, Ent.box true 26 [SV.row (7 : Nat), SV.row (8 : Nat)]), (7, .row true 2 (.ints .i64 (someF (fun x => x + 1) (instF c d).sup.length (instF c d).sup))), (8, .row true 41 (.arcs (someF (fun a => { a with cap := 7 }) k (instF c d).arcs))), (6, Ent.box true 26 [SV.row (2 : Nat), SV.row (3 : Nat)]), (2, Ent.row true 2 (Row.ints IntKind.i64 (instF c d).sup)), (3, Ent.row true 41 (Row.arcs (instF c d).arcs)), (0, Ent.row false 0 (Row.ints IntKind.u8 c)), (1, Ent.row false 0 (Row.ints IntKind.u8 d))], 19⟩, rel := fun k0 k => k ≤ (instF c d).arcs.length, meas := fun k => (instF c d).arcs.length - k }),
  (14, { G := (Nat), inv := fun k => ⟨[(0, SV.row (0 : Nat)), (1, SV.row (1 : Nat)), (5, SV.ptr (6 : Nat) (0 : Nat) (0 : Nat) (0 : Nat)), (6, SV.ptr (11 : Nat) (0 : Nat) (0 : Nat) (0 : Nat)), (7, .bool true), (8, SV.ptr (18 : Nat) (0 : Nat) (0 : Nat) (0 : Nat)), (11, .int .i64 k)], [(18, Ent.box true 26 [SV.row (14 : Nat), SV.row (15 : Nat)]), (14, .row true 2 (.ints .i64 (instF c d).sup)), (15, .row true 41 (.arcs (someF (fun a => { a with low := 9 }) k (instF c d).arcs))), (11, Ent.box true 26 [SV.row (7 : Nat), SV.row (8 : Nat)]), (7, .row true 2 (.ints .i64 (someF (fun x => x + 1) (instF c d).sup.length (instF c d).sup))), (8, .row true 41 (.arcs (someF (fun a => { a with cap := 7 }) (instF c d).arcs.length (instF c d).arcs))), (6, Ent.box true 26 [SV.row (2 : Nat), SV.row (3 : Nat)]), (2, Ent.row true 2 (Row.ints IntKind.i64 (instF c d).sup)), (3, Ent.row true 41 (Row.arcs (instF c d).arcs)), (0, Ent.row false 0 (Row.ints IntKind.u8 c)), (1, Ent.row false 0 (Row.ints IntKind.u8 d))], 19⟩, rel := fun k0 k => k ≤ (instF c d).arcs.length, meas := fun k => (instF c d).arcs.length - k })]
def InstCopy_A : List SV → Heap → List (Nat × Ann) := fun args h => match args, h with
  | [.row 0, .row 1], [(0, .row false ty0 (.ints .u8 c)), (1, .row false ty1 (.ints .u8 d))] => InstCopy_an c d
  | _, _ => []
def InstCopy_g : Specs := [(Inst_n, (true, specOf true Inst_fs)), (Copy_n, (true, specOf true Copy_fs)), (Same_n, (true, specOf true Same_fs)), (Without_n, (true, specOf true Without_fs)), (known_n, (true, specOf true known_fs)), (rSame_n, (true, specOf true rSame_fs))]
abbrev InstCopy_n : Nat := 9
end Go.Proofs.Ytimkpgkpebjglaa
