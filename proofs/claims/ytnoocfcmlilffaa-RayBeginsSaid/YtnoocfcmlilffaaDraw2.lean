/-
  WHICH OPERATIONS ONLY READ ('quietKind'), AND WHICH ONLY MAKE NEW MEMORY ('newKind'): theorems over any program.
-/
import Derived.Test.YtnoocfcmlilffaaDraw
set_option linter.all false
set_option linter.unusedSimpArgs false
set_option linter.unusedVariables false
namespace Go.Draw
open Go

section
variable {P : Program} {ld : Bool}

theorem qt_bind {α β : Type} {e : Sem α} {f : α → Sem β} (h : Qt P ld e) (hf : ∀ a, Qt P ld (f a)) : Qt P ld (e >>= f) := Qt.bind e f h hf
theorem qt_pure {α : Type} (a : α) : Qt P ld (pure a : Sem α) := trivial
theorem qt_stuck {α : Type} (s : String) : Qt P ld (stuck s : Sem α) := trivial
theorem qt_unsupported {α : Type} (s : Unsupported) : Qt P ld (unsupported s : Sem α) := trivial
theorem qt_underlying (t : TypeId) : Qt P ld (underlying t) := by
  unfold underlying; exact qt_bind (e := program) trivial fun p => by split <;> trivial
theorem qt_typeInfo (t : TypeId) : Qt P ld (typeInfo t) := by
  unfold typeInfo; exact qt_bind (e := program) trivial fun p => by split <;> trivial
theorem qt_sizeOf (t : TypeId) : Qt P ld (sizeOf t) := by
  unfold sizeOf; exact qt_bind (qt_typeInfo t) fun _ => trivial
theorem qt_zeroValue (t : TypeId) : Qt P ld (zeroValue t) := by
  unfold zeroValue; exact qt_bind (qt_typeInfo t) fun _ => by split <;> trivial
theorem qt_isAgg (t : TypeId) : Qt P ld (isAgg t) := by
  unfold isAgg; exact qt_bind (qt_underlying t) fun _ => by split <;> trivial
theorem qt_asIntOf (v : Value) : Qt P ld (asIntOf v) := by unfold asIntOf; split <;> trivial
theorem qt_asBool (v : Value) : Qt P ld (asBool v) := by unfold asBool; split <;> trivial
theorem qt_asAgg (v : Value) : Qt P ld (asAgg v) := by unfold asAgg; split <;> trivial
theorem qt_sureAddr (v : Value) : Qt P ld (Instr.sureAddr v) := by unfold Instr.sureAddr; split <;> trivial
theorem halts_goPanic {α : Type} (v : Value) : Halts P (goPanic v : Sem α) := trivial
theorem halts_bind {α β : Type} {e : Sem α} {f : α → Sem β} (h : Halts P e) : Halts P (e >>= f) := Halts.bind e f h
theorem qt_runtimePanic {α : Type} (e : RuntimeError) (he : ∀ a b c d, e ≠ .typeAssertion a b c d) (hp : e ≠ .panicNil) : Qt P ld (runtimePanic e : Sem α) := by
  unfold runtimePanic
  refine qt_bind (e := program) trivial fun p => ?_
  cases e <;> first | trivial | (exact absurd rfl (he _ _ _ _)) | (exact absurd rfl hp)
theorem halts_bounds {α : Type} (x y : Int) (s : Bool) (c : BoundsCode) : Halts P (runtimePanic (.bounds x y s c) : Sem α) := trivial
theorem qt_boundsPanic {α : Type} (k : IntKind) (x y : Int) (c : BoundsCode) : Qt P ld (boundsPanic k x y c : Sem α) := by
  unfold boundsPanic
  split
  · intro n; exact halts_bounds _ _ _ _
  · exact qt_bind (qt_pure _) fun _ => qt_runtimePanic _ (by simp) (by simp)
theorem qt_asAddr (v : Value) : Qt P ld (asAddr v) := by
  unfold asAddr
  split
  · trivial
  · exact qt_runtimePanic _ (by simp) (by simp)
  · trivial
theorem qt_part (t : TypeId) (cs : Array Value) (off : Nat) : Qt P ld (part t cs off) := by
  unfold part
  refine qt_bind (qt_isAgg t) fun b => ?_
  split
  · exact qt_bind (qt_sizeOf t) fun _ => trivial
  · split <;> trivial
theorem qt_load (a : Addr) (m : Mode) : Qt P true (load a m) := ⟨rfl, fun _ => trivial⟩
theorem qt_loadCellsFrom (a : Addr) : ∀ (n i : Nat) (acc : Array Value), Qt P true (loadCellsFrom a i n acc)
  | 0, _, _ => trivial
  | n + 1, i, acc => qt_bind (qt_load _ _) fun v => qt_loadCellsFrom a n (i + 1) (acc.push v)
theorem qt_loadVar (t : TypeId) (a : Addr) : Qt P true (loadVar t a) := by
  unfold loadVar
  refine qt_bind (qt_isAgg t) fun b => ?_
  split
  · exact qt_bind (qt_sizeOf t) fun n => qt_bind (qt_loadCellsFrom a n 0 #[]) fun _ => trivial
  · exact qt_load _ _
theorem qt_indexAt (t : TypeId) (x i : Value) : Qt P ld (Instr.indexAt t x i) := by
  unfold Instr.indexAt
  repeat' (first | exact qt_pure _ | exact qt_stuck _ | exact qt_unsupported _ | exact qt_asIntOf _ | exact qt_underlying _ | exact qt_sizeOf _ | exact qt_sureAddr _ | exact qt_asAddr _ | exact qt_asAgg _ | exact qt_part _ _ _ | exact qt_boundsPanic _ _ _ _ | (refine qt_bind ?_ ?_) | (intro _) | split | (dsimp only))
theorem qt_sliceBound (x : Value) (y : Nat) (c : BoundsCode) : Qt P ld (Instr.sliceBound x y c) := by
  unfold Instr.sliceBound
  refine qt_bind (qt_asIntOf x) fun ki => ?_
  obtain ⟨k, n⟩ := ki
  dsimp only
  split
  · trivial
  · exact qt_boundsPanic _ _ _ _
theorem qt_sliceBounds (b : Bool) (l c : Nat) (x y z : Option Value) : Qt P ld (Instr.sliceBounds b l c x y z) := by
  unfold Instr.sliceBounds
  repeat' (first | exact qt_pure _ | exact qt_stuck _ | exact qt_unsupported _ | exact qt_asIntOf _ | exact qt_underlying _ | exact qt_sizeOf _ | exact qt_sureAddr _ | exact qt_asAddr _ | exact qt_asAgg _ | exact qt_part _ _ _ | exact qt_boundsPanic _ _ _ _ | exact qt_sliceBound _ _ _ | (refine qt_bind ?_ ?_) | (intro _) | split | (dsimp only))
theorem qt_slice (t : TypeId) (x : Value) (l h m : Option Value) : Qt P ld (Instr.slice t x l h m) := by
  unfold Instr.slice
  repeat' (first | exact qt_pure _ | exact qt_stuck _ | exact qt_unsupported _ | exact qt_asIntOf _ | exact qt_underlying _ | exact qt_sizeOf _ | exact qt_sureAddr _ | exact qt_asAddr _ | exact qt_asAgg _ | exact qt_part _ _ _ | exact qt_boundsPanic _ _ _ _ | exact qt_sliceBounds _ _ _ _ _ _ | (refine qt_bind ?_ ?_) | (intro _) | split | (dsimp only))
theorem qt_sliceAt (t : TypeId) (x : Value) (l h m : Option Value) : Qt P ld (Instr.sliceAt t x l h m) := by
  unfold Instr.sliceAt
  repeat' (first | exact qt_pure _ | exact qt_stuck _ | exact qt_unsupported _ | exact qt_asIntOf _ | exact qt_underlying _ | exact qt_sizeOf _ | exact qt_sureAddr _ | exact qt_asAddr _ | exact qt_asAgg _ | exact qt_part _ _ _ | exact qt_boundsPanic _ _ _ _ | exact qt_sliceBounds _ _ _ _ _ _ | exact qt_slice _ _ _ _ _ | (refine qt_bind ?_ ?_) | (intro _) | split | (dsimp only))
theorem qt_index (t : TypeId) (x i : Value) : Qt P ld (Instr.index t x i) := by
  unfold Instr.index
  repeat' (first | exact qt_pure _ | exact qt_stuck _ | exact qt_unsupported _ | exact qt_asIntOf _ | exact qt_underlying _ | exact qt_sizeOf _ | exact qt_sureAddr _ | exact qt_asAddr _ | exact qt_asAgg _ | exact qt_part _ _ _ | exact qt_boundsPanic _ _ _ _ | (refine qt_bind ?_ ?_) | (intro _) | split | (dsimp only))
theorem qt_field (t : TypeId) (x : Value) (f : Nat) : Qt P ld (Instr.field t x f) := by
  unfold Instr.field
  repeat' (first | exact qt_pure _ | exact qt_stuck _ | exact qt_unsupported _ | exact qt_asIntOf _ | exact qt_underlying _ | exact qt_sizeOf _ | exact qt_sureAddr _ | exact qt_asAddr _ | exact qt_asAgg _ | exact qt_part _ _ _ | exact qt_boundsPanic _ _ _ _ | (refine qt_bind ?_ ?_) | (intro _) | split | (dsimp only))
/-- a field's type has cells -/
def fieldOk (P : Program) (s : TypeId) (i : Nat) : Bool :=
  match P.underlying s with
  | some (.struct fs) => match fs[i]? with
    | some f => match P.info? f.type with
      | some t => t.size != 0
      | none => true
    | none => true
  | _ => true

theorem qt_fieldAt (s : TypeId) (x : Value) (f : Nat) (h : fieldOk P s f = true) : Qt P ld (Instr.fieldAt s x f) := by
  unfold Instr.fieldAt underlying
  show Qt P ld (Sem.program _)
  show Qt P ld _
  simp only [Qt]
  show Qt P ld (Sem.bind (match P.underlying s with | some d => _ | none => _) _)
  unfold fieldOk at h
  cases hu : P.underlying s with
  | none => trivial
  | some d =>
    rw [hu] at h
    show Qt P ld (match d with | .struct fields => _ | _ => _)
    cases d <;> first | trivial | skip
    rename_i fs
    dsimp only at h ⊢
    cases hf : fs[f]? with
    | none => trivial
    | some fd =>
      rw [hf] at h
      dsimp only at h ⊢
      refine qt_bind (qt_sureAddr _) fun a => qt_bind ?_ fun _ => trivial
      unfold fieldPlace sizeOf typeInfo
      show Qt P ld (Sem.bind (Sem.bind (match P.info? fd.type with | some i => _ | none => _) _) _)
      cases hi : P.info? fd.type with
      | none => trivial
      | some i =>
        rw [hi] at h
        show Qt P ld (if i.size = 0 then _ else _)
        have : i.size ≠ 0 := by simpa using h
        rw [if_neg this]
        trivial

theorem qt_forIn_list {α β : Type} (l : List α) (b : β) (f : α → β → Sem (ForInStep β)) (h : ∀ a b, Qt P ld (f a b)) : Qt P ld (forIn l b f) := by
  induction l generalizing b with
  | nil => exact qt_pure _
  | cons a l ih =>
    rw [List.forIn_cons]
    refine qt_bind (h a b) fun s => ?_
    cases s with
    | done b => exact qt_pure _
    | yield b => exact ih b
theorem qt_forIn_array {α β : Type} (l : Array α) (b : β) (f : α → β → Sem (ForInStep β)) (h : ∀ a b, Qt P ld (f a b)) : Qt P ld (forIn l b f) := by
  rw [← Array.forIn_toList]
  exact qt_forIn_list _ _ _ h
theorem qt_forIn_range {β : Type} (r : Std.Legacy.Range) (b : β) (f : Nat → β → Sem (ForInStep β)) (h : ∀ a b, Qt P ld (f a b)) : Qt P ld (forIn r b f) := by
  rw [Std.Legacy.Range.forIn_eq_forIn_range']
  exact qt_forIn_list _ _ _ h
theorem qt_mapM_list {α β : Type} (l : List α) (f : α → Sem β) (h : ∀ a, Qt P ld (f a)) : Qt P ld (l.mapM f) := by
  have : ∀ (l : List α) (acc : List β), Qt P ld (List.mapM.loop f l acc) := by
    intro l
    induction l with
    | nil => intro acc; exact qt_pure _
    | cons a l ih => intro acc; exact qt_bind (h a) fun b => ih _
  exact this l []

/-- a value whose cells are numbers, bools, strings, nil, slices -/
def leafV : Value → Bool
  | .int .. | .bool _ | .string _ | .nilIface | .slice .. | .nilFunc => true
  | _ => false
def plainV : Value → Bool
  | .agg cs => cs.toList.all leafV
  | v => leafV v

theorem plain_of_leaf {v : Value} (h : leafV v = true) : plainV v = true := by cases v <;> simp_all [plainV, leafV]

/-- what 'part' hands back of plain cells is plain -/
theorem plain_part {t : TypeId} {cs : Array Value} {off : Nat} (h : cs.toList.all leafV = true) {w w' : World} {v : Value} (hr : (part t cs off).run P w = .ok v w') : plainV v = true := by
  unfold part at hr
  simp only [Sem.run_bind] at hr
  cases hb : (isAgg t).run P w with
  | halt x y => rw [hb] at hr; simp [Result.andThen] at hr
  | ok b w1 =>
    rw [hb] at hr
    simp only [Result.andThen_ok] at hr
    cases b
    · simp only [Bool.false_eq_true, if_false] at hr
      cases hc : cs[off]? with
      | none => rw [hc] at hr; simp [stuck, Sem.run] at hr
      | some u =>
        rw [hc] at hr
        simp only [pure, Sem.run, Result.ok.injEq] at hr
        rw [← hr.1]
        exact plain_of_leaf (List.all_eq_true.1 h u (by simpa using Array.mem_of_getElem? hc))
    · simp only [if_true, Sem.run_bind] at hr
      cases hn : (sizeOf t).run P w1 with
      | halt x y => rw [hn] at hr; simp [Result.andThen] at hr
      | ok n w2 =>
        rw [hn] at hr
        simp only [Result.andThen_ok, pure, Sem.run, Result.ok.injEq] at hr
        rw [← hr.1]
        simp only [plainV, List.all_eq_true] at h ⊢
        intro x hx
        refine h x ?_
        have hx' : x ∈ List.take n (List.drop off cs.toList) := by simpa using hx
        exact List.mem_of_mem_drop (List.mem_of_mem_take hx')
end
end Go.Draw
