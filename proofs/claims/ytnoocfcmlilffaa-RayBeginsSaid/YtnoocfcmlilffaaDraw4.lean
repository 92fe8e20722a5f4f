/-
  WHICH OPERATIONS ONLY READ ('quietKind'), WHICH ONLY MAKE NEW MEMORY ('newKind'): the two Bools and their theorems.
-/
import Derived.Test.YtnoocfcmlilffaaDraw3
set_option linter.all false
set_option linter.unusedSimpArgs false
set_option linter.unusedVariables false
namespace Go.Draw
open Go

section
variable {P : Program} {ld : Bool}

def isIntT (P : Program) (t : TypeId) : Bool := match P.underlying t with | some (.int _) => true | _ => false

/-- 'some false': hangs on no world (its operands plain); 'some true': reads memory; 'none': does more -/
def quietKind (P : Program) (o : Oper) : Option Bool :=
  match o.op with
  | .move _ | .assign _ | .pick .. | .build .. | .makeFunc .. | .makeInterface .. | .extract .. | .unOp .. | .field .. | .indexAddr .. | .index .. | .slice .. | .binOp .. => some false
  | .fieldAddr s _ f => if fieldOk P s f then some false else none
  | .load .. => some true
  | .nilCheck _ => some false
  | .convert src dst _ => if isIntT P src && isIntT P dst then some false else none
  | .call { callee := .builtin .len, argTypes, .. } => if (match argTypes[0]? with | some t => lenOk P t | none => true) then some false else some true
  | .call { callee := .builtin .min, .. } | .call { callee := .builtin .max, .. } => some false
  | _ => none

/-- operands that have to be plain -/
def needs (o : Oper) : List Operand :=
  match o.op with
  | .binOp _ _ x y _ => [x, y]
  | .convert _ _ x => [x]
  | .nilCheck x => [x]
  | .call { callee := .builtin .min, args, .. } | .call { callee := .builtin .max, args, .. } => args.toList
  | _ => []

def newKind (o : Oper) : Bool :=
  match o.op with
  | .alloc _ | .box .. | .buildSlice .. | .makeSlice .. | .makeMap .. => true
  | _ => false

/-- a pointer, or a function -/
def ptrV : Value → Bool
  | .pointer _ => true
  | .func (.func _) _ _ => true
  | _ => false
def needV (o : Oper) : Value → Bool :=
  match o.op with
  | .call _ => leafV
  | .nilCheck _ => ptrV
  | _ => plainV

theorem qt_convert (src dst : TypeId) (x : Value) (h : (isIntT P src && isIntT P dst) = true) (hx : plainV x = true) : Qt P ld (convert src dst x) := by
  simp only [Bool.and_eq_true] at h
  obtain ⟨h1, h2⟩ := h
  unfold convert
  have key : ∀ (t : TypeId) (k : TypeDesc → Sem Value), isIntT P t = true → (∀ kd, Qt P ld (k (.int kd))) → Qt P ld (underlying t >>= k) := by
    intro t k ht hk
    unfold underlying
    show Qt P ld (Sem.bind (match P.underlying t with | some d => pure d | none => stuck "no such type") k)
    unfold isIntT at ht
    cases hu : P.underlying t with
    | none => trivial
    | some d =>
      rw [hu] at ht
      cases d <;> simp only [Bool.false_eq_true] at ht
      exact hk _
  refine key _ _ h1 fun k1 => key _ _ h2 fun k2 => ?_
  cases x <;> first | (simp [plainV, leafV] at hx; done) | exact qt_pure _ | exact qt_unsupported _ | trivial

theorem qt_execOp (o : Oper) (ρ : Operand → Value) (h : quietKind P o = some ld) (hn : ∀ x ∈ needs o, needV o (ρ x) = true) : Qt P ld (execOp ρ o) := by
  obtain ⟨dst, op, type, pos, after, guard⟩ := o
  unfold quietKind at h
  unfold needs needV at hn
  unfold execOp
  cases op <;> simp only [reduceCtorEq, Option.some.injEq] at h hn ⊢
  case move => trivial
  case assign => trivial
  case pick => exact qt_bind (qt_asBool _) fun _ => qt_pure _
  case build => exact qt_bind (qt_build _ _) fun _ => qt_pure _
  case makeFunc => trivial
  case makeInterface => exact qt_bind (qt_makeInterface _ _) fun _ => qt_pure _
  case extract => exact qt_bind (qt_extract _ _) fun _ => qt_pure _
  case unOp => exact qt_bind (qt_unary _ _) fun _ => qt_pure _
  case field => exact qt_bind (qt_field _ _ _) fun _ => qt_pure _
  case indexAddr => exact qt_bind (qt_indexAt _ _ _) fun _ => qt_pure _
  case index => exact qt_bind (qt_index _ _ _) fun _ => qt_pure _
  case slice => exact qt_bind (qt_sliceAt _ _ _ _ _) fun _ => qt_pure _
  case binOp op t x y yt => exact qt_bind (qt_bind (qt_eqGuard _ _ _ _ _ _) fun _ => qt_binOp _ _ _ _ (hn x (by simp)) (hn y (by simp))) fun _ => qt_pure _
  case fieldAddr s x f =>
    split at h
    · exact qt_bind (qt_fieldAt _ _ _ (by assumption)) fun _ => qt_pure _
    · cases h
  case load =>
    subst h
    exact qt_bind (qt_bind (qt_sureAddr _) fun _ => qt_loadVar _ _) fun _ => qt_pure _
  case nilCheck x =>
    have hx := hn x (by simp)
    revert hx
    cases hv : ρ x <;> intro hx <;> first | (simp [ptrV] at hx; done) | skip
    case pointer q => cases q <;> first | exact qt_runtimePanic _ (by simp) (by simp) | exact qt_pure _
    case func fn a b => cases fn <;> first | (simp [ptrV] at hx; done) | exact qt_pure _
  case convert src dst x =>
    split at h
    · exact qt_bind (qt_convert _ _ _ (by assumption) (hn x (by simp))) fun _ => qt_pure _
    · cases h
  case call c =>
    obtain ⟨callee, args, argTypes⟩ := c
    cases callee with
    | value f => simp at h
    | invoke r m => simp at h
    | builtin b =>
      cases b <;> simp only [reduceCtorEq] at h hn
      case len =>
        show Qt P ld (Builtin.len_ argTypes type (args.map ρ) >>= fun x => pure (Next.value x))
        by_cases hl : (match argTypes[0]? with | some t => lenOk P t | none => true) = true
        · exact qt_bind (qt_len_plain _ _ _ hl) fun _ => qt_pure _
        · rw [if_neg hl] at h
          cases h
          exact qt_bind (qt_len _ _ _) fun _ => qt_pure _
      case max =>
        show Qt P ld (Builtin.max_ argTypes type (args.map ρ) >>= fun x => pure (Next.value x))
        refine qt_bind ?_ fun _ => qt_pure _
        unfold Builtin.max_
        have hl : ∀ v ∈ (args.map ρ).toList, leafV v = true := by
          intro v hv
          simp only [Array.toList_map, List.mem_map] at hv
          obtain ⟨x, hx, rfl⟩ := hv
          exact hn x hx
        split
        · exact qt_stuck _
        · rename_i x rest e
          rw [e] at hl
          exact qt_minmax_fold _ qt_max2 _ _ (hl x (by simp)) fun v hv => hl v (by simp [hv])
      case min =>
        show Qt P ld (Builtin.min_ argTypes type (args.map ρ) >>= fun x => pure (Next.value x))
        refine qt_bind ?_ fun _ => qt_pure _
        unfold Builtin.min_
        have hl : ∀ v ∈ (args.map ρ).toList, leafV v = true := by
          intro v hv
          simp only [Array.toList_map, List.mem_map] at hv
          obtain ⟨x, hx, rfl⟩ := hv
          exact hn x hx
        split
        · exact qt_stuck _
        · rename_i x rest e
          rw [e] at hl
          exact qt_minmax_fold _ qt_min2 _ _ (hl x (by simp)) fun v hv => hl v (by simp [hv])

def isValueN (n : Next) : Prop := ∃ v, n = .value v

theorem rv_value (s : Sem Value) : Rv isValueN (s >>= fun x => pure (Next.value x)) := rv_bind _ _ (rv_true _) fun v _ => ⟨v, rfl⟩

theorem rv_execOp (o : Oper) (ρ : Operand → Value) (h : quietKind P o = some ld) : Rv isValueN (execOp ρ o) := by
  obtain ⟨dst, op, type, pos, after, guard⟩ := o
  unfold quietKind at h
  unfold execOp
  cases op <;> simp only [reduceCtorEq] at h ⊢ <;> first
    | exact rv_value _
    | exact ⟨_, rfl⟩
    | skip
  case pick => exact rv_bind _ _ (rv_true _) fun v _ => ⟨_, rfl⟩
  case nilCheck x =>
    have rt : Rv isValueN (runtimePanic .nilDeref : Sem Next) := fun p => trivial
    split
    all_goals first | exact rt | exact ⟨_, rfl⟩ | skip
    split
    · exact rt
    · refine rv_bind _ _ (rv_true _) fun p _ => rv_bind _ _ (rv_true _) fun r _ => ?_
      split
      · exact rv_bind _ _ (R := fun _ => True) (rv_true _) fun _ _ => ⟨_, rfl⟩
      · exact ⟨_, rfl⟩
    · exact ⟨_, rfl⟩
  case call c =>
    obtain ⟨callee, args, argTypes⟩ := c
    cases callee with
    | value f => simp at h
    | invoke r m => simp at h
    | builtin b =>
      cases b <;> simp only [reduceCtorEq] at h
      case len => exact rv_value (Builtin.len_ argTypes type (args.map ρ))
      case max => exact rv_value (Builtin.max_ argTypes type (args.map ρ))
      case min => exact rv_value (Builtin.min_ argTypes type (args.map ρ))

theorem Rv.run {α : Type} {R : α → Prop} (e : Sem α) (h : Rv R e) (w : World) (v : α) (w' : World) (hr : e.run P w = .ok v w') : R v := by
  induction e generalizing w with
  | pure a =>
    simp only [Sem.run, Result.ok.injEq] at hr
    rw [← hr.1]; exact h
  | load m a k ih =>
    simp only [Sem.run] at hr
    split at hr
    · exact ih _ (h _) _ hr
    · split at hr
      · exact ih _ (h _) _ hr
      · cases hr
  | store m a u k ih =>
    cases u <;> simp only [Sem.run] at hr <;> first
      | (cases hr; done)
      | (split at hr
         · split at hr
           · cases hr
           · exact ih h _ hr
         · split at hr
           · exact ih h _ hr
           · cases hr)
  | new o k ih => exact ih _ (h _) _ hr
  | shape r k ih => exact ih _ (h _) _ hr
  | freeze a n k ih => exact ih h _ hr
  | frozen a k ih => exact ih _ (h _) _ hr
  | getObj r k ih =>
    simp only [Sem.run] at hr
    split at hr <;> first | (cases hr; done) | exact ih _ (h _) _ hr
  | setObj r o k ih =>
    simp only [Sem.run] at hr
    split at hr <;> first | (cases hr; done) | exact ih h _ hr
  | choose q k ih =>
    simp only [Sem.run] at hr
    split at hr <;> exact ih _ (h _) _ hr
  | sys c k ih => exact ih _ (h _) _ hr
  | program k ih => exact ih _ (h _) _ hr
  | mark m k ih => exact ih h _ hr
  | halt x => simp [Sem.run] at hr

theorem nt_bind {α β : Type} {e : Sem α} {f : α → Sem β} (h : Nt P e) (hf : ∀ a, Nt P (f a)) : Nt P (e >>= f) := Nt.bind e f h hf
theorem nt_pure {α : Type} (a : α) : Nt P (pure a : Sem α) := trivial
theorem nt_stuck {α : Type} (s : String) : Nt P (stuck s : Sem α) := trivial
theorem nt_unsupported {α : Type} (s : Unsupported) : Nt P (unsupported s : Sem α) := trivial
theorem nt_underlying (t : TypeId) : Nt P (underlying t) := by
  unfold underlying; exact nt_bind (e := program) trivial fun p => by split <;> trivial
theorem nt_typeInfo (t : TypeId) : Nt P (typeInfo t) := by
  unfold typeInfo; exact nt_bind (e := program) trivial fun p => by split <;> trivial
theorem nt_sizeOf (t : TypeId) : Nt P (sizeOf t) := nt_bind (nt_typeInfo t) fun _ => trivial
theorem nt_zeroValue (t : TypeId) : Nt P (zeroValue t) := nt_bind (nt_typeInfo t) fun _ => by split <;> trivial
theorem nt_asInt (v : Value) : Nt P (asInt v) := nt_bind (by unfold asIntOf; split <;> trivial) fun _ => trivial
theorem nt_newRow (e : TypeId) (c : Array Value) : Nt P (newRow e c) := nt_bind (e := newObj _) (fun _ => trivial) fun _ => trivial
theorem nt_runtimeError {α : Type} (s : String) : Nt P (runtimePanic (.error s) : Sem α) := trivial
theorem nt_askRoom (n : Nat) : Nt P (askRoom n) := by unfold askRoom; split <;> trivial
theorem nt_choose (q : Question) : Nt P (choose q) := fun _ => trivial

theorem nt_execOp (o : Oper) (ρ : Operand → Value) (h : newKind o = true) : Nt P (execOp ρ o) := by
  obtain ⟨dst, op, type, pos, after, guard⟩ := o
  unfold newKind at h
  unfold execOp
  cases op <;> simp only [Bool.false_eq_true] at h ⊢
  case alloc e => exact nt_bind (nt_bind (nt_zeroValue e) fun z => nt_bind (nt_newRow _ _) fun _ => nt_pure _) fun _ => nt_pure _
  case box e x => exact nt_bind (nt_bind (nt_newRow _ _) fun _ => nt_pure _) fun _ => nt_pure _
  case buildSlice t n ps =>
    refine nt_bind ?_ fun _ => nt_pure _
    unfold Instr.buildSlice
    repeat' (first | exact nt_pure _ | exact nt_stuck _ | exact nt_unsupported _ | exact nt_underlying _ | exact nt_sizeOf _ | exact nt_zeroValue _ | exact nt_newRow _ _ | (refine nt_bind ?_ ?_) | (intro _) | split | (dsimp only))
  case makeMap t r =>
    refine nt_bind ?_ fun _ => nt_pure _
    unfold Instr.makeMap
    repeat' (first | exact nt_pure _ | exact nt_stuck _ | exact nt_unsupported _ | exact nt_underlying _ | exact nt_asInt _ | exact (fun _ => trivial : Nt P (newObj _)) | (refine nt_bind ?_ ?_) | (intro _) | split | (dsimp only))
  case makeSlice t l c =>
    refine nt_bind ?_ fun _ => nt_pure _
    unfold Instr.makeSlice
    repeat' (first | exact nt_pure _ | exact nt_stuck _ | exact nt_unsupported _ | exact nt_underlying _ | exact nt_sizeOf _ | exact nt_typeInfo _ | exact nt_zeroValue _ | exact nt_asInt _ | exact nt_askRoom _ | exact nt_choose _ | exact nt_runtimeError _ | exact nt_newRow _ _ | (refine nt_bind ?_ ?_) | (intro _) | split | (dsimp only))
end
end Go.Draw
