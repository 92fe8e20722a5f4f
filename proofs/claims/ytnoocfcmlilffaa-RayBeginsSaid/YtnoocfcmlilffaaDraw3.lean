/-
  WHICH OPERATIONS ONLY READ, GONE ON: comparisons and sums of plain values; then the Bool 'quietKind' and its theorem; 'newKind'.
-/
import Derived.Test.YtnoocfcmlilffaaDraw2
set_option linter.all false
set_option linter.unusedSimpArgs false
set_option linter.unusedVariables false
namespace Go.Draw
open Go

section
variable {P : Program} {ld : Bool}

/-- whatever it hands back meets R -/
def Rv {α : Type} (R : α → Prop) : Sem α → Prop
  | .pure a => R a
  | .load _ _ k => ∀ v, Rv R (k v)
  | .store _ _ _ k => Rv R k
  | .new _ k => ∀ r, Rv R (k r)
  | .shape _ k => ∀ s, Rv R (k s)
  | .freeze _ _ k => Rv R k
  | .frozen _ k => ∀ b, Rv R (k b)
  | .getObj _ k => ∀ o, Rv R (k o)
  | .setObj _ _ k => Rv R k
  | .choose _ k => ∀ n, Rv R (k n)
  | .sys _ k => ∀ r, Rv R (k r)
  | .program k => ∀ p, Rv R (k p)
  | .mark _ k => Rv R k
  | .halt _ => True

theorem rv_true {α : Type} (e : Sem α) : Rv (fun _ => True) e := by
  induction e with
  | pure a => trivial
  | load m a k ih => exact fun v => ih v
  | store m a u k ih => exact ih
  | new o k ih => exact fun r => ih r
  | shape r k ih => exact fun r => ih r
  | freeze a n k ih => exact ih
  | frozen a k ih => exact fun r => ih r
  | getObj r k ih => exact fun r => ih r
  | setObj r o k ih => exact ih
  | choose q k ih => exact fun r => ih r
  | sys c k ih => exact fun r => ih r
  | program k ih => exact fun r => ih r
  | mark m k ih => exact ih
  | halt x => trivial

theorem rv_bind {α β : Type} {R : α → Prop} {S : β → Prop} (e : Sem α) (f : α → Sem β) (h : Rv R e) (hf : ∀ a, R a → Rv S (f a)) : Rv S (e.bind f) := by
  induction e with
  | pure a => exact hf a h
  | load m a k ih => exact fun v => ih v (h v)
  | store m a u k ih => exact ih h
  | new o k ih => exact fun r => ih r (h r)
  | shape r k ih => exact fun r => ih r (h r)
  | freeze a n k ih => exact ih h
  | frozen a k ih => exact fun r => ih r (h r)
  | getObj r k ih => exact fun r => ih r (h r)
  | setObj r o k ih => exact ih h
  | choose q k ih => exact fun r => ih r (h r)
  | sys c k ih => exact fun r => ih r (h r)
  | program k ih => exact fun r => ih r (h r)
  | mark m k ih => exact ih h
  | halt x => trivial

theorem qt_bindR {α β : Type} {R : α → Prop} {e : Sem α} {f : α → Sem β} (h : Qt P ld e) (hr : Rv R e) (hf : ∀ a, R a → Qt P ld (f a)) : Qt P ld (e >>= f) := by
  show Qt P ld (e.bind f)
  induction e with
  | pure a => exact hf a hr
  | load m a k ih => exact ⟨h.1, fun v => ih v (h.2 v) (hr v)⟩
  | getObj r k ih => exact ⟨h.1, fun v => ih v (h.2 v) (hr v)⟩
  | program k ih => exact ih P h (hr P)
  | halt x => trivial
  | choose q k ih => exact fun n => Halts.bind _ _ (h n)
  | new o k ih => exact fun n => Halts.bind _ _ (h n)
  | store m a u k ih => exact absurd h (by simp [Qt])
  | shape r k ih => exact absurd h (by simp [Qt])
  | freeze a n k ih => exact absurd h (by simp [Qt])
  | frozen a k ih => exact absurd h (by simp [Qt])
  | setObj r o k ih => exact absurd h (by simp [Qt])
  | sys c k ih => exact absurd h (by simp [Qt])
  | mark m k ih => exact absurd h (by simp [Qt])

theorem rv_part {t : TypeId} {cs : Array Value} {off : Nat} (h : cs.toList.all leafV = true) : Rv (fun v => plainV v = true) (part t cs off) := by
  unfold part
  refine rv_bind _ _ (rv_true _) fun b _ => ?_
  cases b
  · simp only [Bool.false_eq_true, if_false]
    split
    · rename_i u hc
      exact plain_of_leaf (List.all_eq_true.1 h u (by simpa using Array.mem_of_getElem? hc))
    · trivial
  · simp only [if_true]
    refine rv_bind _ _ (rv_true _) fun n _ => ?_
    show plainV _ = true
    simp only [plainV, List.all_eq_true] at h ⊢
    intro x hx
    refine h x ?_
    have hx' : x ∈ List.take n (List.drop off cs.toList) := by simpa using hx
    exact List.mem_of_mem_drop (List.mem_of_mem_take hx')

theorem qt_partB {β : Type} {t : TypeId} {cs : Array Value} {off : Nat} {f : Value → Sem β} (h : cs.toList.all leafV = true) (hf : ∀ v, plainV v = true → Qt P ld (f v)) : Qt P ld (part t cs off >>= f) :=
  qt_bindR (qt_part _ _ _) (rv_part h) hf

theorem qt_equalIn : ∀ (d : Nat) (t : TypeId) (x y : Value), plainV x = true → plainV y = true → Qt P ld (Op.equalIn d t x y)
  | 0, _, _, _, _, _ => trivial
  | d + 1, t, x, y, hx, hy => by
    unfold Op.equalIn
    refine qt_bind (qt_underlying t) fun desc => ?_
    split <;> first
      | exact qt_pure _
      | exact qt_stuck _
      | exact qt_unsupported _
      | (simp [plainV, leafV] at hx; done)
      | (simp [plainV, leafV] at hy; done)
      | (split <;> first | exact qt_pure _ | exact qt_stuck _; done)
      | skip
    · -- struct
      have hx' : ∀ (cs : Array Value), plainV (.agg cs) = true → cs.toList.all leafV = true := fun _ h => h
      have hx1 := hx' _ hx
      have hy1 := hx' _ hy
      refine qt_bind (e := program) trivial fun p => ?_
      have body : ∀ (fields : Array Field) (xs ys : Array Value), xs.toList.all leafV = true → ys.toList.all leafV = true → ∀ (f : Field) (acc : Option Bool × Unit), Qt P ld
          (do if f.name ≠ "_" then
                if !(← Op.equalIn d f.type (← part f.type xs f.offset) (← part f.type ys f.offset)) then pure (ForInStep.done (some false, ())) else pure (ForInStep.yield (none, ()))
              else pure (ForInStep.yield (none, ())) : Sem (ForInStep (Option Bool × Unit))) := by
        intro fields xs ys hxs hys f acc
        split
        · refine qt_partB hxs fun v hv => qt_partB hys fun u hu => qt_bind (qt_equalIn d _ v u hv hu) fun b => ?_
          split <;> exact qt_pure _
        · exact qt_pure _
      repeat' (first | exact qt_pure _ | exact qt_stuck _ | exact qt_unsupported _ | (refine qt_forIn_array _ _ _ fun f acc => ?_) | (refine qt_partB (by assumption) fun v hv => ?_) | (refine qt_bind (qt_equalIn d _ _ _ (by assumption) (by assumption)) fun b => ?_) | (refine qt_bind ?_ ?_) | (intro _) | split | (dsimp only))
    · have hx' : ∀ (cs : Array Value), plainV (.agg cs) = true → cs.toList.all leafV = true := fun _ h => h
      have hx1 := hx' _ hx
      have hy1 := hx' _ hy
      repeat' (first | exact qt_pure _ | exact qt_stuck _ | exact qt_unsupported _ | exact qt_sizeOf _ | (refine qt_forIn_range _ _ _ fun f acc => ?_) | (refine qt_partB (by assumption) fun v hv => ?_) | (refine qt_bind (qt_equalIn d _ _ _ (by assumption) (by assumption)) fun b => ?_) | (refine qt_bind ?_ ?_) | (intro _) | split | (dsimp only))

theorem qt_eqGuardIn : ∀ (d : Nat) (t : TypeId) (x y : Value), Qt P ld (Op.eqGuardIn d t x y)
  | 0, _, _, _ => trivial
  | d + 1, t, x, y => by
    unfold Op.eqGuardIn
    refine qt_bind (qt_underlying t) fun desc => ?_
    repeat' (first | exact qt_pure _ | exact qt_stuck _ | exact qt_unsupported _ | exact qt_sizeOf _ | exact qt_part _ _ _ | exact qt_eqGuardIn d _ _ _ | (refine qt_forIn_array _ _ _ fun f acc => ?_) | (refine qt_forIn_range _ _ _ fun f acc => ?_) | (refine qt_bind ?_ ?_) | (intro _) | split | (dsimp only))

theorem qt_eqGuard (op : BinOp) (t : TypeId) (x y : Operand) (a b : Value) : Qt P ld (eqGuard op t x y a b) := by
  unfold eqGuard
  have hg : ∀ (f : Bool → Sem Unit), (∀ b, Qt P ld (f b)) → Qt P ld (Op.eqGuardIn Op.maxDepth t a b >>= f) := fun f hf => qt_bind (qt_eqGuardIn _ _ _ _) hf
  generalize Op.maxDepth = dd at *
  repeat' (first | exact qt_pure _ | exact qt_stuck _ | exact qt_unsupported _ | (refine hg _ ?_) | (refine qt_bind (e := program) trivial ?_) | (intro _) | split | (dsimp only))

theorem qt_stringOp (op : BinOp) (x y : ByteArray) : Qt P ld (Op.stringOp op x y) := by
  unfold Op.stringOp
  dsimp only
  repeat' (first | exact qt_pure _ | exact qt_stuck _ | exact qt_unsupported _ | split)

theorem qt_shift (op : BinOp) (k : IntKind) (x : Int) (yk : IntKind) (y : Int) : Qt P ld (Op.shift op k x yk y) := by
  unfold Op.shift
  by_cases h : y < 0
  · rw [if_pos h]; exact qt_runtimePanic _ (by simp) (by simp)
  · rw [if_neg h]; dsimp only; split <;> first | exact qt_pure _ | exact qt_stuck _
theorem qt_intDiv (op : BinOp) (k : IntKind) (x y : Int) : Qt P ld (Op.intDiv op k x y) := by
  unfold Op.intDiv
  by_cases h : y = 0
  · rw [if_pos h]; exact qt_runtimePanic _ (by simp) (by simp)
  · rw [if_neg h]; split <;> first | exact qt_pure _ | exact qt_stuck _

theorem qt_binOp (op : BinOp) (t : TypeId) (x y : Value) (hx : plainV x = true) (hy : plainV y = true) : Qt P ld (binOp op t x y) := by
  unfold binOp
  split <;> first
    | (with_reducible exact qt_stuck _)
    | (with_reducible exact qt_unsupported _)
    | (with_reducible exact qt_stringOp _ _ _)
    | exact qt_bind (qt_equalIn _ _ _ _ hx hy) fun _ => qt_pure _
    | (simp [plainV, leafV] at hx; done)
    | (simp [plainV, leafV] at hy; done)
    | exact qt_shift _ _ _ _ _
    | skip
  · split
    · exact qt_stuck _
    · split
      all_goals first
        | (unfold Op.intArith; split <;> first | exact qt_pure _ | exact qt_stuck _; done)
        | (unfold Op.intCmp; split <;> first | exact qt_pure _ | exact qt_stuck _; done)
        | (with_reducible exact qt_intDiv _ _ _ _)
        | (unfold Op.intBits; dsimp only; exact qt_pure _)

theorem qt_unary (op : UnOp) (x : Value) : Qt P ld (Op.unary op x) := by
  unfold Op.unary
  split <;> first | exact qt_pure _ | exact qt_stuck _ | exact qt_unsupported _

theorem qt_extract (x : Value) (i : Nat) : Qt P ld (Instr.extract x i) := by
  unfold Instr.extract
  repeat' (first | exact qt_pure _ | exact qt_stuck _ | split)

theorem qt_makeInterface (t : TypeId) (x : Value) : Qt P ld (Instr.makeInterface t x) := by
  unfold Instr.makeInterface
  refine qt_bind (qt_underlying t) fun d => ?_
  split <;> first | exact qt_pure _ | exact qt_stuck _

theorem qt_len (ts : Array TypeId) (t : TypeId) (args : Array Value) : Qt P true (Builtin.len_ ts t args) := by
  unfold Builtin.len_
  repeat' (first | exact qt_pure _ | exact qt_stuck _ | exact qt_underlying _ | (refine qt_bind (e := getObj _) ⟨rfl, fun _ => trivial⟩ ?_) | (refine qt_bind ?_ ?_) | (intro _) | split | (dsimp only))

/-- a slice's, a string's, an array's length hangs on no world -/
def lenOk (P : Program) (t : TypeId) : Bool :=
  match P.underlying t with
  | some .string | some (.array ..) | some (.slice _) => true
  | _ => false

theorem qt_len_plain (ts : Array TypeId) (t : TypeId) (args : Array Value) (h : (match ts[0]? with | some t => lenOk P t | none => true) = true) : Qt P ld (Builtin.len_ ts t args) := by
  unfold Builtin.len_
  cases h0 : ts[0]? with
  | none => exact qt_stuck _
  | some t0 =>
    rw [h0] at h
    cases h1 : args[0]? with
    | none => exact qt_stuck _
    | some x =>
      have key : ∀ (k : TypeDesc → Sem Value), (∀ d, P.underlying t0 = some d → Qt P ld (k d)) → Qt P ld (underlying t0 >>= k) := by
        intro k hk
        unfold underlying
        show Qt P ld (Sem.bind (match P.underlying t0 with | some d => pure d | none => stuck "no such type") k)
        cases hu : P.underlying t0 with
        | none => trivial
        | some d => exact hk d hu
      refine key _ fun d hu => ?_
      have h' : lenOk P t0 = true := h
      unfold lenOk at h'
      rw [hu] at h'
      cases d <;> simp only [Bool.false_eq_true] at h'
      all_goals cases x <;> first | exact qt_pure _ | exact qt_stuck _ | trivial

theorem qt_minmax_fold (g : Value → Value → Sem Value) (hg : ∀ x y, leafV x = true → leafV y = true → Qt P ld (g x y) ∧ Rv (fun v => leafV v = true) (g x y)) :
    ∀ (l : List Value) (x : Value), leafV x = true → (∀ v ∈ l, leafV v = true) → Qt P ld (l.foldlM g x)
  | [], x, _, _ => qt_pure _
  | y :: l, x, hx, hl => by
    rw [List.foldlM_cons]
    have h1 := hg x y hx (hl y (by simp))
    exact qt_bindR h1.1 h1.2 fun v hv => qt_minmax_fold g hg l v hv fun u hu => hl u (by simp [hu])

theorem qt_min2 (x y : Value) (hx : leafV x = true) (hy : leafV y = true) : Qt P ld (Builtin.min2 x y) ∧ Rv (fun v => leafV v = true) (Builtin.min2 x y) := by
  unfold Builtin.min2
  split <;> first
    | exact ⟨trivial, rfl⟩
    | exact ⟨trivial, trivial⟩
    | (simp [leafV] at hx; done)
    | (simp [leafV] at hy; done)
    | skip
theorem qt_max2 (x y : Value) (hx : leafV x = true) (hy : leafV y = true) : Qt P ld (Builtin.max2 x y) ∧ Rv (fun v => leafV v = true) (Builtin.max2 x y) := by
  unfold Builtin.max2
  split <;> first
    | exact ⟨trivial, rfl⟩
    | exact ⟨trivial, trivial⟩
    | (simp [leafV] at hx; done)
    | (simp [leafV] at hy; done)
    | skip

theorem qt_build (t : TypeId) (parts : Array (Nat × Value)) : Qt P ld (Instr.build t parts) := by
  unfold Instr.build
  have hm : ∀ (fs : Array Field), Qt P ld (fs.mapM fun f => do pure (f.offset, ← sizeOf f.type)) := by
    intro fs
    rw [Array.mapM_eq_mapM_toList]
    exact qt_bind (qt_mapM_list _ _ fun f => qt_bind (qt_sizeOf _) fun _ => qt_pure _) fun _ => qt_pure _
  refine qt_bind (qt_zeroValue t) fun z => qt_bind (qt_underlying t) fun d => ?_
  split
  · refine qt_bind (hm _) fun _ => ?_
    split <;> first | exact qt_pure _ | exact qt_stuck _
  · refine qt_bind (qt_sizeOf _) fun _ => ?_
    split <;> first | exact qt_pure _ | exact qt_stuck _
  · exact qt_stuck _
end
end Go.Draw
