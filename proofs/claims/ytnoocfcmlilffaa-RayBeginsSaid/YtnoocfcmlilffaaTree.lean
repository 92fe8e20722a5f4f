/-
  A REGION THAT DRAWS ITS ORDER, BY A TREE: what only reads is taken as early as may be; where nothing of that kind is ready, each operation that is ready is taken in turn. The Bool 'treeOk' is reckoned by the kernel.
-/
import Derived.Test.YtnoocfcmlilffaaDraw5
import Derived.KernelRfl
set_option linter.all false
set_option linter.unusedSimpArgs false
set_option linter.unusedVariables false
namespace Go.Draw
open Go

section
variable {P : Program} {ops : Array Oper}

/-- all that an operation waits for, near and far -/
def ancs (ops : Array Oper) : Array (List Nat) :=
  ops.foldl (init := #[]) fun acc o => acc.push ((o.after.toList.filter (Region.binds .any)).flatMap fun e => e.on :: acc.getD e.on []).eraseDups

def opOk (P : Program) (ops : Array Oper) (A : Array (List Nat)) (i : Nat) : Bool :=
  match ops[i]? with
  | none => true
  | some o =>
    (match o.op with | .select .. => false | _ => true) &&
    !(A.getD i []).contains i &&
    o.after.toList.all (fun e => !Region.binds .any e || (e.on < ops.size && (A.getD i []).contains e.on)) &&
    (A.getD i []).all (fun x => o.after.toList.any fun e => Region.binds .any e && (e.on == x || (A.getD e.on []).contains x)) &&
    (List.range ops.size).all (fun j => j == i || (A.getD i []).contains j || (A.getD j []).contains i || match ops[j]? with | some oj => o.apart ops oj | none => true) &&
    ((quietKind P o).isNone || (looks ops o).all fun x => match x with
      | .tmp t => (List.range ops.size).all fun j => (ops[j]?).bind (·.dst) != some t || (A.getD i []).contains j
      | _ => true)

structure Static (P : Program) (ops : Array Oper) (A : Array (List Nat)) : Prop where
  sel : ∀ (i : Nat) (o : Oper) (cs : Array SelectCase) (b : Bool), ops[i]? = some o → o.op ≠ .select cs b
  irr : ∀ i o, ops[i]? = some o → i ∉ A.getD i []
  edge : ∀ i o, ops[i]? = some o → ∀ e ∈ o.after, Region.binds .any e = true → e.on < ops.size ∧ e.on ∈ A.getD i []
  clos : ∀ i o, ops[i]? = some o → ∀ x ∈ A.getD i [], ∃ e ∈ o.after, Region.binds .any e = true ∧ (e.on = x ∨ x ∈ A.getD e.on [])
  apart : ∀ i j oi oj, ops[i]? = some oi → ops[j]? = some oj → i ≠ j → j ∉ A.getD i [] → i ∉ A.getD j [] → oi.apart ops oj = true
  unw : ∀ i o, ops[i]? = some o → (∃ l, quietKind P o = some l) → ∀ x ∈ looks ops o, ∀ t, x = .tmp t → ∀ j, (ops[j]?).bind (·.dst) = some t → j ∈ A.getD i []

theorem static_of {A : Array (List Nat)} (h : (List.range ops.size).all (opOk P ops A) = true) : Static P ops A := by
  have key : ∀ i o, ops[i]? = some o → opOk P ops A i = true := fun i o ho =>
    List.all_eq_true.1 h i (List.mem_range.2 (Array.getElem?_eq_some_iff.1 ho).1)
  have unf : ∀ i o, ops[i]? = some o → _ := fun i o ho => by
    have := key i o ho
    unfold opOk at this
    rw [ho] at this
    simp only [Bool.and_eq_true] at this
    exact this
  constructor
  · intro i o cs b ho heq
    have := (unf i o ho).1.1.1.1.1
    rw [heq] at this
    cases this
  · intro i o ho hc
    have := (unf i o ho).1.1.1.1.2
    simp [List.contains_iff_mem.2 hc] at this
    exact absurd hc (by simpa using this)
  · intro i o ho e he hb
    have := List.all_eq_true.1 (unf i o ho).1.1.1.2 e (by simpa using he)
    simpa [hb] using this
  · intro i o ho x hx
    have := List.all_eq_true.1 (unf i o ho).1.1.2 x hx
    obtain ⟨e, he, hh⟩ := List.any_eq_true.1 this
    simp only [Bool.and_eq_true, Bool.or_eq_true, beq_iff_eq, List.contains_iff_mem] at hh
    exact ⟨e, by simpa using he, hh⟩
  · intro i j oi oj hi hj hne h1 h2
    have := List.all_eq_true.1 (unf i oi hi).1.2 j (List.mem_range.2 (Array.getElem?_eq_some_iff.1 hj).1)
    simp only [hj, Bool.or_eq_true, beq_iff_eq, List.contains_iff_mem] at this
    rcases this with ((h | h) | h) | h
    · exact absurd h.symm hne
    · exact absurd h h1
    · exact absurd h h2
    · exact h
  · intro i o ho ⟨l, hl⟩ x hx t ht j hj
    have := (unf i o ho).2
    simp only [hl, Option.isNone_some, Bool.false_or] at this
    have := List.all_eq_true.1 this x hx
    subst ht
    simp only at this
    have hlt : j < ops.size := by
      rcases Nat.lt_or_ge j ops.size with h | h
      · exact h
      · rw [Array.getElem?_eq_none h] at hj; cases hj
    have := List.all_eq_true.1 this j (List.mem_range.2 hlt)
    simpa [hj] using this

/-- an operation that may be taken now -/
def Rdy (ops : Array Oper) (done : List Nat) (j : Nat) : Prop := j ∉ done ∧ ∃ o, ops[j]? = some o ∧ ∀ e ∈ o.after, Region.binds .any e = true → e.on ∈ done

theorem Rdy.congr {d d' : List Nat} (h : ∀ x, x ∈ d ↔ x ∈ d') {j : Nat} : Rdy ops d j ↔ Rdy ops d' j := by
  unfold Rdy
  simp only [h]

/-- all orders -/
def wpT (P : Program) (ops : Array Oper) (fl : Nat → Bool) (F : Act → World → Prop) : Nat → List Nat → Act → World → Prop
  | 0, done, a, w => (∀ j, ¬ Rdy ops done j) ∧ F a w
  | n + 1, done, a, w => ((∀ j, ¬ Rdy ops done j) → F a w) ∧ ∀ j, Rdy ops done j → opWp P ops j (fun a' w' => (fl j = true → Old w w') ∧ wpT P ops fl F n (j :: done) a' w') a w

/-- some orders: one that only reads, or all that are ready -/
def wpC (P : Program) (ops : Array Oper) (fl eag : Nat → Bool) (F : Act → World → Prop) : Nat → List Nat → Act → World → Prop
  | 0, done, a, w => (∀ j, ¬ Rdy ops done j) ∧ F a w
  | n + 1, done, a, w =>
    (∃ q, eag q = true ∧ Rdy ops done q ∧ opWp P ops q (fun a' w' => (fl q = true → Old w w') ∧ wpC P ops fl eag F n (q :: done) a' w') a w) ∨
    (((∀ j, ¬ Rdy ops done j) → F a w) ∧ ∀ j, Rdy ops done j → opWp P ops j (fun a' w' => (fl j = true → Old w w') ∧ wpC P ops fl eag F n (j :: done) a' w') a w)

variable {fl : Nat → Bool} {F : Act → World → Prop} {A : Array (List Nat)}

theorem wpT_congr : ∀ {n : Nat} {d d' : List Nat} {a : Act} {w : World}, (∀ x, x ∈ d ↔ x ∈ d') → wpT P ops fl F n d a w → wpT P ops fl F n d' a w
  | 0, d, d', a, w, h, hh => ⟨fun j hj => hh.1 j ((Rdy.congr h).2 hj), hh.2⟩
  | n + 1, d, d', a, w, h, hh => ⟨fun h0 => hh.1 fun j hj => h0 j ((Rdy.congr h).1 hj), fun j hj =>
      opWp_mono (fun a' w' hk => ⟨hk.1, wpT_congr (fun x => by simp only [List.mem_cons, h]) hk.2⟩) (hh.2 j ((Rdy.congr h).2 hj))⟩

theorem wpT_end : ∀ {n : Nat} {d : List Nat} {a : Act} {w : World}, wpT P ops fl F n d a w →
    ∃ a' w', F a' w' ∧ ∀ x, (∀ t, x = .tmp t → ∀ i, i ∉ d → (ops[i]?).bind (·.dst) ≠ some t) → a'.eval x = a.eval x
  | 0, d, a, w, h => ⟨a, w, h.2, fun _ _ => rfl⟩
  | n + 1, d, a, w, h => by
    by_cases h0 : ∀ j, ¬ Rdy ops d j
    · exact ⟨a, w, h.1 h0, fun _ _ => rfl⟩
    · obtain ⟨j, hj⟩ := Classical.not_forall.1 h0
      have hj := Classical.not_not.1 hj
      obtain ⟨a1, w1, v, df, h1, e1⟩ := opWp_some (h.2 j hj)
      obtain ⟨a2, w2, h2, e2⟩ := wpT_end h1.2
      refine ⟨a2, w2, h2, fun x hx => ?_⟩
      rw [e2 x (fun t ht i hi => hx t ht i (fun h => hi (by simp [h]))), e1]
      exact eval_put_other fun t ht => hx t ht j hj.1

def Clo (A : Array (List Nat)) (done : List Nat) : Prop := ∀ p ∈ done, ∀ x ∈ A.getD p [], x ∈ done

theorem rdy_anc (hS : Static P ops A) {d : List Nat} (hI : Clo A d) {j : Nat} (hj : Rdy ops d j) : ∀ x ∈ A.getD j [], x ∈ d := by
  obtain ⟨_, o, ho, hall⟩ := hj
  intro x hx
  obtain ⟨e, he, hb, h⟩ := hS.clos j o ho x hx
  rcases h with rfl | h
  · exact hall e he hb
  · exact hI e.on (hall e he hb) x h
theorem clo_cons (hS : Static P ops A) {d : List Nat} (hI : Clo A d) {j : Nat} (hj : Rdy ops d j) : Clo A (j :: d) := by
  intro p hp x hx
  rcases List.mem_cons.1 hp with rfl | hp
  · exact List.mem_cons_of_mem _ (rdy_anc hS hI hj x hx)
  · exact List.mem_cons_of_mem _ (hI p hp x hx)
theorem rdy_cons {d : List Nat} {j q : Nat} (hj : Rdy ops d j) (hne : j ≠ q) : Rdy ops (q :: d) j := by
  obtain ⟨h1, o, ho, h2⟩ := hj
  exact ⟨by simp [h1, hne], o, ho, fun e he hb => List.mem_cons_of_mem _ (h2 e he hb)⟩

/-- what only reads, with nothing beside it that writes what was there -/
def EagOk (P : Program) (ops : Array Oper) (A : Array (List Nat)) (fl : Nat → Bool) (q : Nat) : Prop :=
  ∃ oq ld, ops[q]? = some oq ∧ quietKind P oq = some ld ∧ (ld = true → ∀ j oj, ops[j]? = some oj → j ≠ q → j ∉ A.getD q [] → q ∉ A.getD j [] → fl j = true ∨ newKind oj = true ∨ ∃ l, quietKind P oj = some l)

theorem wpT_first (hS : Static P ops A) (hF : ∀ a' w', F a' w' → plainEnd ops a') {q : Nat} (hq : EagOk P ops A fl q) : ∀ {n : Nat} {d : List Nat} {a : Act} {w : World}, Clo A d → Rdy ops d q →
    opWp P ops q (fun a' w' => (fl q = true → Old w w') ∧ wpT P ops fl F n (q :: d) a' w') a w → wpT P ops fl F (n + 1) d a w := by
  intro n
  induction n with
  | zero =>
    intro d a w hI hr h
    refine ⟨fun h0 => absurd hr (h0 q), fun j hj => ?_⟩
    by_cases hjq : j = q
    · subst hjq; exact h
    · obtain ⟨a1, w1, _, _, h1, _⟩ := opWp_some h
      exact absurd (rdy_cons hj hjq) (h1.2.1 j)
  | succ n ih =>
    intro d a w hI hr h
    refine ⟨fun h0 => absurd hr (h0 q), fun j hj => ?_⟩
    by_cases hjq : j = q
    · subst hjq; exact h
    · obtain ⟨oq, ld, hoq, hk, hld⟩ := hq
      obtain ⟨_, oj, hoj, _⟩ := hj
      have hj : Rdy ops d j := ⟨‹_›, oj, hoj, ‹_›⟩
      have aq := rdy_anc hS hI hr
      have aj := rdy_anc hS hI hj
      have nq : j ∉ A.getD q [] := fun h => hj.1 (aq j h)
      have nj : q ∉ A.getD j [] := fun h => hr.1 (aj q h)
      have hend : ∀ (x : Nat) (ox : Oper), ops[x]? = some ox → (∃ l, quietKind P ox = some l) → (∀ y ∈ A.getD x [], y ∈ d) → ∀ a' w', wpT P ops fl F n (j :: q :: d) a' w' → ∃ a2, plainEnd ops a2 ∧ ∀ u ∈ looks ops ox, a2.eval u = a'.eval u := by
        intro x ox hox hkx hax a' w' hw
        obtain ⟨a2, w2, h2, e2⟩ := wpT_end hw
        refine ⟨a2, hF _ _ h2, fun u hu => e2 u fun t ht i hi hd => hi ?_⟩
        simp [hax i (hS.unw x ox hox hkx u hu t ht i hd)]
      have hunw : ∀ (x : Nat) (ox : Oper), ops[x]? = some ox → (∃ l, quietKind P ox = some l) → (∀ y ∈ A.getD x [], y ∈ d) → ∀ l : List Nat, (∀ i ∈ l, i ∉ d) → ∀ u ∈ looks ops ox, Unwritten ops l u := by
        intro x ox hox hkx hax l hl u hu t ht i hi hd
        exact hl i hi (hax i (hS.unw x ox hox hkx u hu t ht i hd))
      have h1 : wpL P ops (wpT P ops fl F n (j :: q :: d)) [(q, fl q), (j, fl j)] a w :=
        opWp_mono (fun a' w' hk => ⟨hk.1, hk.2.2 j (rdy_cons hj hjq)⟩) h
      have h2 := swapA hoq hoj hk (hend q oq hoq ⟨ld, hk⟩ aq) (fun hkj => hend j oj hoj hkj aj) (hunw q oq hoq ⟨ld, hk⟩ aq _ (fun i hi => by
          simp only [List.map_cons, List.map_nil, List.mem_cons, List.not_mem_nil, or_false] at hi
          rcases hi with rfl | rfl
          · exact hr.1
          · exact hj.1)) (hS.apart q j oq oj hoq hoj (Ne.symm hjq) nq nj) (fun cs b => hS.sel q oq cs b hoq) (fun cs b => hS.sel j oj cs b hoj)
          (fun h => hld h j oj hoj hjq nq nj) (fun hkj => hunw j oj hoj hkj aj _ (fun i hi => by
          simp only [List.map_nil, List.mem_cons, List.not_mem_nil, or_false] at hi
          subst hi; exact hj.1)) h1
      refine opWp_mono (fun a' w' hk' => ⟨hk'.1, ?_⟩) h2
      refine ih (clo_cons hS hI hj) (rdy_cons hr (Ne.symm hjq)) (opWp_mono (fun a2 w2 hk2 => ⟨hk2.1, ?_⟩) hk'.2)
      exact wpT_congr (fun x => by simp only [List.mem_cons]; constructor <;> (rintro (h | h | h) <;> simp [h])) hk2.2

theorem wpT_of_wpC (hS : Static P ops A) (hF : ∀ a' w', F a' w' → plainEnd ops a') {eag : Nat → Bool} (he : ∀ q, eag q = true → EagOk P ops A fl q) : ∀ {n : Nat} {d : List Nat} {a : Act} {w : World}, Clo A d →
    wpC P ops fl eag F n d a w → wpT P ops fl F n d a w
  | 0, _, _, _, _, h => h
  | n + 1, d, a, w, hI, h => by
    rcases h with ⟨q, h1, h2, h3⟩ | h
    · exact wpT_first hS hF (he q h1) hI h2 (opWp_mono (fun a' w' hk => ⟨hk.1, wpT_of_wpC hS hF he (clo_cons hS hI h2) hk.2⟩) h3)
    · exact ⟨h.1, fun j hj => opWp_mono (fun a' w' hk => ⟨hk.1, wpT_of_wpC hS hF he (clo_cons hS hI hj) hk.2⟩) (h.2 j hj)⟩

theorem wpAny_of_wpT {Q : Exit → Act → World → Prop} (hF : ∀ a' w', F a' w' → Q .normal a' w') : ∀ {n : Nat} {d : List Nat} {listed : Array Bool} {a : Act} {w : World}, listed.size = ops.size →
    (∀ i, i < ops.size → (listed.getD i true = true ↔ i ∈ d)) → (∀ o ∈ ops, ∀ e ∈ o.after, Region.binds .any e = true → e.on < ops.size) → wpT P ops fl F n d a w → wpAny P .any ops Q n listed a w := by
  have hr : ∀ {d : List Nat} {listed : Array Bool}, listed.size = ops.size → (∀ i, i < ops.size → (listed.getD i true = true ↔ i ∈ d)) → (∀ o ∈ ops, ∀ e ∈ o.after, Region.binds .any e = true → e.on < ops.size) →
      ∀ j, j ∈ Region.ready .any ops listed ↔ Rdy ops d j := by
    intro d listed hsz hl hb j
    rw [mem_ready]
    unfold Rdy
    constructor
    · rintro ⟨h1, o, ho, h2⟩
      have hj := (Array.getElem?_eq_some_iff.1 ho).1
      refine ⟨fun h => ?_, o, ho, fun e he hbe => ?_⟩
      · rw [(hl j hj).2 h] at h1; cases h1
      · have he' := hb o (Array.mem_of_getElem? ho) e he hbe
        refine (hl _ he').1 ?_
        have := h2 e he hbe
        have hlt : e.on < listed.size := by omega
        simp only [Array.getD, hlt, dite_true] at this ⊢
        exact this
    · rintro ⟨h1, o, ho, h2⟩
      have hj := (Array.getElem?_eq_some_iff.1 ho).1
      refine ⟨?_, o, ho, fun e he hbe => ?_⟩
      · cases hc : listed.getD j true with
        | false => rfl
        | true => exact absurd ((hl j hj).1 hc) h1
      · have he' := hb o (Array.mem_of_getElem? ho) e he hbe
        have := (hl _ he').2 (h2 e he hbe)
        have hlt : e.on < listed.size := by omega
        simp only [Array.getD, hlt, dite_true] at this ⊢
        exact this
  intro n
  induction n with
  | zero =>
    intro d listed a w hsz hl hb h
    refine ⟨List.eq_nil_iff_forall_not_mem.2 fun j hj => h.1 j ((hr hsz hl hb j).1 hj), hF _ _ h.2⟩
  | succ n ih =>
    intro d listed a w hsz hl hb h
    refine ⟨fun h0 => hF _ _ (h.1 fun j hj => ?_), fun j hj => ?_⟩
    · have := (hr hsz hl hb j).2 hj
      rw [h0] at this; cases this
    · have hj' := (hr hsz hl hb j).1 hj
      refine wpOp_of_opWp (opWp_mono (fun a' w' hk => ih (by simpa using hsz) (fun i hi => ?_) hb hk.2) (h.2 j hj'))
      have hjlt : j < ops.size := (Array.getElem?_eq_some_iff.1 hj'.2.choose_spec.1).1
      by_cases hij : j = i
      · subst hij
        have : j < listed.size := by omega
        simp [this]
      · rw [getD_set_ne true hij, hl i hi]
        simp [Ne.symm hij]

/-! ### the Bool -/
def eager (P : Program) (ops : Array Oper) (A : Array (List Nat)) (fl : Nat → Bool) (q : Nat) : Bool :=
  match ops[q]? with
  | none => false
  | some oq => match quietKind P oq with
    | none => false
    | some false => true
    | some true => (List.range ops.size).all fun j => j == q || (A.getD q []).contains j || (A.getD j []).contains q || fl j || match ops[j]? with | some oj => newKind oj || (quietKind P oj).isSome | none => true

theorem eager_ok {q : Nat} (h : eager P ops A fl q = true) : EagOk P ops A fl q := by
  unfold eager at h
  cases ho : ops[q]? with
  | none => rw [ho] at h; cases h
  | some oq =>
    rw [ho] at h
    simp only at h
    cases hk : quietKind P oq with
    | none => rw [hk] at h; cases h
    | some ld =>
      refine ⟨oq, ld, ho, hk, fun hl j oj hj hne h1 h2 => ?_⟩
      subst hl
      rw [hk] at h
      have := List.all_eq_true.1 h j (List.mem_range.2 (Array.getElem?_eq_some_iff.1 hj).1)
      simp only [hj, Bool.or_eq_true, beq_iff_eq, List.contains_iff_mem] at this
      rcases this with (((h | h) | h) | h) | h
      · exact absurd h hne
      · exact absurd h h1
      · exact absurd h h2
      · exact .inl h
      · rcases h with h | h
        · exact .inr (.inl h)
        · exact .inr (.inr (by cases hq : quietKind P oj with | none => rw [hq] at h; cases h | some l => exact ⟨l, rfl⟩))

def treeOkA (P : Program) (ops : Array Oper) (A : Array (List Nat)) : Bool := (List.range ops.size).all (opOk P ops A)
def treeOk (P : Program) (ops : Array Oper) : Bool := treeOkA P ops (ancs ops)

/-- 'plainEnd' as a Bool over a frame that is written out -/
def plainB (ops : Array Oper) (a : Act) : Bool := ops.toList.all fun o => !Region.wanted o (yielded ops a.tmps) || (needs o).all fun x => needV o (a.eval x)
theorem plainEnd_of {a : Act} (h : plainB ops a = true) : plainEnd ops a := by
  intro o ho hw x hx
  have := List.all_eq_true.1 h o ho
  simp only [hw, Bool.not_true, Bool.false_or] at this
  exact List.all_eq_true.1 this x hx

theorem tree_spec (h : treeOk P ops = true) {eag : Nat → Bool} (he : ∀ q, eag q = true → eager P ops (ancs ops) fl q = true) {Q : Exit → Act → World → Prop} {id : Nat} {a : Act} {w : World} (hm : P.follows .mixedOrders = true)
    (hw : wpC P ops fl eag (fun a' w' => plainEnd ops a' ∧ Q .normal a' w') ops.size [] a { w with drawn := w.drawn + 1 }) : (Code.region id ops true).wp P Q a w := by
  have hS : Static P ops (ancs ops) := static_of h
  refine wp_region_any hm ?_
  refine wpAny_of_wpT (fl := fl) (d := []) (fun a' w' hh => hh.2) (by simp) (fun i hi => by simp [hi]) (fun o ho e he hb => ?_) (wpT_of_wpC hS (fun _ _ h => h.1) (fun q hq => eager_ok (he q hq)) (fun p hp => by cases hp) hw)
  obtain ⟨i, hi, rfl⟩ := Array.mem_iff_getElem.1 ho
  exact (hS.edge i _ (Array.getElem?_eq_getElem hi) e he hb).1
end
end Go.Draw
