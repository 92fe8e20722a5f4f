/-
  A REGION THAT DRAWS ITS ORDER, TURNED INTO ONE PLAIN LIST OF OPERATIONS: what only reads commutes with what makes new memory; the rest is a chain. No program in sight. The conditions are a Bool over the region ('drawOk'), and at the region's end that the operands of its comparisons and sums are plain values.
-/
import Derived.WalkKit
import Derived.OrdersHeld
set_option linter.all false
set_option linter.unusedSimpArgs false
set_option linter.unusedVariables false
namespace Go.Draw
open Go

section trees
variable (P : Program)

def Halts {α : Type} : Sem α → Prop
  | .pure _ => False
  | .load _ _ k => ∀ v, Halts (k v)
  | .store _ _ _ k => Halts k
  | .new _ k => ∀ r, Halts (k r)
  | .shape _ k => ∀ s, Halts (k s)
  | .freeze _ _ k => Halts k
  | .frozen _ k => ∀ b, Halts (k b)
  | .getObj _ k => ∀ o, Halts (k o)
  | .setObj _ _ k => Halts k
  | .choose _ k => ∀ n, Halts (k n)
  | .sys _ k => ∀ r, Halts (k r)
  | .program k => Halts (k P)
  | .mark _ k => Halts k
  | .halt _ => True

def Qt (ld : Bool) {α : Type} : Sem α → Prop
  | .pure _ => True
  | .load _ _ k => ld = true ∧ ∀ v, Qt ld (k v)
  | .getObj _ k => ld = true ∧ ∀ o, Qt ld (k o)
  | .program k => Qt ld (k P)
  | .halt _ => True
  | .choose _ k => ∀ n, Halts P (k n)
  | .new _ k => ∀ r, Halts P (k r)
  | _ => False

def Nt {α : Type} : Sem α → Prop
  | .pure _ => True
  | .new _ k => ∀ r, Nt (k r)
  | .choose _ k => ∀ n, Nt (k n)
  | .mark _ k => Nt k
  | .program k => Nt (k P)
  | .halt _ => True
  | _ => False
end trees

def Old (w w2 : World) : Prop := w.heap.size ≤ w2.heap.size ∧ ∀ k, k < w.heap.size → w2.heap[k]? = w.heap[k]?
theorem Old.refl (w : World) : Old w w := ⟨Nat.le_refl _, fun _ _ => rfl⟩
theorem Old.trans {a b c : World} (h : Old a b) (k : Old b c) : Old a c :=
  ⟨Nat.le_trans h.1 k.1, fun i hi => (k.2 i (Nat.lt_of_lt_of_le hi h.1)).trans (h.2 i hi)⟩
theorem Old.of_below {w w2 : World} (h : RowKit.Below w.heap.size w w2) : Old w w2 := ⟨h.size, h.block⟩

section
variable {P : Program}

theorem Halts.no {α : Type} (e : Sem α) (h : Halts P e) (w : World) (v : α) (w' : World) : e.run P w ≠ .ok v w' := by
  induction e generalizing w with
  | pure a => exact absurd h (by simp [Halts])
  | load m a k ih =>
    simp only [Sem.run]
    split
    · exact ih _ (h _) _
    · split
      · exact ih _ (h _) _
      · simp
  | store m a u k ih =>
    cases u <;> simp only [Sem.run] <;> (repeat' split) <;> first | (exact ih h _) | simp
  | new o k ih => exact ih _ (h _) _
  | shape r k ih => exact ih _ (h _) _
  | freeze a n k ih => exact ih h _
  | frozen a k ih => exact ih _ (h _) _
  | getObj r k ih =>
    simp only [Sem.run]
    split <;> first | exact ih _ (h _) _ | simp
  | setObj r o k ih =>
    simp only [Sem.run]
    split <;> first | exact ih h _ | simp
  | choose q k ih =>
    simp only [Sem.run]
    split <;> exact ih _ (h _) _
  | sys c k ih => exact ih _ (h _) _
  | program k ih => exact ih _ h _
  | mark m k ih => exact ih h _
  | halt x => simp [Sem.run]

theorem Halts.bind {α β : Type} (e : Sem α) (f : α → Sem β) (h : Halts P e) : Halts P (e.bind f) := by
  induction e with
  | pure a => exact absurd h (by simp [Halts])
  | load m a k ih => exact fun v => ih v (h v)
  | store m a u k ih => exact ih h
  | new o k ih => exact fun r => ih r (h r)
  | shape r k ih => exact fun r => ih r (h r)
  | freeze a n k ih => exact ih h
  | frozen a k ih => exact fun r => ih r (h r)
  | getObj r k ih => exact fun r => ih r (h r)
  | setObj r o k ih => exact ih h
  | choose q k ih => exact fun r => ih r (h r)
  | sys c k ih => exact fun r => ih r (h r)
  | program k ih => exact ih P h
  | mark m k ih => exact ih h
  | halt x => trivial

theorem Qt.bind {α β : Type} {ld : Bool} (e : Sem α) (f : α → Sem β) (h : Qt P ld e) (hf : ∀ a, Qt P ld (f a)) : Qt P ld (e.bind f) := by
  induction e with
  | pure a => exact hf a
  | load m a k ih => exact ⟨h.1, fun v => ih v (h.2 v)⟩
  | getObj r k ih => exact ⟨h.1, fun v => ih v (h.2 v)⟩
  | program k ih => exact ih P h
  | halt x => trivial
  | choose q k ih => exact fun n => Halts.bind _ _ (h n)
  | new o k ih => exact fun n => Halts.bind _ _ (h n)
  | store m a u k ih => exact absurd h (by simp [Qt])
  | shape r k ih => exact absurd h (by simp [Qt])
  | freeze a n k ih => exact absurd h (by simp [Qt])
  | frozen a k ih => exact absurd h (by simp [Qt])
  | setObj r o k ih => exact absurd h (by simp [Qt])
  | sys c k ih => exact absurd h (by simp [Qt])
  | mark m k ih => exact absurd h (by simp [Qt])

theorem Nt.bind {α β : Type} (e : Sem α) (f : α → Sem β) (h : Nt P e) (hf : ∀ a, Nt P (f a)) : Nt P (e.bind f) := by
  induction e with
  | pure a => exact hf a
  | new o k ih => exact fun r => ih r (h r)
  | choose q k ih => exact fun r => ih r (h r)
  | mark m k ih => exact ih h
  | program k ih => exact ih P h
  | halt x => trivial
  | load m a k ih => exact absurd h (by simp [Nt])
  | getObj r k ih => exact absurd h (by simp [Nt])
  | store m a u k ih => exact absurd h (by simp [Nt])
  | shape r k ih => exact absurd h (by simp [Nt])
  | freeze a n k ih => exact absurd h (by simp [Nt])
  | frozen a k ih => exact absurd h (by simp [Nt])
  | setObj r o k ih => exact absurd h (by simp [Nt])
  | sys c k ih => exact absurd h (by simp [Nt])

theorem block_lt_of_heap {w : World} {k : Nat} {o : Obj} (h : w.heap[k]? = some o) : k < w.heap.size := (Array.getElem?_eq_some_iff.1 h).1

theorem farLoad_old {w w2 : World} (ho : Old w w2) {a : Addr} {b : Bool} {r : Value × List Addr} (h : w.farLoad P a b = .ok r) : w2.farLoad P a b = .ok r := by
  unfold World.farLoad at *
  cases hb : w.heap[a.block]? with
  | none => rw [hb] at h; simp at h
  | some o =>
    have e := ho.2 a.block (block_lt_of_heap hb)
    rw [e]
    rw [hb] at h ⊢
    cases o <;> simp only at h ⊢ <;> first | (simp at h; done) | skip
    rename_i at_ u
    cases hc : w.heap[at_.block]? with
    | none => 
      exfalso
      have hs : ∀ r, w.seen P at_ u a b ≠ .ok r := by
        intro r hh
        unfold World.seen at hh
        rw [hc] at hh
        cases h1 : plainCell P P.depth u a.off <;> simp only [h1, bind, Except.bind, pure, Except.pure] at hh
        · split at hh <;> simp [throw, throwThe, MonadExceptOf.throw] at hh
        · rename_i like
          cases h2 : like.bytes? <;> simp only [h2, Option.map_none, Option.map_some] at hh
          · split at hh <;> simp [throw, throwThe, MonadExceptOf.throw] at hh
          · cases h3 : byteOfCell P P.depth u a.off <;> simp only [h3] at hh <;> split at hh <;> simp [throw, throwThe, MonadExceptOf.throw] at hh
      have : ∀ r, w.viewLoad P at_ u a b ≠ .ok r := by
        intro r hh
        unfold World.viewLoad at hh
        cases hq : w.seen P at_ u a b with
        | ok r => exact hs r hq
        | error x => rw [hq] at hh; simp [bind, Except.bind] at hh
      cases hv : w.viewLoad P at_ u a b with
      | ok r => exact this r hv
      | error s => rw [hv] at h; simp at h
    | some o2 =>
      have e2 := ho.2 at_.block (block_lt_of_heap hc)
      have : w2.viewLoad P at_ u a b = w.viewLoad P at_ u a b := by
        unfold World.viewLoad World.seen
        rw [e2]
      rw [this]; exact h

theorem Qt.run {α : Type} {ld : Bool} (e : Sem α) (h : Qt P ld e) (w : World) (v : α) (w' : World) (hr : e.run P w = .ok v w') :
    w' = w ∧ ∀ w2, (ld = true → Old w w2) → e.run P w2 = .ok v w2 := by
  induction e with
  | pure a =>
    simp only [Sem.run, Result.ok.injEq] at hr ⊢
    obtain ⟨rfl, rfl⟩ := hr
    exact ⟨rfl, fun w2 _ => ⟨rfl, trivial⟩⟩
  | load m a k ih =>
    simp only [Sem.run] at hr ⊢
    cases hc : w.cell? a with
    | some u =>
      rw [hc] at hr
      obtain ⟨e1, e2⟩ := ih u (h.2 u) hr
      refine ⟨e1, fun w2 ho => ?_⟩
      have hb : a.block < w.heap.size := World.block_lt_of_cell? w a hc
      have : w2.cell? a = some u := (World.cell?_of_block ((ho h.1).2 a.block hb)).trans hc
      rw [this]
      exact e2 w2 ho
    | none =>
      rw [hc] at hr
      simp only at hr
      cases hf : w.farLoad P a (m == .atomic) with
      | error x => rw [hf] at hr; simp at hr
      | ok r =>
        rw [hf] at hr
        obtain ⟨e1, e2⟩ := ih r.1 (h.2 _) hr
        refine ⟨e1, fun w2 ho => ?_⟩
        have hfar := farLoad_old (ho h.1) hf
        have hcell : w2.cell? a = none := by
          have hb : a.block < w.heap.size := by
            unfold World.farLoad at hf
            cases hb : w.heap[a.block]? with
            | none => rw [hb] at hf; simp at hf
            | some o => exact block_lt_of_heap hb
          exact (World.cell?_of_block ((ho h.1).2 a.block hb)).trans hc
        rw [hcell]
        simp only [hfar]
        exact e2 w2 ho
  | getObj r k ih =>
    simp only [Sem.run] at hr ⊢
    cases hb : w.heap[r]? with
    | none => rw [hb] at hr; simp at hr
    | some o =>
      rw [hb] at hr
      cases o <;> simp only at hr <;> first | (simp at hr; done) | skip
      all_goals
        obtain ⟨e1, e2⟩ := ih _ (h.2 _) hr
        refine ⟨e1, fun w2 ho => ?_⟩
        rw [(ho h.1).2 r (block_lt_of_heap hb), hb]
        exact e2 w2 ho
  | program k ih => exact ih P h hr
  | halt x => simp [Sem.run] at hr
  | choose q k ih =>
    simp only [Sem.run] at hr
    exfalso
    split at hr
    · exact Halts.no _ (h _) _ _ _ hr
    · exact Halts.no _ (h _) _ _ _ hr
  | new o k ih => exact absurd hr (Halts.no _ (h _) _ _ _)
  | store m a u k ih => exact absurd h (by simp [Qt])
  | shape r k ih => exact absurd h (by simp [Qt])
  | freeze a n k ih => exact absurd h (by simp [Qt])
  | frozen a k ih => exact absurd h (by simp [Qt])
  | setObj r o k ih => exact absurd h (by simp [Qt])
  | sys c k ih => exact absurd h (by simp [Qt])
  | mark m k ih => exact absurd h (by simp [Qt])

theorem Nt.run {α : Type} (e : Sem α) (h : Nt P e) (w : World) (v : α) (w' : World) (hr : e.run P w = .ok v w') : Old w w' := by
  induction e generalizing w with
  | pure a =>
    simp only [Sem.run, Result.ok.injEq] at hr
    rw [← hr.2]; exact Old.refl _
  | new o k ih =>
    refine Old.trans ?_ (ih _ (h _) _ hr)
    refine ⟨by simp, fun k hk => ?_⟩
    simp only [Array.getElem?_push]
    rw [if_neg (by omega)]
  | choose q k ih =>
    simp only [Sem.run] at hr
    split at hr
    · exact ih _ (h _) _ hr
    · have := ih _ (h _) _ hr
      exact ⟨this.1, this.2⟩
  | mark m k ih => exact ih h _ hr
  | program k ih => exact ih P h _ hr
  | halt x => simp [Sem.run] at hr
  | load m a k ih => exact absurd h (by simp [Nt])
  | getObj r k ih => exact absurd h (by simp [Nt])
  | store m a u k ih => exact absurd h (by simp [Nt])
  | shape r k ih => exact absurd h (by simp [Nt])
  | freeze a n k ih => exact absurd h (by simp [Nt])
  | frozen a k ih => exact absurd h (by simp [Nt])
  | setObj r o k ih => exact absurd h (by simp [Nt])
  | sys c k ih => exact absurd h (by simp [Nt])
end
end Go.Draw
