/-
  ONE LIST SERVES EVERY ORDER: a region that draws its order, whose operations (a Bool over the region) are quiet, make new memory, or form a chain.
-/
import Derived.Test.YtnoocfcmlilffaaDraw4
set_option linter.all false
set_option linter.unusedSimpArgs false
set_option linter.unusedVariables false
namespace Go.Draw
open Go

def Fls : Exit → Act → World → Prop := fun _ _ _ => False
theorem no_letsOut : ¬ LetsOut Fls := fun ⟨_, _, h⟩ => h

section
variable {P : Program} {ops : Array Oper}

def opWp (P : Program) (ops : Array Oper) (i : Nat) (K : Act → World → Prop) (a : Act) (w : World) : Prop := wpOp P ops Fls i K a w

theorem opWp_mono {i : Nat} {a : Act} {w : World} {K K' : Act → World → Prop} (h : ∀ a w, K a w → K' a w) (hh : opWp P ops i K a w) : opWp P ops i K' a w := wpOp_mono h hh

/-- the list's meaning: each operation by itself; a marked one must leave all that was there -/
def wpL (P : Program) (ops : Array Oper) (F : Act → World → Prop) : List (Nat × Bool) → Act → World → Prop
  | [], a, w => F a w
  | (i, c) :: rest, a, w => opWp P ops i (fun a' w' => (c = true → Old w w') ∧ wpL P ops F rest a' w') a w

theorem wp_false {o : Oper} {a : Act} {w : World} {K : Act → World → Prop} {Q : Exit → Act → World → Prop} (h : o.wp P a w K Fls) : o.wp P a w K Q := by
  unfold Oper.wp at *
  generalize (execOp a.eval o).run P w = r at *
  cases r with
  | ok n w' =>
    cases n <;> simp only [Oper.upon] at h ⊢ <;> first
      | exact h
      | exact Calls.mono h (fun e w'' he => by cases e with | returned v => exact he | panicked c => exact he.elim | outgrown => exact (no_letsOut he).elim)
  | halt x w' => cases x <;> simp only [Oper.upon] at h ⊢ <;> exact h.elim

theorem wpOp_of_opWp {i : Nat} {a : Act} {w : World} {K : Act → World → Prop} {Q : Exit → Act → World → Prop} (h : opWp P ops i K a w) : wpOp P ops Q i K a w := by
  unfold opWp wpOp at *
  cases ho : ops[i]? with
  | none => simpa [ho] using h
  | some o =>
    simp only [ho] at h ⊢
    split
    · rename_i hw
      simp only [hw, if_true] at h
      rcases h with h | ⟨_, h⟩
      · exact .inl (wp_false h)
      · exact (no_letsOut h).elim
    · rename_i hw
      simp only [hw] at h
      exact h

/-- some way through an operation: the frame behind it is the one ahead of it but for its own temporary -/
theorem wp_some {o : Oper} {a : Act} {w : World} {K : Act → World → Prop} (h : o.wp P a w K Fls) : ∃ a' w' v d, K a' w' ∧ a' = ({ a with defers := d } : Act).put o.dst v := by
  unfold Oper.wp at h
  generalize (execOp a.eval o).run P w = r at *
  cases r with
  | halt x w' => cases x <;> simp only [Oper.upon] at h <;> exact h.elim
  | ok n w' =>
    cases n <;> simp only [Oper.upon] at h
    case value v => exact ⟨_, _, v, a.defers, h, rfl⟩
    case skip => exact ⟨_, _, undef, a.defers, h, rfl⟩
    case defer d => exact ⟨_, _, undef, d :: a.defers, h, rfl⟩
    case enter f args =>
      obtain ⟨e, w'', fr, hR, _⟩ := h []
      cases e with
      | returned v => exact ⟨_, _, v, a.defers, hR, rfl⟩
      | panicked c => exact hR.elim
      | outgrown => exact (no_letsOut hR).elim
    case row row args =>
      obtain ⟨v, w'', hR, _⟩ := h default []
      exact ⟨_, _, v, a.defers, hR, rfl⟩

theorem opWp_some {i : Nat} {a : Act} {w : World} {K : Act → World → Prop} (h : opWp P ops i K a w) :
    ∃ a' w' v d, K a' w' ∧ a' = ({ a with defers := d } : Act).put ((ops[i]?).bind (·.dst)) v := by
  unfold opWp wpOp at h
  cases ho : ops[i]? with
  | none => simp only [ho] at h; exact ⟨a, w, undef, a.defers, h, rfl⟩
  | some o =>
    simp only [ho] at h
    split at h
    · rcases h with h | ⟨_, h⟩
      · exact wp_some h
      · exact (no_letsOut h).elim
    · exact ⟨_, _, undef, a.defers, h, rfl⟩

/-- an operand that no operation of the list writes -/
def Unwritten (ops : Array Oper) (l : List Nat) (x : Operand) : Prop := ∀ t, x = .tmp t → ∀ i ∈ l, (ops[i]?).bind (·.dst) ≠ some t

theorem eval_put_other {a : Act} {dst : Option Tmp} {v : Value} {d : List Deferred} {x : Operand} (h : ∀ t, x = .tmp t → dst ≠ some t) : (({ a with defers := d } : Act).put dst v).eval x = a.eval x := by
  rw [Act.eval_put (fun t ht hx => h t hx ht)]
  cases x <;> rfl

theorem wpL_end {F : Act → World → Prop} : ∀ (l : List (Nat × Bool)) (a : Act) (w : World), wpL P ops F l a w →
    ∃ a' w', F a' w' ∧ ∀ x, Unwritten ops (l.map (·.1)) x → a'.eval x = a.eval x
  | [], a, w, h => ⟨a, w, h, fun _ _ => rfl⟩
  | (i, c) :: l, a, w, h => by
    obtain ⟨a1, w1, v, d, h1, e1⟩ := opWp_some h
    obtain ⟨a2, w2, h2, e2⟩ := wpL_end l a1 w1 h1.2
    refine ⟨a2, w2, h2, fun x hx => ?_⟩
    rw [e2 x (fun t ht j hj => hx t ht j (by simp [hj])), e1]
    exact eval_put_other fun t ht => hx t ht i (by simp)

/-- at the region's end every operand that has to be plain is -/
def plainEnd (ops : Array Oper) (a : Act) : Prop := ∀ o ∈ ops.toList, Region.wanted o (yielded ops a.tmps) = true → ∀ x ∈ needs o, needV o (a.eval x) = true

/-- the slot that an operation's guard looks at -/
def guardAt (ops : Array Oper) (o : Oper) : List Tmp :=
  match o.guard with
  | none => []
  | some (g, _) => match (ops[g]?).bind (·.dst) with
    | none => []
    | some t => [t]
/-- what an operation looks at, as operands: what has to be plain, and its guard -/
def looks (ops : Array Oper) (o : Oper) : List Operand := needs o ++ ((guardAt ops o).map Operand.tmp)

theorem yielded_eval (a : Act) (g : Nat) : yielded ops a.tmps g = (match (ops[g]?).bind (·.dst) with | none => none | some t => match a.eval (.tmp t) with | .bool b => some b | _ => none) := by
  unfold yielded
  cases ht : (ops[g]?).bind (·.dst) with
  | none => rfl
  | some t =>
    simp only [Option.bind_some, Act.eval]
    cases hc : a.tmps[t]? with
    | none => simp [hc, undef]
    | some v => simp only [Array.getD_eq_getD_getElem?, hc, Option.getD_some]; cases v <;> rfl

theorem wanted_congr {o : Oper} {a a' : Act} (h : ∀ t ∈ guardAt ops o, a'.eval (.tmp t) = a.eval (.tmp t)) :
    Region.wanted o (yielded ops a'.tmps) = Region.wanted o (yielded ops a.tmps) := by
  unfold Region.wanted
  cases hg : o.guard with
  | none => rfl
  | some gw =>
    obtain ⟨g, want⟩ := gw
    have hy : yielded ops a'.tmps g = yielded ops a.tmps g := by
      rw [yielded_eval, yielded_eval]
      cases ht : (ops[g]?).bind (·.dst) with
      | none => rfl
      | some t =>
        have := h t (by simp [guardAt, hg, ht])
        simp only [this]
    simp only [hy]

theorem quiet_head {F : Act → World → Prop} {ld : Bool} {q : Nat} {c : Bool} {r : List (Nat × Bool)} {oq : Oper} {a : Act} {w : World}
    (hq : ops[q]? = some oq) (hk : quietKind P oq = some ld) (hF : ∀ a' w', F a' w' → ∃ a2, plainEnd ops a2 ∧ ∀ x ∈ looks ops oq, a2.eval x = a'.eval x)
    (hun : ∀ x ∈ looks ops oq, Unwritten ops (q :: r.map (·.1)) x) (h : wpL P ops F ((q, c) :: r) a w) :
    ∃ v, (Region.wanted oq (yielded ops a.tmps) = true → (execOp a.eval oq).run P w = .ok (.value v) w ∧ Qt P ld (execOp a.eval oq)) ∧
      (Region.wanted oq (yielded ops a.tmps) = false → v = undef) ∧ wpL P ops F r (a.put oq.dst v) w := by
  unfold wpL opWp wpOp at h
  simp only [hq] at h
  by_cases hw : Region.wanted oq (yielded ops a.tmps) = true
  · simp only [hw, if_true] at h
    rcases h with h | ⟨_, h⟩
    · unfold Oper.wp at h
      cases hr : (execOp a.eval oq).run P w with
      | halt x w' => rw [hr] at h; cases x <;> simp only [Oper.upon] at h <;> exact h.elim
      | ok n w' =>
        obtain ⟨v, rfl⟩ := Rv.run _ (rv_execOp oq a.eval hk) _ _ _ hr
        rw [hr] at h
        simp only [Oper.upon] at h
        obtain ⟨a3, w2, hF2, he⟩ := wpL_end r _ _ h.2
        obtain ⟨a2, hp, he2⟩ := hF _ _ hF2
        have he' : ∀ x ∈ looks ops oq, a2.eval x = a.eval x := fun x hx => by
          rw [he2 x hx, he x (fun t ht j hj => hun x hx t ht j (by simp [hj]))]
          exact Act.eval_put (fun d hd e => hun x hx d e q (by simp) (by simp [hq, hd]))
        have hw2 : Region.wanted oq (yielded ops a2.tmps) = true := by
          rw [wanted_congr (fun t ht => he' (.tmp t) (by simp [looks, ht]))]; exact hw
        have hn : ∀ x ∈ needs oq, needV oq (a.eval x) = true := fun x hx => by
          rw [← he' x (by simp [looks, hx])]
          exact hp oq (by simpa using Array.mem_of_getElem? hq) hw2 x hx
        have hQ := qt_execOp oq a.eval hk hn
        obtain ⟨rfl, hst⟩ := Qt.run _ hQ _ _ _ hr
        exact ⟨v, fun _ => ⟨rfl, hQ⟩, (fun h0 => by rw [hw] at h0; cases h0), h.2⟩
    · exact (no_letsOut h).elim
  · simp only [hw] at h
    exact ⟨undef, fun h0 => absurd h0 hw, fun _ => rfl, h.2⟩

/-- a quiet operation, carried out -/
theorem quiet_do {K : Act → World → Prop} {q : Nat} {oq : Oper} {v : Value} {a : Act} {w : World} (hq : ops[q]? = some oq)
    (h1 : Region.wanted oq (yielded ops a.tmps) = true → (execOp a.eval oq).run P w = .ok (.value v) w)
    (h0 : Region.wanted oq (yielded ops a.tmps) = false → v = undef) (hK : K (a.put oq.dst v) w) : opWp P ops q K a w := by
  unfold opWp wpOp
  simp only [hq]
  by_cases hw : Region.wanted oq (yielded ops a.tmps) = true
  · simp only [hw, if_true]
    refine .inl ?_
    unfold Oper.wp
    rw [h1 hw]
    exact hK
  · simp only [hw]
    rw [h0 (by simpa using hw)] at hK
    exact hK

/-- what makes new memory alone, or is quiet, leaves what was there -/
theorem opWp_old {j : Nat} {oj : Oper} {K : Act → World → Prop} {a : Act} {w : World} (hj : ops[j]? = some oj) (hn : newKind oj = true) (h : opWp P ops j K a w) :
    opWp P ops j (fun a' w' => Old w w' ∧ K a' w') a w := by
  unfold opWp wpOp at *
  simp only [hj] at *
  split
  · rename_i hw
    simp only [hw, if_true] at h
    rcases h with h | ⟨_, h⟩
    · refine .inl ?_
      unfold Oper.wp at *
      cases hr : (execOp a.eval oj).run P w with
      | halt x w' => rw [hr] at h; cases x <;> simp only [Oper.upon] at h <;> exact h.elim
      | ok n w' =>
        have ho := Nt.run _ (nt_execOp oj a.eval hn) _ _ _ hr
        rw [hr] at h
        have hval : ∃ v, n = .value v := by
          have : Rv isValueN (execOp a.eval oj) := by
            unfold newKind at hn
            unfold execOp
            cases hop : oj.op <;> simp only [hop, Bool.false_eq_true] at hn ⊢ <;> exact rv_value _
          exact Rv.run _ this _ _ _ hr
        obtain ⟨v, rfl⟩ := hval
        exact ⟨ho, h⟩
    · exact (no_letsOut h).elim
  · rename_i hw
    simp only [hw] at h
    exact ⟨Old.refl _, h⟩

/-- an operation apart: with another's value already laid -/
theorem opWp_push {m : Nat} {om oj : Oper} {v : Value} {K : Act → World → Prop} {a : Act} {w : World} (hm : ops[m]? = some om) (hap : oj.apart ops om = true)
    (hs : ∀ cs b, om.op ≠ .select cs b) (h : opWp P ops m K a w) : opWp P ops m (fun a' w' => ∃ a1, a' = a1.put oj.dst v ∧ K a1 w') (a.put oj.dst v) w := by
  obtain ⟨h1, h2, h3⟩ := Oper.apart_spec hap
  unfold opWp wpOp at *
  simp only [hm] at *
  rw [wanted_put om a oj.dst v h1]
  split
  · rename_i hw
    simp only [hw, if_true] at h
    rcases h with h | ⟨_, h⟩
    · refine .inl ?_
      unfold Oper.wp at *
      rw [execOp_put om hs a oj.dst v h1]
      generalize (execOp a.eval om).run P w = r at *
      cases r with
      | halt x w' => cases x <;> simp only [Oper.upon] at h <;> exact h.elim
      | ok n w' =>
        cases n <;> simp only [Oper.upon] at h ⊢
        case value u => exact ⟨_, Act.put_comm a v u h2, h⟩
        case skip => exact ⟨_, Act.put_comm a v undef h2, h⟩
        case defer d => exact ⟨({ a with defers := d :: a.defers } : Act).put om.dst undef, by rw [Act.put_defers]; exact Act.put_comm _ v undef h2, h⟩
        case enter f args =>
          refine Calls.mono h fun e w'' he => ?_
          cases e with
          | returned u => exact ⟨_, Act.put_comm a v u h2, he⟩
          | panicked c => exact he.elim
          | outgrown => exact (no_letsOut he).elim
        case row row args => exact Rows.mono h fun u w'' he => ⟨_, Act.put_comm a v u h2, he⟩
    · exact (no_letsOut h).elim
  · rename_i hw
    simp only [hw] at h
    exact ⟨_, Act.put_comm a v undef h2, h⟩

theorem looksAt_unchanged {oj om : Oper} {a : Act} {u : Value} {d : List Deferred} (hap : oj.apart ops om = true) (hs : ∀ cs b, oj.op ≠ .select cs b) :
    execOp (({ a with defers := d } : Act).put om.dst u).eval oj = execOp a.eval oj ∧ Region.wanted oj (yielded ops (({ a with defers := d } : Act).put om.dst u).tmps) = Region.wanted oj (yielded ops a.tmps) := by
  obtain ⟨h1, h2, h3⟩ := Oper.apart_spec hap
  have e0 : ({ a with defers := d } : Act).eval = a.eval := by funext x; cases x <;> rfl
  exact ⟨by rw [execOp_put oj hs _ om.dst u h3, e0], by rw [wanted_put oj _ om.dst u h3]⟩

theorem opWp_pull {m : Nat} {om oj : Oper} {v : Value} {K : Act → World → Prop} {a : Act} {w : World} (hm : ops[m]? = some om) (hap : oj.apart ops om = true)
    (hs : ∀ cs b, om.op ≠ .select cs b) (h : opWp P ops m K (a.put oj.dst v) w) : opWp P ops m (fun a' w' => (∃ u d, a' = ({ a with defers := d } : Act).put om.dst u) ∧ K (a'.put oj.dst v) w') a w := by
  obtain ⟨h1, h2, h3⟩ := Oper.apart_spec hap
  unfold opWp wpOp at *
  simp only [hm] at *
  rw [wanted_put om a oj.dst v h1] at h
  split
  · rename_i hw
    simp only [hw, if_true] at h
    rcases h with h | ⟨_, h⟩
    · refine .inl ?_
      unfold Oper.wp at *
      rw [execOp_put om hs a oj.dst v h1] at h
      generalize (execOp a.eval om).run P w = r at *
      cases r with
      | halt x w' => cases x <;> simp only [Oper.upon] at h <;> exact h.elim
      | ok n w' =>
        cases n <;> simp only [Oper.upon] at h ⊢
        case value u => exact ⟨⟨u, a.defers, rfl⟩, by rw [← Act.put_comm a v u h2]; exact h⟩
        case skip => exact ⟨⟨undef, a.defers, rfl⟩, by rw [← Act.put_comm a v undef h2]; exact h⟩
        case defer d => exact ⟨⟨undef, d :: a.defers, rfl⟩, by rw [← Act.put_comm _ v undef h2, ← Act.put_defers]; exact h⟩
        case enter f args =>
          refine Calls.mono h fun e w'' he => ?_
          cases e with
          | returned u => exact ⟨⟨u, a.defers, rfl⟩, by rw [← Act.put_comm a v u h2]; exact he⟩
          | panicked c => exact he.elim
          | outgrown => exact (no_letsOut he).elim
        case row row args => exact Rows.mono h fun u w'' he => ⟨⟨u, a.defers, rfl⟩, by rw [← Act.put_comm a v u h2]; exact he⟩
    · exact (no_letsOut h).elim
  · rename_i hw
    simp only [hw] at h
    exact ⟨⟨undef, a.defers, rfl⟩, by rw [← Act.put_comm a v undef h2]; exact h⟩

theorem opWp_form {m : Nat} {om : Oper} {K : Act → World → Prop} {a : Act} {w : World} (hm : ops[m]? = some om) (h : opWp P ops m K a w) :
    opWp P ops m (fun a' w' => (∃ u d, a' = ({ a with defers := d } : Act).put om.dst u) ∧ K a' w') a w := by
  unfold opWp wpOp at *
  simp only [hm] at *
  split
  · rename_i hw
    simp only [hw, if_true] at h
    rcases h with h | ⟨_, h⟩
    · refine .inl ?_
      unfold Oper.wp at *
      generalize (execOp a.eval om).run P w = r at *
      cases r with
      | halt x w' => cases x <;> simp only [Oper.upon] at h <;> exact h.elim
      | ok n w' =>
        cases n <;> simp only [Oper.upon] at h ⊢
        case value u => exact ⟨⟨u, a.defers, rfl⟩, h⟩
        case skip => exact ⟨⟨undef, a.defers, rfl⟩, h⟩
        case defer d => exact ⟨⟨undef, d :: a.defers, rfl⟩, h⟩
        case enter f args =>
          refine Calls.mono h fun e w'' he => ?_
          cases e with
          | returned u => exact ⟨⟨u, a.defers, rfl⟩, he⟩
          | panicked c => exact he.elim
          | outgrown => exact (no_letsOut he).elim
        case row row args => exact Rows.mono h fun u w'' he => ⟨⟨u, a.defers, rfl⟩, he⟩
    · exact (no_letsOut h).elim
  · rename_i hw
    simp only [hw] at h
    exact ⟨⟨undef, a.defers, rfl⟩, h⟩

/-- FIRST A QUIET ONE, THEN ANY: they may change places -/
theorem swapA {F : Act → World → Prop} {ld : Bool} {q j : Nat} {cq cj : Bool} {r : List (Nat × Bool)} {oq oj : Oper} {a : Act} {w : World}
    (hq : ops[q]? = some oq) (hj : ops[j]? = some oj) (hk : quietKind P oq = some ld) (hF : ∀ a' w', F a' w' → ∃ a2, plainEnd ops a2 ∧ ∀ x ∈ looks ops oq, a2.eval x = a'.eval x)
    (hFj : (∃ l, quietKind P oj = some l) → ∀ a' w', F a' w' → ∃ a2, plainEnd ops a2 ∧ ∀ x ∈ looks ops oj, a2.eval x = a'.eval x)
    (hun : ∀ x ∈ looks ops oq, Unwritten ops (q :: ((j, cj) :: r).map (·.1)) x) (hap : oq.apart ops oj = true)
    (hsq : ∀ cs b, oq.op ≠ .select cs b) (hsj : ∀ cs b, oj.op ≠ .select cs b)
    (hst : ld = true → cj = true ∨ newKind oj = true ∨ ∃ l, quietKind P oj = some l)
    (hunj : (∃ l, quietKind P oj = some l) → ∀ x ∈ looks ops oj, Unwritten ops (j :: r.map (·.1)) x)
    (h : wpL P ops F ((q, cq) :: (j, cj) :: r) a w) : wpL P ops F ((j, cj) :: (q, cq) :: r) a w := by
  obtain ⟨v, hv1, hv0, hrest⟩ := quiet_head hq hk hF hun h
  have hold : opWp P ops j (fun a' w' => (ld = true → Old w w') ∧ (cj = true → Old w w') ∧ wpL P ops F r a' w') (a.put oq.dst v) w := by
    cases ld with
    | false => exact opWp_mono (fun a' w' h => ⟨fun h => (by cases h), h⟩) hrest
    | true =>
      rcases hst rfl with hc | hn | ⟨l, hl⟩
      · exact opWp_mono (fun a' w' h => ⟨fun _ => h.1 hc, h⟩) hrest
      · exact opWp_mono (fun a' w' h => ⟨fun _ => h.1, h.2⟩) (opWp_old hj hn hrest)
      · obtain ⟨u, hu1, hu0, hu⟩ := quiet_head hj hl (hFj ⟨l, hl⟩) (hunj ⟨l, hl⟩) hrest
        exact quiet_do hj (fun hw => (hu1 hw).1) hu0 ⟨fun _ => Old.refl _, fun _ => Old.refl _, hu⟩
  refine opWp_mono (fun a' w' hh => ?_) (opWp_pull hj hap hsj hold)
  obtain ⟨⟨u, d, rfl⟩, hl, hc, hw'⟩ := hh
  refine ⟨hc, ?_⟩
  obtain ⟨e1, e2⟩ := looksAt_unchanged (a := a) (u := u) (d := d) hap hsq
  refine quiet_do hq (v := v) (fun hw => ?_) (fun hw => hv0 (by rw [← e2]; exact hw)) ⟨fun _ => Old.refl _, hw'⟩
  rw [e1]
  obtain ⟨hr, hQt⟩ := hv1 (by rw [← e2]; exact hw)
  exact (Qt.run _ hQt _ _ _ hr).2 w' hl
end
end Go.Draw
