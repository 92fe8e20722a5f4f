/-
  CODE IN A FRAME OF WHATEVER MAKE: what is shown of operations and regions in a plain frame holds in the frame of a round of a range over a function too.
-/
import Derived.Test.YtnoocfcmlilffaaTree
import Derived.RangeFuncLeaves
import Derived.OrdersIn
import Derived.OwnWalkIn
set_option linter.all false
set_option linter.unusedSimpArgs false
set_option linter.unusedVariables false
namespace Go.Draw
open Go

/-- no bound at all; the frame's make -/
def FW (r : Option Nat) : Fence := { Fence.wide with round := r }
theorem FW_round (r : Option Nat) : (FW r).round = r := rfl
theorem callsFW {P : Program} {r : Option Nat} {n : Nat} {f : FuncId} {args : Array Value} {w : World} {R : Ending → World → Prop} (h : Calls P f args w R) : CallsIn (FW r) n P f args w R :=
  (callsIn_wide (n := n)).2 h
theorem calls_of_FW {P : Program} {r : Option Nat} {n : Nat} {f : FuncId} {args : Array Value} {w : World} {R : Ending → World → Prop} (h : CallsIn (FW r) n P f args w R) : Calls P f args w R :=
  (callsIn_wide (n := n)).1 h

section
variable {P : Program} {ops : Array Oper} {r : Option Nat} {n : Nat}

theorem opIn {o : Oper} {a : Act} {w : World} {K : Act → World → Prop} {Q : Exit → Act → World → Prop} (hd : ∀ c, o.op ≠ .defer c) (h : o.wp P a w K Fls) : o.wpIn (FW r) n P a w K Q := by
  unfold Oper.wp at h
  unfold Oper.wpIn
  refine ⟨fun _ _ => trivial, ?_⟩
  rw [Oper.semAt_plain _ _ _ hd]
  generalize (execOp a.eval o).run P w = res at *
  cases res with
  | halt x w' => cases x <;> simp only [Oper.upon] at h <;> exact h.elim
  | ok m w' =>
    cases m <;> simp only [Oper.upon] at h <;> simp only [Oper.uponIn] <;> first
      | exact h
      | exact h.elim
      | exact ⟨(fun hh => by cases hh), callsFW (Calls.mono h (fun e w'' he => by cases e with | returned v => exact he | panicked c => exact he.elim | outgrown => exact (no_letsOut he).elim))⟩
      | (refine ⟨(fun hh => by cases hh), fun c cs _ => ?_⟩
         obtain ⟨v, w2, h1, h2⟩ := h c cs
         exact ⟨v, w2, h1, (stepsIn_wide (P := P)).2 h2⟩)

theorem wpOpIn_of_opWp {i : Nat} {a : Act} {w : World} {K : Act → World → Prop} {Q : Exit → Act → World → Prop} (hd : ∀ o c, ops[i]? = some o → o.op ≠ .defer c) (h : opWp P ops i K a w) : wpOpIn (FW r) n P ops Q i K a w := by
  unfold opWp wpOp at h
  unfold wpOpIn
  cases ho : ops[i]? with
  | none => simpa [ho] using h
  | some o =>
    simp only [ho] at h ⊢
    split
    · rename_i hw
      simp only [hw, if_true] at h
      rcases h with h | ⟨_, h⟩
      · exact opIn (hd o · ho) h
      · exact (no_letsOut h).elim
    · rename_i hw
      simp only [hw] at h
      exact ⟨fun _ _ => trivial, h⟩

theorem wpAnyIn_of_wpT {fl : Nat → Bool} {F : Act → World → Prop} {Q : Exit → Act → World → Prop} (hd : ∀ (i : Nat) o c, ops[i]? = some o → o.op ≠ .defer c) (hF : ∀ a' w', F a' w' → Q .normal a' w') : ∀ {k : Nat} {d : List Nat} {listed : Array Bool} {a : Act} {w : World}, listed.size = ops.size →
    (∀ i, i < ops.size → (listed.getD i true = true ↔ i ∈ d)) → (∀ o ∈ ops, ∀ e ∈ o.after, Region.binds .any e = true → e.on < ops.size) → wpT P ops fl F k d a w → wpAnyIn (FW r) n P .any ops Q k listed a w := by
  have hr : ∀ {d : List Nat} {listed : Array Bool}, listed.size = ops.size → (∀ i, i < ops.size → (listed.getD i true = true ↔ i ∈ d)) → (∀ o ∈ ops, ∀ e ∈ o.after, Region.binds .any e = true → e.on < ops.size) →
      ∀ j, j ∈ Region.ready .any ops listed ↔ Rdy ops d j := by
    intro d listed hsz hl hb j
    rw [mem_ready]
    unfold Rdy
    constructor
    · rintro ⟨h1, o, ho, h2⟩
      have hj := (Array.getElem?_eq_some_iff.1 ho).1
      refine ⟨fun h => ?_, o, ho, fun e he hbe => ?_⟩
      · rw [(hl j hj).2 h] at h1; cases h1
      · have he' := hb o (Array.mem_of_getElem? ho) e he hbe
        refine (hl _ he').1 ?_
        have := h2 e he hbe
        have hlt : e.on < listed.size := by omega
        simp only [Array.getD, hlt, dite_true] at this ⊢
        exact this
    · rintro ⟨h1, o, ho, h2⟩
      have hj := (Array.getElem?_eq_some_iff.1 ho).1
      refine ⟨?_, o, ho, fun e he hbe => ?_⟩
      · cases hc : listed.getD j true with
        | false => rfl
        | true => exact absurd ((hl j hj).1 hc) h1
      · have he' := hb o (Array.mem_of_getElem? ho) e he hbe
        have := (hl _ he').2 (h2 e he hbe)
        have hlt : e.on < listed.size := by omega
        simp only [Array.getD, hlt, dite_true] at this ⊢
        exact this
  intro k
  induction k with
  | zero =>
    intro d listed a w hsz hl hb h
    refine ⟨List.eq_nil_iff_forall_not_mem.2 fun j hj => h.1 j ((hr hsz hl hb j).1 hj), hF _ _ h.2⟩
  | succ k ih =>
    intro d listed a w hsz hl hb h
    refine ⟨fun h0 => hF _ _ (h.1 fun j hj => ?_), fun j hj => ?_⟩
    · have := (hr hsz hl hb j).2 hj
      rw [h0] at this; cases this
    · have hj' := (hr hsz hl hb j).1 hj
      refine wpOpIn_of_opWp (fun o c => hd j o c) (opWp_mono (fun a' w' hk => ih (by simpa using hsz) (fun i hi => ?_) hb hk.2) (h.2 j hj'))
      have hjlt : j < ops.size := (Array.getElem?_eq_some_iff.1 hj'.2.choose_spec.1).1
      by_cases hij : j = i
      · subst hij
        have : j < listed.size := by omega
        simp [this]
      · rw [getD_set_ne true hij, hl i hi]
        simp [Ne.symm hij]

theorem tree_specIn {fl : Nat → Bool} (hd : ∀ (i : Nat) o c, ops[i]? = some o → o.op ≠ .defer c) (h : treeOk P ops = true) {eag : Nat → Bool} (he : ∀ q, eag q = true → eager P ops (ancs ops) fl q = true) {Q : Exit → Act → World → Prop} {id : Nat} {a : Act} {w : World} (hm : P.follows .mixedOrders = true)
    (hw : wpC P ops fl eag (fun a' w' => plainEnd ops a' ∧ Q .normal a' w') ops.size [] a { w with drawn := w.drawn + 1 }) : (Code.region id ops true).wpIn (FW r) n P Q a w := by
  have hS : Static P ops (ancs ops) := static_of h
  refine wpIn_region_any hm ?_
  refine wpAnyIn_of_wpT hd (fl := fl) (d := []) (fun a' w' hh => hh.2) (by simp) (fun i hi => by simp [hi]) (fun o ho e he hb => ?_) (wpT_of_wpC hS (fun _ _ h => h.1) (fun q hq => eager_ok (he q hq)) (fun p hp => by cases hp) hw)
  obtain ⟨i, hi, rfl⟩ := Array.mem_iff_getElem.1 ho
  exact (hS.edge i _ (Array.getElem?_eq_getElem hi) e he hb).1
end

/-! ### a scope -/
section
variable {P : Program} {b : Frame} {a : Act} {k : List Item} {cs : List Frame} {w : World} {Q : Exit → Act → World → Prop} {F : Fence} {n : Nat}
theorem stepR_scope {c : Code} : step P (lone (b.atR a (.code (.scope c) :: k)) cs w) = .next (lone (b.atR a (.code c :: .inScope c :: k)) cs w) :=
  step_lone_go (by simp [stepG, stepG.exec, Frame.atR])
theorem stepR_inScope {c : Code} : step P (lone (b.atR a (.inScope c :: k)) cs w) = .next (lone (b.atR a k) cs w) :=
  step_lone_go (by simp [stepG, stepG.exec, Frame.atR])
theorem wpIn_scope_straight {c : Code} (h : c.wpIn F n P (Exit.noGoto Q) a w) : (Code.scope c).wpIn F n P Q a w := by
  intro b k cs hro hb hr
  have h0 : (lone (b.atR a (.code (.scope c) :: k)) cs w).fenced P F := fenced_calm hb hr rfl
  obtain ⟨e, a₁, w₁, hq, harr⟩ := h b (.inScope c :: k) cs hro hb hr
  cases e with
  | normal => exact ⟨.normal, a₁, w₁, hq, .head h0 stepR_scope (StepsIn.trans harr (.one (fenced_calm hb hr rfl) stepR_inScope))⟩
  | exit id =>
    have hx : exitTo id (.inScope c :: k) = exitTo id k := by simp [exitTo]
    exact ⟨.exit id, a₁, w₁, hq, fun k' hk => .head h0 stepR_scope (harr.1 k' (by rw [hx]; exact hk)), fun hr' hk => let ⟨k₁, h1, h2⟩ := harr.2 hr' (by rw [hx]; exact hk); ⟨k₁, h1, .head h0 stepR_scope h2⟩⟩
  | goto l => exact hq.elim
  | ret => exact ⟨_, a₁, w₁, hq, .of_steps (.one h0 stepR_scope) harr⟩
  | panic ch => exact ⟨_, a₁, w₁, hq, .of_steps (.one h0 stepR_scope) harr⟩
  | outgrown => exact ⟨_, a₁, w₁, hq, .of_steps (.one h0 stepR_scope) harr⟩
end
end Go.Draw
