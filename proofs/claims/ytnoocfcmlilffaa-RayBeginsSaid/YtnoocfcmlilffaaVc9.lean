/-
  THE SYMBOLIC EXECUTOR IS SOUND, 7: calls, regions, code, functions. No program in sight.
-/
import Derived.Test.YtnoocfcmlilffaaVcM
set_option linter.all false
set_option linter.unusedSimpArgs false
set_option linter.unusedVariables false
namespace Go.Vc
open Go Go.RowKit Go.Ql Go.Draw

def Owned (ρ : Nat → Value) (hp : Heap) (g : Nat) : Prop := ∃ k e, lk k hp = some e ∧ e.own = true ∧ e.touch (ρ k) g

inductive SpecOk (P : Program) (f : FuncId) (ro : Bool) (spec : Spec) : Prop
  | fn (enter : ∀ args w, (callFunc f args).run P w = .ok (.enter f args) w)
    (calls : ∀ ρ hp nk w args K, HOk ρ hp w → spec args hp nk K → Calls P f (toVs ρ args).toArray w fun e w' =>
    ∃ res hp' nk' ρ', e = .returned (res.toV ρ') ∧ K res hp' nk' ∧ HOk ρ' hp' w' ∧ (∀ k, k < nk → ρ' k = ρ k) ∧ nk ≤ nk' ∧ Fr (Owned ρ hp) w w' ∧ (∀ g, Owned ρ' hp' g → Owned ρ hp g ∨ w.heap.size ≤ g) ∧ (ro = true → Old w w'))
  | ext (yields : ∀ ρ hp nk w args K, HOk ρ hp w → spec args hp nk K → ∃ v : SV, (callFunc f (toVs ρ args).toArray).run P w = .ok (.value (v.toV ρ)) w ∧ K v hp nk)
def GsOk (P : Program) (Γ : Specs) : Prop := ∀ f ro spec, f < 1000000000 → lk f Γ = some (ro, spec) → SpecOk P f ro spec
/-- what is left behind a call -/
def Post (ρ : Nat → Value) (hp : Heap) (nk : Nat) (w : World) (K : SV → Heap → Nat → Prop) (e : Ending) (w' : World) : Prop :=
  ∃ res hp' nk' ρ', e = .returned (res.toV ρ') ∧ K res hp' nk' ∧ HOk ρ' hp' w' ∧ (∀ k, k < nk → ρ' k = ρ k) ∧ nk ≤ nk' ∧ Fr (Owned ρ hp) w w' ∧ (∀ g, Owned ρ' hp' g → Owned ρ hp g ∨ w.heap.size ≤ g)
/-- yield, by what it asks for -/
def YOk (P : Program) (key n0 : Nat) (ρ0 : Nat → Value) (spec : Spec) : Prop := ∀ ρ hp nk w args K, HOk ρ hp w → (∀ k, k < n0 → ρ k = ρ0 k) → n0 ≤ nk → spec args hp nk K →
  ∃ l fn tmps asg body, ρ key = .func (.yield l) #[] #[] ∧ (Instr.yield l (toVs ρ args).toArray).run P w = .ok (.round l fn tmps asg body) w ∧ ∀ n, RoundIn (FW none) n P l fn tmps asg body w (Post ρ hp nk w K)
def YsOk (P : Program) (n0 : Nat) (ρ0 : Nat → Value) (Γ : Specs) : Prop := ∀ key ro spec, lk (yid key) Γ = some (ro, spec) → key < n0 ∧ YOk P key n0 ρ0 spec
def noY (Γ : Specs) : Bool := Γ.all fun p => Nat.blt p.1 1000000000
theorem ysOk_of {P : Program} {n0 : Nat} {ρ0 : Nat → Value} {Γ : Specs} (h : noY Γ = true) : YsOk P n0 ρ0 Γ := by
  intro key ro spec hl
  have := List.all_eq_true.1 h _ (lk_mem hl)
  have h3 : key + 1000000000 < 1000000000 := blt_lt this
  omega

section
variable {P : Program} {T : Tys} {Γ : Specs} {w0 : World} {S0 : Nat → Prop} {N n0 : Nat} {ρ0 : Nat → Value} {ρ : Nat → Value} {s : St} {a : Act} {w : World}

theorem nrms_sound : ∀ {ts : List TypeId} {vs : List SV} {s : St} {ρ : Nat → Value} {K : List SV → St → Prop}, nrms T ts vs s K → Sym w0 S0 N n0 ρ0 ρ s a w →
    ∃ vs' s' ρ', K vs' s' ∧ Sym w0 S0 N n0 ρ0 ρ' s' a w ∧ toVs ρ' vs' = toVs ρ vs ∧ (∀ k, k < s.nk → ρ' k = ρ k) ∧ s.nk ≤ s'.nk
  | [], [], s, ρ, K, h, hs => ⟨[], s, ρ, h, hs, rfl, fun _ _ => rfl, Nat.le_refl _⟩
  | [], _ :: _, s, ρ, K, h, hs => h.elim
  | _ :: _, [], s, ρ, K, h, hs => h.elim
  | t :: ts, v :: vs, s, ρ, K, h, hs => by
    simp only [nrms] at h
    cases hb : kbs s.nk vs with
    | false => rw [hb] at h; exact h.elim
    | true =>
      rw [hb] at h
      simp only [cond_true] at h
      obtain ⟨v', s', ρ', h, hs', hv, hρ, hle⟩ := nrm_sound h hs
      cases hb2 : v'.kb s'.nk with
      | false => rw [hb2] at h; exact h.elim
      | true =>
        rw [hb2] at h
        simp only [cond_true] at h
        obtain ⟨vs', s'', ρ'', h, hs'', hvs, hρ', hle'⟩ := nrms_sound h hs'
        refine ⟨_, s'', ρ'', h, hs'', ?_, fun k hk => (hρ' k (by omega)).trans (hρ k hk), by omega⟩
        rw [toVs, toVs, toV_congr hρ' v' hb2, hv, hvs, toVs_congr hρ vs hb]

theorem minS_sound (ρ : Nat → Value) : ∀ {l : List SV} {x v : SV}, minS x l = some v → ((toVs ρ l).foldlM Builtin.min2 (x.toV ρ)).run P w = .ok (v.toV ρ) w
  | [], x, v, h => by
    unfold minS at h
    cases x <;> cases h <;> simp [toVs]
  | y :: l, x, v, h => by
    cases x <;> cases y <;> try (simp [minS] at h; done)
    rename_i k p k' q
    simp only [minS] at h
    cases hk : kEq k k' with
    | false => rw [hk] at h; cases h
    | true =>
      rw [hk] at h
      have := kEq_eq hk
      subst this
      have ih := minS_sound ρ (l := l) (x := .int k (min p q)) h
      simp only [toVs, SV.toV, List.foldlM_cons, Builtin.min2]
      have e : (if q < p then q else p) = min p q := by omega
      simp only [SV.toV] at ih
      simp [e, ih]
theorem maxS_sound (ρ : Nat → Value) : ∀ {l : List SV} {x v : SV}, maxS x l = some v → ((toVs ρ l).foldlM Builtin.max2 (x.toV ρ)).run P w = .ok (v.toV ρ) w
  | [], x, v, h => by
    unfold maxS at h
    cases x <;> cases h <;> simp [toVs]
  | y :: l, x, v, h => by
    cases x <;> cases y <;> try (simp [maxS] at h; done)
    rename_i k p k' q
    simp only [maxS] at h
    cases hk : kEq k k' with
    | false => rw [hk] at h; cases h
    | true =>
      rw [hk] at h
      have := kEq_eq hk
      subst this
      have ih := maxS_sound ρ (l := l) (x := .int k (max p q)) h
      simp only [toVs, SV.toV, List.foldlM_cons, Builtin.max2]
      have e : (if q > p then q else p) = max p q := by omega
      simp only [SV.toV] at ih
      simp [e, ih]

theorem Sym.call (hs : Sym w0 S0 N n0 ρ0 ρ s a w) (hk : s.kb = true) {ρ' : Nat → Value} {hp' : Heap} {nk' : Nat} {w' : World} (hh : HOk ρ' hp' w') (hρ : ∀ k, k < s.nk → ρ' k = ρ k) (hle : s.nk ≤ nk')
    (hfr : Fr (Owned ρ s.hp) w w') (hown : ∀ g, Owned ρ' hp' g → Owned ρ s.hp g ∨ w.heap.size ≤ g) : Sym w0 S0 N n0 ρ0 ρ' { tm := s.tm, hp := hp', nk := nk' } a w' := by
  have hO : ∀ g, Owned ρ s.hp g → S0 g ∨ w0.heap.size ≤ g := fun g ⟨k, e, hl, ho, ht⟩ => hs.own k e hl ho g ht
  have hD : ∀ D : Nat, w.heap[D]? = some (Obj.deferred (some [])) → w'.heap[D]? = w.heap[D]? := fun D hD => hfr.block D (Array.getElem?_eq_some_iff.1 hD).1 (fun ⟨k, e, hl, _, ht⟩ => (hs.hp.ent k e hl).kind ht _ hD)
  refine ⟨fun t v hv => ?_, hs.size, hs.defers.keep hD, hh, ⟨hfr.os.trans hs.fr.os, hfr.tape.trans hs.fr.tape, hfr.output.trans hs.fr.output, Nat.le_trans hs.fr.size hfr.size, fun k hk hS => ?_⟩, fun k e hl ho g ht => ?_, Nat.le_trans hs.le hle, fun k hk => (hρ k (Nat.lt_of_lt_of_le hk hs.le)).trans (hs.base k hk)⟩
  · rw [hs.tm t v hv, toV_congr hρ v (s.kb_tm hk hv)]
  · refine (hfr.block k (Nat.lt_of_lt_of_le hk hs.fr.size) (fun ho => ?_)).trans (hs.fr.block k hk hS)
    rcases hO k ho with h | h
    · exact hS h
    · omega
  · rcases hown g ⟨k, e, hl, ho, ht⟩ with h | h
    · exact hO g h
    · exact .inr (Nat.le_trans hs.fr.size h)

theorem call_sound' (hT : TsOk P T) (hΓ : GsOk P Γ) {o : Oper} {c : Call} {K : St → Prop} (ho : o.op = .call c) (h : vcOp T Γ N o s K) (hs : Sym w0 S0 N n0 ρ0 ρ s a w)
    {K' : Act → World → Prop} {Q : Exit → Act → World → Prop} (hK' : ∀ s' ρ' a' w', Sym w0 S0 N n0 ρ0 ρ' s' a' w' → K s' → (pureCall Γ s o = true → Old w w') → K' a' w') : o.wp P a w K' Q := by
  have hK : (∀ f, c.callee ≠ .value f) → ∀ s' ρ' a' w', Sym w0 S0 N n0 ρ0 ρ' s' a' w' → K s' → K' a' w' := fun hc s' ρ' a' w' h1 h2 => hK' s' ρ' a' w' h1 h2 (fun hp => by
    unfold pureCall at hp; rw [ho] at hp
    cases hcc : c.callee with
    | value f => exact absurd hcc (hc f)
    | _ => simp only [hcc] at hp; cases hp)
  unfold vcOp at h
  rw [ho] at h
  simp only at h
  unfold vcCall at h
  obtain ⟨callee, args, argTypes⟩ := c
  simp only at h
  have hargs : ∀ vs, evs s args.toList = some vs → args.map a.eval = (toVs ρ vs).toArray := fun vs hv => by
    apply Array.toList_inj.1; rw [Array.toList_map, evs_sound hs hv]
  split at h
  · -- len
    split at h
    · rename_i v t hv ht
      replace hv := hargs _ hv
      have ht : argTypes = #[t] := Array.toList_inj.1 ht
      subst ht
      unfold lenS at h
      split at h
      · rename_i zs ag fs sl ik eqs key hti
        split at h
        · rename_i own ty r hl
          obtain ⟨e, rk, b⟩ := sl
          obtain ⟨hu, _⟩ := sl_info hT hti rfl
          obtain ⟨A, c, hv2, _, _⟩ := EntOk.reads (hs.hp.ent key _ hl)
          refine wp_val (w' := w) ?_ (toDst_sound h hs (hK (by simp)))
          simp only [toVs, SV.toV, hv2] at hv
          simp [execOp, ho, resolve, invoke, builtin, hv, Builtin.len_, run_underlying hu, SV.toV, goInt]
        · rename_i ty cs hl
          obtain ⟨e, rk, b⟩ := sl
          obtain ⟨hu, _⟩ := sl_info hT hti rfl
          obtain ⟨g, hv2, _⟩ := hs.hp.ent key _ hl
          refine wp_val (w' := w) ?_ (toDst_sound h hs (hK (by simp)))
          simp only [toVs, SV.toV, hv2] at hv
          simp [execOp, ho, resolve, invoke, builtin, hv, Builtin.len_, run_underlying hu, SV.toV, goInt]
        · exact h.elim
      · exact h.elim
    · exact h.elim
  · -- append
    split at h
    · rename_i x y t t' hv ht
      replace hv := hargs _ hv
      have ht : argTypes = #[t, t'] := Array.toList_inj.1 ht
      subst ht
      cases hb : Nat.beq t t' with
      | false => rw [hb] at h; exact h.elim
      | true =>
        rw [hb] at h
        simp only [cond_true] at h
        have := beq_eq hb
        subst this
        obtain ⟨v, s', ρ', w', h, hs', hrun⟩ := appendS_sound hT h hs o.type
        refine wp_val (w' := w') ?_ (toDst_sound h hs' (hK (by simp)))
        simp only [toVs] at hv
        simp [execOp, ho, resolve, invoke, builtin, hv, hrun]
    · exact h.elim
  · -- copy
    split at h
    · rename_i x y t t' hv ht
      replace hv := hargs _ hv
      have ht : argTypes = #[t, t'] := Array.toList_inj.1 ht
      subst ht
      obtain ⟨v, s', w', h, hs', hrun⟩ := copyS_sound hT h hs o.type
      refine wp_val (w' := w') ?_ (toDst_sound h hs' (hK (by simp)))
      simp only [toVs] at hv
      simp [execOp, ho, resolve, invoke, builtin, hv, hrun]
    · exact h.elim
  · -- min
    split at h
    · rename_i x l hv
      replace hv := hargs _ hv
      split at h
      · rename_i v hm
        refine wp_val (w' := w) ?_ (toDst_sound h hs (hK (by simp)))
        have hr := minS_sound (P := P) (w := w) ρ hm
        simp only [toVs] at hv
        simp [execOp, ho, resolve, invoke, builtin, hv, Builtin.min_, hr]
      · exact h.elim
    · exact h.elim
  · -- max
    split at h
    · rename_i x l hv
      replace hv := hargs _ hv
      split at h
      · rename_i v hm
        refine wp_val (w' := w) ?_ (toDst_sound h hs (hK (by simp)))
        have hr := maxS_sound (P := P) (w := w) ρ hm
        simp only [toVs] at hv
        simp [execOp, ho, resolve, invoke, builtin, hv, Builtin.max_, hr]
      · exact h.elim
    · exact h.elim
  · -- a function
    split at h
    · rename_i f0 g caps vs hf0 hv
      have hf := ev_sound hs hf0
      replace hv := hargs _ hv
      split at h
      · rename_i ro spec hspec
        cases hb0 : (Nat.blt g 1000000000 && kbs s.nk caps) with
        | false => rw [hb0] at h; exact h.elim
        | true =>
          rw [hb0] at h
          simp only [cond_true] at h
          simp only [Bool.and_eq_true] at hb0
          have hS := hΓ g ro spec (blt_lt hb0.1) hspec
          have hb := hb0.2
          obtain ⟨vs', s', ρ', h, hs', hvs, hρ, hle⟩ := nrms_sound h hs
          cases hb2 : s'.kb with
          | false => rw [hb2] at h; exact h.elim
          | true =>
            rw [hb2] at h
            simp only [cond_true] at h
            have e : (toVs ρ' (vs' ++ caps)).toArray = (toVs ρ vs).toArray ++ (toVs ρ caps).toArray := by
              rw [toVs_eq, List.map_append, ← toVs_eq, ← toVs_eq, hvs, toVs_congr hρ caps hb]; simp
            have hrun : ∀ (n : Next) , (callFunc g (toVs ρ' (vs' ++ caps)).toArray).run P w = .ok n w → (execOp a.eval o).run P w = .ok n w := by
              intro n hn
              rw [e] at hn
              simp only [SV.toV] at hf
              simp [execOp, ho, resolve, hf, Deferred.ofValue, hv, invoke]
              simpa using hn
            cases hS with
            | fn enter calls =>
              have hcalls := calls ρ' s'.hp s'.nk w _ _ hs'.hp h
              unfold Oper.wp
              rw [hrun _ (enter _ w), Oper.upon_enter]
              refine hcalls.mono fun e w' he => ?_
              obtain ⟨res, hp', nk', ρ'', rfl, hk, hh, hρ', hle', hfr, hown, hold⟩ := he
              have hpc : pureCall Γ s o = true → Old w w' := fun hp => by
                unfold pureCall at hp; rw [ho] at hp; simp only [hf0, hspec] at hp
                exact hold hp
              have := toDst_sound (K' := fun a' w2 => w2 = w' → K' a' w2) hk (hs'.call hb2 hh hρ' hle' hfr hown) (fun s2 ρ2 a2 w2 h1 h2 e => hK' s2 ρ2 a2 w2 h1 h2 (fun hp => e ▸ hpc hp))
              exact this rfl
            | ext yields =>
              obtain ⟨v, hr, hk⟩ := yields ρ' s'.hp s'.nk w _ _ hs'.hp h
              refine wp_val (w' := w) (hrun _ hr) ?_
              have := toDst_sound (K' := fun a' w2 => w2 = w → K' a' w2) hk hs' (fun s2 ρ2 a2 w2 h1 h2 e => hK' s2 ρ2 a2 w2 h1 h2 (fun _ => e ▸ Old.refl _))
              exact this rfl
      · exact h.elim
    · exact h.elim
  · exact h.elim

theorem call_sound (hT : TsOk P T) (hΓ : GsOk P Γ) {o : Oper} {c : Call} {K : St → Prop} (ho : o.op = .call c) (h : vcOp T Γ N o s K) (hs : Sym w0 S0 N n0 ρ0 ρ s a w)
    {K' : Act → World → Prop} {Q : Exit → Act → World → Prop} (hK : ∀ s' ρ' a' w', Sym w0 S0 N n0 ρ0 ρ' s' a' w' → K s' → K' a' w') : o.wp P a w K' Q :=
  call_sound' hT hΓ ho h hs fun s' ρ' a' w' h1 h2 _ => hK s' ρ' a' w' h1 h2

theorem vcOp_sound (hT : TsOk P T) (hΓ : GsOk P Γ) {o : Oper} {K : St → Prop} (h : vcOp T Γ N o s K) (hs : Sym w0 S0 N n0 ρ0 ρ s a w)
    {K' : Act → World → Prop} {Q : Exit → Act → World → Prop} (hK : ∀ s' ρ' a' w', Sym w0 S0 N n0 ρ0 ρ' s' a' w' → K s' → K' a' w') : o.wp P a w K' Q := by
  cases ho : o.op with
  | move x => exact move_sound (.inl ho) (by unfold vcOp at h; rw [ho] at h; exact h) hs hK
  | assign x => exact move_sound (.inr ho) (by unfold vcOp at h; rw [ho] at h; exact h) hs hK
  | pick c x y => exact pick_sound ho h hs hK
  | alloc t => exact alloc_sound hT ho h hs hK
  | box t x => exact box_sound ho h hs hK
  | build t ps => exact build_sound hT ho h hs hK
  | buildSlice t n ps => exact buildSlice_sound hT ho h hs hK
  | load t x => exact load_sound hT ho h hs hK
  | store t x y => exact store_sound hT ho h hs hK
  | nilCheck x => exact nilCheck_sound ho h hs hK
  | binOp op t x y t' => exact binOp_sound hT ho h hs hK
  | unOp op t x => exact unOp_sound ho h hs hK
  | convert src dst x => exact convert_sound hT ho h hs hK
  | makeFunc fn first caps =>
    cases fn with
    | func f => exact makeFunc_sound ho h hs hK
    | _ => unfold vcOp at h; rw [ho] at h; exact h.elim
  | makeSlice t l c => exact makeSlice_sound hT ho h hs hK
  | fieldAddr t x f => exact fieldAddr_sound hT ho h hs hK
  | field t x f => exact field_sound hT ho h hs hK
  | indexAddr t x i => exact indexAddr_sound hT ho h hs hK
  | makeMap t r =>
    cases r with
    | none => exact makeMap_sound hT ho h hs hK
    | some r => unfold vcOp at h; rw [ho] at h; exact h.elim
  | lookup t x i b => exact lookup_sound hT ho h hs hK
  | mapUpdate t x i y => exact mapUpdate_sound hT ho h hs hK
  | slice t x low high max => exact slice_sound hT ho h hs hK
  | extract x i => exact extract_sound ho h hs hK
  | call c => exact call_sound hT hΓ ho h hs hK
  | _ => unfold vcOp at h; rw [ho] at h; exact h.elim

/-! ### regions -/
theorem wanted_none {o : Oper} (h : o.guard = none) (y : Nat → Option Bool) : Region.wanted o y = true := by simp [Region.wanted, h]
theorem yielded_of {ops : List Oper} {j t : Nat} {b : Bool} (hd : dstAt ops j = some t) (ht : a.tmps[t]? = some (.bool b)) : yielded ops.toArray a.tmps j = some b := by
  unfold yielded
  have : ((ops.toArray[j]?).bind (·.dst)) = some t := by simpa [dstAt] using hd
  rw [this]
  simp [ht]

theorem vcOp_nodefer {o : Oper} {K : St → Prop} (h : vcOp T Γ N o s K) (c : Call) : o.op ≠ .defer c := by
  intro ho
  unfold vcOp at h
  rw [ho] at h
  exact h.elim

theorem vcOpY_sound {rr : Option Nat} {nn : Nat} (hT : TsOk P T) (hΓ : GsOk P Γ) (hY : YsOk P n0 ρ0 Γ) {o : Oper} {K : St → Prop} (h : vcOpY T Γ N o s K) (hs : Sym w0 S0 N n0 ρ0 ρ s a w)
    {K' : Act → World → Prop} {Q : Exit → Act → World → Prop} (hK : ∀ s' ρ' a' w', Sym w0 S0 N n0 ρ0 ρ' s' a' w' → K s' → K' a' w') : o.wpIn (FW rr) nn P a w K' Q := by
  have plain : vcOp T Γ N o s K → o.wpIn (FW rr) nn P a w K' Q := fun h => opIn (vcOp_nodefer h) (vcOp_sound hT hΓ h hs hK)
  unfold vcOpY at h
  split at h
  · rename_i c ho
    split at h
    · rename_i f hc
      split at h
      · rename_i key hf
        split at h
        · rename_i ro spec vs hspec hv
          obtain ⟨vs', s', ρ', h, hs', hvs, hρ, hle⟩ := nrms_sound h hs
          cases hb2 : s'.kb with
          | false => rw [hb2] at h; exact h.elim
          | true =>
            rw [hb2] at h
            simp only [cond_true] at h
            have hle0 := hs.le
            obtain ⟨hkn, hYk⟩ := hY key ro spec hspec
            obtain ⟨l, fn, tmps, asg, body, hk, hrun, hround⟩ := hYk ρ' s'.hp s'.nk w vs' _ hs'.hp (fun k hk => hs'.base k hk) hs'.le h
            have hfe := ev_sound hs hf
            simp only [SV.toV] at hfe
            have hargs : c.args.map a.eval = (toVs ρ' vs').toArray := by
              apply Array.toList_inj.1; rw [Array.toList_map, evs_sound hs hv, hvs]
            have hρk : ρ key = .func (.yield l) #[] #[] := by rw [← hk, hs'.base key hkn, hs.base key hkn]
            have hex : (execOp a.eval o).run P w = .ok (.round l fn tmps asg body) w := by
              rw [hρk] at hfe
              obtain ⟨callee, args, argTypes⟩ := c
              simp only at hc hargs
              subst hc
              simp [execOp, ho, resolve, hfe, Deferred.ofValue, invoke, hargs, hrun]
            refine ⟨fun _ _ => trivial, ?_⟩
            rw [Oper.semAt_plain _ _ _ (by rw [ho]; intro c hc; cases hc), hex, Oper.uponIn_round]
            refine ⟨(fun hh => by cases hh), RoundIn.mono (hround (nn - 1)) fun e w' he => ?_⟩
            obtain ⟨res, hp', nk', ρ'', rfl, hk, hh, hρ', hle', hfr, hown⟩ := he
            exact toDst_sound hk (hs'.call hb2 hh hρ' hle' hfr hown) hK
        · exact h.elim
      · exact plain h
    · exact plain h
  · exact plain h

theorem vcList_sound {rr : Option Nat} {nn : Nat} (hT : TsOk P T) (hΓ : GsOk P Γ) (hY : YsOk P n0 ρ0 Γ) {ops : List Oper} : ∀ {l : List Oper} {s : St} {ρ : Nat → Value} {a : Act} {w : World} {K : St → Prop} {Q : Exit → Act → World → Prop}, vcList T Γ N ops l s K → Sym w0 S0 N n0 ρ0 ρ s a w →
    (∀ s' ρ' a' w', Sym w0 S0 N n0 ρ0 ρ' s' a' w' → K s' → Q .normal a' w') → wpListIn (FW rr) nn P ops.toArray Q l a w
  | [], s, ρ, a, w, K, Q, h, hs, hK => hK s ρ a w hs h
  | o :: l, s, ρ, a, w, K, Q, h, hs, hK => by
    have run : ∀ {s ρ a w}, vcOpY T Γ N o s (fun s => vcList T Γ N ops l s K) → Sym w0 S0 N n0 ρ0 ρ s a w → o.wpIn (FW rr) nn P a w (wpListIn (FW rr) nn P ops.toArray Q l) Q :=
      fun h hs => vcOpY_sound hT hΓ hY h hs fun s' ρ' a' w' hs' hk => vcList_sound hT hΓ hY hk hs' hK
    have skip : ∀ {s ρ a w}, vcList T Γ N ops l (dropDst N o.dst s) K → Sym w0 S0 N n0 ρ0 ρ s a w → (∀ f, o.about P w a.eval = some f → (FW rr).fn f) ∧ wpListIn (FW rr) nn P ops.toArray Q l (a.put o.dst undef) w :=
      fun h hs => ⟨fun _ _ => trivial, vcList_sound hT hΓ hY h (hs.drop o.dst) hK⟩
    unfold vcList at h
    unfold wpListIn
    split at h
    · rename_i hg
      rw [if_pos (wanted_none hg _)]
      exact run h hs
    · rename_i j want hg
      split at h
      · exact h.elim
      · rename_i t hd
        have key : ∀ (b : Bool) {s ρ}, Sym w0 S0 N n0 ρ0 ρ s a w → a.tmps[t]? = some (.bool b) →
            (bif b == want then vcOpY T Γ N o s (fun s => vcList T Γ N ops l s K) else vcList T Γ N ops l (dropDst N o.dst s) K) →
            (if Region.wanted o (yielded ops.toArray a.tmps) = true then o.wpIn (FW rr) nn P a w (wpListIn (FW rr) nn P ops.toArray Q l) Q else (∀ f, o.about P w a.eval = some f → (FW rr).fn f) ∧ wpListIn (FW rr) nn P ops.toArray Q l (a.put o.dst undef) w) := by
          intro b s ρ hs hb hh
          have hy := yielded_of hd hb
          cases hbw : (b == want) with
          | true =>
            rw [hbw] at hh
            rw [if_pos (by simp only [Region.wanted, hg, hy]; simpa using hbw)]
            exact run hh hs
          | false =>
            rw [hbw] at hh
            rw [if_neg (by simp only [Region.wanted, hg, hy]; simpa using hbw)]
            exact skip hh hs
        split at h
        · rename_i ht
          have hb := hs.tm t _ ht
          simp only [SV.toV] at hb
          exact key true hs hb (by cases want <;> exact h)
        · rename_i ht
          have hb := hs.tm t _ ht
          simp only [SV.toV] at hb
          exact key false hs hb (by cases want <;> exact h)
        · rename_i b ht
          have hb := hs.tm t _ ht
          simp only [SV.toV] at hb
          have hst : ∀ (v : SV), v.toV ρ = .bool b → Sym w0 S0 N n0 ρ0 ρ { s with tm := Vc.put t v s.tm } a w := by
            intro v hv
            refine ⟨fun t' v' hv' => ?_, hs.size, hs.defers, hs.hp, hs.fr, hs.own, hs.le, hs.base⟩
            simp only [lk_put] at hv'
            split at hv'
            · rename_i e; subst e; cases hv'; rw [hb, hv]
            · exact hs.tm t' v' hv'
          cases b with
          | true => exact key true (hst .tt (by simp [SV.toV])) hb (by have := h.1 rfl; cases want <;> exact this)
          | false => exact key false (hst .ff (by simp [SV.toV])) hb (by have := h.2 rfl; cases want <;> exact this)
        · rename_i ht
          have hb := hs.tm t _ ht
          simp only [SV.toV, toVs] at hb
          have hy : yielded ops.toArray a.tmps j = none := by
            unfold yielded
            have : ((ops.toArray[j]?).bind (·.dst)) = some t := by simpa [dstAt] using hd
            rw [this]
            simp [hb]
          rw [if_neg (by simp [Region.wanted, hg, hy])]
          exact skip h hs
        · exact h.elim

/-- an operation that is marked, or not -/
theorem vcOpF_sound (hT : TsOk P T) (hΓ : GsOk P Γ) {o : Oper} {fl : Bool} {K : St → Prop} (h : bif !fl || pureCall Γ s o then vcOp T Γ N o s K else StuckAt 8 o) (hs : Sym w0 S0 N n0 ρ0 ρ s a w)
    {K' : Act → World → Prop} {Q : Exit → Act → World → Prop} (hK : ∀ s' ρ' a' w', Sym w0 S0 N n0 ρ0 ρ' s' a' w' → K s' → (fl = true → Old w w') → K' a' w') : o.wp P a w K' Q := by
  cases fl with
  | false => exact vcOp_sound hT hΓ h hs fun s' ρ' a' w' h1 h2 => hK s' ρ' a' w' h1 h2 (by simp)
  | true =>
    cases hp : pureCall Γ s o with
    | false => rw [hp] at h; exact h.elim
    | true =>
      rw [hp] at h
      have h : vcOp T Γ N o s K := h
      cases ho : o.op with
      | call c => exact call_sound' hT hΓ ho h hs fun s' ρ' a' w' h1 h2 h3 => hK s' ρ' a' w' h1 h2 fun _ => h3 hp
      | _ => unfold pureCall at hp; rw [ho] at hp; cases hp

theorem stepO_sound (hT : TsOk P T) (hΓ : GsOk P Γ) {ops : List Oper} {i : Nat} {o : Oper} {fl : Bool} {K : St → Prop} (ho : ops[i]? = some o) (h : stepO T Γ N ops fl o s K) (hs : Sym w0 S0 N n0 ρ0 ρ s a w)
    {K' : Act → World → Prop} (hK : ∀ s' ρ' a' w', Sym w0 S0 N n0 ρ0 ρ' s' a' w' → K s' → K' a' w') : opWp P ops.toArray i (fun a' w' => (fl = true → Old w w') ∧ K' a' w') a w := by
  unfold opWp wpOp
  unfold stepO at h
  have ho' : ops.toArray[i]? = some o := by simpa using ho
  simp only [ho']
  have run : ∀ {s ρ a w}, (bif !fl || pureCall Γ s o then vcOp T Γ N o s K else StuckAt 8 o) → Sym w0 S0 N n0 ρ0 ρ s a w → o.wp P a w (fun a' w' => (fl = true → Old w w') ∧ K' a' w') Fls :=
    fun h hs => vcOpF_sound hT hΓ h hs fun s' ρ' a' w' hs' hk ho => ⟨ho, hK s' ρ' a' w' hs' hk⟩
  have skip : ∀ {s ρ a w}, K (dropDst N o.dst s) → Sym w0 S0 N n0 ρ0 ρ s a w → (fl = true → Old w w) ∧ K' (a.put o.dst undef) w :=
    fun h hs => ⟨fun _ => Old.refl _, hK _ _ _ _ (hs.drop o.dst) h⟩
  split at h
  · rename_i hg
    rw [if_pos (wanted_none hg _)]
    exact .inl (run h hs)
  · rename_i j want hg
    split at h
    · exact h.elim
    · rename_i t hd
      have key : ∀ (b : Bool) {s ρ}, Sym w0 S0 N n0 ρ0 ρ s a w → a.tmps[t]? = some (.bool b) →
          (bif b == want then (bif !fl || pureCall Γ s o then vcOp T Γ N o s K else StuckAt 8 o) else K (dropDst N o.dst s)) →
          (if Region.wanted o (yielded ops.toArray a.tmps) = true then o.wp P a w (fun a' w' => (fl = true → Old w w') ∧ K' a' w') Fls ∨ o.asks P a w ∧ LetsOut Fls else (fl = true → Old w w) ∧ K' (a.put o.dst undef) w) := by
        intro b s ρ hs hb hh
        have hy := yielded_of hd hb
        cases hbw : (b == want) with
        | true =>
          rw [hbw] at hh
          rw [if_pos (by simp only [Region.wanted, hg, hy]; simpa using hbw)]
          exact .inl (run hh hs)
        | false =>
          rw [hbw] at hh
          rw [if_neg (by simp only [Region.wanted, hg, hy]; simpa using hbw)]
          exact skip hh hs
      split at h
      · rename_i ht
        have hb := hs.tm t _ ht
        simp only [SV.toV] at hb
        exact key true hs hb (by cases want <;> exact h)
      · rename_i ht
        have hb := hs.tm t _ ht
        simp only [SV.toV] at hb
        exact key false hs hb (by cases want <;> exact h)
      · rename_i b ht
        have hb := hs.tm t _ ht
        simp only [SV.toV] at hb
        have hst : ∀ (v : SV), v.toV ρ = .bool b → Sym w0 S0 N n0 ρ0 ρ { s with tm := Vc.put t v s.tm } a w := by
          intro v hv
          refine ⟨fun t' v' hv' => ?_, hs.size, hs.defers, hs.hp, hs.fr, hs.own, hs.le, hs.base⟩
          simp only [lk_put] at hv'
          split at hv'
          · rename_i e; subst e; cases hv'; rw [hb, hv]
          · exact hs.tm t' v' hv'
        cases b with
        | true => exact key true (hst .tt (by simp [SV.toV])) hb (by have := h.1 rfl; cases want <;> exact this)
        | false => exact key false (hst .ff (by simp [SV.toV])) hb (by have := h.2 rfl; cases want <;> exact this)
      · rename_i ht
        have hb := hs.tm t _ ht
        simp only [SV.toV, toVs] at hb
        have hy : yielded ops.toArray a.tmps j = none := by
          unfold yielded
          have : ((ops.toArray[j]?).bind (·.dst)) = some t := by simpa [dstAt] using hd
          rw [this]
          simp [hb]
        rw [if_neg (by simp [Region.wanted, hg, hy])]
        exact skip h hs
      · exact h.elim

theorem memN_iff {i : Nat} : ∀ {l : List Nat}, memN i l = true ↔ i ∈ l
  | [] => by simp [memN]
  | j :: l => by
    simp only [memN, Bool.or_eq_true, List.mem_cons, memN_iff (l := l)]
    constructor
    · rintro (h | h)
      · exact .inl (beq_eq h)
      · exact .inr h
    · rintro (h | h)
      · subst h; exact .inl (Nat.beq_refl i)
      · exact .inr h
theorem readyO_iff {done : List Nat} {o : Oper} : readyO done o = true ↔ ∀ e ∈ o.after, Region.binds .any e = true → e.on ∈ done := by
  unfold readyO
  rw [List.all_eq_true]
  constructor
  · intro h e he hb
    have := h e (by simpa using he)
    simp only [hb, Bool.not_true, Bool.false_or] at this
    exact memN_iff.1 this
  · intro h e he
    cases hb : Region.binds .any e with
    | false => simp
    | true => simp only [Bool.not_true, Bool.false_or]; exact memN_iff.2 (h e (by simpa using he) hb)
theorem rdyL_mem {done : List Nat} : ∀ {l : List Oper} {k i : Nat} {o : Oper}, (i, o) ∈ rdyL done l k ↔ k ≤ i ∧ l[i - k]? = some o ∧ i ∉ done ∧ readyO done o = true
  | [], k, i, o => by simp [rdyL]
  | u :: l, k, i, o => by
    have ih := rdyL_mem (done := done) (l := l) (k := k + 1) (i := i) (o := o)
    have tail : (k + 1 ≤ i ∧ l[i - (k + 1)]? = some o ∧ i ∉ done ∧ readyO done o = true) ↔ (k ≤ i ∧ i ≠ k ∧ (u :: l)[i - k]? = some o ∧ i ∉ done ∧ readyO done o = true) := by
      constructor
      · rintro ⟨h1, h2, h3⟩
        refine ⟨by omega, by omega, ?_, h3⟩
        rw [show i - k = (i - (k + 1)) + 1 by omega, List.getElem?_cons_succ]; exact h2
      · rintro ⟨h1, h2, h3, h4⟩
        refine ⟨by omega, ?_, h4⟩
        rw [show i - k = (i - (k + 1)) + 1 by omega, List.getElem?_cons_succ] at h3; exact h3
    unfold rdyL
    cases hb : (!memN k done && readyO done u) with
    | true =>
      simp only [cond_true, List.mem_cons, Prod.mk.injEq, ih, tail]
      simp only [Bool.and_eq_true, Bool.not_eq_true'] at hb
      have hk : k ∉ done := fun h => by rw [memN_iff.2 h] at hb; cases hb.1
      constructor
      · rintro (⟨rfl, rfl⟩ | ⟨h1, _, h2⟩)
        · exact ⟨Nat.le_refl _, by simp, hk, hb.2⟩
        · exact ⟨h1, h2⟩
      · rintro ⟨h1, h2, h3⟩
        by_cases e : i = k
        · subst e; simp at h2; exact .inl ⟨rfl, h2.symm⟩
        · exact .inr ⟨h1, e, h2, h3⟩
    | false =>
      simp only [cond_false, ih, tail]
      constructor
      · rintro ⟨h1, _, h2⟩; exact ⟨h1, h2⟩
      · rintro ⟨h1, h2, h3, h4⟩
        refine ⟨h1, fun e => ?_, h2, h3, h4⟩
        subst e
        simp at h2
        subst h2
        rw [h4] at hb
        simp only [Bool.and_true, Bool.not_eq_false'] at hb
        exact h3 (memN_iff.1 hb)
theorem rdy_iff {ops : List Oper} {done : List Nat} {j : Nat} : Rdy ops.toArray done j ↔ ∃ o, (j, o) ∈ rdyL done ops 0 := by
  unfold Rdy
  constructor
  · rintro ⟨h1, o, h2, h3⟩
    exact ⟨o, rdyL_mem.2 ⟨Nat.zero_le _, by simpa using h2, h1, readyO_iff.2 h3⟩⟩
  · rintro ⟨o, h⟩
    obtain ⟨_, h2, h3, h4⟩ := rdyL_mem.1 h
    exact ⟨h3, o, by simpa using h2, readyO_iff.1 h4⟩
theorem firstE_some {eag : Nat → Oper → Bool} : ∀ {l : List (Nat × Oper)} {q : Nat × Oper}, firstE eag l = some q → q ∈ l ∧ eag q.1 q.2 = true
  | [], q, h => by cases h
  | (i, o) :: l, q, h => by
    unfold firstE at h
    cases hb : eag i o with
    | true => rw [hb] at h; cases h; exact ⟨by simp, hb⟩
    | false => rw [hb] at h; obtain ⟨h1, h2⟩ := firstE_some h; exact ⟨by simp [h1], h2⟩
theorem allP_mem {α : Type} {f : α → Prop} : ∀ {l : List α}, allP f l → ∀ x ∈ l, f x
  | [], _, x, hx => by cases hx
  | [y], h, x, hx => by simp at hx; subst hx; exact h
  | y :: z :: l, h, x, hx => by
    rcases List.mem_cons.1 hx with rfl | hx
    · exact h.1
    · exact allP_mem h.2 x hx

theorem vcT_sound (hT : TsOk P T) (hΓ : GsOk P Γ) {ops : List Oper} {F : Act → World → Prop} {K : St → Prop} (hK : ∀ s' ρ' a' w', Sym w0 S0 N n0 ρ0 ρ' s' a' w' → K s' → F a' w') : ∀ {n : Nat} {done : List Nat} {s : St} {ρ : Nat → Value} {a : Act} {w : World}, vcT T Γ N ops n done s K → Sym w0 S0 N n0 ρ0 ρ s a w →
    wpC P ops.toArray (flAt Γ ops) (eagAt Γ ops) F n done a w
  | 0, done, s, ρ, a, w, h, hs => by
    unfold vcT at h
    split at h
    · rename_i hr
      exact ⟨fun j hj => (by obtain ⟨o, ho⟩ := rdy_iff.1 hj; rw [hr] at ho; cases ho), hK _ _ _ _ hs h⟩
    · exact h.elim
  | n + 1, done, s, ρ, a, w, h, hs => by
    have step : ∀ q : Nat × Oper, q ∈ rdyL done ops 0 → stepO T Γ N ops (flOf Γ q.2) q.2 s (fun s => vcT T Γ N ops n (q.1 :: done) s K) →
        opWp P ops.toArray q.1 (fun a' w' => (flAt Γ ops q.1 = true → Old w w') ∧ wpC P ops.toArray (flAt Γ ops) (eagAt Γ ops) F n (q.1 :: done) a' w') a w := by
      intro q hq hh
      have ho : ops[q.1]? = some q.2 := by have := (rdyL_mem.1 hq).2.1; simpa using this
      have hfl : flAt Γ ops q.1 = flOf Γ q.2 := by unfold flAt; rw [ho]
      rw [hfl]
      exact stepO_sound hT hΓ ho hh hs fun s' ρ' a' w' hs' hk => vcT_sound hT hΓ hK hk hs'
    unfold vcT at h
    split at h
    · rename_i hr
      exact .inr ⟨fun _ => hK _ _ _ _ hs h, fun j hj => by obtain ⟨o, ho⟩ := rdy_iff.1 hj; rw [hr] at ho; cases ho⟩
    · rename_i p l hr
      split at h
      · rename_i q hf
        obtain ⟨h1, h2⟩ := firstE_some hf
        rw [← hr] at h1
        have ho : ops[q.1]? = some q.2 := by have := (rdyL_mem.1 h1).2.1; simpa using this
        exact .inl ⟨q.1, by unfold eagAt; rw [ho]; exact h2, rdy_iff.2 ⟨q.2, h1⟩, step q h1 h⟩
      · refine .inr ⟨fun h0 => absurd (rdy_iff.2 ⟨p.2, by rw [hr]; simp⟩) (h0 p.1), fun j hj => ?_⟩
        obtain ⟨o, ho⟩ := rdy_iff.1 hj
        have := allP_mem h (j, o) (by rw [← hr]; exact ho)
        exact step (j, o) ho this

theorem leafS_sound {v : SV} (h : leafS v = true) (ρ : Nat → Value) : leafV (v.toV ρ) = true := by
  cases v <;> first | (cases h; done) | simp [SV.toV, leafV]
theorem plainSV_sound {v : SV} (h : plainSV v = true) (ρ : Nat → Value) : plainV (v.toV ρ) = true := by
  cases v with
  | agg l =>
    simp only [plainSV] at h
    simp only [SV.toV, plainV, toVs_eq]
    rw [List.all_eq_true] at h
    simp only [List.all_map, List.all_eq_true]
    exact fun x hx => leafS_sound (h x hx) ρ
  | _ => exact plain_of_leaf (leafS_sound (by simpa [plainSV] using h) ρ)
theorem ptrS_sound {v : SV} (h : ptrS v = true) (ρ : Nat → Value) : ptrV (v.toV ρ) = true := by
  cases v <;> first | (cases h; done) | (simp [SV.toV, ptrV]; done) | skip
  rename_i u
  simp only [ptrS] at h
  unfold isNilP at h
  split at h
  · simp [SV.toV, ptrV]
  · cases h
theorem plainOp_sound {o : Oper} (hs : Sym w0 S0 N n0 ρ0 ρ s a w) (h : plainOp s o = true) : (needs o).all (fun x => needV o (a.eval x)) = true := by
  unfold plainOp at h
  rw [List.all_eq_true] at h ⊢
  intro x hx
  have := h x hx
  split at this
  · rename_i v hv
    rw [ev_sound hs hv]
    split at this
    · rename_i c hc
      have e : needV o = leafV := by unfold needV; rw [hc]
      rw [e]; exact leafS_sound this ρ
    · rename_i c hc
      have e : needV o = ptrV := by unfold needV; rw [hc]
      rw [e]; exact ptrS_sound this ρ
    · rename_i hc hc2
      have e : needV o = plainV := by unfold needV; cases ho : o.op <;> first | rfl | (exact absurd ho (hc _); done) | (exact absurd ho (hc2 _); done)
      rw [e]; exact plainSV_sound this ρ
  · cases this
theorem plainS_sound {ops : List Oper} (hs : Sym w0 S0 N n0 ρ0 ρ s a w) : ∀ {l : List Oper}, plainS ops s l = true → l.all (fun o => !Region.wanted o (yielded ops.toArray a.tmps) || (needs o).all fun x => needV o (a.eval x)) = true
  | [], _ => rfl
  | o :: l, h => by
    simp only [plainS, Bool.and_eq_true] at h
    rw [List.all_cons, plainS_sound hs h.2, Bool.and_true]
    have h1 := h.1
    split at h1
    · rw [plainOp_sound hs h1]; simp
    · rename_i j want hg
      split at h1
      · rename_i hd
        have : yielded ops.toArray a.tmps j = none := by
          unfold yielded
          have : ((ops.toArray[j]?).bind (·.dst)) = none := by simpa [dstAt] using hd
          rw [this]; rfl
        simp [Region.wanted, hg, this]
      · rename_i t hd
        split at h1
        · rename_i ht
          have hb := hs.tm t _ ht
          simp only [SV.toV] at hb
          have hy := yielded_of hd hb
          cases want with
          | true => rw [plainOp_sound hs h1]; simp
          | false => simp [Region.wanted, hg, hy]
        · rename_i ht
          have hb := hs.tm t _ ht
          simp only [SV.toV] at hb
          have hy := yielded_of hd hb
          cases want with
          | false => rw [plainOp_sound hs h1]; simp
          | true => simp [Region.wanted, hg, hy]
        · rename_i ht
          have hb := hs.tm t _ ht
          simp only [SV.toV, toVs] at hb
          have hy : yielded ops.toArray a.tmps j = none := by
            unfold yielded
            have : ((ops.toArray[j]?).bind (·.dst)) = some t := by simpa [dstAt] using hd
            rw [this]
            simp [hb]
          simp [Region.wanted, hg, hy]
        · rw [plainOp_sound hs h1]; simp
end
end Go.Vc
