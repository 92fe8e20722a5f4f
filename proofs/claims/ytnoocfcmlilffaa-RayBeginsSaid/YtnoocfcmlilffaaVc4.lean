/-
  THE SYMBOLIC EXECUTOR IS SOUND, 2: single operations. No program in sight.
-/
import Derived.Test.YtnoocfcmlilffaaVc3
set_option linter.all false
set_option linter.unusedSimpArgs false
set_option linter.unusedVariables false
namespace Go.Vc
open Go Go.RowKit Go.Ql Go.Draw

section
variable {P : Program} {T : Tys} {w0 : World} {S0 : Nat → Prop} {N n0 : Nat} {ρ0 : Nat → Value} {ρ : Nat → Value} {s : St} {a : Act} {w : World}

/-! ### types -/
theorem TiOk.parts {t : TypeId} {ti : TI} (h : TiOk P t ti) : ∃ i, P.info? t = some i ∧ i.size = ti.zs.length ∧ i.zero = some ti.zero := by
  have := h.info
  cases hi : P.info? t with
  | none => rw [hi] at this; cases this
  | some i =>
    rw [hi] at this
    simp only [Option.map_some, Option.some.injEq, Prod.mk.injEq] at this
    exact ⟨i, rfl, this.1, this.2⟩
theorem TiOk.undParts {t : TypeId} {ti : TI} (h : TiOk P t ti) : ∃ d, P.underlying t = some d ∧ aggD d = ti.agg ∧ fieldsD P d = ti.fs := by
  have := h.und
  cases hi : P.underlying t with
  | none => rw [hi] at this; cases this
  | some i =>
    rw [hi] at this
    simp only [Option.map_some, Option.some.injEq, Prod.mk.injEq] at this
    exact ⟨i, rfl, this.1, this.2⟩
theorem TiOk.run_size {t : TypeId} {ti : TI} (h : TiOk P t ti) (w : World) : (sizeOf t).run P w = .ok ti.zs.length w := by
  obtain ⟨i, hi, hs, _⟩ := h.parts
  simp [sizeOf, typeInfo, hi, hs]
theorem TiOk.run_zero {t : TypeId} {ti : TI} (h : TiOk P t ti) (w : World) : (zeroValue t).run P w = .ok ti.zero w := by
  obtain ⟨i, hi, _, hz⟩ := h.parts
  simp [zeroValue, typeInfo, hi, hz]
theorem run_isAgg {t : TypeId} {d : TypeDesc} (h : P.underlying t = some d) (w : World) : (isAgg t).run P w = .ok (aggD d) w := by
  simp only [isAgg, Sem.run_bind, run_underlying h]
  cases d <;> rfl
theorem TiOk.run_isAgg {t : TypeId} {ti : TI} (h : TiOk P t ti) (w : World) : (isAgg t).run P w = .ok ti.agg w := by
  obtain ⟨d, hd, ha, _⟩ := h.undParts
  rw [Vc.run_isAgg hd, ha]
theorem oneCell_cells {v : Value} (h : v.oneCell' = true) : v.cells = #[v] := by cases v <;> first | rfl | simp [Value.oneCell'] at h
theorem TiOk.zero_cells {t : TypeId} {ti : TI} (h : TiOk P t ti) : ti.zero.cells = (ti.zs.map Z.v).toArray := by
  have h1 := h.ones
  have h2 := h.sing
  unfold TI.zero
  cases hg : ti.agg with
  | true => rfl
  | false =>
    rw [hg] at h2
    simp only [Bool.false_eq_true, false_or] at h2
    match hz : ti.zs, h2 with
    | [z], _ =>
      rw [hz] at h1
      simp only [List.all_cons, List.all_nil, Bool.and_true] at h1
      exact oneCell_cells h1

/-! ### operands -/
theorem ofConst_toV (v : Value) : (ofConst v).toV ρ = v := by
  unfold ofConst
  split <;> simp [SV.toV]
theorem ev_sound (hs : Sym w0 S0 N n0 ρ0 ρ s a w) {x : Operand} {v : SV} (h : ev s x = some v) : a.eval x = v.toV ρ := by
  cases x with
  | tmp t =>
    have := hs.tm t v h
    simp [Act.eval, Array.getD_eq_getD_getElem?, this]
  | const u => cases h; exact (ofConst_toV u).symm
  | global g => cases h
  | func f => cases h; simp [Act.eval, SV.toV, toVs]
theorem evs_sound (hs : Sym w0 S0 N n0 ρ0 ρ s a w) : ∀ {l : List Operand} {vs : List SV}, evs s l = some vs → l.map a.eval = toVs ρ vs
  | [], vs, h => by cases h; simp [toVs]
  | x :: l, vs, h => by
    unfold evs at h
    split at h
    · rename_i v us h1 h2
      cases h
      simp only [List.map_cons, toVs, ev_sound hs h1, evs_sound hs h2]
    · cases h

theorem wp_val {o : Oper} {v : Value} {w' : World} {K' : Act → World → Prop} {Q : Exit → Act → World → Prop} (h : (execOp a.eval o).run P w = .ok (.value v) w') (hK : K' (a.put o.dst v) w') : o.wp P a w K' Q := by
  unfold Oper.wp; rw [h]; exact hK

theorem grownBy_refl (w : World) (row : Option Nat) : w.grownBy w row := ⟨rfl, rfl, rfl, Nat.le_refl _, fun _ _ _ => rfl⟩
theorem isNil_eq {u : Value} (h : isNilV u = true) : u = .slice none 0 0 := by
  unfold isNilV at h; split at h <;> first | rfl | cases h

theorem empty_len (rk : RK) : rk.empty.len = 0 := by cases rk <;> rfl
theorem empty_cells (rk : RK) : rk.empty.cells = [] := by cases rk <;> rfl
theorem empty_width (rk : RK) : rk.empty.width = rk.width := by cases rk <;> rfl
theorem EntOk_nil (w : World) (e : TypeId) (rk : RK) : EntOk ρ w (.slice none 0 0) (.row true e rk.empty) := by
  show w.ownsRow 0 e _ _ _ _
  rw [empty_len, empty_cells]
  exact World.ownsRow_nil w 0 e _

theorem nrm_sound {ty : TypeId} {v : SV} {K : SV → St → Prop} (h : nrm T ty v s K) (hs : Sym w0 S0 N n0 ρ0 ρ s a w) :
    ∃ v' s' ρ', K v' s' ∧ Sym w0 S0 N n0 ρ0 ρ' s' a w ∧ v'.toV ρ' = v.toV ρ ∧ (∀ k, k < s.nk → ρ' k = ρ k) ∧ s.nk ≤ s'.nk := by
  unfold nrm at h
  split at h
  · rename_i u
    cases hu : isNilV u with
    | false => rw [hu] at h; exact ⟨_, s, ρ, h, hs, rfl, fun _ _ => rfl, Nat.le_refl _⟩
    | true =>
      rw [hu] at h
      simp only [cond_true] at h
      split at h
      · rename_i e rk _ _ _ _
        cases hk : s.kb with
        | false => rw [hk] at h; exact h.elim
        | true =>
          rw [hk] at h
          have hl : ∀ k d, lk k [(s.nk, Ent.row true e rk.empty)] = some d → k = s.nk ∧ d = .row true e rk.empty := by
            intro k d hd
            rw [lk_cons] at hd
            split at hd
            · rename_i e1; cases hd; exact ⟨e1, rfl⟩
            · simp [lk] at hd
          refine ⟨_, _, fun j => if j = s.nk then .slice none 0 0 else ρ j, h, ?_, ?_, fun k hk => by simp; omega, by simp⟩
          · refine hs.more hk (Nat.le_succ _) (grownBy_refl w none) (hn := [(s.nk, Ent.row true e rk.empty)]) (fun k hk => by simp; omega) (fun k => ?_) (fun k d hd => ?_) (fun k d hd => ?_) (fun k d hd g hg => ?_) (fun k d k' d' hd hd' hne g hg => ?_)
            · split
              · rfl
              · exact hs.hp.one k
            · obtain ⟨rfl, rfl⟩ := hl k d hd; exact Nat.le_refl _
            · obtain ⟨rfl, rfl⟩ := hl k d hd; simp only [if_true]; exact EntOk_nil w e rk
            · obtain ⟨rfl, rfl⟩ := hl k d hd; simp [Ent.touch, Value.ownBlock] at hg
            · obtain ⟨rfl, rfl⟩ := hl k d hd
              obtain ⟨rfl, _⟩ := hl k' d' hd'
              exact absurd rfl hne
          · simp [SV.toV, isNil_eq hu]
      · exact h.elim
  · exact ⟨_, s, ρ, h, hs, rfl, fun _ _ => rfl, Nat.le_refl _⟩

/-! ### zero cells -/
theorem zeros_sound : ∀ (zs : List Z) (nk : Nat) (cells : List SV) (h : Heap) (n : Nat), zeros zs nk = (cells, h, n) →
    nk ≤ n ∧ (∀ ρ : Nat → Value, (∀ k, nk ≤ k → k < n → ρ k = .slice none 0 0) → toVs ρ cells = zs.map Z.v) ∧ (∀ k e, lk k h = some e → nk ≤ k ∧ k < n ∧ ∃ t rk, e = .row true t (RK.empty rk)) ∧ kbs n cells = true
  | [], nk, cells, h, n, hz => by
    cases hz
    exact ⟨Nat.le_refl _, fun _ _ => by simp [toVs], fun k e hl => by simp [lk] at hl, rfl⟩
  | z :: l, nk, cells, h, n, hz => by
    have plain : ∀ (v : SV) (u : Value) (c : List SV), (∀ ρ, v.toV ρ = u) → (∀ m, v.kb m = true) → zeros l nk = (c, h, n) → cells = v :: c → Z.v z = u → nk ≤ n ∧ (∀ ρ : Nat → Value, (∀ k, nk ≤ k → k < n → ρ k = .slice none 0 0) → toVs ρ cells = (z :: l).map Z.v) ∧ (∀ k e, lk k h = some e → nk ≤ k ∧ k < n ∧ ∃ t rk, e = .row true t (RK.empty rk)) ∧ kbs n cells = true := by
      intro v u c hv hkv hc he hu
      obtain ⟨h1, h2, h3, h4⟩ := zeros_sound l nk c h n hc
      subst he
      refine ⟨h1, fun ρ hρ => ?_, h3, by simp [kbs, hkv, h4]⟩
      simp [toVs, hv, h2 ρ hρ, hu]
    cases hzl : zeros l nk with
    | mk c hn =>
    obtain ⟨h', n'⟩ := hn
    unfold zeros at hz
    cases z with
    | int k => rw [hzl] at hz; cases hz; exact plain (.int k 0) _ _ (fun _ => by simp only [SV.toV]; rfl) (fun _ => rfl) hzl rfl rfl
    | bool => rw [hzl] at hz; cases hz; exact plain .ff _ _ (fun _ => by simp only [SV.toV]; rfl) (fun _ => rfl) hzl rfl rfl
    | map kk vk => rw [hzl] at hz; cases hz; exact plain (.val (.map none)) (.map none) _ (fun _ => by simp only [SV.toV]) (fun _ => rfl) hzl rfl rfl
    | val v => rw [hzl] at hz; cases hz; exact plain (.val v) v _ (fun _ => by simp only [SV.toV]) (fun _ => rfl) hzl rfl rfl
    | slice e rk =>
      simp only [Prod.mk.injEq] at hz
      obtain ⟨rfl, rfl, rfl⟩ := hz
      obtain ⟨h1, h2, h3, h4⟩ := zeros_sound l (nk + 1) _ _ _ rfl
      refine ⟨by omega, fun ρ hρ => ?_, fun k e hl => ?_, ?_⟩
      · rw [toVs, h2 ρ (fun k hk hk' => hρ k (by omega) hk')]
        simp [SV.toV, hρ nk (Nat.le_refl _) (by omega), Z.v]
      · rw [lk_cons] at hl
        split at hl
        · rename_i e1; subst e1; cases hl; exact ⟨Nat.le_refl _, by omega, _, _, rfl⟩
        · obtain ⟨a1, a2, a3⟩ := h3 k e hl; exact ⟨by omega, a2, a3⟩
      · simp only [kbs, SV.kb, Bool.and_eq_true]
        exact ⟨by simp [Nat.blt_eq]; omega, h4⟩

/-! ### moves -/
theorem move_sound {o : Oper} {x : Operand} {K : St → Prop} (ho : o.op = .move x ∨ o.op = .assign x) (h : (match ev s x with | some v => nrm T o.type v s fun v s => toDst N o.dst v s K | none => False)) (hs : Sym w0 S0 N n0 ρ0 ρ s a w)
    {K' : Act → World → Prop} {Q : Exit → Act → World → Prop} (hK : ∀ s' ρ' a' w', Sym w0 S0 N n0 ρ0 ρ' s' a' w' → K s' → K' a' w') : o.wp P a w K' Q := by
  split at h
  · rename_i v hv
    obtain ⟨v', s', ρ', hk, hs', hv', _⟩ := nrm_sound h hs
    have he := ev_sound hs hv
    refine wp_val (v := v'.toV ρ') (w' := w) ?_ (toDst_sound hk hs' hK)
    rw [hv', ← he]
    rcases ho with ho | ho <;> simp [execOp, ho]
  · exact h.elim

theorem boolOf_toV {v : SV} {b : Bool} (h : boolOf v = some b) : v.toV ρ = .bool b := by
  cases v <;> simp [boolOf] at h <;> subst h <;> simp [SV.toV]

theorem pick_sound {o : Oper} {c x y : Operand} {K : St → Prop} (ho : o.op = .pick c x y) {Γ : Specs} (h : vcOp T Γ N o s K) (hs : Sym w0 S0 N n0 ρ0 ρ s a w)
    {K' : Act → World → Prop} {Q : Exit → Act → World → Prop} (hK : ∀ s' ρ' a' w', Sym w0 S0 N n0 ρ0 ρ' s' a' w' → K s' → K' a' w') : o.wp P a w K' Q := by
  unfold vcOp at h
  rw [ho] at h
  simp only at h
  split at h
  · rename_i hc
    split at h
    · rename_i v hv
      refine wp_val (v := v.toV ρ) (w' := w) ?_ (toDst_sound h hs hK)
      simp [execOp, ho, ev_sound hs hc, ev_sound hs hv, SV.toV, asBool]
    · exact h.elim
  · rename_i hc
    split at h
    · rename_i v hv
      refine wp_val (v := v.toV ρ) (w' := w) ?_ (toDst_sound h hs hK)
      simp [execOp, ho, ev_sound hs hc, ev_sound hs hv, SV.toV, asBool]
    · exact h.elim
  · rename_i b hc
    split at h
    · rename_i v u hv hu
      split at h
      · rename_i p q hp hq
        refine wp_val (v := SV.toV ρ (.bool (bif b then p else q))) (w' := w) ?_ (toDst_sound h hs hK)
        have e1 := ev_sound hs hv
        have e2 := ev_sound hs hu
        rw [boolOf_toV hp] at e1
        rw [boolOf_toV hq] at e2
        cases b <;> simp [execOp, ho, ev_sound hs hc, e1, e2, SV.toV, asBool]
      · exact h.elim
    · exact h.elim
  · exact h.elim

/-! ### new memory -/
theorem Sym.newBlock (hs : Sym w0 S0 N n0 ρ0 ρ s a w) (hk : s.kb = true) {cells : List SV} {h : Heap} {n : Nat} {ty : TypeId} (hn : s.nk ≤ n)
    (hh : ∀ k e, lk k h = some e → s.nk ≤ k ∧ k < n ∧ ∃ t rk, e = .row true t (RK.empty rk)) (hkb : kbs n cells = true) {cs : Array Value}
    (hcs : ∀ ρ' : Nat → Value, (∀ k, k < s.nk → ρ' k = ρ k) → (∀ k, s.nk ≤ k → k < n → ρ' k = .slice none 0 0) → (toVs ρ' cells).toArray = cs) :
    ∃ ρ', Sym w0 S0 N n0 ρ0 ρ' { tm := s.tm, hp := (n, .box true ty cells) :: (h ++ s.hp), nk := n + 1 } a (w.alloc (.cells cs ty)) ∧ SV.toV ρ' (.ptr n 0 0 0) = .pointer (some ⟨w.heap.size, 0, none⟩) := by
  let ρ' : Nat → Value := fun k => if k < s.nk then ρ k else if k < n then .slice none 0 0 else .pointer (some ⟨w.heap.size, 0, none⟩)
  have r1 : ∀ k, k < s.nk → ρ' k = ρ k := fun k hk => by simp [ρ', hk]
  have r2 : ∀ k, s.nk ≤ k → k < n → ρ' k = .slice none 0 0 := fun k h1 h2 => by simp only [ρ']; rw [if_neg (by omega), if_pos h2]
  have r3 : ρ' n = .pointer (some ⟨w.heap.size, 0, none⟩) := by simp only [ρ']; rw [if_neg (by omega), if_neg (by omega)]
  have hsp : ∀ k e, lk k ((n, Ent.box true ty cells) :: h) = some e → (k = n ∧ e = .box true ty cells) ∨ (s.nk ≤ k ∧ k < n ∧ ∃ t rk, e = .row true t (RK.empty rk)) := by
    intro k e hl
    rw [lk_cons] at hl
    split at hl
    · rename_i e1; cases hl; exact .inl ⟨e1, rfl⟩
    · exact .inr (hh k e hl)
  refine ⟨ρ', ?_, by simp [SV.toV, r3, addrOf]⟩
  have := hs.more (ρ' := ρ') (w' := w.alloc (.cells cs ty)) (hn := (n, Ent.box true ty cells) :: h) (n := n + 1) hk (by omega) (World.grownBy_alloc w _ none) r1 (fun k => ?_) (fun k e hl => ?_) (fun k e hl => ?_) (fun k e hl g hg => ?_) (fun k e k' e' hl hl' hne g hg => ?_)
  · simpa using this
  · simp only [ρ']
    split
    · exact hs.hp.one k
    · split <;> rfl
  · rcases hsp k e hl with ⟨rfl, _⟩ | ⟨h1, _⟩
    · exact hn
    · exact h1
  · rcases hsp k e hl with ⟨rfl, rfl⟩ | ⟨h1, h2, t, rk, rfl⟩
    · rw [r3]
      exact ⟨w.heap.size, rfl, by rw [hcs ρ' r1 r2]; exact Has.new w ty cs⟩
    · rw [r2 k h1 h2]; exact EntOk_nil _ t rk
  · rcases hsp k e hl with ⟨rfl, rfl⟩ | ⟨h1, h2, t, rk, rfl⟩
    · rw [r3] at hg
      simp only [Ent.touch, Value.pointer.injEq, Option.some.injEq, Addr.mk.injEq] at hg
      omega
    · rw [r2 k h1 h2] at hg; simp [Ent.touch, Value.ownBlock] at hg
  · rcases hsp k e hl with ⟨rfl, rfl⟩ | ⟨h1, h2, t, rk, rfl⟩
    · rcases hsp k' e' hl' with ⟨rfl, rfl⟩ | ⟨h1, h2, t, rk, rfl⟩
      · exact absurd rfl hne
      · rw [r2 k' h1 h2]; simp [Ent.touch, Value.ownBlock]
    · rw [r2 k h1 h2] at hg; simp [Ent.touch, Value.ownBlock] at hg

/-- a new row of one's own -/
theorem Sym.newRow (hs : Sym w0 S0 N n0 ρ0 ρ s a w) (hk : s.kb = true) {e : TypeId} {r : Row} {v : Value} {w' : World} (hg : w.grownBy w' none) (hown : w'.ownsRow 0 e r.width v r.len r.cells) (hone : v.oneCell' = true)
    (hnew : ∀ g, v.ownBlock = some g → w.heap.size ≤ g) :
    ∃ ρ', Sym w0 S0 N n0 ρ0 ρ' { tm := s.tm, hp := (s.nk, .row true e r) :: s.hp, nk := s.nk + 1 } a w' ∧ SV.toV ρ' (.row s.nk) = v := by
  have hl : ∀ k d, lk k [(s.nk, Ent.row true e r)] = some d → k = s.nk ∧ d = .row true e r := by
    intro k d hd
    rw [lk_cons] at hd
    split at hd
    · rename_i e1; cases hd; exact ⟨e1, rfl⟩
    · simp [lk] at hd
  refine ⟨fun j => if j = s.nk then v else ρ j, ?_, by simp [SV.toV]⟩
  refine hs.more hk (Nat.le_succ _) hg (hn := [(s.nk, Ent.row true e r)]) (fun k hk => by simp; omega) (fun k => ?_) (fun k d hd => ?_) (fun k d hd => ?_) (fun k d hd g hg => ?_) (fun k d k' d' hd hd' hne g hg => ?_)
  · split
    · exact hone
    · exact hs.hp.one k
  · obtain ⟨rfl, rfl⟩ := hl k d hd; exact Nat.le_refl _
  · obtain ⟨rfl, rfl⟩ := hl k d hd; simp only [if_true]; exact hown
  · obtain ⟨rfl, rfl⟩ := hl k d hd
    simp only [if_true, Ent.touch] at hg
    exact hnew g hg
  · obtain ⟨rfl, rfl⟩ := hl k d hd
    obtain ⟨rfl, _⟩ := hl k' d' hd'
    exact absurd rfl hne

theorem alloc_sound {o : Oper} {ty : TypeId} {K : St → Prop} (hT : TsOk P T) (ho : o.op = .alloc ty) {Γ : Specs} (h : vcOp T Γ N o s K) (hs : Sym w0 S0 N n0 ρ0 ρ s a w)
    {K' : Act → World → Prop} {Q : Exit → Act → World → Prop} (hK : ∀ s' ρ' a' w', Sym w0 S0 N n0 ρ0 ρ' s' a' w' → K s' → K' a' w') : o.wp P a w K' Q := by
  unfold vcOp at h
  rw [ho] at h
  simp only at h
  split at h
  · rename_i ti hti
    cases hk : s.kb with
    | false => rw [hk] at h; exact h.elim
    | true =>
      rw [hk] at h
      cases hz : zeros ti.zs s.nk with
      | mk cells hn =>
      obtain ⟨hh, n⟩ := hn
      rw [hz] at h
      simp only [cond_true] at h
      obtain ⟨z1, z2, z3, z4⟩ := zeros_sound _ _ _ _ _ hz
      have ht := hT ty ti hti
      obtain ⟨ρ', hs', hv⟩ := hs.newBlock hk (ty := ty) (cs := ti.zero.cells) z1 z3 z4 (fun ρ' _ h2 => by rw [z2 ρ' h2, ht.zero_cells])
      refine wp_val (w' := w.alloc (.cells ti.zero.cells ty)) ?_ (toDst_sound h hs' hK)
      rw [hv]
      simp [execOp, ho, Instr.alloc, ht.run_zero, newVar, newRow]
  · exact h.elim

theorem cells_toV (v : SV) (h : allOne v.cells = true) (hone : ∀ k, (ρ k).oneCell' = true) : (v.toV ρ).cells = (toVs ρ v.cells).toArray := by
  cases v with
  | agg l => simp [SV.toV, SV.cells, Value.cells]
  | tup l => simp [SV.cells, allOne, SV.one] at h
  | row k => simp only [SV.toV, SV.cells, toVs]; exact oneCell_cells (hone k)
  | val u =>
    simp only [SV.cells, allOne, SV.one, Bool.and_true] at h
    simp only [SV.toV, SV.cells, toVs]; exact oneCell_cells h
  | _ => simp [SV.toV, SV.cells, toVs, Value.cells]
theorem one_toV {v : SV} (h : v.one = true) (hone : ∀ k, (ρ k).oneCell' = true) : (v.toV ρ).oneCell' = true := by
  cases v with
  | agg l => simp [SV.one] at h
  | tup l => simp [SV.one] at h
  | row k => exact hone k
  | val u => exact h
  | _ => simp [SV.toV, Value.oneCell']
theorem allOne_toVs (hone : ∀ k, (ρ k).oneCell' = true) : ∀ {l : List SV}, allOne l = true → ∀ u ∈ toVs ρ l, u.oneCell' = true
  | [], _, u, hu => by simp [toVs] at hu
  | s :: l, h, u, hu => by
    simp only [allOne, Bool.and_eq_true] at h
    simp only [toVs, List.mem_cons] at hu
    rcases hu with rfl | hu
    · exact one_toV h.1 hone
    · exact allOne_toVs hone h.2 u hu

theorem box_sound {o : Oper} {ty : TypeId} {x : Operand} {K : St → Prop} (ho : o.op = .box ty x) {Γ : Specs} (h : vcOp T Γ N o s K) (hs : Sym w0 S0 N n0 ρ0 ρ s a w)
    {K' : Act → World → Prop} {Q : Exit → Act → World → Prop} (hK : ∀ s' ρ' a' w', Sym w0 S0 N n0 ρ0 ρ' s' a' w' → K s' → K' a' w') : o.wp P a w K' Q := by
  unfold vcOp at h
  rw [ho] at h
  simp only at h
  split at h
  · rename_i v hv
    cases hk : (s.kb && allOne v.cells && kbs s.nk v.cells) with
    | false => rw [hk] at h; exact h.elim
    | true =>
      rw [hk] at h
      simp only [cond_true] at h
      simp only [Bool.and_eq_true] at hk
      obtain ⟨⟨k1, k2⟩, k3⟩ := hk
      obtain ⟨ρ', hs', hv'⟩ := hs.newBlock k1 (ty := ty) (cs := (v.toV ρ).cells) (h := []) (Nat.le_refl _) (fun k e hl => by simp [lk] at hl) k3 (fun ρ' h1 _ => by rw [toVs_congr h1 _ k3, cells_toV v k2 hs.hp.one])
      refine wp_val (w' := w.alloc (.cells (v.toV ρ).cells ty)) ?_ (toDst_sound h hs' hK)
      rw [hv']
      simp [execOp, ho, Instr.box, newVar, newRow, ev_sound hs hv]
  · exact h.elim
end
end Go.Vc
