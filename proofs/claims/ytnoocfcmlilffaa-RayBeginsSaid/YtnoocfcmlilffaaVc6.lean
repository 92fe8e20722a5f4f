/-
  THE SYMBOLIC EXECUTOR IS SOUND, 4: sums, comparisons, addresses, parts. No program in sight.
-/
import Derived.Test.YtnoocfcmlilffaaVc5
set_option linter.all false
set_option linter.unusedSimpArgs false
set_option linter.unusedVariables false
namespace Go.Vc
open Go Go.RowKit Go.Ql Go.Draw

section
variable {P : Program} {T : Tys} {w0 : World} {S0 : Nat → Prop} {N n0 : Nat} {ρ0 : Nat → Value} {ρ : Nat → Value} {s : St} {a : Act} {w : World}

theorem nilCheck_sound {o : Oper} {x : Operand} {K : St → Prop} (ho : o.op = .nilCheck x) {Γ : Specs} (h : vcOp T Γ N o s K) (hs : Sym w0 S0 N n0 ρ0 ρ s a w)
    {K' : Act → World → Prop} {Q : Exit → Act → World → Prop} (hK : ∀ s' ρ' a' w', Sym w0 S0 N n0 ρ0 ρ' s' a' w' → K s' → K' a' w') : o.wp P a w K' Q := by
  unfold vcOp at h
  rw [ho] at h
  simp only at h
  split at h
  · rename_i hv
    have he := ev_sound hs hv
    simp only [SV.toV] at he
    refine wp_val (w' := w) ?_ (toDst_sound h hs hK)
    simp [execOp, ho, he, SV.toV]
  · rename_i hv
    have he := ev_sound hs hv
    simp only [SV.toV] at he
    refine wp_val (w' := w) ?_ (toDst_sound h hs hK)
    simp [execOp, ho, he, SV.toV]
  · exact h.elim

/-! ### sums -/
theorem arith_sound {op : BinOp} {k : IntKind} {p q : Int} {t : TypeId} {K : SV → Prop} (h : arith op k p q K) (hsh : isShift op = false) (ρ : Nat → Value) (w : World) : ∃ v, K v ∧ (binOp op t (.int k p) (.int k q)).run P w = .ok (v.toV ρ) w := by
  cases op <;> first
    | (exact h.elim)
    | (cases hsh; done)
    | (refine ⟨_, h, ?_⟩; simp [binOp, Op.intArith, Op.intCmp, SV.toV]; done)
    | (refine ⟨_, h, ?_⟩; simp [binOp, Op.intBits, andS, SV.toV]; done)
    | (exact ⟨_, h.2, by simp [binOp, Op.intDiv, h.1, SV.toV]⟩)
theorem shift_sound {op : BinOp} {k k' : IntKind} {p q : Int} {t : TypeId} {K : SV → Prop} (h : shiftS op k p q K) (ρ : Nat → Value) (w : World) : ∃ v, K v ∧ (binOp op t (.int k p) (.int k' q)).run P w = .ok (v.toV ρ) w := by
  cases op <;> first
    | (exact h.elim)
    | (refine ⟨_, h.2, ?_⟩; simp [binOp, Op.shift, show ¬ q < 0 by have := h.1; omega, SV.toV])

theorem eqGuard_int (op : BinOp) (t : TypeId) (x y : Operand) (k k' : IntKind) (p q : Int) (w : World) : (eqGuard op t x y (.int k p) (.int k' q)).run P w = .ok () w := by
  unfold eqGuard; cases op <;> simp
theorem eqGuard_bool (op : BinOp) (t : TypeId) (x y : Operand) (p q : Bool) (w : World) : (eqGuard op t x y (.bool p) (.bool q)).run P w = .ok () w := by
  unfold eqGuard; cases op <;> simp
theorem eqGuard_agg (op : BinOp) (t : TypeId) (x y : Operand) (p q : Array Value) (w : World) (h : P.eqGuardType P.depth t = false) : (eqGuard op t x y (.agg p) (.agg q)).run P w = .ok () w := by
  unfold eqGuard; cases op <;> simp [h]

theorem intsOf_sound : ∀ {ks : List IntKind} {l : List SV} {r : List Int}, intsOf ks l = some r → (toVs ρ l).toArray = mkInts ks r ∧ r.length = ks.length
  | [], [], r, h => by cases h; exact ⟨by simp [toVs, mkInts], rfl⟩
  | k :: ks, .int k' n :: l, r, h => by
    unfold intsOf at h
    cases hk : kEq k k' with
    | false => rw [hk] at h; cases h
    | true =>
      rw [hk] at h
      simp only [cond_true] at h
      have := kEq_eq hk
      subst this
      split at h
      · rename_i r' hr
        cases h
        obtain ⟨h1, h2⟩ := intsOf_sound hr
        refine ⟨?_, by simp [h2]⟩
        unfold mkInts at h1 ⊢
        simp only [toVs, SV.toV, List.zipWith_cons_cons]
        have h1' : toVs ρ l = List.zipWith (fun k n => Value.int k n) ks r' := by
          have := congrArg Array.toList h1
          simpa using this
        rw [h1']
      · cases h
  | [], _ :: _, r, h => by cases h
  | _ :: _, [], r, h => by cases h
  | _ :: _, .tt :: _, r, h => by cases h
  | _ :: _, .ff :: _, r, h => by cases h
  | _ :: _, .bool _ :: _, r, h => by cases h
  | _ :: _, .row _ :: _, r, h => by cases h
  | _ :: _, .ptr _ _ _ _ :: _, r, h => by cases h
  | _ :: _, .agg _ :: _, r, h => by cases h
  | _ :: _, .tup _ :: _, r, h => by cases h
  | _ :: _, .fn _ _ :: _, r, h => by cases h
  | _ :: _, .val _ :: _, r, h => by cases h

theorem eqS_sound {op : BinOp} {b : Bool} {K : SV → Prop} (h : eqS op b K) {t : TypeId} {x y : Value} (hxy : ∀ k n, x ≠ .int k n) (hx2 : ∀ n, x ≠ .string n) (hx3 : ∀ k n, x ≠ .float k n) (hx4 : ∀ k n m, x ≠ .complex k n m) (he : (Op.equal t x y).run P w = .ok b w) (ρ : Nat → Value) :
    ∃ v, K v ∧ (binOp op t x y).run P w = .ok (v.toV ρ) w := by
  cases op <;> first
    | (exact h.elim)
    | skip
  · refine ⟨_, h, ?_⟩
    have : binOp .eql t x y = (do pure (.bool (← Op.equal t x y))) := by
      unfold binOp
      cases x <;> first | rfl | (exact absurd rfl (hxy _ _)) | (exact absurd rfl (hx2 _)) | (exact absurd rfl (hx3 _ _)) | (exact absurd rfl (hx4 _ _ _))
    rw [this]
    simp [he, SV.toV]
  · refine ⟨_, h, ?_⟩
    have : binOp .neq t x y = (do pure (.bool (!(← Op.equal t x y)))) := by
      unfold binOp
      cases x <;> first | rfl | (exact absurd rfl (hxy _ _)) | (exact absurd rfl (hx2 _)) | (exact absurd rfl (hx3 _ _)) | (exact absurd rfl (hx4 _ _ _))
    rw [this]
    simp [he, SV.toV]

theorem nilP_eq {v : Value} (h : isNilP v = true) : v = .pointer none := by
  unfold isNilP at h
  split at h
  · rfl
  · cases h
theorem ptrT_sound (hT : TsOk P T) {t : TypeId} (h : isPtrT T t = true) : ∃ d, P.underlying t = some (.pointer d) := by
  unfold isPtrT at h
  split at h
  · rename_i fs sl ik eqs hti
    have := (hT _ _ hti).pt [] rfl rfl
    cases hu : P.underlying t with
    | none => rw [hu] at this; cases this
    | some d =>
      rw [hu] at this
      cases d <;> simp [isPtrD] at this
      exact ⟨_, rfl⟩
  · cases h
theorem binS_sound (hT : TsOk P T) {op : BinOp} {t : TypeId} {x y : SV} {K : SV → Prop} (h : binS T op t x y K) (ox oy : Operand) (ρ : Nat → Value) (w : World) :
    ∃ v, K v ∧ (eqGuard op t ox oy (x.toV ρ) (y.toV ρ)).run P w = .ok () w ∧ (binOp op t (x.toV ρ) (y.toV ρ)).run P w = .ok (v.toV ρ) w := by
  unfold binS at h
  split at h
  · rename_i k p k' q
    simp only [SV.toV]
    cases hsh : isShift op with
    | true =>
      rw [hsh] at h
      obtain ⟨v, hv, hr⟩ := shift_sound (P := P) (t := t) (k' := k') h ρ w
      exact ⟨v, hv, eqGuard_int .., hr⟩
    | false =>
      rw [hsh] at h
      simp only [cond_false] at h
      cases hk : kEq k k' with
      | false => rw [hk] at h; exact h.elim
      | true =>
        rw [hk] at h
        have := kEq_eq hk
        subst this
        obtain ⟨v, hv, hr⟩ := arith_sound (P := P) (t := t) h hsh ρ w
        exact ⟨v, hv, eqGuard_int .., hr⟩
  · rename_i l l'
    split at h
    · rename_i ti hti
      split at h
      · exact h.elim
      · rename_i k ks hks
        split at h
        · rename_i p q hp hq
          obtain ⟨hg, heq⟩ := (hT _ _ hti).eq (by rw [hks]; simp)
          rw [hks] at heq
          obtain ⟨e1, l1⟩ := intsOf_sound (ρ := ρ) hp
          obtain ⟨e2, l2⟩ := intsOf_sound (ρ := ρ) hq
          simp only [SV.toV, e1, e2]
          obtain ⟨v, hv, hr⟩ := eqS_sound (P := P) (t := t) (w := w) h (by simp) (by simp) (by simp) (by simp) (heq p q w l1 l2) ρ
          exact ⟨v, hv, eqGuard_agg _ _ _ _ _ _ _ hg, hr⟩
        · exact h.elim
    · exact h.elim
  · rename_i kk ww ii ff v
    cases hb : (isNilP v && isPtrT T t) with
    | false => rw [hb] at h; exact h.elim
    | true =>
      rw [hb] at h
      simp only [Bool.and_eq_true] at hb
      obtain ⟨d, hd⟩ := ptrT_sound hT hb.2
      have hv := nilP_eq hb.1
      subst hv
      simp only [SV.toV]
      obtain ⟨v, hv, hr⟩ := eqS_sound (P := P) (t := t) (w := w) (x := .pointer (some ⟨(addrOf (ρ kk)).block, (addrOf (ρ kk)).off + (ii * ww + ff), none⟩)) (y := .pointer none) h (by simp) (by simp) (by simp) (by simp) (by show (Op.equalIn (9999 + 1) t _ _).run P w = _; rw [Op.equalIn]; simp [run_underlying hd]) ρ
      exact ⟨v, hv, by unfold eqGuard; cases op <;> simp, hr⟩
  · rename_i u v
    cases hb : (isNilP u && isNilP v && isPtrT T t) with
    | false => rw [hb] at h; exact h.elim
    | true =>
      rw [hb] at h
      simp only [Bool.and_eq_true] at hb
      obtain ⟨d, hd⟩ := ptrT_sound hT hb.2
      have hu := nilP_eq hb.1.1
      have hv := nilP_eq hb.1.2
      subst hu hv
      simp only [SV.toV]
      obtain ⟨v, hv, hr⟩ := eqS_sound (P := P) (t := t) (w := w) (x := .pointer none) (y := .pointer none) h (by simp) (by simp) (by simp) (by simp) (by show (Op.equalIn (9999 + 1) t _ _).run P w = _; rw [Op.equalIn]; simp [run_underlying hd]) ρ
      exact ⟨v, hv, by unfold eqGuard; cases op <;> simp, hr⟩
  · split at h
    · rename_i p q fs sl ik eqs hp hq hti
      rw [boolOf_toV hp, boolOf_toV hq]
      have hu := (hT _ _ hti).bl [] rfl rfl
      obtain ⟨v, hv, hr⟩ := eqS_sound (P := P) (t := t) (w := w) (x := .bool p) (y := .bool q) h (by simp) (by simp) (by simp) (by simp) (by show (Op.equalIn (9999 + 1) t _ _).run P w = _; rw [Op.equalIn]; simp [run_underlying hu]) ρ
      exact ⟨v, hv, eqGuard_bool .., hr⟩
    · exact h.elim

theorem binOp_sound (hT : TsOk P T) {o : Oper} {op : BinOp} {t t' : TypeId} {x y : Operand} {K : St → Prop} (ho : o.op = .binOp op t x y t') {Γ : Specs} (h : vcOp T Γ N o s K) (hs : Sym w0 S0 N n0 ρ0 ρ s a w)
    {K' : Act → World → Prop} {Q : Exit → Act → World → Prop} (hK : ∀ s' ρ' a' w', Sym w0 S0 N n0 ρ0 ρ' s' a' w' → K s' → K' a' w') : o.wp P a w K' Q := by
  unfold vcOp at h
  rw [ho] at h
  simp only at h
  split at h
  · rename_i key u hp hq
    split at h
    · rename_i own ty r zs ag fs sl ik eqs hl hti
      cases hu : isNilV u with
      | false => rw [hu] at h; exact h.elim
      | true =>
        rw [hu] at h
        simp only [cond_true] at h
        have hnil : u = .slice none 0 0 := by
          unfold isNilV at hu
          split at hu
          · rfl
          · cases hu
        subst hnil
        obtain ⟨A, c, hv, hlc, hA⟩ := (hs.hp.ent _ _ hl).reads
        obtain ⟨e, rk, b⟩ := sl
        have hsl := ((hT _ _ hti).sl _ _ _ rfl).1
        have hb : 0 < r.len → A.isNone = false := fun h0 => by
          obtain ⟨b, off, rfl, _⟩ := hA h0; rfl
        obtain ⟨v, h, hr⟩ := eqS_sound (P := P) (t := t) (w := w) (x := .slice A r.len c) (y := .slice none 0 0) (h A.isNone hb) (by simp) (by simp) (by simp) (by simp) (by show (Op.equalIn (9999 + 1) t _ _).run P w = _; rw [Op.equalIn]; cases A <;> simp [run_underlying hsl]) ρ
        refine wp_val (w' := w) ?_ (toDst_sound h hs hK)
        have e1 := ev_sound hs hp
        have e2 := ev_sound hs hq
        simp only [SV.toV] at e1 e2
        rw [hv] at e1
        have hg : (eqGuard op t x y (.slice A r.len c) (.slice none 0 0)).run P w = .ok () w := by unfold eqGuard; cases op <;> simp
        simp [execOp, ho, e1, e2, hg, hr]
    · exact h.elim
  · rename_i p q _ hp hq
    obtain ⟨v, h, hg, hr⟩ := binS_sound hT h x y ρ w
    refine wp_val (w' := w) ?_ (toDst_sound h hs hK)
    simp [execOp, ho, ev_sound hs hp, ev_sound hs hq, hg, hr]
  · exact h.elim

theorem unOp_sound {o : Oper} {op : UnOp} {t : TypeId} {x : Operand} {K : St → Prop} (ho : o.op = .unOp op t x) {Γ : Specs} (h : vcOp T Γ N o s K) (hs : Sym w0 S0 N n0 ρ0 ρ s a w)
    {K' : Act → World → Prop} {Q : Exit → Act → World → Prop} (hK : ∀ s' ρ' a' w', Sym w0 S0 N n0 ρ0 ρ' s' a' w' → K s' → K' a' w') : o.wp P a w K' Q := by
  unfold vcOp at h
  rw [ho] at h
  simp only at h
  split at h
  · rename_i v hv
    have he := ev_sound hs hv
    unfold unS at h
    split at h
    all_goals first
      | (exact h.elim)
      | (refine wp_val (w' := w) ?_ (toDst_sound h hs hK); simp [execOp, ho, he, SV.toV, Op.unary, Op.intArith, Op.intBits, notS])
  · exact h.elim

theorem convert_sound (hT : TsOk P T) {o : Oper} {src dst : TypeId} {x : Operand} {K : St → Prop} (ho : o.op = .convert src dst x) {Γ : Specs} (h : vcOp T Γ N o s K) (hs : Sym w0 S0 N n0 ρ0 ρ s a w)
    {K' : Act → World → Prop} {Q : Exit → Act → World → Prop} (hK : ∀ s' ρ' a' w', Sym w0 S0 N n0 ρ0 ρ' s' a' w' → K s' → K' a' w') : o.wp P a w K' Q := by
  unfold vcOp at h
  rw [ho] at h
  simp only at h
  split at h
  · rename_i k0 n t1 zs ag fs sl k eqs hv h1 h2
    have he := ev_sound hs hv
    obtain ⟨d, hd, _⟩ := (hT _ _ h1).undParts
    have hu := (hT _ _ h2).ik k rfl
    refine wp_val (w' := w) ?_ (toDst_sound h hs hK)
    simp only [SV.toV] at he
    simp [execOp, ho, he, SV.toV, convert, run_underlying hd, run_underlying hu, Conv.intToInt]
  · exact h.elim

theorem makeFunc_sound {o : Oper} {f : FuncId} {first caps : Array Operand} {K : St → Prop} (ho : o.op = .makeFunc (.func f) first caps) {Γ : Specs} (h : vcOp T Γ N o s K) (hs : Sym w0 S0 N n0 ρ0 ρ s a w)
    {K' : Act → World → Prop} {Q : Exit → Act → World → Prop} (hK : ∀ s' ρ' a' w', Sym w0 S0 N n0 ρ0 ρ' s' a' w' → K s' → K' a' w') : o.wp P a w K' Q := by
  unfold vcOp at h
  rw [ho] at h
  simp only at h
  split at h
  · rename_i vs hf hv
    have he := evs_sound hs hv
    have hf' : first = #[] := by simpa using hf
    refine wp_val (w' := w) ?_ (toDst_sound h hs hK)
    subst hf'
    have hc : caps.map a.eval = (toVs ρ vs).toArray := by apply Array.toList_inj.1; rw [Array.toList_map, he]
    simp [execOp, ho, SV.toV, Instr.makeFunc, hc]
  · exact h.elim

/-! ### addresses -/
theorem field_of {t : TypeId} {ti : TI} (ht : TiOk P t ti) (hg : ti.agg = true) {f off n : Nat} {ag : Bool} (hf : ti.fs[f]? = some (off, n, ag)) :
    ∃ fields fd, P.underlying t = some (.struct fields) ∧ fields[f]? = some fd ∧ fd.offset = off ∧ ((P.underlying fd.type).bind fun _ => (P.info? fd.type).map (·.size)).getD 0 = n ∧ ((P.underlying fd.type).map aggD).getD false = ag := by
  obtain ⟨d, hd, ha, hfs⟩ := ht.undParts
  rw [← hfs] at hf
  cases d with
  | struct fields =>
    simp only [fieldsD, List.getElem?_map] at hf
    cases hfd : fields.toList[f]? with
    | none => rw [hfd] at hf; cases hf
    | some fd =>
      rw [hfd] at hf
      simp only [Option.map_some, Option.some.injEq, Prod.mk.injEq] at hf
      exact ⟨fields, fd, hd, by simpa using hfd, hf.1, hf.2.1, hf.2.2⟩
  | _ => simp [fieldsD] at hf

theorem size_of {t : TypeId} {n : Nat} (hn : ((P.underlying t).bind fun _ => (P.info? t).map (·.size)).getD 0 = n + 1) : ∃ i d, P.info? t = some i ∧ P.underlying t = some d ∧ i.size = n + 1 := by
  cases hu : P.underlying t with
  | none => rw [hu] at hn; simp at hn
  | some d =>
    rw [hu] at hn
    cases hi : P.info? t with
    | none => rw [hi] at hn; simp at hn
    | some i =>
      rw [hi] at hn
      exact ⟨i, d, rfl, rfl, by simpa using hn⟩

theorem fieldAddr_sound (hT : TsOk P T) {o : Oper} {ty : TypeId} {x : Operand} {f : Nat} {K : St → Prop} (ho : o.op = .fieldAddr ty x f) {Γ : Specs} (h : vcOp T Γ N o s K) (hs : Sym w0 S0 N n0 ρ0 ρ s a w)
    {K' : Act → World → Prop} {Q : Exit → Act → World → Prop} (hK : ∀ s' ρ' a' w', Sym w0 S0 N n0 ρ0 ρ' s' a' w' → K s' → K' a' w') : o.wp P a w K' Q := by
  unfold vcOp at h
  rw [ho] at h
  simp only at h
  split at h
  · rename_i key wd idx fld ti hv hti
    have he := ev_sound hs hv
    split at h
    · rename_i off n ag hg hf
      obtain ⟨fields, fd, hu, hfd, hoff, hn, _⟩ := field_of (hT _ _ hti) hg hf
      refine wp_val (w' := w) ?_ (toDst_sound h hs hK)
      simp only [SV.toV] at he
      obtain ⟨i, d, hi, hd, hn⟩ := size_of hn
      simp [execOp, ho, he, SV.toV, Instr.fieldAt, run_underlying hu, hfd, Instr.sureAddr, fieldPlace, hoff, sizeOf, typeInfo, hi, hn, Addr.add_lit, Nat.add_assoc]
    · exact h.elim
  · exact h.elim

theorem run_part {t : TypeId} {cs : Array Value} {off n : Nat} {ag : Bool} (hn : ((P.underlying t).bind fun _ => (P.info? t).map (·.size)).getD 0 = n + 1) (ha : ((P.underlying t).map aggD).getD false = ag) (w : World) :
    (part t cs off).run P w = if ag then .ok (.agg (cs.extract off (off + (n + 1)))) w else match cs[off]? with | some v => .ok v w | none => .halt (.stuck "part: no such cell") w := by
  obtain ⟨i, d, hi, hu, hn⟩ := size_of hn
  rw [hu] at ha
  simp only [Option.map_some, Option.getD_some] at ha
  subst ha
  cases hd : aggD d with
  | true => simp [part, run_isAgg hu, hd, sizeOf, typeInfo, hi, hn]
  | false =>
    simp only [part, Sem.run_bind, run_isAgg hu, hd, Result.andThen]
    cases hc : cs[off]? <;> simp [hc, stuck]

theorem field_sound (hT : TsOk P T) {o : Oper} {ty : TypeId} {x : Operand} {f : Nat} {K : St → Prop} (ho : o.op = .field ty x f) {Γ : Specs} (h : vcOp T Γ N o s K) (hs : Sym w0 S0 N n0 ρ0 ρ s a w)
    {K' : Act → World → Prop} {Q : Exit → Act → World → Prop} (hK : ∀ s' ρ' a' w', Sym w0 S0 N n0 ρ0 ρ' s' a' w' → K s' → K' a' w') : o.wp P a w K' Q := by
  unfold vcOp at h
  rw [ho] at h
  simp only at h
  split at h
  · rename_i l ti hv hti
    have he := ev_sound hs hv
    simp only [SV.toV] at he
    split at h
    · rename_i off n hg hf
      obtain ⟨fields, fd, hu, hfd, hoff, hn, ha⟩ := field_of (hT _ _ hti) hg hf
      cases hb : Nat.ble (off + (n + 1)) l.length with
      | false => rw [hb] at h; exact h.elim
      | true =>
        rw [hb] at h
        refine wp_val (w' := w) ?_ (toDst_sound h hs hK)
        simp [execOp, ho, he, SV.toV, Instr.field, run_underlying hu, hfd, asAgg, run_part hn ha, hoff, toVs_eq, List.map_take, List.map_drop, List.extract_eq_take_drop]
    · rename_i off n hg hf
      obtain ⟨fields, fd, hu, hfd, hoff, hn, ha⟩ := field_of (hT _ _ hti) hg hf
      split at h
      · rename_i v hv
        refine wp_val (w' := w) ?_ (toDst_sound h hs hK)
        simp [execOp, ho, he, Instr.field, run_underlying hu, hfd, asAgg, run_part hn ha, hoff, toVs_eq, hv]
      · exact h.elim
    · exact h.elim
  · exact h.elim

theorem indexAddr_sound (hT : TsOk P T) {o : Oper} {ty : TypeId} {x i : Operand} {K : St → Prop} (ho : o.op = .indexAddr ty x i) {Γ : Specs} (h : vcOp T Γ N o s K) (hs : Sym w0 S0 N n0 ρ0 ρ s a w)
    {K' : Act → World → Prop} {Q : Exit → Act → World → Prop} (hK : ∀ s' ρ' a' w', Sym w0 S0 N n0 ρ0 ρ' s' a' w' → K s' → K' a' w') : o.wp P a w K' Q := by
  unfold vcOp at h
  rw [ho] at h
  simp only at h
  split at h
  · rename_i key k n zs ag fs e rk by_ ik eqs hx hi hti
    have hx := ev_sound hs hx
    have hi := ev_sound hs hi
    split at h
    · rename_i own t r hl
      cases hb : Nat.beq rk.width r.width with
      | false => rw [hb] at h; exact h.elim
      | true =>
        rw [hb] at h
        simp only [cond_true] at h
        obtain ⟨⟨h0, h1⟩, h⟩ := h
        obtain ⟨hu, hinfo, _⟩ := (hT _ _ hti).sl e rk by_ rfl
        cases hie : P.info? e with
        | none => rw [hie] at hinfo; cases hinfo
        | some ie =>
          rw [hie] at hinfo
          simp only [Option.map_some, Option.some.injEq, Prod.mk.injEq] at hinfo
          obtain ⟨A, c, hv, hlc, hA⟩ := EntOk.reads (hs.hp.ent key _ hl)
          obtain ⟨b, off, rfl, _⟩ := hA (by omega)
          refine wp_val (w' := w) ?_ (toDst_sound h hs hK)
          simp only [SV.toV] at hx hi
          rw [hv] at hx
          simp [execOp, ho, hx, hi, SV.toV, Instr.indexAt, asIntOf, run_underlying hu, h0, h1, sizeOf, typeInfo, hie, hinfo.2.1, hv, addrOf, Addr.add_lit]
    · rename_i t cs hl
      cases hb : Nat.beq rk.width 1 with
      | false => rw [hb] at h; exact h.elim
      | true =>
        rw [hb] at h
        simp only [cond_true] at h
        have hb := beq_eq hb
        obtain ⟨⟨h0, h1⟩, h⟩ := h
        obtain ⟨hu, hinfo, _⟩ := (hT _ _ hti).sl e rk by_ rfl
        cases hie : P.info? e with
        | none => rw [hie] at hinfo; cases hinfo
        | some ie =>
          rw [hie] at hinfo
          simp only [Option.map_some, Option.some.injEq, Prod.mk.injEq] at hinfo
          obtain ⟨g, hg, hhas⟩ := hs.hp.ent key _ hl
          refine wp_val (w' := w) ?_ (toDst_sound h hs hK)
          simp only [SV.toV] at hx hi
          rw [hg] at hx
          simp [execOp, ho, hx, hi, SV.toV, Instr.indexAt, asIntOf, run_underlying hu, h0, h1, sizeOf, typeInfo, hie, hinfo.2.1, hg, addrOf, Addr.add_lit, hb]
    · exact h.elim
  · exact h.elim

theorem extract_sound {o : Oper} {x : Operand} {i : Nat} {K : St → Prop} (ho : o.op = .extract x i) {Γ : Specs} (h : vcOp T Γ N o s K) (hs : Sym w0 S0 N n0 ρ0 ρ s a w)
    {K' : Act → World → Prop} {Q : Exit → Act → World → Prop} (hK : ∀ s' ρ' a' w', Sym w0 S0 N n0 ρ0 ρ' s' a' w' → K s' → K' a' w') : o.wp P a w K' Q := by
  unfold vcOp at h
  rw [ho] at h
  simp only at h
  split at h
  · rename_i l hv
    have he := ev_sound hs hv
    simp only [SV.toV] at he
    split at h
    · rename_i v hv
      refine wp_val (w' := w) ?_ (toDst_sound h hs hK)
      simp [execOp, ho, he, Instr.extract, toVs_eq, hv]
    · exact h.elim
  · exact h.elim
end
end Go.Vc
