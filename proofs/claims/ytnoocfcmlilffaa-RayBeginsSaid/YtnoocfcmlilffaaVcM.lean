/-
  THE SYMBOLIC EXECUTOR IS SOUND: maps. No program in sight.
-/
import Derived.Test.YtnoocfcmlilffaaVcS
set_option linter.all false
set_option linter.unusedSimpArgs false
set_option linter.unusedVariables false
namespace Go.Vc
open Go Go.RowKit Go.Ql Go.Draw

section
variable {P : Program} {T : Tys} {w0 : World} {S0 : Nat → Prop} {N n0 : Nat} {ρ0 : Nat → Value} {ρ : Nat → Value} {s : St} {a : Act} {w : World}

theorem kksEq_eq : ∀ {a b : List IntKind}, kksEq a b = true → a = b
  | [], [], _ => rfl
  | x :: l, y :: m, h => by
    simp only [kksEq, Bool.and_eq_true] at h
    rw [kEq_eq h.1, kksEq_eq h.2]
  | [], _ :: _, h => by cases h
  | _ :: _, [], h => by cases h
theorem mkEq_eq {a b : MK} (h : a.eq b = true) : a = b := by
  cases a <;> cases b <;> simp only [MK.eq] at h <;> first | rfl | (cases h; done) | (rw [kEq_eq h])
theorem keyS_sound {kk : List IntKind} {v : SV} {k : List Int} (h : keyS kk v = some k) : v.toV ρ = keyV kk k ∧ k.length = kk.length := by
  unfold keyS at h
  split at h
  · rename_i k0 k' n
    cases hk : kEq k0 k' with
    | false => rw [hk] at h; cases h
    | true => rw [hk] at h; have := kEq_eq hk; subst this; cases h; simp [SV.toV, keyV]
  · rename_i k0 k1 ks l
    obtain ⟨h1, h2⟩ := intsOf_sound (ρ := ρ) h
    exact ⟨by simp only [SV.toV, h1, keyV], h2⟩
  · cases h
theorem valS_sound {vk : MK} {v : SV} {n : Int} (h : valS vk v = some n) : v.toV ρ = vk.enc n := by
  unfold valS at h
  split at h
  · split at h
    · rename_i b hb
      cases h
      rw [boolOf_toV hb]
      cases b <;> simp [MK.enc]
    · cases h
  · rename_i k k' m
    cases hk : kEq k k' with
    | false => rw [hk] at h; cases h
    | true => rw [hk] at h; have := kEq_eq hk; subst this; cases h; simp [SV.toV, MK.enc]
  · cases h
theorem sv_toV (vk : MK) (n : Int) : (vk.sv n).toV ρ = vk.enc n := by cases vk <;> simp [MK.sv, MK.enc, SV.toV]

/-- where a key lies -/
def mpos (k : List Int) : List (List Int × Int) → Nat → Option (Nat × Int)
  | [], _ => none
  | (j, v) :: l, i => if k = j then some (i, v) else mpos k l (i + 1)
theorem mpos_get (k : List Int) : ∀ (m : List (List Int × Int)) (i : Nat), (mpos k m i).map (·.2) = mget m k
  | [], _ => rfl
  | (j, v) :: l, i => by
    simp only [mpos, mget]
    split
    · rfl
    · exact mpos_get k l (i + 1)
theorem mpos_put (k : List Int) (n : Int) : ∀ (m : List (List Int × Int)) (i : Nat), (∀ p v, mpos k m i = some (p, v) → i ≤ p ∧ m[p - i]? = some (k, v) ∧ mput m k n = m.set (p - i) (k, n)) ∧ (mpos k m i = none → mput m k n = m ++ [(k, n)])
  | [], i => ⟨fun p v h => by simp [mpos] at h, fun _ => by simp [mput]⟩
  | (j, u) :: l, i => by
    have ih := mpos_put k n l (i + 1)
    simp only [mpos, mput]
    by_cases e : k = j
    · subst e
      simp
    · simp only [e, if_false]
      refine ⟨fun p v h => ?_, fun h => by rw [ih.2 h]; rfl⟩
      obtain ⟨h1, h2, h3⟩ := ih.1 p v h
      have e2 : p - i = (p - (i + 1)) + 1 := by omega
      exact ⟨by omega, by rw [e2, List.getElem?_cons_succ]; exact h2, by rw [e2, List.set_cons_succ, h3]⟩

theorem findNow_int (k : IntKind) (vk : MK) (x : Int) : ∀ (es : List MapEntry) (m : List (List Int × Int)) (i : Nat), es.map (fun e => (e.key, e.val)) = entsOf [k] vk m → (∀ p ∈ m, p.1.length = 1) →
    Instr.findNow (.int k) (.int k x) es i = some ((mpos [x] m i).map fun q => (q.1, vk.enc q.2))
  | [], m, i, h, _ => by
    cases m with
    | nil => rfl
    | cons p m => simp [entsOf] at h
  | e :: es, m, i, h, hl => by
    cases m with
    | nil => simp [entsOf] at h
    | cons p m =>
      obtain ⟨ks, v⟩ := p
      simp only [entsOf, List.map_cons, List.cons.injEq, Prod.mk.injEq] at h
      have hks := hl (ks, v) (by simp)
      match ks, hks with
      | [y], _ =>
        simp only [keyV, List.headD_cons] at h
        unfold Instr.findNow
        rw [h.1.1]
        simp only [Instr.sameNow, if_true]
        by_cases e : x = y
        · subst e; simp [mpos, h.1.2]
        · have e' : (x == y) = false := by simp [e]
          rw [e']
          simp only [mpos, List.cons.injEq, e, and_true, if_false]
          exact findNow_int k vk x es m (i + 1) h.2 (fun p hp => hl p (by simp [hp]))
theorem findAsking_run {key : TypeId} {kk : List IntKind} {vk : MK} {k : List Int} (hk2 : ∀ q, kk ≠ [q]) (hk : k.length = kk.length)
    (heq : ∀ (a b : List Int) (w : World), a.length = kk.length → b.length = kk.length → (Op.equal key (.agg (mkInts kk a)) (.agg (mkInts kk b))).run P w = .ok (decide (a = b)) w) :
    ∀ (es : List MapEntry) (m : List (List Int × Int)) (i : Nat), es.map (fun e => (e.key, e.val)) = entsOf kk vk m → (∀ p ∈ m, p.1.length = kk.length) →
    (Instr.findAsking key (keyV kk k) es i).run P w = .ok ((mpos k m i).map fun q => (q.1, vk.enc q.2)) w
  | [], m, i, h, _ => by
    cases m with
    | nil => simp [Instr.findAsking, mpos]
    | cons p m => simp [entsOf] at h
  | e :: es, m, i, h, hl => by
    cases m with
    | nil => simp [entsOf] at h
    | cons p m =>
      obtain ⟨ks, v⟩ := p
      simp only [entsOf, List.map_cons, List.cons.injEq, Prod.mk.injEq] at h
      have hks := hl (ks, v) (by simp)
      have hkv : ∀ c, keyV kk c = .agg (mkInts kk c) := fun c => by
        unfold keyV
        split
        · rename_i q; exact absurd rfl (hk2 q)
        · rfl
      have ih := findAsking_run hk2 hk heq es m (i + 1) h.2 (fun p hp => hl p (by simp [hp]))
      unfold Instr.findAsking
      rw [h.1.1]
      simp only [hkv, Sem.run_bind, heq k ks w hk hks, Result.andThen_ok]
      by_cases e : k = ks
      · subst e; simp [mpos, h.1.2]
      · simp only [e, decide_false, Bool.false_eq_true, if_false, mpos]
        rw [hkv] at ih
        exact ih
theorem run_findKey {t : TypeId} {key : TypeId} {kk : List IntKind} {vk : MK} {k : List Int} {es : List MapEntry} {m : List (List Int × Int)}
    (hkey : (∃ q, kk = [q] ∧ P.underlying key = some (.int q)) ∨ ((∀ q, kk ≠ [q]) ∧ (∃ fs, P.underlying key = some (.struct fs)) ∧ (∀ (a : List Int) (b : Bool) (w : World), a.length = kk.length → (Instr.checkKey b 10000 key (.agg (mkInts kk a))).run P w = .ok () w) ∧
      ∀ (a b : List Int) (w : World), a.length = kk.length → b.length = kk.length → (Op.equal key (.agg (mkInts kk a)) (.agg (mkInts kk b))).run P w = .ok (decide (a = b)) w))
    (hk : k.length = kk.length) (h : es.map (fun e => (e.key, e.val)) = entsOf kk vk m) (hl : ∀ p ∈ m, p.1.length = kk.length) :
    (Instr.findKey key (keyV kk k) es).run P w = .ok ((mpos k m 0).map fun q => (q.1, vk.enc q.2)) w ∧ ∀ b, (Instr.checkKey b 10000 key (keyV kk k)).run P w = .ok () w := by
  rcases hkey with ⟨q, rfl, hu⟩ | ⟨hk2, ⟨fs, hu⟩, hck, heq⟩
  · match k, hk with
    | [x], _ =>
      simp only [keyV, List.headD_cons]
      refine ⟨?_, fun b => ?_⟩
      · simp [Instr.findKey, run_underlying hu, findNow_int q vk x es m 0 h hl]
      · show (Instr.checkKey b (9999 + 1) key (.int q x)).run P w = _
        rw [Instr.checkKey]
        simp [run_underlying hu]
  · have hkv : keyV kk k = .agg (mkInts kk k) := by
      unfold keyV
      split
      · rename_i q; exact absurd rfl (hk2 q)
      · rfl
    refine ⟨?_, fun b => by rw [hkv]; exact hck k b w hk⟩
    have hask := findAsking_run (P := P) (w := w) (vk := vk) hk2 hk heq es m 0 h hl
    cases es with
    | nil =>
      cases m with
      | nil => simp [Instr.findKey, run_underlying hu, Instr.findNow, mpos]
      | cons p m => simp [entsOf] at h
    | cons e es =>
      have hnow : Instr.findNow (.struct fs) (keyV kk k) (e :: es) 0 = none := by
        unfold Instr.findNow
        rw [hkv]
        simp [Instr.sameNow]
      simp only [Instr.findKey, Sem.run_bind, run_underlying hu, Result.andThen_ok, hnow]
      exact hask

theorem mapTy (hT : TsOk P T) {t : TypeId} {kk : List IntKind} {vk : MK} {fs : List (Nat × Nat × Bool)} {sl : Option (TypeId × RK × Nat)} {ik : Option IntKind} {eqs : List IntKind} (h : lk t T = some ⟨[.map kk vk], false, fs, sl, ik, eqs⟩) : MapOk P t kk vk := (hT _ _ h).mp kk vk [] rfl rfl

theorem makeMap_sound (hT : TsOk P T) {o : Oper} {ty : TypeId} {K : St → Prop} (ho : o.op = .makeMap ty none) {Γ : Specs} (h : vcOp T Γ N o s K) (hs : Sym w0 S0 N n0 ρ0 ρ s a w)
    {K' : Act → World → Prop} {Q : Exit → Act → World → Prop} (hK : ∀ s' ρ' a' w', Sym w0 S0 N n0 ρ0 ρ' s' a' w' → K s' → K' a' w') : o.wp P a w K' Q := by
  unfold vcOp at h
  rw [ho] at h
  simp only at h
  split at h
  · rename_i kk vk fs sl ik eqs hti
    cases hb : s.kb with
    | false => rw [hb] at h; exact h.elim
    | true =>
      rw [hb] at h
      simp only [cond_true] at h
      have hl : ∀ k d, lk k [(s.nk, Ent.map kk vk [])] = some d → k = s.nk ∧ d = .map kk vk [] := by
        intro k d hd
        rw [lk_cons] at hd
        split at hd
        · rename_i e1; cases hd; exact ⟨e1, rfl⟩
        · simp [lk] at hd
      have hρ : ∀ k, k < s.nk → (fun j => if j = s.nk then Value.map (some w.heap.size) else ρ j) k = ρ k := fun k hk => by simp; omega
      have hs' : Sym w0 S0 N n0 ρ0 (fun j => if j = s.nk then Value.map (some w.heap.size) else ρ j) { tm := s.tm, hp := (s.nk, .map kk vk []) :: s.hp, nk := s.nk + 1 } a (w.alloc (.map #[] 0)) := by
        refine hs.more hb (Nat.le_succ _) (World.grownBy_alloc w _ none) (hn := [(s.nk, Ent.map kk vk [])]) hρ (fun k => ?_) (fun k d hd => ?_) (fun k d hd => ?_) (fun k d hd g hg => ?_) (fun k d k' d' hd hd' hne g hg => ?_)
        · split
          · rfl
          · exact hs.hp.one k
        · obtain ⟨rfl, rfl⟩ := hl k d hd; exact Nat.le_refl _
        · obtain ⟨rfl, rfl⟩ := hl k d hd
          simp only [if_true]
          exact ⟨w.heap.size, #[], 0, rfl, World.alloc_heap_new w _, rfl, fun _ h => by cases h⟩
        · obtain ⟨rfl, rfl⟩ := hl k d hd
          simp only [if_true, Ent.touch, Value.map.injEq, Option.some.injEq] at hg
          omega
        · obtain ⟨rfl, rfl⟩ := hl k d hd
          obtain ⟨rfl, _⟩ := hl k' d' hd'
          exact absurd rfl hne
      refine wp_val (w' := w.alloc (.map #[] 0)) ?_ (toDst_sound h hs' hK)
      simp [execOp, ho, Instr.makeMap, SV.toV]
  · exact h.elim

theorem lookup_sound (hT : TsOk P T) {o : Oper} {ty : TypeId} {x i : Operand} {commaOk : Bool} {K : St → Prop} (ho : o.op = .lookup ty x i commaOk) {Γ : Specs} (h : vcOp T Γ N o s K) (hs : Sym w0 S0 N n0 ρ0 ρ s a w)
    {K' : Act → World → Prop} {Q : Exit → Act → World → Prop} (hK : ∀ s' ρ' a' w', Sym w0 S0 N n0 ρ0 ρ' s' a' w' → K s' → K' a' w') : o.wp P a w K' Q := by
  unfold vcOp at h
  rw [ho] at h
  simp only at h
  split at h
  · rename_i v u hv hu
    have hx := ev_sound hs hv
    have hi := ev_sound hs hu
    unfold lookS at h
    split at h
    · rename_i kk vk fs sl ik eqs key hti
      split at h
      · rename_i kk' vk' m k hl hk
        cases hb : (kksEq kk kk' && vk.eq vk') with
        | false => rw [hb] at h; exact h.elim
        | true =>
          rw [hb] at h
          simp only [cond_true] at h
          simp only [Bool.and_eq_true] at hb
          have e1 := kksEq_eq hb.1
          have e2 := mkEq_eq hb.2
          subst e1; subst e2
          obtain ⟨kt, et, hm, hz, hkey⟩ := (mapTy hT hti).ty
          obtain ⟨g, es, clock, hg, hheap, hes, hlen⟩ := hs.hp.ent key _ hl
          obtain ⟨hkv, hkl⟩ := keyS_sound (ρ := ρ) hk
          obtain ⟨hfind, hcheck⟩ := run_findKey (P := P) (w := w) (t := ty) hkey hkl hes hlen
          have hgo : (getObj g).run P w = .ok (.map es clock) w := by simp [getObj, Sem.run, hheap]
          have hzero : (zeroValue et).run P w = .ok (vk.enc 0) w := by
            cases hie : P.info? et with
            | none => rw [hie] at hz; cases hz
            | some ie => rw [hie] at hz; simp at hz; simp [zeroValue, typeInfo, hie, hz]
          have hget := mpos_get k m 0
          have hrun : (Instr.lookup ty (.map (some g)) (keyV kk k) commaOk).run P w = .ok (if commaOk then .tuple #[vk.enc ((mget m k).getD 0), .bool (mget m k).isSome] else vk.enc ((mget m k).getD 0)) w := by
            rw [← hget]
            simp only [Instr.lookup, Sem.run_bind, run_underlying hm, Result.andThen_ok, hgo, Sem.run_pure, hcheck, hfind]
            cases mpos k m 0 with
            | none => simp [hzero]
            | some q => simp
          simp only [SV.toV] at hx
          rw [hg] at hx
          rw [hkv] at hi
          cases commaOk with
          | true =>
            refine wp_val (w' := w) ?_ (toDst_sound h hs hK)
            simp only [execOp, ho, hx, hi, Sem.run_bind, hrun, Result.andThen_ok, if_true, SV.toV, toVs, sv_toV]
            rfl
          | false =>
            refine wp_val (w' := w) ?_ (toDst_sound h hs hK)
            simp only [execOp, ho, hx, hi, Sem.run_bind, hrun, Result.andThen_ok, Bool.false_eq_true, if_false, sv_toV]
            rfl
      · exact h.elim
    · exact h.elim
  · exact h.elim

theorem sameBits_ints (n : Nat) : ∀ (kk : List IntKind) (c : List Int), ((List.zipWith (fun k n => Value.int k n) kk c).zip (List.zipWith (fun k n => Value.int k n) kk c)).all (fun x => Instr.sameBits n x.1 x.2) = true
  | [], _ => by simp
  | _ :: _, [] => by simp
  | k :: kk, x :: c => by
    simp only [List.zipWith_cons_cons, List.zip_cons_cons, List.all_cons, sameBits_ints n kk c, Bool.and_true]
    cases n <;> simp [Instr.sameBits]
theorem stays_key (kk : List IntKind) (k : List Int) : (Instr.keyThatStays (keyV kk k) (keyV kk k)).run P w = .ok (keyV kk k) w := by
  have : Instr.sameBits 10000 (keyV kk k) (keyV kk k) = true := by
    unfold keyV
    split
    · simp [Instr.sameBits]
    · show Instr.sameBits (9999 + 1) _ _ = true
      have h := sameBits_ints 9999 kk k
      simp only [Instr.sameBits, mkInts, beq_self_eq_true, Bool.true_and]
      simpa using h
  simp [Instr.keyThatStays, this]
theorem mapUpdate_sound (hT : TsOk P T) {o : Oper} {ty : TypeId} {x i y : Operand} {K : St → Prop} (ho : o.op = .mapUpdate ty x i y) {Γ : Specs} (h : vcOp T Γ N o s K) (hs : Sym w0 S0 N n0 ρ0 ρ s a w)
    {K' : Act → World → Prop} {Q : Exit → Act → World → Prop} (hK : ∀ s' ρ' a' w', Sym w0 S0 N n0 ρ0 ρ' s' a' w' → K s' → K' a' w') : o.wp P a w K' Q := by
  unfold vcOp at h
  rw [ho] at h
  simp only at h
  split at h
  · rename_i v u z hv hu hz hdst
    have hx := ev_sound hs hv
    have hi := ev_sound hs hu
    have hy := ev_sound hs hz
    unfold updS at h
    split at h
    · rename_i kk vk fs sl ik eqs key hti
      split at h
      · rename_i kk' vk' m k n hl hk hn
        cases hb : (kksEq kk kk' && vk.eq vk') with
        | false => rw [hb] at h; exact h.elim
        | true =>
          rw [hb] at h
          simp only [cond_true] at h
          simp only [Bool.and_eq_true] at hb
          have e1 := kksEq_eq hb.1
          have e2 := mkEq_eq hb.2
          subst e1; subst e2
          obtain ⟨kt, et, hm, hz0, hkey⟩ := (mapTy hT hti).ty
          obtain ⟨g, es, clock, hg, hheap, hes, hlen⟩ := hs.hp.ent key _ hl
          obtain ⟨hkv, hkl⟩ := keyS_sound (ρ := ρ) hk
          have hvv := valS_sound (ρ := ρ) hn
          obtain ⟨hfind, hcheck⟩ := run_findKey (P := P) (w := w) (t := ty) hkey hkl hes hlen
          have hgo : (getObj g).run P w = .ok (.map es clock) w := by simp [getObj, Sem.run, hheap]
          have hso : ∀ ob, (setObj g ob).run P w = .ok () (w.putObj g ob) := fun ob => by simp [setObj, Sem.run, hheap, World.putObj]
          have hp := mpos_put k n m 0
          have hlen' : ∀ p ∈ mput m k n, p.1.length = kk.length := by
            intro p hp'
            cases hq : mpos k m 0 with
            | none =>
              rw [hp.2 hq] at hp'
              rcases List.mem_append.1 hp' with h1 | h1
              · exact hlen p h1
              · simp at h1; subst h1; exact hkl
            | some q =>
              rw [(hp.1 q.1 q.2 hq).2.2] at hp'
              rcases List.mem_or_eq_of_mem_set hp' with h1 | h1
              · exact hlen p h1
              · subst h1; exact hkl
          simp only [SV.toV] at hx
          rw [hg] at hx
          rw [hkv] at hi
          rw [hvv] at hy
          have fin : ∀ ob es' clock', ob = .map es' clock' → es'.toList.map (fun e => (e.key, e.val)) = entsOf kk vk (mput m k n) → (Instr.mapUpdate ty (.map (some g)) (keyV kk k) (vk.enc n)).run P w = .ok () (w.putObj g ob) → o.wp P a w K' Q := by
            intro ob es' clock' hob hes' hrun
            have hex : (execOp a.eval o).run P w = .ok .skip (w.putObj g ob) := by
              simp only [execOp, ho, hx, hi, hy, Sem.run_bind, hrun, Result.andThen_ok]
              rfl
            unfold Oper.wp
            rw [hex]
            simp only [Oper.upon, hdst, Act.put]
            refine hK _ ρ a _ (hs.turn (e' := .map kk vk (mput m k n)) hl rfl rfl (⟨rfl, rfl, rfl, by simp, fun k _ hne => World.putObj_heap_other (fun e => hne (by rw [e]))⟩ : w.grownBy (w.putObj g ob) (some g)) (fun _ => Iff.rfl) hg ?_) h
            exact ⟨g, es', clock', hg, by rw [← hob]; exact World.putObj_heap_same (Array.getElem?_eq_some_iff.1 hheap).1, hes', hlen'⟩
          cases hq : mpos k m 0 with
          | none =>
            refine fin _ (es.push { key := keyV kk k, val := vk.enc n, born := clock }) (clock + 1) rfl ?_ ?_
            · rw [hp.2 hq]
              simp only [Array.toList_push, List.map_append, hes, entsOf, List.map_cons, List.map_nil]
            · rw [hq] at hfind
              simp only [Option.map_none] at hfind
              simp only [Instr.mapUpdate, Sem.run_bind, run_underlying hm, Result.andThen_ok, hgo, hcheck, hfind, hso]
          | some q =>
            obtain ⟨q1, q2, q3⟩ := hp.1 q.1 q.2 hq
            simp only [Nat.sub_zero] at q2 q3
            have hei : ∃ e, es[q.1]? = some e ∧ e.key = keyV kk k := by
              have h1 : (es.toList.map (fun e => (e.key, e.val)))[q.1]? = some (keyV kk k, vk.enc q.2) := by
                rw [hes]; simp [entsOf, q2]
              rw [List.getElem?_map] at h1
              cases h2 : es.toList[q.1]? with
              | none => rw [h2] at h1; cases h1
              | some e => rw [h2] at h1; simp at h1; exact ⟨e, by simpa using h2, h1.1⟩
            obtain ⟨e, he, hek⟩ := hei
            refine fin _ (es.modify q.1 fun e => { e with key := keyV kk k, val := vk.enc n }) clock rfl ?_ ?_
            · rw [q3]
              have hmod : (es.modify q.1 fun e => { e with key := keyV kk k, val := vk.enc n }).toList = es.toList.modify q.1 (fun e => { e with key := keyV kk k, val := vk.enc n }) := by simp
              rw [hmod]
              have : (es.toList.modify q.1 (fun e => { e with key := keyV kk k, val := vk.enc n })).map (fun e => (e.key, e.val)) = (es.toList.map (fun e => (e.key, e.val))).set q.1 (keyV kk k, vk.enc n) := by
                apply List.ext_getElem?
                intro j
                rw [List.getElem?_map, List.getElem?_modify, List.getElem?_set, List.getElem?_map]
                by_cases ej : q.1 = j
                · subst ej
                  have hlt : q.1 < es.toList.length := by have := (Array.getElem?_eq_some_iff.1 he).1; simpa using this
                  have hlt2 : q.1 < es.size := by simpa using hlt
                  simp [he, hlt2]
                · simp [ej]
              rw [this, hes]
              simp [entsOf, List.map_set]
            · rw [hq] at hfind
              simp only [Option.map_some] at hfind
              have hst : (Instr.keyThatStays (((es[q.1]?).map (·.key)).getD (keyV kk k)) (keyV kk k)).run P w = .ok (keyV kk k) w := by
                rw [he]; simp only [Option.map_some, Option.getD_some, hek]; exact stays_key kk k
              simp only [Instr.mapUpdate, Sem.run_bind, run_underlying hm, Result.andThen_ok, hgo, hcheck, hfind, hst, hso]
      · exact h.elim
    · exact h.elim
  · exact h.elim
end
end Go.Vc
