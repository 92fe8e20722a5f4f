/- Part of the proof, Vc11. -/
import Derived.Test.YtggblkbecekbdaaZVc9
section
set_option linter.all false
set_option linter.unusedSimpArgs false
set_option linter.unusedVariables false
namespace Go.Vc
open Go Go.RowKit Go.Ql Go.Draw
mutual
def canV (hp : Heap) (ro : Bool) : Nat → SV → Nat → Option (SV × Nat × KM × Heap)
  | 0, _, _ => none
  | f + 1, v, n => match v with
    | .row key => match lk key hp with
      | some (.row o t r) => some (.row n, n + 1, [(n, key)], [(n, .row (o && !ro) t r)])
      | some (.deep o t it d vs none) => some (.row n, n + 1, [(n, key)], [(n, .deep (o && !ro) t it d vs none)])
      | some (.deep false t it d vs h) => some (.row n, n + 1, [(n, key)], [(n, .deep false t it d vs h)])
      | _ => none
    | .ptr key w i fld => match lk key hp with
      | some (.row o t r) => some (.ptr n w i fld, n + 1, [(n, key)], [(n, .row (o && !ro) t r)])
      | some (.box o t cells) => match canVs hp ro f cells (n + 1) with
        | some (cells', n', σ, h) => some (.ptr n w i fld, n', (n, key) :: σ, (n, .box (o && !ro) t cells') :: h)
        | none => none
      | _ => none
    | .agg l => match canVs hp ro f l n with
      | some (l', n', σ, h) => some (.agg l', n', σ, h)
      | none => none
    | .tup l => match canVs hp ro f l n with
      | some (l', n', σ, h) => some (.tup l', n', σ, h)
      | none => none
    | .fn g l => match canVs hp ro f l n with
      | some (l', n', σ, h) => some (.fn g l', n', σ, h)
      | none => none
    | .mth g l => match canVs hp ro f l n with
      | some (l', n', σ, h) => some (.mth g l', n', σ, h)
      | none => none
    | .tt => some (.bool true, n, [], [])
    | .ff => some (.bool false, n, [], [])
    | v => some (v, n, [], [])
def canVs (hp : Heap) (ro : Bool) : Nat → List SV → Nat → Option (List SV × Nat × KM × Heap)
  | 0, _, _ => none
  | f + 1, l, n => match l with
    | [] => some ([], n, [], [])
    | v :: l => match canV hp ro f v n with
      | some (v', n', σ, h) => match canVs hp ro f l n' with
        | some (l', n'', σ', h') => some (v' :: l', n'', σ ++ σ', h ++ h')
        | none => none
      | none => none
end
structure CanOk (ρ : Nat → Value) (ro : Bool) (hp : Heap) (n n' : Nat) (σ : KM) (h : Heap) : Prop where
  le : n ≤ n'
  keys : ∀ j k, (j, k) ∈ σ → n ≤ j ∧ j < n'
  nodup : (σ.map (·.1)).Nodup
  hkeys : (h.map (·.1)).Nodup
  full : ∀ j, n ≤ j → j < n' → ∃ e, (j, e) ∈ h
  pure : ro = true → ∀ j e, (j, e) ∈ h → e.own = false
  ent : ∀ j e, (j, e) ∈ h → ∃ k d, (j, k) ∈ σ ∧ lk k hp = some d ∧ (e.own = true → d.own = true) ∧ (∀ v g, e.touch v g → d.touch v g) ∧
    ∀ ρc : Nat → Value, (∀ i k, (i, k) ∈ σ → ρc i = ρ k) → ∀ w v, EntOk ρ w v d → EntOk ρc w v e
section
variable {ρ : Nat → Value} {hp : Heap} {ro : Bool}
theorem CanOk.nil (n : Nat) : CanOk ρ ro hp n n [] [] := ⟨Nat.le_refl _, fun _ _ h => by simp at h, by simp, by simp, fun _ _ _ => by omega, fun _ _ _ h => by simp at h, fun _ _ h => by simp at h⟩
theorem CanOk.append {n n' n'' : Nat} {σ σ' : KM} {h h' : Heap} (a : CanOk ρ ro hp n n' σ h) (b : CanOk ρ ro hp n' n'' σ' h') : CanOk ρ ro hp n n'' (σ ++ σ') (h ++ h') := by
  have a1 := a.le
  have b1 := b.le
  have hh : ∀ j e, (j, e) ∈ h → n ≤ j ∧ j < n' := fun j e hj => by
    obtain ⟨k, d, hk, _⟩ := a.ent j e hj; exact a.keys j k hk
  have hh' : ∀ j e, (j, e) ∈ h' → n' ≤ j ∧ j < n'' := fun j e hj => by
    obtain ⟨k, d, hk, _⟩ := b.ent j e hj; exact b.keys j k hk
  refine ⟨by omega, fun j k hj => ?_, ?_, ?_, fun j hj hj' => ?_, fun hr j e hj => (List.mem_append.1 hj).elim (a.pure hr j e) (b.pure hr j e), fun j e hj => ?_⟩
  · rcases List.mem_append.1 hj with hj | hj
    · have := a.keys j k hj; omega
    · have := b.keys j k hj; omega
  · rw [List.map_append, List.nodup_append]
    refine ⟨a.nodup, b.nodup, fun x hx y hy => ?_⟩
    obtain ⟨⟨x1, x2⟩, hx1, rfl⟩ := List.mem_map.1 hx
    obtain ⟨⟨y1, y2⟩, hy1, rfl⟩ := List.mem_map.1 hy
    have := a.keys _ _ hx1
    have := b.keys _ _ hy1
    dsimp only; omega
  · rw [List.map_append, List.nodup_append]
    refine ⟨a.hkeys, b.hkeys, fun x hx y hy => ?_⟩
    obtain ⟨⟨x1, x2⟩, hx1, rfl⟩ := List.mem_map.1 hx
    obtain ⟨⟨y1, y2⟩, hy1, rfl⟩ := List.mem_map.1 hy
    have := hh _ _ hx1
    have := hh' _ _ hy1
    dsimp only; omega
  · rcases Nat.lt_or_ge j n' with h1 | h1
    · obtain ⟨e, he⟩ := a.full j hj h1; exact ⟨e, List.mem_append_left _ he⟩
    · obtain ⟨e, he⟩ := b.full j h1 hj'; exact ⟨e, List.mem_append_right _ he⟩
  · rcases List.mem_append.1 hj with hj | hj
    · obtain ⟨k, d, h1, h2, h3, h4, h5⟩ := a.ent j e hj
      exact ⟨k, d, List.mem_append_left _ h1, h2, h3, h4, fun ρc hρ => h5 ρc fun i k hi => hρ i k (List.mem_append_left _ hi)⟩
    · obtain ⟨k, d, h1, h2, h3, h4, h5⟩ := b.ent j e hj
      exact ⟨k, d, List.mem_append_right _ h1, h2, h3, h4, fun ρc hρ => h5 ρc fun i k hi => hρ i k (List.mem_append_right _ hi)⟩
theorem CanOk.row {n key : Nat} {o : Bool} {t : TypeId} {r : Row} (hl : lk key hp = some (.row o t r)) : CanOk ρ ro hp n (n + 1) [(n, key)] [(n, .row (o && !ro) t r)] := by
  refine ⟨by omega, fun j k hj => ?_, by simp, by simp, fun j h1 h2 => ⟨.row (o && !ro) t r, List.mem_singleton.2 (by rw [show j = n by omega])⟩, fun hr j e hj => by simp only [List.mem_singleton, Prod.mk.injEq] at hj; rw [hj.2, hr]; simp [Ent.own], fun j e hj => ?_⟩
  · simp only [List.mem_singleton, Prod.mk.injEq] at hj; omega
  · simp only [List.mem_singleton, Prod.mk.injEq] at hj
    obtain ⟨rfl, rfl⟩ := hj
    refine ⟨key, _, by simp, hl, fun ho => ?_, fun v g ht => ?_, fun ρc _ w v he => ?_⟩
    · simp only [Ent.own, Bool.and_eq_true] at ho ⊢; exact ho.1
    · cases o
      · exact ht
      · cases ro
        · exact ht
        · exact ht.2
    · cases o
      · exact he
      · cases ro
        · exact he
        · exact own_readsAt he
theorem CanOk.deep {n key : Nat} {o o' : Bool} {t it : TypeId} {d : DK} {vs : List Value} {hh : Option Nat} (hl : lk key hp = some (.deep o t it d vs hh)) (h1 : o' = true → o = true ∧ ro = false) (h2 : o = true → hh = none) : CanOk ρ ro hp n (n + 1) [(n, key)] [(n, .deep o' t it d vs hh)] := by
  refine ⟨by omega, fun j k hj => ?_, by simp, by simp, fun j h1 h2 => ⟨.deep o' t it d vs hh, List.mem_singleton.2 (by rw [show j = n by omega])⟩, fun hr j e hj => ?_, fun j e hj => ?_⟩
  · simp only [List.mem_singleton, Prod.mk.injEq] at hj; omega
  · simp only [List.mem_singleton, Prod.mk.injEq] at hj
    rw [hj.2]
    cases o' with
    | false => rfl
    | true => rw [(h1 rfl).2] at hr; cases hr
  · simp only [List.mem_singleton, Prod.mk.injEq] at hj
    obtain ⟨rfl, rfl⟩ := hj
    refine ⟨key, _, by simp, hl, fun ho => (h1 ho).1, fun v g ht => ?_, fun ρc _ w v he => ?_⟩
    · cases o' with
      | true => rw [(h1 rfl).1]; exact ht
      | false =>
        cases o with
        | false => exact ht
        | true => rw [h2 rfl] at ht ⊢; exact deep_touch ht
    · cases o' with
      | true => rw [(h1 rfl).1] at he; exact he
      | false =>
        cases o with
        | false => exact he
        | true => rw [h2 rfl] at he; exact DeepOwn.reads he
mutual
theorem canV_sound : ∀ {f : Nat} {v v' : SV} {n n' : Nat} {σ : KM} {h : Heap}, canV hp ro f v n = some (v', n', σ, h) →
    CanOk ρ ro hp n n' σ h ∧ ∀ ρc : Nat → Value, (∀ i k, (i, k) ∈ σ → ρc i = ρ k) → v'.toV ρc = v.toV ρ
  | 0, _, _, _, _, _, _, h => by simp [canV] at h
  | f + 1, v, v', n, n', σ, h, hh => by
    cases v with
    | row key =>
      simp only [canV] at hh
      split at hh
      · rename_i o t r hl
        cases hh
        exact ⟨.row hl, fun ρc hρ => by simp only [SV.toV]; exact hρ _ _ (by simp)⟩
      · rename_i o t it d vs hl
        cases hh
        exact ⟨.deep hl (fun h => by simpa using h) (fun _ => rfl), fun ρc hρ => by simp only [SV.toV]; exact hρ _ _ (by simp)⟩
      · rename_i t it d vs h0 hl
        cases hh
        exact ⟨.deep hl (fun h => by cases h) (fun h => by cases h), fun ρc hρ => by simp only [SV.toV]; exact hρ _ _ (by simp)⟩
      · cases hh
    | ptr key w i fld =>
      simp only [canV] at hh
      split at hh
      · rename_i o t r hl
        cases hh
        exact ⟨.row hl, fun ρc hρ => by simp only [SV.toV]; rw [hρ _ key (by simp)]⟩
      · rename_i o t cells hl
        split at hh
        · rename_i cells' m σ' h' hc
          cases hh
          obtain ⟨c1, c2⟩ := canVs_sound hc
          have hle := c1.le
          refine ⟨⟨by omega, fun j k hj => ?_, ?_, ?_, fun j h1 h2 => ?_, fun hr j e hj => ?_, fun j e hj => ?_⟩, fun ρc hρ => by simp only [SV.toV]; rw [hρ _ key (by simp)]⟩
          · rcases List.mem_cons.1 hj with hj | hj
            · simp only [Prod.mk.injEq] at hj; omega
            · have := c1.keys j k hj; omega
          · rw [List.map_cons, List.nodup_cons]
            refine ⟨fun hm => ?_, c1.nodup⟩
            obtain ⟨⟨x1, x2⟩, hx1, hx⟩ := List.mem_map.1 hm
            have := c1.keys _ _ hx1
            simp only at hx; omega
          · rw [List.map_cons, List.nodup_cons]
            refine ⟨fun hm => ?_, c1.hkeys⟩
            obtain ⟨⟨x1, x2⟩, hx1, hx⟩ := List.mem_map.1 hm
            obtain ⟨k, d, hk, _⟩ := c1.ent _ _ hx1
            have := c1.keys _ _ hk
            simp only at hx; omega
          · by_cases hj : j = n
            · subst hj; exact ⟨_, List.mem_cons_self⟩
            · obtain ⟨e, he⟩ := c1.full j (by omega) h2; exact ⟨e, List.mem_cons_of_mem _ he⟩
          · rcases List.mem_cons.1 hj with hj | hj
            · simp only [Prod.mk.injEq] at hj; rw [hj.2, hr]; simp [Ent.own]
            · exact c1.pure hr j e hj
          · rcases List.mem_cons.1 hj with hj | hj
            · simp only [Prod.mk.injEq] at hj
              obtain ⟨rfl, rfl⟩ := hj
              refine ⟨key, _, by simp, hl, fun ho => ?_, fun v g ht => ht, fun ρc hρ w v he => ?_⟩
              · simp only [Ent.own, Bool.and_eq_true] at ho ⊢; exact ho.1
              · obtain ⟨g, hg, hhas⟩ := he
                exact ⟨g, hg, by rw [c2 ρc fun i k hi => hρ i k (by simp [hi])]; exact hhas⟩
            · obtain ⟨k, d, h1, h2, h3, h4, h5⟩ := c1.ent j e hj
              exact ⟨k, d, by simp [h1], h2, h3, h4, fun ρc hρ => h5 ρc fun i k hi => hρ i k (by simp [hi])⟩
        · cases hh
      · cases hh
    | agg l =>
      simp only [canV] at hh
      split at hh
      · rename_i l' m σ' h' hc
        cases hh
        obtain ⟨c1, c2⟩ := canVs_sound hc
        exact ⟨c1, fun ρc hρ => by simp only [SV.toV]; rw [c2 ρc hρ]⟩
      · cases hh
    | tup l =>
      simp only [canV] at hh
      split at hh
      · rename_i l' m σ' h' hc
        cases hh
        obtain ⟨c1, c2⟩ := canVs_sound hc
        exact ⟨c1, fun ρc hρ => by simp only [SV.toV]; rw [c2 ρc hρ]⟩
      · cases hh
    | fn g l =>
      simp only [canV] at hh
      split at hh
      · rename_i l' m σ' h' hc
        cases hh
        obtain ⟨c1, c2⟩ := canVs_sound hc
        exact ⟨c1, fun ρc hρ => by simp only [SV.toV]; rw [c2 ρc hρ]⟩
      · cases hh
    | mth g l =>
      simp only [canV] at hh
      split at hh
      · rename_i l' m σ' h' hc
        cases hh
        obtain ⟨c1, c2⟩ := canVs_sound hc
        exact ⟨c1, fun ρc hρ => by simp only [SV.toV]; rw [c2 ρc hρ]⟩
      · cases hh
    | _ => simp only [canV] at hh; cases hh; exact ⟨.nil n, fun ρc _ => by simp only [SV.toV]⟩
theorem canVs_sound : ∀ {f : Nat} {l l' : List SV} {n n' : Nat} {σ : KM} {h : Heap}, canVs hp ro f l n = some (l', n', σ, h) →
    CanOk ρ ro hp n n' σ h ∧ ∀ ρc : Nat → Value, (∀ i k, (i, k) ∈ σ → ρc i = ρ k) → toVs ρc l' = toVs ρ l
  | 0, _, _, _, _, _, _, h => by simp [canVs] at h
  | f + 1, [], l', n, n', σ, h, hh => by
    simp only [canVs] at hh; cases hh; exact ⟨.nil n, fun _ _ => by simp [toVs]⟩
  | f + 1, v :: l, l', n, n', σ, h, hh => by
    simp only [canVs] at hh
    split at hh
    · rename_i v' m σ1 h1 hv
      split at hh
      · rename_i l1 m1 σ2 h2 hl
        cases hh
        obtain ⟨a1, a2⟩ := canV_sound hv
        obtain ⟨b1, b2⟩ := canVs_sound hl
        exact ⟨a1.append b1, fun ρc hρ => by
          simp only [toVs]
          rw [a2 ρc fun i k hi => hρ i k (List.mem_append_left _ hi), b2 ρc fun i k hi => hρ i k (List.mem_append_right _ hi)]⟩
      · cases hh
    · cases hh
end
end
def nilEq (α : Type) : Prop := ([] : List α) = []
theorem nilEq_true (α : Type) : nilEq α = True := by simp [nilEq]
inductive New where
  | row (t : TypeId) (r : Row)
  | box (t : TypeId) (cs : List SV)
  | deep (t it : TypeId) (d : DK)
  | view (t : TypeId) (r : Row)
def New.ent (vs : List Value) : New → Ent
  | .row t r => .row true t r
  | .box t cs => .box true t cs
  | .deep t it d => .deep true t it d vs none
  | .view t r => .row false t r
def New.isView : New → Bool
  | .view _ _ => true
  | _ => false
def hasView : List New → Bool
  | [] => false
  | x :: l => x.isView || hasView l
def frozen (σ : KM) (hp : Heap) : Heap → Bool
  | [] => true
  | (k, e) :: l => (e.own || (match lk (kmap σ k) hp with | some d => !d.own | none => false)) && frozen σ hp l
def New.isDeep : New → Bool
  | .deep _ _ _ => true
  | _ => false
def hasDeep : List New → Bool
  | [] => false
  | x :: l => x.isDeep || hasDeep l
def noV : Nat → List Value := fun _ => []
structure FRes where
  pre : Prop
  res : SV
  rows : List New
  eff : Heap := []
abbrev FS := List SV → Heap → Option FRes
def newRows (V : Nat → List Value) : Nat → Nat → List New → Heap
  | _, _, [] => []
  | i, n, x :: l => (n, x.ent (V i)) :: newRows V (i + 1) (n + 1) l
mutual
def SV.ren (σ : KM) (m nk : Nat) : SV → SV
  | .row k => .row (bif Nat.blt k m then kmap σ k else k - m + nk)
  | .ptr k w i f => .ptr (bif Nat.blt k m then kmap σ k else k - m + nk) w i f
  | .agg l => .agg (rens σ m nk l)
  | .tup l => .tup (rens σ m nk l)
  | .fn f l => .fn f (rens σ m nk l)
  | .mth f l => .mth f (rens σ m nk l)
  | v => v
def rens (σ : KM) (m nk : Nat) : List SV → List SV
  | [] => []
  | s :: l => s.ren σ m nk :: rens σ m nk l
end
def Ent.ren (σ : KM) (m nk : Nat) : Ent → Ent
  | .box o t cs => .box o t (rens σ m nk cs)
  | .vec t cs => .vec t (rens σ m nk cs)
  | e => e
def newRens (V : Nat → List Value) (σ : KM) (m nk : Nat) : Nat → Nat → List New → Heap
  | _, _, [] => []
  | i, n, x :: l => (n, (x.ent (V i)).ren σ m nk) :: newRens V σ m nk (i + 1) (n + 1) l
def effOf (σ : KM) (m nk : Nat) : Heap → Heap → Heap
  | [], hp => hp
  | (k, e) :: l, hp => put (kmap σ k) (e.ren σ m nk) (effOf σ m nk l hp)
def covered (eff : Heap) : Heap → Bool
  | [] => true
  | (k, e) :: l => (!e.own || (lk k eff).isSome) && covered eff l
def distinct : Heap → Bool
  | [] => true
  | (k, _) :: l => (lk k l).isNone && distinct l
def effKeys (m : Nat) (h : Heap) : Heap → Bool
  | [] => true
  | (k, e) :: l => Nat.blt k m && e.own && (match lk k h with | some d => d.own | none => false) && effKeys m h l
def nowhere (n : Nat) : KM → Bool
  | [] => true
  | (_, k) :: l => Nat.blt k n && nowhere n l
def specOf (ro : Bool) (fs : FS) : Spec := fun args hp nk K =>
  match canVs hp ro 64 args 0 with
  | none => StuckAt 5 (args, hp)
  | some (args', m, σ, h) => match fs args' h with
    | none => StuckAt 6 (args', h)
    | some r => bif Nat.beq m h.length && injOwn σ h && mapped σ h && covered r.eff h && distinct r.eff && effKeys m h r.eff && nowhere nk σ && hpBelow nk hp && (bif hasView r.rows then frozen σ hp h else true) then
        r.pre ∧ (bif hasDeep r.rows then ∀ V : Nat → List Value, K (r.res.ren σ m nk) (newRens V σ m nk 0 nk r.rows ++ effOf σ m nk r.eff hp) (nk + r.rows.length)
          else K (r.res.ren σ m nk) (newRens noV σ m nk 0 nk r.rows ++ effOf σ m nk r.eff hp) (nk + r.rows.length))
      else StuckAt 7 (args', h, σ)
structure FRel where
  pre : Prop
  G : Type
  post : G → Prop
  out : G → FRes
abbrev FR := List SV → Heap → Option FRel
def fsR (fs : FS) : FR := fun args h => match fs args h with
  | some r => some ⟨r.pre, Unit, fun _ => True, fun _ => r⟩
  | none => none
def specOfR (ro : Bool) (fs : FR) : Spec := fun args hp nk K =>
  match canVs hp ro 64 args 0 with
  | none => StuckAt 5 (args, hp)
  | some (args', m, σ, h) => match fs args' h with
    | none => StuckAt 6 (args', h)
    | some R => bif Nat.beq m h.length && injOwn σ h && mapped σ h && nowhere nk σ && hpBelow nk hp then
        R.pre ∧ ∀ g : R.G, R.post g → (bif covered (R.out g).eff h && distinct (R.out g).eff && effKeys m h (R.out g).eff && (bif hasView (R.out g).rows then frozen σ hp h else true) then
          (bif hasDeep (R.out g).rows then ∀ V : Nat → List Value, K ((R.out g).res.ren σ m nk) (newRens V σ m nk 0 nk (R.out g).rows ++ effOf σ m nk (R.out g).eff hp) (nk + (R.out g).rows.length)
            else K ((R.out g).res.ren σ m nk) (newRens noV σ m nk 0 nk (R.out g).rows ++ effOf σ m nk (R.out g).eff hp) (nk + (R.out g).rows.length))
          else StuckAt 7 (args', h, σ))
      else StuckAt 7 (args', h, σ)
def outS (m : Nat) (r : FRes) (v : SV) (s : St) : Prop :=
  bif hasDeep r.rows then ∃ V : Nat → List Value, Sub m ⟨[(0, v)], s.hp, s.nk⟩ ⟨[(0, r.res)], newRows V 0 m r.rows ++ r.eff, m + r.rows.length⟩
  else Sub m ⟨[(0, v)], s.hp, s.nk⟩ ⟨[(0, r.res)], newRows noV 0 m r.rows ++ r.eff, m + r.rows.length⟩
theorem outS_ex {m : Nat} {r : FRes} {v : SV} {s : St} (h : outS m r v s) : ∃ V : Nat → List Value, Sub m ⟨[(0, v)], s.hp, s.nk⟩ ⟨[(0, r.res)], newRows V 0 m r.rows ++ r.eff, m + r.rows.length⟩ := by
  unfold outS at h
  cases hd : hasDeep r.rows with
  | true => rw [hd] at h; exact h
  | false => rw [hd] at h; exact ⟨_, h⟩
def FVcP (T : Tys) (Γ : Specs) (I : List (Nat × ISpec)) (A : List (Nat × Ann)) (fn : Func) (args : List SV) (h : Heap) (r : FRes) : Prop :=
  vcFun T Γ I A fn.ntmps fn.results.toList (fn.body.getD .skip) args h h.length fun v s => outS h.length r v s
structure FVc (T : Tys) (Γ : Specs) (I : List (Nat × ISpec)) (A : List (Nat × Ann)) (fn : Func) (args : List SV) (h : Heap) (r : FRes) : Prop where
  out : FVcP T Γ I A fn args h r
theorem FVc.of {T : Tys} {Γ : Specs} {I : List (Nat × ISpec)} {A : List (Nat × Ann)} {fn : Func} {args : List SV} {h : Heap} {r : FRes} (E : Prop) (he : E = FVcP T Γ I A fn args h r) (hE : E) : FVc T Γ I A fn args h r := ⟨he ▸ hE⟩
def FVcRP (T : Tys) (Γ : Specs) (I : List (Nat × ISpec)) (A : List (Nat × Ann)) (fn : Func) (args : List SV) (h : Heap) (R : FRel) : Prop :=
  vcFun T Γ I A fn.ntmps fn.results.toList (fn.body.getD .skip) args h h.length fun v s => ∃ g : R.G, R.post g ∧ outS h.length (R.out g) v s
structure FVcR (T : Tys) (Γ : Specs) (I : List (Nat × ISpec)) (A : List (Nat × Ann)) (fn : Func) (args : List SV) (h : Heap) (R : FRel) : Prop where
  out : FVcRP T Γ I A fn args h R
theorem FVcR.of {T : Tys} {Γ : Specs} {I : List (Nat × ISpec)} {A : List (Nat × Ann)} {fn : Func} {args : List SV} {h : Heap} {R : FRel} (E : Prop) (he : E = FVcRP T Γ I A fn args h R) (hE : E) : FVcR T Γ I A fn args h R := ⟨he ▸ hE⟩
def FunVc (T : Tys) (Γ : Specs) (I : List SV → Heap → List (Nat × ISpec)) (A : List SV → Heap → List (Nat × Ann)) (N : Nat) (res : List ResultVar) (c : Code) (fs : FS) : Prop :=
  ∀ args h r m, fs args h = some r → r.pre → m = h.length → vcFun T Γ (I args h) (A args h) N res c args h m fun v s =>
    outS m r v s
section
variable {P : Program} {T : Tys} {Γ : Specs}
mutual
theorem ren_toV {σ : KM} {m nk : Nat} {ρ ρ' ρ'' : Nat → Value} (h1 : ∀ k, k < m → ρ' (kmap σ k) = ρ'' k) (h2 : ∀ k, m ≤ k → ρ' (k - m + nk) = ρ'' k) : ∀ v : SV, (v.ren σ m nk).toV ρ' = v.toV ρ''
  | .int _ _ => by simp [SV.ren, SV.toV]
  | .tt => by simp [SV.ren, SV.toV]
  | .ff => by simp [SV.ren, SV.toV]
  | .bool _ => by simp [SV.ren, SV.toV]
  | .val _ => by simp [SV.ren, SV.toV]
  | .row k => by
    simp only [SV.ren, SV.toV]
    cases hk : Nat.blt k m with
    | true => exact h1 k (blt_lt hk)
    | false => exact h2 k (Nat.le_of_not_lt fun h => by rw [show Nat.blt k m = true by simpa [Nat.blt_eq] using h] at hk; cases hk)
  | .ptr k w i f => by
    simp only [SV.ren, SV.toV]
    have : ρ' (bif Nat.blt k m then kmap σ k else k - m + nk) = ρ'' k := by
      cases hk : Nat.blt k m with
      | true => exact h1 k (blt_lt hk)
      | false => exact h2 k (Nat.le_of_not_lt fun h => by rw [show Nat.blt k m = true by simpa [Nat.blt_eq] using h] at hk; cases hk)
    rw [this]
  | .agg l => by simp only [SV.ren, SV.toV]; rw [rens_toVs (ρ := ρ) h1 h2 l]
  | .tup l => by simp only [SV.ren, SV.toV]; rw [rens_toVs (ρ := ρ) h1 h2 l]
  | .fn f l => by simp only [SV.ren, SV.toV]; rw [rens_toVs (ρ := ρ) h1 h2 l]
  | .mth f l => by simp only [SV.ren, SV.toV]; rw [rens_toVs (ρ := ρ) h1 h2 l]
theorem rens_toVs {σ : KM} {m nk : Nat} {ρ ρ' ρ'' : Nat → Value} (h1 : ∀ k, k < m → ρ' (kmap σ k) = ρ'' k) (h2 : ∀ k, m ≤ k → ρ' (k - m + nk) = ρ'' k) : ∀ l : List SV, toVs ρ' (rens σ m nk l) = toVs ρ'' l
  | [] => by simp [rens, toVs]
  | s :: l => by simp only [rens, toVs]; rw [ren_toV (ρ := ρ) h1 h2 s, rens_toVs (ρ := ρ) h1 h2 l]
end
theorem New.own (x : New) (vs : List Value) : (x.ent vs).own = !x.isView := by cases x <;> rfl
theorem hasView_of : ∀ {l : List New} {i : Nat} {x : New}, l[i]? = some x → x.isView = true → hasView l = true
  | [], i, x, h, _ => by simp at h
  | y :: l, 0, x, h, hx => by simp at h; subst h; simp [hasView, hx]
  | y :: l, i + 1, x, h, hx => by
    rw [List.getElem?_cons_succ] at h
    simp [hasView, hasView_of h hx]
theorem frozen_lk {σ : KM} {hp : Heap} : ∀ {h : Heap}, frozen σ hp h = true → ∀ {k : Nat} {e : Ent}, lk k h = some e → e.own = false → ∃ d, lk (kmap σ k) hp = some d ∧ d.own = false
  | [], _, k, e, h, _ => by simp [lk] at h
  | (j, d) :: l, hh, k, e, h, ho => by
    simp only [frozen, Bool.and_eq_true] at hh
    rw [lk_cons] at h
    split at h
    · rename_i hk; subst hk; cases h
      have h1 := hh.1
      rw [ho] at h1
      simp only [Bool.false_or] at h1
      split at h1
      · rename_i d hd; exact ⟨d, hd, by simpa using h1⟩
      · cases h1
    · exact frozen_lk hh.2 h ho
theorem newRows_lk {V : Nat → List Value} : ∀ {rows : List New} {i n k : Nat} {e : Ent}, lk k (newRows V i n rows) = some e → n ≤ k ∧ k < n + rows.length ∧ ∃ x, rows[k - n]? = some x ∧ e = x.ent (V (i + (k - n)))
  | [], i, n, k, e, h => by simp [newRows, lk] at h
  | x :: l, i, n, k, e, h => by
    rw [newRows, lk_cons] at h
    split at h
    · rename_i hk; subst hk; cases h; exact ⟨Nat.le_refl _, by simp, x, by simp, by simp⟩
    · rename_i hk
      obtain ⟨h1, h2, x', h3, h4⟩ := newRows_lk h
      refine ⟨by omega, by simp; omega, x', ?_, ?_⟩
      · rw [show k - n = (k - (n + 1)) + 1 by omega, List.getElem?_cons_succ]; exact h3
      · rw [h4, show i + 1 + (k - (n + 1)) = i + (k - n) by omega]
theorem newRens_lk {V : Nat → List Value} {σ : KM} {m nk : Nat} : ∀ {rows : List New} {i n k : Nat} {e : Ent}, lk k (newRens V σ m nk i n rows) = some e → n ≤ k ∧ k < n + rows.length ∧ ∃ x, rows[k - n]? = some x ∧ e = (x.ent (V (i + (k - n)))).ren σ m nk
  | [], i, n, k, e, h => by simp [newRens, lk] at h
  | x :: l, i, n, k, e, h => by
    rw [newRens, lk_cons] at h
    split at h
    · rename_i hk; subst hk; cases h; exact ⟨Nat.le_refl _, by simp, x, by simp, by simp⟩
    · rename_i hk
      obtain ⟨h1, h2, x', h3, h4⟩ := newRens_lk h
      refine ⟨by omega, by simp; omega, x', ?_, ?_⟩
      · rw [show k - n = (k - (n + 1)) + 1 by omega, List.getElem?_cons_succ]; exact h3
      · rw [h4, show i + 1 + (k - (n + 1)) = i + (k - n) by omega]
theorem newRows_at {V : Nat → List Value} : ∀ {rows : List New} {i0 n i : Nat} {x : New}, rows[i]? = some x → lk (n + i) (newRows V i0 n rows) = some (x.ent (V (i0 + i)))
  | [], i0, n, i, x, h => by simp at h
  | y :: l, i0, n, 0, x, h => by
    simp only [List.getElem?_cons_zero, Option.some.injEq] at h
    subst h
    rw [newRows, Nat.add_zero, lk_cons, if_pos rfl, Nat.add_zero]
  | y :: l, i0, n, i + 1, x, h => by
    rw [List.getElem?_cons_succ] at h
    rw [newRows, lk_cons, if_neg (by omega), show n + (i + 1) = n + 1 + i by omega, show i0 + (i + 1) = i0 + 1 + i by omega]
    exact newRows_at h
theorem newRens_flat {V V' : Nat → List Value} {σ : KM} {m nk : Nat} : ∀ {rows : List New} {i n : Nat}, hasDeep rows = false → newRens V σ m nk i n rows = newRens V' σ m nk i n rows
  | [], _, _, _ => rfl
  | x :: l, i, n, h => by
    simp only [hasDeep, Bool.or_eq_false_iff] at h
    rw [newRens, newRens, newRens_flat h.2]
    cases x with
    | deep t it d => cases h.1
    | _ => rfl
theorem effOf_lk {σ : KM} {m nk : Nat} {hp : Heap} : ∀ {eff : Heap} {k : Nat} {e : Ent}, lk k (effOf σ m nk eff hp) = some e →
    (∃ j d, (j, d) ∈ eff ∧ k = kmap σ j ∧ e = d.ren σ m nk) ∨ (lk k hp = some e ∧ ∀ j d, (j, d) ∈ eff → k ≠ kmap σ j)
  | [], k, e, h => .inr ⟨h, fun _ _ h => by simp at h⟩
  | (j, d) :: l, k, e, h => by
    rw [effOf, lk_put] at h
    split at h
    · rename_i hk; cases h; exact .inl ⟨j, d, by simp, hk, rfl⟩
    · rename_i hk
      rcases effOf_lk h with ⟨j', d', h1, h2, h3⟩ | ⟨h1, h2⟩
      · exact .inl ⟨j', d', by simp [h1], h2, h3⟩
      · refine .inr ⟨h1, fun j' d' hm => ?_⟩
        rcases List.mem_cons.1 hm with hm | hm
        · cases hm; exact hk
        · exact h2 j' d' hm
theorem distinct_lk : ∀ {h : Heap}, distinct h = true → ∀ {j : Nat} {d : Ent}, (j, d) ∈ h → lk j h = some d
  | [], _, j, d, hm => by simp at hm
  | (k, e) :: l, hh, j, d, hm => by
    simp only [distinct, Bool.and_eq_true, Option.isNone_iff_eq_none] at hh
    rw [lk_cons]
    rcases List.mem_cons.1 hm with hm | hm
    · cases hm; simp
    · have := distinct_lk hh.2 hm
      split
      · rename_i hk; subst hk; rw [hh.1] at this; cases this
      · exact this
theorem nodup_lk {α : Type} : ∀ {h : List (Nat × α)}, (h.map (·.1)).Nodup → ∀ {j : Nat} {d : α}, (j, d) ∈ h → lk j h = some d
  | [], _, j, d, hm => by simp at hm
  | (k, e) :: l, hh, j, d, hm => by
    rw [List.map_cons, List.nodup_cons] at hh
    rw [lk_cons]
    rcases List.mem_cons.1 hm with hm' | hm'
    · cases hm'; simp
    · have := nodup_lk hh.2 hm'
      rw [if_neg]
      · exact this
      · intro hjk; subst hjk; exact hh.1 (List.mem_map.2 ⟨_, hm', rfl⟩)
theorem covered_lk {eff : Heap} : ∀ {h : Heap}, covered eff h = true → ∀ {k : Nat} {e : Ent}, lk k h = some e → e.own = true → ∃ d, (k, d) ∈ eff
  | [], _, k, e, h => by simp [lk] at h
  | (j, d) :: l, hh, k, e, h => by
    intro ho
    simp only [covered, Bool.and_eq_true] at hh
    rw [lk_cons] at h
    split at h
    · rename_i hk; subst hk; cases h
      rw [ho] at hh
      simp only [Bool.not_true, Bool.false_or] at hh
      obtain ⟨y, hy⟩ := Option.isSome_iff_exists.1 hh.1
      exact ⟨y, lk_mem hy⟩
    · exact covered_lk hh.2 h ho
theorem effKeys_mem {m : Nat} {h : Heap} : ∀ {eff : Heap}, effKeys m h eff = true → ∀ {k : Nat} {e : Ent}, (k, e) ∈ eff → k < m ∧ e.own = true ∧ ∃ d, lk k h = some d ∧ d.own = true
  | [], _, k, e, hm => by simp at hm
  | (j, d) :: l, hh, k, e, hm => by
    simp only [effKeys, Bool.and_eq_true] at hh
    rcases List.mem_cons.1 hm with hm | hm
    · cases hm
      refine ⟨blt_lt hh.1.1.1, hh.1.1.2, ?_⟩
      have := hh.1.2
      split at this
      · rename_i d hd; exact ⟨d, hd, this⟩
      · cases this
    · exact effKeys_mem hh.2 hm
theorem nowhere_mem {n : Nat} : ∀ {σ : KM}, nowhere n σ = true → ∀ {j k : Nat}, (j, k) ∈ σ → k < n
  | [], _, j, k, hm => by simp at hm
  | (i, x) :: l, hh, j, k, hm => by
    simp only [nowhere, Bool.and_eq_true] at hh
    rcases List.mem_cons.1 hm with hm | hm
    · cases hm; exact blt_lt hh.1
    · exact nowhere_mem hh.2 hm
theorem ren_own {σ : KM} {m nk : Nat} {d : Ent} : (d.ren σ m nk).own = d.own := by cases d <;> rfl
theorem ren_touch {σ : KM} {m nk : Nat} {d : Ent} {v : Value} {g : Nat} : (d.ren σ m nk).touch v g ↔ d.touch v g := by
  cases d with
  | box o t cs => exact Iff.rfl
  | vec t cs => exact Iff.rfl
  | _ => exact Iff.rfl
def Leaves (ρc : Nat → Value) (hc : Heap) (r : FRes) (w : World) (e : Ending) (w' : World) : Prop :=
  ∃ (V : Nat → List Value) (ρ2 : Nat → Value), e = .returned (r.res.toV ρ2) ∧ HOk ρ2 (newRows V 0 hc.length r.rows ++ r.eff) w' ∧ Fr (Owned ρc hc) w w' ∧
    Inside (foot ρc hc) w ρ2 (newRows V 0 hc.length r.rows ++ r.eff) ∧ ∀ k, k < hc.length → ρ2 k = ρc k
theorem spec_ok_genR {ro : Bool} {fs : FR} {f : FuncId} (henter : ∀ args w, (callFunc f args).run P w = .ok (.enter f args) w)
    (hcall : ∀ args' hc (R : FRel) ρc w, fs args' hc = some R → R.pre → HOk ρc hc w → Calls P f (toVs ρc args').toArray w (fun e w' => ∃ g : R.G, R.post g ∧ Leaves ρc hc (R.out g) w e w')) : SpecOk P f ro (specOfR ro fs) := by
  refine .fn henter (fun ρ hp nk w args K hh h => ?_)
  unfold specOfR at h
  split at h
  · exact h.elim
  · rename_i args' m σ hc hcan
    split at h
    · exact h.elim
    · rename_i R hr
      cases hb' : (Nat.beq m hc.length && injOwn σ hc && mapped σ hc && nowhere nk σ && hpBelow nk hp) with
      | false => rw [hb'] at h; exact h.elim
      | true =>
        rw [hb'] at h
        simp only [cond_true] at h
        simp only [Bool.and_eq_true] at hb'
        obtain ⟨⟨⟨⟨b0, b1⟩, b2⟩, b6⟩, b7⟩ := hb'
        obtain ⟨hpre, hK⟩ := h
        have b0 := beq_eq b0
        obtain ⟨can, hvs⟩ := canVs_sound (ρ := ρ) hcan
        let ρc : Nat → Value := fun k => ρ (kmap σ k)
        have hρc : ∀ i k, (i, k) ∈ σ → ρc i = ρ k := fun i k hi => by
          have := nodup_lk can.nodup hi
          simp [ρc, kmap, this]
        have hkm : ∀ i k, (i, k) ∈ σ → kmap σ i = k := fun i k hi => by
          have := nodup_lk can.nodup hi
          simp [kmap, this]
        have hcH : HOk ρc hc w := by
          refine ⟨fun k => hh.one _, fun j e hj => ?_, fun j e j' e' hj hj' hne ho g ht => ?_⟩
          · obtain ⟨k, d, h1, h2, h3, h4, h5⟩ := can.ent j e (lk_mem hj)
            have := h5 ρc hρc w _ (hh.ent k d h2)
            rw [hρc j k h1]; exact this
          · obtain ⟨k, d, h1, h2, h3, h4, h5⟩ := can.ent j e (lk_mem hj)
            obtain ⟨k', d', h1', h2', h3', h4', h5'⟩ := can.ent j' e' (lk_mem hj')
            intro ht'
            have hne' := injOwn_lk b1 hj ho j' k' h1' (Ne.symm hne)
            rw [hkm j k h1] at hne'
            rw [hρc j k h1] at ht
            rw [hρc j' k' h1'] at ht'
            exact hh.sep k d k' d' h2 h2' (Ne.symm hne') (h3 ho) g (h4 _ _ ht) (h4' _ _ ht')
        have hcO : ∀ g, Owned ρc hc g → ∃ j e k d, lk j hc = some e ∧ e.own = true ∧ (j, k) ∈ σ ∧ lk k hp = some d ∧ d.own = true ∧ d.touch (ρ k) g := by
          rintro g ⟨j, e, hj, ho, ht⟩
          obtain ⟨k, d, h1, h2, h3, h4, h5⟩ := can.ent j e (lk_mem hj)
          rw [hρc j k h1] at ht
          exact ⟨j, e, k, d, hj, ho, h1, h2, h3 ho, h4 _ _ ht⟩
        have hcalls := hcall args' hc R ρc w hr hpre hcH
        rw [← hvs ρc hρc]
        refine hcalls.mono fun e w' he => ?_
        obtain ⟨gh, hpost, V, ρ2, rfl, hH2, hfr, hown2, hbase⟩ := he
        replace hK := hK gh hpost
        generalize R.out gh = r at hH2 hown2 hK ⊢
        cases hb2 : (covered r.eff hc && distinct r.eff && effKeys m hc r.eff && (bif hasView r.rows then frozen σ hp hc else true)) with
        | false => rw [hb2] at hK; exact hK.elim
        | true =>
        rw [hb2] at hK
        simp only [cond_true] at hK
        simp only [Bool.and_eq_true] at hb2
        obtain ⟨⟨⟨b3, b4⟩, b5⟩, b8⟩ := hb2
        subst b0
        replace hK : K (r.res.ren σ hc.length nk) (newRens V σ hc.length nk 0 nk r.rows ++ effOf σ hc.length nk r.eff hp) (nk + r.rows.length) := by
          cases hdp : hasDeep r.rows with
          | true => rw [hdp] at hK; exact hK V
          | false => rw [hdp] at hK; rw [newRens_flat (V' := noV) hdp]; exact hK
        let ρn : Nat → Value := fun k => if k < nk then ρ k else ρ2 (k - nk + hc.length)
        have n1 : ∀ k, k < nk → ρn k = ρ k := fun k hk => by simp [ρn, hk]
        have n2 : ∀ k, hc.length ≤ k → ρn (k - hc.length + nk) = ρ2 k := fun k hk => by
          simp only [ρn]; rw [if_neg (by omega)]; congr 1; omega
        have hσ : ∀ j k, (j, k) ∈ σ → k < nk := fun j k hj => nowhere_mem b6 hj
        have hmem : ∀ j e, lk j hc = some e → (j, kmap σ j) ∈ σ := fun j e hj => mapped_lk b2 hj
        have hold : ∀ k e, lk k hp = some e → k < nk := fun k e hl => (hpBelow_lk b7 hl).1
        have hjlt : ∀ j, j < hc.length → ∃ e, lk j hc = some e := fun j hj => by
          obtain ⟨e, he⟩ := can.full j (Nat.zero_le _) hj
          exact ⟨e, nodup_lk can.hkeys he⟩
        have n3 : ∀ k, k < hc.length → ρn (kmap σ k) = ρ2 k := fun k hk => by
          obtain ⟨e, he⟩ := hjlt k hk
          rw [n1 _ (hσ _ _ (hmem k e he)), hbase k hk]
        have hcases : ∀ k e, lk k (newRens V σ hc.length nk 0 nk r.rows ++ effOf σ hc.length nk r.eff hp) = some e →
            (nk ≤ k ∧ ρn k = ρ2 (k - nk + hc.length) ∧ ∃ x : Ent, lk (k - nk + hc.length) (newRows V 0 hc.length r.rows ++ r.eff) = some x ∧ e = x.ren σ hc.length nk) ∨
            (∃ j d, (j, d) ∈ r.eff ∧ k = kmap σ j ∧ k < nk ∧ e = d.ren σ hc.length nk ∧ lk j (newRows V 0 hc.length r.rows ++ r.eff) = some d ∧ ρn k = ρ2 j ∧ ∃ d0, lk j hc = some d0 ∧ d0.own = true) ∨
            (k < nk ∧ lk k hp = some e ∧ ρn k = ρ k ∧ ∀ j d, (j, d) ∈ r.eff → k ≠ kmap σ j) := by
          intro k e hl
          rw [lk_append] at hl
          cases hn : lk k (newRens V σ hc.length nk 0 nk r.rows) with
          | some e' =>
            rw [hn] at hl
            simp only [Option.some_or, Option.some.injEq] at hl
            subst hl
            obtain ⟨h1, h2, x, h3, rfl⟩ := newRens_lk hn
            refine .inl ⟨h1, by simp only [ρn]; rw [if_neg (by omega)], _, ?_, rfl⟩
            rw [lk_append, show k - nk + hc.length = hc.length + (k - nk) by omega, newRows_at h3]; rfl
          | none =>
            rw [hn] at hl
            simp only [Option.none_or] at hl
            rcases effOf_lk hl with ⟨j, d, h1, rfl, h3⟩ | ⟨h1, h2⟩
            · obtain ⟨e1, e2, d0, e3, e4⟩ := effKeys_mem b5 h1
              refine .inr (.inl ⟨j, d, h1, rfl, hσ _ _ (hmem j d0 e3), h3, ?_, n3 j e1, d0, e3, e4⟩)
              rw [lk_append]
              have : lk j (newRows V 0 hc.length r.rows) = none := by
                cases hx : lk j (newRows V 0 hc.length r.rows) with
                | none => rfl
                | some y => have := (newRows_lk hx).1; omega
              rw [this]
              exact distinct_lk b4 h1
            · exact .inr (.inr ⟨hold k e h1, h1, n1 k (hold k e h1), h2⟩)
        have hkeep : ∀ k e, lk k hp = some e → (∀ j d, (j, d) ∈ r.eff → k ≠ kmap σ j) → ∀ g, e.touch (ρ k) g → ¬ Owned ρc hc g := by
          intro k e hl hne g ht hO
          obtain ⟨j, e', k', d, h1, h2, h3, h4, h5, h6⟩ := hcO g hO
          obtain ⟨d', hd'⟩ := covered_lk b3 h1 h2
          have := hne j d' hd'
          rw [hkm j k' h3] at this
          exact hh.sep k' d k e h4 hl (Ne.symm this) h5 g h6 ht
        have hentC : ∀ k d, lk k (newRows V 0 hc.length r.rows ++ r.eff) = some d → EntOk ρ2 w' (ρ2 k) d := hH2.ent
        refine ⟨_, _, _, ρn, ?_, hK, ⟨fun k => ?_, fun k e hl => ?_, fun k e k' e' hl hl' hne ho g ht => ?_⟩, n1, by omega, ⟨hfr.os, hfr.tape, hfr.output, hfr.size, fun g hg hO => hfr.block g hg fun hO' => hO ?_⟩, fun k e hl g ht => ?_, fun hr => ⟨hfr.size, fun k hk => hfr.block k hk ?_⟩⟩
        · rw [ren_toV (ρ := ρ) n3 n2]
        · simp only [ρn]; split
          · exact hh.one k
          · exact hH2.one _
        · have hren : ∀ (v : Value) (d : Ent), EntOk ρ2 w' v d → EntOk ρn w' v (d.ren σ hc.length nk) := by
            intro v d this
            cases d with
            | row o t rr => cases o <;> exact this
            | loop st R => exact this
            | map kk vk mm => exact this
            | deep o t it dd vs hh => cases o <;> exact this
            | vec t cells =>
              obtain ⟨g, hg, hhas⟩ := this
              refine ⟨g, ?_, by rw [rens_toVs (ρ := ρ) n3 n2]; exact hhas⟩
              have hlen : (rens σ hc.length nk cells).length = cells.length := by
                have : ∀ l : List SV, (rens σ hc.length nk l).length = l.length := by intro l; induction l with | nil => rfl | cons x l ih => simp [rens, ih]
                exact this cells
              rw [hlen]; exact hg
            | box o t cells =>
              obtain ⟨g, hg, hhas⟩ := this
              exact ⟨g, hg, by rw [rens_toVs (ρ := ρ) n3 n2]; exact hhas⟩
          rcases hcases k e hl with ⟨_, h3, x, h2, rfl⟩ | ⟨j, d, h1, h2, h3, rfl, h5, h6, _⟩ | ⟨h1, h2, h3, h4⟩
          · rw [h3]; exact hren _ _ (hentC _ _ h2)
          · rw [h6]; exact hren _ _ (hentC _ _ h5)
          · rw [h3]
            have he := hh.ent k e h2
            have hk' := he.keep (w' := w') fun g ht => hfr.block g (he.lt ht) (hkeep k e h2 h4 g ht)
            exact hk'.congr (hpBelow_lk b7 h2).2 n1
        · have fresh : ∀ k d, lk k (newRows V 0 hc.length r.rows ++ r.eff) = some d → d.own = true → ∀ g, d.touch (ρ2 k) g → Owned ρc hc g ∨ w.heap.size ≤ g := fun k d h1 h2 g h3 => hown2.owned ⟨k, d, h1, h2, h3⟩
          have key : ∀ k e, lk k (newRens V σ hc.length nk 0 nk r.rows ++ effOf σ hc.length nk r.eff hp) = some e → ∀ g, e.touch (ρn k) g →
              (∃ j d, lk j (newRows V 0 hc.length r.rows ++ r.eff) = some d ∧ d.own = e.own ∧ d.touch (ρ2 j) g ∧ (k = j - hc.length + nk ∧ hc.length ≤ j ∨ k = kmap σ j ∧ j < hc.length) ) ∨ (lk k hp = some e ∧ e.touch (ρ k) g ∧ ¬ Owned ρc hc g ∧ g < w.heap.size) := by
            intro k e hl g ht
            rcases hcases k e hl with ⟨h1, h3, x, h2, rfl⟩ | ⟨j, d, h1, h2, h3, rfl, h5, h6, d0, h7, h8⟩ | ⟨h1, h2, h3, h4⟩
            · rw [h3] at ht; exact .inl ⟨_, _, h2, ren_own.symm, ren_touch.1 ht, .inl ⟨by omega, by omega⟩⟩
            · rw [h6] at ht
              exact .inl ⟨j, d, h5, ren_own.symm, ren_touch.1 ht, .inr ⟨h2, (effKeys_mem b5 h1).1⟩⟩
            · rw [h3] at ht; exact .inr ⟨h2, ht, hkeep k e h2 h4 g ht, (hh.ent k e h2).lt ht⟩
          intro ht'
          rcases key k e hl g ht with ⟨j, d, a1, a2, a3, a4⟩ | ⟨a1, a2, a3, a4⟩ <;> rcases key k' e' hl' g ht' with ⟨j', d', c1, c2, c3, c4⟩ | ⟨c1, c2, c3, c4⟩
          · refine hH2.sep j d j' d' a1 c1 (fun e => hne ?_) (a2.trans ho) g a3 c3
            subst e
            rcases a4 with ⟨p, q⟩ | ⟨p, q⟩ <;> rcases c4 with ⟨p', q'⟩ | ⟨p', q'⟩
            · omega
            · omega
            · omega
            · rw [p, p']
          · rcases fresh j d a1 (a2.trans ho) g a3 with h | h
            · exact c3 h
            · omega
          · rcases hown2 j' d' c1 g c3 with (h | h) | ⟨h, j0, e0, hj0, ho0, ht0⟩
            · exact a3 h
            · omega
            ·
              have hv : hasView r.rows = true := by
                rw [lk_append] at c1
                cases hn : lk j' (newRows V 0 hc.length r.rows) with
                | some y =>
                  rw [hn] at c1
                  simp only [Option.some_or, Option.some.injEq] at c1
                  subst c1
                  obtain ⟨_, _, x, h3, h4⟩ := newRows_lk hn
                  rw [h4, New.own] at h
                  exact hasView_of h3 (by simpa using h)
                | none =>
                  rw [hn] at c1
                  simp only [Option.none_or] at c1
                  have := (effKeys_mem b5 (lk_mem c1)).2.1
                  rw [h] at this; cases this
              rw [hv] at b8
              simp only [cond_true] at b8
              obtain ⟨k0, d0, h1, h2, h3, h4, h5⟩ := can.ent j0 e0 (lk_mem hj0)
              obtain ⟨d1, hd1, hd2⟩ := frozen_lk b8 hj0 ho0
              rw [hkm j0 k0 h1, h2] at hd1
              cases hd1
              rw [hρc j0 k0 h1] at ht0
              refine hh.sep k e k0 d0 a1 h2 (fun e1 => ?_) ho g a2 (h4 _ _ ht0)
              subst e1
              rw [a1] at h2; cases h2
              rw [hd2] at ho; cases ho
          · exact hh.sep k e k' e' a1 c1 hne ho g a2 c2
        · obtain ⟨j, e', k', d, h1, h2, h3, h4, h5, h6⟩ := hcO g hO'
          exact ⟨k', d, h4, h5, h6⟩
        · rcases hcases k e hl with ⟨h1, h3, x, h2, rfl⟩ | ⟨j, d, h1, h2, h3, rfl, h5, h6, d0, h7, h8⟩ | ⟨h1, h2, h3, h4⟩
          · rw [h3] at ht
            rw [ren_own]
            rcases hown2 _ _ h2 g (ren_touch.1 ht) with (h | h) | ⟨h, j0, e0, hj0, ho0, ht0⟩
            · obtain ⟨j, e', k', d, h1, h2, h3, h4, h5, h6⟩ := hcO g h
              exact .inl (.inl ⟨k', d, h4, h5, h6⟩)
            · exact .inl (.inr h)
            · obtain ⟨k0, d0, h1, h2, h3, h4, h5⟩ := can.ent j0 e0 (lk_mem hj0)
              rw [hρc j0 k0 h1] at ht0
              cases hd : d0.own with
              | true => exact .inl (.inl ⟨k0, d0, h2, hd, h4 _ _ ht0⟩)
              | false => exact .inr ⟨h, k0, d0, h2, hd, h4 _ _ ht0⟩
          · rw [h6] at ht
            rcases hown2.owned ⟨_, _, h5, (effKeys_mem b5 h1).2.1, ren_touch.1 ht⟩ with h | h
            · obtain ⟨j, e', k', d, h1, h2, h3, h4, h5, h6⟩ := hcO g h
              exact .inl (.inl ⟨k', d, h4, h5, h6⟩)
            · exact .inl (.inr h)
          · rw [h3] at ht
            exact foot_own ρ hp w k e h2 g ht
        · rintro ⟨j, e, hj, ho, _⟩
          rw [can.pure hr j e (lk_mem hj)] at ho
          cases ho
theorem SpecOk.weaken {f : FuncId} {ro : Bool} {spec spec' : Spec} (h : SpecOk P f ro spec') (hs : ∀ args hp nk K, spec args hp nk K → spec' args hp nk K) : SpecOk P f ro spec := by
  cases h with
  | fn h1 h2 => exact .fn h1 fun ρ hp nk w args K hh h => h2 ρ hp nk w args K hh (hs _ _ _ _ h)
  | ext h1 => exact .ext fun ρ hp nk w args K hh h => h1 ρ hp nk w args K hh (hs _ _ _ _ h)
theorem specOf_R {ro : Bool} {fs : FS} {args : List SV} {hp : Heap} {nk : Nat} {K : SV → Heap → Nat → Prop} (h : specOf ro fs args hp nk K) : specOfR ro (fsR fs) args hp nk K := by
  unfold specOf at h
  unfold specOfR fsR
  split at h
  · exact h.elim
  · rename_i args' m σ hc hcan
    split at h
    · exact h.elim
    · rename_i r hr
      rw [hr]
      dsimp only
      cases hb' : (Nat.beq m hc.length && injOwn σ hc && mapped σ hc && covered r.eff hc && distinct r.eff && effKeys m hc r.eff && nowhere nk σ && hpBelow nk hp && (bif hasView r.rows then frozen σ hp hc else true)) with
      | false => rw [hb'] at h; exact h.elim
      | true =>
        rw [hb'] at h
        simp only [cond_true] at h
        simp only [Bool.and_eq_true] at hb'
        obtain ⟨⟨⟨⟨⟨⟨⟨⟨b0, b1⟩, b2⟩, b3⟩, b4⟩, b5⟩, b6⟩, b7⟩, b8⟩ := hb'
        rw [b0, b1, b2, b6, b7]
        refine ⟨h.1, fun _ _ => ?_⟩
        rw [b3, b4, b5, b8]
        exact h.2
theorem spec_ok_gen {ro : Bool} {fs : FS} {f : FuncId} (henter : ∀ args w, (callFunc f args).run P w = .ok (.enter f args) w)
    (hcall : ∀ args' hc r ρc w, fs args' hc = some r → r.pre → HOk ρc hc w → Calls P f (toVs ρc args').toArray w (Leaves ρc hc r w)) : SpecOk P f ro (specOf ro fs) := by
  refine (spec_ok_genR (ro := ro) (fs := fsR fs) henter fun args' hc R ρc w hR hpre hH => ?_).weaken fun _ _ _ _ h => specOf_R h
  unfold fsR at hR
  split at hR
  · rename_i r hr
    cases hR
    exact (hcall args' hc r ρc w hr hpre hH).mono fun e w' he => ⟨(), trivial, he⟩
  · cases hR
theorem spec_ok {ro : Bool} {fs : FS} (hT : TsOk P T) (hΓ : GsOk P Γ) (hY : noY Γ = true) (hm : P.follows .mixedOrders = true) {I : List SV → Heap → List (Nat × ISpec)} (hI : ∀ args h, IsOk P (I args h)) {A : List SV → Heap → List (Nat × Ann)} {f : FuncId} {fn : Func} {c : Code} (hf : P.funcs[f]? = some fn) (hb : fn.body = some c) (hd : drawsOk P Γ c = true)
    (henter : ∀ args w, (callFunc f args).run P w = .ok (.enter f args) w) (hargs : ∀ args h r, fs args h = some r → args.length ≤ fn.ntmps) (hvc : FunVc T Γ I A fn.ntmps fn.results.toList c fs) : SpecOk P f ro (specOf ro fs) := by
  refine spec_ok_gen henter fun args' hc r ρc w hr hpre hcH => ?_
  have hcalls := fun_sound hT hΓ hm hf hb hd (hargs _ _ _ hr) (hvc args' hc r hc.length hr hpre rfl) (ysOk_of hY) (hI _ _) hcH
  refine hcalls.mono fun e w' he => ?_
  obtain ⟨v, s, ρ', a', rfl, hsub, hs⟩ := he
  obtain ⟨V, hsub⟩ := outS_ex hsub
  have hs1 : Sym ⟨false, []⟩ w (foot ρc hc) 1 hc.length ρc ρ' ⟨[(0, v)], s.hp, s.nk⟩ { tmps := #[v.toV ρ'], defers := [] } w' := by
    refine ⟨fun t u hu => ?_, rfl, MarksOk.nil _ _ _, hs.hp, hs.fr, hs.own, hs.le, hs.base⟩
    rw [lk_cons] at hu
    split at hu
    · rename_i e; subst e; cases hu; rfl
    · simp [lk] at hu
  obtain ⟨ρ2, hs2⟩ := Sub_sound hsub hs1
  have hres : v.toV ρ' = r.res.toV ρ2 := by
    have := hs2.tm 0 r.res (by rw [lk_cons]; simp)
    simpa using this
  exact ⟨V, ρ2, by rw [hres], hs2.hp, hs.fr, hs2.own, hs2.base⟩
theorem spec_ok' {ro : Bool} {fs : FS} (hT : TsOk P T) (hΓ : GsOk P Γ) (hY : noY Γ = true) (hm : P.follows .mixedOrders = true) {f : FuncId} {fn : Func} (hf : P.funcs[f]? = some fn) (hb : fn.body.isSome = true) (hn : (fn.name == "runtime.NumGoroutine") = false)
    (hd : drawsOk P Γ (fn.body.getD .skip) = true) {n : Nat} (hlen : n ≤ fn.ntmps) {I : List SV → Heap → List (Nat × ISpec)} (hI : ∀ args h, IsOk P (I args h)) {A : List SV → Heap → List (Nat × Ann)}
    (hvc : ∀ args h r, fs args h = some r → args.length = n ∧ (r.pre → FVc T Γ (I args h) (A args h) fn args h r)) : SpecOk P f ro (specOf ro fs) := by
  obtain ⟨c, hc⟩ := Option.isSome_iff_exists.1 hb
  have hc' : fn.body.getD .skip = c := by rw [hc]; rfl
  refine spec_ok hT hΓ hY hm hI hf hc (by rw [← hc']; exact hd) ?_ (fun args h r hr => by rw [(hvc args h r hr).1]; exact hlen) (A := A) ?_
  · intro args w
    have hn' : ¬ fn.name = "runtime.NumGoroutine" := by simpa using hn
    simp [callFunc, hf, hn', hc]
  · intro args h r m hr hp hm
    subst hm
    have := ((hvc args h r hr).2 hp).out
    unfold FVcP at this
    rw [hc'] at this
    exact this
theorem spec_okR {ro : Bool} {fs : FR} (hT : TsOk P T) (hΓ : GsOk P Γ) (hY : noY Γ = true) (hm : P.follows .mixedOrders = true) {f : FuncId} {fn : Func} (hf : P.funcs[f]? = some fn) (hb : fn.body.isSome = true) (hn : (fn.name == "runtime.NumGoroutine") = false)
    (hd : drawsOk P Γ (fn.body.getD .skip) = true) {n : Nat} (hlen : n ≤ fn.ntmps) {I : List SV → Heap → List (Nat × ISpec)} (hI : ∀ args h, IsOk P (I args h)) {A : List SV → Heap → List (Nat × Ann)}
    (hvc : ∀ args h R, fs args h = some R → args.length = n ∧ (R.pre → FVcR T Γ (I args h) (A args h) fn args h R)) : SpecOk P f ro (specOfR ro fs) := by
  obtain ⟨c, hc⟩ := Option.isSome_iff_exists.1 hb
  have hc' : fn.body.getD .skip = c := by rw [hc]; rfl
  refine spec_ok_genR (fun args w => ?_) fun args' hh R ρc w hr hpre hcH => ?_
  · have hn' : ¬ fn.name = "runtime.NumGoroutine" := by simpa using hn
    simp [callFunc, hf, hn', hc]
  have hv := hvc args' hh R hr
  have hq := (hv.2 hpre).out
  unfold FVcRP at hq
  rw [hc'] at hq hd
  have hcalls := fun_sound hT hΓ hm hf hc hd (by rw [hv.1]; exact hlen) hq (ysOk_of hY) (hI _ _) hcH
  refine hcalls.mono fun e w' he => ?_
  obtain ⟨v, s, ρ', a', rfl, ⟨g, hpost, hsub⟩, hs⟩ := he
  refine ⟨g, hpost, ?_⟩
  generalize R.out g = r at hsub ⊢
  obtain ⟨V, hsub⟩ := outS_ex hsub
  have hs1 : Sym ⟨false, []⟩ w (foot ρc hh) 1 hh.length ρc ρ' ⟨[(0, v)], s.hp, s.nk⟩ { tmps := #[v.toV ρ'], defers := [] } w' := by
    refine ⟨fun t u hu => ?_, rfl, MarksOk.nil _ _ _, hs.hp, hs.fr, hs.own, hs.le, hs.base⟩
    rw [lk_cons] at hu
    split at hu
    · rename_i e; subst e; cases hu; rfl
    · simp [lk] at hu
  obtain ⟨ρ2, hs2⟩ := Sub_sound hsub hs1
  have hres : v.toV ρ' = r.res.toV ρ2 := by
    have := hs2.tm 0 r.res (by rw [lk_cons]; simp)
    simpa using this
  exact ⟨V, ρ2, by rw [hres], hs2.hp, hs.fr, hs2.own, hs2.base⟩
theorem enter_gen {f : FuncId} {fn : Func} (hf : P.funcs[f]? = some fn) (hb : fn.body.isSome = true) (hn : (fn.name == "runtime.NumGoroutine") = false) (args : Array Value) (w : World) : (callFunc f args).run P w = .ok (.enter f args) w := by
  obtain ⟨c, hc⟩ := Option.isSome_iff_exists.1 hb
  have hn' : ¬ fn.name = "runtime.NumGoroutine" := by simpa using hn
  simp [callFunc, hf, hn', hc]
def inlSpec (T : Tys) (Γ : Specs) (A : List SV → Heap → Nat → List (Nat × Ann)) (fn : Func) : Spec := fun args hp nk K =>
  bif Nat.ble args.length fn.ntmps then vcFun T Γ [] (A args hp nk) fn.ntmps fn.results.toList (fn.body.getD .skip) args hp nk (fun v s => K v s.hp s.nk) else False
theorem inl_ok (hT : TsOk P T) (hΓ : GsOk P Γ) (hY : noY Γ = true) (hm : P.follows .mixedOrders = true) {f : FuncId} {fn : Func} (hf : P.funcs[f]? = some fn) (hb : fn.body.isSome = true) (hn : (fn.name == "runtime.NumGoroutine") = false)
    (hd : drawsOk P Γ (fn.body.getD .skip) = true) (A : List SV → Heap → Nat → List (Nat × Ann)) : SpecOk P f false (inlSpec T Γ A fn) := by
  obtain ⟨c, hc⟩ := Option.isSome_iff_exists.1 hb
  have hc' : fn.body.getD .skip = c := by rw [hc]; rfl
  refine .fn (fun args w => ?_) (fun ρ hp nk w args K hh h => ?_)
  · have hn' : ¬ fn.name = "runtime.NumGoroutine" := by simpa using hn
    simp [callFunc, hf, hn', hc]
  · unfold inlSpec at h
    cases hlen : Nat.ble args.length fn.ntmps with
    | false => rw [hlen] at h; exact h.elim
    | true =>
      rw [hlen] at h
      simp only [cond_true] at h
      rw [hc'] at h hd
      refine (fun_sound hT hΓ hm hf hc hd (ble_le hlen) h (ysOk_of hY) isOk_nil hh).mono fun e w' he => ?_
      obtain ⟨v, s, ρ', a', rfl, hk, hs⟩ := he
      exact ⟨v, s.hp, s.nk, ρ', rfl, hk, hs.hp, hs.base, hs.le, hs.fr, hs.own, fun h => by cases h⟩
theorem lk_last {u v : Nat} {x y : Bool × Spec} {l : Specs} (hn : lk u l = none) (h : lk u (l ++ [(v, x)]) = some y) : u = v ∧ x = y := by
  rw [lk_append, hn] at h
  simp only [Option.none_or] at h
  rw [lk_cons] at h
  split at h
  · rename_i e; cases h; exact ⟨e, rfl⟩
  · simp [lk] at h
theorem yid_inj {a b : Nat} (h : yid a = yid b) : a = b := by
  unfold yid at h
  exact Nat.add_right_cancel h
theorem pid_yid {g key : Nat} (hg : g < 500000000) : pid g ≠ yid key := fun e => by
  have h1 : pid g < 1000000000 := Nat.add_lt_add_right (n := g) (m := 500000000) hg 500000000
  have h2 : 1000000000 ≤ yid key := Nat.le_add_left _ _
  rw [e] at h1
  exact absurd h1 (Nat.not_lt.2 h2)
theorem yid_ne {g key : Nat} (hg : g < 500000000) : g ≠ yid key := fun e => by
  have h2 : 1000000000 ≤ yid key := Nat.le_add_left _ _
  rw [← e] at h2
  omega
theorem pid_inj {a b : Nat} (h : pid a = pid b) : a = b := by
  unfold pid at h
  exact Nat.add_right_cancel h
theorem pid_le (f : Nat) : 500000000 ≤ pid f := Nat.le_add_left _ _
theorem lk_first {u v : Nat} {x y : Bool × Spec} {l : Specs} (h : lk u (l ++ [(v, x)]) = some y) : lk u l = some y ∨ u = v := by
  cases hl : lk u l with
  | some q => rw [lk_append, hl] at h; exact .inl h
  | none => exact .inr (lk_last hl h).1
theorem gsOk_yid {key : Nat} {x : Bool × Spec} (hΓ : GsOk P Γ) : GsOk P (Γ ++ [(yid key, x)]) := by
  refine ⟨fun g ro sp hg hl => ?_, fun g ro sp hg hl => ?_⟩
  · rcases lk_first hl with h | h
    · exact hΓ.1 g ro sp hg h
    · exact absurd h (yid_ne hg)
  · rcases lk_first hl with h | h
    · exact hΓ.2 g ro sp hg h
    · exact absurd h (pid_yid hg)
def inlI (T : Tys) (Γ : Specs) (A : List SV → Heap → Nat → List (Nat × Ann)) (fn : Func) : ISpec := fun key spec args hp nk K =>
  bif Nat.ble args.length fn.ntmps then vcFun T (Γ ++ [(yid key, (true, spec))]) [] (A args hp nk) fn.ntmps fn.results.toList (fn.body.getD .skip) args hp nk (fun v s => K v s.hp s.nk) else False
theorem inlI_ok (hT : TsOk P T) (hΓ : GsOk P Γ) (hY : noY Γ = true) (hm : P.follows .mixedOrders = true) {f : FuncId} {fn : Func} (hf : P.funcs[f]? = some fn) (hb : fn.body.isSome = true) (hn : (fn.name == "runtime.NumGoroutine") = false)
    (hd : ∀ key spec, drawsOk P (Γ ++ [(yid key, (true, spec))]) (fn.body.getD .skip) = true) (A : List SV → Heap → Nat → List (Nat × Ann)) : ISpecOk P f (inlI T Γ A fn) := by
  obtain ⟨c, hc⟩ := Option.isSome_iff_exists.1 hb
  have hc' : fn.body.getD .skip = c := by rw [hc]; rfl
  have hnone : ∀ g, lk (yid g) Γ = none := fun g => by
    cases hl : lk (yid g) Γ with
    | none => rfl
    | some p =>
      have := List.all_eq_true.1 hY _ (lk_mem hl)
      have h3 : g + 1000000000 < 1000000000 := blt_lt this
      omega
  refine ⟨fun args w => ?_, fun key spec ρ hp nk w args K hh hk hYk h => ?_⟩
  · have hn' : ¬ fn.name = "runtime.NumGoroutine" := by simpa using hn
    simp [callFunc, hf, hn', hc]
  · unfold inlI at h
    cases hlen : Nat.ble args.length fn.ntmps with
    | false => rw [hlen] at h; exact h.elim
    | true =>
      rw [hlen] at h
      simp only [cond_true] at h
      have hd' := hd key spec
      rw [hc'] at h hd'
      refine (fun_sound hT (Γ := Γ ++ [(yid key, (true, spec))]) ?_ hm hf hc hd' (ble_le hlen) h ?_ isOk_nil hh).mono fun e w' he => ?_
      · exact gsOk_yid hΓ
      · intro key' ro sp hl
        obtain ⟨e1, e2⟩ := lk_last (hnone key') hl
        have : key' = key := yid_inj e1
        subst this
        cases e2
        exact ⟨hk, hYk⟩
      · obtain ⟨v, s, ρ', a', rfl, hk, hs⟩ := he
        exact ⟨v, s.hp, s.nk, ρ', rfl, hk, hs.hp, hs.base, hs.le, hs.fr, hs.own⟩
theorem gsOk_nil : GsOk P [] := ⟨fun _ _ _ _ h => by simp [lk] at h, fun _ _ _ _ h => by simp [lk] at h⟩
theorem gsOk_cons {f : FuncId} {ro : Bool} {spec : Spec} {Γ : Specs} (h : SpecOk P f ro spec) (hΓ : GsOk P Γ) (hf : Nat.blt f 500000000 = true := by rfl) : GsOk P ((f, (ro, spec)) :: Γ) := by
  have hf := blt_lt hf
  refine ⟨fun g r s hg hl => ?_, fun g r s hg hl => ?_⟩
  · rw [lk_cons] at hl
    split at hl
    · rename_i e; subst e; cases hl; exact h
    · exact hΓ.1 g r s hg hl
  · rw [lk_cons] at hl
    split at hl
    · rename_i e; have := pid_le g; rw [e] at this; exact absurd hf (Nat.not_lt.2 this)
    · exact hΓ.2 g r s hg hl
theorem gsOk_consP {f : FuncId} {ro : Bool} {spec : Spec} {Γ : Specs} (h : PanOk P f spec) (hΓ : GsOk P Γ) : GsOk P ((pid f, (ro, spec)) :: Γ) := by
  refine ⟨fun g r s hg hl => ?_, fun g r s hg hl => ?_⟩
  · rw [lk_cons] at hl
    split at hl
    · rename_i e; have := pid_le f; rw [← e] at this; exact absurd hg (Nat.not_lt.2 this)
    · exact hΓ.1 g r s hg hl
  · rw [lk_cons] at hl
    split at hl
    · rename_i e
      have e2 : g = f := pid_inj e
      subst e2; cases hl; exact h
    · exact hΓ.2 g r s hg hl
def panSpec (T : Tys) (Γ : Specs) (A : List SV → Heap → Nat → List (Nat × Ann)) (fn : Func) : Spec := fun args hp nk K =>
  bif Nat.ble args.length fn.ntmps then vcFunP T Γ (A args hp nk) fn.ntmps fn.results.toList (fn.body.getD .skip) args hp nk K else False
theorem pan_ok (hT : TsOk P T) (hΓ : GsOk P Γ) (hY : noY Γ = true) (hm : P.follows .mixedOrders = true) {f : FuncId} {fn : Func} (hf : P.funcs[f]? = some fn) (hb : fn.body.isSome = true) (hn : (fn.name == "runtime.NumGoroutine") = false)
    (hd : drawsOk P Γ (fn.body.getD .skip) = true) (A : List SV → Heap → Nat → List (Nat × Ann)) : PanOk P f (panSpec T Γ A fn) := by
  obtain ⟨c, hc⟩ := Option.isSome_iff_exists.1 hb
  have hc' : fn.body.getD .skip = c := by rw [hc]; rfl
  refine ⟨fun args w => ?_, fun ρ hp nk w args K hh h => ?_⟩
  · have hn' : ¬ fn.name = "runtime.NumGoroutine" := by simpa using hn
    simp [callFunc, hf, hn', hc]
  · unfold panSpec at h
    cases hlen : Nat.ble args.length fn.ntmps with
    | false => rw [hlen] at h; exact h.elim
    | true =>
      rw [hlen] at h
      simp only [cond_true] at h
      rw [hc'] at h hd
      exact pan_sound hT hΓ hm hf hc hd (ble_le hlen) h (ysOk_of hY) hh
theorem rec_ok (hT : TsOk P T) (hΓ : GsOk P Γ) (hY : noY Γ = true) (hm : P.follows .mixedOrders = true) {f : FuncId} {fn : Func} (hf : P.funcs[f]? = some fn) (hb : fn.body.isSome = true) (hn : (fn.name == "runtime.NumGoroutine") = false)
    (hd : (match recOf (fn.body.getD .skip) with | some (_, _, c2) => drawsOk P Γ c2 | none => false) = true) (A : List SV → Heap → Nat → List (Nat × Ann)) : RecOk P f (recSpec T Γ A fn) := by
  obtain ⟨c, hc⟩ := Option.isSome_iff_exists.1 hb
  have hc' : fn.body.getD .skip = c := by rw [hc]; rfl
  refine ⟨fun args w => ?_, fun v u u2 hu ρ hp nk w args K hh h => ?_⟩
  · have hn' : ¬ fn.name = "runtime.NumGoroutine" := by simpa using hn
    simp [callFunc, hf, hn', hc]
  · rw [hc'] at hd
    exact rec_sound hT hΓ hm hf hc hd h hY hh hu
def inlD (T : Tys) (Γ : Specs) (A : List SV → Heap → Nat → List (Nat × Ann)) (F : FuncId) (dspec : Value → Spec) (fn : Func) : Spec := fun args hp nk K =>
  bif Nat.ble args.length fn.ntmps then vcFunD T Γ (A args hp nk) F dspec fn.ntmps fn.results.toList (fn.body.getD .skip) args hp nk (fun v s => K v s.hp s.nk) else False
theorem inlD_ok (hT : TsOk P T) (hΓ : GsOk P Γ) (hY : noY Γ = true) (hm : P.follows .mixedOrders = true) {f : FuncId} {fn : Func} (hf : P.funcs[f]? = some fn) (hb : fn.body.isSome = true) (hn : (fn.name == "runtime.NumGoroutine") = false)
    (hd : drawsD P Γ (fn.body.getD .skip) = true) (A : List SV → Heap → Nat → List (Nat × Ann)) {F : FuncId} {dspec : Value → Spec} (hF : RecOk P F dspec) : SpecOk P f false (inlD T Γ A F dspec fn) := by
  obtain ⟨c, hc⟩ := Option.isSome_iff_exists.1 hb
  have hc' : fn.body.getD .skip = c := by rw [hc]; rfl
  refine .fn (fun args w => ?_) (fun ρ hp nk w args K hh h => ?_)
  · have hn' : ¬ fn.name = "runtime.NumGoroutine" := by simpa using hn
    simp [callFunc, hf, hn', hc]
  · unfold inlD at h
    cases hlen : Nat.ble args.length fn.ntmps with
    | false => rw [hlen] at h; exact h.elim
    | true =>
      rw [hlen] at h
      simp only [cond_true] at h
      rw [hc'] at h hd
      refine (defer_sound hT hΓ hm hf hc hd hF (ble_le hlen) h hY hh).mono fun e w' he => ?_
      obtain ⟨v, s, ρ', a', rfl, hk, hs⟩ := he
      exact ⟨v, s.hp, s.nk, ρ', rfl, hk, hs.hp, hs.base, hs.le, hs.fr, hs.own, fun h => by cases h⟩
end
end Go.Vc
end
section
set_option linter.all false
set_option linter.unusedSimpArgs false
set_option linter.unusedVariables false
namespace Go.Ql
open Go Go.RowKit
theorem w64 {x : Int} (h1 : -9223372036854775808 ≤ x) (h2 : x ≤ 9223372036854775807) : IntKind.i64.wrap x = x := by
  rw [IntKind.wrap_i64]; omega
theorem wu8 {x : Int} (h1 : 0 ≤ x) (h2 : x ≤ 255) : IntKind.u8.wrap x = x := by
  unfold IntKind.wrap; simp [IntKind.bits, IntKind.signed]; omega
theorem wu16 {x : Int} (h1 : 0 ≤ x) (h2 : x ≤ 65535) : IntKind.u16.wrap x = x := by
  unfold IntKind.wrap; simp [IntKind.bits, IntKind.signed]; omega
theorem wu64 {x : Int} (h1 : 0 ≤ x) (h2 : x ≤ 18446744073709551615) : IntKind.u64.wrap x = x := by
  unfold IntKind.wrap; simp [IntKind.bits, IntKind.signed]; omega
theorem tmod_pos {a b : Int} (h : 0 ≤ a) : a.tmod b = a % b := Int.tmod_eq_emod_of_nonneg h
theorem tdiv_pos {a b : Int} (h : 0 ≤ a) : a.tdiv b = a / b := Int.tdiv_eq_ediv_of_nonneg h
theorem drop_get {α : Type} {xs : List α} {k : Nat} {x : α} (h : xs[k]? = some x) : xs.drop k = x :: xs.drop (k + 1) := by
  obtain ⟨hk, rfl⟩ := List.getElem?_eq_some_iff.1 h
  exact List.drop_eq_getElem_cons hk
theorem drop_end {α : Type} {xs : List α} {k : Nat} (h : xs.length ≤ k) : xs.drop k = [] := List.drop_of_length_le h
theorem take_get {α : Type} {xs : List α} {k : Nat} {x : α} (h : xs[k]? = some x) : xs.take (k + 1) = xs.take k ++ [x] := by
  obtain ⟨hk, rfl⟩ := List.getElem?_eq_some_iff.1 h
  exact List.take_succ_eq_append_getElem hk
theorem get_lt {α : Type} {xs : List α} {k : Nat} {x : α} (h : xs[k]? = some x) : k < xs.length := (List.getElem?_eq_some_iff.1 h).1
end Go.Ql
end
section
set_option linter.all false
set_option linter.unusedSimpArgs false
set_option linter.unusedVariables false
namespace Go.Vc
open Go Go.RowKit Go.Ql Go.Draw
section
variable {P : Program} {ρ : Nat → Value} {W : World}
def RoAll (ρ : Nat → Value) (W : World) : Heap → Prop
  | [] => True
  | (k, e) :: l => (e.own = false ∧ EntOk ρ W (ρ k) e) ∧ RoAll ρ W l
theorem RoAll.lk : ∀ {hp : Heap}, RoAll ρ W hp → ∀ {k : Nat} {e : Ent}, lk k hp = some e → e.own = false ∧ EntOk ρ W (ρ k) e
  | [], _, k, e, h => by simp [Vc.lk] at h
  | (j, d) :: l, hh, k, e, h => by
    rw [lk_cons] at h
    split at h
    · rename_i hk; subst hk; cases h; exact hh.1
    · exact RoAll.lk hh.2 h
theorem law_calls {f : FuncId} {fs : FS} (hent : ∀ args w, (callFunc f args).run P w = .ok (.enter f args) w) (h : SpecOk P f true (specOf true fs)) {args : List SV} {hp : Heap} (hone : ∀ k, (ρ k).oneCell' = true) (hro : RoAll ρ W hp) (E : Prop) (hE : E)
    (he : E = specOf true fs args hp hp.length (fun res _ _ => res = .bool true)) : Calls P f (toVs ρ args).toArray W fun e W' => e = .returned (.bool true) ∧ Below W.heap.size W W' := by
  have hs : specOf true fs args hp hp.length (fun res _ _ => res = .bool true) := he ▸ hE
  have hh : HOk ρ hp W := ⟨hone, fun k e hl => (hro.lk hl).2, fun k e k' e' hl hl' _ ho => by rw [(hro.lk hl).1] at ho; cases ho⟩
  cases h with
  | ext y =>
    obtain ⟨v, hv, _⟩ := y ρ hp hp.length W args _ hh hs
    rw [hent] at hv
    cases hv
  | fn enter calls =>
  refine (calls ρ hp hp.length W args _ hh hs).mono fun e W' hx => ?_
  obtain ⟨res, hp', nk', ρ', rfl, rfl, _, _, _, hfr, _, hold⟩ := hx
  refine ⟨by simp [SV.toV], ⟨hfr.os, hfr.tape, hfr.output, hfr.size, fun k hk => ?_⟩⟩
  exact (hold rfl).2 k hk
theorem ro_ints {A : Option Addr} {B c : Nat} {k : IntKind} {xs : List Int} (h : RowR (Value.int k) W B A xs ∧ xs.length ≤ c) : ROk W (.slice A xs.length c) (.ints k xs) := by
  refine ⟨A, c, rfl, h.2, fun h0 => ?_⟩
  obtain ⟨b, off, e, _, hc⟩ := h.1 h0
  refine ⟨b, off, e, fun j u hu => ?_⟩
  simp only [Row.cells, List.getElem?_map] at hu
  cases hx : xs[j]? with
  | none => rw [hx] at hu; cases hu
  | some x => rw [hx] at hu; cases hu; exact hc j x hx
theorem ro_bools {A : Option Addr} {B c : Nat} {xs : List Bool} (h : RowR Value.bool W B A xs ∧ xs.length ≤ c) : ROk W (.slice A xs.length c) (.bools xs) := by
  refine ⟨A, c, rfl, h.2, fun h0 => ?_⟩
  obtain ⟨b, off, e, _, hc⟩ := h.1 h0
  refine ⟨b, off, e, fun j u hu => ?_⟩
  simp only [Row.cells, List.getElem?_map] at hu
  cases hx : xs[j]? with
  | none => rw [hx] at hu; cases hu
  | some x => rw [hx] at hu; cases hu; exact hc j x hx
theorem ro_arcs {A : Option Addr} {B c : Nat} {xs : List Arc} (h : ArcsR W B A xs ∧ xs.length ≤ c) : ROk W (.slice A xs.length c) (.arcs xs) := by
  refine ⟨A, c, rfl, h.2, fun h0 => ?_⟩
  obtain ⟨b, off, e, _, hc⟩ := h.1 h0
  refine ⟨b, off, e, fun j u hu => ?_⟩
  have hlen : (Row.arcs xs).cells.length = xs.length * 5 := Row.cells_len (.arcs xs)
  have hj : j < xs.length * 5 := by rw [← hlen]; exact (List.getElem?_eq_some_iff.1 hu).1
  have hd : j / 5 < xs.length := by omega
  have hx := List.getElem?_eq_getElem hd
  have hat := hc (j / 5) _ hx
  have hfl := flat_get Arc.cells 5 (fun _ => rfl) xs (j / 5) _ hx (j % 5) (by omega)
  have hj2 : j / 5 * 5 + j % 5 = j := by omega
  rw [hj2] at hfl
  simp only [Row.cells] at hu
  rw [hu] at hfl
  obtain ⟨a0, a1, a2, a3, a4⟩ := hat
  have hm : j % 5 = 0 ∨ j % 5 = 1 ∨ j % 5 = 2 ∨ j % 5 = 3 ∨ j % 5 = 4 := by omega
  rcases hm with hm | hm | hm | hm | hm <;> rw [hm] at hfl <;> simp [Arc.cells] at hfl <;> subst hfl
  · rw [← a0]; congr 2; omega
  · rw [← a1]; congr 2; omega
  · rw [← a2]; congr 2; omega
  · rw [← a3]; congr 2; omega
  · rw [← a4]; congr 2; omega
end
end Go.Vc
end
