/-
  THE SYMBOLIC EXECUTOR IS SOUND, 8: loops, code, functions. No program in sight.
-/
import Derived.Test.YtnoocfcmlilffaaVc9
import Derived.Scope
set_option linter.all false
set_option linter.unusedSimpArgs false
set_option linter.unusedVariables false
namespace Go.Vc
open Go Go.RowKit Go.Ql Go.Draw

section
variable {P : Program} {T : Tys} {Γ : Specs} {w0 : World} {S0 : Nat → Prop} {N n0 : Nat} {ρ0 : Nat → Value} {ρ : Nat → Value} {s : St} {a : Act} {w : World}

mutual
theorem subV_sound {σ : KM} : ∀ {u v : SV}, subV σ u v → u.toV ρ = v.toV (fun k => ρ (kmap σ k))
  | .int k n, .int k' n', h => by
    simp only [subV] at h
    cases hk : kEq k k' with
    | false => rw [hk] at h; exact h.elim
    | true => rw [hk] at h; have := kEq_eq hk; subst this; simp only [cond_true] at h; subst h; simp [SV.toV]
  | .tt, .tt, _ => by simp [SV.toV]
  | .ff, .ff, _ => by simp [SV.toV]
  | .bool b, .bool b', h => by simp only [subV] at h; subst h; simp [SV.toV]
  | .tt, .bool b', h => by simp only [subV] at h; subst h; simp [SV.toV]
  | .ff, .bool b', h => by simp only [subV] at h; subst h; simp [SV.toV]
  | .row k, .row k', h => by
    simp only [subV] at h
    cases hk : Nat.beq k (kmap σ k') with
    | false => rw [hk] at h; exact h.elim
    | true => have := beq_eq hk; subst this; simp [SV.toV]
  | .ptr k w i f, .ptr k' w' i' f', h => by
    simp only [subV] at h
    cases hk : (Nat.beq k (kmap σ k') && Nat.beq w w' && Nat.beq f f') with
    | false => rw [hk] at h; exact h.elim
    | true =>
      rw [hk] at h
      simp only [Bool.and_eq_true] at hk
      have h1 := beq_eq hk.1.1
      have h2 := beq_eq hk.1.2
      have h3 := beq_eq hk.2
      simp only [cond_true] at h
      subst h1; subst h2; subst h3; subst h
      simp [SV.toV]
  | .agg l, .agg l', h => by simp only [subV] at h; simp only [SV.toV, subVs_sound h]
  | .tup l, .tup l', h => by simp only [subV] at h; simp only [SV.toV, subVs_sound h]
  | .fn f l, .fn f' l', h => by
    simp only [subV] at h
    cases hk : Nat.beq f f' with
    | false => rw [hk] at h; exact h.elim
    | true => rw [hk] at h; have := beq_eq hk; subst this; simp only [cond_true] at h; simp only [SV.toV, subVs_sound h]
  | .val v, .val v', h => by simp only [subV] at h; subst h; simp [SV.toV]
  | .int _ _, .tt, h => by simp [subV] at h
  | .int _ _, .ff, h => by simp [subV] at h
  | .int _ _, .bool _, h => by simp [subV] at h
  | .int _ _, .row _, h => by simp [subV] at h
  | .int _ _, .ptr _ _ _ _, h => by simp [subV] at h
  | .int _ _, .agg _, h => by simp [subV] at h
  | .int _ _, .tup _, h => by simp [subV] at h
  | .int _ _, .fn _ _, h => by simp [subV] at h
  | .int _ _, .val _, h => by simp [subV] at h
  | .tt, .int _ _, h => by simp [subV] at h
  | .tt, .ff, h => by simp [subV] at h
  | .tt, .row _, h => by simp [subV] at h
  | .tt, .ptr _ _ _ _, h => by simp [subV] at h
  | .tt, .agg _, h => by simp [subV] at h
  | .tt, .tup _, h => by simp [subV] at h
  | .tt, .fn _ _, h => by simp [subV] at h
  | .tt, .val _, h => by simp [subV] at h
  | .ff, .int _ _, h => by simp [subV] at h
  | .ff, .tt, h => by simp [subV] at h
  | .ff, .row _, h => by simp [subV] at h
  | .ff, .ptr _ _ _ _, h => by simp [subV] at h
  | .ff, .agg _, h => by simp [subV] at h
  | .ff, .tup _, h => by simp [subV] at h
  | .ff, .fn _ _, h => by simp [subV] at h
  | .ff, .val _, h => by simp [subV] at h
  | .bool _, .int _ _, h => by simp [subV] at h
  | .bool _, .tt, h => by simp [subV] at h
  | .bool _, .ff, h => by simp [subV] at h
  | .bool _, .row _, h => by simp [subV] at h
  | .bool _, .ptr _ _ _ _, h => by simp [subV] at h
  | .bool _, .agg _, h => by simp [subV] at h
  | .bool _, .tup _, h => by simp [subV] at h
  | .bool _, .fn _ _, h => by simp [subV] at h
  | .bool _, .val _, h => by simp [subV] at h
  | .row _, .int _ _, h => by simp [subV] at h
  | .row _, .tt, h => by simp [subV] at h
  | .row _, .ff, h => by simp [subV] at h
  | .row _, .bool _, h => by simp [subV] at h
  | .row _, .ptr _ _ _ _, h => by simp [subV] at h
  | .row _, .agg _, h => by simp [subV] at h
  | .row _, .tup _, h => by simp [subV] at h
  | .row _, .fn _ _, h => by simp [subV] at h
  | .row _, .val _, h => by simp [subV] at h
  | .ptr _ _ _ _, .int _ _, h => by simp [subV] at h
  | .ptr _ _ _ _, .tt, h => by simp [subV] at h
  | .ptr _ _ _ _, .ff, h => by simp [subV] at h
  | .ptr _ _ _ _, .bool _, h => by simp [subV] at h
  | .ptr _ _ _ _, .row _, h => by simp [subV] at h
  | .ptr _ _ _ _, .agg _, h => by simp [subV] at h
  | .ptr _ _ _ _, .tup _, h => by simp [subV] at h
  | .ptr _ _ _ _, .fn _ _, h => by simp [subV] at h
  | .ptr _ _ _ _, .val _, h => by simp [subV] at h
  | .agg _, .int _ _, h => by simp [subV] at h
  | .agg _, .tt, h => by simp [subV] at h
  | .agg _, .ff, h => by simp [subV] at h
  | .agg _, .bool _, h => by simp [subV] at h
  | .agg _, .row _, h => by simp [subV] at h
  | .agg _, .ptr _ _ _ _, h => by simp [subV] at h
  | .agg _, .tup _, h => by simp [subV] at h
  | .agg _, .fn _ _, h => by simp [subV] at h
  | .agg _, .val _, h => by simp [subV] at h
  | .tup _, .int _ _, h => by simp [subV] at h
  | .tup _, .tt, h => by simp [subV] at h
  | .tup _, .ff, h => by simp [subV] at h
  | .tup _, .bool _, h => by simp [subV] at h
  | .tup _, .row _, h => by simp [subV] at h
  | .tup _, .ptr _ _ _ _, h => by simp [subV] at h
  | .tup _, .agg _, h => by simp [subV] at h
  | .tup _, .fn _ _, h => by simp [subV] at h
  | .tup _, .val _, h => by simp [subV] at h
  | .fn _ _, .int _ _, h => by simp [subV] at h
  | .fn _ _, .tt, h => by simp [subV] at h
  | .fn _ _, .ff, h => by simp [subV] at h
  | .fn _ _, .bool _, h => by simp [subV] at h
  | .fn _ _, .row _, h => by simp [subV] at h
  | .fn _ _, .ptr _ _ _ _, h => by simp [subV] at h
  | .fn _ _, .agg _, h => by simp [subV] at h
  | .fn _ _, .tup _, h => by simp [subV] at h
  | .fn _ _, .val _, h => by simp [subV] at h
  | .val _, .int _ _, h => by simp [subV] at h
  | .val _, .tt, h => by simp [subV] at h
  | .val _, .ff, h => by simp [subV] at h
  | .val _, .bool _, h => by simp [subV] at h
  | .val _, .row _, h => by simp [subV] at h
  | .val _, .ptr _ _ _ _, h => by simp [subV] at h
  | .val _, .agg _, h => by simp [subV] at h
  | .val _, .tup _, h => by simp [subV] at h
  | .val _, .fn _ _, h => by simp [subV] at h
theorem subVs_sound {σ : KM} : ∀ {l m : List SV}, subVs σ l m → toVs ρ l = toVs (fun k => ρ (kmap σ k)) m
  | [], [], _ => by simp [toVs]
  | x :: l, y :: m, h => by simp only [subVs] at h; simp only [toVs, subV_sound h.1, subVs_sound h.2]
  | [], _ :: _, h => by simp [subVs] at h
  | _ :: _, [], h => by simp [subVs] at h
end

theorem subTm_lk {σ : KM} {tm : List (Nat × SV)} : ∀ {l : List (Nat × SV)}, subTm σ tm l → ∀ {t : Nat} {v : SV}, lk t l = some v → ∃ u, lk t tm = some u ∧ subV σ u v
  | [], _, t, v, h => by simp [lk] at h
  | (i, x) :: l, hh, t, v, h => by
    simp only [subTm] at hh
    split at hh
    · rename_i u hu
      rw [lk_cons] at h
      split at h
      · rename_i e; subst e; cases h; exact ⟨u, hu, hh.1⟩
      · exact subTm_lk hh.2 h
    · exact hh.elim
theorem subHp_lk {σ : KM} {hp : Heap} : ∀ {l : Heap}, subHp σ hp l → ∀ {k : Nat} {e : Ent}, lk k l = some e → ∃ d, lk (kmap σ k) hp = some d ∧ subE σ d e
  | [], _, t, v, h => by simp [lk] at h
  | (i, x) :: l, hh, t, v, h => by
    simp only [subHp] at hh
    split at hh
    · rename_i u hu
      rw [lk_cons] at h
      split at h
      · rename_i e; subst e; cases h; exact ⟨u, hu, hh.1⟩
      · exact subHp_lk hh.2 h
    · exact hh.elim
theorem subR_eq {r r' : Row} (h : subR r r') : r = r' := by
  cases r <;> cases r' <;> simp only [subR] at h <;> first
    | (exact h.elim)
    | (rw [h]; done)
    | skip
  rename_i k xs k' ys
  cases hk : kEq k k' with
  | false => rw [hk] at h; exact h.elim
  | true => rw [hk] at h; have := kEq_eq hk; subst this; simp only [cond_true] at h; rw [h]
theorem subE_cases {σ : KM} {d e : Ent} (h : subE σ d e) : (∃ t cs cs' o o', d = .box o t cs ∧ e = .box o' t cs' ∧ (o' = true → o = true) ∧ subVs σ cs cs') ∨ (∃ t r o, d = .row true t r ∧ e = .row o t r) ∨ (∃ t t' r, d = .row false t r ∧ e = .row false t' r) := by
  cases d with
  | box o t cs =>
    cases e with
    | box o' t' cs' =>
      cases o with
      | true =>
        simp only [subE] at h
        cases hk : Nat.beq t t' with
        | false => rw [hk] at h; exact h.elim
        | true => rw [hk] at h; have := beq_eq hk; subst this; exact .inl ⟨t, cs, cs', _, _, rfl, rfl, fun _ => rfl, h⟩
      | false =>
        cases o' with
        | true => simp [subE] at h
        | false =>
          simp only [subE] at h
          cases hk : Nat.beq t t' with
          | false => rw [hk] at h; exact h.elim
          | true => rw [hk] at h; have := beq_eq hk; subst this; exact .inl ⟨t, cs, cs', _, _, rfl, rfl, fun h => h, h⟩
    | row o t r => simp [subE] at h
  | row o t r =>
    cases e with
    | box o' t' cs' => cases o <;> simp [subE] at h
    | row o' t' r' =>
      cases o with
      | true =>
        simp only [subE] at h
        cases hk : Nat.beq t t' with
        | false => rw [hk] at h; exact h.elim
        | true => rw [hk] at h; have := beq_eq hk; subst this; simp only [cond_true] at h; have := subR_eq h; subst this; exact .inr (.inl ⟨t, r, o', rfl, rfl⟩)
      | false =>
        cases o' with
        | true => simp [subE] at h
        | false => simp only [subE] at h; have := subR_eq h; subst this; exact .inr (.inr ⟨t, t', r, rfl, rfl⟩)
theorem subE_ok {σ : KM} {d e : Ent} {v : Value} (h : subE σ d e) (hd : EntOk ρ w v d) : EntOk (fun k => ρ (kmap σ k)) w v e := by
  rcases subE_cases h with ⟨t, cs, cs', o, o', rfl, rfl, _, hs⟩ | ⟨t, r, o, rfl, rfl⟩ | ⟨t, t', r, rfl, rfl⟩
  · obtain ⟨g, hg, hh⟩ := hd
    exact ⟨g, hg, by rw [← subVs_sound hs]; exact hh⟩
  · cases o
    · exact own_readsAt hd
    · exact hd
  · exact hd
theorem subE_touch {σ : KM} {d e : Ent} {v : Value} {g : Nat} (h : subE σ d e) (ht : e.touch v g) : d.touch v g := by
  rcases subE_cases h with ⟨t, cs, cs', o, o', rfl, rfl, _, hs⟩ | ⟨t, r, o, rfl, rfl⟩ | ⟨t, t', r, rfl, rfl⟩
  · exact ht
  · cases o
    · exact ht.2
    · exact ht
  · exact ht
theorem subE_own {σ : KM} {d e : Ent} (h : subE σ d e) (ho : e.own = true) : d.own = true := by
  rcases subE_cases h with ⟨t, cs, cs', o, o', rfl, rfl, hoo, hs⟩ | ⟨t, r, o, rfl, rfl⟩ | ⟨t, t', r, rfl, rfl⟩
  · exact hoo ho
  · rfl
  · cases ho

theorem mapped_lk {σ : KM} : ∀ {l : Heap}, mapped σ l = true → ∀ {k : Nat} {e : Ent}, lk k l = some e → (k, kmap σ k) ∈ σ
  | [], _, t, v, h => by simp [lk] at h
  | (i, x) :: l, hh, t, v, h => by
    simp only [mapped, Bool.and_eq_true] at hh
    rw [lk_cons] at h
    split at h
    · rename_i e; subst e
      obtain ⟨y, hy⟩ := Option.isSome_iff_exists.1 hh.1
      have : kmap σ t = y := by simp [kmap, hy]
      rw [this]; exact lk_mem hy
    · exact mapped_lk hh.2 h
theorem injOwn_lk {σ : KM} : ∀ {l : Heap}, injOwn σ l = true → ∀ {k : Nat} {e : Ent}, lk k l = some e → e.own = true → ∀ j i, (j, i) ∈ σ → j ≠ k → i ≠ kmap σ k
  | [], _, t, v, h => by simp [lk] at h
  | (i, x) :: l, hh, t, v, h => by
    simp only [injOwn, Bool.and_eq_true] at hh
    rw [lk_cons] at h
    split at h
    · rename_i e; subst e; cases h
      intro ho j i hm hne
      rw [ho] at hh
      have := List.all_eq_true.1 hh.1 (j, i) hm
      simp only [Bool.or_eq_true, Bool.not_eq_true'] at this
      rcases this with h1 | h1
      · exact absurd (beq_eq h1) hne
      · exact beq_ne h1
    · exact injOwn_lk hh.2 h

theorem Sub_sound {s' : St} (h : Sub n0 s s') (hs : Sym w0 S0 N n0 ρ0 ρ s a w) : ∃ ρ', Sym w0 S0 N n0 ρ0 ρ' s' a w := by
  unfold Sub at h
  split at h
  · exact h.elim
  · split at h
    · exact h.elim
    · rename_i σ _ σ' _
      cases hb : (injOwn σ' s'.hp && mapped σ' s'.hp && pinned n0 σ' && Nat.ble n0 s'.nk) with
      | false => rw [hb] at h; exact h.elim
      | true =>
        rw [hb] at h
        simp only [cond_true] at h
        simp only [Bool.and_eq_true] at hb
        obtain ⟨⟨⟨b1, b2⟩, b3⟩, b4⟩ := hb
        obtain ⟨h1, h2⟩ := h
        refine ⟨fun k => ρ (kmap σ' k), fun t v hv => ?_, hs.size, hs.defers, ⟨fun k => hs.hp.one _, fun k e hl => ?_, fun k e k' e' hl hl' hne ho g ht => ?_⟩, hs.fr, fun k e hl ho g ht => ?_, ble_le b4, fun k hk => ?_⟩
        · obtain ⟨u, hu, hsub⟩ := subTm_lk h1 hv
          rw [hs.tm t u hu, subV_sound hsub]
        · obtain ⟨d, hd, hsub⟩ := subHp_lk h2 hl
          exact subE_ok hsub (hs.hp.ent _ d hd)
        · obtain ⟨d, hd, hsub⟩ := subHp_lk h2 hl
          obtain ⟨d', hd', hsub'⟩ := subHp_lk h2 hl'
          intro ht'
          have hne' := injOwn_lk b1 hl ho k' _ (mapped_lk b2 hl') (Ne.symm hne)
          exact hs.hp.sep _ d _ d' hd hd' (Ne.symm hne') (subE_own hsub ho) g (subE_touch hsub ht) (subE_touch hsub' ht')
        · obtain ⟨d, hd, hsub⟩ := subHp_lk h2 hl
          exact hs.own _ d hd (subE_own hsub ho) g (subE_touch hsub ht)
        · have : kmap σ' k = k := by
            unfold kmap
            cases hl : lk k σ' with
            | none => rfl
            | some y =>
              have := List.all_eq_true.1 b3 _ (lk_mem hl)
              simp only [Bool.or_eq_true] at this
              rcases this with h | h
              · have := ble_le h; omega
              · exact (beq_eq h).symm
          show ρ (kmap σ' k) = ρ0 k
          rw [this]; exact hs.base k hk

/-! ### code -/
theorem min_exists {p : Nat → Prop} (h : ∃ n, p n) : ∃ n, p n ∧ ∀ m, p m → n ≤ m := by
  obtain ⟨n, hn⟩ := h
  induction n using Nat.strongRecOn with
  | _ n ih =>
    by_cases hm : ∃ m, m < n ∧ p m
    · obtain ⟨m, hlt, hp⟩ := hm; exact ih m hlt hp
    · exact ⟨n, hn, fun m hp => Nat.le_of_not_lt fun hlt => hm ⟨m, hlt, hp⟩⟩

theorem wp_loop_ghost {c : Code} {Q : Exit → Act → World → Prop} {G : Type} (I : G → Act → World → Prop) (μ : G → Nat) {g : G} (h0 : I g a w)
    (round : ∀ g a w, I g a w → c.wp P (Exit.then (fun a' w' => ∃ g', I g' a' w' ∧ μ g' < μ g) Q) a w) : (Code.loop c).wp P Q a w := by
  classical
  let p : Act → World → Nat → Prop := fun a w n => ∃ g, I g a w ∧ μ g = n
  let m : Act → World → Nat := fun a w => if h : ∃ n, p a w n then Classical.choose (min_exists h) else 0
  have hm : ∀ a w, (∃ n, p a w n) → p a w (m a w) ∧ ∀ n, p a w n → m a w ≤ n := by
    intro a w h
    simp only [m, dif_pos h]
    exact Classical.choose_spec (min_exists h)
  refine wp_loop (fun a w => ∃ g, I g a w) m ⟨g, h0⟩ fun a w ⟨g, hg⟩ => ?_
  obtain ⟨⟨g1, hg1, e1⟩, _⟩ := hm a w ⟨_, g, hg, rfl⟩
  refine wp_mono (round g1 a w hg1) fun e a' w' hq => ?_
  cases e with
  | normal =>
    obtain ⟨g', hg', hlt⟩ := hq
    refine ⟨⟨g', hg'⟩, ?_⟩
    have := (hm a' w' ⟨_, g', hg', rfl⟩).2 _ ⟨g', hg', rfl⟩
    omega
  | _ => exact hq

theorem vcCode_sound (hT : TsOk P T) (hΓ : GsOk P Γ) (hm : P.follows .mixedOrders = true) {A : List (Nat × Ann)} : ∀ {c : Code}, drawsOk P Γ c = true → ∀ {s : St} {n r : St → Prop} {x : Nat → St → Prop}, vcCode T Γ N n0 A c s n r x →
    ∀ {ρ : Nat → Value} {a : Act} {w : World}, Sym w0 S0 N n0 ρ0 ρ s a w → ∀ {Q : Exit → Act → World → Prop}, (∀ s' ρ' a' w', Sym w0 S0 N n0 ρ0 ρ' s' a' w' → n s' → Q .normal a' w') →
    (∀ s' ρ' a' w', Sym w0 S0 N n0 ρ0 ρ' s' a' w' → r s' → Q .ret a' w') → (∀ id s' ρ' a' w', Sym w0 S0 N n0 ρ0 ρ' s' a' w' → x id s' → Q (.exit id) a' w') → c.wp P Q a w := by
  intro c
  induction c with
  | skip => intro _ s n r x h ρ a w hs Q hn hr hx; exact wp_skip (hn _ _ _ _ hs h)
  | label l => intro _ s n r x h ρ a w hs Q hn hr hx; exact wp_label (hn _ _ _ _ hs h)
  | ret => intro _ s n r x h ρ a w hs Q hn hr hx; exact wp_ret (hr _ _ _ _ hs h)
  | exit id => intro _ s n r x h ρ a w hs Q hn hr hx; exact wp_exit (hx id _ _ _ _ hs h)
  | seq c1 c2 ih1 ih2 =>
    intro hd s n r x h ρ a w hs Q hn hr hx
    simp only [drawsOk, Bool.and_eq_true] at hd
    simp only [vcCode] at h
    split at h
    · exact wp_seq (ih1 hd.1 h hs (fun s' ρ' a' w' hs' hk => ih2 hd.2 hk hs' hn hr hx) hr hx)
    · refine wp_seq (ih1 hd.1 h.1 hs (fun s' ρ' a' w' hs' hk => ?_) hr hx)
      obtain ⟨g, hg, hsub⟩ := hk
      obtain ⟨ρ2, hs2⟩ := Sub_sound hsub hs'
      exact ih2 hd.2 (h.2 g hg) hs2 hn hr hx
  | cond c c1 c2 ih1 ih2 =>
    intro hd s n r x h ρ a w hs Q hn hr hx
    simp only [drawsOk, Bool.and_eq_true] at hd
    simp only [vcCode] at h
    split at h
    · rename_i hv
      have he := ev_sound hs hv
      simp only [SV.toV] at he
      exact wp_cond_true he (ih1 hd.1 h hs hn hr hx)
    · rename_i hv
      have he := ev_sound hs hv
      simp only [SV.toV] at he
      exact wp_cond_false he (ih2 hd.2 h hs hn hr hx)
    · rename_i p hv
      have he := ev_sound hs hv
      simp only [SV.toV] at he
      exact wp_cond_split he (fun hp => ih1 hd.1 (h.1 hp) hs hn hr hx) (fun hp => ih2 hd.2 (h.2 hp) hs hn hr hx)
    · exact h.elim
  | block id b ih =>
    intro hd s n r x h ρ a w hs Q hn hr hx
    refine wp_block (ih hd h hs hn hr fun id' s' ρ' a' w' hs' hk => ?_)
    simp only [Exit.inBlock]
    cases hb : Nat.beq id' id with
    | true => rw [hb] at hk; rw [if_pos (beq_eq hb)]; exact hn _ _ _ _ hs' hk
    | false => rw [hb] at hk; rw [if_neg (beq_ne hb)]; exact hx _ _ _ _ _ hs' hk
  | loop b ih =>
    intro hd s n r x h ρ a w hs Q hn hr hx
    simp only [vcCode] at h
    split at h
    · rename_i ann hann
      obtain ⟨g, ⟨hp, hsub⟩, hround⟩ := h
      refine wp_loop_ghost (G := ann.G) (fun g' a w => ann.rel g g' ∧ ∃ ρ', Sym w0 S0 N n0 ρ0 ρ' (ann.inv g') a w) ann.meas (g := g) ⟨hp, Sub_sound hsub hs⟩ ?_
      rintro g a w ⟨hp, ρ', hs'⟩
      refine ih hd (hround g hp) hs' (fun s' ρ'' a' w' hs'' hk => ?_) hr hx
      obtain ⟨g', hp', hlt, hsub'⟩ := hk
      exact ⟨g', ⟨hp', Sub_sound hsub' hs''⟩, hlt⟩
    · exact h.elim
  | region id ops draw =>
    intro hd s n r x h ρ a w hs Q hn hr hx
    have hops : ops = ops.toList.toArray := by simp
    cases draw with
    | false =>
      simp only [vcCode] at h
      rw [hops]
      exact wp_region_lit (vcList_sound hT hΓ h hs hn)
    | true =>
      simp only [vcCode] at h
      simp only [drawsOk, regionOk, Bool.and_eq_true] at hd
      rw [hops]
      refine tree_spec (fl := flAt Γ ops.toList) (eag := eagAt Γ ops.toList) hd.1 (fun q hq => ?_) hm ?_
      · have hlt : q < ops.toList.length := by
          rcases Nat.lt_or_ge q ops.toList.length with h | h
          · exact h
          · unfold eagAt at hq; rw [List.getElem?_eq_none h] at hq; cases hq
        have := List.all_eq_true.1 hd.2 q (List.mem_range.2 hlt)
        simpa [hq] using this
      · have hs' : Sym w0 S0 N n0 ρ0 ρ s a w.drew := ⟨hs.tm, hs.size, hs.defers, ⟨hs.hp.one, fun k e hl => (hs.hp.ent k e hl).keep fun g _ => rfl, hs.hp.sep⟩, ⟨hs.fr.os, hs.fr.tape, hs.fr.output, hs.fr.size, hs.fr.block⟩, hs.own, hs.le, hs.base⟩
        have hsz : ops.toList.toArray.size = ops.toList.length := by simp
        rw [hsz]
        refine vcT_sound hT hΓ (fun s' ρ' a' w' hs'' hk => ?_) h hs'
        cases hp : plainS ops.toList s' ops.toList with
        | false => rw [hp] at hk; exact hk.elim
        | true =>
          rw [hp] at hk
          refine ⟨plainEnd_of ?_, hn s' ρ' a' w' hs'' hk⟩
          have := plainS_sound hs'' hp
          unfold plainB
          simpa using this
  | scope b ih =>
    intro hd s n r x h ρ a w hs Q hn hr hx
    exact wp_scope_straight (ih hd h hs hn hr hx)
  | goto l => intro _ s n r x h; exact h.elim
  | rangeFunc f ps as b ih1 ih2 => intro _ s n r x h; exact h.elim
  | refuse y => intro _ s n r x h; exact h.elim

/-! ### functions -/
theorem argTm_lk : ∀ {args : List SV} {i t : Nat} {v : SV}, lk t (argTm i args) = some v → i ≤ t ∧ args[t - i]? = some v
  | [], i, t, v, h => by simp [argTm, lk] at h
  | u :: l, i, t, v, h => by
    rw [argTm, lk_cons] at h
    split at h
    · rename_i e; subst e; cases h; simp
    · rename_i e
      obtain ⟨h1, h2⟩ := argTm_lk h
      refine ⟨by omega, ?_⟩
      rw [show t - i = (t - (i + 1)) + 1 by omega, List.getElem?_cons_succ]
      exact h2

def resF (tmps : Array Value) (r : ResultVar) : Sem Value := match r with | .tmp t => pure (tmps.getD t undef) | .cell p t => do loadVar t (← asAddr (tmps.getD p undef))
theorem mapM_step {tmps : Array Value} {r : ResultVar} {l : List ResultVar} {v : Value} {vs : List Value} (h1 : (resF tmps r).run P w = .ok v w) (h2 : (l.mapM (resF tmps) : Sem (List Value)).run P w = .ok vs w) :
    ((r :: l).mapM (resF tmps) : Sem (List Value)).run P w = .ok (v :: vs) w := by
  rw [List.mapM_cons]
  simp only [Sem.run_bind, h1, h2, Result.andThen_ok]
  rfl
theorem resS_sound (hT : TsOk P T) (hs : Sym w0 S0 N n0 ρ0 ρ s a w) : ∀ {l : List ResultVar} {K : List SV → Prop}, resS T s l K → ∃ vs, K vs ∧
    (l.mapM (resF a.tmps) : Sem (List Value)).run P w = .ok (toVs ρ vs) w
  | [], K, h => ⟨[], h, by simp [toVs]⟩
  | .tmp t :: l, K, h => by
    simp only [resS] at h
    split at h
    · rename_i v hv
      obtain ⟨vs, hk, hr⟩ := resS_sound hT hs h
      refine ⟨_, hk, ?_⟩
      have := hs.tm t v hv
      exact mapM_step (by simp [resF, Array.getD_eq_getD_getElem?, this]) hr
    · exact h.elim
  | .cell t ty :: l, K, h => by
    simp only [resS] at h
    split at h
    · rename_i key wd idx fld ti hv hti
      have ht := hT _ _ hti
      have hp := hs.tm t _ hv
      simp only [SV.toV] at hp
      obtain ⟨cs, h, hlen, hc⟩ := rd_sound h hs.hp
      cases hg : ti.agg with
      | true =>
        rw [hg] at h
        simp only [cond_true] at h
        have hl := run_loadCells_list (P := P) w ⟨(addrOf (ρ key)).block, (addrOf (ρ key)).off + (idx * wd + fld), none⟩ (toVs ρ cs) (fun j v hj => by
          rw [toVs_eq, List.getElem?_map] at hj
          cases hu : cs[j]? with
          | none => rw [hu] at hj; cases hj
          | some u =>
            rw [hu] at hj; cases hj
            rw [Addr.add_lit]
            exact hc j u hu)
        rw [show (toVs ρ cs).length = ti.zs.length by rw [toVs_eq, List.length_map, hlen]] at hl
        obtain ⟨vs, hk, hr⟩ := resS_sound hT hs h
        refine ⟨_, hk, ?_⟩
        exact mapM_step (by simp [resF, Array.getD_eq_getD_getElem?, hp, asAddr, loadVar, ht.run_isAgg, hg, ht.run_size, hl, SV.toV]) hr
      | false =>
        rw [hg] at h
        simp only [cond_false] at h
        cases cs with
        | nil => exact h.elim
        | cons c cs =>
          cases cs with
          | cons _ _ => exact h.elim
          | nil =>
            obtain ⟨vs, hk, hr⟩ := resS_sound hT hs h
            refine ⟨_, hk, ?_⟩
            have := hc 0 c rfl
            simp only [Nat.add_zero] at this
            exact mapM_step (by simp [resF, Array.getD_eq_getD_getElem?, hp, asAddr, loadVar, ht.run_isAgg, hg, run_load, this]) hr
    · exact h.elim

theorem results_sound {fn : Func} {vs : List SV} (hr : (fn.results.toList.mapM (resF a.tmps) : Sem (List Value)).run P w = .ok (toVs ρ vs) w) :
    (results fn a.tmps).run P w = .ok ((oneRes vs).toV ρ) w := by
  have hres : results fn a.tmps = (do let vs ← fn.results.mapM (resF a.tmps); pure (if h : vs.size = 1 then vs[0] else .tuple vs)) := rfl
  rw [hres, Array.mapM_eq_mapM_toList]
  simp only [Sem.run_bind]
  have e : (List.toArray <$> (fn.results.toList.mapM (resF a.tmps) : Sem (List Value))).run P w = .ok (toVs ρ vs).toArray w := by
    simp [hr]
  rw [e]
  simp only [Result.andThen_ok]
  match vs with
  | [] => simp [toVs, oneRes, SV.toV]
  | [v] => simp [toVs, oneRes]
  | v :: u :: l => simp [toVs, oneRes, SV.toV]

/-- A FUNCTION: what its code asks for gives what a call of it leaves. -/
theorem fun_sound (hT : TsOk P T) (hΓ : GsOk P Γ) (hm : P.follows .mixedOrders = true) {A : List (Nat × Ann)} {f : FuncId} {fn : Func} {c : Code} (hf : P.funcs[f]? = some fn) (hb : fn.body = some c) (hd : drawsOk P Γ c = true)
    {args : List SV} (hargs : args.length ≤ fn.ntmps) {hp : Heap} {nk : Nat} {R : SV → St → Prop} (h : vcFun T Γ A fn.ntmps fn.results.toList c args hp nk R) {ρ : Nat → Value} {w : World} (hh : HOk ρ hp w) :
    Calls P f (toVs ρ args).toArray w fun e w' => ∃ v s ρ' a', e = .returned (v.toV ρ') ∧ R v s ∧ Sym w (Owned ρ hp) fn.ntmps nk ρ ρ' s a' w' := by
  refine calls_of_wp hf hb ?_
  have hlen : (toVs ρ args).length = args.length := by simp [toVs_eq]
  have hs : Sym w (Owned ρ hp) fn.ntmps nk ρ ρ ⟨argTm 0 args, hp, nk⟩ { tmps := (toVs ρ args).toArray ++ Array.replicate (fn.ntmps - (toVs ρ args).toArray.size) undef, defers := [] } w := by
    refine ⟨fun t v hv => ?_, by simp [hlen]; omega, rfl, hh, Fr.refl _ _, fun k e hl ho g ht => .inl ⟨k, e, hl, ho, ht⟩, Nat.le_refl _, fun _ _ => rfl⟩
    obtain ⟨_, h2⟩ := argTm_lk hv
    simp only [Nat.sub_zero] at h2
    have hlt : t < args.length := (List.getElem?_eq_some_iff.1 h2).1
    rw [Array.getElem?_append_left (by simp [hlen, hlt])]
    simp [toVs_eq, h2]
  have fin : ∀ s' ρ' a' w', Sym w (Owned ρ hp) fn.ntmps nk ρ ρ' s' a' w' → resS T s' fn.results.toList (fun vs => R (oneRes vs) s') → a'.defers = [] ∧ ∃ v, (results fn a'.tmps).run P w' = .ok v w' ∧ ∃ v' s ρ' a', Ending.returned v = .returned (v'.toV ρ') ∧ R v' s ∧ Sym w (Owned ρ hp) fn.ntmps nk ρ ρ' s a' w' := by
    intro s' ρ' a' w' hs' hk
    obtain ⟨vs, hk, hr⟩ := resS_sound hT hs' hk
    exact ⟨hs'.defers, _, results_sound hr, _, s', ρ', a', rfl, hk, hs'⟩
  unfold vcFun at h
  exact vcCode_sound hT hΓ hm hd h hs (fun s' ρ' a' w' hs' hk => fin s' ρ' a' w' hs' hk) (fun s' ρ' a' w' hs' hk => fin s' ρ' a' w' hs' hk) (fun _ _ _ _ _ _ hk => hk.elim)
end
end Go.Vc
