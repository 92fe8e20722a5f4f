/-
  THE SYMBOLIC EXECUTOR IS SOUND: parts of rows (s[a:b]), copy. No program in sight.
-/
import Derived.Test.YtnoocfcmlilffaaVc8
set_option linter.all false
set_option linter.unusedSimpArgs false
set_option linter.unusedVariables false
namespace Go.Vc
open Go Go.RowKit Go.Ql Go.Draw

section
variable {P : Program} {T : Tys} {w0 : World} {S0 : Nat → Prop} {N n0 : Nat} {ρ0 : Nat → Value} {ρ : Nat → Value} {s : St} {a : Act} {w : World}

theorem flat_take {α : Type} (f : α → List Value) (n : Nat) (hf : ∀ x, (f x).length = n) : ∀ (xs : List α) (h : Nat), (xs.take h).flatMap f = (xs.flatMap f).take (h * n)
  | [], h => by simp
  | x :: xs, 0 => by simp
  | x :: xs, h + 1 => by
    rw [List.take_succ_cons, List.flatMap_cons, List.flatMap_cons, flat_take f n hf xs h, List.take_append, hf, Nat.add_mul, Nat.one_mul, Nat.add_sub_cancel, List.take_of_length_le (l := f x) (by rw [hf]; omega)]
theorem flat_drop {α : Type} (f : α → List Value) (n : Nat) (hf : ∀ x, (f x).length = n) : ∀ (xs : List α) (h : Nat), (xs.drop h).flatMap f = (xs.flatMap f).drop (h * n)
  | [], h => by simp
  | x :: xs, 0 => by simp
  | x :: xs, h + 1 => by
    rw [List.drop_succ_cons, List.flatMap_cons, flat_drop f n hf xs h, List.drop_append, hf, Nat.add_mul, Nat.one_mul, Nat.add_sub_cancel, List.drop_of_length_le (l := f x) (by rw [hf]; omega), List.nil_append]
theorem sub_cells (r : Row) (l h : Nat) : (r.sub l h).cells = (r.cells.take (h * r.width)).drop (l * r.width) := by
  cases r with
  | ints k xs => simp only [Row.sub, Row.cells, Row.width, map_flat]; rw [flat_drop _ 1 (fun _ => rfl), flat_take _ 1 (fun _ => rfl)]
  | bools xs => simp only [Row.sub, Row.cells, Row.width, map_flat]; rw [flat_drop _ 1 (fun _ => rfl), flat_take _ 1 (fun _ => rfl)]
  | arcs xs => simp only [Row.sub, Row.cells, Row.width]; rw [flat_drop _ 5 (fun _ => rfl), flat_take _ 5 (fun _ => rfl)]
  | wides xs => simp only [Row.sub, Row.cells, Row.width]; rw [flat_drop _ 2 (fun _ => rfl), flat_take _ 2 (fun _ => rfl)]
theorem sub_len (r : Row) (l h : Nat) : (r.sub l h).len = min h r.len - l := by cases r <;> simp [Row.sub, Row.len]
theorem sub_width (r : Row) (l h : Nat) : (r.sub l h).width = r.width := by cases r <;> rfl
theorem over_sound {r1 r2 r : Row} (h : r1.over r2 = some r) : r.cells = r2.cells.take (r1.len * r1.width) ++ r1.cells.drop (r2.len * r1.width) ∧ r.len = r1.len ∧ r.width = r1.width ∧ r2.width = r1.width := by
  cases r1 <;> cases r2 <;> simp only [Row.over] at h <;> first
    | (cases h; done)
    | skip
  · rename_i k xs k' ys
    cases hk : kEq k k' with
    | false => rw [hk] at h; cases h
    | true =>
      rw [hk] at h
      have := kEq_eq hk
      subst this
      cases h
      simp only [Row.cells, Row.len, Row.width, Nat.mul_one, List.map_append, List.map_take, List.map_drop, List.length_append, List.length_take, List.length_drop, and_true, true_and]
      omega
  · rename_i xs ys
    cases h
    simp only [Row.cells, Row.len, Row.width, Nat.mul_one, List.map_append, List.map_take, List.map_drop, List.length_append, List.length_take, List.length_drop, and_true, true_and]
    omega
  · rename_i xs ys
    cases h
    simp only [Row.cells, Row.len, Row.width, List.flatMap_append, List.length_append, List.length_take, List.length_drop, and_true]
    rw [flat_take _ 5 (fun _ => rfl), flat_drop _ 5 (fun _ => rfl)]
    exact ⟨rfl, by omega⟩
  · rename_i xs ys
    cases h
    simp only [Row.cells, Row.len, Row.width, List.flatMap_append, List.length_append, List.length_take, List.length_drop, and_true]
    rw [flat_take _ 2 (fun _ => rfl), flat_drop _ 2 (fun _ => rfl)]
    exact ⟨rfl, by omega⟩

/-- a row is read only from now on -/
theorem Sym.freeze (h : Sym w0 S0 N n0 ρ0 ρ s a w) {k : Nat} {o : Bool} {t : TypeId} {r : Row} (hl : lk k s.hp = some (.row o t r)) : Sym w0 S0 N n0 ρ0 ρ { s with hp := Vc.put k (.row false t r) s.hp } a w := by
  have ht : ∀ g, Ent.touch (.row false t r) (ρ k) g → Ent.touch (.row o t r) (ρ k) g := fun g hg => by cases o <;> first | exact hg | exact hg.2
  refine ⟨h.tm, h.size, h.defers, ⟨h.hp.one, fun j d hj => ?_, fun j d j' d' hj hj' hne hod g htg => ?_⟩, h.fr, fun j d hj hod g htg => ?_, h.le, h.base⟩
  · simp only [lk_put] at hj
    split at hj
    · rename_i e; subst e; cases hj; exact (h.hp.ent j _ hl).reads
    · exact h.hp.ent j d hj
  · simp only [lk_put] at hj hj'
    split at hj
    · cases hj; cases hod
    · split at hj'
      · rename_i e1 e2; subst e2; cases hj'
        intro hh
        exact h.hp.sep j d j' _ hj hl hne hod g htg (ht g hh)
      · exact h.hp.sep j d j' d' hj hj' hne hod g htg
  · simp only [lk_put] at hj
    split at hj
    · cases hj; cases hod
    · exact h.own j d hj hod g htg

/-- one more key for what is read only -/
theorem Sym.alias (h : Sym w0 S0 N n0 ρ0 ρ s a w) (hk : s.kb = true) {k : Nat} {t e : TypeId} {r r' : Row} {v : Value} (hl : lk k s.hp = some (.row false t r)) (hone : v.oneCell' = true) (hR : ROk w v r')
    (ht : ∀ g, 0 < r'.len → v.ownBlock = some g → 0 < r.len ∧ (ρ k).ownBlock = some g) :
    Sym w0 S0 N n0 ρ0 (fun j => if j = s.nk then v else ρ j) { tm := s.tm, hp := (s.nk, .row false e r') :: s.hp, nk := s.nk + 1 } a w := by
  have hρ : ∀ j, j < s.nk → (fun j => if j = s.nk then v else ρ j) j = ρ j := fun j hj => by simp; omega
  have hold : ∀ j d, lk j s.hp = some d → j ≠ s.nk := fun j d hj => by have := (s.kb_hp hk hj).1; omega
  refine ⟨fun t v hv => ?_, h.size, h.defers, ⟨fun j => ?_, fun j d hj => ?_, fun j d j' d' hj hj' hne hod g htg => ?_⟩, h.fr, fun j d hj hod g htg => ?_, Nat.le_succ_of_le h.le, fun k hk => (hρ k (Nat.lt_of_lt_of_le hk h.le)).trans (h.base k hk)⟩
  · rw [h.tm t v hv, toV_congr hρ v (s.kb_tm hk hv)]
  · split
    · exact hone
    · exact h.hp.one j
  · rw [lk_cons] at hj
    split at hj
    · rename_i e1; subst e1; cases hj; simp only [if_true]; exact hR
    · simp only [hold j d hj, if_false]
      exact (h.hp.ent j d hj).congr (s.kb_hp hk hj).2 hρ
  · rw [lk_cons] at hj hj'
    split at hj
    · cases hj; cases hod
    · simp only [hold j d hj, if_false] at htg
      split at hj'
      · rename_i e2; subst e2; cases hj'
        simp only [if_true]
        intro hh
        have := ht g hh.1 hh.2
        by_cases hjk : j = k
        · subst hjk; rw [hl] at hj; cases hj; cases hod
        · exact h.hp.sep j d k _ hj hl hjk hod g htg this
      · simp only [hold j' d' hj', if_false]
        exact h.hp.sep j d j' d' hj hj' hne hod g htg
  · rw [lk_cons] at hj
    split at hj
    · cases hj; cases hod
    · simp only [hold j d hj, if_false] at htg
      exact h.own j d hj hod g htg

theorem bnd_sound (hs : Sym w0 S0 N n0 ρ0 ρ s a w) {d n : Int} {o : Option Operand} (h : bnd s d o = some n) : (o = none ∧ n = d) ∨ ∃ x k, o = some x ∧ a.eval x = .int k n := by
  cases o with
  | none => cases h; exact .inl ⟨rfl, rfl⟩
  | some x =>
    simp only [bnd] at h
    split at h
    · rename_i k m hv
      cases h
      have := ev_sound hs hv
      simp only [SV.toV] at this
      exact .inr ⟨x, k, rfl, this⟩
    · cases h

theorem run_sliceBound {k : IntKind} {n : Int} {y : Nat} {code : BoundsCode} (h0 : 0 ≤ n) (h1 : n ≤ y) : (Instr.sliceBound (.int k n) y code).run P w = .ok n.toNat w := by
  simp [Instr.sliceBound, asIntOf, h0, h1]

/-- how a slice expression runs -/
theorem run_slice {t e : TypeId} {i : TypeInfo} (hu : P.underlying t = some (.slice e)) (hi : P.info? e = some i) {A : Option Addr} {len cap : Nat} (hlc : len ≤ cap) {low high max : Option Value} {l h m : Int}
    (hl : (low = none ∧ l = 0) ∨ ∃ k, low = some (.int k l)) (hh : (high = none ∧ h = len) ∨ ∃ k, high = some (.int k h)) (hm : (max = none ∧ m = len) ∨ ∃ k, max = some (.int k m)) (hhm : max.isSome = true → high.isSome = true)
    (h0 : 0 ≤ l) (h1 : l ≤ h) (h2 : h ≤ m) (h3 : m ≤ len) :
    ∃ M : Nat, h.toNat ≤ M ∧ (max = none → M = cap) ∧ (Instr.slice t (.slice A len cap) low high max).run P w = .ok (.slice (if M = l.toNat then A else A.map (·.add (l.toNat * i.size))) (h.toNat - l.toNat) (M - l.toNat)) w := by
  rcases hm with ⟨rfl, rfl⟩ | ⟨km, rfl⟩
  · refine ⟨cap, by omega, fun _ => rfl, ?_⟩
    rcases hh with ⟨rfl, rfl⟩ | ⟨kh, rfl⟩
    · rcases hl with ⟨rfl, rfl⟩ | ⟨kl, rfl⟩
      · simp [Instr.slice, run_underlying hu, Instr.sliceBounds, sizeOf, typeInfo, hi]
      · simp [Instr.slice, run_underlying hu, Instr.sliceBounds, run_sliceBound h0 h1, sizeOf, typeInfo, hi]
    · have b1 : h ≤ ((cap : Nat) : Int) := by omega
      have b0 : 0 ≤ h := by omega
      rcases hl with ⟨rfl, rfl⟩ | ⟨kl, rfl⟩
      · simp [Instr.slice, run_underlying hu, Instr.sliceBounds, run_sliceBound b0 b1, sizeOf, typeInfo, hi]
      · have b2 : l ≤ ((h.toNat : Nat) : Int) := by omega
        simp [Instr.slice, run_underlying hu, Instr.sliceBounds, run_sliceBound b0 b1, run_sliceBound h0 b2, sizeOf, typeInfo, hi]
  · refine ⟨m.toNat, by omega, (fun e => by cases e), ?_⟩
    have c1 : m ≤ ((cap : Nat) : Int) := by omega
    have c0 : 0 ≤ m := by omega
    have b1 : h ≤ ((m.toNat : Nat) : Int) := by omega
    have b0 : 0 ≤ h := by omega
    rcases hh with ⟨rfl, rfl⟩ | ⟨kh, rfl⟩
    · cases hhm rfl
    · rcases hl with ⟨rfl, rfl⟩ | ⟨kl, rfl⟩
      · simp [Instr.slice, run_underlying hu, Instr.sliceBounds, run_sliceBound c0 c1, run_sliceBound b0 b1, sizeOf, typeInfo, hi]
      · have b2 : l ≤ ((h.toNat : Nat) : Int) := by omega
        simp [Instr.slice, run_underlying hu, Instr.sliceBounds, run_sliceBound c0 c1, run_sliceBound b0 b1, run_sliceBound h0 b2, sizeOf, typeInfo, hi]

theorem sliceS_sound (hT : TsOk P T) {t : TypeId} {x : SV} {low high max : Option Operand} {K : SV → St → Prop} (h : sliceS T s t x low high max K) (hs : Sym w0 S0 N n0 ρ0 ρ s a w) :
    ∃ v s' ρ', K v s' ∧ Sym w0 S0 N n0 ρ0 ρ' s' a w ∧ (Instr.sliceAt t (x.toV ρ) (low.map a.eval) (high.map a.eval) (max.map a.eval)).run P w = .ok (v.toV ρ') w := by
  unfold sliceS at h
  split at h
  · rename_i zs ag fs e rk bt ik eqs key hti
    split at h
    · rename_i own tx r hl
      cases hb : (s.kb && Nat.beq rk.width r.width && Nat.blt key s.nk && (max.isNone || high.isSome)) with
      | false => rw [hb] at h; exact h.elim
      | true =>
        rw [hb] at h
        simp only [cond_true] at h
        simp only [Bool.and_eq_true] at hb
        obtain ⟨⟨⟨k1, k2⟩, k3⟩, k4⟩ := hb
        have k2 := beq_eq k2
        split at h
        · rename_i l hi m hlow hhigh hmax
          obtain ⟨⟨c0, c1, c2, c3⟩, h⟩ := h
          obtain ⟨hu, hb64, i, hie, hz, hsz, hby⟩ := sl_info hT hti rfl
          obtain ⟨A, c, hv, hlc, hA⟩ := EntOk.reads (hs.hp.ent key _ hl)
          have q1 : (low.map a.eval = none ∧ l = 0) ∨ ∃ k, low.map a.eval = some (.int k l) := by
            rcases bnd_sound hs hlow with ⟨rfl, rfl⟩ | ⟨x, k, rfl, hx⟩
            · exact .inl ⟨rfl, rfl⟩
            · exact .inr ⟨k, by simp [hx]⟩
          have q2 : (high.map a.eval = none ∧ hi = r.len) ∨ ∃ k, high.map a.eval = some (.int k hi) := by
            rcases bnd_sound hs hhigh with ⟨rfl, rfl⟩ | ⟨x, k, rfl, hx⟩
            · exact .inl ⟨rfl, rfl⟩
            · exact .inr ⟨k, by simp [hx]⟩
          have q3 : (max.map a.eval = none ∧ m = r.len) ∨ ∃ k, max.map a.eval = some (.int k m) := by
            rcases bnd_sound hs hmax with ⟨rfl, rfl⟩ | ⟨x, k, rfl, hx⟩
            · exact .inl ⟨rfl, rfl⟩
            · exact .inr ⟨k, by simp [hx]⟩
          obtain ⟨M, hM, hMc, hrun⟩ := run_slice (P := P) (w := w) hu hie (A := A) hlc q1 q2 q3 (by
            intro h; cases max with
            | none => simp at h
            | some y => cases high with
              | none => simp at k4
              | some z => simp) c0 c1 c2 c3
          rw [hsz, k2] at hrun
          simp only [SV.toV]
          have hat : ∀ X : Value, (Instr.sliceAt t X (low.map a.eval) (high.map a.eval) (max.map a.eval)).run P w = (Instr.slice t X (low.map a.eval) (high.map a.eval) (max.map a.eval)).run P w := fun X => by simp [Instr.sliceAt, run_underlying hu]
          rw [hv, hat, hrun]
          cases hd : (own && low.isNone && max.isNone && Nat.beq tx e) with
          | true =>
            rw [hd] at h
            simp only [cond_true] at h
            simp only [Bool.and_eq_true] at hd
            obtain ⟨⟨⟨d1, d2⟩, d3⟩, d4⟩ := hd
            have d4 := beq_eq d4
            subst d1; subst d4
            have hl0 : l = 0 := by
              cases low with
              | none => cases hlow; rfl
              | some y => cases d2
            subst hl0
            have hMc := hMc (by cases max with | none => rfl | some y => cases d3)
            subst hMc
            have hadd : (if M = (0 : Int).toNat then A else A.map (·.add ((0 : Int).toNat * r.width))) = A := by
              split
              · rfl
              · cases A with
                | none => rfl
                | some ad => simp [Addr.add]
            rw [hadd]
            have e1 : w.ownsRow 0 tx r.width (ρ key) r.len r.cells := hs.hp.ent key _ hl
            refine ⟨_, _, _, h, hs.move k1 hl rfl (row := none) (grownBy_refl w none) (fun g hg => by cases hg) (v' := .slice A hi.toNat M) rfl (e' := .row true tx (r.sub 0 hi.toNat)) rfl ?_ (fun g hg => .inl ?_), ?_⟩
            · show w.ownsRow 0 tx _ _ _ _
              rw [sub_width, sub_len, sub_cells, show min hi.toNat r.len - 0 = hi.toNat by omega, Nat.zero_mul, List.drop_zero]
              refine ⟨by rw [List.length_take, Row.cells_len]; have : hi.toNat * r.width ≤ r.len * r.width := Nat.mul_le_mul_right _ (by omega); omega, ?_⟩
              rw [hv] at e1
              rcases e1.2 with ⟨e2, e3⟩ | ⟨g, cap, cur, e2, hbg, hheap, hn, hc, hcs, htake⟩
              · simp only [Value.slice.injEq] at e2
                obtain ⟨rfl, e5, rfl⟩ := e2
                left
                have : hi.toNat = 0 := by omega
                rw [this]; exact ⟨rfl, rfl⟩
              · simp only [Value.slice.injEq] at e2
                obtain ⟨rfl, e5, rfl⟩ := e2
                right
                refine ⟨g, M, cur, rfl, hbg, hheap, by omega, hc, hcs, ?_⟩
                rw [← htake, List.take_take, Nat.min_eq_left (Nat.mul_le_mul_right _ (by omega))]
            · show (ρ key).ownBlock = some g
              rw [hv]
              cases A with
              | none => exact hg
              | some ad => exact hg
            · simp [SV.toV]
          | false =>
            rw [hd] at h
            simp only [cond_false] at h
            have hs1 := hs.freeze hl
            have hl1 : lk key (Vc.put key (.row false tx r) s.hp) = some (.row false tx r) := lk_put_same
            have hkb : ({ s with hp := Vc.put key (.row false tx r) s.hp } : St).kb = true := by
              unfold St.kb at k1 ⊢
              simp only [Bool.and_eq_true] at k1 ⊢
              refine ⟨k1.1, ?_⟩
              have : ∀ hp : Heap, hpBelow s.nk hp = true → hpBelow s.nk (Vc.put key (.row false tx r) hp) = true := by
                intro hp
                induction hp with
                | nil => intro _; simp [Vc.put, hpBelow, k3, Ent.kb]
                | cons p q ih =>
                  obtain ⟨j, d⟩ := p
                  intro hh
                  simp only [hpBelow, Bool.and_eq_true] at hh
                  rw [put_cons]
                  split
                  · simp [hpBelow, k3, Ent.kb, hh.2]
                  · simp [hpBelow, hh.1.1, hh.1.2, ih hh.2]
              exact this _ k1.2
            have hlen : (r.sub l.toNat hi.toNat).len = hi.toNat - l.toNat := by rw [sub_len, Nat.min_eq_left (by omega)]
            have hpos : 0 < hi.toNat - l.toNat → ∃ b off, A = some ⟨b, off, none⟩ ∧ (if M = l.toNat then A else A.map (·.add (l.toNat * r.width))) = some ⟨b, off + l.toNat * r.width, none⟩ := by
              intro hp
              obtain ⟨b, off, rfl, _⟩ := hA (by omega)
              refine ⟨b, off, rfl, ?_⟩
              rw [if_neg (by omega)]
              simp [Addr.add_lit]
            refine ⟨_, _, _, h, hs1.alias hkb (v := .slice (if M = l.toNat then A else A.map (·.add (l.toNat * r.width))) (hi.toNat - l.toNat) (M - l.toNat)) (r' := r.sub l.toNat hi.toNat) hl1 rfl ?_ (fun g hg hg2 => ?_), by simp [SV.toV]⟩
            · refine ⟨_, _, by rw [hlen], by rw [hlen]; omega, fun hp => ?_⟩
              rw [hlen] at hp
              obtain ⟨b, off, rfl, e2⟩ := hpos hp
              refine ⟨b, _, e2, fun j u hu => ?_⟩
              obtain ⟨b', off', e3, hcell⟩ := hA (by omega)
              cases e3
              rw [sub_cells, List.getElem?_drop, List.getElem?_take] at hu
              split at hu
              · have := hcell _ _ hu
                rw [← this]; congr 2; omega
              · cases hu
            · rw [hlen] at hg
              obtain ⟨b, off, rfl, e2⟩ := hpos hg
              rw [e2] at hg2
              refine ⟨by omega, ?_⟩
              rw [hv]; exact hg2
        · exact h.elim
    · exact h.elim
  · exact h.elim

theorem slice_sound (hT : TsOk P T) {o : Oper} {ty : TypeId} {x : Operand} {low high max : Option Operand} {K : St → Prop} (ho : o.op = .slice ty x low high max) {Γ : Specs} (h : vcOp T Γ N o s K) (hs : Sym w0 S0 N n0 ρ0 ρ s a w)
    {K' : Act → World → Prop} {Q : Exit → Act → World → Prop} (hK : ∀ s' ρ' a' w', Sym w0 S0 N n0 ρ0 ρ' s' a' w' → K s' → K' a' w') : o.wp P a w K' Q := by
  unfold vcOp at h
  rw [ho] at h
  simp only at h
  split at h
  · rename_i v hv
    have he := ev_sound hs hv
    obtain ⟨v', s', ρ', h, hs', hrun⟩ := sliceS_sound hT h hs
    refine wp_val (w' := w) ?_ (toDst_sound h hs' hK)
    simp [execOp, ho, he, hrun]
  · exact h.elim

theorem copyS_sound (hT : TsOk P T) {t t' : TypeId} {x y : SV} {K : SV → St → Prop} (h : copyS T s t t' x y K) (hs : Sym w0 S0 N n0 ρ0 ρ s a w) (ty : TypeId) :
    ∃ v s' w', K v s' ∧ Sym w0 S0 N n0 ρ0 ρ s' a w' ∧ (Builtin.copy_ #[t, t'] ty #[x.toV ρ, y.toV ρ]).run P w = .ok (v.toV ρ) w' := by
  unfold copyS at h
  split at h
  · rename_i zs ag fs e rk bt ik eqs _ _ _ _ _ _ kx ky hti _
    split at h
    · rename_i tx r1 o2 t2 r2 h1 h2
      split at h
      · rename_i r hr
        cases hb : (Nat.beq rk.width r1.width && !Nat.beq kx ky) with
        | false => rw [hb] at h; exact h.elim
        | true =>
          rw [hb] at h
          simp only [cond_true] at h
          simp only [Bool.and_eq_true] at hb
          have k2 := beq_eq hb.1
          obtain ⟨hu, hb64, i, hi, hz, hsz, hby⟩ := sl_info hT hti rfl
          obtain ⟨a1, a2, a3, a4⟩ := over_sound hr
          have e1 : w.ownsRow 0 tx r1.width (ρ kx) r1.len r1.cells := hs.hp.ent kx _ h1
          obtain ⟨A, c, hv2, hlc, hA⟩ := EntOk.reads (hs.hp.ent ky _ h2)
          -- what is read
          have hlen2 : (r2.cells.take (Nat.min r2.len r1.len * r1.width)).length = Nat.min r2.len r1.len * r1.width := by
            rw [List.length_take, Row.cells_len, a4]
            exact Nat.min_eq_left (Nat.mul_le_mul_right _ (Nat.min_le_left _ _))
          have hfirst : ∃ cs : Array Value, cs.toList = r2.cells.take (Nat.min r2.len r1.len * r1.width) ∧ (Builtin.firstCells i.size (Nat.min r2.len r1.len) (.slice A r2.len c)).run P w = .ok cs w := by
            cases A with
            | none =>
              have : r2.len = 0 := by
                apply Classical.byContradiction
                intro hne
                obtain ⟨b, off, e2, _⟩ := hA (by omega)
                cases e2
              refine ⟨#[], ?_, by simp [Builtin.firstCells]⟩
              rw [this]
              simp
            | some ad =>
              refine ⟨(r2.cells.take (Nat.min r2.len r1.len * r1.width)).toArray, rfl, ?_⟩
              have := run_loadCells_list (P := P) w ad (r2.cells.take (Nat.min r2.len r1.len * r1.width)) (fun j u hu => by
                rw [List.getElem?_take] at hu
                split at hu
                · have h0 : 0 < r2.len := by
                    apply Nat.pos_of_ne_zero
                    intro e0
                    rename_i hj
                    rw [e0] at hj
                    simp at hj
                  obtain ⟨b, off, e2, hc⟩ := hA h0
                  cases e2
                  rw [Addr.add_lit]; exact hc j u hu
                · cases hu)
              rw [hlen2] at this
              simp only [Builtin.firstCells, hsz, k2]
              exact this
          obtain ⟨cs, hcs, hrun1⟩ := hfirst
          have hcells : r.cells = r2.cells.take (Nat.min r2.len r1.len * r1.width) ++ r1.cells.drop (Nat.min r2.len r1.len * r1.width) := by
            rw [a1]
            rcases Nat.le_total r2.len r1.len with hle | hle
            · have em : Nat.min r2.len r1.len = r2.len := Nat.min_eq_left hle
              rw [em, List.take_of_length_le (by rw [Row.cells_len, a4]; exact Nat.mul_le_mul_right _ hle), List.take_of_length_le (l := r2.cells) (by rw [Row.cells_len, a4]; exact Nat.le_refl _)]
            · have em : Nat.min r2.len r1.len = r1.len := Nat.min_eq_right hle
              rw [em, List.drop_of_length_le (by rw [Row.cells_len]; exact Nat.mul_le_mul_right _ hle), List.drop_of_length_le (l := r1.cells) (by rw [Row.cells_len]; exact Nat.le_refl _)]
          rcases e1.2 with ⟨e2, e3⟩ | ⟨g, cap, cur, e2, hbg, hheap, hn, hc, hcsz, htake⟩
          · -- nothing to write
            have em : Nat.min r2.len r1.len = 0 := by rw [e3]; exact Nat.min_zero _
            rw [em] at h hrun1
            have hrr : r.cells = r1.cells := by rw [hcells, em]; simp
            refine ⟨_, _, w, h, hs.turn0 h1 (e' := .row true tx r) rfl rfl (fun _ => Iff.rfl) ?_, ?_⟩
            · show w.ownsRow 0 tx _ _ _ _
              rw [hrr, a2, a3]; exact e1
            · simp only [SV.toV]
              rw [e2, hv2]
              simp [Builtin.copy_, run_underlying hu, Builtin.lenOf, sizeOf, typeInfo, hi, hrun1, goInt]
          · have hle : Nat.min r2.len r1.len * r1.width ≤ r1.len * r1.width := Nat.mul_le_mul_right _ (Nat.min_le_right _ _)
            have hle2 : r1.len * r1.width ≤ cap * r1.width := Nat.mul_le_mul_right _ hn
            have hst := run_storeCells_at P g 0 tx cs.toList 0 cur w hheap (by rw [hcs, hlen2, hcsz]; omega) (fun v hv => by
              rw [hcs] at hv; exact cells_one r2 v (List.mem_of_mem_take hv))
            simp only [Nat.add_zero, Nat.zero_add, List.take_zero, List.nil_append] at hst
            refine ⟨_, _, w.setRow g (cs.toList ++ cur.toList.drop cs.toList.length).toArray, h, hs.turn h1 (e' := .row true tx r) rfl rfl (grownBy_setRow w g _) (fun _ => Iff.rfl) (by rw [e2]; rfl) ?_, ?_⟩
            · refine ⟨by rw [Row.cells_len], .inr ⟨g, cap, _, by rw [e2, a2], hbg, setRow_heap w g _ _ tx (0, 0) hheap, by rw [a2]; exact hn, hc, ?_, ?_⟩⟩
              · rw [a3]
                simp only [List.size_toArray, List.length_append, List.length_drop, Array.length_toList, hcs, hlen2]
                rw [hcsz]; omega
              · rw [a2, a3, hcells, ← htake, hcs]
                rw [List.take_append, List.take_of_length_le (by rw [hlen2]; exact hle), hlen2, List.drop_take]
            · simp only [SV.toV]
              rw [e2, hv2]
              simp [Builtin.copy_, run_underlying hu, Builtin.lenOf, sizeOf, typeInfo, hi, hrun1, hst, goInt]
      · exact h.elim
    · exact h.elim
  · exact h.elim
end
end Go.Vc
