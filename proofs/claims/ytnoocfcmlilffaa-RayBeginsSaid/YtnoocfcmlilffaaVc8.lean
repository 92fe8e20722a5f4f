/-
  THE SYMBOLIC EXECUTOR IS SOUND, 6: new rows, append, calls. No program in sight.
-/
import Derived.Test.YtnoocfcmlilffaaVc7
import Derived.ArgAppend
set_option linter.all false
set_option linter.unusedSimpArgs false
set_option linter.unusedVariables false
namespace Go.Vc
open Go Go.RowKit Go.Ql Go.Draw

section
variable {P : Program} {T : Tys} {w0 : World} {S0 : Nat → Prop} {N n0 : Nat} {ρ0 : Nat → Value} {ρ : Nat → Value} {s : St} {a : Act} {w : World}

theorem natsEq_eq : ∀ {a b : List Nat}, natsEq a b = true → a = b
  | [], [], _ => rfl
  | x :: l, y :: m, h => by
    simp only [natsEq, Bool.and_eq_true] at h
    rw [beq_eq h.1, natsEq_eq h.2]
  | [], _ :: _, h => by cases h
  | _ :: _, [], h => by cases h

theorem sl_info (hT : TsOk P T) {t : TypeId} {ti : TI} {e : TypeId} {rk : RK} {b : Nat} (hti : lk t T = some ti) (hsl : ti.sl = some (e, rk, b)) :
    P.underlying t = some (.slice e) ∧ b ≤ 64 ∧ ∃ i, P.info? e = some i ∧ i.zero = some rk.zero ∧ i.size = rk.width ∧ i.bytes = b := by
  obtain ⟨h1, h2, h3⟩ := (hT _ _ hti).sl e rk b hsl
  cases hi : P.info? e with
  | none => rw [hi] at h2; cases h2
  | some i =>
    rw [hi] at h2
    simp only [Option.map_some, Option.some.injEq, Prod.mk.injEq] at h2
    exact ⟨h1, h3, i, rfl, h2.1, h2.2.1, h2.2.2⟩

theorem zero_size (rk : RK) : rk.zero.cells.size = rk.width := by cases rk <;> rfl
theorem width_le (rk : RK) : 0 < rk.width ∧ rk.width ≤ 5 := by cases rk <;> simp [RK.width]

theorem ownsRow_new (w : World) (e : TypeId) (r : Row) (cs : List Value) (hcs : cs = r.cells) (hl : r.len ≤ maxLen) :
    (w.alloc (.cells cs.toArray e)).ownsRow 0 e r.width (.slice (some ⟨w.heap.size, 0, none⟩) r.len r.len) r.len r.cells := by
  subst hcs
  refine ⟨Row.cells_len r, .inr ⟨w.heap.size, r.len, _, rfl, Nat.zero_le _, heap_alloc_new w _, Nat.le_refl _, hl, by simp [Row.cells_len], ?_⟩⟩
  rw [List.toList_toArray, List.take_of_length_le (by rw [Row.cells_len]; exact Nat.le_refl _)]

/-- a new row of cells that are written out -/
theorem Sym.newVec (hs : Sym w0 S0 N n0 ρ0 ρ s a w) (hk : s.kb = true) {e : TypeId} {cs : List SV} (hcs : kbs s.nk cs = true) :
    ∃ ρ', Sym w0 S0 N n0 ρ0 ρ' { tm := s.tm, hp := (s.nk, .vec e cs) :: s.hp, nk := s.nk + 1 } a (w.alloc (.cells (toVs ρ cs).toArray e)) ∧ SV.toV ρ' (.row s.nk) = .slice (some ⟨w.heap.size, 0, none⟩) cs.length cs.length := by
  have hl : ∀ k d, lk k [(s.nk, Ent.vec e cs)] = some d → k = s.nk ∧ d = .vec e cs := by
    intro k d hd
    rw [lk_cons] at hd
    split at hd
    · rename_i e1; cases hd; exact ⟨e1, rfl⟩
    · simp [lk] at hd
  have hρ : ∀ k, k < s.nk → (fun j => if j = s.nk then Value.slice (some ⟨w.heap.size, 0, none⟩) cs.length cs.length else ρ j) k = ρ k := fun k hk => by simp; omega
  refine ⟨fun j => if j = s.nk then .slice (some ⟨w.heap.size, 0, none⟩) cs.length cs.length else ρ j, ?_, by simp [SV.toV]⟩
  refine hs.more hk (Nat.le_succ _) (World.grownBy_alloc w _ none) (hn := [(s.nk, Ent.vec e cs)]) hρ (fun k => ?_) (fun k d hd => ?_) (fun k d hd => ?_) (fun k d hd g hg => ?_) (fun k d k' d' hd hd' hne g hg => ?_)
  · split
    · rfl
    · exact hs.hp.one k
  · obtain ⟨rfl, rfl⟩ := hl k d hd; exact Nat.le_refl _
  · obtain ⟨rfl, rfl⟩ := hl k d hd
    simp only [if_true]
    exact ⟨w.heap.size, rfl, by rw [toVs_congr hρ cs hcs]; exact Has.new w e _⟩
  · obtain ⟨rfl, rfl⟩ := hl k d hd
    simp only [if_true, Ent.touch, Value.ownBlock, Option.some.injEq] at hg
    omega
  · obtain ⟨rfl, rfl⟩ := hl k d hd
    obtain ⟨rfl, _⟩ := hl k' d' hd'
    exact absurd rfl hne

theorem buildSlice_sound (hT : TsOk P T) {o : Oper} {ty : TypeId} {len : Nat} {parts : Array (Nat × Operand)} {K : St → Prop} (ho : o.op = .buildSlice ty len parts) {Γ : Specs} (h : vcOp T Γ N o s K) (hs : Sym w0 S0 N n0 ρ0 ρ s a w)
    {K' : Act → World → Prop} {Q : Exit → Act → World → Prop} (hK : ∀ s' ρ' a' w', Sym w0 S0 N n0 ρ0 ρ' s' a' w' → K s' → K' a' w') : o.wp P a w K' Q := by
  unfold vcOp at h
  rw [ho] at h
  simp only at h
  split at h
  · rename_i zs ag fs e rk bt ik eqs vs hti hv
    have hv := evs_sound hs hv
    split at h
    · rename_i r hr
      cases hb : (s.kb && natsEq (parts.toList.map (·.1)) (List.range len) && Nat.ble len 1000) with
      | false => rw [hb] at h; exact h.elim
      | true =>
        rw [hb] at h
        simp only [cond_true] at h
        simp only [Bool.and_eq_true] at hb
        obtain ⟨⟨k1, k2⟩, k3⟩ := hb
        have k2 := natsEq_eq k2
        have k3 := ble_le k3
        obtain ⟨hu, hb64, i, hi, hz, hsz, hby⟩ := sl_info hT hti rfl
        obtain ⟨c1, c2, c3, c4⟩ := snocs_sound ρ hr
        have hwl := width_le rk
        have hlen : parts.size = len := by have := congrArg List.length k2; simpa using this
        have hvl : vs.length = len := by
          have := congrArg List.length hv
          simp [toVs_eq] at this; omega
        rw [empty_len, Nat.zero_add, hvl] at c2
        rw [empty_cells, List.nil_append] at c1
        rw [empty_width] at c3 c4
        have hcell : ∀ v ∈ toVs ρ vs, v.cells.size = rk.width := by
          intro v hv
          rw [toVs_eq, List.mem_map] at hv
          obtain ⟨u, hu, rfl⟩ := hv
          have := c4 u hu
          rw [cells_toV u this.2 hs.hp.one]
          simp [toVs_eq, this.1]
        have hparts : (parts.map fun (i, x) => (i, a.eval x)).toList = (List.range' 0 (toVs ρ vs).length).zip (toVs ρ vs) := by
          have e1 : (toVs ρ vs).length = len := by simp [toVs_eq, hvl]
          rw [e1, ← List.range_eq_range', ← k2, ← hv]
          simp only [Array.toList_map]
          generalize parts.toList = l
          induction l with
          | nil => rfl
          | cons p l ih => simp only [List.map_cons, List.zip_cons_cons, ih]
        have hflat : (toVs ρ vs).flatMap (fun v => v.cells.toList) = r.cells := by
          rw [c1]
          have : ∀ l : List SV, (∀ v ∈ l, allOne v.cells = true) → (toVs ρ l).flatMap (fun v => v.cells.toList) = l.flatMap (fun v => toVs ρ v.cells) := by
            intro l
            induction l with
            | nil => intro _; rfl
            | cons v l ih =>
              intro hl
              rw [toVs, List.flatMap_cons, List.flatMap_cons, ih (fun u hu => hl u (by simp [hu])), cells_toV v (hl v (by simp)) hs.hp.one]
          exact this vs fun v hv => (c4 v hv).2
        have hfill : ∀ cells : Array Value, cells.size = len * rk.width → Instr.fill (fun i => some (i * rk.width, rk.width)) cells (parts.map fun (i, x) => (i, a.eval x)).toList = some r.cells.toArray := by
          intro cells hc
          rw [hparts, fill_row rk.width (toVs ρ vs) 0 cells (by rw [hc]; simp [toVs_eq, hvl]) hcell, hflat]
          simp
        have hmul : len * rk.width ≤ 1000 * 5 := Nat.mul_le_mul k3 hwl.2
        obtain ⟨ρ', hs', hv'⟩ := hs.newRow k1 (e := e) (r := r) (v := .slice (some ⟨w.heap.size, 0, none⟩) r.len r.len) (World.grownBy_alloc w (.cells r.cells.toArray e) none) (ownsRow_new w e r _ rfl (by rw [c2]; simp only [maxLen]; omega)) rfl (fun g hg => by cases hg; exact Nat.le_refl _)
        refine wp_val ?_ (toDst_sound h hs' hK)
        rw [hv', c2]
        have hn : ¬ (2 ^ 24 < len * rk.width) := by omega
        by_cases h0 : len * rk.width = 0
        · have hf := hfill ((Array.range (len * rk.width)).map ((#[] : Array Value)[· % (#[] : Array Value).size]!)) (by simp)
          simp [execOp, ho, Instr.buildSlice, run_underlying hu, sizeOf, typeInfo, hi, hsz, h0, newRow]
          simp [h0] at hf
          rw [hf]
          simp
        · have hf := hfill ((Array.range (len * rk.width)).map (rk.zero.cells[· % rk.zero.cells.size]!)) (by simp)
          simp only [execOp, ho, Instr.buildSlice, Sem.run_bind, run_underlying hu, sizeOf, typeInfo, hi, hsz, newRow, Result.andThen_ok]
          simp [hsz, hn, h0, zeroValue, typeInfo, hi, hz]
          simp at hf
          rw [hf]
          simp
    · cases hb : (rk.isFn && s.kb && kbs s.nk vs && allOne vs && natsEq (parts.toList.map (·.1)) (List.range len) && Nat.ble len 1000 && Nat.blt 0 len) with
      | false => rw [hb] at h; exact h.elim
      | true =>
        rw [hb] at h
        simp only [cond_true] at h
        simp only [Bool.and_eq_true] at hb
        obtain ⟨⟨⟨⟨⟨⟨k0, k1⟩, k5⟩, k6⟩, k2⟩, k3⟩, k4⟩ := hb
        have k2 := natsEq_eq k2
        have k3 := ble_le k3
        have k4 := blt_lt k4
        obtain ⟨hu, hb64, i, hi, hz, hsz, hby⟩ := sl_info hT hti rfl
        have hrk : rk.width = 1 := by cases rk <;> first | rfl | (cases k0)
        have hlen : parts.size = len := by have := congrArg List.length k2; simpa using this
        have hvl : vs.length = len := by
          have := congrArg List.length hv
          simp [toVs_eq] at this; omega
        have h1 := allOne_toVs hs.hp.one k6
        have hcell : ∀ v ∈ toVs ρ vs, v.cells.size = 1 := fun v hv => by rw [oneCell_cells (h1 v hv)]; rfl
        have hparts : (parts.map fun (i, x) => (i, a.eval x)).toList = (List.range' 0 (toVs ρ vs).length).zip (toVs ρ vs) := by
          have e1 : (toVs ρ vs).length = len := by simp [toVs_eq, hvl]
          rw [e1, ← List.range_eq_range', ← k2, ← hv]
          simp only [Array.toList_map]
          generalize parts.toList = l
          induction l with
          | nil => rfl
          | cons p l ih => simp only [List.map_cons, List.zip_cons_cons, ih]
        have hflat : (toVs ρ vs).flatMap (fun v => v.cells.toList) = toVs ρ vs := by
          have : ∀ l : List Value, (∀ v ∈ l, v.oneCell' = true) → l.flatMap (fun v => v.cells.toList) = l := by
            intro l
            induction l with
            | nil => intro _; rfl
            | cons v l ih =>
              intro hl
              rw [List.flatMap_cons, ih (fun u hu => hl u (by simp [hu])), oneCell_cells (hl v (by simp))]
              rfl
          exact this _ h1
        have hfill : ∀ cells : Array Value, cells.size = len * 1 → Instr.fill (fun i => some (i * 1, 1)) cells (parts.map fun (i, x) => (i, a.eval x)).toList = some (toVs ρ vs).toArray := by
          intro cells hc
          rw [hparts, fill_row 1 (toVs ρ vs) 0 cells (by rw [hc]; simp [toVs_eq, hvl]) hcell, hflat]
          simp
        obtain ⟨ρ', hs', hv'⟩ := hs.newVec k1 (e := e) (cs := vs) k5
        refine wp_val ?_ (toDst_sound h hs' hK)
        rw [hv', hvl]
        have hn : ¬ (2 ^ 24 < len * 1) := by omega
        have h0 : ¬ len * 1 = 0 := by omega
        have hf := hfill ((Array.range (len * 1)).map (rk.zero.cells[· % rk.zero.cells.size]!)) (by simp)
        simp only [execOp, ho, Instr.buildSlice, Sem.run_bind, run_underlying hu, sizeOf, typeInfo, hi, hsz, hrk, newRow, Result.andThen_ok]
        simp [hsz, hrk, hn, h0, zeroValue, typeInfo, hi, hz]
        simp at hf
        rw [hf]
        simp [show ¬ 16777216 < len by omega, show ¬ len = 0 by omega]
  · exact h.elim

theorem made_flat (z : Array Value) (hz : 0 < z.size) (n : Nat) : (madeCells z (n * z.size)).toList = (List.replicate n ()).flatMap fun _ => z.toList := by
  apply List.ext_getElem?
  intro j
  by_cases hj : j < n * z.size
  · have hd : j / z.size < n := Nat.div_lt_of_lt_mul (by rw [Nat.mul_comm]; exact hj)
    have hm := Nat.mod_lt j hz
    have := flat_get (fun _ : Unit => z.toList) z.size (fun _ => by simp) (List.replicate n ()) (j / z.size) () (by simp [hd]) (j % z.size) hm
    rw [Nat.mul_comm, Nat.div_add_mod] at this
    rw [this]
    simp [madeCells, hj, hm]
  · rw [List.getElem?_eq_none (by simp [madeCells]; omega), List.getElem?_eq_none]
    rw [List.length_flatMap]
    simp
    omega
theorem many_cells (rk : RK) (hk : rk.isFn = false) (n : Nat) : (rk.many n).cells = (List.replicate n ()).flatMap fun _ => rk.zero.cells.toList := by
  cases rk with
  | int k => simp only [RK.many, Row.cells, map_flat]; induction n with | zero => rfl | succ n ih => simp only [List.replicate_succ, List.flatMap_cons, ih]; rfl
  | bool => simp only [RK.many, Row.cells, map_flat]; induction n with | zero => rfl | succ n ih => simp only [List.replicate_succ, List.flatMap_cons, ih]; rfl
  | arc => simp only [RK.many, Row.cells]; induction n with | zero => rfl | succ n ih => simp only [List.replicate_succ, List.flatMap_cons, ih]; rfl
  | wide => simp only [RK.many, Row.cells]; induction n with | zero => rfl | succ n ih => simp only [List.replicate_succ, List.flatMap_cons, ih]; rfl
  | fn => cases hk
theorem many_len (rk : RK) (n : Nat) : (rk.many n).len = n := by cases rk <;> simp [RK.many, Row.len]
theorem many_width (rk : RK) (n : Nat) : (rk.many n).width = rk.width := by cases rk <;> rfl

theorem makeSlice_sound (hT : TsOk P T) {o : Oper} {ty : TypeId} {l c : Operand} {K : St → Prop} (ho : o.op = .makeSlice ty l c) {Γ : Specs} (h : vcOp T Γ N o s K) (hs : Sym w0 S0 N n0 ρ0 ρ s a w)
    {K' : Act → World → Prop} {Q : Exit → Act → World → Prop} (hK : ∀ s' ρ' a' w', Sym w0 S0 N n0 ρ0 ρ' s' a' w' → K s' → K' a' w') : o.wp P a w K' Q := by
  unfold vcOp at h
  rw [ho] at h
  simp only at h
  split at h
  · rename_i zs ag fs e rk bt ik eqs k n k' m hti h1 h2
    have h1 := ev_sound hs h1
    have h2 := ev_sound hs h2
    cases hb0 : (s.kb && !rk.isFn) with
    | false => rw [hb0] at h; exact h.elim
    | true =>
      rw [hb0] at h
      simp only [cond_true] at h
      simp only [Bool.and_eq_true, Bool.not_eq_true'] at hb0
      obtain ⟨hb, hnf⟩ := hb0
      obtain ⟨⟨rfl, h0, hle⟩, h⟩ := h
      obtain ⟨hu, hb64, i, hi, hz, hsz, hby⟩ := sl_info hT hti rfl
      have hbytes : (i.bytes : Int) * n ≤ 281474976710656 := by
        have : (i.bytes : Int) * n ≤ 64 * 1000000000 := Int.mul_le_mul (by rw [hby]; omega) hle h0 (by omega)
        omega
      have hrun := run_make (P := P) w ty e i rk.zero hu hi hz k k' n n h0 (Int.le_refl _) hbytes (by omega)
      have hcs : madeCells rk.zero.cells (n.toNat * i.size) = (rk.many n.toNat).cells.toArray := by
        apply Array.toList_inj.1
        rw [many_cells rk hnf, hsz, ← zero_size rk]
        exact made_flat _ (by rw [zero_size]; exact (width_le rk).1) _
      rw [hcs] at hrun
      obtain ⟨ρ', hs', hv'⟩ := hs.newRow hb (e := e) (r := rk.many n.toNat) (v := .slice (some ⟨w.heap.size, 0, none⟩) (rk.many n.toNat).len (rk.many n.toNat).len) (World.grownBy_alloc w _ none) (ownsRow_new w e _ _ rfl (by rw [many_len]; simp only [maxLen]; omega)) rfl (fun g hg => by cases hg; exact Nat.le_refl _)
      refine wp_val ?_ (toDst_sound h hs' hK)
      rw [hv', many_len]
      simp only [SV.toV] at h1 h2
      simp [execOp, ho, h1, h2, hrun]
  · exact h.elim

/-! ### builtins -/
theorem app_sound {r1 r2 r : Row} (h : r1.app r2 = some r) : r.cells = r1.cells ++ r2.cells ∧ r.len = r1.len + r2.len ∧ r.width = r1.width ∧ r2.width = r1.width := by
  cases r1 <;> cases r2 <;> simp only [Row.app] at h <;> first
    | (cases h; done)
    | (cases h; simp [Row.cells, Row.len, Row.width]; done)
    | skip
  rename_i k xs k' ys
  cases hk : kEq k k' with
  | false => rw [hk] at h; cases h
  | true =>
    rw [hk] at h
    have := kEq_eq hk
    subst this
    cases h
    simp [Row.cells, Row.len, Row.width]

theorem cells_one (r : Row) : ∀ u ∈ r.cells, u.oneCell' = true := by
  cases r with
  | ints k xs => intro u hu; simp only [Row.cells, List.mem_map] at hu; obtain ⟨x, _, rfl⟩ := hu; rfl
  | bools xs => intro u hu; simp only [Row.cells, List.mem_map] at hu; obtain ⟨x, _, rfl⟩ := hu; rfl
  | arcs xs => intro u hu; simp only [Row.cells, List.mem_flatMap] at hu; obtain ⟨x, _, hu⟩ := hu; simp only [Arc.cells, List.mem_cons, List.not_mem_nil, or_false] at hu; rcases hu with rfl | rfl | rfl | rfl | rfl <;> rfl
  | wides xs => intro u hu; simp only [Row.cells, List.mem_flatMap] at hu; obtain ⟨x, _, hu⟩ := hu; simp only [Wide.cells, List.mem_cons, List.not_mem_nil, or_false] at hu; rcases hu with rfl | rfl <;> rfl

theorem own_one {w : World} {b e size n : Nat} {v : Value} {xs : List Value} (h : w.ownsRow b e size v n xs) : v.oneCell' = true := by
  rcases h.2 with ⟨rfl, _⟩ | ⟨g, cap, cur, rfl, _⟩ <;> rfl

theorem grownBy_any {w w' : World} (h : w.grownBy w' none) (row : Option Nat) : w.grownBy w' row := ⟨h.os, h.tape, h.output, h.size, fun k hk _ => h.block k hk (by simp)⟩

/-- append, of whatever slice -/
theorem run_append_any (t ty e : TypeId) (i : TypeInfo) (z : Value) (size bytes : Nat) (ht : P.underlying t = some (.slice e)) (hi : P.info? e = some i) (hz : i.zero = some z)
    (hsize : i.size = size) (hby : i.bytes = bytes) (hzs : z.cells.size = size) (hsz : 0 < size) (v : Value) (n : Nat) (xs : List Value) (hown : w.ownsRow 0 e size v n xs)
    (A : Option Addr) (m c : Nat) (news : List Value) (hl : news.length = m * size) (hA : 0 < m → ∃ b off, A = some ⟨b, off, none⟩ ∧ ∀ j u, news[j]? = some u → w.cell? ⟨b, off + j, none⟩ = some u)
    (h1 : ∀ u ∈ news, u.oneCell' = true) (h63 : n + m ≤ maxLen) (hbytes : (n + m) * bytes ≤ 140737488355328) :
    ∃ v' w', (Builtin.append_ #[t, t] ty #[v, .slice A m c]).run P w = .ok v' w' ∧ w'.ownsRow 0 e size v' (n + m) (xs ++ news) ∧ w.grownBy w' v.ownBlock ∧ ∀ g, v'.ownBlock = some g → v.ownBlock = some g ∨ w.heap.size ≤ g := by
  cases A with
  | some ad =>
    have hnews : ∀ j u, news[j]? = some u → w.cell? (ad.add j) = some u := by
      intro j u hj
      have hm : 0 < m := by
        apply Nat.pos_of_ne_zero
        rintro rfl
        rw [Nat.zero_mul] at hl
        have := (List.getElem?_eq_some_iff.1 hj).1
        omega
      obtain ⟨b, off, hA', hc⟩ := hA hm
      cases hA'
      rw [Addr.add_lit]; exact hc j u hj
    rcases hown.2 with ⟨rfl, rfl⟩ | ⟨g, cap, cur, rfl, hbg, hg, hnc, hcm, hcs, htake⟩
    · have hx : xs = [] := List.eq_nil_of_length_eq_zero (by simpa using hown.1)
      subst hx
      obtain ⟨v', w', r1, r2, r3, _⟩ := run_append_own (P := P) w w.heap.size t ty e i z size bytes ht hi hz hsize hby hzs hsz (.slice none 0 0) 0 [] (World.ownsRow_nil w _ e size) ad m c news hl hnews h1 h63 hbytes (Nat.le_refl _)
      exact ⟨v', w', r1, ownsRow_base r2 (Nat.zero_le _), r3, fun g hg => .inr (r2.lt g hg).1⟩
    · by_cases hroom : n + m ≤ cap
      · obtain ⟨v', w', r1, r2, r3, _⟩ := run_append_own (P := P) w 0 t ty e i z size bytes ht hi hz hsize hby hzs hsz _ n xs hown ad m c news hl hnews h1 h63 hbytes (Nat.zero_le _)
        have hr := run_append_room (P := P) w t ty e i ht hi g n cap cur hg ad m c news (by rw [hl, hsize]) hnews h1 hroom (by
          rw [hcs, hl, hsize, ← Nat.add_mul]; exact Nat.mul_le_mul_right _ hroom)
        rw [r1] at hr
        injection hr with e1 e2
        subst e1
        exact ⟨_, w', r1, r2, r3, fun g' hg' => .inl hg'⟩
      · obtain ⟨v', w', r1, r2, r3⟩ := run_append_arg_grows (P := P) w t ty e i z size bytes ht hi hz hsize hby hzs hsz ⟨g, 0, none⟩ n cap xs hown.1 (fun j u hj => hown.cells rfl j u hj) ad m c news hl hnews (by omega) h63 hbytes
        exact ⟨v', w', r1, ownsRow_base r2 (Nat.zero_le _), grownBy_any r3 _, fun g hg => .inr (r2.lt g hg).1⟩
  | none =>
    have hm : m = 0 := by
      apply Classical.byContradiction
      intro h
      obtain ⟨b, off, hA', _⟩ := hA (by omega)
      cases hA'
    subst hm
    have hn : news = [] := List.eq_nil_of_length_eq_zero (by simpa using hl)
    subst hn
    refine ⟨v, w, ?_, by simpa using hown, grownBy_refl w _, fun g hg => .inl hg⟩
    rcases hown.2 with ⟨rfl, rfl⟩ | ⟨g, cap, cur, rfl, hbg, hg, hnc, hcm, hcs, htake⟩
    · simp [Builtin.append_, run_underlying ht, sizeOf, typeInfo, hi, Builtin.lenOf, Builtin.firstCells]
    · simp [Builtin.append_, run_underlying ht, sizeOf, typeInfo, hi, Builtin.lenOf, Builtin.firstCells, hnc, storeCells]

theorem appendS_sound (hT : TsOk P T) {t : TypeId} {x y : SV} {K : SV → St → Prop} (h : appendS T s t x y K) (hs : Sym w0 S0 N n0 ρ0 ρ s a w) (ty : TypeId) :
    ∃ v s' ρ' w', K v s' ∧ Sym w0 S0 N n0 ρ0 ρ' s' a w' ∧ (Builtin.append_ #[t, t] ty #[x.toV ρ, y.toV ρ]).run P w = .ok (v.toV ρ') w' := by
  unfold appendS at h
  split at h
  · rename_i zs ag fs e rk bt ik eqs kx ky hti
    split at h
    · rename_i tx r1 o2 t2 r2 h1 h2
      split at h
      · rename_i r hr
        cases hb : (s.kb && Nat.beq tx e && Nat.beq rk.width r1.width && !Nat.beq kx ky) with
        | false => rw [hb] at h; exact h.elim
        | true =>
          rw [hb] at h
          simp only [cond_true] at h
          simp only [Bool.and_eq_true] at hb
          obtain ⟨⟨⟨k1, k2⟩, k3⟩, k4⟩ := hb
          have k2 := beq_eq k2
          have k3 := beq_eq k3
          subst k2
          obtain ⟨hle, h⟩ := h
          obtain ⟨hu, hb64, i, hi, hz, hsz, hby⟩ := sl_info hT hti rfl
          obtain ⟨a1, a2, a3, a4⟩ := app_sound hr
          have e1 := hs.hp.ent kx _ h1
          obtain ⟨A, c, hv2, hlc2, hA⟩ := EntOk.reads (hs.hp.ent ky _ h2)
          have e1' : w.ownsRow 0 tx r1.width (ρ kx) r1.len r1.cells := e1
          rw [← k3] at e1'
          obtain ⟨v', w', hrun, hown, hg, hblk⟩ := run_append_any (P := P) (w := w) t ty tx i rk.zero rk.width bt hu hi hz hsz hby (zero_size rk) (width_le rk).1 (ρ kx) r1.len r1.cells e1' A r2.len c r2.cells (by rw [Row.cells_len, a4, k3]) hA (cells_one r2) (by simp only [maxLen]; omega)
            (Nat.le_trans (Nat.mul_le_mul hle hb64) (by decide))
          refine ⟨_, _, _, w', h, hs.move k1 h1 rfl hg (fun g hgg => hgg) (own_one hown) (e' := .row true tx r) rfl ?_ (fun g hgg => ?_), ?_⟩
          · show w'.ownsRow 0 tx r.width v' r.len r.cells
            rw [a1, a2, a3, ← k3]; exact hown
          · exact hblk g hgg
          · simp only [SV.toV, if_true]
            rw [hv2]; exact hrun
      · exact h.elim
    · exact h.elim
  · exact h.elim
end
end Go.Vc
