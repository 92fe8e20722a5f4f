/-
  THE SYMBOLIC EXECUTOR IS SOUND, 3: loads and stores. No program in sight.
-/
import Derived.Test.YtnoocfcmlilffaaVc4
set_option linter.all false
set_option linter.unusedSimpArgs false
set_option linter.unusedVariables false
namespace Go.Vc
open Go Go.RowKit Go.Ql Go.Draw

/-! ### rows by element -/
theorem flat_get {α : Type} (f : α → List Value) (n : Nat) (hf : ∀ x, (f x).length = n) : ∀ (xs : List α) (i : Nat) (x : α), xs[i]? = some x → ∀ j, j < n → (xs.flatMap f)[i * n + j]? = (f x)[j]?
  | [], i, x, h, j, _ => by simp at h
  | y :: xs, 0, x, h, j, hj => by
    simp at h
    subst h
    rw [List.flatMap_cons, Nat.zero_mul, Nat.zero_add, List.getElem?_append_left (by rw [hf]; exact hj)]
  | y :: xs, i + 1, x, h, j, hj => by
    rw [List.flatMap_cons, List.getElem?_append_right (by rw [hf, Nat.add_mul]; omega)]
    have : (i + 1) * n + j - (f y).length = i * n + j := by rw [hf, Nat.add_mul]; omega
    rw [this]
    exact flat_get f n hf xs i x (by simpa using h) j hj
theorem flat_split {α : Type} (f : α → List Value) (n : Nat) (hf : ∀ x, (f x).length = n) : ∀ (xs : List α) (i : Nat) (x : α), xs[i]? = some x →
    ∃ A B, xs.flatMap f = A ++ f x ++ B ∧ A.length = i * n ∧ ∀ y, (xs.set i y).flatMap f = A ++ f y ++ B
  | [], i, x, h => by simp at h
  | y :: xs, 0, x, h => by
    simp at h
    subst h
    exact ⟨[], xs.flatMap f, by simp, by simp, fun z => by simp⟩
  | y :: xs, i + 1, x, h => by
    obtain ⟨A, B, h1, h2, h3⟩ := flat_split f n hf xs i x (by simpa using h)
    exact ⟨f y ++ A, B, by rw [List.flatMap_cons, h1]; simp, by rw [List.length_append, hf, h2, Nat.add_mul]; omega, fun z => by rw [List.set_cons_succ, List.flatMap_cons, h3]; simp⟩
theorem splice (A F B vs : List Value) (fld : Nat) (h : fld + vs.length ≤ F.length) :
    A ++ (F.take fld ++ vs ++ F.drop (fld + vs.length)) ++ B = (A ++ F ++ B).take (A.length + fld) ++ vs ++ (A ++ F ++ B).drop (A.length + fld + vs.length) := by
  have e1 : (A ++ F ++ B).take (A.length + fld) = A ++ F.take fld := by
    rw [List.append_assoc, List.take_append, List.take_of_length_le (by omega), List.take_append]
    simp only [Nat.add_sub_cancel_left]
    rw [show fld - F.length = 0 by omega]; simp
  have e2 : (A ++ F ++ B).drop (A.length + fld + vs.length) = F.drop (fld + vs.length) ++ B := by
    rw [List.append_assoc, List.drop_append, List.drop_of_length_le (by omega), List.drop_append]
    rw [show A.length + fld + vs.length - A.length = fld + vs.length by omega, show fld + vs.length - F.length = 0 by omega]; simp
  rw [e1, e2]; simp
theorem map_flat {α : Type} (f : α → Value) (xs : List α) : xs.map f = xs.flatMap fun x => [f x] := by
  induction xs with
  | nil => rfl
  | cons x xs ih => rw [List.map_cons, List.flatMap_cons, ih]; rfl

section
variable {ρ : Nat → Value} {w : World}
theorem getElem_of_lt {α : Type} {xs : List α} {i : Nat} (h : i < xs.length) : ∃ x, xs[i]? = some x := ⟨xs[i], List.getElem?_eq_getElem h⟩

theorem get_flat {α : Type} {f : α → List Value} {enc : α → List SV} {n : Nat} {xs : List α} {i : Nat} {x : α} (hf : ∀ x, (f x).length = n) (he : ∀ x, toVs ρ (enc x) = f x) (hx : xs[i]? = some x) :
    (enc x).length = n ∧ ∀ j u, (enc x)[j]? = some u → (xs.flatMap f)[i * n + j]? = some (u.toV ρ) := by
  have hl : (enc x).length = n := by rw [← hf x, ← he x, toVs_eq, List.length_map]
  refine ⟨hl, fun j u hu => ?_⟩
  have hj : j < n := by rw [← hl]; exact (List.getElem?_eq_some_iff.1 hu).1
  rw [flat_get f n hf xs i x hx j hj, ← he x, toVs_eq, List.getElem?_map, hu]
  rfl

theorem Row.get_sound {r : Row} {i : Nat} {K : List SV → Prop} (h : r.get i K) (ρ : Nat → Value) : ∃ cs, K cs ∧ i < r.len ∧ cs.length = r.width ∧ ∀ j u, cs[j]? = some u → r.cells[i * r.width + j]? = some (u.toV ρ) := by
  cases r with
  | ints k xs =>
    obtain ⟨hi, hk⟩ := h
    obtain ⟨x, hx⟩ := getElem_of_lt hi
    have := get_flat (ρ := ρ) (f := fun x => [Value.int k x]) (enc := fun x => [SV.int k x]) (n := 1) (fun _ => rfl) (fun _ => by simp [toVs, SV.toV]) hx
    refine ⟨_, hk x hx, hi, this.1, fun j u hu => ?_⟩
    simp only [Row.cells, Row.width, map_flat]
    exact this.2 j u hu
  | bools xs =>
    obtain ⟨hi, hk⟩ := h
    obtain ⟨x, hx⟩ := getElem_of_lt hi
    have := get_flat (ρ := ρ) (f := fun x => [Value.bool x]) (enc := fun x => [SV.bool x]) (n := 1) (fun _ => rfl) (fun _ => by simp [toVs, SV.toV]) hx
    refine ⟨_, hk x hx, hi, this.1, fun j u hu => ?_⟩
    simp only [Row.cells, Row.width, map_flat]
    exact this.2 j u hu
  | arcs xs =>
    obtain ⟨hi, hk⟩ := h
    obtain ⟨x, hx⟩ := getElem_of_lt hi
    have := get_flat (ρ := ρ) (f := Arc.cells) (enc := encArc) (n := 5) (fun _ => rfl) (fun _ => by simp [encArc, Arc.cells, toVs, SV.toV]) hx
    exact ⟨_, hk x hx, hi, this.1, fun j u hu => this.2 j u hu⟩
  | wides xs =>
    obtain ⟨hi, hk⟩ := h
    obtain ⟨x, hx⟩ := getElem_of_lt hi
    have := get_flat (ρ := ρ) (f := Wide.cells) (enc := encWide) (n := 2) (fun _ => rfl) (fun _ => by simp [encWide, Wide.cells, toVs, SV.toV]) hx
    exact ⟨_, hk x hx, hi, this.1, fun j u hu => this.2 j u hu⟩

/-- what a row is behind a store -/
def SetOk (ρ : Nat → Value) (r : Row) (i fld : Nat) (vs : List SV) (r' : Row) : Prop :=
  i < r.len ∧ r'.len = r.len ∧ r'.width = r.width ∧ fld + vs.length ≤ r.width ∧ r'.cells = r.cells.take (i * r.width + fld) ++ toVs ρ vs ++ r.cells.drop (i * r.width + fld + vs.length) ∧ ∀ u ∈ toVs ρ vs, u.oneCell' = true

theorem set_flat {α : Type} {f : α → List Value} {n : Nat} {xs : List α} {i fld : Nat} {x y : α} {vs : List Value} (hf : ∀ x, (f x).length = n) (hx : xs[i]? = some x) (hl : fld + vs.length ≤ n)
    (hy : f y = (f x).take fld ++ vs ++ (f x).drop (fld + vs.length)) : (xs.set i y).flatMap f = (xs.flatMap f).take (i * n + fld) ++ vs ++ (xs.flatMap f).drop (i * n + fld + vs.length) := by
  obtain ⟨A, B, h1, h2, h3⟩ := flat_split f n hf xs i x hx
  rw [h3, hy, h1, ← h2]
  exact splice A (f x) B vs fld (by rw [hf]; exact hl)

theorem Row.set_sound {r : Row} {i fld : Nat} {vs : List SV} {K : Row → Prop} (h : r.set i fld vs K) (ρ : Nat → Value) : ∃ r', K r' ∧ SetOk ρ r i fld vs r' := by
  cases r with
  | ints k xs =>
    simp only [Row.set] at h
    split at h
    · rename_i k' n
      cases hk : kEq k k' with
      | false => rw [hk] at h; exact h.elim
      | true =>
        rw [hk] at h
        simp only [cond_true] at h
        have := kEq_eq hk
        subst this
        obtain ⟨hi, h⟩ := h
        obtain ⟨x, hx⟩ := getElem_of_lt hi
        refine ⟨_, h, hi, by simp [Row.len], rfl, by simp [Row.width], ?_, by simp [toVs, SV.toV, Value.oneCell']⟩
        simp only [Row.cells, map_flat, Row.width]
        have := set_flat (f := fun x => [Value.int k x]) (n := 1) (xs := xs) (i := i) (fld := 0) (x := x) (y := n) (vs := [Value.int k n]) (fun _ => rfl) hx (by simp) (by simp)
        simpa [toVs, SV.toV] using this
    · exact h.elim
  | bools xs =>
    have key : ∀ (b : Bool) (v : SV), (∀ ρ, v.toV ρ = .bool b) → (i < xs.length ∧ K (.bools (xs.set i b))) → ∃ r', K r' ∧ SetOk ρ (.bools xs) i 0 [v] r' := by
      intro b v hv h
      obtain ⟨hi, h⟩ := h
      obtain ⟨x, hx⟩ := getElem_of_lt hi
      refine ⟨_, h, hi, by simp [Row.len], rfl, by simp [Row.width], ?_, by simp [toVs, hv, Value.oneCell']⟩
      simp only [Row.cells, map_flat, Row.width]
      have := set_flat (f := fun x => [Value.bool x]) (n := 1) (xs := xs) (i := i) (fld := 0) (x := x) (y := b) (vs := [Value.bool b]) (fun _ => rfl) hx (by simp) (by simp)
      simpa [toVs, hv] using this
    simp only [Row.set] at h
    split at h
    · exact key true .tt (fun _ => by simp [SV.toV]) h
    · exact key false .ff (fun _ => by simp [SV.toV]) h
    · exact key _ (.bool _) (fun _ => by simp [SV.toV]) h
    · exact h.elim
  | arcs xs =>
    have key : ∀ (y : Arc → Arc) (fld : Nat) (vs : List SV), fld + vs.length ≤ 5 → (∀ x, (y x).cells = x.cells.take fld ++ toVs ρ vs ++ x.cells.drop (fld + vs.length)) → (∀ u ∈ toVs ρ vs, u.oneCell' = true) →
        (i < xs.length ∧ ∀ x, xs[i]? = some x → K (.arcs (xs.set i (y x)))) → ∃ r', K r' ∧ SetOk ρ (.arcs xs) i fld vs r' := by
      intro y fld vs hl hy h1 h
      obtain ⟨hi, h⟩ := h
      obtain ⟨x, hx⟩ := getElem_of_lt hi
      refine ⟨_, h x hx, hi, by simp [Row.len], rfl, hl, ?_, h1⟩
      have hlen : (toVs ρ vs).length = vs.length := by simp [toVs_eq]
      have := set_flat (f := Arc.cells) (n := 5) (xs := xs) (i := i) (fld := fld) (x := x) (y := y x) (vs := toVs ρ vs) (fun _ => rfl) hx (by rw [hlen]; exact hl) (by rw [hlen]; exact hy x)
      rw [hlen] at this
      exact this
    simp only [Row.set] at h
    split at h
    · exact key (fun _ => ⟨_, _, _, _, _⟩) 0 _ (by simp) (fun x => by simp [toVs, SV.toV, Arc.cells]) (by simp [toVs, SV.toV, Value.oneCell']) ⟨h.1, fun _ _ => h.2⟩
    · exact key (fun x => { x with src := _ }) 0 _ (by simp) (fun x => by simp [toVs, SV.toV, Arc.cells]) (by simp [toVs, SV.toV, Value.oneCell']) h
    · exact key (fun x => { x with dst := _ }) 1 _ (by simp) (fun x => by simp [toVs, SV.toV, Arc.cells]) (by simp [toVs, SV.toV, Value.oneCell']) h
    · exact key (fun x => { x with low := _ }) 2 _ (by simp) (fun x => by simp [toVs, SV.toV, Arc.cells]) (by simp [toVs, SV.toV, Value.oneCell']) h
    · exact key (fun x => { x with cap := _ }) 3 _ (by simp) (fun x => by simp [toVs, SV.toV, Arc.cells]) (by simp [toVs, SV.toV, Value.oneCell']) h
    · exact key (fun x => { x with cost := _ }) 4 _ (by simp) (fun x => by simp [toVs, SV.toV, Arc.cells]) (by simp [toVs, SV.toV, Value.oneCell']) h
    · exact h.elim
  | wides xs =>
    simp only [Row.set] at h
    split at h
    · obtain ⟨hi, h⟩ := h
      obtain ⟨x, hx⟩ := getElem_of_lt hi
      refine ⟨_, h, hi, by simp [Row.len], rfl, by simp [Row.width], ?_, by simp [toVs, SV.toV, Value.oneCell']⟩
      simp only [Row.cells, Row.width]
      rename_i n m
      have := set_flat (f := Wide.cells) (n := 2) (xs := xs) (i := i) (fld := 0) (x := x) (y := ⟨n, m⟩) (vs := [Value.int .i64 n, Value.int .u64 m]) (fun _ => rfl) hx (by simp) (by simp [Wide.cells])
      simpa [toVs, SV.toV] using this
    · exact h.elim

theorem vecGet_at {idx : Nat} {K : List SV → Prop} : ∀ {l : List SV} {j0 : Nat}, vecGet idx K l j0 → ∀ (j : Nat) (hj : idx - j0 < l.length), j0 ≤ idx → K [l[idx - j0]]
  | [], j0, h, j, hj, _ => by simp at hj
  | [c], j0, h, j, hj, hle => by
    have e : idx = j0 := by simp at hj; omega
    subst e
    simpa using h rfl
  | c :: d :: l, j0, h, j, hj, hle => by
    by_cases e : idx = j0
    · subst e; simpa using h.1 rfl
    · have hlt : idx - (j0 + 1) < (d :: l).length := by simp at hj ⊢; omega
      have := vecGet_at h.2 j hlt (by omega)
      have e2 : idx - j0 = (idx - (j0 + 1)) + 1 := by omega
      simpa [e2] using this
theorem rd_sound {hp : Heap} {key wd idx fld n : Nat} {K : List SV → Prop} (h : rd hp key wd idx fld n K) (hh : HOk ρ hp w) :
    ∃ cs, K cs ∧ cs.length = n ∧ ∀ j u, cs[j]? = some u → w.cell? ⟨(addrOf (ρ key)).block, (addrOf (ρ key)).off + (idx * wd + fld) + j, none⟩ = some (u.toV ρ) := by
  unfold rd at h
  split at h
  · rename_i t cells hl
    split at h
    · cases hb : Nat.ble (fld + n) cells.length with
      | false => rw [hb] at h; exact h.elim
      | true =>
        rw [hb] at h
        simp only [cond_true] at h
        have hb := ble_le hb
        refine ⟨_, h, by simp; omega, fun j u hu => ?_⟩
        obtain ⟨g, hg, hhas⟩ := hh.ent key _ hl
        rw [List.getElem?_take] at hu
        split at hu
        · rw [List.getElem?_drop] at hu
          rw [hg]
          simp only [addrOf, Nat.mul_zero, Nat.zero_add]
          rw [hhas.cell, List.getElem?_toArray, toVs_eq, List.getElem?_map, hu]
          rfl
        · cases hu
    · exact h.elim
  · rename_i o t r hl
    cases hb : Nat.beq wd r.width with
    | false => rw [hb] at h; exact h.elim
    | true =>
      rw [hb] at h
      simp only [cond_true] at h
      have hb := beq_eq hb
      subst hb
      obtain ⟨cs, h, hi, hlen, hc⟩ := Row.get_sound h ρ
      cases hb : Nat.ble (fld + n) cs.length with
      | false => rw [hb] at h; exact h.elim
      | true =>
        rw [hb] at h
        simp only [cond_true] at h
        have hb := ble_le hb
        refine ⟨_, h, by simp; omega, fun j u hu => ?_⟩
        obtain ⟨A, c, hv, hlc, hA⟩ := EntOk.reads (hh.ent key _ hl)
        obtain ⟨b, off, rfl, hcell⟩ := hA (by omega)
        rw [List.getElem?_take] at hu
        split at hu
        · rw [List.getElem?_drop] at hu
          rw [hv]
          simp only [addrOf]
          have := hcell _ _ (hc _ _ hu)
          rw [← this]
          congr 2
          omega
        · cases hu
  · rename_i t cs hl
    cases hb : (Nat.beq wd 1 && Nat.beq fld 0 && Nat.beq n 1) with
    | false => rw [hb] at h; exact h.elim
    | true =>
      rw [hb] at h
      simp only [cond_true] at h
      simp only [Bool.and_eq_true] at hb
      have b1 := beq_eq hb.1.1
      have b2 := beq_eq hb.1.2
      have b3 := beq_eq hb.2
      subst b1; subst b2; subst b3
      obtain ⟨g, hg, hhas⟩ := hh.ent key _ hl
      refine ⟨_, vecGet_at h.2 0 (by omega) (Nat.zero_le _), rfl, fun j u hu => ?_⟩
      have hj : j = 0 := by have := (List.getElem?_eq_some_iff.1 hu).1; simp at this; omega
      subst hj
      simp only [List.getElem?_cons_zero, Option.some.injEq] at hu
      subst hu
      rw [hg]
      simp only [addrOf, Nat.mul_one, Nat.add_zero, Nat.zero_add]
      rw [hhas.cell, List.getElem?_toArray, toVs_eq, List.getElem?_map]
      simp only [Nat.sub_zero, List.getElem?_eq_getElem h.1, Option.map_some]
  · exact h.elim
  · exact h.elim
  · exact h.elim
end

section
variable {P : Program} {T : Tys} {w0 : World} {S0 : Nat → Prop} {N n0 : Nat} {ρ0 : Nat → Value} {ρ : Nat → Value} {s : St} {a : Act} {w : World}

theorem load_sound {o : Oper} {ty : TypeId} {x : Operand} {K : St → Prop} (hT : TsOk P T) (ho : o.op = .load ty x) {Γ : Specs} (h : vcOp T Γ N o s K) (hs : Sym w0 S0 N n0 ρ0 ρ s a w)
    {K' : Act → World → Prop} {Q : Exit → Act → World → Prop} (hK : ∀ s' ρ' a' w', Sym w0 S0 N n0 ρ0 ρ' s' a' w' → K s' → K' a' w') : o.wp P a w K' Q := by
  unfold vcOp at h
  rw [ho] at h
  simp only at h
  split at h
  · rename_i key wd idx fld ti hv hti
    have ht := hT _ _ hti
    obtain ⟨cs, h, hlen, hc⟩ := rd_sound h hs.hp
    have he := ev_sound hs hv
    simp only [SV.toV] at he
    cases hg : ti.agg with
    | true =>
      rw [hg] at h
      simp only [cond_true] at h
      have hl := run_loadCells_list (P := P) w ⟨(addrOf (ρ key)).block, (addrOf (ρ key)).off + (idx * wd + fld), none⟩ (toVs ρ cs) (fun j v hj => by
        rw [toVs_eq, List.getElem?_map] at hj
        cases hu : cs[j]? with
        | none => rw [hu] at hj; cases hj
        | some u =>
          rw [hu] at hj; cases hj
          rw [Addr.add_lit]
          exact hc j u hu)
      rw [show (toVs ρ cs).length = ti.zs.length by rw [toVs_eq, List.length_map, hlen]] at hl
      refine wp_val (v := SV.toV ρ (.agg cs)) (w' := w) ?_ (toDst_sound h hs hK)
      simp [execOp, ho, he, Instr.loadAt, Instr.sureAddr, loadVar, ht.run_isAgg, hg, ht.run_size, hl, SV.toV]
    | false =>
      rw [hg] at h
      simp only [cond_false] at h
      cases cs with
      | nil => exact h.elim
      | cons c cs =>
        cases cs with
        | cons _ _ => exact h.elim
        | nil =>
          refine wp_val (v := SV.toV ρ c) (w' := w) ?_ (toDst_sound h hs hK)
          have := hc 0 c rfl
          simp only [Nat.add_zero] at this
          simp [execOp, ho, he, Instr.loadAt, Instr.sureAddr, loadVar, ht.run_isAgg, hg, run_load, this]
  · exact h.elim

theorem grownBy_setRow (w : World) (g : Nat) (cs : Array Value) : w.grownBy (w.setRow g cs) (some g) :=
  ⟨rfl, rfl, rfl, by simp, fun k _ hne => setRow_other w g k cs (fun e => hne (by rw [e]))⟩

theorem run_storeVar {ty : TypeId} {ti : TI} (ht : TiOk P ty ti) {v : Value} {vs : List Value} (hv : v.cells = vs.toArray) (hl : vs.length = ti.zs.length) {g off : Nat} {cur : Array Value} {t : TypeId}
    (hg : w.heap[g]? = some (.cells cur t (0, 0))) (hfit : off + vs.length ≤ cur.size) (h1 : ∀ u ∈ vs, u.oneCell' = true) :
    (storeVar ty ⟨g, off, none⟩ v).run P w = .ok () (w.setRow g (cur.toList.take off ++ vs ++ cur.toList.drop (off + vs.length)).toArray) := by
  have hst := run_storeCells_at P g off t vs 0 cur w hg (by simpa using hfit) h1
  simp only [Nat.add_zero] at hst
  simp [storeVar, ht.run_size, hv, hl, hst]

theorem store_sound {o : Oper} {ty : TypeId} {x y : Operand} {K : St → Prop} (hT : TsOk P T) (ho : o.op = .store ty x y) {Γ : Specs} (h : vcOp T Γ N o s K) (hs : Sym w0 S0 N n0 ρ0 ρ s a w)
    {K' : Act → World → Prop} {Q : Exit → Act → World → Prop} (hK : ∀ s' ρ' a' w', Sym w0 S0 N n0 ρ0 ρ' s' a' w' → K s' → K' a' w') : o.wp P a w K' Q := by
  unfold vcOp at h
  rw [ho] at h
  simp only at h
  split at h
  · rename_i key wd idx fld v ti hx hy hti hdst
    have ht := hT _ _ hti
    have hx' := ev_sound hs hx
    have hy' := ev_sound hs hy
    cases hkey : Nat.blt key s.nk with
    | false => rw [hkey] at h; exact h.elim
    | true =>
      rw [hkey] at h
      simp only [cond_true] at h
      have hkey := blt_lt hkey
      obtain ⟨v', s', ρ', h2, hs', hv', hρ, _⟩ := nrm_sound h hs
      clear h
      have h := h2
      clear h2
      rw [← hv'] at hy'
      simp only [SV.toV] at hx'
      rw [← hρ key hkey] at hx'
      cases hlen : Nat.beq v'.cells.length ti.zs.length with
      | false => rw [hlen] at h; exact h.elim
      | true =>
        rw [hlen] at h
        have hlen := beq_eq hlen
        simp only [cond_true] at h
        have fin : ∀ w', (storeVar ty ⟨(addrOf (ρ' key)).block, (addrOf (ρ' key)).off + (idx * wd + fld), none⟩ (v'.toV ρ')).run P w = .ok () w' → K' a w' → o.wp P a w K' Q := by
          intro w' hrun hk
          unfold Oper.wp
          have : (execOp a.eval o).run P w = .ok .skip w' := by
            simp [execOp, ho, hx', hy', Instr.storeAt, Instr.sureAddr, hrun]
          rw [this]
          simp only [Oper.upon, hdst, Act.put]
          exact hk
        unfold wr at h
        split at h
        · rename_i t cells hl
          split at h
          · cases hb : (Nat.ble (fld + v'.cells.length) cells.length && allOne v'.cells) with
            | false => rw [hb] at h; exact h.elim
            | true =>
              rw [hb] at h
              simp only [cond_true] at h
              simp only [Bool.and_eq_true] at hb
              have hfit := ble_le hb.1
              obtain ⟨g, hg, hhas⟩ := hs'.hp.ent key _ hl
              have hcs := cells_toV v' hb.2 hs'.hp.one
              have hvl : (toVs ρ' v'.cells).length = v'.cells.length := by simp [toVs_eq]
              have hrun := run_storeVar (P := P) ht hcs (by rw [hvl, hlen]) (g := g) (off := 0 + (idx * 0 + fld)) hhas (by rw [hvl]; simp [toVs_eq]; omega) (allOne_toVs hs'.hp.one hb.2)
              refine fin _ (by rw [hg]; exact hrun) (hK _ ρ' a _ (hs'.turn (e' := .box true t (cells.take fld ++ v'.cells ++ cells.drop (fld + v'.cells.length))) hl rfl rfl (grownBy_setRow w g _) (fun _ => Iff.rfl) hg ?_) h)
              refine ⟨g, hg, ?_⟩
              refine (setRow_heap w g _ _ t (0, 0) hhas).trans ?_
              simp only [hvl, Nat.mul_zero, Nat.zero_add]
              congr 2
              simp [toVs_eq, List.map_take, List.map_drop]
          · exact h.elim
        · rename_i t r hl
          cases hb : Nat.beq wd r.width with
          | false => rw [hb] at h; exact h.elim
          | true =>
            rw [hb] at h
            have hb := beq_eq hb
            subst hb
            try simp only [cond_true] at h
            obtain ⟨r', h, hi, hl', hw', hfit, hcells, hones⟩ := Row.set_sound h ρ'
            have hent := hs'.hp.ent key _ hl
            have hallone : allOne v'.cells = true := by
              have : ∀ l : List SV, (∀ u ∈ toVs ρ' l, u.oneCell' = true) → allOne l = true := by
                intro l
                induction l with
                | nil => intro _; rfl
                | cons s l ih =>
                  intro hh
                  simp only [allOne, Bool.and_eq_true]
                  refine ⟨?_, ih fun u hu => hh u (by simp [toVs, hu])⟩
                  have := hh (s.toV ρ') (by simp [toVs])
                  cases s <;> first | rfl | (exact this) | (simp [SV.toV, Value.oneCell'] at this)
              exact this _ hones
            have hcs := cells_toV v' hallone hs'.hp.one
            have hvl : (toVs ρ' v'.cells).length = v'.cells.length := by simp [toVs_eq]
            rcases hent.2 with ⟨_, h0⟩ | ⟨g, cap, cur, hg, hbg, hheap, hn, hc, hsz, htake⟩
            · omega
            · have hmul : (idx + 1) * r.width ≤ r.len * r.width := Nat.mul_le_mul_right _ hi
              have hmul2 : r.len * r.width ≤ cap * r.width := Nat.mul_le_mul_right _ hn
              rw [Nat.add_mul] at hmul
              have hrun := run_storeVar (P := P) ht hcs (by rw [hvl, hlen]) (g := g) (off := 0 + (idx * r.width + fld)) hheap (by rw [hvl, hsz]; omega) (allOne_toVs hs'.hp.one hallone)
              refine fin _ (by rw [hg]; exact hrun) (hK _ ρ' a _ (hs'.turn (e' := .row true t r') hl rfl rfl (grownBy_setRow w g _) (fun _ => Iff.rfl) (by rw [hg]; rfl) ?_) h)
              refine ⟨by rw [Row.cells_len], .inr ⟨g, cap, _, by rw [hg, hl'], hbg, setRow_heap w g _ _ t (0, 0) hheap, by rw [hl']; exact hn, hc, ?_, ?_⟩⟩
              · rw [hw', ← hsz]
                simp only [List.size_toArray, List.length_append, List.length_take, List.length_drop, Array.length_toList, hvl]
                rw [hsz]; omega
              · rw [hl', hw', hcells, ← htake]
                simp only [Nat.zero_add, hvl]
                have e0 : (toVs ρ' v'.cells).length = v'.cells.length := hvl
                rw [List.take_append, List.take_append]
                simp only [List.length_append, List.length_take, Array.length_toList, e0, hsz]
                rw [List.take_take, List.take_take, List.take_of_length_le (l := toVs ρ' v'.cells) (by rw [e0]; omega), Nat.min_eq_right (by omega), Nat.min_eq_left (by omega)]
                congr 1
                · rw [Nat.min_eq_left (by omega)]
                · rw [List.drop_take]
        · exact h.elim
  · exact h.elim
end
end Go.Vc
