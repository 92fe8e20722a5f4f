/-
  THE SYMBOLIC EXECUTOR IS SOUND, 5: literals, make, append, len, min, max. No program in sight.
-/
import Derived.Test.YtnoocfcmlilffaaVc6
set_option linter.all false
set_option linter.unusedSimpArgs false
set_option linter.unusedVariables false
namespace Go.Vc
open Go Go.RowKit Go.Ql Go.Draw

theorem fold_set (off : Nat) : ∀ (vs : List Value) (k : Nat) (cells : Array Value), off + k + vs.length ≤ cells.size →
    (vs.zipIdx k).foldl (fun cs (p : Value × Nat) => cs.setIfInBounds (off + p.2) p.1) cells = (cells.toList.take (off + k) ++ vs ++ cells.toList.drop (off + k + vs.length)).toArray
  | [], k, cells, h => by simp
  | v :: vs, k, cells, h => by
    simp only [List.length_cons] at h
    rw [List.zipIdx_cons, List.foldl_cons, fold_set off vs (k + 1) _ (by simp; omega)]
    apply Array.toList_inj.1
    simp only [Array.toList_setIfInBounds, List.length_cons]
    rw [show off + (k + 1) = off + k + 1 by omega, show off + k + (vs.length + 1) = off + k + 1 + vs.length by omega]
    rw [List.drop_set_of_lt (by omega), List.take_set, List.set_eq_take_append_cons_drop]
    have hl : off + k < (cells.toList.take (off + k + 1)).length := by simp; omega
    rw [if_pos hl, List.take_take, Nat.min_eq_left (by omega), List.drop_of_length_le (l := cells.toList.take (off + k + 1)) (by simp; omega)]
    simp
theorem fold_set0 (off : Nat) (vs : Array Value) (cells : Array Value) (h : off + vs.size ≤ cells.size) :
    vs.zipIdx.foldl (fun cs (x : Value × Nat) => match x with | (c, j) => cs.setIfInBounds (off + j) c) cells = (cells.toList.take off ++ vs.toList ++ cells.toList.drop (off + vs.size)).toArray := by
  have := fold_set off vs.toList 0 cells (by simpa using h)
  rw [← Array.foldl_toList, Array.toList_zipIdx]
  simpa using this

section
variable {P : Program} {T : Tys} {w0 : World} {S0 : Nat → Prop} {N n0 : Nat} {ρ0 : Nat → Value} {ρ : Nat → Value} {s : St} {a : Act} {w : World}

theorem fillS_sound (hone : ∀ k, (ρ k).oneCell' = true) {fs : List (Nat × Nat × Bool)} : ∀ {parts : List (Nat × SV)} {cells cs : List SV}, fillS fs cells parts = some cs →
    Instr.fill (fun i => (fs.map fun f => (f.1, f.2.1))[i]?) (toVs ρ cells).toArray (parts.map fun p => (p.1, p.2.toV ρ)) = some (toVs ρ cs).toArray
  | [], cells, cs, h => by cases h; rfl
  | (i, v) :: parts, cells, cs, h => by
    unfold fillS at h
    split at h
    · rename_i off n ag hf
      cases hb : (Nat.beq v.cells.length n && Nat.ble (off + n) cells.length && allOne v.cells) with
      | false => rw [hb] at h; cases h
      | true =>
        rw [hb] at h
        simp only [cond_true] at h
        simp only [Bool.and_eq_true] at hb
        obtain ⟨⟨b1, b2⟩, b3⟩ := hb
        have b1 := beq_eq b1
        have b2 := ble_le b2
        have hc := cells_toV v b3 hone
        have hlen : (toVs ρ v.cells).length = n := by rw [toVs_eq, List.length_map, b1]
        have hlen2 : (toVs ρ cells).length = cells.length := by rw [toVs_eq, List.length_map]
        have ih := fillS_sound hone h
        simp only [List.map_cons, Instr.fill, List.getElem?_map, hf, Option.map_some]
        rw [hc]
        simp only [List.size_toArray, hlen, hlen2]
        rw [if_neg (by simp; omega)]
        rw [fold_set0 off _ _ (by simp [hlen, hlen2]; omega)]
        simp only [List.toList_toArray, List.size_toArray, hlen]
        have : (toVs ρ cells).take off ++ toVs ρ v.cells ++ (toVs ρ cells).drop (off + n) = toVs ρ (cells.take off ++ v.cells ++ cells.drop (off + n)) := by
          simp [toVs_eq, List.map_take, List.map_drop]
        rw [this]
        simpa only [List.getElem?_map] using ih
    · cases h

theorem build_sound (hT : TsOk P T) {o : Oper} {ty : TypeId} {parts : Array (Nat × Operand)} {K : St → Prop} (ho : o.op = .build ty parts) {Γ : Specs} (h : vcOp T Γ N o s K) (hs : Sym w0 S0 N n0 ρ0 ρ s a w)
    {K' : Act → World → Prop} {Q : Exit → Act → World → Prop} (hK : ∀ s' ρ' a' w', Sym w0 S0 N n0 ρ0 ρ' s' a' w' → K s' → K' a' w') : o.wp P a w K' Q := by
  unfold vcOp at h
  rw [ho] at h
  simp only at h
  split at h
  · rename_i ti vs hti hv
    have hv := evs_sound hs hv
    have ht := hT _ _ hti
    cases hb : (s.kb && kbs s.nk vs && ti.agg && !ti.fs.isEmpty) with
    | false => rw [hb] at h; exact h.elim
    | true =>
      rw [hb] at h
      simp only [Bool.and_eq_true] at hb
      obtain ⟨⟨⟨k1, k2⟩, k3⟩, k4⟩ := hb
      cases hz : zeros ti.zs s.nk with
      | mk cells hn =>
      obtain ⟨hh, n⟩ := hn
      rw [hz] at h
      simp only [cond_true] at h
      obtain ⟨z1, z2, z3, z4⟩ := zeros_sound _ _ _ _ _ hz
      split at h
      · rename_i cs hcs
        let ρ' : Nat → Value := fun k => if k < s.nk then ρ k else .slice none 0 0
        have r1 : ∀ k, k < s.nk → ρ' k = ρ k := fun k hk => by simp [ρ', hk]
        have r2 : ∀ k, s.nk ≤ k → k < n → ρ' k = .slice none 0 0 := fun k h1 h2 => by simp only [ρ']; rw [if_neg (by omega)]
        have hone : ∀ k, (ρ' k).oneCell' = true := fun k => by
          simp only [ρ']; split
          · exact hs.hp.one k
          · rfl
        have hs' : Sym w0 S0 N n0 ρ0 ρ' { tm := s.tm, hp := hh ++ s.hp, nk := n } a w := by
          refine hs.more k1 z1 (grownBy_refl w none) r1 hone (fun k e hl => (z3 k e hl).1) (fun k e hl => ?_) (fun k e hl g hg => ?_) (fun k e k' e' hl hl' hne g hg => ?_)
          · obtain ⟨a1, a2, t, rk, rfl⟩ := z3 k e hl
            rw [r2 k a1 a2]; exact EntOk_nil _ t rk
          · obtain ⟨a1, a2, t, rk, rfl⟩ := z3 k e hl
            rw [r2 k a1 a2] at hg; simp [Ent.touch, Value.ownBlock] at hg
          · obtain ⟨a1, a2, t, rk, rfl⟩ := z3 k e hl
            rw [r2 k a1 a2] at hg; simp [Ent.touch, Value.ownBlock] at hg
        have hfs : ti.fs ≠ [] := by intro e; rw [e] at k4; simp at k4
        have hpl := ht.pl hfs
        obtain ⟨i, hi, hsz, hzero⟩ := ht.parts
        have hfill := fillS_sound hone hcs
        have hcells : (toVs ρ' cells).toArray = ti.zero.cells := by rw [z2 ρ' r2, ht.zero_cells]
        rw [hcells] at hfill
        have hparts : ((parts.toList.map (·.1)).zip vs).map (fun p => (p.1, p.2.toV ρ')) = (parts.map fun (i, x) => (i, a.eval x)).toList := by
          have e1 : toVs ρ' vs = (parts.toList.map (·.2)).map a.eval := by rw [toVs_congr r1 vs k2, ← hv]
          rw [toVs_eq] at e1
          have e2 : ((parts.toList.map (·.1)).zip vs).map (fun p => (p.1, p.2.toV ρ')) = (parts.toList.map (·.1)).zip (vs.map (SV.toV ρ')) := by
            rw [List.zip_map_right]; rfl
          rw [e2, e1]
          simp only [Array.toList_map]
          generalize parts.toList = l
          induction l with
          | nil => rfl
          | cons p l ih => simp only [List.map_cons, List.zip_cons_cons, ih]
        rw [hparts] at hfill
        have hbuilt : P.built ty (parts.map fun (i, x) => (i, a.eval x)).toList = some (toVs ρ' cs).toArray := by
          cases hu : P.underlying ty with
          | none => rw [hu] at hpl; cases hpl
          | some d =>
            rw [hu] at hpl
            simp only [Option.map_some, Option.some.injEq] at hpl
            cases d <;> try (simp [placesD] at hpl; done)
            rename_i fields
            simp only [placesD] at hpl
            unfold Program.built
            simp only [hi, hu, hzero, hpl]
            simpa using hfill
        refine wp_val (v := SV.toV ρ' (.agg cs)) (w' := w) ?_ (toDst_sound h hs' hK)
        unfold execOp
        simp only [ho, Sem.run_bind, run_build w ty _ _ hbuilt, Result.andThen_ok, SV.toV]
        rfl
      · exact h.elim
  · exact h.elim

/-! ### rows of elements -/
theorem snoc_sound {r r' : Row} {cs : List SV} (h : r.snoc cs = some r') (ρ : Nat → Value) : r'.cells = r.cells ++ toVs ρ cs ∧ r'.len = r.len + 1 ∧ r'.width = r.width ∧ cs.length = r.width ∧ allOne cs = true := by
  cases r with
  | ints k xs =>
    rcases cs with _ | ⟨c, _ | ⟨d, cs⟩⟩
    · simp [Row.snoc] at h
    · cases c <;> try (simp [Row.snoc] at h; done)
      rename_i k' n
      simp only [Row.snoc] at h
      cases hk : kEq k k' with
      | false => rw [hk] at h; cases h
      | true =>
        rw [hk] at h
        have := kEq_eq hk
        subst this
        cases h
        simp [Row.cells, Row.len, Row.width, toVs, SV.toV, allOne, SV.one]
    · simp [Row.snoc] at h
  | bools xs =>
    simp only [Row.snoc] at h
    split at h <;> first
      | (cases h; done)
      | (cases h; simp_all [Row.cells, Row.len, Row.width, toVs, SV.toV, allOne, SV.one]; done)
      | (exfalso; simp_all; done)
  | arcs xs =>
    simp only [Row.snoc] at h
    split at h <;> first
      | (cases h; done)
      | (cases h; simp_all [Row.cells, Row.len, Row.width, toVs, SV.toV, allOne, SV.one, Arc.cells]; done)
      | (exfalso; simp_all; done)
  | wides xs =>
    simp only [Row.snoc] at h
    split at h <;> first
      | (cases h; done)
      | (cases h; simp_all [Row.cells, Row.len, Row.width, toVs, SV.toV, allOne, SV.one, Wide.cells]; done)
      | (exfalso; simp_all; done)

theorem snocs_sound (ρ : Nat → Value) : ∀ {vs : List SV} {r r' : Row}, r.snocs vs = some r' → r'.cells = r.cells ++ vs.flatMap (fun v => toVs ρ v.cells) ∧ r'.len = r.len + vs.length ∧ r'.width = r.width ∧ ∀ v ∈ vs, v.cells.length = r.width ∧ allOne v.cells = true
  | [], r, r', h => by
    simp only [Row.snocs, Option.some.injEq] at h; subst h; simp
  | v :: vs, r, r', h => by
    simp only [Row.snocs] at h
    split at h
    · rename_i r1 h1
      obtain ⟨a1, a2, a3, a4, a5⟩ := snoc_sound h1 ρ
      obtain ⟨b1, b2, b3, b4⟩ := snocs_sound ρ h
      refine ⟨by rw [b1, a1]; simp, by rw [b2, a2]; simp; omega, by rw [b3, a3], fun u hu => ?_⟩
      rcases List.mem_cons.1 hu with rfl | hu
      · exact ⟨a4, a5⟩
      · have := b4 u hu; rw [a3] at this; exact this
    · cases h

theorem fill_row (size : Nat) : ∀ (vs : List Value) (k : Nat) (cells : Array Value), cells.size = (k + vs.length) * size → (∀ v ∈ vs, v.cells.size = size) →
    Instr.fill (fun i => some (i * size, size)) cells ((List.range' k vs.length).zip vs) = some (cells.toList.take (k * size) ++ vs.flatMap (fun v => v.cells.toList)).toArray
  | [], k, cells, h, _ => by
    simp only [List.length_nil, List.range'_zero, List.zip_nil_left, Instr.fill, List.flatMap_nil, List.append_nil, Option.some.injEq]
    rw [List.take_of_length_le (by simp at h ⊢; omega)]
  | v :: vs, k, cells, h, hv => by
    have hv0 := hv v (by simp)
    have hle : k * size + size ≤ cells.size := by
      rw [h]
      have : (k + 1) * size ≤ (k + (v :: vs).length) * size := Nat.mul_le_mul_right _ (by simp)
      rw [Nat.add_mul] at this; omega
    rw [List.length_cons, List.range'_succ, List.zip_cons_cons]
    simp only [Instr.fill]
    rw [if_neg (by simp [hv0]; omega), fold_set0 _ _ _ (by rw [hv0]; exact hle)]
    rw [fill_row size vs (k + 1) _ (by rw [show k + 1 + vs.length = k + (v :: vs).length by simp; omega, ← h]; simp [hv0]; omega) (fun u hu => hv u (by simp [hu]))]
    simp only [List.toList_toArray, List.flatMap_cons, Option.some.injEq]
    congr 1
    rw [← List.append_assoc]
    congr 1
    rw [List.take_append, List.take_of_length_le (by simp [hv0]; rw [Nat.add_mul]; omega)]
    simp [hv0]
    rw [Nat.add_mul]
    omega
end
end Go.Vc
