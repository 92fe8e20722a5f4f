/-
  CONTRACTS THAT WERE WALKED BY HAND, in the form of Go.Vc.
-/
import Derived.Test.YtimkpgkpebjglaaDA4
import Derived.Test.YtimkpgkpebjglaaInst5
import Derived.Test.YtimkpgkpebjglaaInst6
namespace Go.Vc
open Go Go.RowKit Go.Ql Go.Draw
section
variable {ρ : Nat → Value} {w : World}

theorem rowR_ints {v : Value} {k : IntKind} {xs : List Int} (h : ROk w v (.ints k xs)) : ∃ A c, v = .slice A xs.length c ∧ RowR (Value.int k) w w.heap.size A xs := by
  obtain ⟨A, c, rfl, hA⟩ := h
  refine ⟨A, c, rfl, fun h0 => ?_⟩
  obtain ⟨b, off, rfl, hc⟩ := hA h0
  have key : ∀ i x, xs[i]? = some x → w.cell? ⟨b, off + i, none⟩ = some (.int k x) := fun i x hx => hc i _ (by simp [Row.cells, hx])
  exact ⟨b, off, rfl, World.block_lt_of_cell? w _ (key 0 _ (List.getElem?_eq_getElem h0)), key⟩
theorem rowR_bools {v : Value} {xs : List Bool} (h : ROk w v (.bools xs)) : ∃ A c, v = .slice A xs.length c ∧ RowR Value.bool w w.heap.size A xs := by
  obtain ⟨A, c, rfl, hA⟩ := h
  refine ⟨A, c, rfl, fun h0 => ?_⟩
  obtain ⟨b, off, rfl, hc⟩ := hA h0
  have key : ∀ i x, xs[i]? = some x → w.cell? ⟨b, off + i, none⟩ = some (.bool x) := fun i x hx => hc i _ (by simp [Row.cells, hx])
  exact ⟨b, off, rfl, World.block_lt_of_cell? w _ (key 0 _ (List.getElem?_eq_getElem h0)), key⟩
theorem arcsR_ro {v : Value} {xs : List Arc} (h : ROk w v (.arcs xs)) : ∃ A c, v = .slice A xs.length c ∧ ArcsR w w.heap.size A xs := by
  obtain ⟨A, c, rfl, hA⟩ := h
  refine ⟨A, c, rfl, fun h0 => ?_⟩
  obtain ⟨b, off, rfl, hc⟩ := hA h0
  have key : ∀ i x, xs[i]? = some x → ArcAt w b (off + i * 5) x := fun i x hx => by
    have := fun j (hj : j < 5) => flat_get Arc.cells 5 (fun _ => rfl) xs i x hx j hj
    have g : ∀ j (hj : j < 5) u, x.cells[j]? = some u → w.cell? ⟨b, off + i * 5 + j, none⟩ = some u := fun j hj u hu => by
      have := hc (i * 5 + j) u (by rw [← hu]; exact this j hj)
      rw [← this]; congr 2; omega
    exact ⟨g 0 (by omega) _ rfl, g 1 (by omega) _ rfl, g 2 (by omega) _ rfl, g 3 (by omega) _ rfl, g 4 (by omega) _ rfl⟩
  have h5 := (key 0 _ (List.getElem?_eq_getElem h0)).1
  exact ⟨b, off, rfl, World.block_lt_of_cell? w _ h5, key⟩
theorem instR_ro {v u : Value} {I : Inst} (h1 : ROk w v (.ints .i64 I.sup)) (h2 : ROk w u (.arcs I.arcs)) : InstR w w.heap.size (.agg #[v, u]) I := by
  obtain ⟨A, c, rfl, r1⟩ := rowR_ints h1
  obtain ⟨A', c', rfl, r2⟩ := arcsR_ro h2
  exact ⟨A, c, A', c', rfl, r1, r2⟩

/-- two new rows, of different types -/
theorem leaves_two {hc : Heap} {w' : World} {p : Prop} {t1 t2 : TypeId} {r1 r2 : Row} {v1 v2 : Value} (hone : ∀ k, (ρ k).oneCell' = true) (h1 : w'.ownsRow w.heap.size t1 r1.width v1 r1.len r1.cells) (h2 : w'.ownsRow w.heap.size t2 r2.width v2 r2.len r2.cells)
    (hne : t1 ≠ t2) (hb : Below w.heap.size w w') : Leaves ρ hc { pre := p, res := .agg [.row hc.length, .row (hc.length + 1)], rows := [(t1, r1), (t2, r2)], eff := [] } w (.returned (.agg #[v1, v2])) w' := by
  let ρ2 : Nat → Value := fun k => if k = hc.length then v1 else if k = hc.length + 1 then v2 else ρ k
  have e1 : ρ2 hc.length = v1 := by simp [ρ2]
  have e2 : ρ2 (hc.length + 1) = v2 := by simp [ρ2]
  have hl : ∀ k e, lk k (newRows hc.length [(t1, r1), (t2, r2)] ++ []) = some e → (k = hc.length ∧ e = .row true t1 r1) ∨ (k = hc.length + 1 ∧ e = .row true t2 r2) := by
    intro k e hk
    simp only [newRows, List.append_nil, lk_cons] at hk
    split at hk
    · cases hk; exact .inl ⟨by assumption, rfl⟩
    · split at hk
      · cases hk; exact .inr ⟨by assumption, rfl⟩
      · simp [lk] at hk
  have dis : ∀ g, v1.ownBlock = some g → v2.ownBlock = some g → False := by
    intro g g1 g2
    obtain ⟨c1, hc1⟩ := ownsRow_has h1 g1
    obtain ⟨c2, hc2⟩ := ownsRow_has h2 g2
    exact hc1.ne hc2 hne rfl
  refine ⟨ρ2, by simp [SV.toV, toVs, e1, e2], ⟨fun k => ?_, fun k e hk => ?_, fun k e k' e' hk hk' hkk ho g ht ht' => ?_⟩, ⟨hb.os, hb.tape, hb.output, hb.size, fun k hk _ => hb.block k hk⟩, fun g hO => ?_, fun k hk => ?_⟩
  · simp only [ρ2]
    split
    · exact own_one h1
    · split
      · exact own_one h2
      · exact hone k
  · rcases hl k e hk with ⟨rfl, rfl⟩ | ⟨rfl, rfl⟩
    · rw [e1]; exact ownsRow_base h1 (Nat.zero_le _)
    · rw [e2]; exact ownsRow_base h2 (Nat.zero_le _)
  · rcases hl k e hk with ⟨rfl, rfl⟩ | ⟨rfl, rfl⟩ <;> rcases hl k' e' hk' with ⟨rfl, rfl⟩ | ⟨rfl, rfl⟩
    · exact hkk rfl
    · rw [e1] at ht; rw [e2] at ht'; exact dis g ht ht'
    · rw [e2] at ht; rw [e1] at ht'; exact dis g ht' ht
    · exact hkk rfl
  · obtain ⟨k, e, hk, _, ht⟩ := hO
    rcases hl k e hk with ⟨rfl, rfl⟩ | ⟨rfl, rfl⟩
    · rw [e1] at ht; exact .inr (h1.lt g ht).1
    · rw [e2] at ht; exact .inr (h2.lt g ht).1
  · simp only [ρ2]; rw [if_neg (by omega), if_neg (by omega)]
end
end Go.Vc
namespace Go.Proofs.Ytimkpgkpebjglaa
open Go Go.RowKit Go.Ql Go.Vc

theorem enter_of {f : FuncId} {fn : Func} (hf : Try.prog.funcs[f]? = some fn) (hb : fn.body.isSome = true) (hn : (fn.name == "runtime.NumGoroutine") = false) : ∀ args w, (callFunc f args).run Try.prog w = .ok (.enter f args) w := by
  intro args w
  obtain ⟨c, hc⟩ := Option.isSome_iff_exists.1 hb
  have hn' : ¬ fn.name = "runtime.NumGoroutine" := by simpa using hn
  simp [callFunc, hf, hn', hc]

theorem Inst_ok : SpecOk Try.prog Inst_n true (specOf true Inst_fs) := by
  refine spec_ok_gen (enter_of Try.func10 rfl rfl) fun args hc r ρ w hr hp hh => ?_
  unfold Inst_fs at hr
  split at hr
  · rename_i ty0 c ty1 d
    cases hr
    obtain ⟨p1, p2, p3, p4⟩ := hp
    obtain ⟨A, cc, e1, r1⟩ := rowR_ints (hh.ent 0 _ (by rw [lk_cons]; rfl)).reads
    obtain ⟨A', dd, e2, r2⟩ := rowR_ints (hh.ent 1 _ (by rw [lk_cons, lk_cons]; rfl)).reads
    have := inst_any A A' cc dd c d w r1 r2 p3 p4 p1 p2
    simp only [toVs, SV.toV, e1, e2]
    refine this.mono fun e w' he => ?_
    obtain ⟨v, rfl, ⟨v1, v2, rfl, o1, o2⟩, hb⟩ := he
    exact leaves_two (r1 := .ints .i64 (instF c d).sup) (r2 := .arcs (instF c d).arcs) hh.one o1 o2 (by decide) hb
  · cases hr

theorem Without_ok : SpecOk Try.prog Without_n true (specOf true Without_fs) := by
  refine spec_ok_gen (enter_of Try.func17 rfl rfl) fun args hc r ρ w hr hp hh => ?_
  unfold Without_fs at hr
  split at hr
  · rename_i ty0 I_s ty1 I_a ty2 nodes ty3 offs
    cases hr
    obtain ⟨p1, p2, p3, p4⟩ := hp
    have hI := instR_ro (I := ⟨I_s, I_a⟩) (hh.ent 0 _ (by rw [lk_cons]; rfl)).reads (hh.ent 1 _ (by rw [lk_cons, lk_cons]; rfl)).reads
    obtain ⟨B1, d1, e1, r1⟩ := rowR_bools (hh.ent 2 _ (by rw [lk_cons, lk_cons, lk_cons]; rfl)).reads
    obtain ⟨B2, d2, e2, r2⟩ := rowR_bools (hh.ent 3 _ (by rw [lk_cons, lk_cons, lk_cons, lk_cons]; rfl)).reads
    have := without_any _ ⟨I_s, I_a⟩ B1 B2 d1 d2 nodes offs w hI p1 p2 p3 p4 r1 r2
    simp only [toVs, SV.toV, e1, e2]
    refine this.mono fun e w' he => ?_
    obtain ⟨v1, v2, rfl, o1, o2, hb⟩ := he
    exact leaves_two (r1 := .ints .i64 (withoutF ⟨I_s, I_a⟩ nodes offs).sup) (r2 := .arcs (withoutF ⟨I_s, I_a⟩ nodes offs).arcs) hh.one o1 o2 (by decide) hb
  · cases hr
end Go.Proofs.Ytimkpgkpebjglaa
