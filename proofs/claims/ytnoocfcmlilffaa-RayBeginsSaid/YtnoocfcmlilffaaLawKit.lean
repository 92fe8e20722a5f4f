/-
  FROM A CONTRACT TO A LAW's CALL: arguments that are read only; the answer true; all memory as it was. No program in sight.
-/
import Derived.Test.YtnoocfcmlilffaaVc11
set_option linter.all false
set_option linter.unusedSimpArgs false
set_option linter.unusedVariables false
namespace Go.Vc
open Go Go.RowKit Go.Ql Go.Draw
section
variable {P : Program} {ρ : Nat → Value} {W : World}

def RoAll (ρ : Nat → Value) (W : World) : Heap → Prop
  | [] => True
  | (k, e) :: l => (e.own = false ∧ EntOk ρ W (ρ k) e) ∧ RoAll ρ W l
theorem RoAll.lk : ∀ {hp : Heap}, RoAll ρ W hp → ∀ {k : Nat} {e : Ent}, lk k hp = some e → e.own = false ∧ EntOk ρ W (ρ k) e
  | [], _, k, e, h => by simp [Vc.lk] at h
  | (j, d) :: l, hh, k, e, h => by
    rw [lk_cons] at h
    split at h
    · rename_i hk; subst hk; cases h; exact hh.1
    · exact RoAll.lk hh.2 h

theorem law_calls {f : FuncId} {fs : FS} (hent : ∀ args w, (callFunc f args).run P w = .ok (.enter f args) w) (h : SpecOk P f true (specOf true fs)) {args : List SV} {hp : Heap} (hone : ∀ k, (ρ k).oneCell' = true) (hro : RoAll ρ W hp) (E : Prop) (hE : E)
    (he : E = specOf true fs args hp hp.length (fun res _ _ => res = .bool true)) : Calls P f (toVs ρ args).toArray W fun e W' => e = .returned (.bool true) ∧ Below W.heap.size W W' := by
  have hs : specOf true fs args hp hp.length (fun res _ _ => res = .bool true) := he ▸ hE
  have hh : HOk ρ hp W := ⟨hone, fun k e hl => (hro.lk hl).2, fun k e k' e' hl hl' _ ho => by rw [(hro.lk hl).1] at ho; cases ho⟩
  cases h with
  | ext y =>
    obtain ⟨v, hv, _⟩ := y ρ hp hp.length W args _ hh hs
    rw [hent] at hv
    cases hv
  | fn enter calls =>
  refine (calls ρ hp hp.length W args _ hh hs).mono fun e W' hx => ?_
  obtain ⟨res, hp', nk', ρ', rfl, rfl, _, _, _, hfr, _, hold⟩ := hx
  refine ⟨by simp [SV.toV], ⟨hfr.os, hfr.tape, hfr.output, hfr.size, fun k hk => ?_⟩⟩
  exact (hold rfl).2 k hk

theorem ro_ints {A : Option Addr} {B c : Nat} {k : IntKind} {xs : List Int} (h : RowR (Value.int k) W B A xs ∧ xs.length ≤ c) : ROk W (.slice A xs.length c) (.ints k xs) := by
  refine ⟨A, c, rfl, h.2, fun h0 => ?_⟩
  obtain ⟨b, off, e, _, hc⟩ := h.1 h0
  refine ⟨b, off, e, fun j u hu => ?_⟩
  simp only [Row.cells, List.getElem?_map] at hu
  cases hx : xs[j]? with
  | none => rw [hx] at hu; cases hu
  | some x => rw [hx] at hu; cases hu; exact hc j x hx
theorem ro_bools {A : Option Addr} {B c : Nat} {xs : List Bool} (h : RowR Value.bool W B A xs ∧ xs.length ≤ c) : ROk W (.slice A xs.length c) (.bools xs) := by
  refine ⟨A, c, rfl, h.2, fun h0 => ?_⟩
  obtain ⟨b, off, e, _, hc⟩ := h.1 h0
  refine ⟨b, off, e, fun j u hu => ?_⟩
  simp only [Row.cells, List.getElem?_map] at hu
  cases hx : xs[j]? with
  | none => rw [hx] at hu; cases hu
  | some x => rw [hx] at hu; cases hu; exact hc j x hx
theorem ro_arcs {A : Option Addr} {B c : Nat} {xs : List Arc} (h : ArcsR W B A xs ∧ xs.length ≤ c) : ROk W (.slice A xs.length c) (.arcs xs) := by
  refine ⟨A, c, rfl, h.2, fun h0 => ?_⟩
  obtain ⟨b, off, e, _, hc⟩ := h.1 h0
  refine ⟨b, off, e, fun j u hu => ?_⟩
  have hlen : (Row.arcs xs).cells.length = xs.length * 5 := Row.cells_len (.arcs xs)
  have hj : j < xs.length * 5 := by rw [← hlen]; exact (List.getElem?_eq_some_iff.1 hu).1
  have hd : j / 5 < xs.length := by omega
  have hx := List.getElem?_eq_getElem hd
  have hat := hc (j / 5) _ hx
  have hfl := flat_get Arc.cells 5 (fun _ => rfl) xs (j / 5) _ hx (j % 5) (by omega)
  have hj2 : j / 5 * 5 + j % 5 = j := by omega
  rw [hj2] at hfl
  simp only [Row.cells] at hu
  rw [hu] at hfl
  obtain ⟨a0, a1, a2, a3, a4⟩ := hat
  have hm : j % 5 = 0 ∨ j % 5 = 1 ∨ j % 5 = 2 ∨ j % 5 = 3 ∨ j % 5 = 4 := by omega
  rcases hm with hm | hm | hm | hm | hm <;> rw [hm] at hfl <;> simp [Arc.cells] at hfl <;> subst hfl
  · rw [← a0]; congr 2; omega
  · rw [← a1]; congr 2; omega
  · rw [← a2]; congr 2; omega
  · rw [← a3]; congr 2; omega
  · rw [← a4]; congr 2; omega
end
end Go.Vc
