/-
  FLOWS, PLAINLY: what the packages adj and flow compute. No program in sight.
-/
import Derived.Test.YtnoocfcmlilffaaNum
import Derived.Test.YtnoocfcmlilffaaSpec2
set_option linter.all false
set_option linter.unusedSimpArgs false
set_option linter.unusedVariables false
namespace Go.Ql
open Go Go.RowKit

def inf : Int := 4611686018427387904
/-- both ends are nodes -/
def okArc (n : Int) (a : Arc) : Bool := decide (0 ≤ a.src) && decide (a.src < n) && (decide (0 ≤ a.dst) && decide (a.dst < n))
theorem okArc_iff {n : Int} {a : Arc} : okArc n a = true ↔ 0 ≤ a.src ∧ a.src < n ∧ 0 ≤ a.dst ∧ a.dst < n := by
  simp [okArc, and_assoc]
def A64 (l : List Int) : Prop := ∀ x ∈ l, I64 x
theorem A64.getD {l : List Int} (h : A64 l) (k : Nat) : I64 (l.getD k 0) := by
  by_cases hk : k < l.length
  · have := h _ (List.getElem_mem hk)
    simpa [List.getD, hk] using this
  · simp [List.getD, hk, I64]
/-- what an arc adds to what a node sends -/
def flowD (n : Int) (a : Arc) (f : Int) (v : Int) : Int := if okArc n a then (if a.src = v then f else 0) - (if a.dst = v then f else 0) else 0
def netK (n : Int) (l : List Arc) (x : List Int) : Nat → Int → Int
  | 0, _ => 0
  | k + 1, v => netK n l x k v + flowD n (l.getD k default) (x.getD k 0) v
def netF (I : Inst) (x : List Int) : List Wide := (List.range I.sup.length).map (fun v : Nat => W (netK I.sup.length I.arcs x I.arcs.length v))
def costK (l : List Arc) (x : List Int) : Nat → Int
  | 0 => 0
  | k + 1 => costK l x k + (l.getD k default).cost * x.getD k 0
def costF (I : Inst) (x : List Int) : Int := costK I.arcs x I.arcs.length
def fitF (a : Arc) (x : Int) : Bool := decide (a.low ≤ x) && (decide (a.cap = inf) || decide (x ≤ a.cap))
def fitsAll : List Arc → List Int → Bool
  | [], _ => true
  | a :: l, x => fitF a (x.headD 0) && fitsAll l x.tail
def netOk (I : Inst) (x : List Int) : Bool := (List.range I.sup.length).all (fun v => decide (W (netK I.sup.length I.arcs x I.arcs.length v) = W (I.sup.getD v 0)))
def fitsF (I : Inst) (x : List Int) : Int :=
  if rightF I ≠ 0 then rightF I else if x.length ≠ I.arcs.length then 30 else if !fitsAll I.arcs x then 31 else if !netOk I x then 32 else 0

def gOk (n : Int) (l : List Arc) (a : Int) : Bool := decide (0 ≤ a) && decide (a < l.length) && okArc n (l.getD a.toNat default)
def gArc (n : Int) (l : List Arc) (a : Int) : Arc := if gOk n l a then l.getD a.toNat default else ⟨0, 0, 0, 0, 0⟩
def netAt (I : Inst) (x : List Int) (k : Nat) : List Wide := (List.range I.sup.length).map (fun v : Nat => W (netK I.sup.length I.arcs x k v))
def flowF (I : Inst) (d : List Int) : List Int := (List.range I.arcs.length).map (fun k => useOf d k (I.arcs.getD k default))
def roomF (I : Inst) (x : List Int) (a : Int) : Int × Int :=
  if a < 0 ∨ I.arcs.length ≤ a then (0, 0)
  else if fitF (I.arcs.getD a.toNat default) (x.getD a.toNat 0) then
    (if (I.arcs.getD a.toNat default).cap = inf then inf else IntKind.i64.wrap ((I.arcs.getD a.toNat default).cap - x.getD a.toNat 0), IntKind.i64.wrap (x.getD a.toNat 0 - (I.arcs.getD a.toNat default).low))
  else (0, 0)
def chk (n : Int) : Int := if I64 n then n else 0
def roomR (I : Inst) (x : List Int) (a : Int) : Int × Int :=
  if a < 0 ∨ I.arcs.length ≤ a then (0, 0)
  else if fitF (I.arcs.getD a.toNat default) (x.getD a.toNat 0) then
    (if (I.arcs.getD a.toNat default).cap = inf then inf else chk ((I.arcs.getD a.toNat default).cap - x.getD a.toNat 0), chk (x.getD a.toNat 0 - (I.arcs.getD a.toNat default).low))
  else (0, 0)
def A64a (l : List Arc) : Prop := ∀ a ∈ l, I64 a.low ∧ I64 a.cap
def A64c (l : List Arc) : Prop := ∀ a ∈ l, I64 a.cost
def L42 (l : List Arc) : Prop := ∀ a ∈ l, 0 ≤ a.low ∧ a.low ≤ 4398046511104
theorem gOk_at {n : Int} {l : List Arc} {a : Int} {x : Arc} (h0 : 0 ≤ a) (h : l[a.toNat]? = some x) : gOk n l a = okArc n x := by
  have hl := get_lt h
  unfold gOk
  have hg : l.getD a.toNat default = x := by simp [List.getD, h]
  rw [hg]
  simp [h0, show a < (l.length : Int) by omega]
theorem gArc_at {n : Int} {l : List Arc} {a : Int} {x : Arc} (h0 : 0 ≤ a) (h : l[a.toNat]? = some x) : gArc n l a = if okArc n x then x else ⟨0, 0, 0, 0, 0⟩ := by
  have hg : l.getD a.toNat default = x := by simp [List.getD, h]
  unfold gArc
  rw [gOk_at h0 h, hg]
theorem gOk_out {n : Int} {l : List Arc} {a : Int} (h : a < 0 ∨ l.length ≤ a) : gOk n l a = false := by
  unfold gOk
  rcases h with h | h
  · simp [show ¬ 0 ≤ a by omega]
  · simp [show ¬ a < (l.length : Int) by omega]
theorem gArc_out {n : Int} {l : List Arc} {a : Int} (h : a < 0 ∨ l.length ≤ a) : gArc n l a = ⟨0, 0, 0, 0, 0⟩ := by
  unfold gArc; rw [gOk_out h]; rfl
theorem map_range_set {α : Type} (f : Nat → α) (n j : Nat) (v : α) : ((List.range n).map f).set j v = (List.range n).map (fun t => if t = j then v else f t) := by
  apply List.ext_getElem?
  intro i
  rw [List.getElem?_set]
  by_cases hi : i < n
  · by_cases h : j = i
    · subst h; simp [hi]
    · have h' : ¬ i = j := fun e => h e.symm
      simp [h, h', hi]
  · by_cases h : j = i
    · subst h; simp [hi]
    · simp [h, hi]
theorem map_range_get {α : Type} {f : Nat → α} {n j : Nat} {v : α} (h : ((List.range n).map f)[j]? = some v) : j < n ∧ v = f j := by
  rw [List.getElem?_map] at h
  obtain ⟨z, hz, rfl⟩ := Option.map_eq_some_iff.1 h
  have hj : j < n := by have := get_lt hz; simpa using this
  rw [List.getElem?_range hj] at hz
  cases hz; exact ⟨hj, rfl⟩
theorem netAt_len (I : Inst) (x : List Int) (k : Nat) : (netAt I x k).length = I.sup.length := by simp [netAt]
theorem netAt_get {I : Inst} {x : List Int} {k j : Nat} {w : Wide} (h : (netAt I x k)[j]? = some w) : j < I.sup.length ∧ w = W (netK I.sup.length I.arcs x k j) := map_range_get h
theorem netAt_step {I : Inst} {x : List Int} {k : Nat} {a : Arc} (h : I.arcs[k]? = some a) (ho : okArc I.sup.length a = true) {p q : Wide} (hp : (netAt I x k)[a.src.toNat]? = some p)
    (hq : ((netAt I x k).set a.src.toNat (wplus p (W (x.getD k 0))))[a.dst.toNat]? = some q) : q.ok ∧ p.ok ∧ ((netAt I x k).set a.src.toNat (wplus p (W (x.getD k 0)))).set a.dst.toNat (wminus q (W (x.getD k 0))) = netAt I x (k + 1) := by
  obtain ⟨o1, o2, o3, o4⟩ := okArc_iff.1 ho
  obtain ⟨_, rfl⟩ := netAt_get hp
  unfold netAt at hq ⊢
  rw [wplus_W, map_range_set] at hq ⊢
  obtain ⟨_, rfl⟩ := map_range_get hq
  have hg : I.arcs.getD k default = a := by simp [List.getD, h]
  refine ⟨by split <;> exact W_ok _, W_ok _, ?_⟩
  rw [map_range_set]
  apply List.map_congr_left
  intro t ht
  simp only [netK, hg, flowD, ho, if_true]
  by_cases e1 : t = a.dst.toNat <;> by_cases e2 : t = a.src.toNat
  · have e3 : a.dst.toNat = a.src.toNat := by omega
    rw [if_pos e1, if_pos e3, wminus_W, if_pos (by omega), if_pos (by omega)]
    congr 1
    rw [← e2]; omega
  · have e3 : ¬ a.dst.toNat = a.src.toNat := by omega
    rw [if_pos e1, if_neg e3, wminus_W, if_neg (by omega), if_pos (by omega)]
    congr 1
    rw [← e1]; omega
  · rw [if_neg e1, if_pos e2, if_pos (by omega), if_neg (by omega)]
    congr 1
    rw [← e2]; omega
  · rw [if_neg e1, if_neg e2, if_neg (by omega), if_neg (by omega)]
    congr 1
    omega
theorem netAt_same {I : Inst} {x : List Int} {k : Nat} {a : Arc} (h : I.arcs[k]? = some a) (ho : okArc I.sup.length a = false) : netAt I x k = netAt I x (k + 1) := by
  unfold netAt
  apply List.map_congr_left
  intro t ht
  have hg : I.arcs.getD k default = a := by simp [List.getD, h]
  simp only [netK, hg, flowD, ho]
  simp
theorem netF_len (I : Inst) (x : List Int) : (netF I x).length = I.sup.length := by simp [netF]
theorem fitsAll_drop {l : List Arc} {x : List Int} {k : Nat} {a : Arc} (h : l[k]? = some a) : fitsAll (l.drop k) (x.drop k) = (fitF a (x.getD k 0) && fitsAll (l.drop (k + 1)) (x.drop (k + 1))) := by
  rw [drop_get h, fitsAll]
  congr 1
  · congr 1
    by_cases hk : k < x.length
    · rw [List.drop_eq_getElem_cons hk]; simp [List.getD, hk]
    · simp [List.drop_of_length_le (Nat.le_of_not_lt hk), List.getD, hk]
  · rw [List.tail_drop]
theorem rightF_small' (I : Inst) : 0 ≤ rightF I ∧ rightF I ≤ 25 := by
  have h1 : ∀ (n : Int) (l : List Arc), 0 ≤ arcsErr n l ∧ arcsErr n l ≤ 23 := fun n l => by
    induction l with
    | nil => simp [arcsErr]
    | cons x l ih => simp only [arcsErr]; unfold rightArcF at *; (repeat' split) <;> omega
  have h2 : ∀ (l : List Int) (s : Int), 0 ≤ supErr l s ∧ supErr l s ≤ 25 := fun l => by
    induction l with
    | nil => intro s; simp only [supErr]; split <;> omega
    | cons x l ih => intro s; simp only [supErr]; split
                     · omega
                     · exact ih _
  have := h1 I.sup.length I.arcs
  have := h2 I.sup 0
  unfold rightF; (repeat' split) <;> omega
theorem fitsF_small (I : Inst) (x : List Int) : 0 ≤ fitsF I x ∧ fitsF I x ≤ 32 := by
  have := rightF_small' I
  unfold fitsF; (repeat' split) <;> omega
/-- what is right of an instance that is right -/
theorem arcsErr_all {n : Int} : ∀ {l : List Arc}, arcsErr n l = 0 → ∀ a ∈ l, rightArcF a n = 0
  | [], _, a, ha => by cases ha
  | b :: l, h, a, ha => by
    simp only [arcsErr] at h
    split at h
    · rename_i hb
      cases ha with
      | head => first | exact hb | (simp at hb; exact hb)
      | tail _ ha => exact arcsErr_all h a ha
    · rename_i hb
      exact absurd h hb
theorem rightF_arc {I : Inst} (h : rightF I = 0) {a : Arc} (ha : a ∈ I.arcs) : okArc I.sup.length a = true ∧ (0 ≤ a.low ∧ a.low ≤ 4398046511104 ∧ (a.cap = 4611686018427387904 ∨ a.low ≤ a.cap ∧ a.cap ≤ 4398046511104)) ∧ -4398046511104 ≤ a.cost ∧ a.cost ≤ 4398046511104 := by
  unfold rightF at h
  split at h
  · omega
  · split at h
    · rename_i he
      have hr := arcsErr_all he a ha
      unfold rightArcF at hr
      rw [okArc_iff]
      (repeat' split at hr) <;> first | omega | (simp_all; omega) | grind
    · rename_i he; exact absurd h he
/-- instances of choices -/
theorem instF_A64 (c d : List Int) : A64 (instF c d).sup := fun x hx => by have := instF_within c d x hx; unfold I64; omega
theorem instF_A64a (c d : List Int) : A64a (instF c d).arcs := fun a ha => by
  have h := instF_nice c d a ha
  have := h.l0; have := h.l1; have := h.c0; have := h.c1
  unfold I64; omega
theorem instF_A64c (c d : List Int) : A64c (instF c d).arcs := fun a ha => by
  have h := instF_nice c d a ha
  have := h.k0; have := h.k1
  unfold I64; omega
theorem instF_L42 (c d : List Int) : L42 (instF c d).arcs := fun a ha => by
  have h := instF_nice c d a ha
  have := h.l0; have := h.l1
  omega
theorem flowF_len (I : Inst) (d : List Int) : (flowF I d).length = I.arcs.length := by simp [flowF]
theorem flowF_mem (c d e : List Int) : ∀ y ∈ flowF (instF c d) e, 0 ≤ y ∧ y ≤ 5 := fun y hy => by
  unfold flowF at hy
  rw [List.mem_map] at hy
  obtain ⟨k, hk, rfl⟩ := hy
  have hk := List.mem_range.1 hk
  have hm : (instF c d).arcs.getD k default ∈ (instF c d).arcs := by rw [List.getD_eq_getElem?_getD, List.getElem?_eq_getElem hk]; exact List.getElem_mem hk
  exact useOf_ok (instF_nice c d _ hm)
theorem flowF_A64 (c d e : List Int) : A64 (flowF (instF c d) e) := fun y hy => by have := flowF_mem c d e y hy; unfold I64; omega
theorem A64.set {l : List Int} (h : A64 l) {k : Nat} {v : Int} (hv : I64 v) : A64 (l.set k v) := fun y hy => by
  rcases List.mem_or_eq_of_mem_set hy with hy | rfl
  · exact h y hy
  · exact hv
end Go.Ql
