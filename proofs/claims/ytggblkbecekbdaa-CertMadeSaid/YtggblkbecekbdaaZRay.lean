/- Part of the proof, Ray. -/
import Derived.Test.YtggblkbecekbdaaZFlow
set_option linter.all false
set_option linter.unusedSimpArgs false
set_option linter.unusedVariables false
namespace Go.Ql
open Go Go.RowKit Go.Vc
def isArcF (I : Inst) (a : Int) : Bool := decide (0 ≤ a) && decide (a < I.arcs.length)
def arcAt (I : Inst) (a : Int) : Arc := I.arcs.getD a.toNat default
def rayD (I : Inst) (a : Int) : Int := if isArcF I a then (arcAt I a).cost else 0
def rayK (I : Inst) (l : List Int) : Nat → Int
  | 0 => 0
  | k + 1 => rayK I l k + rayD I (l.getD k 0)
def rayS (I : Inst) (l : List Int) : Int := rayK I l l.length
def c1F (I : Inst) (l : List Int) : Bool := l.all (isArcF I)
def c2F (l : List Int) : Bool := decide l.Nodup
def linkF (I : Inst) (l : List Int) (k : Nat) : Bool := decide ((arcAt I (l.getD k 0)).dst = (arcAt I (l.getD ((k + 1) % l.length) 0)).src)
def c3F (I : Inst) (l : List Int) : Bool := (List.range l.length).all (linkF I l)
def c4F (I : Inst) (l : List Int) : Bool := l.all fun a => decide ((arcAt I a).cap = inf)
def c5F (I : Inst) (l : List Int) : Bool := decide (wcmp (W (rayS I l)) (W 0) < 0)
def turnsF (I : Inst) (l : List Int) : Int :=
  if rightF I ≠ 0 then rightF I else if l.length = 0 ∨ I.arcs.length < l.length then 30
  else if c1F I l && c2F l && c3F I l && c4F I l && c5F I l then 0 else 35
def metM (l : List Int) : List (List Int × Int) := l.map fun a => ([a], 1)
def nodI (l : List Int) : Prop := l.Nodup
theorem all_take {p : Int → Bool} {l : List Int} {k : Nat} {x : Int} (h : l[k]? = some x) : (l.take (k + 1)).all p = ((l.take k).all p && p x) := by rw [take_get h, List.all_append]; simp
theorem all_not {p : Int → Bool} {l : List Int} {k : Nat} {x : Int} (h : l[k]? = some x) (hp : p x = false) : l.all p = false := by
  cases ha : l.all p with
  | false => rfl
  | true => have := List.all_eq_true.1 ha x (List.mem_of_getElem? h); rw [hp] at this; cases this
theorem all_end {p : Int → Bool} {l : List Int} {k : Nat} (h : (l.take k).all p = true) (hk : l.length ≤ k) : l.all p = true := by rw [List.take_of_length_le hk] at h; exact h
theorem mget_metM (x : Int) : ∀ l : List Int, mget (metM l) [x] = if x ∈ l then some 1 else none
  | [] => rfl
  | y :: l => by
    have ih := mget_metM x l
    simp only [metM, List.map_cons, mget, List.cons.injEq, and_true, List.mem_cons] at ih ⊢
    by_cases e : x = y
    · simp [e]
    · simp only [e, if_false, false_or]; exact ih
theorem mput_metM {x : Int} : ∀ {l : List Int}, x ∉ l → mput (metM l) [x] 1 = metM (l ++ [x])
  | [], _ => rfl
  | y :: l, h => by
    have h1 : ¬ x = y := fun e => h (by simp [e])
    have ih := mput_metM (x := x) (l := l) (fun e => h (by simp [e]))
    simp only [metM, List.cons_append, List.map_cons, mput, List.cons.injEq, and_true, h1, if_false] at ih ⊢
    rw [ih]
    simp
theorem nodI_take {l : List Int} {k : Nat} {x : Int} (h : l[k]? = some x) (h1 : nodI (l.take k)) (h2 : x ∉ l.take k) : nodI (l.take (k + 1)) := by
  unfold nodI at *
  rw [take_get h, List.nodup_append]
  exact ⟨h1, by simp, fun a ha b hb => by simp at hb; subst hb; exact fun e => h2 (e ▸ ha)⟩
theorem nodI_not {l : List Int} {k : Nat} {x : Int} (h : l[k]? = some x) (h2 : x ∈ l.take k) : c2F l = false := by
  unfold c2F
  refine decide_eq_false fun hn => ?_
  have hd : l = l.take k ++ l.drop k := (List.take_append_drop k l).symm
  rw [hd, List.nodup_append] at hn
  refine hn.2.2 x h2 x ?_ rfl
  rw [drop_get h]; simp
theorem nodI_end {l : List Int} {k : Nat} (h : nodI (l.take k)) (hk : l.length ≤ k) : c2F l = true := by
  unfold nodI at h
  rw [List.take_of_length_le hk] at h
  exact decide_eq_true h
theorem arcAt_get {I : Inst} {x : Int} {a : Arc} (h : I.arcs[x.toNat]? = some a) : arcAt I x = a := by simp [arcAt, List.getD, h]
theorem isArcF_iff {I : Inst} {x : Int} : isArcF I x = true ↔ 0 ≤ x ∧ x < I.arcs.length := by simp [isArcF]
theorem c1F_get {I : Inst} {l : List Int} {k : Nat} {x : Int} (h : c1F I l = true) (hx : l[k]? = some x) : 0 ≤ x ∧ x < I.arcs.length := isArcF_iff.1 (List.all_eq_true.1 h x (List.mem_of_getElem? hx))
end Go.Ql
