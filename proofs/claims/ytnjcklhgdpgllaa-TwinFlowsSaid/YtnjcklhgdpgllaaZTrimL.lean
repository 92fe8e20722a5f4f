/- Part of the proof, TrimL. -/
import Derived.Test.YtnjcklhgdpgllaaZOdd
set_option linter.all false
set_option linter.unusedSimpArgs false
set_option linter.unusedVariables false
namespace Go.Ql
open Go Go.Vc
def conA (m : Int) (side : List Bool) (a : Arc) : Option Int := if outA m side a then (if a.cap = inf then none else some a.cap) else if inA m side a then some (-a.low) else some 0
def conS (m : Int) (side : List Bool) : List Arc → Option Int
  | [] => some 0
  | a :: l => (conA m side a).bind fun x => (conS m side l).map fun y => x + y
theorem roomAcc_con (m : Int) (side : List Bool) : ∀ (l : List Arc) (s : Int), roomAcc m side l s = (conS m side l).map (fun y => s + y)
  | [], s => by simp [roomAcc, conS]
  | a :: l, s => by
    rw [roomAcc_cons, conS]
    unfold conA
    split
    · split
      · rfl
      · rw [roomAcc_con m side l]; cases conS m side l <;> simp; omega
    · split
      · rw [roomAcc_con m side l]; cases conS m side l <;> simp; omega
      · rw [roomAcc_con m side l]; cases conS m side l <;> simp
theorem roomC_con (I : Inst) (side : List Bool) : roomC I side = conS I.sup.length side I.arcs := by
  unfold roomC
  rw [roomAcc_con]
  cases conS (I.sup.length : Int) side I.arcs <;> simp
def netL (n : Int) : List Arc → List Int → Int → Int
  | [], _, _ => 0
  | a :: l, x, v => flowD n a (x.headD 0) v + netL n l x.tail v
def costL : List Arc → List Int → Int
  | [], _ => 0
  | a :: l, x => a.cost * x.headD 0 + costL l x.tail
theorem tail_getD (x : List Int) (k : Nat) : x.tail.getD k 0 = x.getD (k + 1) 0 := by cases x <;> simp [List.getD]
theorem netK_cons (n : Int) (a : Arc) (l : List Arc) (x : List Int) (v : Int) : ∀ k, netK n (a :: l) x (k + 1) v = flowD n a (x.headD 0) v + netK n l x.tail k v
  | 0 => by cases x <;> simp [netK, List.getD]
  | k + 1 => by
    rw [netK, netK_cons n a l x v k, netK]
    have e1 : (a :: l).getD (k + 1) default = l.getD k default := by simp [List.getD]
    rw [e1, tail_getD]
    omega
theorem netL_eq (n : Int) : ∀ (l : List Arc) (x : List Int) (v : Int), netK n l x l.length v = netL n l x v
  | [], _, _ => rfl
  | a :: l, x, v => by rw [List.length_cons, netK_cons, netL_eq n l, netL]
theorem costK_cons (a : Arc) (l : List Arc) (x : List Int) : ∀ k, costK (a :: l) x (k + 1) = a.cost * x.headD 0 + costK l x.tail k
  | 0 => by cases x <;> simp [costK, List.getD]
  | k + 1 => by
    rw [costK, costK_cons a l x k, costK]
    have e1 : (a :: l).getD (k + 1) default = l.getD k default := by simp [List.getD]
    rw [e1, tail_getD]
    omega
theorem costL_eq : ∀ (l : List Arc) (x : List Int), costK l x l.length = costL l x
  | [], _ => rfl
  | a :: l, x => by rw [List.length_cons, costK_cons, costL_eq l, costL]
theorem fitsF_iff {I : Inst} {x : List Int} : fitsF I x = 0 ↔ rightF I = 0 ∧ x.length = I.arcs.length ∧ fitsAll I.arcs x = true ∧ netOk I x = true := by
  unfold fitsF
  by_cases h1 : rightF I = 0
  · by_cases h2 : x.length = I.arcs.length
    · cases h3 : fitsAll I.arcs x <;> cases h4 : netOk I x <;> simp [h1, h2]
    · simp [h1, h2]
  · simp [h1]
theorem netOkL_iff {I : Inst} {x : List Int} : netOk I x = true ↔ ∀ v : Nat, v < I.sup.length → W (netL I.sup.length I.arcs x v) = W (I.sup.getD v 0) := by
  unfold netOk
  rw [List.all_eq_true]
  constructor
  · intro h v hv
    have := h v (List.mem_range.2 hv)
    rw [netL_eq] at this
    exact of_decide_eq_true this
  · intro h v hv
    rw [netL_eq]
    exact decide_eq_true (h v (List.mem_range.1 hv))
def Few (x : List Int) : Prop := ∀ y ∈ x, 0 ≤ y ∧ y ≤ 7
theorem Few.head {x : List Int} (h : Few x) : 0 ≤ x.headD 0 ∧ x.headD 0 ≤ 7 := by
  cases x with
  | nil => simp
  | cons y x => exact h y (by simp)
theorem Few.tail {x : List Int} (h : Few x) : Few x.tail := fun y hy => h y (List.mem_of_mem_tail hy)
theorem Few.a64 {x : List Int} (h : Few x) : A64 x := fun y hy => by have := h y hy; unfold I64; omega
theorem flow_few {I : Inst} {m : Int} (h : ∀ a ∈ I.arcs, a.Nice m) (d : List Int) : Few (flowF I d) := fun y hy => by
  unfold flowF at hy
  rw [List.mem_map] at hy
  obtain ⟨k, hk, rfl⟩ := hy
  have hk' : k < I.arcs.length := by simpa using hk
  obtain ⟨a, ha⟩ : ∃ a, I.arcs[k]? = some a := ⟨_, List.getElem?_eq_getElem hk'⟩
  rw [show I.arcs.getD k default = a by rw [List.getD_eq_getElem?_getD, ha]; rfl]
  have := useOf_ok (d := d) (k := k) (h a (List.mem_of_getElem? ha))
  omega
theorem right_A64 {I : Inst} (h : rightF I = 0) : A64a I.arcs ∧ A64c I.arcs ∧ A64 I.sup ∧ L42 I.arcs := by
  refine ⟨fun a ha => ?_, fun a ha => ?_, fun x hx => ?_, fun a ha => ?_⟩
  · have := rightF_arc h ha; unfold I64; omega
  · have := rightF_arc h ha; unfold I64; omega
  · have := (right_within h).1 x hx; unfold I64; omega
  · have := rightF_arc h ha; omega
end Go.Ql
