import Derived.Test.YtnjcklhgdpgllaaFlow
section
/-!
  SIDES, PLAINLY: what the package cut computes. No program in sight.
-/
set_option linter.all false
set_option linter.unusedSimpArgs false
set_option linter.unusedVariables false
namespace Go.Ql
open Go Go.RowKit

def onF (side : List Bool) (n : Int) : Bool := decide (0 ≤ n) && side.getD n.toNat false
def isN (m : Int) (n : Int) : Bool := decide (0 ≤ n) && decide (n < m)
/-- an arc goes out of a side -/
def outA (m : Int) (side : List Bool) (a : Arc) : Bool := isN m a.src && isN m a.dst && onF side a.src && !onF side a.dst
def inA (m : Int) (side : List Bool) (a : Arc) : Bool := isN m a.src && isN m a.dst && onF side a.dst && !onF side a.src
def roomAcc (m : Int) (side : List Bool) : List Arc → Int → Option Int
  | [], s => some s
  | a :: l, s => if outA m side a then (if a.cap = inf then none else roomAcc m side l (s + a.cap)) else if inA m side a then roomAcc m side l (s - a.low) else roomAcc m side l s
def roomC (I : Inst) (side : List Bool) : Option Int := roomAcc I.sup.length side I.arcs 0
def roomW (o : Option Int) : Wide := match o with
  | some s => W s
  | none => ⟨0, 0⟩
def needK (side : List Bool) (l : List Int) : Nat → Int
  | 0 => 0
  | k + 1 => needK side l k + (if side.getD k false then l.getD k 0 else 0)
def needF (I : Inst) (side : List Bool) : Int := needK side I.sup I.sup.length
def provesF (I : Inst) (side : List Bool) : Int :=
  if rightF I ≠ 0 then rightF I else if side.length ≠ I.sup.length then 30 else match roomC I side with
    | none => 34
    | some s => if wcmp (W (needF I side)) (W s) ≤ 0 then 34 else 0
def otherF (side : List Bool) (n : Nat) : List Bool := (List.range n).map fun k => !side.getD k false
/-- a side as long as there are nodes -/
def wholeF (e : List Int) (n : Nat) : List Bool := marksF e n ++ List.replicate (n - (marksF e n).length) false
theorem onF_nat (side : List Bool) (k : Nat) : onF side (k : Int) = side.getD k false := by simp [onF]
theorem otherF_snoc (side : List Bool) (n : Nat) : otherF side (n + 1) = otherF side n ++ [!side.getD n false] := by simp [otherF, List.range_succ]
theorem otherF_len (side : List Bool) (n : Nat) : (otherF side n).length = n := by simp [otherF]
theorem roomAcc_cons (m : Int) (side : List Bool) (a : Arc) (l : List Arc) (s : Int) : roomAcc m side (a :: l) s = if outA m side a then (if a.cap = inf then none else roomAcc m side l (s + a.cap)) else if inA m side a then roomAcc m side l (s - a.low) else roomAcc m side l s := rfl
theorem provesF_small (I : Inst) (side : List Bool) : 0 ≤ provesF I side ∧ provesF I side ≤ 65535 := by
  have h := rightF_small' I
  unfold provesF
  split
  · omega
  · split
    · omega
    · split
      · omega
      · split <;> omega
end Go.Ql
end

section
/-!
  PLAIN LAWS of flows: sums, one unit more, round arcs, supplies that are what a flow sends. No program in sight.
-/
set_option linter.all false
set_option linter.unusedSimpArgs false
set_option linter.unusedVariables false
namespace Go.Ql
open Go Go.RowKit

def sumTo (f : Nat → Int) : Nat → Int
  | 0 => 0
  | k + 1 => sumTo f k + f k
theorem sumTo_congr {f g : Nat → Int} : ∀ {n : Nat}, (∀ v, v < n → f v = g v) → sumTo f n = sumTo g n
  | 0, _ => rfl
  | n + 1, h => by simp only [sumTo]; rw [sumTo_congr (fun v hv => h v (by omega)), h n (by omega)]
theorem sumTo_add (f g : Nat → Int) : ∀ n, sumTo (fun v => f v + g v) n = sumTo f n + sumTo g n
  | 0 => rfl
  | n + 1 => by simp only [sumTo]; rw [sumTo_add f g n]; omega
theorem sumTo_sub (f g : Nat → Int) : ∀ n, sumTo (fun v => f v - g v) n = sumTo f n - sumTo g n
  | 0 => rfl
  | n + 1 => by simp only [sumTo]; rw [sumTo_sub f g n]; omega
theorem sumTo_zero : ∀ n, sumTo (fun _ => 0) n = 0
  | 0 => rfl
  | n + 1 => by simp only [sumTo, sumTo_zero n]; rfl
theorem sumTo_one {s f : Int} (h0 : 0 ≤ s) : ∀ n : Nat, sumTo (fun v => if s = (v : Int) then f else 0) n = if s < n then f else 0
  | 0 => by simp only [sumTo]; rw [if_neg (by omega)]
  | n + 1 => by
    simp only [sumTo]
    rw [sumTo_one h0 n]
    by_cases h1 : s < n
    · rw [if_pos h1, if_neg (by omega), if_pos (by omega)]; omega
    · by_cases h2 : s = n
      · rw [if_neg h1, if_pos h2, if_pos (by omega)]; omega
      · rw [if_neg h1, if_neg h2, if_neg (by omega)]; omega
theorem flowD_sum (n : Nat) (a : Arc) (f : Int) : sumTo (fun v : Nat => flowD n a f v) n = 0 := by
  cases ho : okArc n a with
  | false => rw [sumTo_congr (g := fun _ => 0) (fun v _ => by simp [flowD, ho]), sumTo_zero]
  | true =>
    obtain ⟨o1, o2, o3, o4⟩ := okArc_iff.1 ho
    rw [sumTo_congr (g := fun v => (if a.src = (v : Int) then f else 0) - (if a.dst = (v : Int) then f else 0)) (fun v _ => by simp [flowD, ho]), sumTo_sub, sumTo_one o1, sumTo_one o3, if_pos o2, if_pos o4]
    omega
/-- ALL TOGETHER IT IS NOTHING -/
theorem netK_sum (n : Nat) (l : List Arc) (x : List Int) : ∀ k, sumTo (fun v : Nat => netK n l x k v) n = 0
  | 0 => by simp only [netK]; exact sumTo_zero n
  | k + 1 => by
    simp only [netK]
    rw [sumTo_add, netK_sum n l x k, flowD_sum]; rfl
theorem flowD_add (n : Int) (a : Arc) (f g v : Int) : flowD n a (f + g) v = flowD n a f v + flowD n a g v := by
  unfold flowD
  (repeat' split) <;> omega
/-- TWO FLOWS TOGETHER -/
theorem netK_add {n : Int} {l : List Arc} {x y z : List Int} {v : Int} : ∀ {k : Nat}, (∀ j, j < k → z.getD j 0 = x.getD j 0 + y.getD j 0) → netK n l z k v = netK n l x k v + netK n l y k v
  | 0, _ => rfl
  | k + 1, h => by
    simp only [netK]
    rw [netK_add (fun j hj => h j (by omega)), h k (by omega), flowD_add]; omega
theorem costK_add {l : List Arc} {x y z : List Int} : ∀ {k : Nat}, (∀ j, j < k → z.getD j 0 = x.getD j 0 + y.getD j 0) → costK l z k = costK l x k + costK l y k
  | 0, _ => rfl
  | k + 1, h => by
    simp only [costK]
    rw [costK_add (fun j hj => h j (by omega)), h k (by omega), Int.mul_add]; omega
theorem netK_congr {n : Int} {l : List Arc} {x y : List Int} {v : Int} : ∀ {k : Nat}, (∀ j, j < k → x.getD j 0 = y.getD j 0) → netK n l x k v = netK n l y k v
  | 0, _ => rfl
  | k + 1, h => by
    simp only [netK]
    rw [netK_congr (fun j hj => h j (by omega)), h k (by omega)]
theorem netK_bound {n : Int} {l : List Arc} {x : List Int} {v : Int} {B : Int} (hB : 0 ≤ B) (hx : ∀ y ∈ x, -B ≤ y ∧ y ≤ B) : ∀ k : Nat, -(2 * B * k) ≤ netK n l x k v ∧ netK n l x k v ≤ 2 * B * k
  | 0 => by simp [netK]
  | k + 1 => by
    have ih := netK_bound (n := n) (l := l) (v := v) hB hx k
    have hg : -B ≤ x.getD k 0 ∧ x.getD k 0 ≤ B := by
      by_cases hk : k < x.length
      · have := hx _ (List.getElem_mem hk)
        simpa [List.getD, hk] using this
      · simp [List.getD, hk]; omega
    simp only [netK]
    have hd : -(2 * B) ≤ flowD n (l.getD k default) (x.getD k 0) v ∧ flowD n (l.getD k default) (x.getD k 0) v ≤ 2 * B := by
      unfold flowD; (repeat' split) <;> omega
    have e : 2 * B * ((k + 1 : Nat) : Int) = 2 * B * k + 2 * B := by
      rw [Int.natCast_succ, Int.mul_add]; omega
    omega

/-! ### padded flows -/
def padF (x : List Int) (m : Nat) : List Int := (List.range m).map (fun a => x.getD a 0)
def bothF (x y : List Int) (m : Nat) : List Int := (List.range m).map (fun a => x.getD a 0 + y.getD a 0)
theorem padF_getD {x : List Int} {m j : Nat} (h : j < m) : (padF x m).getD j 0 = x.getD j 0 := by
  unfold padF
  rw [List.getD_eq_getElem?_getD, List.getElem?_map, List.getElem?_range h]; simp
theorem bothF_getD {x y : List Int} {m j : Nat} (h : j < m) : (bothF x y m).getD j 0 = (padF x m).getD j 0 + (padF y m).getD j 0 := by
  rw [padF_getD h, padF_getD h]
  unfold bothF
  rw [List.getD_eq_getElem?_getD, List.getElem?_map, List.getElem?_range h]; simp
theorem padF_len (x : List Int) (m : Nat) : (padF x m).length = m := by simp [padF]
theorem bothF_len (x y : List Int) (m : Nat) : (bothF x y m).length = m := by simp [bothF]

/-- f more from a number on -/
def plusF (x : List Int) (b : Nat) (f : Int) (m : Nat) : List Int := (List.range m).map (fun a => x.getD a 0 + if b ≤ a then f else 0)
theorem plusF_len (x : List Int) (b : Nat) (f : Int) (m : Nat) : (plusF x b f m).length = m := by simp [plusF]
theorem plusF_succ (x : List Int) (b : Nat) (f : Int) (m : Nat) : plusF x b f (m + 1) = plusF x b f m ++ [x.getD m 0 + if b ≤ m then f else 0] := by simp [plusF, List.range_succ]
def onlyF (b : Nat) (f : Int) (m : Nat) : List Int := (List.range m).map (fun a => if b ≤ a then f else 0)
theorem onlyF_getD {b : Nat} {f : Int} {m j : Nat} (h : j < m) : (onlyF b f m).getD j 0 = if b ≤ j then f else 0 := by
  unfold onlyF
  rw [List.getD_eq_getElem?_getD, List.getElem?_map, List.getElem?_range h]; simp
theorem plusF_getD {x : List Int} {b : Nat} {f : Int} {m j : Nat} (h : j < m) : (plusF x b f m).getD j 0 = (padF x m).getD j 0 + (onlyF b f m).getD j 0 := by
  rw [padF_getD h, onlyF_getD h]
  unfold plusF
  rw [List.getD_eq_getElem?_getD, List.getElem?_map, List.getElem?_range h]; simp

/-! ### one unit more -/
theorem getD_set_add {x : List Int} {a : Nat} (ha : a < x.length) (f : Int) (j : Nat) : (x.set a (x.getD a 0 + f)).getD j 0 = x.getD j 0 + (if j = a then f else 0) := by
  rw [List.getD_eq_getElem?_getD, List.getElem?_set]
  by_cases h : a = j
  · subst h; simp [ha]
  · have h' : ¬ j = a := fun e => h e.symm
    simp [h, h', List.getD_eq_getElem?_getD]
theorem netK_set {n : Int} {l : List Arc} {x : List Int} {v : Int} {a : Nat} (ha : a < x.length) (f : Int) : ∀ k : Nat, netK n l (x.set a (x.getD a 0 + f)) k v = netK n l x k v + (if a < k then flowD n (l.getD a default) f v else 0)
  | 0 => by simp [netK]
  | k + 1 => by
    simp only [netK]
    rw [netK_set ha f k, getD_set_add ha, flowD_add]
    by_cases h : k = a
    · subst h; rw [if_neg (by omega), if_pos rfl, if_pos (by omega)]; omega
    · rw [if_neg h]
      have z : flowD n (l.getD k default) 0 v = 0 := by unfold flowD; (repeat' split) <;> omega
      rw [z]
      by_cases h2 : a < k
      · rw [if_pos h2, if_pos (by omega)]; omega
      · rw [if_neg h2, if_neg (by omega)]; omega
theorem fitsAll_iff {l : List Arc} {x : List Int} : fitsAll l x = true ↔ ∀ j a, l[j]? = some a → fitF a (x.getD j 0) = true := by
  induction l generalizing x with
  | nil => simp [fitsAll]
  | cons b l ih =>
    simp only [fitsAll, Bool.and_eq_true, ih]
    constructor
    · rintro ⟨h1, h2⟩ j a ha
      cases j with
      | zero =>
        simp at ha; subst ha
        cases x <;> simpa [List.getD] using h1
      | succ j =>
        rw [List.getElem?_cons_succ] at ha
        have := h2 j a ha
        cases x with
        | nil => simpa [List.getD] using this
        | cons y x => simpa [List.getD] using this
    · intro h
      refine ⟨?_, fun j a ha => ?_⟩
      · have := h 0 b (by simp)
        cases x <;> simpa [List.getD] using this
      · have := h (j + 1) a (by simpa using ha)
        cases x with
        | nil => simpa [List.getD] using this
        | cons y x => simpa [List.getD] using this
theorem netOk_iff {I : Inst} {x : List Int} : netOk I x = true ↔ ∀ v, v < I.sup.length → W (netK I.sup.length I.arcs x I.arcs.length v) = W (I.sup.getD v 0) := by
  unfold netOk
  rw [List.all_eq_true]
  simp only [List.mem_range, decide_eq_true_eq]
theorem fitsF_zero {I : Inst} {x : List Int} : fitsF I x = 0 ↔ rightF I = 0 ∧ x.length = I.arcs.length ∧ fitsAll I.arcs x = true ∧ netOk I x = true := by
  have hs := rightF_small' I
  unfold fitsF
  constructor
  · intro h
    split at h
    · rename_i h1; exact absurd h h1
    · rename_i h1
      split at h
      · omega
      · rename_i h2
        split at h
        · omega
        · rename_i h3
          split at h
          · omega
          · rename_i h4
            simp at h1 h2 h3 h4
            exact ⟨h1, h2, h3, h4⟩
  · rintro ⟨h1, h2, h3, h4⟩
    simp [h1, h2, h3, h4]

/-- 32 bits -/
def A32 (l : List Int) : Prop := ∀ x ∈ l, -2147483648 ≤ x ∧ x ≤ 2147483647
theorem A32.getD {l : List Int} (h : A32 l) (k : Nat) : -2147483648 ≤ l.getD k 0 ∧ l.getD k 0 ≤ 2147483647 := by
  by_cases hk : k < l.length
  · have := h _ (List.getElem_mem hk)
    simpa [List.getD, hk] using this
  · simp [List.getD, hk]
theorem padF_A64 {x : List Int} (h : A32 x) (m : Nat) : A64 (padF x m) := fun y hy => by
  unfold padF at hy
  rw [List.mem_map] at hy
  obtain ⟨k, _, rfl⟩ := hy
  have := h.getD k
  unfold I64; omega
theorem bothF_A64 {x y : List Int} (h : A32 x) (h2 : A32 y) (m : Nat) : A64 (bothF x y m) := fun z hz => by
  unfold bothF at hz
  rw [List.mem_map] at hz
  obtain ⟨k, _, rfl⟩ := hz
  have := h.getD k
  have := h2.getD k
  unfold I64; omega
theorem padF_succ (x : List Int) (m : Nat) : padF x (m + 1) = padF x m ++ [x.getD m 0] := by simp [padF, List.range_succ]
theorem bothF_succ (x y : List Int) (m : Nat) : bothF x y (m + 1) = bothF x y m ++ [x.getD m 0 + y.getD m 0] := by simp [bothF, List.range_succ]

/-! ### an instance that is right -/
theorem arcsErr_zero' (n : Int) : ∀ (l : List Arc), (∀ a ∈ l, rightArcF a n = 0) → arcsErr n l = 0
  | [], _ => rfl
  | a :: l, h => by simp only [arcsErr, h a (by simp), arcsErr_zero' n l (fun b hb => h b (by simp [hb]))]; simp
theorem supErr_zero' : ∀ (l : List Int) (s : Int), (∀ x ∈ l, -4398046511104 ≤ x ∧ x ≤ 4398046511104) → s + l.sum = 0 → supErr l s = 0
  | [], s, _, h => by simp at h; simp [supErr, h]
  | x :: l, s, hb, h => by
    have := hb x (by simp)
    simp only [supErr]
    rw [if_neg (by omega)]
    exact supErr_zero' l (s + x) (fun y hy => hb y (by simp [hy])) (by rw [List.sum_cons] at h; omega)
theorem right_of {I : Inst} (h1 : I.sup.length ≤ 64) (h2 : I.arcs.length ≤ 256) (h3 : ∀ a ∈ I.arcs, rightArcF a I.sup.length = 0) (h4 : ∀ x ∈ I.sup, -4398046511104 ≤ x ∧ x ≤ 4398046511104) (h5 : I.sup.sum = 0) : rightF I = 0 := by
  unfold rightF
  rw [if_neg (by omega), if_pos (arcsErr_zero' _ _ h3)]
  exact supErr_zero' _ _ h4 (by omega)
theorem sum_map_range (f : Nat → Int) : ∀ n, ((List.range n).map f).sum = sumTo f n
  | 0 => rfl
  | n + 1 => by rw [List.range_succ, List.map_append, List.sum_append, sum_map_range f n]; simp [sumTo]
theorem Arc.Nice.right {m : Int} {a : Arc} (h : a.Nice m) : rightArcF a m = 0 := by
  have := h.s0; have := h.s1; have := h.d0; have := h.d1; have := h.l0; have := h.l1; have := h.c0; have := h.c1; have := h.k0; have := h.k1
  unfold rightArcF
  rw [if_neg (by omega), if_neg (by omega), if_neg (by omega), if_neg (by omega)]

/-! ### supplies that are what a flow sends -/
def madeS (I : Inst) (x : List Int) (k : Nat) : List Int := (List.range I.sup.length).map (fun v => if v < k then netK I.sup.length I.arcs x I.arcs.length v else I.sup.getD v 0)
def costA (m : Int) (k : Nat) (l : List Arc) : List Arc := (l.take k).map (fun a => { a with cost := m }) ++ l.drop k
theorem madeS_zero (I : Inst) (x : List Int) : madeS I x 0 = I.sup := by
  unfold madeS
  apply List.ext_getElem?
  intro i
  by_cases hi : i < I.sup.length
  · simp [hi, List.getD_eq_getElem?_getD]
  · simp [hi]
theorem madeS_step {I : Inst} {x : List Int} {k : Nat} : (madeS I x k).set k (netK I.sup.length I.arcs x I.arcs.length k) = madeS I x (k + 1) := by
  unfold madeS
  rw [map_range_set]
  apply List.map_congr_left
  intro t ht
  by_cases e : t = k
  · subst e; simp
  · by_cases h : t < k
    · rw [if_neg e, if_pos h, if_pos (by omega)]
    · rw [if_neg e, if_neg h, if_neg (by omega)]
theorem costA_len (m : Int) (k : Nat) (l : List Arc) : (costA m k l).length = l.length := by simp [costA]; omega
theorem costA_all (m : Int) (l : List Arc) {k : Nat} (h : l.length ≤ k) : costA m k l = l.map (fun a => { a with cost := m }) := by simp [costA, List.take_of_length_le h, List.drop_of_length_le h]
theorem costA_zero (m : Int) (l : List Arc) : costA m 0 l = l := by simp [costA]
theorem costA_step {m : Int} {l : List Arc} {k : Nat} {x : Arc} (hk : k < l.length) (h : (costA m k l)[k]? = some x) : (costA m k l).set k { x with cost := m } = costA m (k + 1) l := by
  unfold costA at *
  have hl : ((l.take k).map (fun a : Arc => { a with cost := m })).length = k := by simp; omega
  rw [List.getElem?_append_right (by omega), hl, Nat.sub_self, List.getElem?_drop, Nat.add_zero, List.getElem?_eq_getElem hk] at h
  cases h
  rw [List.set_append_right _ _ (by omega), hl, Nat.sub_self, List.drop_eq_getElem_cons hk, List.set_cons_zero, List.take_succ_eq_append_getElem hk, List.map_append]
  simp only [List.map_cons, List.map_nil, List.append_assoc, List.singleton_append]
theorem tmod_b (n : Int) : -999 ≤ n.tmod 1000 ∧ n.tmod 1000 ≤ 999 := by
  by_cases h : 0 ≤ n
  · rw [Int.tmod_eq_emod_of_nonneg h]; omega
  · have e : n.tmod 1000 = -((-n).tmod 1000) := by rw [Int.neg_tmod]; omega
    rw [e, Int.tmod_eq_emod_of_nonneg (by omega)]; omega
theorem netK_cost (n : Int) (l : List Arc) (x : List Int) (m v : Int) : ∀ k, k ≤ l.length → netK n (l.map (fun a => { a with cost := m })) x k v = netK n l x k v
  | 0, _ => rfl
  | k + 1, h => by
    have e : (l.map (fun a : Arc => { a with cost := m })).getD k default = { l.getD k default with cost := m } := by
      rw [List.getD_eq_getElem?_getD, List.getElem?_map, List.getD_eq_getElem?_getD, List.getElem?_eq_getElem (by omega)]; rfl
    simp only [netK]
    rw [netK_cost n l x m v k (by omega), e]
    rfl
theorem made_fits (c d : List Int) {m : Int} (hm : -999 ≤ m ∧ m ≤ 999) :
    fitsF ⟨madeS (instF c d) (flowF (instF c d) d) (instF c d).sup.length, (instF c d).arcs.map (fun a => { a with cost := m })⟩ (flowF (instF c d) d) = 0 := by
  have l1 := instF_sup c d
  have l2 := nOf_pos d
  have l3 := nOf_le d
  have l4 := instF_arcs c d
  have hn := instF_nice c d
  have hf := flowF_mem c d d
  have hfl := flowF_len (instF c d) d
  have hnet : ∀ v : Int, -4398046511104 ≤ netK (instF c d).sup.length (instF c d).arcs (flowF (instF c d) d) (instF c d).arcs.length v ∧ netK (instF c d).sup.length (instF c d).arcs (flowF (instF c d) d) (instF c d).arcs.length v ≤ 4398046511104 := fun v => by
    have := netK_bound (n := (instF c d).sup.length) (l := (instF c d).arcs) (x := flowF (instF c d) d) (v := v) (B := 5) (by omega) (fun y hy => by have := hf y hy; omega) (instF c d).arcs.length
    omega
  have hfx : ∀ j, (instF c d).arcs[j]? = some ((instF c d).arcs.getD j default) → (flowF (instF c d) d).getD j 0 = useOf d j ((instF c d).arcs.getD j default) := fun j hj => by
    unfold flowF
    rw [List.getD_eq_getElem?_getD, List.getElem?_map, List.getElem?_range (get_lt hj)]; rfl
  have hsl : (madeS (instF c d) (flowF (instF c d) d) (instF c d).sup.length).length = (instF c d).sup.length := by simp [madeS]
  have hms : madeS (instF c d) (flowF (instF c d) d) (instF c d).sup.length = (List.range (instF c d).sup.length).map (fun v : Nat => netK (instF c d).sup.length (instF c d).arcs (flowF (instF c d) d) (instF c d).arcs.length v) := by
    unfold madeS
    apply List.map_congr_left
    intro t ht
    rw [if_pos (List.mem_range.1 ht)]
  rw [fitsF_zero]
  refine ⟨right_of (by dsimp only; omega) (by simp; omega) (fun a ha => ?_) (fun x hx => ?_) ?_, by simp [hfl], ?_, ?_⟩
  · simp only [List.mem_map] at ha
    obtain ⟨b, hb, rfl⟩ := ha
    dsimp only
    rw [hsl, l1]
    have h := hn b hb
    have := h.s0; have := h.s1; have := h.d0; have := h.d1; have := h.l0; have := h.l1; have := h.c0; have := h.c1
    unfold rightArcF
    dsimp only
    rw [if_neg (by omega), if_neg (by omega), if_neg (by omega), if_neg (by omega)]
  · dsimp only at hx
    rw [hms, List.mem_map] at hx
    obtain ⟨v, _, rfl⟩ := hx
    exact hnet v
  · dsimp only
    rw [hms, sum_map_range, netK_sum]
  · rw [fitsAll_iff]
    intro j a ha
    dsimp only at ha
    rw [List.getElem?_map] at ha
    obtain ⟨b, hb, rfl⟩ := Option.map_eq_some_iff.1 ha
    have hg : (instF c d).arcs.getD j default = b := by simp [List.getD, hb]
    have hj := hfx j (by rw [hg]; exact hb)
    rw [hg] at hj
    rw [hj]
    have h := hn b (List.mem_of_getElem? hb)
    have := h.l0; have := h.l1; have := h.c0; have := h.c1
    unfold fitF useOf inf
    simp only [Bool.and_eq_true, Bool.or_eq_true, decide_eq_true_eq]
    split <;> omega
  · rw [netOk_iff]
    dsimp only
    rw [hsl, List.length_map]
    intro v hv
    rw [netK_cost _ _ _ _ _ _ (Nat.le_refl _), hms, List.getD_eq_getElem?_getD, List.getElem?_map, List.getElem?_range hv]
    rfl

/-! ### one unit more on an arc -/
theorem W_succ (m s : Int) (h : W m = W s) : ¬ W (m + 1) = W s := by
  rw [W_iff_mod] at h ⊢
  omega
theorem fits_long {I : Inst} {x : List Int} (h : fitsF I x = 0) : fitsF I (x ++ [0]) = 30 := by
  obtain ⟨h1, h2, h3, h4⟩ := fitsF_zero.1 h
  unfold fitsF
  rw [if_neg (by simp [h1]), if_pos (by simp [h2])]
theorem fits_more {I : Inst} {x : List Int} {a : Nat} {b : Arc} (h : fitsF I x = 0) (hb : I.arcs[a]? = some b) :
    fitsF I (x.set a (x.getD a 0 + 1)) = if fitF b (x.getD a 0 + 1) then (if b.src = b.dst then 0 else 32) else 31 := by
  obtain ⟨h1, h2, h3, h4⟩ := fitsF_zero.1 h
  have ha : a < I.arcs.length := get_lt hb
  have hax : a < x.length := by omega
  have hg : I.arcs.getD a default = b := by simp [List.getD, hb]
  have ho := (rightF_arc h1 (List.mem_of_getElem? hb)).1
  have hnet := netOk_iff.1 h4
  have hall := fitsAll_iff.1 h3
  have hfa : fitsAll I.arcs (x.set a (x.getD a 0 + 1)) = fitF b (x.getD a 0 + 1) := by
    cases hf : fitF b (x.getD a 0 + 1) with
    | true =>
      rw [fitsAll_iff]
      intro j c hc
      rw [getD_set_add hax]
      by_cases hj : j = a
      · subst hj; rw [if_pos rfl]; rw [hb] at hc; cases hc; exact hf
      · rw [if_neg hj]; have := hall j c hc; simpa using this
    | false =>
      rw [Bool.eq_false_iff]
      intro hh
      have := (fitsAll_iff.1 hh) a b hb
      rw [getD_set_add hax, if_pos rfl, hf] at this
      cases this
  have hnk : ∀ v : Int, netK I.sup.length I.arcs (x.set a (x.getD a 0 + 1)) I.arcs.length v = netK I.sup.length I.arcs x I.arcs.length v + flowD I.sup.length b 1 v := fun v => by
    rw [netK_set hax, if_pos ha, hg]
  unfold fitsF
  rw [if_neg (by simp [h1]), if_neg (by simp [h2]), hfa]
  cases hf : fitF b (x.getD a 0 + 1) with
  | false => simp
  | true =>
    by_cases hl : b.src = b.dst
    · have hno : netOk I (x.set a (x.getD a 0 + 1)) = true := by
        rw [netOk_iff]
        intro v hv
        rw [hnk, ← hnet v hv]
        congr 1
        unfold flowD
        rw [if_pos ho, hl]; omega
      rw [hno]; simp [hl]
    · have hno : netOk I (x.set a (x.getD a 0 + 1)) = false := by
        rw [Bool.eq_false_iff]
        intro hh
        obtain ⟨o1, o2, o3, o4⟩ := okArc_iff.1 ho
        have hv := (netOk_iff.1 hh) b.src.toNat (by omega)
        rw [hnk] at hv
        have hv0 := hnet b.src.toNat (by omega)
        have e : flowD I.sup.length b 1 (b.src.toNat : Int) = 1 := by
          unfold flowD
          rw [if_pos ho, if_pos (by omega), if_neg (by omega)]; omega
        rw [e] at hv
        exact W_succ _ _ hv0 hv
      rw [hno]; simp [hl]

/-! ### arcs that go round -/
def roundA (k : Nat) (m : Nat) : List Arc := (List.range m).map (fun j : Nat => ⟨(j : Int), ((j + 1) % k : Nat), 0, inf, 1⟩)
theorem roundA_len (k m : Nat) : (roundA k m).length = m := by simp [roundA]
theorem roundA_succ (k m : Nat) : roundA k (m + 1) = roundA k m ++ [⟨(m : Int), ((m + 1) % k : Nat), 0, inf, 1⟩] := by simp [roundA, List.range_succ]
theorem roundA_getD {l : List Arc} {k m t : Nat} (h : t < m) : (l ++ roundA k m).getD (l.length + t) default = ⟨(t : Int), ((t + 1) % k : Nat), 0, inf, 1⟩ := by
  rw [List.getD_eq_getElem?_getD, List.getElem?_append_right (by omega), Nat.add_sub_cancel_left]
  unfold roundA
  rw [List.getElem?_map, List.getElem?_range h]; rfl
theorem netK_none {n : Int} {l : List Arc} {x : List Int} {v : Int} : ∀ {k : Nat}, (∀ j, j < k → x.getD j 0 = 0) → netK n l x k v = 0
  | 0, _ => rfl
  | k + 1, h => by
    simp only [netK]
    rw [netK_none (fun j hj => h j (by omega)), h k (by omega)]
    unfold flowD; (repeat' split) <;> omega
theorem costK_none {l : List Arc} {x : List Int} : ∀ {k : Nat}, (∀ j, j < k → x.getD j 0 = 0) → costK l x k = 0
  | 0, _ => rfl
  | k + 1, h => by
    simp only [costK]
    rw [costK_none (fun j hj => h j (by omega)), h k (by omega)]; simp
/-- round, what is sent anywhere is nothing -/
theorem netK_round {n : Nat} {l : List Arc} {k : Nat} {u : List Int} {f v : Int} (hk : 0 < k) (hkn : k ≤ n) (h0 : ∀ j, j < l.length → u.getD j 0 = 0) (h1 : ∀ t, t < k → u.getD (l.length + t) 0 = f) :
    ∀ t, t ≤ k → netK n (l ++ roundA k k) u (l.length + t) v = (if v = 0 then f else 0) - (if v = ((t % k : Nat) : Int) then f else 0)
  | 0, _ => by
    rw [Nat.add_zero, netK_none h0, Nat.zero_mod]; simp
  | t + 1, ht => by
    rw [show l.length + (t + 1) = (l.length + t) + 1 by omega]
    simp only [netK]
    rw [netK_round hk hkn h0 h1 t (by omega), h1 t (by omega), roundA_getD (by omega)]
    have hm : (t + 1) % k < k := Nat.mod_lt _ hk
    have ho : okArc n ⟨(t : Int), ((t + 1) % k : Nat), 0, inf, 1⟩ = true := by
      rw [okArc_iff]; dsimp only; omega
    have e : t % k = t := Nat.mod_eq_of_lt (by omega)
    unfold flowD
    rw [if_pos ho, e]
    dsimp only
    generalize (t + 1) % k = r at *
    by_cases a1 : v = 0 <;> by_cases a2 : v = (t : Int) <;> by_cases a3 : v = (r : Int)
    all_goals
      have b2 : ((t : Int) = v) ↔ (v = (t : Int)) := eq_comm
      have b3 : ((r : Int) = v) ↔ (v = (r : Int)) := eq_comm
      simp only [a1, a2, a3, b2, b3, if_true, if_false]
      first | omega | (split <;> omega) | ((repeat' split) <;> omega)
theorem costK_round {l : List Arc} {k : Nat} {u : List Int} {f : Int} (h0 : ∀ j, j < l.length → u.getD j 0 = 0) (h1 : ∀ t, t < k → u.getD (l.length + t) 0 = f) :
    ∀ t, t ≤ k → costK (l ++ roundA k k) u (l.length + t) = f * t
  | 0, _ => by rw [Nat.add_zero, costK_none h0]; simp
  | t + 1, ht => by
    rw [show l.length + (t + 1) = (l.length + t) + 1 by omega]
    simp only [costK]
    rw [costK_round h0 h1 t (by omega), h1 t (by omega), roundA_getD (by omega)]
    dsimp only
    rw [Int.natCast_succ, Int.mul_add]; omega
end Go.Ql
end

section
/-!
  PLAIN LAWS of sides: rooms, needs, and flows that go over. No program in sight.
-/
set_option linter.all false
set_option linter.unusedSimpArgs false
set_option linter.unusedVariables false
namespace Go.Ql
open Go Go.RowKit

/-! ### instances of choices are right -/
theorem sum_set (s : List Int) (k : Nat) (y : Int) (hk : k < s.length) : (s.set k y).sum = s.sum - s.getD k 0 + y := by
  induction s generalizing k with
  | nil => simp at hk
  | cons z s ih =>
    cases k with
    | zero => simp; omega
    | succ k =>
      have := ih k (by simpa using hk)
      simp only [List.set_cons_succ, List.sum_cons, this, List.getD_cons_succ]; omega
theorem addAt_sum (s : List Int) (k : Nat) (x : Int) (hk : k < s.length) : (addAt s k x).sum = s.sum + x := by
  unfold addAt; rw [sum_set _ _ _ hk]; omega
theorem supGo_sum {n : Nat} (d : List Int) : ∀ (l : List Arc) (k : Nat) (s : List Int), s.length = n → (∀ a ∈ l, a.Nice n) → (supGo d l k s).sum = s.sum
  | [], _, s, _, _ => rfl
  | a :: l, k, s, hs, hn => by
    have h := hn a (by simp)
    have h1 := h.s0; have h2 := h.s1; have h3 := h.d0; have h4 := h.d1
    rw [supGo, supGo_sum d l (k + 1) _ (by simp [addAt_len, hs]) (fun b hb => hn b (by simp [hb])), addAt_sum _ _ _ (by rw [addAt_len]; omega), addAt_sum _ _ _ (by omega)]
    omega
theorem instF_sum (c d : List Int) : (instF c d).sup.sum = 0 := by
  have hp := nOf_pos d
  have h1 : (sup1 c d).sum = 0 := by
    unfold sup1
    rw [supGo_sum (n := nOf d) d _ 0 _ (by simp) (arcsF_nice c _ (by omega))]
    simp
  unfold instF
  dsimp only
  split
  · rw [addAt_sum _ _ _ (by rw [addAt_len, sup1_len]; omega), addAt_sum _ _ _ (by rw [sup1_len]; omega), h1]; omega
  · exact h1
theorem right_sup {I : Inst} {s : List Int} (hs : s.length = I.sup.length) (h1 : I.sup.length ≤ 64) (h2 : I.arcs.length ≤ 256) (h3 : ∀ a ∈ I.arcs, a.Nice I.sup.length) (h4 : Within 4398046511104 s) (h5 : s.sum = 0) : rightF ⟨s, I.arcs⟩ = 0 :=
  right_of (by dsimp only; omega) h2 (fun a ha => by dsimp only; rw [hs]; exact (h3 a ha).right) (fun x hx => h4 x hx) h5
theorem instF_right (c d : List Int) : rightF (instF c d) = 0 := by
  have l1 := instF_sup c d
  have l3 := nOf_le d
  have l4 := instF_arcs c d
  exact right_sup rfl (by omega) (by omega) (fun a ha => by rw [l1]; exact instF_nice c d a ha) ((instF_within c d).more (by omega)) (instF_sum c d)

/-! ### rooms -/
theorem roomAcc_app (m : Int) (side : List Bool) : ∀ (l r : List Arc) (s : Int), roomAcc m side (l ++ r) s = (roomAcc m side l s).bind (roomAcc m side r)
  | [], r, s => by simp [roomAcc]
  | a :: l, r, s => by
    rw [List.cons_append, roomAcc_cons, roomAcc_cons]
    split
    · split
      · rfl
      · exact roomAcc_app m side l r _
    · split
      · exact roomAcc_app m side l r _
      · exact roomAcc_app m side l r _
theorem roomAcc_none {m : Int} {side : List Bool} : ∀ {l : List Arc} {s : Int}, (∀ a ∈ l, outA m side a = false ∧ inA m side a = false) → roomAcc m side l s = some s
  | [], s, _ => rfl
  | a :: l, s, h => by
    have := h a (by simp)
    rw [roomAcc_cons, this.1, this.2]
    simp only [Bool.false_eq_true, if_false]
    exact roomAcc_none fun b hb => h b (by simp [hb])

/-! ### needs -/
theorem needK_sumTo (side : List Bool) (l : List Int) : ∀ k, needK side l k = sumTo (fun v => if side.getD v false then l.getD v 0 else 0) k
  | 0 => rfl
  | k + 1 => by simp only [needK, sumTo, needK_sumTo side l k]
theorem sum_sumTo : ∀ (l : List Int), l.sum = sumTo (fun v => l.getD v 0) l.length := by
  intro l
  have h := sum_map_range (fun v => l.getD v 0) l.length
  rw [← h]
  congr 1
  apply List.ext_getElem?
  intro i
  by_cases hi : i < l.length
  · simp [hi]
  · simp [hi]
theorem need_other {side : List Bool} {l : List Int} {o : List Bool} (h : ∀ k, k < l.length → o.getD k false = !side.getD k false) : needK side l l.length + needK o l l.length = l.sum := by
  rw [needK_sumTo, needK_sumTo, ← sumTo_add, sum_sumTo]
  refine sumTo_congr fun v hv => ?_
  rw [h v hv]
  cases side.getD v false <;> simp

/-! ### what goes over -/
def crossD (m : Int) (side : List Bool) (a : Arc) (f : Int) : Int := (if outA m side a then f else 0) - (if inA m side a then f else 0)
def crossK (m : Int) (side : List Bool) (l : List Arc) (x : List Int) : Nat → Int
  | 0 => 0
  | k + 1 => crossK m side l x k + crossD m side (l.getD k default) (x.getD k 0)
theorem sumTo_pick {s f : Int} (p : Nat → Bool) (h0 : 0 ≤ s) : ∀ n : Nat, s < n → sumTo (fun v => if p v then (if s = (v : Int) then f else 0) else 0) n = if p s.toNat then f else 0 := by
  intro n hn
  have : sumTo (fun v => if p v then (if s = (v : Int) then f else 0) else 0) n = sumTo (fun v => if s = (v : Int) then (if p s.toNat then f else 0) else 0) n := by
    refine sumTo_congr fun v hv => ?_
    by_cases e : s = (v : Int)
    · have : s.toNat = v := by omega
      simp [e, this]
    · simp [e]
  rw [this, sumTo_one h0, if_pos hn]
theorem flowD_cross {n : Nat} {side : List Bool} {a : Arc} (f : Int) : sumTo (fun v : Nat => if side.getD v false then flowD n a f v else 0) n = crossD n side a f := by
  cases ho : okArc n a with
  | false =>
    have hz : ∀ v : Nat, (if side.getD v false then flowD n a f v else 0) = 0 := fun v => by simp [flowD, ho]
    rw [sumTo_congr (g := fun _ => 0) (fun v _ => hz v), sumTo_zero]
    have : isN (n : Int) a.src = false ∨ isN (n : Int) a.dst = false := by
      unfold okArc at ho
      unfold isN
      cases h1 : (decide (0 ≤ a.src) && decide (a.src < (n : Int))) <;> simp_all
    unfold crossD outA inA
    rcases this with h | h <;> simp [h]
  | true =>
    obtain ⟨o1, o2, o3, o4⟩ := okArc_iff.1 ho
    rw [sumTo_congr (g := fun v => (if side.getD v false then (if a.src = (v : Int) then f else 0) else 0) - (if side.getD v false then (if a.dst = (v : Int) then f else 0) else 0)) (fun v _ => by
      simp only [flowD, ho, if_true]
      cases side.getD v false <;> simp), sumTo_sub, sumTo_pick (fun v => side.getD v false) o1 n o2, sumTo_pick (fun v => side.getD v false) o3 n o4]
    unfold crossD outA inA isN onF
    simp only [o1, o2, o3, o4, decide_true, Bool.true_and]
    cases side.getD a.src.toNat false <;> cases side.getD a.dst.toNat false <;> simp
/-- WHAT FLOWS OUT OF A SIDE, LESS WHAT FLOWS IN, IS WHAT ITS NODES SEND -/
theorem cross_net (n : Nat) (side : List Bool) (l : List Arc) (x : List Int) : ∀ k, sumTo (fun v : Nat => if side.getD v false then netK n l x k v else 0) n = crossK n side l x k
  | 0 => by
    simp only [netK, crossK]
    rw [sumTo_congr (g := fun _ => 0) (fun v _ => by simp), sumTo_zero]
  | k + 1 => by
    simp only [crossK]
    rw [← cross_net n side l x k, ← flowD_cross, ← sumTo_add]
    refine sumTo_congr fun v _ => ?_
    simp only [netK]
    cases side.getD v false <;> simp
theorem fits_net {I : Inst} {x : List Int} (hl : I.arcs.length ≤ 1000) (hx : A64 x) (hs : Within 4398046511104 I.sup) (h : fitsF I x = 0) : ∀ v, v < I.sup.length → netK I.sup.length I.arcs x I.arcs.length v = I.sup.getD v 0 := by
  intro v hv
  have hn := netOk_iff.1 (fitsF_zero.1 h).2.2.2 v hv
  have hb := netK_bound (n := I.sup.length) (l := I.arcs) (x := x) (v := v) (B := 9223372036854775808) (by omega) (fun y hy => by have := hx y hy; unfold I64 at this; omega) I.arcs.length
  have hs' := hs.getD (by omega) v
  refine W_inj ?_ ?_ hn
  · unfold I128; omega
  · unfold I128; omega
theorem fits_need {I : Inst} {x : List Int} (side : List Bool) (hl : I.arcs.length ≤ 1000) (hx : A64 x) (hs : Within 4398046511104 I.sup) (h : fitsF I x = 0) : crossK I.sup.length side I.arcs x I.arcs.length = needF I side := by
  rw [← cross_net, needF, needK_sumTo]
  refine sumTo_congr fun v hv => ?_
  rw [fits_net hl hx hs h v hv]
theorem roomAcc_some {m : Int} {side : List Bool} {a : Arc} {s t : Int} (h : roomAcc m side [a] s = some t) : (outA m side a = true ∧ a.cap ≠ inf ∧ t = s + a.cap) ∨ (outA m side a = false ∧ inA m side a = true ∧ t = s - a.low) ∨ (outA m side a = false ∧ inA m side a = false ∧ t = s) := by
  rw [roomAcc_cons] at h
  simp only [roomAcc] at h
  cases ho : outA m side a with
  | true =>
    rw [ho] at h
    simp only [if_true] at h
    split at h
    · cases h
    · rename_i hc; cases h; exact .inl ⟨rfl, hc, rfl⟩
  | false =>
    rw [ho] at h
    simp only [Bool.false_eq_true, if_false] at h
    cases hi : inA m side a with
    | true => rw [hi] at h; simp only [if_true] at h; cases h; exact .inr (.inl ⟨rfl, rfl, rfl⟩)
    | false => rw [hi] at h; simp only [Bool.false_eq_true, if_false] at h; cases h; exact .inr (.inr ⟨rfl, rfl, rfl⟩)
theorem out_not_in {m : Int} {side : List Bool} {a : Arc} (h : outA m side a = true) : inA m side a = false := by
  unfold outA at h; unfold inA
  cases h1 : isN m a.src <;> cases h2 : isN m a.dst <;> cases h3 : onF side a.src <;> cases h4 : onF side a.dst <;> simp_all
theorem cross_room {m : Int} {side : List Bool} {l : List Arc} {x : List Int} (hf : ∀ j a, l[j]? = some a → fitF a (x.getD j 0) = true) : ∀ k, k ≤ l.length → ∀ t, roomAcc m side (l.take k) 0 = some t → crossK m side l x k ≤ t
  | 0, _, t, h => by simp [roomAcc] at h; subst h; simp [crossK]
  | k + 1, hk, t, h => by
    have ha := List.getElem?_eq_getElem (show k < l.length by omega)
    rw [take_get ha, roomAcc_app] at h
    cases h1 : roomAcc m side (l.take k) 0 with
    | none => rw [h1] at h; cases h
    | some u =>
      rw [h1] at h
      have ih := cross_room hf k (by omega) u h1
      have hfa := hf k _ ha
      have hd : l.getD k default = l[k] := by simp [List.getD, ha]
      unfold fitF at hfa
      simp only [Bool.and_eq_true, Bool.or_eq_true, decide_eq_true_eq] at hfa
      simp only [crossK, hd, crossD]
      rcases roomAcc_some h with ⟨h2, h3, h4⟩ | ⟨h2, h3, h4⟩ | ⟨h2, h3, h4⟩
      · rw [h2, out_not_in h2]
        simp only [if_true, Bool.false_eq_true, if_false]
        rcases hfa.2 with h5 | h5
        · exact absurd h5 h3
        · omega
      · rw [h2, h3]
        simp only [if_true, Bool.false_eq_true, if_false]
        omega
      · rw [h2, h3]
        simp only [Bool.false_eq_true, if_false]
        omega
theorem room_bound {m : Int} {side : List Bool} {l : List Arc} (hb : ∀ a ∈ l, (0 ≤ a.low ∧ a.low ≤ 4398046511104) ∧ (a.cap = inf ∨ 0 ≤ a.cap ∧ a.cap ≤ 4398046511104)) : ∀ k, k ≤ l.length → ∀ t, roomAcc m side (l.take k) 0 = some t → -(4398046511104 * (k : Int)) ≤ t ∧ t ≤ 4398046511104 * (k : Int)
  | 0, _, t, h => by simp [roomAcc] at h; subst h; simp
  | k + 1, hk, t, h => by
    have ha := List.getElem?_eq_getElem (show k < l.length by omega)
    rw [take_get ha, roomAcc_app] at h
    cases h1 : roomAcc m side (l.take k) 0 with
    | none => rw [h1] at h; cases h
    | some u =>
      rw [h1] at h
      have ih := room_bound hb k (by omega) u h1
      have hfa := hb _ (List.getElem_mem (show k < l.length by omega))
      rcases roomAcc_some h with ⟨h2, h3, h4⟩ | ⟨h2, h3, h4⟩ | ⟨h2, h3, h4⟩
      · rcases hfa.2 with h5 | h5
        · exact absurd h5 h3
        · omega
      · omega
      · omega
theorem needK_bound {side : List Bool} {s : List Int} {b : Int} (hb : 0 ≤ b) (h : Within b s) : ∀ k : Nat, -(b * k) ≤ needK side s k ∧ needK side s k ≤ b * k
  | 0 => by simp [needK]
  | k + 1 => by
    have ih := needK_bound (side := side) hb h k
    have hg := h.getD hb k
    have e : b * ((k + 1 : Nat) : Int) = b * k + b := by rw [Int.natCast_succ, Int.mul_add]; omega
    simp only [needK]
    split <;> omega
theorem arcs_bound {I : Inst} (hr : rightF I = 0) : ∀ a ∈ I.arcs, (0 ≤ a.low ∧ a.low ≤ 4398046511104) ∧ (a.cap = inf ∨ 0 ≤ a.cap ∧ a.cap ≤ 4398046511104) := fun a ha => by
  have h := rightF_arc hr ha
  obtain ⟨_, h1, _⟩ := h
  unfold inf
  refine ⟨⟨h1.1, h1.2.1⟩, ?_⟩
  rcases h1.2.2 with h2 | h2
  · exact .inl h2
  · exact .inr (by omega)
/-- both compare as they are -/
theorem cmp_need {I : Inst} {side : List Bool} {s : Int} (hr : rightF I = 0) (hl : I.arcs.length ≤ 1000) (hn : I.sup.length ≤ 1000) (hs : Within 4398046511104 I.sup) (h : roomC I side = some s) (m : Int) (hm : m = needF I side) : wcmp (W m) (W s) ≤ 0 ↔ m ≤ s := by
  have hb := room_bound (m := I.sup.length) (side := side) (arcs_bound hr) I.arcs.length (Nat.le_refl _) s (by rw [List.take_length]; exact h)
  have hk := needK_bound (side := side) (by omega) hs I.sup.length
  have e : needF I side = needK side I.sup I.sup.length := rfl
  rw [wcmp_W (by unfold I128; omega) (by unfold I128; omega)]
  split
  · omega
  · split <;> omega
/-- WHERE A SIDE PROVES IT NO FLOW FITS -/
theorem proves_none {I : Inst} {side : List Bool} {x : List Int} (hl : I.arcs.length ≤ 1000) (hn : I.sup.length ≤ 1000) (hx : A64 x) (hs : Within 4398046511104 I.sup) (h : provesF I side = 0) : fitsF I x ≠ 0 := by
  intro hf
  have hr := (fitsF_zero.1 hf).1
  unfold provesF at h
  simp only [hr, ne_eq, not_true, if_false] at h
  split at h
  · omega
  · split at h
    · omega
    · rename_i s hroom
      split at h
      · omega
      · rename_i hc
        rw [cmp_need hr hl hn hs hroom _ rfl] at hc
        have h1 := fits_need side hl hx hs hf
        have h2 := cross_room (m := I.sup.length) (side := side) (fitsAll_iff.1 (fitsF_zero.1 hf).2.2.1) I.arcs.length (Nat.le_refl _) s (by rw [List.take_length]; exact hroom)
        omega
/-- more from the first node to the second one -/
def supM (s : List Int) (m : Int) : List Int := if 1 < s.length then (s.set 0 (s.getD 0 0 + m % 9)).set 1 (s.getD 1 0 - m % 9) else s
theorem supM_len (s : List Int) (m : Int) : (supM s m).length = s.length := by unfold supM; split <;> simp
theorem supM_sum (s : List Int) (m : Int) : (supM s m).sum = s.sum := by
  unfold supM
  split
  · rw [sum_set _ _ _ (by simp; omega), sum_set _ _ _ (by omega)]
    have : (s.set 0 (s.getD 0 0 + m % 9)).getD 1 0 = s.getD 1 0 := by rw [List.getD_eq_getElem?_getD, List.getElem?_set_ne (by omega), ← List.getD_eq_getElem?_getD]
    omega
  · rfl
theorem supM_within {b : Int} {s : List Int} (m : Int) (hb : 0 ≤ b) (h : Within b s) : Within (b + 8) (supM s m) := by
  unfold supM
  split
  · intro z hz
    have g0 := h.getD hb 0
    have g1 := h.getD hb 1
    rcases List.mem_or_eq_of_mem_set hz with hz | rfl
    · rcases List.mem_or_eq_of_mem_set hz with hz | rfl
      · have := h z hz; omega
      · omega
    · omega
  · exact h.more (by omega)
theorem wholeF_len (e : List Int) (n : Nat) : (wholeF e n).length = n := by
  unfold wholeF marksF; simp; omega
end Go.Ql
end
