/- Part of the proof, Flow. -/
import Derived.Test.YtggblkbecekbdaaZVc1
import Derived.Test.YtggblkbecekbdaaZVc11
import Derived.Test.YtggblkbecekbdaaZSpec
section
set_option linter.all false
set_option linter.unusedSimpArgs false
set_option linter.unusedVariables false
namespace Go.Ql
open Go Go.RowKit Go.Vc
def I64 (n : Int) : Prop := -9223372036854775808 ≤ n ∧ n ≤ 9223372036854775807
instance (n : Int) : Decidable (I64 n) := instDecidableAnd
def U64 (n : Int) : Prop := 0 ≤ n ∧ n ≤ 18446744073709551615
def W (n : Int) : Wide := ⟨(n / 18446744073709551616 + 9223372036854775808) % 18446744073709551616 - 9223372036854775808, n % 18446744073709551616⟩
def Wide.v (w : Wide) : Int := w.hi * 18446744073709551616 + w.lo
def Wide.ok (w : Wide) : Prop := I64 w.hi ∧ U64 w.lo
def I128 (n : Int) : Prop := -170141183460469231731687303715884105728 ≤ n ∧ n ≤ 170141183460469231731687303715884105727
theorem wrapI64 (x : Int) : IntKind.i64.wrap x = (x + 9223372036854775808) % 18446744073709551616 - 9223372036854775808 := by
  unfold IntKind.wrap; simp [IntKind.bits, IntKind.signed]; omega
theorem wrapU64 (x : Int) : IntKind.u64.wrap x = x % 18446744073709551616 := by
  unfold IntKind.wrap; simp [IntKind.bits, IntKind.signed]
theorem W_ok (n : Int) : (W n).ok := by unfold W Wide.ok I64 U64; dsimp only; omega
theorem W_congr {m n k : Int} (h : m = n + k * 340282366920938463463374607431768211456) : W m = W n := by
  unfold W
  have e1 : m / 18446744073709551616 = n / 18446744073709551616 + k * 18446744073709551616 := by omega
  have e2 : m % 18446744073709551616 = n % 18446744073709551616 := by omega
  rw [e1, e2]
  have e3 : (n / 18446744073709551616 + k * 18446744073709551616 + 9223372036854775808) % 18446744073709551616 = (n / 18446744073709551616 + 9223372036854775808) % 18446744073709551616 := by omega
  rw [e3]
theorem v_W (n : Int) : ∃ k : Int, (W n).v = n + k * 340282366920938463463374607431768211456 := by
  unfold W Wide.v
  dsimp only
  refine ⟨-((n / 18446744073709551616 + 9223372036854775808) / 18446744073709551616), ?_⟩
  omega
theorem v_of {n : Int} (h : I128 n) : (W n).v = n := by
  unfold I128 at h
  unfold W Wide.v
  dsimp only
  omega
theorem v_I128 {w : Wide} (h : w.ok) : I128 w.v := by
  unfold Wide.ok I64 U64 at h
  unfold Wide.v I128
  omega
def wplus (a b : Wide) : Wide := W (a.v + b.v)
def wminus (a b : Wide) : Wide := W (a.v - b.v)
def wcmp (a b : Wide) : Int := if a.v < b.v then -1 else if b.v < a.v then 1 else 0
@[simp] theorem wplus_W (m n : Int) : wplus (W m) (W n) = W (m + n) := by
  obtain ⟨k, hk⟩ := v_W m
  obtain ⟨j, hj⟩ := v_W n
  exact W_congr (k := k + j) (by rw [hk, hj]; omega)
@[simp] theorem wminus_W (m n : Int) : wminus (W m) (W n) = W (m - n) := by
  obtain ⟨k, hk⟩ := v_W m
  obtain ⟨j, hj⟩ := v_W n
  exact W_congr (k := k - j) (by rw [hk, hj]; omega)
theorem wcmp_W {m n : Int} (hm : I128 m) (hn : I128 n) : wcmp (W m) (W n) = if m < n then -1 else if n < m then 1 else 0 := by
  unfold wcmp; rw [v_of hm, v_of hn]
theorem W_zero : W 0 = ⟨0, 0⟩ := by decide
theorem mul_bound {a b A B : Int} (ha : -A ≤ a) (ha' : a ≤ A) (hb : -B ≤ b) (hb' : b ≤ B) (hA : 0 ≤ A) (hB : 0 ≤ B) : -(A * B) ≤ a * b ∧ a * b ≤ A * B := by
  have h1 := Int.mul_nonneg (show 0 ≤ A - a by omega) (show 0 ≤ B - b by omega)
  have h2 := Int.mul_nonneg (show 0 ≤ A + a by omega) (show 0 ≤ B + b by omega)
  have h3 := Int.mul_nonneg (show 0 ≤ A - a by omega) (show 0 ≤ B + b by omega)
  have h4 := Int.mul_nonneg (show 0 ≤ A + a by omega) (show 0 ≤ B - b by omega)
  simp only [Int.sub_mul, Int.add_mul, Int.mul_sub, Int.mul_add] at h1 h2 h3 h4
  omega
theorem and_low {x : Int} (h0 : 0 ≤ x) (h1 : x ≤ 18446744073709551615) : andS .u64 x 4294967295 = x % 4294967296 := by
  unfold andS
  have e : (BitVec.ofInt IntKind.u64.bits x &&& BitVec.ofInt IntKind.u64.bits 4294967295).toNat = x.toNat % 4294967296 := by
    rw [BitVec.toNat_and, BitVec.toNat_ofInt, BitVec.toNat_ofInt]
    have hb : IntKind.u64.bits = 64 := rfl
    rw [hb]
    have e1 : (x % ((2 ^ 64 : Nat) : Int)).toNat = x.toNat := by
      rw [Int.emod_eq_of_lt h0 (by omega)]
    have e2 : ((4294967295 : Int) % ((2 ^ 64 : Nat) : Int)).toNat = 2 ^ 32 - 1 := by decide
    rw [e1, e2, Nat.and_two_pow_sub_one_eq_mod]
  rw [e, wrapU64]
  omega
end Go.Ql
end
section
set_option linter.all false
set_option linter.unusedSimpArgs false
set_option linter.unusedVariables false
namespace Go.Ql
open Go Go.RowKit
def inf : Int := 4611686018427387904
def okArc (n : Int) (a : Arc) : Bool := decide (0 ≤ a.src) && decide (a.src < n) && (decide (0 ≤ a.dst) && decide (a.dst < n))
theorem okArc_iff {n : Int} {a : Arc} : okArc n a = true ↔ 0 ≤ a.src ∧ a.src < n ∧ 0 ≤ a.dst ∧ a.dst < n := by
  simp [okArc, and_assoc]
def A64 (l : List Int) : Prop := ∀ x ∈ l, I64 x
theorem A64.getD {l : List Int} (h : A64 l) (k : Nat) : I64 (l.getD k 0) := by
  by_cases hk : k < l.length
  · have := h _ (List.getElem_mem hk)
    simpa [List.getD, hk] using this
  · simp [List.getD, hk, I64]
def flowD (n : Int) (a : Arc) (f : Int) (v : Int) : Int := if okArc n a then (if a.src = v then f else 0) - (if a.dst = v then f else 0) else 0
def netK (n : Int) (l : List Arc) (x : List Int) : Nat → Int → Int
  | 0, _ => 0
  | k + 1, v => netK n l x k v + flowD n (l.getD k default) (x.getD k 0) v
def netF (I : Inst) (x : List Int) : List Wide := (List.range I.sup.length).map (fun v : Nat => W (netK I.sup.length I.arcs x I.arcs.length v))
def costK (l : List Arc) (x : List Int) : Nat → Int
  | 0 => 0
  | k + 1 => costK l x k + (l.getD k default).cost * x.getD k 0
def costF (I : Inst) (x : List Int) : Int := costK I.arcs x I.arcs.length
def fitF (a : Arc) (x : Int) : Bool := decide (a.low ≤ x) && (decide (a.cap = inf) || decide (x ≤ a.cap))
def fitsAll : List Arc → List Int → Bool
  | [], _ => true
  | a :: l, x => fitF a (x.headD 0) && fitsAll l x.tail
def netOk (I : Inst) (x : List Int) : Bool := (List.range I.sup.length).all (fun v => decide (W (netK I.sup.length I.arcs x I.arcs.length v) = W (I.sup.getD v 0)))
def fitsF (I : Inst) (x : List Int) : Int :=
  if rightF I ≠ 0 then rightF I else if x.length ≠ I.arcs.length then 30 else if !fitsAll I.arcs x then 31 else if !netOk I x then 32 else 0
def gOk (n : Int) (l : List Arc) (a : Int) : Bool := decide (0 ≤ a) && decide (a < l.length) && okArc n (l.getD a.toNat default)
def gArc (n : Int) (l : List Arc) (a : Int) : Arc := if gOk n l a then l.getD a.toNat default else ⟨0, 0, 0, 0, 0⟩
def netAt (I : Inst) (x : List Int) (k : Nat) : List Wide := (List.range I.sup.length).map (fun v : Nat => W (netK I.sup.length I.arcs x k v))
def flowF (I : Inst) (d : List Int) : List Int := (List.range I.arcs.length).map (fun k => useOf d k (I.arcs.getD k default))
def A64a (l : List Arc) : Prop := ∀ a ∈ l, I64 a.low ∧ I64 a.cap
def A64c (l : List Arc) : Prop := ∀ a ∈ l, I64 a.cost
def L42 (l : List Arc) : Prop := ∀ a ∈ l, 0 ≤ a.low ∧ a.low ≤ 4398046511104
theorem gOk_at {n : Int} {l : List Arc} {a : Int} {x : Arc} (h0 : 0 ≤ a) (h : l[a.toNat]? = some x) : gOk n l a = okArc n x := by
  have hl := get_lt h
  unfold gOk
  have hg : l.getD a.toNat default = x := by simp [List.getD, h]
  rw [hg]
  simp [h0, show a < (l.length : Int) by omega]
theorem gArc_at {n : Int} {l : List Arc} {a : Int} {x : Arc} (h0 : 0 ≤ a) (h : l[a.toNat]? = some x) : gArc n l a = if okArc n x then x else ⟨0, 0, 0, 0, 0⟩ := by
  have hg : l.getD a.toNat default = x := by simp [List.getD, h]
  unfold gArc
  rw [gOk_at h0 h, hg]
theorem gOk_out {n : Int} {l : List Arc} {a : Int} (h : a < 0 ∨ l.length ≤ a) : gOk n l a = false := by
  unfold gOk
  rcases h with h | h
  · simp [show ¬ 0 ≤ a by omega]
  · simp [show ¬ a < (l.length : Int) by omega]
theorem gArc_out {n : Int} {l : List Arc} {a : Int} (h : a < 0 ∨ l.length ≤ a) : gArc n l a = ⟨0, 0, 0, 0, 0⟩ := by
  unfold gArc; rw [gOk_out h]; rfl
theorem map_range_set {α : Type} (f : Nat → α) (n j : Nat) (v : α) : ((List.range n).map f).set j v = (List.range n).map (fun t => if t = j then v else f t) := by
  apply List.ext_getElem?
  intro i
  rw [List.getElem?_set]
  by_cases hi : i < n
  · by_cases h : j = i
    · subst h; simp [hi]
    · have h' : ¬ i = j := fun e => h e.symm
      simp [h, h', hi]
  · by_cases h : j = i
    · subst h; simp [hi]
    · simp [h, hi]
theorem map_range_get {α : Type} {f : Nat → α} {n j : Nat} {v : α} (h : ((List.range n).map f)[j]? = some v) : j < n ∧ v = f j := by
  rw [List.getElem?_map] at h
  obtain ⟨z, hz, rfl⟩ := Option.map_eq_some_iff.1 h
  have hj : j < n := by have := get_lt hz; simpa using this
  rw [List.getElem?_range hj] at hz
  cases hz; exact ⟨hj, rfl⟩
theorem netAt_len (I : Inst) (x : List Int) (k : Nat) : (netAt I x k).length = I.sup.length := by simp [netAt]
theorem netAt_get {I : Inst} {x : List Int} {k j : Nat} {w : Wide} (h : (netAt I x k)[j]? = some w) : j < I.sup.length ∧ w = W (netK I.sup.length I.arcs x k j) := map_range_get h
theorem netAt_step {I : Inst} {x : List Int} {k : Nat} {a : Arc} (h : I.arcs[k]? = some a) (ho : okArc I.sup.length a = true) {p q : Wide} (hp : (netAt I x k)[a.src.toNat]? = some p)
    (hq : ((netAt I x k).set a.src.toNat (wplus p (W (x.getD k 0))))[a.dst.toNat]? = some q) : q.ok ∧ p.ok ∧ ((netAt I x k).set a.src.toNat (wplus p (W (x.getD k 0)))).set a.dst.toNat (wminus q (W (x.getD k 0))) = netAt I x (k + 1) := by
  obtain ⟨o1, o2, o3, o4⟩ := okArc_iff.1 ho
  obtain ⟨_, rfl⟩ := netAt_get hp
  unfold netAt at hq ⊢
  rw [wplus_W, map_range_set] at hq ⊢
  obtain ⟨_, rfl⟩ := map_range_get hq
  have hg : I.arcs.getD k default = a := by simp [List.getD, h]
  refine ⟨by split <;> exact W_ok _, W_ok _, ?_⟩
  rw [map_range_set]
  apply List.map_congr_left
  intro t ht
  simp only [netK, hg, flowD, ho, if_true]
  by_cases e1 : t = a.dst.toNat <;> by_cases e2 : t = a.src.toNat
  · have e3 : a.dst.toNat = a.src.toNat := by omega
    rw [if_pos e1, if_pos e3, wminus_W, if_pos (by omega), if_pos (by omega)]
    congr 1
    rw [← e2]; omega
  · have e3 : ¬ a.dst.toNat = a.src.toNat := by omega
    rw [if_pos e1, if_neg e3, wminus_W, if_neg (by omega), if_pos (by omega)]
    congr 1
    rw [← e1]; omega
  · rw [if_neg e1, if_pos e2, if_pos (by omega), if_neg (by omega)]
    congr 1
    rw [← e2]; omega
  · rw [if_neg e1, if_neg e2, if_neg (by omega), if_neg (by omega)]
    congr 1
    omega
theorem netAt_same {I : Inst} {x : List Int} {k : Nat} {a : Arc} (h : I.arcs[k]? = some a) (ho : okArc I.sup.length a = false) : netAt I x k = netAt I x (k + 1) := by
  unfold netAt
  apply List.map_congr_left
  intro t ht
  have hg : I.arcs.getD k default = a := by simp [List.getD, h]
  simp only [netK, hg, flowD, ho]
  simp
theorem netF_len (I : Inst) (x : List Int) : (netF I x).length = I.sup.length := by simp [netF]
theorem fitsAll_drop {l : List Arc} {x : List Int} {k : Nat} {a : Arc} (h : l[k]? = some a) : fitsAll (l.drop k) (x.drop k) = (fitF a (x.getD k 0) && fitsAll (l.drop (k + 1)) (x.drop (k + 1))) := by
  rw [drop_get h, fitsAll]
  congr 1
  · congr 1
    by_cases hk : k < x.length
    · rw [List.drop_eq_getElem_cons hk]; simp [List.getD, hk]
    · simp [List.drop_of_length_le (Nat.le_of_not_lt hk), List.getD, hk]
  · rw [List.tail_drop]
theorem rightF_small' (I : Inst) : 0 ≤ rightF I ∧ rightF I ≤ 25 := by
  have h1 : ∀ (n : Int) (l : List Arc), 0 ≤ arcsErr n l ∧ arcsErr n l ≤ 23 := fun n l => by
    induction l with
    | nil => simp [arcsErr]
    | cons x l ih => simp only [arcsErr]; unfold rightArcF at *; (repeat' split) <;> omega
  have h2 : ∀ (l : List Int) (s : Int), 0 ≤ supErr l s ∧ supErr l s ≤ 25 := fun l => by
    induction l with
    | nil => intro s; simp only [supErr]; split <;> omega
    | cons x l ih => intro s; simp only [supErr]; split
                     · omega
                     · exact ih _
  have := h1 I.sup.length I.arcs
  have := h2 I.sup 0
  unfold rightF; (repeat' split) <;> omega
theorem arcsErr_all {n : Int} : ∀ {l : List Arc}, arcsErr n l = 0 → ∀ a ∈ l, rightArcF a n = 0
  | [], _, a, ha => by cases ha
  | b :: l, h, a, ha => by
    simp only [arcsErr] at h
    split at h
    · rename_i hb
      cases ha with
      | head => first | exact hb | (simp at hb; exact hb)
      | tail _ ha => exact arcsErr_all h a ha
    · rename_i hb
      exact absurd h hb
theorem rightF_arc {I : Inst} (h : rightF I = 0) {a : Arc} (ha : a ∈ I.arcs) : okArc I.sup.length a = true ∧ (0 ≤ a.low ∧ a.low ≤ 4398046511104 ∧ (a.cap = 4611686018427387904 ∨ a.low ≤ a.cap ∧ a.cap ≤ 4398046511104)) ∧ -4398046511104 ≤ a.cost ∧ a.cost ≤ 4398046511104 := by
  unfold rightF at h
  split at h
  · omega
  · split at h
    · rename_i he
      have hr := arcsErr_all he a ha
      unfold rightArcF at hr
      rw [okArc_iff]
      (repeat' split at hr) <;> first | omega | (simp_all; omega) | grind
    · rename_i he; exact absurd h he
theorem instF_A64c (c d : List Int) : A64c (instF c d).arcs := fun a ha => by
  have h := instF_nice c d a ha
  have := h.k0; have := h.k1
  unfold I64; omega
theorem instF_L42 (c d : List Int) : L42 (instF c d).arcs := fun a ha => by
  have h := instF_nice c d a ha
  have := h.l0; have := h.l1
  omega
theorem flowF_len (I : Inst) (d : List Int) : (flowF I d).length = I.arcs.length := by simp [flowF]
theorem A64.set {l : List Int} (h : A64 l) {k : Nat} {v : Int} (hv : I64 v) : A64 (l.set k v) := fun y hy => by
  rcases List.mem_or_eq_of_mem_set hy with hy | rfl
  · exact h y hy
  · exact hv
end Go.Ql
end
section
set_option linter.all false
set_option linter.unusedSimpArgs false
set_option linter.unusedVariables false
namespace Go.Ql
open Go Go.RowKit
def hasK (a : Arc) (j : Nat) : Bool := decide ((j : Int) = 2 * a.src) || decide ((j : Int) = 2 * a.dst + 1)
def inK (I : Inst) (j a : Nat) : Bool := okArc I.sup.length (I.arcs.getD a default) && hasK (I.arcs.getD a default) j
def segA (I : Inst) (m j : Nat) : List Nat := (List.range m).filter (inK I j)
def cntA (I : Inst) (m j : Nat) : Nat := (segA I m j).length
def sumA (I : Inst) : Nat → Nat
  | 0 => 0
  | k + 1 => sumA I k + cntA I I.arcs.length k
def startF (I : Inst) : List Int := (List.range (2 * I.sup.length + 1)).map (fun k => (sumA I k : Int))
def listF (I : Inst) : List Int := (List.range (2 * I.sup.length)).flatMap (fun j => (segA I I.arcs.length j).map Int.ofNat)
def S1 (I : Inst) (m : Nat) : List Int := (List.range (2 * I.sup.length + 1)).map (fun k => if k = 0 then 0 else (cntA I m (k - 1) : Int))
def S2 (I : Inst) (k : Nat) : List Int := (List.range (2 * I.sup.length + 1)).map (fun i => if i ≤ k then (sumA I i : Int) else (cntA I I.arcs.length (i - 1) : Int))
def N3 (I : Inst) (m : Nat) : List Int := (List.range (2 * I.sup.length + 1)).map (fun k => ((sumA I k + cntA I m k : Nat) : Int))
def segL (I : Inst) (m j : Nat) : List Int := (segA I m j).map Int.ofNat ++ List.replicate (cntA I I.arcs.length j - cntA I m j) 0
def L3 (I : Inst) (m : Nat) : List Int := (List.range (2 * I.sup.length)).flatMap (segL I m)
theorem segA_succ (I : Inst) (m j : Nat) : segA I (m + 1) j = segA I m j ++ (if inK I j m then [m] else []) := by
  unfold segA
  rw [List.range_succ, List.filter_append]
  congr 1
  cases h : inK I j m <;> simp [h]
theorem cntA_succ (I : Inst) (m j : Nat) : cntA I (m + 1) j = cntA I m j + (if inK I j m then 1 else 0) := by
  unfold cntA
  rw [segA_succ, List.length_append]
  split <;> simp
theorem cntA_zero (I : Inst) (j : Nat) : cntA I 0 j = 0 := rfl
theorem cntA_le (I : Inst) (j : Nat) : ∀ m, cntA I m j ≤ m
  | 0 => Nat.le_refl _
  | m + 1 => by rw [cntA_succ]; have := cntA_le I j m; split <;> omega
theorem cntA_mono (I : Inst) (j : Nat) : ∀ (m k : Nat), cntA I m j ≤ cntA I (m + k) j
  | m, 0 => Nat.le_refl _
  | m, k + 1 => by
    rw [show m + (k + 1) = (m + k) + 1 by omega, cntA_succ]
    have := cntA_mono I j m k
    omega
theorem cntA_lt {I : Inst} {m j : Nat} (hm : m < I.arcs.length) (h : inK I j m = true) : cntA I m j < cntA I I.arcs.length j := by
  have h1 := cntA_mono I j (m + 1) (I.arcs.length - (m + 1))
  rw [show m + 1 + (I.arcs.length - (m + 1)) = I.arcs.length by omega, cntA_succ, if_pos h] at h1
  omega
theorem sumA_mono (I : Inst) : ∀ (j k : Nat), sumA I j ≤ sumA I (j + k)
  | j, 0 => Nat.le_refl _
  | j, k + 1 => by
    have := sumA_mono I j k
    show sumA I j ≤ sumA I (j + k) + _
    omega
theorem sumA_le (I : Inst) : ∀ k, sumA I k ≤ k * I.arcs.length
  | 0 => by simp [sumA]
  | k + 1 => by
    have h1 := sumA_le I k
    have h2 := cntA_le I k I.arcs.length
    show sumA I k + _ ≤ _
    rw [Nat.add_mul]; omega
theorem S1_zero (I : Inst) : S1 I 0 = List.replicate (2 * I.sup.length + 1) 0 := by
  unfold S1
  simp only [cntA_zero]
  apply List.ext_getElem?
  intro i
  by_cases h : i < 2 * I.sup.length + 1
  · simp [h]
  · simp [h]
theorem inK_of {I : Inst} {m : Nat} {a : Arc} (h : I.arcs[m]? = some a) (j : Nat) : inK I j m = (okArc I.sup.length a && hasK a j) := by
  have hg : I.arcs.getD m default = a := by simp [List.getD, h]
  unfold inK; rw [hg]
theorem hasK_iff {a : Arc} {j : Nat} : hasK a j = true ↔ (j : Int) = 2 * a.src ∨ (j : Int) = 2 * a.dst + 1 := by simp [hasK]
theorem S1_step {I : Inst} {m : Nat} {a : Arc} (h : I.arcs[m]? = some a) (ho : okArc I.sup.length a = true) {p q : Int} (hp : (S1 I m)[(2 * a.src + 1).toNat]? = some p)
    (hq : ((S1 I m).set (2 * a.src + 1).toNat (p + 1))[(2 * a.dst + 2).toNat]? = some q) : ((S1 I m).set (2 * a.src + 1).toNat (p + 1)).set (2 * a.dst + 2).toNat (q + 1) = S1 I (m + 1) := by
  obtain ⟨o1, o2, o3, o4⟩ := okArc_iff.1 ho
  unfold S1 at hp hq ⊢
  obtain ⟨_, rfl⟩ := map_range_get hp
  rw [map_range_set] at hq ⊢
  obtain ⟨_, rfl⟩ := map_range_get hq
  rw [map_range_set]
  apply List.map_congr_left
  intro t ht
  have hk : ∀ j, inK I j m = hasK a j := fun j => by rw [inK_of h, ho, Bool.true_and]
  by_cases e0 : t = 0
  · subst e0
    rw [if_neg (by omega), if_neg (by omega), if_pos rfl, if_pos rfl]
  · rw [if_neg e0, if_neg e0, cntA_succ, hk]
    by_cases e1 : t = (2 * a.src + 1).toNat <;> by_cases e2 : t = (2 * a.dst + 2).toNat
    · omega
    · rw [if_neg e2, if_pos e1, if_neg (by omega), ← e1]
      rw [if_pos (hasK_iff.2 (.inl (by omega)))]; omega
    · rw [if_pos e2, if_neg (by omega), if_neg (by omega), ← e2]
      rw [if_pos (hasK_iff.2 (.inr (by omega)))]; omega
    · rw [if_neg e2, if_neg e1, if_neg (fun h => ?_)]
      · omega
      · rcases hasK_iff.1 h with h | h <;> omega
theorem S1_same {I : Inst} {m : Nat} {a : Arc} (h : I.arcs[m]? = some a) (ho : okArc I.sup.length a = false) : S1 I m = S1 I (m + 1) := by
  unfold S1
  apply List.map_congr_left
  intro t ht
  rw [cntA_succ, inK_of h, ho]
  simp
theorem S1_get {I : Inst} {m j : Nat} {v : Int} (h : (S1 I m)[j]? = some v) : v = if j = 0 then 0 else (cntA I m (j - 1) : Int) := by unfold S1 at h; exact (map_range_get h).2
theorem S2_get {I : Inst} {k j : Nat} {v : Int} (h : (S2 I k)[j]? = some v) : v = if j ≤ k then (sumA I j : Int) else (cntA I I.arcs.length (j - 1) : Int) := by unfold S2 at h; exact (map_range_get h).2
theorem startF_get {I : Inst} {j : Nat} {v : Int} (h : (startF I)[j]? = some v) : v = (sumA I j : Int) := by unfold startF at h; exact (map_range_get h).2
theorem S1_S2 (I : Inst) : S1 I I.arcs.length = S2 I 0 := by
  unfold S1 S2
  apply List.map_congr_left
  intro t ht
  by_cases e : t = 0
  · subst e; simp [sumA]
  · rw [if_neg e, if_neg (by omega)]
theorem S2_step {I : Inst} {k : Nat} {p q : Int} (hk : k < 2 * I.sup.length) (hp : (S2 I k)[k + 1]? = some p) (hq : (S2 I k)[k]? = some q) : (S2 I k).set (k + 1) (p + q) = S2 I (k + 1) := by
  unfold S2 at hp hq ⊢
  obtain ⟨_, rfl⟩ := map_range_get hp
  obtain ⟨_, rfl⟩ := map_range_get hq
  rw [map_range_set]
  apply List.map_congr_left
  intro t ht
  by_cases e : t = k + 1
  · subst e
    rw [if_pos rfl, if_neg (by omega), if_pos (by omega), if_pos (by omega)]
    show _ = ((sumA I k + cntA I I.arcs.length k : Nat) : Int)
    simp; omega
  · rw [if_neg e]
    by_cases e2 : t ≤ k
    · rw [if_pos e2, if_pos (by omega)]
    · rw [if_neg e2, if_neg (by omega)]
theorem S2_end (I : Inst) : S2 I (2 * I.sup.length) = startF I := by
  unfold S2 startF
  apply List.map_congr_left
  intro t ht
  rw [if_pos (by have := List.mem_range.1 ht; omega)]
theorem startF_N3 (I : Inst) : startF I = N3 I 0 := by
  unfold startF N3
  apply List.map_congr_left
  intro t ht
  simp [cntA_zero]
theorem fm_congr {α β : Type} {f g : α → List β} : ∀ {l : List α}, (∀ t ∈ l, f t = g t) → l.flatMap f = l.flatMap g
  | [], _ => rfl
  | a :: l, h => by rw [List.flatMap_cons, List.flatMap_cons, h a (by simp), fm_congr (fun t ht => h t (by simp [ht]))]
theorem flatMap_set {f : Nat → List Int} {v : Int} : ∀ {n j i b : Nat}, (∀ t, b ≤ t → t < b + n → (f t).length = (f t).length) → b ≤ j → j < b + n → i < (f j).length →
    ((List.range' b n).flatMap f).set (((List.range' b (j - b)).map (fun t => (f t).length)).sum + i) v = (List.range' b n).flatMap (fun t => if t = j then (f j).set i v else f t)
  | 0, j, i, b, _, h1, h2, _ => by omega
  | n + 1, j, i, b, hl, h1, h2, h3 => by
    rw [List.range'_succ, List.flatMap_cons, List.flatMap_cons]
    by_cases e : b = j
    · subst e
      simp only [Nat.sub_self, List.range'_zero, List.map_nil, List.sum_nil, Nat.zero_add, if_true]
      rw [List.set_append_left _ _ h3]
      congr 1
      apply fm_congr
      intro t ht
      have := List.mem_range'_1.1 ht
      rw [if_neg (by omega)]
    · rw [if_neg e, show j - b = (j - (b + 1)) + 1 by omega, List.range'_succ, List.map_cons, List.sum_cons]
      rw [show (f b).length + ((List.range' (b + 1) (j - (b + 1))).map (fun t => (f t).length)).sum + i = (f b).length + (((List.range' (b + 1) (j - (b + 1))).map (fun t => (f t).length)).sum + i) by omega]
      rw [List.set_append_right _ _ (by omega), Nat.add_sub_cancel_left]
      congr 1
      exact flatMap_set (fun _ _ _ => rfl) (by omega) (by omega) h3
theorem segL_len {I : Inst} {m : Nat} (hm : m ≤ I.arcs.length) (j : Nat) : (segL I m j).length = cntA I I.arcs.length j := by
  have := cntA_mono I j m (I.arcs.length - m)
  rw [show m + (I.arcs.length - m) = I.arcs.length by omega] at this
  unfold segL
  rw [List.length_append, List.length_map, List.length_replicate]
  show cntA I m j + _ = _
  omega
theorem sum_range (I : Inst) {f : Nat → List Int} (hf : ∀ t, (f t).length = cntA I I.arcs.length t) : ∀ j, ((List.range' 0 j).map (fun t => (f t).length)).sum = sumA I j
  | 0 => rfl
  | j + 1 => by
    rw [List.range'_concat, List.map_append, List.sum_append, sum_range I hf j]
    simp [hf, sumA]
theorem flatMap_len (I : Inst) {f : Nat → List Int} (hf : ∀ t, (f t).length = cntA I I.arcs.length t) (n : Nat) : ((List.range n).flatMap f).length = sumA I n := by
  rw [List.length_flatMap, List.range_eq_range', sum_range I hf n]
def segP (I : Inst) (m : Nat) (d : Nat → Bool) (j : Nat) : List Int := if d j then segL I (m + 1) j else segL I m j
theorem segP_len {I : Inst} {m : Nat} (hm : m < I.arcs.length) (d : Nat → Bool) (j : Nat) : (segP I m d j).length = cntA I I.arcs.length j := by
  unfold segP; split
  · exact segL_len (by omega) j
  · exact segL_len (by omega) j
theorem segL_put {I : Inst} {m j : Nat} (hm : m < I.arcs.length) (h : inK I j m = true) : (segL I m j).set (cntA I m j) (m : Int) = segL I (m + 1) j := by
  have hl := cntA_lt hm h
  unfold segL
  rw [List.set_append_right _ _ (by simp [cntA]), List.length_map, segA_succ, if_pos h, cntA_succ, if_pos h]
  show _ ++ (List.replicate (cntA I I.arcs.length j - cntA I m j) 0).set (cntA I m j - cntA I m j) _ = _
  rw [Nat.sub_self, show cntA I I.arcs.length j - cntA I m j = (cntA I I.arcs.length j - (cntA I m j + 1)) + 1 by omega, List.replicate_succ, List.set_cons_zero]
  simp
theorem L3_put {I : Inst} {m j : Nat} {d : Nat → Bool} (hm : m < I.arcs.length) (hj : j < 2 * I.sup.length) (h : inK I j m = true) (hd : d j = false) :
    ((List.range (2 * I.sup.length)).flatMap (segP I m d)).set (sumA I j + cntA I m j) (m : Int) = (List.range (2 * I.sup.length)).flatMap (segP I m (fun t => t == j || d t)) := by
  have hl := segP_len hm d
  have h1 := flatMap_set (f := segP I m d) (v := (m : Int)) (n := 2 * I.sup.length) (j := j) (i := cntA I m j) (b := 0) (fun _ _ _ => rfl) (by omega) (by omega) (by rw [hl]; exact cntA_lt hm h)
  rw [Nat.sub_zero, sum_range I hl, ← List.range_eq_range'] at h1
  rw [h1]
  apply fm_congr
  intro t ht
  by_cases e : t = j
  · subst e
    simp only [if_true, segP, hd, beq_self_eq_true, Bool.true_or]
    exact segL_put hm h
  · have : (t == j) = false := by simp [e]
    simp only [e, if_false, segP, this, Bool.false_or]
def nP (I : Inst) (m : Nat) (d : Nat → Bool) : List Int := (List.range (2 * I.sup.length + 1)).map (fun k => ((sumA I k + cntA I (if d k then m + 1 else m) k : Nat) : Int))
theorem nP_put {I : Inst} {m j : Nat} {d : Nat → Bool} (h : inK I j m = true) (hd : d j = false) : (nP I m d).set j (((sumA I j + cntA I m j : Nat) : Int) + 1) = nP I m (fun t => t == j || d t) := by
  unfold nP
  rw [map_range_set]
  apply List.map_congr_left
  intro t ht
  by_cases e : t = j
  · subst e
    simp only [if_true, beq_self_eq_true, Bool.true_or]
    rw [cntA_succ, if_pos h]
    simp; omega
  · have : (t == j) = false := by simp [e]
    simp only [e, if_false, this, Bool.false_or]
theorem nP_get {I : Inst} {m j : Nat} {d : Nat → Bool} {v : Int} (h : (nP I m d)[j]? = some v) (hd : d j = false) : v = ((sumA I j + cntA I m j : Nat) : Int) := by
  obtain ⟨_, rfl⟩ := map_range_get h
  simp [hd]
theorem N3_nP (I : Inst) (m : Nat) : N3 I m = nP I m (fun _ => false) := rfl
theorem L3_segP (I : Inst) (m : Nat) : L3 I m = (List.range (2 * I.sup.length)).flatMap (segP I m (fun _ => false)) := by
  unfold L3
  apply fm_congr
  intro t ht
  rfl
theorem nP_done {I : Inst} {m p q : Nat} (h : ∀ j, inK I j m = true ↔ j = p ∨ j = q) : nP I m (fun t => t == q || (t == p || false)) = N3 I (m + 1) := by
  unfold nP N3
  apply List.map_congr_left
  intro t ht
  by_cases e : t = p ∨ t = q
  · have : (t == q || (t == p || false)) = true := by rcases e with e | e <;> simp [e]
    simp only [this, if_true]
  · have h1 : (t == q || (t == p || false)) = false := by
      simp only [not_or] at e; simp [e.1, e.2]
    have h2 : inK I t m = false := by rw [Bool.eq_false_iff]; intro hk; exact e ((h t).1 hk)
    simp only [h1]
    rw [cntA_succ, h2]; simp
theorem L3_done {I : Inst} {m p q : Nat} (h : ∀ j, inK I j m = true ↔ j = p ∨ j = q) : (List.range (2 * I.sup.length)).flatMap (segP I m (fun t => t == q || (t == p || false))) = L3 I (m + 1) := by
  unfold L3
  apply fm_congr
  intro t ht
  unfold segP
  by_cases e : t = p ∨ t = q
  · have : (t == q || (t == p || false)) = true := by rcases e with e | e <;> simp [e]
    simp only [this, if_true]
  · have h1 : (t == q || (t == p || false)) = false := by
      simp only [not_or] at e; simp [e.1, e.2]
    have h2 : inK I t m = false := by rw [Bool.eq_false_iff]; intro hk; exact e ((h t).1 hk)
    simp only [h1]
    unfold segL
    rw [segA_succ, cntA_succ, h2]; simp
theorem N3_same {I : Inst} {m : Nat} {a : Arc} (h : I.arcs[m]? = some a) (ho : okArc I.sup.length a = false) : N3 I m = N3 I (m + 1) ∧ L3 I m = L3 I (m + 1) := by
  have hk : ∀ j, inK I j m = false := fun j => by rw [inK_of h, ho]; rfl
  unfold N3 L3
  refine ⟨?_, ?_⟩
  · apply List.map_congr_left
    intro t ht
    rw [cntA_succ, hk]; simp
  · apply fm_congr
    intro t ht
    unfold segL
    rw [segA_succ, cntA_succ, hk]; simp
theorem L3_zero (I : Inst) : L3 I 0 = List.replicate (sumA I (2 * I.sup.length)) 0 := by
  have hz : ∀ j, segL I 0 j = List.replicate (cntA I I.arcs.length j) 0 := fun j => by simp [segL, segA, cntA_zero]
  apply List.eq_replicate_iff.2
  refine ⟨flatMap_len I (fun t => segL_len (by omega) t) _, fun b hb => ?_⟩
  unfold L3 at hb
  rw [List.mem_flatMap] at hb
  obtain ⟨j, _, hb⟩ := hb
  rw [hz] at hb
  exact (List.mem_replicate.1 hb).2
theorem L3_end (I : Inst) : L3 I I.arcs.length = listF I := by
  unfold L3 listF
  apply fm_congr
  intro t ht
  unfold segL
  simp
end Go.Ql
end
