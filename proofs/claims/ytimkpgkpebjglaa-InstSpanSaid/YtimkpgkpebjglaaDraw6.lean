/-
  THE THEOREM: 'wp_draw': a region that draws its order, by one walk over its operations in the text's order (or in another that is handed in). The Bool 'drawOk' is reckoned by the kernel.
-/
import Derived.Test.YtimkpgkpebjglaaDraw5
import Derived.KernelRfl
namespace Go.Draw
open Go

section
variable {P : Program} {ops : Array Oper}

/-- all that an operation waits for, near and far -/
def ancs (ops : Array Oper) : Array (List Nat) :=
  ops.foldl (init := #[]) fun acc o => acc.push ((o.after.toList.filter (Region.binds .any)).flatMap fun e => e.on :: acc.getD e.on []).eraseDups

def kindAt (P : Program) (ops : Array Oper) (i : Nat) : Option Bool := (ops[i]?).bind (quietKind P)

def pairOk (P : Program) (ops : Array Oper) (A : Array (List Nat)) (x y : Nat × Bool) : Bool :=
  !(A.getD x.1 []).contains y.1 && x.1 != y.1 &&
  ((A.getD y.1 []).contains x.1 ||
    match kindAt P ops x.1, kindAt P ops y.1 with
    | none, some false => true
    | none, _ => false
    | some false, _ => true
    | some true, some _ => true
    | some true, none => y.2 || ((ops[y.1]?).map newKind).getD false)

def pairsOk (P : Program) (ops : Array Oper) (A : Array (List Nat)) : List (Nat × Bool) → Bool
  | [] => true
  | x :: r => r.all (pairOk P ops A x) && pairsOk P ops A r

def opOk (P : Program) (ops : Array Oper) (A : Array (List Nat)) (i : Nat) : Bool :=
  match ops[i]? with
  | none => true
  | some o =>
    (match o.op with | .select .. => false | _ => true) &&
    !(A.getD i []).contains i &&
    o.after.toList.all (fun e => !Region.binds .any e || (e.on < ops.size && (A.getD i []).contains e.on)) &&
    (A.getD i []).all (fun x => o.after.toList.any fun e => Region.binds .any e && (e.on == x || (A.getD e.on []).contains x)) &&
    (List.range ops.size).all (fun j => j == i || (A.getD i []).contains j || (A.getD j []).contains i || match ops[j]? with | some oj => o.apart ops oj | none => true) &&
    ((quietKind P o).isNone || (looks ops o).all fun x => match x with
      | .tmp t => (List.range ops.size).all fun j => (ops[j]?).bind (·.dst) != some t || (A.getD i []).contains j
      | _ => true)

def drawOkA (P : Program) (ops : Array Oper) (A : Array (List Nat)) (l : List (Nat × Bool)) : Bool :=
  (List.range ops.size).all (opOk P ops A) && pairsOk P ops A l && l.all (fun x => x.1 < ops.size) && (List.range ops.size).all (fun i => (l.map (·.1)).contains i)

def drawOk (P : Program) (ops : Array Oper) (l : List (Nat × Bool)) : Bool := drawOkA P ops (ancs ops) l

structure Static (P : Program) (ops : Array Oper) (A : Array (List Nat)) : Prop where
  sel : ∀ (i : Nat) (o : Oper) (cs : Array SelectCase) (b : Bool), ops[i]? = some o → o.op ≠ .select cs b
  irr : ∀ i o, ops[i]? = some o → i ∉ A.getD i []
  edge : ∀ i o, ops[i]? = some o → ∀ e ∈ o.after, Region.binds .any e = true → e.on < ops.size ∧ e.on ∈ A.getD i []
  clos : ∀ i o, ops[i]? = some o → ∀ x ∈ A.getD i [], ∃ e ∈ o.after, Region.binds .any e = true ∧ (e.on = x ∨ x ∈ A.getD e.on [])
  apart : ∀ i j oi oj, ops[i]? = some oi → ops[j]? = some oj → i ≠ j → j ∉ A.getD i [] → i ∉ A.getD j [] → oi.apart ops oj = true
  unw : ∀ i o, ops[i]? = some o → (∃ l, quietKind P o = some l) → ∀ x ∈ looks ops o, ∀ t, x = .tmp t → ∀ j, (ops[j]?).bind (·.dst) = some t → j ∈ A.getD i []

theorem static_of {A : Array (List Nat)} (h : (List.range ops.size).all (opOk P ops A) = true) : Static P ops A := by
  have key : ∀ i o, ops[i]? = some o → opOk P ops A i = true := fun i o ho =>
    List.all_eq_true.1 h i (List.mem_range.2 (Array.getElem?_eq_some_iff.1 ho).1)
  have unf : ∀ i o, ops[i]? = some o → _ := fun i o ho => by
    have := key i o ho
    unfold opOk at this
    rw [ho] at this
    simp only [Bool.and_eq_true] at this
    exact this
  constructor
  · intro i o cs b ho heq
    have := (unf i o ho).1.1.1.1.1
    rw [heq] at this
    cases this
  · intro i o ho hc
    have := (unf i o ho).1.1.1.1.2
    simp [List.contains_iff_mem.2 hc] at this
    exact absurd hc (by simpa using this)
  · intro i o ho e he hb
    have := List.all_eq_true.1 (unf i o ho).1.1.1.2 e (by simpa using he)
    simpa [hb] using this
  · intro i o ho x hx
    have := List.all_eq_true.1 (unf i o ho).1.1.2 x hx
    obtain ⟨e, he, hh⟩ := List.any_eq_true.1 this
    simp only [Bool.and_eq_true, Bool.or_eq_true, beq_iff_eq, List.contains_iff_mem] at hh
    exact ⟨e, by simpa using he, hh⟩
  · intro i j oi oj hi hj hne h1 h2
    have := List.all_eq_true.1 (unf i oi hi).1.2 j (List.mem_range.2 (Array.getElem?_eq_some_iff.1 hj).1)
    simp only [hj, Bool.or_eq_true, beq_iff_eq, List.contains_iff_mem] at this
    rcases this with ((h | h) | h) | h
    · exact absurd h.symm hne
    · exact absurd h h1
    · exact absurd h h2
    · exact h
  · intro i o ho ⟨l, hl⟩ x hx t ht j hj
    have := (unf i o ho).2
    simp only [hl, Option.isNone_some, Bool.false_or] at this
    have := List.all_eq_true.1 this x hx
    subst ht
    simp only at this
    have hlt : j < ops.size := by
      rcases Nat.lt_or_ge j ops.size with h | h
      · exact h
      · rw [Array.getElem?_eq_none h] at hj; cases hj
    have := List.all_eq_true.1 this j (List.mem_range.2 hlt)
    simpa [hj] using this

theorem pairs_of {A : Array (List Nat)} : ∀ (l : List (Nat × Bool)), pairsOk P ops A l = true → l.Pairwise (fun x y => pairOk P ops A x y = true)
  | [], _ => List.Pairwise.nil
  | x :: r, h => by
    simp only [pairsOk, Bool.and_eq_true] at h
    exact List.Pairwise.cons (fun y hy => List.all_eq_true.1 h.1 y hy) (pairs_of r h.2)

variable {A : Array (List Nat)} {F : Act → World → Prop}

theorem pair_spec {x y : Nat × Bool} (h : pairOk P ops A x y = true) : y.1 ∉ A.getD x.1 [] ∧ x.1 ≠ y.1 ∧ (x.1 ∈ A.getD y.1 [] ∨
    match kindAt P ops x.1, kindAt P ops y.1 with
    | none, some false => True
    | none, _ => False
    | some false, _ => True
    | some true, some _ => True
    | some true, none => y.2 = true ∨ ((ops[y.1]?).map newKind).getD false = true) := by
  unfold pairOk at h
  simp only [Bool.and_eq_true, Bool.or_eq_true, Bool.not_eq_true', bne_iff_ne, ne_eq, List.contains_iff_mem] at h
  refine ⟨by simpa using h.1.1, h.1.2, h.2.imp id fun h => ?_⟩
  revert h
  cases kindAt P ops x.1 with
  | none => cases kindAt P ops y.1 with
    | none => simp
    | some b => cases b <;> simp
  | some b => cases b <;> cases kindAt P ops y.1 <;> simp

/-- what a quiet operation looks at is not written by it, nor by what stands behind it -/
theorem unwritten_of (hS : Static P ops A) {x : Nat} {o : Oper} {l : List Nat} (ho : ops[x]? = some o) (hk : ∃ l, quietKind P o = some l) (hl : ∀ y ∈ l, y ∉ A.getD x []) :
    ∀ u ∈ looks ops o, Unwritten ops (x :: l) u := by
  intro u hu t ht j hj hd
  have := hS.unw x o ho hk u hu t ht j hd
  cases hj with
  | head => exact hS.irr x o ho this
  | tail _ h => exact hl j h this

theorem swap_any (hS : Static P ops A) (hF : ∀ a' w', F a' w' → plainEnd ops a') {x j : Nat × Bool} {r : List (Nat × Bool)} {ox oj : Oper} {a : Act} {w : World}
    (hx : ops[x.1]? = some ox) (hj : ops[j.1]? = some oj) (hp : pairOk P ops A x j = true) (hr : ∀ y ∈ r, pairOk P ops A x y = true ∧ y.1 ∉ A.getD j.1 []) (hnot : x.1 ∉ A.getD j.1 [])
    (h : wpL P ops F (x :: j :: r) a w) : wpL P ops F (j :: x :: r) a w := by
  obtain ⟨x, cx⟩ := x
  obtain ⟨j, cj⟩ := j
  obtain ⟨h1, h2, h3⟩ := pair_spec hp
  have h3 := h3.resolve_left hnot
  simp only at hx hj h1 h2 h3 hnot
  have hunx : (∃ l, quietKind P ox = some l) → ∀ u ∈ looks ops ox, Unwritten ops (x :: ((j, cj) :: r).map (·.1)) u := fun hk =>
    unwritten_of hS hx hk (fun y hy => by
      simp only [List.map_cons, List.mem_cons, List.mem_map] at hy
      rcases hy with rfl | ⟨z, hz, rfl⟩
      · exact h1
      · exact (pair_spec (hr z hz).1).1)
  have hunj : (∃ l, quietKind P oj = some l) → ∀ u ∈ looks ops oj, Unwritten ops (j :: r.map (·.1)) u := fun hk =>
    unwritten_of hS hj hk (fun y hy => by
      simp only [List.mem_map] at hy
      obtain ⟨z, hz, rfl⟩ := hy
      exact (hr z hz).2)
  have ap1 := hS.apart x j ox oj hx hj h2 h1 hnot
  have ap2 := hS.apart j x oj ox hj hx (Ne.symm h2) hnot h1
  have hsx : ∀ cs b, ox.op ≠ .select cs b := fun cs b => hS.sel x ox cs b hx
  have hsj : ∀ cs b, oj.op ≠ .select cs b := fun cs b => hS.sel j oj cs b hj
  simp only [kindAt, hx, hj, Option.bind_some, Option.map_some, Option.getD_some] at h3
  cases hkx : quietKind P ox with
  | some ld =>
    refine swapA hx hj hkx hF (hunx ⟨ld, hkx⟩) ap1 hsx hsj (fun hl => ?_) hunj h
    subst hl
    rw [hkx] at h3
    cases hkj : quietKind P oj with
    | some l => exact .inr (.inr ⟨l, rfl⟩)
    | none =>
      rw [hkj] at h3
      rcases h3 with h | h
      · exact .inl h
      · exact .inr (.inl h)
  | none =>
    rw [hkx] at h3
    cases hkj : quietKind P oj with
    | none => rw [hkj] at h3; exact h3.elim
    | some l =>
      rw [hkj] at h3
      cases l with
      | true => exact h3.elim
      | false => exact swapB hx hj hkj hF (hunj ⟨_, hkj⟩) ap2 hsx hsj h

theorem hoist (hS : Static P ops A) (hF : ∀ a' w', F a' w' → plainEnd ops a') {j : Nat × Bool} {oj : Oper} {r : List (Nat × Bool)} (hj : ops[j.1]? = some oj) :
    ∀ (p : List (Nat × Bool)) (a : Act) (w : World), (p ++ j :: r).Pairwise (fun x y => pairOk P ops A x y = true) → (∀ x ∈ p, x.1 ∉ A.getD j.1 [] ∧ ∃ o, ops[x.1]? = some o) →
      wpL P ops F (p ++ j :: r) a w → wpL P ops F (j :: (p ++ r)) a w
  | [], _, _, _, _, h => h
  | x :: p, a, w, hp, hx, h => by
    have hp' := List.pairwise_cons.1 hp
    have ih := hoist hS hF (r := r) hj p
    have h1 : wpL P ops F (x :: j :: (p ++ r)) a w := by
      obtain ⟨xi, xc⟩ := x
      exact opWp_mono (fun a' w' hh => ⟨hh.1, ih a' w' hp'.2 (fun y hy => hx y (by simp [hy])) hh.2⟩) h
    obtain ⟨hn, ox, hox⟩ := hx x (by simp)
    refine swap_any hS hF hox hj (hp'.1 j (by simp)) (fun y hy => ?_) hn h1
    rcases List.mem_append.1 hy with hy | hy
    · exact ⟨hp'.1 y (by simp [hy]), (hx y (by simp [hy])).1⟩
    · refine ⟨hp'.1 y (by simp [hy]), ?_⟩
      have := (List.pairwise_append.1 hp'.2).2.1
      exact (pair_spec ((List.pairwise_cons.1 this).1 y hy)).1

def Inv (A : Array (List Nat)) (listed : Array Bool) : Prop := ∀ p x, listed.getD p false = true → x ∈ A.getD p [] → listed.getD x false = true

theorem ready_anc (hS : Static P ops A) {listed : Array Bool} (hI : Inv A listed) {j : Nat} (hj : j ∈ Region.ready .any ops listed) : ∀ x ∈ A.getD j [], listed.getD x false = true := by
  obtain ⟨_, o, ho, hall⟩ := mem_ready.1 hj
  intro x hx
  obtain ⟨e, he, hb, h⟩ := hS.clos j o ho x hx
  rcases h with rfl | h
  · exact hall e he hb
  · exact hI e.on x (hall e he hb) h

theorem inv_add (hS : Static P ops A) {listed : Array Bool} (hI : Inv A listed) {j : Nat} (hj : j ∈ Region.ready .any ops listed) : Inv A (listed.setIfInBounds j true) := by
  intro p x hp hx
  by_cases hpj : j = p
  · subst hpj
    exact getD_set_true (ready_anc hS hI hj x hx)
  · rw [getD_set_ne false hpj] at hp
    exact getD_set_true (hI p x hp hx)

theorem getD_tf {listed : Array Bool} {i : Nat} (h : listed.getD i true = false) : listed.getD i false = false := by
  rcases Nat.lt_or_ge i listed.size with h' | h'
  · simp [h'] at h ⊢; exact h
  · simp [Array.getElem?_eq_none h'] at h

theorem draw_sound (hS : Static P ops A) {Q : Exit → Act → World → Prop} (hF : ∀ a' w', F a' w' → plainEnd ops a' ∧ Q .normal a' w') : ∀ (n : Nat) (l : List (Nat × Bool)) (listed : Array Bool) (a : Act) (w : World),
    l.length = n → listed.size = ops.size → Inv A listed → (∀ i, i < ops.size → (listed.getD i true = false ↔ ∃ c, (i, c) ∈ l)) → (∀ x ∈ l, x.1 < ops.size) →
    l.Pairwise (fun x y => pairOk P ops A x y = true) → wpL P ops F l a w → wpAny P .any ops Q n listed a w := by
  intro n
  induction n with
  | zero =>
    intro l listed a w hl hsz hI hmem hlt hp h
    obtain rfl := List.eq_nil_of_length_eq_zero hl
    have hr : Region.ready .any ops listed = [] := by
      rw [List.eq_nil_iff_forall_not_mem]
      intro j hj
      obtain ⟨hj0, o, ho, _⟩ := mem_ready.1 hj
      obtain ⟨c, hc⟩ := (hmem j (Array.getElem?_eq_some_iff.1 ho).1).1 hj0
      cases hc
    exact ⟨hr, (hF _ _ h).2⟩
  | succ n ih =>
    intro l listed a w hl hsz hI hmem hlt hp h
    refine ⟨fun hr => ?_, fun j hj => ?_⟩
    · exfalso
      match l, hl with
      | x :: l, _ =>
        have hx : x.1 < ops.size := hlt x (by simp)
        have : x.1 ∈ Region.ready .any ops listed := by
          refine mem_ready.2 ⟨(hmem x.1 hx).2 ⟨x.2, by simp⟩, ops[x.1], Array.getElem?_eq_getElem hx, fun e he hb => ?_⟩
          obtain ⟨he1, he2⟩ := hS.edge x.1 _ (Array.getElem?_eq_getElem hx) e he hb
          cases hle : listed.getD e.on true with
          | true =>
            have : e.on < listed.size := by omega
            simp [this] at hle ⊢; exact hle
          | false =>
            obtain ⟨c, hc⟩ := (hmem e.on he1).1 hle
            cases hc with
            | head => exact absurd he2 (hS.irr _ _ (Array.getElem?_eq_getElem hx))
            | tail _ hc => exact absurd he2 (pair_spec ((List.pairwise_cons.1 hp).1 _ hc)).1
        rw [hr] at this
        cases this
    · obtain ⟨hj0, oj, hoj, _⟩ := mem_ready.1 hj
      have hjlt := (Array.getElem?_eq_some_iff.1 hoj).1
      obtain ⟨c, hc⟩ := (hmem j hjlt).1 hj0
      obtain ⟨p, r, rfl⟩ := List.append_of_mem hc
      have hanc := ready_anc hS hI hj
      have hun : ∀ x ∈ p, x.1 ∉ A.getD j [] ∧ ∃ o, ops[x.1]? = some o := fun x hx => by
        have hxl : x.1 < ops.size := hlt x (by simp [hx])
        refine ⟨fun hxa => ?_, _, Array.getElem?_eq_getElem hxl⟩
        have h1 := hanc x.1 hxa
        have h0 := getD_tf ((hmem x.1 hxl).2 ⟨x.2, by simp [hx]⟩)
        rw [h0] at h1
        cases h1
      have hh := hoist hS (fun a' w' hf => (hF a' w' hf).1) (j := (j, c)) hoj p a w hp hun h
      have hsub : (p ++ r).Sublist (p ++ (j, c) :: r) := List.Sublist.append (List.Sublist.refl _) (List.sublist_cons_self _ _)
      have hne : ∀ x ∈ p ++ r, x.1 ≠ j := fun x hx => by
        rcases List.mem_append.1 hx with hx | hx
        · exact (pair_spec ((List.pairwise_append.1 hp).2.2 x hx (j, c) (by simp))).2.1
        · have := (List.pairwise_cons.1 (List.pairwise_append.1 hp).2.1).1 x hx
          exact Ne.symm (pair_spec this).2.1
      refine wpOp_of_opWp (opWp_mono (fun a' w' hk => ?_) hh)
      refine ih (p ++ r) _ a' w' (by simp at hl ⊢; omega) (by simpa using hsz) (inv_add hS hI hj) (fun i hi => ?_) (fun x hx => hlt x (hsub.subset hx)) (hp.sublist hsub) hk.2
      by_cases hij : j = i
      · subst hij
        have : j < listed.size := by omega
        constructor
        · intro h; simp [this] at h
        · rintro ⟨c', hc'⟩; exact absurd rfl (hne _ hc')
      · rw [getD_set_ne true hij, hmem i hi]
        constructor
        · rintro ⟨c', hc'⟩
          refine ⟨c', ?_⟩
          rcases List.mem_append.1 hc' with h | h
          · exact List.mem_append_left _ h
          · cases h with
            | head => exact absurd rfl hij
            | tail _ h => exact List.mem_append_right _ h
        · rintro ⟨c', hc'⟩
          exact ⟨c', hsub.subset hc'⟩

theorem drawOk_spec {l : List (Nat × Bool)} (h : drawOk P ops l = true) {Q : Exit → Act → World → Prop} {id : Nat} {a : Act} {w : World} (hm : P.follows .mixedOrders = true)
    (hw : wpL P ops (fun a' w' => plainEnd ops a' ∧ Q .normal a' w') l a { w with drawn := w.drawn + 1 }) : (Code.region id ops true).wp P Q a w := by
  unfold drawOk drawOkA at h
  simp only [Bool.and_eq_true] at h
  obtain ⟨⟨⟨h1, h2⟩, h3⟩, h4⟩ := h
  have hp := pairs_of l h2
  have hlt : ∀ x ∈ l, x.1 < ops.size := fun x hx => by simpa using List.all_eq_true.1 h3 x hx
  have hall : ∀ i, i < ops.size → i ∈ l.map (·.1) := fun i hi => by simpa using List.all_eq_true.1 h4 i (List.mem_range.2 hi)
  have hlen : l.length = ops.size := by
    have hnd : (l.map (·.1)).Nodup := by
      rw [List.Nodup, List.pairwise_map]
      exact hp.imp fun h => (pair_spec h).2.1
    have e1 : (l.map (·.1)).Perm (List.range ops.size) := by
      refine (List.perm_ext_iff_of_nodup hnd List.nodup_range).2 fun i => ⟨fun hi => ?_, fun hi => hall i (List.mem_range.1 hi)⟩
      obtain ⟨x, hx, rfl⟩ := List.mem_map.1 hi
      exact List.mem_range.2 (hlt x hx)
    have := e1.length_eq
    simpa using this
  refine wp_region_any hm ?_
  refine draw_sound (static_of h1) (fun _ _ h => h) _ l _ a _ hlen (by simp) (fun p x hp' => ?_) (fun i hi => ?_) hlt hp hw
  · simp [Array.getElem?_replicate] at hp'
    split at hp' <;> simp at hp'
  · refine ⟨fun _ => ?_, fun _ => by simp [hi]⟩
    obtain ⟨x, hx, rfl⟩ := List.mem_map.1 (hall i hi)
    exact ⟨x.2, hx⟩

/-- a list walked as a plain region's -/
theorem wpL_of_list {F : Act → World → Prop} {rest : List (Nat × Bool)} : ∀ (is : List Nat) (a : Act) (w : World),
    wpList P ops (Exit.then (wpL P ops F rest) Fls) (is.filterMap (ops[·]?)) a w → wpL P ops F (is.map (·, false) ++ rest) a w
  | [], a, w, h => h
  | i :: is, a, w, h => by
    show opWp P ops i _ a w
    unfold opWp wpOp
    cases ho : ops[i]? with
    | none =>
      simp only [List.filterMap_cons, ho] at h
      exact ⟨fun h => (by cases h), wpL_of_list is a w h⟩
    | some o =>
      simp only [List.filterMap_cons, ho] at h
      unfold wpList at h
      simp only
      split
      · rename_i hw
        simp only [hw, if_true] at h
        rcases h with h | ⟨_, a0, w0, h⟩
        · refine .inl ?_
          have h2 := Oper.wp_mono (fun a' w' hh => (⟨fun h => (by cases h), wpL_of_list is a' w' hh⟩ : (false = true → Old w w') ∧ wpL P ops F (is.map (·, false) ++ rest) a' w')) h
          unfold Oper.wp at h2 ⊢
          generalize (execOp a.eval o).run P w = r at *
          cases r with
          | ok n w' =>
            cases n <;> simp only [Oper.upon] at h2 ⊢ <;> first
              | exact h2
              | exact Calls.mono h2 (fun e w'' he => by cases e with | returned v => exact he | panicked c => exact he | outgrown => exact (let ⟨_, _, hf⟩ := he; hf.elim))
          | halt x w' => cases x <;> simp only [Oper.upon] at h2 ⊢ <;> exact h2
        · exact h.elim
      · rename_i hw
        simp only [hw] at h
        exact ⟨fun h => (by cases h), wpL_of_list is _ w h⟩

/-- 'plainEnd' as a Bool over a frame that is written out -/
def plainB (ops : Array Oper) (a : Act) : Bool := ops.toList.all fun o => !Region.wanted o (yielded ops a.tmps) || (needs o).all fun x => needV o (a.eval x)
theorem plainEnd_of {a : Act} (h : plainB ops a = true) : plainEnd ops a := by
  intro o ho hw x hx
  have := List.all_eq_true.1 h o ho
  simp only [hw, Bool.not_true, Bool.false_or] at this
  exact List.all_eq_true.1 this x hx

/-- THE REGION IN THE TEXT's OWN ORDER, walked as a plain one. -/
theorem wp_draw {id : Nat} {Q : Exit → Act → World → Prop} {a : Act} {w : World} {l : List Oper} (hm : P.follows .mixedOrders = true)
    (hok : drawOk P l.toArray ((List.range l.length).map (·, false)) = true)
    (h : ∀ K : Act → World → Prop, (∀ a' w', plainB l.toArray a' = true ∧ Q .normal a' w' → K a' w') → wpList P l.toArray (Exit.then K Fls) l a w.drew) : (Code.region id l.toArray true).wp P Q a w := by
  refine drawOk_spec hok hm ?_
  have h1 := h (fun a' w' => plainEnd l.toArray a' ∧ Q .normal a' w') (fun a' w' hh => ⟨plainEnd_of hh.1, hh.2⟩)
  have e : (List.range l.length).filterMap (l.toArray[·]?) = l := by
    have : ∀ (l : List Oper), (List.range l.length).filterMap (fun i => l[i]?) = l := by
      intro l
      induction l with
      | nil => rfl
      | cons x l ih =>
        rw [List.length_cons, List.range_succ_eq_map, List.filterMap_cons]
        simp only [List.getElem?_cons_zero, List.filterMap_map]
        congr 1
    simpa using this l
  have := wpL_of_list (P := P) (ops := l.toArray) (F := fun a' w' => plainEnd l.toArray a' ∧ Q .normal a' w') (rest := []) (List.range l.length) a w.drew (by rw [e]; exact h1)
  simpa using this
end
end Go.Draw
