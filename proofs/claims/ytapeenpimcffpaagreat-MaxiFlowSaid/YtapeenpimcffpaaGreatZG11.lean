/- Part of the proof: Solve10, Solve11, Solve12, Solve13, Solve14, Solve15, Solve16, Solve19, Maxi, DA21. -/
import Derived.Test.YtapeenpimcffpaaGreatZG10
import Derived.Test.YtapeenpimcffpaaGreatZG9
import Derived.Test.YtapeenpimcffpaaGreatZG6
import Derived.Test.YtapeenpimcffpaaGreatZG5
set_option linter.all false
set_option linter.unusedSimpArgs false
set_option linter.unusedVariables false
section
namespace Go.Ql
open Go Go.Vc
def unN:List Bool->Nat
 | []=>0
 | b :: l=>(if b then 0 else 1)+unN l
theorem unN_set:∀ {l:List Bool} {k:Nat},l[k]? = some false->unN (l.set k true)+1=unN l
 | [],k,h=>by simp at h
 | b :: l,0,h=>by simp at h; subst h; simp [unN]; omega
 | b :: l,k+1,h=>by
  rw [List.getElem?_cons_succ] at h
  rw [List.set_cons_succ,unN,unN]
  have:=unN_set h
  omega
def z3w (l:List Nat):List Int:=l.map Int.ofNat
theorem zi1 (l:List Nat):(z3w l).length=l.length:=by simp [z3w]
theorem natI_get {l:List Nat} {k:Nat} {x:Int} (h:(z3w l)[k]? = some x):∃ v,l[k]? = some v/\x=(v:Int):=by
 unfold z3w at h
 rw [List.getElem?_map] at h
 obtain ⟨v,h1,rfl⟩:=Option.map_eq_some_iff.1 h
 exact ⟨v,h1,rfl⟩
theorem natI_snoc (l:List Nat) (v:Nat):z3w (l ++ [v])=z3w l ++ [(v:Int)]:=by simp [z3w]
def zhn (o:List Int) (n k:Nat):List Bool:=(List.range n).map fun v=>decide (v<k) && decide (0<o.getD v 0)
def layK (o:List Int) (k:Nat):List Nat:=(List.range k).filter fun v=>decide (0<o.getD v 0)
theorem metK_len (o:List Int) (n k:Nat):(zhn o n k).length=n:=by simp [zhn]
theorem metK_get {o:List Int} {n k v:Nat} (h:v<n):(zhn o n k).getD v false=(decide (v<k) && decide (0<o.getD v 0)):=by
 unfold zhn
 rw [List.getD_eq_getElem?_getD,List.getElem?_map,List.getElem?_range h]; rfl
theorem metK_zero (o:List Int) (n:Nat):List.replicate n false=zhn o n 0:=by
 refine List.ext_getElem? fun t=>?_
 unfold zhn
 by_cases h:t<n
 ·rw [List.getElem?_map,List.getElem?_range h,List.getElem?_replicate]; simp [h]
 ·rw [List.getElem?_eq_none (by simp; omega),List.getElem?_eq_none (by simp; omega)]
theorem metK_yes {o:List Int} {n k:Nat} (h:0<o.getD k 0):(zhn o n k).set k true=zhn o n (k+1):=by
 refine List.ext_getElem? fun t=>?_
 unfold zhn
 rw [List.getElem?_set]
 simp only [List.length_map,List.length_range]
 by_cases hn:t<n
 ·rw [List.getElem?_map,List.getElem?_map,List.getElem?_range hn]
  by_cases e:k=t
  ·subst e; rw [if_pos rfl,if_pos hn]; simp only [Option.map_some,decide_eq_true h,Bool.and_true,decide_eq_true (Nat.lt_succ_self k)]
  ·rw [if_neg e]
   have:(t<k+1)=(t<k):=propext (by omega)
   simp [this]
 ·rw [List.getElem?_eq_none (by simp; omega),List.getElem?_eq_none (by simp; omega)]
  split
  ·rw [if_neg (by omega)]
  ·rfl
theorem metK_no {o:List Int} {n k:Nat} (h:¬ 0<o.getD k 0):zhn o n k=zhn o n (k+1):=by
 unfold zhn
 refine List.map_congr_left fun t _=>?_
 by_cases e:t=k
 ·subst e; simp [h,-List.getD_eq_getElem?_getD]
 ·have:(t<k+1)=(t<k):=propext (by omega)
  simp [this]
theorem layK_yes {o:List Int} {k:Nat} (h:0<o.getD k 0):layK o (k+1)=layK o k ++ [k]:=by
 unfold layK
 rw [List.range_succ,List.filter_append,List.filter_cons,if_pos (decide_eq_true h)]; rfl
theorem layK_no {o:List Int} {k:Nat} (h:¬ 0<o.getD k 0):layK o (k+1)=layK o k:=by
 unfold layK
 rw [List.range_succ,List.filter_append,List.filter_cons,if_neg (by simpa using h)]; simp
theorem layK_mem {o:List Int} {k v:Nat}:v ∈ layK o k ↔ v<k/\0<o.getD v 0:=by
 unfold layK
 rw [List.mem_filter,List.mem_range,decide_eq_true_eq]
structure AtOk (I:Inst) (t:List (List (List Int))):Prop where
 len:t.length=I.sup.length
 at_:∀ u,u<I.sup.length->∃ l:List Stp,t[u]? = some (l.map z64)/\l.length <= 1000/\∀ s,s ∈ l ↔ okS I s/\frS I s=u
structure SeI (I:Inst) (x o:List Int) (m:List Bool) (b:Nat->Option Stp) (pend:Stp->Prop):Prop where
 lm:m.length=I.sup.length
 st:∀ v,v<I.sup.length->0<o.getD v 0->m.getD v false=true
 no:∀ v,v<I.sup.length->m.getD v false=true->b v=none->0<o.getD v 0
 un:∀ v,v<I.sup.length->m.getD v false=false->b v=none
 by_:∀ v s,v<I.sup.length->b v=some s->okS I s/\toS I s=v/\0<rmS I x s/\m.getD (frS I s) false=true
 tree:∃ ρ:Nat->Nat,∀ v s,v<I.sup.length->b v=some s->ρ (frS I s)<ρ v
 cl:∀ s,okS I s->0<rmS I x s->m.getD (frS I s) false=true->m.getD (toS I s) false=true ∨ pend s
def SeG (I:Inst) (o:List Int) (m:List Bool):Prop:=∀ v,v<I.sup.length->m.getD v false=true->0 <= o.getD v 0
theorem SeI.begin (I:Inst) (x o:List Int) (ho:o.length=I.sup.length) (hr:z05 I=0):SeI I x o (zhn o I.sup.length I.sup.length) (fun _=>none) (fun s=>frS I s ∈ layK o I.sup.length)/\SeG I o (zhn o I.sup.length I.sup.length):=by
 have hg:∀ v,v<I.sup.length->((zhn o I.sup.length I.sup.length).getD v false=true ↔ 0<o.getD v 0):=fun v hv=>by
  rw [metK_get hv,decide_eq_true hv,Bool.true_and,decide_eq_true_eq]
 refine ⟨⟨metK_len _ _ _,fun v hv h=>(hg v hv).2 h,fun v hv h _=>(hg v hv).1 h,fun _ _ _=>rfl,fun v s _ h=>absurd h (by simp),⟨fun _=>0,fun v s _ h=>absurd h (by simp)⟩,fun s hs _ hm=>.inr ?_⟩,fun v hv h=>by have:=(hg v hv).1 h; omega⟩
 have hf:=z31 hr hs
 exact layK_mem.2 ⟨hf,(hg _ hf).1 hm⟩
theorem SeI.skip {I:Inst} {x o:List Int} {m:List Bool} {b:Nat->Option Stp} {pend pend':Stp->Prop} (h:SeI I x o m b pend) (hp:∀ s,okS I s->pend s->m.getD (toS I s) false=true ∨ ¬ 0<rmS I x s ∨ pend' s):SeI I x o m b pend' :=
 { h with cl:=fun s h1 h2 h3=>(h.cl s h1 h2 h3).elim .inl fun h4=>(hp s h1 h4).elim .inl fun h5=>h5.elim (fun h6=>absurd h2 h6) .inr }
theorem zaz {m:List Bool} {k v:Nat} (hk:k<m.length):(m.set k true).getD v false=if v=k then true else m.getD v false:=by
 rw [List.getD_eq_getElem?_getD,List.getElem?_set]
 by_cases e:k=v
 ·subst e; simp [hk]
 ·rw [if_neg e,if_neg (fun h=>e h.symm),List.getD_eq_getElem?_getD]
theorem SeI.take {I:Inst} (hr:z05 I=0) {x o:List Int} {m:List Bool} {b:Nat->Option Stp} {pend pend':Stp->Prop} (h:SeI I x o m b pend) {t:Stp} (ht:okS I t) (hf:m.getD (frS I t) false=true) (hm:m.getD (toS I t) false=false) (hrm:0<rmS I x t)
  (hp:∀ s,pend s->s=t ∨ pend' s) (hq:∀ s,frS I s=toS I t->pend' s):SeI I x o (m.set (toS I t) true) (fun v=>if v=toS I t then some t else b v) pend':=by
 have hlt:=z5s hr ht
 have hg:∀ v,(m.set (toS I t) true).getD v false=if v=toS I t then true else m.getD v false:=fun v=>zaz (by rw [h.lm]; exact hlt)
 have hfne:frS I t ≠ toS I t:=fun e=>by rw [e,hm] at hf; cases hf
 obtain ⟨ρ,hρ⟩:=h.tree
 refine ⟨by rw [List.length_set]; exact h.lm,fun v hv h1=>?_,fun v hv h1 h2=>?_,fun v hv h1=>?_,fun v s hv h1=>?_,⟨fun v=>if v=toS I t then ρ (frS I t)+1 else ρ v,fun v s hv h1=>?_⟩,fun s h1 h2 h3=>?_⟩
 ·rw [hg]; split
  ·rfl
  ·exact h.st v hv h1
 ·try dsimp only at h2
  split at h2
  ·cases h2
  ·rename_i hne
   rw [hg,if_neg hne] at h1
   exact h.no v hv h1 h2
 ·rw [hg] at h1
  split at h1
  ·cases h1
  ·rename_i hne
   try dsimp only
   rw [if_neg hne]; exact h.un v hv h1
 ·try dsimp only at h1
  split at h1
  ·rename_i he
   cases h1
   refine ⟨ht,he.symm,hrm,?_⟩
   rw [hg,if_neg hfne]; exact hf
  ·obtain ⟨q1,q2,q3,q4⟩:=h.by_ v s hv h1
   refine ⟨q1,q2,q3,?_⟩
   rw [hg]; split
   ·rfl
   ·exact q4
 ·try dsimp only at h1 ⊢
  split at h1
  ·rename_i he
   cases h1
   rw [if_neg hfne,if_pos he]
   exact Nat.lt_succ_self _
  ·rename_i hne
   obtain ⟨q1,q2,q3,q4⟩:=h.by_ v s hv h1
   have:frS I s ≠ toS I t:=fun e=>by rw [e,hm] at q4; cases q4
   rw [if_neg this,if_neg hne]
   exact hρ v s hv h1
 ·by_cases e:frS I s=toS I t
  ·exact .inr (hq s e)
  ·rw [hg,if_neg e] at h3
   rcases h.cl s h1 h2 h3 with h4 | h4
   ·left; rw [hg]; split
    ·rfl
    ·exact h4
   ·rcases hp s h4 with rfl | h5
    ·left; rw [hg,if_pos rfl]
    ·exact .inr h5
theorem SeG.take {I:Inst} {o:List Int} {m:List Bool} (h:SeG I o m) {k:Nat} (hk:k<m.length) (ho:0 <= o.getD k 0):SeG I o (m.set k true):=fun v hv hm=>by
 rw [zaz hk] at hm
 split at hm
 ·rename_i e; rw [e]; exact ho
 ·exact h v hv hm
theorem tree_rank {I:Inst} (hr:z05 I=0) {b:Nat->Option Stp} {ρ:Nat->Nat} (hT:Tree I b ρ):∃ ρ':Nat->Nat,Tree I b ρ'/\∀ v,v<I.sup.length->ρ' v<I.sup.length:=by
 have hok:∀ v s,v<I.sup.length->b v=some s->okS I s:=fun v s hv hs=>(hT v s hv hs).1
 have hlt:=fun (v:Nat) (hv:v<I.sup.length) (k:Nat)=>z60 hr hok hv k
 have hdown:∀ v,v<I.sup.length->∀ k,(∀ i,i<k->∃ s,b (z0n I b v i)=some s)->ρ (z0n I b v k)+k <= ρ v:=fun v hv k=>by
  induction k with
  | zero=>intro _; exact Nat.le_refl _
  | succ k ih =>
   intro h
   have h1:=ih fun i hi=>h i (by omega)
   obtain ⟨s,hs⟩:=h k (by omega)
   have h2:=(hT _ s (hlt v hv k) hs).2.2
   have en:z0n I b v (k+1)=frS I s:=by rw [z0n,hs]
   rw [en]; omega
 have hend:∀ v,v<I.sup.length->∃ k,k<I.sup.length/\b (z0n I b v k)=none:=fun v hv=>by
  apply Classical.byContradiction
  intro hn
  have hall:∀ k,k<I.sup.length->∃ s,b (z0n I b v k)=some s:=fun k hk=>by
   cases hb:b (z0n I b v k) with
   | none=>exact absurd ⟨k,hk,hb⟩ hn
   | some s=>exact ⟨s,rfl⟩
  obtain ⟨i,j,hij,hj,he⟩:=pigeon (n:=I.sup.length) (fun k=>z0n I b v k) fun k _=>hlt v hv k
  try dsimp only at he
  have h1:=hdown (z0n I b v i) (hlt v hv i) (j - i) fun k hk=>by rw [<- z3a]; exact hall _ (by omega)
  rw [<- z3a,show i+(j - i)=j by omega,<- he] at h1
  omega
 refine ⟨fun v=>zce I b I.sup.length v,fun v s hv hs=>⟨(hT v s hv hs).1,(hT v s hv hs).2.1,?_⟩,fun v hv=>?_⟩
 ·obtain ⟨k,hk,hb⟩:=hend v hv
  cases k with
  | zero=>simp only [z0n] at hb; rw [hs] at hb; cases hb
  | succ k =>
   have e1:=(z6n (k+1) I.sup.length v hb (by omega)).1
   have hb2:=hb
   rw [zk8 hs] at hb2
   have e2:=(z6n k I.sup.length (frS I s) hb2 (by omega)).1
   show zce I b I.sup.length (frS I s)<zce I b I.sup.length v
   rw [e1,e2,zce,hs]
   exact Nat.lt_succ_self _
 ·obtain ⟨k,hk,hb⟩:=hend v hv
  have:=z6n k I.sup.length v hb (by omega)
  try dsimp only
  omega
structure SearchP (I:Inst) (x o:List Int) (m:List Bool) (b:Nat->Option Stp) (e:Option Nat):Prop where
 lm:m.length=I.sup.length
 no:e=none->(∀ s,okS I s->0<rmS I x s->m.getD (frS I s) false=true->m.getD (toS I s) false=true)/\(∀ v,v<I.sup.length->0<o.getD v 0->m.getD v false=true)/\SeG I o m/\∀ v,v<I.sup.length->m.getD v false=true->∃ r,r<I.sup.length/\0<o.getD r 0
 yes:∀ v,e=some v->v<I.sup.length/\o.getD v 0<0/\(∃ ρ,Tree I b ρ/\∀ v,v<I.sup.length->ρ v<I.sup.length)/\1 <= o.getD (z15 I b I.sup.length v) 0/\∀ s ∈ z1y I b I.sup.length v,1 <= rmS I x s
theorem SeI.root {I:Inst} (hr:z05 I=0) {x o:List Int} {m:List Bool} {b:Nat->Option Stp} {pend:Stp->Prop} (h:SeI I x o m b pend):(∃ ρ,Tree I b ρ/\∀ v,v<I.sup.length->ρ v<I.sup.length)/\∀ v,v<I.sup.length->m.getD v false=true->z15 I b I.sup.length v<I.sup.length/\1 <= o.getD (z15 I b I.sup.length v) 0/\∀ s ∈ z1y I b I.sup.length v,1 <= rmS I x s:=by
 obtain ⟨ρ,hρ⟩:=h.tree
 have hT0:Tree I b ρ:=fun v s hv hs=>⟨(h.by_ v s hv hs).1,(h.by_ v s hv hs).2.1,hρ v s hv hs⟩
 obtain ⟨ρ',hT,hd⟩:=tree_rank hr hT0
 refine ⟨⟨ρ',hT,hd⟩,fun v hv hm=>?_⟩
 have hroot:∀ (f v:Nat),v<I.sup.length->m.getD v false=true->m.getD (z15 I b f v) false=true:=fun f=>by
  induction f with
  | zero=>intro v _ hm; exact hm
  | succ f ih =>
   intro v hv hm
   rw [z15]
   cases hb:b v with
   | none=>exact hm
   | some s =>
    obtain ⟨q1,q2,q3,q4⟩:=h.by_ v s hv hb
    exact ih _ (z31 hr q1) q4
 obtain ⟨-,-,h3,h4⟩:=zem hr hT I.sup.length v hv (hd _ hv)
 refine ⟨h4,?_,fun s hs=>?_⟩
 ·have:=h.no _ h4 (hroot _ v hv hm) h3
  omega
 ·obtain ⟨q1,q2,-⟩:=zel hr hT _ v hv s hs
  have:=(h.by_ _ s (z5s hr q1) q2).2.2.1
  omega
theorem SeI.end_ {I:Inst} (hr:z05 I=0) {x o:List Int} {m:List Bool} {b:Nat->Option Stp} {pend:Stp->Prop} (h:SeI I x o m b pend) (hg:SeG I o m) (hp:∀ s,okS I s->¬ pend s):SearchP I x o m b none:=by
 refine ⟨h.lm,fun _=>⟨fun s h1 h2 h3=>(h.cl s h1 h2 h3).resolve_right (hp s h1),h.st,hg,fun v hv hm=>?_⟩,fun v hv=>(by cases hv)⟩
 obtain ⟨q1,q2,-⟩:=(h.root hr).2 v hv hm
 exact ⟨_,q1,by omega⟩
theorem SeI.hit {I:Inst} (hr:z05 I=0) {x o:List Int} {m:List Bool} {b:Nat->Option Stp} {pend:Stp->Prop} (h:SeI I x o m b pend) {t:Stp} (ht:okS I t) (hf:m.getD (frS I t) false=true) (hm:m.getD (toS I t) false=false) (hrm:0<rmS I x t) (ho:o.getD (toS I t) 0<0) :
  SearchP I x o (m.set (toS I t) true) (fun v=>if v=toS I t then some t else b v) (some (toS I t)):=by
 have hlt:=z5s hr ht
 have h2:=h.take hr (pend':=fun _=>True) ht hf hm hrm (fun _ _=>.inr trivial) (fun _ _=>trivial)
 refine ⟨h2.lm,fun h=>(by cases h),fun v hv=>?_⟩
 cases hv
 obtain ⟨q1,q2⟩:=h2.root hr
 obtain ⟨q3,q4,q5⟩:=q2 _ hlt (by rw [zaz (by rw [h.lm]; exact hlt),if_pos rfl])
 exact ⟨hlt,ho,q1,q4,q5⟩
structure FillI (I:Inst) (x o:List Int):Prop where
 inv:∃ B,NInv I x o B/\0 <= B/\B+z4n o I.sup.length <= 144115188075855872
structure FillP (I:Inst) (x o:List Int) (m:List Bool) (f:Bool):Prop where
 inv:FillI I x o
 yes:f=true->z24 I m=0
 no:f=false->m=[]/\z1a I x=0
theorem fill_more {I:Inst} (hr:z05 I=0) {x o:List Int} (h:FillI I x o) {m:List Bool} {b:Nat->Option Stp} {v:Nat} (hS:SearchP I x o m b (some v)) :
  AlOk I x o (z0j I.sup.length b) (v:Int)/\FillI I (z2r x (alL I (z0j I.sup.length b) v) (alU I x o (z0j I.sup.length b) v)) (z20 I o (alL I (z0j I.sup.length b) v) (alU I x o (z0j I.sup.length b) v)) /\
  (z4n (z20 I o (alL I (z0j I.sup.length b) v) (alU I x o (z0j I.sup.length b) v)) I.sup.length).toNat<(z4n o I.sup.length).toNat:=by
 obtain ⟨B,hN,hB,hb⟩:=h.inv
 have hps:=z1w o I.sup.length
 obtain ⟨hv,ho,⟨ρ,hT,hρ⟩,h1,h2⟩:=hS.yes v rfl
 obtain ⟨A,hU,-,-⟩:=al_ok hr hN (by omega) (by omega) hT hρ hv (L:=1) (by omega) h1 (by omega) h2
 obtain ⟨q1,q2,-⟩:=al_does hN hB A hU
 have hps2:=z1w (z20 I o (alL I (z0j I.sup.length b) v) (alU I x o (z0j I.sup.length b) v)) I.sup.length
 refine ⟨A,⟨⟨_,q1,by omega,by omega⟩⟩,by omega⟩
theorem getD_true {m:List Bool} {v:Nat} (h:m.getD v false=true):v<m.length/\true ∈ m:=by
 rw [List.getD_eq_getElem?_getD] at h
 cases e:m[v]? with
 | none=>rw [e] at h; cases h
 | some c =>
  rw [e] at h
  have:c=true:=h
  subst this
  exact ⟨(List.getElem?_eq_some_iff.1 e).1,List.mem_of_getElem? e⟩
theorem fill_end {I:Inst} (hr:z05 I=0) {x o:List Int} (h:FillI I x o) {m:List Bool} {b:Nat->Option Stp} (hS:SearchP I x o m b none):(m.contains true=true->FillP I x o m true)/\(¬ m.contains true=true->FillP I x o [] false):=by
 obtain ⟨B,hN,-,-⟩:=id h.inv
 obtain ⟨h1,h2,h3,h4⟩:=hS.no rfl
 refine ⟨fun hc=>⟨h,fun _=>?_,fun h=>(by cases h)⟩,fun hc=>⟨h,fun h=>(by cases h),fun _=>⟨rfl,?_⟩⟩⟩
 ·rw [List.contains_iff_mem] at hc
  obtain ⟨v,hv⟩:=List.mem_iff_getElem?.1 hc
  have hvl:=(List.getElem?_eq_some_iff.1 hv).1
  rw [hS.lm] at hvl
  obtain ⟨r,hrl,hro⟩:=h4 v hvl (by rw [List.getD_eq_getElem?_getD,hv]; rfl)
  refine zni hr hN.over hN.betw hS.lm h1 ?_
  have:∀ k,k <= I.sup.length->0 <= z1m (fun w=>if m.getD w false then o.getD w 0 else 0) k/\(r<k->0<z1m (fun w=>if m.getD w false then o.getD w 0 else 0) k):=by
   intro k
   induction k with
   | zero=>intro _; exact ⟨Int.le_refl _,fun h=>absurd h (Nat.not_lt_zero _)⟩
   | succ k ih =>
    intro hk
    obtain ⟨i1,i2⟩:=ih (by omega)
    have hnn:0 <= (if m.getD k false then o.getD k 0 else 0):=by
     split
     ·rename_i hm; exact h3 k (by omega) hm
     ·omega
    rw [z1m]
    refine ⟨by omega,fun hvk=>?_⟩
    by_cases e:r=k
    ·subst e
     rw [if_pos (h2 r hrl hro)]
     omega
    ·have:=i2 (by omega); omega
  exact (this _ (Nat.le_refl _)).2 hrl
 ·refine zl5 hr hN.over hN.betw (over_zero hr hN.over fun v hv=>?_)
  apply Int.le_of_not_gt
  intro hlt
  exact hc (List.contains_iff_mem.2 (getD_true (h2 v hv hlt)).2)
theorem FillI.xb {I:Inst} {x o:List Int} (h:FillI I x o):YB x:=by
 obtain ⟨B,hN,hB,hb⟩:=h.inv
 have hps:=z1w o I.sup.length
 exact yb_of fun i hi=>by have:=hN.bd i (by rw [<- hN.over.lx]; exact hi); omega
theorem FillI.ob {I:Inst} {x o:List Int} (hr:z05 I=0) (h:FillI I x o):YB o:=by
 obtain ⟨B,hN,hB,hb⟩:=h.inv
 have hps:=z1w o I.sup.length
 exact yb_of fun k hk=>by have:=over_bd hr hN.over (v:=k) (by rw [<- hN.over.lo]; exact hk); omega
structure LayI (I:Inst) (x o:List Int) (m:List Bool) (b:Nat->Option Stp) (L X:List Nat) (p:Stp->Prop):Prop where
 i:SeI I x o m b (fun s=>frS I s ∈ L ∨ frS I s ∈ X ∨ p s)
 g:SeG I o m
 l:∀ v ∈ L,v<I.sup.length/\m.getD v false=true
 x:∀ v ∈ X,v<I.sup.length/\m.getD v false=true
theorem unN_le:∀ l:List Bool,unN l <= l.length
 | []=>Nat.le_refl _
 | b :: l=>by rw [unN,List.length_cons]; have:=unN_le l; split <;> omega
section
variable {I:Inst} {x o:List Int} {m:List Bool} {b:Nat->Option Stp}
theorem layK_le (o:List Int) (k:Nat):(layK o k).length <= k:=by unfold layK; exact Nat.le_trans (List.length_filter_le _ _) (by simp)
theorem LayI.begin (hr:z05 I=0) (ho:o.length=I.sup.length):LayI I x o (zhn o I.sup.length I.sup.length) (fun _=>none) (layK o I.sup.length) [] (fun _=>False):=by
 obtain ⟨h1,h2⟩:=SeI.begin I x o ho hr
 refine ⟨h1.skip fun s _ h=>.inr (.inr (.inl h)),h2,fun v hv=>?_,fun v hv=>by simp at hv⟩
 obtain ⟨q1,q2⟩:=layK_mem.1 hv
 exact ⟨q1,h1.st v q1 q2⟩
theorem LayI.node {L X:List Nat} {i v:Nat} {l:List Stp} (h:LayI I x o m b (L.drop i) X (fun _=>False)) (hv:L[i]? = some v) (hl:∀ s,s ∈ l ↔ okS I s/\frS I s=v) :
  LayI I x o m b (L.drop (i+1)) X (fun s=>s ∈ l.drop 0)/\∀ s ∈ l,okS I s/\m.getD (frS I s) false=true:=by
 have hd:L.drop i=v :: L.drop (i+1):=z47 hv
 rw [hd] at h
 have hv2:=h.l v (by simp)
 refine ⟨⟨h.i.skip fun s hs hp=>?_,h.g,fun u hu=>h.l u (by simp [hu]),h.x⟩,fun s hs=>?_⟩
 ·rcases hp with hp | hp | hp
  ·rcases List.mem_cons.1 hp with e | hp
   ·exact .inr (.inr (.inr (.inr (by rw [List.drop_zero]; exact (hl s).2 ⟨hs,e⟩))))
   ·exact .inr (.inr (.inl hp))
  ·exact .inr (.inr (.inr (.inl hp)))
  ·exact hp.elim
 ·obtain ⟨q1,q2⟩:=(hl s).1 hs
  exact ⟨q1,by rw [q2]; exact hv2.2⟩
theorem LayI.close {L X:List Nat} {l:List Stp} {j:Nat} (h:LayI I x o m b L X (fun s=>s ∈ l.drop j)) (hj:l.length <= j):LayI I x o m b L X (fun _=>False) :=
 ⟨h.i.skip fun s _ hp=>by rw [List.drop_eq_nil_of_le hj] at hp; exact .inr (.inr (hp.imp id (.imp id fun h=>by simp at h))),h.g,h.l,h.x⟩
theorem LayI.pass {L X:List Nat} {l:List Stp} {j:Nat} {t:Stp} (h:LayI I x o m b L X (fun s=>s ∈ l.drop j)) (ht:l[j]? = some t) (hp:m.getD (toS I t) false=true ∨ ¬ 0<rmS I x t):LayI I x o m b L X (fun s=>s ∈ l.drop (j+1)):=by
 have hd:l.drop j=t :: l.drop (j+1):=z47 ht
 refine ⟨h.i.skip fun s _ h2=>?_,h.g,h.l,h.x⟩
 rcases h2 with h2 | h2 | h2
 ·exact .inr (.inr (.inl h2))
 ·exact .inr (.inr (.inr (.inl h2)))
 ·rw [hd] at h2
  rcases List.mem_cons.1 h2 with e | h2
  ·subst e; rcases hp with hp | hp
   ·exact .inl hp
   ·exact .inr (.inl hp)
  ·exact .inr (.inr (.inr (.inr h2)))
theorem LayI.take (hr:z05 I=0) {L X:List Nat} {l:List Stp} {j:Nat} {t:Stp} (h:LayI I x o m b L X (fun s=>s ∈ l.drop j)) (ht:l[j]? = some t) (hok:okS I t) (hf:m.getD (frS I t) false=true) (hm:m.getD (toS I t) false=false) (hrm:0<rmS I x t) (ho:0 <= o.getD (toS I t) 0) :
  LayI I x o (m.set (toS I t) true) (fun v=>if v=toS I t then some t else b v) L (X ++ [toS I t]) (fun s=>s ∈ l.drop (j+1)):=by
 have hd:l.drop j=t :: l.drop (j+1):=z47 ht
 have hlt:=z5s hr hok
 have hml:toS I t<m.length:=by rw [h.i.lm]; exact hlt
 have hset:∀ v,m.getD v false=true->(m.set (toS I t) true).getD v false=true:=fun v hv=>by
  rw [zaz hml]; split
  ·rfl
  ·exact hv
 refine ⟨h.i.take hr hok hf hm hrm (fun s h2=>?_) (fun s e=>.inr (.inl (by rw [e]; simp))),h.g.take hml ho,fun v hv=>⟨(h.l v hv).1,hset v (h.l v hv).2⟩,fun v hv=>?_⟩
 ·rcases h2 with h2 | h2 | h2
  ·exact .inr (.inl h2)
  ·exact .inr (.inr (.inl (by simp [h2])))
  ·rw [hd] at h2
   rcases List.mem_cons.1 h2 with e | h2
   ·exact .inl e
   ·exact .inr (.inr (.inr h2))
 ·rcases List.mem_append.1 hv with hv | hv
  ·exact ⟨(h.x v hv).1,hset v (h.x v hv).2⟩
  ·simp at hv
   subst hv
   exact ⟨hlt,by rw [zaz hml,if_pos rfl]⟩
theorem LayI.next {L X:List Nat} {i:Nat} (h:LayI I x o m b (L.drop i) X (fun _=>False)) (hi:L.length <= i):LayI I x o m b X [] (fun _=>False):=by
 rw [List.drop_eq_nil_of_le hi] at h
 refine ⟨h.i.skip fun s _ h2=>?_,h.g,h.x,fun v hv=>by simp at hv⟩
 rcases h2 with h2 | h2 | h2
 ·simp at h2
 ·exact .inr (.inr (.inl h2))
 ·exact h2.elim
theorem LayI.end_ (hr:z05 I=0) (h:LayI I x o m b [] [] (fun _=>False)):SearchP I x o m b none:=by
 refine h.i.end_ hr h.g fun s _ h2=>?_
 rcases h2 with h2 | h2 | h2
 ·simp at h2
 ·simp at h2
 ·exact h2
end
def z0l (i s:List Int) (n:Int) (w:Nat):List Int:=(i.take (s.getD (2 * n.toNat+w+1) 0).toNat).drop (s.getD (2 * n.toNat+w) 0).toNat
structure PieceOk (gn:Int) (i s:List Int) (n:Int) (w:Nat):Prop where
 n0:0 <= n
 n1:n<gn
 gn1:gn <= 10000
 il:i.length <= 1000000000
 sl:2 * n.toNat+w+1<s.length
 a:0 <= s.getD (2 * n.toNat+w) 0
 b:s.getD (2 * n.toNat+w) 0 <= s.getD (2 * n.toNat+w+1) 0
 c:s.getD (2 * n.toNat+w+1) 0 <= i.length
end Go.Ql
end
section
namespace Go.Ql
open Go Go.Vc
structure LowI (I:Inst) (a:Nat) (x o:List Int):Prop where
 over:OverOf I x o
 at_:∀ c,c<I.arcs.length->x.getD c 0=if c<a then (z22 I c).low else 0
 bd:∀ v,v<I.sup.length->-(4398046511104 * (2 * (a:Int)+1)) <= o.getD v 0/\o.getD v 0 <= 4398046511104 * (2 * (a:Int)+1)
 pos:z4n o I.sup.length <= 4398046511104 * ((I.sup.length:Int)+a)
structure BuildP (I:Inst) (x o:List Int) (t:Rows3):Prop where
 low:LowI I I.arcs.length x o
 at_:AtOk I t
theorem netK_zero (n:Nat) (l:List Arc) {x:List Int} (h:∀ c,x.getD c 0=0) (v:Nat):∀ k,z52 n l x k v=0
 | 0=>rfl
 | k+1=>by
  rw [z52,netK_zero n l h v k]
  unfold z4t
  rw [h]
  simp
def z5e (I:Inst) (n:Nat):List Nat:=segA I I.arcs.length (2 * n)
def z7k (I:Inst) (n:Nat):List Nat:=segA I I.arcs.length (2 * n+1)
def fwd (l:List Nat):List Stp:=l.map fun a=>(a,false)
def bwd (l:List Nat):List Stp:=l.map fun a=>(a,true)
def stpsF (I:Inst) (n:Nat):List Stp:=fwd (z5e I n) ++ bwd (z7k I n)
def z1u (I:Inst) (n:Nat) (q:List Stp):List (List (List Int)):=(List.range I.sup.length).map fun u=>(if u<n then stpsF I u else if u=n then q else []).map z64
theorem z6t (I:Inst) (n:Nat) (q:List Stp):(z1u I n q).length=I.sup.length:=by simp [z1u]
theorem z6s {I:Inst} {n:Nat} {q:List Stp} {u:Nat} (h:u<I.sup.length):(z1u I n q)[u]? = some ((if u<n then stpsF I u else if u=n then q else []).map z64):=by
 unfold z1u; rw [List.getElem?_map,List.getElem?_range h]; rfl
theorem stpsK_zero (I:Inst):List.replicate I.sup.length []=z1u I 0 []:=by
 refine List.ext_getElem? fun t=>?_
 by_cases h:t<I.sup.length
 ·rw [z6s h,List.getElem?_replicate,if_pos h,if_neg (Nat.not_lt_zero _)]
  split <;> rfl
 ·rw [List.getElem?_eq_none (by simp; omega),List.getElem?_eq_none (by rw [z6t]; omega)]
theorem stpsK_set {I:Inst} {n:Nat} {q:List Stp} (s:Stp) {r:List (List Int)} (hr:(z1u I n q)[n]? = some r):(z1u I n q).set n (r ++ [z64 s])=z1u I n (q ++ [s]):=by
 have hn:n<I.sup.length:=by have:=(List.getElem?_eq_some_iff.1 hr).1; rwa [z6t] at this
 rw [z6s hn,if_neg (Nat.lt_irrefl _),if_pos rfl] at hr
 cases hr
 refine List.ext_getElem? fun t=>?_
 rw [List.getElem?_set,z6t]
 by_cases h:t<I.sup.length
 ·by_cases e:n=t
  ·subst e
   rw [if_pos rfl,if_pos hn,z6s h,if_neg (Nat.lt_irrefl _),if_pos rfl,List.map_append]; rfl
  ·rw [if_neg e,z6s h,z6s h]
   by_cases h2:t<n
   ·rw [if_pos h2,if_pos h2]
   ·rw [if_neg h2,if_neg h2,if_neg (fun x=>e x.symm),if_neg (fun x=>e x.symm)]
 ·rw [if_neg (by omega),List.getElem?_eq_none (by rw [z6t]; omega),List.getElem?_eq_none (by rw [z6t]; omega)]
theorem stpsK_next (I:Inst) (n:Nat):z1u I n (stpsF I n)=z1u I (n+1) []:=by
 unfold z1u
 refine List.map_congr_left fun u _=>?_
 by_cases h:u<n
 ·rw [if_pos h,if_pos (by omega)]
 ·rw [if_neg h]
  by_cases e:u=n
  ·subst e; rw [if_pos rfl,if_pos (Nat.lt_succ_self _)]
  ·rw [if_neg e,if_neg (by omega)]
   split <;> rfl
theorem fm_len {F:Nat->List Int} {S:Nat->Nat} (h0:S 0=0) (hS:∀ k,S (k+1)=S k+(F k).length):∀ n,((List.range n).flatMap F).length=S n
 | 0=>by simp [h0]
 | n+1=>by rw [List.range_succ,List.flatMap_append,List.length_append,fm_len h0 hS n,hS]; simp
theorem fm_piece {F:Nat->List Int} {S:Nat->Nat} (h0:S 0=0) (hS:∀ k,S (k+1)=S k+(F k).length) {j:Nat}:∀ n,j<n->(((List.range n).flatMap F).take (S (j+1))).drop (S j)=F j
 | 0,h=>by omega
 | n+1,h=>by
  have hl:=fm_len h0 hS n
  rw [List.range_succ,List.flatMap_append]
  by_cases e:j=n
  ·subst e
   rw [List.take_of_length_le (by rw [List.length_append,hl,hS]; simp),<- hl,List.drop_append]
   simp
  ·have hm:∀ d k,S k <= S (k+d):=fun d k=>by
    induction d with
    | zero=>exact Nat.le_refl _
    | succ d ih=>rw [<- Nat.add_assoc,hS]; omega
   have:=hm (n - (j+1)) (j+1)
   rw [show j+1+(n - (j+1))=n by omega] at this
   rw [List.take_append_of_le_length (by omega)]
   exact fm_piece h0 hS n (by omega)
theorem z5g {I:Inst} {j:Nat} (h:j <= 2 * I.sup.length):(z0w I).getD j 0=(z91 I j:Int):=by
 unfold z0w
 rw [List.getD_eq_getElem?_getD,List.getElem?_map,List.getElem?_range (by omega)]; rfl
theorem piece_is {I:Inst} {n w:Nat} (hn:n<I.sup.length) (hw:w <= 1):z0l (z2i I) (z0w I) (n:Int) w=z3w (segA I I.arcs.length (2 * n+w)):=by
 unfold z0l
 rw [Int.toNat_natCast,z5g (by omega),z5g (by omega),Int.toNat_natCast,Int.toNat_natCast]
 unfold z2i z3w
 exact fm_piece (S:=z91 I) rfl (fun k=>by rw [z91,List.length_map]; rfl) _ (by omega)
theorem sumA_len (I:Inst):(z2i I).length=z91 I (2 * I.sup.length):=by
 unfold z2i
 exact fm_len (S:=z91 I) rfl (fun k=>by rw [z91,List.length_map]; rfl) _
theorem piece_ok {I:Inst} (hr:z05 I=0) {n w:Nat} (hn:n<I.sup.length) (hw:w <= 1):PieceOk I.sup.length (z2i I) (z0w I) (n:Int) w:=by
 have hs:=z0d hr
 have h1:=za3 I (2 * n+w) 1
 have h2:=za3 I (2 * n+w+1) (2 * I.sup.length - (2 * n+w+1))
 rw [show 2 * n+w+1+(2 * I.sup.length - (2 * n+w+1))=2 * I.sup.length by omega] at h2
 have h3:=sumA_le I (2 * I.sup.length)
 have h4:2 * I.sup.length * I.arcs.length <= 128 * 256:=Nat.mul_le_mul (by omega) (by omega)
 have h5:=sumA_len I
 refine ⟨by omega,by omega,by omega,by omega,by simp [z0w]; omega,?_,?_,?_⟩
 ·rw [Int.toNat_natCast,z5g (by omega)]; omega
 ·rw [Int.toNat_natCast,z5g (by omega),z5g (by omega)]; omega
 ·rw [Int.toNat_natCast,z5g (by omega)]; omega
theorem segA_mem {I:Inst} (hr:z05 I=0) {n a:Nat}:(a ∈ z5e I n ↔ a<I.arcs.length/\(z22 I a).src=n)/\(a ∈ z7k I n ↔ a<I.arcs.length/\(z22 I a).dst=n):=by
 have ok:∀ a,a<I.arcs.length->z2z I.sup.length (z22 I a)=true:=fun a ha=>by
  have:=z1p hr ha
  have q1:=this.s0; have q2:=this.s1; have q3:=this.d0; have q4:=this.d1
  exact okArc_iff.2 ⟨q1,by omega,q3,by omega⟩
 have e:∀ j,inK I j a=(z2z I.sup.length (z22 I a) && hasK (z22 I a) j):=fun _=>rfl
 unfold z5e z7k segA
 rw [List.mem_filter,List.mem_filter,List.mem_range,e,e]
 refine ⟨⟨fun h=>⟨h.1,?_⟩,fun h=>⟨h.1,?_⟩⟩,⟨fun h=>⟨h.1,?_⟩,fun h=>⟨h.1,?_⟩⟩⟩
 ·have h2:=h.2
  rw [ok a h.1,Bool.true_and,hasK_iff] at h2
  omega
 ·rw [ok a h.1,Bool.true_and,hasK_iff]; left; omega
 ·have h2:=h.2
  rw [ok a h.1,Bool.true_and,hasK_iff] at h2
  omega
 ·rw [ok a h.1,Bool.true_and,hasK_iff]; right; omega
theorem steps_ok {I:Inst} (hr:z05 I=0):AtOk I (z1u I I.sup.length []):=by
 have hs:=z0d hr
 refine ⟨z6t _ _ _,fun u hu=>⟨stpsF I u,by rw [z6s hu,if_pos hu],?_,fun s=>?_⟩⟩
 ·have h1:=z9a I (2 * u) I.arcs.length
  have h2:=z9a I (2 * u+1) I.arcs.length
  unfold z71 at h1 h2
  unfold stpsF fwd bwd z5e z7k
  rw [List.length_append,List.length_map,List.length_map]
  omega
 ·obtain ⟨a,k⟩:=s
  have hm:=@segA_mem I hr u a
  unfold stpsF fwd bwd okS frS
  rw [List.mem_append,List.mem_map,List.mem_map]
  dsimp only
  constructor
  ·rintro (⟨b,hb,he⟩ | ⟨b,hb,he⟩)
   ·cases he
    obtain ⟨q1,q2⟩:=hm.1.1 hb
    exact ⟨q1,by rw [if_neg (by simp)]; omega⟩
   ·cases he
    obtain ⟨q1,q2⟩:=hm.2.1 hb
    exact ⟨q1,by rw [if_pos rfl]; omega⟩
  ·rintro ⟨h1,h2⟩
   have ha:=z1p hr h1
   have:=ha.s0; have:=ha.d0
   cases k with
   | false =>
    rw [if_neg (by simp)] at h2
    exact .inl ⟨a,hm.1.2 ⟨h1,by omega⟩,rfl⟩
   | true =>
    rw [if_pos rfl] at h2
    exact .inr ⟨a,hm.2.2 ⟨h1,by omega⟩,rfl⟩
theorem LowI.begin {I:Inst} (hr:z05 I=0):LowI I 0 (List.replicate I.arcs.length 0) I.sup:=by
 have hz:∀ c,(List.replicate I.arcs.length (0:Int)).getD c 0=0:=fun c=>by
  rw [List.getD_eq_getElem?_getD,List.getElem?_replicate]; split <;> rfl
 refine ⟨⟨rfl,by simp,fun v hv=>by rw [netK_zero _ _ hz]; omega⟩,fun c _=>by rw [hz,if_neg (Nat.not_lt_zero _)],fun v hv=>?_,?_⟩
 ·have hm:I.sup.getD v 0 ∈ I.sup:=by rw [List.getD_eq_getElem?_getD,List.getElem?_eq_getElem hv]; exact List.getElem_mem hv
  have:=(z1n hr).1 _ hm
  omega
 ·have:∀ k,k <= I.sup.length->z4n I.sup k <= 4398046511104 * (k:Int):=fun k=>by
   induction k with
   | zero=>intro _; simp [z4n]
   | succ k ih =>
    intro hk
    have h1:=ih (by omega)
    have hm:I.sup.getD k 0 ∈ I.sup:=by rw [List.getD_eq_getElem?_getD,List.getElem?_eq_getElem hk]; exact List.getElem_mem hk
    have h2:=(z1n hr).1 _ hm
    rw [z4n]
    have e:((k+1:Nat):Int)=k+1:=by omega
    rw [e]
    omega
  have:=this _ (Nat.le_refl _)
  have e:((0:Nat):Int)=0:=rfl
  rw [e]
  omega
theorem LowI.next {I:Inst} (hr:z05 I=0) {a:Nat} {x o:List Int} (h:LowI I a x o) (ha:a<I.arcs.length):LowI I (a+1) (z4w x (a,false) (z22 I a).low) (z6x I o (a,false) (z22 I a).low):=by
 have hk:=z1p hr ha
 have hl0:=hk.l0; have hl1:=hk.l1
 refine ⟨h.over.push hr (s:=(a,false)) ha _,fun c hc=>?_,fun v hv=>?_,?_⟩
 ·rw [z8n (by rw [h.over.lx]; exact ha),h.at_ c hc]
  by_cases e:c=a
  ·subst e; rw [if_neg (Nat.lt_irrefl _),if_pos rfl,if_pos (Nat.lt_succ_self _)]; simp
  ·rw [if_neg (show ¬ c=((a,false):Stp).1 from e)]
   by_cases h2:c<a
   ·rw [if_pos h2,if_pos (by omega)]; omega
   ·rw [if_neg h2,if_neg (by omega)]; rfl
 ·have:=h.bd v hv
  rw [zdj (by rw [h.over.lo]; exact hv)]
  have e:((a+1:Nat):Int)=a+1:=by omega
  rw [e]
  repeat' split <;> omega
 ·have:=posS_push hr h.over.lo (s:=(a,false)) ha hl0
  have:=h.pos
  have e:((a+1:Nat):Int)=a+1:=by omega
  rw [e]
  omega
theorem LowI.xb {I:Inst} (hr:z05 I=0) {a:Nat} {x o:List Int} (h:LowI I a x o) (ha:a <= I.arcs.length):XB x/\XB o:=by
 have hs:=z0d hr
 refine ⟨xb_of fun k hk=>?_,xb_of fun k hk=>?_⟩
 ·have hk2:k<I.arcs.length:=by rw [<- h.over.lx]; exact hk
  have:=z1p hr hk2
  have:=this.l0; have:=(z1p hr hk2).l1
  rw [h.at_ k hk2]
  split <;> omega
 ·have:=h.bd k (by rw [<- h.over.lo]; exact hk)
  omega
structure SmallI (I:Inst):Prop where
 s:∀ y ∈ I.sup,-1048576 <= y/\y <= 1048576
 a:∀ a ∈ I.arcs,a.low <= 524288/\(a.cap=inf ∨ a.cap <= 536870912)
structure SolveP (I:Inst) (c:Cert) (e:Int):Prop where
 bad:z05 I ≠ 0->e=z05 I/\c=⟨0,[],[],[],[]⟩
 ok:z05 I=0->e=0/\z1g I c=0/\YB c.flow/\YB c.pot/\∀ C:Int,0 <= C->(∀ s,okS I s->-C <= csS I s/\csS I s <= C)->∀ k,-(C * 32768) <= c.pot.getD k 0/\c.pot.getD k 0 <= C * 32768
theorem build_fill {I:Inst} (hr:z05 I=0) {x o:List Int} {t:Rows3} (h:BuildP I x o t):FillI I x o:=by
 have hs:=z0d hr
 have hlow:=h.low
 have hx:∀ a,a<I.arcs.length->x.getD a 0=(z22 I a).low:=fun a ha=>by rw [hlow.at_ a ha,if_pos ha]
 refine ⟨⟨4398046511104,⟨hlow.over,fun a ha=>?_,fun a ha=>?_⟩,by omega,?_⟩⟩
 ·have:=z1p hr ha
  have h1:=this.c
  rw [hx a ha]
  exact ⟨Int.le_refl _,h1.imp id (·.1)⟩
 ·have:=z1p hr ha
  have h1:=this.l0; have h2:=this.l1
  rw [hx a ha]; omega
 ·have:=hlow.pos
  omega
theorem build_cheap {I:Inst} (hr:z05 I=0) (hsm:SmallI I) {x o:List Int} {t:Rows3} (h:BuildP I x o t) (hπ:∃ π,z8y I (endS I) π) (hy:∃ y,A64 y/\z1a I y=0):zig I x o:=by
 have hs:=z0d hr
 have hlow:=h.low
 refine ⟨hr,hlow.over,fun a ha=>by rw [hlow.at_ a ha,if_pos ha],⟨by rw [hlow.over.lo]; omega,by omega,fun y hy=>?_,fun a ha=>?_⟩,hπ,hy⟩
 ·obtain ⟨v,hv⟩:=List.mem_iff_getElem?.1 hy
  have hvl:v<I.sup.length:=by rw [<- hlow.over.lo]; exact (List.getElem?_eq_some_iff.1 hv).1
  have e:o.getD v 0=y:=by rw [List.getD_eq_getElem?_getD,hv]; rfl
  rw [<- e,hlow.over.at_ v hvl]
  have hm:I.sup.getD v 0 ∈ I.sup:=by rw [List.getD_eq_getElem?_getD,List.getElem?_eq_getElem hvl]; exact List.getElem_mem hvl
  have h1:=hsm.s _ hm
  have h2:∀ k,k <= I.arcs.length->-(524288 * (k:Int)) <= z52 I.sup.length I.arcs x k v/\z52 I.sup.length I.arcs x k v <= 524288 * (k:Int):=fun k=>by
   induction k with
   | zero=>intro _; simp [z52]
   | succ k ih =>
    intro hk
    obtain ⟨i1,i2⟩:=ih (by omega)
    have h3:=z1p hr (a:=k) (by omega)
    have h4:=h3.l0
    have h5:=(hsm.a _ (z85 (show k<I.arcs.length by omega)).2).1
    have h6:=hlow.at_ k (by omega)
    rw [if_pos (by omega)] at h6
    rw [z52,h6]
    have e2:((k+1:Nat):Int)=k+1:=by omega
    rw [e2]
    unfold z4t
    repeat' split <;> omega
  have:=h2 _ (Nat.le_refl _)
  omega
 ·have h1:=hsm.a a ha
  obtain ⟨j,hj⟩:=List.mem_iff_getElem?.1 ha
  have h3:=z1p hr (a:=j) (List.getElem?_eq_some_iff.1 hj).1
  rw [z2e hj] at h3
  have:=h3.l0; have h4:=h3.c
  refine h1.2.imp id fun h=>⟨?_,h⟩
  rcases h4 with h4 | h4
  ·rw [h4] at h; exact absurd h (by decide)
  ·omega
theorem fits_len {I:Inst} {x o:List Int} {m:List Bool} {f:Bool} (h:FillP I x o m f):A64 x:=fun y hy=>by have:=h.inv.xb y hy; unfold I64; omega
theorem nil_few {C:Int} (h0:0 <= C) (k:Nat):-(C * 32768) <= ([]:List Int).getD k 0/\([]:List Int).getD k 0 <= C * 32768:=by
 have:([]:List Int).getD k 0=0:=rfl
 rw [this]; omega
theorem YB.nil:YB []:=fun y hy=>by simp at hy
theorem solve_cut {I:Inst} (hr:z05 I=0) {x o:List Int} {m:List Bool} (h:FillP I x o m true):SolveP I ⟨2,[],[],m,[]⟩ 0:=by
 refine ⟨fun h2=>absurd hr h2,fun _=>⟨rfl,?_,YB.nil,YB.nil,fun C h0 _ k=>nil_few h0 k⟩⟩
 unfold z1g z4l
 simp [hr,h.yes rfl]
theorem solve_ray {I:Inst} (hr:z05 I=0) {x o:List Int} {m:List Bool} (h:FillP I x o m false) {l:List Int} (hl:RoundP I l true):SolveP I ⟨3,x,[],[],l⟩ 0:=by
 refine ⟨fun h2=>absurd hr h2,fun _=>⟨rfl,?_,h.inv.xb,YB.nil,fun C h0 _ k=>nil_few h0 k⟩⟩
 have h1:=(h.no rfl).2
 have h2:=hl.yes rfl
 unfold z1g z4l
 simp [hr,h1,h2]
theorem solve_best {I:Inst} (hr:z05 I=0) {x o p:List Int} (h:CheapP I x o) (hp:PriceP I x p):SolveP I ⟨1,x,p,[],[]⟩ 0:=by
 refine ⟨fun h2=>absurd hr h2,fun _=>⟨rfl,?_,h.yb,?_,fun C h0 hC k=>?_⟩⟩
 ·have:=prices_slack h.fits hp
  unfold z1g z4l
  simp [hr,this]
 ·obtain ⟨g,-,hpe,hg,-⟩:=hp.ex
  show YB p
  rw [hpe]
  intro y hy
  unfold negF at hy
  obtain ⟨v,hv,rfl⟩:=List.mem_map.1 hy
  have:=hg v (List.mem_range.1 hv)
  omega
 ·obtain ⟨g,-,hpe,-,hg⟩:=hp.ex
  show -(C * 32768) <= p.getD k 0/\p.getD k 0 <= C * 32768
  rw [hpe]
  by_cases hk:k<I.sup.length
  ·have:=hg C h0 hC k hk
   rw [negF_get _ _ hk]; omega
  ·rw [List.getD_eq_getElem?_getD,List.getElem?_eq_none (by simp [negF]; omega)]
   show -(C * 32768) <= 0/\0 <= C * 32768
   omega
theorem solve_bad {I:Inst} (hr:z05 I ≠ 0):SolveP I ⟨0,[],[],[],[]⟩ (z05 I):=⟨fun _=>⟨rfl,rfl⟩,fun h=>absurd h hr⟩
theorem YB.a64 {x:List Int} (h:YB x):A64 x:=fun y hy=>by have:=h y hy; unfold I64; omega
theorem z65 {I:Inst} {x p:List Int} (h:z17 I x p=0):z1a I x=0:=by
 unfold z17 at h
 split at h
 ·rename_i hn; exact absurd h hn
 ·rename_i hn; exact Classical.byContradiction hn
theorem solve_ok {I:Inst} {c:Cert} {e:Int} (hr:z05 I=0) (h:SolveP I c e):z1b c/\z1g I c=0/\c.flow.length <= 256/\c.pot.length <= 64/\c.side.length <= 64/\c.cycle.length <= 256:=by
 obtain ⟨-,h1,h2,h3,-⟩:=h.ok hr
 have hs:=z0d hr
 have hl:c.flow.length <= 256/\c.pot.length <= 64/\c.side.length <= 64/\c.cycle.length <= 256:=by
  obtain ⟨-,hp,hk⟩:=z4h h1
  unfold z4l at hp
  rcases hk with ⟨k,h4⟩ | ⟨k,h4⟩ | ⟨k,h4,h5⟩
  ·have hf:=(fitsF_zero.1 (z65 h4)).2.1
   have hpl:c.pot.length=I.sup.length:=by
    unfold z17 at h4
    rw [if_neg (fun hn=>hn (z65 (by unfold z17; exact h4)))] at h4
    split at h4
    ·cases h4
    ·rename_i hh; exact Classical.byContradiction hh
   rw [if_pos k,Bool.and_eq_true,decide_eq_true_eq,decide_eq_true_eq] at hp
   omega
  ·rw [if_neg (by omega),if_pos k,Bool.and_eq_true,Bool.and_eq_true,decide_eq_true_eq,decide_eq_true_eq,decide_eq_true_eq] at hp
   have:c.side.length=I.sup.length:=by
    unfold z24 at h4
    rw [if_neg (fun hn=>hn hr)] at h4
    split at h4
    ·cases h4
    ·rename_i hh; exact Classical.byContradiction hh
   omega
  ·rw [if_neg (by omega),if_neg (by omega),if_pos k,Bool.and_eq_true,decide_eq_true_eq,decide_eq_true_eq] at hp
   have hf:=(fitsF_zero.1 h4).2.1
   have:c.cycle.length <= I.arcs.length:=by
    unfold z21 at h5
    rw [if_neg (fun hn=>hn hr)] at h5
    split at h5
    ·cases h5
    ·omega
   omega
 exact ⟨⟨h2.a64,h3.a64,by omega,by omega,by omega,by omega⟩,h1,hl⟩
structure ValueP (I:Inst) (w:Wide) (k:Int):Prop where
 ex:∃ c,z1b c/\z1g I c=0/\c.kind=k/\w=z55 I c
 yb:∃ c,z1b c/\z1g I c=0/\YB c.flow/\YB c.pot/\∀ C:Int,0 <= C->(∀ s,okS I s->-C <= csS I s/\csS I s <= C)->∀ k,-(C * 32768) <= c.pot.getD k 0/\c.pot.getD k 0 <= C * 32768
theorem ValueP.one {I:Inst} {w:Wide} {k:Int} (h:ValueP I w k) {c:Cert} (hc:z1b c) (h1:z1g I c=0):k=c.kind/\w=z55 I c:=by
 obtain ⟨d,q1,q2,rfl,rfl⟩:=h.ex
 exact cert_one q1 hc q2 h1
theorem ValueP.pos {I:Inst} {w:Wide} {k:Int} (h:ValueP I w k):z05 I=0/\(k=1 ∨ k=2 ∨ k=3):=by
 obtain ⟨d,q1,q2,rfl,rfl⟩:=h.ex
 obtain ⟨hr,hp,-⟩:=z4h q2
 exact ⟨hr,zcc hp⟩
def FeasQ (I:Inst):Prop:=∃ x,A64 x/\z1a I x=0
def NegQ (I:Inst):Prop:=∃ l,z21 I l=0/\l.length <= 140737488351232
theorem ValueP.feas {I:Inst} {w:Wide} {k:Int} (h:ValueP I w k) (hk:k ≠ 2):FeasQ I:=by
 obtain ⟨d,q1,q2,rfl,-⟩:=h.ex
 obtain ⟨hr,-,q3⟩:=z4h q2
 rcases q3 with ⟨-,a⟩ | ⟨a,-⟩ | ⟨-,a,-⟩
 ·exact ⟨_,q1.1,z65 a⟩
 ·omega
 ·exact ⟨_,q1.1,a⟩
theorem ValueP.neg {I:Inst} {w:Wide} {k:Int} (h:ValueP I w k) (hk:k ≠ 2):k=3 ↔ NegQ I:=by
 refine ⟨fun h3=>?_,fun ⟨l,hl,hll⟩=>?_⟩
 ·obtain ⟨d,q1,q2,rfl,-⟩:=h.ex
  obtain ⟨hr,-,q3⟩:=z4h q2
  rcases q3 with ⟨a,-⟩ | ⟨a,-⟩ | ⟨-,-,a⟩
  ·omega
  ·omega
  ·exact ⟨_,a,q1.2.2.2.2.2⟩
 ·obtain ⟨x,hx,hf⟩:=h.feas hk
  have hlen:=(fitsF_zero.1 hf).2.1
  have hr:=(fitsF_zero.1 hf).1
  have hs:=z0d hr
  have hc:z1g I ⟨3,x,[],[],l⟩=0:=by
   unfold z1g z4l
   simp [hr,hf,hl]
  exact (h.one (c:=⟨3,x,[],[],l⟩) ⟨hx,YB.nil.a64,by dsimp only; omega,by simp,by simp,hll⟩ hc).1
structure ArcFew (n:Int) (a:Arc):Prop where
 s0:0 <= a.src
 s1:a.src<n
 d0:0 <= a.dst
 d1:a.dst<n
 l0:0 <= a.low
 l1:a.low <= 500
 c:a.cap=inf ∨ a.low <= a.cap/\a.cap <= 2000
 k0:-2000 <= a.cost
 k1:a.cost <= 2000
structure FewI (I:Inst):Prop where
 n1:1 <= I.sup.length
 n2:I.sup.length <= 30
 m:I.arcs.length <= 64
 arc:∀ a ∈ I.arcs,ArcFew I.sup.length a
 sup:Within 100000 I.sup
 sum:I.sup.sum=0
theorem FewI.right {I:Inst} (h:FewI I):z05 I=0:=by
 have:=h.n2; have:=h.m
 refine right_of (by omega) (by omega) (fun a ha=>?_) (fun x hx=>by have:=h.sup x hx; omega) h.sum
 have h:=h.arc a ha
 have hi:inf=4611686018427387904:=rfl
 have:=h.s0; have:=h.s1; have:=h.d0; have:=h.d1; have:=h.l0; have:=h.l1; have:=h.c; have:=h.k0; have:=h.k1
 unfold z0r
 rw [if_neg (by omega),if_neg (by omega),if_neg (by omega),if_neg (by omega)]
theorem ValueP.none {I:Inst} {w:Wide} {k:Int} (h:ValueP I w k) (hk:k ≠ 1):w=⟨0,0⟩:=by
 obtain ⟨d,q1,q2,rfl,rfl⟩:=h.ex
 unfold z55; rw [if_neg hk]
theorem zd5 {I:Inst} {x:List Int} (hx:A64 x):z1a I x=0 ↔ z05 I=0/\x.length=I.arcs.length/\Betw I x/\∀ v:Nat,v<I.sup.length->z52 I.sup.length I.arcs x I.arcs.length v=I.sup.getD v 0:=by
 constructor
 ·intro h
  obtain ⟨hr,hl,ha,-⟩:=fitsF_zero.1 h
  have hs:=z0d hr
  refine ⟨hr,hl,fun a hal=>?_,fits_net (by omega) hx (z1n hr).1 h⟩
  obtain ⟨hget,hm⟩:=z85 hal
  have:=fitsAll_iff.1 ha a _ hget
  unfold fitF at this
  rw [Bool.and_eq_true,Bool.or_eq_true,decide_eq_true_eq,decide_eq_true_eq,decide_eq_true_eq] at this
  exact this
 ·rintro ⟨hr,hl,hb,hn⟩
  refine zl5 hr (o:=List.replicate I.sup.length 0) ⟨by simp,hl,fun v hv=>?_⟩ hb fun v hv=>?_
  ·rw [hn v hv,List.getD_eq_getElem?_getD,List.getElem?_replicate,if_pos hv]; simp
  ·rw [List.getD_eq_getElem?_getD,List.getElem?_replicate,if_pos hv]; rfl
theorem turns_char {I:Inst} {l:List Int}:z21 I l=0 ↔ z05 I=0/\1 <= l.length/\l.length <= I.arcs.length/\(∀ a ∈ l,0 <= a/\a<I.arcs.length)/\l.Nodup/\(∀ k,k<l.length->(z53 I (l.getD k 0)).dst=(z53 I (l.getD ((k+1) % l.length) 0)).src)/\(∀ a ∈ l,(z53 I a).cap=inf)/\rayS I l<0:=by
 have hc5:z05 I=0->l.length <= I.arcs.length->(c5F I l=true ↔ rayS I l<0):=fun hr hl=>by
  have hs:=z0d hr
  have e2:=rayK_bd hr l l.length
  unfold c5F
  rw [decide_eq_true_eq]
  unfold rayS at *
  rw [zbj (by unfold zb7; omega) (by unfold zb7; omega)]
  by_cases h:z92 I l l.length<0
  ·rw [if_pos h]; simp [h]
  ·rw [if_neg h]; split <;> simp [h]
 unfold z21
 constructor
 ·intro h
  split at h
  ·rename_i hn; exact absurd h hn
  ·rename_i hr
   have hr:=Classical.byContradiction hr
   split at h
   ·cases h
   ·rename_i hl
    split at h
    ·rename_i hc
     simp only [Bool.and_eq_true] at hc
     obtain ⟨⟨⟨⟨c1,c2⟩,c3⟩,c4⟩,c5⟩:=hc
     refine ⟨hr,by omega,by omega,fun a ha=>isArcF_iff.1 (List.all_eq_true.1 c1 a ha),of_decide_eq_true c2,fun k hk=>of_decide_eq_true (List.all_eq_true.1 c3 k (List.mem_range.2 hk)),fun a ha=>of_decide_eq_true (List.all_eq_true.1 c4 a ha),(hc5 hr (by omega)).1 c5⟩
    ·cases h
 ·rintro ⟨hr,h1,h2,c1,c2,c3,c4,c5⟩
  have e1:c1F I l=true:=List.all_eq_true.2 fun a ha=>isArcF_iff.2 (c1 a ha)
  have e2:c2F l=true:=decide_eq_true c2
  have e3:c3F I l=true:=List.all_eq_true.2 fun k hk=>decide_eq_true (c3 k (List.mem_range.1 hk))
  have e4:c4F I l=true:=List.all_eq_true.2 fun a ha=>decide_eq_true (c4 a ha)
  rw [if_neg (fun h=>h hr),if_neg (by omega),e1,e2,e3,e4,(hc5 hr h2).2 c5]
  rfl
def z7d {α:Type} (f:α->α) (s:List α) (k:Nat):List α:=(s.take k).map f ++ s.drop k
section
variable {α:Type} (f:α->α) (s:List α)
theorem stepL_zero:z7d f s 0=s:=by simp [z7d]
theorem znl (k:Nat):(z7d f s k).length=s.length:=by simp [z7d]; omega
theorem stepL_end {k:Nat} (h:s.length <= k):z7d f s k=s.map f:=by unfold z7d; rw [List.take_of_length_le h,List.drop_eq_nil_of_le h,List.append_nil]
variable {f s}
theorem stepL_get {k:Nat} {x:α} (h:(z7d f s k)[k]? = some x):s[k]? = some x:=by
 have hk:=(List.getElem?_eq_some_iff.1 h).1
 rw [znl] at hk
 unfold z7d at h
 rw [List.getElem?_append_right (by simp; omega)] at h
 rw [List.length_map,List.length_take,Nat.min_eq_left (by omega),Nat.sub_self,List.getElem?_drop,Nat.add_zero] at h
 exact h
theorem stepL_set {k:Nat} {x y:α} (h:s[k]? = some x) (hy:y=f x):(z7d f s k).set k y=z7d f s (k+1):=by
 have hk:=(List.getElem?_eq_some_iff.1 h).1
 subst hy
 have hl:((s.take k).map f).length=k:=by simp; omega
 unfold z7d
 rw [List.set_append_right _ _ (by omega),hl,Nat.sub_self,z47 h,List.set_cons_zero,z1i h,List.map_append]
 simp
end
def swapA (a:Arc):Arc:=⟨a.dst,a.src,a.low,a.cap,a.cost⟩
end Go.Ql
end
section
namespace Go.Ql
open Go Go.Vc
def redN (I:Inst) (p:List Int) (c:Nat):Int:=(z22 I c).cost - p.getD (z22 I c).src.toNat 0+p.getD (z22 I c).dst.toNat 0
theorem slackA_iff {r x:Int} {a:Arc} (h:zb7 r):z5r r x a=true ↔ (0<r->x=a.low)/\(r<0->x=a.cap/\a.cap ≠ inf):=by
 have e1:decide (0<sgn r)=decide (0<r):=decide_eq_decide.2 (sgn_pos h)
 have e2:decide (sgn r<0)=decide (r<0):=decide_eq_decide.2 (sgn_neg h)
 unfold z5r
 rw [e1,e2]
 by_cases h1:0<r
 ·have h2:¬ r<0:=by omega
  by_cases h3:x=a.low <;> simp [h1,h2,h3]
 ·by_cases h2:r<0
  ·by_cases h3:x=a.cap <;> by_cases h4:a.cap=inf <;> simp [h1,h2,h3,h4]
  ·simp [h1,h2]
theorem slack_char {I:Inst} {x p:List Int} (hp:A64 p):z17 I x p=0 ↔ z1a I x=0/\p.length=I.sup.length/\∀ c,c<I.arcs.length->(0<redN I p c->x.getD c 0=(z22 I c).low)/\(redN I p c<0->x.getD c 0=(z22 I c).cap/\(z22 I c).cap ≠ inf):=by
 have hk:z1a I x=0->∀ c,c<I.arcs.length->(z4m I x p c=true ↔ (0<redN I p c->x.getD c 0=(z22 I c).low)/\(redN I p c<0->x.getD c 0=(z22 I c).cap/\(z22 I c).cap ≠ inf)):=fun hf c hc=>by
  obtain ⟨hr,-⟩:=fitsF_zero.1 hf
  obtain ⟨hget,hm⟩:=z85 hc
  have ok:=z1p hr hc
  have k0:=ok.k0; have k1:=ok.k1; have s0:=ok.s0; have d0:=ok.d0
  have e:redF I p c=redN I p c:=by
   rw [redF_at hget (z1h hr hm).1]
   unfold redP redA potR redN
   rw [if_pos s0,if_pos d0]
  have b1:=hp.at (z22 I c).src.toNat
  have b2:=hp.at (z22 I c).dst.toNat
  unfold z4m
  rw [e]
  exact slackA_iff (by unfold redN zb7; omega)
 unfold z17
 constructor
 ·intro h
  split at h
  ·rename_i hn; exact absurd h hn
  ·rename_i hf
   have hf:=Classical.byContradiction hf
   split at h
   ·cases h
   ·rename_i hl
    split at h
    ·rename_i ha
     exact ⟨hf,Classical.byContradiction hl,fun c hc=>(hk hf c hc).1 (List.all_eq_true.1 ha c (List.mem_range.2 hc))⟩
    ·cases h
 ·rintro ⟨hf,hl,ha⟩
  rw [if_neg (fun h=>h hf),if_neg (fun h=>h hl),if_pos]
  exact List.all_eq_true.2 fun c hc=>(hk hf c (List.mem_range.1 hc)).2 (ha c (List.mem_range.1 hc))
theorem pot_turns {I:Inst} {π:Nat->Int} (hp:z8y I (endS I) π) {l:List Int}:z21 I l ≠ 0:=fun h=>by
 obtain ⟨hr,h1,h2,c1,c2,c3,c4,c5⟩:=turns_char.1 h
 have hm:∀ k,k<l.length->l.getD k 0 ∈ l:=fun k hk=>by rw [List.getD_eq_getElem?_getD,List.getElem?_eq_getElem hk]; exact List.getElem_mem _
 have hk:∀ t,t <= l.length->z1m (fun k=>π (z53 I (l.getD ((k+1) % l.length) 0)).src.toNat - π (z53 I (l.getD k 0)).src.toNat) t <= z92 I l t:=fun t=>by
  induction t with
  | zero=>intro _; simp [z92,z1m]
  | succ t ih =>
   intro ht
   have hmt:=hm t (by omega)
   obtain ⟨q1,q2⟩:=c1 _ hmt
   have e1:z4u I (l.getD t 0)=true:=isArcF_iff.2 ⟨q1,q2⟩
   have hcap:=c4 _ hmt
   have hs:okS I ((l.getD t 0).toNat,false):=by unfold okS; dsimp only; omega
   have:=hp ((l.getD t 0).toNat,false) hs (by unfold endS; simp; exact hcap)
   have e2:toS I ((l.getD t 0).toNat,false)=(z53 I (l.getD t 0)).dst.toNat:=rfl
   have e3:frS I ((l.getD t 0).toNat,false)=(z53 I (l.getD t 0)).src.toNat:=rfl
   have e4:csS I ((l.getD t 0).toNat,false)=(z53 I (l.getD t 0)).cost:=rfl
   rw [e2,e3,e4] at this
   have ih:=ih (by omega)
   rw [z92,z1m,<- c3 t (by omega)]
   unfold rayD
   rw [if_pos e1]
   omega
 have:=hk _ (Nat.le_refl _)
 rw [zgk (fun k=>π (z53 I (l.getD k 0)).src.toNat) l.length (Nat.le_refl _) (by omega),Nat.mod_self] at this
 unfold rayS at c5
 omega
structure ProbD where
 most:Bool
 inst:Inst
 s:Int
 t:Int
def zns (a:Arc):Bool:=decide (a.low=0) && decide (a.cost=0)
def z78 (I:Inst):Bool:=I.sup.all (fun y=>decide (y=0)) && I.arcs.all zns
def z6m (I:Inst) (n:Int):Bool:=decide (0 <= n) && decide (n<I.sup.length)
structure FitP (p:ProbD):Prop where
 m:p.most=true
 r:z05 p.inst=0
 b:z78 p.inst=true
 s:z6m p.inst p.s=true
 t:z6m p.inst p.t=true
 d:p.s ≠ p.t
def fitP (p:ProbD):Bool:=p.most && (decide (z05 p.inst=0) && (z78 p.inst && ((z6m p.inst p.s && z6m p.inst p.t) && !decide (p.s=p.t))))
structure AllI (p:ProbD) (k:Nat):Prop where
 n:k <= 5
 m:1 <= k->p.most=true
 r:2 <= k->z05 p.inst=0
 b:3 <= k->z78 p.inst=true
 st:4 <= k->(z6m p.inst p.s && z6m p.inst p.t)=true
 d:5 <= k->p.s ≠ p.t
theorem fitP_iff {p:ProbD}:fitP p=true ↔ FitP p:=by
 unfold fitP
 simp only [Bool.and_eq_true,decide_eq_true_eq,Bool.not_eq_true',decide_eq_false_iff_not]
 exact ⟨fun ⟨a,b,c,⟨d,e⟩,f⟩=>⟨a,b,c,d,e,f⟩,fun ⟨a,b,c,d,e,f⟩=>⟨a,b,c,⟨d,e⟩,f⟩⟩
def ofE (p:ProbD):Int:=if fitP p=true then (if 256 <= p.inst.arcs.length then 20 else 0) else 1
def zb4 (p:ProbD):Arc:=⟨p.t,p.s,0,4611686018427387904,-1⟩
def ofP (p:ProbD):Inst:=⟨p.inst.sup,p.inst.arcs ++ [zb4 p]⟩
def ofI (p:ProbD):Inst:=if ofE p=0 then ofP p else ⟨[],[]⟩
theorem ofE_zero {p:ProbD}:ofE p=0 ↔ FitP p/\p.inst.arcs.length<256:=by
 unfold ofE
 rw [<- fitP_iff]
 by_cases h:fitP p=true
 ·rw [if_pos h]
  by_cases h2:256 <= p.inst.arcs.length
  ·rw [if_pos h2]; exact ⟨fun h=>absurd h (by decide),fun h=>by omega⟩
  ·rw [if_neg h2]; exact ⟨fun _=>⟨h,by omega⟩,fun _=>rfl⟩
 ·rw [if_neg h]; exact ⟨fun h=>absurd h (by decide),fun h2=>absurd h2.1 h⟩
theorem nodeP_iff {I:Inst} {n:Int}:z6m I n=true ↔ 0 <= n/\n<I.sup.length:=by
 unfold z6m; rw [Bool.and_eq_true,decide_eq_true_eq,decide_eq_true_eq]
theorem bareF_iff {I:Inst}:z78 I=true ↔ (∀ y ∈ I.sup,y=0)/\∀ a ∈ I.arcs,a.low=0/\a.cost=0:=by
 unfold z78 zns
 simp only [Bool.and_eq_true,List.all_eq_true,decide_eq_true_eq]
theorem right_arc' {I:Inst} (h:z05 I=0) {a:Arc} (ha:a ∈ I.arcs):z0r a I.sup.length=0:=by
 obtain ⟨h1,h2,h3⟩:=z1h h ha
 unfold z2z at h1
 simp only [Bool.and_eq_true,decide_eq_true_eq] at h1
 unfold z0r
 rw [if_neg (by omega),if_neg (by omega),if_neg (by omega),if_neg (by omega)]
theorem z5m {p:ProbD} (h:ofE p=0):z05 (ofP p)=0:=by
 obtain ⟨hf,hl⟩:=ofE_zero.1 h
 have hr:=hf.r
 have hs:=z0d hr
 have hw:=z1n hr
 have h1:=nodeP_iff.1 hf.s; have h2:=nodeP_iff.1 hf.t; have h3:=hf.d
 refine right_of hs.1 (by unfold ofP; simp; omega) (fun a ha=>?_) (fun x hx=>hw.1 x hx) hw.2
 unfold ofP at ha ⊢
 dsimp only at ha ⊢
 rcases List.mem_append.1 ha with ha | ha
 ·exact right_arc' hr ha
 ·rw [List.mem_singleton] at ha
  subst ha
  unfold z0r zb4
  rw [if_neg (by dsimp only; omega),if_neg (by dsimp only; omega),if_neg (by dsimp only; omega),if_neg (by dsimp only; omega)]
theorem zi7 {I:Inst} (h:z05 I=0):z37 I:=by
 obtain ⟨a1,a2,a3,-⟩:=right_A64 h
 have hs:=z0d h
 exact ⟨by omega,by omega,a3,a1,a2⟩
def z1t (p:ProbD) (c:Cert):Bool:=decide (ofE p=0) && (decide (c.kind=1) && decide (z1g (ofI p) c=0))
structure GoodP (p:ProbD) (c:Cert):Prop where
 e:ofE p=0
 k:c.kind=1
 c:z1g (ofP p) c=0
theorem goodP_iff {p:ProbD} {c:Cert}:z1t p c=true ↔ GoodP p c:=by
 unfold z1t
 simp only [Bool.and_eq_true,decide_eq_true_eq]
 constructor
 ·rintro ⟨a,b,d⟩; unfold ofI at d; rw [if_pos a] at d; exact ⟨a,b,d⟩
 ·rintro ⟨a,b,d⟩; unfold ofI; rw [if_pos a]; exact ⟨a,b,d⟩
theorem GoodP.slack {p:ProbD} {c:Cert} (h:GoodP p c):z17 (ofP p) c.flow c.pot=0:=by
 obtain ⟨-,-,h3⟩:=z4h h.c
 have:=h.k
 rcases h3 with h3 | h3 | h3
 ·exact h3.2
 ·omega
 ·omega
theorem GoodP.len {p:ProbD} {c:Cert} (h:GoodP p c):c.flow.length=p.inst.arcs.length+1/\c.pot.length=p.inst.sup.length:=by
 have hs:=h.slack
 have hf:=(fitsF_zero.1 (z65 hs)).2.1
 refine ⟨by rw [hf]; simp [ofP],?_⟩
 unfold z17 at hs
 rw [if_neg (fun hn=>hn (z65 (by unfold z17; exact hs)))] at hs
 split at hs
 ·cases hs
 ·rename_i hh; exact Classical.byContradiction hh
def z5v (p:ProbD) (c:Cert):Int:=if z1t p c=true then c.flow.getD p.inst.arcs.length 0 else 0
def z1q (p:ProbD) (c:Cert):List Int:=if z1t p c=true then c.flow.take p.inst.arcs.length else []
def z90 (p:ProbD) (c:Cert):List Bool:=c.pot.map (fun y=>decide (c.pot.getD p.t.toNat 0<y))
def z63 (p:ProbD) (c:Cert):List Bool:=if z1t p c=true then z90 p c else []
structure OnP (p:ProbD) (S:List Bool):Prop where
 e:ofE p=0
 l:S.length=p.inst.sup.length
 s:S.getD p.s.toNat false=true
 t:S.getD p.t.toNat false=false
instance (p:ProbD) (S:List Bool):Decidable (OnP p S):=decidable_of_iff (ofE p=0/\S.length=p.inst.sup.length/\S.getD p.s.toNat false=true/\S.getD p.t.toNat false=false) ⟨fun ⟨a,b,c,d⟩=>⟨a,b,c,d⟩,fun ⟨a,b,c,d⟩=>⟨a,b,c,d⟩⟩
def z6u (p:ProbD) (S:List Bool):Option Int:=if OnP p S then z36 p.inst S else none
theorem allT {α:Type} {p:α->Bool} {l:List α} {k:Nat} {x:α} (h:l[k]? = some x):(l.take (k+1)).all p=((l.take k).all p && p x):=by rw [z1i h,List.all_append]; simp
theorem allN {α:Type} {p:α->Bool} {l:List α} {k:Nat} {x:α} (h:l[k]? = some x) (hp:p x=false):l.all p=false :=
 List.all_eq_false.2 ⟨x,List.mem_of_getElem? h,by simp [hp]⟩
theorem allE {α:Type} {p:α->Bool} {l:List α} {k:Nat} (h:(l.take k).all p=true) (hk:l.length <= k):l.all p=true:=by rw [List.take_of_length_le hk] at h; exact h
theorem bare_sup {I:Inst} {k:Nat} {x:Int} (h:I.sup[k]? = some x) (hx:¬ x=0):z78 I=false:=by
 unfold z78; rw [allN h (decide_eq_false hx)]; rfl
theorem bare_arc {I:Inst} {k:Nat} {a:Arc} (h:I.arcs[k]? = some a) (hx:¬ (a.low=0/\a.cost=0)):z78 I=false:=by
 unfold z78; rw [allN (p:=zns) h (by unfold zns; rw [<- Bool.decide_and]; exact decide_eq_false hx)]; exact Bool.and_false _
theorem bare_end {I:Inst} {k j:Nat} (h1:(I.sup.take k).all (fun y=>decide (y=0))=true) (h2:I.sup.length <= k) (h3:(I.arcs.take j).all zns=true) (h4:I.arcs.length <= j):z78 I=true:=by
 unfold z78; rw [allE h1 h2,allE h3 h4]; rfl
theorem zeroA_of {a:Arc} (h1:a.low=0) (h2:a.cost=0):zns a=true:=by unfold zns; rw [h1,h2]; rfl
theorem AllI.fit {p:ProbD} (h:AllI p 5):fitP p=true:=by
 have h4:=h.st (by decide)
 rw [Bool.and_eq_true] at h4
 exact fitP_iff.2 ⟨h.m (by decide),h.r (by decide),h.b (by decide),h4.1,h4.2,h.d (by decide)⟩
theorem fit_no {p:ProbD} (h:¬ FitP p):fitP p=false:=by
 cases e:fitP p
 ·rfl
 ·exact absurd (fitP_iff.1 e) h
theorem good_no {p:ProbD} {c:Cert} (h:¬ GoodP p c):z1t p c=false:=by
 cases e:z1t p c
 ·rfl
 ·exact absurd (goodP_iff.1 e) h
theorem weigh_no {p:ProbD} {S:List Bool} (h:¬ OnP p S):z6u p S=none:=if_neg h
theorem weigh_on {p:ProbD} {S:List Bool} (h:OnP p S):z6u p S=z36 p.inst S:=if_pos h
theorem zh9 {p:ProbD} (h:ofE p=0):ofI p=ofP p:=if_pos h
theorem ofI_no {p:ProbD} (h:ofE p ≠ 0):ofI p=⟨[],[]⟩:=if_neg h
theorem room_step {m:Int} {S:List Bool} {a:Arc} {l:List Arc} {s:Int} (hr:z0r a m=0) (h0:a.low=0) :
  z11 m S (a :: l) s=if S.getD a.src.toNat false=true/\S.getD a.dst.toNat false=false then (if a.cap=inf then none else z11 m S l (s+a.cap)) else z11 m S l s:=by
 have h:¬ (¬ (0 <= a.src/\a.src<m) ∨ ¬ (0 <= a.dst/\a.dst<m)):=fun h=>by unfold z0r at hr; rw [if_pos h] at hr; cases hr
 have e1:isN m a.src=true:=by unfold isN; rw [Bool.and_eq_true,decide_eq_true_eq,decide_eq_true_eq]; omega
 have e2:isN m a.dst=true:=by unfold isN; rw [Bool.and_eq_true,decide_eq_true_eq,decide_eq_true_eq]; omega
 have e3:onF S a.src=S.getD a.src.toNat false:=by unfold onF; rw [decide_eq_true (by omega)]; rfl
 have e4:onF S a.dst=S.getD a.dst.toNat false:=by unfold onF; rw [decide_eq_true (by omega)]; rfl
 rw [z3h]
 unfold zca inA
 rw [e1,e2,e3,e4,h0]
 cases S.getD a.src.toNat false <;> cases S.getD a.dst.toNat false <;> simp
end Go.Ql
end
section
namespace Go.Proofs.YtapeenpimcffpaaGreat
open Go Go.RowKit Go.Ql Go.Vc
abbrev node21_n:Nat:=71
def node21_g:z0c:=[]
def zls:Vc.Spec:=z2c TT node21_g (fun _ _ _=>[]) Tryz.f71
def bare21_r (I:Inst):FRes:={ pre:=I.sup.length <= 1000000/\I.arcs.length <= 1000000,res:=.bool (z78 I),rows:=[],eff:=[] }
def zkb:FS:=fun args h=>match args,h with
 | [.agg [.row 0,.row 1]],[(0,.row false ty0 (.ints .i64 I_s)),(1,.row false ty1 (.arcs I_a))]=>some (bare21_r ⟨I_s,I_a⟩)
 | _,_=>none
def zka (I:Inst):List (Nat × Ann):=[(2,{ G:=(Nat),inv:=fun k=>⟨[(1,.ptr 2 0 0 0),(8,.row 0),(9,.int .i64 (↑I.sup.length:Int)),(10,.int .i64 k)],[(2,.box true 25 [.row 0,.row 1]),(0,.row false 0 (.ints .i64 I.sup)),(1,.row false 0 (.arcs I.arcs))],3⟩,rel:=fun k0 k=>k <= I.sup.length/\(I.sup.take k).all (fun y=>decide (y=0))=true,meas:=fun k=>I.sup.length - k }),
 (8,{ G:=(Nat),inv:=fun k=>⟨[(18,.row 1),(19,.int .i64 (↑I.arcs.length:Int)),(20,.int .i64 k)],[(1,.row false 0 (.arcs I.arcs))],3⟩,rel:=fun k0 k=>k <= I.arcs.length/\(I.arcs.take k).all zns=true,meas:=fun k=>I.arcs.length - k })]
def bare21_A:List SV->z0e->List (Nat × Ann):=fun args h=>match args,h with
 | [.agg [.row 0,.row 1]],[(0,.row false ty0 (.ints .i64 I_s)),(1,.row false ty1 (.arcs I_a))]=>zka ⟨I_s,I_a⟩
 | _,_=>[]
def bare21_g:z0c:=[]
abbrev bare21_n:Nat:=69
def bare21_I (I:Inst):List (Nat × z09):=[]
def bare21_IA:List SV->z0e->List (Nat × z09):=fun _ _=>[]
def fit1_r (p:ProbD):FRes:={ pre:=True,res:=.bool (p.most),rows:=[],eff:=[] }
def fit1_fs:FS:=fun args h=>match args,h with
 | [.ptr 0 0 0 0],[(0,.box false 27 [.bool p_m,.row 1,.row 2,.int .i64 p_S,.int .i64 p_T]),(1,.row false ty1 (.ints .i64 p_s)),(2,.row false ty2 (.arcs p_a))]=>some (fit1_r ⟨p_m,⟨p_s,p_a⟩,p_S,p_T⟩)
 | _,_=>none
def fit1_an (p:ProbD):List (Nat × Ann):=[]
def fit1_A:List SV->z0e->List (Nat × Ann):=fun _ _=>[]
def fit1_g:z0c:=[]
abbrev fit1_n:Nat:=66
def fit1_I (p:ProbD):List (Nat × z09):=[]
def fit1_IA:List SV->z0e->List (Nat × z09):=fun _ _=>[]
def fit2_r (p:ProbD):FRes:={ pre:=True,res:=.bool (decide (z05 p.inst=0)),rows:=[],eff:=[] }
def fit2_fs:FS:=fun args h=>match args,h with
 | [.ptr 0 0 0 0],[(0,.box false 27 [.bool p_m,.row 1,.row 2,.int .i64 p_S,.int .i64 p_T]),(1,.row false ty1 (.ints .i64 p_s)),(2,.row false ty2 (.arcs p_a))]=>some (fit2_r ⟨p_m,⟨p_s,p_a⟩,p_S,p_T⟩)
 | _,_=>none
def fit2_an (p:ProbD):List (Nat × Ann):=[]
def fit2_A:List SV->z0e->List (Nat × Ann):=fun _ _=>[]
def fit2_g:z0c:=[(zbw,(true,z02 true z6y))]
abbrev fit2_n:Nat:=67
def fit2_I (p:ProbD):List (Nat × z09):=[]
def fit2_IA:List SV->z0e->List (Nat × z09):=fun _ _=>[]
def fit3_r (p:ProbD):FRes:={ pre:=p.inst.sup.length <= 1000000/\p.inst.arcs.length <= 1000000,res:=.bool (z78 p.inst),rows:=[],eff:=[] }
def fit3_fs:FS:=fun args h=>match args,h with
 | [.ptr 0 0 0 0],[(0,.box false 27 [.bool p_m,.row 1,.row 2,.int .i64 p_S,.int .i64 p_T]),(1,.row false ty1 (.ints .i64 p_s)),(2,.row false ty2 (.arcs p_a))]=>some (fit3_r ⟨p_m,⟨p_s,p_a⟩,p_S,p_T⟩)
 | _,_=>none
def fit3_an (p:ProbD):List (Nat × Ann):=[]
def fit3_A:List SV->z0e->List (Nat × Ann):=fun _ _=>[]
def fit3_g:z0c:=[(bare21_n,(true,z02 true zkb))]
abbrev fit3_n:Nat:=68
def fit3_I (p:ProbD):List (Nat × z09):=[]
def fit3_IA:List SV->z0e->List (Nat × z09):=fun _ _=>[]
def fit4_r (p:ProbD):FRes:={ pre:=True,res:=.bool (z6m p.inst p.s && z6m p.inst p.t),rows:=[],eff:=[] }
def fit4_fs:FS:=fun args h=>match args,h with
 | [.ptr 0 0 0 0],[(0,.box false 27 [.bool p_m,.row 1,.row 2,.int .i64 p_S,.int .i64 p_T]),(1,.row false ty1 (.ints .i64 p_s)),(2,.row false ty2 (.arcs p_a))]=>some (fit4_r ⟨p_m,⟨p_s,p_a⟩,p_S,p_T⟩)
 | _,_=>none
def fit4_an (p:ProbD):List (Nat × Ann):=[]
def fit4_A:List SV->z0e->List (Nat × Ann):=fun _ _=>[]
def fit4_g:z0c:=[(node21_n,(false,zls))]
abbrev fit4_n:Nat:=70
def fit4_I (p:ProbD):List (Nat × z09):=[]
def fit4_IA:List SV->z0e->List (Nat × z09):=fun _ _=>[]
def fit5_r (p:ProbD):FRes:={ pre:=True,res:=.bool (!decide (p.s=p.t)),rows:=[],eff:=[] }
def fit5_fs:FS:=fun args h=>match args,h with
 | [.ptr 0 0 0 0],[(0,.box false 27 [.bool p_m,.row 1,.row 2,.int .i64 p_S,.int .i64 p_T]),(1,.row false ty1 (.ints .i64 p_s)),(2,.row false ty2 (.arcs p_a))]=>some (fit5_r ⟨p_m,⟨p_s,p_a⟩,p_S,p_T⟩)
 | _,_=>none
def fit5_an (p:ProbD):List (Nat × Ann):=[]
def fit5_A:List SV->z0e->List (Nat × Ann):=fun _ _=>[]
def fit5_g:z0c:=[]
abbrev fit5_n:Nat:=72
def fit5_I (p:ProbD):List (Nat × z09):=[]
def fit5_IA:List SV->z0e->List (Nat × z09):=fun _ _=>[]
abbrev all21_n:Nat:=65
def all21_g:z0c:=[(fit1_n,(true,z02 true fit1_fs)),(fit2_n,(true,z02 true fit2_fs)),(fit3_n,(true,z02 true fit3_fs)),(fit4_n,(true,z02 true fit4_fs)),(fit5_n,(true,z02 true fit5_fs))]
def all21_spec:Vc.Spec:=z2c TT all21_g (fun args hp nk=>match args with | [.row v]=>(match lk v hp with | some (.vec _ (.fn _ [.ptr b 0 0 0] :: _))=>(match lk b hp with | some (.box _ _ [.bool m,.row r0,.row r1,.int _ S,.int _ T])=>(match lk r0 hp,lk r1 hp with | some (.row _ _ (.ints .i64 s)),some (.row _ _ (.arcs a))=>[(2,{ G:=Nat,inv:=fun k=>⟨[(5,.row v),(6,.int .i64 5),(7,.int .i64 k)],hp,nk⟩,rel:=fun _ k=>AllI ⟨m,⟨s,a⟩,S,T⟩ k,meas:=fun k=>5 - k })] | _,_=>[]) | _=>[]) | _=>[]) | _=>[]) Tryz.f65
def fit21_r (p:ProbD):FRes:={ pre:=True,res:=.bool (fitP p),rows:=[],eff:=[] }
def fit21_fs:FS:=fun args h=>match args,h with
 | [.agg [.bool p_m,.row 0,.row 1,.int .i64 p_S,.int .i64 p_T]],[(0,.row false ty0 (.ints .i64 p_s)),(1,.row false ty1 (.arcs p_a))]=>some (fit21_r ⟨p_m,⟨p_s,p_a⟩,p_S,p_T⟩)
 | _,_=>none
def fit21_an (p:ProbD):List (Nat × Ann):=[]
def fit21_A:List SV->z0e->List (Nat × Ann):=fun _ _=>[]
def fit21_g:z0c:=[(all21_n,(false,all21_spec))]
abbrev fit21_n:Nat:=41
def fit21_I (p:ProbD):List (Nat × z09):=[]
def fit21_IA:List SV->z0e->List (Nat × z09):=fun _ _=>[]
def Of21_r (p:ProbD):FRes:={ pre:=True,res:=.tup [.agg [.row 2,.row 3],.int .u16 (ofE p)],rows:=[.row 2 (.ints .i64 (ofI p).sup),.row 65 (.arcs (ofI p).arcs)],eff:=[] }
def zbu:FS:=fun args h=>match args,h with
 | [.agg [.bool p_m,.row 0,.row 1,.int .i64 p_S,.int .i64 p_T]],[(0,.row false ty0 (.ints .i64 p_s)),(1,.row false ty1 (.arcs p_a))]=>some (Of21_r ⟨p_m,⟨p_s,p_a⟩,p_S,p_T⟩)
 | _,_=>none
def Of21_an (p:ProbD):List (Nat × Ann):=[]
def Of21_A:List SV->z0e->List (Nat × Ann):=fun _ _=>[]
def Of21_g:z0c:=[(fit21_n,(true,z02 true fit21_fs)),(Copy_n,(true,z02 true Copy_fs))]
abbrev Of21_n:Nat:=19
def Of21_I (p:ProbD):List (Nat × z09):=[]
def Of21_IA:List SV->z0e->List (Nat × z09):=fun _ _=>[]
abbrev val1_n:Nat:=51
def val1_g:z0c:=[]
def val1_spec:Vc.Spec:=z2c TT val1_g (fun _ _ _=>[]) Tryz.f51
abbrev toldV_n:Nat:=50
def toldV_g:z0c:=[(Of21_n,(true,z02 true zbu)),(Check_n,(true,z02 true zcu)),(val1_n,(false,val1_spec))]
def toldV_spec:Vc.Spec:=z2c TT toldV_g (fun _ _ _=>[]) Tryz.f50
def zjd (p:ProbD) (c:Cert):FRes:={ pre:=z1b c,res:=.tup [.int .i64 (z5v p c),.bool (z1t p c)],rows:=[],eff:=[] }
def zae:FS:=fun args h=>match args,h with
 | [.agg [.bool p_m,.row 0,.row 1,.int .i64 p_S,.int .i64 p_T],.agg [.int .i64 c_k,.row 2,.row 3,.row 4,.row 5]],[(0,.row false ty0 (.ints .i64 p_s)),(1,.row false ty1 (.arcs p_a)),(2,.row false ty2 (.ints .i64 c_f)),(3,.row false ty3 (.ints .i64 c_p)),(4,.row false ty4 (.bools c_s)),(5,.row false ty5 (.ints .i64 c_y))]=>some (zjd ⟨p_m,⟨p_s,p_a⟩,p_S,p_T⟩ ⟨c_k,c_f,c_p,c_s,c_y⟩)
 | _,_=>none
def Value21_an (p:ProbD) (c:Cert):List (Nat × Ann):=[]
def Value21_A:List SV->z0e->List (Nat × Ann):=fun _ _=>[]
def zjb:z0c:=[(toldV_n,(false,toldV_spec))]
abbrev zjc:Nat:=22
def Value21_I (p:ProbD) (c:Cert):List (Nat × z09):=[]
def Value21_IA:List SV->z0e->List (Nat × z09):=fun _ _=>[]
abbrev flow1_n:Nat:=57
def flow1_g:z0c:=[]
def flow1_spec:Vc.Spec:=z2c TT flow1_g (fun _ _ _=>[]) Tryz.f57
abbrev toldF_n:Nat:=56
def toldF_g:z0c:=[(Of21_n,(true,z02 true zbu)),(Check_n,(true,z02 true zcu)),(flow1_n,(false,flow1_spec))]
def toldF_spec:Vc.Spec:=z2c TT toldF_g (fun _ _ _=>[]) Tryz.f56
def Flow21_r (p:ProbD) (c:Cert):FRes:={ pre:=z1b c,res:=.tup [.row 6,.bool (z1t p c)],rows:=[.row 2 (.ints .i64 (z1q p c))],eff:=[] }
def ziu:FS:=fun args h=>match args,h with
 | [.agg [.bool p_m,.row 0,.row 1,.int .i64 p_S,.int .i64 p_T],.agg [.int .i64 c_k,.row 2,.row 3,.row 4,.row 5]],[(0,.row false ty0 (.ints .i64 p_s)),(1,.row false ty1 (.arcs p_a)),(2,.row false ty2 (.ints .i64 c_f)),(3,.row false ty3 (.ints .i64 c_p)),(4,.row false ty4 (.bools c_s)),(5,.row false ty5 (.ints .i64 c_y))]=>some (Flow21_r ⟨p_m,⟨p_s,p_a⟩,p_S,p_T⟩ ⟨c_k,c_f,c_p,c_s,c_y⟩)
 | _,_=>none
def Flow21_an (p:ProbD) (c:Cert):List (Nat × Ann):=[]
def Flow21_A:List SV->z0e->List (Nat × Ann):=fun _ _=>[]
def Flow21_g:z0c:=[(toldF_n,(false,toldF_spec))]
abbrev Flow21_n:Nat:=26
def Flow21_I (p:ProbD) (c:Cert):List (Nat × z09):=[]
def Flow21_IA:List SV->z0e->List (Nat × z09):=fun _ _=>[]
def side1_r (c:Cert) (p:ProbD):FRes:={ pre:=0 <= p.t/\p.t<c.pot.length/\c.pot.length <= 1000000,res:=.row 8,rows:=[.row 4 (.bools (z90 p c))],eff:=[] }
def side1_fs:FS:=fun args h=>match args,h with
 | [.ptr 0 0 0 0,.ptr 5 0 0 0],[(0,.box false 31 [.int .i64 c_k,.row 1,.row 2,.row 3,.row 4]),(1,.row false ty1 (.ints .i64 c_f)),(2,.row false ty2 (.ints .i64 c_p)),(3,.row false ty3 (.bools c_s)),(4,.row false ty4 (.ints .i64 c_y)),(5,.box false 27 [.bool p_m,.row 6,.row 7,.int .i64 p_S,.int .i64 p_T]),(6,.row false ty6 (.ints .i64 p_s)),(7,.row false ty7 (.arcs p_a))]=>some (side1_r ⟨c_k,c_f,c_p,c_s,c_y⟩ ⟨p_m,⟨p_s,p_a⟩,p_S,p_T⟩)
 | _,_=>none
def side1_an (c:Cert) (p:ProbD):List (Nat × Ann):=[(3,{ G:=(Nat),inv:=fun k=>⟨[(0,.ptr 0 0 0 0),(1,.ptr 5 0 0 0),(3,.row 9),(11,.row 2),(12,.int .i64 (↑c.pot.length:Int)),(13,.int .i64 k)],[(9,.row true 4 (.bools ((List.range c.pot.length).map fun v=>decide (v<k) && decide (c.pot.getD p.t.toNat 0<c.pot.getD v 0)))),(0,.box false 31 [.int .i64 c.kind,.row 1,.row 2,.row 3,.row 4]),(1,.row false 0 (.ints .i64 c.flow)),(2,.row false 0 (.ints .i64 c.pot)),(3,.row false 0 (.bools c.side)),(4,.row false 0 (.ints .i64 c.cycle)),(5,.box false 27 [.bool p.most,.row 6,.row 7,.int .i64 p.s,.int .i64 p.t]),(6,.row false 0 (.ints .i64 p.inst.sup)),(7,.row false 0 (.arcs p.inst.arcs))],10⟩,rel:=fun k0 k=>k <= c.pot.length,meas:=fun k=>c.pot.length - k })]
def side1_A:List SV->z0e->List (Nat × Ann):=fun args h=>match args,h with
 | [.ptr 0 0 0 0,.ptr 5 0 0 0],[(0,.box false 31 [.int .i64 c_k,.row 1,.row 2,.row 3,.row 4]),(1,.row false ty1 (.ints .i64 c_f)),(2,.row false ty2 (.ints .i64 c_p)),(3,.row false ty3 (.bools c_s)),(4,.row false ty4 (.ints .i64 c_y)),(5,.box false 27 [.bool p_m,.row 6,.row 7,.int .i64 p_S,.int .i64 p_T]),(6,.row false ty6 (.ints .i64 p_s)),(7,.row false ty7 (.arcs p_a))]=>side1_an ⟨c_k,c_f,c_p,c_s,c_y⟩ ⟨p_m,⟨p_s,p_a⟩,p_S,p_T⟩
 | _,_=>[]
def side1_g:z0c:=[]
abbrev side1_n:Nat:=53
def side1_I (c:Cert) (p:ProbD):List (Nat × z09):=[]
def side1_IA:List SV->z0e->List (Nat × z09):=fun _ _=>[]
abbrev toldS_n:Nat:=52
def toldS_g:z0c:=[(Of21_n,(true,z02 true zbu)),(Check_n,(true,z02 true zcu)),(side1_n,(true,z02 true side1_fs))]
def toldS_spec:Vc.Spec:=z2c TT toldS_g (fun _ _ _=>[]) Tryz.f52
def Side21_r (p:ProbD) (c:Cert):FRes:={ pre:=z1b c,res:=.tup [.row 6,.bool (z1t p c)],rows:=[.row 4 (.bools (z63 p c))],eff:=[] }
def zja:FS:=fun args h=>match args,h with
 | [.agg [.bool p_m,.row 0,.row 1,.int .i64 p_S,.int .i64 p_T],.agg [.int .i64 c_k,.row 2,.row 3,.row 4,.row 5]],[(0,.row false ty0 (.ints .i64 p_s)),(1,.row false ty1 (.arcs p_a)),(2,.row false ty2 (.ints .i64 c_f)),(3,.row false ty3 (.ints .i64 c_p)),(4,.row false ty4 (.bools c_s)),(5,.row false ty5 (.ints .i64 c_y))]=>some (Side21_r ⟨p_m,⟨p_s,p_a⟩,p_S,p_T⟩ ⟨c_k,c_f,c_p,c_s,c_y⟩)
 | _,_=>none
def Side21_an (p:ProbD) (c:Cert):List (Nat × Ann):=[]
def Side21_A:List SV->z0e->List (Nat × Ann):=fun _ _=>[]
def Side21_g:z0c:=[(toldS_n,(false,toldS_spec))]
abbrev Side21_n:Nat:=23
def Side21_I (p:ProbD) (c:Cert):List (Nat × z09):=[]
def Side21_IA:List SV->z0e->List (Nat × z09):=fun _ _=>[]
def zf3 (p:ProbD) (S:List Bool):FRes:={ pre:=S.length <= 1000000,res:=.tup [.agg (z1f (z8o (z6u p S))),.bool ((z6u p S).isSome)],rows:=[],eff:=[] }
def zc0:FS:=fun args h=>match args,h with
 | [.agg [.bool p_m,.row 0,.row 1,.int .i64 p_S,.int .i64 p_T],.row 2],[(0,.row false ty0 (.ints .i64 p_s)),(1,.row false ty1 (.arcs p_a)),(2,.row false ty2 (.bools S))]=>some (zf3 ⟨p_m,⟨p_s,p_a⟩,p_S,p_T⟩ S)
 | _,_=>none
def zbz (p:ProbD) (S:List Bool):List (Nat × Ann):=[(8,{ G:=(Nat) × (Int),inv:=fun ⟨k,s⟩=>⟨[(1,.row 2),(4,.ptr 4 0 0 0),(8,.ptr 10 0 0 0),(45,.row 1),(46,.int .i64 (↑p.inst.arcs.length:Int)),(47,.int .i64 k)],[(10,.box true 54 (z1f (W s))),(4,.box true 54 [.int .i64 (0:Int),.int .u64 (0:Int)]),(1,.row false 0 (.arcs p.inst.arcs)),(2,.row false 0 (.bools S))],11⟩,rel:=fun ⟨k0,s0⟩ ⟨k,s⟩=>k <= p.inst.arcs.length/\z11 p.inst.sup.length S (p.inst.arcs.drop k) s=z36 p.inst S,meas:=fun ⟨k,s⟩=>p.inst.arcs.length - k })]
def Weight21_A:List SV->z0e->List (Nat × Ann):=fun args h=>match args,h with
 | [.agg [.bool p_m,.row 0,.row 1,.int .i64 p_S,.int .i64 p_T],.row 2],[(0,.row false ty0 (.ints .i64 p_s)),(1,.row false ty1 (.arcs p_a)),(2,.row false ty2 (.bools S))]=>zbz ⟨p_m,⟨p_s,p_a⟩,p_S,p_T⟩ S
 | _,_=>[]
def zf2:z0c:=[(Of21_n,(true,z02 true zbu)),(Of_n,(true,z02 true zcy)),(zgy,(true,z02 true z82))]
abbrev Weight21_n:Nat:=21
def Weight21_I (p:ProbD) (S:List Bool):List (Nat × z09):=[]
def Weight21_IA:List SV->z0e->List (Nat × z09):=fun _ _=>[]
end Go.Proofs.YtapeenpimcffpaaGreat
end
