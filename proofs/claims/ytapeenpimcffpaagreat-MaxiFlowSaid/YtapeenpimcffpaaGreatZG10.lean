/- Part of the proof: Solve2, Solve3, Solve4, Solve5, Solve6, Solve7, Solve8, Solve9. -/
import Derived.Test.YtapeenpimcffpaaGreatZG9
set_option linter.all false
set_option linter.unusedSimpArgs false
set_option linter.unusedVariables false
section
namespace Go.Ql
open Go Go.Vc
theorem zlt:∀ (n:Nat) (l:List Nat),l.Nodup->(∀ x ∈ l,x<n)->l.length <= n
 | 0,l,_,h=>by
  cases l with
  | nil=>exact Nat.le_refl _
  | cons x l=>exact absurd (h x (by simp)) (Nat.not_lt_zero _)
 | n+1,l,hn,h=>by
  have h1:(l.filter (fun x=>decide (x ≠ n))).length <= n:=zlt n _ (List.Pairwise.filter _ hn) fun x hx=>by
   rw [List.mem_filter,decide_eq_true_eq] at hx
   have:=h x hx.1; omega
  have h2:l.length <= (l.filter (fun x=>decide (x ≠ n))).length+1:=by
   clear h h1
   induction l with
   | nil=>simp
   | cons x l ih =>
    rw [List.nodup_cons] at hn
    rw [List.filter_cons]
    by_cases e:x=n
    ·subst e
     have:l.filter (fun y=>decide (y ≠ x))=l:=List.filter_eq_self.2 fun y hy=>decide_eq_true fun e=>hn.1 (e ▸ hy)
     rw [if_neg (by simp),this,List.length_cons]
     exact Nat.le_refl _
    ·have:=ih hn.2
     rw [if_pos (decide_eq_true e),List.length_cons,List.length_cons]
     omega
  omega
theorem pigeon {n:Nat} (f:Nat->Nat) (h:∀ i,i <= n->f i<n):∃ i j,i<j/\j <= n/\f i=f j:=by
 apply Classical.byContradiction
 intro hno
 have hn:((List.range (n+1)).map f).Nodup:=by
  rw [List.nodup_iff_pairwise_ne,List.pairwise_map]
  refine List.pairwise_iff_getElem.2 fun i j hi hj hij=>?_
  rw [List.getElem_range,List.getElem_range]
  rw [List.length_range] at hj
  exact fun e=>hno ⟨i,j,hij,by omega,e⟩
 have:=zlt n _ hn fun x hx=>by
  obtain ⟨i,hi,rfl⟩:=List.mem_map.1 hx
  rw [List.mem_range] at hi
  exact h i (by omega)
 rw [List.length_map,List.length_range] at this
 omega
structure BF (I:Inst) (cnt:Stp->Bool) (start:Nat->Bool) (r:Nat) (done:Stp->Bool) (d:Nat->Option Int) (b:Nat->Option Stp) (e:Option Nat) (τ T:Nat->Nat) (t:Nat):Prop where
 st:∀ v,v<I.sup.length->start v=true->∃ c,d v=some c/\c <= 0
 no:∀ v,v<I.sup.length->b v=none->∀ c,d v=some c->start v=true/\c=0
 un:∀ v,d v=none->b v=none
 by_:∀ v s,v<I.sup.length->b v=some s->okS I s/\cnt s=true/\toS I s=v/\∃ c u,d v=some c/\d (frS I s)=some u/\u+csS I s <= c/\(T v <= T (frS I s)->u+csS I s<c)
 rd:∀ v s,v<I.sup.length->b v=some s->1 <= τ v/\τ v <= τ (frS I s)+1
 r0:∀ v,b v=none->τ v=0
 rl:∀ v,τ v <= r
 la:∀ v,e=some v->v<I.sup.length/\τ v=r/\1 <= r
 le:e=none->∀ v,τ v=r->r=0
 ok:∀ s,okS I s->cnt s=true->∀ u,d (frS I s)=some u->τ (frS I s)<(if done s then r else r - 1)->∃ c,d (toS I s)=some c/\c <= u+csS I s
 cl:∀ v,T v<t
theorem BF.pass {I:Inst} {cnt:Stp->Bool} {start:Nat->Bool} {r:Nat} {done done':Stp->Bool} {d:Nat->Option Int} {b:Nat->Option Stp} {e:Option Nat} {τ T:Nat->Nat} {t:Nat} {s:Stp} (h:BF I cnt start r done d b e τ T t)
    (hd:∀ s',done' s'=(done s' || decide (s'=s))) (hs:cnt s=true->∀ u,d (frS I s)=some u->∃ c,d (toS I s)=some c/\c <= u+csS I s):BF I cnt start r done' d b e τ T t :=
  { h with
    ok:=fun s' h1 h2 u hu h3=>by
      by_cases es:s'=s
      · subst es; exact hs h2 u hu
      · rw [hd,decide_eq_false es,Bool.or_false] at h3
        exact h.ok s' h1 h2 u hu h3 }
theorem BF.take {I:Inst} (hr:z05 I=0) {cnt:Stp->Bool} {start:Nat->Bool} {r:Nat} {done done':Stp->Bool} {d:Nat->Option Int} {b:Nat->Option Stp} {e:Option Nat} {τ T:Nat->Nat} {t:Nat} {s:Stp} (h:BF I cnt start r done d b e τ T t)
  (hd:∀ s',done' s'=(done s' || decide (s'=s))) (h1:1 <= r) (hsk:okS I s) (hc:cnt s=true) (hnd:done s=false) {u:Int} (hu:d (frS I s)=some u) (hless:∀ c,d (toS I s)=some c->u+csS I s<c) :
  ∃ τ' T':Nat->Nat,BF I cnt start r done' (fun v=>if v=toS I s then some (u+csS I s) else d v) (fun v=>if v=toS I s then some s else b v) (some (toS I s)) τ' T' (t+1):=by
 have hto:=z5s hr hsk
 have hfr:=z31 hr hsk
 have hτ:r - 1 <= τ (frS I s):=by
  apply Nat.le_of_not_lt
  intro hlt
  obtain ⟨c,h2,h3⟩:=h.ok s hsk hc u hu (by rw [hnd]; exact hlt)
  have:=hless c h2; omega
 refine ⟨fun v=>if v=toS I s then r else τ v,fun v=>if v=toS I s then t else T v,?_⟩
 constructor
 ·intro v hv hst
  by_cases ev:v=toS I s
  ·rw [if_pos ev]
   subst ev
   obtain ⟨c,h2,h3⟩:=h.st _ hv hst
   exact ⟨_,rfl,by have:=hless c h2; omega⟩
  ·rw [if_neg ev]; exact h.st v hv hst
 ·intro v hv hb c hdv
  by_cases ev:v=toS I s
  ·rw [if_pos ev] at hb; cases hb
  ·rw [if_neg ev] at hb hdv; exact h.no v hv hb c hdv
 ·intro v hdv
  by_cases ev:v=toS I s
  ·rw [if_pos ev] at hdv; cases hdv
  ·rw [if_neg ev] at hdv ⊢; exact h.un v hdv
 ·intro v s' hv hb
  by_cases ev:v=toS I s
  ·rw [if_pos ev] at hb
   cases hb
   refine ⟨hsk,hc,ev.symm,u+csS I s,?_⟩
   rw [if_pos ev]
   by_cases ef:frS I s=toS I s
   ·rw [if_pos ef,if_pos ef,if_pos ev]
    have:=hless u (by rw [<- ef]; exact hu)
    exact ⟨u+csS I s,rfl,rfl,by omega,fun _=>by omega⟩
   ·rw [if_neg ef,if_neg ef,if_pos ev]
    exact ⟨u,rfl,hu,Int.le_refl _,fun hT=>by have:=h.cl (frS I s); omega⟩
  ·rw [if_neg ev] at hb
   obtain ⟨p1,p2,p3,c,u',p4,p5,p6,p7⟩:=h.by_ v s' hv hb
   rw [if_neg ev,if_neg ev]
   refine ⟨p1,p2,p3,c,?_⟩
   by_cases ef:frS I s'=toS I s
   ·rw [if_pos ef,if_pos ef]
    have:=hless u' (by rw [<- ef]; exact p5)
    exact ⟨u+csS I s,p4,rfl,by omega,fun _=>by omega⟩
   ·rw [if_neg ef,if_neg ef]
    exact ⟨u',p4,p5,p6,p7⟩
 ·intro v s' hv hb
  by_cases ev:v=toS I s
  ·rw [if_pos ev] at hb
   cases hb
   rw [if_pos ev]
   by_cases ef:frS I s=toS I s
   ·rw [if_pos ef]; omega
   ·rw [if_neg ef]; omega
  ·rw [if_neg ev] at hb
   obtain ⟨p1,p2⟩:=h.rd v s' hv hb
   rw [if_neg ev]
   by_cases ef:frS I s'=toS I s
   ·rw [if_pos ef]; have:=h.rl v; omega
   ·rw [if_neg ef]; exact ⟨p1,p2⟩
 ·intro v hb
  by_cases ev:v=toS I s
  ·rw [if_pos ev] at hb; cases hb
  ·rw [if_neg ev] at hb ⊢; exact h.r0 v hb
 ·intro v
  split
  ·exact Nat.le_refl _
  ·exact h.rl v
 ·intro v ev
  cases ev
  exact ⟨hto,by simp,h1⟩
 ·intro ev; cases ev
 ·intro s' h2 h3 w hw h4
  by_cases ef:frS I s'=toS I s
  ·rw [if_pos ef] at h4
   split at h4 <;> omega
  ·rw [if_neg ef] at hw h4
   by_cases es:s'=s
   ·subst es
    rw [if_pos rfl]
    rw [hu] at hw; cases hw
    exact ⟨_,rfl,Int.le_refl _⟩
   ·rw [hd,decide_eq_false es,Bool.or_false] at h4
    obtain ⟨c,p1,p2⟩:=h.ok s' h2 h3 w hw h4
    by_cases et:toS I s'=toS I s
    ·rw [if_pos et]
     have:=hless c (by rw [<- et]; exact p1)
     exact ⟨_,rfl,by omega⟩
    ·rw [if_neg et]; exact ⟨c,p1,p2⟩
 ·intro v
  split
  ·exact Nat.lt_succ_self _
  ·have:=h.cl v; omega
theorem BF.next {I:Inst} {cnt:Stp->Bool} {start:Nat->Bool} {r:Nat} {done done':Stp->Bool} {d:Nat->Option Int} {b:Nat->Option Stp} {e:Option Nat} {τ T:Nat->Nat} {t:Nat} (h:BF I cnt start r done d b e τ T t)
    (hd:∀ s,okS I s->done s=true) (hd':∀ s,done' s=false):BF I cnt start (r+1) done' d b none τ T t :=
  { h with
    rl:=fun v=>Nat.le_succ_of_le (h.rl v)
    la:=fun v ev=>by cases ev
    le:=fun _ v hv=>by have:=h.rl v; omega
    ok:=fun s h1 h2 u hu h3=>h.ok s h1 h2 u hu (by rw [hd s h1]; rw [hd'] at h3; simpa using h3) }
theorem BF.zero {I:Inst} (cnt:Stp->Bool) (start:Nat->Bool) (done:Stp->Bool) {d:Nat->Option Int} (hd:∀ v,v<I.sup.length->d v=if start v then some 0 else none):BF I cnt start 0 done d (fun _=>none) none (fun _=>0) (fun _=>0) 1 where
 st:=fun v hv hs=>⟨0,by rw [hd v hv,if_pos hs],Int.le_refl _⟩
 no:=fun v hv _ c hc=>by
  rw [hd v hv] at hc
  split at hc
  ·rename_i hs; cases hc; exact ⟨hs,rfl⟩
  ·cases hc
 un:=fun _ _=>rfl
 by_:=fun _ _ _ h=>by cases h
 rd:=fun _ _ _ h=>by cases h
 r0:=fun _ _=>rfl
 rl:=fun _=>Nat.le_refl _
 la:=fun _ h=>by cases h
 le:=fun _ _ _=>rfl
 ok:=fun s _ _ u _ h=>by split at h <;> omega
 cl:=fun _=>Nat.zero_lt_one
theorem BF.end_ {I:Inst} {cnt:Stp->Bool} {start:Nat->Bool} {r:Nat} {done:Stp->Bool} {d:Nat->Option Int} {b:Nat->Option Stp} {τ T:Nat->Nat} {t:Nat} (h:BF I cnt start r done d b none τ T t) (h1:1 <= r)
  (hd:∀ s,okS I s->done s=true):∀ s,okS I s->cnt s=true->∀ u,d (frS I s)=some u->∃ c,d (toS I s)=some c/\c <= u+csS I s:=fun s h2 h3 u hu =>
 h.ok s h2 h3 u hu (by
  rw [hd s h2,if_pos rfl]
  have:=h.rl (frS I s)
  by_cases e:τ (frS I s)=r
  ·have:=h.le rfl _ e; omega
  ·omega)
def z0n (I:Inst) (b:Nat->Option Stp) (v:Nat):Nat->Nat
 | 0=>v
 | k+1=>match b (z0n I b v k) with
  | some s=>frS I s
  | none=>z0n I b v k
def z8z (I:Inst) (b:Nat->Option Stp) (v:Nat):Nat->Int
 | 0=>0
 | k+1=>z8z I b v k+(match b (z0n I b v k) with
  | some s=>csS I s
  | none=>0)
theorem z3a (I:Inst) (b:Nat->Option Stp) (v:Nat) (i:Nat):∀ k,z0n I b v (i+k)=z0n I b (z0n I b v i) k
 | 0=>rfl
 | k+1=>by rw [<- Nat.add_assoc,z0n,z0n,z3a I b v i k]
theorem z60 {I:Inst} (hr:z05 I=0) {b:Nat->Option Stp} (hb:∀ v s,v<I.sup.length->b v=some s->okS I s) {v:Nat} (hv:v<I.sup.length):∀ k,z0n I b v k<I.sup.length
 | 0=>hv
 | k+1=>by
  rw [z0n]
  split
  ·rename_i s hs; exact z31 hr (hb _ s (z60 hr hb hv k) hs)
  ·exact z60 hr hb hv k
theorem BF.back {I:Inst} (hr:z05 I=0) {cnt:Stp->Bool} {start:Nat->Bool} {r:Nat} {done:Stp->Bool} {d:Nat->Option Int} {b:Nat->Option Stp} {e:Option Nat} {τ T:Nat->Nat} {t:Nat} (h:BF I cnt start r done d b e τ T t) {v:Nat} (hv:v<I.sup.length) {c0:Int} (h0:d v=some c0) :
  ∀ k,(∀ i,i<k->∃ s,b (z0n I b v i)=some s)->∃ c,d (z0n I b v k)=some c/\c+z8z I b v k <= c0/\(c+z8z I b v k=c0->∀ i,i<k->T (z0n I b v (i+1))<T (z0n I b v i))
 | 0,_=>⟨c0,h0,by rw [z8z]; omega,fun _ i hi=>absurd hi (Nat.not_lt_zero _)⟩
 | k+1,hk=>by
  obtain ⟨c,p1,p2,p3⟩:=BF.back hr h hv h0 k fun i hi=>hk i (by omega)
  obtain ⟨s,hs⟩:=hk k (by omega)
  have hlt:=z60 hr (fun v s hv hb=>(h.by_ v s hv hb).1) hv k
  obtain ⟨q1,q2,q3,c',u,q4,q5,q6,q7⟩:=h.by_ _ s hlt hs
  rw [p1] at q4; cases q4
  have en:z0n I b v (k+1)=frS I s:=by rw [z0n,hs]
  have ec:z8z I b v (k+1)=z8z I b v k+csS I s:=by rw [z8z,hs]
  rw [en,ec]
  refine ⟨u,q5,by omega,fun heq i hi=>?_⟩
  by_cases ei:i=k
  ·subst ei
   rw [en]
   apply Nat.lt_of_not_le
   intro hle
   have:=q7 hle; omega
  ·exact p3 (by omega) i (by omega)
theorem BF.cycle {I:Inst} (hr:z05 I=0) {cnt:Stp->Bool} {start:Nat->Bool} {r:Nat} {done:Stp->Bool} {d:Nat->Option Int} {b:Nat->Option Stp} {e:Option Nat} {τ T:Nat->Nat} {t:Nat} (h:BF I cnt start r done d b e τ T t) {v k:Nat} (hv:v<I.sup.length) (hk:1 <= k)
  (hs:∀ i,i<k->∃ s,b (z0n I b v i)=some s) (hc:z0n I b v k=v):z8z I b v k<0:=by
 obtain ⟨s,hs0⟩:=hs 0 (by omega)
 obtain ⟨-,-,-,c0,u,h0,-⟩:=h.by_ v s hv hs0
 obtain ⟨c,p1,p2,p3⟩:=h.back hr hv h0 k hs
 rw [hc,h0] at p1; cases p1
 apply Classical.byContradiction
 intro hn
 have hlt:=p3 (by omega)
 have:∀ j,j <= k->T (z0n I b v j)+j <= T v:=by
  intro j
  induction j with
  | zero=>intro _; exact Nat.le_refl _
  | succ j ih =>
   intro hj
   have:=ih (by omega)
   have:=hlt j (by omega)
   omega
 have:=this k (Nat.le_refl _)
 rw [hc] at this
 omega
theorem BF.long {I:Inst} (hr:z05 I=0) {cnt:Stp->Bool} {start:Nat->Bool} {r:Nat} {done:Stp->Bool} {d:Nat->Option Int} {b:Nat->Option Stp} {e:Option Nat} {τ T:Nat->Nat} {t:Nat} (h:BF I cnt start r done d b e τ T t) {v:Nat} (he:e=some v) :
  ∀ k,k<r->(∃ s,b (z0n I b v k)=some s)/\r - k <= τ (z0n I b v k)
 | 0,hk=>by
  obtain ⟨h1,h2,h3⟩:=h.la v he
  refine ⟨?_,by simp only [z0n]; omega⟩
  show ∃ s,b v=some s
  cases hb:b v with
  | none=>have:=h.r0 v hb; omega
  | some s=>exact ⟨s,rfl⟩
 | k+1,hk=>by
  obtain ⟨⟨s,hs⟩,h2⟩:=BF.long hr h he k (by omega)
  have hlt:=z60 hr (fun v s hv hb=>(h.by_ v s hv hb).1) (h.la v he).1 k
  have:=(h.rd _ s hlt hs).2
  have en:z0n I b v (k+1)=frS I s:=by rw [z0n,hs]
  rw [en]
  refine ⟨?_,by omega⟩
  cases hb:b (frS I s) with
  | none=>have:=h.r0 _ hb; omega
  | some s'=>exact ⟨s',rfl⟩
end Go.Ql
end
section
namespace Go.Ql
open Go Go.Vc
def z64 (s:Stp):List Int:=[(s.1:Int),bif s.2 then 1 else 0]
def mbS:Option Stp->List Int
 | some s=>[(s.1:Int),bif s.2 then 1 else 0,1]
 | none=>[0,0,0]
def mbI:Option Int->List Int
 | some c=>[c,1]
 | none=>[0,0]
def z0j (n:Nat) (b:Nat->Option Stp):List (List Int):=(List.range n).map fun v=>mbS (b v)
def z0k (n:Nat) (d:Nat->Option Int):List (List Int):=(List.range n).map fun v=>mbI (d v)
def unS (l:List Int):Option Stp:=if l.getD 2 0=1 then some ((l.getD 0 0).toNat,decide (l.getD 1 0=1)) else none
def bOf (by_:List (List Int)) (v:Nat):Option Stp:=unS (by_.getD v [])
theorem unS_mbS (o:Option Stp):unS (mbS o)=o:=by
 cases o with
 | none=>rfl
 | some s=>obtain ⟨a,k⟩:=s; cases k <;> simp [unS,mbS]
theorem z86 (n:Nat) (b:Nat->Option Stp):(z0j n b).length=n:=by simp [z0j]
theorem z72 (n:Nat) (d:Nat->Option Int):(z0k n d).length=n:=by simp [z0k]
theorem bRow_get {n v:Nat} {b:Nat->Option Stp} {y:List Int} (h:(z0j n b)[v]? = some y):v<n/\y=mbS (b v):=z19 h
theorem z1z {n v:Nat} {d:Nat->Option Int} {y:List Int} (h:(z0k n d)[v]? = some y):v<n/\y=mbI (d v):=z19 h
theorem bOf_row {n v:Nat} (b:Nat->Option Stp) (hv:v<n):bOf (z0j n b) v=b v:=by
 unfold bOf z0j
 rw [List.getD_eq_getElem?_getD,List.getElem?_map,List.getElem?_range hv]
 exact unS_mbS _
theorem z5j (n v:Nat) (b:Nat->Option Stp) (s:Option Stp):(z0j n b).set v (mbS s)=z0j n (fun w=>if w=v then s else b w):=by
 unfold z0j
 rw [z1c]
 exact List.map_congr_left fun w _=>by dsimp only; split <;> rfl
theorem z45 (n v:Nat) (d:Nat->Option Int) (c:Option Int):(z0k n d).set v (mbI c)=z0k n (fun w=>if w=v then c else d w):=by
 unfold z0k
 rw [z1c]
 exact List.map_congr_left fun w _=>by dsimp only; split <;> rfl
theorem z99 (n:Nat):List.replicate n [0,0,0]=z0j n fun _=>none:=by
 unfold z0j
 apply List.ext_getElem?
 intro i
 by_cases h:i<n <;> simp [h,mbS]
theorem zd2 (n:Nat):List.replicate n [0,0]=z0k n fun _=>none:=by
 unfold z0k
 apply List.ext_getElem?
 intro i
 by_cases h:i<n <;> simp [h,mbI]
theorem zno {I:Inst} (hr:z05 I=0) {b b':Nat->Option Stp} (h:∀ v,v<I.sup.length->b v=b' v) (hok:∀ v s,v<I.sup.length->b v=some s->okS I s):∀ (f v:Nat),v<I.sup.length->z1y I b f v=z1y I b' f v/\z15 I b f v=z15 I b' f v
 | 0,v,_=>⟨rfl,rfl⟩
 | f+1,v,hv=>by
  rw [z1y,z1y,z15,z15,<- h v hv]
  cases hb:b v with
  | none=>exact ⟨rfl,rfl⟩
  | some s =>
   obtain ⟨i1,i2⟩:=zno hr h hok f (frS I s) (z31 hr (hok v s hv hb))
   dsimp only
   rw [i1,i2]; exact ⟨rfl,rfl⟩
theorem walk_take {I:Inst} {b:Nat->Option Stp}:∀ (j f v:Nat),j <= f->z1y I b j v=(z1y I b f v).take j
 | 0,f,v,_=>rfl
 | j+1,0,v,h=>by omega
 | j+1,f+1,v,h=>by
  rw [z1y,z1y]
  cases b v with
  | none=>rfl
  | some s=>dsimp only; rw [List.take_succ_cons,walk_take j f _ (by omega)]
theorem zml {I:Inst} {b:Nat->Option Stp}:∀ (k v:Nat),z15 I b (k+1) v=match b (z15 I b k v) with | some s=>frS I s | none=>z15 I b k v
 | 0,v=>by
  rw [z15]
  cases hb:b v with
  | none=>simp [z15,hb]
  | some s=>simp [z15,hb]
 | k+1,v=>by
  rw [z15]
  cases hb:b v with
  | none=>simp [z15,hb]
  | some s =>
   dsimp only
   rw [zml k (frS I s)]
   simp [z15,hb]
theorem walk_get {I:Inst} {b:Nat->Option Stp}:∀ (k f v:Nat),k<f->∀ s,b (z15 I b k v)=some s->k <= (z1y I b f v).length->(z1y I b f v)[k]? = some s
 | k,0,v,h,_,_,_=>by omega
 | 0,f+1,v,_,s,hs,_=>by rw [z1y]; simp only [z15] at hs; rw [hs]; rfl
 | k+1,f+1,v,h,s,hs,hl=>by
  rw [z1y] at hl ⊢
  rw [z15] at hs
  cases hb:b v with
  | none=>rw [hb] at hl; simp at hl
  | some t =>
   rw [hb] at hs hl
   dsimp only at hs hl ⊢
   rw [List.getElem?_cons_succ]
   exact walk_get k f _ (by omega) s hs (by rw [List.length_cons] at hl; omega)
theorem walk_stop {I:Inst} {b:Nat->Option Stp}:∀ (k f v:Nat),b (z15 I b k v)=none->(z1y I b f v).length <= k
 | k,0,v,_=>Nat.zero_le _
 | 0,f+1,v,h=>by simp only [z15] at h; rw [z1y,h]; exact Nat.le_refl _
 | k+1,f+1,v,h=>by
  rw [z1y]
  rw [z15] at h
  cases hb:b v with
  | none=>exact Nat.zero_le _
  | some t =>
   rw [hb] at h
   dsimp only at h ⊢
   rw [List.length_cons]
   exact Nat.succ_le_succ (walk_stop k f _ h)
theorem znq {I:Inst} {b:Nat->Option Stp}:∀ (f v:Nat),(z1y I b f v).length <= f
 | 0,v=>Nat.le_refl _
 | f+1,v=>by
  rw [z1y]
  cases b v with
  | none=>exact Nat.zero_le _
  | some s=>dsimp only; rw [List.length_cons]; exact Nat.succ_le_succ (znq f _)
theorem root_end {I:Inst} {b:Nat->Option Stp}:∀ (f v:Nat),z15 I b (z1y I b f v).length v=z15 I b f v
 | 0,v=>rfl
 | f+1,v=>by
  rw [z1y,z15]
  cases hb:b v with
  | none=>rfl
  | some s=>dsimp only; rw [List.length_cons,z15,hb]; exact root_end f _
def YB (x:List Int):Prop:=∀ y ∈ x,-144115188075855872 <= y/\y <= 144115188075855872
theorem YB.at {x:List Int} (h:YB x) (k:Nat):-144115188075855872 <= x.getD k 0/\x.getD k 0 <= 144115188075855872:=by
 rw [List.getD_eq_getElem?_getD]
 cases e:x[k]? with
 | none=>exact ⟨by decide,by decide⟩
 | some u=>exact h u (List.mem_of_getElem? e)
theorem YB.xb {x:List Int} (h:YB x):XB x:=fun y hy=>by have:=h y hy; omega
theorem xb_of {x:List Int} (h:∀ k,k<x.length->-288230376151711744 <= x.getD k 0/\x.getD k 0 <= 288230376151711744):XB x:=fun y hy=>by
 obtain ⟨k,hk⟩:=List.mem_iff_getElem?.1 hy
 have:=h k (List.getElem?_eq_some_iff.1 hk).1
 rwa [List.getD_eq_getElem?_getD,hk] at this
theorem yb_of {x:List Int} (h:∀ k,k<x.length->-144115188075855872 <= x.getD k 0/\x.getD k 0 <= 144115188075855872):YB x:=fun y hy=>by
 obtain ⟨k,hk⟩:=List.mem_iff_getElem?.1 hy
 have:=h k (List.getElem?_eq_some_iff.1 hk).1
 rwa [List.getD_eq_getElem?_getD,hk] at this
def alL (I:Inst) (by_:List (List Int)) (e:Int):List Stp:=z1y I (bOf by_) I.sup.length e.toNat
def alR (I:Inst) (by_:List (List Int)) (e:Int):Nat:=z15 I (bOf by_) I.sup.length e.toNat
def alU0 (I:Inst) (o:List Int) (by_:List (List Int)) (e:Int):Int:=min (o.getD (alR I by_ e) 0) (-(o.getD e.toNat 0))
def alU (I:Inst) (x o:List Int) (by_:List (List Int)) (e:Int):Int:=z77 I x (alU0 I o by_ e) (alL I by_ e)
structure AlOk (I:Inst) (x o:List Int) (by_:List (List Int)) (e:Int):Prop where
 right:z05 I=0
 lx:x.length=I.arcs.length
 lo:o.length=I.sup.length
 xb:YB x
 ob:YB o
 e0:0 <= e
 e1:e.toNat<I.sup.length
 tree:∃ b ρ,by_=z0j I.sup.length b/\Tree I b ρ/\∀ v,v<I.sup.length->ρ v<I.sup.length
 pos:0 <= alU I x o by_ e
namespace AlOk
variable {I:Inst} {x o:List Int} {by_:List (List Int)} {e:Int} (h:AlOk I x o by_ e)
include h
theorem tree':∃ ρ,Tree I (bOf by_) ρ/\∀ v,v<I.sup.length->ρ v<I.sup.length:=by
 obtain ⟨b,ρ,rfl,h1,h2⟩:=h.tree
 exact ⟨ρ,fun v s hv hs=>h1 v s hv (by rw [<- bOf_row b hv]; exact hs),h2⟩
theorem stop:bOf by_ (alR I by_ e)=none/\alR I by_ e<I.sup.length:=by
 obtain ⟨ρ,h1,h2⟩:=h.tree'
 obtain ⟨-,-,h3,h4⟩:=zem h.right h1 I.sup.length e.toNat h.e1 (h2 _ h.e1)
 exact ⟨h3,h4⟩
theorem mem:∀ s ∈ alL I by_ e,okS I s:=fun s hs=>by
 obtain ⟨ρ,h1,h2⟩:=h.tree'
 exact (zel h.right h1 _ _ h.e1 s hs).1
theorem ub:alU I x o by_ e <= 144115188075855872:=by
 have h1:=(znn (I:=I) (x:=x) (alL I by_ e) (alU0 I o by_ e)).1
 have h2:=h.ob.at (alR I by_ e)
 unfold alU
 have h3:alU0 I o by_ e <= o.getD (alR I by_ e) 0:=by unfold alU0; omega
 omega
theorem xj (j:Nat):XB (z2r x ((alL I by_ e).take j) (alU I x o by_ e)):=by
 obtain ⟨ρ,h1,h2⟩:=h.tree'
 have hn:=znp h.right h1 I.sup.length e.toNat h.e1
 have hu:=h.ub
 have hp:=h.pos
 refine xb_of fun k hk=>?_
 have hb:=h.xb.at k
 rw [zdk (by rw [List.map_take]; exact List.Nodup.sublist (List.take_sublist _ _) hn) (fun s hs=>by rw [h.lx]; exact h.mem s (List.mem_of_mem_take hs))]
 repeat' split <;> omega
theorem root_lt (j:Nat):z15 I (bOf by_) j e.toNat<I.sup.length:=by
 obtain ⟨ρ,h1,h2⟩:=h.tree'
 induction j with
 | zero=>exact h.e1
 | succ j ih =>
  rw [zml]
  split
  ·rename_i s hs; exact z31 h.right (h1 _ s ih hs).1
  ·exact ih
theorem oj (j:Nat) (hj:j <= I.sup.length):(z20 I o ((alL I by_ e).take j) (alU I x o by_ e)).length=I.sup.length/\XB (z20 I o ((alL I by_ e).take j) (alU I x o by_ e)):=by
 obtain ⟨ρ,h1,h2⟩:=h.tree'
 have hu:=h.ub
 have hp:=h.pos
 refine ⟨by rw [zga,h.lo],xb_of fun k hk=>?_⟩
 have hb:=h.ob.at k
 rw [zga,h.lo] at hk
 have:(alL I by_ e).take j=z1y I (bOf by_) j e.toNat:=(walk_take j _ _ hj).symm
 rw [this,zma h.right h1 j e.toNat o h.e1 h.lo k hk]
 repeat' split <;> omega
end AlOk
theorem pushXs_snoc (x:List Int) (l:List Stp) (s:Stp) (u:Int):z2r x (l ++ [s]) u=z4w (z2r x l u) s u:=by unfold z2r; rw [List.foldl_append]; rfl
theorem pushOs_snoc (I:Inst) (o:List Int) (l:List Stp) (s:Stp) (u:Int):z20 I o (l ++ [s]) u=z6x I (z20 I o l u) s u:=by unfold z20; rw [List.foldl_append]; rfl
theorem unitsF_snoc (I:Inst) (x:List Int) (u:Int) (l:List Stp) (s:Stp):z77 I x u (l ++ [s])=min (z77 I x u l) (rmS I x s):=by unfold z77; rw [List.foldl_append]; rfl
def DB (I:Inst) (d:Nat->Option Int) (q:Nat):Prop:=∀ C:Int,0 <= C->(∀ s,okS I s->-C <= csS I s/\csS I s <= C)->∀ v c,d v=some c->-(C * (q:Int)) <= c/\c <= C * (q:Int)
def SInv (I:Inst) (cnt:Stp->Bool) (start:Nat->Bool) (r:Nat) (done:Stp->Bool) (q:Nat) (d:Nat->Option Int) (b:Nat->Option Stp) (e:Option Nat):Prop :=
 (∃ τ T t,BF I cnt start r done d b e τ T t)/\DB I d q
def allD:Stp->Bool:=fun _=>true
def z1k (a j:Nat) (s:Stp):Bool:=decide (s.1<a) || (decide (s.1=a) && decide ((bif s.2 then 1 else 0)<j))
theorem DB.more {I:Inst} {d:Nat->Option Int} {q q':Nat} (h:DB I d q) (hq:q <= q'):DB I d q':=fun C h0 hC v c hc=>by
 have h1:=h C h0 hC v c hc
 have h2:C * (q:Int) <= C * (q':Int):=Int.mul_le_mul_of_nonneg_left (by omega) h0
 omega
theorem DB.big {I:Inst} {d:Nat->Option Int} {q q':Nat} (h:DB I d q) (hr:z05 I=0) (hq:q <= q'):∀ v c,d v=some c->-(4398046511104 * (q':Int)) <= c/\c <= 4398046511104 * (q':Int) :=
 (h.more hq) 4398046511104 (by omega) (fun s hs=>zh2 hr hs)
theorem zal (a:Nat) (k:Bool) (s:Stp):z1k a ((bif k then 1 else 0)+1) s=(z1k a (bif k then 1 else 0) s || decide (s=(a,k))):=by
 obtain ⟨c,k'⟩:=s
 unfold z1k
 dsimp only
 rw [Bool.eq_iff_iff]
 simp only [Bool.or_eq_true,Bool.and_eq_true,decide_eq_true_eq,Prod.mk.injEq]
 cases k <;> cases k' <;> simp <;> omega
theorem z9f (a:Nat) (s:Stp):z1k a 2 s=z1k (a+1) 0 s:=by
 obtain ⟨c,k'⟩:=s
 unfold z1k
 dsimp only
 rw [Bool.eq_iff_iff]
 simp only [Bool.or_eq_true,Bool.and_eq_true,decide_eq_true_eq]
 cases k' <;> simp <;> omega
theorem doneJ_zero (s:Stp):z1k 0 0 s=false:=by
 unfold z1k
 simp
theorem doneJ_self (a:Nat) (k:Bool):z1k a (bif k then 1 else 0) (a,k)=false:=by
 unfold z1k
 cases k <;> simp
theorem z4o {I:Inst} {s:Stp} (h:okS I s):z1k I.arcs.length 0 s=true:=by
 unfold z1k okS at *
 simp [h]
theorem SInv.congr {I:Inst} {cnt:Stp->Bool} {start:Nat->Bool} {r:Nat} {done done':Stp->Bool} {q q':Nat} {d:Nat->Option Int} {b:Nat->Option Stp} {e:Option Nat} (h:SInv I cnt start r done q d b e) (hd:∀ s,okS I s->done' s=true->done s=true) (hq:q <= q'):SInv I cnt start r done' q' d b e:=by
 obtain ⟨⟨τ,T,t,h1⟩,h2⟩:=h
 refine ⟨⟨τ,T,t,{ h1 with ok:=fun s a1 a2 u hu a3=>h1.ok s a1 a2 u hu ?_ }⟩,h2.more hq⟩
 cases hs:done' s with
 | true=>rw [hd s a1 hs]; rw [hs] at a3; exact a3
 | false =>
  rw [hs] at a3
  rw [if_neg Bool.false_ne_true] at a3
  split <;> omega
theorem SInv.pass {I:Inst} {cnt:Stp->Bool} {start:Nat->Bool} {r:Nat} {a q:Nat} {k:Bool} {d:Nat->Option Int} {b:Nat->Option Stp} {e:Option Nat} (h:SInv I cnt start r (z1k a (bif k then 1 else 0)) q d b e)
  (hs:cnt (a,k)=true->∀ u,d (frS I (a,k))=some u->∃ c,d (toS I (a,k))=some c/\c <= u+csS I (a,k)):SInv I cnt start r (z1k a ((bif k then 1 else 0)+1)) (q+1) d b e:=by
 obtain ⟨⟨τ,T,t,h1⟩,h2⟩:=h
 exact ⟨⟨τ,T,t,h1.pass (zal a k) hs⟩,h2.more (Nat.le_succ _)⟩
theorem SInv.take {I:Inst} (hr:z05 I=0) {cnt:Stp->Bool} {start:Nat->Bool} {r:Nat} {a q:Nat} {k:Bool} {d:Nat->Option Int} {b:Nat->Option Stp} {e:Option Nat} (h:SInv I cnt start r (z1k a (bif k then 1 else 0)) q d b e)
  (h1:1 <= r) (ha:a<I.arcs.length) (hc:cnt (a,k)=true) {u:Int} (hu:d (frS I (a,k))=some u) (hless:∀ c,d (toS I (a,k))=some c->u+csS I (a,k)<c) :
  SInv I cnt start r (z1k a ((bif k then 1 else 0)+1)) (q+1) (fun v=>if v=toS I (a,k) then some (u+csS I (a,k)) else d v) (fun v=>if v=toS I (a,k) then some (a,k) else b v) (some (toS I (a,k))):=by
 obtain ⟨⟨τ,T,t,h3⟩,h2⟩:=h
 obtain ⟨τ',T',h4⟩:=h3.take hr (zal a k) h1 (show okS I (a,k) from ha) hc (doneJ_self a k) hu hless
 refine ⟨⟨τ',T',t+1,h4⟩,fun C h0 hC v c hv=>?_⟩
 have hcs:=hC (a,k) ha
 have e:C * ((q+1:Nat):Int)=C * (q:Int)+C:=by rw [Int.natCast_succ,Int.mul_add,Int.mul_one]
 rw [e]
 dsimp only at hv
 split at hv
 ·cases hv
  have:=h2 C h0 hC _ _ hu
  omega
 ·have:=h2 C h0 hC v c hv; omega
theorem SInv.next {I:Inst} {cnt:Stp->Bool} {start:Nat->Bool} {r q:Nat} {d:Nat->Option Int} {b:Nat->Option Stp} {e:Option Nat} (h:SInv I cnt start r allD q d b e):SInv I cnt start (r+1) (z1k 0 0) q d b none:=by
 obtain ⟨⟨τ,T,t,h1⟩,h2⟩:=h
 exact ⟨⟨τ,T,t,h1.next (fun _ _=>rfl) doneJ_zero⟩,h2⟩
structure ShortP (I:Inst) (cnt:Stp->Bool) (start:Nat->Bool) (d:Nat->Option Int) (b:Nat->Option Stp) (e:Option Nat):Prop where
 inv:∃ r,SInv I cnt start r allD 32768 d b e/\(e=none->1 <= r ∨ I.sup.length=0)/\(∀ v,e=some v->r=I.sup.length)
theorem z4v {o:Option Int} (h:(mbI o).tail.headD 0=1):∃ c,o=some c:=by
 cases o with
 | none=>simp [mbI] at h
 | some c=>exact ⟨c,rfl⟩
theorem zde {o:Option Int} (h:¬ (mbI o).tail.headD 0=1):o=none:=by
 cases o with
 | none=>rfl
 | some c=>simp [mbI] at h
theorem SInv.begin (I:Inst) (cnt:Stp->Bool) (start:Nat->Bool) {k:Nat} (hk:I.sup.length <= k):SInv I cnt start 0 allD 0 (fun v=>if v<k/\start v=true then some 0 else none) (fun _=>none) none:=by
 refine ⟨⟨_,_,_,BF.zero cnt start allD fun v hv=>?_⟩,fun C h0 hC v c hc=>?_⟩
 ·by_cases hs:start v=true
  ·rw [if_pos ⟨by omega,hs⟩,if_pos hs]
  ·rw [if_neg (fun h=>hs h.2),if_neg hs]
 ·dsimp only at hc
  split at hc
  ·cases hc; simp
  ·cases hc
theorem z9u {r m a n:Nat} (hr:r<n) (hn:n <= 64) (hm:m <= 256) (ha:a <= m):r * (2 * m)+2 * a <= 32768:=by
 have:r * (2 * m) <= 63 * 512:=Nat.mul_le_mul (by omega) (by omega)
 omega
theorem zi5 {r m n:Nat} (hr:r <= n) (hn:n <= 64) (hm:m <= 256):r * (2 * m) <= 32768:=by
 have:r * (2 * m) <= 64 * 512:=Nat.mul_le_mul (by omega) (by omega)
 omega
end Go.Ql
end
section
namespace Go.Ql
open Go Go.Vc
theorem over_sum {I:Inst} (hr:z05 I=0) {x o:List Int} (h:OverOf I x o):z1m (fun v=>o.getD v 0) I.sup.length=0:=by
 have h1:z1m (fun v=>o.getD v 0) I.sup.length=z1m (fun v=>I.sup.getD v 0 - z52 I.sup.length I.arcs x I.arcs.length v) I.sup.length:=z16 h.at_
 rw [h1,za6,netK_sum,<- sum_sumTo,(z1n hr).2]; rfl
theorem posS_sum (o:List Int):∀ k,z1m (fun v=>o.getD v 0) k <= z4n o k
 | 0=>Int.le_refl _
 | k+1=>by have:=posS_sum o k; rw [z1m,z4n]; omega
theorem posS_low {o:List Int} {v:Nat}:∀ {k:Nat},v<k->z1m (fun v=>o.getD v 0) k - o.getD v 0 <= z4n o k
 | 0,h=>by omega
 | k+1,h=>by
  rw [z1m,z4n]
  by_cases e:v=k
  ·subst e; have:=posS_sum o v; omega
  ·have:=posS_low (o:=o) (v:=v) (k:=k) (by omega); omega
theorem over_bd {I:Inst} (hr:z05 I=0) {x o:List Int} (h:OverOf I x o) {v:Nat} (hv:v<I.sup.length):-(z4n o I.sup.length) <= o.getD v 0/\o.getD v 0 <= z4n o I.sup.length:=by
 have h1:=posS_low (o:=o) hv
 rw [over_sum hr h] at h1
 have h2:=posS_ge (o:=o) hv
 omega
theorem over_zero {I:Inst} (hr:z05 I=0) {x o:List Int} (h:OverOf I x o) (h0:∀ v,v<I.sup.length->o.getD v 0 <= 0):∀ v,v<I.sup.length->o.getD v 0=0:=fun v hv=>by
 have h1:=posS_low (o:=o) hv
 rw [over_sum hr h] at h1
 have h2:z4n o I.sup.length=0:=by
  have:∀ k,k <= I.sup.length->z4n o k=0:=by
   intro k
   induction k with
   | zero=>intro _; rfl
   | succ k ih=>intro hk; rw [z4n,ih (by omega)]; have:=h0 k (by omega); omega
  exact this _ (Nat.le_refl _)
 have:=h0 v hv
 omega
def z8y (I:Inst) (cnt:Stp->Bool) (π:Nat->Int):Prop:=∀ s,okS I s->cnt s=true->π (toS I s) <= π (frS I s)+csS I s
theorem pot_round {I:Inst} {cnt:Stp->Bool} {π:Nat->Int} (hp:z8y I cnt π) {b:Nat->Option Stp} (hb:∀ v s,v<I.sup.length->b v=some s->okS I s/\cnt s=true/\toS I s=v) (hr:z05 I=0) {v:Nat} (hv:v<I.sup.length) :
  ∀ k,(∀ i,i<k->∃ s,b (z0n I b v i)=some s)->π v <= π (z0n I b v k)+z8z I b v k
 | 0,_=>by rw [z8z]; simp only [z0n]; omega
 | k+1,h=>by
  have ih:=pot_round hp hb hr hv k fun i hi=>h i (by omega)
  obtain ⟨s,hs⟩:=h k (by omega)
  have hlt:=z60 hr (fun v s hv hs=>(hb v s hv hs).1) hv k
  obtain ⟨h1,h2,h3⟩:=hb _ s hlt hs
  have:=hp s h1 h2
  rw [h3] at this
  have en:z0n I b v (k+1)=frS I s:=by rw [z0n,hs]
  have ec:z8z I b v (k+1)=z8z I b v k+csS I s:=by rw [z8z,hs]
  rw [en,ec]; omega
def zce (I:Inst) (b:Nat->Option Stp):Nat->Nat->Nat
 | 0,_=>0
 | f+1,v=>match b v with
  | none=>0
  | some s=>zce I b f (frS I s)+1
theorem zk8 {I:Inst} {b:Nat->Option Stp} {v:Nat} {s:Stp} (h:b v=some s) (k:Nat):z0n I b v (k+1)=z0n I b (frS I s) k:=by
 have:=z3a I b v 1 k
 rw [show k+1=1+k by omega,this]
 congr 1
 simp [z0n,h]
theorem z6n {I:Inst} {b:Nat->Option Stp}:∀ (k f v:Nat),b (z0n I b v k)=none->k <= f->zce I b f v=zce I b k v/\zce I b k v <= k
 | 0,f,v,h,_=>by
  simp only [z0n] at h
  cases f with
  | zero=>exact ⟨rfl,Nat.le_refl _⟩
  | succ f=>simp [zce,h]
 | k+1,0,v,_,h=>by omega
 | k+1,f+1,v,h,hf=>by
  rw [zce,zce]
  cases hb:b v with
  | none=>exact ⟨rfl,Nat.zero_le _⟩
  | some s =>
   rw [zk8 hb] at h
   obtain ⟨h1,h2⟩:=z6n k f (frS I s) h (by omega)
   dsimp only
   rw [h1]
   exact ⟨rfl,Nat.succ_le_succ h2⟩
theorem zb0 {I:Inst} (hr:z05 I=0) {cnt:Stp->Bool} {start:Nat->Bool} {d:Nat->Option Int} {b:Nat->Option Stp} {e:Option Nat} (h:ShortP I cnt start d b e) {π:Nat->Int} (hp:z8y I cnt π) :
  e=none/\(∀ s,okS I s->cnt s=true->∀ u,d (frS I s)=some u->∃ c,d (toS I s)=some c/\c <= u+csS I s)/\∃ ρ,Tree I b ρ/\∀ v,v<I.sup.length->ρ v<I.sup.length:=by
 obtain ⟨r,⟨⟨τ,T,t,hB⟩,hD⟩,h1,h2⟩:=h.inv
 have hby:∀ v s,v<I.sup.length->b v=some s->okS I s/\cnt s=true/\toS I s=v:=fun v s hv hs=>by
  obtain ⟨q1,q2,q3,-⟩:=hB.by_ v s hv hs; exact ⟨q1,q2,q3⟩
 have hlt:=fun (v:Nat) (hv:v<I.sup.length) (k:Nat)=>z60 hr (fun v s hv hs=>(hby v s hv hs).1) hv k
 have hno:∀ v,v<I.sup.length->¬ ∀ k,k<I.sup.length->∃ s,b (z0n I b v k)=some s:=fun v hv hall=>by
  obtain ⟨i,j,hij,hj,he⟩:=pigeon (n:=I.sup.length) (fun k=>z0n I b v k) fun k _=>hlt v hv k
  have hw:=hlt v hv i
  have hk:∀ k,k<j - i->∃ s,b (z0n I b (z0n I b v i) k)=some s:=fun k hk=>by
   rw [<- z3a]; exact hall (i+k) (by omega)
  have hc:z0n I b (z0n I b v i) (j - i)=z0n I b v i:=by
   rw [<- z3a,show i+(j - i)=j by omega]; exact he.symm
  have c1:=hB.cycle hr hw (by omega) hk hc
  have c2:=pot_round hp hby hr hw (j - i) hk
  rw [hc] at c2
  omega
 have he:e=none:=by
  cases hev:e with
  | none=>rfl
  | some v =>
   exact absurd (fun k hk=>((hB.long hr hev) k (by have:=h2 v hev; omega)).1) (hno v (hB.la v hev).1)
 subst he
 refine ⟨rfl,fun s hs hc u hu=>?_,fun v=>zce I b I.sup.length v,fun v s hv hs=>?_,fun v hv=>?_⟩
 ·rcases h1 rfl with h3 | h3
  ·exact hB.end_ h3 (fun _ _=>rfl) s hs hc u hu
  ·have:=z31 hr hs; omega
 ·obtain ⟨q1,q2,q3⟩:=hby v s hv hs
  refine ⟨q1,q3,?_⟩
  have:∃ k,k<I.sup.length/\b (z0n I b v k)=none:=by
   apply Classical.byContradiction
   intro hn
   exact hno v hv fun k hk=>by
    cases hb:b (z0n I b v k) with
    | none=>exact absurd ⟨k,hk,hb⟩ hn
    | some s=>exact ⟨s,rfl⟩
  obtain ⟨k,hk,hb⟩:=this
  cases k with
  | zero=>simp only [z0n] at hb; rw [hs] at hb; cases hb
  | succ k =>
   have e1:=(z6n (k+1) I.sup.length v hb (by omega)).1
   have hb2:=hb
   rw [zk8 hs] at hb2
   have e2:=(z6n k I.sup.length (frS I s) hb2 (by omega)).1
   show zce I b I.sup.length (frS I s)<zce I b I.sup.length v
   rw [e1,e2,zce,hs]
   exact Nat.lt_succ_self _
 ·have:∃ k,k<I.sup.length/\b (z0n I b v k)=none:=by
   apply Classical.byContradiction
   intro hn
   exact hno v hv fun k hk=>by
    cases hb:b (z0n I b v k) with
    | none=>exact absurd ⟨k,hk,hb⟩ hn
    | some s=>exact ⟨s,rfl⟩
  obtain ⟨k,hk,hb⟩:=this
  have:=z6n k I.sup.length v hb (by omega)
  dsimp only
  omega
theorem ShortP.by_ {I:Inst} {cnt:Stp->Bool} {start:Nat->Bool} {d:Nat->Option Int} {b:Nat->Option Stp} {e:Option Nat} (h:ShortP I cnt start d b e) {v:Nat} {s:Stp} (hv:v<I.sup.length) (hs:b v=some s):cnt s=true/\toS I s=v/\∃ c u,d v=some c/\d (frS I s)=some u/\u+csS I s <= c:=by
 obtain ⟨r,⟨⟨τ,T,t,hB⟩,hD⟩,h1,h2⟩:=h.inv
 obtain ⟨q1,q2,q3,c,u,q4,q5,q6,q7⟩:=hB.by_ v s hv hs
 exact ⟨q2,q3,c,u,q4,q5,q6⟩
theorem ShortP.no {I:Inst} {cnt:Stp->Bool} {start:Nat->Bool} {d:Nat->Option Int} {b:Nat->Option Stp} {e:Option Nat} (h:ShortP I cnt start d b e) {v:Nat} (hv:v<I.sup.length) (hs:b v=none) {c:Int} (hc:d v=some c):start v=true:=by
 obtain ⟨r,⟨⟨τ,T,t,hB⟩,hD⟩,h1,h2⟩:=h.inv
 exact (hB.no v hv hs c hc).1
theorem ShortP.st {I:Inst} {cnt:Stp->Bool} {start:Nat->Bool} {d:Nat->Option Int} {b:Nat->Option Stp} {e:Option Nat} (h:ShortP I cnt start d b e) {v:Nat} (hv:v<I.sup.length) (hs:start v=true):∃ c,d v=some c:=by
 obtain ⟨r,⟨⟨τ,T,t,hB⟩,hD⟩,h1,h2⟩:=h.inv
 obtain ⟨c,h3,-⟩:=hB.st v hv hs
 exact ⟨c,h3⟩
theorem ShortP.db {I:Inst} {cnt:Stp->Bool} {start:Nat->Bool} {d:Nat->Option Int} {b:Nat->Option Stp} {e:Option Nat} (h:ShortP I cnt start d b e) (hr:z05 I=0) {v:Nat} {c:Int} (hc:d v=some c):-144115188075855872 <= c/\c <= 144115188075855872:=by
 obtain ⟨r,⟨⟨τ,T,t,hB⟩,hD⟩,h1,h2⟩:=h.inv
 have:=hD.big hr (Nat.le_refl _) v c hc
 omega
theorem ShortP.few {I:Inst} {cnt:Stp->Bool} {start:Nat->Bool} {d:Nat->Option Int} {b:Nat->Option Stp} {e:Option Nat} (h:ShortP I cnt start d b e) {C:Int} (h0:0 <= C) (hC:∀ s,okS I s->-C <= csS I s/\csS I s <= C) {v:Nat} {c:Int} (hc:d v=some c):-(C * 32768) <= c/\c <= C * 32768:=by
 obtain ⟨r,⟨⟨τ,T,t,hB⟩,hD⟩,h1,h2⟩:=h.inv
 exact hD C h0 hC v c hc
theorem znh {I:Inst} (hr:z05 I=0) {cnt:Stp->Bool} {d:Nat->Option Int} {b:Nat->Option Stp} {e:Option Nat} (h:ShortP I cnt (fun _=>true) d b e) {π:Nat->Int} (hp:z8y I cnt π):∃ g:Nat->Int,(∀ v,v<I.sup.length->d v=some (g v))/\z8y I cnt g:=by
 obtain ⟨h1,h2,-⟩:=zb0 hr h hp
 have hk:∀ v,v<I.sup.length->∃ c,d v=some c:=fun v hv=>h.st hv rfl
 refine ⟨fun v=>(d v).getD 0,fun v hv=>?_,fun s hs hc=>?_⟩
 ·obtain ⟨c,hc⟩:=hk v hv
  dsimp only
  rw [hc]; rfl
 ·obtain ⟨u,hu⟩:=hk _ (z31 hr hs)
  obtain ⟨c,h3,h4⟩:=h2 s hs hc u hu
  dsimp only
  rw [hu,h3]; exact h4
theorem max_of (f:Nat->Int):∀ n,∃ K,∀ i,i<n->f i <= K
 | 0=>⟨0,fun i hi=>absurd hi (Nat.not_lt_zero _)⟩
 | n+1=>by
  obtain ⟨K,hK⟩:=max_of f n
  refine ⟨max K (f n),fun i hi=>?_⟩
  by_cases e:i=n
  ·subst e; omega
  ·have:=hK i (by omega); omega
def z9x (I:Inst) (x:List Int) (L:Int):Stp->Bool:=fun s=>decide (L <= rmS I x s)
structure NInv (I:Inst) (x o:List Int) (B:Int):Prop where
 over:OverOf I x o
 betw:Betw I x
 bd:∀ a,a<I.arcs.length->-B <= x.getD a 0/\x.getD a 0 <= B
theorem zgt {I:Inst} (hr:z05 I=0) {cnt:Stp->Bool} {start:Nat->Bool} {d:Nat->Option Int} {b:Nat->Option Stp} {e:Option Nat} (h:ShortP I cnt start d b e) (hok:∀ v s,v<I.sup.length->b v=some s->okS I s):∀ (f v:Nat),v<I.sup.length->∀ c,d v=some c->(∃ c',d (z15 I b f v)=some c')/\∀ s ∈ z1y I b f v,cnt s=true
 | 0,v,_,c,hc=>⟨⟨c,hc⟩,fun s hs=>by simp [z1y] at hs⟩
 | f+1,v,hv,c,hc=>by
  rw [z1y,z15]
  cases hb:b v with
  | none=>exact ⟨⟨c,hc⟩,fun s hs=>by simp at hs⟩
  | some t =>
   obtain ⟨q1,q2,c',u,q3,q4,-⟩:=h.by_ hv hb
   obtain ⟨i1,i2⟩:=zgt hr h hok f (frS I t) (z31 hr (hok v t hv hb)) u q4
   refine ⟨i1,fun s hs=>?_⟩
   rcases List.mem_cons.1 hs with rfl | hs
   ·exact q1
   ·exact i2 s hs
theorem al_ok {I:Inst} (hr:z05 I=0) {x o:List Int} {B:Int} (hN:NInv I x o B) (hB:B <= 144115188075855872) (hP:z4n o I.sup.length <= 144115188075855872) {b:Nat->Option Stp} {ρ:Nat->Nat} (hT:Tree I b ρ) (hρ:∀ v,v<I.sup.length->ρ v<I.sup.length)
  {v:Nat} (hv:v<I.sup.length) {L:Int} (hL:0 <= L) (h1:L <= o.getD (z15 I b I.sup.length v) 0) (h2:L <= -(o.getD v 0)) (h3:∀ s ∈ z1y I b I.sup.length v,L <= rmS I x s) :
  AlOk I x o (z0j I.sup.length b) (v:Int)/\L <= alU I x o (z0j I.sup.length b) v/\alL I (z0j I.sup.length b) v=z1y I b I.sup.length v/\alR I (z0j I.sup.length b) v=z15 I b I.sup.length v:=by
 obtain ⟨e1,e2⟩:=zno hr (b:=b) (b':=bOf (z0j I.sup.length b)) (fun w hw=>(bOf_row b hw).symm) (fun w s hw hs=>(hT w s hw hs).1) I.sup.length v hv
 have a1:alL I (z0j I.sup.length b) v=z1y I b I.sup.length v:=by unfold alL; rw [Int.toNat_natCast]; exact e1.symm
 have a2:alR I (z0j I.sup.length b) v=z15 I b I.sup.length v:=by unfold alR; rw [Int.toNat_natCast]; exact e2.symm
 have hU:L <= alU I x o (z0j I.sup.length b) v:=by
  unfold alU
  refine unitsF_ge _ _ ?_ (by rw [a1]; exact h3)
  unfold alU0
  rw [a2,Int.toNat_natCast]; omega
 refine ⟨⟨hr,hN.over.lx,hN.over.lo,yb_of fun k hk=>?_,yb_of fun k hk=>?_,by omega,by rw [Int.toNat_natCast]; exact hv,⟨b,ρ,rfl,hT,hρ⟩,by omega⟩,hU,a1,a2⟩
 ·have:=hN.bd k (by rw [<- hN.over.lx]; exact hk); omega
 ·have:=over_bd hr hN.over (v:=k) (by rw [<- hN.over.lo]; exact hk); omega
theorem al_does {I:Inst} {x o:List Int} {B:Int} (hN:NInv I x o B) (hB0:0 <= B) {by_:List (List Int)} {e:Int} (A:AlOk I x o by_ e) (hU:1 <= alU I x o by_ e) :
  NInv I (z2r x (alL I by_ e) (alU I x o by_ e)) (z20 I o (alL I by_ e) (alU I x o by_ e)) (B+alU I x o by_ e) /\
  z4n (z20 I o (alL I by_ e) (alU I x o by_ e)) I.sup.length=z4n o I.sup.length - alU I x o by_ e /\
  ∀ s,okS I s->rmS I x s<rmS I (z2r x (alL I by_ e) (alU I x o by_ e)) s->(s.1,!s.2) ∈ alL I by_ e:=by
 obtain ⟨ρ,h1,h2⟩:=A.tree'
 have hr:=A.right
 have hn:=znp hr h1 I.sup.length e.toNat A.e1
 have hm:=A.mem
 have hle:=znn (I:=I) (x:=x) (alL I by_ e) (alU0 I o by_ e)
 have hx:=fun a=>zdk (u:=alU I x o by_ e) (x:=x) (l:=alL I by_ e) hn (fun s hs=>by rw [hN.over.lx]; exact hm s hs) a
 have ho:=zma hr h1 (u:=alU I x o by_ e) I.sup.length e.toNat o A.e1 hN.over.lo
 have hst:=A.stop
 have hroot:alU I x o by_ e <= o.getD (alR I by_ e) 0/\alU I x o by_ e <= -(o.getD e.toNat 0):=by
  have:=hle.1
  unfold alU alU0 at *
  omega
 have hne:¬ e.toNat=alR I by_ e:=fun h=>by rw [<- h] at hroot; omega
 refine ⟨⟨hN.over.pushs hr _ hm,betw_pushs hN.betw hN.over.lx hn hm (by omega) fun s hs=>hle.2 s hs,fun a ha=>?_⟩,?_,fun s hs hlt=>?_⟩
 ·have:=hN.bd a ha
  rw [hx a]
  repeat' split <;> omega
 ·refine posS_less (r:=alR I by_ e) hst.2 (fun v hv hvr=>?_) ?_
  ·have:=ho v hv
   unfold alL
   rw [this]
   have hrv:¬ z15 I (bOf by_) I.sup.length e.toNat=v:=fun h=>hvr (by unfold alR; exact h.symm)
   rw [if_neg hrv]
   by_cases ev:e.toNat=v
   ·subst ev; rw [if_pos rfl]; omega
   ·rw [if_neg ev]; omega
  ·have:=ho (alR I by_ e) hst.2
   unfold alL
   rw [this,if_neg hne,if_pos (show z15 I (bOf by_) I.sup.length e.toNat=alR I by_ e from rfl)]
   omega
 ·obtain ⟨a,k⟩:=s
  unfold rmS at hlt
  dsimp only at hlt ⊢
  rw [hx a] at hlt
  cases k with
  | true =>
   simp only [if_true] at hlt
   rw [Bool.not_true]
   apply Classical.byContradiction
   intro h3
   rw [if_neg h3] at hlt
   split at hlt <;> omega
  | false =>
   simp only [Bool.false_eq_true,if_false] at hlt
   rw [Bool.not_false]
   apply Classical.byContradiction
   intro h3
   rw [if_neg h3] at hlt
   split at hlt
   ·omega
   ·split at hlt <;> omega
theorem al_pot {I:Inst} (hr:z05 I=0) {x o:List Int} {L:Int} {start:Nat->Bool} {d:Nat->Option Int} {b:Nat->Option Stp} {e:Option Nat} (h:ShortP I (z9x I x L) start d b e) {π:Nat->Int} (hp:z8y I (z9x I x L) π)
  {v:Nat} (hv:v<I.sup.length) {c:Int} (hc:d v=some c) {x':List Int} (hx:∀ s,okS I s->rmS I x s<rmS I x' s->(s.1,!s.2) ∈ z1y I b I.sup.length v):∃ π',z8y I (z9x I x' L) π':=by
 obtain ⟨he,hcv,ρ,hT,hρ⟩:=zb0 hr h hp
 obtain ⟨-,hw⟩:=zgt hr h (fun v s hv hs=>(hT v s hv hs).1) I.sup.length v hv c hc
 have hm:=zel hr hT I.sup.length v hv
 obtain ⟨K1,hK1⟩:=max_of (fun a=>(d (toS I (a,false))).getD 0 - csS I (a,false) - π (frS I (a,false))) I.arcs.length
 obtain ⟨K2,hK2⟩:=max_of (fun a=>(d (toS I (a,true))).getD 0 - csS I (a,true) - π (frS I (a,true))) I.arcs.length
 have hK:∀ s,okS I s->(d (toS I s)).getD 0 - csS I s - π (frS I s) <= max K1 K2:=fun s hs=>by
  obtain ⟨a,k⟩:=s
  cases k with
  | false=>have:=hK1 a hs; omega
  | true=>have:=hK2 a hs; omega
 refine ⟨fun w=>match d w with | some c=>c | none=>π w+max K1 K2,fun s hs hcs=>?_⟩
 dsimp only
 by_cases hold:z9x I x L s=true
 ·cases hf:d (frS I s) with
  | some u =>
   obtain ⟨c2,h3,h4⟩:=hcv s hs hold u hf
   rw [h3]; exact h4
  | none =>
   cases ht:d (toS I s) with
   | none=>have:=hp s hs hold; dsimp only; omega
   | some c2=>have:=hK s hs; rw [ht] at this; simp only [Option.getD_some] at this; dsimp only; omega
 ·unfold z9x at hold hcs
  rw [decide_eq_true_eq] at hold hcs
  have hmem:=hx s hs (by omega)
  obtain ⟨m1,m2,-,-⟩:=hm _ hmem
  obtain ⟨a,k⟩:=s
  dsimp only at hmem m1 m2
  obtain ⟨f1,f2,f3⟩:=zl8 I a k
  rw [f2] at m2
  obtain ⟨q1,q2,c2,u,q3,q4,q5⟩:=h.by_ (z31 hr hs) m2
  rw [f1] at q4
  rw [f3] at q5
  obtain ⟨c3,q6,q7⟩:=hcv _ m1 q1 u (by rw [f1]; exact q4)
  rw [f2] at q6
  rw [q3] at q6; cases q6
  rw [q3,q4]
  dsimp only
  omega
theorem posS_more {o p:List Int} {r:Nat} {u:Int} (hu:0 <= u):∀ {k:Nat},(∀ v,v<k->v ≠ r->max (p.getD v 0) 0 <= max (o.getD v 0) 0)->max (p.getD r 0) 0 <= max (o.getD r 0) 0+u->z4n p k <= z4n o k+u
 | 0,_,_=>by rw [z4n,z4n]; omega
 | k+1,h1,h2=>by
  rw [z4n,z4n]
  by_cases e:r=k
  ·subst e
   have:∀ j,j <= r->z4n p j <= z4n o j:=by
    intro j
    induction j with
    | zero=>intro _; exact Int.le_refl _
    | succ j ih=>intro hj; rw [z4n,z4n]; have:=ih (by omega); have:=h1 j (by omega) (by omega); omega
   have:=this r (Nat.le_refl _); omega
  ·have:=posS_more (o:=o) (p:=p) (r:=r) hu (k:=k) (fun v hv hne=>h1 v (by omega) hne) h2
   have:=h1 k (by omega) (fun e'=>e e'.symm); omega
theorem posS_push {I:Inst} (hr:z05 I=0) {o:List Int} (ho:o.length=I.sup.length) {s:Stp} (hs:okS I s) {u:Int} (hu:0 <= u):z4n (z6x I o s u) I.sup.length <= z4n o I.sup.length+u:=by
 refine posS_more (r:=toS I s) hu (fun v hv hne=>?_) ?_
 ·rw [zdj (by rw [ho]; exact hv)]
  (repeat' split) <;> omega
 ·rw [zdj (by rw [ho]; exact z5s hr hs)]
  (repeat' split) <;> omega
def rcOk (I:Inst) (g:Nat->Int) (s:Stp):Prop:=g (toS I s) <= g (frS I s)+csS I s
theorem rc_flip {I:Inst} {g:Nat->Int} {a:Nat} {k:Bool} (h:¬ rcOk I g (a,k)):rcOk I g (a,!k):=by
 obtain ⟨f1,f2,f3⟩:=zl8 I a k
 unfold rcOk at *
 rw [f1,f2,f3]; omega
structure SatI (I:Inst) (g:Nat->Int) (L B P:Int) (q:Nat) (done:Stp->Bool) (x o:List Int):Prop where
 n:NInv I x o B
 hi:∀ s,okS I s->2 * L <= rmS I x s->rcOk I g s
 lo:∀ s,okS I s->done s=true->L <= rmS I x s->rcOk I g s
 p:z4n o I.sup.length <= P+2 * L * q
theorem rmS_other {x:List Int} {I:Inst} {s t:Stp} {u:Int} (hl:x.length=I.arcs.length) (hs:okS I s) (h:t.1 ≠ s.1):rmS I (z4w x s u) t=rmS I x t:=by
 unfold rmS
 rw [z8n (by rw [hl]; exact hs),if_neg h,Int.add_zero]
theorem rmS_self {x:List Int} {I:Inst} {s:Stp} (hl:x.length=I.arcs.length) (hs:okS I s) (hc:s.2=false->¬ (z22 I s.1).cap=inf):rmS I (z4w x s (rmS I x s)) s=0:=by
 have e:=z8n (x:=x) (s:=s) (u:=rmS I x s) (a:=s.1) (by rw [hl]; exact hs)
 rw [if_pos rfl] at e
 unfold rmS at *
 rw [e]
 cases h:s.2 with
 | true=>simp only [h,if_true] at *; omega
 | false=>simp only [h,Bool.false_eq_true,if_false,if_neg (hc h)] at *; omega
theorem SatI.skip {I:Inst} {g:Nat->Int} {L B P:Int} {q a:Nat} {k:Bool} {x o:List Int} (h:SatI I g L B P q (z1k a (bif k then 1 else 0)) x o) (hL:0 <= L) (hn:L <= rmS I x (a,k)->rcOk I g (a,k)):SatI I g L B P (q+1) (z1k a ((bif k then 1 else 0)+1)) x o :=
  { n:=h.n,hi:=h.hi,
    lo:=fun s hs hd hr=>by
      rw [zal] at hd
      by_cases e:s=(a,k)
      · subst e; exact hn hr
      · rw [decide_eq_false e,Bool.or_false] at hd
        exact h.lo s hs hd hr,
    p:=by
      have:=h.p
      have e:2 * L * ((q+1:Nat):Int)=2 * L * q+2 * L:=by rw [Int.natCast_add,Int.mul_add]; simp
      omega }
theorem SatI.fill {I:Inst} (hr:z05 I=0) {g:Nat->Int} {L B P:Int} {q a:Nat} {k:Bool} {x o:List Int} (h:SatI I g L B P q (z1k a (bif k then 1 else 0)) x o) (hL:1 <= L) (hB:4398046511104 <= B) (ha:a<I.arcs.length)
  (h1:L <= rmS I x (a,k)) (h2:¬ rcOk I g (a,k)) (hinf:endS I (a,k)=true->rcOk I g (a,k)):SatI I g L B P (q+1) (z1k a ((bif k then 1 else 0)+1)) (z4w x (a,k) (rmS I x (a,k))) (z6x I o (a,k) (rmS I x (a,k))):=by
 have hs:okS I (a,k):=ha
 have hlt:rmS I x (a,k)<2 * L:=by
  apply Int.lt_of_not_ge
  intro hge
  exact h2 (h.hi _ hs hge)
 have hc:k=false->¬ (z22 I a).cap=inf:=fun hk hcap=>h2 (hinf (by subst hk; unfold endS; simp [hcap]))
 have hfl:=rc_flip h2
 have hz:=rmS_self (x:=x) (s:=(a,k)) h.n.over.lx hs hc
 have hother:∀ s,okS I s->s.1 ≠ a->rmS I (z4w x (a,k) (rmS I x (a,k))) s=rmS I x s:=fun s _ hne=>rmS_other h.n.over.lx hs hne
 have hcase:∀ s:Stp,s.1=a->s=(a,k) ∨ s=(a,!k):=fun s hsa=>by
  obtain ⟨a',k'⟩:=s
  dsimp only at hsa
  subst hsa
  by_cases e:k'=k
  ·subst e; exact .inl rfl
  ·refine .inr ?_; cases k <;> cases k' <;> simp_all
 have hbt:=betw_push h.n.betw h.n.over.lx hs (show 0 <= rmS I x (a,k) by omega) (Int.le_refl _)
 refine ⟨⟨h.n.over.push hr hs _,hbt,fun c hcl=>?_⟩,fun s h3 h4=>?_,fun s h3 h4 h5=>?_,?_⟩
 ·by_cases e:c=a
  ·subst e
   have ok:=z1p hr hcl
   have hb:=hbt c hcl
   have hx:=z8n (x:=x) (s:=(c,k)) (u:=rmS I x (c,k)) (a:=c) (by rw [h.n.over.lx]; exact hs)
   rw [if_pos rfl] at hx
   dsimp only at hx
   have hbd:=h.n.bd c hcl
   have l0:=ok.l0
   have l1:=ok.l1
   refine ⟨by omega,?_⟩
   cases hk:k with
   | true =>
    subst hk
    simp only [if_true] at hx
    unfold rmS at hx ⊢
    simp only [if_true] at hx ⊢
    omega
   | false =>
    subst hk
    have hc2:=(ok.c.resolve_left (hc rfl)).2
    have:=hb.2.resolve_left (hc rfl)
    omega
  ·have hx:=z8n (x:=x) (s:=(a,k)) (u:=rmS I x (a,k)) (a:=c) (by rw [h.n.over.lx]; exact hs)
   rw [if_neg e,Int.add_zero] at hx
   rw [hx]; exact h.n.bd c hcl
 ·by_cases e:s.1=a
  ·rcases hcase s e with rfl | rfl
   ·rw [hz] at h4; omega
   ·exact hfl
  ·rw [hother s h3 e] at h4; exact h.hi s h3 h4
 ·by_cases e:s.1=a
  ·rcases hcase s e with rfl | rfl
   ·rw [hz] at h5; omega
   ·exact hfl
  ·rw [hother s h3 e] at h5
   rw [zal,decide_eq_false (fun e'=>e (by rw [e'])),Bool.or_false] at h4
   exact h.lo s h3 h4 h5
 ·have:=posS_push hr h.n.over.lo hs (u:=rmS I x (a,k)) (by omega)
  have:=h.p
  have e:2 * L * ((q+1:Nat):Int)=2 * L * q+2 * L:=by rw [Int.natCast_add,Int.mul_add]; simp
  omega
theorem badA_none {m:Int} {side:List Bool} {l:List Arc} (h:∀ a ∈ l,zca m side a=true->¬ a.cap=inf):∃ t,z11 m side l 0=some t/\t=(l.map fun a=>if zca m side a then a.cap else if inA m side a then -a.low else 0).sum:=by
 have:∀ (l:List Arc) (s:Int),(∀ a ∈ l,zca m side a=true->¬ a.cap=inf)->z11 m side l s=some (s+(l.map fun a=>if zca m side a then a.cap else if inA m side a then -a.low else 0).sum):=by
  intro l
  induction l with
  | nil=>intro s _; simp [z11]
  | cons a l ih =>
   intro s h
   rw [z3h,List.map_cons,List.sum_cons]
   by_cases h1:zca m side a=true
   ·rw [if_pos h1,if_neg (h a (by simp) h1),ih _ (fun b hb=>h b (by simp [hb])),if_pos h1]
    congr 1; omega
   ·rw [if_neg h1,if_neg h1]
    by_cases h2:inA m side a=true
    ·rw [if_pos h2,if_pos h2,ih _ (fun b hb=>h b (by simp [hb]))]; congr 1; omega
    ·rw [if_neg h2,if_neg h2,ih _ (fun b hb=>h b (by simp [hb]))]; congr 1; omega
 exact ⟨_,by rw [this l 0 h,Int.zero_add],rfl⟩
theorem zfl {m:Int} {side:List Bool} {l:List Arc} {x:List Int} (h1:∀ j a,l[j]? = some a->zca m side a=true->¬ a.cap=inf/\x.getD j 0=a.cap) (h2:∀ j a,l[j]? = some a->inA m side a=true->x.getD j 0=a.low) :
  ∀ k,k <= l.length->z6g m side l x k=((l.take k).map fun a=>if zca m side a then a.cap else if inA m side a then -a.low else 0).sum
 | 0,_=>rfl
 | k+1,hk=>by
  have ih:=zfl h1 h2 k (by omega)
  have ha:l[k]? = some l[k]:=List.getElem?_eq_getElem (by omega)
  rw [z6g,z1i ha,List.map_append,List.sum_append,ih]
  have hd:l.getD k default=l[k]:=by rw [List.getD_eq_getElem?_getD,ha]; rfl
  rw [hd]
  unfold zh1
  simp only [List.map_cons,List.map_nil,List.sum_cons,List.sum_nil,Int.add_zero]
  by_cases q1:zca m side l[k]=true
  ·rw [if_pos q1,if_pos q1,(h1 k _ ha q1).2,if_neg (by rw [out_not_in q1]; exact Bool.false_ne_true)]; omega
  ·rw [if_neg q1,if_neg q1]
   by_cases q2:inA m side l[k]=true
   ·rw [if_pos q2,if_pos q2,h2 k _ ha q2]; omega
   ·rw [if_neg q2,if_neg q2]; omega
theorem zni {I:Inst} (hr:z05 I=0) {x o:List Int} (h:OverOf I x o) (hb:Betw I x) {side:List Bool} (hl:side.length=I.sup.length) (hcl:∀ s,okS I s->0<rmS I x s->side.getD (frS I s) false=true->side.getD (toS I s) false=true)
  (hpos:0<z1m (fun v=>if side.getD v false then o.getD v 0 else 0) I.sup.length):z24 I side=0:=by
 have hs:=z0d hr
 have hin:=zdo hr
 have hout:∀ j a,I.arcs[j]? = some a->zca I.sup.length side a=true->¬ a.cap=inf/\x.getD j 0=a.cap:=fun j a ha ho=>by
  have hj:=(List.getElem?_eq_some_iff.1 ha).1
  rw [(on_in (hin a (List.mem_of_getElem? ha))).1,Bool.and_eq_true,Bool.not_eq_true'] at ho
  have hq:=hcl (j,false) hj
  have e1:frS I (j,false)=a.src.toNat:=by simp [frS,z2e ha]
  have e2:toS I (j,false)=a.dst.toNat:=by simp [toS,z2e ha]
  rw [e1,e2] at hq
  have hz:¬ 0<rmS I x (j,false):=fun h0=>by rw [hq h0 ho.1] at ho; exact absurd ho.2 (by simp)
  have hb2:=hb j hj
  rw [z2e ha] at hb2
  unfold rmS at hz
  dsimp only at hz
  rw [if_neg Bool.false_ne_true,z2e ha] at hz
  by_cases hc:a.cap=inf
  ·rw [if_pos hc] at hz; omega
  ·rw [if_neg hc] at hz
   have:=hb2.2.resolve_left hc
   exact ⟨hc,by omega⟩
 have hinn:∀ j a,I.arcs[j]? = some a->inA I.sup.length side a=true->x.getD j 0=a.low:=fun j a ha ho=>by
  have hj:=(List.getElem?_eq_some_iff.1 ha).1
  rw [(on_in (hin a (List.mem_of_getElem? ha))).2,Bool.and_eq_true,Bool.not_eq_true'] at ho
  have hq:=hcl (j,true) hj
  have e1:frS I (j,true)=a.dst.toNat:=by simp [frS,z2e ha]
  have e2:toS I (j,true)=a.src.toNat:=by simp [toS,z2e ha]
  rw [e1,e2] at hq
  have hz:¬ 0<rmS I x (j,true):=fun h0=>by rw [hq h0 ho.1] at ho; exact absurd ho.2 (by simp)
  have hb2:=hb j hj
  rw [z2e ha] at hb2
  unfold rmS at hz
  dsimp only at hz
  rw [if_pos rfl,z2e ha] at hz
  omega
 obtain ⟨t,ht,htv⟩:=badA_none (m:=(I.sup.length:Int)) (side:=side) (l:=I.arcs) fun a ha ho=>by
  obtain ⟨j,hj⟩:=List.mem_iff_getElem?.1 ha
  exact (hout j a hj ho).1
 have hcf:=zfl hout hinn I.arcs.length (Nat.le_refl _)
 rw [List.take_length,<- htv] at hcf
 have hneed:zb6 I side=z1m (fun v=>if side.getD v false then o.getD v 0 else 0) I.sup.length+t:=by
  unfold zb6
  rw [z8j,<- hcf,<- zkp,<- za4]
  refine z16 fun v hv=>?_
  have:=h.at_ v hv
  split <;> omega
 have hcm:=cmp_need (side:=side) (s:=t) hr (by omega) (by omega) (z1n hr).1 ht (zb6 I side) rfl
 unfold z24
 rw [if_neg (fun h=>h hr),if_neg (fun h=>h hl),show z36 I side=some t from ht]
 dsimp only
 rw [if_neg (fun hle=>by have:=hcm.1 hle; omega)]
theorem stuck_zero {I:Inst} (hr:z05 I=0) {x o:List Int} (h:OverOf I x o) (hb:Betw I x) {d:Nat->Bool} (h1:∀ v,v<I.sup.length->1 <= o.getD v 0->d v=true) (h2:∀ s,okS I s->1 <= rmS I x s->d (frS I s)=true->d (toS I s)=true) (h3:∀ v,v<I.sup.length->o.getD v 0 <= -1->d v=false)
  {y:List Int} (hy:A64 y) (hf:z1a I y=0):∀ v,v<I.sup.length->o.getD v 0=0:=by
 refine over_zero hr h fun v hv=>?_
 apply Classical.byContradiction
 intro hn
 have hs:=z0d hr
 have hget:∀ w,w<I.sup.length->((List.range I.sup.length).map d).getD w false=d w:=fun w hw=>by
  rw [List.getD_eq_getElem?_getD,List.getElem?_map,List.getElem?_range hw]; rfl
 have hp:=zni (side:=(List.range I.sup.length).map d) hr h hb (by simp) (fun s hs h0 hd=>by
  rw [hget _ (z31 hr hs)] at hd
  rw [hget _ (z5s hr hs)]
  exact h2 s hs (by omega) hd) (by
   have hnn:∀ w,w<I.sup.length->0 <= (if ((List.range I.sup.length).map d).getD w false then o.getD w 0 else 0):=fun w hw=>by
    rw [hget w hw]
    split
    ·rename_i hd
     apply Int.le_of_not_gt
     intro hlt
     rw [h3 w hw (by omega)] at hd; cases hd
    ·omega
   have:∀ k,k <= I.sup.length->0 <= z1m (fun w=>if ((List.range I.sup.length).map d).getD w false then o.getD w 0 else 0) k/\(v<k->0<z1m (fun w=>if ((List.range I.sup.length).map d).getD w false then o.getD w 0 else 0) k):=by
    intro k
    induction k with
    | zero=>intro _; exact ⟨Int.le_refl _,fun h=>absurd h (Nat.not_lt_zero _)⟩
    | succ k ih =>
     intro hk
     obtain ⟨i1,i2⟩:=ih (by omega)
     have:=hnn k (by omega)
     rw [z1m]
     refine ⟨by omega,fun hvk=>?_⟩
     by_cases e:v=k
     ·subst e
      rw [hget v hv,h1 v hv (by omega),if_pos rfl]
      omega
     ·have:=i2 (by omega); omega
   exact (this _ (Nat.le_refl _)).2 hv)
 exact zcd (by omega) (by omega) hy (z1n hr).1 hp hf
def GreatOk (I:Inst) (o:List Int):Prop:=o.length <= 1000/\I.arcs.length <= 1000/\(∀ y ∈ o,-536870912 <= y/\y <= 536870912)/\∀ a ∈ I.arcs,a.cap=inf ∨ -536870912 <= a.cap/\a.cap <= 536870912
structure GreatP (I:Inst) (j:Nat):Prop where
 caps:∀ a,a<I.arcs.length->(z22 I a).cap=inf ∨ (z22 I a).cap <= (2:Int) ^ j
 le:(2:Int) ^ j <= 1073741824
def MostI (I:Inst) (a:Nat) (m:Int):Prop:=(∀ c,c<a->(z22 I c).cap=inf ∨ (z22 I c).cap <= m)/\1 <= m/\m <= 536870912
structure SatG (I:Inst) (x o:List Int) (D:List (List Int)) (L:Int) (g:Nat->Int) (B P:Int):Prop where
 d:D=z0k I.sup.length fun v=>some (g v)
 gb:∀ v,v<I.sup.length->-144115188075855872 <= g v/\g v <= 144115188075855872
 b0:4398046511104 <= B
 b1:B <= 144115188075855872
 p:P+2 * L * 512 <= 144115188075855872
 s:SatI I g L B P 0 (z1k 0 0) x o
 e:∀ s,okS I s->endS I s=true->rcOk I g s
def SatOk (I:Inst) (x o:List Int) (D:List (List Int)) (L:Int):Prop:=z05 I=0/\1 <= L/\L <= 1152921504606846976/\∃ g B P,SatG I x o D L g B P
def SatJ (I:Inst) (x0 o0:List Int) (D:List (List Int)) (L:Int) (a j:Nat) (x o:List Int):Prop:=∀ g B P,SatG I x0 o0 D L g B P->SatI I g L B P (2 * a+j) (z1k a j) x o
structure SatP (I:Inst) (x0 o0:List Int) (D:List (List Int)) (L:Int) (x o:List Int):Prop where
 all:∀ g B P,SatG I x0 o0 D L g B P->SatI I g L B P (2 * I.arcs.length) allD x o
theorem SatI.bounds {I:Inst} (hr:z05 I=0) {g:Nat->Int} {L B P:Int} {q:Nat} {done:Stp->Bool} {x o:List Int} (h:SatI I g L B P q done x o) (hL:1 <= L) (hq:q <= 512) (hB:B <= 144115188075855872) (hP:P+2 * L * 512 <= 144115188075855872):x.length=I.arcs.length/\o.length=I.sup.length/\YB x/\YB o:=by
 have hPq:2 * L * (q:Int) <= 2 * L * 512:=Int.mul_le_mul_of_nonneg_left (by omega) (by omega)
 have hp:=h.p
 refine ⟨h.n.over.lx,h.n.over.lo,yb_of fun k hk=>?_,yb_of fun k hk=>?_⟩
 ·have:=h.n.bd k (by rw [<- h.n.over.lx]; exact hk); omega
 ·have:=over_bd hr h.n.over (v:=k) (by rw [<- h.n.over.lo]; exact hk); omega
theorem SatI.congr {I:Inst} {g:Nat->Int} {L B P:Int} {q q':Nat} {done done':Stp->Bool} {x o:List Int} (h:SatI I g L B P q done x o) (hL:0 <= L) (hd:∀ s,okS I s->done' s=true->done s=true) (hq:q <= q'):SatI I g L B P q' done' x o :=
  { n:=h.n,hi:=h.hi,lo:=fun s hs hds hr=>h.lo s hs (hd s hs hds) hr,
    p:=by
      have:=h.p
      have:2 * L * (q:Int) <= 2 * L * q':=Int.mul_le_mul_of_nonneg_left (by omega) (by omega)
      omega }
theorem SatJ.skip {I:Inst} {x0 o0:List Int} {D:List (List Int)} {L:Int} {a:Nat} {k:Bool} {x o:List Int} (h:SatJ I x0 o0 D L a (bif k then 1 else 0) x o) (hL:0 <= L) (hn:L <= rmS I x (a,k)->∀ g:Nat->Int,D=z0k I.sup.length (fun v=>some (g v))->rcOk I g (a,k)):SatJ I x0 o0 D L a ((bif k then 1 else 0)+1) x o :=
 fun g B P hG=>(h g B P hG).skip hL fun hl=>hn hl g hG.d
theorem SatJ.fill {I:Inst} (hr:z05 I=0) {x0 o0:List Int} {D:List (List Int)} {L:Int} {a:Nat} {k:Bool} {x o:List Int} (h:SatJ I x0 o0 D L a (bif k then 1 else 0) x o) (hL:1 <= L) (ha:a<I.arcs.length) (h1:L <= rmS I x (a,k)) (hn:∀ g:Nat->Int,D=z0k I.sup.length (fun v=>some (g v))->¬ rcOk I g (a,k)) :
  SatJ I x0 o0 D L a ((bif k then 1 else 0)+1) (z4w x (a,k) (rmS I x (a,k))) (z6x I o (a,k) (rmS I x (a,k))) :=
 fun g B P hG=>(h g B P hG).fill hr hL hG.b0 ha h1 (hn g hG.d) (hG.e (a,k) ha)
theorem SatJ.next {I:Inst} {x0 o0:List Int} {D:List (List Int)} {L:Int} {a:Nat} {x o:List Int} (h:SatJ I x0 o0 D L a 2 x o) (hL:0 <= L):SatJ I x0 o0 D L (a+1) 0 x o:=fun g B P hG=>(h g B P hG).congr hL (fun s _ hd=>by rw [z9f]; exact hd) (by omega)
theorem SatJ.done {I:Inst} {x0 o0:List Int} {D:List (List Int)} {L:Int} {x o:List Int} (h:SatJ I x0 o0 D L I.arcs.length 0 x o) (hL:0 <= L):SatP I x0 o0 D L x o:=⟨fun g B P hG=>(h g B P hG).congr hL (fun s hs _=>z4o hs) (by omega)⟩
theorem SatJ.begin {I:Inst} {x0 o0:List Int} {D:List (List Int)} {L:Int}:SatJ I x0 o0 D L 0 0 x0 o0:=fun g B P hG=>hG.s
theorem z46 {n v:Nat} {g:Nat->Int} {D:List (List Int)} (hD:D=z0k n fun v=>some (g v)) {y:List Int} (hy:D[v]? = some y):y.headD 0=g v/\v<n:=by
 subst hD
 obtain ⟨h1,h2⟩:=z1z hy
 subst h2
 exact ⟨rfl,h1⟩
theorem z8m (j:Nat):(1:Int) <= (2:Int) ^ j:=by
 induction j with
 | zero=>simp
 | succ j ih=>rw [Int.pow_succ]; omega
theorem MostI.arc {I:Inst} {a:Nat} {m:Int} (h:MostI I a m) {y:Arc} (hy:I.arcs[a]? = some y) {m':Int} (hm:m <= m') (hc:y.cap=inf ∨ y.cap <= m') (hl:m' <= 536870912):MostI I (a+1) m':=by
 refine ⟨fun c hc2=>?_,by have:=h.2.1; omega,hl⟩
 by_cases e:c=a
 ·subst e; rw [z2e hy]; exact hc
 ·exact (h.1 c (by omega)).imp id (by omega)
def Stk (I:Inst) (x o:List Int) (L:Int):Prop:=∃ d:Nat->Bool,(∀ v,v<I.sup.length->L <= o.getD v 0->d v=true)/\(∀ s,okS I s->L <= rmS I x s->d (frS I s)=true->d (toS I s)=true)/\∀ v,v<I.sup.length->o.getD v 0 <= -L->d v=false
structure PhI (I:Inst) (x o:List Int) (g:Nat->Int) (k:Nat):Prop where
 ex:∃ B,NInv I x o B/\4398046511104 <= B/\B+z4n o I.sup.length+2048 * (2:Int) ^ k <= 144115188075855872
 gb:∀ v,v<I.sup.length->-144115188075855872 <= g v/\g v <= 144115188075855872
 pot:∀ s,okS I s->(2:Int) ^ k <= rmS I x s->rcOk I g s
 st:k=0->Stk I x o 1
structure LpI (I:Inst) (x o:List Int) (L:Int):Prop where
 ex:∃ B,NInv I x o B/\4398046511104 <= B/\B+z4n o I.sup.length+2048 * L <= 144115188075855872
 pot:∃ π,z8y I (z9x I x L) π
def zig (I:Inst) (x o:List Int):Prop:=z05 I=0/\OverOf I x o/\(∀ a,a<I.arcs.length->x.getD a 0=(z22 I a).low)/\GreatOk I o/\(∃ π,z8y I (endS I) π)/\∃ y,A64 y/\z1a I y=0
structure CheapP (I:Inst) (x o:List Int):Prop where
 fits:z1a I x=0
 yb:YB x
 lo:o.length=I.sup.length
 pot:∃ g,z8y I (fun s=>endS I s || decide (0<rmS I x s)) g
theorem ph_begin {I:Inst} {x o:List Int} (h:zig I x o) {d:Nat->Option Int} {b:Nat->Option Stp} {e:Option Nat} (hS:ShortP I (endS I) (fun _=>true) d b e) {j:Nat} (hj:GreatP I j):∃ g:Nat->Int,z0k I.sup.length d=z0k I.sup.length (fun v=>some (g v))/\PhI I x o g (j+1):=by
 obtain ⟨hr,hO,hx,hG,⟨π,hπ⟩,hy⟩:=h
 obtain ⟨g,h1,h2⟩:=znh hr hS hπ
 have hpj:=z8m j
 have hps:∀ k,k <= I.sup.length->z4n o k <= 536870912 * (k:Int):=by
  intro k
  induction k with
  | zero=>intro _; simp [z4n]
  | succ k ih =>
   intro hk
   have:=ih (by omega)
   have hm:o[k]? = some (o.getD k 0):=by rw [List.getD_eq_getElem?_getD,List.getElem?_eq_getElem (show k<o.length by rw [hO.lo]; omega)]; rfl
   have:=hG.2.2.1 _ (List.mem_of_getElem? hm)
   rw [z4n]
   omega
 have hs64:=z0d hr
 have hpn:=hps _ (Nat.le_refl _)
 refine ⟨g,?_,⟨4398046511104,⟨hO,fun a ha=>?_,fun a ha=>?_⟩,Int.le_refl _,?_⟩,fun v hv=>?_,fun s hs hrm=>?_,fun h=>by omega⟩
 ·unfold z0k
  exact List.map_congr_left fun v hv=>by rw [h1 v (List.mem_range.1 hv)]
 ·have ok:=z1p hr ha
  rw [hx a ha]
  exact ⟨Int.le_refl _,ok.c.imp id (·.1)⟩
 ·have ok:=z1p hr ha
  have:=ok.l0; have:=ok.l1
  rw [hx a ha]; omega
 ·have:=hj.le
  rw [Int.pow_succ]; omega
 ·exact hS.db hr (h1 v hv)
 ·obtain ⟨a,k⟩:=s
  have ha:a<I.arcs.length:=hs
  refine h2 (a,k) hs ?_
  rw [Int.pow_succ] at hrm
  unfold rmS at hrm
  dsimp only at hrm
  rw [hx a ha] at hrm
  cases k with
  | true=>simp only [if_true] at hrm; omega
  | false =>
   simp only [Bool.false_eq_true,if_false] at hrm
   by_cases hc:(z22 I a).cap=inf
   ·unfold endS; simp [hc]
   ·rw [if_neg hc] at hrm
    have:=(hj.caps a ha).resolve_left hc
    have:=(z1p hr ha).l0
    omega
theorem ph_sat {I:Inst} (hr:z05 I=0) {x o:List Int} {g:Nat->Int} {k:Nat} (h:PhI I x o g (k+1)):∃ B,SatG I x o (z0k I.sup.length fun v=>some (g v)) ((2:Int) ^ k) g B (z4n o I.sup.length)/\B+z4n o I.sup.length+4096 * (2:Int) ^ k <= 144115188075855872:=by
 obtain ⟨B,hN,hB,hb⟩:=h.ex
 have hp:=z8m k
 have hps:=z1w o I.sup.length
 have e2:(2:Int) ^ (k+1)=2 * (2:Int) ^ k:=by rw [Int.pow_succ]; omega
 rw [e2] at hb
 refine ⟨B,⟨rfl,h.gb,hB,by omega,by omega,⟨hN,fun s hs hrm=>h.pot s hs (by rw [e2]; exact hrm),fun s _ hd=>(by rw [doneJ_zero] at hd; cases hd),by omega⟩,fun s hs he=>h.pot s hs ?_⟩,by omega⟩
 unfold endS at he
 rw [Bool.and_eq_true,Bool.not_eq_true',decide_eq_true_eq] at he
 unfold rmS
 rw [he.1,if_neg Bool.false_ne_true,if_pos he.2,e2]
 omega
theorem ph_lump {I:Inst} (hr:z05 I=0) {x o x1 o1:List Int} {g:Nat->Int} {k:Nat} (h:PhI I x o g (k+1)) (hS:SatP I x o (z0k I.sup.length fun v=>some (g v)) ((2:Int) ^ k) x1 o1):LpI I x1 o1 ((2:Int) ^ k):=by
 obtain ⟨B,hG,hb⟩:=ph_sat hr h
 have h1:=hS.all _ _ _ hG
 have hs64:=z0d hr
 have hp:=z8m k
 have h2:2 * (2:Int) ^ k * ((2 * I.arcs.length:Nat):Int) <= 2 * (2:Int) ^ k * 512:=Int.mul_le_mul_of_nonneg_left (by omega) (by omega)
 have h3:=h1.p
 exact ⟨⟨B,h1.n,hG.b0,by omega⟩,g,fun s hs hc=>h1.lo s hs rfl (by unfold z9x at hc; exact of_decide_eq_true hc)⟩
theorem lump_more {I:Inst} (hr:z05 I=0) {x o:List Int} {L:Int} (hL:1 <= L) (h:LpI I x o L) {d:Nat->Option Int} {b:Nat->Option Stp} {e:Option Nat} (hS:ShortP I (z9x I x L) (fun v=>decide (L <= o.getD v 0)) d b e) {v:Nat} (hv:v<I.sup.length) (h1:o.getD v 0 <= -L) {c:Int} (hc:d v=some c) :
  AlOk I x o (z0j I.sup.length b) v/\LpI I (z2r x (alL I (z0j I.sup.length b) v) (alU I x o (z0j I.sup.length b) v)) (z20 I o (alL I (z0j I.sup.length b) v) (alU I x o (z0j I.sup.length b) v)) L /\
  (z4n (z20 I o (alL I (z0j I.sup.length b) v) (alU I x o (z0j I.sup.length b) v)) I.sup.length).toNat<(z4n o I.sup.length).toNat:=by
 obtain ⟨⟨B,hN,hB,hb⟩,π,hπ⟩:=h
 have hps:=z1w o I.sup.length
 obtain ⟨he,hcv,ρ,hT,hρ⟩:=zb0 hr hS hπ
 obtain ⟨⟨c',hroot⟩,hw⟩:=zgt hr hS (fun v s hv hs=>(hT v s hv hs).1) I.sup.length v hv c hc
 obtain ⟨-,-,hbn,hrl⟩:=zem hr hT I.sup.length v hv (hρ v hv)
 have hst:=hS.no hrl hbn hroot
 rw [decide_eq_true_eq] at hst
 obtain ⟨A,hU,a1,a2⟩:=al_ok hr hN (by omega) (by omega) hT hρ hv (show 0 <= L by omega) hst (by omega) (fun s hs=>by have:=hw s hs; unfold z9x at this; exact of_decide_eq_true this)
 obtain ⟨n1,n2,n3⟩:=al_does hN (by omega) A (by omega)
 have n4:=z1w (z20 I o (alL I (z0j I.sup.length b) v) (alU I x o (z0j I.sup.length b) v)) I.sup.length
 refine ⟨A,⟨⟨_,n1,by omega,by omega⟩,al_pot (o:=o) hr hS hπ hv hc fun s hs hlt=>by rw [<- a1]; exact n3 s hs hlt⟩,by omega⟩
theorem lump_end {I:Inst} (hr:z05 I=0) {x o:List Int} {L:Int} (h:LpI I x o L) {d:Nat->Option Int} {b:Nat->Option Stp} {e:Option Nat} (hS:ShortP I (z9x I x L) (fun v=>decide (L <= o.getD v 0)) d b e) (h1:∀ v,v<I.sup.length->o.getD v 0 <= -L->d v=none):Stk I x o L:=by
 obtain ⟨⟨B,hN,hB,hb⟩,π,hπ⟩:=h
 obtain ⟨he,hcv,-⟩:=zb0 hr hS hπ
 refine ⟨fun v=>(d v).isSome,fun v hv h2=>?_,fun s hs h2 h3=>?_,fun v hv h2=>?_⟩
 ·obtain ⟨c,hc⟩:=hS.st hv (decide_eq_true h2)
  dsimp only; rw [hc]; rfl
 ·obtain ⟨u,hu⟩:=Option.isSome_iff_exists.1 h3
  obtain ⟨c,hc,-⟩:=hcv s hs (decide_eq_true h2) u hu
  dsimp only; rw [hc]; rfl
 ·dsimp only; rw [h1 v hv h2]; rfl
theorem ph_next {I:Inst} (hr:z05 I=0) {x o:List Int} {k:Nat} (h:LpI I x o ((2:Int) ^ k)) (hs:Stk I x o ((2:Int) ^ k)) {d:Nat->Option Int} {b:Nat->Option Stp} {e:Option Nat} (hS:ShortP I (z9x I x ((2:Int) ^ k)) (fun _=>true) d b e):∃ g:Nat->Int,z0k I.sup.length d=z0k I.sup.length (fun v=>some (g v))/\PhI I x o g k:=by
 obtain ⟨hex,π,hπ⟩:=h
 obtain ⟨g,h1,h2⟩:=znh hr hS hπ
 refine ⟨g,?_,hex,fun v hv=>hS.db hr (h1 v hv),fun s hs hrm=>h2 s hs (decide_eq_true hrm),fun hk=>by subst hk; simpa using hs⟩
 unfold z0k
 exact List.map_congr_left fun v hv=>by rw [h1 v (List.mem_range.1 hv)]
theorem ph_end {I:Inst} {x0 o0 x o:List Int} (h0:zig I x0 o0) {g:Nat->Int} (h:PhI I x o g 0):CheapP I x o:=by
 obtain ⟨hr,-,-,-,-,y,hy,hf⟩:=h0
 obtain ⟨B,hN,hB,hb⟩:=h.ex
 obtain ⟨d,d1,d2,d3⟩:=h.st rfl
 have hps:=z1w o I.sup.length
 have hz:=stuck_zero hr hN.over hN.betw d1 d2 d3 hy hf
 refine ⟨zl5 hr hN.over hN.betw hz,yb_of fun k hk=>?_,hN.over.lo,g,fun s hs hc=>h.pot s hs ?_⟩
 ·have:=hN.bd k (by rw [<- hN.over.lx]; exact hk); omega
 ·have e1:(2:Int) ^ 0=1:=by simp
  rw [e1]
  rw [Bool.or_eq_true,decide_eq_true_eq] at hc
  rcases hc with hc | hc
  ·unfold endS at hc
   rw [Bool.and_eq_true,Bool.not_eq_true',decide_eq_true_eq] at hc
   unfold rmS
   rw [hc.1,if_neg Bool.false_ne_true,if_pos hc.2]; omega
  ·omega
def z2o (k:Nat):Int:=if k=0 then 0 else (2:Int) ^ (k - 1)
theorem z2p (j:Nat):z2o (j+1)=(2:Int) ^ j:=by simp [z2o]
theorem lumpV_half (k:Nat):((2:Int) ^ k).tdiv 2=z2o k:=by
 cases k with
 | zero=>rfl
 | succ j =>
  rw [z2p,Int.pow_succ]
  exact Int.mul_tdiv_cancel _ (by omega)
def negF (n:Nat) (g:Nat->Int):List Int:=(List.range n).map fun v=>-g v
structure PriceP (I:Inst) (x p:List Int):Prop where
 ex:∃ g,z8y I (fun s=>endS I s || decide (0<rmS I x s)) g/\p=negF I.sup.length g/\(∀ v,v<I.sup.length->-144115188075855872 <= g v/\g v <= 144115188075855872)/\∀ C:Int,0 <= C->(∀ s,okS I s->-C <= csS I s/\csS I s <= C)->∀ v,v<I.sup.length->-(C * 32768) <= g v/\g v <= C * 32768
theorem negF_get (n:Nat) (g:Nat->Int) {v:Nat} (h:v<n):(negF n g).getD v 0 = -g v:=by
 unfold negF
 rw [List.getD_eq_getElem?_getD,List.getElem?_map,List.getElem?_range h]; rfl
theorem prices_slack {I:Inst} {x p:List Int} (hf:z1a I x=0) (h:PriceP I x p):z17 I x p=0:=by
 obtain ⟨hr,hl,ha,-⟩:=fitsF_zero.1 hf
 obtain ⟨g,hg,rfl,hb,-⟩:=h.ex
 unfold z17
 rw [if_neg (fun e=>e hf),if_neg (by simp [negF]),if_pos]
 rw [List.all_eq_true]
 intro k hk
 have hk:=List.mem_range.1 hk
 obtain ⟨hget,hm⟩:=z85 hk
 have ok:=z1p hr hk
 have ho:=(z1h hr hm).1
 have hft:=fitsAll_iff.1 ha k _ hget
 have b1:=hb _ ok.s1
 have b2:=hb _ ok.d1
 have f1:=hg (k,false) hk
 have f2:=hg (k,true) hk
 have:=ok.s0; have:=ok.d0; have:=ok.l0; have:=ok.l1
 have ek:I.arcs.getD k default=z22 I k:=rfl
 have e:redF I (negF I.sup.length g) k=(z22 I k).cost+g (z22 I k).src.toNat - g (z22 I k).dst.toNat:=by
  rw [redF_at hget ho]
  unfold redP redA potR
  rw [if_pos ok.s0,if_pos ok.d0,negF_get _ _ ok.s1,negF_get _ _ ok.d1]
  omega
 have hcost:-4398046511104 <= (z22 I k).cost/\(z22 I k).cost <= 4398046511104:=by
  have:=zh2 hr (s:=(k,false)) hk
  unfold csS at this
  simpa using this
 unfold z4m z5r
 rw [e,ek]
 have hsg:sgn ((z22 I k).cost+g (z22 I k).src.toNat - g (z22 I k).dst.toNat)=if (z22 I k).cost+g (z22 I k).src.toNat - g (z22 I k).dst.toNat<0 then -1 else if 0<(z22 I k).cost+g (z22 I k).src.toNat - g (z22 I k).dst.toNat then 1 else 0:=by
  unfold sgn
  rw [zbj (by unfold zb7; omega) (by unfold zb7; omega)]
 rw [hsg]
 unfold endS toS frS csS rmS at f1 f2
 simp only [if_true,Bool.false_eq_true,if_false,Bool.not_false,Bool.not_true,Bool.true_and,Bool.false_and,Bool.false_or,Bool.or_eq_true,decide_eq_true_eq] at f1 f2
 unfold fitF at hft
 simp only [Bool.and_eq_true,Bool.or_eq_true,decide_eq_true_eq] at hft
 obtain ⟨r,er⟩:∃ r,r=(z22 I k).cost+g (z22 I k).src.toNat - g (z22 I k).dst.toNat:=⟨_,rfl⟩
 rw [<- er]
 obtain ⟨u,hu⟩:∃ u,u=x.getD k 0:=⟨_,rfl⟩
 rw [<- hu] at f1 f2 hft ⊢
 by_cases c1:r<0
 ·have hc:¬ (z22 I k).cap=inf:=fun h=>by have:=f1 (.inl h); omega
  have hx:u=(z22 I k).cap:=by
   rw [if_neg hc] at f1
   by_cases h0:0<(z22 I k).cap - u
   ·have:=f1 (.inr h0); omega
   ·unfold inf at *; omega
  simp [c1,hc,hx]
 ·by_cases c2:0<r
  ·have hx:u=(z22 I k).low:=by
    by_cases h0:0<u - (z22 I k).low
    ·have:=f2 h0; omega
    ·omega
   simp [c1,c2,hx]
  ·simp [c1,c2]
theorem least_of {P:Nat->Prop}:∀ k,P k->∃ j,j <= k/\P j/\∀ i,i<j->¬ P i:=by
 intro k
 induction k using Nat.strongRecOn with
 | ind k ih =>
  intro hk
  by_cases h:∃ i,i<k/\P i
  ·obtain ⟨i,hi,hp⟩:=h
   obtain ⟨j,h1,h2,h3⟩:=ih i hi hp
   exact ⟨j,by omega,h2,h3⟩
  ·exact ⟨k,Nat.le_refl _,hk,fun i hi hp=>h ⟨i,hi,hp⟩⟩
structure Circ (I:Inst) (b:Nat->Option Stp) (m k:Nat):Prop where
 mn:m<I.sup.length
 k1:1 <= k
 kn:k <= I.sup.length
 all:∀ i,∃ s,b (z0n I b m i)=some s/\okS I s/\endS I s=true/\toS I s=z0n I b m i
 back:z0n I b m k=m
 not:∀ i,1 <= i->i<k->z0n I b m i ≠ m
 neg:z8z I b m k<0
theorem circ_of {I:Inst} (hr:z05 I=0) {d:Nat->Option Int} {b:Nat->Option Stp} {v:Nat} (hS:ShortP I (endS I) (fun _=>true) d b (some v)):v<I.sup.length/\(∀ t,∃ s,b (z0n I b v t)=some s/\okS I s)/\∃ k,Circ I b (z0n I b v I.sup.length) k:=by
 obtain ⟨r,⟨⟨τ,T,t,hB⟩,-⟩,-,hrn⟩:=hS.inv
 have er:=hrn v rfl
 subst er
 obtain ⟨hv,-,-⟩:=hB.la v rfl
 have hok:∀ v s,v<I.sup.length->b v=some s->okS I s:=fun v s hv hb=>(hB.by_ v s hv hb).1
 have hlt:=z60 hr hok hv
 have hk0:∀ i,i<I.sup.length->∃ s,b (z0n I b v i)=some s:=fun i hi=>(hB.long hr rfl i hi).1
 obtain ⟨i,j,hij,hjn,he⟩:=pigeon (fun i=>z0n I b v i) fun i _=>hlt i
 have hper:∀ t,i <= t->z0n I b v (t+(j - i))=z0n I b v t:=fun t ht=>by
  have e1:t+(j - i)=j+(t - i):=by omega
  have e2:t=i+(t - i):=by omega
  rw [e1,z3a]
  conv=>rhs; rw [e2,z3a]
  rw [show z0n I b v j=z0n I b v i from he.symm]
 have hall:∀ t,∃ s,b (z0n I b v t)=some s:=by
  intro t
  induction t using Nat.strongRecOn with
  | ind t ih =>
   by_cases h:t<I.sup.length
   ·exact hk0 t h
   ·obtain ⟨s,hs⟩:=ih (t - (j - i)) (by omega)
    have:=hper (t - (j - i)) (by omega)
    rw [show t - (j - i)+(j - i)=t by omega] at this
    exact ⟨s,by rw [this]; exact hs⟩
 have hm:∀ t,z0n I b (z0n I b v I.sup.length) t=z0n I b v (I.sup.length+t):=fun t=>(z3a I b v _ t).symm
 have hP:1 <= j - i/\z0n I b (z0n I b v I.sup.length) (j - i)=z0n I b v I.sup.length:=⟨by omega,by rw [hm]; exact hper _ (by omega)⟩
 obtain ⟨k,h1,⟨h2,h3⟩,h4⟩:=least_of (P:=fun k=>1 <= k/\z0n I b (z0n I b v I.sup.length) k=z0n I b v I.sup.length) _ hP
 refine ⟨hv,fun t=>(hall t).imp fun s hs=>⟨hs,hok _ s (hlt t) hs⟩,k,hlt _,h2,by omega,fun t=>?_,h3,fun t ht1 ht2 h=>h4 t ht2 ⟨ht1,h⟩,hB.cycle hr (hlt _) h2 (fun t _=>by rw [hm]; exact hall _) h3⟩
 obtain ⟨s,hs⟩:=hall (I.sup.length+t)
 rw [<- hm] at hs
 obtain ⟨a1,a2,a3,-⟩:=hB.by_ _ s (by rw [hm]; exact hlt _) hs
 exact ⟨s,hs,a1,a2,a3⟩
def arcB (I:Inst) (b:Nat->Option Stp) (m i:Nat):Int:=match b (z0n I b m i) with
 | some s=>(s.1:Int)
 | none=>0
def z3u (I:Inst) (b:Nat->Option Stp) (m k:Nat):List Int:=(List.range k).map (arcB I b m)
theorem circL_succ (I:Inst) (b:Nat->Option Stp) (m k:Nat):z3u I b m (k+1)=z3u I b m k ++ [arcB I b m k]:=by
 unfold z3u; rw [List.range_succ,List.map_append]; rfl
theorem Circ.arc {I:Inst} (hr:z05 I=0) {b:Nat->Option Stp} {m k:Nat} (h:Circ I b m k) (i:Nat):∃ a,a<I.arcs.length/\b (z0n I b m i)=some (a,false)/\arcB I b m i=(a:Int)/\(z22 I a).cap=inf/\(z22 I a).dst=(z0n I b m i:Int)/\(z22 I a).src=(z0n I b m (i+1):Int):=by
 obtain ⟨⟨a,q⟩,hs,ha,he,ht⟩:=h.all i
 unfold endS at he
 rw [Bool.and_eq_true,Bool.not_eq_true',decide_eq_true_eq] at he
 have hq:q=false:=he.1
 subst hq
 have ok:=z1p hr (show a<I.arcs.length from ha)
 have:=ok.s0; have:=ok.d0
 unfold toS at ht
 simp only [Bool.false_eq_true,if_false] at ht
 refine ⟨a,ha,hs,by unfold arcB; rw [hs],he.2,by omega,?_⟩
 rw [z0n,hs]
 show (z22 I a).src=((frS I (a,false):Nat):Int)
 unfold frS
 simp only [Bool.false_eq_true,if_false]
 omega
theorem Circ.inj {I:Inst} (hr:z05 I=0) {b:Nat->Option Stp} {m k:Nat} (h:Circ I b m k) {i j:Nat} (hij:i<j) (hj:j<k):arcB I b m i ≠ arcB I b m j:=fun he=>by
 obtain ⟨a,-,-,ea,-,da,-⟩:=h.arc hr i
 obtain ⟨a',-,-,ea',-,da',-⟩:=h.arc hr j
 have:a=a':=by omega
 subst this
 have hb:z0n I b m i=z0n I b m j:=by omega
 refine h.not (i+(k - j)) (by omega) (by omega) ?_
 rw [z3a,hb,<- z3a,show j+(k - j)=k by omega,h.back]
theorem Circ.few {I:Inst} (hr:z05 I=0) {b:Nat->Option Stp} {m k:Nat} (h:Circ I b m k):k <= I.arcs.length:=by
 apply Nat.le_of_not_lt
 intro hlt
 obtain ⟨i,j,hij,hj,he⟩:=pigeon (n:=I.arcs.length) (fun i=>(arcB I b m i).toNat) fun i _=>by
  obtain ⟨a,ha,-,ea,-⟩:=h.arc hr i
  omega
 obtain ⟨a,ha,-,ea,-⟩:=h.arc hr i
 obtain ⟨a',ha',-,ea',-⟩:=h.arc hr j
 exact h.inj hr hij (by omega) (by omega)
theorem rayK_sum (I:Inst) (l:List Int):∀ k,k <= l.length->z92 I l k=((l.take k).map (rayD I)).sum
 | 0,_=>by simp [z92]
 | k+1,h=>by
  have hk:l[k]? = some l[k]:=List.getElem?_eq_getElem (by omega)
  rw [z92,rayK_sum I l k (by omega),z1i hk,List.map_append,List.sum_append,List.getD_eq_getElem?_getD,hk]
  simp
theorem rayS_sum (I:Inst) (l:List Int):rayS I l=(l.map (rayD I)).sum:=by
 unfold rayS; rw [rayK_sum I l _ (Nat.le_refl _),List.take_length]
theorem sum_rev:∀ l:List Int,l.reverse.sum=l.sum
 | []=>rfl
 | a :: l=>by rw [List.reverse_cons,List.sum_append,sum_rev l]; simp; omega
theorem Circ.cost {I:Inst} (hr:z05 I=0) {b:Nat->Option Stp} {m k:Nat} (h:Circ I b m k):∀ j,((z3u I b m j).map (rayD I)).sum=z8z I b m j
 | 0=>rfl
 | j+1=>by
  obtain ⟨a,ha,hb,ea,-⟩:=h.arc hr j
  have e1:z4u I (a:Int)=true:=isArcF_iff.2 ⟨by omega,by omega⟩
  rw [circL_succ,List.map_append,List.sum_append,h.cost hr j,z8z,hb,ea]
  have e2:rayD I (a:Int)=csS I (a,false):=by
   unfold rayD csS z53 z22
   rw [if_pos e1,Int.toNat_natCast]
   rfl
  simp [e2]
theorem Circ.turns {I:Inst} (hr:z05 I=0) {b:Nat->Option Stp} {m k:Nat} (h:Circ I b m k):z21 I (z3u I b m k).reverse=0:=by
 have hlen:(z3u I b m k).length=k:=by simp [z3u]
 have hfew:=h.few hr
 have hk1:=h.k1
 have hget:∀ j,j<k->(z3u I b m k).reverse.getD j 0=arcB I b m (k - 1 - j):=fun j hj=>by
  rw [List.getD_eq_getElem?_getD,List.getElem?_reverse (by omega),hlen]
  unfold z3u
  rw [List.getElem?_map,List.getElem?_range (by omega)]; rfl
 have hmem:∀ x ∈ (z3u I b m k).reverse,∃ i,i<k/\x=arcB I b m i:=fun x hx=>by
  rw [List.mem_reverse] at hx
  obtain ⟨i,hi,rfl⟩:=List.mem_map.1 hx
  exact ⟨i,List.mem_range.1 hi,rfl⟩
 have hat:∀ i,∃ a,a<I.arcs.length/\arcB I b m i=(a:Int)/\(z53 I (arcB I b m i)).cap=inf/\(z53 I (arcB I b m i)).dst=(z0n I b m i:Int)/\(z53 I (arcB I b m i)).src=(z0n I b m (i+1):Int):=fun i=>by
  obtain ⟨a,ha,hb,ea,h1,h2,h3⟩:=h.arc hr i
  refine ⟨a,ha,ea,?_⟩
  rw [ea]
  exact ⟨h1,h2,h3⟩
 have c1:c1F I (z3u I b m k).reverse=true:=List.all_eq_true.2 fun x hx=>by
  obtain ⟨i,hi,rfl⟩:=hmem x hx
  obtain ⟨a,ha,ea,-⟩:=hat i
  rw [ea]; exact isArcF_iff.2 ⟨by omega,by omega⟩
 have c2:c2F (z3u I b m k).reverse=true:=decide_eq_true (by
  unfold z3u List.Nodup
  rw [List.pairwise_reverse,List.pairwise_map]
  exact List.Pairwise.imp_of_mem (fun _ hb hab=>(h.inj hr hab (List.mem_range.1 hb)).symm) List.pairwise_lt_range)
 have c3:c3F I (z3u I b m k).reverse=true:=List.all_eq_true.2 fun j hj=>by
  rw [List.length_reverse,hlen,List.mem_range] at hj
  unfold linkF
  rw [List.length_reverse,hlen,hget j hj]
  refine decide_eq_true ?_
  obtain ⟨-,-,-,-,e1,-⟩:=hat (k - 1 - j)
  rw [e1]
  by_cases hj2:j+1<k
  ·rw [Nat.mod_eq_of_lt hj2,hget _ hj2]
   obtain ⟨-,-,-,-,-,e2⟩:=hat (k - 1 - (j+1))
   rw [e2,show k - 1 - (j+1)+1=k - 1 - j by omega]
  ·have ej:j+1=k:=by omega
   rw [ej,Nat.mod_self,hget 0 (by omega)]
   obtain ⟨-,-,-,-,-,e2⟩:=hat (k - 1 - 0)
   rw [e2,show k - 1 - 0+1=k by omega,h.back,show k - 1 - j=0 by omega]
   rfl
 have c4:c4F I (z3u I b m k).reverse=true:=List.all_eq_true.2 fun x hx=>by
  obtain ⟨i,hi,rfl⟩:=hmem x hx
  obtain ⟨-,-,-,e1,-⟩:=hat i
  exact decide_eq_true e1
 have c5:c5F I (z3u I b m k).reverse=true:=by
  refine decide_eq_true ?_
  have e1:rayS I (z3u I b m k).reverse=z8z I b m k:=by rw [rayS_sum,List.map_reverse,sum_rev,h.cost hr]
  have e2:=rayK_bd hr (z3u I b m k).reverse (z3u I b m k).reverse.length
  have e3:z92 I (z3u I b m k).reverse (z3u I b m k).reverse.length=z8z I b m k:=e1
  rw [e3,List.length_reverse,hlen] at e2
  have hs:=z0d hr
  have hn:=h.neg
  rw [e1,zbj (by unfold zb7; omega) (by unfold zb7; omega),if_pos hn]
  decide
 unfold z21
 rw [if_neg (by simp [hr]),List.length_reverse,hlen,if_neg (by omega),c1,c2,c3,c4,c5]
 rfl
structure RoundP (I:Inst) (l:List Int) (f:Bool):Prop where
 yes:f=true->z21 I l=0
 no:f=false->l=[]/\∃ π,z8y I (endS I) π
structure CircA (I:Inst) (b:Nat->Option Stp) (v:Nat):Prop where
 vn:v<I.sup.length
 all:∀ t,∃ s,b (z0n I b v t)=some s/\okS I s
 circ:∃ k,Circ I b (z0n I b v I.sup.length) k
theorem circ_a {I:Inst} (hr:z05 I=0) {d:Nat->Option Int} {b:Nat->Option Stp} {v:Nat} (hS:ShortP I (endS I) (fun _=>true) d b (some v)):CircA I b v:=by
 obtain ⟨h1,h2,h3⟩:=circ_of hr hS
 exact ⟨h1,h2,h3⟩
theorem short_none {I:Inst} {cnt:Stp->Bool} {d:Nat->Option Int} {b:Nat->Option Stp} (hr:z05 I=0) (hS:ShortP I cnt (fun _=>true) d b none):z8y I cnt fun v=>(d v).getD 0:=by
 obtain ⟨r,⟨⟨τ,T,t,hB⟩,-⟩,h1,-⟩:=hS.inv
 intro s hs hc
 have hf:=z31 hr hs
 rcases h1 rfl with h3 | h3
 ·obtain ⟨u,hu⟩:=hS.st hf rfl
  obtain ⟨c,h4,h5⟩:=hB.end_ h3 (fun _ _=>rfl) s hs hc u hu
  dsimp only
  rw [hu,h4]; exact h5
 ·omega
def zhp (l:List Int) (i:Nat):List Int:=(List.range l.length).map fun t=>if t<i ∨ l.length <= t+i then l.getD (l.length - 1 - t) 0 else l.getD t 0
theorem zat (l:List Int) (i:Nat):(zhp l i).length=l.length:=by simp [zhp]
theorem zdn {l:List Int} {i t:Nat} (h:t<l.length):(zhp l i)[t]? = some (if t<i ∨ l.length <= t+i then l.getD (l.length - 1 - t) 0 else l.getD t 0):=by
 unfold zhp; rw [List.getElem?_map,List.getElem?_range h]; rfl
theorem revK_zero (l:List Int):zhp l 0=l:=by
 refine List.ext_getElem? fun t=>?_
 by_cases h:t<l.length
 ·rw [zdn h,if_neg (by omega),List.getD_eq_getElem?_getD,List.getElem?_eq_getElem h]; rfl
 ·rw [List.getElem?_eq_none (by rw [zat]; omega),List.getElem?_eq_none (by omega)]
theorem revK_end {l:List Int} {i:Nat} (hi:l.length <= 2 * i+1):zhp l i=l.reverse:=by
 refine List.ext_getElem? fun t=>?_
 by_cases h:t<l.length
 ·rw [zdn h,List.getElem?_reverse h]
  by_cases h2:t<i ∨ l.length <= t+i
  ·rw [if_pos h2,List.getD_eq_getElem?_getD,List.getElem?_eq_getElem (by omega)]; rfl
  ·rw [if_neg h2,List.getD_eq_getElem?_getD,show l.length - 1 - t=t by omega,List.getElem?_eq_getElem h]; rfl
 ·rw [List.getElem?_eq_none (by rw [zat]; omega),List.getElem?_eq_none (by rw [List.length_reverse]; omega)]
theorem revK_next {l:List Int} {i j:Nat} (hj:j+i+1=l.length) (hij:i<j) {x y:Int} (hx:(zhp l i)[i]? = some x) (hy:(zhp l i)[j]? = some y):((zhp l i).set i y).set j x=zhp l (i+1):=by
 refine List.ext_getElem? fun t=>?_
 rw [zdn (by omega),if_neg (by omega)] at hx hy
 cases hx; cases hy
 by_cases h:t<l.length
 ·rw [zdn h,List.getElem?_set,List.getElem?_set]
  simp only [List.length_set,zat]
  by_cases h1:j=t
  ·subst h1
   rw [if_pos rfl,if_pos h,if_pos (.inr (by omega)),show l.length - 1 - j=i by omega]
  ·rw [if_neg h1]
   by_cases h2:i=t
   ·subst h2
    rw [if_pos rfl,if_pos (by omega),if_pos (.inl (by omega)),show l.length - 1 - i=j by omega]
   ·rw [if_neg h2,zdn h]
    by_cases h3:t<i ∨ l.length <= t+i
    ·rw [if_pos h3,if_pos (by omega)]
    ·rw [if_neg h3,if_neg (by omega)]
 ·rw [List.getElem?_eq_none (by simp [zat]; omega),List.getElem?_eq_none (by rw [zat]; omega)]
theorem ShortP.ok {I:Inst} {cnt:Stp->Bool} {start:Nat->Bool} {d:Nat->Option Int} {b:Nat->Option Stp} {e:Option Nat} (h:ShortP I cnt start d b e) {v:Nat} {s:Stp} (hv:v<I.sup.length) (hs:b v=some s):okS I s:=by
 obtain ⟨r,⟨⟨τ,T,t,hB⟩,-⟩,-⟩:=h.inv
 exact (hB.by_ v s hv hs).1
end Go.Ql
end
