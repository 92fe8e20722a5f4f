/- Part of the proof: Solve4, Solve5, Solve6, Solve7, Solve8, Solve9, Solve10, Solve11, Solve12. -/
import Derived.Test.YtggblkbecekbdaaGreatZG7
set_option linter.all false
set_option linter.unusedSimpArgs false
set_option linter.unusedVariables false
section
namespace Go.Ql
open Go Go.Vc
theorem over_sum {I:Inst} (hr:z02 I=0) {x o:List Int} (h:OverOf I x o):z1h (fun v=>o.getD v 0) I.sup.length=0:=by
 have h1:z1h (fun v=>o.getD v 0) I.sup.length=z1h (fun v=>I.sup.getD v 0 - z3z I.sup.length I.arcs x I.arcs.length v) I.sup.length:=z18 h.at_
 rw [h1,zae,netK_sum,<- sum_sumTo,(z1n hr).2]; rfl
theorem posS_sum (o:List Int):∀ k,z1h (fun v=>o.getD v 0) k <= z4k o k
 | 0=>Int.le_refl _
 | k+1=>by have:=posS_sum o k; rw [z1h,z4k]; omega
theorem posS_low {o:List Int} {v:Nat}:∀ {k:Nat},v<k->z1h (fun v=>o.getD v 0) k - o.getD v 0 <= z4k o k
 | 0,h=>by omega
 | k+1,h=>by
  rw [z1h,z4k]
  by_cases e:v=k
  ·subst e; have:=posS_sum o v; omega
  ·have:=posS_low (o:=o) (v:=v) (k:=k) (by omega); omega
theorem over_bd {I:Inst} (hr:z02 I=0) {x o:List Int} (h:OverOf I x o) {v:Nat} (hv:v<I.sup.length):-(z4k o I.sup.length) <= o.getD v 0/\o.getD v 0 <= z4k o I.sup.length:=by
 have h1:=posS_low (o:=o) hv
 rw [over_sum hr h] at h1
 have h2:=posS_ge (o:=o) hv
 omega
theorem over_zero {I:Inst} (hr:z02 I=0) {x o:List Int} (h:OverOf I x o) (h0:∀ v,v<I.sup.length->o.getD v 0 <= 0):∀ v,v<I.sup.length->o.getD v 0=0:=fun v hv=>by
 have h1:=posS_low (o:=o) hv
 rw [over_sum hr h] at h1
 have h2:z4k o I.sup.length=0:=by
  have:∀ k,k <= I.sup.length->z4k o k=0:=by
   intro k
   induction k with
   | zero=>intro _; rfl
   | succ k ih=>intro hk; rw [z4k,ih (by omega)]; have:=h0 k (by omega); omega
  exact this _ (Nat.le_refl _)
 have:=h0 v hv
 omega
def z90 (I:Inst) (cnt:Stp->Bool) (π:Nat->Int):Prop:=∀ s,okS I s->cnt s=true->π (toS I s) <= π (frS I s)+csS I s
theorem pot_round {I:Inst} {cnt:Stp->Bool} {π:Nat->Int} (hp:z90 I cnt π) {b:Nat->Option Stp} (hb:∀ v s,v<I.sup.length->b v=some s->okS I s/\cnt s=true/\toS I s=v) (hr:z02 I=0) {v:Nat} (hv:v<I.sup.length) :
  ∀ k,(∀ i,i<k->∃ s,b (z0p I b v i)=some s)->π v <= π (z0p I b v k)+z91 I b v k
 | 0,_=>by rw [z91]; simp only [z0p]; omega
 | k+1,h=>by
  have ih:=pot_round hp hb hr hv k fun i hi=>h i (by omega)
  obtain ⟨s,hs⟩:=h k (by omega)
  have hlt:=z61 hr (fun v s hv hs=>(hb v s hv hs).1) hv k
  obtain ⟨h1,h2,h3⟩:=hb _ s hlt hs
  have:=hp s h1 h2
  rw [h3] at this
  have en:z0p I b v (k+1)=frS I s:=by rw [z0p,hs]
  have ec:z91 I b v (k+1)=z91 I b v k+csS I s:=by rw [z91,hs]
  rw [en,ec]; omega
def zca (I:Inst) (b:Nat->Option Stp):Nat->Nat->Nat
 | 0,_=>0
 | f+1,v=>match b v with
  | none=>0
  | some s=>zca I b f (frS I s)+1
theorem zji {I:Inst} {b:Nat->Option Stp} {v:Nat} {s:Stp} (h:b v=some s) (k:Nat):z0p I b v (k+1)=z0p I b (frS I s) k:=by
 have:=z34 I b v 1 k
 rw [show k+1=1+k by omega,this]
 congr 1
 simp [z0p,h]
theorem z6p {I:Inst} {b:Nat->Option Stp}:∀ (k f v:Nat),b (z0p I b v k)=none->k <= f->zca I b f v=zca I b k v/\zca I b k v <= k
 | 0,f,v,h,_=>by
  simp only [z0p] at h
  cases f with
  | zero=>exact ⟨rfl,Nat.le_refl _⟩
  | succ f=>simp [zca,h]
 | k+1,0,v,_,h=>by omega
 | k+1,f+1,v,h,hf=>by
  rw [zca,zca]
  cases hb:b v with
  | none=>exact ⟨rfl,Nat.zero_le _⟩
  | some s =>
   rw [zji hb] at h
   obtain ⟨h1,h2⟩:=z6p k f (frS I s) h (by omega)
   dsimp only
   rw [h1]
   exact ⟨rfl,Nat.succ_le_succ h2⟩
theorem zb4 {I:Inst} (hr:z02 I=0) {cnt:Stp->Bool} {start:Nat->Bool} {d:Nat->Option Int} {b:Nat->Option Stp} {e:Option Nat} (h:ShortP I cnt start d b e) {π:Nat->Int} (hp:z90 I cnt π) :
  e=none/\(∀ s,okS I s->cnt s=true->∀ u,d (frS I s)=some u->∃ c,d (toS I s)=some c/\c <= u+csS I s)/\∃ ρ,Tree I b ρ/\∀ v,v<I.sup.length->ρ v<I.sup.length:=by
 obtain ⟨r,⟨⟨τ,T,t,hB⟩,hD⟩,h1,h2⟩:=h.inv
 have hby:∀ v s,v<I.sup.length->b v=some s->okS I s/\cnt s=true/\toS I s=v:=fun v s hv hs=>by
  obtain ⟨q1,q2,q3,-⟩:=hB.by_ v s hv hs; exact ⟨q1,q2,q3⟩
 have hlt:=fun (v:Nat) (hv:v<I.sup.length) (k:Nat)=>z61 hr (fun v s hv hs=>(hby v s hv hs).1) hv k
 have hno:∀ v,v<I.sup.length->¬ ∀ k,k<I.sup.length->∃ s,b (z0p I b v k)=some s:=fun v hv hall=>by
  obtain ⟨i,j,hij,hj,he⟩:=pigeon (n:=I.sup.length) (fun k=>z0p I b v k) fun k _=>hlt v hv k
  have hw:=hlt v hv i
  have hk:∀ k,k<j - i->∃ s,b (z0p I b (z0p I b v i) k)=some s:=fun k hk=>by
   rw [<- z34]; exact hall (i+k) (by omega)
  have hc:z0p I b (z0p I b v i) (j - i)=z0p I b v i:=by
   rw [<- z34,show i+(j - i)=j by omega]; exact he.symm
  have c1:=hB.cycle hr hw (by omega) hk hc
  have c2:=pot_round hp hby hr hw (j - i) hk
  rw [hc] at c2
  omega
 have he:e=none:=by
  cases hev:e with
  | none=>rfl
  | some v =>
   exact absurd (fun k hk=>((hB.long hr hev) k (by have:=h2 v hev; omega)).1) (hno v (hB.la v hev).1)
 subst he
 refine ⟨rfl,fun s hs hc u hu=>?_,fun v=>zca I b I.sup.length v,fun v s hv hs=>?_,fun v hv=>?_⟩
 ·rcases h1 rfl with h3 | h3
  ·exact hB.end_ h3 (fun _ _=>rfl) s hs hc u hu
  ·have:=z2w hr hs; omega
 ·obtain ⟨q1,q2,q3⟩:=hby v s hv hs
  refine ⟨q1,q3,?_⟩
  have:∃ k,k<I.sup.length/\b (z0p I b v k)=none:=by
   apply Classical.byContradiction
   intro hn
   exact hno v hv fun k hk=>by
    cases hb:b (z0p I b v k) with
    | none=>exact absurd ⟨k,hk,hb⟩ hn
    | some s=>exact ⟨s,rfl⟩
  obtain ⟨k,hk,hb⟩:=this
  cases k with
  | zero=>simp only [z0p] at hb; rw [hs] at hb; cases hb
  | succ k =>
   have e1:=(z6p (k+1) I.sup.length v hb (by omega)).1
   have hb2:=hb
   rw [zji hs] at hb2
   have e2:=(z6p k I.sup.length (frS I s) hb2 (by omega)).1
   show zca I b I.sup.length (frS I s)<zca I b I.sup.length v
   rw [e1,e2,zca,hs]
   exact Nat.lt_succ_self _
 ·have:∃ k,k<I.sup.length/\b (z0p I b v k)=none:=by
   apply Classical.byContradiction
   intro hn
   exact hno v hv fun k hk=>by
    cases hb:b (z0p I b v k) with
    | none=>exact absurd ⟨k,hk,hb⟩ hn
    | some s=>exact ⟨s,rfl⟩
  obtain ⟨k,hk,hb⟩:=this
  have:=z6p k I.sup.length v hb (by omega)
  dsimp only
  omega
theorem ShortP.by_ {I:Inst} {cnt:Stp->Bool} {start:Nat->Bool} {d:Nat->Option Int} {b:Nat->Option Stp} {e:Option Nat} (h:ShortP I cnt start d b e) {v:Nat} {s:Stp} (hv:v<I.sup.length) (hs:b v=some s):cnt s=true/\toS I s=v/\∃ c u,d v=some c/\d (frS I s)=some u/\u+csS I s <= c:=by
 obtain ⟨r,⟨⟨τ,T,t,hB⟩,hD⟩,h1,h2⟩:=h.inv
 obtain ⟨q1,q2,q3,c,u,q4,q5,q6,q7⟩:=hB.by_ v s hv hs
 exact ⟨q2,q3,c,u,q4,q5,q6⟩
theorem ShortP.no {I:Inst} {cnt:Stp->Bool} {start:Nat->Bool} {d:Nat->Option Int} {b:Nat->Option Stp} {e:Option Nat} (h:ShortP I cnt start d b e) {v:Nat} (hv:v<I.sup.length) (hs:b v=none) {c:Int} (hc:d v=some c):start v=true:=by
 obtain ⟨r,⟨⟨τ,T,t,hB⟩,hD⟩,h1,h2⟩:=h.inv
 exact (hB.no v hv hs c hc).1
theorem ShortP.st {I:Inst} {cnt:Stp->Bool} {start:Nat->Bool} {d:Nat->Option Int} {b:Nat->Option Stp} {e:Option Nat} (h:ShortP I cnt start d b e) {v:Nat} (hv:v<I.sup.length) (hs:start v=true):∃ c,d v=some c:=by
 obtain ⟨r,⟨⟨τ,T,t,hB⟩,hD⟩,h1,h2⟩:=h.inv
 obtain ⟨c,h3,-⟩:=hB.st v hv hs
 exact ⟨c,h3⟩
theorem ShortP.db {I:Inst} {cnt:Stp->Bool} {start:Nat->Bool} {d:Nat->Option Int} {b:Nat->Option Stp} {e:Option Nat} (h:ShortP I cnt start d b e) (hr:z02 I=0) {v:Nat} {c:Int} (hc:d v=some c):-144115188075855872 <= c/\c <= 144115188075855872:=by
 obtain ⟨r,⟨⟨τ,T,t,hB⟩,hD⟩,h1,h2⟩:=h.inv
 have:=hD.big hr (Nat.le_refl _) v c hc
 omega
theorem ShortP.few {I:Inst} {cnt:Stp->Bool} {start:Nat->Bool} {d:Nat->Option Int} {b:Nat->Option Stp} {e:Option Nat} (h:ShortP I cnt start d b e) {C:Int} (h0:0 <= C) (hC:∀ s,okS I s->-C <= csS I s/\csS I s <= C) {v:Nat} {c:Int} (hc:d v=some c):-(C * 32768) <= c/\c <= C * 32768:=by
 obtain ⟨r,⟨⟨τ,T,t,hB⟩,hD⟩,h1,h2⟩:=h.inv
 exact hD C h0 hC v c hc
theorem znh {I:Inst} (hr:z02 I=0) {cnt:Stp->Bool} {d:Nat->Option Int} {b:Nat->Option Stp} {e:Option Nat} (h:ShortP I cnt (fun _=>true) d b e) {π:Nat->Int} (hp:z90 I cnt π):∃ g:Nat->Int,(∀ v,v<I.sup.length->d v=some (g v))/\z90 I cnt g:=by
 obtain ⟨h1,h2,-⟩:=zb4 hr h hp
 have hk:∀ v,v<I.sup.length->∃ c,d v=some c:=fun v hv=>h.st hv rfl
 refine ⟨fun v=>(d v).getD 0,fun v hv=>?_,fun s hs hc=>?_⟩
 ·obtain ⟨c,hc⟩:=hk v hv
  dsimp only
  rw [hc]; rfl
 ·obtain ⟨u,hu⟩:=hk _ (z2w hr hs)
  obtain ⟨c,h3,h4⟩:=h2 s hs hc u hu
  dsimp only
  rw [hu,h3]; exact h4
theorem max_of (f:Nat->Int):∀ n,∃ K,∀ i,i<n->f i <= K
 | 0=>⟨0,fun i hi=>absurd hi (Nat.not_lt_zero _)⟩
 | n+1=>by
  obtain ⟨K,hK⟩:=max_of f n
  refine ⟨max K (f n),fun i hi=>?_⟩
  by_cases e:i=n
  ·subst e; omega
  ·have:=hK i (by omega); omega
def za4 (I:Inst) (x:List Int) (L:Int):Stp->Bool:=fun s=>decide (L <= rmS I x s)
structure NInv (I:Inst) (x o:List Int) (B:Int):Prop where
 over:OverOf I x o
 betw:Betw I x
 bd:∀ a,a<I.arcs.length->-B <= x.getD a 0/\x.getD a 0 <= B
theorem zgr {I:Inst} (hr:z02 I=0) {cnt:Stp->Bool} {start:Nat->Bool} {d:Nat->Option Int} {b:Nat->Option Stp} {e:Option Nat} (h:ShortP I cnt start d b e) (hok:∀ v s,v<I.sup.length->b v=some s->okS I s):∀ (f v:Nat),v<I.sup.length->∀ c,d v=some c->(∃ c',d (z12 I b f v)=some c')/\∀ s ∈ z1u I b f v,cnt s=true
 | 0,v,_,c,hc=>⟨⟨c,hc⟩,fun s hs=>by simp [z1u] at hs⟩
 | f+1,v,hv,c,hc=>by
  rw [z1u,z12]
  cases hb:b v with
  | none=>exact ⟨⟨c,hc⟩,fun s hs=>by simp at hs⟩
  | some t =>
   obtain ⟨q1,q2,c',u,q3,q4,-⟩:=h.by_ hv hb
   obtain ⟨i1,i2⟩:=zgr hr h hok f (frS I t) (z2w hr (hok v t hv hb)) u q4
   refine ⟨i1,fun s hs=>?_⟩
   rcases List.mem_cons.1 hs with rfl | hs
   ·exact q1
   ·exact i2 s hs
theorem al_ok {I:Inst} (hr:z02 I=0) {x o:List Int} {B:Int} (hN:NInv I x o B) (hB:B <= 144115188075855872) (hP:z4k o I.sup.length <= 144115188075855872) {b:Nat->Option Stp} {ρ:Nat->Nat} (hT:Tree I b ρ) (hρ:∀ v,v<I.sup.length->ρ v<I.sup.length)
  {v:Nat} (hv:v<I.sup.length) {L:Int} (hL:0 <= L) (h1:L <= o.getD (z12 I b I.sup.length v) 0) (h2:L <= -(o.getD v 0)) (h3:∀ s ∈ z1u I b I.sup.length v,L <= rmS I x s) :
  AlOk I x o (z0k I.sup.length b) (v:Int)/\L <= alU I x o (z0k I.sup.length b) v/\alL I (z0k I.sup.length b) v=z1u I b I.sup.length v/\alR I (z0k I.sup.length b) v=z12 I b I.sup.length v:=by
 obtain ⟨e1,e2⟩:=znm hr (b:=b) (b':=bOf (z0k I.sup.length b)) (fun w hw=>(bOf_row b hw).symm) (fun w s hw hs=>(hT w s hw hs).1) I.sup.length v hv
 have a1:alL I (z0k I.sup.length b) v=z1u I b I.sup.length v:=by unfold alL; rw [Int.toNat_natCast]; exact e1.symm
 have a2:alR I (z0k I.sup.length b) v=z12 I b I.sup.length v:=by unfold alR; rw [Int.toNat_natCast]; exact e2.symm
 have hU:L <= alU I x o (z0k I.sup.length b) v:=by
  unfold alU
  refine unitsF_ge _ _ ?_ (by rw [a1]; exact h3)
  unfold alU0
  rw [a2,Int.toNat_natCast]; omega
 refine ⟨⟨hr,hN.over.lx,hN.over.lo,yb_of fun k hk=>?_,yb_of fun k hk=>?_,by omega,by rw [Int.toNat_natCast]; exact hv,⟨b,ρ,rfl,hT,hρ⟩,by omega⟩,hU,a1,a2⟩
 ·have:=hN.bd k (by rw [<- hN.over.lx]; exact hk); omega
 ·have:=over_bd hr hN.over (v:=k) (by rw [<- hN.over.lo]; exact hk); omega
theorem al_does {I:Inst} {x o:List Int} {B:Int} (hN:NInv I x o B) (hB0:0 <= B) {by_:List (List Int)} {e:Int} (A:AlOk I x o by_ e) (hU:1 <= alU I x o by_ e) :
  NInv I (z2m x (alL I by_ e) (alU I x o by_ e)) (z1y I o (alL I by_ e) (alU I x o by_ e)) (B+alU I x o by_ e) /\
  z4k (z1y I o (alL I by_ e) (alU I x o by_ e)) I.sup.length=z4k o I.sup.length - alU I x o by_ e /\
  ∀ s,okS I s->rmS I x s<rmS I (z2m x (alL I by_ e) (alU I x o by_ e)) s->(s.1,!s.2) ∈ alL I by_ e:=by
 obtain ⟨ρ,h1,h2⟩:=A.tree'
 have hr:=A.right
 have hn:=znn hr h1 I.sup.length e.toNat A.e1
 have hm:=A.mem
 have hle:=znl (I:=I) (x:=x) (alL I by_ e) (alU0 I o by_ e)
 have hx:=fun a=>zdr (u:=alU I x o by_ e) (x:=x) (l:=alL I by_ e) hn (fun s hs=>by rw [hN.over.lx]; exact hm s hs) a
 have ho:=zlf hr h1 (u:=alU I x o by_ e) I.sup.length e.toNat o A.e1 hN.over.lo
 have hst:=A.stop
 have hroot:alU I x o by_ e <= o.getD (alR I by_ e) 0/\alU I x o by_ e <= -(o.getD e.toNat 0):=by
  have:=hle.1
  unfold alU alU0 at *
  omega
 have hne:¬ e.toNat=alR I by_ e:=fun h=>by rw [<- h] at hroot; omega
 refine ⟨⟨hN.over.pushs hr _ hm,betw_pushs hN.betw hN.over.lx hn hm (by omega) fun s hs=>hle.2 s hs,fun a ha=>?_⟩,?_,fun s hs hlt=>?_⟩
 ·have:=hN.bd a ha
  rw [hx a]
  repeat' split <;> omega
 ·refine posS_less (r:=alR I by_ e) hst.2 (fun v hv hvr=>?_) ?_
  ·have:=ho v hv
   unfold alL
   rw [this]
   have hrv:¬ z12 I (bOf by_) I.sup.length e.toNat=v:=fun h=>hvr (by unfold alR; exact h.symm)
   rw [if_neg hrv]
   by_cases ev:e.toNat=v
   ·subst ev; rw [if_pos rfl]; omega
   ·rw [if_neg ev]; omega
  ·have:=ho (alR I by_ e) hst.2
   unfold alL
   rw [this,if_neg hne,if_pos (show z12 I (bOf by_) I.sup.length e.toNat=alR I by_ e from rfl)]
   omega
 ·obtain ⟨a,k⟩:=s
  unfold rmS at hlt
  dsimp only at hlt ⊢
  rw [hx a] at hlt
  cases k with
  | true =>
   simp only [if_true] at hlt
   rw [Bool.not_true]
   apply Classical.byContradiction
   intro h3
   rw [if_neg h3] at hlt
   split at hlt <;> omega
  | false =>
   simp only [Bool.false_eq_true,if_false] at hlt
   rw [Bool.not_false]
   apply Classical.byContradiction
   intro h3
   rw [if_neg h3] at hlt
   split at hlt
   ·omega
   ·split at hlt <;> omega
theorem al_pot {I:Inst} (hr:z02 I=0) {x o:List Int} {L:Int} {start:Nat->Bool} {d:Nat->Option Int} {b:Nat->Option Stp} {e:Option Nat} (h:ShortP I (za4 I x L) start d b e) {π:Nat->Int} (hp:z90 I (za4 I x L) π)
  {v:Nat} (hv:v<I.sup.length) {c:Int} (hc:d v=some c) {x':List Int} (hx:∀ s,okS I s->rmS I x s<rmS I x' s->(s.1,!s.2) ∈ z1u I b I.sup.length v):∃ π',z90 I (za4 I x' L) π':=by
 obtain ⟨he,hcv,ρ,hT,hρ⟩:=zb4 hr h hp
 obtain ⟨-,hw⟩:=zgr hr h (fun v s hv hs=>(hT v s hv hs).1) I.sup.length v hv c hc
 have hm:=zeu hr hT I.sup.length v hv
 obtain ⟨K1,hK1⟩:=max_of (fun a=>(d (toS I (a,false))).getD 0 - csS I (a,false) - π (frS I (a,false))) I.arcs.length
 obtain ⟨K2,hK2⟩:=max_of (fun a=>(d (toS I (a,true))).getD 0 - csS I (a,true) - π (frS I (a,true))) I.arcs.length
 have hK:∀ s,okS I s->(d (toS I s)).getD 0 - csS I s - π (frS I s) <= max K1 K2:=fun s hs=>by
  obtain ⟨a,k⟩:=s
  cases k with
  | false=>have:=hK1 a hs; omega
  | true=>have:=hK2 a hs; omega
 refine ⟨fun w=>match d w with | some c=>c | none=>π w+max K1 K2,fun s hs hcs=>?_⟩
 dsimp only
 by_cases hold:za4 I x L s=true
 ·cases hf:d (frS I s) with
  | some u =>
   obtain ⟨c2,h3,h4⟩:=hcv s hs hold u hf
   rw [h3]; exact h4
  | none =>
   cases ht:d (toS I s) with
   | none=>have:=hp s hs hold; dsimp only; omega
   | some c2=>have:=hK s hs; rw [ht] at this; simp only [Option.getD_some] at this; dsimp only; omega
 ·unfold za4 at hold hcs
  rw [decide_eq_true_eq] at hold hcs
  have hmem:=hx s hs (by omega)
  obtain ⟨m1,m2,-,-⟩:=hm _ hmem
  obtain ⟨a,k⟩:=s
  dsimp only at hmem m1 m2
  obtain ⟨f1,f2,f3⟩:=zkc I a k
  rw [f2] at m2
  obtain ⟨q1,q2,c2,u,q3,q4,q5⟩:=h.by_ (z2w hr hs) m2
  rw [f1] at q4
  rw [f3] at q5
  obtain ⟨c3,q6,q7⟩:=hcv _ m1 q1 u (by rw [f1]; exact q4)
  rw [f2] at q6
  rw [q3] at q6; cases q6
  rw [q3,q4]
  dsimp only
  omega
end Go.Ql
end
section
namespace Go.Ql
open Go Go.Vc
theorem posS_more {o p:List Int} {r:Nat} {u:Int} (hu:0 <= u):∀ {k:Nat},(∀ v,v<k->v ≠ r->max (p.getD v 0) 0 <= max (o.getD v 0) 0)->max (p.getD r 0) 0 <= max (o.getD r 0) 0+u->z4k p k <= z4k o k+u
 | 0,_,_=>by rw [z4k,z4k]; omega
 | k+1,h1,h2=>by
  rw [z4k,z4k]
  by_cases e:r=k
  ·subst e
   have:∀ j,j <= r->z4k p j <= z4k o j:=by
    intro j
    induction j with
    | zero=>intro _; exact Int.le_refl _
    | succ j ih=>intro hj; rw [z4k,z4k]; have:=ih (by omega); have:=h1 j (by omega) (by omega); omega
   have:=this r (Nat.le_refl _); omega
  ·have:=posS_more (o:=o) (p:=p) (r:=r) hu (k:=k) (fun v hv hne=>h1 v (by omega) hne) h2
   have:=h1 k (by omega) (fun e'=>e e'.symm); omega
theorem posS_push {I:Inst} (hr:z02 I=0) {o:List Int} (ho:o.length=I.sup.length) {s:Stp} (hs:okS I s) {u:Int} (hu:0 <= u):z4k (z6y I o s u) I.sup.length <= z4k o I.sup.length+u:=by
 refine posS_more (r:=toS I s) hu (fun v hv hne=>?_) ?_
 ·rw [zdq (by rw [ho]; exact hv)]
  (repeat' split) <;> omega
 ·rw [zdq (by rw [ho]; exact z5q hr hs)]
  (repeat' split) <;> omega
def rcOk (I:Inst) (g:Nat->Int) (s:Stp):Prop:=g (toS I s) <= g (frS I s)+csS I s
theorem rc_flip {I:Inst} {g:Nat->Int} {a:Nat} {k:Bool} (h:¬ rcOk I g (a,k)):rcOk I g (a,!k):=by
 obtain ⟨f1,f2,f3⟩:=zkc I a k
 unfold rcOk at *
 rw [f1,f2,f3]; omega
structure SatI (I:Inst) (g:Nat->Int) (L B P:Int) (q:Nat) (done:Stp->Bool) (x o:List Int):Prop where
 n:NInv I x o B
 hi:∀ s,okS I s->2 * L <= rmS I x s->rcOk I g s
 lo:∀ s,okS I s->done s=true->L <= rmS I x s->rcOk I g s
 p:z4k o I.sup.length <= P+2 * L * q
theorem rmS_other {x:List Int} {I:Inst} {s t:Stp} {u:Int} (hl:x.length=I.arcs.length) (hs:okS I s) (h:t.1 ≠ s.1):rmS I (z4s x s u) t=rmS I x t:=by
 unfold rmS
 rw [z8m (by rw [hl]; exact hs),if_neg h,Int.add_zero]
theorem rmS_self {x:List Int} {I:Inst} {s:Stp} (hl:x.length=I.arcs.length) (hs:okS I s) (hc:s.2=false->¬ (z2z I s.1).cap=inf):rmS I (z4s x s (rmS I x s)) s=0:=by
 have e:=z8m (x:=x) (s:=s) (u:=rmS I x s) (a:=s.1) (by rw [hl]; exact hs)
 rw [if_pos rfl] at e
 unfold rmS at *
 rw [e]
 cases h:s.2 with
 | true=>simp only [h,if_true] at *; omega
 | false=>simp only [h,Bool.false_eq_true,if_false,if_neg (hc h)] at *; omega
theorem SatI.skip {I:Inst} {g:Nat->Int} {L B P:Int} {q a:Nat} {k:Bool} {x o:List Int} (h:SatI I g L B P q (z1e a (bif k then 1 else 0)) x o) (hL:0 <= L) (hn:L <= rmS I x (a,k)->rcOk I g (a,k)):SatI I g L B P (q+1) (z1e a ((bif k then 1 else 0)+1)) x o :=
  { n:=h.n,hi:=h.hi,
    lo:=fun s hs hd hr=>by
      rw [zap] at hd
      by_cases e:s=(a,k)
      · subst e; exact hn hr
      · rw [decide_eq_false e,Bool.or_false] at hd
        exact h.lo s hs hd hr,
    p:=by
      have:=h.p
      have e:2 * L * ((q+1:Nat):Int)=2 * L * q+2 * L:=by rw [Int.natCast_add,Int.mul_add]; simp
      omega }
theorem SatI.fill {I:Inst} (hr:z02 I=0) {g:Nat->Int} {L B P:Int} {q a:Nat} {k:Bool} {x o:List Int} (h:SatI I g L B P q (z1e a (bif k then 1 else 0)) x o) (hL:1 <= L) (hB:4398046511104 <= B) (ha:a<I.arcs.length)
  (h1:L <= rmS I x (a,k)) (h2:¬ rcOk I g (a,k)) (hinf:endS I (a,k)=true->rcOk I g (a,k)):SatI I g L B P (q+1) (z1e a ((bif k then 1 else 0)+1)) (z4s x (a,k) (rmS I x (a,k))) (z6y I o (a,k) (rmS I x (a,k))):=by
 have hs:okS I (a,k):=ha
 have hlt:rmS I x (a,k)<2 * L:=by
  apply Int.lt_of_not_ge
  intro hge
  exact h2 (h.hi _ hs hge)
 have hc:k=false->¬ (z2z I a).cap=inf:=fun hk hcap=>h2 (hinf (by subst hk; unfold endS; simp [hcap]))
 have hfl:=rc_flip h2
 have hz:=rmS_self (x:=x) (s:=(a,k)) h.n.over.lx hs hc
 have hother:∀ s,okS I s->s.1 ≠ a->rmS I (z4s x (a,k) (rmS I x (a,k))) s=rmS I x s:=fun s _ hne=>rmS_other h.n.over.lx hs hne
 have hcase:∀ s:Stp,s.1=a->s=(a,k) ∨ s=(a,!k):=fun s hsa=>by
  obtain ⟨a',k'⟩:=s
  dsimp only at hsa
  subst hsa
  by_cases e:k'=k
  ·subst e; exact .inl rfl
  ·refine .inr ?_; cases k <;> cases k' <;> simp_all
 have hbt:=betw_push h.n.betw h.n.over.lx hs (show 0 <= rmS I x (a,k) by omega) (Int.le_refl _)
 refine ⟨⟨h.n.over.push hr hs _,hbt,fun c hcl=>?_⟩,fun s h3 h4=>?_,fun s h3 h4 h5=>?_,?_⟩
 ·by_cases e:c=a
  ·subst e
   have ok:=z1j hr hcl
   have hb:=hbt c hcl
   have hx:=z8m (x:=x) (s:=(c,k)) (u:=rmS I x (c,k)) (a:=c) (by rw [h.n.over.lx]; exact hs)
   rw [if_pos rfl] at hx
   dsimp only at hx
   have hbd:=h.n.bd c hcl
   have l0:=ok.l0
   have l1:=ok.l1
   refine ⟨by omega,?_⟩
   cases hk:k with
   | true =>
    subst hk
    simp only [if_true] at hx
    unfold rmS at hx ⊢
    simp only [if_true] at hx ⊢
    omega
   | false =>
    subst hk
    have hc2:=(ok.c.resolve_left (hc rfl)).2
    have:=hb.2.resolve_left (hc rfl)
    omega
  ·have hx:=z8m (x:=x) (s:=(a,k)) (u:=rmS I x (a,k)) (a:=c) (by rw [h.n.over.lx]; exact hs)
   rw [if_neg e,Int.add_zero] at hx
   rw [hx]; exact h.n.bd c hcl
 ·by_cases e:s.1=a
  ·rcases hcase s e with rfl | rfl
   ·rw [hz] at h4; omega
   ·exact hfl
  ·rw [hother s h3 e] at h4; exact h.hi s h3 h4
 ·by_cases e:s.1=a
  ·rcases hcase s e with rfl | rfl
   ·rw [hz] at h5; omega
   ·exact hfl
  ·rw [hother s h3 e] at h5
   rw [zap,decide_eq_false (fun e'=>e (by rw [e'])),Bool.or_false] at h4
   exact h.lo s h3 h4 h5
 ·have:=posS_push hr h.n.over.lo hs (u:=rmS I x (a,k)) (by omega)
  have:=h.p
  have e:2 * L * ((q+1:Nat):Int)=2 * L * q+2 * L:=by rw [Int.natCast_add,Int.mul_add]; simp
  omega
theorem badA_none {m:Int} {side:List Bool} {l:List Arc} (h:∀ a ∈ l,zl1 m side a=true->¬ a.cap=inf):∃ t,z19 m side l 0=some t/\t=(l.map fun a=>if zl1 m side a then a.cap else if inA m side a then -a.low else 0).sum:=by
 have:∀ (l:List Arc) (s:Int),(∀ a ∈ l,zl1 m side a=true->¬ a.cap=inf)->z19 m side l s=some (s+(l.map fun a=>if zl1 m side a then a.cap else if inA m side a then -a.low else 0).sum):=by
  intro l
  induction l with
  | nil=>intro s _; simp [z19]
  | cons a l ih =>
   intro s h
   rw [z5p,List.map_cons,List.sum_cons]
   by_cases h1:zl1 m side a=true
   ·rw [if_pos h1,if_neg (h a (by simp) h1),ih _ (fun b hb=>h b (by simp [hb])),if_pos h1]
    congr 1; omega
   ·rw [if_neg h1,if_neg h1]
    by_cases h2:inA m side a=true
    ·rw [if_pos h2,if_pos h2,ih _ (fun b hb=>h b (by simp [hb]))]; congr 1; omega
    ·rw [if_neg h2,if_neg h2,ih _ (fun b hb=>h b (by simp [hb]))]; congr 1; omega
 exact ⟨_,by rw [this l 0 h,Int.zero_add],rfl⟩
theorem cross_full {m:Int} {side:List Bool} {l:List Arc} {x:List Int} (h1:∀ j a,l[j]? = some a->zl1 m side a=true->¬ a.cap=inf/\x.getD j 0=a.cap) (h2:∀ j a,l[j]? = some a->inA m side a=true->x.getD j 0=a.low) :
  ∀ k,k <= l.length->zba m side l x k=((l.take k).map fun a=>if zl1 m side a then a.cap else if inA m side a then -a.low else 0).sum
 | 0,_=>rfl
 | k+1,hk=>by
  have ih:=cross_full h1 h2 k (by omega)
  have ha:l[k]? = some l[k]:=List.getElem?_eq_getElem (by omega)
  rw [zba,z1b ha,List.map_append,List.sum_append,ih]
  have hd:l.getD k default=l[k]:=by rw [List.getD_eq_getElem?_getD,ha]; rfl
  rw [hd]
  unfold crossD
  simp only [List.map_cons,List.map_nil,List.sum_cons,List.sum_nil,Int.add_zero]
  by_cases q1:zl1 m side l[k]=true
  ·rw [if_pos q1,if_pos q1,(h1 k _ ha q1).2,if_neg (by rw [out_not_in q1]; exact Bool.false_ne_true)]; omega
  ·rw [if_neg q1,if_neg q1]
   by_cases q2:inA m side l[k]=true
   ·rw [if_pos q2,if_pos q2,h2 k _ ha q2]; omega
   ·rw [if_neg q2,if_neg q2]; omega
theorem zni {I:Inst} (hr:z02 I=0) {x o:List Int} (h:OverOf I x o) (hb:Betw I x) {side:List Bool} (hl:side.length=I.sup.length) (hcl:∀ s,okS I s->0<rmS I x s->side.getD (frS I s) false=true->side.getD (toS I s) false=true)
  (hpos:0<z1h (fun v=>if side.getD v false then o.getD v 0 else 0) I.sup.length):z32 I side=0:=by
 have hs:=z0e hr
 have hin:=right_in hr
 have hout:∀ j a,I.arcs[j]? = some a->zl1 I.sup.length side a=true->¬ a.cap=inf/\x.getD j 0=a.cap:=fun j a ha ho=>by
  have hj:=(List.getElem?_eq_some_iff.1 ha).1
  rw [(on_in (hin a (List.mem_of_getElem? ha))).1,Bool.and_eq_true,Bool.not_eq_true'] at ho
  have hq:=hcl (j,false) hj
  have e1:frS I (j,false)=a.src.toNat:=by simp [frS,z27 ha]
  have e2:toS I (j,false)=a.dst.toNat:=by simp [toS,z27 ha]
  rw [e1,e2] at hq
  have hz:¬ 0<rmS I x (j,false):=fun h0=>by rw [hq h0 ho.1] at ho; exact absurd ho.2 (by simp)
  have hb2:=hb j hj
  rw [z27 ha] at hb2
  unfold rmS at hz
  dsimp only at hz
  rw [if_neg Bool.false_ne_true,z27 ha] at hz
  by_cases hc:a.cap=inf
  ·rw [if_pos hc] at hz; omega
  ·rw [if_neg hc] at hz
   have:=hb2.2.resolve_left hc
   exact ⟨hc,by omega⟩
 have hinn:∀ j a,I.arcs[j]? = some a->inA I.sup.length side a=true->x.getD j 0=a.low:=fun j a ha ho=>by
  have hj:=(List.getElem?_eq_some_iff.1 ha).1
  rw [(on_in (hin a (List.mem_of_getElem? ha))).2,Bool.and_eq_true,Bool.not_eq_true'] at ho
  have hq:=hcl (j,true) hj
  have e1:frS I (j,true)=a.dst.toNat:=by simp [frS,z27 ha]
  have e2:toS I (j,true)=a.src.toNat:=by simp [toS,z27 ha]
  rw [e1,e2] at hq
  have hz:¬ 0<rmS I x (j,true):=fun h0=>by rw [hq h0 ho.1] at ho; exact absurd ho.2 (by simp)
  have hb2:=hb j hj
  rw [z27 ha] at hb2
  unfold rmS at hz
  dsimp only at hz
  rw [if_pos rfl,z27 ha] at hz
  omega
 obtain ⟨t,ht,htv⟩:=badA_none (m:=(I.sup.length:Int)) (side:=side) (l:=I.arcs) fun a ha ho=>by
  obtain ⟨j,hj⟩:=List.mem_iff_getElem?.1 ha
  exact (hout j a hj ho).1
 have hcf:=cross_full hout hinn I.arcs.length (Nat.le_refl _)
 rw [List.take_length,<- htv] at hcf
 have hneed:zdl I side=z1h (fun v=>if side.getD v false then o.getD v 0 else 0) I.sup.length+t:=by
  unfold zdl
  rw [zbz,<- hcf,<- zjx,<- zac]
  refine z18 fun v hv=>?_
  have:=h.at_ v hv
  split <;> omega
 have hcm:=cmp_need (side:=side) (s:=t) hr (by omega) (by omega) (z1n hr).1 ht (zdl I side) rfl
 unfold z32
 rw [if_neg (fun h=>h hr),if_neg (fun h=>h hl),show z50 I side=some t from ht]
 dsimp only
 rw [if_neg (fun hle=>by have:=hcm.1 hle; omega)]
theorem stuck_zero {I:Inst} (hr:z02 I=0) {x o:List Int} (h:OverOf I x o) (hb:Betw I x) {d:Nat->Bool} (h1:∀ v,v<I.sup.length->1 <= o.getD v 0->d v=true) (h2:∀ s,okS I s->1 <= rmS I x s->d (frS I s)=true->d (toS I s)=true) (h3:∀ v,v<I.sup.length->o.getD v 0 <= -1->d v=false)
  {y:List Int} (hy:A64 y) (hf:z1w I y=0):∀ v,v<I.sup.length->o.getD v 0=0:=by
 refine over_zero hr h fun v hv=>?_
 apply Classical.byContradiction
 intro hn
 have hs:=z0e hr
 have hget:∀ w,w<I.sup.length->((List.range I.sup.length).map d).getD w false=d w:=fun w hw=>by
  rw [List.getD_eq_getElem?_getD,List.getElem?_map,List.getElem?_range hw]; rfl
 have hp:=zni (side:=(List.range I.sup.length).map d) hr h hb (by simp) (fun s hs h0 hd=>by
  rw [hget _ (z2w hr hs)] at hd
  rw [hget _ (z5q hr hs)]
  exact h2 s hs (by omega) hd) (by
   have hnn:∀ w,w<I.sup.length->0 <= (if ((List.range I.sup.length).map d).getD w false then o.getD w 0 else 0):=fun w hw=>by
    rw [hget w hw]
    split
    ·rename_i hd
     apply Int.le_of_not_gt
     intro hlt
     rw [h3 w hw (by omega)] at hd; cases hd
    ·omega
   have:∀ k,k <= I.sup.length->0 <= z1h (fun w=>if ((List.range I.sup.length).map d).getD w false then o.getD w 0 else 0) k/\(v<k->0<z1h (fun w=>if ((List.range I.sup.length).map d).getD w false then o.getD w 0 else 0) k):=by
    intro k
    induction k with
    | zero=>intro _; exact ⟨Int.le_refl _,fun h=>absurd h (Nat.not_lt_zero _)⟩
    | succ k ih =>
     intro hk
     obtain ⟨i1,i2⟩:=ih (by omega)
     have:=hnn k (by omega)
     rw [z1h]
     refine ⟨by omega,fun hvk=>?_⟩
     by_cases e:v=k
     ·subst e
      rw [hget v hv,h1 v hv (by omega),if_pos rfl]
      omega
     ·have:=i2 (by omega); omega
   exact (this _ (Nat.le_refl _)).2 hv)
 exact z8l (by omega) (by omega) hy (z1n hr).1 hp hf
def GreatOk (I:Inst) (o:List Int):Prop:=o.length <= 1000/\I.arcs.length <= 1000/\(∀ y ∈ o,-536870912 <= y/\y <= 536870912)/\∀ a ∈ I.arcs,a.cap=inf ∨ -536870912 <= a.cap/\a.cap <= 536870912
structure GreatP (I:Inst) (j:Nat):Prop where
 caps:∀ a,a<I.arcs.length->(z2z I a).cap=inf ∨ (z2z I a).cap <= (2:Int) ^ j
 le:(2:Int) ^ j <= 1073741824
def MostI (I:Inst) (a:Nat) (m:Int):Prop:=(∀ c,c<a->(z2z I c).cap=inf ∨ (z2z I c).cap <= m)/\1 <= m/\m <= 536870912
structure SatG (I:Inst) (x o:List Int) (D:List (List Int)) (L:Int) (g:Nat->Int) (B P:Int):Prop where
 d:D=z0m I.sup.length fun v=>some (g v)
 gb:∀ v,v<I.sup.length->-144115188075855872 <= g v/\g v <= 144115188075855872
 b0:4398046511104 <= B
 b1:B <= 144115188075855872
 p:P+2 * L * 512 <= 144115188075855872
 s:SatI I g L B P 0 (z1e 0 0) x o
 e:∀ s,okS I s->endS I s=true->rcOk I g s
def SatOk (I:Inst) (x o:List Int) (D:List (List Int)) (L:Int):Prop:=z02 I=0/\1 <= L/\L <= 1152921504606846976/\∃ g B P,SatG I x o D L g B P
def SatJ (I:Inst) (x0 o0:List Int) (D:List (List Int)) (L:Int) (a j:Nat) (x o:List Int):Prop:=∀ g B P,SatG I x0 o0 D L g B P->SatI I g L B P (2 * a+j) (z1e a j) x o
structure SatP (I:Inst) (x0 o0:List Int) (D:List (List Int)) (L:Int) (x o:List Int):Prop where
 all:∀ g B P,SatG I x0 o0 D L g B P->SatI I g L B P (2 * I.arcs.length) allD x o
theorem SatI.bounds {I:Inst} (hr:z02 I=0) {g:Nat->Int} {L B P:Int} {q:Nat} {done:Stp->Bool} {x o:List Int} (h:SatI I g L B P q done x o) (hL:1 <= L) (hq:q <= 512) (hB:B <= 144115188075855872) (hP:P+2 * L * 512 <= 144115188075855872):x.length=I.arcs.length/\o.length=I.sup.length/\YB x/\YB o:=by
 have hPq:2 * L * (q:Int) <= 2 * L * 512:=Int.mul_le_mul_of_nonneg_left (by omega) (by omega)
 have hp:=h.p
 refine ⟨h.n.over.lx,h.n.over.lo,yb_of fun k hk=>?_,yb_of fun k hk=>?_⟩
 ·have:=h.n.bd k (by rw [<- h.n.over.lx]; exact hk); omega
 ·have:=over_bd hr h.n.over (v:=k) (by rw [<- h.n.over.lo]; exact hk); omega
theorem SatI.congr {I:Inst} {g:Nat->Int} {L B P:Int} {q q':Nat} {done done':Stp->Bool} {x o:List Int} (h:SatI I g L B P q done x o) (hL:0 <= L) (hd:∀ s,okS I s->done' s=true->done s=true) (hq:q <= q'):SatI I g L B P q' done' x o :=
  { n:=h.n,hi:=h.hi,lo:=fun s hs hds hr=>h.lo s hs (hd s hs hds) hr,
    p:=by
      have:=h.p
      have:2 * L * (q:Int) <= 2 * L * q':=Int.mul_le_mul_of_nonneg_left (by omega) (by omega)
      omega }
theorem SatJ.skip {I:Inst} {x0 o0:List Int} {D:List (List Int)} {L:Int} {a:Nat} {k:Bool} {x o:List Int} (h:SatJ I x0 o0 D L a (bif k then 1 else 0) x o) (hL:0 <= L) (hn:L <= rmS I x (a,k)->∀ g:Nat->Int,D=z0m I.sup.length (fun v=>some (g v))->rcOk I g (a,k)):SatJ I x0 o0 D L a ((bif k then 1 else 0)+1) x o :=
 fun g B P hG=>(h g B P hG).skip hL fun hl=>hn hl g hG.d
theorem SatJ.fill {I:Inst} (hr:z02 I=0) {x0 o0:List Int} {D:List (List Int)} {L:Int} {a:Nat} {k:Bool} {x o:List Int} (h:SatJ I x0 o0 D L a (bif k then 1 else 0) x o) (hL:1 <= L) (ha:a<I.arcs.length) (h1:L <= rmS I x (a,k)) (hn:∀ g:Nat->Int,D=z0m I.sup.length (fun v=>some (g v))->¬ rcOk I g (a,k)) :
  SatJ I x0 o0 D L a ((bif k then 1 else 0)+1) (z4s x (a,k) (rmS I x (a,k))) (z6y I o (a,k) (rmS I x (a,k))) :=
 fun g B P hG=>(h g B P hG).fill hr hL hG.b0 ha h1 (hn g hG.d) (hG.e (a,k) ha)
theorem SatJ.next {I:Inst} {x0 o0:List Int} {D:List (List Int)} {L:Int} {a:Nat} {x o:List Int} (h:SatJ I x0 o0 D L a 2 x o) (hL:0 <= L):SatJ I x0 o0 D L (a+1) 0 x o:=fun g B P hG=>(h g B P hG).congr hL (fun s _ hd=>by rw [z9e]; exact hd) (by omega)
theorem SatJ.done {I:Inst} {x0 o0:List Int} {D:List (List Int)} {L:Int} {x o:List Int} (h:SatJ I x0 o0 D L I.arcs.length 0 x o) (hL:0 <= L):SatP I x0 o0 D L x o:=⟨fun g B P hG=>(h g B P hG).congr hL (fun s hs _=>z4l hs) (by omega)⟩
theorem SatJ.begin {I:Inst} {x0 o0:List Int} {D:List (List Int)} {L:Int}:SatJ I x0 o0 D L 0 0 x0 o0:=fun g B P hG=>hG.s
theorem z49 {n v:Nat} {g:Nat->Int} {D:List (List Int)} (hD:D=z0m n fun v=>some (g v)) {y:List Int} (hy:D[v]? = some y):y.headD 0=g v/\v<n:=by
 subst hD
 obtain ⟨h1,h2⟩:=z1v hy
 subst h2
 exact ⟨rfl,h1⟩
theorem z8k (j:Nat):(1:Int) <= (2:Int) ^ j:=by
 induction j with
 | zero=>simp
 | succ j ih=>rw [Int.pow_succ]; omega
theorem MostI.arc {I:Inst} {a:Nat} {m:Int} (h:MostI I a m) {y:Arc} (hy:I.arcs[a]? = some y) {m':Int} (hm:m <= m') (hc:y.cap=inf ∨ y.cap <= m') (hl:m' <= 536870912):MostI I (a+1) m':=by
 refine ⟨fun c hc2=>?_,by have:=h.2.1; omega,hl⟩
 by_cases e:c=a
 ·subst e; rw [z27 hy]; exact hc
 ·exact (h.1 c (by omega)).imp id (by omega)
def Stk (I:Inst) (x o:List Int) (L:Int):Prop:=∃ d:Nat->Bool,(∀ v,v<I.sup.length->L <= o.getD v 0->d v=true)/\(∀ s,okS I s->L <= rmS I x s->d (frS I s)=true->d (toS I s)=true)/\∀ v,v<I.sup.length->o.getD v 0 <= -L->d v=false
structure PhI (I:Inst) (x o:List Int) (g:Nat->Int) (k:Nat):Prop where
 ex:∃ B,NInv I x o B/\4398046511104 <= B/\B+z4k o I.sup.length+2048 * (2:Int) ^ k <= 144115188075855872
 gb:∀ v,v<I.sup.length->-144115188075855872 <= g v/\g v <= 144115188075855872
 pot:∀ s,okS I s->(2:Int) ^ k <= rmS I x s->rcOk I g s
 st:k=0->Stk I x o 1
structure LpI (I:Inst) (x o:List Int) (L:Int):Prop where
 ex:∃ B,NInv I x o B/\4398046511104 <= B/\B+z4k o I.sup.length+2048 * L <= 144115188075855872
 pot:∃ π,z90 I (za4 I x L) π
def zik (I:Inst) (x o:List Int):Prop:=z02 I=0/\OverOf I x o/\(∀ a,a<I.arcs.length->x.getD a 0=(z2z I a).low)/\GreatOk I o/\(∃ π,z90 I (endS I) π)/\∃ y,A64 y/\z1w I y=0
structure CheapP (I:Inst) (x o:List Int):Prop where
 fits:z1w I x=0
 yb:YB x
 lo:o.length=I.sup.length
 pot:∃ g,z90 I (fun s=>endS I s || decide (0<rmS I x s)) g
theorem ph_begin {I:Inst} {x o:List Int} (h:zik I x o) {d:Nat->Option Int} {b:Nat->Option Stp} {e:Option Nat} (hS:ShortP I (endS I) (fun _=>true) d b e) {j:Nat} (hj:GreatP I j):∃ g:Nat->Int,z0m I.sup.length d=z0m I.sup.length (fun v=>some (g v))/\PhI I x o g (j+1):=by
 obtain ⟨hr,hO,hx,hG,⟨π,hπ⟩,hy⟩:=h
 obtain ⟨g,h1,h2⟩:=znh hr hS hπ
 have hpj:=z8k j
 have hps:∀ k,k <= I.sup.length->z4k o k <= 536870912 * (k:Int):=by
  intro k
  induction k with
  | zero=>intro _; simp [z4k]
  | succ k ih =>
   intro hk
   have:=ih (by omega)
   have hm:o[k]? = some (o.getD k 0):=by rw [List.getD_eq_getElem?_getD,List.getElem?_eq_getElem (show k<o.length by rw [hO.lo]; omega)]; rfl
   have:=hG.2.2.1 _ (List.mem_of_getElem? hm)
   rw [z4k]
   omega
 have hs64:=z0e hr
 have hpn:=hps _ (Nat.le_refl _)
 refine ⟨g,?_,⟨4398046511104,⟨hO,fun a ha=>?_,fun a ha=>?_⟩,Int.le_refl _,?_⟩,fun v hv=>?_,fun s hs hrm=>?_,fun h=>by omega⟩
 ·unfold z0m
  exact List.map_congr_left fun v hv=>by rw [h1 v (List.mem_range.1 hv)]
 ·have ok:=z1j hr ha
  rw [hx a ha]
  exact ⟨Int.le_refl _,ok.c.imp id (·.1)⟩
 ·have ok:=z1j hr ha
  have:=ok.l0; have:=ok.l1
  rw [hx a ha]; omega
 ·have:=hj.le
  rw [Int.pow_succ]; omega
 ·exact hS.db hr (h1 v hv)
 ·obtain ⟨a,k⟩:=s
  have ha:a<I.arcs.length:=hs
  refine h2 (a,k) hs ?_
  rw [Int.pow_succ] at hrm
  unfold rmS at hrm
  dsimp only at hrm
  rw [hx a ha] at hrm
  cases k with
  | true=>simp only [if_true] at hrm; omega
  | false =>
   simp only [Bool.false_eq_true,if_false] at hrm
   by_cases hc:(z2z I a).cap=inf
   ·unfold endS; simp [hc]
   ·rw [if_neg hc] at hrm
    have:=(hj.caps a ha).resolve_left hc
    have:=(z1j hr ha).l0
    omega
theorem ph_sat {I:Inst} (hr:z02 I=0) {x o:List Int} {g:Nat->Int} {k:Nat} (h:PhI I x o g (k+1)):∃ B,SatG I x o (z0m I.sup.length fun v=>some (g v)) ((2:Int) ^ k) g B (z4k o I.sup.length)/\B+z4k o I.sup.length+4096 * (2:Int) ^ k <= 144115188075855872:=by
 obtain ⟨B,hN,hB,hb⟩:=h.ex
 have hp:=z8k k
 have hps:=z1s o I.sup.length
 have e2:(2:Int) ^ (k+1)=2 * (2:Int) ^ k:=by rw [Int.pow_succ]; omega
 rw [e2] at hb
 refine ⟨B,⟨rfl,h.gb,hB,by omega,by omega,⟨hN,fun s hs hrm=>h.pot s hs (by rw [e2]; exact hrm),fun s _ hd=>(by rw [doneJ_zero] at hd; cases hd),by omega⟩,fun s hs he=>h.pot s hs ?_⟩,by omega⟩
 unfold endS at he
 rw [Bool.and_eq_true,Bool.not_eq_true',decide_eq_true_eq] at he
 unfold rmS
 rw [he.1,if_neg Bool.false_ne_true,if_pos he.2,e2]
 omega
theorem ph_lump {I:Inst} (hr:z02 I=0) {x o x1 o1:List Int} {g:Nat->Int} {k:Nat} (h:PhI I x o g (k+1)) (hS:SatP I x o (z0m I.sup.length fun v=>some (g v)) ((2:Int) ^ k) x1 o1):LpI I x1 o1 ((2:Int) ^ k):=by
 obtain ⟨B,hG,hb⟩:=ph_sat hr h
 have h1:=hS.all _ _ _ hG
 have hs64:=z0e hr
 have hp:=z8k k
 have h2:2 * (2:Int) ^ k * ((2 * I.arcs.length:Nat):Int) <= 2 * (2:Int) ^ k * 512:=Int.mul_le_mul_of_nonneg_left (by omega) (by omega)
 have h3:=h1.p
 exact ⟨⟨B,h1.n,hG.b0,by omega⟩,g,fun s hs hc=>h1.lo s hs rfl (by unfold za4 at hc; exact of_decide_eq_true hc)⟩
theorem lump_more {I:Inst} (hr:z02 I=0) {x o:List Int} {L:Int} (hL:1 <= L) (h:LpI I x o L) {d:Nat->Option Int} {b:Nat->Option Stp} {e:Option Nat} (hS:ShortP I (za4 I x L) (fun v=>decide (L <= o.getD v 0)) d b e) {v:Nat} (hv:v<I.sup.length) (h1:o.getD v 0 <= -L) {c:Int} (hc:d v=some c) :
  AlOk I x o (z0k I.sup.length b) v/\LpI I (z2m x (alL I (z0k I.sup.length b) v) (alU I x o (z0k I.sup.length b) v)) (z1y I o (alL I (z0k I.sup.length b) v) (alU I x o (z0k I.sup.length b) v)) L /\
  (z4k (z1y I o (alL I (z0k I.sup.length b) v) (alU I x o (z0k I.sup.length b) v)) I.sup.length).toNat<(z4k o I.sup.length).toNat:=by
 obtain ⟨⟨B,hN,hB,hb⟩,π,hπ⟩:=h
 have hps:=z1s o I.sup.length
 obtain ⟨he,hcv,ρ,hT,hρ⟩:=zb4 hr hS hπ
 obtain ⟨⟨c',hroot⟩,hw⟩:=zgr hr hS (fun v s hv hs=>(hT v s hv hs).1) I.sup.length v hv c hc
 obtain ⟨-,-,hbn,hrl⟩:=zev hr hT I.sup.length v hv (hρ v hv)
 have hst:=hS.no hrl hbn hroot
 rw [decide_eq_true_eq] at hst
 obtain ⟨A,hU,a1,a2⟩:=al_ok hr hN (by omega) (by omega) hT hρ hv (show 0 <= L by omega) hst (by omega) (fun s hs=>by have:=hw s hs; unfold za4 at this; exact of_decide_eq_true this)
 obtain ⟨n1,n2,n3⟩:=al_does hN (by omega) A (by omega)
 have n4:=z1s (z1y I o (alL I (z0k I.sup.length b) v) (alU I x o (z0k I.sup.length b) v)) I.sup.length
 refine ⟨A,⟨⟨_,n1,by omega,by omega⟩,al_pot (o:=o) hr hS hπ hv hc fun s hs hlt=>by rw [<- a1]; exact n3 s hs hlt⟩,by omega⟩
theorem lump_end {I:Inst} (hr:z02 I=0) {x o:List Int} {L:Int} (h:LpI I x o L) {d:Nat->Option Int} {b:Nat->Option Stp} {e:Option Nat} (hS:ShortP I (za4 I x L) (fun v=>decide (L <= o.getD v 0)) d b e) (h1:∀ v,v<I.sup.length->o.getD v 0 <= -L->d v=none):Stk I x o L:=by
 obtain ⟨⟨B,hN,hB,hb⟩,π,hπ⟩:=h
 obtain ⟨he,hcv,-⟩:=zb4 hr hS hπ
 refine ⟨fun v=>(d v).isSome,fun v hv h2=>?_,fun s hs h2 h3=>?_,fun v hv h2=>?_⟩
 ·obtain ⟨c,hc⟩:=hS.st hv (decide_eq_true h2)
  dsimp only; rw [hc]; rfl
 ·obtain ⟨u,hu⟩:=Option.isSome_iff_exists.1 h3
  obtain ⟨c,hc,-⟩:=hcv s hs (decide_eq_true h2) u hu
  dsimp only; rw [hc]; rfl
 ·dsimp only; rw [h1 v hv h2]; rfl
theorem ph_next {I:Inst} (hr:z02 I=0) {x o:List Int} {k:Nat} (h:LpI I x o ((2:Int) ^ k)) (hs:Stk I x o ((2:Int) ^ k)) {d:Nat->Option Int} {b:Nat->Option Stp} {e:Option Nat} (hS:ShortP I (za4 I x ((2:Int) ^ k)) (fun _=>true) d b e):∃ g:Nat->Int,z0m I.sup.length d=z0m I.sup.length (fun v=>some (g v))/\PhI I x o g k:=by
 obtain ⟨hex,π,hπ⟩:=h
 obtain ⟨g,h1,h2⟩:=znh hr hS hπ
 refine ⟨g,?_,hex,fun v hv=>hS.db hr (h1 v hv),fun s hs hrm=>h2 s hs (decide_eq_true hrm),fun hk=>by subst hk; simpa using hs⟩
 unfold z0m
 exact List.map_congr_left fun v hv=>by rw [h1 v (List.mem_range.1 hv)]
theorem ph_end {I:Inst} {x0 o0 x o:List Int} (h0:zik I x0 o0) {g:Nat->Int} (h:PhI I x o g 0):CheapP I x o:=by
 obtain ⟨hr,-,-,-,-,y,hy,hf⟩:=h0
 obtain ⟨B,hN,hB,hb⟩:=h.ex
 obtain ⟨d,d1,d2,d3⟩:=h.st rfl
 have hps:=z1s o I.sup.length
 have hz:=stuck_zero hr hN.over hN.betw d1 d2 d3 hy hf
 refine ⟨fits_over hr hN.over hN.betw hz,yb_of fun k hk=>?_,hN.over.lo,g,fun s hs hc=>h.pot s hs ?_⟩
 ·have:=hN.bd k (by rw [<- hN.over.lx]; exact hk); omega
 ·have e1:(2:Int) ^ 0=1:=by simp
  rw [e1]
  rw [Bool.or_eq_true,decide_eq_true_eq] at hc
  rcases hc with hc | hc
  ·unfold endS at hc
   rw [Bool.and_eq_true,Bool.not_eq_true',decide_eq_true_eq] at hc
   unfold rmS
   rw [hc.1,if_neg Bool.false_ne_true,if_pos hc.2]; omega
  ·omega
def z2j (k:Nat):Int:=if k=0 then 0 else (2:Int) ^ (k - 1)
theorem z2k (j:Nat):z2j (j+1)=(2:Int) ^ j:=by simp [z2j]
theorem lumpV_half (k:Nat):((2:Int) ^ k).tdiv 2=z2j k:=by
 cases k with
 | zero=>rfl
 | succ j =>
  rw [z2k,Int.pow_succ]
  exact Int.mul_tdiv_cancel _ (by omega)
def negF (n:Nat) (g:Nat->Int):List Int:=(List.range n).map fun v=>-g v
structure PriceP (I:Inst) (x p:List Int):Prop where
 ex:∃ g,z90 I (fun s=>endS I s || decide (0<rmS I x s)) g/\p=negF I.sup.length g/\(∀ v,v<I.sup.length->-144115188075855872 <= g v/\g v <= 144115188075855872)/\∀ C:Int,0 <= C->(∀ s,okS I s->-C <= csS I s/\csS I s <= C)->∀ v,v<I.sup.length->-(C * 32768) <= g v/\g v <= C * 32768
theorem negF_get (n:Nat) (g:Nat->Int) {v:Nat} (h:v<n):(negF n g).getD v 0 = -g v:=by
 unfold negF
 rw [List.getD_eq_getElem?_getD,List.getElem?_map,List.getElem?_range h]; rfl
theorem prices_slack {I:Inst} {x p:List Int} (hf:z1w I x=0) (h:PriceP I x p):z1l I x p=0:=by
 obtain ⟨hr,hl,ha,-⟩:=fitsF_zero.1 hf
 obtain ⟨g,hg,rfl,hb,-⟩:=h.ex
 unfold z1l
 rw [if_neg (fun e=>e hf),if_neg (by simp [negF]),if_pos]
 rw [List.all_eq_true]
 intro k hk
 have hk:=List.mem_range.1 hk
 obtain ⟨hget,hm⟩:=arcN_mem hk
 have ok:=z1j hr hk
 have ho:=(z1r hr hm).1
 have hft:=fitsAll_iff.1 ha k _ hget
 have b1:=hb _ ok.s1
 have b2:=hb _ ok.d1
 have f1:=hg (k,false) hk
 have f2:=hg (k,true) hk
 have:=ok.s0; have:=ok.d0; have:=ok.l0; have:=ok.l1
 have ek:I.arcs.getD k default=z2z I k:=rfl
 have e:redF I (negF I.sup.length g) k=(z2z I k).cost+g (z2z I k).src.toNat - g (z2z I k).dst.toNat:=by
  rw [redF_at hget ho]
  unfold redP redA potR
  rw [if_pos ok.s0,if_pos ok.d0,negF_get _ _ ok.s1,negF_get _ _ ok.d1]
  omega
 have hcost:-4398046511104 <= (z2z I k).cost/\(z2z I k).cost <= 4398046511104:=by
  have:=zh3 hr (s:=(k,false)) hk
  unfold csS at this
  simpa using this
 unfold z45 z6t
 rw [e,ek]
 have hsg:sgn ((z2z I k).cost+g (z2z I k).src.toNat - g (z2z I k).dst.toNat)=if (z2z I k).cost+g (z2z I k).src.toNat - g (z2z I k).dst.toNat<0 then -1 else if 0<(z2z I k).cost+g (z2z I k).src.toNat - g (z2z I k).dst.toNat then 1 else 0:=by
  unfold sgn
  rw [zbk (by unfold zcx; omega) (by unfold zcx; omega)]
 rw [hsg]
 unfold endS toS frS csS rmS at f1 f2
 simp only [if_true,Bool.false_eq_true,if_false,Bool.not_false,Bool.not_true,Bool.true_and,Bool.false_and,Bool.false_or,Bool.or_eq_true,decide_eq_true_eq] at f1 f2
 unfold fitF at hft
 simp only [Bool.and_eq_true,Bool.or_eq_true,decide_eq_true_eq] at hft
 obtain ⟨r,er⟩:∃ r,r=(z2z I k).cost+g (z2z I k).src.toNat - g (z2z I k).dst.toNat:=⟨_,rfl⟩
 rw [<- er]
 obtain ⟨u,hu⟩:∃ u,u=x.getD k 0:=⟨_,rfl⟩
 rw [<- hu] at f1 f2 hft ⊢
 by_cases c1:r<0
 ·have hc:¬ (z2z I k).cap=inf:=fun h=>by have:=f1 (.inl h); omega
  have hx:u=(z2z I k).cap:=by
   rw [if_neg hc] at f1
   by_cases h0:0<(z2z I k).cap - u
   ·have:=f1 (.inr h0); omega
   ·unfold inf at *; omega
  simp [c1,hc,hx]
 ·by_cases c2:0<r
  ·have hx:u=(z2z I k).low:=by
    by_cases h0:0<u - (z2z I k).low
    ·have:=f2 h0; omega
    ·omega
   simp [c1,c2,hx]
  ·simp [c1,c2]
theorem least_of {P:Nat->Prop}:∀ k,P k->∃ j,j <= k/\P j/\∀ i,i<j->¬ P i:=by
 intro k
 induction k using Nat.strongRecOn with
 | ind k ih =>
  intro hk
  by_cases h:∃ i,i<k/\P i
  ·obtain ⟨i,hi,hp⟩:=h
   obtain ⟨j,h1,h2,h3⟩:=ih i hi hp
   exact ⟨j,by omega,h2,h3⟩
  ·exact ⟨k,Nat.le_refl _,hk,fun i hi hp=>h ⟨i,hi,hp⟩⟩
structure Circ (I:Inst) (b:Nat->Option Stp) (m k:Nat):Prop where
 mn:m<I.sup.length
 k1:1 <= k
 kn:k <= I.sup.length
 all:∀ i,∃ s,b (z0p I b m i)=some s/\okS I s/\endS I s=true/\toS I s=z0p I b m i
 back:z0p I b m k=m
 not:∀ i,1 <= i->i<k->z0p I b m i ≠ m
 neg:z91 I b m k<0
theorem circ_of {I:Inst} (hr:z02 I=0) {d:Nat->Option Int} {b:Nat->Option Stp} {v:Nat} (hS:ShortP I (endS I) (fun _=>true) d b (some v)):v<I.sup.length/\(∀ t,∃ s,b (z0p I b v t)=some s/\okS I s)/\∃ k,Circ I b (z0p I b v I.sup.length) k:=by
 obtain ⟨r,⟨⟨τ,T,t,hB⟩,-⟩,-,hrn⟩:=hS.inv
 have er:=hrn v rfl
 subst er
 obtain ⟨hv,-,-⟩:=hB.la v rfl
 have hok:∀ v s,v<I.sup.length->b v=some s->okS I s:=fun v s hv hb=>(hB.by_ v s hv hb).1
 have hlt:=z61 hr hok hv
 have hk0:∀ i,i<I.sup.length->∃ s,b (z0p I b v i)=some s:=fun i hi=>(hB.long hr rfl i hi).1
 obtain ⟨i,j,hij,hjn,he⟩:=pigeon (fun i=>z0p I b v i) fun i _=>hlt i
 have hper:∀ t,i <= t->z0p I b v (t+(j - i))=z0p I b v t:=fun t ht=>by
  have e1:t+(j - i)=j+(t - i):=by omega
  have e2:t=i+(t - i):=by omega
  rw [e1,z34]
  conv=>rhs; rw [e2,z34]
  rw [show z0p I b v j=z0p I b v i from he.symm]
 have hall:∀ t,∃ s,b (z0p I b v t)=some s:=by
  intro t
  induction t using Nat.strongRecOn with
  | ind t ih =>
   by_cases h:t<I.sup.length
   ·exact hk0 t h
   ·obtain ⟨s,hs⟩:=ih (t - (j - i)) (by omega)
    have:=hper (t - (j - i)) (by omega)
    rw [show t - (j - i)+(j - i)=t by omega] at this
    exact ⟨s,by rw [this]; exact hs⟩
 have hm:∀ t,z0p I b (z0p I b v I.sup.length) t=z0p I b v (I.sup.length+t):=fun t=>(z34 I b v _ t).symm
 have hP:1 <= j - i/\z0p I b (z0p I b v I.sup.length) (j - i)=z0p I b v I.sup.length:=⟨by omega,by rw [hm]; exact hper _ (by omega)⟩
 obtain ⟨k,h1,⟨h2,h3⟩,h4⟩:=least_of (P:=fun k=>1 <= k/\z0p I b (z0p I b v I.sup.length) k=z0p I b v I.sup.length) _ hP
 refine ⟨hv,fun t=>(hall t).imp fun s hs=>⟨hs,hok _ s (hlt t) hs⟩,k,hlt _,h2,by omega,fun t=>?_,h3,fun t ht1 ht2 h=>h4 t ht2 ⟨ht1,h⟩,hB.cycle hr (hlt _) h2 (fun t _=>by rw [hm]; exact hall _) h3⟩
 obtain ⟨s,hs⟩:=hall (I.sup.length+t)
 rw [<- hm] at hs
 obtain ⟨a1,a2,a3,-⟩:=hB.by_ _ s (by rw [hm]; exact hlt _) hs
 exact ⟨s,hs,a1,a2,a3⟩
def arcB (I:Inst) (b:Nat->Option Stp) (m i:Nat):Int:=match b (z0p I b m i) with
 | some s=>(s.1:Int)
 | none=>0
def z3r (I:Inst) (b:Nat->Option Stp) (m k:Nat):List Int:=(List.range k).map (arcB I b m)
theorem circL_succ (I:Inst) (b:Nat->Option Stp) (m k:Nat):z3r I b m (k+1)=z3r I b m k ++ [arcB I b m k]:=by
 unfold z3r; rw [List.range_succ,List.map_append]; rfl
theorem Circ.arc {I:Inst} (hr:z02 I=0) {b:Nat->Option Stp} {m k:Nat} (h:Circ I b m k) (i:Nat):∃ a,a<I.arcs.length/\b (z0p I b m i)=some (a,false)/\arcB I b m i=(a:Int)/\(z2z I a).cap=inf/\(z2z I a).dst=(z0p I b m i:Int)/\(z2z I a).src=(z0p I b m (i+1):Int):=by
 obtain ⟨⟨a,q⟩,hs,ha,he,ht⟩:=h.all i
 unfold endS at he
 rw [Bool.and_eq_true,Bool.not_eq_true',decide_eq_true_eq] at he
 have hq:q=false:=he.1
 subst hq
 have ok:=z1j hr (show a<I.arcs.length from ha)
 have:=ok.s0; have:=ok.d0
 unfold toS at ht
 simp only [Bool.false_eq_true,if_false] at ht
 refine ⟨a,ha,hs,by unfold arcB; rw [hs],he.2,by omega,?_⟩
 rw [z0p,hs]
 show (z2z I a).src=((frS I (a,false):Nat):Int)
 unfold frS
 simp only [Bool.false_eq_true,if_false]
 omega
theorem Circ.inj {I:Inst} (hr:z02 I=0) {b:Nat->Option Stp} {m k:Nat} (h:Circ I b m k) {i j:Nat} (hij:i<j) (hj:j<k):arcB I b m i ≠ arcB I b m j:=fun he=>by
 obtain ⟨a,-,-,ea,-,da,-⟩:=h.arc hr i
 obtain ⟨a',-,-,ea',-,da',-⟩:=h.arc hr j
 have:a=a':=by omega
 subst this
 have hb:z0p I b m i=z0p I b m j:=by omega
 refine h.not (i+(k - j)) (by omega) (by omega) ?_
 rw [z34,hb,<- z34,show j+(k - j)=k by omega,h.back]
theorem Circ.few {I:Inst} (hr:z02 I=0) {b:Nat->Option Stp} {m k:Nat} (h:Circ I b m k):k <= I.arcs.length:=by
 apply Nat.le_of_not_lt
 intro hlt
 obtain ⟨i,j,hij,hj,he⟩:=pigeon (n:=I.arcs.length) (fun i=>(arcB I b m i).toNat) fun i _=>by
  obtain ⟨a,ha,-,ea,-⟩:=h.arc hr i
  omega
 obtain ⟨a,ha,-,ea,-⟩:=h.arc hr i
 obtain ⟨a',ha',-,ea',-⟩:=h.arc hr j
 exact h.inj hr hij (by omega) (by omega)
theorem rayK_sum (I:Inst) (l:List Int):∀ k,k <= l.length->z79 I l k=((l.take k).map (rayD I)).sum
 | 0,_=>by simp [z79]
 | k+1,h=>by
  have hk:l[k]? = some l[k]:=List.getElem?_eq_getElem (by omega)
  rw [z79,rayK_sum I l k (by omega),z1b hk,List.map_append,List.sum_append,List.getD_eq_getElem?_getD,hk]
  simp
theorem rayS_sum (I:Inst) (l:List Int):rayS I l=(l.map (rayD I)).sum:=by
 unfold rayS; rw [rayK_sum I l _ (Nat.le_refl _),List.take_length]
theorem sum_rev:∀ l:List Int,l.reverse.sum=l.sum
 | []=>rfl
 | a :: l=>by rw [List.reverse_cons,List.sum_append,sum_rev l]; simp; omega
theorem Circ.cost {I:Inst} (hr:z02 I=0) {b:Nat->Option Stp} {m k:Nat} (h:Circ I b m k):∀ j,((z3r I b m j).map (rayD I)).sum=z91 I b m j
 | 0=>rfl
 | j+1=>by
  obtain ⟨a,ha,hb,ea,-⟩:=h.arc hr j
  have e1:z5y I (a:Int)=true:=isArcF_iff.2 ⟨by omega,by omega⟩
  rw [circL_succ,List.map_append,List.sum_append,h.cost hr j,z91,hb,ea]
  have e2:rayD I (a:Int)=csS I (a,false):=by
   unfold rayD csS z4y z2z
   rw [if_pos e1,Int.toNat_natCast]
   rfl
  simp [e2]
theorem Circ.turns {I:Inst} (hr:z02 I=0) {b:Nat->Option Stp} {m k:Nat} (h:Circ I b m k):z3e I (z3r I b m k).reverse=0:=by
 have hlen:(z3r I b m k).length=k:=by simp [z3r]
 have hfew:=h.few hr
 have hk1:=h.k1
 have hget:∀ j,j<k->(z3r I b m k).reverse.getD j 0=arcB I b m (k - 1 - j):=fun j hj=>by
  rw [List.getD_eq_getElem?_getD,List.getElem?_reverse (by omega),hlen]
  unfold z3r
  rw [List.getElem?_map,List.getElem?_range (by omega)]; rfl
 have hmem:∀ x ∈ (z3r I b m k).reverse,∃ i,i<k/\x=arcB I b m i:=fun x hx=>by
  rw [List.mem_reverse] at hx
  obtain ⟨i,hi,rfl⟩:=List.mem_map.1 hx
  exact ⟨i,List.mem_range.1 hi,rfl⟩
 have hat:∀ i,∃ a,a<I.arcs.length/\arcB I b m i=(a:Int)/\(z4y I (arcB I b m i)).cap=inf/\(z4y I (arcB I b m i)).dst=(z0p I b m i:Int)/\(z4y I (arcB I b m i)).src=(z0p I b m (i+1):Int):=fun i=>by
  obtain ⟨a,ha,hb,ea,h1,h2,h3⟩:=h.arc hr i
  refine ⟨a,ha,ea,?_⟩
  rw [ea]
  exact ⟨h1,h2,h3⟩
 have c1:c1F I (z3r I b m k).reverse=true:=List.all_eq_true.2 fun x hx=>by
  obtain ⟨i,hi,rfl⟩:=hmem x hx
  obtain ⟨a,ha,ea,-⟩:=hat i
  rw [ea]; exact isArcF_iff.2 ⟨by omega,by omega⟩
 have c2:c2F (z3r I b m k).reverse=true:=decide_eq_true (by
  unfold z3r List.Nodup
  rw [List.pairwise_reverse,List.pairwise_map]
  exact List.Pairwise.imp_of_mem (fun _ hb hab=>(h.inj hr hab (List.mem_range.1 hb)).symm) List.pairwise_lt_range)
 have c3:c3F I (z3r I b m k).reverse=true:=List.all_eq_true.2 fun j hj=>by
  rw [List.length_reverse,hlen,List.mem_range] at hj
  unfold linkF
  rw [List.length_reverse,hlen,hget j hj]
  refine decide_eq_true ?_
  obtain ⟨-,-,-,-,e1,-⟩:=hat (k - 1 - j)
  rw [e1]
  by_cases hj2:j+1<k
  ·rw [Nat.mod_eq_of_lt hj2,hget _ hj2]
   obtain ⟨-,-,-,-,-,e2⟩:=hat (k - 1 - (j+1))
   rw [e2,show k - 1 - (j+1)+1=k - 1 - j by omega]
  ·have ej:j+1=k:=by omega
   rw [ej,Nat.mod_self,hget 0 (by omega)]
   obtain ⟨-,-,-,-,-,e2⟩:=hat (k - 1 - 0)
   rw [e2,show k - 1 - 0+1=k by omega,h.back,show k - 1 - j=0 by omega]
   rfl
 have c4:c4F I (z3r I b m k).reverse=true:=List.all_eq_true.2 fun x hx=>by
  obtain ⟨i,hi,rfl⟩:=hmem x hx
  obtain ⟨-,-,-,e1,-⟩:=hat i
  exact decide_eq_true e1
 have c5:c5F I (z3r I b m k).reverse=true:=by
  refine decide_eq_true ?_
  have e1:rayS I (z3r I b m k).reverse=z91 I b m k:=by rw [rayS_sum,List.map_reverse,sum_rev,h.cost hr]
  have e2:=rayK_bd hr (z3r I b m k).reverse (z3r I b m k).reverse.length
  have e3:z79 I (z3r I b m k).reverse (z3r I b m k).reverse.length=z91 I b m k:=e1
  rw [e3,List.length_reverse,hlen] at e2
  have hs:=z0e hr
  have hn:=h.neg
  rw [e1,zbk (by unfold zcx; omega) (by unfold zcx; omega),if_pos hn]
  decide
 unfold z3e
 rw [if_neg (by simp [hr]),List.length_reverse,hlen,if_neg (by omega),c1,c2,c3,c4,c5]
 rfl
structure RoundP (I:Inst) (l:List Int) (f:Bool):Prop where
 yes:f=true->z3e I l=0
 no:f=false->l=[]/\∃ π,z90 I (endS I) π
structure CircA (I:Inst) (b:Nat->Option Stp) (v:Nat):Prop where
 vn:v<I.sup.length
 all:∀ t,∃ s,b (z0p I b v t)=some s/\okS I s
 circ:∃ k,Circ I b (z0p I b v I.sup.length) k
theorem circ_a {I:Inst} (hr:z02 I=0) {d:Nat->Option Int} {b:Nat->Option Stp} {v:Nat} (hS:ShortP I (endS I) (fun _=>true) d b (some v)):CircA I b v:=by
 obtain ⟨h1,h2,h3⟩:=circ_of hr hS
 exact ⟨h1,h2,h3⟩
theorem short_none {I:Inst} {cnt:Stp->Bool} {d:Nat->Option Int} {b:Nat->Option Stp} (hr:z02 I=0) (hS:ShortP I cnt (fun _=>true) d b none):z90 I cnt fun v=>(d v).getD 0:=by
 obtain ⟨r,⟨⟨τ,T,t,hB⟩,-⟩,h1,-⟩:=hS.inv
 intro s hs hc
 have hf:=z2w hr hs
 rcases h1 rfl with h3 | h3
 ·obtain ⟨u,hu⟩:=hS.st hf rfl
  obtain ⟨c,h4,h5⟩:=hB.end_ h3 (fun _ _=>rfl) s hs hc u hu
  dsimp only
  rw [hu,h4]; exact h5
 ·omega
def zhp (l:List Int) (i:Nat):List Int:=(List.range l.length).map fun t=>if t<i ∨ l.length <= t+i then l.getD (l.length - 1 - t) 0 else l.getD t 0
theorem zaw (l:List Int) (i:Nat):(zhp l i).length=l.length:=by simp [zhp]
theorem zdv {l:List Int} {i t:Nat} (h:t<l.length):(zhp l i)[t]? = some (if t<i ∨ l.length <= t+i then l.getD (l.length - 1 - t) 0 else l.getD t 0):=by
 unfold zhp; rw [List.getElem?_map,List.getElem?_range h]; rfl
theorem revK_zero (l:List Int):zhp l 0=l:=by
 refine List.ext_getElem? fun t=>?_
 by_cases h:t<l.length
 ·rw [zdv h,if_neg (by omega),List.getD_eq_getElem?_getD,List.getElem?_eq_getElem h]; rfl
 ·rw [List.getElem?_eq_none (by rw [zaw]; omega),List.getElem?_eq_none (by omega)]
theorem revK_end {l:List Int} {i:Nat} (hi:l.length <= 2 * i+1):zhp l i=l.reverse:=by
 refine List.ext_getElem? fun t=>?_
 by_cases h:t<l.length
 ·rw [zdv h,List.getElem?_reverse h]
  by_cases h2:t<i ∨ l.length <= t+i
  ·rw [if_pos h2,List.getD_eq_getElem?_getD,List.getElem?_eq_getElem (by omega)]; rfl
  ·rw [if_neg h2,List.getD_eq_getElem?_getD,show l.length - 1 - t=t by omega,List.getElem?_eq_getElem h]; rfl
 ·rw [List.getElem?_eq_none (by rw [zaw]; omega),List.getElem?_eq_none (by rw [List.length_reverse]; omega)]
theorem revK_next {l:List Int} {i j:Nat} (hj:j+i+1=l.length) (hij:i<j) {x y:Int} (hx:(zhp l i)[i]? = some x) (hy:(zhp l i)[j]? = some y):((zhp l i).set i y).set j x=zhp l (i+1):=by
 refine List.ext_getElem? fun t=>?_
 rw [zdv (by omega),if_neg (by omega)] at hx hy
 cases hx; cases hy
 by_cases h:t<l.length
 ·rw [zdv h,List.getElem?_set,List.getElem?_set]
  simp only [List.length_set,zaw]
  by_cases h1:j=t
  ·subst h1
   rw [if_pos rfl,if_pos h,if_pos (.inr (by omega)),show l.length - 1 - j=i by omega]
  ·rw [if_neg h1]
   by_cases h2:i=t
   ·subst h2
    rw [if_pos rfl,if_pos (by omega),if_pos (.inl (by omega)),show l.length - 1 - i=j by omega]
   ·rw [if_neg h2,zdv h]
    by_cases h3:t<i ∨ l.length <= t+i
    ·rw [if_pos h3,if_pos (by omega)]
    ·rw [if_neg h3,if_neg (by omega)]
 ·rw [List.getElem?_eq_none (by simp [zaw]; omega),List.getElem?_eq_none (by rw [zaw]; omega)]
theorem ShortP.ok {I:Inst} {cnt:Stp->Bool} {start:Nat->Bool} {d:Nat->Option Int} {b:Nat->Option Stp} {e:Option Nat} (h:ShortP I cnt start d b e) {v:Nat} {s:Stp} (hv:v<I.sup.length) (hs:b v=some s):okS I s:=by
 obtain ⟨r,⟨⟨τ,T,t,hB⟩,-⟩,-⟩:=h.inv
 exact (hB.by_ v s hv hs).1
def unN:List Bool->Nat
 | []=>0
 | b :: l=>(if b then 0 else 1)+unN l
theorem unN_set:∀ {l:List Bool} {k:Nat},l[k]? = some false->unN (l.set k true)+1=unN l
 | [],k,h=>by simp at h
 | b :: l,0,h=>by simp at h; subst h; simp [unN]; omega
 | b :: l,k+1,h=>by
  rw [List.getElem?_cons_succ] at h
  rw [List.set_cons_succ,unN,unN]
  have:=unN_set h
  omega
def z3t (l:List Nat):List Int:=l.map Int.ofNat
theorem zi0 (l:List Nat):(z3t l).length=l.length:=by simp [z3t]
theorem natI_get {l:List Nat} {k:Nat} {x:Int} (h:(z3t l)[k]? = some x):∃ v,l[k]? = some v/\x=(v:Int):=by
 unfold z3t at h
 rw [List.getElem?_map] at h
 obtain ⟨v,h1,rfl⟩:=Option.map_eq_some_iff.1 h
 exact ⟨v,h1,rfl⟩
theorem natI_snoc (l:List Nat) (v:Nat):z3t (l ++ [v])=z3t l ++ [(v:Int)]:=by simp [z3t]
def zhm (o:List Int) (n k:Nat):List Bool:=(List.range n).map fun v=>decide (v<k) && decide (0<o.getD v 0)
def layK (o:List Int) (k:Nat):List Nat:=(List.range k).filter fun v=>decide (0<o.getD v 0)
theorem metK_len (o:List Int) (n k:Nat):(zhm o n k).length=n:=by simp [zhm]
theorem metK_get {o:List Int} {n k v:Nat} (h:v<n):(zhm o n k).getD v false=(decide (v<k) && decide (0<o.getD v 0)):=by
 unfold zhm
 rw [List.getD_eq_getElem?_getD,List.getElem?_map,List.getElem?_range h]; rfl
theorem metK_zero (o:List Int) (n:Nat):List.replicate n false=zhm o n 0:=by
 refine List.ext_getElem? fun t=>?_
 unfold zhm
 by_cases h:t<n
 ·rw [List.getElem?_map,List.getElem?_range h,List.getElem?_replicate]; simp [h]
 ·rw [List.getElem?_eq_none (by simp; omega),List.getElem?_eq_none (by simp; omega)]
theorem metK_yes {o:List Int} {n k:Nat} (h:0<o.getD k 0):(zhm o n k).set k true=zhm o n (k+1):=by
 refine List.ext_getElem? fun t=>?_
 unfold zhm
 rw [List.getElem?_set]
 simp only [List.length_map,List.length_range]
 by_cases hn:t<n
 ·rw [List.getElem?_map,List.getElem?_map,List.getElem?_range hn]
  by_cases e:k=t
  ·subst e; rw [if_pos rfl,if_pos hn]; simp only [Option.map_some,decide_eq_true h,Bool.and_true,decide_eq_true (Nat.lt_succ_self k)]
  ·rw [if_neg e]
   have:(t<k+1)=(t<k):=propext (by omega)
   simp [this]
 ·rw [List.getElem?_eq_none (by simp; omega),List.getElem?_eq_none (by simp; omega)]
  split
  ·rw [if_neg (by omega)]
  ·rfl
theorem metK_no {o:List Int} {n k:Nat} (h:¬ 0<o.getD k 0):zhm o n k=zhm o n (k+1):=by
 unfold zhm
 refine List.map_congr_left fun t _=>?_
 by_cases e:t=k
 ·subst e; simp [h,-List.getD_eq_getElem?_getD]
 ·have:(t<k+1)=(t<k):=propext (by omega)
  simp [this]
theorem layK_yes {o:List Int} {k:Nat} (h:0<o.getD k 0):layK o (k+1)=layK o k ++ [k]:=by
 unfold layK
 rw [List.range_succ,List.filter_append,List.filter_cons,if_pos (decide_eq_true h)]; rfl
theorem layK_no {o:List Int} {k:Nat} (h:¬ 0<o.getD k 0):layK o (k+1)=layK o k:=by
 unfold layK
 rw [List.range_succ,List.filter_append,List.filter_cons,if_neg (by simpa using h)]; simp
theorem layK_mem {o:List Int} {k v:Nat}:v ∈ layK o k ↔ v<k/\0<o.getD v 0:=by
 unfold layK
 rw [List.mem_filter,List.mem_range,decide_eq_true_eq]
structure AtOk (I:Inst) (t:List (List (List Int))):Prop where
 len:t.length=I.sup.length
 at_:∀ u,u<I.sup.length->∃ l:List Stp,t[u]? = some (l.map z64)/\l.length <= 1000/\∀ s,s ∈ l ↔ okS I s/\frS I s=u
structure SeI (I:Inst) (x o:List Int) (m:List Bool) (b:Nat->Option Stp) (pend:Stp->Prop):Prop where
 lm:m.length=I.sup.length
 st:∀ v,v<I.sup.length->0<o.getD v 0->m.getD v false=true
 no:∀ v,v<I.sup.length->m.getD v false=true->b v=none->0<o.getD v 0
 un:∀ v,v<I.sup.length->m.getD v false=false->b v=none
 by_:∀ v s,v<I.sup.length->b v=some s->okS I s/\toS I s=v/\0<rmS I x s/\m.getD (frS I s) false=true
 tree:∃ ρ:Nat->Nat,∀ v s,v<I.sup.length->b v=some s->ρ (frS I s)<ρ v
 cl:∀ s,okS I s->0<rmS I x s->m.getD (frS I s) false=true->m.getD (toS I s) false=true ∨ pend s
def SeG (I:Inst) (o:List Int) (m:List Bool):Prop:=∀ v,v<I.sup.length->m.getD v false=true->0 <= o.getD v 0
theorem SeI.begin (I:Inst) (x o:List Int) (ho:o.length=I.sup.length) (hr:z02 I=0):SeI I x o (zhm o I.sup.length I.sup.length) (fun _=>none) (fun s=>frS I s ∈ layK o I.sup.length)/\SeG I o (zhm o I.sup.length I.sup.length):=by
 have hg:∀ v,v<I.sup.length->((zhm o I.sup.length I.sup.length).getD v false=true ↔ 0<o.getD v 0):=fun v hv=>by
  rw [metK_get hv,decide_eq_true hv,Bool.true_and,decide_eq_true_eq]
 refine ⟨⟨metK_len _ _ _,fun v hv h=>(hg v hv).2 h,fun v hv h _=>(hg v hv).1 h,fun _ _ _=>rfl,fun v s _ h=>absurd h (by simp),⟨fun _=>0,fun v s _ h=>absurd h (by simp)⟩,fun s hs _ hm=>.inr ?_⟩,fun v hv h=>by have:=(hg v hv).1 h; omega⟩
 have hf:=z2w hr hs
 exact layK_mem.2 ⟨hf,(hg _ hf).1 hm⟩
theorem SeI.skip {I:Inst} {x o:List Int} {m:List Bool} {b:Nat->Option Stp} {pend pend':Stp->Prop} (h:SeI I x o m b pend) (hp:∀ s,okS I s->pend s->m.getD (toS I s) false=true ∨ ¬ 0<rmS I x s ∨ pend' s):SeI I x o m b pend' :=
 { h with cl:=fun s h1 h2 h3=>(h.cl s h1 h2 h3).elim .inl fun h4=>(hp s h1 h4).elim .inl fun h5=>h5.elim (fun h6=>absurd h2 h6) .inr }
theorem zb3 {m:List Bool} {k v:Nat} (hk:k<m.length):(m.set k true).getD v false=if v=k then true else m.getD v false:=by
 rw [List.getD_eq_getElem?_getD,List.getElem?_set]
 by_cases e:k=v
 ·subst e; simp [hk]
 ·rw [if_neg e,if_neg (fun h=>e h.symm),List.getD_eq_getElem?_getD]
theorem SeI.take {I:Inst} (hr:z02 I=0) {x o:List Int} {m:List Bool} {b:Nat->Option Stp} {pend pend':Stp->Prop} (h:SeI I x o m b pend) {t:Stp} (ht:okS I t) (hf:m.getD (frS I t) false=true) (hm:m.getD (toS I t) false=false) (hrm:0<rmS I x t)
  (hp:∀ s,pend s->s=t ∨ pend' s) (hq:∀ s,frS I s=toS I t->pend' s):SeI I x o (m.set (toS I t) true) (fun v=>if v=toS I t then some t else b v) pend':=by
 have hlt:=z5q hr ht
 have hg:∀ v,(m.set (toS I t) true).getD v false=if v=toS I t then true else m.getD v false:=fun v=>zb3 (by rw [h.lm]; exact hlt)
 have hfne:frS I t ≠ toS I t:=fun e=>by rw [e,hm] at hf; cases hf
 obtain ⟨ρ,hρ⟩:=h.tree
 refine ⟨by rw [List.length_set]; exact h.lm,fun v hv h1=>?_,fun v hv h1 h2=>?_,fun v hv h1=>?_,fun v s hv h1=>?_,⟨fun v=>if v=toS I t then ρ (frS I t)+1 else ρ v,fun v s hv h1=>?_⟩,fun s h1 h2 h3=>?_⟩
 ·rw [hg]; split
  ·rfl
  ·exact h.st v hv h1
 ·try dsimp only at h2
  split at h2
  ·cases h2
  ·rename_i hne
   rw [hg,if_neg hne] at h1
   exact h.no v hv h1 h2
 ·rw [hg] at h1
  split at h1
  ·cases h1
  ·rename_i hne
   try dsimp only
   rw [if_neg hne]; exact h.un v hv h1
 ·try dsimp only at h1
  split at h1
  ·rename_i he
   cases h1
   refine ⟨ht,he.symm,hrm,?_⟩
   rw [hg,if_neg hfne]; exact hf
  ·obtain ⟨q1,q2,q3,q4⟩:=h.by_ v s hv h1
   refine ⟨q1,q2,q3,?_⟩
   rw [hg]; split
   ·rfl
   ·exact q4
 ·try dsimp only at h1 ⊢
  split at h1
  ·rename_i he
   cases h1
   rw [if_neg hfne,if_pos he]
   exact Nat.lt_succ_self _
  ·rename_i hne
   obtain ⟨q1,q2,q3,q4⟩:=h.by_ v s hv h1
   have:frS I s ≠ toS I t:=fun e=>by rw [e,hm] at q4; cases q4
   rw [if_neg this,if_neg hne]
   exact hρ v s hv h1
 ·by_cases e:frS I s=toS I t
  ·exact .inr (hq s e)
  ·rw [hg,if_neg e] at h3
   rcases h.cl s h1 h2 h3 with h4 | h4
   ·left; rw [hg]; split
    ·rfl
    ·exact h4
   ·rcases hp s h4 with rfl | h5
    ·left; rw [hg,if_pos rfl]
    ·exact .inr h5
theorem SeG.take {I:Inst} {o:List Int} {m:List Bool} (h:SeG I o m) {k:Nat} (hk:k<m.length) (ho:0 <= o.getD k 0):SeG I o (m.set k true):=fun v hv hm=>by
 rw [zb3 hk] at hm
 split at hm
 ·rename_i e; rw [e]; exact ho
 ·exact h v hv hm
theorem tree_rank {I:Inst} (hr:z02 I=0) {b:Nat->Option Stp} {ρ:Nat->Nat} (hT:Tree I b ρ):∃ ρ':Nat->Nat,Tree I b ρ'/\∀ v,v<I.sup.length->ρ' v<I.sup.length:=by
 have hok:∀ v s,v<I.sup.length->b v=some s->okS I s:=fun v s hv hs=>(hT v s hv hs).1
 have hlt:=fun (v:Nat) (hv:v<I.sup.length) (k:Nat)=>z61 hr hok hv k
 have hdown:∀ v,v<I.sup.length->∀ k,(∀ i,i<k->∃ s,b (z0p I b v i)=some s)->ρ (z0p I b v k)+k <= ρ v:=fun v hv k=>by
  induction k with
  | zero=>intro _; exact Nat.le_refl _
  | succ k ih =>
   intro h
   have h1:=ih fun i hi=>h i (by omega)
   obtain ⟨s,hs⟩:=h k (by omega)
   have h2:=(hT _ s (hlt v hv k) hs).2.2
   have en:z0p I b v (k+1)=frS I s:=by rw [z0p,hs]
   rw [en]; omega
 have hend:∀ v,v<I.sup.length->∃ k,k<I.sup.length/\b (z0p I b v k)=none:=fun v hv=>by
  apply Classical.byContradiction
  intro hn
  have hall:∀ k,k<I.sup.length->∃ s,b (z0p I b v k)=some s:=fun k hk=>by
   cases hb:b (z0p I b v k) with
   | none=>exact absurd ⟨k,hk,hb⟩ hn
   | some s=>exact ⟨s,rfl⟩
  obtain ⟨i,j,hij,hj,he⟩:=pigeon (n:=I.sup.length) (fun k=>z0p I b v k) fun k _=>hlt v hv k
  try dsimp only at he
  have h1:=hdown (z0p I b v i) (hlt v hv i) (j - i) fun k hk=>by rw [<- z34]; exact hall _ (by omega)
  rw [<- z34,show i+(j - i)=j by omega,<- he] at h1
  omega
 refine ⟨fun v=>zca I b I.sup.length v,fun v s hv hs=>⟨(hT v s hv hs).1,(hT v s hv hs).2.1,?_⟩,fun v hv=>?_⟩
 ·obtain ⟨k,hk,hb⟩:=hend v hv
  cases k with
  | zero=>simp only [z0p] at hb; rw [hs] at hb; cases hb
  | succ k =>
   have e1:=(z6p (k+1) I.sup.length v hb (by omega)).1
   have hb2:=hb
   rw [zji hs] at hb2
   have e2:=(z6p k I.sup.length (frS I s) hb2 (by omega)).1
   show zca I b I.sup.length (frS I s)<zca I b I.sup.length v
   rw [e1,e2,zca,hs]
   exact Nat.lt_succ_self _
 ·obtain ⟨k,hk,hb⟩:=hend v hv
  have:=z6p k I.sup.length v hb (by omega)
  try dsimp only
  omega
structure SearchP (I:Inst) (x o:List Int) (m:List Bool) (b:Nat->Option Stp) (e:Option Nat):Prop where
 lm:m.length=I.sup.length
 no:e=none->(∀ s,okS I s->0<rmS I x s->m.getD (frS I s) false=true->m.getD (toS I s) false=true)/\(∀ v,v<I.sup.length->0<o.getD v 0->m.getD v false=true)/\SeG I o m/\∀ v,v<I.sup.length->m.getD v false=true->∃ r,r<I.sup.length/\0<o.getD r 0
 yes:∀ v,e=some v->v<I.sup.length/\o.getD v 0<0/\(∃ ρ,Tree I b ρ/\∀ v,v<I.sup.length->ρ v<I.sup.length)/\1 <= o.getD (z12 I b I.sup.length v) 0/\∀ s ∈ z1u I b I.sup.length v,1 <= rmS I x s
theorem SeI.root {I:Inst} (hr:z02 I=0) {x o:List Int} {m:List Bool} {b:Nat->Option Stp} {pend:Stp->Prop} (h:SeI I x o m b pend):(∃ ρ,Tree I b ρ/\∀ v,v<I.sup.length->ρ v<I.sup.length)/\∀ v,v<I.sup.length->m.getD v false=true->z12 I b I.sup.length v<I.sup.length/\1 <= o.getD (z12 I b I.sup.length v) 0/\∀ s ∈ z1u I b I.sup.length v,1 <= rmS I x s:=by
 obtain ⟨ρ,hρ⟩:=h.tree
 have hT0:Tree I b ρ:=fun v s hv hs=>⟨(h.by_ v s hv hs).1,(h.by_ v s hv hs).2.1,hρ v s hv hs⟩
 obtain ⟨ρ',hT,hd⟩:=tree_rank hr hT0
 refine ⟨⟨ρ',hT,hd⟩,fun v hv hm=>?_⟩
 have hroot:∀ (f v:Nat),v<I.sup.length->m.getD v false=true->m.getD (z12 I b f v) false=true:=fun f=>by
  induction f with
  | zero=>intro v _ hm; exact hm
  | succ f ih =>
   intro v hv hm
   rw [z12]
   cases hb:b v with
   | none=>exact hm
   | some s =>
    obtain ⟨q1,q2,q3,q4⟩:=h.by_ v s hv hb
    exact ih _ (z2w hr q1) q4
 obtain ⟨-,-,h3,h4⟩:=zev hr hT I.sup.length v hv (hd _ hv)
 refine ⟨h4,?_,fun s hs=>?_⟩
 ·have:=h.no _ h4 (hroot _ v hv hm) h3
  omega
 ·obtain ⟨q1,q2,-⟩:=zeu hr hT _ v hv s hs
  have:=(h.by_ _ s (z5q hr q1) q2).2.2.1
  omega
theorem SeI.end_ {I:Inst} (hr:z02 I=0) {x o:List Int} {m:List Bool} {b:Nat->Option Stp} {pend:Stp->Prop} (h:SeI I x o m b pend) (hg:SeG I o m) (hp:∀ s,okS I s->¬ pend s):SearchP I x o m b none:=by
 refine ⟨h.lm,fun _=>⟨fun s h1 h2 h3=>(h.cl s h1 h2 h3).resolve_right (hp s h1),h.st,hg,fun v hv hm=>?_⟩,fun v hv=>(by cases hv)⟩
 obtain ⟨q1,q2,-⟩:=(h.root hr).2 v hv hm
 exact ⟨_,q1,by omega⟩
theorem SeI.hit {I:Inst} (hr:z02 I=0) {x o:List Int} {m:List Bool} {b:Nat->Option Stp} {pend:Stp->Prop} (h:SeI I x o m b pend) {t:Stp} (ht:okS I t) (hf:m.getD (frS I t) false=true) (hm:m.getD (toS I t) false=false) (hrm:0<rmS I x t) (ho:o.getD (toS I t) 0<0) :
  SearchP I x o (m.set (toS I t) true) (fun v=>if v=toS I t then some t else b v) (some (toS I t)):=by
 have hlt:=z5q hr ht
 have h2:=h.take hr (pend':=fun _=>True) ht hf hm hrm (fun _ _=>.inr trivial) (fun _ _=>trivial)
 refine ⟨h2.lm,fun h=>(by cases h),fun v hv=>?_⟩
 cases hv
 obtain ⟨q1,q2⟩:=h2.root hr
 obtain ⟨q3,q4,q5⟩:=q2 _ hlt (by rw [zb3 (by rw [h.lm]; exact hlt),if_pos rfl])
 exact ⟨hlt,ho,q1,q4,q5⟩
structure FillI (I:Inst) (x o:List Int):Prop where
 inv:∃ B,NInv I x o B/\0 <= B/\B+z4k o I.sup.length <= 144115188075855872
structure FillP (I:Inst) (x o:List Int) (m:List Bool) (f:Bool):Prop where
 inv:FillI I x o
 yes:f=true->z32 I m=0
 no:f=false->m=[]/\z1w I x=0
theorem fill_more {I:Inst} (hr:z02 I=0) {x o:List Int} (h:FillI I x o) {m:List Bool} {b:Nat->Option Stp} {v:Nat} (hS:SearchP I x o m b (some v)) :
  AlOk I x o (z0k I.sup.length b) (v:Int)/\FillI I (z2m x (alL I (z0k I.sup.length b) v) (alU I x o (z0k I.sup.length b) v)) (z1y I o (alL I (z0k I.sup.length b) v) (alU I x o (z0k I.sup.length b) v)) /\
  (z4k (z1y I o (alL I (z0k I.sup.length b) v) (alU I x o (z0k I.sup.length b) v)) I.sup.length).toNat<(z4k o I.sup.length).toNat:=by
 obtain ⟨B,hN,hB,hb⟩:=h.inv
 have hps:=z1s o I.sup.length
 obtain ⟨hv,ho,⟨ρ,hT,hρ⟩,h1,h2⟩:=hS.yes v rfl
 obtain ⟨A,hU,-,-⟩:=al_ok hr hN (by omega) (by omega) hT hρ hv (L:=1) (by omega) h1 (by omega) h2
 obtain ⟨q1,q2,-⟩:=al_does hN hB A hU
 have hps2:=z1s (z1y I o (alL I (z0k I.sup.length b) v) (alU I x o (z0k I.sup.length b) v)) I.sup.length
 refine ⟨A,⟨⟨_,q1,by omega,by omega⟩⟩,by omega⟩
theorem getD_true {m:List Bool} {v:Nat} (h:m.getD v false=true):v<m.length/\true ∈ m:=by
 rw [List.getD_eq_getElem?_getD] at h
 cases e:m[v]? with
 | none=>rw [e] at h; cases h
 | some c =>
  rw [e] at h
  have:c=true:=h
  subst this
  exact ⟨(List.getElem?_eq_some_iff.1 e).1,List.mem_of_getElem? e⟩
theorem fill_end {I:Inst} (hr:z02 I=0) {x o:List Int} (h:FillI I x o) {m:List Bool} {b:Nat->Option Stp} (hS:SearchP I x o m b none):(m.contains true=true->FillP I x o m true)/\(¬ m.contains true=true->FillP I x o [] false):=by
 obtain ⟨B,hN,-,-⟩:=id h.inv
 obtain ⟨h1,h2,h3,h4⟩:=hS.no rfl
 refine ⟨fun hc=>⟨h,fun _=>?_,fun h=>(by cases h)⟩,fun hc=>⟨h,fun h=>(by cases h),fun _=>⟨rfl,?_⟩⟩⟩
 ·rw [List.contains_iff_mem] at hc
  obtain ⟨v,hv⟩:=List.mem_iff_getElem?.1 hc
  have hvl:=(List.getElem?_eq_some_iff.1 hv).1
  rw [hS.lm] at hvl
  obtain ⟨r,hrl,hro⟩:=h4 v hvl (by rw [List.getD_eq_getElem?_getD,hv]; rfl)
  refine zni hr hN.over hN.betw hS.lm h1 ?_
  have:∀ k,k <= I.sup.length->0 <= z1h (fun w=>if m.getD w false then o.getD w 0 else 0) k/\(r<k->0<z1h (fun w=>if m.getD w false then o.getD w 0 else 0) k):=by
   intro k
   induction k with
   | zero=>intro _; exact ⟨Int.le_refl _,fun h=>absurd h (Nat.not_lt_zero _)⟩
   | succ k ih =>
    intro hk
    obtain ⟨i1,i2⟩:=ih (by omega)
    have hnn:0 <= (if m.getD k false then o.getD k 0 else 0):=by
     split
     ·rename_i hm; exact h3 k (by omega) hm
     ·omega
    rw [z1h]
    refine ⟨by omega,fun hvk=>?_⟩
    by_cases e:r=k
    ·subst e
     rw [if_pos (h2 r hrl hro)]
     omega
    ·have:=i2 (by omega); omega
  exact (this _ (Nat.le_refl _)).2 hrl
 ·refine fits_over hr hN.over hN.betw (over_zero hr hN.over fun v hv=>?_)
  apply Int.le_of_not_gt
  intro hlt
  exact hc (List.contains_iff_mem.2 (getD_true (h2 v hv hlt)).2)
theorem FillI.xb {I:Inst} {x o:List Int} (h:FillI I x o):YB x:=by
 obtain ⟨B,hN,hB,hb⟩:=h.inv
 have hps:=z1s o I.sup.length
 exact yb_of fun i hi=>by have:=hN.bd i (by rw [<- hN.over.lx]; exact hi); omega
theorem FillI.ob {I:Inst} {x o:List Int} (hr:z02 I=0) (h:FillI I x o):YB o:=by
 obtain ⟨B,hN,hB,hb⟩:=h.inv
 have hps:=z1s o I.sup.length
 exact yb_of fun k hk=>by have:=over_bd hr hN.over (v:=k) (by rw [<- hN.over.lo]; exact hk); omega
structure LayI (I:Inst) (x o:List Int) (m:List Bool) (b:Nat->Option Stp) (L X:List Nat) (p:Stp->Prop):Prop where
 i:SeI I x o m b (fun s=>frS I s ∈ L ∨ frS I s ∈ X ∨ p s)
 g:SeG I o m
 l:∀ v ∈ L,v<I.sup.length/\m.getD v false=true
 x:∀ v ∈ X,v<I.sup.length/\m.getD v false=true
theorem unN_le:∀ l:List Bool,unN l <= l.length
 | []=>Nat.le_refl _
 | b :: l=>by rw [unN,List.length_cons]; have:=unN_le l; split <;> omega
section
variable {I:Inst} {x o:List Int} {m:List Bool} {b:Nat->Option Stp}
theorem layK_le (o:List Int) (k:Nat):(layK o k).length <= k:=by unfold layK; exact Nat.le_trans (List.length_filter_le _ _) (by simp)
theorem LayI.begin (hr:z02 I=0) (ho:o.length=I.sup.length):LayI I x o (zhm o I.sup.length I.sup.length) (fun _=>none) (layK o I.sup.length) [] (fun _=>False):=by
 obtain ⟨h1,h2⟩:=SeI.begin I x o ho hr
 refine ⟨h1.skip fun s _ h=>.inr (.inr (.inl h)),h2,fun v hv=>?_,fun v hv=>by simp at hv⟩
 obtain ⟨q1,q2⟩:=layK_mem.1 hv
 exact ⟨q1,h1.st v q1 q2⟩
theorem LayI.node {L X:List Nat} {i v:Nat} {l:List Stp} (h:LayI I x o m b (L.drop i) X (fun _=>False)) (hv:L[i]? = some v) (hl:∀ s,s ∈ l ↔ okS I s/\frS I s=v) :
  LayI I x o m b (L.drop (i+1)) X (fun s=>s ∈ l.drop 0)/\∀ s ∈ l,okS I s/\m.getD (frS I s) false=true:=by
 have hd:L.drop i=v :: L.drop (i+1):=z3i hv
 rw [hd] at h
 have hv2:=h.l v (by simp)
 refine ⟨⟨h.i.skip fun s hs hp=>?_,h.g,fun u hu=>h.l u (by simp [hu]),h.x⟩,fun s hs=>?_⟩
 ·rcases hp with hp | hp | hp
  ·rcases List.mem_cons.1 hp with e | hp
   ·exact .inr (.inr (.inr (.inr (by rw [List.drop_zero]; exact (hl s).2 ⟨hs,e⟩))))
   ·exact .inr (.inr (.inl hp))
  ·exact .inr (.inr (.inr (.inl hp)))
  ·exact hp.elim
 ·obtain ⟨q1,q2⟩:=(hl s).1 hs
  exact ⟨q1,by rw [q2]; exact hv2.2⟩
theorem LayI.close {L X:List Nat} {l:List Stp} {j:Nat} (h:LayI I x o m b L X (fun s=>s ∈ l.drop j)) (hj:l.length <= j):LayI I x o m b L X (fun _=>False) :=
 ⟨h.i.skip fun s _ hp=>by rw [List.drop_eq_nil_of_le hj] at hp; exact .inr (.inr (hp.imp id (.imp id fun h=>by simp at h))),h.g,h.l,h.x⟩
theorem LayI.pass {L X:List Nat} {l:List Stp} {j:Nat} {t:Stp} (h:LayI I x o m b L X (fun s=>s ∈ l.drop j)) (ht:l[j]? = some t) (hp:m.getD (toS I t) false=true ∨ ¬ 0<rmS I x t):LayI I x o m b L X (fun s=>s ∈ l.drop (j+1)):=by
 have hd:l.drop j=t :: l.drop (j+1):=z3i ht
 refine ⟨h.i.skip fun s _ h2=>?_,h.g,h.l,h.x⟩
 rcases h2 with h2 | h2 | h2
 ·exact .inr (.inr (.inl h2))
 ·exact .inr (.inr (.inr (.inl h2)))
 ·rw [hd] at h2
  rcases List.mem_cons.1 h2 with e | h2
  ·subst e; rcases hp with hp | hp
   ·exact .inl hp
   ·exact .inr (.inl hp)
  ·exact .inr (.inr (.inr (.inr h2)))
theorem LayI.take (hr:z02 I=0) {L X:List Nat} {l:List Stp} {j:Nat} {t:Stp} (h:LayI I x o m b L X (fun s=>s ∈ l.drop j)) (ht:l[j]? = some t) (hok:okS I t) (hf:m.getD (frS I t) false=true) (hm:m.getD (toS I t) false=false) (hrm:0<rmS I x t) (ho:0 <= o.getD (toS I t) 0) :
  LayI I x o (m.set (toS I t) true) (fun v=>if v=toS I t then some t else b v) L (X ++ [toS I t]) (fun s=>s ∈ l.drop (j+1)):=by
 have hd:l.drop j=t :: l.drop (j+1):=z3i ht
 have hlt:=z5q hr hok
 have hml:toS I t<m.length:=by rw [h.i.lm]; exact hlt
 have hset:∀ v,m.getD v false=true->(m.set (toS I t) true).getD v false=true:=fun v hv=>by
  rw [zb3 hml]; split
  ·rfl
  ·exact hv
 refine ⟨h.i.take hr hok hf hm hrm (fun s h2=>?_) (fun s e=>.inr (.inl (by rw [e]; simp))),h.g.take hml ho,fun v hv=>⟨(h.l v hv).1,hset v (h.l v hv).2⟩,fun v hv=>?_⟩
 ·rcases h2 with h2 | h2 | h2
  ·exact .inr (.inl h2)
  ·exact .inr (.inr (.inl (by simp [h2])))
  ·rw [hd] at h2
   rcases List.mem_cons.1 h2 with e | h2
   ·exact .inl e
   ·exact .inr (.inr (.inr h2))
 ·rcases List.mem_append.1 hv with hv | hv
  ·exact ⟨(h.x v hv).1,hset v (h.x v hv).2⟩
  ·simp at hv
   subst hv
   exact ⟨hlt,by rw [zb3 hml,if_pos rfl]⟩
theorem LayI.next {L X:List Nat} {i:Nat} (h:LayI I x o m b (L.drop i) X (fun _=>False)) (hi:L.length <= i):LayI I x o m b X [] (fun _=>False):=by
 rw [List.drop_eq_nil_of_le hi] at h
 refine ⟨h.i.skip fun s _ h2=>?_,h.g,h.x,fun v hv=>by simp at hv⟩
 rcases h2 with h2 | h2 | h2
 ·simp at h2
 ·exact .inr (.inr (.inl h2))
 ·exact h2.elim
theorem LayI.end_ (hr:z02 I=0) (h:LayI I x o m b [] [] (fun _=>False)):SearchP I x o m b none:=by
 refine h.i.end_ hr h.g fun s _ h2=>?_
 rcases h2 with h2 | h2 | h2
 ·simp at h2
 ·simp at h2
 ·exact h2
end
def z0n (i s:List Int) (n:Int) (w:Nat):List Int:=(i.take (s.getD (2 * n.toNat+w+1) 0).toNat).drop (s.getD (2 * n.toNat+w) 0).toNat
structure PieceOk (gn:Int) (i s:List Int) (n:Int) (w:Nat):Prop where
 n0:0 <= n
 n1:n<gn
 gn1:gn <= 10000
 il:i.length <= 1000000000
 sl:2 * n.toNat+w+1<s.length
 a:0 <= s.getD (2 * n.toNat+w) 0
 b:s.getD (2 * n.toNat+w) 0 <= s.getD (2 * n.toNat+w+1) 0
 c:s.getD (2 * n.toNat+w+1) 0 <= i.length
end Go.Ql
end
section
namespace Go.Ql
open Go Go.Vc
structure LowI (I:Inst) (a:Nat) (x o:List Int):Prop where
 over:OverOf I x o
 at_:∀ c,c<I.arcs.length->x.getD c 0=if c<a then (z2z I c).low else 0
 bd:∀ v,v<I.sup.length->-(4398046511104 * (2 * (a:Int)+1)) <= o.getD v 0/\o.getD v 0 <= 4398046511104 * (2 * (a:Int)+1)
 pos:z4k o I.sup.length <= 4398046511104 * ((I.sup.length:Int)+a)
structure BuildP (I:Inst) (x o:List Int) (t:Rows3):Prop where
 low:LowI I I.arcs.length x o
 at_:AtOk I t
theorem netK_zero (n:Nat) (l:List Arc) {x:List Int} (h:∀ c,x.getD c 0=0) (v:Nat):∀ k,z3z n l x k v=0
 | 0=>rfl
 | k+1=>by
  rw [z3z,netK_zero n l h v k]
  unfold z5m
  rw [h]
  simp
def z5c (I:Inst) (n:Nat):List Nat:=segA I I.arcs.length (2 * n)
def z7j (I:Inst) (n:Nat):List Nat:=segA I I.arcs.length (2 * n+1)
def fwd (l:List Nat):List Stp:=l.map fun a=>(a,false)
def bwd (l:List Nat):List Stp:=l.map fun a=>(a,true)
def stpsF (I:Inst) (n:Nat):List Stp:=fwd (z5c I n) ++ bwd (z7j I n)
def z1p (I:Inst) (n:Nat) (q:List Stp):List (List (List Int)):=(List.range I.sup.length).map fun u=>(if u<n then stpsF I u else if u=n then q else []).map z64
theorem z6w (I:Inst) (n:Nat) (q:List Stp):(z1p I n q).length=I.sup.length:=by simp [z1p]
theorem z6v {I:Inst} {n:Nat} {q:List Stp} {u:Nat} (h:u<I.sup.length):(z1p I n q)[u]? = some ((if u<n then stpsF I u else if u=n then q else []).map z64):=by
 unfold z1p; rw [List.getElem?_map,List.getElem?_range h]; rfl
theorem stpsK_zero (I:Inst):List.replicate I.sup.length []=z1p I 0 []:=by
 refine List.ext_getElem? fun t=>?_
 by_cases h:t<I.sup.length
 ·rw [z6v h,List.getElem?_replicate,if_pos h,if_neg (Nat.not_lt_zero _)]
  split <;> rfl
 ·rw [List.getElem?_eq_none (by simp; omega),List.getElem?_eq_none (by rw [z6w]; omega)]
theorem stpsK_set {I:Inst} {n:Nat} {q:List Stp} (s:Stp) {r:List (List Int)} (hr:(z1p I n q)[n]? = some r):(z1p I n q).set n (r ++ [z64 s])=z1p I n (q ++ [s]):=by
 have hn:n<I.sup.length:=by have:=(List.getElem?_eq_some_iff.1 hr).1; rwa [z6w] at this
 rw [z6v hn,if_neg (Nat.lt_irrefl _),if_pos rfl] at hr
 cases hr
 refine List.ext_getElem? fun t=>?_
 rw [List.getElem?_set,z6w]
 by_cases h:t<I.sup.length
 ·by_cases e:n=t
  ·subst e
   rw [if_pos rfl,if_pos hn,z6v h,if_neg (Nat.lt_irrefl _),if_pos rfl,List.map_append]; rfl
  ·rw [if_neg e,z6v h,z6v h]
   by_cases h2:t<n
   ·rw [if_pos h2,if_pos h2]
   ·rw [if_neg h2,if_neg h2,if_neg (fun x=>e x.symm),if_neg (fun x=>e x.symm)]
 ·rw [if_neg (by omega),List.getElem?_eq_none (by rw [z6w]; omega),List.getElem?_eq_none (by rw [z6w]; omega)]
theorem stpsK_next (I:Inst) (n:Nat):z1p I n (stpsF I n)=z1p I (n+1) []:=by
 unfold z1p
 refine List.map_congr_left fun u _=>?_
 by_cases h:u<n
 ·rw [if_pos h,if_pos (by omega)]
 ·rw [if_neg h]
  by_cases e:u=n
  ·subst e; rw [if_pos rfl,if_pos (Nat.lt_succ_self _)]
  ·rw [if_neg e,if_neg (by omega)]
   split <;> rfl
theorem fm_len {F:Nat->List Int} {S:Nat->Nat} (h0:S 0=0) (hS:∀ k,S (k+1)=S k+(F k).length):∀ n,((List.range n).flatMap F).length=S n
 | 0=>by simp [h0]
 | n+1=>by rw [List.range_succ,List.flatMap_append,List.length_append,fm_len h0 hS n,hS]; simp
theorem fm_piece {F:Nat->List Int} {S:Nat->Nat} (h0:S 0=0) (hS:∀ k,S (k+1)=S k+(F k).length) {j:Nat}:∀ n,j<n->(((List.range n).flatMap F).take (S (j+1))).drop (S j)=F j
 | 0,h=>by omega
 | n+1,h=>by
  have hl:=fm_len h0 hS n
  rw [List.range_succ,List.flatMap_append]
  by_cases e:j=n
  ·subst e
   rw [List.take_of_length_le (by rw [List.length_append,hl,hS]; simp),<- hl,List.drop_append]
   simp
  ·have hm:∀ d k,S k <= S (k+d):=fun d k=>by
    induction d with
    | zero=>exact Nat.le_refl _
    | succ d ih=>rw [<- Nat.add_assoc,hS]; omega
   have:=hm (n - (j+1)) (j+1)
   rw [show j+1+(n - (j+1))=n by omega] at this
   rw [List.take_append_of_le_length (by omega)]
   exact fm_piece h0 hS n (by omega)
theorem z5f {I:Inst} {j:Nat} (h:j <= 2 * I.sup.length):(z15 I).getD j 0=(z93 I j:Int):=by
 unfold z15
 rw [List.getD_eq_getElem?_getD,List.getElem?_map,List.getElem?_range (by omega)]; rfl
theorem piece_is {I:Inst} {n w:Nat} (hn:n<I.sup.length) (hw:w <= 1):z0n (z3y I) (z15 I) (n:Int) w=z3t (segA I I.arcs.length (2 * n+w)):=by
 unfold z0n
 rw [Int.toNat_natCast,z5f (by omega),z5f (by omega),Int.toNat_natCast,Int.toNat_natCast]
 unfold z3y z3t
 exact fm_piece (S:=z93 I) rfl (fun k=>by rw [z93,List.length_map]; rfl) _ (by omega)
theorem sumA_len (I:Inst):(z3y I).length=z93 I (2 * I.sup.length):=by
 unfold z3y
 exact fm_len (S:=z93 I) rfl (fun k=>by rw [z93,List.length_map]; rfl) _
theorem piece_ok {I:Inst} (hr:z02 I=0) {n w:Nat} (hn:n<I.sup.length) (hw:w <= 1):PieceOk I.sup.length (z3y I) (z15 I) (n:Int) w:=by
 have hs:=z0e hr
 have h1:=zab I (2 * n+w) 1
 have h2:=zab I (2 * n+w+1) (2 * I.sup.length - (2 * n+w+1))
 rw [show 2 * n+w+1+(2 * I.sup.length - (2 * n+w+1))=2 * I.sup.length by omega] at h2
 have h3:=sumA_le I (2 * I.sup.length)
 have h4:2 * I.sup.length * I.arcs.length <= 128 * 256:=Nat.mul_le_mul (by omega) (by omega)
 have h5:=sumA_len I
 refine ⟨by omega,by omega,by omega,by omega,by simp [z15]; omega,?_,?_,?_⟩
 ·rw [Int.toNat_natCast,z5f (by omega)]; omega
 ·rw [Int.toNat_natCast,z5f (by omega),z5f (by omega)]; omega
 ·rw [Int.toNat_natCast,z5f (by omega)]; omega
theorem segA_mem {I:Inst} (hr:z02 I=0) {n a:Nat}:(a ∈ z5c I n ↔ a<I.arcs.length/\(z2z I a).src=n)/\(a ∈ z7j I n ↔ a<I.arcs.length/\(z2z I a).dst=n):=by
 have ok:∀ a,a<I.arcs.length->z3v I.sup.length (z2z I a)=true:=fun a ha=>by
  have:=z1j hr ha
  have q1:=this.s0; have q2:=this.s1; have q3:=this.d0; have q4:=this.d1
  exact okArc_iff.2 ⟨q1,by omega,q3,by omega⟩
 have e:∀ j,inK I j a=(z3v I.sup.length (z2z I a) && hasK (z2z I a) j):=fun _=>rfl
 unfold z5c z7j segA
 rw [List.mem_filter,List.mem_filter,List.mem_range,e,e]
 refine ⟨⟨fun h=>⟨h.1,?_⟩,fun h=>⟨h.1,?_⟩⟩,⟨fun h=>⟨h.1,?_⟩,fun h=>⟨h.1,?_⟩⟩⟩
 ·have h2:=h.2
  rw [ok a h.1,Bool.true_and,hasK_iff] at h2
  omega
 ·rw [ok a h.1,Bool.true_and,hasK_iff]; left; omega
 ·have h2:=h.2
  rw [ok a h.1,Bool.true_and,hasK_iff] at h2
  omega
 ·rw [ok a h.1,Bool.true_and,hasK_iff]; right; omega
theorem steps_ok {I:Inst} (hr:z02 I=0):AtOk I (z1p I I.sup.length []):=by
 have hs:=z0e hr
 refine ⟨z6w _ _ _,fun u hu=>⟨stpsF I u,by rw [z6v hu,if_pos hu],?_,fun s=>?_⟩⟩
 ·have h1:=z9a I (2 * u) I.arcs.length
  have h2:=z9a I (2 * u+1) I.arcs.length
  unfold z72 at h1 h2
  unfold stpsF fwd bwd z5c z7j
  rw [List.length_append,List.length_map,List.length_map]
  omega
 ·obtain ⟨a,k⟩:=s
  have hm:=@segA_mem I hr u a
  unfold stpsF fwd bwd okS frS
  rw [List.mem_append,List.mem_map,List.mem_map]
  dsimp only
  constructor
  ·rintro (⟨b,hb,he⟩ | ⟨b,hb,he⟩)
   ·cases he
    obtain ⟨q1,q2⟩:=hm.1.1 hb
    exact ⟨q1,by rw [if_neg (by simp)]; omega⟩
   ·cases he
    obtain ⟨q1,q2⟩:=hm.2.1 hb
    exact ⟨q1,by rw [if_pos rfl]; omega⟩
  ·rintro ⟨h1,h2⟩
   have ha:=z1j hr h1
   have:=ha.s0; have:=ha.d0
   cases k with
   | false =>
    rw [if_neg (by simp)] at h2
    exact .inl ⟨a,hm.1.2 ⟨h1,by omega⟩,rfl⟩
   | true =>
    rw [if_pos rfl] at h2
    exact .inr ⟨a,hm.2.2 ⟨h1,by omega⟩,rfl⟩
theorem LowI.begin {I:Inst} (hr:z02 I=0):LowI I 0 (List.replicate I.arcs.length 0) I.sup:=by
 have hz:∀ c,(List.replicate I.arcs.length (0:Int)).getD c 0=0:=fun c=>by
  rw [List.getD_eq_getElem?_getD,List.getElem?_replicate]; split <;> rfl
 refine ⟨⟨rfl,by simp,fun v hv=>by rw [netK_zero _ _ hz]; omega⟩,fun c _=>by rw [hz,if_neg (Nat.not_lt_zero _)],fun v hv=>?_,?_⟩
 ·have hm:I.sup.getD v 0 ∈ I.sup:=by rw [List.getD_eq_getElem?_getD,List.getElem?_eq_getElem hv]; exact List.getElem_mem hv
  have:=(z1n hr).1 _ hm
  omega
 ·have:∀ k,k <= I.sup.length->z4k I.sup k <= 4398046511104 * (k:Int):=fun k=>by
   induction k with
   | zero=>intro _; simp [z4k]
   | succ k ih =>
    intro hk
    have h1:=ih (by omega)
    have hm:I.sup.getD k 0 ∈ I.sup:=by rw [List.getD_eq_getElem?_getD,List.getElem?_eq_getElem hk]; exact List.getElem_mem hk
    have h2:=(z1n hr).1 _ hm
    rw [z4k]
    have e:((k+1:Nat):Int)=k+1:=by omega
    rw [e]
    omega
  have:=this _ (Nat.le_refl _)
  have e:((0:Nat):Int)=0:=rfl
  rw [e]
  omega
theorem LowI.next {I:Inst} (hr:z02 I=0) {a:Nat} {x o:List Int} (h:LowI I a x o) (ha:a<I.arcs.length):LowI I (a+1) (z4s x (a,false) (z2z I a).low) (z6y I o (a,false) (z2z I a).low):=by
 have hk:=z1j hr ha
 have hl0:=hk.l0; have hl1:=hk.l1
 refine ⟨h.over.push hr (s:=(a,false)) ha _,fun c hc=>?_,fun v hv=>?_,?_⟩
 ·rw [z8m (by rw [h.over.lx]; exact ha),h.at_ c hc]
  by_cases e:c=a
  ·subst e; rw [if_neg (Nat.lt_irrefl _),if_pos rfl,if_pos (Nat.lt_succ_self _)]; simp
  ·rw [if_neg (show ¬ c=((a,false):Stp).1 from e)]
   by_cases h2:c<a
   ·rw [if_pos h2,if_pos (by omega)]; omega
   ·rw [if_neg h2,if_neg (by omega)]; rfl
 ·have:=h.bd v hv
  rw [zdq (by rw [h.over.lo]; exact hv)]
  have e:((a+1:Nat):Int)=a+1:=by omega
  rw [e]
  repeat' split <;> omega
 ·have:=posS_push hr h.over.lo (s:=(a,false)) ha hl0
  have:=h.pos
  have e:((a+1:Nat):Int)=a+1:=by omega
  rw [e]
  omega
theorem LowI.xb {I:Inst} (hr:z02 I=0) {a:Nat} {x o:List Int} (h:LowI I a x o) (ha:a <= I.arcs.length):XB x/\XB o:=by
 have hs:=z0e hr
 refine ⟨xb_of fun k hk=>?_,xb_of fun k hk=>?_⟩
 ·have hk2:k<I.arcs.length:=by rw [<- h.over.lx]; exact hk
  have:=z1j hr hk2
  have:=this.l0; have:=(z1j hr hk2).l1
  rw [h.at_ k hk2]
  split <;> omega
 ·have:=h.bd k (by rw [<- h.over.lo]; exact hk)
  omega
structure SmallI (I:Inst):Prop where
 s:∀ y ∈ I.sup,-1048576 <= y/\y <= 1048576
 a:∀ a ∈ I.arcs,a.low <= 524288/\(a.cap=inf ∨ a.cap <= 536870912)
structure SolveP (I:Inst) (c:Cert) (e:Int):Prop where
 bad:z02 I ≠ 0->e=z02 I/\c=⟨0,[],[],[],[]⟩
 ok:z02 I=0->e=0/\z28 I c=0/\YB c.flow/\YB c.pot/\∀ C:Int,0 <= C->(∀ s,okS I s->-C <= csS I s/\csS I s <= C)->∀ k,-(C * 32768) <= c.pot.getD k 0/\c.pot.getD k 0 <= C * 32768
theorem build_fill {I:Inst} (hr:z02 I=0) {x o:List Int} {t:Rows3} (h:BuildP I x o t):FillI I x o:=by
 have hs:=z0e hr
 have hlow:=h.low
 have hx:∀ a,a<I.arcs.length->x.getD a 0=(z2z I a).low:=fun a ha=>by rw [hlow.at_ a ha,if_pos ha]
 refine ⟨⟨4398046511104,⟨hlow.over,fun a ha=>?_,fun a ha=>?_⟩,by omega,?_⟩⟩
 ·have:=z1j hr ha
  have h1:=this.c
  rw [hx a ha]
  exact ⟨Int.le_refl _,h1.imp id (·.1)⟩
 ·have:=z1j hr ha
  have h1:=this.l0; have h2:=this.l1
  rw [hx a ha]; omega
 ·have:=hlow.pos
  omega
theorem build_cheap {I:Inst} (hr:z02 I=0) (hsm:SmallI I) {x o:List Int} {t:Rows3} (h:BuildP I x o t) (hπ:∃ π,z90 I (endS I) π) (hy:∃ y,A64 y/\z1w I y=0):zik I x o:=by
 have hs:=z0e hr
 have hlow:=h.low
 refine ⟨hr,hlow.over,fun a ha=>by rw [hlow.at_ a ha,if_pos ha],⟨by rw [hlow.over.lo]; omega,by omega,fun y hy=>?_,fun a ha=>?_⟩,hπ,hy⟩
 ·obtain ⟨v,hv⟩:=List.mem_iff_getElem?.1 hy
  have hvl:v<I.sup.length:=by rw [<- hlow.over.lo]; exact (List.getElem?_eq_some_iff.1 hv).1
  have e:o.getD v 0=y:=by rw [List.getD_eq_getElem?_getD,hv]; rfl
  rw [<- e,hlow.over.at_ v hvl]
  have hm:I.sup.getD v 0 ∈ I.sup:=by rw [List.getD_eq_getElem?_getD,List.getElem?_eq_getElem hvl]; exact List.getElem_mem hvl
  have h1:=hsm.s _ hm
  have h2:∀ k,k <= I.arcs.length->-(524288 * (k:Int)) <= z3z I.sup.length I.arcs x k v/\z3z I.sup.length I.arcs x k v <= 524288 * (k:Int):=fun k=>by
   induction k with
   | zero=>intro _; simp [z3z]
   | succ k ih =>
    intro hk
    obtain ⟨i1,i2⟩:=ih (by omega)
    have h3:=z1j hr (a:=k) (by omega)
    have h4:=h3.l0
    have h5:=(hsm.a _ (arcN_mem (show k<I.arcs.length by omega)).2).1
    have h6:=hlow.at_ k (by omega)
    rw [if_pos (by omega)] at h6
    rw [z3z,h6]
    have e2:((k+1:Nat):Int)=k+1:=by omega
    rw [e2]
    unfold z5m
    repeat' split <;> omega
  have:=h2 _ (Nat.le_refl _)
  omega
 ·have h1:=hsm.a a ha
  obtain ⟨j,hj⟩:=List.mem_iff_getElem?.1 ha
  have h3:=z1j hr (a:=j) (List.getElem?_eq_some_iff.1 hj).1
  rw [z27 hj] at h3
  have:=h3.l0; have h4:=h3.c
  refine h1.2.imp id fun h=>⟨?_,h⟩
  rcases h4 with h4 | h4
  ·rw [h4] at h; exact absurd h (by decide)
  ·omega
theorem fits_len {I:Inst} {x o:List Int} {m:List Bool} {f:Bool} (h:FillP I x o m f):A64 x:=fun y hy=>by have:=h.inv.xb y hy; unfold I64; omega
theorem nil_few {C:Int} (h0:0 <= C) (k:Nat):-(C * 32768) <= ([]:List Int).getD k 0/\([]:List Int).getD k 0 <= C * 32768:=by
 have:([]:List Int).getD k 0=0:=rfl
 rw [this]; omega
theorem YB.nil:YB []:=fun y hy=>by simp at hy
theorem solve_cut {I:Inst} (hr:z02 I=0) {x o:List Int} {m:List Bool} (h:FillP I x o m true):SolveP I ⟨2,[],[],m,[]⟩ 0:=by
 refine ⟨fun h2=>absurd hr h2,fun _=>⟨rfl,?_,YB.nil,YB.nil,fun C h0 _ k=>nil_few h0 k⟩⟩
 unfold z28 z3o
 simp [hr,h.yes rfl]
theorem solve_ray {I:Inst} (hr:z02 I=0) {x o:List Int} {m:List Bool} (h:FillP I x o m false) {l:List Int} (hl:RoundP I l true):SolveP I ⟨3,x,[],[],l⟩ 0:=by
 refine ⟨fun h2=>absurd hr h2,fun _=>⟨rfl,?_,h.inv.xb,YB.nil,fun C h0 _ k=>nil_few h0 k⟩⟩
 have h1:=(h.no rfl).2
 have h2:=hl.yes rfl
 unfold z28 z3o
 simp [hr,h1,h2]
theorem solve_best {I:Inst} (hr:z02 I=0) {x o p:List Int} (h:CheapP I x o) (hp:PriceP I x p):SolveP I ⟨1,x,p,[],[]⟩ 0:=by
 refine ⟨fun h2=>absurd hr h2,fun _=>⟨rfl,?_,h.yb,?_,fun C h0 hC k=>?_⟩⟩
 ·have:=prices_slack h.fits hp
  unfold z28 z3o
  simp [hr,this]
 ·obtain ⟨g,-,hpe,hg,-⟩:=hp.ex
  show YB p
  rw [hpe]
  intro y hy
  unfold negF at hy
  obtain ⟨v,hv,rfl⟩:=List.mem_map.1 hy
  have:=hg v (List.mem_range.1 hv)
  omega
 ·obtain ⟨g,-,hpe,-,hg⟩:=hp.ex
  show -(C * 32768) <= p.getD k 0/\p.getD k 0 <= C * 32768
  rw [hpe]
  by_cases hk:k<I.sup.length
  ·have:=hg C h0 hC k hk
   rw [negF_get _ _ hk]; omega
  ·rw [List.getD_eq_getElem?_getD,List.getElem?_eq_none (by simp [negF]; omega)]
   show -(C * 32768) <= 0/\0 <= C * 32768
   omega
theorem solve_bad {I:Inst} (hr:z02 I ≠ 0):SolveP I ⟨0,[],[],[],[]⟩ (z02 I):=⟨fun _=>⟨rfl,rfl⟩,fun h=>absurd h hr⟩
end Go.Ql
end
