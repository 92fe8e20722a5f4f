/- Part of the proof: Solve4, Solve5, Solve6, DQ20, FQ20, Solve7, VcR, DR20, FR20, Solve8, DS20, FS20. -/
import Derived.Test.YtggblkbecekbdaaGreatZG9
import Derived.Test.YtggblkbecekbdaaGreatZG10
import Derived.Test.YtggblkbecekbdaaGreatZG5
import Derived.Test.YtggblkbecekbdaaGreatZG11
set_option linter.all false
set_option linter.unusedSimpArgs false
set_option linter.unusedVariables false
set_option maxRecDepth 1000000
section
namespace Go.Ql
open Go Go.Vc
theorem over_sum {I:Inst} (hr:z04 I=0) {x o:List Int} (h:OverOf I x o):z1o (fun v=>o.getD v 0) I.sup.length=0:=by
 have h1:z1o (fun v=>o.getD v 0) I.sup.length=z1o (fun v=>I.sup.getD v 0 - z3b I.sup.length I.arcs x I.arcs.length v) I.sup.length:=z1c h.at_
 rw [h1,za2,netK_sum,<- sum_sumTo,(z2f hr).2]; rfl
theorem posS_sum (o:List Int):∀ k,z1o (fun v=>o.getD v 0) k <= z4n o k
 | 0=>Int.le_refl _
 | k+1=>by have:=posS_sum o k; rw [z1o,z4n]; omega
theorem posS_low {o:List Int} {v:Nat}:∀ {k:Nat},v<k->z1o (fun v=>o.getD v 0) k - o.getD v 0 <= z4n o k
 | 0,h=>by omega
 | k+1,h=>by
  rw [z1o,z4n]
  by_cases e:v=k
  ·subst e; have:=posS_sum o v; omega
  ·have:=posS_low (o:=o) (v:=v) (k:=k) (by omega); omega
theorem over_bd {I:Inst} (hr:z04 I=0) {x o:List Int} (h:OverOf I x o) {v:Nat} (hv:v<I.sup.length):-(z4n o I.sup.length) <= o.getD v 0/\o.getD v 0 <= z4n o I.sup.length:=by
 have h1:=posS_low (o:=o) hv
 rw [over_sum hr h] at h1
 have h2:=posS_ge (o:=o) hv
 omega
theorem over_zero {I:Inst} (hr:z04 I=0) {x o:List Int} (h:OverOf I x o) (h0:∀ v,v<I.sup.length->o.getD v 0 <= 0):∀ v,v<I.sup.length->o.getD v 0=0:=fun v hv=>by
 have h1:=posS_low (o:=o) hv
 rw [over_sum hr h] at h1
 have h2:z4n o I.sup.length=0:=by
  have:∀ k,k <= I.sup.length->z4n o k=0:=by
   intro k
   induction k with
   | zero=>intro _; rfl
   | succ k ih=>intro hk; rw [z4n,ih (by omega)]; have:=h0 k (by omega); omega
  exact this _ (Nat.le_refl _)
 have:=h0 v hv
 omega
def z8z (I:Inst) (cnt:Stp->Bool) (π:Nat->Int):Prop:=∀ s,okS I s->cnt s=true->π (toS I s) <= π (frS I s)+csS I s
theorem pot_round {I:Inst} {cnt:Stp->Bool} {π:Nat->Int} (hp:z8z I cnt π) {b:Nat->Option Stp} (hb:∀ v s,v<I.sup.length->b v=some s->okS I s/\cnt s=true/\toS I s=v) (hr:z04 I=0) {v:Nat} (hv:v<I.sup.length) :
  ∀ k,(∀ i,i<k->∃ s,b (z0o I b v i)=some s)->π v <= π (z0o I b v k)+z8s I b v k
 | 0,_=>by rw [z8s]; simp only [z0o]; omega
 | k+1,h=>by
  have ih:=pot_round hp hb hr hv k fun i hi=>h i (by omega)
  obtain ⟨s,hs⟩:=h k (by omega)
  have hlt:=z60 hr (fun v s hv hs=>(hb v s hv hs).1) hv k
  obtain ⟨h1,h2,h3⟩:=hb _ s hlt hs
  have:=hp s h1 h2
  rw [h3] at this
  have en:z0o I b v (k+1)=frS I s:=by rw [z0o,hs]
  have ec:z8s I b v (k+1)=z8s I b v k+csS I s:=by rw [z8s,hs]
  rw [en,ec]; omega
def zc5 (I:Inst) (b:Nat->Option Stp):Nat->Nat->Nat
 | 0,_=>0
 | f+1,v=>match b v with
  | none=>0
  | some s=>zc5 I b f (frS I s)+1
theorem zk1 {I:Inst} {b:Nat->Option Stp} {v:Nat} {s:Stp} (h:b v=some s) (k:Nat):z0o I b v (k+1)=z0o I b (frS I s) k:=by
 have:=z3d I b v 1 k
 rw [show k+1=1+k by omega,this]
 congr 1
 simp [z0o,h]
theorem z6l {I:Inst} {b:Nat->Option Stp}:∀ (k f v:Nat),b (z0o I b v k)=none->k <= f->zc5 I b f v=zc5 I b k v/\zc5 I b k v <= k
 | 0,f,v,h,_=>by
  simp only [z0o] at h
  cases f with
  | zero=>exact ⟨rfl,Nat.le_refl _⟩
  | succ f=>simp [zc5,h]
 | k+1,0,v,_,h=>by omega
 | k+1,f+1,v,h,hf=>by
  rw [zc5,zc5]
  cases hb:b v with
  | none=>exact ⟨rfl,Nat.zero_le _⟩
  | some s =>
   rw [zk1 hb] at h
   obtain ⟨h1,h2⟩:=z6l k f (frS I s) h (by omega)
   dsimp only
   rw [h1]
   exact ⟨rfl,Nat.succ_le_succ h2⟩
theorem zaw {I:Inst} (hr:z04 I=0) {cnt:Stp->Bool} {start:Nat->Bool} {d:Nat->Option Int} {b:Nat->Option Stp} {e:Option Nat} (h:ShortP I cnt start d b e) {π:Nat->Int} (hp:z8z I cnt π) :
  e=none/\(∀ s,okS I s->cnt s=true->∀ u,d (frS I s)=some u->∃ c,d (toS I s)=some c/\c <= u+csS I s)/\∃ ρ,Tree I b ρ/\∀ v,v<I.sup.length->ρ v<I.sup.length:=by
 obtain ⟨r,⟨⟨τ,T,t,hB⟩,hD⟩,h1,h2⟩:=h.inv
 have hby:∀ v s,v<I.sup.length->b v=some s->okS I s/\cnt s=true/\toS I s=v:=fun v s hv hs=>by
  obtain ⟨q1,q2,q3,-⟩:=hB.by_ v s hv hs; exact ⟨q1,q2,q3⟩
 have hlt:=fun (v:Nat) (hv:v<I.sup.length) (k:Nat)=>z60 hr (fun v s hv hs=>(hby v s hv hs).1) hv k
 have hno:∀ v,v<I.sup.length->¬ ∀ k,k<I.sup.length->∃ s,b (z0o I b v k)=some s:=fun v hv hall=>by
  obtain ⟨i,j,hij,hj,he⟩:=pigeon (n:=I.sup.length) (fun k=>z0o I b v k) fun k _=>hlt v hv k
  have hw:=hlt v hv i
  have hk:∀ k,k<j - i->∃ s,b (z0o I b (z0o I b v i) k)=some s:=fun k hk=>by
   rw [<- z3d]; exact hall (i+k) (by omega)
  have hc:z0o I b (z0o I b v i) (j - i)=z0o I b v i:=by
   rw [<- z3d,show i+(j - i)=j by omega]; exact he.symm
  have c1:=hB.cycle hr hw (by omega) hk hc
  have c2:=pot_round hp hby hr hw (j - i) hk
  rw [hc] at c2
  omega
 have he:e=none:=by
  cases hev:e with
  | none=>rfl
  | some v =>
   exact absurd (fun k hk=>((hB.long hr hev) k (by have:=h2 v hev; omega)).1) (hno v (hB.la v hev).1)
 subst he
 refine ⟨rfl,fun s hs hc u hu=>?_,fun v=>zc5 I b I.sup.length v,fun v s hv hs=>?_,fun v hv=>?_⟩
 ·rcases h1 rfl with h3 | h3
  ·exact hB.end_ h3 (fun _ _=>rfl) s hs hc u hu
  ·have:=z33 hr hs; omega
 ·obtain ⟨q1,q2,q3⟩:=hby v s hv hs
  refine ⟨q1,q3,?_⟩
  have:∃ k,k<I.sup.length/\b (z0o I b v k)=none:=by
   apply Classical.byContradiction
   intro hn
   exact hno v hv fun k hk=>by
    cases hb:b (z0o I b v k) with
    | none=>exact absurd ⟨k,hk,hb⟩ hn
    | some s=>exact ⟨s,rfl⟩
  obtain ⟨k,hk,hb⟩:=this
  cases k with
  | zero=>simp only [z0o] at hb; rw [hs] at hb; cases hb
  | succ k =>
   have e1:=(z6l (k+1) I.sup.length v hb (by omega)).1
   have hb2:=hb
   rw [zk1 hs] at hb2
   have e2:=(z6l k I.sup.length (frS I s) hb2 (by omega)).1
   show zc5 I b I.sup.length (frS I s)<zc5 I b I.sup.length v
   rw [e1,e2,zc5,hs]
   exact Nat.lt_succ_self _
 ·have:∃ k,k<I.sup.length/\b (z0o I b v k)=none:=by
   apply Classical.byContradiction
   intro hn
   exact hno v hv fun k hk=>by
    cases hb:b (z0o I b v k) with
    | none=>exact absurd ⟨k,hk,hb⟩ hn
    | some s=>exact ⟨s,rfl⟩
  obtain ⟨k,hk,hb⟩:=this
  have:=z6l k I.sup.length v hb (by omega)
  dsimp only
  omega
theorem ShortP.by_ {I:Inst} {cnt:Stp->Bool} {start:Nat->Bool} {d:Nat->Option Int} {b:Nat->Option Stp} {e:Option Nat} (h:ShortP I cnt start d b e) {v:Nat} {s:Stp} (hv:v<I.sup.length) (hs:b v=some s):cnt s=true/\toS I s=v/\∃ c u,d v=some c/\d (frS I s)=some u/\u+csS I s <= c:=by
 obtain ⟨r,⟨⟨τ,T,t,hB⟩,hD⟩,h1,h2⟩:=h.inv
 obtain ⟨q1,q2,q3,c,u,q4,q5,q6,q7⟩:=hB.by_ v s hv hs
 exact ⟨q2,q3,c,u,q4,q5,q6⟩
theorem ShortP.no {I:Inst} {cnt:Stp->Bool} {start:Nat->Bool} {d:Nat->Option Int} {b:Nat->Option Stp} {e:Option Nat} (h:ShortP I cnt start d b e) {v:Nat} (hv:v<I.sup.length) (hs:b v=none) {c:Int} (hc:d v=some c):start v=true:=by
 obtain ⟨r,⟨⟨τ,T,t,hB⟩,hD⟩,h1,h2⟩:=h.inv
 exact (hB.no v hv hs c hc).1
theorem ShortP.st {I:Inst} {cnt:Stp->Bool} {start:Nat->Bool} {d:Nat->Option Int} {b:Nat->Option Stp} {e:Option Nat} (h:ShortP I cnt start d b e) {v:Nat} (hv:v<I.sup.length) (hs:start v=true):∃ c,d v=some c:=by
 obtain ⟨r,⟨⟨τ,T,t,hB⟩,hD⟩,h1,h2⟩:=h.inv
 obtain ⟨c,h3,-⟩:=hB.st v hv hs
 exact ⟨c,h3⟩
theorem ShortP.db {I:Inst} {cnt:Stp->Bool} {start:Nat->Bool} {d:Nat->Option Int} {b:Nat->Option Stp} {e:Option Nat} (h:ShortP I cnt start d b e) (hr:z04 I=0) {v:Nat} {c:Int} (hc:d v=some c):-144115188075855872 <= c/\c <= 144115188075855872:=by
 obtain ⟨r,⟨⟨τ,T,t,hB⟩,hD⟩,h1,h2⟩:=h.inv
 have:=hD.big hr (Nat.le_refl _) v c hc
 omega
theorem ShortP.few {I:Inst} {cnt:Stp->Bool} {start:Nat->Bool} {d:Nat->Option Int} {b:Nat->Option Stp} {e:Option Nat} (h:ShortP I cnt start d b e) {C:Int} (h0:0 <= C) (hC:∀ s,okS I s->-C <= csS I s/\csS I s <= C) {v:Nat} {c:Int} (hc:d v=some c):-(C * 32768) <= c/\c <= C * 32768:=by
 obtain ⟨r,⟨⟨τ,T,t,hB⟩,hD⟩,h1,h2⟩:=h.inv
 exact hD C h0 hC v c hc
theorem znh {I:Inst} (hr:z04 I=0) {cnt:Stp->Bool} {d:Nat->Option Int} {b:Nat->Option Stp} {e:Option Nat} (h:ShortP I cnt (fun _=>true) d b e) {π:Nat->Int} (hp:z8z I cnt π):∃ g:Nat->Int,(∀ v,v<I.sup.length->d v=some (g v))/\z8z I cnt g:=by
 obtain ⟨h1,h2,-⟩:=zaw hr h hp
 have hk:∀ v,v<I.sup.length->∃ c,d v=some c:=fun v hv=>h.st hv rfl
 refine ⟨fun v=>(d v).getD 0,fun v hv=>?_,fun s hs hc=>?_⟩
 ·obtain ⟨c,hc⟩:=hk v hv
  dsimp only
  rw [hc]; rfl
 ·obtain ⟨u,hu⟩:=hk _ (z33 hr hs)
  obtain ⟨c,h3,h4⟩:=h2 s hs hc u hu
  dsimp only
  rw [hu,h3]; exact h4
theorem max_of (f:Nat->Int):∀ n,∃ K,∀ i,i<n->f i <= K
 | 0=>⟨0,fun i hi=>absurd hi (Nat.not_lt_zero _)⟩
 | n+1=>by
  obtain ⟨K,hK⟩:=max_of f n
  refine ⟨max K (f n),fun i hi=>?_⟩
  by_cases e:i=n
  ·subst e; omega
  ·have:=hK i (by omega); omega
def z9t (I:Inst) (x:List Int) (L:Int):Stp->Bool:=fun s=>decide (L <= rmS I x s)
structure NInv (I:Inst) (x o:List Int) (B:Int):Prop where
 over:OverOf I x o
 betw:Betw I x
 bd:∀ a,a<I.arcs.length->-B <= x.getD a 0/\x.getD a 0 <= B
theorem zgp {I:Inst} (hr:z04 I=0) {cnt:Stp->Bool} {start:Nat->Bool} {d:Nat->Option Int} {b:Nat->Option Stp} {e:Option Nat} (h:ShortP I cnt start d b e) (hok:∀ v s,v<I.sup.length->b v=some s->okS I s):∀ (f v:Nat),v<I.sup.length->∀ c,d v=some c->(∃ c',d (z19 I b f v)=some c')/\∀ s ∈ z1x I b f v,cnt s=true
 | 0,v,_,c,hc=>⟨⟨c,hc⟩,fun s hs=>by simp [z1x] at hs⟩
 | f+1,v,hv,c,hc=>by
  rw [z1x,z19]
  cases hb:b v with
  | none=>exact ⟨⟨c,hc⟩,fun s hs=>by simp at hs⟩
  | some t =>
   obtain ⟨q1,q2,c',u,q3,q4,-⟩:=h.by_ hv hb
   obtain ⟨i1,i2⟩:=zgp hr h hok f (frS I t) (z33 hr (hok v t hv hb)) u q4
   refine ⟨i1,fun s hs=>?_⟩
   rcases List.mem_cons.1 hs with rfl | hs
   ·exact q1
   ·exact i2 s hs
theorem al_ok {I:Inst} (hr:z04 I=0) {x o:List Int} {B:Int} (hN:NInv I x o B) (hB:B <= 144115188075855872) (hP:z4n o I.sup.length <= 144115188075855872) {b:Nat->Option Stp} {ρ:Nat->Nat} (hT:Tree I b ρ) (hρ:∀ v,v<I.sup.length->ρ v<I.sup.length)
  {v:Nat} (hv:v<I.sup.length) {L:Int} (hL:0 <= L) (h1:L <= o.getD (z19 I b I.sup.length v) 0) (h2:L <= -(o.getD v 0)) (h3:∀ s ∈ z1x I b I.sup.length v,L <= rmS I x s) :
  AlOk I x o (z0k I.sup.length b) (v:Int)/\L <= alU I x o (z0k I.sup.length b) v/\alL I (z0k I.sup.length b) v=z1x I b I.sup.length v/\alR I (z0k I.sup.length b) v=z19 I b I.sup.length v:=by
 obtain ⟨e1,e2⟩:=znm hr (b:=b) (b':=bOf (z0k I.sup.length b)) (fun w hw=>(bOf_row b hw).symm) (fun w s hw hs=>(hT w s hw hs).1) I.sup.length v hv
 have a1:alL I (z0k I.sup.length b) v=z1x I b I.sup.length v:=by unfold alL; rw [Int.toNat_natCast]; exact e1.symm
 have a2:alR I (z0k I.sup.length b) v=z19 I b I.sup.length v:=by unfold alR; rw [Int.toNat_natCast]; exact e2.symm
 have hU:L <= alU I x o (z0k I.sup.length b) v:=by
  unfold alU
  refine unitsF_ge _ _ ?_ (by rw [a1]; exact h3)
  unfold alU0
  rw [a2,Int.toNat_natCast]; omega
 refine ⟨⟨hr,hN.over.lx,hN.over.lo,yb_of fun k hk=>?_,yb_of fun k hk=>?_,by omega,by rw [Int.toNat_natCast]; exact hv,⟨b,ρ,rfl,hT,hρ⟩,by omega⟩,hU,a1,a2⟩
 ·have:=hN.bd k (by rw [<- hN.over.lx]; exact hk); omega
 ·have:=over_bd hr hN.over (v:=k) (by rw [<- hN.over.lo]; exact hk); omega
theorem al_does {I:Inst} {x o:List Int} {B:Int} (hN:NInv I x o B) (hB0:0 <= B) {by_:List (List Int)} {e:Int} (A:AlOk I x o by_ e) (hU:1 <= alU I x o by_ e) :
  NInv I (z2s x (alL I by_ e) (alU I x o by_ e)) (z21 I o (alL I by_ e) (alU I x o by_ e)) (B+alU I x o by_ e) /\
  z4n (z21 I o (alL I by_ e) (alU I x o by_ e)) I.sup.length=z4n o I.sup.length - alU I x o by_ e /\
  ∀ s,okS I s->rmS I x s<rmS I (z2s x (alL I by_ e) (alU I x o by_ e)) s->(s.1,!s.2) ∈ alL I by_ e:=by
 obtain ⟨ρ,h1,h2⟩:=A.tree'
 have hr:=A.right
 have hn:=znn hr h1 I.sup.length e.toNat A.e1
 have hm:=A.mem
 have hle:=znl (I:=I) (x:=x) (alL I by_ e) (alU0 I o by_ e)
 have hx:=fun a=>zdb (u:=alU I x o by_ e) (x:=x) (l:=alL I by_ e) hn (fun s hs=>by rw [hN.over.lx]; exact hm s hs) a
 have ho:=zlv hr h1 (u:=alU I x o by_ e) I.sup.length e.toNat o A.e1 hN.over.lo
 have hst:=A.stop
 have hroot:alU I x o by_ e <= o.getD (alR I by_ e) 0/\alU I x o by_ e <= -(o.getD e.toNat 0):=by
  have:=hle.1
  unfold alU alU0 at *
  omega
 have hne:¬ e.toNat=alR I by_ e:=fun h=>by rw [<- h] at hroot; omega
 refine ⟨⟨hN.over.pushs hr _ hm,betw_pushs hN.betw hN.over.lx hn hm (by omega) fun s hs=>hle.2 s hs,fun a ha=>?_⟩,?_,fun s hs hlt=>?_⟩
 ·have:=hN.bd a ha
  rw [hx a]
  repeat' split <;> omega
 ·refine posS_less (r:=alR I by_ e) hst.2 (fun v hv hvr=>?_) ?_
  ·have:=ho v hv
   unfold alL
   rw [this]
   have hrv:¬ z19 I (bOf by_) I.sup.length e.toNat=v:=fun h=>hvr (by unfold alR; exact h.symm)
   rw [if_neg hrv]
   by_cases ev:e.toNat=v
   ·subst ev; rw [if_pos rfl]; omega
   ·rw [if_neg ev]; omega
  ·have:=ho (alR I by_ e) hst.2
   unfold alL
   rw [this,if_neg hne,if_pos (show z19 I (bOf by_) I.sup.length e.toNat=alR I by_ e from rfl)]
   omega
 ·obtain ⟨a,k⟩:=s
  unfold rmS at hlt
  dsimp only at hlt ⊢
  rw [hx a] at hlt
  cases k with
  | true =>
   simp only [if_true] at hlt
   rw [Bool.not_true]
   apply Classical.byContradiction
   intro h3
   rw [if_neg h3] at hlt
   split at hlt <;> omega
  | false =>
   simp only [Bool.false_eq_true,if_false] at hlt
   rw [Bool.not_false]
   apply Classical.byContradiction
   intro h3
   rw [if_neg h3] at hlt
   split at hlt
   ·omega
   ·split at hlt <;> omega
theorem al_pot {I:Inst} (hr:z04 I=0) {x o:List Int} {L:Int} {start:Nat->Bool} {d:Nat->Option Int} {b:Nat->Option Stp} {e:Option Nat} (h:ShortP I (z9t I x L) start d b e) {π:Nat->Int} (hp:z8z I (z9t I x L) π)
  {v:Nat} (hv:v<I.sup.length) {c:Int} (hc:d v=some c) {x':List Int} (hx:∀ s,okS I s->rmS I x s<rmS I x' s->(s.1,!s.2) ∈ z1x I b I.sup.length v):∃ π',z8z I (z9t I x' L) π':=by
 obtain ⟨he,hcv,ρ,hT,hρ⟩:=zaw hr h hp
 obtain ⟨-,hw⟩:=zgp hr h (fun v s hv hs=>(hT v s hv hs).1) I.sup.length v hv c hc
 have hm:=zef hr hT I.sup.length v hv
 obtain ⟨K1,hK1⟩:=max_of (fun a=>(d (toS I (a,false))).getD 0 - csS I (a,false) - π (frS I (a,false))) I.arcs.length
 obtain ⟨K2,hK2⟩:=max_of (fun a=>(d (toS I (a,true))).getD 0 - csS I (a,true) - π (frS I (a,true))) I.arcs.length
 have hK:∀ s,okS I s->(d (toS I s)).getD 0 - csS I s - π (frS I s) <= max K1 K2:=fun s hs=>by
  obtain ⟨a,k⟩:=s
  cases k with
  | false=>have:=hK1 a hs; omega
  | true=>have:=hK2 a hs; omega
 refine ⟨fun w=>match d w with | some c=>c | none=>π w+max K1 K2,fun s hs hcs=>?_⟩
 dsimp only
 by_cases hold:z9t I x L s=true
 ·cases hf:d (frS I s) with
  | some u =>
   obtain ⟨c2,h3,h4⟩:=hcv s hs hold u hf
   rw [h3]; exact h4
  | none =>
   cases ht:d (toS I s) with
   | none=>have:=hp s hs hold; dsimp only; omega
   | some c2=>have:=hK s hs; rw [ht] at this; simp only [Option.getD_some] at this; dsimp only; omega
 ·unfold z9t at hold hcs
  rw [decide_eq_true_eq] at hold hcs
  have hmem:=hx s hs (by omega)
  obtain ⟨m1,m2,-,-⟩:=hm _ hmem
  obtain ⟨a,k⟩:=s
  dsimp only at hmem m1 m2
  obtain ⟨f1,f2,f3⟩:=zkx I a k
  rw [f2] at m2
  obtain ⟨q1,q2,c2,u,q3,q4,q5⟩:=h.by_ (z33 hr hs) m2
  rw [f1] at q4
  rw [f3] at q5
  obtain ⟨c3,q6,q7⟩:=hcv _ m1 q1 u (by rw [f1]; exact q4)
  rw [f2] at q6
  rw [q3] at q6; cases q6
  rw [q3,q4]
  dsimp only
  omega
end Go.Ql
end
section
namespace Go.Ql
open Go Go.Vc
theorem posS_more {o p:List Int} {r:Nat} {u:Int} (hu:0 <= u):∀ {k:Nat},(∀ v,v<k->v ≠ r->max (p.getD v 0) 0 <= max (o.getD v 0) 0)->max (p.getD r 0) 0 <= max (o.getD r 0) 0+u->z4n p k <= z4n o k+u
 | 0,_,_=>by rw [z4n,z4n]; omega
 | k+1,h1,h2=>by
  rw [z4n,z4n]
  by_cases e:r=k
  ·subst e
   have:∀ j,j <= r->z4n p j <= z4n o j:=by
    intro j
    induction j with
    | zero=>intro _; exact Int.le_refl _
    | succ j ih=>intro hj; rw [z4n,z4n]; have:=ih (by omega); have:=h1 j (by omega) (by omega); omega
   have:=this r (Nat.le_refl _); omega
  ·have:=posS_more (o:=o) (p:=p) (r:=r) hu (k:=k) (fun v hv hne=>h1 v (by omega) hne) h2
   have:=h1 k (by omega) (fun e'=>e e'.symm); omega
theorem posS_push {I:Inst} (hr:z04 I=0) {o:List Int} (ho:o.length=I.sup.length) {s:Stp} (hs:okS I s) {u:Int} (hu:0 <= u):z4n (z6v I o s u) I.sup.length <= z4n o I.sup.length+u:=by
 refine posS_more (r:=toS I s) hu (fun v hv hne=>?_) ?_
 ·rw [zda (by rw [ho]; exact hv)]
  (repeat' split) <;> omega
 ·rw [zda (by rw [ho]; exact z5s hr hs)]
  (repeat' split) <;> omega
def rcOk (I:Inst) (g:Nat->Int) (s:Stp):Prop:=g (toS I s) <= g (frS I s)+csS I s
theorem rc_flip {I:Inst} {g:Nat->Int} {a:Nat} {k:Bool} (h:¬ rcOk I g (a,k)):rcOk I g (a,!k):=by
 obtain ⟨f1,f2,f3⟩:=zkx I a k
 unfold rcOk at *
 rw [f1,f2,f3]; omega
structure SatI (I:Inst) (g:Nat->Int) (L B P:Int) (q:Nat) (done:Stp->Bool) (x o:List Int):Prop where
 n:NInv I x o B
 hi:∀ s,okS I s->2 * L <= rmS I x s->rcOk I g s
 lo:∀ s,okS I s->done s=true->L <= rmS I x s->rcOk I g s
 p:z4n o I.sup.length <= P+2 * L * q
theorem rmS_other {x:List Int} {I:Inst} {s t:Stp} {u:Int} (hl:x.length=I.arcs.length) (hs:okS I s) (h:t.1 ≠ s.1):rmS I (z4u x s u) t=rmS I x t:=by
 unfold rmS
 rw [z8e (by rw [hl]; exact hs),if_neg h,Int.add_zero]
theorem rmS_self {x:List Int} {I:Inst} {s:Stp} (hl:x.length=I.arcs.length) (hs:okS I s) (hc:s.2=false->¬ (z37 I s.1).cap=inf):rmS I (z4u x s (rmS I x s)) s=0:=by
 have e:=z8e (x:=x) (s:=s) (u:=rmS I x s) (a:=s.1) (by rw [hl]; exact hs)
 rw [if_pos rfl] at e
 unfold rmS at *
 rw [e]
 cases h:s.2 with
 | true=>simp only [h,if_true] at *; omega
 | false=>simp only [h,Bool.false_eq_true,if_false,if_neg (hc h)] at *; omega
theorem SatI.skip {I:Inst} {g:Nat->Int} {L B P:Int} {q a:Nat} {k:Bool} {x o:List Int} (h:SatI I g L B P q (z1g a (bif k then 1 else 0)) x o) (hL:0 <= L) (hn:L <= rmS I x (a,k)->rcOk I g (a,k)):SatI I g L B P (q+1) (z1g a ((bif k then 1 else 0)+1)) x o :=
  { n:=h.n,hi:=h.hi,
    lo:=fun s hs hd hr=>by
      rw [zai] at hd
      by_cases e:s=(a,k)
      · subst e; exact hn hr
      · rw [decide_eq_false e,Bool.or_false] at hd
        exact h.lo s hs hd hr,
    p:=by
      have:=h.p
      have e:2 * L * ((q+1:Nat):Int)=2 * L * q+2 * L:=by rw [Int.natCast_add,Int.mul_add]; simp
      omega }
theorem SatI.fill {I:Inst} (hr:z04 I=0) {g:Nat->Int} {L B P:Int} {q a:Nat} {k:Bool} {x o:List Int} (h:SatI I g L B P q (z1g a (bif k then 1 else 0)) x o) (hL:1 <= L) (hB:4398046511104 <= B) (ha:a<I.arcs.length)
  (h1:L <= rmS I x (a,k)) (h2:¬ rcOk I g (a,k)) (hinf:endS I (a,k)=true->rcOk I g (a,k)):SatI I g L B P (q+1) (z1g a ((bif k then 1 else 0)+1)) (z4u x (a,k) (rmS I x (a,k))) (z6v I o (a,k) (rmS I x (a,k))):=by
 have hs:okS I (a,k):=ha
 have hlt:rmS I x (a,k)<2 * L:=by
  apply Int.lt_of_not_ge
  intro hge
  exact h2 (h.hi _ hs hge)
 have hc:k=false->¬ (z37 I a).cap=inf:=fun hk hcap=>h2 (hinf (by subst hk; unfold endS; simp [hcap]))
 have hfl:=rc_flip h2
 have hz:=rmS_self (x:=x) (s:=(a,k)) h.n.over.lx hs hc
 have hother:∀ s,okS I s->s.1 ≠ a->rmS I (z4u x (a,k) (rmS I x (a,k))) s=rmS I x s:=fun s _ hne=>rmS_other h.n.over.lx hs hne
 have hcase:∀ s:Stp,s.1=a->s=(a,k) ∨ s=(a,!k):=fun s hsa=>by
  obtain ⟨a',k'⟩:=s
  dsimp only at hsa
  subst hsa
  by_cases e:k'=k
  ·subst e; exact .inl rfl
  ·refine .inr ?_; cases k <;> cases k' <;> simp_all
 have hbt:=betw_push h.n.betw h.n.over.lx hs (show 0 <= rmS I x (a,k) by omega) (Int.le_refl _)
 refine ⟨⟨h.n.over.push hr hs _,hbt,fun c hcl=>?_⟩,fun s h3 h4=>?_,fun s h3 h4 h5=>?_,?_⟩
 ·by_cases e:c=a
  ·subst e
   have ok:=z1n hr hcl
   have hb:=hbt c hcl
   have hx:=z8e (x:=x) (s:=(c,k)) (u:=rmS I x (c,k)) (a:=c) (by rw [h.n.over.lx]; exact hs)
   rw [if_pos rfl] at hx
   dsimp only at hx
   have hbd:=h.n.bd c hcl
   have l0:=ok.l0
   have l1:=ok.l1
   refine ⟨by omega,?_⟩
   cases hk:k with
   | true =>
    subst hk
    simp only [if_true] at hx
    unfold rmS at hx ⊢
    simp only [if_true] at hx ⊢
    omega
   | false =>
    subst hk
    have hc2:=(ok.c.resolve_left (hc rfl)).2
    have:=hb.2.resolve_left (hc rfl)
    omega
  ·have hx:=z8e (x:=x) (s:=(a,k)) (u:=rmS I x (a,k)) (a:=c) (by rw [h.n.over.lx]; exact hs)
   rw [if_neg e,Int.add_zero] at hx
   rw [hx]; exact h.n.bd c hcl
 ·by_cases e:s.1=a
  ·rcases hcase s e with rfl | rfl
   ·rw [hz] at h4; omega
   ·exact hfl
  ·rw [hother s h3 e] at h4; exact h.hi s h3 h4
 ·by_cases e:s.1=a
  ·rcases hcase s e with rfl | rfl
   ·rw [hz] at h5; omega
   ·exact hfl
  ·rw [hother s h3 e] at h5
   rw [zai,decide_eq_false (fun e'=>e (by rw [e'])),Bool.or_false] at h4
   exact h.lo s h3 h4 h5
 ·have:=posS_push hr h.n.over.lo hs (u:=rmS I x (a,k)) (by omega)
  have:=h.p
  have e:2 * L * ((q+1:Nat):Int)=2 * L * q+2 * L:=by rw [Int.natCast_add,Int.mul_add]; simp
  omega
theorem badA_none {m:Int} {side:List Bool} {l:List Arc} (h:∀ a ∈ l,zek m side a=true->¬ a.cap=inf):∃ t,z1j m side l 0=some t/\t=(l.map fun a=>if zek m side a then a.cap else if inA m side a then -a.low else 0).sum:=by
 have:∀ (l:List Arc) (s:Int),(∀ a ∈ l,zek m side a=true->¬ a.cap=inf)->z1j m side l s=some (s+(l.map fun a=>if zek m side a then a.cap else if inA m side a then -a.low else 0).sum):=by
  intro l
  induction l with
  | nil=>intro s _; simp [z1j]
  | cons a l ih =>
   intro s h
   rw [z5q,List.map_cons,List.sum_cons]
   by_cases h1:zek m side a=true
   ·rw [if_pos h1,if_neg (h a (by simp) h1),ih _ (fun b hb=>h b (by simp [hb])),if_pos h1]
    congr 1; omega
   ·rw [if_neg h1,if_neg h1]
    by_cases h2:inA m side a=true
    ·rw [if_pos h2,if_pos h2,ih _ (fun b hb=>h b (by simp [hb]))]; congr 1; omega
    ·rw [if_neg h2,if_neg h2,ih _ (fun b hb=>h b (by simp [hb]))]; congr 1; omega
 exact ⟨_,by rw [this l 0 h,Int.zero_add],rfl⟩
theorem cross_full {m:Int} {side:List Bool} {l:List Arc} {x:List Int} (h1:∀ j a,l[j]? = some a->zek m side a=true->¬ a.cap=inf/\x.getD j 0=a.cap) (h2:∀ j a,l[j]? = some a->inA m side a=true->x.getD j 0=a.low) :
  ∀ k,k <= l.length->zb3 m side l x k=((l.take k).map fun a=>if zek m side a then a.cap else if inA m side a then -a.low else 0).sum
 | 0,_=>rfl
 | k+1,hk=>by
  have ih:=cross_full h1 h2 k (by omega)
  have ha:l[k]? = some l[k]:=List.getElem?_eq_getElem (by omega)
  rw [zb3,z1k ha,List.map_append,List.sum_append,ih]
  have hd:l.getD k default=l[k]:=by rw [List.getD_eq_getElem?_getD,ha]; rfl
  rw [hd]
  unfold crossD
  simp only [List.map_cons,List.map_nil,List.sum_cons,List.sum_nil,Int.add_zero]
  by_cases q1:zek m side l[k]=true
  ·rw [if_pos q1,if_pos q1,(h1 k _ ha q1).2,if_neg (by rw [out_not_in q1]; exact Bool.false_ne_true)]; omega
  ·rw [if_neg q1,if_neg q1]
   by_cases q2:inA m side l[k]=true
   ·rw [if_pos q2,if_pos q2,h2 k _ ha q2]; omega
   ·rw [if_neg q2,if_neg q2]; omega
theorem zni {I:Inst} (hr:z04 I=0) {x o:List Int} (h:OverOf I x o) (hb:Betw I x) {side:List Bool} (hl:side.length=I.sup.length) (hcl:∀ s,okS I s->0<rmS I x s->side.getD (frS I s) false=true->side.getD (toS I s) false=true)
  (hpos:0<z1o (fun v=>if side.getD v false then o.getD v 0 else 0) I.sup.length):z1z I side=0:=by
 have hs:=z0h hr
 have hin:=right_in hr
 have hout:∀ j a,I.arcs[j]? = some a->zek I.sup.length side a=true->¬ a.cap=inf/\x.getD j 0=a.cap:=fun j a ha ho=>by
  have hj:=(List.getElem?_eq_some_iff.1 ha).1
  rw [(on_in (hin a (List.mem_of_getElem? ha))).1,Bool.and_eq_true,Bool.not_eq_true'] at ho
  have hq:=hcl (j,false) hj
  have e1:frS I (j,false)=a.src.toNat:=by simp [frS,z2d ha]
  have e2:toS I (j,false)=a.dst.toNat:=by simp [toS,z2d ha]
  rw [e1,e2] at hq
  have hz:¬ 0<rmS I x (j,false):=fun h0=>by rw [hq h0 ho.1] at ho; exact absurd ho.2 (by simp)
  have hb2:=hb j hj
  rw [z2d ha] at hb2
  unfold rmS at hz
  dsimp only at hz
  rw [if_neg Bool.false_ne_true,z2d ha] at hz
  by_cases hc:a.cap=inf
  ·rw [if_pos hc] at hz; omega
  ·rw [if_neg hc] at hz
   have:=hb2.2.resolve_left hc
   exact ⟨hc,by omega⟩
 have hinn:∀ j a,I.arcs[j]? = some a->inA I.sup.length side a=true->x.getD j 0=a.low:=fun j a ha ho=>by
  have hj:=(List.getElem?_eq_some_iff.1 ha).1
  rw [(on_in (hin a (List.mem_of_getElem? ha))).2,Bool.and_eq_true,Bool.not_eq_true'] at ho
  have hq:=hcl (j,true) hj
  have e1:frS I (j,true)=a.dst.toNat:=by simp [frS,z2d ha]
  have e2:toS I (j,true)=a.src.toNat:=by simp [toS,z2d ha]
  rw [e1,e2] at hq
  have hz:¬ 0<rmS I x (j,true):=fun h0=>by rw [hq h0 ho.1] at ho; exact absurd ho.2 (by simp)
  have hb2:=hb j hj
  rw [z2d ha] at hb2
  unfold rmS at hz
  dsimp only at hz
  rw [if_pos rfl,z2d ha] at hz
  omega
 obtain ⟨t,ht,htv⟩:=badA_none (m:=(I.sup.length:Int)) (side:=side) (l:=I.arcs) fun a ha ho=>by
  obtain ⟨j,hj⟩:=List.mem_iff_getElem?.1 ha
  exact (hout j a hj ho).1
 have hcf:=cross_full hout hinn I.arcs.length (Nat.le_refl _)
 rw [List.take_length,<- htv] at hcf
 have hneed:zd4 I side=z1o (fun v=>if side.getD v false then o.getD v 0 else 0) I.sup.length+t:=by
  unfold zd4
  rw [zbs,<- hcf,<- zkf,<- za0]
  refine z1c fun v hv=>?_
  have:=h.at_ v hv
  split <;> omega
 have hcm:=cmp_need (side:=side) (s:=t) hr (by omega) (by omega) (z2f hr).1 ht (zd4 I side) rfl
 unfold z1z
 rw [if_neg (fun h=>h hr),if_neg (fun h=>h hl),show z5v I side=some t from ht]
 dsimp only
 rw [if_neg (fun hle=>by have:=hcm.1 hle; omega)]
theorem stuck_zero {I:Inst} (hr:z04 I=0) {x o:List Int} (h:OverOf I x o) (hb:Betw I x) {d:Nat->Bool} (h1:∀ v,v<I.sup.length->1 <= o.getD v 0->d v=true) (h2:∀ s,okS I s->1 <= rmS I x s->d (frS I s)=true->d (toS I s)=true) (h3:∀ v,v<I.sup.length->o.getD v 0 <= -1->d v=false)
  {y:List Int} (hy:A64 y) (hf:z0v I y=0):∀ v,v<I.sup.length->o.getD v 0=0:=by
 refine over_zero hr h fun v hv=>?_
 apply Classical.byContradiction
 intro hn
 have hs:=z0h hr
 have hget:∀ w,w<I.sup.length->((List.range I.sup.length).map d).getD w false=d w:=fun w hw=>by
  rw [List.getD_eq_getElem?_getD,List.getElem?_map,List.getElem?_range hw]; rfl
 have hp:=zni (side:=(List.range I.sup.length).map d) hr h hb (by simp) (fun s hs h0 hd=>by
  rw [hget _ (z33 hr hs)] at hd
  rw [hget _ (z5s hr hs)]
  exact h2 s hs (by omega) hd) (by
   have hnn:∀ w,w<I.sup.length->0 <= (if ((List.range I.sup.length).map d).getD w false then o.getD w 0 else 0):=fun w hw=>by
    rw [hget w hw]
    split
    ·rename_i hd
     apply Int.le_of_not_gt
     intro hlt
     rw [h3 w hw (by omega)] at hd; cases hd
    ·omega
   have:∀ k,k <= I.sup.length->0 <= z1o (fun w=>if ((List.range I.sup.length).map d).getD w false then o.getD w 0 else 0) k/\(v<k->0<z1o (fun w=>if ((List.range I.sup.length).map d).getD w false then o.getD w 0 else 0) k):=by
    intro k
    induction k with
    | zero=>intro _; exact ⟨Int.le_refl _,fun h=>absurd h (Nat.not_lt_zero _)⟩
    | succ k ih =>
     intro hk
     obtain ⟨i1,i2⟩:=ih (by omega)
     have:=hnn k (by omega)
     rw [z1o]
     refine ⟨by omega,fun hvk=>?_⟩
     by_cases e:v=k
     ·subst e
      rw [hget v hv,h1 v hv (by omega),if_pos rfl]
      omega
     ·have:=i2 (by omega); omega
   exact (this _ (Nat.le_refl _)).2 hv)
 exact zbx (by omega) (by omega) hy (z2f hr).1 hp hf
def GreatOk (I:Inst) (o:List Int):Prop:=o.length <= 1000/\I.arcs.length <= 1000/\(∀ y ∈ o,-536870912 <= y/\y <= 536870912)/\∀ a ∈ I.arcs,a.cap=inf ∨ -536870912 <= a.cap/\a.cap <= 536870912
structure GreatP (I:Inst) (j:Nat):Prop where
 caps:∀ a,a<I.arcs.length->(z37 I a).cap=inf ∨ (z37 I a).cap <= (2:Int) ^ j
 le:(2:Int) ^ j <= 1073741824
def MostI (I:Inst) (a:Nat) (m:Int):Prop:=(∀ c,c<a->(z37 I c).cap=inf ∨ (z37 I c).cap <= m)/\1 <= m/\m <= 536870912
structure SatG (I:Inst) (x o:List Int) (D:List (List Int)) (L:Int) (g:Nat->Int) (B P:Int):Prop where
 d:D=z0l I.sup.length fun v=>some (g v)
 gb:∀ v,v<I.sup.length->-144115188075855872 <= g v/\g v <= 144115188075855872
 b0:4398046511104 <= B
 b1:B <= 144115188075855872
 p:P+2 * L * 512 <= 144115188075855872
 s:SatI I g L B P 0 (z1g 0 0) x o
 e:∀ s,okS I s->endS I s=true->rcOk I g s
def SatOk (I:Inst) (x o:List Int) (D:List (List Int)) (L:Int):Prop:=z04 I=0/\1 <= L/\L <= 1152921504606846976/\∃ g B P,SatG I x o D L g B P
def SatJ (I:Inst) (x0 o0:List Int) (D:List (List Int)) (L:Int) (a j:Nat) (x o:List Int):Prop:=∀ g B P,SatG I x0 o0 D L g B P->SatI I g L B P (2 * a+j) (z1g a j) x o
structure SatP (I:Inst) (x0 o0:List Int) (D:List (List Int)) (L:Int) (x o:List Int):Prop where
 all:∀ g B P,SatG I x0 o0 D L g B P->SatI I g L B P (2 * I.arcs.length) allD x o
theorem SatI.bounds {I:Inst} (hr:z04 I=0) {g:Nat->Int} {L B P:Int} {q:Nat} {done:Stp->Bool} {x o:List Int} (h:SatI I g L B P q done x o) (hL:1 <= L) (hq:q <= 512) (hB:B <= 144115188075855872) (hP:P+2 * L * 512 <= 144115188075855872):x.length=I.arcs.length/\o.length=I.sup.length/\YB x/\YB o:=by
 have hPq:2 * L * (q:Int) <= 2 * L * 512:=Int.mul_le_mul_of_nonneg_left (by omega) (by omega)
 have hp:=h.p
 refine ⟨h.n.over.lx,h.n.over.lo,yb_of fun k hk=>?_,yb_of fun k hk=>?_⟩
 ·have:=h.n.bd k (by rw [<- h.n.over.lx]; exact hk); omega
 ·have:=over_bd hr h.n.over (v:=k) (by rw [<- h.n.over.lo]; exact hk); omega
theorem SatI.congr {I:Inst} {g:Nat->Int} {L B P:Int} {q q':Nat} {done done':Stp->Bool} {x o:List Int} (h:SatI I g L B P q done x o) (hL:0 <= L) (hd:∀ s,okS I s->done' s=true->done s=true) (hq:q <= q'):SatI I g L B P q' done' x o :=
  { n:=h.n,hi:=h.hi,lo:=fun s hs hds hr=>h.lo s hs (hd s hs hds) hr,
    p:=by
      have:=h.p
      have:2 * L * (q:Int) <= 2 * L * q':=Int.mul_le_mul_of_nonneg_left (by omega) (by omega)
      omega }
theorem SatJ.skip {I:Inst} {x0 o0:List Int} {D:List (List Int)} {L:Int} {a:Nat} {k:Bool} {x o:List Int} (h:SatJ I x0 o0 D L a (bif k then 1 else 0) x o) (hL:0 <= L) (hn:L <= rmS I x (a,k)->∀ g:Nat->Int,D=z0l I.sup.length (fun v=>some (g v))->rcOk I g (a,k)):SatJ I x0 o0 D L a ((bif k then 1 else 0)+1) x o :=
 fun g B P hG=>(h g B P hG).skip hL fun hl=>hn hl g hG.d
theorem SatJ.fill {I:Inst} (hr:z04 I=0) {x0 o0:List Int} {D:List (List Int)} {L:Int} {a:Nat} {k:Bool} {x o:List Int} (h:SatJ I x0 o0 D L a (bif k then 1 else 0) x o) (hL:1 <= L) (ha:a<I.arcs.length) (h1:L <= rmS I x (a,k)) (hn:∀ g:Nat->Int,D=z0l I.sup.length (fun v=>some (g v))->¬ rcOk I g (a,k)) :
  SatJ I x0 o0 D L a ((bif k then 1 else 0)+1) (z4u x (a,k) (rmS I x (a,k))) (z6v I o (a,k) (rmS I x (a,k))) :=
 fun g B P hG=>(h g B P hG).fill hr hL hG.b0 ha h1 (hn g hG.d) (hG.e (a,k) ha)
theorem SatJ.next {I:Inst} {x0 o0:List Int} {D:List (List Int)} {L:Int} {a:Nat} {x o:List Int} (h:SatJ I x0 o0 D L a 2 x o) (hL:0 <= L):SatJ I x0 o0 D L (a+1) 0 x o:=fun g B P hG=>(h g B P hG).congr hL (fun s _ hd=>by rw [z98]; exact hd) (by omega)
theorem SatJ.done {I:Inst} {x0 o0:List Int} {D:List (List Int)} {L:Int} {x o:List Int} (h:SatJ I x0 o0 D L I.arcs.length 0 x o) (hL:0 <= L):SatP I x0 o0 D L x o:=⟨fun g B P hG=>(h g B P hG).congr hL (fun s hs _=>z4o hs) (by omega)⟩
theorem SatJ.begin {I:Inst} {x0 o0:List Int} {D:List (List Int)} {L:Int}:SatJ I x0 o0 D L 0 0 x0 o0:=fun g B P hG=>hG.s
theorem z4a {n v:Nat} {g:Nat->Int} {D:List (List Int)} (hD:D=z0l n fun v=>some (g v)) {y:List Int} (hy:D[v]? = some y):y.headD 0=g v/\v<n:=by
 subst hD
 obtain ⟨h1,h2⟩:=z1y hy
 subst h2
 exact ⟨rfl,h1⟩
theorem z8d (j:Nat):(1:Int) <= (2:Int) ^ j:=by
 induction j with
 | zero=>simp
 | succ j ih=>rw [Int.pow_succ]; omega
theorem MostI.arc {I:Inst} {a:Nat} {m:Int} (h:MostI I a m) {y:Arc} (hy:I.arcs[a]? = some y) {m':Int} (hm:m <= m') (hc:y.cap=inf ∨ y.cap <= m') (hl:m' <= 536870912):MostI I (a+1) m':=by
 refine ⟨fun c hc2=>?_,by have:=h.2.1; omega,hl⟩
 by_cases e:c=a
 ·subst e; rw [z2d hy]; exact hc
 ·exact (h.1 c (by omega)).imp id (by omega)
end Go.Ql
end
section
namespace Go.Proofs.YtggblkbecekbdaaGreat
open Go Go.RowKit Go.Ql Go.Vc
def zkz (w:Inst) (w_x:List Int) (w_o:List Int) (w_t:Ql.Rows3) (w_v:List Value):FRel:={ pre:=GreatOk w w_o,G:=(Nat),post:=fun j=>GreatP w j,out:=fun j=>{ pre:=True,res:=.int .i64 ((2:Int) ^ j),rows:=[],eff:=[] } }
def zfi:FR:=fun args h=>match args,h with
 | [.ptr 0 0 0 0],[(0,.box false 109 [.row 1,.row 2,.row 3,.row 4,.row 5]),(1,.row false ty1 (.ints .i64 w_s)),(2,.row false ty2 (.arcs w_a)),(3,.row false ty3 (.ints .i64 w_x)),(4,.row false ty4 (.ints .i64 w_o)),(5,.deep false ty5 tz5 (.recs (.int .i64) [.bool] w_t) w_v none)]=>some (zkz ⟨w_s,w_a⟩ w_x w_o w_t w_v)
 | _,_=>none
def zfh (w:Inst) (w_x:List Int) (w_o:List Int) (w_t:Ql.Rows3) (w_v:List Value):List (Nat × Ann):=[(3,{ G:=(Nat) × (Int),inv:=fun ⟨k,m⟩=>⟨[(0,.ptr 0 0 0 0),(3,.int .i64 m),(12,.row 4),(13,.int .i64 (↑w_o.length:Int)),(14,.int .i64 k)],[(0,.box false 109 [.row 1,.row 2,.row 3,.row 4,.row 5]),(1,.row false 0 (.ints .i64 w.sup)),(2,.row false 0 (.arcs w.arcs)),(3,.row false 0 (.ints .i64 w_x)),(4,.row false 0 (.ints .i64 w_o)),(5,.deep false 0 0 (.recs (.int .i64) [.bool] w_t) w_v none)],6⟩,rel:=fun ⟨k0,m0⟩ ⟨k,m⟩=>k <= w_o.length/\MostI w 0 m,meas:=fun ⟨k,m⟩=>w_o.length - k }),
 (8,{ G:=(Nat) × (Int),inv:=fun ⟨a,m⟩=>⟨[(3,.int .i64 m),(28,.row 2),(29,.int .i64 (↑w.arcs.length:Int)),(30,.int .i64 a)],[(2,.row false 0 (.arcs w.arcs))],6⟩,rel:=fun ⟨a0,m0⟩ ⟨a,m⟩=>a <= w.arcs.length/\MostI w a m,meas:=fun ⟨a,m⟩=>w.arcs.length - a }),
 (14,{ G:=(Nat) × (Int),inv:=fun ⟨j,m⟩=>⟨[(3,.int .i64 m),(8,.int .i64 ((2:Int) ^ j))],[],6⟩,rel:=fun ⟨j0,m0⟩ ⟨j,m⟩=>m=m0/\MostI w w.arcs.length m/\(j=0 ∨ 1 <= j/\(2:Int) ^ (j - 1)<m),meas:=fun ⟨j,m⟩=>(2 * m - (2:Int) ^ j).toNat })]
def great20_A:List SV->z0d->List (Nat × Ann):=fun args h=>match args,h with
 | [.ptr 0 0 0 0],[(0,.box false 109 [.row 1,.row 2,.row 3,.row 4,.row 5]),(1,.row false ty1 (.ints .i64 w_s)),(2,.row false ty2 (.arcs w_a)),(3,.row false ty3 (.ints .i64 w_x)),(4,.row false ty4 (.ints .i64 w_o)),(5,.deep false ty5 tz5 (.recs (.int .i64) [.bool] w_t) w_v none)]=>zfh ⟨w_s,w_a⟩ w_x w_o w_t w_v
 | _,_=>[]
def zky:z0c:=[]
abbrev great20_n:Nat:=109
def great20_I (w:Inst) (w_x:List Int) (w_o:List Int) (w_t:Ql.Rows3) (w_v:List Value):List (Nat × z0a):=[]
def great20_IA:List SV->z0d->List (Nat × z0a):=fun _ _=>[]
def sat20_r (w:Inst) (w_x:List Int) (w_o:List Int) (w_t:Ql.Rows3) (w_v:List Value) (D:List (List Int)) (L:Int):FRel:={ pre:=SatOk w w_x w_o D L,G:=(List Int) × (List Int),post:=fun ⟨x,o⟩=>SatP w w_x w_o D L x o,out:=fun ⟨x,o⟩=>{ pre:=True,res:=.tup [],rows:=[],eff:=[(0,.box true 109 [.row 1,.row 2,.row 3,.row 4,.row 5]),(3,.row true 2 (.ints .i64 (x))),(4,.row true 2 (.ints .i64 (o))),(5,.deep true 149 147 (.recs (.int .i64) [.bool] w_t) w_v none)] } }
def sat20_fs:FR:=fun args h=>match args,h with
 | [.ptr 0 0 0 0,.row 6,.int .i64 L],[(0,.box true 109 [.row 1,.row 2,.row 3,.row 4,.row 5]),(1,.row false ty1 (.ints .i64 w_s)),(2,.row false ty2 (.arcs w_a)),(3,.row true 2 (.ints .i64 w_x)),(4,.row true 2 (.ints .i64 w_o)),(5,.deep true 149 147 (.recs (.int .i64) [.bool] w_t) w_v none),(6,.row false ty6 (.recs (.int .i64) [.bool] D))]=>some (sat20_r ⟨w_s,w_a⟩ w_x w_o w_t w_v D L)
 | _,_=>none
def sat20_an (w:Inst) (w_x:List Int) (w_o:List Int) (w_t:Ql.Rows3) (w_v:List Value) (D:List (List Int)) (L:Int):List (Nat × Ann):=[(1,{ G:=(Nat) × (List Int) × (List Int),inv:=fun ⟨a,x,o⟩=>⟨[(0,.ptr 0 0 0 0),(1,.row 6),(2,.int .i64 L),(17,.int .i64 (↑w.arcs.length:Int)),(18,.int .i64 a)],[(0,.box true 109 [.row 1,.row 2,.row 3,.row 4,.row 5]),(1,.row false 0 (.ints .i64 w.sup)),(2,.row false 0 (.arcs w.arcs)),(3,.row true 2 (.ints .i64 x)),(4,.row true 2 (.ints .i64 o)),(5,.deep true 149 147 (.recs (.int .i64) [.bool] w_t) w_v none),(6,.row false 0 (.recs (.int .i64) [.bool] D))],7⟩,rel:=fun ⟨a0,x0,o0⟩ ⟨a,x,o⟩=>a <= w.arcs.length/\SatJ w w_x w_o D L a 0 x o,meas:=fun ⟨a,x,o⟩=>w.arcs.length - a }),
 (4,{ G:=(Nat) × (Nat) × (List Int) × (List Int),inv:=fun ⟨a,j,x,o⟩=>⟨[(0,.ptr 0 0 0 0),(1,.row 6),(2,.int .i64 L),(17,.int .i64 (↑w.arcs.length:Int)),(18,.int .i64 a),(25,.agg [.int .i64 a,.bool false,.int .i64 a,.bool true]),(26,.int .i64 j)],[(0,.box true 109 [.row 1,.row 2,.row 3,.row 4,.row 5]),(1,.row false 0 (.ints .i64 w.sup)),(2,.row false 0 (.arcs w.arcs)),(3,.row true 2 (.ints .i64 x)),(4,.row true 2 (.ints .i64 o)),(5,.deep true 149 147 (.recs (.int .i64) [.bool] w_t) w_v none),(6,.row false 0 (.recs (.int .i64) [.bool] D))],7⟩,rel:=fun ⟨a0,j0,x0,o0⟩ ⟨a,j,x,o⟩=>a=a0/\j <= 2/\SatJ w w_x w_o D L a j x o,meas:=fun ⟨a,j,x,o⟩=>2 - j })]
def sat20_A:List SV->z0d->List (Nat × Ann):=fun args h=>match args,h with
 | [.ptr 0 0 0 0,.row 6,.int .i64 L],[(0,.box true 109 [.row 1,.row 2,.row 3,.row 4,.row 5]),(1,.row false ty1 (.ints .i64 w_s)),(2,.row false ty2 (.arcs w_a)),(3,.row true 2 (.ints .i64 w_x)),(4,.row true 2 (.ints .i64 w_o)),(5,.deep true 149 147 (.recs (.int .i64) [.bool] w_t) w_v none),(6,.row false ty6 (.recs (.int .i64) [.bool] D))]=>sat20_an ⟨w_s,w_a⟩ w_x w_o w_t w_v D L
 | _,_=>[]
def sat20_g:z0c:=[(zb4,(true,z02 true z6g)),(zah,(true,z02 true z6d)),(zaq,(true,z02 true z6n)),(zi3,(false,z02 false z9m))]
abbrev sat20_n:Nat:=110
def sat20_I (w:Inst) (w_x:List Int) (w_o:List Int) (w_t:Ql.Rows3) (w_v:List Value) (D:List (List Int)) (L:Int):List (Nat × z0a):=[]
def sat20_IA:List SV->z0d->List (Nat × z0a):=fun _ _=>[]
def zfg (w : Inst) (w_x : List Int) (w_o : List Int) (w_t : Ql.Rows3) (w_v : List Value) (ty1 ty2 ty3 ty4 ty5 tz5 : TypeId) : Prop :=
   ∃ (g0:Nat × Int),((g0.fst <= w_o.length/\(MostI w (0:Nat) g0.snd))/\((0=0/\((1:Int)=g0.2/\(True/\((↑w_o.length:Int)=↑w_o.length/\((0:Int)=↑g0.1/\True)))))/\((True/\(True/\(True/\(True/\(True/\True)))))/\(w.sup=w.sup/\(w.arcs=w.arcs/\(w_x=w_x/\(w_o=w_o/\((w_t=w_t/\(w_v=w_v))/\True))))))))/\∀ (g:Nat × Int),g.fst <= w_o.length/\MostI w (0:Nat) g.snd->(decide ((↑g.1:Int)<↑w_o.length)=true->((0:Int) <= ↑g.1/\((↑g.1:Int)<↑w_o.length))/\((↑g.1:Int).toNat<w_o.length/\(∀ (x:Int),w_o[(↑g.1:Int).toNat]? = some x->∃ (g':Nat × Int),(g'.fst <= w_o.length/\(MostI w (0:Nat) g'.snd))/\(w_o.length - g'.fst<w_o.length - g.fst/\((0=0/\(max (max g.2 x) (IntKind.i64.wrap ((0:Int) - x))=g'.2/\(True/\((↑w_o.length:Int)=↑w_o.length/\(IntKind.i64.wrap ((↑g.1:Int)+(1:Int))=(↑g'.1:Int)/\True)))))/\((True/\(True/\(True/\(True/\(True/\True)))))/\(w.sup=w.sup/\(w.arcs=w.arcs/\(w_x=w_x/\(w_o=w_o/\((w_t=w_t/\(w_v=w_v))/\True)))))))))))/\(decide ((↑g.1:Int)<↑w_o.length)=false->∃ (g0:Nat × Int),((g0.fst <= w.arcs.length/\(MostI w g0.fst g0.snd))/\((g.2=g0.2/\(True/\((↑w.arcs.length:Int)=↑w.arcs.length/\((0:Int)=↑g0.1/\True))))/\(w.arcs=w.arcs/\True)))/\(∀ (g:Nat × Int),g.fst <= w.arcs.length/\MostI w g.fst g.snd->(decide ((↑g.1:Int)<↑w.arcs.length)=true->((0:Int) <= ↑g.1/\((↑g.1:Int)<↑w.arcs.length))/\((↑g.1:Int).toNat<w.arcs.length/\(∀ (x:Arc),w.arcs[(↑g.1:Int).toNat]? = some x->((x.cap != (4611686018427387904:Int))=true->∃ (g':Nat × Int),(g'.fst <= w.arcs.length/\(MostI w g'.fst g'.snd))/\(w.arcs.length - g'.fst<w.arcs.length - g.fst/\((max g.2 x.cap=g'.2/\(True/\((↑w.arcs.length:Int)=↑w.arcs.length/\(IntKind.i64.wrap ((↑g.1:Int)+(1:Int))=(↑g'.1:Int)/\True))))/\(w.arcs=w.arcs/\True))))/\((x.cap != (4611686018427387904:Int))=false->∃ (g':Nat × Int),(g'.fst <= w.arcs.length/\(MostI w g'.fst g'.snd))/\(w.arcs.length - g'.fst<w.arcs.length - g.fst/\((g.2=g'.2/\(True/\((↑w.arcs.length:Int)=↑w.arcs.length/\(IntKind.i64.wrap ((↑g.1:Int)+(1:Int))=(↑g'.1:Int)/\True))))/\(w.arcs=w.arcs/\True)))))))/\(decide ((↑g.1:Int)<↑w.arcs.length)=false->∃ (g0:Nat × Int),((g0.snd=g0.snd/\(MostI w w.arcs.length g0.snd/\(g0.fst=(0:Nat) ∨ (1:Nat) <= g0.fst/\((2:Int) ^ (g0.fst - (1:Nat))<g0.snd))))/\((g.2=g0.2/\((1:Int)=(2:Int) ^ g0.1/\True))/\True))/\(∀ (g:Nat × Int),g.snd=g0.snd/\MostI w w.arcs.length g.snd/\(g.fst=(0:Nat) ∨ (1:Nat) <= g.fst/\((2:Int) ^ (g.fst - (1:Nat))<g.snd))->(decide ((2:Int) ^ g.1<g.2)=true->∃ (g':Nat × Int),(g'.snd=g0.snd/\(MostI w w.arcs.length g'.snd/\(g'.fst=(0:Nat) ∨ (1:Nat) <= g'.fst/\((2:Int) ^ (g'.fst - (1:Nat))<g'.snd))))/\(((2:Int) * g'.snd - (2:Int) ^ g'.fst).toNat<((2:Int) * g.snd - (2:Int) ^ g.fst).toNat/\((g.2=g'.2/\(IntKind.i64.wrap ((2:Int) ^ g.1 * (2:Int))=(2:Int) ^ g'.1/\True))/\True)))/\(decide ((2:Int) ^ g.1<g.2)=false->∃ (g_1:Nat),GreatP w g_1/\(((2:Int) ^ g.1=(2:Int) ^ g_1/\True)/\True))))))
theorem great20_q (w:Inst) (w_x:List Int) (w_o:List Int) (w_t:Ql.Rows3) (w_v:List Value) (ty1 ty2 ty3 ty4 ty5 tz5:TypeId):zfg w w_x w_o w_t w_v ty1 ty2 ty3 ty4 ty5 tz5=zaz TT zky (great20_I w w_x w_o w_t w_v) (zfh w w_x w_o w_t w_v) Tryz.f109 [.ptr 0 0 0 0] [(0,.box false 109 [.row 1,.row 2,.row 3,.row 4,.row 5]),(1,.row false ty1 (.ints .i64 w.sup)),(2,.row false ty2 (.arcs w.arcs)),(3,.row false ty3 (.ints .i64 w_x)),(4,.row false ty4 (.ints .i64 w_o)),(5,.deep false ty5 tz5 (.recs (.int .i64) [.bool] w_t) w_v none)] (zkz w w_x w_o w_t w_v):=by kernel_rfl
theorem great20_E (w:Inst) (w_x:List Int) (w_o:List Int) (w_t:Ql.Rows3) (w_v:List Value) (ty1 ty2 ty3 ty4 ty5 tz5:TypeId) (hp:GreatOk w w_o):FVcR TT zky (great20_I w w_x w_o w_t w_v) (zfh w w_x w_o w_t w_v) Tryz.f109 [.ptr 0 0 0 0] [(0,.box false 109 [.row 1,.row 2,.row 3,.row 4,.row 5]),(1,.row false ty1 (.ints .i64 w.sup)),(2,.row false ty2 (.arcs w.arcs)),(3,.row false ty3 (.ints .i64 w_x)),(4,.row false ty4 (.ints .i64 w_o)),(5,.deep false ty5 tz5 (.recs (.int .i64) [.bool] w_t) w_v none)] (zkz w w_x w_o w_t w_v):=by
 refine FVcR.of (zfg w w_x w_o w_t w_v ty1 ty2 ty3 ty4 ty5 tz5) (great20_q w w_x w_o w_t w_v ty1 ty2 ty3 ty4 ty5 tz5) ?_
 unfold zfg
 obtain ⟨l1,l2,ho,ha⟩:=hp
 have hw:∀ j:Nat,j <= 1000000->IntKind.i64.wrap ((j:Int)+1)=((j+1:Nat):Int):=fun j hj=>by rw [w64 (by omega) (by omega)]; omega
 simp only [eq_self,exists_const,forall_const,ne_eq,Int.toNat_natCast,zSS,z08]
 refine ⟨(0,1),⟨⟨Nat.zero_le _,fun c hc=>absurd hc (Nat.not_lt_zero _),by omega,by omega⟩,rfl,rfl⟩,fun g hg=>?_⟩
 obtain ⟨k,m⟩:=g
 dsimp only at hg ⊢
 obtain ⟨hk,-,m1,m2⟩:=hg
 refine ⟨fun h1=>⟨by omega,by omega,fun y hy=>?_⟩,fun h1=>?_⟩
 ·have hb:=ho y (List.mem_of_getElem? hy)
  rw [w64 (x:=0 - y) (by omega) (by omega)]
  exact ⟨(k+1,max (max m y) (0 - y)),⟨by dsimp only; omega,fun c hc=>absurd hc (Nat.not_lt_zero _),by dsimp only; omega,by dsimp only; omega⟩,by dsimp only; omega,rfl,hw k (by omega)⟩
 refine ⟨(0,m),⟨⟨Nat.zero_le _,fun c hc=>absurd hc (Nat.not_lt_zero _),m1,m2⟩,rfl,rfl⟩,fun g hg=>?_⟩
 clear hk m1 m2
 obtain ⟨a,m⟩:=g
 dsimp only at hg ⊢
 obtain ⟨ham,hM⟩:=hg
 refine ⟨fun h2=>⟨by omega,by omega,fun y hy=>⟨fun hc=>?_,fun hc=>?_⟩⟩,fun h2=>?_⟩
 ·have hb:=(ha y (List.mem_of_getElem? hy)).resolve_left hc
  have:=hM.2
  exact ⟨(a+1,max m y.cap),⟨by dsimp only; omega,hM.arc hy (by dsimp only; omega) (.inr (by dsimp only; omega)) (by dsimp only; omega)⟩,by dsimp only; omega,rfl,hw a (by omega)⟩
 ·exact ⟨(a+1,m),⟨by dsimp only; omega,hM.arc hy (Int.le_refl _) (.inl hc) hM.2.2⟩,by dsimp only; omega,rfl,hw a (by omega)⟩
 have ea:a=w.arcs.length:=by omega
 subst ea
 refine ⟨(0,m),⟨⟨hM,.inl rfl⟩,rfl,by simp⟩,fun g hg=>?_⟩
 obtain ⟨j,m'⟩:=g
 dsimp only at hg ⊢
 obtain ⟨rfl,-,hj⟩:=hg
 have hp1:=z8d j
 have hM2:=hM.2
 refine ⟨fun h3=>⟨(j+1,m'),⟨rfl,hM,.inr ⟨by omega,by simpa using h3⟩⟩,?_,rfl,?_⟩,fun h3=>⟨j,⟨fun a ha=>(hM.1 a ha).imp id (by omega),?_⟩,rfl⟩⟩
 ·dsimp only; rw [Int.pow_succ]; omega
 ·dsimp only; rw [Int.pow_succ]; exact w64 (by omega) (by omega)
 ·rcases hj with rfl | ⟨h4,h5⟩
  ·simp
  ·obtain ⟨i,rfl⟩:∃ i,j=i+1:=⟨j - 1,by omega⟩
   rw [Int.pow_succ]
   simp only [Nat.add_sub_cancel] at h5
   omega
theorem great20_ok:SpecOk Tryz.prog great20_n true (z10 true zfi) :=
 z3s z0i (show z15 Tryz.prog zky from z03) (by kernel_rfl) mixedOrders Tryz.func109 rfl rfl (by kernel_rfl) (n:=1) (by decide +kernel) (I:=great20_IA) (fun _ _=>z07) (A:=great20_A)
  (fun args h r hr=>by
   unfold zfi at hr
   split at hr
   ·rename_i ty1 w_s ty2 w_a ty3 w_x ty4 w_o ty5 tz5 w_t w_v; cases hr; refine ⟨rfl,fun hp=>?_⟩; have hE:=great20_E ⟨w_s,w_a⟩ w_x w_o w_t w_v ty1 ty2 ty3 ty4 ty5 tz5 hp; exact hE
   ·cases hr)
abbrev z32:=Nat × Nat × List Int × List Int
abbrev zi9:=Nat × List Int × List Int
abbrev zdi (g':z32) (g_1:z32) (L:Int) (w:Inst) (w_t:Ql.Rows3) (w_v:List Value) (D:List (List Int)):=((2:Nat) - g'.2.fst<(2:Nat) - g_1.2.fst/\((0=0/\(True/\(L=L/\((↑w.arcs.length:Int)=↑w.arcs.length/\((↑g_1.1:Int)=↑g'.1/\(((↑g_1.1:Int)=↑g'.1/\(false=false/\((↑g_1.1:Int)=↑g'.1/\(true=true/\True))))/\(IntKind.i64.wrap ((↑g_1.2.1:Int)+(1:Int))=(↑g'.2.1:Int)/\True)))))))/\((True/\(True/\(True/\(True/\(True/\True)))))/\(w.sup=w.sup/\(w.arcs=w.arcs/\(g_1.2.2.1=g'.2.2.1/\(g_1.2.2.2=g'.2.2.2/\((w_t=w_t/\(w_v=w_v/\((none:Option Nat)=none)))/\(D=D/\True)))))))))
abbrev z8f (g':z32) (g0:z32) (w:Inst) (w_x:List Int) (w_o:List Int) (D:List (List Int)) (L:Int):=(g'.fst=g0.fst/\(g'.2.fst <= (2:Nat)/\(SatJ w w_x w_o D L g'.fst g'.2.fst g'.2.2.fst g'.2.2.snd)))
abbrev z8g:=(True/\(True/\(True/\(True/\(True/\True)))))
abbrev sat20_a3 (L:Int) (w:Inst) (g_1:z32) (g':z32):=(0=0/\(True/\(L=L/\((↑w.arcs.length:Int)=↑w.arcs.length/\((↑g_1.1:Int)=↑g'.1/\(((↑g_1.1:Int)=↑g'.1/\(false=false/\((↑g_1.1:Int)=↑g'.1/\(true=true/\True))))/\(IntKind.i64.wrap ((↑g_1.2.1:Int)+(1:Int))=(↑g'.2.1:Int)/\True)))))))
abbrev zau (w_t:Ql.Rows3) (w_v:List Value) (D:List (List Int)):=((w_t=w_t/\(w_v=w_v/\((none:Option Nat)=none)))/\(D=D/\True))
def sat20_E0 (w : Inst) (w_x : List Int) (w_o : List Int) (w_t : Ql.Rows3) (w_v : List Value) (D : List (List Int)) (L : Int) (ty1 ty2 ty6 : TypeId) : Prop :=
   ∃ (g0:zi9),((g0.fst <= w.arcs.length/\(SatJ w w_x w_o D L g0.fst (0:Nat) g0.2.fst g0.2.snd))/\((0=0/\(True/\(L=L/\((↑w.arcs.length:Int)=↑w.arcs.length/\((0:Int)=↑g0.1/\True)))))/\((z8g)/\(w.sup=w.sup/\(w.arcs=w.arcs/\(w_x=g0.2.1/\(w_o=g0.2.2/\(zau w_t w_v D))))))))/\∀ (g:zi9),g.fst <= w.arcs.length/\SatJ w w_x w_o D L g.fst (0:Nat) g.2.fst g.2.snd->(decide ((↑g.1:Int)<↑w.arcs.length)=true->∃ (g0:z32),((g0.fst=g0.fst/\(g0.2.fst <= (2:Nat)/\(SatJ w w_x w_o D L g0.fst g0.2.fst g0.2.2.fst g0.2.2.snd)))/\((0=0/\(True/\(L=L/\((↑w.arcs.length:Int)=↑w.arcs.length/\((↑g.1:Int)=↑g0.1/\(((↑g.1:Int)=↑g0.1/\(false=false/\((↑g.1:Int)=↑g0.1/\(true=true/\True))))/\((0:Int)=↑g0.2.1/\True)))))))/\((z8g)/\(w.sup=w.sup/\(w.arcs=w.arcs/\(g.2.1=g0.2.2.1/\(g.2.2=g0.2.2.2/\(zau w_t w_v D))))))))/\∀ (g_1:z32),g_1.fst=g0.fst/\g_1.2.fst <= (2:Nat)/\SatJ w w_x w_o D L g_1.fst g_1.2.fst g_1.2.2.fst g_1.2.2.snd->(decide ((↑g_1.2.1:Int)<2)=true->((0:Int) <= ↑g_1.2.1/\((↑g_1.2.1:Int)<↑ti197.fs.length))/\((↑g_1.2.1:Int).toNat=(0:Nat)->z1l w (↑g_1.1:Int)/\(z1l w (↑g_1.1:Int)/\(g_1.2.2.1.length=w.arcs.length/\(XB g_1.2.2.1)))/\(decide (rmS w g_1.2.2.1 ((↑g_1.1:Int).toNat,false) ≥ L)=true->((0:Int) <= ↑(frS w ((↑g_1.1:Int).toNat,false))/\((↑(frS w ((↑g_1.1:Int).toNat,false)):Int)<↑D.length))/\(↑(frS w ((↑g_1.1:Int).toNat,false)):Int).toNat<D.length/\(∀ (x:List Int),D[(↑(frS w ((↑g_1.1:Int).toNat,false)):Int).toNat]? = some x->((0:Int) <= ↑(toS w ((↑g_1.1:Int).toNat,false))/\((↑(toS w ((↑g_1.1:Int).toNat,false)):Int)<↑D.length))/\((↑(toS w ((↑g_1.1:Int).toNat,false)):Int).toNat<D.length/\(∀ (x_1:List Int),D[(↑(toS w ((↑g_1.1:Int).toNat,false)):Int).toNat]? = some x_1->z1l w (↑g_1.1:Int)/\((decide (IntKind.i64.wrap (x.headD (0:Int)+csS w ((↑g_1.1:Int).toNat,false))<x_1.headD (0:Int))=true->(z1l w (↑g_1.1:Int)/\(g_1.2.2.1.length=w.arcs.length/\(g_1.2.2.2.length=w.sup.length/\(XB g_1.2.2.1/\(XB g_1.2.2.2/\((-1152921504606846976:Int) <= rmS w g_1.2.2.1 ((↑g_1.1:Int).toNat,false)/\(rmS w g_1.2.2.1 ((↑g_1.1:Int).toNat,false) <= (1152921504606846976:Int))))))))/\(∃ (g':z32),(z8f g' g0 w w_x w_o D L)/\((2:Nat) - g'.2.fst<(2:Nat) - g_1.2.fst/\((sat20_a3 L w g_1 g')/\((z8g)/\(w.sup=w.sup/\(w.arcs=w.arcs/\(z4u g_1.2.2.1 ((↑g_1.1:Int).toNat,false) (rmS w g_1.2.2.1 ((↑g_1.1:Int).toNat,false))=g'.2.2.1/\(z6v w g_1.2.2.2 ((↑g_1.1:Int).toNat,false) (rmS w g_1.2.2.1 ((↑g_1.1:Int).toNat,false))=g'.2.2.2/\(zau w_t w_v D))))))))))/\(decide (IntKind.i64.wrap (x.headD (0:Int)+csS w ((↑g_1.1:Int).toNat,false))<x_1.headD (0:Int))=false->∃ (g':z32),(z8f g' g0 w w_x w_o D L)/\(zdi g' g_1 L w w_t w_v D)))))))/\(decide (rmS w g_1.2.2.1 ((↑g_1.1:Int).toNat,false) ≥ L)=false->∃ (g':z32),(z8f g' g0 w w_x w_o D L)/\(zdi g' g_1 L w w_t w_v D)))/\((↑g_1.2.1:Int).toNat=(0:Nat)+(1:Nat)->z1l w (↑g_1.1:Int)/\(z1l w (↑g_1.1:Int)/\(g_1.2.2.1.length=w.arcs.length/\(XB g_1.2.2.1)))/\(decide (rmS w g_1.2.2.1 ((↑g_1.1:Int).toNat,true) ≥ L)=true->((0:Int) <= ↑(frS w ((↑g_1.1:Int).toNat,true))/\((↑(frS w ((↑g_1.1:Int).toNat,true)):Int)<↑D.length))/\(↑(frS w ((↑g_1.1:Int).toNat,true)):Int).toNat<D.length/\(∀ (x:List Int),D[(↑(frS w ((↑g_1.1:Int).toNat,true)):Int).toNat]? = some x->((0:Int) <= ↑(toS w ((↑g_1.1:Int).toNat,true))/\((↑(toS w ((↑g_1.1:Int).toNat,true)):Int)<↑D.length))/\((↑(toS w ((↑g_1.1:Int).toNat,true)):Int).toNat<D.length/\(∀ (x_1:List Int),D[(↑(toS w ((↑g_1.1:Int).toNat,true)):Int).toNat]? = some x_1->z1l w (↑g_1.1:Int)/\((decide (IntKind.i64.wrap (x.headD (0:Int)+csS w ((↑g_1.1:Int).toNat,true))<x_1.headD (0:Int))=true->(z1l w (↑g_1.1:Int)/\(g_1.2.2.1.length=w.arcs.length/\(g_1.2.2.2.length=w.sup.length/\(XB g_1.2.2.1/\(XB g_1.2.2.2/\((-1152921504606846976:Int) <= rmS w g_1.2.2.1 ((↑g_1.1:Int).toNat,true)/\(rmS w g_1.2.2.1 ((↑g_1.1:Int).toNat,true) <= (1152921504606846976:Int))))))))/\(∃ (g':z32),(z8f g' g0 w w_x w_o D L)/\((2:Nat) - g'.2.fst<(2:Nat) - g_1.2.fst/\((sat20_a3 L w g_1 g')/\((z8g)/\(w.sup=w.sup/\(w.arcs=w.arcs/\(z4u g_1.2.2.1 ((↑g_1.1:Int).toNat,true) (rmS w g_1.2.2.1 ((↑g_1.1:Int).toNat,true))=g'.2.2.1/\(z6v w g_1.2.2.2 ((↑g_1.1:Int).toNat,true) (rmS w g_1.2.2.1 ((↑g_1.1:Int).toNat,true))=g'.2.2.2/\(zau w_t w_v D))))))))))/\(decide (IntKind.i64.wrap (x.headD (0:Int)+csS w ((↑g_1.1:Int).toNat,true))<x_1.headD (0:Int))=false->∃ (g':z32),(z8f g' g0 w w_x w_o D L)/\(zdi g' g_1 L w w_t w_v D)))))))/\(decide (rmS w g_1.2.2.1 ((↑g_1.1:Int).toNat,true) ≥ L)=false->∃ (g':z32),(z8f g' g0 w w_x w_o D L)/\(zdi g' g_1 L w w_t w_v D))))/\(decide ((↑g_1.2.1:Int)<2)=false->∃ (g':zi9),(g'.fst <= w.arcs.length/\(SatJ w w_x w_o D L g'.fst (0:Nat) g'.2.fst g'.2.snd))/\(w.arcs.length - g'.fst<w.arcs.length - g.fst/\((0=0/\(True/\(L=L/\((↑w.arcs.length:Int)=↑w.arcs.length/\(IntKind.i64.wrap ((↑g_1.1:Int)+(1:Int))=(↑g'.1:Int)/\True)))))/\((z8g)/\(w.sup=w.sup/\(w.arcs=w.arcs/\(g_1.2.2.1=g'.2.1/\(g_1.2.2.2=g'.2.2/\(zau w_t w_v D))))))))))/\(decide ((↑g.1:Int)<↑w.arcs.length)=false->∃ (g_1:List Int × List Int),SatP w w_x w_o D L g_1.1 g_1.2/\((True/\True)/\((z8g)/\(g.2.1=g_1.1/\(g.2.2=g_1.2/\((w_t=w_t/\(w_v=w_v/\((none:Option Nat)=none)))/\True))))))
theorem sat20_q (w:Inst) (w_x:List Int) (w_o:List Int) (w_t:Ql.Rows3) (w_v:List Value) (D:List (List Int)) (L:Int) (ty1 ty2 ty6:TypeId):sat20_E0 w w_x w_o w_t w_v D L ty1 ty2 ty6=zaz TT sat20_g (sat20_I w w_x w_o w_t w_v D L) (sat20_an w w_x w_o w_t w_v D L) Tryz.f110 [.ptr 0 0 0 0,.row 6,.int .i64 L] [(0,.box true 109 [.row 1,.row 2,.row 3,.row 4,.row 5]),(1,.row false ty1 (.ints .i64 w.sup)),(2,.row false ty2 (.arcs w.arcs)),(3,.row true 2 (.ints .i64 w_x)),(4,.row true 2 (.ints .i64 w_o)),(5,.deep true 149 147 (.recs (.int .i64) [.bool] w_t) w_v none),(6,.row false ty6 (.recs (.int .i64) [.bool] D))] (sat20_r w w_x w_o w_t w_v D L):=by kernel_rfl
theorem sat20_E (w:Inst) (w_x:List Int) (w_o:List Int) (w_t:Ql.Rows3) (w_v:List Value) (D:List (List Int)) (L:Int) (ty1 ty2 ty6:TypeId) (hp:SatOk w w_x w_o D L):FVcR TT sat20_g (sat20_I w w_x w_o w_t w_v D L) (sat20_an w w_x w_o w_t w_v D L) Tryz.f110 [.ptr 0 0 0 0,.row 6,.int .i64 L] [(0,.box true 109 [.row 1,.row 2,.row 3,.row 4,.row 5]),(1,.row false ty1 (.ints .i64 w.sup)),(2,.row false ty2 (.arcs w.arcs)),(3,.row true 2 (.ints .i64 w_x)),(4,.row true 2 (.ints .i64 w_o)),(5,.deep true 149 147 (.recs (.int .i64) [.bool] w_t) w_v none),(6,.row false ty6 (.recs (.int .i64) [.bool] D))] (sat20_r w w_x w_o w_t w_v D L):=by
 refine FVcR.of (sat20_E0 w w_x w_o w_t w_v D L ty1 ty2 ty6) (sat20_q w w_x w_o w_t w_v D L ty1 ty2 ty6) ?_
 unfold sat20_E0
 delta zau sat20_a3 z8g z8f zdi z32 zi9
 obtain ⟨hr,hL,hL2,g,B,P,hG⟩:=hp
 have hs64:=z0h hr
 have hw:∀ j:Nat,j <= 1000000->IntKind.i64.wrap ((j:Int)+1)=((j+1:Nat):Int):=fun j hj=>by rw [w64 (by omega) (by omega)]; omega
 have hDl:D.length=w.sup.length:=by rw [hG.d,z6y]
 simp only [eq_self,exists_const,forall_const,ne_eq,Int.toNat_natCast,zSS,z08]
 refine ⟨(0,w_x,w_o),⟨⟨Nat.zero_le _,SatJ.begin⟩,rfl,rfl,rfl⟩,fun g1 hg1=>?_⟩
 obtain ⟨a,x,o⟩:=g1
 dsimp only at hg1 ⊢
 obtain ⟨ham,hJ0⟩:=hg1
 refine ⟨fun h1=>?_,fun h1=>?_⟩
 ·have ha:a<w.arcs.length:=by omega
  refine ⟨(a,0,x,o),⟨⟨Nat.zero_le _,hJ0⟩,⟨rfl,⟨rfl,rfl⟩,rfl⟩,rfl,rfl⟩,fun g1 hg1=>?_⟩
  clear hJ0
  obtain ⟨a1,j,x,o⟩:=g1
  dsimp only at hg1 ⊢
  obtain ⟨rfl,hj,hJ⟩:=hg1
  obtain ⟨hx1,ho1,hx2,ho2⟩:=(hJ g B P hG).bounds hr hL (by omega) hG.b1 hG.p
  refine ⟨fun h4=>⟨⟨by omega,?_⟩,fun h5=>?_,fun h5=>?_⟩,fun h4=>?_⟩
  ·show (j:Int)<((2:Nat):Int); omega
  ·have stp:z1l w (a1:Int):=⟨hr,by omega,by omega⟩
   have h6:j=0:=h5
   subst h6
   generalize a1=a at *
   have f1:=z33 hr (s:=(a,false)) ha
   have t1:=z5s hr (s:=(a,false)) ha
   have cb:=zgx hr (s:=(a,false)) ha
   have rb:=rmS_bd (x:=x) hx2.xb stp false
   rw [Int.toNat_natCast] at rb
   refine ⟨stp,⟨stp,hx1,hx2.xb⟩,fun h1=>⟨by omega,by omega,fun u hu=>⟨by omega,by omega,fun v hv=>⟨stp,?_⟩⟩⟩,fun h1=>⟨(a,0+1,x,o),⟨rfl,by dsimp only; omega,hJ.skip (k:=false) (by omega) (fun h=>absurd h (by omega))⟩,by dsimp only; omega,⟨rfl,⟨rfl,rfl⟩,hw 0 (by omega)⟩,rfl,rfl⟩⟩
   have e1:=(z4a hG.d hu).1
   have e2:=(z4a hG.d hv).1
   have b1:=hG.gb _ f1
   rw [e1,e2,w64 (x:=g (frS w (a,false))+csS w (a,false)) (by omega) (by omega)]
   refine ⟨fun h2=>⟨⟨stp,hx1,ho1,hx2.xb,ho2.xb,by omega,by omega⟩,(a,0+1,_,_),⟨rfl,by dsimp only; omega,hJ.fill hr (k:=false) (by omega) ha h1 (fun g' hg'=>?_)⟩,by dsimp only; omega,⟨rfl,⟨rfl,rfl⟩,hw 0 (by omega)⟩,rfl,rfl⟩,fun h2=>⟨(a,0+1,x,o),⟨rfl,by dsimp only; omega,hJ.skip (k:=false) (by omega) (fun _ g' hg'=>?_)⟩,by dsimp only; omega,⟨rfl,⟨rfl,rfl⟩,hw 0 (by omega)⟩,rfl,rfl⟩⟩
   ·have q1:=(z4a hg' hu).1
    have q2:=(z4a hg' hv).1
    unfold rcOk; omega
   ·have q1:=(z4a hg' hu).1
    have q2:=(z4a hg' hv).1
    unfold rcOk; omega
  ·have stp:z1l w (a1:Int):=⟨hr,by omega,by omega⟩
   have h6:j=1:=h5
   subst h6
   generalize a1=a at *
   have f1:=z33 hr (s:=(a,true)) ha
   have t1:=z5s hr (s:=(a,true)) ha
   have cb:=zgx hr (s:=(a,true)) ha
   have rb:=rmS_bd (x:=x) hx2.xb stp true
   rw [Int.toNat_natCast] at rb
   refine ⟨stp,⟨stp,hx1,hx2.xb⟩,fun h1=>⟨by omega,by omega,fun u hu=>⟨by omega,by omega,fun v hv=>⟨stp,?_⟩⟩⟩,fun h1=>⟨(a,1+1,x,o),⟨rfl,by dsimp only; omega,hJ.skip (k:=true) (by omega) (fun h=>absurd h (by omega))⟩,by dsimp only; omega,⟨rfl,⟨rfl,rfl⟩,hw 1 (by omega)⟩,rfl,rfl⟩⟩
   have e1:=(z4a hG.d hu).1
   have e2:=(z4a hG.d hv).1
   have b1:=hG.gb _ f1
   rw [e1,e2,w64 (x:=g (frS w (a,true))+csS w (a,true)) (by omega) (by omega)]
   refine ⟨fun h2=>⟨⟨stp,hx1,ho1,hx2.xb,ho2.xb,by omega,by omega⟩,(a,1+1,_,_),⟨rfl,by dsimp only; omega,hJ.fill hr (k:=true) (by omega) ha h1 (fun g' hg'=>?_)⟩,by dsimp only; omega,⟨rfl,⟨rfl,rfl⟩,hw 1 (by omega)⟩,rfl,rfl⟩,fun h2=>⟨(a,1+1,x,o),⟨rfl,by dsimp only; omega,hJ.skip (k:=true) (by omega) (fun _ g' hg'=>?_)⟩,by dsimp only; omega,⟨rfl,⟨rfl,rfl⟩,hw 1 (by omega)⟩,rfl,rfl⟩⟩
   ·have q1:=(z4a hg' hu).1
    have q2:=(z4a hg' hv).1
    unfold rcOk; omega
   ·have q1:=(z4a hg' hu).1
    have q2:=(z4a hg' hv).1
    unfold rcOk; omega
  ·have ej:j=2:=by omega
   subst ej
   exact ⟨(a1+1,x,o),⟨by dsimp only; omega,hJ.next (by omega)⟩,by dsimp only; omega,hw a1 (by omega),rfl,rfl⟩
 ·have ea:a=w.arcs.length:=by omega
  subst ea
  exact ⟨(x,o),hJ0.done (by omega),rfl,rfl⟩
theorem sat20_ok:SpecOk Tryz.prog sat20_n false (z10 false sat20_fs) :=
 z3s z0i (show z15 Tryz.prog sat20_g from z00 z85 (z00 z97 (z00 z9s (z00 zlt (z03))))) (by kernel_rfl) mixedOrders Tryz.func110 rfl rfl (by kernel_rfl) (n:=3) (by decide +kernel) (I:=sat20_IA) (fun _ _=>z07) (A:=sat20_A)
  (fun args h r hr=>by
   unfold sat20_fs at hr
   split at hr
   ·rename_i L ty1 w_s ty2 w_a w_x w_o w_t w_v ty6 D; cases hr; refine ⟨rfl,fun hp=>?_⟩; have hE:=sat20_E ⟨w_s,w_a⟩ w_x w_o w_t w_v D L ty1 ty2 ty6 hp; exact hE
   ·cases hr)
end Go.Proofs.YtggblkbecekbdaaGreat
end
section
namespace Go.Ql
open Go Go.Vc
def Stk (I:Inst) (x o:List Int) (L:Int):Prop:=∃ d:Nat->Bool,(∀ v,v<I.sup.length->L <= o.getD v 0->d v=true)/\(∀ s,okS I s->L <= rmS I x s->d (frS I s)=true->d (toS I s)=true)/\∀ v,v<I.sup.length->o.getD v 0 <= -L->d v=false
structure PhI (I:Inst) (x o:List Int) (g:Nat->Int) (k:Nat):Prop where
 ex:∃ B,NInv I x o B/\4398046511104 <= B/\B+z4n o I.sup.length+2048 * (2:Int) ^ k <= 144115188075855872
 gb:∀ v,v<I.sup.length->-144115188075855872 <= g v/\g v <= 144115188075855872
 pot:∀ s,okS I s->(2:Int) ^ k <= rmS I x s->rcOk I g s
 st:k=0->Stk I x o 1
structure LpI (I:Inst) (x o:List Int) (L:Int):Prop where
 ex:∃ B,NInv I x o B/\4398046511104 <= B/\B+z4n o I.sup.length+2048 * L <= 144115188075855872
 pot:∃ π,z8z I (z9t I x L) π
def zig (I:Inst) (x o:List Int):Prop:=z04 I=0/\OverOf I x o/\(∀ a,a<I.arcs.length->x.getD a 0=(z37 I a).low)/\GreatOk I o/\(∃ π,z8z I (endS I) π)/\∃ y,A64 y/\z0v I y=0
structure CheapP (I:Inst) (x o:List Int):Prop where
 fits:z0v I x=0
 yb:YB x
 lo:o.length=I.sup.length
 pot:∃ g,z8z I (fun s=>endS I s || decide (0<rmS I x s)) g
theorem ph_begin {I:Inst} {x o:List Int} (h:zig I x o) {d:Nat->Option Int} {b:Nat->Option Stp} {e:Option Nat} (hS:ShortP I (endS I) (fun _=>true) d b e) {j:Nat} (hj:GreatP I j):∃ g:Nat->Int,z0l I.sup.length d=z0l I.sup.length (fun v=>some (g v))/\PhI I x o g (j+1):=by
 obtain ⟨hr,hO,hx,hG,⟨π,hπ⟩,hy⟩:=h
 obtain ⟨g,h1,h2⟩:=znh hr hS hπ
 have hpj:=z8d j
 have hps:∀ k,k <= I.sup.length->z4n o k <= 536870912 * (k:Int):=by
  intro k
  induction k with
  | zero=>intro _; simp [z4n]
  | succ k ih =>
   intro hk
   have:=ih (by omega)
   have hm:o[k]? = some (o.getD k 0):=by rw [List.getD_eq_getElem?_getD,List.getElem?_eq_getElem (show k<o.length by rw [hO.lo]; omega)]; rfl
   have:=hG.2.2.1 _ (List.mem_of_getElem? hm)
   rw [z4n]
   omega
 have hs64:=z0h hr
 have hpn:=hps _ (Nat.le_refl _)
 refine ⟨g,?_,⟨4398046511104,⟨hO,fun a ha=>?_,fun a ha=>?_⟩,Int.le_refl _,?_⟩,fun v hv=>?_,fun s hs hrm=>?_,fun h=>by omega⟩
 ·unfold z0l
  exact List.map_congr_left fun v hv=>by rw [h1 v (List.mem_range.1 hv)]
 ·have ok:=z1n hr ha
  rw [hx a ha]
  exact ⟨Int.le_refl _,ok.c.imp id (·.1)⟩
 ·have ok:=z1n hr ha
  have:=ok.l0; have:=ok.l1
  rw [hx a ha]; omega
 ·have:=hj.le
  rw [Int.pow_succ]; omega
 ·exact hS.db hr (h1 v hv)
 ·obtain ⟨a,k⟩:=s
  have ha:a<I.arcs.length:=hs
  refine h2 (a,k) hs ?_
  rw [Int.pow_succ] at hrm
  unfold rmS at hrm
  dsimp only at hrm
  rw [hx a ha] at hrm
  cases k with
  | true=>simp only [if_true] at hrm; omega
  | false =>
   simp only [Bool.false_eq_true,if_false] at hrm
   by_cases hc:(z37 I a).cap=inf
   ·unfold endS; simp [hc]
   ·rw [if_neg hc] at hrm
    have:=(hj.caps a ha).resolve_left hc
    have:=(z1n hr ha).l0
    omega
theorem ph_sat {I:Inst} (hr:z04 I=0) {x o:List Int} {g:Nat->Int} {k:Nat} (h:PhI I x o g (k+1)):∃ B,SatG I x o (z0l I.sup.length fun v=>some (g v)) ((2:Int) ^ k) g B (z4n o I.sup.length)/\B+z4n o I.sup.length+4096 * (2:Int) ^ k <= 144115188075855872:=by
 obtain ⟨B,hN,hB,hb⟩:=h.ex
 have hp:=z8d k
 have hps:=z1v o I.sup.length
 have e2:(2:Int) ^ (k+1)=2 * (2:Int) ^ k:=by rw [Int.pow_succ]; omega
 rw [e2] at hb
 refine ⟨B,⟨rfl,h.gb,hB,by omega,by omega,⟨hN,fun s hs hrm=>h.pot s hs (by rw [e2]; exact hrm),fun s _ hd=>(by rw [doneJ_zero] at hd; cases hd),by omega⟩,fun s hs he=>h.pot s hs ?_⟩,by omega⟩
 unfold endS at he
 rw [Bool.and_eq_true,Bool.not_eq_true',decide_eq_true_eq] at he
 unfold rmS
 rw [he.1,if_neg Bool.false_ne_true,if_pos he.2,e2]
 omega
theorem ph_lump {I:Inst} (hr:z04 I=0) {x o x1 o1:List Int} {g:Nat->Int} {k:Nat} (h:PhI I x o g (k+1)) (hS:SatP I x o (z0l I.sup.length fun v=>some (g v)) ((2:Int) ^ k) x1 o1):LpI I x1 o1 ((2:Int) ^ k):=by
 obtain ⟨B,hG,hb⟩:=ph_sat hr h
 have h1:=hS.all _ _ _ hG
 have hs64:=z0h hr
 have hp:=z8d k
 have h2:2 * (2:Int) ^ k * ((2 * I.arcs.length:Nat):Int) <= 2 * (2:Int) ^ k * 512:=Int.mul_le_mul_of_nonneg_left (by omega) (by omega)
 have h3:=h1.p
 exact ⟨⟨B,h1.n,hG.b0,by omega⟩,g,fun s hs hc=>h1.lo s hs rfl (by unfold z9t at hc; exact of_decide_eq_true hc)⟩
theorem lump_more {I:Inst} (hr:z04 I=0) {x o:List Int} {L:Int} (hL:1 <= L) (h:LpI I x o L) {d:Nat->Option Int} {b:Nat->Option Stp} {e:Option Nat} (hS:ShortP I (z9t I x L) (fun v=>decide (L <= o.getD v 0)) d b e) {v:Nat} (hv:v<I.sup.length) (h1:o.getD v 0 <= -L) {c:Int} (hc:d v=some c) :
  AlOk I x o (z0k I.sup.length b) v/\LpI I (z2s x (alL I (z0k I.sup.length b) v) (alU I x o (z0k I.sup.length b) v)) (z21 I o (alL I (z0k I.sup.length b) v) (alU I x o (z0k I.sup.length b) v)) L /\
  (z4n (z21 I o (alL I (z0k I.sup.length b) v) (alU I x o (z0k I.sup.length b) v)) I.sup.length).toNat<(z4n o I.sup.length).toNat:=by
 obtain ⟨⟨B,hN,hB,hb⟩,π,hπ⟩:=h
 have hps:=z1v o I.sup.length
 obtain ⟨he,hcv,ρ,hT,hρ⟩:=zaw hr hS hπ
 obtain ⟨⟨c',hroot⟩,hw⟩:=zgp hr hS (fun v s hv hs=>(hT v s hv hs).1) I.sup.length v hv c hc
 obtain ⟨-,-,hbn,hrl⟩:=zeg hr hT I.sup.length v hv (hρ v hv)
 have hst:=hS.no hrl hbn hroot
 rw [decide_eq_true_eq] at hst
 obtain ⟨A,hU,a1,a2⟩:=al_ok hr hN (by omega) (by omega) hT hρ hv (show 0 <= L by omega) hst (by omega) (fun s hs=>by have:=hw s hs; unfold z9t at this; exact of_decide_eq_true this)
 obtain ⟨n1,n2,n3⟩:=al_does hN (by omega) A (by omega)
 have n4:=z1v (z21 I o (alL I (z0k I.sup.length b) v) (alU I x o (z0k I.sup.length b) v)) I.sup.length
 refine ⟨A,⟨⟨_,n1,by omega,by omega⟩,al_pot (o:=o) hr hS hπ hv hc fun s hs hlt=>by rw [<- a1]; exact n3 s hs hlt⟩,by omega⟩
theorem lump_end {I:Inst} (hr:z04 I=0) {x o:List Int} {L:Int} (h:LpI I x o L) {d:Nat->Option Int} {b:Nat->Option Stp} {e:Option Nat} (hS:ShortP I (z9t I x L) (fun v=>decide (L <= o.getD v 0)) d b e) (h1:∀ v,v<I.sup.length->o.getD v 0 <= -L->d v=none):Stk I x o L:=by
 obtain ⟨⟨B,hN,hB,hb⟩,π,hπ⟩:=h
 obtain ⟨he,hcv,-⟩:=zaw hr hS hπ
 refine ⟨fun v=>(d v).isSome,fun v hv h2=>?_,fun s hs h2 h3=>?_,fun v hv h2=>?_⟩
 ·obtain ⟨c,hc⟩:=hS.st hv (decide_eq_true h2)
  dsimp only; rw [hc]; rfl
 ·obtain ⟨u,hu⟩:=Option.isSome_iff_exists.1 h3
  obtain ⟨c,hc,-⟩:=hcv s hs (decide_eq_true h2) u hu
  dsimp only; rw [hc]; rfl
 ·dsimp only; rw [h1 v hv h2]; rfl
theorem ph_next {I:Inst} (hr:z04 I=0) {x o:List Int} {k:Nat} (h:LpI I x o ((2:Int) ^ k)) (hs:Stk I x o ((2:Int) ^ k)) {d:Nat->Option Int} {b:Nat->Option Stp} {e:Option Nat} (hS:ShortP I (z9t I x ((2:Int) ^ k)) (fun _=>true) d b e):∃ g:Nat->Int,z0l I.sup.length d=z0l I.sup.length (fun v=>some (g v))/\PhI I x o g k:=by
 obtain ⟨hex,π,hπ⟩:=h
 obtain ⟨g,h1,h2⟩:=znh hr hS hπ
 refine ⟨g,?_,hex,fun v hv=>hS.db hr (h1 v hv),fun s hs hrm=>h2 s hs (decide_eq_true hrm),fun hk=>by subst hk; simpa using hs⟩
 unfold z0l
 exact List.map_congr_left fun v hv=>by rw [h1 v (List.mem_range.1 hv)]
theorem ph_end {I:Inst} {x0 o0 x o:List Int} (h0:zig I x0 o0) {g:Nat->Int} (h:PhI I x o g 0):CheapP I x o:=by
 obtain ⟨hr,-,-,-,-,y,hy,hf⟩:=h0
 obtain ⟨B,hN,hB,hb⟩:=h.ex
 obtain ⟨d,d1,d2,d3⟩:=h.st rfl
 have hps:=z1v o I.sup.length
 have hz:=stuck_zero hr hN.over hN.betw d1 d2 d3 hy hf
 refine ⟨fits_over hr hN.over hN.betw hz,yb_of fun k hk=>?_,hN.over.lo,g,fun s hs hc=>h.pot s hs ?_⟩
 ·have:=hN.bd k (by rw [<- hN.over.lx]; exact hk); omega
 ·have e1:(2:Int) ^ 0=1:=by simp
  rw [e1]
  rw [Bool.or_eq_true,decide_eq_true_eq] at hc
  rcases hc with hc | hc
  ·unfold endS at hc
   rw [Bool.and_eq_true,Bool.not_eq_true',decide_eq_true_eq] at hc
   unfold rmS
   rw [hc.1,if_neg Bool.false_ne_true,if_pos hc.2]; omega
  ·omega
def z2p (k:Nat):Int:=if k=0 then 0 else (2:Int) ^ (k - 1)
theorem z2q (j:Nat):z2p (j+1)=(2:Int) ^ j:=by simp [z2p]
theorem lumpV_half (k:Nat):((2:Int) ^ k).tdiv 2=z2p k:=by
 cases k with
 | zero=>rfl
 | succ j =>
  rw [z2q,Int.pow_succ]
  exact Int.mul_tdiv_cancel _ (by omega)
end Go.Ql
end
section
namespace Go.Vc
open Go Go.RowKit Go.Ql Go.Draw
variable {P:Program}
def orFR (f1 f2:FR):FR:=fun args h=>match f1 args h with
 | some R=>some R
 | none=>f2 args h
theorem or_ok {f:FuncId} {ro:Bool} {f1 f2:FR} (h1:SpecOk P f ro (z10 ro f1)) (h2:SpecOk P f ro (z10 ro f2)):SpecOk P f ro (z10 ro (orFR f1 f2)):=by
 have key:∀ args hp nk K,z10 ro (orFR f1 f2) args hp nk K->z10 ro f1 args hp nk K ∨ z10 ro f2 args hp nk K:=by
  intro args hp nk K h
  unfold z10 orFR at h
  unfold z10
  split at h
  ·exact h.elim
  ·rename_i args' m σ hc hcan
   cases e1:f1 args' hc with
   | some R=>rw [e1] at h; exact .inl h
   | none=>rw [e1] at h; exact .inr h
 cases h1 with
 | fn a1 a2 =>
  cases h2 with
  | fn b1 b2=>exact .fn a1 fun ρ hp nk w args K hh h=>(key _ _ _ _ h).elim (a2 ρ hp nk w args K hh) (b2 ρ hp nk w args K hh)
  | ext b1 =>
   refine .fn a1 fun ρ hp nk w args K hh h=>(key _ _ _ _ h).elim (a2 ρ hp nk w args K hh) fun h'=>?_
   obtain ⟨v,hv,_⟩:=b1 ρ hp nk w args K hh h'
   rw [a1] at hv; cases hv
 | ext a1 =>
  cases h2 with
  | fn b1 b2 =>
   refine .fn b1 fun ρ hp nk w args K hh h=>(key _ _ _ _ h).elim (fun h'=>?_) (b2 ρ hp nk w args K hh)
   obtain ⟨v,hv,_⟩:=a1 ρ hp nk w args K hh h'
   rw [b1] at hv; cases hv
  | ext b1=>exact .ext fun ρ hp nk w args K hh h=>(key _ _ _ _ h).elim (a1 ρ hp nk w args K hh) (b1 ρ hp nk w args K hh)
end Go.Vc
end
section
namespace Go.Proofs.YtggblkbecekbdaaGreat
open Go Go.RowKit Go.Ql Go.Vc
abbrev lump20_n:Nat:=113
def lump20_g:z0c:=[(shortO_n,(true,z10 true zn1)),(zja,(false,z02 false zab))]
def zl8:Vc.Spec:=z4f TT lump20_g (fun args hp nk=>match args with | [.ptr a0 0 0 0,.int .i64 L,_]=>(match lk a0 hp with | some (.box _ _ [.row a1,_,_,.row a4,_])=>(match lk a1 hp,lk a4 hp with | some (.row _ _ (.ints .i64 s)),some (.row _ _ (.ints .i64 o))=>[(3,{ G:=Nat × (Nat->Option Int) × (Nat->Option Stp),inv:=fun ⟨k,d,b⟩=>⟨[(3,.ptr nk 0 0 0),(4,.ptr (nk+1) 0 0 0),(7,.row (nk+2)),(8,.row (nk+3)),(23,.row a4),(24,.int .i64 (o.length:Int)),(25,.int .i64 k)],[(nk,.box true 102 [.ptr a0 0 0 0]),(nk+1,.box true 2 [.int .i64 L]),(nk+2,.row true 172 (.recs (.int .i64) [.bool] (z0l s.length d))),(nk+3,.row false 165 (.recs (.int .i64) [.bool,.bool] (z0k s.length b)))] ++ hp,nk+5⟩,rel:=fun ⟨k0,d0,b0⟩ ⟨k,d,b⟩=>d=d0/\b=b0/\k <= o.length/\∀ v,v<k->o.getD v 0 <= -L->d v=none,meas:=fun ⟨k,_,_⟩=>o.length - k })] | _,_=>[]) | _=>[]) | _=>[]) Tryz.f113
abbrev shortER_n:Nat:=104
def shortER_fs:FR:=orFR zdo (znf)
def zka (w:Inst) (w_x:List Int) (w_o:List Int) (w_t:Ql.Rows3) (w_v:List Value):FRel:={ pre:=zig w w_x w_o,G:=(List Int) × (List Int),post:=fun ⟨x,o⟩=>CheapP w x o,out:=fun ⟨x,o⟩=>{ pre:=True,res:=.tup [],rows:=[],eff:=[(0,.box true 109 [.row 1,.row 2,.row 3,.row 4,.row 5]),(3,.row true 2 (.ints .i64 (x))),(4,.row true 2 (.ints .i64 (o))),(5,.deep true 149 147 (.recs (.int .i64) [.bool] w_t) w_v none)] } }
def zfc:FR:=fun args h=>match args,h with
 | [.ptr 0 0 0 0],[(0,.box true 109 [.row 1,.row 2,.row 3,.row 4,.row 5]),(1,.row false ty1 (.ints .i64 w_s)),(2,.row false ty2 (.arcs w_a)),(3,.row true 2 (.ints .i64 w_x)),(4,.row true 2 (.ints .i64 w_o)),(5,.deep true 149 147 (.recs (.int .i64) [.bool] w_t) w_v none)]=>some (zka ⟨w_s,w_a⟩ w_x w_o w_t w_v)
 | _,_=>none
def zfb (w:Inst) (w_x:List Int) (w_o:List Int) (w_t:Ql.Rows3) (w_v:List Value):List (Nat × Ann):=[(3,{ G:=(Nat) × (List Int) × (List Int) × (Nat->Int),inv:=fun ⟨k,x,o,g⟩=>⟨[(1,.ptr 6 0 0 0),(2,.row 7),(5,.ptr 10 0 0 0)],[(10,.box true 2 [.int .i64 (z2p k)]),(7,.row false 172 (.recs (.int .i64) [.bool] (z0l w.sup.length fun v=>some (g v)))),(6,.box true 102 [.ptr 0 0 0 0]),(0,.box true 109 [.row 1,.row 2,.row 3,.row 4,.row 5]),(1,.row false 0 (.ints .i64 w.sup)),(2,.row false 0 (.arcs w.arcs)),(3,.row true 2 (.ints .i64 x)),(4,.row true 2 (.ints .i64 o)),(5,.deep true 149 147 (.recs (.int .i64) [.bool] w_t) w_v none)],11⟩,rel:=fun ⟨k0,x0,o0,g0⟩ ⟨k,x,o,g⟩=>PhI w x o g k,meas:=fun ⟨k,x,o,g⟩=>k }),
 (7,{ G:=(Nat) × (List Int) × (List Int),inv:=fun ⟨k,x,o⟩=>⟨[(1,.ptr 6 0 0 0),(5,.ptr 10 0 0 0),(6,.fn 111 [.ptr 6 0 0 0,.ptr 10 0 0 0])],[(10,.box true 2 [.int .i64 (z2p k)]),(6,.box true 102 [.ptr 0 0 0 0]),(0,.box true 109 [.row 1,.row 2,.row 3,.row 4,.row 5]),(1,.row false 0 (.ints .i64 w.sup)),(2,.row false 0 (.arcs w.arcs)),(3,.row true 2 (.ints .i64 x)),(4,.row true 2 (.ints .i64 o)),(5,.deep true 149 147 (.recs (.int .i64) [.bool] w_t) w_v none)],11⟩,rel:=fun ⟨k0,x0,o0⟩ ⟨k,x,o⟩=>k=k0/\LpI w x o (z2p k),meas:=fun ⟨k,x,o⟩=>(z4n o w.sup.length).toNat })]
def cheap20_A:List SV->z0d->List (Nat × Ann):=fun args h=>match args,h with
 | [.ptr 0 0 0 0],[(0,.box true 109 [.row 1,.row 2,.row 3,.row 4,.row 5]),(1,.row false ty1 (.ints .i64 w_s)),(2,.row false ty2 (.arcs w_a)),(3,.row true 2 (.ints .i64 w_x)),(4,.row true 2 (.ints .i64 w_o)),(5,.deep true 149 147 (.recs (.int .i64) [.bool] w_t) w_v none)]=>zfb ⟨w_s,w_a⟩ w_x w_o w_t w_v
 | _,_=>[]
def zk9:z0c:=[(shortER_n,(true,z10 true shortER_fs)),(great20_n,(true,z10 true zfi)),(sat20_n,(false,z10 false sat20_fs)),(lump20_n,(false,zl8))]
abbrev cheap20_n:Nat:=62
def cheap20_I (w:Inst) (w_x:List Int) (w_o:List Int) (w_t:Ql.Rows3) (w_v:List Value):List (Nat × z0a):=[]
def cheap20_IA:List SV->z0d->List (Nat × z0a):=fun _ _=>[]
theorem lump20_ok:SpecOk Tryz.prog lump20_n false zl8 :=
 z7d z0i (show z15 Tryz.prog lump20_g from z00 shortO_ok (z00 along20_ok (z03))) (by kernel_rfl) mixedOrders Tryz.func113 rfl rfl (by kernel_rfl) _
theorem shortER_ok:SpecOk Tryz.prog shortER_n true (z10 true shortER_fs):=or_ok shortE_ok (shortR_ok)
abbrev zaf:=(Nat->Option Int) × (Nat->Option Stp) × Option Nat
abbrev z59:=Nat × (Nat->Option Int) × (Nat->Option Stp)
abbrev zag:=Nat × List Int × List Int × (Nat->Int)
abbrev z7c:=Nat × List Int × List Int
abbrev zfa (g_3:z7c) (g':z59) (g_5:z59) (w:Inst) (w_t:Ql.Rows3) (w_v:List Value):=(g_3.2.2.length - g'.fst<g_3.2.2.length - g_5.fst/\((0=0/\(0=0/\(True/\(True/\(True/\((↑g_3.2.2.length:Int)=↑g_3.2.2.length/\(IntKind.i64.wrap ((↑g_5.1:Int)+(1:Int))=(↑g'.1:Int)/\True)))))))/\((0=0/\True)/\((z2p g_3.1=z2p g_3.1/\True)/\(z0l w.sup.length g_5.2.1=z0l w.sup.length g'.2.1/\(z0k w.sup.length g_5.2.2=z0k w.sup.length g'.2.2/\((z2p g_3.1=z2p g_3.1/\True)/\((0=0/\True)/\((True/\(True/\(True/\(True/\(True/\True)))))/\(w.sup=w.sup/\(w.arcs=w.arcs/\(g_3.2.1=g_3.2.1/\(g_3.2.2=g_3.2.2/\((w_t=w_t/\(w_v=w_v/\((none:Option Nat)=none)))/\True))))))))))))))
abbrev z57:=(True/\(True/\(True/\(True/\(True/\True)))))
abbrev z58 (w_t:Ql.Rows3) (w_v:List Value):=((w_t=w_t/\(w_v=w_v/\((none:Option Nat)=none)))/\True)
def zf9 (w : Inst) (w_x : List Int) (w_o : List Int) (w_t : Ql.Rows3) (w_v : List Value) (ty1 ty2 : TypeId) : Prop :=
   (z04 w=(0:Int)/\(w=w))/\∀ (g:zaf),ShortP w (Ql.endS w) (fun (x:Nat)=>true) g.1 g.2.1 g.2.2->(w_o.length <= (1000:Nat)/\(w.arcs.length <= (1000:Nat)/\((∀ (y:Int),List.Mem y w_o->(-536870912:Int) <= y/\(y <= (536870912:Int)))/\(∀ (a:Arc),List.Mem a w.arcs->a.cap=inf ∨ (-536870912:Int) <= a.cap/\(a.cap <= (536870912:Int))))))/\∀ (g_1:Nat),GreatP w g_1->∃ (g0:zag),(PhI w g0.2.fst g0.2.2.fst g0.2.2.snd g0.fst/\((0=0/\(True/\(0=0/\True)))/\(((2:Int) ^ g_1=z2p g0.1/\True)/\((z0l w.sup.length g.1=z0l w.sup.length fun (v:Nat)=>some (g0.2.2.2 v))/\((0=0/\True)/\((z57)/\(w.sup=w.sup/\(w.arcs=w.arcs/\(w_x=g0.2.1/\(w_o=g0.2.2.1/\(z58 w_t w_v)))))))))))/\∀ (g:zag),PhI w g.2.fst g.2.2.fst g.2.2.snd g.fst->(decide (z2p g.1 > (0:Int))=true->(z04 w=(0:Int)/\((1:Int) <= z2p g.1/\(z2p g.1 <= (1152921504606846976:Int)/\(∃ (g_2:Nat->Int),∃ (B:Int),∃ (P:Int),SatG w g.2.1 g.2.2.1 (z0l w.sup.length fun (v:Nat)=>some (g.2.2.2 v)) (z2p g.1) g_2 B P))))/\∀ (g_2:List Int × List Int),SatP w g.2.1 g.2.2.1 (z0l w.sup.length fun (v:Nat)=>some (g.2.2.2 v)) (z2p g.1) g_2.1 g_2.2->∃ (g0:z7c),((g0.fst=g0.fst/\(LpI w g0.2.fst g0.2.snd (z2p g0.fst)))/\((0=0/\(0=0/\((0=0/\(0=0/\True))/\True)))/\((z2p g.1=z2p g0.1/\True)/\((0=0/\True)/\((z57)/\(w.sup=w.sup/\(w.arcs=w.arcs/\(g_2.1=g0.2.1/\(g_2.2=g0.2.2/\(z58 w_t w_v))))))))))/\∀ (g_3:z7c),g_3.fst=g0.fst/\LpI w g_3.2.fst g_3.2.snd (z2p g_3.fst)->(z04 w=(0:Int)/\(w=w/\(g_3.2.1=g_3.2.1/\(g_3.2.1.length=w.arcs.length/\(XB g_3.2.1/\(w=w/\(g_3.2.2=g_3.2.2/\(g_3.2.2.length=w.sup.length))))))))/\∀ (g_4:zaf),ShortP w (fun (s:Stp)=>decide (z2p g_3.1 <= rmS w g_3.2.1 s)) (fun (v:Nat)=>decide (z2p g_3.1 <= g_3.2.2.getD v (0:Int))) g_4.1 g_4.2.1 g_4.2.2->∃ (g0_1:z59),((g0_1.2.fst=g0_1.2.fst/\(g0_1.2.snd=g0_1.2.snd/\(g0_1.fst <= g_3.2.2.length/\(∀ (v:Nat),v<g0_1.fst->g_3.2.2.getD v (0:Int) <= -z2p g_3.1->g0_1.2.fst v=none))))/\((0=0/\(0=0/\(True/\(True/\(True/\((↑g_3.2.2.length:Int)=↑g_3.2.2.length/\((0:Int)=↑g0_1.1/\True)))))))/\((0=0/\True)/\((z2p g_3.1=z2p g_3.1/\True)/\(z0l w.sup.length g_4.1=z0l w.sup.length g0_1.2.1/\(z0k w.sup.length g_4.2.1=z0k w.sup.length g0_1.2.2/\((z2p g_3.1=z2p g_3.1/\True)/\((0=0/\True)/\((z57)/\(w.sup=w.sup/\(w.arcs=w.arcs/\(g_3.2.1=g_3.2.1/\(g_3.2.2=g_3.2.2/\(z58 w_t w_v))))))))))))))/\∀ (g_5:z59),(g_5.2.fst=g0_1.2.fst/\(g_5.2.snd=g0_1.2.snd/\(g_5.fst <= g_3.2.2.length/\(∀ (v:Nat),v<g_5.fst->g_3.2.2.getD v (0:Int) <= -z2p g_3.1->g_5.2.fst v=none))))->(decide ((↑g_5.1:Int)<↑g_3.2.2.length)=true->((0:Int) <= ↑g_5.1/\((↑g_5.1:Int)<↑g_3.2.2.length))/\(↑g_5.1:Int).toNat<g_3.2.2.length/\∀ (x:Int),g_3.2.2[(↑g_5.1:Int).toNat]? = some x->(decide (x <= IntKind.i64.wrap ((0:Int) - z2p g_3.1))=true->((0:Int) <= ↑g_5.1/\((↑g_5.1:Int)<↑(z0l w.sup.length g_5.2.1).length))/\((↑g_5.1:Int).toNat<(z0l w.sup.length g_5.2.1).length/\(∀ (x:List Int),(z0l w.sup.length g_5.2.1)[(↑g_5.1:Int).toNat]? = some x->((x.tail.headD (0:Int) == (1:Int))=true->AlOk w g_3.2.1 g_3.2.2 (z0k w.sup.length g_5.2.2) (↑g_5.1:Int)/\(∃ (g':z7c),(g'.fst=g0.fst/\(LpI w g'.2.fst g'.2.snd (z2p g'.fst)))/\((z4n g'.2.snd w.sup.length).toNat<(z4n g_3.2.snd w.sup.length).toNat/\((0=0/\(0=0/\((0=0/\(0=0/\True))/\True)))/\((z2p g_3.1=z2p g'.1/\True)/\((0=0/\True)/\((z57)/\(w.sup=w.sup/\(w.arcs=w.arcs/\(z2s g_3.2.1 (alL w (z0k w.sup.length g_5.2.2) (↑g_5.1:Int)) (alU w g_3.2.1 g_3.2.2 (z0k w.sup.length g_5.2.2) (↑g_5.1:Int))=g'.2.1/\(z21 w g_3.2.2 (alL w (z0k w.sup.length g_5.2.2) (↑g_5.1:Int)) (alU w g_3.2.1 g_3.2.2 (z0k w.sup.length g_5.2.2) (↑g_5.1:Int))=g'.2.2/\(z58 w_t w_v))))))))))))/\((x.tail.headD (0:Int) == (1:Int))=false->∃ (g':z59),(g'.2.fst=g0_1.2.fst/\(g'.2.snd=g0_1.2.snd/\(g'.fst <= g_3.2.2.length/\(∀ (v:Nat),v<g'.fst->g_3.2.2.getD v (0:Int) <= -z2p g_3.1->g'.2.fst v=none))))/\(zfa g_3 g' g_5 w w_t w_v)))))/\(decide (x <= IntKind.i64.wrap ((0:Int) - z2p g_3.1))=false->∃ (g':z59),(g'.2.fst=g0_1.2.fst/\(g'.2.snd=g0_1.2.snd/\(g'.fst <= g_3.2.2.length/\(∀ (v:Nat),v<g'.fst->g_3.2.2.getD v (0:Int) <= -z2p g_3.1->g'.2.fst v=none))))/\(zfa g_3 g' g_5 w w_t w_v)))/\(decide ((↑g_5.1:Int)<↑g_3.2.2.length)=false->(z04 w=(0:Int)/\(w=w/\(g_3.2.1=g_3.2.1/\(g_3.2.1.length=w.arcs.length/\(XB g_3.2.1)))))/\(∀ (g_6:zaf),ShortP w (fun (s:Stp)=>decide (z2p g_3.1 <= rmS w g_3.2.1 s)) (fun (x:Nat)=>true) g_6.1 g_6.2.1 g_6.2.2->(2:Int) ≠ (0:Int)/\(∃ (g':zag),PhI w g'.2.fst g'.2.2.fst g'.2.2.snd g'.fst/\(g'.fst<g.fst/\((0=0/\(True/\(0=0/\True)))/\((IntKind.i64.wrap ((z2p g_3.1).tdiv (2:Int))=z2p g'.1/\True)/\((z0l w.sup.length g_6.1=z0l w.sup.length fun (v:Nat)=>some (g'.2.2.2 v))/\((0=0/\True)/\((z57)/\(w.sup=w.sup/\(w.arcs=w.arcs/\(g_3.2.1=g'.2.1/\(g_3.2.2=g'.2.2.1/\(z58 w_t w_v)))))))))))))))/\(decide (z2p g.1 > (0:Int))=false->∃ (g_2:List Int × List Int),CheapP w g_2.1 g_2.2/\((True/\True)/\((z57)/\(g.2.1=g_2.1/\(g.2.2.1=g_2.2/\(z58 w_t w_v))))))
theorem cheap20_q (w:Inst) (w_x:List Int) (w_o:List Int) (w_t:Ql.Rows3) (w_v:List Value) (ty1 ty2:TypeId):zf9 w w_x w_o w_t w_v ty1 ty2=zaz TT zk9 (cheap20_I w w_x w_o w_t w_v) (zfb w w_x w_o w_t w_v) Tryz.f62 [.ptr 0 0 0 0] [(0,.box true 109 [.row 1,.row 2,.row 3,.row 4,.row 5]),(1,.row false ty1 (.ints .i64 w.sup)),(2,.row false ty2 (.arcs w.arcs)),(3,.row true 2 (.ints .i64 w_x)),(4,.row true 2 (.ints .i64 w_o)),(5,.deep true 149 147 (.recs (.int .i64) [.bool] w_t) w_v none)] (zka w w_x w_o w_t w_v):=by kernel_rfl
theorem cheap20_E (w:Inst) (w_x:List Int) (w_o:List Int) (w_t:Ql.Rows3) (w_v:List Value) (ty1 ty2:TypeId) (hp:zig w w_x w_o):FVcR TT zk9 (cheap20_I w w_x w_o w_t w_v) (zfb w w_x w_o w_t w_v) Tryz.f62 [.ptr 0 0 0 0] [(0,.box true 109 [.row 1,.row 2,.row 3,.row 4,.row 5]),(1,.row false ty1 (.ints .i64 w.sup)),(2,.row false ty2 (.arcs w.arcs)),(3,.row true 2 (.ints .i64 w_x)),(4,.row true 2 (.ints .i64 w_o)),(5,.deep true 149 147 (.recs (.int .i64) [.bool] w_t) w_v none)] (zka w w_x w_o w_t w_v):=by
 refine FVcR.of (zf9 w w_x w_o w_t w_v ty1 ty2) (cheap20_q w w_x w_o w_t w_v ty1 ty2) ?_
 unfold zf9
 delta z58 z57 zfa zaf z59 zag z7c
 simp only [eq_self,exists_const,forall_const,ne_eq,Int.toNat_natCast,zSS,z08]
 have hr:=hp.1
 obtain ⟨-,hO,hx,hG,hπ,hy⟩:=id hp
 refine ⟨hr,?_⟩
 rintro ⟨d,b,e⟩ hS
 refine ⟨hG,fun j hj=>?_⟩
 dsimp only at hS ⊢
 obtain ⟨g,hg,hP⟩:=ph_begin hp hS hj
 refine ⟨(j+1,w_x,w_o,g),⟨hP,(z2q j).symm,hg,rfl,rfl⟩,?_⟩
 clear hP hg hS hO hx hG hπ hy hj
 clear g d b e j
 rintro ⟨k,x,o,g⟩ hP
 dsimp only at hP ⊢
 refine ⟨fun hk=>?_,fun hk=>?_⟩
 rotate_left
 ·cases k with
  | zero=>exact ⟨(x,o),ph_end hp hP,rfl,rfl⟩
  | succ k=>exact absurd (by rw [z2q]; have:=z8d k; omega) hk
 obtain ⟨k,rfl⟩:∃ j,k=j+1:=by
  cases k with
  | zero=>exact absurd hk (by decide)
  | succ j=>exact ⟨j,rfl⟩
 have hpk:=z8d k
 obtain ⟨B,hSG,hb⟩:=ph_sat hr hP
 have hps:=z1v o w.sup.length
 have hB0:=hSG.b0
 simp only [z2q]
 refine ⟨⟨hr,hpk,by omega,g,B,_,hSG⟩,?_⟩
 rintro ⟨x1,o1⟩ hS1
 dsimp only at hS1 ⊢
 have hL1:=ph_lump hr hP hS1
 refine ⟨(k+1,x1,o1),⟨by dsimp only; rw [z2q]; exact hL1,(z2q k).symm,rfl,rfl⟩,?_⟩
 clear hL1 hS1 hSG hb hps hB0 hP hk
 dsimp only
 clear x1 o1 x o B g
 rintro ⟨k',x,o⟩ ⟨hk',hL⟩
 dsimp only at hk' hL ⊢
 subst hk'
 rw [z2q] at hL
 simp only [z2q]
 obtain ⟨⟨B,hN,hB,hb⟩,-⟩:=id hL
 have hps:=z1v o w.sup.length
 have hlo:=hN.over.lo
 have hyb:YB x:=yb_of fun i hi=>by have:=hN.bd i (by rw [<- hN.over.lx]; exact hi); omega
 refine ⟨⟨hr,hN.over.lx,hyb.xb,hlo⟩,?_⟩
 rintro ⟨d,b,e⟩ hS
 dsimp only at hS ⊢
 refine ⟨(0,d,b),⟨⟨Nat.zero_le _,fun v hv=>absurd hv (Nat.not_lt_zero _)⟩,rfl,rfl,rfl⟩,?_⟩
 rintro ⟨i,d',b'⟩ ⟨h1,h2,h3,h4⟩
 dsimp only at h1 h2 h3 h4 ⊢
 subst h1
 subst h2
 have ew:IntKind.i64.wrap (0 - (2:Int) ^ k) = -(2:Int) ^ k:=by rw [w64 (by omega) (by omega)]; omega
 rw [ew]
 refine ⟨fun hi=>⟨⟨by omega,hi⟩,by omega,fun y hy=>?_⟩,fun hi=>⟨⟨hr,hN.over.lx,hyb.xb⟩,?_⟩⟩
 ·have hyv:o.getD i 0=y:=by rw [List.getD_eq_getElem?_getD,hy]; rfl
  have hil:i<w.sup.length:=by omega
  have wi:IntKind.i64.wrap ((i:Int)+1)=((i+1:Nat):Int):=by have:=z0h hr; rw [w64 (by omega) (by omega)]; omega
  rw [z6y,wi]
  refine ⟨fun hle=>⟨⟨by omega,by omega⟩,hil,fun z hz=>?_⟩,fun hle=>?_⟩
  ·obtain ⟨-,ez⟩:=z1y hz
   refine ⟨fun hc=>?_,fun hc=>?_⟩
   ·obtain ⟨c,ec⟩:=z4t (ez ▸ hc)
    obtain ⟨A,l1,l2⟩:=lump_more hr hpk hL hS hil (by omega) ec
    exact ⟨A,(k+1,_,_),⟨rfl,by dsimp only; rw [z2q]; exact l1⟩,l2,(z2q k).symm,rfl,rfl⟩
   ·have en:=zd3 (ez ▸ hc)
    refine ⟨(i+1,d',b'),⟨rfl,rfl,by dsimp only; omega,fun v hv hl=>?_⟩,by dsimp only; omega,rfl,rfl,rfl⟩
    by_cases hvi:v=i
    ·rw [hvi]; exact en
    ·exact h4 v (by dsimp only at hv; omega) hl
  ·refine ⟨(i+1,d',b'),⟨rfl,rfl,by dsimp only; omega,fun v hv hl=>?_⟩,by dsimp only; omega,rfl,rfl,rfl⟩
   by_cases hvi:v=i
   ·rw [hvi] at hl; omega
   ·exact h4 v (by dsimp only at hv; omega) hl
 ·have hst:=lump_end hr hL hS fun v hv hl=>h4 v (by omega) hl
  rintro ⟨d2,b2,e2⟩ hS2
  dsimp only at hS2 ⊢
  obtain ⟨g',hg',hP'⟩:=ph_next hr hL hst hS2
  refine ⟨by decide,(k,x,o,g'),hP',by dsimp only; omega,?_,hg',rfl,rfl⟩
  dsimp only
  rw [lumpV_half]
  have hlv:z2p k <= (2:Int) ^ k/\0 <= z2p k:=by
   cases k with
   | zero=>decide
   | succ j=>rw [z2q,Int.pow_succ]; have:=z8d j; omega
  exact w64 (by omega) (by omega)
theorem cheap20_ok:SpecOk Tryz.prog cheap20_n false (z10 false zfc) :=
 z3s z0i (show z15 Tryz.prog zk9 from z00 shortER_ok (z00 great20_ok (z00 sat20_ok (z00 lump20_ok (z03))))) (by kernel_rfl) mixedOrders Tryz.func62 rfl rfl (by kernel_rfl) (n:=1) (by decide +kernel) (I:=cheap20_IA) (fun _ _=>z07) (A:=cheap20_A)
  (fun args h r hr=>by
   unfold zfc at hr
   split at hr
   ·rename_i ty1 w_s ty2 w_a w_x w_o w_t w_v; cases hr; refine ⟨rfl,fun hp=>?_⟩; have hE:=cheap20_E ⟨w_s,w_a⟩ w_x w_o w_t w_v ty1 ty2 hp; exact hE
   ·cases hr)
end Go.Proofs.YtggblkbecekbdaaGreat
end
section
namespace Go.Ql
open Go Go.Vc
def negF (n:Nat) (g:Nat->Int):List Int:=(List.range n).map fun v=>-g v
structure PriceP (I:Inst) (x p:List Int):Prop where
 ex:∃ g,z8z I (fun s=>endS I s || decide (0<rmS I x s)) g/\p=negF I.sup.length g/\(∀ v,v<I.sup.length->-144115188075855872 <= g v/\g v <= 144115188075855872)/\∀ C:Int,0 <= C->(∀ s,okS I s->-C <= csS I s/\csS I s <= C)->∀ v,v<I.sup.length->-(C * 32768) <= g v/\g v <= C * 32768
theorem negF_get (n:Nat) (g:Nat->Int) {v:Nat} (h:v<n):(negF n g).getD v 0 = -g v:=by
 unfold negF
 rw [List.getD_eq_getElem?_getD,List.getElem?_map,List.getElem?_range h]; rfl
theorem prices_slack {I:Inst} {x p:List Int} (hf:z0v I x=0) (h:PriceP I x p):z0z I x p=0:=by
 obtain ⟨hr,hl,ha,-⟩:=fitsF_zero.1 hf
 obtain ⟨g,hg,rfl,hb,-⟩:=h.ex
 unfold z0z
 rw [if_neg (fun e=>e hf),if_neg (by simp [negF]),if_pos]
 rw [List.all_eq_true]
 intro k hk
 have hk:=List.mem_range.1 hk
 obtain ⟨hget,hm⟩:=arcN_mem hk
 have ok:=z1n hr hk
 have ho:=(z1u hr hm).1
 have hft:=fitsAll_iff.1 ha k _ hget
 have b1:=hb _ ok.s1
 have b2:=hb _ ok.d1
 have f1:=hg (k,false) hk
 have f2:=hg (k,true) hk
 have:=ok.s0; have:=ok.d0; have:=ok.l0; have:=ok.l1
 have ek:I.arcs.getD k default=z37 I k:=rfl
 have e:zel I (negF I.sup.length g) k=(z37 I k).cost+g (z37 I k).src.toNat - g (z37 I k).dst.toNat:=by
  rw [redF_at hget ho]
  unfold redP redA potR
  rw [if_pos ok.s0,if_pos ok.d0,negF_get _ _ ok.s1,negF_get _ _ ok.d1]
  omega
 have hcost:-4398046511104 <= (z37 I k).cost/\(z37 I k).cost <= 4398046511104:=by
  have:=zgx hr (s:=(k,false)) hk
  unfold csS at this
  simpa using this
 unfold z22 z5r
 rw [e,ek]
 have hsg:sgn ((z37 I k).cost+g (z37 I k).src.toNat - g (z37 I k).dst.toNat)=if (z37 I k).cost+g (z37 I k).src.toNat - g (z37 I k).dst.toNat<0 then -1 else if 0<(z37 I k).cost+g (z37 I k).src.toNat - g (z37 I k).dst.toNat then 1 else 0:=by
  unfold sgn
  rw [za4 (by unfold zej; omega) (by unfold zej; omega)]
 rw [hsg]
 unfold endS toS frS csS rmS at f1 f2
 simp only [if_true,Bool.false_eq_true,if_false,Bool.not_false,Bool.not_true,Bool.true_and,Bool.false_and,Bool.false_or,Bool.or_eq_true,decide_eq_true_eq] at f1 f2
 unfold zhu at hft
 simp only [Bool.and_eq_true,Bool.or_eq_true,decide_eq_true_eq] at hft
 obtain ⟨r,er⟩:∃ r,r=(z37 I k).cost+g (z37 I k).src.toNat - g (z37 I k).dst.toNat:=⟨_,rfl⟩
 rw [<- er]
 obtain ⟨u,hu⟩:∃ u,u=x.getD k 0:=⟨_,rfl⟩
 rw [<- hu] at f1 f2 hft ⊢
 by_cases c1:r<0
 ·have hc:¬ (z37 I k).cap=inf:=fun h=>by have:=f1 (.inl h); omega
  have hx:u=(z37 I k).cap:=by
   rw [if_neg hc] at f1
   by_cases h0:0<(z37 I k).cap - u
   ·have:=f1 (.inr h0); omega
   ·unfold inf at *; omega
  simp [c1,hc,hx]
 ·by_cases c2:0<r
  ·have hx:u=(z37 I k).low:=by
    by_cases h0:0<u - (z37 I k).low
    ·have:=f2 h0; omega
    ·omega
   simp [c1,c2,hx]
  ·simp [c1,c2]
end Go.Ql
end
section
namespace Go.Proofs.YtggblkbecekbdaaGreat
open Go Go.RowKit Go.Ql Go.Vc
def zlq (w:Inst) (w_x:List Int) (w_o:List Int) (w_t:Ql.Rows3) (w_v:List Value):FRel:={ pre:=z04 w=0/\w_x.length=w.arcs.length/\XB w_x/\∃ π,z8z w (fun s=>endS w s || decide (0<rmS w w_x s)) π,G:=(List Int),post:=fun p=>PriceP w w_x p,out:=fun p=>{ pre:=True,res:=.row 6,rows:=[.row 2 (.ints .i64 (p))],eff:=[] } }
def zfu:FR:=fun args h=>match args,h with
 | [.ptr 0 0 0 0],[(0,.box false 109 [.row 1,.row 2,.row 3,.row 4,.row 5]),(1,.row false ty1 (.ints .i64 w_s)),(2,.row false ty2 (.arcs w_a)),(3,.row false ty3 (.ints .i64 w_x)),(4,.row false ty4 (.ints .i64 w_o)),(5,.deep false ty5 tz5 (.recs (.int .i64) [.bool] w_t) w_v none)]=>some (zlq ⟨w_s,w_a⟩ w_x w_o w_t w_v)
 | _,_=>none
def zft (w:Inst) (w_x:List Int) (w_o:List Int) (w_t:Ql.Rows3) (w_v:List Value):List (Nat × Ann):=[(4,{ G:=(Nat) × (Nat->Option Int),inv:=fun ⟨k,d⟩=>⟨[(6,.row 11),(19,.row 8),(20,.int .i64 (w.sup.length:Int)),(21,.int .i64 k)],[(11,.row true 2 (.ints .i64 (negF k fun v=>(d v).getD 0))),(8,.row true 172 (.recs (.int .i64) [.bool] (z0l w.sup.length d)))],12⟩,rel:=fun ⟨k0,d0⟩ ⟨k,d⟩=>d=d0/\k <= w.sup.length,meas:=fun ⟨k,d⟩=>w.sup.length - k })]
def price20_A:List SV->z0d->List (Nat × Ann):=fun args h=>match args,h with
 | [.ptr 0 0 0 0],[(0,.box false 109 [.row 1,.row 2,.row 3,.row 4,.row 5]),(1,.row false ty1 (.ints .i64 w_s)),(2,.row false ty2 (.arcs w_a)),(3,.row false ty3 (.ints .i64 w_x)),(4,.row false ty4 (.ints .i64 w_o)),(5,.deep false ty5 tz5 (.recs (.int .i64) [.bool] w_t) w_v none)]=>zft ⟨w_s,w_a⟩ w_x w_o w_t w_v
 | _,_=>[]
def zlp:z0c:=[(shortP_n,(true,z10 true zn8))]
abbrev price20_n:Nat:=63
def price20_I (w:Inst) (w_x:List Int) (w_o:List Int) (w_t:Ql.Rows3) (w_v:List Value):List (Nat × z0a):=[]
def price20_IA:List SV->z0d->List (Nat × z0a):=fun _ _=>[]
def zfs (w : Inst) (w_x : List Int) (w_o : List Int) (w_t : Ql.Rows3) (w_v : List Value) (ty1 ty2 ty3 ty4 ty5 tz5 : TypeId) : Prop :=
      (z04 w=(0:Int)/\w=w/\w_x=w_x/\w_x.length=w.arcs.length/\XB w_x) /\
 ∀ (g:(Nat->Option Int) × (Nat->Option Stp) × Option Nat),
 ShortP w (fun (s:Stp)=>Ql.endS w s || decide ((0:Int)<rmS w w_x s)) (fun (x:Nat)=>true) g.1 g.2.1 g.2.2 ->
 ((0:Int) <= (0:Int)/\(0:Int) <= (↑(z0l w.sup.length g.1).length:Int)/\(↑(z0l w.sup.length g.1).length:Int) <= (1000000000:Int)) /\
 ∃ (g0:Nat × (Nat->Option Int)),
 ((g0.snd=g0.snd/\g0.fst <= w.sup.length) /\
 (True/\True/\(↑(z0l w.sup.length g.1).length:Int)=(↑w.sup.length:Int)/\(0:Int)=(↑g0.1:Int)/\True) /\
 (List.replicate (Int.toNat (0:Int)) (0:Int)=negF g0.1 fun (v:Nat)=>(g0.2 v).getD (0:Int))/\z0l w.sup.length g.1=z0l w.sup.length g0.2/\True) /\
 ∀ (g:Nat × (Nat->Option Int)),
 g.snd=g0.snd/\g.fst <= w.sup.length ->
 (decide ((↑g.1:Int)<(↑w.sup.length:Int))=true ->
 ((0:Int) <= (↑g.1:Int)/\(↑g.1:Int)<(↑(z0l w.sup.length g.2).length:Int)) /\
 (↑g.1:Int).toNat<(z0l w.sup.length g.2).length /\
 ∀ (x:List Int),
 (z0l w.sup.length g.2)[(↑g.1:Int).toNat]? = some x ->
 (negF g.1 fun (v:Nat)=>(g.2 v).getD (0:Int)).length+(1:Nat) <= (1000000000:Nat) /\
 ∃ (g':Nat × (Nat->Option Int)),
 (g'.snd=g0.snd/\g'.fst <= w.sup.length) /\
 w.sup.length - g'.fst<w.sup.length - g.fst /\
 (True/\True/\(↑w.sup.length:Int)=(↑w.sup.length:Int)/\IntKind.i64.wrap ((↑g.1:Int)+(1:Int))=(↑g'.1:Int)/\True) /\
 ((negF g.1 fun (v:Nat)=>(g.2 v).getD (0:Int)) ++ [IntKind.i64.wrap ((0:Int) - x.headD (0:Int))] =
 negF g'.1 fun (v:Nat)=>(g'.2 v).getD (0:Int)) /\
 z0l w.sup.length g.2=z0l w.sup.length g'.2/\True) /\
 (decide ((↑g.1:Int)<(↑w.sup.length:Int))=false ->
 ∃ (g_1:List Int),PriceP w w_x g_1/\(True/\True)/\(negF g.1 fun (v:Nat)=>(g.2 v).getD (0:Int))=g_1/\True)
theorem price20_q (w:Inst) (w_x:List Int) (w_o:List Int) (w_t:Ql.Rows3) (w_v:List Value) (ty1 ty2 ty3 ty4 ty5 tz5:TypeId):zfs w w_x w_o w_t w_v ty1 ty2 ty3 ty4 ty5 tz5=zaz TT zlp (price20_I w w_x w_o w_t w_v) (zft w w_x w_o w_t w_v) Tryz.f63 [.ptr 0 0 0 0] [(0,.box false 109 [.row 1,.row 2,.row 3,.row 4,.row 5]),(1,.row false ty1 (.ints .i64 w.sup)),(2,.row false ty2 (.arcs w.arcs)),(3,.row false ty3 (.ints .i64 w_x)),(4,.row false ty4 (.ints .i64 w_o)),(5,.deep false ty5 tz5 (.recs (.int .i64) [.bool] w_t) w_v none)] (zlq w w_x w_o w_t w_v):=by kernel_rfl
theorem price20_E (w:Inst) (w_x:List Int) (w_o:List Int) (w_t:Ql.Rows3) (w_v:List Value) (ty1 ty2 ty3 ty4 ty5 tz5:TypeId) (hp:z04 w=0/\w_x.length=w.arcs.length/\XB w_x/\∃ π,z8z w (fun s=>endS w s || decide (0<rmS w w_x s)) π):FVcR TT zlp (price20_I w w_x w_o w_t w_v) (zft w w_x w_o w_t w_v) Tryz.f63 [.ptr 0 0 0 0] [(0,.box false 109 [.row 1,.row 2,.row 3,.row 4,.row 5]),(1,.row false ty1 (.ints .i64 w.sup)),(2,.row false ty2 (.arcs w.arcs)),(3,.row false ty3 (.ints .i64 w_x)),(4,.row false ty4 (.ints .i64 w_o)),(5,.deep false ty5 tz5 (.recs (.int .i64) [.bool] w_t) w_v none)] (zlq w w_x w_o w_t w_v):=by
 refine FVcR.of (zfs w w_x w_o w_t w_v ty1 ty2 ty3 ty4 ty5 tz5) (price20_q w w_x w_o w_t w_v ty1 ty2 ty3 ty4 ty5 tz5) ?_
 unfold zfs
 simp only [eq_self,exists_const,forall_const,ne_eq,Int.toNat_natCast,zSS,z08]
 obtain ⟨hr,hl,hx,π,hπ⟩:=hp
 refine ⟨⟨hr,hl,hx⟩,?_⟩
 rintro ⟨d,b,e⟩ hS
 dsimp only at hS ⊢
 obtain ⟨g,h1,h2⟩:=znh hr hS hπ
 have hs64:=z0h hr
 rw [z6y]
 refine ⟨by omega,(0,d),⟨Nat.zero_le _,⟨rfl,rfl⟩,rfl,rfl⟩,?_⟩
 rintro ⟨k,d2⟩ ⟨h3,h4⟩
 dsimp only at h3 h4 ⊢
 subst h3
 rw [z6y]
 refine ⟨fun h5=>⟨⟨by omega,h5⟩,by omega,fun x hx=>⟨by simp [negF]; omega,(k+1,d2),⟨rfl,by dsimp only; omega⟩,by dsimp only; omega,by rw [w64 (by omega) (by omega)]; dsimp only; omega,?_,rfl⟩⟩,fun h5=>⟨_,⟨⟨g,h2,?_,fun v hv=>hS.db hr (h1 v hv),fun C h0 hC v hv=>hS.few h0 hC (h1 v hv)⟩⟩,rfl⟩⟩
 ·obtain ⟨hk,rfl⟩:=z1y hx
  have hb:=hS.db hr (h1 k hk)
  have e1:(mbI (d2 k)).headD 0=g k:=by rw [h1 k hk]; rfl
  rw [e1,w64 (by omega) (by omega)]
  unfold negF
  rw [List.range_succ,List.map_append,List.map_singleton]
  dsimp only
  rw [h1 k hk]
  simp
 ·have ek:k=w.sup.length:=by omega
  subst ek
  unfold negF
  exact List.map_congr_left fun v hv=>by dsimp only; rw [h1 v (List.mem_range.1 hv)]; rfl
theorem price20_ok:SpecOk Tryz.prog price20_n true (z10 true zfu) :=
 z3s z0i (show z15 Tryz.prog zlp from z00 shortP_ok (z03)) (by kernel_rfl) mixedOrders Tryz.func63 rfl rfl (by kernel_rfl) (n:=1) (by decide +kernel) (I:=price20_IA) (fun _ _=>z07) (A:=price20_A)
  (fun args h r hr=>by
   unfold zfu at hr
   split at hr
   ·rename_i ty1 w_s ty2 w_a ty3 w_x ty4 w_o ty5 tz5 w_t w_v; cases hr; refine ⟨rfl,fun hp=>?_⟩; have hE:=price20_E ⟨w_s,w_a⟩ w_x w_o w_t w_v ty1 ty2 ty3 ty4 ty5 tz5 hp; exact hE
   ·cases hr)
end Go.Proofs.YtggblkbecekbdaaGreat
end
