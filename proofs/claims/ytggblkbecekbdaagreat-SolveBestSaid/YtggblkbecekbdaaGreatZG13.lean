/- Part of the proof: Solve9, DT20, FT20, Solve10, DU20, FU20, DV20, FV20, DW20. -/
import Derived.Test.YtggblkbecekbdaaGreatZG12
import Derived.Test.YtggblkbecekbdaaGreatZG10
import Derived.Test.YtggblkbecekbdaaGreatZG5
import Derived.Test.YtggblkbecekbdaaGreatZG11
import Derived.Test.YtggblkbecekbdaaGreatZG9
import Derived.Test.YtggblkbecekbdaaGreatZG7
set_option linter.all false
set_option linter.unusedSimpArgs false
set_option linter.unusedVariables false
set_option maxRecDepth 1000000
section
namespace Go.Ql
open Go Go.Vc
theorem least_of {P:Nat->Prop}:∀ k,P k->∃ j,j <= k/\P j/\∀ i,i<j->¬ P i:=by
 intro k
 induction k using Nat.strongRecOn with
 | ind k ih =>
  intro hk
  by_cases h:∃ i,i<k/\P i
  ·obtain ⟨i,hi,hp⟩:=h
   obtain ⟨j,h1,h2,h3⟩:=ih i hi hp
   exact ⟨j,by omega,h2,h3⟩
  ·exact ⟨k,Nat.le_refl _,hk,fun i hi hp=>h ⟨i,hi,hp⟩⟩
structure Circ (I:Inst) (b:Nat->Option Stp) (m k:Nat):Prop where
 mn:m<I.sup.length
 k1:1 <= k
 kn:k <= I.sup.length
 all:∀ i,∃ s,b (z0o I b m i)=some s/\okS I s/\endS I s=true/\toS I s=z0o I b m i
 back:z0o I b m k=m
 not:∀ i,1 <= i->i<k->z0o I b m i ≠ m
 neg:z8s I b m k<0
theorem circ_of {I:Inst} (hr:z04 I=0) {d:Nat->Option Int} {b:Nat->Option Stp} {v:Nat} (hS:ShortP I (endS I) (fun _=>true) d b (some v)):v<I.sup.length/\(∀ t,∃ s,b (z0o I b v t)=some s/\okS I s)/\∃ k,Circ I b (z0o I b v I.sup.length) k:=by
 obtain ⟨r,⟨⟨τ,T,t,hB⟩,-⟩,-,hrn⟩:=hS.inv
 have er:=hrn v rfl
 subst er
 obtain ⟨hv,-,-⟩:=hB.la v rfl
 have hok:∀ v s,v<I.sup.length->b v=some s->okS I s:=fun v s hv hb=>(hB.by_ v s hv hb).1
 have hlt:=z60 hr hok hv
 have hk0:∀ i,i<I.sup.length->∃ s,b (z0o I b v i)=some s:=fun i hi=>(hB.long hr rfl i hi).1
 obtain ⟨i,j,hij,hjn,he⟩:=pigeon (fun i=>z0o I b v i) fun i _=>hlt i
 have hper:∀ t,i <= t->z0o I b v (t+(j - i))=z0o I b v t:=fun t ht=>by
  have e1:t+(j - i)=j+(t - i):=by omega
  have e2:t=i+(t - i):=by omega
  rw [e1,z3d]
  conv=>rhs; rw [e2,z3d]
  rw [show z0o I b v j=z0o I b v i from he.symm]
 have hall:∀ t,∃ s,b (z0o I b v t)=some s:=by
  intro t
  induction t using Nat.strongRecOn with
  | ind t ih =>
   by_cases h:t<I.sup.length
   ·exact hk0 t h
   ·obtain ⟨s,hs⟩:=ih (t - (j - i)) (by omega)
    have:=hper (t - (j - i)) (by omega)
    rw [show t - (j - i)+(j - i)=t by omega] at this
    exact ⟨s,by rw [this]; exact hs⟩
 have hm:∀ t,z0o I b (z0o I b v I.sup.length) t=z0o I b v (I.sup.length+t):=fun t=>(z3d I b v _ t).symm
 have hP:1 <= j - i/\z0o I b (z0o I b v I.sup.length) (j - i)=z0o I b v I.sup.length:=⟨by omega,by rw [hm]; exact hper _ (by omega)⟩
 obtain ⟨k,h1,⟨h2,h3⟩,h4⟩:=least_of (P:=fun k=>1 <= k/\z0o I b (z0o I b v I.sup.length) k=z0o I b v I.sup.length) _ hP
 refine ⟨hv,fun t=>(hall t).imp fun s hs=>⟨hs,hok _ s (hlt t) hs⟩,k,hlt _,h2,by omega,fun t=>?_,h3,fun t ht1 ht2 h=>h4 t ht2 ⟨ht1,h⟩,hB.cycle hr (hlt _) h2 (fun t _=>by rw [hm]; exact hall _) h3⟩
 obtain ⟨s,hs⟩:=hall (I.sup.length+t)
 rw [<- hm] at hs
 obtain ⟨a1,a2,a3,-⟩:=hB.by_ _ s (by rw [hm]; exact hlt _) hs
 exact ⟨s,hs,a1,a2,a3⟩
def arcB (I:Inst) (b:Nat->Option Stp) (m i:Nat):Int:=match b (z0o I b m i) with
 | some s=>(s.1:Int)
 | none=>0
def z3w (I:Inst) (b:Nat->Option Stp) (m k:Nat):List Int:=(List.range k).map (arcB I b m)
theorem circL_succ (I:Inst) (b:Nat->Option Stp) (m k:Nat):z3w I b m (k+1)=z3w I b m k ++ [arcB I b m k]:=by
 unfold z3w; rw [List.range_succ,List.map_append]; rfl
theorem Circ.arc {I:Inst} (hr:z04 I=0) {b:Nat->Option Stp} {m k:Nat} (h:Circ I b m k) (i:Nat):∃ a,a<I.arcs.length/\b (z0o I b m i)=some (a,false)/\arcB I b m i=(a:Int)/\(z37 I a).cap=inf/\(z37 I a).dst=(z0o I b m i:Int)/\(z37 I a).src=(z0o I b m (i+1):Int):=by
 obtain ⟨⟨a,q⟩,hs,ha,he,ht⟩:=h.all i
 unfold endS at he
 rw [Bool.and_eq_true,Bool.not_eq_true',decide_eq_true_eq] at he
 have hq:q=false:=he.1
 subst hq
 have ok:=z1n hr (show a<I.arcs.length from ha)
 have:=ok.s0; have:=ok.d0
 unfold toS at ht
 simp only [Bool.false_eq_true,if_false] at ht
 refine ⟨a,ha,hs,by unfold arcB; rw [hs],he.2,by omega,?_⟩
 rw [z0o,hs]
 show (z37 I a).src=((frS I (a,false):Nat):Int)
 unfold frS
 simp only [Bool.false_eq_true,if_false]
 omega
theorem Circ.inj {I:Inst} (hr:z04 I=0) {b:Nat->Option Stp} {m k:Nat} (h:Circ I b m k) {i j:Nat} (hij:i<j) (hj:j<k):arcB I b m i ≠ arcB I b m j:=fun he=>by
 obtain ⟨a,-,-,ea,-,da,-⟩:=h.arc hr i
 obtain ⟨a',-,-,ea',-,da',-⟩:=h.arc hr j
 have:a=a':=by omega
 subst this
 have hb:z0o I b m i=z0o I b m j:=by omega
 refine h.not (i+(k - j)) (by omega) (by omega) ?_
 rw [z3d,hb,<- z3d,show j+(k - j)=k by omega,h.back]
theorem Circ.few {I:Inst} (hr:z04 I=0) {b:Nat->Option Stp} {m k:Nat} (h:Circ I b m k):k <= I.arcs.length:=by
 apply Nat.le_of_not_lt
 intro hlt
 obtain ⟨i,j,hij,hj,he⟩:=pigeon (n:=I.arcs.length) (fun i=>(arcB I b m i).toNat) fun i _=>by
  obtain ⟨a,ha,-,ea,-⟩:=h.arc hr i
  omega
 obtain ⟨a,ha,-,ea,-⟩:=h.arc hr i
 obtain ⟨a',ha',-,ea',-⟩:=h.arc hr j
 exact h.inj hr hij (by omega) (by omega)
theorem rayK_sum (I:Inst) (l:List Int):∀ k,k <= l.length->zbc I l k=((l.take k).map (rayD I)).sum
 | 0,_=>by simp [zbc]
 | k+1,h=>by
  have hk:l[k]? = some l[k]:=List.getElem?_eq_getElem (by omega)
  rw [zbc,rayK_sum I l k (by omega),z1k hk,List.map_append,List.sum_append,List.getD_eq_getElem?_getD,hk]
  simp
theorem rayS_sum (I:Inst) (l:List Int):rayS I l=(l.map (rayD I)).sum:=by
 unfold rayS; rw [rayK_sum I l _ (Nat.le_refl _),List.take_length]
theorem sum_rev:∀ l:List Int,l.reverse.sum=l.sum
 | []=>rfl
 | a :: l=>by rw [List.reverse_cons,List.sum_append,sum_rev l]; simp; omega
theorem Circ.cost {I:Inst} (hr:z04 I=0) {b:Nat->Option Stp} {m k:Nat} (h:Circ I b m k):∀ j,((z3w I b m j).map (rayD I)).sum=z8s I b m j
 | 0=>rfl
 | j+1=>by
  obtain ⟨a,ha,hb,ea,-⟩:=h.arc hr j
  have e1:z52 I (a:Int)=true:=isArcF_iff.2 ⟨by omega,by omega⟩
  rw [circL_succ,List.map_append,List.sum_append,h.cost hr j,z8s,hb,ea]
  have e2:rayD I (a:Int)=csS I (a,false):=by
   unfold rayD csS z7w z37
   rw [if_pos e1,Int.toNat_natCast]
   rfl
  simp [e2]
theorem Circ.turns {I:Inst} (hr:z04 I=0) {b:Nat->Option Stp} {m k:Nat} (h:Circ I b m k):z2b I (z3w I b m k).reverse=0:=by
 have hlen:(z3w I b m k).length=k:=by simp [z3w]
 have hfew:=h.few hr
 have hk1:=h.k1
 have hget:∀ j,j<k->(z3w I b m k).reverse.getD j 0=arcB I b m (k - 1 - j):=fun j hj=>by
  rw [List.getD_eq_getElem?_getD,List.getElem?_reverse (by omega),hlen]
  unfold z3w
  rw [List.getElem?_map,List.getElem?_range (by omega)]; rfl
 have hmem:∀ x ∈ (z3w I b m k).reverse,∃ i,i<k/\x=arcB I b m i:=fun x hx=>by
  rw [List.mem_reverse] at hx
  obtain ⟨i,hi,rfl⟩:=List.mem_map.1 hx
  exact ⟨i,List.mem_range.1 hi,rfl⟩
 have hat:∀ i,∃ a,a<I.arcs.length/\arcB I b m i=(a:Int)/\(z7w I (arcB I b m i)).cap=inf/\(z7w I (arcB I b m i)).dst=(z0o I b m i:Int)/\(z7w I (arcB I b m i)).src=(z0o I b m (i+1):Int):=fun i=>by
  obtain ⟨a,ha,hb,ea,h1,h2,h3⟩:=h.arc hr i
  refine ⟨a,ha,ea,?_⟩
  rw [ea]
  exact ⟨h1,h2,h3⟩
 have c1:c1F I (z3w I b m k).reverse=true:=List.all_eq_true.2 fun x hx=>by
  obtain ⟨i,hi,rfl⟩:=hmem x hx
  obtain ⟨a,ha,ea,-⟩:=hat i
  rw [ea]; exact isArcF_iff.2 ⟨by omega,by omega⟩
 have c2:c2F (z3w I b m k).reverse=true:=decide_eq_true (by
  unfold z3w List.Nodup
  rw [List.pairwise_reverse,List.pairwise_map]
  exact List.Pairwise.imp_of_mem (fun _ hb hab=>(h.inj hr hab (List.mem_range.1 hb)).symm) List.pairwise_lt_range)
 have c3:c3F I (z3w I b m k).reverse=true:=List.all_eq_true.2 fun j hj=>by
  rw [List.length_reverse,hlen,List.mem_range] at hj
  unfold linkF
  rw [List.length_reverse,hlen,hget j hj]
  refine decide_eq_true ?_
  obtain ⟨-,-,-,-,e1,-⟩:=hat (k - 1 - j)
  rw [e1]
  by_cases hj2:j+1<k
  ·rw [Nat.mod_eq_of_lt hj2,hget _ hj2]
   obtain ⟨-,-,-,-,-,e2⟩:=hat (k - 1 - (j+1))
   rw [e2,show k - 1 - (j+1)+1=k - 1 - j by omega]
  ·have ej:j+1=k:=by omega
   rw [ej,Nat.mod_self,hget 0 (by omega)]
   obtain ⟨-,-,-,-,-,e2⟩:=hat (k - 1 - 0)
   rw [e2,show k - 1 - 0+1=k by omega,h.back,show k - 1 - j=0 by omega]
   rfl
 have c4:c4F I (z3w I b m k).reverse=true:=List.all_eq_true.2 fun x hx=>by
  obtain ⟨i,hi,rfl⟩:=hmem x hx
  obtain ⟨-,-,-,e1,-⟩:=hat i
  exact decide_eq_true e1
 have c5:c5F I (z3w I b m k).reverse=true:=by
  refine decide_eq_true ?_
  have e1:rayS I (z3w I b m k).reverse=z8s I b m k:=by rw [rayS_sum,List.map_reverse,sum_rev,h.cost hr]
  have e2:=rayK_bd hr (z3w I b m k).reverse (z3w I b m k).reverse.length
  have e3:zbc I (z3w I b m k).reverse (z3w I b m k).reverse.length=z8s I b m k:=e1
  rw [e3,List.length_reverse,hlen] at e2
  have hs:=z0h hr
  have hn:=h.neg
  rw [e1,za4 (by unfold zej; omega) (by unfold zej; omega),if_pos hn]
  decide
 unfold z2b
 rw [if_neg (by simp [hr]),List.length_reverse,hlen,if_neg (by omega),c1,c2,c3,c4,c5]
 rfl
structure RoundP (I:Inst) (l:List Int) (f:Bool):Prop where
 yes:f=true->z2b I l=0
 no:f=false->l=[]/\∃ π,z8z I (endS I) π
structure CircA (I:Inst) (b:Nat->Option Stp) (v:Nat):Prop where
 vn:v<I.sup.length
 all:∀ t,∃ s,b (z0o I b v t)=some s/\okS I s
 circ:∃ k,Circ I b (z0o I b v I.sup.length) k
theorem circ_a {I:Inst} (hr:z04 I=0) {d:Nat->Option Int} {b:Nat->Option Stp} {v:Nat} (hS:ShortP I (endS I) (fun _=>true) d b (some v)):CircA I b v:=by
 obtain ⟨h1,h2,h3⟩:=circ_of hr hS
 exact ⟨h1,h2,h3⟩
theorem short_none {I:Inst} {cnt:Stp->Bool} {d:Nat->Option Int} {b:Nat->Option Stp} (hr:z04 I=0) (hS:ShortP I cnt (fun _=>true) d b none):z8z I cnt fun v=>(d v).getD 0:=by
 obtain ⟨r,⟨⟨τ,T,t,hB⟩,-⟩,h1,-⟩:=hS.inv
 intro s hs hc
 have hf:=z33 hr hs
 rcases h1 rfl with h3 | h3
 ·obtain ⟨u,hu⟩:=hS.st hf rfl
  obtain ⟨c,h4,h5⟩:=hB.end_ h3 (fun _ _=>rfl) s hs hc u hu
  dsimp only
  rw [hu,h4]; exact h5
 ·omega
def zhj (l:List Int) (i:Nat):List Int:=(List.range l.length).map fun t=>if t<i ∨ l.length <= t+i then l.getD (l.length - 1 - t) 0 else l.getD t 0
theorem zap (l:List Int) (i:Nat):(zhj l i).length=l.length:=by simp [zhj]
theorem zdf {l:List Int} {i t:Nat} (h:t<l.length):(zhj l i)[t]? = some (if t<i ∨ l.length <= t+i then l.getD (l.length - 1 - t) 0 else l.getD t 0):=by
 unfold zhj; rw [List.getElem?_map,List.getElem?_range h]; rfl
theorem revK_zero (l:List Int):zhj l 0=l:=by
 refine List.ext_getElem? fun t=>?_
 by_cases h:t<l.length
 ·rw [zdf h,if_neg (by omega),List.getD_eq_getElem?_getD,List.getElem?_eq_getElem h]; rfl
 ·rw [List.getElem?_eq_none (by rw [zap]; omega),List.getElem?_eq_none (by omega)]
theorem revK_end {l:List Int} {i:Nat} (hi:l.length <= 2 * i+1):zhj l i=l.reverse:=by
 refine List.ext_getElem? fun t=>?_
 by_cases h:t<l.length
 ·rw [zdf h,List.getElem?_reverse h]
  by_cases h2:t<i ∨ l.length <= t+i
  ·rw [if_pos h2,List.getD_eq_getElem?_getD,List.getElem?_eq_getElem (by omega)]; rfl
  ·rw [if_neg h2,List.getD_eq_getElem?_getD,show l.length - 1 - t=t by omega,List.getElem?_eq_getElem h]; rfl
 ·rw [List.getElem?_eq_none (by rw [zap]; omega),List.getElem?_eq_none (by rw [List.length_reverse]; omega)]
theorem revK_next {l:List Int} {i j:Nat} (hj:j+i+1=l.length) (hij:i<j) {x y:Int} (hx:(zhj l i)[i]? = some x) (hy:(zhj l i)[j]? = some y):((zhj l i).set i y).set j x=zhj l (i+1):=by
 refine List.ext_getElem? fun t=>?_
 rw [zdf (by omega),if_neg (by omega)] at hx hy
 cases hx; cases hy
 by_cases h:t<l.length
 ·rw [zdf h,List.getElem?_set,List.getElem?_set]
  simp only [List.length_set,zap]
  by_cases h1:j=t
  ·subst h1
   rw [if_pos rfl,if_pos h,if_pos (.inr (by omega)),show l.length - 1 - j=i by omega]
  ·rw [if_neg h1]
   by_cases h2:i=t
   ·subst h2
    rw [if_pos rfl,if_pos (by omega),if_pos (.inl (by omega)),show l.length - 1 - i=j by omega]
   ·rw [if_neg h2,zdf h]
    by_cases h3:t<i ∨ l.length <= t+i
    ·rw [if_pos h3,if_pos (by omega)]
    ·rw [if_neg h3,if_neg (by omega)]
 ·rw [List.getElem?_eq_none (by simp [zap]; omega),List.getElem?_eq_none (by rw [zap]; omega)]
theorem ShortP.ok {I:Inst} {cnt:Stp->Bool} {start:Nat->Bool} {d:Nat->Option Int} {b:Nat->Option Stp} {e:Option Nat} (h:ShortP I cnt start d b e) {v:Nat} {s:Stp} (hv:v<I.sup.length) (hs:b v=some s):okS I s:=by
 obtain ⟨r,⟨⟨τ,T,t,hB⟩,-⟩,-⟩:=h.inv
 exact (hB.by_ v s hv hs).1
end Go.Ql
end
section
namespace Go.Proofs.YtggblkbecekbdaaGreat
open Go Go.RowKit Go.Ql Go.Vc
def rev20_r (l:List Int):FRes:={ pre:=l.length <= 1000000,res:=.tup [],rows:=[],eff:=[(0,.row true 3 (.ints .i64 l.reverse))] }
def rev20_fs:FS:=fun args h=>match args,h with
 | [.row 0],[(0,.row true 3 (.ints .i64 l))]=>some (rev20_r l)
 | _,_=>none
def rev20_an (l:List Int):List (Nat × Ann):=[(1,{ G:=(Nat),inv:=fun i=>⟨[(0,.row 0),(2,.int .i64 i),(3,.int .i64 ((l.length:Int) - 1 - i))],[(0,.row true 3 (.ints .i64 (zhj l i)))],1⟩,rel:=fun i0 i=>i <= l.length,meas:=fun i=>l.length - i })]
def rev20_A:List SV->z0d->List (Nat × Ann):=fun args h=>match args,h with
 | [.row 0],[(0,.row true 3 (.ints .i64 l))]=>rev20_an l
 | _,_=>[]
def rev20_g:z0c:=[]
abbrev rev20_n:Nat:=108
def rev20_I (l:List Int):List (Nat × z0a):=[]
def rev20_IA:List SV->z0d->List (Nat × z0a):=fun _ _=>[]
def zmn (w:Inst) (w_x:List Int) (w_o:List Int) (w_t:Ql.Rows3) (w_v:List Value):FRel:={ pre:=z04 w=0,G:=(List Int) × (Bool),post:=fun ⟨l,f⟩=>RoundP w l f,out:=fun ⟨l,f⟩=>{ pre:=True,res:=.tup [.row 6,.bool (f)],rows:=[.row 3 (.ints .i64 (l))],eff:=[] } }
def zgf:FR:=fun args h=>match args,h with
 | [.ptr 0 0 0 0],[(0,.box false 109 [.row 1,.row 2,.row 3,.row 4,.row 5]),(1,.row false ty1 (.ints .i64 w_s)),(2,.row false ty2 (.arcs w_a)),(3,.row false ty3 (.ints .i64 w_x)),(4,.row false ty4 (.ints .i64 w_o)),(5,.deep false ty5 tz5 (.recs (.int .i64) [.bool] w_t) w_v none)]=>some (zmn ⟨w_s,w_a⟩ w_x w_o w_t w_v)
 | _,_=>none
def zge (w:Inst) (w_x:List Int) (w_o:List Int) (w_t:Ql.Rows3) (w_v:List Value):List (Nat × Ann):=[(6,{ G:=(Nat->Option Stp) × (Nat) × (Nat),inv:=fun ⟨b,v,j⟩=>⟨[(0,.ptr 0 0 0 0),(5,.row 8),(7,.int .i64 (z0o w b v j:Nat)),(29,.int .i64 (w.sup.length:Int)),(30,.int .i64 j)],[(8,.row true 165 (.recs (.int .i64) [.bool,.bool] (z0k w.sup.length b))),(0,.box false 109 [.row 1,.row 2,.row 3,.row 4,.row 5]),(1,.row false 0 (.ints .i64 w.sup)),(2,.row false 0 (.arcs w.arcs)),(3,.row false 0 (.ints .i64 w_x)),(4,.row false 0 (.ints .i64 w_o)),(5,.deep false 0 0 (.recs (.int .i64) [.bool] w_t) w_v none)],10⟩,rel:=fun ⟨b0,v0,j0⟩ ⟨b,v,j⟩=>b=b0/\v=v0/\j <= w.sup.length/\CircA w b v,meas:=fun ⟨b,v,j⟩=>w.sup.length - j }),
 (11,{ G:=(Nat->Option Stp) × (Nat) × (Nat) × (Nat),inv:=fun ⟨b,m,k,j⟩=>⟨[(0,.ptr 0 0 0 0),(5,.row 8),(7,.int .i64 (m:Int)),(8,.row 10),(9,.int .i64 (z0o w b m j:Nat))],[(10,.row true 3 (.ints .i64 (z3w w b m j))),(8,.row true 165 (.recs (.int .i64) [.bool,.bool] (z0k w.sup.length b))),(0,.box false 109 [.row 1,.row 2,.row 3,.row 4,.row 5]),(1,.row false 0 (.ints .i64 w.sup)),(2,.row false 0 (.arcs w.arcs)),(3,.row false 0 (.ints .i64 w_x)),(4,.row false 0 (.ints .i64 w_o)),(5,.deep false 0 0 (.recs (.int .i64) [.bool] w_t) w_v none)],11⟩,rel:=fun ⟨b0,m0,k0,j0⟩ ⟨b,m,k,j⟩=>b=b0/\m=m0/\k=k0/\j<k/\Circ w b m k,meas:=fun ⟨b,m,k,j⟩=>k - j })]
def round20_A:List SV->z0d->List (Nat × Ann):=fun args h=>match args,h with
 | [.ptr 0 0 0 0],[(0,.box false 109 [.row 1,.row 2,.row 3,.row 4,.row 5]),(1,.row false ty1 (.ints .i64 w_s)),(2,.row false ty2 (.arcs w_a)),(3,.row false ty3 (.ints .i64 w_x)),(4,.row false ty4 (.ints .i64 w_o)),(5,.deep false ty5 tz5 (.recs (.int .i64) [.bool] w_t) w_v none)]=>zge ⟨w_s,w_a⟩ w_x w_o w_t w_v
 | _,_=>[]
def zmm:z0c:=[(shortE_n,(true,z10 true zdo)),(zb4,(true,z02 true z6g)),(rev20_n,(false,z02 false rev20_fs))]
abbrev round20_n:Nat:=61
def round20_I (w:Inst) (w_x:List Int) (w_o:List Int) (w_t:Ql.Rows3) (w_v:List Value):List (Nat × z0a):=[]
def round20_IA:List SV->z0d->List (Nat × z0a):=fun _ _=>[]
def rev20_E0 (l : List Int) : Prop :=
      ∃ (g0:Nat),
 (g0 <= l.length /\
 (True/\(0:Int)=(↑g0:Int)/\IntKind.i64.wrap ((↑l.length:Int) - (1:Int))=(↑l.length:Int) - (1:Int) - (↑g0:Int)/\True)/\l=zhj l g0/\True) /\
 ∀ (g:Nat),
 g <= l.length ->
 (decide ((↑g:Int)<(↑l.length:Int) - (1:Int) - (↑g:Int))=true ->
 ((0:Int) <= (↑l.length:Int) - (1:Int) - (↑g:Int)/\(↑l.length:Int) - (1:Int) - (↑g:Int)<(↑(zhj l g).length:Int)) /\
 ((↑l.length:Int) - (1:Int) - (↑g:Int)).toNat<(zhj l g).length /\
 ∀ (x:Int),
 (zhj l g)[((↑l.length:Int) - (1:Int) - (↑g:Int)).toNat]? = some x ->
 ((0:Int) <= (↑g:Int)/\(↑g:Int)<(↑(zhj l g).length:Int)) /\
 (↑g:Int).toNat<(zhj l g).length /\
 ∀ (x_1:Int),
 (zhj l g)[(↑g:Int).toNat]? = some x_1 ->
 ((0:Int) <= (↑g:Int)/\(↑g:Int)<(↑(zhj l g).length:Int)) /\
 (↑g:Int).toNat<(zhj l g).length /\
 ((0:Int) <= (↑l.length:Int) - (1:Int) - (↑g:Int) /\
 (↑l.length:Int) - (1:Int) - (↑g:Int)<(↑((zhj l g).set (↑g:Int).toNat x).length:Int)) /\
 ((↑l.length:Int) - (1:Int) - (↑g:Int)).toNat<((zhj l g).set (↑g:Int).toNat x).length /\
 ∃ (g':Nat),
 g' <= l.length /\
 l.length - g'<l.length - g /\
 (True /\
 IntKind.i64.wrap ((↑g:Int)+(1:Int))=(↑g':Int) /\
 IntKind.i64.wrap ((↑l.length:Int) - (1:Int) - (↑g:Int) - (1:Int))=(↑l.length:Int) - (1:Int) - (↑g':Int)/\True) /\
 ((zhj l g).set (↑g:Int).toNat x).set ((↑l.length:Int) - (1:Int) - (↑g:Int)).toNat x_1=zhj l g'/\True) /\
 (decide ((↑g:Int)<(↑l.length:Int) - (1:Int) - (↑g:Int))=false->(True/\True)/\zhj l g=l.reverse/\True)
theorem rev20_q (l:List Int):rev20_E0 l=z23 TT rev20_g (rev20_I l) (rev20_an l) Tryz.f108 [.row 0] [(0,.row true 3 (.ints .i64 l))] (rev20_r l):=by kernel_rfl
theorem rev20_E (l:List Int) (hp:l.length <= 1000000):FVc TT rev20_g (rev20_I l) (rev20_an l) Tryz.f108 [.row 0] [(0,.row true 3 (.ints .i64 l))] (rev20_r l):=by
 refine FVc.of (rev20_E0 l) (rev20_q l) ?_
 unfold rev20_E0
 simp only [eq_self,exists_const,forall_const,ne_eq,Int.toNat_natCast,zSS,z08]
 simp only [zap,List.length_set]
 refine ⟨0,⟨Nat.zero_le _,⟨rfl,by rw [w64 (by omega) (by omega)]; omega⟩,(revK_zero l).symm⟩,fun i hi=>?_⟩
 refine ⟨fun h=>⟨by omega,by omega,fun x hx=>⟨by omega,by omega,fun y hy=>⟨by omega,by omega,by omega,by omega,i+1,by omega,by omega,⟨by rw [w64 (by omega) (by omega)]; omega,by rw [w64 (by omega) (by omega)]; omega⟩,?_⟩⟩⟩,fun h=>revK_end (by omega)⟩
 exact revK_next (by omega) (by omega) hy hx
theorem rev20_ok:SpecOk Tryz.prog rev20_n false (z02 false rev20_fs) :=
 z09 z0i (show z15 Tryz.prog rev20_g from z03) (by kernel_rfl) mixedOrders Tryz.func108 rfl rfl (by kernel_rfl) (n:=1) (by decide +kernel) (I:=rev20_IA) (fun _ _=>z07) (A:=rev20_A)
  (fun args h r hr=>by
   unfold rev20_fs at hr
   split at hr
   ·rename_i l; cases hr; refine ⟨rfl,fun hp=>?_⟩; have hE:=rev20_E l hp; exact hE
   ·cases hr)
abbrev zas:=(Nat->Option Stp) × Nat × Nat × Nat
abbrev zat:=(Nat->Option Stp) × Nat × Nat
abbrev z7l (w:Inst) (w_x:List Int) (w_o:List Int) (w_t:Ql.Rows3) (w_v:List Value):=((True/\(True/\(True/\(True/\(True/\True)))))/\(w.sup=w.sup/\(w.arcs=w.arcs/\(w_x=w_x/\(w_o=w_o/\((w_t=w_t/\(w_v=w_v))/\True))))))
abbrev z7m (w:Inst) (x:List Int):=(↑(frS w ((x.headD (0:Int)).toNat,x.tail.headD (0:Int) == (1:Int))):Int)
def zgd (w : Inst) (w_x : List Int) (w_o : List Int) (w_t : Ql.Rows3) (w_v : List Value) (ty1 ty2 ty3 ty4 ty5 tz5 : TypeId) : Prop :=
   (z04 w=(0:Int)/\(w=w))/\∀ (g:(Nat->Option Int) × (Nat->Option Stp) × Option Nat),ShortP w (Ql.endS w) (fun (x:Nat)=>true) g.1 g.2.1 g.2.2->((!g.2.2.isSome)=true->∃ (g:List Int × Bool),RoundP w g.1 g.2/\(((True/\(false=g.2/\True))/\True)/\([]=g.1/\True)))/\((!g.2.2.isSome)=false->∃ (g0:zat),((g0.fst=g0.fst/\(g0.2.fst=g0.2.fst/\(g0.2.snd <= w.sup.length/\(CircA w g0.fst g0.2.fst))))/\((0=0/\(True/\((↑(g.2.2.getD (0:Nat)):Int)=↑(z0o w g0.1 g0.2.1 g0.2.2)/\((↑w.sup.length:Int)=↑w.sup.length/\((0:Int)=↑g0.2.2/\True)))))/\(z0k w.sup.length g.2.1=z0k w.sup.length g0.1/\(z7l w w_x w_o w_t w_v))))/\∀ (g:zat),g.fst=g0.fst/\g.2.fst=g0.2.fst/\g.2.snd <= w.sup.length/\CircA w g.fst g.2.fst->(decide ((↑g.2.2:Int)<↑w.sup.length)=true->((0:Int) <= ↑(z0o w g.1 g.2.1 g.2.2)/\((↑(z0o w g.1 g.2.1 g.2.2):Int)<↑(z0k w.sup.length g.1).length))/\((↑(z0o w g.1 g.2.1 g.2.2):Int).toNat<(z0k w.sup.length g.1).length/\(∀ (x:List Int),(z0k w.sup.length g.1)[(↑(z0o w g.1 g.2.1 g.2.2):Int).toNat]? = some x->z1l w (x.headD (0:Int))/\(∃ (g':zat),(g'.fst=g0.fst/\(g'.2.fst=g0.2.fst/\(g'.2.snd <= w.sup.length/\(CircA w g'.fst g'.2.fst))))/\(w.sup.length - g'.2.snd<w.sup.length - g.2.snd/\((0=0/\(True/\((z7m w x)=↑(z0o w g'.1 g'.2.1 g'.2.2)/\((↑w.sup.length:Int)=↑w.sup.length/\(IntKind.i64.wrap ((↑g.2.2:Int)+(1:Int))=(↑g'.2.2:Int)/\True)))))/\(z0k w.sup.length g.1=z0k w.sup.length g'.1/\(z7l w w_x w_o w_t w_v))))))))/\(decide ((↑g.2.2:Int)<↑w.sup.length)=false->∃ (g0:zas),((g0.fst=g0.fst/\(g0.2.fst=g0.2.fst/\(g0.2.2.fst=g0.2.2.fst/\(g0.2.2.snd<g0.2.2.fst/\(Circ w g0.fst g0.2.fst g0.2.2.fst)))))/\((0=0/\(True/\((↑(z0o w g.1 g.2.1 g.2.2):Int)=↑g0.2.1/\(True/\((↑(z0o w g.1 g.2.1 g.2.2):Int)=↑(z0o w g0.1 g0.2.1 g0.2.2.2)/\True)))))/\([]=z3w w g0.1 g0.2.1 g0.2.2.2/\(z0k w.sup.length g.1=z0k w.sup.length g0.1/\(z7l w w_x w_o w_t w_v)))))/\(∀ (g:zas),g.fst=g0.fst/\g.2.fst=g0.2.fst/\g.2.2.fst=g0.2.2.fst/\g.2.2.snd<g.2.2.fst/\Circ w g.fst g.2.fst g.2.2.fst->((0:Int) <= ↑(z0o w g.1 g.2.1 g.2.2.2)/\((↑(z0o w g.1 g.2.1 g.2.2.2):Int)<↑(z0k w.sup.length g.1).length))/\((↑(z0o w g.1 g.2.1 g.2.2.2):Int).toNat<(z0k w.sup.length g.1).length/\(∀ (x:List Int),(z0k w.sup.length g.1)[(↑(z0o w g.1 g.2.1 g.2.2.2):Int).toNat]? = some x->(z3w w g.1 g.2.1 g.2.2.2).length+(1:Nat) <= 1000000000/\(z1l w (x.headD (0:Int))/\((((z7m w x) == (↑g.2.1:Int))=true->(z3w w g.1 g.2.1 g.2.2.2 ++ [x.headD (0:Int)]).length <= (1000000:Nat)/\(∃ (g_1:List Int × Bool),RoundP w g_1.1 g_1.2/\(((True/\(true=g_1.2/\True))/\True)/\((z3w w g.1 g.2.1 g.2.2.2 ++ [x.headD (0:Int)]).reverse=g_1.1/\True))))/\(((z7m w x) == (↑g.2.1:Int))=false->∃ (g':zas),(g'.fst=g0.fst/\(g'.2.fst=g0.2.fst/\(g'.2.2.fst=g0.2.2.fst/\(g'.2.2.snd<g'.2.2.fst/\(Circ w g'.fst g'.2.fst g'.2.2.fst)))))/\(g'.2.2.fst - g'.2.2.snd<g.2.2.fst - g.2.2.snd/\((0=0/\(True/\((↑g.2.1:Int)=↑g'.2.1/\(True/\((z7m w x)=↑(z0o w g'.1 g'.2.1 g'.2.2.2)/\True)))))/\(z3w w g.1 g.2.1 g.2.2.2 ++ [x.headD (0:Int)]=z3w w g'.1 g'.2.1 g'.2.2.2/\(z0k w.sup.length g.1=z0k w.sup.length g'.1/\(z7l w w_x w_o w_t w_v)))))))))))))
theorem round20_q (w:Inst) (w_x:List Int) (w_o:List Int) (w_t:Ql.Rows3) (w_v:List Value) (ty1 ty2 ty3 ty4 ty5 tz5:TypeId):zgd w w_x w_o w_t w_v ty1 ty2 ty3 ty4 ty5 tz5=zaz TT zmm (round20_I w w_x w_o w_t w_v) (zge w w_x w_o w_t w_v) Tryz.f61 [.ptr 0 0 0 0] [(0,.box false 109 [.row 1,.row 2,.row 3,.row 4,.row 5]),(1,.row false ty1 (.ints .i64 w.sup)),(2,.row false ty2 (.arcs w.arcs)),(3,.row false ty3 (.ints .i64 w_x)),(4,.row false ty4 (.ints .i64 w_o)),(5,.deep false ty5 tz5 (.recs (.int .i64) [.bool] w_t) w_v none)] (zmn w w_x w_o w_t w_v):=by kernel_rfl
theorem round20_E (w:Inst) (w_x:List Int) (w_o:List Int) (w_t:Ql.Rows3) (w_v:List Value) (ty1 ty2 ty3 ty4 ty5 tz5:TypeId) (hp:z04 w=0):FVcR TT zmm (round20_I w w_x w_o w_t w_v) (zge w w_x w_o w_t w_v) Tryz.f61 [.ptr 0 0 0 0] [(0,.box false 109 [.row 1,.row 2,.row 3,.row 4,.row 5]),(1,.row false ty1 (.ints .i64 w.sup)),(2,.row false ty2 (.arcs w.arcs)),(3,.row false ty3 (.ints .i64 w_x)),(4,.row false ty4 (.ints .i64 w_o)),(5,.deep false ty5 tz5 (.recs (.int .i64) [.bool] w_t) w_v none)] (zmn w w_x w_o w_t w_v):=by
 refine FVcR.of (zgd w w_x w_o w_t w_v ty1 ty2 ty3 ty4 ty5 tz5) (round20_q w w_x w_o w_t w_v ty1 ty2 ty3 ty4 ty5 tz5) ?_
 unfold zgd
 delta z7m z7l zas zat
 simp only [eq_self,exists_const,forall_const,ne_eq,Int.toNat_natCast,zSS,z08]
 simp only [z7x]
 refine ⟨hp,?_⟩
 rintro ⟨d,b,e⟩ hS
 dsimp only at hS ⊢
 have hs64:=z0h hp
 have hw:∀ j:Nat,j <= 1000000->IntKind.i64.wrap ((j:Int)+1)=((j+1:Nat):Int):=fun j hj=>by rw [w64 (by omega) (by omega)]; omega
 have hyv:∀ (b:Nat->Option Stp) (v:Nat) (y:List Int),(z0k w.sup.length b)[v]? = some y->∀ s,b v=some s->okS w s->z1l w (y.headD 0)/\((y.headD 0).toNat,y.tail.headD 0 == 1)=s/\y.headD 0=(s.1:Int):=fun b v y hy s hs hok=>by
  obtain ⟨-,h2⟩:=bRow_get hy
  obtain ⟨a,c⟩:=s
  have ha:a<w.arcs.length:=hok
  subst h2
  rw [hs]
  exact ⟨⟨hp,by simp [mbS],by simp [mbS]; omega⟩,by cases c <;> simp [mbS],rfl⟩
 cases e with
 | none=>exact ⟨fun _=>⟨([],false),⟨fun h=>(by cases h),fun _=>⟨rfl,_,short_none hp hS⟩⟩,rfl,rfl⟩,fun h=>(by cases h)⟩
 | some v =>
 refine ⟨fun h=>(by cases h),fun _=>?_⟩
 have hA:=circ_a hp hS
 refine ⟨(b,v,0),⟨⟨Nat.zero_le _,hA⟩,⟨rfl,rfl⟩,rfl⟩,?_⟩
 rintro ⟨b',v',j⟩ ⟨h2,h3,hj,-⟩
 dsimp only at h2 h3 hj ⊢
 subst h2 h3
 have hlt:=z60 hp (fun u s hu hb=>hS.ok hu hb) hA.vn
 refine ⟨fun h4=>?_,fun h4=>?_⟩
 ·obtain ⟨s,hs,hok⟩:=hA.all j
  refine ⟨by have:=hlt j; omega,hlt j,fun x hx=>?_⟩
  obtain ⟨q1,q2,q3⟩:=hyv _ _ x hx s hs hok
  rw [q2]
  refine ⟨q1,(b',v',j+1),⟨rfl,rfl,by dsimp only; omega,hA⟩,by dsimp only; omega,⟨?_,hw j (by omega)⟩,rfl⟩
  dsimp only
  rw [z0o,hs]
 ·have ej:j=w.sup.length:=by omega
  subst ej
  obtain ⟨k,hC⟩:=hA.circ
  refine ⟨(b',z0o w b' v' w.sup.length,k,0),⟨⟨hC.k1,hC⟩,⟨rfl,rfl⟩,rfl,rfl⟩,?_⟩
  generalize z0o w b' v' w.sup.length=m at *
  rintro ⟨b2,m2,k2,i⟩ ⟨h5,h6,h7,hik,-⟩
  dsimp only at h5 h6 h7 hik ⊢
  subst h5 h6 h7
  obtain ⟨s,hs,hok,hend,hto⟩:=hC.all i
  have hfew:=hC.few hp
  have hli:(z3w w b2 m2 i).length=i:=by simp [z3w]
  have htl:=z5s hp hok
  rw [hto] at htl
  refine ⟨by omega,htl,fun x hx=>?_⟩
  obtain ⟨q1,q2,q3⟩:=hyv _ _ x hx s hs hok
  have e1:frS w s=z0o w b2 m2 (i+1):=by rw [z0o,hs]
  have e2:z3w w b2 m2 i ++ [x.headD 0]=z3w w b2 m2 (i+1):=by
   rw [circL_succ,q3]; unfold arcB; rw [hs]
  rw [q2,e1,e2]
  refine ⟨by omega,q1,fun h8=>⟨by simp [z3w]; omega,(_,true),⟨fun _=>?_,fun h=>(by cases h)⟩,rfl,rfl⟩,fun h8=>⟨(b2,m2,k2,i+1),⟨rfl,rfl,rfl,?_,hC⟩,by dsimp only; omega,⟨rfl,rfl⟩,rfl,rfl⟩⟩
  ·have ek:i+1=k2:=by
    apply Classical.byContradiction
    intro hne
    exact hC.not (i+1) (by omega) (by omega) (by omega)
   rw [ek]
   exact hC.turns hp
  ·dsimp only
   have:i+1 ≠ k2:=fun e=>h8 (by rw [e,hC.back])
   omega
theorem round20_ok:SpecOk Tryz.prog round20_n true (z10 true zgf) :=
 z3s z0i (show z15 Tryz.prog zmm from z00 shortE_ok (z00 z85 (z00 rev20_ok (z03)))) (by kernel_rfl) mixedOrders Tryz.func61 rfl rfl (by kernel_rfl) (n:=1) (by decide +kernel) (I:=round20_IA) (fun _ _=>z07) (A:=round20_A)
  (fun args h r hr=>by
   unfold zgf at hr
   split at hr
   ·rename_i ty1 w_s ty2 w_a ty3 w_x ty4 w_o ty5 tz5 w_t w_v; cases hr; refine ⟨rfl,fun hp=>?_⟩; have hE:=round20_E ⟨w_s,w_a⟩ w_x w_o w_t w_v ty1 ty2 ty3 ty4 ty5 tz5 hp; exact hE
   ·cases hr)
end Go.Proofs.YtggblkbecekbdaaGreat
end
section
namespace Go.Ql
open Go Go.Vc
def unN:List Bool->Nat
 | []=>0
 | b :: l=>(if b then 0 else 1)+unN l
theorem unN_set:∀ {l:List Bool} {k:Nat},l[k]? = some false->unN (l.set k true)+1=unN l
 | [],k,h=>by simp at h
 | b :: l,0,h=>by simp at h; subst h; simp [unN]; omega
 | b :: l,k+1,h=>by
  rw [List.getElem?_cons_succ] at h
  rw [List.set_cons_succ,unN,unN]
  have:=unN_set h
  omega
def z3y (l:List Nat):List Int:=l.map Int.ofNat
theorem zhz (l:List Nat):(z3y l).length=l.length:=by simp [z3y]
theorem natI_get {l:List Nat} {k:Nat} {x:Int} (h:(z3y l)[k]? = some x):∃ v,l[k]? = some v/\x=(v:Int):=by
 unfold z3y at h
 rw [List.getElem?_map] at h
 obtain ⟨v,h1,rfl⟩:=Option.map_eq_some_iff.1 h
 exact ⟨v,h1,rfl⟩
theorem natI_snoc (l:List Nat) (v:Nat):z3y (l ++ [v])=z3y l ++ [(v:Int)]:=by simp [z3y]
def zhh (o:List Int) (n k:Nat):List Bool:=(List.range n).map fun v=>decide (v<k) && decide (0<o.getD v 0)
def layK (o:List Int) (k:Nat):List Nat:=(List.range k).filter fun v=>decide (0<o.getD v 0)
theorem metK_len (o:List Int) (n k:Nat):(zhh o n k).length=n:=by simp [zhh]
theorem metK_get {o:List Int} {n k v:Nat} (h:v<n):(zhh o n k).getD v false=(decide (v<k) && decide (0<o.getD v 0)):=by
 unfold zhh
 rw [List.getD_eq_getElem?_getD,List.getElem?_map,List.getElem?_range h]; rfl
theorem metK_zero (o:List Int) (n:Nat):List.replicate n false=zhh o n 0:=by
 refine List.ext_getElem? fun t=>?_
 unfold zhh
 by_cases h:t<n
 ·rw [List.getElem?_map,List.getElem?_range h,List.getElem?_replicate]; simp [h]
 ·rw [List.getElem?_eq_none (by simp; omega),List.getElem?_eq_none (by simp; omega)]
theorem metK_yes {o:List Int} {n k:Nat} (h:0<o.getD k 0):(zhh o n k).set k true=zhh o n (k+1):=by
 refine List.ext_getElem? fun t=>?_
 unfold zhh
 rw [List.getElem?_set]
 simp only [List.length_map,List.length_range]
 by_cases hn:t<n
 ·rw [List.getElem?_map,List.getElem?_map,List.getElem?_range hn]
  by_cases e:k=t
  ·subst e; rw [if_pos rfl,if_pos hn]; simp only [Option.map_some,decide_eq_true h,Bool.and_true,decide_eq_true (Nat.lt_succ_self k)]
  ·rw [if_neg e]
   have:(t<k+1)=(t<k):=propext (by omega)
   simp [this]
 ·rw [List.getElem?_eq_none (by simp; omega),List.getElem?_eq_none (by simp; omega)]
  split
  ·rw [if_neg (by omega)]
  ·rfl
theorem metK_no {o:List Int} {n k:Nat} (h:¬ 0<o.getD k 0):zhh o n k=zhh o n (k+1):=by
 unfold zhh
 refine List.map_congr_left fun t _=>?_
 by_cases e:t=k
 ·subst e; simp [h,-List.getD_eq_getElem?_getD]
 ·have:(t<k+1)=(t<k):=propext (by omega)
  simp [this]
theorem layK_yes {o:List Int} {k:Nat} (h:0<o.getD k 0):layK o (k+1)=layK o k ++ [k]:=by
 unfold layK
 rw [List.range_succ,List.filter_append,List.filter_cons,if_pos (decide_eq_true h)]; rfl
theorem layK_no {o:List Int} {k:Nat} (h:¬ 0<o.getD k 0):layK o (k+1)=layK o k:=by
 unfold layK
 rw [List.range_succ,List.filter_append,List.filter_cons,if_neg (by simpa using h)]; simp
theorem layK_mem {o:List Int} {k v:Nat}:v ∈ layK o k ↔ v<k/\0<o.getD v 0:=by
 unfold layK
 rw [List.mem_filter,List.mem_range,decide_eq_true_eq]
structure AtOk (I:Inst) (t:List (List (List Int))):Prop where
 len:t.length=I.sup.length
 at_:∀ u,u<I.sup.length->∃ l:List Stp,t[u]? = some (l.map z63)/\l.length <= 1000/\∀ s,s ∈ l ↔ okS I s/\frS I s=u
structure SeI (I:Inst) (x o:List Int) (m:List Bool) (b:Nat->Option Stp) (pend:Stp->Prop):Prop where
 lm:m.length=I.sup.length
 st:∀ v,v<I.sup.length->0<o.getD v 0->m.getD v false=true
 no:∀ v,v<I.sup.length->m.getD v false=true->b v=none->0<o.getD v 0
 un:∀ v,v<I.sup.length->m.getD v false=false->b v=none
 by_:∀ v s,v<I.sup.length->b v=some s->okS I s/\toS I s=v/\0<rmS I x s/\m.getD (frS I s) false=true
 tree:∃ ρ:Nat->Nat,∀ v s,v<I.sup.length->b v=some s->ρ (frS I s)<ρ v
 cl:∀ s,okS I s->0<rmS I x s->m.getD (frS I s) false=true->m.getD (toS I s) false=true ∨ pend s
def SeG (I:Inst) (o:List Int) (m:List Bool):Prop:=∀ v,v<I.sup.length->m.getD v false=true->0 <= o.getD v 0
theorem SeI.begin (I:Inst) (x o:List Int) (ho:o.length=I.sup.length) (hr:z04 I=0):SeI I x o (zhh o I.sup.length I.sup.length) (fun _=>none) (fun s=>frS I s ∈ layK o I.sup.length)/\SeG I o (zhh o I.sup.length I.sup.length):=by
 have hg:∀ v,v<I.sup.length->((zhh o I.sup.length I.sup.length).getD v false=true ↔ 0<o.getD v 0):=fun v hv=>by
  rw [metK_get hv,decide_eq_true hv,Bool.true_and,decide_eq_true_eq]
 refine ⟨⟨metK_len _ _ _,fun v hv h=>(hg v hv).2 h,fun v hv h _=>(hg v hv).1 h,fun _ _ _=>rfl,fun v s _ h=>absurd h (by simp),⟨fun _=>0,fun v s _ h=>absurd h (by simp)⟩,fun s hs _ hm=>.inr ?_⟩,fun v hv h=>by have:=(hg v hv).1 h; omega⟩
 have hf:=z33 hr hs
 exact layK_mem.2 ⟨hf,(hg _ hf).1 hm⟩
theorem SeI.skip {I:Inst} {x o:List Int} {m:List Bool} {b:Nat->Option Stp} {pend pend':Stp->Prop} (h:SeI I x o m b pend) (hp:∀ s,okS I s->pend s->m.getD (toS I s) false=true ∨ ¬ 0<rmS I x s ∨ pend' s):SeI I x o m b pend' :=
 { h with cl:=fun s h1 h2 h3=>(h.cl s h1 h2 h3).elim .inl fun h4=>(hp s h1 h4).elim .inl fun h5=>h5.elim (fun h6=>absurd h2 h6) .inr }
theorem zav {m:List Bool} {k v:Nat} (hk:k<m.length):(m.set k true).getD v false=if v=k then true else m.getD v false:=by
 rw [List.getD_eq_getElem?_getD,List.getElem?_set]
 by_cases e:k=v
 ·subst e; simp [hk]
 ·rw [if_neg e,if_neg (fun h=>e h.symm),List.getD_eq_getElem?_getD]
theorem SeI.take {I:Inst} (hr:z04 I=0) {x o:List Int} {m:List Bool} {b:Nat->Option Stp} {pend pend':Stp->Prop} (h:SeI I x o m b pend) {t:Stp} (ht:okS I t) (hf:m.getD (frS I t) false=true) (hm:m.getD (toS I t) false=false) (hrm:0<rmS I x t)
  (hp:∀ s,pend s->s=t ∨ pend' s) (hq:∀ s,frS I s=toS I t->pend' s):SeI I x o (m.set (toS I t) true) (fun v=>if v=toS I t then some t else b v) pend':=by
 have hlt:=z5s hr ht
 have hg:∀ v,(m.set (toS I t) true).getD v false=if v=toS I t then true else m.getD v false:=fun v=>zav (by rw [h.lm]; exact hlt)
 have hfne:frS I t ≠ toS I t:=fun e=>by rw [e,hm] at hf; cases hf
 obtain ⟨ρ,hρ⟩:=h.tree
 refine ⟨by rw [List.length_set]; exact h.lm,fun v hv h1=>?_,fun v hv h1 h2=>?_,fun v hv h1=>?_,fun v s hv h1=>?_,⟨fun v=>if v=toS I t then ρ (frS I t)+1 else ρ v,fun v s hv h1=>?_⟩,fun s h1 h2 h3=>?_⟩
 ·rw [hg]; split
  ·rfl
  ·exact h.st v hv h1
 ·try dsimp only at h2
  split at h2
  ·cases h2
  ·rename_i hne
   rw [hg,if_neg hne] at h1
   exact h.no v hv h1 h2
 ·rw [hg] at h1
  split at h1
  ·cases h1
  ·rename_i hne
   try dsimp only
   rw [if_neg hne]; exact h.un v hv h1
 ·try dsimp only at h1
  split at h1
  ·rename_i he
   cases h1
   refine ⟨ht,he.symm,hrm,?_⟩
   rw [hg,if_neg hfne]; exact hf
  ·obtain ⟨q1,q2,q3,q4⟩:=h.by_ v s hv h1
   refine ⟨q1,q2,q3,?_⟩
   rw [hg]; split
   ·rfl
   ·exact q4
 ·try dsimp only at h1 ⊢
  split at h1
  ·rename_i he
   cases h1
   rw [if_neg hfne,if_pos he]
   exact Nat.lt_succ_self _
  ·rename_i hne
   obtain ⟨q1,q2,q3,q4⟩:=h.by_ v s hv h1
   have:frS I s ≠ toS I t:=fun e=>by rw [e,hm] at q4; cases q4
   rw [if_neg this,if_neg hne]
   exact hρ v s hv h1
 ·by_cases e:frS I s=toS I t
  ·exact .inr (hq s e)
  ·rw [hg,if_neg e] at h3
   rcases h.cl s h1 h2 h3 with h4 | h4
   ·left; rw [hg]; split
    ·rfl
    ·exact h4
   ·rcases hp s h4 with rfl | h5
    ·left; rw [hg,if_pos rfl]
    ·exact .inr h5
theorem SeG.take {I:Inst} {o:List Int} {m:List Bool} (h:SeG I o m) {k:Nat} (hk:k<m.length) (ho:0 <= o.getD k 0):SeG I o (m.set k true):=fun v hv hm=>by
 rw [zav hk] at hm
 split at hm
 ·rename_i e; rw [e]; exact ho
 ·exact h v hv hm
theorem tree_rank {I:Inst} (hr:z04 I=0) {b:Nat->Option Stp} {ρ:Nat->Nat} (hT:Tree I b ρ):∃ ρ':Nat->Nat,Tree I b ρ'/\∀ v,v<I.sup.length->ρ' v<I.sup.length:=by
 have hok:∀ v s,v<I.sup.length->b v=some s->okS I s:=fun v s hv hs=>(hT v s hv hs).1
 have hlt:=fun (v:Nat) (hv:v<I.sup.length) (k:Nat)=>z60 hr hok hv k
 have hdown:∀ v,v<I.sup.length->∀ k,(∀ i,i<k->∃ s,b (z0o I b v i)=some s)->ρ (z0o I b v k)+k <= ρ v:=fun v hv k=>by
  induction k with
  | zero=>intro _; exact Nat.le_refl _
  | succ k ih =>
   intro h
   have h1:=ih fun i hi=>h i (by omega)
   obtain ⟨s,hs⟩:=h k (by omega)
   have h2:=(hT _ s (hlt v hv k) hs).2.2
   have en:z0o I b v (k+1)=frS I s:=by rw [z0o,hs]
   rw [en]; omega
 have hend:∀ v,v<I.sup.length->∃ k,k<I.sup.length/\b (z0o I b v k)=none:=fun v hv=>by
  apply Classical.byContradiction
  intro hn
  have hall:∀ k,k<I.sup.length->∃ s,b (z0o I b v k)=some s:=fun k hk=>by
   cases hb:b (z0o I b v k) with
   | none=>exact absurd ⟨k,hk,hb⟩ hn
   | some s=>exact ⟨s,rfl⟩
  obtain ⟨i,j,hij,hj,he⟩:=pigeon (n:=I.sup.length) (fun k=>z0o I b v k) fun k _=>hlt v hv k
  try dsimp only at he
  have h1:=hdown (z0o I b v i) (hlt v hv i) (j - i) fun k hk=>by rw [<- z3d]; exact hall _ (by omega)
  rw [<- z3d,show i+(j - i)=j by omega,<- he] at h1
  omega
 refine ⟨fun v=>zc5 I b I.sup.length v,fun v s hv hs=>⟨(hT v s hv hs).1,(hT v s hv hs).2.1,?_⟩,fun v hv=>?_⟩
 ·obtain ⟨k,hk,hb⟩:=hend v hv
  cases k with
  | zero=>simp only [z0o] at hb; rw [hs] at hb; cases hb
  | succ k =>
   have e1:=(z6l (k+1) I.sup.length v hb (by omega)).1
   have hb2:=hb
   rw [zk1 hs] at hb2
   have e2:=(z6l k I.sup.length (frS I s) hb2 (by omega)).1
   show zc5 I b I.sup.length (frS I s)<zc5 I b I.sup.length v
   rw [e1,e2,zc5,hs]
   exact Nat.lt_succ_self _
 ·obtain ⟨k,hk,hb⟩:=hend v hv
  have:=z6l k I.sup.length v hb (by omega)
  try dsimp only
  omega
structure SearchP (I:Inst) (x o:List Int) (m:List Bool) (b:Nat->Option Stp) (e:Option Nat):Prop where
 lm:m.length=I.sup.length
 no:e=none->(∀ s,okS I s->0<rmS I x s->m.getD (frS I s) false=true->m.getD (toS I s) false=true)/\(∀ v,v<I.sup.length->0<o.getD v 0->m.getD v false=true)/\SeG I o m/\∀ v,v<I.sup.length->m.getD v false=true->∃ r,r<I.sup.length/\0<o.getD r 0
 yes:∀ v,e=some v->v<I.sup.length/\o.getD v 0<0/\(∃ ρ,Tree I b ρ/\∀ v,v<I.sup.length->ρ v<I.sup.length)/\1 <= o.getD (z19 I b I.sup.length v) 0/\∀ s ∈ z1x I b I.sup.length v,1 <= rmS I x s
theorem SeI.root {I:Inst} (hr:z04 I=0) {x o:List Int} {m:List Bool} {b:Nat->Option Stp} {pend:Stp->Prop} (h:SeI I x o m b pend):(∃ ρ,Tree I b ρ/\∀ v,v<I.sup.length->ρ v<I.sup.length)/\∀ v,v<I.sup.length->m.getD v false=true->z19 I b I.sup.length v<I.sup.length/\1 <= o.getD (z19 I b I.sup.length v) 0/\∀ s ∈ z1x I b I.sup.length v,1 <= rmS I x s:=by
 obtain ⟨ρ,hρ⟩:=h.tree
 have hT0:Tree I b ρ:=fun v s hv hs=>⟨(h.by_ v s hv hs).1,(h.by_ v s hv hs).2.1,hρ v s hv hs⟩
 obtain ⟨ρ',hT,hd⟩:=tree_rank hr hT0
 refine ⟨⟨ρ',hT,hd⟩,fun v hv hm=>?_⟩
 have hroot:∀ (f v:Nat),v<I.sup.length->m.getD v false=true->m.getD (z19 I b f v) false=true:=fun f=>by
  induction f with
  | zero=>intro v _ hm; exact hm
  | succ f ih =>
   intro v hv hm
   rw [z19]
   cases hb:b v with
   | none=>exact hm
   | some s =>
    obtain ⟨q1,q2,q3,q4⟩:=h.by_ v s hv hb
    exact ih _ (z33 hr q1) q4
 obtain ⟨-,-,h3,h4⟩:=zeg hr hT I.sup.length v hv (hd _ hv)
 refine ⟨h4,?_,fun s hs=>?_⟩
 ·have:=h.no _ h4 (hroot _ v hv hm) h3
  omega
 ·obtain ⟨q1,q2,-⟩:=zef hr hT _ v hv s hs
  have:=(h.by_ _ s (z5s hr q1) q2).2.2.1
  omega
theorem SeI.end_ {I:Inst} (hr:z04 I=0) {x o:List Int} {m:List Bool} {b:Nat->Option Stp} {pend:Stp->Prop} (h:SeI I x o m b pend) (hg:SeG I o m) (hp:∀ s,okS I s->¬ pend s):SearchP I x o m b none:=by
 refine ⟨h.lm,fun _=>⟨fun s h1 h2 h3=>(h.cl s h1 h2 h3).resolve_right (hp s h1),h.st,hg,fun v hv hm=>?_⟩,fun v hv=>(by cases hv)⟩
 obtain ⟨q1,q2,-⟩:=(h.root hr).2 v hv hm
 exact ⟨_,q1,by omega⟩
theorem SeI.hit {I:Inst} (hr:z04 I=0) {x o:List Int} {m:List Bool} {b:Nat->Option Stp} {pend:Stp->Prop} (h:SeI I x o m b pend) {t:Stp} (ht:okS I t) (hf:m.getD (frS I t) false=true) (hm:m.getD (toS I t) false=false) (hrm:0<rmS I x t) (ho:o.getD (toS I t) 0<0) :
  SearchP I x o (m.set (toS I t) true) (fun v=>if v=toS I t then some t else b v) (some (toS I t)):=by
 have hlt:=z5s hr ht
 have h2:=h.take hr (pend':=fun _=>True) ht hf hm hrm (fun _ _=>.inr trivial) (fun _ _=>trivial)
 refine ⟨h2.lm,fun h=>(by cases h),fun v hv=>?_⟩
 cases hv
 obtain ⟨q1,q2⟩:=h2.root hr
 obtain ⟨q3,q4,q5⟩:=q2 _ hlt (by rw [zav (by rw [h.lm]; exact hlt),if_pos rfl])
 exact ⟨hlt,ho,q1,q4,q5⟩
structure FillI (I:Inst) (x o:List Int):Prop where
 inv:∃ B,NInv I x o B/\0 <= B/\B+z4n o I.sup.length <= 144115188075855872
structure FillP (I:Inst) (x o:List Int) (m:List Bool) (f:Bool):Prop where
 inv:FillI I x o
 yes:f=true->z1z I m=0
 no:f=false->m=[]/\z0v I x=0
theorem fill_more {I:Inst} (hr:z04 I=0) {x o:List Int} (h:FillI I x o) {m:List Bool} {b:Nat->Option Stp} {v:Nat} (hS:SearchP I x o m b (some v)) :
  AlOk I x o (z0k I.sup.length b) (v:Int)/\FillI I (z2s x (alL I (z0k I.sup.length b) v) (alU I x o (z0k I.sup.length b) v)) (z21 I o (alL I (z0k I.sup.length b) v) (alU I x o (z0k I.sup.length b) v)) /\
  (z4n (z21 I o (alL I (z0k I.sup.length b) v) (alU I x o (z0k I.sup.length b) v)) I.sup.length).toNat<(z4n o I.sup.length).toNat:=by
 obtain ⟨B,hN,hB,hb⟩:=h.inv
 have hps:=z1v o I.sup.length
 obtain ⟨hv,ho,⟨ρ,hT,hρ⟩,h1,h2⟩:=hS.yes v rfl
 obtain ⟨A,hU,-,-⟩:=al_ok hr hN (by omega) (by omega) hT hρ hv (L:=1) (by omega) h1 (by omega) h2
 obtain ⟨q1,q2,-⟩:=al_does hN hB A hU
 have hps2:=z1v (z21 I o (alL I (z0k I.sup.length b) v) (alU I x o (z0k I.sup.length b) v)) I.sup.length
 refine ⟨A,⟨⟨_,q1,by omega,by omega⟩⟩,by omega⟩
theorem getD_true {m:List Bool} {v:Nat} (h:m.getD v false=true):v<m.length/\true ∈ m:=by
 rw [List.getD_eq_getElem?_getD] at h
 cases e:m[v]? with
 | none=>rw [e] at h; cases h
 | some c =>
  rw [e] at h
  have:c=true:=h
  subst this
  exact ⟨(List.getElem?_eq_some_iff.1 e).1,List.mem_of_getElem? e⟩
theorem fill_end {I:Inst} (hr:z04 I=0) {x o:List Int} (h:FillI I x o) {m:List Bool} {b:Nat->Option Stp} (hS:SearchP I x o m b none):(m.contains true=true->FillP I x o m true)/\(¬ m.contains true=true->FillP I x o [] false):=by
 obtain ⟨B,hN,-,-⟩:=id h.inv
 obtain ⟨h1,h2,h3,h4⟩:=hS.no rfl
 refine ⟨fun hc=>⟨h,fun _=>?_,fun h=>(by cases h)⟩,fun hc=>⟨h,fun h=>(by cases h),fun _=>⟨rfl,?_⟩⟩⟩
 ·rw [List.contains_iff_mem] at hc
  obtain ⟨v,hv⟩:=List.mem_iff_getElem?.1 hc
  have hvl:=(List.getElem?_eq_some_iff.1 hv).1
  rw [hS.lm] at hvl
  obtain ⟨r,hrl,hro⟩:=h4 v hvl (by rw [List.getD_eq_getElem?_getD,hv]; rfl)
  refine zni hr hN.over hN.betw hS.lm h1 ?_
  have:∀ k,k <= I.sup.length->0 <= z1o (fun w=>if m.getD w false then o.getD w 0 else 0) k/\(r<k->0<z1o (fun w=>if m.getD w false then o.getD w 0 else 0) k):=by
   intro k
   induction k with
   | zero=>intro _; exact ⟨Int.le_refl _,fun h=>absurd h (Nat.not_lt_zero _)⟩
   | succ k ih =>
    intro hk
    obtain ⟨i1,i2⟩:=ih (by omega)
    have hnn:0 <= (if m.getD k false then o.getD k 0 else 0):=by
     split
     ·rename_i hm; exact h3 k (by omega) hm
     ·omega
    rw [z1o]
    refine ⟨by omega,fun hvk=>?_⟩
    by_cases e:r=k
    ·subst e
     rw [if_pos (h2 r hrl hro)]
     omega
    ·have:=i2 (by omega); omega
  exact (this _ (Nat.le_refl _)).2 hrl
 ·refine fits_over hr hN.over hN.betw (over_zero hr hN.over fun v hv=>?_)
  apply Int.le_of_not_gt
  intro hlt
  exact hc (List.contains_iff_mem.2 (getD_true (h2 v hv hlt)).2)
theorem FillI.xb {I:Inst} {x o:List Int} (h:FillI I x o):YB x:=by
 obtain ⟨B,hN,hB,hb⟩:=h.inv
 have hps:=z1v o I.sup.length
 exact yb_of fun i hi=>by have:=hN.bd i (by rw [<- hN.over.lx]; exact hi); omega
theorem FillI.ob {I:Inst} {x o:List Int} (hr:z04 I=0) (h:FillI I x o):YB o:=by
 obtain ⟨B,hN,hB,hb⟩:=h.inv
 have hps:=z1v o I.sup.length
 exact yb_of fun k hk=>by have:=over_bd hr hN.over (v:=k) (by rw [<- hN.over.lo]; exact hk); omega
structure LayI (I:Inst) (x o:List Int) (m:List Bool) (b:Nat->Option Stp) (L X:List Nat) (p:Stp->Prop):Prop where
 i:SeI I x o m b (fun s=>frS I s ∈ L ∨ frS I s ∈ X ∨ p s)
 g:SeG I o m
 l:∀ v ∈ L,v<I.sup.length/\m.getD v false=true
 x:∀ v ∈ X,v<I.sup.length/\m.getD v false=true
theorem unN_le:∀ l:List Bool,unN l <= l.length
 | []=>Nat.le_refl _
 | b :: l=>by rw [unN,List.length_cons]; have:=unN_le l; split <;> omega
section
variable {I:Inst} {x o:List Int} {m:List Bool} {b:Nat->Option Stp}
theorem layK_le (o:List Int) (k:Nat):(layK o k).length <= k:=by unfold layK; exact Nat.le_trans (List.length_filter_le _ _) (by simp)
theorem LayI.begin (hr:z04 I=0) (ho:o.length=I.sup.length):LayI I x o (zhh o I.sup.length I.sup.length) (fun _=>none) (layK o I.sup.length) [] (fun _=>False):=by
 obtain ⟨h1,h2⟩:=SeI.begin I x o ho hr
 refine ⟨h1.skip fun s _ h=>.inr (.inr (.inl h)),h2,fun v hv=>?_,fun v hv=>by simp at hv⟩
 obtain ⟨q1,q2⟩:=layK_mem.1 hv
 exact ⟨q1,h1.st v q1 q2⟩
theorem LayI.node {L X:List Nat} {i v:Nat} {l:List Stp} (h:LayI I x o m b (L.drop i) X (fun _=>False)) (hv:L[i]? = some v) (hl:∀ s,s ∈ l ↔ okS I s/\frS I s=v) :
  LayI I x o m b (L.drop (i+1)) X (fun s=>s ∈ l.drop 0)/\∀ s ∈ l,okS I s/\m.getD (frS I s) false=true:=by
 have hd:L.drop i=v :: L.drop (i+1):=z4b hv
 rw [hd] at h
 have hv2:=h.l v (by simp)
 refine ⟨⟨h.i.skip fun s hs hp=>?_,h.g,fun u hu=>h.l u (by simp [hu]),h.x⟩,fun s hs=>?_⟩
 ·rcases hp with hp | hp | hp
  ·rcases List.mem_cons.1 hp with e | hp
   ·exact .inr (.inr (.inr (.inr (by rw [List.drop_zero]; exact (hl s).2 ⟨hs,e⟩))))
   ·exact .inr (.inr (.inl hp))
  ·exact .inr (.inr (.inr (.inl hp)))
  ·exact hp.elim
 ·obtain ⟨q1,q2⟩:=(hl s).1 hs
  exact ⟨q1,by rw [q2]; exact hv2.2⟩
theorem LayI.close {L X:List Nat} {l:List Stp} {j:Nat} (h:LayI I x o m b L X (fun s=>s ∈ l.drop j)) (hj:l.length <= j):LayI I x o m b L X (fun _=>False) :=
 ⟨h.i.skip fun s _ hp=>by rw [List.drop_eq_nil_of_le hj] at hp; exact .inr (.inr (hp.imp id (.imp id fun h=>by simp at h))),h.g,h.l,h.x⟩
theorem LayI.pass {L X:List Nat} {l:List Stp} {j:Nat} {t:Stp} (h:LayI I x o m b L X (fun s=>s ∈ l.drop j)) (ht:l[j]? = some t) (hp:m.getD (toS I t) false=true ∨ ¬ 0<rmS I x t):LayI I x o m b L X (fun s=>s ∈ l.drop (j+1)):=by
 have hd:l.drop j=t :: l.drop (j+1):=z4b ht
 refine ⟨h.i.skip fun s _ h2=>?_,h.g,h.l,h.x⟩
 rcases h2 with h2 | h2 | h2
 ·exact .inr (.inr (.inl h2))
 ·exact .inr (.inr (.inr (.inl h2)))
 ·rw [hd] at h2
  rcases List.mem_cons.1 h2 with e | h2
  ·subst e; rcases hp with hp | hp
   ·exact .inl hp
   ·exact .inr (.inl hp)
  ·exact .inr (.inr (.inr (.inr h2)))
theorem LayI.take (hr:z04 I=0) {L X:List Nat} {l:List Stp} {j:Nat} {t:Stp} (h:LayI I x o m b L X (fun s=>s ∈ l.drop j)) (ht:l[j]? = some t) (hok:okS I t) (hf:m.getD (frS I t) false=true) (hm:m.getD (toS I t) false=false) (hrm:0<rmS I x t) (ho:0 <= o.getD (toS I t) 0) :
  LayI I x o (m.set (toS I t) true) (fun v=>if v=toS I t then some t else b v) L (X ++ [toS I t]) (fun s=>s ∈ l.drop (j+1)):=by
 have hd:l.drop j=t :: l.drop (j+1):=z4b ht
 have hlt:=z5s hr hok
 have hml:toS I t<m.length:=by rw [h.i.lm]; exact hlt
 have hset:∀ v,m.getD v false=true->(m.set (toS I t) true).getD v false=true:=fun v hv=>by
  rw [zav hml]; split
  ·rfl
  ·exact hv
 refine ⟨h.i.take hr hok hf hm hrm (fun s h2=>?_) (fun s e=>.inr (.inl (by rw [e]; simp))),h.g.take hml ho,fun v hv=>⟨(h.l v hv).1,hset v (h.l v hv).2⟩,fun v hv=>?_⟩
 ·rcases h2 with h2 | h2 | h2
  ·exact .inr (.inl h2)
  ·exact .inr (.inr (.inl (by simp [h2])))
  ·rw [hd] at h2
   rcases List.mem_cons.1 h2 with e | h2
   ·exact .inl e
   ·exact .inr (.inr (.inr h2))
 ·rcases List.mem_append.1 hv with hv | hv
  ·exact ⟨(h.x v hv).1,hset v (h.x v hv).2⟩
  ·simp at hv
   subst hv
   exact ⟨hlt,by rw [zav hml,if_pos rfl]⟩
theorem LayI.next {L X:List Nat} {i:Nat} (h:LayI I x o m b (L.drop i) X (fun _=>False)) (hi:L.length <= i):LayI I x o m b X [] (fun _=>False):=by
 rw [List.drop_eq_nil_of_le hi] at h
 refine ⟨h.i.skip fun s _ h2=>?_,h.g,h.x,fun v hv=>by simp at hv⟩
 rcases h2 with h2 | h2 | h2
 ·simp at h2
 ·exact .inr (.inr (.inl h2))
 ·exact h2.elim
theorem LayI.end_ (hr:z04 I=0) (h:LayI I x o m b [] [] (fun _=>False)):SearchP I x o m b none:=by
 refine h.i.end_ hr h.g fun s _ h2=>?_
 rcases h2 with h2 | h2 | h2
 ·simp at h2
 ·simp at h2
 ·exact h2
end
def z0m (i s:List Int) (n:Int) (w:Nat):List Int:=(i.take (s.getD (2 * n.toNat+w+1) 0).toNat).drop (s.getD (2 * n.toNat+w) 0).toNat
structure PieceOk (gn:Int) (i s:List Int) (n:Int) (w:Nat):Prop where
 n0:0 <= n
 n1:n<gn
 gn1:gn <= 10000
 il:i.length <= 1000000000
 sl:2 * n.toNat+w+1<s.length
 a:0 <= s.getD (2 * n.toNat+w) 0
 b:s.getD (2 * n.toNat+w) 0 <= s.getD (2 * n.toNat+w+1) 0
 c:s.getD (2 * n.toNat+w+1) 0 <= i.length
end Go.Ql
end
section
namespace Go.Proofs.YtggblkbecekbdaaGreat
open Go Go.RowKit Go.Ql Go.Vc
def idxB (l:List Bool) (v:Bool):Int:=if v ∈ l then (l.findIdx (· == v):Nat) else -1
def idx20_r (l:List Bool) (v:Bool):FRes:={ pre:=l.length <= 1000000,res:=.int .i64 (idxB l v),rows:=[],eff:=[] }
def idx20_fs:FS:=fun args h=>match args,h with
 | [.row 0,.bool v],[(0,.row false ty0 (.bools l))]=>some (idx20_r l v)
 | _,_=>none
def idx20_an (l:List Bool) (v:Bool):List (Nat × Ann):=[(2,{ G:=(Nat),inv:=fun k=>⟨[(0,.row 0),(1,.bool v),(7,.int .i64 (↑l.length:Int)),(8,.int .i64 k)],[(0,.row false 0 (.bools l))],1⟩,rel:=fun k0 k=>k <= l.length/\v ∉ l.take k,meas:=fun k=>l.length - k })]
def idx20_A:List SV->z0d->List (Nat × Ann):=fun args h=>match args,h with
 | [.row 0,.bool v],[(0,.row false ty0 (.bools l))]=>idx20_an l v
 | _,_=>[]
def idx20_g:z0c:=[]
abbrev idx20_n:Nat:=152
def idx20_I (l:List Bool) (v:Bool):List (Nat × z0a):=[]
def idx20_IA:List SV->z0d->List (Nat × z0a):=fun _ _=>[]
def z96 (l:List Bool) (v:Bool):FRes:={ pre:=l.length <= 1000000,res:=.bool (l.contains v),rows:=[],eff:=[] }
def z82:FS:=fun args h=>match args,h with
 | [.row 0,.bool v],[(0,.row false ty0 (.bools l))]=>some (z96 l v)
 | _,_=>none
def zcs (l:List Bool) (v:Bool):List (Nat × Ann):=[]
def contains20_A:List SV->z0d->List (Nat × Ann):=fun _ _=>[]
def z95:z0c:=[(idx20_n,(true,z02 true idx20_fs))]
abbrev zgw:Nat:=103
def zgv (l:List Bool) (v:Bool):List (Nat × z0a):=[]
def contains20_IA:List SV->z0d->List (Nat × z0a):=fun _ _=>[]
def zgh (w:Inst) (w_x:List Int) (w_o:List Int) (w_t:Ql.Rows3) (w_v:List Value):FRel:={ pre:=z04 w=0/\w_x.length=w.arcs.length/\w_o.length=w.sup.length/\XB w_x/\Betw w w_x/\AtOk w w_t,G:=(List Bool) × (Nat->Option Stp) × (Option Nat),post:=fun ⟨m,b,e⟩=>SearchP w w_x w_o m b e,out:=fun ⟨m,b,e⟩=>{ pre:=True,res:=.tup [.row 6,.row 7,.agg [.int .i64 (e.getD 0:Nat),.bool e.isSome]],rows:=[.row 4 (.bools m),.row 165 (.recs (.int .i64) [.bool,.bool] (z0k w.sup.length b))],eff:=[] } }
def zcg:FR:=fun args h=>match args,h with
 | [.ptr 0 0 0 0],[(0,.box false 109 [.row 1,.row 2,.row 3,.row 4,.row 5]),(1,.row false ty1 (.ints .i64 w_s)),(2,.row false ty2 (.arcs w_a)),(3,.row false ty3 (.ints .i64 w_x)),(4,.row false ty4 (.ints .i64 w_o)),(5,.deep false ty5 tz5 (.recs (.int .i64) [.bool] w_t) w_v none)]=>some (zgh ⟨w_s,w_a⟩ w_x w_o w_t w_v)
 | _,_=>none
def zcf (w:Inst) (w_x:List Int) (w_o:List Int) (w_t:Ql.Rows3) (w_v:List Value):List (Nat × Ann):=[(6,{ G:=(Nat),inv:=fun k=>⟨[(0,.ptr 0 0 0 0),(4,.ptr 8 0 0 0),(5,.row 9),(6,.row 10),(7,.ptr 11 0 0 0),(8,.row 12),(35,.row 4),(36,.int .i64 (w_o.length:Int)),(37,.int .i64 k)],[(12,.row true 3 (.ints .i64 (z3y (layK w_o k)))),(11,.box true 152 [.int .i64 (0:Int),SV.ff]),(10,.row true 165 (.recs (.int .i64) [.bool,.bool] (z0k w.sup.length fun _=>none))),(9,.row true 4 (.bools (zhh w_o w.sup.length k))),(8,.box true 152 [.int .i64 (0:Int),SV.ff]),(0,.box false 109 [.row 1,.row 2,.row 3,.row 4,.row 5]),(1,.row false 0 (.ints .i64 w.sup)),(2,.row false 0 (.arcs w.arcs)),(3,.row false 0 (.ints .i64 w_x)),(4,.row false 0 (.ints .i64 w_o)),(5,.deep false 0 0 (.recs (.int .i64) [.bool] w_t) w_v none)],13⟩,rel:=fun k0 k=>k <= w.sup.length,meas:=fun k=>w.sup.length - k }),
 (12,{ G:=(List Bool) × (Nat->Option Stp) × (List Nat),inv:=fun ⟨m,b,L⟩=>⟨[(0,.ptr 0 0 0 0),(4,.ptr 8 0 0 0),(5,.row 9),(6,.row 10),(7,.ptr 11 0 0 0),(8,.row 12)],[(12,.row true 3 (.ints .i64 (z3y L))),(11,.box true 152 [.int .i64 (0:Int),SV.ff]),(10,.row true 165 (.recs (.int .i64) [.bool,.bool] (z0k w.sup.length b))),(9,.row true 4 (.bools m)),(8,.box true 152 [.int .i64 (0:Int),SV.ff]),(0,.box false 109 [.row 1,.row 2,.row 3,.row 4,.row 5]),(1,.row false 0 (.ints .i64 w.sup)),(2,.row false 0 (.arcs w.arcs)),(3,.row false 0 (.ints .i64 w_x)),(4,.row false 0 (.ints .i64 w_o)),(5,.deep false 0 0 (.recs (.int .i64) [.bool] w_t) w_v none)],13⟩,rel:=fun ⟨m0,b0,L0⟩ ⟨m,b,L⟩=>LayI w w_x w_o m b L [] (fun _=>False)/\L.length <= w.sup.length,meas:=fun ⟨m,b,L⟩=>2 * unN m+L.length.min 1 }),
 (15,{ G:=(List Bool) × (Nat->Option Stp) × (List Nat) × (List Nat) × (Nat),inv:=fun ⟨m,b,L,X,i⟩=>⟨[(0,.ptr 0 0 0 0),(4,.ptr 8 0 0 0),(5,.row 9),(6,.row 10),(7,.ptr 11 0 0 0),(11,.row 13),(55,.row 12),(56,.int .i64 (L.length:Int)),(57,.int .i64 i)],[(13,.row true 3 (.ints .i64 (z3y X))),(12,.row true 3 (.ints .i64 (z3y L))),(11,.box true 152 [.int .i64 (0:Int),SV.ff]),(10,.row true 165 (.recs (.int .i64) [.bool,.bool] (z0k w.sup.length b))),(9,.row true 4 (.bools m)),(8,.box true 152 [.int .i64 (0:Int),SV.ff]),(0,.box false 109 [.row 1,.row 2,.row 3,.row 4,.row 5]),(1,.row false 0 (.ints .i64 w.sup)),(2,.row false 0 (.arcs w.arcs)),(3,.row false 0 (.ints .i64 w_x)),(4,.row false 0 (.ints .i64 w_o)),(5,.deep false 0 0 (.recs (.int .i64) [.bool] w_t) w_v none)],14⟩,rel:=fun ⟨m0,b0,L0,X0,i0⟩ ⟨m,b,L,X,i⟩=>L=L0/\i <= L.length/\LayI w w_x w_o m b (L.drop i) X (fun _=>False)/\unN m+X.length=unN m0+X0.length,meas:=fun ⟨m,b,L,X,i⟩=>L.length - i }),
 (18,{ G:=(List Bool) × (Nat->Option Stp) × (List Nat) × (List Nat) × (Nat) × (List Stp) × (Nat),inv:=fun ⟨m,b,L,X,i,l,j⟩=>⟨[(0,.ptr 0 0 0 0),(4,.ptr 8 0 0 0),(5,.row 9),(6,.row 10),(7,.ptr 11 0 0 0),(11,.row 13),(55,.row 12),(56,.int .i64 (L.length:Int)),(57,.int .i64 i),(67,.row 14),(68,.int .i64 (l.length:Int)),(69,.int .i64 j)],[(14,.row false 0 (.recs (.int .i64) [.bool] (l.map z63))),(13,.row true 3 (.ints .i64 (z3y X))),(12,.row true 3 (.ints .i64 (z3y L))),(11,.box true 152 [.int .i64 (0:Int),SV.ff]),(10,.row true 165 (.recs (.int .i64) [.bool,.bool] (z0k w.sup.length b))),(9,.row true 4 (.bools m)),(8,.box true 152 [.int .i64 (0:Int),SV.ff]),(0,.box false 109 [.row 1,.row 2,.row 3,.row 4,.row 5]),(1,.row false 0 (.ints .i64 w.sup)),(2,.row false 0 (.arcs w.arcs)),(3,.row false 0 (.ints .i64 w_x)),(4,.row false 0 (.ints .i64 w_o)),(5,.deep false 0 0 (.recs (.int .i64) [.bool] w_t) w_v none)],15⟩,rel:=fun ⟨m0,b0,L0,X0,i0,l0,j0⟩ ⟨m,b,L,X,i,l,j⟩=>L=L0/\i=i0/\l=l0/\j <= l.length/\LayI w w_x w_o m b (L.drop (i+1)) X (fun s=>s ∈ l.drop j)/\unN m+X.length=unN m0+X0.length/\∀ s ∈ l,okS w s/\m.getD (frS w s) false=true,meas:=fun ⟨m,b,L,X,i,l,j⟩=>l.length - j })]
def search20_A:List SV->z0d->List (Nat × Ann):=fun args h=>match args,h with
 | [.ptr 0 0 0 0],[(0,.box false 109 [.row 1,.row 2,.row 3,.row 4,.row 5]),(1,.row false ty1 (.ints .i64 w_s)),(2,.row false ty2 (.arcs w_a)),(3,.row false ty3 (.ints .i64 w_x)),(4,.row false ty4 (.ints .i64 w_o)),(5,.deep false ty5 tz5 (.recs (.int .i64) [.bool] w_t) w_v none)]=>zcf ⟨w_s,w_a⟩ w_x w_o w_t w_v
 | _,_=>[]
def zgg:z0c:=[(zb4,(true,z02 true z6g)),(zaq,(true,z02 true z6n)),(zgm,(false,z66)),(zgl,(false,z65))]
abbrev search20_n:Nat:=101
def search20_I (w:Inst) (w_x:List Int) (w_o:List Int) (w_t:Ql.Rows3) (w_v:List Value):List (Nat × z0a):=[]
def search20_IA:List SV->z0d->List (Nat × z0a):=fun _ _=>[]
def idx20_E0 (l : List Bool) (v : Bool) (ty0 : TypeId) : Prop :=
      ∃ (g0:Nat),
 ((g0 <= l.length/\¬v ∈ List.take g0 l)/\(True/\v=v/\(↑l.length:Int)=(↑l.length:Int)/\(0:Int)=(↑g0:Int)/\True)/\l=l/\True) /\
 ∀ (g:Nat),
 g <= l.length/\¬v ∈ List.take g l ->
 (decide ((↑g:Int)<(↑l.length:Int))=true ->
 ((0:Int) <= (↑g:Int)/\(↑g:Int)<(↑l.length:Int)) /\
 (↑g:Int).toNat<l.length /\
 ∀ (x:Bool),
 l[(↑g:Int).toNat]? = some x ->
 ((v == x)=true->((↑g:Int)=idxB l v/\True)/\True) /\
 ((v == x)=false ->
 ∃ (g':Nat),
 (g' <= l.length/\¬v ∈ List.take g' l) /\
 l.length - g'<l.length - g /\
 (True/\v=v/\(↑l.length:Int)=(↑l.length:Int)/\IntKind.i64.wrap ((↑g:Int)+(1:Int))=(↑g':Int)/\True)/\l=l/\True)) /\
 (decide ((↑g:Int)<(↑l.length:Int))=false->((-1:Int)=idxB l v/\True)/\True)
theorem idx20_q (l:List Bool) (v:Bool) (ty0:TypeId):idx20_E0 l v ty0=z23 TT idx20_g (idx20_I l v) (idx20_an l v) Tryz.f152 [.row 0,.bool v] [(0,.row false ty0 (.bools l))] (idx20_r l v):=by kernel_rfl
theorem idx20_E (l:List Bool) (v:Bool) (ty0:TypeId) (hp:l.length <= 1000000):FVc TT idx20_g (idx20_I l v) (idx20_an l v) Tryz.f152 [.row 0,.bool v] [(0,.row false ty0 (.bools l))] (idx20_r l v):=by
 refine FVc.of (idx20_E0 l v ty0) (idx20_q l v ty0) ?_
 unfold idx20_E0
 simp only [eq_self,exists_const,forall_const,ne_eq,Int.toNat_natCast,zSS,z08]
 refine ⟨0,⟨⟨Nat.zero_le _,by simp⟩,rfl⟩,fun k hk=>⟨fun h1=>⟨by omega,by omega,fun x hx=>⟨fun h2=>?_,fun h2=>⟨k+1,⟨by omega,?_⟩,by omega,by rw [w64 (by omega) (by omega)]; omega⟩⟩⟩,fun h1=>?_⟩⟩
 ·subst h2
  unfold idxB
  have hm:=List.mem_of_getElem? hx
  rw [if_pos hm]
  have hk2:=(List.getElem?_eq_some_iff.1 hx).1
  have hf:l.findIdx (· == v)=k:=by
   rw [List.findIdx_eq hk2]
   refine ⟨by simp [(List.getElem?_eq_some_iff.1 hx).2],fun j hj=>?_⟩
   rw [Bool.eq_false_iff]
   intro h3
   rw [beq_iff_eq] at h3
   exact hk.2 (List.mem_take_iff_getElem.2 ⟨j,by omega,h3⟩)
  rw [hf]
 ·rw [z1k hx,List.mem_append]
  rintro (h3 | h3)
  ·exact hk.2 h3
  ·exact h2 (by simpa using h3)
 ·unfold idxB
  rw [List.take_of_length_le (by omega)] at hk
  rw [if_neg hk.2]
theorem idx20_ok:SpecOk Tryz.prog idx20_n true (z02 true idx20_fs) :=
 z09 z0i (show z15 Tryz.prog idx20_g from z03) (by kernel_rfl) mixedOrders Tryz.func152 rfl rfl (by kernel_rfl) (n:=2) (by decide +kernel) (I:=idx20_IA) (fun _ _=>z07) (A:=idx20_A)
  (fun args h r hr=>by
   unfold idx20_fs at hr
   split at hr
   ·rename_i v ty0 l; cases hr; refine ⟨rfl,fun hp=>?_⟩; have hE:=idx20_E l v ty0 hp; exact hE
   ·cases hr)
def z81 (l : List Bool) (v : Bool) (ty0 : TypeId) : Prop :=
   l.length <= (1000000:Nat)/\(decide (idxB l v ≥ (0:Int))=l.contains v/\True)/\True
theorem contains20_q (l:List Bool) (v:Bool) (ty0:TypeId):z81 l v ty0=z23 TT z95 (zgv l v) (zcs l v) Tryz.f103 [.row 0,.bool v] [(0,.row false ty0 (.bools l))] (z96 l v):=by kernel_rfl
theorem contains20_E (l:List Bool) (v:Bool) (ty0:TypeId) (hp:l.length <= 1000000):FVc TT z95 (zgv l v) (zcs l v) Tryz.f103 [.row 0,.bool v] [(0,.row false ty0 (.bools l))] (z96 l v):=by
 refine FVc.of (z81 l v ty0) (contains20_q l v ty0) ?_
 unfold z81
 simp only [eq_self,exists_const,forall_const,ne_eq,Int.toNat_natCast,zSS,z08]
 refine ⟨hp,?_⟩
 unfold idxB
 by_cases h:v ∈ l
 ·rw [if_pos h,List.contains_iff_mem.2 h]
  exact decide_eq_true (by omega)
 ·rw [if_neg h]
  have:l.contains v=false:=by rw [Bool.eq_false_iff]; exact fun h2=>h (List.contains_iff_mem.1 h2)
  rw [this]; rfl
theorem contains20_ok:SpecOk Tryz.prog zgw true (z02 true z82) :=
 z09 z0i (show z15 Tryz.prog z95 from z00 idx20_ok (z03)) (by kernel_rfl) mixedOrders Tryz.func103 rfl rfl (by kernel_rfl) (n:=2) (by decide +kernel) (I:=contains20_IA) (fun _ _=>z07) (A:=contains20_A)
  (fun args h r hr=>by
   unfold z82 at hr
   split at hr
   ·rename_i v ty0 l; cases hr; refine ⟨rfl,fun hp=>?_⟩; have hE:=contains20_E l v ty0 hp; exact hE
   ·cases hr)
abbrev z1w:=List Bool × (Nat->Option Stp) × List Nat × List Nat × Nat × List Stp × Nat
abbrev z8i:=List Bool × (Nat->Option Stp) × List Nat × List Nat × Nat
abbrev zch:=List Bool × (Nat->Option Stp) × Option Nat
abbrev z8j:=List Bool × (Nat->Option Stp) × List Nat
abbrev z25 (w:Inst) (w_x:List Int) (w_o:List Int) (w_t:Ql.Rows3) (w_v:List Value):=(((0:Int)=0/\(True/\True))/\((True/\(True/\(True/\(True/\(True/\True)))))/\(w.sup=w.sup/\(w.arcs=w.arcs/\(w_x=w_x/\(w_o=w_o/\((w_t=w_t/\(w_v=w_v))/\True)))))))
abbrev z0y (w:Inst) (x:List Int):=(toS w ((x.headD (0:Int)).toNat,x.tail.headD (0:Int) == (1:Int)))
abbrev z8h (g':z1w) (g0_1:z1w) (w:Inst) (w_x:List Int) (w_o:List Int):=(g'.2.2.fst=g0_1.2.2.fst/\(g'.2.2.2.2.fst=g0_1.2.2.2.2.fst/\(g'.2.2.2.2.2.fst=g0_1.2.2.2.2.2.fst/\(g'.2.2.2.2.2.snd <= g'.2.2.2.2.2.fst.length/\((LayI w w_x w_o g'.fst g'.2.fst (List.drop (g'.2.2.2.2.fst+(1:Nat)) g'.2.2.fst) g'.2.2.2.fst fun (s:Stp)=>s ∈ List.drop g'.2.2.2.2.2.snd g'.2.2.2.2.2.fst)/\(unN g'.fst+g'.2.2.2.fst.length=unN g0_1.fst+g0_1.2.2.2.fst.length/\(∀ (s:Stp),List.Mem s g'.2.2.2.2.2.fst->okS w s/\(g'.fst.getD (frS w s) false=true))))))))
abbrev zcc (g:z1w) (g':z1w):=(0=0/\(0=0/\(True/\(True/\(0=0/\(True/\(True/\((↑g.2.2.1.length:Int)=↑g'.2.2.1.length/\((↑g.2.2.2.2.1:Int)=↑g'.2.2.2.2.1/\(True/\((↑g.2.2.2.2.2.1.length:Int)=↑g'.2.2.2.2.2.1.length/\(IntKind.i64.wrap ((↑g.2.2.2.2.2.2:Int)+(1:Int))=(↑g'.2.2.2.2.2.2:Int)/\True))))))))))))
abbrev zcd (g':z1w) (g:z1w) (w:Inst) (w_x:List Int) (w_o:List Int) (w_t:Ql.Rows3) (w_v:List Value):=(g'.2.2.2.2.2.fst.length - g'.2.2.2.2.2.snd<g.2.2.2.2.2.fst.length - g.2.2.2.2.2.snd/\((zcc g g')/\(List.map z63 g.2.2.2.2.2.1=List.map z63 g'.2.2.2.2.2.1/\(z3y g.2.2.2.1=z3y g'.2.2.2.1/\(z3y g.2.2.1=z3y g'.2.2.1/\(((0:Int)=0/\(True/\True))/\(z0k w.sup.length g.2.1=z0k w.sup.length g'.2.1/\(g.1=g'.1/\(z25 w w_x w_o w_t w_v)))))))))
abbrev zce (w_o:List Int) (g:Nat) (g':Nat):=(0=0/\(0=0/\(True/\(True/\(0=0/\(True/\(True/\((↑w_o.length:Int)=↑w_o.length/\(IntKind.i64.wrap ((↑g:Int)+(1:Int))=(↑g':Int)/\True)))))))))
def zcb (w : Inst) (w_x : List Int) (w_o : List Int) (w_t : Ql.Rows3) (w_v : List Value) (ty1 ty2 ty3 ty4 ty5 tz5 : TypeId) : Prop :=
   ((↑w.sup.length:Int)=↑w.sup.length/\((0:Int) <= ↑w.sup.length/\((↑w.sup.length:Int) <= 1000000000)))/\((↑w.sup.length:Int)=↑w.sup.length/\((0:Int) <= ↑w.sup.length/\((↑w.sup.length:Int) <= 1000000000)))/\∃ (g0:Nat),(g0 <= w.sup.length/\((0=0/\(0=0/\(True/\(True/\(0=0/\(True/\(True/\((↑w_o.length:Int)=↑w_o.length/\((0:Int)=↑g0/\True)))))))))/\([]=z3y (layK w_o g0)/\(((0:Int)=0/\(True/\True))/\((List.replicate (↑w.sup.length:Int).toNat (zs0 (z7t (MK.int IntKind.i64) [MK.bool,MK.bool]))=z0k w.sup.length fun (x:Nat)=>none)/\(List.replicate (↑w.sup.length:Int).toNat false=zhh w_o w.sup.length g0/\(z25 w w_x w_o w_t w_v)))))))/\∀ (g:Nat),g <= w.sup.length->(decide ((↑g:Int)<↑w_o.length)=true->((0:Int) <= ↑g/\((↑g:Int)<↑w_o.length))/\((↑g:Int).toNat<w_o.length/\(∀ (x:Int),w_o[(↑g:Int).toNat]? = some x->(decide (x > (0:Int))=true->((0:Int) <= ↑g/\((↑g:Int)<↑(zhh w_o w.sup.length g).length))/\((↑g:Int).toNat<(zhh w_o w.sup.length g).length/\((z3y (layK w_o g)).length+(1:Nat) <= 1000000000/\(∃ (g':Nat),g' <= w.sup.length/\(w.sup.length - g'<w.sup.length - g/\((zce w_o g g')/\(z3y (layK w_o g) ++ [(↑g:Int)]=z3y (layK w_o g')/\(((0:Int)=0/\(True/\True))/\(((z0k w.sup.length fun (x:Nat)=>none)=z0k w.sup.length fun (x:Nat)=>none)/\((zhh w_o w.sup.length g).set (↑g:Int).toNat true=zhh w_o w.sup.length g'/\(z25 w w_x w_o w_t w_v)))))))))))/\(decide (x > (0:Int))=false->∃ (g':Nat),g' <= w.sup.length/\(w.sup.length - g'<w.sup.length - g/\((zce w_o g g')/\(z3y (layK w_o g)=z3y (layK w_o g')/\(((0:Int)=0/\(True/\True))/\(((z0k w.sup.length fun (x:Nat)=>none)=z0k w.sup.length fun (x:Nat)=>none)/\(zhh w_o w.sup.length g=zhh w_o w.sup.length g'/\(z25 w w_x w_o w_t w_v)))))))))))/\(decide ((↑g:Int)<↑w_o.length)=false->∃ (g0:z8j),(((LayI w w_x w_o g0.fst g0.2.fst g0.2.snd [] fun (x:Stp)=>False)/\(g0.2.snd.length <= w.sup.length))/\((0=0/\(0=0/\(True/\(True/\(0=0/\(True/\True))))))/\(z3y (layK w_o g)=z3y g0.2.2/\(((0:Int)=0/\(True/\True))/\((z0k w.sup.length fun (x:Nat)=>none)=z0k w.sup.length g0.2.1/\(zhh w_o w.sup.length g=g0.1/\(z25 w w_x w_o w_t w_v)))))))/\∀ (g:z8j),(LayI w w_x w_o g.fst g.2.fst g.2.snd [] fun (x:Stp)=>False)/\g.2.snd.length <= w.sup.length->(decide ((↑(z3y g.2.2).length:Int) > 0)=true->∃ (g0:z8i),((g0.2.2.fst=g0.2.2.fst/\(g0.2.2.2.snd <= g0.2.2.fst.length/\((LayI w w_x w_o g0.fst g0.2.fst (List.drop g0.2.2.2.snd g0.2.2.fst) g0.2.2.2.fst fun (x:Stp)=>False)/\(unN g0.fst+g0.2.2.2.fst.length=unN g0.fst+g0.2.2.2.fst.length))))/\((0=0/\(0=0/\(True/\(True/\(0=0/\(True/\(True/\((↑(z3y g.2.2).length:Int)=↑g0.2.2.1.length/\((0:Int)=↑g0.2.2.2.2/\True)))))))))/\([]=z3y g0.2.2.2.1/\(z3y g.2.2=z3y g0.2.2.1/\(((0:Int)=0/\(True/\True))/\(z0k w.sup.length g.2.1=z0k w.sup.length g0.2.1/\(g.1=g0.1/\(z25 w w_x w_o w_t w_v))))))))/\∀ (g_1:z8i),g_1.2.2.fst=g0.2.2.fst/\g_1.2.2.2.snd <= g_1.2.2.fst.length/\(LayI w w_x w_o g_1.fst g_1.2.fst (List.drop g_1.2.2.2.snd g_1.2.2.fst) g_1.2.2.2.fst fun (x:Stp)=>False)/\unN g_1.fst+g_1.2.2.2.fst.length=unN g0.fst+g0.2.2.2.fst.length->(decide ((↑g_1.2.2.2.2:Int)<↑g_1.2.2.1.length)=true->((0:Int) <= ↑g_1.2.2.2.2/\((↑g_1.2.2.2.2:Int)<↑(z3y g_1.2.2.1).length))/\(↑g_1.2.2.2.2:Int).toNat<(z3y g_1.2.2.1).length/\∀ (x:Int),(z3y g_1.2.2.1)[(↑g_1.2.2.2.2:Int).toNat]? = some x->((0:Int) <= x/\(x<(↑(DK.recs (MK.int IntKind.i64) [MK.bool] w_t).len:Int)))/\x.toNat<List.length w_t/\∀ (x_1:List (List Int)),w_t[x.toNat]? = some x_1->∃ (g0_1:z1w),((g0_1.2.2.fst=g0_1.2.2.fst/\(g0_1.2.2.2.2.fst=g0_1.2.2.2.2.fst/\(g0_1.2.2.2.2.2.fst=g0_1.2.2.2.2.2.fst/\(g0_1.2.2.2.2.2.snd <= g0_1.2.2.2.2.2.fst.length/\((LayI w w_x w_o g0_1.fst g0_1.2.fst (List.drop (g0_1.2.2.2.2.fst+(1:Nat)) g0_1.2.2.fst) g0_1.2.2.2.fst fun (s:Stp)=>s ∈ List.drop g0_1.2.2.2.2.2.snd g0_1.2.2.2.2.2.fst)/\(unN g0_1.fst+g0_1.2.2.2.fst.length=unN g0_1.fst+g0_1.2.2.2.fst.length/\(∀ (s:Stp),List.Mem s g0_1.2.2.2.2.2.fst->okS w s/\(g0_1.fst.getD (frS w s) false=true))))))))/\((0=0/\(0=0/\(True/\(True/\(0=0/\(True/\(True/\((↑g_1.2.2.1.length:Int)=↑g0_1.2.2.1.length/\((↑g_1.2.2.2.2:Int)=↑g0_1.2.2.2.2.1/\(True/\((↑x_1.length:Int)=↑g0_1.2.2.2.2.2.1.length/\((0:Int)=↑g0_1.2.2.2.2.2.2/\True))))))))))))/\(x_1=List.map z63 g0_1.2.2.2.2.2.1/\(z3y g_1.2.2.2.1=z3y g0_1.2.2.2.1/\(z3y g_1.2.2.1=z3y g0_1.2.2.1/\(((0:Int)=0/\(True/\True))/\(z0k w.sup.length g_1.2.1=z0k w.sup.length g0_1.2.1/\(g_1.1=g0_1.1/\(z25 w w_x w_o w_t w_v)))))))))/\∀ (g:z1w),(g.2.2.fst=g0_1.2.2.fst/\(g.2.2.2.2.fst=g0_1.2.2.2.2.fst/\(g.2.2.2.2.2.fst=g0_1.2.2.2.2.2.fst/\(g.2.2.2.2.2.snd <= g.2.2.2.2.2.fst.length/\((LayI w w_x w_o g.fst g.2.fst (List.drop (g.2.2.2.2.fst+(1:Nat)) g.2.2.fst) g.2.2.2.fst fun (s:Stp)=>s ∈ List.drop g.2.2.2.2.2.snd g.2.2.2.2.2.fst)/\(unN g.fst+g.2.2.2.fst.length=unN g0_1.fst+g0_1.2.2.2.fst.length/\(∀ (s:Stp),List.Mem s g.2.2.2.2.2.fst->okS w s/\(g.fst.getD (frS w s) false=true))))))))->(decide ((↑g.2.2.2.2.2.2:Int)<↑g.2.2.2.2.2.1.length)=true->((0:Int) <= ↑g.2.2.2.2.2.2/\((↑g.2.2.2.2.2.2:Int)<↑(List.map z63 g.2.2.2.2.2.1).length))/\(↑g.2.2.2.2.2.2:Int).toNat<(List.map z63 g.2.2.2.2.2.1).length/\∀ (x:List Int),(List.map z63 g.2.2.2.2.2.1)[(↑g.2.2.2.2.2.2:Int).toNat]? = some x->z1l w (x.headD (0:Int))/\((0:Int) <= ↑(z0y w x)/\((↑(z0y w x):Int)<↑g.1.length))/\(↑(z0y w x):Int).toNat<g.1.length/\∀ (x_2:Bool),g.1[(↑(z0y w x):Int).toNat]? = some x_2->(x_2=true->∃ (g':z1w),(z8h g' g0_1 w w_x w_o)/\(zcd g' g w w_x w_o w_t w_v))/\(x_2=false->(z1l w (x.headD (0:Int))/\(w_x.length=w.arcs.length/\(XB w_x)))/\((rmS w w_x ((x.headD (0:Int)).toNat,x.tail.headD (0:Int) == (1:Int)) == (0:Int))=true->∃ (g':z1w),(z8h g' g0_1 w w_x w_o)/\(zcd g' g w w_x w_o w_t w_v))/\((rmS w w_x ((x.headD (0:Int)).toNat,x.tail.headD (0:Int) == (1:Int)) == (0:Int))=false->((0:Int) <= ↑(z0y w x)/\((↑(z0y w x):Int)<↑g.1.length))/\(↑(z0y w x):Int).toNat<g.1.length/\((0:Int) <= ↑(z0y w x)/\((↑(z0y w x):Int)<↑(z0k w.sup.length g.2.1).length))/\(↑(z0y w x):Int).toNat<(z0k w.sup.length g.2.1).length/\((0:Int) <= ↑(z0y w x)/\((↑(z0y w x):Int)<↑w_o.length))/\(↑(z0y w x):Int).toNat<w_o.length/\∀ (x_3:Int),w_o[(↑(z0y w x):Int).toNat]? = some x_3->(decide (x_3<(0:Int))=true->∃ (g_2:zch),SearchP w w_x w_o g_2.1 g_2.2.1 g_2.2.2/\(((True/\(True/\(((↑(z0y w x):Int)=↑(g_2.2.2.getD (0:Nat))/\(true=g_2.2.2.isSome/\True))/\True)))/\True)/\(g.1.set (↑(z0y w x):Int).toNat true=g_2.1/\((z0k w.sup.length g.2.1).set (↑(z0y w x):Int).toNat [x.headD (0:Int),bif x.tail.headD (0:Int) == (1:Int) then (1:Int) else (0:Int),bif true then (1:Int) else (0:Int)]=z0k w.sup.length g_2.2.1/\True))))/\(decide (x_3<(0:Int))=false->(z3y g.2.2.2.1).length+(1:Nat) <= 1000000000/\(∃ (g':z1w),(z8h g' g0_1 w w_x w_o)/\(g'.2.2.2.2.2.fst.length - g'.2.2.2.2.2.snd<g.2.2.2.2.2.fst.length - g.2.2.2.2.2.snd/\((zcc g g')/\(List.map z63 g.2.2.2.2.2.1=List.map z63 g'.2.2.2.2.2.1/\(z3y g.2.2.2.1 ++ [(↑(z0y w x):Int)]=z3y g'.2.2.2.1/\(z3y g.2.2.1=z3y g'.2.2.1/\(((0:Int)=0/\(True/\True))/\((z0k w.sup.length g.2.1).set (↑(z0y w x):Int).toNat [x.headD (0:Int),bif x.tail.headD (0:Int) == (1:Int) then (1:Int) else (0:Int),bif true then (1:Int) else (0:Int)]=z0k w.sup.length g'.2.1/\(g.1.set (↑(z0y w x):Int).toNat true=g'.1/\(z25 w w_x w_o w_t w_v))))))))))))))/\(decide ((↑g.2.2.2.2.2.2:Int)<↑g.2.2.2.2.2.1.length)=false->∃ (g':z8i),(g'.2.2.fst=g0.2.2.fst/\(g'.2.2.2.snd <= g'.2.2.fst.length/\((LayI w w_x w_o g'.fst g'.2.fst (List.drop g'.2.2.2.snd g'.2.2.fst) g'.2.2.2.fst fun (x:Stp)=>False)/\(unN g'.fst+g'.2.2.2.fst.length=unN g0.fst+g0.2.2.2.fst.length))))/\(g'.2.2.fst.length - g'.2.2.2.snd<g_1.2.2.fst.length - g_1.2.2.2.snd/\((0=0/\(0=0/\(True/\(True/\(0=0/\(True/\(True/\((↑g.2.2.1.length:Int)=↑g'.2.2.1.length/\(IntKind.i64.wrap ((↑g.2.2.2.2.1:Int)+(1:Int))=(↑g'.2.2.2.2:Int)/\True)))))))))/\(z3y g.2.2.2.1=z3y g'.2.2.2.1/\(z3y g.2.2.1=z3y g'.2.2.1/\(((0:Int)=0/\(True/\True))/\(z0k w.sup.length g.2.1=z0k w.sup.length g'.2.1/\(g.1=g'.1/\(z25 w w_x w_o w_t w_v))))))))))/\(decide ((↑g_1.2.2.2.2:Int)<↑g_1.2.2.1.length)=false->∃ (g':z8j),((LayI w w_x w_o g'.fst g'.2.fst g'.2.snd [] fun (x:Stp)=>False)/\(g'.2.snd.length <= w.sup.length))/\((2:Nat) * unN g'.fst+g'.2.snd.length.min (1:Nat)<(2:Nat) * unN g.fst+g.2.snd.length.min (1:Nat)/\((0=0/\(0=0/\(True/\(True/\(0=0/\(True/\True))))))/\(z3y g_1.2.2.2.1=z3y g'.2.2/\(((0:Int)=0/\(True/\True))/\(z0k w.sup.length g_1.2.1=z0k w.sup.length g'.2.1/\(g_1.1=g'.1/\(z25 w w_x w_o w_t w_v)))))))))/\(decide ((↑(z3y g.2.2).length:Int) > 0)=false->∃ (g_1:zch),SearchP w w_x w_o g_1.1 g_1.2.1 g_1.2.2/\(((True/\(True/\(((0:Int)=↑(g_1.2.2.getD (0:Nat))/\(false=g_1.2.2.isSome/\True))/\True)))/\True)/\(g.1=g_1.1/\(z0k w.sup.length g.2.1=z0k w.sup.length g_1.2.1/\True)))))
theorem search20_q (w:Inst) (w_x:List Int) (w_o:List Int) (w_t:Ql.Rows3) (w_v:List Value) (ty1 ty2 ty3 ty4 ty5 tz5:TypeId):zcb w w_x w_o w_t w_v ty1 ty2 ty3 ty4 ty5 tz5=zaz TT zgg (search20_I w w_x w_o w_t w_v) (zcf w w_x w_o w_t w_v) Tryz.f101 [.ptr 0 0 0 0] [(0,.box false 109 [.row 1,.row 2,.row 3,.row 4,.row 5]),(1,.row false ty1 (.ints .i64 w.sup)),(2,.row false ty2 (.arcs w.arcs)),(3,.row false ty3 (.ints .i64 w_x)),(4,.row false ty4 (.ints .i64 w_o)),(5,.deep false ty5 tz5 (.recs (.int .i64) [.bool] w_t) w_v none)] (zgh w w_x w_o w_t w_v):=by kernel_rfl
theorem search20_E (w:Inst) (w_x:List Int) (w_o:List Int) (w_t:Ql.Rows3) (w_v:List Value) (ty1 ty2 ty3 ty4 ty5 tz5:TypeId) (hp:z04 w=0/\w_x.length=w.arcs.length/\w_o.length=w.sup.length/\XB w_x/\Betw w w_x/\AtOk w w_t):FVcR TT zgg (search20_I w w_x w_o w_t w_v) (zcf w w_x w_o w_t w_v) Tryz.f101 [.ptr 0 0 0 0] [(0,.box false 109 [.row 1,.row 2,.row 3,.row 4,.row 5]),(1,.row false ty1 (.ints .i64 w.sup)),(2,.row false ty2 (.arcs w.arcs)),(3,.row false ty3 (.ints .i64 w_x)),(4,.row false ty4 (.ints .i64 w_o)),(5,.deep false ty5 tz5 (.recs (.int .i64) [.bool] w_t) w_v none)] (zgh w w_x w_o w_t w_v):=by
 refine FVcR.of (zcb w w_x w_o w_t w_v ty1 ty2 ty3 ty4 ty5 tz5) (search20_q w w_x w_o w_t w_v ty1 ty2 ty3 ty4 ty5 tz5) ?_
 unfold zcb
 delta zce zcd zcc z8h z0y z25 z1w z8i zch z8j
 obtain ⟨hr,hxl,hol,hxb,hbw,hat⟩:=hp
 have hs64:=z0h hr
 have hw:∀ j:Nat,j <= 1000000->IntKind.i64.wrap ((j:Int)+1)=((j+1:Nat):Int):=fun j hj=>by rw [w64 (by omega) (by omega)]; omega
 simp only [eq_self,exists_const,forall_const,ne_eq,Int.toNat_natCast,zSS,z08]
 simp only [metK_len,zhz,z7x,List.length_set,List.length_map]
 refine ⟨by omega,by omega,0,⟨Nat.zero_le _,rfl,rfl,z93 _,metK_zero _ _⟩,fun k hk=>⟨fun h1=>⟨by omega,by omega,fun y hy=>?_⟩,fun h1=>?_⟩⟩
 ·have ey:w_o.getD k 0=y:=by rw [List.getD_eq_getElem?_getD,hy]; rfl
  have hl:=layK_le w_o k
  refine ⟨fun h2=>⟨by omega,by omega,by omega,k+1,by omega,by omega,hw k (by omega),?_,?_⟩,fun h2=>⟨k+1,by omega,by omega,hw k (by omega),?_,?_⟩⟩
  ·rw [layK_yes (by omega),natI_snoc]
  ·exact metK_yes (by omega)
  ·rw [layK_no (by omega)]
  ·exact metK_no (by omega)
 have ek:k=w.sup.length:=by omega
 subst ek
 refine ⟨(_,fun _=>none,layK w_o w.sup.length),⟨⟨LayI.begin hr hol,layK_le _ _⟩,rfl,rfl,rfl⟩,?_⟩
 rintro ⟨m,b,L⟩ ⟨hL,hLn⟩
 dsimp only at hL hLn ⊢
 have hml:=hL.i.lm
 refine ⟨fun h2=>?_,fun h2=>?_⟩
 rotate_left
 ·have eL:L=[]:=by
   cases L with
   | nil=>rfl
   | cons a l=>exact absurd (by rw [List.length_cons]; omega) h2
  subst eL
  exact ⟨(m,b,none),hL.end_ hr,⟨rfl,rfl⟩,rfl,rfl⟩
 refine ⟨(m,b,L,[],0),⟨⟨Nat.zero_le _,by rw [List.drop_zero]; exact hL⟩,⟨rfl,rfl⟩,rfl,rfl,rfl,rfl⟩,?_⟩
 rintro ⟨m1,b1,L1,X,i⟩ ⟨h3,hi,hI,hu⟩
 dsimp only at h3 hi hI hu ⊢
 subst h3
 have hun:=unN_le m
 rw [List.length_nil] at hu
 refine ⟨fun h4=>⟨by omega,by omega,fun x hx=>?_⟩,fun h4=>?_⟩
 rotate_left
 ·refine ⟨(m1,b1,X),⟨hI.next (by omega),by dsimp only; omega⟩,?_,rfl,rfl,rfl⟩
  show 2 * unN m1+min X.length 1<2 * unN m+min L1.length 1
  omega
 obtain ⟨v,hv,rfl⟩:=natI_get hx
 have hv2:=hI.l v (by rw [z4b hv]; simp)
 have hwt:w_t.length=w.sup.length:=hat.len
 refine ⟨⟨by omega,by show (v:Int)<((w_t.length:Nat):Int); omega⟩,by omega,fun q hq=>?_⟩
 obtain ⟨l,hl1,hl3,hl2⟩:=hat.at_ v hv2.1
 rw [Int.toNat_natCast,hl1] at hq
 cases hq
 obtain ⟨hN,hst⟩:=hI.node hv hl2
 refine ⟨(m1,b1,L1,X,i,l,0),⟨⟨Nat.zero_le _,hN,hst⟩,⟨rfl,rfl,by simp,rfl⟩,rfl,rfl,rfl,rfl,rfl⟩,?_⟩
 rintro ⟨m2,b2,L2,X2,i2,l2,j⟩ ⟨h5,h6,h7,hj,hJ,hu2,hst2⟩
 dsimp only at h5 h6 h7 hj hJ hu2 hst2 ⊢
 subst h5 h6 h7
 have hm2:=hJ.i.lm
 refine ⟨fun h8=>⟨by omega,by omega,fun x hx=>?_⟩,fun h8=>?_⟩
 rotate_left
 ·exact ⟨(m2,b2,L2,X2,i2+1),⟨rfl,by dsimp only; omega,hJ.close (by omega),by dsimp only; rw [List.length_nil]; omega⟩,by dsimp only; omega,⟨rfl,hw i2 (by omega)⟩,rfl,rfl,rfl,rfl⟩
 rw [List.getElem?_map] at hx
 obtain ⟨s,hs,rfl⟩:=Option.map_eq_some_iff.1 hx
 obtain ⟨hok,hfm⟩:=hst2 s (List.mem_of_getElem? hs)
 have htl:=z5s hr hok
 have e4:((z63 s).headD 0).toNat=s.1/\((z63 s).tail.headD 0 == 1)=s.2/\z1l w ((z63 s).headD 0)/\[(z63 s).headD 0,bif (z63 s).tail.headD 0 == 1 then 1 else 0,bif true then 1 else 0]=mbS (some s):=by
  obtain ⟨a,c⟩:=s
  have ha:a<w.arcs.length:=hok
  cases c <;> simp [z63,mbS,z1l,hr] <;> omega
 obtain ⟨g1,g2,g3,g4⟩:=e4
 rw [g4,g1,g2]
 rw [show ((s.1,s.2):Stp)=s from rfl]
 have hrm0:=hbw.room hr hok
 refine ⟨g3,by omega,by omega,fun c hc=>?_⟩
 have hmc:m2.getD (toS w s) false=c:=by rw [List.getD_eq_getElem?_getD,hc]; rfl
 have hmo:∀ v,m2.getD v false=true->(m2.set (toS w s) true).getD v false=true:=fun v hv=>by
  rw [zav (by omega)]; split
  ·rfl
  ·exact hv
 refine ⟨fun h9=>⟨(m2,b2,L2,X2,i2,l2,j+1),⟨rfl,rfl,rfl,by dsimp only; omega,hJ.pass hs (.inl (by rw [hmc]; exact h9)),hu2,hst2⟩,by dsimp only; omega,⟨rfl,rfl,rfl,hw j (by omega)⟩,rfl,rfl,rfl,rfl,rfl⟩,fun h9=>⟨⟨g3,hxl,hxb⟩,fun h10=>⟨(m2,b2,L2,X2,i2,l2,j+1),⟨rfl,rfl,rfl,by dsimp only; omega,hJ.pass hs (.inr (by omega)),hu2,hst2⟩,by dsimp only; omega,⟨rfl,rfl,rfl,hw j (by omega)⟩,rfl,rfl,rfl,rfl,rfl⟩,fun h10=>⟨by omega,by omega,by omega,by omega,by omega,by omega,fun y hy=>?_⟩⟩⟩
 have eo:w_o.getD (toS w s) 0=y:=by rw [List.getD_eq_getElem?_getD,hy]; rfl
 subst h9
 refine ⟨fun h11=>⟨(_,_,some (toS w s)),hJ.i.hit hr hok hfm hmc (by omega) (by omega),⟨rfl,rfl⟩,rfl,z5f _ _ _ _⟩,fun h11=>⟨by omega,(_,_,L2,_,i2,l2,j+1),⟨rfl,rfl,rfl,by dsimp only; omega,hJ.take hr hs hok hfm hmc (by omega) (by omega),?_,fun t ht=>⟨(hst2 t ht).1,hmo _ (hst2 t ht).2⟩⟩,by dsimp only; omega,⟨rfl,rfl,rfl,hw j (by omega)⟩,rfl,(natI_snoc _ _).symm,rfl,z5f _ _ _ _,rfl⟩⟩
 have:=unN_set hc
 dsimp only
 rw [List.length_append,List.length_singleton]
 omega
theorem search20_ok:SpecOk Tryz.prog search20_n true (z10 true zcg) :=
 z3s z0i (show z15 Tryz.prog zgg from z00 z85 (z00 z9s (z00 ze9 (z00 ze8 (z03))))) (by kernel_rfl) mixedOrders Tryz.func101 rfl rfl (by kernel_rfl) (n:=1) (by decide +kernel) (I:=search20_IA) (fun _ _=>z07) (A:=search20_A)
  (fun args h r hr=>by
   unfold zcg at hr
   split at hr
   ·rename_i ty1 w_s ty2 w_a ty3 w_x ty4 w_o ty5 tz5 w_t w_v; cases hr; refine ⟨rfl,fun hp=>?_⟩; have hE:=search20_E ⟨w_s,w_a⟩ w_x w_o w_t w_v ty1 ty2 ty3 ty4 ty5 tz5 hp; exact hE
   ·cases hr)
def fill20_r (w:Inst) (w_x:List Int) (w_o:List Int) (w_t:Ql.Rows3) (w_v:List Value):FRel:={ pre:=z04 w=0/\FillI w w_x w_o/\AtOk w w_t,G:=(List Int) × (List Int) × (List Bool) × (Bool),post:=fun ⟨x,o,m,f⟩=>FillP w x o m f,out:=fun ⟨x,o,m,f⟩=>{ pre:=True,res:=.tup [.row 6,.bool (f)],rows:=[.row 4 (.bools (m))],eff:=[(0,.box true 109 [.row 1,.row 2,.row 3,.row 4,.row 5]),(3,.row true 2 (.ints .i64 (x))),(4,.row true 2 (.ints .i64 (o))),(5,.deep true 149 147 (.recs (.int .i64) [.bool] w_t) w_v none)] } }
def zkr:FR:=fun args h=>match args,h with
 | [.ptr 0 0 0 0],[(0,.box true 109 [.row 1,.row 2,.row 3,.row 4,.row 5]),(1,.row false ty1 (.ints .i64 w_s)),(2,.row false ty2 (.arcs w_a)),(3,.row true 2 (.ints .i64 w_x)),(4,.row true 2 (.ints .i64 w_o)),(5,.deep true 149 147 (.recs (.int .i64) [.bool] w_t) w_v none)]=>some (fill20_r ⟨w_s,w_a⟩ w_x w_o w_t w_v)
 | _,_=>none
def zkq (w:Inst) (w_x:List Int) (w_o:List Int) (w_t:Ql.Rows3) (w_v:List Value):List (Nat × Ann):=[(1,{ G:=(List Int) × (List Int),inv:=fun ⟨x,o⟩=>⟨[(0,.ptr 0 0 0 0)],[(0,.box true 109 [.row 1,.row 2,.row 3,.row 4,.row 5]),(1,.row false 0 (.ints .i64 w.sup)),(2,.row false 0 (.arcs w.arcs)),(3,.row true 2 (.ints .i64 x)),(4,.row true 2 (.ints .i64 o)),(5,.deep true 149 147 (.recs (.int .i64) [.bool] w_t) w_v none)],7⟩,rel:=fun ⟨x0,o0⟩ ⟨x,o⟩=>FillI w x o,meas:=fun ⟨x,o⟩=>(z4n o w.sup.length).toNat }),
 (1000002,{ G:=(List Int) × (List Int) × (List Bool) × (Nat->Option Stp) × (Option Nat),inv:=fun ⟨x,o,m,b,e⟩=>⟨[(0,.ptr 0 0 0 0),(6,.ptr 9 0 0 0),(4,.row 7),(5,.row 8)],[(9,.box true 152 [.int .i64 (e.getD 0:Nat),.bool e.isSome]),(7,.row true 4 (.bools m)),(8,.row false 165 (.recs (.int .i64) [.bool,.bool] (z0k w.sup.length b))),(0,.box true 109 [.row 1,.row 2,.row 3,.row 4,.row 5]),(1,.row false 0 (.ints .i64 w.sup)),(2,.row false 0 (.arcs w.arcs)),(3,.row true 2 (.ints .i64 x)),(4,.row true 2 (.ints .i64 o)),(5,.deep true 149 147 (.recs (.int .i64) [.bool] w_t) w_v none)],10⟩,rel:=fun ⟨x0,o0,m0,b0,e0⟩ ⟨x,o,m,b,e⟩=>FillI w x o/\SearchP w x o m b e,meas:=fun ⟨x,o,m,b,e⟩=>0,link:=true })]
def fill20_A:List SV->z0d->List (Nat × Ann):=fun args h=>match args,h with
 | [.ptr 0 0 0 0],[(0,.box true 109 [.row 1,.row 2,.row 3,.row 4,.row 5]),(1,.row false ty1 (.ints .i64 w_s)),(2,.row false ty2 (.arcs w_a)),(3,.row true 2 (.ints .i64 w_x)),(4,.row true 2 (.ints .i64 w_o)),(5,.deep true 149 147 (.recs (.int .i64) [.bool] w_t) w_v none)]=>zkq ⟨w_s,w_a⟩ w_x w_o w_t w_v
 | _,_=>[]
def fill20_g:z0c:=[(search20_n,(true,z10 true zcg)),(zja,(false,z02 false zab)),(zgw,(true,z02 true z82))]
abbrev fill20_n:Nat:=60
def fill20_I (w:Inst) (w_x:List Int) (w_o:List Int) (w_t:Ql.Rows3) (w_v:List Value):List (Nat × z0a):=[]
def fill20_IA:List SV->z0d->List (Nat × z0a):=fun _ _=>[]
def zkp (w : Inst) (w_x : List Int) (w_o : List Int) (w_t : Ql.Rows3) (w_v : List Value) (ty1 ty2 : TypeId) : Prop :=
      ∃ (g0:List Int × List Int),
 (FillI w g0.fst g0.snd /\
 ((0:Nat)=(0:Nat)/\True) /\
 (True/\True/\True/\True/\True/\True)/\w.sup=w.sup/\w.arcs=w.arcs/\w_x=g0.1/\w_o=g0.2/\(w_t=w_t/\w_v=w_v/\(none:Option Nat)=none)/\True) /\
 ∀ (g:List Int × List Int),
 FillI w g.fst g.snd ->
 ∃ (Q:List Int × List Int × List Bool × (Nat->Option Stp) × Option Nat->Prop),
 ((z04 w=(0:Int)/\g.1.length=w.arcs.length/\g.2.length=w.sup.length/\XB g.1/\Betw w g.1/\AtOk w w_t) /\
 ∀ (g_1:List Bool × (Nat->Option Stp) × Option Nat),
 SearchP w g.1 g.2 g_1.1 g_1.2.1 g_1.2.2 ->
 ∃ (g_2:List Int × List Int × List Bool × (Nat->Option Stp) × Option Nat),
 ((FillI w g_2.fst g_2.2.fst/\SearchP w g_2.fst g_2.2.fst g_2.2.2.fst g_2.2.2.2.fst g_2.2.2.2.snd)/\Q g_2) /\
 ((0:Nat)=(0:Nat)/\(0:Nat)=(0:Nat)/\True/\True/\True) /\
 ((↑(g_1.2.2.getD (0:Nat)):Int)=(↑(g_2.2.2.2.2.getD (0:Nat)):Int)/\g_1.2.2.isSome=g_2.2.2.2.2.isSome/\True) /\
 g_1.1=g_2.2.2.1 /\
 z0k w.sup.length g_1.2.1=z0k w.sup.length g_2.2.2.2.1 /\
 (True/\True/\True/\True/\True/\True) /\
 w.sup=w.sup/\w.arcs=w.arcs/\g.1=g_2.1/\g.2=g_2.2.1/\(w_t=w_t/\w_v=w_v/\(none:Option Nat)=none)/\True) /\
 ∀ (g_1:List Int × List Int × List Bool × (Nat->Option Stp) × Option Nat),
 FillI w g_1.fst g_1.2.fst/\SearchP w g_1.fst g_1.2.fst g_1.2.2.fst g_1.2.2.2.fst g_1.2.2.2.snd ->
 Q g_1 ->
 (g_1.2.2.2.2.isSome=true ->
 AlOk w g_1.1 g_1.2.1 (z0k w.sup.length g_1.2.2.2.1) (↑(g_1.2.2.2.2.getD (0:Nat)):Int) /\
 ∃ (g':List Int × List Int),
 FillI w g'.fst g'.snd /\
 (z4n g'.snd w.sup.length).toNat<(z4n g.snd w.sup.length).toNat /\
 ((0:Nat)=(0:Nat)/\True) /\
 (True/\True/\True/\True/\True/\True) /\
 w.sup=w.sup /\
 w.arcs=w.arcs /\
 z2s g_1.1 (alL w (z0k w.sup.length g_1.2.2.2.1) (↑(g_1.2.2.2.2.getD (0:Nat)):Int))
 (alU w g_1.1 g_1.2.1 (z0k w.sup.length g_1.2.2.2.1) (↑(g_1.2.2.2.2.getD (0:Nat)):Int)) =
 g'.1 /\
 z21 w g_1.2.1 (alL w (z0k w.sup.length g_1.2.2.2.1) (↑(g_1.2.2.2.2.getD (0:Nat)):Int))
 (alU w g_1.1 g_1.2.1 (z0k w.sup.length g_1.2.2.2.1) (↑(g_1.2.2.2.2.getD (0:Nat)):Int)) =
 g'.2 /\
 (w_t=w_t/\w_v=w_v/\(none:Option Nat)=none)/\True) /\
 (g_1.2.2.2.2.isSome=false ->
 g_1.2.2.1.length <= (1000000:Nat) /\
 (g_1.2.2.1.contains true=true ->
 ∃ (g:List Int × List Int × List Bool × Bool),
 FillP w g.1 g.2.1 g.2.2.1 g.2.2.2 /\
 ((True/\true=g.2.2.2/\True)/\True) /\
 g_1.2.2.1=g.2.2.1/\(True/\True/\True/\True/\True/\True)/\g_1.1=g.1/\g_1.2.1=g.2.1/\(w_t=w_t/\w_v=w_v/\(none:Option Nat)=none)/\True) /\
 (g_1.2.2.1.contains true=false ->
 ∃ (g:List Int × List Int × List Bool × Bool),
 FillP w g.1 g.2.1 g.2.2.1 g.2.2.2 /\
 ((True/\false=g.2.2.2/\True)/\True) /\
 []=g.2.2.1/\(True/\True/\True/\True/\True/\True)/\g_1.1=g.1/\g_1.2.1=g.2.1/\(w_t=w_t/\w_v=w_v/\(none:Option Nat)=none)/\True))
theorem fill20_q (w:Inst) (w_x:List Int) (w_o:List Int) (w_t:Ql.Rows3) (w_v:List Value) (ty1 ty2:TypeId):zkp w w_x w_o w_t w_v ty1 ty2=zaz TT fill20_g (fill20_I w w_x w_o w_t w_v) (zkq w w_x w_o w_t w_v) Tryz.f60 [.ptr 0 0 0 0] [(0,.box true 109 [.row 1,.row 2,.row 3,.row 4,.row 5]),(1,.row false ty1 (.ints .i64 w.sup)),(2,.row false ty2 (.arcs w.arcs)),(3,.row true 2 (.ints .i64 w_x)),(4,.row true 2 (.ints .i64 w_o)),(5,.deep true 149 147 (.recs (.int .i64) [.bool] w_t) w_v none)] (fill20_r w w_x w_o w_t w_v):=by kernel_rfl
theorem fill20_E (w:Inst) (w_x:List Int) (w_o:List Int) (w_t:Ql.Rows3) (w_v:List Value) (ty1 ty2:TypeId) (hp:z04 w=0/\FillI w w_x w_o/\AtOk w w_t):FVcR TT fill20_g (fill20_I w w_x w_o w_t w_v) (zkq w w_x w_o w_t w_v) Tryz.f60 [.ptr 0 0 0 0] [(0,.box true 109 [.row 1,.row 2,.row 3,.row 4,.row 5]),(1,.row false ty1 (.ints .i64 w.sup)),(2,.row false ty2 (.arcs w.arcs)),(3,.row true 2 (.ints .i64 w_x)),(4,.row true 2 (.ints .i64 w_o)),(5,.deep true 149 147 (.recs (.int .i64) [.bool] w_t) w_v none)] (fill20_r w w_x w_o w_t w_v):=by
 refine FVcR.of (zkp w w_x w_o w_t w_v ty1 ty2) (fill20_q w w_x w_o w_t w_v ty1 ty2) ?_
 unfold zkp
 simp only [eq_self,exists_const,forall_const,ne_eq,Int.toNat_natCast,zSS,z08]
 obtain ⟨hr,hF,hat⟩:=hp
 have hs64:=z0h hr
 refine ⟨(w_x,w_o),⟨hF,rfl,rfl⟩,?_⟩
 clear hF
 rintro ⟨x,o⟩ hF
 dsimp only at hF ⊢
 obtain ⟨B,hN,-,-⟩:=id hF.inv
 refine ⟨fun g=>g.1=x/\g.2.1=o,⟨⟨hr,hN.over.lx,hN.over.lo,hF.xb.xb,hN.betw,hat⟩,?_⟩,?_⟩
 ·rintro ⟨m,b,e⟩ hS
  exact ⟨(x,o,m,b,e),⟨⟨hF,hS⟩,rfl,rfl⟩,⟨rfl,rfl⟩,rfl,rfl,rfl,rfl⟩
 rintro ⟨x1,o1,m,b,e⟩ ⟨-,hS⟩ ⟨h1,h2⟩
 dsimp only at hS h1 h2 ⊢
 subst h1 h2
 refine ⟨fun h3=>?_,fun h3=>?_⟩
 ·cases e with
  | none=>cases h3
  | some v =>
   obtain ⟨A,q1,q2⟩:=fill_more hr hF hS
   exact ⟨A,(_,_),q1,q2,rfl,rfl⟩
 ·cases e with
  | some v=>cases h3
  | none =>
   obtain ⟨q1,q2⟩:=fill_end hr hF hS
   refine ⟨by have:=hS.lm; omega,fun h4=>⟨(x1,o1,m,true),q1 h4,rfl,rfl,rfl,rfl⟩,fun h4=>⟨(x1,o1,[],false),q2 (by rw [h4]; simp),rfl,rfl,rfl,rfl⟩⟩
theorem fill20_ok:SpecOk Tryz.prog fill20_n false (z10 false zkr) :=
 z3s z0i (show z15 Tryz.prog fill20_g from z00 search20_ok (z00 along20_ok (z00 contains20_ok (z03)))) (by kernel_rfl) mixedOrders Tryz.func60 rfl rfl (by kernel_rfl) (n:=1) (by decide +kernel) (I:=fill20_IA) (fun _ _=>z07) (A:=fill20_A)
  (fun args h r hr=>by
   unfold zkr at hr
   split at hr
   ·rename_i ty1 w_s ty2 w_a w_x w_o w_t w_v; cases hr; refine ⟨rfl,fun hp=>?_⟩; have hE:=fill20_E ⟨w_s,w_a⟩ w_x w_o w_t w_v ty1 ty2 hp; exact hE
   ·cases hr)
abbrev zlm:Nat:=149
def piece20_g:z0c:=[]
def z9j:Vc.Spec:=z4f TT piece20_g (fun _ _ _=>[]) Tryz.f149
def out20_r (g_n:Int) (g_l:List Arc) (g_i:List Int) (g_s:List Int) (n:Int):FRes:={ pre:=PieceOk g_n g_i g_s n 0,res:=.row 4,rows:=[.row 3 (.ints .i64 (z0m g_i g_s n 0))],eff:=[] }
def out20_fs:FS:=fun args h=>match args,h with
 | [.ptr 0 0 0 0,.int .i64 n],[(0,.box false 137 [.int .i64 g_n,.row 1,.row 2,.row 3]),(1,.row false ty1 (.arcs g_l)),(2,.row false ty2 (.ints .i64 g_i)),(3,.row false ty3 (.ints .i64 g_s))]=>some (out20_r g_n g_l g_i g_s n)
 | _,_=>none
def out20_an (g_n:Int) (g_l:List Arc) (g_i:List Int) (g_s:List Int) (n:Int):List (Nat × Ann):=[]
def out20_A:List SV->z0d->List (Nat × Ann):=fun _ _=>[]
def out20_g:z0c:=[(zlm,(false,z9j))]
abbrev out20_n:Nat:=99
def out20_i0g:z0c:=[(has_n,(true,z02 true has_fs))]
def out20_i0 (g_n:Int) (g_l:List Arc) (g_i:List Int) (g_s:List Int) (n:Int):z0a:=inlI TT out20_i0g (fun args hp nk=>match args with | [y,c1,c2,c3]=>[(3,{ G:=Nat,inv:=fun k=>⟨[(0,y),(41,.row nk),(42,.int .i64 ((z0m g_i g_s n 0).length:Int)),(43,.int .i64 k)],[(6,.box true 37 [.row (nk+1)]),(nk+1,.row true 3 (.ints .i64 ((z0m g_i g_s n 0).take k))),(nk,.row false 3 (.ints .i64 (z0m g_i g_s n 0)))] ++ Vc.del 6 (Vc.del 5 hp),nk+2⟩,rel:=fun _ k=>k <= (z0m g_i g_s n 0).length,meas:=fun k=>(z0m g_i g_s n 0).length - k })] | _=>[]) Tryz.f160
def out20_I (g_n:Int) (g_l:List Arc) (g_i:List Int) (g_s:List Int) (n:Int):List (Nat × z0a):=[(160,out20_i0 g_n g_l g_i g_s n)]
def out20_IA:List SV->z0d->List (Nat × z0a):=fun args h=>match args,h with
 | [.ptr 0 0 0 0,.int .i64 n],[(0,.box false 137 [.int .i64 g_n,.row 1,.row 2,.row 3]),(1,.row false ty1 (.arcs g_l)),(2,.row false ty2 (.ints .i64 g_i)),(3,.row false ty3 (.ints .i64 g_s))]=>out20_I g_n g_l g_i g_s n
 | _,_=>[]
def in20_r (g_n:Int) (g_l:List Arc) (g_i:List Int) (g_s:List Int) (n:Int):FRes:={ pre:=PieceOk g_n g_i g_s n 1,res:=.row 4,rows:=[.row 3 (.ints .i64 (z0m g_i g_s n 1))],eff:=[] }
def in20_fs:FS:=fun args h=>match args,h with
 | [.ptr 0 0 0 0,.int .i64 n],[(0,.box false 137 [.int .i64 g_n,.row 1,.row 2,.row 3]),(1,.row false ty1 (.arcs g_l)),(2,.row false ty2 (.ints .i64 g_i)),(3,.row false ty3 (.ints .i64 g_s))]=>some (in20_r g_n g_l g_i g_s n)
 | _,_=>none
def in20_an (g_n:Int) (g_l:List Arc) (g_i:List Int) (g_s:List Int) (n:Int):List (Nat × Ann):=[]
def in20_A:List SV->z0d->List (Nat × Ann):=fun _ _=>[]
def in20_g:z0c:=[(zlm,(false,z9j))]
abbrev in20_n:Nat:=100
def in20_i0g:z0c:=[(has_n,(true,z02 true has_fs))]
def in20_i0 (g_n:Int) (g_l:List Arc) (g_i:List Int) (g_s:List Int) (n:Int):z0a:=inlI TT in20_i0g (fun args hp nk=>match args with | [y,c1,c2,c3]=>[(3,{ G:=Nat,inv:=fun k=>⟨[(0,y),(41,.row nk),(42,.int .i64 ((z0m g_i g_s n 1).length:Int)),(43,.int .i64 k)],[(6,.box true 37 [.row (nk+1)]),(nk+1,.row true 3 (.ints .i64 ((z0m g_i g_s n 1).take k))),(nk,.row false 3 (.ints .i64 (z0m g_i g_s n 1)))] ++ Vc.del 6 (Vc.del 5 hp),nk+2⟩,rel:=fun _ k=>k <= (z0m g_i g_s n 1).length,meas:=fun k=>(z0m g_i g_s n 1).length - k })] | _=>[]) Tryz.f160
def in20_I (g_n:Int) (g_l:List Arc) (g_i:List Int) (g_s:List Int) (n:Int):List (Nat × z0a):=[(160,in20_i0 g_n g_l g_i g_s n)]
def in20_IA:List SV->z0d->List (Nat × z0a):=fun args h=>match args,h with
 | [.ptr 0 0 0 0,.int .i64 n],[(0,.box false 137 [.int .i64 g_n,.row 1,.row 2,.row 3]),(1,.row false ty1 (.arcs g_l)),(2,.row false ty2 (.ints .i64 g_i)),(3,.row false ty3 (.ints .i64 g_s))]=>in20_I g_n g_l g_i g_s n
 | _,_=>[]
end Go.Proofs.YtggblkbecekbdaaGreat
end
