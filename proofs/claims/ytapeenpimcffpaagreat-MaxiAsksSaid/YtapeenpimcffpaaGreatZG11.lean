/- Part of the proof: Solve5, Solve6, Solve7, Solve8, Solve9, Solve10, Solve11, Solve12, Solve13, Solve14, Solve15, Solve16, Solve19, Maxi, DA21, FA21. -/
import Derived.Test.YtapeenpimcffpaaGreatZG10
import Derived.Test.YtapeenpimcffpaaGreatZG6
import Derived.Test.YtapeenpimcffpaaGreatZG5
set_option linter.all false
set_option linter.unusedSimpArgs false
set_option linter.unusedVariables false
set_option maxRecDepth 1000000
section
namespace Go.Ql
open Go Go.Vc
theorem posS_more {o p:List Int} {r:Nat} {u:Int} (hu:0 <= u):∀ {k:Nat},(∀ v,v < k->v ≠ r->max (p.getD v 0) 0 <= max (o.getD v 0) 0)->max (p.getD r 0) 0 <= max (o.getD r 0) 0 + u->zd6 p k <= zd6 o k + u
 | 0,_,_=>by rw [zd6,zd6]; omega
 | k + 1,h1,h2=>by
  rw [zd6,zd6]
  by_cases e:r = k
  ·subst e
   have:∀ j,j <= r->zd6 p j <= zd6 o j:=by
    intro j
    induction j with
    | zero=>intro _; exact Int.le_refl _
    | succ j ih=>intro hj; rw [zd6,zd6]; have:=ih (by omega); have:=h1 j (by omega) (by omega); omega
   have:=this r (Nat.le_refl _); omega
  ·have:=posS_more (o:=o) (p:=p) (r:=r) hu (k:=k) (fun v hv hne=>h1 v (by omega) hne) h2
   have:=h1 k (by omega) (fun e'=>e e'.symm); omega
theorem posS_push {I:Inst} (hr:z0a I = 0) {o:List Int} (ho:o.length = I.sup.length) {s:Stp} (hs:okS I s) {u:Int} (hu:0 <= u):zd6 (zdh I o s u) I.sup.length <= zd6 o I.sup.length + u:=by
 refine posS_more (r:=toS I s) hu (fun v hv hne=>?_) ?_
 ·rw [za4 (by rw [ho]; exact hv)]
  (repeat' split) <;> omega
 ·rw [za4 (by rw [ho]; exact toS_lt hr hs)]
  (repeat' split) <;> omega
def rcOk (I:Inst) (g:Nat->Int) (s:Stp):Prop:=g (toS I s) <= g (frS I s) + csS I s
theorem rc_flip {I:Inst} {g:Nat->Int} {a:Nat} {k:Bool} (h:¬ rcOk I g (a,k)):rcOk I g (a,!k):=by
 obtain ⟨f1,f2,f3⟩:=flip_ends I a k
 unfold rcOk at *
 rw [f1,f2,f3]; omega
structure SatI (I:Inst) (g:Nat->Int) (L B P:Int) (q:Nat) (done:Stp->Bool) (x o:List Int):Prop where
 n:NInv I x o B
 hi:∀ s,okS I s->2 * L <= rmS I x s->rcOk I g s
 lo:∀ s,okS I s->done s = true->L <= rmS I x s->rcOk I g s
 p:zd6 o I.sup.length <= P + 2 * L * q
theorem rmS_other {x:List Int} {I:Inst} {s t:Stp} {u:Int} (hl:x.length = I.arcs.length) (hs:okS I s) (h:t.1 ≠ s.1):rmS I (zbx x s u) t = rmS I x t:=by
 unfold rmS
 rw [z7l (by rw [hl]; exact hs),if_neg h,Int.add_zero]
theorem rmS_self {x:List Int} {I:Inst} {s:Stp} (hl:x.length = I.arcs.length) (hs:okS I s) (hc:s.2 = false->¬ (z4d I s.1).cap = inf):rmS I (zbx x s (rmS I x s)) s = 0:=by
 have e:=z7l (x:=x) (s:=s) (u:=rmS I x s) (a:=s.1) (by rw [hl]; exact hs)
 rw [if_pos rfl] at e
 unfold rmS at *
 rw [e]
 cases h:s.2 with
 | true=>simp only [h,if_true] at *; omega
 | false=>simp only [h,Bool.false_eq_true,if_false,if_neg (hc h)] at *; omega
theorem SatI.skip {I:Inst} {g:Nat->Int} {L B P:Int} {q a:Nat} {k:Bool} {x o:List Int} (h:SatI I g L B P q (z4l a (bif k then 1 else 0)) x o) (hL:0 <= L) (hn:L <= rmS I x (a,k)->rcOk I g (a,k)):SatI I g L B P (q + 1) (z4l a ((bif k then 1 else 0) + 1)) x o :=
  { n:=h.n,hi:=h.hi,
    lo:=fun s hs hd hr=>by
      rw [z7f] at hd
      by_cases e:s = (a,k)
      · subst e; exact hn hr
      · rw [decide_eq_false e,Bool.or_false] at hd
        exact h.lo s hs hd hr,
    p:=by
      have:=h.p
      have e:2 * L * ((q + 1:Nat):Int) = 2 * L * q + 2 * L:=by rw [Int.natCast_add,Int.mul_add]; simp
      omega }
theorem SatI.fill {I:Inst} (hr:z0a I = 0) {g:Nat->Int} {L B P:Int} {q a:Nat} {k:Bool} {x o:List Int} (h:SatI I g L B P q (z4l a (bif k then 1 else 0)) x o) (hL:1 <= L) (hB:4398046511104 <= B) (ha:a < I.arcs.length)
  (h1:L <= rmS I x (a,k)) (h2:¬ rcOk I g (a,k)) (hinf:endS I (a,k) = true->rcOk I g (a,k)):SatI I g L B P (q + 1) (z4l a ((bif k then 1 else 0) + 1)) (zbx x (a,k) (rmS I x (a,k))) (zdh I o (a,k) (rmS I x (a,k))):=by
 have hs:okS I (a,k):=ha
 have hlt:rmS I x (a,k) < 2 * L:=by
  apply Int.lt_of_not_ge
  intro hge
  exact h2 (h.hi _ hs hge)
 have hc:k = false->¬ (z4d I a).cap = inf:=fun hk hcap=>h2 (hinf (by subst hk; unfold endS; simp [hcap]))
 have hfl:=rc_flip h2
 have hz:=rmS_self (x:=x) (s:=(a,k)) h.n.over.lx hs hc
 have hother:∀ s,okS I s->s.1 ≠ a->rmS I (zbx x (a,k) (rmS I x (a,k))) s = rmS I x s:=fun s _ hne=>rmS_other h.n.over.lx hs hne
 have hcase:∀ s:Stp,s.1 = a->s = (a,k) ∨ s = (a,!k):=fun s hsa=>by
  obtain ⟨a',k'⟩:=s
  dsimp only at hsa
  subst hsa
  by_cases e:k' = k
  ·subst e; exact .inl rfl
  ·refine .inr ?_; cases k <;> cases k' <;> simp_all
 have hbt:=betw_push h.n.betw h.n.over.lx hs (show 0 <= rmS I x (a,k) by omega) (Int.le_refl _)
 refine ⟨⟨h.n.over.push hr hs _,hbt,fun c hcl=>?_⟩,fun s h3 h4=>?_,fun s h3 h4 h5=>?_,?_⟩
 ·by_cases e:c = a
  ·subst e
   have ok:=z5v hr hcl
   have hb:=hbt c hcl
   have hx:=z7l (x:=x) (s:=(c,k)) (u:=rmS I x (c,k)) (a:=c) (by rw [h.n.over.lx]; exact hs)
   rw [if_pos rfl] at hx
   dsimp only at hx
   have hbd:=h.n.bd c hcl
   have l0:=ok.l0
   have l1:=ok.l1
   refine ⟨by omega,?_⟩
   cases hk:k with
   | true =>
    subst hk
    simp only [if_true] at hx
    unfold rmS at hx ⊢
    simp only [if_true] at hx ⊢
    omega
   | false =>
    subst hk
    have hc2:=(ok.c.resolve_left (hc rfl)).2
    have:=hb.2.resolve_left (hc rfl)
    omega
  ·have hx:=z7l (x:=x) (s:=(a,k)) (u:=rmS I x (a,k)) (a:=c) (by rw [h.n.over.lx]; exact hs)
   rw [if_neg e,Int.add_zero] at hx
   rw [hx]; exact h.n.bd c hcl
 ·by_cases e:s.1 = a
  ·rcases hcase s e with rfl | rfl
   ·rw [hz] at h4; omega
   ·exact hfl
  ·rw [hother s h3 e] at h4; exact h.hi s h3 h4
 ·by_cases e:s.1 = a
  ·rcases hcase s e with rfl | rfl
   ·rw [hz] at h5; omega
   ·exact hfl
  ·rw [hother s h3 e] at h5
   rw [z7f,decide_eq_false (fun e'=>e (by rw [e'])),Bool.or_false] at h4
   exact h.lo s h3 h4 h5
 ·have:=posS_push hr h.n.over.lo hs (u:=rmS I x (a,k)) (by omega)
  have:=h.p
  have e:2 * L * ((q + 1:Nat):Int) = 2 * L * q + 2 * L:=by rw [Int.natCast_add,Int.mul_add]; simp
  omega
end Go.Ql
end
section
namespace Go.Ql
open Go Go.Vc
def MostI (I:Inst) (a:Nat) (m:Int):Prop:=(∀ c,c < a->(z4d I c).cap = inf ∨ (z4d I c).cap <= m)/\1 <= m/\m <= 536870912
structure SatG (I:Inst) (x o:List Int) (D:List (List Int)) (L:Int) (g:Nat->Int) (B P:Int):Prop where
 d:D = dRow I.sup.length fun v=>some (g v)
 gb:∀ v,v < I.sup.length->-144115188075855872 <= g v/\g v <= 144115188075855872
 b0:4398046511104 <= B
 b1:B <= 144115188075855872
 p:P + 2 * L * 512 <= 144115188075855872
 s:SatI I g L B P 0 (z4l 0 0) x o
 e:∀ s,okS I s->endS I s = true->rcOk I g s
def SatJ (I:Inst) (x0 o0:List Int) (D:List (List Int)) (L:Int) (a j:Nat) (x o:List Int):Prop:=∀ g B P,SatG I x0 o0 D L g B P->SatI I g L B P (2 * a + j) (z4l a j) x o
structure SatP (I:Inst) (x0 o0:List Int) (D:List (List Int)) (L:Int) (x o:List Int):Prop where
 all:∀ g B P,SatG I x0 o0 D L g B P->SatI I g L B P (2 * I.arcs.length) allD x o
theorem SatI.bounds {I:Inst} (hr:z0a I = 0) {g:Nat->Int} {L B P:Int} {q:Nat} {done:Stp->Bool} {x o:List Int} (h:SatI I g L B P q done x o) (hL:1 <= L) (hq:q <= 512) (hB:B <= 144115188075855872) (hP:P + 2 * L * 512 <= 144115188075855872):x.length = I.arcs.length/\o.length = I.sup.length/\YB x/\YB o:=by
 have hPq:2 * L * (q:Int) <= 2 * L * 512:=Int.mul_le_mul_of_nonneg_left (by omega) (by omega)
 have hp:=h.p
 refine ⟨h.n.over.lx,h.n.over.lo,yb_of fun k hk=>?_,yb_of fun k hk=>?_⟩
 ·have:=h.n.bd k (by rw [<- h.n.over.lx]; exact hk); omega
 ·have:=over_bd hr h.n.over (v:=k) (by rw [<- h.n.over.lo]; exact hk); omega
theorem SatI.congr {I:Inst} {g:Nat->Int} {L B P:Int} {q q':Nat} {done done':Stp->Bool} {x o:List Int} (h:SatI I g L B P q done x o) (hL:0 <= L) (hd:∀ s,okS I s->done' s = true->done s = true) (hq:q <= q'):SatI I g L B P q' done' x o :=
  { n:=h.n,hi:=h.hi,lo:=fun s hs hds hr=>h.lo s hs (hd s hs hds) hr,
    p:=by
      have:=h.p
      have:2 * L * (q:Int) <= 2 * L * q':=Int.mul_le_mul_of_nonneg_left (by omega) (by omega)
      omega }
theorem SatJ.skip {I:Inst} {x0 o0:List Int} {D:List (List Int)} {L:Int} {a:Nat} {k:Bool} {x o:List Int} (h:SatJ I x0 o0 D L a (bif k then 1 else 0) x o) (hL:0 <= L) (hn:L <= rmS I x (a,k)->∀ g:Nat->Int,D = dRow I.sup.length (fun v=>some (g v))->rcOk I g (a,k)):SatJ I x0 o0 D L a ((bif k then 1 else 0) + 1) x o :=
 fun g B P hG=>(h g B P hG).skip hL fun hl=>hn hl g hG.d
theorem SatJ.fill {I:Inst} (hr:z0a I = 0) {x0 o0:List Int} {D:List (List Int)} {L:Int} {a:Nat} {k:Bool} {x o:List Int} (h:SatJ I x0 o0 D L a (bif k then 1 else 0) x o) (hL:1 <= L) (ha:a < I.arcs.length) (h1:L <= rmS I x (a,k)) (hn:∀ g:Nat->Int,D = dRow I.sup.length (fun v=>some (g v))->¬ rcOk I g (a,k)) :
  SatJ I x0 o0 D L a ((bif k then 1 else 0) + 1) (zbx x (a,k) (rmS I x (a,k))) (zdh I o (a,k) (rmS I x (a,k))) :=
 fun g B P hG=>(h g B P hG).fill hr hL hG.b0 ha h1 (hn g hG.d) (hG.e (a,k) ha)
theorem SatJ.next {I:Inst} {x0 o0:List Int} {D:List (List Int)} {L:Int} {a:Nat} {x o:List Int} (h:SatJ I x0 o0 D L a 2 x o) (hL:0 <= L):SatJ I x0 o0 D L (a + 1) 0 x o:=fun g B P hG=>(h g B P hG).congr hL (fun s _ hd=>by rw [doneJ_two]; exact hd) (by omega)
theorem SatJ.done {I:Inst} {x0 o0:List Int} {D:List (List Int)} {L:Int} {x o:List Int} (h:SatJ I x0 o0 D L I.arcs.length 0 x o) (hL:0 <= L):SatP I x0 o0 D L x o:=⟨fun g B P hG=>(h g B P hG).congr hL (fun s hs _=>doneJ_all hs) (by omega)⟩
theorem MostI.arc {I:Inst} {a:Nat} {m:Int} (h:MostI I a m) {y:Arc} (hy:I.arcs[a]? = some y) {m':Int} (hm:m <= m') (hc:y.cap = inf ∨ y.cap <= m') (hl:m' <= 536870912):MostI I (a + 1) m':=by
 refine ⟨fun c hc2=>?_,by have:=h.2.1; omega,hl⟩
 by_cases e:c = a
 ·subst e; rw [arcN_get hy]; exact hc
 ·exact (h.1 c (by omega)).imp id (by omega)
end Go.Ql
end
section
namespace Go.Ql
open Go Go.Vc
end Go.Ql
end
section
namespace Go.Ql
open Go Go.Vc
end Go.Ql
end
section
namespace Go.Ql
open Go Go.Vc
structure Circ (I:Inst) (b:Nat->Option Stp) (m k:Nat):Prop where
 mn:m < I.sup.length
 k1:1 <= k
 kn:k <= I.sup.length
 all:∀ i,∃ s,b (z4k I b m i) = some s/\okS I s/\endS I s = true/\toS I s = z4k I b m i
 back:z4k I b m k = m
 not:∀ i,1 <= i->i < k->z4k I b m i ≠ m
 neg:zgd I b m k < 0
def arcB (I:Inst) (b:Nat->Option Stp) (m i:Nat):Int:=match b (z4k I b m i) with
 | some s=>(s.1:Int)
 | none=>0
def circL (I:Inst) (b:Nat->Option Stp) (m k:Nat):List Int:=(List.range k).map (arcB I b m)
theorem circL_succ (I:Inst) (b:Nat->Option Stp) (m k:Nat):circL I b m (k + 1) = circL I b m k ++ [arcB I b m k]:=by
 unfold circL; rw [List.range_succ,List.map_append]; rfl
theorem Circ.arc {I:Inst} (hr:z0a I = 0) {b:Nat->Option Stp} {m k:Nat} (h:Circ I b m k) (i:Nat):∃ a,a < I.arcs.length/\b (z4k I b m i) = some (a,false)/\arcB I b m i = (a:Int)/\(z4d I a).cap = inf/\(z4d I a).dst = (z4k I b m i:Int)/\(z4d I a).src = (z4k I b m (i + 1):Int):=by
 obtain ⟨⟨a,q⟩,hs,ha,he,ht⟩:=h.all i
 unfold endS at he
 rw [Bool.and_eq_true,Bool.not_eq_true',decide_eq_true_eq] at he
 have hq:q = false:=he.1
 subst hq
 have ok:=z5v hr (show a < I.arcs.length from ha)
 have:=ok.s0; have:=ok.d0
 unfold toS at ht
 simp only [Bool.false_eq_true,if_false] at ht
 refine ⟨a,ha,hs,by unfold arcB; rw [hs],he.2,by omega,?_⟩
 rw [z4k,hs]
 show (z4d I a).src = ((frS I (a,false):Nat):Int)
 unfold frS
 simp only [Bool.false_eq_true,if_false]
 omega
theorem Circ.cost {I:Inst} (hr:z0a I = 0) {b:Nat->Option Stp} {m k:Nat} (h:Circ I b m k):∀ j,((circL I b m j).map (rayD I)).sum = zgd I b m j
 | 0=>rfl
 | j + 1=>by
  obtain ⟨a,ha,hb,ea,-⟩:=h.arc hr j
  have e1:z3h I (a:Int) = true:=isArcF_iff.2 ⟨by omega,by omega⟩
  rw [circL_succ,List.map_append,List.sum_append,h.cost hr j,zgd,hb,ea]
  have e2:rayD I (a:Int) = csS I (a,false):=by
   unfold rayD csS z7t z4d
   rw [if_pos e1,Int.toNat_natCast]
   rfl
  simp [e2]
theorem ShortP.ok {I:Inst} {cnt:Stp->Bool} {start:Nat->Bool} {d:Nat->Option Int} {b:Nat->Option Stp} {e:Option Nat} (h:ShortP I cnt start d b e) {v:Nat} {s:Stp} (hv:v < I.sup.length) (hs:b v = some s):okS I s:=by
 obtain ⟨r,⟨⟨τ,T,t,hB⟩,-⟩,-⟩:=h.inv
 exact (hB.by_ v s hv hs).1
end Go.Ql
end
section
namespace Go.Ql
open Go Go.Vc
structure SeI (I:Inst) (x o:List Int) (m:List Bool) (b:Nat->Option Stp) (pend:Stp->Prop):Prop where
 lm:m.length = I.sup.length
 st:∀ v,v < I.sup.length->0 < o.getD v 0->m.getD v false = true
 no:∀ v,v < I.sup.length->m.getD v false = true->b v = none->0 < o.getD v 0
 un:∀ v,v < I.sup.length->m.getD v false = false->b v = none
 by_:∀ v s,v < I.sup.length->b v = some s->okS I s/\toS I s = v/\0 < rmS I x s/\m.getD (frS I s) false = true
 tree:∃ ρ:Nat->Nat,∀ v s,v < I.sup.length->b v = some s->ρ (frS I s) < ρ v
 cl:∀ s,okS I s->0 < rmS I x s->m.getD (frS I s) false = true->m.getD (toS I s) false = true ∨ pend s
def SeG (I:Inst) (o:List Int) (m:List Bool):Prop:=∀ v,v < I.sup.length->m.getD v false = true->0 <= o.getD v 0
theorem SeI.skip {I:Inst} {x o:List Int} {m:List Bool} {b:Nat->Option Stp} {pend pend':Stp->Prop} (h:SeI I x o m b pend) (hp:∀ s,okS I s->pend s->m.getD (toS I s) false = true ∨ ¬ 0 < rmS I x s ∨ pend' s):SeI I x o m b pend' :=
 { h with cl:=fun s h1 h2 h3=>(h.cl s h1 h2 h3).elim .inl fun h4=>(hp s h1 h4).elim .inl fun h5=>h5.elim (fun h6=>absurd h2 h6) .inr }
theorem ze5 {m:List Bool} {k v:Nat} (hk:k < m.length):(m.set k true).getD v false = if v = k then true else m.getD v false:=by
 rw [List.getD_eq_getElem?_getD,List.getElem?_set]
 by_cases e:k = v
 ·subst e; simp [hk]
 ·rw [if_neg e,if_neg (fun h=>e h.symm),List.getD_eq_getElem?_getD]
theorem SeI.take {I:Inst} (hr:z0a I = 0) {x o:List Int} {m:List Bool} {b:Nat->Option Stp} {pend pend':Stp->Prop} (h:SeI I x o m b pend) {t:Stp} (ht:okS I t) (hf:m.getD (frS I t) false = true) (hm:m.getD (toS I t) false = false) (hrm:0 < rmS I x t)
  (hp:∀ s,pend s->s = t ∨ pend' s) (hq:∀ s,frS I s = toS I t->pend' s):SeI I x o (m.set (toS I t) true) (fun v=>if v = toS I t then some t else b v) pend':=by
 have hlt:=toS_lt hr ht
 have hg:∀ v,(m.set (toS I t) true).getD v false = if v = toS I t then true else m.getD v false:=fun v=>ze5 (by rw [h.lm]; exact hlt)
 have hfne:frS I t ≠ toS I t:=fun e=>by rw [e,hm] at hf; cases hf
 obtain ⟨ρ,hρ⟩:=h.tree
 refine ⟨by rw [List.length_set]; exact h.lm,fun v hv h1=>?_,fun v hv h1 h2=>?_,fun v hv h1=>?_,fun v s hv h1=>?_,⟨fun v=>if v = toS I t then ρ (frS I t) + 1 else ρ v,fun v s hv h1=>?_⟩,fun s h1 h2 h3=>?_⟩
 ·rw [hg]; split
  ·rfl
  ·exact h.st v hv h1
 ·try dsimp only at h2
  split at h2
  ·cases h2
  ·rename_i hne
   rw [hg,if_neg hne] at h1
   exact h.no v hv h1 h2
 ·rw [hg] at h1
  split at h1
  ·cases h1
  ·rename_i hne
   try dsimp only
   rw [if_neg hne]; exact h.un v hv h1
 ·try dsimp only at h1
  split at h1
  ·rename_i he
   cases h1
   refine ⟨ht,he.symm,hrm,?_⟩
   rw [hg,if_neg hfne]; exact hf
  ·obtain ⟨q1,q2,q3,q4⟩:=h.by_ v s hv h1
   refine ⟨q1,q2,q3,?_⟩
   rw [hg]; split
   ·rfl
   ·exact q4
 ·try dsimp only at h1 ⊢
  split at h1
  ·rename_i he
   cases h1
   rw [if_neg hfne,if_pos he]
   exact Nat.lt_succ_self _
  ·rename_i hne
   obtain ⟨q1,q2,q3,q4⟩:=h.by_ v s hv h1
   have:frS I s ≠ toS I t:=fun e=>by rw [e,hm] at q4; cases q4
   rw [if_neg this,if_neg hne]
   exact hρ v s hv h1
 ·by_cases e:frS I s = toS I t
  ·exact .inr (hq s e)
  ·rw [hg,if_neg e] at h3
   rcases h.cl s h1 h2 h3 with h4 | h4
   ·left; rw [hg]; split
    ·rfl
    ·exact h4
   ·rcases hp s h4 with rfl | h5
    ·left; rw [hg,if_pos rfl]
    ·exact .inr h5
theorem SeG.take {I:Inst} {o:List Int} {m:List Bool} (h:SeG I o m) {k:Nat} (hk:k < m.length) (ho:0 <= o.getD k 0):SeG I o (m.set k true):=fun v hv hm=>by
 rw [ze5 hk] at hm
 split at hm
 ·rename_i e; rw [e]; exact ho
 ·exact h v hv hm
structure FillI (I:Inst) (x o:List Int):Prop where
 inv:∃ B,NInv I x o B/\0 <= B/\B + zd6 o I.sup.length <= 144115188075855872
theorem FillI.xb {I:Inst} {x o:List Int} (h:FillI I x o):YB x:=by
 obtain ⟨B,hN,hB,hb⟩:=h.inv
 have hps:=z66 o I.sup.length
 exact yb_of fun i hi=>by have:=hN.bd i (by rw [<- hN.over.lx]; exact hi); omega
theorem FillI.ob {I:Inst} {x o:List Int} (hr:z0a I = 0) (h:FillI I x o):YB o:=by
 obtain ⟨B,hN,hB,hb⟩:=h.inv
 have hps:=z66 o I.sup.length
 exact yb_of fun k hk=>by have:=over_bd hr hN.over (v:=k) (by rw [<- hN.over.lo]; exact hk); omega
structure LayI (I:Inst) (x o:List Int) (m:List Bool) (b:Nat->Option Stp) (L X:List Nat) (p:Stp->Prop):Prop where
 i:SeI I x o m b (fun s=>frS I s ∈ L ∨ frS I s ∈ X ∨ p s)
 g:SeG I o m
 l:∀ v ∈ L,v < I.sup.length/\m.getD v false = true
 x:∀ v ∈ X,v < I.sup.length/\m.getD v false = true
section
variable {I:Inst} {x o:List Int} {m:List Bool} {b:Nat->Option Stp}
theorem LayI.pass {L X:List Nat} {l:List Stp} {j:Nat} {t:Stp} (h:LayI I x o m b L X (fun s=>s ∈ l.drop j)) (ht:l[j]? = some t) (hp:m.getD (toS I t) false = true ∨ ¬ 0 < rmS I x t):LayI I x o m b L X (fun s=>s ∈ l.drop (j + 1)):=by
 have hd:l.drop j = t :: l.drop (j + 1):=z2p ht
 refine ⟨h.i.skip fun s _ h2=>?_,h.g,h.l,h.x⟩
 rcases h2 with h2 | h2 | h2
 ·exact .inr (.inr (.inl h2))
 ·exact .inr (.inr (.inr (.inl h2)))
 ·rw [hd] at h2
  rcases List.mem_cons.1 h2 with e | h2
  ·subst e; rcases hp with hp | hp
   ·exact .inl hp
   ·exact .inr (.inl hp)
  ·exact .inr (.inr (.inr (.inr h2)))
theorem LayI.take (hr:z0a I = 0) {L X:List Nat} {l:List Stp} {j:Nat} {t:Stp} (h:LayI I x o m b L X (fun s=>s ∈ l.drop j)) (ht:l[j]? = some t) (hok:okS I t) (hf:m.getD (frS I t) false = true) (hm:m.getD (toS I t) false = false) (hrm:0 < rmS I x t) (ho:0 <= o.getD (toS I t) 0) :
  LayI I x o (m.set (toS I t) true) (fun v=>if v = toS I t then some t else b v) L (X ++ [toS I t]) (fun s=>s ∈ l.drop (j + 1)):=by
 have hd:l.drop j = t :: l.drop (j + 1):=z2p ht
 have hlt:=toS_lt hr hok
 have hml:toS I t < m.length:=by rw [h.i.lm]; exact hlt
 have hset:∀ v,m.getD v false = true->(m.set (toS I t) true).getD v false = true:=fun v hv=>by
  rw [ze5 hml]; split
  ·rfl
  ·exact hv
 refine ⟨h.i.take hr hok hf hm hrm (fun s h2=>?_) (fun s e=>.inr (.inl (by rw [e]; simp))),h.g.take hml ho,fun v hv=>⟨(h.l v hv).1,hset v (h.l v hv).2⟩,fun v hv=>?_⟩
 ·rcases h2 with h2 | h2 | h2
  ·exact .inr (.inl h2)
  ·exact .inr (.inr (.inl (by simp [h2])))
  ·rw [hd] at h2
   rcases List.mem_cons.1 h2 with e | h2
   ·exact .inl e
   ·exact .inr (.inr (.inr h2))
 ·rcases List.mem_append.1 hv with hv | hv
  ·exact ⟨(h.x v hv).1,hset v (h.x v hv).2⟩
  ·simp at hv
   subst hv
   exact ⟨hlt,by rw [ze5 hml,if_pos rfl]⟩
theorem LayI.next {L X:List Nat} {i:Nat} (h:LayI I x o m b (L.drop i) X (fun _=>False)) (hi:L.length <= i):LayI I x o m b X [] (fun _=>False):=by
 rw [List.drop_eq_nil_of_le hi] at h
 refine ⟨h.i.skip fun s _ h2=>?_,h.g,h.x,fun v hv=>by simp at hv⟩
 rcases h2 with h2 | h2 | h2
 ·simp at h2
 ·exact .inr (.inr (.inl h2))
 ·exact h2.elim
end
end Go.Ql
end
section
namespace Go.Ql
open Go Go.Vc
structure LowI (I:Inst) (a:Nat) (x o:List Int):Prop where
 over:OverOf I x o
 at_:∀ c,c < I.arcs.length->x.getD c 0 = if c < a then (z4d I c).low else 0
 bd:∀ v,v < I.sup.length->-(4398046511104 * (2 * (a:Int) + 1)) <= o.getD v 0/\o.getD v 0 <= 4398046511104 * (2 * (a:Int) + 1)
 pos:zd6 o I.sup.length <= 4398046511104 * ((I.sup.length:Int) + a)
theorem LowI.next {I:Inst} (hr:z0a I = 0) {a:Nat} {x o:List Int} (h:LowI I a x o) (ha:a < I.arcs.length):LowI I (a + 1) (zbx x (a,false) (z4d I a).low) (zdh I o (a,false) (z4d I a).low):=by
 have hk:=z5v hr ha
 have hl0:=hk.l0; have hl1:=hk.l1
 refine ⟨h.over.push hr (s:=(a,false)) ha _,fun c hc=>?_,fun v hv=>?_,?_⟩
 ·rw [z7l (by rw [h.over.lx]; exact ha),h.at_ c hc]
  by_cases e:c = a
  ·subst e; rw [if_neg (Nat.lt_irrefl _),if_pos rfl,if_pos (Nat.lt_succ_self _)]; simp
  ·rw [if_neg (show ¬ c = ((a,false):Stp).1 from e)]
   by_cases h2:c < a
   ·rw [if_pos h2,if_pos (by omega)]; omega
   ·rw [if_neg h2,if_neg (by omega)]; rfl
 ·have:=h.bd v hv
  rw [za4 (by rw [h.over.lo]; exact hv)]
  have e:((a + 1:Nat):Int) = a + 1:=by omega
  rw [e]
  repeat' split <;> omega
 ·have:=posS_push hr h.over.lo (s:=(a,false)) ha hl0
  have:=h.pos
  have e:((a + 1:Nat):Int) = a + 1:=by omega
  rw [e]
  omega
theorem LowI.xb {I:Inst} (hr:z0a I = 0) {a:Nat} {x o:List Int} (h:LowI I a x o) (ha:a <= I.arcs.length):XB x/\XB o:=by
 have hs:=z0n hr
 refine ⟨xb_of fun k hk=>?_,xb_of fun k hk=>?_⟩
 ·have hk2:k < I.arcs.length:=by rw [<- h.over.lx]; exact hk
  have:=z5v hr hk2
  have:=this.l0; have:=(z5v hr hk2).l1
  rw [h.at_ k hk2]
  split <;> omega
 ·have:=h.bd k (by rw [<- h.over.lo]; exact hk)
  omega
end Go.Ql
end
section
namespace Go.Ql
open Go Go.Vc
theorem YB.nil:YB []:=fun y hy=>by simp at hy
end Go.Ql
end
section
namespace Go.Ql
open Go Go.Vc
theorem YB.a64 {x:List Int} (h:YB x):A64 x:=fun y hy=>by have:=h y hy; unfold I64; omega
theorem zcq {I:Inst} {x p:List Int} (h:z0p I x p = 0):z0v I x = 0:=by
 unfold z0p at h
 split at h
 ·rename_i hn; exact absurd h hn
 ·rename_i hn; exact Classical.byContradiction hn
structure ValueP (I:Inst) (w:Wide) (k:Int):Prop where
 ex:∃ c,z0j c/\z0x I c = 0/\c.kind = k/\w = zdc I c
 yb:∃ c,z0j c/\z0x I c = 0/\YB c.flow/\YB c.pot/\∀ C:Int,0 <= C->(∀ s,okS I s->-C <= csS I s/\csS I s <= C)->∀ k,-(C * 32768) <= c.pot.getD k 0/\c.pot.getD k 0 <= C * 32768
theorem ValueP.one {I:Inst} {w:Wide} {k:Int} (h:ValueP I w k) {c:Cert} (hc:z0j c) (h1:z0x I c = 0):k = c.kind/\w = zdc I c:=by
 obtain ⟨d,q1,q2,rfl,rfl⟩:=h.ex
 exact cert_one q1 hc q2 h1
theorem ValueP.pos {I:Inst} {w:Wide} {k:Int} (h:ValueP I w k):z0a I = 0/\(k = 1 ∨ k = 2 ∨ k = 3):=by
 obtain ⟨d,q1,q2,rfl,rfl⟩:=h.ex
 obtain ⟨hr,hp,-⟩:=z4e q2
 exact ⟨hr,z8r hp⟩
def FeasQ (I:Inst):Prop:=∃ x,A64 x/\z0v I x = 0
def NegQ (I:Inst):Prop:=∃ l,z1y I l = 0/\l.length <= 140737488351232
theorem ValueP.feas {I:Inst} {w:Wide} {k:Int} (h:ValueP I w k) (hk:k ≠ 2):FeasQ I:=by
 obtain ⟨d,q1,q2,rfl,-⟩:=h.ex
 obtain ⟨hr,-,q3⟩:=z4e q2
 rcases q3 with ⟨-,a⟩ | ⟨a,-⟩ | ⟨-,a,-⟩
 ·exact ⟨_,q1.1,zcq a⟩
 ·omega
 ·exact ⟨_,q1.1,a⟩
theorem ValueP.neg {I:Inst} {w:Wide} {k:Int} (h:ValueP I w k) (hk:k ≠ 2):k = 3 ↔ NegQ I:=by
 refine ⟨fun h3=>?_,fun ⟨l,hl,hll⟩=>?_⟩
 ·obtain ⟨d,q1,q2,rfl,-⟩:=h.ex
  obtain ⟨hr,-,q3⟩:=z4e q2
  rcases q3 with ⟨a,-⟩ | ⟨a,-⟩ | ⟨-,-,a⟩
  ·omega
  ·omega
  ·exact ⟨_,a,q1.2.2.2.2.2⟩
 ·obtain ⟨x,hx,hf⟩:=h.feas hk
  have hlen:=(fitsF_zero.1 hf).2.1
  have hr:=(fitsF_zero.1 hf).1
  have hs:=z0n hr
  have hc:z0x I ⟨3,x,[],[],l⟩ = 0:=by
   unfold z0x z1r
   simp [hr,hf,hl]
  exact (h.one (c:=⟨3,x,[],[],l⟩) ⟨hx,YB.nil.a64,by dsimp only; omega,by simp,by simp,hll⟩ hc).1
structure ArcFew (n:Int) (a:Arc):Prop where
 s0:0 <= a.src
 s1:a.src < n
 d0:0 <= a.dst
 d1:a.dst < n
 l0:0 <= a.low
 l1:a.low <= 500
 c:a.cap = inf ∨ a.low <= a.cap/\a.cap <= 2000
 k0:-2000 <= a.cost
 k1:a.cost <= 2000
structure FewI (I:Inst):Prop where
 n1:1 <= I.sup.length
 n2:I.sup.length <= 30
 m:I.arcs.length <= 64
 arc:∀ a ∈ I.arcs,ArcFew I.sup.length a
 sup:Within 100000 I.sup
 sum:I.sup.sum = 0
theorem FewI.right {I:Inst} (h:FewI I):z0a I = 0:=by
 have:=h.n2; have:=h.m
 refine right_of (by omega) (by omega) (fun a ha=>?_) (fun x hx=>by have:=h.sup x hx; omega) h.sum
 have h:=h.arc a ha
 have hi:inf = 4611686018427387904:=rfl
 have:=h.s0; have:=h.s1; have:=h.d0; have:=h.d1; have:=h.l0; have:=h.l1; have:=h.c; have:=h.k0; have:=h.k1
 unfold z0d
 rw [if_neg (by omega),if_neg (by omega),if_neg (by omega),if_neg (by omega)]
theorem ValueP.none {I:Inst} {w:Wide} {k:Int} (h:ValueP I w k) (hk:k ≠ 1):w = ⟨0,0⟩:=by
 obtain ⟨d,q1,q2,rfl,rfl⟩:=h.ex
 unfold zdc; rw [if_neg hk]
end Go.Ql
end
section
namespace Go.Ql
open Go Go.Vc
def z44 {α:Type} (f:α->α) (s:List α) (k:Nat):List α:=(s.take k).map f ++ s.drop k
section
variable {α:Type} (f:α->α) (s:List α)
theorem stepL_zero:z44 f s 0 = s:=by simp [z44]
theorem zaf (k:Nat):(z44 f s k).length = s.length:=by simp [z44]; omega
theorem stepL_end {k:Nat} (h:s.length <= k):z44 f s k = s.map f:=by unfold z44; rw [List.take_of_length_le h,List.drop_eq_nil_of_le h,List.append_nil]
variable {f s}
theorem stepL_get {k:Nat} {x:α} (h:(z44 f s k)[k]? = some x):s[k]? = some x:=by
 have hk:=(List.getElem?_eq_some_iff.1 h).1
 rw [zaf] at hk
 unfold z44 at h
 rw [List.getElem?_append_right (by simp; omega)] at h
 rw [List.length_map,List.length_take,Nat.min_eq_left (by omega),Nat.sub_self,List.getElem?_drop,Nat.add_zero] at h
 exact h
theorem stepL_set {k:Nat} {x y:α} (h:s[k]? = some x) (hy:y = f x):(z44 f s k).set k y = z44 f s (k + 1):=by
 have hk:=(List.getElem?_eq_some_iff.1 h).1
 subst hy
 have hl:((s.take k).map f).length = k:=by simp; omega
 unfold z44
 rw [List.set_append_right _ _ (by omega),hl,Nat.sub_self,z2p h,List.set_cons_zero,z1a h,List.map_append]
 simp
end
def swapA (a:Arc):Arc:=⟨a.dst,a.src,a.low,a.cap,a.cost⟩
end Go.Ql
end
section
namespace Go.Ql
open Go Go.Vc
end Go.Ql
end
section
namespace Go.Ql
open Go Go.Vc
def redN (I:Inst) (p:List Int) (c:Nat):Int:=(z4d I c).cost - p.getD (z4d I c).src.toNat 0 + p.getD (z4d I c).dst.toNat 0
end Go.Ql
end
section
namespace Go.Ql
open Go Go.Vc
end Go.Ql
end
section
namespace Go.Ql
open Go Go.Vc
structure ProbD where
 most:Bool
 inst:Inst
 s:Int
 t:Int
def z9e (a:Arc):Bool:=decide (a.low = 0) && decide (a.cost = 0)
def z4x (I:Inst):Bool:=I.sup.all (fun y=>decide (y = 0)) && I.arcs.all z9e
def z4s (I:Inst) (n:Int):Bool:=decide (0 <= n) && decide (n < I.sup.length)
structure FitP (p:ProbD):Prop where
 m:p.most = true
 r:z0a p.inst = 0
 b:z4x p.inst = true
 s:z4s p.inst p.s = true
 t:z4s p.inst p.t = true
 d:p.s ≠ p.t
def z8k (p:ProbD):Bool:=p.most && (decide (z0a p.inst = 0) && (z4x p.inst && ((z4s p.inst p.s && z4s p.inst p.t) && !decide (p.s = p.t))))
structure AllI (p:ProbD) (k:Nat):Prop where
 n:k <= 5
 m:1 <= k->p.most = true
 r:2 <= k->z0a p.inst = 0
 b:3 <= k->z4x p.inst = true
 st:4 <= k->(z4s p.inst p.s && z4s p.inst p.t) = true
 d:5 <= k->p.s ≠ p.t
theorem fitP_iff {p:ProbD}:z8k p = true ↔ FitP p:=by
 unfold z8k
 simp only [Bool.and_eq_true,decide_eq_true_eq,Bool.not_eq_true',decide_eq_false_iff_not]
 exact ⟨fun ⟨a,b,c,⟨d,e⟩,f⟩=>⟨a,b,c,d,e,f⟩,fun ⟨a,b,c,d,e,f⟩=>⟨a,b,c,⟨d,e⟩,f⟩⟩
def ofE (p:ProbD):Int:=if z8k p = true then (if 256 <= p.inst.arcs.length then 20 else 0) else 1
def backA (p:ProbD):Arc:=⟨p.t,p.s,0,4611686018427387904,-1⟩
def ofP (p:ProbD):Inst:=⟨p.inst.sup,p.inst.arcs ++ [backA p]⟩
def ofI (p:ProbD):Inst:=if ofE p = 0 then ofP p else ⟨[],[]⟩
theorem ofE_zero {p:ProbD}:ofE p = 0 ↔ FitP p/\p.inst.arcs.length < 256:=by
 unfold ofE
 rw [<- fitP_iff]
 by_cases h:z8k p = true
 ·rw [if_pos h]
  by_cases h2:256 <= p.inst.arcs.length
  ·rw [if_pos h2]; exact ⟨fun h=>absurd h (by decide),fun h=>by omega⟩
  ·rw [if_neg h2]; exact ⟨fun _=>⟨h,by omega⟩,fun _=>rfl⟩
 ·rw [if_neg h]; exact ⟨fun h=>absurd h (by decide),fun h2=>absurd h2.1 h⟩
theorem nodeP_iff {I:Inst} {n:Int}:z4s I n = true ↔ 0 <= n/\n < I.sup.length:=by
 unfold z4s; rw [Bool.and_eq_true,decide_eq_true_eq,decide_eq_true_eq]
theorem bareF_iff {I:Inst}:z4x I = true ↔ (∀ y ∈ I.sup,y = 0)/\∀ a ∈ I.arcs,a.low = 0/\a.cost = 0:=by
 unfold z4x z9e
 simp only [Bool.and_eq_true,List.all_eq_true,decide_eq_true_eq]
theorem zcp {I:Inst} (h:z0a I = 0) {a:Arc} (ha:a ∈ I.arcs):z0d a I.sup.length = 0:=by
 obtain ⟨h1,h2,h3⟩:=z1b h ha
 unfold z25 at h1
 simp only [Bool.and_eq_true,decide_eq_true_eq] at h1
 unfold z0d
 rw [if_neg (by omega),if_neg (by omega),if_neg (by omega),if_neg (by omega)]
theorem z7j {p:ProbD} (h:ofE p = 0):z0a (ofP p) = 0:=by
 obtain ⟨hf,hl⟩:=ofE_zero.1 h
 have hr:=hf.r
 have hs:=z0n hr
 have hw:=z3z hr
 have h1:=nodeP_iff.1 hf.s; have h2:=nodeP_iff.1 hf.t; have h3:=hf.d
 refine right_of hs.1 (by unfold ofP; simp; omega) (fun a ha=>?_) (fun x hx=>hw.1 x hx) hw.2
 unfold ofP at ha ⊢
 dsimp only at ha ⊢
 rcases List.mem_append.1 ha with ha | ha
 ·exact zcp hr ha
 ·rw [List.mem_singleton] at ha
  subst ha
  unfold z0d backA
  rw [if_neg (by dsimp only; omega),if_neg (by dsimp only; omega),if_neg (by dsimp only; omega),if_neg (by dsimp only; omega)]
theorem ze2 {I:Inst} (h:z0a I = 0):z2b I:=by
 obtain ⟨a1,a2,a3,-⟩:=right_A64 h
 have hs:=z0n h
 exact ⟨by omega,by omega,a3,a1,a2⟩
def z13 (p:ProbD) (c:Cert):Bool:=decide (ofE p = 0) && (decide (c.kind = 1) && decide (z0x (ofI p) c = 0))
structure GoodP (p:ProbD) (c:Cert):Prop where
 e:ofE p = 0
 k:c.kind = 1
 c:z0x (ofP p) c = 0
theorem goodP_iff {p:ProbD} {c:Cert}:z13 p c = true ↔ GoodP p c:=by
 unfold z13
 simp only [Bool.and_eq_true,decide_eq_true_eq]
 constructor
 ·rintro ⟨a,b,d⟩; unfold ofI at d; rw [if_pos a] at d; exact ⟨a,b,d⟩
 ·rintro ⟨a,b,d⟩; unfold ofI; rw [if_pos a]; exact ⟨a,b,d⟩
theorem GoodP.slack {p:ProbD} {c:Cert} (h:GoodP p c):z0p (ofP p) c.flow c.pot = 0:=by
 obtain ⟨-,-,h3⟩:=z4e h.c
 have:=h.k
 rcases h3 with h3 | h3 | h3
 ·exact h3.2
 ·omega
 ·omega
theorem GoodP.len {p:ProbD} {c:Cert} (h:GoodP p c):c.flow.length = p.inst.arcs.length + 1/\c.pot.length = p.inst.sup.length:=by
 have hs:=h.slack
 have hf:=(fitsF_zero.1 (zcq hs)).2.1
 refine ⟨by rw [hf]; simp [ofP],?_⟩
 unfold z0p at hs
 rw [if_neg (fun hn=>hn (zcq (by unfold z0p; exact hs)))] at hs
 split at hs
 ·cases hs
 ·rename_i hh; exact Classical.byContradiction hh
def z6d (p:ProbD) (c:Cert):Int:=if z13 p c = true then c.flow.getD p.inst.arcs.length 0 else 0
def z23 (p:ProbD) (c:Cert):List Int:=if z13 p c = true then c.flow.take p.inst.arcs.length else []
def z5c (p:ProbD) (c:Cert):List Bool:=c.pot.map (fun y=>decide (c.pot.getD p.t.toNat 0 < y))
def z1q (p:ProbD) (c:Cert):List Bool:=if z13 p c = true then z5c p c else []
structure OnP (p:ProbD) (S:List Bool):Prop where
 e:ofE p = 0
 l:S.length = p.inst.sup.length
 s:S.getD p.s.toNat false = true
 t:S.getD p.t.toNat false = false
instance (p:ProbD) (S:List Bool):Decidable (OnP p S):=decidable_of_iff (ofE p = 0/\S.length = p.inst.sup.length/\S.getD p.s.toNat false = true/\S.getD p.t.toNat false = false) ⟨fun ⟨a,b,c,d⟩=>⟨a,b,c,d⟩,fun ⟨a,b,c,d⟩=>⟨a,b,c,d⟩⟩
def z1w (p:ProbD) (S:List Bool):Option Int:=if OnP p S then z2t p.inst S else none
theorem allT {α:Type} {p:α->Bool} {l:List α} {k:Nat} {x:α} (h:l[k]? = some x):(l.take (k + 1)).all p = ((l.take k).all p && p x):=by rw [z1a h,List.all_append]; simp
theorem allN {α:Type} {p:α->Bool} {l:List α} {k:Nat} {x:α} (h:l[k]? = some x) (hp:p x = false):l.all p = false :=
 List.all_eq_false.2 ⟨x,List.mem_of_getElem? h,by simp [hp]⟩
theorem allE {α:Type} {p:α->Bool} {l:List α} {k:Nat} (h:(l.take k).all p = true) (hk:l.length <= k):l.all p = true:=by rw [List.take_of_length_le hk] at h; exact h
theorem bare_sup {I:Inst} {k:Nat} {x:Int} (h:I.sup[k]? = some x) (hx:¬ x = 0):z4x I = false:=by
 unfold z4x; rw [allN h (decide_eq_false hx)]; rfl
theorem zdo {I:Inst} {k:Nat} {a:Arc} (h:I.arcs[k]? = some a) (hx:¬ (a.low = 0/\a.cost = 0)):z4x I = false:=by
 unfold z4x; rw [allN (p:=z9e) h (by unfold z9e; rw [<- Bool.decide_and]; exact decide_eq_false hx)]; exact Bool.and_false _
theorem bare_end {I:Inst} {k j:Nat} (h1:(I.sup.take k).all (fun y=>decide (y = 0)) = true) (h2:I.sup.length <= k) (h3:(I.arcs.take j).all z9e = true) (h4:I.arcs.length <= j):z4x I = true:=by
 unfold z4x; rw [allE h1 h2,allE h3 h4]; rfl
theorem zeroA_of {a:Arc} (h1:a.low = 0) (h2:a.cost = 0):z9e a = true:=by unfold z9e; rw [h1,h2]; rfl
theorem AllI.fit {p:ProbD} (h:AllI p 5):z8k p = true:=by
 have h4:=h.st (by decide)
 rw [Bool.and_eq_true] at h4
 exact fitP_iff.2 ⟨h.m (by decide),h.r (by decide),h.b (by decide),h4.1,h4.2,h.d (by decide)⟩
theorem z5h {p:ProbD} (h:¬ FitP p):z8k p = false:=by
 cases e:z8k p
 ·rfl
 ·exact absurd (fitP_iff.1 e) h
theorem zh2 {p:ProbD} {c:Cert} (h:¬ GoodP p c):z13 p c = false:=by
 cases e:z13 p c
 ·rfl
 ·exact absurd (goodP_iff.1 e) h
theorem weigh_no {p:ProbD} {S:List Bool} (h:¬ OnP p S):z1w p S = none:=if_neg h
theorem weigh_on {p:ProbD} {S:List Bool} (h:OnP p S):z1w p S = z2t p.inst S:=if_pos h
theorem zd3 {p:ProbD} (h:ofE p = 0):ofI p = ofP p:=if_pos h
theorem ofI_no {p:ProbD} (h:ofE p ≠ 0):ofI p = ⟨[],[]⟩:=if_neg h
theorem room_step {m:Int} {S:List Bool} {a:Arc} {l:List Arc} {s:Int} (hr:z0d a m = 0) (h0:a.low = 0) :
  z0u m S (a :: l) s = if S.getD a.src.toNat false = true/\S.getD a.dst.toNat false = false then (if a.cap = inf then none else z0u m S l (s + a.cap)) else z0u m S l s:=by
 have h:¬ (¬ (0 <= a.src/\a.src < m) ∨ ¬ (0 <= a.dst/\a.dst < m)):=fun h=>by unfold z0d at hr; rw [if_pos h] at hr; cases hr
 have e1:isN m a.src = true:=by unfold isN; rw [Bool.and_eq_true,decide_eq_true_eq,decide_eq_true_eq]; omega
 have e2:isN m a.dst = true:=by unfold isN; rw [Bool.and_eq_true,decide_eq_true_eq,decide_eq_true_eq]; omega
 have e3:onF S a.src = S.getD a.src.toNat false:=by unfold onF; rw [decide_eq_true (by omega)]; rfl
 have e4:onF S a.dst = S.getD a.dst.toNat false:=by unfold onF; rw [decide_eq_true (by omega)]; rfl
 rw [z40]
 unfold outA inA
 rw [e1,e2,e3,e4,h0]
 cases S.getD a.src.toNat false <;> cases S.getD a.dst.toNat false <;> simp
end Go.Ql
end
section
namespace Go.Proofs.YtapeenpimcffpaaGreat
open Go Go.RowKit Go.Ql Go.Vc
abbrev node21_n:Nat:=71
def node21_g:z0b:=[]
def zhj:Vc.Spec:=z2h TT node21_g (fun _ _ _=>[]) Tryz.f71
def bare21_r (I:Inst):FRes:={ pre:=I.sup.length <= 1000000/\I.arcs.length <= 1000000,res:=.bool (z4x I),rows:=[],eff:=[] }
def zgg:FS:=fun args h=>match args,h with
 | [.agg [.row 0,.row 1]],[(0,.row false ty0 (.ints .i64 I_s)),(1,.row false ty1 (.arcs I_a))]=>some (bare21_r ⟨I_s,I_a⟩)
 | _,_=>none
def zgf (I:Inst):List (Nat × Ann):=[(2,{ G:=(Nat),inv:=fun k=>⟨[(1,.ptr 2 0 0 0),(8,.row 0),(9,.int .i64 (↑I.sup.length:Int)),(10,.int .i64 k)],[(2,.box true 25 [.row 0,.row 1]),(0,.row false 0 (.ints .i64 I.sup)),(1,.row false 0 (.arcs I.arcs))],3⟩,rel:=fun k0 k=>k <= I.sup.length/\(I.sup.take k).all (fun y=>decide (y = 0)) = true,meas:=fun k=>I.sup.length - k }),
 (8,{ G:=(Nat),inv:=fun k=>⟨[(18,.row 1),(19,.int .i64 (↑I.arcs.length:Int)),(20,.int .i64 k)],[(1,.row false 0 (.arcs I.arcs))],3⟩,rel:=fun k0 k=>k <= I.arcs.length/\(I.arcs.take k).all z9e = true,meas:=fun k=>I.arcs.length - k })]
def bare21_A:List SV->z0c->List (Nat × Ann):=fun args h=>match args,h with
 | [.agg [.row 0,.row 1]],[(0,.row false ty0 (.ints .i64 I_s)),(1,.row false ty1 (.arcs I_a))]=>zgf ⟨I_s,I_a⟩
 | _,_=>[]
def bare21_g:z0b:=[]
abbrev bare21_n:Nat:=69
def bare21_I (I:Inst):List (Nat × z08):=[]
def bare21_IA:List SV->z0c->List (Nat × z08):=fun _ _=>[]
def fit1_r (p:ProbD):FRes:={ pre:=True,res:=.bool (p.most),rows:=[],eff:=[] }
def fit1_fs:FS:=fun args h=>match args,h with
 | [.ptr 0 0 0 0],[(0,.box false 27 [.bool p_m,.row 1,.row 2,.int .i64 p_S,.int .i64 p_T]),(1,.row false ty1 (.ints .i64 p_s)),(2,.row false ty2 (.arcs p_a))]=>some (fit1_r ⟨p_m,⟨p_s,p_a⟩,p_S,p_T⟩)
 | _,_=>none
def fit1_an (p:ProbD):List (Nat × Ann):=[]
def fit1_A:List SV->z0c->List (Nat × Ann):=fun _ _=>[]
def fit1_g:z0b:=[]
abbrev fit1_n:Nat:=66
def fit1_I (p:ProbD):List (Nat × z08):=[]
def fit1_IA:List SV->z0c->List (Nat × z08):=fun _ _=>[]
def fit2_r (p:ProbD):FRes:={ pre:=True,res:=.bool (decide (z0a p.inst = 0)),rows:=[],eff:=[] }
def fit2_fs:FS:=fun args h=>match args,h with
 | [.ptr 0 0 0 0],[(0,.box false 27 [.bool p_m,.row 1,.row 2,.int .i64 p_S,.int .i64 p_T]),(1,.row false ty1 (.ints .i64 p_s)),(2,.row false ty2 (.arcs p_a))]=>some (fit2_r ⟨p_m,⟨p_s,p_a⟩,p_S,p_T⟩)
 | _,_=>none
def fit2_an (p:ProbD):List (Nat × Ann):=[]
def fit2_A:List SV->z0c->List (Nat × Ann):=fun _ _=>[]
def fit2_g:z0b:=[(zb1,(true,z02 true z5r))]
abbrev fit2_n:Nat:=67
def fit2_I (p:ProbD):List (Nat × z08):=[]
def fit2_IA:List SV->z0c->List (Nat × z08):=fun _ _=>[]
def fit3_r (p:ProbD):FRes:={ pre:=p.inst.sup.length <= 1000000/\p.inst.arcs.length <= 1000000,res:=.bool (z4x p.inst),rows:=[],eff:=[] }
def fit3_fs:FS:=fun args h=>match args,h with
 | [.ptr 0 0 0 0],[(0,.box false 27 [.bool p_m,.row 1,.row 2,.int .i64 p_S,.int .i64 p_T]),(1,.row false ty1 (.ints .i64 p_s)),(2,.row false ty2 (.arcs p_a))]=>some (fit3_r ⟨p_m,⟨p_s,p_a⟩,p_S,p_T⟩)
 | _,_=>none
def fit3_an (p:ProbD):List (Nat × Ann):=[]
def fit3_A:List SV->z0c->List (Nat × Ann):=fun _ _=>[]
def fit3_g:z0b:=[(bare21_n,(true,z02 true zgg))]
abbrev fit3_n:Nat:=68
def fit3_I (p:ProbD):List (Nat × z08):=[]
def fit3_IA:List SV->z0c->List (Nat × z08):=fun _ _=>[]
def fit4_r (p:ProbD):FRes:={ pre:=True,res:=.bool (z4s p.inst p.s && z4s p.inst p.t),rows:=[],eff:=[] }
def fit4_fs:FS:=fun args h=>match args,h with
 | [.ptr 0 0 0 0],[(0,.box false 27 [.bool p_m,.row 1,.row 2,.int .i64 p_S,.int .i64 p_T]),(1,.row false ty1 (.ints .i64 p_s)),(2,.row false ty2 (.arcs p_a))]=>some (fit4_r ⟨p_m,⟨p_s,p_a⟩,p_S,p_T⟩)
 | _,_=>none
def fit4_an (p:ProbD):List (Nat × Ann):=[]
def fit4_A:List SV->z0c->List (Nat × Ann):=fun _ _=>[]
def fit4_g:z0b:=[(node21_n,(false,zhj))]
abbrev fit4_n:Nat:=70
def fit4_I (p:ProbD):List (Nat × z08):=[]
def fit4_IA:List SV->z0c->List (Nat × z08):=fun _ _=>[]
def fit5_r (p:ProbD):FRes:={ pre:=True,res:=.bool (!decide (p.s = p.t)),rows:=[],eff:=[] }
def fit5_fs:FS:=fun args h=>match args,h with
 | [.ptr 0 0 0 0],[(0,.box false 27 [.bool p_m,.row 1,.row 2,.int .i64 p_S,.int .i64 p_T]),(1,.row false ty1 (.ints .i64 p_s)),(2,.row false ty2 (.arcs p_a))]=>some (fit5_r ⟨p_m,⟨p_s,p_a⟩,p_S,p_T⟩)
 | _,_=>none
def fit5_an (p:ProbD):List (Nat × Ann):=[]
def fit5_A:List SV->z0c->List (Nat × Ann):=fun _ _=>[]
def fit5_g:z0b:=[]
abbrev fit5_n:Nat:=72
def fit5_I (p:ProbD):List (Nat × z08):=[]
def fit5_IA:List SV->z0c->List (Nat × z08):=fun _ _=>[]
abbrev all21_n:Nat:=65
def all21_g:z0b:=[(fit1_n,(true,z02 true fit1_fs)),(fit2_n,(true,z02 true fit2_fs)),(fit3_n,(true,z02 true fit3_fs)),(fit4_n,(true,z02 true fit4_fs)),(fit5_n,(true,z02 true fit5_fs))]
def all21_spec:Vc.Spec:=z2h TT all21_g (fun args hp nk=>match args with | [.row v]=>(match lk v hp with | some (.vec _ (.fn _ [.ptr b 0 0 0] :: _))=>(match lk b hp with | some (.box _ _ [.bool m,.row r0,.row r1,.int _ S,.int _ T])=>(match lk r0 hp,lk r1 hp with | some (.row _ _ (.ints .i64 s)),some (.row _ _ (.arcs a))=>[(2,{ G:=Nat,inv:=fun k=>⟨[(5,.row v),(6,.int .i64 5),(7,.int .i64 k)],hp,nk⟩,rel:=fun _ k=>AllI ⟨m,⟨s,a⟩,S,T⟩ k,meas:=fun k=>5 - k })] | _,_=>[]) | _=>[]) | _=>[]) | _=>[]) Tryz.f65
def fit21_r (p:ProbD):FRes:={ pre:=True,res:=.bool (z8k p),rows:=[],eff:=[] }
def fit21_fs:FS:=fun args h=>match args,h with
 | [.agg [.bool p_m,.row 0,.row 1,.int .i64 p_S,.int .i64 p_T]],[(0,.row false ty0 (.ints .i64 p_s)),(1,.row false ty1 (.arcs p_a))]=>some (fit21_r ⟨p_m,⟨p_s,p_a⟩,p_S,p_T⟩)
 | _,_=>none
def fit21_an (p:ProbD):List (Nat × Ann):=[]
def fit21_A:List SV->z0c->List (Nat × Ann):=fun _ _=>[]
def fit21_g:z0b:=[(all21_n,(false,all21_spec))]
abbrev fit21_n:Nat:=41
def fit21_I (p:ProbD):List (Nat × z08):=[]
def fit21_IA:List SV->z0c->List (Nat × z08):=fun _ _=>[]
def Of21_r (p:ProbD):FRes:={ pre:=True,res:=.tup [.agg [.row 2,.row 3],.int .u16 (ofE p)],rows:=[.row 2 (.ints .i64 (ofI p).sup),.row 65 (.arcs (ofI p).arcs)],eff:=[] }
def z8d:FS:=fun args h=>match args,h with
 | [.agg [.bool p_m,.row 0,.row 1,.int .i64 p_S,.int .i64 p_T]],[(0,.row false ty0 (.ints .i64 p_s)),(1,.row false ty1 (.arcs p_a))]=>some (Of21_r ⟨p_m,⟨p_s,p_a⟩,p_S,p_T⟩)
 | _,_=>none
def Of21_an (p:ProbD):List (Nat × Ann):=[]
def Of21_A:List SV->z0c->List (Nat × Ann):=fun _ _=>[]
def Of21_g:z0b:=[(fit21_n,(true,z02 true fit21_fs)),(Copy_n,(true,z02 true Copy_fs))]
abbrev Of21_n:Nat:=19
def Of21_I (p:ProbD):List (Nat × z08):=[]
def Of21_IA:List SV->z0c->List (Nat × z08):=fun _ _=>[]
abbrev val1_n:Nat:=51
def val1_g:z0b:=[]
def val1_spec:Vc.Spec:=z2h TT val1_g (fun _ _ _=>[]) Tryz.f51
abbrev toldV_n:Nat:=50
def toldV_g:z0b:=[(Of21_n,(true,z02 true z8d)),(Check_n,(true,z02 true z9h)),(val1_n,(false,val1_spec))]
def toldV_spec:Vc.Spec:=z2h TT toldV_g (fun _ _ _=>[]) Tryz.f50
def zff (p:ProbD) (c:Cert):FRes:={ pre:=z0j c,res:=.tup [.int .i64 (z6d p c),.bool (z13 p c)],rows:=[],eff:=[] }
def z7e:FS:=fun args h=>match args,h with
 | [.agg [.bool p_m,.row 0,.row 1,.int .i64 p_S,.int .i64 p_T],.agg [.int .i64 c_k,.row 2,.row 3,.row 4,.row 5]],[(0,.row false ty0 (.ints .i64 p_s)),(1,.row false ty1 (.arcs p_a)),(2,.row false ty2 (.ints .i64 c_f)),(3,.row false ty3 (.ints .i64 c_p)),(4,.row false ty4 (.bools c_s)),(5,.row false ty5 (.ints .i64 c_y))]=>some (zff ⟨p_m,⟨p_s,p_a⟩,p_S,p_T⟩ ⟨c_k,c_f,c_p,c_s,c_y⟩)
 | _,_=>none
def Value21_an (p:ProbD) (c:Cert):List (Nat × Ann):=[]
def Value21_A:List SV->z0c->List (Nat × Ann):=fun _ _=>[]
def zfd:z0b:=[(toldV_n,(false,toldV_spec))]
abbrev zfe:Nat:=22
def Value21_I (p:ProbD) (c:Cert):List (Nat × z08):=[]
def Value21_IA:List SV->z0c->List (Nat × z08):=fun _ _=>[]
abbrev flow1_n:Nat:=57
def flow1_g:z0b:=[]
def flow1_spec:Vc.Spec:=z2h TT flow1_g (fun _ _ _=>[]) Tryz.f57
abbrev toldF_n:Nat:=56
def toldF_g:z0b:=[(Of21_n,(true,z02 true z8d)),(Check_n,(true,z02 true z9h)),(flow1_n,(false,flow1_spec))]
def toldF_spec:Vc.Spec:=z2h TT toldF_g (fun _ _ _=>[]) Tryz.f56
def Flow21_r (p:ProbD) (c:Cert):FRes:={ pre:=z0j c,res:=.tup [.row 6,.bool (z13 p c)],rows:=[.row 2 (.ints .i64 (z23 p c))],eff:=[] }
def zes:FS:=fun args h=>match args,h with
 | [.agg [.bool p_m,.row 0,.row 1,.int .i64 p_S,.int .i64 p_T],.agg [.int .i64 c_k,.row 2,.row 3,.row 4,.row 5]],[(0,.row false ty0 (.ints .i64 p_s)),(1,.row false ty1 (.arcs p_a)),(2,.row false ty2 (.ints .i64 c_f)),(3,.row false ty3 (.ints .i64 c_p)),(4,.row false ty4 (.bools c_s)),(5,.row false ty5 (.ints .i64 c_y))]=>some (Flow21_r ⟨p_m,⟨p_s,p_a⟩,p_S,p_T⟩ ⟨c_k,c_f,c_p,c_s,c_y⟩)
 | _,_=>none
def Flow21_an (p:ProbD) (c:Cert):List (Nat × Ann):=[]
def Flow21_A:List SV->z0c->List (Nat × Ann):=fun _ _=>[]
def Flow21_g:z0b:=[(toldF_n,(false,toldF_spec))]
abbrev Flow21_n:Nat:=26
def Flow21_I (p:ProbD) (c:Cert):List (Nat × z08):=[]
def Flow21_IA:List SV->z0c->List (Nat × z08):=fun _ _=>[]
def side1_r (c:Cert) (p:ProbD):FRes:={ pre:=0 <= p.t/\p.t < c.pot.length/\c.pot.length <= 1000000,res:=.row 8,rows:=[.row 4 (.bools (z5c p c))],eff:=[] }
def side1_fs:FS:=fun args h=>match args,h with
 | [.ptr 0 0 0 0,.ptr 5 0 0 0],[(0,.box false 31 [.int .i64 c_k,.row 1,.row 2,.row 3,.row 4]),(1,.row false ty1 (.ints .i64 c_f)),(2,.row false ty2 (.ints .i64 c_p)),(3,.row false ty3 (.bools c_s)),(4,.row false ty4 (.ints .i64 c_y)),(5,.box false 27 [.bool p_m,.row 6,.row 7,.int .i64 p_S,.int .i64 p_T]),(6,.row false ty6 (.ints .i64 p_s)),(7,.row false ty7 (.arcs p_a))]=>some (side1_r ⟨c_k,c_f,c_p,c_s,c_y⟩ ⟨p_m,⟨p_s,p_a⟩,p_S,p_T⟩)
 | _,_=>none
def side1_an (c:Cert) (p:ProbD):List (Nat × Ann):=[(3,{ G:=(Nat),inv:=fun k=>⟨[(0,.ptr 0 0 0 0),(1,.ptr 5 0 0 0),(3,.row 9),(11,.row 2),(12,.int .i64 (↑c.pot.length:Int)),(13,.int .i64 k)],[(9,.row true 4 (.bools ((List.range c.pot.length).map fun v=>decide (v < k) && decide (c.pot.getD p.t.toNat 0 < c.pot.getD v 0)))),(0,.box false 31 [.int .i64 c.kind,.row 1,.row 2,.row 3,.row 4]),(1,.row false 0 (.ints .i64 c.flow)),(2,.row false 0 (.ints .i64 c.pot)),(3,.row false 0 (.bools c.side)),(4,.row false 0 (.ints .i64 c.cycle)),(5,.box false 27 [.bool p.most,.row 6,.row 7,.int .i64 p.s,.int .i64 p.t]),(6,.row false 0 (.ints .i64 p.inst.sup)),(7,.row false 0 (.arcs p.inst.arcs))],10⟩,rel:=fun k0 k=>k <= c.pot.length,meas:=fun k=>c.pot.length - k })]
def side1_A:List SV->z0c->List (Nat × Ann):=fun args h=>match args,h with
 | [.ptr 0 0 0 0,.ptr 5 0 0 0],[(0,.box false 31 [.int .i64 c_k,.row 1,.row 2,.row 3,.row 4]),(1,.row false ty1 (.ints .i64 c_f)),(2,.row false ty2 (.ints .i64 c_p)),(3,.row false ty3 (.bools c_s)),(4,.row false ty4 (.ints .i64 c_y)),(5,.box false 27 [.bool p_m,.row 6,.row 7,.int .i64 p_S,.int .i64 p_T]),(6,.row false ty6 (.ints .i64 p_s)),(7,.row false ty7 (.arcs p_a))]=>side1_an ⟨c_k,c_f,c_p,c_s,c_y⟩ ⟨p_m,⟨p_s,p_a⟩,p_S,p_T⟩
 | _,_=>[]
def side1_g:z0b:=[]
abbrev side1_n:Nat:=53
def side1_I (c:Cert) (p:ProbD):List (Nat × z08):=[]
def side1_IA:List SV->z0c->List (Nat × z08):=fun _ _=>[]
abbrev toldS_n:Nat:=52
def toldS_g:z0b:=[(Of21_n,(true,z02 true z8d)),(Check_n,(true,z02 true z9h)),(side1_n,(true,z02 true side1_fs))]
def toldS_spec:Vc.Spec:=z2h TT toldS_g (fun _ _ _=>[]) Tryz.f52
def Side21_r (p:ProbD) (c:Cert):FRes:={ pre:=z0j c,res:=.tup [.row 6,.bool (z13 p c)],rows:=[.row 4 (.bools (z1q p c))],eff:=[] }
def z9n:FS:=fun args h=>match args,h with
 | [.agg [.bool p_m,.row 0,.row 1,.int .i64 p_S,.int .i64 p_T],.agg [.int .i64 c_k,.row 2,.row 3,.row 4,.row 5]],[(0,.row false ty0 (.ints .i64 p_s)),(1,.row false ty1 (.arcs p_a)),(2,.row false ty2 (.ints .i64 c_f)),(3,.row false ty3 (.ints .i64 c_p)),(4,.row false ty4 (.bools c_s)),(5,.row false ty5 (.ints .i64 c_y))]=>some (Side21_r ⟨p_m,⟨p_s,p_a⟩,p_S,p_T⟩ ⟨c_k,c_f,c_p,c_s,c_y⟩)
 | _,_=>none
def Side21_an (p:ProbD) (c:Cert):List (Nat × Ann):=[]
def Side21_A:List SV->z0c->List (Nat × Ann):=fun _ _=>[]
def Side21_g:z0b:=[(toldS_n,(false,toldS_spec))]
abbrev Side21_n:Nat:=23
def Side21_I (p:ProbD) (c:Cert):List (Nat × z08):=[]
def Side21_IA:List SV->z0c->List (Nat × z08):=fun _ _=>[]
def zb6 (p:ProbD) (S:List Bool):FRes:={ pre:=S.length <= 1000000,res:=.tup [.agg (z0l (z2u (z1w p S))),.bool ((z1w p S).isSome)],rows:=[],eff:=[] }
def z5u:FS:=fun args h=>match args,h with
 | [.agg [.bool p_m,.row 0,.row 1,.int .i64 p_S,.int .i64 p_T],.row 2],[(0,.row false ty0 (.ints .i64 p_s)),(1,.row false ty1 (.arcs p_a)),(2,.row false ty2 (.bools S))]=>some (zb6 ⟨p_m,⟨p_s,p_a⟩,p_S,p_T⟩ S)
 | _,_=>none
def z8g (p:ProbD) (S:List Bool):List (Nat × Ann):=[(8,{ G:=(Nat) × (Int),inv:=fun ⟨k,s⟩=>⟨[(1,.row 2),(4,.ptr 4 0 0 0),(8,.ptr 10 0 0 0),(45,.row 1),(46,.int .i64 (↑p.inst.arcs.length:Int)),(47,.int .i64 k)],[(10,.box true 54 (z0l (W s))),(4,.box true 54 [.int .i64 (0:Int),.int .u64 (0:Int)]),(1,.row false 0 (.arcs p.inst.arcs)),(2,.row false 0 (.bools S))],11⟩,rel:=fun ⟨k0,s0⟩ ⟨k,s⟩=>k <= p.inst.arcs.length/\z0u p.inst.sup.length S (p.inst.arcs.drop k) s = z2t p.inst S,meas:=fun ⟨k,s⟩=>p.inst.arcs.length - k })]
def Weight21_A:List SV->z0c->List (Nat × Ann):=fun args h=>match args,h with
 | [.agg [.bool p_m,.row 0,.row 1,.int .i64 p_S,.int .i64 p_T],.row 2],[(0,.row false ty0 (.ints .i64 p_s)),(1,.row false ty1 (.arcs p_a)),(2,.row false ty2 (.bools S))]=>z8g ⟨p_m,⟨p_s,p_a⟩,p_S,p_T⟩ S
 | _,_=>[]
def zb4:z0b:=[(Of21_n,(true,z02 true z8d)),(Of_n,(true,z02 true zaw)),(zf6,(true,z02 true z6i))]
abbrev zb5:Nat:=21
def Weight21_I (p:ProbD) (S:List Bool):List (Nat × z08):=[]
def Weight21_IA:List SV->z0c->List (Nat × z08):=fun _ _=>[]
end Go.Proofs.YtapeenpimcffpaaGreat
end
section
namespace Go.Proofs.YtapeenpimcffpaaGreat
open Go Go.RowKit Go.Ql Go.Vc
theorem node21_ok:SpecOk Tryz.prog node21_n false zhj :=
 z4q z0g (show z10 Tryz.prog node21_g from z04) (by kernel_rfl) mixedOrders Tryz.func71 rfl rfl (by kernel_rfl) _
def zge (I : Inst) (ty0 ty1 : TypeId) : Prop :=
      ∃ (g0:Nat),
 ((g0 <= I.sup.length/\((List.take g0 I.sup).all fun (y:Int)=>decide (y = (0:Int))) = true) /\
 ((0:Nat) = (0:Nat)/\True/\(↑I.sup.length:Int) = (↑I.sup.length:Int)/\(0:Int) = (↑g0:Int)/\True) /\
 (True/\True/\True)/\I.sup = I.sup/\I.arcs = I.arcs/\True) /\
 ∀ (g:Nat),
 g <= I.sup.length/\((List.take g I.sup).all fun (y:Int)=>decide (y = (0:Int))) = true ->
 (decide ((↑g:Int) < (↑I.sup.length:Int)) = true ->
 ((0:Int) <= (↑g:Int)/\(↑g:Int) < (↑I.sup.length:Int)) /\
 (↑g:Int).toNat < I.sup.length /\
 ∀ (x:Int),
 I.sup[(↑g:Int).toNat]? = some x ->
 ((x != (0:Int)) = true->(false = z4x I/\True)/\True) /\
 ((x != (0:Int)) = false ->
 ∃ (g':Nat),
 (g' <= I.sup.length/\((List.take g' I.sup).all fun (y:Int)=>decide (y = (0:Int))) = true) /\
 I.sup.length - g' < I.sup.length - g /\
 ((0:Nat) = (0:Nat)/\True/\(↑I.sup.length:Int) = (↑I.sup.length:Int)/\IntKind.i64.wrap ((↑g:Int) + (1:Int)) = (↑g':Int)/\True) /\
 (True/\True/\True)/\I.sup = I.sup/\I.arcs = I.arcs/\True)) /\
 (decide ((↑g:Int) < (↑I.sup.length:Int)) = false ->
 ∃ (g0:Nat),
 ((g0 <= I.arcs.length/\(List.take g0 I.arcs).all z9e = true) /\
 (True/\(↑I.arcs.length:Int) = (↑I.arcs.length:Int)/\(0:Int) = (↑g0:Int)/\True)/\I.arcs = I.arcs/\True) /\
 ∀ (g:Nat),
 g <= I.arcs.length/\(List.take g I.arcs).all z9e = true ->
 (decide ((↑g:Int) < (↑I.arcs.length:Int)) = true ->
 ((0:Int) <= (↑g:Int)/\(↑g:Int) < (↑I.arcs.length:Int)) /\
 (↑g:Int).toNat < I.arcs.length /\
 ∀ (x:Arc),
 I.arcs[(↑g:Int).toNat]? = some x ->
 ((x.low != (0:Int)) = true->(false = z4x I/\True)/\True) /\
 ((x.low != (0:Int)) = false ->
 ((x.cost != (0:Int)) = true->(false = z4x I/\True)/\True) /\
 ((x.cost != (0:Int)) = false ->
 ∃ (g':Nat),
 (g' <= I.arcs.length/\(List.take g' I.arcs).all z9e = true) /\
 I.arcs.length - g' < I.arcs.length - g /\
 (True/\(↑I.arcs.length:Int) = (↑I.arcs.length:Int)/\IntKind.i64.wrap ((↑g:Int) + (1:Int)) = (↑g':Int)/\True) /\
 I.arcs = I.arcs/\True))) /\
 (decide ((↑g:Int) < (↑I.arcs.length:Int)) = false->(true = z4x I/\True)/\True))
theorem bare21_q (I:Inst) (ty0 ty1:TypeId):zge I ty0 ty1 = z1f TT bare21_g (bare21_I I) (zgf I) Tryz.f69 [.agg [.row 0,.row 1]] [(0,.row false ty0 (.ints .i64 I.sup)),(1,.row false ty1 (.arcs I.arcs))] (bare21_r I):=by kernel_rfl
theorem bare21_E (I:Inst) (ty0 ty1:TypeId) (hp:I.sup.length <= 1000000/\I.arcs.length <= 1000000):FVc TT bare21_g (bare21_I I) (zgf I) Tryz.f69 [.agg [.row 0,.row 1]] [(0,.row false ty0 (.ints .i64 I.sup)),(1,.row false ty1 (.arcs I.arcs))] (bare21_r I):=by
 refine FVc.of (zge I ty0 ty1) (bare21_q I ty0 ty1) ?_
 unfold zge
 obtain ⟨p1,p2⟩:=hp
 have hw:∀ j:Nat,j <= 1000000->IntKind.i64.wrap ((j:Int) + 1) = ((j + 1:Nat):Int):=fun j hj=>by rw [w64 (by omega) (by omega)]; omega
 simp only [eq_self,exists_const,forall_const,decide_eq_true_eq,decide_eq_false_iff_not,and_true,true_and,bne_iff_ne,ne_eq,bne_eq_false_iff_eq,Int.toNat_natCast,Bool.not_eq_true',Bool.not_eq_false',beq_iff_eq,beq_eq_false_iff_ne,z07]
 refine ⟨0,⟨⟨Nat.zero_le _,rfl⟩,rfl⟩,fun g hg=>⟨fun h1=>⟨⟨by omega,by omega⟩,by omega,fun x hx=>⟨fun h2=>(bare_sup hx h2).symm,fun h2=>⟨g + 1,⟨by omega,?_⟩,by omega,hw g (by omega)⟩⟩⟩,fun h1=>⟨0,⟨⟨Nat.zero_le _,rfl⟩,rfl⟩,fun k hk=>⟨fun h3=>⟨⟨by omega,by omega⟩,by omega,fun a ha=>⟨fun h4=>(zdo ha fun h=>h4 h.1).symm,fun h4=>⟨fun h5=>(zdo ha fun h=>h5 h.2).symm,fun h5=>⟨k + 1,⟨by omega,?_⟩,by omega,hw k (by omega)⟩⟩⟩⟩,fun h3=>(bare_end hg.2 (by omega) hk.2 (by omega)).symm⟩⟩⟩⟩
 ·rw [allT hx,hg.2,decide_eq_true h2]; rfl
 ·rw [allT ha,hk.2,zeroA_of h4 h5]; rfl
theorem bare21_ok:SpecOk Tryz.prog bare21_n true (z02 true zgg) :=
 z06 z0g (show z10 Tryz.prog bare21_g from z04) (by kernel_rfl) mixedOrders Tryz.func69 rfl rfl (by kernel_rfl) (n:=1) (by decide +kernel) (I:=bare21_IA) (fun _ _=>z05) (A:=bare21_A)
  (fun args h r hr=>by
   unfold zgg at hr
   split at hr
   ·rename_i ty0 I_s ty1 I_a; cases hr; refine ⟨rfl,fun hp=>?_⟩; have hE:=bare21_E ⟨I_s,I_a⟩ ty0 ty1 hp; exact hE
   ·cases hr)
def fit1_E0 (p : ProbD) (ty1 ty2 : TypeId) : Prop :=
   (p.most = p.most/\True)/\True
theorem fit1_q (p:ProbD) (ty1 ty2:TypeId):fit1_E0 p ty1 ty2 = z1f TT fit1_g (fit1_I p) (fit1_an p) Tryz.f66 [.ptr 0 0 0 0] [(0,.box false 27 [.bool p.most,.row 1,.row 2,.int .i64 p.s,.int .i64 p.t]),(1,.row false ty1 (.ints .i64 p.inst.sup)),(2,.row false ty2 (.arcs p.inst.arcs))] (fit1_r p):=by kernel_rfl
theorem fit1_E (p:ProbD) (ty1 ty2:TypeId) (hp:True):FVc TT fit1_g (fit1_I p) (fit1_an p) Tryz.f66 [.ptr 0 0 0 0] [(0,.box false 27 [.bool p.most,.row 1,.row 2,.int .i64 p.s,.int .i64 p.t]),(1,.row false ty1 (.ints .i64 p.inst.sup)),(2,.row false ty2 (.arcs p.inst.arcs))] (fit1_r p):=by
 refine FVc.of (fit1_E0 p ty1 ty2) (fit1_q p ty1 ty2) ?_
 unfold fit1_E0
 simp only [eq_self,exists_const,forall_const,decide_eq_true_eq,decide_eq_false_iff_not,and_true,true_and,bne_iff_ne,ne_eq,bne_eq_false_iff_eq,Int.toNat_natCast,Bool.not_eq_true',Bool.not_eq_false',beq_iff_eq,beq_eq_false_iff_ne,z07]
theorem fit1_ok:SpecOk Tryz.prog fit1_n true (z02 true fit1_fs) :=
 z06 z0g (show z10 Tryz.prog fit1_g from z04) (by kernel_rfl) mixedOrders Tryz.func66 rfl rfl (by kernel_rfl) (n:=1) (by decide +kernel) (I:=fit1_IA) (fun _ _=>z05) (A:=fit1_A)
  (fun args h r hr=>by
   unfold fit1_fs at hr
   split at hr
   ·rename_i p_m p_S p_T ty1 p_s ty2 p_a; cases hr; refine ⟨rfl,fun hp=>?_⟩; have hE:=fit1_E ⟨p_m,⟨p_s,p_a⟩,p_S,p_T⟩ ty1 ty2 hp; exact hE
   ·cases hr)
def fit2_E0 (p : ProbD) (ty1 ty2 : TypeId) : Prop :=
   True/\((z0a p.inst == (0:Int)) = decide (z0a p.inst = (0:Int))/\True)/\True
theorem fit2_q (p:ProbD) (ty1 ty2:TypeId):fit2_E0 p ty1 ty2 = z1f TT fit2_g (fit2_I p) (fit2_an p) Tryz.f67 [.ptr 0 0 0 0] [(0,.box false 27 [.bool p.most,.row 1,.row 2,.int .i64 p.s,.int .i64 p.t]),(1,.row false ty1 (.ints .i64 p.inst.sup)),(2,.row false ty2 (.arcs p.inst.arcs))] (fit2_r p):=by kernel_rfl
theorem fit2_E (p:ProbD) (ty1 ty2:TypeId) (hp:True):FVc TT fit2_g (fit2_I p) (fit2_an p) Tryz.f67 [.ptr 0 0 0 0] [(0,.box false 27 [.bool p.most,.row 1,.row 2,.int .i64 p.s,.int .i64 p.t]),(1,.row false ty1 (.ints .i64 p.inst.sup)),(2,.row false ty2 (.arcs p.inst.arcs))] (fit2_r p):=by
 refine FVc.of (fit2_E0 p ty1 ty2) (fit2_q p ty1 ty2) ?_
 unfold fit2_E0
 simp only [eq_self,exists_const,forall_const,decide_eq_true_eq,decide_eq_false_iff_not,and_true,true_and,bne_iff_ne,ne_eq,bne_eq_false_iff_eq,Int.toNat_natCast,Bool.not_eq_true',Bool.not_eq_false',beq_iff_eq,beq_eq_false_iff_ne,z07]
 rfl
theorem fit2_ok:SpecOk Tryz.prog fit2_n true (z02 true fit2_fs) :=
 z06 z0g (show z10 Tryz.prog fit2_g from z00 z9m (z04)) (by kernel_rfl) mixedOrders Tryz.func67 rfl rfl (by kernel_rfl) (n:=1) (by decide +kernel) (I:=fit2_IA) (fun _ _=>z05) (A:=fit2_A)
  (fun args h r hr=>by
   unfold fit2_fs at hr
   split at hr
   ·rename_i p_m p_S p_T ty1 p_s ty2 p_a; cases hr; refine ⟨rfl,fun hp=>?_⟩; have hE:=fit2_E ⟨p_m,⟨p_s,p_a⟩,p_S,p_T⟩ ty1 ty2 hp; exact hE
   ·cases hr)
def fit3_E0 (p : ProbD) (ty1 ty2 : TypeId) : Prop :=
   (p.inst.sup.length <= (1000000:Nat)/\p.inst.arcs.length <= (1000000:Nat))/\(z4x p.inst = z4x p.inst/\True)/\True
theorem fit3_q (p:ProbD) (ty1 ty2:TypeId):fit3_E0 p ty1 ty2 = z1f TT fit3_g (fit3_I p) (fit3_an p) Tryz.f68 [.ptr 0 0 0 0] [(0,.box false 27 [.bool p.most,.row 1,.row 2,.int .i64 p.s,.int .i64 p.t]),(1,.row false ty1 (.ints .i64 p.inst.sup)),(2,.row false ty2 (.arcs p.inst.arcs))] (fit3_r p):=by kernel_rfl
theorem fit3_E (p:ProbD) (ty1 ty2:TypeId) (hp:p.inst.sup.length <= 1000000/\p.inst.arcs.length <= 1000000):FVc TT fit3_g (fit3_I p) (fit3_an p) Tryz.f68 [.ptr 0 0 0 0] [(0,.box false 27 [.bool p.most,.row 1,.row 2,.int .i64 p.s,.int .i64 p.t]),(1,.row false ty1 (.ints .i64 p.inst.sup)),(2,.row false ty2 (.arcs p.inst.arcs))] (fit3_r p):=by
 refine FVc.of (fit3_E0 p ty1 ty2) (fit3_q p ty1 ty2) ?_
 unfold fit3_E0
 simp only [eq_self,exists_const,forall_const,decide_eq_true_eq,decide_eq_false_iff_not,and_true,true_and,bne_iff_ne,ne_eq,bne_eq_false_iff_eq,Int.toNat_natCast,Bool.not_eq_true',Bool.not_eq_false',beq_iff_eq,beq_eq_false_iff_ne,z07]
 exact hp
theorem fit3_ok:SpecOk Tryz.prog fit3_n true (z02 true fit3_fs) :=
 z06 z0g (show z10 Tryz.prog fit3_g from z00 bare21_ok (z04)) (by kernel_rfl) mixedOrders Tryz.func68 rfl rfl (by kernel_rfl) (n:=1) (by decide +kernel) (I:=fit3_IA) (fun _ _=>z05) (A:=fit3_A)
  (fun args h r hr=>by
   unfold fit3_fs at hr
   split at hr
   ·rename_i p_m p_S p_T ty1 p_s ty2 p_a; cases hr; refine ⟨rfl,fun hp=>?_⟩; have hE:=fit3_E ⟨p_m,⟨p_s,p_a⟩,p_S,p_T⟩ ty1 ty2 hp; exact hE
   ·cases hr)
def fit4_E0 (p : ProbD) (ty1 ty2 : TypeId) : Prop :=
      (decide (p.s ≥ (0:Int)) = true ->
 (decide (p.s < (↑p.inst.sup.length:Int)) = true ->
 (decide (p.t ≥ (0:Int)) = true->(decide (p.t < (↑p.inst.sup.length:Int)) = (z4s p.inst p.s && z4s p.inst p.t)/\True)/\True) /\
 (decide (p.t ≥ (0:Int)) = false->(false = (z4s p.inst p.s && z4s p.inst p.t)/\True)/\True)) /\
 (decide (p.s < (↑p.inst.sup.length:Int)) = false->(false = (z4s p.inst p.s && z4s p.inst p.t)/\True)/\True)) /\
 (decide (p.s ≥ (0:Int)) = false->(false = (z4s p.inst p.s && z4s p.inst p.t)/\True)/\True)
theorem fit4_q (p:ProbD) (ty1 ty2:TypeId):fit4_E0 p ty1 ty2 = z1f TT fit4_g (fit4_I p) (fit4_an p) Tryz.f70 [.ptr 0 0 0 0] [(0,.box false 27 [.bool p.most,.row 1,.row 2,.int .i64 p.s,.int .i64 p.t]),(1,.row false ty1 (.ints .i64 p.inst.sup)),(2,.row false ty2 (.arcs p.inst.arcs))] (fit4_r p):=by kernel_rfl
theorem fit4_E (p:ProbD) (ty1 ty2:TypeId) (hp:True):FVc TT fit4_g (fit4_I p) (fit4_an p) Tryz.f70 [.ptr 0 0 0 0] [(0,.box false 27 [.bool p.most,.row 1,.row 2,.int .i64 p.s,.int .i64 p.t]),(1,.row false ty1 (.ints .i64 p.inst.sup)),(2,.row false ty2 (.arcs p.inst.arcs))] (fit4_r p):=by
 refine FVc.of (fit4_E0 p ty1 ty2) (fit4_q p ty1 ty2) ?_
 unfold fit4_E0
 simp only [eq_self,exists_const,forall_const,decide_eq_true_eq,decide_eq_false_iff_not,and_true,true_and,bne_iff_ne,ne_eq,bne_eq_false_iff_eq,Int.toNat_natCast,Bool.not_eq_true',Bool.not_eq_false',beq_iff_eq,beq_eq_false_iff_ne,z07]
 unfold z4s
 refine ⟨fun h1=>⟨fun h2=>⟨fun h3=>?_,fun h3=>?_⟩,fun h2=>?_⟩,fun h1=>?_⟩
 ·simp [show 0 <= p.s from h1,h2,show 0 <= p.t from h3]
 ·simp [show ¬ 0 <= p.t from h3]
 ·simp [h2]
 ·simp [show ¬ 0 <= p.s from h1]
theorem fit4_ok:SpecOk Tryz.prog fit4_n true (z02 true fit4_fs) :=
 z06 z0g (show z10 Tryz.prog fit4_g from z00 node21_ok (z04)) (by kernel_rfl) mixedOrders Tryz.func70 rfl rfl (by kernel_rfl) (n:=1) (by decide +kernel) (I:=fit4_IA) (fun _ _=>z05) (A:=fit4_A)
  (fun args h r hr=>by
   unfold fit4_fs at hr
   split at hr
   ·rename_i p_m p_S p_T ty1 p_s ty2 p_a; cases hr; refine ⟨rfl,fun hp=>?_⟩; have hE:=fit4_E ⟨p_m,⟨p_s,p_a⟩,p_S,p_T⟩ ty1 ty2 hp; exact hE
   ·cases hr)
def fit5_E0 (p : ProbD) (ty1 ty2 : TypeId) : Prop :=
   ((p.s != p.t) = !decide (p.s = p.t)/\True)/\True
theorem fit5_q (p:ProbD) (ty1 ty2:TypeId):fit5_E0 p ty1 ty2 = z1f TT fit5_g (fit5_I p) (fit5_an p) Tryz.f72 [.ptr 0 0 0 0] [(0,.box false 27 [.bool p.most,.row 1,.row 2,.int .i64 p.s,.int .i64 p.t]),(1,.row false ty1 (.ints .i64 p.inst.sup)),(2,.row false ty2 (.arcs p.inst.arcs))] (fit5_r p):=by kernel_rfl
theorem fit5_E (p:ProbD) (ty1 ty2:TypeId) (hp:True):FVc TT fit5_g (fit5_I p) (fit5_an p) Tryz.f72 [.ptr 0 0 0 0] [(0,.box false 27 [.bool p.most,.row 1,.row 2,.int .i64 p.s,.int .i64 p.t]),(1,.row false ty1 (.ints .i64 p.inst.sup)),(2,.row false ty2 (.arcs p.inst.arcs))] (fit5_r p):=by
 refine FVc.of (fit5_E0 p ty1 ty2) (fit5_q p ty1 ty2) ?_
 unfold fit5_E0
 simp only [eq_self,exists_const,forall_const,decide_eq_true_eq,decide_eq_false_iff_not,and_true,true_and,bne_iff_ne,ne_eq,bne_eq_false_iff_eq,Int.toNat_natCast,Bool.not_eq_true',Bool.not_eq_false',beq_iff_eq,beq_eq_false_iff_ne,z07]
 by_cases h:p.s = p.t <;> simp [h]
theorem fit5_ok:SpecOk Tryz.prog fit5_n true (z02 true fit5_fs) :=
 z06 z0g (show z10 Tryz.prog fit5_g from z04) (by kernel_rfl) mixedOrders Tryz.func72 rfl rfl (by kernel_rfl) (n:=1) (by decide +kernel) (I:=fit5_IA) (fun _ _=>z05) (A:=fit5_A)
  (fun args h r hr=>by
   unfold fit5_fs at hr
   split at hr
   ·rename_i p_m p_S p_T ty1 p_s ty2 p_a; cases hr; refine ⟨rfl,fun hp=>?_⟩; have hE:=fit5_E ⟨p_m,⟨p_s,p_a⟩,p_S,p_T⟩ ty1 ty2 hp; exact hE
   ·cases hr)
theorem all21_ok:SpecOk Tryz.prog all21_n false all21_spec :=
 z4q z0g (show z10 Tryz.prog all21_g from z00 fit1_ok (z00 fit2_ok (z00 fit3_ok (z00 fit4_ok (z00 fit5_ok (z04)))))) (by kernel_rfl) mixedOrders Tryz.func65 rfl rfl (by kernel_rfl) _
abbrev z7g (g':Nat) (g:Nat) (p:ProbD):=((5:Nat) - g' < (5:Nat) - g/\((True/\((5:Int) = 5/\(IntKind.i64.wrap ((↑g:Int) + (1:Int)) = (↑g':Int)/\True)))/\(((0 = 0/\True)/\((0 = 0/\True)/\((0 = 0/\True)/\((0 = 0/\True)/\((0 = 0/\True)/\True)))))/\((p.most = p.most/\(True/\(True/\(p.s = p.s/\(p.t = p.t/\True)))))/\(p.inst.sup = p.inst.sup/\(p.inst.arcs = p.inst.arcs/\True))))))
def fit21_E0 (p : ProbD) (ty0 ty1 : TypeId) : Prop :=
   ∃ (g0:Nat),(AllI { most:=p.most,inst:=p.inst,s:=p.s,t:=p.t:ProbD } g0/\((True/\((↑(5:Nat):Int) = 5/\((0:Int) = ↑g0/\True)))/\(((0 = 0/\True)/\((0 = 0/\True)/\((0 = 0/\True)/\((0 = 0/\True)/\((0 = 0/\True)/\True)))))/\((p.most = p.most/\(True/\(True/\(p.s = p.s/\(p.t = p.t/\True)))))/\(p.inst.sup = p.inst.sup/\(p.inst.arcs = p.inst.arcs/\True))))))/\∀ (g:Nat),AllI { most:=p.most,inst:=p.inst,s:=p.s,t:=p.t:ProbD } g->(decide ((↑g:Int) < 5) = true->((0:Int) <= ↑g/\((↑g:Int) < ↑(5:Nat)))/\(↑g:Int).toNat < (5:Nat)/\((↑g:Int).toNat = (0:Nat)->True/\(((!p.most) = true->(false = z8k p/\True)/\True)/\((!p.most) = false->∃ (g':Nat),AllI { most:=p.most,inst:=p.inst,s:=p.s,t:=p.t:ProbD } g'/\(z7g g' g p))))/\((↑g:Int).toNat = (0:Nat) + (1:Nat)->True/\(((!decide (z0a p.inst = (0:Int))) = true->(false = z8k p/\True)/\True)/\((!decide (z0a p.inst = (0:Int))) = false->∃ (g':Nat),AllI { most:=p.most,inst:=p.inst,s:=p.s,t:=p.t:ProbD } g'/\(z7g g' g p))))/\(((↑g:Int).toNat = (0:Nat) + (1:Nat) + (1:Nat)->(p.inst.sup.length <= (1000000:Nat)/\(p.inst.arcs.length <= (1000000:Nat)))/\(((!z4x p.inst) = true->(false = z8k p/\True)/\True)/\((!z4x p.inst) = false->∃ (g':Nat),AllI { most:=p.most,inst:=p.inst,s:=p.s,t:=p.t:ProbD } g'/\(z7g g' g p))))/\(((↑g:Int).toNat = (0:Nat) + (1:Nat) + (1:Nat) + (1:Nat)->True/\(((!(z4s p.inst p.s && z4s p.inst p.t)) = true->(false = z8k p/\True)/\True)/\((!(z4s p.inst p.s && z4s p.inst p.t)) = false->∃ (g':Nat),AllI { most:=p.most,inst:=p.inst,s:=p.s,t:=p.t:ProbD } g'/\(z7g g' g p))))/\((↑g:Int).toNat = (0:Nat) + (1:Nat) + (1:Nat) + (1:Nat) + (1:Nat)->True/\(((!!decide (p.s = p.t)) = true->(false = z8k p/\True)/\True)/\((!!decide (p.s = p.t)) = false->∃ (g':Nat),AllI { most:=p.most,inst:=p.inst,s:=p.s,t:=p.t:ProbD } g'/\(z7g g' g p)))))))/\(decide ((↑g:Int) < 5) = false->(true = z8k p/\True)/\True)
theorem fit21_q (p:ProbD) (ty0 ty1:TypeId):fit21_E0 p ty0 ty1 = z1f TT fit21_g (fit21_I p) (fit21_an p) Tryz.f41 [.agg [.bool p.most,.row 0,.row 1,.int .i64 p.s,.int .i64 p.t]] [(0,.row false ty0 (.ints .i64 p.inst.sup)),(1,.row false ty1 (.arcs p.inst.arcs))] (fit21_r p):=by kernel_rfl
theorem fit21_E (p:ProbD) (ty0 ty1:TypeId) (hp:True):FVc TT fit21_g (fit21_I p) (fit21_an p) Tryz.f41 [.agg [.bool p.most,.row 0,.row 1,.int .i64 p.s,.int .i64 p.t]] [(0,.row false ty0 (.ints .i64 p.inst.sup)),(1,.row false ty1 (.arcs p.inst.arcs))] (fit21_r p):=by
 refine FVc.of (fit21_E0 p ty0 ty1) (fit21_q p ty0 ty1) ?_
 unfold fit21_E0
 delta z7g
 have st:∀ g,AllI p (g + 1)->g < 5->∃ g',AllI p g'/\5 - g' < 5 - g/\IntKind.i64.wrap ((g:Int) + 1) = (g':Int):=fun g h hg=>⟨g + 1,h,by omega,by rw [w64 (by omega) (by omega)]; omega⟩
 simp only [eq_self,exists_const,forall_const,decide_eq_true_eq,decide_eq_false_iff_not,and_true,true_and,bne_iff_ne,ne_eq,bne_eq_false_iff_eq,Int.toNat_natCast,Bool.not_eq_true',Bool.not_eq_false',beq_iff_eq,beq_eq_false_iff_ne,z07]
 refine ⟨0,⟨⟨by omega,fun h=>by omega,fun h=>by omega,fun h=>by omega,fun h=>by omega,fun h=>by omega⟩,rfl,rfl⟩,fun g hg=>⟨fun h1=>⟨⟨by omega,by omega⟩,by omega,fun e=>⟨fun h=>(z5h fun f=>by rw [f.m] at h; cases h).symm,fun h=>st g ⟨by omega,fun _=>h,fun _=>by omega,fun _=>by omega,fun _=>by omega,fun _=>by omega⟩ (by omega)⟩,fun e=>⟨fun h=>(z5h fun f=>h f.r).symm,fun h=>st g ⟨by omega,fun _=>hg.m (by omega),fun _=>h,fun _=>by omega,fun _=>by omega,fun _=>by omega⟩ (by omega)⟩,fun e=>⟨by have:=z0n (hg.r (by omega)); omega,fun h=>(z5h fun f=>by rw [f.b] at h; cases h).symm,fun h=>st g ⟨by omega,fun _=>hg.m (by omega),fun _=>hg.r (by omega),fun _=>h,fun _=>by omega,fun _=>by omega⟩ (by omega)⟩,fun e=>⟨fun h=>(z5h fun f=>by rw [f.s,f.t] at h; cases h).symm,fun h=>st g ⟨by omega,fun _=>hg.m (by omega),fun _=>hg.r (by omega),fun _=>hg.b (by omega),fun _=>h,fun _=>by omega⟩ (by omega)⟩,fun e=>⟨fun h=>(z5h fun f=>f.d h).symm,fun h=>st g ⟨by omega,fun _=>hg.m (by omega),fun _=>hg.r (by omega),fun _=>hg.b (by omega),fun _=>hg.st (by omega),fun _=>h⟩ (by omega)⟩⟩,fun h1=>?_⟩⟩
 have e:g = 5:=by have:=hg.n; omega
 subst e
 exact hg.fit.symm
theorem fit21_ok:SpecOk Tryz.prog fit21_n true (z02 true fit21_fs) :=
 z06 z0g (show z10 Tryz.prog fit21_g from z00 all21_ok (z04)) (by kernel_rfl) mixedOrders Tryz.func41 rfl rfl (by kernel_rfl) (n:=1) (by decide +kernel) (I:=fit21_IA) (fun _ _=>z05) (A:=fit21_A)
  (fun args h r hr=>by
   unfold fit21_fs at hr
   split at hr
   ·rename_i p_m p_S p_T ty0 p_s ty1 p_a; cases hr; refine ⟨rfl,fun hp=>?_⟩; have hE:=fit21_E ⟨p_m,⟨p_s,p_a⟩,p_S,p_T⟩ ty0 ty1 hp; exact hE
   ·cases hr)
def Of21_E0 (p : ProbD) (ty0 ty1 : TypeId) : Prop :=
      True /\
 ((!z8k { most:=p.most,inst:=p.inst,s:=p.s,t:=p.t:ProbD }) = true ->
 (((True/\True/\True)/\(1:Int) = ofE p/\True)/\True)/\[] = (ofI p).sup/\[] = (ofI p).arcs/\True) /\
 ((!z8k { most:=p.most,inst:=p.inst,s:=p.s,t:=p.t:ProbD }) = false ->
 (decide ((↑p.inst.arcs.length:Int) ≥ (256:Int)) = true->(((True/\True/\True)/\(20:Int) = ofE p/\True)/\True)/\[] = (ofI p).sup/\[] = (ofI p).arcs/\True) /\
 (decide ((↑p.inst.arcs.length:Int) ≥ (256:Int)) = false ->
 (p.inst.sup.length <= (1000000000:Nat)/\p.inst.arcs.length <= (1000000000:Nat)) /\
 p.inst.arcs.length + (1:Nat) <= (1000000000:Nat) /\
 (((True/\True/\True)/\(0:Int) = ofE p/\True)/\True) /\
 p.inst.sup = (ofI p).sup /\
 p.inst.arcs ++ [{ src:=p.t,dst:=p.s,low:=(0:Int),cap:=(4611686018427387904:Int),cost:=(-1:Int):Arc }] = (ofI p).arcs/\True))
theorem Of21_q (p:ProbD) (ty0 ty1:TypeId):Of21_E0 p ty0 ty1 = z1f TT Of21_g (Of21_I p) (Of21_an p) Tryz.f19 [.agg [.bool p.most,.row 0,.row 1,.int .i64 p.s,.int .i64 p.t]] [(0,.row false ty0 (.ints .i64 p.inst.sup)),(1,.row false ty1 (.arcs p.inst.arcs))] (Of21_r p):=by kernel_rfl
theorem Of21_E (p:ProbD) (ty0 ty1:TypeId) (hp:True):FVc TT Of21_g (Of21_I p) (Of21_an p) Tryz.f19 [.agg [.bool p.most,.row 0,.row 1,.int .i64 p.s,.int .i64 p.t]] [(0,.row false ty0 (.ints .i64 p.inst.sup)),(1,.row false ty1 (.arcs p.inst.arcs))] (Of21_r p):=by
 refine FVc.of (Of21_E0 p ty0 ty1) (Of21_q p ty0 ty1) ?_
 unfold Of21_E0
 simp only [eq_self,exists_const,forall_const,decide_eq_true_eq,decide_eq_false_iff_not,and_true,true_and,bne_iff_ne,ne_eq,bne_eq_false_iff_eq,Int.toNat_natCast,Bool.not_eq_true',Bool.not_eq_false',beq_iff_eq,beq_eq_false_iff_ne,z07]
 refine ⟨fun h=>?_,fun h=>⟨fun h2=>?_,fun h2=>?_⟩⟩
 ·have e:ofE p = 1:=if_neg (by rw [h]; decide)
  rw [ofI_no (by rw [e]; decide),e]; exact ⟨rfl,rfl,rfl⟩
 ·have e:ofE p = 20:=by unfold ofE; rw [if_pos h,if_pos (by omega)]
  rw [ofI_no (by rw [e]; decide),e]; exact ⟨rfl,rfl,rfl⟩
 ·have hs:=z0n (fitP_iff.1 h).r
  have e:ofE p = 0:=by unfold ofE; rw [if_pos h,if_neg (by omega)]
  rw [zd3 e,e]; exact ⟨by omega,by omega,rfl,rfl,rfl⟩
theorem zf2:SpecOk Tryz.prog Of21_n true (z02 true z8d) :=
 z06 z0g (show z10 Tryz.prog Of21_g from z00 fit21_ok (z00 Copy_ok (z04))) (by kernel_rfl) mixedOrders Tryz.func19 rfl rfl (by kernel_rfl) (n:=1) (by decide +kernel) (I:=Of21_IA) (fun _ _=>z05) (A:=Of21_A)
  (fun args h r hr=>by
   unfold z8d at hr
   split at hr
   ·rename_i p_m p_S p_T ty0 p_s ty1 p_a; cases hr; refine ⟨rfl,fun hp=>?_⟩; have hE:=Of21_E ⟨p_m,⟨p_s,p_a⟩,p_S,p_T⟩ ty0 ty1 hp; exact hE
   ·cases hr)
theorem val1_ok:SpecOk Tryz.prog val1_n false val1_spec :=
 z4q z0g (show z10 Tryz.prog val1_g from z04) (by kernel_rfl) mixedOrders Tryz.func51 rfl rfl (by kernel_rfl) _
theorem toldV_ok:SpecOk Tryz.prog toldV_n false toldV_spec :=
 z4q z0g (show z10 Tryz.prog toldV_g from z00 zf2 (z00 Check_ok (z00 val1_ok (z04)))) (by kernel_rfl) mixedOrders Tryz.func50 rfl rfl (by kernel_rfl) _
def zb3 (p : ProbD) (c : Cert) (ty0 ty1 ty2 ty3 ty4 ty5 : TypeId) : Prop :=
      True /\
 ((ofE { most:=p.most,inst:=p.inst,s:=p.s,t:=p.t:ProbD } != (0:Int)) = true->(((0:Int) = z6d p c/\false = z13 p c/\True)/\True)/\True) /\
 ((ofE { most:=p.most,inst:=p.inst,s:=p.s,t:=p.t:ProbD } != (0:Int)) = false ->
 ((c.kind != (1:Int)) = true->(((0:Int) = z6d p c/\false = z13 p c/\True)/\True)/\True) /\
 ((c.kind != (1:Int)) = false ->
 (z0j { kind:=c.kind,flow:=c.flow,pot:=c.pot,side:=c.side,cycle:=c.cycle:Cert } /\
 z2b (ofI { most:=p.most,inst:=p.inst,s:=p.s,t:=p.t:ProbD })) /\
 ((z0x (ofI { most:=p.most,inst:=p.inst,s:=p.s,t:=p.t:ProbD })
 { kind:=c.kind,flow:=c.flow,pot:=c.pot,side:=c.side,cycle:=c.cycle:Cert } !=
 (0:Int)) =
 true ->
 (((0:Int) = z6d p c/\false = z13 p c/\True)/\True)/\True) /\
 ((z0x (ofI { most:=p.most,inst:=p.inst,s:=p.s,t:=p.t:ProbD })
 { kind:=c.kind,flow:=c.flow,pot:=c.pot,side:=c.side,cycle:=c.cycle:Cert } !=
 (0:Int)) =
 false ->
 ((0:Int) <= (↑p.inst.arcs.length:Int)/\(↑p.inst.arcs.length:Int) < (↑c.flow.length:Int)) /\
 (↑p.inst.arcs.length:Int).toNat < c.flow.length /\
 ∀ (x:Int),c.flow[(↑p.inst.arcs.length:Int).toNat]? = some x->((x = z6d p c/\true = z13 p c/\True)/\True)/\True)))
theorem Value21_q (p:ProbD) (c:Cert) (ty0 ty1 ty2 ty3 ty4 ty5:TypeId):zb3 p c ty0 ty1 ty2 ty3 ty4 ty5 = z1f TT zfd (Value21_I p c) (Value21_an p c) Tryz.f22 [.agg [.bool p.most,.row 0,.row 1,.int .i64 p.s,.int .i64 p.t],.agg [.int .i64 c.kind,.row 2,.row 3,.row 4,.row 5]] [(0,.row false ty0 (.ints .i64 p.inst.sup)),(1,.row false ty1 (.arcs p.inst.arcs)),(2,.row false ty2 (.ints .i64 c.flow)),(3,.row false ty3 (.ints .i64 c.pot)),(4,.row false ty4 (.bools c.side)),(5,.row false ty5 (.ints .i64 c.cycle))] (zff p c):=by kernel_rfl
theorem Value21_E (p:ProbD) (c:Cert) (ty0 ty1 ty2 ty3 ty4 ty5:TypeId) (hp:z0j c):FVc TT zfd (Value21_I p c) (Value21_an p c) Tryz.f22 [.agg [.bool p.most,.row 0,.row 1,.int .i64 p.s,.int .i64 p.t],.agg [.int .i64 c.kind,.row 2,.row 3,.row 4,.row 5]] [(0,.row false ty0 (.ints .i64 p.inst.sup)),(1,.row false ty1 (.arcs p.inst.arcs)),(2,.row false ty2 (.ints .i64 c.flow)),(3,.row false ty3 (.ints .i64 c.pot)),(4,.row false ty4 (.bools c.side)),(5,.row false ty5 (.ints .i64 c.cycle))] (zff p c):=by
 refine FVc.of (zb3 p c ty0 ty1 ty2 ty3 ty4 ty5) (Value21_q p c ty0 ty1 ty2 ty3 ty4 ty5) ?_
 unfold zb3
 have no:¬ GoodP p c->z6d p c = 0/\z13 p c = false/\z23 p c = []/\z1q p c = []:=fun h=>by
  have e:=zh2 h
  unfold z6d z23 z1q
  rw [e]; exact ⟨rfl,rfl,rfl,rfl⟩
 have yes:GoodP p c->z6d p c = c.flow.getD p.inst.arcs.length 0/\z13 p c = true/\z23 p c = c.flow.take p.inst.arcs.length/\z1q p c = z5c p c:=fun h=>by
  have e:=goodP_iff.2 h
  unfold z6d z23 z1q
  rw [e]; exact ⟨rfl,rfl,rfl,rfl⟩
 have nn:¬ GoodP p c->0 = z6d p c/\false = z13 p c:=fun h=>by obtain ⟨n1,n2,n3,n4⟩:=no h; exact ⟨n1.symm,n2.symm⟩
 simp only [eq_self,exists_const,forall_const,decide_eq_true_eq,decide_eq_false_iff_not,and_true,true_and,bne_iff_ne,ne_eq,bne_eq_false_iff_eq,Int.toNat_natCast,Bool.not_eq_true',Bool.not_eq_false',beq_iff_eq,beq_eq_false_iff_ne,z07]
 refine ⟨fun h=>nn fun g=>h g.e,fun h0=>⟨fun h=>nn fun g=>h g.k,fun h1=>?_⟩⟩
 rw [zd3 h0]
 refine ⟨⟨hp,ze2 (z7j h0)⟩,fun h=>nn fun g=>h g.c,fun h2=>?_⟩
 have hG:GoodP p c:=⟨h0,h1,h2⟩
 have hl:=hG.len
 have hs:=z0n (ofE_zero.1 h0).1.r
 obtain ⟨y1,y2,y3,y4⟩:=yes hG
 refine ⟨⟨by omega,by omega⟩,by omega,fun x hx=>?_⟩
 rw [y1,y2,List.getD_eq_getElem?_getD,hx]; exact ⟨rfl,rfl⟩
theorem Value21_ok:SpecOk Tryz.prog zfe true (z02 true z7e) :=
 z06 z0g (show z10 Tryz.prog zfd from z00 toldV_ok (z04)) (by kernel_rfl) mixedOrders Tryz.func22 rfl rfl (by kernel_rfl) (n:=2) (by decide +kernel) (I:=Value21_IA) (fun _ _=>z05) (A:=Value21_A)
  (fun args h r hr=>by
   unfold z7e at hr
   split at hr
   ·rename_i p_m p_S p_T c_k ty0 p_s ty1 p_a ty2 c_f ty3 c_p ty4 c_s ty5 c_y; cases hr; refine ⟨rfl,fun hp=>?_⟩; have hE:=Value21_E ⟨p_m,⟨p_s,p_a⟩,p_S,p_T⟩ ⟨c_k,c_f,c_p,c_s,c_y⟩ ty0 ty1 ty2 ty3 ty4 ty5 hp; exact hE
   ·cases hr)
theorem flow1_ok:SpecOk Tryz.prog flow1_n false flow1_spec :=
 z4q z0g (show z10 Tryz.prog flow1_g from z04) (by kernel_rfl) mixedOrders Tryz.func57 rfl rfl (by kernel_rfl) _
theorem toldF_ok:SpecOk Tryz.prog toldF_n false toldF_spec :=
 z4q z0g (show z10 Tryz.prog toldF_g from z00 zf2 (z00 Check_ok (z00 flow1_ok (z04)))) (by kernel_rfl) mixedOrders Tryz.func56 rfl rfl (by kernel_rfl) _
def zer (p : ProbD) (c : Cert) (ty0 ty1 ty2 ty3 ty4 ty5 : TypeId) : Prop :=
      True /\
 ((ofE { most:=p.most,inst:=p.inst,s:=p.s,t:=p.t:ProbD } != (0:Int)) = true->((True/\false = z13 p c/\True)/\True)/\[] = z23 p c/\True) /\
 ((ofE { most:=p.most,inst:=p.inst,s:=p.s,t:=p.t:ProbD } != (0:Int)) = false ->
 ((c.kind != (1:Int)) = true->((True/\false = z13 p c/\True)/\True)/\[] = z23 p c/\True) /\
 ((c.kind != (1:Int)) = false ->
 (z0j { kind:=c.kind,flow:=c.flow,pot:=c.pot,side:=c.side,cycle:=c.cycle:Cert } /\
 z2b (ofI { most:=p.most,inst:=p.inst,s:=p.s,t:=p.t:ProbD })) /\
 ((z0x (ofI { most:=p.most,inst:=p.inst,s:=p.s,t:=p.t:ProbD })
 { kind:=c.kind,flow:=c.flow,pot:=c.pot,side:=c.side,cycle:=c.cycle:Cert } !=
 (0:Int)) =
 true ->
 ((True/\false = z13 p c/\True)/\True)/\[] = z23 p c/\True) /\
 ((z0x (ofI { most:=p.most,inst:=p.inst,s:=p.s,t:=p.t:ProbD })
 { kind:=c.kind,flow:=c.flow,pot:=c.pot,side:=c.side,cycle:=c.cycle:Cert } !=
 (0:Int)) =
 false ->
 ((0:Int) <= (0:Int) /\
 (0:Int) <= (↑p.inst.arcs.length:Int)/\(↑p.inst.arcs.length:Int) <= (↑c.flow.length:Int)/\(↑c.flow.length:Int) <= (↑c.flow.length:Int)) /\
 (0:Nat) + (List.drop (Int.toNat (0:Int)) (List.take (↑p.inst.arcs.length:Int).toNat c.flow)).length <= (1000000000:Nat) /\
 ((True/\true = z13 p c/\True)/\True)/\List.drop (Int.toNat (0:Int)) (List.take (↑p.inst.arcs.length:Int).toNat c.flow) = z23 p c/\True)))
theorem Flow21_q (p:ProbD) (c:Cert) (ty0 ty1 ty2 ty3 ty4 ty5:TypeId):zer p c ty0 ty1 ty2 ty3 ty4 ty5 = z1f TT Flow21_g (Flow21_I p c) (Flow21_an p c) Tryz.f26 [.agg [.bool p.most,.row 0,.row 1,.int .i64 p.s,.int .i64 p.t],.agg [.int .i64 c.kind,.row 2,.row 3,.row 4,.row 5]] [(0,.row false ty0 (.ints .i64 p.inst.sup)),(1,.row false ty1 (.arcs p.inst.arcs)),(2,.row false ty2 (.ints .i64 c.flow)),(3,.row false ty3 (.ints .i64 c.pot)),(4,.row false ty4 (.bools c.side)),(5,.row false ty5 (.ints .i64 c.cycle))] (Flow21_r p c):=by kernel_rfl
theorem Flow21_E (p:ProbD) (c:Cert) (ty0 ty1 ty2 ty3 ty4 ty5:TypeId) (hp:z0j c):FVc TT Flow21_g (Flow21_I p c) (Flow21_an p c) Tryz.f26 [.agg [.bool p.most,.row 0,.row 1,.int .i64 p.s,.int .i64 p.t],.agg [.int .i64 c.kind,.row 2,.row 3,.row 4,.row 5]] [(0,.row false ty0 (.ints .i64 p.inst.sup)),(1,.row false ty1 (.arcs p.inst.arcs)),(2,.row false ty2 (.ints .i64 c.flow)),(3,.row false ty3 (.ints .i64 c.pot)),(4,.row false ty4 (.bools c.side)),(5,.row false ty5 (.ints .i64 c.cycle))] (Flow21_r p c):=by
 refine FVc.of (zer p c ty0 ty1 ty2 ty3 ty4 ty5) (Flow21_q p c ty0 ty1 ty2 ty3 ty4 ty5) ?_
 unfold zer
 have no:¬ GoodP p c->z6d p c = 0/\z13 p c = false/\z23 p c = []/\z1q p c = []:=fun h=>by
  have e:=zh2 h
  unfold z6d z23 z1q
  rw [e]; exact ⟨rfl,rfl,rfl,rfl⟩
 have yes:GoodP p c->z6d p c = c.flow.getD p.inst.arcs.length 0/\z13 p c = true/\z23 p c = c.flow.take p.inst.arcs.length/\z1q p c = z5c p c:=fun h=>by
  have e:=goodP_iff.2 h
  unfold z6d z23 z1q
  rw [e]; exact ⟨rfl,rfl,rfl,rfl⟩
 have nn:¬ GoodP p c->false = z13 p c/\[] = z23 p c:=fun h=>by obtain ⟨n1,n2,n3,n4⟩:=no h; exact ⟨n2.symm,n3.symm⟩
 simp only [eq_self,exists_const,forall_const,decide_eq_true_eq,decide_eq_false_iff_not,and_true,true_and,bne_iff_ne,ne_eq,bne_eq_false_iff_eq,Int.toNat_natCast,Bool.not_eq_true',Bool.not_eq_false',beq_iff_eq,beq_eq_false_iff_ne,z07]
 refine ⟨fun h=>nn fun g=>h g.e,fun h0=>⟨fun h=>nn fun g=>h g.k,fun h1=>?_⟩⟩
 rw [zd3 h0]
 refine ⟨⟨hp,ze2 (z7j h0)⟩,fun h=>nn fun g=>h g.c,fun h2=>?_⟩
 have hG:GoodP p c:=⟨h0,h1,h2⟩
 have hl:=hG.len
 have hs:=z0n (ofE_zero.1 h0).1.r
 obtain ⟨y1,y2,y3,y4⟩:=yes hG
 rw [y2,y3]
 refine ⟨⟨by omega,by omega,by omega,by omega⟩,?_,rfl,rfl⟩
 have:(List.drop (Int.toNat 0) (List.take p.inst.arcs.length c.flow)).length = p.inst.arcs.length:=by simp; omega
 omega
theorem Flow21_ok:SpecOk Tryz.prog Flow21_n true (z02 true zes) :=
 z06 z0g (show z10 Tryz.prog Flow21_g from z00 toldF_ok (z04)) (by kernel_rfl) mixedOrders Tryz.func26 rfl rfl (by kernel_rfl) (n:=2) (by decide +kernel) (I:=Flow21_IA) (fun _ _=>z05) (A:=Flow21_A)
  (fun args h r hr=>by
   unfold zes at hr
   split at hr
   ·rename_i p_m p_S p_T c_k ty0 p_s ty1 p_a ty2 c_f ty3 c_p ty4 c_s ty5 c_y; cases hr; refine ⟨rfl,fun hp=>?_⟩; have hE:=Flow21_E ⟨p_m,⟨p_s,p_a⟩,p_S,p_T⟩ ⟨c_k,c_f,c_p,c_s,c_y⟩ ty0 ty1 ty2 ty3 ty4 ty5 hp; exact hE
   ·cases hr)
def side1_E0 (c : Cert) (p : ProbD) (ty1 ty2 ty3 ty4 ty6 ty7 : TypeId) : Prop :=
      ((↑c.pot.length:Int) = (↑c.pot.length:Int)/\(0:Int) <= (↑c.pot.length:Int)/\(↑c.pot.length:Int) <= (1000000000:Int)) /\
 ∃ (g0:Nat),
 (g0 <= c.pot.length /\
 ((0:Nat) = (0:Nat)/\(0:Nat) = (0:Nat)/\True/\True/\(↑c.pot.length:Int) = (↑c.pot.length:Int)/\(0:Int) = (↑g0:Int)/\True) /\
 List.replicate (↑c.pot.length:Int).toNat false =
 List.map (fun (v:Nat)=>decide (v < g0) && decide (c.pot.getD p.t.toNat (0:Int) < c.pot.getD v (0:Int))) (List.range c.pot.length) /\
 (c.kind = c.kind/\True/\True/\True/\True/\True) /\
 c.flow = c.flow /\
 c.pot = c.pot /\
 c.side = c.side /\
 c.cycle = c.cycle/\(p.most = p.most/\True/\True/\p.s = p.s/\p.t = p.t/\True)/\p.inst.sup = p.inst.sup/\p.inst.arcs = p.inst.arcs/\True) /\
 ∀ (g:Nat),
 g <= c.pot.length ->
 (decide ((↑g:Int) < (↑c.pot.length:Int)) = true ->
 ((0:Int) <= (↑g:Int)/\(↑g:Int) < (↑c.pot.length:Int)) /\
 (↑g:Int).toNat < c.pot.length /\
 ∀ (x:Int),
 c.pot[(↑g:Int).toNat]? = some x ->
 ((0:Int) <= p.t/\p.t < (↑c.pot.length:Int)) /\
 p.t.toNat < c.pot.length /\
 ∀ (x_1:Int),
 c.pot[p.t.toNat]? = some x_1 ->
 ((0:Int) <= (↑g:Int) /\
 (↑g:Int) <
 (↑(List.map (fun (v:Nat)=>decide (v < g) && decide (c.pot.getD p.t.toNat (0:Int) < c.pot.getD v (0:Int)))
 (List.range c.pot.length)).length :
 Int)) /\
 (↑g:Int).toNat <
 (List.map (fun (v:Nat)=>decide (v < g) && decide (c.pot.getD p.t.toNat (0:Int) < c.pot.getD v (0:Int)))
 (List.range c.pot.length)).length /\
 ∃ (g':Nat),
 g' <= c.pot.length /\
 c.pot.length - g' < c.pot.length - g /\
 ((0:Nat) = (0:Nat) /\
 (0:Nat) = (0:Nat) /\
 True/\True/\(↑c.pot.length:Int) = (↑c.pot.length:Int)/\IntKind.i64.wrap ((↑g:Int) + (1:Int)) = (↑g':Int)/\True) /\
 (List.map (fun (v:Nat)=>decide (v < g) && decide (c.pot.getD p.t.toNat (0:Int) < c.pot.getD v (0:Int)))
 (List.range c.pot.length)).set
 (↑g:Int).toNat (decide (x > x_1)) =
 List.map (fun (v:Nat)=>decide (v < g') && decide (c.pot.getD p.t.toNat (0:Int) < c.pot.getD v (0:Int)))
 (List.range c.pot.length) /\
 (c.kind = c.kind/\True/\True/\True/\True/\True) /\
 c.flow = c.flow /\
 c.pot = c.pot /\
 c.side = c.side /\
 c.cycle = c.cycle /\
 (p.most = p.most/\True/\True/\p.s = p.s/\p.t = p.t/\True)/\p.inst.sup = p.inst.sup/\p.inst.arcs = p.inst.arcs/\True) /\
 (decide ((↑g:Int) < (↑c.pot.length:Int)) = false ->
 (True/\True) /\
 List.map (fun (v:Nat)=>decide (v < g) && decide (c.pot.getD p.t.toNat (0:Int) < c.pot.getD v (0:Int))) (List.range c.pot.length) = z5c p c/\True)
theorem side1_q (c:Cert) (p:ProbD) (ty1 ty2 ty3 ty4 ty6 ty7:TypeId):side1_E0 c p ty1 ty2 ty3 ty4 ty6 ty7 = z1f TT side1_g (side1_I c p) (side1_an c p) Tryz.f53 [.ptr 0 0 0 0,.ptr 5 0 0 0] [(0,.box false 31 [.int .i64 c.kind,.row 1,.row 2,.row 3,.row 4]),(1,.row false ty1 (.ints .i64 c.flow)),(2,.row false ty2 (.ints .i64 c.pot)),(3,.row false ty3 (.bools c.side)),(4,.row false ty4 (.ints .i64 c.cycle)),(5,.box false 27 [.bool p.most,.row 6,.row 7,.int .i64 p.s,.int .i64 p.t]),(6,.row false ty6 (.ints .i64 p.inst.sup)),(7,.row false ty7 (.arcs p.inst.arcs))] (side1_r c p):=by kernel_rfl
theorem side1_E (c:Cert) (p:ProbD) (ty1 ty2 ty3 ty4 ty6 ty7:TypeId) (hp:0 <= p.t/\p.t < c.pot.length/\c.pot.length <= 1000000):FVc TT side1_g (side1_I c p) (side1_an c p) Tryz.f53 [.ptr 0 0 0 0,.ptr 5 0 0 0] [(0,.box false 31 [.int .i64 c.kind,.row 1,.row 2,.row 3,.row 4]),(1,.row false ty1 (.ints .i64 c.flow)),(2,.row false ty2 (.ints .i64 c.pot)),(3,.row false ty3 (.bools c.side)),(4,.row false ty4 (.ints .i64 c.cycle)),(5,.box false 27 [.bool p.most,.row 6,.row 7,.int .i64 p.s,.int .i64 p.t]),(6,.row false ty6 (.ints .i64 p.inst.sup)),(7,.row false ty7 (.arcs p.inst.arcs))] (side1_r c p):=by
 refine FVc.of (side1_E0 c p ty1 ty2 ty3 ty4 ty6 ty7) (side1_q c p ty1 ty2 ty3 ty4 ty6 ty7) ?_
 unfold side1_E0
 obtain ⟨t0,t1,t2⟩:=hp
 have hw:∀ j:Nat,j <= 1000000->IntKind.i64.wrap ((j:Int) + 1) = ((j + 1:Nat):Int):=fun j hj=>by rw [w64 (by omega) (by omega)]; omega
 simp only [eq_self,exists_const,forall_const,decide_eq_true_eq,decide_eq_false_iff_not,and_true,true_and,bne_iff_ne,ne_eq,bne_eq_false_iff_eq,Int.toNat_natCast,Bool.not_eq_true',Bool.not_eq_false',beq_iff_eq,beq_eq_false_iff_ne,z07]
 refine ⟨⟨by omega,by omega⟩,0,⟨Nat.zero_le _,rfl,?_⟩,fun g hg=>⟨fun h1=>⟨⟨by omega,by omega⟩,by omega,fun x hx=>⟨⟨by omega,by omega⟩,by omega,fun y hy=>⟨by simp; omega,by simp; omega,g + 1,by omega,by omega,hw g (by omega),?_⟩⟩⟩,fun h1=>?_⟩⟩
 ·apply List.ext_getElem?
  intro j
  by_cases h:j < c.pot.length <;> simp [h]
 ·rw [z24]
  refine List.map_congr_left fun v hv=>?_
  by_cases e:v = g
  ·subst e
   rw [if_pos rfl,List.getD_eq_getElem?_getD,hy,List.getD_eq_getElem?_getD,hx]
   simp
  ·have e2:(v < g + 1) = (v < g):=propext (by omega)
   rw [if_neg e]; simp only [e2]
 ·unfold z5c
  apply List.ext_getElem?
  intro j
  by_cases h:j < c.pot.length
  ·simp [h,show j < g by omega,List.getD_eq_getElem?_getD]
  ·simp [h]
theorem side1_ok:SpecOk Tryz.prog side1_n true (z02 true side1_fs) :=
 z06 z0g (show z10 Tryz.prog side1_g from z04) (by kernel_rfl) mixedOrders Tryz.func53 rfl rfl (by kernel_rfl) (n:=2) (by decide +kernel) (I:=side1_IA) (fun _ _=>z05) (A:=side1_A)
  (fun args h r hr=>by
   unfold side1_fs at hr
   split at hr
   ·rename_i c_k ty1 c_f ty2 c_p ty3 c_s ty4 c_y p_m p_S p_T ty6 p_s ty7 p_a; cases hr; refine ⟨rfl,fun hp=>?_⟩; have hE:=side1_E ⟨c_k,c_f,c_p,c_s,c_y⟩ ⟨p_m,⟨p_s,p_a⟩,p_S,p_T⟩ ty1 ty2 ty3 ty4 ty6 ty7 hp; exact hE
   ·cases hr)
theorem toldS_ok:SpecOk Tryz.prog toldS_n false toldS_spec :=
 z4q z0g (show z10 Tryz.prog toldS_g from z00 zf2 (z00 Check_ok (z00 side1_ok (z04)))) (by kernel_rfl) mixedOrders Tryz.func52 rfl rfl (by kernel_rfl) _
def zfc (p : ProbD) (c : Cert) (ty0 ty1 ty2 ty3 ty4 ty5 : TypeId) : Prop :=
      True /\
 ((ofE { most:=p.most,inst:=p.inst,s:=p.s,t:=p.t:ProbD } != (0:Int)) = true->((True/\false = z13 p c/\True)/\True)/\[] = z1q p c/\True) /\
 ((ofE { most:=p.most,inst:=p.inst,s:=p.s,t:=p.t:ProbD } != (0:Int)) = false ->
 ((c.kind != (1:Int)) = true->((True/\false = z13 p c/\True)/\True)/\[] = z1q p c/\True) /\
 ((c.kind != (1:Int)) = false ->
 (z0j { kind:=c.kind,flow:=c.flow,pot:=c.pot,side:=c.side,cycle:=c.cycle:Cert } /\
 z2b (ofI { most:=p.most,inst:=p.inst,s:=p.s,t:=p.t:ProbD })) /\
 ((z0x (ofI { most:=p.most,inst:=p.inst,s:=p.s,t:=p.t:ProbD })
 { kind:=c.kind,flow:=c.flow,pot:=c.pot,side:=c.side,cycle:=c.cycle:Cert } !=
 (0:Int)) =
 true ->
 ((True/\false = z13 p c/\True)/\True)/\[] = z1q p c/\True) /\
 ((z0x (ofI { most:=p.most,inst:=p.inst,s:=p.s,t:=p.t:ProbD })
 { kind:=c.kind,flow:=c.flow,pot:=c.pot,side:=c.side,cycle:=c.cycle:Cert } !=
 (0:Int)) =
 false ->
 ((0:Int) <= p.t/\p.t < (↑c.pot.length:Int)/\c.pot.length <= (1000000:Nat)) /\
 ((True/\true = z13 p c/\True)/\True) /\
 z5c { most:=p.most,inst:=p.inst,s:=p.s,t:=p.t:ProbD } { kind:=c.kind,flow:=c.flow,pot:=c.pot,side:=c.side,cycle:=c.cycle:Cert } =
 z1q p c /\
 True)))
theorem Side21_q (p:ProbD) (c:Cert) (ty0 ty1 ty2 ty3 ty4 ty5:TypeId):zfc p c ty0 ty1 ty2 ty3 ty4 ty5 = z1f TT Side21_g (Side21_I p c) (Side21_an p c) Tryz.f23 [.agg [.bool p.most,.row 0,.row 1,.int .i64 p.s,.int .i64 p.t],.agg [.int .i64 c.kind,.row 2,.row 3,.row 4,.row 5]] [(0,.row false ty0 (.ints .i64 p.inst.sup)),(1,.row false ty1 (.arcs p.inst.arcs)),(2,.row false ty2 (.ints .i64 c.flow)),(3,.row false ty3 (.ints .i64 c.pot)),(4,.row false ty4 (.bools c.side)),(5,.row false ty5 (.ints .i64 c.cycle))] (Side21_r p c):=by kernel_rfl
theorem Side21_E (p:ProbD) (c:Cert) (ty0 ty1 ty2 ty3 ty4 ty5:TypeId) (hp:z0j c):FVc TT Side21_g (Side21_I p c) (Side21_an p c) Tryz.f23 [.agg [.bool p.most,.row 0,.row 1,.int .i64 p.s,.int .i64 p.t],.agg [.int .i64 c.kind,.row 2,.row 3,.row 4,.row 5]] [(0,.row false ty0 (.ints .i64 p.inst.sup)),(1,.row false ty1 (.arcs p.inst.arcs)),(2,.row false ty2 (.ints .i64 c.flow)),(3,.row false ty3 (.ints .i64 c.pot)),(4,.row false ty4 (.bools c.side)),(5,.row false ty5 (.ints .i64 c.cycle))] (Side21_r p c):=by
 refine FVc.of (zfc p c ty0 ty1 ty2 ty3 ty4 ty5) (Side21_q p c ty0 ty1 ty2 ty3 ty4 ty5) ?_
 unfold zfc
 have no:¬ GoodP p c->z6d p c = 0/\z13 p c = false/\z23 p c = []/\z1q p c = []:=fun h=>by
  have e:=zh2 h
  unfold z6d z23 z1q
  rw [e]; exact ⟨rfl,rfl,rfl,rfl⟩
 have yes:GoodP p c->z6d p c = c.flow.getD p.inst.arcs.length 0/\z13 p c = true/\z23 p c = c.flow.take p.inst.arcs.length/\z1q p c = z5c p c:=fun h=>by
  have e:=goodP_iff.2 h
  unfold z6d z23 z1q
  rw [e]; exact ⟨rfl,rfl,rfl,rfl⟩
 have nn:¬ GoodP p c->false = z13 p c/\[] = z1q p c:=fun h=>by obtain ⟨n1,n2,n3,n4⟩:=no h; exact ⟨n2.symm,n4.symm⟩
 simp only [eq_self,exists_const,forall_const,decide_eq_true_eq,decide_eq_false_iff_not,and_true,true_and,bne_iff_ne,ne_eq,bne_eq_false_iff_eq,Int.toNat_natCast,Bool.not_eq_true',Bool.not_eq_false',beq_iff_eq,beq_eq_false_iff_ne,z07]
 refine ⟨fun h=>nn fun g=>h g.e,fun h0=>⟨fun h=>nn fun g=>h g.k,fun h1=>?_⟩⟩
 rw [zd3 h0]
 refine ⟨⟨hp,ze2 (z7j h0)⟩,fun h=>nn fun g=>h g.c,fun h2=>?_⟩
 have hG:GoodP p c:=⟨h0,h1,h2⟩
 have hl:=hG.len
 have hs:=z0n (ofE_zero.1 h0).1.r
 obtain ⟨y1,y2,y3,y4⟩:=yes hG
 rw [y2,y4]
 have ht:=nodeP_iff.1 (ofE_zero.1 h0).1.t
 exact ⟨⟨by omega,by omega,by omega⟩,rfl,rfl⟩
theorem Side21_ok:SpecOk Tryz.prog Side21_n true (z02 true z9n) :=
 z06 z0g (show z10 Tryz.prog Side21_g from z00 toldS_ok (z04)) (by kernel_rfl) mixedOrders Tryz.func23 rfl rfl (by kernel_rfl) (n:=2) (by decide +kernel) (I:=Side21_IA) (fun _ _=>z05) (A:=Side21_A)
  (fun args h r hr=>by
   unfold z9n at hr
   split at hr
   ·rename_i p_m p_S p_T c_k ty0 p_s ty1 p_a ty2 c_f ty3 c_p ty4 c_s ty5 c_y; cases hr; refine ⟨rfl,fun hp=>?_⟩; have hE:=Side21_E ⟨p_m,⟨p_s,p_a⟩,p_S,p_T⟩ ⟨c_k,c_f,c_p,c_s,c_y⟩ ty0 ty1 ty2 ty3 ty4 ty5 hp; exact hE
   ·cases hr)
abbrev z3l (p:ProbD) (S:List Bool):=((((0:Int) = (z2u (z1w p S)).hi/\((0:Int) = (z2u (z1w p S)).lo/\True))/\(false = (z1w p S).isSome/\True))/\True)
abbrev z8f (p:ProbD) (g':Nat × Int) (g:Nat × Int) (S:List Bool):=(p.inst.arcs.length - g'.fst < p.inst.arcs.length - g.fst/\((True/\(0 = 0/\(0 = 0/\(True/\((↑p.inst.arcs.length:Int) = ↑p.inst.arcs.length/\(IntKind.i64.wrap ((↑g.1:Int) + (1:Int)) = (↑g'.1:Int)/\True))))))/\(((W g.2).hi = (W g'.2).hi/\((W g.2).lo = (W g'.2).lo/\True))/\(((0:Int) = 0/\((0:Int) = 0/\True))/\(p.inst.arcs = p.inst.arcs/\(S = S/\True))))))
abbrev z5t (g':Nat × Int) (p:ProbD) (S:List Bool):=(g'.fst <= p.inst.arcs.length/\(z0u (↑p.inst.sup.length:Int) S (List.drop g'.fst p.inst.arcs) g'.snd = z2t p.inst S))
def z8e (p : ProbD) (S : List Bool) (ty0 ty1 ty2 : TypeId) : Prop :=
   True/\((ofE { most:=p.most,inst:=p.inst,s:=p.s,t:=p.t:ProbD } != (0:Int)) = true->(z3l p S)/\True)/\((ofE { most:=p.most,inst:=p.inst,s:=p.s,t:=p.t:ProbD } != (0:Int)) = false->(((↑S.length:Int) != (↑p.inst.sup.length:Int)) = true->(z3l p S)/\True)/\(((↑S.length:Int) != (↑p.inst.sup.length:Int)) = false->((0:Int) <= p.s/\(p.s < (↑S.length:Int)))/\p.s.toNat < S.length/\∀ (x:Bool),S[p.s.toNat]? = some x->((!x) = true->(z3l p S)/\True)/\((!x) = false->((0:Int) <= p.t/\(p.t < (↑S.length:Int)))/\p.t.toNat < S.length/\∀ (x:Bool),S[p.t.toNat]? = some x->(x = true->(z3l p S)/\True)/\(x = false->I64 (0:Int)/\∃ (g0:Nat × Int),((g0.fst <= p.inst.arcs.length/\(z0u (↑p.inst.sup.length:Int) S (List.drop g0.fst p.inst.arcs) g0.snd = z2t p.inst S))/\((True/\(0 = 0/\(0 = 0/\(True/\((↑p.inst.arcs.length:Int) = ↑p.inst.arcs.length/\((0:Int) = ↑g0.1/\True))))))/\(((W (0:Int)).hi = (W g0.2).hi/\((W (0:Int)).lo = (W g0.2).lo/\True))/\(((0:Int) = 0/\((0:Int) = 0/\True))/\(p.inst.arcs = p.inst.arcs/\(S = S/\True))))))/\∀ (g:Nat × Int),g.fst <= p.inst.arcs.length/\z0u (↑p.inst.sup.length:Int) S (List.drop g.fst p.inst.arcs) g.snd = z2t p.inst S->(decide ((↑g.1:Int) < ↑p.inst.arcs.length) = true->((0:Int) <= ↑g.1/\((↑g.1:Int) < ↑p.inst.arcs.length))/\((↑g.1:Int).toNat < p.inst.arcs.length/\(∀ (x:Arc),p.inst.arcs[(↑g.1:Int).toNat]? = some x->((0:Int) <= x.src/\(x.src < (↑S.length:Int)))/\(x.src.toNat < S.length/\(∀ (x_1:Bool),S[x.src.toNat]? = some x_1->((!x_1) = true->∃ (g':Nat × Int),(z5t g' p S)/\(z8f p g' g S))/\((!x_1) = false->((0:Int) <= x.dst/\(x.dst < (↑S.length:Int)))/\(x.dst.toNat < S.length/\(∀ (x_2:Bool),S[x.dst.toNat]? = some x_2->(x_2 = true->∃ (g':Nat × Int),(z5t g' p S)/\(z8f p g' g S))/\(x_2 = false->((x.cap == (4611686018427387904:Int)) = true->(z3l p S)/\True)/\((x.cap == (4611686018427387904:Int)) = false->I64 x.cap/\(((W g.2).ok/\((W x.cap).ok))/\(∃ (g':Nat × Int),(z5t g' p S)/\(p.inst.arcs.length - g'.fst < p.inst.arcs.length - g.fst/\((True/\(0 = 0/\(0 = 0/\(True/\((↑p.inst.arcs.length:Int) = ↑p.inst.arcs.length/\(IntKind.i64.wrap ((↑g.1:Int) + (1:Int)) = (↑g'.1:Int)/\True))))))/\(((z27 (W g.2) (W x.cap)).hi = (W g'.2).hi/\((z27 (W g.2) (W x.cap)).lo = (W g'.2).lo/\True))/\(((0:Int) = 0/\((0:Int) = 0/\True))/\(p.inst.arcs = p.inst.arcs/\(S = S/\True))))))))))))))))))/\(decide ((↑g.1:Int) < ↑p.inst.arcs.length) = false->((((W g.2).hi = (z2u (z1w p S)).hi/\((W g.2).lo = (z2u (z1w p S)).lo/\True))/\(true = (z1w p S).isSome/\True))/\True)/\True)))))
theorem Weight21_q (p:ProbD) (S:List Bool) (ty0 ty1 ty2:TypeId):z8e p S ty0 ty1 ty2 = z1f TT zb4 (Weight21_I p S) (z8g p S) Tryz.f21 [.agg [.bool p.most,.row 0,.row 1,.int .i64 p.s,.int .i64 p.t],.row 2] [(0,.row false ty0 (.ints .i64 p.inst.sup)),(1,.row false ty1 (.arcs p.inst.arcs)),(2,.row false ty2 (.bools S))] (zb6 p S):=by kernel_rfl
theorem Weight21_E (p:ProbD) (S:List Bool) (ty0 ty1 ty2:TypeId) (hp:S.length <= 1000000):FVc TT zb4 (Weight21_I p S) (z8g p S) Tryz.f21 [.agg [.bool p.most,.row 0,.row 1,.int .i64 p.s,.int .i64 p.t],.row 2] [(0,.row false ty0 (.ints .i64 p.inst.sup)),(1,.row false ty1 (.arcs p.inst.arcs)),(2,.row false ty2 (.bools S))] (zb6 p S):=by
 refine FVc.of (z8e p S ty0 ty1 ty2) (Weight21_q p S ty0 ty1 ty2) ?_
 unfold z8e
 delta z5t z8f z3l
 have hw:∀ j:Nat,j <= 1000000->IntKind.i64.wrap ((j:Int) + 1) = ((j + 1:Nat):Int):=fun j hj=>by rw [w64 (by omega) (by omega)]; omega
 simp only [eq_self,exists_const,forall_const,decide_eq_true_eq,decide_eq_false_iff_not,and_true,true_and,bne_iff_ne,ne_eq,bne_eq_false_iff_eq,Int.toNat_natCast,Bool.not_eq_true',Bool.not_eq_false',beq_iff_eq,beq_eq_false_iff_ne,z07]
 have no:¬ OnP p S->(0 = (z2u (z1w p S)).hi/\0 = (z2u (z1w p S)).lo)/\false = (z1w p S).isSome:=fun h=>by rw [weigh_no h]; exact ⟨⟨rfl,rfl⟩,rfl⟩
 refine ⟨fun h=>no fun g=>h g.e,fun h0=>?_⟩
 have hf:=(ofE_zero.1 h0).1
 have hr:=hf.r
 have hs:=z0n hr
 have hb:=bareF_iff.1 hf.b
 have ns:=nodeP_iff.1 hf.s
 have nt:=nodeP_iff.1 hf.t
 refine ⟨fun h1=>no fun h=>h1 (by rw [h.l]),fun h1=>⟨⟨by omega,by omega⟩,by omega,fun x hx=>⟨fun h2=>no fun h=>?_,fun h2=>⟨⟨by omega,by omega⟩,by omega,fun y hy=>⟨fun h3=>no fun h=>?_,fun h3=>⟨by unfold I64; omega,(0,0),⟨⟨Nat.zero_le _,rfl⟩,rfl,rfl,rfl⟩,fun g hg=>?_⟩⟩⟩⟩⟩⟩
 ·have:=h.s; rw [List.getD_eq_getElem?_getD,hx,h2] at this; cases this
 ·have:=h.t; rw [List.getD_eq_getElem?_getD,hy,h3] at this; cases this
 have on:OnP p S:=⟨h0,by omega,by rw [List.getD_eq_getElem?_getD,hx,h2]; rfl,by rw [List.getD_eq_getElem?_getD,hy,h3]; rfl⟩
 rw [weigh_on on]
 clear no hx hy h2 h3
 obtain ⟨k,s⟩:=g
 dsimp only at hg ⊢
 obtain ⟨hk,hg⟩:=hg
 refine ⟨fun h4=>⟨⟨by omega,by omega⟩,by omega,fun a ha=>?_⟩,fun h4=>?_⟩
 ·have hm:=List.mem_of_getElem? ha
  have ra:=zcp hr hm
  have ho:=z1b hr hm
  have ho1:=ho.1
  unfold z25 at ho1
  simp only [Bool.and_eq_true,decide_eq_true_eq] at ho1
  rw [z2p ha,room_step ra (hb.2 a hm).1] at hg
  have hi:inf = 4611686018427387904:=rfl
  refine ⟨⟨by omega,by omega⟩,by omega,fun b hb1=>⟨fun h5=>⟨(k + 1,s),⟨by dsimp only; omega,?_⟩,by dsimp only; omega,hw k (by omega),rfl,rfl⟩,fun h5=>⟨⟨by omega,by omega⟩,by omega,fun d hd1=>⟨fun h6=>⟨(k + 1,s),⟨by dsimp only; omega,?_⟩,by dsimp only; omega,hw k (by omega),rfl,rfl⟩,fun h6=>?_⟩⟩⟩⟩
  ·rw [if_neg (fun h=>by have:=h.1; rw [List.getD_eq_getElem?_getD,hb1,h5] at this; cases this)] at hg; exact hg
  ·rw [if_neg (fun h=>by have:=h.2; rw [List.getD_eq_getElem?_getD,hd1,h6] at this; cases this)] at hg; exact hg
  ·rw [if_pos ⟨by rw [List.getD_eq_getElem?_getD,hb1,h5]; rfl,by rw [List.getD_eq_getElem?_getD,hd1,h6]; rfl⟩,hi] at hg
   refine ⟨fun h7=>?_,fun h7=>⟨by unfold I64; omega,⟨z6e _,z6e _⟩,(k + 1,s + a.cap),⟨by dsimp only; omega,?_⟩,by dsimp only; omega,hw k (by omega),by rw [z45],by rw [z45]⟩⟩
   ·rw [if_pos h7] at hg
    rw [<- hg]; exact ⟨⟨rfl,rfl⟩,rfl⟩
   ·rw [if_neg h7] at hg; exact hg
 ·rw [z3p (by omega)] at hg
  rw [<- hg]
  exact ⟨⟨rfl,rfl⟩,rfl⟩
theorem zfg:SpecOk Tryz.prog zb5 true (z02 true z5u) :=
 z06 z0g (show z10 Tryz.prog zb4 from z00 zf2 (z00 zf3 (z00 zb0 (z04)))) (by kernel_rfl) mixedOrders Tryz.func21 rfl rfl (by kernel_rfl) (n:=2) (by decide +kernel) (I:=Weight21_IA) (fun _ _=>z05) (A:=Weight21_A)
  (fun args h r hr=>by
   unfold z5u at hr
   split at hr
   ·rename_i p_m p_S p_T ty0 p_s ty1 p_a ty2 S; cases hr; refine ⟨rfl,fun hp=>?_⟩; have hE:=Weight21_E ⟨p_m,⟨p_s,p_a⟩,p_S,p_T⟩ S ty0 ty1 ty2 hp; exact hE
   ·cases hr)
end Go.Proofs.YtapeenpimcffpaaGreat
end
