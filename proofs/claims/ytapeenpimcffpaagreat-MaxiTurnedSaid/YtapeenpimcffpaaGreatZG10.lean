/- Part of the proof: Solve6, Solve7, Solve8, Solve9, Solve10, Solve11, Solve12, Solve13, Solve14, Solve15, Solve16, Solve19, Maxi, DA21. -/
import Derived.Test.YtapeenpimcffpaaGreatZG9
import Derived.Test.YtapeenpimcffpaaGreatZG8
import Derived.Test.YtapeenpimcffpaaGreatZG6
import Derived.Test.YtapeenpimcffpaaGreatZG5
set_option linter.all false
set_option linter.unusedSimpArgs false
set_option linter.unusedVariables false
section
namespace Go.Ql
open Go Go.Vc
def GreatOk (I:Inst) (o:List Int):Prop:=o.length <= 1000/\I.arcs.length <= 1000/\(∀ y ∈ o,-536870912 <= y/\y <= 536870912)/\∀ a ∈ I.arcs,a.cap = inf ∨ -536870912 <= a.cap/\a.cap <= 536870912
structure GreatP (I:Inst) (j:Nat):Prop where
 caps:∀ a,a < I.arcs.length->(z1y I a).cap = inf ∨ (z1y I a).cap <= (2:Int) ^ j
 le:(2:Int) ^ j <= 1073741824
def MostI (I:Inst) (a:Nat) (m:Int):Prop:=(∀ c,c < a->(z1y I c).cap = inf ∨ (z1y I c).cap <= m)/\1 <= m/\m <= 536870912
structure SatG (I:Inst) (x o:List Int) (D:List (List Int)) (L:Int) (g:Nat->Int) (B P:Int):Prop where
 d:D = z0k I.sup.length fun v=>some (g v)
 gb:∀ v,v < I.sup.length->-144115188075855872 <= g v/\g v <= 144115188075855872
 b0:4398046511104 <= B
 b1:B <= 144115188075855872
 p:P + 2 * L * 512 <= 144115188075855872
 s:SatI I g L B P 0 (z1g 0 0) x o
 e:∀ s,okS I s->endS I s = true->rcOk I g s
def SatOk (I:Inst) (x o:List Int) (D:List (List Int)) (L:Int):Prop:=z04 I = 0/\1 <= L/\L <= 1152921504606846976/\∃ g B P,SatG I x o D L g B P
def SatJ (I:Inst) (x0 o0:List Int) (D:List (List Int)) (L:Int) (a j:Nat) (x o:List Int):Prop:=∀ g B P,SatG I x0 o0 D L g B P->SatI I g L B P (2 * a + j) (z1g a j) x o
structure SatP (I:Inst) (x0 o0:List Int) (D:List (List Int)) (L:Int) (x o:List Int):Prop where
 all:∀ g B P,SatG I x0 o0 D L g B P->SatI I g L B P (2 * I.arcs.length) allD x o
theorem SatI.bounds {I:Inst} (hr:z04 I = 0) {g:Nat->Int} {L B P:Int} {q:Nat} {done:Stp->Bool} {x o:List Int} (h:SatI I g L B P q done x o) (hL:1 <= L) (hq:q <= 512) (hB:B <= 144115188075855872) (hP:P + 2 * L * 512 <= 144115188075855872):x.length = I.arcs.length/\o.length = I.sup.length/\YB x/\YB o:=by
 have hPq:2 * L * (q:Int) <= 2 * L * 512:=Int.mul_le_mul_of_nonneg_left (by omega) (by omega)
 have hp:=h.p
 refine ⟨h.n.over.lx,h.n.over.lo,yb_of fun k hk=>?_,yb_of fun k hk=>?_⟩
 ·have:=h.n.bd k (by rw [<- h.n.over.lx]; exact hk); omega
 ·have:=over_bd hr h.n.over (v:=k) (by rw [<- h.n.over.lo]; exact hk); omega
theorem SatI.congr {I:Inst} {g:Nat->Int} {L B P:Int} {q q':Nat} {done done':Stp->Bool} {x o:List Int} (h:SatI I g L B P q done x o) (hL:0 <= L) (hd:∀ s,okS I s->done' s = true->done s = true) (hq:q <= q'):SatI I g L B P q' done' x o :=
  { n:=h.n,hi:=h.hi,lo:=fun s hs hds hr=>h.lo s hs (hd s hs hds) hr,
    p:=by
      have:=h.p
      have:2 * L * (q:Int) <= 2 * L * q':=Int.mul_le_mul_of_nonneg_left (by omega) (by omega)
      omega }
theorem SatJ.skip {I:Inst} {x0 o0:List Int} {D:List (List Int)} {L:Int} {a:Nat} {k:Bool} {x o:List Int} (h:SatJ I x0 o0 D L a (bif k then 1 else 0) x o) (hL:0 <= L) (hn:L <= rmS I x (a,k)->∀ g:Nat->Int,D = z0k I.sup.length (fun v=>some (g v))->rcOk I g (a,k)):SatJ I x0 o0 D L a ((bif k then 1 else 0) + 1) x o :=
 fun g B P hG=>(h g B P hG).skip hL fun hl=>hn hl g hG.d
theorem SatJ.fill {I:Inst} (hr:z04 I = 0) {x0 o0:List Int} {D:List (List Int)} {L:Int} {a:Nat} {k:Bool} {x o:List Int} (h:SatJ I x0 o0 D L a (bif k then 1 else 0) x o) (hL:1 <= L) (ha:a < I.arcs.length) (h1:L <= rmS I x (a,k)) (hn:∀ g:Nat->Int,D = z0k I.sup.length (fun v=>some (g v))->¬ rcOk I g (a,k)) :
  SatJ I x0 o0 D L a ((bif k then 1 else 0) + 1) (z4q x (a,k) (rmS I x (a,k))) (z6n I o (a,k) (rmS I x (a,k))) :=
 fun g B P hG=>(h g B P hG).fill hr hL hG.b0 ha h1 (hn g hG.d) (hG.e (a,k) ha)
theorem SatJ.next {I:Inst} {x0 o0:List Int} {D:List (List Int)} {L:Int} {a:Nat} {x o:List Int} (h:SatJ I x0 o0 D L a 2 x o) (hL:0 <= L):SatJ I x0 o0 D L (a + 1) 0 x o:=fun g B P hG=>(h g B P hG).congr hL (fun s _ hd=>by rw [z9b]; exact hd) (by omega)
theorem SatJ.done {I:Inst} {x0 o0:List Int} {D:List (List Int)} {L:Int} {x o:List Int} (h:SatJ I x0 o0 D L I.arcs.length 0 x o) (hL:0 <= L):SatP I x0 o0 D L x o:=⟨fun g B P hG=>(h g B P hG).congr hL (fun s hs _=>z4j hs) (by omega)⟩
theorem SatJ.begin {I:Inst} {x0 o0:List Int} {D:List (List Int)} {L:Int}:SatJ I x0 o0 D L 0 0 x0 o0:=fun g B P hG=>hG.s
theorem z42 {n v:Nat} {g:Nat->Int} {D:List (List Int)} (hD:D = z0k n fun v=>some (g v)) {y:List Int} (hy:D[v]? = some y):y.headD 0 = g v/\v < n:=by
 subst hD
 obtain ⟨h1,h2⟩:=z1u hy
 subst h2
 exact ⟨rfl,h1⟩
theorem z8h (j:Nat):(1:Int) <= (2:Int) ^ j:=by
 induction j with
 | zero=>simp
 | succ j ih=>rw [Int.pow_succ]; omega
theorem MostI.arc {I:Inst} {a:Nat} {m:Int} (h:MostI I a m) {y:Arc} (hy:I.arcs[a]? = some y) {m':Int} (hm:m <= m') (hc:y.cap = inf ∨ y.cap <= m') (hl:m' <= 536870912):MostI I (a + 1) m':=by
 refine ⟨fun c hc2=>?_,by have:=h.2.1; omega,hl⟩
 by_cases e:c = a
 ·subst e; rw [z28 hy]; exact hc
 ·exact (h.1 c (by omega)).imp id (by omega)
end Go.Ql
end
section
namespace Go.Ql
open Go Go.Vc
def Stk (I:Inst) (x o:List Int) (L:Int):Prop:=∃ d:Nat->Bool,(∀ v,v < I.sup.length->L <= o.getD v 0->d v = true)/\(∀ s,okS I s->L <= rmS I x s->d (frS I s) = true->d (toS I s) = true)/\∀ v,v < I.sup.length->o.getD v 0 <= -L->d v = false
structure PhI (I:Inst) (x o:List Int) (g:Nat->Int) (k:Nat):Prop where
 ex:∃ B,NInv I x o B/\4398046511104 <= B/\B + z4h o I.sup.length + 2048 * (2:Int) ^ k <= 144115188075855872
 gb:∀ v,v < I.sup.length->-144115188075855872 <= g v/\g v <= 144115188075855872
 pot:∀ s,okS I s->(2:Int) ^ k <= rmS I x s->rcOk I g s
 st:k = 0->Stk I x o 1
structure LpI (I:Inst) (x o:List Int) (L:Int):Prop where
 ex:∃ B,NInv I x o B/\4398046511104 <= B/\B + z4h o I.sup.length + 2048 * L <= 144115188075855872
 pot:∃ π,z8u I (z9s I x L) π
def zi2 (I:Inst) (x o:List Int):Prop:=z04 I = 0/\OverOf I x o/\(∀ a,a < I.arcs.length->x.getD a 0 = (z1y I a).low)/\GreatOk I o/\(∃ π,z8u I (endS I) π)/\∃ y,A64 y/\z19 I y = 0
structure CheapP (I:Inst) (x o:List Int):Prop where
 fits:z19 I x = 0
 yb:YB x
 lo:o.length = I.sup.length
 pot:∃ g,z8u I (fun s=>endS I s || decide (0 < rmS I x s)) g
theorem ph_begin {I:Inst} {x o:List Int} (h:zi2 I x o) {d:Nat->Option Int} {b:Nat->Option Stp} {e:Option Nat} (hS:ShortP I (endS I) (fun _=>true) d b e) {j:Nat} (hj:GreatP I j):∃ g:Nat->Int,z0k I.sup.length d = z0k I.sup.length (fun v=>some (g v))/\PhI I x o g (j + 1):=by
 obtain ⟨hr,hO,hx,hG,⟨π,hπ⟩,hy⟩:=h
 obtain ⟨g,h1,h2⟩:=zmy hr hS hπ
 have hpj:=z8h j
 have hps:∀ k,k <= I.sup.length->z4h o k <= 536870912 * (k:Int):=by
  intro k
  induction k with
  | zero=>intro _; simp [z4h]
  | succ k ih =>
   intro hk
   have:=ih (by omega)
   have hm:o[k]? = some (o.getD k 0):=by rw [List.getD_eq_getElem?_getD,List.getElem?_eq_getElem (show k < o.length by rw [hO.lo]; omega)]; rfl
   have:=hG.2.2.1 _ (List.mem_of_getElem? hm)
   rw [z4h]
   omega
 have hs64:=z0c hr
 have hpn:=hps _ (Nat.le_refl _)
 refine ⟨g,?_,⟨4398046511104,⟨hO,fun a ha=>?_,fun a ha=>?_⟩,Int.le_refl _,?_⟩,fun v hv=>?_,fun s hs hrm=>?_,fun h=>by omega⟩
 ·unfold z0k
  exact List.map_congr_left fun v hv=>by rw [h1 v (List.mem_range.1 hv)]
 ·have ok:=z1l hr ha
  rw [hx a ha]
  exact ⟨Int.le_refl _,ok.c.imp id (·.1)⟩
 ·have ok:=z1l hr ha
  have:=ok.l0; have:=ok.l1
  rw [hx a ha]; omega
 ·have:=hj.le
  rw [Int.pow_succ]; omega
 ·exact hS.db hr (h1 v hv)
 ·obtain ⟨a,k⟩:=s
  have ha:a < I.arcs.length:=hs
  refine h2 (a,k) hs ?_
  rw [Int.pow_succ] at hrm
  unfold rmS at hrm
  dsimp only at hrm
  rw [hx a ha] at hrm
  cases k with
  | true=>simp only [if_true] at hrm; omega
  | false =>
   simp only [Bool.false_eq_true,if_false] at hrm
   by_cases hc:(z1y I a).cap = inf
   ·unfold endS; simp [hc]
   ·rw [if_neg hc] at hrm
    have:=(hj.caps a ha).resolve_left hc
    have:=(z1l hr ha).l0
    omega
theorem ph_sat {I:Inst} (hr:z04 I = 0) {x o:List Int} {g:Nat->Int} {k:Nat} (h:PhI I x o g (k + 1)):∃ B,SatG I x o (z0k I.sup.length fun v=>some (g v)) ((2:Int) ^ k) g B (z4h o I.sup.length)/\B + z4h o I.sup.length + 4096 * (2:Int) ^ k <= 144115188075855872:=by
 obtain ⟨B,hN,hB,hb⟩:=h.ex
 have hp:=z8h k
 have hps:=z1r o I.sup.length
 have e2:(2:Int) ^ (k + 1) = 2 * (2:Int) ^ k:=by rw [Int.pow_succ]; omega
 rw [e2] at hb
 refine ⟨B,⟨rfl,h.gb,hB,by omega,by omega,⟨hN,fun s hs hrm=>h.pot s hs (by rw [e2]; exact hrm),fun s _ hd=>(by rw [doneJ_zero] at hd; cases hd),by omega⟩,fun s hs he=>h.pot s hs ?_⟩,by omega⟩
 unfold endS at he
 rw [Bool.and_eq_true,Bool.not_eq_true',decide_eq_true_eq] at he
 unfold rmS
 rw [he.1,if_neg Bool.false_ne_true,if_pos he.2,e2]
 omega
theorem ph_lump {I:Inst} (hr:z04 I = 0) {x o x1 o1:List Int} {g:Nat->Int} {k:Nat} (h:PhI I x o g (k + 1)) (hS:SatP I x o (z0k I.sup.length fun v=>some (g v)) ((2:Int) ^ k) x1 o1):LpI I x1 o1 ((2:Int) ^ k):=by
 obtain ⟨B,hG,hb⟩:=ph_sat hr h
 have h1:=hS.all _ _ _ hG
 have hs64:=z0c hr
 have hp:=z8h k
 have h2:2 * (2:Int) ^ k * ((2 * I.arcs.length:Nat):Int) <= 2 * (2:Int) ^ k * 512:=Int.mul_le_mul_of_nonneg_left (by omega) (by omega)
 have h3:=h1.p
 exact ⟨⟨B,h1.n,hG.b0,by omega⟩,g,fun s hs hc=>h1.lo s hs rfl (by unfold z9s at hc; exact of_decide_eq_true hc)⟩
theorem lump_more {I:Inst} (hr:z04 I = 0) {x o:List Int} {L:Int} (hL:1 <= L) (h:LpI I x o L) {d:Nat->Option Int} {b:Nat->Option Stp} {e:Option Nat} (hS:ShortP I (z9s I x L) (fun v=>decide (L <= o.getD v 0)) d b e) {v:Nat} (hv:v < I.sup.length) (h1:o.getD v 0 <= -L) {c:Int} (hc:d v = some c) :
  AlOk I x o (z0i I.sup.length b) v/\LpI I (z2o x (alL I (z0i I.sup.length b) v) (alU I x o (z0i I.sup.length b) v)) (z1w I o (alL I (z0i I.sup.length b) v) (alU I x o (z0i I.sup.length b) v)) L /\
  (z4h (z1w I o (alL I (z0i I.sup.length b) v) (alU I x o (z0i I.sup.length b) v)) I.sup.length).toNat < (z4h o I.sup.length).toNat:=by
 obtain ⟨⟨B,hN,hB,hb⟩,π,hπ⟩:=h
 have hps:=z1r o I.sup.length
 obtain ⟨he,hcv,ρ,hT,hρ⟩:=zaw hr hS hπ
 obtain ⟨⟨c',hroot⟩,hw⟩:=zgg hr hS (fun v s hv hs=>(hT v s hv hs).1) I.sup.length v hv c hc
 obtain ⟨-,-,hbn,hrl⟩:=ze6 hr hT I.sup.length v hv (hρ v hv)
 have hst:=hS.no hrl hbn hroot
 rw [decide_eq_true_eq] at hst
 obtain ⟨A,hU,a1,a2⟩:=al_ok hr hN (by omega) (by omega) hT hρ hv (show 0 <= L by omega) hst (by omega) (fun s hs=>by have:=hw s hs; unfold z9s at this; exact of_decide_eq_true this)
 obtain ⟨n1,n2,n3⟩:=al_does hN (by omega) A (by omega)
 have n4:=z1r (z1w I o (alL I (z0i I.sup.length b) v) (alU I x o (z0i I.sup.length b) v)) I.sup.length
 refine ⟨A,⟨⟨_,n1,by omega,by omega⟩,al_pot (o:=o) hr hS hπ hv hc fun s hs hlt=>by rw [<- a1]; exact n3 s hs hlt⟩,by omega⟩
theorem lump_end {I:Inst} (hr:z04 I = 0) {x o:List Int} {L:Int} (h:LpI I x o L) {d:Nat->Option Int} {b:Nat->Option Stp} {e:Option Nat} (hS:ShortP I (z9s I x L) (fun v=>decide (L <= o.getD v 0)) d b e) (h1:∀ v,v < I.sup.length->o.getD v 0 <= -L->d v = none):Stk I x o L:=by
 obtain ⟨⟨B,hN,hB,hb⟩,π,hπ⟩:=h
 obtain ⟨he,hcv,-⟩:=zaw hr hS hπ
 refine ⟨fun v=>(d v).isSome,fun v hv h2=>?_,fun s hs h2 h3=>?_,fun v hv h2=>?_⟩
 ·obtain ⟨c,hc⟩:=hS.st hv (decide_eq_true h2)
  dsimp only; rw [hc]; rfl
 ·obtain ⟨u,hu⟩:=Option.isSome_iff_exists.1 h3
  obtain ⟨c,hc,-⟩:=hcv s hs (decide_eq_true h2) u hu
  dsimp only; rw [hc]; rfl
 ·dsimp only; rw [h1 v hv h2]; rfl
theorem ph_next {I:Inst} (hr:z04 I = 0) {x o:List Int} {k:Nat} (h:LpI I x o ((2:Int) ^ k)) (hs:Stk I x o ((2:Int) ^ k)) {d:Nat->Option Int} {b:Nat->Option Stp} {e:Option Nat} (hS:ShortP I (z9s I x ((2:Int) ^ k)) (fun _=>true) d b e):∃ g:Nat->Int,z0k I.sup.length d = z0k I.sup.length (fun v=>some (g v))/\PhI I x o g k:=by
 obtain ⟨hex,π,hπ⟩:=h
 obtain ⟨g,h1,h2⟩:=zmy hr hS hπ
 refine ⟨g,?_,hex,fun v hv=>hS.db hr (h1 v hv),fun s hs hrm=>h2 s hs (decide_eq_true hrm),fun hk=>by subst hk; simpa using hs⟩
 unfold z0k
 exact List.map_congr_left fun v hv=>by rw [h1 v (List.mem_range.1 hv)]
theorem ph_end {I:Inst} {x0 o0 x o:List Int} (h0:zi2 I x0 o0) {g:Nat->Int} (h:PhI I x o g 0):CheapP I x o:=by
 obtain ⟨hr,-,-,-,-,y,hy,hf⟩:=h0
 obtain ⟨B,hN,hB,hb⟩:=h.ex
 obtain ⟨d,d1,d2,d3⟩:=h.st rfl
 have hps:=z1r o I.sup.length
 have hz:=stuck_zero hr hN.over hN.betw d1 d2 d3 hy hf
 refine ⟨zko hr hN.over hN.betw hz,yb_of fun k hk=>?_,hN.over.lo,g,fun s hs hc=>h.pot s hs ?_⟩
 ·have:=hN.bd k (by rw [<- hN.over.lx]; exact hk); omega
 ·have e1:(2:Int) ^ 0 = 1:=by simp
  rw [e1]
  rw [Bool.or_eq_true,decide_eq_true_eq] at hc
  rcases hc with hc | hc
  ·unfold endS at hc
   rw [Bool.and_eq_true,Bool.not_eq_true',decide_eq_true_eq] at hc
   unfold rmS
   rw [hc.1,if_neg Bool.false_ne_true,if_pos hc.2]; omega
  ·omega
def z2l (k:Nat):Int:=if k = 0 then 0 else (2:Int) ^ (k - 1)
theorem z2m (j:Nat):z2l (j + 1) = (2:Int) ^ j:=by simp [z2l]
theorem lumpV_half (k:Nat):((2:Int) ^ k).tdiv 2 = z2l k:=by
 cases k with
 | zero=>rfl
 | succ j =>
  rw [z2m,Int.pow_succ]
  exact Int.mul_tdiv_cancel _ (by omega)
end Go.Ql
end
section
namespace Go.Ql
open Go Go.Vc
def negF (n:Nat) (g:Nat->Int):List Int:=(List.range n).map fun v=>-g v
structure PriceP (I:Inst) (x p:List Int):Prop where
 ex:∃ g,z8u I (fun s=>endS I s || decide (0 < rmS I x s)) g/\p = negF I.sup.length g/\(∀ v,v < I.sup.length->-144115188075855872 <= g v/\g v <= 144115188075855872)/\∀ C:Int,0 <= C->(∀ s,okS I s->-C <= csS I s/\csS I s <= C)->∀ v,v < I.sup.length->-(C * 32768) <= g v/\g v <= C * 32768
theorem negF_get (n:Nat) (g:Nat->Int) {v:Nat} (h:v < n):(negF n g).getD v 0 = -g v:=by
 unfold negF
 rw [List.getD_eq_getElem?_getD,List.getElem?_map,List.getElem?_range h]; rfl
theorem prices_slack {I:Inst} {x p:List Int} (hf:z19 I x = 0) (h:PriceP I x p):z15 I x p = 0:=by
 obtain ⟨hr,hl,ha,-⟩:=fitsF_zero.1 hf
 obtain ⟨g,hg,rfl,hb,-⟩:=h.ex
 unfold z15
 rw [if_neg (fun e=>e hf),if_neg (by simp [negF]),if_pos]
 rw [List.all_eq_true]
 intro k hk
 have hk:=List.mem_range.1 hk
 obtain ⟨hget,hm⟩:=z7z hk
 have ok:=z1l hr hk
 have ho:=(z1b hr hm).1
 have hft:=fitsAll_iff.1 ha k _ hget
 have b1:=hb _ ok.s1
 have b2:=hb _ ok.d1
 have f1:=hg (k,false) hk
 have f2:=hg (k,true) hk
 have:=ok.s0; have:=ok.d0; have:=ok.l0; have:=ok.l1
 have ek:I.arcs.getD k default = z1y I k:=rfl
 have e:redF I (negF I.sup.length g) k = (z1y I k).cost + g (z1y I k).src.toNat - g (z1y I k).dst.toNat:=by
  rw [redF_at hget ho]
  unfold redP redA potR
  rw [if_pos ok.s0,if_pos ok.d0,negF_get _ _ ok.s1,negF_get _ _ ok.d1]
  omega
 have hcost:-4398046511104 <= (z1y I k).cost/\(z1y I k).cost <= 4398046511104:=by
  have:=zgo hr (s:=(k,false)) hk
  unfold csS at this
  simpa using this
 unfold z4g z5l
 rw [e,ek]
 have hsg:sgn ((z1y I k).cost + g (z1y I k).src.toNat - g (z1y I k).dst.toNat) = if (z1y I k).cost + g (z1y I k).src.toNat - g (z1y I k).dst.toNat < 0 then -1 else if 0 < (z1y I k).cost + g (z1y I k).src.toNat - g (z1y I k).dst.toNat then 1 else 0:=by
  unfold sgn
  rw [zbd (by unfold zb1; omega) (by unfold zb1; omega)]
 rw [hsg]
 unfold endS toS frS csS rmS at f1 f2
 simp only [if_true,Bool.false_eq_true,if_false,Bool.not_false,Bool.not_true,Bool.true_and,Bool.false_and,Bool.false_or,Bool.or_eq_true,decide_eq_true_eq] at f1 f2
 unfold fitF at hft
 simp only [Bool.and_eq_true,Bool.or_eq_true,decide_eq_true_eq] at hft
 obtain ⟨r,er⟩:∃ r,r = (z1y I k).cost + g (z1y I k).src.toNat - g (z1y I k).dst.toNat:=⟨_,rfl⟩
 rw [<- er]
 obtain ⟨u,hu⟩:∃ u,u = x.getD k 0:=⟨_,rfl⟩
 rw [<- hu] at f1 f2 hft ⊢
 by_cases c1:r < 0
 ·have hc:¬ (z1y I k).cap = inf:=fun h=>by have:=f1 (.inl h); omega
  have hx:u = (z1y I k).cap:=by
   rw [if_neg hc] at f1
   by_cases h0:0 < (z1y I k).cap - u
   ·have:=f1 (.inr h0); omega
   ·unfold inf at *; omega
  simp [c1,hc,hx]
 ·by_cases c2:0 < r
  ·have hx:u = (z1y I k).low:=by
    by_cases h0:0 < u - (z1y I k).low
    ·have:=f2 h0; omega
    ·omega
   simp [c1,c2,hx]
  ·simp [c1,c2]
end Go.Ql
end
section
namespace Go.Ql
open Go Go.Vc
theorem least_of {P:Nat->Prop}:∀ k,P k->∃ j,j <= k/\P j/\∀ i,i < j->¬ P i:=by
 intro k
 induction k using Nat.strongRecOn with
 | ind k ih =>
  intro hk
  by_cases h:∃ i,i < k/\P i
  ·obtain ⟨i,hi,hp⟩:=h
   obtain ⟨j,h1,h2,h3⟩:=ih i hi hp
   exact ⟨j,by omega,h2,h3⟩
  ·exact ⟨k,Nat.le_refl _,hk,fun i hi hp=>h ⟨i,hi,hp⟩⟩
structure Circ (I:Inst) (b:Nat->Option Stp) (m k:Nat):Prop where
 mn:m < I.sup.length
 k1:1 <= k
 kn:k <= I.sup.length
 all:∀ i,∃ s,b (z0n I b m i) = some s/\okS I s/\endS I s = true/\toS I s = z0n I b m i
 back:z0n I b m k = m
 not:∀ i,1 <= i->i < k->z0n I b m i ≠ m
 neg:z8v I b m k < 0
theorem circ_of {I:Inst} (hr:z04 I = 0) {d:Nat->Option Int} {b:Nat->Option Stp} {v:Nat} (hS:ShortP I (endS I) (fun _=>true) d b (some v)):v < I.sup.length/\(∀ t,∃ s,b (z0n I b v t) = some s/\okS I s)/\∃ k,Circ I b (z0n I b v I.sup.length) k:=by
 obtain ⟨r,⟨⟨τ,T,t,hB⟩,-⟩,-,hrn⟩:=hS.inv
 have er:=hrn v rfl
 subst er
 obtain ⟨hv,-,-⟩:=hB.la v rfl
 have hok:∀ v s,v < I.sup.length->b v = some s->okS I s:=fun v s hv hb=>(hB.by_ v s hv hb).1
 have hlt:=z5u hr hok hv
 have hk0:∀ i,i < I.sup.length->∃ s,b (z0n I b v i) = some s:=fun i hi=>(hB.long hr rfl i hi).1
 obtain ⟨i,j,hij,hjn,he⟩:=pigeon (fun i=>z0n I b v i) fun i _=>hlt i
 have hper:∀ t,i <= t->z0n I b v (t + (j - i)) = z0n I b v t:=fun t ht=>by
  have e1:t + (j - i) = j + (t - i):=by omega
  have e2:t = i + (t - i):=by omega
  rw [e1,z35]
  conv=>rhs; rw [e2,z35]
  rw [show z0n I b v j = z0n I b v i from he.symm]
 have hall:∀ t,∃ s,b (z0n I b v t) = some s:=by
  intro t
  induction t using Nat.strongRecOn with
  | ind t ih =>
   by_cases h:t < I.sup.length
   ·exact hk0 t h
   ·obtain ⟨s,hs⟩:=ih (t - (j - i)) (by omega)
    have:=hper (t - (j - i)) (by omega)
    rw [show t - (j - i) + (j - i) = t by omega] at this
    exact ⟨s,by rw [this]; exact hs⟩
 have hm:∀ t,z0n I b (z0n I b v I.sup.length) t = z0n I b v (I.sup.length + t):=fun t=>(z35 I b v _ t).symm
 have hP:1 <= j - i/\z0n I b (z0n I b v I.sup.length) (j - i) = z0n I b v I.sup.length:=⟨by omega,by rw [hm]; exact hper _ (by omega)⟩
 obtain ⟨k,h1,⟨h2,h3⟩,h4⟩:=least_of (P:=fun k=>1 <= k/\z0n I b (z0n I b v I.sup.length) k = z0n I b v I.sup.length) _ hP
 refine ⟨hv,fun t=>(hall t).imp fun s hs=>⟨hs,hok _ s (hlt t) hs⟩,k,hlt _,h2,by omega,fun t=>?_,h3,fun t ht1 ht2 h=>h4 t ht2 ⟨ht1,h⟩,hB.cycle hr (hlt _) h2 (fun t _=>by rw [hm]; exact hall _) h3⟩
 obtain ⟨s,hs⟩:=hall (I.sup.length + t)
 rw [<- hm] at hs
 obtain ⟨a1,a2,a3,-⟩:=hB.by_ _ s (by rw [hm]; exact hlt _) hs
 exact ⟨s,hs,a1,a2,a3⟩
def arcB (I:Inst) (b:Nat->Option Stp) (m i:Nat):Int:=match b (z0n I b m i) with
 | some s=>(s.1:Int)
 | none=>0
def z3p (I:Inst) (b:Nat->Option Stp) (m k:Nat):List Int:=(List.range k).map (arcB I b m)
theorem circL_succ (I:Inst) (b:Nat->Option Stp) (m k:Nat):z3p I b m (k + 1) = z3p I b m k ++ [arcB I b m k]:=by
 unfold z3p; rw [List.range_succ,List.map_append]; rfl
theorem Circ.arc {I:Inst} (hr:z04 I = 0) {b:Nat->Option Stp} {m k:Nat} (h:Circ I b m k) (i:Nat):∃ a,a < I.arcs.length/\b (z0n I b m i) = some (a,false)/\arcB I b m i = (a:Int)/\(z1y I a).cap = inf/\(z1y I a).dst = (z0n I b m i:Int)/\(z1y I a).src = (z0n I b m (i + 1):Int):=by
 obtain ⟨⟨a,q⟩,hs,ha,he,ht⟩:=h.all i
 unfold endS at he
 rw [Bool.and_eq_true,Bool.not_eq_true',decide_eq_true_eq] at he
 have hq:q = false:=he.1
 subst hq
 have ok:=z1l hr (show a < I.arcs.length from ha)
 have:=ok.s0; have:=ok.d0
 unfold toS at ht
 simp only [Bool.false_eq_true,if_false] at ht
 refine ⟨a,ha,hs,by unfold arcB; rw [hs],he.2,by omega,?_⟩
 rw [z0n,hs]
 show (z1y I a).src = ((frS I (a,false):Nat):Int)
 unfold frS
 simp only [Bool.false_eq_true,if_false]
 omega
theorem Circ.inj {I:Inst} (hr:z04 I = 0) {b:Nat->Option Stp} {m k:Nat} (h:Circ I b m k) {i j:Nat} (hij:i < j) (hj:j < k):arcB I b m i ≠ arcB I b m j:=fun he=>by
 obtain ⟨a,-,-,ea,-,da,-⟩:=h.arc hr i
 obtain ⟨a',-,-,ea',-,da',-⟩:=h.arc hr j
 have:a = a':=by omega
 subst this
 have hb:z0n I b m i = z0n I b m j:=by omega
 refine h.not (i + (k - j)) (by omega) (by omega) ?_
 rw [z35,hb,<- z35,show j + (k - j) = k by omega,h.back]
theorem Circ.few {I:Inst} (hr:z04 I = 0) {b:Nat->Option Stp} {m k:Nat} (h:Circ I b m k):k <= I.arcs.length:=by
 apply Nat.le_of_not_lt
 intro hlt
 obtain ⟨i,j,hij,hj,he⟩:=pigeon (n:=I.arcs.length) (fun i=>(arcB I b m i).toNat) fun i _=>by
  obtain ⟨a,ha,-,ea,-⟩:=h.arc hr i
  omega
 obtain ⟨a,ha,-,ea,-⟩:=h.arc hr i
 obtain ⟨a',ha',-,ea',-⟩:=h.arc hr j
 exact h.inj hr hij (by omega) (by omega)
theorem rayK_sum (I:Inst) (l:List Int):∀ k,k <= l.length->z8y I l k = ((l.take k).map (rayD I)).sum
 | 0,_=>by simp [z8y]
 | k + 1,h=>by
  have hk:l[k]? = some l[k]:=List.getElem?_eq_getElem (by omega)
  rw [z8y,rayK_sum I l k (by omega),z1c hk,List.map_append,List.sum_append,List.getD_eq_getElem?_getD,hk]
  simp
theorem rayS_sum (I:Inst) (l:List Int):rayS I l = (l.map (rayD I)).sum:=by
 unfold rayS; rw [rayK_sum I l _ (Nat.le_refl _),List.take_length]
theorem sum_rev:∀ l:List Int,l.reverse.sum = l.sum
 | []=>rfl
 | a :: l=>by rw [List.reverse_cons,List.sum_append,sum_rev l]; simp; omega
theorem Circ.cost {I:Inst} (hr:z04 I = 0) {b:Nat->Option Stp} {m k:Nat} (h:Circ I b m k):∀ j,((z3p I b m j).map (rayD I)).sum = z8v I b m j
 | 0=>rfl
 | j + 1=>by
  obtain ⟨a,ha,hb,ea,-⟩:=h.arc hr j
  have e1:z4o I (a:Int) = true:=isArcF_iff.2 ⟨by omega,by omega⟩
  rw [circL_succ,List.map_append,List.sum_append,h.cost hr j,z8v,hb,ea]
  have e2:rayD I (a:Int) = csS I (a,false):=by
   unfold rayD csS z4w z1y
   rw [if_pos e1,Int.toNat_natCast]
   rfl
  simp [e2]
theorem Circ.turns {I:Inst} (hr:z04 I = 0) {b:Nat->Option Stp} {m k:Nat} (h:Circ I b m k):z1x I (z3p I b m k).reverse = 0:=by
 have hlen:(z3p I b m k).length = k:=by simp [z3p]
 have hfew:=h.few hr
 have hk1:=h.k1
 have hget:∀ j,j < k->(z3p I b m k).reverse.getD j 0 = arcB I b m (k - 1 - j):=fun j hj=>by
  rw [List.getD_eq_getElem?_getD,List.getElem?_reverse (by omega),hlen]
  unfold z3p
  rw [List.getElem?_map,List.getElem?_range (by omega)]; rfl
 have hmem:∀ x ∈ (z3p I b m k).reverse,∃ i,i < k/\x = arcB I b m i:=fun x hx=>by
  rw [List.mem_reverse] at hx
  obtain ⟨i,hi,rfl⟩:=List.mem_map.1 hx
  exact ⟨i,List.mem_range.1 hi,rfl⟩
 have hat:∀ i,∃ a,a < I.arcs.length/\arcB I b m i = (a:Int)/\(z4w I (arcB I b m i)).cap = inf/\(z4w I (arcB I b m i)).dst = (z0n I b m i:Int)/\(z4w I (arcB I b m i)).src = (z0n I b m (i + 1):Int):=fun i=>by
  obtain ⟨a,ha,hb,ea,h1,h2,h3⟩:=h.arc hr i
  refine ⟨a,ha,ea,?_⟩
  rw [ea]
  exact ⟨h1,h2,h3⟩
 have c1:c1F I (z3p I b m k).reverse = true:=List.all_eq_true.2 fun x hx=>by
  obtain ⟨i,hi,rfl⟩:=hmem x hx
  obtain ⟨a,ha,ea,-⟩:=hat i
  rw [ea]; exact isArcF_iff.2 ⟨by omega,by omega⟩
 have c2:c2F (z3p I b m k).reverse = true:=decide_eq_true (by
  unfold z3p List.Nodup
  rw [List.pairwise_reverse,List.pairwise_map]
  exact List.Pairwise.imp_of_mem (fun _ hb hab=>(h.inj hr hab (List.mem_range.1 hb)).symm) List.pairwise_lt_range)
 have c3:c3F I (z3p I b m k).reverse = true:=List.all_eq_true.2 fun j hj=>by
  rw [List.length_reverse,hlen,List.mem_range] at hj
  unfold linkF
  rw [List.length_reverse,hlen,hget j hj]
  refine decide_eq_true ?_
  obtain ⟨-,-,-,-,e1,-⟩:=hat (k - 1 - j)
  rw [e1]
  by_cases hj2:j + 1 < k
  ·rw [Nat.mod_eq_of_lt hj2,hget _ hj2]
   obtain ⟨-,-,-,-,-,e2⟩:=hat (k - 1 - (j + 1))
   rw [e2,show k - 1 - (j + 1) + 1 = k - 1 - j by omega]
  ·have ej:j + 1 = k:=by omega
   rw [ej,Nat.mod_self,hget 0 (by omega)]
   obtain ⟨-,-,-,-,-,e2⟩:=hat (k - 1 - 0)
   rw [e2,show k - 1 - 0 + 1 = k by omega,h.back,show k - 1 - j = 0 by omega]
   rfl
 have c4:c4F I (z3p I b m k).reverse = true:=List.all_eq_true.2 fun x hx=>by
  obtain ⟨i,hi,rfl⟩:=hmem x hx
  obtain ⟨-,-,-,e1,-⟩:=hat i
  exact decide_eq_true e1
 have c5:c5F I (z3p I b m k).reverse = true:=by
  refine decide_eq_true ?_
  have e1:rayS I (z3p I b m k).reverse = z8v I b m k:=by rw [rayS_sum,List.map_reverse,sum_rev,h.cost hr]
  have e2:=rayK_bd hr (z3p I b m k).reverse (z3p I b m k).reverse.length
  have e3:z8y I (z3p I b m k).reverse (z3p I b m k).reverse.length = z8v I b m k:=e1
  rw [e3,List.length_reverse,hlen] at e2
  have hs:=z0c hr
  have hn:=h.neg
  rw [e1,zbd (by unfold zb1; omega) (by unfold zb1; omega),if_pos hn]
  decide
 unfold z1x
 rw [if_neg (by simp [hr]),List.length_reverse,hlen,if_neg (by omega),c1,c2,c3,c4,c5]
 rfl
structure RoundP (I:Inst) (l:List Int) (f:Bool):Prop where
 yes:f = true->z1x I l = 0
 no:f = false->l = []/\∃ π,z8u I (endS I) π
structure CircA (I:Inst) (b:Nat->Option Stp) (v:Nat):Prop where
 vn:v < I.sup.length
 all:∀ t,∃ s,b (z0n I b v t) = some s/\okS I s
 circ:∃ k,Circ I b (z0n I b v I.sup.length) k
theorem circ_a {I:Inst} (hr:z04 I = 0) {d:Nat->Option Int} {b:Nat->Option Stp} {v:Nat} (hS:ShortP I (endS I) (fun _=>true) d b (some v)):CircA I b v:=by
 obtain ⟨h1,h2,h3⟩:=circ_of hr hS
 exact ⟨h1,h2,h3⟩
theorem short_none {I:Inst} {cnt:Stp->Bool} {d:Nat->Option Int} {b:Nat->Option Stp} (hr:z04 I = 0) (hS:ShortP I cnt (fun _=>true) d b none):z8u I cnt fun v=>(d v).getD 0:=by
 obtain ⟨r,⟨⟨τ,T,t,hB⟩,-⟩,h1,-⟩:=hS.inv
 intro s hs hc
 have hf:=z2y hr hs
 rcases h1 rfl with h3 | h3
 ·obtain ⟨u,hu⟩:=hS.st hf rfl
  obtain ⟨c,h4,h5⟩:=hB.end_ h3 (fun _ _=>rfl) s hs hc u hu
  dsimp only
  rw [hu,h4]; exact h5
 ·omega
def zh9 (l:List Int) (i:Nat):List Int:=(List.range l.length).map fun t=>if t < i ∨ l.length <= t + i then l.getD (l.length - 1 - t) 0 else l.getD t 0
theorem zap (l:List Int) (i:Nat):(zh9 l i).length = l.length:=by simp [zh9]
theorem zd8 {l:List Int} {i t:Nat} (h:t < l.length):(zh9 l i)[t]? = some (if t < i ∨ l.length <= t + i then l.getD (l.length - 1 - t) 0 else l.getD t 0):=by
 unfold zh9; rw [List.getElem?_map,List.getElem?_range h]; rfl
theorem revK_zero (l:List Int):zh9 l 0 = l:=by
 refine List.ext_getElem? fun t=>?_
 by_cases h:t < l.length
 ·rw [zd8 h,if_neg (by omega),List.getD_eq_getElem?_getD,List.getElem?_eq_getElem h]; rfl
 ·rw [List.getElem?_eq_none (by rw [zap]; omega),List.getElem?_eq_none (by omega)]
theorem revK_end {l:List Int} {i:Nat} (hi:l.length <= 2 * i + 1):zh9 l i = l.reverse:=by
 refine List.ext_getElem? fun t=>?_
 by_cases h:t < l.length
 ·rw [zd8 h,List.getElem?_reverse h]
  by_cases h2:t < i ∨ l.length <= t + i
  ·rw [if_pos h2,List.getD_eq_getElem?_getD,List.getElem?_eq_getElem (by omega)]; rfl
  ·rw [if_neg h2,List.getD_eq_getElem?_getD,show l.length - 1 - t = t by omega,List.getElem?_eq_getElem h]; rfl
 ·rw [List.getElem?_eq_none (by rw [zap]; omega),List.getElem?_eq_none (by rw [List.length_reverse]; omega)]
theorem revK_next {l:List Int} {i j:Nat} (hj:j + i + 1 = l.length) (hij:i < j) {x y:Int} (hx:(zh9 l i)[i]? = some x) (hy:(zh9 l i)[j]? = some y):((zh9 l i).set i y).set j x = zh9 l (i + 1):=by
 refine List.ext_getElem? fun t=>?_
 rw [zd8 (by omega),if_neg (by omega)] at hx hy
 cases hx; cases hy
 by_cases h:t < l.length
 ·rw [zd8 h,List.getElem?_set,List.getElem?_set]
  simp only [List.length_set,zap]
  by_cases h1:j = t
  ·subst h1
   rw [if_pos rfl,if_pos h,if_pos (.inr (by omega)),show l.length - 1 - j = i by omega]
  ·rw [if_neg h1]
   by_cases h2:i = t
   ·subst h2
    rw [if_pos rfl,if_pos (by omega),if_pos (.inl (by omega)),show l.length - 1 - i = j by omega]
   ·rw [if_neg h2,zd8 h]
    by_cases h3:t < i ∨ l.length <= t + i
    ·rw [if_pos h3,if_pos (by omega)]
    ·rw [if_neg h3,if_neg (by omega)]
 ·rw [List.getElem?_eq_none (by simp [zap]; omega),List.getElem?_eq_none (by rw [zap]; omega)]
theorem ShortP.ok {I:Inst} {cnt:Stp->Bool} {start:Nat->Bool} {d:Nat->Option Int} {b:Nat->Option Stp} {e:Option Nat} (h:ShortP I cnt start d b e) {v:Nat} {s:Stp} (hv:v < I.sup.length) (hs:b v = some s):okS I s:=by
 obtain ⟨r,⟨⟨τ,T,t,hB⟩,-⟩,-⟩:=h.inv
 exact (hB.by_ v s hv hs).1
end Go.Ql
end
section
namespace Go.Ql
open Go Go.Vc
def unN:List Bool->Nat
 | []=>0
 | b :: l=>(if b then 0 else 1) + unN l
theorem unN_set:∀ {l:List Bool} {k:Nat},l[k]? = some false->unN (l.set k true) + 1 = unN l
 | [],k,h=>by simp at h
 | b :: l,0,h=>by simp at h; subst h; simp [unN]; omega
 | b :: l,k + 1,h=>by
  rw [List.getElem?_cons_succ] at h
  rw [List.set_cons_succ,unN,unN]
  have:=unN_set h
  omega
def z3s (l:List Nat):List Int:=l.map Int.ofNat
theorem zhm (l:List Nat):(z3s l).length = l.length:=by simp [z3s]
theorem natI_get {l:List Nat} {k:Nat} {x:Int} (h:(z3s l)[k]? = some x):∃ v,l[k]? = some v/\x = (v:Int):=by
 unfold z3s at h
 rw [List.getElem?_map] at h
 obtain ⟨v,h1,rfl⟩:=Option.map_eq_some_iff.1 h
 exact ⟨v,h1,rfl⟩
theorem natI_snoc (l:List Nat) (v:Nat):z3s (l ++ [v]) = z3s l ++ [(v:Int)]:=by simp [z3s]
def zh7 (o:List Int) (n k:Nat):List Bool:=(List.range n).map fun v=>decide (v < k) && decide (0 < o.getD v 0)
def layK (o:List Int) (k:Nat):List Nat:=(List.range k).filter fun v=>decide (0 < o.getD v 0)
theorem metK_len (o:List Int) (n k:Nat):(zh7 o n k).length = n:=by simp [zh7]
theorem metK_get {o:List Int} {n k v:Nat} (h:v < n):(zh7 o n k).getD v false = (decide (v < k) && decide (0 < o.getD v 0)):=by
 unfold zh7
 rw [List.getD_eq_getElem?_getD,List.getElem?_map,List.getElem?_range h]; rfl
theorem metK_zero (o:List Int) (n:Nat):List.replicate n false = zh7 o n 0:=by
 refine List.ext_getElem? fun t=>?_
 unfold zh7
 by_cases h:t < n
 ·rw [List.getElem?_map,List.getElem?_range h,List.getElem?_replicate]; simp [h]
 ·rw [List.getElem?_eq_none (by simp; omega),List.getElem?_eq_none (by simp; omega)]
theorem metK_yes {o:List Int} {n k:Nat} (h:0 < o.getD k 0):(zh7 o n k).set k true = zh7 o n (k + 1):=by
 refine List.ext_getElem? fun t=>?_
 unfold zh7
 rw [List.getElem?_set]
 simp only [List.length_map,List.length_range]
 by_cases hn:t < n
 ·rw [List.getElem?_map,List.getElem?_map,List.getElem?_range hn]
  by_cases e:k = t
  ·subst e; rw [if_pos rfl,if_pos hn]; simp only [Option.map_some,decide_eq_true h,Bool.and_true,decide_eq_true (Nat.lt_succ_self k)]
  ·rw [if_neg e]
   have:(t < k + 1) = (t < k):=propext (by omega)
   simp [this]
 ·rw [List.getElem?_eq_none (by simp; omega),List.getElem?_eq_none (by simp; omega)]
  split
  ·rw [if_neg (by omega)]
  ·rfl
theorem metK_no {o:List Int} {n k:Nat} (h:¬ 0 < o.getD k 0):zh7 o n k = zh7 o n (k + 1):=by
 unfold zh7
 refine List.map_congr_left fun t _=>?_
 by_cases e:t = k
 ·subst e; simp [h,-List.getD_eq_getElem?_getD]
 ·have:(t < k + 1) = (t < k):=propext (by omega)
  simp [this]
theorem layK_yes {o:List Int} {k:Nat} (h:0 < o.getD k 0):layK o (k + 1) = layK o k ++ [k]:=by
 unfold layK
 rw [List.range_succ,List.filter_append,List.filter_cons,if_pos (decide_eq_true h)]; rfl
theorem layK_no {o:List Int} {k:Nat} (h:¬ 0 < o.getD k 0):layK o (k + 1) = layK o k:=by
 unfold layK
 rw [List.range_succ,List.filter_append,List.filter_cons,if_neg (by simpa using h)]; simp
theorem layK_mem {o:List Int} {k v:Nat}:v ∈ layK o k ↔ v < k/\0 < o.getD v 0:=by
 unfold layK
 rw [List.mem_filter,List.mem_range,decide_eq_true_eq]
structure AtOk (I:Inst) (t:List (List (List Int))):Prop where
 len:t.length = I.sup.length
 at_:∀ u,u < I.sup.length->∃ l:List Stp,t[u]? = some (l.map z5x)/\l.length <= 1000/\∀ s,s ∈ l ↔ okS I s/\frS I s = u
structure SeI (I:Inst) (x o:List Int) (m:List Bool) (b:Nat->Option Stp) (pend:Stp->Prop):Prop where
 lm:m.length = I.sup.length
 st:∀ v,v < I.sup.length->0 < o.getD v 0->m.getD v false = true
 no:∀ v,v < I.sup.length->m.getD v false = true->b v = none->0 < o.getD v 0
 un:∀ v,v < I.sup.length->m.getD v false = false->b v = none
 by_:∀ v s,v < I.sup.length->b v = some s->okS I s/\toS I s = v/\0 < rmS I x s/\m.getD (frS I s) false = true
 tree:∃ ρ:Nat->Nat,∀ v s,v < I.sup.length->b v = some s->ρ (frS I s) < ρ v
 cl:∀ s,okS I s->0 < rmS I x s->m.getD (frS I s) false = true->m.getD (toS I s) false = true ∨ pend s
def SeG (I:Inst) (o:List Int) (m:List Bool):Prop:=∀ v,v < I.sup.length->m.getD v false = true->0 <= o.getD v 0
theorem SeI.begin (I:Inst) (x o:List Int) (ho:o.length = I.sup.length) (hr:z04 I = 0):SeI I x o (zh7 o I.sup.length I.sup.length) (fun _=>none) (fun s=>frS I s ∈ layK o I.sup.length)/\SeG I o (zh7 o I.sup.length I.sup.length):=by
 have hg:∀ v,v < I.sup.length->((zh7 o I.sup.length I.sup.length).getD v false = true ↔ 0 < o.getD v 0):=fun v hv=>by
  rw [metK_get hv,decide_eq_true hv,Bool.true_and,decide_eq_true_eq]
 refine ⟨⟨metK_len _ _ _,fun v hv h=>(hg v hv).2 h,fun v hv h _=>(hg v hv).1 h,fun _ _ _=>rfl,fun v s _ h=>absurd h (by simp),⟨fun _=>0,fun v s _ h=>absurd h (by simp)⟩,fun s hs _ hm=>.inr ?_⟩,fun v hv h=>by have:=(hg v hv).1 h; omega⟩
 have hf:=z2y hr hs
 exact layK_mem.2 ⟨hf,(hg _ hf).1 hm⟩
theorem SeI.skip {I:Inst} {x o:List Int} {m:List Bool} {b:Nat->Option Stp} {pend pend':Stp->Prop} (h:SeI I x o m b pend) (hp:∀ s,okS I s->pend s->m.getD (toS I s) false = true ∨ ¬ 0 < rmS I x s ∨ pend' s):SeI I x o m b pend' :=
 { h with cl:=fun s h1 h2 h3=>(h.cl s h1 h2 h3).elim .inl fun h4=>(hp s h1 h4).elim .inl fun h5=>h5.elim (fun h6=>absurd h2 h6) .inr }
theorem zav {m:List Bool} {k v:Nat} (hk:k < m.length):(m.set k true).getD v false = if v = k then true else m.getD v false:=by
 rw [List.getD_eq_getElem?_getD,List.getElem?_set]
 by_cases e:k = v
 ·subst e; simp [hk]
 ·rw [if_neg e,if_neg (fun h=>e h.symm),List.getD_eq_getElem?_getD]
theorem SeI.take {I:Inst} (hr:z04 I = 0) {x o:List Int} {m:List Bool} {b:Nat->Option Stp} {pend pend':Stp->Prop} (h:SeI I x o m b pend) {t:Stp} (ht:okS I t) (hf:m.getD (frS I t) false = true) (hm:m.getD (toS I t) false = false) (hrm:0 < rmS I x t)
  (hp:∀ s,pend s->s = t ∨ pend' s) (hq:∀ s,frS I s = toS I t->pend' s):SeI I x o (m.set (toS I t) true) (fun v=>if v = toS I t then some t else b v) pend':=by
 have hlt:=z5m hr ht
 have hg:∀ v,(m.set (toS I t) true).getD v false = if v = toS I t then true else m.getD v false:=fun v=>zav (by rw [h.lm]; exact hlt)
 have hfne:frS I t ≠ toS I t:=fun e=>by rw [e,hm] at hf; cases hf
 obtain ⟨ρ,hρ⟩:=h.tree
 refine ⟨by rw [List.length_set]; exact h.lm,fun v hv h1=>?_,fun v hv h1 h2=>?_,fun v hv h1=>?_,fun v s hv h1=>?_,⟨fun v=>if v = toS I t then ρ (frS I t) + 1 else ρ v,fun v s hv h1=>?_⟩,fun s h1 h2 h3=>?_⟩
 ·rw [hg]; split
  ·rfl
  ·exact h.st v hv h1
 ·try dsimp only at h2
  split at h2
  ·cases h2
  ·rename_i hne
   rw [hg,if_neg hne] at h1
   exact h.no v hv h1 h2
 ·rw [hg] at h1
  split at h1
  ·cases h1
  ·rename_i hne
   try dsimp only
   rw [if_neg hne]; exact h.un v hv h1
 ·try dsimp only at h1
  split at h1
  ·rename_i he
   cases h1
   refine ⟨ht,he.symm,hrm,?_⟩
   rw [hg,if_neg hfne]; exact hf
  ·obtain ⟨q1,q2,q3,q4⟩:=h.by_ v s hv h1
   refine ⟨q1,q2,q3,?_⟩
   rw [hg]; split
   ·rfl
   ·exact q4
 ·try dsimp only at h1 ⊢
  split at h1
  ·rename_i he
   cases h1
   rw [if_neg hfne,if_pos he]
   exact Nat.lt_succ_self _
  ·rename_i hne
   obtain ⟨q1,q2,q3,q4⟩:=h.by_ v s hv h1
   have:frS I s ≠ toS I t:=fun e=>by rw [e,hm] at q4; cases q4
   rw [if_neg this,if_neg hne]
   exact hρ v s hv h1
 ·by_cases e:frS I s = toS I t
  ·exact .inr (hq s e)
  ·rw [hg,if_neg e] at h3
   rcases h.cl s h1 h2 h3 with h4 | h4
   ·left; rw [hg]; split
    ·rfl
    ·exact h4
   ·rcases hp s h4 with rfl | h5
    ·left; rw [hg,if_pos rfl]
    ·exact .inr h5
theorem SeG.take {I:Inst} {o:List Int} {m:List Bool} (h:SeG I o m) {k:Nat} (hk:k < m.length) (ho:0 <= o.getD k 0):SeG I o (m.set k true):=fun v hv hm=>by
 rw [zav hk] at hm
 split at hm
 ·rename_i e; rw [e]; exact ho
 ·exact h v hv hm
theorem tree_rank {I:Inst} (hr:z04 I = 0) {b:Nat->Option Stp} {ρ:Nat->Nat} (hT:Tree I b ρ):∃ ρ':Nat->Nat,Tree I b ρ'/\∀ v,v < I.sup.length->ρ' v < I.sup.length:=by
 have hok:∀ v s,v < I.sup.length->b v = some s->okS I s:=fun v s hv hs=>(hT v s hv hs).1
 have hlt:=fun (v:Nat) (hv:v < I.sup.length) (k:Nat)=>z5u hr hok hv k
 have hdown:∀ v,v < I.sup.length->∀ k,(∀ i,i < k->∃ s,b (z0n I b v i) = some s)->ρ (z0n I b v k) + k <= ρ v:=fun v hv k=>by
  induction k with
  | zero=>intro _; exact Nat.le_refl _
  | succ k ih =>
   intro h
   have h1:=ih fun i hi=>h i (by omega)
   obtain ⟨s,hs⟩:=h k (by omega)
   have h2:=(hT _ s (hlt v hv k) hs).2.2
   have en:z0n I b v (k + 1) = frS I s:=by rw [z0n,hs]
   rw [en]; omega
 have hend:∀ v,v < I.sup.length->∃ k,k < I.sup.length/\b (z0n I b v k) = none:=fun v hv=>by
  apply Classical.byContradiction
  intro hn
  have hall:∀ k,k < I.sup.length->∃ s,b (z0n I b v k) = some s:=fun k hk=>by
   cases hb:b (z0n I b v k) with
   | none=>exact absurd ⟨k,hk,hb⟩ hn
   | some s=>exact ⟨s,rfl⟩
  obtain ⟨i,j,hij,hj,he⟩:=pigeon (n:=I.sup.length) (fun k=>z0n I b v k) fun k _=>hlt v hv k
  try dsimp only at he
  have h1:=hdown (z0n I b v i) (hlt v hv i) (j - i) fun k hk=>by rw [<- z35]; exact hall _ (by omega)
  rw [<- z35,show i + (j - i) = j by omega,<- he] at h1
  omega
 refine ⟨fun v=>zc2 I b I.sup.length v,fun v s hv hs=>⟨(hT v s hv hs).1,(hT v s hv hs).2.1,?_⟩,fun v hv=>?_⟩
 ·obtain ⟨k,hk,hb⟩:=hend v hv
  cases k with
  | zero=>simp only [z0n] at hb; rw [hs] at hb; cases hb
  | succ k =>
   have e1:=(z6d (k + 1) I.sup.length v hb (by omega)).1
   have hb2:=hb
   rw [zjq hs] at hb2
   have e2:=(z6d k I.sup.length (frS I s) hb2 (by omega)).1
   show zc2 I b I.sup.length (frS I s) < zc2 I b I.sup.length v
   rw [e1,e2,zc2,hs]
   exact Nat.lt_succ_self _
 ·obtain ⟨k,hk,hb⟩:=hend v hv
  have:=z6d k I.sup.length v hb (by omega)
  try dsimp only
  omega
structure SearchP (I:Inst) (x o:List Int) (m:List Bool) (b:Nat->Option Stp) (e:Option Nat):Prop where
 lm:m.length = I.sup.length
 no:e = none->(∀ s,okS I s->0 < rmS I x s->m.getD (frS I s) false = true->m.getD (toS I s) false = true)/\(∀ v,v < I.sup.length->0 < o.getD v 0->m.getD v false = true)/\SeG I o m/\∀ v,v < I.sup.length->m.getD v false = true->∃ r,r < I.sup.length/\0 < o.getD r 0
 yes:∀ v,e = some v->v < I.sup.length/\o.getD v 0 < 0/\(∃ ρ,Tree I b ρ/\∀ v,v < I.sup.length->ρ v < I.sup.length)/\1 <= o.getD (z13 I b I.sup.length v) 0/\∀ s ∈ z1t I b I.sup.length v,1 <= rmS I x s
theorem SeI.root {I:Inst} (hr:z04 I = 0) {x o:List Int} {m:List Bool} {b:Nat->Option Stp} {pend:Stp->Prop} (h:SeI I x o m b pend):(∃ ρ,Tree I b ρ/\∀ v,v < I.sup.length->ρ v < I.sup.length)/\∀ v,v < I.sup.length->m.getD v false = true->z13 I b I.sup.length v < I.sup.length/\1 <= o.getD (z13 I b I.sup.length v) 0/\∀ s ∈ z1t I b I.sup.length v,1 <= rmS I x s:=by
 obtain ⟨ρ,hρ⟩:=h.tree
 have hT0:Tree I b ρ:=fun v s hv hs=>⟨(h.by_ v s hv hs).1,(h.by_ v s hv hs).2.1,hρ v s hv hs⟩
 obtain ⟨ρ',hT,hd⟩:=tree_rank hr hT0
 refine ⟨⟨ρ',hT,hd⟩,fun v hv hm=>?_⟩
 have hroot:∀ (f v:Nat),v < I.sup.length->m.getD v false = true->m.getD (z13 I b f v) false = true:=fun f=>by
  induction f with
  | zero=>intro v _ hm; exact hm
  | succ f ih =>
   intro v hv hm
   rw [z13]
   cases hb:b v with
   | none=>exact hm
   | some s =>
    obtain ⟨q1,q2,q3,q4⟩:=h.by_ v s hv hb
    exact ih _ (z2y hr q1) q4
 obtain ⟨-,-,h3,h4⟩:=ze6 hr hT I.sup.length v hv (hd _ hv)
 refine ⟨h4,?_,fun s hs=>?_⟩
 ·have:=h.no _ h4 (hroot _ v hv hm) h3
  omega
 ·obtain ⟨q1,q2,-⟩:=ze5 hr hT _ v hv s hs
  have:=(h.by_ _ s (z5m hr q1) q2).2.2.1
  omega
theorem SeI.end_ {I:Inst} (hr:z04 I = 0) {x o:List Int} {m:List Bool} {b:Nat->Option Stp} {pend:Stp->Prop} (h:SeI I x o m b pend) (hg:SeG I o m) (hp:∀ s,okS I s->¬ pend s):SearchP I x o m b none:=by
 refine ⟨h.lm,fun _=>⟨fun s h1 h2 h3=>(h.cl s h1 h2 h3).resolve_right (hp s h1),h.st,hg,fun v hv hm=>?_⟩,fun v hv=>(by cases hv)⟩
 obtain ⟨q1,q2,-⟩:=(h.root hr).2 v hv hm
 exact ⟨_,q1,by omega⟩
theorem SeI.hit {I:Inst} (hr:z04 I = 0) {x o:List Int} {m:List Bool} {b:Nat->Option Stp} {pend:Stp->Prop} (h:SeI I x o m b pend) {t:Stp} (ht:okS I t) (hf:m.getD (frS I t) false = true) (hm:m.getD (toS I t) false = false) (hrm:0 < rmS I x t) (ho:o.getD (toS I t) 0 < 0) :
  SearchP I x o (m.set (toS I t) true) (fun v=>if v = toS I t then some t else b v) (some (toS I t)):=by
 have hlt:=z5m hr ht
 have h2:=h.take hr (pend':=fun _=>True) ht hf hm hrm (fun _ _=>.inr trivial) (fun _ _=>trivial)
 refine ⟨h2.lm,fun h=>(by cases h),fun v hv=>?_⟩
 cases hv
 obtain ⟨q1,q2⟩:=h2.root hr
 obtain ⟨q3,q4,q5⟩:=q2 _ hlt (by rw [zav (by rw [h.lm]; exact hlt),if_pos rfl])
 exact ⟨hlt,ho,q1,q4,q5⟩
structure FillI (I:Inst) (x o:List Int):Prop where
 inv:∃ B,NInv I x o B/\0 <= B/\B + z4h o I.sup.length <= 144115188075855872
structure FillP (I:Inst) (x o:List Int) (m:List Bool) (f:Bool):Prop where
 inv:FillI I x o
 yes:f = true->z20 I m = 0
 no:f = false->m = []/\z19 I x = 0
theorem fill_more {I:Inst} (hr:z04 I = 0) {x o:List Int} (h:FillI I x o) {m:List Bool} {b:Nat->Option Stp} {v:Nat} (hS:SearchP I x o m b (some v)) :
  AlOk I x o (z0i I.sup.length b) (v:Int)/\FillI I (z2o x (alL I (z0i I.sup.length b) v) (alU I x o (z0i I.sup.length b) v)) (z1w I o (alL I (z0i I.sup.length b) v) (alU I x o (z0i I.sup.length b) v)) /\
  (z4h (z1w I o (alL I (z0i I.sup.length b) v) (alU I x o (z0i I.sup.length b) v)) I.sup.length).toNat < (z4h o I.sup.length).toNat:=by
 obtain ⟨B,hN,hB,hb⟩:=h.inv
 have hps:=z1r o I.sup.length
 obtain ⟨hv,ho,⟨ρ,hT,hρ⟩,h1,h2⟩:=hS.yes v rfl
 obtain ⟨A,hU,-,-⟩:=al_ok hr hN (by omega) (by omega) hT hρ hv (L:=1) (by omega) h1 (by omega) h2
 obtain ⟨q1,q2,-⟩:=al_does hN hB A hU
 have hps2:=z1r (z1w I o (alL I (z0i I.sup.length b) v) (alU I x o (z0i I.sup.length b) v)) I.sup.length
 refine ⟨A,⟨⟨_,q1,by omega,by omega⟩⟩,by omega⟩
theorem getD_true {m:List Bool} {v:Nat} (h:m.getD v false = true):v < m.length/\true ∈ m:=by
 rw [List.getD_eq_getElem?_getD] at h
 cases e:m[v]? with
 | none=>rw [e] at h; cases h
 | some c =>
  rw [e] at h
  have:c = true:=h
  subst this
  exact ⟨(List.getElem?_eq_some_iff.1 e).1,List.mem_of_getElem? e⟩
theorem fill_end {I:Inst} (hr:z04 I = 0) {x o:List Int} (h:FillI I x o) {m:List Bool} {b:Nat->Option Stp} (hS:SearchP I x o m b none):(m.contains true = true->FillP I x o m true)/\(¬ m.contains true = true->FillP I x o [] false):=by
 obtain ⟨B,hN,-,-⟩:=id h.inv
 obtain ⟨h1,h2,h3,h4⟩:=hS.no rfl
 refine ⟨fun hc=>⟨h,fun _=>?_,fun h=>(by cases h)⟩,fun hc=>⟨h,fun h=>(by cases h),fun _=>⟨rfl,?_⟩⟩⟩
 ·rw [List.contains_iff_mem] at hc
  obtain ⟨v,hv⟩:=List.mem_iff_getElem?.1 hc
  have hvl:=(List.getElem?_eq_some_iff.1 hv).1
  rw [hS.lm] at hvl
  obtain ⟨r,hrl,hro⟩:=h4 v hvl (by rw [List.getD_eq_getElem?_getD,hv]; rfl)
  refine zmz hr hN.over hN.betw hS.lm h1 ?_
  have:∀ k,k <= I.sup.length->0 <= z1i (fun w=>if m.getD w false then o.getD w 0 else 0) k/\(r < k->0 < z1i (fun w=>if m.getD w false then o.getD w 0 else 0) k):=by
   intro k
   induction k with
   | zero=>intro _; exact ⟨Int.le_refl _,fun h=>absurd h (Nat.not_lt_zero _)⟩
   | succ k ih =>
    intro hk
    obtain ⟨i1,i2⟩:=ih (by omega)
    have hnn:0 <= (if m.getD k false then o.getD k 0 else 0):=by
     split
     ·rename_i hm; exact h3 k (by omega) hm
     ·omega
    rw [z1i]
    refine ⟨by omega,fun hvk=>?_⟩
    by_cases e:r = k
    ·subst e
     rw [if_pos (h2 r hrl hro)]
     omega
    ·have:=i2 (by omega); omega
  exact (this _ (Nat.le_refl _)).2 hrl
 ·refine zko hr hN.over hN.betw (over_zero hr hN.over fun v hv=>?_)
  apply Int.le_of_not_gt
  intro hlt
  exact hc (List.contains_iff_mem.2 (getD_true (h2 v hv hlt)).2)
theorem FillI.xb {I:Inst} {x o:List Int} (h:FillI I x o):YB x:=by
 obtain ⟨B,hN,hB,hb⟩:=h.inv
 have hps:=z1r o I.sup.length
 exact yb_of fun i hi=>by have:=hN.bd i (by rw [<- hN.over.lx]; exact hi); omega
theorem FillI.ob {I:Inst} {x o:List Int} (hr:z04 I = 0) (h:FillI I x o):YB o:=by
 obtain ⟨B,hN,hB,hb⟩:=h.inv
 have hps:=z1r o I.sup.length
 exact yb_of fun k hk=>by have:=over_bd hr hN.over (v:=k) (by rw [<- hN.over.lo]; exact hk); omega
structure LayI (I:Inst) (x o:List Int) (m:List Bool) (b:Nat->Option Stp) (L X:List Nat) (p:Stp->Prop):Prop where
 i:SeI I x o m b (fun s=>frS I s ∈ L ∨ frS I s ∈ X ∨ p s)
 g:SeG I o m
 l:∀ v ∈ L,v < I.sup.length/\m.getD v false = true
 x:∀ v ∈ X,v < I.sup.length/\m.getD v false = true
theorem unN_le:∀ l:List Bool,unN l <= l.length
 | []=>Nat.le_refl _
 | b :: l=>by rw [unN,List.length_cons]; have:=unN_le l; split <;> omega
section
variable {I:Inst} {x o:List Int} {m:List Bool} {b:Nat->Option Stp}
theorem layK_le (o:List Int) (k:Nat):(layK o k).length <= k:=by unfold layK; exact Nat.le_trans (List.length_filter_le _ _) (by simp)
theorem LayI.begin (hr:z04 I = 0) (ho:o.length = I.sup.length):LayI I x o (zh7 o I.sup.length I.sup.length) (fun _=>none) (layK o I.sup.length) [] (fun _=>False):=by
 obtain ⟨h1,h2⟩:=SeI.begin I x o ho hr
 refine ⟨h1.skip fun s _ h=>.inr (.inr (.inl h)),h2,fun v hv=>?_,fun v hv=>by simp at hv⟩
 obtain ⟨q1,q2⟩:=layK_mem.1 hv
 exact ⟨q1,h1.st v q1 q2⟩
theorem LayI.node {L X:List Nat} {i v:Nat} {l:List Stp} (h:LayI I x o m b (L.drop i) X (fun _=>False)) (hv:L[i]? = some v) (hl:∀ s,s ∈ l ↔ okS I s/\frS I s = v) :
  LayI I x o m b (L.drop (i + 1)) X (fun s=>s ∈ l.drop 0)/\∀ s ∈ l,okS I s/\m.getD (frS I s) false = true:=by
 have hd:L.drop i = v :: L.drop (i + 1):=z43 hv
 rw [hd] at h
 have hv2:=h.l v (by simp)
 refine ⟨⟨h.i.skip fun s hs hp=>?_,h.g,fun u hu=>h.l u (by simp [hu]),h.x⟩,fun s hs=>?_⟩
 ·rcases hp with hp | hp | hp
  ·rcases List.mem_cons.1 hp with e | hp
   ·exact .inr (.inr (.inr (.inr (by rw [List.drop_zero]; exact (hl s).2 ⟨hs,e⟩))))
   ·exact .inr (.inr (.inl hp))
  ·exact .inr (.inr (.inr (.inl hp)))
  ·exact hp.elim
 ·obtain ⟨q1,q2⟩:=(hl s).1 hs
  exact ⟨q1,by rw [q2]; exact hv2.2⟩
theorem LayI.close {L X:List Nat} {l:List Stp} {j:Nat} (h:LayI I x o m b L X (fun s=>s ∈ l.drop j)) (hj:l.length <= j):LayI I x o m b L X (fun _=>False) :=
 ⟨h.i.skip fun s _ hp=>by rw [List.drop_eq_nil_of_le hj] at hp; exact .inr (.inr (hp.imp id (.imp id fun h=>by simp at h))),h.g,h.l,h.x⟩
theorem LayI.pass {L X:List Nat} {l:List Stp} {j:Nat} {t:Stp} (h:LayI I x o m b L X (fun s=>s ∈ l.drop j)) (ht:l[j]? = some t) (hp:m.getD (toS I t) false = true ∨ ¬ 0 < rmS I x t):LayI I x o m b L X (fun s=>s ∈ l.drop (j + 1)):=by
 have hd:l.drop j = t :: l.drop (j + 1):=z43 ht
 refine ⟨h.i.skip fun s _ h2=>?_,h.g,h.l,h.x⟩
 rcases h2 with h2 | h2 | h2
 ·exact .inr (.inr (.inl h2))
 ·exact .inr (.inr (.inr (.inl h2)))
 ·rw [hd] at h2
  rcases List.mem_cons.1 h2 with e | h2
  ·subst e; rcases hp with hp | hp
   ·exact .inl hp
   ·exact .inr (.inl hp)
  ·exact .inr (.inr (.inr (.inr h2)))
theorem LayI.take (hr:z04 I = 0) {L X:List Nat} {l:List Stp} {j:Nat} {t:Stp} (h:LayI I x o m b L X (fun s=>s ∈ l.drop j)) (ht:l[j]? = some t) (hok:okS I t) (hf:m.getD (frS I t) false = true) (hm:m.getD (toS I t) false = false) (hrm:0 < rmS I x t) (ho:0 <= o.getD (toS I t) 0) :
  LayI I x o (m.set (toS I t) true) (fun v=>if v = toS I t then some t else b v) L (X ++ [toS I t]) (fun s=>s ∈ l.drop (j + 1)):=by
 have hd:l.drop j = t :: l.drop (j + 1):=z43 ht
 have hlt:=z5m hr hok
 have hml:toS I t < m.length:=by rw [h.i.lm]; exact hlt
 have hset:∀ v,m.getD v false = true->(m.set (toS I t) true).getD v false = true:=fun v hv=>by
  rw [zav hml]; split
  ·rfl
  ·exact hv
 refine ⟨h.i.take hr hok hf hm hrm (fun s h2=>?_) (fun s e=>.inr (.inl (by rw [e]; simp))),h.g.take hml ho,fun v hv=>⟨(h.l v hv).1,hset v (h.l v hv).2⟩,fun v hv=>?_⟩
 ·rcases h2 with h2 | h2 | h2
  ·exact .inr (.inl h2)
  ·exact .inr (.inr (.inl (by simp [h2])))
  ·rw [hd] at h2
   rcases List.mem_cons.1 h2 with e | h2
   ·exact .inl e
   ·exact .inr (.inr (.inr h2))
 ·rcases List.mem_append.1 hv with hv | hv
  ·exact ⟨(h.x v hv).1,hset v (h.x v hv).2⟩
  ·simp at hv
   subst hv
   exact ⟨hlt,by rw [zav hml,if_pos rfl]⟩
theorem LayI.next {L X:List Nat} {i:Nat} (h:LayI I x o m b (L.drop i) X (fun _=>False)) (hi:L.length <= i):LayI I x o m b X [] (fun _=>False):=by
 rw [List.drop_eq_nil_of_le hi] at h
 refine ⟨h.i.skip fun s _ h2=>?_,h.g,h.x,fun v hv=>by simp at hv⟩
 rcases h2 with h2 | h2 | h2
 ·simp at h2
 ·exact .inr (.inr (.inl h2))
 ·exact h2.elim
theorem LayI.end_ (hr:z04 I = 0) (h:LayI I x o m b [] [] (fun _=>False)):SearchP I x o m b none:=by
 refine h.i.end_ hr h.g fun s _ h2=>?_
 rcases h2 with h2 | h2 | h2
 ·simp at h2
 ·simp at h2
 ·exact h2
end
def z0l (i s:List Int) (n:Int) (w:Nat):List Int:=(i.take (s.getD (2 * n.toNat + w + 1) 0).toNat).drop (s.getD (2 * n.toNat + w) 0).toNat
structure PieceOk (gn:Int) (i s:List Int) (n:Int) (w:Nat):Prop where
 n0:0 <= n
 n1:n < gn
 gn1:gn <= 10000
 il:i.length <= 1000000000
 sl:2 * n.toNat + w + 1 < s.length
 a:0 <= s.getD (2 * n.toNat + w) 0
 b:s.getD (2 * n.toNat + w) 0 <= s.getD (2 * n.toNat + w + 1) 0
 c:s.getD (2 * n.toNat + w + 1) 0 <= i.length
end Go.Ql
end
section
namespace Go.Ql
open Go Go.Vc
structure LowI (I:Inst) (a:Nat) (x o:List Int):Prop where
 over:OverOf I x o
 at_:∀ c,c < I.arcs.length->x.getD c 0 = if c < a then (z1y I c).low else 0
 bd:∀ v,v < I.sup.length->-(4398046511104 * (2 * (a:Int) + 1)) <= o.getD v 0/\o.getD v 0 <= 4398046511104 * (2 * (a:Int) + 1)
 pos:z4h o I.sup.length <= 4398046511104 * ((I.sup.length:Int) + a)
structure BuildP (I:Inst) (x o:List Int) (t:Rows3):Prop where
 low:LowI I I.arcs.length x o
 at_:AtOk I t
theorem netK_zero (n:Nat) (l:List Arc) {x:List Int} (h:∀ c,x.getD c 0 = 0) (v:Nat):∀ k,z73 n l x k v = 0
 | 0=>rfl
 | k + 1=>by
  rw [z73,netK_zero n l h v k]
  unfold z57
  rw [h]
  simp
def z58 (I:Inst) (n:Nat):List Nat:=segA I I.arcs.length (2 * n)
def z79 (I:Inst) (n:Nat):List Nat:=segA I I.arcs.length (2 * n + 1)
def fwd (l:List Nat):List Stp:=l.map fun a=>(a,false)
def bwd (l:List Nat):List Stp:=l.map fun a=>(a,true)
def stpsF (I:Inst) (n:Nat):List Stp:=fwd (z58 I n) ++ bwd (z79 I n)
def z1p (I:Inst) (n:Nat) (q:List Stp):List (List (List Int)):=(List.range I.sup.length).map fun u=>(if u < n then stpsF I u else if u = n then q else []).map z5x
theorem z6j (I:Inst) (n:Nat) (q:List Stp):(z1p I n q).length = I.sup.length:=by simp [z1p]
theorem z6i {I:Inst} {n:Nat} {q:List Stp} {u:Nat} (h:u < I.sup.length):(z1p I n q)[u]? = some ((if u < n then stpsF I u else if u = n then q else []).map z5x):=by
 unfold z1p; rw [List.getElem?_map,List.getElem?_range h]; rfl
theorem stpsK_zero (I:Inst):List.replicate I.sup.length [] = z1p I 0 []:=by
 refine List.ext_getElem? fun t=>?_
 by_cases h:t < I.sup.length
 ·rw [z6i h,List.getElem?_replicate,if_pos h,if_neg (Nat.not_lt_zero _)]
  split <;> rfl
 ·rw [List.getElem?_eq_none (by simp; omega),List.getElem?_eq_none (by rw [z6j]; omega)]
theorem stpsK_set {I:Inst} {n:Nat} {q:List Stp} (s:Stp) {r:List (List Int)} (hr:(z1p I n q)[n]? = some r):(z1p I n q).set n (r ++ [z5x s]) = z1p I n (q ++ [s]):=by
 have hn:n < I.sup.length:=by have:=(List.getElem?_eq_some_iff.1 hr).1; rwa [z6j] at this
 rw [z6i hn,if_neg (Nat.lt_irrefl _),if_pos rfl] at hr
 cases hr
 refine List.ext_getElem? fun t=>?_
 rw [List.getElem?_set,z6j]
 by_cases h:t < I.sup.length
 ·by_cases e:n = t
  ·subst e
   rw [if_pos rfl,if_pos hn,z6i h,if_neg (Nat.lt_irrefl _),if_pos rfl,List.map_append]; rfl
  ·rw [if_neg e,z6i h,z6i h]
   by_cases h2:t < n
   ·rw [if_pos h2,if_pos h2]
   ·rw [if_neg h2,if_neg h2,if_neg (fun x=>e x.symm),if_neg (fun x=>e x.symm)]
 ·rw [if_neg (by omega),List.getElem?_eq_none (by rw [z6j]; omega),List.getElem?_eq_none (by rw [z6j]; omega)]
theorem stpsK_next (I:Inst) (n:Nat):z1p I n (stpsF I n) = z1p I (n + 1) []:=by
 unfold z1p
 refine List.map_congr_left fun u _=>?_
 by_cases h:u < n
 ·rw [if_pos h,if_pos (by omega)]
 ·rw [if_neg h]
  by_cases e:u = n
  ·subst e; rw [if_pos rfl,if_pos (Nat.lt_succ_self _)]
  ·rw [if_neg e,if_neg (by omega)]
   split <;> rfl
theorem fm_len {F:Nat->List Int} {S:Nat->Nat} (h0:S 0 = 0) (hS:∀ k,S (k + 1) = S k + (F k).length):∀ n,((List.range n).flatMap F).length = S n
 | 0=>by simp [h0]
 | n + 1=>by rw [List.range_succ,List.flatMap_append,List.length_append,fm_len h0 hS n,hS]; simp
theorem fm_piece {F:Nat->List Int} {S:Nat->Nat} (h0:S 0 = 0) (hS:∀ k,S (k + 1) = S k + (F k).length) {j:Nat}:∀ n,j < n->(((List.range n).flatMap F).take (S (j + 1))).drop (S j) = F j
 | 0,h=>by omega
 | n + 1,h=>by
  have hl:=fm_len h0 hS n
  rw [List.range_succ,List.flatMap_append]
  by_cases e:j = n
  ·subst e
   rw [List.take_of_length_le (by rw [List.length_append,hl,hS]; simp),<- hl,List.drop_append]
   simp
  ·have hm:∀ d k,S k <= S (k + d):=fun d k=>by
    induction d with
    | zero=>exact Nat.le_refl _
    | succ d ih=>rw [<- Nat.add_assoc,hS]; omega
   have:=hm (n - (j + 1)) (j + 1)
   rw [show j + 1 + (n - (j + 1)) = n by omega] at this
   rw [List.take_append_of_le_length (by omega)]
   exact fm_piece h0 hS n (by omega)
theorem z5a {I:Inst} {j:Nat} (h:j <= 2 * I.sup.length):(z0x I).getD j 0 = (z8w I j:Int):=by
 unfold z0x
 rw [List.getD_eq_getElem?_getD,List.getElem?_map,List.getElem?_range (by omega)]; rfl
theorem piece_is {I:Inst} {n w:Nat} (hn:n < I.sup.length) (hw:w <= 1):z0l (z2d I) (z0x I) (n:Int) w = z3s (segA I I.arcs.length (2 * n + w)):=by
 unfold z0l
 rw [Int.toNat_natCast,z5a (by omega),z5a (by omega),Int.toNat_natCast,Int.toNat_natCast]
 unfold z2d z3s
 exact fm_piece (S:=z8w I) rfl (fun k=>by rw [z8w,List.length_map]; rfl) _ (by omega)
theorem sumA_len (I:Inst):(z2d I).length = z8w I (2 * I.sup.length):=by
 unfold z2d
 exact fm_len (S:=z8w I) rfl (fun k=>by rw [z8w,List.length_map]; rfl) _
theorem piece_ok {I:Inst} (hr:z04 I = 0) {n w:Nat} (hn:n < I.sup.length) (hw:w <= 1):PieceOk I.sup.length (z2d I) (z0x I) (n:Int) w:=by
 have hs:=z0c hr
 have h1:=za0 I (2 * n + w) 1
 have h2:=za0 I (2 * n + w + 1) (2 * I.sup.length - (2 * n + w + 1))
 rw [show 2 * n + w + 1 + (2 * I.sup.length - (2 * n + w + 1)) = 2 * I.sup.length by omega] at h2
 have h3:=sumA_le I (2 * I.sup.length)
 have h4:2 * I.sup.length * I.arcs.length <= 128 * 256:=Nat.mul_le_mul (by omega) (by omega)
 have h5:=sumA_len I
 refine ⟨by omega,by omega,by omega,by omega,by simp [z0x]; omega,?_,?_,?_⟩
 ·rw [Int.toNat_natCast,z5a (by omega)]; omega
 ·rw [Int.toNat_natCast,z5a (by omega),z5a (by omega)]; omega
 ·rw [Int.toNat_natCast,z5a (by omega)]; omega
theorem segA_mem {I:Inst} (hr:z04 I = 0) {n a:Nat}:(a ∈ z58 I n ↔ a < I.arcs.length/\(z1y I a).src = n)/\(a ∈ z79 I n ↔ a < I.arcs.length/\(z1y I a).dst = n):=by
 have ok:∀ a,a < I.arcs.length->z39 I.sup.length (z1y I a) = true:=fun a ha=>by
  have:=z1l hr ha
  have q1:=this.s0; have q2:=this.s1; have q3:=this.d0; have q4:=this.d1
  exact okArc_iff.2 ⟨q1,by omega,q3,by omega⟩
 have e:∀ j,inK I j a = (z39 I.sup.length (z1y I a) && hasK (z1y I a) j):=fun _=>rfl
 unfold z58 z79 segA
 rw [List.mem_filter,List.mem_filter,List.mem_range,e,e]
 refine ⟨⟨fun h=>⟨h.1,?_⟩,fun h=>⟨h.1,?_⟩⟩,⟨fun h=>⟨h.1,?_⟩,fun h=>⟨h.1,?_⟩⟩⟩
 ·have h2:=h.2
  rw [ok a h.1,Bool.true_and,hasK_iff] at h2
  omega
 ·rw [ok a h.1,Bool.true_and,hasK_iff]; left; omega
 ·have h2:=h.2
  rw [ok a h.1,Bool.true_and,hasK_iff] at h2
  omega
 ·rw [ok a h.1,Bool.true_and,hasK_iff]; right; omega
theorem steps_ok {I:Inst} (hr:z04 I = 0):AtOk I (z1p I I.sup.length []):=by
 have hs:=z0c hr
 refine ⟨z6j _ _ _,fun u hu=>⟨stpsF I u,by rw [z6i hu,if_pos hu],?_,fun s=>?_⟩⟩
 ·have h1:=z97 I (2 * u) I.arcs.length
  have h2:=z97 I (2 * u + 1) I.arcs.length
  unfold z6r at h1 h2
  unfold stpsF fwd bwd z58 z79
  rw [List.length_append,List.length_map,List.length_map]
  omega
 ·obtain ⟨a,k⟩:=s
  have hm:=@segA_mem I hr u a
  unfold stpsF fwd bwd okS frS
  rw [List.mem_append,List.mem_map,List.mem_map]
  dsimp only
  constructor
  ·rintro (⟨b,hb,he⟩ | ⟨b,hb,he⟩)
   ·cases he
    obtain ⟨q1,q2⟩:=hm.1.1 hb
    exact ⟨q1,by rw [if_neg (by simp)]; omega⟩
   ·cases he
    obtain ⟨q1,q2⟩:=hm.2.1 hb
    exact ⟨q1,by rw [if_pos rfl]; omega⟩
  ·rintro ⟨h1,h2⟩
   have ha:=z1l hr h1
   have:=ha.s0; have:=ha.d0
   cases k with
   | false =>
    rw [if_neg (by simp)] at h2
    exact .inl ⟨a,hm.1.2 ⟨h1,by omega⟩,rfl⟩
   | true =>
    rw [if_pos rfl] at h2
    exact .inr ⟨a,hm.2.2 ⟨h1,by omega⟩,rfl⟩
theorem LowI.begin {I:Inst} (hr:z04 I = 0):LowI I 0 (List.replicate I.arcs.length 0) I.sup:=by
 have hz:∀ c,(List.replicate I.arcs.length (0:Int)).getD c 0 = 0:=fun c=>by
  rw [List.getD_eq_getElem?_getD,List.getElem?_replicate]; split <;> rfl
 refine ⟨⟨rfl,by simp,fun v hv=>by rw [netK_zero _ _ hz]; omega⟩,fun c _=>by rw [hz,if_neg (Nat.not_lt_zero _)],fun v hv=>?_,?_⟩
 ·have hm:I.sup.getD v 0 ∈ I.sup:=by rw [List.getD_eq_getElem?_getD,List.getElem?_eq_getElem hv]; exact List.getElem_mem hv
  have:=(z1j hr).1 _ hm
  omega
 ·have:∀ k,k <= I.sup.length->z4h I.sup k <= 4398046511104 * (k:Int):=fun k=>by
   induction k with
   | zero=>intro _; simp [z4h]
   | succ k ih =>
    intro hk
    have h1:=ih (by omega)
    have hm:I.sup.getD k 0 ∈ I.sup:=by rw [List.getD_eq_getElem?_getD,List.getElem?_eq_getElem hk]; exact List.getElem_mem hk
    have h2:=(z1j hr).1 _ hm
    rw [z4h]
    have e:((k + 1:Nat):Int) = k + 1:=by omega
    rw [e]
    omega
  have:=this _ (Nat.le_refl _)
  have e:((0:Nat):Int) = 0:=rfl
  rw [e]
  omega
theorem LowI.next {I:Inst} (hr:z04 I = 0) {a:Nat} {x o:List Int} (h:LowI I a x o) (ha:a < I.arcs.length):LowI I (a + 1) (z4q x (a,false) (z1y I a).low) (z6n I o (a,false) (z1y I a).low):=by
 have hk:=z1l hr ha
 have hl0:=hk.l0; have hl1:=hk.l1
 refine ⟨h.over.push hr (s:=(a,false)) ha _,fun c hc=>?_,fun v hv=>?_,?_⟩
 ·rw [z8i (by rw [h.over.lx]; exact ha),h.at_ c hc]
  by_cases e:c = a
  ·subst e; rw [if_neg (Nat.lt_irrefl _),if_pos rfl,if_pos (Nat.lt_succ_self _)]; simp
  ·rw [if_neg (show ¬ c = ((a,false):Stp).1 from e)]
   by_cases h2:c < a
   ·rw [if_pos h2,if_pos (by omega)]; omega
   ·rw [if_neg h2,if_neg (by omega)]; rfl
 ·have:=h.bd v hv
  rw [zd5 (by rw [h.over.lo]; exact hv)]
  have e:((a + 1:Nat):Int) = a + 1:=by omega
  rw [e]
  repeat' split <;> omega
 ·have:=posS_push hr h.over.lo (s:=(a,false)) ha hl0
  have:=h.pos
  have e:((a + 1:Nat):Int) = a + 1:=by omega
  rw [e]
  omega
theorem LowI.xb {I:Inst} (hr:z04 I = 0) {a:Nat} {x o:List Int} (h:LowI I a x o) (ha:a <= I.arcs.length):XB x/\XB o:=by
 have hs:=z0c hr
 refine ⟨xb_of fun k hk=>?_,xb_of fun k hk=>?_⟩
 ·have hk2:k < I.arcs.length:=by rw [<- h.over.lx]; exact hk
  have:=z1l hr hk2
  have:=this.l0; have:=(z1l hr hk2).l1
  rw [h.at_ k hk2]
  split <;> omega
 ·have:=h.bd k (by rw [<- h.over.lo]; exact hk)
  omega
end Go.Ql
end
section
namespace Go.Ql
open Go Go.Vc
structure SmallI (I:Inst):Prop where
 s:∀ y ∈ I.sup,-1048576 <= y/\y <= 1048576
 a:∀ a ∈ I.arcs,a.low <= 524288/\(a.cap = inf ∨ a.cap <= 536870912)
structure SolveP (I:Inst) (c:Cert) (e:Int):Prop where
 bad:z04 I ≠ 0->e = z04 I/\c = ⟨0,[],[],[],[]⟩
 ok:z04 I = 0->e = 0/\z1f I c = 0/\YB c.flow/\YB c.pot/\∀ C:Int,0 <= C->(∀ s,okS I s->-C <= csS I s/\csS I s <= C)->∀ k,-(C * 32768) <= c.pot.getD k 0/\c.pot.getD k 0 <= C * 32768
theorem build_fill {I:Inst} (hr:z04 I = 0) {x o:List Int} {t:Rows3} (h:BuildP I x o t):FillI I x o:=by
 have hs:=z0c hr
 have hlow:=h.low
 have hx:∀ a,a < I.arcs.length->x.getD a 0 = (z1y I a).low:=fun a ha=>by rw [hlow.at_ a ha,if_pos ha]
 refine ⟨⟨4398046511104,⟨hlow.over,fun a ha=>?_,fun a ha=>?_⟩,by omega,?_⟩⟩
 ·have:=z1l hr ha
  have h1:=this.c
  rw [hx a ha]
  exact ⟨Int.le_refl _,h1.imp id (·.1)⟩
 ·have:=z1l hr ha
  have h1:=this.l0; have h2:=this.l1
  rw [hx a ha]; omega
 ·have:=hlow.pos
  omega
theorem build_cheap {I:Inst} (hr:z04 I = 0) (hsm:SmallI I) {x o:List Int} {t:Rows3} (h:BuildP I x o t) (hπ:∃ π,z8u I (endS I) π) (hy:∃ y,A64 y/\z19 I y = 0):zi2 I x o:=by
 have hs:=z0c hr
 have hlow:=h.low
 refine ⟨hr,hlow.over,fun a ha=>by rw [hlow.at_ a ha,if_pos ha],⟨by rw [hlow.over.lo]; omega,by omega,fun y hy=>?_,fun a ha=>?_⟩,hπ,hy⟩
 ·obtain ⟨v,hv⟩:=List.mem_iff_getElem?.1 hy
  have hvl:v < I.sup.length:=by rw [<- hlow.over.lo]; exact (List.getElem?_eq_some_iff.1 hv).1
  have e:o.getD v 0 = y:=by rw [List.getD_eq_getElem?_getD,hv]; rfl
  rw [<- e,hlow.over.at_ v hvl]
  have hm:I.sup.getD v 0 ∈ I.sup:=by rw [List.getD_eq_getElem?_getD,List.getElem?_eq_getElem hvl]; exact List.getElem_mem hvl
  have h1:=hsm.s _ hm
  have h2:∀ k,k <= I.arcs.length->-(524288 * (k:Int)) <= z73 I.sup.length I.arcs x k v/\z73 I.sup.length I.arcs x k v <= 524288 * (k:Int):=fun k=>by
   induction k with
   | zero=>intro _; simp [z73]
   | succ k ih =>
    intro hk
    obtain ⟨i1,i2⟩:=ih (by omega)
    have h3:=z1l hr (a:=k) (by omega)
    have h4:=h3.l0
    have h5:=(hsm.a _ (z7z (show k < I.arcs.length by omega)).2).1
    have h6:=hlow.at_ k (by omega)
    rw [if_pos (by omega)] at h6
    rw [z73,h6]
    have e2:((k + 1:Nat):Int) = k + 1:=by omega
    rw [e2]
    unfold z57
    repeat' split <;> omega
  have:=h2 _ (Nat.le_refl _)
  omega
 ·have h1:=hsm.a a ha
  obtain ⟨j,hj⟩:=List.mem_iff_getElem?.1 ha
  have h3:=z1l hr (a:=j) (List.getElem?_eq_some_iff.1 hj).1
  rw [z28 hj] at h3
  have:=h3.l0; have h4:=h3.c
  refine h1.2.imp id fun h=>⟨?_,h⟩
  rcases h4 with h4 | h4
  ·rw [h4] at h; exact absurd h (by decide)
  ·omega
theorem fits_len {I:Inst} {x o:List Int} {m:List Bool} {f:Bool} (h:FillP I x o m f):A64 x:=fun y hy=>by have:=h.inv.xb y hy; unfold I64; omega
theorem nil_few {C:Int} (h0:0 <= C) (k:Nat):-(C * 32768) <= ([]:List Int).getD k 0/\([]:List Int).getD k 0 <= C * 32768:=by
 have:([]:List Int).getD k 0 = 0:=rfl
 rw [this]; omega
theorem YB.nil:YB []:=fun y hy=>by simp at hy
theorem solve_cut {I:Inst} (hr:z04 I = 0) {x o:List Int} {m:List Bool} (h:FillP I x o m true):SolveP I ⟨2,[],[],m,[]⟩ 0:=by
 refine ⟨fun h2=>absurd hr h2,fun _=>⟨rfl,?_,YB.nil,YB.nil,fun C h0 _ k=>nil_few h0 k⟩⟩
 unfold z1f z4f
 simp [hr,h.yes rfl]
theorem solve_ray {I:Inst} (hr:z04 I = 0) {x o:List Int} {m:List Bool} (h:FillP I x o m false) {l:List Int} (hl:RoundP I l true):SolveP I ⟨3,x,[],[],l⟩ 0:=by
 refine ⟨fun h2=>absurd hr h2,fun _=>⟨rfl,?_,h.inv.xb,YB.nil,fun C h0 _ k=>nil_few h0 k⟩⟩
 have h1:=(h.no rfl).2
 have h2:=hl.yes rfl
 unfold z1f z4f
 simp [hr,h1,h2]
theorem solve_best {I:Inst} (hr:z04 I = 0) {x o p:List Int} (h:CheapP I x o) (hp:PriceP I x p):SolveP I ⟨1,x,p,[],[]⟩ 0:=by
 refine ⟨fun h2=>absurd hr h2,fun _=>⟨rfl,?_,h.yb,?_,fun C h0 hC k=>?_⟩⟩
 ·have:=prices_slack h.fits hp
  unfold z1f z4f
  simp [hr,this]
 ·obtain ⟨g,-,hpe,hg,-⟩:=hp.ex
  show YB p
  rw [hpe]
  intro y hy
  unfold negF at hy
  obtain ⟨v,hv,rfl⟩:=List.mem_map.1 hy
  have:=hg v (List.mem_range.1 hv)
  omega
 ·obtain ⟨g,-,hpe,-,hg⟩:=hp.ex
  show -(C * 32768) <= p.getD k 0/\p.getD k 0 <= C * 32768
  rw [hpe]
  by_cases hk:k < I.sup.length
  ·have:=hg C h0 hC k hk
   rw [negF_get _ _ hk]; omega
  ·rw [List.getD_eq_getElem?_getD,List.getElem?_eq_none (by simp [negF]; omega)]
   show -(C * 32768) <= 0/\0 <= C * 32768
   omega
theorem solve_bad {I:Inst} (hr:z04 I ≠ 0):SolveP I ⟨0,[],[],[],[]⟩ (z04 I):=⟨fun _=>⟨rfl,rfl⟩,fun h=>absurd h hr⟩
end Go.Ql
end
section
namespace Go.Ql
open Go Go.Vc
theorem YB.a64 {x:List Int} (h:YB x):A64 x:=fun y hy=>by have:=h y hy; unfold I64; omega
theorem z7n {I:Inst} {x p:List Int} (h:z15 I x p = 0):z19 I x = 0:=by
 unfold z15 at h
 split at h
 ·rename_i hn; exact absurd h hn
 ·rename_i hn; exact Classical.byContradiction hn
theorem solve_ok {I:Inst} {c:Cert} {e:Int} (hr:z04 I = 0) (h:SolveP I c e):z1e c/\z1f I c = 0/\c.flow.length <= 256/\c.pot.length <= 64/\c.side.length <= 64/\c.cycle.length <= 256:=by
 obtain ⟨-,h1,h2,h3,-⟩:=h.ok hr
 have hs:=z0c hr
 have hl:c.flow.length <= 256/\c.pot.length <= 64/\c.side.length <= 64/\c.cycle.length <= 256:=by
  obtain ⟨-,hp,hk⟩:=z4c h1
  unfold z4f at hp
  rcases hk with ⟨k,h4⟩ | ⟨k,h4⟩ | ⟨k,h4,h5⟩
  ·have hf:=(fitsF_zero.1 (z7n h4)).2.1
   have hpl:c.pot.length = I.sup.length:=by
    unfold z15 at h4
    rw [if_neg (fun hn=>hn (z7n (by unfold z15; exact h4)))] at h4
    split at h4
    ·cases h4
    ·rename_i hh; exact Classical.byContradiction hh
   rw [if_pos k,Bool.and_eq_true,decide_eq_true_eq,decide_eq_true_eq] at hp
   omega
  ·rw [if_neg (by omega),if_pos k,Bool.and_eq_true,Bool.and_eq_true,decide_eq_true_eq,decide_eq_true_eq,decide_eq_true_eq] at hp
   have:c.side.length = I.sup.length:=by
    unfold z20 at h4
    rw [if_neg (fun hn=>hn hr)] at h4
    split at h4
    ·cases h4
    ·rename_i hh; exact Classical.byContradiction hh
   omega
  ·rw [if_neg (by omega),if_neg (by omega),if_pos k,Bool.and_eq_true,decide_eq_true_eq,decide_eq_true_eq] at hp
   have hf:=(fitsF_zero.1 h4).2.1
   have:c.cycle.length <= I.arcs.length:=by
    unfold z1x at h5
    rw [if_neg (fun hn=>hn hr)] at h5
    split at h5
    ·cases h5
    ·omega
   omega
 exact ⟨⟨h2.a64,h3.a64,by omega,by omega,by omega,by omega⟩,h1,hl⟩
structure ValueP (I:Inst) (w:Wide) (k:Int):Prop where
 ex:∃ c,z1e c/\z1f I c = 0/\c.kind = k/\w = zh2 I c
 yb:∃ c,z1e c/\z1f I c = 0/\YB c.flow/\YB c.pot/\∀ C:Int,0 <= C->(∀ s,okS I s->-C <= csS I s/\csS I s <= C)->∀ k,-(C * 32768) <= c.pot.getD k 0/\c.pot.getD k 0 <= C * 32768
theorem ValueP.one {I:Inst} {w:Wide} {k:Int} (h:ValueP I w k) {c:Cert} (hc:z1e c) (h1:z1f I c = 0):k = c.kind/\w = zh2 I c:=by
 obtain ⟨d,q1,q2,rfl,rfl⟩:=h.ex
 exact cert_one q1 hc q2 h1
theorem ValueP.pos {I:Inst} {w:Wide} {k:Int} (h:ValueP I w k):z04 I = 0/\(k = 1 ∨ k = 2 ∨ k = 3):=by
 obtain ⟨d,q1,q2,rfl,rfl⟩:=h.ex
 obtain ⟨hr,hp,-⟩:=z4c q2
 exact ⟨hr,zc0 hp⟩
def FeasQ (I:Inst):Prop:=∃ x,A64 x/\z19 I x = 0
def NegQ (I:Inst):Prop:=∃ l,z1x I l = 0/\l.length <= 140737488351232
theorem ValueP.feas {I:Inst} {w:Wide} {k:Int} (h:ValueP I w k) (hk:k ≠ 2):FeasQ I:=by
 obtain ⟨d,q1,q2,rfl,-⟩:=h.ex
 obtain ⟨hr,-,q3⟩:=z4c q2
 rcases q3 with ⟨-,a⟩ | ⟨a,-⟩ | ⟨-,a,-⟩
 ·exact ⟨_,q1.1,z7n a⟩
 ·omega
 ·exact ⟨_,q1.1,a⟩
theorem ValueP.neg {I:Inst} {w:Wide} {k:Int} (h:ValueP I w k) (hk:k ≠ 2):k = 3 ↔ NegQ I:=by
 refine ⟨fun h3=>?_,fun ⟨l,hl,hll⟩=>?_⟩
 ·obtain ⟨d,q1,q2,rfl,-⟩:=h.ex
  obtain ⟨hr,-,q3⟩:=z4c q2
  rcases q3 with ⟨a,-⟩ | ⟨a,-⟩ | ⟨-,-,a⟩
  ·omega
  ·omega
  ·exact ⟨_,a,q1.2.2.2.2.2⟩
 ·obtain ⟨x,hx,hf⟩:=h.feas hk
  have hlen:=(fitsF_zero.1 hf).2.1
  have hr:=(fitsF_zero.1 hf).1
  have hs:=z0c hr
  have hc:z1f I ⟨3,x,[],[],l⟩ = 0:=by
   unfold z1f z4f
   simp [hr,hf,hl]
  exact (h.one (c:=⟨3,x,[],[],l⟩) ⟨hx,YB.nil.a64,by dsimp only; omega,by simp,by simp,hll⟩ hc).1
structure ArcFew (n:Int) (a:Arc):Prop where
 s0:0 <= a.src
 s1:a.src < n
 d0:0 <= a.dst
 d1:a.dst < n
 l0:0 <= a.low
 l1:a.low <= 500
 c:a.cap = inf ∨ a.low <= a.cap/\a.cap <= 2000
 k0:-2000 <= a.cost
 k1:a.cost <= 2000
structure FewI (I:Inst):Prop where
 n1:1 <= I.sup.length
 n2:I.sup.length <= 30
 m:I.arcs.length <= 64
 arc:∀ a ∈ I.arcs,ArcFew I.sup.length a
 sup:Within 100000 I.sup
 sum:I.sup.sum = 0
theorem FewI.right {I:Inst} (h:FewI I):z04 I = 0:=by
 have:=h.n2; have:=h.m
 refine right_of (by omega) (by omega) (fun a ha=>?_) (fun x hx=>by have:=h.sup x hx; omega) h.sum
 have h:=h.arc a ha
 have hi:inf = 4611686018427387904:=rfl
 have:=h.s0; have:=h.s1; have:=h.d0; have:=h.d1; have:=h.l0; have:=h.l1; have:=h.c; have:=h.k0; have:=h.k1
 unfold z0r
 rw [if_neg (by omega),if_neg (by omega),if_neg (by omega),if_neg (by omega)]
theorem ValueP.none {I:Inst} {w:Wide} {k:Int} (h:ValueP I w k) (hk:k ≠ 1):w = ⟨0,0⟩:=by
 obtain ⟨d,q1,q2,rfl,rfl⟩:=h.ex
 unfold zh2; rw [if_neg hk]
end Go.Ql
end
section
namespace Go.Ql
open Go Go.Vc
theorem zkn {I:Inst} {x:List Int} (hx:A64 x):z19 I x = 0 ↔ z04 I = 0/\x.length = I.arcs.length/\Betw I x/\∀ v:Nat,v < I.sup.length->z73 I.sup.length I.arcs x I.arcs.length v = I.sup.getD v 0:=by
 constructor
 ·intro h
  obtain ⟨hr,hl,ha,-⟩:=fitsF_zero.1 h
  have hs:=z0c hr
  refine ⟨hr,hl,fun a hal=>?_,fits_net (by omega) hx (z1j hr).1 h⟩
  obtain ⟨hget,hm⟩:=z7z hal
  have:=fitsAll_iff.1 ha a _ hget
  unfold fitF at this
  rw [Bool.and_eq_true,Bool.or_eq_true,decide_eq_true_eq,decide_eq_true_eq,decide_eq_true_eq] at this
  exact this
 ·rintro ⟨hr,hl,hb,hn⟩
  refine zko hr (o:=List.replicate I.sup.length 0) ⟨by simp,hl,fun v hv=>?_⟩ hb fun v hv=>?_
  ·rw [hn v hv,List.getD_eq_getElem?_getD,List.getElem?_replicate,if_pos hv]; simp
  ·rw [List.getD_eq_getElem?_getD,List.getElem?_replicate,if_pos hv]; rfl
theorem turns_char {I:Inst} {l:List Int}:z1x I l = 0 ↔ z04 I = 0/\1 <= l.length/\l.length <= I.arcs.length/\(∀ a ∈ l,0 <= a/\a < I.arcs.length)/\l.Nodup/\(∀ k,k < l.length->(z4w I (l.getD k 0)).dst = (z4w I (l.getD ((k + 1) % l.length) 0)).src)/\(∀ a ∈ l,(z4w I a).cap = inf)/\rayS I l < 0:=by
 have hc5:z04 I = 0->l.length <= I.arcs.length->(c5F I l = true ↔ rayS I l < 0):=fun hr hl=>by
  have hs:=z0c hr
  have e2:=rayK_bd hr l l.length
  unfold c5F
  rw [decide_eq_true_eq]
  unfold rayS at *
  rw [zbd (by unfold zb1; omega) (by unfold zb1; omega)]
  by_cases h:z8y I l l.length < 0
  ·rw [if_pos h]; simp [h]
  ·rw [if_neg h]; split <;> simp [h]
 unfold z1x
 constructor
 ·intro h
  split at h
  ·rename_i hn; exact absurd h hn
  ·rename_i hr
   have hr:=Classical.byContradiction hr
   split at h
   ·cases h
   ·rename_i hl
    split at h
    ·rename_i hc
     simp only [Bool.and_eq_true] at hc
     obtain ⟨⟨⟨⟨c1,c2⟩,c3⟩,c4⟩,c5⟩:=hc
     refine ⟨hr,by omega,by omega,fun a ha=>isArcF_iff.1 (List.all_eq_true.1 c1 a ha),of_decide_eq_true c2,fun k hk=>of_decide_eq_true (List.all_eq_true.1 c3 k (List.mem_range.2 hk)),fun a ha=>of_decide_eq_true (List.all_eq_true.1 c4 a ha),(hc5 hr (by omega)).1 c5⟩
    ·cases h
 ·rintro ⟨hr,h1,h2,c1,c2,c3,c4,c5⟩
  have e1:c1F I l = true:=List.all_eq_true.2 fun a ha=>isArcF_iff.2 (c1 a ha)
  have e2:c2F l = true:=decide_eq_true c2
  have e3:c3F I l = true:=List.all_eq_true.2 fun k hk=>decide_eq_true (c3 k (List.mem_range.1 hk))
  have e4:c4F I l = true:=List.all_eq_true.2 fun a ha=>decide_eq_true (c4 a ha)
  rw [if_neg (fun h=>h hr),if_neg (by omega),e1,e2,e3,e4,(hc5 hr h2).2 c5]
  rfl
def z3f {α:Type} (f:α->α) (s:List α) (k:Nat):List α:=(s.take k).map f ++ s.drop k
section
variable {α:Type} (f:α->α) (s:List α)
theorem stepL_zero:z3f f s 0 = s:=by simp [z3f]
theorem z9z (k:Nat):(z3f f s k).length = s.length:=by simp [z3f]; omega
theorem stepL_end {k:Nat} (h:s.length <= k):z3f f s k = s.map f:=by unfold z3f; rw [List.take_of_length_le h,List.drop_eq_nil_of_le h,List.append_nil]
variable {f s}
theorem stepL_get {k:Nat} {x:α} (h:(z3f f s k)[k]? = some x):s[k]? = some x:=by
 have hk:=(List.getElem?_eq_some_iff.1 h).1
 rw [z9z] at hk
 unfold z3f at h
 rw [List.getElem?_append_right (by simp; omega)] at h
 rw [List.length_map,List.length_take,Nat.min_eq_left (by omega),Nat.sub_self,List.getElem?_drop,Nat.add_zero] at h
 exact h
theorem stepL_set {k:Nat} {x y:α} (h:s[k]? = some x) (hy:y = f x):(z3f f s k).set k y = z3f f s (k + 1):=by
 have hk:=(List.getElem?_eq_some_iff.1 h).1
 subst hy
 have hl:((s.take k).map f).length = k:=by simp; omega
 unfold z3f
 rw [List.set_append_right _ _ (by omega),hl,Nat.sub_self,z43 h,List.set_cons_zero,z1c h,List.map_append]
 simp
end
def z4x (a:Arc):Arc:=⟨a.dst,a.src,a.low,a.cap,a.cost⟩
end Go.Ql
end
section
namespace Go.Ql
open Go Go.Vc
end Go.Ql
end
section
namespace Go.Ql
open Go Go.Vc
def redN (I:Inst) (p:List Int) (c:Nat):Int:=(z1y I c).cost - p.getD (z1y I c).src.toNat 0 + p.getD (z1y I c).dst.toNat 0
theorem slackA_iff {r x:Int} {a:Arc} (h:zb1 r):z5l r x a = true ↔ (0 < r->x = a.low)/\(r < 0->x = a.cap/\a.cap ≠ inf):=by
 have e1:decide (0 < sgn r) = decide (0 < r):=decide_eq_decide.2 (sgn_pos h)
 have e2:decide (sgn r < 0) = decide (r < 0):=decide_eq_decide.2 (sgn_neg h)
 unfold z5l
 rw [e1,e2]
 by_cases h1:0 < r
 ·have h2:¬ r < 0:=by omega
  by_cases h3:x = a.low <;> simp [h1,h2,h3]
 ·by_cases h2:r < 0
  ·by_cases h3:x = a.cap <;> by_cases h4:a.cap = inf <;> simp [h1,h2,h3,h4]
  ·simp [h1,h2]
theorem slack_char {I:Inst} {x p:List Int} (hp:A64 p):z15 I x p = 0 ↔ z19 I x = 0/\p.length = I.sup.length/\∀ c,c < I.arcs.length->(0 < redN I p c->x.getD c 0 = (z1y I c).low)/\(redN I p c < 0->x.getD c 0 = (z1y I c).cap/\(z1y I c).cap ≠ inf):=by
 have hk:z19 I x = 0->∀ c,c < I.arcs.length->(z4g I x p c = true ↔ (0 < redN I p c->x.getD c 0 = (z1y I c).low)/\(redN I p c < 0->x.getD c 0 = (z1y I c).cap/\(z1y I c).cap ≠ inf)):=fun hf c hc=>by
  obtain ⟨hr,-⟩:=fitsF_zero.1 hf
  obtain ⟨hget,hm⟩:=z7z hc
  have ok:=z1l hr hc
  have k0:=ok.k0; have k1:=ok.k1; have s0:=ok.s0; have d0:=ok.d0
  have e:redF I p c = redN I p c:=by
   rw [redF_at hget (z1b hr hm).1]
   unfold redP redA potR redN
   rw [if_pos s0,if_pos d0]
  have b1:=hp.at (z1y I c).src.toNat
  have b2:=hp.at (z1y I c).dst.toNat
  unfold z4g
  rw [e]
  exact slackA_iff (by unfold redN zb1; omega)
 unfold z15
 constructor
 ·intro h
  split at h
  ·rename_i hn; exact absurd h hn
  ·rename_i hf
   have hf:=Classical.byContradiction hf
   split at h
   ·cases h
   ·rename_i hl
    split at h
    ·rename_i ha
     exact ⟨hf,Classical.byContradiction hl,fun c hc=>(hk hf c hc).1 (List.all_eq_true.1 ha c (List.mem_range.2 hc))⟩
    ·cases h
 ·rintro ⟨hf,hl,ha⟩
  rw [if_neg (fun h=>h hf),if_neg (fun h=>h hl),if_pos]
  exact List.all_eq_true.2 fun c hc=>(hk hf c (List.mem_range.1 hc)).2 (ha c (List.mem_range.1 hc))
end Go.Ql
end
section
namespace Go.Ql
open Go Go.Vc
theorem pot_turns {I:Inst} {π:Nat->Int} (hp:z8u I (endS I) π) {l:List Int}:z1x I l ≠ 0:=fun h=>by
 obtain ⟨hr,h1,h2,c1,c2,c3,c4,c5⟩:=turns_char.1 h
 have hm:∀ k,k < l.length->l.getD k 0 ∈ l:=fun k hk=>by rw [List.getD_eq_getElem?_getD,List.getElem?_eq_getElem hk]; exact List.getElem_mem _
 have hk:∀ t,t <= l.length->z1i (fun k=>π (z4w I (l.getD ((k + 1) % l.length) 0)).src.toNat - π (z4w I (l.getD k 0)).src.toNat) t <= z8y I l t:=fun t=>by
  induction t with
  | zero=>intro _; simp [z8y,z1i]
  | succ t ih =>
   intro ht
   have hmt:=hm t (by omega)
   obtain ⟨q1,q2⟩:=c1 _ hmt
   have e1:z4o I (l.getD t 0) = true:=isArcF_iff.2 ⟨q1,q2⟩
   have hcap:=c4 _ hmt
   have hs:okS I ((l.getD t 0).toNat,false):=by unfold okS; dsimp only; omega
   have:=hp ((l.getD t 0).toNat,false) hs (by unfold endS; simp; exact hcap)
   have e2:toS I ((l.getD t 0).toNat,false) = (z4w I (l.getD t 0)).dst.toNat:=rfl
   have e3:frS I ((l.getD t 0).toNat,false) = (z4w I (l.getD t 0)).src.toNat:=rfl
   have e4:csS I ((l.getD t 0).toNat,false) = (z4w I (l.getD t 0)).cost:=rfl
   rw [e2,e3,e4] at this
   have ih:=ih (by omega)
   rw [z8y,z1i,<- c3 t (by omega)]
   unfold rayD
   rw [if_pos e1]
   omega
 have:=hk _ (Nat.le_refl _)
 rw [zg7 (fun k=>π (z4w I (l.getD k 0)).src.toNat) l.length (Nat.le_refl _) (by omega),Nat.mod_self] at this
 unfold rayS at c5
 omega
end Go.Ql
end
section
namespace Go.Ql
open Go Go.Vc
structure ProbD where
 most:Bool
 inst:Inst
 s:Int
 t:Int
def zn9 (a:Arc):Bool:=decide (a.low = 0) && decide (a.cost = 0)
def z6y (I:Inst):Bool:=I.sup.all (fun y=>decide (y = 0)) && I.arcs.all zn9
def z6c (I:Inst) (n:Int):Bool:=decide (0 <= n) && decide (n < I.sup.length)
structure FitP (p:ProbD):Prop where
 m:p.most = true
 r:z04 p.inst = 0
 b:z6y p.inst = true
 s:z6c p.inst p.s = true
 t:z6c p.inst p.t = true
 d:p.s ≠ p.t
def fitP (p:ProbD):Bool:=p.most && (decide (z04 p.inst = 0) && (z6y p.inst && ((z6c p.inst p.s && z6c p.inst p.t) && !decide (p.s = p.t))))
structure AllI (p:ProbD) (k:Nat):Prop where
 n:k <= 5
 m:1 <= k->p.most = true
 r:2 <= k->z04 p.inst = 0
 b:3 <= k->z6y p.inst = true
 st:4 <= k->(z6c p.inst p.s && z6c p.inst p.t) = true
 d:5 <= k->p.s ≠ p.t
theorem fitP_iff {p:ProbD}:fitP p = true ↔ FitP p:=by
 unfold fitP
 simp only [Bool.and_eq_true,decide_eq_true_eq,Bool.not_eq_true',decide_eq_false_iff_not]
 exact ⟨fun ⟨a,b,c,⟨d,e⟩,f⟩=>⟨a,b,c,d,e,f⟩,fun ⟨a,b,c,d,e,f⟩=>⟨a,b,c,⟨d,e⟩,f⟩⟩
def ofE (p:ProbD):Int:=if fitP p = true then (if 256 <= p.inst.arcs.length then 20 else 0) else 1
def backA (p:ProbD):Arc:=⟨p.t,p.s,0,4611686018427387904,-1⟩
def ofP (p:ProbD):Inst:=⟨p.inst.sup,p.inst.arcs ++ [backA p]⟩
def ofI (p:ProbD):Inst:=if ofE p = 0 then ofP p else ⟨[],[]⟩
theorem ofE_zero {p:ProbD}:ofE p = 0 ↔ FitP p/\p.inst.arcs.length < 256:=by
 unfold ofE
 rw [<- fitP_iff]
 by_cases h:fitP p = true
 ·rw [if_pos h]
  by_cases h2:256 <= p.inst.arcs.length
  ·rw [if_pos h2]; exact ⟨fun h=>absurd h (by decide),fun h=>by omega⟩
  ·rw [if_neg h2]; exact ⟨fun _=>⟨h,by omega⟩,fun _=>rfl⟩
 ·rw [if_neg h]; exact ⟨fun h=>absurd h (by decide),fun h2=>absurd h2.1 h⟩
theorem nodeP_iff {I:Inst} {n:Int}:z6c I n = true ↔ 0 <= n/\n < I.sup.length:=by
 unfold z6c; rw [Bool.and_eq_true,decide_eq_true_eq,decide_eq_true_eq]
theorem bareF_iff {I:Inst}:z6y I = true ↔ (∀ y ∈ I.sup,y = 0)/\∀ a ∈ I.arcs,a.low = 0/\a.cost = 0:=by
 unfold z6y zn9
 simp only [Bool.and_eq_true,List.all_eq_true,decide_eq_true_eq]
theorem right_arc' {I:Inst} (h:z04 I = 0) {a:Arc} (ha:a ∈ I.arcs):z0r a I.sup.length = 0:=by
 obtain ⟨h1,h2,h3⟩:=z1b h ha
 unfold z39 at h1
 simp only [Bool.and_eq_true,decide_eq_true_eq] at h1
 unfold z0r
 rw [if_neg (by omega),if_neg (by omega),if_neg (by omega),if_neg (by omega)]
theorem z8f {p:ProbD} (h:ofE p = 0):z04 (ofP p) = 0:=by
 obtain ⟨hf,hl⟩:=ofE_zero.1 h
 have hr:=hf.r
 have hs:=z0c hr
 have hw:=z1j hr
 have h1:=nodeP_iff.1 hf.s; have h2:=nodeP_iff.1 hf.t; have h3:=hf.d
 refine right_of hs.1 (by unfold ofP; simp; omega) (fun a ha=>?_) (fun x hx=>hw.1 x hx) hw.2
 unfold ofP at ha ⊢
 dsimp only at ha ⊢
 rcases List.mem_append.1 ha with ha | ha
 ·exact right_arc' hr ha
 ·rw [List.mem_singleton] at ha
  subst ha
  unfold z0r backA
  rw [if_neg (by dsimp only; omega),if_neg (by dsimp only; omega),if_neg (by dsimp only; omega),if_neg (by dsimp only; omega)]
theorem right_ok {I:Inst} (h:z04 I = 0):z48 I:=by
 obtain ⟨a1,a2,a3,-⟩:=right_A64 h
 have hs:=z0c h
 exact ⟨by omega,by omega,a3,a1,a2⟩
def z3r (p:ProbD) (c:Cert):Bool:=decide (ofE p = 0) && (decide (c.kind = 1) && decide (z1f (ofI p) c = 0))
structure GoodP (p:ProbD) (c:Cert):Prop where
 e:ofE p = 0
 k:c.kind = 1
 c:z1f (ofP p) c = 0
theorem goodP_iff {p:ProbD} {c:Cert}:z3r p c = true ↔ GoodP p c:=by
 unfold z3r
 simp only [Bool.and_eq_true,decide_eq_true_eq]
 constructor
 ·rintro ⟨a,b,d⟩; unfold ofI at d; rw [if_pos a] at d; exact ⟨a,b,d⟩
 ·rintro ⟨a,b,d⟩; unfold ofI; rw [if_pos a]; exact ⟨a,b,d⟩
theorem GoodP.slack {p:ProbD} {c:Cert} (h:GoodP p c):z15 (ofP p) c.flow c.pot = 0:=by
 obtain ⟨-,-,h3⟩:=z4c h.c
 have:=h.k
 rcases h3 with h3 | h3 | h3
 ·exact h3.2
 ·omega
 ·omega
theorem GoodP.len {p:ProbD} {c:Cert} (h:GoodP p c):c.flow.length = p.inst.arcs.length + 1/\c.pot.length = p.inst.sup.length:=by
 have hs:=h.slack
 have hf:=(fitsF_zero.1 (z7n hs)).2.1
 refine ⟨by rw [hf]; simp [ofP],?_⟩
 unfold z15 at hs
 rw [if_neg (fun hn=>hn (z7n (by unfold z15; exact hs)))] at hs
 split at hs
 ·cases hs
 ·rename_i hh; exact Classical.byContradiction hh
def zn4 (p:ProbD) (c:Cert):Int:=if z3r p c = true then c.flow.getD p.inst.arcs.length 0 else 0
def flowP (p:ProbD) (c:Cert):List Int:=if z3r p c = true then c.flow.take p.inst.arcs.length else []
def z9y (p:ProbD) (c:Cert):List Bool:=c.pot.map (fun y=>decide (c.pot.getD p.t.toNat 0 < y))
def z7l (p:ProbD) (c:Cert):List Bool:=if z3r p c = true then z9y p c else []
structure OnP (p:ProbD) (S:List Bool):Prop where
 e:ofE p = 0
 l:S.length = p.inst.sup.length
 s:S.getD p.s.toNat false = true
 t:S.getD p.t.toNat false = false
instance (p:ProbD) (S:List Bool):Decidable (OnP p S):=decidable_of_iff (ofE p = 0/\S.length = p.inst.sup.length/\S.getD p.s.toNat false = true/\S.getD p.t.toNat false = false) ⟨fun ⟨a,b,c,d⟩=>⟨a,b,c,d⟩,fun ⟨a,b,c,d⟩=>⟨a,b,c,d⟩⟩
def z6k (p:ProbD) (S:List Bool):Option Int:=if OnP p S then z2p p.inst S else none
theorem allT {α:Type} {p:α->Bool} {l:List α} {k:Nat} {x:α} (h:l[k]? = some x):(l.take (k + 1)).all p = ((l.take k).all p && p x):=by rw [z1c h,List.all_append]; simp
theorem allN {α:Type} {p:α->Bool} {l:List α} {k:Nat} {x:α} (h:l[k]? = some x) (hp:p x = false):l.all p = false :=
 List.all_eq_false.2 ⟨x,List.mem_of_getElem? h,by simp [hp]⟩
theorem allE {α:Type} {p:α->Bool} {l:List α} {k:Nat} (h:(l.take k).all p = true) (hk:l.length <= k):l.all p = true:=by rw [List.take_of_length_le hk] at h; exact h
theorem bare_sup {I:Inst} {k:Nat} {x:Int} (h:I.sup[k]? = some x) (hx:¬ x = 0):z6y I = false:=by
 unfold z6y; rw [allN h (decide_eq_false hx)]; rfl
theorem bare_arc {I:Inst} {k:Nat} {a:Arc} (h:I.arcs[k]? = some a) (hx:¬ (a.low = 0/\a.cost = 0)):z6y I = false:=by
 unfold z6y; rw [allN (p:=zn9) h (by unfold zn9; rw [<- Bool.decide_and]; exact decide_eq_false hx)]; exact Bool.and_false _
theorem bare_end {I:Inst} {k j:Nat} (h1:(I.sup.take k).all (fun y=>decide (y = 0)) = true) (h2:I.sup.length <= k) (h3:(I.arcs.take j).all zn9 = true) (h4:I.arcs.length <= j):z6y I = true:=by
 unfold z6y; rw [allE h1 h2,allE h3 h4]; rfl
theorem zeroA_of {a:Arc} (h1:a.low = 0) (h2:a.cost = 0):zn9 a = true:=by unfold zn9; rw [h1,h2]; rfl
theorem AllI.fit {p:ProbD} (h:AllI p 5):fitP p = true:=by
 have h4:=h.st (by decide)
 rw [Bool.and_eq_true] at h4
 exact fitP_iff.2 ⟨h.m (by decide),h.r (by decide),h.b (by decide),h4.1,h4.2,h.d (by decide)⟩
theorem fit_no {p:ProbD} (h:¬ FitP p):fitP p = false:=by
 cases e:fitP p
 ·rfl
 ·exact absurd (fitP_iff.1 e) h
theorem good_no {p:ProbD} {c:Cert} (h:¬ GoodP p c):z3r p c = false:=by
 cases e:z3r p c
 ·rfl
 ·exact absurd (goodP_iff.1 e) h
theorem weigh_no {p:ProbD} {S:List Bool} (h:¬ OnP p S):z6k p S = none:=if_neg h
theorem weigh_on {p:ProbD} {S:List Bool} (h:OnP p S):z6k p S = z2p p.inst S:=if_pos h
theorem ofI_of {p:ProbD} (h:ofE p = 0):ofI p = ofP p:=if_pos h
theorem ofI_no {p:ProbD} (h:ofE p ≠ 0):ofI p = ⟨[],[]⟩:=if_neg h
theorem room_step {m:Int} {S:List Bool} {a:Arc} {l:List Arc} {s:Int} (hr:z0r a m = 0) (h0:a.low = 0) :
  z0w m S (a :: l) s = if S.getD a.src.toNat false = true/\S.getD a.dst.toNat false = false then (if a.cap = inf then none else z0w m S l (s + a.cap)) else z0w m S l s:=by
 have h:¬ (¬ (0 <= a.src/\a.src < m) ∨ ¬ (0 <= a.dst/\a.dst < m)):=fun h=>by unfold z0r at hr; rw [if_pos h] at hr; cases hr
 have e1:isN m a.src = true:=by unfold isN; rw [Bool.and_eq_true,decide_eq_true_eq,decide_eq_true_eq]; omega
 have e2:isN m a.dst = true:=by unfold isN; rw [Bool.and_eq_true,decide_eq_true_eq,decide_eq_true_eq]; omega
 have e3:onF S a.src = S.getD a.src.toNat false:=by unfold onF; rw [decide_eq_true (by omega)]; rfl
 have e4:onF S a.dst = S.getD a.dst.toNat false:=by unfold onF; rw [decide_eq_true (by omega)]; rfl
 rw [z29]
 unfold zby inA
 rw [e1,e2,e3,e4,h0]
 cases S.getD a.src.toNat false <;> cases S.getD a.dst.toNat false <;> simp
end Go.Ql
end
section
namespace Go.Proofs.YtapeenpimcffpaaGreat
open Go Go.RowKit Go.Ql Go.Vc
abbrev node21_n:Nat:=71
def node21_g:z0b:=[]
def zl9:Vc.Spec:=z2k TT node21_g (fun _ _ _=>[]) Tryz.f71
def bare21_r (I:Inst):FRes:={ pre:=I.sup.length <= 1000000/\I.arcs.length <= 1000000,res:=.bool (z6y I),rows:=[],eff:=[] }
def zjt:FS:=fun args h=>match args,h with
 | [.agg [.row 0,.row 1]],[(0,.row false ty0 (.ints .i64 I_s)),(1,.row false ty1 (.arcs I_a))]=>some (bare21_r ⟨I_s,I_a⟩)
 | _,_=>none
def zjs (I:Inst):List (Nat × Ann):=[(2,{ G:=(Nat),inv:=fun k=>⟨[(1,.ptr 2 0 0 0),(8,.row 0),(9,.int .i64 (↑I.sup.length:Int)),(10,.int .i64 k)],[(2,.box true 25 [.row 0,.row 1]),(0,.row false 0 (.ints .i64 I.sup)),(1,.row false 0 (.arcs I.arcs))],3⟩,rel:=fun k0 k=>k <= I.sup.length/\(I.sup.take k).all (fun y=>decide (y = 0)) = true,meas:=fun k=>I.sup.length - k }),
 (8,{ G:=(Nat),inv:=fun k=>⟨[(18,.row 1),(19,.int .i64 (↑I.arcs.length:Int)),(20,.int .i64 k)],[(1,.row false 0 (.arcs I.arcs))],3⟩,rel:=fun k0 k=>k <= I.arcs.length/\(I.arcs.take k).all zn9 = true,meas:=fun k=>I.arcs.length - k })]
def bare21_A:List SV->z0d->List (Nat × Ann):=fun args h=>match args,h with
 | [.agg [.row 0,.row 1]],[(0,.row false ty0 (.ints .i64 I_s)),(1,.row false ty1 (.arcs I_a))]=>zjs ⟨I_s,I_a⟩
 | _,_=>[]
def bare21_g:z0b:=[]
abbrev bare21_n:Nat:=69
def bare21_I (I:Inst):List (Nat × z08):=[]
def bare21_IA:List SV->z0d->List (Nat × z08):=fun _ _=>[]
def fit1_r (p:ProbD):FRes:={ pre:=True,res:=.bool (p.most),rows:=[],eff:=[] }
def fit1_fs:FS:=fun args h=>match args,h with
 | [.ptr 0 0 0 0],[(0,.box false 27 [.bool p_m,.row 1,.row 2,.int .i64 p_S,.int .i64 p_T]),(1,.row false ty1 (.ints .i64 p_s)),(2,.row false ty2 (.arcs p_a))]=>some (fit1_r ⟨p_m,⟨p_s,p_a⟩,p_S,p_T⟩)
 | _,_=>none
def fit1_an (p:ProbD):List (Nat × Ann):=[]
def fit1_A:List SV->z0d->List (Nat × Ann):=fun _ _=>[]
def fit1_g:z0b:=[]
abbrev fit1_n:Nat:=66
def fit1_I (p:ProbD):List (Nat × z08):=[]
def fit1_IA:List SV->z0d->List (Nat × z08):=fun _ _=>[]
def fit2_r (p:ProbD):FRes:={ pre:=True,res:=.bool (decide (z04 p.inst = 0)),rows:=[],eff:=[] }
def fit2_fs:FS:=fun args h=>match args,h with
 | [.ptr 0 0 0 0],[(0,.box false 27 [.bool p_m,.row 1,.row 2,.int .i64 p_S,.int .i64 p_T]),(1,.row false ty1 (.ints .i64 p_s)),(2,.row false ty2 (.arcs p_a))]=>some (fit2_r ⟨p_m,⟨p_s,p_a⟩,p_S,p_T⟩)
 | _,_=>none
def fit2_an (p:ProbD):List (Nat × Ann):=[]
def fit2_A:List SV->z0d->List (Nat × Ann):=fun _ _=>[]
def fit2_g:z0b:=[(zbj,(true,z02 true z6o))]
abbrev fit2_n:Nat:=67
def fit2_I (p:ProbD):List (Nat × z08):=[]
def fit2_IA:List SV->z0d->List (Nat × z08):=fun _ _=>[]
def fit3_r (p:ProbD):FRes:={ pre:=p.inst.sup.length <= 1000000/\p.inst.arcs.length <= 1000000,res:=.bool (z6y p.inst),rows:=[],eff:=[] }
def fit3_fs:FS:=fun args h=>match args,h with
 | [.ptr 0 0 0 0],[(0,.box false 27 [.bool p_m,.row 1,.row 2,.int .i64 p_S,.int .i64 p_T]),(1,.row false ty1 (.ints .i64 p_s)),(2,.row false ty2 (.arcs p_a))]=>some (fit3_r ⟨p_m,⟨p_s,p_a⟩,p_S,p_T⟩)
 | _,_=>none
def fit3_an (p:ProbD):List (Nat × Ann):=[]
def fit3_A:List SV->z0d->List (Nat × Ann):=fun _ _=>[]
def fit3_g:z0b:=[(bare21_n,(true,z02 true zjt))]
abbrev fit3_n:Nat:=68
def fit3_I (p:ProbD):List (Nat × z08):=[]
def fit3_IA:List SV->z0d->List (Nat × z08):=fun _ _=>[]
def fit4_r (p:ProbD):FRes:={ pre:=True,res:=.bool (z6c p.inst p.s && z6c p.inst p.t),rows:=[],eff:=[] }
def fit4_fs:FS:=fun args h=>match args,h with
 | [.ptr 0 0 0 0],[(0,.box false 27 [.bool p_m,.row 1,.row 2,.int .i64 p_S,.int .i64 p_T]),(1,.row false ty1 (.ints .i64 p_s)),(2,.row false ty2 (.arcs p_a))]=>some (fit4_r ⟨p_m,⟨p_s,p_a⟩,p_S,p_T⟩)
 | _,_=>none
def fit4_an (p:ProbD):List (Nat × Ann):=[]
def fit4_A:List SV->z0d->List (Nat × Ann):=fun _ _=>[]
def fit4_g:z0b:=[(node21_n,(false,zl9))]
abbrev fit4_n:Nat:=70
def fit4_I (p:ProbD):List (Nat × z08):=[]
def fit4_IA:List SV->z0d->List (Nat × z08):=fun _ _=>[]
def fit5_r (p:ProbD):FRes:={ pre:=True,res:=.bool (!decide (p.s = p.t)),rows:=[],eff:=[] }
def fit5_fs:FS:=fun args h=>match args,h with
 | [.ptr 0 0 0 0],[(0,.box false 27 [.bool p_m,.row 1,.row 2,.int .i64 p_S,.int .i64 p_T]),(1,.row false ty1 (.ints .i64 p_s)),(2,.row false ty2 (.arcs p_a))]=>some (fit5_r ⟨p_m,⟨p_s,p_a⟩,p_S,p_T⟩)
 | _,_=>none
def fit5_an (p:ProbD):List (Nat × Ann):=[]
def fit5_A:List SV->z0d->List (Nat × Ann):=fun _ _=>[]
def fit5_g:z0b:=[]
abbrev fit5_n:Nat:=72
def fit5_I (p:ProbD):List (Nat × z08):=[]
def fit5_IA:List SV->z0d->List (Nat × z08):=fun _ _=>[]
abbrev all21_n:Nat:=65
def all21_g:z0b:=[(fit1_n,(true,z02 true fit1_fs)),(fit2_n,(true,z02 true fit2_fs)),(fit3_n,(true,z02 true fit3_fs)),(fit4_n,(true,z02 true fit4_fs)),(fit5_n,(true,z02 true fit5_fs))]
def all21_spec:Vc.Spec:=z2k TT all21_g (fun args hp nk=>match args with | [.row v]=>(match lk v hp with | some (.vec _ (.fn _ [.ptr b 0 0 0] :: _))=>(match lk b hp with | some (.box _ _ [.bool m,.row r0,.row r1,.int _ S,.int _ T])=>(match lk r0 hp,lk r1 hp with | some (.row _ _ (.ints .i64 s)),some (.row _ _ (.arcs a))=>[(2,{ G:=Nat,inv:=fun k=>⟨[(5,.row v),(6,.int .i64 5),(7,.int .i64 k)],hp,nk⟩,rel:=fun _ k=>AllI ⟨m,⟨s,a⟩,S,T⟩ k,meas:=fun k=>5 - k })] | _,_=>[]) | _=>[]) | _=>[]) | _=>[]) Tryz.f65
def fit21_r (p:ProbD):FRes:={ pre:=True,res:=.bool (fitP p),rows:=[],eff:=[] }
def fit21_fs:FS:=fun args h=>match args,h with
 | [.agg [.bool p_m,.row 0,.row 1,.int .i64 p_S,.int .i64 p_T]],[(0,.row false ty0 (.ints .i64 p_s)),(1,.row false ty1 (.arcs p_a))]=>some (fit21_r ⟨p_m,⟨p_s,p_a⟩,p_S,p_T⟩)
 | _,_=>none
def fit21_an (p:ProbD):List (Nat × Ann):=[]
def fit21_A:List SV->z0d->List (Nat × Ann):=fun _ _=>[]
def fit21_g:z0b:=[(all21_n,(false,all21_spec))]
abbrev fit21_n:Nat:=41
def fit21_I (p:ProbD):List (Nat × z08):=[]
def fit21_IA:List SV->z0d->List (Nat × z08):=fun _ _=>[]
def Of21_r (p:ProbD):FRes:={ pre:=True,res:=.tup [.agg [.row 2,.row 3],.int .u16 (ofE p)],rows:=[.row 2 (.ints .i64 (ofI p).sup),.row 65 (.arcs (ofI p).arcs)],eff:=[] }
def zee:FS:=fun args h=>match args,h with
 | [.agg [.bool p_m,.row 0,.row 1,.int .i64 p_S,.int .i64 p_T]],[(0,.row false ty0 (.ints .i64 p_s)),(1,.row false ty1 (.arcs p_a))]=>some (Of21_r ⟨p_m,⟨p_s,p_a⟩,p_S,p_T⟩)
 | _,_=>none
def Of21_an (p:ProbD):List (Nat × Ann):=[]
def Of21_A:List SV->z0d->List (Nat × Ann):=fun _ _=>[]
def Of21_g:z0b:=[(fit21_n,(true,z02 true fit21_fs)),(Copy_n,(true,z02 true Copy_fs))]
abbrev Of21_n:Nat:=19
def Of21_I (p:ProbD):List (Nat × z08):=[]
def Of21_IA:List SV->z0d->List (Nat × z08):=fun _ _=>[]
abbrev val1_n:Nat:=51
def val1_g:z0b:=[]
def val1_spec:Vc.Spec:=z2k TT val1_g (fun _ _ _=>[]) Tryz.f51
abbrev toldV_n:Nat:=50
def toldV_g:z0b:=[(Of21_n,(true,z02 true zee)),(Check_n,(true,z02 true zhe)),(val1_n,(false,val1_spec))]
def toldV_spec:Vc.Spec:=z2k TT toldV_g (fun _ _ _=>[]) Tryz.f50
def zix (p:ProbD) (c:Cert):FRes:={ pre:=z1e c,res:=.tup [.int .i64 (zn4 p c),.bool (z3r p c)],rows:=[],eff:=[] }
def zaa:FS:=fun args h=>match args,h with
 | [.agg [.bool p_m,.row 0,.row 1,.int .i64 p_S,.int .i64 p_T],.agg [.int .i64 c_k,.row 2,.row 3,.row 4,.row 5]],[(0,.row false ty0 (.ints .i64 p_s)),(1,.row false ty1 (.arcs p_a)),(2,.row false ty2 (.ints .i64 c_f)),(3,.row false ty3 (.ints .i64 c_p)),(4,.row false ty4 (.bools c_s)),(5,.row false ty5 (.ints .i64 c_y))]=>some (zix ⟨p_m,⟨p_s,p_a⟩,p_S,p_T⟩ ⟨c_k,c_f,c_p,c_s,c_y⟩)
 | _,_=>none
def Value21_an (p:ProbD) (c:Cert):List (Nat × Ann):=[]
def Value21_A:List SV->z0d->List (Nat × Ann):=fun _ _=>[]
def ziv:z0b:=[(toldV_n,(false,toldV_spec))]
abbrev ziw:Nat:=22
def Value21_I (p:ProbD) (c:Cert):List (Nat × z08):=[]
def Value21_IA:List SV->z0d->List (Nat × z08):=fun _ _=>[]
def side1_r (c:Cert) (p:ProbD):FRes:={ pre:=0 <= p.t/\p.t < c.pot.length/\c.pot.length <= 1000000,res:=.row 8,rows:=[.row 4 (.bools (z9y p c))],eff:=[] }
def side1_fs:FS:=fun args h=>match args,h with
 | [.ptr 0 0 0 0,.ptr 5 0 0 0],[(0,.box false 31 [.int .i64 c_k,.row 1,.row 2,.row 3,.row 4]),(1,.row false ty1 (.ints .i64 c_f)),(2,.row false ty2 (.ints .i64 c_p)),(3,.row false ty3 (.bools c_s)),(4,.row false ty4 (.ints .i64 c_y)),(5,.box false 27 [.bool p_m,.row 6,.row 7,.int .i64 p_S,.int .i64 p_T]),(6,.row false ty6 (.ints .i64 p_s)),(7,.row false ty7 (.arcs p_a))]=>some (side1_r ⟨c_k,c_f,c_p,c_s,c_y⟩ ⟨p_m,⟨p_s,p_a⟩,p_S,p_T⟩)
 | _,_=>none
def side1_an (c:Cert) (p:ProbD):List (Nat × Ann):=[(3,{ G:=(Nat),inv:=fun k=>⟨[(0,.ptr 0 0 0 0),(1,.ptr 5 0 0 0),(3,.row 9),(11,.row 2),(12,.int .i64 (↑c.pot.length:Int)),(13,.int .i64 k)],[(9,.row true 4 (.bools ((List.range c.pot.length).map fun v=>decide (v < k) && decide (c.pot.getD p.t.toNat 0 < c.pot.getD v 0)))),(0,.box false 31 [.int .i64 c.kind,.row 1,.row 2,.row 3,.row 4]),(1,.row false 0 (.ints .i64 c.flow)),(2,.row false 0 (.ints .i64 c.pot)),(3,.row false 0 (.bools c.side)),(4,.row false 0 (.ints .i64 c.cycle)),(5,.box false 27 [.bool p.most,.row 6,.row 7,.int .i64 p.s,.int .i64 p.t]),(6,.row false 0 (.ints .i64 p.inst.sup)),(7,.row false 0 (.arcs p.inst.arcs))],10⟩,rel:=fun k0 k=>k <= c.pot.length,meas:=fun k=>c.pot.length - k })]
def side1_A:List SV->z0d->List (Nat × Ann):=fun args h=>match args,h with
 | [.ptr 0 0 0 0,.ptr 5 0 0 0],[(0,.box false 31 [.int .i64 c_k,.row 1,.row 2,.row 3,.row 4]),(1,.row false ty1 (.ints .i64 c_f)),(2,.row false ty2 (.ints .i64 c_p)),(3,.row false ty3 (.bools c_s)),(4,.row false ty4 (.ints .i64 c_y)),(5,.box false 27 [.bool p_m,.row 6,.row 7,.int .i64 p_S,.int .i64 p_T]),(6,.row false ty6 (.ints .i64 p_s)),(7,.row false ty7 (.arcs p_a))]=>side1_an ⟨c_k,c_f,c_p,c_s,c_y⟩ ⟨p_m,⟨p_s,p_a⟩,p_S,p_T⟩
 | _,_=>[]
def side1_g:z0b:=[]
abbrev side1_n:Nat:=53
def side1_I (c:Cert) (p:ProbD):List (Nat × z08):=[]
def side1_IA:List SV->z0d->List (Nat × z08):=fun _ _=>[]
abbrev toldS_n:Nat:=52
def toldS_g:z0b:=[(Of21_n,(true,z02 true zee)),(Check_n,(true,z02 true zhe)),(side1_n,(true,z02 true side1_fs))]
def toldS_spec:Vc.Spec:=z2k TT toldS_g (fun _ _ _=>[]) Tryz.f52
def Side21_r (p:ProbD) (c:Cert):FRes:={ pre:=z1e c,res:=.tup [.row 6,.bool (z3r p c)],rows:=[.row 4 (.bools (z7l p c))],eff:=[] }
def ziu:FS:=fun args h=>match args,h with
 | [.agg [.bool p_m,.row 0,.row 1,.int .i64 p_S,.int .i64 p_T],.agg [.int .i64 c_k,.row 2,.row 3,.row 4,.row 5]],[(0,.row false ty0 (.ints .i64 p_s)),(1,.row false ty1 (.arcs p_a)),(2,.row false ty2 (.ints .i64 c_f)),(3,.row false ty3 (.ints .i64 c_p)),(4,.row false ty4 (.bools c_s)),(5,.row false ty5 (.ints .i64 c_y))]=>some (Side21_r ⟨p_m,⟨p_s,p_a⟩,p_S,p_T⟩ ⟨c_k,c_f,c_p,c_s,c_y⟩)
 | _,_=>none
def Side21_an (p:ProbD) (c:Cert):List (Nat × Ann):=[]
def Side21_A:List SV->z0d->List (Nat × Ann):=fun _ _=>[]
def Side21_g:z0b:=[(toldS_n,(false,toldS_spec))]
abbrev Side21_n:Nat:=23
def Side21_I (p:ProbD) (c:Cert):List (Nat × z08):=[]
def Side21_IA:List SV->z0d->List (Nat × z08):=fun _ _=>[]
def zen (p:ProbD) (S:List Bool):FRes:={ pre:=S.length <= 1000000,res:=.tup [.agg (z1m (z8j (z6k p S))),.bool ((z6k p S).isSome)],rows:=[],eff:=[] }
def zbn:FS:=fun args h=>match args,h with
 | [.agg [.bool p_m,.row 0,.row 1,.int .i64 p_S,.int .i64 p_T],.row 2],[(0,.row false ty0 (.ints .i64 p_s)),(1,.row false ty1 (.arcs p_a)),(2,.row false ty2 (.bools S))]=>some (zen ⟨p_m,⟨p_s,p_a⟩,p_S,p_T⟩ S)
 | _,_=>none
def zbm (p:ProbD) (S:List Bool):List (Nat × Ann):=[(8,{ G:=(Nat) × (Int),inv:=fun ⟨k,s⟩=>⟨[(1,.row 2),(4,.ptr 4 0 0 0),(8,.ptr 10 0 0 0),(45,.row 1),(46,.int .i64 (↑p.inst.arcs.length:Int)),(47,.int .i64 k)],[(10,.box true 54 (z1m (W s))),(4,.box true 54 [.int .i64 (0:Int),.int .u64 (0:Int)]),(1,.row false 0 (.arcs p.inst.arcs)),(2,.row false 0 (.bools S))],11⟩,rel:=fun ⟨k0,s0⟩ ⟨k,s⟩=>k <= p.inst.arcs.length/\z0w p.inst.sup.length S (p.inst.arcs.drop k) s = z2p p.inst S,meas:=fun ⟨k,s⟩=>p.inst.arcs.length - k })]
def Weight21_A:List SV->z0d->List (Nat × Ann):=fun args h=>match args,h with
 | [.agg [.bool p_m,.row 0,.row 1,.int .i64 p_S,.int .i64 p_T],.row 2],[(0,.row false ty0 (.ints .i64 p_s)),(1,.row false ty1 (.arcs p_a)),(2,.row false ty2 (.bools S))]=>zbm ⟨p_m,⟨p_s,p_a⟩,p_S,p_T⟩ S
 | _,_=>[]
def zem:z0b:=[(Of21_n,(true,z02 true zee)),(Of_n,(true,z02 true zef)),(zim,(true,z02 true z92))]
abbrev Weight21_n:Nat:=21
def Weight21_I (p:ProbD) (S:List Bool):List (Nat × z08):=[]
def Weight21_IA:List SV->z0d->List (Nat × z08):=fun _ _=>[]
end Go.Proofs.YtapeenpimcffpaaGreat
end
