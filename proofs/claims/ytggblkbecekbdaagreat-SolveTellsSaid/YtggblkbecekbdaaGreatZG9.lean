/- Part of the proof: Solve13, Solve14, Solve15, Solve16, Solve19, Solve22, VcR, DE20, FE20, DN1, FN1, DRf. -/
import Derived.Test.YtggblkbecekbdaaGreatZG8
import Derived.Test.YtggblkbecekbdaaGreatZG5
import Derived.Test.YtggblkbecekbdaaGreatZG6
import Derived.Laws.Externs
set_option linter.all false
set_option linter.unusedSimpArgs false
set_option linter.unusedVariables false
set_option maxRecDepth 1000000
section
namespace Go.Ql
open Go Go.Vc
theorem YB.a64 {x:List Int} (h:YB x):A64 x:=fun y hy=>by have:=h y hy; unfold I64; omega
theorem zgl {I:Inst} {x p:List Int} (h:z1l I x p=0):z1w I x=0:=by
 unfold z1l at h
 split at h
 ·rename_i hn; exact absurd h hn
 ·rename_i hn; exact Classical.byContradiction hn
theorem solve_ok {I:Inst} {c:Cert} {e:Int} (hr:z02 I=0) (h:SolveP I c e):z69 c/\z28 I c=0/\c.flow.length <= 256/\c.pot.length <= 64/\c.side.length <= 64/\c.cycle.length <= 256:=by
 obtain ⟨-,h1,h2,h3,-⟩:=h.ok hr
 have hs:=z0e hr
 have hl:c.flow.length <= 256/\c.pot.length <= 64/\c.side.length <= 64/\c.cycle.length <= 256:=by
  obtain ⟨-,hp,hk⟩:=z59 h1
  unfold z3o at hp
  rcases hk with ⟨k,h4⟩ | ⟨k,h4⟩ | ⟨k,h4,h5⟩
  ·have hf:=(fitsF_zero.1 (zgl h4)).2.1
   have hpl:c.pot.length=I.sup.length:=by
    unfold z1l at h4
    rw [if_neg (fun hn=>hn (zgl (by unfold z1l; exact h4)))] at h4
    split at h4
    ·cases h4
    ·rename_i hh; exact Classical.byContradiction hh
   rw [if_pos k,Bool.and_eq_true,decide_eq_true_eq,decide_eq_true_eq] at hp
   omega
  ·rw [if_neg (by omega),if_pos k,Bool.and_eq_true,Bool.and_eq_true,decide_eq_true_eq,decide_eq_true_eq,decide_eq_true_eq] at hp
   have:c.side.length=I.sup.length:=by
    unfold z32 at h4
    rw [if_neg (fun hn=>hn hr)] at h4
    split at h4
    ·cases h4
    ·rename_i hh; exact Classical.byContradiction hh
   omega
  ·rw [if_neg (by omega),if_neg (by omega),if_pos k,Bool.and_eq_true,decide_eq_true_eq,decide_eq_true_eq] at hp
   have hf:=(fitsF_zero.1 h4).2.1
   have:c.cycle.length <= I.arcs.length:=by
    unfold z3e at h5
    rw [if_neg (fun hn=>hn hr)] at h5
    split at h5
    ·cases h5
    ·omega
   omega
 exact ⟨⟨h2.a64,h3.a64,by omega,by omega,by omega,by omega⟩,h1,hl⟩
structure ValueP (I:Inst) (w:Wide) (k:Int):Prop where
 ex:∃ c,z69 c/\z28 I c=0/\c.kind=k/\w=z5r I c
 yb:∃ c,z69 c/\z28 I c=0/\YB c.flow/\YB c.pot/\∀ C:Int,0 <= C->(∀ s,okS I s->-C <= csS I s/\csS I s <= C)->∀ k,-(C * 32768) <= c.pot.getD k 0/\c.pot.getD k 0 <= C * 32768
theorem ValueP.one {I:Inst} {w:Wide} {k:Int} (h:ValueP I w k) {c:Cert} (hc:z69 c) (h1:z28 I c=0):k=c.kind/\w=z5r I c:=by
 obtain ⟨d,q1,q2,rfl,rfl⟩:=h.ex
 exact cert_one q1 hc q2 h1
theorem ValueP.pos {I:Inst} {w:Wide} {k:Int} (h:ValueP I w k):z02 I=0/\(k=1 ∨ k=2 ∨ k=3):=by
 obtain ⟨d,q1,q2,rfl,rfl⟩:=h.ex
 obtain ⟨hr,hp,-⟩:=z59 q2
 exact ⟨hr,zl6 hp⟩
def FeasQ (I:Inst):Prop:=∃ x,A64 x/\z1w I x=0
def NegQ (I:Inst):Prop:=∃ l,z3e I l=0/\l.length <= 140737488351232
theorem ValueP.cut {I:Inst} {w:Wide} {k:Int} (h:ValueP I w k) (hk:k=2):¬ FeasQ I:=fun ⟨x,hx,hf⟩=>by
 obtain ⟨d,q1,q2,rfl,-⟩:=h.ex
 obtain ⟨hr,-,q3⟩:=z59 q2
 have hs:=z0e hr
 rcases q3 with ⟨a,-⟩ | ⟨-,a⟩ | ⟨a,-⟩
 ·omega
 ·exact z8l (by omega) (by omega) hx (z1n hr).1 a hf
 ·omega
theorem ValueP.feas {I:Inst} {w:Wide} {k:Int} (h:ValueP I w k) (hk:k ≠ 2):FeasQ I:=by
 obtain ⟨d,q1,q2,rfl,-⟩:=h.ex
 obtain ⟨hr,-,q3⟩:=z59 q2
 rcases q3 with ⟨-,a⟩ | ⟨a,-⟩ | ⟨-,a,-⟩
 ·exact ⟨_,q1.1,zgl a⟩
 ·omega
 ·exact ⟨_,q1.1,a⟩
theorem ValueP.cut_iff {I:Inst} {w:Wide} {k:Int} (h:ValueP I w k):k=2 ↔ ¬ FeasQ I:=⟨h.cut,fun h2=>Classical.byContradiction fun h3=>h2 (h.feas h3)⟩
theorem ValueP.neg {I:Inst} {w:Wide} {k:Int} (h:ValueP I w k) (hk:k ≠ 2):k=3 ↔ NegQ I:=by
 refine ⟨fun h3=>?_,fun ⟨l,hl,hll⟩=>?_⟩
 ·obtain ⟨d,q1,q2,rfl,-⟩:=h.ex
  obtain ⟨hr,-,q3⟩:=z59 q2
  rcases q3 with ⟨a,-⟩ | ⟨a,-⟩ | ⟨-,-,a⟩
  ·omega
  ·omega
  ·exact ⟨_,a,q1.2.2.2.2.2⟩
 ·obtain ⟨x,hx,hf⟩:=h.feas hk
  have hlen:=(fitsF_zero.1 hf).2.1
  have hr:=(fitsF_zero.1 hf).1
  have hs:=z0e hr
  have hc:z28 I ⟨3,x,[],[],l⟩=0:=by
   unfold z28 z3o
   simp [hr,hf,hl]
  exact (h.one (c:=⟨3,x,[],[],l⟩) ⟨hx,YB.nil.a64,by dsimp only; omega,by simp,by simp,hll⟩ hc).1
def turnS (s:List Int) (k:Int):List Int:=addAt (addAt s (k % (s.length:Int)).toNat (k % 5)) (k / 5 % (s.length:Int)).toNat (-(k % 5))
def z3q (p d:List Int) (k:Int):Inst:=⟨turnS (z09 p d).sup k,(z09 p d).arcs⟩
theorem turnS_len (s:List Int) (k:Int):(turnS s k).length=s.length:=by unfold turnS; rw [z14,z14]
theorem turnS_sum {s:List Int} (k:Int) (h:1 <= s.length):(turnS s k).sum=s.sum:=by
 have h1:∀ x:Int,(x % (s.length:Int)).toNat<s.length:=fun x=>by
  have:=Int.emod_nonneg x (b:=(s.length:Int)) (by omega)
  have:=Int.emod_lt_of_pos x (b:=(s.length:Int)) (by omega)
  omega
 unfold turnS
 rw [z26 _ _ _ (by rw [z14]; exact h1 _),z26 _ _ _ (h1 _)]
 omega
theorem turnS_within {s:List Int} {b k:Int} (h:Within b s) (hb:0 <= b):Within (b+8) (turnS s k):=by
 have h1:=h.addAt hb (k % (s.length:Int)).toNat (x:=k % 5) (y:=4) (by omega) (by omega)
 have h2:=h1.addAt (by omega) (k / 5 % (s.length:Int)).toNat (x:=-(k % 5)) (y:=4) (by omega) (by omega)
 unfold turnS
 exact h2.more (by omega)
structure ArcFew (n:Int) (a:Arc):Prop where
 s0:0 <= a.src
 s1:a.src<n
 d0:0 <= a.dst
 d1:a.dst<n
 l0:0 <= a.low
 l1:a.low <= 500
 c:a.cap=inf ∨ a.low <= a.cap/\a.cap <= 2000
 k0:-2000 <= a.cost
 k1:a.cost <= 2000
structure FewI (I:Inst):Prop where
 n1:1 <= I.sup.length
 n2:I.sup.length <= 30
 m:I.arcs.length <= 64
 arc:∀ a ∈ I.arcs,ArcFew I.sup.length a
 sup:Within 100000 I.sup
 sum:I.sup.sum=0
theorem Nice_few {n:Int} {a:Arc} (h:a.Nice n):ArcFew n a:=by
 have h1:=h.l1; have h2:=h.c0; have h3:=h.c1; have h4:=h.k0; have h5:=h.k1
 exact ⟨h.s0,h.s1,h.d0,h.d1,h.l0,by omega,h3.elim (fun h=>.inr ⟨h2,by omega⟩) .inl,by omega,by omega⟩
theorem small_few (p d:List Int) (k:Int):FewI (z3q p d k)/\(z3q p d k).sup.length=nOf d/\(z3q p d k).arcs.length <= 18/\nOf d <= 7/\1 <= nOf d/\Within 200 (z3q p d k).sup/\∀ a ∈ (z3q p d k).arcs,a.Nice (nOf d):=by
 have l1:=z7k p d
 have l2:=z9l d
 have l3:=zku d
 have l4:=z65 p d
 have hl:(z3q p d k).sup.length=nOf d:=by unfold z3q; dsimp only; rw [turnS_len,l1]
 have hw:=turnS_within (k:=k) (z4i p d) (by omega)
 exact ⟨⟨by omega,by omega,by unfold z3q; dsimp only; omega,fun a ha=>by rw [hl]; exact Nice_few (z5a p d a ha),hw.more (by omega),by unfold z3q; dsimp only; rw [turnS_sum k (by omega)]; exact zdg p d⟩,hl,l4,l3,l2,hw.more (by omega),z5a p d⟩
theorem FewI.right {I:Inst} (h:FewI I):z02 I=0:=by
 have:=h.n2; have:=h.m
 refine zi8 (by omega) (by omega) (fun a ha=>?_) (fun x hx=>by have:=h.sup x hx; omega) h.sum
 have h:=h.arc a ha
 have hi:inf=4611686018427387904:=rfl
 have:=h.s0; have:=h.s1; have:=h.d0; have:=h.d1; have:=h.l0; have:=h.l1; have:=h.c; have:=h.k0; have:=h.k1
 unfold z0f
 rw [if_neg (by omega),if_neg (by omega),if_neg (by omega),if_neg (by omega)]
theorem FewI.small {I:Inst} (h:FewI I):SmallI I:=by
 refine ⟨fun y hy=>by have:=h.sup y hy; omega,fun a ha=>?_⟩
 have h1:=(h.arc a ha).l1; have h2:=(h.arc a ha).c
 exact ⟨by omega,h2.elim .inl (fun h=>.inr (by omega))⟩
theorem ValueP.none {I:Inst} {w:Wide} {k:Int} (h:ValueP I w k) (hk:k ≠ 1):w=⟨0,0⟩:=by
 obtain ⟨d,q1,q2,rfl,rfl⟩:=h.ex
 unfold z5r; rw [if_neg hk]
theorem value_of {I:Inst} {c:Cert} {e:Int} (hr:z02 I=0) (h:SolveP I c e):ValueP I (z5r I c) c.kind:=by
 obtain ⟨q1,q2,-⟩:=solve_ok hr h
 obtain ⟨-,-,q3,q4,q5⟩:=h.ok hr
 exact ⟨⟨c,q1,q2,rfl,rfl⟩,⟨c,q1,q2,q3,q4,q5⟩⟩
theorem inst_ok {I:Inst} (h:z02 I=0):zgy I:=by
 obtain ⟨a1,a2,a3,a4⟩:=right_A64 h
 have:=z0e h
 exact ⟨by omega,by omega,a3,a1,a2⟩
end Go.Ql
end
section
namespace Go.Ql
open Go Go.Vc
theorem turns_char {I:Inst} {l:List Int}:z3e I l=0 ↔ z02 I=0/\1 <= l.length/\l.length <= I.arcs.length/\(∀ a ∈ l,0 <= a/\a<I.arcs.length)/\l.Nodup/\(∀ k,k<l.length->(z4y I (l.getD k 0)).dst=(z4y I (l.getD ((k+1) % l.length) 0)).src)/\(∀ a ∈ l,(z4y I a).cap=inf)/\rayS I l<0:=by
 have hc5:z02 I=0->l.length <= I.arcs.length->(c5F I l=true ↔ rayS I l<0):=fun hr hl=>by
  have hs:=z0e hr
  have e2:=rayK_bd hr l l.length
  unfold c5F
  rw [decide_eq_true_eq]
  unfold rayS at *
  rw [zbk (by unfold zcx; omega) (by unfold zcx; omega)]
  by_cases h:z79 I l l.length<0
  ·rw [if_pos h]; simp [h]
  ·rw [if_neg h]; split <;> simp [h]
 unfold z3e
 constructor
 ·intro h
  split at h
  ·rename_i hn; exact absurd h hn
  ·rename_i hr
   have hr:=Classical.byContradiction hr
   split at h
   ·cases h
   ·rename_i hl
    split at h
    ·rename_i hc
     simp only [Bool.and_eq_true] at hc
     obtain ⟨⟨⟨⟨c1,c2⟩,c3⟩,c4⟩,c5⟩:=hc
     refine ⟨hr,by omega,by omega,fun a ha=>isArcF_iff.1 (List.all_eq_true.1 c1 a ha),of_decide_eq_true c2,fun k hk=>of_decide_eq_true (List.all_eq_true.1 c3 k (List.mem_range.2 hk)),fun a ha=>of_decide_eq_true (List.all_eq_true.1 c4 a ha),(hc5 hr (by omega)).1 c5⟩
    ·cases h
 ·rintro ⟨hr,h1,h2,c1,c2,c3,c4,c5⟩
  have e1:c1F I l=true:=List.all_eq_true.2 fun a ha=>isArcF_iff.2 (c1 a ha)
  have e2:c2F l=true:=decide_eq_true c2
  have e3:c3F I l=true:=List.all_eq_true.2 fun k hk=>decide_eq_true (c3 k (List.mem_range.1 hk))
  have e4:c4F I l=true:=List.all_eq_true.2 fun a ha=>decide_eq_true (c4 a ha)
  rw [if_neg (fun h=>h hr),if_neg (by omega),e1,e2,e3,e4,(hc5 hr h2).2 c5]
  rfl
section
variable {α:Type} (f:α->α) (s:List α)
variable {f s}
end
def swapA (a:Arc):Arc:=⟨a.dst,a.src,a.low,a.cap,a.cost⟩
end Go.Ql
end
section
namespace Go.Ql
open Go Go.Vc
theorem pot_turns {I:Inst} {π:Nat->Int} (hp:z90 I (endS I) π) {l:List Int}:z3e I l ≠ 0:=fun h=>by
 obtain ⟨hr,h1,h2,c1,c2,c3,c4,c5⟩:=turns_char.1 h
 have hm:∀ k,k<l.length->l.getD k 0 ∈ l:=fun k hk=>by rw [List.getD_eq_getElem?_getD,List.getElem?_eq_getElem hk]; exact List.getElem_mem _
 have hk:∀ t,t <= l.length->z1h (fun k=>π (z4y I (l.getD ((k+1) % l.length) 0)).src.toNat - π (z4y I (l.getD k 0)).src.toNat) t <= z79 I l t:=fun t=>by
  induction t with
  | zero=>intro _; simp [z79,z1h]
  | succ t ih =>
   intro ht
   have hmt:=hm t (by omega)
   obtain ⟨q1,q2⟩:=c1 _ hmt
   have e1:z5y I (l.getD t 0)=true:=isArcF_iff.2 ⟨q1,q2⟩
   have hcap:=c4 _ hmt
   have hs:okS I ((l.getD t 0).toNat,false):=by unfold okS; dsimp only; omega
   have:=hp ((l.getD t 0).toNat,false) hs (by unfold endS; simp; exact hcap)
   have e2:toS I ((l.getD t 0).toNat,false)=(z4y I (l.getD t 0)).dst.toNat:=rfl
   have e3:frS I ((l.getD t 0).toNat,false)=(z4y I (l.getD t 0)).src.toNat:=rfl
   have e4:csS I ((l.getD t 0).toNat,false)=(z4y I (l.getD t 0)).cost:=rfl
   rw [e2,e3,e4] at this
   have ih:=ih (by omega)
   rw [z79,z1h,<- c3 t (by omega)]
   unfold rayD
   rw [if_pos e1]
   omega
 have:=hk _ (Nat.le_refl _)
 rw [zgg (fun k=>π (z4y I (l.getD k 0)).src.toNat) l.length (Nat.le_refl _) (by omega),Nat.mod_self] at this
 unfold rayS at c5
 omega
structure KindQ (I:Inst) (k e:Int):Prop where
 bad:z02 I ≠ 0->e=z02 I/\k=0
 ok:z02 I=0->e=0/\(k=2/\¬ FeasQ I ∨ k=3/\FeasQ I/\NegQ I ∨ k=1/\FeasQ I/\¬ NegQ I)
theorem kind_bad {I:Inst} (hr:z02 I ≠ 0):KindQ I 0 (z02 I):=⟨fun _=>⟨rfl,rfl⟩,fun h=>absurd h hr⟩
theorem fill_feas {I:Inst} {x o:List Int} {m:List Bool} (h:FillP I x o m false):FeasQ I:=⟨x,fits_len h,(h.no rfl).2⟩
theorem kind_cut {I:Inst} (hr:z02 I=0) {x o:List Int} {m:List Bool} (h:FillP I x o m true):KindQ I 2 0 :=
 ⟨fun h2=>absurd hr h2,fun _=>⟨rfl,.inl ⟨rfl,fun ⟨y,hy,hf⟩=>by
  have hs:=z0e hr
  exact z8l (by omega) (by omega) hy (z1n hr).1 (h.yes rfl) hf⟩⟩⟩
theorem kind_ray {I:Inst} (hr:z02 I=0) {x o:List Int} {m:List Bool} (h:FillP I x o m false) {l:List Int} (hl:RoundP I l true):KindQ I 3 0 :=
 ⟨fun h2=>absurd hr h2,fun _=>⟨rfl,.inr (.inl ⟨rfl,fill_feas h,l,hl.yes rfl,by
  have hs:=z0e hr
  have:=(turns_char.1 (hl.yes rfl)).2.2.1
  omega⟩)⟩⟩
theorem kind_best {I:Inst} (hr:z02 I=0) {x o:List Int} {m:List Bool} (h:FillP I x o m false) {l:List Int} (hl:RoundP I l false):KindQ I 1 0 :=
 ⟨fun h2=>absurd hr h2,fun _=>⟨rfl,.inr (.inr ⟨rfl,fill_feas h,fun ⟨l2,ht,_⟩=>by
  obtain ⟨-,π,hπ⟩:=hl.no rfl
  exact pot_turns hπ ht⟩)⟩⟩
theorem kind_same {I:Inst} {k:Int} (hr:z02 I=0) (h:KindQ I k 0) {w:Wide} {j:Int} (hv:ValueP I w j):k=j:=by
 have hp:=hv.pos.2
 have hc:=hv.cut_iff
 rcases (h.ok hr).2 with ⟨rfl,h1⟩ | ⟨rfl,h1,h2⟩ | ⟨rfl,h1,h2⟩
 ·exact (hc.2 h1).symm
 ·have hj:j ≠ 2:=fun e=>hc.1 e h1
  exact ((hv.neg hj).2 h2).symm
 ·have hj:j ≠ 2:=fun e=>hc.1 e h1
  have:j ≠ 3:=fun e=>h2 ((hv.neg hj).1 e)
  omega
structure TinyA (n:Int) (a:Arc):Prop where
 s0:0 <= a.src
 s1:a.src<n
 d0:0 <= a.dst
 d1:a.dst<n
 l0:0 <= a.low
 l1:a.low <= 1
 c:a.cap=inf ∨ a.low <= a.cap/\a.cap <= 6
 k0:-6 <= a.cost
 k1:a.cost <= 20
structure ThinA (n:Int) (a:Arc):Prop where
 t:TinyA n a
 l:a.low=0
 c:a.cap=3
structure ThinP (I:Inst):Prop where
 n1:2 <= I.sup.length
 n2:I.sup.length <= 10
 m:I.arcs.length <= 19
 arc:∀ a ∈ I.arcs,ThinA I.sup.length a
 sup:Within 0 I.sup
 sum:I.sup.sum=0
theorem thin_end {n:Int} {l:List Arc} (h2:2 <= n) (h10:n <= 10) (hl:l.length <= 19) (ha:∀ a ∈ l,ThinA n a):ThinP ⟨List.replicate n.toNat 0,l⟩:=by
 have e:(((List.replicate n.toNat (0:Int)).length:Nat):Int)=n:=by rw [List.length_replicate]; omega
 refine ⟨by dsimp only; omega,by dsimp only; omega,hl,fun a h=>by dsimp only; rw [e]; exact ha a h,fun y hy=>?_,?_⟩
 ·rw [(List.mem_replicate.1 hy).2]; omega
 ·dsimp only; generalize n.toNat=m
  induction m with
  | zero=>rfl
  | succ m ih=>rw [List.replicate_succ,List.sum_cons,ih]; rfl
structure AnyI (I:Inst) (k:Nat) (l:List Arc) (s:List Int):Prop where
 ll:l.length=I.arcs.length
 ls:s.length=I.sup.length
 done:∀ a ∈ l,TinyA I.sup.length a
 todo:∀ j a,l[j]? = some a->k <= j->ThinA I.sup.length a
 sup:Within (6 * (k:Int)) s
 sum:s.sum=0
theorem AnyI.zero {I:Inst} (h:ThinP I):AnyI I 0 I.arcs I.sup:=⟨rfl,rfl,fun a ha=>(h.arc a ha).t,fun j a ha _=>h.arc a (List.mem_of_getElem? ha),h.sup.more (by omega),h.sum⟩
theorem AnyI.step {I:Inst} {k:Nat} {l l':List Arc} {s s':List Int} {b:Arc} (h:AnyI I k l s) (hb:TinyA I.sup.length b) (hl:l'=l.set k b) (ls:s'.length=I.sup.length) (hs:Within (6 * (k:Int)+6) s') (hz:s'.sum=0):AnyI I (k+1) l' s':=by
 subst hl
 refine ⟨by rw [List.length_set]; exact h.ll,ls,fun a ha=>?_,fun j a ha hj=>?_,hs.more (by omega),hz⟩
 ·rcases List.mem_or_eq_of_mem_set ha with h1 | rfl
  ·exact h.done a h1
  ·exact hb
 ·rw [List.getElem?_set_ne (by omega)] at ha
  exact h.todo j a ha (by omega)
theorem AnyI.same {I:Inst} {k:Nat} {l:List Arc} {s s':List Int} (h:AnyI I k l s) (ls:s'.length=I.sup.length) (hs:Within (6 * (k:Int)+6) s') (hz:s'.sum=0):AnyI I (k+1) l s' :=
 ⟨h.ll,ls,h.done,fun j a ha hj=>h.todo j a ha (by omega),hs.more (by omega),hz⟩
theorem mov_ok {b n m:Int} {s:List Int} {i j:Nat} (hw:Within b s) (hb:0 <= b) (h0:0 <= n) (h1:n <= m) (hi:i<s.length) (hj:j<s.length):(addAt (addAt s i n) j (-n)).length=s.length/\Within (b+2 * m) (addAt (addAt s i n) j (-n))/\(addAt (addAt s i n) j (-n)).sum=s.sum:=by
 refine ⟨by rw [z14,z14],?_,by rw [z26 _ _ _ (by rw [z14]; exact hj),z26 _ _ _ hi]; omega⟩
 have:=(hw.addAt hb i (x:=n) (y:=m) (by omega) h1).addAt (by omega) j (x:=-n) (y:=m) (by omega) (by omega)
 exact this.more (by omega)
theorem TinyA.few {n:Int} {a:Arc} (h:TinyA n a):ArcFew n a:=by
 have h1:=h.l1; have h2:=h.c; have h4:=h.k0; have h5:=h.k1
 exact ⟨h.s0,h.s1,h.d0,h.d1,h.l0,by omega,h2.elim .inl (fun h=>.inr (by omega)),by omega,by omega⟩
theorem AnyI.few {I:Inst} (h:ThinP I) {k:Nat} {l:List Arc} {s:List Int} (hA:AnyI I k l s) (hk:k <= 100):FewI ⟨s,l⟩:=by
 have h1:=h.n1; have h2:=h.n2; have h3:=h.m; have h4:=hA.ls; have h5:=hA.ll
 exact ⟨by dsimp only; omega,by dsimp only; omega,by dsimp only; omega,fun a ha=>by dsimp only; rw [h4]; exact (hA.done a ha).few,hA.sup.more (by omega),hA.sum⟩
structure AnyP (I:Inst):Prop where
 small:z02 I=0->SmallI I
structure AnyM (I:Inst) (k:Nat) (l:List Arc) (s:List Int):Prop where
 ll:l.length=I.arcs.length
 ls:s.length=I.sup.length
 kk:k<I.arcs.length
 done:∀ a ∈ l,TinyA I.sup.length a
 todo:∀ j a,l[j]? = some a->k+1 <= j->ThinA I.sup.length a
 sup:Within (6 * (k:Int)) s
 sum:s.sum=0
theorem AnyI.mid {I:Inst} {k:Nat} {l:List Arc} {s:List Int} (h:AnyI I k l s) (hk:k<I.arcs.length):AnyM I k l s:=⟨h.ll,h.ls,hk,h.done,fun j a ha hj=>h.todo j a ha (by omega),h.sup,h.sum⟩
theorem AnyM.tiny {I:Inst} {k j:Nat} {l:List Arc} {s:List Int} {a:Arc} (h:AnyM I k l s) (ha:l[j]? = some a):TinyA I.sup.length a:=h.done a (List.mem_of_getElem? ha)
theorem AnyM.set {I:Inst} {k:Nat} {l:List Arc} {s:List Int} {b:Arc} (h:AnyM I k l s) (hb:TinyA I.sup.length b):AnyM I k (l.set k b) s:=by
 refine ⟨by rw [List.length_set]; exact h.ll,h.ls,h.kk,fun a ha=>?_,fun j a ha hj=>?_,h.sup,h.sum⟩
 ·rcases List.mem_or_eq_of_mem_set ha with h1 | rfl
  ·exact h.done a h1
  ·exact hb
 ·rw [List.getElem?_set_ne (by omega)] at ha
  exact h.todo j a ha hj
theorem zic {s:List Int} {k:Nat} {v x:Int} (h:s[k]? = some v):s.set k (v+x)=addAt s k x:=by
 unfold addAt; simp [List.getD,h]
theorem AnyM.move {I:Inst} {k:Nat} {l:List Arc} {s:List Int} {a:Arc} {n y z:Int} (h:AnyM I k l s) (hT:ThinP I) (ha:l[k]? = some a) (h0:0 <= n) (h1:n <= 3) (hy:s[a.src.toNat]? = some y) (hz:(s.set a.src.toNat (IntKind.i64.wrap (y+n)))[a.dst.toNat]? = some z) :
  AnyI I (k+1) l ((s.set a.src.toNat (IntKind.i64.wrap (y+n))).set a.dst.toNat (IntKind.i64.wrap (z - n))):=by
 have hk:=h.kk
 have hm:=hT.m
 have i1:=(List.getElem?_eq_some_iff.1 hy).1
 have i2:=(List.getElem?_eq_some_iff.1 hz).1
 rw [List.length_set] at i2
 have b1:=h.sup y (List.mem_of_getElem? hy)
 rw [w64 (x:=y+n) (by omega) (by omega),zic hy] at hz ⊢
 have w1:=h.sup.addAt (by omega) a.src.toNat (x:=n) (y:=3) (by omega) h1
 have b2:=w1 z (List.mem_of_getElem? hz)
 rw [w64 (x:=z - n) (by omega) (by omega),show z - n=z + -n by omega,zic hz]
 obtain ⟨m1,m2,m3⟩:=mov_ok h.sup (by omega) h0 h1 i1 i2
 exact ⟨h.ll,by rw [m1]; exact h.ls,h.done,h.todo,m2.more (by omega),by rw [m3]; exact h.sum⟩
end Go.Ql
end
section
namespace Go.Vc
open Go Go.RowKit Go.Ql Go.Draw
variable {P:Program}
def orFR (f1 f2:FR):FR:=fun args h=>match f1 args h with
 | some R=>some R
 | none=>f2 args h
theorem or_ok {f:FuncId} {ro:Bool} {f1 f2:FR} (h1:SpecOk P f ro (z0l ro f1)) (h2:SpecOk P f ro (z0l ro f2)):SpecOk P f ro (z0l ro (orFR f1 f2)):=by
 have key:∀ args hp nk K,z0l ro (orFR f1 f2) args hp nk K->z0l ro f1 args hp nk K ∨ z0l ro f2 args hp nk K:=by
  intro args hp nk K h
  unfold z0l orFR at h
  unfold z0l
  split at h
  ·exact h.elim
  ·rename_i args' m σ hc hcan
   cases e1:f1 args' hc with
   | some R=>rw [e1] at h; exact .inl h
   | none=>rw [e1] at h; exact .inr h
 cases h1 with
 | fn a1 a2 =>
  cases h2 with
  | fn b1 b2=>exact .fn a1 fun ρ hp nk w args K hh h=>(key _ _ _ _ h).elim (a2 ρ hp nk w args K hh) (b2 ρ hp nk w args K hh)
  | ext b1 =>
   refine .fn a1 fun ρ hp nk w args K hh h=>(key _ _ _ _ h).elim (a2 ρ hp nk w args K hh) fun h'=>?_
   obtain ⟨v,hv,_⟩:=b1 ρ hp nk w args K hh h'
   rw [a1] at hv; cases hv
 | ext a1 =>
  cases h2 with
  | fn b1 b2 =>
   refine .fn b1 fun ρ hp nk w args K hh h=>(key _ _ _ _ h).elim (fun h'=>?_) (b2 ρ hp nk w args K hh)
   obtain ⟨v,hv,_⟩:=a1 ρ hp nk w args K hh h'
   rw [b1] at hv; cases hv
  | ext b1=>exact .ext fun ρ hp nk w args K hh h=>(key _ _ _ _ h).elim (a1 ρ hp nk w args K hh) (b1 ρ hp nk w args K hh)
end Go.Vc
end
section
namespace Go.Proofs.YtggblkbecekbdaaGreat
open Go Go.RowKit Go.Ql Go.Vc
def Thin_r (c:List Int):FRel:={ pre:=Bytes c,G:=(Inst),post:=fun I=>ThinP I,out:=fun I=>{ pre:=True,res:=.agg [.row 1,.row 2],rows:=[.row 2 (.ints .i64 (I).sup),.row 35 (.arcs (I).arcs)],eff:=[] } }
def zj5:FR:=fun args h=>match args,h with
 | [.row 0],[(0,.row false ty0 (.ints .u8 c))]=>some (Thin_r c)
 | _,_=>none
def Thin_an (c:List Int):List (Nat × Ann):=[(1000004,{ G:=(Int),inv:=fun n=>⟨[(0,.row 0),(2,.ptr 3 0 0 0),(3,.int .i64 n)],[(3,.box true 25 [.row 1,.row 2]),(1,.row true 2 (.ints .i64 [])),(2,.row true 35 (.arcs [])),(0,.row false 0 (.ints .u8 c))],4⟩,rel:=fun n0 n=>2 <= n/\n <= 10,meas:=fun n=>0 }),
 (6,{ G:=(Int) × (List Arc) × (Nat),inv:=fun ⟨n,l,k⟩=>⟨[(0,.row 0),(2,.ptr 3 0 0 0),(3,.int .i64 n),(4,.ptr 9 0 0 0),(5,.int .i64 k)],[(0,.row false 0 (.ints .u8 c)),(3,.box true 25 [.row 1,.row 2]),(9,.box true 25 [.row 4,.row 6]),(1,.row true 2 (.ints .i64 [])),(2,.row true 35 (.arcs [])),(4,.row true 2 (.ints .i64 (List.replicate n.toNat 0))),(6,.row true 35 (.arcs l))],10⟩,rel:=fun ⟨n0,l0,k0⟩ ⟨n,l,k⟩=>2 <= n/\n <= 10/\1 <= k/\k <= 20/\l.length+1=k/\(∀ a ∈ l,ThinA n a),meas:=fun ⟨n,l,k⟩=>20 - k })]
def Thin_A:List SV->z0d->List (Nat × Ann):=fun args h=>match args,h with
 | [.row 0],[(0,.row false ty0 (.ints .u8 c))]=>Thin_an c
 | _,_=>[]
def Thin_g:z0c:=[]
abbrev Thin_n:Nat:=81
def Thin_I (c:List Int):List (Nat × z08):=[]
def Thin_IA:List SV->z0d->List (Nat × z08):=fun _ _=>[]
def Tree_r (c:List Int) (d:List Int):FRel:={ pre:=Bytes c/\Bytes d,G:=(Inst),post:=fun I=>FewI I,out:=fun I=>{ pre:=True,res:=.agg [.row 2,.row 3],rows:=[.row 2 (.ints .i64 (I).sup),.row 35 (.arcs (I).arcs)],eff:=[] } }
def Tree_fs:FR:=fun args h=>match args,h with
 | [.row 0,.row 1],[(0,.row false ty0 (.ints .u8 c)),(1,.row false ty1 (.ints .u8 d))]=>some (Tree_r c d)
 | _,_=>none
def Tree_an (c:List Int) (d:List Int):List (Nat × Ann):=[(3,{ G:=(Inst) × (List Arc) × (List Int) × (Nat),inv:=fun ⟨I,l,s,k⟩=>⟨[(1,.row 1),(4,.ptr 4 0 0 0),(5,.ptr 9 0 0 0),(6,.int .i64 k)],[(9,.box true 25 [.row 5,.row 6]),(5,.row true 2 (.ints .i64 s)),(6,.row true 35 (.arcs l)),(4,.box true 25 [.row 2,.row 3]),(2,.row true 2 (.ints .i64 [])),(3,.row true 35 (.arcs [])),(1,.row false 0 (.ints .u8 d))],10⟩,rel:=fun ⟨I0,l0,s0,k0⟩ ⟨I,l,s,k⟩=>ThinP I/\k <= I.arcs.length/\AnyI I k l s,meas:=fun ⟨I,l,s,k⟩=>I.arcs.length - k }),
 (1000011,{ G:=(Int) × (List Arc) × (List Int) × (Nat),inv:=fun ⟨n,l,s,k⟩=>⟨[(1,.row 1),(4,.ptr 4 0 0 0),(5,.ptr 9 0 0 0),(6,.int .i64 k),(7,.int .i64 n)],[(9,.box true 25 [.row 5,.row 6]),(5,.row true 2 (.ints .i64 s)),(6,.row true 35 (.arcs l)),(4,.box true 25 [.row 2,.row 3]),(2,.row true 2 (.ints .i64 [])),(3,.row true 35 (.arcs [])),(1,.row false 0 (.ints .u8 d))],10⟩,rel:=fun ⟨n0,l0,s0,k0⟩ ⟨n,l,s,k⟩=>True,meas:=fun ⟨n,l,s,k⟩=>0,link:=true })]
def Tree_A:List SV->z0d->List (Nat × Ann):=fun args h=>match args,h with
 | [.row 0,.row 1],[(0,.row false ty0 (.ints .u8 c)),(1,.row false ty1 (.ints .u8 d))]=>Tree_an c d
 | _,_=>[]
def Tree_g:z0c:=[(Thin_n,(true,z0l true zj5))]
abbrev Tree_n:Nat:=46
def Tree_I (c:List Int) (d:List Int):List (Nat × z08):=[]
def Tree_IA:List SV->z0d->List (Nat × z08):=fun _ _=>[]
def Still_r (c:List Int) (d:List Int):FRel:={ pre:=Bytes c/\Bytes d,G:=(Inst),post:=fun I=>FewI I,out:=fun I=>{ pre:=True,res:=.agg [.row 2,.row 3],rows:=[.row 2 (.ints .i64 (I).sup),.row 35 (.arcs (I).arcs)],eff:=[] } }
def Still_fs:FR:=fun args h=>match args,h with
 | [.row 0,.row 1],[(0,.row false ty0 (.ints .u8 c)),(1,.row false ty1 (.ints .u8 d))]=>some (Still_r c d)
 | _,_=>none
def Still_an (c:List Int) (d:List Int):List (Nat × Ann):=[(3,{ G:=(Inst) × (List Arc) × (List Int) × (Nat),inv:=fun ⟨I,l,s,k⟩=>⟨[(1,.row 1),(4,.ptr 4 0 0 0),(5,.ptr 9 0 0 0),(6,.int .i64 k)],[(9,.box true 25 [.row 5,.row 6]),(5,.row true 2 (.ints .i64 s)),(6,.row true 35 (.arcs l)),(4,.box true 25 [.row 2,.row 3]),(2,.row true 2 (.ints .i64 [])),(3,.row true 35 (.arcs [])),(1,.row false 0 (.ints .u8 d))],10⟩,rel:=fun ⟨I0,l0,s0,k0⟩ ⟨I,l,s,k⟩=>ThinP I/\k <= I.arcs.length/\AnyI I k l s,meas:=fun ⟨I,l,s,k⟩=>I.arcs.length - k })]
def Still_A:List SV->z0d->List (Nat × Ann):=fun args h=>match args,h with
 | [.row 0,.row 1],[(0,.row false ty0 (.ints .u8 c)),(1,.row false ty1 (.ints .u8 d))]=>Still_an c d
 | _,_=>[]
def Still_g:z0c:=[(Thin_n,(true,z0l true zj5))]
abbrev Still_n:Nat:=47
def Still_I (c:List Int) (d:List Int):List (Nat × z08):=[]
def Still_IA:List SV->z0d->List (Nat × z08):=fun _ _=>[]
def Sparse_r (c:List Int) (d:List Int):FRel:={ pre:=Bytes c/\Bytes d,G:=(Inst),post:=fun I=>FewI I,out:=fun I=>{ pre:=True,res:=.agg [.row 2,.row 3],rows:=[.row 2 (.ints .i64 (I).sup),.row 35 (.arcs (I).arcs)],eff:=[] } }
def zj4:FR:=fun args h=>match args,h with
 | [.row 0,.row 1],[(0,.row false ty0 (.ints .u8 c)),(1,.row false ty1 (.ints .u8 d))]=>some (Sparse_r c d)
 | _,_=>none
def zj3 (c:List Int) (d:List Int):List (Nat × Ann):=[(3,{ G:=(Inst) × (List Arc) × (List Int) × (Nat),inv:=fun ⟨I,l,s,k⟩=>⟨[(1,.row 1),(4,.ptr 4 0 0 0),(5,.ptr 9 0 0 0),(6,.int .i64 k)],[(9,.box true 25 [.row 5,.row 6]),(5,.row true 2 (.ints .i64 s)),(6,.row true 35 (.arcs l)),(4,.box true 25 [.row 2,.row 3]),(2,.row true 2 (.ints .i64 [])),(3,.row true 35 (.arcs [])),(1,.row false 0 (.ints .u8 d))],10⟩,rel:=fun ⟨I0,l0,s0,k0⟩ ⟨I,l,s,k⟩=>ThinP I/\k <= I.arcs.length/\AnyI I k l s,meas:=fun ⟨I,l,s,k⟩=>I.arcs.length - k }),
 (1000007,{ G:=(Int) × (List Arc) × (List Int) × (Nat),inv:=fun ⟨n,l,s,k⟩=>⟨[(1,.row 1),(4,.ptr 4 0 0 0),(5,.ptr 9 0 0 0),(6,.int .i64 k),(7,.int .i64 n)],[(9,.box true 25 [.row 5,.row 6]),(5,.row true 2 (.ints .i64 s)),(6,.row true 35 (.arcs l)),(4,.box true 25 [.row 2,.row 3]),(2,.row true 2 (.ints .i64 [])),(3,.row true 35 (.arcs [])),(1,.row false 0 (.ints .u8 d))],10⟩,rel:=fun ⟨n0,l0,s0,k0⟩ ⟨n,l,s,k⟩=>True,meas:=fun ⟨n,l,s,k⟩=>0,link:=true }),
 (1000010,{ G:=(Int) × (List Arc) × (List Int) × (Nat),inv:=fun ⟨n,l,s,k⟩=>⟨[(1,.row 1),(4,.ptr 4 0 0 0),(5,.ptr 9 0 0 0),(6,.int .i64 k),(7,.int .i64 n)],[(9,.box true 25 [.row 5,.row 6]),(5,.row true 2 (.ints .i64 s)),(6,.row true 35 (.arcs l)),(4,.box true 25 [.row 2,.row 3]),(2,.row true 2 (.ints .i64 [])),(3,.row true 35 (.arcs [])),(1,.row false 0 (.ints .u8 d))],10⟩,rel:=fun ⟨n0,l0,s0,k0⟩ ⟨n,l,s,k⟩=>True,meas:=fun ⟨n,l,s,k⟩=>0,link:=true }),
 (1000011,{ G:=(Int) × (List Arc) × (List Int) × (Nat),inv:=fun ⟨n,l,s,k⟩=>⟨[(1,.row 1),(4,.ptr 4 0 0 0),(5,.ptr 9 0 0 0),(6,.int .i64 k),(7,.int .i64 n)],[(9,.box true 25 [.row 5,.row 6]),(5,.row true 2 (.ints .i64 s)),(6,.row true 35 (.arcs l)),(4,.box true 25 [.row 2,.row 3]),(2,.row true 2 (.ints .i64 [])),(3,.row true 35 (.arcs [])),(1,.row false 0 (.ints .u8 d))],10⟩,rel:=fun ⟨n0,l0,s0,k0⟩ ⟨n,l,s,k⟩=>True,meas:=fun ⟨n,l,s,k⟩=>0,link:=true })]
def Sparse_A:List SV->z0d->List (Nat × Ann):=fun args h=>match args,h with
 | [.row 0,.row 1],[(0,.row false ty0 (.ints .u8 c)),(1,.row false ty1 (.ints .u8 d))]=>zj3 c d
 | _,_=>[]
def Sparse_g:z0c:=[(Thin_n,(true,z0l true zj5))]
abbrev Sparse_n:Nat:=48
def Sparse_I (c:List Int) (d:List Int):List (Nat × z08):=[]
def Sparse_IA:List SV->z0d->List (Nat × z08):=fun _ _=>[]
def Thin_E0 (c : List Int) (ty0 : TypeId) : Prop :=
   ((decide ((↑c.length:Int) > 0)=true->((0:Int) <= 0/\((0:Int)<↑c.length))/\(Int.toNat (0:Int)<c.length/\(∀ (x:Int),c[Int.toNat (0:Int)]? = some x->(9:Int) ≠ (0:Int)/\(∃ (g:Int),((2:Int) <= g/\(g <= (10:Int)))/\((True/\(0=0/\(IntKind.i64.wrap ((2:Int)+IntKind.i64.wrap (x.tmod (9:Int)))=g/\True)))/\((True/\(True/\True))/\(z2c Int/\(z2c Arc/\(c=c/\True)))))))))/\(decide ((↑c.length:Int) > 0)=false->∃ (g:Int),((2:Int) <= g/\(g <= (10:Int)))/\((True/\(0=0/\((2:Int)=g/\True)))/\((True/\(True/\True))/\(z2c Int/\(z2c Arc/\(c=c/\True)))))))/\∀ (g:Int),(2:Int) <= g/\g <= (10:Int)->(g=g/\((0:Int) <= g/\(g <= (1000000000:Int))))/\(∃ (g0:Int × List Arc × Nat),(((2:Int) <= g0.fst/\(g0.fst <= (10:Int)/\((1:Nat) <= g0.2.snd/\(g0.2.snd <= (20:Nat)/\(g0.2.fst.length+(1:Nat)=g0.2.snd/\(∀ (a:Arc),List.Mem a g0.2.fst->ThinA g0.fst a))))))/\((True/\(0=0/\(g=g0.1/\(0=0/\((1:Int)=↑g0.2.2/\True)))))/\(c=c/\((True/\(True/\True))/\((True/\(True/\True))/\(z2c Int/\(z2c Arc/\(List.replicate g.toNat (0:Int)=List.replicate g0.1.toNat (0:Int)/\([]=g0.2.1/\True)))))))))/\(∀ (g:Int × List Arc × Nat),((2:Int) <= g.fst/\(g.fst <= (10:Int)/\((1:Nat) <= g.2.snd/\(g.2.snd <= (20:Nat)/\(g.2.fst.length+(1:Nat)=g.2.snd/\(∀ (a:Arc),List.Mem a g.2.fst->ThinA g.fst a))))))->(decide ((↑g.2.2:Int)<↑c.length)=true->(decide ((↑g.2.2:Int)<20)=true->((0:Int) <= ↑g.2.2/\((↑g.2.2:Int)<↑c.length))/\((↑g.2.2:Int).toNat<c.length/\(∀ (x:Int),c[(↑g.2.2:Int).toNat]? = some x->g.1 ≠ (0:Int)/\(((0:Int) <= ↑g.2.2/\((↑g.2.2:Int)<↑c.length))/\((↑g.2.2:Int).toNat<c.length/\(∀ (x_1:Int),c[(↑g.2.2:Int).toNat]? = some x_1->(16:Int) ≠ (0:Int)/\((4:Int) ≠ (0:Int)/\(g.1 ≠ (0:Int)/\(g.2.1.length+(1:Nat) <= 1000000000/\(∃ (g':Int × List Arc × Nat),((2:Int) <= g'.fst/\(g'.fst <= (10:Int)/\((1:Nat) <= g'.2.snd/\(g'.2.snd <= (20:Nat)/\(g'.2.fst.length+(1:Nat)=g'.2.snd/\(∀ (a:Arc),List.Mem a g'.2.fst->ThinA g'.fst a))))))/\((20:Nat) - g'.2.snd<(20:Nat) - g.2.snd/\((True/\(0=0/\(g.1=g'.1/\(0=0/\(IntKind.i64.wrap ((↑g.2.2:Int)+(1:Int))=(↑g'.2.2:Int)/\True)))))/\(c=c/\((True/\(True/\True))/\((True/\(True/\True))/\(z2c Int/\(z2c Arc/\(List.replicate g.1.toNat (0:Int)=List.replicate g'.1.toNat (0:Int)/\(g.2.1 ++ [{ src:=(IntKind.i64.wrap x).tmod g.1,dst:=(IntKind.i64.wrap ((IntKind.i64.wrap x).tmod g.1+IntKind.i64.wrap ((IntKind.u8.wrap (x_1.tdiv (16:Int))).tmod (4:Int)))).tmod g.1,low:=(0:Int),cap:=(3:Int),cost:=(↑g.2.2:Int):Arc }]=g'.2.1/\True)))))))))))))))))))/\(decide ((↑g.2.2:Int)<20)=false->∃ (g_1:Inst),ThinP g_1/\(((True/\(True/\True))/\True)/\(List.replicate g.1.toNat (0:Int)=g_1.sup/\(g.2.1=g_1.arcs/\True)))))/\(decide ((↑g.2.2:Int)<↑c.length)=false->∃ (g_1:Inst),ThinP g_1/\(((True/\(True/\True))/\True)/\(List.replicate g.1.toNat (0:Int)=g_1.sup/\(g.2.1=g_1.arcs/\True))))))
theorem Thin_q (c:List Int) (ty0:TypeId):Thin_E0 c ty0=z6x TT Thin_g (Thin_I c) (Thin_an c) Tryz.f81 [.row 0] [(0,.row false ty0 (.ints .u8 c))] (Thin_r c):=by kernel_rfl
theorem Thin_E (c:List Int) (ty0:TypeId) (hp:Bytes c):FVcR TT Thin_g (Thin_I c) (Thin_an c) Tryz.f81 [.row 0] [(0,.row false ty0 (.ints .u8 c))] (Thin_r c):=by
 refine FVcR.of (Thin_E0 c ty0) (Thin_q c ty0) ?_
 unfold Thin_E0
 have wu:∀ x:Int,0 <= x->x <= 255->IntKind.u8.wrap x=x:=fun x h0 h1=>wu8 h0 h1
 simp only [eq_self,exists_const,forall_const,ne_eq,Int.toNat_natCast,zSS,z07]
 refine ⟨⟨fun h=>⟨⟨by omega,by omega⟩,by omega,fun x hx=>⟨by decide,2+x.tmod 9,?_⟩⟩,fun h=>⟨2,⟨by omega,by omega⟩,rfl⟩⟩,fun n hn=>⟨⟨by omega,by omega⟩,(n,[],1),?_⟩⟩
 ·have hb:=hp x (List.mem_of_getElem? hx)
  have t0:0 <= x.tmod 9:=Int.tmod_nonneg _ hb.1
  have t1:x.tmod 9<9:=Int.tmod_lt_of_pos _ (by omega)
  rw [w64 (x:=x.tmod 9) (by omega) (by omega),w64 (by omega) (by omega)]
  exact ⟨⟨by omega,by omega⟩,rfl⟩
 refine ⟨⟨⟨hn.1,hn.2,by dsimp only; omega,by dsimp only; omega,rfl,fun a ha=>by cases ha⟩,⟨rfl,rfl⟩,rfl,rfl⟩,?_⟩
 rintro ⟨m,l,k⟩ ⟨m2,m10,k1,k20,hl,ha⟩
 dsimp only at m2 m10 k1 k20 hl ha ⊢
 refine ⟨fun h1=>⟨fun h2=>⟨⟨by omega,by omega⟩,by omega,fun x hx=>⟨by omega,⟨by omega,by omega⟩,by omega,fun y hy=>⟨by decide,by decide,by omega,by omega,(m,l ++ [_],k+1),⟨m2,m10,by dsimp only; omega,by dsimp only; omega,by simp; omega,fun a h=>?_⟩,by dsimp only; omega,⟨rfl,by rw [w64 (by omega) (by omega)]; dsimp only; omega⟩,rfl,rfl⟩⟩⟩,fun h2=>⟨_,thin_end m2 m10 (by omega) ha,rfl,rfl⟩⟩,fun h1=>⟨_,thin_end m2 m10 (by omega) ha,rfl,rfl⟩⟩
 rcases List.mem_append.1 (show a ∈ l ++ [_] from h) with h | h
 ·exact ha a h
 rw [List.mem_singleton] at h
 subst h
 have hb:=hp x (List.mem_of_getElem? hx)
 have hc:=hp y (List.mem_of_getElem? hy)
 have t0:0 <= x.tmod m:=Int.tmod_nonneg _ hb.1
 have t1:x.tmod m<m:=Int.tmod_lt_of_pos _ (by omega)
 have e16:y.tdiv 16=y / 16:=Int.tdiv_eq_ediv_of_nonneg hc.1
 have u0:0 <= (y.tdiv 16).tmod 4:=Int.tmod_nonneg _ (by omega)
 have u1:(y.tdiv 16).tmod 4<4:=Int.tmod_lt_of_pos _ (by omega)
 rw [w64 (x:=x) (by omega) (by omega),wu (y.tdiv 16) (by omega) (by omega),w64 (x:=(y.tdiv 16).tmod 4) (by omega) (by omega),w64 (x:=x.tmod m+_) (by omega) (by omega)]
 have v0:0 <= (x.tmod m+(y.tdiv 16).tmod 4).tmod m:=Int.tmod_nonneg _ (by omega)
 have v1:(x.tmod m+(y.tdiv 16).tmod 4).tmod m<m:=Int.tmod_lt_of_pos _ (by omega)
 exact ⟨⟨t0,t1,v0,v1,Int.le_refl _,by dsimp only; omega,.inr (by dsimp only; omega),by dsimp only; omega,by dsimp only; omega⟩,rfl,rfl⟩
theorem Thin_ok:SpecOk Tryz.prog Thin_n true (z0l true zj5) :=
 z1x z0r (show z1c Tryz.prog Thin_g from z05) (by kernel_rfl) mixedOrders Tryz.func81 rfl rfl (by kernel_rfl) (n:=1) (by decide +kernel) (I:=Thin_IA) (fun _ _=>z06) (A:=Thin_A)
  (fun args h r hr=>by
   unfold zj5 at hr
   split at hr
   ·rename_i ty0 c; cases hr; refine ⟨rfl,fun hp=>?_⟩; have hE:=Thin_E c ty0 hp; exact hE
   ·cases hr)
abbrev zj7:=Inst × List Arc × List Int × Nat
abbrev zf5:=Int × List Arc × List Int × Nat
abbrev zj6 (g:zj7) (x_2:Arc) (x_1:Int):=(g.2.1.set (↑g.2.2.2:Int).toNat { src:=x_2.src,dst:=x_2.dst,low:=IntKind.i64.wrap ((IntKind.u8.wrap (x_1.tdiv (4:Int))).tmod (2:Int)),cap:=x_2.cap,cost:=x_2.cost:Arc })
abbrev zf4 (d:List Int):=((True/\(True/\True))/\(z2c Int/\(z2c Arc/\(d=d/\True))))
abbrev zbp (g_1:zf5) (x:Arc) (x_1:Int):=(g_1.2.2.1.set x.src.toNat (IntKind.i64.wrap (x_1+g_1.1)))
def Tree_E0 (c : List Int) (d : List Int) (ty0 ty1 : TypeId) : Prop :=
   (∀ (x:Int),List.Mem x c->(0:Int) <= x/\(x <= (255:Int)))/\∀ (g:Inst),ThinP g->∃ (g0:zj7),((ThinP g0.fst/\(g0.2.2.snd <= g0.fst.arcs.length/\(AnyI g0.fst g0.2.2.snd g0.2.fst g0.2.2.fst)))/\((True/\(0=0/\(0=0/\((0:Int)=↑g0.2.2.2/\True))))/\((True/\(True/\True))/\(g.sup=g0.2.2.1/\(g.arcs=g0.2.1/\(zf4 d))))))/\∀ (g:zj7),ThinP g.fst/\g.2.2.snd <= g.fst.arcs.length/\AnyI g.fst g.2.2.snd g.2.fst g.2.2.fst->(decide ((↑g.2.2.2:Int)<↑g.2.1.length)=true->∃ (Q:Int × List Arc × List Int × Nat->Prop),((decide ((↑g.2.2.2:Int)<↑d.length)=true->((0:Int) <= ↑g.2.2.2/\((↑g.2.2.2:Int)<↑d.length))/\(↑g.2.2.2:Int).toNat<d.length/\∀ (x:Int),d[(↑g.2.2.2:Int).toNat]? = some x->(4:Int) ≠ (0:Int)/\((0:Int) <= ↑g.2.2.2/\((↑g.2.2.2:Int)<↑d.length))/\((↑g.2.2.2:Int).toNat<d.length/\(∀ (x_1:Int),d[(↑g.2.2.2:Int).toNat]? = some x_1->(4:Int) ≠ (0:Int)/\((2:Int) ≠ (0:Int)/\(((0:Int) <= ↑g.2.2.2/\((↑g.2.2.2:Int)<↑g.2.1.length))/\((↑g.2.2.2:Int).toNat<g.2.1.length/\(∀ (x_2:Arc),g.2.1[(↑g.2.2.2:Int).toNat]? = some x_2->((0:Int) <= ↑g.2.2.2/\((↑g.2.2.2:Int)<↑d.length))/\((↑g.2.2.2:Int).toNat<d.length/\(∀ (x_3:Int),d[(↑g.2.2.2:Int).toNat]? = some x_3->(16:Int) ≠ (0:Int)/\(((x_3.tmod (16:Int) == (15:Int))=true->((0:Int) <= ↑g.2.2.2/\((↑g.2.2.2:Int)<↑(zj6 g x_2 x_1).length))/\((↑g.2.2.2:Int).toNat<(zj6 g x_2 x_1).length/\(∀ (x_4:Arc),(zj6 g x_2 x_1)[(↑g.2.2.2:Int).toNat]? = some x_4->∃ (g_1:zf5),(True/\(Q g_1))/\((True/\(0=0/\(0=0/\((↑g.2.2.2:Int)=↑g_1.2.2.2/\(IntKind.i64.wrap (x.tmod (4:Int))=g_1.1/\True)))))/\((True/\(True/\True))/\(g.2.2.1=g_1.2.2.1/\((zj6 g x_2 x_1).set (↑g.2.2.2:Int).toNat { src:=x_4.src,dst:=x_4.dst,low:=x_4.low,cap:=(4611686018427387904:Int),cost:=x_4.cost:Arc } = g_1.2.1/\(zf4 d))))))))/\((x_3.tmod (16:Int) == (15:Int))=false->∃ (g_1:zf5),(True/\(Q g_1))/\((True/\(0=0/\(0=0/\((↑g.2.2.2:Int)=↑g_1.2.2.2/\(IntKind.i64.wrap (x.tmod (4:Int))=g_1.1/\True)))))/\((True/\(True/\True))/\(g.2.2.1=g_1.2.2.1/\(g.2.1.set (↑g.2.2.2:Int).toNat { src:=x_2.src,dst:=x_2.dst,low:=IntKind.i64.wrap ((IntKind.u8.wrap (x_1.tdiv (4:Int))).tmod (2:Int)),cap:=x_2.cap,cost:=x_2.cost:Arc } = g_1.2.1/\(zf4 d))))))))))))))))/\(decide ((↑g.2.2.2:Int)<↑d.length)=false->∃ (g_1:zf5),(True/\(Q g_1))/\((True/\(0=0/\(0=0/\((↑g.2.2.2:Int)=↑g_1.2.2.2/\((0:Int)=g_1.1/\True)))))/\((True/\(True/\True))/\(g.2.2.1=g_1.2.2.1/\(g.2.1=g_1.2.1/\(zf4 d)))))))/\(∀ (g_1:zf5),True->Q g_1->((0:Int) <= ↑g_1.2.2.2/\((↑g_1.2.2.2:Int)<↑g_1.2.1.length))/\((↑g_1.2.2.2:Int).toNat<g_1.2.1.length/\(∀ (x:Arc),g_1.2.1[(↑g_1.2.2.2:Int).toNat]? = some x->((0:Int) <= x.src/\(x.src<(↑g_1.2.2.1.length:Int)))/\(x.src.toNat<g_1.2.2.1.length/\(∀ (x_1:Int),g_1.2.2.1[x.src.toNat]? = some x_1->((0:Int) <= x.src/\(x.src<(↑g_1.2.2.1.length:Int)))/\(x.src.toNat<g_1.2.2.1.length/\(((0:Int) <= ↑g_1.2.2.2/\((↑g_1.2.2.2:Int)<↑g_1.2.1.length))/\((↑g_1.2.2.2:Int).toNat<g_1.2.1.length/\(∀ (x_2:Arc),g_1.2.1[(↑g_1.2.2.2:Int).toNat]? = some x_2->((0:Int) <= x_2.dst/\(x_2.dst<(↑(zbp g_1 x x_1).length:Int)))/\(x_2.dst.toNat<(zbp g_1 x x_1).length/\(∀ (x_3:Int),(zbp g_1 x x_1)[x_2.dst.toNat]? = some x_3->((0:Int) <= x_2.dst/\(x_2.dst<(↑(zbp g_1 x x_1).length:Int)))/\(x_2.dst.toNat<(zbp g_1 x x_1).length/\(∃ (g':zj7),(ThinP g'.fst/\(g'.2.2.snd <= g'.fst.arcs.length/\(AnyI g'.fst g'.2.2.snd g'.2.fst g'.2.2.fst)))/\(g'.fst.arcs.length - g'.2.2.snd<g.fst.arcs.length - g.2.2.snd/\((True/\(0=0/\(0=0/\(IntKind.i64.wrap ((↑g_1.2.2.2:Int)+(1:Int))=(↑g'.2.2.2:Int)/\True))))/\((True/\(True/\True))/\((zbp g_1 x x_1).set x_2.dst.toNat (IntKind.i64.wrap (x_3 - g_1.1))=g'.2.2.1/\(g_1.2.1=g'.2.1/\(zf4 d))))))))))))))))))))/\(decide ((↑g.2.2.2:Int)<↑g.2.1.length)=false->∃ (g_1:Inst),FewI g_1/\(((True/\(True/\True))/\True)/\(g.2.2.1=g_1.sup/\(g.2.1=g_1.arcs/\True))))
theorem Tree_q (c:List Int) (d:List Int) (ty0 ty1:TypeId):Tree_E0 c d ty0 ty1=z6x TT Tree_g (Tree_I c d) (Tree_an c d) Tryz.f46 [.row 0,.row 1] [(0,.row false ty0 (.ints .u8 c)),(1,.row false ty1 (.ints .u8 d))] (Tree_r c d):=by kernel_rfl
theorem Tree_E (c:List Int) (d:List Int) (ty0 ty1:TypeId) (hp:Bytes c/\Bytes d):FVcR TT Tree_g (Tree_I c d) (Tree_an c d) Tryz.f46 [.row 0,.row 1] [(0,.row false ty0 (.ints .u8 c)),(1,.row false ty1 (.ints .u8 d))] (Tree_r c d):=by
 refine FVcR.of (Tree_E0 c d ty0 ty1) (Tree_q c d ty0 ty1) ?_
 unfold Tree_E0
 delta zbp zf4 zj6 zj7 zf5
 obtain ⟨pc,pd⟩:=hp
 simp only [eq_self,exists_const,forall_const,ne_eq,Int.toNat_natCast,zSS,z07]
 refine ⟨pc,fun I hI=>⟨(I,I.arcs,I.sup,0),⟨⟨hI,Nat.zero_le _,AnyI.zero hI⟩,rfl,rfl,rfl⟩,?_⟩⟩
 rintro ⟨I,l,s,k⟩ ⟨hT,hk,hA⟩
 dsimp only at hT hk hA ⊢
 have hll:=hA.ll
 have hls:=hA.ls
 refine ⟨fun h1=>⟨fun g=>g.2.2.2=k/\AnyM I k g.2.1 g.2.2.1/\0 <= g.1/\g.1 <= 3,⟨fun h2=>⟨⟨by omega,by omega⟩,by omega,fun x hx=>⟨by decide,⟨by omega,by omega⟩,by omega,fun y hy=>⟨by decide,by decide,⟨by omega,by omega⟩,by omega,fun a ha=>⟨⟨by omega,by omega⟩,by omega,fun z hz=>⟨by decide,?_⟩⟩⟩⟩⟩,fun h2=>⟨(0,l,s,k),⟨rfl,hA.mid (by omega),by dsimp only; omega,by dsimp only; omega⟩,⟨rfl,rfl⟩,rfl,rfl⟩⟩,?_⟩,?_⟩
 ·have bx:=pd x (List.mem_of_getElem? hx)
  have by_:=pd y (List.mem_of_getElem? hy)
  have t0:0 <= x.tmod 4:=Int.tmod_nonneg _ bx.1
  have t1:x.tmod 4<4:=Int.tmod_lt_of_pos _ (by omega)
  have e4:y.tdiv 4=y / 4:=Int.tdiv_eq_ediv_of_nonneg by_.1
  have u0:0 <= (y.tdiv 4).tmod 2:=Int.tmod_nonneg _ (by omega)
  have u1:(y.tdiv 4).tmod 2<2:=Int.tmod_lt_of_pos _ (by omega)
  rw [w64 (x:=x.tmod 4) (by omega) (by omega),wu8 (x:=y.tdiv 4) (by omega) (by omega),w64 (x:=(y.tdiv 4).tmod 2) (by omega) (by omega)]
  have hM:=hA.mid (by omega)
  have tn:=hA.todo k a ha (Nat.le_refl _)
  have ta:=tn.t
  have tc:=tn.c
  have hb1:TinyA I.sup.length ⟨a.src,a.dst,(y.tdiv 4).tmod 2,a.cap,a.cost⟩:=⟨ta.s0,ta.s1,ta.d0,ta.d1,u0,by dsimp only; omega,.inr (by dsimp only; omega),ta.k0,ta.k1⟩
  have hM1:=hM.set hb1
  have hlen:(l.set k ⟨a.src,a.dst,(y.tdiv 4).tmod 2,a.cap,a.cost⟩).length=l.length:=List.length_set
  refine ⟨fun h3=>⟨⟨by omega,by omega⟩,by omega,fun b hb=>⟨(_,_,s,k),⟨rfl,hM1.set ?_,t0,by show x.tmod 4 <= 3; omega⟩,⟨rfl,rfl⟩,rfl,rfl⟩⟩,fun h3=>⟨(_,_,s,k),⟨rfl,hM1,t0,by show x.tmod 4 <= 3; omega⟩,⟨rfl,rfl⟩,rfl,rfl⟩⟩
  have tb:=hM1.tiny hb
  exact ⟨tb.s0,tb.s1,tb.d0,tb.d1,tb.l0,tb.l1,.inl rfl,tb.k0,tb.k1⟩
 ·rintro ⟨n,l',s',k'⟩ ⟨ek,hM,n0,n1⟩
  dsimp only at ek hM n0 n1 ⊢
  subst ek
  have hll:=hM.ll
  have hls:=hM.ls
  have m19:=hT.m
  refine ⟨⟨by omega,by omega⟩,by omega,fun a ha=>?_⟩
  have ta:=hM.tiny ha
  obtain ⟨s0,s1,d0,d1,-,-,-,-,-⟩:=ta
  refine ⟨⟨by omega,by omega⟩,by omega,fun y hy=>⟨⟨by omega,by omega⟩,by omega,⟨by omega,by omega⟩,by omega,fun b hb=>?_⟩⟩
  rw [ha] at hb
  cases hb
  try simp only [List.length_set]
  refine ⟨⟨by omega,by omega⟩,by omega,fun z hz=>⟨⟨by omega,by omega⟩,by omega,(I,l',_,k'+1),⟨hT,by dsimp only; omega,hM.move hT ha n0 n1 hy hz⟩,by dsimp only; omega,by rw [w64 (by omega) (by omega)]; dsimp only; omega,rfl,rfl⟩⟩
 exact fun h1=>⟨⟨s,l⟩,AnyI.few hT hA (by have:=hT.m; omega),rfl,rfl⟩
theorem Tree_ok:SpecOk Tryz.prog Tree_n true (z0l true Tree_fs) :=
 z1x z0r (show z1c Tryz.prog Tree_g from z00 Thin_ok (z05)) (by kernel_rfl) mixedOrders Tryz.func46 rfl rfl (by kernel_rfl) (n:=2) (by decide +kernel) (I:=Tree_IA) (fun _ _=>z06) (A:=Tree_A)
  (fun args h r hr=>by
   unfold Tree_fs at hr
   split at hr
   ·rename_i ty0 c ty1 d; cases hr; refine ⟨rfl,fun hp=>?_⟩; have hE:=Tree_E c d ty0 ty1 hp; exact hE
   ·cases hr)
abbrev z46:=Inst × List Arc × List Int × Nat
abbrev z6z (g:z46) (x:Int) (x_1:Int):=(g.2.2.1.set (Int.toNat (0:Int)) (IntKind.i64.wrap (x+IntKind.i64.wrap (x_1.tmod (3:Int)))))
abbrev zd5 (g:z46) (x:Arc):=(g.2.1.set (↑g.2.2.2:Int).toNat { src:=x.src,dst:=x.dst,low:=(1:Int),cap:=x.cap,cost:=x.cost:Arc })
abbrev Still_a2 (g':z46) (g:z46) (d:List Int):=(g'.fst.arcs.length - g'.2.2.snd<g.fst.arcs.length - g.2.2.snd/\((True/\(0=0/\(0=0/\(IntKind.i64.wrap ((↑g.2.2.2:Int)+(1:Int))=(↑g'.2.2.2:Int)/\True))))/\((True/\(True/\True))/\(g.2.2.1=g'.2.2.1/\(g.2.1=g'.2.1/\((True/\(True/\True))/\(z2c Int/\(z2c Arc/\(d=d/\True)))))))))
abbrev z60 (g:z46) (x:Int) (x_1:Int):=((↑(z6z g x x_1).length:Int) - (1:Int))
abbrev zht (g':z46):=(ThinP g'.fst/\(g'.2.2.snd <= g'.fst.arcs.length/\(AnyI g'.fst g'.2.2.snd g'.2.fst g'.2.2.fst)))
def Still_E0 (c : List Int) (d : List Int) (ty0 ty1 : TypeId) : Prop :=
   (∀ (x:Int),List.Mem x c->(0:Int) <= x/\(x <= (255:Int)))/\∀ (g:Inst),ThinP g->∃ (g0:z46),((ThinP g0.fst/\(g0.2.2.snd <= g0.fst.arcs.length/\(AnyI g0.fst g0.2.2.snd g0.2.fst g0.2.2.fst)))/\((True/\(0=0/\(0=0/\((0:Int)=↑g0.2.2.2/\True))))/\((True/\(True/\True))/\(g.sup=g0.2.2.1/\(g.arcs=g0.2.1/\((True/\(True/\True))/\(z2c Int/\(z2c Arc/\(d=d/\True)))))))))/\∀ (g:z46),ThinP g.fst/\g.2.2.snd <= g.fst.arcs.length/\AnyI g.fst g.2.2.snd g.2.fst g.2.2.fst->(decide ((↑g.2.2.2:Int)<↑g.2.1.length)=true->(decide ((↑g.2.2.2:Int)<↑d.length)=true->((0:Int) <= ↑g.2.2.2/\((↑g.2.2.2:Int)<↑d.length))/\((↑g.2.2.2:Int).toNat<d.length/\(∀ (x:Int),d[(↑g.2.2.2:Int).toNat]? = some x->(5:Int) ≠ (0:Int)/\(((x.tmod (5:Int) == (0:Int))=true->((0:Int) <= ↑g.2.2.2/\((↑g.2.2.2:Int)<↑g.2.1.length))/\((↑g.2.2.2:Int).toNat<g.2.1.length/\(∀ (x:Arc),g.2.1[(↑g.2.2.2:Int).toNat]? = some x->((0:Int) <= ↑g.2.2.2/\((↑g.2.2.2:Int)<↑(zd5 g x).length))/\((↑g.2.2.2:Int).toNat<(zd5 g x).length/\(∀ (x_1:Arc),(zd5 g x)[(↑g.2.2.2:Int).toNat]? = some x_1->∃ (g':z46),(zht g')/\(g'.fst.arcs.length - g'.2.2.snd<g.fst.arcs.length - g.2.2.snd/\((True/\(0=0/\(0=0/\(IntKind.i64.wrap ((↑g.2.2.2:Int)+(1:Int))=(↑g'.2.2.2:Int)/\True))))/\((True/\(True/\True))/\(g.2.2.1=g'.2.2.1/\((zd5 g x).set (↑g.2.2.2:Int).toNat { src:=x_1.src,dst:=x_1.dst,low:=x_1.low,cap:=(4611686018427387904:Int),cost:=x_1.cost:Arc } = g'.2.1/\((True/\(True/\True))/\(z2c Int/\(z2c Arc/\(d=d/\True))))))))))))))/\((x.tmod (5:Int) == (0:Int))=false->∃ (g':z46),(zht g')/\(Still_a2 g' g d))))))/\(decide ((↑g.2.2.2:Int)<↑d.length)=false->∃ (g':z46),(zht g')/\(Still_a2 g' g d)))/\(decide ((↑g.2.2.2:Int)<↑g.2.1.length)=false->(decide ((↑d.length:Int) > 0)=true->((0:Int) <= 0/\((0:Int)<↑d.length))/\Int.toNat (0:Int)<d.length/\∀ (x:Int),d[Int.toNat (0:Int)]? = some x->(3:Int) ≠ (0:Int)/\(decide (x.tmod (3:Int) > 0)=true->((0:Int) <= 0/\((0:Int)<↑g.2.2.1.length))/\Int.toNat (0:Int)<g.2.2.1.length/\∀ (x:Int),g.2.2.1[Int.toNat (0:Int)]? = some x->((0:Int) <= 0/\((0:Int)<↑d.length))/\(Int.toNat (0:Int)<d.length/\(∀ (x_1:Int),d[Int.toNat (0:Int)]? = some x_1->(3:Int) ≠ (0:Int)/\(((0:Int) <= 0/\((0:Int)<↑g.2.2.1.length))/\(Int.toNat (0:Int)<g.2.2.1.length/\(((0:Int) <= IntKind.i64.wrap (z60 g x x_1)/\(IntKind.i64.wrap (z60 g x x_1)<(↑(z6z g x x_1).length:Int)))/\((IntKind.i64.wrap (z60 g x x_1)).toNat<(z6z g x x_1).length/\(∀ (x_2:Int),(z6z g x x_1)[(IntKind.i64.wrap (z60 g x x_1)).toNat]? = some x_2->((0:Int) <= 0/\((0:Int)<↑d.length))/\(Int.toNat (0:Int)<d.length/\(∀ (x_3:Int),d[Int.toNat (0:Int)]? = some x_3->(3:Int) ≠ (0:Int)/\(((0:Int) <= IntKind.i64.wrap (z60 g x x_1)/\(IntKind.i64.wrap (z60 g x x_1)<(↑(z6z g x x_1).length:Int)))/\((IntKind.i64.wrap (z60 g x x_1)).toNat<(z6z g x x_1).length/\(∃ (g_1:Inst),FewI g_1/\(((True/\(True/\True))/\True)/\((z6z g x x_1).set (IntKind.i64.wrap (z60 g x x_1)).toNat (IntKind.i64.wrap (x_2 - IntKind.i64.wrap (x_3.tmod (3:Int))))=g_1.sup/\(g.2.1=g_1.arcs/\True))))))))))))))))/\(decide (x.tmod (3:Int) > 0)=false->∃ (g_1:Inst),FewI g_1/\(((True/\(True/\True))/\True)/\(g.2.2.1=g_1.sup/\(g.2.1=g_1.arcs/\True)))))/\(decide ((↑d.length:Int) > 0)=false->∃ (g_1:Inst),FewI g_1/\(((True/\(True/\True))/\True)/\(g.2.2.1=g_1.sup/\(g.2.1=g_1.arcs/\True)))))
theorem Still_q (c:List Int) (d:List Int) (ty0 ty1:TypeId):Still_E0 c d ty0 ty1=z6x TT Still_g (Still_I c d) (Still_an c d) Tryz.f47 [.row 0,.row 1] [(0,.row false ty0 (.ints .u8 c)),(1,.row false ty1 (.ints .u8 d))] (Still_r c d):=by kernel_rfl
theorem Still_E (c:List Int) (d:List Int) (ty0 ty1:TypeId) (hp:Bytes c/\Bytes d):FVcR TT Still_g (Still_I c d) (Still_an c d) Tryz.f47 [.row 0,.row 1] [(0,.row false ty0 (.ints .u8 c)),(1,.row false ty1 (.ints .u8 d))] (Still_r c d):=by
 refine FVcR.of (Still_E0 c d ty0 ty1) (Still_q c d ty0 ty1) ?_
 unfold Still_E0
 delta zht z60 Still_a2 zd5 z6z z46
 obtain ⟨pc,pd⟩:=hp
 simp only [eq_self,exists_const,forall_const,ne_eq,Int.toNat_natCast,zSS,z07]
 refine ⟨pc,fun I hI=>⟨(I,I.arcs,I.sup,0),⟨⟨hI,Nat.zero_le _,AnyI.zero hI⟩,rfl,rfl,rfl⟩,?_⟩⟩
 rintro ⟨I,l,s,k⟩ ⟨hT,hk,hA⟩
 dsimp only at hT hk hA ⊢
 have hll:=hA.ll
 have hls:=hA.ls
 have m19:=hT.m
 have n2:=hT.n1
 have n10:=hT.n2
 simp only [List.length_set]
 have same:k<I.arcs.length->AnyI I (k+1) l s:=fun h=>hA.same hls (hA.sup.more (by omega)) hA.sum
 refine ⟨fun h1=>⟨fun h2=>⟨⟨by omega,by omega⟩,by omega,fun x hx=>⟨by decide,fun h3=>⟨⟨by omega,by omega⟩,by omega,fun a ha=>⟨⟨by omega,by omega⟩,by omega,fun b hb=>⟨(I,_,s,k+1),⟨hT,by show k+1 <= I.arcs.length; omega,?_⟩,by show I.arcs.length - (k+1)<I.arcs.length - k; omega,by rw [w64 (by omega) (by omega)]; show (k:Int)+1=((k+1:Nat):Int); omega,rfl,rfl⟩⟩⟩,fun h3=>⟨(I,l,s,k+1),⟨hT,by show k+1 <= I.arcs.length; omega,same (by omega)⟩,by show I.arcs.length - (k+1)<I.arcs.length - k; omega,by rw [w64 (by omega) (by omega)]; show (k:Int)+1=((k+1:Nat):Int); omega,rfl,rfl⟩⟩⟩,fun h2=>⟨(I,l,s,k+1),⟨hT,by show k+1 <= I.arcs.length; omega,same (by omega)⟩,by show I.arcs.length - (k+1)<I.arcs.length - k; omega,by rw [w64 (by omega) (by omega)]; show (k:Int)+1=((k+1:Nat):Int); omega,rfl,rfl⟩⟩,fun h1=>⟨fun h2=>⟨⟨by omega,by omega⟩,by omega,fun x hx=>⟨by decide,fun h3=>⟨⟨by omega,by omega⟩,by omega,fun y hy=>⟨⟨by omega,by omega⟩,by omega,fun x1 hx1=>⟨by decide,⟨by omega,by omega⟩,by omega,?_⟩⟩⟩,fun h3=>⟨⟨s,l⟩,AnyI.few hT hA (by omega),rfl,rfl⟩⟩⟩,fun h2=>⟨⟨s,l⟩,AnyI.few hT hA (by omega),rfl,rfl⟩⟩⟩
 ·have hM:=hA.mid (by omega)
  have ta:=hM.tiny ha
  have tc:=(hA.todo k a ha (Nat.le_refl _)).c
  have hM1:=hM.set (b:=⟨a.src,a.dst,1,a.cap,a.cost⟩) ⟨ta.s0,ta.s1,ta.d0,ta.d1,by dsimp only; omega,by dsimp only; omega,.inr (by dsimp only; omega),ta.k0,ta.k1⟩
  have tb:=hM1.tiny hb
  have hM2:=hM1.set (b:=⟨b.src,b.dst,b.low,4611686018427387904,b.cost⟩) ⟨tb.s0,tb.s1,tb.d0,tb.d1,tb.l0,tb.l1,.inl rfl,tb.k0,tb.k1⟩
  exact ⟨hM2.ll,hls,hM2.done,hM2.todo,hM2.sup.more (by show 6 * (k:Int) <= 6 * ((k+1:Nat):Int); omega),hM2.sum⟩
 ·rw [hx] at hx1
  cases hx1
  have bx:=pd x (List.mem_of_getElem? hx)
  have t0:0 <= x.tmod 3:=Int.tmod_nonneg _ bx.1
  have t1:x.tmod 3<3:=Int.tmod_lt_of_pos _ (by omega)
  have hw1:IntKind.i64.wrap ((s.length:Int) - 1)=((s.length - 1:Nat):Int):=by rw [w64 (by omega) (by omega)]; omega
  have z0:Int.toNat 0=0:=rfl
  rw [hw1,w64 (x:=x.tmod 3) (by omega) (by omega)]
  rw [z0] at hy ⊢
  have b1:=hA.sup y (List.mem_of_getElem? hy)
  rw [w64 (x:=y+x.tmod 3) (by omega) (by omega),zic hy]
  simp only [Int.toNat_natCast]
  refine ⟨⟨by omega,by omega⟩,by omega,fun z hz=>⟨⟨by omega,by omega⟩,by omega,fun x3 hx3=>⟨by decide,⟨by omega,by omega⟩,by omega,⟨_,l⟩,?_,rfl,rfl⟩⟩⟩
  rw [z0] at hx
  rw [hx] at hx3
  cases hx3
  have w1:=hA.sup.addAt (by omega) 0 (x:=x.tmod 3) (y:=3) (by omega) (by omega)
  have b2:=w1 z (List.mem_of_getElem? hz)
  rw [w64 (x:=x.tmod 3) (by omega) (by omega),w64 (x:=z - x.tmod 3) (by omega) (by omega),show z - x.tmod 3=z + -(x.tmod 3) by omega,zic hz]
  obtain ⟨m1,m2,m3⟩:=mov_ok (m:=3) hA.sup (by omega) t0 (by omega) (i:=0) (j:=s.length - 1) (by omega) (by omega)
  exact AnyI.few hT (hA.same (by rw [m1]; exact hls) (m2.more (by omega)) (by rw [m3]; exact hA.sum)) (by omega)
theorem Still_ok:SpecOk Tryz.prog Still_n true (z0l true Still_fs) :=
 z1x z0r (show z1c Tryz.prog Still_g from z00 Thin_ok (z05)) (by kernel_rfl) mixedOrders Tryz.func47 rfl rfl (by kernel_rfl) (n:=2) (by decide +kernel) (I:=Still_IA) (fun _ _=>z06) (A:=Still_A)
  (fun args h r hr=>by
   unfold Still_fs at hr
   split at hr
   ·rename_i ty0 c ty1 d; cases hr; refine ⟨rfl,fun hp=>?_⟩; have hE:=Still_E c d ty0 ty1 hp; exact hE
   ·cases hr)
abbrev zd3:=Int × List Arc × List Int × Nat->Prop
abbrev zd4:=Inst × List Arc × List Int × Nat
abbrev z3w:=Int × List Arc × List Int × Nat
abbrev z97 (g_1:z3w) (x_2:Arc) (x:Arc) (x_1:Int):=(g_1.2.1.set (↑g_1.2.2.2:Int).toNat { src:=x_2.src,dst:=x_2.dst,low:=x_2.low,cap:=IntKind.i64.wrap (x.low+IntKind.i64.wrap ((IntKind.u8.wrap (x_1.tdiv (6:Int))).tmod (5:Int))),cost:=x_2.cost:Arc })
abbrev z6a (d:List Int):=((True/\(True/\True))/\(z2c Int/\(z2c Arc/\(d=d/\True))))
abbrev z6b (g_3:z3w) (x:Arc) (x_3:Int):=(g_3.2.2.1.set x.src.toNat (IntKind.i64.wrap (x_3+g_3.1)))
def zj2 (c : List Int) (d : List Int) (ty0 ty1 : TypeId) : Prop :=
   (∀ (x:Int),List.Mem x c->(0:Int) <= x/\(x <= (255:Int)))/\∀ (g:Inst),ThinP g->∃ (g0:zd4),((ThinP g0.fst/\(g0.2.2.snd <= g0.fst.arcs.length/\(AnyI g0.fst g0.2.2.snd g0.2.fst g0.2.2.fst)))/\((True/\(0=0/\(0=0/\((0:Int)=↑g0.2.2.2/\True))))/\((True/\(True/\True))/\(g.sup=g0.2.2.1/\(g.arcs=g0.2.1/\(z6a d))))))/\∀ (g:zd4),ThinP g.fst/\g.2.2.snd <= g.fst.arcs.length/\AnyI g.fst g.2.2.snd g.2.fst g.2.2.fst->(decide ((↑g.2.2.2:Int)<↑g.2.1.length)=true->(decide ((↑g.2.2.2:Int)<↑d.length)=true->((0:Int) <= ↑g.2.2.2/\((↑g.2.2.2:Int)<↑d.length))/\(↑g.2.2.2:Int).toNat<d.length/\∀ (x:Int),d[(↑g.2.2.2:Int).toNat]? = some x->(3:Int) ≠ (0:Int)/\∃ (Q:zd3),(((0:Int) <= ↑g.2.2.2/\((↑g.2.2.2:Int)<↑d.length))/\((↑g.2.2.2:Int).toNat<d.length/\(∀ (x_1:Int),d[(↑g.2.2.2:Int).toNat]? = some x_1->(3:Int) ≠ (0:Int)/\((2:Int) ≠ (0:Int)/\(((0:Int) <= ↑g.2.2.2/\((↑g.2.2.2:Int)<↑g.2.1.length))/\((↑g.2.2.2:Int).toNat<g.2.1.length/\(∀ (x_2:Arc),g.2.1[(↑g.2.2.2:Int).toNat]? = some x_2->∃ (g_1:z3w),(True/\(Q g_1))/\((True/\(0=0/\(0=0/\((↑g.2.2.2:Int)=↑g_1.2.2.2/\(IntKind.i64.wrap (x.tmod (3:Int))=g_1.1/\True)))))/\((True/\(True/\True))/\(g.2.2.1=g_1.2.2.1/\(g.2.1.set (↑g.2.2.2:Int).toNat { src:=x_2.src,dst:=x_2.dst,low:=IntKind.i64.wrap ((IntKind.u8.wrap (x_1.tdiv (3:Int))).tmod (2:Int)),cap:=x_2.cap,cost:=x_2.cost:Arc } = g_1.2.1/\(z6a d))))))))))))/\∀ (g_1:z3w),True->Q g_1->((0:Int) <= ↑g_1.2.2.2/\((↑g_1.2.2.2:Int)<↑g_1.2.1.length))/\(↑g_1.2.2.2:Int).toNat<g_1.2.1.length/\∀ (x:Arc),g_1.2.1[(↑g_1.2.2.2:Int).toNat]? = some x->((0:Int) <= ↑g_1.2.2.2/\((↑g_1.2.2.2:Int)<↑d.length))/\(↑g_1.2.2.2:Int).toNat<d.length/\∀ (x_1:Int),d[(↑g_1.2.2.2:Int).toNat]? = some x_1->(6:Int) ≠ (0:Int)/\(5:Int) ≠ (0:Int)/\((0:Int) <= ↑g_1.2.2.2/\((↑g_1.2.2.2:Int)<↑g_1.2.1.length))/\(↑g_1.2.2.2:Int).toNat<g_1.2.1.length/\∀ (x_2:Arc),g_1.2.1[(↑g_1.2.2.2:Int).toNat]? = some x_2->∃ (Q:zd3),(((0:Int) <= ↑g_1.2.2.2/\((↑g_1.2.2.2:Int)<↑d.length))/\((↑g_1.2.2.2:Int).toNat<d.length/\(∀ (x_3:Int),d[(↑g_1.2.2.2:Int).toNat]? = some x_3->(13:Int) ≠ (0:Int)/\(((x_3.tmod (13:Int) == (0:Int))=true->((0:Int) <= ↑g_1.2.2.2/\((↑g_1.2.2.2:Int)<↑(z97 g_1 x_2 x x_1).length))/\((↑g_1.2.2.2:Int).toNat<(z97 g_1 x_2 x x_1).length/\(∀ (x_4:Arc),(z97 g_1 x_2 x x_1)[(↑g_1.2.2.2:Int).toNat]? = some x_4->∃ (g:z3w),(True/\(Q g))/\((True/\(0=0/\(0=0/\((↑g_1.2.2.2:Int)=↑g.2.2.2/\(g_1.1=g.1/\True)))))/\((True/\(True/\True))/\(g_1.2.2.1=g.2.2.1/\((z97 g_1 x_2 x x_1).set (↑g_1.2.2.2:Int).toNat { src:=x_4.src,dst:=x_4.dst,low:=x_4.low,cap:=(4611686018427387904:Int),cost:=x_4.cost:Arc } = g.2.1/\(z6a d))))))))/\((x_3.tmod (13:Int) == (0:Int))=false->∃ (g:z3w),(True/\(Q g))/\((True/\(0=0/\(0=0/\((↑g_1.2.2.2:Int)=↑g.2.2.2/\(g_1.1=g.1/\True)))))/\((True/\(True/\True))/\(g_1.2.2.1=g.2.2.1/\(g_1.2.1.set (↑g_1.2.2.2:Int).toNat { src:=x_2.src,dst:=x_2.dst,low:=x_2.low,cap:=IntKind.i64.wrap (x.low+IntKind.i64.wrap ((IntKind.u8.wrap (x_1.tdiv (6:Int))).tmod (5:Int))),cost:=x_2.cost:Arc } = g.2.1/\(z6a d))))))))))/\∀ (g_2:z3w),True->Q g_2->∃ (Q:zd3),(((0:Int) <= ↑g_2.2.2.2/\((↑g_2.2.2.2:Int)<↑d.length))/\((↑g_2.2.2.2:Int).toNat<d.length/\(∀ (x:Int),d[(↑g_2.2.2.2:Int).toNat]? = some x->(17:Int) ≠ (0:Int)/\(((0:Int) <= ↑g_2.2.2.2/\((↑g_2.2.2.2:Int)<↑g_2.2.1.length))/\((↑g_2.2.2.2:Int).toNat<g_2.2.1.length/\(∀ (x_3:Arc),g_2.2.1[(↑g_2.2.2.2:Int).toNat]? = some x_3->∃ (g:z3w),(True/\(Q g))/\((True/\(0=0/\(0=0/\((↑g_2.2.2.2:Int)=↑g.2.2.2/\(g_2.1=g.1/\True)))))/\((True/\(True/\True))/\(g_2.2.2.1=g.2.2.1/\(g_2.2.1.set (↑g_2.2.2.2:Int).toNat { src:=x_3.src,dst:=x_3.dst,low:=x_3.low,cap:=x_3.cap,cost:=IntKind.i64.wrap (IntKind.i64.wrap (x.tmod (17:Int)) - (6:Int)):Arc } = g.2.1/\(z6a d)))))))))))/\(∀ (g_3:z3w),True->Q g_3->((0:Int) <= ↑g_3.2.2.2/\((↑g_3.2.2.2:Int)<↑g_3.2.1.length))/\((↑g_3.2.2.2:Int).toNat<g_3.2.1.length/\(∀ (x:Arc),g_3.2.1[(↑g_3.2.2.2:Int).toNat]? = some x->((0:Int) <= x.src/\(x.src<(↑g_3.2.2.1.length:Int)))/\(x.src.toNat<g_3.2.2.1.length/\(∀ (x_3:Int),g_3.2.2.1[x.src.toNat]? = some x_3->((0:Int) <= x.src/\(x.src<(↑g_3.2.2.1.length:Int)))/\(x.src.toNat<g_3.2.2.1.length/\(((0:Int) <= ↑g_3.2.2.2/\((↑g_3.2.2.2:Int)<↑g_3.2.1.length))/\((↑g_3.2.2.2:Int).toNat<g_3.2.1.length/\(∀ (x_4:Arc),g_3.2.1[(↑g_3.2.2.2:Int).toNat]? = some x_4->((0:Int) <= x_4.dst/\(x_4.dst<(↑(z6b g_3 x x_3).length:Int)))/\(x_4.dst.toNat<(z6b g_3 x x_3).length/\(∀ (x_5:Int),(z6b g_3 x x_3)[x_4.dst.toNat]? = some x_5->((0:Int) <= x_4.dst/\(x_4.dst<(↑(z6b g_3 x x_3).length:Int)))/\(x_4.dst.toNat<(z6b g_3 x x_3).length/\(∃ (g':zd4),(ThinP g'.fst/\(g'.2.2.snd <= g'.fst.arcs.length/\(AnyI g'.fst g'.2.2.snd g'.2.fst g'.2.2.fst)))/\(g'.fst.arcs.length - g'.2.2.snd<g.fst.arcs.length - g.2.2.snd/\((True/\(0=0/\(0=0/\(IntKind.i64.wrap ((↑g_3.2.2.2:Int)+(1:Int))=(↑g'.2.2.2:Int)/\True))))/\((True/\(True/\True))/\((z6b g_3 x x_3).set x_4.dst.toNat (IntKind.i64.wrap (x_5 - g_3.1))=g'.2.2.1/\(g_3.2.1=g'.2.1/\(z6a d))))))))))))))))))))/\(decide ((↑g.2.2.2:Int)<↑d.length)=false->∃ (g_1:Inst),FewI g_1/\(((True/\(True/\True))/\True)/\(g.2.2.1=g_1.sup/\(g.2.1=g_1.arcs/\True)))))/\(decide ((↑g.2.2.2:Int)<↑g.2.1.length)=false->∃ (g_1:Inst),FewI g_1/\(((True/\(True/\True))/\True)/\(g.2.2.1=g_1.sup/\(g.2.1=g_1.arcs/\True))))
theorem Sparse_q (c:List Int) (d:List Int) (ty0 ty1:TypeId):zj2 c d ty0 ty1=z6x TT Sparse_g (Sparse_I c d) (zj3 c d) Tryz.f48 [.row 0,.row 1] [(0,.row false ty0 (.ints .u8 c)),(1,.row false ty1 (.ints .u8 d))] (Sparse_r c d):=by kernel_rfl
theorem Sparse_E (c:List Int) (d:List Int) (ty0 ty1:TypeId) (hp:Bytes c/\Bytes d):FVcR TT Sparse_g (Sparse_I c d) (zj3 c d) Tryz.f48 [.row 0,.row 1] [(0,.row false ty0 (.ints .u8 c)),(1,.row false ty1 (.ints .u8 d))] (Sparse_r c d):=by
 refine FVcR.of (zj2 c d ty0 ty1) (Sparse_q c d ty0 ty1) ?_
 unfold zj2
 delta z6b z6a z97 zd3 zd4 z3w
 obtain ⟨pc,pd⟩:=hp
 simp only [eq_self,exists_const,forall_const,ne_eq,Int.toNat_natCast,zSS,z07]
 refine ⟨pc,fun I hI=>⟨(I,I.arcs,I.sup,0),⟨⟨hI,Nat.zero_le _,AnyI.zero hI⟩,rfl,rfl,rfl⟩,?_⟩⟩
 rintro ⟨I,l,s,k⟩ ⟨hT,hk,hA⟩
 dsimp only at hT hk hA ⊢
 have hll:=hA.ll
 have hls:=hA.ls
 have m19:=hT.m
 refine ⟨fun h1=>⟨fun h2=>⟨⟨by omega,by omega⟩,by omega,fun x hx=>⟨by decide,(fun g=>g.2.2.2=k/\AnyM I k g.2.1 g.2.2.1/\0 <= g.1/\g.1 <= 3),⟨⟨by omega,by omega⟩,by omega,fun y hy=>⟨by decide,by decide,⟨by omega,by omega⟩,by omega,fun a ha=>⟨(_,_,s,k),⟨rfl,?_,?_⟩,⟨rfl,rfl⟩,rfl,rfl⟩⟩⟩,?_⟩⟩,fun h2=>⟨⟨s,l⟩,AnyI.few hT hA (by omega),rfl,rfl⟩⟩,fun h2=>⟨⟨s,l⟩,AnyI.few hT hA (by omega),rfl,rfl⟩⟩
 ·have by_:=pd y (List.mem_of_getElem? hy)
  have e4:y.tdiv 3=y / 3:=Int.tdiv_eq_ediv_of_nonneg by_.1
  have u0:0 <= (y.tdiv 3).tmod 2:=Int.tmod_nonneg _ (by omega)
  have u1:(y.tdiv 3).tmod 2<2:=Int.tmod_lt_of_pos _ (by omega)
  show AnyM I k (l.set k _) s
  rw [wu8 (x:=y.tdiv 3) (by omega) (by omega),w64 (x:=(y.tdiv 3).tmod 2) (by omega) (by omega)]
  have tn:=hA.todo k a ha (Nat.le_refl _)
  have ta:=tn.t
  have tc:=tn.c
  exact (hA.mid (by omega)).set ⟨ta.s0,ta.s1,ta.d0,ta.d1,u0,by dsimp only; omega,.inr (by dsimp only; omega),ta.k0,ta.k1⟩
 ·have bx:=pd x (List.mem_of_getElem? hx)
  have t0:0 <= x.tmod 3:=Int.tmod_nonneg _ bx.1
  have t1:x.tmod 3<3:=Int.tmod_lt_of_pos _ (by omega)
  show 0 <= IntKind.i64.wrap (x.tmod 3)/\IntKind.i64.wrap (x.tmod 3) <= 3
  rw [w64 (x:=x.tmod 3) (by omega) (by omega)]
  exact ⟨t0,by omega⟩
 rintro ⟨n1,l1,s1,k1⟩ ⟨ek,hM,n0,n3⟩
 dsimp only at ek hM n0 n3 ⊢
 subst ek
 have hll:=hM.ll
 have hls:=hM.ls
 try simp only [List.length_set]
 refine ⟨⟨by omega,by omega⟩,by omega,fun a ha=>⟨⟨by omega,by omega⟩,by omega,fun y hy=>⟨by decide,by decide,⟨by omega,by omega⟩,by omega,fun b hb=>⟨(fun g=>g.2.2.2=k1/\AnyM I k1 g.2.1 g.2.2.1/\0 <= g.1/\g.1 <= 3),⟨⟨by omega,by omega⟩,by omega,fun z hz=>⟨by decide,?_⟩⟩,?_⟩⟩⟩⟩
 ·rw [ha] at hb
  cases hb
  have by_:=pd y (List.mem_of_getElem? hy)
  have e6:y.tdiv 6=y / 6:=Int.tdiv_eq_ediv_of_nonneg by_.1
  have u0:0 <= (y.tdiv 6).tmod 5:=Int.tmod_nonneg _ (by omega)
  have u1:(y.tdiv 6).tmod 5<5:=Int.tmod_lt_of_pos _ (by omega)
  have ta:=hM.tiny ha
  have a0:=ta.l0
  have a1:=ta.l1
  rw [wu8 (x:=y.tdiv 6) (by omega) (by omega),w64 (x:=(y.tdiv 6).tmod 5) (by omega) (by omega),w64 (x:=a.low+(y.tdiv 6).tmod 5) (by omega) (by omega)]
  have hM1:=hM.set (b:=⟨a.src,a.dst,a.low,a.low+(y.tdiv 6).tmod 5,a.cost⟩) ⟨ta.s0,ta.s1,ta.d0,ta.d1,a0,a1,.inr (by dsimp only; omega),ta.k0,ta.k1⟩
  refine ⟨fun h3=>⟨⟨by omega,by omega⟩,by omega,fun b hb=>⟨(_,_,s1,k1),⟨rfl,hM1.set ?_,n0,n3⟩,⟨rfl,rfl⟩,rfl,rfl⟩⟩,fun h3=>⟨(_,_,s1,k1),⟨rfl,hM1,n0,n3⟩,⟨rfl,rfl⟩,rfl,rfl⟩⟩
  have tb:=hM1.tiny hb
  exact ⟨tb.s0,tb.s1,tb.d0,tb.d1,tb.l0,tb.l1,.inl rfl,tb.k0,tb.k1⟩
 clear ha hb
 rintro ⟨n2,l2,s2,k2⟩ ⟨ek,hM,n0,n3⟩
 dsimp only at ek hM n0 n3 ⊢
 subst ek
 have hll:=hM.ll
 have hls:=hM.ls
 try simp only [List.length_set]
 refine ⟨(fun g=>g.2.2.2=k2/\AnyM I k2 g.2.1 g.2.2.1/\0 <= g.1/\g.1 <= 3),⟨⟨by omega,by omega⟩,by omega,fun x hx=>⟨by decide,⟨by omega,by omega⟩,by omega,fun a ha=>⟨(_,_,s2,k2),⟨rfl,hM.set ?_,n0,n3⟩,⟨rfl,rfl⟩,rfl,rfl⟩⟩⟩,?_⟩
 ·have bx:=pd x (List.mem_of_getElem? hx)
  have t0:0 <= x.tmod 17:=Int.tmod_nonneg _ bx.1
  have t1:x.tmod 17<17:=Int.tmod_lt_of_pos _ (by omega)
  have ta:=hM.tiny ha
  rw [w64 (x:=x.tmod 17) (by omega) (by omega),w64 (x:=x.tmod 17 - 6) (by omega) (by omega)]
  exact ⟨ta.s0,ta.s1,ta.d0,ta.d1,ta.l0,ta.l1,ta.c,by show -6 <= x.tmod 17 - 6; omega,by show x.tmod 17 - 6 <= 20; omega⟩
 rintro ⟨n,l',s',k'⟩ ⟨ek,hM,n0,n1⟩
 dsimp only at ek hM n0 n1 ⊢
 subst ek
 have hll:=hM.ll
 have hls:=hM.ls
 have m19:=hT.m
 refine ⟨⟨by omega,by omega⟩,by omega,fun a ha=>?_⟩
 have ta:=hM.tiny ha
 obtain ⟨s0,s1,d0,d1,-,-,-,-,-⟩:=ta
 refine ⟨⟨by omega,by omega⟩,by omega,fun y hy=>⟨⟨by omega,by omega⟩,by omega,⟨by omega,by omega⟩,by omega,fun b hb=>?_⟩⟩
 rw [ha] at hb
 cases hb
 try simp only [List.length_set]
 refine ⟨⟨by omega,by omega⟩,by omega,fun z hz=>⟨⟨by omega,by omega⟩,by omega,(I,l',_,k'+1),⟨hT,by dsimp only; omega,hM.move hT ha n0 n1 hy hz⟩,by dsimp only; omega,by rw [w64 (by omega) (by omega)]; dsimp only; omega,rfl,rfl⟩⟩
theorem Sparse_ok:SpecOk Tryz.prog Sparse_n true (z0l true zj4) :=
 z1x z0r (show z1c Tryz.prog Sparse_g from z00 Thin_ok (z05)) (by kernel_rfl) mixedOrders Tryz.func48 rfl rfl (by kernel_rfl) (n:=2) (by decide +kernel) (I:=Sparse_IA) (fun _ _=>z06) (A:=Sparse_A)
  (fun args h r hr=>by
   unfold zj4 at hr
   split at hr
   ·rename_i ty0 c ty1 d; cases hr; refine ⟨rfl,fun hp=>?_⟩; have hE:=Sparse_E c d ty0 ty1 hp; exact hE
   ·cases hr)
abbrev Add64_n:Nat:=118
def zez:Vc.Spec:=fun args hp nk K=>match args with
 | [.int .u64 x,.int .u64 y,.int .u64 c]=>(0 <= x/\0 <= y/\0 <= c/\c <= 1)/\K (.tup [.int .u64 ((x+y+c) % 18446744073709551616),.int .u64 ((x+y+c) / 18446744073709551616)]) hp nk
 | _=>False
abbrev Sub64_n:Nat:=117
def zf3:Vc.Spec:=fun args hp nk K=>match args with
 | [.int .u64 x,.int .u64 y,.int .u64 c]=>(0 <= x/\0 <= y/\y <= 18446744073709551615/\0 <= c/\c <= 1)/\K (.tup [.int .u64 ((x - y - c) % 18446744073709551616),.int .u64 (if x<y+c then 1 else 0)]) hp nk
 | _=>False
def Mul64_r (x:Int) (y:Int):FRes:={ pre:=U64 x/\U64 y,res:=.tup [.int .u64 (x * y / 18446744073709551616),.int .u64 ((x * y) % 18446744073709551616)],rows:=[],eff:=[] }
def Mul64_fs:FS:=fun args h=>match args,h with
 | [.int .u64 x,.int .u64 y],[]=>some (Mul64_r x y)
 | _,_=>none
def Mul64_an (x:Int) (y:Int):List (Nat × Ann):=[]
def Mul64_A:List SV->z0d->List (Nat × Ann):=fun _ _=>[]
def Mul64_g:z0c:=[]
abbrev Mul64_n:Nat:=129
def Mul64_I (x:Int) (y:Int):List (Nat × z08):=[]
def Mul64_IA:List SV->z0d->List (Nat × z08):=fun _ _=>[]
def size_r (n:Int):FRes:={ pre:=I64 n,res:=.int .u64 (if n<0 then -n else n),rows:=[],eff:=[] }
def size_fs:FS:=fun args h=>match args,h with
 | [.int .i64 n],[]=>some (size_r n)
 | _,_=>none
def size_an (n:Int):List (Nat × Ann):=[]
def size_A:List SV->z0d->List (Nat × Ann):=fun _ _=>[]
def size_g:z0c:=[]
abbrev size_n:Nat:=130
def size_I (n:Int):List (Nat × z08):=[]
def size_IA:List SV->z0d->List (Nat × z08):=fun _ _=>[]
def Of_r (n:Int):FRes:={ pre:=I64 n,res:=.agg (z0v (W n)),rows:=[],eff:=[] }
def Of_fs:FS:=fun args h=>match args,h with
 | [.int .i64 n],[]=>some (Of_r n)
 | _,_=>none
def Of_an (n:Int):List (Nat × Ann):=[]
def Of_A:List SV->z0d->List (Nat × Ann):=fun _ _=>[]
def Of_g:z0c:=[]
abbrev Of_n:Nat:=42
def Of_I (n:Int):List (Nat × z08):=[]
def Of_IA:List SV->z0d->List (Nat × z08):=fun _ _=>[]
def Plus_r (a:Wide) (b:Wide):FRes:={ pre:=a.ok/\b.ok,res:=.agg (z0v (z3g a b)),rows:=[],eff:=[] }
def Plus_fs:FS:=fun args h=>match args,h with
 | [.agg [.int .i64 a_0,.int .u64 a_1],.agg [.int .i64 b_0,.int .u64 b_1]],[]=>some (Plus_r ⟨a_0,a_1⟩ ⟨b_0,b_1⟩)
 | _,_=>none
def Plus_an (a:Wide) (b:Wide):List (Nat × Ann):=[]
def Plus_A:List SV->z0d->List (Nat × Ann):=fun _ _=>[]
def Plus_g:z0c:=[(Add64_n,(true,zez))]
abbrev Plus_n:Nat:=66
def Plus_I (a:Wide) (b:Wide):List (Nat × z08):=[]
def Plus_IA:List SV->z0d->List (Nat × z08):=fun _ _=>[]
def Minus_r (a:Wide) (b:Wide):FRes:={ pre:=a.ok/\b.ok,res:=.agg (z0v (z3f a b)),rows:=[],eff:=[] }
def Minus_fs:FS:=fun args h=>match args,h with
 | [.agg [.int .i64 a_0,.int .u64 a_1],.agg [.int .i64 b_0,.int .u64 b_1]],[]=>some (Minus_r ⟨a_0,a_1⟩ ⟨b_0,b_1⟩)
 | _,_=>none
def Minus_an (a:Wide) (b:Wide):List (Nat × Ann):=[]
def Minus_A:List SV->z0d->List (Nat × Ann):=fun _ _=>[]
def Minus_g:z0c:=[(Sub64_n,(true,zf3))]
abbrev Minus_n:Nat:=65
def Minus_I (a:Wide) (b:Wide):List (Nat × z08):=[]
def Minus_IA:List SV->z0d->List (Nat × z08):=fun _ _=>[]
def Times_r (a:Int) (b:Int):FRes:={ pre:=I64 a/\I64 b,res:=.agg (z0v (W (a * b))),rows:=[],eff:=[] }
def Times_fs:FS:=fun args h=>match args,h with
 | [.int .i64 a,.int .i64 b],[]=>some (Times_r a b)
 | _,_=>none
def Times_an (a:Int) (b:Int):List (Nat × Ann):=[]
def Times_A:List SV->z0d->List (Nat × Ann):=fun _ _=>[]
def Times_g:z0c:=[(size_n,(true,z03 true size_fs)),(Mul64_n,(true,z03 true Mul64_fs)),(Minus_n,(true,z03 true Minus_fs))]
abbrev Times_n:Nat:=75
def Times_I (a:Int) (b:Int):List (Nat × z08):=[]
def Times_IA:List SV->z0d->List (Nat × z08):=fun _ _=>[]
def rOf_r (n:Int):FRes:={ pre:=I64 n,res:=.agg (z0v (W n)),rows:=[],eff:=[] }
def zhd:FS:=fun args h=>match args,h with
 | [.int .i64 n],[]=>some (rOf_r n)
 | _,_=>none
def rOf_an (n:Int):List (Nat × Ann):=[]
def rOf_A:List SV->z0d->List (Nat × Ann):=fun _ _=>[]
def rOf_g:z0c:=[]
abbrev rOf_n:Nat:=94
def rOf_I (n:Int):List (Nat × z08):=[]
def rOf_IA:List SV->z0d->List (Nat × z08):=fun _ _=>[]
def rPlus_r (a:Wide) (b:Wide):FRes:={ pre:=a.ok/\b.ok,res:=.agg (z0v (z3g a b)),rows:=[],eff:=[] }
def z63:FS:=fun args h=>match args,h with
 | [.agg [.int .i64 a_0,.int .u64 a_1],.agg [.int .i64 b_0,.int .u64 b_1]],[]=>some (rPlus_r ⟨a_0,a_1⟩ ⟨b_0,b_1⟩)
 | _,_=>none
def rPlus_an (a:Wide) (b:Wide):List (Nat × Ann):=[]
def rPlus_A:List SV->z0d->List (Nat × Ann):=fun _ _=>[]
def rPlus_g:z0c:=[]
abbrev z9z:Nat:=144
def rPlus_I (a:Wide) (b:Wide):List (Nat × z08):=[]
def rPlus_IA:List SV->z0d->List (Nat × z08):=fun _ _=>[]
def rLess_r (a:Wide):FRes:={ pre:=a.ok,res:=.agg (z0v (W (-a.v))),rows:=[],eff:=[] }
def rLess_fs:FS:=fun args h=>match args,h with
 | [.agg [.int .i64 a_0,.int .u64 a_1]],[]=>some (rLess_r ⟨a_0,a_1⟩)
 | _,_=>none
def rLess_an (a:Wide):List (Nat × Ann):=[]
def rLess_A:List SV->z0d->List (Nat × Ann):=fun _ _=>[]
def rLess_g:z0c:=[(z9z,(true,z03 true z63))]
abbrev rLess_n:Nat:=159
def rLess_I (a:Wide):List (Nat × z08):=[]
def rLess_IA:List SV->z0d->List (Nat × z08):=fun _ _=>[]
def rMinus_r (a:Wide) (b:Wide):FRes:={ pre:=a.ok/\b.ok,res:=.agg (z0v (z3f a b)),rows:=[],eff:=[] }
def z9y:FS:=fun args h=>match args,h with
 | [.agg [.int .i64 a_0,.int .u64 a_1],.agg [.int .i64 b_0,.int .u64 b_1]],[]=>some (rMinus_r ⟨a_0,a_1⟩ ⟨b_0,b_1⟩)
 | _,_=>none
def rMinus_an (a:Wide) (b:Wide):List (Nat × Ann):=[]
def rMinus_A:List SV->z0d->List (Nat × Ann):=fun _ _=>[]
def rMinus_g:z0c:=[(z9z,(true,z03 true z63)),(rLess_n,(true,z03 true rLess_fs))]
abbrev zi7:Nat:=142
def rMinus_I (a:Wide) (b:Wide):List (Nat × z08):=[]
def rMinus_IA:List SV->z0d->List (Nat × z08):=fun _ _=>[]
def zg3 (a:Wide) (b:Wide):FRes:={ pre:=a.ok/\b.ok,res:=.int .i64 (zie a b),rows:=[],eff:=[] }
def z6n:FS:=fun args h=>match args,h with
 | [.agg [.int .i64 a_0,.int .u64 a_1],.agg [.int .i64 b_0,.int .u64 b_1]],[]=>some (zg3 ⟨a_0,a_1⟩ ⟨b_0,b_1⟩)
 | _,_=>none
def zlr (a:Wide) (b:Wide):List (Nat × Ann):=[]
def rCompare_A:List SV->z0d->List (Nat × Ann):=fun _ _=>[]
def zg2:z0c:=[]
abbrev zau:Nat:=88
def rCompare_I (a:Wide) (b:Wide):List (Nat × z08):=[]
def rCompare_IA:List SV->z0d->List (Nat × z08):=fun _ _=>[]
theorem Add64_ok:SpecOk Tryz.prog Add64_n true zez:=by
 refine .ext fun ρ hp nk w args K hh h=>?_
 unfold zez at h
 split at h
 ·obtain ⟨⟨h1,h2,h3,h4⟩,hk⟩:=h
  refine ⟨_,?_,hk⟩
  simp only [z0s,SV.toV]
  rw [run_callFunc_extern Tryz.func118 (by kernel_rfl) (by kernel_rfl) (by kernel_rfl) (e:=add64Entry) (by kernel_rfl),run_add64 _ _ _ h1 h2 h3 h4]
  simp only [Result.andThen]
 ·exact h.elim
theorem run_sub64 {P:Program} (x y b:Nat) (hb:b <= 1) (w:World) :
  ((Extern.MathBitsCarry.rows[1]).2 #[.int .u64 x,.int .u64 y,.int .u64 b]).run P w =
   .ok (.tuple #[.int .u64 (((x+18446744073709551616 - y - b) % 18446744073709551616:Nat):Int),.int .u64 ((if x<y+b then 1 else 0:Nat):Int)]) w:=by
 have:b=0 ∨ b=1:=by omega
 rcases this with rfl | rfl <;> rfl
theorem Sub64_ok:SpecOk Tryz.prog Sub64_n true zf3:=by
 refine .ext fun ρ hp nk w args K hh h=>?_
 unfold zf3 at h
 split at h
 ·rename_i x y c
  obtain ⟨⟨h1,h2,h3,h4,h5⟩,hk⟩:=h
  obtain ⟨X,rfl⟩:=Int.eq_ofNat_of_zero_le h1
  obtain ⟨Y,rfl⟩:=Int.eq_ofNat_of_zero_le h2
  obtain ⟨B,rfl⟩:=Int.eq_ofNat_of_zero_le h4
  refine ⟨_,?_,hk⟩
  simp only [z0s,SV.toV]
  rw [run_callFunc_extern Tryz.func117 (by kernel_rfl) (by kernel_rfl) (by kernel_rfl) (e:=(Extern.MathBitsCarry.rows[1]).2) (by kernel_rfl),run_sub64 X Y B (by omega)]
  simp only [Result.andThen]
  have e1:(((X+18446744073709551616 - Y - B) % 18446744073709551616:Nat):Int)=((X:Int) - Y - B) % 18446744073709551616:=by omega
  have e2:((if X<Y+B then 1 else 0:Nat):Int)=if (X:Int)<Y+B then 1 else 0:=by split <;> split <;> omega
  rw [e1,e2]
 ·exact h.elim
def Mul64_E0 (x : Int) (y : Int) : Prop :=
      (0:Int) <= (32:Int) /\
 (0:Int) <= (32:Int) /\
 (0:Int) <= (32:Int) /\
 (0:Int) <= (32:Int) /\
 (0:Int) <= (32:Int) /\
 ((IntKind.u64.wrap
 (IntKind.u64.wrap
 (IntKind.u64.wrap (x.fdiv ((2:Int) ^ min (Int.toNat (32:Int)) IntKind.u64.bits) * y.fdiv ((2:Int) ^ min (Int.toNat (32:Int)) IntKind.u64.bits)) +
 (IntKind.u64.wrap
 (IntKind.u64.wrap (x.fdiv ((2:Int) ^ min (Int.toNat (32:Int)) IntKind.u64.bits) * andS IntKind.u64 y (4294967295:Int)) +
 (IntKind.u64.wrap (andS IntKind.u64 x (4294967295:Int) * andS IntKind.u64 y (4294967295:Int))).fdiv
 ((2:Int) ^ min (Int.toNat (32:Int)) IntKind.u64.bits))).fdiv
 ((2:Int) ^ min (Int.toNat (32:Int)) IntKind.u64.bits)) +
 (IntKind.u64.wrap
 (andS IntKind.u64
 (IntKind.u64.wrap
 (IntKind.u64.wrap (x.fdiv ((2:Int) ^ min (Int.toNat (32:Int)) IntKind.u64.bits) * andS IntKind.u64 y (4294967295:Int)) +
 (IntKind.u64.wrap (andS IntKind.u64 x (4294967295:Int) * andS IntKind.u64 y (4294967295:Int))).fdiv
 ((2:Int) ^ min (Int.toNat (32:Int)) IntKind.u64.bits)))
 (4294967295:Int) +
 IntKind.u64.wrap (andS IntKind.u64 x (4294967295:Int) * y.fdiv ((2:Int) ^ min (Int.toNat (32:Int)) IntKind.u64.bits)))).fdiv
 ((2:Int) ^ min (Int.toNat (32:Int)) IntKind.u64.bits)) =
 x * y / (18446744073709551616:Int) /\
 IntKind.u64.wrap (x * y)=x * y % (18446744073709551616:Int)/\True) /\
 True) /\
 True
theorem Mul64_q (x:Int) (y:Int):Mul64_E0 x y=z2r TT Mul64_g (Mul64_I x y) (Mul64_an x y) Tryz.f129 [.int .u64 x,.int .u64 y] [] (Mul64_r x y):=by kernel_rfl
theorem Mul64_E (x:Int) (y:Int) (hp:U64 x/\U64 y):FVc TT Mul64_g (Mul64_I x y) (Mul64_an x y) Tryz.f129 [.int .u64 x,.int .u64 y] [] (Mul64_r x y):=by
 refine FVc.of (Mul64_E0 x y) (Mul64_q x y) ?_
 unfold Mul64_E0
 simp only [eq_self,exists_const,forall_const,ne_eq,Int.toNat_natCast,zSS]
 obtain ⟨⟨x1,x2⟩,y1,y2⟩:=hp
 have e:(2:Int) ^ min (Int.toNat 32) IntKind.u64.bits=4294967296:=by decide
 rw [e]
 simp only [Int.fdiv_eq_ediv_of_nonneg _ (show (0:Int) <= 4294967296 by decide),and_low x1 x2,and_low y1 y2]
 refine ⟨by omega,by omega,by omega,by omega,by omega,?_,z8w _⟩
 obtain ⟨a,ha⟩:∃ a,a=x / 4294967296:=⟨_,rfl⟩
 obtain ⟨b,hb⟩:∃ b,b=x % 4294967296:=⟨_,rfl⟩
 obtain ⟨c,hc⟩:∃ c,c=y / 4294967296:=⟨_,rfl⟩
 obtain ⟨d,hd⟩:∃ d,d=y % 4294967296:=⟨_,rfl⟩
 rw [<- ha,<- hb,<- hc,<- hd]
 have hx:x=a * 4294967296+b:=by omega
 have hy:y=c * 4294967296+d:=by omega
 have hxy:x * y=a * c * 18446744073709551616+(a * d+b * c) * 4294967296+b * d:=by
  rw [hx,hy]
  grind
 have bd:∀ p q:Int,0 <= p->p <= 4294967295->0 <= q->q <= 4294967295->0 <= p * q/\p * q <= 18446744065119617025:=fun p q h1 h2 h3 h4=>by
  have:=zkt (a:=p) (b:=q) (A:=4294967295) (B:=4294967295) (by omega) (by omega) (by omega) (by omega) (by omega) (by omega)
  exact ⟨Int.mul_nonneg h1 h3,by omega⟩
 have q1:=bd a c (by omega) (by omega) (by omega) (by omega)
 have q2:=bd a d (by omega) (by omega) (by omega) (by omega)
 have q3:=bd b c (by omega) (by omega) (by omega) (by omega)
 have q4:=bd b d (by omega) (by omega) (by omega) (by omega)
 rw [hxy]
 generalize a * c=ac at *
 generalize a * d=ad at *
 generalize b * c=bc at *
 generalize b * d=bdd at *
 rw [wu64 q4.1 (by omega),wu64 q2.1 (by omega),wu64 (x:=ad+bdd / 4294967296) (by omega) (by omega),wu64 q1.1 (by omega),wu64 q3.1 (by omega),and_low (by omega) (by omega)]
 rw [wu64 (x:=(ad+bdd / 4294967296) % 4294967296+bc) (by omega) (by omega)]
 rw [wu64 (x:=ac+(ad+bdd / 4294967296) / 4294967296) (by omega) (by omega)]
 rw [wu64 (by omega) (by omega)]
 omega
theorem Mul64_ok:SpecOk Tryz.prog Mul64_n true (z03 true Mul64_fs) :=
 z0b z0r (show z1c Tryz.prog Mul64_g from z05) (by kernel_rfl) mixedOrders Tryz.func129 rfl rfl (by kernel_rfl) (n:=2) (by decide +kernel) (I:=Mul64_IA) (fun _ _=>z06) (A:=Mul64_A)
  (fun args h r hr=>by
   unfold Mul64_fs at hr
   split at hr
   ·rename_i x y; cases hr; refine ⟨rfl,fun hp=>?_⟩; have hE:=Mul64_E x y hp; exact hE
   ·cases hr)
def size_E0 (n : Int) : Prop :=
      (decide (n<(0:Int))=true->((IntKind.u64.wrap ((0:Int) - IntKind.u64.wrap n)=if n<(0:Int) then -n else n)/\True)/\True) /\
 (decide (n<(0:Int))=false->((IntKind.u64.wrap n=if n<(0:Int) then -n else n)/\True)/\True)
theorem size_q (n:Int):size_E0 n=z2r TT size_g (size_I n) (size_an n) Tryz.f130 [.int .i64 n] [] (size_r n):=by kernel_rfl
theorem size_E (n:Int) (hp:I64 n):FVc TT size_g (size_I n) (size_an n) Tryz.f130 [.int .i64 n] [] (size_r n):=by
 refine FVc.of (size_E0 n) (size_q n) ?_
 unfold size_E0
 simp only [eq_self,exists_const,forall_const,ne_eq,Int.toNat_natCast,zSS]
 unfold I64 at hp
 simp only [z8w]
 refine ⟨fun h=>?_,fun h=>?_⟩
 ·rw [if_pos h]; omega
 ·rw [if_neg h]; omega
theorem size_ok:SpecOk Tryz.prog size_n true (z03 true size_fs) :=
 z0b z0r (show z1c Tryz.prog size_g from z05) (by kernel_rfl) mixedOrders Tryz.func130 rfl rfl (by kernel_rfl) (n:=1) (by decide +kernel) (I:=size_IA) (fun _ _=>z06) (A:=size_A)
  (fun args h r hr=>by
   unfold size_fs at hr
   split at hr
   ·rename_i n; cases hr; refine ⟨rfl,fun hp=>?_⟩; have hE:=size_E n hp; exact hE
   ·cases hr)
def Of_E0 (n : Int) : Prop :=
   (0:Int) <= (63:Int)/\((n.fdiv ((2:Int) ^ min (Int.toNat (63:Int)) IntKind.i64.bits)=(W n).hi/\IntKind.u64.wrap n=(W n).lo/\True)/\True)/\True
theorem Of_q (n:Int):Of_E0 n=z2r TT Of_g (Of_I n) (Of_an n) Tryz.f42 [.int .i64 n] [] (Of_r n):=by kernel_rfl
theorem Of_E (n:Int) (hp:I64 n):FVc TT Of_g (Of_I n) (Of_an n) Tryz.f42 [.int .i64 n] [] (Of_r n):=by
 refine FVc.of (Of_E0 n) (Of_q n) ?_
 unfold Of_E0
 simp only [eq_self,exists_const,forall_const,ne_eq,Int.toNat_natCast,zSS]
 unfold I64 at hp
 have e:(2:Int) ^ min (Int.toNat 63) IntKind.i64.bits=9223372036854775808:=by decide
 rw [e,Int.fdiv_eq_ediv_of_nonneg _ (show (0:Int) <= 9223372036854775808 by decide)]
 simp only [z8w,W,and_true]
 omega
theorem Of_ok:SpecOk Tryz.prog Of_n true (z03 true Of_fs) :=
 z0b z0r (show z1c Tryz.prog Of_g from z05) (by kernel_rfl) mixedOrders Tryz.func42 rfl rfl (by kernel_rfl) (n:=1) (by decide +kernel) (I:=Of_IA) (fun _ _=>z06) (A:=Of_A)
  (fun args h r hr=>by
   unfold Of_fs at hr
   split at hr
   ·rename_i n; cases hr; refine ⟨rfl,fun hp=>?_⟩; have hE:=Of_E n hp; exact hE
   ·cases hr)
def Plus_E0 (a : Wide) (b : Wide) : Prop :=
      ((0:Int) <= a.lo/\(0:Int) <= b.lo/\(0:Int) <= (0:Int)/\(0:Int) <= (1:Int)) /\
 ((0:Int) <= IntKind.u64.wrap a.hi /\
 (0:Int) <= IntKind.u64.wrap b.hi /\
 (0:Int) <= (a.lo+b.lo+(0:Int)) / (18446744073709551616:Int)/\(a.lo+b.lo+(0:Int)) / (18446744073709551616:Int) <= (1:Int)) /\
 ((IntKind.i64.wrap ((IntKind.u64.wrap a.hi+IntKind.u64.wrap b.hi+(a.lo+b.lo+(0:Int)) / (18446744073709551616:Int)) % (18446744073709551616:Int)) =
 (z3g a b).hi /\
 (a.lo+b.lo+(0:Int)) % (18446744073709551616:Int)=(z3g a b).lo/\True) /\
 True) /\
 True
theorem Plus_q (a:Wide) (b:Wide):Plus_E0 a b=z2r TT Plus_g (Plus_I a b) (Plus_an a b) Tryz.f66 [.agg (z0v a),.agg (z0v b)] [] (Plus_r a b):=by kernel_rfl
theorem Plus_E (a:Wide) (b:Wide) (hp:a.ok/\b.ok):FVc TT Plus_g (Plus_I a b) (Plus_an a b) Tryz.f66 [.agg (z0v a),.agg (z0v b)] [] (Plus_r a b):=by
 refine FVc.of (Plus_E0 a b) (Plus_q a b) ?_
 unfold Plus_E0
 simp only [eq_self,exists_const,forall_const,ne_eq,Int.toNat_natCast,zSS]
 obtain ⟨⟨⟨a1,a2⟩,a3,a4⟩,⟨b1,b2⟩,b3,b4⟩:=hp
 simp only [z8w,zgw,z3g,W,Wide.v]
 omega
theorem Plus_ok:SpecOk Tryz.prog Plus_n true (z03 true Plus_fs) :=
 z0b z0r (show z1c Tryz.prog Plus_g from z00 Add64_ok (z05)) (by kernel_rfl) mixedOrders Tryz.func66 rfl rfl (by kernel_rfl) (n:=2) (by decide +kernel) (I:=Plus_IA) (fun _ _=>z06) (A:=Plus_A)
  (fun args h r hr=>by
   unfold Plus_fs at hr
   split at hr
   ·rename_i a_0 a_1 b_0 b_1; cases hr; refine ⟨rfl,fun hp=>?_⟩; have hE:=Plus_E ⟨a_0,a_1⟩ ⟨b_0,b_1⟩ hp; exact hE
   ·cases hr)
def Minus_E0 (a : Wide) (b : Wide) : Prop :=
      ((0:Int) <= a.lo/\(0:Int) <= b.lo/\b.lo <= (18446744073709551615:Int)/\(0:Int) <= (0:Int)/\(0:Int) <= (1:Int)) /\
 ((0:Int) <= IntKind.u64.wrap a.hi /\
 (0:Int) <= IntKind.u64.wrap b.hi /\
 IntKind.u64.wrap b.hi <= (18446744073709551615:Int) /\
 ((0:Int) <= if a.lo<b.lo+(0:Int) then (1:Int) else (0:Int))/\(if a.lo<b.lo+(0:Int) then (1:Int) else (0:Int)) <= (1:Int)) /\
 ((IntKind.i64.wrap ((IntKind.u64.wrap a.hi - IntKind.u64.wrap b.hi - if a.lo<b.lo+(0:Int) then (1:Int) else (0:Int)) % (18446744073709551616:Int)) =
 (z3f a b).hi /\
 (a.lo - b.lo - (0:Int)) % (18446744073709551616:Int)=(z3f a b).lo/\True) /\
 True) /\
 True
theorem Minus_q (a:Wide) (b:Wide):Minus_E0 a b=z2r TT Minus_g (Minus_I a b) (Minus_an a b) Tryz.f65 [.agg (z0v a),.agg (z0v b)] [] (Minus_r a b):=by kernel_rfl
theorem Minus_E (a:Wide) (b:Wide) (hp:a.ok/\b.ok):FVc TT Minus_g (Minus_I a b) (Minus_an a b) Tryz.f65 [.agg (z0v a),.agg (z0v b)] [] (Minus_r a b):=by
 refine FVc.of (Minus_E0 a b) (Minus_q a b) ?_
 unfold Minus_E0
 simp only [eq_self,exists_const,forall_const,ne_eq,Int.toNat_natCast,zSS]
 obtain ⟨⟨⟨a1,a2⟩,a3,a4⟩,⟨b1,b2⟩,b3,b4⟩:=hp
 simp only [z8w,zgw,z3f,W,Wide.v]
 split <;> omega
theorem Minus_ok:SpecOk Tryz.prog Minus_n true (z03 true Minus_fs) :=
 z0b z0r (show z1c Tryz.prog Minus_g from z00 Sub64_ok (z05)) (by kernel_rfl) mixedOrders Tryz.func65 rfl rfl (by kernel_rfl) (n:=2) (by decide +kernel) (I:=Minus_IA) (fun _ _=>z06) (A:=Minus_A)
  (fun args h r hr=>by
   unfold Minus_fs at hr
   split at hr
   ·rename_i a_0 a_1 b_0 b_1; cases hr; refine ⟨rfl,fun hp=>?_⟩; have hE:=Minus_E ⟨a_0,a_1⟩ ⟨b_0,b_1⟩ hp; exact hE
   ·cases hr)
def Times_E0 (a : Int) (b : Int) : Prop :=
      I64 a /\
 I64 b /\
 (U64 (if a<(0:Int) then -a else a)/\U64 (if b<(0:Int) then -b else b)) /\
 ((!decide (a<(0:Int)) == decide (b<(0:Int)))=true ->
 ({ hi:=(0:Int),lo:=(0:Int):Wide }.ok /\
 { hi:=IntKind.i64.wrap (((if a<(0:Int) then -a else a) * if b<(0:Int) then -b else b) / (18446744073709551616:Int)),lo:=((if a<(0:Int) then -a else a) * if b<(0:Int) then -b else b) % (18446744073709551616:Int):Wide }.ok) /\
 (((z3f { hi:=(0:Int),lo:=(0:Int):Wide }
 { hi:=IntKind.i64.wrap (((if a<(0:Int) then -a else a) * if b<(0:Int) then -b else b) / (18446744073709551616:Int)),lo:=((if a<(0:Int) then -a else a) * if b<(0:Int) then -b else b) % (18446744073709551616:Int):Wide }).hi =
 (W (a * b)).hi /\
 (z3f { hi:=(0:Int),lo:=(0:Int):Wide }
 { hi:=IntKind.i64.wrap (((if a<(0:Int) then -a else a) * if b<(0:Int) then -b else b) / (18446744073709551616:Int)),lo:=((if a<(0:Int) then -a else a) * if b<(0:Int) then -b else b) % (18446744073709551616:Int):Wide }).lo =
 (W (a * b)).lo /\
 True) /\
 True) /\
 True) /\
 ((!decide (a<(0:Int)) == decide (b<(0:Int)))=false ->
 ((IntKind.i64.wrap (((if a<(0:Int) then -a else a) * if b<(0:Int) then -b else b) / (18446744073709551616:Int))=(W (a * b)).hi /\
 ((if a<(0:Int) then -a else a) * if b<(0:Int) then -b else b) % (18446744073709551616:Int)=(W (a * b)).lo/\True) /\
 True) /\
 True)
theorem Times_q (a:Int) (b:Int):Times_E0 a b=z2r TT Times_g (Times_I a b) (Times_an a b) Tryz.f75 [.int .i64 a,.int .i64 b] [] (Times_r a b):=by kernel_rfl
theorem Times_E (a:Int) (b:Int) (hp:I64 a/\I64 b):FVc TT Times_g (Times_I a b) (Times_an a b) Tryz.f75 [.int .i64 a,.int .i64 b] [] (Times_r a b):=by
 refine FVc.of (Times_E0 a b) (Times_q a b) ?_
 unfold Times_E0
 simp only [eq_self,exists_const,forall_const,ne_eq,Int.toNat_natCast,zSS]
 have h1:=hp.1
 have h2:=hp.2
 unfold I64 at h1 h2
 have ua:U64 (if a<0 then -a else a):=by unfold U64; split <;> omega
 have ub:U64 (if b<0 then -b else b):=by unfold U64; split <;> omega
 have hm:(if a<0 then -a else a) * (if b<0 then -b else b)=if decide (a<0)=decide (b<0) then a * b else -(a * b):=by
  by_cases c1:a<0 <;> by_cases c2:b<0 <;> simp [c1,c2,Int.neg_mul,Int.mul_neg]
 have hb:=zkt (a:=a) (b:=b) (A:=9223372036854775808) (B:=9223372036854775808) (by omega) (by omega) (by omega) (by omega) (by omega) (by omega)
 rw [hm]
 refine ⟨hp.1,hp.2,⟨ua,ub⟩,fun h=>?_,fun h=>?_⟩
 ·rw [if_neg h]
  have h0:0 <= -(a * b):=by
   have:=Int.mul_nonneg ua.1 ub.1
   rw [hm,if_neg h] at this; exact this
  generalize a * b=p at *
  have e:(⟨IntKind.i64.wrap (-p / 18446744073709551616),-p % 18446744073709551616⟩:Wide)=W (-p):=by
   unfold W; rw [zgw]
  have e0:(⟨0,0⟩:Wide)=W 0:=W_zero.symm
  rw [e,e0,zif]
  refine ⟨⟨zey _,zey _⟩,?_⟩
  rw [show (0:Int) - -p=p by omega]
  exact ⟨rfl,rfl⟩
 ·rw [if_pos h,zgw]
  exact ⟨rfl,rfl⟩
theorem Times_ok:SpecOk Tryz.prog Times_n true (z03 true Times_fs) :=
 z0b z0r (show z1c Tryz.prog Times_g from z00 size_ok (z00 Mul64_ok (z00 Minus_ok (z05)))) (by kernel_rfl) mixedOrders Tryz.func75 rfl rfl (by kernel_rfl) (n:=2) (by decide +kernel) (I:=Times_IA) (fun _ _=>z06) (A:=Times_A)
  (fun args h r hr=>by
   unfold Times_fs at hr
   split at hr
   ·rename_i a b; cases hr; refine ⟨rfl,fun hp=>?_⟩; have hE:=Times_E a b hp; exact hE
   ·cases hr)
def rOf_E0 (n : Int) : Prop :=
      (decide (n<(0:Int))=true->(((-1:Int)=(W n).hi/\IntKind.u64.wrap n=(W n).lo/\True)/\True)/\True) /\
 (decide (n<(0:Int))=false->(((0:Int)=(W n).hi/\IntKind.u64.wrap n=(W n).lo/\True)/\True)/\True)
theorem rOf_q (n:Int):rOf_E0 n=z2r TT rOf_g (rOf_I n) (rOf_an n) Tryz.f94 [.int .i64 n] [] (rOf_r n):=by kernel_rfl
theorem rOf_E (n:Int) (hp:I64 n):FVc TT rOf_g (rOf_I n) (rOf_an n) Tryz.f94 [.int .i64 n] [] (rOf_r n):=by
 refine FVc.of (rOf_E0 n) (rOf_q n) ?_
 unfold rOf_E0
 simp only [eq_self,exists_const,forall_const,ne_eq,Int.toNat_natCast,zSS]
 unfold I64 at hp
 simp only [z8w,W,and_true]
 omega
theorem rOf_ok:SpecOk Tryz.prog rOf_n true (z03 true zhd) :=
 z0b z0r (show z1c Tryz.prog rOf_g from z05) (by kernel_rfl) mixedOrders Tryz.func94 rfl rfl (by kernel_rfl) (n:=1) (by decide +kernel) (I:=rOf_IA) (fun _ _=>z06) (A:=rOf_A)
  (fun args h r hr=>by
   unfold zhd at hr
   split at hr
   ·rename_i n; cases hr; refine ⟨rfl,fun hp=>?_⟩; have hE:=rOf_E n hp; exact hE
   ·cases hr)
def rPlus_E0 (a : Wide) (b : Wide) : Prop :=
      (decide (IntKind.u64.wrap (a.lo+b.lo)<a.lo)=true ->
 ((IntKind.i64.wrap (IntKind.i64.wrap (a.hi+b.hi)+(1:Int))=(z3g a b).hi/\IntKind.u64.wrap (a.lo+b.lo)=(z3g a b).lo/\True)/\True)/\True) /\
 (decide (IntKind.u64.wrap (a.lo+b.lo)<a.lo)=false ->
 ((IntKind.i64.wrap (a.hi+b.hi)=(z3g a b).hi/\IntKind.u64.wrap (a.lo+b.lo)=(z3g a b).lo/\True)/\True)/\True)
theorem rPlus_q (a:Wide) (b:Wide):rPlus_E0 a b=z2r TT rPlus_g (rPlus_I a b) (rPlus_an a b) Tryz.f144 [.agg (z0v a),.agg (z0v b)] [] (rPlus_r a b):=by kernel_rfl
theorem rPlus_E (a:Wide) (b:Wide) (hp:a.ok/\b.ok):FVc TT rPlus_g (rPlus_I a b) (rPlus_an a b) Tryz.f144 [.agg (z0v a),.agg (z0v b)] [] (rPlus_r a b):=by
 refine FVc.of (rPlus_E0 a b) (rPlus_q a b) ?_
 unfold rPlus_E0
 simp only [eq_self,exists_const,forall_const,ne_eq,Int.toNat_natCast,zSS]
 obtain ⟨⟨⟨a1,a2⟩,a3,a4⟩,⟨b1,b2⟩,b3,b4⟩:=hp
 simp only [z8w,zgw,z3g,W,Wide.v]
 omega
theorem z8o:SpecOk Tryz.prog z9z true (z03 true z63) :=
 z0b z0r (show z1c Tryz.prog rPlus_g from z05) (by kernel_rfl) mixedOrders Tryz.func144 rfl rfl (by kernel_rfl) (n:=2) (by decide +kernel) (I:=rPlus_IA) (fun _ _=>z06) (A:=rPlus_A)
  (fun args h r hr=>by
   unfold z63 at hr
   split at hr
   ·rename_i a_0 a_1 b_0 b_1; cases hr; refine ⟨rfl,fun hp=>?_⟩; have hE:=rPlus_E ⟨a_0,a_1⟩ ⟨b_0,b_1⟩ hp; exact hE
   ·cases hr)
def rLess_E0 (a : Wide) : Prop :=
      ({ hi:=notS IntKind.i64 a.hi,lo:=notS IntKind.u64 a.lo:Wide }.ok/\{ hi:=(0:Int),lo:=(1:Int):Wide }.ok) /\
 (((z3g { hi:=notS IntKind.i64 a.hi,lo:=notS IntKind.u64 a.lo:Wide } { hi:=(0:Int),lo:=(1:Int):Wide }).hi=(W (-a.v)).hi /\
 (z3g { hi:=notS IntKind.i64 a.hi,lo:=notS IntKind.u64 a.lo:Wide } { hi:=(0:Int),lo:=(1:Int):Wide }).lo=(W (-a.v)).lo/\True) /\
 True) /\
 True
theorem rLess_q (a:Wide):rLess_E0 a=z2r TT rLess_g (rLess_I a) (rLess_an a) Tryz.f159 [.agg (z0v a)] [] (rLess_r a):=by kernel_rfl
theorem rLess_E (a:Wide) (hp:a.ok):FVc TT rLess_g (rLess_I a) (rLess_an a) Tryz.f159 [.agg (z0v a)] [] (rLess_r a):=by
 refine FVc.of (rLess_E0 a) (rLess_q a) ?_
 unfold rLess_E0
 simp only [eq_self,exists_const,forall_const,ne_eq,Int.toNat_natCast,zSS]
 have h1:=not_i64 hp.1
 have h2:=not_u64 hp.2
 obtain ⟨⟨a1,a2⟩,a3,a4⟩:=hp
 simp only [h1,h2]
 simp only [z3g,W,Wide.v,Wide.ok,I64,U64]
 omega
theorem rLess_ok:SpecOk Tryz.prog rLess_n true (z03 true rLess_fs) :=
 z0b z0r (show z1c Tryz.prog rLess_g from z00 z8o (z05)) (by kernel_rfl) mixedOrders Tryz.func159 rfl rfl (by kernel_rfl) (n:=1) (by decide +kernel) (I:=rLess_IA) (fun _ _=>z06) (A:=rLess_A)
  (fun args h r hr=>by
   unfold rLess_fs at hr
   split at hr
   ·rename_i a_0 a_1; cases hr; refine ⟨rfl,fun hp=>?_⟩; have hE:=rLess_E ⟨a_0,a_1⟩ hp; exact hE
   ·cases hr)
def zls (a : Wide) (b : Wide) : Prop :=
   b.ok/\(a.ok/\(W (-b.v)).ok)/\(((z3g a (W (-b.v))).hi=(z3f a b).hi/\(z3g a (W (-b.v))).lo=(z3f a b).lo/\True)/\True)/\True
theorem rMinus_q (a:Wide) (b:Wide):zls a b=z2r TT rMinus_g (rMinus_I a b) (rMinus_an a b) Tryz.f142 [.agg (z0v a),.agg (z0v b)] [] (rMinus_r a b):=by kernel_rfl
theorem rMinus_E (a:Wide) (b:Wide) (hp:a.ok/\b.ok):FVc TT rMinus_g (rMinus_I a b) (rMinus_an a b) Tryz.f142 [.agg (z0v a),.agg (z0v b)] [] (rMinus_r a b):=by
 refine FVc.of (zls a b) (rMinus_q a b) ?_
 unfold zls
 simp only [eq_self,exists_const,forall_const,ne_eq,Int.toNat_natCast,zSS]
 have e:z3g a (W (-b.v))=z3f a b:=by
  conv=>lhs; rw [<- W_v hp.1]
  rw [zcw]
  unfold z3f
  congr 1
 rw [e]
 exact ⟨hp.2,⟨hp.1,zey _⟩,rfl,rfl⟩
theorem zlt:SpecOk Tryz.prog zi7 true (z03 true z9y) :=
 z0b z0r (show z1c Tryz.prog rMinus_g from z00 z8o (z00 rLess_ok (z05))) (by kernel_rfl) mixedOrders Tryz.func142 rfl rfl (by kernel_rfl) (n:=2) (by decide +kernel) (I:=rMinus_IA) (fun _ _=>z06) (A:=rMinus_A)
  (fun args h r hr=>by
   unfold z9y at hr
   split at hr
   ·rename_i a_0 a_1 b_0 b_1; cases hr; refine ⟨rfl,fun hp=>?_⟩; have hE:=rMinus_E ⟨a_0,a_1⟩ ⟨b_0,b_1⟩ hp; exact hE
   ·cases hr)
def zc4 (a : Wide) (b : Wide) : Prop :=
      ((a.hi != b.hi)=true->(decide (a.hi<b.hi)=true->((-1:Int)=zie a b/\True)/\True)/\(decide (a.hi<b.hi)=false->((1:Int)=zie a b/\True)/\True)) /\
 ((a.hi != b.hi)=false ->
 ((a.lo != b.lo)=true->(decide (a.lo<b.lo)=true->((-1:Int)=zie a b/\True)/\True)/\(decide (a.lo<b.lo)=false->((1:Int)=zie a b/\True)/\True)) /\
 ((a.lo != b.lo)=false->((0:Int)=zie a b/\True)/\True))
theorem rCompare_q (a:Wide) (b:Wide):zc4 a b=z2r TT zg2 (rCompare_I a b) (zlr a b) Tryz.f88 [.agg (z0v a),.agg (z0v b)] [] (zg3 a b):=by kernel_rfl
theorem rCompare_E (a:Wide) (b:Wide) (hp:a.ok/\b.ok):FVc TT zg2 (rCompare_I a b) (zlr a b) Tryz.f88 [.agg (z0v a),.agg (z0v b)] [] (zg3 a b):=by
 refine FVc.of (zc4 a b) (rCompare_q a b) ?_
 unfold zc4
 simp only [eq_self,exists_const,forall_const,ne_eq,Int.toNat_natCast,zSS]
 obtain ⟨⟨⟨a1,a2⟩,a3,a4⟩,⟨b1,b2⟩,b3,b4⟩:=hp
 unfold zie Wide.v
 refine ⟨fun h=>⟨fun h2=>?_,fun h2=>?_⟩,fun h=>⟨fun h2=>⟨fun h3=>?_,fun h3=>?_⟩,fun h2=>?_⟩⟩ <;> (repeat' split) <;> omega
theorem zc5:SpecOk Tryz.prog zau true (z03 true z6n) :=
 z0b z0r (show z1c Tryz.prog zg2 from z05) (by kernel_rfl) mixedOrders Tryz.func88 rfl rfl (by kernel_rfl) (n:=2) (by decide +kernel) (I:=rCompare_IA) (fun _ _=>z06) (A:=rCompare_A)
  (fun args h r hr=>by
   unfold z6n at hr
   split at hr
   ·rename_i a_0 a_1 b_0 b_1; cases hr; refine ⟨rfl,fun hp=>?_⟩; have hE:=rCompare_E ⟨a_0,a_1⟩ ⟨b_0,b_1⟩ hp; exact hE
   ·cases hr)
def rfit_r (I:Inst) (a:Int):FRes:={ pre:=True,res:=.bool (gOk I.sup.length I.arcs a),rows:=[],eff:=[] }
def rfit_fs:FS:=fun args h=>match args,h with
 | [.agg [.row 0,.row 1],.int .i64 a],[(0,.row false ty0 (.ints .i64 I_s)),(1,.row false ty1 (.arcs I_a))]=>some (rfit_r ⟨I_s,I_a⟩ a)
 | _,_=>none
def rfit_an (I:Inst) (a:Int):List (Nat × Ann):=[]
def rfit_A:List SV->z0d->List (Nat × Ann):=fun _ _=>[]
def rfit_g:z0c:=[]
abbrev rfit_n:Nat:=158
def rfit_I (I:Inst) (a:Int):List (Nat × z08):=[]
def rfit_IA:List SV->z0d->List (Nat × z08):=fun _ _=>[]
end Go.Proofs.YtggblkbecekbdaaGreat
end
