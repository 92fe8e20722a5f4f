/- Part of the proof: Law10, Law11, Trim, Law03, Trim2, Law15, Odd, TrimL, Ray, Cert, CertOne, Solve, Solve2, Solve3. -/
import Derived.Test.YtggblkbecekbdaaGreatZG6
import Derived.Test.YtggblkbecekbdaaGreatZG1
set_option linter.all false
set_option linter.unusedSimpArgs false
set_option linter.unusedVariables false
section
section
namespace Go.Ql
open Go Go.RowKit
def onF (side:List Bool) (n:Int):Bool:=decide (0 <= n) && side.getD n.toNat false
def isN (m:Int) (n:Int):Bool:=decide (0 <= n) && decide (n<m)
def zl1 (m:Int) (side:List Bool) (a:Arc):Bool:=isN m a.src && isN m a.dst && onF side a.src && !onF side a.dst
def inA (m:Int) (side:List Bool) (a:Arc):Bool:=isN m a.src && isN m a.dst && onF side a.dst && !onF side a.src
def z19 (m:Int) (side:List Bool):List Arc->Int->Option Int
 | [],s=>some s
 | a :: l,s=>if zl1 m side a then (if a.cap=inf then none else z19 m side l (s+a.cap)) else if inA m side a then z19 m side l (s - a.low) else z19 m side l s
def z50 (I:Inst) (side:List Bool):Option Int:=z19 I.sup.length side I.arcs 0
def roomW (o:Option Int):Wide:=match o with
 | some s=>W s
 | none=>⟨0,0⟩
def z5b (side:List Bool) (l:List Int):Nat->Int
 | 0=>0
 | k+1=>z5b side l k+(if side.getD k false then l.getD k 0 else 0)
def zdl (I:Inst) (side:List Bool):Int:=z5b side I.sup I.sup.length
def z32 (I:Inst) (side:List Bool):Int :=
 if z02 I ≠ 0 then z02 I else if side.length ≠ I.sup.length then 30 else match z50 I side with
  | none=>34
  | some s=>if zie (W (zdl I side)) (W s) <= 0 then 34 else 0
theorem onF_nat (side:List Bool) (k:Nat):onF side (k:Int)=side.getD k false:=by simp [onF]
theorem z5p (m:Int) (side:List Bool) (a:Arc) (l:List Arc) (s:Int):z19 m side (a :: l) s=if zl1 m side a then (if a.cap=inf then none else z19 m side l (s+a.cap)) else if inA m side a then z19 m side l (s - a.low) else z19 m side l s:=rfl
end Go.Ql
end
section
namespace Go.Ql
open Go Go.RowKit
def z1h (f:Nat->Int):Nat->Int
 | 0=>0
 | k+1=>z1h f k+f k
theorem z18 {f g:Nat->Int}:∀ {n:Nat},(∀ v,v<n->f v=g v)->z1h f n=z1h g n
 | 0,_=>rfl
 | n+1,h=>by simp only [z1h]; rw [z18 (fun v hv=>h v (by omega)),h n (by omega)]
theorem zac (f g:Nat->Int):∀ n,z1h (fun v=>f v+g v) n=z1h f n+z1h g n
 | 0=>rfl
 | n+1=>by simp only [z1h]; rw [zac f g n]; omega
theorem zae (f g:Nat->Int):∀ n,z1h (fun v=>f v - g v) n=z1h f n - z1h g n
 | 0=>rfl
 | n+1=>by simp only [z1h]; rw [zae f g n]; omega
theorem z68:∀ n,z1h (fun _=>0) n=0
 | 0=>rfl
 | n+1=>by simp only [z1h,z68 n]; rfl
theorem zad {s f:Int} (h0:0 <= s):∀ n:Nat,z1h (fun v=>if s=(v:Int) then f else 0) n=if s<n then f else 0
 | 0=>by simp only [z1h]; rw [if_neg (by omega)]
 | n+1=>by
  simp only [z1h]
  rw [zad h0 n]
  by_cases h1:s<n
  ·rw [if_pos h1,if_neg (by omega),if_pos (by omega)]; omega
  ·by_cases h2:s=n
   ·rw [if_neg h1,if_pos h2,if_pos (by omega)]; omega
   ·rw [if_neg h1,if_neg h2,if_neg (by omega)]; omega
theorem flowD_sum (n:Nat) (a:Arc) (f:Int):z1h (fun v:Nat=>z5m n a f v) n=0:=by
 cases ho:z3v n a with
 | false=>rw [z18 (g:=fun _=>0) (fun v _=>by simp [z5m,ho]),z68]
 | true =>
  obtain ⟨o1,o2,o3,o4⟩:=okArc_iff.1 ho
  rw [z18 (g:=fun v=>(if a.src=(v:Int) then f else 0) - (if a.dst=(v:Int) then f else 0)) (fun v _=>by simp [z5m,ho]),zae,zad o1,zad o3,if_pos o2,if_pos o4]
  omega
theorem netK_sum (n:Nat) (l:List Arc) (x:List Int):∀ k,z1h (fun v:Nat=>z3z n l x k v) n=0
 | 0=>by simp only [z3z]; exact z68 n
 | k+1=>by
  simp only [z3z]
  rw [zac,netK_sum n l x k,flowD_sum]; rfl
theorem flowD_add (n:Int) (a:Arc) (f g v:Int):z5m n a (f+g) v=z5m n a f v+z5m n a g v:=by
 unfold z5m
 (repeat' split) <;> omega
theorem netK_bound {n:Int} {l:List Arc} {x:List Int} {v:Int} {B:Int} (hB:0 <= B) (hx:∀ y ∈ x,-B <= y/\y <= B):∀ k:Nat,-(2 * B * k) <= z3z n l x k v/\z3z n l x k v <= 2 * B * k
 | 0=>by simp [z3z]
 | k+1=>by
  have ih:=netK_bound (n:=n) (l:=l) (v:=v) hB hx k
  have hg:-B <= x.getD k 0/\x.getD k 0 <= B:=by
   by_cases hk:k<x.length
   ·have:=hx _ (List.getElem_mem hk)
    simpa [List.getD,hk] using this
   ·simp [List.getD,hk]; omega
  simp only [z3z]
  have hd:-(2 * B) <= z5m n (l.getD k default) (x.getD k 0) v/\z5m n (l.getD k default) (x.getD k 0) v <= 2 * B:=by
   unfold z5m; (repeat' split) <;> omega
  have e:2 * B * ((k+1:Nat):Int)=2 * B * k+2 * B:=by
   rw [Int.natCast_succ,Int.mul_add]; omega
  omega
theorem zh4 {x:List Int} {a:Nat} (ha:a<x.length) (f:Int) (j:Nat):(x.set a (x.getD a 0+f)).getD j 0=x.getD j 0+(if j=a then f else 0):=by
 rw [List.getD_eq_getElem?_getD,List.getElem?_set]
 by_cases h:a=j
 ·subst h; simp [ha]
 ·have h':¬ j=a:=fun e=>h e.symm
  simp [h,h',List.getD_eq_getElem?_getD]
theorem netK_set {n:Int} {l:List Arc} {x:List Int} {v:Int} {a:Nat} (ha:a<x.length) (f:Int):∀ k:Nat,z3z n l (x.set a (x.getD a 0+f)) k v=z3z n l x k v+(if a<k then z5m n (l.getD a default) f v else 0)
 | 0=>by simp [z3z]
 | k+1=>by
  simp only [z3z]
  rw [netK_set ha f k,zh4 ha,flowD_add]
  by_cases h:k=a
  ·subst h; rw [if_neg (by omega),if_pos rfl,if_pos (by omega)]; omega
  ·rw [if_neg h]
   have z:z5m n (l.getD k default) 0 v=0:=by unfold z5m; (repeat' split) <;> omega
   rw [z]
   by_cases h2:a<k
   ·rw [if_pos h2,if_pos (by omega)]; omega
   ·rw [if_neg h2,if_neg (by omega)]; omega
theorem fitsAll_iff {l:List Arc} {x:List Int}:z2i l x=true ↔ ∀ j a,l[j]? = some a->fitF a (x.getD j 0)=true:=by
 induction l generalizing x with
 | nil=>simp [z2i]
 | cons b l ih =>
  simp only [z2i,Bool.and_eq_true,ih]
  constructor
  ·rintro ⟨h1,h2⟩ j a ha
   cases j with
   | zero =>
    simp at ha; subst ha
    cases x <;> simpa [List.getD] using h1
   | succ j =>
    rw [List.getElem?_cons_succ] at ha
    have:=h2 j a ha
    cases x with
    | nil=>simpa [List.getD] using this
    | cons y x=>simpa [List.getD] using this
  ·intro h
   refine ⟨?_,fun j a ha=>?_⟩
   ·have:=h 0 b (by simp)
    cases x <;> simpa [List.getD] using this
   ·have:=h (j+1) a (by simpa using ha)
    cases x with
    | nil=>simpa [List.getD] using this
    | cons y x=>simpa [List.getD] using this
theorem netOk_iff {I:Inst} {x:List Int}:netOk I x=true ↔ ∀ v,v<I.sup.length->W (z3z I.sup.length I.arcs x I.arcs.length v)=W (I.sup.getD v 0):=by
 unfold netOk
 rw [List.all_eq_true]
 simp only [List.mem_range,decide_eq_true_eq]
theorem fitsF_zero {I:Inst} {x:List Int}:z1w I x=0 ↔ z02 I=0/\x.length=I.arcs.length/\z2i I.arcs x=true/\netOk I x=true:=by
 have hs:=zdw I
 unfold z1w
 constructor
 ·intro h
  split at h
  ·rename_i h1; exact absurd h h1
  ·rename_i h1
   split at h
   ·omega
   ·rename_i h2
    split at h
    ·omega
    ·rename_i h3
     split at h
     ·omega
     ·rename_i h4
      simp at h1 h2 h3 h4
      exact ⟨h1,h2,h3,h4⟩
 ·rintro ⟨h1,h2,h3,h4⟩
  simp [h1,h2,h3,h4]
def A32 (l:List Int):Prop:=∀ x ∈ l,-2147483648 <= x/\x <= 2147483647
theorem A32.getD {l:List Int} (h:A32 l) (k:Nat):-2147483648 <= l.getD k 0/\l.getD k 0 <= 2147483647:=by
 by_cases hk:k<l.length
 ·have:=h _ (List.getElem_mem hk)
  simpa [List.getD,hk] using this
 ·simp [List.getD,hk]
theorem zd7 (n:Int):∀ (l:List Arc),(∀ a ∈ l,z0f a n=0)->z16 n l=0
 | [],_=>rfl
 | a :: l,h=>by simp only [z16,h a (by simp),zd7 n l (fun b hb=>h b (by simp [hb]))]; simp
theorem zhg:∀ (l:List Int) (s:Int),(∀ x ∈ l,-4398046511104 <= x/\x <= 4398046511104)->s+l.sum=0->z1o l s=0
 | [],s,_,h=>by simp at h; simp [z1o,h]
 | x :: l,s,hb,h=>by
  have:=hb x (by simp)
  simp only [z1o]
  rw [if_neg (by omega)]
  exact zhg l (s+x) (fun y hy=>hb y (by simp [hy])) (by rw [List.sum_cons] at h; omega)
theorem zi8 {I:Inst} (h1:I.sup.length <= 64) (h2:I.arcs.length <= 256) (h3:∀ a ∈ I.arcs,z0f a I.sup.length=0) (h4:∀ x ∈ I.sup,-4398046511104 <= x/\x <= 4398046511104) (h5:I.sup.sum=0):z02 I=0:=by
 unfold z02
 rw [if_neg (by omega),if_pos (zd7 _ _ h3)]
 exact zhg _ _ h4 (by omega)
theorem zes (f:Nat->Int):∀ n,((List.range n).map f).sum=z1h f n
 | 0=>rfl
 | n+1=>by rw [List.range_succ,List.map_append,List.sum_append,zes f n]; simp [z1h]
theorem Arc.Nice.right {m:Int} {a:Arc} (h:a.Nice m):z0f a m=0:=by
 have:=h.s0; have:=h.s1; have:=h.d0; have:=h.d1; have:=h.l0; have:=h.l1; have:=h.c0; have:=h.c1; have:=h.k0; have:=h.k1
 unfold z0f
 rw [if_neg (by omega),if_neg (by omega),if_neg (by omega),if_neg (by omega)]
theorem sum_set (s:List Int) (k:Nat) (y:Int) (hk:k<s.length):(s.set k y).sum=s.sum - s.getD k 0+y:=by
 induction s generalizing k with
 | nil=>simp at hk
 | cons z s ih =>
  cases k with
  | zero=>simp; omega
  | succ k =>
   have:=ih k (by simpa using hk)
   simp only [List.set_cons_succ,List.sum_cons,this,List.getD_cons_succ]; omega
theorem z26 (s:List Int) (k:Nat) (x:Int) (hk:k<s.length):(addAt s k x).sum=s.sum+x:=by
 unfold addAt; rw [sum_set _ _ _ hk]; omega
theorem supGo_sum {n:Nat} (d:List Int):∀ (l:List Arc) (k:Nat) (s:List Int),s.length=n->(∀ a ∈ l,a.Nice n)->(zcp d l k s).sum=s.sum
 | [],_,s,_,_=>rfl
 | a :: l,k,s,hs,hn=>by
  have h:=hn a (by simp)
  have h1:=h.s0; have h2:=h.s1; have h3:=h.d0; have h4:=h.d1
  rw [zcp,supGo_sum d l (k+1) _ (by simp [z14,hs]) (fun b hb=>hn b (by simp [hb])),z26 _ _ _ (by rw [z14]; omega),z26 _ _ _ (by omega)]
  omega
theorem zdg (c d:List Int):(z09 c d).sup.sum=0:=by
 have hp:=z9l d
 have h1:(sup1 c d).sum=0:=by
  unfold sup1
  rw [supGo_sum (n:=nOf d) d _ 0 _ (by simp) (zai c _ (by omega))]
  simp
 unfold z09
 dsimp only
 split
 ·rw [z26 _ _ _ (by rw [z14,sup1_len]; omega),z26 _ _ _ (by rw [sup1_len]; omega),h1]; omega
 ·exact h1
theorem right_sup {I:Inst} {s:List Int} (hs:s.length=I.sup.length) (h1:I.sup.length <= 64) (h2:I.arcs.length <= 256) (h3:∀ a ∈ I.arcs,a.Nice I.sup.length) (h4:Within 4398046511104 s) (h5:s.sum=0):z02 ⟨s,I.arcs⟩=0 :=
 zi8 (by dsimp only; omega) h2 (fun a ha=>by dsimp only; rw [hs]; exact (h3 a ha).right) (fun x hx=>h4 x hx) h5
theorem instF_right (c d:List Int):z02 (z09 c d)=0:=by
 have l1:=z7k c d
 have l3:=zku d
 have l4:=z65 c d
 exact right_sup rfl (by omega) (by omega) (fun a ha=>by rw [l1]; exact z5a c d a ha) ((z4i c d).more (by omega)) (zdg c d)
theorem z6s (m:Int) (side:List Bool):∀ (l r:List Arc) (s:Int),z19 m side (l ++ r) s=(z19 m side l s).bind (z19 m side r)
 | [],r,s=>by simp [z19]
 | a :: l,r,s=>by
  rw [List.cons_append,z5p,z5p]
  split
  ·split
   ·rfl
   ·exact z6s m side l r _
  ·split
   ·exact z6s m side l r _
   ·exact z6s m side l r _
theorem zbz (side:List Bool) (l:List Int):∀ k,z5b side l k=z1h (fun v=>if side.getD v false then l.getD v 0 else 0) k
 | 0=>rfl
 | k+1=>by simp only [z5b,z1h,zbz side l k]
theorem sum_sumTo:∀ (l:List Int),l.sum=z1h (fun v=>l.getD v 0) l.length:=by
 intro l
 have h:=zes (fun v=>l.getD v 0) l.length
 rw [<- h]
 congr 1
 apply List.ext_getElem?
 intro i
 by_cases hi:i<l.length
 ·simp [hi]
 ·simp [hi]
def crossD (m:Int) (side:List Bool) (a:Arc) (f:Int):Int:=(if zl1 m side a then f else 0) - (if inA m side a then f else 0)
def zba (m:Int) (side:List Bool) (l:List Arc) (x:List Int):Nat->Int
 | 0=>0
 | k+1=>zba m side l x k+crossD m side (l.getD k default) (x.getD k 0)
theorem sumTo_pick {s f:Int} (p:Nat->Bool) (h0:0 <= s):∀ n:Nat,s<n->z1h (fun v=>if p v then (if s=(v:Int) then f else 0) else 0) n=if p s.toNat then f else 0:=by
 intro n hn
 have:z1h (fun v=>if p v then (if s=(v:Int) then f else 0) else 0) n=z1h (fun v=>if s=(v:Int) then (if p s.toNat then f else 0) else 0) n:=by
  refine z18 fun v hv=>?_
  by_cases e:s=(v:Int)
  ·have:s.toNat=v:=by omega
   simp [e,this]
  ·simp [e]
 rw [this,zad h0,if_pos hn]
theorem flowD_cross {n:Nat} {side:List Bool} {a:Arc} (f:Int):z1h (fun v:Nat=>if side.getD v false then z5m n a f v else 0) n=crossD n side a f:=by
 cases ho:z3v n a with
 | false =>
  have hz:∀ v:Nat,(if side.getD v false then z5m n a f v else 0)=0:=fun v=>by simp [z5m,ho]
  rw [z18 (g:=fun _=>0) (fun v _=>hz v),z68]
  have:isN (n:Int) a.src=false ∨ isN (n:Int) a.dst=false:=by
   unfold z3v at ho
   unfold isN
   cases h1:(decide (0 <= a.src) && decide (a.src<(n:Int))) <;> simp_all
  unfold crossD zl1 inA
  rcases this with h | h <;> simp [h]
 | true =>
  obtain ⟨o1,o2,o3,o4⟩:=okArc_iff.1 ho
  rw [z18 (g:=fun v=>(if side.getD v false then (if a.src=(v:Int) then f else 0) else 0) - (if side.getD v false then (if a.dst=(v:Int) then f else 0) else 0)) (fun v _=>by
   simp only [z5m,ho,if_true]
   cases side.getD v false <;> simp),zae,sumTo_pick (fun v=>side.getD v false) o1 n o2,sumTo_pick (fun v=>side.getD v false) o3 n o4]
  unfold crossD zl1 inA isN onF
  simp only [o1,o2,o3,o4,decide_true,Bool.true_and]
  cases side.getD a.src.toNat false <;> cases side.getD a.dst.toNat false <;> simp
theorem zjx (n:Nat) (side:List Bool) (l:List Arc) (x:List Int):∀ k,z1h (fun v:Nat=>if side.getD v false then z3z n l x k v else 0) n=zba n side l x k
 | 0=>by
  simp only [z3z,zba]
  rw [z18 (g:=fun _=>0) (fun v _=>by simp),z68]
 | k+1=>by
  simp only [zba]
  rw [<- zjx n side l x k,<- flowD_cross,<- zac]
  refine z18 fun v _=>?_
  simp only [z3z]
  cases side.getD v false <;> simp
theorem fits_net {I:Inst} {x:List Int} (hl:I.arcs.length <= 1000) (hx:A64 x) (hs:Within 4398046511104 I.sup) (h:z1w I x=0):∀ v,v<I.sup.length->z3z I.sup.length I.arcs x I.arcs.length v=I.sup.getD v 0:=by
 intro v hv
 have hn:=netOk_iff.1 (fitsF_zero.1 h).2.2.2 v hv
 have hb:=netK_bound (n:=I.sup.length) (l:=I.arcs) (x:=x) (v:=v) (B:=9223372036854775808) (by omega) (fun y hy=>by have:=hx y hy; unfold I64 at this; omega) I.arcs.length
 have hs':=hs.getD (by omega) v
 refine W_inj ?_ ?_ hn
 ·unfold zcx; omega
 ·unfold zcx; omega
theorem fits_need {I:Inst} {x:List Int} (side:List Bool) (hl:I.arcs.length <= 1000) (hx:A64 x) (hs:Within 4398046511104 I.sup) (h:z1w I x=0):zba I.sup.length side I.arcs x I.arcs.length=zdl I side:=by
 rw [<- zjx,zdl,zbz]
 refine z18 fun v hv=>?_
 rw [fits_net hl hx hs h v hv]
theorem zhe {m:Int} {side:List Bool} {a:Arc} {s t:Int} (h:z19 m side [a] s=some t):(zl1 m side a=true/\a.cap ≠ inf/\t=s+a.cap) ∨ (zl1 m side a=false/\inA m side a=true/\t=s - a.low) ∨ (zl1 m side a=false/\inA m side a=false/\t=s):=by
 rw [z5p] at h
 simp only [z19] at h
 cases ho:zl1 m side a with
 | true =>
  rw [ho] at h
  simp only [if_true] at h
  split at h
  ·cases h
  ·rename_i hc; cases h; exact .inl ⟨rfl,hc,rfl⟩
 | false =>
  rw [ho] at h
  simp only [Bool.false_eq_true,if_false] at h
  cases hi:inA m side a with
  | true=>rw [hi] at h; simp only [if_true] at h; cases h; exact .inr (.inl ⟨rfl,rfl,rfl⟩)
  | false=>rw [hi] at h; simp only [Bool.false_eq_true,if_false] at h; cases h; exact .inr (.inr ⟨rfl,rfl,rfl⟩)
theorem out_not_in {m:Int} {side:List Bool} {a:Arc} (h:zl1 m side a=true):inA m side a=false:=by
 unfold zl1 at h; unfold inA
 cases h1:isN m a.src <;> cases h2:isN m a.dst <;> cases h3:onF side a.src <;> cases h4:onF side a.dst <;> simp_all
theorem cross_room {m:Int} {side:List Bool} {l:List Arc} {x:List Int} (hf:∀ j a,l[j]? = some a->fitF a (x.getD j 0)=true):∀ k,k <= l.length->∀ t,z19 m side (l.take k) 0=some t->zba m side l x k <= t
 | 0,_,t,h=>by simp [z19] at h; subst h; simp [zba]
 | k+1,hk,t,h=>by
  have ha:=List.getElem?_eq_getElem (show k<l.length by omega)
  rw [z1b ha,z6s] at h
  cases h1:z19 m side (l.take k) 0 with
  | none=>rw [h1] at h; cases h
  | some u =>
   rw [h1] at h
   have ih:=cross_room hf k (by omega) u h1
   have hfa:=hf k _ ha
   have hd:l.getD k default=l[k]:=by simp [List.getD,ha]
   unfold fitF at hfa
   simp only [Bool.and_eq_true,Bool.or_eq_true,decide_eq_true_eq] at hfa
   simp only [zba,hd,crossD]
   rcases zhe h with ⟨h2,h3,h4⟩ | ⟨h2,h3,h4⟩ | ⟨h2,h3,h4⟩
   ·rw [h2,out_not_in h2]
    simp only [if_true,Bool.false_eq_true,if_false]
    rcases hfa.2 with h5 | h5
    ·exact absurd h5 h3
    ·omega
   ·rw [h2,h3]
    simp only [if_true,Bool.false_eq_true,if_false]
    omega
   ·rw [h2,h3]
    simp only [Bool.false_eq_true,if_false]
    omega
theorem room_bound {m:Int} {side:List Bool} {l:List Arc} (hb:∀ a ∈ l,(0 <= a.low/\a.low <= 4398046511104)/\(a.cap=inf ∨ 0 <= a.cap/\a.cap <= 4398046511104)):∀ k,k <= l.length->∀ t,z19 m side (l.take k) 0=some t->-(4398046511104 * (k:Int)) <= t/\t <= 4398046511104 * (k:Int)
 | 0,_,t,h=>by simp [z19] at h; subst h; simp
 | k+1,hk,t,h=>by
  have ha:=List.getElem?_eq_getElem (show k<l.length by omega)
  rw [z1b ha,z6s] at h
  cases h1:z19 m side (l.take k) 0 with
  | none=>rw [h1] at h; cases h
  | some u =>
   rw [h1] at h
   have ih:=room_bound hb k (by omega) u h1
   have hfa:=hb _ (List.getElem_mem (show k<l.length by omega))
   rcases zhe h with ⟨h2,h3,h4⟩ | ⟨h2,h3,h4⟩ | ⟨h2,h3,h4⟩
   ·rcases hfa.2 with h5 | h5
    ·exact absurd h5 h3
    ·omega
   ·omega
   ·omega
theorem zkv {side:List Bool} {s:List Int} {b:Int} (hb:0 <= b) (h:Within b s):∀ k:Nat,-(b * k) <= z5b side s k/\z5b side s k <= b * k
 | 0=>by simp [z5b]
 | k+1=>by
  have ih:=zkv (side:=side) hb h k
  have hg:=h.getD hb k
  have e:b * ((k+1:Nat):Int)=b * k+b:=by rw [Int.natCast_succ,Int.mul_add]; omega
  simp only [z5b]
  split <;> omega
theorem arcs_bound {I:Inst} (hr:z02 I=0):∀ a ∈ I.arcs,(0 <= a.low/\a.low <= 4398046511104)/\(a.cap=inf ∨ 0 <= a.cap/\a.cap <= 4398046511104):=fun a ha=>by
 have h:=z1r hr ha
 obtain ⟨_,h1,_⟩:=h
 unfold inf
 refine ⟨⟨h1.1,h1.2.1⟩,?_⟩
 rcases h1.2.2 with h2 | h2
 ·exact .inl h2
 ·exact .inr (by omega)
theorem cmp_need {I:Inst} {side:List Bool} {s:Int} (hr:z02 I=0) (hl:I.arcs.length <= 1000) (hn:I.sup.length <= 1000) (hs:Within 4398046511104 I.sup) (h:z50 I side=some s) (m:Int) (hm:m=zdl I side):zie (W m) (W s) <= 0 ↔ m <= s:=by
 have hb:=room_bound (m:=I.sup.length) (side:=side) (arcs_bound hr) I.arcs.length (Nat.le_refl _) s (by rw [List.take_length]; exact h)
 have hk:=zkv (side:=side) (by omega) hs I.sup.length
 have e:zdl I side=z5b side I.sup I.sup.length:=rfl
 rw [zbk (by unfold zcx; omega) (by unfold zcx; omega)]
 split
 ·omega
 ·split <;> omega
theorem z8l {I:Inst} {side:List Bool} {x:List Int} (hl:I.arcs.length <= 1000) (hn:I.sup.length <= 1000) (hx:A64 x) (hs:Within 4398046511104 I.sup) (h:z32 I side=0):z1w I x ≠ 0:=by
 intro hf
 have hr:=(fitsF_zero.1 hf).1
 unfold z32 at h
 simp only [hr,ne_eq,not_true,if_false] at h
 split at h
 ·omega
 ·split at h
  ·omega
  ·rename_i s hroom
   split at h
   ·omega
   ·rename_i hc
    rw [cmp_need hr hl hn hs hroom _ rfl] at hc
    have h1:=fits_need side hl hx hs hf
    have h2:=cross_room (m:=I.sup.length) (side:=side) (fitsAll_iff.1 (fitsF_zero.1 hf).2.2.1) I.arcs.length (Nat.le_refl _) s (by rw [List.take_length]; exact hroom)
    omega
end Go.Ql
end
end
section
namespace Go.Ql
open Go Go.RowKit Go.Vc
theorem sgn_neg {r:Int} (h:zcx r):sgn r<0 ↔ r<0:=by
 unfold sgn
 rw [zbk h (by unfold zcx; omega)]
 split
 ·omega
 ·split <;> omega
theorem sgn_pos {r:Int} (h:zcx r):0<sgn r ↔ 0<r:=by
 unfold sgn
 rw [zbk h (by unfold zcx; omega)]
 split
 ·omega
 ·split <;> omega
def potK (l:List Arc) (x pot:List Int):Nat->Int
 | 0=>0
 | k+1=>potK l x pot k+x.getD k 0 * (potR pot (l.getD k default).src - potR pot (l.getD k default).dst)
theorem sumTo_at {s f:Int} (P:Nat->Int) (h0:0 <= s) (n:Nat) (hn:s<n):z1h (fun v=>(if s=(v:Int) then f else 0) * P v) n=f * P s.toNat:=by
 rw [z18 (g:=fun v=>if s=(v:Int) then f * P s.toNat else 0) (fun v hv=>by
  by_cases e:s=(v:Int)
  ·have:s.toNat=v:=by omega
   rw [if_pos e,if_pos e,this]
  ·rw [if_neg e,if_neg e,Int.zero_mul]),zad h0,if_pos hn]
theorem flowD_pot {n:Nat} {a:Arc} (pot:List Int) (f:Int) (ho:z3v n a=true):z1h (fun v:Nat=>z5m n a f v * pot.getD v 0) n=f * (potR pot a.src - potR pot a.dst):=by
 obtain ⟨o1,o2,o3,o4⟩:=okArc_iff.1 ho
 rw [z18 (g:=fun v:Nat=>(if a.src=(v:Int) then f else 0) * pot.getD v 0 - (if a.dst=(v:Int) then f else 0) * pot.getD v 0) (fun v _=>by
  simp only [z5m,ho,if_true,Int.sub_mul]),zae,sumTo_at (fun v=>pot.getD v 0) o1 n o2,sumTo_at (fun v=>pot.getD v 0) o3 n o4]
 simp only [potR,o1,o3,if_true,Int.mul_sub]
theorem net_pot {n:Nat} {l:List Arc} (x pot:List Int) (ho:∀ a ∈ l,z3v n a=true):∀ k,k <= l.length->z1h (fun v:Nat=>z3z n l x k v * pot.getD v 0) n=potK l x pot k
 | 0,_=>by
  simp only [z3z,potK]
  rw [z18 (g:=fun _=>0) (fun v _=>by simp),z68]
 | k+1,h=>by
  have hm:l.getD k default ∈ l:=by rw [List.getD_eq_getElem?_getD,List.getElem?_eq_getElem (show k<l.length by omega)]; exact List.getElem_mem _
  simp only [potK]
  rw [<- net_pot x pot ho k (by omega),<- flowD_pot pot (x.getD k 0) (ho _ hm),<- zac]
  refine z18 fun v _=>?_
  simp only [z3z,Int.add_mul]
theorem boundS_sum (l pot:List Int):∀ k,boundS l pot k=z1h (fun v=>l.getD v 0 * pot.getD v 0) k
 | 0=>rfl
 | k+1=>by simp only [boundS,z1h,boundS_sum l pot k]
theorem z71 (n:Int) (pot:List Int):∀ (l r:List Arc) (s:Int),z2u n pot (l ++ r) s=(z2u n pot l s).bind (z2u n pot r)
 | [],r,s=>by simp [z2u]
 | a :: l,r,s=>by
  simp only [List.cons_append,z2u]
  split
  ·split
   ·split
    ·rfl
    ·exact z71 n pot l r _
   ·exact z71 n pot l r _
  ·exact z71 n pot l r _
def zel (l:List Arc) (x pot:List Int) (j:Nat):Bool:=z6t (redP pot (l.getD j default)) (x.getD j 0) (l.getD j default)
theorem step_gap {a:Arc} {x r:Int} (hr:zcx r) (hf:fitF a x=true) :
  (sgn r<0->a.cap=inf->z6t r x a=false)/\(sgn r<0->a.cap ≠ inf->0 <= (x - a.cap) * r/\((x - a.cap) * r=0 ↔ z6t r x a=true))/\(¬ sgn r<0->0 <= (x - a.low) * r/\((x - a.low) * r=0 ↔ z6t r x a=true)):=by
 have hn:=sgn_neg hr
 have hp:=sgn_pos hr
 unfold fitF at hf
 simp only [Bool.and_eq_true,Bool.or_eq_true,decide_eq_true_eq] at hf
 refine ⟨fun h1 h2=>?_,fun h1 h2=>?_,fun h1=>?_⟩
 ·simp [z6t,h1,h2]
 ·have h3:r<0:=hn.1 h1
  have h4:x <= a.cap:=by rcases hf.2 with h | h; exact absurd h h2; exact h
  have h5:¬ 0<sgn r:=by omega
  refine ⟨Int.mul_nonneg_of_nonpos_of_nonpos (by omega) (by omega),?_⟩
  rw [Int.mul_eq_zero]
  simp only [z6t,h1,h2,h5,decide_true,decide_false,Bool.false_and,Bool.false_or,Bool.true_and,Bool.or_false,Bool.not_eq_true',decide_eq_false_iff_not,ne_eq,Decidable.not_not]
  omega
 ·have h3:0 <= r:=by omega
  refine ⟨Int.mul_nonneg (by omega) h3,?_⟩
  rw [Int.mul_eq_zero]
  by_cases h4:0<sgn r
  ·have h5:=hp.1 h4
   simp only [z6t,h1,h4,decide_true,decide_false,Bool.false_and,Bool.or_false,Bool.true_and,Bool.not_eq_true',decide_eq_false_iff_not,ne_eq,Decidable.not_not]
   omega
  ·have h5:r=0:=by omega
   subst h5; simp [z6t,sgn_zero]
theorem gap {n:Nat} {l:List Arc} {x pot:List Int} (s:Int) (ho:∀ a ∈ l,z3v n a=true) (hr:∀ a ∈ l,zcx (redP pot a)) (hf:∀ j a,l[j]? = some a->fitF a (x.getD j 0)=true):∀ k,k <= l.length ->
  (z2u n pot (l.take k) s=none->∃ j,j<k/\zel l x pot j=false)/\∀ t,z2u n pot (l.take k) s=some t->0 <= z4z l x k - potK l x pot k - (t - s)/\(z4z l x k - potK l x pot k - (t - s)=0 ↔ ∀ j,j<k->zel l x pot j=true)
 | 0,_=>by
  refine ⟨fun h=>?_,fun t h=>?_⟩
  ·simp [z2u] at h
  ·simp only [List.take_zero,z2u,Option.some.injEq] at h
   subst h
   simp [z4z,potK]
 | k+1,h=>by
  have ih:=gap s ho hr hf k (by omega)
  have hk:l[k]? = some (l[k]'(by omega)):=List.getElem?_eq_getElem (by omega)
  generalize l[k]'(by omega)=a at hk
  have hd:l.getD k default=a:=by simp [List.getD,hk]
  have hm:=List.mem_of_getElem? hk
  have hg:=step_gap (hr a hm) (hf k a hk)
  have hoa:=ho a hm
  have hsj:zel l x pot k=z6t (redP pot a) (x.getD k 0) a:=by unfold zel; rw [hd]
  have hall:(∀ j,j<k+1->zel l x pot j=true) ↔ (∀ j,j<k->zel l x pot j=true)/\z6t (redP pot a) (x.getD k 0) a=true:=by
   rw [<- hsj]
   constructor
   ·exact fun h=>⟨fun j hj=>h j (by omega),h k (by omega)⟩
   ·intro h j hj
    by_cases e:j=k
    ·subst e; exact h.2
    ·exact h.1 j (by omega)
  rw [z1b hk,z71]
  cases hb:z2u n pot (l.take k) s with
  | none =>
   refine ⟨fun _=>?_,fun t h=>by simp at h⟩
   obtain ⟨j,hj,hj2⟩:=ih.1 hb
   exact ⟨j,by omega,hj2⟩
  | some u =>
   have ih2:=ih.2 u hb
   simp only [Option.bind_some,z2u,hoa,if_true]
   have hc:z4z l x (k+1) - potK l x pot (k+1)=z4z l x k - potK l x pot k+x.getD k 0 * redP pot a:=by
    simp only [z4z,potK,hd,redP,redA,Int.mul_sub,Int.mul_add]
    rw [Int.mul_comm a.cost]
    omega
   rw [hall,hc]
   by_cases hs:sgn (redP pot a)<0
   ·by_cases hi:a.cap=inf
    ·simp only [hs,hi,if_true]
     exact ⟨fun _=>⟨k,by omega,by rw [hsj]; exact hg.1 hs hi⟩,fun t h=>by simp at h⟩
    ·simp only [hs,hi,if_true,if_false]
     refine ⟨fun h=>by simp at h,fun t h=>?_⟩
     simp only [Option.some.injEq] at h
     subst h
     have h2:=hg.2.1 hs hi
     rw [Int.sub_mul] at h2
     rw [<- ih2.2,<- h2.2]
     omega
   ·simp only [hs,if_false]
    refine ⟨fun h=>by simp at h,fun t h=>?_⟩
    simp only [Option.some.injEq] at h
    subst h
    have h2:=hg.2.2 hs
    rw [Int.sub_mul] at h2
    rw [<- ih2.2,<- h2.2]
    omega
theorem redF_at {I:Inst} {pot:List Int} {k:Nat} {a:Arc} (h:I.arcs[k]? = some a) (ho:z3v I.sup.length a=true):redF I pot k=redP pot a:=by
 have hg:gOk I.sup.length I.arcs (k:Int)=true:=by rw [zkd (by omega) (by rw [Int.toNat_natCast]; exact h)]; exact ho
 obtain ⟨o1,o2,o3,o4⟩:=okArc_iff.1 ho
 unfold redF atF atT redP potR
 rw [if_pos hg,if_pos hg,if_pos hg,atA_get h ho,if_pos o1,if_pos o3]
theorem zlb {I:Inst} {x pot:List Int} (hl:I.arcs.length <= 1000) (hx:A64 x) (hs:Within 4398046511104 I.sup) (hp:A64 pot) (hlp:pot.length=I.sup.length) (h:z1w I x=0) :
  (boundF I pot=none->z1l I x pot=33)/\∀ t,boundF I pot=some t->t <= zbu I x/\(t=zbu I x ↔ z1l I x pot=0):=by
 have hz:=fitsF_zero.1 h
 have ho:∀ a ∈ I.arcs,z3v I.sup.length a=true:=fun a ha=>(z1r hz.1 ha).1
 have hP:∀ v,I64 (potR pot v):=fun v=>by
  unfold potR
  split
  ·exact hp.getD _
  ·simp [I64]
 have hr:∀ a ∈ I.arcs,zcx (redP pot a):=fun a ha=>by
  have h1:=(z1r hz.1 ha).2.2
  have h2:=hP a.src
  have h3:=hP a.dst
  unfold redP redA
  unfold I64 at h2 h3
  unfold zcx
  omega
 have hg:=gap (n:=I.sup.length) (l:=I.arcs) (x:=x) (pot:=pot) (boundS I.sup pot I.sup.length) ho hr (fitsAll_iff.1 hz.2.2.1) I.arcs.length (Nat.le_refl _)
 rw [List.take_length] at hg
 have hn:boundS I.sup pot I.sup.length=potK I.arcs x pot I.arcs.length:=by
  rw [boundS_sum,<- net_pot x pot ho I.arcs.length (Nat.le_refl _)]
  refine z18 fun v hv=>?_
  rw [fits_net hl hx hs h v hv]
 have hsl:∀ k,k<I.arcs.length->z45 I x pot k=zel I.arcs x pot k:=fun k hk=>by
  have hget:I.arcs[k]? = some (I.arcs[k]):=List.getElem?_eq_getElem hk
  have hd:I.arcs.getD k default=I.arcs[k]:=by simp [List.getD,hget]
  unfold z45 zel
  rw [redF_at hget (ho _ (List.getElem_mem hk)),hd]
 have hF:z1l I x pot=if (List.range I.arcs.length).all (z45 I x pot) then 0 else 33:=by
  unfold z1l
  rw [if_neg (by omega),if_neg (by omega)]
 refine ⟨fun hb=>?_,fun t hb=>?_⟩
 ·obtain ⟨j,hj,hj2⟩:=hg.1 hb
  rw [hF,if_neg]
  intro hall
  have:=List.all_eq_true.1 hall j (List.mem_range.2 hj)
  rw [hsl j hj,hj2] at this
  cases this
 ·have h2:=hg.2 t hb
  rw [hn] at h2
  unfold zbu
  have h3:(t=z4z I.arcs x I.arcs.length) ↔ ∀ j,j<I.arcs.length->zel I.arcs x pot j=true:=by
   rw [<- h2.2]; omega
  refine ⟨by omega,?_⟩
  rw [h3,hF]
  constructor
  ·intro h4
   rw [if_pos (List.all_eq_true.2 fun j hj=>by have hj:=List.mem_range.1 hj; rw [hsl j hj]; exact h4 j hj)]
  ·intro h4 j hj
   split at h4
   ·rename_i h5
    rw [<- hsl j hj]
    exact List.all_eq_true.1 h5 j (List.mem_range.2 hj)
   ·omega
theorem zjw {l:List Arc} {x:List Int} {C X:Int} (hC:0 <= C) (hX:0 <= X) (hl:∀ a ∈ l,-C <= a.cost/\a.cost <= C) (hx:∀ k,-X <= x.getD k 0/\x.getD k 0 <= X):∀ k:Nat,k <= l.length->-(C * X * k) <= z4z l x k/\z4z l x k <= C * X * k
 | 0,_=>by simp [z4z]
 | k+1,h=>by
  have ih:=zjw hC hX hl hx k (by omega)
  have hm:l.getD k default ∈ l:=by rw [List.getD_eq_getElem?_getD,List.getElem?_eq_getElem (show k<l.length by omega)]; exact List.getElem_mem _
  have h1:=hl _ hm
  have h2:=hx k
  have hm:=zkt (a:=(l.getD k default).cost) (b:=x.getD k 0) h1.1 h1.2 h2.1 h2.2 hC hX
  rw [z4z,Int.natCast_succ,Int.mul_add,Int.mul_one]
  omega
theorem z0e {I:Inst} (h:z02 I=0):I.sup.length <= 64/\I.arcs.length <= 256:=by
 unfold z02 at h
 split at h
 ·omega
 ·omega
theorem supErr_in:∀ (l:List Int) (s:Int),z1o l s=0->Within 4398046511104 l/\s+l.sum=0
 | [],s,h=>by
  unfold z1o at h
  split at h
  ·rename_i e; exact ⟨fun x hx=>(by cases hx),by simpa using e⟩
  ·omega
 | x :: l,s,h=>by
  unfold z1o at h
  split at h
  ·omega
  ·have ih:=supErr_in l (s+x) h
   refine ⟨fun y hy=>?_,by rw [List.sum_cons]; omega⟩
   rcases List.mem_cons.1 hy with rfl | hy
   ·omega
   ·exact ih.1 y hy
theorem z1n {I:Inst} (h:z02 I=0):Within 4398046511104 I.sup/\I.sup.sum=0:=by
 unfold z02 at h
 split at h
 ·omega
 ·split at h
  ·have:=supErr_in _ _ h
   exact ⟨this.1,by omega⟩
  ·omega
theorem A64.at {l:List Int} (h:A64 l) (k:Nat):-9223372036854775808 <= l.getD k 0/\l.getD k 0 <= 9223372036854775808:=by
 have:=h.getD k
 unfold I64 at this
 omega
theorem z7h {I:Inst} {x:List Int} (h:z02 I=0) (hx:A64 x):zcx (zbu I x):=by
 have hl:=z0e h
 have:=zjw (C:=4398046511104) (X:=9223372036854775808) (by omega) (by omega) (fun a ha=>(z1r h ha).2.2) (fun k=>hx.at k) I.arcs.length (Nat.le_refl _)
 unfold zbu zcx
 omega
theorem slack_best {I:Inst} {x y pot:List Int} (hx:A64 x) (hy:A64 y) (hp:A64 pot) (hs:z1l I y pot=0) (hf:z1w I x=0):zie (W (zbu I y)) (W (zbu I x)) <= 0:=by
 have hfy:z1w I y=0:=by
  unfold z1l at hs
  split at hs
  ·omega
  ·rename_i h; omega
 have hlp:pot.length=I.sup.length:=by
  unfold z1l at hs
  split at hs
  ·omega
  ·split at hs
   ·omega
   ·rename_i h; omega
 have hr:=(fitsF_zero.1 hfy).1
 have hl:=z0e hr
 have hw:=(z1n hr).1
 have h1:=zlb (by omega) hy hw hp hlp hfy
 have h2:=zlb (by omega) hx hw hp hlp hf
 cases hb:boundF I pot with
 | none=>have:=h1.1 hb; omega
 | some t =>
  have e1:=(h1.2 t hb).2.2 hs
  have e2:=(h2.2 t hb).1
  rw [zbk (z7h hr hy) (z7h hr hx)]
  split
  ·omega
  ·split <;> omega
theorem gOk_ok {I:Inst} {a:Int} (h:gOk I.sup.length I.arcs a=true):z3v I.sup.length (atA I a)=true:=by
 unfold atA z2b
 rw [if_pos h]
 unfold gOk at h
 simp only [Bool.and_eq_true] at h
 exact h.2
theorem zgg (P:Nat->Int) {m:Nat}:∀ t,t <= m->0<m->z1h (fun k=>P ((k+1) % m) - P k) t=P (t % m) - P 0
 | 0,_,_=>by simp [z1h]
 | t+1,h,h0=>by
  rw [z1h,zgg P t (by omega) h0,Nat.mod_eq_of_lt (show t<m by omega)]
  omega
structure Cert where
 kind:Int
 flow:List Int
 pot:List Int
 side:List Bool
 cycle:List Int
deriving DecidableEq
structure StepD where
 inst:Inst
 pass:Int
 was:Inst
 off:Wide
 did:Bool
deriving DecidableEq
def StepD.none:StepD:=⟨⟨[],[]⟩,0,⟨[],[]⟩,⟨0,0⟩,false⟩
def Arc.In (n:Int) (a:Arc):Prop:=0 <= a.src/\a.src<n/\0 <= a.dst/\a.dst<n
theorem right_in {I:Inst} (h:z02 I=0):∀ a ∈ I.arcs,a.In I.sup.length:=fun a ha=>okArc_iff.1 (z1r h ha).1
def zh8 (x:Int) (a:Arc):Arc:=if x % 6=0 then { a with dst:=a.src } else if x % 6=1 then { a with cap:=a.low } else if x % 6=2 then { a with low:=0 } else a
def zbf (x:Int) (a:Arc) (s:List Int):List Int:=if x % 6=0 then addAt (addAt s a.dst.toNat a.low) a.src.toNat (-a.low) else s
def z17 (I:Inst) (e:List Int):Nat->Inst
 | 0=>I
 | k+1=>⟨zbf (e.getD k 0) (I.arcs.getD k default) (z17 I e k).sup,(z17 I e k).arcs.set k (zh8 (e.getD k 0) (I.arcs.getD k default))⟩
def zhn (I:Inst) (e:List Int):Nat:=min e.length I.arcs.length
def zfr (c d e:List Int):Inst :=
 let J:=z17 (z09 c d) e (zhn (z09 c d) e)
 if 0<e.length/\e.getD 0 0 % 3=0 then ⟨J.sup ++ [0],J.arcs⟩ else J
theorem oddSup_len (x:Int) (a:Arc) (s:List Int):(zbf x a s).length=s.length:=by unfold zbf; split <;> simp [z14]
theorem z9q (I:Inst) (e:List Int):∀ k,(z17 I e k).sup.length=I.sup.length/\(z17 I e k).arcs.length=I.arcs.length
 | 0=>⟨rfl,rfl⟩
 | k+1=>by
  have ih:=z9q I e k
  rw [z17]; dsimp only; rw [oddSup_len,List.length_set]; exact ih
theorem oddTo_at (I:Inst) (e:List Int):∀ k j,k <= j->(z17 I e k).arcs[j]? = I.arcs[j]?
 | 0,j,_=>rfl
 | k+1,j,h=>by
  rw [z17]; dsimp only
  rw [List.getElem?_set_ne (by omega)]
  exact oddTo_at I e k j (by omega)
theorem oddSup_within {b:Int} {s:List Int} (h:Within b s) (hb:0 <= b) (x:Int) (a:Arc) (h0:0 <= a.low) (h1:a.low <= 2):Within (b+4) (zbf x a s):=by
 unfold zbf
 split
 ·have:=(h.addAt hb a.dst.toNat (x:=a.low) (y:=2) (by omega) h1).addAt (by omega) a.src.toNat (x:=-a.low) (y:=2) (by omega) (by omega)
  exact this.more (by omega)
 ·exact h.more (by omega)
theorem z9r {I:Inst} {e:List Int} {b:Int} (h:Within b I.sup) (hb:0 <= b) (hl:∀ a ∈ I.arcs,0 <= a.low/\a.low <= 2):∀ k:Nat,k <= I.arcs.length->Within (b+4 * k) (z17 I e k).sup
 | 0,_=>by simpa [z17] using h
 | k+1,hk=>by
  have ih:=z9r (e:=e) h hb hl k (by omega)
  obtain ⟨a,ha⟩:∃ a,I.arcs[k]? = some a:=⟨_,List.getElem?_eq_getElem (by omega)⟩
  have hla:=hl a (List.mem_of_getElem? ha)
  rw [z17]; dsimp only
  rw [show I.arcs.getD k default=a by rw [List.getD_eq_getElem?_getD,ha]; rfl]
  exact (oddSup_within ih (by omega) _ a hla.1 hla.2).more (by push_cast; omega)
theorem oddTo_succ {I:Inst} {e:List Int} {k:Nat} {a:Arc} {x:Int} (ha:I.arcs[k]? = some a) (hx:e[k]? = some x):z17 I e (k+1)=⟨zbf x a (z17 I e k).sup,(z17 I e k).arcs.set k (zh8 x a)⟩:=by
 rw [z17,show I.arcs.getD k default=a by rw [List.getD_eq_getElem?_getD,ha]; rfl,show e.getD k 0=x by rw [List.getD_eq_getElem?_getD,hx]; rfl]
theorem odd_step {s:List Int} {a:Arc} {b p q:Int} (hs:Within b s) (hb:0 <= b) (hb2:b <= 1152921504606846976) (h0:0 <= a.low) (h1:a.low <= 2) (hp:s[a.dst.toNat]? = some p)
  (hq:(s.set a.dst.toNat (IntKind.i64.wrap (p+a.low)))[a.src.toNat]? = some q):(s.set a.dst.toNat (IntKind.i64.wrap (p+a.low))).set a.src.toNat (IntKind.i64.wrap (q - a.low))=addAt (addAt s a.dst.toNat a.low) a.src.toNat (-a.low):=by
 have hpb:=hs p (List.mem_of_getElem? hp)
 have e1:IntKind.i64.wrap (p+a.low)=p+a.low:=w64 (by omega) (by omega)
 rw [e1] at hq ⊢
 have g1:s.set a.dst.toNat (p+a.low)=addAt s a.dst.toNat a.low:=by unfold addAt; rw [List.getD_eq_getElem?_getD,hp]; rfl
 rw [g1] at hq ⊢
 have h2:=hs.addAt hb a.dst.toNat (x:=a.low) (y:=2) (by omega) h1
 have hqb:=h2 q (List.mem_of_getElem? hq)
 rw [w64 (by omega) (by omega)]
 generalize addAt s a.dst.toNat a.low=s2 at *
 unfold addAt
 rw [List.getD_eq_getElem?_getD,hq]
 rfl
theorem odd_stay {s:List Int} {x:Int} {a:Arc} (h:¬ x % 6=0):zbf x a s=s:=by unfold zbf; rw [if_neg h]
theorem set_same {α:Type} {l:List α} {k:Nat} {a:α} (h:l[k]? = some a):l=l.set k a:=by
 obtain ⟨h1,h2⟩:=List.getElem?_eq_some_iff.1 h
 rw [<- h2,List.set_getElem_self]
theorem oddF_end {c d e:List Int} {g:Nat} (hg:g=zhn (z09 c d) e):(0<e.length->∀ x,e[0]? = some x->(x % 3=0->(z17 (z09 c d) e g).sup ++ [0]=(zfr c d e).sup/\(z17 (z09 c d) e g).arcs=(zfr c d e).arcs)/\(¬ x % 3=0->(z17 (z09 c d) e g).sup=(zfr c d e).sup/\(z17 (z09 c d) e g).arcs=(zfr c d e).arcs))/\(¬ 0<e.length->(z17 (z09 c d) e g).sup=(zfr c d e).sup/\(z17 (z09 c d) e g).arcs=(zfr c d e).arcs):=by
 subst hg
 refine ⟨fun h0 x hx=>?_,fun h0=>?_⟩
 ·have e1:e.getD 0 0=x:=by rw [List.getD_eq_getElem?_getD,hx]; rfl
  constructor <;> intro h <;> unfold zfr <;> rw [e1]
  ·rw [if_pos ⟨h0,h⟩]; exact ⟨rfl,rfl⟩
  ·rw [if_neg (fun h2=>h h2.2)]; exact ⟨rfl,rfl⟩
 ·unfold zfr
  rw [if_neg (fun h2=>h0 h2.1)]; exact ⟨rfl,rfl⟩
theorem Arc.Nice.more {m n:Int} {a:Arc} (h:a.Nice m) (hm:m <= n):a.Nice n :=
 ⟨h.s0,by have:=h.s1; omega,h.d0,by have:=h.d1; omega,h.l0,h.l1,h.c0,h.c1,h.k0,h.k1⟩
theorem oddArc_nice {m x:Int} {a:Arc} (h:a.Nice m):(zh8 x a).Nice m:=by
 obtain ⟨h1,h2,h3,h4,h5,h6,h7,h8,h9,h10⟩:=h
 unfold zh8
 split
 ·exact ⟨h1,h2,h1,h2,h5,h6,h7,h8,h9,h10⟩
 ·split
  ·exact ⟨h1,h2,h3,h4,h5,h6,Int.le_refl _,.inl (by dsimp only; omega),h9,h10⟩
  ·split
   ·exact ⟨h1,h2,h3,h4,Int.le_refl _,by dsimp only; omega,by dsimp only; omega,h8,h9,h10⟩
   ·exact ⟨h1,h2,h3,h4,h5,h6,h7,h8,h9,h10⟩
theorem oddTo_nice {I:Inst} {e:List Int} {m:Int} (h:∀ a ∈ I.arcs,a.Nice m):∀ k,k <= I.arcs.length->∀ a ∈ (z17 I e k).arcs,a.Nice m
 | 0,_=>h
 | k+1,hk=>fun a ha=>by
  rw [z17] at ha
  dsimp only at ha
  rcases List.mem_or_eq_of_mem_set ha with h1 | rfl
  ·exact oddTo_nice h k (by omega) a h1
  ·obtain ⟨b,hb⟩:∃ b,I.arcs[k]? = some b:=⟨_,List.getElem?_eq_getElem (by omega)⟩
   rw [show I.arcs.getD k default=b by rw [List.getD_eq_getElem?_getD,hb]; rfl]
   exact oddArc_nice (h b (List.mem_of_getElem? hb))
theorem oddTo_sum {I:Inst} {e:List Int} (h:∀ a ∈ I.arcs,a.Nice I.sup.length):∀ k,k <= I.arcs.length->(z17 I e k).sup.sum=I.sup.sum
 | 0,_=>rfl
 | k+1,hk=>by
  have ih:=oddTo_sum (e:=e) h k (by omega)
  have hl:=(z9q I e k).1
  obtain ⟨b,hb⟩:∃ b,I.arcs[k]? = some b:=⟨_,List.getElem?_eq_getElem (by omega)⟩
  have hn:=h b (List.mem_of_getElem? hb)
  have n1:=hn.s0; have n2:=hn.s1; have n3:=hn.d0; have n4:=hn.d1
  rw [z17]
  dsimp only
  rw [show I.arcs.getD k default=b by rw [List.getD_eq_getElem?_getD,hb]; rfl]
  unfold zbf
  split
  ·rw [z26 _ _ _ (by rw [z14]; omega),z26 _ _ _ (by omega),ih]; omega
  ·exact ih
theorem oddN_le (I:Inst) (e:List Int):zhn I e <= I.arcs.length:=by unfold zhn; omega
theorem oddF_all (c d e:List Int):z02 (zfr c d e)=0/\(zfr c d e).sup.length <= 8/\1 <= (zfr c d e).sup.length/\(zfr c d e).arcs.length <= 18/\(∀ a ∈ (zfr c d e).arcs,a.Nice (zfr c d e).sup.length)/\Within 300 (zfr c d e).sup:=by
 have hp:=z9l d
 have hq:=zku d
 have hs:=z7k c d
 have ha:=z65 c d
 have hn:=z5a c d
 have hw:=z4i c d
 have hz:=zdg c d
 have hl:=z9q (z09 c d) e (zhn (z09 c d) e)
 have hN:=oddN_le (z09 c d) e
 have h1:=oddTo_nice (e:=e) hn _ hN
 have h2:=oddTo_sum (e:=e) (I:=z09 c d) (by rw [hs]; exact hn) _ hN
 have h3:=z9r (e:=e) hw (by omega) (fun a h=>⟨(hn a h).l0,(hn a h).l1⟩) _ hN
 rw [hs] at hl
 generalize hJ:z17 (z09 c d) e (zhn (z09 c d) e)=J at *
 have h4:Within 300 J.sup:=h3.more (by omega)
 have key:∀ s:List Int,J.sup.length <= s.length->s.length <= 8->s.sum=0->Within 300 s->z02 ⟨s,J.arcs⟩=0/\s.length <= 8/\1 <= s.length/\J.arcs.length <= 18/\(∀ a ∈ J.arcs,a.Nice s.length)/\Within 300 s:=fun s k1 k2 k3 k4 =>
  have k5:∀ a ∈ J.arcs,a.Nice s.length:=fun a h=>(h1 a h).more (by omega)
  ⟨zi8 (by dsimp only; omega) (by dsimp only; omega) (fun a h=>(k5 a h).right) (fun x hx=>(k4.more (b':=4398046511104) (by omega)) x hx) k3,k2,by omega,by omega,k5,k4⟩
 unfold zfr
 rw [hJ]
 dsimp only
 split
 ·refine key _ (by simp) (by simp only [List.length_append,List.length_cons,List.length_nil]; omega) (by rw [List.sum_append]; simp; omega) (fun x hx=>?_)
  rcases List.mem_append.1 hx with h | h
  ·exact h4 x h
  ·simp at h; omega
 ·exact key J.sup (by omega) (by omega) (by omega) h4
theorem on_in {m:Int} {side:List Bool} {a:Arc} (h:a.In m):zl1 m side a=(side.getD a.src.toNat false && !side.getD a.dst.toNat false)/\inA m side a=(side.getD a.dst.toNat false && !side.getD a.src.toNat false):=by
 obtain ⟨h1,h2,h3,h4⟩:=h
 unfold zl1 inA isN onF
 simp [h1,h2,h3,h4]
theorem addAt_getD (s:List Int) (k:Nat) (x:Int) (v:Nat) (hv:v<s.length):(addAt s k x).getD v 0=s.getD v 0+(if k=v then x else 0):=by
 unfold addAt
 rw [List.getD_eq_getElem?_getD,List.getElem?_set]
 by_cases h:k=v
 ·subst h; simp [hv]
 ·simp [h,List.getD_eq_getElem?_getD]
theorem fitsF_iff {I:Inst} {x:List Int}:z1w I x=0 ↔ z02 I=0/\x.length=I.arcs.length/\z2i I.arcs x=true/\netOk I x=true:=by
 unfold z1w
 by_cases h1:z02 I=0
 ·by_cases h2:x.length=I.arcs.length
  ·cases h3:z2i I.arcs x <;> cases h4:netOk I x <;> simp [h1,h2]
  ·simp [h1,h2]
 ·simp [h1]
def Few (x:List Int):Prop:=∀ y ∈ x,0 <= y/\y <= 7
theorem Few.head {x:List Int} (h:Few x):0 <= x.headD 0/\x.headD 0 <= 7:=by
 cases x with
 | nil=>simp
 | cons y x=>exact h y (by simp)
theorem Few.tail {x:List Int} (h:Few x):Few x.tail:=fun y hy=>h y (List.mem_of_mem_tail hy)
theorem Few.a64 {x:List Int} (h:Few x):A64 x:=fun y hy=>by have:=h y hy; unfold I64; omega
theorem right_A64 {I:Inst} (h:z02 I=0):A64a I.arcs/\A64c I.arcs/\A64 I.sup/\L42 I.arcs:=by
 refine ⟨fun a ha=>?_,fun a ha=>?_,fun x hx=>?_,fun a ha=>?_⟩
 ·have:=z1r h ha; unfold I64; omega
 ·have:=z1r h ha; unfold I64; omega
 ·have:=(z1n h).1 x hx; unfold I64; omega
 ·have:=z1r h ha; omega
def z5y (I:Inst) (a:Int):Bool:=decide (0 <= a) && decide (a<I.arcs.length)
def z4y (I:Inst) (a:Int):Arc:=I.arcs.getD a.toNat default
def rayD (I:Inst) (a:Int):Int:=if z5y I a then (z4y I a).cost else 0
def z79 (I:Inst) (l:List Int):Nat->Int
 | 0=>0
 | k+1=>z79 I l k+rayD I (l.getD k 0)
def rayS (I:Inst) (l:List Int):Int:=z79 I l l.length
def c1F (I:Inst) (l:List Int):Bool:=l.all (z5y I)
def c2F (l:List Int):Bool:=decide l.Nodup
def linkF (I:Inst) (l:List Int) (k:Nat):Bool:=decide ((z4y I (l.getD k 0)).dst=(z4y I (l.getD ((k+1) % l.length) 0)).src)
def c3F (I:Inst) (l:List Int):Bool:=(List.range l.length).all (linkF I l)
def c4F (I:Inst) (l:List Int):Bool:=l.all fun a=>decide ((z4y I a).cap=inf)
def c5F (I:Inst) (l:List Int):Bool:=decide (zie (W (rayS I l)) (W 0)<0)
def z3e (I:Inst) (l:List Int):Int :=
 if z02 I ≠ 0 then z02 I else if l.length=0 ∨ I.arcs.length<l.length then 30
 else if c1F I l && c2F l && c3F I l && c4F I l && c5F I l then 0 else 35
def nodI (l:List Int):Prop:=l.Nodup
theorem all_take {p:Int->Bool} {l:List Int} {k:Nat} {x:Int} (h:l[k]? = some x):(l.take (k+1)).all p=((l.take k).all p && p x):=by rw [z1b h,List.all_append]; simp
theorem all_not {p:Int->Bool} {l:List Int} {k:Nat} {x:Int} (h:l[k]? = some x) (hp:p x=false):l.all p=false:=by
 cases ha:l.all p with
 | false=>rfl
 | true=>have:=List.all_eq_true.1 ha x (List.mem_of_getElem? h); rw [hp] at this; cases this
theorem all_end {p:Int->Bool} {l:List Int} {k:Nat} (h:(l.take k).all p=true) (hk:l.length <= k):l.all p=true:=by rw [List.take_of_length_le hk] at h; exact h
theorem nodI_take {l:List Int} {k:Nat} {x:Int} (h:l[k]? = some x) (h1:nodI (l.take k)) (h2:x ∉ l.take k):nodI (l.take (k+1)):=by
 unfold nodI at *
 rw [z1b h,List.nodup_append]
 exact ⟨h1,by simp,fun a ha b hb=>by simp at hb; subst hb; exact fun e=>h2 (e ▸ ha)⟩
theorem nodI_not {l:List Int} {k:Nat} {x:Int} (h:l[k]? = some x) (h2:x ∈ l.take k):c2F l=false:=by
 unfold c2F
 refine decide_eq_false fun hn=>?_
 have hd:l=l.take k ++ l.drop k:=(List.take_append_drop k l).symm
 rw [hd,List.nodup_append] at hn
 refine hn.2.2 x h2 x ?_ rfl
 rw [z3i h]; simp
theorem nodI_end {l:List Int} {k:Nat} (h:nodI (l.take k)) (hk:l.length <= k):c2F l=true:=by
 unfold nodI at h
 rw [List.take_of_length_le hk] at h
 exact decide_eq_true h
theorem z6d {I:Inst} {x:Int} {a:Arc} (h:I.arcs[x.toNat]? = some a):z4y I x=a:=by simp [z4y,List.getD,h]
theorem isArcF_iff {I:Inst} {x:Int}:z5y I x=true ↔ 0 <= x/\x<I.arcs.length:=by simp [z5y]
theorem c1F_get {I:Inst} {l:List Int} {k:Nat} {x:Int} (h:c1F I l=true) (hx:l[k]? = some x):0 <= x/\x<I.arcs.length:=isArcF_iff.1 (List.all_eq_true.1 h x (List.mem_of_getElem? hx))
def z3o (c:Cert):Bool :=
 if c.kind=1 then decide (c.side.length=0) && decide (c.cycle.length=0)
 else if c.kind=2 then decide (c.flow.length=0) && decide (c.pot.length=0) && decide (c.cycle.length=0)
 else if c.kind=3 then decide (c.pot.length=0) && decide (c.side.length=0)
 else false
def z28 (I:Inst) (c:Cert):Int :=
 if z02 I ≠ 0 then z02 I else if z3o c=false then 36
 else if c.kind=1 then z1l I c.flow c.pot
 else if c.kind=2 then z32 I c.side
 else if z1w I c.flow ≠ 0 then z1w I c.flow else z3e I c.cycle
def z5r (I:Inst) (c:Cert):Wide:=if c.kind=1 then W (zbu I c.flow) else ⟨0,0⟩
def z69 (c:Cert):Prop:=A64 c.flow/\A64 c.pot/\c.flow.length <= 140737488351232/\c.pot.length <= 140737488351232/\c.side.length <= 140737488351232/\c.cycle.length <= 140737488351232
def zgy (I:Inst):Prop:=I.sup.length <= 10000/\I.arcs.length <= 10000/\A64 I.sup/\A64a I.arcs/\A64c I.arcs
theorem zl6 {c:Cert} (h:z3o c=true):c.kind=1 ∨ c.kind=2 ∨ c.kind=3:=by
 unfold z3o at h
 by_cases h1:c.kind=1
 ·exact .inl h1
 ·by_cases h2:c.kind=2
  ·exact .inr (.inl h2)
  ·by_cases h3:c.kind=3
   ·exact .inr (.inr h3)
   ·rw [if_neg h1,if_neg h2,if_neg h3] at h; cases h
theorem cert_ext {c d:Cert}:c=d ↔ c.kind=d.kind/\c.flow=d.flow/\c.pot=d.pot/\c.side=d.side/\c.cycle=d.cycle:=by
 cases c; cases d; simp
theorem z59 {I:Inst} {c:Cert} (h:z28 I c=0):z02 I=0/\z3o c=true/\(c.kind=1/\z1l I c.flow c.pot=0 ∨ c.kind=2/\z32 I c.side=0 ∨ c.kind=3/\z1w I c.flow=0/\z3e I c.cycle=0):=by
 unfold z28 at h
 by_cases h1:z02 I=0
 ·rw [if_neg (fun h2=>h2 h1)] at h
  cases hp:z3o c with
  | false=>rw [hp] at h; simp at h
  | true =>
   rw [hp] at h
   simp only [Bool.true_eq_false,if_false] at h
   refine ⟨h1,rfl,?_⟩
   rcases zl6 hp with hk | hk | hk
   ·left; rw [if_pos hk] at h; exact ⟨hk,h⟩
   ·right; left; rw [if_neg (by omega),if_pos hk] at h; exact ⟨hk,h⟩
   ·right; right
    rw [if_neg (by omega),if_neg (by omega)] at h
    refine ⟨hk,?_⟩
    by_cases hf:z1w I c.flow=0
    ·rw [if_neg (fun h2=>h2 hf)] at h; exact ⟨hf,h⟩
    ·rw [if_pos hf] at h; exact absurd h hf
 ·rw [if_pos h1] at h; exact absurd h h1
theorem z7z {I:Inst} {x pot:List Int} (h:z1l I x pot=0):z1w I x=0/\pot.length=I.sup.length/\∀ k,k<I.arcs.length->z45 I x pot k=true:=by
 unfold z1l at h
 by_cases h1:z1w I x=0
 ·rw [if_neg (fun h2=>h2 h1)] at h
  by_cases h2:pot.length=I.sup.length
  ·rw [if_neg (fun h3=>h3 h2)] at h
   refine ⟨h1,h2,fun k hk=>?_⟩
   split at h
   ·rename_i h3; exact List.all_eq_true.1 h3 k (List.mem_range.2 hk)
   ·omega
  ·rw [if_pos h2] at h; omega
 ·rw [if_pos h1] at h; exact absurd h h1
theorem turns_zero {I:Inst} {l:List Int} (h:z3e I l=0):z02 I=0/\0<l.length/\l.length <= I.arcs.length/\c1F I l=true/\c2F l=true/\c3F I l=true/\c4F I l=true/\c5F I l=true:=by
 unfold z3e at h
 by_cases h1:z02 I=0
 ·rw [if_neg (fun h2=>h2 h1)] at h
  by_cases h2:l.length=0 ∨ I.arcs.length<l.length
  ·rw [if_pos h2] at h; omega
  ·rw [if_neg h2] at h
   split at h
   ·rename_i h3
    simp only [Bool.and_eq_true] at h3
    exact ⟨h1,by omega,by omega,h3.1.1.1.1,h3.1.1.1.2,h3.1.1.2,h3.1.2,h3.2⟩
   ·omega
 ·rw [if_pos h1] at h; exact absurd h h1
theorem potR_I64 {pot:List Int} (h:A64 pot) (n:Int):I64 (potR pot n):=by
 unfold potR
 split
 ·exact h.getD _
 ·unfold I64; omega
theorem redP_I128 {I:Inst} {pot:List Int} (hr:z02 I=0) (hp:A64 pot) {a:Arc} (ha:a ∈ I.arcs):zcx (redP pot a):=by
 have h1:=potR_I64 hp a.src
 have h2:=potR_I64 hp a.dst
 have h3:=z1r hr ha
 unfold redP redA zcx
 unfold I64 at h1 h2
 omega
theorem rayK_bd {I:Inst} (hr:z02 I=0) (l:List Int):∀ k:Nat,-(4398046511104 * (k:Int)) <= z79 I l k/\z79 I l k <= 4398046511104 * (k:Int)
 | 0=>by simp [z79]
 | k+1=>by
  have ih:=rayK_bd hr l k
  have hd:-4398046511104 <= rayD I (l.getD k 0)/\rayD I (l.getD k 0) <= 4398046511104:=by
   unfold rayD
   split
   ·rename_i h
    obtain ⟨h1,h2⟩:=isArcF_iff.1 h
    obtain ⟨a,ha⟩:∃ a,I.arcs[(l.getD k 0).toNat]? = some a:=⟨_,List.getElem?_eq_getElem (by omega)⟩
    rw [z6d ha]
    have:=z1r hr (List.mem_of_getElem? ha)
    omega
   ·omega
  rw [z79]
  push_cast
  omega
theorem no_both {I:Inst} {x pot l:List Int} (hp:A64 pot) (hs:z1l I x pot=0) (ht:z3e I l=0):False:=by
 obtain ⟨hr,hl0,hl1,c1,c2,c3,c4,c5⟩:=turns_zero ht
 obtain ⟨hf,hpl,hk⟩:=z7z hs
 have hrs:=z0e hr
 let P:Nat->Int:=fun k=>potR pot (z4y I (l.getD k 0)).src
 have step:∀ k,k<l.length->0 <= rayD I (l.getD k 0) - P k+P ((k+1) % l.length):=fun k hkl=>by
  have hx:l[k]? = some (l.getD k 0):=by rw [List.getD_eq_getElem?_getD,List.getElem?_eq_getElem hkl]; rfl
  have hm:=List.mem_of_getElem? hx
  generalize hy:l.getD k 0=y at *
  have h1:=List.all_eq_true.1 c1 y hm
  obtain ⟨y0,y1⟩:=isArcF_iff.1 h1
  obtain ⟨a,ha⟩:∃ a,I.arcs[y.toNat]? = some a:=⟨_,List.getElem?_eq_getElem (by omega)⟩
  have hma:=List.mem_of_getElem? ha
  have hat:=z6d (x:=y) ha
  have hcap:a.cap=inf:=by
   have:=List.all_eq_true.1 c4 y hm
   rw [hat] at this
   exact of_decide_eq_true this
  have hlink:(z4y I y).dst=(z4y I (l.getD ((k+1) % l.length) 0)).src:=by
   have:=List.all_eq_true.1 c3 k (List.mem_range.2 hkl)
   unfold linkF at this
   rw [hy] at this
   exact of_decide_eq_true this
  have hsk:=hk y.toNat (by omega)
  unfold z45 at hsk
  rw [redF_at ha (z1r hr hma).1,show I.arcs.getD y.toNat default=a by rw [List.getD_eq_getElem?_getD,ha]; rfl] at hsk
  have h2:¬ sgn (redP pot a)<0:=fun h3=>by
   unfold z6t at hsk
   simp [h3,hcap] at hsk
  have h3:0 <= redP pot a:=by
   apply Classical.byContradiction
   intro h4
   exact h2 ((sgn_neg (redP_I128 hr hp hma)).2 (by omega))
  unfold redP redA at h3
  have e1:rayD I y=a.cost:=by unfold rayD; rw [h1,hat]; rfl
  have e2:P k=potR pot a.src:=by show potR pot (z4y I (l.getD k 0)).src=_; rw [hy,hat]
  have e3:P ((k+1) % l.length)=potR pot a.dst:=by show potR pot (z4y I (l.getD ((k+1) % l.length) 0)).src=_; rw [<- hlink,hat]
  rw [e1,e2,e3]
  exact h3
 have sums:∀ t,t <= l.length->0 <= z79 I l t+z1h (fun k=>P ((k+1) % l.length) - P k) t:=fun t=>by
  induction t with
  | zero=>intro _; simp [z79,z1h]
  | succ t ih =>
   intro h
   have h1:=ih (by omega)
   have h2:=step t (by omega)
   rw [z79,z1h]
   omega
 have h1:=sums l.length (Nat.le_refl _)
 rw [zgg P l.length (Nat.le_refl _) hl0,Nat.mod_self] at h1
 have h2:=rayK_bd hr l l.length
 unfold c5F rayS at c5
 have h3:=of_decide_eq_true c5
 rw [zbk (by unfold zcx; omega) (by unfold zcx; omega)] at h3
 have h4:¬ z79 I l l.length<0:=by omega
 rw [if_neg h4] at h3
 split at h3 <;> omega
theorem cost_one {I:Inst} {x y p q:List Int} (hx:A64 x) (hy:A64 y) (hp:A64 p) (hq:A64 q) (h1:z1l I x p=0) (h2:z1l I y q=0):zbu I x=zbu I y:=by
 obtain ⟨f1,-,-⟩:=z7z h1
 obtain ⟨f2,-,-⟩:=z7z h2
 have hr:=(fitsF_iff.1 f1).1
 have a:=slack_best hy hx hp h1 f2
 have b:=slack_best hx hy hq h2 f1
 rw [zbk (z7h hr hx) (z7h hr hy)] at a
 rw [zbk (z7h hr hy) (z7h hr hx)] at b
 split at a <;> split at b <;> (try split at a) <;> (try split at b) <;> omega
theorem cert_one {I:Inst} {x y:Cert} (hx:z69 x) (hy:z69 y) (h1:z28 I x=0) (h2:z28 I y=0):x.kind=y.kind/\z5r I x=z5r I y:=by
 obtain ⟨hr,-,k1⟩:=z59 h1
 obtain ⟨-,-,k2⟩:=z59 h2
 have hrs:=z0e hr
 have hw:=(z1n hr).1
 have none_:∀ {s:List Bool} {f:List Int},A64 f->z32 I s=0->z1w I f=0->False:=fun hf h3 h4=>z8l (by omega) (by omega) hf hw h3 h4
 rcases k1 with ⟨a1,b1⟩ | ⟨a1,b1⟩ | ⟨a1,b1,d1⟩ <;> rcases k2 with ⟨a2,b2⟩ | ⟨a2,b2⟩ | ⟨a2,b2,d2⟩
 ·refine ⟨by omega,?_⟩
  unfold z5r; rw [if_pos a1,if_pos a2,cost_one hx.1 hy.1 hx.2.1 hy.2.1 b1 b2]
 ·exact (none_ hx.1 b2 (z7z b1).1).elim
 ·exact (no_both hx.2.1 b1 d2).elim
 ·exact (none_ hy.1 b1 (z7z b2).1).elim
 ·refine ⟨by omega,?_⟩
  unfold z5r; rw [if_neg (by omega),if_neg (by omega)]
 ·exact (none_ hy.1 b1 b2).elim
 ·exact (no_both hy.2.1 b2 d1).elim
 ·exact (none_ hx.1 b2 b1).elim
 ·refine ⟨by omega,?_⟩
  unfold z5r; rw [if_neg (by omega),if_neg (by omega)]
abbrev Rows3:=List (List (List Int))
abbrev Stp:=Nat × Bool
def z2z (I:Inst) (a:Nat):Arc:=I.arcs.getD a default
def frS (I:Inst) (s:Stp):Nat:=if s.2 then (z2z I s.1).dst.toNat else (z2z I s.1).src.toNat
def toS (I:Inst) (s:Stp):Nat:=if s.2 then (z2z I s.1).src.toNat else (z2z I s.1).dst.toNat
def csS (I:Inst) (s:Stp):Int:=if s.2 then -(z2z I s.1).cost else (z2z I s.1).cost
def rmS (I:Inst) (x:List Int) (s:Stp):Int:=if s.2 then x.getD s.1 0 - (z2z I s.1).low else if (z2z I s.1).cap=inf then 1152921504606846976 else (z2z I s.1).cap - x.getD s.1 0
def okS (I:Inst) (s:Stp):Prop:=s.1<I.arcs.length
def z4s (x:List Int) (s:Stp) (u:Int):List Int:=x.set s.1 (x.getD s.1 0+(if s.2 then -u else u))
def z6y (I:Inst) (o:List Int) (s:Stp) (u:Int):List Int:=addAt (addAt o (frS I s) (-u)) (toS I s) u
theorem z27 {I:Inst} {a:Nat} {y:Arc} (h:I.arcs[a]? = some y):z2z I a=y:=by unfold z2z; rw [List.getD_eq_getElem?_getD,h]; rfl
theorem arcN_mem {I:Inst} {a:Nat} (h:a<I.arcs.length):I.arcs[a]? = some (z2z I a)/\z2z I a ∈ I.arcs:=by
 have e:I.arcs[a]? = some (z2z I a):=by unfold z2z; rw [List.getD_eq_getElem?_getD,List.getElem?_eq_getElem h]; rfl
 exact ⟨e,List.mem_of_getElem? e⟩
structure ArcOk (n:Nat) (y:Arc):Prop where
 s0:0 <= y.src
 s1:y.src.toNat<n
 d0:0 <= y.dst
 d1:y.dst.toNat<n
 l0:0 <= y.low
 l1:y.low <= 4398046511104
 c:y.cap=inf ∨ y.low <= y.cap/\y.cap <= 4398046511104
 k0:-4398046511104 <= y.cost
 k1:y.cost <= 4398046511104
theorem z1j {I:Inst} (hr:z02 I=0) {a:Nat} (h:a<I.arcs.length):ArcOk I.sup.length (z2z I a):=by
 have hm:=z1r hr (arcN_mem h).2
 obtain ⟨p1,p2,p3,p4⟩:=okArc_iff.1 hm.1
 exact ⟨p1,by omega,p3,by omega,hm.2.1.1,hm.2.1.2.1,hm.2.1.2.2,hm.2.2.1,hm.2.2.2⟩
theorem z2w {I:Inst} (hr:z02 I=0) {s:Stp} (h:okS I s):frS I s<I.sup.length:=by
 have:=z1j hr h
 unfold frS; split
 ·exact this.d1
 ·exact this.s1
theorem z5q {I:Inst} (hr:z02 I=0) {s:Stp} (h:okS I s):toS I s<I.sup.length:=by
 have:=z1j hr h
 unfold toS; split
 ·exact this.s1
 ·exact this.d1
theorem zh3 {I:Inst} (hr:z02 I=0) {s:Stp} (h:okS I s):-4398046511104 <= csS I s/\csS I s <= 4398046511104:=by
 have:=z1j hr h
 have:=this.k0; have:=(z1j hr h).k1
 unfold csS; split <;> omega
theorem zkc (I:Inst) (a:Nat) (b:Bool):frS I (a,!b)=toS I (a,b)/\toS I (a,!b)=frS I (a,b)/\csS I (a,!b) = -csS I (a,b):=by
 cases b <;> simp [frS,toS,csS]
structure OverOf (I:Inst) (x o:List Int):Prop where
 lo:o.length=I.sup.length
 lx:x.length=I.arcs.length
 at_:∀ v:Nat,v<I.sup.length->o.getD v 0=I.sup.getD v 0 - z3z I.sup.length I.arcs x I.arcs.length v
theorem zlg (x:List Int) (s:Stp) (u:Int):(z4s x s u).length=x.length:=by simp [z4s]
theorem zle (I:Inst) (o:List Int) (s:Stp) (u:Int):(z6y I o s u).length=o.length:=by simp [z6y,z14]
theorem zdq {I:Inst} {o:List Int} {s:Stp} {u:Int} {v:Nat} (hv:v<o.length):(z6y I o s u).getD v 0=o.getD v 0 - (if frS I s=v then u else 0)+(if toS I s=v then u else 0):=by
 unfold z6y
 rw [addAt_getD _ _ _ _ (by rw [z14]; exact hv),addAt_getD _ _ _ _ hv]
 split <;> split <;> omega
theorem z8m {x:List Int} {s:Stp} {u:Int} {a:Nat} (h:s.1<x.length):(z4s x s u).getD a 0=x.getD a 0+(if a=s.1 then (if s.2 then -u else u) else 0):=by
 unfold z4s; exact zh4 h _ a
theorem flowD_step {I:Inst} (hr:z02 I=0) {s:Stp} (h:okS I s) (u:Int) (v:Nat):z5m I.sup.length (z2z I s.1) (if s.2 then -u else u) v=(if frS I s=v then u else 0) - (if toS I s=v then u else 0):=by
 have ok:=z1j hr h
 have h1:=ok.s0; have h2:=ok.d0; have h3:=ok.s1; have h4:=ok.d1
 have ho:z3v I.sup.length (z2z I s.1)=true:=okArc_iff.2 ⟨h1,by omega,h2,by omega⟩
 unfold z5m frS toS
 rw [ho,if_pos rfl]
 have e1:((z2z I s.1).src=(v:Int)) ↔ (z2z I s.1).src.toNat=v:=by omega
 have e2:((z2z I s.1).dst=(v:Int)) ↔ (z2z I s.1).dst.toNat=v:=by omega
 cases s.2
 ·simp only [Bool.false_eq_true,if_false,e1,e2]
 ·simp only [if_true,e1,e2]
  split <;> split <;> omega
theorem OverOf.push {I:Inst} (hr:z02 I=0) {x o:List Int} (h:OverOf I x o) {s:Stp} (hs:okS I s) (u:Int):OverOf I (z4s x s u) (z6y I o s u):=by
 refine ⟨by rw [zle]; exact h.lo,by rw [zlg]; exact h.lx,fun v hv=>?_⟩
 have hx:s.1<x.length:=by rw [h.lx]; exact hs
 rw [zdq (by rw [h.lo]; exact hv),h.at_ v hv]
 have:=netK_set (n:=I.sup.length) (l:=I.arcs) (x:=x) (v:=v) hx (if s.2 then -u else u) I.arcs.length
 unfold z4s
 rw [this,if_pos (show s.1<I.arcs.length from hs)]
 have:=flowD_step hr hs u v
 unfold z2z at this
 rw [this]
 omega
def Betw (I:Inst) (x:List Int):Prop:=∀ a,a<I.arcs.length->(z2z I a).low <= x.getD a 0/\((z2z I a).cap=inf ∨ x.getD a 0 <= (z2z I a).cap)
theorem Betw.room {I:Inst} (hr:z02 I=0) {x:List Int} (h:Betw I x) {s:Stp} (hs:okS I s):0 <= rmS I x s:=by
 have:=h s.1 hs
 have ok:=z1j hr hs
 unfold rmS
 split
 ·omega
 ·split
  ·omega
  ·rename_i h2
   rcases this.2 with h3 | h3
   ·exact absurd h3 h2
   ·omega
theorem betw_push {I:Inst} {x:List Int} (h:Betw I x) (hl:x.length=I.arcs.length) {s:Stp} (hs:okS I s) {u:Int} (h0:0 <= u) (h1:u <= rmS I x s):Betw I (z4s x s u):=fun a ha=>by
 have hx:s.1<x.length:=by rw [hl]; exact hs
 rw [z8m hx]
 have hb:=h a ha
 by_cases e:a=s.1
 ·subst e
  rw [if_pos rfl]
  unfold rmS at h1
  cases hb2:s.2 with
  | true =>
   rw [hb2,if_pos rfl] at h1
   simp only [if_true]
   exact ⟨by omega,hb.2.imp id (by omega)⟩
  | false =>
   rw [hb2,if_neg Bool.false_ne_true] at h1
   simp only [Bool.false_eq_true,if_false]
   refine ⟨by omega,?_⟩
   by_cases hc:(z2z I s.1).cap=inf
   ·exact .inl hc
   ·rw [if_neg hc] at h1; exact .inr (by omega)
 ·rw [if_neg e]; simpa using hb
theorem fits_over {I:Inst} (hr:z02 I=0) {x o:List Int} (h:OverOf I x o) (hb:Betw I x) (h0:∀ v,v<I.sup.length->o.getD v 0=0):z1w I x=0:=by
 refine fitsF_zero.2 ⟨hr,h.lx,fitsAll_iff.2 fun j a ha=>?_,netOk_iff.2 fun v hv=>?_⟩
 ·have hj:=(List.getElem?_eq_some_iff.1 ha).1
  have:=hb j hj
  rw [z27 ha] at this
  simp [fitF]; exact this
 ·have:=h.at_ v hv
  rw [h0 v hv] at this
  congr 1; omega
def z1u (I:Inst) (b:Nat->Option Stp):Nat->Nat->List Stp
 | 0,_=>[]
 | f+1,v=>match b v with
  | none=>[]
  | some s=>s :: z1u I b f (frS I s)
def z12 (I:Inst) (b:Nat->Option Stp):Nat->Nat->Nat
 | 0,v=>v
 | f+1,v=>match b v with
  | none=>v
  | some s=>z12 I b f (frS I s)
def Tree (I:Inst) (b:Nat->Option Stp) (ρ:Nat->Nat):Prop:=∀ v s,v<I.sup.length->b v=some s->okS I s/\toS I s=v/\ρ (frS I s)<ρ v
theorem zev {I:Inst} {b:Nat->Option Stp} {ρ:Nat->Nat} (hr:z02 I=0) (h:Tree I b ρ):∀ (f v:Nat),v<I.sup.length->ρ v<f->z1u I b (f+1) v=z1u I b f v/\z12 I b (f+1) v=z12 I b f v/\b (z12 I b f v)=none/\z12 I b f v<I.sup.length
 | 0,v,_,hf=>by omega
 | f+1,v,hv,hf=>by
  cases hb:b v with
  | none =>
   refine ⟨?_,?_,?_,?_⟩ <;> simp only [z1u,z12,hb]
   exact hv
  | some s =>
   obtain ⟨h1,h2,h3⟩:=h v s hv hb
   obtain ⟨i1,i2,i3,i4⟩:=zev hr h f (frS I s) (z2w hr h1) (by omega)
   have e1:z1u I b (f+1+1) v=s :: z1u I b (f+1) (frS I s):=by rw [z1u,hb]
   have e2:z1u I b (f+1) v=s :: z1u I b f (frS I s):=by rw [z1u,hb]
   have e3:z12 I b (f+1+1) v=z12 I b (f+1) (frS I s):=by rw [z12,hb]
   have e4:z12 I b (f+1) v=z12 I b f (frS I s):=by rw [z12,hb]
   rw [e1,e2,e3,e4,i1,i2]
   exact ⟨rfl,rfl,i3,i4⟩
theorem zeu {I:Inst} {b:Nat->Option Stp} {ρ:Nat->Nat} (hr:z02 I=0) (h:Tree I b ρ):∀ (f v:Nat),v<I.sup.length->∀ s ∈ z1u I b f v,okS I s/\b (toS I s)=some s/\ρ (toS I s) <= ρ v/\ρ (frS I s)<ρ (toS I s)
 | 0,v,_,s,hs=>by simp [z1u] at hs
 | f+1,v,hv,s,hs=>by
  rw [z1u] at hs
  cases hb:b v with
  | none=>rw [hb] at hs; simp at hs
  | some t =>
   rw [hb] at hs
   obtain ⟨h1,h2,h3⟩:=h v t hv hb
   rcases List.mem_cons.1 hs with rfl | hs
   ·exact ⟨h1,by rw [h2]; exact hb,by rw [h2]; exact Nat.le_refl _,by rw [h2]; exact h3⟩
   ·obtain ⟨i1,i2,i3,i4⟩:=zeu hr h f (frS I t) (z2w hr h1) s hs
    exact ⟨i1,i2,by omega,i4⟩
theorem znn {I:Inst} {b:Nat->Option Stp} {ρ:Nat->Nat} (hr:z02 I=0) (h:Tree I b ρ):∀ (f v:Nat),v<I.sup.length->((z1u I b f v).map (·.1)).Nodup
 | 0,v,_=>by simp [z1u]
 | f+1,v,hv=>by
  rw [z1u]
  cases hb:b v with
  | none=>simp
  | some t =>
   obtain ⟨h1,h2,h3⟩:=h v t hv hb
   dsimp only
   rw [List.map_cons,List.nodup_cons]
   refine ⟨fun hm=>?_,znn hr h f (frS I t) (z2w hr h1)⟩
   obtain ⟨s,hs,he⟩:=List.mem_map.1 hm
   obtain ⟨i1,i2,i3,i4⟩:=zeu hr h f (frS I t) (z2w hr h1) s hs
   obtain ⟨a,k⟩:=t
   obtain ⟨a',k'⟩:=s
   dsimp only at he
   subst he
   by_cases hk:k'=k
   ·subst hk; rw [h2] at i3; omega
   ·have hk':k' = !k:=by cases k <;> cases k' <;> simp_all
    subst hk'
    obtain ⟨f1,f2,-⟩:=zkc I a' k
    rw [f1,f2,h2] at i4
    omega
def z7a (I:Inst) (x:List Int) (u:Int) (l:List Stp):Int:=l.foldl (fun u s=>min u (rmS I x s)) u
theorem znl {I:Inst} {x:List Int}:∀ (l:List Stp) (u:Int),z7a I x u l <= u/\∀ s ∈ l,z7a I x u l <= rmS I x s
 | [],u=>⟨Int.le_refl _,fun s h=>by simp at h⟩
 | t :: l,u=>by
  obtain ⟨i1,i2⟩:=znl (I:=I) (x:=x) l (min u (rmS I x t))
  have e:z7a I x u (t :: l)=z7a I x (min u (rmS I x t)) l:=rfl
  rw [e]
  refine ⟨by omega,fun s hs=>?_⟩
  rcases List.mem_cons.1 hs with rfl | hs
  ·omega
  ·exact i2 s hs
theorem unitsF_ge {I:Inst} {x:List Int} {L:Int}:∀ (l:List Stp) (u:Int),L <= u->(∀ s ∈ l,L <= rmS I x s)->L <= z7a I x u l
 | [],u,h,_=>h
 | t :: l,u,h,h2=>unitsF_ge l (min u (rmS I x t)) (by have:=h2 t (by simp); omega) fun s hs=>h2 s (by simp [hs])
def z2m (x:List Int) (l:List Stp) (u:Int):List Int:=l.foldl (fun x s=>z4s x s u) x
def z1y (I:Inst) (o:List Int) (l:List Stp) (u:Int):List Int:=l.foldl (fun o s=>z6y I o s u) o
theorem pushXs_len (u:Int):∀ (l:List Stp) (x:List Int),(z2m x l u).length=x.length
 | [],x=>rfl
 | s :: l,x=>by show (z2m (z4s x s u) l u).length=_; rw [pushXs_len u l,zlg]
theorem zfw (I:Inst) (u:Int):∀ (l:List Stp) (o:List Int),(z1y I o l u).length=o.length
 | [],o=>rfl
 | s :: l,o=>by show (z1y I (z6y I o s u) l u).length=_; rw [zfw I u l,zle]
theorem zdr {u:Int}:∀ {l:List Stp} {x:List Int},(l.map (·.1)).Nodup->(∀ s ∈ l,s.1<x.length)->∀ a,(z2m x l u).getD a 0=x.getD a 0+(if (a,false) ∈ l then u else if (a,true) ∈ l then -u else 0)
 | [],x,_,_,a=>by simp [z2m]
 | s :: l,x,hn,hl,a=>by
  rw [List.map_cons,List.nodup_cons] at hn
  have ih:=zdr (u:=u) (l:=l) (x:=z4s x s u) hn.2 (fun t ht=>by rw [zlg]; exact hl t (by simp [ht])) a
  have e:z2m x (s :: l) u=z2m (z4s x s u) l u:=rfl
  rw [e,ih,z8m (hl s (by simp))]
  obtain ⟨a',k⟩:=s
  dsimp only at hn ⊢
  by_cases ha:a=a'
  ·subst ha
   have n1:∀ k,(a,k) ∉ l:=fun k hm=>hn.1 (List.mem_map.2 ⟨_,hm,rfl⟩)
   cases k <;> simp [n1]
  ·simp [ha]
theorem OverOf.pushs {I:Inst} (hr:z02 I=0) (u:Int):∀ {l:List Stp} {x o:List Int},OverOf I x o->(∀ s ∈ l,okS I s)->OverOf I (z2m x l u) (z1y I o l u)
 | [],x,o,h,_=>h
 | s :: l,x,o,h,hl=>OverOf.pushs hr u (l:=l) (h.push hr (hl s (by simp)) u) fun t ht=>hl t (by simp [ht])
theorem zlf {I:Inst} {b:Nat->Option Stp} {ρ:Nat->Nat} (hr:z02 I=0) (h:Tree I b ρ) {u:Int}:∀ (f w:Nat) (o:List Int),w<I.sup.length->o.length=I.sup.length->∀ v,v<I.sup.length ->
  (z1y I o (z1u I b f w) u).getD v 0=o.getD v 0+(if w=v then u else 0) - (if z12 I b f w=v then u else 0)
 | 0,w,o,hw,ho,v,hv=>by simp only [z1u,z12,z1y,List.foldl_nil]; omega
 | f+1,w,o,hw,ho,v,hv=>by
  rw [z1u,z12]
  cases hb:b w with
  | none=>simp only [z1y,List.foldl_nil]; omega
  | some s =>
   obtain ⟨h1,h2,h3⟩:=h w s hw hb
   have e:z1y I o (s :: z1u I b f (frS I s)) u=z1y I (z6y I o s u) (z1u I b f (frS I s)) u:=rfl
   dsimp only
   rw [e,zlf hr h f (frS I s) _ (z2w hr h1) (by rw [zle]; exact ho) v hv,zdq (by rw [ho]; exact hv),h2]
   omega
theorem betw_pushs {I:Inst} {x:List Int} (h:Betw I x) (hl:x.length=I.arcs.length) {l:List Stp} (hn:(l.map (·.1)).Nodup) (hs:∀ s ∈ l,okS I s) {u:Int} (h0:0 <= u) (h1:∀ s ∈ l,u <= rmS I x s):Betw I (z2m x l u):=fun a ha=>by
 have hb:=h a ha
 rw [zdr hn (fun s h=>by rw [hl]; exact hs s h)]
 by_cases m1:(a,false) ∈ l
 ·rw [if_pos m1]
  have:=h1 _ m1
  unfold rmS at this
  dsimp only at this
  rw [if_neg Bool.false_ne_true] at this
  refine ⟨by omega,?_⟩
  by_cases hc:(z2z I a).cap=inf
  ·exact .inl hc
  ·rw [if_neg hc] at this; exact .inr (by omega)
 ·rw [if_neg m1]
  by_cases m2:(a,true) ∈ l
  ·rw [if_pos m2]
   have:=h1 _ m2
   unfold rmS at this
   dsimp only at this
   rw [if_pos rfl] at this
   exact ⟨by omega,hb.2.imp id (by omega)⟩
  ·rw [if_neg m2]; simpa using hb
def z4k (o:List Int):Nat->Int
 | 0=>0
 | k+1=>z4k o k+max (o.getD k 0) 0
theorem z1s (o:List Int):∀ k,0 <= z4k o k
 | 0=>Int.le_refl _
 | k+1=>by have:=z1s o k; rw [z4k]; omega
theorem posS_eq {o p:List Int}:∀ {k:Nat},(∀ v,v<k->max (p.getD v 0) 0=max (o.getD v 0) 0)->z4k p k=z4k o k
 | 0,_=>rfl
 | k+1,h=>by rw [z4k,z4k,posS_eq (k:=k) fun v hv=>h v (by omega),h k (by omega)]
theorem posS_less {o p:List Int} {r:Nat} {u:Int}:∀ {k:Nat},r<k->(∀ v,v<k->v ≠ r->max (p.getD v 0) 0=max (o.getD v 0) 0)->max (p.getD r 0) 0=max (o.getD r 0) 0 - u->z4k p k=z4k o k - u
 | 0,h,_,_=>by omega
 | k+1,h,h1,h2=>by
  rw [z4k,z4k]
  by_cases e:r=k
  ·subst e
   rw [posS_eq fun v hv=>h1 v (by omega) (by omega),h2]; omega
  ·rw [posS_less (r:=r) (u:=u) (by omega) (fun v hv hne=>h1 v (by omega) hne) h2,h1 k (by omega) (by omega)]; omega
theorem posS_ge {o:List Int} {v:Nat}:∀ {k:Nat},v<k->o.getD v 0 <= z4k o k
 | 0,h=>by omega
 | k+1,h=>by
  have:=z1s o k
  rw [z4k]
  by_cases e:v=k
  ·subst e; omega
  ·have:=posS_ge (o:=o) (v:=v) (k:=k) (by omega); omega
def XB (x:List Int):Prop:=∀ y ∈ x,-288230376151711744 <= y/\y <= 288230376151711744
theorem XB.at {x:List Int} (h:XB x) (k:Nat):-288230376151711744 <= x.getD k 0/\x.getD k 0 <= 288230376151711744:=by
 rw [List.getD_eq_getElem?_getD]
 cases e:x[k]? with
 | none=>exact ⟨by decide,by decide⟩
 | some u=>exact h u (List.mem_of_getElem? e)
def z1i (I:Inst) (s:Int):Prop:=z02 I=0/\0 <= s/\s<I.arcs.length
def endS (I:Inst) (s:Stp):Bool:=!s.2 && decide ((z2z I s.1).cap=inf)
theorem rmS_bd {I:Inst} {x:List Int} (hx:XB x) {s:Int} (h:z1i I s) (b:Bool):-288230376151711744 - 4398046511104 <= rmS I x (s.toNat,b)/\rmS I x (s.toNat,b) <= 1152921504606846976:=by
 have ok:=z1j h.1 (a:=s.toNat) (by have:=h.2; omega)
 have h1:=hx.at s.toNat
 have:=ok.l0; have:=ok.l1; have h2:=ok.c
 unfold rmS
 dsimp only
 split
 ·omega
 ·split
  ·omega
  ·rename_i hc
   have:=h2.resolve_left hc
   omega
theorem push_is {I:Inst} {x o:List Int} {s:Stp} {n:Int} (hr:z02 I=0) (hs:okS I s) (hl:x.length=I.arcs.length) (ho:o.length=I.sup.length) (hx:XB x) (hov:XB o) (n0:-1152921504606846976 <= n) (n1:n <= 1152921504606846976) {y u z:Int}
  (hy:x[s.1]? = some y) (hu:o[frS I s]? = some u) (hz:(o.set (frS I s) (IntKind.i64.wrap (u - n)))[toS I s]? = some z) :
  (s.2=true->x.set s.1 (IntKind.i64.wrap (y - n))=z4s x s n)/\(s.2=false->x.set s.1 (IntKind.i64.wrap (y+n))=z4s x s n)/\(o.set (frS I s) (IntKind.i64.wrap (u - n))).set (toS I s) (IntKind.i64.wrap (z+n))=z6y I o s n:=by
 have hf:=z2w hr hs
 have ht:=z5q hr hs
 have ey:x.getD s.1 0=y:=by rw [List.getD_eq_getElem?_getD,hy]; rfl
 have eu:o.getD (frS I s) 0=u:=by rw [List.getD_eq_getElem?_getD,hu]; rfl
 have by1:=hx.at s.1
 have bu1:=hov.at (frS I s)
 have bt1:=hov.at (toS I s)
 rw [ey] at by1
 rw [eu] at bu1
 have w1:IntKind.i64.wrap (y - n)=y + -n:=by rw [w64 (by omega) (by omega)]; omega
 have w2:IntKind.i64.wrap (y+n)=y+n:=w64 (by omega) (by omega)
 have w3:IntKind.i64.wrap (u - n)=u + -n:=by rw [w64 (by omega) (by omega)]; omega
 have ez:(o.set (frS I s) (u + -n)).getD (toS I s) 0=z:=by rw [w3] at hz; rw [List.getD_eq_getElem?_getD,hz]; rfl
 have bz:-1441151880758558720 <= z/\z <= 1441151880758558720:=by
  rw [<- ez]
  by_cases e:frS I s=toS I s
  ·rw [<- e,List.getD_eq_getElem?_getD,List.getElem?_set_self (by omega)]
   simp only [Option.getD_some]; omega
  ·rw [List.getD_eq_getElem?_getD,List.getElem?_set_ne e,<- List.getD_eq_getElem?_getD]; omega
 have w4:IntKind.i64.wrap (z+n)=z+n:=w64 (by omega) (by omega)
 refine ⟨fun h=>by unfold z4s; rw [h,ey,w1,if_pos rfl],fun h=>by unfold z4s; rw [h,ey,w2,if_neg Bool.false_ne_true],?_⟩
 unfold z6y addAt
 rw [eu,w3,ez,w4]
theorem zkw:∀ (n:Nat) (l:List Nat),l.Nodup->(∀ x ∈ l,x<n)->l.length <= n
 | 0,l,_,h=>by
  cases l with
  | nil=>exact Nat.le_refl _
  | cons x l=>exact absurd (h x (by simp)) (Nat.not_lt_zero _)
 | n+1,l,hn,h=>by
  have h1:(l.filter (fun x=>decide (x ≠ n))).length <= n:=zkw n _ (List.Pairwise.filter _ hn) fun x hx=>by
   rw [List.mem_filter,decide_eq_true_eq] at hx
   have:=h x hx.1; omega
  have h2:l.length <= (l.filter (fun x=>decide (x ≠ n))).length+1:=by
   clear h h1
   induction l with
   | nil=>simp
   | cons x l ih =>
    rw [List.nodup_cons] at hn
    rw [List.filter_cons]
    by_cases e:x=n
    ·subst e
     have:l.filter (fun y=>decide (y ≠ x))=l:=List.filter_eq_self.2 fun y hy=>decide_eq_true fun e=>hn.1 (e ▸ hy)
     rw [if_neg (by simp),this,List.length_cons]
     exact Nat.le_refl _
    ·have:=ih hn.2
     rw [if_pos (decide_eq_true e),List.length_cons,List.length_cons]
     omega
  omega
theorem pigeon {n:Nat} (f:Nat->Nat) (h:∀ i,i <= n->f i<n):∃ i j,i<j/\j <= n/\f i=f j:=by
 apply Classical.byContradiction
 intro hno
 have hn:((List.range (n+1)).map f).Nodup:=by
  rw [List.nodup_iff_pairwise_ne,List.pairwise_map]
  refine List.pairwise_iff_getElem.2 fun i j hi hj hij=>?_
  rw [List.getElem_range,List.getElem_range]
  rw [List.length_range] at hj
  exact fun e=>hno ⟨i,j,hij,by omega,e⟩
 have:=zkw n _ hn fun x hx=>by
  obtain ⟨i,hi,rfl⟩:=List.mem_map.1 hx
  rw [List.mem_range] at hi
  exact h i (by omega)
 rw [List.length_map,List.length_range] at this
 omega
structure BF (I:Inst) (cnt:Stp->Bool) (start:Nat->Bool) (r:Nat) (done:Stp->Bool) (d:Nat->Option Int) (b:Nat->Option Stp) (e:Option Nat) (τ T:Nat->Nat) (t:Nat):Prop where
 st:∀ v,v<I.sup.length->start v=true->∃ c,d v=some c/\c <= 0
 no:∀ v,v<I.sup.length->b v=none->∀ c,d v=some c->start v=true/\c=0
 un:∀ v,d v=none->b v=none
 by_:∀ v s,v<I.sup.length->b v=some s->okS I s/\cnt s=true/\toS I s=v/\∃ c u,d v=some c/\d (frS I s)=some u/\u+csS I s <= c/\(T v <= T (frS I s)->u+csS I s<c)
 rd:∀ v s,v<I.sup.length->b v=some s->1 <= τ v/\τ v <= τ (frS I s)+1
 r0:∀ v,b v=none->τ v=0
 rl:∀ v,τ v <= r
 la:∀ v,e=some v->v<I.sup.length/\τ v=r/\1 <= r
 le:e=none->∀ v,τ v=r->r=0
 ok:∀ s,okS I s->cnt s=true->∀ u,d (frS I s)=some u->τ (frS I s)<(if done s then r else r - 1)->∃ c,d (toS I s)=some c/\c <= u+csS I s
 cl:∀ v,T v<t
theorem BF.pass {I:Inst} {cnt:Stp->Bool} {start:Nat->Bool} {r:Nat} {done done':Stp->Bool} {d:Nat->Option Int} {b:Nat->Option Stp} {e:Option Nat} {τ T:Nat->Nat} {t:Nat} {s:Stp} (h:BF I cnt start r done d b e τ T t)
    (hd:∀ s',done' s'=(done s' || decide (s'=s))) (hs:cnt s=true->∀ u,d (frS I s)=some u->∃ c,d (toS I s)=some c/\c <= u+csS I s):BF I cnt start r done' d b e τ T t :=
  { h with
    ok:=fun s' h1 h2 u hu h3=>by
      by_cases es:s'=s
      · subst es; exact hs h2 u hu
      · rw [hd,decide_eq_false es,Bool.or_false] at h3
        exact h.ok s' h1 h2 u hu h3 }
theorem BF.take {I:Inst} (hr:z02 I=0) {cnt:Stp->Bool} {start:Nat->Bool} {r:Nat} {done done':Stp->Bool} {d:Nat->Option Int} {b:Nat->Option Stp} {e:Option Nat} {τ T:Nat->Nat} {t:Nat} {s:Stp} (h:BF I cnt start r done d b e τ T t)
  (hd:∀ s',done' s'=(done s' || decide (s'=s))) (h1:1 <= r) (hsk:okS I s) (hc:cnt s=true) (hnd:done s=false) {u:Int} (hu:d (frS I s)=some u) (hless:∀ c,d (toS I s)=some c->u+csS I s<c) :
  ∃ τ' T':Nat->Nat,BF I cnt start r done' (fun v=>if v=toS I s then some (u+csS I s) else d v) (fun v=>if v=toS I s then some s else b v) (some (toS I s)) τ' T' (t+1):=by
 have hto:=z5q hr hsk
 have hfr:=z2w hr hsk
 have hτ:r - 1 <= τ (frS I s):=by
  apply Nat.le_of_not_lt
  intro hlt
  obtain ⟨c,h2,h3⟩:=h.ok s hsk hc u hu (by rw [hnd]; exact hlt)
  have:=hless c h2; omega
 refine ⟨fun v=>if v=toS I s then r else τ v,fun v=>if v=toS I s then t else T v,?_⟩
 constructor
 ·intro v hv hst
  by_cases ev:v=toS I s
  ·rw [if_pos ev]
   subst ev
   obtain ⟨c,h2,h3⟩:=h.st _ hv hst
   exact ⟨_,rfl,by have:=hless c h2; omega⟩
  ·rw [if_neg ev]; exact h.st v hv hst
 ·intro v hv hb c hdv
  by_cases ev:v=toS I s
  ·rw [if_pos ev] at hb; cases hb
  ·rw [if_neg ev] at hb hdv; exact h.no v hv hb c hdv
 ·intro v hdv
  by_cases ev:v=toS I s
  ·rw [if_pos ev] at hdv; cases hdv
  ·rw [if_neg ev] at hdv ⊢; exact h.un v hdv
 ·intro v s' hv hb
  by_cases ev:v=toS I s
  ·rw [if_pos ev] at hb
   cases hb
   refine ⟨hsk,hc,ev.symm,u+csS I s,?_⟩
   rw [if_pos ev]
   by_cases ef:frS I s=toS I s
   ·rw [if_pos ef,if_pos ef,if_pos ev]
    have:=hless u (by rw [<- ef]; exact hu)
    exact ⟨u+csS I s,rfl,rfl,by omega,fun _=>by omega⟩
   ·rw [if_neg ef,if_neg ef,if_pos ev]
    exact ⟨u,rfl,hu,Int.le_refl _,fun hT=>by have:=h.cl (frS I s); omega⟩
  ·rw [if_neg ev] at hb
   obtain ⟨p1,p2,p3,c,u',p4,p5,p6,p7⟩:=h.by_ v s' hv hb
   rw [if_neg ev,if_neg ev]
   refine ⟨p1,p2,p3,c,?_⟩
   by_cases ef:frS I s'=toS I s
   ·rw [if_pos ef,if_pos ef]
    have:=hless u' (by rw [<- ef]; exact p5)
    exact ⟨u+csS I s,p4,rfl,by omega,fun _=>by omega⟩
   ·rw [if_neg ef,if_neg ef]
    exact ⟨u',p4,p5,p6,p7⟩
 ·intro v s' hv hb
  by_cases ev:v=toS I s
  ·rw [if_pos ev] at hb
   cases hb
   rw [if_pos ev]
   by_cases ef:frS I s=toS I s
   ·rw [if_pos ef]; omega
   ·rw [if_neg ef]; omega
  ·rw [if_neg ev] at hb
   obtain ⟨p1,p2⟩:=h.rd v s' hv hb
   rw [if_neg ev]
   by_cases ef:frS I s'=toS I s
   ·rw [if_pos ef]; have:=h.rl v; omega
   ·rw [if_neg ef]; exact ⟨p1,p2⟩
 ·intro v hb
  by_cases ev:v=toS I s
  ·rw [if_pos ev] at hb; cases hb
  ·rw [if_neg ev] at hb ⊢; exact h.r0 v hb
 ·intro v
  split
  ·exact Nat.le_refl _
  ·exact h.rl v
 ·intro v ev
  cases ev
  exact ⟨hto,by simp,h1⟩
 ·intro ev; cases ev
 ·intro s' h2 h3 w hw h4
  by_cases ef:frS I s'=toS I s
  ·rw [if_pos ef] at h4
   split at h4 <;> omega
  ·rw [if_neg ef] at hw h4
   by_cases es:s'=s
   ·subst es
    rw [if_pos rfl]
    rw [hu] at hw; cases hw
    exact ⟨_,rfl,Int.le_refl _⟩
   ·rw [hd,decide_eq_false es,Bool.or_false] at h4
    obtain ⟨c,p1,p2⟩:=h.ok s' h2 h3 w hw h4
    by_cases et:toS I s'=toS I s
    ·rw [if_pos et]
     have:=hless c (by rw [<- et]; exact p1)
     exact ⟨_,rfl,by omega⟩
    ·rw [if_neg et]; exact ⟨c,p1,p2⟩
 ·intro v
  split
  ·exact Nat.lt_succ_self _
  ·have:=h.cl v; omega
theorem BF.next {I:Inst} {cnt:Stp->Bool} {start:Nat->Bool} {r:Nat} {done done':Stp->Bool} {d:Nat->Option Int} {b:Nat->Option Stp} {e:Option Nat} {τ T:Nat->Nat} {t:Nat} (h:BF I cnt start r done d b e τ T t)
    (hd:∀ s,okS I s->done s=true) (hd':∀ s,done' s=false):BF I cnt start (r+1) done' d b none τ T t :=
  { h with
    rl:=fun v=>Nat.le_succ_of_le (h.rl v)
    la:=fun v ev=>by cases ev
    le:=fun _ v hv=>by have:=h.rl v; omega
    ok:=fun s h1 h2 u hu h3=>h.ok s h1 h2 u hu (by rw [hd s h1]; rw [hd'] at h3; simpa using h3) }
theorem BF.zero {I:Inst} (cnt:Stp->Bool) (start:Nat->Bool) (done:Stp->Bool) {d:Nat->Option Int} (hd:∀ v,v<I.sup.length->d v=if start v then some 0 else none):BF I cnt start 0 done d (fun _=>none) none (fun _=>0) (fun _=>0) 1 where
 st:=fun v hv hs=>⟨0,by rw [hd v hv,if_pos hs],Int.le_refl _⟩
 no:=fun v hv _ c hc=>by
  rw [hd v hv] at hc
  split at hc
  ·rename_i hs; cases hc; exact ⟨hs,rfl⟩
  ·cases hc
 un:=fun _ _=>rfl
 by_:=fun _ _ _ h=>by cases h
 rd:=fun _ _ _ h=>by cases h
 r0:=fun _ _=>rfl
 rl:=fun _=>Nat.le_refl _
 la:=fun _ h=>by cases h
 le:=fun _ _ _=>rfl
 ok:=fun s _ _ u _ h=>by split at h <;> omega
 cl:=fun _=>Nat.zero_lt_one
theorem BF.end_ {I:Inst} {cnt:Stp->Bool} {start:Nat->Bool} {r:Nat} {done:Stp->Bool} {d:Nat->Option Int} {b:Nat->Option Stp} {τ T:Nat->Nat} {t:Nat} (h:BF I cnt start r done d b none τ T t) (h1:1 <= r)
  (hd:∀ s,okS I s->done s=true):∀ s,okS I s->cnt s=true->∀ u,d (frS I s)=some u->∃ c,d (toS I s)=some c/\c <= u+csS I s:=fun s h2 h3 u hu =>
 h.ok s h2 h3 u hu (by
  rw [hd s h2,if_pos rfl]
  have:=h.rl (frS I s)
  by_cases e:τ (frS I s)=r
  ·have:=h.le rfl _ e; omega
  ·omega)
def z0p (I:Inst) (b:Nat->Option Stp) (v:Nat):Nat->Nat
 | 0=>v
 | k+1=>match b (z0p I b v k) with
  | some s=>frS I s
  | none=>z0p I b v k
def z91 (I:Inst) (b:Nat->Option Stp) (v:Nat):Nat->Int
 | 0=>0
 | k+1=>z91 I b v k+(match b (z0p I b v k) with
  | some s=>csS I s
  | none=>0)
theorem z34 (I:Inst) (b:Nat->Option Stp) (v:Nat) (i:Nat):∀ k,z0p I b v (i+k)=z0p I b (z0p I b v i) k
 | 0=>rfl
 | k+1=>by rw [<- Nat.add_assoc,z0p,z0p,z34 I b v i k]
theorem z61 {I:Inst} (hr:z02 I=0) {b:Nat->Option Stp} (hb:∀ v s,v<I.sup.length->b v=some s->okS I s) {v:Nat} (hv:v<I.sup.length):∀ k,z0p I b v k<I.sup.length
 | 0=>hv
 | k+1=>by
  rw [z0p]
  split
  ·rename_i s hs; exact z2w hr (hb _ s (z61 hr hb hv k) hs)
  ·exact z61 hr hb hv k
theorem BF.back {I:Inst} (hr:z02 I=0) {cnt:Stp->Bool} {start:Nat->Bool} {r:Nat} {done:Stp->Bool} {d:Nat->Option Int} {b:Nat->Option Stp} {e:Option Nat} {τ T:Nat->Nat} {t:Nat} (h:BF I cnt start r done d b e τ T t) {v:Nat} (hv:v<I.sup.length) {c0:Int} (h0:d v=some c0) :
  ∀ k,(∀ i,i<k->∃ s,b (z0p I b v i)=some s)->∃ c,d (z0p I b v k)=some c/\c+z91 I b v k <= c0/\(c+z91 I b v k=c0->∀ i,i<k->T (z0p I b v (i+1))<T (z0p I b v i))
 | 0,_=>⟨c0,h0,by rw [z91]; omega,fun _ i hi=>absurd hi (Nat.not_lt_zero _)⟩
 | k+1,hk=>by
  obtain ⟨c,p1,p2,p3⟩:=BF.back hr h hv h0 k fun i hi=>hk i (by omega)
  obtain ⟨s,hs⟩:=hk k (by omega)
  have hlt:=z61 hr (fun v s hv hb=>(h.by_ v s hv hb).1) hv k
  obtain ⟨q1,q2,q3,c',u,q4,q5,q6,q7⟩:=h.by_ _ s hlt hs
  rw [p1] at q4; cases q4
  have en:z0p I b v (k+1)=frS I s:=by rw [z0p,hs]
  have ec:z91 I b v (k+1)=z91 I b v k+csS I s:=by rw [z91,hs]
  rw [en,ec]
  refine ⟨u,q5,by omega,fun heq i hi=>?_⟩
  by_cases ei:i=k
  ·subst ei
   rw [en]
   apply Nat.lt_of_not_le
   intro hle
   have:=q7 hle; omega
  ·exact p3 (by omega) i (by omega)
theorem BF.cycle {I:Inst} (hr:z02 I=0) {cnt:Stp->Bool} {start:Nat->Bool} {r:Nat} {done:Stp->Bool} {d:Nat->Option Int} {b:Nat->Option Stp} {e:Option Nat} {τ T:Nat->Nat} {t:Nat} (h:BF I cnt start r done d b e τ T t) {v k:Nat} (hv:v<I.sup.length) (hk:1 <= k)
  (hs:∀ i,i<k->∃ s,b (z0p I b v i)=some s) (hc:z0p I b v k=v):z91 I b v k<0:=by
 obtain ⟨s,hs0⟩:=hs 0 (by omega)
 obtain ⟨-,-,-,c0,u,h0,-⟩:=h.by_ v s hv hs0
 obtain ⟨c,p1,p2,p3⟩:=h.back hr hv h0 k hs
 rw [hc,h0] at p1; cases p1
 apply Classical.byContradiction
 intro hn
 have hlt:=p3 (by omega)
 have:∀ j,j <= k->T (z0p I b v j)+j <= T v:=by
  intro j
  induction j with
  | zero=>intro _; exact Nat.le_refl _
  | succ j ih =>
   intro hj
   have:=ih (by omega)
   have:=hlt j (by omega)
   omega
 have:=this k (Nat.le_refl _)
 rw [hc] at this
 omega
theorem BF.long {I:Inst} (hr:z02 I=0) {cnt:Stp->Bool} {start:Nat->Bool} {r:Nat} {done:Stp->Bool} {d:Nat->Option Int} {b:Nat->Option Stp} {e:Option Nat} {τ T:Nat->Nat} {t:Nat} (h:BF I cnt start r done d b e τ T t) {v:Nat} (he:e=some v) :
  ∀ k,k<r->(∃ s,b (z0p I b v k)=some s)/\r - k <= τ (z0p I b v k)
 | 0,hk=>by
  obtain ⟨h1,h2,h3⟩:=h.la v he
  refine ⟨?_,by simp only [z0p]; omega⟩
  show ∃ s,b v=some s
  cases hb:b v with
  | none=>have:=h.r0 v hb; omega
  | some s=>exact ⟨s,rfl⟩
 | k+1,hk=>by
  obtain ⟨⟨s,hs⟩,h2⟩:=BF.long hr h he k (by omega)
  have hlt:=z61 hr (fun v s hv hb=>(h.by_ v s hv hb).1) (h.la v he).1 k
  have:=(h.rd _ s hlt hs).2
  have en:z0p I b v (k+1)=frS I s:=by rw [z0p,hs]
  rw [en]
  refine ⟨?_,by omega⟩
  cases hb:b (frS I s) with
  | none=>have:=h.r0 _ hb; omega
  | some s'=>exact ⟨s',rfl⟩
def z64 (s:Stp):List Int:=[(s.1:Int),bif s.2 then 1 else 0]
def mbS:Option Stp->List Int
 | some s=>[(s.1:Int),bif s.2 then 1 else 0,1]
 | none=>[0,0,0]
def mbI:Option Int->List Int
 | some c=>[c,1]
 | none=>[0,0]
def z0k (n:Nat) (b:Nat->Option Stp):List (List Int):=(List.range n).map fun v=>mbS (b v)
def z0m (n:Nat) (d:Nat->Option Int):List (List Int):=(List.range n).map fun v=>mbI (d v)
def unS (l:List Int):Option Stp:=if l.getD 2 0=1 then some ((l.getD 0 0).toNat,decide (l.getD 1 0=1)) else none
def bOf (by_:List (List Int)) (v:Nat):Option Stp:=unS (by_.getD v [])
theorem unS_mbS (o:Option Stp):unS (mbS o)=o:=by
 cases o with
 | none=>rfl
 | some s=>obtain ⟨a,k⟩:=s; cases k <;> simp [unS,mbS]
theorem z85 (n:Nat) (b:Nat->Option Stp):(z0k n b).length=n:=by simp [z0k]
theorem z73 (n:Nat) (d:Nat->Option Int):(z0m n d).length=n:=by simp [z0m]
theorem bRow_get {n v:Nat} {b:Nat->Option Stp} {y:List Int} (h:(z0k n b)[v]? = some y):v<n/\y=mbS (b v):=z1f h
theorem z1v {n v:Nat} {d:Nat->Option Int} {y:List Int} (h:(z0m n d)[v]? = some y):v<n/\y=mbI (d v):=z1f h
theorem bOf_row {n v:Nat} (b:Nat->Option Stp) (hv:v<n):bOf (z0k n b) v=b v:=by
 unfold bOf z0k
 rw [List.getD_eq_getElem?_getD,List.getElem?_map,List.getElem?_range hv]
 exact unS_mbS _
theorem z5h (n v:Nat) (b:Nat->Option Stp) (s:Option Stp):(z0k n b).set v (mbS s)=z0k n (fun w=>if w=v then s else b w):=by
 unfold z0k
 rw [z3k]
 exact List.map_congr_left fun w _=>by dsimp only; split <;> rfl
theorem z48 (n v:Nat) (d:Nat->Option Int) (c:Option Int):(z0m n d).set v (mbI c)=z0m n (fun w=>if w=v then c else d w):=by
 unfold z0m
 rw [z3k]
 exact List.map_congr_left fun w _=>by dsimp only; split <;> rfl
theorem z99 (n:Nat):List.replicate n [0,0,0]=z0k n fun _=>none:=by
 unfold z0k
 apply List.ext_getElem?
 intro i
 by_cases h:i<n <;> simp [h,mbS]
theorem zd9 (n:Nat):List.replicate n [0,0]=z0m n fun _=>none:=by
 unfold z0m
 apply List.ext_getElem?
 intro i
 by_cases h:i<n <;> simp [h,mbI]
theorem znm {I:Inst} (hr:z02 I=0) {b b':Nat->Option Stp} (h:∀ v,v<I.sup.length->b v=b' v) (hok:∀ v s,v<I.sup.length->b v=some s->okS I s):∀ (f v:Nat),v<I.sup.length->z1u I b f v=z1u I b' f v/\z12 I b f v=z12 I b' f v
 | 0,v,_=>⟨rfl,rfl⟩
 | f+1,v,hv=>by
  rw [z1u,z1u,z12,z12,<- h v hv]
  cases hb:b v with
  | none=>exact ⟨rfl,rfl⟩
  | some s =>
   obtain ⟨i1,i2⟩:=znm hr h hok f (frS I s) (z2w hr (hok v s hv hb))
   dsimp only
   rw [i1,i2]; exact ⟨rfl,rfl⟩
theorem walk_take {I:Inst} {b:Nat->Option Stp}:∀ (j f v:Nat),j <= f->z1u I b j v=(z1u I b f v).take j
 | 0,f,v,_=>rfl
 | j+1,0,v,h=>by omega
 | j+1,f+1,v,h=>by
  rw [z1u,z1u]
  cases b v with
  | none=>rfl
  | some s=>dsimp only; rw [List.take_succ_cons,walk_take j f _ (by omega)]
theorem zmh {I:Inst} {b:Nat->Option Stp}:∀ (k v:Nat),z12 I b (k+1) v=match b (z12 I b k v) with | some s=>frS I s | none=>z12 I b k v
 | 0,v=>by
  rw [z12]
  cases hb:b v with
  | none=>simp [z12,hb]
  | some s=>simp [z12,hb]
 | k+1,v=>by
  rw [z12]
  cases hb:b v with
  | none=>simp [z12,hb]
  | some s =>
   dsimp only
   rw [zmh k (frS I s)]
   simp [z12,hb]
theorem walk_get {I:Inst} {b:Nat->Option Stp}:∀ (k f v:Nat),k<f->∀ s,b (z12 I b k v)=some s->k <= (z1u I b f v).length->(z1u I b f v)[k]? = some s
 | k,0,v,h,_,_,_=>by omega
 | 0,f+1,v,_,s,hs,_=>by rw [z1u]; simp only [z12] at hs; rw [hs]; rfl
 | k+1,f+1,v,h,s,hs,hl=>by
  rw [z1u] at hl ⊢
  rw [z12] at hs
  cases hb:b v with
  | none=>rw [hb] at hl; simp at hl
  | some t =>
   rw [hb] at hs hl
   dsimp only at hs hl ⊢
   rw [List.getElem?_cons_succ]
   exact walk_get k f _ (by omega) s hs (by rw [List.length_cons] at hl; omega)
theorem walk_stop {I:Inst} {b:Nat->Option Stp}:∀ (k f v:Nat),b (z12 I b k v)=none->(z1u I b f v).length <= k
 | k,0,v,_=>Nat.zero_le _
 | 0,f+1,v,h=>by simp only [z12] at h; rw [z1u,h]; exact Nat.le_refl _
 | k+1,f+1,v,h=>by
  rw [z1u]
  rw [z12] at h
  cases hb:b v with
  | none=>exact Nat.zero_le _
  | some t =>
   rw [hb] at h
   dsimp only at h ⊢
   rw [List.length_cons]
   exact Nat.succ_le_succ (walk_stop k f _ h)
theorem zno {I:Inst} {b:Nat->Option Stp}:∀ (f v:Nat),(z1u I b f v).length <= f
 | 0,v=>Nat.le_refl _
 | f+1,v=>by
  rw [z1u]
  cases b v with
  | none=>exact Nat.zero_le _
  | some s=>dsimp only; rw [List.length_cons]; exact Nat.succ_le_succ (zno f _)
theorem root_end {I:Inst} {b:Nat->Option Stp}:∀ (f v:Nat),z12 I b (z1u I b f v).length v=z12 I b f v
 | 0,v=>rfl
 | f+1,v=>by
  rw [z1u,z12]
  cases hb:b v with
  | none=>rfl
  | some s=>dsimp only; rw [List.length_cons,z12,hb]; exact root_end f _
def YB (x:List Int):Prop:=∀ y ∈ x,-144115188075855872 <= y/\y <= 144115188075855872
theorem YB.at {x:List Int} (h:YB x) (k:Nat):-144115188075855872 <= x.getD k 0/\x.getD k 0 <= 144115188075855872:=by
 rw [List.getD_eq_getElem?_getD]
 cases e:x[k]? with
 | none=>exact ⟨by decide,by decide⟩
 | some u=>exact h u (List.mem_of_getElem? e)
theorem YB.xb {x:List Int} (h:YB x):XB x:=fun y hy=>by have:=h y hy; omega
theorem xb_of {x:List Int} (h:∀ k,k<x.length->-288230376151711744 <= x.getD k 0/\x.getD k 0 <= 288230376151711744):XB x:=fun y hy=>by
 obtain ⟨k,hk⟩:=List.mem_iff_getElem?.1 hy
 have:=h k (List.getElem?_eq_some_iff.1 hk).1
 rwa [List.getD_eq_getElem?_getD,hk] at this
theorem yb_of {x:List Int} (h:∀ k,k<x.length->-144115188075855872 <= x.getD k 0/\x.getD k 0 <= 144115188075855872):YB x:=fun y hy=>by
 obtain ⟨k,hk⟩:=List.mem_iff_getElem?.1 hy
 have:=h k (List.getElem?_eq_some_iff.1 hk).1
 rwa [List.getD_eq_getElem?_getD,hk] at this
def alL (I:Inst) (by_:List (List Int)) (e:Int):List Stp:=z1u I (bOf by_) I.sup.length e.toNat
def alR (I:Inst) (by_:List (List Int)) (e:Int):Nat:=z12 I (bOf by_) I.sup.length e.toNat
def alU0 (I:Inst) (o:List Int) (by_:List (List Int)) (e:Int):Int:=min (o.getD (alR I by_ e) 0) (-(o.getD e.toNat 0))
def alU (I:Inst) (x o:List Int) (by_:List (List Int)) (e:Int):Int:=z7a I x (alU0 I o by_ e) (alL I by_ e)
structure AlOk (I:Inst) (x o:List Int) (by_:List (List Int)) (e:Int):Prop where
 right:z02 I=0
 lx:x.length=I.arcs.length
 lo:o.length=I.sup.length
 xb:YB x
 ob:YB o
 e0:0 <= e
 e1:e.toNat<I.sup.length
 tree:∃ b ρ,by_=z0k I.sup.length b/\Tree I b ρ/\∀ v,v<I.sup.length->ρ v<I.sup.length
 pos:0 <= alU I x o by_ e
namespace AlOk
variable {I:Inst} {x o:List Int} {by_:List (List Int)} {e:Int} (h:AlOk I x o by_ e)
include h
theorem tree':∃ ρ,Tree I (bOf by_) ρ/\∀ v,v<I.sup.length->ρ v<I.sup.length:=by
 obtain ⟨b,ρ,rfl,h1,h2⟩:=h.tree
 exact ⟨ρ,fun v s hv hs=>h1 v s hv (by rw [<- bOf_row b hv]; exact hs),h2⟩
theorem stop:bOf by_ (alR I by_ e)=none/\alR I by_ e<I.sup.length:=by
 obtain ⟨ρ,h1,h2⟩:=h.tree'
 obtain ⟨-,-,h3,h4⟩:=zev h.right h1 I.sup.length e.toNat h.e1 (h2 _ h.e1)
 exact ⟨h3,h4⟩
theorem mem:∀ s ∈ alL I by_ e,okS I s:=fun s hs=>by
 obtain ⟨ρ,h1,h2⟩:=h.tree'
 exact (zeu h.right h1 _ _ h.e1 s hs).1
theorem ub:alU I x o by_ e <= 144115188075855872:=by
 have h1:=(znl (I:=I) (x:=x) (alL I by_ e) (alU0 I o by_ e)).1
 have h2:=h.ob.at (alR I by_ e)
 unfold alU
 have h3:alU0 I o by_ e <= o.getD (alR I by_ e) 0:=by unfold alU0; omega
 omega
theorem xj (j:Nat):XB (z2m x ((alL I by_ e).take j) (alU I x o by_ e)):=by
 obtain ⟨ρ,h1,h2⟩:=h.tree'
 have hn:=znn h.right h1 I.sup.length e.toNat h.e1
 have hu:=h.ub
 have hp:=h.pos
 refine xb_of fun k hk=>?_
 have hb:=h.xb.at k
 rw [zdr (by rw [List.map_take]; exact List.Nodup.sublist (List.take_sublist _ _) hn) (fun s hs=>by rw [h.lx]; exact h.mem s (List.mem_of_mem_take hs))]
 repeat' split <;> omega
theorem root_lt (j:Nat):z12 I (bOf by_) j e.toNat<I.sup.length:=by
 obtain ⟨ρ,h1,h2⟩:=h.tree'
 induction j with
 | zero=>exact h.e1
 | succ j ih =>
  rw [zmh]
  split
  ·rename_i s hs; exact z2w h.right (h1 _ s ih hs).1
  ·exact ih
theorem oj (j:Nat) (hj:j <= I.sup.length):(z1y I o ((alL I by_ e).take j) (alU I x o by_ e)).length=I.sup.length/\XB (z1y I o ((alL I by_ e).take j) (alU I x o by_ e)):=by
 obtain ⟨ρ,h1,h2⟩:=h.tree'
 have hu:=h.ub
 have hp:=h.pos
 refine ⟨by rw [zfw,h.lo],xb_of fun k hk=>?_⟩
 have hb:=h.ob.at k
 rw [zfw,h.lo] at hk
 have:(alL I by_ e).take j=z1u I (bOf by_) j e.toNat:=(walk_take j _ _ hj).symm
 rw [this,zlf h.right h1 j e.toNat o h.e1 h.lo k hk]
 repeat' split <;> omega
end AlOk
theorem pushXs_snoc (x:List Int) (l:List Stp) (s:Stp) (u:Int):z2m x (l ++ [s]) u=z4s (z2m x l u) s u:=by unfold z2m; rw [List.foldl_append]; rfl
theorem pushOs_snoc (I:Inst) (o:List Int) (l:List Stp) (s:Stp) (u:Int):z1y I o (l ++ [s]) u=z6y I (z1y I o l u) s u:=by unfold z1y; rw [List.foldl_append]; rfl
theorem unitsF_snoc (I:Inst) (x:List Int) (u:Int) (l:List Stp) (s:Stp):z7a I x u (l ++ [s])=min (z7a I x u l) (rmS I x s):=by unfold z7a; rw [List.foldl_append]; rfl
def DB (I:Inst) (d:Nat->Option Int) (q:Nat):Prop:=∀ C:Int,0 <= C->(∀ s,okS I s->-C <= csS I s/\csS I s <= C)->∀ v c,d v=some c->-(C * (q:Int)) <= c/\c <= C * (q:Int)
def SInv (I:Inst) (cnt:Stp->Bool) (start:Nat->Bool) (r:Nat) (done:Stp->Bool) (q:Nat) (d:Nat->Option Int) (b:Nat->Option Stp) (e:Option Nat):Prop :=
 (∃ τ T t,BF I cnt start r done d b e τ T t)/\DB I d q
def allD:Stp->Bool:=fun _=>true
def z1e (a j:Nat) (s:Stp):Bool:=decide (s.1<a) || (decide (s.1=a) && decide ((bif s.2 then 1 else 0)<j))
theorem DB.more {I:Inst} {d:Nat->Option Int} {q q':Nat} (h:DB I d q) (hq:q <= q'):DB I d q':=fun C h0 hC v c hc=>by
 have h1:=h C h0 hC v c hc
 have h2:C * (q:Int) <= C * (q':Int):=Int.mul_le_mul_of_nonneg_left (by omega) h0
 omega
theorem DB.big {I:Inst} {d:Nat->Option Int} {q q':Nat} (h:DB I d q) (hr:z02 I=0) (hq:q <= q'):∀ v c,d v=some c->-(4398046511104 * (q':Int)) <= c/\c <= 4398046511104 * (q':Int) :=
 (h.more hq) 4398046511104 (by omega) (fun s hs=>zh3 hr hs)
theorem zap (a:Nat) (k:Bool) (s:Stp):z1e a ((bif k then 1 else 0)+1) s=(z1e a (bif k then 1 else 0) s || decide (s=(a,k))):=by
 obtain ⟨c,k'⟩:=s
 unfold z1e
 dsimp only
 rw [Bool.eq_iff_iff]
 simp only [Bool.or_eq_true,Bool.and_eq_true,decide_eq_true_eq,Prod.mk.injEq]
 cases k <;> cases k' <;> simp <;> omega
theorem z9e (a:Nat) (s:Stp):z1e a 2 s=z1e (a+1) 0 s:=by
 obtain ⟨c,k'⟩:=s
 unfold z1e
 dsimp only
 rw [Bool.eq_iff_iff]
 simp only [Bool.or_eq_true,Bool.and_eq_true,decide_eq_true_eq]
 cases k' <;> simp <;> omega
theorem doneJ_zero (s:Stp):z1e 0 0 s=false:=by
 unfold z1e
 simp
theorem doneJ_self (a:Nat) (k:Bool):z1e a (bif k then 1 else 0) (a,k)=false:=by
 unfold z1e
 cases k <;> simp
theorem z4l {I:Inst} {s:Stp} (h:okS I s):z1e I.arcs.length 0 s=true:=by
 unfold z1e okS at *
 simp [h]
theorem SInv.congr {I:Inst} {cnt:Stp->Bool} {start:Nat->Bool} {r:Nat} {done done':Stp->Bool} {q q':Nat} {d:Nat->Option Int} {b:Nat->Option Stp} {e:Option Nat} (h:SInv I cnt start r done q d b e) (hd:∀ s,okS I s->done' s=true->done s=true) (hq:q <= q'):SInv I cnt start r done' q' d b e:=by
 obtain ⟨⟨τ,T,t,h1⟩,h2⟩:=h
 refine ⟨⟨τ,T,t,{ h1 with ok:=fun s a1 a2 u hu a3=>h1.ok s a1 a2 u hu ?_ }⟩,h2.more hq⟩
 cases hs:done' s with
 | true=>rw [hd s a1 hs]; rw [hs] at a3; exact a3
 | false =>
  rw [hs] at a3
  rw [if_neg Bool.false_ne_true] at a3
  split <;> omega
theorem SInv.pass {I:Inst} {cnt:Stp->Bool} {start:Nat->Bool} {r:Nat} {a q:Nat} {k:Bool} {d:Nat->Option Int} {b:Nat->Option Stp} {e:Option Nat} (h:SInv I cnt start r (z1e a (bif k then 1 else 0)) q d b e)
  (hs:cnt (a,k)=true->∀ u,d (frS I (a,k))=some u->∃ c,d (toS I (a,k))=some c/\c <= u+csS I (a,k)):SInv I cnt start r (z1e a ((bif k then 1 else 0)+1)) (q+1) d b e:=by
 obtain ⟨⟨τ,T,t,h1⟩,h2⟩:=h
 exact ⟨⟨τ,T,t,h1.pass (zap a k) hs⟩,h2.more (Nat.le_succ _)⟩
theorem SInv.take {I:Inst} (hr:z02 I=0) {cnt:Stp->Bool} {start:Nat->Bool} {r:Nat} {a q:Nat} {k:Bool} {d:Nat->Option Int} {b:Nat->Option Stp} {e:Option Nat} (h:SInv I cnt start r (z1e a (bif k then 1 else 0)) q d b e)
  (h1:1 <= r) (ha:a<I.arcs.length) (hc:cnt (a,k)=true) {u:Int} (hu:d (frS I (a,k))=some u) (hless:∀ c,d (toS I (a,k))=some c->u+csS I (a,k)<c) :
  SInv I cnt start r (z1e a ((bif k then 1 else 0)+1)) (q+1) (fun v=>if v=toS I (a,k) then some (u+csS I (a,k)) else d v) (fun v=>if v=toS I (a,k) then some (a,k) else b v) (some (toS I (a,k))):=by
 obtain ⟨⟨τ,T,t,h3⟩,h2⟩:=h
 obtain ⟨τ',T',h4⟩:=h3.take hr (zap a k) h1 (show okS I (a,k) from ha) hc (doneJ_self a k) hu hless
 refine ⟨⟨τ',T',t+1,h4⟩,fun C h0 hC v c hv=>?_⟩
 have hcs:=hC (a,k) ha
 have e:C * ((q+1:Nat):Int)=C * (q:Int)+C:=by rw [Int.natCast_succ,Int.mul_add,Int.mul_one]
 rw [e]
 dsimp only at hv
 split at hv
 ·cases hv
  have:=h2 C h0 hC _ _ hu
  omega
 ·have:=h2 C h0 hC v c hv; omega
theorem SInv.next {I:Inst} {cnt:Stp->Bool} {start:Nat->Bool} {r q:Nat} {d:Nat->Option Int} {b:Nat->Option Stp} {e:Option Nat} (h:SInv I cnt start r allD q d b e):SInv I cnt start (r+1) (z1e 0 0) q d b none:=by
 obtain ⟨⟨τ,T,t,h1⟩,h2⟩:=h
 exact ⟨⟨τ,T,t,h1.next (fun _ _=>rfl) doneJ_zero⟩,h2⟩
structure ShortP (I:Inst) (cnt:Stp->Bool) (start:Nat->Bool) (d:Nat->Option Int) (b:Nat->Option Stp) (e:Option Nat):Prop where
 inv:∃ r,SInv I cnt start r allD 32768 d b e/\(e=none->1 <= r ∨ I.sup.length=0)/\(∀ v,e=some v->r=I.sup.length)
theorem z4q {o:Option Int} (h:(mbI o).tail.headD 0=1):∃ c,o=some c:=by
 cases o with
 | none=>simp [mbI] at h
 | some c=>exact ⟨c,rfl⟩
theorem zdk {o:Option Int} (h:¬ (mbI o).tail.headD 0=1):o=none:=by
 cases o with
 | none=>rfl
 | some c=>simp [mbI] at h
theorem SInv.begin (I:Inst) (cnt:Stp->Bool) (start:Nat->Bool) {k:Nat} (hk:I.sup.length <= k):SInv I cnt start 0 allD 0 (fun v=>if v<k/\start v=true then some 0 else none) (fun _=>none) none:=by
 refine ⟨⟨_,_,_,BF.zero cnt start allD fun v hv=>?_⟩,fun C h0 hC v c hc=>?_⟩
 ·by_cases hs:start v=true
  ·rw [if_pos ⟨by omega,hs⟩,if_pos hs]
  ·rw [if_neg (fun h=>hs h.2),if_neg hs]
 ·dsimp only at hc
  split at hc
  ·cases hc; simp
  ·cases hc
theorem z9w {r m a n:Nat} (hr:r<n) (hn:n <= 64) (hm:m <= 256) (ha:a <= m):r * (2 * m)+2 * a <= 32768:=by
 have:r * (2 * m) <= 63 * 512:=Nat.mul_le_mul (by omega) (by omega)
 omega
theorem zi4 {r m n:Nat} (hr:r <= n) (hn:n <= 64) (hm:m <= 256):r * (2 * m) <= 32768:=by
 have:r * (2 * m) <= 64 * 512:=Nat.mul_le_mul (by omega) (by omega)
 omega
end Go.Ql
end
