/- Part of the proof: Trim2, Law15, Odd, TrimL, Ray, Cert, CertOne, Solve, Solve2, Solve3, DN20, FN20. -/
import Derived.Test.YtggblkbecekbdaaGreatZG8
import Derived.Test.YtggblkbecekbdaaGreatZG6
import Derived.Test.YtggblkbecekbdaaGreatZG7
import Derived.Test.YtggblkbecekbdaaGreatZG5
set_option linter.all false
set_option linter.unusedSimpArgs false
set_option linter.unusedVariables false
set_option maxRecDepth 1000000
section
namespace Go.Ql
open Go Go.Vc
theorem right_in {I:Inst} (h:z02 I = 0):∀ a ∈ I.arcs,a.In I.sup.length:=fun a ha=>okArc_iff.1 (z24 h ha).1
theorem zbo (off:List Bool):∀ (f k:Nat),(z31 off f k).length < f ↔ ∃ j,k <= j/\j < k + f/\off.getD j false = true
 | 0,k=>by
  constructor
  ·intro h; simp [z31] at h
  ·rintro ⟨j,h1,h2,_⟩; omega
 | f + 1,k=>by
  have ih:=zbo off f (k + 1)
  unfold z31
  by_cases hk:off.getD k false = true
  ·rw [if_pos hk]
   constructor
   ·intro _; exact ⟨k,by omega,by omega,hk⟩
   ·intro _
    have:(z31 off f (k + 1)).length <= f:=by
     have:∀ f k,(z31 off f k).length <= f:=by
      intro f
      induction f with
      | zero=>intro k; simp [z31]
      | succ f ih=>intro k; have:=ih (k + 1); unfold z31; split <;> (try simp only [List.length_cons]) <;> omega
     exact this f (k + 1)
    omega
  ·rw [if_neg hk,List.length_cons]
   constructor
   ·intro h
    obtain ⟨j,h1,h2,h3⟩:=ih.1 (by omega)
    exact ⟨j,by omega,by omega,h3⟩
   ·rintro ⟨j,h1,h2,h3⟩
    by_cases hj:j = k
    ·subst hj; exact absurd h3 hk
    ·have:=ih.2 ⟨j,by omega,by omega,h3⟩; omega
end Go.Ql
end
section
namespace Go.Ql
open Go Go.Vc
end Go.Ql
end
section
namespace Go.Ql
open Go Go.Vc
theorem Arc.Nice.more {m n:Int} {a:Arc} (h:a.Nice m) (hm:m <= n):a.Nice n :=
 ⟨h.s0,by have:=h.s1; omega,h.d0,by have:=h.d1; omega,h.l0,h.l1,h.c0,h.c1,h.k0,h.k1⟩
theorem zdf (off:List Bool):∀ (f k:Nat),z31 off f k = (List.range' k f).filter (fun j=>!off.getD j false)
 | 0,k=>rfl
 | f + 1,k=>by
  rw [z31,List.range'_succ,List.filter_cons,zdf off f (k + 1)]
  cases h:off.getD k false <;> rfl
end Go.Ql
end
section
namespace Go.Ql
open Go Go.Vc
theorem on_in {m:Int} {side:List Bool} {a:Arc} (h:a.In m):zep m side a = (side.getD a.src.toNat false && !side.getD a.dst.toNat false)/\inA m side a = (side.getD a.dst.toNat false && !side.getD a.src.toNat false):=by
 obtain ⟨h1,h2,h3,h4⟩:=h
 unfold zep inA isN onF
 simp [h1,h2,h3,h4]
theorem addAt_getD (s:List Int) (k:Nat) (x:Int) (v:Nat) (hv:v < s.length):(addAt s k x).getD v 0 = s.getD v 0 + (if k = v then x else 0):=by
 unfold addAt
 rw [List.getD_eq_getElem?_getD,List.getElem?_set]
 by_cases h:k = v
 ·subst h; simp [hv]
 ·simp [h,List.getD_eq_getElem?_getD]
theorem fitsF_iff {I:Inst} {x:List Int}:z20 I x = 0 ↔ z02 I = 0/\x.length = I.arcs.length/\z2n I.arcs x = true/\netOk I x = true:=by
 unfold z20
 by_cases h1:z02 I = 0
 ·by_cases h2:x.length = I.arcs.length
  ·cases h3:z2n I.arcs x <;> cases h4:netOk I x <;> simp [h1,h2]
  ·simp [h1,h2]
 ·simp [h1]
def Few (x:List Int):Prop:=∀ y ∈ x,0 <= y/\y <= 7
theorem Few.head {x:List Int} (h:Few x):0 <= x.headD 0/\x.headD 0 <= 7:=by
 cases x with
 | nil=>simp
 | cons y x=>exact h y (by simp)
theorem Few.tail {x:List Int} (h:Few x):Few x.tail:=fun y hy=>h y (List.mem_of_mem_tail hy)
theorem Few.a64 {x:List Int} (h:Few x):A64 x:=fun y hy=>by have:=h y hy; unfold I64; omega
theorem right_A64 {I:Inst} (h:z02 I = 0):A64a I.arcs/\A64c I.arcs/\A64 I.sup/\L42 I.arcs:=by
 refine ⟨fun a ha=>?_,fun a ha=>?_,fun x hx=>?_,fun a ha=>?_⟩
 ·have:=z24 h ha; unfold I64; omega
 ·have:=z24 h ha; unfold I64; omega
 ·have:=(z1g h).1 x hx; unfold I64; omega
 ·have:=z24 h ha; omega
end Go.Ql
end
section
namespace Go.Ql
open Go Go.RowKit Go.Vc
def isArcF (I:Inst) (a:Int):Bool:=decide (0 <= a) && decide (a < I.arcs.length)
def z64 (I:Inst) (a:Int):Arc:=I.arcs.getD a.toNat default
def rayD (I:Inst) (a:Int):Int:=if isArcF I a then (z64 I a).cost else 0
def rayK (I:Inst) (l:List Int):Nat->Int
 | 0=>0
 | k + 1=>rayK I l k + rayD I (l.getD k 0)
def rayS (I:Inst) (l:List Int):Int:=rayK I l l.length
def c1F (I:Inst) (l:List Int):Bool:=l.all (isArcF I)
def c2F (l:List Int):Bool:=decide l.Nodup
def linkF (I:Inst) (l:List Int) (k:Nat):Bool:=decide ((z64 I (l.getD k 0)).dst = (z64 I (l.getD ((k + 1) % l.length) 0)).src)
def c3F (I:Inst) (l:List Int):Bool:=(List.range l.length).all (linkF I l)
def c4F (I:Inst) (l:List Int):Bool:=l.all fun a=>decide ((z64 I a).cap = inf)
def c5F (I:Inst) (l:List Int):Bool:=decide (wcmp (W (rayS I l)) (W 0) < 0)
def z7b (I:Inst) (l:List Int):Int :=
 if z02 I ≠ 0 then z02 I else if l.length = 0 ∨ I.arcs.length < l.length then 30
 else if c1F I l && c2F l && c3F I l && c4F I l && c5F I l then 0 else 35
theorem arcAt_get {I:Inst} {x:Int} {a:Arc} (h:I.arcs[x.toNat]? = some a):z64 I x = a:=by simp [z64,List.getD,h]
theorem isArcF_iff {I:Inst} {x:Int}:isArcF I x = true ↔ 0 <= x/\x < I.arcs.length:=by simp [isArcF]
end Go.Ql
end
section
namespace Go.Ql
open Go Go.Vc
def z3w (c:Cert):Bool :=
 if c.kind = 1 then decide (c.side.length = 0) && decide (c.cycle.length = 0)
 else if c.kind = 2 then decide (c.flow.length = 0) && decide (c.pot.length = 0) && decide (c.cycle.length = 0)
 else if c.kind = 3 then decide (c.pot.length = 0) && decide (c.side.length = 0)
 else false
def z22 (I:Inst) (c:Cert):Int :=
 if z02 I ≠ 0 then z02 I else if z3w c = false then 36
 else if c.kind = 1 then z1o I c.flow c.pot
 else if c.kind = 2 then z5b I c.side
 else if z20 I c.flow ≠ 0 then z20 I c.flow else z7b I c.cycle
def z13 (I:Inst) (c:Cert):Wide:=if c.kind = 1 then W (zc3 I c.flow) else ⟨0,0⟩
def z51 (c:Cert):Prop:=A64 c.flow/\A64 c.pot/\c.flow.length <= 140737488351232/\c.pot.length <= 140737488351232/\c.side.length <= 140737488351232/\c.cycle.length <= 140737488351232
def z97 (I:Inst):Prop:=I.sup.length <= 10000/\I.arcs.length <= 10000/\A64 I.sup/\A64a I.arcs/\A64c I.arcs
theorem zkg {c:Cert} (h:z3w c = true):c.kind = 1 ∨ c.kind = 2 ∨ c.kind = 3:=by
 unfold z3w at h
 by_cases h1:c.kind = 1
 ·exact .inl h1
 ·by_cases h2:c.kind = 2
  ·exact .inr (.inl h2)
  ·by_cases h3:c.kind = 3
   ·exact .inr (.inr h3)
   ·rw [if_neg h1,if_neg h2,if_neg h3] at h; cases h
end Go.Ql
end
section
namespace Go.Ql
open Go Go.Vc
theorem z59 {I:Inst} {c:Cert} (h:z22 I c = 0):z02 I = 0/\z3w c = true/\(c.kind = 1/\z1o I c.flow c.pot = 0 ∨ c.kind = 2/\z5b I c.side = 0 ∨ c.kind = 3/\z20 I c.flow = 0/\z7b I c.cycle = 0):=by
 unfold z22 at h
 by_cases h1:z02 I = 0
 ·rw [if_neg (fun h2=>h2 h1)] at h
  cases hp:z3w c with
  | false=>rw [hp] at h; simp at h
  | true =>
   rw [hp] at h
   simp only [Bool.true_eq_false,if_false] at h
   refine ⟨h1,rfl,?_⟩
   rcases zkg hp with hk | hk | hk
   ·left; rw [if_pos hk] at h; exact ⟨hk,h⟩
   ·right; left; rw [if_neg (by omega),if_pos hk] at h; exact ⟨hk,h⟩
   ·right; right
    rw [if_neg (by omega),if_neg (by omega)] at h
    refine ⟨hk,?_⟩
    by_cases hf:z20 I c.flow = 0
    ·rw [if_neg (fun h2=>h2 hf)] at h; exact ⟨hf,h⟩
    ·rw [if_pos hf] at h; exact absurd h hf
 ·rw [if_pos h1] at h; exact absurd h h1
theorem z80 {I:Inst} {x pot:List Int} (h:z1o I x pot = 0):z20 I x = 0/\pot.length = I.sup.length/\∀ k,k < I.arcs.length->z46 I x pot k = true:=by
 unfold z1o at h
 by_cases h1:z20 I x = 0
 ·rw [if_neg (fun h2=>h2 h1)] at h
  by_cases h2:pot.length = I.sup.length
  ·rw [if_neg (fun h3=>h3 h2)] at h
   refine ⟨h1,h2,fun k hk=>?_⟩
   split at h
   ·rename_i h3; exact List.all_eq_true.1 h3 k (List.mem_range.2 hk)
   ·omega
  ·rw [if_pos h2] at h; omega
 ·rw [if_pos h1] at h; exact absurd h h1
theorem turns_zero {I:Inst} {l:List Int} (h:z7b I l = 0):z02 I = 0/\0 < l.length/\l.length <= I.arcs.length/\c1F I l = true/\c2F l = true/\c3F I l = true/\c4F I l = true/\c5F I l = true:=by
 unfold z7b at h
 by_cases h1:z02 I = 0
 ·rw [if_neg (fun h2=>h2 h1)] at h
  by_cases h2:l.length = 0 ∨ I.arcs.length < l.length
  ·rw [if_pos h2] at h; omega
  ·rw [if_neg h2] at h
   split at h
   ·rename_i h3
    simp only [Bool.and_eq_true] at h3
    exact ⟨h1,by omega,by omega,h3.1.1.1.1,h3.1.1.1.2,h3.1.1.2,h3.1.2,h3.2⟩
   ·omega
 ·rw [if_pos h1] at h; exact absurd h h1
theorem potR_I64 {pot:List Int} (h:A64 pot) (n:Int):I64 (potR pot n):=by
 unfold potR
 split
 ·exact h.getD _
 ·unfold I64; omega
theorem redP_I128 {I:Inst} {pot:List Int} (hr:z02 I = 0) (hp:A64 pot) {a:Arc} (ha:a ∈ I.arcs):z96 (redP pot a):=by
 have h1:=potR_I64 hp a.src
 have h2:=potR_I64 hp a.dst
 have h3:=z24 hr ha
 unfold redP redA z96
 unfold I64 at h1 h2
 omega
theorem rayK_bd {I:Inst} (hr:z02 I = 0) (l:List Int):∀ k:Nat,-(4398046511104 * (k:Int)) <= rayK I l k/\rayK I l k <= 4398046511104 * (k:Int)
 | 0=>by simp [rayK]
 | k + 1=>by
  have ih:=rayK_bd hr l k
  have hd:-4398046511104 <= rayD I (l.getD k 0)/\rayD I (l.getD k 0) <= 4398046511104:=by
   unfold rayD
   split
   ·rename_i h
    obtain ⟨h1,h2⟩:=isArcF_iff.1 h
    obtain ⟨a,ha⟩:∃ a,I.arcs[(l.getD k 0).toNat]? = some a:=⟨_,List.getElem?_eq_getElem (by omega)⟩
    rw [arcAt_get ha]
    have:=z24 hr (List.mem_of_getElem? ha)
    omega
   ·omega
  rw [rayK]
  push_cast
  omega
theorem no_both {I:Inst} {x pot l:List Int} (hp:A64 pot) (hs:z1o I x pot = 0) (ht:z7b I l = 0):False:=by
 obtain ⟨hr,hl0,hl1,c1,c2,c3,c4,c5⟩:=turns_zero ht
 obtain ⟨hf,hpl,hk⟩:=z80 hs
 have hrs:=z0c hr
 let P:Nat->Int:=fun k=>potR pot (z64 I (l.getD k 0)).src
 have step:∀ k,k < l.length->0 <= rayD I (l.getD k 0) - P k + P ((k + 1) % l.length):=fun k hkl=>by
  have hx:l[k]? = some (l.getD k 0):=by rw [List.getD_eq_getElem?_getD,List.getElem?_eq_getElem hkl]; rfl
  have hm:=List.mem_of_getElem? hx
  generalize hy:l.getD k 0 = y at *
  have h1:=List.all_eq_true.1 c1 y hm
  obtain ⟨y0,y1⟩:=isArcF_iff.1 h1
  obtain ⟨a,ha⟩:∃ a,I.arcs[y.toNat]? = some a:=⟨_,List.getElem?_eq_getElem (by omega)⟩
  have hma:=List.mem_of_getElem? ha
  have hat:=arcAt_get (x:=y) ha
  have hcap:a.cap = inf:=by
   have:=List.all_eq_true.1 c4 y hm
   rw [hat] at this
   exact of_decide_eq_true this
  have hlink:(z64 I y).dst = (z64 I (l.getD ((k + 1) % l.length) 0)).src:=by
   have:=List.all_eq_true.1 c3 k (List.mem_range.2 hkl)
   unfold linkF at this
   rw [hy] at this
   exact of_decide_eq_true this
  have hsk:=hk y.toNat (by omega)
  unfold z46 at hsk
  rw [redF_at ha (z24 hr hma).1,show I.arcs.getD y.toNat default = a by rw [List.getD_eq_getElem?_getD,ha]; rfl] at hsk
  have h2:¬ sgn (redP pot a) < 0:=fun h3=>by
   unfold z6x at hsk
   simp [h3,hcap] at hsk
  have h3:0 <= redP pot a:=by
   apply Classical.byContradiction
   intro h4
   exact h2 ((sgn_neg (redP_I128 hr hp hma)).2 (by omega))
  unfold redP redA at h3
  have e1:rayD I y = a.cost:=by unfold rayD; rw [h1,hat]; rfl
  have e2:P k = potR pot a.src:=by show potR pot (z64 I (l.getD k 0)).src = _; rw [hy,hat]
  have e3:P ((k + 1) % l.length) = potR pot a.dst:=by show potR pot (z64 I (l.getD ((k + 1) % l.length) 0)).src = _; rw [<- hlink,hat]
  rw [e1,e2,e3]
  exact h3
 have sums:∀ t,t <= l.length->0 <= rayK I l t + z1k (fun k=>P ((k + 1) % l.length) - P k) t:=fun t=>by
  induction t with
  | zero=>intro _; simp [rayK,z1k]
  | succ t ih =>
   intro h
   have h1:=ih (by omega)
   have h2:=step t (by omega)
   rw [rayK,z1k]
   omega
 have h1:=sums l.length (Nat.le_refl _)
 rw [zg2 P l.length (Nat.le_refl _) hl0,Nat.mod_self] at h1
 have h2:=rayK_bd hr l l.length
 unfold c5F rayS at c5
 have h3:=of_decide_eq_true c5
 rw [zbt (by unfold z96; omega) (by unfold z96; omega)] at h3
 have h4:¬ rayK I l l.length < 0:=by omega
 rw [if_neg h4] at h3
 split at h3 <;> omega
theorem cost_one {I:Inst} {x y p q:List Int} (hx:A64 x) (hy:A64 y) (hp:A64 p) (hq:A64 q) (h1:z1o I x p = 0) (h2:z1o I y q = 0):zc3 I x = zc3 I y:=by
 obtain ⟨f1,-,-⟩:=z80 h1
 obtain ⟨f2,-,-⟩:=z80 h2
 have hr:=(fitsF_iff.1 f1).1
 have a:=slack_best hy hx hp h1 f2
 have b:=slack_best hx hy hq h2 f1
 rw [zbt (z7l hr hx) (z7l hr hy)] at a
 rw [zbt (z7l hr hy) (z7l hr hx)] at b
 split at a <;> split at b <;> (try split at a) <;> (try split at b) <;> omega
theorem cert_one {I:Inst} {x y:Cert} (hx:z51 x) (hy:z51 y) (h1:z22 I x = 0) (h2:z22 I y = 0):x.kind = y.kind/\z13 I x = z13 I y:=by
 obtain ⟨hr,-,k1⟩:=z59 h1
 obtain ⟨-,-,k2⟩:=z59 h2
 have hrs:=z0c hr
 have hw:=(z1g hr).1
 have none_:∀ {s:List Bool} {f:List Int},A64 f->z5b I s = 0->z20 I f = 0->False:=fun hf h3 h4=>z8n (by omega) (by omega) hf hw h3 h4
 rcases k1 with ⟨a1,b1⟩ | ⟨a1,b1⟩ | ⟨a1,b1,d1⟩ <;> rcases k2 with ⟨a2,b2⟩ | ⟨a2,b2⟩ | ⟨a2,b2,d2⟩
 ·refine ⟨by omega,?_⟩
  unfold z13; rw [if_pos a1,if_pos a2,cost_one hx.1 hy.1 hx.2.1 hy.2.1 b1 b2]
 ·exact (none_ hx.1 b2 (z80 b1).1).elim
 ·exact (no_both hx.2.1 b1 d2).elim
 ·exact (none_ hy.1 b1 (z80 b2).1).elim
 ·refine ⟨by omega,?_⟩
  unfold z13; rw [if_neg (by omega),if_neg (by omega)]
 ·exact (none_ hy.1 b1 b2).elim
 ·exact (no_both hy.2.1 b2 d1).elim
 ·exact (none_ hx.1 b2 b1).elim
 ·refine ⟨by omega,?_⟩
  unfold z13; rw [if_neg (by omega),if_neg (by omega)]
end Go.Ql
end
section
namespace Go.Ql
open Go Go.Vc
abbrev Rows3:=List (List (List Int))
abbrev Stp:=Nat × Bool
def z2i (I:Inst) (a:Nat):Arc:=I.arcs.getD a default
def frS (I:Inst) (s:Stp):Nat:=if s.2 then (z2i I s.1).dst.toNat else (z2i I s.1).src.toNat
def toS (I:Inst) (s:Stp):Nat:=if s.2 then (z2i I s.1).src.toNat else (z2i I s.1).dst.toNat
def csS (I:Inst) (s:Stp):Int:=if s.2 then -(z2i I s.1).cost else (z2i I s.1).cost
def rmS (I:Inst) (x:List Int) (s:Stp):Int:=if s.2 then x.getD s.1 0 - (z2i I s.1).low else if (z2i I s.1).cap = inf then 1152921504606846976 else (z2i I s.1).cap - x.getD s.1 0
def okS (I:Inst) (s:Stp):Prop:=s.1 < I.arcs.length
def z4t (x:List Int) (s:Stp) (u:Int):List Int:=x.set s.1 (x.getD s.1 0 + (if s.2 then -u else u))
def z71 (I:Inst) (o:List Int) (s:Stp) (u:Int):List Int:=addAt (addAt o (frS I s) (-u)) (toS I s) u
theorem z27 {I:Inst} {a:Nat} {y:Arc} (h:I.arcs[a]? = some y):z2i I a = y:=by unfold z2i; rw [List.getD_eq_getElem?_getD,h]; rfl
theorem zhb {I:Inst} {a:Nat} (h:a < I.arcs.length):I.arcs[a]? = some (z2i I a)/\z2i I a ∈ I.arcs:=by
 have e:I.arcs[a]? = some (z2i I a):=by unfold z2i; rw [List.getD_eq_getElem?_getD,List.getElem?_eq_getElem h]; rfl
 exact ⟨e,List.mem_of_getElem? e⟩
structure ArcOk (n:Nat) (y:Arc):Prop where
 s0:0 <= y.src
 s1:y.src.toNat < n
 d0:0 <= y.dst
 d1:y.dst.toNat < n
 l0:0 <= y.low
 l1:y.low <= 4398046511104
 c:y.cap = inf ∨ y.low <= y.cap/\y.cap <= 4398046511104
 k0:-4398046511104 <= y.cost
 k1:y.cost <= 4398046511104
theorem z1l {I:Inst} (hr:z02 I = 0) {a:Nat} (h:a < I.arcs.length):ArcOk I.sup.length (z2i I a):=by
 have hm:=z24 hr (zhb h).2
 obtain ⟨p1,p2,p3,p4⟩:=okArc_iff.1 hm.1
 exact ⟨p1,by omega,p3,by omega,hm.2.1.1,hm.2.1.2.1,hm.2.1.2.2,hm.2.2.1,hm.2.2.2⟩
theorem z2b {I:Inst} (hr:z02 I = 0) {s:Stp} (h:okS I s):frS I s < I.sup.length:=by
 have:=z1l hr h
 unfold frS; split
 ·exact this.d1
 ·exact this.s1
theorem z47 {I:Inst} (hr:z02 I = 0) {s:Stp} (h:okS I s):toS I s < I.sup.length:=by
 have:=z1l hr h
 unfold toS; split
 ·exact this.s1
 ·exact this.d1
theorem z8z {I:Inst} (hr:z02 I = 0) {s:Stp} (h:okS I s):-4398046511104 <= csS I s/\csS I s <= 4398046511104:=by
 have:=z1l hr h
 have:=this.k0; have:=(z1l hr h).k1
 unfold csS; split <;> omega
theorem zjn (I:Inst) (a:Nat) (b:Bool):frS I (a,!b) = toS I (a,b)/\toS I (a,!b) = frS I (a,b)/\csS I (a,!b) = -csS I (a,b):=by
 cases b <;> simp [frS,toS,csS]
structure OverOf (I:Inst) (x o:List Int):Prop where
 lo:o.length = I.sup.length
 lx:x.length = I.arcs.length
 at_:∀ v:Nat,v < I.sup.length->o.getD v 0 = I.sup.getD v 0 - z3c I.sup.length I.arcs x I.arcs.length v
theorem zkq (x:List Int) (s:Stp) (u:Int):(z4t x s u).length = x.length:=by simp [z4t]
theorem zko (I:Inst) (o:List Int) (s:Stp) (u:Int):(z71 I o s u).length = o.length:=by simp [z71,z30]
theorem zdm {I:Inst} {o:List Int} {s:Stp} {u:Int} {v:Nat} (hv:v < o.length):(z71 I o s u).getD v 0 = o.getD v 0 - (if frS I s = v then u else 0) + (if toS I s = v then u else 0):=by
 unfold z71
 rw [addAt_getD _ _ _ _ (by rw [z30]; exact hv),addAt_getD _ _ _ _ hv]
 split <;> split <;> omega
theorem z8o {x:List Int} {s:Stp} {u:Int} {a:Nat} (h:s.1 < x.length):(z4t x s u).getD a 0 = x.getD a 0 + (if a = s.1 then (if s.2 then -u else u) else 0):=by
 unfold z4t; exact zgm h _ a
theorem flowD_step {I:Inst} (hr:z02 I = 0) {s:Stp} (h:okS I s) (u:Int) (v:Nat):z50 I.sup.length (z2i I s.1) (if s.2 then -u else u) v = (if frS I s = v then u else 0) - (if toS I s = v then u else 0):=by
 have ok:=z1l hr h
 have h1:=ok.s0; have h2:=ok.d0; have h3:=ok.s1; have h4:=ok.d1
 have ho:z37 I.sup.length (z2i I s.1) = true:=okArc_iff.2 ⟨h1,by omega,h2,by omega⟩
 unfold z50 frS toS
 rw [ho,if_pos rfl]
 have e1:((z2i I s.1).src = (v:Int)) ↔ (z2i I s.1).src.toNat = v:=by omega
 have e2:((z2i I s.1).dst = (v:Int)) ↔ (z2i I s.1).dst.toNat = v:=by omega
 cases s.2
 ·simp only [Bool.false_eq_true,if_false,e1,e2]
 ·simp only [if_true,e1,e2]
  split <;> split <;> omega
theorem OverOf.push {I:Inst} (hr:z02 I = 0) {x o:List Int} (h:OverOf I x o) {s:Stp} (hs:okS I s) (u:Int):OverOf I (z4t x s u) (z71 I o s u):=by
 refine ⟨by rw [zko]; exact h.lo,by rw [zkq]; exact h.lx,fun v hv=>?_⟩
 have hx:s.1 < x.length:=by rw [h.lx]; exact hs
 rw [zdm (by rw [h.lo]; exact hv),h.at_ v hv]
 have:=netK_set (n:=I.sup.length) (l:=I.arcs) (x:=x) (v:=v) hx (if s.2 then -u else u) I.arcs.length
 unfold z4t
 rw [this,if_pos (show s.1 < I.arcs.length from hs)]
 have:=flowD_step hr hs u v
 unfold z2i at this
 rw [this]
 omega
def Betw (I:Inst) (x:List Int):Prop:=∀ a,a < I.arcs.length->(z2i I a).low <= x.getD a 0/\((z2i I a).cap = inf ∨ x.getD a 0 <= (z2i I a).cap)
theorem Betw.room {I:Inst} (hr:z02 I = 0) {x:List Int} (h:Betw I x) {s:Stp} (hs:okS I s):0 <= rmS I x s:=by
 have:=h s.1 hs
 have ok:=z1l hr hs
 unfold rmS
 split
 ·omega
 ·split
  ·omega
  ·rename_i h2
   rcases this.2 with h3 | h3
   ·exact absurd h3 h2
   ·omega
theorem betw_push {I:Inst} {x:List Int} (h:Betw I x) (hl:x.length = I.arcs.length) {s:Stp} (hs:okS I s) {u:Int} (h0:0 <= u) (h1:u <= rmS I x s):Betw I (z4t x s u):=fun a ha=>by
 have hx:s.1 < x.length:=by rw [hl]; exact hs
 rw [z8o hx]
 have hb:=h a ha
 by_cases e:a = s.1
 ·subst e
  rw [if_pos rfl]
  unfold rmS at h1
  cases hb2:s.2 with
  | true =>
   rw [hb2,if_pos rfl] at h1
   simp only [if_true]
   exact ⟨by omega,hb.2.imp id (by omega)⟩
  | false =>
   rw [hb2,if_neg Bool.false_ne_true] at h1
   simp only [Bool.false_eq_true,if_false]
   refine ⟨by omega,?_⟩
   by_cases hc:(z2i I s.1).cap = inf
   ·exact .inl hc
   ·rw [if_neg hc] at h1; exact .inr (by omega)
 ·rw [if_neg e]; simpa using hb
theorem fits_over {I:Inst} (hr:z02 I = 0) {x o:List Int} (h:OverOf I x o) (hb:Betw I x) (h0:∀ v,v < I.sup.length->o.getD v 0 = 0):z20 I x = 0:=by
 refine fitsF_zero.2 ⟨hr,h.lx,fitsAll_iff.2 fun j a ha=>?_,netOk_iff.2 fun v hv=>?_⟩
 ·have hj:=(List.getElem?_eq_some_iff.1 ha).1
  have:=hb j hj
  rw [z27 ha] at this
  simp [fitF]; exact this
 ·have:=h.at_ v hv
  rw [h0 v hv] at this
  congr 1; omega
def z1z (I:Inst) (b:Nat->Option Stp):Nat->Nat->List Stp
 | 0,_=>[]
 | f + 1,v=>match b v with
  | none=>[]
  | some s=>s :: z1z I b f (frS I s)
def z18 (I:Inst) (b:Nat->Option Stp):Nat->Nat->Nat
 | 0,v=>v
 | f + 1,v=>match b v with
  | none=>v
  | some s=>z18 I b f (frS I s)
def Tree (I:Inst) (b:Nat->Option Stp) (ρ:Nat->Nat):Prop:=∀ v s,v < I.sup.length->b v = some s->okS I s/\toS I s = v/\ρ (frS I s) < ρ v
theorem zem {I:Inst} {b:Nat->Option Stp} {ρ:Nat->Nat} (hr:z02 I = 0) (h:Tree I b ρ):∀ (f v:Nat),v < I.sup.length->ρ v < f->z1z I b (f + 1) v = z1z I b f v/\z18 I b (f + 1) v = z18 I b f v/\b (z18 I b f v) = none/\z18 I b f v < I.sup.length
 | 0,v,_,hf=>by omega
 | f + 1,v,hv,hf=>by
  cases hb:b v with
  | none =>
   refine ⟨?_,?_,?_,?_⟩ <;> simp only [z1z,z18,hb]
   exact hv
  | some s =>
   obtain ⟨h1,h2,h3⟩:=h v s hv hb
   obtain ⟨i1,i2,i3,i4⟩:=zem hr h f (frS I s) (z2b hr h1) (by omega)
   have e1:z1z I b (f + 1 + 1) v = s :: z1z I b (f + 1) (frS I s):=by rw [z1z,hb]
   have e2:z1z I b (f + 1) v = s :: z1z I b f (frS I s):=by rw [z1z,hb]
   have e3:z18 I b (f + 1 + 1) v = z18 I b (f + 1) (frS I s):=by rw [z18,hb]
   have e4:z18 I b (f + 1) v = z18 I b f (frS I s):=by rw [z18,hb]
   rw [e1,e2,e3,e4,i1,i2]
   exact ⟨rfl,rfl,i3,i4⟩
theorem zel {I:Inst} {b:Nat->Option Stp} {ρ:Nat->Nat} (hr:z02 I = 0) (h:Tree I b ρ):∀ (f v:Nat),v < I.sup.length->∀ s ∈ z1z I b f v,okS I s/\b (toS I s) = some s/\ρ (toS I s) <= ρ v/\ρ (frS I s) < ρ (toS I s)
 | 0,v,_,s,hs=>by simp [z1z] at hs
 | f + 1,v,hv,s,hs=>by
  rw [z1z] at hs
  cases hb:b v with
  | none=>rw [hb] at hs; simp at hs
  | some t =>
   rw [hb] at hs
   obtain ⟨h1,h2,h3⟩:=h v t hv hb
   rcases List.mem_cons.1 hs with rfl | hs
   ·exact ⟨h1,by rw [h2]; exact hb,by rw [h2]; exact Nat.le_refl _,by rw [h2]; exact h3⟩
   ·obtain ⟨i1,i2,i3,i4⟩:=zel hr h f (frS I t) (z2b hr h1) s hs
    exact ⟨i1,i2,by omega,i4⟩
theorem zmc {I:Inst} {b:Nat->Option Stp} {ρ:Nat->Nat} (hr:z02 I = 0) (h:Tree I b ρ):∀ (f v:Nat),v < I.sup.length->((z1z I b f v).map (·.1)).Nodup
 | 0,v,_=>by simp [z1z]
 | f + 1,v,hv=>by
  rw [z1z]
  cases hb:b v with
  | none=>simp
  | some t =>
   obtain ⟨h1,h2,h3⟩:=h v t hv hb
   dsimp only
   rw [List.map_cons,List.nodup_cons]
   refine ⟨fun hm=>?_,zmc hr h f (frS I t) (z2b hr h1)⟩
   obtain ⟨s,hs,he⟩:=List.mem_map.1 hm
   obtain ⟨i1,i2,i3,i4⟩:=zel hr h f (frS I t) (z2b hr h1) s hs
   obtain ⟨a,k⟩:=t
   obtain ⟨a',k'⟩:=s
   dsimp only at he
   subst he
   by_cases hk:k' = k
   ·subst hk; rw [h2] at i3; omega
   ·have hk':k' = !k:=by cases k <;> cases k' <;> simp_all
    subst hk'
    obtain ⟨f1,f2,-⟩:=zjn I a' k
    rw [f1,f2,h2] at i4
    omega
def z7c (I:Inst) (x:List Int) (u:Int) (l:List Stp):Int:=l.foldl (fun u s=>min u (rmS I x s)) u
theorem zma {I:Inst} {x:List Int}:∀ (l:List Stp) (u:Int),z7c I x u l <= u/\∀ s ∈ l,z7c I x u l <= rmS I x s
 | [],u=>⟨Int.le_refl _,fun s h=>by simp at h⟩
 | t :: l,u=>by
  obtain ⟨i1,i2⟩:=zma (I:=I) (x:=x) l (min u (rmS I x t))
  have e:z7c I x u (t :: l) = z7c I x (min u (rmS I x t)) l:=rfl
  rw [e]
  refine ⟨by omega,fun s hs=>?_⟩
  rcases List.mem_cons.1 hs with rfl | hs
  ·omega
  ·exact i2 s hs
theorem unitsF_ge {I:Inst} {x:List Int} {L:Int}:∀ (l:List Stp) (u:Int),L <= u->(∀ s ∈ l,L <= rmS I x s)->L <= z7c I x u l
 | [],u,h,_=>h
 | t :: l,u,h,h2=>unitsF_ge l (min u (rmS I x t)) (by have:=h2 t (by simp); omega) fun s hs=>h2 s (by simp [hs])
def z2r (x:List Int) (l:List Stp) (u:Int):List Int:=l.foldl (fun x s=>z4t x s u) x
def z23 (I:Inst) (o:List Int) (l:List Stp) (u:Int):List Int:=l.foldl (fun o s=>z71 I o s u) o
theorem pushXs_len (u:Int):∀ (l:List Stp) (x:List Int),(z2r x l u).length = x.length
 | [],x=>rfl
 | s :: l,x=>by show (z2r (z4t x s u) l u).length = _; rw [pushXs_len u l,zkq]
theorem zfl (I:Inst) (u:Int):∀ (l:List Stp) (o:List Int),(z23 I o l u).length = o.length
 | [],o=>rfl
 | s :: l,o=>by show (z23 I (z71 I o s u) l u).length = _; rw [zfl I u l,zko]
theorem zdn {u:Int}:∀ {l:List Stp} {x:List Int},(l.map (·.1)).Nodup->(∀ s ∈ l,s.1 < x.length)->∀ a,(z2r x l u).getD a 0 = x.getD a 0 + (if (a,false) ∈ l then u else if (a,true) ∈ l then -u else 0)
 | [],x,_,_,a=>by simp [z2r]
 | s :: l,x,hn,hl,a=>by
  rw [List.map_cons,List.nodup_cons] at hn
  have ih:=zdn (u:=u) (l:=l) (x:=z4t x s u) hn.2 (fun t ht=>by rw [zkq]; exact hl t (by simp [ht])) a
  have e:z2r x (s :: l) u = z2r (z4t x s u) l u:=rfl
  rw [e,ih,z8o (hl s (by simp))]
  obtain ⟨a',k⟩:=s
  dsimp only at hn ⊢
  by_cases ha:a = a'
  ·subst ha
   have n1:∀ k,(a,k) ∉ l:=fun k hm=>hn.1 (List.mem_map.2 ⟨_,hm,rfl⟩)
   cases k <;> simp [n1]
  ·simp [ha]
theorem OverOf.pushs {I:Inst} (hr:z02 I = 0) (u:Int):∀ {l:List Stp} {x o:List Int},OverOf I x o->(∀ s ∈ l,okS I s)->OverOf I (z2r x l u) (z23 I o l u)
 | [],x,o,h,_=>h
 | s :: l,x,o,h,hl=>OverOf.pushs hr u (l:=l) (h.push hr (hl s (by simp)) u) fun t ht=>hl t (by simp [ht])
theorem zkp {I:Inst} {b:Nat->Option Stp} {ρ:Nat->Nat} (hr:z02 I = 0) (h:Tree I b ρ) {u:Int}:∀ (f w:Nat) (o:List Int),w < I.sup.length->o.length = I.sup.length->∀ v,v < I.sup.length ->
  (z23 I o (z1z I b f w) u).getD v 0 = o.getD v 0 + (if w = v then u else 0) - (if z18 I b f w = v then u else 0)
 | 0,w,o,hw,ho,v,hv=>by simp only [z1z,z18,z23,List.foldl_nil]; omega
 | f + 1,w,o,hw,ho,v,hv=>by
  rw [z1z,z18]
  cases hb:b w with
  | none=>simp only [z23,List.foldl_nil]; omega
  | some s =>
   obtain ⟨h1,h2,h3⟩:=h w s hw hb
   have e:z23 I o (s :: z1z I b f (frS I s)) u = z23 I (z71 I o s u) (z1z I b f (frS I s)) u:=rfl
   dsimp only
   rw [e,zkp hr h f (frS I s) _ (z2b hr h1) (by rw [zko]; exact ho) v hv,zdm (by rw [ho]; exact hv),h2]
   omega
theorem betw_pushs {I:Inst} {x:List Int} (h:Betw I x) (hl:x.length = I.arcs.length) {l:List Stp} (hn:(l.map (·.1)).Nodup) (hs:∀ s ∈ l,okS I s) {u:Int} (h0:0 <= u) (h1:∀ s ∈ l,u <= rmS I x s):Betw I (z2r x l u):=fun a ha=>by
 have hb:=h a ha
 rw [zdn hn (fun s h=>by rw [hl]; exact hs s h)]
 by_cases m1:(a,false) ∈ l
 ·rw [if_pos m1]
  have:=h1 _ m1
  unfold rmS at this
  dsimp only at this
  rw [if_neg Bool.false_ne_true] at this
  refine ⟨by omega,?_⟩
  by_cases hc:(z2i I a).cap = inf
  ·exact .inl hc
  ·rw [if_neg hc] at this; exact .inr (by omega)
 ·rw [if_neg m1]
  by_cases m2:(a,true) ∈ l
  ·rw [if_pos m2]
   have:=h1 _ m2
   unfold rmS at this
   dsimp only at this
   rw [if_pos rfl] at this
   exact ⟨by omega,hb.2.imp id (by omega)⟩
  ·rw [if_neg m2]; simpa using hb
def z4m (o:List Int):Nat->Int
 | 0=>0
 | k + 1=>z4m o k + max (o.getD k 0) 0
theorem z1x (o:List Int):∀ k,0 <= z4m o k
 | 0=>Int.le_refl _
 | k + 1=>by have:=z1x o k; rw [z4m]; omega
theorem posS_eq {o p:List Int}:∀ {k:Nat},(∀ v,v < k->max (p.getD v 0) 0 = max (o.getD v 0) 0)->z4m p k = z4m o k
 | 0,_=>rfl
 | k + 1,h=>by rw [z4m,z4m,posS_eq (k:=k) fun v hv=>h v (by omega),h k (by omega)]
theorem posS_less {o p:List Int} {r:Nat} {u:Int}:∀ {k:Nat},r < k->(∀ v,v < k->v ≠ r->max (p.getD v 0) 0 = max (o.getD v 0) 0)->max (p.getD r 0) 0 = max (o.getD r 0) 0 - u->z4m p k = z4m o k - u
 | 0,h,_,_=>by omega
 | k + 1,h,h1,h2=>by
  rw [z4m,z4m]
  by_cases e:r = k
  ·subst e
   rw [posS_eq fun v hv=>h1 v (by omega) (by omega),h2]; omega
  ·rw [posS_less (r:=r) (u:=u) (by omega) (fun v hv hne=>h1 v (by omega) hne) h2,h1 k (by omega) (by omega)]; omega
theorem posS_ge {o:List Int} {v:Nat}:∀ {k:Nat},v < k->o.getD v 0 <= z4m o k
 | 0,h=>by omega
 | k + 1,h=>by
  have:=z1x o k
  rw [z4m]
  by_cases e:v = k
  ·subst e; omega
  ·have:=posS_ge (o:=o) (v:=v) (k:=k) (by omega); omega
def XB (x:List Int):Prop:=∀ y ∈ x,-288230376151711744 <= y/\y <= 288230376151711744
theorem XB.at {x:List Int} (h:XB x) (k:Nat):-288230376151711744 <= x.getD k 0/\x.getD k 0 <= 288230376151711744:=by
 rw [List.getD_eq_getElem?_getD]
 cases e:x[k]? with
 | none=>exact ⟨by decide,by decide⟩
 | some u=>exact h u (List.mem_of_getElem? e)
def z15 (I:Inst) (s:Int):Prop:=z02 I = 0/\0 <= s/\s < I.arcs.length
def endS (I:Inst) (s:Stp):Bool:=!s.2 && decide ((z2i I s.1).cap = inf)
theorem rmS_bd {I:Inst} {x:List Int} (hx:XB x) {s:Int} (h:z15 I s) (b:Bool):-288230376151711744 - 4398046511104 <= rmS I x (s.toNat,b)/\rmS I x (s.toNat,b) <= 1152921504606846976:=by
 have ok:=z1l h.1 (a:=s.toNat) (by have:=h.2; omega)
 have h1:=hx.at s.toNat
 have:=ok.l0; have:=ok.l1; have h2:=ok.c
 unfold rmS
 dsimp only
 split
 ·omega
 ·split
  ·omega
  ·rename_i hc
   have:=h2.resolve_left hc
   omega
theorem push_is {I:Inst} {x o:List Int} {s:Stp} {n:Int} (hr:z02 I = 0) (hs:okS I s) (hl:x.length = I.arcs.length) (ho:o.length = I.sup.length) (hx:XB x) (hov:XB o) (n0:-1152921504606846976 <= n) (n1:n <= 1152921504606846976) {y u z:Int}
  (hy:x[s.1]? = some y) (hu:o[frS I s]? = some u) (hz:(o.set (frS I s) (IntKind.i64.wrap (u - n)))[toS I s]? = some z) :
  (s.2 = true->x.set s.1 (IntKind.i64.wrap (y - n)) = z4t x s n)/\(s.2 = false->x.set s.1 (IntKind.i64.wrap (y + n)) = z4t x s n)/\(o.set (frS I s) (IntKind.i64.wrap (u - n))).set (toS I s) (IntKind.i64.wrap (z + n)) = z71 I o s n:=by
 have hf:=z2b hr hs
 have ht:=z47 hr hs
 have ey:x.getD s.1 0 = y:=by rw [List.getD_eq_getElem?_getD,hy]; rfl
 have eu:o.getD (frS I s) 0 = u:=by rw [List.getD_eq_getElem?_getD,hu]; rfl
 have by1:=hx.at s.1
 have bu1:=hov.at (frS I s)
 have bt1:=hov.at (toS I s)
 rw [ey] at by1
 rw [eu] at bu1
 have w1:IntKind.i64.wrap (y - n) = y + -n:=by rw [w64 (by omega) (by omega)]; omega
 have w2:IntKind.i64.wrap (y + n) = y + n:=w64 (by omega) (by omega)
 have w3:IntKind.i64.wrap (u - n) = u + -n:=by rw [w64 (by omega) (by omega)]; omega
 have ez:(o.set (frS I s) (u + -n)).getD (toS I s) 0 = z:=by rw [w3] at hz; rw [List.getD_eq_getElem?_getD,hz]; rfl
 have bz:-1441151880758558720 <= z/\z <= 1441151880758558720:=by
  rw [<- ez]
  by_cases e:frS I s = toS I s
  ·rw [<- e,List.getD_eq_getElem?_getD,List.getElem?_set_self (by omega)]
   simp only [Option.getD_some]; omega
  ·rw [List.getD_eq_getElem?_getD,List.getElem?_set_ne e,<- List.getD_eq_getElem?_getD]; omega
 have w4:IntKind.i64.wrap (z + n) = z + n:=w64 (by omega) (by omega)
 refine ⟨fun h=>by unfold z4t; rw [h,ey,w1,if_pos rfl],fun h=>by unfold z4t; rw [h,ey,w2,if_neg Bool.false_ne_true],?_⟩
 unfold z71 addAt
 rw [eu,w3,ez,w4]
end Go.Ql
end
section
namespace Go.Ql
open Go Go.Vc
theorem zk7:∀ (n:Nat) (l:List Nat),l.Nodup->(∀ x ∈ l,x < n)->l.length <= n
 | 0,l,_,h=>by
  cases l with
  | nil=>exact Nat.le_refl _
  | cons x l=>exact absurd (h x (by simp)) (Nat.not_lt_zero _)
 | n + 1,l,hn,h=>by
  have h1:(l.filter (fun x=>decide (x ≠ n))).length <= n:=zk7 n _ (List.Pairwise.filter _ hn) fun x hx=>by
   rw [List.mem_filter,decide_eq_true_eq] at hx
   have:=h x hx.1; omega
  have h2:l.length <= (l.filter (fun x=>decide (x ≠ n))).length + 1:=by
   clear h h1
   induction l with
   | nil=>simp
   | cons x l ih =>
    rw [List.nodup_cons] at hn
    rw [List.filter_cons]
    by_cases e:x = n
    ·subst e
     have:l.filter (fun y=>decide (y ≠ x)) = l:=List.filter_eq_self.2 fun y hy=>decide_eq_true fun e=>hn.1 (e ▸ hy)
     rw [if_neg (by simp),this,List.length_cons]
     exact Nat.le_refl _
    ·have:=ih hn.2
     rw [if_pos (decide_eq_true e),List.length_cons,List.length_cons]
     omega
  omega
theorem pigeon {n:Nat} (f:Nat->Nat) (h:∀ i,i <= n->f i < n):∃ i j,i < j/\j <= n/\f i = f j:=by
 apply Classical.byContradiction
 intro hno
 have hn:((List.range (n + 1)).map f).Nodup:=by
  rw [List.nodup_iff_pairwise_ne,List.pairwise_map]
  refine List.pairwise_iff_getElem.2 fun i j hi hj hij=>?_
  rw [List.getElem_range,List.getElem_range]
  rw [List.length_range] at hj
  exact fun e=>hno ⟨i,j,hij,by omega,e⟩
 have:=zk7 n _ hn fun x hx=>by
  obtain ⟨i,hi,rfl⟩:=List.mem_map.1 hx
  rw [List.mem_range] at hi
  exact h i (by omega)
 rw [List.length_map,List.length_range] at this
 omega
structure BF (I:Inst) (cnt:Stp->Bool) (start:Nat->Bool) (r:Nat) (done:Stp->Bool) (d:Nat->Option Int) (b:Nat->Option Stp) (e:Option Nat) (τ T:Nat->Nat) (t:Nat):Prop where
 st:∀ v,v < I.sup.length->start v = true->∃ c,d v = some c/\c <= 0
 no:∀ v,v < I.sup.length->b v = none->∀ c,d v = some c->start v = true/\c = 0
 un:∀ v,d v = none->b v = none
 by_:∀ v s,v < I.sup.length->b v = some s->okS I s/\cnt s = true/\toS I s = v/\∃ c u,d v = some c/\d (frS I s) = some u/\u + csS I s <= c/\(T v <= T (frS I s)->u + csS I s < c)
 rd:∀ v s,v < I.sup.length->b v = some s->1 <= τ v/\τ v <= τ (frS I s) + 1
 r0:∀ v,b v = none->τ v = 0
 rl:∀ v,τ v <= r
 la:∀ v,e = some v->v < I.sup.length/\τ v = r/\1 <= r
 le:e = none->∀ v,τ v = r->r = 0
 ok:∀ s,okS I s->cnt s = true->∀ u,d (frS I s) = some u->τ (frS I s) < (if done s then r else r - 1)->∃ c,d (toS I s) = some c/\c <= u + csS I s
 cl:∀ v,T v < t
theorem BF.pass {I:Inst} {cnt:Stp->Bool} {start:Nat->Bool} {r:Nat} {done done':Stp->Bool} {d:Nat->Option Int} {b:Nat->Option Stp} {e:Option Nat} {τ T:Nat->Nat} {t:Nat} {s:Stp} (h:BF I cnt start r done d b e τ T t)
    (hd:∀ s',done' s' = (done s' || decide (s' = s))) (hs:cnt s = true->∀ u,d (frS I s) = some u->∃ c,d (toS I s) = some c/\c <= u + csS I s):BF I cnt start r done' d b e τ T t :=
  { h with
    ok:=fun s' h1 h2 u hu h3=>by
      by_cases es:s' = s
      · subst es; exact hs h2 u hu
      · rw [hd,decide_eq_false es,Bool.or_false] at h3
        exact h.ok s' h1 h2 u hu h3 }
theorem BF.take {I:Inst} (hr:z02 I = 0) {cnt:Stp->Bool} {start:Nat->Bool} {r:Nat} {done done':Stp->Bool} {d:Nat->Option Int} {b:Nat->Option Stp} {e:Option Nat} {τ T:Nat->Nat} {t:Nat} {s:Stp} (h:BF I cnt start r done d b e τ T t)
  (hd:∀ s',done' s' = (done s' || decide (s' = s))) (h1:1 <= r) (hsk:okS I s) (hc:cnt s = true) (hnd:done s = false) {u:Int} (hu:d (frS I s) = some u) (hless:∀ c,d (toS I s) = some c->u + csS I s < c) :
  ∃ τ' T':Nat->Nat,BF I cnt start r done' (fun v=>if v = toS I s then some (u + csS I s) else d v) (fun v=>if v = toS I s then some s else b v) (some (toS I s)) τ' T' (t + 1):=by
 have hto:=z47 hr hsk
 have hfr:=z2b hr hsk
 have hτ:r - 1 <= τ (frS I s):=by
  apply Nat.le_of_not_lt
  intro hlt
  obtain ⟨c,h2,h3⟩:=h.ok s hsk hc u hu (by rw [hnd]; exact hlt)
  have:=hless c h2; omega
 refine ⟨fun v=>if v = toS I s then r else τ v,fun v=>if v = toS I s then t else T v,?_⟩
 constructor
 ·intro v hv hst
  by_cases ev:v = toS I s
  ·rw [if_pos ev]
   subst ev
   obtain ⟨c,h2,h3⟩:=h.st _ hv hst
   exact ⟨_,rfl,by have:=hless c h2; omega⟩
  ·rw [if_neg ev]; exact h.st v hv hst
 ·intro v hv hb c hdv
  by_cases ev:v = toS I s
  ·rw [if_pos ev] at hb; cases hb
  ·rw [if_neg ev] at hb hdv; exact h.no v hv hb c hdv
 ·intro v hdv
  by_cases ev:v = toS I s
  ·rw [if_pos ev] at hdv; cases hdv
  ·rw [if_neg ev] at hdv ⊢; exact h.un v hdv
 ·intro v s' hv hb
  by_cases ev:v = toS I s
  ·rw [if_pos ev] at hb
   cases hb
   refine ⟨hsk,hc,ev.symm,u + csS I s,?_⟩
   rw [if_pos ev]
   by_cases ef:frS I s = toS I s
   ·rw [if_pos ef,if_pos ef,if_pos ev]
    have:=hless u (by rw [<- ef]; exact hu)
    exact ⟨u + csS I s,rfl,rfl,by omega,fun _=>by omega⟩
   ·rw [if_neg ef,if_neg ef,if_pos ev]
    exact ⟨u,rfl,hu,Int.le_refl _,fun hT=>by have:=h.cl (frS I s); omega⟩
  ·rw [if_neg ev] at hb
   obtain ⟨p1,p2,p3,c,u',p4,p5,p6,p7⟩:=h.by_ v s' hv hb
   rw [if_neg ev,if_neg ev]
   refine ⟨p1,p2,p3,c,?_⟩
   by_cases ef:frS I s' = toS I s
   ·rw [if_pos ef,if_pos ef]
    have:=hless u' (by rw [<- ef]; exact p5)
    exact ⟨u + csS I s,p4,rfl,by omega,fun _=>by omega⟩
   ·rw [if_neg ef,if_neg ef]
    exact ⟨u',p4,p5,p6,p7⟩
 ·intro v s' hv hb
  by_cases ev:v = toS I s
  ·rw [if_pos ev] at hb
   cases hb
   rw [if_pos ev]
   by_cases ef:frS I s = toS I s
   ·rw [if_pos ef]; omega
   ·rw [if_neg ef]; omega
  ·rw [if_neg ev] at hb
   obtain ⟨p1,p2⟩:=h.rd v s' hv hb
   rw [if_neg ev]
   by_cases ef:frS I s' = toS I s
   ·rw [if_pos ef]; have:=h.rl v; omega
   ·rw [if_neg ef]; exact ⟨p1,p2⟩
 ·intro v hb
  by_cases ev:v = toS I s
  ·rw [if_pos ev] at hb; cases hb
  ·rw [if_neg ev] at hb ⊢; exact h.r0 v hb
 ·intro v
  split
  ·exact Nat.le_refl _
  ·exact h.rl v
 ·intro v ev
  cases ev
  exact ⟨hto,by simp,h1⟩
 ·intro ev; cases ev
 ·intro s' h2 h3 w hw h4
  by_cases ef:frS I s' = toS I s
  ·rw [if_pos ef] at h4
   split at h4 <;> omega
  ·rw [if_neg ef] at hw h4
   by_cases es:s' = s
   ·subst es
    rw [if_pos rfl]
    rw [hu] at hw; cases hw
    exact ⟨_,rfl,Int.le_refl _⟩
   ·rw [hd,decide_eq_false es,Bool.or_false] at h4
    obtain ⟨c,p1,p2⟩:=h.ok s' h2 h3 w hw h4
    by_cases et:toS I s' = toS I s
    ·rw [if_pos et]
     have:=hless c (by rw [<- et]; exact p1)
     exact ⟨_,rfl,by omega⟩
    ·rw [if_neg et]; exact ⟨c,p1,p2⟩
 ·intro v
  split
  ·exact Nat.lt_succ_self _
  ·have:=h.cl v; omega
theorem BF.next {I:Inst} {cnt:Stp->Bool} {start:Nat->Bool} {r:Nat} {done done':Stp->Bool} {d:Nat->Option Int} {b:Nat->Option Stp} {e:Option Nat} {τ T:Nat->Nat} {t:Nat} (h:BF I cnt start r done d b e τ T t)
    (hd:∀ s,okS I s->done s = true) (hd':∀ s,done' s = false):BF I cnt start (r + 1) done' d b none τ T t :=
  { h with
    rl:=fun v=>Nat.le_succ_of_le (h.rl v)
    la:=fun v ev=>by cases ev
    le:=fun _ v hv=>by have:=h.rl v; omega
    ok:=fun s h1 h2 u hu h3=>h.ok s h1 h2 u hu (by rw [hd s h1]; rw [hd'] at h3; simpa using h3) }
theorem BF.zero {I:Inst} (cnt:Stp->Bool) (start:Nat->Bool) (done:Stp->Bool) {d:Nat->Option Int} (hd:∀ v,v < I.sup.length->d v = if start v then some 0 else none):BF I cnt start 0 done d (fun _=>none) none (fun _=>0) (fun _=>0) 1 where
 st:=fun v hv hs=>⟨0,by rw [hd v hv,if_pos hs],Int.le_refl _⟩
 no:=fun v hv _ c hc=>by
  rw [hd v hv] at hc
  split at hc
  ·rename_i hs; cases hc; exact ⟨hs,rfl⟩
  ·cases hc
 un:=fun _ _=>rfl
 by_:=fun _ _ _ h=>by cases h
 rd:=fun _ _ _ h=>by cases h
 r0:=fun _ _=>rfl
 rl:=fun _=>Nat.le_refl _
 la:=fun _ h=>by cases h
 le:=fun _ _ _=>rfl
 ok:=fun s _ _ u _ h=>by split at h <;> omega
 cl:=fun _=>Nat.zero_lt_one
theorem BF.end_ {I:Inst} {cnt:Stp->Bool} {start:Nat->Bool} {r:Nat} {done:Stp->Bool} {d:Nat->Option Int} {b:Nat->Option Stp} {τ T:Nat->Nat} {t:Nat} (h:BF I cnt start r done d b none τ T t) (h1:1 <= r)
  (hd:∀ s,okS I s->done s = true):∀ s,okS I s->cnt s = true->∀ u,d (frS I s) = some u->∃ c,d (toS I s) = some c/\c <= u + csS I s:=fun s h2 h3 u hu =>
 h.ok s h2 h3 u hu (by
  rw [hd s h2,if_pos rfl]
  have:=h.rl (frS I s)
  by_cases e:τ (frS I s) = r
  ·have:=h.le rfl _ e; omega
  ·omega)
def z0m (I:Inst) (b:Nat->Option Stp) (v:Nat):Nat->Nat
 | 0=>v
 | k + 1=>match b (z0m I b v k) with
  | some s=>frS I s
  | none=>z0m I b v k
def z92 (I:Inst) (b:Nat->Option Stp) (v:Nat):Nat->Int
 | 0=>0
 | k + 1=>z92 I b v k + (match b (z0m I b v k) with
  | some s=>csS I s
  | none=>0)
theorem z3e (I:Inst) (b:Nat->Option Stp) (v:Nat) (i:Nat):∀ k,z0m I b v (i + k) = z0m I b (z0m I b v i) k
 | 0=>rfl
 | k + 1=>by rw [<- Nat.add_assoc,z0m,z0m,z3e I b v i k]
theorem z65 {I:Inst} (hr:z02 I = 0) {b:Nat->Option Stp} (hb:∀ v s,v < I.sup.length->b v = some s->okS I s) {v:Nat} (hv:v < I.sup.length):∀ k,z0m I b v k < I.sup.length
 | 0=>hv
 | k + 1=>by
  rw [z0m]
  split
  ·rename_i s hs; exact z2b hr (hb _ s (z65 hr hb hv k) hs)
  ·exact z65 hr hb hv k
theorem BF.back {I:Inst} (hr:z02 I = 0) {cnt:Stp->Bool} {start:Nat->Bool} {r:Nat} {done:Stp->Bool} {d:Nat->Option Int} {b:Nat->Option Stp} {e:Option Nat} {τ T:Nat->Nat} {t:Nat} (h:BF I cnt start r done d b e τ T t) {v:Nat} (hv:v < I.sup.length) {c0:Int} (h0:d v = some c0) :
  ∀ k,(∀ i,i < k->∃ s,b (z0m I b v i) = some s)->∃ c,d (z0m I b v k) = some c/\c + z92 I b v k <= c0/\(c + z92 I b v k = c0->∀ i,i < k->T (z0m I b v (i + 1)) < T (z0m I b v i))
 | 0,_=>⟨c0,h0,by rw [z92]; omega,fun _ i hi=>absurd hi (Nat.not_lt_zero _)⟩
 | k + 1,hk=>by
  obtain ⟨c,p1,p2,p3⟩:=BF.back hr h hv h0 k fun i hi=>hk i (by omega)
  obtain ⟨s,hs⟩:=hk k (by omega)
  have hlt:=z65 hr (fun v s hv hb=>(h.by_ v s hv hb).1) hv k
  obtain ⟨q1,q2,q3,c',u,q4,q5,q6,q7⟩:=h.by_ _ s hlt hs
  rw [p1] at q4; cases q4
  have en:z0m I b v (k + 1) = frS I s:=by rw [z0m,hs]
  have ec:z92 I b v (k + 1) = z92 I b v k + csS I s:=by rw [z92,hs]
  rw [en,ec]
  refine ⟨u,q5,by omega,fun heq i hi=>?_⟩
  by_cases ei:i = k
  ·subst ei
   rw [en]
   apply Nat.lt_of_not_le
   intro hle
   have:=q7 hle; omega
  ·exact p3 (by omega) i (by omega)
theorem BF.cycle {I:Inst} (hr:z02 I = 0) {cnt:Stp->Bool} {start:Nat->Bool} {r:Nat} {done:Stp->Bool} {d:Nat->Option Int} {b:Nat->Option Stp} {e:Option Nat} {τ T:Nat->Nat} {t:Nat} (h:BF I cnt start r done d b e τ T t) {v k:Nat} (hv:v < I.sup.length) (hk:1 <= k)
  (hs:∀ i,i < k->∃ s,b (z0m I b v i) = some s) (hc:z0m I b v k = v):z92 I b v k < 0:=by
 obtain ⟨s,hs0⟩:=hs 0 (by omega)
 obtain ⟨-,-,-,c0,u,h0,-⟩:=h.by_ v s hv hs0
 obtain ⟨c,p1,p2,p3⟩:=h.back hr hv h0 k hs
 rw [hc,h0] at p1; cases p1
 apply Classical.byContradiction
 intro hn
 have hlt:=p3 (by omega)
 have:∀ j,j <= k->T (z0m I b v j) + j <= T v:=by
  intro j
  induction j with
  | zero=>intro _; exact Nat.le_refl _
  | succ j ih =>
   intro hj
   have:=ih (by omega)
   have:=hlt j (by omega)
   omega
 have:=this k (Nat.le_refl _)
 rw [hc] at this
 omega
theorem BF.long {I:Inst} (hr:z02 I = 0) {cnt:Stp->Bool} {start:Nat->Bool} {r:Nat} {done:Stp->Bool} {d:Nat->Option Int} {b:Nat->Option Stp} {e:Option Nat} {τ T:Nat->Nat} {t:Nat} (h:BF I cnt start r done d b e τ T t) {v:Nat} (he:e = some v) :
  ∀ k,k < r->(∃ s,b (z0m I b v k) = some s)/\r - k <= τ (z0m I b v k)
 | 0,hk=>by
  obtain ⟨h1,h2,h3⟩:=h.la v he
  refine ⟨?_,by simp only [z0m]; omega⟩
  show ∃ s,b v = some s
  cases hb:b v with
  | none=>have:=h.r0 v hb; omega
  | some s=>exact ⟨s,rfl⟩
 | k + 1,hk=>by
  obtain ⟨⟨s,hs⟩,h2⟩:=BF.long hr h he k (by omega)
  have hlt:=z65 hr (fun v s hv hb=>(h.by_ v s hv hb).1) (h.la v he).1 k
  have:=(h.rd _ s hlt hs).2
  have en:z0m I b v (k + 1) = frS I s:=by rw [z0m,hs]
  rw [en]
  refine ⟨?_,by omega⟩
  cases hb:b (frS I s) with
  | none=>have:=h.r0 _ hb; omega
  | some s'=>exact ⟨s',rfl⟩
end Go.Ql
end
section
namespace Go.Ql
open Go Go.Vc
def z68 (s:Stp):List Int:=[(s.1:Int),bif s.2 then 1 else 0]
def mbS:Option Stp->List Int
 | some s=>[(s.1:Int),bif s.2 then 1 else 0,1]
 | none=>[0,0,0]
def mbI:Option Int->List Int
 | some c=>[c,1]
 | none=>[0,0]
def z0j (n:Nat) (b:Nat->Option Stp):List (List Int):=(List.range n).map fun v=>mbS (b v)
def z0f (n:Nat) (d:Nat->Option Int):List (List Int):=(List.range n).map fun v=>mbI (d v)
def unS (l:List Int):Option Stp:=if l.getD 2 0 = 1 then some ((l.getD 0 0).toNat,decide (l.getD 1 0 = 1)) else none
def bOf (by_:List (List Int)) (v:Nat):Option Stp:=unS (by_.getD v [])
theorem unS_mbS (o:Option Stp):unS (mbS o) = o:=by
 cases o with
 | none=>rfl
 | some s=>obtain ⟨a,k⟩:=s; cases k <;> simp [unS,mbS]
theorem z83 (n:Nat) (b:Nat->Option Stp):(z0j n b).length = n:=by simp [z0j]
theorem z76 (n:Nat) (d:Nat->Option Int):(z0f n d).length = n:=by simp [z0f]
theorem bRow_get {n v:Nat} {b:Nat->Option Stp} {y:List Int} (h:(z0j n b)[v]? = some y):v < n/\y = mbS (b v):=z14 h
theorem z0u {n v:Nat} {d:Nat->Option Int} {y:List Int} (h:(z0f n d)[v]? = some y):v < n/\y = mbI (d v):=z14 h
theorem bOf_row {n v:Nat} (b:Nat->Option Stp) (hv:v < n):bOf (z0j n b) v = b v:=by
 unfold bOf z0j
 rw [List.getD_eq_getElem?_getD,List.getElem?_map,List.getElem?_range hv]
 exact unS_mbS _
theorem z28 (n v:Nat) (b:Nat->Option Stp) (s:Option Stp):(z0j n b).set v (mbS s) = z0j n (fun w=>if w = v then s else b w):=by
 unfold z0j
 rw [z21]
 exact List.map_congr_left fun w _=>by dsimp only; split <;> rfl
theorem z1w (n v:Nat) (d:Nat->Option Int) (c:Option Int):(z0f n d).set v (mbI c) = z0f n (fun w=>if w = v then c else d w):=by
 unfold z0f
 rw [z21]
 exact List.map_congr_left fun w _=>by dsimp only; split <;> rfl
theorem z9i (n:Nat):List.replicate n [0,0,0] = z0j n fun _=>none:=by
 unfold z0j
 apply List.ext_getElem?
 intro i
 by_cases h:i < n <;> simp [h,mbS]
theorem zd7 (n:Nat):List.replicate n [0,0] = z0f n fun _=>none:=by
 unfold z0f
 apply List.ext_getElem?
 intro i
 by_cases h:i < n <;> simp [h,mbI]
theorem zmb {I:Inst} (hr:z02 I = 0) {b b':Nat->Option Stp} (h:∀ v,v < I.sup.length->b v = b' v) (hok:∀ v s,v < I.sup.length->b v = some s->okS I s):∀ (f v:Nat),v < I.sup.length->z1z I b f v = z1z I b' f v/\z18 I b f v = z18 I b' f v
 | 0,v,_=>⟨rfl,rfl⟩
 | f + 1,v,hv=>by
  rw [z1z,z1z,z18,z18,<- h v hv]
  cases hb:b v with
  | none=>exact ⟨rfl,rfl⟩
  | some s =>
   obtain ⟨i1,i2⟩:=zmb hr h hok f (frS I s) (z2b hr (hok v s hv hb))
   dsimp only
   rw [i1,i2]; exact ⟨rfl,rfl⟩
theorem walk_take {I:Inst} {b:Nat->Option Stp}:∀ (j f v:Nat),j <= f->z1z I b j v = (z1z I b f v).take j
 | 0,f,v,_=>rfl
 | j + 1,0,v,h=>by omega
 | j + 1,f + 1,v,h=>by
  rw [z1z,z1z]
  cases b v with
  | none=>rfl
  | some s=>dsimp only; rw [List.take_succ_cons,walk_take j f _ (by omega)]
theorem zle {I:Inst} {b:Nat->Option Stp}:∀ (k v:Nat),z18 I b (k + 1) v = match b (z18 I b k v) with | some s=>frS I s | none=>z18 I b k v
 | 0,v=>by
  rw [z18]
  cases hb:b v with
  | none=>simp [z18,hb]
  | some s=>simp [z18,hb]
 | k + 1,v=>by
  rw [z18]
  cases hb:b v with
  | none=>simp [z18,hb]
  | some s =>
   dsimp only
   rw [zle k (frS I s)]
   simp [z18,hb]
theorem walk_get {I:Inst} {b:Nat->Option Stp}:∀ (k f v:Nat),k < f->∀ s,b (z18 I b k v) = some s->k <= (z1z I b f v).length->(z1z I b f v)[k]? = some s
 | k,0,v,h,_,_,_=>by omega
 | 0,f + 1,v,_,s,hs,_=>by rw [z1z]; simp only [z18] at hs; rw [hs]; rfl
 | k + 1,f + 1,v,h,s,hs,hl=>by
  rw [z1z] at hl ⊢
  rw [z18] at hs
  cases hb:b v with
  | none=>rw [hb] at hl; simp at hl
  | some t =>
   rw [hb] at hs hl
   dsimp only at hs hl ⊢
   rw [List.getElem?_cons_succ]
   exact walk_get k f _ (by omega) s hs (by rw [List.length_cons] at hl; omega)
theorem walk_stop {I:Inst} {b:Nat->Option Stp}:∀ (k f v:Nat),b (z18 I b k v) = none->(z1z I b f v).length <= k
 | k,0,v,_=>Nat.zero_le _
 | 0,f + 1,v,h=>by simp only [z18] at h; rw [z1z,h]; exact Nat.le_refl _
 | k + 1,f + 1,v,h=>by
  rw [z1z]
  rw [z18] at h
  cases hb:b v with
  | none=>exact Nat.zero_le _
  | some t =>
   rw [hb] at h
   dsimp only at h ⊢
   rw [List.length_cons]
   exact Nat.succ_le_succ (walk_stop k f _ h)
theorem zmd {I:Inst} {b:Nat->Option Stp}:∀ (f v:Nat),(z1z I b f v).length <= f
 | 0,v=>Nat.le_refl _
 | f + 1,v=>by
  rw [z1z]
  cases b v with
  | none=>exact Nat.zero_le _
  | some s=>dsimp only; rw [List.length_cons]; exact Nat.succ_le_succ (zmd f _)
theorem root_end {I:Inst} {b:Nat->Option Stp}:∀ (f v:Nat),z18 I b (z1z I b f v).length v = z18 I b f v
 | 0,v=>rfl
 | f + 1,v=>by
  rw [z1z,z18]
  cases hb:b v with
  | none=>rfl
  | some s=>dsimp only; rw [List.length_cons,z18,hb]; exact root_end f _
def YB (x:List Int):Prop:=∀ y ∈ x,-144115188075855872 <= y/\y <= 144115188075855872
theorem YB.at {x:List Int} (h:YB x) (k:Nat):-144115188075855872 <= x.getD k 0/\x.getD k 0 <= 144115188075855872:=by
 rw [List.getD_eq_getElem?_getD]
 cases e:x[k]? with
 | none=>exact ⟨by decide,by decide⟩
 | some u=>exact h u (List.mem_of_getElem? e)
theorem YB.xb {x:List Int} (h:YB x):XB x:=fun y hy=>by have:=h y hy; omega
theorem xb_of {x:List Int} (h:∀ k,k < x.length->-288230376151711744 <= x.getD k 0/\x.getD k 0 <= 288230376151711744):XB x:=fun y hy=>by
 obtain ⟨k,hk⟩:=List.mem_iff_getElem?.1 hy
 have:=h k (List.getElem?_eq_some_iff.1 hk).1
 rwa [List.getD_eq_getElem?_getD,hk] at this
theorem yb_of {x:List Int} (h:∀ k,k < x.length->-144115188075855872 <= x.getD k 0/\x.getD k 0 <= 144115188075855872):YB x:=fun y hy=>by
 obtain ⟨k,hk⟩:=List.mem_iff_getElem?.1 hy
 have:=h k (List.getElem?_eq_some_iff.1 hk).1
 rwa [List.getD_eq_getElem?_getD,hk] at this
def alL (I:Inst) (by_:List (List Int)) (e:Int):List Stp:=z1z I (bOf by_) I.sup.length e.toNat
def alR (I:Inst) (by_:List (List Int)) (e:Int):Nat:=z18 I (bOf by_) I.sup.length e.toNat
def alU0 (I:Inst) (o:List Int) (by_:List (List Int)) (e:Int):Int:=min (o.getD (alR I by_ e) 0) (-(o.getD e.toNat 0))
def alU (I:Inst) (x o:List Int) (by_:List (List Int)) (e:Int):Int:=z7c I x (alU0 I o by_ e) (alL I by_ e)
structure AlOk (I:Inst) (x o:List Int) (by_:List (List Int)) (e:Int):Prop where
 right:z02 I = 0
 lx:x.length = I.arcs.length
 lo:o.length = I.sup.length
 xb:YB x
 ob:YB o
 e0:0 <= e
 e1:e.toNat < I.sup.length
 tree:∃ b ρ,by_ = z0j I.sup.length b/\Tree I b ρ/\∀ v,v < I.sup.length->ρ v < I.sup.length
 pos:0 <= alU I x o by_ e
namespace AlOk
variable {I:Inst} {x o:List Int} {by_:List (List Int)} {e:Int} (h:AlOk I x o by_ e)
include h
theorem tree':∃ ρ,Tree I (bOf by_) ρ/\∀ v,v < I.sup.length->ρ v < I.sup.length:=by
 obtain ⟨b,ρ,rfl,h1,h2⟩:=h.tree
 exact ⟨ρ,fun v s hv hs=>h1 v s hv (by rw [<- bOf_row b hv]; exact hs),h2⟩
theorem stop:bOf by_ (alR I by_ e) = none/\alR I by_ e < I.sup.length:=by
 obtain ⟨ρ,h1,h2⟩:=h.tree'
 obtain ⟨-,-,h3,h4⟩:=zem h.right h1 I.sup.length e.toNat h.e1 (h2 _ h.e1)
 exact ⟨h3,h4⟩
theorem mem:∀ s ∈ alL I by_ e,okS I s:=fun s hs=>by
 obtain ⟨ρ,h1,h2⟩:=h.tree'
 exact (zel h.right h1 _ _ h.e1 s hs).1
theorem ub:alU I x o by_ e <= 144115188075855872:=by
 have h1:=(zma (I:=I) (x:=x) (alL I by_ e) (alU0 I o by_ e)).1
 have h2:=h.ob.at (alR I by_ e)
 unfold alU
 have h3:alU0 I o by_ e <= o.getD (alR I by_ e) 0:=by unfold alU0; omega
 omega
theorem xj (j:Nat):XB (z2r x ((alL I by_ e).take j) (alU I x o by_ e)):=by
 obtain ⟨ρ,h1,h2⟩:=h.tree'
 have hn:=zmc h.right h1 I.sup.length e.toNat h.e1
 have hu:=h.ub
 have hp:=h.pos
 refine xb_of fun k hk=>?_
 have hb:=h.xb.at k
 rw [zdn (by rw [List.map_take]; exact List.Nodup.sublist (List.take_sublist _ _) hn) (fun s hs=>by rw [h.lx]; exact h.mem s (List.mem_of_mem_take hs))]
 repeat' split <;> omega
theorem root_lt (j:Nat):z18 I (bOf by_) j e.toNat < I.sup.length:=by
 obtain ⟨ρ,h1,h2⟩:=h.tree'
 induction j with
 | zero=>exact h.e1
 | succ j ih =>
  rw [zle]
  split
  ·rename_i s hs; exact z2b h.right (h1 _ s ih hs).1
  ·exact ih
theorem oj (j:Nat) (hj:j <= I.sup.length):(z23 I o ((alL I by_ e).take j) (alU I x o by_ e)).length = I.sup.length/\XB (z23 I o ((alL I by_ e).take j) (alU I x o by_ e)):=by
 obtain ⟨ρ,h1,h2⟩:=h.tree'
 have hu:=h.ub
 have hp:=h.pos
 refine ⟨by rw [zfl,h.lo],xb_of fun k hk=>?_⟩
 have hb:=h.ob.at k
 rw [zfl,h.lo] at hk
 have:(alL I by_ e).take j = z1z I (bOf by_) j e.toNat:=(walk_take j _ _ hj).symm
 rw [this,zkp h.right h1 j e.toNat o h.e1 h.lo k hk]
 repeat' split <;> omega
end AlOk
theorem pushXs_snoc (x:List Int) (l:List Stp) (s:Stp) (u:Int):z2r x (l ++ [s]) u = z4t (z2r x l u) s u:=by unfold z2r; rw [List.foldl_append]; rfl
theorem pushOs_snoc (I:Inst) (o:List Int) (l:List Stp) (s:Stp) (u:Int):z23 I o (l ++ [s]) u = z71 I (z23 I o l u) s u:=by unfold z23; rw [List.foldl_append]; rfl
theorem unitsF_snoc (I:Inst) (x:List Int) (u:Int) (l:List Stp) (s:Stp):z7c I x u (l ++ [s]) = min (z7c I x u l) (rmS I x s):=by unfold z7c; rw [List.foldl_append]; rfl
def DB (I:Inst) (d:Nat->Option Int) (q:Nat):Prop:=∀ C:Int,0 <= C->(∀ s,okS I s->-C <= csS I s/\csS I s <= C)->∀ v c,d v = some c->-(C * (q:Int)) <= c/\c <= C * (q:Int)
def SInv (I:Inst) (cnt:Stp->Bool) (start:Nat->Bool) (r:Nat) (done:Stp->Bool) (q:Nat) (d:Nat->Option Int) (b:Nat->Option Stp) (e:Option Nat):Prop :=
 (∃ τ T t,BF I cnt start r done d b e τ T t)/\DB I d q
def allD:Stp->Bool:=fun _=>true
def z1m (a j:Nat) (s:Stp):Bool:=decide (s.1 < a) || (decide (s.1 = a) && decide ((bif s.2 then 1 else 0) < j))
theorem DB.more {I:Inst} {d:Nat->Option Int} {q q':Nat} (h:DB I d q) (hq:q <= q'):DB I d q':=fun C h0 hC v c hc=>by
 have h1:=h C h0 hC v c hc
 have h2:C * (q:Int) <= C * (q':Int):=Int.mul_le_mul_of_nonneg_left (by omega) h0
 omega
theorem DB.big {I:Inst} {d:Nat->Option Int} {q q':Nat} (h:DB I d q) (hr:z02 I = 0) (hq:q <= q'):∀ v c,d v = some c->-(4398046511104 * (q':Int)) <= c/\c <= 4398046511104 * (q':Int) :=
 (h.more hq) 4398046511104 (by omega) (fun s hs=>z8z hr hs)
theorem zau (a:Nat) (k:Bool) (s:Stp):z1m a ((bif k then 1 else 0) + 1) s = (z1m a (bif k then 1 else 0) s || decide (s = (a,k))):=by
 obtain ⟨c,k'⟩:=s
 unfold z1m
 dsimp only
 rw [Bool.eq_iff_iff]
 simp only [Bool.or_eq_true,Bool.and_eq_true,decide_eq_true_eq,Prod.mk.injEq]
 cases k <;> cases k' <;> simp <;> omega
theorem z9n (a:Nat) (s:Stp):z1m a 2 s = z1m (a + 1) 0 s:=by
 obtain ⟨c,k'⟩:=s
 unfold z1m
 dsimp only
 rw [Bool.eq_iff_iff]
 simp only [Bool.or_eq_true,Bool.and_eq_true,decide_eq_true_eq]
 cases k' <;> simp <;> omega
theorem doneJ_zero (s:Stp):z1m 0 0 s = false:=by
 unfold z1m
 simp
theorem doneJ_self (a:Nat) (k:Bool):z1m a (bif k then 1 else 0) (a,k) = false:=by
 unfold z1m
 cases k <;> simp
theorem z4o {I:Inst} {s:Stp} (h:okS I s):z1m I.arcs.length 0 s = true:=by
 unfold z1m okS at *
 simp [h]
theorem SInv.congr {I:Inst} {cnt:Stp->Bool} {start:Nat->Bool} {r:Nat} {done done':Stp->Bool} {q q':Nat} {d:Nat->Option Int} {b:Nat->Option Stp} {e:Option Nat} (h:SInv I cnt start r done q d b e) (hd:∀ s,okS I s->done' s = true->done s = true) (hq:q <= q'):SInv I cnt start r done' q' d b e:=by
 obtain ⟨⟨τ,T,t,h1⟩,h2⟩:=h
 refine ⟨⟨τ,T,t,{ h1 with ok:=fun s a1 a2 u hu a3=>h1.ok s a1 a2 u hu ?_ }⟩,h2.more hq⟩
 cases hs:done' s with
 | true=>rw [hd s a1 hs]; rw [hs] at a3; exact a3
 | false =>
  rw [hs] at a3
  rw [if_neg Bool.false_ne_true] at a3
  split <;> omega
theorem SInv.pass {I:Inst} {cnt:Stp->Bool} {start:Nat->Bool} {r:Nat} {a q:Nat} {k:Bool} {d:Nat->Option Int} {b:Nat->Option Stp} {e:Option Nat} (h:SInv I cnt start r (z1m a (bif k then 1 else 0)) q d b e)
  (hs:cnt (a,k) = true->∀ u,d (frS I (a,k)) = some u->∃ c,d (toS I (a,k)) = some c/\c <= u + csS I (a,k)):SInv I cnt start r (z1m a ((bif k then 1 else 0) + 1)) (q + 1) d b e:=by
 obtain ⟨⟨τ,T,t,h1⟩,h2⟩:=h
 exact ⟨⟨τ,T,t,h1.pass (zau a k) hs⟩,h2.more (Nat.le_succ _)⟩
theorem SInv.take {I:Inst} (hr:z02 I = 0) {cnt:Stp->Bool} {start:Nat->Bool} {r:Nat} {a q:Nat} {k:Bool} {d:Nat->Option Int} {b:Nat->Option Stp} {e:Option Nat} (h:SInv I cnt start r (z1m a (bif k then 1 else 0)) q d b e)
  (h1:1 <= r) (ha:a < I.arcs.length) (hc:cnt (a,k) = true) {u:Int} (hu:d (frS I (a,k)) = some u) (hless:∀ c,d (toS I (a,k)) = some c->u + csS I (a,k) < c) :
  SInv I cnt start r (z1m a ((bif k then 1 else 0) + 1)) (q + 1) (fun v=>if v = toS I (a,k) then some (u + csS I (a,k)) else d v) (fun v=>if v = toS I (a,k) then some (a,k) else b v) (some (toS I (a,k))):=by
 obtain ⟨⟨τ,T,t,h3⟩,h2⟩:=h
 obtain ⟨τ',T',h4⟩:=h3.take hr (zau a k) h1 (show okS I (a,k) from ha) hc (doneJ_self a k) hu hless
 refine ⟨⟨τ',T',t + 1,h4⟩,fun C h0 hC v c hv=>?_⟩
 have hcs:=hC (a,k) ha
 have e:C * ((q + 1:Nat):Int) = C * (q:Int) + C:=by rw [Int.natCast_succ,Int.mul_add,Int.mul_one]
 rw [e]
 dsimp only at hv
 split at hv
 ·cases hv
  have:=h2 C h0 hC _ _ hu
  omega
 ·have:=h2 C h0 hC v c hv; omega
theorem SInv.next {I:Inst} {cnt:Stp->Bool} {start:Nat->Bool} {r q:Nat} {d:Nat->Option Int} {b:Nat->Option Stp} {e:Option Nat} (h:SInv I cnt start r allD q d b e):SInv I cnt start (r + 1) (z1m 0 0) q d b none:=by
 obtain ⟨⟨τ,T,t,h1⟩,h2⟩:=h
 exact ⟨⟨τ,T,t,h1.next (fun _ _=>rfl) doneJ_zero⟩,h2⟩
structure ShortP (I:Inst) (cnt:Stp->Bool) (start:Nat->Bool) (d:Nat->Option Int) (b:Nat->Option Stp) (e:Option Nat):Prop where
 inv:∃ r,SInv I cnt start r allD 32768 d b e/\(e = none->1 <= r ∨ I.sup.length = 0)/\(∀ v,e = some v->r = I.sup.length)
theorem z1r {o:Option Int} (h:(mbI o).tail.headD 0 = 1):∃ c,o = some c:=by
 cases o with
 | none=>simp [mbI] at h
 | some c=>exact ⟨c,rfl⟩
theorem z5t {o:Option Int} (h:¬ (mbI o).tail.headD 0 = 1):o = none:=by
 cases o with
 | none=>rfl
 | some c=>simp [mbI] at h
theorem SInv.begin (I:Inst) (cnt:Stp->Bool) (start:Nat->Bool) {k:Nat} (hk:I.sup.length <= k):SInv I cnt start 0 allD 0 (fun v=>if v < k/\start v = true then some 0 else none) (fun _=>none) none:=by
 refine ⟨⟨_,_,_,BF.zero cnt start allD fun v hv=>?_⟩,fun C h0 hC v c hc=>?_⟩
 ·by_cases hs:start v = true
  ·rw [if_pos ⟨by omega,hs⟩,if_pos hs]
  ·rw [if_neg (fun h=>hs h.2),if_neg hs]
 ·dsimp only at hc
  split at hc
  ·cases hc; simp
  ·cases hc
theorem za1 {r m a n:Nat} (hr:r < n) (hn:n <= 64) (hm:m <= 256) (ha:a <= m):r * (2 * m) + 2 * a <= 32768:=by
 have:r * (2 * m) <= 63 * 512:=Nat.mul_le_mul (by omega) (by omega)
 omega
theorem zhn {r m n:Nat} (hr:r <= n) (hn:n <= 64) (hm:m <= 256):r * (2 * m) <= 32768:=by
 have:r * (2 * m) <= 64 * 512:=Nat.mul_le_mul (by omega) (by omega)
 omega
end Go.Ql
end
section
namespace Go.Proofs.YtggblkbecekbdaaGreat
open Go Go.RowKit Go.Ql Go.Vc
abbrev zec:Nat:=153
def some64_g:z0b:=[]
def z6y:Vc.Spec:=z5x TT some64_g (fun _ _ _=>[]) Tryz.f153
abbrev zgb:Nat:=150
def someS_g:z0b:=[]
def z6a:Vc.Spec:=z5x TT someS_g (fun _ _ _=>[]) Tryz.f150
abbrev zga:Nat:=151
def someI_g:z0b:=[]
def z69:Vc.Spec:=z5x TT someI_g (fun _ _ _=>[]) Tryz.f151
def everyw_r (n:Int):FRes:={ pre:=True,res:=.bool (true),rows:=[],eff:=[] }
def z9p:FS:=fun args h=>match args,h with
 | [.int .i64 n],[]=>some (everyw_r n)
 | _,_=>none
def everyw_an (n:Int):List (Nat × Ann):=[]
def everyw_A:List SV->z0e->List (Nat × Ann):=fun _ _=>[]
def everyw_g:z0b:=[]
abbrev zhd:Nat:=105
def everyw_I (n:Int):List (Nat × z09):=[]
def everyw_IA:List SV->z0e->List (Nat × z09):=fun _ _=>[]
def ends_r (w:Inst) (w_x:List Int) (w_o:List Int) (w_t:Ql.Rows3) (w_v:List Value) (s:Int) (s_b:Bool):FRes:={ pre:=z15 w s,res:=.tup [.int .i64 (frS w (s.toNat,s_b)),.int .i64 (toS w (s.toNat,s_b))],rows:=[],eff:=[] }
def z6i:FS:=fun args h=>match args,h with
 | [.ptr 0 0 0 0,.agg [.int .i64 s,.bool s_b]],[(0,.box false 109 [.row 1,.row 2,.row 3,.row 4,.row 5]),(1,.row false ty1 (.ints .i64 w_s)),(2,.row false ty2 (.arcs w_a)),(3,.row false ty3 (.ints .i64 w_x)),(4,.row false ty4 (.ints .i64 w_o)),(5,.deep false ty5 tz5 (.recs (.int .i64) [.bool] w_t) w_v none)]=>some (ends_r ⟨w_s,w_a⟩ w_x w_o w_t w_v s s_b)
 | _,_=>none
def ends_an (w:Inst) (w_x:List Int) (w_o:List Int) (w_t:Ql.Rows3) (w_v:List Value) (s:Int) (s_b:Bool):List (Nat × Ann):=[]
def ends_A:List SV->z0e->List (Nat × Ann):=fun _ _=>[]
def ends_g:z0b:=[]
abbrev zbj:Nat:=107
def ends_I (w:Inst) (w_x:List Int) (w_o:List Int) (w_t:Ql.Rows3) (w_v:List Value) (s:Int) (s_b:Bool):List (Nat × z09):=[]
def ends_IA:List SV->z0e->List (Nat × z09):=fun _ _=>[]
def cost20_r (w:Inst) (w_x:List Int) (w_o:List Int) (w_t:Ql.Rows3) (w_v:List Value) (s:Int) (s_b:Bool):FRes:={ pre:=z15 w s,res:=.int .i64 (csS w (s.toNat,s_b)),rows:=[],eff:=[] }
def z6g:FS:=fun args h=>match args,h with
 | [.ptr 0 0 0 0,.agg [.int .i64 s,.bool s_b]],[(0,.box false 109 [.row 1,.row 2,.row 3,.row 4,.row 5]),(1,.row false ty1 (.ints .i64 w_s)),(2,.row false ty2 (.arcs w_a)),(3,.row false ty3 (.ints .i64 w_x)),(4,.row false ty4 (.ints .i64 w_o)),(5,.deep false ty5 tz5 (.recs (.int .i64) [.bool] w_t) w_v none)]=>some (cost20_r ⟨w_s,w_a⟩ w_x w_o w_t w_v s s_b)
 | _,_=>none
def cost20_an (w:Inst) (w_x:List Int) (w_o:List Int) (w_t:Ql.Rows3) (w_v:List Value) (s:Int) (s_b:Bool):List (Nat × Ann):=[]
def cost20_A:List SV->z0e->List (Nat × Ann):=fun _ _=>[]
def cost20_g:z0b:=[]
abbrev zat:Nat:=154
def cost20_I (w:Inst) (w_x:List Int) (w_o:List Int) (w_t:Ql.Rows3) (w_v:List Value) (s:Int) (s_b:Bool):List (Nat × z09):=[]
def cost20_IA:List SV->z0e->List (Nat × z09):=fun _ _=>[]
def room20_r (w:Inst) (w_x:List Int) (w_o:List Int) (w_t:Ql.Rows3) (w_v:List Value) (s:Int) (s_b:Bool):FRes:={ pre:=z15 w s/\w_x.length = w.arcs.length/\XB w_x,res:=.int .i64 (rmS w w_x (s.toNat,s_b)),rows:=[],eff:=[] }
def z6p:FS:=fun args h=>match args,h with
 | [.ptr 0 0 0 0,.agg [.int .i64 s,.bool s_b]],[(0,.box false 109 [.row 1,.row 2,.row 3,.row 4,.row 5]),(1,.row false ty1 (.ints .i64 w_s)),(2,.row false ty2 (.arcs w_a)),(3,.row false ty3 (.ints .i64 w_x)),(4,.row false ty4 (.ints .i64 w_o)),(5,.deep false ty5 tz5 (.recs (.int .i64) [.bool] w_t) w_v none)]=>some (room20_r ⟨w_s,w_a⟩ w_x w_o w_t w_v s s_b)
 | _,_=>none
def room20_an (w:Inst) (w_x:List Int) (w_o:List Int) (w_t:Ql.Rows3) (w_v:List Value) (s:Int) (s_b:Bool):List (Nat × Ann):=[]
def room20_A:List SV->z0e->List (Nat × Ann):=fun _ _=>[]
def room20_g:z0b:=[]
abbrev zb5:Nat:=112
def room20_I (w:Inst) (w_x:List Int) (w_o:List Int) (w_t:Ql.Rows3) (w_v:List Value) (s:Int) (s_b:Bool):List (Nat × z09):=[]
def room20_IA:List SV->z0e->List (Nat × z09):=fun _ _=>[]
def endl20_r (w:Inst) (w_x:List Int) (w_o:List Int) (w_t:Ql.Rows3) (w_v:List Value) (s:Int) (s_b:Bool):FRes:={ pre:=z15 w s,res:=.bool (Ql.endS w (s.toNat,s_b)),rows:=[],eff:=[] }
def zd8:FS:=fun args h=>match args,h with
 | [.ptr 0 0 0 0,.agg [.int .i64 s,.bool s_b]],[(0,.box false 109 [.row 1,.row 2,.row 3,.row 4,.row 5]),(1,.row false ty1 (.ints .i64 w_s)),(2,.row false ty2 (.arcs w_a)),(3,.row false ty3 (.ints .i64 w_x)),(4,.row false ty4 (.ints .i64 w_o)),(5,.deep false ty5 tz5 (.recs (.int .i64) [.bool] w_t) w_v none)]=>some (endl20_r ⟨w_s,w_a⟩ w_x w_o w_t w_v s s_b)
 | _,_=>none
def endl20_an (w:Inst) (w_x:List Int) (w_o:List Int) (w_t:Ql.Rows3) (w_v:List Value) (s:Int) (s_b:Bool):List (Nat × Ann):=[]
def endl20_A:List SV->z0e->List (Nat × Ann):=fun _ _=>[]
def endl20_g:z0b:=[]
abbrev endl20_n:Nat:=106
def endl20_I (w:Inst) (w_x:List Int) (w_o:List Int) (w_t:Ql.Rows3) (w_v:List Value) (s:Int) (s_b:Bool):List (Nat × z09):=[]
def endl20_IA:List SV->z0e->List (Nat × z09):=fun _ _=>[]
def zld (s:Int) (s_b:Bool) (w:Inst) (w_x:List Int) (w_o:List Int) (w_t:Ql.Rows3) (w_v:List Value) (w_l:Int):FRes:={ pre:=z15 w s/\w_x.length = w.arcs.length/\XB w_x,res:=.bool (decide (w_l <= rmS w w_x (s.toNat,s_b))),rows:=[],eff:=[] }
def zb6:FS:=fun args h=>match args,h with
 | [.agg [.int .i64 s,.bool s_b],.ptr 0 0 0 0,.ptr 7 0 0 0],[(0,.box false 102 [.ptr 1 0 0 0]),(1,.box false 109 [.row 2,.row 3,.row 4,.row 5,.row 6]),(2,.row false ty2 (.ints .i64 w_s)),(3,.row false ty3 (.arcs w_a)),(4,.row false ty4 (.ints .i64 w_x)),(5,.row false ty5 (.ints .i64 w_o)),(6,.deep false ty6 tz6 (.recs (.int .i64) [.bool] w_t) w_v none),(7,.box false 2 [.int .i64 w_l])]=>some (zld s s_b ⟨w_s,w_a⟩ w_x w_o w_t w_v w_l)
 | _,_=>none
def roomy20_an (s:Int) (s_b:Bool) (w:Inst) (w_x:List Int) (w_o:List Int) (w_t:Ql.Rows3) (w_v:List Value) (w_l:Int):List (Nat × Ann):=[]
def roomy20_A:List SV->z0e->List (Nat × Ann):=fun _ _=>[]
def zlb:z0b:=[(zb5,(true,z04 true z6p))]
abbrev zlc:Nat:=111
def roomy20_I (s:Int) (s_b:Bool) (w:Inst) (w_x:List Int) (w_o:List Int) (w_t:Ql.Rows3) (w_v:List Value) (w_l:Int):List (Nat × z09):=[]
def roomy20_IA:List SV->z0e->List (Nat × z09):=fun _ _=>[]
def posi20_r (s:Int) (s_b:Bool) (w:Inst) (w_x:List Int) (w_o:List Int) (w_t:Ql.Rows3) (w_v:List Value):FRes:={ pre:=z15 w s/\w_x.length = w.arcs.length/\XB w_x,res:=.bool (Ql.endS w (s.toNat,s_b) || decide (0 < rmS w w_x (s.toNat,s_b))),rows:=[],eff:=[] }
def zki:FS:=fun args h=>match args,h with
 | [.agg [.int .i64 s,.bool s_b],.ptr 0 0 0 0],[(0,.box false 102 [.ptr 1 0 0 0]),(1,.box false 109 [.row 2,.row 3,.row 4,.row 5,.row 6]),(2,.row false ty2 (.ints .i64 w_s)),(3,.row false ty3 (.arcs w_a)),(4,.row false ty4 (.ints .i64 w_x)),(5,.row false ty5 (.ints .i64 w_o)),(6,.deep false ty6 tz6 (.recs (.int .i64) [.bool] w_t) w_v none)]=>some (posi20_r s s_b ⟨w_s,w_a⟩ w_x w_o w_t w_v)
 | _,_=>none
def posi20_an (s:Int) (s_b:Bool) (w:Inst) (w_x:List Int) (w_o:List Int) (w_t:Ql.Rows3) (w_v:List Value):List (Nat × Ann):=[]
def posi20_A:List SV->z0e->List (Nat × Ann):=fun _ _=>[]
def posi20_g:z0b:=[(zb5,(true,z04 true z6p)),(endl20_n,(true,z04 true zd8))]
abbrev posi20_n:Nat:=114
def posi20_I (s:Int) (s_b:Bool) (w:Inst) (w_x:List Int) (w_o:List Int) (w_t:Ql.Rows3) (w_v:List Value):List (Nat × z09):=[]
def posi20_IA:List SV->z0e->List (Nat × z09):=fun _ _=>[]
def over20_r (n:Int) (w:Inst) (w_x:List Int) (w_o:List Int) (w_t:Ql.Rows3) (w_v:List Value) (w_l:Int):FRes:={ pre:=0 <= n/\n < w_o.length,res:=.bool (decide (w_l <= w_o.getD n.toNat 0)),rows:=[],eff:=[] }
def zkd:FS:=fun args h=>match args,h with
 | [.int .i64 n,.ptr 0 0 0 0,.ptr 7 0 0 0],[(0,.box false 102 [.ptr 1 0 0 0]),(1,.box false 109 [.row 2,.row 3,.row 4,.row 5,.row 6]),(2,.row false ty2 (.ints .i64 w_s)),(3,.row false ty3 (.arcs w_a)),(4,.row false ty4 (.ints .i64 w_x)),(5,.row false ty5 (.ints .i64 w_o)),(6,.deep false ty6 tz6 (.recs (.int .i64) [.bool] w_t) w_v none),(7,.box false 2 [.int .i64 w_l])]=>some (over20_r n ⟨w_s,w_a⟩ w_x w_o w_t w_v w_l)
 | _,_=>none
def over20_an (n:Int) (w:Inst) (w_x:List Int) (w_o:List Int) (w_t:Ql.Rows3) (w_v:List Value) (w_l:Int):List (Nat × Ann):=[]
def over20_A:List SV->z0e->List (Nat × Ann):=fun _ _=>[]
def over20_g:z0b:=[]
abbrev over20_n:Nat:=155
def over20_I (n:Int) (w:Inst) (w_x:List Int) (w_o:List Int) (w_t:Ql.Rows3) (w_v:List Value) (w_l:Int):List (Nat × z09):=[]
def over20_IA:List SV->z0e->List (Nat × z09):=fun _ _=>[]
def push20_r (w:Inst) (w_x:List Int) (w_o:List Int) (w_t:Ql.Rows3) (w_v:List Value) (s:Int) (s_b:Bool) (n:Int):FRes:={ pre:=z15 w s/\w_x.length = w.arcs.length/\w_o.length = w.sup.length/\XB w_x/\XB w_o/\-1152921504606846976 <= n/\n <= 1152921504606846976,res:=.tup [],rows:=[],eff:=[(0,.box true 109 [.row 1,.row 2,.row 3,.row 4,.row 5]),(3,.row true 2 (.ints .i64 (z4t w_x (s.toNat,s_b) n))),(4,.row true 2 (.ints .i64 (z71 w w_o (s.toNat,s_b) n))),(5,.deep true 149 147 (.recs (.int .i64) [.bool] w_t) w_v none)] }
def za0:FS:=fun args h=>match args,h with
 | [.ptr 0 0 0 0,.agg [.int .i64 s,.bool s_b],.int .i64 n],[(0,.box true 109 [.row 1,.row 2,.row 3,.row 4,.row 5]),(1,.row false ty1 (.ints .i64 w_s)),(2,.row false ty2 (.arcs w_a)),(3,.row true 2 (.ints .i64 w_x)),(4,.row true 2 (.ints .i64 w_o)),(5,.deep true 149 147 (.recs (.int .i64) [.bool] w_t) w_v none)]=>some (push20_r ⟨w_s,w_a⟩ w_x w_o w_t w_v s s_b n)
 | _,_=>none
def push20_an (w:Inst) (w_x:List Int) (w_o:List Int) (w_t:Ql.Rows3) (w_v:List Value) (s:Int) (s_b:Bool) (n:Int):List (Nat × Ann):=[]
def push20_A:List SV->z0e->List (Nat × Ann):=fun _ _=>[]
def push20_g:z0b:=[(zbj,(true,z04 true z6i))]
abbrev zhm:Nat:=98
def push20_I (w:Inst) (w_x:List Int) (w_o:List Int) (w_t:Ql.Rows3) (w_v:List Value) (s:Int) (s_b:Bool) (n:Int):List (Nat × z09):=[]
def push20_IA:List SV->z0e->List (Nat × z09):=fun _ _=>[]
end Go.Proofs.YtggblkbecekbdaaGreat
end
section
namespace Go.Proofs.YtggblkbecekbdaaGreat
open Go Go.RowKit Go.Ql Go.Vc
theorem zed:SpecOk Tryz.prog zec false z6y :=
 zbm z0r (show z1i Tryz.prog some64_g from z05) (by kernel_rfl) mixedOrders Tryz.func153 rfl rfl (by kernel_rfl) _
theorem zef:SpecOk Tryz.prog zgb false z6a :=
 zbm z0r (show z1i Tryz.prog someS_g from z05) (by kernel_rfl) mixedOrders Tryz.func150 rfl rfl (by kernel_rfl) _
theorem zee:SpecOk Tryz.prog zga false z69 :=
 zbm z0r (show z1i Tryz.prog someI_g from z05) (by kernel_rfl) mixedOrders Tryz.func151 rfl rfl (by kernel_rfl) _
def zjd (n : Int) : Prop :=
   (true = true/\True)/\True
theorem everyw_q (n:Int):zjd n = z3a TT everyw_g (everyw_I n) (everyw_an n) Tryz.f105 [.int .i64 n] [] (everyw_r n):=by kernel_rfl
theorem everyw_E (n:Int) (hp:True):FVc TT everyw_g (everyw_I n) (everyw_an n) Tryz.f105 [.int .i64 n] [] (everyw_r n):=by
 refine FVc.of (zjd n) (everyw_q n) ?_
 unfold zjd
 simp only [eq_self,exists_const,forall_const,decide_eq_true_eq,decide_eq_false_iff_not,and_true,true_and,bne_iff_ne,ne_eq,bne_eq_false_iff_eq,Int.toNat_natCast,Bool.not_eq_true',Bool.not_eq_false',beq_iff_eq,beq_eq_false_iff_ne,z08]
theorem zje:SpecOk Tryz.prog zhd true (z04 true z9p) :=
 z0a z0r (show z1i Tryz.prog everyw_g from z05) (by kernel_rfl) mixedOrders Tryz.func105 rfl rfl (by kernel_rfl) (n:=1) (by decide +kernel) (I:=everyw_IA) (fun _ _=>z06) (A:=everyw_A)
  (fun args h r hr=>by
   unfold z9p at hr
   split at hr
   ·rename_i n; cases hr; refine ⟨rfl,fun hp=>?_⟩; have hE:=everyw_E n hp; exact hE
   ·cases hr)
def ends_E0 (w : Inst) (w_x : List Int) (w_o : List Int) (w_t : Ql.Rows3) (w_v : List Value) (s : Int) (s_b : Bool) (ty1 ty2 ty3 ty4 ty5 tz5 : TypeId) : Prop :=
      ((0:Int) <= s/\s < (↑w.arcs.length:Int)) /\
 s.toNat < w.arcs.length /\
 ∀ (x:Arc),
 w.arcs[s.toNat]? = some x ->
 (s_b = true->((x.dst = (↑(frS w (s.toNat,s_b)):Int)/\x.src = (↑(toS w (s.toNat,s_b)):Int)/\True)/\True)/\True) /\
 (s_b = false->((x.src = (↑(frS w (s.toNat,s_b)):Int)/\x.dst = (↑(toS w (s.toNat,s_b)):Int)/\True)/\True)/\True)
theorem ends_q (w:Inst) (w_x:List Int) (w_o:List Int) (w_t:Ql.Rows3) (w_v:List Value) (s:Int) (s_b:Bool) (ty1 ty2 ty3 ty4 ty5 tz5:TypeId):ends_E0 w w_x w_o w_t w_v s s_b ty1 ty2 ty3 ty4 ty5 tz5 = z3a TT ends_g (ends_I w w_x w_o w_t w_v s s_b) (ends_an w w_x w_o w_t w_v s s_b) Tryz.f107 [.ptr 0 0 0 0,.agg [.int .i64 s,.bool s_b]] [(0,.box false 109 [.row 1,.row 2,.row 3,.row 4,.row 5]),(1,.row false ty1 (.ints .i64 w.sup)),(2,.row false ty2 (.arcs w.arcs)),(3,.row false ty3 (.ints .i64 w_x)),(4,.row false ty4 (.ints .i64 w_o)),(5,.deep false ty5 tz5 (.recs (.int .i64) [.bool] w_t) w_v none)] (ends_r w w_x w_o w_t w_v s s_b):=by kernel_rfl
theorem ends_E (w:Inst) (w_x:List Int) (w_o:List Int) (w_t:Ql.Rows3) (w_v:List Value) (s:Int) (s_b:Bool) (ty1 ty2 ty3 ty4 ty5 tz5:TypeId) (hp:z15 w s):FVc TT ends_g (ends_I w w_x w_o w_t w_v s s_b) (ends_an w w_x w_o w_t w_v s s_b) Tryz.f107 [.ptr 0 0 0 0,.agg [.int .i64 s,.bool s_b]] [(0,.box false 109 [.row 1,.row 2,.row 3,.row 4,.row 5]),(1,.row false ty1 (.ints .i64 w.sup)),(2,.row false ty2 (.arcs w.arcs)),(3,.row false ty3 (.ints .i64 w_x)),(4,.row false ty4 (.ints .i64 w_o)),(5,.deep false ty5 tz5 (.recs (.int .i64) [.bool] w_t) w_v none)] (ends_r w w_x w_o w_t w_v s s_b):=by
 refine FVc.of (ends_E0 w w_x w_o w_t w_v s s_b ty1 ty2 ty3 ty4 ty5 tz5) (ends_q w w_x w_o w_t w_v s s_b ty1 ty2 ty3 ty4 ty5 tz5) ?_
 unfold ends_E0
 obtain ⟨hr,h0,h1⟩:=hp
 have ok:=z1l hr (a:=s.toNat) (by omega)
 obtain ⟨k0,k1,k2,k3,k4,k5,k6,k7,k8⟩:=ok
 simp only [eq_self,exists_const,forall_const,decide_eq_true_eq,decide_eq_false_iff_not,and_true,true_and,bne_iff_ne,ne_eq,bne_eq_false_iff_eq,Int.toNat_natCast,Bool.not_eq_true',Bool.not_eq_false',beq_iff_eq,beq_eq_false_iff_ne,z08]
 refine ⟨by omega,by omega,fun a ha=>?_⟩
 rw [z27 ha] at *
 unfold frS toS
 dsimp only
 rw [z27 ha]
 refine ⟨fun h=>?_,fun h=>?_⟩ <;> subst h
 ·simp only [if_true]; omega
 ·simp only [Bool.false_eq_true,if_false]; omega
theorem z8c:SpecOk Tryz.prog zbj true (z04 true z6i) :=
 z0a z0r (show z1i Tryz.prog ends_g from z05) (by kernel_rfl) mixedOrders Tryz.func107 rfl rfl (by kernel_rfl) (n:=2) (by decide +kernel) (I:=ends_IA) (fun _ _=>z06) (A:=ends_A)
  (fun args h r hr=>by
   unfold z6i at hr
   split at hr
   ·rename_i s s_b ty1 w_s ty2 w_a ty3 w_x ty4 w_o ty5 tz5 w_t w_v; cases hr; refine ⟨rfl,fun hp=>?_⟩; have hE:=ends_E ⟨w_s,w_a⟩ w_x w_o w_t w_v s s_b ty1 ty2 ty3 ty4 ty5 tz5 hp; exact hE
   ·cases hr)
def zj6 (w : Inst) (w_x : List Int) (w_o : List Int) (w_t : Ql.Rows3) (w_v : List Value) (s : Int) (s_b : Bool) (ty1 ty2 ty3 ty4 ty5 tz5 : TypeId) : Prop :=
      (s_b = true ->
 ((0:Int) <= s/\s < (↑w.arcs.length:Int)) /\
 s.toNat < w.arcs.length/\∀ (x:Arc),w.arcs[s.toNat]? = some x->(IntKind.i64.wrap ((0:Int) - x.cost) = csS w (s.toNat,s_b)/\True)/\True) /\
 (s_b = false->((0:Int) <= s/\s < (↑w.arcs.length:Int))/\s.toNat < w.arcs.length/\∀ (x:Arc),w.arcs[s.toNat]? = some x->(x.cost = csS w (s.toNat,s_b)/\True)/\True)
theorem cost20_q (w:Inst) (w_x:List Int) (w_o:List Int) (w_t:Ql.Rows3) (w_v:List Value) (s:Int) (s_b:Bool) (ty1 ty2 ty3 ty4 ty5 tz5:TypeId):zj6 w w_x w_o w_t w_v s s_b ty1 ty2 ty3 ty4 ty5 tz5 = z3a TT cost20_g (cost20_I w w_x w_o w_t w_v s s_b) (cost20_an w w_x w_o w_t w_v s s_b) Tryz.f154 [.ptr 0 0 0 0,.agg [.int .i64 s,.bool s_b]] [(0,.box false 109 [.row 1,.row 2,.row 3,.row 4,.row 5]),(1,.row false ty1 (.ints .i64 w.sup)),(2,.row false ty2 (.arcs w.arcs)),(3,.row false ty3 (.ints .i64 w_x)),(4,.row false ty4 (.ints .i64 w_o)),(5,.deep false ty5 tz5 (.recs (.int .i64) [.bool] w_t) w_v none)] (cost20_r w w_x w_o w_t w_v s s_b):=by kernel_rfl
theorem cost20_E (w:Inst) (w_x:List Int) (w_o:List Int) (w_t:Ql.Rows3) (w_v:List Value) (s:Int) (s_b:Bool) (ty1 ty2 ty3 ty4 ty5 tz5:TypeId) (hp:z15 w s):FVc TT cost20_g (cost20_I w w_x w_o w_t w_v s s_b) (cost20_an w w_x w_o w_t w_v s s_b) Tryz.f154 [.ptr 0 0 0 0,.agg [.int .i64 s,.bool s_b]] [(0,.box false 109 [.row 1,.row 2,.row 3,.row 4,.row 5]),(1,.row false ty1 (.ints .i64 w.sup)),(2,.row false ty2 (.arcs w.arcs)),(3,.row false ty3 (.ints .i64 w_x)),(4,.row false ty4 (.ints .i64 w_o)),(5,.deep false ty5 tz5 (.recs (.int .i64) [.bool] w_t) w_v none)] (cost20_r w w_x w_o w_t w_v s s_b):=by
 refine FVc.of (zj6 w w_x w_o w_t w_v s s_b ty1 ty2 ty3 ty4 ty5 tz5) (cost20_q w w_x w_o w_t w_v s s_b ty1 ty2 ty3 ty4 ty5 tz5) ?_
 unfold zj6
 obtain ⟨hr,h0,h1⟩:=hp
 have ok:=z1l hr (a:=s.toNat) (by omega)
 obtain ⟨k0,k1,k2,k3,k4,k5,k6,k7,k8⟩:=ok
 simp only [eq_self,exists_const,forall_const,decide_eq_true_eq,decide_eq_false_iff_not,and_true,true_and,bne_iff_ne,ne_eq,bne_eq_false_iff_eq,Int.toNat_natCast,Bool.not_eq_true',Bool.not_eq_false',beq_iff_eq,beq_eq_false_iff_ne,z08]
 unfold csS
 dsimp only
 refine ⟨fun h=>⟨by omega,by omega,fun a ha=>?_⟩,fun h=>⟨by omega,by omega,fun a ha=>?_⟩⟩ <;> rw [z27 ha] at * <;> subst h
 ·simp only [if_true]; rw [w64 (by omega) (by omega)]; omega
 ·simp only [Bool.false_eq_true,if_false]
theorem z9m:SpecOk Tryz.prog zat true (z04 true z6g) :=
 z0a z0r (show z1i Tryz.prog cost20_g from z05) (by kernel_rfl) mixedOrders Tryz.func154 rfl rfl (by kernel_rfl) (n:=2) (by decide +kernel) (I:=cost20_IA) (fun _ _=>z06) (A:=cost20_A)
  (fun args h r hr=>by
   unfold z6g at hr
   split at hr
   ·rename_i s s_b ty1 w_s ty2 w_a ty3 w_x ty4 w_o ty5 tz5 w_t w_v; cases hr; refine ⟨rfl,fun hp=>?_⟩; have hE:=cost20_E ⟨w_s,w_a⟩ w_x w_o w_t w_v s s_b ty1 ty2 ty3 ty4 ty5 tz5 hp; exact hE
   ·cases hr)
def zla (w : Inst) (w_x : List Int) (w_o : List Int) (w_t : Ql.Rows3) (w_v : List Value) (s : Int) (s_b : Bool) (ty1 ty2 ty3 ty4 ty5 tz5 : TypeId) : Prop :=
      ((0:Int) <= s/\s < (↑w.arcs.length:Int)) /\
 s.toNat < w.arcs.length /\
 ∀ (x:Arc),
 w.arcs[s.toNat]? = some x ->
 (s_b = true ->
 ((0:Int) <= s/\s < (↑w_x.length:Int)) /\
 s.toNat < w_x.length/\∀ (x_1:Int),w_x[s.toNat]? = some x_1->(IntKind.i64.wrap (x_1 - x.low) = rmS w w_x (s.toNat,s_b)/\True)/\True) /\
 (s_b = false ->
 ((x.cap == (4611686018427387904:Int)) = true->((1152921504606846976:Int) = rmS w w_x (s.toNat,s_b)/\True)/\True) /\
 ((x.cap == (4611686018427387904:Int)) = false ->
 ((0:Int) <= s/\s < (↑w_x.length:Int)) /\
 s.toNat < w_x.length/\∀ (x_1:Int),w_x[s.toNat]? = some x_1->(IntKind.i64.wrap (x.cap - x_1) = rmS w w_x (s.toNat,s_b)/\True)/\True))
theorem room20_q (w:Inst) (w_x:List Int) (w_o:List Int) (w_t:Ql.Rows3) (w_v:List Value) (s:Int) (s_b:Bool) (ty1 ty2 ty3 ty4 ty5 tz5:TypeId):zla w w_x w_o w_t w_v s s_b ty1 ty2 ty3 ty4 ty5 tz5 = z3a TT room20_g (room20_I w w_x w_o w_t w_v s s_b) (room20_an w w_x w_o w_t w_v s s_b) Tryz.f112 [.ptr 0 0 0 0,.agg [.int .i64 s,.bool s_b]] [(0,.box false 109 [.row 1,.row 2,.row 3,.row 4,.row 5]),(1,.row false ty1 (.ints .i64 w.sup)),(2,.row false ty2 (.arcs w.arcs)),(3,.row false ty3 (.ints .i64 w_x)),(4,.row false ty4 (.ints .i64 w_o)),(5,.deep false ty5 tz5 (.recs (.int .i64) [.bool] w_t) w_v none)] (room20_r w w_x w_o w_t w_v s s_b):=by kernel_rfl
theorem room20_E (w:Inst) (w_x:List Int) (w_o:List Int) (w_t:Ql.Rows3) (w_v:List Value) (s:Int) (s_b:Bool) (ty1 ty2 ty3 ty4 ty5 tz5:TypeId) (hp:z15 w s/\w_x.length = w.arcs.length/\XB w_x):FVc TT room20_g (room20_I w w_x w_o w_t w_v s s_b) (room20_an w w_x w_o w_t w_v s s_b) Tryz.f112 [.ptr 0 0 0 0,.agg [.int .i64 s,.bool s_b]] [(0,.box false 109 [.row 1,.row 2,.row 3,.row 4,.row 5]),(1,.row false ty1 (.ints .i64 w.sup)),(2,.row false ty2 (.arcs w.arcs)),(3,.row false ty3 (.ints .i64 w_x)),(4,.row false ty4 (.ints .i64 w_o)),(5,.deep false ty5 tz5 (.recs (.int .i64) [.bool] w_t) w_v none)] (room20_r w w_x w_o w_t w_v s s_b):=by
 refine FVc.of (zla w w_x w_o w_t w_v s s_b ty1 ty2 ty3 ty4 ty5 tz5) (room20_q w w_x w_o w_t w_v s s_b ty1 ty2 ty3 ty4 ty5 tz5) ?_
 unfold zla
 obtain ⟨hp,hl,hx⟩:=hp
 obtain ⟨hr,h0,h1⟩:=hp
 have ok:=z1l hr (a:=s.toNat) (by omega)
 obtain ⟨k0,k1,k2,k3,k4,k5,k6,k7,k8⟩:=ok
 simp only [eq_self,exists_const,forall_const,decide_eq_true_eq,decide_eq_false_iff_not,and_true,true_and,bne_iff_ne,ne_eq,bne_eq_false_iff_eq,Int.toNat_natCast,Bool.not_eq_true',Bool.not_eq_false',beq_iff_eq,beq_eq_false_iff_ne,z08]
 have hb:=hx.at s.toNat
 unfold rmS
 dsimp only
 refine ⟨by omega,by omega,fun a ha=>?_⟩
 rw [z27 ha] at *
 refine ⟨fun h=>?_,fun h=>?_⟩ <;> subst h
 ·refine ⟨by omega,by omega,fun y hy=>?_⟩
  have:w_x.getD s.toNat 0 = y:=by rw [List.getD_eq_getElem?_getD,hy]; rfl
  rw [this] at hb ⊢
  simp only [if_true]
  exact w64 (by omega) (by omega)
 ·simp only [Bool.false_eq_true,if_false]
  refine ⟨fun hc=>?_,fun hc=>⟨by omega,by omega,fun y hy=>?_⟩⟩
  ·rw [if_pos (show a.cap = inf from hc)]
  ·have:w_x.getD s.toNat 0 = y:=by rw [List.getD_eq_getElem?_getD,hy]; rfl
   rw [this] at hb ⊢
   rw [if_neg (show ¬ a.cap = inf from hc)]
   have:=k6.resolve_left hc
   exact w64 (by omega) (by omega)
theorem za6:SpecOk Tryz.prog zb5 true (z04 true z6p) :=
 z0a z0r (show z1i Tryz.prog room20_g from z05) (by kernel_rfl) mixedOrders Tryz.func112 rfl rfl (by kernel_rfl) (n:=2) (by decide +kernel) (I:=room20_IA) (fun _ _=>z06) (A:=room20_A)
  (fun args h r hr=>by
   unfold z6p at hr
   split at hr
   ·rename_i s s_b ty1 w_s ty2 w_a ty3 w_x ty4 w_o ty5 tz5 w_t w_v; cases hr; refine ⟨rfl,fun hp=>?_⟩; have hE:=room20_E ⟨w_s,w_a⟩ w_x w_o w_t w_v s s_b ty1 ty2 ty3 ty4 ty5 tz5 hp; exact hE
   ·cases hr)
def zjb (w : Inst) (w_x : List Int) (w_o : List Int) (w_t : Ql.Rows3) (w_v : List Value) (s : Int) (s_b : Bool) (ty1 ty2 ty3 ty4 ty5 tz5 : TypeId) : Prop :=
      ((!s_b) = true ->
 ((0:Int) <= s/\s < (↑w.arcs.length:Int)) /\
 s.toNat < w.arcs.length/\∀ (x:Arc),w.arcs[s.toNat]? = some x->((x.cap == (4611686018427387904:Int)) = Ql.endS w (s.toNat,s_b)/\True)/\True) /\
 ((!s_b) = false->(false = Ql.endS w (s.toNat,s_b)/\True)/\True)
theorem endl20_q (w:Inst) (w_x:List Int) (w_o:List Int) (w_t:Ql.Rows3) (w_v:List Value) (s:Int) (s_b:Bool) (ty1 ty2 ty3 ty4 ty5 tz5:TypeId):zjb w w_x w_o w_t w_v s s_b ty1 ty2 ty3 ty4 ty5 tz5 = z3a TT endl20_g (endl20_I w w_x w_o w_t w_v s s_b) (endl20_an w w_x w_o w_t w_v s s_b) Tryz.f106 [.ptr 0 0 0 0,.agg [.int .i64 s,.bool s_b]] [(0,.box false 109 [.row 1,.row 2,.row 3,.row 4,.row 5]),(1,.row false ty1 (.ints .i64 w.sup)),(2,.row false ty2 (.arcs w.arcs)),(3,.row false ty3 (.ints .i64 w_x)),(4,.row false ty4 (.ints .i64 w_o)),(5,.deep false ty5 tz5 (.recs (.int .i64) [.bool] w_t) w_v none)] (endl20_r w w_x w_o w_t w_v s s_b):=by kernel_rfl
theorem endl20_E (w:Inst) (w_x:List Int) (w_o:List Int) (w_t:Ql.Rows3) (w_v:List Value) (s:Int) (s_b:Bool) (ty1 ty2 ty3 ty4 ty5 tz5:TypeId) (hp:z15 w s):FVc TT endl20_g (endl20_I w w_x w_o w_t w_v s s_b) (endl20_an w w_x w_o w_t w_v s s_b) Tryz.f106 [.ptr 0 0 0 0,.agg [.int .i64 s,.bool s_b]] [(0,.box false 109 [.row 1,.row 2,.row 3,.row 4,.row 5]),(1,.row false ty1 (.ints .i64 w.sup)),(2,.row false ty2 (.arcs w.arcs)),(3,.row false ty3 (.ints .i64 w_x)),(4,.row false ty4 (.ints .i64 w_o)),(5,.deep false ty5 tz5 (.recs (.int .i64) [.bool] w_t) w_v none)] (endl20_r w w_x w_o w_t w_v s s_b):=by
 refine FVc.of (zjb w w_x w_o w_t w_v s s_b ty1 ty2 ty3 ty4 ty5 tz5) (endl20_q w w_x w_o w_t w_v s s_b ty1 ty2 ty3 ty4 ty5 tz5) ?_
 unfold zjb
 obtain ⟨hr,h0,h1⟩:=hp
 have ok:=z1l hr (a:=s.toNat) (by omega)
 obtain ⟨k0,k1,k2,k3,k4,k5,k6,k7,k8⟩:=ok
 simp only [eq_self,exists_const,forall_const,decide_eq_true_eq,decide_eq_false_iff_not,and_true,true_and,bne_iff_ne,ne_eq,bne_eq_false_iff_eq,Int.toNat_natCast,Bool.not_eq_true',Bool.not_eq_false',beq_iff_eq,beq_eq_false_iff_ne,z08]
 unfold Ql.endS
 dsimp only
 refine ⟨fun h=>⟨by omega,by omega,fun a ha=>?_⟩,fun h=>by rw [h]; rfl⟩
 rw [h,z27 ha,Bool.not_false,Bool.true_and]
 by_cases e:a.cap = 4611686018427387904
 ·rw [e]; rfl
 ·rw [beq_eq_false_iff_ne.2 e,decide_eq_false (show ¬ a.cap = inf from e)]
theorem endl20_ok:SpecOk Tryz.prog endl20_n true (z04 true zd8) :=
 z0a z0r (show z1i Tryz.prog endl20_g from z05) (by kernel_rfl) mixedOrders Tryz.func106 rfl rfl (by kernel_rfl) (n:=2) (by decide +kernel) (I:=endl20_IA) (fun _ _=>z06) (A:=endl20_A)
  (fun args h r hr=>by
   unfold zd8 at hr
   split at hr
   ·rename_i s s_b ty1 w_s ty2 w_a ty3 w_x ty4 w_o ty5 tz5 w_t w_v; cases hr; refine ⟨rfl,fun hp=>?_⟩; have hE:=endl20_E ⟨w_s,w_a⟩ w_x w_o w_t w_v s s_b ty1 ty2 ty3 ty4 ty5 tz5 hp; exact hE
   ·cases hr)
def zfz (s : Int) (s_b : Bool) (w : Inst) (w_x : List Int) (w_o : List Int) (w_t : Ql.Rows3) (w_v : List Value) (w_l : Int) (ty2 ty3 ty4 ty5 ty6 tz6 : TypeId) : Prop :=
   (z15 w s/\w_x.length = w.arcs.length/\XB w_x)/\(decide (rmS w w_x (s.toNat,s_b) ≥ w_l) = decide (w_l <= rmS w w_x (s.toNat,s_b))/\True)/\True
theorem roomy20_q (s:Int) (s_b:Bool) (w:Inst) (w_x:List Int) (w_o:List Int) (w_t:Ql.Rows3) (w_v:List Value) (w_l:Int) (ty2 ty3 ty4 ty5 ty6 tz6:TypeId):zfz s s_b w w_x w_o w_t w_v w_l ty2 ty3 ty4 ty5 ty6 tz6 = z3a TT zlb (roomy20_I s s_b w w_x w_o w_t w_v w_l) (roomy20_an s s_b w w_x w_o w_t w_v w_l) Tryz.f111 [.agg [.int .i64 s,.bool s_b],.ptr 0 0 0 0,.ptr 7 0 0 0] [(0,.box false 102 [.ptr 1 0 0 0]),(1,.box false 109 [.row 2,.row 3,.row 4,.row 5,.row 6]),(2,.row false ty2 (.ints .i64 w.sup)),(3,.row false ty3 (.arcs w.arcs)),(4,.row false ty4 (.ints .i64 w_x)),(5,.row false ty5 (.ints .i64 w_o)),(6,.deep false ty6 tz6 (.recs (.int .i64) [.bool] w_t) w_v none),(7,.box false 2 [.int .i64 w_l])] (zld s s_b w w_x w_o w_t w_v w_l):=by kernel_rfl
theorem roomy20_E (s:Int) (s_b:Bool) (w:Inst) (w_x:List Int) (w_o:List Int) (w_t:Ql.Rows3) (w_v:List Value) (w_l:Int) (ty2 ty3 ty4 ty5 ty6 tz6:TypeId) (hp:z15 w s/\w_x.length = w.arcs.length/\XB w_x):FVc TT zlb (roomy20_I s s_b w w_x w_o w_t w_v w_l) (roomy20_an s s_b w w_x w_o w_t w_v w_l) Tryz.f111 [.agg [.int .i64 s,.bool s_b],.ptr 0 0 0 0,.ptr 7 0 0 0] [(0,.box false 102 [.ptr 1 0 0 0]),(1,.box false 109 [.row 2,.row 3,.row 4,.row 5,.row 6]),(2,.row false ty2 (.ints .i64 w.sup)),(3,.row false ty3 (.arcs w.arcs)),(4,.row false ty4 (.ints .i64 w_x)),(5,.row false ty5 (.ints .i64 w_o)),(6,.deep false ty6 tz6 (.recs (.int .i64) [.bool] w_t) w_v none),(7,.box false 2 [.int .i64 w_l])] (zld s s_b w w_x w_o w_t w_v w_l):=by
 refine FVc.of (zfz s s_b w w_x w_o w_t w_v w_l ty2 ty3 ty4 ty5 ty6 tz6) (roomy20_q s s_b w w_x w_o w_t w_v w_l ty2 ty3 ty4 ty5 ty6 tz6) ?_
 unfold zfz
 simp only [eq_self,exists_const,forall_const,decide_eq_true_eq,decide_eq_false_iff_not,and_true,true_and,bne_iff_ne,ne_eq,bne_eq_false_iff_eq,Int.toNat_natCast,Bool.not_eq_true',Bool.not_eq_false',beq_iff_eq,beq_eq_false_iff_ne,z08]
 exact hp
theorem roomy20_ok:SpecOk Tryz.prog zlc true (z04 true zb6) :=
 z0a z0r (show z1i Tryz.prog zlb from z01 za6 (z05)) (by kernel_rfl) mixedOrders Tryz.func111 rfl rfl (by kernel_rfl) (n:=3) (by decide +kernel) (I:=roomy20_IA) (fun _ _=>z06) (A:=roomy20_A)
  (fun args h r hr=>by
   unfold zb6 at hr
   split at hr
   ·rename_i s s_b ty2 w_s ty3 w_a ty4 w_x ty5 w_o ty6 tz6 w_t w_v w_l; cases hr; refine ⟨rfl,fun hp=>?_⟩; have hE:=roomy20_E s s_b ⟨w_s,w_a⟩ w_x w_o w_t w_v w_l ty2 ty3 ty4 ty5 ty6 tz6 hp; exact hE
   ·cases hr)
def zkh (s : Int) (s_b : Bool) (w : Inst) (w_x : List Int) (w_o : List Int) (w_t : Ql.Rows3) (w_v : List Value) (ty2 ty3 ty4 ty5 ty6 tz6 : TypeId) : Prop :=
      z15 w s /\
 (Ql.endS w (s.toNat,s_b) = true->(true = (Ql.endS w (s.toNat,s_b) || decide ((0:Int) < rmS w w_x (s.toNat,s_b)))/\True)/\True) /\
 (Ql.endS w (s.toNat,s_b) = false ->
 (z15 w s/\w_x.length = w.arcs.length/\XB w_x) /\
 (decide (rmS w w_x (s.toNat,s_b) > (0:Int)) = (Ql.endS w (s.toNat,s_b) || decide ((0:Int) < rmS w w_x (s.toNat,s_b)))/\True)/\True)
theorem posi20_q (s:Int) (s_b:Bool) (w:Inst) (w_x:List Int) (w_o:List Int) (w_t:Ql.Rows3) (w_v:List Value) (ty2 ty3 ty4 ty5 ty6 tz6:TypeId):zkh s s_b w w_x w_o w_t w_v ty2 ty3 ty4 ty5 ty6 tz6 = z3a TT posi20_g (posi20_I s s_b w w_x w_o w_t w_v) (posi20_an s s_b w w_x w_o w_t w_v) Tryz.f114 [.agg [.int .i64 s,.bool s_b],.ptr 0 0 0 0] [(0,.box false 102 [.ptr 1 0 0 0]),(1,.box false 109 [.row 2,.row 3,.row 4,.row 5,.row 6]),(2,.row false ty2 (.ints .i64 w.sup)),(3,.row false ty3 (.arcs w.arcs)),(4,.row false ty4 (.ints .i64 w_x)),(5,.row false ty5 (.ints .i64 w_o)),(6,.deep false ty6 tz6 (.recs (.int .i64) [.bool] w_t) w_v none)] (posi20_r s s_b w w_x w_o w_t w_v):=by kernel_rfl
theorem posi20_E (s:Int) (s_b:Bool) (w:Inst) (w_x:List Int) (w_o:List Int) (w_t:Ql.Rows3) (w_v:List Value) (ty2 ty3 ty4 ty5 ty6 tz6:TypeId) (hp:z15 w s/\w_x.length = w.arcs.length/\XB w_x):FVc TT posi20_g (posi20_I s s_b w w_x w_o w_t w_v) (posi20_an s s_b w w_x w_o w_t w_v) Tryz.f114 [.agg [.int .i64 s,.bool s_b],.ptr 0 0 0 0] [(0,.box false 102 [.ptr 1 0 0 0]),(1,.box false 109 [.row 2,.row 3,.row 4,.row 5,.row 6]),(2,.row false ty2 (.ints .i64 w.sup)),(3,.row false ty3 (.arcs w.arcs)),(4,.row false ty4 (.ints .i64 w_x)),(5,.row false ty5 (.ints .i64 w_o)),(6,.deep false ty6 tz6 (.recs (.int .i64) [.bool] w_t) w_v none)] (posi20_r s s_b w w_x w_o w_t w_v):=by
 refine FVc.of (zkh s s_b w w_x w_o w_t w_v ty2 ty3 ty4 ty5 ty6 tz6) (posi20_q s s_b w w_x w_o w_t w_v ty2 ty3 ty4 ty5 ty6 tz6) ?_
 unfold zkh
 simp only [eq_self,exists_const,forall_const,decide_eq_true_eq,decide_eq_false_iff_not,and_true,true_and,bne_iff_ne,ne_eq,bne_eq_false_iff_eq,Int.toNat_natCast,Bool.not_eq_true',Bool.not_eq_false',beq_iff_eq,beq_eq_false_iff_ne,z08]
 refine ⟨hp.1,fun h=>by rw [h]; rfl,fun h=>⟨hp,by rw [h,Bool.false_or]⟩⟩
theorem posi20_ok:SpecOk Tryz.prog posi20_n true (z04 true zki) :=
 z0a z0r (show z1i Tryz.prog posi20_g from z01 za6 (z01 endl20_ok (z05))) (by kernel_rfl) mixedOrders Tryz.func114 rfl rfl (by kernel_rfl) (n:=2) (by decide +kernel) (I:=posi20_IA) (fun _ _=>z06) (A:=posi20_A)
  (fun args h r hr=>by
   unfold zki at hr
   split at hr
   ·rename_i s s_b ty2 w_s ty3 w_a ty4 w_x ty5 w_o ty6 tz6 w_t w_v; cases hr; refine ⟨rfl,fun hp=>?_⟩; have hE:=posi20_E s s_b ⟨w_s,w_a⟩ w_x w_o w_t w_v ty2 ty3 ty4 ty5 ty6 tz6 hp; exact hE
   ·cases hr)
def zkc (n : Int) (w : Inst) (w_x : List Int) (w_o : List Int) (w_t : Ql.Rows3) (w_v : List Value) (w_l : Int) (ty2 ty3 ty4 ty5 ty6 tz6 : TypeId) : Prop :=
      ((0:Int) <= n/\n < (↑w_o.length:Int)) /\
 n.toNat < w_o.length/\∀ (x:Int),w_o[n.toNat]? = some x->(decide (x ≥ w_l) = decide (w_l <= w_o.getD n.toNat (0:Int))/\True)/\True
theorem over20_q (n:Int) (w:Inst) (w_x:List Int) (w_o:List Int) (w_t:Ql.Rows3) (w_v:List Value) (w_l:Int) (ty2 ty3 ty4 ty5 ty6 tz6:TypeId):zkc n w w_x w_o w_t w_v w_l ty2 ty3 ty4 ty5 ty6 tz6 = z3a TT over20_g (over20_I n w w_x w_o w_t w_v w_l) (over20_an n w w_x w_o w_t w_v w_l) Tryz.f155 [.int .i64 n,.ptr 0 0 0 0,.ptr 7 0 0 0] [(0,.box false 102 [.ptr 1 0 0 0]),(1,.box false 109 [.row 2,.row 3,.row 4,.row 5,.row 6]),(2,.row false ty2 (.ints .i64 w.sup)),(3,.row false ty3 (.arcs w.arcs)),(4,.row false ty4 (.ints .i64 w_x)),(5,.row false ty5 (.ints .i64 w_o)),(6,.deep false ty6 tz6 (.recs (.int .i64) [.bool] w_t) w_v none),(7,.box false 2 [.int .i64 w_l])] (over20_r n w w_x w_o w_t w_v w_l):=by kernel_rfl
theorem over20_E (n:Int) (w:Inst) (w_x:List Int) (w_o:List Int) (w_t:Ql.Rows3) (w_v:List Value) (w_l:Int) (ty2 ty3 ty4 ty5 ty6 tz6:TypeId) (hp:0 <= n/\n < w_o.length):FVc TT over20_g (over20_I n w w_x w_o w_t w_v w_l) (over20_an n w w_x w_o w_t w_v w_l) Tryz.f155 [.int .i64 n,.ptr 0 0 0 0,.ptr 7 0 0 0] [(0,.box false 102 [.ptr 1 0 0 0]),(1,.box false 109 [.row 2,.row 3,.row 4,.row 5,.row 6]),(2,.row false ty2 (.ints .i64 w.sup)),(3,.row false ty3 (.arcs w.arcs)),(4,.row false ty4 (.ints .i64 w_x)),(5,.row false ty5 (.ints .i64 w_o)),(6,.deep false ty6 tz6 (.recs (.int .i64) [.bool] w_t) w_v none),(7,.box false 2 [.int .i64 w_l])] (over20_r n w w_x w_o w_t w_v w_l):=by
 refine FVc.of (zkc n w w_x w_o w_t w_v w_l ty2 ty3 ty4 ty5 ty6 tz6) (over20_q n w w_x w_o w_t w_v w_l ty2 ty3 ty4 ty5 ty6 tz6) ?_
 unfold zkc
 simp only [eq_self,exists_const,forall_const,decide_eq_true_eq,decide_eq_false_iff_not,and_true,true_and,bne_iff_ne,ne_eq,bne_eq_false_iff_eq,Int.toNat_natCast,Bool.not_eq_true',Bool.not_eq_false',beq_iff_eq,beq_eq_false_iff_ne,z08]
 refine ⟨hp,by omega,fun x hx=>?_⟩
 rw [show w_o.getD n.toNat 0 = x by rw [List.getD_eq_getElem?_getD,hx]; rfl]
theorem over20_ok:SpecOk Tryz.prog over20_n true (z04 true zkd) :=
 z0a z0r (show z1i Tryz.prog over20_g from z05) (by kernel_rfl) mixedOrders Tryz.func155 rfl rfl (by kernel_rfl) (n:=3) (by decide +kernel) (I:=over20_IA) (fun _ _=>z06) (A:=over20_A)
  (fun args h r hr=>by
   unfold zkd at hr
   split at hr
   ·rename_i n ty2 w_s ty3 w_a ty4 w_x ty5 w_o ty6 tz6 w_t w_v w_l; cases hr; refine ⟨rfl,fun hp=>?_⟩; have hE:=over20_E n ⟨w_s,w_a⟩ w_x w_o w_t w_v w_l ty2 ty3 ty4 ty5 ty6 tz6 hp; exact hE
   ·cases hr)
abbrev z45 (w_o:List Int) (w:Inst) (s:Int) (s_b:Bool) (x_1:Int) (n:Int):=(w_o.set (↑(frS w (s.toNat,s_b)):Int).toNat (IntKind.i64.wrap (x_1 - n)))
abbrev z9y (w:Inst) (s:Int) (s_b:Bool) (w_o:List Int) (x_1:Int) (n:Int):=((0:Int) <= ↑(toS w (s.toNat,s_b))/\((↑(toS w (s.toNat,s_b)):Int) < ↑(z45 w_o w s s_b x_1 n).length))
abbrev z9z (w:Inst) (s:Int) (s_b:Bool) (w_o:List Int):=((0:Int) <= ↑(frS w (s.toNat,s_b))/\((↑(frS w (s.toNat,s_b)):Int) < ↑w_o.length))
def zkm (w : Inst) (w_x : List Int) (w_o : List Int) (w_t : Ql.Rows3) (w_v : List Value) (s : Int) (s_b : Bool) (n : Int) (ty1 ty2 : TypeId) : Prop :=
   z15 w s/\(s_b = true->((0:Int) <= s/\(s < (↑w_x.length:Int)))/\(s.toNat < w_x.length/\(∀ (x:Int),w_x[s.toNat]? = some x->((0:Int) <= s/\(s < (↑w_x.length:Int)))/\(s.toNat < w_x.length/\((z9z w s s_b w_o)/\((↑(frS w (s.toNat,s_b)):Int).toNat < w_o.length/\(∀ (x_1:Int),w_o[(↑(frS w (s.toNat,s_b)):Int).toNat]? = some x_1->(z9z w s s_b w_o)/\((↑(frS w (s.toNat,s_b)):Int).toNat < w_o.length/\((z9y w s s_b w_o x_1 n)/\((↑(toS w (s.toNat,s_b)):Int).toNat < (z45 w_o w s s_b x_1 n).length/\(∀ (x_2:Int),(z45 w_o w s s_b x_1 n)[(↑(toS w (s.toNat,s_b)):Int).toNat]? = some x_2->(z9y w s s_b w_o x_1 n)/\((↑(toS w (s.toNat,s_b)):Int).toNat < (z45 w_o w s s_b x_1 n).length/\((True/\True)/\((True/\(True/\(True/\(True/\(True/\True)))))/\(w_x.set s.toNat (IntKind.i64.wrap (x - n)) = z4t w_x (s.toNat,s_b) n/\((z45 w_o w s s_b x_1 n).set (↑(toS w (s.toNat,s_b)):Int).toNat (IntKind.i64.wrap (x_2 + n)) = z71 w w_o (s.toNat,s_b) n/\((w_t = w_t/\(w_v = w_v/\((none:Option Nat) = none)))/\True)))))))))))))))))/\(s_b = false->((0:Int) <= s/\(s < (↑w_x.length:Int)))/\(s.toNat < w_x.length/\(∀ (x:Int),w_x[s.toNat]? = some x->((0:Int) <= s/\(s < (↑w_x.length:Int)))/\(s.toNat < w_x.length/\((z9z w s s_b w_o)/\((↑(frS w (s.toNat,s_b)):Int).toNat < w_o.length/\(∀ (x_1:Int),w_o[(↑(frS w (s.toNat,s_b)):Int).toNat]? = some x_1->(z9z w s s_b w_o)/\((↑(frS w (s.toNat,s_b)):Int).toNat < w_o.length/\((z9y w s s_b w_o x_1 n)/\((↑(toS w (s.toNat,s_b)):Int).toNat < (z45 w_o w s s_b x_1 n).length/\(∀ (x_2:Int),(z45 w_o w s s_b x_1 n)[(↑(toS w (s.toNat,s_b)):Int).toNat]? = some x_2->(z9y w s s_b w_o x_1 n)/\((↑(toS w (s.toNat,s_b)):Int).toNat < (z45 w_o w s s_b x_1 n).length/\((True/\True)/\((True/\(True/\(True/\(True/\(True/\True)))))/\(w_x.set s.toNat (IntKind.i64.wrap (x + n)) = z4t w_x (s.toNat,s_b) n/\((z45 w_o w s s_b x_1 n).set (↑(toS w (s.toNat,s_b)):Int).toNat (IntKind.i64.wrap (x_2 + n)) = z71 w w_o (s.toNat,s_b) n/\((w_t = w_t/\(w_v = w_v/\((none:Option Nat) = none)))/\True)))))))))))))))))
theorem push20_q (w:Inst) (w_x:List Int) (w_o:List Int) (w_t:Ql.Rows3) (w_v:List Value) (s:Int) (s_b:Bool) (n:Int) (ty1 ty2:TypeId):zkm w w_x w_o w_t w_v s s_b n ty1 ty2 = z3a TT push20_g (push20_I w w_x w_o w_t w_v s s_b n) (push20_an w w_x w_o w_t w_v s s_b n) Tryz.f98 [.ptr 0 0 0 0,.agg [.int .i64 s,.bool s_b],.int .i64 n] [(0,.box true 109 [.row 1,.row 2,.row 3,.row 4,.row 5]),(1,.row false ty1 (.ints .i64 w.sup)),(2,.row false ty2 (.arcs w.arcs)),(3,.row true 2 (.ints .i64 w_x)),(4,.row true 2 (.ints .i64 w_o)),(5,.deep true 149 147 (.recs (.int .i64) [.bool] w_t) w_v none)] (push20_r w w_x w_o w_t w_v s s_b n):=by kernel_rfl
theorem push20_E (w:Inst) (w_x:List Int) (w_o:List Int) (w_t:Ql.Rows3) (w_v:List Value) (s:Int) (s_b:Bool) (n:Int) (ty1 ty2:TypeId) (hp:z15 w s/\w_x.length = w.arcs.length/\w_o.length = w.sup.length/\XB w_x/\XB w_o/\-1152921504606846976 <= n/\n <= 1152921504606846976):FVc TT push20_g (push20_I w w_x w_o w_t w_v s s_b n) (push20_an w w_x w_o w_t w_v s s_b n) Tryz.f98 [.ptr 0 0 0 0,.agg [.int .i64 s,.bool s_b],.int .i64 n] [(0,.box true 109 [.row 1,.row 2,.row 3,.row 4,.row 5]),(1,.row false ty1 (.ints .i64 w.sup)),(2,.row false ty2 (.arcs w.arcs)),(3,.row true 2 (.ints .i64 w_x)),(4,.row true 2 (.ints .i64 w_o)),(5,.deep true 149 147 (.recs (.int .i64) [.bool] w_t) w_v none)] (push20_r w w_x w_o w_t w_v s s_b n):=by
 refine FVc.of (zkm w w_x w_o w_t w_v s s_b n ty1 ty2) (push20_q w w_x w_o w_t w_v s s_b n ty1 ty2) ?_
 unfold zkm
 delta z9z z9y z45
 obtain ⟨hs,hl,ho,hx,hov,n0,n1⟩:=hp
 have hok:okS w (s.toNat,s_b):=by have:=hs.2; unfold okS; dsimp only; omega
 have f1:=z2b hs.1 hok
 have t1:=z47 hs.1 hok
 have hs2:=hs.2
 have key:=@push_is w w_x w_o (s.toNat,s_b) n hs.1 hok hl ho hx hov n0 n1
 simp only [eq_self,exists_const,forall_const,decide_eq_true_eq,decide_eq_false_iff_not,and_true,true_and,bne_iff_ne,ne_eq,bne_eq_false_iff_eq,Int.toNat_natCast,Bool.not_eq_true',Bool.not_eq_false',beq_iff_eq,beq_eq_false_iff_ne,z08]
 simp only [List.length_set]
 refine ⟨hs,fun h=>⟨by omega,by omega,fun y hy=>⟨by omega,by omega,by omega,by omega,fun u hu=>⟨by omega,by omega,by omega,by omega,fun z hz=>?_⟩⟩⟩,fun h=>⟨by omega,by omega,fun y hy=>⟨by omega,by omega,by omega,by omega,fun u hu=>⟨by omega,by omega,by omega,by omega,fun z hz=>?_⟩⟩⟩⟩
 all_goals
  obtain ⟨q1,q2,q3⟩:=key hy hu hz
  repeat' first | omega | exact q1 h | exact q2 h | exact q3 | refine And.intro ?_ ?_ | trivial
theorem zkn:SpecOk Tryz.prog zhm false (z04 false za0) :=
 z0a z0r (show z1i Tryz.prog push20_g from z01 z8c (z05)) (by kernel_rfl) mixedOrders Tryz.func98 rfl rfl (by kernel_rfl) (n:=3) (by decide +kernel) (I:=push20_IA) (fun _ _=>z06) (A:=push20_A)
  (fun args h r hr=>by
   unfold za0 at hr
   split at hr
   ·rename_i s s_b n ty1 w_s ty2 w_a w_x w_o w_t w_v; cases hr; refine ⟨rfl,fun hp=>?_⟩; have hE:=push20_E ⟨w_s,w_a⟩ w_x w_o w_t w_v s s_b n ty1 ty2 hp; exact hE
   ·cases hr)
end Go.Proofs.YtggblkbecekbdaaGreat
end
