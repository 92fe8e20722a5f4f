/- Part of the proof: Law11, FP11, DQ11, FQ11, Ray, DR12, FR12, DS12, FS12, Trim, Law03, Trim2, Law15, Odd, TrimL, Cert, DK13. -/
import Derived.Test.YtapeenpimcffpaaGreatZG7
import Derived.Test.YtapeenpimcffpaaGreatZG5
import Derived.Test.YtapeenpimcffpaaGreatZG6
import Derived.Test.YtapeenpimcffpaaGreatZG1
set_option linter.all false
set_option linter.unusedSimpArgs false
set_option linter.unusedVariables false
set_option maxRecDepth 1000000
section
namespace Go.Ql
open Go Go.RowKit Go.Vc
theorem sgn_neg {r:Int} (h:zb1 r):sgn r < 0 ↔ r < 0:=by
 unfold sgn
 rw [zbd h (by unfold zb1; omega)]
 split
 ·omega
 ·split <;> omega
theorem sgn_pos {r:Int} (h:zb1 r):0 < sgn r ↔ 0 < r:=by
 unfold sgn
 rw [zbd h (by unfold zb1; omega)]
 split
 ·omega
 ·split <;> omega
def potK (l:List Arc) (x pot:List Int):Nat->Int
 | 0=>0
 | k + 1=>potK l x pot k + x.getD k 0 * (potR pot (l.getD k default).src - potR pot (l.getD k default).dst)
theorem sumTo_at {s f:Int} (P:Nat->Int) (h0:0 <= s) (n:Nat) (hn:s < n):z1i (fun v=>(if s = (v:Int) then f else 0) * P v) n = f * P s.toNat:=by
 rw [z14 (g:=fun v=>if s = (v:Int) then f * P s.toNat else 0) (fun v hv=>by
  by_cases e:s = (v:Int)
  ·have:s.toNat = v:=by omega
   rw [if_pos e,if_pos e,this]
  ·rw [if_neg e,if_neg e,Int.zero_mul]),za2 h0,if_pos hn]
theorem flowD_pot {n:Nat} {a:Arc} (pot:List Int) (f:Int) (ho:z39 n a = true):z1i (fun v:Nat=>z57 n a f v * pot.getD v 0) n = f * (potR pot a.src - potR pot a.dst):=by
 obtain ⟨o1,o2,o3,o4⟩:=okArc_iff.1 ho
 rw [z14 (g:=fun v:Nat=>(if a.src = (v:Int) then f else 0) * pot.getD v 0 - (if a.dst = (v:Int) then f else 0) * pot.getD v 0) (fun v _=>by
  simp only [z57,ho,if_true,Int.sub_mul]),za3,sumTo_at (fun v=>pot.getD v 0) o1 n o2,sumTo_at (fun v=>pot.getD v 0) o3 n o4]
 simp only [potR,o1,o3,if_true,Int.mul_sub]
theorem net_pot {n:Nat} {l:List Arc} (x pot:List Int) (ho:∀ a ∈ l,z39 n a = true):∀ k,k <= l.length->z1i (fun v:Nat=>z73 n l x k v * pot.getD v 0) n = potK l x pot k
 | 0,_=>by
  simp only [z73,potK]
  rw [z14 (g:=fun _=>0) (fun v _=>by simp),z5c]
 | k + 1,h=>by
  have hm:l.getD k default ∈ l:=by rw [List.getD_eq_getElem?_getD,List.getElem?_eq_getElem (show k < l.length by omega)]; exact List.getElem_mem _
  simp only [potK]
  rw [<- net_pot x pot ho k (by omega),<- flowD_pot pot (x.getD k 0) (ho _ hm),<- za1]
  refine z14 fun v _=>?_
  simp only [z73,Int.add_mul]
theorem boundS_sum (l pot:List Int):∀ k,boundS l pot k = z1i (fun v=>l.getD v 0 * pot.getD v 0) k
 | 0=>rfl
 | k + 1=>by simp only [boundS,z1i,boundS_sum l pot k]
theorem z6p (n:Int) (pot:List Int):∀ (l r:List Arc) (s:Int),z2w n pot (l ++ r) s = (z2w n pot l s).bind (z2w n pot r)
 | [],r,s=>by simp [z2w]
 | a :: l,r,s=>by
  simp only [List.cons_append,z2w]
  split
  ·split
   ·split
    ·rfl
    ·exact z6p n pot l r _
   ·exact z6p n pot l r _
  ·exact z6p n pot l r _
def zdw (l:List Arc) (x pot:List Int) (j:Nat):Bool:=z5l (redP pot (l.getD j default)) (x.getD j 0) (l.getD j default)
theorem step_gap {a:Arc} {x r:Int} (hr:zb1 r) (hf:fitF a x = true) :
  (sgn r < 0->a.cap = inf->z5l r x a = false)/\(sgn r < 0->a.cap ≠ inf->0 <= (x - a.cap) * r/\((x - a.cap) * r = 0 ↔ z5l r x a = true))/\(¬ sgn r < 0->0 <= (x - a.low) * r/\((x - a.low) * r = 0 ↔ z5l r x a = true)):=by
 have hn:=sgn_neg hr
 have hp:=sgn_pos hr
 unfold fitF at hf
 simp only [Bool.and_eq_true,Bool.or_eq_true,decide_eq_true_eq] at hf
 refine ⟨fun h1 h2=>?_,fun h1 h2=>?_,fun h1=>?_⟩
 ·simp [z5l,h1,h2]
 ·have h3:r < 0:=hn.1 h1
  have h4:x <= a.cap:=by rcases hf.2 with h | h; exact absurd h h2; exact h
  have h5:¬ 0 < sgn r:=by omega
  refine ⟨Int.mul_nonneg_of_nonpos_of_nonpos (by omega) (by omega),?_⟩
  rw [Int.mul_eq_zero]
  simp only [z5l,h1,h2,h5,decide_true,decide_false,Bool.false_and,Bool.false_or,Bool.true_and,Bool.or_false,Bool.not_eq_true',decide_eq_false_iff_not,ne_eq,Decidable.not_not]
  omega
 ·have h3:0 <= r:=by omega
  refine ⟨Int.mul_nonneg (by omega) h3,?_⟩
  rw [Int.mul_eq_zero]
  by_cases h4:0 < sgn r
  ·have h5:=hp.1 h4
   simp only [z5l,h1,h4,decide_true,decide_false,Bool.false_and,Bool.or_false,Bool.true_and,Bool.not_eq_true',decide_eq_false_iff_not,ne_eq,Decidable.not_not]
   omega
  ·have h5:r = 0:=by omega
   subst h5; simp [z5l,sgn_zero]
theorem gap {n:Nat} {l:List Arc} {x pot:List Int} (s:Int) (ho:∀ a ∈ l,z39 n a = true) (hr:∀ a ∈ l,zb1 (redP pot a)) (hf:∀ j a,l[j]? = some a->fitF a (x.getD j 0) = true):∀ k,k <= l.length ->
  (z2w n pot (l.take k) s = none->∃ j,j < k/\zdw l x pot j = false)/\∀ t,z2w n pot (l.take k) s = some t->0 <= zf5 l x k - potK l x pot k - (t - s)/\(zf5 l x k - potK l x pot k - (t - s) = 0 ↔ ∀ j,j < k->zdw l x pot j = true)
 | 0,_=>by
  refine ⟨fun h=>?_,fun t h=>?_⟩
  ·simp [z2w] at h
  ·simp only [List.take_zero,z2w,Option.some.injEq] at h
   subst h
   simp [zf5,potK]
 | k + 1,h=>by
  have ih:=gap s ho hr hf k (by omega)
  have hk:l[k]? = some (l[k]'(by omega)):=List.getElem?_eq_getElem (by omega)
  generalize l[k]'(by omega) = a at hk
  have hd:l.getD k default = a:=by simp [List.getD,hk]
  have hm:=List.mem_of_getElem? hk
  have hg:=step_gap (hr a hm) (hf k a hk)
  have hoa:=ho a hm
  have hsj:zdw l x pot k = z5l (redP pot a) (x.getD k 0) a:=by unfold zdw; rw [hd]
  have hall:(∀ j,j < k + 1->zdw l x pot j = true) ↔ (∀ j,j < k->zdw l x pot j = true)/\z5l (redP pot a) (x.getD k 0) a = true:=by
   rw [<- hsj]
   constructor
   ·exact fun h=>⟨fun j hj=>h j (by omega),h k (by omega)⟩
   ·intro h j hj
    by_cases e:j = k
    ·subst e; exact h.2
    ·exact h.1 j (by omega)
  rw [z1c hk,z6p]
  cases hb:z2w n pot (l.take k) s with
  | none =>
   refine ⟨fun _=>?_,fun t h=>by simp at h⟩
   obtain ⟨j,hj,hj2⟩:=ih.1 hb
   exact ⟨j,by omega,hj2⟩
  | some u =>
   have ih2:=ih.2 u hb
   simp only [Option.bind_some,z2w,hoa,if_true]
   have hc:zf5 l x (k + 1) - potK l x pot (k + 1) = zf5 l x k - potK l x pot k + x.getD k 0 * redP pot a:=by
    simp only [zf5,potK,hd,redP,redA,Int.mul_sub,Int.mul_add]
    rw [Int.mul_comm a.cost]
    omega
   rw [hall,hc]
   by_cases hs:sgn (redP pot a) < 0
   ·by_cases hi:a.cap = inf
    ·simp only [hs,hi,if_true]
     exact ⟨fun _=>⟨k,by omega,by rw [hsj]; exact hg.1 hs hi⟩,fun t h=>by simp at h⟩
    ·simp only [hs,hi,if_true,if_false]
     refine ⟨fun h=>by simp at h,fun t h=>?_⟩
     simp only [Option.some.injEq] at h
     subst h
     have h2:=hg.2.1 hs hi
     rw [Int.sub_mul] at h2
     rw [<- ih2.2,<- h2.2]
     omega
   ·simp only [hs,if_false]
    refine ⟨fun h=>by simp at h,fun t h=>?_⟩
    simp only [Option.some.injEq] at h
    subst h
    have h2:=hg.2.2 hs
    rw [Int.sub_mul] at h2
    rw [<- ih2.2,<- h2.2]
    omega
theorem redF_at {I:Inst} {pot:List Int} {k:Nat} {a:Arc} (h:I.arcs[k]? = some a) (ho:z39 I.sup.length a = true):redF I pot k = redP pot a:=by
 have hg:gOk I.sup.length I.arcs (k:Int) = true:=by rw [zgp (by omega) (by rw [Int.toNat_natCast]; exact h)]; exact ho
 obtain ⟨o1,o2,o3,o4⟩:=okArc_iff.1 ho
 unfold redF atF atT redP potR
 rw [if_pos hg,if_pos hg,if_pos hg,atA_get h ho,if_pos o1,if_pos o3]
theorem zln {I:Inst} {x pot:List Int} (hl:I.arcs.length <= 1000) (hx:A64 x) (hs:Within 4398046511104 I.sup) (hp:A64 pot) (hlp:pot.length = I.sup.length) (h:z19 I x = 0) :
  (boundF I pot = none->z15 I x pot = 33)/\∀ t,boundF I pot = some t->t <= costF I x/\(t = costF I x ↔ z15 I x pot = 0):=by
 have hz:=fitsF_zero.1 h
 have ho:∀ a ∈ I.arcs,z39 I.sup.length a = true:=fun a ha=>(z1b hz.1 ha).1
 have hP:∀ v,I64 (potR pot v):=fun v=>by
  unfold potR
  split
  ·exact hp.getD _
  ·simp [I64]
 have hr:∀ a ∈ I.arcs,zb1 (redP pot a):=fun a ha=>by
  have h1:=(z1b hz.1 ha).2.2
  have h2:=hP a.src
  have h3:=hP a.dst
  unfold redP redA
  unfold I64 at h2 h3
  unfold zb1
  omega
 have hg:=gap (n:=I.sup.length) (l:=I.arcs) (x:=x) (pot:=pot) (boundS I.sup pot I.sup.length) ho hr (fitsAll_iff.1 hz.2.2.1) I.arcs.length (Nat.le_refl _)
 rw [List.take_length] at hg
 have hn:boundS I.sup pot I.sup.length = potK I.arcs x pot I.arcs.length:=by
  rw [boundS_sum,<- net_pot x pot ho I.arcs.length (Nat.le_refl _)]
  refine z14 fun v hv=>?_
  rw [fits_net hl hx hs h v hv]
 have hsl:∀ k,k < I.arcs.length->z4g I x pot k = zdw I.arcs x pot k:=fun k hk=>by
  have hget:I.arcs[k]? = some (I.arcs[k]):=List.getElem?_eq_getElem hk
  have hd:I.arcs.getD k default = I.arcs[k]:=by simp [List.getD,hget]
  unfold z4g zdw
  rw [redF_at hget (ho _ (List.getElem_mem hk)),hd]
 have hF:z15 I x pot = if (List.range I.arcs.length).all (z4g I x pot) then 0 else 33:=by
  unfold z15
  rw [if_neg (by omega),if_neg (by omega)]
 refine ⟨fun hb=>?_,fun t hb=>?_⟩
 ·obtain ⟨j,hj,hj2⟩:=hg.1 hb
  rw [hF,if_neg]
  intro hall
  have:=List.all_eq_true.1 hall j (List.mem_range.2 hj)
  rw [hsl j hj,hj2] at this
  cases this
 ·have h2:=hg.2 t hb
  rw [hn] at h2
  unfold costF
  have h3:(t = zf5 I.arcs x I.arcs.length) ↔ ∀ j,j < I.arcs.length->zdw I.arcs x pot j = true:=by
   rw [<- h2.2]; omega
  refine ⟨by omega,?_⟩
  rw [h3,hF]
  constructor
  ·intro h4
   rw [if_pos (List.all_eq_true.2 fun j hj=>by have hj:=List.mem_range.1 hj; rw [hsl j hj]; exact h4 j hj)]
  ·intro h4 j hj
   split at h4
   ·rename_i h5
    rw [<- hsl j hj]
    exact List.all_eq_true.1 h5 j (List.mem_range.2 hj)
   ·omega
theorem zk6 {l:List Arc} {x:List Int} {C X:Int} (hC:0 <= C) (hX:0 <= X) (hl:∀ a ∈ l,-C <= a.cost/\a.cost <= C) (hx:∀ k,-X <= x.getD k 0/\x.getD k 0 <= X):∀ k:Nat,k <= l.length->-(C * X * k) <= zf5 l x k/\zf5 l x k <= C * X * k
 | 0,_=>by simp [zf5]
 | k + 1,h=>by
  have ih:=zk6 hC hX hl hx k (by omega)
  have hm:l.getD k default ∈ l:=by rw [List.getD_eq_getElem?_getD,List.getElem?_eq_getElem (show k < l.length by omega)]; exact List.getElem_mem _
  have h1:=hl _ hm
  have h2:=hx k
  have hm:=mul_bound (a:=(l.getD k default).cost) (b:=x.getD k 0) h1.1 h1.2 h2.1 h2.2 hC hX
  rw [zf5,Int.natCast_succ,Int.mul_add,Int.mul_one]
  omega
theorem z0c {I:Inst} (h:z04 I = 0):I.sup.length <= 64/\I.arcs.length <= 256:=by
 unfold z04 at h
 split at h
 ·omega
 ·omega
theorem supErr_in:∀ (l:List Int) (s:Int),z33 l s = 0->Within 4398046511104 l/\s + l.sum = 0
 | [],s,h=>by
  unfold z33 at h
  split at h
  ·rename_i e; exact ⟨fun x hx=>(by cases hx),by simpa using e⟩
  ·omega
 | x :: l,s,h=>by
  unfold z33 at h
  split at h
  ·omega
  ·have ih:=supErr_in l (s + x) h
   refine ⟨fun y hy=>?_,by rw [List.sum_cons]; omega⟩
   rcases List.mem_cons.1 hy with rfl | hy
   ·omega
   ·exact ih.1 y hy
theorem z1j {I:Inst} (h:z04 I = 0):Within 4398046511104 I.sup/\I.sup.sum = 0:=by
 unfold z04 at h
 split at h
 ·omega
 ·split at h
  ·have:=supErr_in _ _ h
   exact ⟨this.1,by omega⟩
  ·omega
theorem A64.at {l:List Int} (h:A64 l) (k:Nat):-9223372036854775808 <= l.getD k 0/\l.getD k 0 <= 9223372036854775808:=by
 have:=h.getD k
 unfold I64 at this
 omega
theorem z78 {I:Inst} {x:List Int} (h:z04 I = 0) (hx:A64 x):zb1 (costF I x):=by
 have hl:=z0c h
 have:=zk6 (C:=4398046511104) (X:=9223372036854775808) (by omega) (by omega) (fun a ha=>(z1b h ha).2.2) (fun k=>hx.at k) I.arcs.length (Nat.le_refl _)
 unfold costF zb1
 omega
theorem slack_best {I:Inst} {x y pot:List Int} (hx:A64 x) (hy:A64 y) (hp:A64 pot) (hs:z15 I y pot = 0) (hf:z19 I x = 0):wcmp (W (costF I y)) (W (costF I x)) <= 0:=by
 have hfy:z19 I y = 0:=by
  unfold z15 at hs
  split at hs
  ·omega
  ·rename_i h; omega
 have hlp:pot.length = I.sup.length:=by
  unfold z15 at hs
  split at hs
  ·omega
  ·split at hs
   ·omega
   ·rename_i h; omega
 have hr:=(fitsF_zero.1 hfy).1
 have hl:=z0c hr
 have hw:=(z1j hr).1
 have h1:=zln (by omega) hy hw hp hlp hfy
 have h2:=zln (by omega) hx hw hp hlp hf
 cases hb:boundF I pot with
 | none=>have:=h1.1 hb; omega
 | some t =>
  have e1:=(h1.2 t hb).2.2 hs
  have e2:=(h2.2 t hb).1
  rw [zbd (z78 hr hy) (z78 hr hx)]
  split
  ·omega
  ·split <;> omega
theorem zg7 (P:Nat->Int) {m:Nat}:∀ t,t <= m->0 < m->z1i (fun k=>P ((k + 1) % m) - P k) t = P (t % m) - P 0
 | 0,_,_=>by simp [z1i]
 | t + 1,h,h0=>by
  rw [z1i,zg7 P t (by omega) h0,Nat.mod_eq_of_lt (show t < m by omega)]
  omega
end Go.Ql
end
section
namespace Go.Proofs.YtapeenpimcffpaaGreat
open Go Go.RowKit Go.Ql Go.Vc
def of11_E0 (pot : List Int) (n : Int) (ty0 : TypeId) : Prop :=
      (decide (n ≥ (↑pot.length:Int)) = true->((0:Int) = pot.getD n.toNat (0:Int)/\True)/\True) /\
 (decide (n ≥ (↑pot.length:Int)) = false ->
 ((0:Int) <= n/\n < (↑pot.length:Int))/\n.toNat < pot.length/\∀ (x:Int),pot[n.toNat]? = some x->(x = pot.getD n.toNat (0:Int)/\True)/\True)
theorem of11_q (pot:List Int) (n:Int) (ty0:TypeId):of11_E0 pot n ty0 = z2e TT of11_g (of11_I pot n) (of11_an pot n) Tryz.f172 [.row 0,.int .i64 n] [(0,.row false ty0 (.ints .i64 pot))] (of11_r pot n):=by kernel_rfl
theorem of11_E (pot:List Int) (n:Int) (ty0:TypeId) (hp:0 <= n):FVc TT of11_g (of11_I pot n) (of11_an pot n) Tryz.f172 [.row 0,.int .i64 n] [(0,.row false ty0 (.ints .i64 pot))] (of11_r pot n):=by
 refine FVc.of (of11_E0 pot n ty0) (of11_q pot n ty0) ?_
 unfold of11_E0
 simp only [eq_self,exists_const,forall_const,decide_eq_true_eq,decide_eq_false_iff_not,and_true,true_and,bne_iff_ne,ne_eq,bne_eq_false_iff_eq,Int.toNat_natCast,Bool.not_eq_true',Bool.not_eq_false',beq_iff_eq,beq_eq_false_iff_ne,z06]
 refine ⟨fun h=>?_,fun h=>⟨by omega,by omega,fun x hx=>?_⟩⟩
 ·simp [List.getD,List.getElem?_eq_none (show pot.length <= n.toNat by omega)]
 ·simp [List.getD,hx]
theorem of11_ok:SpecOk Tryz.prog of11_n true (z02 true of11_fs) :=
 z0a z0j (show z18 Tryz.prog of11_g from z05) (by kernel_rfl) mixedOrders Tryz.func172 rfl rfl (by kernel_rfl) (n:=2) (by decide +kernel) (I:=of11_IA) (fun _ _=>z07) (A:=of11_A)
  (fun args h r hr=>by
   unfold of11_fs at hr
   split at hr
   ·rename_i n ty0 pot; cases hr; refine ⟨rfl,fun hp=>?_⟩; have hE:=of11_E pot n ty0 hp; exact hE
   ·cases hr)
def zfx (p : Arc) (pf : Int) (pt : Int) : Prop :=
      I64 p.cost /\
 I64 pf /\
 ((W p.cost).ok/\(W pf).ok) /\
 I64 pt /\
 ((z8t (W p.cost) (W pf)).ok/\(W pt).ok) /\
 (((z8x (z8t (W p.cost) (W pf)) (W pt)).hi = (W (redA p pf pt)).hi/\(z8x (z8t (W p.cost) (W pf)) (W pt)).lo = (W (redA p pf pt)).lo/\True)/\True)/\True
theorem reduced_q (p:Arc) (pf:Int) (pt:Int):zfx p pf pt = z2e TT zlv (reduced_I p pf pt) (reduced_an p pf pt) Tryz.f158 [.agg [.int .i64 p.src,.int .i64 p.dst,.int .i64 p.low,.int .i64 p.cap,.int .i64 p.cost,.int .i64 pf,.int .i64 pt]] [] (zlw p pf pt):=by kernel_rfl
theorem reduced_E (p:Arc) (pf:Int) (pt:Int) (hp:I64 p.cost/\I64 pf/\I64 pt):FVc TT zlv (reduced_I p pf pt) (reduced_an p pf pt) Tryz.f158 [.agg [.int .i64 p.src,.int .i64 p.dst,.int .i64 p.low,.int .i64 p.cap,.int .i64 p.cost,.int .i64 pf,.int .i64 pt]] [] (zlw p pf pt):=by
 refine FVc.of (zfx p pf pt) (reduced_q p pf pt) ?_
 unfold zfx
 obtain ⟨p1,p2,p3⟩:=hp
 simp only [eq_self,exists_const,forall_const,decide_eq_true_eq,decide_eq_false_iff_not,and_true,true_and,bne_iff_ne,ne_eq,bne_eq_false_iff_eq,Int.toNat_natCast,Bool.not_eq_true',Bool.not_eq_false',beq_iff_eq,beq_eq_false_iff_ne,z06]
 simp [p1,p2,p3,W_ok,redA]
theorem reduced_ok:SpecOk Tryz.prog reduced_n true (z02 true zfy) :=
 z0a z0j (show z18 Tryz.prog zlv from z00 zej (z00 Minus_ok (z00 zij (z05)))) (by kernel_rfl) mixedOrders Tryz.func158 rfl rfl (by kernel_rfl) (n:=1) (by decide +kernel) (I:=reduced_IA) (fun _ _=>z07) (A:=reduced_A)
  (fun args h r hr=>by
   unfold zfy at hr
   split at hr
   ·rename_i p_0 p_1 p_2 p_3 p_4 pf pt; cases hr; refine ⟨rfl,fun hp=>?_⟩; have hE:=reduced_E ⟨p_0,p_1,p_2,p_3,p_4⟩ pf pt hp; exact hE
   ·cases hr)
def sign_E0 (p : Arc) (pf : Int) (pt : Int) : Prop :=
   (I64 p.cost/\I64 pf/\I64 pt)/\I64 (0:Int)/\((W (redA p pf pt)).ok/\(W (0:Int)).ok)/\(wcmp (W (redA p pf pt)) (W (0:Int)) = sgn (redA p pf pt)/\True)/\True
theorem sign_q (p:Arc) (pf:Int) (pt:Int):sign_E0 p pf pt = z2e TT sign_g (sign_I p pf pt) (sign_an p pf pt) Tryz.f144 [.agg [.int .i64 p.src,.int .i64 p.dst,.int .i64 p.low,.int .i64 p.cap,.int .i64 p.cost,.int .i64 pf,.int .i64 pt]] [] (sign_r p pf pt):=by kernel_rfl
theorem sign_E (p:Arc) (pf:Int) (pt:Int) (hp:I64 p.cost/\I64 pf/\I64 pt):FVc TT sign_g (sign_I p pf pt) (sign_an p pf pt) Tryz.f144 [.agg [.int .i64 p.src,.int .i64 p.dst,.int .i64 p.low,.int .i64 p.cap,.int .i64 p.cost,.int .i64 pf,.int .i64 pt]] [] (sign_r p pf pt):=by
 refine FVc.of (sign_E0 p pf pt) (sign_q p pf pt) ?_
 unfold sign_E0
 obtain ⟨p1,p2,p3⟩:=hp
 have i0:I64 0:=by simp [I64]
 simp only [eq_self,exists_const,forall_const,decide_eq_true_eq,decide_eq_false_iff_not,and_true,true_and,bne_iff_ne,ne_eq,bne_eq_false_iff_eq,Int.toNat_natCast,Bool.not_eq_true',Bool.not_eq_false',beq_iff_eq,beq_eq_false_iff_ne,z06]
 simp [p1,p2,p3,W_ok,i0,sgn]
theorem sign_ok:SpecOk Tryz.prog sign_n true (z02 true sign_fs) :=
 z0a z0j (show z18 Tryz.prog sign_g from z00 zeb (z00 reduced_ok (z00 zij (z05)))) (by kernel_rfl) mixedOrders Tryz.func144 rfl rfl (by kernel_rfl) (n:=1) (by decide +kernel) (I:=sign_IA) (fun _ _=>z07) (A:=sign_A)
  (fun args h r hr=>by
   unfold sign_fs at hr
   split at hr
   ·rename_i p_0 p_1 p_2 p_3 p_4 pf pt; cases hr; refine ⟨rfl,fun hp=>?_⟩; have hE:=sign_E ⟨p_0,p_1,p_2,p_3,p_4⟩ pf pt hp; exact hE
   ·cases hr)
theorem at_ok {I:Inst} {pot:List Int} {a:Int} (h1:A64 pot) (h2:A64c I.arcs):I64 (atA I a).cost/\I64 (atF I pot a)/\I64 (atT I pot a):=by
 have z:I64 0:=by simp [I64]
 refine ⟨?_,?_,?_⟩
 ·unfold atA z6m
  split
  ·rename_i h
   unfold gOk at h
   simp only [Bool.and_eq_true,decide_eq_true_eq] at h
   have hl:a.toNat < I.arcs.length:=by omega
   rw [List.getD_eq_getElem?_getD,List.getElem?_eq_getElem hl]
   exact h2 _ (List.getElem_mem hl)
  ·exact z
 ·unfold atF
  split
  ·exact h1.getD _
  ·exact z
 ·unfold atT
  split
  ·exact h1.getD _
  ·exact z
def at11_E0 (I : Inst) (pot : List Int) (a : Int) (ty0 ty1 ty2 : TypeId) : Prop :=
      (decide (a < (0:Int)) = true ->
 ((((0:Int) = (atA I a).src /\
 (0:Int) = (atA I a).dst /\
 (0:Int) = (atA I a).low/\(0:Int) = (atA I a).cap/\(0:Int) = (atA I a).cost/\(0:Int) = atF I pot a/\(0:Int) = atT I pot a/\True) /\
 false = gOk (↑I.sup.length:Int) I.arcs a/\True) /\
 True) /\
 True) /\
 (decide (a < (0:Int)) = false ->
 (decide (a ≥ (↑I.arcs.length:Int)) = true ->
 ((((0:Int) = (atA I a).src /\
 (0:Int) = (atA I a).dst /\
 (0:Int) = (atA I a).low/\(0:Int) = (atA I a).cap/\(0:Int) = (atA I a).cost/\(0:Int) = atF I pot a/\(0:Int) = atT I pot a/\True) /\
 false = gOk (↑I.sup.length:Int) I.arcs a/\True) /\
 True) /\
 True) /\
 (decide (a ≥ (↑I.arcs.length:Int)) = false ->
 ((0:Int) <= a/\a < (↑I.arcs.length:Int)) /\
 a.toNat < I.arcs.length /\
 ∀ (x:Arc),
 I.arcs[a.toNat]? = some x ->
 (decide (x.src < (0:Int)) = true ->
 ((((0:Int) = (atA I a).src /\
 (0:Int) = (atA I a).dst /\
 (0:Int) = (atA I a).low/\(0:Int) = (atA I a).cap/\(0:Int) = (atA I a).cost/\(0:Int) = atF I pot a/\(0:Int) = atT I pot a/\True) /\
 false = gOk (↑I.sup.length:Int) I.arcs a/\True) /\
 True) /\
 True) /\
 (decide (x.src < (0:Int)) = false ->
 (decide (x.src ≥ (↑I.sup.length:Int)) = true ->
 ((((0:Int) = (atA I a).src /\
 (0:Int) = (atA I a).dst /\
 (0:Int) = (atA I a).low/\(0:Int) = (atA I a).cap/\(0:Int) = (atA I a).cost/\(0:Int) = atF I pot a/\(0:Int) = atT I pot a/\True) /\
 false = gOk (↑I.sup.length:Int) I.arcs a/\True) /\
 True) /\
 True) /\
 (decide (x.src ≥ (↑I.sup.length:Int)) = false ->
 (decide (x.dst < (0:Int)) = true ->
 ((((0:Int) = (atA I a).src /\
 (0:Int) = (atA I a).dst /\
 (0:Int) = (atA I a).low /\
 (0:Int) = (atA I a).cap/\(0:Int) = (atA I a).cost/\(0:Int) = atF I pot a/\(0:Int) = atT I pot a/\True) /\
 false = gOk (↑I.sup.length:Int) I.arcs a/\True) /\
 True) /\
 True) /\
 (decide (x.dst < (0:Int)) = false ->
 (decide (x.dst ≥ (↑I.sup.length:Int)) = true ->
 ((((0:Int) = (atA I a).src /\
 (0:Int) = (atA I a).dst /\
 (0:Int) = (atA I a).low /\
 (0:Int) = (atA I a).cap/\(0:Int) = (atA I a).cost/\(0:Int) = atF I pot a/\(0:Int) = atT I pot a/\True) /\
 false = gOk (↑I.sup.length:Int) I.arcs a/\True) /\
 True) /\
 True) /\
 (decide (x.dst ≥ (↑I.sup.length:Int)) = false ->
 (0:Int) <= x.src /\
 (0:Int) <= x.dst /\
 (((x.src = (atA I a).src /\
 x.dst = (atA I a).dst /\
 x.low = (atA I a).low /\
 x.cap = (atA I a).cap /\
 x.cost = (atA I a).cost/\pot.getD x.src.toNat (0:Int) = atF I pot a/\pot.getD x.dst.toNat (0:Int) = atT I pot a/\True) /\
 true = gOk (↑I.sup.length:Int) I.arcs a/\True) /\
 True) /\
 True))))))
theorem at11_q (I:Inst) (pot:List Int) (a:Int) (ty0 ty1 ty2:TypeId):at11_E0 I pot a ty0 ty1 ty2 = z2e TT at11_g (at11_I I pot a) (at11_an I pot a) Tryz.f157 [.agg [.row 0,.row 1],.row 2,.int .i64 a] [(0,.row false ty0 (.ints .i64 I.sup)),(1,.row false ty1 (.arcs I.arcs)),(2,.row false ty2 (.ints .i64 pot))] (at11_r I pot a):=by kernel_rfl
theorem at11_E (I:Inst) (pot:List Int) (a:Int) (ty0 ty1 ty2:TypeId) (hp:True):FVc TT at11_g (at11_I I pot a) (at11_an I pot a) Tryz.f157 [.agg [.row 0,.row 1],.row 2,.int .i64 a] [(0,.row false ty0 (.ints .i64 I.sup)),(1,.row false ty1 (.arcs I.arcs)),(2,.row false ty2 (.ints .i64 pot))] (at11_r I pot a):=by
 refine FVc.of (at11_E0 I pot a ty0 ty1 ty2) (at11_q I pot a ty0 ty1 ty2) ?_
 unfold at11_E0
 have z:gOk I.sup.length I.arcs a = false->(0 = (atA I a).src/\0 = (atA I a).dst/\0 = (atA I a).low/\0 = (atA I a).cap/\0 = (atA I a).cost/\0 = atF I pot a/\0 = atT I pot a)/\false = gOk I.sup.length I.arcs a:=fun h=>by
  simp [atA,z6m,atF,atT,h]
 simp only [eq_self,exists_const,forall_const,decide_eq_true_eq,decide_eq_false_iff_not,and_true,true_and,bne_iff_ne,ne_eq,bne_eq_false_iff_eq,Int.toNat_natCast,Bool.not_eq_true',Bool.not_eq_false',beq_iff_eq,beq_eq_false_iff_ne,z06]
 refine ⟨fun h=>z (zks (.inl h)),fun h=>⟨fun h2=>z (zks (.inr h2)),fun h2=>⟨by omega,by omega,fun x hx=>?_⟩⟩⟩
 have hg:=zgp (n:=I.sup.length) (a:=a) (by omega) hx
 have no:¬ (0 <= x.src/\x.src < I.sup.length/\0 <= x.dst/\x.dst < I.sup.length)->gOk I.sup.length I.arcs a = false:=fun h=>by
  rw [hg]
  cases ho:z39 (I.sup.length:Int) x with
  | false=>rfl
  | true=>exact absurd (okArc_iff.1 ho) h
 refine ⟨fun h3=>z (no (by omega)),fun h3=>⟨fun h4=>z (no (by omega)),fun h4=>⟨fun h5=>z (no (by omega)),fun h5=>⟨fun h6=>z (no (by omega)),fun h6=>⟨by omega,by omega,?_⟩⟩⟩⟩⟩
 have hgt:gOk I.sup.length I.arcs a = true:=by rw [hg]; exact okArc_iff.2 ⟨by omega,by omega,by omega,by omega⟩
 have hA:atA I a = x:=by unfold atA z6m; rw [if_pos hgt]; simp [List.getD,hx]
 simp [hgt,hA,atF,atT]
theorem at11_ok:SpecOk Tryz.prog at11_n true (z02 true at11_fs) :=
 z0a z0j (show z18 Tryz.prog at11_g from z00 of11_ok (z05)) (by kernel_rfl) mixedOrders Tryz.func157 rfl rfl (by kernel_rfl) (n:=3) (by decide +kernel) (I:=at11_IA) (fun _ _=>z07) (A:=at11_A)
  (fun args h r hr=>by
   unfold at11_fs at hr
   split at hr
   ·rename_i a ty0 I_s ty1 I_a ty2 pot; cases hr; refine ⟨rfl,fun hp=>?_⟩; have hE:=at11_E ⟨I_s,I_a⟩ pot a ty0 ty1 ty2 hp; exact hE
   ·cases hr)
theorem arcs11_ok:SpecOk Tryz.prog arcs11_n false zj2 :=
 z4y z0j (show z18 Tryz.prog arcs11_g from z05) (by kernel_rfl) mixedOrders Tryz.func143 rfl rfl (by kernel_rfl) _
abbrev za6 (I:Inst) (g':Nat) (g:Nat) (R:Loop->Prop) (x:List Int) (pot:List Int):=(I.arcs.length - g' < I.arcs.length - g/\((True/\(0 = 0/\(0 = 0/\((↑I.arcs.length:Int) = ↑I.arcs.length/\(IntKind.i64.wrap ((↑g:Int) + (1:Int)) = (↑g':Int)/\True)))))/\(R = R/\((True/\True)/\((True/\(True/\True))/\(((0:Int) = 0/\True)/\((True/\True)/\((True/\(True/\True))/\(I.sup = I.sup/\(I.arcs = I.arcs/\(x = x/\(pot = pot/\True))))))))))))
abbrev z7x (I:Inst) (g:Nat) (pot:List Int):=(redA (atA I (↑g:Int)) (atF I pot (↑g:Int)) (atT I pot (↑g:Int)))
abbrev za7 (g':Nat) (I:Inst) (x:List Int) (pot:List Int):=(g' <= I.arcs.length/\(∀ (j:Nat),j < g'->z4g I x pot j = true))
abbrev zcn (I:Inst) (g:Nat):=((atA I (↑g:Int)).cap == (4611686018427387904:Int))
def Slack_E0 (I : Inst) (x : List Int) (pot : List Int) (ty0 ty1 ty2 ty3 : TypeId) : Prop :=
   (I.sup.length <= (10000:Nat)/\(I.arcs.length <= (10000:Nat)/\(A64 x/\(A64 I.sup))))/\((z19 I x != (0:Int)) = true->(z19 I x = z15 I x pot/\True)/\True)/\((z19 I x != (0:Int)) = false->(((↑pot.length:Int) != (↑I.sup.length:Int)) = true->((30:Int) = z15 I x pot/\True)/\True)/\(((↑pot.length:Int) != (↑I.sup.length:Int)) = false->∀ (R:Loop->Prop),∃ (g0:Nat),((g0 <= I.arcs.length/\(∀ (j:Nat),j < g0->z4g I x pot j = true))/\((True/\(0 = 0/\(0 = 0/\((↑I.arcs.length:Int) = ↑I.arcs.length/\((0:Int) = ↑g0/\True)))))/\(R = R/\((True/\True)/\((True/\(True/\True))/\(((0:Int) = 0/\True)/\((True/\True)/\((True/\(True/\True))/\(I.sup = I.sup/\(I.arcs = I.arcs/\(x = x/\(pot = pot/\True))))))))))))/\∀ (g:Nat),(g <= I.arcs.length/\(∀ (j:Nat),j < g->z4g I x pot j = true))->(decide ((↑g:Int) < ↑I.arcs.length) = true->True/\(gOk (↑I.sup.length:Int) I.arcs (↑g:Int) = true->R = R/\(I64 (atA I (↑g:Int)).cost/\(I64 (atF I pot (↑g:Int))/\(I64 (atT I pot (↑g:Int)))))/\(decide (sgn (z7x I g pot) > (0:Int)) = true->((0:Int) <= ↑g/\((↑g:Int) < ↑x.length))/\((↑g:Int).toNat < x.length/\(∀ (x_1:Int),x[(↑g:Int).toNat]? = some x_1->((x_1 != (atA I (↑g:Int)).low) = true->((33:Int) = z15 I x pot/\True)/\True)/\((x_1 != (atA I (↑g:Int)).low) = false->(decide (sgn (z7x I g pot) < (0:Int)) = true->((0:Int) <= ↑g/\((↑g:Int) < ↑x.length))/\((↑g:Int).toNat < x.length/\(∀ (x_2:Int),x[(↑g:Int).toNat]? = some x_2->((x_2 != (atA I (↑g:Int)).cap) = true->((33:Int) = z15 I x pot/\True)/\True)/\((x_2 != (atA I (↑g:Int)).cap) = false->((zcn I g) = true->((33:Int) = z15 I x pot/\True)/\True)/\((zcn I g) = false->∃ (g':Nat),(za7 g' I x pot)/\(za6 I g' g R x pot))))))/\(decide (sgn (z7x I g pot) < (0:Int)) = false->∃ (g':Nat),(za7 g' I x pot)/\(za6 I g' g R x pot))))))/\(decide (sgn (z7x I g pot) > (0:Int)) = false->(decide (sgn (z7x I g pot) < (0:Int)) = true->((0:Int) <= ↑g/\((↑g:Int) < ↑x.length))/\((↑g:Int).toNat < x.length/\(∀ (x_1:Int),x[(↑g:Int).toNat]? = some x_1->((x_1 != (atA I (↑g:Int)).cap) = true->((33:Int) = z15 I x pot/\True)/\True)/\((x_1 != (atA I (↑g:Int)).cap) = false->((zcn I g) = true->((33:Int) = z15 I x pot/\True)/\True)/\((zcn I g) = false->∃ (g':Nat),(za7 g' I x pot)/\(za6 I g' g R x pot))))))/\(decide (sgn (z7x I g pot) < (0:Int)) = false->∃ (g':Nat),(za7 g' I x pot)/\(za6 I g' g R x pot))))/\(gOk (↑I.sup.length:Int) I.arcs (↑g:Int) = false->∃ (g':Nat),(za7 g' I x pot)/\(za6 I g' g R x pot)))/\(decide ((↑g:Int) < ↑I.arcs.length) = false->((0:Int) = z15 I x pot/\True)/\True)))
theorem Slack_q (I:Inst) (x:List Int) (pot:List Int) (ty0 ty1 ty2 ty3:TypeId):Slack_E0 I x pot ty0 ty1 ty2 ty3 = z2e TT Slack_g (Slack_I I x pot) (Slack_an I x pot) Tryz.f129 [.agg [.row 0,.row 1],.row 2,.row 3] [(0,.row false ty0 (.ints .i64 I.sup)),(1,.row false ty1 (.arcs I.arcs)),(2,.row false ty2 (.ints .i64 x)),(3,.row false ty3 (.ints .i64 pot))] (Slack_r I x pot):=by kernel_rfl
theorem Slack_E (I:Inst) (x:List Int) (pot:List Int) (ty0 ty1 ty2 ty3:TypeId) (hp:I.sup.length <= 10000/\I.arcs.length <= 10000/\A64 x/\A64 I.sup/\A64 pot/\A64c I.arcs):FVc TT Slack_g (Slack_I I x pot) (Slack_an I x pot) Tryz.f129 [.agg [.row 0,.row 1],.row 2,.row 3] [(0,.row false ty0 (.ints .i64 I.sup)),(1,.row false ty1 (.arcs I.arcs)),(2,.row false ty2 (.ints .i64 x)),(3,.row false ty3 (.ints .i64 pot))] (Slack_r I x pot):=by
 refine FVc.of (Slack_E0 I x pot ty0 ty1 ty2 ty3) (Slack_q I x pot ty0 ty1 ty2 ty3) ?_
 unfold Slack_E0
 delta zcn za7 z7x za6
 obtain ⟨p1,p2,p3,p4,p5,p6⟩:=hp
 have bad:∀ j,j < I.arcs.length->z19 I x = 0->pot.length = I.sup.length->z4g I x pot j = false->33 = z15 I x pot:=fun j hj h1 h2 h3=>by
  unfold z15
  rw [if_neg (by omega),if_neg (by omega),if_neg]
  intro ha
  have:=List.all_eq_true.1 ha j (List.mem_range.2 hj)
  rw [h3] at this; cases this
 have nx:∀ g,g < I.arcs.length->(∀ j,j < g->z4g I x pot j = true)->z4g I x pot g = true->∃ g',(g' <= I.arcs.length/\∀ j,j < g'->z4g I x pot j = true)/\I.arcs.length - g' < I.arcs.length - g/\IntKind.i64.wrap ((g:Int) + 1) = (g':Int):=fun g hg h1 h2 =>
  ⟨g + 1,⟨by omega,fun j hj=>by
   by_cases e:j = g
   ·subst e; exact h2
   ·exact h1 j (by omega)⟩,by omega,by rw [w64 (by omega) (by omega)]; omega⟩
 simp only [eq_self,exists_const,forall_const,decide_eq_true_eq,decide_eq_false_iff_not,and_true,true_and,bne_iff_ne,ne_eq,bne_eq_false_iff_eq,Int.toNat_natCast,Bool.not_eq_true',Bool.not_eq_false',beq_iff_eq,beq_eq_false_iff_ne,z06]
 refine ⟨⟨p1,p2,p3,p4⟩,fun h=>by unfold z15; rw [if_pos h],fun hf=>⟨fun h=>by unfold z15; rw [if_neg (by omega),if_pos (by omega)],fun hl=>⟨0,⟨⟨by omega,fun j hj=>by omega⟩,rfl⟩,fun g hg=>⟨fun h1=>?_,fun h1=>?_⟩⟩⟩⟩
 ·have hz:=fitsF_zero.1 hf
  have hgl:g < I.arcs.length:=by omega
  have hgx:g < x.length:=by omega
  obtain ⟨b,hb⟩:∃ b,I.arcs[g]? = some b:=⟨_,List.getElem?_eq_getElem hgl⟩
  obtain ⟨y,hy⟩:∃ y,x[g]? = some y:=⟨_,List.getElem?_eq_getElem hgx⟩
  have ho:=(z1b hz.1 (List.mem_of_getElem? hb)).1
  have hgk:gOk I.sup.length I.arcs (g:Int) = true:=by rw [zgp (by omega) (by rw [Int.toNat_natCast]; exact hb)]; exact ho
  have hA:=atA_get hb ho
  have hr:redA (atA I g) (atF I pot g) (atT I pot g) = redF I pot g:=by unfold redF; rw [if_pos hgk]
  have hbd:I.arcs.getD g default = b:=by simp [List.getD,hb]
  have hyd:x.getD g 0 = y:=by simp [List.getD,hy]
  have key:z4g I x pot g = z5l (redF I pot g) y b:=by unfold z4g; rw [hbd,hyd]
  refine ⟨fun _=>⟨at_ok p5 p6,?_⟩,fun h=>by rw [hgk] at h; cases h⟩
  have B:=bad g hgl hf (by omega)
  have N:=nx g hgl hg.2
  rw [key] at B N
  rw [hr,hA]
  simp only [hy,Option.some.injEq,forall_eq']
  have q1:(0:Int) <= g:=by omega
  have q2:(g:Int) < x.length:=by omega
  unfold z5l inf at B N
  generalize redF I pot g = r at *
  refine ⟨fun c1=>⟨⟨q1,q2⟩,hgx,fun c2=>B (by simp [show 0 < sgn r from c1,c2]),fun c2=>⟨fun c3=>by omega,fun c3=>N (by simp [c3,c2])⟩⟩,fun c1=>⟨fun c3=>⟨⟨q1,q2⟩,hgx,fun c4=>B (by simp [c3,c4]),fun c4=>⟨fun c5=>B (by simp [c3,c5]),fun c5=>N (by simp [show ¬ 0 < sgn r from c1,c4,c5])⟩⟩,fun c3=>N (by simp [show ¬ 0 < sgn r from c1,c3])⟩⟩
 ·have:(List.range I.arcs.length).all (z4g I x pot) = true:=List.all_eq_true.2 fun j hj=>hg.2 j (by have:=List.mem_range.1 hj; omega)
  unfold z15
  rw [if_neg (by omega),if_neg (by omega),if_pos this]
theorem Slack_i0_ok (I:Inst) (x:List Int) (pot:List Int):zbe Tryz.prog 156 (Slack_i0 I x pot) :=
 inlI_ok z0j (show z18 Tryz.prog Slack_i0g from z00 at11_ok (z05)) (by kernel_rfl) mixedOrders Tryz.func156 rfl rfl (fun key spec=>by kernel_rfl) _
theorem Slack_ok:SpecOk Tryz.prog Slack_n true (z02 true Slack_fs) :=
 z0a z0j (show z18 Tryz.prog Slack_g from z00 Fits_ok (z00 arcs11_ok (z00 sign_ok (z05)))) (by kernel_rfl) mixedOrders Tryz.func129 rfl rfl (by kernel_rfl) (n:=3) (by decide +kernel) (I:=Slack_IA) (fun args h=>by
   unfold Slack_IA
   split
   ·exact zcx (Slack_i0_ok _ _ _) (z07)
   ·exact z07) (A:=Slack_A)
  (fun args h r hr=>by
   unfold Slack_fs at hr
   split at hr
   ·rename_i ty0 I_s ty1 I_a ty2 x ty3 pot; cases hr; refine ⟨rfl,fun hp=>?_⟩; have hE:=Slack_E ⟨I_s,I_a⟩ x pot ty0 ty1 ty2 ty3 hp; exact hE
   ·cases hr)
end Go.Proofs.YtapeenpimcffpaaGreat
end
section
namespace Go.Proofs.YtapeenpimcffpaaGreat
open Go Go.RowKit Go.Ql Go.Vc
end Go.Proofs.YtapeenpimcffpaaGreat
end
section
namespace Go.Proofs.YtapeenpimcffpaaGreat
open Go Go.RowKit Go.Ql Go.Vc
end Go.Proofs.YtapeenpimcffpaaGreat
end
section
namespace Go.Ql
open Go Go.RowKit Go.Vc
def z4o (I:Inst) (a:Int):Bool:=decide (0 <= a) && decide (a < I.arcs.length)
def z4w (I:Inst) (a:Int):Arc:=I.arcs.getD a.toNat default
def rayD (I:Inst) (a:Int):Int:=if z4o I a then (z4w I a).cost else 0
def z8y (I:Inst) (l:List Int):Nat->Int
 | 0=>0
 | k + 1=>z8y I l k + rayD I (l.getD k 0)
def rayS (I:Inst) (l:List Int):Int:=z8y I l l.length
def c1F (I:Inst) (l:List Int):Bool:=l.all (z4o I)
def c2F (l:List Int):Bool:=decide l.Nodup
def linkF (I:Inst) (l:List Int) (k:Nat):Bool:=decide ((z4w I (l.getD k 0)).dst = (z4w I (l.getD ((k + 1) % l.length) 0)).src)
def c3F (I:Inst) (l:List Int):Bool:=(List.range l.length).all (linkF I l)
def c4F (I:Inst) (l:List Int):Bool:=l.all fun a=>decide ((z4w I a).cap = inf)
def c5F (I:Inst) (l:List Int):Bool:=decide (wcmp (W (rayS I l)) (W 0) < 0)
def z1x (I:Inst) (l:List Int):Int :=
 if z04 I ≠ 0 then z04 I else if l.length = 0 ∨ I.arcs.length < l.length then 30
 else if c1F I l && c2F l && c3F I l && c4F I l && c5F I l then 0 else 35
def metM (l:List Int):List (List Int × Int):=l.map fun a=>([a],1)
def nodI (l:List Int):Prop:=l.Nodup
theorem all_take {p:Int->Bool} {l:List Int} {k:Nat} {x:Int} (h:l[k]? = some x):(l.take (k + 1)).all p = ((l.take k).all p && p x):=by rw [z1c h,List.all_append]; simp
theorem all_not {p:Int->Bool} {l:List Int} {k:Nat} {x:Int} (h:l[k]? = some x) (hp:p x = false):l.all p = false:=by
 cases ha:l.all p with
 | false=>rfl
 | true=>have:=List.all_eq_true.1 ha x (List.mem_of_getElem? h); rw [hp] at this; cases this
theorem all_end {p:Int->Bool} {l:List Int} {k:Nat} (h:(l.take k).all p = true) (hk:l.length <= k):l.all p = true:=by rw [List.take_of_length_le hk] at h; exact h
theorem mget_metM (x:Int):∀ l:List Int,mget (metM l) [x] = if x ∈ l then some 1 else none
 | []=>rfl
 | y :: l=>by
  have ih:=mget_metM x l
  simp only [metM,List.map_cons,mget,List.cons.injEq,and_true,List.mem_cons] at ih ⊢
  by_cases e:x = y
  ·simp [e]
  ·simp only [e,if_false,false_or]; exact ih
theorem mput_metM {x:Int}:∀ {l:List Int},x ∉ l->mput (metM l) [x] 1 = metM (l ++ [x])
 | [],_=>rfl
 | y :: l,h=>by
  have h1:¬ x = y:=fun e=>h (by simp [e])
  have ih:=mput_metM (x:=x) (l:=l) (fun e=>h (by simp [e]))
  simp only [metM,List.cons_append,List.map_cons,mput,List.cons.injEq,and_true,h1,if_false] at ih ⊢
  rw [ih]
  simp
theorem nodI_take {l:List Int} {k:Nat} {x:Int} (h:l[k]? = some x) (h1:nodI (l.take k)) (h2:x ∉ l.take k):nodI (l.take (k + 1)):=by
 unfold nodI at *
 rw [z1c h,List.nodup_append]
 exact ⟨h1,by simp,fun a ha b hb=>by simp at hb; subst hb; exact fun e=>h2 (e ▸ ha)⟩
theorem nodI_not {l:List Int} {k:Nat} {x:Int} (h:l[k]? = some x) (h2:x ∈ l.take k):c2F l = false:=by
 unfold c2F
 refine decide_eq_false fun hn=>?_
 have hd:l = l.take k ++ l.drop k:=(List.take_append_drop k l).symm
 rw [hd,List.nodup_append] at hn
 refine hn.2.2 x h2 x ?_ rfl
 rw [z43 h]; simp
theorem nodI_end {l:List Int} {k:Nat} (h:nodI (l.take k)) (hk:l.length <= k):c2F l = true:=by
 unfold nodI at h
 rw [List.take_of_length_le hk] at h
 exact decide_eq_true h
theorem z61 {I:Inst} {x:Int} {a:Arc} (h:I.arcs[x.toNat]? = some a):z4w I x = a:=by simp [z4w,List.getD,h]
theorem isArcF_iff {I:Inst} {x:Int}:z4o I x = true ↔ 0 <= x/\x < I.arcs.length:=by simp [z4o]
theorem c1F_get {I:Inst} {l:List Int} {k:Nat} {x:Int} (h:c1F I l = true) (hx:l[k]? = some x):0 <= x/\x < I.arcs.length:=isArcF_iff.1 (List.all_eq_true.1 h x (List.mem_of_getElem? hx))
end Go.Ql
end
section
namespace Go.Proofs.YtapeenpimcffpaaGreat
open Go Go.RowKit Go.Ql Go.Vc
def isArc_r (I:Inst) (a:Int):FRes:={ pre:=True,res:=.bool (z4o I a),rows:=[],eff:=[] }
def zhi:FS:=fun args h=>match args,h with
 | [.agg [.row 0,.row 1],.int .i64 a],[(0,.row false ty0 (.ints .i64 I_s)),(1,.row false ty1 (.arcs I_a))]=>some (isArc_r ⟨I_s,I_a⟩ a)
 | _,_=>none
def isArc_an (I:Inst) (a:Int):List (Nat × Ann):=[]
def isArc_A:List SV->z0d->List (Nat × Ann):=fun _ _=>[]
def isArc_g:z0b:=[]
abbrev isArc_n:Nat:=163
def isArc_I (I:Inst) (a:Int):List (Nat × z08):=[]
def isArc_IA:List SV->z0d->List (Nat × z08):=fun _ _=>[]
def Sum12_r (I:Inst) (l:List Int):FRes:={ pre:=A64c I.arcs/\l.length <= 140737488351232,res:=.agg (z1m (W (rayS I l))),rows:=[],eff:=[] }
def Sum12_fs:FS:=fun args h=>match args,h with
 | [.agg [.row 0,.row 1],.row 2],[(0,.row false ty0 (.ints .i64 I_s)),(1,.row false ty1 (.arcs I_a)),(2,.row false ty2 (.ints .i64 l))]=>some (Sum12_r ⟨I_s,I_a⟩ l)
 | _,_=>none
def Sum12_an (I:Inst) (l:List Int):List (Nat × Ann):=[(3,{ G:=(Nat),inv:=fun k=>⟨[(2,.ptr 3 0 0 0),(4,.ptr 4 0 0 0),(5,.ptr 5 0 0 0),(8,.row 2),(9,.int .i64 (↑l.length:Int)),(10,.int .i64 k)],[(5,.box true 54 (z1m (W (z8y I l k)))),(4,.box true 54 [.int .i64 (0:Int),.int .u64 (0:Int)]),(3,.box true 25 [.row 0,.row 1]),(0,.row false 0 (.ints .i64 I.sup)),(1,.row false 0 (.arcs I.arcs)),(2,.row false 0 (.ints .i64 l))],6⟩,rel:=fun k0 k=>k <= l.length,meas:=fun k=>l.length - k })]
def Sum12_A:List SV->z0d->List (Nat × Ann):=fun args h=>match args,h with
 | [.agg [.row 0,.row 1],.row 2],[(0,.row false ty0 (.ints .i64 I_s)),(1,.row false ty1 (.arcs I_a)),(2,.row false ty2 (.ints .i64 l))]=>Sum12_an ⟨I_s,I_a⟩ l
 | _,_=>[]
def Sum12_g:z0b:=[(isArc_n,(true,z02 true zhi)),(zim,(true,z02 true z92)),(Of_n,(true,z02 true zef))]
abbrev Sum12_n:Nat:=168
def Sum12_I (I:Inst) (l:List Int):List (Nat × z08):=[]
def Sum12_IA:List SV->z0d->List (Nat × z08):=fun _ _=>[]
def asked1_r (l:List Int) (I:Inst):FRes:={ pre:=l.length <= 140737488351232,res:=.bool (c1F I l),rows:=[],eff:=[] }
def zj7:FS:=fun args h=>match args,h with
 | [.ptr 0 0 0 0,.ptr 2 0 0 0],[(0,.box false 29 [.row 1]),(1,.row false ty1 (.ints .i64 l)),(2,.box false 25 [.row 3,.row 4]),(3,.row false ty3 (.ints .i64 I_s)),(4,.row false ty4 (.arcs I_a))]=>some (asked1_r l ⟨I_s,I_a⟩)
 | _,_=>none
def zj6 (l:List Int) (I:Inst):List (Nat × Ann):=[(2,{ G:=(Nat),inv:=fun k=>⟨[(1,.ptr 2 0 0 0),(5,.row 1),(6,.int .i64 (↑l.length:Int)),(7,.int .i64 k)],[(1,.row false 0 (.ints .i64 l)),(2,.box false 25 [.row 3,.row 4]),(3,.row false 0 (.ints .i64 I.sup)),(4,.row false 0 (.arcs I.arcs))],5⟩,rel:=fun k0 k=>k <= l.length/\(l.take k).all (z4o I) = true,meas:=fun k=>l.length - k })]
def asked1_A:List SV->z0d->List (Nat × Ann):=fun args h=>match args,h with
 | [.ptr 0 0 0 0,.ptr 2 0 0 0],[(0,.box false 29 [.row 1]),(1,.row false ty1 (.ints .i64 l)),(2,.box false 25 [.row 3,.row 4]),(3,.row false ty3 (.ints .i64 I_s)),(4,.row false ty4 (.arcs I_a))]=>zj6 l ⟨I_s,I_a⟩
 | _,_=>[]
def asked1_g:z0b:=[(isArc_n,(true,z02 true zhi))]
abbrev asked1_n:Nat:=162
def asked1_I (l:List Int) (I:Inst):List (Nat × z08):=[]
def asked1_IA:List SV->z0d->List (Nat × z08):=fun _ _=>[]
def asked2_r (l:List Int):FRes:={ pre:=l.length <= 140737488351232,res:=.bool (c2F l),rows:=[],eff:=[] }
def zja:FS:=fun args h=>match args,h with
 | [.ptr 0 0 0 0],[(0,.box false 29 [.row 1]),(1,.row false ty1 (.ints .i64 l))]=>some (asked2_r l)
 | _,_=>none
def zj9 (l:List Int):List (Nat × Ann):=[(3,{ G:=(Nat),inv:=fun k=>⟨[(2,.row 2),(6,.row 1),(7,.int .i64 (↑l.length:Int)),(8,.int .i64 k)],[(2,.map [.i64] .bool (metM (l.take k))),(1,.row false 0 (.ints .i64 l))],3⟩,rel:=fun k0 k=>k <= l.length/\nodI (l.take k),meas:=fun k=>l.length - k })]
def asked2_A:List SV->z0d->List (Nat × Ann):=fun args h=>match args,h with
 | [.ptr 0 0 0 0],[(0,.box false 29 [.row 1]),(1,.row false ty1 (.ints .i64 l))]=>zj9 l
 | _,_=>[]
def asked2_g:z0b:=[]
abbrev asked2_n:Nat:=164
def asked2_I (l:List Int):List (Nat × z08):=[]
def asked2_IA:List SV->z0d->List (Nat × z08):=fun _ _=>[]
def asked3_r (l:List Int) (I:Inst):FRes:={ pre:=l.length <= 140737488351232/\c1F I l = true,res:=.bool (c3F I l),rows:=[],eff:=[] }
def zjd:FS:=fun args h=>match args,h with
 | [.ptr 0 0 0 0,.ptr 2 0 0 0],[(0,.box false 29 [.row 1]),(1,.row false ty1 (.ints .i64 l)),(2,.box false 25 [.row 3,.row 4]),(3,.row false ty3 (.ints .i64 I_s)),(4,.row false ty4 (.arcs I_a))]=>some (asked3_r l ⟨I_s,I_a⟩)
 | _,_=>none
def zjc (l:List Int) (I:Inst):List (Nat × Ann):=[(2,{ G:=(Nat),inv:=fun k=>⟨[(0,.ptr 0 0 0 0),(1,.ptr 2 0 0 0),(6,.row 1),(7,.int .i64 (↑l.length:Int)),(8,.int .i64 k)],[(0,.box false 29 [.row 1]),(1,.row false 0 (.ints .i64 l)),(2,.box false 25 [.row 3,.row 4]),(3,.row false 0 (.ints .i64 I.sup)),(4,.row false 0 (.arcs I.arcs))],5⟩,rel:=fun k0 k=>k <= l.length/\∀ j,j < k->linkF I l j = true,meas:=fun k=>l.length - k })]
def asked3_A:List SV->z0d->List (Nat × Ann):=fun args h=>match args,h with
 | [.ptr 0 0 0 0,.ptr 2 0 0 0],[(0,.box false 29 [.row 1]),(1,.row false ty1 (.ints .i64 l)),(2,.box false 25 [.row 3,.row 4]),(3,.row false ty3 (.ints .i64 I_s)),(4,.row false ty4 (.arcs I_a))]=>zjc l ⟨I_s,I_a⟩
 | _,_=>[]
def asked3_g:z0b:=[]
abbrev asked3_n:Nat:=165
def asked3_I (l:List Int) (I:Inst):List (Nat × z08):=[]
def asked3_IA:List SV->z0d->List (Nat × z08):=fun _ _=>[]
def asked4_r (l:List Int) (I:Inst):FRes:={ pre:=l.length <= 140737488351232/\c1F I l = true,res:=.bool (c4F I l),rows:=[],eff:=[] }
def zjg:FS:=fun args h=>match args,h with
 | [.ptr 0 0 0 0,.ptr 2 0 0 0],[(0,.box false 29 [.row 1]),(1,.row false ty1 (.ints .i64 l)),(2,.box false 25 [.row 3,.row 4]),(3,.row false ty3 (.ints .i64 I_s)),(4,.row false ty4 (.arcs I_a))]=>some (asked4_r l ⟨I_s,I_a⟩)
 | _,_=>none
def zjf (l:List Int) (I:Inst):List (Nat × Ann):=[(2,{ G:=(Nat),inv:=fun k=>⟨[(1,.ptr 2 0 0 0),(5,.row 1),(6,.int .i64 (↑l.length:Int)),(7,.int .i64 k)],[(1,.row false 0 (.ints .i64 l)),(2,.box false 25 [.row 3,.row 4]),(3,.row false 0 (.ints .i64 I.sup)),(4,.row false 0 (.arcs I.arcs))],5⟩,rel:=fun k0 k=>k <= l.length/\(l.take k).all (fun a=>decide ((z4w I a).cap = inf)) = true,meas:=fun k=>l.length - k })]
def asked4_A:List SV->z0d->List (Nat × Ann):=fun args h=>match args,h with
 | [.ptr 0 0 0 0,.ptr 2 0 0 0],[(0,.box false 29 [.row 1]),(1,.row false ty1 (.ints .i64 l)),(2,.box false 25 [.row 3,.row 4]),(3,.row false ty3 (.ints .i64 I_s)),(4,.row false ty4 (.arcs I_a))]=>zjf l ⟨I_s,I_a⟩
 | _,_=>[]
def asked4_g:z0b:=[]
abbrev asked4_n:Nat:=166
def asked4_I (l:List Int) (I:Inst):List (Nat × z08):=[]
def asked4_IA:List SV->z0d->List (Nat × z08):=fun _ _=>[]
def asked5_r (I:Inst) (l:List Int):FRes:={ pre:=l.length <= 140737488351232/\A64c I.arcs,res:=.bool (c5F I l),rows:=[],eff:=[] }
def zji:FS:=fun args h=>match args,h with
 | [.ptr 0 0 0 0,.ptr 3 0 0 0],[(0,.box false 25 [.row 1,.row 2]),(1,.row false ty1 (.ints .i64 I_s)),(2,.row false ty2 (.arcs I_a)),(3,.box false 29 [.row 4]),(4,.row false ty4 (.ints .i64 l))]=>some (asked5_r ⟨I_s,I_a⟩ l)
 | _,_=>none
def asked5_an (I:Inst) (l:List Int):List (Nat × Ann):=[]
def asked5_A:List SV->z0d->List (Nat × Ann):=fun _ _=>[]
def asked5_g:z0b:=[(Sum12_n,(true,z02 true Sum12_fs)),(Of_n,(true,z02 true zef)),(zcj,(true,z02 true z74))]
abbrev asked5_n:Nat:=167
def asked5_I (I:Inst) (l:List Int):List (Nat × z08):=[]
def asked5_IA:List SV->z0d->List (Nat × z08):=fun _ _=>[]
abbrev asked_n:Nat:=149
def asked_g:z0b:=[]
def asked_spec:Vc.Spec:=z2k TT asked_g (fun _ _ _=>[]) Tryz.f149
def Turns_r (I:Inst) (l:List Int):FRes:={ pre:=l.length <= 140737488351232/\A64c I.arcs,res:=.int .u16 (z1x I l),rows:=[],eff:=[] }
def Turns_fs:FS:=fun args h=>match args,h with
 | [.agg [.row 0,.row 1],.row 2],[(0,.row false ty0 (.ints .i64 I_s)),(1,.row false ty1 (.arcs I_a)),(2,.row false ty2 (.ints .i64 l))]=>some (Turns_r ⟨I_s,I_a⟩ l)
 | _,_=>none
def Turns_an (I:Inst) (l:List Int):List (Nat × Ann):=[(7,{ G:=(Nat),inv:=fun k=>⟨[(26,.row 7),(27,.int .i64 (↑5:Int)),(28,.int .i64 k)],[(7,.vec 35 [.fn 162 [.ptr 5 0 0 0,.ptr 4 0 0 0],.fn 164 [.ptr 5 0 0 0],.fn 165 [.ptr 5 0 0 0,.ptr 4 0 0 0],.fn 166 [.ptr 5 0 0 0,.ptr 4 0 0 0],.fn 167 [.ptr 4 0 0 0,.ptr 5 0 0 0]]),(5,.box true 29 [.row 2]),(4,.box true 25 [.row 0,.row 1]),(0,.row false 0 (.ints .i64 I.sup)),(1,.row false 0 (.arcs I.arcs)),(2,.row false 0 (.ints .i64 l))],8⟩,rel:=fun k0 k=>k <= 5/\(1 <= k->c1F I l = true)/\(2 <= k->c2F l = true)/\(3 <= k->c3F I l = true)/\(4 <= k->c4F I l = true)/\(5 <= k->c5F I l = true),meas:=fun k=>5 - k })]
def Turns_A:List SV->z0d->List (Nat × Ann):=fun args h=>match args,h with
 | [.agg [.row 0,.row 1],.row 2],[(0,.row false ty0 (.ints .i64 I_s)),(1,.row false ty1 (.arcs I_a)),(2,.row false ty2 (.ints .i64 l))]=>Turns_an ⟨I_s,I_a⟩ l
 | _,_=>[]
def Turns_g:z0b:=[(zbj,(true,z02 true z6o)),(asked_n,(false,asked_spec)),(asked1_n,(true,z02 true zj7)),(asked2_n,(true,z02 true zja)),(asked3_n,(true,z02 true zjd)),(asked4_n,(true,z02 true zjg)),(asked5_n,(true,z02 true zji))]
abbrev Turns_n:Nat:=134
def Turns_I (I:Inst) (l:List Int):List (Nat × z08):=[]
def Turns_IA:List SV->z0d->List (Nat × z08):=fun _ _=>[]
end Go.Proofs.YtapeenpimcffpaaGreat
end
section
namespace Go.Proofs.YtapeenpimcffpaaGreat
open Go Go.RowKit Go.Ql Go.Vc
def isArc_E0 (I : Inst) (a : Int) (ty0 ty1 : TypeId) : Prop :=
   (decide (a ≥ (0:Int)) = true->(decide (a < (↑I.arcs.length:Int)) = z4o I a/\True)/\True)/\(decide (a ≥ (0:Int)) = false->(false = z4o I a/\True)/\True)
theorem isArc_q (I:Inst) (a:Int) (ty0 ty1:TypeId):isArc_E0 I a ty0 ty1 = z2e TT isArc_g (isArc_I I a) (isArc_an I a) Tryz.f163 [.agg [.row 0,.row 1],.int .i64 a] [(0,.row false ty0 (.ints .i64 I.sup)),(1,.row false ty1 (.arcs I.arcs))] (isArc_r I a):=by kernel_rfl
theorem isArc_E (I:Inst) (a:Int) (ty0 ty1:TypeId) (hp:True):FVc TT isArc_g (isArc_I I a) (isArc_an I a) Tryz.f163 [.agg [.row 0,.row 1],.int .i64 a] [(0,.row false ty0 (.ints .i64 I.sup)),(1,.row false ty1 (.arcs I.arcs))] (isArc_r I a):=by
 refine FVc.of (isArc_E0 I a ty0 ty1) (isArc_q I a ty0 ty1) ?_
 unfold isArc_E0
 simp only [eq_self,exists_const,forall_const,decide_eq_true_eq,decide_eq_false_iff_not,and_true,true_and,bne_iff_ne,ne_eq,bne_eq_false_iff_eq,Int.toNat_natCast,Bool.not_eq_true',Bool.not_eq_false',beq_iff_eq,beq_eq_false_iff_ne,z06]
 refine ⟨fun h=>?_,fun h=>?_⟩
 ·simp [z4o,show 0 <= a by omega]
 ·simp [z4o,show ¬ 0 <= a by omega]
theorem isArc_ok:SpecOk Tryz.prog isArc_n true (z02 true zhi) :=
 z0a z0j (show z18 Tryz.prog isArc_g from z05) (by kernel_rfl) mixedOrders Tryz.func163 rfl rfl (by kernel_rfl) (n:=2) (by decide +kernel) (I:=isArc_IA) (fun _ _=>z07) (A:=isArc_A)
  (fun args h r hr=>by
   unfold zhi at hr
   split at hr
   ·rename_i a ty0 I_s ty1 I_a; cases hr; refine ⟨rfl,fun hp=>?_⟩; have hE:=isArc_E ⟨I_s,I_a⟩ a ty0 ty1 hp; exact hE
   ·cases hr)
def Sum12_E0 (I : Inst) (l : List Int) (ty0 ty1 ty2 : TypeId) : Prop :=
      ∃ (g0:Nat),
 (g0 <= l.length /\
 ((0:Nat) = (0:Nat)/\(0:Nat) = (0:Nat)/\(0:Nat) = (0:Nat)/\True/\(↑l.length:Int) = (↑l.length:Int)/\(0:Int) = (↑g0:Int)/\True) /\
 ((0:Int) = (W (z8y I l g0)).hi/\(0:Int) = (W (z8y I l g0)).lo/\True) /\
 ((0:Int) = (0:Int)/\(0:Int) = (0:Int)/\True)/\(True/\True/\True)/\I.sup = I.sup/\I.arcs = I.arcs/\l = l/\True) /\
 ∀ (g:Nat),
 g <= l.length ->
 (decide ((↑g:Int) < (↑l.length:Int)) = true ->
 ((0:Int) <= (↑g:Int)/\(↑g:Int) < (↑l.length:Int)) /\
 (↑g:Int).toNat < l.length /\
 ∀ (x:Int),
 l[(↑g:Int).toNat]? = some x ->
 True /\
 (z4o I x = true ->
 ((0:Int) <= x/\x < (↑I.arcs.length:Int)) /\
 x.toNat < I.arcs.length /\
 ∀ (x_1:Arc),
 I.arcs[x.toNat]? = some x_1 ->
 I64 x_1.cost /\
 ((W (z8y I l g)).ok/\(W x_1.cost).ok) /\
 ∃ (g':Nat),
 g' <= l.length /\
 l.length - g' < l.length - g /\
 ((0:Nat) = (0:Nat) /\
 (0:Nat) = (0:Nat) /\
 (0:Nat) = (0:Nat) /\
 True/\(↑l.length:Int) = (↑l.length:Int)/\IntKind.i64.wrap ((↑g:Int) + (1:Int)) = (↑g':Int)/\True) /\
 ((z8x (W (z8y I l g)) (W x_1.cost)).hi = (W (z8y I l g')).hi /\
 (z8x (W (z8y I l g)) (W x_1.cost)).lo = (W (z8y I l g')).lo/\True) /\
 ((0:Int) = (0:Int)/\(0:Int) = (0:Int)/\True)/\(True/\True/\True)/\I.sup = I.sup/\I.arcs = I.arcs/\l = l/\True) /\
 (z4o I x = false ->
 ∃ (g':Nat),
 g' <= l.length /\
 l.length - g' < l.length - g /\
 ((0:Nat) = (0:Nat) /\
 (0:Nat) = (0:Nat) /\
 (0:Nat) = (0:Nat)/\True/\(↑l.length:Int) = (↑l.length:Int)/\IntKind.i64.wrap ((↑g:Int) + (1:Int)) = (↑g':Int)/\True) /\
 ((W (z8y I l g)).hi = (W (z8y I l g')).hi/\(W (z8y I l g)).lo = (W (z8y I l g')).lo/\True) /\
 ((0:Int) = (0:Int)/\(0:Int) = (0:Int)/\True)/\(True/\True/\True)/\I.sup = I.sup/\I.arcs = I.arcs/\l = l/\True)) /\
 (decide ((↑g:Int) < (↑l.length:Int)) = false->(((W (z8y I l g)).hi = (W (rayS I l)).hi/\(W (z8y I l g)).lo = (W (rayS I l)).lo/\True)/\True)/\True)
theorem Sum12_q (I:Inst) (l:List Int) (ty0 ty1 ty2:TypeId):Sum12_E0 I l ty0 ty1 ty2 = z2e TT Sum12_g (Sum12_I I l) (Sum12_an I l) Tryz.f168 [.agg [.row 0,.row 1],.row 2] [(0,.row false ty0 (.ints .i64 I.sup)),(1,.row false ty1 (.arcs I.arcs)),(2,.row false ty2 (.ints .i64 l))] (Sum12_r I l):=by kernel_rfl
theorem Sum12_E (I:Inst) (l:List Int) (ty0 ty1 ty2:TypeId) (hp:A64c I.arcs/\l.length <= 140737488351232):FVc TT Sum12_g (Sum12_I I l) (Sum12_an I l) Tryz.f168 [.agg [.row 0,.row 1],.row 2] [(0,.row false ty0 (.ints .i64 I.sup)),(1,.row false ty1 (.arcs I.arcs)),(2,.row false ty2 (.ints .i64 l))] (Sum12_r I l):=by
 refine FVc.of (Sum12_E0 I l ty0 ty1 ty2) (Sum12_q I l ty0 ty1 ty2) ?_
 unfold Sum12_E0
 obtain ⟨p1,p2⟩:=hp
 simp only [eq_self,exists_const,forall_const,decide_eq_true_eq,decide_eq_false_iff_not,and_true,true_and,bne_iff_ne,ne_eq,bne_eq_false_iff_eq,Int.toNat_natCast,Bool.not_eq_true',Bool.not_eq_false',beq_iff_eq,beq_eq_false_iff_ne,z06]
 refine ⟨0,⟨Nat.zero_le _,rfl,by simp only [z8y]; decide,by simp only [z8y]; decide⟩,fun g hg=>⟨fun h1=>⟨by omega,by omega,fun x hx=>?_⟩,fun h1=>?_⟩⟩
 ·have wk:IntKind.i64.wrap ((g:Int) + 1) = ((g + 1:Nat):Int):=by rw [w64 (by omega) (by omega)]; omega
  have hd:l.getD g 0 = x:=by simp [List.getD,hx]
  refine ⟨fun h2=>⟨isArcF_iff.1 h2,by have:=isArcF_iff.1 h2; omega,fun a ha=>⟨p1 a (List.mem_of_getElem? ha),⟨W_ok _,W_ok _⟩,g + 1,by omega,by omega,wk,?_⟩⟩,fun h2=>⟨g + 1,by omega,by omega,wk,?_⟩⟩
  ·simp only [z8y,hd,rayD,h2,if_true,z61 ha,zci,and_self]
  ·simp only [z8y,hd,rayD,h2,if_false,Int.add_zero,Bool.false_eq_true,and_self]
 ·rw [show g = l.length by omega]
  exact ⟨rfl,rfl⟩
theorem Sum12_ok:SpecOk Tryz.prog Sum12_n true (z02 true Sum12_fs) :=
 z0a z0j (show z18 Tryz.prog Sum12_g from z00 isArc_ok (z00 zej (z00 zij (z05)))) (by kernel_rfl) mixedOrders Tryz.func168 rfl rfl (by kernel_rfl) (n:=2) (by decide +kernel) (I:=Sum12_IA) (fun _ _=>z07) (A:=Sum12_A)
  (fun args h r hr=>by
   unfold Sum12_fs at hr
   split at hr
   ·rename_i ty0 I_s ty1 I_a ty2 l; cases hr; refine ⟨rfl,fun hp=>?_⟩; have hE:=Sum12_E ⟨I_s,I_a⟩ l ty0 ty1 ty2 hp; exact hE
   ·cases hr)
def zj5 (l : List Int) (I : Inst) (ty1 ty3 ty4 : TypeId) : Prop :=
      ∃ (g0:Nat),
 ((g0 <= l.length/\(List.take g0 l).all (z4o I) = true) /\
 ((0:Nat) = (0:Nat)/\True/\(↑l.length:Int) = (↑l.length:Int)/\(0:Int) = (↑g0:Int)/\True) /\
 l = l/\(True/\True/\True)/\I.sup = I.sup/\I.arcs = I.arcs/\True) /\
 ∀ (g:Nat),
 g <= l.length/\(List.take g l).all (z4o I) = true ->
 (decide ((↑g:Int) < (↑l.length:Int)) = true ->
 ((0:Int) <= (↑g:Int)/\(↑g:Int) < (↑l.length:Int)) /\
 (↑g:Int).toNat < l.length /\
 ∀ (x:Int),
 l[(↑g:Int).toNat]? = some x ->
 True /\
 ((!z4o I x) = true->(false = c1F I l/\True)/\True) /\
 ((!z4o I x) = false ->
 ∃ (g':Nat),
 (g' <= l.length/\(List.take g' l).all (z4o I) = true) /\
 l.length - g' < l.length - g /\
 ((0:Nat) = (0:Nat)/\True/\(↑l.length:Int) = (↑l.length:Int)/\IntKind.i64.wrap ((↑g:Int) + (1:Int)) = (↑g':Int)/\True) /\
 l = l/\(True/\True/\True)/\I.sup = I.sup/\I.arcs = I.arcs/\True)) /\
 (decide ((↑g:Int) < (↑l.length:Int)) = false->(true = c1F I l/\True)/\True)
theorem asked1_q (l:List Int) (I:Inst) (ty1 ty3 ty4:TypeId):zj5 l I ty1 ty3 ty4 = z2e TT asked1_g (asked1_I l I) (zj6 l I) Tryz.f162 [.ptr 0 0 0 0,.ptr 2 0 0 0] [(0,.box false 29 [.row 1]),(1,.row false ty1 (.ints .i64 l)),(2,.box false 25 [.row 3,.row 4]),(3,.row false ty3 (.ints .i64 I.sup)),(4,.row false ty4 (.arcs I.arcs))] (asked1_r l I):=by kernel_rfl
theorem asked1_E (l:List Int) (I:Inst) (ty1 ty3 ty4:TypeId) (hp:l.length <= 140737488351232):FVc TT asked1_g (asked1_I l I) (zj6 l I) Tryz.f162 [.ptr 0 0 0 0,.ptr 2 0 0 0] [(0,.box false 29 [.row 1]),(1,.row false ty1 (.ints .i64 l)),(2,.box false 25 [.row 3,.row 4]),(3,.row false ty3 (.ints .i64 I.sup)),(4,.row false ty4 (.arcs I.arcs))] (asked1_r l I):=by
 refine FVc.of (zj5 l I ty1 ty3 ty4) (asked1_q l I ty1 ty3 ty4) ?_
 unfold zj5
 simp only [eq_self,exists_const,forall_const,decide_eq_true_eq,decide_eq_false_iff_not,and_true,true_and,bne_iff_ne,ne_eq,bne_eq_false_iff_eq,Int.toNat_natCast,Bool.not_eq_true',Bool.not_eq_false',beq_iff_eq,beq_eq_false_iff_ne,z06]
 refine ⟨0,⟨⟨by omega,rfl⟩,rfl⟩,fun g hg=>⟨fun h1=>⟨by omega,by omega,fun x hx=>⟨fun h2=>(all_not hx h2).symm,fun h2=>⟨g + 1,⟨by omega,by rw [all_take hx,hg.2,h2]; rfl⟩,by omega,by rw [w64 (by omega) (by omega)]; omega⟩⟩⟩,fun h1=>(all_end hg.2 (by omega)).symm⟩⟩
theorem asked1_ok:SpecOk Tryz.prog asked1_n true (z02 true zj7) :=
 z0a z0j (show z18 Tryz.prog asked1_g from z00 isArc_ok (z05)) (by kernel_rfl) mixedOrders Tryz.func162 rfl rfl (by kernel_rfl) (n:=2) (by decide +kernel) (I:=asked1_IA) (fun _ _=>z07) (A:=asked1_A)
  (fun args h r hr=>by
   unfold zj7 at hr
   split at hr
   ·rename_i ty1 l ty3 I_s ty4 I_a; cases hr; refine ⟨rfl,fun hp=>?_⟩; have hE:=asked1_E l ⟨I_s,I_a⟩ ty1 ty3 ty4 hp; exact hE
   ·cases hr)
def zj8 (l : List Int) (ty1 : TypeId) : Prop :=
      ∃ (g0:Nat),
 ((g0 <= l.length/\nodI (List.take g0 l))/\(True/\True/\(↑l.length:Int) = (↑l.length:Int)/\(0:Int) = (↑g0:Int)/\True)/\[] = metM (List.take g0 l)/\l = l/\True) /\
 ∀ (g:Nat),
 g <= l.length/\nodI (List.take g l) ->
 (decide ((↑g:Int) < (↑l.length:Int)) = true ->
 ((0:Int) <= (↑g:Int)/\(↑g:Int) < (↑l.length:Int)) /\
 (↑g:Int).toNat < l.length /\
 ∀ (x:Int),
 l[(↑g:Int).toNat]? = some x ->
 (((mget (metM (List.take g l)) [x]).getD (0:Int) == (1:Int)) = true->(false = c2F l/\True)/\True) /\
 (((mget (metM (List.take g l)) [x]).getD (0:Int) == (1:Int)) = false ->
 ∃ (g':Nat),
 (g' <= l.length/\nodI (List.take g' l)) /\
 l.length - g' < l.length - g /\
 (True/\True/\(↑l.length:Int) = (↑l.length:Int)/\IntKind.i64.wrap ((↑g:Int) + (1:Int)) = (↑g':Int)/\True) /\
 mput (metM (List.take g l)) [x] (bif true then (1:Int) else (0:Int)) = metM (List.take g' l)/\l = l/\True)) /\
 (decide ((↑g:Int) < (↑l.length:Int)) = false->(true = c2F l/\True)/\True)
theorem asked2_q (l:List Int) (ty1:TypeId):zj8 l ty1 = z2e TT asked2_g (asked2_I l) (zj9 l) Tryz.f164 [.ptr 0 0 0 0] [(0,.box false 29 [.row 1]),(1,.row false ty1 (.ints .i64 l))] (asked2_r l):=by kernel_rfl
theorem asked2_E (l:List Int) (ty1:TypeId) (hp:l.length <= 140737488351232):FVc TT asked2_g (asked2_I l) (zj9 l) Tryz.f164 [.ptr 0 0 0 0] [(0,.box false 29 [.row 1]),(1,.row false ty1 (.ints .i64 l))] (asked2_r l):=by
 refine FVc.of (zj8 l ty1) (asked2_q l ty1) ?_
 unfold zj8
 simp only [eq_self,exists_const,forall_const,decide_eq_true_eq,decide_eq_false_iff_not,and_true,true_and,bne_iff_ne,ne_eq,bne_eq_false_iff_eq,Int.toNat_natCast,Bool.not_eq_true',Bool.not_eq_false',beq_iff_eq,beq_eq_false_iff_ne,z06]
 refine ⟨0,⟨⟨by omega,List.nodup_nil⟩,rfl,rfl⟩,fun g hg=>⟨fun h1=>⟨by omega,by omega,fun x hx=>?_⟩,fun h1=>(nodI_end hg.2 (by omega)).symm⟩⟩
 rw [mget_metM]
 by_cases hm:x ∈ l.take g
 ·simp only [hm,if_true,Option.getD_some,not_true,false_implies,and_true,forall_const]
  exact (nodI_not hx hm).symm
 ·simp only [hm,if_false,Option.getD_none]
  refine ⟨fun h=>by omega,fun _=>⟨g + 1,⟨by omega,nodI_take hx hg.2 hm⟩,by omega,by rw [w64 (by omega) (by omega)]; omega,?_⟩⟩
  rw [z1c hx]
  exact mput_metM hm
theorem asked2_ok:SpecOk Tryz.prog asked2_n true (z02 true zja) :=
 z0a z0j (show z18 Tryz.prog asked2_g from z05) (by kernel_rfl) mixedOrders Tryz.func164 rfl rfl (by kernel_rfl) (n:=1) (by decide +kernel) (I:=asked2_IA) (fun _ _=>z07) (A:=asked2_A)
  (fun args h r hr=>by
   unfold zja at hr
   split at hr
   ·rename_i ty1 l; cases hr; refine ⟨rfl,fun hp=>?_⟩; have hE:=asked2_E l ty1 hp; exact hE
   ·cases hr)
def zjb (l : List Int) (I : Inst) (ty1 ty3 ty4 : TypeId) : Prop :=
      ∃ (g0:Nat),
 ((g0 <= l.length/\∀ (j:Nat),j < g0->linkF I l j = true) /\
 ((0:Nat) = (0:Nat)/\(0:Nat) = (0:Nat)/\True/\(↑l.length:Int) = (↑l.length:Int)/\(0:Int) = (↑g0:Int)/\True) /\
 (True/\True)/\l = l/\(True/\True/\True)/\I.sup = I.sup/\I.arcs = I.arcs/\True) /\
 ∀ (g:Nat),
 (g <= l.length/\∀ (j:Nat),j < g->linkF I l j = true) ->
 (decide ((↑g:Int) < (↑l.length:Int)) = true ->
 ((0:Int) <= (↑g:Int)/\(↑g:Int) < (↑l.length:Int)) /\
 (↑g:Int).toNat < l.length /\
 ∀ (x:Int),
 l[(↑g:Int).toNat]? = some x ->
 (↑l.length:Int) ≠ (0:Int) /\
 ((0:Int) <= (IntKind.i64.wrap ((↑g:Int) + (1:Int))).tmod (↑l.length:Int) /\
 (IntKind.i64.wrap ((↑g:Int) + (1:Int))).tmod (↑l.length:Int) < (↑l.length:Int)) /\
 ((IntKind.i64.wrap ((↑g:Int) + (1:Int))).tmod (↑l.length:Int)).toNat < l.length /\
 ∀ (x_1:Int),
 l[((IntKind.i64.wrap ((↑g:Int) + (1:Int))).tmod (↑l.length:Int)).toNat]? = some x_1 ->
 ((0:Int) <= x/\x < (↑I.arcs.length:Int)) /\
 x.toNat < I.arcs.length /\
 ∀ (x_2:Arc),
 I.arcs[x.toNat]? = some x_2 ->
 ((0:Int) <= x_1/\x_1 < (↑I.arcs.length:Int)) /\
 x_1.toNat < I.arcs.length /\
 ∀ (x:Arc),
 I.arcs[x_1.toNat]? = some x ->
 ((x_2.dst != x.src) = true->(false = c3F I l/\True)/\True) /\
 ((x_2.dst != x.src) = false ->
 ∃ (g':Nat),
 (g' <= l.length/\∀ (j:Nat),j < g'->linkF I l j = true) /\
 l.length - g' < l.length - g /\
 ((0:Nat) = (0:Nat) /\
 (0:Nat) = (0:Nat) /\
 True/\(↑l.length:Int) = (↑l.length:Int)/\IntKind.i64.wrap ((↑g:Int) + (1:Int)) = (↑g':Int)/\True) /\
 (True/\True)/\l = l/\(True/\True/\True)/\I.sup = I.sup/\I.arcs = I.arcs/\True)) /\
 (decide ((↑g:Int) < (↑l.length:Int)) = false->(true = c3F I l/\True)/\True)
theorem asked3_q (l:List Int) (I:Inst) (ty1 ty3 ty4:TypeId):zjb l I ty1 ty3 ty4 = z2e TT asked3_g (asked3_I l I) (zjc l I) Tryz.f165 [.ptr 0 0 0 0,.ptr 2 0 0 0] [(0,.box false 29 [.row 1]),(1,.row false ty1 (.ints .i64 l)),(2,.box false 25 [.row 3,.row 4]),(3,.row false ty3 (.ints .i64 I.sup)),(4,.row false ty4 (.arcs I.arcs))] (asked3_r l I):=by kernel_rfl
theorem asked3_E (l:List Int) (I:Inst) (ty1 ty3 ty4:TypeId) (hp:l.length <= 140737488351232/\c1F I l = true):FVc TT asked3_g (asked3_I l I) (zjc l I) Tryz.f165 [.ptr 0 0 0 0,.ptr 2 0 0 0] [(0,.box false 29 [.row 1]),(1,.row false ty1 (.ints .i64 l)),(2,.box false 25 [.row 3,.row 4]),(3,.row false ty3 (.ints .i64 I.sup)),(4,.row false ty4 (.arcs I.arcs))] (asked3_r l I):=by
 refine FVc.of (zjb l I ty1 ty3 ty4) (asked3_q l I ty1 ty3 ty4) ?_
 unfold zjb
 obtain ⟨p1,p2⟩:=hp
 simp only [eq_self,exists_const,forall_const,decide_eq_true_eq,decide_eq_false_iff_not,and_true,true_and,bne_iff_ne,ne_eq,bne_eq_false_iff_eq,Int.toNat_natCast,Bool.not_eq_true',Bool.not_eq_false',beq_iff_eq,beq_eq_false_iff_ne,z06]
 refine ⟨0,⟨⟨by omega,fun j hj=>by omega⟩,rfl⟩,fun g hg=>⟨fun h1=>⟨by omega,by omega,fun x hx=>?_⟩,fun h1=>?_⟩⟩
 ·have hm:(IntKind.i64.wrap ((g:Int) + 1)).tmod (l.length:Int) = (((g + 1) % l.length:Nat):Int):=by rw [w64 (by omega) (by omega),z44 (by omega)]; norm_cast
  have hlt:(g + 1) % l.length < l.length:=Nat.mod_lt _ (by omega)
  rw [hm]
  simp only [Int.toNat_natCast]
  refine ⟨by omega,by omega,by omega,fun y hy=>?_⟩
  have hcx:=c1F_get p2 hx
  have hcy:=c1F_get p2 hy
  refine ⟨hcx,by omega,fun a ha=>⟨hcy,by omega,fun b hb=>?_⟩⟩
  have hl:linkF I l g = decide (a.dst = b.src):=by
   unfold linkF
   have d1:l.getD g 0 = x:=by simp [List.getD,hx]
   have d2:l.getD ((g + 1) % l.length) 0 = y:=by simp [List.getD,hy]
   rw [d1,d2,z61 ha,z61 hb]
  refine ⟨fun h2=>?_,fun h2=>⟨g + 1,⟨by omega,fun j hj=>?_⟩,by omega,by rw [w64 (by omega) (by omega)]; omega⟩⟩
  ·have h3:linkF I l g = false:=by rw [hl]; exact decide_eq_false h2
   cases hc:c3F I l with
   | false=>rfl
   | true=>have:=List.all_eq_true.1 hc g (List.mem_range.2 (by omega)); rw [h3] at this; cases this
  ·by_cases e:j = g
   ·subst e; rw [hl]; exact decide_eq_true h2
   ·exact hg.2 j (by omega)
 ·have:c3F I l = true:=List.all_eq_true.2 fun j hj=>hg.2 j (by have:=List.mem_range.1 hj; omega)
  exact this.symm
theorem asked3_ok:SpecOk Tryz.prog asked3_n true (z02 true zjd) :=
 z0a z0j (show z18 Tryz.prog asked3_g from z05) (by kernel_rfl) mixedOrders Tryz.func165 rfl rfl (by kernel_rfl) (n:=2) (by decide +kernel) (I:=asked3_IA) (fun _ _=>z07) (A:=asked3_A)
  (fun args h r hr=>by
   unfold zjd at hr
   split at hr
   ·rename_i ty1 l ty3 I_s ty4 I_a; cases hr; refine ⟨rfl,fun hp=>?_⟩; have hE:=asked3_E l ⟨I_s,I_a⟩ ty1 ty3 ty4 hp; exact hE
   ·cases hr)
def zje (l : List Int) (I : Inst) (ty1 ty3 ty4 : TypeId) : Prop :=
      ∃ (g0:Nat),
 ((g0 <= l.length/\((List.take g0 l).all fun (a:Int)=>decide ((z4w I a).cap = inf)) = true) /\
 ((0:Nat) = (0:Nat)/\True/\(↑l.length:Int) = (↑l.length:Int)/\(0:Int) = (↑g0:Int)/\True) /\
 l = l/\(True/\True/\True)/\I.sup = I.sup/\I.arcs = I.arcs/\True) /\
 ∀ (g:Nat),
 g <= l.length/\((List.take g l).all fun (a:Int)=>decide ((z4w I a).cap = inf)) = true ->
 (decide ((↑g:Int) < (↑l.length:Int)) = true ->
 ((0:Int) <= (↑g:Int)/\(↑g:Int) < (↑l.length:Int)) /\
 (↑g:Int).toNat < l.length /\
 ∀ (x:Int),
 l[(↑g:Int).toNat]? = some x ->
 ((0:Int) <= x/\x < (↑I.arcs.length:Int)) /\
 x.toNat < I.arcs.length /\
 ∀ (x_1:Arc),
 I.arcs[x.toNat]? = some x_1 ->
 ((x_1.cap != (4611686018427387904:Int)) = true->(false = c4F I l/\True)/\True) /\
 ((x_1.cap != (4611686018427387904:Int)) = false ->
 ∃ (g':Nat),
 (g' <= l.length/\((List.take g' l).all fun (a:Int)=>decide ((z4w I a).cap = inf)) = true) /\
 l.length - g' < l.length - g /\
 ((0:Nat) = (0:Nat)/\True/\(↑l.length:Int) = (↑l.length:Int)/\IntKind.i64.wrap ((↑g:Int) + (1:Int)) = (↑g':Int)/\True) /\
 l = l/\(True/\True/\True)/\I.sup = I.sup/\I.arcs = I.arcs/\True)) /\
 (decide ((↑g:Int) < (↑l.length:Int)) = false->(true = c4F I l/\True)/\True)
theorem asked4_q (l:List Int) (I:Inst) (ty1 ty3 ty4:TypeId):zje l I ty1 ty3 ty4 = z2e TT asked4_g (asked4_I l I) (zjf l I) Tryz.f166 [.ptr 0 0 0 0,.ptr 2 0 0 0] [(0,.box false 29 [.row 1]),(1,.row false ty1 (.ints .i64 l)),(2,.box false 25 [.row 3,.row 4]),(3,.row false ty3 (.ints .i64 I.sup)),(4,.row false ty4 (.arcs I.arcs))] (asked4_r l I):=by kernel_rfl
theorem asked4_E (l:List Int) (I:Inst) (ty1 ty3 ty4:TypeId) (hp:l.length <= 140737488351232/\c1F I l = true):FVc TT asked4_g (asked4_I l I) (zjf l I) Tryz.f166 [.ptr 0 0 0 0,.ptr 2 0 0 0] [(0,.box false 29 [.row 1]),(1,.row false ty1 (.ints .i64 l)),(2,.box false 25 [.row 3,.row 4]),(3,.row false ty3 (.ints .i64 I.sup)),(4,.row false ty4 (.arcs I.arcs))] (asked4_r l I):=by
 refine FVc.of (zje l I ty1 ty3 ty4) (asked4_q l I ty1 ty3 ty4) ?_
 unfold zje
 obtain ⟨p1,p2⟩:=hp
 simp only [eq_self,exists_const,forall_const,decide_eq_true_eq,decide_eq_false_iff_not,and_true,true_and,bne_iff_ne,ne_eq,bne_eq_false_iff_eq,Int.toNat_natCast,Bool.not_eq_true',Bool.not_eq_false',beq_iff_eq,beq_eq_false_iff_ne,z06]
 refine ⟨0,⟨⟨by omega,rfl⟩,rfl⟩,fun g hg=>⟨fun h1=>⟨by omega,by omega,fun x hx=>⟨c1F_get p2 hx,by have:=c1F_get p2 hx; omega,fun a ha=>⟨fun h2=>?_,fun h2=>⟨g + 1,⟨by omega,?_⟩,by omega,by rw [w64 (by omega) (by omega)]; omega⟩⟩⟩⟩,fun h1=>(all_end hg.2 (by omega)).symm⟩⟩
 ·exact (all_not hx (decide_eq_false (by rw [z61 ha]; exact h2))).symm
 ·rw [all_take hx,hg.2,z61 ha]
  simp [inf,h2]
theorem asked4_ok:SpecOk Tryz.prog asked4_n true (z02 true zjg) :=
 z0a z0j (show z18 Tryz.prog asked4_g from z05) (by kernel_rfl) mixedOrders Tryz.func166 rfl rfl (by kernel_rfl) (n:=2) (by decide +kernel) (I:=asked4_IA) (fun _ _=>z07) (A:=asked4_A)
  (fun args h r hr=>by
   unfold zjg at hr
   split at hr
   ·rename_i ty1 l ty3 I_s ty4 I_a; cases hr; refine ⟨rfl,fun hp=>?_⟩; have hE:=asked4_E l ⟨I_s,I_a⟩ ty1 ty3 ty4 hp; exact hE
   ·cases hr)
def zjh (I : Inst) (l : List Int) (ty1 ty2 ty4 : TypeId) : Prop :=
      (A64c I.arcs/\l.length <= (140737488351232:Nat)) /\
 I64 (0:Int)/\((W (rayS I l)).ok/\(W (0:Int)).ok)/\(decide (wcmp (W (rayS I l)) (W (0:Int)) < (0:Int)) = c5F I l/\True)/\True
theorem asked5_q (I:Inst) (l:List Int) (ty1 ty2 ty4:TypeId):zjh I l ty1 ty2 ty4 = z2e TT asked5_g (asked5_I I l) (asked5_an I l) Tryz.f167 [.ptr 0 0 0 0,.ptr 3 0 0 0] [(0,.box false 25 [.row 1,.row 2]),(1,.row false ty1 (.ints .i64 I.sup)),(2,.row false ty2 (.arcs I.arcs)),(3,.box false 29 [.row 4]),(4,.row false ty4 (.ints .i64 l))] (asked5_r I l):=by kernel_rfl
theorem asked5_E (I:Inst) (l:List Int) (ty1 ty2 ty4:TypeId) (hp:l.length <= 140737488351232/\A64c I.arcs):FVc TT asked5_g (asked5_I I l) (asked5_an I l) Tryz.f167 [.ptr 0 0 0 0,.ptr 3 0 0 0] [(0,.box false 25 [.row 1,.row 2]),(1,.row false ty1 (.ints .i64 I.sup)),(2,.row false ty2 (.arcs I.arcs)),(3,.box false 29 [.row 4]),(4,.row false ty4 (.ints .i64 l))] (asked5_r I l):=by
 refine FVc.of (zjh I l ty1 ty2 ty4) (asked5_q I l ty1 ty2 ty4) ?_
 unfold zjh
 obtain ⟨p1,p2⟩:=hp
 simp only [eq_self,exists_const,forall_const,decide_eq_true_eq,decide_eq_false_iff_not,and_true,true_and,bne_iff_ne,ne_eq,bne_eq_false_iff_eq,Int.toNat_natCast,Bool.not_eq_true',Bool.not_eq_false',beq_iff_eq,beq_eq_false_iff_ne,z06]
 exact ⟨⟨p2,p1⟩,by simp [I64],⟨W_ok _,W_ok _⟩,rfl⟩
theorem asked5_ok:SpecOk Tryz.prog asked5_n true (z02 true zji) :=
 z0a z0j (show z18 Tryz.prog asked5_g from z00 Sum12_ok (z00 zij (z00 zeb (z05)))) (by kernel_rfl) mixedOrders Tryz.func167 rfl rfl (by kernel_rfl) (n:=2) (by decide +kernel) (I:=asked5_IA) (fun _ _=>z07) (A:=asked5_A)
  (fun args h r hr=>by
   unfold zji at hr
   split at hr
   ·rename_i ty1 I_s ty2 I_a ty4 l; cases hr; refine ⟨rfl,fun hp=>?_⟩; have hE:=asked5_E ⟨I_s,I_a⟩ l ty1 ty2 ty4 hp; exact hE
   ·cases hr)
theorem asked_ok:SpecOk Tryz.prog asked_n false asked_spec :=
 z4y z0j (show z18 Tryz.prog asked_g from z05) (by kernel_rfl) mixedOrders Tryz.func149 rfl rfl (by kernel_rfl) _
abbrev za8 (g':Nat) (g:Nat) (I:Inst) (l:List Int):=((5:Nat) - g' < (5:Nat) - g/\((True/\((5:Int) = 5/\(IntKind.i64.wrap ((↑g:Int) + (1:Int)) = (↑g':Int)/\True)))/\(((0 = 0/\(0 = 0/\True))/\((0 = 0/\True)/\((0 = 0/\(0 = 0/\True))/\((0 = 0/\(0 = 0/\True))/\((0 = 0/\(0 = 0/\True))/\True)))))/\((True/\True)/\((True/\(True/\True))/\(I.sup = I.sup/\(I.arcs = I.arcs/\(l = l/\True))))))))
abbrev za9 (g':Nat) (I:Inst) (l:List Int):=(g' <= (5:Nat)/\(((1:Nat) <= g'->c1F I l = true)/\(((2:Nat) <= g'->c2F l = true)/\(((3:Nat) <= g'->c3F I l = true)/\(((4:Nat) <= g'->c4F I l = true)/\((5:Nat) <= g'->c5F I l = true))))))
def Turns_E0 (I : Inst) (l : List Int) (ty0 ty1 ty2 : TypeId) : Prop :=
   True/\((z04 I != (0:Int)) = true->(z04 I = z1x I l/\True)/\True)/\((z04 I != (0:Int)) = false->(((↑l.length:Int) == (0:Int)) = true->((30:Int) = z1x I l/\True)/\True)/\(((↑l.length:Int) == (0:Int)) = false->(decide ((↑l.length:Int) > ↑I.arcs.length) = true->((30:Int) = z1x I l/\True)/\True)/\(decide ((↑l.length:Int) > ↑I.arcs.length) = false->∃ (g0:Nat),((g0 <= (5:Nat)/\(((1:Nat) <= g0->c1F I l = true)/\(((2:Nat) <= g0->c2F l = true)/\(((3:Nat) <= g0->c3F I l = true)/\(((4:Nat) <= g0->c4F I l = true)/\((5:Nat) <= g0->c5F I l = true))))))/\((True/\((↑(5:Nat):Int) = 5/\((0:Int) = ↑g0/\True)))/\(((0 = 0/\(0 = 0/\True))/\((0 = 0/\True)/\((0 = 0/\(0 = 0/\True))/\((0 = 0/\(0 = 0/\True))/\((0 = 0/\(0 = 0/\True))/\True)))))/\((True/\True)/\((True/\(True/\True))/\(I.sup = I.sup/\(I.arcs = I.arcs/\(l = l/\True))))))))/\∀ (g:Nat),g <= (5:Nat)/\((1:Nat) <= g->c1F I l = true)/\((2:Nat) <= g->c2F l = true)/\((3:Nat) <= g->c3F I l = true)/\((4:Nat) <= g->c4F I l = true)/\((5:Nat) <= g->c5F I l = true)->(decide ((↑g:Int) < 5) = true->((0:Int) <= ↑g/\((↑g:Int) < ↑(5:Nat)))/\(↑g:Int).toNat < (5:Nat)/\((↑g:Int).toNat = (0:Nat)->l.length <= (140737488351232:Nat)/\(((!c1F I l) = true->((35:Int) = z1x I l/\True)/\True)/\((!c1F I l) = false->∃ (g':Nat),(za9 g' I l)/\(za8 g' g I l))))/\((↑g:Int).toNat = (0:Nat) + (1:Nat)->l.length <= (140737488351232:Nat)/\(((!c2F l) = true->((35:Int) = z1x I l/\True)/\True)/\((!c2F l) = false->∃ (g':Nat),(za9 g' I l)/\(za8 g' g I l))))/\(((↑g:Int).toNat = (0:Nat) + (1:Nat) + (1:Nat)->(l.length <= (140737488351232:Nat)/\(c1F I l = true))/\(((!c3F I l) = true->((35:Int) = z1x I l/\True)/\True)/\((!c3F I l) = false->∃ (g':Nat),(za9 g' I l)/\(za8 g' g I l))))/\(((↑g:Int).toNat = (0:Nat) + (1:Nat) + (1:Nat) + (1:Nat)->(l.length <= (140737488351232:Nat)/\(c1F I l = true))/\(((!c4F I l) = true->((35:Int) = z1x I l/\True)/\True)/\((!c4F I l) = false->∃ (g':Nat),(za9 g' I l)/\(za8 g' g I l))))/\((↑g:Int).toNat = (0:Nat) + (1:Nat) + (1:Nat) + (1:Nat) + (1:Nat)->(l.length <= (140737488351232:Nat)/\(A64c I.arcs))/\(((!c5F I l) = true->((35:Int) = z1x I l/\True)/\True)/\((!c5F I l) = false->∃ (g':Nat),(za9 g' I l)/\(za8 g' g I l)))))))/\(decide ((↑g:Int) < 5) = false->((0:Int) = z1x I l/\True)/\True))))
theorem Turns_q (I:Inst) (l:List Int) (ty0 ty1 ty2:TypeId):Turns_E0 I l ty0 ty1 ty2 = z2e TT Turns_g (Turns_I I l) (Turns_an I l) Tryz.f134 [.agg [.row 0,.row 1],.row 2] [(0,.row false ty0 (.ints .i64 I.sup)),(1,.row false ty1 (.arcs I.arcs)),(2,.row false ty2 (.ints .i64 l))] (Turns_r I l):=by kernel_rfl
theorem Turns_E (I:Inst) (l:List Int) (ty0 ty1 ty2:TypeId) (hp:l.length <= 140737488351232/\A64c I.arcs):FVc TT Turns_g (Turns_I I l) (Turns_an I l) Tryz.f134 [.agg [.row 0,.row 1],.row 2] [(0,.row false ty0 (.ints .i64 I.sup)),(1,.row false ty1 (.arcs I.arcs)),(2,.row false ty2 (.ints .i64 l))] (Turns_r I l):=by
 refine FVc.of (Turns_E0 I l ty0 ty1 ty2) (Turns_q I l ty0 ty1 ty2) ?_
 unfold Turns_E0
 delta za9 za8
 obtain ⟨p1,p2⟩:=hp
 simp only [eq_self,exists_const,forall_const,decide_eq_true_eq,decide_eq_false_iff_not,and_true,true_and,bne_iff_ne,ne_eq,bne_eq_false_iff_eq,Int.toNat_natCast,Bool.not_eq_true',Bool.not_eq_false',beq_iff_eq,beq_eq_false_iff_ne,z06]
 unfold z1x
 refine ⟨fun h=>by simp [h],fun h=>⟨fun h2=>by simp [h,show l.length = 0 by omega],fun h2=>⟨fun h3=>by simp [h,show I.arcs.length < l.length by omega],fun h3=>?_⟩⟩⟩
 have e0:¬ (l.length = 0 ∨ I.arcs.length < l.length):=by omega
 simp only [h,e0,ne_eq,not_true,if_false]
 refine ⟨0,⟨⟨by omega,fun h=>by omega,fun h=>by omega,fun h=>by omega,fun h=>by omega,fun h=>by omega⟩,by first | exact rfl | exact ⟨rfl,rfl⟩⟩,fun g hg=>?_⟩
 obtain ⟨g0,g1,g2,g3,g4,g5⟩:=hg
 have wk:IntKind.i64.wrap ((g:Int) + 1) = ((g + 1:Nat):Int):=by rw [w64 (by omega) (by omega)]; omega
 refine ⟨fun h4=>⟨by omega,by omega,fun e=>⟨p1,fun f=>?_,fun f=>⟨g + 1,⟨by omega,fun _=>f,fun h=>by omega,fun h=>by omega,fun h=>by omega,fun h=>by omega⟩,by omega,wk⟩⟩,fun e=>⟨p1,fun f=>?_,fun f=>⟨g + 1,⟨by omega,fun _=>g1 (by omega),fun _=>f,fun h=>by omega,fun h=>by omega,fun h=>by omega⟩,by omega,wk⟩⟩,
  fun e=>⟨⟨p1,g1 (by omega)⟩,fun f=>?_,fun f=>⟨g + 1,⟨by omega,fun _=>g1 (by omega),fun _=>g2 (by omega),fun _=>f,fun h=>by omega,fun h=>by omega⟩,by omega,wk⟩⟩,
  fun e=>⟨⟨p1,g1 (by omega)⟩,fun f=>?_,fun f=>⟨g + 1,⟨by omega,fun _=>g1 (by omega),fun _=>g2 (by omega),fun _=>g3 (by omega),fun _=>f,fun h=>by omega⟩,by omega,wk⟩⟩,
  fun e=>⟨⟨p1,p2⟩,fun f=>?_,fun f=>⟨g + 1,⟨by omega,fun _=>g1 (by omega),fun _=>g2 (by omega),fun _=>g3 (by omega),fun _=>g4 (by omega),fun _=>f⟩,by omega,wk⟩⟩⟩,fun h4=>?_⟩
 all_goals first
  | simp [f]
  | simp [g1 (by omega),g2 (by omega),g3 (by omega),g4 (by omega),g5 (by omega)]
theorem Turns_ok:SpecOk Tryz.prog Turns_n true (z02 true Turns_fs) :=
 z0a z0j (show z18 Tryz.prog Turns_g from z00 za5 (z00 asked_ok (z00 asked1_ok (z00 asked2_ok (z00 asked3_ok (z00 asked4_ok (z00 asked5_ok (z05)))))))) (by kernel_rfl) mixedOrders Tryz.func134 rfl rfl (by kernel_rfl) (n:=2) (by decide +kernel) (I:=Turns_IA) (fun _ _=>z07) (A:=Turns_A)
  (fun args h r hr=>by
   unfold Turns_fs at hr
   split at hr
   ·rename_i ty0 I_s ty1 I_a ty2 l; cases hr; refine ⟨rfl,fun hp=>?_⟩; have hE:=Turns_E ⟨I_s,I_a⟩ l ty0 ty1 ty2 hp; exact hE
   ·cases hr)
end Go.Proofs.YtapeenpimcffpaaGreat
end
section
namespace Go.Proofs.YtapeenpimcffpaaGreat
open Go Go.RowKit Go.Ql Go.Vc
end Go.Proofs.YtapeenpimcffpaaGreat
end
section
namespace Go.Proofs.YtapeenpimcffpaaGreat
open Go Go.RowKit Go.Ql Go.Vc
end Go.Proofs.YtapeenpimcffpaaGreat
end
section
namespace Go.Ql
open Go Go.Vc
structure Cert where
 kind:Int
 flow:List Int
 pot:List Int
 side:List Bool
 cycle:List Int
deriving DecidableEq
structure StepD where
 inst:Inst
 pass:Int
 was:Inst
 off:Wide
 did:Bool
deriving DecidableEq
def StepD.none:StepD:=⟨⟨[],[]⟩,0,⟨[],[]⟩,⟨0,0⟩,false⟩
end Go.Ql
end
section
namespace Go.Ql
open Go Go.RowKit
def Arc.In (n:Int) (a:Arc):Prop:=0 <= a.src/\a.src < n/\0 <= a.dst/\a.dst < n
end Go.Ql
end
section
namespace Go.Ql
open Go Go.Vc
theorem zhs {I:Inst} (h:z04 I = 0):∀ a ∈ I.arcs,a.In I.sup.length:=fun a ha=>okArc_iff.1 (z1b h ha).1
end Go.Ql
end
section
namespace Go.Ql
open Go Go.Vc
end Go.Ql
end
section
namespace Go.Ql
open Go Go.Vc
theorem Arc.Nice.more {m n:Int} {a:Arc} (h:a.Nice m) (hm:m <= n):a.Nice n :=
 ⟨h.s0,by have:=h.s1; omega,h.d0,by have:=h.d1; omega,h.l0,h.l1,h.c0,h.c1,h.k0,h.k1⟩
end Go.Ql
end
section
namespace Go.Ql
open Go Go.Vc
theorem on_in {m:Int} {side:List Bool} {a:Arc} (h:a.In m):zby m side a = (side.getD a.src.toNat false && !side.getD a.dst.toNat false)/\inA m side a = (side.getD a.dst.toNat false && !side.getD a.src.toNat false):=by
 obtain ⟨h1,h2,h3,h4⟩:=h
 unfold zby inA isN onF
 simp [h1,h2,h3,h4]
theorem addAt_getD (s:List Int) (k:Nat) (x:Int) (v:Nat) (hv:v < s.length):(addAt s k x).getD v 0 = s.getD v 0 + (if k = v then x else 0):=by
 unfold addAt
 rw [List.getD_eq_getElem?_getD,List.getElem?_set]
 by_cases h:k = v
 ·subst h; simp [hv]
 ·simp [h,List.getD_eq_getElem?_getD]
theorem fitsF_iff {I:Inst} {x:List Int}:z19 I x = 0 ↔ z04 I = 0/\x.length = I.arcs.length/\z2j I.arcs x = true/\netOk I x = true:=by
 unfold z19
 by_cases h1:z04 I = 0
 ·by_cases h2:x.length = I.arcs.length
  ·cases h3:z2j I.arcs x <;> cases h4:netOk I x <;> simp [h1,h2]
  ·simp [h1,h2]
 ·simp [h1]
def Few (x:List Int):Prop:=∀ y ∈ x,0 <= y/\y <= 7
theorem Few.head {x:List Int} (h:Few x):0 <= x.headD 0/\x.headD 0 <= 7:=by
 cases x with
 | nil=>simp
 | cons y x=>exact h y (by simp)
theorem Few.tail {x:List Int} (h:Few x):Few x.tail:=fun y hy=>h y (List.mem_of_mem_tail hy)
theorem Few.a64 {x:List Int} (h:Few x):A64 x:=fun y hy=>by have:=h y hy; unfold I64; omega
theorem right_A64 {I:Inst} (h:z04 I = 0):A64a I.arcs/\A64c I.arcs/\A64 I.sup/\L42 I.arcs:=by
 refine ⟨fun a ha=>?_,fun a ha=>?_,fun x hx=>?_,fun a ha=>?_⟩
 ·have:=z1b h ha; unfold I64; omega
 ·have:=z1b h ha; unfold I64; omega
 ·have:=(z1j h).1 x hx; unfold I64; omega
 ·have:=z1b h ha; omega
end Go.Ql
end
section
namespace Go.Ql
open Go Go.Vc
def z3o (l:List Int):Nat:=(l.filter fun x=>decide (x = 0)).length
def z4f (c:Cert):Bool :=
 if c.kind = 1 then decide (c.side.length = 0) && decide (c.cycle.length = 0)
 else if c.kind = 2 then decide (c.flow.length = 0) && decide (c.pot.length = 0) && decide (c.cycle.length = 0)
 else if c.kind = 3 then decide (c.pot.length = 0) && decide (c.side.length = 0)
 else false
def z1f (I:Inst) (c:Cert):Int :=
 if z04 I ≠ 0 then z04 I else if z4f c = false then 36
 else if c.kind = 1 then z15 I c.flow c.pot
 else if c.kind = 2 then z20 I c.side
 else if z19 I c.flow ≠ 0 then z19 I c.flow else z1x I c.cycle
def zh2 (I:Inst) (c:Cert):Wide:=if c.kind = 1 then W (costF I c.flow) else ⟨0,0⟩
def z1e (c:Cert):Prop:=A64 c.flow/\A64 c.pot/\c.flow.length <= 140737488351232/\c.pot.length <= 140737488351232/\c.side.length <= 140737488351232/\c.cycle.length <= 140737488351232
def z48 (I:Inst):Prop:=I.sup.length <= 10000/\I.arcs.length <= 10000/\A64 I.sup/\A64a I.arcs/\A64c I.arcs
theorem zc0 {c:Cert} (h:z4f c = true):c.kind = 1 ∨ c.kind = 2 ∨ c.kind = 3:=by
 unfold z4f at h
 by_cases h1:c.kind = 1
 ·exact .inl h1
 ·by_cases h2:c.kind = 2
  ·exact .inr (.inl h2)
  ·by_cases h3:c.kind = 3
   ·exact .inr (.inr h3)
   ·rw [if_neg h1,if_neg h2,if_neg h3] at h; cases h
theorem zerosF_nil:z3o [] = 0:=rfl
theorem z6l (x:Int) (l:List Int):z3o (x :: l) = (if x = 0 then 1 else 0) + z3o l:=by
 unfold z3o
 rw [List.filter_cons]
 by_cases h:x = 0 <;> simp [h]; omega
theorem zerosF_snoc (l:List Int) (x:Int):z3o (l ++ [x]) = z3o l + (if x = 0 then 1 else 0):=by
 unfold z3o
 rw [List.filter_append]
 by_cases h:x = 0 <;> simp [h]
theorem zerosF_le (l:List Int):z3o l <= l.length:=List.length_filter_le _ _
end Go.Ql
end
section
namespace Go.Proofs.YtapeenpimcffpaaGreat
open Go Go.RowKit Go.Ql Go.Vc
def zka (l:List Int):FRes:={ pre:=l.length <= 1000000000,res:=.int .i64 (z3o l),rows:=[],eff:=[] }
def zfa:FS:=fun args h=>match args,h with
 | [.row 0],[(0,.row false ty0 (.ints .i64 l))]=>some (zka l)
 | _,_=>none
def zf9 (l:List Int):List (Nat × Ann):=[(3,{ G:=(Nat),inv:=fun k=>⟨[(3,.int .i64 (z3o (l.take k))),(6,.row 0),(7,.int .i64 (↑l.length:Int)),(8,.int .i64 k)],[(0,.row false 0 (.ints .i64 l))],1⟩,rel:=fun k0 k=>k <= l.length,meas:=fun k=>l.length - k })]
def empty13_A:List SV->z0d->List (Nat × Ann):=fun args h=>match args,h with
 | [.row 0],[(0,.row false ty0 (.ints .i64 l))]=>zf9 l
 | _,_=>[]
def zk9:z0b:=[]
abbrev empty13_n:Nat:=127
def empty13_I (l:List Int):List (Nat × z08):=[]
def empty13_IA:List SV->z0d->List (Nat × z08):=fun _ _=>[]
def zil (c:Cert):FRes:={ pre:=True,res:=.bool (z4f c),rows:=[],eff:=[] }
def zei:FS:=fun args h=>match args,h with
 | [.agg [.int .i64 c_k,.row 0,.row 1,.row 2,.row 3]],[(0,.row false ty0 (.ints .i64 c_f)),(1,.row false ty1 (.ints .i64 c_p)),(2,.row false ty2 (.bools c_s)),(3,.row false ty3 (.ints .i64 c_y))]=>some (zil ⟨c_k,c_f,c_p,c_s,c_y⟩)
 | _,_=>none
def Plain13_an (c:Cert):List (Nat × Ann):=[]
def Plain13_A:List SV->z0d->List (Nat × Ann):=fun _ _=>[]
def zik:z0b:=[(empty13_n,(true,z02 true zfa))]
abbrev Plain13_n:Nat:=116
def Plain13_I (c:Cert):List (Nat × z08):=[]
def Plain13_IA:List SV->z0d->List (Nat × z08):=fun _ _=>[]
def zjk (I:Inst) (c:Cert):FRes:={ pre:=z1e c/\z48 I,res:=.int .u16 (z15 I c.flow c.pot),rows:=[],eff:=[] }
def zes:FS:=fun args h=>match args,h with
 | [.agg [.row 0,.row 1],.agg [.int .i64 c_k,.row 2,.row 3,.row 4,.row 5]],[(0,.row false ty0 (.ints .i64 I_s)),(1,.row false ty1 (.arcs I_a)),(2,.row false ty2 (.ints .i64 c_f)),(3,.row false ty3 (.ints .i64 c_p)),(4,.row false ty4 (.bools c_s)),(5,.row false ty5 (.ints .i64 c_y))]=>some (zjk ⟨I_s,I_a⟩ ⟨c_k,c_f,c_p,c_s,c_y⟩)
 | _,_=>none
def askedC1_an (I:Inst) (c:Cert):List (Nat × Ann):=[]
def askedC1_A:List SV->z0d->List (Nat × Ann):=fun _ _=>[]
def zjj:z0b:=[(Slack_n,(true,z02 true Slack_fs))]
abbrev askedC1_n:Nat:=128
def askedC1_I (I:Inst) (c:Cert):List (Nat × z08):=[]
def askedC1_IA:List SV->z0d->List (Nat × z08):=fun _ _=>[]
def zjm (I:Inst) (c:Cert):FRes:={ pre:=z1e c/\z48 I,res:=.int .u16 (z20 I c.side),rows:=[],eff:=[] }
def zeu:FS:=fun args h=>match args,h with
 | [.agg [.row 0,.row 1],.agg [.int .i64 c_k,.row 2,.row 3,.row 4,.row 5]],[(0,.row false ty0 (.ints .i64 I_s)),(1,.row false ty1 (.arcs I_a)),(2,.row false ty2 (.ints .i64 c_f)),(3,.row false ty3 (.ints .i64 c_p)),(4,.row false ty4 (.bools c_s)),(5,.row false ty5 (.ints .i64 c_y))]=>some (zjm ⟨I_s,I_a⟩ ⟨c_k,c_f,c_p,c_s,c_y⟩)
 | _,_=>none
def askedC2_an (I:Inst) (c:Cert):List (Nat × Ann):=[]
def askedC2_A:List SV->z0d->List (Nat × Ann):=fun _ _=>[]
def zjl:z0b:=[(Proves_n,(true,z02 true zis))]
abbrev askedC2_n:Nat:=130
def askedC2_I (I:Inst) (c:Cert):List (Nat × z08):=[]
def askedC2_IA:List SV->z0d->List (Nat × z08):=fun _ _=>[]
def zjo (I:Inst) (c:Cert):FRes:={ pre:=z1e c/\z48 I,res:=.int .u16 ((if z19 I c.flow ≠ 0 then z19 I c.flow else z1x I c.cycle)),rows:=[],eff:=[] }
def zew:FS:=fun args h=>match args,h with
 | [.agg [.row 0,.row 1],.agg [.int .i64 c_k,.row 2,.row 3,.row 4,.row 5]],[(0,.row false ty0 (.ints .i64 I_s)),(1,.row false ty1 (.arcs I_a)),(2,.row false ty2 (.ints .i64 c_f)),(3,.row false ty3 (.ints .i64 c_p)),(4,.row false ty4 (.bools c_s)),(5,.row false ty5 (.ints .i64 c_y))]=>some (zjo ⟨I_s,I_a⟩ ⟨c_k,c_f,c_p,c_s,c_y⟩)
 | _,_=>none
def askedC3_an (I:Inst) (c:Cert):List (Nat × Ann):=[]
def askedC3_A:List SV->z0d->List (Nat × Ann):=fun _ _=>[]
def zjn:z0b:=[(Fits_n,(true,z02 true Fits_fs)),(Turns_n,(true,z02 true Turns_fs))]
abbrev askedC3_n:Nat:=132
def askedC3_I (I:Inst) (c:Cert):List (Nat × z08):=[]
def askedC3_IA:List SV->z0d->List (Nat × z08):=fun _ _=>[]
abbrev askedC_n:Nat:=117
def askedC_g:z0b:=[]
def zjp:Vc.Spec:=z2k TT askedC_g (fun _ _ _=>[]) Tryz.f117
def Check_r (I:Inst) (c:Cert):FRes:={ pre:=z1e c/\z48 I,res:=.int .u16 (z1f I c),rows:=[],eff:=[] }
def zhe:FS:=fun args h=>match args,h with
 | [.agg [.row 0,.row 1],.agg [.int .i64 c_k,.row 2,.row 3,.row 4,.row 5]],[(0,.row false ty0 (.ints .i64 I_s)),(1,.row false ty1 (.arcs I_a)),(2,.row false ty2 (.ints .i64 c_f)),(3,.row false ty3 (.ints .i64 c_p)),(4,.row false ty4 (.bools c_s)),(5,.row false ty5 (.ints .i64 c_y))]=>some (Check_r ⟨I_s,I_a⟩ ⟨c_k,c_f,c_p,c_s,c_y⟩)
 | _,_=>none
def Check_an (I:Inst) (c:Cert):List (Nat × Ann):=[]
def Check_A:List SV->z0d->List (Nat × Ann):=fun _ _=>[]
def Check_g:z0b:=[(zbj,(true,z02 true z6o)),(Plain13_n,(true,z02 true zei)),(askedC_n,(false,zjp)),(askedC1_n,(true,z02 true zes)),(askedC2_n,(true,z02 true zeu)),(askedC3_n,(true,z02 true zew))]
abbrev Check_n:Nat:=97
def Check_I (I:Inst) (c:Cert):List (Nat × z08):=[]
def Check_IA:List SV->z0d->List (Nat × z08):=fun _ _=>[]
end Go.Proofs.YtapeenpimcffpaaGreat
end
