/- Part of the proof: Law11, FP11, DQ11, FQ11, Ray, DR12, FR12, DS12, FS12, Trim, Law03, Trim2, Law15, Odd, TrimL, Cert, DK13. -/
import Derived.Test.YtapeenpimcffpaaZG7
import Derived.Test.YtapeenpimcffpaaZG5
import Derived.Test.YtapeenpimcffpaaZG6
import Derived.Test.YtapeenpimcffpaaZG1
set_option linter.all false
set_option linter.unusedSimpArgs false
set_option linter.unusedVariables false
set_option maxRecDepth 1000000
section
namespace Go.Ql
open Go Go.RowKit Go.Vc
theorem sgn_neg {r:Int} (h:zax r):sgn r < 0 ↔ r < 0:=by
 unfold sgn
 rw [zes h (by unfold zax; omega)]
 split
 ·omega
 ·split <;> omega
theorem sgn_pos {r:Int} (h:zax r):0 < sgn r ↔ 0 < r:=by
 unfold sgn
 rw [zes h (by unfold zax; omega)]
 split
 ·omega
 ·split <;> omega
def potK (l:List Arc) (x pot:List Int):Nat->Int
 | 0=>0
 | k + 1=>potK l x pot k + x.getD k 0 * (potR pot (l.getD k default).src - potR pot (l.getD k default).dst)
theorem sumTo_at {s f:Int} (P:Nat->Int) (h0:0 <= s) (n:Nat) (hn:s < n):z1b (fun v=>(if s = (v:Int) then f else 0) * P v) n = f * P s.toNat:=by
 rw [z0w (g:=fun v=>if s = (v:Int) then f * P s.toNat else 0) (fun v hv=>by
  by_cases e:s = (v:Int)
  ·have:s.toNat = v:=by omega
   rw [if_pos e,if_pos e,this]
  ·rw [if_neg e,if_neg e,Int.zero_mul]),z5x h0,if_pos hn]
theorem flowD_pot {n:Nat} {a:Arc} (pot:List Int) (f:Int) (ho:z2g n a = true):z1b (fun v:Nat=>z3i n a f v * pot.getD v 0) n = f * (potR pot a.src - potR pot a.dst):=by
 obtain ⟨o1,o2,o3,o4⟩:=okArc_iff.1 ho
 rw [z0w (g:=fun v:Nat=>(if a.src = (v:Int) then f else 0) * pot.getD v 0 - (if a.dst = (v:Int) then f else 0) * pot.getD v 0) (fun v _=>by
  simp only [z3i,ho,if_true,Int.sub_mul]),z5y,sumTo_at (fun v=>pot.getD v 0) o1 n o2,sumTo_at (fun v=>pot.getD v 0) o3 n o4]
 simp only [potR,o1,o3,if_true,Int.mul_sub]
theorem net_pot {n:Nat} {l:List Arc} (x pot:List Int) (ho:∀ a ∈ l,z2g n a = true):∀ k,k <= l.length->z1b (fun v:Nat=>z6o n l x k v * pot.getD v 0) n = potK l x pot k
 | 0,_=>by
  simp only [z6o,potK]
  rw [z0w (g:=fun _=>0) (fun v _=>by simp),z3m]
 | k + 1,h=>by
  have hm:l.getD k default ∈ l:=by rw [List.getD_eq_getElem?_getD,List.getElem?_eq_getElem (show k < l.length by omega)]; exact List.getElem_mem _
  simp only [potK]
  rw [<- net_pot x pot ho k (by omega),<- flowD_pot pot (x.getD k 0) (ho _ hm),<- z8k]
  refine z0w fun v _=>?_
  simp only [z6o,Int.add_mul]
theorem boundS_sum (l pot:List Int):∀ k,boundS l pot k = z1b (fun v=>l.getD v 0 * pot.getD v 0) k
 | 0=>rfl
 | k + 1=>by simp only [boundS,z1b,boundS_sum l pot k]
theorem z43 (n:Int) (pot:List Int):∀ (l r:List Arc) (s:Int),z1o n pot (l ++ r) s = (z1o n pot l s).bind (z1o n pot r)
 | [],r,s=>by simp [z1o]
 | a :: l,r,s=>by
  simp only [List.cons_append,z1o]
  split
  ·split
   ·split
    ·rfl
    ·exact z43 n pot l r _
   ·exact z43 n pot l r _
  ·exact z43 n pot l r _
def z8h (l:List Arc) (x pot:List Int) (j:Nat):Bool:=z49 (redP pot (l.getD j default)) (x.getD j 0) (l.getD j default)
theorem step_gap {a:Arc} {x r:Int} (hr:zax r) (hf:fitF a x = true) :
  (sgn r < 0->a.cap = inf->z49 r x a = false)/\(sgn r < 0->a.cap ≠ inf->0 <= (x - a.cap) * r/\((x - a.cap) * r = 0 ↔ z49 r x a = true))/\(¬ sgn r < 0->0 <= (x - a.low) * r/\((x - a.low) * r = 0 ↔ z49 r x a = true)):=by
 have hn:=sgn_neg hr
 have hp:=sgn_pos hr
 unfold fitF at hf
 simp only [Bool.and_eq_true,Bool.or_eq_true,decide_eq_true_eq] at hf
 refine ⟨fun h1 h2=>?_,fun h1 h2=>?_,fun h1=>?_⟩
 ·simp [z49,h1,h2]
 ·have h3:r < 0:=hn.1 h1
  have h4:x <= a.cap:=by rcases hf.2 with h | h; exact absurd h h2; exact h
  have h5:¬ 0 < sgn r:=by omega
  refine ⟨Int.mul_nonneg_of_nonpos_of_nonpos (by omega) (by omega),?_⟩
  rw [Int.mul_eq_zero]
  simp only [z49,h1,h2,h5,decide_true,decide_false,Bool.false_and,Bool.false_or,Bool.true_and,Bool.or_false,Bool.not_eq_true',decide_eq_false_iff_not,ne_eq,Decidable.not_not]
  omega
 ·have h3:0 <= r:=by omega
  refine ⟨Int.mul_nonneg (by omega) h3,?_⟩
  rw [Int.mul_eq_zero]
  by_cases h4:0 < sgn r
  ·have h5:=hp.1 h4
   simp only [z49,h1,h4,decide_true,decide_false,Bool.false_and,Bool.or_false,Bool.true_and,Bool.not_eq_true',decide_eq_false_iff_not,ne_eq,Decidable.not_not]
   omega
  ·have h5:r = 0:=by omega
   subst h5; simp [z49,sgn_zero]
theorem gap {n:Nat} {l:List Arc} {x pot:List Int} (s:Int) (ho:∀ a ∈ l,z2g n a = true) (hr:∀ a ∈ l,zax (redP pot a)) (hf:∀ j a,l[j]? = some a->fitF a (x.getD j 0) = true):∀ k,k <= l.length ->
  (z1o n pot (l.take k) s = none->∃ j,j < k/\z8h l x pot j = false)/\∀ t,z1o n pot (l.take k) s = some t->0 <= z9f l x k - potK l x pot k - (t - s)/\(z9f l x k - potK l x pot k - (t - s) = 0 ↔ ∀ j,j < k->z8h l x pot j = true)
 | 0,_=>by
  refine ⟨fun h=>?_,fun t h=>?_⟩
  ·simp [z1o] at h
  ·simp only [List.take_zero,z1o,Option.some.injEq] at h
   subst h
   simp [z9f,potK]
 | k + 1,h=>by
  have ih:=gap s ho hr hf k (by omega)
  have hk:l[k]? = some (l[k]'(by omega)):=List.getElem?_eq_getElem (by omega)
  generalize l[k]'(by omega) = a at hk
  have hd:l.getD k default = a:=by simp [List.getD,hk]
  have hm:=List.mem_of_getElem? hk
  have hg:=step_gap (hr a hm) (hf k a hk)
  have hoa:=ho a hm
  have hsj:z8h l x pot k = z49 (redP pot a) (x.getD k 0) a:=by unfold z8h; rw [hd]
  have hall:(∀ j,j < k + 1->z8h l x pot j = true) ↔ (∀ j,j < k->z8h l x pot j = true)/\z49 (redP pot a) (x.getD k 0) a = true:=by
   rw [<- hsj]
   constructor
   ·exact fun h=>⟨fun j hj=>h j (by omega),h k (by omega)⟩
   ·intro h j hj
    by_cases e:j = k
    ·subst e; exact h.2
    ·exact h.1 j (by omega)
  rw [z2a hk,z43]
  cases hb:z1o n pot (l.take k) s with
  | none =>
   refine ⟨fun _=>?_,fun t h=>by simp at h⟩
   obtain ⟨j,hj,hj2⟩:=ih.1 hb
   exact ⟨j,by omega,hj2⟩
  | some u =>
   have ih2:=ih.2 u hb
   simp only [Option.bind_some,z1o,hoa,if_true]
   have hc:z9f l x (k + 1) - potK l x pot (k + 1) = z9f l x k - potK l x pot k + x.getD k 0 * redP pot a:=by
    simp only [z9f,potK,hd,redP,redA,Int.mul_sub,Int.mul_add]
    rw [Int.mul_comm a.cost]
    omega
   rw [hall,hc]
   by_cases hs:sgn (redP pot a) < 0
   ·by_cases hi:a.cap = inf
    ·simp only [hs,hi,if_true]
     exact ⟨fun _=>⟨k,by omega,by rw [hsj]; exact hg.1 hs hi⟩,fun t h=>by simp at h⟩
    ·simp only [hs,hi,if_true,if_false]
     refine ⟨fun h=>by simp at h,fun t h=>?_⟩
     simp only [Option.some.injEq] at h
     subst h
     have h2:=hg.2.1 hs hi
     rw [Int.sub_mul] at h2
     rw [<- ih2.2,<- h2.2]
     omega
   ·simp only [hs,if_false]
    refine ⟨fun h=>by simp at h,fun t h=>?_⟩
    simp only [Option.some.injEq] at h
    subst h
    have h2:=hg.2.2 hs
    rw [Int.sub_mul] at h2
    rw [<- ih2.2,<- h2.2]
    omega
theorem redF_at {I:Inst} {pot:List Int} {k:Nat} {a:Arc} (h:I.arcs[k]? = some a) (ho:z2g I.sup.length a = true):redF I pot k = redP pot a:=by
 have hg:gOk I.sup.length I.arcs (k:Int) = true:=by rw [zaa (by omega) (by rw [Int.toNat_natCast]; exact h)]; exact ho
 obtain ⟨o1,o2,o3,o4⟩:=okArc_iff.1 ho
 unfold redF atF atT redP potR
 rw [if_pos hg,if_pos hg,if_pos hg,atA_get h ho,if_pos o1,if_pos o3]
theorem zee {I:Inst} {x pot:List Int} (hl:I.arcs.length <= 1000) (hx:A64 x) (hs:Within 4398046511104 I.sup) (hp:A64 pot) (hlp:pot.length = I.sup.length) (h:z16 I x = 0) :
  (boundF I pot = none->z0y I x pot = 33)/\∀ t,boundF I pot = some t->t <= costF I x/\(t = costF I x ↔ z0y I x pot = 0):=by
 have hz:=fitsF_zero.1 h
 have ho:∀ a ∈ I.arcs,z2g I.sup.length a = true:=fun a ha=>(z19 hz.1 ha).1
 have hP:∀ v,I64 (potR pot v):=fun v=>by
  unfold potR
  split
  ·exact hp.getD _
  ·simp [I64]
 have hr:∀ a ∈ I.arcs,zax (redP pot a):=fun a ha=>by
  have h1:=(z19 hz.1 ha).2.2
  have h2:=hP a.src
  have h3:=hP a.dst
  unfold redP redA
  unfold I64 at h2 h3
  unfold zax
  omega
 have hg:=gap (n:=I.sup.length) (l:=I.arcs) (x:=x) (pot:=pot) (boundS I.sup pot I.sup.length) ho hr (fitsAll_iff.1 hz.2.2.1) I.arcs.length (Nat.le_refl _)
 rw [List.take_length] at hg
 have hn:boundS I.sup pot I.sup.length = potK I.arcs x pot I.arcs.length:=by
  rw [boundS_sum,<- net_pot x pot ho I.arcs.length (Nat.le_refl _)]
  refine z0w fun v hv=>?_
  rw [fits_net hl hx hs h v hv]
 have hsl:∀ k,k < I.arcs.length->z3b I x pot k = z8h I.arcs x pot k:=fun k hk=>by
  have hget:I.arcs[k]? = some (I.arcs[k]):=List.getElem?_eq_getElem hk
  have hd:I.arcs.getD k default = I.arcs[k]:=by simp [List.getD,hget]
  unfold z3b z8h
  rw [redF_at hget (ho _ (List.getElem_mem hk)),hd]
 have hF:z0y I x pot = if (List.range I.arcs.length).all (z3b I x pot) then 0 else 33:=by
  unfold z0y
  rw [if_neg (by omega),if_neg (by omega)]
 refine ⟨fun hb=>?_,fun t hb=>?_⟩
 ·obtain ⟨j,hj,hj2⟩:=hg.1 hb
  rw [hF,if_neg]
  intro hall
  have:=List.all_eq_true.1 hall j (List.mem_range.2 hj)
  rw [hsl j hj,hj2] at this
  cases this
 ·have h2:=hg.2 t hb
  rw [hn] at h2
  unfold costF
  have h3:(t = z9f I.arcs x I.arcs.length) ↔ ∀ j,j < I.arcs.length->z8h I.arcs x pot j = true:=by
   rw [<- h2.2]; omega
  refine ⟨by omega,?_⟩
  rw [h3,hF]
  constructor
  ·intro h4
   rw [if_pos (List.all_eq_true.2 fun j hj=>by have hj:=List.mem_range.1 hj; rw [hsl j hj]; exact h4 j hj)]
  ·intro h4 j hj
   split at h4
   ·rename_i h5
    rw [<- hsl j hj]
    exact List.all_eq_true.1 h5 j (List.mem_range.2 hj)
   ·omega
theorem zde {l:List Arc} {x:List Int} {C X:Int} (hC:0 <= C) (hX:0 <= X) (hl:∀ a ∈ l,-C <= a.cost/\a.cost <= C) (hx:∀ k,-X <= x.getD k 0/\x.getD k 0 <= X):∀ k:Nat,k <= l.length->-(C * X * k) <= z9f l x k/\z9f l x k <= C * X * k
 | 0,_=>by simp [z9f]
 | k + 1,h=>by
  have ih:=zde hC hX hl hx k (by omega)
  have hm:l.getD k default ∈ l:=by rw [List.getD_eq_getElem?_getD,List.getElem?_eq_getElem (show k < l.length by omega)]; exact List.getElem_mem _
  have h1:=hl _ hm
  have h2:=hx k
  have hm:=mul_bound (a:=(l.getD k default).cost) (b:=x.getD k 0) h1.1 h1.2 h2.1 h2.2 hC hX
  rw [z9f,Int.natCast_succ,Int.mul_add,Int.mul_one]
  omega
theorem z11 {I:Inst} (h:z0b I = 0):I.sup.length <= 64/\I.arcs.length <= 256:=by
 unfold z0b at h
 split at h
 ·omega
 ·omega
theorem supErr_in:∀ (l:List Int) (s:Int),z1w l s = 0->Within 4398046511104 l/\s + l.sum = 0
 | [],s,h=>by
  unfold z1w at h
  split at h
  ·rename_i e; exact ⟨fun x hx=>(by cases hx),by simpa using e⟩
  ·omega
 | x :: l,s,h=>by
  unfold z1w at h
  split at h
  ·omega
  ·have ih:=supErr_in l (s + x) h
   refine ⟨fun y hy=>?_,by rw [List.sum_cons]; omega⟩
   rcases List.mem_cons.1 hy with rfl | hy
   ·omega
   ·exact ih.1 y hy
theorem z39 {I:Inst} (h:z0b I = 0):Within 4398046511104 I.sup/\I.sup.sum = 0:=by
 unfold z0b at h
 split at h
 ·omega
 ·split at h
  ·have:=supErr_in _ _ h
   exact ⟨this.1,by omega⟩
  ·omega
theorem A64.at {l:List Int} (h:A64 l) (k:Nat):-9223372036854775808 <= l.getD k 0/\l.getD k 0 <= 9223372036854775808:=by
 have:=h.getD k
 unfold I64 at this
 omega
theorem z4i {I:Inst} {x:List Int} (h:z0b I = 0) (hx:A64 x):zax (costF I x):=by
 have hl:=z11 h
 have:=zde (C:=4398046511104) (X:=9223372036854775808) (by omega) (by omega) (fun a ha=>(z19 h ha).2.2) (fun k=>hx.at k) I.arcs.length (Nat.le_refl _)
 unfold costF zax
 omega
theorem slack_best {I:Inst} {x y pot:List Int} (hx:A64 x) (hy:A64 y) (hp:A64 pot) (hs:z0y I y pot = 0) (hf:z16 I x = 0):wcmp (W (costF I y)) (W (costF I x)) <= 0:=by
 have hfy:z16 I y = 0:=by
  unfold z0y at hs
  split at hs
  ·omega
  ·rename_i h; omega
 have hlp:pot.length = I.sup.length:=by
  unfold z0y at hs
  split at hs
  ·omega
  ·split at hs
   ·omega
   ·rename_i h; omega
 have hr:=(fitsF_zero.1 hfy).1
 have hl:=z11 hr
 have hw:=(z39 hr).1
 have h1:=zee (by omega) hy hw hp hlp hfy
 have h2:=zee (by omega) hx hw hp hlp hf
 cases hb:boundF I pot with
 | none=>have:=h1.1 hb; omega
 | some t =>
  have e1:=(h1.2 t hb).2.2 hs
  have e2:=(h2.2 t hb).1
  rw [zes (z4i hr hy) (z4i hr hx)]
  split
  ·omega
  ·split <;> omega
theorem round_zero (P:Nat->Int) {m:Nat}:∀ t,t <= m->0 < m->z1b (fun k=>P ((k + 1) % m) - P k) t = P (t % m) - P 0
 | 0,_,_=>by simp [z1b]
 | t + 1,h,h0=>by
  rw [z1b,round_zero P t (by omega) h0,Nat.mod_eq_of_lt (show t < m by omega)]
  omega
end Go.Ql
end
section
namespace Go.Proofs.Ytapeenpimcffpaa
open Go Go.RowKit Go.Ql Go.Vc
def of11_E0 (pot : List Int) (n : Int) (ty0 : TypeId) : Prop :=
      (decide (n ≥ (↑pot.length:Int)) = true->((0:Int) = pot.getD n.toNat (0:Int)/\True)/\True) /\
 (decide (n ≥ (↑pot.length:Int)) = false ->
 ((0:Int) <= n/\n < (↑pot.length:Int))/\n.toNat < pot.length/\∀ (x:Int),pot[n.toNat]? = some x->(x = pot.getD n.toNat (0:Int)/\True)/\True)
theorem of11_q (pot:List Int) (n:Int) (ty0:TypeId):of11_E0 pot n ty0 = z25 TT of11_g (of11_I pot n) (of11_an pot n) Try.f77 [.row 0,.int .i64 n] [(0,.row false ty0 (.ints .i64 pot))] (of11_r pot n):=by kernel_rfl
theorem of11_E (pot:List Int) (n:Int) (ty0:TypeId) (hp:0 <= n):FVc TT of11_g (of11_I pot n) (of11_an pot n) Try.f77 [.row 0,.int .i64 n] [(0,.row false ty0 (.ints .i64 pot))] (of11_r pot n):=by
 refine FVc.of (of11_E0 pot n ty0) (of11_q pot n ty0) ?_
 unfold of11_E0
 simp only [eq_self,exists_const,forall_const,decide_eq_true_eq,decide_eq_false_iff_not,and_true,true_and,bne_iff_ne,ne_eq,bne_eq_false_iff_eq,Int.toNat_natCast,Bool.not_eq_true',Bool.not_eq_false',beq_iff_eq,beq_eq_false_iff_ne,z08]
 refine ⟨fun h=>?_,fun h=>⟨by omega,by omega,fun x hx=>?_⟩⟩
 ·simp [List.getD,List.getElem?_eq_none (show pot.length <= n.toNat by omega)]
 ·simp [List.getD,hx]
theorem of11_ok:SpecOk Try.prog of11_n true (z03 true of11_fs) :=
 z09 z0n (show z18 Try.prog of11_g from z04) (by kernel_rfl) mixedOrders Try.func77 rfl rfl (by kernel_rfl) (n:=2) (by decide +kernel) (I:=of11_IA) (fun _ _=>z06) (A:=of11_A)
  (fun args h r hr=>by
   unfold of11_fs at hr
   split at hr
   ·rename_i n ty0 pot; cases hr; refine ⟨rfl,fun hp=>?_⟩; have hE:=of11_E pot n ty0 hp; exact hE
   ·cases hr)
def z9z (p : Arc) (pf : Int) (pt : Int) : Prop :=
      I64 p.cost /\
 I64 pf /\
 ((W p.cost).ok/\(W pf).ok) /\
 I64 pt /\
 ((z5b (W p.cost) (W pf)).ok/\(W pt).ok) /\
 (((z5d (z5b (W p.cost) (W pf)) (W pt)).hi = (W (redA p pf pt)).hi/\(z5d (z5b (W p.cost) (W pf)) (W pt)).lo = (W (redA p pf pt)).lo/\True)/\True)/\True
theorem reduced_q (p:Arc) (pf:Int) (pt:Int):z9z p pf pt = z25 TT zei (reduced_I p pf pt) (reduced_an p pf pt) Try.f61 [.agg [.int .i64 p.src,.int .i64 p.dst,.int .i64 p.low,.int .i64 p.cap,.int .i64 p.cost,.int .i64 pf,.int .i64 pt]] [] (zej p pf pt):=by kernel_rfl
theorem reduced_E (p:Arc) (pf:Int) (pt:Int) (hp:I64 p.cost/\I64 pf/\I64 pt):FVc TT zei (reduced_I p pf pt) (reduced_an p pf pt) Try.f61 [.agg [.int .i64 p.src,.int .i64 p.dst,.int .i64 p.low,.int .i64 p.cap,.int .i64 p.cost,.int .i64 pf,.int .i64 pt]] [] (zej p pf pt):=by
 refine FVc.of (z9z p pf pt) (reduced_q p pf pt) ?_
 unfold z9z
 obtain ⟨p1,p2,p3⟩:=hp
 simp only [eq_self,exists_const,forall_const,decide_eq_true_eq,decide_eq_false_iff_not,and_true,true_and,bne_iff_ne,ne_eq,bne_eq_false_iff_eq,Int.toNat_natCast,Bool.not_eq_true',Bool.not_eq_false',beq_iff_eq,beq_eq_false_iff_ne,z08]
 simp [p1,p2,p3,W_ok,redA]
theorem reduced_ok:SpecOk Try.prog reduced_n true (z03 true za0) :=
 z09 z0n (show z18 Try.prog zei from z00 z90 (z00 Minus_ok (z00 zbz (z04)))) (by kernel_rfl) mixedOrders Try.func61 rfl rfl (by kernel_rfl) (n:=1) (by decide +kernel) (I:=reduced_IA) (fun _ _=>z06) (A:=reduced_A)
  (fun args h r hr=>by
   unfold za0 at hr
   split at hr
   ·rename_i p_0 p_1 p_2 p_3 p_4 pf pt; cases hr; refine ⟨rfl,fun hp=>?_⟩; have hE:=reduced_E ⟨p_0,p_1,p_2,p_3,p_4⟩ pf pt hp; exact hE
   ·cases hr)
def sign_E0 (p : Arc) (pf : Int) (pt : Int) : Prop :=
   (I64 p.cost/\I64 pf/\I64 pt)/\I64 (0:Int)/\((W (redA p pf pt)).ok/\(W (0:Int)).ok)/\(wcmp (W (redA p pf pt)) (W (0:Int)) = sgn (redA p pf pt)/\True)/\True
theorem sign_q (p:Arc) (pf:Int) (pt:Int):sign_E0 p pf pt = z25 TT sign_g (sign_I p pf pt) (sign_an p pf pt) Try.f52 [.agg [.int .i64 p.src,.int .i64 p.dst,.int .i64 p.low,.int .i64 p.cap,.int .i64 p.cost,.int .i64 pf,.int .i64 pt]] [] (sign_r p pf pt):=by kernel_rfl
theorem sign_E (p:Arc) (pf:Int) (pt:Int) (hp:I64 p.cost/\I64 pf/\I64 pt):FVc TT sign_g (sign_I p pf pt) (sign_an p pf pt) Try.f52 [.agg [.int .i64 p.src,.int .i64 p.dst,.int .i64 p.low,.int .i64 p.cap,.int .i64 p.cost,.int .i64 pf,.int .i64 pt]] [] (sign_r p pf pt):=by
 refine FVc.of (sign_E0 p pf pt) (sign_q p pf pt) ?_
 unfold sign_E0
 obtain ⟨p1,p2,p3⟩:=hp
 have i0:I64 0:=by simp [I64]
 simp only [eq_self,exists_const,forall_const,decide_eq_true_eq,decide_eq_false_iff_not,and_true,true_and,bne_iff_ne,ne_eq,bne_eq_false_iff_eq,Int.toNat_natCast,Bool.not_eq_true',Bool.not_eq_false',beq_iff_eq,beq_eq_false_iff_ne,z08]
 simp [p1,p2,p3,W_ok,i0,sgn]
theorem sign_ok:SpecOk Try.prog sign_n true (z03 true sign_fs) :=
 z09 z0n (show z18 Try.prog sign_g from z00 z8s (z00 reduced_ok (z00 zbz (z04)))) (by kernel_rfl) mixedOrders Try.func52 rfl rfl (by kernel_rfl) (n:=1) (by decide +kernel) (I:=sign_IA) (fun _ _=>z06) (A:=sign_A)
  (fun args h r hr=>by
   unfold sign_fs at hr
   split at hr
   ·rename_i p_0 p_1 p_2 p_3 p_4 pf pt; cases hr; refine ⟨rfl,fun hp=>?_⟩; have hE:=sign_E ⟨p_0,p_1,p_2,p_3,p_4⟩ pf pt hp; exact hE
   ·cases hr)
theorem at_ok {I:Inst} {pot:List Int} {a:Int} (h1:A64 pot) (h2:A64c I.arcs):I64 (atA I a).cost/\I64 (atF I pot a)/\I64 (atT I pot a):=by
 have z:I64 0:=by simp [I64]
 refine ⟨?_,?_,?_⟩
 ·unfold atA z41
  split
  ·rename_i h
   unfold gOk at h
   simp only [Bool.and_eq_true,decide_eq_true_eq] at h
   have hl:a.toNat < I.arcs.length:=by omega
   rw [List.getD_eq_getElem?_getD,List.getElem?_eq_getElem hl]
   exact h2 _ (List.getElem_mem hl)
  ·exact z
 ·unfold atF
  split
  ·exact h1.getD _
  ·exact z
 ·unfold atT
  split
  ·exact h1.getD _
  ·exact z
def at11_E0 (I : Inst) (pot : List Int) (a : Int) (ty0 ty1 ty2 : TypeId) : Prop :=
      (decide (a < (0:Int)) = true ->
 ((((0:Int) = (atA I a).src /\
 (0:Int) = (atA I a).dst /\
 (0:Int) = (atA I a).low/\(0:Int) = (atA I a).cap/\(0:Int) = (atA I a).cost/\(0:Int) = atF I pot a/\(0:Int) = atT I pot a/\True) /\
 false = gOk (↑I.sup.length:Int) I.arcs a/\True) /\
 True) /\
 True) /\
 (decide (a < (0:Int)) = false ->
 (decide (a ≥ (↑I.arcs.length:Int)) = true ->
 ((((0:Int) = (atA I a).src /\
 (0:Int) = (atA I a).dst /\
 (0:Int) = (atA I a).low/\(0:Int) = (atA I a).cap/\(0:Int) = (atA I a).cost/\(0:Int) = atF I pot a/\(0:Int) = atT I pot a/\True) /\
 false = gOk (↑I.sup.length:Int) I.arcs a/\True) /\
 True) /\
 True) /\
 (decide (a ≥ (↑I.arcs.length:Int)) = false ->
 ((0:Int) <= a/\a < (↑I.arcs.length:Int)) /\
 a.toNat < I.arcs.length /\
 ∀ (x:Arc),
 I.arcs[a.toNat]? = some x ->
 (decide (x.src < (0:Int)) = true ->
 ((((0:Int) = (atA I a).src /\
 (0:Int) = (atA I a).dst /\
 (0:Int) = (atA I a).low/\(0:Int) = (atA I a).cap/\(0:Int) = (atA I a).cost/\(0:Int) = atF I pot a/\(0:Int) = atT I pot a/\True) /\
 false = gOk (↑I.sup.length:Int) I.arcs a/\True) /\
 True) /\
 True) /\
 (decide (x.src < (0:Int)) = false ->
 (decide (x.src ≥ (↑I.sup.length:Int)) = true ->
 ((((0:Int) = (atA I a).src /\
 (0:Int) = (atA I a).dst /\
 (0:Int) = (atA I a).low/\(0:Int) = (atA I a).cap/\(0:Int) = (atA I a).cost/\(0:Int) = atF I pot a/\(0:Int) = atT I pot a/\True) /\
 false = gOk (↑I.sup.length:Int) I.arcs a/\True) /\
 True) /\
 True) /\
 (decide (x.src ≥ (↑I.sup.length:Int)) = false ->
 (decide (x.dst < (0:Int)) = true ->
 ((((0:Int) = (atA I a).src /\
 (0:Int) = (atA I a).dst /\
 (0:Int) = (atA I a).low /\
 (0:Int) = (atA I a).cap/\(0:Int) = (atA I a).cost/\(0:Int) = atF I pot a/\(0:Int) = atT I pot a/\True) /\
 false = gOk (↑I.sup.length:Int) I.arcs a/\True) /\
 True) /\
 True) /\
 (decide (x.dst < (0:Int)) = false ->
 (decide (x.dst ≥ (↑I.sup.length:Int)) = true ->
 ((((0:Int) = (atA I a).src /\
 (0:Int) = (atA I a).dst /\
 (0:Int) = (atA I a).low /\
 (0:Int) = (atA I a).cap/\(0:Int) = (atA I a).cost/\(0:Int) = atF I pot a/\(0:Int) = atT I pot a/\True) /\
 false = gOk (↑I.sup.length:Int) I.arcs a/\True) /\
 True) /\
 True) /\
 (decide (x.dst ≥ (↑I.sup.length:Int)) = false ->
 (0:Int) <= x.src /\
 (0:Int) <= x.dst /\
 (((x.src = (atA I a).src /\
 x.dst = (atA I a).dst /\
 x.low = (atA I a).low /\
 x.cap = (atA I a).cap /\
 x.cost = (atA I a).cost/\pot.getD x.src.toNat (0:Int) = atF I pot a/\pot.getD x.dst.toNat (0:Int) = atT I pot a/\True) /\
 true = gOk (↑I.sup.length:Int) I.arcs a/\True) /\
 True) /\
 True))))))
theorem at11_q (I:Inst) (pot:List Int) (a:Int) (ty0 ty1 ty2:TypeId):at11_E0 I pot a ty0 ty1 ty2 = z25 TT at11_g (at11_I I pot a) (at11_an I pot a) Try.f60 [.agg [.row 0,.row 1],.row 2,.int .i64 a] [(0,.row false ty0 (.ints .i64 I.sup)),(1,.row false ty1 (.arcs I.arcs)),(2,.row false ty2 (.ints .i64 pot))] (at11_r I pot a):=by kernel_rfl
theorem at11_E (I:Inst) (pot:List Int) (a:Int) (ty0 ty1 ty2:TypeId) (hp:True):FVc TT at11_g (at11_I I pot a) (at11_an I pot a) Try.f60 [.agg [.row 0,.row 1],.row 2,.int .i64 a] [(0,.row false ty0 (.ints .i64 I.sup)),(1,.row false ty1 (.arcs I.arcs)),(2,.row false ty2 (.ints .i64 pot))] (at11_r I pot a):=by
 refine FVc.of (at11_E0 I pot a ty0 ty1 ty2) (at11_q I pot a ty0 ty1 ty2) ?_
 unfold at11_E0
 have z:gOk I.sup.length I.arcs a = false->(0 = (atA I a).src/\0 = (atA I a).dst/\0 = (atA I a).low/\0 = (atA I a).cap/\0 = (atA I a).cost/\0 = atF I pot a/\0 = atT I pot a)/\false = gOk I.sup.length I.arcs a:=fun h=>by
  simp [atA,z41,atF,atT,h]
 simp only [eq_self,exists_const,forall_const,decide_eq_true_eq,decide_eq_false_iff_not,and_true,true_and,bne_iff_ne,ne_eq,bne_eq_false_iff_eq,Int.toNat_natCast,Bool.not_eq_true',Bool.not_eq_false',beq_iff_eq,beq_eq_false_iff_ne,z08]
 refine ⟨fun h=>z (zds (.inl h)),fun h=>⟨fun h2=>z (zds (.inr h2)),fun h2=>⟨by omega,by omega,fun x hx=>?_⟩⟩⟩
 have hg:=zaa (n:=I.sup.length) (a:=a) (by omega) hx
 have no:¬ (0 <= x.src/\x.src < I.sup.length/\0 <= x.dst/\x.dst < I.sup.length)->gOk I.sup.length I.arcs a = false:=fun h=>by
  rw [hg]
  cases ho:z2g (I.sup.length:Int) x with
  | false=>rfl
  | true=>exact absurd (okArc_iff.1 ho) h
 refine ⟨fun h3=>z (no (by omega)),fun h3=>⟨fun h4=>z (no (by omega)),fun h4=>⟨fun h5=>z (no (by omega)),fun h5=>⟨fun h6=>z (no (by omega)),fun h6=>⟨by omega,by omega,?_⟩⟩⟩⟩⟩
 have hgt:gOk I.sup.length I.arcs a = true:=by rw [hg]; exact okArc_iff.2 ⟨by omega,by omega,by omega,by omega⟩
 have hA:atA I a = x:=by unfold atA z41; rw [if_pos hgt]; simp [List.getD,hx]
 simp [hgt,hA,atF,atT]
theorem at11_ok:SpecOk Try.prog at11_n true (z03 true at11_fs) :=
 z09 z0n (show z18 Try.prog at11_g from z00 of11_ok (z04)) (by kernel_rfl) mixedOrders Try.func60 rfl rfl (by kernel_rfl) (n:=3) (by decide +kernel) (I:=at11_IA) (fun _ _=>z06) (A:=at11_A)
  (fun args h r hr=>by
   unfold at11_fs at hr
   split at hr
   ·rename_i a ty0 I_s ty1 I_a ty2 pot; cases hr; refine ⟨rfl,fun hp=>?_⟩; have hE:=at11_E ⟨I_s,I_a⟩ pot a ty0 ty1 ty2 hp; exact hE
   ·cases hr)
theorem arcs11_ok:SpecOk Try.prog arcs11_n false zcf :=
 z3u z0n (show z18 Try.prog arcs11_g from z04) (by kernel_rfl) mixedOrders Try.func51 rfl rfl (by kernel_rfl) _
abbrev z67 (I:Inst) (g':Nat) (g:Nat) (R:Loop->Prop) (x:List Int) (pot:List Int):=(I.arcs.length - g' < I.arcs.length - g/\((True/\(0 = 0/\(0 = 0/\((↑I.arcs.length:Int) = ↑I.arcs.length/\(IntKind.i64.wrap ((↑g:Int) + (1:Int)) = (↑g':Int)/\True)))))/\(R = R/\((True/\True)/\((True/\(True/\True))/\(((0:Int) = 0/\True)/\((True/\True)/\((True/\(True/\True))/\(I.sup = I.sup/\(I.arcs = I.arcs/\(x = x/\(pot = pot/\True))))))))))))
abbrev z4s (I:Inst) (g:Nat) (pot:List Int):=(redA (atA I (↑g:Int)) (atF I pot (↑g:Int)) (atT I pot (↑g:Int)))
abbrev z68 (g':Nat) (I:Inst) (x:List Int) (pot:List Int):=(g' <= I.arcs.length/\(∀ (j:Nat),j < g'->z3b I x pot j = true))
abbrev z7x (I:Inst) (g:Nat):=((atA I (↑g:Int)).cap == (4611686018427387904:Int))
def Slack_E0 (I : Inst) (x : List Int) (pot : List Int) (ty0 ty1 ty2 ty3 : TypeId) : Prop :=
   (I.sup.length <= (10000:Nat)/\(I.arcs.length <= (10000:Nat)/\(A64 x/\(A64 I.sup))))/\((z16 I x != (0:Int)) = true->(z16 I x = z0y I x pot/\True)/\True)/\((z16 I x != (0:Int)) = false->(((↑pot.length:Int) != (↑I.sup.length:Int)) = true->((30:Int) = z0y I x pot/\True)/\True)/\(((↑pot.length:Int) != (↑I.sup.length:Int)) = false->∀ (R:Loop->Prop),∃ (g0:Nat),((g0 <= I.arcs.length/\(∀ (j:Nat),j < g0->z3b I x pot j = true))/\((True/\(0 = 0/\(0 = 0/\((↑I.arcs.length:Int) = ↑I.arcs.length/\((0:Int) = ↑g0/\True)))))/\(R = R/\((True/\True)/\((True/\(True/\True))/\(((0:Int) = 0/\True)/\((True/\True)/\((True/\(True/\True))/\(I.sup = I.sup/\(I.arcs = I.arcs/\(x = x/\(pot = pot/\True))))))))))))/\∀ (g:Nat),(g <= I.arcs.length/\(∀ (j:Nat),j < g->z3b I x pot j = true))->(decide ((↑g:Int) < ↑I.arcs.length) = true->True/\(gOk (↑I.sup.length:Int) I.arcs (↑g:Int) = true->R = R/\(I64 (atA I (↑g:Int)).cost/\(I64 (atF I pot (↑g:Int))/\(I64 (atT I pot (↑g:Int)))))/\(decide (sgn (z4s I g pot) > (0:Int)) = true->((0:Int) <= ↑g/\((↑g:Int) < ↑x.length))/\((↑g:Int).toNat < x.length/\(∀ (x_1:Int),x[(↑g:Int).toNat]? = some x_1->((x_1 != (atA I (↑g:Int)).low) = true->((33:Int) = z0y I x pot/\True)/\True)/\((x_1 != (atA I (↑g:Int)).low) = false->(decide (sgn (z4s I g pot) < (0:Int)) = true->((0:Int) <= ↑g/\((↑g:Int) < ↑x.length))/\((↑g:Int).toNat < x.length/\(∀ (x_2:Int),x[(↑g:Int).toNat]? = some x_2->((x_2 != (atA I (↑g:Int)).cap) = true->((33:Int) = z0y I x pot/\True)/\True)/\((x_2 != (atA I (↑g:Int)).cap) = false->((z7x I g) = true->((33:Int) = z0y I x pot/\True)/\True)/\((z7x I g) = false->∃ (g':Nat),(z68 g' I x pot)/\(z67 I g' g R x pot))))))/\(decide (sgn (z4s I g pot) < (0:Int)) = false->∃ (g':Nat),(z68 g' I x pot)/\(z67 I g' g R x pot))))))/\(decide (sgn (z4s I g pot) > (0:Int)) = false->(decide (sgn (z4s I g pot) < (0:Int)) = true->((0:Int) <= ↑g/\((↑g:Int) < ↑x.length))/\((↑g:Int).toNat < x.length/\(∀ (x_1:Int),x[(↑g:Int).toNat]? = some x_1->((x_1 != (atA I (↑g:Int)).cap) = true->((33:Int) = z0y I x pot/\True)/\True)/\((x_1 != (atA I (↑g:Int)).cap) = false->((z7x I g) = true->((33:Int) = z0y I x pot/\True)/\True)/\((z7x I g) = false->∃ (g':Nat),(z68 g' I x pot)/\(z67 I g' g R x pot))))))/\(decide (sgn (z4s I g pot) < (0:Int)) = false->∃ (g':Nat),(z68 g' I x pot)/\(z67 I g' g R x pot))))/\(gOk (↑I.sup.length:Int) I.arcs (↑g:Int) = false->∃ (g':Nat),(z68 g' I x pot)/\(z67 I g' g R x pot)))/\(decide ((↑g:Int) < ↑I.arcs.length) = false->((0:Int) = z0y I x pot/\True)/\True)))
theorem Slack_q (I:Inst) (x:List Int) (pot:List Int) (ty0 ty1 ty2 ty3:TypeId):Slack_E0 I x pot ty0 ty1 ty2 ty3 = z25 TT Slack_g (Slack_I I x pot) (Slack_an I x pot) Try.f45 [.agg [.row 0,.row 1],.row 2,.row 3] [(0,.row false ty0 (.ints .i64 I.sup)),(1,.row false ty1 (.arcs I.arcs)),(2,.row false ty2 (.ints .i64 x)),(3,.row false ty3 (.ints .i64 pot))] (Slack_r I x pot):=by kernel_rfl
theorem Slack_E (I:Inst) (x:List Int) (pot:List Int) (ty0 ty1 ty2 ty3:TypeId) (hp:I.sup.length <= 10000/\I.arcs.length <= 10000/\A64 x/\A64 I.sup/\A64 pot/\A64c I.arcs):FVc TT Slack_g (Slack_I I x pot) (Slack_an I x pot) Try.f45 [.agg [.row 0,.row 1],.row 2,.row 3] [(0,.row false ty0 (.ints .i64 I.sup)),(1,.row false ty1 (.arcs I.arcs)),(2,.row false ty2 (.ints .i64 x)),(3,.row false ty3 (.ints .i64 pot))] (Slack_r I x pot):=by
 refine FVc.of (Slack_E0 I x pot ty0 ty1 ty2 ty3) (Slack_q I x pot ty0 ty1 ty2 ty3) ?_
 unfold Slack_E0
 delta z7x z68 z4s z67
 obtain ⟨p1,p2,p3,p4,p5,p6⟩:=hp
 have bad:∀ j,j < I.arcs.length->z16 I x = 0->pot.length = I.sup.length->z3b I x pot j = false->33 = z0y I x pot:=fun j hj h1 h2 h3=>by
  unfold z0y
  rw [if_neg (by omega),if_neg (by omega),if_neg]
  intro ha
  have:=List.all_eq_true.1 ha j (List.mem_range.2 hj)
  rw [h3] at this; cases this
 have nx:∀ g,g < I.arcs.length->(∀ j,j < g->z3b I x pot j = true)->z3b I x pot g = true->∃ g',(g' <= I.arcs.length/\∀ j,j < g'->z3b I x pot j = true)/\I.arcs.length - g' < I.arcs.length - g/\IntKind.i64.wrap ((g:Int) + 1) = (g':Int):=fun g hg h1 h2 =>
  ⟨g + 1,⟨by omega,fun j hj=>by
   by_cases e:j = g
   ·subst e; exact h2
   ·exact h1 j (by omega)⟩,by omega,by rw [w64 (by omega) (by omega)]; omega⟩
 simp only [eq_self,exists_const,forall_const,decide_eq_true_eq,decide_eq_false_iff_not,and_true,true_and,bne_iff_ne,ne_eq,bne_eq_false_iff_eq,Int.toNat_natCast,Bool.not_eq_true',Bool.not_eq_false',beq_iff_eq,beq_eq_false_iff_ne,z08]
 refine ⟨⟨p1,p2,p3,p4⟩,fun h=>by unfold z0y; rw [if_pos h],fun hf=>⟨fun h=>by unfold z0y; rw [if_neg (by omega),if_pos (by omega)],fun hl=>⟨0,⟨⟨by omega,fun j hj=>by omega⟩,rfl⟩,fun g hg=>⟨fun h1=>?_,fun h1=>?_⟩⟩⟩⟩
 ·have hz:=fitsF_zero.1 hf
  have hgl:g < I.arcs.length:=by omega
  have hgx:g < x.length:=by omega
  obtain ⟨b,hb⟩:∃ b,I.arcs[g]? = some b:=⟨_,List.getElem?_eq_getElem hgl⟩
  obtain ⟨y,hy⟩:∃ y,x[g]? = some y:=⟨_,List.getElem?_eq_getElem hgx⟩
  have ho:=(z19 hz.1 (List.mem_of_getElem? hb)).1
  have hgk:gOk I.sup.length I.arcs (g:Int) = true:=by rw [zaa (by omega) (by rw [Int.toNat_natCast]; exact hb)]; exact ho
  have hA:=atA_get hb ho
  have hr:redA (atA I g) (atF I pot g) (atT I pot g) = redF I pot g:=by unfold redF; rw [if_pos hgk]
  have hbd:I.arcs.getD g default = b:=by simp [List.getD,hb]
  have hyd:x.getD g 0 = y:=by simp [List.getD,hy]
  have key:z3b I x pot g = z49 (redF I pot g) y b:=by unfold z3b; rw [hbd,hyd]
  refine ⟨fun _=>⟨at_ok p5 p6,?_⟩,fun h=>by rw [hgk] at h; cases h⟩
  have B:=bad g hgl hf (by omega)
  have N:=nx g hgl hg.2
  rw [key] at B N
  rw [hr,hA]
  simp only [hy,Option.some.injEq,forall_eq']
  have q1:(0:Int) <= g:=by omega
  have q2:(g:Int) < x.length:=by omega
  unfold z49 inf at B N
  generalize redF I pot g = r at *
  refine ⟨fun c1=>⟨⟨q1,q2⟩,hgx,fun c2=>B (by simp [show 0 < sgn r from c1,c2]),fun c2=>⟨fun c3=>by omega,fun c3=>N (by simp [c3,c2])⟩⟩,fun c1=>⟨fun c3=>⟨⟨q1,q2⟩,hgx,fun c4=>B (by simp [c3,c4]),fun c4=>⟨fun c5=>B (by simp [c3,c5]),fun c5=>N (by simp [show ¬ 0 < sgn r from c1,c4,c5])⟩⟩,fun c3=>N (by simp [show ¬ 0 < sgn r from c1,c3])⟩⟩
 ·have:(List.range I.arcs.length).all (z3b I x pot) = true:=List.all_eq_true.2 fun j hj=>hg.2 j (by have:=List.mem_range.1 hj; omega)
  unfold z0y
  rw [if_neg (by omega),if_neg (by omega),if_pos this]
theorem Slack_i0_ok (I:Inst) (x:List Int) (pot:List Int):zbr Try.prog 59 (Slack_i0 I x pot) :=
 inlI_ok z0n (show z18 Try.prog Slack_i0g from z00 at11_ok (z04)) (by kernel_rfl) mixedOrders Try.func59 rfl rfl (fun key spec=>by kernel_rfl) _
theorem Slack_ok:SpecOk Try.prog Slack_n true (z03 true Slack_fs) :=
 z09 z0n (show z18 Try.prog Slack_g from z00 Fits_ok (z00 arcs11_ok (z00 sign_ok (z04)))) (by kernel_rfl) mixedOrders Try.func45 rfl rfl (by kernel_rfl) (n:=3) (by decide +kernel) (I:=Slack_IA) (fun args h=>by
   unfold Slack_IA
   split
   ·exact isOk_cons (Slack_i0_ok _ _ _) (z06)
   ·exact z06) (A:=Slack_A)
  (fun args h r hr=>by
   unfold Slack_fs at hr
   split at hr
   ·rename_i ty0 I_s ty1 I_a ty2 x ty3 pot; cases hr; refine ⟨rfl,fun hp=>?_⟩; have hE:=Slack_E ⟨I_s,I_a⟩ x pot ty0 ty1 ty2 ty3 hp; exact hE
   ·cases hr)
end Go.Proofs.Ytapeenpimcffpaa
end
section
namespace Go.Proofs.Ytapeenpimcffpaa
open Go Go.RowKit Go.Ql Go.Vc
end Go.Proofs.Ytapeenpimcffpaa
end
section
namespace Go.Proofs.Ytapeenpimcffpaa
open Go Go.RowKit Go.Ql Go.Vc
end Go.Proofs.Ytapeenpimcffpaa
end
section
namespace Go.Ql
open Go Go.RowKit Go.Vc
def z2w (I:Inst) (a:Int):Bool:=decide (0 <= a) && decide (a < I.arcs.length)
def z6m (I:Inst) (a:Int):Arc:=I.arcs.getD a.toNat default
def rayD (I:Inst) (a:Int):Int:=if z2w I a then (z6m I a).cost else 0
def z8p (I:Inst) (l:List Int):Nat->Int
 | 0=>0
 | k + 1=>z8p I l k + rayD I (l.getD k 0)
def rayS (I:Inst) (l:List Int):Int:=z8p I l l.length
def c1F (I:Inst) (l:List Int):Bool:=l.all (z2w I)
def c2F (l:List Int):Bool:=decide l.Nodup
def linkF (I:Inst) (l:List Int) (k:Nat):Bool:=decide ((z6m I (l.getD k 0)).dst = (z6m I (l.getD ((k + 1) % l.length) 0)).src)
def c3F (I:Inst) (l:List Int):Bool:=(List.range l.length).all (linkF I l)
def c4F (I:Inst) (l:List Int):Bool:=l.all fun a=>decide ((z6m I a).cap = inf)
def c5F (I:Inst) (l:List Int):Bool:=decide (wcmp (W (rayS I l)) (W 0) < 0)
def z1t (I:Inst) (l:List Int):Int :=
 if z0b I ≠ 0 then z0b I else if l.length = 0 ∨ I.arcs.length < l.length then 30
 else if c1F I l && c2F l && c3F I l && c4F I l && c5F I l then 0 else 35
def metM (l:List Int):List (List Int × Int):=l.map fun a=>([a],1)
def nodI (l:List Int):Prop:=l.Nodup
theorem all_take {p:Int->Bool} {l:List Int} {k:Nat} {x:Int} (h:l[k]? = some x):(l.take (k + 1)).all p = ((l.take k).all p && p x):=by rw [z2a h,List.all_append]; simp
theorem all_not {p:Int->Bool} {l:List Int} {k:Nat} {x:Int} (h:l[k]? = some x) (hp:p x = false):l.all p = false:=by
 cases ha:l.all p with
 | false=>rfl
 | true=>have:=List.all_eq_true.1 ha x (List.mem_of_getElem? h); rw [hp] at this; cases this
theorem all_end {p:Int->Bool} {l:List Int} {k:Nat} (h:(l.take k).all p = true) (hk:l.length <= k):l.all p = true:=by rw [List.take_of_length_le hk] at h; exact h
theorem mget_metM (x:Int):∀ l:List Int,mget (metM l) [x] = if x ∈ l then some 1 else none
 | []=>rfl
 | y :: l=>by
  have ih:=mget_metM x l
  simp only [metM,List.map_cons,mget,List.cons.injEq,and_true,List.mem_cons] at ih ⊢
  by_cases e:x = y
  ·simp [e]
  ·simp only [e,if_false,false_or]; exact ih
theorem mput_metM {x:Int}:∀ {l:List Int},x ∉ l->mput (metM l) [x] 1 = metM (l ++ [x])
 | [],_=>rfl
 | y :: l,h=>by
  have h1:¬ x = y:=fun e=>h (by simp [e])
  have ih:=mput_metM (x:=x) (l:=l) (fun e=>h (by simp [e]))
  simp only [metM,List.cons_append,List.map_cons,mput,List.cons.injEq,and_true,h1,if_false] at ih ⊢
  rw [ih]
  simp
theorem nodI_take {l:List Int} {k:Nat} {x:Int} (h:l[k]? = some x) (h1:nodI (l.take k)) (h2:x ∉ l.take k):nodI (l.take (k + 1)):=by
 unfold nodI at *
 rw [z2a h,List.nodup_append]
 exact ⟨h1,by simp,fun a ha b hb=>by simp at hb; subst hb; exact fun e=>h2 (e ▸ ha)⟩
theorem nodI_not {l:List Int} {k:Nat} {x:Int} (h:l[k]? = some x) (h2:x ∈ l.take k):c2F l = false:=by
 unfold c2F
 refine decide_eq_false fun hn=>?_
 have hd:l = l.take k ++ l.drop k:=(List.take_append_drop k l).symm
 rw [hd,List.nodup_append] at hn
 refine hn.2.2 x h2 x ?_ rfl
 rw [z32 h]; simp
theorem nodI_end {l:List Int} {k:Nat} (h:nodI (l.take k)) (hk:l.length <= k):c2F l = true:=by
 unfold nodI at h
 rw [List.take_of_length_le hk] at h
 exact decide_eq_true h
theorem z3o {I:Inst} {x:Int} {a:Arc} (h:I.arcs[x.toNat]? = some a):z6m I x = a:=by simp [z6m,List.getD,h]
theorem isArcF_iff {I:Inst} {x:Int}:z2w I x = true ↔ 0 <= x/\x < I.arcs.length:=by simp [z2w]
theorem c1F_get {I:Inst} {l:List Int} {k:Nat} {x:Int} (h:c1F I l = true) (hx:l[k]? = some x):0 <= x/\x < I.arcs.length:=isArcF_iff.1 (List.all_eq_true.1 h x (List.mem_of_getElem? hx))
end Go.Ql
end
section
namespace Go.Proofs.Ytapeenpimcffpaa
open Go Go.RowKit Go.Ql Go.Vc
def isArc_r (I:Inst) (a:Int):FRes:={ pre:=True,res:=.bool (z2w I a),rows:=[],eff:=[] }
def zaz:FS:=fun args h=>match args,h with
 | [.agg [.row 0,.row 1],.int .i64 a],[(0,.row false ty0 (.ints .i64 I_s)),(1,.row false ty1 (.arcs I_a))]=>some (isArc_r ⟨I_s,I_a⟩ a)
 | _,_=>none
def isArc_an (I:Inst) (a:Int):List (Nat × Ann):=[]
def isArc_A:List SV->z0g->List (Nat × Ann):=fun _ _=>[]
def isArc_g:z0c:=[]
abbrev isArc_n:Nat:=71
def isArc_I (I:Inst) (a:Int):List (Nat × z0a):=[]
def isArc_IA:List SV->z0g->List (Nat × z0a):=fun _ _=>[]
def Sum12_r (I:Inst) (l:List Int):FRes:={ pre:=A64c I.arcs/\l.length <= 140737488351232,res:=.agg (z12 (W (rayS I l))),rows:=[],eff:=[] }
def Sum12_fs:FS:=fun args h=>match args,h with
 | [.agg [.row 0,.row 1],.row 2],[(0,.row false ty0 (.ints .i64 I_s)),(1,.row false ty1 (.arcs I_a)),(2,.row false ty2 (.ints .i64 l))]=>some (Sum12_r ⟨I_s,I_a⟩ l)
 | _,_=>none
def Sum12_an (I:Inst) (l:List Int):List (Nat × Ann):=[(3,{ G:=(Nat),inv:=fun k=>⟨[(2,.ptr 3 0 0 0),(4,.ptr 4 0 0 0),(5,.ptr 5 0 0 0),(8,.row 2),(9,.int .i64 (↑l.length:Int)),(10,.int .i64 k)],[(5,.box true 49 (z12 (W (z8p I l k)))),(4,.box true 49 [.int .i64 (0:Int),.int .u64 (0:Int)]),(3,.box true 30 [.row 0,.row 1]),(0,.row false 0 (.ints .i64 I.sup)),(1,.row false 0 (.arcs I.arcs)),(2,.row false 0 (.ints .i64 l))],6⟩,rel:=fun k0 k=>k <= l.length,meas:=fun k=>l.length - k })]
def Sum12_A:List SV->z0g->List (Nat × Ann):=fun args h=>match args,h with
 | [.agg [.row 0,.row 1],.row 2],[(0,.row false ty0 (.ints .i64 I_s)),(1,.row false ty1 (.arcs I_a)),(2,.row false ty2 (.ints .i64 l))]=>Sum12_an ⟨I_s,I_a⟩ l
 | _,_=>[]
def Sum12_g:z0c:=[(isArc_n,(true,z03 true zaz)),(zc2,(true,z03 true z5h)),(Of_n,(true,z03 true z8w))]
abbrev Sum12_n:Nat:=76
def Sum12_I (I:Inst) (l:List Int):List (Nat × z0a):=[]
def Sum12_IA:List SV->z0g->List (Nat × z0a):=fun _ _=>[]
def asked1_r (l:List Int) (I:Inst):FRes:={ pre:=l.length <= 140737488351232,res:=.bool (c1F I l),rows:=[],eff:=[] }
def zck:FS:=fun args h=>match args,h with
 | [.ptr 0 0 0 0,.ptr 2 0 0 0],[(0,.box false 25 [.row 1]),(1,.row false ty1 (.ints .i64 l)),(2,.box false 30 [.row 3,.row 4]),(3,.row false ty3 (.ints .i64 I_s)),(4,.row false ty4 (.arcs I_a))]=>some (asked1_r l ⟨I_s,I_a⟩)
 | _,_=>none
def zcj (l:List Int) (I:Inst):List (Nat × Ann):=[(2,{ G:=(Nat),inv:=fun k=>⟨[(1,.ptr 2 0 0 0),(5,.row 1),(6,.int .i64 (↑l.length:Int)),(7,.int .i64 k)],[(1,.row false 0 (.ints .i64 l)),(2,.box false 30 [.row 3,.row 4]),(3,.row false 0 (.ints .i64 I.sup)),(4,.row false 0 (.arcs I.arcs))],5⟩,rel:=fun k0 k=>k <= l.length/\(l.take k).all (z2w I) = true,meas:=fun k=>l.length - k })]
def asked1_A:List SV->z0g->List (Nat × Ann):=fun args h=>match args,h with
 | [.ptr 0 0 0 0,.ptr 2 0 0 0],[(0,.box false 25 [.row 1]),(1,.row false ty1 (.ints .i64 l)),(2,.box false 30 [.row 3,.row 4]),(3,.row false ty3 (.ints .i64 I_s)),(4,.row false ty4 (.arcs I_a))]=>zcj l ⟨I_s,I_a⟩
 | _,_=>[]
def asked1_g:z0c:=[(isArc_n,(true,z03 true zaz))]
abbrev asked1_n:Nat:=70
def asked1_I (l:List Int) (I:Inst):List (Nat × z0a):=[]
def asked1_IA:List SV->z0g->List (Nat × z0a):=fun _ _=>[]
def asked2_r (l:List Int):FRes:={ pre:=l.length <= 140737488351232,res:=.bool (c2F l),rows:=[],eff:=[] }
def zcn:FS:=fun args h=>match args,h with
 | [.ptr 0 0 0 0],[(0,.box false 25 [.row 1]),(1,.row false ty1 (.ints .i64 l))]=>some (asked2_r l)
 | _,_=>none
def zcm (l:List Int):List (Nat × Ann):=[(3,{ G:=(Nat),inv:=fun k=>⟨[(2,.row 2),(6,.row 1),(7,.int .i64 (↑l.length:Int)),(8,.int .i64 k)],[(2,.map [.i64] .bool (metM (l.take k))),(1,.row false 0 (.ints .i64 l))],3⟩,rel:=fun k0 k=>k <= l.length/\nodI (l.take k),meas:=fun k=>l.length - k })]
def asked2_A:List SV->z0g->List (Nat × Ann):=fun args h=>match args,h with
 | [.ptr 0 0 0 0],[(0,.box false 25 [.row 1]),(1,.row false ty1 (.ints .i64 l))]=>zcm l
 | _,_=>[]
def asked2_g:z0c:=[]
abbrev asked2_n:Nat:=72
def asked2_I (l:List Int):List (Nat × z0a):=[]
def asked2_IA:List SV->z0g->List (Nat × z0a):=fun _ _=>[]
def asked3_r (l:List Int) (I:Inst):FRes:={ pre:=l.length <= 140737488351232/\c1F I l = true,res:=.bool (c3F I l),rows:=[],eff:=[] }
def zcq:FS:=fun args h=>match args,h with
 | [.ptr 0 0 0 0,.ptr 2 0 0 0],[(0,.box false 25 [.row 1]),(1,.row false ty1 (.ints .i64 l)),(2,.box false 30 [.row 3,.row 4]),(3,.row false ty3 (.ints .i64 I_s)),(4,.row false ty4 (.arcs I_a))]=>some (asked3_r l ⟨I_s,I_a⟩)
 | _,_=>none
def zcp (l:List Int) (I:Inst):List (Nat × Ann):=[(2,{ G:=(Nat),inv:=fun k=>⟨[(0,.ptr 0 0 0 0),(1,.ptr 2 0 0 0),(6,.row 1),(7,.int .i64 (↑l.length:Int)),(8,.int .i64 k)],[(0,.box false 25 [.row 1]),(1,.row false 0 (.ints .i64 l)),(2,.box false 30 [.row 3,.row 4]),(3,.row false 0 (.ints .i64 I.sup)),(4,.row false 0 (.arcs I.arcs))],5⟩,rel:=fun k0 k=>k <= l.length/\∀ j,j < k->linkF I l j = true,meas:=fun k=>l.length - k })]
def asked3_A:List SV->z0g->List (Nat × Ann):=fun args h=>match args,h with
 | [.ptr 0 0 0 0,.ptr 2 0 0 0],[(0,.box false 25 [.row 1]),(1,.row false ty1 (.ints .i64 l)),(2,.box false 30 [.row 3,.row 4]),(3,.row false ty3 (.ints .i64 I_s)),(4,.row false ty4 (.arcs I_a))]=>zcp l ⟨I_s,I_a⟩
 | _,_=>[]
def asked3_g:z0c:=[]
abbrev asked3_n:Nat:=73
def asked3_I (l:List Int) (I:Inst):List (Nat × z0a):=[]
def asked3_IA:List SV->z0g->List (Nat × z0a):=fun _ _=>[]
def asked4_r (l:List Int) (I:Inst):FRes:={ pre:=l.length <= 140737488351232/\c1F I l = true,res:=.bool (c4F I l),rows:=[],eff:=[] }
def zct:FS:=fun args h=>match args,h with
 | [.ptr 0 0 0 0,.ptr 2 0 0 0],[(0,.box false 25 [.row 1]),(1,.row false ty1 (.ints .i64 l)),(2,.box false 30 [.row 3,.row 4]),(3,.row false ty3 (.ints .i64 I_s)),(4,.row false ty4 (.arcs I_a))]=>some (asked4_r l ⟨I_s,I_a⟩)
 | _,_=>none
def zcs (l:List Int) (I:Inst):List (Nat × Ann):=[(2,{ G:=(Nat),inv:=fun k=>⟨[(1,.ptr 2 0 0 0),(5,.row 1),(6,.int .i64 (↑l.length:Int)),(7,.int .i64 k)],[(1,.row false 0 (.ints .i64 l)),(2,.box false 30 [.row 3,.row 4]),(3,.row false 0 (.ints .i64 I.sup)),(4,.row false 0 (.arcs I.arcs))],5⟩,rel:=fun k0 k=>k <= l.length/\(l.take k).all (fun a=>decide ((z6m I a).cap = inf)) = true,meas:=fun k=>l.length - k })]
def asked4_A:List SV->z0g->List (Nat × Ann):=fun args h=>match args,h with
 | [.ptr 0 0 0 0,.ptr 2 0 0 0],[(0,.box false 25 [.row 1]),(1,.row false ty1 (.ints .i64 l)),(2,.box false 30 [.row 3,.row 4]),(3,.row false ty3 (.ints .i64 I_s)),(4,.row false ty4 (.arcs I_a))]=>zcs l ⟨I_s,I_a⟩
 | _,_=>[]
def asked4_g:z0c:=[]
abbrev asked4_n:Nat:=74
def asked4_I (l:List Int) (I:Inst):List (Nat × z0a):=[]
def asked4_IA:List SV->z0g->List (Nat × z0a):=fun _ _=>[]
def asked5_r (I:Inst) (l:List Int):FRes:={ pre:=l.length <= 140737488351232/\A64c I.arcs,res:=.bool (c5F I l),rows:=[],eff:=[] }
def zcv:FS:=fun args h=>match args,h with
 | [.ptr 0 0 0 0,.ptr 3 0 0 0],[(0,.box false 30 [.row 1,.row 2]),(1,.row false ty1 (.ints .i64 I_s)),(2,.row false ty2 (.arcs I_a)),(3,.box false 25 [.row 4]),(4,.row false ty4 (.ints .i64 l))]=>some (asked5_r ⟨I_s,I_a⟩ l)
 | _,_=>none
def asked5_an (I:Inst) (l:List Int):List (Nat × Ann):=[]
def asked5_A:List SV->z0g->List (Nat × Ann):=fun _ _=>[]
def asked5_g:z0c:=[(Sum12_n,(true,z03 true Sum12_fs)),(Of_n,(true,z03 true z8w)),(z7s,(true,z03 true z4h))]
abbrev asked5_n:Nat:=75
def asked5_I (I:Inst) (l:List Int):List (Nat × z0a):=[]
def asked5_IA:List SV->z0g->List (Nat × z0a):=fun _ _=>[]
abbrev asked_n:Nat:=58
def asked_g:z0c:=[]
def asked_spec:Vc.Spec:=z1z TT asked_g (fun _ _ _=>[]) Try.f58
def Turns_r (I:Inst) (l:List Int):FRes:={ pre:=l.length <= 140737488351232/\A64c I.arcs,res:=.int .u16 (z1t I l),rows:=[],eff:=[] }
def Turns_fs:FS:=fun args h=>match args,h with
 | [.agg [.row 0,.row 1],.row 2],[(0,.row false ty0 (.ints .i64 I_s)),(1,.row false ty1 (.arcs I_a)),(2,.row false ty2 (.ints .i64 l))]=>some (Turns_r ⟨I_s,I_a⟩ l)
 | _,_=>none
def Turns_an (I:Inst) (l:List Int):List (Nat × Ann):=[(7,{ G:=(Nat),inv:=fun k=>⟨[(26,.row 7),(27,.int .i64 (↑5:Int)),(28,.int .i64 k)],[(7,.vec 38 [.fn 70 [.ptr 5 0 0 0,.ptr 4 0 0 0],.fn 72 [.ptr 5 0 0 0],.fn 73 [.ptr 5 0 0 0,.ptr 4 0 0 0],.fn 74 [.ptr 5 0 0 0,.ptr 4 0 0 0],.fn 75 [.ptr 4 0 0 0,.ptr 5 0 0 0]]),(5,.box true 25 [.row 2]),(4,.box true 30 [.row 0,.row 1]),(0,.row false 0 (.ints .i64 I.sup)),(1,.row false 0 (.arcs I.arcs)),(2,.row false 0 (.ints .i64 l))],8⟩,rel:=fun k0 k=>k <= 5/\(1 <= k->c1F I l = true)/\(2 <= k->c2F l = true)/\(3 <= k->c3F I l = true)/\(4 <= k->c4F I l = true)/\(5 <= k->c5F I l = true),meas:=fun k=>5 - k })]
def Turns_A:List SV->z0g->List (Nat × Ann):=fun args h=>match args,h with
 | [.agg [.row 0,.row 1],.row 2],[(0,.row false ty0 (.ints .i64 I_s)),(1,.row false ty1 (.arcs I_a)),(2,.row false ty2 (.ints .i64 l))]=>Turns_an ⟨I_s,I_a⟩ l
 | _,_=>[]
def Turns_g:z0c:=[(z91,(true,z03 true z4r)),(asked_n,(false,asked_spec)),(asked1_n,(true,z03 true zck)),(asked2_n,(true,z03 true zcn)),(asked3_n,(true,z03 true zcq)),(asked4_n,(true,z03 true zct)),(asked5_n,(true,z03 true zcv))]
abbrev Turns_n:Nat:=50
def Turns_I (I:Inst) (l:List Int):List (Nat × z0a):=[]
def Turns_IA:List SV->z0g->List (Nat × z0a):=fun _ _=>[]
end Go.Proofs.Ytapeenpimcffpaa
end
section
namespace Go.Proofs.Ytapeenpimcffpaa
open Go Go.RowKit Go.Ql Go.Vc
def isArc_E0 (I : Inst) (a : Int) (ty0 ty1 : TypeId) : Prop :=
   (decide (a ≥ (0:Int)) = true->(decide (a < (↑I.arcs.length:Int)) = z2w I a/\True)/\True)/\(decide (a ≥ (0:Int)) = false->(false = z2w I a/\True)/\True)
theorem isArc_q (I:Inst) (a:Int) (ty0 ty1:TypeId):isArc_E0 I a ty0 ty1 = z25 TT isArc_g (isArc_I I a) (isArc_an I a) Try.f71 [.agg [.row 0,.row 1],.int .i64 a] [(0,.row false ty0 (.ints .i64 I.sup)),(1,.row false ty1 (.arcs I.arcs))] (isArc_r I a):=by kernel_rfl
theorem isArc_E (I:Inst) (a:Int) (ty0 ty1:TypeId) (hp:True):FVc TT isArc_g (isArc_I I a) (isArc_an I a) Try.f71 [.agg [.row 0,.row 1],.int .i64 a] [(0,.row false ty0 (.ints .i64 I.sup)),(1,.row false ty1 (.arcs I.arcs))] (isArc_r I a):=by
 refine FVc.of (isArc_E0 I a ty0 ty1) (isArc_q I a ty0 ty1) ?_
 unfold isArc_E0
 simp only [eq_self,exists_const,forall_const,decide_eq_true_eq,decide_eq_false_iff_not,and_true,true_and,bne_iff_ne,ne_eq,bne_eq_false_iff_eq,Int.toNat_natCast,Bool.not_eq_true',Bool.not_eq_false',beq_iff_eq,beq_eq_false_iff_ne,z08]
 refine ⟨fun h=>?_,fun h=>?_⟩
 ·simp [z2w,show 0 <= a by omega]
 ·simp [z2w,show ¬ 0 <= a by omega]
theorem isArc_ok:SpecOk Try.prog isArc_n true (z03 true zaz) :=
 z09 z0n (show z18 Try.prog isArc_g from z04) (by kernel_rfl) mixedOrders Try.func71 rfl rfl (by kernel_rfl) (n:=2) (by decide +kernel) (I:=isArc_IA) (fun _ _=>z06) (A:=isArc_A)
  (fun args h r hr=>by
   unfold zaz at hr
   split at hr
   ·rename_i a ty0 I_s ty1 I_a; cases hr; refine ⟨rfl,fun hp=>?_⟩; have hE:=isArc_E ⟨I_s,I_a⟩ a ty0 ty1 hp; exact hE
   ·cases hr)
def Sum12_E0 (I : Inst) (l : List Int) (ty0 ty1 ty2 : TypeId) : Prop :=
      ∃ (g0:Nat),
 (g0 <= l.length /\
 ((0:Nat) = (0:Nat)/\(0:Nat) = (0:Nat)/\(0:Nat) = (0:Nat)/\True/\(↑l.length:Int) = (↑l.length:Int)/\(0:Int) = (↑g0:Int)/\True) /\
 ((0:Int) = (W (z8p I l g0)).hi/\(0:Int) = (W (z8p I l g0)).lo/\True) /\
 ((0:Int) = (0:Int)/\(0:Int) = (0:Int)/\True)/\(True/\True/\True)/\I.sup = I.sup/\I.arcs = I.arcs/\l = l/\True) /\
 ∀ (g:Nat),
 g <= l.length ->
 (decide ((↑g:Int) < (↑l.length:Int)) = true ->
 ((0:Int) <= (↑g:Int)/\(↑g:Int) < (↑l.length:Int)) /\
 (↑g:Int).toNat < l.length /\
 ∀ (x:Int),
 l[(↑g:Int).toNat]? = some x ->
 True /\
 (z2w I x = true ->
 ((0:Int) <= x/\x < (↑I.arcs.length:Int)) /\
 x.toNat < I.arcs.length /\
 ∀ (x_1:Arc),
 I.arcs[x.toNat]? = some x_1 ->
 I64 x_1.cost /\
 ((W (z8p I l g)).ok/\(W x_1.cost).ok) /\
 ∃ (g':Nat),
 g' <= l.length /\
 l.length - g' < l.length - g /\
 ((0:Nat) = (0:Nat) /\
 (0:Nat) = (0:Nat) /\
 (0:Nat) = (0:Nat) /\
 True/\(↑l.length:Int) = (↑l.length:Int)/\IntKind.i64.wrap ((↑g:Int) + (1:Int)) = (↑g':Int)/\True) /\
 ((z5d (W (z8p I l g)) (W x_1.cost)).hi = (W (z8p I l g')).hi /\
 (z5d (W (z8p I l g)) (W x_1.cost)).lo = (W (z8p I l g')).lo/\True) /\
 ((0:Int) = (0:Int)/\(0:Int) = (0:Int)/\True)/\(True/\True/\True)/\I.sup = I.sup/\I.arcs = I.arcs/\l = l/\True) /\
 (z2w I x = false ->
 ∃ (g':Nat),
 g' <= l.length /\
 l.length - g' < l.length - g /\
 ((0:Nat) = (0:Nat) /\
 (0:Nat) = (0:Nat) /\
 (0:Nat) = (0:Nat)/\True/\(↑l.length:Int) = (↑l.length:Int)/\IntKind.i64.wrap ((↑g:Int) + (1:Int)) = (↑g':Int)/\True) /\
 ((W (z8p I l g)).hi = (W (z8p I l g')).hi/\(W (z8p I l g)).lo = (W (z8p I l g')).lo/\True) /\
 ((0:Int) = (0:Int)/\(0:Int) = (0:Int)/\True)/\(True/\True/\True)/\I.sup = I.sup/\I.arcs = I.arcs/\l = l/\True)) /\
 (decide ((↑g:Int) < (↑l.length:Int)) = false->(((W (z8p I l g)).hi = (W (rayS I l)).hi/\(W (z8p I l g)).lo = (W (rayS I l)).lo/\True)/\True)/\True)
theorem Sum12_q (I:Inst) (l:List Int) (ty0 ty1 ty2:TypeId):Sum12_E0 I l ty0 ty1 ty2 = z25 TT Sum12_g (Sum12_I I l) (Sum12_an I l) Try.f76 [.agg [.row 0,.row 1],.row 2] [(0,.row false ty0 (.ints .i64 I.sup)),(1,.row false ty1 (.arcs I.arcs)),(2,.row false ty2 (.ints .i64 l))] (Sum12_r I l):=by kernel_rfl
theorem Sum12_E (I:Inst) (l:List Int) (ty0 ty1 ty2:TypeId) (hp:A64c I.arcs/\l.length <= 140737488351232):FVc TT Sum12_g (Sum12_I I l) (Sum12_an I l) Try.f76 [.agg [.row 0,.row 1],.row 2] [(0,.row false ty0 (.ints .i64 I.sup)),(1,.row false ty1 (.arcs I.arcs)),(2,.row false ty2 (.ints .i64 l))] (Sum12_r I l):=by
 refine FVc.of (Sum12_E0 I l ty0 ty1 ty2) (Sum12_q I l ty0 ty1 ty2) ?_
 unfold Sum12_E0
 obtain ⟨p1,p2⟩:=hp
 simp only [eq_self,exists_const,forall_const,decide_eq_true_eq,decide_eq_false_iff_not,and_true,true_and,bne_iff_ne,ne_eq,bne_eq_false_iff_eq,Int.toNat_natCast,Bool.not_eq_true',Bool.not_eq_false',beq_iff_eq,beq_eq_false_iff_ne,z08]
 refine ⟨0,⟨Nat.zero_le _,rfl,by simp only [z8p]; decide,by simp only [z8p]; decide⟩,fun g hg=>⟨fun h1=>⟨by omega,by omega,fun x hx=>?_⟩,fun h1=>?_⟩⟩
 ·have wk:IntKind.i64.wrap ((g:Int) + 1) = ((g + 1:Nat):Int):=by rw [w64 (by omega) (by omega)]; omega
  have hd:l.getD g 0 = x:=by simp [List.getD,hx]
  refine ⟨fun h2=>⟨isArcF_iff.1 h2,by have:=isArcF_iff.1 h2; omega,fun a ha=>⟨p1 a (List.mem_of_getElem? ha),⟨W_ok _,W_ok _⟩,g + 1,by omega,by omega,wk,?_⟩⟩,fun h2=>⟨g + 1,by omega,by omega,wk,?_⟩⟩
  ·simp only [z8p,hd,rayD,h2,if_true,z3o ha,z7q,and_self]
  ·simp only [z8p,hd,rayD,h2,if_false,Int.add_zero,Bool.false_eq_true,and_self]
 ·rw [show g = l.length by omega]
  exact ⟨rfl,rfl⟩
theorem Sum12_ok:SpecOk Try.prog Sum12_n true (z03 true Sum12_fs) :=
 z09 z0n (show z18 Try.prog Sum12_g from z00 isArc_ok (z00 z90 (z00 zbz (z04)))) (by kernel_rfl) mixedOrders Try.func76 rfl rfl (by kernel_rfl) (n:=2) (by decide +kernel) (I:=Sum12_IA) (fun _ _=>z06) (A:=Sum12_A)
  (fun args h r hr=>by
   unfold Sum12_fs at hr
   split at hr
   ·rename_i ty0 I_s ty1 I_a ty2 l; cases hr; refine ⟨rfl,fun hp=>?_⟩; have hE:=Sum12_E ⟨I_s,I_a⟩ l ty0 ty1 ty2 hp; exact hE
   ·cases hr)
def zci (l : List Int) (I : Inst) (ty1 ty3 ty4 : TypeId) : Prop :=
      ∃ (g0:Nat),
 ((g0 <= l.length/\(List.take g0 l).all (z2w I) = true) /\
 ((0:Nat) = (0:Nat)/\True/\(↑l.length:Int) = (↑l.length:Int)/\(0:Int) = (↑g0:Int)/\True) /\
 l = l/\(True/\True/\True)/\I.sup = I.sup/\I.arcs = I.arcs/\True) /\
 ∀ (g:Nat),
 g <= l.length/\(List.take g l).all (z2w I) = true ->
 (decide ((↑g:Int) < (↑l.length:Int)) = true ->
 ((0:Int) <= (↑g:Int)/\(↑g:Int) < (↑l.length:Int)) /\
 (↑g:Int).toNat < l.length /\
 ∀ (x:Int),
 l[(↑g:Int).toNat]? = some x ->
 True /\
 ((!z2w I x) = true->(false = c1F I l/\True)/\True) /\
 ((!z2w I x) = false ->
 ∃ (g':Nat),
 (g' <= l.length/\(List.take g' l).all (z2w I) = true) /\
 l.length - g' < l.length - g /\
 ((0:Nat) = (0:Nat)/\True/\(↑l.length:Int) = (↑l.length:Int)/\IntKind.i64.wrap ((↑g:Int) + (1:Int)) = (↑g':Int)/\True) /\
 l = l/\(True/\True/\True)/\I.sup = I.sup/\I.arcs = I.arcs/\True)) /\
 (decide ((↑g:Int) < (↑l.length:Int)) = false->(true = c1F I l/\True)/\True)
theorem asked1_q (l:List Int) (I:Inst) (ty1 ty3 ty4:TypeId):zci l I ty1 ty3 ty4 = z25 TT asked1_g (asked1_I l I) (zcj l I) Try.f70 [.ptr 0 0 0 0,.ptr 2 0 0 0] [(0,.box false 25 [.row 1]),(1,.row false ty1 (.ints .i64 l)),(2,.box false 30 [.row 3,.row 4]),(3,.row false ty3 (.ints .i64 I.sup)),(4,.row false ty4 (.arcs I.arcs))] (asked1_r l I):=by kernel_rfl
theorem asked1_E (l:List Int) (I:Inst) (ty1 ty3 ty4:TypeId) (hp:l.length <= 140737488351232):FVc TT asked1_g (asked1_I l I) (zcj l I) Try.f70 [.ptr 0 0 0 0,.ptr 2 0 0 0] [(0,.box false 25 [.row 1]),(1,.row false ty1 (.ints .i64 l)),(2,.box false 30 [.row 3,.row 4]),(3,.row false ty3 (.ints .i64 I.sup)),(4,.row false ty4 (.arcs I.arcs))] (asked1_r l I):=by
 refine FVc.of (zci l I ty1 ty3 ty4) (asked1_q l I ty1 ty3 ty4) ?_
 unfold zci
 simp only [eq_self,exists_const,forall_const,decide_eq_true_eq,decide_eq_false_iff_not,and_true,true_and,bne_iff_ne,ne_eq,bne_eq_false_iff_eq,Int.toNat_natCast,Bool.not_eq_true',Bool.not_eq_false',beq_iff_eq,beq_eq_false_iff_ne,z08]
 refine ⟨0,⟨⟨by omega,rfl⟩,rfl⟩,fun g hg=>⟨fun h1=>⟨by omega,by omega,fun x hx=>⟨fun h2=>(all_not hx h2).symm,fun h2=>⟨g + 1,⟨by omega,by rw [all_take hx,hg.2,h2]; rfl⟩,by omega,by rw [w64 (by omega) (by omega)]; omega⟩⟩⟩,fun h1=>(all_end hg.2 (by omega)).symm⟩⟩
theorem asked1_ok:SpecOk Try.prog asked1_n true (z03 true zck) :=
 z09 z0n (show z18 Try.prog asked1_g from z00 isArc_ok (z04)) (by kernel_rfl) mixedOrders Try.func70 rfl rfl (by kernel_rfl) (n:=2) (by decide +kernel) (I:=asked1_IA) (fun _ _=>z06) (A:=asked1_A)
  (fun args h r hr=>by
   unfold zck at hr
   split at hr
   ·rename_i ty1 l ty3 I_s ty4 I_a; cases hr; refine ⟨rfl,fun hp=>?_⟩; have hE:=asked1_E l ⟨I_s,I_a⟩ ty1 ty3 ty4 hp; exact hE
   ·cases hr)
def zcl (l : List Int) (ty1 : TypeId) : Prop :=
      ∃ (g0:Nat),
 ((g0 <= l.length/\nodI (List.take g0 l))/\(True/\True/\(↑l.length:Int) = (↑l.length:Int)/\(0:Int) = (↑g0:Int)/\True)/\[] = metM (List.take g0 l)/\l = l/\True) /\
 ∀ (g:Nat),
 g <= l.length/\nodI (List.take g l) ->
 (decide ((↑g:Int) < (↑l.length:Int)) = true ->
 ((0:Int) <= (↑g:Int)/\(↑g:Int) < (↑l.length:Int)) /\
 (↑g:Int).toNat < l.length /\
 ∀ (x:Int),
 l[(↑g:Int).toNat]? = some x ->
 (((mget (metM (List.take g l)) [x]).getD (0:Int) == (1:Int)) = true->(false = c2F l/\True)/\True) /\
 (((mget (metM (List.take g l)) [x]).getD (0:Int) == (1:Int)) = false ->
 ∃ (g':Nat),
 (g' <= l.length/\nodI (List.take g' l)) /\
 l.length - g' < l.length - g /\
 (True/\True/\(↑l.length:Int) = (↑l.length:Int)/\IntKind.i64.wrap ((↑g:Int) + (1:Int)) = (↑g':Int)/\True) /\
 mput (metM (List.take g l)) [x] (bif true then (1:Int) else (0:Int)) = metM (List.take g' l)/\l = l/\True)) /\
 (decide ((↑g:Int) < (↑l.length:Int)) = false->(true = c2F l/\True)/\True)
theorem asked2_q (l:List Int) (ty1:TypeId):zcl l ty1 = z25 TT asked2_g (asked2_I l) (zcm l) Try.f72 [.ptr 0 0 0 0] [(0,.box false 25 [.row 1]),(1,.row false ty1 (.ints .i64 l))] (asked2_r l):=by kernel_rfl
theorem asked2_E (l:List Int) (ty1:TypeId) (hp:l.length <= 140737488351232):FVc TT asked2_g (asked2_I l) (zcm l) Try.f72 [.ptr 0 0 0 0] [(0,.box false 25 [.row 1]),(1,.row false ty1 (.ints .i64 l))] (asked2_r l):=by
 refine FVc.of (zcl l ty1) (asked2_q l ty1) ?_
 unfold zcl
 simp only [eq_self,exists_const,forall_const,decide_eq_true_eq,decide_eq_false_iff_not,and_true,true_and,bne_iff_ne,ne_eq,bne_eq_false_iff_eq,Int.toNat_natCast,Bool.not_eq_true',Bool.not_eq_false',beq_iff_eq,beq_eq_false_iff_ne,z08]
 refine ⟨0,⟨⟨by omega,List.nodup_nil⟩,rfl,rfl⟩,fun g hg=>⟨fun h1=>⟨by omega,by omega,fun x hx=>?_⟩,fun h1=>(nodI_end hg.2 (by omega)).symm⟩⟩
 rw [mget_metM]
 by_cases hm:x ∈ l.take g
 ·simp only [hm,if_true,Option.getD_some,not_true,false_implies,and_true,forall_const]
  exact (nodI_not hx hm).symm
 ·simp only [hm,if_false,Option.getD_none]
  refine ⟨fun h=>by omega,fun _=>⟨g + 1,⟨by omega,nodI_take hx hg.2 hm⟩,by omega,by rw [w64 (by omega) (by omega)]; omega,?_⟩⟩
  rw [z2a hx]
  exact mput_metM hm
theorem asked2_ok:SpecOk Try.prog asked2_n true (z03 true zcn) :=
 z09 z0n (show z18 Try.prog asked2_g from z04) (by kernel_rfl) mixedOrders Try.func72 rfl rfl (by kernel_rfl) (n:=1) (by decide +kernel) (I:=asked2_IA) (fun _ _=>z06) (A:=asked2_A)
  (fun args h r hr=>by
   unfold zcn at hr
   split at hr
   ·rename_i ty1 l; cases hr; refine ⟨rfl,fun hp=>?_⟩; have hE:=asked2_E l ty1 hp; exact hE
   ·cases hr)
def zco (l : List Int) (I : Inst) (ty1 ty3 ty4 : TypeId) : Prop :=
      ∃ (g0:Nat),
 ((g0 <= l.length/\∀ (j:Nat),j < g0->linkF I l j = true) /\
 ((0:Nat) = (0:Nat)/\(0:Nat) = (0:Nat)/\True/\(↑l.length:Int) = (↑l.length:Int)/\(0:Int) = (↑g0:Int)/\True) /\
 (True/\True)/\l = l/\(True/\True/\True)/\I.sup = I.sup/\I.arcs = I.arcs/\True) /\
 ∀ (g:Nat),
 (g <= l.length/\∀ (j:Nat),j < g->linkF I l j = true) ->
 (decide ((↑g:Int) < (↑l.length:Int)) = true ->
 ((0:Int) <= (↑g:Int)/\(↑g:Int) < (↑l.length:Int)) /\
 (↑g:Int).toNat < l.length /\
 ∀ (x:Int),
 l[(↑g:Int).toNat]? = some x ->
 (↑l.length:Int) ≠ (0:Int) /\
 ((0:Int) <= (IntKind.i64.wrap ((↑g:Int) + (1:Int))).tmod (↑l.length:Int) /\
 (IntKind.i64.wrap ((↑g:Int) + (1:Int))).tmod (↑l.length:Int) < (↑l.length:Int)) /\
 ((IntKind.i64.wrap ((↑g:Int) + (1:Int))).tmod (↑l.length:Int)).toNat < l.length /\
 ∀ (x_1:Int),
 l[((IntKind.i64.wrap ((↑g:Int) + (1:Int))).tmod (↑l.length:Int)).toNat]? = some x_1 ->
 ((0:Int) <= x/\x < (↑I.arcs.length:Int)) /\
 x.toNat < I.arcs.length /\
 ∀ (x_2:Arc),
 I.arcs[x.toNat]? = some x_2 ->
 ((0:Int) <= x_1/\x_1 < (↑I.arcs.length:Int)) /\
 x_1.toNat < I.arcs.length /\
 ∀ (x:Arc),
 I.arcs[x_1.toNat]? = some x ->
 ((x_2.dst != x.src) = true->(false = c3F I l/\True)/\True) /\
 ((x_2.dst != x.src) = false ->
 ∃ (g':Nat),
 (g' <= l.length/\∀ (j:Nat),j < g'->linkF I l j = true) /\
 l.length - g' < l.length - g /\
 ((0:Nat) = (0:Nat) /\
 (0:Nat) = (0:Nat) /\
 True/\(↑l.length:Int) = (↑l.length:Int)/\IntKind.i64.wrap ((↑g:Int) + (1:Int)) = (↑g':Int)/\True) /\
 (True/\True)/\l = l/\(True/\True/\True)/\I.sup = I.sup/\I.arcs = I.arcs/\True)) /\
 (decide ((↑g:Int) < (↑l.length:Int)) = false->(true = c3F I l/\True)/\True)
theorem asked3_q (l:List Int) (I:Inst) (ty1 ty3 ty4:TypeId):zco l I ty1 ty3 ty4 = z25 TT asked3_g (asked3_I l I) (zcp l I) Try.f73 [.ptr 0 0 0 0,.ptr 2 0 0 0] [(0,.box false 25 [.row 1]),(1,.row false ty1 (.ints .i64 l)),(2,.box false 30 [.row 3,.row 4]),(3,.row false ty3 (.ints .i64 I.sup)),(4,.row false ty4 (.arcs I.arcs))] (asked3_r l I):=by kernel_rfl
theorem asked3_E (l:List Int) (I:Inst) (ty1 ty3 ty4:TypeId) (hp:l.length <= 140737488351232/\c1F I l = true):FVc TT asked3_g (asked3_I l I) (zcp l I) Try.f73 [.ptr 0 0 0 0,.ptr 2 0 0 0] [(0,.box false 25 [.row 1]),(1,.row false ty1 (.ints .i64 l)),(2,.box false 30 [.row 3,.row 4]),(3,.row false ty3 (.ints .i64 I.sup)),(4,.row false ty4 (.arcs I.arcs))] (asked3_r l I):=by
 refine FVc.of (zco l I ty1 ty3 ty4) (asked3_q l I ty1 ty3 ty4) ?_
 unfold zco
 obtain ⟨p1,p2⟩:=hp
 simp only [eq_self,exists_const,forall_const,decide_eq_true_eq,decide_eq_false_iff_not,and_true,true_and,bne_iff_ne,ne_eq,bne_eq_false_iff_eq,Int.toNat_natCast,Bool.not_eq_true',Bool.not_eq_false',beq_iff_eq,beq_eq_false_iff_ne,z08]
 refine ⟨0,⟨⟨by omega,fun j hj=>by omega⟩,rfl⟩,fun g hg=>⟨fun h1=>⟨by omega,by omega,fun x hx=>?_⟩,fun h1=>?_⟩⟩
 ·have hm:(IntKind.i64.wrap ((g:Int) + 1)).tmod (l.length:Int) = (((g + 1) % l.length:Nat):Int):=by rw [w64 (by omega) (by omega),z2k (by omega)]; norm_cast
  have hlt:(g + 1) % l.length < l.length:=Nat.mod_lt _ (by omega)
  rw [hm]
  simp only [Int.toNat_natCast]
  refine ⟨by omega,by omega,by omega,fun y hy=>?_⟩
  have hcx:=c1F_get p2 hx
  have hcy:=c1F_get p2 hy
  refine ⟨hcx,by omega,fun a ha=>⟨hcy,by omega,fun b hb=>?_⟩⟩
  have hl:linkF I l g = decide (a.dst = b.src):=by
   unfold linkF
   have d1:l.getD g 0 = x:=by simp [List.getD,hx]
   have d2:l.getD ((g + 1) % l.length) 0 = y:=by simp [List.getD,hy]
   rw [d1,d2,z3o ha,z3o hb]
  refine ⟨fun h2=>?_,fun h2=>⟨g + 1,⟨by omega,fun j hj=>?_⟩,by omega,by rw [w64 (by omega) (by omega)]; omega⟩⟩
  ·have h3:linkF I l g = false:=by rw [hl]; exact decide_eq_false h2
   cases hc:c3F I l with
   | false=>rfl
   | true=>have:=List.all_eq_true.1 hc g (List.mem_range.2 (by omega)); rw [h3] at this; cases this
  ·by_cases e:j = g
   ·subst e; rw [hl]; exact decide_eq_true h2
   ·exact hg.2 j (by omega)
 ·have:c3F I l = true:=List.all_eq_true.2 fun j hj=>hg.2 j (by have:=List.mem_range.1 hj; omega)
  exact this.symm
theorem asked3_ok:SpecOk Try.prog asked3_n true (z03 true zcq) :=
 z09 z0n (show z18 Try.prog asked3_g from z04) (by kernel_rfl) mixedOrders Try.func73 rfl rfl (by kernel_rfl) (n:=2) (by decide +kernel) (I:=asked3_IA) (fun _ _=>z06) (A:=asked3_A)
  (fun args h r hr=>by
   unfold zcq at hr
   split at hr
   ·rename_i ty1 l ty3 I_s ty4 I_a; cases hr; refine ⟨rfl,fun hp=>?_⟩; have hE:=asked3_E l ⟨I_s,I_a⟩ ty1 ty3 ty4 hp; exact hE
   ·cases hr)
def zcr (l : List Int) (I : Inst) (ty1 ty3 ty4 : TypeId) : Prop :=
      ∃ (g0:Nat),
 ((g0 <= l.length/\((List.take g0 l).all fun (a:Int)=>decide ((z6m I a).cap = inf)) = true) /\
 ((0:Nat) = (0:Nat)/\True/\(↑l.length:Int) = (↑l.length:Int)/\(0:Int) = (↑g0:Int)/\True) /\
 l = l/\(True/\True/\True)/\I.sup = I.sup/\I.arcs = I.arcs/\True) /\
 ∀ (g:Nat),
 g <= l.length/\((List.take g l).all fun (a:Int)=>decide ((z6m I a).cap = inf)) = true ->
 (decide ((↑g:Int) < (↑l.length:Int)) = true ->
 ((0:Int) <= (↑g:Int)/\(↑g:Int) < (↑l.length:Int)) /\
 (↑g:Int).toNat < l.length /\
 ∀ (x:Int),
 l[(↑g:Int).toNat]? = some x ->
 ((0:Int) <= x/\x < (↑I.arcs.length:Int)) /\
 x.toNat < I.arcs.length /\
 ∀ (x_1:Arc),
 I.arcs[x.toNat]? = some x_1 ->
 ((x_1.cap != (4611686018427387904:Int)) = true->(false = c4F I l/\True)/\True) /\
 ((x_1.cap != (4611686018427387904:Int)) = false ->
 ∃ (g':Nat),
 (g' <= l.length/\((List.take g' l).all fun (a:Int)=>decide ((z6m I a).cap = inf)) = true) /\
 l.length - g' < l.length - g /\
 ((0:Nat) = (0:Nat)/\True/\(↑l.length:Int) = (↑l.length:Int)/\IntKind.i64.wrap ((↑g:Int) + (1:Int)) = (↑g':Int)/\True) /\
 l = l/\(True/\True/\True)/\I.sup = I.sup/\I.arcs = I.arcs/\True)) /\
 (decide ((↑g:Int) < (↑l.length:Int)) = false->(true = c4F I l/\True)/\True)
theorem asked4_q (l:List Int) (I:Inst) (ty1 ty3 ty4:TypeId):zcr l I ty1 ty3 ty4 = z25 TT asked4_g (asked4_I l I) (zcs l I) Try.f74 [.ptr 0 0 0 0,.ptr 2 0 0 0] [(0,.box false 25 [.row 1]),(1,.row false ty1 (.ints .i64 l)),(2,.box false 30 [.row 3,.row 4]),(3,.row false ty3 (.ints .i64 I.sup)),(4,.row false ty4 (.arcs I.arcs))] (asked4_r l I):=by kernel_rfl
theorem asked4_E (l:List Int) (I:Inst) (ty1 ty3 ty4:TypeId) (hp:l.length <= 140737488351232/\c1F I l = true):FVc TT asked4_g (asked4_I l I) (zcs l I) Try.f74 [.ptr 0 0 0 0,.ptr 2 0 0 0] [(0,.box false 25 [.row 1]),(1,.row false ty1 (.ints .i64 l)),(2,.box false 30 [.row 3,.row 4]),(3,.row false ty3 (.ints .i64 I.sup)),(4,.row false ty4 (.arcs I.arcs))] (asked4_r l I):=by
 refine FVc.of (zcr l I ty1 ty3 ty4) (asked4_q l I ty1 ty3 ty4) ?_
 unfold zcr
 obtain ⟨p1,p2⟩:=hp
 simp only [eq_self,exists_const,forall_const,decide_eq_true_eq,decide_eq_false_iff_not,and_true,true_and,bne_iff_ne,ne_eq,bne_eq_false_iff_eq,Int.toNat_natCast,Bool.not_eq_true',Bool.not_eq_false',beq_iff_eq,beq_eq_false_iff_ne,z08]
 refine ⟨0,⟨⟨by omega,rfl⟩,rfl⟩,fun g hg=>⟨fun h1=>⟨by omega,by omega,fun x hx=>⟨c1F_get p2 hx,by have:=c1F_get p2 hx; omega,fun a ha=>⟨fun h2=>?_,fun h2=>⟨g + 1,⟨by omega,?_⟩,by omega,by rw [w64 (by omega) (by omega)]; omega⟩⟩⟩⟩,fun h1=>(all_end hg.2 (by omega)).symm⟩⟩
 ·exact (all_not hx (decide_eq_false (by rw [z3o ha]; exact h2))).symm
 ·rw [all_take hx,hg.2,z3o ha]
  simp [inf,h2]
theorem asked4_ok:SpecOk Try.prog asked4_n true (z03 true zct) :=
 z09 z0n (show z18 Try.prog asked4_g from z04) (by kernel_rfl) mixedOrders Try.func74 rfl rfl (by kernel_rfl) (n:=2) (by decide +kernel) (I:=asked4_IA) (fun _ _=>z06) (A:=asked4_A)
  (fun args h r hr=>by
   unfold zct at hr
   split at hr
   ·rename_i ty1 l ty3 I_s ty4 I_a; cases hr; refine ⟨rfl,fun hp=>?_⟩; have hE:=asked4_E l ⟨I_s,I_a⟩ ty1 ty3 ty4 hp; exact hE
   ·cases hr)
def zcu (I : Inst) (l : List Int) (ty1 ty2 ty4 : TypeId) : Prop :=
      (A64c I.arcs/\l.length <= (140737488351232:Nat)) /\
 I64 (0:Int)/\((W (rayS I l)).ok/\(W (0:Int)).ok)/\(decide (wcmp (W (rayS I l)) (W (0:Int)) < (0:Int)) = c5F I l/\True)/\True
theorem asked5_q (I:Inst) (l:List Int) (ty1 ty2 ty4:TypeId):zcu I l ty1 ty2 ty4 = z25 TT asked5_g (asked5_I I l) (asked5_an I l) Try.f75 [.ptr 0 0 0 0,.ptr 3 0 0 0] [(0,.box false 30 [.row 1,.row 2]),(1,.row false ty1 (.ints .i64 I.sup)),(2,.row false ty2 (.arcs I.arcs)),(3,.box false 25 [.row 4]),(4,.row false ty4 (.ints .i64 l))] (asked5_r I l):=by kernel_rfl
theorem asked5_E (I:Inst) (l:List Int) (ty1 ty2 ty4:TypeId) (hp:l.length <= 140737488351232/\A64c I.arcs):FVc TT asked5_g (asked5_I I l) (asked5_an I l) Try.f75 [.ptr 0 0 0 0,.ptr 3 0 0 0] [(0,.box false 30 [.row 1,.row 2]),(1,.row false ty1 (.ints .i64 I.sup)),(2,.row false ty2 (.arcs I.arcs)),(3,.box false 25 [.row 4]),(4,.row false ty4 (.ints .i64 l))] (asked5_r I l):=by
 refine FVc.of (zcu I l ty1 ty2 ty4) (asked5_q I l ty1 ty2 ty4) ?_
 unfold zcu
 obtain ⟨p1,p2⟩:=hp
 simp only [eq_self,exists_const,forall_const,decide_eq_true_eq,decide_eq_false_iff_not,and_true,true_and,bne_iff_ne,ne_eq,bne_eq_false_iff_eq,Int.toNat_natCast,Bool.not_eq_true',Bool.not_eq_false',beq_iff_eq,beq_eq_false_iff_ne,z08]
 exact ⟨⟨p2,p1⟩,by simp [I64],⟨W_ok _,W_ok _⟩,rfl⟩
theorem asked5_ok:SpecOk Try.prog asked5_n true (z03 true zcv) :=
 z09 z0n (show z18 Try.prog asked5_g from z00 Sum12_ok (z00 zbz (z00 z8s (z04)))) (by kernel_rfl) mixedOrders Try.func75 rfl rfl (by kernel_rfl) (n:=2) (by decide +kernel) (I:=asked5_IA) (fun _ _=>z06) (A:=asked5_A)
  (fun args h r hr=>by
   unfold zcv at hr
   split at hr
   ·rename_i ty1 I_s ty2 I_a ty4 l; cases hr; refine ⟨rfl,fun hp=>?_⟩; have hE:=asked5_E ⟨I_s,I_a⟩ l ty1 ty2 ty4 hp; exact hE
   ·cases hr)
theorem asked_ok:SpecOk Try.prog asked_n false asked_spec :=
 z3u z0n (show z18 Try.prog asked_g from z04) (by kernel_rfl) mixedOrders Try.func58 rfl rfl (by kernel_rfl) _
abbrev z69 (g':Nat) (g:Nat) (I:Inst) (l:List Int):=((5:Nat) - g' < (5:Nat) - g/\((True/\((5:Int) = 5/\(IntKind.i64.wrap ((↑g:Int) + (1:Int)) = (↑g':Int)/\True)))/\(((0 = 0/\(0 = 0/\True))/\((0 = 0/\True)/\((0 = 0/\(0 = 0/\True))/\((0 = 0/\(0 = 0/\True))/\((0 = 0/\(0 = 0/\True))/\True)))))/\((True/\True)/\((True/\(True/\True))/\(I.sup = I.sup/\(I.arcs = I.arcs/\(l = l/\True))))))))
abbrev z6a (g':Nat) (I:Inst) (l:List Int):=(g' <= (5:Nat)/\(((1:Nat) <= g'->c1F I l = true)/\(((2:Nat) <= g'->c2F l = true)/\(((3:Nat) <= g'->c3F I l = true)/\(((4:Nat) <= g'->c4F I l = true)/\((5:Nat) <= g'->c5F I l = true))))))
def Turns_E0 (I : Inst) (l : List Int) (ty0 ty1 ty2 : TypeId) : Prop :=
   True/\((z0b I != (0:Int)) = true->(z0b I = z1t I l/\True)/\True)/\((z0b I != (0:Int)) = false->(((↑l.length:Int) == (0:Int)) = true->((30:Int) = z1t I l/\True)/\True)/\(((↑l.length:Int) == (0:Int)) = false->(decide ((↑l.length:Int) > ↑I.arcs.length) = true->((30:Int) = z1t I l/\True)/\True)/\(decide ((↑l.length:Int) > ↑I.arcs.length) = false->∃ (g0:Nat),((g0 <= (5:Nat)/\(((1:Nat) <= g0->c1F I l = true)/\(((2:Nat) <= g0->c2F l = true)/\(((3:Nat) <= g0->c3F I l = true)/\(((4:Nat) <= g0->c4F I l = true)/\((5:Nat) <= g0->c5F I l = true))))))/\((True/\((↑(5:Nat):Int) = 5/\((0:Int) = ↑g0/\True)))/\(((0 = 0/\(0 = 0/\True))/\((0 = 0/\True)/\((0 = 0/\(0 = 0/\True))/\((0 = 0/\(0 = 0/\True))/\((0 = 0/\(0 = 0/\True))/\True)))))/\((True/\True)/\((True/\(True/\True))/\(I.sup = I.sup/\(I.arcs = I.arcs/\(l = l/\True))))))))/\∀ (g:Nat),g <= (5:Nat)/\((1:Nat) <= g->c1F I l = true)/\((2:Nat) <= g->c2F l = true)/\((3:Nat) <= g->c3F I l = true)/\((4:Nat) <= g->c4F I l = true)/\((5:Nat) <= g->c5F I l = true)->(decide ((↑g:Int) < 5) = true->((0:Int) <= ↑g/\((↑g:Int) < ↑(5:Nat)))/\(↑g:Int).toNat < (5:Nat)/\((↑g:Int).toNat = (0:Nat)->l.length <= (140737488351232:Nat)/\(((!c1F I l) = true->((35:Int) = z1t I l/\True)/\True)/\((!c1F I l) = false->∃ (g':Nat),(z6a g' I l)/\(z69 g' g I l))))/\((↑g:Int).toNat = (0:Nat) + (1:Nat)->l.length <= (140737488351232:Nat)/\(((!c2F l) = true->((35:Int) = z1t I l/\True)/\True)/\((!c2F l) = false->∃ (g':Nat),(z6a g' I l)/\(z69 g' g I l))))/\(((↑g:Int).toNat = (0:Nat) + (1:Nat) + (1:Nat)->(l.length <= (140737488351232:Nat)/\(c1F I l = true))/\(((!c3F I l) = true->((35:Int) = z1t I l/\True)/\True)/\((!c3F I l) = false->∃ (g':Nat),(z6a g' I l)/\(z69 g' g I l))))/\(((↑g:Int).toNat = (0:Nat) + (1:Nat) + (1:Nat) + (1:Nat)->(l.length <= (140737488351232:Nat)/\(c1F I l = true))/\(((!c4F I l) = true->((35:Int) = z1t I l/\True)/\True)/\((!c4F I l) = false->∃ (g':Nat),(z6a g' I l)/\(z69 g' g I l))))/\((↑g:Int).toNat = (0:Nat) + (1:Nat) + (1:Nat) + (1:Nat) + (1:Nat)->(l.length <= (140737488351232:Nat)/\(A64c I.arcs))/\(((!c5F I l) = true->((35:Int) = z1t I l/\True)/\True)/\((!c5F I l) = false->∃ (g':Nat),(z6a g' I l)/\(z69 g' g I l)))))))/\(decide ((↑g:Int) < 5) = false->((0:Int) = z1t I l/\True)/\True))))
theorem Turns_q (I:Inst) (l:List Int) (ty0 ty1 ty2:TypeId):Turns_E0 I l ty0 ty1 ty2 = z25 TT Turns_g (Turns_I I l) (Turns_an I l) Try.f50 [.agg [.row 0,.row 1],.row 2] [(0,.row false ty0 (.ints .i64 I.sup)),(1,.row false ty1 (.arcs I.arcs)),(2,.row false ty2 (.ints .i64 l))] (Turns_r I l):=by kernel_rfl
theorem Turns_E (I:Inst) (l:List Int) (ty0 ty1 ty2:TypeId) (hp:l.length <= 140737488351232/\A64c I.arcs):FVc TT Turns_g (Turns_I I l) (Turns_an I l) Try.f50 [.agg [.row 0,.row 1],.row 2] [(0,.row false ty0 (.ints .i64 I.sup)),(1,.row false ty1 (.arcs I.arcs)),(2,.row false ty2 (.ints .i64 l))] (Turns_r I l):=by
 refine FVc.of (Turns_E0 I l ty0 ty1 ty2) (Turns_q I l ty0 ty1 ty2) ?_
 unfold Turns_E0
 delta z6a z69
 obtain ⟨p1,p2⟩:=hp
 simp only [eq_self,exists_const,forall_const,decide_eq_true_eq,decide_eq_false_iff_not,and_true,true_and,bne_iff_ne,ne_eq,bne_eq_false_iff_eq,Int.toNat_natCast,Bool.not_eq_true',Bool.not_eq_false',beq_iff_eq,beq_eq_false_iff_ne,z08]
 unfold z1t
 refine ⟨fun h=>by simp [h],fun h=>⟨fun h2=>by simp [h,show l.length = 0 by omega],fun h2=>⟨fun h3=>by simp [h,show I.arcs.length < l.length by omega],fun h3=>?_⟩⟩⟩
 have e0:¬ (l.length = 0 ∨ I.arcs.length < l.length):=by omega
 simp only [h,e0,ne_eq,not_true,if_false]
 refine ⟨0,⟨⟨by omega,fun h=>by omega,fun h=>by omega,fun h=>by omega,fun h=>by omega,fun h=>by omega⟩,by first | exact rfl | exact ⟨rfl,rfl⟩⟩,fun g hg=>?_⟩
 obtain ⟨g0,g1,g2,g3,g4,g5⟩:=hg
 have wk:IntKind.i64.wrap ((g:Int) + 1) = ((g + 1:Nat):Int):=by rw [w64 (by omega) (by omega)]; omega
 refine ⟨fun h4=>⟨by omega,by omega,fun e=>⟨p1,fun f=>?_,fun f=>⟨g + 1,⟨by omega,fun _=>f,fun h=>by omega,fun h=>by omega,fun h=>by omega,fun h=>by omega⟩,by omega,wk⟩⟩,fun e=>⟨p1,fun f=>?_,fun f=>⟨g + 1,⟨by omega,fun _=>g1 (by omega),fun _=>f,fun h=>by omega,fun h=>by omega,fun h=>by omega⟩,by omega,wk⟩⟩,
  fun e=>⟨⟨p1,g1 (by omega)⟩,fun f=>?_,fun f=>⟨g + 1,⟨by omega,fun _=>g1 (by omega),fun _=>g2 (by omega),fun _=>f,fun h=>by omega,fun h=>by omega⟩,by omega,wk⟩⟩,
  fun e=>⟨⟨p1,g1 (by omega)⟩,fun f=>?_,fun f=>⟨g + 1,⟨by omega,fun _=>g1 (by omega),fun _=>g2 (by omega),fun _=>g3 (by omega),fun _=>f,fun h=>by omega⟩,by omega,wk⟩⟩,
  fun e=>⟨⟨p1,p2⟩,fun f=>?_,fun f=>⟨g + 1,⟨by omega,fun _=>g1 (by omega),fun _=>g2 (by omega),fun _=>g3 (by omega),fun _=>g4 (by omega),fun _=>f⟩,by omega,wk⟩⟩⟩,fun h4=>?_⟩
 all_goals first
  | simp [f]
  | simp [g1 (by omega),g2 (by omega),g3 (by omega),g4 (by omega),g5 (by omega)]
theorem Turns_ok:SpecOk Try.prog Turns_n true (z03 true Turns_fs) :=
 z09 z0n (show z18 Try.prog Turns_g from z00 z7v (z00 asked_ok (z00 asked1_ok (z00 asked2_ok (z00 asked3_ok (z00 asked4_ok (z00 asked5_ok (z04)))))))) (by kernel_rfl) mixedOrders Try.func50 rfl rfl (by kernel_rfl) (n:=2) (by decide +kernel) (I:=Turns_IA) (fun _ _=>z06) (A:=Turns_A)
  (fun args h r hr=>by
   unfold Turns_fs at hr
   split at hr
   ·rename_i ty0 I_s ty1 I_a ty2 l; cases hr; refine ⟨rfl,fun hp=>?_⟩; have hE:=Turns_E ⟨I_s,I_a⟩ l ty0 ty1 ty2 hp; exact hE
   ·cases hr)
end Go.Proofs.Ytapeenpimcffpaa
end
section
namespace Go.Proofs.Ytapeenpimcffpaa
open Go Go.RowKit Go.Ql Go.Vc
end Go.Proofs.Ytapeenpimcffpaa
end
section
namespace Go.Proofs.Ytapeenpimcffpaa
open Go Go.RowKit Go.Ql Go.Vc
end Go.Proofs.Ytapeenpimcffpaa
end
section
namespace Go.Ql
open Go Go.Vc
structure Cert where
 kind:Int
 flow:List Int
 pot:List Int
 side:List Bool
 cycle:List Int
deriving DecidableEq
structure StepD where
 inst:Inst
 pass:Int
 was:Inst
 off:Wide
 did:Bool
deriving DecidableEq
def StepD.none:StepD:=⟨⟨[],[]⟩,0,⟨[],[]⟩,⟨0,0⟩,false⟩
end Go.Ql
end
section
namespace Go.Ql
open Go Go.RowKit
def Arc.In (n:Int) (a:Arc):Prop:=0 <= a.src/\a.src < n/\0 <= a.dst/\a.dst < n
end Go.Ql
end
section
namespace Go.Ql
open Go Go.Vc
end Go.Ql
end
section
namespace Go.Ql
open Go Go.Vc
end Go.Ql
end
section
namespace Go.Ql
open Go Go.Vc
theorem Arc.Nice.more {m n:Int} {a:Arc} (h:a.Nice m) (hm:m <= n):a.Nice n :=
 ⟨h.s0,by have:=h.s1; omega,h.d0,by have:=h.d1; omega,h.l0,h.l1,h.c0,h.c1,h.k0,h.k1⟩
end Go.Ql
end
section
namespace Go.Ql
open Go Go.Vc
theorem on_in {m:Int} {side:List Bool} {a:Arc} (h:a.In m):outA m side a = (side.getD a.src.toNat false && !side.getD a.dst.toNat false)/\inA m side a = (side.getD a.dst.toNat false && !side.getD a.src.toNat false):=by
 obtain ⟨h1,h2,h3,h4⟩:=h
 unfold outA inA isN onF
 simp [h1,h2,h3,h4]
theorem addAt_getD (s:List Int) (k:Nat) (x:Int) (v:Nat) (hv:v < s.length):(addAt s k x).getD v 0 = s.getD v 0 + (if k = v then x else 0):=by
 unfold addAt
 rw [List.getD_eq_getElem?_getD,List.getElem?_set]
 by_cases h:k = v
 ·subst h; simp [hv]
 ·simp [h,List.getD_eq_getElem?_getD]
theorem fitsF_iff {I:Inst} {x:List Int}:z16 I x = 0 ↔ z0b I = 0/\x.length = I.arcs.length/\z1j I.arcs x = true/\netOk I x = true:=by
 unfold z16
 by_cases h1:z0b I = 0
 ·by_cases h2:x.length = I.arcs.length
  ·cases h3:z1j I.arcs x <;> cases h4:netOk I x <;> simp [h1,h2]
  ·simp [h1,h2]
 ·simp [h1]
def Few (x:List Int):Prop:=∀ y ∈ x,0 <= y/\y <= 7
theorem Few.head {x:List Int} (h:Few x):0 <= x.headD 0/\x.headD 0 <= 7:=by
 cases x with
 | nil=>simp
 | cons y x=>exact h y (by simp)
theorem Few.tail {x:List Int} (h:Few x):Few x.tail:=fun y hy=>h y (List.mem_of_mem_tail hy)
theorem Few.a64 {x:List Int} (h:Few x):A64 x:=fun y hy=>by have:=h y hy; unfold I64; omega
theorem right_A64 {I:Inst} (h:z0b I = 0):A64a I.arcs/\A64c I.arcs/\A64 I.sup/\L42 I.arcs:=by
 refine ⟨fun a ha=>?_,fun a ha=>?_,fun x hx=>?_,fun a ha=>?_⟩
 ·have:=z19 h ha; unfold I64; omega
 ·have:=z19 h ha; unfold I64; omega
 ·have:=(z39 h).1 x hx; unfold I64; omega
 ·have:=z19 h ha; omega
end Go.Ql
end
section
namespace Go.Ql
open Go Go.Vc
def z2d (l:List Int):Nat:=(l.filter fun x=>decide (x = 0)).length
def z3g (c:Cert):Bool :=
 if c.kind = 1 then decide (c.side.length = 0) && decide (c.cycle.length = 0)
 else if c.kind = 2 then decide (c.flow.length = 0) && decide (c.pot.length = 0) && decide (c.cycle.length = 0)
 else if c.kind = 3 then decide (c.pot.length = 0) && decide (c.side.length = 0)
 else false
def z14 (I:Inst) (c:Cert):Int :=
 if z0b I ≠ 0 then z0b I else if z3g c = false then 36
 else if c.kind = 1 then z0y I c.flow c.pot
 else if c.kind = 2 then z1r I c.side
 else if z16 I c.flow ≠ 0 then z16 I c.flow else z1t I c.cycle
def zan (I:Inst) (c:Cert):Wide:=if c.kind = 1 then W (costF I c.flow) else ⟨0,0⟩
def z0m (c:Cert):Prop:=A64 c.flow/\A64 c.pot/\c.flow.length <= 140737488351232/\c.pot.length <= 140737488351232/\c.side.length <= 140737488351232/\c.cycle.length <= 140737488351232
def z2h (I:Inst):Prop:=I.sup.length <= 10000/\I.arcs.length <= 10000/\A64 I.sup/\A64a I.arcs/\A64c I.arcs
theorem z7f {c:Cert} (h:z3g c = true):c.kind = 1 ∨ c.kind = 2 ∨ c.kind = 3:=by
 unfold z3g at h
 by_cases h1:c.kind = 1
 ·exact .inl h1
 ·by_cases h2:c.kind = 2
  ·exact .inr (.inl h2)
  ·by_cases h3:c.kind = 3
   ·exact .inr (.inr h3)
   ·rw [if_neg h1,if_neg h2,if_neg h3] at h; cases h
theorem zerosF_nil:z2d [] = 0:=rfl
theorem z40 (x:Int) (l:List Int):z2d (x :: l) = (if x = 0 then 1 else 0) + z2d l:=by
 unfold z2d
 rw [List.filter_cons]
 by_cases h:x = 0 <;> simp [h]; omega
theorem zerosF_snoc (l:List Int) (x:Int):z2d (l ++ [x]) = z2d l + (if x = 0 then 1 else 0):=by
 unfold z2d
 rw [List.filter_append]
 by_cases h:x = 0 <;> simp [h]
theorem zerosF_le (l:List Int):z2d l <= l.length:=List.length_filter_le _ _
end Go.Ql
end
section
namespace Go.Proofs.Ytapeenpimcffpaa
open Go Go.RowKit Go.Ql Go.Vc
def zdi (l:List Int):FRes:={ pre:=l.length <= 1000000000,res:=.int .i64 (z2d l),rows:=[],eff:=[] }
def z9i:FS:=fun args h=>match args,h with
 | [.row 0],[(0,.row false ty0 (.ints .i64 l))]=>some (zdi l)
 | _,_=>none
def z9h (l:List Int):List (Nat × Ann):=[(3,{ G:=(Nat),inv:=fun k=>⟨[(3,.int .i64 (z2d (l.take k))),(6,.row 0),(7,.int .i64 (↑l.length:Int)),(8,.int .i64 k)],[(0,.row false 0 (.ints .i64 l))],1⟩,rel:=fun k0 k=>k <= l.length,meas:=fun k=>l.length - k })]
def empty13_A:List SV->z0g->List (Nat × Ann):=fun args h=>match args,h with
 | [.row 0],[(0,.row false ty0 (.ints .i64 l))]=>z9h l
 | _,_=>[]
def zdh:z0c:=[]
abbrev empty13_n:Nat:=43
def empty13_I (l:List Int):List (Nat × z0a):=[]
def empty13_IA:List SV->z0g->List (Nat × z0a):=fun _ _=>[]
def zc1 (c:Cert):FRes:={ pre:=True,res:=.bool (z3g c),rows:=[],eff:=[] }
def z8z:FS:=fun args h=>match args,h with
 | [.agg [.int .i64 c_k,.row 0,.row 1,.row 2,.row 3]],[(0,.row false ty0 (.ints .i64 c_f)),(1,.row false ty1 (.ints .i64 c_p)),(2,.row false ty2 (.bools c_s)),(3,.row false ty3 (.ints .i64 c_y))]=>some (zc1 ⟨c_k,c_f,c_p,c_s,c_y⟩)
 | _,_=>none
def Plain13_an (c:Cert):List (Nat × Ann):=[]
def Plain13_A:List SV->z0g->List (Nat × Ann):=fun _ _=>[]
def zc0:z0c:=[(empty13_n,(true,z03 true z9i))]
abbrev Plain13_n:Nat:=40
def Plain13_I (c:Cert):List (Nat × z0a):=[]
def Plain13_IA:List SV->z0g->List (Nat × z0a):=fun _ _=>[]
def zcx (I:Inst) (c:Cert):FRes:={ pre:=z0m c/\z2h I,res:=.int .u16 (z0y I c.flow c.pot),rows:=[],eff:=[] }
def z99:FS:=fun args h=>match args,h with
 | [.agg [.row 0,.row 1],.agg [.int .i64 c_k,.row 2,.row 3,.row 4,.row 5]],[(0,.row false ty0 (.ints .i64 I_s)),(1,.row false ty1 (.arcs I_a)),(2,.row false ty2 (.ints .i64 c_f)),(3,.row false ty3 (.ints .i64 c_p)),(4,.row false ty4 (.bools c_s)),(5,.row false ty5 (.ints .i64 c_y))]=>some (zcx ⟨I_s,I_a⟩ ⟨c_k,c_f,c_p,c_s,c_y⟩)
 | _,_=>none
def askedC1_an (I:Inst) (c:Cert):List (Nat × Ann):=[]
def askedC1_A:List SV->z0g->List (Nat × Ann):=fun _ _=>[]
def zcw:z0c:=[(Slack_n,(true,z03 true Slack_fs))]
abbrev askedC1_n:Nat:=44
def askedC1_I (I:Inst) (c:Cert):List (Nat × z0a):=[]
def askedC1_IA:List SV->z0g->List (Nat × z0a):=fun _ _=>[]
def zcz (I:Inst) (c:Cert):FRes:={ pre:=z0m c/\z2h I,res:=.int .u16 (z1r I c.side),rows:=[],eff:=[] }
def z9b:FS:=fun args h=>match args,h with
 | [.agg [.row 0,.row 1],.agg [.int .i64 c_k,.row 2,.row 3,.row 4,.row 5]],[(0,.row false ty0 (.ints .i64 I_s)),(1,.row false ty1 (.arcs I_a)),(2,.row false ty2 (.ints .i64 c_f)),(3,.row false ty3 (.ints .i64 c_p)),(4,.row false ty4 (.bools c_s)),(5,.row false ty5 (.ints .i64 c_y))]=>some (zcz ⟨I_s,I_a⟩ ⟨c_k,c_f,c_p,c_s,c_y⟩)
 | _,_=>none
def askedC2_an (I:Inst) (c:Cert):List (Nat × Ann):=[]
def askedC2_A:List SV->z0g->List (Nat × Ann):=fun _ _=>[]
def zcy:z0c:=[(Proves_n,(true,z03 true zc7))]
abbrev askedC2_n:Nat:=46
def askedC2_I (I:Inst) (c:Cert):List (Nat × z0a):=[]
def askedC2_IA:List SV->z0g->List (Nat × z0a):=fun _ _=>[]
def zd1 (I:Inst) (c:Cert):FRes:={ pre:=z0m c/\z2h I,res:=.int .u16 ((if z16 I c.flow ≠ 0 then z16 I c.flow else z1t I c.cycle)),rows:=[],eff:=[] }
def z9d:FS:=fun args h=>match args,h with
 | [.agg [.row 0,.row 1],.agg [.int .i64 c_k,.row 2,.row 3,.row 4,.row 5]],[(0,.row false ty0 (.ints .i64 I_s)),(1,.row false ty1 (.arcs I_a)),(2,.row false ty2 (.ints .i64 c_f)),(3,.row false ty3 (.ints .i64 c_p)),(4,.row false ty4 (.bools c_s)),(5,.row false ty5 (.ints .i64 c_y))]=>some (zd1 ⟨I_s,I_a⟩ ⟨c_k,c_f,c_p,c_s,c_y⟩)
 | _,_=>none
def askedC3_an (I:Inst) (c:Cert):List (Nat × Ann):=[]
def askedC3_A:List SV->z0g->List (Nat × Ann):=fun _ _=>[]
def zd0:z0c:=[(Fits_n,(true,z03 true Fits_fs)),(Turns_n,(true,z03 true Turns_fs))]
abbrev askedC3_n:Nat:=48
def askedC3_I (I:Inst) (c:Cert):List (Nat × z0a):=[]
def askedC3_IA:List SV->z0g->List (Nat × z0a):=fun _ _=>[]
abbrev askedC_n:Nat:=41
def askedC_g:z0c:=[]
def zd2:Vc.Spec:=z1z TT askedC_g (fun _ _ _=>[]) Try.f41
def Check_r (I:Inst) (c:Cert):FRes:={ pre:=z0m c/\z2h I,res:=.int .u16 (z14 I c),rows:=[],eff:=[] }
def z7r:FS:=fun args h=>match args,h with
 | [.agg [.row 0,.row 1],.agg [.int .i64 c_k,.row 2,.row 3,.row 4,.row 5]],[(0,.row false ty0 (.ints .i64 I_s)),(1,.row false ty1 (.arcs I_a)),(2,.row false ty2 (.ints .i64 c_f)),(3,.row false ty3 (.ints .i64 c_p)),(4,.row false ty4 (.bools c_s)),(5,.row false ty5 (.ints .i64 c_y))]=>some (Check_r ⟨I_s,I_a⟩ ⟨c_k,c_f,c_p,c_s,c_y⟩)
 | _,_=>none
def Check_an (I:Inst) (c:Cert):List (Nat × Ann):=[]
def Check_A:List SV->z0g->List (Nat × Ann):=fun _ _=>[]
def Check_g:z0c:=[(z91,(true,z03 true z4r)),(Plain13_n,(true,z03 true z8z)),(askedC_n,(false,zd2)),(askedC1_n,(true,z03 true z99)),(askedC2_n,(true,z03 true z9b)),(askedC3_n,(true,z03 true z9d))]
abbrev Check_n:Nat:=37
def Check_I (I:Inst) (c:Cert):List (Nat × z0a):=[]
def Check_IA:List SV->z0g->List (Nat × z0a):=fun _ _=>[]
end Go.Proofs.Ytapeenpimcffpaa
end
