/- Part of the proof: FY13, Solve13, DZ20, FZ20, Solve14, Solve15, Solve16, Solve19, DG20, FG20, Solve20, Base, Wrap3. -/
import Derived.Test.YtggblkbecekbdaaGreatZG14
import Derived.Test.YtggblkbecekbdaaGreatZG15
import Derived.Test.YtggblkbecekbdaaGreatZG8
import Derived.Test.YtggblkbecekbdaaGreatZG6
import Derived.Test.YtggblkbecekbdaaGreatZG5
import Derived.Test.YtggblkbecekbdaaGreatZG9
import Derived.Test.YtggblkbecekbdaaGreatZG12
import Derived.Test.YtggblkbecekbdaaGreatZG13
import Derived.Test.YtggblkbecekbdaaGreatZG1
import Derived.Test.YtggblkbecekbdaaGreatProg
import Derived.ProofKit
import Derived.OpenShut
import Derived.ChangeSame
import Derived.Deep.Slices
import Derived.Deep.Grids
import Derived.Test.YtggblkbecekbdaaGreatRows
set_option linter.unusedVariables false
set_option linter.all false
set_option linter.unusedSimpArgs false
set_option maxRecDepth 1000000
section
namespace Go.Proofs.YtggblkbecekbdaaGreat
open Go Go.RowKit Go.Ql Go.Vc
def zcx (c : Cert) (ty0 ty1 ty2 ty3 : TypeId) : Prop :=
      ((c.kind == (1:Int)) = true ->
 (((↑c.side.length:Int) == (0:Int)) = true->(((↑c.cycle.length:Int) == (0:Int)) = z3w c/\True)/\True) /\
 (((↑c.side.length:Int) == (0:Int)) = false->(false = z3w c/\True)/\True)) /\
 ((c.kind == (1:Int)) = false ->
 ((c.kind == (2:Int)) = true ->
 (((↑c.flow.length:Int) == (0:Int)) = true ->
 (((↑c.pot.length:Int) == (0:Int)) = true->(((↑c.cycle.length:Int) == (0:Int)) = z3w c/\True)/\True) /\
 (((↑c.pot.length:Int) == (0:Int)) = false->(false = z3w c/\True)/\True)) /\
 (((↑c.flow.length:Int) == (0:Int)) = false->(false = z3w c/\True)/\True)) /\
 ((c.kind == (2:Int)) = false ->
 ((c.kind == (3:Int)) = true ->
 (((↑c.pot.length:Int) == (0:Int)) = true->(((↑c.side.length:Int) == (0:Int)) = z3w c/\True)/\True) /\
 (((↑c.pot.length:Int) == (0:Int)) = false->(false = z3w c/\True)/\True)) /\
 ((c.kind == (3:Int)) = false->(false = z3w c/\True)/\True)))
theorem rPlain13_q (c:Cert) (ty0 ty1 ty2 ty3:TypeId):zcx c ty0 ty1 ty2 ty3 = z2h TT zgp (rPlain13_I c) (zmo c) Tryz.f53 [.agg [.int .i64 c.kind,.row 0,.row 1,.row 2,.row 3]] [(0,.row false ty0 (.ints .i64 c.flow)),(1,.row false ty1 (.ints .i64 c.pot)),(2,.row false ty2 (.bools c.side)),(3,.row false ty3 (.ints .i64 c.cycle))] (zgq c):=by kernel_rfl
theorem rPlain13_E (c:Cert) (ty0 ty1 ty2 ty3:TypeId) (hp:True):FVc TT zgp (rPlain13_I c) (zmo c) Tryz.f53 [.agg [.int .i64 c.kind,.row 0,.row 1,.row 2,.row 3]] [(0,.row false ty0 (.ints .i64 c.flow)),(1,.row false ty1 (.ints .i64 c.pot)),(2,.row false ty2 (.bools c.side)),(3,.row false ty3 (.ints .i64 c.cycle))] (zgq c):=by
 refine FVc.of (zcx c ty0 ty1 ty2 ty3) (rPlain13_q c ty0 ty1 ty2 ty3) ?_
 unfold zcx
 simp only [eq_self,exists_const,forall_const,decide_eq_true_eq,decide_eq_false_iff_not,and_true,true_and,bne_iff_ne,ne_eq,bne_eq_false_iff_eq,Int.toNat_natCast,Bool.not_eq_true',Bool.not_eq_false',beq_iff_eq,beq_eq_false_iff_ne,z08]
 unfold z3w
 have b0:∀ n:Nat,(((n:Int) == 0):Bool) = decide (n = 0):=fun n=>by by_cases h:n = 0 <;> simp [h]
 simp only [b0]
 refine ⟨fun k1=>⟨fun h1=>?_,fun h1=>?_⟩,fun k1=>⟨fun k2=>⟨fun h1=>⟨fun h2=>?_,fun h2=>?_⟩,fun h1=>?_⟩,fun k2=>⟨fun k3=>⟨fun h1=>?_,fun h1=>?_⟩,fun k3=>?_⟩⟩⟩
 all_goals
  first
   | (rw [if_pos (by assumption)])
   | (rw [if_neg (by assumption),if_pos (by assumption)])
   | (rw [if_neg (by assumption),if_neg (by assumption),if_pos (by assumption)])
   | (rw [if_neg (by assumption),if_neg (by assumption),if_neg (by assumption)])
 all_goals simp_all
theorem rPlain13_ok:SpecOk Tryz.prog rPlain13_n true (z02 true zcy) :=
 z0a z0k (show z1d Tryz.prog zgp from z05) (by kernel_rfl) mixedOrders Tryz.func53 rfl rfl (by kernel_rfl) (n:=1) (by decide +kernel) (I:=rPlain13_IA) (fun _ _=>z06) (A:=rPlain13_A)
  (fun args h r hr=>by
   unfold zcy at hr
   split at hr
   ·rename_i c_k ty0 c_f ty1 c_p ty2 c_s ty3 c_y; cases hr; refine ⟨rfl,fun hp=>?_⟩; have hE:=rPlain13_E ⟨c_k,c_f,c_p,c_s,c_y⟩ ty0 ty1 ty2 ty3 hp; exact hE
   ·cases hr)
theorem rProvesN_ok:SpecOk Tryz.prog rProvesN_n true (z02 true zcz) :=
 z0a z0k (show z1d Tryz.prog rProvesN_g from z05) (by kernel_rfl) mixedOrders Tryz.func55 rfl rfl (by kernel_rfl) (n:=2) (by decide +kernel) (I:=fun _ _=>[]) (fun _ _=>z06) (A:=fun _ _=>[])
  (fun args h r hr=>by
   unfold zcz at hr
   split at hr
   ·cases hr; exact ⟨rfl,fun hp=>hp.elim⟩
   ·cases hr)
theorem rTurnsN_ok:SpecOk Tryz.prog rTurnsN_n true (z02 true zgt) :=
 z0a z0k (show z1d Tryz.prog rTurnsN_g from z05) (by kernel_rfl) mixedOrders Tryz.func57 rfl rfl (by kernel_rfl) (n:=2) (by decide +kernel) (I:=fun _ _=>[]) (fun _ _=>z06) (A:=fun _ _=>[])
  (fun args h r hr=>by
   unfold zgt at hr
   split at hr
   ·cases hr; exact ⟨rfl,fun hp=>hp.elim⟩
   ·cases hr)
def zgk (I : Inst) (c : Cert) (ty0 ty1 ty2 ty3 ty4 ty5 : TypeId) : Prop :=
      True /\
 ((z03 I != (0:Int)) = true->(z03 I = z2t I c/\True)/\True) /\
 ((z03 I != (0:Int)) = false ->
 True /\
 ((!z3w { kind:=c.kind,flow:=c.flow,pot:=c.pot,side:=c.side,cycle:=c.cycle:Cert }) = true->((36:Int) = z2t I c/\True)/\True) /\
 ((!z3w { kind:=c.kind,flow:=c.flow,pot:=c.pot,side:=c.side,cycle:=c.cycle:Cert }) = false ->
 ((c.kind == (1:Int)) = true ->
 (I.sup.length <= (10000:Nat)/\I.arcs.length <= (10000:Nat)/\A64 c.flow/\A64 I.sup/\A64 c.pot/\zfd I.arcs) /\
 (z1u I c.flow c.pot = z2t I c/\True)/\True) /\
 ((c.kind == (1:Int)) = false ->
 ((c.kind == (2:Int)) = true->False/\((0:Int) = z2t I c/\True)/\True) /\
 ((c.kind == (2:Int)) = false ->
 (I.sup.length <= (10000:Nat)/\I.arcs.length <= (10000:Nat)/\A64 c.flow/\A64 I.sup) /\
 ((z1e I c.flow != (0:Int)) = true->(z1e I c.flow = z2t I c/\True)/\True) /\
 ((z1e I c.flow != (0:Int)) = false->False/\((0:Int) = z2t I c/\True)/\True)))))
theorem rCheckB_q (I:Inst) (c:Cert) (ty0 ty1 ty2 ty3 ty4 ty5:TypeId):zgk I c ty0 ty1 ty2 ty3 ty4 ty5 = z2h TT zmj (rCheckB_I I c) (rCheckB_an I c) Tryz.f18 [.agg [.row 0,.row 1],.agg [.int .i64 c.kind,.row 2,.row 3,.row 4,.row 5]] [(0,.row false ty0 (.ints .i64 I.sup)),(1,.row false ty1 (.arcs I.arcs)),(2,.row false ty2 (.ints .i64 c.flow)),(3,.row false ty3 (.ints .i64 c.pot)),(4,.row false ty4 (.bools c.side)),(5,.row false ty5 (.ints .i64 c.cycle))] (zmk I c):=by kernel_rfl
theorem rCheckB_E (I:Inst) (c:Cert) (ty0 ty1 ty2 ty3 ty4 ty5:TypeId) (hp:z76 c/\zjh I/\c.kind = 1):FVc TT zmj (rCheckB_I I c) (rCheckB_an I c) Tryz.f18 [.agg [.row 0,.row 1],.agg [.int .i64 c.kind,.row 2,.row 3,.row 4,.row 5]] [(0,.row false ty0 (.ints .i64 I.sup)),(1,.row false ty1 (.arcs I.arcs)),(2,.row false ty2 (.ints .i64 c.flow)),(3,.row false ty3 (.ints .i64 c.pot)),(4,.row false ty4 (.bools c.side)),(5,.row false ty5 (.ints .i64 c.cycle))] (zmk I c):=by
 refine FVc.of (zgk I c ty0 ty1 ty2 ty3 ty4 ty5) (rCheckB_q I c ty0 ty1 ty2 ty3 ty4 ty5) ?_
 unfold zgk
 obtain ⟨c1,c2,c3,c4,c5,c6⟩:=hp.1
 obtain ⟨i1,i2,i3,i4,i5⟩:=hp.2.1
 have kk:=hp.2.2
 simp only [eq_self,exists_const,forall_const,decide_eq_true_eq,decide_eq_false_iff_not,and_true,true_and,bne_iff_ne,ne_eq,bne_eq_false_iff_eq,Int.toNat_natCast,Bool.not_eq_true',Bool.not_eq_false',beq_iff_eq,beq_eq_false_iff_ne,z08]
 refine ⟨fun h=>by unfold z2t; rw [if_pos h],fun h=>⟨fun h2=>by unfold z2t; rw [if_neg (fun h5=>h5 h),if_pos h2],fun h2=>?_⟩⟩
 have e0:z2t I c = if c.kind = 1 then z1u I c.flow c.pot else if c.kind = 2 then z2b I c.side else if z1e I c.flow ≠ 0 then z1e I c.flow else z1l I c.cycle:=by
  unfold z2t; rw [if_neg (fun h5=>h5 h),if_neg (by rw [h2]; simp)]
 rw [e0]
 exact ⟨fun k1=>⟨⟨i1,i2,c1,i3,c2,i5⟩,by rw [if_pos k1]⟩,fun k1=>absurd kk k1⟩
theorem rCheckB_ok:SpecOk Tryz.prog rCheckB_n true (z02 true zgl) :=
 z0a z0k (show z1d Tryz.prog zmj from z00 rRight_ok (z00 rPlain13_ok (z00 rSlack_ok (z00 rProvesN_ok (z00 rFits_ok (z00 rTurnsN_ok (z05))))))) (by kernel_rfl) mixedOrders Tryz.func18 rfl rfl (by kernel_rfl) (n:=2) (by decide +kernel) (I:=rCheckB_IA) (fun _ _=>z06) (A:=rCheckB_A)
  (fun args h r hr=>by
   unfold zgl at hr
   split at hr
   ·rename_i c_k ty0 I_s ty1 I_a ty2 c_f ty3 c_p ty4 c_s ty5 c_y; cases hr; refine ⟨rfl,fun hp=>?_⟩; have hE:=rCheckB_E ⟨I_s,I_a⟩ ⟨c_k,c_f,c_p,c_s,c_y⟩ ty0 ty1 ty2 ty3 ty4 ty5 hp; exact hE
   ·cases hr)
end Go.Proofs.YtggblkbecekbdaaGreat
end
section
namespace Go.Ql
open Go Go.Vc
theorem YB.a64 {x:List Int} (h:YB x):A64 x:=fun y hy=>by have:=h y hy; unfold I64; omega
theorem zh8 {I:Inst} {x p:List Int} (h:z1u I x p = 0):z1e I x = 0:=by
 unfold z1u at h
 split at h
 ·rename_i hn; exact absurd h hn
 ·rename_i hn; exact Classical.byContradiction hn
theorem solve_ok {I:Inst} {c:Cert} {e:Int} (hr:z03 I = 0) (h:SolveP I c e):z76 c/\z2t I c = 0/\c.flow.length <= 256/\c.pot.length <= 64/\c.side.length <= 64/\c.cycle.length <= 256:=by
 obtain ⟨-,h1,h2,h3,-⟩:=h.ok hr
 have hs:=z0h hr
 have hl:c.flow.length <= 256/\c.pot.length <= 64/\c.side.length <= 64/\c.cycle.length <= 256:=by
  obtain ⟨-,hp,hk⟩:=z69 h1
  unfold z3w at hp
  rcases hk with ⟨k,h4⟩ | ⟨k,h4⟩ | ⟨k,h4,h5⟩
  ·have hf:=(fitsF_zero.1 (zh8 h4)).2.1
   have hpl:c.pot.length = I.sup.length:=by
    unfold z1u at h4
    rw [if_neg (fun hn=>hn (zh8 (by unfold z1u; exact h4)))] at h4
    split at h4
    ·cases h4
    ·rename_i hh; exact Classical.byContradiction hh
   rw [if_pos k,Bool.and_eq_true,decide_eq_true_eq,decide_eq_true_eq] at hp
   omega
  ·rw [if_neg (by omega),if_pos k,Bool.and_eq_true,Bool.and_eq_true,decide_eq_true_eq,decide_eq_true_eq,decide_eq_true_eq] at hp
   have:c.side.length = I.sup.length:=by
    unfold z2b at h4
    rw [if_neg (fun hn=>hn hr)] at h4
    split at h4
    ·cases h4
    ·rename_i hh; exact Classical.byContradiction hh
   omega
  ·rw [if_neg (by omega),if_neg (by omega),if_pos k,Bool.and_eq_true,decide_eq_true_eq,decide_eq_true_eq] at hp
   have hf:=(fitsF_zero.1 h4).2.1
   have:c.cycle.length <= I.arcs.length:=by
    unfold z1l at h5
    rw [if_neg (fun hn=>hn hr)] at h5
    split at h5
    ·cases h5
    ·omega
   omega
 exact ⟨⟨h2.a64,h3.a64,by omega,by omega,by omega,by omega⟩,h1,hl⟩
structure ValueP (I:Inst) (w:Wide) (k:Int):Prop where
 ex:∃ c,z76 c/\z2t I c = 0/\c.kind = k/\w = z62 I c
 yb:∃ c,z76 c/\z2t I c = 0/\YB c.flow/\YB c.pot/\∀ C:Int,0 <= C->(∀ s,okS I s->-C <= csS I s/\csS I s <= C)->∀ k,-(C * 32768) <= c.pot.getD k 0/\c.pot.getD k 0 <= C * 32768
theorem ValueP.one {I:Inst} {w:Wide} {k:Int} (h:ValueP I w k) {c:Cert} (hc:z76 c) (h1:z2t I c = 0):k = c.kind/\w = z62 I c:=by
 obtain ⟨d,q1,q2,rfl,rfl⟩:=h.ex
 exact cert_one q1 hc q2 h1
theorem ValueP.pos {I:Inst} {w:Wide} {k:Int} (h:ValueP I w k):z03 I = 0/\(k = 1 ∨ k = 2 ∨ k = 3):=by
 obtain ⟨d,q1,q2,rfl,rfl⟩:=h.ex
 obtain ⟨hr,hp,-⟩:=z69 q2
 exact ⟨hr,zm5 hp⟩
def FeasQ (I:Inst):Prop:=∃ x,A64 x/\z1e I x = 0
def NegQ (I:Inst):Prop:=∃ l,z1l I l = 0/\l.length <= 140737488351232
theorem ValueP.feas {I:Inst} {w:Wide} {k:Int} (h:ValueP I w k) (hk:k ≠ 2):FeasQ I:=by
 obtain ⟨d,q1,q2,rfl,-⟩:=h.ex
 obtain ⟨hr,-,q3⟩:=z69 q2
 rcases q3 with ⟨-,a⟩ | ⟨a,-⟩ | ⟨-,a,-⟩
 ·exact ⟨_,q1.1,zh8 a⟩
 ·omega
 ·exact ⟨_,q1.1,a⟩
theorem ValueP.neg {I:Inst} {w:Wide} {k:Int} (h:ValueP I w k) (hk:k ≠ 2):k = 3 ↔ NegQ I:=by
 refine ⟨fun h3=>?_,fun ⟨l,hl,hll⟩=>?_⟩
 ·obtain ⟨d,q1,q2,rfl,-⟩:=h.ex
  obtain ⟨hr,-,q3⟩:=z69 q2
  rcases q3 with ⟨a,-⟩ | ⟨a,-⟩ | ⟨-,-,a⟩
  ·omega
  ·omega
  ·exact ⟨_,a,q1.2.2.2.2.2⟩
 ·obtain ⟨x,hx,hf⟩:=h.feas hk
  have hlen:=(fitsF_zero.1 hf).2.1
  have hr:=(fitsF_zero.1 hf).1
  have hs:=z0h hr
  have hc:z2t I ⟨3,x,[],[],l⟩ = 0:=by
   unfold z2t z3w
   simp [hr,hf,hl]
  exact (h.one (c:=⟨3,x,[],[],l⟩) ⟨hx,YB.nil.a64,by dsimp only; omega,by simp,by simp,hll⟩ hc).1
def turnS (s:List Int) (k:Int):List Int:=addAt (addAt s (k % (s.length:Int)).toNat (k % 5)) (k / 5 % (s.length:Int)).toNat (-(k % 5))
def z1x (p d:List Int) (k:Int):Inst:=⟨turnS (z07 p d).sup k,(z07 p d).arcs⟩
theorem turnS_len (s:List Int) (k:Int):(turnS s k).length = s.length:=by unfold turnS; rw [z2q,z2q]
theorem turnS_sum {s:List Int} (k:Int) (h:1 <= s.length):(turnS s k).sum = s.sum:=by
 have h1:∀ x:Int,(x % (s.length:Int)).toNat < s.length:=fun x=>by
  have:=Int.emod_nonneg x (b:=(s.length:Int)) (by omega)
  have:=Int.emod_lt_of_pos x (b:=(s.length:Int)) (by omega)
  omega
 unfold turnS
 rw [z7s _ _ _ (by rw [z2q]; exact h1 _),z7s _ _ _ (h1 _)]
 omega
theorem turnS_within {s:List Int} {b k:Int} (h:Within b s) (hb:0 <= b):Within (b + 8) (turnS s k):=by
 have h1:=h.addAt hb (k % (s.length:Int)).toNat (x:=k % 5) (y:=4) (by omega) (by omega)
 have h2:=h1.addAt (by omega) (k / 5 % (s.length:Int)).toNat (x:=-(k % 5)) (y:=4) (by omega) (by omega)
 unfold turnS
 exact h2.more (by omega)
structure ArcFew (n:Int) (a:Arc):Prop where
 s0:0 <= a.src
 s1:a.src < n
 d0:0 <= a.dst
 d1:a.dst < n
 l0:0 <= a.low
 l1:a.low <= 500
 c:a.cap = inf ∨ a.low <= a.cap/\a.cap <= 2000
 k0:-2000 <= a.cost
 k1:a.cost <= 2000
structure FewI (I:Inst):Prop where
 n1:1 <= I.sup.length
 n2:I.sup.length <= 30
 m:I.arcs.length <= 64
 arc:∀ a ∈ I.arcs,ArcFew I.sup.length a
 sup:Within 100000 I.sup
 sum:I.sup.sum = 0
theorem Nice_few {n:Int} {a:Arc} (h:a.Nice n):ArcFew n a:=by
 have h1:=h.l1; have h2:=h.c0; have h3:=h.c1; have h4:=h.k0; have h5:=h.k1
 exact ⟨h.s0,h.s1,h.d0,h.d1,h.l0,by omega,h3.elim (fun h=>.inr ⟨h2,by omega⟩) .inl,by omega,by omega⟩
theorem small_few (p d:List Int) (k:Int):FewI (z1x p d k)/\(z1x p d k).sup.length = nOf d/\(z1x p d k).arcs.length <= 18/\nOf d <= 7/\1 <= nOf d/\Within 200 (z1x p d k).sup/\∀ a ∈ (z1x p d k).arcs,a.Nice (nOf d):=by
 have l1:=z6o p d
 have l2:=z8u d
 have l3:=nOf_le d
 have l4:=zbb p d
 have hl:(z1x p d k).sup.length = nOf d:=by unfold z1x; dsimp only; rw [turnS_len,l1]
 have hw:=turnS_within (k:=k) (z9z p d) (by omega)
 exact ⟨⟨by omega,by omega,by unfold z1x; dsimp only; omega,fun a ha=>by rw [hl]; exact Nice_few (z7y p d a ha),hw.more (by omega),by unfold z1x; dsimp only; rw [turnS_sum k (by omega)]; exact instF_sum p d⟩,hl,l4,l3,l2,hw.more (by omega),z7y p d⟩
theorem FewI.right {I:Inst} (h:FewI I):z03 I = 0:=by
 have:=h.n2; have:=h.m
 refine right_of (by omega) (by omega) (fun a ha=>?_) (fun x hx=>by have:=h.sup x hx; omega) h.sum
 have h:=h.arc a ha
 have hi:inf = 4611686018427387904:=rfl
 have:=h.s0; have:=h.s1; have:=h.d0; have:=h.d1; have:=h.l0; have:=h.l1; have:=h.c; have:=h.k0; have:=h.k1
 unfold z0e
 rw [if_neg (by omega),if_neg (by omega),if_neg (by omega),if_neg (by omega)]
theorem ValueP.none {I:Inst} {w:Wide} {k:Int} (h:ValueP I w k) (hk:k ≠ 1):w = ⟨0,0⟩:=by
 obtain ⟨d,q1,q2,rfl,rfl⟩:=h.ex
 unfold z62; rw [if_neg hk]
theorem inst_ok {I:Inst} (h:z03 I = 0):zjh I:=by
 obtain ⟨a1,a2,a3,a4⟩:=right_A64 h
 have:=z0h h
 exact ⟨by omega,by omega,a3,a1,a2⟩
end Go.Ql
end
section
namespace Go.Proofs.YtggblkbecekbdaaGreat
open Go Go.RowKit Go.Ql Go.Vc
def zln:FRes:={ pre:=True,res:=.bool (true),rows:=[],eff:=[] }
def zbc:FS:=fun args h=>match args,h with
 | [],[]=>some (zln)
 | _,_=>none
def known20_an:List (Nat × Ann):=[]
def known20_A:List SV->z0d->List (Nat × Ann):=fun _ _=>[]
def zll:z0c:=[(Solve_n,(true,z0u true Solve_fs)),(ValueC_n,(true,z02 true zjy)),(Of_n,(true,z02 true zjp)),(rCheckB_n,(true,z02 true zgl))]
abbrev zlm:Nat:=10
def known20_I:List (Nat × z09):=[]
def known20_IA:List SV->z0d->List (Nat × z09):=fun _ _=>[]
def Small_r (p:List Int) (d:List Int) (k:Int):FRes:={ pre:=Bytes p/\Bytes d/\p.length <= maxLen/\d.length <= maxLen/\0 <= k/\k <= 255,res:=.agg [.row 2,.row 3],rows:=[.row 2 (.ints .i64 (z1x p d k).sup),.row 35 (.arcs (z1x p d k).arcs)],eff:=[] }
def Small_fs:FS:=fun args h=>match args,h with
 | [.row 0,.row 1,.int .u8 k],[(0,.row false ty0 (.ints .u8 p)),(1,.row false ty1 (.ints .u8 d))]=>some (Small_r p d k)
 | _,_=>none
def Small_an (p:List Int) (d:List Int) (k:Int):List (Nat × Ann):=[]
def Small_A:List SV->z0d->List (Nat × Ann):=fun _ _=>[]
def Small_g:z0c:=[(Inst_n,(true,z02 true zjj))]
abbrev Small_n:Nat:=12
def Small_I (p:List Int) (d:List Int) (k:Int):List (Nat × z09):=[]
def Small_IA:List SV->z0d->List (Nat × z09):=fun _ _=>[]
end Go.Proofs.YtggblkbecekbdaaGreat
end
section
namespace Go.Proofs.YtggblkbecekbdaaGreat
open Go Go.RowKit Go.Ql Go.Vc
abbrev z7z (g:Cert × Int):=(z62 { sup:=[(3:Int),(-3:Int)],arcs:=[{ src:=(0:Int),dst:=(1:Int),low:=(0:Int),cap:=(2:Int),cost:=(1:Int):Arc },{ src:=(0:Int),dst:=(1:Int),low:=(0:Int),cap:=(2:Int),cost:=(5:Int):Arc }]:Inst } { kind:=g.1.kind,flow:=g.1.flow,pot:=g.1.pot,side:=g.1.side,cycle:=g.1.cycle:Cert })
def zg7 : Prop :=
   (z03 { sup:=[(3:Int),(-3:Int)],arcs:=[{ src:=(0:Int),dst:=(1:Int),low:=(0:Int),cap:=(2:Int),cost:=(1:Int):Arc },{ src:=(0:Int),dst:=(1:Int),low:=(0:Int),cap:=(2:Int),cost:=(5:Int):Arc }]:Inst } = (0:Int)->SmallI { sup:=[(3:Int),(-3:Int)],arcs:=[{ src:=(0:Int),dst:=(1:Int),low:=(0:Int),cap:=(2:Int),cost:=(1:Int):Arc },{ src:=(0:Int),dst:=(1:Int),low:=(0:Int),cap:=(2:Int),cost:=(5:Int):Arc }]:Inst })/\∀ (g:Cert × Int),SolveP { sup:=[(3:Int),(-3:Int)],arcs:=[{ src:=(0:Int),dst:=(1:Int),low:=(0:Int),cap:=(2:Int),cost:=(1:Int):Arc },{ src:=(0:Int),dst:=(1:Int),low:=(0:Int),cap:=(2:Int),cost:=(5:Int):Arc }]:Inst } g.1 g.2->(z76 { kind:=g.1.kind,flow:=g.1.flow,pot:=g.1.pot,side:=g.1.side,cycle:=g.1.cycle:Cert }/\(zjh { sup:=[(3:Int),(-3:Int)],arcs:=[{ src:=(0:Int),dst:=(1:Int),low:=(0:Int),cap:=(2:Int),cost:=(1:Int):Arc },{ src:=(0:Int),dst:=(1:Int),low:=(0:Int),cap:=(2:Int),cost:=(5:Int):Arc }]:Inst }))/\((g.2 == (0:Int)) = true->((g.1.kind == (1:Int)) = true->(decide (g.1.kind = (1:Int)) = true->I64 (7:Int)/\((decide ([(z7z g).hi,(z7z g).lo] = [(W (7:Int)).hi,(W (7:Int)).lo]) = true->(z76 { kind:=g.1.kind,flow:=g.1.flow,pot:=g.1.pot,side:=g.1.side,cycle:=g.1.cycle:Cert }/\(zjh { sup:=[(3:Int),(-3:Int)],arcs:=[{ src:=(0:Int),dst:=(1:Int),low:=(0:Int),cap:=(2:Int),cost:=(1:Int):Arc },{ src:=(0:Int),dst:=(1:Int),low:=(0:Int),cap:=(2:Int),cost:=(5:Int):Arc }]:Inst }/\(g.1.kind = (1:Int))))/\(((z2t { sup:=[(3:Int),(-3:Int)],arcs:=[{ src:=(0:Int),dst:=(1:Int),low:=(0:Int),cap:=(2:Int),cost:=(1:Int):Arc },{ src:=(0:Int),dst:=(1:Int),low:=(0:Int),cap:=(2:Int),cost:=(5:Int):Arc }]:Inst } { kind:=g.1.kind,flow:=g.1.flow,pot:=g.1.pot,side:=g.1.side,cycle:=g.1.cycle:Cert } == (0:Int)) = true/\True)/\True))/\(decide ([(z7z g).hi,(z7z g).lo] = [(W (7:Int)).hi,(W (7:Int)).lo]) = false->(false = true/\True)/\True)))/\(decide (g.1.kind = (1:Int)) = false->(false = true/\True)/\True))/\((g.1.kind == (1:Int)) = false->(false = true/\True)/\True))/\((g.2 == (0:Int)) = false->(false = true/\True)/\True)
theorem known20_q:zg7 = z2h TT zll (known20_I) (known20_an) Tryz.f10 [] [] (zln):=by kernel_rfl
theorem known20_E (hp:True):FVc TT zll (known20_I) (known20_an) Tryz.f10 [] [] (zln):=by
 refine FVc.of (zg7) (known20_q) ?_
 unfold zg7
 delta z7z
 simp only [eq_self,exists_const,forall_const,decide_eq_true_eq,decide_eq_false_iff_not,and_true,true_and,bne_iff_ne,ne_eq,bne_eq_false_iff_eq,Int.toNat_natCast,Bool.not_eq_true',Bool.not_eq_false',beq_iff_eq,beq_eq_false_iff_ne,z08]
 have hr:z03 ⟨[3,-3],[⟨0,1,0,2,1⟩,⟨0,1,0,2,5⟩]⟩ = 0:=by decide
 have hsm:SmallI ⟨[3,-3],[⟨0,1,0,2,1⟩,⟨0,1,0,2,5⟩]⟩:=⟨by simp,by simp⟩
 have hc0:z2t ⟨[3,-3],[⟨0,1,0,2,1⟩,⟨0,1,0,2,5⟩]⟩ ⟨1,[2,1],[5,0],[],[]⟩ = 0:=by decide
 have hv0:z62 ⟨[3,-3],[⟨0,1,0,2,1⟩,⟨0,1,0,2,5⟩]⟩ ⟨1,[2,1],[5,0],[],[]⟩ = W 7:=by decide
 have h0:z76 ⟨1,[2,1],[5,0],[],[]⟩:=by simp [z76,A64,I64]
 have hi:=inst_ok hr
 generalize (⟨[3,-3],[⟨0,1,0,2,1⟩,⟨0,1,0,2,5⟩]⟩:Inst) = I at *
 refine ⟨fun _=>hsm,?_⟩
 rintro ⟨c,e⟩ hS
 obtain ⟨q1,q2,q3⟩:=solve_ok hr hS
 obtain ⟨hk,hv⟩:=cert_one q1 h0 q2 hc0
 have he:=(hS.ok hr).1
 rw [hv0] at hv
 dsimp only at he hk hv q1 q2 q3 ⊢
 rw [hv]
 exact ⟨⟨q1,hi⟩,fun _=>⟨fun _=>⟨fun _=>⟨by unfold I64; omega,fun _=>⟨⟨q1,hi,hk⟩,q2⟩,fun h=>absurd rfl h⟩,fun h=>absurd hk h⟩,fun h=>absurd hk h⟩,fun h=>absurd he h⟩
theorem known20_ok:SpecOk Tryz.prog zlm true (z02 true zbc) :=
 z0a z0k (show z1d Tryz.prog zll from z00 Solve_ok (z00 ValueC_ok (z00 Of_ok (z00 rCheckB_ok (z05))))) (by kernel_rfl) mixedOrders Tryz.func10 rfl rfl (by kernel_rfl) (n:=0) (by decide +kernel) (I:=known20_IA) (fun _ _=>z06) (A:=known20_A)
  (fun args h r hr=>by
   unfold zbc at hr
   split at hr
   ·cases hr; refine ⟨rfl,fun hp=>?_⟩; have hE:=known20_E  hp; exact hE
   ·cases hr)
def Small_E0 (p : List Int) (d : List Int) (k : Int) (ty0 ty1 : TypeId) : Prop :=
      (Bytes p/\Bytes d/\p.length <= maxLen/\d.length <= maxLen) /\
 (↑(z07 p d).sup.length:Int) ≠ (0:Int) /\
 ((0:Int) <= (IntKind.i64.wrap k).tmod (↑(z07 p d).sup.length:Int)/\(IntKind.i64.wrap k).tmod (↑(z07 p d).sup.length:Int) < (↑(z07 p d).sup.length:Int)) /\
 ((IntKind.i64.wrap k).tmod (↑(z07 p d).sup.length:Int)).toNat < (z07 p d).sup.length /\
 ∀ (x:Int),
 (z07 p d).sup[((IntKind.i64.wrap k).tmod (↑(z07 p d).sup.length:Int)).toNat]? = some x ->
 (5:Int) ≠ (0:Int) /\
 ((0:Int) <= (IntKind.i64.wrap k).tmod (↑(z07 p d).sup.length:Int) /\
 (IntKind.i64.wrap k).tmod (↑(z07 p d).sup.length:Int) < (↑(z07 p d).sup.length:Int)) /\
 ((IntKind.i64.wrap k).tmod (↑(z07 p d).sup.length:Int)).toNat < (z07 p d).sup.length /\
 (5:Int) ≠ (0:Int) /\
 (↑(z07 p d).sup.length:Int) ≠ (0:Int) /\
 ((0:Int) <= (IntKind.i64.wrap (IntKind.u8.wrap (k.tdiv (5:Int)))).tmod (↑(z07 p d).sup.length:Int) /\
 (IntKind.i64.wrap (IntKind.u8.wrap (k.tdiv (5:Int)))).tmod (↑(z07 p d).sup.length:Int) <
 (↑((z07 p d).sup.set ((IntKind.i64.wrap k).tmod (↑(z07 p d).sup.length:Int)).toNat
 (IntKind.i64.wrap (x + IntKind.i64.wrap (k.tmod (5:Int))))).length :
 Int)) /\
 ((IntKind.i64.wrap (IntKind.u8.wrap (k.tdiv (5:Int)))).tmod (↑(z07 p d).sup.length:Int)).toNat <
 ((z07 p d).sup.set ((IntKind.i64.wrap k).tmod (↑(z07 p d).sup.length:Int)).toNat
 (IntKind.i64.wrap (x + IntKind.i64.wrap (k.tmod (5:Int))))).length /\
 ∀ (x_1:Int),
 ((z07 p d).sup.set ((IntKind.i64.wrap k).tmod (↑(z07 p d).sup.length:Int)).toNat
 (IntKind.i64.wrap
 (x +
 IntKind.i64.wrap
 (k.tmod (5:Int)))))[((IntKind.i64.wrap (IntKind.u8.wrap (k.tdiv (5:Int)))).tmod (↑(z07 p d).sup.length:Int)).toNat]? =
 some x_1 ->
 (5:Int) ≠ (0:Int) /\
 ((0:Int) <= (IntKind.i64.wrap (IntKind.u8.wrap (k.tdiv (5:Int)))).tmod (↑(z07 p d).sup.length:Int) /\
 (IntKind.i64.wrap (IntKind.u8.wrap (k.tdiv (5:Int)))).tmod (↑(z07 p d).sup.length:Int) <
 (↑((z07 p d).sup.set ((IntKind.i64.wrap k).tmod (↑(z07 p d).sup.length:Int)).toNat
 (IntKind.i64.wrap (x + IntKind.i64.wrap (k.tmod (5:Int))))).length :
 Int)) /\
 ((IntKind.i64.wrap (IntKind.u8.wrap (k.tdiv (5:Int)))).tmod (↑(z07 p d).sup.length:Int)).toNat <
 ((z07 p d).sup.set ((IntKind.i64.wrap k).tmod (↑(z07 p d).sup.length:Int)).toNat
 (IntKind.i64.wrap (x + IntKind.i64.wrap (k.tmod (5:Int))))).length /\
 ((True/\True/\True)/\True) /\
 ((z07 p d).sup.set ((IntKind.i64.wrap k).tmod (↑(z07 p d).sup.length:Int)).toNat
 (IntKind.i64.wrap (x + IntKind.i64.wrap (k.tmod (5:Int))))).set
 ((IntKind.i64.wrap (IntKind.u8.wrap (k.tdiv (5:Int)))).tmod (↑(z07 p d).sup.length:Int)).toNat
 (IntKind.i64.wrap (x_1 - IntKind.i64.wrap (k.tmod (5:Int)))) =
 (z1x p d k).sup /\
 (z07 p d).arcs = (z1x p d k).arcs/\True
theorem Small_q (p:List Int) (d:List Int) (k:Int) (ty0 ty1:TypeId):Small_E0 p d k ty0 ty1 = z2h TT Small_g (Small_I p d k) (Small_an p d k) Tryz.f12 [.row 0,.row 1,.int .u8 k] [(0,.row false ty0 (.ints .u8 p)),(1,.row false ty1 (.ints .u8 d))] (Small_r p d k):=by kernel_rfl
theorem Small_E (p:List Int) (d:List Int) (k:Int) (ty0 ty1:TypeId) (hp:Bytes p/\Bytes d/\p.length <= maxLen/\d.length <= maxLen/\0 <= k/\k <= 255):FVc TT Small_g (Small_I p d k) (Small_an p d k) Tryz.f12 [.row 0,.row 1,.int .u8 k] [(0,.row false ty0 (.ints .u8 p)),(1,.row false ty1 (.ints .u8 d))] (Small_r p d k):=by
 refine FVc.of (Small_E0 p d k ty0 ty1) (Small_q p d k ty0 ty1) ?_
 unfold Small_E0
 simp only [eq_self,exists_const,forall_const,decide_eq_true_eq,decide_eq_false_iff_not,and_true,true_and,bne_iff_ne,ne_eq,bne_eq_false_iff_eq,Int.toNat_natCast,Bool.not_eq_true',Bool.not_eq_false',beq_iff_eq,beq_eq_false_iff_ne,z08]
 obtain ⟨p1,p2,p3,p4,k0,k1⟩:=hp
 have l1:=z6o p d
 have l2:=z8u d
 have l3:=nOf_le d
 have hw:=z9z p d
 have e1:IntKind.i64.wrap k = k:=w64 (by omega) (by omega)
 have e2:IntKind.i64.wrap (IntKind.u8.wrap (k.tdiv 5)) = k / 5:=by rw [Int.tdiv_eq_ediv_of_nonneg k0,wu8 (by omega) (by omega),w64 (by omega) (by omega)]
 have e3:IntKind.i64.wrap (k.tmod 5) = k % 5:=by rw [Int.tmod_eq_emod_of_nonneg k0,w64 (by omega) (by omega)]
 rw [e1,e2,e3]
 show _
 unfold z1x
 dsimp only
 generalize (z07 p d).sup = s at *
 have hm:∀ x:Int,0 <= x->x.tmod (s.length:Int) = ((x % (s.length:Int)).toNat:Nat)/\(x % (s.length:Int)).toNat < s.length:=fun x hx=>by
  have:=Int.emod_nonneg x (b:=(s.length:Int)) (by omega)
  have:=Int.emod_lt_of_pos x (b:=(s.length:Int)) (by omega)
  rw [Int.tmod_eq_emod_of_nonneg hx]
  omega
 have m1:=hm k k0
 have m2:=hm (k / 5) (by omega)
 rw [m1.1,m2.1]
 unfold turnS
 generalize (k % (s.length:Int)).toNat = i at *
 generalize (k / 5 % (s.length:Int)).toNat = j at *
 simp only [Int.toNat_natCast,List.length_set]
 refine ⟨⟨p1,p2,p3,p4⟩,by omega,by omega,by omega,fun x hx=>⟨by omega,by omega,by omega,by omega,by omega,by omega,by omega,fun y hy=>⟨by omega,by omega,by omega,?_,trivial⟩⟩⟩
 have hx2:=hw x (List.mem_of_getElem? hx)
 have hs1:IntKind.i64.wrap (x + k % 5) = x + k % 5:=w64 (by omega) (by omega)
 rw [hs1,zek hx] at hy ⊢
 have hw1:=hw.addAt (by omega) i (x:=k % 5) (y:=4) (by omega) (by omega)
 have hy2:=hw1 y (List.mem_of_getElem? hy)
 rw [w64 (by omega) (by omega),show y - k % 5 = y + -(k % 5) by omega,zek hy]
theorem Small_ok:SpecOk Tryz.prog Small_n true (z02 true Small_fs) :=
 z0a z0k (show z1d Tryz.prog Small_g from z00 Inst_ok (z05)) (by kernel_rfl) mixedOrders Tryz.func12 rfl rfl (by kernel_rfl) (n:=3) (by decide +kernel) (I:=Small_IA) (fun _ _=>z06) (A:=Small_A)
  (fun args h r hr=>by
   unfold Small_fs at hr
   split at hr
   ·rename_i k ty0 p ty1 d; cases hr; refine ⟨rfl,fun hp=>?_⟩; have hE:=Small_E p d k ty0 ty1 hp; exact hE
   ·cases hr)
end Go.Proofs.YtggblkbecekbdaaGreat
end
section
namespace Go.Ql
open Go Go.Vc
theorem turns_char {I:Inst} {l:List Int}:z1l I l = 0 ↔ z03 I = 0/\1 <= l.length/\l.length <= I.arcs.length/\(∀ a ∈ l,0 <= a/\a < I.arcs.length)/\l.Nodup/\(∀ k,k < l.length->(z4w I (l.getD k 0)).dst = (z4w I (l.getD ((k + 1) % l.length) 0)).src)/\(∀ a ∈ l,(z4w I a).cap = inf)/\rayS I l < 0:=by
 have hc5:z03 I = 0->l.length <= I.arcs.length->(c5F I l = true ↔ rayS I l < 0):=fun hr hl=>by
  have hs:=z0h hr
  have e2:=rayK_bd hr l l.length
  unfold c5F
  rw [decide_eq_true_eq]
  unfold rayS at *
  rw [zc7 (by unfold zca; omega) (by unfold zca; omega)]
  by_cases h:z9h I l l.length < 0
  ·rw [if_pos h]; simp [h]
  ·rw [if_neg h]; split <;> simp [h]
 unfold z1l
 constructor
 ·intro h
  split at h
  ·rename_i hn; exact absurd h hn
  ·rename_i hr
   have hr:=Classical.byContradiction hr
   split at h
   ·cases h
   ·rename_i hl
    split at h
    ·rename_i hc
     simp only [Bool.and_eq_true] at hc
     obtain ⟨⟨⟨⟨c1,c2⟩,c3⟩,c4⟩,c5⟩:=hc
     refine ⟨hr,by omega,by omega,fun a ha=>isArcF_iff.1 (List.all_eq_true.1 c1 a ha),of_decide_eq_true c2,fun k hk=>of_decide_eq_true (List.all_eq_true.1 c3 k (List.mem_range.2 hk)),fun a ha=>of_decide_eq_true (List.all_eq_true.1 c4 a ha),(hc5 hr (by omega)).1 c5⟩
    ·cases h
 ·rintro ⟨hr,h1,h2,c1,c2,c3,c4,c5⟩
  have e1:c1F I l = true:=List.all_eq_true.2 fun a ha=>isArcF_iff.2 (c1 a ha)
  have e2:c2F l = true:=decide_eq_true c2
  have e3:c3F I l = true:=List.all_eq_true.2 fun k hk=>decide_eq_true (c3 k (List.mem_range.1 hk))
  have e4:c4F I l = true:=List.all_eq_true.2 fun a ha=>decide_eq_true (c4 a ha)
  rw [if_neg (fun h=>h hr),if_neg (by omega),e1,e2,e3,e4,(hc5 hr h2).2 c5]
  rfl
section
variable {α:Type} (f:α->α) (s:List α)
variable {f s}
end
def swapA (a:Arc):Arc:=⟨a.dst,a.src,a.low,a.cap,a.cost⟩
end Go.Ql
end
section
namespace Go.Ql
open Go Go.Vc
end Go.Ql
end
section
namespace Go.Ql
open Go Go.Vc
def redN (I:Inst) (p:List Int) (c:Nat):Int:=(z29 I c).cost - p.getD (z29 I c).src.toNat 0 + p.getD (z29 I c).dst.toNat 0
theorem proves_char {I:Inst} {S:List Bool}:z2b I S = 0 ↔ z03 I = 0/\S.length = I.sup.length/\∃ t,z4z I S = some t/\t < z9f I S:=by
 unfold z2b
 constructor
 ·intro h
  split at h
  ·rename_i hn; exact absurd h hn
  ·rename_i hr
   have hr:=Classical.byContradiction hr
   have hs:=z0h hr
   split at h
   ·cases h
   ·rename_i hl
    cases hc:z4z I S with
    | none=>rw [hc] at h; cases h
    | some t =>
     rw [hc] at h
     dsimp only at h
     refine ⟨hr,Classical.byContradiction hl,t,rfl,?_⟩
     split at h
     ·cases h
     ·rename_i hle
      apply Int.lt_of_not_ge
      intro hge
      exact hle ((zif hr (by omega) (by omega) (z28 hr).1 hc (z9f I S) rfl).2 hge)
 ·rintro ⟨hr,hl,t,ht,hlt⟩
  have hs:=z0h hr
  rw [if_neg (fun h=>h hr),if_neg (fun h=>h hl),ht]
  dsimp only
  rw [if_neg]
  intro hle
  have:=(zif hr (by omega) (by omega) (z28 hr).1 ht (z9f I S) rfl).1 hle
  omega
end Go.Ql
end
section
namespace Go.Ql
open Go Go.Vc
theorem pot_turns {I:Inst} {π:Nat->Int} (hp:z7q I (endS I) π) {l:List Int}:z1l I l ≠ 0:=fun h=>by
 obtain ⟨hr,h1,h2,c1,c2,c3,c4,c5⟩:=turns_char.1 h
 have hm:∀ k,k < l.length->l.getD k 0 ∈ l:=fun k hk=>by rw [List.getD_eq_getElem?_getD,List.getElem?_eq_getElem hk]; exact List.getElem_mem _
 have hk:∀ t,t <= l.length->z1r (fun k=>π (z4w I (l.getD ((k + 1) % l.length) 0)).src.toNat - π (z4w I (l.getD k 0)).src.toNat) t <= z9h I l t:=fun t=>by
  induction t with
  | zero=>intro _; simp [z9h,z1r]
  | succ t ih =>
   intro ht
   have hmt:=hm t (by omega)
   obtain ⟨q1,q2⟩:=c1 _ hmt
   have e1:z4p I (l.getD t 0) = true:=isArcF_iff.2 ⟨q1,q2⟩
   have hcap:=c4 _ hmt
   have hs:okS I ((l.getD t 0).toNat,false):=by unfold okS; dsimp only; omega
   have:=hp ((l.getD t 0).toNat,false) hs (by unfold endS; simp; exact hcap)
   have e2:toS I ((l.getD t 0).toNat,false) = (z4w I (l.getD t 0)).dst.toNat:=rfl
   have e3:frS I ((l.getD t 0).toNat,false) = (z4w I (l.getD t 0)).src.toNat:=rfl
   have e4:csS I ((l.getD t 0).toNat,false) = (z4w I (l.getD t 0)).cost:=rfl
   rw [e2,e3,e4] at this
   have ih:=ih (by omega)
   rw [z9h,z1r,<- c3 t (by omega)]
   unfold rayD
   rw [if_pos e1]
   omega
 have:=hk _ (Nat.le_refl _)
 rw [zh1 (fun k=>π (z4w I (l.getD k 0)).src.toNat) l.length (Nat.le_refl _) (by omega),Nat.mod_self] at this
 unfold rayS at c5
 omega
theorem proves_pos {I:Inst} {S:List Bool} (h:z2b I S = 0):S.length ≠ 0:=fun h0=>by
 obtain ⟨hr,hl,t,ht,hlt⟩:=proves_char.1 h
 have hn:I.sup.length = 0:=by omega
 have ha:I.arcs = []:=by
  cases e:I.arcs with
  | nil=>rfl
  | cons a l =>
   have:=(z1o hr (a:=0) (by rw [e]; simp)).s1
   omega
 unfold z4z at ht
 rw [ha] at ht
 simp only [z1m,Option.some.injEq] at ht
 unfold z9f at hlt
 rw [hn,z58] at hlt
 omega
theorem feas_cut {I:Inst} (hr:z03 I = 0) {x o:List Int} {m:List Bool} (h:FillP I x o m true):FeasP I [] m 0 :=
 ⟨fun h2=>absurd hr h2,fun _=>⟨rfl,YB.nil,.inr ⟨rfl,h.yes rfl,proves_pos (h.yes rfl)⟩⟩⟩
theorem feas_flow {I:Inst} (hr:z03 I = 0) {x o:List Int} {m:List Bool} (h:FillP I x o m false):FeasP I x [] 0 :=
 ⟨fun h2=>absurd hr h2,fun _=>⟨rfl,h.inv.xb,.inl ⟨rfl,(h.no rfl).2⟩⟩⟩
theorem feas_bad {I:Inst} (hr:z03 I ≠ 0):FeasP I [] [] (z03 I):=⟨fun _=>⟨rfl,rfl,rfl⟩,fun h=>absurd h hr⟩
theorem rounds_bad {I:Inst} (hr:z03 I ≠ 0):RoundsP I [] false:=⟨fun h=>(by cases h),fun _=>⟨rfl,fun h=>absurd h hr⟩⟩
theorem rounds_of {I:Inst} {l:List Int} {f:Bool} (h:RoundP I l f):RoundsP I l f:=⟨h.yes,fun hf=>⟨(h.no hf).1,fun _=>(h.no hf).2⟩⟩
end Go.Ql
end
section
namespace Go.Proofs.YtggblkbecekbdaaGreat
open Go Go.RowKit Go.Ql Go.Vc
def zfl (I:Inst):FRel:={ pre:=True,G:=(List Int) × (List Bool) × (Int),post:=fun ⟨x,m,e⟩=>FeasP I x m e,out:=fun ⟨x,m,e⟩=>{ pre:=True,res:=.tup [.row 2,.row 3,.int .u16 (e)],rows:=[.row 2 (.ints .i64 (x)),.row 4 (.bools (m))],eff:=[] } }
def zc9:FR:=fun args h=>match args,h with
 | [.agg [.row 0,.row 1]],[(0,.row false ty0 (.ints .i64 I_s)),(1,.row false ty1 (.arcs I_a))]=>some (zfl ⟨I_s,I_a⟩)
 | _,_=>none
def zjg (I:Inst):List (Nat × Ann):=[]
def Feasible_A:List SV->z0d->List (Nat × Ann):=fun _ _=>[]
def zfk:z0c:=[(zcf,(true,z02 true z77)),(zdr,(true,z0u true z7u)),(fill20_n,(false,z0u false zdw))]
abbrev Feasible_n:Nat:=32
def Feasible_I (I:Inst):List (Nat × z09):=[]
def Feasible_IA:List SV->z0d->List (Nat × z09):=fun _ _=>[]
def Rounds_r (I:Inst):FRel:={ pre:=True,G:=(List Int) × (Bool),post:=fun ⟨l,f⟩=>RoundsP I l f,out:=fun ⟨l,f⟩=>{ pre:=True,res:=.tup [.row 2,.bool (f)],rows:=[.row 3 (.ints .i64 (l))],eff:=[] } }
def zdo:FR:=fun args h=>match args,h with
 | [.agg [.row 0,.row 1]],[(0,.row false ty0 (.ints .i64 I_s)),(1,.row false ty1 (.arcs I_a))]=>some (Rounds_r ⟨I_s,I_a⟩)
 | _,_=>none
def Rounds_an (I:Inst):List (Nat × Ann):=[]
def Rounds_A:List SV->z0d->List (Nat × Ann):=fun _ _=>[]
def Rounds_g:z0c:=[(zcf,(true,z02 true z77)),(zdr,(true,z0u true z7u)),(zn6,(true,z0u true zbl))]
abbrev Rounds_n:Nat:=27
def Rounds_I (I:Inst):List (Nat × z09):=[]
def Rounds_IA:List SV->z0d->List (Nat × z09):=fun _ _=>[]
end Go.Proofs.YtggblkbecekbdaaGreat
end
section
namespace Go.Proofs.YtggblkbecekbdaaGreat
open Go Go.RowKit Go.Ql Go.Vc
def zc8 (I : Inst) (ty0 ty1 : TypeId) : Prop :=
      True /\
 ((z03 I != (0:Int)) = true->∃ (g:List Int × List Bool × Int),FeasP I g.1 g.2.1 g.2.2/\((True/\True/\z03 I = g.2.2/\True)/\True)/\[] = g.1/\[] = g.2.1/\True) /\
 ((z03 I != (0:Int)) = false ->
 z03 I = (0:Int) /\
 ∀ (g:List Int × List Int × Rows3),
 BuildP I g.1 g.2.1 g.2.2 ->
 ∀ (V:Nat->List Value),
 (z03 I = (0:Int)/\FillI I g.1 g.2.1/\AtOk I g.2.2) /\
 ∀ (g:List Int × List Int × List Bool × Bool),
 FillP I g.1 g.2.1 g.2.2.1 g.2.2.2 ->
 (g.2.2.2 = true ->
 ∃ (g_1:List Int × List Bool × Int),
 FeasP I g_1.1 g_1.2.1 g_1.2.2/\((True/\True/\(0:Int) = g_1.2.2/\True)/\True)/\[] = g_1.1/\g.2.2.1 = g_1.2.1/\True) /\
 (g.2.2.2 = false ->
 ∃ (g_1:List Int × List Bool × Int),
 FeasP I g_1.1 g_1.2.1 g_1.2.2/\((True/\True/\(0:Int) = g_1.2.2/\True)/\True)/\g.1 = g_1.1/\[] = g_1.2.1/\True))
theorem Feasible_q (I:Inst) (ty0 ty1:TypeId):zc8 I ty0 ty1 = z9c TT zfk (Feasible_I I) (zjg I) Tryz.f32 [.agg [.row 0,.row 1]] [(0,.row false ty0 (.ints .i64 I.sup)),(1,.row false ty1 (.arcs I.arcs))] (zfl I):=by kernel_rfl
theorem Feasible_E (I:Inst) (ty0 ty1:TypeId) (hp:True):FVcR TT zfk (Feasible_I I) (zjg I) Tryz.f32 [.agg [.row 0,.row 1]] [(0,.row false ty0 (.ints .i64 I.sup)),(1,.row false ty1 (.arcs I.arcs))] (zfl I):=by
 refine FVcR.of (zc8 I ty0 ty1) (Feasible_q I ty0 ty1) ?_
 unfold zc8
 simp only [eq_self,exists_const,forall_const,decide_eq_true_eq,decide_eq_false_iff_not,and_true,true_and,bne_iff_ne,ne_eq,bne_eq_false_iff_eq,Int.toNat_natCast,Bool.not_eq_true',Bool.not_eq_false',beq_iff_eq,beq_eq_false_iff_ne,z08]
 refine ⟨fun h=>⟨([],[],_),feas_bad h,rfl,rfl,rfl⟩,fun hr=>⟨hr,?_⟩⟩
 rintro ⟨x,o,t⟩ hB
 have hF:=build_fill hr hB
 refine ⟨⟨hr,hF,hB.at_⟩,?_⟩
 rintro ⟨x1,o1,m,f⟩ hf
 dsimp only at hf ⊢
 refine ⟨fun h=>?_,fun h=>?_⟩
 ·subst h; exact ⟨([],m,0),feas_cut hr hf,rfl,rfl,rfl⟩
 ·subst h; exact ⟨(x1,[],0),feas_flow hr hf,rfl,rfl,rfl⟩
theorem Feasible_ok:SpecOk Tryz.prog Feasible_n true (z0u true zc9) :=
 z37 z0k (show z1d Tryz.prog zfk from z00 zax (z00 zfz (z00 fill20_ok (z05)))) (by kernel_rfl) mixedOrders Tryz.func32 rfl rfl (by kernel_rfl) (n:=1) (by decide +kernel) (I:=Feasible_IA) (fun _ _=>z06) (A:=Feasible_A)
  (fun args h r hr=>by
   unfold zc9 at hr
   split at hr
   ·rename_i ty0 I_s ty1 I_a; cases hr; refine ⟨rfl,fun hp=>?_⟩; have hE:=Feasible_E ⟨I_s,I_a⟩ ty0 ty1 hp; exact hE
   ·cases hr)
def zjv (I : Inst) (ty0 ty1 : TypeId) : Prop :=
      True /\
 ((z03 I != (0:Int)) = true->∃ (g:List Int × Bool),RoundsP I g.1 g.2/\((True/\false = g.2/\True)/\True)/\[] = g.1/\True) /\
 ((z03 I != (0:Int)) = false ->
 z03 I = (0:Int) /\
 ∀ (g:List Int × List Int × Rows3),
 BuildP I g.1 g.2.1 g.2.2 ->
 ∀ (V:Nat->List Value),
 z03 I = (0:Int) /\
 ∀ (g:List Int × Bool),RoundP I g.1 g.2->∃ (g_1:List Int × Bool),RoundsP I g_1.1 g_1.2/\((True/\g.2 = g_1.2/\True)/\True)/\g.1 = g_1.1/\True)
theorem Rounds_q (I:Inst) (ty0 ty1:TypeId):zjv I ty0 ty1 = z9c TT Rounds_g (Rounds_I I) (Rounds_an I) Tryz.f27 [.agg [.row 0,.row 1]] [(0,.row false ty0 (.ints .i64 I.sup)),(1,.row false ty1 (.arcs I.arcs))] (Rounds_r I):=by kernel_rfl
theorem Rounds_E (I:Inst) (ty0 ty1:TypeId) (hp:True):FVcR TT Rounds_g (Rounds_I I) (Rounds_an I) Tryz.f27 [.agg [.row 0,.row 1]] [(0,.row false ty0 (.ints .i64 I.sup)),(1,.row false ty1 (.arcs I.arcs))] (Rounds_r I):=by
 refine FVcR.of (zjv I ty0 ty1) (Rounds_q I ty0 ty1) ?_
 unfold zjv
 simp only [eq_self,exists_const,forall_const,decide_eq_true_eq,decide_eq_false_iff_not,and_true,true_and,bne_iff_ne,ne_eq,bne_eq_false_iff_eq,Int.toNat_natCast,Bool.not_eq_true',Bool.not_eq_false',beq_iff_eq,beq_eq_false_iff_ne,z08]
 refine ⟨fun h=>⟨([],false),rounds_bad h,rfl,rfl⟩,fun hr=>⟨hr,?_⟩⟩
 rintro ⟨x,o,t⟩ hB
 refine ⟨hr,?_⟩
 rintro ⟨l,f⟩ hl
 exact ⟨(l,f),rounds_of hl,rfl,rfl⟩
theorem Rounds_ok:SpecOk Tryz.prog Rounds_n true (z0u true zdo) :=
 z37 z0k (show z1d Tryz.prog Rounds_g from z00 zax (z00 zfz (z00 round20_ok (z05)))) (by kernel_rfl) mixedOrders Tryz.func27 rfl rfl (by kernel_rfl) (n:=1) (by decide +kernel) (I:=Rounds_IA) (fun _ _=>z06) (A:=Rounds_A)
  (fun args h r hr=>by
   unfold zdo at hr
   split at hr
   ·rename_i ty0 I_s ty1 I_a; cases hr; refine ⟨rfl,fun hp=>?_⟩; have hE:=Rounds_E ⟨I_s,I_a⟩ ty0 ty1 hp; exact hE
   ·cases hr)
end Go.Proofs.YtggblkbecekbdaaGreat
end
section
namespace Go.Ql
open Go Go.Vc
def idxS {α:Type} [Inhabited α] (f:Nat->α->α) (l:List α) (k:Nat):List α:=(List.range l.length).map fun c=>if c < k then f c (l.getD c default) else l.getD c default
section
variable {α:Type} [Inhabited α] {f:Nat->α->α} {l:List α}
theorem z65 (f:Nat->α->α) (l:List α) (k:Nat):(idxS f l k).length = l.length:=by simp [idxS]
theorem z64 {k c:Nat} (h:c < l.length):(idxS f l k)[c]? = some (if c < k then f c (l.getD c default) else l.getD c default):=by
 unfold idxS; rw [List.getElem?_map,List.getElem?_range h]; rfl
theorem idxS_getD {k c:Nat} (h:c < l.length):(idxS f l k).getD c default = if c < k then f c (l.getD c default) else l.getD c default:=by
 rw [List.getD_eq_getElem?_getD,z64 h]; rfl
theorem idxS_zero (f:Nat->α->α) (l:List α):idxS f l 0 = l:=by
 refine List.ext_getElem? fun t=>?_
 by_cases h:t < l.length
 ·rw [z64 h,if_neg (Nat.not_lt_zero _),List.getD_eq_getElem?_getD,List.getElem?_eq_getElem h]; rfl
 ·rw [List.getElem?_eq_none (by rw [z65]; omega),List.getElem?_eq_none (by omega)]
theorem idxS_at {k:Nat} {y:α} (h:(idxS f l k)[k]? = some y):l[k]? = some y:=by
 have hk:=(List.getElem?_eq_some_iff.1 h).1
 rw [z65] at hk
 rw [z64 hk,if_neg (Nat.lt_irrefl _),List.getD_eq_getElem?_getD,List.getElem?_eq_getElem hk] at h
 rw [List.getElem?_eq_getElem hk]; exact h
theorem idxS_set {k:Nat} {y z:α} (h:l[k]? = some y) (hz:z = f k y):(idxS f l k).set k z = idxS f l (k + 1):=by
 have hk:=(List.getElem?_eq_some_iff.1 h).1
 have hy:l.getD k default = y:=by rw [List.getD_eq_getElem?_getD,h]; rfl
 refine List.ext_getElem? fun t=>?_
 rw [List.getElem?_set,z65]
 by_cases ht:t < l.length
 ·rw [z64 (k:=k + 1) ht]
  by_cases e1:k = t
  ·subst e1; rw [if_pos rfl,if_pos hk,if_pos (Nat.lt_succ_self _),hy,hz]
  ·rw [if_neg e1,z64 ht]
   by_cases h2:t < k
   ·rw [if_pos h2,if_pos (by omega)]
   ·rw [if_neg h2,if_neg (by omega)]
 ·rw [if_neg (by omega),List.getElem?_eq_none (by rw [z65]; omega),List.getElem?_eq_none (by rw [z65]; omega)]
theorem idxS_same {k:Nat} {y:α} (h:l[k]? = some y) (hz:y = f k y):idxS f l k = idxS f l (k + 1):=by
 have hk:=(List.getElem?_eq_some_iff.1 h).1
 rw [<- idxS_set h hz]
 refine List.ext_getElem? fun t=>?_
 rw [List.getElem?_set,z65]
 by_cases e1:k = t
 ·subst e1; rw [if_pos rfl,if_pos hk,z64 hk,if_neg (Nat.lt_irrefl _),List.getD_eq_getElem?_getD,h]; rfl
 ·rw [if_neg e1]
end
def capA (I:Inst) (p:List Int) (c:Nat) (a:Arc):Arc:=if redN I p c < 0/\a.cap = inf then { a with cap:=a.low + 1 } else a
def capI (I:Inst) (p:List Int):Inst:=⟨I.sup,idxS (capA I p) I.arcs I.arcs.length⟩
theorem capA_ends (I:Inst) (p:List Int) (c:Nat) (a:Arc):(capA I p c a).src = a.src/\(capA I p c a).dst = a.dst/\(capA I p c a).low = a.low/\(capA I p c a).cost = a.cost:=by
 unfold capA; split <;> exact ⟨rfl,rfl,rfl,rfl⟩
theorem cap_pot {I:Inst} {p:List Int} {n:Int} (hN:∀ q ∈ I.arcs,q.Nice n):z7q (capI I p) (endS (capI I p)) (fun v=>-(p.getD v 0)):=fun s hs he=>by
 obtain ⟨c,b⟩:=s
 have hc:c < I.arcs.length:=by
  have:c < (capI I p).arcs.length:=hs
  unfold capI at this
  dsimp only at this
  rwa [z65] at this
 unfold endS at he
 rw [Bool.and_eq_true,Bool.not_eq_true',decide_eq_true_eq] at he
 have hb:b = false:=he.1
 subst hb
 have ea:z29 (capI I p) c = capA I p c (z29 I c):=by
  show (idxS (capA I p) I.arcs I.arcs.length).getD c default = _
  rw [idxS_getD hc,if_pos hc]; rfl
 have hcap:=he.2
 dsimp only at hcap
 rw [ea] at hcap
 obtain ⟨w1,w2,w3,w4⟩:=capA_ends I p c (z29 I c)
 have hr:¬ redN I p c < 0:=fun hlt=>by
  have hq:=hN _ (z8f hc).2
  have l1:=hq.l1
  have hi:inf = 4611686018427387904:=rfl
  unfold capA at hcap
  by_cases h:(z29 I c).cap = inf
  ·rw [if_pos ⟨hlt,h⟩] at hcap
   have:(z29 I c).low + 1 = inf:=hcap
   omega
  ·rw [if_neg (fun x=>h x.2)] at hcap
   exact h hcap
 unfold redN at hr
 have e1:toS (capI I p) (c,false) = (z29 I c).dst.toNat:=by unfold toS; simp only [Bool.false_eq_true,if_false]; rw [ea,w2]
 have e2:frS (capI I p) (c,false) = (z29 I c).src.toNat:=by unfold frS; simp only [Bool.false_eq_true,if_false]; rw [ea,w1]
 have e3:csS (capI I p) (c,false) = (z29 I c).cost:=by unfold csS; simp only [Bool.false_eq_true,if_false]; rw [ea,w4]
 rw [e1,e2,e3]
 dsimp only
 omega
theorem red_at {I:Inst} (hr:z03 I = 0) {p:List Int} {s:List Int} (hs:s.length = I.sup.length) {f:Nat->Arc->Arc} {k:Nat} (hk:k < I.arcs.length):zff ⟨s,idxS f I.arcs k⟩ p k = redN I p k:=by
 obtain ⟨hget,hm⟩:=z8f hk
 have ok:=z1o hr hk
 have s0:=ok.s0; have d0:=ok.d0
 have hg:(⟨s,idxS f I.arcs k⟩:Inst).arcs[k]? = some (z29 I k):=by
  show (idxS f I.arcs k)[k]? = _
  rw [z64 hk,if_neg (Nat.lt_irrefl _)]; rfl
 rw [redF_at hg (by show z35 s.length _ = true; rw [hs]; exact (z22 hr hm).1)]
 unfold redP redA potR redN
 rw [if_pos s0,if_pos d0]
theorem cap_rounds {I:Inst} {p:List Int} {n:Int} (hN:∀ q ∈ I.arcs,q.Nice n) {l:List Int} {f:Bool} (h:RoundsP (capI I p) l f):f = false/\l = []:=by
 cases f with
 | true=>exact absurd (h.yes rfl) (pot_turns (cap_pot hN))
 | false=>exact ⟨rfl,(h.no rfl).1⟩
theorem turns_rounds {I:Inst} {l m:List Int} {f:Bool} (h:RoundsP I m f) (ht:z1l I l = 0):f = true:=by
 cases f with
 | true=>rfl
 | false =>
  obtain ⟨-,hp⟩:=h.no rfl
  obtain ⟨π,hπ⟩:=hp (turns_char.1 ht).1
  exact absurd ht (pot_turns hπ)
end Go.Ql
end
section
namespace Go.Proofs.YtggblkbecekbdaaGreat
open Go Go.RowKit Go.Ql Go.Draw
end Go.Proofs.YtggblkbecekbdaaGreat
end
section
section
namespace Go.Ql
open Go Go.RowKit Go.ChangeShapes Go.WideShapes Go.ChangeAt Go.Deep
section
variable {H:Type} {enc:TypeId × Value->H} {P:Program}
theorem addr_plain {w:World} {a:Addr} {v:Value} (h:w.cell? a = some v):a = ⟨a.block,a.off,none⟩/\a.block < w.heap.size:=by
 refine ⟨?_,World.block_lt_of_cell? w a h⟩
 obtain ⟨b,o,s⟩:=a
 cases s with
 | none=>rfl
 | some s =>
  exfalso
  unfold World.cell? at h
  split at h <;> simp at h
theorem add_plain (b o i:Nat):(⟨b,o,none⟩:Addr).add i = ⟨b,o + i,none⟩:=by
 unfold Addr.add
 split
 ·rename_i h; simp_all
 ·rfl
theorem z8m {W:World} {base:Nat} {r:Reach} {b0:Nat} {t e:TypeId} {k:IntKind} {v:Value} {d:DataW H} {p:List MemPlace} (ht:P.underlying t = some (.slice e)) (he:P.underlying e = some (.int k)) (hc:P.cellsOf e = 1)
  (hv:Value.okWide P W r b0 t v) (h:DataW.Trod enc P W base (fun _=>true) true t v d p) :
  ∃ A c xs,v = .slice A xs.length c/\(RowR (Value.int k) W W.heap.size A xs/\xs.length <= c)/\xs.length <= maxLen/\∀ x ∈ xs,(Lit.int k x).wf = true:=by
 obtain ⟨a0,len,cap,rfl⟩:=okWide_slice ht hv
 obtain ⟨fuel,hf⟩:=h
 rcases open_ints ht he hc hf with ⟨hcs,_⟩ | ⟨a,len',cap',zs,hcs,_,hl,hm,hz,_,hcell,hwz⟩
 ·simp [Value.cells] at hcs
  obtain ⟨rfl,rfl,rfl⟩:=hcs
  exact ⟨none,0,[],rfl,⟨RowR.nil,by simp⟩,by simp,by simp⟩
 ·simp [Value.cells] at hcs
  obtain ⟨rfl,rfl,rfl⟩:=hcs
  simp only [if_true] at hz
  have hlen:(zs.take len).length = len:=by simp; omega
  refine ⟨some a,cap,zs.take len,by rw [hlen],⟨fun h0=>?_,by omega⟩,by omega,fun x hx=>hwz x (List.mem_of_mem_take hx)⟩
  have h1:=hcell 0 (by omega)
  have hz0:a.add 0 = a:=by unfold Addr.add; simp
  rw [hz0] at h1
  obtain ⟨e1,e2⟩:=addr_plain h1
  refine ⟨a.block,a.off,by rw [<- e1],e2,fun i x hx=>?_⟩
  rw [List.getElem?_take] at hx
  split at hx
  ·have h2:=hcell i (by omega)
   rw [e1,add_plain] at h2
   rw [h2]
   simp [List.getD,hx]
  ·cases hx
theorem zf8 {W W':World} (hl:laidOutB P = true) (hb:Below W.heap.size W W'):∀ (ts:List TypeId) (vs:List Value) (ds:List (DataW H)) (ps:List MemPlace),(ts.all fun t=>P.readableRec t && decide (t < P.types.size)) = true ->
  (∀ x ∈ ps,x.block < W.heap.size)->DataW.TrodAll enc P W 0 (fun _=>true) true ts vs ds ps->∀ sp:Nat->Bool,(∀ x ∈ ps,sp x.block = true)->DataW.TrodAll enc P W' 0 sp true ts vs ds ps
 | [],vs,ds,ps,_,_,h,_,_=>by
  cases vs <;> cases ds <;> simp [DataW.TrodAll] at h ⊢
  exact h
 | t :: ts,vs,ds,ps,hr,hlt,h,sp,hsp=>by
  obtain ⟨v,vs',d,ds',p,q,rfl,rfl,rfl,h1,h2⟩:=trodAll_cons h
  simp only [List.all_cons,Bool.and_eq_true,decide_eq_true_eq] at hr
  refine ⟨p,q,?_,zf8 hl hb ts vs' ds' q (by simpa using hr.2) (fun x hx=>hlt x (by simp [hx])) h2 sp (fun x hx=>hsp x (by simp [hx])),rfl⟩
  exact WideElems.Trod_stays hl hr.1.1 hr.1.2 h1 (fun x hx=>hb.same (hlt x (by simp [hx]))) (fun x hx=>hsp x (by simp [hx]))
theorem law_post {f:Func} {s:ChangeSpec} {W W':World} {args:Array Value} {ds gs:List (DataW H)} {before:List MemPlace} {tb:TypeId} (hl:laidOutB P = true)
  (hW:DataW.Whole enc P f.params.toList s.vars false W args.toList ds gs before) (hvars:s.vars = []) (hres:f.resultTypes = #[tb]) (htb:P.underlying tb = some .bool)
  (hr:(f.params.toList.all fun t=>P.readableRec t && decide (t < P.types.size)) = true)
  (hfn:s.fn H ds = { results:=[.lit (.bool true)],args:=ds }) (hb:Below W.heap.size W W') :
  s.post enc P f false true false false W args (.bool true) W':=by
 have hW':=hW
 have hlt:∀ p ∈ before,p.block < W.heap.size:=fun p hp=>hW.lt p hp
 obtain ⟨pa,pv,hA,hV,hps,hz,hn⟩:=hW
 rw [hvars] at hV
 obtain ⟨rfl,rfl⟩:=trodVars_none hV
 rw [List.append_nil] at hps
 subst hps
 have hargs:∀ sp:Nat->Bool,(∀ p ∈ before,sp p.block = true)->DataW.TrodAll enc P W' 0 sp true f.params.toList args.toList ds before:=fun sp hsp =>
  zf8 hl hb _ _ _ _ hr hlt hA sp hsp
 have hres':∀ (b:Nat) (sp:Nat->Bool) (hd:Bool),DataW.TrodAll enc P W' b sp hd f.resultTypes.toList ((Value.bool true).resultList f.resultTypes.size) [.lit (.bool true)] []:=fun b sp hd=>by
  rw [hres]
  exact trodAll_cons_mk (shut_bool htb _) trodAll_mk0
 have hf2:s.fn H (ds ++ []) = { results:=[.lit (.bool true)],args:=ds }:=by rw [List.append_nil]; exact hfn
 have hvr:∀ sp:Nat->Bool,DataW.TrodVars enc P W' sp s.vars (s.fn H (ds ++ [])).vars []:=fun sp=>by rw [hvars,hf2]; rfl
 have hold:∀ p ∈ before,(fun b=>decide (b < W.heap.size)) p.block = true:=fun p hp=>by simpa using hlt p hp
 refine ⟨ds,[],before,[],before,[],hW',by rw [hf2]; exact hres' _ _ _,by rw [hf2]; exact hargs _ hold,hvr _,World.keptBut_mono (fun p hp=>⟨hp,?_⟩) (hb.frame (· ∈ before)),fun h=>by cases h⟩
 exact .inr (by simpa using hp)
end
end Go.Ql
end
section
namespace Go.Ql
open Go Go.RowKit
theorem wf1_u8 {n:Int} (h:(Lit.int .u8 n).wf = true):0 <= n/\n <= 255:=by simpa [Lit.wf,IntKind.min,IntKind.max,IntKind.signed,IntKind.bits] using h
theorem wf1_i64 {n:Int} (h:(Lit.int .i64 n).wf = true):-9223372036854775808 <= n/\n <= 9223372036854775807:=by simpa [Lit.wf,IntKind.min,IntKind.max,IntKind.signed,IntKind.bits] using h
def I64s (c:List Int):Prop:=∀ x ∈ c,-9223372036854775808 <= x/\x <= 9223372036854775807
theorem wf_u8 {c:List Int} (h:∀ x ∈ c,(Lit.int .u8 x).wf = true):Bytes c:=fun x hx=>wf1_u8 (h x hx)
theorem wf_i64 {c:List Int} (h:∀ x ∈ c,(Lit.int .i64 x).wf = true):I64s c:=fun x hx=>wf1_i64 (h x hx)
end Go.Ql
namespace Go.Proofs.YtggblkbecekbdaaGreat
open Go Go.RowKit Go.Ql
theorem own_knob:ownKnob Tryz.prog.godebug = none:=by kernel_rfl
theorem laid_out:laidOutB Tryz.prog = true:=by kernel_rfl
end Go.Proofs.YtggblkbecekbdaaGreat
end
section
namespace Go.Ql
open Go Go.RowKit Go.ChangeShapes Go.WideShapes Go.ChangeAt Go.Deep
section
variable {H:Type} {enc:TypeId × Value->H} {P:Program}
theorem slice_small {W:World} {base:Nat} {t e:TypeId} {fuel n c:Nat} {A:Option Addr} {x:DataW H × List MemPlace} {sp:Nat->Bool} {hd:Bool} (ht:P.underlying t = some (.slice e)) (hb:1 <= P.bytesOf e)
  (h:DataW.trod enc P W base sp hd fuel t [.slice A n c] = some x) (hz:(x.1.weights P t).all (· <= reachBytes) = true):n <= 140737488351232:=by
 rcases DataW.trod_slice ht h with ⟨hcs,_⟩ | ⟨a,len,cap,elems,rest,m,_,hcs,rfl,_,_,_,hlen,_⟩
 ·simp at hcs; omega
 ·simp only [List.cons.injEq,Value.slice.injEq,and_true] at hcs
  obtain ⟨_,rfl,_⟩:=hcs
  simp only [DataW.weights,ht,List.all_cons,Bool.and_eq_true,decide_eq_true_eq,List.length_map,hlen] at hz
  have h1:=hz.1
  have h2:n <= n + rest.length:=Nat.le_add_right _ _
  have h3:(n + rest.length) * 1 <= (n + rest.length) * P.bytesOf e:=Nat.mul_le_mul_left _ hb
  unfold reachBytes at h1
  omega
theorem z4c {W:World} {base:Nat} {t e:TypeId} {n c:Nat} {A:Option Addr} {d:DataW H} {p:List MemPlace} {sp:Nat->Bool} {hd:Bool} (ht:P.underlying t = some (.slice e)) (hb:1 <= P.bytesOf e)
  (h:DataW.Trod enc P W base sp hd t (.slice A n c) d p) (hz:(d.weights P t).all (· <= reachBytes) = true):n <= 140737488351232:=by
 obtain ⟨fuel,hf⟩:=h
 exact slice_small ht hb hf hz
theorem z32 {t:TypeId} {ts vt:List TypeId} {d:DataW H} {ds gs:List (DataW H)} (h:(DataW.weightsEach P ((t :: ts) ++ vt) ((d :: ds) ++ gs)).all (· <= reachBytes) = true) :
  (d.weights P t).all (· <= reachBytes) = true/\(DataW.weightsEach P (ts ++ vt) (ds ++ gs)).all (· <= reachBytes) = true:=by
 simpa only [List.cons_append,DataW.weightsEach,List.all_append,Bool.and_eq_true] using h
end
end Go.Ql
namespace Go.Proofs.YtggblkbecekbdaaGreat
open Go Go.RowKit Go.Ql
end Go.Proofs.YtggblkbecekbdaaGreat
end
end
