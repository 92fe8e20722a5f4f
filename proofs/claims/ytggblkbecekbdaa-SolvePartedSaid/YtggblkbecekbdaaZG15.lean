/- Part of the proof: FY13, Solve13, DZ20, FZ20, Solve14, Base, Wrap3. -/
import Derived.Test.YtggblkbecekbdaaZG14
import Derived.Test.YtggblkbecekbdaaZG8
import Derived.Test.YtggblkbecekbdaaZG6
import Derived.Test.YtggblkbecekbdaaZG5
import Derived.Test.YtggblkbecekbdaaZG12
import Derived.Test.YtggblkbecekbdaaZG1
import Derived.Test.YtggblkbecekbdaaProg
import Derived.ProofKit
import Derived.OpenShut
import Derived.ChangeSame
import Derived.Deep.Slices
import Derived.Deep.Grids
import Derived.Test.YtggblkbecekbdaaRows
set_option linter.unusedVariables false
set_option linter.all false
set_option linter.unusedSimpArgs false
set_option maxRecDepth 1000000
section
namespace Go.Proofs.Ytggblkbecekbdaa
open Go Go.RowKit Go.Ql Go.Vc
def zdz (c : Cert) (ty0 ty1 ty2 ty3 : TypeId) : Prop :=
      ((c.kind == (1:Int)) = true ->
 (((↑c.side.length:Int) == (0:Int)) = true->(((↑c.cycle.length:Int) == (0:Int)) = z3b c/\True)/\True) /\
 (((↑c.side.length:Int) == (0:Int)) = false->(false = z3b c/\True)/\True)) /\
 ((c.kind == (1:Int)) = false ->
 ((c.kind == (2:Int)) = true ->
 (((↑c.flow.length:Int) == (0:Int)) = true ->
 (((↑c.pot.length:Int) == (0:Int)) = true->(((↑c.cycle.length:Int) == (0:Int)) = z3b c/\True)/\True) /\
 (((↑c.pot.length:Int) == (0:Int)) = false->(false = z3b c/\True)/\True)) /\
 (((↑c.flow.length:Int) == (0:Int)) = false->(false = z3b c/\True)/\True)) /\
 ((c.kind == (2:Int)) = false ->
 ((c.kind == (3:Int)) = true ->
 (((↑c.pot.length:Int) == (0:Int)) = true->(((↑c.side.length:Int) == (0:Int)) = z3b c/\True)/\True) /\
 (((↑c.pot.length:Int) == (0:Int)) = false->(false = z3b c/\True)/\True)) /\
 ((c.kind == (3:Int)) = false->(false = z3b c/\True)/\True)))
theorem rPlain13_q (c:Cert) (ty0 ty1 ty2 ty3:TypeId):zdz c ty0 ty1 ty2 ty3 = z3p TT zhq (rPlain13_I c) (zn9 c) Try.f71 [.agg [.int .i64 c.kind,.row 0,.row 1,.row 2,.row 3]] [(0,.row false ty0 (.ints .i64 c.flow)),(1,.row false ty1 (.ints .i64 c.pot)),(2,.row false ty2 (.bools c.side)),(3,.row false ty3 (.ints .i64 c.cycle))] (zhr c):=by kernel_rfl
theorem rPlain13_E (c:Cert) (ty0 ty1 ty2 ty3:TypeId) (hp:True):FVc TT zhq (rPlain13_I c) (zn9 c) Try.f71 [.agg [.int .i64 c.kind,.row 0,.row 1,.row 2,.row 3]] [(0,.row false ty0 (.ints .i64 c.flow)),(1,.row false ty1 (.ints .i64 c.pot)),(2,.row false ty2 (.bools c.side)),(3,.row false ty3 (.ints .i64 c.cycle))] (zhr c):=by
 refine FVc.of (zdz c ty0 ty1 ty2 ty3) (rPlain13_q c ty0 ty1 ty2 ty3) ?_
 unfold zdz
 simp only [eq_self,exists_const,forall_const,decide_eq_true_eq,decide_eq_false_iff_not,and_true,true_and,bne_iff_ne,ne_eq,bne_eq_false_iff_eq,Int.toNat_natCast,Bool.not_eq_true',Bool.not_eq_false',beq_iff_eq,beq_eq_false_iff_ne,z09]
 unfold z3b
 have b0:∀ n:Nat,(((n:Int) == 0):Bool) = decide (n = 0):=fun n=>by by_cases h:n = 0 <;> simp [h]
 simp only [b0]
 refine ⟨fun k1=>⟨fun h1=>?_,fun h1=>?_⟩,fun k1=>⟨fun k2=>⟨fun h1=>⟨fun h2=>?_,fun h2=>?_⟩,fun h1=>?_⟩,fun k2=>⟨fun k3=>⟨fun h1=>?_,fun h1=>?_⟩,fun k3=>?_⟩⟩⟩
 all_goals
  first
   | (rw [if_pos (by assumption)])
   | (rw [if_neg (by assumption),if_pos (by assumption)])
   | (rw [if_neg (by assumption),if_neg (by assumption),if_pos (by assumption)])
   | (rw [if_neg (by assumption),if_neg (by assumption),if_neg (by assumption)])
 all_goals simp_all
theorem rPlain13_ok:SpecOk Try.prog rPlain13_n true (z04 true ze0) :=
 z0b z0v (show z1w Try.prog zhq from z06) (by kernel_rfl) mixedOrders Try.func71 rfl rfl (by kernel_rfl) (n:=1) (by decide +kernel) (I:=rPlain13_IA) (fun _ _=>z07) (A:=rPlain13_A)
  (fun args h r hr=>by
   unfold ze0 at hr
   split at hr
   ·rename_i c_k ty0 c_f ty1 c_p ty2 c_s ty3 c_y; cases hr; refine ⟨rfl,fun hp=>?_⟩; have hE:=rPlain13_E ⟨c_k,c_f,c_p,c_s,c_y⟩ ty0 ty1 ty2 ty3 hp; exact hE
   ·cases hr)
theorem rProvesN_ok:SpecOk Try.prog rProvesN_n true (z04 true ze1) :=
 z0b z0v (show z1w Try.prog rProvesN_g from z06) (by kernel_rfl) mixedOrders Try.func73 rfl rfl (by kernel_rfl) (n:=2) (by decide +kernel) (I:=fun _ _=>[]) (fun _ _=>z07) (A:=fun _ _=>[])
  (fun args h r hr=>by
   unfold ze1 at hr
   split at hr
   ·cases hr; exact ⟨rfl,fun hp=>hp.elim⟩
   ·cases hr)
theorem rTurnsN_ok:SpecOk Try.prog rTurnsN_n true (z04 true zhu) :=
 z0b z0v (show z1w Try.prog rTurnsN_g from z06) (by kernel_rfl) mixedOrders Try.func75 rfl rfl (by kernel_rfl) (n:=2) (by decide +kernel) (I:=fun _ _=>[]) (fun _ _=>z07) (A:=fun _ _=>[])
  (fun args h r hr=>by
   unfold zhu at hr
   split at hr
   ·cases hr; exact ⟨rfl,fun hp=>hp.elim⟩
   ·cases hr)
def zhl (I : Inst) (c : Cert) (ty0 ty1 ty2 ty3 ty4 ty5 : TypeId) : Prop :=
      True /\
 ((z03 I != (0:Int)) = true->(z03 I = z25 I c/\True)/\True) /\
 ((z03 I != (0:Int)) = false ->
 True /\
 ((!z3b { kind:=c.kind,flow:=c.flow,pot:=c.pot,side:=c.side,cycle:=c.cycle:Cert }) = true->((36:Int) = z25 I c/\True)/\True) /\
 ((!z3b { kind:=c.kind,flow:=c.flow,pot:=c.pot,side:=c.side,cycle:=c.cycle:Cert }) = false ->
 ((c.kind == (1:Int)) = true ->
 (I.sup.length <= (10000:Nat)/\I.arcs.length <= (10000:Nat)/\A64 c.flow/\A64 I.sup/\A64 c.pot/\A64c I.arcs) /\
 (z1f I c.flow c.pot = z25 I c/\True)/\True) /\
 ((c.kind == (1:Int)) = false ->
 ((c.kind == (2:Int)) = true->False/\((0:Int) = z25 I c/\True)/\True) /\
 ((c.kind == (2:Int)) = false ->
 (I.sup.length <= (10000:Nat)/\I.arcs.length <= (10000:Nat)/\A64 c.flow/\A64 I.sup) /\
 ((z1g I c.flow != (0:Int)) = true->(z1g I c.flow = z25 I c/\True)/\True) /\
 ((z1g I c.flow != (0:Int)) = false->False/\((0:Int) = z25 I c/\True)/\True)))))
theorem rCheckB_q (I:Inst) (c:Cert) (ty0 ty1 ty2 ty3 ty4 ty5:TypeId):zhl I c ty0 ty1 ty2 ty3 ty4 ty5 = z3p TT zn4 (rCheckB_I I c) (rCheckB_an I c) Try.f42 [.agg [.row 0,.row 1],.agg [.int .i64 c.kind,.row 2,.row 3,.row 4,.row 5]] [(0,.row false ty0 (.ints .i64 I.sup)),(1,.row false ty1 (.arcs I.arcs)),(2,.row false ty2 (.ints .i64 c.flow)),(3,.row false ty3 (.ints .i64 c.pot)),(4,.row false ty4 (.bools c.side)),(5,.row false ty5 (.ints .i64 c.cycle))] (zn5 I c):=by kernel_rfl
theorem rCheckB_E (I:Inst) (c:Cert) (ty0 ty1 ty2 ty3 ty4 ty5:TypeId) (hp:z5r c/\zae I/\c.kind = 1):FVc TT zn4 (rCheckB_I I c) (rCheckB_an I c) Try.f42 [.agg [.row 0,.row 1],.agg [.int .i64 c.kind,.row 2,.row 3,.row 4,.row 5]] [(0,.row false ty0 (.ints .i64 I.sup)),(1,.row false ty1 (.arcs I.arcs)),(2,.row false ty2 (.ints .i64 c.flow)),(3,.row false ty3 (.ints .i64 c.pot)),(4,.row false ty4 (.bools c.side)),(5,.row false ty5 (.ints .i64 c.cycle))] (zn5 I c):=by
 refine FVc.of (zhl I c ty0 ty1 ty2 ty3 ty4 ty5) (rCheckB_q I c ty0 ty1 ty2 ty3 ty4 ty5) ?_
 unfold zhl
 obtain ⟨c1,c2,c3,c4,c5,c6⟩:=hp.1
 obtain ⟨i1,i2,i3,i4,i5⟩:=hp.2.1
 have kk:=hp.2.2
 simp only [eq_self,exists_const,forall_const,decide_eq_true_eq,decide_eq_false_iff_not,and_true,true_and,bne_iff_ne,ne_eq,bne_eq_false_iff_eq,Int.toNat_natCast,Bool.not_eq_true',Bool.not_eq_false',beq_iff_eq,beq_eq_false_iff_ne,z09]
 refine ⟨fun h=>by unfold z25; rw [if_pos h],fun h=>⟨fun h2=>by unfold z25; rw [if_neg (fun h5=>h5 h),if_pos h2],fun h2=>?_⟩⟩
 have e0:z25 I c = if c.kind = 1 then z1f I c.flow c.pot else if c.kind = 2 then z5h I c.side else if z1g I c.flow ≠ 0 then z1g I c.flow else z46 I c.cycle:=by
  unfold z25; rw [if_neg (fun h5=>h5 h),if_neg (by rw [h2]; simp)]
 rw [e0]
 exact ⟨fun k1=>⟨⟨i1,i2,c1,i3,c2,i5⟩,by rw [if_pos k1]⟩,fun k1=>absurd kk k1⟩
theorem rCheckB_ok:SpecOk Try.prog rCheckB_n true (z04 true zhm) :=
 z0b z0v (show z1w Try.prog zn4 from z02 rRight_ok (z02 rPlain13_ok (z02 rSlack_ok (z02 rProvesN_ok (z02 rFits_ok (z02 rTurnsN_ok (z06))))))) (by kernel_rfl) mixedOrders Try.func42 rfl rfl (by kernel_rfl) (n:=2) (by decide +kernel) (I:=rCheckB_IA) (fun _ _=>z07) (A:=rCheckB_A)
  (fun args h r hr=>by
   unfold zhm at hr
   split at hr
   ·rename_i c_k ty0 I_s ty1 I_a ty2 c_f ty3 c_p ty4 c_s ty5 c_y; cases hr; refine ⟨rfl,fun hp=>?_⟩; have hE:=rCheckB_E ⟨I_s,I_a⟩ ⟨c_k,c_f,c_p,c_s,c_y⟩ ty0 ty1 ty2 ty3 ty4 ty5 hp; exact hE
   ·cases hr)
end Go.Proofs.Ytggblkbecekbdaa
end
section
namespace Go.Ql
open Go Go.Vc
theorem YB.a64 {x:List Int} (h:YB x):A64 x:=fun y hy=>by have:=h y hy; unfold I64; omega
theorem z6v {I:Inst} {x p:List Int} (h:z1f I x p = 0):z1g I x = 0:=by
 unfold z1f at h
 split at h
 ·rename_i hn; exact absurd h hn
 ·rename_i hn; exact Classical.byContradiction hn
theorem zg6 {I:Inst} {c:Cert} {e:Int} (hr:z03 I = 0) (h:SolveP I c e):z5r c/\z25 I c = 0/\c.flow.length <= 256/\c.pot.length <= 64/\c.side.length <= 64/\c.cycle.length <= 256:=by
 obtain ⟨-,h1,h2,h3,-⟩:=h.ok hr
 have hs:=z0c hr
 have hl:c.flow.length <= 256/\c.pot.length <= 64/\c.side.length <= 64/\c.cycle.length <= 256:=by
  obtain ⟨-,hp,hk⟩:=z31 h1
  unfold z3b at hp
  rcases hk with ⟨k,h4⟩ | ⟨k,h4⟩ | ⟨k,h4,h5⟩
  ·have hf:=(fitsF_zero.1 (z6v h4)).2.1
   have hpl:c.pot.length = I.sup.length:=by
    unfold z1f at h4
    rw [if_neg (fun hn=>hn (z6v (by unfold z1f; exact h4)))] at h4
    split at h4
    ·cases h4
    ·rename_i hh; exact Classical.byContradiction hh
   rw [if_pos k,Bool.and_eq_true,decide_eq_true_eq,decide_eq_true_eq] at hp
   omega
  ·rw [if_neg (by omega),if_pos k,Bool.and_eq_true,Bool.and_eq_true,decide_eq_true_eq,decide_eq_true_eq,decide_eq_true_eq] at hp
   have:c.side.length = I.sup.length:=by
    unfold z5h at h4
    rw [if_neg (fun hn=>hn hr)] at h4
    split at h4
    ·cases h4
    ·rename_i hh; exact Classical.byContradiction hh
   omega
  ·rw [if_neg (by omega),if_neg (by omega),if_pos k,Bool.and_eq_true,decide_eq_true_eq,decide_eq_true_eq] at hp
   have hf:=(fitsF_zero.1 h4).2.1
   have:c.cycle.length <= I.arcs.length:=by
    unfold z46 at h5
    rw [if_neg (fun hn=>hn hr)] at h5
    split at h5
    ·cases h5
    ·omega
   omega
 exact ⟨⟨h2.a64,h3.a64,by omega,by omega,by omega,by omega⟩,h1,hl⟩
structure ValueP (I:Inst) (w:Wide) (k:Int):Prop where
 ex:∃ c,z5r c/\z25 I c = 0/\c.kind = k/\w = z28 I c
 yb:∃ c,z5r c/\z25 I c = 0/\YB c.flow/\YB c.pot/\∀ C:Int,0 <= C->(∀ s,okS I s->-C <= csS I s/\csS I s <= C)->∀ k,-(C * 32768) <= c.pot.getD k 0/\c.pot.getD k 0 <= C * 32768
theorem ValueP.one {I:Inst} {w:Wide} {k:Int} (h:ValueP I w k) {c:Cert} (hc:z5r c) (h1:z25 I c = 0):k = c.kind/\w = z28 I c:=by
 obtain ⟨d,q1,q2,rfl,rfl⟩:=h.ex
 exact cert_one q1 hc q2 h1
theorem ValueP.pos {I:Inst} {w:Wide} {k:Int} (h:ValueP I w k):z03 I = 0/\(k = 1 ∨ k = 2 ∨ k = 3):=by
 obtain ⟨d,q1,q2,rfl,rfl⟩:=h.ex
 obtain ⟨hr,hp,-⟩:=z31 q2
 exact ⟨hr,zmo hp⟩
def FeasQ (I:Inst):Prop:=∃ x,A64 x/\z1g I x = 0
def NegQ (I:Inst):Prop:=∃ l,z46 I l = 0/\l.length <= 140737488351232
theorem ValueP.cut {I:Inst} {w:Wide} {k:Int} (h:ValueP I w k) (hk:k = 2):¬ FeasQ I:=fun ⟨x,hx,hf⟩=>by
 obtain ⟨d,q1,q2,rfl,-⟩:=h.ex
 obtain ⟨hr,-,q3⟩:=z31 q2
 have hs:=z0c hr
 rcases q3 with ⟨a,-⟩ | ⟨-,a⟩ | ⟨a,-⟩
 ·omega
 ·exact zdw (by omega) (by omega) hx (z1v hr).1 a hf
 ·omega
theorem ValueP.feas {I:Inst} {w:Wide} {k:Int} (h:ValueP I w k) (hk:k ≠ 2):FeasQ I:=by
 obtain ⟨d,q1,q2,rfl,-⟩:=h.ex
 obtain ⟨hr,-,q3⟩:=z31 q2
 rcases q3 with ⟨-,a⟩ | ⟨a,-⟩ | ⟨-,a,-⟩
 ·exact ⟨_,q1.1,z6v a⟩
 ·omega
 ·exact ⟨_,q1.1,a⟩
theorem ValueP.cut_iff {I:Inst} {w:Wide} {k:Int} (h:ValueP I w k):k = 2 ↔ ¬ FeasQ I:=⟨h.cut,fun h2=>Classical.byContradiction fun h3=>h2 (h.feas h3)⟩
theorem ValueP.neg {I:Inst} {w:Wide} {k:Int} (h:ValueP I w k) (hk:k ≠ 2):k = 3 ↔ NegQ I:=by
 refine ⟨fun h3=>?_,fun ⟨l,hl,hll⟩=>?_⟩
 ·obtain ⟨d,q1,q2,rfl,-⟩:=h.ex
  obtain ⟨hr,-,q3⟩:=z31 q2
  rcases q3 with ⟨a,-⟩ | ⟨a,-⟩ | ⟨-,-,a⟩
  ·omega
  ·omega
  ·exact ⟨_,a,q1.2.2.2.2.2⟩
 ·obtain ⟨x,hx,hf⟩:=h.feas hk
  have hlen:=(fitsF_zero.1 hf).2.1
  have hr:=(fitsF_zero.1 hf).1
  have hs:=z0c hr
  have hc:z25 I ⟨3,x,[],[],l⟩ = 0:=by
   unfold z25 z3b
   simp [hr,hf,hl]
  exact (h.one (c:=⟨3,x,[],[],l⟩) ⟨hx,YB.nil.a64,by dsimp only; omega,by simp,by simp,hll⟩ hc).1
theorem ValueP.best {I:Inst} {w:Wide} {k:Int} (h:ValueP I w k) (hk:k = 1):∃ x,A64 x/\z1g I x = 0/\w = W (z3v I x)/\∀ y,A64 y->z1g I y = 0->z3v I x <= z3v I y:=by
 obtain ⟨d,q1,q2,rfl,rfl⟩:=h.ex
 obtain ⟨hr,-,q3⟩:=z31 q2
 have hs:=z0c hr
 rcases q3 with ⟨-,a⟩ | ⟨a,-⟩ | ⟨a,-⟩
 ·refine ⟨d.flow,q1.1,z6v a,by unfold z28; rw [if_pos hk],fun y hy hf=>?_⟩
  have hb:=zi9 hy q1.1 q1.2.1 a hf
  rw [za8 (z4o hr q1.1) (z4o hr hy)] at hb
  apply Int.le_of_not_gt
  intro hlt
  rw [if_neg (by omega),if_pos hlt] at hb
  exact absurd hb (by decide)
 ·omega
 ·omega
def turnS (s:List Int) (k:Int):List Int:=addAt (addAt s (k % (s.length:Int)).toNat (k % 5)) (k / 5 % (s.length:Int)).toNat (-(k % 5))
def z00 (p d:List Int) (k:Int):Inst:=⟨turnS (z1y p d).sup k,(z1y p d).arcs⟩
theorem turnS_len (s:List Int) (k:Int):(turnS s k).length = s.length:=by unfold turnS; rw [z2y,z2y]
theorem turnS_sum {s:List Int} (k:Int) (h:1 <= s.length):(turnS s k).sum = s.sum:=by
 have h1:∀ x:Int,(x % (s.length:Int)).toNat < s.length:=fun x=>by
  have:=Int.emod_nonneg x (b:=(s.length:Int)) (by omega)
  have:=Int.emod_lt_of_pos x (b:=(s.length:Int)) (by omega)
  omega
 unfold turnS
 rw [z8j _ _ _ (by rw [z2y]; exact h1 _),z8j _ _ _ (h1 _)]
 omega
theorem turnS_within {s:List Int} {b k:Int} (h:Within b s) (hb:0 <= b):Within (b + 8) (turnS s k):=by
 have h1:=h.addAt hb (k % (s.length:Int)).toNat (x:=k % 5) (y:=4) (by omega) (by omega)
 have h2:=h1.addAt (by omega) (k / 5 % (s.length:Int)).toNat (x:=-(k % 5)) (y:=4) (by omega) (by omega)
 unfold turnS
 exact h2.more (by omega)
structure ArcFew (n:Int) (a:Arc):Prop where
 s0:0 <= a.src
 s1:a.src < n
 d0:0 <= a.dst
 d1:a.dst < n
 l0:0 <= a.low
 l1:a.low <= 500
 c:a.cap = inf ∨ a.low <= a.cap/\a.cap <= 2000
 k0:-2000 <= a.cost
 k1:a.cost <= 2000
structure FewI (I:Inst):Prop where
 n1:1 <= I.sup.length
 n2:I.sup.length <= 30
 m:I.arcs.length <= 64
 arc:∀ a ∈ I.arcs,ArcFew I.sup.length a
 sup:Within 100000 I.sup
 sum:I.sup.sum = 0
theorem Nice_few {n:Int} {a:Arc} (h:a.Nice n):ArcFew n a:=by
 have h1:=h.l1; have h2:=h.c0; have h3:=h.c1; have h4:=h.k0; have h5:=h.k1
 exact ⟨h.s0,h.s1,h.d0,h.d1,h.l0,by omega,h3.elim (fun h=>.inr ⟨h2,by omega⟩) .inl,by omega,by omega⟩
theorem z96 (p d:List Int) (k:Int):FewI (z00 p d k)/\(z00 p d k).sup.length = nOf d/\(z00 p d k).arcs.length <= 18/\nOf d <= 7/\1 <= nOf d/\Within 200 (z00 p d k).sup/\∀ a ∈ (z00 p d k).arcs,a.Nice (nOf d):=by
 have l1:=instF_sup p d
 have l2:=zha d
 have l3:=nOf_le d
 have l4:=instF_arcs p d
 have hl:(z00 p d k).sup.length = nOf d:=by unfold z00; dsimp only; rw [turnS_len,l1]
 have hw:=turnS_within (k:=k) (zis p d) (by omega)
 exact ⟨⟨by omega,by omega,by unfold z00; dsimp only; omega,fun a ha=>by rw [hl]; exact Nice_few (instF_nice p d a ha),hw.more (by omega),by unfold z00; dsimp only; rw [turnS_sum k (by omega)]; exact instF_sum p d⟩,hl,l4,l3,l2,hw.more (by omega),instF_nice p d⟩
theorem FewI.right {I:Inst} (h:FewI I):z03 I = 0:=by
 have:=h.n2; have:=h.m
 refine right_of (by omega) (by omega) (fun a ha=>?_) (fun x hx=>by have:=h.sup x hx; omega) h.sum
 have h:=h.arc a ha
 have hi:inf = 4611686018427387904:=rfl
 have:=h.s0; have:=h.s1; have:=h.d0; have:=h.d1; have:=h.l0; have:=h.l1; have:=h.c; have:=h.k0; have:=h.k1
 unfold z0e
 rw [if_neg (by omega),if_neg (by omega),if_neg (by omega),if_neg (by omega)]
theorem FewI.small {I:Inst} (h:FewI I):SmallI I:=by
 refine ⟨fun y hy=>by have:=h.sup y hy; omega,fun a ha=>?_⟩
 have h1:=(h.arc a ha).l1; have h2:=(h.arc a ha).c
 exact ⟨by omega,h2.elim .inl (fun h=>.inr (by omega))⟩
theorem ValueP.none {I:Inst} {w:Wide} {k:Int} (h:ValueP I w k) (hk:k ≠ 1):w = ⟨0,0⟩:=by
 obtain ⟨d,q1,q2,rfl,rfl⟩:=h.ex
 unfold z28; rw [if_neg hk]
theorem same_kind {I J:Inst} {v w:Wide} {i j:Int} (h1:ValueP I v i) (h2:ValueP J w j) (hf:FeasQ I ↔ FeasQ J) (hn:NegQ I ↔ NegQ J):i = j/\0 < i:=by
 have p1:=h1.pos.2
 have p2:=h2.pos.2
 have c1:=h1.cut_iff
 have c2:=h2.cut_iff
 refine ⟨?_,by omega⟩
 by_cases h:FeasQ I
 ·have n1:=h1.neg (fun e=>c1.1 e h)
  have n2:=h2.neg (fun e=>c2.1 e (hf.1 h))
  by_cases hq:NegQ I
  ·rw [n1.2 hq,n2.2 (hn.1 hq)]
  ·have:¬ i = 3:=fun e=>hq (n1.1 e)
   have:¬ j = 3:=fun e=>hq (hn.2 (n2.1 e))
   have:¬ i = 2:=fun e=>c1.1 e h
   have:¬ j = 2:=fun e=>c2.1 e (hf.1 h)
   omega
 ·rw [c1.2 h,c2.2 (fun e=>h (hf.2 e))]
theorem value_map {I J:Inst} {v w:Wide} {i j:Int} (h1:ValueP I v i) (h2:ValueP J w j) {S:Int} (hf:∀ x,A64 x->(z1g I x = 0 ↔ z1g J x = 0)) (hc:∀ x,A64 x->z1g I x = 0->z3v I x = z3v J x + S) (hn:NegQ I ↔ NegQ J) :
  i = j/\0 < i/\(i = 1->∃ t,w = W t/\v = W (t + S))/\(i ≠ 1->v = ⟨0,0⟩/\w = ⟨0,0⟩):=by
 obtain ⟨e,p⟩:=same_kind h1 h2 ⟨fun ⟨x,hx,hh⟩=>⟨x,hx,(hf x hx).1 hh⟩,fun ⟨x,hx,hh⟩=>⟨x,hx,(hf x hx).2 hh⟩⟩ hn
 refine ⟨e,p,fun h=>?_,fun h=>⟨h1.none h,h2.none (fun e2=>h (by omega))⟩⟩
 obtain ⟨x,hx,hxf,rfl,hxb⟩:=h1.best h
 obtain ⟨y,hy,hyf,rfl,hyb⟩:=h2.best (by omega)
 have a1:=hxb y hy ((hf y hy).2 hyf)
 have a2:=hyb x hx ((hf x hx).1 hxf)
 have a3:=hc x hx hxf
 have a4:=hc y hy ((hf y hy).2 hyf)
 exact ⟨_,rfl,by congr 1; omega⟩
theorem value_of {I:Inst} {c:Cert} {e:Int} (hr:z03 I = 0) (h:SolveP I c e):ValueP I (z28 I c) c.kind:=by
 obtain ⟨q1,q2,-⟩:=zg6 hr h
 obtain ⟨-,-,q3,q4,q5⟩:=h.ok hr
 exact ⟨⟨c,q1,q2,rfl,rfl⟩,⟨c,q1,q2,q3,q4,q5⟩⟩
theorem inst_ok {I:Inst} (h:z03 I = 0):zae I:=by
 obtain ⟨a1,a2,a3,a4⟩:=right_A64 h
 have:=z0c h
 exact ⟨by omega,by omega,a3,a1,a2⟩
end Go.Ql
end
section
namespace Go.Proofs.Ytggblkbecekbdaa
open Go Go.RowKit Go.Ql Go.Vc
def zm5:FRes:={ pre:=True,res:=.bool (true),rows:=[],eff:=[] }
def z5z:FS:=fun args h=>match args,h with
 | [],[]=>some (zm5)
 | _,_=>none
def known20_an:List (Nat × Ann):=[]
def known20_A:List SV->z0f->List (Nat × Ann):=fun _ _=>[]
def zm4:z0d:=[(Solve_n,(true,z0u true zer)),(zjg,(true,z04 true zao)),(Of_n,(true,z04 true Of_fs)),(rCheckB_n,(true,z04 true zhm))]
abbrev z8s:Nat:=24
def known20_I:List (Nat × z0a):=[]
def known20_IA:List SV->z0f->List (Nat × z0a):=fun _ _=>[]
def Small_r (p:List Int) (d:List Int) (k:Int):FRes:={ pre:=Bytes p/\Bytes d/\p.length <= maxLen/\d.length <= maxLen/\0 <= k/\k <= 255,res:=.agg [.row 2,.row 3],rows:=[.row 2 (.ints .i64 (z00 p d k).sup),.row 50 (.arcs (z00 p d k).arcs)],eff:=[] }
def z9b:FS:=fun args h=>match args,h with
 | [.row 0,.row 1,.int .u8 k],[(0,.row false ty0 (.ints .u8 p)),(1,.row false ty1 (.ints .u8 d))]=>some (Small_r p d k)
 | _,_=>none
def Small_an (p:List Int) (d:List Int) (k:Int):List (Nat × Ann):=[]
def Small_A:List SV->z0f->List (Nat × Ann):=fun _ _=>[]
def Small_g:z0d:=[(Inst_n,(true,z04 true Inst_fs))]
abbrev zgr:Nat:=22
def Small_I (p:List Int) (d:List Int) (k:Int):List (Nat × z0a):=[]
def Small_IA:List SV->z0f->List (Nat × z0a):=fun _ _=>[]
def zom (I:Inst):FRel:={ pre:=z03 I = 0/\SmallI I,G:=(Wide) × (Int),post:=fun ⟨w,k⟩=>ValueP I w k,out:=fun ⟨w,k⟩=>{ pre:=True,res:=.tup [.agg (z0w (w)),.int .i64 (k)],rows:=[],eff:=[] } }
def z6z:FR:=fun args h=>match args,h with
 | [.agg [.row 0,.row 1]],[(0,.row false ty0 (.ints .i64 I_s)),(1,.row false ty1 (.arcs I_a))]=>some (zom ⟨I_s,I_a⟩)
 | _,_=>none
def value20_an (I:Inst):List (Nat × Ann):=[]
def value20_A:List SV->z0f->List (Nat × Ann):=fun _ _=>[]
def zol:z0d:=[(Solve_n,(true,z0u true zer)),(zjg,(true,z04 true zao))]
abbrev zc1:Nat:=23
def value20_I (I:Inst):List (Nat × z0a):=[]
def value20_IA:List SV->z0f->List (Nat × z0a):=fun _ _=>[]
end Go.Proofs.Ytggblkbecekbdaa
end
section
namespace Go.Proofs.Ytggblkbecekbdaa
open Go Go.RowKit Go.Ql Go.Vc
abbrev z8r (g:Cert × Int):=(z28 { sup:=[(3:Int),(-3:Int)],arcs:=[{ src:=(0:Int),dst:=(1:Int),low:=(0:Int),cap:=(2:Int),cost:=(1:Int):Arc },{ src:=(0:Int),dst:=(1:Int),low:=(0:Int),cap:=(2:Int),cost:=(5:Int):Arc }]:Inst } { kind:=g.1.kind,flow:=g.1.flow,pot:=g.1.pot,side:=g.1.side,cycle:=g.1.cycle:Cert })
def zh6 : Prop :=
   (z03 { sup:=[(3:Int),(-3:Int)],arcs:=[{ src:=(0:Int),dst:=(1:Int),low:=(0:Int),cap:=(2:Int),cost:=(1:Int):Arc },{ src:=(0:Int),dst:=(1:Int),low:=(0:Int),cap:=(2:Int),cost:=(5:Int):Arc }]:Inst } = (0:Int)->SmallI { sup:=[(3:Int),(-3:Int)],arcs:=[{ src:=(0:Int),dst:=(1:Int),low:=(0:Int),cap:=(2:Int),cost:=(1:Int):Arc },{ src:=(0:Int),dst:=(1:Int),low:=(0:Int),cap:=(2:Int),cost:=(5:Int):Arc }]:Inst })/\∀ (g:Cert × Int),SolveP { sup:=[(3:Int),(-3:Int)],arcs:=[{ src:=(0:Int),dst:=(1:Int),low:=(0:Int),cap:=(2:Int),cost:=(1:Int):Arc },{ src:=(0:Int),dst:=(1:Int),low:=(0:Int),cap:=(2:Int),cost:=(5:Int):Arc }]:Inst } g.1 g.2->(z5r { kind:=g.1.kind,flow:=g.1.flow,pot:=g.1.pot,side:=g.1.side,cycle:=g.1.cycle:Cert }/\(zae { sup:=[(3:Int),(-3:Int)],arcs:=[{ src:=(0:Int),dst:=(1:Int),low:=(0:Int),cap:=(2:Int),cost:=(1:Int):Arc },{ src:=(0:Int),dst:=(1:Int),low:=(0:Int),cap:=(2:Int),cost:=(5:Int):Arc }]:Inst }))/\((g.2 == (0:Int)) = true->((g.1.kind == (1:Int)) = true->(decide (g.1.kind = (1:Int)) = true->I64 (7:Int)/\((decide ([(z8r g).hi,(z8r g).lo] = [(W (7:Int)).hi,(W (7:Int)).lo]) = true->(z5r { kind:=g.1.kind,flow:=g.1.flow,pot:=g.1.pot,side:=g.1.side,cycle:=g.1.cycle:Cert }/\(zae { sup:=[(3:Int),(-3:Int)],arcs:=[{ src:=(0:Int),dst:=(1:Int),low:=(0:Int),cap:=(2:Int),cost:=(1:Int):Arc },{ src:=(0:Int),dst:=(1:Int),low:=(0:Int),cap:=(2:Int),cost:=(5:Int):Arc }]:Inst }/\(g.1.kind = (1:Int))))/\(((z25 { sup:=[(3:Int),(-3:Int)],arcs:=[{ src:=(0:Int),dst:=(1:Int),low:=(0:Int),cap:=(2:Int),cost:=(1:Int):Arc },{ src:=(0:Int),dst:=(1:Int),low:=(0:Int),cap:=(2:Int),cost:=(5:Int):Arc }]:Inst } { kind:=g.1.kind,flow:=g.1.flow,pot:=g.1.pot,side:=g.1.side,cycle:=g.1.cycle:Cert } == (0:Int)) = true/\True)/\True))/\(decide ([(z8r g).hi,(z8r g).lo] = [(W (7:Int)).hi,(W (7:Int)).lo]) = false->(false = true/\True)/\True)))/\(decide (g.1.kind = (1:Int)) = false->(false = true/\True)/\True))/\((g.1.kind == (1:Int)) = false->(false = true/\True)/\True))/\((g.2 == (0:Int)) = false->(false = true/\True)/\True)
theorem known20_q:zh6 = z3p TT zm4 (known20_I) (known20_an) Try.f24 [] [] (zm5):=by kernel_rfl
theorem known20_E (hp:True):FVc TT zm4 (known20_I) (known20_an) Try.f24 [] [] (zm5):=by
 refine FVc.of (zh6) (known20_q) ?_
 unfold zh6
 delta z8r
 simp only [eq_self,exists_const,forall_const,decide_eq_true_eq,decide_eq_false_iff_not,and_true,true_and,bne_iff_ne,ne_eq,bne_eq_false_iff_eq,Int.toNat_natCast,Bool.not_eq_true',Bool.not_eq_false',beq_iff_eq,beq_eq_false_iff_ne,z09]
 have hr:z03 ⟨[3,-3],[⟨0,1,0,2,1⟩,⟨0,1,0,2,5⟩]⟩ = 0:=by decide
 have hsm:SmallI ⟨[3,-3],[⟨0,1,0,2,1⟩,⟨0,1,0,2,5⟩]⟩:=⟨by simp,by simp⟩
 have hc0:z25 ⟨[3,-3],[⟨0,1,0,2,1⟩,⟨0,1,0,2,5⟩]⟩ ⟨1,[2,1],[5,0],[],[]⟩ = 0:=by decide
 have hv0:z28 ⟨[3,-3],[⟨0,1,0,2,1⟩,⟨0,1,0,2,5⟩]⟩ ⟨1,[2,1],[5,0],[],[]⟩ = W 7:=by decide
 have h0:z5r ⟨1,[2,1],[5,0],[],[]⟩:=by simp [z5r,A64,I64]
 have hi:=inst_ok hr
 generalize (⟨[3,-3],[⟨0,1,0,2,1⟩,⟨0,1,0,2,5⟩]⟩:Inst) = I at *
 refine ⟨fun _=>hsm,?_⟩
 rintro ⟨c,e⟩ hS
 obtain ⟨q1,q2,q3⟩:=zg6 hr hS
 obtain ⟨hk,hv⟩:=cert_one q1 h0 q2 hc0
 have he:=(hS.ok hr).1
 rw [hv0] at hv
 dsimp only at he hk hv q1 q2 q3 ⊢
 rw [hv]
 exact ⟨⟨q1,hi⟩,fun _=>⟨fun _=>⟨fun _=>⟨by unfold I64; omega,fun _=>⟨⟨q1,hi,hk⟩,q2⟩,fun h=>absurd rfl h⟩,fun h=>absurd hk h⟩,fun h=>absurd hk h⟩,fun h=>absurd he h⟩
theorem z8t:SpecOk Try.prog z8s true (z04 true z5z) :=
 z0b z0v (show z1w Try.prog zm4 from z02 Solve_ok (z02 zkq (z02 Of_ok (z02 rCheckB_ok (z06))))) (by kernel_rfl) mixedOrders Try.func24 rfl rfl (by kernel_rfl) (n:=0) (by decide +kernel) (I:=known20_IA) (fun _ _=>z07) (A:=known20_A)
  (fun args h r hr=>by
   unfold z5z at hr
   split at hr
   ·cases hr; refine ⟨rfl,fun hp=>?_⟩; have hE:=known20_E  hp; exact hE
   ·cases hr)
def Small_E0 (p : List Int) (d : List Int) (k : Int) (ty0 ty1 : TypeId) : Prop :=
      (Bytes p/\Bytes d/\p.length <= maxLen/\d.length <= maxLen) /\
 (↑(z1y p d).sup.length:Int) ≠ (0:Int) /\
 ((0:Int) <= (IntKind.i64.wrap k).tmod (↑(z1y p d).sup.length:Int)/\(IntKind.i64.wrap k).tmod (↑(z1y p d).sup.length:Int) < (↑(z1y p d).sup.length:Int)) /\
 ((IntKind.i64.wrap k).tmod (↑(z1y p d).sup.length:Int)).toNat < (z1y p d).sup.length /\
 ∀ (x:Int),
 (z1y p d).sup[((IntKind.i64.wrap k).tmod (↑(z1y p d).sup.length:Int)).toNat]? = some x ->
 (5:Int) ≠ (0:Int) /\
 ((0:Int) <= (IntKind.i64.wrap k).tmod (↑(z1y p d).sup.length:Int) /\
 (IntKind.i64.wrap k).tmod (↑(z1y p d).sup.length:Int) < (↑(z1y p d).sup.length:Int)) /\
 ((IntKind.i64.wrap k).tmod (↑(z1y p d).sup.length:Int)).toNat < (z1y p d).sup.length /\
 (5:Int) ≠ (0:Int) /\
 (↑(z1y p d).sup.length:Int) ≠ (0:Int) /\
 ((0:Int) <= (IntKind.i64.wrap (IntKind.u8.wrap (k.tdiv (5:Int)))).tmod (↑(z1y p d).sup.length:Int) /\
 (IntKind.i64.wrap (IntKind.u8.wrap (k.tdiv (5:Int)))).tmod (↑(z1y p d).sup.length:Int) <
 (↑((z1y p d).sup.set ((IntKind.i64.wrap k).tmod (↑(z1y p d).sup.length:Int)).toNat
 (IntKind.i64.wrap (x + IntKind.i64.wrap (k.tmod (5:Int))))).length :
 Int)) /\
 ((IntKind.i64.wrap (IntKind.u8.wrap (k.tdiv (5:Int)))).tmod (↑(z1y p d).sup.length:Int)).toNat <
 ((z1y p d).sup.set ((IntKind.i64.wrap k).tmod (↑(z1y p d).sup.length:Int)).toNat
 (IntKind.i64.wrap (x + IntKind.i64.wrap (k.tmod (5:Int))))).length /\
 ∀ (x_1:Int),
 ((z1y p d).sup.set ((IntKind.i64.wrap k).tmod (↑(z1y p d).sup.length:Int)).toNat
 (IntKind.i64.wrap
 (x +
 IntKind.i64.wrap
 (k.tmod (5:Int)))))[((IntKind.i64.wrap (IntKind.u8.wrap (k.tdiv (5:Int)))).tmod (↑(z1y p d).sup.length:Int)).toNat]? =
 some x_1 ->
 (5:Int) ≠ (0:Int) /\
 ((0:Int) <= (IntKind.i64.wrap (IntKind.u8.wrap (k.tdiv (5:Int)))).tmod (↑(z1y p d).sup.length:Int) /\
 (IntKind.i64.wrap (IntKind.u8.wrap (k.tdiv (5:Int)))).tmod (↑(z1y p d).sup.length:Int) <
 (↑((z1y p d).sup.set ((IntKind.i64.wrap k).tmod (↑(z1y p d).sup.length:Int)).toNat
 (IntKind.i64.wrap (x + IntKind.i64.wrap (k.tmod (5:Int))))).length :
 Int)) /\
 ((IntKind.i64.wrap (IntKind.u8.wrap (k.tdiv (5:Int)))).tmod (↑(z1y p d).sup.length:Int)).toNat <
 ((z1y p d).sup.set ((IntKind.i64.wrap k).tmod (↑(z1y p d).sup.length:Int)).toNat
 (IntKind.i64.wrap (x + IntKind.i64.wrap (k.tmod (5:Int))))).length /\
 ((True/\True/\True)/\True) /\
 ((z1y p d).sup.set ((IntKind.i64.wrap k).tmod (↑(z1y p d).sup.length:Int)).toNat
 (IntKind.i64.wrap (x + IntKind.i64.wrap (k.tmod (5:Int))))).set
 ((IntKind.i64.wrap (IntKind.u8.wrap (k.tdiv (5:Int)))).tmod (↑(z1y p d).sup.length:Int)).toNat
 (IntKind.i64.wrap (x_1 - IntKind.i64.wrap (k.tmod (5:Int)))) =
 (z00 p d k).sup /\
 (z1y p d).arcs = (z00 p d k).arcs/\True
theorem Small_q (p:List Int) (d:List Int) (k:Int) (ty0 ty1:TypeId):Small_E0 p d k ty0 ty1 = z3p TT Small_g (Small_I p d k) (Small_an p d k) Try.f22 [.row 0,.row 1,.int .u8 k] [(0,.row false ty0 (.ints .u8 p)),(1,.row false ty1 (.ints .u8 d))] (Small_r p d k):=by kernel_rfl
theorem Small_E (p:List Int) (d:List Int) (k:Int) (ty0 ty1:TypeId) (hp:Bytes p/\Bytes d/\p.length <= maxLen/\d.length <= maxLen/\0 <= k/\k <= 255):FVc TT Small_g (Small_I p d k) (Small_an p d k) Try.f22 [.row 0,.row 1,.int .u8 k] [(0,.row false ty0 (.ints .u8 p)),(1,.row false ty1 (.ints .u8 d))] (Small_r p d k):=by
 refine FVc.of (Small_E0 p d k ty0 ty1) (Small_q p d k ty0 ty1) ?_
 unfold Small_E0
 simp only [eq_self,exists_const,forall_const,decide_eq_true_eq,decide_eq_false_iff_not,and_true,true_and,bne_iff_ne,ne_eq,bne_eq_false_iff_eq,Int.toNat_natCast,Bool.not_eq_true',Bool.not_eq_false',beq_iff_eq,beq_eq_false_iff_ne,z09]
 obtain ⟨p1,p2,p3,p4,k0,k1⟩:=hp
 have l1:=instF_sup p d
 have l2:=zha d
 have l3:=nOf_le d
 have hw:=zis p d
 have e1:IntKind.i64.wrap k = k:=w64 (by omega) (by omega)
 have e2:IntKind.i64.wrap (IntKind.u8.wrap (k.tdiv 5)) = k / 5:=by rw [Int.tdiv_eq_ediv_of_nonneg k0,wu8 (by omega) (by omega),w64 (by omega) (by omega)]
 have e3:IntKind.i64.wrap (k.tmod 5) = k % 5:=by rw [Int.tmod_eq_emod_of_nonneg k0,w64 (by omega) (by omega)]
 rw [e1,e2,e3]
 show _
 unfold z00
 dsimp only
 generalize (z1y p d).sup = s at *
 have hm:∀ x:Int,0 <= x->x.tmod (s.length:Int) = ((x % (s.length:Int)).toNat:Nat)/\(x % (s.length:Int)).toNat < s.length:=fun x hx=>by
  have:=Int.emod_nonneg x (b:=(s.length:Int)) (by omega)
  have:=Int.emod_lt_of_pos x (b:=(s.length:Int)) (by omega)
  rw [Int.tmod_eq_emod_of_nonneg hx]
  omega
 have m1:=hm k k0
 have m2:=hm (k / 5) (by omega)
 rw [m1.1,m2.1]
 unfold turnS
 generalize (k % (s.length:Int)).toNat = i at *
 generalize (k / 5 % (s.length:Int)).toNat = j at *
 simp only [Int.toNat_natCast,List.length_set]
 refine ⟨⟨p1,p2,p3,p4⟩,by omega,by omega,by omega,fun x hx=>⟨by omega,by omega,by omega,by omega,by omega,by omega,by omega,fun y hy=>⟨by omega,by omega,by omega,?_,trivial⟩⟩⟩
 have hx2:=hw x (List.mem_of_getElem? hx)
 have hs1:IntKind.i64.wrap (x + k % 5) = x + k % 5:=w64 (by omega) (by omega)
 rw [hs1,zfm hx] at hy ⊢
 have hw1:=hw.addAt (by omega) i (x:=k % 5) (y:=4) (by omega) (by omega)
 have hy2:=hw1 y (List.mem_of_getElem? hy)
 rw [w64 (by omega) (by omega),show y - k % 5 = y + -(k % 5) by omega,zfm hy]
theorem zem:SpecOk Try.prog zgr true (z04 true z9b) :=
 z0b z0v (show z1w Try.prog Small_g from z02 Inst_ok (z06)) (by kernel_rfl) mixedOrders Try.func22 rfl rfl (by kernel_rfl) (n:=3) (by decide +kernel) (I:=Small_IA) (fun _ _=>z07) (A:=Small_A)
  (fun args h r hr=>by
   unfold z9b at hr
   split at hr
   ·rename_i k ty0 p ty1 d; cases hr; refine ⟨rfl,fun hp=>?_⟩; have hE:=Small_E p d k ty0 ty1 hp; exact hE
   ·cases hr)
def zie (I : Inst) (ty0 ty1 : TypeId) : Prop :=
      (z03 I = (0:Int)->SmallI I) /\
 ∀ (g:Cert × Int),
 SolveP I g.1 g.2 ->
 (z5r { kind:=g.1.kind,flow:=g.1.flow,pot:=g.1.pot,side:=g.1.side,cycle:=g.1.cycle:Cert }/\zae I) /\
 (∃ (g_1:Wide × Int),
 ValueP I g_1.1 g_1.2 /\
 ((((z28 I { kind:=g.1.kind,flow:=g.1.flow,pot:=g.1.pot,side:=g.1.side,cycle:=g.1.cycle:Cert }).hi = g_1.1.hi /\
 (z28 I { kind:=g.1.kind,flow:=g.1.flow,pot:=g.1.pot,side:=g.1.side,cycle:=g.1.cycle:Cert }).lo = g_1.1.lo/\True) /\
 g.1.kind = g_1.2/\True) /\
 True) /\
 True) /\
 ∃ (g_1:Wide × Int),
 ValueP I g_1.1 g_1.2 /\
 ((((z28 I { kind:=g.1.kind,flow:=g.1.flow,pot:=g.1.pot,side:=g.1.side,cycle:=g.1.cycle:Cert }).hi = g_1.1.hi /\
 (z28 I { kind:=g.1.kind,flow:=g.1.flow,pot:=g.1.pot,side:=g.1.side,cycle:=g.1.cycle:Cert }).lo = g_1.1.lo/\True) /\
 g.1.kind = g_1.2/\True) /\
 True) /\
 True
theorem value20_q (I:Inst) (ty0 ty1:TypeId):zie I ty0 ty1 = zad TT zol (value20_I I) (value20_an I) Try.f23 [.agg [.row 0,.row 1]] [(0,.row false ty0 (.ints .i64 I.sup)),(1,.row false ty1 (.arcs I.arcs))] (zom I):=by kernel_rfl
theorem value20_E (I:Inst) (ty0 ty1:TypeId) (hp:z03 I = 0/\SmallI I):FVcR TT zol (value20_I I) (value20_an I) Try.f23 [.agg [.row 0,.row 1]] [(0,.row false ty0 (.ints .i64 I.sup)),(1,.row false ty1 (.arcs I.arcs))] (zom I):=by
 refine FVcR.of (zie I ty0 ty1) (value20_q I ty0 ty1) ?_
 unfold zie
 simp only [eq_self,exists_const,forall_const,decide_eq_true_eq,decide_eq_false_iff_not,and_true,true_and,bne_iff_ne,ne_eq,bne_eq_false_iff_eq,Int.toNat_natCast,Bool.not_eq_true',Bool.not_eq_false',beq_iff_eq,beq_eq_false_iff_ne,z09]
 obtain ⟨hr,hsm⟩:=hp
 refine ⟨fun _=>hsm,?_⟩
 rintro ⟨c,e⟩ hS
 obtain ⟨q1,q2,q3⟩:=zg6 hr hS
 have hE:∃ g:Wide × Int,ValueP I g.1 g.2/\((z28 I c).hi = g.1.hi/\(z28 I c).lo = g.1.lo)/\c.kind = g.2:=⟨(z28 I c,c.kind),value_of hr hS,⟨rfl,rfl⟩,rfl⟩
 exact ⟨⟨q1,inst_ok hr⟩,hE,hE⟩
theorem zcq:SpecOk Try.prog zc1 true (z0u true z6z) :=
 z3o z0v (show z1w Try.prog zol from z02 Solve_ok (z02 zkq (z06))) (by kernel_rfl) mixedOrders Try.func23 rfl rfl (by kernel_rfl) (n:=1) (by decide +kernel) (I:=value20_IA) (fun _ _=>z07) (A:=value20_A)
  (fun args h r hr=>by
   unfold z6z at hr
   split at hr
   ·rename_i ty0 I_s ty1 I_a; cases hr; refine ⟨rfl,fun hp=>?_⟩; have hE:=value20_E ⟨I_s,I_a⟩ ty0 ty1 hp; exact hE
   ·cases hr)
end Go.Proofs.Ytggblkbecekbdaa
end
section
namespace Go.Ql
open Go Go.Vc
theorem z34 {I:Inst} {x:List Int} (hx:A64 x):z1g I x = 0 ↔ z03 I = 0/\x.length = I.arcs.length/\Betw I x/\∀ v:Nat,v < I.sup.length->z2d I.sup.length I.arcs x I.arcs.length v = I.sup.getD v 0:=by
 constructor
 ·intro h
  obtain ⟨hr,hl,ha,-⟩:=fitsF_zero.1 h
  have hs:=z0c hr
  refine ⟨hr,hl,fun a hal=>?_,fits_net (by omega) hx (z1v hr).1 h⟩
  obtain ⟨hget,hm⟩:=z48 hal
  have:=fitsAll_iff.1 ha a _ hget
  unfold fitF at this
  rw [Bool.and_eq_true,Bool.or_eq_true,decide_eq_true_eq,decide_eq_true_eq,decide_eq_true_eq] at this
  exact this
 ·rintro ⟨hr,hl,hb,hn⟩
  refine zls hr (o:=List.replicate I.sup.length 0) ⟨by simp,hl,fun v hv=>?_⟩ hb fun v hv=>?_
  ·rw [hn v hv,List.getD_eq_getElem?_getD,List.getElem?_replicate,if_pos hv]; simp
  ·rw [List.getD_eq_getElem?_getD,List.getElem?_replicate,if_pos hv]; rfl
theorem turns_char {I:Inst} {l:List Int}:z46 I l = 0 ↔ z03 I = 0/\1 <= l.length/\l.length <= I.arcs.length/\(∀ a ∈ l,0 <= a/\a < I.arcs.length)/\l.Nodup/\(∀ k,k < l.length->(z2p I (l.getD k 0)).dst = (z2p I (l.getD ((k + 1) % l.length) 0)).src)/\(∀ a ∈ l,(z2p I a).cap = inf)/\rayS I l < 0:=by
 have hc5:z03 I = 0->l.length <= I.arcs.length->(c5F I l = true ↔ rayS I l < 0):=fun hr hl=>by
  have hs:=z0c hr
  have e2:=rayK_bd hr l l.length
  unfold c5F
  rw [decide_eq_true_eq]
  unfold rayS at *
  rw [za8 (by unfold zac; omega) (by unfold zac; omega)]
  by_cases h:rayK I l l.length < 0
  ·rw [if_pos h]; simp [h]
  ·rw [if_neg h]; split <;> simp [h]
 unfold z46
 constructor
 ·intro h
  split at h
  ·rename_i hn; exact absurd h hn
  ·rename_i hr
   have hr:=Classical.byContradiction hr
   split at h
   ·cases h
   ·rename_i hl
    split at h
    ·rename_i hc
     simp only [Bool.and_eq_true] at hc
     obtain ⟨⟨⟨⟨c1,c2⟩,c3⟩,c4⟩,c5⟩:=hc
     refine ⟨hr,by omega,by omega,fun a ha=>isArcF_iff.1 (List.all_eq_true.1 c1 a ha),of_decide_eq_true c2,fun k hk=>of_decide_eq_true (List.all_eq_true.1 c3 k (List.mem_range.2 hk)),fun a ha=>of_decide_eq_true (List.all_eq_true.1 c4 a ha),(hc5 hr (by omega)).1 c5⟩
    ·cases h
 ·rintro ⟨hr,h1,h2,c1,c2,c3,c4,c5⟩
  have e1:c1F I l = true:=List.all_eq_true.2 fun a ha=>isArcF_iff.2 (c1 a ha)
  have e2:c2F l = true:=decide_eq_true c2
  have e3:c3F I l = true:=List.all_eq_true.2 fun k hk=>decide_eq_true (c3 k (List.mem_range.1 hk))
  have e4:c4F I l = true:=List.all_eq_true.2 fun a ha=>decide_eq_true (c4 a ha)
  rw [if_neg (fun h=>h hr),if_neg (by omega),e1,e2,e3,e4,(hc5 hr h2).2 c5]
  rfl
def z1k {α:Type} (f:α->α) (s:List α) (k:Nat):List α:=(s.take k).map f ++ s.drop k
section
variable {α:Type} (f:α->α) (s:List α)
theorem z98:z1k f s 0 = s:=by simp [z1k]
theorem z97 (k:Nat):(z1k f s k).length = s.length:=by simp [z1k]; omega
theorem zbu {k:Nat} (h:s.length <= k):z1k f s k = s.map f:=by unfold z1k; rw [List.take_of_length_le h,List.drop_eq_nil_of_le h,List.append_nil]
variable {f s}
theorem zbv {k:Nat} {x:α} (h:(z1k f s k)[k]? = some x):s[k]? = some x:=by
 have hk:=(List.getElem?_eq_some_iff.1 h).1
 rw [z97] at hk
 unfold z1k at h
 rw [List.getElem?_append_right (by simp; omega)] at h
 rw [List.length_map,List.length_take,Nat.min_eq_left (by omega),Nat.sub_self,List.getElem?_drop,Nat.add_zero] at h
 exact h
theorem zbw {k:Nat} {x y:α} (h:s[k]? = some x) (hy:y = f x):(z1k f s k).set k y = z1k f s (k + 1):=by
 have hk:=(List.getElem?_eq_some_iff.1 h).1
 subst hy
 have hl:((s.take k).map f).length = k:=by simp; omega
 unfold z1k
 rw [List.set_append_right _ _ (by omega),hl,Nat.sub_self,z5d h,List.set_cons_zero,z2h h,List.map_append]
 simp
end
def z7o (a:Arc):Arc:=⟨a.dst,a.src,a.low,a.cap,a.cost⟩
def z4s (I:Inst):Inst:=⟨I.sup.map fun y=>-y,I.arcs.map z7o⟩
theorem zoi (I:Inst):z4s (z4s I) = I:=by
 obtain ⟨s,l⟩:=I
 unfold z4s
 simp only [List.map_map]
 congr 1
 ·exact (List.map_congr_left fun y _=>Int.neg_neg y).trans (List.map_id s)
 ·exact (List.map_congr_left fun y _=>rfl).trans (List.map_id l)
theorem sum_neg:∀ s:List Int,(s.map fun y=>-y).sum = -s.sum
 | []=>rfl
 | y :: s=>by rw [List.map_cons,List.sum_cons,List.sum_cons,sum_neg s]; omega
theorem zgf {I:Inst} (h:FewI I):FewI (z4s I):=by
 refine ⟨by simpa [z4s] using h.n1,by simpa [z4s] using h.n2,by simpa [z4s] using h.m,fun a ha=>?_,fun y hy=>?_,by unfold z4s; dsimp only; rw [sum_neg,h.sum]; rfl⟩
 ·unfold z4s at ha ⊢
  dsimp only at ha ⊢
  obtain ⟨b,hb,rfl⟩:=List.mem_map.1 ha
  have:=h.arc b hb
  rw [List.length_map]
  exact ⟨this.d0,this.d1,this.s0,this.s1,this.l0,this.l1,this.c,this.k0,this.k1⟩
 ·unfold z4s at hy
  obtain ⟨z,hz,rfl⟩:=List.mem_map.1 hy
  have:=h.sup z hz
  omega
theorem z11 {f:Arc->Arc} {l:List Arc} {k:Nat} (h:k < l.length):(l.map f).getD k default = f (l.getD k default):=by
 rw [List.getD_eq_getElem?_getD,List.getElem?_map,List.getD_eq_getElem?_getD,List.getElem?_eq_getElem h]; rfl
theorem zio {f:Int->Int} {l:List Int} {k:Nat} (h:k < l.length):(l.map f).getD k 0 = f (l.getD k 0):=by
 rw [List.getD_eq_getElem?_getD,List.getElem?_map,List.getD_eq_getElem?_getD,List.getElem?_eq_getElem h]; rfl
theorem flowD_swap (n:Int) (a:Arc) (f v:Int):z3q n (z7o a) f v = -(z3q n a f v):=by
 unfold z3q
 have e:z2l n (z7o a) = z2l n a:=by unfold z2l z7o; dsimp only; rw [Bool.and_comm]
 rw [e]
 unfold z7o
 dsimp only
 split <;> omega
theorem netK_swap (n:Int) (l:List Arc) (x:List Int) (v:Int):∀ k,k <= l.length->z2d n (l.map z7o) x k v = -(z2d n l x k v)
 | 0,_=>rfl
 | k + 1,h=>by
  rw [z2d,z2d,netK_swap n l x v k (by omega),z11 (by omega),flowD_swap]; omega
theorem costK_map {f:Arc->Arc} (hf:∀ a,(f a).cost = a.cost) (l:List Arc) (x:List Int):∀ k,k <= l.length->z1n (l.map f) x k = z1n l x k
 | 0,_=>rfl
 | k + 1,h=>by
  rw [z1n,z1n,costK_map hf l x k (by omega),z11 (by omega),hf]
theorem zoj {I:Inst} (h:FewI I) {x:List Int} (hx:A64 x) (hf:z1g I x = 0):z1g (z4s I) x = 0/\z3v (z4s I) x = z3v I x:=by
 obtain ⟨hr,hl,hb,hn⟩:=(z34 hx).1 hf
 refine ⟨(z34 hx).2 ⟨(zgf h).right,by simpa [z4s] using hl,fun a ha=>?_,fun v hv=>?_⟩,?_⟩
 ·have ha2:a < I.arcs.length:=by simpa [z4s] using ha
  have e:z18 (z4s I) a = z7o (z18 I a):=z11 ha2
  rw [e]
  exact hb a ha2
 ·have hv2:v < I.sup.length:=by simpa [z4s] using hv
  unfold z4s
  dsimp only
  rw [List.length_map,List.length_map,netK_swap _ _ _ _ _ (Nat.le_refl _),hn v hv2,zio hv2]
 ·unfold z3v z4s
  dsimp only
  rw [List.length_map,costK_map (f:=z7o) (fun _=>rfl) _ _ _ (Nat.le_refl _)]
theorem turn_neg {I:Inst} (h:FewI I):NegQ I->NegQ (z4s I):=fun ⟨l,hl,hll⟩=>by
 obtain ⟨hr,l1,l2,c1,c2,c3,c4,c5⟩:=turns_char.1 hl
 have hat:∀ a:Int,0 <= a->a < I.arcs.length->z2p (z4s I) a = z7o (z2p I a):=fun a h0 h1=>z11 (by omega)
 have hlen:(z4s I).arcs.length = I.arcs.length:=by simp [z4s]
 have hrev:∀ j,j < l.length->l.reverse.getD j 0 = l.getD (l.length - 1 - j) 0:=fun j hj=>by
  rw [List.getD_eq_getElem?_getD,List.getElem?_reverse hj,List.getD_eq_getElem?_getD]
 have hmem:∀ j,j < l.length->l.getD j 0 ∈ l:=fun j hj=>by
  rw [List.getD_eq_getElem?_getD,List.getElem?_eq_getElem hj]; exact List.getElem_mem hj
 refine ⟨l.reverse,turns_char.2 ⟨(zgf h).right,by simpa using l1,by rw [List.length_reverse,hlen]; exact l2,fun a ha=>by rw [hlen]; exact c1 a (List.mem_reverse.1 ha),?_,fun k hk=>?_,fun a ha=>?_,?_⟩,by simpa using hll⟩
 ·unfold List.Nodup
  rw [List.pairwise_reverse]
  exact List.Pairwise.imp (fun h=>h.symm) c2
 ·rw [List.length_reverse] at hk ⊢
  have hk2:(k + 1) % l.length < l.length:=Nat.mod_lt _ (by omega)
  rw [hrev k hk,hrev _ hk2]
  have m1:=c1 _ (hmem (l.length - 1 - k) (by omega))
  have m2:=c1 _ (hmem (l.length - 1 - (k + 1) % l.length) (by omega))
  rw [hat _ m1.1 m1.2,hat _ m2.1 m2.2]
  have:=c3 (l.length - 1 - (k + 1) % l.length) (by omega)
  have e:(l.length - 1 - (k + 1) % l.length + 1) % l.length = l.length - 1 - k:=by
   by_cases hk3:k + 1 < l.length
   ·rw [Nat.mod_eq_of_lt hk3,show l.length - 1 - (k + 1) + 1 = l.length - 1 - k by omega,Nat.mod_eq_of_lt (by omega)]
   ·have:k + 1 = l.length:=by omega
    rw [this,Nat.mod_self,show l.length - 1 - 0 + 1 = l.length by omega,Nat.mod_self]
    omega
  rw [e] at this
  exact this.symm
 ·have ha:=List.mem_reverse.1 ha
  rw [hat a (c1 a ha).1 (c1 a ha).2]
  exact c4 a ha
 ·rw [z5j,List.map_reverse,sum_rev]
  rw [z5j] at c5
  have:l.map (zjy (z4s I)) = l.map (zjy I):=List.map_congr_left fun a ha=>by
   unfold zjy
   have e:zd8 (z4s I) a = zd8 I a:=by unfold zd8; rw [hlen]
   rw [e,hat a (c1 a ha).1 (c1 a ha).2]
   rfl
  rw [this]; exact c5
theorem turned_law {I:Inst} (h:FewI I) {v w:Wide} {i j:Int} (h1:ValueP I v i) (h2:ValueP (z4s I) w j):i = j/\0 < i/\v = w:=by
 have h':=zgf h
 obtain ⟨e1,e2,e3,e4⟩:=value_map h1 h2 (S:=0) (fun x hx=>⟨fun hf=>(zoj h hx hf).1,fun hf=>by have:=(zoj h' hx hf).1; rwa [zoi] at this⟩) (fun x hx hf=>by rw [(zoj h hx hf).2]; omega) ⟨turn_neg h,fun hn=>by have:=turn_neg h' hn; rwa [zoi] at this⟩
 refine ⟨e1,e2,?_⟩
 by_cases hi:i = 1
 ·obtain ⟨t,rfl,rfl⟩:=e3 hi
  rw [Int.add_zero]
 ·rw [(e4 hi).1,(e4 hi).2]
end Go.Ql
end
section
namespace Go.Proofs.Ytggblkbecekbdaa
open Go Go.RowKit Go.Ql Go.Draw
end Go.Proofs.Ytggblkbecekbdaa
end
section
section
namespace Go.Ql
open Go Go.RowKit Go.ChangeShapes Go.WideShapes Go.ChangeAt Go.Deep
section
variable {H:Type} {enc:TypeId × Value->H} {P:Program}
theorem addr_plain {w:World} {a:Addr} {v:Value} (h:w.cell? a = some v):a = ⟨a.block,a.off,none⟩/\a.block < w.heap.size:=by
 refine ⟨?_,World.block_lt_of_cell? w a h⟩
 obtain ⟨b,o,s⟩:=a
 cases s with
 | none=>rfl
 | some s =>
  exfalso
  unfold World.cell? at h
  split at h <;> simp at h
theorem add_plain (b o i:Nat):(⟨b,o,none⟩:Addr).add i = ⟨b,o + i,none⟩:=by
 unfold Addr.add
 split
 ·rename_i h; simp_all
 ·rfl
theorem z3n {W:World} {base:Nat} {r:Reach} {b0:Nat} {t e:TypeId} {k:IntKind} {v:Value} {d:DataW H} {p:List MemPlace} (ht:P.underlying t = some (.slice e)) (he:P.underlying e = some (.int k)) (hc:P.cellsOf e = 1)
  (hv:Value.okWide P W r b0 t v) (h:DataW.Trod enc P W base (fun _=>true) true t v d p) :
  ∃ A c xs,v = .slice A xs.length c/\(RowR (Value.int k) W W.heap.size A xs/\xs.length <= c)/\xs.length <= maxLen/\∀ x ∈ xs,(Lit.int k x).wf = true:=by
 obtain ⟨a0,len,cap,rfl⟩:=okWide_slice ht hv
 obtain ⟨fuel,hf⟩:=h
 rcases open_ints ht he hc hf with ⟨hcs,_⟩ | ⟨a,len',cap',zs,hcs,_,hl,hm,hz,_,hcell,hwz⟩
 ·simp [Value.cells] at hcs
  obtain ⟨rfl,rfl,rfl⟩:=hcs
  exact ⟨none,0,[],rfl,⟨RowR.nil,by simp⟩,by simp,by simp⟩
 ·simp [Value.cells] at hcs
  obtain ⟨rfl,rfl,rfl⟩:=hcs
  simp only [if_true] at hz
  have hlen:(zs.take len).length = len:=by simp; omega
  refine ⟨some a,cap,zs.take len,by rw [hlen],⟨fun h0=>?_,by omega⟩,by omega,fun x hx=>hwz x (List.mem_of_mem_take hx)⟩
  have h1:=hcell 0 (by omega)
  have hz0:a.add 0 = a:=by unfold Addr.add; simp
  rw [hz0] at h1
  obtain ⟨e1,e2⟩:=addr_plain h1
  refine ⟨a.block,a.off,by rw [<- e1],e2,fun i x hx=>?_⟩
  rw [List.getElem?_take] at hx
  split at hx
  ·have h2:=hcell i (by omega)
   rw [e1,add_plain] at h2
   rw [h2]
   simp [List.getD,hx]
  ·cases hx
theorem zge {W W':World} (hl:laidOutB P = true) (hb:Below W.heap.size W W'):∀ (ts:List TypeId) (vs:List Value) (ds:List (DataW H)) (ps:List MemPlace),(ts.all fun t=>P.readableRec t && decide (t < P.types.size)) = true ->
  (∀ x ∈ ps,x.block < W.heap.size)->DataW.TrodAll enc P W 0 (fun _=>true) true ts vs ds ps->∀ sp:Nat->Bool,(∀ x ∈ ps,sp x.block = true)->DataW.TrodAll enc P W' 0 sp true ts vs ds ps
 | [],vs,ds,ps,_,_,h,_,_=>by
  cases vs <;> cases ds <;> simp [DataW.TrodAll] at h ⊢
  exact h
 | t :: ts,vs,ds,ps,hr,hlt,h,sp,hsp=>by
  obtain ⟨v,vs',d,ds',p,q,rfl,rfl,rfl,h1,h2⟩:=trodAll_cons h
  simp only [List.all_cons,Bool.and_eq_true,decide_eq_true_eq] at hr
  refine ⟨p,q,?_,zge hl hb ts vs' ds' q (by simpa using hr.2) (fun x hx=>hlt x (by simp [hx])) h2 sp (fun x hx=>hsp x (by simp [hx])),rfl⟩
  exact WideElems.Trod_stays hl hr.1.1 hr.1.2 h1 (fun x hx=>hb.same (hlt x (by simp [hx]))) (fun x hx=>hsp x (by simp [hx]))
theorem zf2 {f:Func} {s:ChangeSpec} {W W':World} {args:Array Value} {ds gs:List (DataW H)} {before:List MemPlace} {tb:TypeId} (hl:laidOutB P = true)
  (hW:DataW.Whole enc P f.params.toList s.vars false W args.toList ds gs before) (hvars:s.vars = []) (hres:f.resultTypes = #[tb]) (htb:P.underlying tb = some .bool)
  (hr:(f.params.toList.all fun t=>P.readableRec t && decide (t < P.types.size)) = true)
  (hfn:s.fn H ds = { results:=[.lit (.bool true)],args:=ds }) (hb:Below W.heap.size W W') :
  s.post enc P f false true false false W args (.bool true) W':=by
 have hW':=hW
 have hlt:∀ p ∈ before,p.block < W.heap.size:=fun p hp=>hW.lt p hp
 obtain ⟨pa,pv,hA,hV,hps,hz,hn⟩:=hW
 rw [hvars] at hV
 obtain ⟨rfl,rfl⟩:=trodVars_none hV
 rw [List.append_nil] at hps
 subst hps
 have hargs:∀ sp:Nat->Bool,(∀ p ∈ before,sp p.block = true)->DataW.TrodAll enc P W' 0 sp true f.params.toList args.toList ds before:=fun sp hsp =>
  zge hl hb _ _ _ _ hr hlt hA sp hsp
 have hres':∀ (b:Nat) (sp:Nat->Bool) (hd:Bool),DataW.TrodAll enc P W' b sp hd f.resultTypes.toList ((Value.bool true).resultList f.resultTypes.size) [.lit (.bool true)] []:=fun b sp hd=>by
  rw [hres]
  exact trodAll_cons_mk (shut_bool htb _) trodAll_mk0
 have hf2:s.fn H (ds ++ []) = { results:=[.lit (.bool true)],args:=ds }:=by rw [List.append_nil]; exact hfn
 have hvr:∀ sp:Nat->Bool,DataW.TrodVars enc P W' sp s.vars (s.fn H (ds ++ [])).vars []:=fun sp=>by rw [hvars,hf2]; rfl
 have hold:∀ p ∈ before,(fun b=>decide (b < W.heap.size)) p.block = true:=fun p hp=>by simpa using hlt p hp
 refine ⟨ds,[],before,[],before,[],hW',by rw [hf2]; exact hres' _ _ _,by rw [hf2]; exact hargs _ hold,hvr _,World.keptBut_mono (fun p hp=>⟨hp,?_⟩) (hb.frame (· ∈ before)),fun h=>by cases h⟩
 exact .inr (by simpa using hp)
end
end Go.Ql
end
section
namespace Go.Ql
open Go Go.RowKit
theorem zde {n:Int} (h:(Lit.int .u8 n).wf = true):0 <= n/\n <= 255:=by simpa [Lit.wf,IntKind.min,IntKind.max,IntKind.signed,IntKind.bits] using h
theorem wf1_i8 {n:Int} (h:(Lit.int .i8 n).wf = true):-128 <= n/\n <= 127:=by simpa [Lit.wf,IntKind.min,IntKind.max,IntKind.signed,IntKind.bits] using h
theorem zgi {c:List Int} (h:∀ x ∈ c,(Lit.int .u8 x).wf = true):Bytes c:=fun x hx=>zde (h x hx)
end Go.Ql
namespace Go.Proofs.Ytggblkbecekbdaa
open Go Go.RowKit Go.Ql
theorem zfa:ownKnob Try.prog.godebug = none:=by kernel_rfl
theorem zf1:laidOutB Try.prog = true:=by kernel_rfl
end Go.Proofs.Ytggblkbecekbdaa
end
section
namespace Go.Ql
open Go Go.RowKit Go.ChangeShapes Go.WideShapes Go.ChangeAt Go.Deep
section
variable {H:Type} {enc:TypeId × Value->H} {P:Program}
theorem slice_small {W:World} {base:Nat} {t e:TypeId} {fuel n c:Nat} {A:Option Addr} {x:DataW H × List MemPlace} {sp:Nat->Bool} {hd:Bool} (ht:P.underlying t = some (.slice e)) (hb:1 <= P.bytesOf e)
  (h:DataW.trod enc P W base sp hd fuel t [.slice A n c] = some x) (hz:(x.1.weights P t).all (· <= reachBytes) = true):n <= 140737488351232:=by
 rcases DataW.trod_slice ht h with ⟨hcs,_⟩ | ⟨a,len,cap,elems,rest,m,_,hcs,rfl,_,_,_,hlen,_⟩
 ·simp at hcs; omega
 ·simp only [List.cons.injEq,Value.slice.injEq,and_true] at hcs
  obtain ⟨_,rfl,_⟩:=hcs
  simp only [DataW.weights,ht,List.all_cons,Bool.and_eq_true,decide_eq_true_eq,List.length_map,hlen] at hz
  have h1:=hz.1
  have h2:n <= n + rest.length:=Nat.le_add_right _ _
  have h3:(n + rest.length) * 1 <= (n + rest.length) * P.bytesOf e:=Nat.mul_le_mul_left _ hb
  unfold reachBytes at h1
  omega
theorem z1t {W:World} {base:Nat} {t e:TypeId} {n c:Nat} {A:Option Addr} {d:DataW H} {p:List MemPlace} {sp:Nat->Bool} {hd:Bool} (ht:P.underlying t = some (.slice e)) (hb:1 <= P.bytesOf e)
  (h:DataW.Trod enc P W base sp hd t (.slice A n c) d p) (hz:(d.weights P t).all (· <= reachBytes) = true):n <= 140737488351232:=by
 obtain ⟨fuel,hf⟩:=h
 exact slice_small ht hb hf hz
theorem z0m {t:TypeId} {ts vt:List TypeId} {d:DataW H} {ds gs:List (DataW H)} (h:(DataW.weightsEach P ((t :: ts) ++ vt) ((d :: ds) ++ gs)).all (· <= reachBytes) = true) :
  (d.weights P t).all (· <= reachBytes) = true/\(DataW.weightsEach P (ts ++ vt) (ds ++ gs)).all (· <= reachBytes) = true:=by
 simpa only [List.cons_append,DataW.weightsEach,List.all_append,Bool.and_eq_true] using h
end
end Go.Ql
namespace Go.Proofs.Ytggblkbecekbdaa
open Go Go.RowKit Go.Ql
end Go.Proofs.Ytggblkbecekbdaa
end
end
