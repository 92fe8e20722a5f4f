/- Part of the proof: DP11, FP11, DQ11, FQ11, DR12, FR12, DS12, FS12, DK13, FK13, DL13, FL13, DM13, FM13, DN20, FN20. -/
import Derived.Test.YtggblkbecekbdaaGreatZG10
import Derived.Test.YtggblkbecekbdaaGreatZG6
import Derived.Test.YtggblkbecekbdaaGreatZG5
import Derived.Test.YtggblkbecekbdaaGreatZG7
set_option linter.all false
set_option linter.unusedSimpArgs false
set_option linter.unusedVariables false
set_option maxRecDepth 1000000
section
namespace Go.Proofs.YtggblkbecekbdaaGreat
open Go Go.RowKit Go.Ql Go.Vc
def zga (I:Inst) (pot:List Int) (a:Int):FRes:={ pre:=A64 pot/\A64c I.arcs,res:=.agg (z0v (W (redF I pot a))),rows:=[],eff:=[] }
def zc9:FS:=fun args h=>match args,h with
 | [.agg [.row 0,.row 1],.row 2,.int .i64 a],[(0,.row false ty0 (.ints .i64 I_s)),(1,.row false ty1 (.arcs I_a)),(2,.row false ty2 (.ints .i64 pot))]=>some (zga ⟨I_s,I_a⟩ pot a)
 | _,_=>none
def zly (I:Inst) (pot:List Int) (a:Int):List (Nat × Ann):=[]
def rReduced_A:List SV->z0d->List (Nat × Ann):=fun _ _=>[]
def zg9:z0c:=[(rArc_n,(true,z03 true rArc_fs)),(zi7,(true,z03 true z9y)),(rOf_n,(true,z03 true zhd)),(At_n,(true,z03 true At_fs)),(z9z,(true,z03 true z63))]
abbrev rReduced_n:Nat:=89
def rReduced_I (I:Inst) (pot:List Int) (a:Int):List (Nat × z08):=[]
def rReduced_IA:List SV->z0d->List (Nat × z08):=fun _ _=>[]
def rSlack_r (I:Inst) (x:List Int) (pot:List Int):FRes:={ pre:=I.sup.length <= 10000/\I.arcs.length <= 10000/\A64 x/\A64 I.sup/\A64 pot/\A64c I.arcs,res:=.int .i64 (z1l I x pot),rows:=[],eff:=[] }
def zm5:FS:=fun args h=>match args,h with
 | [.agg [.row 0,.row 1],.row 2,.row 3],[(0,.row false ty0 (.ints .i64 I_s)),(1,.row false ty1 (.arcs I_a)),(2,.row false ty2 (.ints .i64 x)),(3,.row false ty3 (.ints .i64 pot))]=>some (rSlack_r ⟨I_s,I_a⟩ x pot)
 | _,_=>none
def zm4 (I:Inst) (x:List Int) (pot:List Int):List (Nat × Ann):=[(7,{ G:=(Nat),inv:=fun k=>⟨[(1,.row 2),(2,.row 3),(3,.ptr 4 0 0 0),(8,.int .i64 k)],[(4,.box true 25 [.row 0,.row 1]),(0,.row false 0 (.ints .i64 I.sup)),(1,.row false 0 (.arcs I.arcs)),(2,.row false 0 (.ints .i64 x)),(3,.row false 0 (.ints .i64 pot))],5⟩,rel:=fun k0 k=>k <= I.arcs.length/\∀ j,j<k->z45 I x pot j=true,meas:=fun k=>I.arcs.length - k })]
def rSlack_A:List SV->z0d->List (Nat × Ann):=fun args h=>match args,h with
 | [.agg [.row 0,.row 1],.row 2,.row 3],[(0,.row false ty0 (.ints .i64 I_s)),(1,.row false ty1 (.arcs I_a)),(2,.row false ty2 (.ints .i64 x)),(3,.row false ty3 (.ints .i64 pot))]=>zm4 ⟨I_s,I_a⟩ x pot
 | _,_=>[]
def rSlack_g:z0c:=[(rFits_n,(true,z03 true zi6)),(rReduced_n,(true,z03 true zc9)),(zau,(true,z03 true z6n))]
abbrev rSlack_n:Nat:=54
def rSlack_I (I:Inst) (x:List Int) (pot:List Int):List (Nat × z08):=[]
def rSlack_IA:List SV->z0d->List (Nat × z08):=fun _ _=>[]
end Go.Proofs.YtggblkbecekbdaaGreat
end
section
namespace Go.Proofs.YtggblkbecekbdaaGreat
open Go Go.RowKit Go.Ql Go.Vc
theorem at_ok {I:Inst} {pot:List Int} {a:Int} (h1:A64 pot) (h2:A64c I.arcs):I64 (atA I a).cost/\I64 (atF I pot a)/\I64 (atT I pot a):=by
 have z:I64 0:=by simp [I64]
 refine ⟨?_,?_,?_⟩
 ·unfold atA z2b
  split
  ·rename_i h
   unfold gOk at h
   simp only [Bool.and_eq_true,decide_eq_true_eq] at h
   have hl:a.toNat<I.arcs.length:=by omega
   rw [List.getD_eq_getElem?_getD,List.getElem?_eq_getElem hl]
   exact h2 _ (List.getElem_mem hl)
  ·exact z
 ·unfold atF
  split
  ·exact h1.getD _
  ·exact z
 ·unfold atT
  split
  ·exact h1.getD _
  ·exact z
abbrev z5e (I:Inst) (a:Int) (pot:List Int):=(((W (z2b (↑I.sup.length:Int) I.arcs a).cost).ok/\((W (if (0:Int) <= (z2b (↑I.sup.length:Int) I.arcs a).src then pot.getD (z2b (↑I.sup.length:Int) I.arcs a).src.toNat (0:Int) else (0:Int))).ok))/\(True/\(I64 (if (0:Int) <= (z2b (↑I.sup.length:Int) I.arcs a).dst then pot.getD (z2b (↑I.sup.length:Int) I.arcs a).dst.toNat (0:Int) else (0:Int))/\(((z3f (W (z2b (↑I.sup.length:Int) I.arcs a).cost) (W (if (0:Int) <= (z2b (↑I.sup.length:Int) I.arcs a).src then pot.getD (z2b (↑I.sup.length:Int) I.arcs a).src.toNat (0:Int) else (0:Int)))).ok/\((W (if (0:Int) <= (z2b (↑I.sup.length:Int) I.arcs a).dst then pot.getD (z2b (↑I.sup.length:Int) I.arcs a).dst.toNat (0:Int) else (0:Int))).ok))/\((((z3g (z3f (W (z2b (↑I.sup.length:Int) I.arcs a).cost) (W (if (0:Int) <= (z2b (↑I.sup.length:Int) I.arcs a).src then pot.getD (z2b (↑I.sup.length:Int) I.arcs a).src.toNat (0:Int) else (0:Int)))) (W (if (0:Int) <= (z2b (↑I.sup.length:Int) I.arcs a).dst then pot.getD (z2b (↑I.sup.length:Int) I.arcs a).dst.toNat (0:Int) else (0:Int)))).hi=(W (redF I pot a)).hi/\((z3g (z3f (W (z2b (↑I.sup.length:Int) I.arcs a).cost) (W (if (0:Int) <= (z2b (↑I.sup.length:Int) I.arcs a).src then pot.getD (z2b (↑I.sup.length:Int) I.arcs a).src.toNat (0:Int) else (0:Int)))) (W (if (0:Int) <= (z2b (↑I.sup.length:Int) I.arcs a).dst then pot.getD (z2b (↑I.sup.length:Int) I.arcs a).dst.toNat (0:Int) else (0:Int)))).lo=(W (redF I pot a)).lo/\True))/\True)/\True)))))
abbrev z6o (I:Inst) (a:Int) (pot:List Int):=(if (0:Int) <= (z2b (↑I.sup.length:Int) I.arcs a).src then pot.getD (z2b (↑I.sup.length:Int) I.arcs a).src.toNat (0:Int) else (0:Int))
def zc8 (I : Inst) (pot : List Int) (a : Int) (ty0 ty1 ty2 : TypeId) : Prop :=
   True/\((!gOk (↑I.sup.length:Int) I.arcs a)=true->(((0:Int)=(W (redF I pot a)).hi/\((0:Int)=(W (redF I pot a)).lo/\True))/\True)/\True)/\((!gOk (↑I.sup.length:Int) I.arcs a)=false->(I64 (z2b (↑I.sup.length:Int) I.arcs a).cost/\(True/\(I64 (z6o I a pot)/\(z5e I a pot)/\(z5e I a pot))/\(I64 (z6o I a pot)/\(z5e I a pot)))/\(True/\(I64 (z6o I a pot)/\(z5e I a pot))))/\(I64 (z2b (↑I.sup.length:Int) I.arcs a).cost/\(True/\(I64 (z6o I a pot)/\(z5e I a pot)))))
theorem rReduced_q (I:Inst) (pot:List Int) (a:Int) (ty0 ty1 ty2:TypeId):zc8 I pot a ty0 ty1 ty2=z2r TT zg9 (rReduced_I I pot a) (zly I pot a) Tryz.f89 [.agg [.row 0,.row 1],.row 2,.int .i64 a] [(0,.row false ty0 (.ints .i64 I.sup)),(1,.row false ty1 (.arcs I.arcs)),(2,.row false ty2 (.ints .i64 pot))] (zga I pot a):=by kernel_rfl
theorem rReduced_E (I:Inst) (pot:List Int) (a:Int) (ty0 ty1 ty2:TypeId) (hp:A64 pot/\A64c I.arcs):FVc TT zg9 (rReduced_I I pot a) (zly I pot a) Tryz.f89 [.agg [.row 0,.row 1],.row 2,.int .i64 a] [(0,.row false ty0 (.ints .i64 I.sup)),(1,.row false ty1 (.arcs I.arcs)),(2,.row false ty2 (.ints .i64 pot))] (zga I pot a):=by
 refine FVc.of (zc8 I pot a ty0 ty1 ty2) (rReduced_q I pot a ty0 ty1 ty2) ?_
 unfold zc8
 delta z6o z5e
 obtain ⟨p1,p2⟩:=hp
 have hk:=at_ok (a:=a) p1 p2
 simp only [eq_self,exists_const,forall_const,ne_eq,Int.toNat_natCast,zSS,z07]
 refine ⟨fun h=>?_,fun h=>?_⟩
 ·unfold redF; rw [h,if_neg (by decide),W_zero]; exact ⟨rfl,rfl⟩
 ·have ho:=gOk_ok h
  obtain ⟨o1,o2,o3,o4⟩:=okArc_iff.1 ho
  have e:z2b (I.sup.length:Int) I.arcs a=atA I a:=rfl
  have e1:atF I pot a=pot.getD (atA I a).src.toNat 0:=by unfold atF; rw [if_pos h]
  have e2:atT I pot a=pot.getD (atA I a).dst.toNat 0:=by unfold atT; rw [if_pos h]
  rw [e1,e2] at hk
  simp only [e,o1,o3,if_true,zif,zcw,redF,h,e1,e2,redA,and_self]
  exact ⟨hk.1,hk.2.1,⟨zey _,zey _⟩,hk.2.2,⟨zey _,zey _⟩,trivial⟩
theorem rReduced_ok:SpecOk Tryz.prog rReduced_n true (z03 true zc9) :=
 z0b z0r (show z1c Tryz.prog zg9 from z00 rArc_ok (z00 zlt (z00 rOf_ok (z00 At_ok (z00 z8o (z05)))))) (by kernel_rfl) mixedOrders Tryz.func89 rfl rfl (by kernel_rfl) (n:=3) (by decide +kernel) (I:=rReduced_IA) (fun _ _=>z06) (A:=rReduced_A)
  (fun args h r hr=>by
   unfold zc9 at hr
   split at hr
   ·rename_i a ty0 I_s ty1 I_a ty2 pot; cases hr; refine ⟨rfl,fun hp=>?_⟩; have hE:=rReduced_E ⟨I_s,I_a⟩ pot a ty0 ty1 ty2 hp; exact hE
   ·cases hr)
abbrev za1 (I:Inst) (g':Nat) (g:Nat) (x:List Int) (pot:List Int):=(I.arcs.length - g'<I.arcs.length - g/\((True/\(True/\(0=0/\(IntKind.i64.wrap ((↑g:Int)+(1:Int))=(↑g':Int)/\True))))/\((True/\(True/\True))/\(I.sup=I.sup/\(I.arcs=I.arcs/\(x=x/\(pot=pot/\True)))))))
abbrev za2 (I:Inst) (pot:List Int) (g:Nat):=(zie (W (redF I pot (↑g:Int))) { hi:=(0:Int),lo:=(0:Int):Wide } < (0:Int))
abbrev z7r (g:Nat) (I:Inst):=((0:Int) <= ↑g/\((↑g:Int)<↑I.arcs.length))
def zm3 (I : Inst) (x : List Int) (pot : List Int) (ty0 ty1 ty2 ty3 : TypeId) : Prop :=
   (I.sup.length <= (10000:Nat)/\(I.arcs.length <= (10000:Nat)/\(A64 x/\(A64 I.sup))))/\((z1w I x != (0:Int))=true->(z1w I x=z1l I x pot/\True)/\True)/\((z1w I x != (0:Int))=false->(((↑pot.length:Int) != (↑I.sup.length:Int))=true->((30:Int)=z1l I x pot/\True)/\True)/\(((↑pot.length:Int) != (↑I.sup.length:Int))=false->∃ (g0:Nat),((g0 <= I.arcs.length/\(∀ (j:Nat),j<g0->z45 I x pot j=true))/\((True/\(True/\(0=0/\((0:Int)=↑g0/\True))))/\((True/\(True/\True))/\(I.sup=I.sup/\(I.arcs=I.arcs/\(x=x/\(pot=pot/\True)))))))/\∀ (g:Nat),(g <= I.arcs.length/\(∀ (j:Nat),j<g->z45 I x pot j=true))->(decide ((↑g:Int)<↑x.length)=true->(A64 pot/\(A64c I.arcs))/\((W (redF I pot (↑g:Int))).ok/\({ hi:=(0:Int),lo:=(0:Int):Wide }.ok))/\(decide (zie (W (redF I pot (↑g:Int))) { hi:=(0:Int),lo:=(0:Int):Wide } > (0:Int))=true->((0:Int) <= ↑g/\((↑g:Int)<↑x.length))/\((↑g:Int).toNat<x.length/\(∀ (x_1:Int),x[(↑g:Int).toNat]? = some x_1->(z7r g I)/\((↑g:Int).toNat<I.arcs.length/\(∀ (x_2:Arc),I.arcs[(↑g:Int).toNat]? = some x_2->((x_1 != x_2.low)=true->((33:Int)=z1l I x pot/\True)/\True)/\((x_1 != x_2.low)=false->(decide (za2 I pot g)=true->((0:Int) <= ↑g/\((↑g:Int)<↑x.length))/\((↑g:Int).toNat<x.length/\(∀ (x_3:Int),x[(↑g:Int).toNat]? = some x_3->(z7r g I)/\((↑g:Int).toNat<I.arcs.length/\(∀ (x_4:Arc),I.arcs[(↑g:Int).toNat]? = some x_4->((x_3 != x_4.cap)=true->((33:Int)=z1l I x pot/\True)/\True)/\((x_3 != x_4.cap)=false->(z7r g I)/\((↑g:Int).toNat<I.arcs.length/\(∀ (x_5:Arc),I.arcs[(↑g:Int).toNat]? = some x_5->((x_5.cap == (4611686018427387904:Int))=true->((33:Int)=z1l I x pot/\True)/\True)/\((x_5.cap == (4611686018427387904:Int))=false->∃ (g':Nat),(g' <= I.arcs.length/\(∀ (j:Nat),j<g'->z45 I x pot j=true))/\(za1 I g' g x pot))))))))))/\(decide (za2 I pot g)=false->∃ (g':Nat),(g' <= I.arcs.length/\(∀ (j:Nat),j<g'->z45 I x pot j=true))/\(za1 I g' g x pot))))))))/\(decide (zie (W (redF I pot (↑g:Int))) { hi:=(0:Int),lo:=(0:Int):Wide } > (0:Int))=false->(decide (za2 I pot g)=true->((0:Int) <= ↑g/\((↑g:Int)<↑x.length))/\((↑g:Int).toNat<x.length/\(∀ (x_1:Int),x[(↑g:Int).toNat]? = some x_1->(z7r g I)/\((↑g:Int).toNat<I.arcs.length/\(∀ (x_2:Arc),I.arcs[(↑g:Int).toNat]? = some x_2->((x_1 != x_2.cap)=true->((33:Int)=z1l I x pot/\True)/\True)/\((x_1 != x_2.cap)=false->(z7r g I)/\((↑g:Int).toNat<I.arcs.length/\(∀ (x_3:Arc),I.arcs[(↑g:Int).toNat]? = some x_3->((x_3.cap == (4611686018427387904:Int))=true->((33:Int)=z1l I x pot/\True)/\True)/\((x_3.cap == (4611686018427387904:Int))=false->∃ (g':Nat),(g' <= I.arcs.length/\(∀ (j:Nat),j<g'->z45 I x pot j=true))/\(za1 I g' g x pot))))))))))/\(decide (za2 I pot g)=false->∃ (g':Nat),(g' <= I.arcs.length/\(∀ (j:Nat),j<g'->z45 I x pot j=true))/\(za1 I g' g x pot))))/\(decide ((↑g:Int)<↑x.length)=false->((0:Int)=z1l I x pot/\True)/\True)))
theorem rSlack_q (I:Inst) (x:List Int) (pot:List Int) (ty0 ty1 ty2 ty3:TypeId):zm3 I x pot ty0 ty1 ty2 ty3=z2r TT rSlack_g (rSlack_I I x pot) (zm4 I x pot) Tryz.f54 [.agg [.row 0,.row 1],.row 2,.row 3] [(0,.row false ty0 (.ints .i64 I.sup)),(1,.row false ty1 (.arcs I.arcs)),(2,.row false ty2 (.ints .i64 x)),(3,.row false ty3 (.ints .i64 pot))] (rSlack_r I x pot):=by kernel_rfl
theorem rSlack_E (I:Inst) (x:List Int) (pot:List Int) (ty0 ty1 ty2 ty3:TypeId) (hp:I.sup.length <= 10000/\I.arcs.length <= 10000/\A64 x/\A64 I.sup/\A64 pot/\A64c I.arcs):FVc TT rSlack_g (rSlack_I I x pot) (zm4 I x pot) Tryz.f54 [.agg [.row 0,.row 1],.row 2,.row 3] [(0,.row false ty0 (.ints .i64 I.sup)),(1,.row false ty1 (.arcs I.arcs)),(2,.row false ty2 (.ints .i64 x)),(3,.row false ty3 (.ints .i64 pot))] (rSlack_r I x pot):=by
 refine FVc.of (zm3 I x pot ty0 ty1 ty2 ty3) (rSlack_q I x pot ty0 ty1 ty2 ty3) ?_
 unfold zm3
 delta z7r za2 za1
 obtain ⟨p1,p2,p3,p4,p5,p6⟩:=hp
 have bad:∀ j,j<I.arcs.length->z1w I x=0->pot.length=I.sup.length->z45 I x pot j=false->33=z1l I x pot:=fun j hj h1 h2 h3=>by
  unfold z1l
  rw [if_neg (by omega),if_neg (by omega),if_neg]
  intro ha
  have:=List.all_eq_true.1 ha j (List.mem_range.2 hj)
  rw [h3] at this; cases this
 have nx:∀ g,g<I.arcs.length->(∀ j,j<g->z45 I x pot j=true)->z45 I x pot g=true->∃ g',(g' <= I.arcs.length/\∀ j,j<g'->z45 I x pot j=true)/\I.arcs.length - g'<I.arcs.length - g/\IntKind.i64.wrap ((g:Int)+1)=(g':Int):=fun g hg h1 h2 =>
  ⟨g+1,⟨by omega,fun j hj=>by
   by_cases e:j=g
   ·subst e; exact h2
   ·exact h1 j (by omega)⟩,by omega,by rw [w64 (by omega) (by omega)]; omega⟩
 simp only [eq_self,exists_const,forall_const,ne_eq,Int.toNat_natCast,zSS,z07]
 refine ⟨⟨p1,p2,p3,p4⟩,fun h=>by unfold z1l; rw [if_pos h],fun hf=>⟨fun h=>by unfold z1l; rw [if_neg (by omega),if_pos (by omega)],fun hl=>?_⟩⟩
 have hz:=fitsF_zero.1 hf
 have hzl:=hz.2.1
 refine ⟨0,⟨⟨by omega,fun j hj=>by omega⟩,rfl⟩,fun g hg=>⟨fun h1=>?_,fun h1=>?_⟩⟩
 ·have hgl:g<I.arcs.length:=by omega
  have hgx:g<x.length:=by omega
  obtain ⟨b,hb⟩:∃ b,I.arcs[g]? = some b:=⟨_,List.getElem?_eq_getElem hgl⟩
  obtain ⟨y,hy⟩:∃ y,x[g]? = some y:=⟨_,List.getElem?_eq_getElem hgx⟩
  have hbd:I.arcs.getD g default=b:=by simp [List.getD,hb]
  have hyd:x.getD g 0=y:=by simp [List.getD,hy]
  have key:z45 I x pot g=z6t (redF I pot g) y b:=by unfold z45; rw [hbd,hyd]
  have B:=bad g hgl hf (by omega)
  have N:=nx g hgl hg.2
  rw [key] at B N
  have e0:(⟨0,0⟩:Wide)=W 0:=W_zero.symm
  simp only [hy,hb,Option.some.injEq,forall_eq',e0]
  have hs:zie (W (redF I pot g)) (W 0)=sgn (redF I pot g):=rfl
  rw [hs]
  have q1:(0:Int) <= g:=by omega
  have q2:(g:Int)<x.length:=by omega
  have q3:(g:Int)<I.arcs.length:=by omega
  unfold z6t inf at B N
  refine ⟨⟨p5,p6⟩,⟨zey _,zey _⟩,?_⟩
  generalize redF I pot g=r at *
  refine ⟨fun c1=>⟨⟨q1,q2⟩,hgx,⟨q1,q3⟩,hgl,fun c2=>B (by simp [show 0<sgn r from c1,c2]),fun c2=>⟨fun c3=>by omega,fun c3=>N (by simp [c3,c2])⟩⟩,fun c1=>⟨fun c3=>⟨⟨q1,q2⟩,hgx,⟨q1,q3⟩,hgl,fun c4=>B (by simp [c3,c4]),fun c4=>⟨⟨q1,q3⟩,hgl,fun c5=>B (by simp [c3,c5]),fun c5=>N (by simp [show ¬ 0<sgn r from c1,c4,c5])⟩⟩,fun c3=>N (by simp [show ¬ 0<sgn r from c1,c3])⟩⟩
 ·have:(List.range I.arcs.length).all (z45 I x pot)=true:=List.all_eq_true.2 fun j hj=>hg.2 j (by have:=List.mem_range.1 hj; omega)
  unfold z1l
  rw [if_neg (by omega),if_neg (by omega),if_pos this]
theorem rSlack_ok:SpecOk Tryz.prog rSlack_n true (z03 true zm5) :=
 z0b z0r (show z1c Tryz.prog rSlack_g from z00 rFits_ok (z00 rReduced_ok (z00 zc5 (z05)))) (by kernel_rfl) mixedOrders Tryz.func54 rfl rfl (by kernel_rfl) (n:=3) (by decide +kernel) (I:=rSlack_IA) (fun _ _=>z06) (A:=rSlack_A)
  (fun args h r hr=>by
   unfold zm5 at hr
   split at hr
   ·rename_i ty0 I_s ty1 I_a ty2 x ty3 pot; cases hr; refine ⟨rfl,fun hp=>?_⟩; have hE:=rSlack_E ⟨I_s,I_a⟩ x pot ty0 ty1 ty2 ty3 hp; exact hE
   ·cases hr)
def rSum12_r (I:Inst) (l:List Int):FRes:={ pre:=A64c I.arcs/\l.length <= 140737488351232,res:=.agg (z0v (W (rayS I l))),rows:=[],eff:=[] }
def zm8:FS:=fun args h=>match args,h with
 | [.agg [.row 0,.row 1],.row 2],[(0,.row false ty0 (.ints .i64 I_s)),(1,.row false ty1 (.arcs I_a)),(2,.row false ty2 (.ints .i64 l))]=>some (rSum12_r ⟨I_s,I_a⟩ l)
 | _,_=>none
def zm7 (I:Inst) (l:List Int):List (Nat × Ann):=[(3,{ G:=(Nat),inv:=fun k=>⟨[(1,.row 2),(2,.ptr 3 0 0 0),(4,.ptr 4 0 0 0),(5,.ptr 5 0 0 0),(6,.int .i64 k)],[(5,.box true 47 (z0v (W (z79 I l k)))),(4,.box true 47 [.int .i64 (0:Int),.int .u64 (0:Int)]),(3,.box true 25 [.row 0,.row 1]),(0,.row false 0 (.ints .i64 I.sup)),(1,.row false 0 (.arcs I.arcs)),(2,.row false 0 (.ints .i64 l))],6⟩,rel:=fun k0 k=>k <= l.length,meas:=fun k=>l.length - k })]
def rSum12_A:List SV->z0d->List (Nat × Ann):=fun args h=>match args,h with
 | [.agg [.row 0,.row 1],.row 2],[(0,.row false ty0 (.ints .i64 I_s)),(1,.row false ty1 (.arcs I_a)),(2,.row false ty2 (.ints .i64 l))]=>zm7 ⟨I_s,I_a⟩ l
 | _,_=>[]
def rSum12_g:z0c:=[(z9z,(true,z03 true z63)),(rOf_n,(true,z03 true zhd))]
abbrev rSum12_n:Nat:=96
def rSum12_I (I:Inst) (l:List Int):List (Nat × z08):=[]
def rSum12_IA:List SV->z0d->List (Nat × z08):=fun _ _=>[]
def rround_r (I:Inst) (l:List Int):FRes:={ pre:=l.length <= 1000000,res:=.bool (c1F I l && c2F l && c4F I l && c3F I l),rows:=[],eff:=[] }
def zmn:FS:=fun args h=>match args,h with
 | [.agg [.row 0,.row 1],.row 2],[(0,.row false ty0 (.ints .i64 I_s)),(1,.row false ty1 (.arcs I_a)),(2,.row false ty2 (.ints .i64 l))]=>some (rround_r ⟨I_s,I_a⟩ l)
 | _,_=>none
def zmm (I:Inst) (l:List Int):List (Nat × Ann):=[(2,{ G:=(Nat),inv:=fun k=>⟨[(1,.row 2),(2,.ptr 3 0 0 0),(5,.int .i64 k)],[(3,.box true 25 [.row 0,.row 1]),(0,.row false 0 (.ints .i64 I.sup)),(1,.row false 0 (.arcs I.arcs)),(2,.row false 0 (.ints .i64 l))],4⟩,rel:=fun k0 k=>k <= l.length/\(l.take k).all (z5y I)=true/\nodI (l.take k)/\(l.take k).all (fun a=>decide ((z4y I a).cap=inf))=true,meas:=fun k=>l.length - k }),
 (7,{ G:=(Nat),inv:=fun k=>⟨[(1,.row 2),(2,.ptr 3 0 0 0),(6,.int .i64 k)],[(3,.box true 25 [.row 0,.row 1]),(0,.row false 0 (.ints .i64 I.sup)),(1,.row false 0 (.arcs I.arcs)),(2,.row false 0 (.ints .i64 l))],4⟩,rel:=fun k0 k=>k <= l.length/\(∀ j,j<k->linkF I l j=true)/\c1F I l=true/\c2F l=true/\c4F I l=true,meas:=fun k=>l.length - k })]
def rround_A:List SV->z0d->List (Nat × Ann):=fun args h=>match args,h with
 | [.agg [.row 0,.row 1],.row 2],[(0,.row false ty0 (.ints .i64 I_s)),(1,.row false ty1 (.arcs I_a)),(2,.row false ty2 (.ints .i64 l))]=>zmm ⟨I_s,I_a⟩ l
 | _,_=>[]
def rround_g:z0c:=[(Place_n,(true,z03 true Place_fs))]
abbrev rround_n:Nat:=95
def rround_I (I:Inst) (l:List Int):List (Nat × z08):=[]
def rround_IA:List SV->z0d->List (Nat × z08):=fun _ _=>[]
def rTurns_r (I:Inst) (l:List Int):FRes:={ pre:=l.length <= 1000000/\A64c I.arcs,res:=.int .i64 (z3e I l),rows:=[],eff:=[] }
def zma:FS:=fun args h=>match args,h with
 | [.agg [.row 0,.row 1],.row 2],[(0,.row false ty0 (.ints .i64 I_s)),(1,.row false ty1 (.arcs I_a)),(2,.row false ty2 (.ints .i64 l))]=>some (rTurns_r ⟨I_s,I_a⟩ l)
 | _,_=>none
def rTurns_an (I:Inst) (l:List Int):List (Nat × Ann):=[]
def rTurns_A:List SV->z0d->List (Nat × Ann):=fun _ _=>[]
def rTurns_g:z0c:=[(z8p,(true,z03 true z5o)),(rround_n,(true,z03 true zmn)),(rSum12_n,(true,z03 true zm8)),(zau,(true,z03 true z6n))]
abbrev rTurns_n:Nat:=57
def rTurns_I (I:Inst) (l:List Int):List (Nat × z08):=[]
def rTurns_IA:List SV->z0d->List (Nat × z08):=fun _ _=>[]
def zm6 (I : Inst) (l : List Int) (ty0 ty1 ty2 : TypeId) : Prop :=
      ∃ (g0:Nat),
 (g0 <= l.length /\
 (True/\(0:Nat)=(0:Nat)/\(0:Nat)=(0:Nat)/\(0:Nat)=(0:Nat)/\(0:Int)=(↑g0:Int)/\True) /\
 ((0:Int)=(W (z79 I l g0)).hi/\(0:Int)=(W (z79 I l g0)).lo/\True) /\
 ((0:Int)=(0:Int)/\(0:Int)=(0:Int)/\True)/\(True/\True/\True)/\I.sup=I.sup/\I.arcs=I.arcs/\l=l/\True) /\
 ∀ (g:Nat),
 g <= l.length ->
 (decide ((↑g:Int)<(↑l.length:Int))=true ->
 ((0:Int) <= (↑g:Int)/\(↑g:Int)<(↑l.length:Int)) /\
 (↑g:Int).toNat<l.length /\
 ∀ (x:Int),
 l[(↑g:Int).toNat]? = some x ->
 (decide (x ≥ (0:Int))=true ->
 ((0:Int) <= (↑g:Int)/\(↑g:Int)<(↑l.length:Int)) /\
 (↑g:Int).toNat<l.length /\
 ∀ (x:Int),
 l[(↑g:Int).toNat]? = some x ->
 (decide (x<(↑I.arcs.length:Int))=true ->
 ((0:Int) <= (↑g:Int)/\(↑g:Int)<(↑l.length:Int)) /\
 (↑g:Int).toNat<l.length /\
 ∀ (x:Int),
 l[(↑g:Int).toNat]? = some x ->
 ((0:Int) <= x/\x<(↑I.arcs.length:Int)) /\
 x.toNat<I.arcs.length /\
 ∀ (x_1:Arc),
 I.arcs[x.toNat]? = some x_1 ->
 I64 x_1.cost /\
 ((W (z79 I l g)).ok/\(W x_1.cost).ok) /\
 ∃ (g':Nat),
 g' <= l.length /\
 l.length - g'<l.length - g /\
 (True /\
 (0:Nat)=(0:Nat) /\
 (0:Nat)=(0:Nat) /\
 (0:Nat)=(0:Nat)/\IntKind.i64.wrap ((↑g:Int)+(1:Int))=(↑g':Int)/\True) /\
 ((z3g (W (z79 I l g)) (W x_1.cost)).hi=(W (z79 I l g')).hi /\
 (z3g (W (z79 I l g)) (W x_1.cost)).lo=(W (z79 I l g')).lo/\True) /\
 ((0:Int)=(0:Int)/\(0:Int)=(0:Int)/\True) /\
 (True/\True/\True)/\I.sup=I.sup/\I.arcs=I.arcs/\l=l/\True) /\
 (decide (x<(↑I.arcs.length:Int))=false ->
 ∃ (g':Nat),
 g' <= l.length /\
 l.length - g'<l.length - g /\
 (True /\
 (0:Nat)=(0:Nat) /\
 (0:Nat)=(0:Nat)/\(0:Nat)=(0:Nat)/\IntKind.i64.wrap ((↑g:Int)+(1:Int))=(↑g':Int)/\True) /\
 ((W (z79 I l g)).hi=(W (z79 I l g')).hi/\(W (z79 I l g)).lo=(W (z79 I l g')).lo/\True) /\
 ((0:Int)=(0:Int)/\(0:Int)=(0:Int)/\True)/\(True/\True/\True)/\I.sup=I.sup/\I.arcs=I.arcs/\l=l/\True)) /\
 (decide (x ≥ (0:Int))=false ->
 ∃ (g':Nat),
 g' <= l.length /\
 l.length - g'<l.length - g /\
 (True/\(0:Nat)=(0:Nat)/\(0:Nat)=(0:Nat)/\(0:Nat)=(0:Nat)/\IntKind.i64.wrap ((↑g:Int)+(1:Int))=(↑g':Int)/\True) /\
 ((W (z79 I l g)).hi=(W (z79 I l g')).hi/\(W (z79 I l g)).lo=(W (z79 I l g')).lo/\True) /\
 ((0:Int)=(0:Int)/\(0:Int)=(0:Int)/\True)/\(True/\True/\True)/\I.sup=I.sup/\I.arcs=I.arcs/\l=l/\True)) /\
 (decide ((↑g:Int)<(↑l.length:Int))=false->(((W (z79 I l g)).hi=(W (rayS I l)).hi/\(W (z79 I l g)).lo=(W (rayS I l)).lo/\True)/\True)/\True)
theorem rSum12_q (I:Inst) (l:List Int) (ty0 ty1 ty2:TypeId):zm6 I l ty0 ty1 ty2=z2r TT rSum12_g (rSum12_I I l) (zm7 I l) Tryz.f96 [.agg [.row 0,.row 1],.row 2] [(0,.row false ty0 (.ints .i64 I.sup)),(1,.row false ty1 (.arcs I.arcs)),(2,.row false ty2 (.ints .i64 l))] (rSum12_r I l):=by kernel_rfl
theorem rSum12_E (I:Inst) (l:List Int) (ty0 ty1 ty2:TypeId) (hp:A64c I.arcs/\l.length <= 140737488351232):FVc TT rSum12_g (rSum12_I I l) (zm7 I l) Tryz.f96 [.agg [.row 0,.row 1],.row 2] [(0,.row false ty0 (.ints .i64 I.sup)),(1,.row false ty1 (.arcs I.arcs)),(2,.row false ty2 (.ints .i64 l))] (rSum12_r I l):=by
 refine FVc.of (zm6 I l ty0 ty1 ty2) (rSum12_q I l ty0 ty1 ty2) ?_
 unfold zm6
 obtain ⟨p1,p2⟩:=hp
 simp only [eq_self,exists_const,forall_const,ne_eq,Int.toNat_natCast,zSS,z07]
 refine ⟨0,⟨Nat.zero_le _,rfl,by simp only [z79]; decide,by simp only [z79]; decide⟩,fun g hg=>⟨fun h1=>⟨by omega,by omega,fun x hx=>?_⟩,fun h1=>?_⟩⟩
 ·have wk:IntKind.i64.wrap ((g:Int)+1)=((g+1:Nat):Int):=by rw [w64 (by omega) (by omega)]; omega
  have hd:l.getD g 0=x:=by simp [List.getD,hx]
  have hno:¬ (0 <= x/\x<I.arcs.length)->∃ g':Nat,g' <= l.length/\l.length - g'<l.length - g/\IntKind.i64.wrap ((g:Int)+1)=(g':Int)/\(W (z79 I l g)).hi=(W (z79 I l g')).hi/\(W (z79 I l g)).lo=(W (z79 I l g')).lo:=fun h=>by
   have h2:z5y I x=false:=by cases hc:z5y I x with | false=>rfl | true=>exact absurd (isArcF_iff.1 hc) h
   refine ⟨g+1,by omega,by omega,wk,?_⟩
   simp only [z79,hd,rayD,h2,if_false,Int.add_zero,Bool.false_eq_true,and_self]
  simp only [hx,Option.some.injEq,forall_eq']
  refine ⟨fun h2=>⟨by omega,by omega,fun h3=>⟨by omega,by omega,by omega,by omega,fun a ha=>⟨p1 a (List.mem_of_getElem? ha),⟨zey _,zey _⟩,g+1,by omega,by omega,wk,?_⟩⟩,fun h3=>hno (by omega)⟩,fun h2=>hno (by omega)⟩
  have h2:z5y I x=true:=isArcF_iff.2 (by omega)
  simp only [z79,hd,rayD,h2,if_true,z6d ha,zcw,and_self]
 ·rw [show g=l.length by omega]
  exact ⟨rfl,rfl⟩
theorem rSum12_ok:SpecOk Tryz.prog rSum12_n true (z03 true zm8) :=
 z0b z0r (show z1c Tryz.prog rSum12_g from z00 z8o (z00 rOf_ok (z05))) (by kernel_rfl) mixedOrders Tryz.func96 rfl rfl (by kernel_rfl) (n:=2) (by decide +kernel) (I:=rSum12_IA) (fun _ _=>z06) (A:=rSum12_A)
  (fun args h r hr=>by
   unfold zm8 at hr
   split at hr
   ·rename_i ty0 I_s ty1 I_a ty2 l; cases hr; refine ⟨rfl,fun hp=>?_⟩; have hE:=rSum12_E ⟨I_s,I_a⟩ l ty0 ty1 ty2 hp; exact hE
   ·cases hr)
theorem placeI_lt {x:Int}:∀ {l:List Int} {i k:Nat},l[k]? = some x->(z4r x l i<((i+k:Nat):Int) ↔ x ∈ l.take k)
 | [],_,_,h=>by simp at h
 | y :: l,i,0,h=>by
  simp at h; subst h
  unfold z4r
  simp
 | y :: l,i,k+1,h=>by
  unfold z4r
  have ih:=placeI_lt (x:=x) (l:=l) (i:=i+1) (k:=k) (by simpa using h)
  rw [show i+(k+1)=i+1+k by omega]
  split
  ·rename_i e; subst e; simp; omega
  ·rename_i e
   rw [ih,List.take_succ_cons,List.mem_cons]
   constructor
   ·exact .inr
   ·rintro (h | h)
    ·exact absurd h.symm e
    ·exact h
abbrev za5 (I:Inst) (l:List Int):=((True/\(True/\True))/\(I.sup=I.sup/\(I.arcs=I.arcs/\(l=l/\True))))
abbrev z7u (I:Inst) (l:List Int):=(false=(c1F I l && c2F l && c4F I l && c3F I l)/\True)
def zml (I : Inst) (l : List Int) (ty0 ty1 ty2 : TypeId) : Prop :=
   ∃ (g0:Nat),((g0 <= l.length/\((List.take g0 l).all (z5y I)=true/\(nodI (List.take g0 l)/\(((List.take g0 l).all fun (a:Int)=>decide ((z4y I a).cap=inf))=true))))/\((True/\(0=0/\((0:Int)=↑g0/\True)))/\(za5 I l)))/\∀ (g:Nat),g <= l.length/\(List.take g l).all (z5y I)=true/\nodI (List.take g l)/\((List.take g l).all fun (a:Int)=>decide ((z4y I a).cap=inf))=true->(decide ((↑g:Int)<↑l.length)=true->((0:Int) <= ↑g/\((↑g:Int)<↑l.length))/\((↑g:Int).toNat<l.length/\(∀ (x:Int),l[(↑g:Int).toNat]? = some x->(decide (x<(0:Int))=true->(z7u I l)/\True)/\(decide (x<(0:Int))=false->((0:Int) <= ↑g/\((↑g:Int)<↑l.length))/\((↑g:Int).toNat<l.length/\(∀ (x:Int),l[(↑g:Int).toNat]? = some x->(decide (x ≥ (↑I.arcs.length:Int))=true->(z7u I l)/\True)/\(decide (x ≥ (↑I.arcs.length:Int))=false->((0:Int) <= ↑g/\((↑g:Int)<↑l.length))/\((↑g:Int).toNat<l.length/\(∀ (x:Int),l[(↑g:Int).toNat]? = some x->l.length <= (1000000000:Nat)/\((decide (z4r x l (0:Nat)<(↑g:Int))=true->(z7u I l)/\True)/\(decide (z4r x l (0:Nat)<(↑g:Int))=false->((0:Int) <= ↑g/\((↑g:Int)<↑l.length))/\((↑g:Int).toNat<l.length/\(∀ (x:Int),l[(↑g:Int).toNat]? = some x->((0:Int) <= x/\(x<(↑I.arcs.length:Int)))/\(x.toNat<I.arcs.length/\(∀ (x_1:Arc),I.arcs[x.toNat]? = some x_1->((x_1.cap != (4611686018427387904:Int))=true->(z7u I l)/\True)/\((x_1.cap != (4611686018427387904:Int))=false->∃ (g':Nat),(g' <= l.length/\((List.take g' l).all (z5y I)=true/\(nodI (List.take g' l)/\(((List.take g' l).all fun (a:Int)=>decide ((z4y I a).cap=inf))=true))))/\(l.length - g'<l.length - g/\((True/\(0=0/\(IntKind.i64.wrap ((↑g:Int)+(1:Int))=(↑g':Int)/\True)))/\(za5 I l)))))))))))))))))))/\(decide ((↑g:Int)<↑l.length)=false->∃ (g0:Nat),((g0 <= l.length/\((∀ (j:Nat),j<g0->linkF I l j=true)/\(c1F I l=true/\(c2F l=true/\(c4F I l=true)))))/\((True/\(0=0/\((0:Int)=↑g0/\True)))/\(za5 I l)))/\(∀ (g:Nat),g <= l.length/\(∀ (j:Nat),j<g->linkF I l j=true)/\c1F I l=true/\c2F l=true/\c4F I l=true->(decide ((↑g:Int)<↑l.length)=true->((0:Int) <= ↑g/\((↑g:Int)<↑l.length))/\((↑g:Int).toNat<l.length/\(∀ (x:Int),l[(↑g:Int).toNat]? = some x->((0:Int) <= x/\(x<(↑I.arcs.length:Int)))/\(x.toNat<I.arcs.length/\(∀ (x_1:Arc),I.arcs[x.toNat]? = some x_1->(↑l.length:Int) ≠ (0:Int)/\(((0:Int) <= (IntKind.i64.wrap ((↑g:Int)+(1:Int))).tmod (↑l.length:Int)/\((IntKind.i64.wrap ((↑g:Int)+(1:Int))).tmod (↑l.length:Int)<↑l.length))/\(((IntKind.i64.wrap ((↑g:Int)+(1:Int))).tmod (↑l.length:Int)).toNat<l.length/\(∀ (x:Int),l[((IntKind.i64.wrap ((↑g:Int)+(1:Int))).tmod (↑l.length:Int)).toNat]? = some x->((0:Int) <= x/\(x<(↑I.arcs.length:Int)))/\(x.toNat<I.arcs.length/\(∀ (x_2:Arc),I.arcs[x.toNat]? = some x_2->((x_1.dst != x_2.src)=true->(z7u I l)/\True)/\((x_1.dst != x_2.src)=false->∃ (g':Nat),(g' <= l.length/\((∀ (j:Nat),j<g'->linkF I l j=true)/\(c1F I l=true/\(c2F l=true/\(c4F I l=true)))))/\(l.length - g'<l.length - g/\((True/\(0=0/\(IntKind.i64.wrap ((↑g:Int)+(1:Int))=(↑g':Int)/\True)))/\(za5 I l))))))))))))))/\(decide ((↑g:Int)<↑l.length)=false->(true=(c1F I l && c2F l && c4F I l && c3F I l)/\True)/\True)))
theorem rround_q (I:Inst) (l:List Int) (ty0 ty1 ty2:TypeId):zml I l ty0 ty1 ty2=z2r TT rround_g (rround_I I l) (zmm I l) Tryz.f95 [.agg [.row 0,.row 1],.row 2] [(0,.row false ty0 (.ints .i64 I.sup)),(1,.row false ty1 (.arcs I.arcs)),(2,.row false ty2 (.ints .i64 l))] (rround_r I l):=by kernel_rfl
theorem rround_E (I:Inst) (l:List Int) (ty0 ty1 ty2:TypeId) (hp:l.length <= 1000000):FVc TT rround_g (rround_I I l) (zmm I l) Tryz.f95 [.agg [.row 0,.row 1],.row 2] [(0,.row false ty0 (.ints .i64 I.sup)),(1,.row false ty1 (.arcs I.arcs)),(2,.row false ty2 (.ints .i64 l))] (rround_r I l):=by
 refine FVc.of (zml I l ty0 ty1 ty2) (rround_q I l ty0 ty1 ty2) ?_
 unfold zml
 delta z7u za5
 simp only [eq_self,exists_const,forall_const,ne_eq,Int.toNat_natCast,zSS,z07]
 have wk:∀ g:Nat,g<l.length->IntKind.i64.wrap ((g:Int)+1)=((g+1:Nat):Int):=fun g hg=>by rw [w64 (by omega) (by omega)]; omega
 refine ⟨0,⟨⟨by omega,rfl,List.nodup_nil,rfl⟩,rfl⟩,fun g hg=>⟨fun h1=>⟨by omega,by omega,fun x hx=>?_⟩,fun h1=>?_⟩⟩
 ·obtain ⟨g0,g1,g2,g3⟩:=hg
  have hno:z5y I x=false->false=(c1F I l && c2F l && c4F I l && c3F I l):=fun h=>by
   have:c1F I l=false:=all_not hx h
   simp [this]
  have hpl:=placeI_lt (i:=0) hx
  simp only [Nat.zero_add] at hpl
  simp only [hx,Option.some.injEq,forall_eq']
  refine ⟨fun h2=>hno (by simp [z5y]; omega),fun h2=>⟨by omega,by omega,fun h3=>hno (by simp [z5y]; omega),fun h3=>⟨by omega,by omega,by omega,fun h4=>?_,fun h4=>⟨by omega,by omega,by omega,by omega,fun a ha=>⟨fun h5=>?_,fun h5=>⟨g+1,⟨by omega,?_,nodI_take hx g2 (fun h=>h4 (hpl.2 h)),?_⟩,by omega,wk g (by omega)⟩⟩⟩⟩⟩⟩
  ·have:c2F l=false:=nodI_not hx (hpl.1 h4)
   simp [this]
  ·have:c4F I l=false:=all_not hx (decide_eq_false (by rw [z6d ha]; exact h5))
   simp [this]
  ·rw [all_take hx,g1,isArcF_iff.2 (by omega)]; rfl
  ·rw [all_take hx,g3,z6d ha]; simp [inf,h5]
 ·obtain ⟨g0,g1,g2,g3⟩:=hg
  have e1:c1F I l=true:=all_end g1 (by omega)
  have e2:c2F l=true:=nodI_end g2 (by omega)
  have e4:c4F I l=true:=all_end g3 (by omega)
  refine ⟨0,⟨⟨by omega,fun j hj=>by omega,e1,e2,e4⟩,rfl⟩,fun k hk=>⟨fun h2=>⟨by omega,by omega,fun x hx=>?_⟩,fun h2=>?_⟩⟩
  ·have hm:(IntKind.i64.wrap ((k:Int)+1)).tmod (l.length:Int)=(((k+1) % l.length:Nat):Int):=by rw [w64 (by omega) (by omega),z4a (by omega)]; norm_cast
   have hlt:(k+1) % l.length<l.length:=Nat.mod_lt _ (by omega)
   have hcx:=c1F_get e1 hx
   refine ⟨hcx,by omega,fun a ha=>?_⟩
   rw [hm]
   simp only [Int.toNat_natCast]
   refine ⟨by omega,by omega,by omega,fun y hy=>?_⟩
   have hcy:=c1F_get e1 hy
   refine ⟨hcy,by omega,fun b hb=>?_⟩
   have hl:linkF I l k=decide (a.dst=b.src):=by
    unfold linkF
    have d1:l.getD k 0=x:=by simp [List.getD,hx]
    have d2:l.getD ((k+1) % l.length) 0=y:=by simp [List.getD,hy]
    rw [d1,d2,z6d ha,z6d hb]
   refine ⟨fun h3=>?_,fun h3=>⟨k+1,⟨by omega,fun j hj=>?_,e1,e2,e4⟩,by omega,wk k (by omega)⟩⟩
   ·have h4:linkF I l k=false:=by rw [hl]; exact decide_eq_false h3
    cases hc:c3F I l with
    | false=>simp
    | true=>have:=List.all_eq_true.1 hc k (List.mem_range.2 (by omega)); rw [h4] at this; cases this
   ·by_cases e:j=k
    ·subst e; rw [hl]; exact decide_eq_true h3
    ·exact hk.2.1 j (by omega)
  ·have:c3F I l=true:=List.all_eq_true.2 fun j hj=>hk.2.1 j (by have:=List.mem_range.1 hj; omega)
   simp [e1,e2,e4,this]
theorem rround_ok:SpecOk Tryz.prog rround_n true (z03 true zmn) :=
 z0b z0r (show z1c Tryz.prog rround_g from z00 Place_ok (z05)) (by kernel_rfl) mixedOrders Tryz.func95 rfl rfl (by kernel_rfl) (n:=2) (by decide +kernel) (I:=rround_IA) (fun _ _=>z06) (A:=rround_A)
  (fun args h r hr=>by
   unfold zmn at hr
   split at hr
   ·rename_i ty0 I_s ty1 I_a ty2 l; cases hr; refine ⟨rfl,fun hp=>?_⟩; have hE:=rround_E ⟨I_s,I_a⟩ l ty0 ty1 ty2 hp; exact hE
   ·cases hr)
def zm9 (I : Inst) (l : List Int) (ty0 ty1 ty2 : TypeId) : Prop :=
      True /\
 ((z02 I != (0:Int))=true->(z02 I=z3e I l/\True)/\True) /\
 ((z02 I != (0:Int))=false ->
 (((↑l.length:Int) == (0:Int))=true->((30:Int)=z3e I l/\True)/\True) /\
 (((↑l.length:Int) == (0:Int))=false ->
 (decide ((↑l.length:Int) > (↑I.arcs.length:Int))=true->((30:Int)=z3e I l/\True)/\True) /\
 (decide ((↑l.length:Int) > (↑I.arcs.length:Int))=false ->
 l.length <= (1000000:Nat) /\
 ((!(c1F I l && c2F l && c4F I l && c3F I l))=true->((35:Int)=z3e I l/\True)/\True) /\
 ((!(c1F I l && c2F l && c4F I l && c3F I l))=false ->
 (A64c I.arcs/\l.length <= (140737488351232:Nat)) /\
 ((W (rayS I l)).ok/\{ hi:=(0:Int),lo:=(0:Int):Wide }.ok) /\
 (decide (zie (W (rayS I l)) { hi:=(0:Int),lo:=(0:Int):Wide } ≥ (0:Int))=true->((35:Int)=z3e I l/\True)/\True) /\
 (decide (zie (W (rayS I l)) { hi:=(0:Int),lo:=(0:Int):Wide } ≥ (0:Int))=false->((0:Int)=z3e I l/\True)/\True)))))
theorem rTurns_q (I:Inst) (l:List Int) (ty0 ty1 ty2:TypeId):zm9 I l ty0 ty1 ty2=z2r TT rTurns_g (rTurns_I I l) (rTurns_an I l) Tryz.f57 [.agg [.row 0,.row 1],.row 2] [(0,.row false ty0 (.ints .i64 I.sup)),(1,.row false ty1 (.arcs I.arcs)),(2,.row false ty2 (.ints .i64 l))] (rTurns_r I l):=by kernel_rfl
theorem rTurns_E (I:Inst) (l:List Int) (ty0 ty1 ty2:TypeId) (hp:l.length <= 1000000/\A64c I.arcs):FVc TT rTurns_g (rTurns_I I l) (rTurns_an I l) Tryz.f57 [.agg [.row 0,.row 1],.row 2] [(0,.row false ty0 (.ints .i64 I.sup)),(1,.row false ty1 (.arcs I.arcs)),(2,.row false ty2 (.ints .i64 l))] (rTurns_r I l):=by
 refine FVc.of (zm9 I l ty0 ty1 ty2) (rTurns_q I l ty0 ty1 ty2) ?_
 unfold zm9
 obtain ⟨p1,p2⟩:=hp
 simp only [eq_self,exists_const,forall_const,ne_eq,Int.toNat_natCast,zSS,z07]
 have ez:zie (W (rayS I l)) ⟨0,0⟩=zie (W (rayS I l)) (W 0):=by rw [W_zero]
 unfold z3e
 refine ⟨fun h=>by simp [h],fun h=>⟨fun h2=>by simp [h,show l.length=0 by omega],fun h2=>⟨fun h3=>by simp [h,show I.arcs.length<l.length by omega],fun h3=>?_⟩⟩⟩
 have e0:¬ (l.length=0 ∨ I.arcs.length<l.length):=by omega
 simp only [h,e0,ne_eq,not_true,if_false,ez]
 refine ⟨p1,fun h4=>?_,fun h4=>⟨⟨p2,by omega⟩,⟨zey _,ok_zero⟩,fun h5=>?_,fun h5=>?_⟩⟩
 ·cases e1:c1F I l <;> cases e2:c2F l <;> cases e3:c3F I l <;> cases e4:c4F I l <;> simp_all
 ·have:c5F I l=false:=decide_eq_false (by omega)
  simp [this]
 ·have e5:c5F I l=true:=decide_eq_true (by omega)
  cases e1:c1F I l <;> cases e2:c2F l <;> cases e3:c3F I l <;> cases e4:c4F I l <;> simp_all
theorem rTurns_ok:SpecOk Tryz.prog rTurns_n true (z03 true zma) :=
 z0b z0r (show z1c Tryz.prog rTurns_g from z00 z7q (z00 rround_ok (z00 rSum12_ok (z00 zc5 (z05))))) (by kernel_rfl) mixedOrders Tryz.func57 rfl rfl (by kernel_rfl) (n:=2) (by decide +kernel) (I:=rTurns_IA) (fun _ _=>z06) (A:=rTurns_A)
  (fun args h r hr=>by
   unfold zma at hr
   split at hr
   ·rename_i ty0 I_s ty1 I_a ty2 l; cases hr; refine ⟨rfl,fun hp=>?_⟩; have hE:=rTurns_E ⟨I_s,I_a⟩ l ty0 ty1 ty2 hp; exact hE
   ·cases hr)
def ValueC_r (I:Inst) (c:Cert):FRes:={ pre:=z69 c/\zgy I,res:=.tup [.agg (z0v (z5r I c)),.bool (decide (c.kind=1))],rows:=[],eff:=[] }
def zj9:FS:=fun args h=>match args,h with
 | [.agg [.row 0,.row 1],.agg [.int .i64 c_k,.row 2,.row 3,.row 4,.row 5]],[(0,.row false ty0 (.ints .i64 I_s)),(1,.row false ty1 (.arcs I_a)),(2,.row false ty2 (.ints .i64 c_f)),(3,.row false ty3 (.ints .i64 c_p)),(4,.row false ty4 (.bools c_s)),(5,.row false ty5 (.ints .i64 c_y))]=>some (ValueC_r ⟨I_s,I_a⟩ ⟨c_k,c_f,c_p,c_s,c_y⟩)
 | _,_=>none
def ValueC_an (I:Inst) (c:Cert):List (Nat × Ann):=[]
def ValueC_A:List SV->z0d->List (Nat × Ann):=fun _ _=>[]
def ValueC_g:z0c:=[(Cost_n,(true,z03 true Cost_fs))]
abbrev ValueC_n:Nat:=20
def ValueC_I (I:Inst) (c:Cert):List (Nat × z08):=[]
def ValueC_IA:List SV->z0d->List (Nat × z08):=fun _ _=>[]
def zj8 (I : Inst) (c : Cert) (ty0 ty1 ty2 ty3 ty4 ty5 : TypeId) : Prop :=
      ((c.kind != (1:Int))=true->((((0:Int)=(z5r I c).hi/\(0:Int)=(z5r I c).lo/\True)/\false=decide (c.kind=(1:Int))/\True)/\True)/\True) /\
 ((c.kind != (1:Int))=false ->
 (A64 c.flow/\A64c I.arcs/\I.arcs.length <= (1000000:Nat)) /\
 ((((W (zbu I c.flow)).hi=(z5r I c).hi/\(W (zbu I c.flow)).lo=(z5r I c).lo/\True)/\true=decide (c.kind=(1:Int))/\True)/\True)/\True)
theorem ValueC_q (I:Inst) (c:Cert) (ty0 ty1 ty2 ty3 ty4 ty5:TypeId):zj8 I c ty0 ty1 ty2 ty3 ty4 ty5=z2r TT ValueC_g (ValueC_I I c) (ValueC_an I c) Tryz.f20 [.agg [.row 0,.row 1],.agg [.int .i64 c.kind,.row 2,.row 3,.row 4,.row 5]] [(0,.row false ty0 (.ints .i64 I.sup)),(1,.row false ty1 (.arcs I.arcs)),(2,.row false ty2 (.ints .i64 c.flow)),(3,.row false ty3 (.ints .i64 c.pot)),(4,.row false ty4 (.bools c.side)),(5,.row false ty5 (.ints .i64 c.cycle))] (ValueC_r I c):=by kernel_rfl
theorem ValueC_E (I:Inst) (c:Cert) (ty0 ty1 ty2 ty3 ty4 ty5:TypeId) (hp:z69 c/\zgy I):FVc TT ValueC_g (ValueC_I I c) (ValueC_an I c) Tryz.f20 [.agg [.row 0,.row 1],.agg [.int .i64 c.kind,.row 2,.row 3,.row 4,.row 5]] [(0,.row false ty0 (.ints .i64 I.sup)),(1,.row false ty1 (.arcs I.arcs)),(2,.row false ty2 (.ints .i64 c.flow)),(3,.row false ty3 (.ints .i64 c.pot)),(4,.row false ty4 (.bools c.side)),(5,.row false ty5 (.ints .i64 c.cycle))] (ValueC_r I c):=by
 refine FVc.of (zj8 I c ty0 ty1 ty2 ty3 ty4 ty5) (ValueC_q I c ty0 ty1 ty2 ty3 ty4 ty5) ?_
 unfold zj8
 obtain ⟨c1,c2,c3,c4,c5,c6⟩:=hp.1
 obtain ⟨i1,i2,i3,i4,i5⟩:=hp.2
 simp only [eq_self,exists_const,forall_const,ne_eq,Int.toNat_natCast,zSS,z07]
 unfold z5r
 refine ⟨fun h=>by rw [if_neg h]; exact ⟨⟨rfl,rfl⟩,(decide_eq_false h).symm⟩,fun h=>⟨⟨c1,i5,by omega⟩,by rw [if_pos h]; exact ⟨⟨rfl,rfl⟩,(decide_eq_true h).symm⟩⟩⟩
theorem ValueC_ok:SpecOk Tryz.prog ValueC_n true (z03 true zj9) :=
 z0b z0r (show z1c Tryz.prog ValueC_g from z00 Cost_ok (z05)) (by kernel_rfl) mixedOrders Tryz.func20 rfl rfl (by kernel_rfl) (n:=2) (by decide +kernel) (I:=ValueC_IA) (fun _ _=>z06) (A:=ValueC_A)
  (fun args h r hr=>by
   unfold zj9 at hr
   split at hr
   ·rename_i c_k ty0 I_s ty1 I_a ty2 c_f ty3 c_p ty4 c_s ty5 c_y; cases hr; refine ⟨rfl,fun hp=>?_⟩; have hE:=ValueC_E ⟨I_s,I_a⟩ ⟨c_k,c_f,c_p,c_s,c_y⟩ ty0 ty1 ty2 ty3 ty4 ty5 hp; exact hE
   ·cases hr)
def rSameC_r (c:Cert) (d:Cert):FRes:={ pre:=c.flow.length <= 1000000000/\c.pot.length <= 1000000000/\c.side.length <= 1000000000/\c.cycle.length <= 1000000000,res:=.bool (decide (c=d)),rows:=[],eff:=[] }
def zm2:FS:=fun args h=>match args,h with
 | [.agg [.int .i64 c_k,.row 0,.row 1,.row 2,.row 3],.agg [.int .i64 d_k,.row 4,.row 5,.row 6,.row 7]],[(0,.row false ty0 (.ints .i64 c_f)),(1,.row false ty1 (.ints .i64 c_p)),(2,.row false ty2 (.bools c_s)),(3,.row false ty3 (.ints .i64 c_y)),(4,.row false ty4 (.ints .i64 d_f)),(5,.row false ty5 (.ints .i64 d_p)),(6,.row false ty6 (.bools d_s)),(7,.row false ty7 (.ints .i64 d_y))]=>some (rSameC_r ⟨c_k,c_f,c_p,c_s,c_y⟩ ⟨d_k,d_f,d_p,d_s,d_y⟩)
 | _,_=>none
def rSameC_an (c:Cert) (d:Cert):List (Nat × Ann):=[]
def rSameC_A:List SV->z0d->List (Nat × Ann):=fun _ _=>[]
def rSameC_g:z0c:=[(Nums_n,(true,z03 true Nums_fs)),(Bools_n,(true,z03 true Bools_fs)),(Ints_n,(true,z03 true Ints_fs))]
abbrev rSameC_n:Nat:=43
def rSameC_I (c:Cert) (d:Cert):List (Nat × z08):=[]
def rSameC_IA:List SV->z0d->List (Nat × z08):=fun _ _=>[]
def zm1 (c : Cert) (d : Cert) (ty0 ty1 ty2 ty3 ty4 ty5 ty6 ty7 : TypeId) : Prop :=
      ((c.kind == d.kind)=true ->
 c.flow.length <= (1000000000:Nat) /\
 (decide (c.flow=d.flow)=true ->
 c.pot.length <= (1000000000:Nat) /\
 (decide (c.pot=d.pot)=true ->
 c.side.length <= (1000000000:Nat) /\
 (decide (c.side=d.side)=true->c.cycle.length <= (1000000000:Nat)/\(decide (c.cycle=d.cycle)=decide (c=d)/\True)/\True) /\
 (decide (c.side=d.side)=false->(false=decide (c=d)/\True)/\True)) /\
 (decide (c.pot=d.pot)=false->(false=decide (c=d)/\True)/\True)) /\
 (decide (c.flow=d.flow)=false->(false=decide (c=d)/\True)/\True)) /\
 ((c.kind == d.kind)=false->(false=decide (c=d)/\True)/\True)
theorem rSameC_q (c:Cert) (d:Cert) (ty0 ty1 ty2 ty3 ty4 ty5 ty6 ty7:TypeId):zm1 c d ty0 ty1 ty2 ty3 ty4 ty5 ty6 ty7=z2r TT rSameC_g (rSameC_I c d) (rSameC_an c d) Tryz.f43 [.agg [.int .i64 c.kind,.row 0,.row 1,.row 2,.row 3],.agg [.int .i64 d.kind,.row 4,.row 5,.row 6,.row 7]] [(0,.row false ty0 (.ints .i64 c.flow)),(1,.row false ty1 (.ints .i64 c.pot)),(2,.row false ty2 (.bools c.side)),(3,.row false ty3 (.ints .i64 c.cycle)),(4,.row false ty4 (.ints .i64 d.flow)),(5,.row false ty5 (.ints .i64 d.pot)),(6,.row false ty6 (.bools d.side)),(7,.row false ty7 (.ints .i64 d.cycle))] (rSameC_r c d):=by kernel_rfl
theorem rSameC_E (c:Cert) (d:Cert) (ty0 ty1 ty2 ty3 ty4 ty5 ty6 ty7:TypeId) (hp:c.flow.length <= 1000000000/\c.pot.length <= 1000000000/\c.side.length <= 1000000000/\c.cycle.length <= 1000000000):FVc TT rSameC_g (rSameC_I c d) (rSameC_an c d) Tryz.f43 [.agg [.int .i64 c.kind,.row 0,.row 1,.row 2,.row 3],.agg [.int .i64 d.kind,.row 4,.row 5,.row 6,.row 7]] [(0,.row false ty0 (.ints .i64 c.flow)),(1,.row false ty1 (.ints .i64 c.pot)),(2,.row false ty2 (.bools c.side)),(3,.row false ty3 (.ints .i64 c.cycle)),(4,.row false ty4 (.ints .i64 d.flow)),(5,.row false ty5 (.ints .i64 d.pot)),(6,.row false ty6 (.bools d.side)),(7,.row false ty7 (.ints .i64 d.cycle))] (rSameC_r c d):=by
 refine FVc.of (zm1 c d ty0 ty1 ty2 ty3 ty4 ty5 ty6 ty7) (rSameC_q c d ty0 ty1 ty2 ty3 ty4 ty5 ty6 ty7) ?_
 unfold zm1
 simp only [eq_self,exists_const,forall_const,ne_eq,Int.toNat_natCast,zSS,z07]
 obtain ⟨a1,a2,a3,a4⟩:=hp
 refine ⟨fun h0=>⟨a1,fun h1=>⟨a2,fun h2=>⟨a3,fun h3=>⟨a4,?_⟩,fun h3=>?_⟩,fun h2=>?_⟩,fun h1=>?_⟩,fun h0=>?_⟩
 ·exact decide_eq_decide.2 ⟨fun e=>cert_ext.2 ⟨h0,h1,h2,h3,e⟩,fun e=>by rw [e]⟩
 ·exact (decide_eq_false fun e=>h3 (by rw [e])).symm
 ·exact (decide_eq_false fun e=>h2 (by rw [e])).symm
 ·exact (decide_eq_false fun e=>h1 (by rw [e])).symm
 ·exact (decide_eq_false fun e=>h0 (by rw [e])).symm
theorem rSameC_ok:SpecOk Tryz.prog rSameC_n true (z03 true zm2) :=
 z0b z0r (show z1c Tryz.prog rSameC_g from z00 Nums_ok (z00 Bools_ok (z00 Ints_ok (z05)))) (by kernel_rfl) mixedOrders Tryz.func43 rfl rfl (by kernel_rfl) (n:=2) (by decide +kernel) (I:=rSameC_IA) (fun _ _=>z06) (A:=rSameC_A)
  (fun args h r hr=>by
   unfold zm2 at hr
   split at hr
   ·rename_i c_k d_k ty0 c_f ty1 c_p ty2 c_s ty3 c_y ty4 d_f ty5 d_p ty6 d_s ty7 d_y; cases hr; refine ⟨rfl,fun hp=>?_⟩; have hE:=rSameC_E ⟨c_k,c_f,c_p,c_s,c_y⟩ ⟨d_k,d_f,d_p,d_s,d_y⟩ ty0 ty1 ty2 ty3 ty4 ty5 ty6 ty7 hp; exact hE
   ·cases hr)
def zg6 (c:Cert):FRes:={ pre:=True,res:=.bool (z3o c),rows:=[],eff:=[] }
def zc7:FS:=fun args h=>match args,h with
 | [.agg [.int .i64 c_k,.row 0,.row 1,.row 2,.row 3]],[(0,.row false ty0 (.ints .i64 c_f)),(1,.row false ty1 (.ints .i64 c_p)),(2,.row false ty2 (.bools c_s)),(3,.row false ty3 (.ints .i64 c_y))]=>some (zg6 ⟨c_k,c_f,c_p,c_s,c_y⟩)
 | _,_=>none
def zlv (c:Cert):List (Nat × Ann):=[]
def rPlain13_A:List SV->z0d->List (Nat × Ann):=fun _ _=>[]
def zg5:z0c:=[]
abbrev rPlain13_n:Nat:=53
def rPlain13_I (c:Cert):List (Nat × z08):=[]
def rPlain13_IA:List SV->z0d->List (Nat × z08):=fun _ _=>[]
def zg1 (I:Inst) (c:Cert):FRes:={ pre:=z69 c/\zgy I/\c.cycle.length <= 1000000,res:=.int .i64 (z28 I c),rows:=[],eff:=[] }
def z8n:FS:=fun args h=>match args,h with
 | [.agg [.row 0,.row 1],.agg [.int .i64 c_k,.row 2,.row 3,.row 4,.row 5]],[(0,.row false ty0 (.ints .i64 I_s)),(1,.row false ty1 (.arcs I_a)),(2,.row false ty2 (.ints .i64 c_f)),(3,.row false ty3 (.ints .i64 c_p)),(4,.row false ty4 (.bools c_s)),(5,.row false ty5 (.ints .i64 c_y))]=>some (zg1 ⟨I_s,I_a⟩ ⟨c_k,c_f,c_p,c_s,c_y⟩)
 | _,_=>none
def zlp (I:Inst) (c:Cert):List (Nat × Ann):=[]
def rCheck13_A:List SV->z0d->List (Nat × Ann):=fun _ _=>[]
def zfz:z0c:=[(z8p,(true,z03 true z5o)),(rPlain13_n,(true,z03 true zc7)),(rSlack_n,(true,z03 true zm5)),(rProves_n,(true,z03 true zg8)),(rFits_n,(true,z03 true zi6)),(rTurns_n,(true,z03 true zma))]
abbrev zg0:Nat:=18
def rCheck13_I (I:Inst) (c:Cert):List (Nat × z08):=[]
def rCheck13_IA:List SV->z0d->List (Nat × z08):=fun _ _=>[]
def zc6 (c : Cert) (ty0 ty1 ty2 ty3 : TypeId) : Prop :=
      ((c.kind == (1:Int))=true ->
 (((↑c.side.length:Int) == (0:Int))=true->(((↑c.cycle.length:Int) == (0:Int))=z3o c/\True)/\True) /\
 (((↑c.side.length:Int) == (0:Int))=false->(false=z3o c/\True)/\True)) /\
 ((c.kind == (1:Int))=false ->
 ((c.kind == (2:Int))=true ->
 (((↑c.flow.length:Int) == (0:Int))=true ->
 (((↑c.pot.length:Int) == (0:Int))=true->(((↑c.cycle.length:Int) == (0:Int))=z3o c/\True)/\True) /\
 (((↑c.pot.length:Int) == (0:Int))=false->(false=z3o c/\True)/\True)) /\
 (((↑c.flow.length:Int) == (0:Int))=false->(false=z3o c/\True)/\True)) /\
 ((c.kind == (2:Int))=false ->
 ((c.kind == (3:Int))=true ->
 (((↑c.pot.length:Int) == (0:Int))=true->(((↑c.side.length:Int) == (0:Int))=z3o c/\True)/\True) /\
 (((↑c.pot.length:Int) == (0:Int))=false->(false=z3o c/\True)/\True)) /\
 ((c.kind == (3:Int))=false->(false=z3o c/\True)/\True)))
theorem rPlain13_q (c:Cert) (ty0 ty1 ty2 ty3:TypeId):zc6 c ty0 ty1 ty2 ty3=z2r TT zg5 (rPlain13_I c) (zlv c) Tryz.f53 [.agg [.int .i64 c.kind,.row 0,.row 1,.row 2,.row 3]] [(0,.row false ty0 (.ints .i64 c.flow)),(1,.row false ty1 (.ints .i64 c.pot)),(2,.row false ty2 (.bools c.side)),(3,.row false ty3 (.ints .i64 c.cycle))] (zg6 c):=by kernel_rfl
theorem rPlain13_E (c:Cert) (ty0 ty1 ty2 ty3:TypeId) (hp:True):FVc TT zg5 (rPlain13_I c) (zlv c) Tryz.f53 [.agg [.int .i64 c.kind,.row 0,.row 1,.row 2,.row 3]] [(0,.row false ty0 (.ints .i64 c.flow)),(1,.row false ty1 (.ints .i64 c.pot)),(2,.row false ty2 (.bools c.side)),(3,.row false ty3 (.ints .i64 c.cycle))] (zg6 c):=by
 refine FVc.of (zc6 c ty0 ty1 ty2 ty3) (rPlain13_q c ty0 ty1 ty2 ty3) ?_
 unfold zc6
 simp only [eq_self,exists_const,forall_const,ne_eq,Int.toNat_natCast,zSS,z07]
 unfold z3o
 have b0:∀ n:Nat,(((n:Int) == 0):Bool)=decide (n=0):=fun n=>by by_cases h:n=0 <;> simp [h]
 simp only [b0]
 refine ⟨fun k1=>⟨fun h1=>?_,fun h1=>?_⟩,fun k1=>⟨fun k2=>⟨fun h1=>⟨fun h2=>?_,fun h2=>?_⟩,fun h1=>?_⟩,fun k2=>⟨fun k3=>⟨fun h1=>?_,fun h1=>?_⟩,fun k3=>?_⟩⟩⟩
 all_goals
  first
   | (rw [if_pos (by assumption)])
   | (rw [if_neg (by assumption),if_pos (by assumption)])
   | (rw [if_neg (by assumption),if_neg (by assumption),if_pos (by assumption)])
   | (rw [if_neg (by assumption),if_neg (by assumption),if_neg (by assumption)])
 all_goals simp_all
theorem rPlain13_ok:SpecOk Tryz.prog rPlain13_n true (z03 true zc7) :=
 z0b z0r (show z1c Tryz.prog zg5 from z05) (by kernel_rfl) mixedOrders Tryz.func53 rfl rfl (by kernel_rfl) (n:=1) (by decide +kernel) (I:=rPlain13_IA) (fun _ _=>z06) (A:=rPlain13_A)
  (fun args h r hr=>by
   unfold zc7 at hr
   split at hr
   ·rename_i c_k ty0 c_f ty1 c_p ty2 c_s ty3 c_y; cases hr; refine ⟨rfl,fun hp=>?_⟩; have hE:=rPlain13_E ⟨c_k,c_f,c_p,c_s,c_y⟩ ty0 ty1 ty2 ty3 hp; exact hE
   ·cases hr)
def zc3 (I : Inst) (c : Cert) (ty0 ty1 ty2 ty3 ty4 ty5 : TypeId) : Prop :=
      True /\
 ((z02 I != (0:Int))=true->(z02 I=z28 I c/\True)/\True) /\
 ((z02 I != (0:Int))=false ->
 True /\
 ((!z3o { kind:=c.kind,flow:=c.flow,pot:=c.pot,side:=c.side,cycle:=c.cycle:Cert })=true->((36:Int)=z28 I c/\True)/\True) /\
 ((!z3o { kind:=c.kind,flow:=c.flow,pot:=c.pot,side:=c.side,cycle:=c.cycle:Cert })=false ->
 ((c.kind == (1:Int))=true ->
 (I.sup.length <= (10000:Nat)/\I.arcs.length <= (10000:Nat)/\A64 c.flow/\A64 I.sup/\A64 c.pot/\A64c I.arcs) /\
 (z1l I c.flow c.pot=z28 I c/\True)/\True) /\
 ((c.kind == (1:Int))=false ->
 ((c.kind == (2:Int))=true ->
 (A64a I.arcs/\I.arcs.length <= (140737488351232:Nat)/\A64 I.sup/\I.sup.length <= (140737488351232:Nat))/\(z32 I c.side=z28 I c/\True)/\True) /\
 ((c.kind == (2:Int))=false ->
 (I.sup.length <= (10000:Nat)/\I.arcs.length <= (10000:Nat)/\A64 c.flow/\A64 I.sup) /\
 ((z1w I c.flow != (0:Int))=true->(z1w I c.flow=z28 I c/\True)/\True) /\
 ((z1w I c.flow != (0:Int))=false->(c.cycle.length <= (1000000:Nat)/\A64c I.arcs)/\(z3e I c.cycle=z28 I c/\True)/\True)))))
theorem rCheck13_q (I:Inst) (c:Cert) (ty0 ty1 ty2 ty3 ty4 ty5:TypeId):zc3 I c ty0 ty1 ty2 ty3 ty4 ty5=z2r TT zfz (rCheck13_I I c) (zlp I c) Tryz.f18 [.agg [.row 0,.row 1],.agg [.int .i64 c.kind,.row 2,.row 3,.row 4,.row 5]] [(0,.row false ty0 (.ints .i64 I.sup)),(1,.row false ty1 (.arcs I.arcs)),(2,.row false ty2 (.ints .i64 c.flow)),(3,.row false ty3 (.ints .i64 c.pot)),(4,.row false ty4 (.bools c.side)),(5,.row false ty5 (.ints .i64 c.cycle))] (zg1 I c):=by kernel_rfl
theorem rCheck13_E (I:Inst) (c:Cert) (ty0 ty1 ty2 ty3 ty4 ty5:TypeId) (hp:z69 c/\zgy I/\c.cycle.length <= 1000000):FVc TT zfz (rCheck13_I I c) (zlp I c) Tryz.f18 [.agg [.row 0,.row 1],.agg [.int .i64 c.kind,.row 2,.row 3,.row 4,.row 5]] [(0,.row false ty0 (.ints .i64 I.sup)),(1,.row false ty1 (.arcs I.arcs)),(2,.row false ty2 (.ints .i64 c.flow)),(3,.row false ty3 (.ints .i64 c.pot)),(4,.row false ty4 (.bools c.side)),(5,.row false ty5 (.ints .i64 c.cycle))] (zg1 I c):=by
 refine FVc.of (zc3 I c ty0 ty1 ty2 ty3 ty4 ty5) (rCheck13_q I c ty0 ty1 ty2 ty3 ty4 ty5) ?_
 unfold zc3
 obtain ⟨c1,c2,c3,c4,c5,c6⟩:=hp.1
 obtain ⟨i1,i2,i3,i4,i5⟩:=hp.2.1
 have l1:=hp.2.2
 simp only [eq_self,exists_const,forall_const,ne_eq,Int.toNat_natCast,zSS,z07]
 refine ⟨fun h=>by unfold z28; rw [if_pos h],fun h=>⟨fun h2=>by unfold z28; rw [if_neg (fun h5=>h5 h),if_pos h2],fun h2=>?_⟩⟩
 have e0:z28 I c=if c.kind=1 then z1l I c.flow c.pot else if c.kind=2 then z32 I c.side else if z1w I c.flow ≠ 0 then z1w I c.flow else z3e I c.cycle:=by
  unfold z28; rw [if_neg (fun h5=>h5 h),if_neg (by rw [h2]; simp)]
 rw [e0]
 exact ⟨fun k1=>⟨⟨i1,i2,c1,i3,c2,i5⟩,by rw [if_pos k1]⟩,fun k1=>⟨fun k2=>⟨⟨i4,by omega,i3,by omega⟩,by rw [if_neg k1,if_pos k2]⟩,fun k2=>⟨⟨i1,i2,c1,i3⟩,fun f=>by rw [if_neg k1,if_neg k2,if_pos f],fun f=>⟨⟨l1,i5⟩,by rw [if_neg k1,if_neg k2,if_neg (fun h5=>h5 f)]⟩⟩⟩⟩
theorem zlq:SpecOk Tryz.prog zg0 true (z03 true z8n) :=
 z0b z0r (show z1c Tryz.prog zfz from z00 z7q (z00 rPlain13_ok (z00 rSlack_ok (z00 rProves_ok (z00 rFits_ok (z00 rTurns_ok (z05))))))) (by kernel_rfl) mixedOrders Tryz.func18 rfl rfl (by kernel_rfl) (n:=2) (by decide +kernel) (I:=rCheck13_IA) (fun _ _=>z06) (A:=rCheck13_A)
  (fun args h r hr=>by
   unfold z8n at hr
   split at hr
   ·rename_i c_k ty0 I_s ty1 I_a ty2 c_f ty3 c_p ty4 c_s ty5 c_y; cases hr; refine ⟨rfl,fun hp=>?_⟩; have hE:=rCheck13_E ⟨I_s,I_a⟩ ⟨c_k,c_f,c_p,c_s,c_y⟩ ty0 ty1 ty2 ty3 ty4 ty5 hp; exact hE
   ·cases hr)
abbrev zem:Nat:=153
def some64_g:z0c:=[]
def z6u:Vc.Spec:=z9i TT some64_g (fun _ _ _=>[]) Tryz.f153
abbrev zgo:Nat:=150
def someS_g:z0c:=[]
def z67:Vc.Spec:=z9i TT someS_g (fun _ _ _=>[]) Tryz.f150
abbrev zgn:Nat:=151
def someI_g:z0c:=[]
def z66:Vc.Spec:=z9i TT someI_g (fun _ _ _=>[]) Tryz.f151
def everyw_r (n:Int):FRes:={ pre:=True,res:=.bool (true),rows:=[],eff:=[] }
def z9g:FS:=fun args h=>match args,h with
 | [.int .i64 n],[]=>some (everyw_r n)
 | _,_=>none
def everyw_an (n:Int):List (Nat × Ann):=[]
def everyw_A:List SV->z0d->List (Nat × Ann):=fun _ _=>[]
def everyw_g:z0c:=[]
abbrev zhu:Nat:=105
def everyw_I (n:Int):List (Nat × z08):=[]
def everyw_IA:List SV->z0d->List (Nat × z08):=fun _ _=>[]
def ends_r (w:Inst) (w_x:List Int) (w_o:List Int) (w_t:Ql.Rows3) (w_v:List Value) (s:Int) (s_b:Bool):FRes:={ pre:=z1i w s,res:=.tup [.int .i64 (frS w (s.toNat,s_b)),.int .i64 (toS w (s.toNat,s_b))],rows:=[],eff:=[] }
def z6j:FS:=fun args h=>match args,h with
 | [.ptr 0 0 0 0,.agg [.int .i64 s,.bool s_b]],[(0,.box false 109 [.row 1,.row 2,.row 3,.row 4,.row 5]),(1,.row false ty1 (.ints .i64 w_s)),(2,.row false ty2 (.arcs w_a)),(3,.row false ty3 (.ints .i64 w_x)),(4,.row false ty4 (.ints .i64 w_o)),(5,.deep false ty5 tz5 (.recs (.int .i64) [.bool] w_t) w_v none)]=>some (ends_r ⟨w_s,w_a⟩ w_x w_o w_t w_v s s_b)
 | _,_=>none
def ends_an (w:Inst) (w_x:List Int) (w_o:List Int) (w_t:Ql.Rows3) (w_v:List Value) (s:Int) (s_b:Bool):List (Nat × Ann):=[]
def ends_A:List SV->z0d->List (Nat × Ann):=fun _ _=>[]
def ends_g:z0c:=[]
abbrev zbb:Nat:=107
def ends_I (w:Inst) (w_x:List Int) (w_o:List Int) (w_t:Ql.Rows3) (w_v:List Value) (s:Int) (s_b:Bool):List (Nat × z08):=[]
def ends_IA:List SV->z0d->List (Nat × z08):=fun _ _=>[]
def cost20_r (w:Inst) (w_x:List Int) (w_o:List Int) (w_t:Ql.Rows3) (w_v:List Value) (s:Int) (s_b:Bool):FRes:={ pre:=z1i w s,res:=.int .i64 (csS w (s.toNat,s_b)),rows:=[],eff:=[] }
def z6h:FS:=fun args h=>match args,h with
 | [.ptr 0 0 0 0,.agg [.int .i64 s,.bool s_b]],[(0,.box false 109 [.row 1,.row 2,.row 3,.row 4,.row 5]),(1,.row false ty1 (.ints .i64 w_s)),(2,.row false ty2 (.arcs w_a)),(3,.row false ty3 (.ints .i64 w_x)),(4,.row false ty4 (.ints .i64 w_o)),(5,.deep false ty5 tz5 (.recs (.int .i64) [.bool] w_t) w_v none)]=>some (cost20_r ⟨w_s,w_a⟩ w_x w_o w_t w_v s s_b)
 | _,_=>none
def cost20_an (w:Inst) (w_x:List Int) (w_o:List Int) (w_t:Ql.Rows3) (w_v:List Value) (s:Int) (s_b:Bool):List (Nat × Ann):=[]
def cost20_A:List SV->z0d->List (Nat × Ann):=fun _ _=>[]
def cost20_g:z0c:=[]
abbrev zao:Nat:=154
def cost20_I (w:Inst) (w_x:List Int) (w_o:List Int) (w_t:Ql.Rows3) (w_v:List Value) (s:Int) (s_b:Bool):List (Nat × z08):=[]
def cost20_IA:List SV->z0d->List (Nat × z08):=fun _ _=>[]
def room20_r (w:Inst) (w_x:List Int) (w_o:List Int) (w_t:Ql.Rows3) (w_v:List Value) (s:Int) (s_b:Bool):FRes:={ pre:=z1i w s/\w_x.length=w.arcs.length/\XB w_x,res:=.int .i64 (rmS w w_x (s.toNat,s_b)),rows:=[],eff:=[] }
def z6r:FS:=fun args h=>match args,h with
 | [.ptr 0 0 0 0,.agg [.int .i64 s,.bool s_b]],[(0,.box false 109 [.row 1,.row 2,.row 3,.row 4,.row 5]),(1,.row false ty1 (.ints .i64 w_s)),(2,.row false ty2 (.arcs w_a)),(3,.row false ty3 (.ints .i64 w_x)),(4,.row false ty4 (.ints .i64 w_o)),(5,.deep false ty5 tz5 (.recs (.int .i64) [.bool] w_t) w_v none)]=>some (room20_r ⟨w_s,w_a⟩ w_x w_o w_t w_v s s_b)
 | _,_=>none
def room20_an (w:Inst) (w_x:List Int) (w_o:List Int) (w_t:Ql.Rows3) (w_v:List Value) (s:Int) (s_b:Bool):List (Nat × Ann):=[]
def room20_A:List SV->z0d->List (Nat × Ann):=fun _ _=>[]
def room20_g:z0c:=[]
abbrev zax:Nat:=112
def room20_I (w:Inst) (w_x:List Int) (w_o:List Int) (w_t:Ql.Rows3) (w_v:List Value) (s:Int) (s_b:Bool):List (Nat × z08):=[]
def room20_IA:List SV->z0d->List (Nat × z08):=fun _ _=>[]
def endl20_r (w:Inst) (w_x:List Int) (w_o:List Int) (w_t:Ql.Rows3) (w_v:List Value) (s:Int) (s_b:Bool):FRes:={ pre:=z1i w s,res:=.bool (Ql.endS w (s.toNat,s_b)),rows:=[],eff:=[] }
def zda:FS:=fun args h=>match args,h with
 | [.ptr 0 0 0 0,.agg [.int .i64 s,.bool s_b]],[(0,.box false 109 [.row 1,.row 2,.row 3,.row 4,.row 5]),(1,.row false ty1 (.ints .i64 w_s)),(2,.row false ty2 (.arcs w_a)),(3,.row false ty3 (.ints .i64 w_x)),(4,.row false ty4 (.ints .i64 w_o)),(5,.deep false ty5 tz5 (.recs (.int .i64) [.bool] w_t) w_v none)]=>some (endl20_r ⟨w_s,w_a⟩ w_x w_o w_t w_v s s_b)
 | _,_=>none
def endl20_an (w:Inst) (w_x:List Int) (w_o:List Int) (w_t:Ql.Rows3) (w_v:List Value) (s:Int) (s_b:Bool):List (Nat × Ann):=[]
def endl20_A:List SV->z0d->List (Nat × Ann):=fun _ _=>[]
def endl20_g:z0c:=[]
abbrev endl20_n:Nat:=106
def endl20_I (w:Inst) (w_x:List Int) (w_o:List Int) (w_t:Ql.Rows3) (w_v:List Value) (s:Int) (s_b:Bool):List (Nat × z08):=[]
def endl20_IA:List SV->z0d->List (Nat × z08):=fun _ _=>[]
def zmg (s:Int) (s_b:Bool) (w:Inst) (w_x:List Int) (w_o:List Int) (w_t:Ql.Rows3) (w_v:List Value) (w_l:Int):FRes:={ pre:=z1i w s/\w_x.length=w.arcs.length/\XB w_x,res:=.bool (decide (w_l <= rmS w w_x (s.toNat,s_b))),rows:=[],eff:=[] }
def zay:FS:=fun args h=>match args,h with
 | [.agg [.int .i64 s,.bool s_b],.ptr 0 0 0 0,.ptr 7 0 0 0],[(0,.box false 102 [.ptr 1 0 0 0]),(1,.box false 109 [.row 2,.row 3,.row 4,.row 5,.row 6]),(2,.row false ty2 (.ints .i64 w_s)),(3,.row false ty3 (.arcs w_a)),(4,.row false ty4 (.ints .i64 w_x)),(5,.row false ty5 (.ints .i64 w_o)),(6,.deep false ty6 tz6 (.recs (.int .i64) [.bool] w_t) w_v none),(7,.box false 2 [.int .i64 w_l])]=>some (zmg s s_b ⟨w_s,w_a⟩ w_x w_o w_t w_v w_l)
 | _,_=>none
def roomy20_an (s:Int) (s_b:Bool) (w:Inst) (w_x:List Int) (w_o:List Int) (w_t:Ql.Rows3) (w_v:List Value) (w_l:Int):List (Nat × Ann):=[]
def roomy20_A:List SV->z0d->List (Nat × Ann):=fun _ _=>[]
def zme:z0c:=[(zax,(true,z03 true z6r))]
abbrev zmf:Nat:=111
def roomy20_I (s:Int) (s_b:Bool) (w:Inst) (w_x:List Int) (w_o:List Int) (w_t:Ql.Rows3) (w_v:List Value) (w_l:Int):List (Nat × z08):=[]
def roomy20_IA:List SV->z0d->List (Nat × z08):=fun _ _=>[]
def posi20_r (s:Int) (s_b:Bool) (w:Inst) (w_x:List Int) (w_o:List Int) (w_t:Ql.Rows3) (w_v:List Value):FRes:={ pre:=z1i w s/\w_x.length=w.arcs.length/\XB w_x,res:=.bool (Ql.endS w (s.toNat,s_b) || decide (0<rmS w w_x (s.toNat,s_b))),rows:=[],eff:=[] }
def zl8:FS:=fun args h=>match args,h with
 | [.agg [.int .i64 s,.bool s_b],.ptr 0 0 0 0],[(0,.box false 102 [.ptr 1 0 0 0]),(1,.box false 109 [.row 2,.row 3,.row 4,.row 5,.row 6]),(2,.row false ty2 (.ints .i64 w_s)),(3,.row false ty3 (.arcs w_a)),(4,.row false ty4 (.ints .i64 w_x)),(5,.row false ty5 (.ints .i64 w_o)),(6,.deep false ty6 tz6 (.recs (.int .i64) [.bool] w_t) w_v none)]=>some (posi20_r s s_b ⟨w_s,w_a⟩ w_x w_o w_t w_v)
 | _,_=>none
def posi20_an (s:Int) (s_b:Bool) (w:Inst) (w_x:List Int) (w_o:List Int) (w_t:Ql.Rows3) (w_v:List Value):List (Nat × Ann):=[]
def posi20_A:List SV->z0d->List (Nat × Ann):=fun _ _=>[]
def posi20_g:z0c:=[(zax,(true,z03 true z6r)),(endl20_n,(true,z03 true zda))]
abbrev posi20_n:Nat:=114
def posi20_I (s:Int) (s_b:Bool) (w:Inst) (w_x:List Int) (w_o:List Int) (w_t:Ql.Rows3) (w_v:List Value):List (Nat × z08):=[]
def posi20_IA:List SV->z0d->List (Nat × z08):=fun _ _=>[]
def over20_r (n:Int) (w:Inst) (w_x:List Int) (w_o:List Int) (w_t:Ql.Rows3) (w_v:List Value) (w_l:Int):FRes:={ pre:=0 <= n/\n<w_o.length,res:=.bool (decide (w_l <= w_o.getD n.toNat 0)),rows:=[],eff:=[] }
def zl3:FS:=fun args h=>match args,h with
 | [.int .i64 n,.ptr 0 0 0 0,.ptr 7 0 0 0],[(0,.box false 102 [.ptr 1 0 0 0]),(1,.box false 109 [.row 2,.row 3,.row 4,.row 5,.row 6]),(2,.row false ty2 (.ints .i64 w_s)),(3,.row false ty3 (.arcs w_a)),(4,.row false ty4 (.ints .i64 w_x)),(5,.row false ty5 (.ints .i64 w_o)),(6,.deep false ty6 tz6 (.recs (.int .i64) [.bool] w_t) w_v none),(7,.box false 2 [.int .i64 w_l])]=>some (over20_r n ⟨w_s,w_a⟩ w_x w_o w_t w_v w_l)
 | _,_=>none
def over20_an (n:Int) (w:Inst) (w_x:List Int) (w_o:List Int) (w_t:Ql.Rows3) (w_v:List Value) (w_l:Int):List (Nat × Ann):=[]
def over20_A:List SV->z0d->List (Nat × Ann):=fun _ _=>[]
def over20_g:z0c:=[]
abbrev over20_n:Nat:=155
def over20_I (n:Int) (w:Inst) (w_x:List Int) (w_o:List Int) (w_t:Ql.Rows3) (w_v:List Value) (w_l:Int):List (Nat × z08):=[]
def over20_IA:List SV->z0d->List (Nat × z08):=fun _ _=>[]
def push20_r (w:Inst) (w_x:List Int) (w_o:List Int) (w_t:Ql.Rows3) (w_v:List Value) (s:Int) (s_b:Bool) (n:Int):FRes:={ pre:=z1i w s/\w_x.length=w.arcs.length/\w_o.length=w.sup.length/\XB w_x/\XB w_o/\-1152921504606846976 <= n/\n <= 1152921504606846976,res:=.tup [],rows:=[],eff:=[(0,.box true 109 [.row 1,.row 2,.row 3,.row 4,.row 5]),(3,.row true 2 (.ints .i64 (z4s w_x (s.toNat,s_b) n))),(4,.row true 2 (.ints .i64 (z6y w w_o (s.toNat,s_b) n))),(5,.deep true 149 147 (.recs (.int .i64) [.bool] w_t) w_v none)] }
def z9v:FS:=fun args h=>match args,h with
 | [.ptr 0 0 0 0,.agg [.int .i64 s,.bool s_b],.int .i64 n],[(0,.box true 109 [.row 1,.row 2,.row 3,.row 4,.row 5]),(1,.row false ty1 (.ints .i64 w_s)),(2,.row false ty2 (.arcs w_a)),(3,.row true 2 (.ints .i64 w_x)),(4,.row true 2 (.ints .i64 w_o)),(5,.deep true 149 147 (.recs (.int .i64) [.bool] w_t) w_v none)]=>some (push20_r ⟨w_s,w_a⟩ w_x w_o w_t w_v s s_b n)
 | _,_=>none
def push20_an (w:Inst) (w_x:List Int) (w_o:List Int) (w_t:Ql.Rows3) (w_v:List Value) (s:Int) (s_b:Bool) (n:Int):List (Nat × Ann):=[]
def push20_A:List SV->z0d->List (Nat × Ann):=fun _ _=>[]
def push20_g:z0c:=[(zbb,(true,z03 true z6j))]
abbrev zi3:Nat:=98
def push20_I (w:Inst) (w_x:List Int) (w_o:List Int) (w_t:Ql.Rows3) (w_v:List Value) (s:Int) (s_b:Bool) (n:Int):List (Nat × z08):=[]
def push20_IA:List SV->z0d->List (Nat × z08):=fun _ _=>[]
theorem zen:SpecOk Tryz.prog zem false z6u :=
 inl_ok z0r (show z1c Tryz.prog some64_g from z05) (by kernel_rfl) mixedOrders Tryz.func153 rfl rfl (by kernel_rfl) _
theorem zep:SpecOk Tryz.prog zgo false z67 :=
 inl_ok z0r (show z1c Tryz.prog someS_g from z05) (by kernel_rfl) mixedOrders Tryz.func150 rfl rfl (by kernel_rfl) _
theorem zeo:SpecOk Tryz.prog zgn false z66 :=
 inl_ok z0r (show z1c Tryz.prog someI_g from z05) (by kernel_rfl) mixedOrders Tryz.func151 rfl rfl (by kernel_rfl) _
def zk2 (n : Int) : Prop :=
   (true=true/\True)/\True
theorem everyw_q (n:Int):zk2 n=z2r TT everyw_g (everyw_I n) (everyw_an n) Tryz.f105 [.int .i64 n] [] (everyw_r n):=by kernel_rfl
theorem everyw_E (n:Int) (hp:True):FVc TT everyw_g (everyw_I n) (everyw_an n) Tryz.f105 [.int .i64 n] [] (everyw_r n):=by
 refine FVc.of (zk2 n) (everyw_q n) ?_
 unfold zk2
 simp only [eq_self,exists_const,forall_const,ne_eq,Int.toNat_natCast,zSS,z07]
theorem zk3:SpecOk Tryz.prog zhu true (z03 true z9g) :=
 z0b z0r (show z1c Tryz.prog everyw_g from z05) (by kernel_rfl) mixedOrders Tryz.func105 rfl rfl (by kernel_rfl) (n:=1) (by decide +kernel) (I:=everyw_IA) (fun _ _=>z06) (A:=everyw_A)
  (fun args h r hr=>by
   unfold z9g at hr
   split at hr
   ·rename_i n; cases hr; refine ⟨rfl,fun hp=>?_⟩; have hE:=everyw_E n hp; exact hE
   ·cases hr)
def ends_E0 (w : Inst) (w_x : List Int) (w_o : List Int) (w_t : Ql.Rows3) (w_v : List Value) (s : Int) (s_b : Bool) (ty1 ty2 ty3 ty4 ty5 tz5 : TypeId) : Prop :=
      ((0:Int) <= s/\s<(↑w.arcs.length:Int)) /\
 s.toNat<w.arcs.length /\
 ∀ (x:Arc),
 w.arcs[s.toNat]? = some x ->
 (s_b=true->((x.dst=(↑(frS w (s.toNat,s_b)):Int)/\x.src=(↑(toS w (s.toNat,s_b)):Int)/\True)/\True)/\True) /\
 (s_b=false->((x.src=(↑(frS w (s.toNat,s_b)):Int)/\x.dst=(↑(toS w (s.toNat,s_b)):Int)/\True)/\True)/\True)
theorem ends_q (w:Inst) (w_x:List Int) (w_o:List Int) (w_t:Ql.Rows3) (w_v:List Value) (s:Int) (s_b:Bool) (ty1 ty2 ty3 ty4 ty5 tz5:TypeId):ends_E0 w w_x w_o w_t w_v s s_b ty1 ty2 ty3 ty4 ty5 tz5=z2r TT ends_g (ends_I w w_x w_o w_t w_v s s_b) (ends_an w w_x w_o w_t w_v s s_b) Tryz.f107 [.ptr 0 0 0 0,.agg [.int .i64 s,.bool s_b]] [(0,.box false 109 [.row 1,.row 2,.row 3,.row 4,.row 5]),(1,.row false ty1 (.ints .i64 w.sup)),(2,.row false ty2 (.arcs w.arcs)),(3,.row false ty3 (.ints .i64 w_x)),(4,.row false ty4 (.ints .i64 w_o)),(5,.deep false ty5 tz5 (.recs (.int .i64) [.bool] w_t) w_v none)] (ends_r w w_x w_o w_t w_v s s_b):=by kernel_rfl
theorem ends_E (w:Inst) (w_x:List Int) (w_o:List Int) (w_t:Ql.Rows3) (w_v:List Value) (s:Int) (s_b:Bool) (ty1 ty2 ty3 ty4 ty5 tz5:TypeId) (hp:z1i w s):FVc TT ends_g (ends_I w w_x w_o w_t w_v s s_b) (ends_an w w_x w_o w_t w_v s s_b) Tryz.f107 [.ptr 0 0 0 0,.agg [.int .i64 s,.bool s_b]] [(0,.box false 109 [.row 1,.row 2,.row 3,.row 4,.row 5]),(1,.row false ty1 (.ints .i64 w.sup)),(2,.row false ty2 (.arcs w.arcs)),(3,.row false ty3 (.ints .i64 w_x)),(4,.row false ty4 (.ints .i64 w_o)),(5,.deep false ty5 tz5 (.recs (.int .i64) [.bool] w_t) w_v none)] (ends_r w w_x w_o w_t w_v s s_b):=by
 refine FVc.of (ends_E0 w w_x w_o w_t w_v s s_b ty1 ty2 ty3 ty4 ty5 tz5) (ends_q w w_x w_o w_t w_v s s_b ty1 ty2 ty3 ty4 ty5 tz5) ?_
 unfold ends_E0
 obtain ⟨hr,h0,h1⟩:=hp
 have ok:=z1j hr (a:=s.toNat) (by omega)
 obtain ⟨k0,k1,k2,k3,k4,k5,k6,k7,k8⟩:=ok
 simp only [eq_self,exists_const,forall_const,ne_eq,Int.toNat_natCast,zSS,z07]
 refine ⟨by omega,by omega,fun a ha=>?_⟩
 rw [z27 ha] at *
 unfold frS toS
 dsimp only
 rw [z27 ha]
 refine ⟨fun h=>?_,fun h=>?_⟩ <;> subst h
 ·simp only [if_true]; omega
 ·simp only [Bool.false_eq_true,if_false]; omega
theorem z8c:SpecOk Tryz.prog zbb true (z03 true z6j) :=
 z0b z0r (show z1c Tryz.prog ends_g from z05) (by kernel_rfl) mixedOrders Tryz.func107 rfl rfl (by kernel_rfl) (n:=2) (by decide +kernel) (I:=ends_IA) (fun _ _=>z06) (A:=ends_A)
  (fun args h r hr=>by
   unfold z6j at hr
   split at hr
   ·rename_i s s_b ty1 w_s ty2 w_a ty3 w_x ty4 w_o ty5 tz5 w_t w_v; cases hr; refine ⟨rfl,fun hp=>?_⟩; have hE:=ends_E ⟨w_s,w_a⟩ w_x w_o w_t w_v s s_b ty1 ty2 ty3 ty4 ty5 tz5 hp; exact hE
   ·cases hr)
def zjv (w : Inst) (w_x : List Int) (w_o : List Int) (w_t : Ql.Rows3) (w_v : List Value) (s : Int) (s_b : Bool) (ty1 ty2 ty3 ty4 ty5 tz5 : TypeId) : Prop :=
      (s_b=true ->
 ((0:Int) <= s/\s<(↑w.arcs.length:Int)) /\
 s.toNat<w.arcs.length/\∀ (x:Arc),w.arcs[s.toNat]? = some x->(IntKind.i64.wrap ((0:Int) - x.cost)=csS w (s.toNat,s_b)/\True)/\True) /\
 (s_b=false->((0:Int) <= s/\s<(↑w.arcs.length:Int))/\s.toNat<w.arcs.length/\∀ (x:Arc),w.arcs[s.toNat]? = some x->(x.cost=csS w (s.toNat,s_b)/\True)/\True)
theorem cost20_q (w:Inst) (w_x:List Int) (w_o:List Int) (w_t:Ql.Rows3) (w_v:List Value) (s:Int) (s_b:Bool) (ty1 ty2 ty3 ty4 ty5 tz5:TypeId):zjv w w_x w_o w_t w_v s s_b ty1 ty2 ty3 ty4 ty5 tz5=z2r TT cost20_g (cost20_I w w_x w_o w_t w_v s s_b) (cost20_an w w_x w_o w_t w_v s s_b) Tryz.f154 [.ptr 0 0 0 0,.agg [.int .i64 s,.bool s_b]] [(0,.box false 109 [.row 1,.row 2,.row 3,.row 4,.row 5]),(1,.row false ty1 (.ints .i64 w.sup)),(2,.row false ty2 (.arcs w.arcs)),(3,.row false ty3 (.ints .i64 w_x)),(4,.row false ty4 (.ints .i64 w_o)),(5,.deep false ty5 tz5 (.recs (.int .i64) [.bool] w_t) w_v none)] (cost20_r w w_x w_o w_t w_v s s_b):=by kernel_rfl
theorem cost20_E (w:Inst) (w_x:List Int) (w_o:List Int) (w_t:Ql.Rows3) (w_v:List Value) (s:Int) (s_b:Bool) (ty1 ty2 ty3 ty4 ty5 tz5:TypeId) (hp:z1i w s):FVc TT cost20_g (cost20_I w w_x w_o w_t w_v s s_b) (cost20_an w w_x w_o w_t w_v s s_b) Tryz.f154 [.ptr 0 0 0 0,.agg [.int .i64 s,.bool s_b]] [(0,.box false 109 [.row 1,.row 2,.row 3,.row 4,.row 5]),(1,.row false ty1 (.ints .i64 w.sup)),(2,.row false ty2 (.arcs w.arcs)),(3,.row false ty3 (.ints .i64 w_x)),(4,.row false ty4 (.ints .i64 w_o)),(5,.deep false ty5 tz5 (.recs (.int .i64) [.bool] w_t) w_v none)] (cost20_r w w_x w_o w_t w_v s s_b):=by
 refine FVc.of (zjv w w_x w_o w_t w_v s s_b ty1 ty2 ty3 ty4 ty5 tz5) (cost20_q w w_x w_o w_t w_v s s_b ty1 ty2 ty3 ty4 ty5 tz5) ?_
 unfold zjv
 obtain ⟨hr,h0,h1⟩:=hp
 have ok:=z1j hr (a:=s.toNat) (by omega)
 obtain ⟨k0,k1,k2,k3,k4,k5,k6,k7,k8⟩:=ok
 simp only [eq_self,exists_const,forall_const,ne_eq,Int.toNat_natCast,zSS,z07]
 unfold csS
 dsimp only
 refine ⟨fun h=>⟨by omega,by omega,fun a ha=>?_⟩,fun h=>⟨by omega,by omega,fun a ha=>?_⟩⟩ <;> rw [z27 ha] at * <;> subst h
 ·simp only [if_true]; rw [w64 (by omega) (by omega)]; omega
 ·simp only [Bool.false_eq_true,if_false]
theorem z9d:SpecOk Tryz.prog zao true (z03 true z6h) :=
 z0b z0r (show z1c Tryz.prog cost20_g from z05) (by kernel_rfl) mixedOrders Tryz.func154 rfl rfl (by kernel_rfl) (n:=2) (by decide +kernel) (I:=cost20_IA) (fun _ _=>z06) (A:=cost20_A)
  (fun args h r hr=>by
   unfold z6h at hr
   split at hr
   ·rename_i s s_b ty1 w_s ty2 w_a ty3 w_x ty4 w_o ty5 tz5 w_t w_v; cases hr; refine ⟨rfl,fun hp=>?_⟩; have hE:=cost20_E ⟨w_s,w_a⟩ w_x w_o w_t w_v s s_b ty1 ty2 ty3 ty4 ty5 tz5 hp; exact hE
   ·cases hr)
def zmd (w : Inst) (w_x : List Int) (w_o : List Int) (w_t : Ql.Rows3) (w_v : List Value) (s : Int) (s_b : Bool) (ty1 ty2 ty3 ty4 ty5 tz5 : TypeId) : Prop :=
      ((0:Int) <= s/\s<(↑w.arcs.length:Int)) /\
 s.toNat<w.arcs.length /\
 ∀ (x:Arc),
 w.arcs[s.toNat]? = some x ->
 (s_b=true ->
 ((0:Int) <= s/\s<(↑w_x.length:Int)) /\
 s.toNat<w_x.length/\∀ (x_1:Int),w_x[s.toNat]? = some x_1->(IntKind.i64.wrap (x_1 - x.low)=rmS w w_x (s.toNat,s_b)/\True)/\True) /\
 (s_b=false ->
 ((x.cap == (4611686018427387904:Int))=true->((1152921504606846976:Int)=rmS w w_x (s.toNat,s_b)/\True)/\True) /\
 ((x.cap == (4611686018427387904:Int))=false ->
 ((0:Int) <= s/\s<(↑w_x.length:Int)) /\
 s.toNat<w_x.length/\∀ (x_1:Int),w_x[s.toNat]? = some x_1->(IntKind.i64.wrap (x.cap - x_1)=rmS w w_x (s.toNat,s_b)/\True)/\True))
theorem room20_q (w:Inst) (w_x:List Int) (w_o:List Int) (w_t:Ql.Rows3) (w_v:List Value) (s:Int) (s_b:Bool) (ty1 ty2 ty3 ty4 ty5 tz5:TypeId):zmd w w_x w_o w_t w_v s s_b ty1 ty2 ty3 ty4 ty5 tz5=z2r TT room20_g (room20_I w w_x w_o w_t w_v s s_b) (room20_an w w_x w_o w_t w_v s s_b) Tryz.f112 [.ptr 0 0 0 0,.agg [.int .i64 s,.bool s_b]] [(0,.box false 109 [.row 1,.row 2,.row 3,.row 4,.row 5]),(1,.row false ty1 (.ints .i64 w.sup)),(2,.row false ty2 (.arcs w.arcs)),(3,.row false ty3 (.ints .i64 w_x)),(4,.row false ty4 (.ints .i64 w_o)),(5,.deep false ty5 tz5 (.recs (.int .i64) [.bool] w_t) w_v none)] (room20_r w w_x w_o w_t w_v s s_b):=by kernel_rfl
theorem room20_E (w:Inst) (w_x:List Int) (w_o:List Int) (w_t:Ql.Rows3) (w_v:List Value) (s:Int) (s_b:Bool) (ty1 ty2 ty3 ty4 ty5 tz5:TypeId) (hp:z1i w s/\w_x.length=w.arcs.length/\XB w_x):FVc TT room20_g (room20_I w w_x w_o w_t w_v s s_b) (room20_an w w_x w_o w_t w_v s s_b) Tryz.f112 [.ptr 0 0 0 0,.agg [.int .i64 s,.bool s_b]] [(0,.box false 109 [.row 1,.row 2,.row 3,.row 4,.row 5]),(1,.row false ty1 (.ints .i64 w.sup)),(2,.row false ty2 (.arcs w.arcs)),(3,.row false ty3 (.ints .i64 w_x)),(4,.row false ty4 (.ints .i64 w_o)),(5,.deep false ty5 tz5 (.recs (.int .i64) [.bool] w_t) w_v none)] (room20_r w w_x w_o w_t w_v s s_b):=by
 refine FVc.of (zmd w w_x w_o w_t w_v s s_b ty1 ty2 ty3 ty4 ty5 tz5) (room20_q w w_x w_o w_t w_v s s_b ty1 ty2 ty3 ty4 ty5 tz5) ?_
 unfold zmd
 obtain ⟨hp,hl,hx⟩:=hp
 obtain ⟨hr,h0,h1⟩:=hp
 have ok:=z1j hr (a:=s.toNat) (by omega)
 obtain ⟨k0,k1,k2,k3,k4,k5,k6,k7,k8⟩:=ok
 simp only [eq_self,exists_const,forall_const,ne_eq,Int.toNat_natCast,zSS,z07]
 have hb:=hx.at s.toNat
 unfold rmS
 dsimp only
 refine ⟨by omega,by omega,fun a ha=>?_⟩
 rw [z27 ha] at *
 refine ⟨fun h=>?_,fun h=>?_⟩ <;> subst h
 ·refine ⟨by omega,by omega,fun y hy=>?_⟩
  have:w_x.getD s.toNat 0=y:=by rw [List.getD_eq_getElem?_getD,hy]; rfl
  rw [this] at hb ⊢
  simp only [if_true]
  exact w64 (by omega) (by omega)
 ·simp only [Bool.false_eq_true,if_false]
  refine ⟨fun hc=>?_,fun hc=>⟨by omega,by omega,fun y hy=>?_⟩⟩
  ·rw [if_pos (show a.cap=inf from hc)]
  ·have:w_x.getD s.toNat 0=y:=by rw [List.getD_eq_getElem?_getD,hy]; rfl
   rw [this] at hb ⊢
   rw [if_neg (show ¬ a.cap=inf from hc)]
   have:=k6.resolve_left hc
   exact w64 (by omega) (by omega)
theorem za3:SpecOk Tryz.prog zax true (z03 true z6r) :=
 z0b z0r (show z1c Tryz.prog room20_g from z05) (by kernel_rfl) mixedOrders Tryz.func112 rfl rfl (by kernel_rfl) (n:=2) (by decide +kernel) (I:=room20_IA) (fun _ _=>z06) (A:=room20_A)
  (fun args h r hr=>by
   unfold z6r at hr
   split at hr
   ·rename_i s s_b ty1 w_s ty2 w_a ty3 w_x ty4 w_o ty5 tz5 w_t w_v; cases hr; refine ⟨rfl,fun hp=>?_⟩; have hE:=room20_E ⟨w_s,w_a⟩ w_x w_o w_t w_v s s_b ty1 ty2 ty3 ty4 ty5 tz5 hp; exact hE
   ·cases hr)
def zk0 (w : Inst) (w_x : List Int) (w_o : List Int) (w_t : Ql.Rows3) (w_v : List Value) (s : Int) (s_b : Bool) (ty1 ty2 ty3 ty4 ty5 tz5 : TypeId) : Prop :=
      ((!s_b)=true ->
 ((0:Int) <= s/\s<(↑w.arcs.length:Int)) /\
 s.toNat<w.arcs.length/\∀ (x:Arc),w.arcs[s.toNat]? = some x->((x.cap == (4611686018427387904:Int))=Ql.endS w (s.toNat,s_b)/\True)/\True) /\
 ((!s_b)=false->(false=Ql.endS w (s.toNat,s_b)/\True)/\True)
theorem endl20_q (w:Inst) (w_x:List Int) (w_o:List Int) (w_t:Ql.Rows3) (w_v:List Value) (s:Int) (s_b:Bool) (ty1 ty2 ty3 ty4 ty5 tz5:TypeId):zk0 w w_x w_o w_t w_v s s_b ty1 ty2 ty3 ty4 ty5 tz5=z2r TT endl20_g (endl20_I w w_x w_o w_t w_v s s_b) (endl20_an w w_x w_o w_t w_v s s_b) Tryz.f106 [.ptr 0 0 0 0,.agg [.int .i64 s,.bool s_b]] [(0,.box false 109 [.row 1,.row 2,.row 3,.row 4,.row 5]),(1,.row false ty1 (.ints .i64 w.sup)),(2,.row false ty2 (.arcs w.arcs)),(3,.row false ty3 (.ints .i64 w_x)),(4,.row false ty4 (.ints .i64 w_o)),(5,.deep false ty5 tz5 (.recs (.int .i64) [.bool] w_t) w_v none)] (endl20_r w w_x w_o w_t w_v s s_b):=by kernel_rfl
theorem endl20_E (w:Inst) (w_x:List Int) (w_o:List Int) (w_t:Ql.Rows3) (w_v:List Value) (s:Int) (s_b:Bool) (ty1 ty2 ty3 ty4 ty5 tz5:TypeId) (hp:z1i w s):FVc TT endl20_g (endl20_I w w_x w_o w_t w_v s s_b) (endl20_an w w_x w_o w_t w_v s s_b) Tryz.f106 [.ptr 0 0 0 0,.agg [.int .i64 s,.bool s_b]] [(0,.box false 109 [.row 1,.row 2,.row 3,.row 4,.row 5]),(1,.row false ty1 (.ints .i64 w.sup)),(2,.row false ty2 (.arcs w.arcs)),(3,.row false ty3 (.ints .i64 w_x)),(4,.row false ty4 (.ints .i64 w_o)),(5,.deep false ty5 tz5 (.recs (.int .i64) [.bool] w_t) w_v none)] (endl20_r w w_x w_o w_t w_v s s_b):=by
 refine FVc.of (zk0 w w_x w_o w_t w_v s s_b ty1 ty2 ty3 ty4 ty5 tz5) (endl20_q w w_x w_o w_t w_v s s_b ty1 ty2 ty3 ty4 ty5 tz5) ?_
 unfold zk0
 obtain ⟨hr,h0,h1⟩:=hp
 have ok:=z1j hr (a:=s.toNat) (by omega)
 obtain ⟨k0,k1,k2,k3,k4,k5,k6,k7,k8⟩:=ok
 simp only [eq_self,exists_const,forall_const,ne_eq,Int.toNat_natCast,zSS,z07]
 unfold Ql.endS
 dsimp only
 refine ⟨fun h=>⟨by omega,by omega,fun a ha=>?_⟩,fun h=>by rw [h]; rfl⟩
 rw [h,z27 ha,Bool.not_false,Bool.true_and]
 by_cases e:a.cap=4611686018427387904
 ·rw [e]; rfl
 ·rw [beq_eq_false_iff_ne.2 e,decide_eq_false (show ¬ a.cap=inf from e)]
theorem endl20_ok:SpecOk Tryz.prog endl20_n true (z03 true zda) :=
 z0b z0r (show z1c Tryz.prog endl20_g from z05) (by kernel_rfl) mixedOrders Tryz.func106 rfl rfl (by kernel_rfl) (n:=2) (by decide +kernel) (I:=endl20_IA) (fun _ _=>z06) (A:=endl20_A)
  (fun args h r hr=>by
   unfold zda at hr
   split at hr
   ·rename_i s s_b ty1 w_s ty2 w_a ty3 w_x ty4 w_o ty5 tz5 w_t w_v; cases hr; refine ⟨rfl,fun hp=>?_⟩; have hE:=endl20_E ⟨w_s,w_a⟩ w_x w_o w_t w_v s s_b ty1 ty2 ty3 ty4 ty5 tz5 hp; exact hE
   ·cases hr)
def zgd (s : Int) (s_b : Bool) (w : Inst) (w_x : List Int) (w_o : List Int) (w_t : Ql.Rows3) (w_v : List Value) (w_l : Int) (ty2 ty3 ty4 ty5 ty6 tz6 : TypeId) : Prop :=
   (z1i w s/\w_x.length=w.arcs.length/\XB w_x)/\(decide (rmS w w_x (s.toNat,s_b) ≥ w_l)=decide (w_l <= rmS w w_x (s.toNat,s_b))/\True)/\True
theorem roomy20_q (s:Int) (s_b:Bool) (w:Inst) (w_x:List Int) (w_o:List Int) (w_t:Ql.Rows3) (w_v:List Value) (w_l:Int) (ty2 ty3 ty4 ty5 ty6 tz6:TypeId):zgd s s_b w w_x w_o w_t w_v w_l ty2 ty3 ty4 ty5 ty6 tz6=z2r TT zme (roomy20_I s s_b w w_x w_o w_t w_v w_l) (roomy20_an s s_b w w_x w_o w_t w_v w_l) Tryz.f111 [.agg [.int .i64 s,.bool s_b],.ptr 0 0 0 0,.ptr 7 0 0 0] [(0,.box false 102 [.ptr 1 0 0 0]),(1,.box false 109 [.row 2,.row 3,.row 4,.row 5,.row 6]),(2,.row false ty2 (.ints .i64 w.sup)),(3,.row false ty3 (.arcs w.arcs)),(4,.row false ty4 (.ints .i64 w_x)),(5,.row false ty5 (.ints .i64 w_o)),(6,.deep false ty6 tz6 (.recs (.int .i64) [.bool] w_t) w_v none),(7,.box false 2 [.int .i64 w_l])] (zmg s s_b w w_x w_o w_t w_v w_l):=by kernel_rfl
theorem roomy20_E (s:Int) (s_b:Bool) (w:Inst) (w_x:List Int) (w_o:List Int) (w_t:Ql.Rows3) (w_v:List Value) (w_l:Int) (ty2 ty3 ty4 ty5 ty6 tz6:TypeId) (hp:z1i w s/\w_x.length=w.arcs.length/\XB w_x):FVc TT zme (roomy20_I s s_b w w_x w_o w_t w_v w_l) (roomy20_an s s_b w w_x w_o w_t w_v w_l) Tryz.f111 [.agg [.int .i64 s,.bool s_b],.ptr 0 0 0 0,.ptr 7 0 0 0] [(0,.box false 102 [.ptr 1 0 0 0]),(1,.box false 109 [.row 2,.row 3,.row 4,.row 5,.row 6]),(2,.row false ty2 (.ints .i64 w.sup)),(3,.row false ty3 (.arcs w.arcs)),(4,.row false ty4 (.ints .i64 w_x)),(5,.row false ty5 (.ints .i64 w_o)),(6,.deep false ty6 tz6 (.recs (.int .i64) [.bool] w_t) w_v none),(7,.box false 2 [.int .i64 w_l])] (zmg s s_b w w_x w_o w_t w_v w_l):=by
 refine FVc.of (zgd s s_b w w_x w_o w_t w_v w_l ty2 ty3 ty4 ty5 ty6 tz6) (roomy20_q s s_b w w_x w_o w_t w_v w_l ty2 ty3 ty4 ty5 ty6 tz6) ?_
 unfold zgd
 simp only [eq_self,exists_const,forall_const,ne_eq,Int.toNat_natCast,zSS,z07]
 exact hp
theorem roomy20_ok:SpecOk Tryz.prog zmf true (z03 true zay) :=
 z0b z0r (show z1c Tryz.prog zme from z00 za3 (z05)) (by kernel_rfl) mixedOrders Tryz.func111 rfl rfl (by kernel_rfl) (n:=3) (by decide +kernel) (I:=roomy20_IA) (fun _ _=>z06) (A:=roomy20_A)
  (fun args h r hr=>by
   unfold zay at hr
   split at hr
   ·rename_i s s_b ty2 w_s ty3 w_a ty4 w_x ty5 w_o ty6 tz6 w_t w_v w_l; cases hr; refine ⟨rfl,fun hp=>?_⟩; have hE:=roomy20_E s s_b ⟨w_s,w_a⟩ w_x w_o w_t w_v w_l ty2 ty3 ty4 ty5 ty6 tz6 hp; exact hE
   ·cases hr)
def zl7 (s : Int) (s_b : Bool) (w : Inst) (w_x : List Int) (w_o : List Int) (w_t : Ql.Rows3) (w_v : List Value) (ty2 ty3 ty4 ty5 ty6 tz6 : TypeId) : Prop :=
      z1i w s /\
 (Ql.endS w (s.toNat,s_b)=true->(true=(Ql.endS w (s.toNat,s_b) || decide ((0:Int)<rmS w w_x (s.toNat,s_b)))/\True)/\True) /\
 (Ql.endS w (s.toNat,s_b)=false ->
 (z1i w s/\w_x.length=w.arcs.length/\XB w_x) /\
 (decide (rmS w w_x (s.toNat,s_b) > (0:Int))=(Ql.endS w (s.toNat,s_b) || decide ((0:Int)<rmS w w_x (s.toNat,s_b)))/\True)/\True)
theorem posi20_q (s:Int) (s_b:Bool) (w:Inst) (w_x:List Int) (w_o:List Int) (w_t:Ql.Rows3) (w_v:List Value) (ty2 ty3 ty4 ty5 ty6 tz6:TypeId):zl7 s s_b w w_x w_o w_t w_v ty2 ty3 ty4 ty5 ty6 tz6=z2r TT posi20_g (posi20_I s s_b w w_x w_o w_t w_v) (posi20_an s s_b w w_x w_o w_t w_v) Tryz.f114 [.agg [.int .i64 s,.bool s_b],.ptr 0 0 0 0] [(0,.box false 102 [.ptr 1 0 0 0]),(1,.box false 109 [.row 2,.row 3,.row 4,.row 5,.row 6]),(2,.row false ty2 (.ints .i64 w.sup)),(3,.row false ty3 (.arcs w.arcs)),(4,.row false ty4 (.ints .i64 w_x)),(5,.row false ty5 (.ints .i64 w_o)),(6,.deep false ty6 tz6 (.recs (.int .i64) [.bool] w_t) w_v none)] (posi20_r s s_b w w_x w_o w_t w_v):=by kernel_rfl
theorem posi20_E (s:Int) (s_b:Bool) (w:Inst) (w_x:List Int) (w_o:List Int) (w_t:Ql.Rows3) (w_v:List Value) (ty2 ty3 ty4 ty5 ty6 tz6:TypeId) (hp:z1i w s/\w_x.length=w.arcs.length/\XB w_x):FVc TT posi20_g (posi20_I s s_b w w_x w_o w_t w_v) (posi20_an s s_b w w_x w_o w_t w_v) Tryz.f114 [.agg [.int .i64 s,.bool s_b],.ptr 0 0 0 0] [(0,.box false 102 [.ptr 1 0 0 0]),(1,.box false 109 [.row 2,.row 3,.row 4,.row 5,.row 6]),(2,.row false ty2 (.ints .i64 w.sup)),(3,.row false ty3 (.arcs w.arcs)),(4,.row false ty4 (.ints .i64 w_x)),(5,.row false ty5 (.ints .i64 w_o)),(6,.deep false ty6 tz6 (.recs (.int .i64) [.bool] w_t) w_v none)] (posi20_r s s_b w w_x w_o w_t w_v):=by
 refine FVc.of (zl7 s s_b w w_x w_o w_t w_v ty2 ty3 ty4 ty5 ty6 tz6) (posi20_q s s_b w w_x w_o w_t w_v ty2 ty3 ty4 ty5 ty6 tz6) ?_
 unfold zl7
 simp only [eq_self,exists_const,forall_const,ne_eq,Int.toNat_natCast,zSS,z07]
 refine ⟨hp.1,fun h=>by rw [h]; rfl,fun h=>⟨hp,by rw [h,Bool.false_or]⟩⟩
theorem posi20_ok:SpecOk Tryz.prog posi20_n true (z03 true zl8) :=
 z0b z0r (show z1c Tryz.prog posi20_g from z00 za3 (z00 endl20_ok (z05))) (by kernel_rfl) mixedOrders Tryz.func114 rfl rfl (by kernel_rfl) (n:=2) (by decide +kernel) (I:=posi20_IA) (fun _ _=>z06) (A:=posi20_A)
  (fun args h r hr=>by
   unfold zl8 at hr
   split at hr
   ·rename_i s s_b ty2 w_s ty3 w_a ty4 w_x ty5 w_o ty6 tz6 w_t w_v; cases hr; refine ⟨rfl,fun hp=>?_⟩; have hE:=posi20_E s s_b ⟨w_s,w_a⟩ w_x w_o w_t w_v ty2 ty3 ty4 ty5 ty6 tz6 hp; exact hE
   ·cases hr)
def zl2 (n : Int) (w : Inst) (w_x : List Int) (w_o : List Int) (w_t : Ql.Rows3) (w_v : List Value) (w_l : Int) (ty2 ty3 ty4 ty5 ty6 tz6 : TypeId) : Prop :=
      ((0:Int) <= n/\n<(↑w_o.length:Int)) /\
 n.toNat<w_o.length/\∀ (x:Int),w_o[n.toNat]? = some x->(decide (x ≥ w_l)=decide (w_l <= w_o.getD n.toNat (0:Int))/\True)/\True
theorem over20_q (n:Int) (w:Inst) (w_x:List Int) (w_o:List Int) (w_t:Ql.Rows3) (w_v:List Value) (w_l:Int) (ty2 ty3 ty4 ty5 ty6 tz6:TypeId):zl2 n w w_x w_o w_t w_v w_l ty2 ty3 ty4 ty5 ty6 tz6=z2r TT over20_g (over20_I n w w_x w_o w_t w_v w_l) (over20_an n w w_x w_o w_t w_v w_l) Tryz.f155 [.int .i64 n,.ptr 0 0 0 0,.ptr 7 0 0 0] [(0,.box false 102 [.ptr 1 0 0 0]),(1,.box false 109 [.row 2,.row 3,.row 4,.row 5,.row 6]),(2,.row false ty2 (.ints .i64 w.sup)),(3,.row false ty3 (.arcs w.arcs)),(4,.row false ty4 (.ints .i64 w_x)),(5,.row false ty5 (.ints .i64 w_o)),(6,.deep false ty6 tz6 (.recs (.int .i64) [.bool] w_t) w_v none),(7,.box false 2 [.int .i64 w_l])] (over20_r n w w_x w_o w_t w_v w_l):=by kernel_rfl
theorem over20_E (n:Int) (w:Inst) (w_x:List Int) (w_o:List Int) (w_t:Ql.Rows3) (w_v:List Value) (w_l:Int) (ty2 ty3 ty4 ty5 ty6 tz6:TypeId) (hp:0 <= n/\n<w_o.length):FVc TT over20_g (over20_I n w w_x w_o w_t w_v w_l) (over20_an n w w_x w_o w_t w_v w_l) Tryz.f155 [.int .i64 n,.ptr 0 0 0 0,.ptr 7 0 0 0] [(0,.box false 102 [.ptr 1 0 0 0]),(1,.box false 109 [.row 2,.row 3,.row 4,.row 5,.row 6]),(2,.row false ty2 (.ints .i64 w.sup)),(3,.row false ty3 (.arcs w.arcs)),(4,.row false ty4 (.ints .i64 w_x)),(5,.row false ty5 (.ints .i64 w_o)),(6,.deep false ty6 tz6 (.recs (.int .i64) [.bool] w_t) w_v none),(7,.box false 2 [.int .i64 w_l])] (over20_r n w w_x w_o w_t w_v w_l):=by
 refine FVc.of (zl2 n w w_x w_o w_t w_v w_l ty2 ty3 ty4 ty5 ty6 tz6) (over20_q n w w_x w_o w_t w_v w_l ty2 ty3 ty4 ty5 ty6 tz6) ?_
 unfold zl2
 simp only [eq_self,exists_const,forall_const,ne_eq,Int.toNat_natCast,zSS,z07]
 refine ⟨hp,by omega,fun x hx=>?_⟩
 rw [show w_o.getD n.toNat 0=x by rw [List.getD_eq_getElem?_getD,hx]; rfl]
theorem over20_ok:SpecOk Tryz.prog over20_n true (z03 true zl3) :=
 z0b z0r (show z1c Tryz.prog over20_g from z05) (by kernel_rfl) mixedOrders Tryz.func155 rfl rfl (by kernel_rfl) (n:=3) (by decide +kernel) (I:=over20_IA) (fun _ _=>z06) (A:=over20_A)
  (fun args h r hr=>by
   unfold zl3 at hr
   split at hr
   ·rename_i n ty2 w_s ty3 w_a ty4 w_x ty5 w_o ty6 tz6 w_t w_v w_l; cases hr; refine ⟨rfl,fun hp=>?_⟩; have hE:=over20_E n ⟨w_s,w_a⟩ w_x w_o w_t w_v w_l ty2 ty3 ty4 ty5 ty6 tz6 hp; exact hE
   ·cases hr)
abbrev z40 (w_o:List Int) (w:Inst) (s:Int) (s_b:Bool) (x_1:Int) (n:Int):=(w_o.set (↑(frS w (s.toNat,s_b)):Int).toNat (IntKind.i64.wrap (x_1 - n)))
abbrev z9t (w:Inst) (s:Int) (s_b:Bool) (w_o:List Int) (x_1:Int) (n:Int):=((0:Int) <= ↑(toS w (s.toNat,s_b))/\((↑(toS w (s.toNat,s_b)):Int)<↑(z40 w_o w s s_b x_1 n).length))
abbrev z9u (w:Inst) (s:Int) (s_b:Bool) (w_o:List Int):=((0:Int) <= ↑(frS w (s.toNat,s_b))/\((↑(frS w (s.toNat,s_b)):Int)<↑w_o.length))
def zlc (w : Inst) (w_x : List Int) (w_o : List Int) (w_t : Ql.Rows3) (w_v : List Value) (s : Int) (s_b : Bool) (n : Int) (ty1 ty2 : TypeId) : Prop :=
   z1i w s/\(s_b=true->((0:Int) <= s/\(s<(↑w_x.length:Int)))/\(s.toNat<w_x.length/\(∀ (x:Int),w_x[s.toNat]? = some x->((0:Int) <= s/\(s<(↑w_x.length:Int)))/\(s.toNat<w_x.length/\((z9u w s s_b w_o)/\((↑(frS w (s.toNat,s_b)):Int).toNat<w_o.length/\(∀ (x_1:Int),w_o[(↑(frS w (s.toNat,s_b)):Int).toNat]? = some x_1->(z9u w s s_b w_o)/\((↑(frS w (s.toNat,s_b)):Int).toNat<w_o.length/\((z9t w s s_b w_o x_1 n)/\((↑(toS w (s.toNat,s_b)):Int).toNat<(z40 w_o w s s_b x_1 n).length/\(∀ (x_2:Int),(z40 w_o w s s_b x_1 n)[(↑(toS w (s.toNat,s_b)):Int).toNat]? = some x_2->(z9t w s s_b w_o x_1 n)/\((↑(toS w (s.toNat,s_b)):Int).toNat<(z40 w_o w s s_b x_1 n).length/\((True/\True)/\((True/\(True/\(True/\(True/\(True/\True)))))/\(w_x.set s.toNat (IntKind.i64.wrap (x - n))=z4s w_x (s.toNat,s_b) n/\((z40 w_o w s s_b x_1 n).set (↑(toS w (s.toNat,s_b)):Int).toNat (IntKind.i64.wrap (x_2+n))=z6y w w_o (s.toNat,s_b) n/\((w_t=w_t/\(w_v=w_v/\((none:Option Nat)=none)))/\True)))))))))))))))))/\(s_b=false->((0:Int) <= s/\(s<(↑w_x.length:Int)))/\(s.toNat<w_x.length/\(∀ (x:Int),w_x[s.toNat]? = some x->((0:Int) <= s/\(s<(↑w_x.length:Int)))/\(s.toNat<w_x.length/\((z9u w s s_b w_o)/\((↑(frS w (s.toNat,s_b)):Int).toNat<w_o.length/\(∀ (x_1:Int),w_o[(↑(frS w (s.toNat,s_b)):Int).toNat]? = some x_1->(z9u w s s_b w_o)/\((↑(frS w (s.toNat,s_b)):Int).toNat<w_o.length/\((z9t w s s_b w_o x_1 n)/\((↑(toS w (s.toNat,s_b)):Int).toNat<(z40 w_o w s s_b x_1 n).length/\(∀ (x_2:Int),(z40 w_o w s s_b x_1 n)[(↑(toS w (s.toNat,s_b)):Int).toNat]? = some x_2->(z9t w s s_b w_o x_1 n)/\((↑(toS w (s.toNat,s_b)):Int).toNat<(z40 w_o w s s_b x_1 n).length/\((True/\True)/\((True/\(True/\(True/\(True/\(True/\True)))))/\(w_x.set s.toNat (IntKind.i64.wrap (x+n))=z4s w_x (s.toNat,s_b) n/\((z40 w_o w s s_b x_1 n).set (↑(toS w (s.toNat,s_b)):Int).toNat (IntKind.i64.wrap (x_2+n))=z6y w w_o (s.toNat,s_b) n/\((w_t=w_t/\(w_v=w_v/\((none:Option Nat)=none)))/\True)))))))))))))))))
theorem push20_q (w:Inst) (w_x:List Int) (w_o:List Int) (w_t:Ql.Rows3) (w_v:List Value) (s:Int) (s_b:Bool) (n:Int) (ty1 ty2:TypeId):zlc w w_x w_o w_t w_v s s_b n ty1 ty2=z2r TT push20_g (push20_I w w_x w_o w_t w_v s s_b n) (push20_an w w_x w_o w_t w_v s s_b n) Tryz.f98 [.ptr 0 0 0 0,.agg [.int .i64 s,.bool s_b],.int .i64 n] [(0,.box true 109 [.row 1,.row 2,.row 3,.row 4,.row 5]),(1,.row false ty1 (.ints .i64 w.sup)),(2,.row false ty2 (.arcs w.arcs)),(3,.row true 2 (.ints .i64 w_x)),(4,.row true 2 (.ints .i64 w_o)),(5,.deep true 149 147 (.recs (.int .i64) [.bool] w_t) w_v none)] (push20_r w w_x w_o w_t w_v s s_b n):=by kernel_rfl
theorem push20_E (w:Inst) (w_x:List Int) (w_o:List Int) (w_t:Ql.Rows3) (w_v:List Value) (s:Int) (s_b:Bool) (n:Int) (ty1 ty2:TypeId) (hp:z1i w s/\w_x.length=w.arcs.length/\w_o.length=w.sup.length/\XB w_x/\XB w_o/\-1152921504606846976 <= n/\n <= 1152921504606846976):FVc TT push20_g (push20_I w w_x w_o w_t w_v s s_b n) (push20_an w w_x w_o w_t w_v s s_b n) Tryz.f98 [.ptr 0 0 0 0,.agg [.int .i64 s,.bool s_b],.int .i64 n] [(0,.box true 109 [.row 1,.row 2,.row 3,.row 4,.row 5]),(1,.row false ty1 (.ints .i64 w.sup)),(2,.row false ty2 (.arcs w.arcs)),(3,.row true 2 (.ints .i64 w_x)),(4,.row true 2 (.ints .i64 w_o)),(5,.deep true 149 147 (.recs (.int .i64) [.bool] w_t) w_v none)] (push20_r w w_x w_o w_t w_v s s_b n):=by
 refine FVc.of (zlc w w_x w_o w_t w_v s s_b n ty1 ty2) (push20_q w w_x w_o w_t w_v s s_b n ty1 ty2) ?_
 unfold zlc
 delta z9u z9t z40
 obtain ⟨hs,hl,ho,hx,hov,n0,n1⟩:=hp
 have hok:okS w (s.toNat,s_b):=by have:=hs.2; unfold okS; dsimp only; omega
 have f1:=z2w hs.1 hok
 have t1:=z5q hs.1 hok
 have hs2:=hs.2
 have key:=@push_is w w_x w_o (s.toNat,s_b) n hs.1 hok hl ho hx hov n0 n1
 simp only [eq_self,exists_const,forall_const,ne_eq,Int.toNat_natCast,zSS,z07]
 simp only [List.length_set]
 refine ⟨hs,fun h=>⟨by omega,by omega,fun y hy=>⟨by omega,by omega,by omega,by omega,fun u hu=>⟨by omega,by omega,by omega,by omega,fun z hz=>?_⟩⟩⟩,fun h=>⟨by omega,by omega,fun y hy=>⟨by omega,by omega,by omega,by omega,fun u hu=>⟨by omega,by omega,by omega,by omega,fun z hz=>?_⟩⟩⟩⟩
 all_goals
  obtain ⟨q1,q2,q3⟩:=key hy hu hz
  repeat' first | omega | exact q1 h | exact q2 h | exact q3 | refine And.intro ?_ ?_ | trivial
theorem zld:SpecOk Tryz.prog zi3 false (z03 false z9v) :=
 z0b z0r (show z1c Tryz.prog push20_g from z00 z8c (z05)) (by kernel_rfl) mixedOrders Tryz.func98 rfl rfl (by kernel_rfl) (n:=3) (by decide +kernel) (I:=push20_IA) (fun _ _=>z06) (A:=push20_A)
  (fun args h r hr=>by
   unfold z9v at hr
   split at hr
   ·rename_i s s_b n ty1 w_s ty2 w_a w_x w_o w_t w_v; cases hr; refine ⟨rfl,fun hp=>?_⟩; have hE:=push20_E ⟨w_s,w_a⟩ w_x w_o w_t w_v s s_b n ty1 ty2 hp; exact hE
   ·cases hr)
end Go.Proofs.YtggblkbecekbdaaGreat
end
