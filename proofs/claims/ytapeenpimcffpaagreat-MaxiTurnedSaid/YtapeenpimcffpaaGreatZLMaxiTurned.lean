/- MaxiTurned: the law is true for every input: the given statement, with no condition of its own. -/
import Derived.Test.YtapeenpimcffpaaGreatZG11
import Derived.Test.YtapeenpimcffpaaGreatZG15
import Derived.Test.YtapeenpimcffpaaGreatZG14
import Derived.Test.YtapeenpimcffpaaGreatZG5
import Derived.Test.YtapeenpimcffpaaGreatZG16
set_option linter.all false
set_option linter.unusedSimpArgs false
set_option linter.unusedVariables false
set_option maxRecDepth 1000000
section
namespace Go.Proofs.YtapeenpimcffpaaGreat
open Go Go.RowKit Go.Ql Go.Vc
def z5g (c:List Int) (d:List Int):FRes:={ pre:=Bytes c/\Bytes d/\c.length <= maxLen/\d.length <= maxLen,res:=.bool (true),rows:=[],eff:=[] }
def zck:FS:=fun args h=>match args,h with
 | [.row 0,.row 1],[(0,.row false ty0 (.ints .u8 c)),(1,.row false ty1 (.ints .u8 d))]=>some (z5g c d)
 | _,_=>none
def z7w (c:List Int) (d:List Int):List (Nat × Ann):=[(6,{ G:=(Nat),inv:=fun k=>⟨[(5,.ptr 6 0 0 0),(6,.ptr 11 0 0 0),(7,.int .i64 k)],[(11,.box true 27 [.bool (z0e c d true).most,.row 7,.row 8,.int .i64 (z0e c d true).t,.int .i64 (z0e c d true).s]),(7,.row true 2 (.ints .i64 (z0e c d true).inst.sup)),(8,.row true 65 (.arcs (z3f z4x (z0e c d true).inst.arcs k))),(6,.box true 27 [.bool (z0e c d true).most,.row 2,.row 3,.int .i64 (z0e c d true).s,.int .i64 (z0e c d true).t]),(2,.row true 2 (.ints .i64 (z0e c d true).inst.sup)),(3,.row true 65 (.arcs (z0e c d true).inst.arcs))],12⟩,rel:=fun k0 k=>k <= (z0e c d true).inst.arcs.length,meas:=fun k=>(z0e c d true).inst.arcs.length - k })]
def MaxiTurned_A:List SV->z0d->List (Nat × Ann):=fun args h=>match args,h with
 | [.row 0,.row 1],[(0,.row false ty0 (.ints .u8 c)),(1,.row false ty1 (.ints .u8 d))]=>z7w c d
 | _,_=>[]
def z8z:z0b:=[(known21_n,(true,z02 true zfk)),(Prob08_n,(true,z02 true ziq)),(Of21_n,(true,z02 true zee)),(Solve_n,(true,z0y true Solve_fs)),(ziw,(true,z02 true zaa))]
abbrev MaxiTurned_n:Nat:=5
def zgj (c:List Int) (d:List Int):List (Nat × z08):=[]
def MaxiTurned_IA:List SV->z0d->List (Nat × z08):=fun _ _=>[]
end Go.Proofs.YtapeenpimcffpaaGreat
end
section
namespace Go.Proofs.YtapeenpimcffpaaGreat
open Go Go.RowKit Go.Ql Go.Vc
abbrev z7s (c:List Int) (d:List Int) (g_1:Cert × Int) (g:Nat) (g_2:Cert × Int):=(zn4 { most:=(z0e c d true).most,inst:=(z0e c d true).inst,s:=(z0e c d true).s,t:=(z0e c d true).t:ProbD } { kind:=g_1.1.kind,flow:=g_1.1.flow,pot:=g_1.1.pot,side:=g_1.1.side,cycle:=g_1.1.cycle:Cert } == zn4 { most:=(z0e c d true).most,inst:={ sup:=(z0e c d true).inst.sup,arcs:=z3f z4x (z0e c d true).inst.arcs g:Inst },s:=(z0e c d true).t,t:=(z0e c d true).s:ProbD } { kind:=g_2.1.kind,flow:=g_2.1.flow,pot:=g_2.1.pot,side:=g_2.1.side,cycle:=g_2.1.cycle:Cert })
abbrev z5s (c:List Int) (d:List Int) (g:Nat):=(ofI { most:=(z0e c d true).most,inst:={ sup:=(z0e c d true).inst.sup,arcs:=z3f z4x (z0e c d true).inst.arcs g:Inst },s:=(z0e c d true).t,t:=(z0e c d true).s:ProbD })
abbrev z4i (c:List Int) (d:List Int) (g:Nat) (x:Arc) (x_1:Arc):=((z3f z4x (z0e c d true).inst.arcs g).set (↑g:Int).toNat { src:=x.dst,dst:=x_1.dst,low:=x_1.low,cap:=x_1.cap,cost:=x_1.cost:Arc })
abbrev z7t (c:List Int) (d:List Int):=(((z0e c d true).most = (z0e c d true).most/\(True/\(True/\((z0e c d true).s = (z0e c d true).s/\((z0e c d true).t = (z0e c d true).t/\True)))))/\((z0e c d true).inst.sup = (z0e c d true).inst.sup/\((z0e c d true).inst.arcs = (z0e c d true).inst.arcs/\True)))
abbrev z5t (c:List Int) (d:List Int):=(ofI { most:=(z0e c d true).most,inst:=(z0e c d true).inst,s:=(z0e c d true).s,t:=(z0e c d true).t:ProbD })
abbrev z7u (c:List Int) (d:List Int) (g:Nat):=(ofE { most:=(z0e c d true).most,inst:={ sup:=(z0e c d true).inst.sup,arcs:=z3f z4x (z0e c d true).inst.arcs g:Inst },s:=(z0e c d true).t,t:=(z0e c d true).s:ProbD } == (0:Int))
abbrev z7v (c:List Int) (d:List Int):=((z0e c d true).most = (z0e c d true).most/\(True/\(True/\((z0e c d true).t = (z0e c d true).t/\((z0e c d true).s = (z0e c d true).s/\True)))))
def z7r (c : List Int) (d : List Int) (ty0 ty1 : TypeId) : Prop :=
   (Bytes c/\(Bytes d/\(c.length <= maxLen/\(d.length <= maxLen))))/\(Bytes c/\(Bytes d/\(c.length <= maxLen/\(d.length <= maxLen))))/\∃ (g0:Nat),(g0 <= (z0e c d true).inst.arcs.length/\((0 = 0/\(0 = 0/\((0:Int) = ↑g0/\True)))/\((z7v c d)/\((z0e c d true).inst.sup = (z0e c d true).inst.sup/\((z0e c d true).inst.arcs = z3f z4x (z0e c d true).inst.arcs g0/\(z7t c d))))))/\∀ (g:Nat),g <= (z0e c d true).inst.arcs.length->(decide ((↑g:Int) < ↑(z3f z4x (z0e c d true).inst.arcs g).length) = true->((0:Int) <= ↑g/\((↑g:Int) < ↑(z0e c d true).inst.arcs.length))/\((↑g:Int).toNat < (z0e c d true).inst.arcs.length/\(∀ (x:Arc),(z0e c d true).inst.arcs[(↑g:Int).toNat]? = some x->((0:Int) <= ↑g/\((↑g:Int) < ↑(z3f z4x (z0e c d true).inst.arcs g).length))/\((↑g:Int).toNat < (z3f z4x (z0e c d true).inst.arcs g).length/\(∀ (x_1:Arc),(z3f z4x (z0e c d true).inst.arcs g)[(↑g:Int).toNat]? = some x_1->((0:Int) <= ↑g/\((↑g:Int) < ↑(z0e c d true).inst.arcs.length))/\((↑g:Int).toNat < (z0e c d true).inst.arcs.length/\(∀ (x_2:Arc),(z0e c d true).inst.arcs[(↑g:Int).toNat]? = some x_2->((0:Int) <= ↑g/\((↑g:Int) < ↑(z4i c d g x x_1).length))/\((↑g:Int).toNat < (z4i c d g x x_1).length/\(∀ (x_3:Arc),(z4i c d g x x_1)[(↑g:Int).toNat]? = some x_3->∃ (g':Nat),g' <= (z0e c d true).inst.arcs.length/\((z0e c d true).inst.arcs.length - g' < (z0e c d true).inst.arcs.length - g/\((0 = 0/\(0 = 0/\(IntKind.i64.wrap ((↑g:Int) + (1:Int)) = (↑g':Int)/\True)))/\((z7v c d)/\((z0e c d true).inst.sup = (z0e c d true).inst.sup/\((z4i c d g x x_1).set (↑g:Int).toNat { src:=x_3.src,dst:=x_2.src,low:=x_3.low,cap:=x_3.cap,cost:=x_3.cost:Arc } = z3f z4x (z0e c d true).inst.arcs g'/\(z7t c d)))))))))))))))/\(decide ((↑g:Int) < ↑(z3f z4x (z0e c d true).inst.arcs g).length) = false->True/\True/\((ofE { most:=(z0e c d true).most,inst:=(z0e c d true).inst,s:=(z0e c d true).s,t:=(z0e c d true).t:ProbD } != (0:Int)) = true->True/\((true = true->((ofE { most:=(z0e c d true).most,inst:={ sup:=(z0e c d true).inst.sup,arcs:=z3f z4x (z0e c d true).inst.arcs g:Inst },s:=(z0e c d true).t,t:=(z0e c d true).s:ProbD } == ofE { most:=(z0e c d true).most,inst:=(z0e c d true).inst,s:=(z0e c d true).s,t:=(z0e c d true).t:ProbD }) = true/\True)/\True)/\(true = false->(false = true/\True)/\True)))/\((ofE { most:=(z0e c d true).most,inst:=(z0e c d true).inst,s:=(z0e c d true).s,t:=(z0e c d true).t:ProbD } != (0:Int)) = false->(z04 (z5t c d) = (0:Int)->SmallI (z5t c d))/\∀ (g_1:Cert × Int),SolveP (z5t c d) g_1.1 g_1.2->(z04 (z5s c d g) = (0:Int)->SmallI (z5s c d g))/\∀ (g_2:Cert × Int),SolveP (z5s c d g) g_2.1 g_2.2->z1e { kind:=g_1.1.kind,flow:=g_1.1.flow,pot:=g_1.1.pot,side:=g_1.1.side,cycle:=g_1.1.cycle:Cert }/\(z1e { kind:=g_2.1.kind,flow:=g_2.1.flow,pot:=g_2.1.pot,side:=g_2.1.side,cycle:=g_2.1.cycle:Cert }/\(True/\((true = true->((z7u c d g) = true->((z7s c d g_1 g g_2) = true->((z3r { most:=(z0e c d true).most,inst:=(z0e c d true).inst,s:=(z0e c d true).s,t:=(z0e c d true).t:ProbD } { kind:=g_1.1.kind,flow:=g_1.1.flow,pot:=g_1.1.pot,side:=g_1.1.side,cycle:=g_1.1.cycle:Cert } == z3r { most:=(z0e c d true).most,inst:={ sup:=(z0e c d true).inst.sup,arcs:=z3f z4x (z0e c d true).inst.arcs g:Inst },s:=(z0e c d true).t,t:=(z0e c d true).s:ProbD } { kind:=g_2.1.kind,flow:=g_2.1.flow,pot:=g_2.1.pot,side:=g_2.1.side,cycle:=g_2.1.cycle:Cert }) = true/\True)/\True)/\((z7s c d g_1 g g_2) = false->(false = true/\True)/\True))/\((z7u c d g) = false->(false = true/\True)/\True))/\(true = false->(false = true/\True)/\True))))))
theorem MaxiTurned_q (c:List Int) (d:List Int) (ty0 ty1:TypeId):z7r c d ty0 ty1 = z2e TT z8z (zgj c d) (z7w c d) Tryz.f5 [.row 0,.row 1] [(0,.row false ty0 (.ints .u8 c)),(1,.row false ty1 (.ints .u8 d))] (z5g c d):=by kernel_rfl
theorem MaxiTurned_E (c:List Int) (d:List Int) (ty0 ty1:TypeId) (hp:Bytes c/\Bytes d/\c.length <= maxLen/\d.length <= maxLen):FVc TT z8z (zgj c d) (z7w c d) Tryz.f5 [.row 0,.row 1] [(0,.row false ty0 (.ints .u8 c)),(1,.row false ty1 (.ints .u8 d))] (z5g c d):=by
 refine FVc.of (z7r c d ty0 ty1) (MaxiTurned_q c d ty0 ty1) ?_
 unfold z7r
 delta z7v z7u z5t z7t z4i z5s z7s
 obtain ⟨p1,p2,p3,p4⟩:=hp
 simp only [eq_self,exists_const,forall_const,decide_eq_true_eq,decide_eq_false_iff_not,and_true,true_and,bne_iff_ne,ne_eq,bne_eq_false_iff_eq,Int.toNat_natCast,Bool.not_eq_true',Bool.not_eq_false',beq_iff_eq,beq_eq_false_iff_ne,z06]
 have hm:(z0e c d true).inst.arcs.length <= 1000:=by
  by_cases h2:2 <= (z0v c d).sup.length
  ·have:=(prob_ok h2).m; omega
  ·have l4:=zfe c d
   unfold z0e; rw [if_neg (fun h=>h2 h.2)]; dsimp only; omega
 simp only [z9z,List.length_set]
 refine ⟨⟨p1,p2,p3,p4⟩,⟨p1,p2,p3,p4⟩,0,⟨Nat.zero_le _,rfl,(stepL_zero _ _).symm⟩,fun k hk=>⟨fun h1=>⟨⟨by omega,by omega⟩,by omega,fun x hx=>⟨⟨by omega,by omega⟩,by omega,fun y hy=>⟨⟨by omega,by omega⟩,by omega,fun z hz=>⟨⟨by omega,by omega⟩,by omega,fun u hu=>⟨k + 1,by omega,by omega,by rw [w64 (by omega) (by omega)]; omega,?_⟩⟩⟩⟩⟩,fun h1=>?_⟩⟩
 ·have hy2:=stepL_get hy
  rw [hx] at hy2 hz
  cases hy2
  cases hz
  rw [List.getElem?_set_self (by rw [z9z]; omega)] at hu
  cases hu
  rw [List.set_set]
  exact stepL_set hx rfl
 rw [stepL_end _ _ (show (z0e c d true).inst.arcs.length <= k by omega)]
 have eq:∀ p:ProbD,(⟨p.most,⟨p.inst.sup,p.inst.arcs.map z4x⟩,p.t,p.s⟩:ProbD) = zha p:=fun _=>rfl
 simp only [eq]
 refine ⟨fun hz=>?_,fun hz=>?_⟩
 ·have hn:¬ 2 <= (z0v c d).sup.length:=fun h=>hz (prob_ok h).e
  rw [prob_no hn]
  have e:z0e c d true = ⟨false,z0v c d,0,0⟩:=if_neg (fun h2=>hn h2.2)
  rw [e]
  exact ⟨rfl,fun h=>by cases h⟩
 have hP:=prob_of hz
 generalize z0e c d true = p at *
 have hT:=turn_ok hP
 refine ⟨fun _=>by rw [ofI_of hz]; exact ofP_small hP,?_⟩
 rintro ⟨b,e⟩ hb
 refine ⟨fun _=>by rw [ofI_of hT.e]; exact ofP_small hT,?_⟩
 rintro ⟨c',f⟩ hc'
 dsimp only at hb hc' ⊢
 obtain ⟨q1,q2,q3,q4⟩:=turn_max hP hb hc'
 exact ⟨q1,q2,⟨fun _=>⟨fun _=>q3,fun h=>absurd q4 h⟩,fun h=>absurd hT.e h⟩,fun h=>by cases h⟩
theorem MaxiTurned_ok:SpecOk Tryz.prog MaxiTurned_n true (z02 true zck) :=
 z0a z0j (show z18 Tryz.prog z8z from z00 known21_ok (z00 Prob08_ok (z00 Of21_ok (z00 Solve_ok (z00 Value21_ok (z05)))))) (by kernel_rfl) mixedOrders Tryz.func5 rfl rfl (by kernel_rfl) (n:=2) (by decide +kernel) (I:=MaxiTurned_IA) (fun _ _=>z07) (A:=MaxiTurned_A)
  (fun args h r hr=>by
   unfold zck at hr
   split at hr
   ·rename_i ty0 c ty1 d; cases hr; refine ⟨rfl,fun hp=>?_⟩; have hE:=MaxiTurned_E c d ty0 ty1 hp; exact hE
   ·cases hr)
end Go.Proofs.YtapeenpimcffpaaGreat
end
section
namespace Go.Proofs.YtapeenpimcffpaaGreat
open Go Go.RowKit Go.ChangeShapes Go.WideShapes Go.ChangeAt Go.Deep Go.Ql Go.Vc
theorem zbv (H:Type) (enc:TypeId × Value->H) (W:World) (base:Nat) (args:Array Value) (ds gs:List (DataW H)) (before:List MemPlace)
  (hval:∀ (j:Nat) t v,Tryz.f5.params[j]? = some t->args[j]? = some v->Value.okWide Tryz.prog W .any base t v)
  (hW:DataW.Whole enc Tryz.prog Tryz.f5.params.toList Rows.maxiTurnedSpec.vars false W args.toList ds gs before)
  (hz:(DataW.weightsEach Tryz.prog (Tryz.f5.params.toList ++ Rows.maxiTurnedSpec.plain.varTypes Tryz.prog) (ds ++ gs)).all (· <= reachBytes) = true) :
  Calls Tryz.prog 5 args W fun e W'=>∃ v,e = .returned v/\Rows.maxiTurnedSpec.post enc Tryz.prog Tryz.f5 false true false false W args v W':=by
 have hW':=hW
 obtain ⟨p,q,hA0,hV,rfl,hfz,hnd⟩:=hW
 have hA:DataW.TrodAll enc Tryz.prog W 0 (fun _=>true) true Tryz.f5.params.toList args.toList ds p:=hA0
 rw [Tryz.params5] at hA hval hz
 obtain ⟨v0,vs0,d0,ds0,p0,q0,hargs,rfl,rfl,h0,r0⟩:=trodAll_cons hA
 obtain ⟨v1,vs1,d1,ds1,p1,q1,rfl,rfl,rfl,h1,r1⟩:=trodAll_cons r0
 obtain ⟨rfl,rfl,rfl⟩:=trodAll_nil r1
 obtain rfl:args = #[v0,v1]:=by cases args; simp_all
 obtain ⟨z0,hz⟩:=zh3 hz
 obtain ⟨z1,hz⟩:=zh3 hz
 obtain ⟨A0,c0,x0,rfl,hR0,hm0,hw0⟩:=dec_ints Tryz.underlying32 Tryz.underlying5 (by kernel_rfl) (hval 0 32 v0 rfl rfl) h0
 have hb0:=wf_u8 hw0
 have hs0:=zn0 Tryz.underlying32 (of_decide_eq_true (by kernel_rfl)) h0 z0
 obtain ⟨A1,c1,x1,rfl,hR1,hm1,hw1⟩:=dec_ints Tryz.underlying32 Tryz.underlying5 (by kernel_rfl) (hval 1 32 v1 rfl rfl) h1
 have hb1:=wf_u8 hw1
 have hs1:=zn0 Tryz.underlying32 (of_decide_eq_true (by kernel_rfl)) h1 z1
 have hpre:(z5g x0 x1).pre:=⟨hb0,hb1,hm0,hm1⟩
 have hc:=law_calls (enter_gen Tryz.func5 rfl rfl) MaxiTurned_ok (ρ:=fun k=>if k = 0 then .slice A0 x0.length c0 else if k = 1 then .slice A1 x1.length c1 else .int .i64 0) (W:=W) (args:=[.row 0,.row 1]) (hp:=[(0,.row false 0 (.ints .u8 x0)),(1,.row false 0 (.ints .u8 x1))]) (fun k=>by (repeat' split) <;> rfl) ⟨⟨rfl,ro_ints hR0⟩,⟨⟨rfl,ro_ints hR1⟩,trivial⟩⟩ ((z5g x0 x1).pre/\SV.bool true = .bool true) ⟨hpre,rfl⟩ (by kernel_rfl)
 simp only [z0p,SV.toV] at hc
 refine Calls.mono (show Calls Tryz.prog 5 #[_,_] W _ from hc) fun e W' hx=>?_
 obtain ⟨rfl,hb⟩:=hx
 exact ⟨_,rfl,law_post laid_out hW' rfl (by kernel_rfl) Tryz.underlying4 (by kernel_rfl) rfl hb⟩
theorem zfo (os:Os) (started:os.Started) (H:Type) (enc:TypeId × Value->H) :
  ReturnsInHanded {} Tryz.checked os 5 .any (Rows.maxiTurnedSpec.pre6 enc Tryz.prog Tryz.f5 Rows.maxiTurnedRow.domain false) (Rows.maxiTurnedSpec.post enc Tryz.prog Tryz.f5 false true false false):=by
 refine returnsInHanded_of_change_sized (C:=Tryz.checked) own_knob started (by kernel_rfl) Tryz.func5
  (ChangeSpec.witness6 (enc:=enc) (C:=Tryz.checked) false ⟨#[],#[.slice none 0 0,.slice none 0 0],[]⟩ 8 (by kernel_rfl) (by kernel_rfl) (by kernel_rfl) (by kernel_rfl)) ?_
 intro W base args ds gs before hval0 hW hcnd hz _
 exact zbv H enc W base args ds gs before hval0 hW hz
theorem maxiTurned_holds:Rows.MaxiTurnedSaid :=
 OpenClaim.holds_of_wide 5 Tryz.f5 rfl rfl rfl rfl rfl rfl rfl ⟨rfl,rfl,rfl,rfl,rfl⟩ rfl rfl rfl rfl rfl (by kernel_rfl) Tryz.func5 (by kernel_rfl)
  (of_decide_eq_true (by kernel_rfl)) (by unfold Func.isWrapper; first | (rw [if_pos (by decide +kernel)]; kernel_rfl) | (rw [if_neg (by decide +kernel)]; exact ⟨rfl,rfl⟩))
  (fun os started H enc _=>zfo os started H enc)
end Go.Proofs.YtapeenpimcffpaaGreat
end
