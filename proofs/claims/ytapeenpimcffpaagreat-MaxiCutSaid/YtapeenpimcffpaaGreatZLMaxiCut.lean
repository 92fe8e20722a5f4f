/- MaxiCut: the law is true for every input: the given statement, with no condition of its own. -/
import Derived.Test.YtapeenpimcffpaaGreatZG11
import Derived.Test.YtapeenpimcffpaaGreatZG15
import Derived.Test.YtapeenpimcffpaaGreatZG14
import Derived.Test.YtapeenpimcffpaaGreatZG5
import Derived.Test.YtapeenpimcffpaaGreatZG16
set_option linter.all false
set_option linter.unusedSimpArgs false
set_option linter.unusedVariables false
set_option maxRecDepth 1000000
section
namespace Go.Proofs.YtapeenpimcffpaaGreat
open Go Go.RowKit Go.Ql Go.Vc
def z8s (c:List Int) (d:List Int) (e:List Int):FRes:={ pre:=Bytes c/\Bytes d/\c.length <= maxLen/\d.length <= maxLen/\Bytes e,res:=.bool (true),rows:=[],eff:=[] }
def MaxiCut_fs:FS:=fun args h=>match args,h with
 | [.row 0,.row 1,.row 2],[(0,.row false ty0 (.ints .u8 c)),(1,.row false ty1 (.ints .u8 d)),(2,.row false ty2 (.ints .u8 e))]=>some (z8s c d e)
 | _,_=>none
def MaxiCut_an (c:List Int) (d:List Int) (e:List Int):List (Nat × Ann):=[]
def MaxiCut_A:List SV->z0e->List (Nat × Ann):=fun _ _=>[]
def zi8:z0c:=[(known21_n,(true,z02 true zfi)),(Prob08_n,(true,z02 true zii)),(Of21_n,(true,z02 true zee)),(Solve_n,(true,z0x true Solve_fs)),(zem,(true,z02 true z7q)),(own21_n,(true,z02 true own21_fs)),(zin,(true,z02 true za9)),(Side21_n,(true,z02 true zcl)),(Of_n,(true,z02 true zck)),(z8r,(true,z02 true z5w))]
abbrev MaxiCut_n:Nat:=4
def MaxiCut_I (c:List Int) (d:List Int) (e:List Int):List (Nat × z08):=[]
def MaxiCut_IA:List SV->z0e->List (Nat × z08):=fun _ _=>[]
end Go.Proofs.YtapeenpimcffpaaGreat
end
section
namespace Go.Proofs.YtapeenpimcffpaaGreat
open Go Go.RowKit Go.Ql Go.Vc
abbrev za0 (g:Cert × Int) (c:List Int) (d:List Int) (e:List Int):=((g.1.kind == (3:Int)) = false->z1m { kind:=g.1.kind,flow:=g.1.flow,pot:=g.1.pot,side:=g.1.side,cycle:=g.1.cycle:Cert }/\z1m { kind:=g.1.kind,flow:=g.1.flow,pot:=g.1.pot,side:=g.1.side,cycle:=g.1.cycle:Cert }/\(z42 { most:=(z0b c d true).most,inst:=(z0b c d true).inst,s:=(z0b c d true).s,t:=(z0b c d true).t:ProbD } { kind:=g.1.kind,flow:=g.1.flow,pot:=g.1.pot,side:=g.1.side,cycle:=g.1.cycle:Cert }).length <= (1000000:Nat)/\True/\(true = true->(z3k { most:=(z0b c d true).most,inst:=(z0b c d true).inst,s:=(z0b c d true).s,t:=(z0b c d true).t:ProbD } { kind:=g.1.kind,flow:=g.1.flow,pot:=g.1.pot,side:=g.1.side,cycle:=g.1.cycle:Cert } = true->(z3k { most:=(z0b c d true).most,inst:=(z0b c d true).inst,s:=(z0b c d true).s,t:=(z0b c d true).t:ProbD } { kind:=g.1.kind,flow:=g.1.flow,pot:=g.1.pot,side:=g.1.side,cycle:=g.1.cycle:Cert } = true->((z26 { most:=(z0b c d true).most,inst:=(z0b c d true).inst,s:=(z0b c d true).s,t:=(z0b c d true).t:ProbD } (z42 { most:=(z0b c d true).most,inst:=(z0b c d true).inst,s:=(z0b c d true).s,t:=(z0b c d true).t:ProbD } { kind:=g.1.kind,flow:=g.1.flow,pot:=g.1.pot,side:=g.1.side,cycle:=g.1.cycle:Cert })).isSome = true->I64 (zce { most:=(z0b c d true).most,inst:=(z0b c d true).inst,s:=(z0b c d true).s,t:=(z0b c d true).t:ProbD } { kind:=g.1.kind,flow:=g.1.flow,pot:=g.1.pot,side:=g.1.side,cycle:=g.1.cycle:Cert })/\(decide ([(z4j (z26 { most:=(z0b c d true).most,inst:=(z0b c d true).inst,s:=(z0b c d true).s,t:=(z0b c d true).t:ProbD } (z42 { most:=(z0b c d true).most,inst:=(z0b c d true).inst,s:=(z0b c d true).s,t:=(z0b c d true).t:ProbD } { kind:=g.1.kind,flow:=g.1.flow,pot:=g.1.pot,side:=g.1.side,cycle:=g.1.cycle:Cert }))).hi,(z4j (z26 { most:=(z0b c d true).most,inst:=(z0b c d true).inst,s:=(z0b c d true).s,t:=(z0b c d true).t:ProbD } (z42 { most:=(z0b c d true).most,inst:=(z0b c d true).inst,s:=(z0b c d true).s,t:=(z0b c d true).t:ProbD } { kind:=g.1.kind,flow:=g.1.flow,pot:=g.1.pot,side:=g.1.side,cycle:=g.1.cycle:Cert }))).lo] = [(W (zce { most:=(z0b c d true).most,inst:=(z0b c d true).inst,s:=(z0b c d true).s,t:=(z0b c d true).t:ProbD } { kind:=g.1.kind,flow:=g.1.flow,pot:=g.1.pot,side:=g.1.side,cycle:=g.1.cycle:Cert })).hi,(W (zce { most:=(z0b c d true).most,inst:=(z0b c d true).inst,s:=(z0b c d true).s,t:=(z0b c d true).t:ProbD } { kind:=g.1.kind,flow:=g.1.flow,pot:=g.1.pot,side:=g.1.side,cycle:=g.1.cycle:Cert })).lo]) = true->(decide (zce { most:=(z0b c d true).most,inst:=(z0b c d true).inst,s:=(z0b c d true).s,t:=(z0b c d true).t:ProbD } { kind:=g.1.kind,flow:=g.1.flow,pot:=g.1.pot,side:=g.1.side,cycle:=g.1.cycle:Cert } ≥ (0:Int)) = true->((!(z26 { most:=(z0b c d true).most,inst:=(z0b c d true).inst,s:=(z0b c d true).s,t:=(z0b c d true).t:ProbD } (ownF { most:=(z0b c d true).most,inst:=(z0b c d true).inst,s:=(z0b c d true).s,t:=(z0b c d true).t:ProbD } e)).isSome) = true->(true = true/\True)/\True)/\((!(z26 { most:=(z0b c d true).most,inst:=(z0b c d true).inst,s:=(z0b c d true).s,t:=(z0b c d true).t:ProbD } (ownF { most:=(z0b c d true).most,inst:=(z0b c d true).inst,s:=(z0b c d true).s,t:=(z0b c d true).t:ProbD } e)).isSome) = false->((z4j (z26 { most:=(z0b c d true).most,inst:=(z0b c d true).inst,s:=(z0b c d true).s,t:=(z0b c d true).t:ProbD } (ownF { most:=(z0b c d true).most,inst:=(z0b c d true).inst,s:=(z0b c d true).s,t:=(z0b c d true).t:ProbD } e))).ok/\((z4j (z26 { most:=(z0b c d true).most,inst:=(z0b c d true).inst,s:=(z0b c d true).s,t:=(z0b c d true).t:ProbD } (z42 { most:=(z0b c d true).most,inst:=(z0b c d true).inst,s:=(z0b c d true).s,t:=(z0b c d true).t:ProbD } { kind:=g.1.kind,flow:=g.1.flow,pot:=g.1.pot,side:=g.1.side,cycle:=g.1.cycle:Cert }))).ok))/\((decide (wcmp (z4j (z26 { most:=(z0b c d true).most,inst:=(z0b c d true).inst,s:=(z0b c d true).s,t:=(z0b c d true).t:ProbD } (ownF { most:=(z0b c d true).most,inst:=(z0b c d true).inst,s:=(z0b c d true).s,t:=(z0b c d true).t:ProbD } e))) (z4j (z26 { most:=(z0b c d true).most,inst:=(z0b c d true).inst,s:=(z0b c d true).s,t:=(z0b c d true).t:ProbD } (z42 { most:=(z0b c d true).most,inst:=(z0b c d true).inst,s:=(z0b c d true).s,t:=(z0b c d true).t:ProbD } { kind:=g.1.kind,flow:=g.1.flow,pot:=g.1.pot,side:=g.1.side,cycle:=g.1.cycle:Cert }))) ≥ (0:Int)) = true/\True)/\True)))/\(decide (zce { most:=(z0b c d true).most,inst:=(z0b c d true).inst,s:=(z0b c d true).s,t:=(z0b c d true).t:ProbD } { kind:=g.1.kind,flow:=g.1.flow,pot:=g.1.pot,side:=g.1.side,cycle:=g.1.cycle:Cert } ≥ (0:Int)) = false->(false = true/\True)/\True))/\(decide ([(z4j (z26 { most:=(z0b c d true).most,inst:=(z0b c d true).inst,s:=(z0b c d true).s,t:=(z0b c d true).t:ProbD } (z42 { most:=(z0b c d true).most,inst:=(z0b c d true).inst,s:=(z0b c d true).s,t:=(z0b c d true).t:ProbD } { kind:=g.1.kind,flow:=g.1.flow,pot:=g.1.pot,side:=g.1.side,cycle:=g.1.cycle:Cert }))).hi,(z4j (z26 { most:=(z0b c d true).most,inst:=(z0b c d true).inst,s:=(z0b c d true).s,t:=(z0b c d true).t:ProbD } (z42 { most:=(z0b c d true).most,inst:=(z0b c d true).inst,s:=(z0b c d true).s,t:=(z0b c d true).t:ProbD } { kind:=g.1.kind,flow:=g.1.flow,pot:=g.1.pot,side:=g.1.side,cycle:=g.1.cycle:Cert }))).lo] = [(W (zce { most:=(z0b c d true).most,inst:=(z0b c d true).inst,s:=(z0b c d true).s,t:=(z0b c d true).t:ProbD } { kind:=g.1.kind,flow:=g.1.flow,pot:=g.1.pot,side:=g.1.side,cycle:=g.1.cycle:Cert })).hi,(W (zce { most:=(z0b c d true).most,inst:=(z0b c d true).inst,s:=(z0b c d true).s,t:=(z0b c d true).t:ProbD } { kind:=g.1.kind,flow:=g.1.flow,pot:=g.1.pot,side:=g.1.side,cycle:=g.1.cycle:Cert })).lo]) = false->(false = true/\True)/\True))/\((z26 { most:=(z0b c d true).most,inst:=(z0b c d true).inst,s:=(z0b c d true).s,t:=(z0b c d true).t:ProbD } (z42 { most:=(z0b c d true).most,inst:=(z0b c d true).inst,s:=(z0b c d true).s,t:=(z0b c d true).t:ProbD } { kind:=g.1.kind,flow:=g.1.flow,pot:=g.1.pot,side:=g.1.side,cycle:=g.1.cycle:Cert })).isSome = false->(false = true/\True)/\True))/\(z3k { most:=(z0b c d true).most,inst:=(z0b c d true).inst,s:=(z0b c d true).s,t:=(z0b c d true).t:ProbD } { kind:=g.1.kind,flow:=g.1.flow,pot:=g.1.pot,side:=g.1.side,cycle:=g.1.cycle:Cert } = false->(false = true/\True)/\True))/\(z3k { most:=(z0b c d true).most,inst:=(z0b c d true).inst,s:=(z0b c d true).s,t:=(z0b c d true).t:ProbD } { kind:=g.1.kind,flow:=g.1.flow,pot:=g.1.pot,side:=g.1.side,cycle:=g.1.cycle:Cert } = false->(false = true/\True)/\True))/\(true = false->(false = true/\True)/\True))
abbrev za1 (g:Cert × Int) (c:List Int) (d:List Int) (e:List Int):=((g.1.kind == (3:Int)) = true->True/\((true = true->((!(z26 { most:=(z0b c d true).most,inst:=(z0b c d true).inst,s:=(z0b c d true).s,t:=(z0b c d true).t:ProbD } (ownF { most:=(z0b c d true).most,inst:=(z0b c d true).inst,s:=(z0b c d true).s,t:=(z0b c d true).t:ProbD } e)).isSome) = true/\True)/\True)/\(true = false->(false = true/\True)/\True)))
abbrev zed (c:List Int) (d:List Int):=((z0b c d true).inst.sup.length <= (1000:Nat)/\((0:Int) <= (z0b c d true).s/\((z0b c d true).s < (↑(z0b c d true).inst.sup.length:Int)/\((0:Int) <= (z0b c d true).t/\((z0b c d true).t < (↑(z0b c d true).inst.sup.length:Int))))))
abbrev za2 (c:List Int) (d:List Int):=(ofI { most:=(z0b c d true).most,inst:=(z0b c d true).inst,s:=(z0b c d true).s,t:=(z0b c d true).t:ProbD })
abbrev za3 (c:List Int) (d:List Int) (e:List Int):=(ownF { most:=(z0b c d true).most,inst:=(z0b c d true).inst,s:=(z0b c d true).s,t:=(z0b c d true).t:ProbD } e)
def zec (c : List Int) (d : List Int) (e : List Int) (ty0 ty1 ty2 : TypeId) : Prop :=
   (Bytes c/\(Bytes d/\(c.length <= maxLen/\(d.length <= maxLen))))/\True/\((ofE { most:=(z0b c d true).most,inst:=(z0b c d true).inst,s:=(z0b c d true).s,t:=(z0b c d true).t:ProbD } != (0:Int)) = true->True/\((true = true/\True)/\True))/\((ofE { most:=(z0b c d true).most,inst:=(z0b c d true).inst,s:=(z0b c d true).s,t:=(z0b c d true).t:ProbD } != (0:Int)) = false->(z04 (za2 c d) = (0:Int)->SmallI (za2 c d))/\∀ (g:Cert × Int),SolveP (za2 c d) g.1 g.2->((g.2 != (0:Int)) = true->(false = true/\True)/\True)/\((g.2 != (0:Int)) = false->((g.1.kind == (2:Int)) = true->(false = true/\True)/\True)/\((g.1.kind == (2:Int)) = false->((Bytes e/\(zed c d))/\((za3 c d e).length <= (1000000:Nat)/\(za1 g c d e)/\(za0 g c d e))/\(za3 c d e).length <= (1000000:Nat)/\(za1 g c d e)/\(za0 g c d e))/\(Bytes e/\(zed c d))/\(za3 c d e).length <= (1000000:Nat)/\(za1 g c d e)/\(za0 g c d e))))
theorem MaxiCut_q (c:List Int) (d:List Int) (e:List Int) (ty0 ty1 ty2:TypeId):zec c d e ty0 ty1 ty2 = z2e TT zi8 (MaxiCut_I c d e) (MaxiCut_an c d e) Tryz.f4 [.row 0,.row 1,.row 2] [(0,.row false ty0 (.ints .u8 c)),(1,.row false ty1 (.ints .u8 d)),(2,.row false ty2 (.ints .u8 e))] (z8s c d e):=by kernel_rfl
theorem MaxiCut_E (c:List Int) (d:List Int) (e:List Int) (ty0 ty1 ty2:TypeId) (hp:Bytes c/\Bytes d/\c.length <= maxLen/\d.length <= maxLen/\Bytes e):FVc TT zi8 (MaxiCut_I c d e) (MaxiCut_an c d e) Tryz.f4 [.row 0,.row 1,.row 2] [(0,.row false ty0 (.ints .u8 c)),(1,.row false ty1 (.ints .u8 d)),(2,.row false ty2 (.ints .u8 e))] (z8s c d e):=by
 refine FVc.of (zec c d e ty0 ty1 ty2) (MaxiCut_q c d e ty0 ty1 ty2) ?_
 unfold zec
 delta za3 za2 zed za1 za0
 obtain ⟨p1,p2,p3,p4,p5⟩:=hp
 simp only [eq_self,exists_const,forall_const,decide_eq_true_eq,decide_eq_false_iff_not,and_true,true_and,bne_iff_ne,ne_eq,bne_eq_false_iff_eq,Int.toNat_natCast,Bool.not_eq_true',Bool.not_eq_false',beq_iff_eq,beq_eq_false_iff_ne,z06]
 refine ⟨⟨p1,p2,p3,p4⟩,fun _=>trivial,fun h0=>?_⟩
 have hP:=prob_of h0
 have own:=own_on h0 e
 have hol:=own_len (z0b c d true) e
 generalize z0b c d true = p at *
 have n1:=hP.n1
 have n2:=hP.n2
 have hf:=hP.fit
 have ns:=nodeP_iff.1 hf.s
 have nt:=nodeP_iff.1 hf.t
 have pre:Bytes e/\p.inst.sup.length <= 1000/\0 <= p.s/\p.s < p.inst.sup.length/\0 <= p.t/\p.t < p.inst.sup.length:=⟨p5,by omega,ns.1,ns.2,nt.1,nt.2⟩
 have hl1:(ownF p e).length <= 1000000:=by omega
 refine ⟨fun _=>by rw [ofI_of h0]; exact ofP_small hP,?_⟩
 rintro ⟨b,f⟩ hS
 dsimp only at hS ⊢
 obtain ⟨rfl,hB,hM⟩:=solve_max h0 hS
 have hl2:(z42 p b).length <= 1000000:=by have:=(side_few p b).1; omega
 have hw:=weigh_on own
 rcases hM with ⟨k1,hG,hQ⟩ | ⟨k1,hG,hN⟩
 ·have hv:=weigh_on hQ.on
  rw [hQ.room] at hv
  have hfew:=hQ.few h0
  have hpos:=hQ.pos
  have hI:I64 (zce p b):=by unfold I64; omega
  have hcmp:(z26 p (ownF p e)).isSome = true->((z4j (z26 p (ownF p e))).ok/\(W (zce p b)).ok)/\wcmp (z4j (z26 p (ownF p e))) (W (zce p b)) ≥ 0:=fun h=>by
   obtain ⟨t,et⟩:=Option.isSome_iff_exists.1 h
   rw [et]
   rw [hw] at et
   have h1:=hQ.least _ t own et
   have h2:=zar (m:=p.inst.sup.length) (side:=ownF p e) (zab hf.r) p.inst.arcs.length (Nat.le_refl _) t (by rw [List.take_length]; exact et)
   have h3:=z0d hf.r
   refine ⟨⟨ziq _,ziq _⟩,?_⟩
   show wcmp (W t) (W _) ≥ 0
   rw [z9w (by unfold z9z; omega) (by unfold z9z; omega)]
   split
   ·omega
   ·split <;> omega
  have hr:z4j (some (zce p b)) = W (zce p b):=rfl
  have hk2:¬ b.kind = 2:=by omega
  have hk3:¬ b.kind = 3:=by omega
  simp only [hv,hr,hG,Option.isSome_some]
  have hpos':zce p b ≥ 0:=hpos
  simp [hk2,hk3,pre,hl1,hl2,hB,hI,hpos',hpos,-ge_iff_le]
  exact hcmp
 ·have hn:=hN _ own
  rw [hn] at hw
  simp [k1,hw,pre,hl1]
theorem MaxiCut_ok:SpecOk Tryz.prog MaxiCut_n true (z02 true MaxiCut_fs) :=
 z09 z0j (show z16 Tryz.prog zi8 from z00 known21_ok (z00 Prob08_ok (z00 Of21_ok (z00 Solve_ok (z00 zir (z00 own21_ok (z00 Value21_ok (z00 Side21_ok (z00 zgz (z00 z9y (z05))))))))))) (by kernel_rfl) mixedOrders Tryz.func4 rfl rfl (by kernel_rfl) (n:=3) (by decide +kernel) (I:=MaxiCut_IA) (fun _ _=>z07) (A:=MaxiCut_A)
  (fun args h r hr=>by
   unfold MaxiCut_fs at hr
   split at hr
   ·rename_i ty0 c ty1 d ty2 e; cases hr; refine ⟨rfl,fun hp=>?_⟩; have hE:=MaxiCut_E c d e ty0 ty1 ty2 hp; exact hE
   ·cases hr)
end Go.Proofs.YtapeenpimcffpaaGreat
end
section
namespace Go.Proofs.YtapeenpimcffpaaGreat
open Go Go.RowKit Go.ChangeShapes Go.WideShapes Go.ChangeAt Go.Deep Go.Ql Go.Vc
theorem zh2 (H:Type) (enc:TypeId × Value->H) (W:World) (base:Nat) (args:Array Value) (ds gs:List (DataW H)) (before:List MemPlace)
  (hval:∀ (j:Nat) t v,Tryz.f4.params[j]? = some t->args[j]? = some v->Value.okWide Tryz.prog W .any base t v)
  (hW:DataW.Whole enc Tryz.prog Tryz.f4.params.toList Rows.maxiCutSpec.vars false W args.toList ds gs before)
  (hz:(DataW.weightsEach Tryz.prog (Tryz.f4.params.toList ++ Rows.maxiCutSpec.plain.varTypes Tryz.prog) (ds ++ gs)).all (· <= reachBytes) = true) :
  Calls Tryz.prog 4 args W fun e W'=>∃ v,e = .returned v/\Rows.maxiCutSpec.post enc Tryz.prog Tryz.f4 false true false false W args v W':=by
 have hW':=hW
 obtain ⟨p,q,hA0,hV,rfl,hfz,hnd⟩:=hW
 have hA:DataW.TrodAll enc Tryz.prog W 0 (fun _=>true) true Tryz.f4.params.toList args.toList ds p:=hA0
 rw [Tryz.params4] at hA hval hz
 obtain ⟨v0,vs0,d0,ds0,p0,q0,hargs,rfl,rfl,h0,r0⟩:=trodAll_cons hA
 obtain ⟨v1,vs1,d1,ds1,p1,q1,rfl,rfl,rfl,h1,r1⟩:=trodAll_cons r0
 obtain ⟨v2,vs2,d2,ds2,p2,q2,rfl,rfl,rfl,h2,r2⟩:=trodAll_cons r1
 obtain ⟨rfl,rfl,rfl⟩:=trodAll_nil r2
 obtain rfl:args = #[v0,v1,v2]:=by cases args; simp_all
 obtain ⟨z0,hz⟩:=z9x hz
 obtain ⟨z1,hz⟩:=z9x hz
 obtain ⟨z2,hz⟩:=z9x hz
 obtain ⟨A0,c0,x0,rfl,hR0,hm0,hw0⟩:=dec_ints Tryz.underlying32 Tryz.underlying5 (by kernel_rfl) (hval 0 32 v0 rfl rfl) h0
 have hb0:=wf_u8 hw0
 have hs0:=zcb Tryz.underlying32 (of_decide_eq_true (by kernel_rfl)) h0 z0
 obtain ⟨A1,c1,x1,rfl,hR1,hm1,hw1⟩:=dec_ints Tryz.underlying32 Tryz.underlying5 (by kernel_rfl) (hval 1 32 v1 rfl rfl) h1
 have hb1:=wf_u8 hw1
 have hs1:=zcb Tryz.underlying32 (of_decide_eq_true (by kernel_rfl)) h1 z1
 obtain ⟨A2,c2,x2,rfl,hR2,hm2,hw2⟩:=dec_ints Tryz.underlying32 Tryz.underlying5 (by kernel_rfl) (hval 2 32 v2 rfl rfl) h2
 have hb2:=wf_u8 hw2
 have hs2:=zcb Tryz.underlying32 (of_decide_eq_true (by kernel_rfl)) h2 z2
 have hpre:(z8s x0 x1 x2).pre:=⟨hb0,hb1,hm0,hm1,hb2⟩
 have hc:=law_calls (enter_gen Tryz.func4 rfl rfl) MaxiCut_ok (ρ:=fun k=>if k = 0 then .slice A0 x0.length c0 else if k = 1 then .slice A1 x1.length c1 else if k = 2 then .slice A2 x2.length c2 else .int .i64 0) (W:=W) (args:=[.row 0,.row 1,.row 2]) (hp:=[(0,.row false 0 (.ints .u8 x0)),(1,.row false 0 (.ints .u8 x1)),(2,.row false 0 (.ints .u8 x2))]) (fun k=>by (repeat' split) <;> rfl) ⟨⟨rfl,ro_ints hR0⟩,⟨⟨rfl,ro_ints hR1⟩,⟨⟨rfl,ro_ints hR2⟩,trivial⟩⟩⟩ ((z8s x0 x1 x2).pre/\SV.bool true = .bool true) ⟨hpre,rfl⟩ (by kernel_rfl)
 simp only [z0p,SV.toV] at hc
 refine Calls.mono (show Calls Tryz.prog 4 #[_,_,_] W _ from hc) fun e W' hx=>?_
 obtain ⟨rfl,hb⟩:=hx
 exact ⟨_,rfl,law_post laid_out hW' rfl (by kernel_rfl) Tryz.underlying4 (by kernel_rfl) rfl hb⟩
theorem maxiCut_lifted (os:Os) (started:os.Started) (H:Type) (enc:TypeId × Value->H) :
  ReturnsInHanded {} Tryz.checked os 4 .any (Rows.maxiCutSpec.pre6 enc Tryz.prog Tryz.f4 Rows.maxiCutRow.domain false) (Rows.maxiCutSpec.post enc Tryz.prog Tryz.f4 false true false false):=by
 refine returnsInHanded_of_change_sized (C:=Tryz.checked) own_knob started (by kernel_rfl) Tryz.func4
  (ChangeSpec.witness6 (enc:=enc) (C:=Tryz.checked) false ⟨#[],#[.slice none 0 0,.slice none 0 0,.slice none 0 0],[]⟩ 8 (by kernel_rfl) (by kernel_rfl) (by kernel_rfl) (by kernel_rfl)) ?_
 intro W base args ds gs before hval0 hW hcnd hz _
 exact zh2 H enc W base args ds gs before hval0 hW hz
theorem maxiCut_holds:Rows.MaxiCutSaid :=
 OpenClaim.holds_of_wide 4 Tryz.f4 rfl rfl rfl rfl rfl rfl rfl ⟨rfl,rfl,rfl,rfl,rfl⟩ rfl rfl rfl rfl rfl (by kernel_rfl) Tryz.func4 (by kernel_rfl)
  (of_decide_eq_true (by kernel_rfl)) (by unfold Func.isWrapper; first | (rw [if_pos (by decide +kernel)]; kernel_rfl) | (rw [if_neg (by decide +kernel)]; exact ⟨rfl,rfl⟩))
  (fun os started H enc _=>maxiCut_lifted os started H enc)
end Go.Proofs.YtapeenpimcffpaaGreat
end
