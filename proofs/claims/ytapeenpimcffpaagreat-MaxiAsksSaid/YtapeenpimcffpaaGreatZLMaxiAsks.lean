/- MaxiAsks: the law is true for every input: the given statement, with no condition of its own. -/
import Derived.Test.YtapeenpimcffpaaGreatZG12
import Derived.Test.YtapeenpimcffpaaGreatZG13
import Derived.Test.YtapeenpimcffpaaGreatZG10
import Derived.Test.YtapeenpimcffpaaGreatZG5
set_option linter.all false
set_option linter.unusedSimpArgs false
set_option linter.unusedVariables false
set_option maxRecDepth 1000000
section
namespace Go.Proofs.YtapeenpimcffpaaGreat
open Go Go.RowKit Go.Ql Go.Vc
def maI (c d:List Int):Inst:=ofI (z0r c d true)
def maB (c d e:List Int) (k:Nat):Cert:=⟨1,(z57 (maI c d) e).flow,z44 (fun y=>y.tmod 2) (z57 (maI c d) e).pot k,[],[]⟩
def z5e (p:ProbD) (x:Cert) (S:List Bool) (c:List Int) (d:List Int) (e:List Int) (k:Int):FRes:={ pre:=z0j x/\S.length <= 1000000000000000000/\p.inst.sup.length <= 1000000000000000000/\p.inst.arcs.length <= 1000000000000000000/\Bytes c/\Bytes d/\c.length <= maxLen/\d.length <= maxLen/\Bytes e/\e.length <= maxLen/\0 <= k/\k <= 255,res:=.bool (true),rows:=[],eff:=[] }
def zex:FS:=fun args h=>match args,h with
 | [.agg [.bool p_m,.row 0,.row 1,.int .i64 p_S,.int .i64 p_T],.agg [.int .i64 x_k,.row 2,.row 3,.row 4,.row 5],.row 6,.row 7,.row 8,.row 9,.int .u8 k],[(0,.row false ty0 (.ints .i64 p_s)),(1,.row false ty1 (.arcs p_a)),(2,.row false ty2 (.ints .i64 x_f)),(3,.row false ty3 (.ints .i64 x_p)),(4,.row false ty4 (.bools x_s)),(5,.row false ty5 (.ints .i64 x_y)),(6,.row false ty6 (.bools S)),(7,.row false ty7 (.ints .u8 c)),(8,.row false ty8 (.ints .u8 d)),(9,.row false ty9 (.ints .u8 e))]=>some (z5e ⟨p_m,⟨p_s,p_a⟩,p_S,p_T⟩ ⟨x_k,x_f,x_p,x_s,x_y⟩ S c d e k)
 | _,_=>none
def z8c (p:ProbD) (x:Cert) (S:List Bool) (c:List Int) (d:List Int) (e:List Int) (k:Int):List (Nat × Ann):=[(9,{ G:=(Nat),inv:=fun j=>⟨[(2,.row 6),(4,.row 8),(5,.row 9),(6,.int .u8 k),(7,.ptr 10 0 0 0),(8,.ptr 11 0 0 0),(15,.ptr 16 0 0 0),(16,.ptr 21 0 0 0),(18,.ptr 30 0 0 0),(19,.int .i64 j)],[(30,.box true 31 [.int .i64 1,.row 22,.row 23,.row 24,.row 25]),(22,.row true 2 (.ints .i64 (maB c d e j).flow)),(23,.row true 2 (.ints .i64 (maB c d e j).pot)),(24,.row true 4 (.bools [])),(25,.row true 3 (.ints .i64 [])),(21,.box true 25 [.row 17,.row 18]),(17,.row true 2 (.ints .i64 (maI c d).sup)),(18,.row true 65 (.arcs (maI c d).arcs)),(16,.box true 27 [.bool (z0r c d true).most,.row 12,.row 13,.int .i64 (z0r c d true).s,.int .i64 (z0r c d true).t]),(12,.row true 2 (.ints .i64 (z0r c d true).inst.sup)),(13,.row true 65 (.arcs (z0r c d true).inst.arcs)),(11,.box true 31 [.int .i64 x.kind,.row 2,.row 3,.row 4,.row 5]),(10,.box true 27 [.bool p.most,.row 0,.row 1,.int .i64 p.s,.int .i64 p.t]),(0,.row false 0 (.ints .i64 p.inst.sup)),(1,.row false 0 (.arcs p.inst.arcs)),(2,.row false 0 (.ints .i64 x.flow)),(3,.row false 0 (.ints .i64 x.pot)),(4,.row false 0 (.bools x.side)),(5,.row false 0 (.ints .i64 x.cycle)),(6,.row false 0 (.bools S)),(8,.row false 0 (.ints .u8 d)),(9,.row false 0 (.ints .u8 e))],31⟩,rel:=fun j0 j=>j <= (maI c d).sup.length,meas:=fun j=>(maI c d).sup.length - j })]
def MaxiAsks_A:List SV->z0c->List (Nat × Ann):=fun args h=>match args,h with
 | [.agg [.bool p_m,.row 0,.row 1,.int .i64 p_S,.int .i64 p_T],.agg [.int .i64 x_k,.row 2,.row 3,.row 4,.row 5],.row 6,.row 7,.row 8,.row 9,.int .u8 k],[(0,.row false ty0 (.ints .i64 p_s)),(1,.row false ty1 (.arcs p_a)),(2,.row false ty2 (.ints .i64 x_f)),(3,.row false ty3 (.ints .i64 x_p)),(4,.row false ty4 (.bools x_s)),(5,.row false ty5 (.ints .i64 x_y)),(6,.row false ty6 (.bools S)),(7,.row false ty7 (.ints .u8 c)),(8,.row false ty8 (.ints .u8 d)),(9,.row false ty9 (.ints .u8 e))]=>z8c ⟨p_m,⟨p_s,p_a⟩,p_S,p_T⟩ ⟨x_k,x_f,x_p,x_s,x_y⟩ S c d e k
 | _,_=>[]
def zav:z0b:=[(Size_n,(true,z02 true Size_fs)),(LongC_n,(true,z02 true LongC_fs)),(known21_n,(true,z02 true zbo)),(Prob08_n,(true,z02 true zf9)),(zi3,(true,z02 true z7o)),(asks21_n,(true,z02 true zgc)),(Best19_n,(true,z02 true zef)),(own21_n,(true,z02 true own21_fs)),(Level21_n,(true,z02 true zau)),(Marks_n,(true,z02 true z9j)),(CertC_n,(true,z02 true CertC_fs))]
abbrev MaxiAsks_n:Nat:=3
def MaxiAsks_I (p:ProbD) (x:Cert) (S:List Bool) (c:List Int) (d:List Int) (e:List Int) (k:Int):List (Nat × z08):=[]
def MaxiAsks_IA:List SV->z0c->List (Nat × z08):=fun _ _=>[]
end Go.Proofs.YtapeenpimcffpaaGreat
end
section
namespace Go.Proofs.YtapeenpimcffpaaGreat
open Go Go.RowKit Go.Ql Go.Vc
theorem potF_few {e:List Int} {n:Nat} {y:Int} (hy:y ∈ z2e e n):-8 <= y/\y <= 16:=by
 unfold z2e at hy
 rw [List.mem_map] at hy
 obtain ⟨k,_,rfl⟩:=hy
 unfold potE
 split <;> omega
theorem certF_ok {I:Inst} {k:Int} {d e:List Int} (hr:z0a I = 0) (hF:A64 (z1d I d)):z0j (z2y I k d e)/\(z2y I k d e).flow.length <= 1000000/\(z2y I k d e).pot.length <= 1000000/\(z2y I k d e).side.length <= 1000000/\(z2y I k d e).cycle.length <= 1000000:=by
 have hrs:=z0n hr
 have hFl:=z9r I d
 have hpl:(z2e e I.sup.length).length = I.sup.length:=by unfold z2e; simp
 have hpa:A64 (z2e e I.sup.length):=fun y hy=>by have:=potF_few hy; unfold I64; omega
 have hwl:=z7q e I.sup.length
 have hp1:∀ p:List Int,A64 p->A64 (p ++ [1]):=fun p hp y hy=>by
  rcases List.mem_append.1 hy with h | h
  ·exact hp y h
  ·simp at h; subst h; unfold I64; omega
 have base:z0j (z1g I k d e)/\(z1g I k d e).flow.length <= 1000/\(z1g I k d e).pot.length <= 1000/\(z1g I k d e).side.length <= 1000/\(z1g I k d e).cycle.length <= 1000:=by
  have nil:A64 ([]:List Int):=fun y hy=>by simp at hy
  have hcl:((e.take 4).map fun x=>x % ((I.arcs.length:Int) + 1)).length <= 4:=by simp; omega
  unfold z1g
  split
  ·exact ⟨⟨hF,hpa,by dsimp only; omega,by dsimp only; omega,by simp,by simp⟩,by dsimp only; omega,by dsimp only; omega,by simp,by simp⟩
  ·split
   ·exact ⟨⟨nil,nil,by simp,by simp,by dsimp only; omega,by simp⟩,by simp,by simp,by dsimp only; omega,by simp⟩
   ·exact ⟨⟨hF,nil,by dsimp only; omega,by simp,by simp,by dsimp only; omega⟩,by dsimp only; omega,by simp,by simp,by dsimp only; omega⟩
 obtain ⟨⟨a1,a2,a3,a4,a5,a6⟩,l1,l2,l3,l4⟩:=base
 unfold z2y
 dsimp only
 split
 ·refine ⟨⟨a1,a2,a3,a4,?_,a6⟩,by dsimp only; omega,by dsimp only; omega,?_,by dsimp only; omega⟩ <;> (dsimp only; rw [List.length_append,List.length_singleton]; omega)
 ·split
  ·refine ⟨⟨a1,hp1 _ a2,a3,?_,a5,a6⟩,by dsimp only; omega,?_,by dsimp only; omega,by dsimp only; omega⟩ <;> (dsimp only; rw [List.length_append,List.length_singleton]; omega)
  ·split
   ·exact ⟨⟨a1,a2,a3,a4,a5,a6⟩,by dsimp only; omega,by dsimp only; omega,by dsimp only; omega,by dsimp only; omega⟩
   ·exact ⟨⟨a1,a2,a3,a4,a5,a6⟩,by omega,by omega,by omega,by omega⟩
abbrev z20 (c:List Int) (d:List Int):=(ofI { most:=(z0r c d true).most,inst:=(z0r c d true).inst,s:=(z0r c d true).s,t:=(z0r c d true).t:ProbD })
abbrev z8b (c:List Int) (d:List Int) (x:Cert) (p:ProbD) (S:List Bool) (e:List Int):=(((z0r c d true).most = (z0r c d true).most/\(True/\(True/\((z0r c d true).s = (z0r c d true).s/\((z0r c d true).t = (z0r c d true).t/\True)))))/\((z0r c d true).inst.sup = (z0r c d true).inst.sup/\((z0r c d true).inst.arcs = (z0r c d true).inst.arcs/\((x.kind = x.kind/\(True/\(True/\(True/\(True/\True)))))/\((p.most = p.most/\(True/\(True/\(p.s = p.s/\(p.t = p.t/\True)))))/\(p.inst.sup = p.inst.sup/\(p.inst.arcs = p.inst.arcs/\(x.flow = x.flow/\(x.pot = x.pot/\(x.side = x.side/\(x.cycle = x.cycle/\(S = S/\(d = d/\(e = e/\True))))))))))))))
abbrev z3j (c:List Int) (d:List Int) (e:List Int):=(z3f { most:=(z0r c d true).most,inst:=(z0r c d true).inst,s:=(z0r c d true).s,t:=(z0r c d true).t:ProbD } e)
abbrev z4g (x:Cert) (S:List Bool):=(z0j { kind:=x.kind,flow:=x.flow,pot:=x.pot,side:=x.side,cycle:=x.cycle:Cert }/\(S.length <= (1000000:Nat)))
abbrev z3k:=(true = false->(false = true/\True)/\True)
def z8a (p : ProbD) (x : Cert) (S : List Bool) (c : List Int) (d : List Int) (e : List Int) (k : Int) (ty0 ty1 ty2 ty3 ty4 ty5 ty6 ty7 ty8 ty9 : TypeId) : Prop :=
   (p.inst.sup.length <= (1000000000000000000:Nat)/\(p.inst.arcs.length <= (1000000000000000000:Nat)))/\(decide ((↑p.inst.sup.length:Int) + (2:Int) * (↑p.inst.arcs.length:Int) > 120) = true->True/\((true = true/\True)/\True))/\(decide ((↑p.inst.sup.length:Int) + (2:Int) * (↑p.inst.arcs.length:Int) > 120) = false->z0j { kind:=x.kind,flow:=x.flow,pot:=x.pot,side:=x.side,cycle:=x.cycle:Cert }/\(decide ((↑x.flow.length:Int) + (↑x.pot.length:Int) + (↑x.side.length:Int) + (↑x.cycle.length:Int) > 300) = true->True/\((true = true/\True)/\True))/\(decide ((↑x.flow.length:Int) + (↑x.pot.length:Int) + (↑x.side.length:Int) + (↑x.cycle.length:Int) > 300) = false->(decide ((↑S.length:Int) > 200) = true->True/\((true = true/\True)/\True))/\(decide ((↑S.length:Int) > 200) = false->True/\((!true) = true->True/\((true = true/\True)/\True))/\((!true) = false->(Bytes c/\(Bytes d/\(c.length <= maxLen/\(d.length <= maxLen))))/\True/\((ofE { most:=(z0r c d true).most,inst:=(z0r c d true).inst,s:=(z0r c d true).s,t:=(z0r c d true).t:ProbD } != (0:Int)) = true->(z4g x S)/\((true = true->(z4g x S)/\((true = true/\True)/\True))/\(z3k)))/\((ofE { most:=(z0r c d true).most,inst:=(z0r c d true).inst,s:=(z0r c d true).s,t:=(z0r c d true).t:ProbD } != (0:Int)) = false->(Bytes e/\(e.length <= maxLen/\(NiceI (z20 c d))))/\∃ (g0:Nat),(g0 <= (maI c d).sup.length/\((True/\(True/\(True/\(k = k/\(0 = 0/\(0 = 0/\(0 = 0/\(0 = 0/\(0 = 0/\((0:Int) = ↑g0/\True))))))))))/\(((z57 (z20 c d) e).kind = (1:Int)/\(True/\(True/\(True/\(True/\True)))))/\((z57 (z20 c d) e).flow = (maB c d e g0).flow/\((z57 (z20 c d) e).pot = (maB c d e g0).pot/\((z57 (z20 c d) e).side = []/\((z57 (z20 c d) e).cycle = []/\((True/\(True/\True))/\((z20 c d).sup = (maI c d).sup/\((z20 c d).arcs = (maI c d).arcs/\(z8b c d x p S e)))))))))))/\∀ (g:Nat),g <= (maI c d).sup.length->(decide ((↑g:Int) < ↑(maB c d e g).pot.length) = true->((0:Int) <= ↑g/\((↑g:Int) < ↑(maB c d e g).pot.length))/\((↑g:Int).toNat < (maB c d e g).pot.length/\(∀ (x_1:Int),(maB c d e g).pot[(↑g:Int).toNat]? = some x_1->(2:Int) ≠ (0:Int)/\(((0:Int) <= ↑g/\((↑g:Int) < ↑(maB c d e g).pot.length))/\((↑g:Int).toNat < (maB c d e g).pot.length/\(∃ (g':Nat),g' <= (maI c d).sup.length/\((maI c d).sup.length - g' < (maI c d).sup.length - g/\((True/\(True/\(True/\(k = k/\(0 = 0/\(0 = 0/\(0 = 0/\(0 = 0/\(0 = 0/\(IntKind.i64.wrap ((↑g:Int) + (1:Int)) = (↑g':Int)/\True))))))))))/\(((1:Int) = 1/\(True/\(True/\(True/\(True/\True)))))/\((maB c d e g).flow = (maB c d e g').flow/\((maB c d e g).pot.set (↑g:Int).toNat (x_1.tmod (2:Int)) = (maB c d e g').pot/\(z0t Bool/\(z0t Int/\((True/\(True/\True))/\((maI c d).sup = (maI c d).sup/\((maI c d).arcs = (maI c d).arcs/\(z8b c d x p S e)))))))))))))))))/\(decide ((↑g:Int) < ↑(maB c d e g).pot.length) = false->(z4g x S)/\((true = true->(z4g x S)/\((true = true->(Bytes e/\((↑(maI c d).sup.length:Int) <= 1000000))/\((z0j { kind:=(1:Int),flow:=(maB c d e g).flow,pot:=(maB c d e g).pot,side:=[],cycle:=[]:Cert }/\((z0y e (↑(maI c d).sup.length:Int).toNat).length <= (1000000:Nat)))/\((true = true->(Bytes e/\(e.length <= maxLen/\((z0r c d true).inst.sup.length <= (1000:Nat)/\((z0r c d true).inst.arcs.length <= (1000:Nat)))))/\((Bytes e/\((z0r c d true).inst.sup.length <= (1000:Nat)/\((0:Int) <= (z0r c d true).s/\((z0r c d true).s < (↑(z0r c d true).inst.sup.length:Int)/\((0:Int) <= (z0r c d true).t/\((z0r c d true).t < (↑(z0r c d true).inst.sup.length:Int)))))))/\((z0j { kind:=(z3j c d e).kind,flow:=(z3j c d e).flow,pot:=(z3j c d e).pot,side:=(z3j c d e).side,cycle:=(z3j c d e).cycle:Cert }/\((ownF { most:=(z0r c d true).most,inst:=(z0r c d true).inst,s:=(z0r c d true).s,t:=(z0r c d true).t:ProbD } e).length <= (1000000:Nat)))/\((true = true->((0:Int) <= k/\(k <= (255:Int)/\((maI c d).sup.length <= (1000:Nat)/\((maI c d).arcs.length <= (1000:Nat)/\(L42 (maI c d).arcs/\(Bytes d/\(Bytes e/\(e.length <= maxLen))))))))/\((z0j { kind:=(z2y (maI c d) k d e).kind,flow:=(z2y (maI c d) k d e).flow,pot:=(z2y (maI c d) k d e).pot,side:=(z2y (maI c d) k d e).side,cycle:=(z2y (maI c d) k d e).cycle:Cert }/\(0 <= 1000000))/\((true = true/\True)/\True)))/\(z3k)))))/\(z3k))))/\(z3k)))/\(z3k))))))))
theorem MaxiAsks_q (p:ProbD) (x:Cert) (S:List Bool) (c:List Int) (d:List Int) (e:List Int) (k:Int) (ty0 ty1 ty2 ty3 ty4 ty5 ty6 ty7 ty8 ty9:TypeId):z8a p x S c d e k ty0 ty1 ty2 ty3 ty4 ty5 ty6 ty7 ty8 ty9 = z1f TT zav (MaxiAsks_I p x S c d e k) (z8c p x S c d e k) Tryz.f3 [.agg [.bool p.most,.row 0,.row 1,.int .i64 p.s,.int .i64 p.t],.agg [.int .i64 x.kind,.row 2,.row 3,.row 4,.row 5],.row 6,.row 7,.row 8,.row 9,.int .u8 k] [(0,.row false ty0 (.ints .i64 p.inst.sup)),(1,.row false ty1 (.arcs p.inst.arcs)),(2,.row false ty2 (.ints .i64 x.flow)),(3,.row false ty3 (.ints .i64 x.pot)),(4,.row false ty4 (.bools x.side)),(5,.row false ty5 (.ints .i64 x.cycle)),(6,.row false ty6 (.bools S)),(7,.row false ty7 (.ints .u8 c)),(8,.row false ty8 (.ints .u8 d)),(9,.row false ty9 (.ints .u8 e))] (z5e p x S c d e k):=by kernel_rfl
theorem MaxiAsks_E (p:ProbD) (x:Cert) (S:List Bool) (c:List Int) (d:List Int) (e:List Int) (k:Int) (ty0 ty1 ty2 ty3 ty4 ty5 ty6 ty7 ty8 ty9:TypeId) (hp:z0j x/\S.length <= 1000000000000000000/\p.inst.sup.length <= 1000000000000000000/\p.inst.arcs.length <= 1000000000000000000/\Bytes c/\Bytes d/\c.length <= maxLen/\d.length <= maxLen/\Bytes e/\e.length <= maxLen/\0 <= k/\k <= 255):FVc TT zav (MaxiAsks_I p x S c d e k) (z8c p x S c d e k) Tryz.f3 [.agg [.bool p.most,.row 0,.row 1,.int .i64 p.s,.int .i64 p.t],.agg [.int .i64 x.kind,.row 2,.row 3,.row 4,.row 5],.row 6,.row 7,.row 8,.row 9,.int .u8 k] [(0,.row false ty0 (.ints .i64 p.inst.sup)),(1,.row false ty1 (.arcs p.inst.arcs)),(2,.row false ty2 (.ints .i64 x.flow)),(3,.row false ty3 (.ints .i64 x.pot)),(4,.row false ty4 (.bools x.side)),(5,.row false ty5 (.ints .i64 x.cycle)),(6,.row false ty6 (.bools S)),(7,.row false ty7 (.ints .u8 c)),(8,.row false ty8 (.ints .u8 d)),(9,.row false ty9 (.ints .u8 e))] (z5e p x S c d e k):=by
 refine FVc.of (z8a p x S c d e k ty0 ty1 ty2 ty3 ty4 ty5 ty6 ty7 ty8 ty9) (MaxiAsks_q p x S c d e k ty0 ty1 ty2 ty3 ty4 ty5 ty6 ty7 ty8 ty9) ?_
 unfold z8a
 delta z3k z4g z3j z8b z20
 obtain ⟨p1,p2,p3,p4,p5,p6,p7,p8,p9,p10,k0,k1⟩:=hp
 have hw:∀ j:Nat,j <= 1000000->IntKind.i64.wrap ((j:Int) + 1) = ((j + 1:Nat):Int):=fun j hj=>by rw [w64 (by omega) (by omega)]; omega
 simp only [eq_self,exists_const,forall_const,decide_eq_true_eq,decide_eq_false_iff_not,and_true,true_and,bne_iff_ne,ne_eq,bne_eq_false_iff_eq,Int.toNat_natCast,Bool.not_eq_true',Bool.not_eq_false',beq_iff_eq,beq_eq_false_iff_ne,z07]
 refine ⟨⟨p3,p4⟩,fun _=>trivial,fun _=>⟨p1,fun _=>trivial,fun _=>⟨fun _=>trivial,fun hS=>⟨fun _=>trivial,⟨p5,p6,p7,p8⟩,fun _=>⟨⟨p1,by omega⟩,⟨p1,by omega⟩,fun h=>by cases h⟩,fun h0=>?_⟩⟩⟩⟩
 have hP:=prob_of h0
 have hf:=hP.fit
 have n1:=hP.n1
 have n2:=hP.n2
 have m1:=hP.m
 have eI:maI c d = ofP (z0r c d true):=zd3 h0
 have eI2:ofI (z0r c d true) = maI c d:=rfl
 have hI:NiceI (maI c d):=by rw [eI]; exact hP.niceI
 have hr:z0a (maI c d) = 0:=by rw [eI]; exact z7j h0
 have nI:(maI c d).sup.length = (z0r c d true).inst.sup.length:=by rw [eI]; rfl
 have mI:(maI c d).arcs.length = (z0r c d true).inst.arcs.length + 1:=by rw [eI]; exact ofP_len _
 have ns:=nodeP_iff.1 hf.s
 have nt:=nodeP_iff.1 hf.t
 rw [eI2]
 have pl:∀ j,(maB c d e j).pot.length = (maI c d).sup.length:=fun j=>by
  show (z44 _ _ _).length = _
  rw [zaf]
  show (z2e e (maI c d).sup.length).length = _
  unfold z2e; simp
 have f7:∀ y ∈ (z57 (maI c d) e).flow,0 <= y/\y <= 7:=best_seven hI.arc _ (z9r _ e) (flow_in hI.arc e) _
 have fl:(z57 (maI c d) e).flow.length = (maI c d).arcs.length:=(zgh _ _ _ _).trans (z9r _ e)
 have okB:∀ j,z0j ⟨1,(maB c d e j).flow,(maB c d e j).pot,[],[]⟩:=fun j=>⟨fun y hy=>by have:=f7 y hy; unfold I64; omega,fun y hy=>by
  rcases stepL_mem hy with ⟨z,hz,rfl⟩ | hz
  ·have:=Int.tmod_lt_of_pos z (show (0:Int) < 2 by omega); have:=Int.lt_tmod_of_pos z (show (0:Int) < 2 by omega); unfold I64; omega
  ·have:=potF_few hz; unfold I64; omega,by show (z57 (maI c d) e).flow.length <= _; omega,by dsimp only; rw [pl]; omega,Nat.zero_le _,Nat.zero_le _⟩
 have okL:z0j (z3f (z0r c d true) e):=⟨fun y hy=>by rw [(List.mem_replicate.1 hy).2]; unfold I64; omega,fun y hy=>by have:=potF_few hy; unfold I64; omega,by unfold z3f; dsimp only; rw [List.length_replicate]; omega,by unfold z3f z2e; simp; omega,Nat.zero_le _,Nat.zero_le _⟩
 have okC:=(certF_ok (I:=maI c d) (k:=k) (d:=d) (e:=e) hr (flow_few hI.arc d).a64).1
 have hml:(z0y e (maI c d).sup.length).length <= 1000000:=by unfold z0y; simp; omega
 refine ⟨⟨p9,p10,hI⟩,0,⟨Nat.zero_le _,rfl,rfl,rfl,(stepL_zero _ _).symm,rfl,rfl,rfl,rfl⟩,fun g hg=>?_⟩
 have hol:=own_len (z0r c d true) e
 have hL:=(right_A64 hr).2.2.2
 rw [pl]
 refine ⟨fun h1=>⟨⟨by omega,by omega⟩,by omega,fun y hy=>⟨by decide,⟨by omega,by omega⟩,by omega,g + 1,by omega,by omega,hw g (by omega),rfl,stepL_set (stepL_get hy) rfl⟩⟩,fun h1=>?_⟩
 have hX:z0j x/\S.length <= 1000000:=⟨p1,by omega⟩
 refine ⟨hX,⟨hX,⟨⟨p9,by omega⟩,⟨okB g,hml⟩,⟨⟨p9,p10,by omega,by omega⟩,⟨p9,by omega,ns.1,ns.2,nt.1,nt.2⟩,⟨okL,by omega⟩,⟨⟨k0,k1,by omega,by omega,hL,p6,p9,p10⟩,okC,by omega⟩,fun h=>by cases h⟩,fun h=>by cases h⟩,fun h=>by cases h⟩,fun h=>by cases h⟩
theorem MaxiAsks_ok:SpecOk Tryz.prog MaxiAsks_n true (z02 true zex) :=
 z06 z0g (show z10 Tryz.prog zav from z00 Size_ok (z00 LongC_ok (z00 known21_ok (z00 Prob08_ok (z00 ze0 (z00 asks21_ok (z00 Best19_ok (z00 own21_ok (z00 Level21_ok (z00 Marks_ok (z00 CertC_ok (z04)))))))))))) (by kernel_rfl) mixedOrders Tryz.func3 rfl rfl (by kernel_rfl) (n:=7) (by decide +kernel) (I:=MaxiAsks_IA) (fun _ _=>z05) (A:=MaxiAsks_A)
  (fun args h r hr=>by
   unfold zex at hr
   split at hr
   ·rename_i p_m p_S p_T x_k k ty0 p_s ty1 p_a ty2 x_f ty3 x_p ty4 x_s ty5 x_y ty6 S ty7 c ty8 d ty9 e; cases hr; refine ⟨rfl,fun hp=>?_⟩; have hE:=MaxiAsks_E ⟨p_m,⟨p_s,p_a⟩,p_S,p_T⟩ ⟨x_k,x_f,x_p,x_s,x_y⟩ S c d e k ty0 ty1 ty2 ty3 ty4 ty5 ty6 ty7 ty8 ty9 hp; exact hE
   ·cases hr)
end Go.Proofs.YtapeenpimcffpaaGreat
end
section
namespace Go.Proofs.YtapeenpimcffpaaGreat
open Go Go.RowKit Go.ChangeShapes Go.WideShapes Go.ChangeAt Go.Deep Go.Ql Go.Vc
set_option maxHeartbeats 2000000 in
theorem zbs (H:Type) (enc:TypeId × Value->H) (W:World) (base:Nat) (args:Array Value) (ds gs:List (DataW H)) (before:List MemPlace)
  (hval:∀ (j:Nat) t v,Tryz.f3.params[j]? = some t->args[j]? = some v->Value.okWide Tryz.prog W .any base t v)
  (hW:DataW.Whole enc Tryz.prog Tryz.f3.params.toList Rows.maxiAsksSpec.vars false W args.toList ds gs before)
  (hz:(DataW.weightsEach Tryz.prog (Tryz.f3.params.toList ++ Rows.maxiAsksSpec.plain.varTypes Tryz.prog) (ds ++ gs)).all (· <= reachBytes) = true) :
  Calls Tryz.prog 3 args W fun e W'=>∃ v,e = .returned v/\Rows.maxiAsksSpec.post enc Tryz.prog Tryz.f3 false true false false W args v W':=by
 have hW':=hW
 obtain ⟨p,q,hA0,hV,rfl,hfz,hnd⟩:=hW
 have hA:DataW.TrodAll enc Tryz.prog W 0 (fun _=>true) true Tryz.f3.params.toList args.toList ds p:=hA0
 rw [Tryz.params3] at hA hval hz
 obtain ⟨v0,vs0,d0,ds0,p0,q0,hargs,rfl,rfl,h0,r0⟩:=trodAll_cons hA
 obtain ⟨v1,vs1,d1,ds1,p1,q1,rfl,rfl,rfl,h1,r1⟩:=trodAll_cons r0
 obtain ⟨v2,vs2,d2,ds2,p2,q2,rfl,rfl,rfl,h2,r2⟩:=trodAll_cons r1
 obtain ⟨v3,vs3,d3,ds3,p3,q3,rfl,rfl,rfl,h3,r3⟩:=trodAll_cons r2
 obtain ⟨v4,vs4,d4,ds4,p4,q4,rfl,rfl,rfl,h4,r4⟩:=trodAll_cons r3
 obtain ⟨v5,vs5,d5,ds5,p5,q5,rfl,rfl,rfl,h5,r5⟩:=trodAll_cons r4
 obtain ⟨v6,vs6,d6,ds6,p6,q6,rfl,rfl,rfl,h6,r6⟩:=trodAll_cons r5
 obtain ⟨rfl,rfl,rfl⟩:=trodAll_nil r6
 obtain rfl:args = #[v0,v1,v2,v3,v4,v5,v6]:=by cases args; simp_all
 obtain ⟨z0,hz⟩:=z2n hz
 obtain ⟨z1,hz⟩:=z2n hz
 obtain ⟨z2,hz⟩:=z2n hz
 obtain ⟨z3,hz⟩:=z2n hz
 obtain ⟨z4,hz⟩:=z2n hz
 obtain ⟨z5,hz⟩:=z2n hz
 obtain ⟨z6,hz⟩:=z2n hz
 obtain ⟨A0,c0,A0',c0',M0,I0,S0,T0,rfl,hR0,hR0',hs0⟩:=dec_prob (hval 0 27 v0 rfl rfl) h0
 replace hs0:=hs0 z0
 obtain ⟨A11,c11,A12,c12,A13,c13,A14,c14,k1,x11,x12,x13,x14,rfl,hR11,hR12,hR13,hR14,hb1,hs1⟩:=dec_cert (hval 1 31 v1 rfl rfl) h1
 replace hs1:=hs1 z1
 obtain ⟨A2,c2,x2,rfl,hR2,hm2⟩:=dec_bools Tryz.underlying28 Tryz.underlying4 (by kernel_rfl) (hval 2 28 v2 rfl rfl) h2
 have hs2:=z68 Tryz.underlying28 (of_decide_eq_true (by kernel_rfl)) h2 z2
 obtain ⟨A3,c3,x3,rfl,hR3,hm3,hw3⟩:=dec_ints Tryz.underlying32 Tryz.underlying5 (by kernel_rfl) (hval 3 32 v3 rfl rfl) h3
 have hb3:=wf_u8 hw3
 have hs3:=z68 Tryz.underlying32 (of_decide_eq_true (by kernel_rfl)) h3 z3
 obtain ⟨A4,c4,x4,rfl,hR4,hm4,hw4⟩:=dec_ints Tryz.underlying32 Tryz.underlying5 (by kernel_rfl) (hval 4 32 v4 rfl rfl) h4
 have hb4:=wf_u8 hw4
 have hs4:=z68 Tryz.underlying32 (of_decide_eq_true (by kernel_rfl)) h4 z4
 obtain ⟨A5,c5,x5,rfl,hR5,hm5,hw5⟩:=dec_ints Tryz.underlying32 Tryz.underlying5 (by kernel_rfl) (hval 5 32 v5 rfl rfl) h5
 have hb5:=wf_u8 hw5
 have hs5:=z68 Tryz.underlying32 (of_decide_eq_true (by kernel_rfl)) h5 z5
 obtain ⟨x6,rfl,rfl,rfl,wn6⟩:=open_int Tryz.underlying5 (hval 6 5 v6 rfl rfl) h6
 have hb6:=wf1_u8 wn6
 have hpre:(z5e ⟨M0,I0,S0,T0⟩ ⟨k1,x11,x12,x13,x14⟩ x2 x3 x4 x5 x6).pre:=⟨⟨fun y hy=>hb1.1 y hy,fun y hy=>hb1.2.1 y hy,hs1.1,hs1.2.1,hs1.2.2.1,hs1.2.2.2⟩,by omega,by dsimp only; omega,by dsimp only; omega,hb3,hb4,hm3,hm4,hb5,hm5,hb6.1,hb6.2⟩
 have hc:=law_calls (enter_gen Tryz.func3 rfl rfl) MaxiAsks_ok (ρ:=fun k=>if k = 0 then .slice A0 I0.sup.length c0 else if k = 1 then .slice A0' I0.arcs.length c0' else if k = 2 then .slice A11 x11.length c11 else if k = 3 then .slice A12 x12.length c12 else if k = 4 then .slice A13 x13.length c13 else if k = 5 then .slice A14 x14.length c14 else if k = 6 then .slice A2 x2.length c2 else if k = 7 then .slice A3 x3.length c3 else if k = 8 then .slice A4 x4.length c4 else if k = 9 then .slice A5 x5.length c5 else .int .i64 0) (W:=W) (args:=[.agg [.bool M0,.row 0,.row 1,.int .i64 S0,.int .i64 T0],.agg [.int .i64 k1,.row 2,.row 3,.row 4,.row 5],.row 6,.row 7,.row 8,.row 9,.int .u8 x6]) (hp:=[(0,.row false 0 (.ints .i64 I0.sup)),(1,.row false 0 (.arcs I0.arcs)),(2,.row false 0 (.ints .i64 x11)),(3,.row false 0 (.ints .i64 x12)),(4,.row false 0 (.bools x13)),(5,.row false 0 (.ints .i64 x14)),(6,.row false 0 (.bools x2)),(7,.row false 0 (.ints .u8 x3)),(8,.row false 0 (.ints .u8 x4)),(9,.row false 0 (.ints .u8 x5))]) (fun k=>by (repeat' split) <;> rfl) ⟨⟨rfl,z95 hR0⟩,⟨⟨rfl,ro_arcs hR0'⟩,⟨⟨rfl,z95 hR11⟩,⟨⟨rfl,z95 hR12⟩,⟨⟨rfl,ro_bools hR13⟩,⟨⟨rfl,z95 hR14⟩,⟨⟨rfl,ro_bools hR2⟩,⟨⟨rfl,z95 hR3⟩,⟨⟨rfl,z95 hR4⟩,⟨⟨rfl,z95 hR5⟩,trivial⟩⟩⟩⟩⟩⟩⟩⟩⟩⟩ ((z5e ⟨M0,I0,S0,T0⟩ ⟨k1,x11,x12,x13,x14⟩ x2 x3 x4 x5 x6).pre/\SV.bool true = .bool true) ⟨hpre,rfl⟩ (by kernel_rfl)
 simp only [z0k,SV.toV] at hc
 refine Calls.mono (show Calls Tryz.prog 3 #[_,_,_,_,_,_,_] W _ from hc) fun e W' hx=>?_
 obtain ⟨rfl,hb⟩:=hx
 exact ⟨_,rfl,law_post laid_out hW' rfl (by kernel_rfl) Tryz.underlying4 (by kernel_rfl) rfl hb⟩
theorem zhf (os:Os) (started:os.Started) (H:Type) (enc:TypeId × Value->H) :
  ReturnsInHanded {} Tryz.checked os 3 .any (Rows.maxiAsksSpec.pre6 enc Tryz.prog Tryz.f3 Rows.maxiAsksRow.domain false) (Rows.maxiAsksSpec.post enc Tryz.prog Tryz.f3 false true false false):=by
 refine returnsInHanded_of_change_sized (C:=Tryz.checked) own_knob started (by kernel_rfl) Tryz.func3
  (ChangeSpec.witness6 (enc:=enc) (C:=Tryz.checked) false ⟨#[],#[.agg #[.bool false,.slice none 0 0,.slice none 0 0,.int .i64 0,.int .i64 0],.agg #[.int .i64 0,.slice none 0 0,.slice none 0 0,.slice none 0 0,.slice none 0 0],.slice none 0 0,.slice none 0 0,.slice none 0 0,.slice none 0 0,.int .u8 0],[]⟩ 8 (by kernel_rfl) (by kernel_rfl) (by kernel_rfl) (by kernel_rfl)) ?_
 intro W base args ds gs before hval0 hW hcnd hz _
 exact zbs H enc W base args ds gs before hval0 hW hz
theorem maxiAsks_holds:Rows.MaxiAsksSaid :=
 OpenClaim.holds_of_wide 3 Tryz.f3 rfl rfl rfl rfl rfl rfl rfl ⟨rfl,rfl,rfl,rfl,rfl⟩ rfl rfl rfl rfl rfl (by kernel_rfl) Tryz.func3 (by kernel_rfl)
  (of_decide_eq_true (by kernel_rfl)) (by unfold Func.isWrapper; first | (rw [if_pos (by decide +kernel)]; kernel_rfl) | (rw [if_neg (by decide +kernel)]; exact ⟨rfl,rfl⟩))
  (fun os started H enc _=>zhf os started H enc)
end Go.Proofs.YtapeenpimcffpaaGreat
end
