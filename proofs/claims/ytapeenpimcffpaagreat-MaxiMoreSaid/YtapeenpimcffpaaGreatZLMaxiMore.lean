/- MaxiMore: the law is true for every input: the given statement, with no condition of its own. -/
import Derived.Test.YtapeenpimcffpaaGreatZG11
import Derived.Test.YtapeenpimcffpaaGreatZG15
import Derived.Test.YtapeenpimcffpaaGreatZG16
import Derived.Test.YtapeenpimcffpaaGreatZG14
import Derived.Test.YtapeenpimcffpaaGreatZG5
set_option linter.all false
set_option linter.unusedSimpArgs false
set_option linter.unusedVariables false
set_option maxRecDepth 1000000
section
namespace Go.Proofs.YtapeenpimcffpaaGreat
open Go Go.RowKit Go.Ql Go.Vc
def z76 (c:List Int) (d:List Int) (h:Int) (r:Int):FRes:={ pre:=Bytes c/\Bytes d/\c.length <= maxLen/\d.length <= maxLen/\0 <= h/\h <= 255/\0 <= r/\r <= 255,res:=.bool (true),rows:=[],eff:=[] }
def zid:FS:=fun args h=>match args,h with
 | [.row 0,.row 1,.int .u8 h,.int .u8 r],[(0,.row false ty0 (.ints .u8 c)),(1,.row false ty1 (.ints .u8 d))]=>some (z76 c d h r)
 | _,_=>none
def zic (c:List Int) (d:List Int) (h:Int) (r:Int):List (Nat × Ann):=[]
def MaxiMore_A:List SV->z0d->List (Nat × Ann):=fun _ _=>[]
def zef:z0b:=[(known21_n,(true,z02 true zfl)),(Prob08_n,(true,z02 true zio)),(Of21_n,(true,z02 true zeg)),(Solve_n,(true,z0y true Solve_fs)),(ziv,(true,z02 true za6))]
abbrev MaxiMore_n:Nat:=6
def MaxiMore_I (c:List Int) (d:List Int) (h:Int) (r:Int):List (Nat × z08):=[]
def MaxiMore_IA:List SV->z0d->List (Nat × z08):=fun _ _=>[]
end Go.Proofs.YtapeenpimcffpaaGreat
end
section
namespace Go.Proofs.YtapeenpimcffpaaGreat
open Go Go.RowKit Go.Ql Go.Vc
abbrev z2b (c:List Int) (d:List Int):=(ofI { most:=(z0n c d true).most,inst:=(z0n c d true).inst,s:=(z0n c d true).s,t:=(z0n c d true).t:ProbD })
abbrev z7s (c:List Int) (d:List Int) (h:Int) (x_1:Arc) (x:Arc) (r:Int):=(ofI { most:=(z0n c d true).most,inst:={ sup:=(z0n c d true).inst.sup,arcs:=(z0n c d true).inst.arcs.set ((IntKind.i64.wrap h).tmod (↑(z0n c d true).inst.arcs.length:Int)).toNat { src:=x_1.src,dst:=x_1.dst,low:=x_1.low,cap:=IntKind.i64.wrap (x.cap + IntKind.i64.wrap r),cost:=x_1.cost:Arc }:Inst },s:=(z0n c d true).s,t:=(z0n c d true).t:ProbD })
abbrev z5y (c:List Int) (d:List Int) (g:Cert × Int):=(!z34 { most:=(z0n c d true).most,inst:=(z0n c d true).inst,s:=(z0n c d true).s,t:=(z0n c d true).t:ProbD } { kind:=g.1.kind,flow:=g.1.flow,pot:=g.1.pot,side:=g.1.side,cycle:=g.1.cycle:Cert })
abbrev zbi (c:List Int) (d:List Int) (g:Cert × Int) (h:Int) (x_1:Arc) (x:Arc) (r:Int) (g_1:Cert × Int):=(z34 { most:=(z0n c d true).most,inst:=(z0n c d true).inst,s:=(z0n c d true).s,t:=(z0n c d true).t:ProbD } { kind:=g.1.kind,flow:=g.1.flow,pot:=g.1.pot,side:=g.1.side,cycle:=g.1.cycle:Cert } == z34 { most:=(z0n c d true).most,inst:={ sup:=(z0n c d true).inst.sup,arcs:=(z0n c d true).inst.arcs.set ((IntKind.i64.wrap h).tmod (↑(z0n c d true).inst.arcs.length:Int)).toNat { src:=x_1.src,dst:=x_1.dst,low:=x_1.low,cap:=IntKind.i64.wrap (x.cap + IntKind.i64.wrap r),cost:=x_1.cost:Arc }:Inst },s:=(z0n c d true).s,t:=(z0n c d true).t:ProbD } { kind:=g_1.1.kind,flow:=g_1.1.flow,pot:=g_1.1.pot,side:=g_1.1.side,cycle:=g_1.1.cycle:Cert })
abbrev zbj (c:List Int) (d:List Int) (h:Int) (x_1:Arc) (x:Arc) (r:Int) (g_1:Cert × Int) (g:Cert × Int):=(z8w { most:=(z0n c d true).most,inst:={ sup:=(z0n c d true).inst.sup,arcs:=(z0n c d true).inst.arcs.set ((IntKind.i64.wrap h).tmod (↑(z0n c d true).inst.arcs.length:Int)).toNat { src:=x_1.src,dst:=x_1.dst,low:=x_1.low,cap:=IntKind.i64.wrap (x.cap + IntKind.i64.wrap r),cost:=x_1.cost:Arc }:Inst },s:=(z0n c d true).s,t:=(z0n c d true).t:ProbD } { kind:=g_1.1.kind,flow:=g_1.1.flow,pot:=g_1.1.pot,side:=g_1.1.side,cycle:=g_1.1.cycle:Cert } ≥ z8w { most:=(z0n c d true).most,inst:=(z0n c d true).inst,s:=(z0n c d true).s,t:=(z0n c d true).t:ProbD } { kind:=g.1.kind,flow:=g.1.flow,pot:=g.1.pot,side:=g.1.side,cycle:=g.1.cycle:Cert })
abbrev zbk (c:List Int) (d:List Int) (g:Cert × Int) (g_1:Cert × Int):=(z34 { most:=(z0n c d true).most,inst:=(z0n c d true).inst,s:=(z0n c d true).s,t:=(z0n c d true).t:ProbD } { kind:=g.1.kind,flow:=g.1.flow,pot:=g.1.pot,side:=g.1.side,cycle:=g.1.cycle:Cert } == z34 { most:=(z0n c d true).most,inst:=(z0n c d true).inst,s:=(z0n c d true).s,t:=(z0n c d true).t:ProbD } { kind:=g_1.1.kind,flow:=g_1.1.flow,pot:=g_1.1.pot,side:=g_1.1.side,cycle:=g_1.1.cycle:Cert })
abbrev zbl (c:List Int) (d:List Int) (g_1:Cert × Int) (g:Cert × Int):=(z8w { most:=(z0n c d true).most,inst:=(z0n c d true).inst,s:=(z0n c d true).s,t:=(z0n c d true).t:ProbD } { kind:=g_1.1.kind,flow:=g_1.1.flow,pot:=g_1.1.pot,side:=g_1.1.side,cycle:=g_1.1.cycle:Cert } ≥ z8w { most:=(z0n c d true).most,inst:=(z0n c d true).inst,s:=(z0n c d true).s,t:=(z0n c d true).t:ProbD } { kind:=g.1.kind,flow:=g.1.flow,pot:=g.1.pot,side:=g.1.side,cycle:=g.1.cycle:Cert })
abbrev z46 (c:List Int) (d:List Int):=(↑(z0n c d true).inst.arcs.length:Int)
abbrev z7t (h:Int) (c:List Int) (d:List Int):=((0:Int) <= (IntKind.i64.wrap h).tmod (z46 c d)/\((IntKind.i64.wrap h).tmod (z46 c d) < ↑(z0n c d true).inst.arcs.length))
abbrev zbm (c:List Int) (d:List Int) (g:Cert × Int) (r:Int):=(z8w { most:=(z0n c d true).most,inst:=(z0n c d true).inst,s:=(z0n c d true).s,t:=(z0n c d true).t:ProbD } { kind:=g.1.kind,flow:=g.1.flow,pot:=g.1.pot,side:=g.1.side,cycle:=g.1.cycle:Cert } + IntKind.i64.wrap r)
abbrev z2v (h:Int) (c:List Int) (d:List Int):=((IntKind.i64.wrap h).tmod (z46 c d))
def zbh (c : List Int) (d : List Int) (h : Int) (r : Int) (ty0 ty1 : TypeId) : Prop :=
   (Bytes c/\(Bytes d/\(c.length <= maxLen/\(d.length <= maxLen))))/\(Bytes c/\(Bytes d/\(c.length <= maxLen/\(d.length <= maxLen))))/\True/\((ofE { most:=(z0n c d true).most,inst:=(z0n c d true).inst,s:=(z0n c d true).s,t:=(z0n c d true).t:ProbD } != (0:Int)) = true->True/\((true = true/\True)/\True))/\((ofE { most:=(z0n c d true).most,inst:=(z0n c d true).inst,s:=(z0n c d true).s,t:=(z0n c d true).t:ProbD } != (0:Int)) = false->(((z46 c d) == (0:Int)) = true->True/\((true = true/\True)/\True))/\(((z46 c d) == (0:Int)) = false->(z46 c d) ≠ (0:Int)/\(z7t h c d)/\(z2v h c d).toNat < (z0n c d true).inst.arcs.length/\∀ (x:Arc),(z0n c d true).inst.arcs[(z2v h c d).toNat]? = some x->((x.cap != (4611686018427387904:Int)) = true->(z7t h c d)/\(z2v h c d).toNat < (z0n c d true).inst.arcs.length/\∀ (x:Arc),(z0n c d true).inst.arcs[(z2v h c d).toNat]? = some x->(z7t h c d)/\(z2v h c d).toNat < (z0n c d true).inst.arcs.length/\∀ (x_1:Arc),(z0n c d true).inst.arcs[(z2v h c d).toNat]? = some x_1->True/\(z04 (z2b c d) = (0:Int)->SmallI (z2b c d))/\∀ (g:Cert × Int),SolveP (z2b c d) g.1 g.2->(z04 (z7s c d h x_1 x r) = (0:Int)->SmallI (z7s c d h x_1 x r))/\∀ (g_1:Cert × Int),SolveP (z7s c d h x_1 x r) g_1.1 g_1.2->z1c { kind:=g.1.kind,flow:=g.1.flow,pot:=g.1.pot,side:=g.1.side,cycle:=g.1.cycle:Cert }/\z1c { kind:=g_1.1.kind,flow:=g_1.1.flow,pot:=g_1.1.pot,side:=g_1.1.side,cycle:=g_1.1.cycle:Cert }/\True/\(true = true->((zbi c d g h x_1 x r g_1) = true->((z5y c d g) = true->(true = true/\True)/\True)/\((z5y c d g) = false->(decide (zbj c d h x_1 x r g_1 g) = true->(decide (z8w { most:=(z0n c d true).most,inst:={ sup:=(z0n c d true).inst.sup,arcs:=(z0n c d true).inst.arcs.set (z2v h c d).toNat { src:=x_1.src,dst:=x_1.dst,low:=x_1.low,cap:=IntKind.i64.wrap (x.cap + IntKind.i64.wrap r),cost:=x_1.cost:Arc }:Inst },s:=(z0n c d true).s,t:=(z0n c d true).t:ProbD } { kind:=g_1.1.kind,flow:=g_1.1.flow,pot:=g_1.1.pot,side:=g_1.1.side,cycle:=g_1.1.cycle:Cert } <= IntKind.i64.wrap (zbm c d g r)) = true/\True)/\True)/\(decide (zbj c d h x_1 x r g_1 g) = false->(false = true/\True)/\True)))/\((zbi c d g h x_1 x r g_1) = false->(false = true/\True)/\True))/\(true = false->(false = true/\True)/\True))/\((x.cap != (4611686018427387904:Int)) = false->True/\(z04 (z2b c d) = (0:Int)->SmallI (z2b c d))/\∀ (g:Cert × Int),SolveP (z2b c d) g.1 g.2->(z04 (z2b c d) = (0:Int)->SmallI (z2b c d))/\∀ (g_1:Cert × Int),SolveP (z2b c d) g_1.1 g_1.2->z1c { kind:=g.1.kind,flow:=g.1.flow,pot:=g.1.pot,side:=g.1.side,cycle:=g.1.cycle:Cert }/\z1c { kind:=g_1.1.kind,flow:=g_1.1.flow,pot:=g_1.1.pot,side:=g_1.1.side,cycle:=g_1.1.cycle:Cert }/\True/\(true = true->((zbk c d g g_1) = true->((z5y c d g) = true->(true = true/\True)/\True)/\((z5y c d g) = false->(decide (zbl c d g_1 g) = true->(decide (z8w { most:=(z0n c d true).most,inst:=(z0n c d true).inst,s:=(z0n c d true).s,t:=(z0n c d true).t:ProbD } { kind:=g_1.1.kind,flow:=g_1.1.flow,pot:=g_1.1.pot,side:=g_1.1.side,cycle:=g_1.1.cycle:Cert } <= IntKind.i64.wrap (zbm c d g r)) = true/\True)/\True)/\(decide (zbl c d g_1 g) = false->(false = true/\True)/\True)))/\((zbk c d g g_1) = false->(false = true/\True)/\True))/\(true = false->(false = true/\True)/\True))))
theorem MaxiMore_q (c:List Int) (d:List Int) (h:Int) (r:Int) (ty0 ty1:TypeId):zbh c d h r ty0 ty1 = z2g TT zef (MaxiMore_I c d h r) (zic c d h r) Tryz.f6 [.row 0,.row 1,.int .u8 h,.int .u8 r] [(0,.row false ty0 (.ints .u8 c)),(1,.row false ty1 (.ints .u8 d))] (z76 c d h r):=by kernel_rfl
theorem MaxiMore_E (c:List Int) (d:List Int) (h:Int) (r:Int) (ty0 ty1:TypeId) (hp:Bytes c/\Bytes d/\c.length <= maxLen/\d.length <= maxLen/\0 <= h/\h <= 255/\0 <= r/\r <= 255):FVc TT zef (MaxiMore_I c d h r) (zic c d h r) Tryz.f6 [.row 0,.row 1,.int .u8 h,.int .u8 r] [(0,.row false ty0 (.ints .u8 c)),(1,.row false ty1 (.ints .u8 d))] (z76 c d h r):=by
 refine FVc.of (zbh c d h r ty0 ty1) (MaxiMore_q c d h r ty0 ty1) ?_
 unfold zbh
 delta z2v zbm z7t z46 zbl zbk zbj zbi z5y z7s z2b
 obtain ⟨p1,p2,p3,p4,h0,h1,r0,r1⟩:=hp
 simp only [eq_self,exists_const,forall_const,decide_eq_true_eq,decide_eq_false_iff_not,and_true,true_and,bne_iff_ne,ne_eq,bne_eq_false_iff_eq,Int.toNat_natCast,Bool.not_eq_true',Bool.not_eq_false',beq_iff_eq,beq_eq_false_iff_ne,z06]
 refine ⟨⟨p1,p2,p3,p4⟩,⟨p1,p2,p3,p4⟩,fun _=>trivial,fun hz=>?_⟩
 have hP:=prob_of hz
 generalize z0n c d true = p at *
 have m1:=hP.m
 have wh:IntKind.i64.wrap h = h:=w64 (by omega) (by omega)
 have wr:IntKind.i64.wrap r = r:=w64 (by omega) (by omega)
 rw [wh,wr]
 refine ⟨fun _=>trivial,fun hm=>⟨hm,?_⟩⟩
 have b0:0 <= h.tmod (p.inst.arcs.length:Int):=Int.tmod_nonneg _ h0
 have b1:h.tmod (p.inst.arcs.length:Int) < (p.inst.arcs.length:Int):=Int.tmod_lt_of_pos _ (by omega)
 generalize h.tmod (p.inst.arcs.length:Int) = k at *
 have eI:ofI p = ofP p:=ofI_of hz
 have hsm:SmallI (ofP p):=ofP_small hP
 refine ⟨⟨b0,b1⟩,by omega,fun a ha=>⟨fun hc=>⟨⟨b0,b1⟩,by omega,fun b hb=>⟨⟨b0,b1⟩,by omega,fun b' hb'=>?_⟩⟩,fun hc=>?_⟩⟩
 ·rw [ha] at hb hb'
  cases hb
  cases hb'
  have hq:=hP.a a (List.mem_of_getElem? ha)
  have c0:=hq.c0
  have l0:=hq.l0
  have c1:=hq.c1.resolve_right hc
  have hi:inf = 4611686018427387904:=rfl
  rw [w64 (x:=a.cap + r) (by omega) (by omega)]
  have eq:(⟨p.most,⟨p.inst.sup,p.inst.arcs.set k.toNat ⟨a.src,a.dst,a.low,a.cap + r,a.cost⟩⟩,p.s,p.t⟩:ProbD) = moreP p k.toNat a r:=rfl
  simp only [eq]
  obtain ⟨o1,o2⟩:=moreP_ok hP ha r0 r1 (by rw [hi]; exact hc)
  refine ⟨fun _=>by rw [eI]; exact hsm,?_⟩
  rintro ⟨b,e⟩ hb
  refine ⟨fun _=>by rw [ofI_of o1]; exact o2,?_⟩
  rintro ⟨c',f⟩ hc'
  dsimp only at hb hc' ⊢
  obtain ⟨q1,q2,q3,q4⟩:=more_max (q:=moreP p k.toNat a r) hz o1 rfl rfl rfl (more_room ha r0 (by rw [hi]; exact hc) (by omega)) hb hc'
  refine ⟨q1,q2,⟨fun _=>⟨fun _=>trivial,fun hg=>?_⟩,fun h=>absurd q3 h⟩,fun h=>by cases h⟩
  obtain ⟨v1,v2,v3,v4⟩:=q4 hg
  rw [w64 (x:=z8w p b + r) (by omega) (by omega)]
  exact ⟨fun _=>v2,fun h=>absurd v1 h⟩
 ·refine ⟨fun _=>by rw [eI]; exact hsm,?_⟩
  rintro ⟨b,e⟩ hb
  refine ⟨fun _=>by rw [eI]; exact hsm,?_⟩
  rintro ⟨c',f⟩ hc'
  dsimp only at hb hc' ⊢
  obtain ⟨q1,q2,q3,q4⟩:=more_max (r:=0) hz hz rfl rfl rfl (fun S=>⟨0,by omega,by omega,by cases z2e p.inst S <;> simp⟩) hb hc'
  refine ⟨q1,q2,⟨fun _=>⟨fun _=>trivial,fun hg=>?_⟩,fun h=>absurd q3 h⟩,fun h=>by cases h⟩
  obtain ⟨v1,v2,v3,v4⟩:=q4 hg
  rw [w64 (x:=z8w p b + r) (by omega) (by omega)]
  exact ⟨fun _=>by omega,fun h=>absurd v1 h⟩
theorem MaxiMore_ok:SpecOk Tryz.prog MaxiMore_n true (z02 true zid) :=
 z0a z0i (show z19 Tryz.prog zef from z00 known21_ok (z00 Prob08_ok (z00 Of21_ok (z00 Solve_ok (z00 Value21_ok (z05)))))) (by kernel_rfl) mixedOrders Tryz.func6 rfl rfl (by kernel_rfl) (n:=4) (by decide +kernel) (I:=MaxiMore_IA) (fun _ _=>z07) (A:=MaxiMore_A)
  (fun args h r hr=>by
   unfold zid at hr
   split at hr
   ·rename_i h r ty0 c ty1 d; cases hr; refine ⟨rfl,fun hp=>?_⟩; have hE:=MaxiMore_E c d h r ty0 ty1 hp; exact hE
   ·cases hr)
end Go.Proofs.YtapeenpimcffpaaGreat
end
section
namespace Go.Proofs.YtapeenpimcffpaaGreat
open Go Go.RowKit Go.ChangeShapes Go.WideShapes Go.ChangeAt Go.Deep Go.Ql Go.Vc
theorem zfp (H:Type) (enc:TypeId × Value->H) (W:World) (base:Nat) (args:Array Value) (ds gs:List (DataW H)) (before:List MemPlace)
  (hval:∀ (j:Nat) t v,Tryz.f6.params[j]? = some t->args[j]? = some v->Value.okWide Tryz.prog W .any base t v)
  (hW:DataW.Whole enc Tryz.prog Tryz.f6.params.toList Rows.maxiMoreSpec.vars false W args.toList ds gs before)
  (hz:(DataW.weightsEach Tryz.prog (Tryz.f6.params.toList ++ Rows.maxiMoreSpec.plain.varTypes Tryz.prog) (ds ++ gs)).all (· <= reachBytes) = true) :
  Calls Tryz.prog 6 args W fun e W'=>∃ v,e = .returned v/\Rows.maxiMoreSpec.post enc Tryz.prog Tryz.f6 false true false false W args v W':=by
 have hW':=hW
 obtain ⟨p,q,hA0,hV,rfl,hfz,hnd⟩:=hW
 have hA:DataW.TrodAll enc Tryz.prog W 0 (fun _=>true) true Tryz.f6.params.toList args.toList ds p:=hA0
 rw [Tryz.params6] at hA hval hz
 obtain ⟨v0,vs0,d0,ds0,p0,q0,hargs,rfl,rfl,h0,r0⟩:=trodAll_cons hA
 obtain ⟨v1,vs1,d1,ds1,p1,q1,rfl,rfl,rfl,h1,r1⟩:=trodAll_cons r0
 obtain ⟨v2,vs2,d2,ds2,p2,q2,rfl,rfl,rfl,h2,r2⟩:=trodAll_cons r1
 obtain ⟨v3,vs3,d3,ds3,p3,q3,rfl,rfl,rfl,h3,r3⟩:=trodAll_cons r2
 obtain ⟨rfl,rfl,rfl⟩:=trodAll_nil r3
 obtain rfl:args = #[v0,v1,v2,v3]:=by cases args; simp_all
 obtain ⟨z0,hz⟩:=z6x hz
 obtain ⟨z1,hz⟩:=z6x hz
 obtain ⟨z2,hz⟩:=z6x hz
 obtain ⟨z3,hz⟩:=z6x hz
 obtain ⟨A0,c0,x0,rfl,hR0,hm0,hw0⟩:=dec_ints Tryz.underlying32 Tryz.underlying5 (by kernel_rfl) (hval 0 32 v0 rfl rfl) h0
 have hb0:=wf_u8 hw0
 have hs0:=zn0 Tryz.underlying32 (of_decide_eq_true (by kernel_rfl)) h0 z0
 obtain ⟨A1,c1,x1,rfl,hR1,hm1,hw1⟩:=dec_ints Tryz.underlying32 Tryz.underlying5 (by kernel_rfl) (hval 1 32 v1 rfl rfl) h1
 have hb1:=wf_u8 hw1
 have hs1:=zn0 Tryz.underlying32 (of_decide_eq_true (by kernel_rfl)) h1 z1
 obtain ⟨x2,rfl,rfl,rfl,wn2⟩:=open_int Tryz.underlying5 (hval 2 5 v2 rfl rfl) h2
 have hb2:=wf1_u8 wn2
 obtain ⟨x3,rfl,rfl,rfl,wn3⟩:=open_int Tryz.underlying5 (hval 3 5 v3 rfl rfl) h3
 have hb3:=wf1_u8 wn3
 have hpre:(z76 x0 x1 x2 x3).pre:=⟨hb0,hb1,hm0,hm1,hb2.1,hb2.2,hb3.1,hb3.2⟩
 have hc:=law_calls (enter_gen Tryz.func6 rfl rfl) MaxiMore_ok (ρ:=fun k=>if k = 0 then .slice A0 x0.length c0 else if k = 1 then .slice A1 x1.length c1 else .int .i64 0) (W:=W) (args:=[.row 0,.row 1,.int .u8 x2,.int .u8 x3]) (hp:=[(0,.row false 0 (.ints .u8 x0)),(1,.row false 0 (.ints .u8 x1))]) (fun k=>by (repeat' split) <;> rfl) ⟨⟨rfl,ro_ints hR0⟩,⟨⟨rfl,ro_ints hR1⟩,trivial⟩⟩ ((z76 x0 x1 x2 x3).pre/\SV.bool true = .bool true) ⟨hpre,rfl⟩ (by kernel_rfl)
 simp only [z0p,SV.toV] at hc
 refine Calls.mono (show Calls Tryz.prog 6 #[_,_,_,_] W _ from hc) fun e W' hx=>?_
 obtain ⟨rfl,hb⟩:=hx
 exact ⟨_,rfl,law_post laid_out hW' rfl (by kernel_rfl) Tryz.underlying4 (by kernel_rfl) rfl hb⟩
theorem zl7 (os:Os) (started:os.Started) (H:Type) (enc:TypeId × Value->H) :
  ReturnsInHanded {} Tryz.checked os 6 .any (Rows.maxiMoreSpec.pre6 enc Tryz.prog Tryz.f6 Rows.maxiMoreRow.domain false) (Rows.maxiMoreSpec.post enc Tryz.prog Tryz.f6 false true false false):=by
 refine returnsInHanded_of_change_sized (C:=Tryz.checked) own_knob started (by kernel_rfl) Tryz.func6
  (ChangeSpec.witness6 (enc:=enc) (C:=Tryz.checked) false ⟨#[],#[.slice none 0 0,.slice none 0 0,.int .u8 0,.int .u8 0],[]⟩ 8 (by kernel_rfl) (by kernel_rfl) (by kernel_rfl) (by kernel_rfl)) ?_
 intro W base args ds gs before hval0 hW hcnd hz _
 exact zfp H enc W base args ds gs before hval0 hW hz
theorem maxiMore_holds:Rows.MaxiMoreSaid :=
 OpenClaim.holds_of_wide 6 Tryz.f6 rfl rfl rfl rfl rfl rfl rfl ⟨rfl,rfl,rfl,rfl,rfl⟩ rfl rfl rfl rfl rfl (by kernel_rfl) Tryz.func6 (by kernel_rfl)
  (of_decide_eq_true (by kernel_rfl)) (by unfold Func.isWrapper; first | (rw [if_pos (by decide +kernel)]; kernel_rfl) | (rw [if_neg (by decide +kernel)]; exact ⟨rfl,rfl⟩))
  (fun os started H enc _=>zl7 os started H enc)
end Go.Proofs.YtapeenpimcffpaaGreat
end
