/- SolveTells: the law is true for every input: the given statement, with no condition of its own. -/
import Derived.Test.YtggblkbecekbdaaGreatZG16
import Derived.Test.YtggblkbecekbdaaGreatZG6
import Derived.Test.YtggblkbecekbdaaGreatZG9
import Derived.Test.YtggblkbecekbdaaGreatZG5
set_option linter.all false
set_option linter.unusedSimpArgs false
set_option linter.unusedVariables false
set_option maxRecDepth 1000000
section
namespace Go.Proofs.YtggblkbecekbdaaGreat
open Go Go.RowKit Go.Ql Go.Vc
def z5k (I:Inst) (c:List Int) (d:List Int) (e:List Int) (k:Int):FRes:={ pre:=I.sup.length <= 1000000000000000000/\I.arcs.length <= 1000000000000000000/\Bytes c/\Bytes d/\c.length <= maxLen/\d.length <= maxLen/\Bytes e/\e.length <= maxLen/\0 <= k/\k <= 255,res:=.bool (true),rows:=[],eff:=[] }
def zd2:FS:=fun args h=>match args,h with
 | [.agg [.row 0,.row 1],.row 2,.row 3,.row 4,.int .u8 k],[(0,.row false ty0 (.ints .i64 I_s)),(1,.row false ty1 (.arcs I_a)),(2,.row false ty2 (.ints .u8 c)),(3,.row false ty3 (.ints .u8 d)),(4,.row false ty4 (.ints .u8 e))]=>some (z5k ⟨I_s,I_a⟩ c d e k)
 | _,_=>none
def zd1 (I:Inst) (c:List Int) (d:List Int) (e:List Int) (k:Int):List (Nat × Ann):=[]
def SolveTells_A:List SV->z0d->List (Nat × Ann):=fun _ _=>[]
def z96:z0c:=[(Size_n,(true,z03 true Size_fs)),(z8p,(true,z03 true z5o)),(known20_n,(true,z03 true zfl)),(tells_n,(true,z03 true tells_fs)),(Small_n,(true,z03 true Small_fs)),(Any19_n,(true,z0l true Any19_fs))]
abbrev SolveTells_n:Nat:=3
def zh0 (I:Inst) (c:List Int) (d:List Int) (e:List Int) (k:Int):List (Nat × z08):=[]
def SolveTells_IA:List SV->z0d->List (Nat × z08):=fun _ _=>[]
end Go.Proofs.YtggblkbecekbdaaGreat
end
section
namespace Go.Proofs.YtggblkbecekbdaaGreat
open Go Go.RowKit Go.Ql Go.Vc
def z84 (I : Inst) (c : List Int) (d : List Int) (e : List Int) (k : Int) (ty0 ty1 ty2 ty3 ty4 : TypeId) : Prop :=
      (I.sup.length <= (1000000000000000000:Nat)/\I.arcs.length <= (1000000000000000000:Nat)) /\
 (decide ((↑I.sup.length:Int)+(2:Int) * (↑I.arcs.length:Int) > (120:Int))=true ->
 True /\
 (true=true ->
 (Bytes c/\Bytes d/\c.length <= maxLen/\d.length <= maxLen/\(0:Int) <= k/\k <= (255:Int)) /\
 (z02 (z3q c d k)=(0:Int)->SmallI (z3q c d k)) /\
 (true=true ->
 (Bytes c/\Bytes d/\c.length <= maxLen/\d.length <= maxLen/\Bytes e/\e.length <= maxLen/\(0:Int) <= k/\k <= (255:Int)) /\
 ∀ (g:Inst),AnyP g->(z02 g=(0:Int)->SmallI g)/\(true=true/\True)/\True) /\
 (true=false->(false=true/\True)/\True)) /\
 (true=false->(false=true/\True)/\True)) /\
 (decide ((↑I.sup.length:Int)+(2:Int) * (↑I.arcs.length:Int) > (120:Int))=false ->
 True /\
 ((z02 I == (0:Int))=true ->
 True /\
 (true=true ->
 (Bytes c/\Bytes d/\c.length <= maxLen/\d.length <= maxLen/\(0:Int) <= k/\k <= (255:Int)) /\
 (z02 (z3q c d k)=(0:Int)->SmallI (z3q c d k)) /\
 (true=true ->
 (Bytes c/\Bytes d/\c.length <= maxLen/\d.length <= maxLen/\Bytes e/\e.length <= maxLen/\(0:Int) <= k/\k <= (255:Int)) /\
 ∀ (g:Inst),AnyP g->(z02 g=(0:Int)->SmallI g)/\(true=true/\True)/\True) /\
 (true=false->(false=true/\True)/\True)) /\
 (true=false->(false=true/\True)/\True)) /\
 ((z02 I == (0:Int))=false ->
 True /\
 (true=true ->
 (z02 I=(0:Int)->SmallI I) /\
 (true=true ->
 (Bytes c/\Bytes d/\c.length <= maxLen/\d.length <= maxLen/\(0:Int) <= k/\k <= (255:Int)) /\
 (z02 (z3q c d k)=(0:Int)->SmallI (z3q c d k)) /\
 (true=true ->
 (Bytes c/\Bytes d/\c.length <= maxLen/\d.length <= maxLen/\Bytes e/\e.length <= maxLen/\(0:Int) <= k/\k <= (255:Int)) /\
 ∀ (g:Inst),AnyP g->(z02 g=(0:Int)->SmallI g)/\(true=true/\True)/\True) /\
 (true=false->(false=true/\True)/\True)) /\
 (true=false->(false=true/\True)/\True)) /\
 (true=false->(false=true/\True)/\True)))
theorem SolveTells_q (I:Inst) (c:List Int) (d:List Int) (e:List Int) (k:Int) (ty0 ty1 ty2 ty3 ty4:TypeId):z84 I c d e k ty0 ty1 ty2 ty3 ty4=z2r TT z96 (zh0 I c d e k) (zd1 I c d e k) Tryz.f3 [.agg [.row 0,.row 1],.row 2,.row 3,.row 4,.int .u8 k] [(0,.row false ty0 (.ints .i64 I.sup)),(1,.row false ty1 (.arcs I.arcs)),(2,.row false ty2 (.ints .u8 c)),(3,.row false ty3 (.ints .u8 d)),(4,.row false ty4 (.ints .u8 e))] (z5k I c d e k):=by kernel_rfl
theorem SolveTells_E (I:Inst) (c:List Int) (d:List Int) (e:List Int) (k:Int) (ty0 ty1 ty2 ty3 ty4:TypeId) (hp:I.sup.length <= 1000000000000000000/\I.arcs.length <= 1000000000000000000/\Bytes c/\Bytes d/\c.length <= maxLen/\d.length <= maxLen/\Bytes e/\e.length <= maxLen/\0 <= k/\k <= 255):FVc TT z96 (zh0 I c d e k) (zd1 I c d e k) Tryz.f3 [.agg [.row 0,.row 1],.row 2,.row 3,.row 4,.int .u8 k] [(0,.row false ty0 (.ints .i64 I.sup)),(1,.row false ty1 (.arcs I.arcs)),(2,.row false ty2 (.ints .u8 c)),(3,.row false ty3 (.ints .u8 d)),(4,.row false ty4 (.ints .u8 e))] (z5k I c d e k):=by
 refine FVc.of (z84 I c d e k ty0 ty1 ty2 ty3 ty4) (SolveTells_q I c d e k ty0 ty1 ty2 ty3 ty4) ?_
 unfold z84
 obtain ⟨i1,i2,b1,b2,b3,b4,b5,b6,k0,k1⟩:=hp
 obtain ⟨hF,-⟩:=small_few c d k
 have t1:Bytes c/\Bytes d/\c.length <= maxLen/\d.length <= maxLen/\0 <= k/\k <= 255:=⟨b1,b2,b3,b4,k0,k1⟩
 have t2:Bytes c/\Bytes d/\c.length <= maxLen/\d.length <= maxLen/\Bytes e/\e.length <= maxLen/\0 <= k/\k <= 255:=⟨b1,b2,b3,b4,b5,b6,k0,k1⟩
 have t3:z02 (z3q c d k)=0->SmallI (z3q c d k):=fun _=>hF.small
 have t4:∀ g:Inst,AnyP g->(z02 g=0->SmallI g):=fun g h=>h.small
 have t5:true=false->false=true:=fun h=>h.symm
 simp only [eq_self,exists_const,forall_const,ne_eq,Int.toNat_natCast,zSS,z07]
 exact ⟨⟨i1,i2⟩,fun _=>⟨⟨t1,t3,⟨t2,t4⟩,t5⟩,t5⟩,fun _=>⟨fun _=>⟨⟨t1,t3,⟨t2,t4⟩,t5⟩,t5⟩,fun hn=>⟨⟨fun h=>absurd h hn,⟨t1,t3,⟨t2,t4⟩,t5⟩,t5⟩,t5⟩⟩⟩
theorem SolveTells_ok:SpecOk Tryz.prog SolveTells_n true (z03 true zd2) :=
 z0b z0r (show z1c Tryz.prog z96 from z00 Size_ok (z00 z7q (z00 known20_ok (z00 tells_ok (z00 Small_ok (z00 Any19_ok (z05))))))) (by kernel_rfl) mixedOrders Tryz.func3 rfl rfl (by kernel_rfl) (n:=5) (by decide +kernel) (I:=SolveTells_IA) (fun _ _=>z06) (A:=SolveTells_A)
  (fun args h r hr=>by
   unfold zd2 at hr
   split at hr
   ·rename_i k ty0 I_s ty1 I_a ty2 c ty3 d ty4 e; cases hr; refine ⟨rfl,fun hp=>?_⟩; have hE:=SolveTells_E ⟨I_s,I_a⟩ c d e k ty0 ty1 ty2 ty3 ty4 hp; exact hE
   ·cases hr)
open Go.ChangeShapes Go.WideShapes Go.ChangeAt Go.Deep
theorem zco (H:Type) (enc:TypeId × Value->H) (W:World) (base:Nat) (args:Array Value) (ds gs:List (DataW H)) (before:List MemPlace)
  (hval:∀ (j:Nat) t v,Tryz.f3.params[j]? = some t->args[j]? = some v->Value.okWide Tryz.prog W .any base t v)
  (hW:DataW.Whole enc Tryz.prog Tryz.f3.params.toList Rows.solveTellsSpec.vars false W args.toList ds gs before)
  (hz:(DataW.weightsEach Tryz.prog (Tryz.f3.params.toList ++ Rows.solveTellsSpec.plain.varTypes Tryz.prog) (ds ++ gs)).all (· <= reachBytes)=true) :
  Calls Tryz.prog 3 args W fun e W'=>∃ v,e = .returned v/\Rows.solveTellsSpec.post enc Tryz.prog Tryz.f3 false true false false W args v W':=by
 have hW':=hW
 obtain ⟨p,q,hA0,hV,rfl,hfz,hnd⟩:=hW
 have hA:DataW.TrodAll enc Tryz.prog W 0 (fun _=>true) true Tryz.f3.params.toList args.toList ds p:=hA0
 rw [Tryz.params3] at hA hval hz
 obtain ⟨v0,vs0,d0,ds0,p0,q0,hargs,rfl,rfl,h0,r0⟩:=trodAll_cons hA
 obtain ⟨v1,vs1,d1,ds1,p1,q1,rfl,rfl,rfl,h1,r1⟩:=trodAll_cons r0
 obtain ⟨v2,vs2,d2,ds2,p2,q2,rfl,rfl,rfl,h2,r2⟩:=trodAll_cons r1
 obtain ⟨v3,vs3,d3,ds3,p3,q3,rfl,rfl,rfl,h3,r3⟩:=trodAll_cons r2
 obtain ⟨v4,vs4,d4,ds4,p4,q4,rfl,rfl,rfl,h4,r4⟩:=trodAll_cons r3
 obtain ⟨rfl,rfl,rfl⟩:=trodAll_nil r4
 obtain rfl:args = #[v0,v1,v2,v3,v4]:=by cases args; simp_all
 obtain ⟨z0,hz⟩:=z5t hz
 obtain ⟨z1,hz⟩:=z5t hz
 obtain ⟨z2,hz⟩:=z5t hz
 obtain ⟨z3,hz⟩:=z5t hz
 obtain ⟨z4,hz⟩:=z5t hz
 obtain ⟨A0,c0,A0',c0',I0,rfl,hR0,hR0',hb0,hs0⟩:=dec_inst (hval 0 25 v0 rfl rfl) h0
 replace hs0:=hs0 z0
 obtain ⟨A1,c1,x1,rfl,hR1,hm1,hw1⟩:=dec_ints Tryz.underlying26 Tryz.underlying5 (by kernel_rfl) (hval 1 26 v1 rfl rfl) h1
 have hb1:=wf_u8 hw1
 have hs1:=zcn Tryz.underlying26 (of_decide_eq_true (by kernel_rfl)) h1 z1
 obtain ⟨A2,c2,x2,rfl,hR2,hm2,hw2⟩:=dec_ints Tryz.underlying26 Tryz.underlying5 (by kernel_rfl) (hval 2 26 v2 rfl rfl) h2
 have hb2:=wf_u8 hw2
 have hs2:=zcn Tryz.underlying26 (of_decide_eq_true (by kernel_rfl)) h2 z2
 obtain ⟨A3,c3,x3,rfl,hR3,hm3,hw3⟩:=dec_ints Tryz.underlying26 Tryz.underlying5 (by kernel_rfl) (hval 3 26 v3 rfl rfl) h3
 have hb3:=wf_u8 hw3
 have hs3:=zcn Tryz.underlying26 (of_decide_eq_true (by kernel_rfl)) h3 z3
 obtain ⟨x4,rfl,rfl,rfl,wn4⟩:=open_int Tryz.underlying5 (hval 4 5 v4 rfl rfl) h4
 have hb4:=wf1_u8 wn4
 have hpre:(z5k I0 x1 x2 x3 x4).pre:=⟨by omega,by omega,hb1,hb2,hm1,hm2,hb3,hm3,hb4.1,hb4.2⟩
 have hc:=law_calls (enter_gen Tryz.func3 rfl rfl) SolveTells_ok (ρ:=fun k=>if k=0 then .slice A0 I0.sup.length c0 else if k=1 then .slice A0' I0.arcs.length c0' else if k=2 then .slice A1 x1.length c1 else if k=3 then .slice A2 x2.length c2 else if k=4 then .slice A3 x3.length c3 else .int .i64 0) (W:=W) (args:=[.agg [.row 0,.row 1],.row 2,.row 3,.row 4,.int .u8 x4]) (hp:=[(0,.row false 0 (.ints .i64 I0.sup)),(1,.row false 0 (.arcs I0.arcs)),(2,.row false 0 (.ints .u8 x1)),(3,.row false 0 (.ints .u8 x2)),(4,.row false 0 (.ints .u8 x3))]) (fun k=>by (repeat' split) <;> rfl) ⟨⟨rfl,ro_ints hR0⟩,⟨⟨rfl,ro_arcs hR0'⟩,⟨⟨rfl,ro_ints hR1⟩,⟨⟨rfl,ro_ints hR2⟩,⟨⟨rfl,ro_ints hR3⟩,trivial⟩⟩⟩⟩⟩ ((z5k I0 x1 x2 x3 x4).pre/\SV.bool true = .bool true) ⟨hpre,rfl⟩ (by kernel_rfl)
 simp only [z0s,SV.toV] at hc
 refine Calls.mono (show Calls Tryz.prog 3 #[_,_,_,_,_] W _ from hc) fun e W' hx=>?_
 obtain ⟨rfl,hb⟩:=hx
 exact ⟨_,rfl,law_post laid_out hW' rfl (by kernel_rfl) Tryz.underlying4 (by kernel_rfl) rfl hb⟩
theorem zgm (os:Os) (started:os.Started) (H:Type) (enc:TypeId × Value->H) :
  ReturnsInHanded {} Tryz.checked os 3 .any (Rows.solveTellsSpec.pre6 enc Tryz.prog Tryz.f3 Rows.solveTellsRow.domain false) (Rows.solveTellsSpec.post enc Tryz.prog Tryz.f3 false true false false):=by
 refine returnsInHanded_of_change_sized (C:=Tryz.checked) own_knob started (by kernel_rfl) Tryz.func3
  (ChangeSpec.witness6 (enc:=enc) (C:=Tryz.checked) false ⟨#[],#[.agg #[.slice none 0 0,.slice none 0 0],.slice none 0 0,.slice none 0 0,.slice none 0 0,.int .u8 0],[]⟩ 8 (by kernel_rfl) (by kernel_rfl) (by kernel_rfl) (by kernel_rfl)) ?_
 intro W base args ds gs before hval0 hW hcnd hz _
 exact zco H enc W base args ds gs before hval0 hW hz
theorem solveTells_holds:Rows.SolveTellsSaid :=
 OpenClaim.holds_of_wide 3 Tryz.f3 rfl rfl rfl rfl rfl rfl rfl ⟨rfl,rfl,rfl,rfl,rfl⟩ rfl rfl rfl rfl rfl (by kernel_rfl) Tryz.func3 (by kernel_rfl)
  (of_decide_eq_true (by kernel_rfl)) (by unfold Func.isWrapper; first | (rw [if_pos (by decide +kernel)]; kernel_rfl) | (rw [if_neg (by decide +kernel)]; exact ⟨rfl,rfl⟩))
  (fun os started H enc _=>zgm os started H enc)
end Go.Proofs.YtggblkbecekbdaaGreat
end
