/- SolveFits: the law is true for every input: the given statement, with no condition of its own. -/
import Derived.Test.YtggblkbecekbdaaGreatZG16
import Derived.Test.YtggblkbecekbdaaGreatZG14
import Derived.Test.YtggblkbecekbdaaGreatZG15
import Derived.Test.YtggblkbecekbdaaGreatZG12
import Derived.Test.YtggblkbecekbdaaGreatZG5
set_option linter.all false
set_option linter.unusedSimpArgs false
set_option linter.unusedVariables false
set_option maxRecDepth 1000000
section
namespace Go.Proofs.YtggblkbecekbdaaGreat
open Go Go.RowKit Go.Ql Go.Vc
def zhf (x:List Int):FRes:={ pre:=YB x/\x.length <= 140737488351232,res:=.bool (true),rows:=[],eff:=[] }
def zdk:FS:=fun args h=>match args,h with
 | [.row 0],[(0,.row false ty0 (.ints .i64 x))]=>some (zhf x)
 | _,_=>none
def zdj (x:List Int):List (Nat × Ann):=[(2,{ G:=(Nat),inv:=fun k=>⟨[(0,.row 0),(3,.int .i64 k)],[(0,.row false 0 (.ints .i64 x))],1⟩,rel:=fun k0 k=>k <= x.length,meas:=fun k=>x.length - k })]
def within20_A:List SV->z0d->List (Nat × Ann):=fun args h=>match args,h with
 | [.row 0],[(0,.row false ty0 (.ints .i64 x))]=>zdj x
 | _,_=>[]
def zhe:z0c:=[]
abbrev within20_n:Nat:=35
def within20_I (x:List Int):List (Nat × z09):=[]
def within20_IA:List SV->z0d->List (Nat × z09):=fun _ _=>[]
def z6d (p:List Int) (d:List Int) (e:List Int) (k:Int) (x:List Int):FRes:={ pre:=Bytes p/\Bytes d/\p.length <= maxLen/\d.length <= maxLen/\Bytes e/\e.length <= maxLen/\0 <= k/\k <= 255/\A64 x,res:=.bool (true),rows:=[],eff:=[] }
def zhl:FS:=fun args h=>match args,h with
 | [.row 0,.row 1,.row 2,.int .u8 k,.row 3],[(0,.row false ty0 (.ints .u8 p)),(1,.row false ty1 (.ints .u8 d)),(2,.row false ty2 (.ints .u8 e)),(3,.row false ty3 (.ints .i64 x))]=>some (z6d p d e k x)
 | _,_=>none
def zhk (p:List Int) (d:List Int) (e:List Int) (k:Int) (x:List Int):List (Nat × Ann):=[]
def SolveFits_A:List SV->z0d->List (Nat × Ann):=fun _ _=>[]
def zcg:z0c:=[(zlm,(true,z02 true zbc)),(Small_n,(true,z02 true Small_fs)),(Feasible_n,(true,z0u true zc9)),(Rounds_n,(true,z0u true zdo)),(Fits_n,(true,z02 true Fits_fs)),(Turns_n,(true,z02 true zid)),(Proves_n,(true,z02 true zjs)),(within20_n,(true,z02 true zdk))]
abbrev SolveFits_n:Nat:=6
def zjw (p:List Int) (d:List Int) (e:List Int) (k:Int) (x:List Int):List (Nat × z09):=[]
def SolveFits_IA:List SV->z0d->List (Nat × z09):=fun _ _=>[]
end Go.Proofs.YtggblkbecekbdaaGreat
end
section
namespace Go.Proofs.YtggblkbecekbdaaGreat
open Go Go.RowKit Go.Ql Go.Vc
def zdi (x : List Int) (ty0 : TypeId) : Prop :=
      ∃ (g0:Nat),
 (g0 <= x.length/\(True/\(0:Int) = (↑g0:Int)/\True)/\x = x/\True) /\
 ∀ (g:Nat),
 g <= x.length ->
 (decide ((↑g:Int) < (↑x.length:Int)) = true ->
 ((0:Int) <= (↑g:Int)/\(↑g:Int) < (↑x.length:Int)) /\
 (↑g:Int).toNat < x.length /\
 ∀ (x_1:Int),
 x[(↑g:Int).toNat]? = some x_1 ->
 (decide (x_1 > (1152921504606846976:Int)) = true->(false = true/\True)/\True) /\
 (decide (x_1 > (1152921504606846976:Int)) = false ->
 ((0:Int) <= (↑g:Int)/\(↑g:Int) < (↑x.length:Int)) /\
 (↑g:Int).toNat < x.length /\
 ∀ (x_2:Int),
 x[(↑g:Int).toNat]? = some x_2 ->
 (decide (x_2 < (-1152921504606846976:Int)) = true->(false = true/\True)/\True) /\
 (decide (x_2 < (-1152921504606846976:Int)) = false ->
 ∃ (g':Nat),
 g' <= x.length/\x.length - g' < x.length - g/\(True/\IntKind.i64.wrap ((↑g:Int) + (1:Int)) = (↑g':Int)/\True)/\x = x/\True))) /\
 (decide ((↑g:Int) < (↑x.length:Int)) = false->(true = true/\True)/\True)
theorem within20_q (x:List Int) (ty0:TypeId):zdi x ty0 = z2h TT zhe (within20_I x) (zdj x) Tryz.f35 [.row 0] [(0,.row false ty0 (.ints .i64 x))] (zhf x):=by kernel_rfl
theorem within20_E (x:List Int) (ty0:TypeId) (hp:YB x/\x.length <= 140737488351232):FVc TT zhe (within20_I x) (zdj x) Tryz.f35 [.row 0] [(0,.row false ty0 (.ints .i64 x))] (zhf x):=by
 refine FVc.of (zdi x ty0) (within20_q x ty0) ?_
 unfold zdi
 simp only [eq_self,exists_const,forall_const,decide_eq_true_eq,decide_eq_false_iff_not,and_true,true_and,bne_iff_ne,ne_eq,bne_eq_false_iff_eq,Int.toNat_natCast,Bool.not_eq_true',Bool.not_eq_false',beq_iff_eq,beq_eq_false_iff_ne,z08]
 obtain ⟨hY,hl⟩:=hp
 refine ⟨0,⟨Nat.zero_le _,rfl⟩,fun k hk=>⟨fun h1=>⟨⟨by omega,by omega⟩,by omega,fun y hy=>?_⟩,fun _=>trivial⟩⟩
 have hb:=hY y (List.mem_of_getElem? hy)
 refine ⟨fun h=>by omega,fun _=>⟨⟨by omega,by omega⟩,by omega,fun z hz=>?_⟩⟩
 rw [hy] at hz
 cases hz
 exact ⟨fun h=>by omega,fun _=>⟨k + 1,by omega,by omega,by rw [w64 (by omega) (by omega)]; omega⟩⟩
theorem within20_ok:SpecOk Tryz.prog within20_n true (z02 true zdk) :=
 z0a z0k (show z1d Tryz.prog zhe from z05) (by kernel_rfl) mixedOrders Tryz.func35 rfl rfl (by kernel_rfl) (n:=1) (by decide +kernel) (I:=within20_IA) (fun _ _=>z06) (A:=within20_A)
  (fun args h r hr=>by
   unfold zdk at hr
   split at hr
   ·rename_i ty0 x; cases hr; refine ⟨rfl,fun hp=>?_⟩; have hE:=within20_E x ty0 hp; exact hE
   ·cases hr)
abbrev z9m (g:List Int × List Bool × Int) (p:List Int) (d:List Int) (k:Int) (x:List Int):=(decide ((↑g.2.1.length:Int) > 0) = true->True/\((true = true->((z1e (z1x p d k) x != (0:Int)) = true->(((↑g.1.length:Int) == (0:Int)) = true->(A64a (z1x p d k).arcs/\((z1x p d k).arcs.length <= (140737488351232:Nat)/\(A64 (z1x p d k).sup/\((z1x p d k).sup.length <= (140737488351232:Nat)))))/\(((z2b (z1x p d k) g.2.1 == (0:Int)) = true/\True)/\True))/\(((↑g.1.length:Int) == (0:Int)) = false->(false = true/\True)/\True))/\((z1e (z1x p d k) x != (0:Int)) = false->(false = true/\True)/\True))/\(true = false->(false = true/\True)/\True)))
abbrev z9n (g:List Int × List Bool × Int) (p:List Int) (d:List Int) (k:Int):=(decide ((↑g.2.1.length:Int) > 0) = false->True/\((true = true->((z1x p d k).sup.length <= (10000:Nat)/\((z1x p d k).arcs.length <= (10000:Nat)/\(A64 g.1/\(A64 (z1x p d k).sup))))/\(((z1e (z1x p d k) g.1 == (0:Int)) = true->(YB g.1/\(g.1.length <= (140737488351232:Nat)))/\((true = true/\True)/\True))/\((z1e (z1x p d k) g.1 == (0:Int)) = false->(false = true/\True)/\True)))/\(true = false->(false = true/\True)/\True)))
def z9l (p : List Int) (d : List Int) (e : List Int) (k : Int) (x : List Int) (ty0 ty1 ty2 ty3 : TypeId) : Prop :=
   (Bytes p/\(Bytes d/\(p.length <= maxLen/\(d.length <= maxLen/\((0:Int) <= k/\(k <= (255:Int)))))))/\True/\∀ (g:List Int × List Bool × Int),FeasP (z1x p d k) g.1 g.2.1 g.2.2->True/\∀ (g_1:List Int × Bool),RoundsP (z1x p d k) g_1.1 g_1.2->((z1x p d k).sup.length <= (10000:Nat)/\((z1x p d k).arcs.length <= (10000:Nat)/\(A64 x/\(A64 (z1x p d k).sup))))/\((g.2.2 != (0:Int)) = true->(false = true/\True)/\True)/\((g.2.2 != (0:Int)) = false->(g_1.1.length <= (140737488351232:Nat)/\(zfd (z1x p d k).arcs))/\((!g_1.2 == (z1l (z1x p d k) g_1.1 == (0:Int))) = true->(false = true/\True)/\True)/\((!g_1.2 == (z1l (z1x p d k) g_1.1 == (0:Int))) = false->((!g_1.2) = true->(((↑g_1.1.length:Int) != (0:Int)) = true->(false = true/\True)/\True)/\(((↑g_1.1.length:Int) != (0:Int)) = false->(z9m g p d k x)/\(z9n g p d k)))/\((!g_1.2) = false->(z9m g p d k x)/\(z9n g p d k))))
theorem SolveFits_q (p:List Int) (d:List Int) (e:List Int) (k:Int) (x:List Int) (ty0 ty1 ty2 ty3:TypeId):z9l p d e k x ty0 ty1 ty2 ty3 = z2h TT zcg (zjw p d e k x) (zhk p d e k x) Tryz.f6 [.row 0,.row 1,.row 2,.int .u8 k,.row 3] [(0,.row false ty0 (.ints .u8 p)),(1,.row false ty1 (.ints .u8 d)),(2,.row false ty2 (.ints .u8 e)),(3,.row false ty3 (.ints .i64 x))] (z6d p d e k x):=by kernel_rfl
theorem SolveFits_E (p:List Int) (d:List Int) (e:List Int) (k:Int) (x:List Int) (ty0 ty1 ty2 ty3:TypeId) (hp:Bytes p/\Bytes d/\p.length <= maxLen/\d.length <= maxLen/\Bytes e/\e.length <= maxLen/\0 <= k/\k <= 255/\A64 x):FVc TT zcg (zjw p d e k x) (zhk p d e k x) Tryz.f6 [.row 0,.row 1,.row 2,.int .u8 k,.row 3] [(0,.row false ty0 (.ints .u8 p)),(1,.row false ty1 (.ints .u8 d)),(2,.row false ty2 (.ints .u8 e)),(3,.row false ty3 (.ints .i64 x))] (z6d p d e k x):=by
 refine FVc.of (z9l p d e k x ty0 ty1 ty2 ty3) (SolveFits_q p d e k x ty0 ty1 ty2 ty3) ?_
 unfold z9l
 delta z9n z9m
 obtain ⟨p1,p2,p3,p4,p5,p6,k0,k1,hx⟩:=hp
 obtain ⟨hF,hn,hm,n7,nn1,hw,hN⟩:=small_few p d k
 generalize z1x p d k = I at *
 have hr:=hF.right
 have hsA:A64 I.sup:=fun y hy=>by have:=hw y hy; unfold I64; omega
 have hAc:zfd I.arcs:=fun a ha=>by have:=(hN a ha).k0; have:=(hN a ha).k1; unfold I64; omega
 have hAa:A64a I.arcs:=fun a ha=>by have h:=hN a ha; have:=h.l0; have:=h.l1; have:=h.c0; rcases h.c1 with h1 | h1 <;> exact ⟨by unfold I64; omega,by unfold I64; omega⟩
 simp only [eq_self,exists_const,forall_const,decide_eq_true_eq,decide_eq_false_iff_not,and_true,true_and,bne_iff_ne,ne_eq,bne_eq_false_iff_eq,Int.toNat_natCast,Bool.not_eq_true',Bool.not_eq_false',beq_iff_eq,beq_eq_false_iff_ne,z08]
 refine ⟨⟨p1,p2,p3,p4,k0,k1⟩,?_⟩
 rintro ⟨y,m,f⟩ hf
 rintro ⟨l,i⟩ hR
 dsimp only at hf hR ⊢
 obtain ⟨rfl,hY,hc⟩:=hf.ok hr
 have hl:l.length <= 140737488351232:=by
  cases i with
  | false=>rw [(hR.no rfl).1]; decide
  | true=>have h1:=(turns_char.1 (hR.yes rfl)).2.2.1; omega
 have hyA:A64 y:=fun u hu=>by have:=hY u hu; unfold I64; omega
 have key:((m.length:Int) > 0->((¬z1e I x = 0->((y.length:Int) = 0->(A64a I.arcs/\I.arcs.length <= 140737488351232/\A64 I.sup/\I.sup.length <= 140737488351232)/\z2b I m = 0)/\(¬(y.length:Int) = 0->false = true))/\(z1e I x = 0->false = true))/\(true = false->false = true))/\(¬(m.length:Int) > 0->((I.sup.length <= 10000/\I.arcs.length <= 10000/\A64 y/\A64 I.sup)/\(z1e I y = 0->YB y/\y.length <= 140737488351232)/\(¬z1e I y = 0->false = true))/\(true = false->false = true)):=by
  refine ⟨fun h=>?_,fun h=>?_⟩
  ·rcases hc with ⟨rfl,-⟩ | ⟨rfl,h2,h3⟩
   ·simp at h
   ·refine ⟨⟨fun _=>⟨fun _=>⟨⟨hAa,by omega,hsA,by omega⟩,h2⟩,fun h=>absurd rfl h⟩,fun h=>absurd h (zcu (by omega) (by omega) hx (fun y hy=>by have:=hw y hy; omega) h2)⟩,fun h=>by cases h⟩
  ·rcases hc with ⟨rfl,h2⟩ | ⟨rfl,h2,h3⟩
   ·exact ⟨⟨⟨by omega,by omega,hyA,hsA⟩,fun h=>⟨hY,by have:=(fitsF_zero.1 h).2.1; omega⟩,fun h=>absurd h2 h⟩,fun h=>by cases h⟩
   ·omega
 refine ⟨⟨by omega,by omega,hx,hsA⟩,fun h=>absurd rfl h,fun _=>⟨⟨hl,hAc⟩,fun h=>?_,fun _=>⟨fun hi=>⟨fun h=>?_,fun _=>key⟩,fun _=>key⟩⟩⟩
 ·refine absurd ?_ h
  cases i with
  | true=>rw [hR.yes rfl]; rfl
  | false =>
   have:z1l I l ≠ 0:=fun h0=>by have:=(turns_char.1 h0).2.1; rw [(hR.no rfl).1] at this; exact absurd this (by decide)
   exact (beq_eq_false_iff_ne.2 this).symm
 ·rw [(hR.no hi).1] at h; exact absurd rfl h
theorem SolveFits_ok:SpecOk Tryz.prog SolveFits_n true (z02 true zhl) :=
 z0a z0k (show z1d Tryz.prog zcg from z00 known20_ok (z00 Small_ok (z00 Feasible_ok (z00 Rounds_ok (z00 Fits_ok (z00 Turns_ok (z00 Proves_ok (z00 within20_ok (z05))))))))) (by kernel_rfl) mixedOrders Tryz.func6 rfl rfl (by kernel_rfl) (n:=5) (by decide +kernel) (I:=SolveFits_IA) (fun _ _=>z06) (A:=SolveFits_A)
  (fun args h r hr=>by
   unfold zhl at hr
   split at hr
   ·rename_i k ty0 p ty1 d ty2 e ty3 x; cases hr; refine ⟨rfl,fun hp=>?_⟩; have hE:=SolveFits_E p d e k x ty0 ty1 ty2 ty3 hp; exact hE
   ·cases hr)
end Go.Proofs.YtggblkbecekbdaaGreat
end
section
namespace Go.Proofs.YtggblkbecekbdaaGreat
open Go Go.RowKit Go.ChangeShapes Go.WideShapes Go.ChangeAt Go.Deep Go.Ql Go.Vc
theorem zez (H:Type) (enc:TypeId × Value->H) (W:World) (base:Nat) (args:Array Value) (ds gs:List (DataW H)) (before:List MemPlace)
  (hval:∀ (j:Nat) t v,Tryz.f6.params[j]? = some t->args[j]? = some v->Value.okWide Tryz.prog W .any base t v)
  (hW:DataW.Whole enc Tryz.prog Tryz.f6.params.toList Rows.solveFitsSpec.vars false W args.toList ds gs before)
  (hz:(DataW.weightsEach Tryz.prog (Tryz.f6.params.toList ++ Rows.solveFitsSpec.plain.varTypes Tryz.prog) (ds ++ gs)).all (· <= reachBytes) = true) :
  Calls Tryz.prog 6 args W fun e W'=>∃ v,e = .returned v/\Rows.solveFitsSpec.post enc Tryz.prog Tryz.f6 false true false false W args v W':=by
 have hW':=hW
 obtain ⟨p,q,hA0,hV,rfl,hfz,hnd⟩:=hW
 have hA:DataW.TrodAll enc Tryz.prog W 0 (fun _=>true) true Tryz.f6.params.toList args.toList ds p:=hA0
 rw [Tryz.params6] at hA hval hz
 obtain ⟨v0,vs0,d0,ds0,p0,q0,hargs,rfl,rfl,h0,r0⟩:=trodAll_cons hA
 obtain ⟨v1,vs1,d1,ds1,p1,q1,rfl,rfl,rfl,h1,r1⟩:=trodAll_cons r0
 obtain ⟨v2,vs2,d2,ds2,p2,q2,rfl,rfl,rfl,h2,r2⟩:=trodAll_cons r1
 obtain ⟨v3,vs3,d3,ds3,p3,q3,rfl,rfl,rfl,h3,r3⟩:=trodAll_cons r2
 obtain ⟨v4,vs4,d4,ds4,p4,q4,rfl,rfl,rfl,h4,r4⟩:=trodAll_cons r3
 obtain ⟨rfl,rfl,rfl⟩:=trodAll_nil r4
 obtain rfl:args = #[v0,v1,v2,v3,v4]:=by cases args; simp_all
 obtain ⟨z0,hz⟩:=z32 hz
 obtain ⟨z1,hz⟩:=z32 hz
 obtain ⟨z2,hz⟩:=z32 hz
 obtain ⟨z3,hz⟩:=z32 hz
 obtain ⟨z4,hz⟩:=z32 hz
 obtain ⟨A0,c0,x0,rfl,hR0,hm0,hw0⟩:=z8m Tryz.underlying26 Tryz.underlying5 (by kernel_rfl) (hval 0 26 v0 rfl rfl) h0
 have hb0:=wf_u8 hw0
 have hs0:=z4c Tryz.underlying26 (of_decide_eq_true (by kernel_rfl)) h0 z0
 obtain ⟨A1,c1,x1,rfl,hR1,hm1,hw1⟩:=z8m Tryz.underlying26 Tryz.underlying5 (by kernel_rfl) (hval 1 26 v1 rfl rfl) h1
 have hb1:=wf_u8 hw1
 have hs1:=z4c Tryz.underlying26 (of_decide_eq_true (by kernel_rfl)) h1 z1
 obtain ⟨A2,c2,x2,rfl,hR2,hm2,hw2⟩:=z8m Tryz.underlying26 Tryz.underlying5 (by kernel_rfl) (hval 2 26 v2 rfl rfl) h2
 have hb2:=wf_u8 hw2
 have hs2:=z4c Tryz.underlying26 (of_decide_eq_true (by kernel_rfl)) h2 z2
 obtain ⟨x3,rfl,rfl,rfl,wn3⟩:=open_int Tryz.underlying5 (hval 3 5 v3 rfl rfl) h3
 have hb3:=wf1_u8 wn3
 obtain ⟨A4,c4,x4,rfl,hR4,hm4,hw4⟩:=z8m Tryz.underlying22 Tryz.underlying2 (by kernel_rfl) (hval 4 22 v4 rfl rfl) h4
 have hb4:=wf_i64 hw4
 have hs4:=z4c Tryz.underlying22 (of_decide_eq_true (by kernel_rfl)) h4 z4
 have hpre:(z6d x0 x1 x2 x3 x4).pre:=⟨hb0,hb1,hm0,hm1,hb2,hm2,hb3.1,hb3.2,hb4⟩
 have hc:=law_calls (enter_gen Tryz.func6 rfl rfl) SolveFits_ok (ρ:=fun k=>if k = 0 then .slice A0 x0.length c0 else if k = 1 then .slice A1 x1.length c1 else if k = 2 then .slice A2 x2.length c2 else if k = 3 then .slice A4 x4.length c4 else .int .i64 0) (W:=W) (args:=[.row 0,.row 1,.row 2,.int .u8 x3,.row 3]) (hp:=[(0,.row false 0 (.ints .u8 x0)),(1,.row false 0 (.ints .u8 x1)),(2,.row false 0 (.ints .u8 x2)),(3,.row false 0 (.ints .i64 x4))]) (fun k=>by (repeat' split) <;> rfl) ⟨⟨rfl,zd5 hR0⟩,⟨⟨rfl,zd5 hR1⟩,⟨⟨rfl,zd5 hR2⟩,⟨⟨rfl,zd5 hR4⟩,trivial⟩⟩⟩⟩ ((z6d x0 x1 x2 x3 x4).pre/\SV.bool true = .bool true) ⟨hpre,rfl⟩ (by kernel_rfl)
 simp only [z0r,SV.toV] at hc
 refine Calls.mono (show Calls Tryz.prog 6 #[_,_,_,_,_] W _ from hc) fun e W' hx=>?_
 obtain ⟨rfl,hb⟩:=hx
 exact ⟨_,rfl,law_post laid_out hW' rfl (by kernel_rfl) Tryz.underlying4 (by kernel_rfl) rfl hb⟩
theorem zi8 (os:Os) (started:os.Started) (H:Type) (enc:TypeId × Value->H) :
  ReturnsInHanded {} Tryz.checked os 6 .any (Rows.solveFitsSpec.pre6 enc Tryz.prog Tryz.f6 Rows.solveFitsRow.domain false) (Rows.solveFitsSpec.post enc Tryz.prog Tryz.f6 false true false false):=by
 refine returnsInHanded_of_change_sized (C:=Tryz.checked) own_knob started (by kernel_rfl) Tryz.func6
  (ChangeSpec.witness6 (enc:=enc) (C:=Tryz.checked) false ⟨#[],#[.slice none 0 0,.slice none 0 0,.slice none 0 0,.int .u8 0,.slice none 0 0],[]⟩ 8 (by kernel_rfl) (by kernel_rfl) (by kernel_rfl) (by kernel_rfl)) ?_
 intro W base args ds gs before hval0 hW hcnd hz _
 exact zez H enc W base args ds gs before hval0 hW hz
theorem solveFits_holds:Rows.SolveFitsSaid :=
 OpenClaim.holds_of_wide 6 Tryz.f6 rfl rfl rfl rfl rfl rfl rfl ⟨rfl,rfl,rfl,rfl,rfl⟩ rfl rfl rfl rfl rfl (by kernel_rfl) Tryz.func6 (by kernel_rfl)
  (of_decide_eq_true (by kernel_rfl)) (by unfold Func.isWrapper; first | (rw [if_pos (by decide +kernel)]; kernel_rfl) | (rw [if_neg (by decide +kernel)]; exact ⟨rfl,rfl⟩))
  (fun os started H enc _=>zi8 os started H enc)
end Go.Proofs.YtggblkbecekbdaaGreat
end
