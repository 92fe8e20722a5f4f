/- Part of the proof: FA21, DY13, FY13, DB21, FB21, Solve20, CertMade, Solve21, Maxi2, Solve23, DC21, FC21, DN20. -/
import Derived.Test.YtapeenpimcffpaaGreatZG9
import Derived.Test.YtapeenpimcffpaaGreatZG6
import Derived.Test.YtapeenpimcffpaaGreatZG11
import Derived.Test.YtapeenpimcffpaaGreatZG5
import Derived.Test.YtapeenpimcffpaaGreatZG8
import Derived.Test.YtapeenpimcffpaaGreatZG7
import Derived.Test.YtapeenpimcffpaaGreatZG10
set_option linter.unusedVariables false
set_option linter.all false
set_option linter.unusedSimpArgs false
set_option maxRecDepth 1000000
section
namespace Go.Proofs.YtapeenpimcffpaaGreat
open Go Go.RowKit Go.Ql Go.Vc
theorem node21_ok:SpecOk Tryz.prog node21_n false zls :=
 z4j z0h (show z14 Tryz.prog node21_g from z04) (by kernel_rfl) mixedOrders Tryz.func71 rfl rfl (by kernel_rfl) _
def zk9 (I : Inst) (ty0 ty1 : TypeId) : Prop :=
      ∃ (g0:Nat),
 ((g0 <= I.sup.length/\((List.take g0 I.sup).all fun (y:Int)=>decide (y=(0:Int)))=true) /\
 ((0:Nat)=(0:Nat)/\True/\(↑I.sup.length:Int)=(↑I.sup.length:Int)/\(0:Int)=(↑g0:Int)/\True) /\
 (True/\True/\True)/\I.sup=I.sup/\I.arcs=I.arcs/\True) /\
 ∀ (g:Nat),
 g <= I.sup.length/\((List.take g I.sup).all fun (y:Int)=>decide (y=(0:Int)))=true ->
 (decide ((↑g:Int)<(↑I.sup.length:Int))=true ->
 ((0:Int) <= (↑g:Int)/\(↑g:Int)<(↑I.sup.length:Int)) /\
 (↑g:Int).toNat<I.sup.length /\
 ∀ (x:Int),
 I.sup[(↑g:Int).toNat]? = some x ->
 ((x != (0:Int))=true->(false=z78 I/\True)/\True) /\
 ((x != (0:Int))=false ->
 ∃ (g':Nat),
 (g' <= I.sup.length/\((List.take g' I.sup).all fun (y:Int)=>decide (y=(0:Int)))=true) /\
 I.sup.length - g'<I.sup.length - g /\
 ((0:Nat)=(0:Nat)/\True/\(↑I.sup.length:Int)=(↑I.sup.length:Int)/\IntKind.i64.wrap ((↑g:Int)+(1:Int))=(↑g':Int)/\True) /\
 (True/\True/\True)/\I.sup=I.sup/\I.arcs=I.arcs/\True)) /\
 (decide ((↑g:Int)<(↑I.sup.length:Int))=false ->
 ∃ (g0:Nat),
 ((g0 <= I.arcs.length/\(List.take g0 I.arcs).all zns=true) /\
 (True/\(↑I.arcs.length:Int)=(↑I.arcs.length:Int)/\(0:Int)=(↑g0:Int)/\True)/\I.arcs=I.arcs/\True) /\
 ∀ (g:Nat),
 g <= I.arcs.length/\(List.take g I.arcs).all zns=true ->
 (decide ((↑g:Int)<(↑I.arcs.length:Int))=true ->
 ((0:Int) <= (↑g:Int)/\(↑g:Int)<(↑I.arcs.length:Int)) /\
 (↑g:Int).toNat<I.arcs.length /\
 ∀ (x:Arc),
 I.arcs[(↑g:Int).toNat]? = some x ->
 ((x.low != (0:Int))=true->(false=z78 I/\True)/\True) /\
 ((x.low != (0:Int))=false ->
 ((x.cost != (0:Int))=true->(false=z78 I/\True)/\True) /\
 ((x.cost != (0:Int))=false ->
 ∃ (g':Nat),
 (g' <= I.arcs.length/\(List.take g' I.arcs).all zns=true) /\
 I.arcs.length - g'<I.arcs.length - g /\
 (True/\(↑I.arcs.length:Int)=(↑I.arcs.length:Int)/\IntKind.i64.wrap ((↑g:Int)+(1:Int))=(↑g':Int)/\True) /\
 I.arcs=I.arcs/\True))) /\
 (decide ((↑g:Int)<(↑I.arcs.length:Int))=false->(true=z78 I/\True)/\True))
theorem bare21_q (I:Inst) (ty0 ty1:TypeId):zk9 I ty0 ty1=z2d TT bare21_g (bare21_I I) (zka I) Tryz.f69 [.agg [.row 0,.row 1]] [(0,.row false ty0 (.ints .i64 I.sup)),(1,.row false ty1 (.arcs I.arcs))] (bare21_r I):=by kernel_rfl
theorem bare21_E (I:Inst) (ty0 ty1:TypeId) (hp:I.sup.length <= 1000000/\I.arcs.length <= 1000000):FVc TT bare21_g (bare21_I I) (zka I) Tryz.f69 [.agg [.row 0,.row 1]] [(0,.row false ty0 (.ints .i64 I.sup)),(1,.row false ty1 (.arcs I.arcs))] (bare21_r I):=by
 refine FVc.of (zk9 I ty0 ty1) (bare21_q I ty0 ty1) ?_
 unfold zk9
 obtain ⟨p1,p2⟩:=hp
 have hw:∀ j:Nat,j <= 1000000->IntKind.i64.wrap ((j:Int)+1)=((j+1:Nat):Int):=fun j hj=>by rw [w64 (by omega) (by omega)]; omega
 simp only [eq_self,exists_const,forall_const,ne_eq,Int.toNat_natCast,zSS,z06]
 refine ⟨0,⟨⟨Nat.zero_le _,rfl⟩,rfl⟩,fun g hg=>⟨fun h1=>⟨⟨by omega,by omega⟩,by omega,fun x hx=>⟨fun h2=>(bare_sup hx h2).symm,fun h2=>⟨g+1,⟨by omega,?_⟩,by omega,hw g (by omega)⟩⟩⟩,fun h1=>⟨0,⟨⟨Nat.zero_le _,rfl⟩,rfl⟩,fun k hk=>⟨fun h3=>⟨⟨by omega,by omega⟩,by omega,fun a ha=>⟨fun h4=>(bare_arc ha fun h=>h4 h.1).symm,fun h4=>⟨fun h5=>(bare_arc ha fun h=>h5 h.2).symm,fun h5=>⟨k+1,⟨by omega,?_⟩,by omega,hw k (by omega)⟩⟩⟩⟩,fun h3=>(bare_end hg.2 (by omega) hk.2 (by omega)).symm⟩⟩⟩⟩
 ·rw [allT hx,hg.2,decide_eq_true h2]; rfl
 ·rw [allT ha,hk.2,zeroA_of h4 h5]; rfl
theorem bare21_ok:SpecOk Tryz.prog bare21_n true (z02 true zkb) :=
 z0a z0h (show z14 Tryz.prog bare21_g from z04) (by kernel_rfl) mixedOrders Tryz.func69 rfl rfl (by kernel_rfl) (n:=1) (by decide +kernel) (I:=bare21_IA) (fun _ _=>z07) (A:=bare21_A)
  (fun args h r hr=>by
   unfold zkb at hr
   split at hr
   ·rename_i ty0 I_s ty1 I_a; cases hr; refine ⟨rfl,fun hp=>?_⟩; have hE:=bare21_E ⟨I_s,I_a⟩ ty0 ty1 hp; exact hE
   ·cases hr)
def fit1_E0 (p : ProbD) (ty1 ty2 : TypeId) : Prop :=
   (p.most=p.most/\True)/\True
theorem fit1_q (p:ProbD) (ty1 ty2:TypeId):fit1_E0 p ty1 ty2=z2d TT fit1_g (fit1_I p) (fit1_an p) Tryz.f66 [.ptr 0 0 0 0] [(0,.box false 27 [.bool p.most,.row 1,.row 2,.int .i64 p.s,.int .i64 p.t]),(1,.row false ty1 (.ints .i64 p.inst.sup)),(2,.row false ty2 (.arcs p.inst.arcs))] (fit1_r p):=by kernel_rfl
theorem fit1_E (p:ProbD) (ty1 ty2:TypeId) (hp:True):FVc TT fit1_g (fit1_I p) (fit1_an p) Tryz.f66 [.ptr 0 0 0 0] [(0,.box false 27 [.bool p.most,.row 1,.row 2,.int .i64 p.s,.int .i64 p.t]),(1,.row false ty1 (.ints .i64 p.inst.sup)),(2,.row false ty2 (.arcs p.inst.arcs))] (fit1_r p):=by
 refine FVc.of (fit1_E0 p ty1 ty2) (fit1_q p ty1 ty2) ?_
 unfold fit1_E0
 simp only [eq_self,exists_const,forall_const,ne_eq,Int.toNat_natCast,zSS,z06]
theorem fit1_ok:SpecOk Tryz.prog fit1_n true (z02 true fit1_fs) :=
 z0a z0h (show z14 Tryz.prog fit1_g from z04) (by kernel_rfl) mixedOrders Tryz.func66 rfl rfl (by kernel_rfl) (n:=1) (by decide +kernel) (I:=fit1_IA) (fun _ _=>z07) (A:=fit1_A)
  (fun args h r hr=>by
   unfold fit1_fs at hr
   split at hr
   ·rename_i p_m p_S p_T ty1 p_s ty2 p_a; cases hr; refine ⟨rfl,fun hp=>?_⟩; have hE:=fit1_E ⟨p_m,⟨p_s,p_a⟩,p_S,p_T⟩ ty1 ty2 hp; exact hE
   ·cases hr)
def fit2_E0 (p : ProbD) (ty1 ty2 : TypeId) : Prop :=
   True/\((z05 p.inst == (0:Int))=decide (z05 p.inst=(0:Int))/\True)/\True
theorem fit2_q (p:ProbD) (ty1 ty2:TypeId):fit2_E0 p ty1 ty2=z2d TT fit2_g (fit2_I p) (fit2_an p) Tryz.f67 [.ptr 0 0 0 0] [(0,.box false 27 [.bool p.most,.row 1,.row 2,.int .i64 p.s,.int .i64 p.t]),(1,.row false ty1 (.ints .i64 p.inst.sup)),(2,.row false ty2 (.arcs p.inst.arcs))] (fit2_r p):=by kernel_rfl
theorem fit2_E (p:ProbD) (ty1 ty2:TypeId) (hp:True):FVc TT fit2_g (fit2_I p) (fit2_an p) Tryz.f67 [.ptr 0 0 0 0] [(0,.box false 27 [.bool p.most,.row 1,.row 2,.int .i64 p.s,.int .i64 p.t]),(1,.row false ty1 (.ints .i64 p.inst.sup)),(2,.row false ty2 (.arcs p.inst.arcs))] (fit2_r p):=by
 refine FVc.of (fit2_E0 p ty1 ty2) (fit2_q p ty1 ty2) ?_
 unfold fit2_E0
 simp only [eq_self,exists_const,forall_const,ne_eq,Int.toNat_natCast,zSS,z06]
 rfl
theorem fit2_ok:SpecOk Tryz.prog fit2_n true (z02 true fit2_fs) :=
 z0a z0h (show z14 Tryz.prog fit2_g from z00 za9 (z04)) (by kernel_rfl) mixedOrders Tryz.func67 rfl rfl (by kernel_rfl) (n:=1) (by decide +kernel) (I:=fit2_IA) (fun _ _=>z07) (A:=fit2_A)
  (fun args h r hr=>by
   unfold fit2_fs at hr
   split at hr
   ·rename_i p_m p_S p_T ty1 p_s ty2 p_a; cases hr; refine ⟨rfl,fun hp=>?_⟩; have hE:=fit2_E ⟨p_m,⟨p_s,p_a⟩,p_S,p_T⟩ ty1 ty2 hp; exact hE
   ·cases hr)
def fit3_E0 (p : ProbD) (ty1 ty2 : TypeId) : Prop :=
   (p.inst.sup.length <= (1000000:Nat)/\p.inst.arcs.length <= (1000000:Nat))/\(z78 p.inst=z78 p.inst/\True)/\True
theorem fit3_q (p:ProbD) (ty1 ty2:TypeId):fit3_E0 p ty1 ty2=z2d TT fit3_g (fit3_I p) (fit3_an p) Tryz.f68 [.ptr 0 0 0 0] [(0,.box false 27 [.bool p.most,.row 1,.row 2,.int .i64 p.s,.int .i64 p.t]),(1,.row false ty1 (.ints .i64 p.inst.sup)),(2,.row false ty2 (.arcs p.inst.arcs))] (fit3_r p):=by kernel_rfl
theorem fit3_E (p:ProbD) (ty1 ty2:TypeId) (hp:p.inst.sup.length <= 1000000/\p.inst.arcs.length <= 1000000):FVc TT fit3_g (fit3_I p) (fit3_an p) Tryz.f68 [.ptr 0 0 0 0] [(0,.box false 27 [.bool p.most,.row 1,.row 2,.int .i64 p.s,.int .i64 p.t]),(1,.row false ty1 (.ints .i64 p.inst.sup)),(2,.row false ty2 (.arcs p.inst.arcs))] (fit3_r p):=by
 refine FVc.of (fit3_E0 p ty1 ty2) (fit3_q p ty1 ty2) ?_
 unfold fit3_E0
 simp only [eq_self,exists_const,forall_const,ne_eq,Int.toNat_natCast,zSS,z06]
 exact hp
theorem fit3_ok:SpecOk Tryz.prog fit3_n true (z02 true fit3_fs) :=
 z0a z0h (show z14 Tryz.prog fit3_g from z00 bare21_ok (z04)) (by kernel_rfl) mixedOrders Tryz.func68 rfl rfl (by kernel_rfl) (n:=1) (by decide +kernel) (I:=fit3_IA) (fun _ _=>z07) (A:=fit3_A)
  (fun args h r hr=>by
   unfold fit3_fs at hr
   split at hr
   ·rename_i p_m p_S p_T ty1 p_s ty2 p_a; cases hr; refine ⟨rfl,fun hp=>?_⟩; have hE:=fit3_E ⟨p_m,⟨p_s,p_a⟩,p_S,p_T⟩ ty1 ty2 hp; exact hE
   ·cases hr)
def fit4_E0 (p : ProbD) (ty1 ty2 : TypeId) : Prop :=
      (decide (p.s ≥ (0:Int))=true ->
 (decide (p.s<(↑p.inst.sup.length:Int))=true ->
 (decide (p.t ≥ (0:Int))=true->(decide (p.t<(↑p.inst.sup.length:Int))=(z6m p.inst p.s && z6m p.inst p.t)/\True)/\True) /\
 (decide (p.t ≥ (0:Int))=false->(false=(z6m p.inst p.s && z6m p.inst p.t)/\True)/\True)) /\
 (decide (p.s<(↑p.inst.sup.length:Int))=false->(false=(z6m p.inst p.s && z6m p.inst p.t)/\True)/\True)) /\
 (decide (p.s ≥ (0:Int))=false->(false=(z6m p.inst p.s && z6m p.inst p.t)/\True)/\True)
theorem fit4_q (p:ProbD) (ty1 ty2:TypeId):fit4_E0 p ty1 ty2=z2d TT fit4_g (fit4_I p) (fit4_an p) Tryz.f70 [.ptr 0 0 0 0] [(0,.box false 27 [.bool p.most,.row 1,.row 2,.int .i64 p.s,.int .i64 p.t]),(1,.row false ty1 (.ints .i64 p.inst.sup)),(2,.row false ty2 (.arcs p.inst.arcs))] (fit4_r p):=by kernel_rfl
theorem fit4_E (p:ProbD) (ty1 ty2:TypeId) (hp:True):FVc TT fit4_g (fit4_I p) (fit4_an p) Tryz.f70 [.ptr 0 0 0 0] [(0,.box false 27 [.bool p.most,.row 1,.row 2,.int .i64 p.s,.int .i64 p.t]),(1,.row false ty1 (.ints .i64 p.inst.sup)),(2,.row false ty2 (.arcs p.inst.arcs))] (fit4_r p):=by
 refine FVc.of (fit4_E0 p ty1 ty2) (fit4_q p ty1 ty2) ?_
 unfold fit4_E0
 simp only [eq_self,exists_const,forall_const,ne_eq,Int.toNat_natCast,zSS,z06]
 unfold z6m
 refine ⟨fun h1=>⟨fun h2=>⟨fun h3=>?_,fun h3=>?_⟩,fun h2=>?_⟩,fun h1=>?_⟩
 ·simp [show 0 <= p.s from h1,h2,show 0 <= p.t from h3]
 ·simp [show ¬ 0 <= p.t from h3]
 ·simp [h2]
 ·simp [show ¬ 0 <= p.s from h1]
theorem fit4_ok:SpecOk Tryz.prog fit4_n true (z02 true fit4_fs) :=
 z0a z0h (show z14 Tryz.prog fit4_g from z00 node21_ok (z04)) (by kernel_rfl) mixedOrders Tryz.func70 rfl rfl (by kernel_rfl) (n:=1) (by decide +kernel) (I:=fit4_IA) (fun _ _=>z07) (A:=fit4_A)
  (fun args h r hr=>by
   unfold fit4_fs at hr
   split at hr
   ·rename_i p_m p_S p_T ty1 p_s ty2 p_a; cases hr; refine ⟨rfl,fun hp=>?_⟩; have hE:=fit4_E ⟨p_m,⟨p_s,p_a⟩,p_S,p_T⟩ ty1 ty2 hp; exact hE
   ·cases hr)
def fit5_E0 (p : ProbD) (ty1 ty2 : TypeId) : Prop :=
   ((p.s != p.t) = !decide (p.s=p.t)/\True)/\True
theorem fit5_q (p:ProbD) (ty1 ty2:TypeId):fit5_E0 p ty1 ty2=z2d TT fit5_g (fit5_I p) (fit5_an p) Tryz.f72 [.ptr 0 0 0 0] [(0,.box false 27 [.bool p.most,.row 1,.row 2,.int .i64 p.s,.int .i64 p.t]),(1,.row false ty1 (.ints .i64 p.inst.sup)),(2,.row false ty2 (.arcs p.inst.arcs))] (fit5_r p):=by kernel_rfl
theorem fit5_E (p:ProbD) (ty1 ty2:TypeId) (hp:True):FVc TT fit5_g (fit5_I p) (fit5_an p) Tryz.f72 [.ptr 0 0 0 0] [(0,.box false 27 [.bool p.most,.row 1,.row 2,.int .i64 p.s,.int .i64 p.t]),(1,.row false ty1 (.ints .i64 p.inst.sup)),(2,.row false ty2 (.arcs p.inst.arcs))] (fit5_r p):=by
 refine FVc.of (fit5_E0 p ty1 ty2) (fit5_q p ty1 ty2) ?_
 unfold fit5_E0
 simp only [eq_self,exists_const,forall_const,ne_eq,Int.toNat_natCast,zSS,z06]
 by_cases h:p.s=p.t <;> simp [h]
theorem fit5_ok:SpecOk Tryz.prog fit5_n true (z02 true fit5_fs) :=
 z0a z0h (show z14 Tryz.prog fit5_g from z04) (by kernel_rfl) mixedOrders Tryz.func72 rfl rfl (by kernel_rfl) (n:=1) (by decide +kernel) (I:=fit5_IA) (fun _ _=>z07) (A:=fit5_A)
  (fun args h r hr=>by
   unfold fit5_fs at hr
   split at hr
   ·rename_i p_m p_S p_T ty1 p_s ty2 p_a; cases hr; refine ⟨rfl,fun hp=>?_⟩; have hE:=fit5_E ⟨p_m,⟨p_s,p_a⟩,p_S,p_T⟩ ty1 ty2 hp; exact hE
   ·cases hr)
theorem all21_ok:SpecOk Tryz.prog all21_n false all21_spec :=
 z4j z0h (show z14 Tryz.prog all21_g from z00 fit1_ok (z00 fit2_ok (z00 fit3_ok (z00 fit4_ok (z00 fit5_ok (z04)))))) (by kernel_rfl) mixedOrders Tryz.func65 rfl rfl (by kernel_rfl) _
abbrev zan (g':Nat) (g:Nat) (p:ProbD):=((5:Nat) - g'<(5:Nat) - g/\((True/\((5:Int)=5/\(IntKind.i64.wrap ((↑g:Int)+(1:Int))=(↑g':Int)/\True)))/\(((0=0/\True)/\((0=0/\True)/\((0=0/\True)/\((0=0/\True)/\((0=0/\True)/\True)))))/\((p.most=p.most/\(True/\(True/\(p.s=p.s/\(p.t=p.t/\True)))))/\(p.inst.sup=p.inst.sup/\(p.inst.arcs=p.inst.arcs/\True))))))
def fit21_E0 (p : ProbD) (ty0 ty1 : TypeId) : Prop :=
   ∃ (g0:Nat),(AllI { most:=p.most,inst:=p.inst,s:=p.s,t:=p.t:ProbD } g0/\((True/\((↑(5:Nat):Int)=5/\((0:Int)=↑g0/\True)))/\(((0=0/\True)/\((0=0/\True)/\((0=0/\True)/\((0=0/\True)/\((0=0/\True)/\True)))))/\((p.most=p.most/\(True/\(True/\(p.s=p.s/\(p.t=p.t/\True)))))/\(p.inst.sup=p.inst.sup/\(p.inst.arcs=p.inst.arcs/\True))))))/\∀ (g:Nat),AllI { most:=p.most,inst:=p.inst,s:=p.s,t:=p.t:ProbD } g->(decide ((↑g:Int)<5)=true->((0:Int) <= ↑g/\((↑g:Int)<↑(5:Nat)))/\(↑g:Int).toNat<(5:Nat)/\((↑g:Int).toNat=(0:Nat)->True/\(((!p.most)=true->(false=fitP p/\True)/\True)/\((!p.most)=false->∃ (g':Nat),AllI { most:=p.most,inst:=p.inst,s:=p.s,t:=p.t:ProbD } g'/\(zan g' g p))))/\((↑g:Int).toNat=(0:Nat)+(1:Nat)->True/\(((!decide (z05 p.inst=(0:Int)))=true->(false=fitP p/\True)/\True)/\((!decide (z05 p.inst=(0:Int)))=false->∃ (g':Nat),AllI { most:=p.most,inst:=p.inst,s:=p.s,t:=p.t:ProbD } g'/\(zan g' g p))))/\(((↑g:Int).toNat=(0:Nat)+(1:Nat)+(1:Nat)->(p.inst.sup.length <= (1000000:Nat)/\(p.inst.arcs.length <= (1000000:Nat)))/\(((!z78 p.inst)=true->(false=fitP p/\True)/\True)/\((!z78 p.inst)=false->∃ (g':Nat),AllI { most:=p.most,inst:=p.inst,s:=p.s,t:=p.t:ProbD } g'/\(zan g' g p))))/\(((↑g:Int).toNat=(0:Nat)+(1:Nat)+(1:Nat)+(1:Nat)->True/\(((!(z6m p.inst p.s && z6m p.inst p.t))=true->(false=fitP p/\True)/\True)/\((!(z6m p.inst p.s && z6m p.inst p.t))=false->∃ (g':Nat),AllI { most:=p.most,inst:=p.inst,s:=p.s,t:=p.t:ProbD } g'/\(zan g' g p))))/\((↑g:Int).toNat=(0:Nat)+(1:Nat)+(1:Nat)+(1:Nat)+(1:Nat)->True/\(((!!decide (p.s=p.t))=true->(false=fitP p/\True)/\True)/\((!!decide (p.s=p.t))=false->∃ (g':Nat),AllI { most:=p.most,inst:=p.inst,s:=p.s,t:=p.t:ProbD } g'/\(zan g' g p)))))))/\(decide ((↑g:Int)<5)=false->(true=fitP p/\True)/\True)
theorem fit21_q (p:ProbD) (ty0 ty1:TypeId):fit21_E0 p ty0 ty1=z2d TT fit21_g (fit21_I p) (fit21_an p) Tryz.f41 [.agg [.bool p.most,.row 0,.row 1,.int .i64 p.s,.int .i64 p.t]] [(0,.row false ty0 (.ints .i64 p.inst.sup)),(1,.row false ty1 (.arcs p.inst.arcs))] (fit21_r p):=by kernel_rfl
theorem fit21_E (p:ProbD) (ty0 ty1:TypeId) (hp:True):FVc TT fit21_g (fit21_I p) (fit21_an p) Tryz.f41 [.agg [.bool p.most,.row 0,.row 1,.int .i64 p.s,.int .i64 p.t]] [(0,.row false ty0 (.ints .i64 p.inst.sup)),(1,.row false ty1 (.arcs p.inst.arcs))] (fit21_r p):=by
 refine FVc.of (fit21_E0 p ty0 ty1) (fit21_q p ty0 ty1) ?_
 unfold fit21_E0
 delta zan
 have st:∀ g,AllI p (g+1)->g<5->∃ g',AllI p g'/\5 - g'<5 - g/\IntKind.i64.wrap ((g:Int)+1)=(g':Int):=fun g h hg=>⟨g+1,h,by omega,by rw [w64 (by omega) (by omega)]; omega⟩
 simp only [eq_self,exists_const,forall_const,ne_eq,Int.toNat_natCast,zSS,z06]
 refine ⟨0,⟨⟨by omega,fun h=>by omega,fun h=>by omega,fun h=>by omega,fun h=>by omega,fun h=>by omega⟩,rfl,rfl⟩,fun g hg=>⟨fun h1=>⟨⟨by omega,by omega⟩,by omega,fun e=>⟨fun h=>(fit_no fun f=>by rw [f.m] at h; cases h).symm,fun h=>st g ⟨by omega,fun _=>h,fun _=>by omega,fun _=>by omega,fun _=>by omega,fun _=>by omega⟩ (by omega)⟩,fun e=>⟨fun h=>(fit_no fun f=>h f.r).symm,fun h=>st g ⟨by omega,fun _=>hg.m (by omega),fun _=>h,fun _=>by omega,fun _=>by omega,fun _=>by omega⟩ (by omega)⟩,fun e=>⟨by have:=z0d (hg.r (by omega)); omega,fun h=>(fit_no fun f=>by rw [f.b] at h; cases h).symm,fun h=>st g ⟨by omega,fun _=>hg.m (by omega),fun _=>hg.r (by omega),fun _=>h,fun _=>by omega,fun _=>by omega⟩ (by omega)⟩,fun e=>⟨fun h=>(fit_no fun f=>by rw [f.s,f.t] at h; cases h).symm,fun h=>st g ⟨by omega,fun _=>hg.m (by omega),fun _=>hg.r (by omega),fun _=>hg.b (by omega),fun _=>h,fun _=>by omega⟩ (by omega)⟩,fun e=>⟨fun h=>(fit_no fun f=>f.d h).symm,fun h=>st g ⟨by omega,fun _=>hg.m (by omega),fun _=>hg.r (by omega),fun _=>hg.b (by omega),fun _=>hg.st (by omega),fun _=>h⟩ (by omega)⟩⟩,fun h1=>?_⟩⟩
 have e:g=5:=by have:=hg.n; omega
 subst e
 exact hg.fit.symm
theorem fit21_ok:SpecOk Tryz.prog fit21_n true (z02 true fit21_fs) :=
 z0a z0h (show z14 Tryz.prog fit21_g from z00 all21_ok (z04)) (by kernel_rfl) mixedOrders Tryz.func41 rfl rfl (by kernel_rfl) (n:=1) (by decide +kernel) (I:=fit21_IA) (fun _ _=>z07) (A:=fit21_A)
  (fun args h r hr=>by
   unfold fit21_fs at hr
   split at hr
   ·rename_i p_m p_S p_T ty0 p_s ty1 p_a; cases hr; refine ⟨rfl,fun hp=>?_⟩; have hE:=fit21_E ⟨p_m,⟨p_s,p_a⟩,p_S,p_T⟩ ty0 ty1 hp; exact hE
   ·cases hr)
def Of21_E0 (p : ProbD) (ty0 ty1 : TypeId) : Prop :=
      True /\
 ((!fitP { most:=p.most,inst:=p.inst,s:=p.s,t:=p.t:ProbD })=true ->
 (((True/\True/\True)/\(1:Int)=ofE p/\True)/\True)/\[]=(ofI p).sup/\[]=(ofI p).arcs/\True) /\
 ((!fitP { most:=p.most,inst:=p.inst,s:=p.s,t:=p.t:ProbD })=false ->
 (decide ((↑p.inst.arcs.length:Int) ≥ (256:Int))=true->(((True/\True/\True)/\(20:Int)=ofE p/\True)/\True)/\[]=(ofI p).sup/\[]=(ofI p).arcs/\True) /\
 (decide ((↑p.inst.arcs.length:Int) ≥ (256:Int))=false ->
 (p.inst.sup.length <= (1000000000:Nat)/\p.inst.arcs.length <= (1000000000:Nat)) /\
 p.inst.arcs.length+(1:Nat) <= (1000000000:Nat) /\
 (((True/\True/\True)/\(0:Int)=ofE p/\True)/\True) /\
 p.inst.sup=(ofI p).sup /\
 p.inst.arcs ++ [{ src:=p.t,dst:=p.s,low:=(0:Int),cap:=(4611686018427387904:Int),cost:=(-1:Int):Arc }]=(ofI p).arcs/\True))
theorem Of21_q (p:ProbD) (ty0 ty1:TypeId):Of21_E0 p ty0 ty1=z2d TT Of21_g (Of21_I p) (Of21_an p) Tryz.f19 [.agg [.bool p.most,.row 0,.row 1,.int .i64 p.s,.int .i64 p.t]] [(0,.row false ty0 (.ints .i64 p.inst.sup)),(1,.row false ty1 (.arcs p.inst.arcs))] (Of21_r p):=by kernel_rfl
theorem Of21_E (p:ProbD) (ty0 ty1:TypeId) (hp:True):FVc TT Of21_g (Of21_I p) (Of21_an p) Tryz.f19 [.agg [.bool p.most,.row 0,.row 1,.int .i64 p.s,.int .i64 p.t]] [(0,.row false ty0 (.ints .i64 p.inst.sup)),(1,.row false ty1 (.arcs p.inst.arcs))] (Of21_r p):=by
 refine FVc.of (Of21_E0 p ty0 ty1) (Of21_q p ty0 ty1) ?_
 unfold Of21_E0
 simp only [eq_self,exists_const,forall_const,ne_eq,Int.toNat_natCast,zSS,z06]
 refine ⟨fun h=>?_,fun h=>⟨fun h2=>?_,fun h2=>?_⟩⟩
 ·have e:ofE p=1:=if_neg (by rw [h]; decide)
  rw [ofI_no (by rw [e]; decide),e]; exact ⟨rfl,rfl,rfl⟩
 ·have e:ofE p=20:=by unfold ofE; rw [if_pos h,if_pos (by omega)]
  rw [ofI_no (by rw [e]; decide),e]; exact ⟨rfl,rfl,rfl⟩
 ·have hs:=z0d (fitP_iff.1 h).r
  have e:ofE p=0:=by unfold ofE; rw [if_pos h,if_neg (by omega)]
  rw [zh9 e,e]; exact ⟨by omega,by omega,rfl,rfl,rfl⟩
theorem zj1:SpecOk Tryz.prog Of21_n true (z02 true zbu) :=
 z0a z0h (show z14 Tryz.prog Of21_g from z00 fit21_ok (z00 Copy_ok (z04))) (by kernel_rfl) mixedOrders Tryz.func19 rfl rfl (by kernel_rfl) (n:=1) (by decide +kernel) (I:=Of21_IA) (fun _ _=>z07) (A:=Of21_A)
  (fun args h r hr=>by
   unfold zbu at hr
   split at hr
   ·rename_i p_m p_S p_T ty0 p_s ty1 p_a; cases hr; refine ⟨rfl,fun hp=>?_⟩; have hE:=Of21_E ⟨p_m,⟨p_s,p_a⟩,p_S,p_T⟩ ty0 ty1 hp; exact hE
   ·cases hr)
theorem val1_ok:SpecOk Tryz.prog val1_n false val1_spec :=
 z4j z0h (show z14 Tryz.prog val1_g from z04) (by kernel_rfl) mixedOrders Tryz.func51 rfl rfl (by kernel_rfl) _
theorem toldV_ok:SpecOk Tryz.prog toldV_n false toldV_spec :=
 z4j z0h (show z14 Tryz.prog toldV_g from z00 zj1 (z00 Check_ok (z00 val1_ok (z04)))) (by kernel_rfl) mixedOrders Tryz.func50 rfl rfl (by kernel_rfl) _
def zf0 (p : ProbD) (c : Cert) (ty0 ty1 ty2 ty3 ty4 ty5 : TypeId) : Prop :=
      True /\
 ((ofE { most:=p.most,inst:=p.inst,s:=p.s,t:=p.t:ProbD } != (0:Int))=true->(((0:Int)=z5v p c/\false=z1t p c/\True)/\True)/\True) /\
 ((ofE { most:=p.most,inst:=p.inst,s:=p.s,t:=p.t:ProbD } != (0:Int))=false ->
 ((c.kind != (1:Int))=true->(((0:Int)=z5v p c/\false=z1t p c/\True)/\True)/\True) /\
 ((c.kind != (1:Int))=false ->
 (z1b { kind:=c.kind,flow:=c.flow,pot:=c.pot,side:=c.side,cycle:=c.cycle:Cert } /\
 z37 (ofI { most:=p.most,inst:=p.inst,s:=p.s,t:=p.t:ProbD })) /\
 ((z1g (ofI { most:=p.most,inst:=p.inst,s:=p.s,t:=p.t:ProbD })
 { kind:=c.kind,flow:=c.flow,pot:=c.pot,side:=c.side,cycle:=c.cycle:Cert } !=
 (0:Int)) =
 true ->
 (((0:Int)=z5v p c/\false=z1t p c/\True)/\True)/\True) /\
 ((z1g (ofI { most:=p.most,inst:=p.inst,s:=p.s,t:=p.t:ProbD })
 { kind:=c.kind,flow:=c.flow,pot:=c.pot,side:=c.side,cycle:=c.cycle:Cert } !=
 (0:Int)) =
 false ->
 ((0:Int) <= (↑p.inst.arcs.length:Int)/\(↑p.inst.arcs.length:Int)<(↑c.flow.length:Int)) /\
 (↑p.inst.arcs.length:Int).toNat<c.flow.length /\
 ∀ (x:Int),c.flow[(↑p.inst.arcs.length:Int).toNat]? = some x->((x=z5v p c/\true=z1t p c/\True)/\True)/\True)))
theorem Value21_q (p:ProbD) (c:Cert) (ty0 ty1 ty2 ty3 ty4 ty5:TypeId):zf0 p c ty0 ty1 ty2 ty3 ty4 ty5=z2d TT zjb (Value21_I p c) (Value21_an p c) Tryz.f22 [.agg [.bool p.most,.row 0,.row 1,.int .i64 p.s,.int .i64 p.t],.agg [.int .i64 c.kind,.row 2,.row 3,.row 4,.row 5]] [(0,.row false ty0 (.ints .i64 p.inst.sup)),(1,.row false ty1 (.arcs p.inst.arcs)),(2,.row false ty2 (.ints .i64 c.flow)),(3,.row false ty3 (.ints .i64 c.pot)),(4,.row false ty4 (.bools c.side)),(5,.row false ty5 (.ints .i64 c.cycle))] (zjd p c):=by kernel_rfl
theorem Value21_E (p:ProbD) (c:Cert) (ty0 ty1 ty2 ty3 ty4 ty5:TypeId) (hp:z1b c):FVc TT zjb (Value21_I p c) (Value21_an p c) Tryz.f22 [.agg [.bool p.most,.row 0,.row 1,.int .i64 p.s,.int .i64 p.t],.agg [.int .i64 c.kind,.row 2,.row 3,.row 4,.row 5]] [(0,.row false ty0 (.ints .i64 p.inst.sup)),(1,.row false ty1 (.arcs p.inst.arcs)),(2,.row false ty2 (.ints .i64 c.flow)),(3,.row false ty3 (.ints .i64 c.pot)),(4,.row false ty4 (.bools c.side)),(5,.row false ty5 (.ints .i64 c.cycle))] (zjd p c):=by
 refine FVc.of (zf0 p c ty0 ty1 ty2 ty3 ty4 ty5) (Value21_q p c ty0 ty1 ty2 ty3 ty4 ty5) ?_
 unfold zf0
 have no:¬ GoodP p c->z5v p c=0/\z1t p c=false/\z1q p c=[]/\z63 p c=[]:=fun h=>by
  have e:=good_no h
  unfold z5v z1q z63
  rw [e]; exact ⟨rfl,rfl,rfl,rfl⟩
 have yes:GoodP p c->z5v p c=c.flow.getD p.inst.arcs.length 0/\z1t p c=true/\z1q p c=c.flow.take p.inst.arcs.length/\z63 p c=z90 p c:=fun h=>by
  have e:=goodP_iff.2 h
  unfold z5v z1q z63
  rw [e]; exact ⟨rfl,rfl,rfl,rfl⟩
 have nn:¬ GoodP p c->0=z5v p c/\false=z1t p c:=fun h=>by obtain ⟨n1,n2,n3,n4⟩:=no h; exact ⟨n1.symm,n2.symm⟩
 simp only [eq_self,exists_const,forall_const,ne_eq,Int.toNat_natCast,zSS,z06]
 refine ⟨fun h=>nn fun g=>h g.e,fun h0=>⟨fun h=>nn fun g=>h g.k,fun h1=>?_⟩⟩
 rw [zh9 h0]
 refine ⟨⟨hp,zi7 (z5m h0)⟩,fun h=>nn fun g=>h g.c,fun h2=>?_⟩
 have hG:GoodP p c:=⟨h0,h1,h2⟩
 have hl:=hG.len
 have hs:=z0d (ofE_zero.1 h0).1.r
 obtain ⟨y1,y2,y3,y4⟩:=yes hG
 refine ⟨⟨by omega,by omega⟩,by omega,fun x hx=>?_⟩
 rw [y1,y2,List.getD_eq_getElem?_getD,hx]; exact ⟨rfl,rfl⟩
theorem Value21_ok:SpecOk Tryz.prog zjc true (z02 true zae) :=
 z0a z0h (show z14 Tryz.prog zjb from z00 toldV_ok (z04)) (by kernel_rfl) mixedOrders Tryz.func22 rfl rfl (by kernel_rfl) (n:=2) (by decide +kernel) (I:=Value21_IA) (fun _ _=>z07) (A:=Value21_A)
  (fun args h r hr=>by
   unfold zae at hr
   split at hr
   ·rename_i p_m p_S p_T c_k ty0 p_s ty1 p_a ty2 c_f ty3 c_p ty4 c_s ty5 c_y; cases hr; refine ⟨rfl,fun hp=>?_⟩; have hE:=Value21_E ⟨p_m,⟨p_s,p_a⟩,p_S,p_T⟩ ⟨c_k,c_f,c_p,c_s,c_y⟩ ty0 ty1 ty2 ty3 ty4 ty5 hp; exact hE
   ·cases hr)
theorem flow1_ok:SpecOk Tryz.prog flow1_n false flow1_spec :=
 z4j z0h (show z14 Tryz.prog flow1_g from z04) (by kernel_rfl) mixedOrders Tryz.func57 rfl rfl (by kernel_rfl) _
theorem toldF_ok:SpecOk Tryz.prog toldF_n false toldF_spec :=
 z4j z0h (show z14 Tryz.prog toldF_g from z00 zj1 (z00 Check_ok (z00 flow1_ok (z04)))) (by kernel_rfl) mixedOrders Tryz.func56 rfl rfl (by kernel_rfl) _
def zit (p : ProbD) (c : Cert) (ty0 ty1 ty2 ty3 ty4 ty5 : TypeId) : Prop :=
      True /\
 ((ofE { most:=p.most,inst:=p.inst,s:=p.s,t:=p.t:ProbD } != (0:Int))=true->((True/\false=z1t p c/\True)/\True)/\[]=z1q p c/\True) /\
 ((ofE { most:=p.most,inst:=p.inst,s:=p.s,t:=p.t:ProbD } != (0:Int))=false ->
 ((c.kind != (1:Int))=true->((True/\false=z1t p c/\True)/\True)/\[]=z1q p c/\True) /\
 ((c.kind != (1:Int))=false ->
 (z1b { kind:=c.kind,flow:=c.flow,pot:=c.pot,side:=c.side,cycle:=c.cycle:Cert } /\
 z37 (ofI { most:=p.most,inst:=p.inst,s:=p.s,t:=p.t:ProbD })) /\
 ((z1g (ofI { most:=p.most,inst:=p.inst,s:=p.s,t:=p.t:ProbD })
 { kind:=c.kind,flow:=c.flow,pot:=c.pot,side:=c.side,cycle:=c.cycle:Cert } !=
 (0:Int)) =
 true ->
 ((True/\false=z1t p c/\True)/\True)/\[]=z1q p c/\True) /\
 ((z1g (ofI { most:=p.most,inst:=p.inst,s:=p.s,t:=p.t:ProbD })
 { kind:=c.kind,flow:=c.flow,pot:=c.pot,side:=c.side,cycle:=c.cycle:Cert } !=
 (0:Int)) =
 false ->
 ((0:Int) <= (0:Int) /\
 (0:Int) <= (↑p.inst.arcs.length:Int)/\(↑p.inst.arcs.length:Int) <= (↑c.flow.length:Int)/\(↑c.flow.length:Int) <= (↑c.flow.length:Int)) /\
 (0:Nat)+(List.drop (Int.toNat (0:Int)) (List.take (↑p.inst.arcs.length:Int).toNat c.flow)).length <= (1000000000:Nat) /\
 ((True/\true=z1t p c/\True)/\True)/\List.drop (Int.toNat (0:Int)) (List.take (↑p.inst.arcs.length:Int).toNat c.flow)=z1q p c/\True)))
theorem Flow21_q (p:ProbD) (c:Cert) (ty0 ty1 ty2 ty3 ty4 ty5:TypeId):zit p c ty0 ty1 ty2 ty3 ty4 ty5=z2d TT Flow21_g (Flow21_I p c) (Flow21_an p c) Tryz.f26 [.agg [.bool p.most,.row 0,.row 1,.int .i64 p.s,.int .i64 p.t],.agg [.int .i64 c.kind,.row 2,.row 3,.row 4,.row 5]] [(0,.row false ty0 (.ints .i64 p.inst.sup)),(1,.row false ty1 (.arcs p.inst.arcs)),(2,.row false ty2 (.ints .i64 c.flow)),(3,.row false ty3 (.ints .i64 c.pot)),(4,.row false ty4 (.bools c.side)),(5,.row false ty5 (.ints .i64 c.cycle))] (Flow21_r p c):=by kernel_rfl
theorem Flow21_E (p:ProbD) (c:Cert) (ty0 ty1 ty2 ty3 ty4 ty5:TypeId) (hp:z1b c):FVc TT Flow21_g (Flow21_I p c) (Flow21_an p c) Tryz.f26 [.agg [.bool p.most,.row 0,.row 1,.int .i64 p.s,.int .i64 p.t],.agg [.int .i64 c.kind,.row 2,.row 3,.row 4,.row 5]] [(0,.row false ty0 (.ints .i64 p.inst.sup)),(1,.row false ty1 (.arcs p.inst.arcs)),(2,.row false ty2 (.ints .i64 c.flow)),(3,.row false ty3 (.ints .i64 c.pot)),(4,.row false ty4 (.bools c.side)),(5,.row false ty5 (.ints .i64 c.cycle))] (Flow21_r p c):=by
 refine FVc.of (zit p c ty0 ty1 ty2 ty3 ty4 ty5) (Flow21_q p c ty0 ty1 ty2 ty3 ty4 ty5) ?_
 unfold zit
 have no:¬ GoodP p c->z5v p c=0/\z1t p c=false/\z1q p c=[]/\z63 p c=[]:=fun h=>by
  have e:=good_no h
  unfold z5v z1q z63
  rw [e]; exact ⟨rfl,rfl,rfl,rfl⟩
 have yes:GoodP p c->z5v p c=c.flow.getD p.inst.arcs.length 0/\z1t p c=true/\z1q p c=c.flow.take p.inst.arcs.length/\z63 p c=z90 p c:=fun h=>by
  have e:=goodP_iff.2 h
  unfold z5v z1q z63
  rw [e]; exact ⟨rfl,rfl,rfl,rfl⟩
 have nn:¬ GoodP p c->false=z1t p c/\[]=z1q p c:=fun h=>by obtain ⟨n1,n2,n3,n4⟩:=no h; exact ⟨n2.symm,n3.symm⟩
 simp only [eq_self,exists_const,forall_const,ne_eq,Int.toNat_natCast,zSS,z06]
 refine ⟨fun h=>nn fun g=>h g.e,fun h0=>⟨fun h=>nn fun g=>h g.k,fun h1=>?_⟩⟩
 rw [zh9 h0]
 refine ⟨⟨hp,zi7 (z5m h0)⟩,fun h=>nn fun g=>h g.c,fun h2=>?_⟩
 have hG:GoodP p c:=⟨h0,h1,h2⟩
 have hl:=hG.len
 have hs:=z0d (ofE_zero.1 h0).1.r
 obtain ⟨y1,y2,y3,y4⟩:=yes hG
 rw [y2,y3]
 refine ⟨⟨by omega,by omega,by omega,by omega⟩,?_,rfl,rfl⟩
 have:(List.drop (Int.toNat 0) (List.take p.inst.arcs.length c.flow)).length=p.inst.arcs.length:=by simp; omega
 omega
theorem Flow21_ok:SpecOk Tryz.prog Flow21_n true (z02 true ziu) :=
 z0a z0h (show z14 Tryz.prog Flow21_g from z00 toldF_ok (z04)) (by kernel_rfl) mixedOrders Tryz.func26 rfl rfl (by kernel_rfl) (n:=2) (by decide +kernel) (I:=Flow21_IA) (fun _ _=>z07) (A:=Flow21_A)
  (fun args h r hr=>by
   unfold ziu at hr
   split at hr
   ·rename_i p_m p_S p_T c_k ty0 p_s ty1 p_a ty2 c_f ty3 c_p ty4 c_s ty5 c_y; cases hr; refine ⟨rfl,fun hp=>?_⟩; have hE:=Flow21_E ⟨p_m,⟨p_s,p_a⟩,p_S,p_T⟩ ⟨c_k,c_f,c_p,c_s,c_y⟩ ty0 ty1 ty2 ty3 ty4 ty5 hp; exact hE
   ·cases hr)
def side1_E0 (c : Cert) (p : ProbD) (ty1 ty2 ty3 ty4 ty6 ty7 : TypeId) : Prop :=
      ((↑c.pot.length:Int)=(↑c.pot.length:Int)/\(0:Int) <= (↑c.pot.length:Int)/\(↑c.pot.length:Int) <= (1000000000:Int)) /\
 ∃ (g0:Nat),
 (g0 <= c.pot.length /\
 ((0:Nat)=(0:Nat)/\(0:Nat)=(0:Nat)/\True/\True/\(↑c.pot.length:Int)=(↑c.pot.length:Int)/\(0:Int)=(↑g0:Int)/\True) /\
 List.replicate (↑c.pot.length:Int).toNat false =
 List.map (fun (v:Nat)=>decide (v<g0) && decide (c.pot.getD p.t.toNat (0:Int)<c.pot.getD v (0:Int))) (List.range c.pot.length) /\
 (c.kind=c.kind/\True/\True/\True/\True/\True) /\
 c.flow=c.flow /\
 c.pot=c.pot /\
 c.side=c.side /\
 c.cycle=c.cycle/\(p.most=p.most/\True/\True/\p.s=p.s/\p.t=p.t/\True)/\p.inst.sup=p.inst.sup/\p.inst.arcs=p.inst.arcs/\True) /\
 ∀ (g:Nat),
 g <= c.pot.length ->
 (decide ((↑g:Int)<(↑c.pot.length:Int))=true ->
 ((0:Int) <= (↑g:Int)/\(↑g:Int)<(↑c.pot.length:Int)) /\
 (↑g:Int).toNat<c.pot.length /\
 ∀ (x:Int),
 c.pot[(↑g:Int).toNat]? = some x ->
 ((0:Int) <= p.t/\p.t<(↑c.pot.length:Int)) /\
 p.t.toNat<c.pot.length /\
 ∀ (x_1:Int),
 c.pot[p.t.toNat]? = some x_1 ->
 ((0:Int) <= (↑g:Int) /\
 (↑g:Int) <
 (↑(List.map (fun (v:Nat)=>decide (v<g) && decide (c.pot.getD p.t.toNat (0:Int)<c.pot.getD v (0:Int)))
 (List.range c.pot.length)).length :
 Int)) /\
 (↑g:Int).toNat <
 (List.map (fun (v:Nat)=>decide (v<g) && decide (c.pot.getD p.t.toNat (0:Int)<c.pot.getD v (0:Int)))
 (List.range c.pot.length)).length /\
 ∃ (g':Nat),
 g' <= c.pot.length /\
 c.pot.length - g'<c.pot.length - g /\
 ((0:Nat)=(0:Nat) /\
 (0:Nat)=(0:Nat) /\
 True/\True/\(↑c.pot.length:Int)=(↑c.pot.length:Int)/\IntKind.i64.wrap ((↑g:Int)+(1:Int))=(↑g':Int)/\True) /\
 (List.map (fun (v:Nat)=>decide (v<g) && decide (c.pot.getD p.t.toNat (0:Int)<c.pot.getD v (0:Int)))
 (List.range c.pot.length)).set
 (↑g:Int).toNat (decide (x > x_1)) =
 List.map (fun (v:Nat)=>decide (v<g') && decide (c.pot.getD p.t.toNat (0:Int)<c.pot.getD v (0:Int)))
 (List.range c.pot.length) /\
 (c.kind=c.kind/\True/\True/\True/\True/\True) /\
 c.flow=c.flow /\
 c.pot=c.pot /\
 c.side=c.side /\
 c.cycle=c.cycle /\
 (p.most=p.most/\True/\True/\p.s=p.s/\p.t=p.t/\True)/\p.inst.sup=p.inst.sup/\p.inst.arcs=p.inst.arcs/\True) /\
 (decide ((↑g:Int)<(↑c.pot.length:Int))=false ->
 (True/\True) /\
 List.map (fun (v:Nat)=>decide (v<g) && decide (c.pot.getD p.t.toNat (0:Int)<c.pot.getD v (0:Int))) (List.range c.pot.length)=z90 p c/\True)
theorem side1_q (c:Cert) (p:ProbD) (ty1 ty2 ty3 ty4 ty6 ty7:TypeId):side1_E0 c p ty1 ty2 ty3 ty4 ty6 ty7=z2d TT side1_g (side1_I c p) (side1_an c p) Tryz.f53 [.ptr 0 0 0 0,.ptr 5 0 0 0] [(0,.box false 31 [.int .i64 c.kind,.row 1,.row 2,.row 3,.row 4]),(1,.row false ty1 (.ints .i64 c.flow)),(2,.row false ty2 (.ints .i64 c.pot)),(3,.row false ty3 (.bools c.side)),(4,.row false ty4 (.ints .i64 c.cycle)),(5,.box false 27 [.bool p.most,.row 6,.row 7,.int .i64 p.s,.int .i64 p.t]),(6,.row false ty6 (.ints .i64 p.inst.sup)),(7,.row false ty7 (.arcs p.inst.arcs))] (side1_r c p):=by kernel_rfl
theorem side1_E (c:Cert) (p:ProbD) (ty1 ty2 ty3 ty4 ty6 ty7:TypeId) (hp:0 <= p.t/\p.t<c.pot.length/\c.pot.length <= 1000000):FVc TT side1_g (side1_I c p) (side1_an c p) Tryz.f53 [.ptr 0 0 0 0,.ptr 5 0 0 0] [(0,.box false 31 [.int .i64 c.kind,.row 1,.row 2,.row 3,.row 4]),(1,.row false ty1 (.ints .i64 c.flow)),(2,.row false ty2 (.ints .i64 c.pot)),(3,.row false ty3 (.bools c.side)),(4,.row false ty4 (.ints .i64 c.cycle)),(5,.box false 27 [.bool p.most,.row 6,.row 7,.int .i64 p.s,.int .i64 p.t]),(6,.row false ty6 (.ints .i64 p.inst.sup)),(7,.row false ty7 (.arcs p.inst.arcs))] (side1_r c p):=by
 refine FVc.of (side1_E0 c p ty1 ty2 ty3 ty4 ty6 ty7) (side1_q c p ty1 ty2 ty3 ty4 ty6 ty7) ?_
 unfold side1_E0
 obtain ⟨t0,t1,t2⟩:=hp
 have hw:∀ j:Nat,j <= 1000000->IntKind.i64.wrap ((j:Int)+1)=((j+1:Nat):Int):=fun j hj=>by rw [w64 (by omega) (by omega)]; omega
 simp only [eq_self,exists_const,forall_const,ne_eq,Int.toNat_natCast,zSS,z06]
 refine ⟨⟨by omega,by omega⟩,0,⟨Nat.zero_le _,rfl,?_⟩,fun g hg=>⟨fun h1=>⟨⟨by omega,by omega⟩,by omega,fun x hx=>⟨⟨by omega,by omega⟩,by omega,fun y hy=>⟨by simp; omega,by simp; omega,g+1,by omega,by omega,hw g (by omega),?_⟩⟩⟩,fun h1=>?_⟩⟩
 ·apply List.ext_getElem?
  intro j
  by_cases h:j<c.pot.length <;> simp [h]
 ·rw [z1c]
  refine List.map_congr_left fun v hv=>?_
  by_cases e:v=g
  ·subst e
   rw [if_pos rfl,List.getD_eq_getElem?_getD,hy,List.getD_eq_getElem?_getD,hx]
   simp
  ·have e2:(v<g+1)=(v<g):=propext (by omega)
   rw [if_neg e]; simp only [e2]
 ·unfold z90
  apply List.ext_getElem?
  intro j
  by_cases h:j<c.pot.length
  ·simp [h,show j<g by omega,List.getD_eq_getElem?_getD]
  ·simp [h]
theorem side1_ok:SpecOk Tryz.prog side1_n true (z02 true side1_fs) :=
 z0a z0h (show z14 Tryz.prog side1_g from z04) (by kernel_rfl) mixedOrders Tryz.func53 rfl rfl (by kernel_rfl) (n:=2) (by decide +kernel) (I:=side1_IA) (fun _ _=>z07) (A:=side1_A)
  (fun args h r hr=>by
   unfold side1_fs at hr
   split at hr
   ·rename_i c_k ty1 c_f ty2 c_p ty3 c_s ty4 c_y p_m p_S p_T ty6 p_s ty7 p_a; cases hr; refine ⟨rfl,fun hp=>?_⟩; have hE:=side1_E ⟨c_k,c_f,c_p,c_s,c_y⟩ ⟨p_m,⟨p_s,p_a⟩,p_S,p_T⟩ ty1 ty2 ty3 ty4 ty6 ty7 hp; exact hE
   ·cases hr)
theorem toldS_ok:SpecOk Tryz.prog toldS_n false toldS_spec :=
 z4j z0h (show z14 Tryz.prog toldS_g from z00 zj1 (z00 Check_ok (z00 side1_ok (z04)))) (by kernel_rfl) mixedOrders Tryz.func52 rfl rfl (by kernel_rfl) _
def zj9 (p : ProbD) (c : Cert) (ty0 ty1 ty2 ty3 ty4 ty5 : TypeId) : Prop :=
      True /\
 ((ofE { most:=p.most,inst:=p.inst,s:=p.s,t:=p.t:ProbD } != (0:Int))=true->((True/\false=z1t p c/\True)/\True)/\[]=z63 p c/\True) /\
 ((ofE { most:=p.most,inst:=p.inst,s:=p.s,t:=p.t:ProbD } != (0:Int))=false ->
 ((c.kind != (1:Int))=true->((True/\false=z1t p c/\True)/\True)/\[]=z63 p c/\True) /\
 ((c.kind != (1:Int))=false ->
 (z1b { kind:=c.kind,flow:=c.flow,pot:=c.pot,side:=c.side,cycle:=c.cycle:Cert } /\
 z37 (ofI { most:=p.most,inst:=p.inst,s:=p.s,t:=p.t:ProbD })) /\
 ((z1g (ofI { most:=p.most,inst:=p.inst,s:=p.s,t:=p.t:ProbD })
 { kind:=c.kind,flow:=c.flow,pot:=c.pot,side:=c.side,cycle:=c.cycle:Cert } !=
 (0:Int)) =
 true ->
 ((True/\false=z1t p c/\True)/\True)/\[]=z63 p c/\True) /\
 ((z1g (ofI { most:=p.most,inst:=p.inst,s:=p.s,t:=p.t:ProbD })
 { kind:=c.kind,flow:=c.flow,pot:=c.pot,side:=c.side,cycle:=c.cycle:Cert } !=
 (0:Int)) =
 false ->
 ((0:Int) <= p.t/\p.t<(↑c.pot.length:Int)/\c.pot.length <= (1000000:Nat)) /\
 ((True/\true=z1t p c/\True)/\True) /\
 z90 { most:=p.most,inst:=p.inst,s:=p.s,t:=p.t:ProbD } { kind:=c.kind,flow:=c.flow,pot:=c.pot,side:=c.side,cycle:=c.cycle:Cert } =
 z63 p c /\
 True)))
theorem Side21_q (p:ProbD) (c:Cert) (ty0 ty1 ty2 ty3 ty4 ty5:TypeId):zj9 p c ty0 ty1 ty2 ty3 ty4 ty5=z2d TT Side21_g (Side21_I p c) (Side21_an p c) Tryz.f23 [.agg [.bool p.most,.row 0,.row 1,.int .i64 p.s,.int .i64 p.t],.agg [.int .i64 c.kind,.row 2,.row 3,.row 4,.row 5]] [(0,.row false ty0 (.ints .i64 p.inst.sup)),(1,.row false ty1 (.arcs p.inst.arcs)),(2,.row false ty2 (.ints .i64 c.flow)),(3,.row false ty3 (.ints .i64 c.pot)),(4,.row false ty4 (.bools c.side)),(5,.row false ty5 (.ints .i64 c.cycle))] (Side21_r p c):=by kernel_rfl
theorem Side21_E (p:ProbD) (c:Cert) (ty0 ty1 ty2 ty3 ty4 ty5:TypeId) (hp:z1b c):FVc TT Side21_g (Side21_I p c) (Side21_an p c) Tryz.f23 [.agg [.bool p.most,.row 0,.row 1,.int .i64 p.s,.int .i64 p.t],.agg [.int .i64 c.kind,.row 2,.row 3,.row 4,.row 5]] [(0,.row false ty0 (.ints .i64 p.inst.sup)),(1,.row false ty1 (.arcs p.inst.arcs)),(2,.row false ty2 (.ints .i64 c.flow)),(3,.row false ty3 (.ints .i64 c.pot)),(4,.row false ty4 (.bools c.side)),(5,.row false ty5 (.ints .i64 c.cycle))] (Side21_r p c):=by
 refine FVc.of (zj9 p c ty0 ty1 ty2 ty3 ty4 ty5) (Side21_q p c ty0 ty1 ty2 ty3 ty4 ty5) ?_
 unfold zj9
 have no:¬ GoodP p c->z5v p c=0/\z1t p c=false/\z1q p c=[]/\z63 p c=[]:=fun h=>by
  have e:=good_no h
  unfold z5v z1q z63
  rw [e]; exact ⟨rfl,rfl,rfl,rfl⟩
 have yes:GoodP p c->z5v p c=c.flow.getD p.inst.arcs.length 0/\z1t p c=true/\z1q p c=c.flow.take p.inst.arcs.length/\z63 p c=z90 p c:=fun h=>by
  have e:=goodP_iff.2 h
  unfold z5v z1q z63
  rw [e]; exact ⟨rfl,rfl,rfl,rfl⟩
 have nn:¬ GoodP p c->false=z1t p c/\[]=z63 p c:=fun h=>by obtain ⟨n1,n2,n3,n4⟩:=no h; exact ⟨n2.symm,n4.symm⟩
 simp only [eq_self,exists_const,forall_const,ne_eq,Int.toNat_natCast,zSS,z06]
 refine ⟨fun h=>nn fun g=>h g.e,fun h0=>⟨fun h=>nn fun g=>h g.k,fun h1=>?_⟩⟩
 rw [zh9 h0]
 refine ⟨⟨hp,zi7 (z5m h0)⟩,fun h=>nn fun g=>h g.c,fun h2=>?_⟩
 have hG:GoodP p c:=⟨h0,h1,h2⟩
 have hl:=hG.len
 have hs:=z0d (ofE_zero.1 h0).1.r
 obtain ⟨y1,y2,y3,y4⟩:=yes hG
 rw [y2,y4]
 have ht:=nodeP_iff.1 (ofE_zero.1 h0).1.t
 exact ⟨⟨by omega,by omega,by omega⟩,rfl,rfl⟩
theorem Side21_ok:SpecOk Tryz.prog Side21_n true (z02 true zja) :=
 z0a z0h (show z14 Tryz.prog Side21_g from z00 toldS_ok (z04)) (by kernel_rfl) mixedOrders Tryz.func23 rfl rfl (by kernel_rfl) (n:=2) (by decide +kernel) (I:=Side21_IA) (fun _ _=>z07) (A:=Side21_A)
  (fun args h r hr=>by
   unfold zja at hr
   split at hr
   ·rename_i p_m p_S p_T c_k ty0 p_s ty1 p_a ty2 c_f ty3 c_p ty4 c_s ty5 c_y; cases hr; refine ⟨rfl,fun hp=>?_⟩; have hE:=Side21_E ⟨p_m,⟨p_s,p_a⟩,p_S,p_T⟩ ⟨c_k,c_f,c_p,c_s,c_y⟩ ty0 ty1 ty2 ty3 ty4 ty5 hp; exact hE
   ·cases hr)
abbrev z57 (p:ProbD) (S:List Bool):=((((0:Int)=(z8o (z6u p S)).hi/\((0:Int)=(z8o (z6u p S)).lo/\True))/\(false=(z6u p S).isSome/\True))/\True)
abbrev zby (p:ProbD) (g':Nat × Int) (g:Nat × Int) (S:List Bool):=(p.inst.arcs.length - g'.fst<p.inst.arcs.length - g.fst/\((True/\(0=0/\(0=0/\(True/\((↑p.inst.arcs.length:Int)=↑p.inst.arcs.length/\(IntKind.i64.wrap ((↑g.1:Int)+(1:Int))=(↑g'.1:Int)/\True))))))/\(((W g.2).hi=(W g'.2).hi/\((W g.2).lo=(W g'.2).lo/\True))/\(((0:Int)=0/\((0:Int)=0/\True))/\(p.inst.arcs=p.inst.arcs/\(S=S/\True))))))
abbrev z84 (g':Nat × Int) (p:ProbD) (S:List Bool):=(g'.fst <= p.inst.arcs.length/\(z11 (↑p.inst.sup.length:Int) S (List.drop g'.fst p.inst.arcs) g'.snd=z36 p.inst S))
def zbx (p : ProbD) (S : List Bool) (ty0 ty1 ty2 : TypeId) : Prop :=
   True/\((ofE { most:=p.most,inst:=p.inst,s:=p.s,t:=p.t:ProbD } != (0:Int))=true->(z57 p S)/\True)/\((ofE { most:=p.most,inst:=p.inst,s:=p.s,t:=p.t:ProbD } != (0:Int))=false->(((↑S.length:Int) != (↑p.inst.sup.length:Int))=true->(z57 p S)/\True)/\(((↑S.length:Int) != (↑p.inst.sup.length:Int))=false->((0:Int) <= p.s/\(p.s<(↑S.length:Int)))/\p.s.toNat<S.length/\∀ (x:Bool),S[p.s.toNat]? = some x->((!x)=true->(z57 p S)/\True)/\((!x)=false->((0:Int) <= p.t/\(p.t<(↑S.length:Int)))/\p.t.toNat<S.length/\∀ (x:Bool),S[p.t.toNat]? = some x->(x=true->(z57 p S)/\True)/\(x=false->I64 (0:Int)/\∃ (g0:Nat × Int),((g0.fst <= p.inst.arcs.length/\(z11 (↑p.inst.sup.length:Int) S (List.drop g0.fst p.inst.arcs) g0.snd=z36 p.inst S))/\((True/\(0=0/\(0=0/\(True/\((↑p.inst.arcs.length:Int)=↑p.inst.arcs.length/\((0:Int)=↑g0.1/\True))))))/\(((W (0:Int)).hi=(W g0.2).hi/\((W (0:Int)).lo=(W g0.2).lo/\True))/\(((0:Int)=0/\((0:Int)=0/\True))/\(p.inst.arcs=p.inst.arcs/\(S=S/\True))))))/\∀ (g:Nat × Int),g.fst <= p.inst.arcs.length/\z11 (↑p.inst.sup.length:Int) S (List.drop g.fst p.inst.arcs) g.snd=z36 p.inst S->(decide ((↑g.1:Int)<↑p.inst.arcs.length)=true->((0:Int) <= ↑g.1/\((↑g.1:Int)<↑p.inst.arcs.length))/\((↑g.1:Int).toNat<p.inst.arcs.length/\(∀ (x:Arc),p.inst.arcs[(↑g.1:Int).toNat]? = some x->((0:Int) <= x.src/\(x.src<(↑S.length:Int)))/\(x.src.toNat<S.length/\(∀ (x_1:Bool),S[x.src.toNat]? = some x_1->((!x_1)=true->∃ (g':Nat × Int),(z84 g' p S)/\(zby p g' g S))/\((!x_1)=false->((0:Int) <= x.dst/\(x.dst<(↑S.length:Int)))/\(x.dst.toNat<S.length/\(∀ (x_2:Bool),S[x.dst.toNat]? = some x_2->(x_2=true->∃ (g':Nat × Int),(z84 g' p S)/\(zby p g' g S))/\(x_2=false->((x.cap == (4611686018427387904:Int))=true->(z57 p S)/\True)/\((x.cap == (4611686018427387904:Int))=false->I64 x.cap/\(((W g.2).ok/\((W x.cap).ok))/\(∃ (g':Nat × Int),(z84 g' p S)/\(p.inst.arcs.length - g'.fst<p.inst.arcs.length - g.fst/\((True/\(0=0/\(0=0/\(True/\((↑p.inst.arcs.length:Int)=↑p.inst.arcs.length/\(IntKind.i64.wrap ((↑g.1:Int)+(1:Int))=(↑g'.1:Int)/\True))))))/\(((z7z (W g.2) (W x.cap)).hi=(W g'.2).hi/\((z7z (W g.2) (W x.cap)).lo=(W g'.2).lo/\True))/\(((0:Int)=0/\((0:Int)=0/\True))/\(p.inst.arcs=p.inst.arcs/\(S=S/\True))))))))))))))))))/\(decide ((↑g.1:Int)<↑p.inst.arcs.length)=false->((((W g.2).hi=(z8o (z6u p S)).hi/\((W g.2).lo=(z8o (z6u p S)).lo/\True))/\(true=(z6u p S).isSome/\True))/\True)/\True)))))
theorem Weight21_q (p:ProbD) (S:List Bool) (ty0 ty1 ty2:TypeId):zbx p S ty0 ty1 ty2=z2d TT zf2 (Weight21_I p S) (zbz p S) Tryz.f21 [.agg [.bool p.most,.row 0,.row 1,.int .i64 p.s,.int .i64 p.t],.row 2] [(0,.row false ty0 (.ints .i64 p.inst.sup)),(1,.row false ty1 (.arcs p.inst.arcs)),(2,.row false ty2 (.bools S))] (zf3 p S):=by kernel_rfl
theorem Weight21_E (p:ProbD) (S:List Bool) (ty0 ty1 ty2:TypeId) (hp:S.length <= 1000000):FVc TT zf2 (Weight21_I p S) (zbz p S) Tryz.f21 [.agg [.bool p.most,.row 0,.row 1,.int .i64 p.s,.int .i64 p.t],.row 2] [(0,.row false ty0 (.ints .i64 p.inst.sup)),(1,.row false ty1 (.arcs p.inst.arcs)),(2,.row false ty2 (.bools S))] (zf3 p S):=by
 refine FVc.of (zbx p S ty0 ty1 ty2) (Weight21_q p S ty0 ty1 ty2) ?_
 unfold zbx
 delta z84 zby z57
 have hw:∀ j:Nat,j <= 1000000->IntKind.i64.wrap ((j:Int)+1)=((j+1:Nat):Int):=fun j hj=>by rw [w64 (by omega) (by omega)]; omega
 simp only [eq_self,exists_const,forall_const,ne_eq,Int.toNat_natCast,zSS,z06]
 have no:¬ OnP p S->(0=(z8o (z6u p S)).hi/\0=(z8o (z6u p S)).lo)/\false=(z6u p S).isSome:=fun h=>by rw [weigh_no h]; exact ⟨⟨rfl,rfl⟩,rfl⟩
 refine ⟨fun h=>no fun g=>h g.e,fun h0=>?_⟩
 have hf:=(ofE_zero.1 h0).1
 have hr:=hf.r
 have hs:=z0d hr
 have hb:=bareF_iff.1 hf.b
 have ns:=nodeP_iff.1 hf.s
 have nt:=nodeP_iff.1 hf.t
 refine ⟨fun h1=>no fun h=>h1 (by rw [h.l]),fun h1=>⟨⟨by omega,by omega⟩,by omega,fun x hx=>⟨fun h2=>no fun h=>?_,fun h2=>⟨⟨by omega,by omega⟩,by omega,fun y hy=>⟨fun h3=>no fun h=>?_,fun h3=>⟨by unfold I64; omega,(0,0),⟨⟨Nat.zero_le _,rfl⟩,rfl,rfl,rfl⟩,fun g hg=>?_⟩⟩⟩⟩⟩⟩
 ·have:=h.s; rw [List.getD_eq_getElem?_getD,hx,h2] at this; cases this
 ·have:=h.t; rw [List.getD_eq_getElem?_getD,hy,h3] at this; cases this
 have on:OnP p S:=⟨h0,by omega,by rw [List.getD_eq_getElem?_getD,hx,h2]; rfl,by rw [List.getD_eq_getElem?_getD,hy,h3]; rfl⟩
 rw [weigh_on on]
 clear no hx hy h2 h3
 obtain ⟨k,s⟩:=g
 dsimp only at hg ⊢
 obtain ⟨hk,hg⟩:=hg
 refine ⟨fun h4=>⟨⟨by omega,by omega⟩,by omega,fun a ha=>?_⟩,fun h4=>?_⟩
 ·have hm:=List.mem_of_getElem? ha
  have ra:=right_arc' hr hm
  have ho:=z1h hr hm
  have ho1:=ho.1
  unfold z2z at ho1
  simp only [Bool.and_eq_true,decide_eq_true_eq] at ho1
  rw [z47 ha,room_step ra (hb.2 a hm).1] at hg
  have hi:inf=4611686018427387904:=rfl
  refine ⟨⟨by omega,by omega⟩,by omega,fun b hb1=>⟨fun h5=>⟨(k+1,s),⟨by dsimp only; omega,?_⟩,by dsimp only; omega,hw k (by omega),rfl,rfl⟩,fun h5=>⟨⟨by omega,by omega⟩,by omega,fun d hd1=>⟨fun h6=>⟨(k+1,s),⟨by dsimp only; omega,?_⟩,by dsimp only; omega,hw k (by omega),rfl,rfl⟩,fun h6=>?_⟩⟩⟩⟩
  ·rw [if_neg (fun h=>by have:=h.1; rw [List.getD_eq_getElem?_getD,hb1,h5] at this; cases this)] at hg; exact hg
  ·rw [if_neg (fun h=>by have:=h.2; rw [List.getD_eq_getElem?_getD,hd1,h6] at this; cases this)] at hg; exact hg
  ·rw [if_pos ⟨by rw [List.getD_eq_getElem?_getD,hb1,h5]; rfl,by rw [List.getD_eq_getElem?_getD,hd1,h6]; rfl⟩,hi] at hg
   refine ⟨fun h7=>?_,fun h7=>⟨by unfold I64; omega,⟨zf1 _,zf1 _⟩,(k+1,s+a.cap),⟨by dsimp only; omega,?_⟩,by dsimp only; omega,hw k (by omega),by rw [za8],by rw [za8]⟩⟩
   ·rw [if_pos h7] at hg
    rw [<- hg]; exact ⟨⟨rfl,rfl⟩,rfl⟩
   ·rw [if_neg h7] at hg; exact hg
 ·rw [zam (by omega)] at hg
  rw [<- hg]
  exact ⟨⟨rfl,rfl⟩,rfl⟩
theorem Weight21_ok:SpecOk Tryz.prog Weight21_n true (z02 true zc0) :=
 z0a z0h (show z14 Tryz.prog zf2 from z00 zj1 (z00 zhk (z00 zbv (z04)))) (by kernel_rfl) mixedOrders Tryz.func21 rfl rfl (by kernel_rfl) (n:=2) (by decide +kernel) (I:=Weight21_IA) (fun _ _=>z07) (A:=Weight21_A)
  (fun args h r hr=>by
   unfold zc0 at hr
   split at hr
   ·rename_i p_m p_S p_T ty0 p_s ty1 p_a ty2 S; cases hr; refine ⟨rfl,fun hp=>?_⟩; have hE:=Weight21_E ⟨p_m,⟨p_s,p_a⟩,p_S,p_T⟩ S ty0 ty1 ty2 hp; exact hE
   ·cases hr)
end Go.Proofs.YtapeenpimcffpaaGreat
end
section
namespace Go.Proofs.YtapeenpimcffpaaGreat
open Go Go.RowKit Go.Ql Go.Vc
end Go.Proofs.YtapeenpimcffpaaGreat
end
section
namespace Go.Ql
open Go Go.Vc
def idxS {α:Type} [Inhabited α] (f:Nat->α->α) (l:List α) (k:Nat):List α:=(List.range l.length).map fun c=>if c<k then f c (l.getD c default) else l.getD c default
section
variable {α:Type} [Inhabited α] {f:Nat->α->α} {l:List α}
theorem idxS_len (f:Nat->α->α) (l:List α) (k:Nat):(idxS f l k).length=l.length:=by simp [idxS]
theorem idxS_get {k c:Nat} (h:c<l.length):(idxS f l k)[c]? = some (if c<k then f c (l.getD c default) else l.getD c default):=by
 unfold idxS; rw [List.getElem?_map,List.getElem?_range h]; rfl
theorem idxS_at {k:Nat} {y:α} (h:(idxS f l k)[k]? = some y):l[k]? = some y:=by
 have hk:=(List.getElem?_eq_some_iff.1 h).1
 rw [idxS_len] at hk
 rw [idxS_get hk,if_neg (Nat.lt_irrefl _),List.getD_eq_getElem?_getD,List.getElem?_eq_getElem hk] at h
 rw [List.getElem?_eq_getElem hk]; exact h
end
end Go.Ql
end
section
namespace Go.Ql
open Go Go.Vc
def madeA (a:Arc) (r:Int):Arc:=if r<0/\a.cap=inf then { a with cap:=a.low+2 } else a
def madeX (a:Arc) (r f:Int):Int:=if r<0 then (madeA a r).cap else if 0<r then a.low else f
structure MadeI (I:Inst) (P F:List Int) (k:Nat) (B:List Arc) (y:List Int):Prop where
 lb:B.length=I.arcs.length
 ly:y.length=I.arcs.length
 b:∀ j,j<I.arcs.length->B.getD j default=if j<k then madeA (I.arcs.getD j default) (redF I P j) else I.arcs.getD j default
 y:∀ j,j<I.arcs.length->y.getD j 0=if j<k then madeX (I.arcs.getD j default) (redF I P j) (F.getD j 0) else F.getD j 0
theorem MadeI.zero {I:Inst} {P F:List Int} (h:F.length=I.arcs.length):MadeI I P F 0 I.arcs F:=⟨rfl,h,fun j _=>by simp,fun j _=>by simp⟩
theorem getD_set' {α:Type} (l:List α) (k j:Nat) (v d:α) (h:k<l.length):(l.set k v).getD j d=if j=k then v else l.getD j d:=by
 rw [List.getD_eq_getElem?_getD,List.getD_eq_getElem?_getD,List.getElem?_set]
 by_cases hjk:k=j
 ·subst hjk; simp [h]
 ·rw [if_neg hjk,if_neg (fun e=>hjk e.symm)]
theorem MadeI.next {I:Inst} {P F:List Int} {k:Nat} {B:List Arc} {y:List Int} (h:MadeI I P F k B y) (hk:k<I.arcs.length) {B':List Arc} {y':List Int}
  (hB:B'=B.set k (madeA (I.arcs.getD k default) (redF I P k))) (hy:y'=y.set k (madeX (I.arcs.getD k default) (redF I P k) (F.getD k 0))):MadeI I P F (k+1) B' y':=by
 subst hB hy
 refine ⟨by rw [List.length_set]; exact h.lb,by rw [List.length_set]; exact h.ly,fun j hj=>?_,fun j hj=>?_⟩
 ·rw [getD_set' _ _ _ _ _ (by rw [h.lb]; exact hk),h.b j hj]
  by_cases e:j=k
  ·subst e; simp
  ·rw [if_neg e]
   by_cases e2:j<k
   ·rw [if_pos e2,if_pos (by omega)]
   ·rw [if_neg e2,if_neg (by omega)]
 ·rw [getD_set' _ _ _ _ _ (by rw [h.ly]; exact hk),h.y j hj]
  by_cases e:j=k
  ·subst e; simp
  ·rw [if_neg e]
   by_cases e2:j<k
   ·rw [if_pos e2,if_pos (by omega)]
   ·rw [if_neg e2,if_neg (by omega)]
theorem MadeI.same {I:Inst} {P F:List Int} {k:Nat} {B:List Arc} {y:List Int} (h:MadeI I P F k B y) (hk:k<I.arcs.length):B.getD k default=I.arcs.getD k default/\y.getD k 0=F.getD k 0:=by
 have h1:=h.b k hk; have h2:=h.y k hk
 rw [if_neg (Nat.lt_irrefl _)] at h1 h2
 exact ⟨h1,h2⟩
theorem madeA_nice {m:Int} {a:Arc} (h:a.Nice m) (r:Int):(madeA a r).Nice m:=by
 unfold madeA
 split
 ·have:=h.l0; have:=h.l1
  exact ⟨h.s0,h.s1,h.d0,h.d1,h.l0,h.l1,by dsimp only; omega,by dsimp only; omega,h.k0,h.k1⟩
 ·exact h
theorem MadeI.nice {I:Inst} {P F:List Int} {k:Nat} {B:List Arc} {y:List Int} (h:MadeI I P F k B y) {m:Int} (hn:∀ a ∈ I.arcs,a.Nice m):∀ a ∈ B,a.Nice m:=fun a ha=>by
 obtain ⟨j,hj⟩:=List.mem_iff_getElem?.1 ha
 have hjl:j<I.arcs.length:=by have:=(List.getElem?_eq_some_iff.1 hj).1; rw [h.lb] at this; exact this
 have e:=h.b j hjl
 rw [List.getD_eq_getElem?_getD,hj] at e
 have hm:I.arcs.getD j default ∈ I.arcs:=by rw [List.getD_eq_getElem?_getD,List.getElem?_eq_getElem hjl]; exact List.getElem_mem hjl
 change a=_ at e
 rw [e]
 split
 ·exact madeA_nice (hn _ hm) _
 ·exact hn _ hm
theorem MadeI.a64 {I:Inst} {P F:List Int} {k:Nat} {B:List Arc} {y:List Int} (h:MadeI I P F k B y) {m:Int} (hn:∀ a ∈ I.arcs,a.Nice m) (hF:A64 F):A64 y:=fun u hu=>by
 obtain ⟨j,hj⟩:=List.mem_iff_getElem?.1 hu
 have hjl:j<I.arcs.length:=by have:=(List.getElem?_eq_some_iff.1 hj).1; rw [h.ly] at this; exact this
 have e:=h.y j hjl
 rw [List.getD_eq_getElem?_getD,hj] at e
 have hm:I.arcs.getD j default ∈ I.arcs:=by rw [List.getD_eq_getElem?_getD,List.getElem?_eq_getElem hjl]; exact List.getElem_mem hjl
 have hf:=hF.getD j
 change u=_ at e
 rw [e]
 split
 ·have h1:=madeA_nice (hn _ hm) (redF I P j)
  have h2:=hn _ hm
  have:=h1.c0; have:=h1.c1; have:=h1.l0; have:=h2.l0; have:=h2.l1; have:=h1.l1
  unfold madeX
  split
  ·unfold I64; omega
  ·split
   ·unfold I64; omega
   ·exact hf
 ·exact hf
def z70 (a:Arc):Arc:={ a with low:=0,cost:=0 }
def probS (d:List Int) (n:Nat):Int:=d.getD 0 0 / 7 % n
def probT (d:List Int) (n:Nat):Int:=(probS d n+1+d.getD 0 0 / 14 % ((n:Int) - 1)) % n
def z08 (c d:List Int) (m:Bool):ProbD :=
 if m=true/\2 <= (z0x c d).sup.length then ⟨true,⟨List.replicate (z0x c d).sup.length 0,(z0x c d).arcs.map z70⟩,probS d (z0x c d).sup.length,probT d (z0x c d).sup.length⟩ else ⟨false,z0x c d,0,0⟩
def knownP:ProbD:=⟨true,⟨[0,0,0],[⟨0,1,0,3,0⟩,⟨1,2,0,2,0⟩]⟩,0,2⟩
def zli:Cert:=⟨1,[2,2,2],[1,1,0],[],[]⟩
theorem known_is:z1t knownP zli=true/\z5v knownP zli=2/\z63 knownP zli=[true,true,false]/\z6u knownP [true,true,false]=some 2:=by
 refine ⟨?_,?_,?_,?_⟩ <;> decide +kernel
theorem clear_nice {m:Int} {a:Arc} (h:a.Nice m):(z70 a).Nice m:=by
 have:=h.l0; have:=h.c0; have:=h.c1
 exact ⟨h.s0,h.s1,h.d0,h.d1,by show (0:Int) <= 0; omega,by show (0:Int) <= 2; omega,by show (0:Int) <= a.cap; omega,h.c1,by show -8 <= (0:Int); omega,by show (0:Int) <= 12; omega⟩
structure ProbOk (p:ProbD):Prop where
 n1:2 <= p.inst.sup.length
 n2:p.inst.sup.length <= 7
 m:p.inst.arcs.length <= 18
 a:∀ a ∈ p.inst.arcs,a.Nice p.inst.sup.length
 e:ofE p=0
theorem ProbOk.fit {p:ProbD} (h:ProbOk p):FitP p:=(ofE_zero.1 h.e).1
theorem prob_ends {d:List Int} {n:Nat} (h1:2 <= n) (h2:n <= 7):0 <= probS d n/\probS d n<n/\0 <= probT d n/\probT d n<n/\probS d n ≠ probT d n:=by
 unfold probT probS
 generalize d.getD 0 0=x
 have:n=2 ∨ n=3 ∨ n=4 ∨ n=5 ∨ n=6 ∨ n=7:=by omega
 rcases this with rfl | rfl | rfl | rfl | rfl | rfl <;> omega
theorem fit_ok {p:ProbD} (hm:p.most=true) (n1:p.inst.sup.length <= 7) (m1:p.inst.arcs.length <= 18) (ha:∀ a ∈ p.inst.arcs,a.Nice p.inst.sup.length) (hs:∀ y ∈ p.inst.sup,y=0) (hz:∀ a ∈ p.inst.arcs,a.low=0/\a.cost=0)
  (s0:0 <= p.s) (s1:p.s<p.inst.sup.length) (t0:0 <= p.t) (t1:p.t<p.inst.sup.length) (hd:p.s ≠ p.t):ProbOk p:=by
 have hsum:∀ l:List Int,(∀ y ∈ l,y=0)->l.sum=0:=fun l=>by
  induction l with
  | nil=>intro _; rfl
  | cons y l ih=>intro h; rw [List.sum_cons,ih (fun z hz=>h z (by simp [hz])),h y (by simp)]; rfl
 have hr:z05 p.inst=0:=right_of (by omega) (by omega) (fun a h=>(ha a h).right) (fun x hx=>by rw [hs x hx]; omega) (hsum _ hs)
 exact ⟨by omega,n1,m1,ha,ofE_zero.2 ⟨⟨hm,hr,bareF_iff.2 ⟨hs,hz⟩,nodeP_iff.2 ⟨s0,s1⟩,nodeP_iff.2 ⟨t0,t1⟩,hd⟩,by omega⟩⟩
theorem prob_eq {c d:List Int} (h:2 <= (z0x c d).sup.length):z08 c d true=⟨true,⟨List.replicate (z0x c d).sup.length 0,(z0x c d).arcs.map z70⟩,probS d (z0x c d).sup.length,probT d (z0x c d).sup.length⟩:=if_pos ⟨rfl,h⟩
theorem prob_ok {c d:List Int} (h:2 <= (z0x c d).sup.length):ProbOk (z08 c d true):=by
 have l1:=instF_sup c d
 have l3:=nOf_le d
 have l4:=instF_arcs c d
 obtain ⟨e1,e2,e3,e4,e5⟩:=prob_ends (d:=d) h (by omega)
 rw [prob_eq h]
 refine fit_ok rfl (by dsimp only; rw [List.length_replicate]; omega) (by dsimp only; rw [List.length_map]; exact l4) (fun a ha=>?_) (fun y hy=>(List.mem_replicate.1 hy).2) (fun a ha=>?_) e1 (by dsimp only; rw [List.length_replicate]; exact e2) e3 (by dsimp only; rw [List.length_replicate]; exact e4) e5
 ·dsimp only at ha ⊢
  rw [List.length_replicate]
  obtain ⟨b,hb,rfl⟩:=List.mem_map.1 ha
  exact clear_nice (by rw [l1]; exact instF_nice c d b hb)
 ·obtain ⟨b,hb,rfl⟩:=List.mem_map.1 ha
  exact ⟨rfl,rfl⟩
theorem prob_no {c d:List Int} (h:¬ 2 <= (z0x c d).sup.length):ofE (z08 c d true)=1:=by
 have e:z08 c d true=⟨false,z0x c d,0,0⟩:=if_neg (fun h2=>h h2.2)
 rw [e]; rfl
theorem prob_of {c d:List Int} (h:ofE (z08 c d true)=0):ProbOk (z08 c d true):=by
 by_cases h2:2 <= (z0x c d).sup.length
 ·exact prob_ok h2
 ·rw [prob_no h2] at h; cases h
theorem ProbOk.nice {p:ProbD} (h:ProbOk p):∀ a ∈ (ofP p).arcs,a.Nice p.inst.sup.length:=fun a ha=>by
 have hf:=h.fit
 have h1:=nodeP_iff.1 hf.s; have h2:=nodeP_iff.1 hf.t
 rcases List.mem_append.1 ha with ha | ha
 ·exact h.a a ha
 ·rw [List.mem_singleton] at ha; subst ha
  unfold zb4
  exact ⟨h2.1,h2.2,h1.1,h1.2,by dsimp only; omega,by dsimp only; omega,by dsimp only; omega,.inr rfl,by dsimp only; omega,by dsimp only; omega⟩
theorem z9p (p:ProbD):(ofP p).arcs.length=p.inst.arcs.length+1:=by simp [ofP]
end Go.Ql
end
section
namespace Go.Proofs.YtapeenpimcffpaaGreat
open Go Go.RowKit Go.Ql Go.Vc
def Prob08_r (c:List Int) (d:List Int) (m:Bool):FRes:={ pre:=Bytes c/\Bytes d/\c.length <= maxLen/\d.length <= maxLen,res:=.agg [.bool (z08 c d m).most,.row 2,.row 3,.int .i64 (z08 c d m).s,.int .i64 (z08 c d m).t],rows:=[.row 2 (.ints .i64 (z08 c d m).inst.sup),.row 65 (.arcs (z08 c d m).inst.arcs)],eff:=[] }
def zj6:FS:=fun args h=>match args,h with
 | [.row 0,.row 1,.bool m],[(0,.row false ty0 (.ints .u8 c)),(1,.row false ty1 (.ints .u8 d))]=>some (Prob08_r c d m)
 | _,_=>none
def zj5 (c:List Int) (d:List Int) (m:Bool):List (Nat × Ann):=[(8,{ G:=(Nat),inv:=fun k=>⟨[(1,.row 1),(6,.ptr 4 0 0 0),(7,.ptr 11 0 0 0),(8,.int .i64 (↑(z0x c d).sup.length:Int)),(9,.int .i64 k)],[(12,.row true 2 (.ints .i64 (List.replicate (↑(z0x c d).sup.length:Int).toNat (0:Int)))),(11,.box true 27 [SV.tt,.row 12,.row 6,.int .i64 (0:Int),.int .i64 (0:Int)]),(6,.row true 65 (.arcs (z7d z70 (z0x c d).arcs k))),(4,.box true 27 [SV.ff,.row 2,.row 3,.int .i64 (0:Int),.int .i64 (0:Int)]),(2,.row true 2 (.ints .i64 [])),(3,.row true 65 (.arcs [])),(1,.row false 0 (.ints .u8 d))],13⟩,rel:=fun k0 k=>k <= (z0x c d).arcs.length,meas:=fun k=>(z0x c d).arcs.length - k })]
def Prob08_A:List SV->z0e->List (Nat × Ann):=fun args h=>match args,h with
 | [.row 0,.row 1,.bool m],[(0,.row false ty0 (.ints .u8 c)),(1,.row false ty1 (.ints .u8 d))]=>zj5 c d m
 | _,_=>[]
def Prob08_g:z0c:=[(Inst_n,(true,z02 true Inst_fs))]
abbrev Prob08_n:Nat:=11
def Prob08_I (c:List Int) (d:List Int) (m:Bool):List (Nat × z09):=[]
def Prob08_IA:List SV->z0e->List (Nat × z09):=fun _ _=>[]
def zlh:FRes:={ pre:=True,res:=.bool (true),rows:=[],eff:=[] }
def zfy:FS:=fun args h=>match args,h with
 | [],[]=>some (zlh)
 | _,_=>none
def known21_an:List (Nat × Ann):=[]
def known21_A:List SV->z0e->List (Nat × Ann):=fun _ _=>[]
def zlg:z0c:=[(zjc,(true,z02 true zae)),(Side21_n,(true,z02 true zja)),(Weight21_n,(true,z02 true zc0)),(Bools_n,(true,z02 true Bools_fs)),(Of_n,(true,z02 true zcy))]
abbrev known21_n:Nat:=10
def known21_I:List (Nat × z09):=[]
def known21_IA:List SV->z0e->List (Nat × z09):=fun _ _=>[]
abbrev z96 (c:List Int) (d:List Int) (g:Nat) (x:Arc):=((z7d z70 (z0x c d).arcs g).set (↑g:Int).toNat { src:=x.src,dst:=x.dst,low:=(0:Int),cap:=x.cap,cost:=x.cost:Arc })
abbrev z97:=(True/\(True/\(True/\((0:Int)=0/\((0:Int)=0/\True)))))
def zj4 (c : List Int) (d : List Int) (m : Bool) (ty0 ty1 : TypeId) : Prop :=
   (Bytes c/\(Bytes d/\(c.length <= maxLen/\(d.length <= maxLen))))/\((!m)=true->((false=(z08 c d m).most/\(True/\(True/\((0:Int)=(z08 c d m).s/\((0:Int)=(z08 c d m).t/\True)))))/\True)/\((z0x c d).sup=(z08 c d m).inst.sup/\((z0x c d).arcs=(z08 c d m).inst.arcs/\True)))/\((!m)=false->(decide ((↑(z0x c d).sup.length:Int)<2)=true->((false=(z08 c d m).most/\(True/\(True/\((0:Int)=(z08 c d m).s/\((0:Int)=(z08 c d m).t/\True)))))/\True)/\((z0x c d).sup=(z08 c d m).inst.sup/\((z0x c d).arcs=(z08 c d m).inst.arcs/\True)))/\(decide ((↑(z0x c d).sup.length:Int)<2)=false->((↑(z0x c d).sup.length:Int)=↑(z0x c d).sup.length/\((0:Int) <= ↑(z0x c d).sup.length/\((↑(z0x c d).sup.length:Int) <= 1000000000)))/\∃ (g0:Nat),(g0 <= (z0x c d).arcs.length/\((True/\(0=0/\(0=0/\((↑(z0x c d).sup.length:Int)=↑(z0x c d).sup.length/\((0:Int)=↑g0/\True)))))/\(List.replicate (↑(z0x c d).sup.length:Int).toNat (0:Int)=List.replicate (↑(z0x c d).sup.length:Int).toNat (0:Int)/\((z97)/\((z0x c d).arcs=z7d z70 (z0x c d).arcs g0/\((z97)/\(z79 Int/\(z79 Arc/\(d=d/\True)))))))))/\∀ (g:Nat),g <= (z0x c d).arcs.length->(decide ((↑g:Int)<↑(z7d z70 (z0x c d).arcs g).length)=true->((0:Int) <= ↑g/\((↑g:Int)<↑(z7d z70 (z0x c d).arcs g).length))/\((↑g:Int).toNat<(z7d z70 (z0x c d).arcs g).length/\(∀ (x:Arc),(z7d z70 (z0x c d).arcs g)[(↑g:Int).toNat]? = some x->((0:Int) <= ↑g/\((↑g:Int)<↑(z96 c d g x).length))/\((↑g:Int).toNat<(z96 c d g x).length/\(∀ (x_1:Arc),(z96 c d g x)[(↑g:Int).toNat]? = some x_1->∃ (g':Nat),g' <= (z0x c d).arcs.length/\((z0x c d).arcs.length - g'<(z0x c d).arcs.length - g/\((True/\(0=0/\(0=0/\((↑(z0x c d).sup.length:Int)=↑(z0x c d).sup.length/\(IntKind.i64.wrap ((↑g:Int)+(1:Int))=(↑g':Int)/\True)))))/\(List.replicate (↑(z0x c d).sup.length:Int).toNat (0:Int)=List.replicate (↑(z0x c d).sup.length:Int).toNat (0:Int)/\((z97)/\((z96 c d g x).set (↑g:Int).toNat { src:=x_1.src,dst:=x_1.dst,low:=x_1.low,cap:=x_1.cap,cost:=(0:Int):Arc } = z7d z70 (z0x c d).arcs g'/\((z97)/\(z79 Int/\(z79 Arc/\(d=d/\True))))))))))))))/\(decide ((↑g:Int)<↑(z7d z70 (z0x c d).arcs g).length)=false->((0:Int) <= 0/\((0:Int)<↑d.length))/\(Int.toNat (0:Int)<d.length/\(∀ (x:Int),d[Int.toNat (0:Int)]? = some x->(7:Int) ≠ (0:Int)/\((↑(z0x c d).sup.length:Int) ≠ (0:Int)/\(((0:Int) <= 0/\((0:Int)<↑d.length))/\(Int.toNat (0:Int)<d.length/\(∀ (x_1:Int),d[Int.toNat (0:Int)]? = some x_1->(14:Int) ≠ (0:Int)/\(IntKind.i64.wrap ((↑(z0x c d).sup.length:Int) - (1:Int)) ≠ (0:Int)/\((↑(z0x c d).sup.length:Int) ≠ (0:Int)/\(((true=(z08 c d m).most/\(True/\(True/\((IntKind.i64.wrap (IntKind.u8.wrap (x.tdiv (7:Int)))).tmod (↑(z0x c d).sup.length:Int)=(z08 c d m).s/\((IntKind.i64.wrap (IntKind.i64.wrap ((IntKind.i64.wrap (IntKind.u8.wrap (x.tdiv (7:Int)))).tmod (↑(z0x c d).sup.length:Int)+(1:Int))+(IntKind.i64.wrap (IntKind.u8.wrap (x_1.tdiv (14:Int)))).tmod (IntKind.i64.wrap ((↑(z0x c d).sup.length:Int) - (1:Int))))).tmod (↑(z0x c d).sup.length:Int)=(z08 c d m).t/\True)))))/\True)/\(List.replicate (↑(z0x c d).sup.length:Int).toNat (0:Int)=(z08 c d m).inst.sup/\(z7d z70 (z0x c d).arcs g=(z08 c d m).inst.arcs/\True))))))))))))))
theorem Prob08_q (c:List Int) (d:List Int) (m:Bool) (ty0 ty1:TypeId):zj4 c d m ty0 ty1=z2d TT Prob08_g (Prob08_I c d m) (zj5 c d m) Tryz.f11 [.row 0,.row 1,.bool m] [(0,.row false ty0 (.ints .u8 c)),(1,.row false ty1 (.ints .u8 d))] (Prob08_r c d m):=by kernel_rfl
theorem Prob08_E (c:List Int) (d:List Int) (m:Bool) (ty0 ty1:TypeId) (hp:Bytes c/\Bytes d/\c.length <= maxLen/\d.length <= maxLen):FVc TT Prob08_g (Prob08_I c d m) (zj5 c d m) Tryz.f11 [.row 0,.row 1,.bool m] [(0,.row false ty0 (.ints .u8 c)),(1,.row false ty1 (.ints .u8 d))] (Prob08_r c d m):=by
 refine FVc.of (zj4 c d m ty0 ty1) (Prob08_q c d m ty0 ty1) ?_
 unfold zj4
 delta z97 z96
 have hw:∀ j:Nat,j <= 1000000->IntKind.i64.wrap ((j:Int)+1)=((j+1:Nat):Int):=fun j hj=>by rw [w64 (by omega) (by omega)]; omega
 obtain ⟨p1,p2,p3,p4⟩:=hp
 have l1:=instF_sup c d
 have l2:=nOf_pos d
 have l3:=nOf_le d
 have l4:=instF_arcs c d
 simp only [eq_self,exists_const,forall_const,ne_eq,Int.toNat_natCast,zSS,z06]
 refine ⟨⟨p1,p2,p3,p4⟩,fun hm=>?_,fun hm=>⟨fun hn=>?_,fun hn=>⟨⟨by omega,by omega⟩,0,⟨Nat.zero_le _,rfl,(stepL_zero _ _).symm⟩,fun g hg=>?_⟩⟩⟩
 ·unfold z08; rw [if_neg (fun h=>by rw [hm] at h; cases h.1)]; exact ⟨⟨rfl,rfl,rfl⟩,rfl,rfl⟩
 ·unfold z08; rw [if_neg (fun h=>by have:=h.2; omega)]; exact ⟨⟨rfl,rfl,rfl⟩,rfl,rfl⟩
 have ep:z08 c d m=⟨true,⟨List.replicate (z0x c d).sup.length 0,(z0x c d).arcs.map z70⟩,probS d (z0x c d).sup.length,probT d (z0x c d).sup.length⟩:=if_pos ⟨hm,by omega⟩
 rw [ep]
 simp only [List.length_set,znl]
 refine ⟨fun h1=>⟨⟨by omega,by omega⟩,by omega,fun x hx=>⟨⟨by omega,by omega⟩,by omega,fun y hy=>⟨g+1,by omega,by omega,hw g (by omega),?_⟩⟩⟩,fun h1=>?_⟩
 ·rw [List.getElem?_set_self (by rw [znl]; omega)] at hy
  cases hy
  rw [List.set_set]
  exact stepL_set (stepL_get hx) rfl
 ·have hd0:0<d.length:=by
   refine Classical.byContradiction fun h=>?_
   have:nOf d=1:=by unfold nOf; rw [if_neg h]
   omega
  refine ⟨⟨by omega,by omega⟩,hd0,fun x hx=>⟨by decide,by omega,⟨by omega,by omega⟩,hd0,fun y hy=>?_⟩⟩
  rw [hx] at hy; cases hy
  have hx2:d[0]? = some x:=hx
  have e0:d.getD 0 0=x:=by rw [List.getD_eq_getElem?_getD,hx2]; rfl
  have bx:=p2 x (List.mem_of_getElem? hx2)
  have hn2:2 <= (z0x c d).sup.length:=by omega
  generalize (z0x c d).sup.length=n at *
  have t1:x.tdiv 7=x / 7:=Int.tdiv_eq_ediv_of_nonneg bx.1
  have t2:x.tdiv 14=x / 14:=Int.tdiv_eq_ediv_of_nonneg bx.1
  have w1:IntKind.i64.wrap (IntKind.u8.wrap (x.tdiv 7))=x / 7:=by rw [t1,wu8 (by omega) (by omega),w64 (by omega) (by omega)]
  have w2:IntKind.i64.wrap (IntKind.u8.wrap (x.tdiv 14))=x / 14:=by rw [t2,wu8 (by omega) (by omega),w64 (by omega) (by omega)]
  have w3:IntKind.i64.wrap ((n:Int) - 1)=(n:Int) - 1:=w64 (by omega) (by omega)
  rw [w1,w2,w3]
  have m1:(x / 7).tmod (n:Int)=x / 7 % n:=Int.tmod_eq_emod_of_nonneg (by omega)
  have m2:(x / 14).tmod ((n:Int) - 1)=x / 14 % ((n:Int) - 1):=Int.tmod_eq_emod_of_nonneg (by omega)
  have b1:=Int.emod_nonneg (x / 7) (show (n:Int) ≠ 0 by omega)
  have b2:=Int.emod_lt_of_pos (x / 7) (show (0:Int)<n by omega)
  have b3:=Int.emod_nonneg (x / 14) (show (n:Int) - 1 ≠ 0 by omega)
  have b4:=Int.emod_lt_of_pos (x / 14) (show (0:Int)<(n:Int) - 1 by omega)
  rw [m1,m2,w64 (x:=x / 7 % n+1) (by omega) (by omega),w64 (x:=x / 7 % n+1+_) (by omega) (by omega),Int.tmod_eq_emod_of_nonneg (by omega)]
  unfold probT probS
  rw [e0]
  refine ⟨by decide,by omega,by omega,?_⟩
  rw [stepL_end _ _ (by omega)]; simp
theorem Prob08_ok:SpecOk Tryz.prog Prob08_n true (z02 true zj6) :=
 z0a z0h (show z14 Tryz.prog Prob08_g from z00 Inst_ok (z04)) (by kernel_rfl) mixedOrders Tryz.func11 rfl rfl (by kernel_rfl) (n:=3) (by decide +kernel) (I:=Prob08_IA) (fun _ _=>z07) (A:=Prob08_A)
  (fun args h r hr=>by
   unfold zj6 at hr
   split at hr
   ·rename_i m ty0 c ty1 d; cases hr; refine ⟨rfl,fun hp=>?_⟩; have hE:=Prob08_E c d m ty0 ty1 hp; exact hE
   ·cases hr)
abbrev z7l:=(z6u { most:=true,inst:={ sup:=List.replicate (Int.toNat (3:Int)) (0:Int),arcs:=[{ src:=(0:Int),dst:=(1:Int),low:=(0:Int),cap:=(3:Int),cost:=(0:Int):Arc },{ src:=(1:Int),dst:=(2:Int),low:=(0:Int),cap:=(2:Int),cost:=(0:Int):Arc }]:Inst },s:=(0:Int),t:=(2:Int):ProbD } (z63 { most:=true,inst:={ sup:=List.replicate (Int.toNat (3:Int)) (0:Int),arcs:=[{ src:=(0:Int),dst:=(1:Int),low:=(0:Int),cap:=(3:Int),cost:=(0:Int):Arc },{ src:=(1:Int),dst:=(2:Int),low:=(0:Int),cap:=(2:Int),cost:=(0:Int):Arc }]:Inst },s:=(0:Int),t:=(2:Int):ProbD } { kind:=(1:Int),flow:=[(2:Int),(2:Int),(2:Int)],pot:=[(1:Int),(1:Int),(0:Int)],side:=[],cycle:=[]:Cert }))
abbrev zfu:=(z1t { most:=true,inst:={ sup:=List.replicate (Int.toNat (3:Int)) (0:Int),arcs:=[{ src:=(0:Int),dst:=(1:Int),low:=(0:Int),cap:=(3:Int),cost:=(0:Int):Arc },{ src:=(1:Int),dst:=(2:Int),low:=(0:Int),cap:=(2:Int),cost:=(0:Int):Arc }]:Inst },s:=(0:Int),t:=(2:Int):ProbD } { kind:=(1:Int),flow:=[(2:Int),(2:Int),(2:Int)],pot:=[(1:Int),(1:Int),(0:Int)],side:=[],cycle:=[]:Cert } = false->(false=true/\True)/\True)
abbrev zfv:=(z63 { most:=true,inst:={ sup:=List.replicate (Int.toNat (3:Int)) (0:Int),arcs:=[{ src:=(0:Int),dst:=(1:Int),low:=(0:Int),cap:=(3:Int),cost:=(0:Int):Arc },{ src:=(1:Int),dst:=(2:Int),low:=(0:Int),cap:=(2:Int),cost:=(0:Int):Arc }]:Inst },s:=(0:Int),t:=(2:Int):ProbD } { kind:=(1:Int),flow:=[(2:Int),(2:Int),(2:Int)],pot:=[(1:Int),(1:Int),(0:Int)],side:=[],cycle:=[]:Cert } = [true,true,false])
abbrev zfw:=(z5v { most:=true,inst:={ sup:=List.replicate (Int.toNat (3:Int)) (0:Int),arcs:=[{ src:=(0:Int),dst:=(1:Int),low:=(0:Int),cap:=(3:Int),cost:=(0:Int):Arc },{ src:=(1:Int),dst:=(2:Int),low:=(0:Int),cap:=(2:Int),cost:=(0:Int):Arc }]:Inst },s:=(0:Int),t:=(2:Int):ProbD } { kind:=(1:Int),flow:=[(2:Int),(2:Int),(2:Int)],pot:=[(1:Int),(1:Int),(0:Int)],side:=[],cycle:=[]:Cert } == (2:Int))
abbrev zfx:=(z63 { most:=true,inst:={ sup:=List.replicate (Int.toNat (3:Int)) (0:Int),arcs:=[{ src:=(0:Int),dst:=(1:Int),low:=(0:Int),cap:=(3:Int),cost:=(0:Int):Arc },{ src:=(1:Int),dst:=(2:Int),low:=(0:Int),cap:=(2:Int),cost:=(0:Int):Arc }]:Inst },s:=(0:Int),t:=(2:Int):ProbD } { kind:=(1:Int),flow:=[(2:Int),(2:Int),(2:Int)],pot:=[(1:Int),(1:Int),(0:Int)],side:=[],cycle:=[]:Cert })
def zft : Prop :=
   ((3:Int)=3/\((0:Int) <= 3/\((3:Int) <= 1000000000)))/\z1b { kind:=(1:Int),flow:=[(2:Int),(2:Int),(2:Int)],pot:=[(1:Int),(1:Int),(0:Int)],side:=[],cycle:=[]:Cert }/\z1b { kind:=(1:Int),flow:=[(2:Int),(2:Int),(2:Int)],pot:=[(1:Int),(1:Int),(0:Int)],side:=[],cycle:=[]:Cert }/\(zfx).length <= (1000000:Nat)/\(z1t { most:=true,inst:={ sup:=List.replicate (Int.toNat (3:Int)) (0:Int),arcs:=[{ src:=(0:Int),dst:=(1:Int),low:=(0:Int),cap:=(3:Int),cost:=(0:Int):Arc },{ src:=(1:Int),dst:=(2:Int),low:=(0:Int),cap:=(2:Int),cost:=(0:Int):Arc }]:Inst },s:=(0:Int),t:=(2:Int):ProbD } { kind:=(1:Int),flow:=[(2:Int),(2:Int),(2:Int)],pot:=[(1:Int),(1:Int),(0:Int)],side:=[],cycle:=[]:Cert } = true->((zfw)=true->(z1t { most:=true,inst:={ sup:=List.replicate (Int.toNat (3:Int)) (0:Int),arcs:=[{ src:=(0:Int),dst:=(1:Int),low:=(0:Int),cap:=(3:Int),cost:=(0:Int):Arc },{ src:=(1:Int),dst:=(2:Int),low:=(0:Int),cap:=(2:Int),cost:=(0:Int):Arc }]:Inst },s:=(0:Int),t:=(2:Int):ProbD } { kind:=(1:Int),flow:=[(2:Int),(2:Int),(2:Int)],pot:=[(1:Int),(1:Int),(0:Int)],side:=[],cycle:=[]:Cert } = true->(zfx).length <= (1000000000:Nat)/\(decide (zfv)=true->((z7l).isSome=true->I64 (2:Int)/\((decide ([(z8o (z7l)).hi,(z8o (z7l)).lo]=[(W (2:Int)).hi,(W (2:Int)).lo])=true/\True)/\True))/\((z7l).isSome=false->(false=true/\True)/\True))/\(decide (zfv)=false->(false=true/\True)/\True))/\(zfu))/\((zfw)=false->(false=true/\True)/\True))/\(zfu)
theorem known21_q:zft=z2d TT zlg (known21_I) (known21_an) Tryz.f10 [] [] (zlh):=by kernel_rfl
theorem known21_E (hp:True):FVc TT zlg (known21_I) (known21_an) Tryz.f10 [] [] (zlh):=by
 refine FVc.of (zft) (known21_q) ?_
 unfold zft
 delta zfx zfw zfv zfu z7l
 simp only [eq_self,exists_const,forall_const,ne_eq,Int.toNat_natCast,zSS,z06]
 obtain ⟨k1,k2,k3,k4⟩:=known_is
 have e:(⟨true,⟨List.replicate (Int.toNat 3) 0,[⟨0,1,0,3,0⟩,⟨1,2,0,2,0⟩]⟩,0,2⟩:ProbD)=knownP:=rfl
 have e2:(⟨1,[2,2,2],[1,1,0],[],[]⟩:Cert)=zli:=rfl
 have ok:z1b zli:=⟨fun y hy=>by unfold zli at hy; simp at hy; unfold I64; omega,fun y hy=>by unfold zli at hy; simp at hy; unfold I64; omega,by decide,by decide,by decide,by decide⟩
 simp only [e,e2,k1,k2,k3,k4]
 simp [ok,z8o,I64]
theorem known21_ok:SpecOk Tryz.prog known21_n true (z02 true zfy) :=
 z0a z0h (show z14 Tryz.prog zlg from z00 Value21_ok (z00 Side21_ok (z00 Weight21_ok (z00 Bools_ok (z00 zhk (z04)))))) (by kernel_rfl) mixedOrders Tryz.func10 rfl rfl (by kernel_rfl) (n:=0) (by decide +kernel) (I:=known21_IA) (fun _ _=>z07) (A:=known21_A)
  (fun args h r hr=>by
   unfold zfy at hr
   split at hr
   ·cases hr; refine ⟨rfl,fun hp=>?_⟩; have hE:=known21_E  hp; exact hE
   ·cases hr)
abbrev zed:Nat:=113
def some64_g:z0c:=[]
def z6r:Vc.Spec:=z2c TT some64_g (fun _ _ _=>[]) Tryz.f113
abbrev zgq:Nat:=110
def someS_g:z0c:=[]
def z67:Vc.Spec:=z2c TT someS_g (fun _ _ _=>[]) Tryz.f110
abbrev zgp:Nat:=111
def someI_g:z0c:=[]
def z66:Vc.Spec:=z2c TT someI_g (fun _ _ _=>[]) Tryz.f111
def everyw_r (n:Int):FRes:={ pre:=True,res:=.bool (true),rows:=[],eff:=[] }
def z9h:FS:=fun args h=>match args,h with
 | [.int .i64 n],[]=>some (everyw_r n)
 | _,_=>none
def everyw_an (n:Int):List (Nat × Ann):=[]
def everyw_A:List SV->z0e->List (Nat × Ann):=fun _ _=>[]
def everyw_g:z0c:=[]
abbrev zhu:Nat:=86
def everyw_I (n:Int):List (Nat × z09):=[]
def everyw_IA:List SV->z0e->List (Nat × z09):=fun _ _=>[]
def ends_r (w:Inst) (w_x:List Int) (w_o:List Int) (w_t:Ql.Rows3) (w_v:List Value) (s:Int) (s_b:Bool):FRes:={ pre:=z1o w s,res:=.tup [.int .i64 (frS w (s.toNat,s_b)),.int .i64 (toS w (s.toNat,s_b))],rows:=[],eff:=[] }
def z6i:FS:=fun args h=>match args,h with
 | [.ptr 0 0 0 0,.agg [.int .i64 s,.bool s_b]],[(0,.box false 88 [.row 1,.row 2,.row 3,.row 4,.row 5]),(1,.row false ty1 (.ints .i64 w_s)),(2,.row false ty2 (.arcs w_a)),(3,.row false ty3 (.ints .i64 w_x)),(4,.row false ty4 (.ints .i64 w_o)),(5,.deep false ty5 tz5 (.recs (.int .i64) [.bool] w_t) w_v none)]=>some (ends_r ⟨w_s,w_a⟩ w_x w_o w_t w_v s s_b)
 | _,_=>none
def ends_an (w:Inst) (w_x:List Int) (w_o:List Int) (w_t:Ql.Rows3) (w_v:List Value) (s:Int) (s_b:Bool):List (Nat × Ann):=[]
def ends_A:List SV->z0e->List (Nat × Ann):=fun _ _=>[]
def ends_g:z0c:=[]
abbrev zbb:Nat:=88
def ends_I (w:Inst) (w_x:List Int) (w_o:List Int) (w_t:Ql.Rows3) (w_v:List Value) (s:Int) (s_b:Bool):List (Nat × z09):=[]
def ends_IA:List SV->z0e->List (Nat × z09):=fun _ _=>[]
def cost20_r (w:Inst) (w_x:List Int) (w_o:List Int) (w_t:Ql.Rows3) (w_v:List Value) (s:Int) (s_b:Bool):FRes:={ pre:=z1o w s,res:=.int .i64 (csS w (s.toNat,s_b)),rows:=[],eff:=[] }
def z6f:FS:=fun args h=>match args,h with
 | [.ptr 0 0 0 0,.agg [.int .i64 s,.bool s_b]],[(0,.box false 88 [.row 1,.row 2,.row 3,.row 4,.row 5]),(1,.row false ty1 (.ints .i64 w_s)),(2,.row false ty2 (.arcs w_a)),(3,.row false ty3 (.ints .i64 w_x)),(4,.row false ty4 (.ints .i64 w_o)),(5,.deep false ty5 tz5 (.recs (.int .i64) [.bool] w_t) w_v none)]=>some (cost20_r ⟨w_s,w_a⟩ w_x w_o w_t w_v s s_b)
 | _,_=>none
def cost20_an (w:Inst) (w_x:List Int) (w_o:List Int) (w_t:Ql.Rows3) (w_v:List Value) (s:Int) (s_b:Bool):List (Nat × Ann):=[]
def cost20_A:List SV->z0e->List (Nat × Ann):=fun _ _=>[]
def cost20_g:z0c:=[]
abbrev zak:Nat:=114
def cost20_I (w:Inst) (w_x:List Int) (w_o:List Int) (w_t:Ql.Rows3) (w_v:List Value) (s:Int) (s_b:Bool):List (Nat × z09):=[]
def cost20_IA:List SV->z0e->List (Nat × z09):=fun _ _=>[]
def room20_r (w:Inst) (w_x:List Int) (w_o:List Int) (w_t:Ql.Rows3) (w_v:List Value) (s:Int) (s_b:Bool):FRes:={ pre:=z1o w s/\w_x.length=w.arcs.length/\XB w_x,res:=.int .i64 (rmS w w_x (s.toNat,s_b)),rows:=[],eff:=[] }
def z6p:FS:=fun args h=>match args,h with
 | [.ptr 0 0 0 0,.agg [.int .i64 s,.bool s_b]],[(0,.box false 88 [.row 1,.row 2,.row 3,.row 4,.row 5]),(1,.row false ty1 (.ints .i64 w_s)),(2,.row false ty2 (.arcs w_a)),(3,.row false ty3 (.ints .i64 w_x)),(4,.row false ty4 (.ints .i64 w_o)),(5,.deep false ty5 tz5 (.recs (.int .i64) [.bool] w_t) w_v none)]=>some (room20_r ⟨w_s,w_a⟩ w_x w_o w_t w_v s s_b)
 | _,_=>none
def room20_an (w:Inst) (w_x:List Int) (w_o:List Int) (w_t:Ql.Rows3) (w_v:List Value) (s:Int) (s_b:Bool):List (Nat × Ann):=[]
def room20_A:List SV->z0e->List (Nat × Ann):=fun _ _=>[]
def room20_g:z0c:=[]
abbrev zau:Nat:=93
def room20_I (w:Inst) (w_x:List Int) (w_o:List Int) (w_t:Ql.Rows3) (w_v:List Value) (s:Int) (s_b:Bool):List (Nat × z09):=[]
def room20_IA:List SV->z0e->List (Nat × z09):=fun _ _=>[]
def endl20_r (w:Inst) (w_x:List Int) (w_o:List Int) (w_t:Ql.Rows3) (w_v:List Value) (s:Int) (s_b:Bool):FRes:={ pre:=z1o w s,res:=.bool (Ql.endS w (s.toNat,s_b)),rows:=[],eff:=[] }
def zd3:FS:=fun args h=>match args,h with
 | [.ptr 0 0 0 0,.agg [.int .i64 s,.bool s_b]],[(0,.box false 88 [.row 1,.row 2,.row 3,.row 4,.row 5]),(1,.row false ty1 (.ints .i64 w_s)),(2,.row false ty2 (.arcs w_a)),(3,.row false ty3 (.ints .i64 w_x)),(4,.row false ty4 (.ints .i64 w_o)),(5,.deep false ty5 tz5 (.recs (.int .i64) [.bool] w_t) w_v none)]=>some (endl20_r ⟨w_s,w_a⟩ w_x w_o w_t w_v s s_b)
 | _,_=>none
def endl20_an (w:Inst) (w_x:List Int) (w_o:List Int) (w_t:Ql.Rows3) (w_v:List Value) (s:Int) (s_b:Bool):List (Nat × Ann):=[]
def endl20_A:List SV->z0e->List (Nat × Ann):=fun _ _=>[]
def endl20_g:z0c:=[]
abbrev endl20_n:Nat:=87
def endl20_I (w:Inst) (w_x:List Int) (w_o:List Int) (w_t:Ql.Rows3) (w_v:List Value) (s:Int) (s_b:Bool):List (Nat × z09):=[]
def endl20_IA:List SV->z0e->List (Nat × z09):=fun _ _=>[]
def zmk (s:Int) (s_b:Bool) (w:Inst) (w_x:List Int) (w_o:List Int) (w_t:Ql.Rows3) (w_v:List Value) (w_l:Int):FRes:={ pre:=z1o w s/\w_x.length=w.arcs.length/\XB w_x,res:=.bool (decide (w_l <= rmS w w_x (s.toNat,s_b))),rows:=[],eff:=[] }
def zav:FS:=fun args h=>match args,h with
 | [.agg [.int .i64 s,.bool s_b],.ptr 0 0 0 0,.ptr 7 0 0 0],[(0,.box false 81 [.ptr 1 0 0 0]),(1,.box false 88 [.row 2,.row 3,.row 4,.row 5,.row 6]),(2,.row false ty2 (.ints .i64 w_s)),(3,.row false ty3 (.arcs w_a)),(4,.row false ty4 (.ints .i64 w_x)),(5,.row false ty5 (.ints .i64 w_o)),(6,.deep false ty6 tz6 (.recs (.int .i64) [.bool] w_t) w_v none),(7,.box false 2 [.int .i64 w_l])]=>some (zmk s s_b ⟨w_s,w_a⟩ w_x w_o w_t w_v w_l)
 | _,_=>none
def roomy20_an (s:Int) (s_b:Bool) (w:Inst) (w_x:List Int) (w_o:List Int) (w_t:Ql.Rows3) (w_v:List Value) (w_l:Int):List (Nat × Ann):=[]
def roomy20_A:List SV->z0e->List (Nat × Ann):=fun _ _=>[]
def zmi:z0c:=[(zau,(true,z02 true z6p))]
abbrev zmj:Nat:=92
def roomy20_I (s:Int) (s_b:Bool) (w:Inst) (w_x:List Int) (w_o:List Int) (w_t:Ql.Rows3) (w_v:List Value) (w_l:Int):List (Nat × z09):=[]
def roomy20_IA:List SV->z0e->List (Nat × z09):=fun _ _=>[]
def posi20_r (s:Int) (s_b:Bool) (w:Inst) (w_x:List Int) (w_o:List Int) (w_t:Ql.Rows3) (w_v:List Value):FRes:={ pre:=z1o w s/\w_x.length=w.arcs.length/\XB w_x,res:=.bool (Ql.endS w (s.toNat,s_b) || decide (0<rmS w w_x (s.toNat,s_b))),rows:=[],eff:=[] }
def zm3:FS:=fun args h=>match args,h with
 | [.agg [.int .i64 s,.bool s_b],.ptr 0 0 0 0],[(0,.box false 81 [.ptr 1 0 0 0]),(1,.box false 88 [.row 2,.row 3,.row 4,.row 5,.row 6]),(2,.row false ty2 (.ints .i64 w_s)),(3,.row false ty3 (.arcs w_a)),(4,.row false ty4 (.ints .i64 w_x)),(5,.row false ty5 (.ints .i64 w_o)),(6,.deep false ty6 tz6 (.recs (.int .i64) [.bool] w_t) w_v none)]=>some (posi20_r s s_b ⟨w_s,w_a⟩ w_x w_o w_t w_v)
 | _,_=>none
def posi20_an (s:Int) (s_b:Bool) (w:Inst) (w_x:List Int) (w_o:List Int) (w_t:Ql.Rows3) (w_v:List Value):List (Nat × Ann):=[]
def posi20_A:List SV->z0e->List (Nat × Ann):=fun _ _=>[]
def posi20_g:z0c:=[(zau,(true,z02 true z6p)),(endl20_n,(true,z02 true zd3))]
abbrev posi20_n:Nat:=95
def posi20_I (s:Int) (s_b:Bool) (w:Inst) (w_x:List Int) (w_o:List Int) (w_t:Ql.Rows3) (w_v:List Value):List (Nat × z09):=[]
def posi20_IA:List SV->z0e->List (Nat × z09):=fun _ _=>[]
def over20_r (n:Int) (w:Inst) (w_x:List Int) (w_o:List Int) (w_t:Ql.Rows3) (w_v:List Value) (w_l:Int):FRes:={ pre:=0 <= n/\n<w_o.length,res:=.bool (decide (w_l <= w_o.getD n.toNat 0)),rows:=[],eff:=[] }
def zlz:FS:=fun args h=>match args,h with
 | [.int .i64 n,.ptr 0 0 0 0,.ptr 7 0 0 0],[(0,.box false 81 [.ptr 1 0 0 0]),(1,.box false 88 [.row 2,.row 3,.row 4,.row 5,.row 6]),(2,.row false ty2 (.ints .i64 w_s)),(3,.row false ty3 (.arcs w_a)),(4,.row false ty4 (.ints .i64 w_x)),(5,.row false ty5 (.ints .i64 w_o)),(6,.deep false ty6 tz6 (.recs (.int .i64) [.bool] w_t) w_v none),(7,.box false 2 [.int .i64 w_l])]=>some (over20_r n ⟨w_s,w_a⟩ w_x w_o w_t w_v w_l)
 | _,_=>none
def over20_an (n:Int) (w:Inst) (w_x:List Int) (w_o:List Int) (w_t:Ql.Rows3) (w_v:List Value) (w_l:Int):List (Nat × Ann):=[]
def over20_A:List SV->z0e->List (Nat × Ann):=fun _ _=>[]
def over20_g:z0c:=[]
abbrev over20_n:Nat:=115
def over20_I (n:Int) (w:Inst) (w_x:List Int) (w_o:List Int) (w_t:Ql.Rows3) (w_v:List Value) (w_l:Int):List (Nat × z09):=[]
def over20_IA:List SV->z0e->List (Nat × z09):=fun _ _=>[]
def push20_r (w:Inst) (w_x:List Int) (w_o:List Int) (w_t:Ql.Rows3) (w_v:List Value) (s:Int) (s_b:Bool) (n:Int):FRes:={ pre:=z1o w s/\w_x.length=w.arcs.length/\w_o.length=w.sup.length/\XB w_x/\XB w_o/\-1152921504606846976 <= n/\n <= 1152921504606846976,res:=.tup [],rows:=[],eff:=[(0,.box true 88 [.row 1,.row 2,.row 3,.row 4,.row 5]),(3,.row true 2 (.ints .i64 (z4w w_x (s.toNat,s_b) n))),(4,.row true 2 (.ints .i64 (z6x w w_o (s.toNat,s_b) n))),(5,.deep true 117 113 (.recs (.int .i64) [.bool] w_t) w_v none)] }
def z9t:FS:=fun args h=>match args,h with
 | [.ptr 0 0 0 0,.agg [.int .i64 s,.bool s_b],.int .i64 n],[(0,.box true 88 [.row 1,.row 2,.row 3,.row 4,.row 5]),(1,.row false ty1 (.ints .i64 w_s)),(2,.row false ty2 (.arcs w_a)),(3,.row true 2 (.ints .i64 w_x)),(4,.row true 2 (.ints .i64 w_o)),(5,.deep true 117 113 (.recs (.int .i64) [.bool] w_t) w_v none)]=>some (push20_r ⟨w_s,w_a⟩ w_x w_o w_t w_v s s_b n)
 | _,_=>none
def push20_an (w:Inst) (w_x:List Int) (w_o:List Int) (w_t:Ql.Rows3) (w_v:List Value) (s:Int) (s_b:Bool) (n:Int):List (Nat × Ann):=[]
def push20_A:List SV->z0e->List (Nat × Ann):=fun _ _=>[]
def push20_g:z0c:=[(zbb,(true,z02 true z6i))]
abbrev zi4:Nat:=78
def push20_I (w:Inst) (w_x:List Int) (w_o:List Int) (w_t:Ql.Rows3) (w_v:List Value) (s:Int) (s_b:Bool) (n:Int):List (Nat × z09):=[]
def push20_IA:List SV->z0e->List (Nat × z09):=fun _ _=>[]
end Go.Proofs.YtapeenpimcffpaaGreat
end
