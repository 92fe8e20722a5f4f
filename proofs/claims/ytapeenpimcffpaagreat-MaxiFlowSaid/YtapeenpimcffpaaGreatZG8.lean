/- Part of the proof: FC10, Price, DP11, Law11, FP11, DQ11, FQ11, Ray, DR12. -/
import Derived.Test.YtapeenpimcffpaaGreatZG7
import Derived.Test.YtapeenpimcffpaaGreatZG5
import Derived.Test.YtapeenpimcffpaaGreatZG6
set_option linter.unusedVariables false
set_option linter.all false
set_option linter.unusedSimpArgs false
set_option maxRecDepth 1000000
section
namespace Go.Proofs.YtapeenpimcffpaaGreat
open Go Go.RowKit Go.Ql Go.Vc
def on_E0 (side : List Bool) (n : Int) (ty0 : TypeId) : Prop :=
      (decide (n ≥ (0:Int))=true ->
 (decide (n<(↑side.length:Int))=true ->
 ((0:Int) <= n/\n<(↑side.length:Int))/\n.toNat<side.length/\∀ (x:Bool),side[n.toNat]? = some x->(x=onF side n/\True)/\True) /\
 (decide (n<(↑side.length:Int))=false->(false=onF side n/\True)/\True)) /\
 (decide (n ≥ (0:Int))=false->(false=onF side n/\True)/\True)
theorem on_q (side:List Bool) (n:Int) (ty0:TypeId):on_E0 side n ty0=z2d TT on_g (on_I side n) (on_an side n) Tryz.f160 [.row 0,.int .i64 n] [(0,.row false ty0 (.bools side))] (on_r side n):=by kernel_rfl
theorem on_E (side:List Bool) (n:Int) (ty0:TypeId) (hp:True):FVc TT on_g (on_I side n) (on_an side n) Tryz.f160 [.row 0,.int .i64 n] [(0,.row false ty0 (.bools side))] (on_r side n):=by
 refine FVc.of (on_E0 side n ty0) (on_q side n ty0) ?_
 unfold on_E0
 simp only [eq_self,exists_const,forall_const,ne_eq,Int.toNat_natCast,zSS,z06]
 refine ⟨fun h=>⟨fun h2=>⟨by omega,by omega,fun x hx=>?_⟩,fun h2=>?_⟩,fun h=>?_⟩
 ·unfold onF; simp [List.getD,hx]; omega
 ·unfold onF; simp [List.getD,List.getElem?_eq_none (show side.length <= n.toNat by omega)]
 ·unfold onF; simp; omega
theorem on_ok:SpecOk Tryz.prog on_n true (z02 true on_fs) :=
 z0a z0h (show z14 Tryz.prog on_g from z04) (by kernel_rfl) mixedOrders Tryz.func160 rfl rfl (by kernel_rfl) (n:=2) (by decide +kernel) (I:=on_IA) (fun _ _=>z07) (A:=on_A)
  (fun args h r hr=>by
   unfold on_fs at hr
   split at hr
   ·rename_i n ty0 side; cases hr; refine ⟨rfl,fun hp=>?_⟩; have hE:=on_E side n ty0 hp; exact hE
   ·cases hr)
def over1_E0 (n : Int) (I : Inst) (ty1 ty2 : TypeId) : Prop :=
      (decide (n ≥ (0:Int))=true->(decide (n<(↑I.sup.length:Int))=isN (↑I.sup.length:Int) n/\True)/\True) /\
 (decide (n ≥ (0:Int))=false->(false=isN (↑I.sup.length:Int) n/\True)/\True)
theorem over1_q (n:Int) (I:Inst) (ty1 ty2:TypeId):over1_E0 n I ty1 ty2=z2d TT over1_g (over1_I n I) (over1_an n I) Tryz.f173 [.int .i64 n,.ptr 0 0 0 0] [(0,.box false 25 [.row 1,.row 2]),(1,.row false ty1 (.ints .i64 I.sup)),(2,.row false ty2 (.arcs I.arcs))] (over1_r n I):=by kernel_rfl
theorem over1_E (n:Int) (I:Inst) (ty1 ty2:TypeId) (hp:True):FVc TT over1_g (over1_I n I) (over1_an n I) Tryz.f173 [.int .i64 n,.ptr 0 0 0 0] [(0,.box false 25 [.row 1,.row 2]),(1,.row false ty1 (.ints .i64 I.sup)),(2,.row false ty2 (.arcs I.arcs))] (over1_r n I):=by
 refine FVc.of (over1_E0 n I ty1 ty2) (over1_q n I ty1 ty2) ?_
 unfold over1_E0
 simp only [eq_self,exists_const,forall_const,ne_eq,Int.toNat_natCast,zSS,z06]
 refine ⟨fun h=>?_,fun h=>?_⟩
 ·unfold isN; simp [show 0 <= n by omega]
 ·unfold isN; simp [show ¬ 0 <= n by omega]
theorem over1_ok:SpecOk Tryz.prog over1_n true (z02 true over1_fs) :=
 z0a z0h (show z14 Tryz.prog over1_g from z04) (by kernel_rfl) mixedOrders Tryz.func173 rfl rfl (by kernel_rfl) (n:=2) (by decide +kernel) (I:=over1_IA) (fun _ _=>z07) (A:=over1_A)
  (fun args h r hr=>by
   unfold over1_fs at hr
   split at hr
   ·rename_i n ty1 I_s ty2 I_a; cases hr; refine ⟨rfl,fun hp=>?_⟩; have hE:=over1_E n ⟨I_s,I_a⟩ ty1 ty2 hp; exact hE
   ·cases hr)
theorem over_ok:SpecOk Tryz.prog over_n false over_spec :=
 z4j z0h (show z14 Tryz.prog over_g from z04) (by kernel_rfl) mixedOrders Tryz.func159 rfl rfl (by kernel_rfl) _
abbrev zhr (I:Inst) (g':Nat × Int) (g:Nat × Int) (R:Loop->Prop) (side:List Bool):=(I.arcs.length - g'.fst<I.arcs.length - g.fst/\((True/\(0=0/\(0=0/\(0=0/\(True/\((↑I.arcs.length:Int)=↑I.arcs.length/\(IntKind.i64.wrap ((↑g.fst:Int)+(1:Int))=(↑g'.fst:Int)/\True)))))))/\(R=R/\(((0=0/\True)/\True)/\((True/\True)/\((True/\(True/\True))/\(((W g.snd).hi=(W g'.snd).hi/\((W g.snd).lo=(W g'.snd).lo/\True))/\((True/\True)/\(((0:Int)=0/\((0:Int)=0/\True))/\((True/\(True/\True))/\(I.sup=I.sup/\(I.arcs=I.arcs/\(side=side/\True)))))))))))))
abbrev CRoom_a1 (x:Arc) (g:Nat × Int) (I:Inst) (side:List Bool) (R:Loop->Prop):=((x.cap == (4611686018427387904:Int))=false->I64 x.cap/\(((W g.snd).ok/\((W x.cap).ok))/\(∃ (g':Nat × Int),(g'.fst <= I.arcs.length/\(z11 (↑I.sup.length:Int) side (List.drop g'.fst I.arcs) g'.snd=z36 I side))/\(I.arcs.length - g'.fst<I.arcs.length - g.fst/\((True/\(0=0/\(0=0/\(0=0/\(True/\((↑I.arcs.length:Int)=↑I.arcs.length/\(IntKind.i64.wrap ((↑g.fst:Int)+(1:Int))=(↑g'.fst:Int)/\True)))))))/\(R=R/\(((0=0/\True)/\True)/\((True/\True)/\((True/\(True/\True))/\(((z7z (W g.snd) (W x.cap)).hi=(W g'.snd).hi/\((z7z (W g.snd) (W x.cap)).lo=(W g'.snd).lo/\True))/\((True/\True)/\(((0:Int)=0/\((0:Int)=0/\True))/\((True/\(True/\True))/\(I.sup=I.sup/\(I.arcs=I.arcs/\(side=side/\True))))))))))))))))
abbrev CRoom_a2 (g:Nat × Int) (x:Arc) (I:Inst) (side:List Bool) (R:Loop->Prop):=(((W g.snd).ok/\((W x.low).ok))/\(∃ (g':Nat × Int),(g'.fst <= I.arcs.length/\(z11 (↑I.sup.length:Int) side (List.drop g'.fst I.arcs) g'.snd=z36 I side))/\(I.arcs.length - g'.fst<I.arcs.length - g.fst/\((True/\(0=0/\(0=0/\(0=0/\(True/\((↑I.arcs.length:Int)=↑I.arcs.length/\(IntKind.i64.wrap ((↑g.fst:Int)+(1:Int))=(↑g'.fst:Int)/\True)))))))/\(R=R/\(((0=0/\True)/\True)/\((True/\True)/\((True/\(True/\True))/\(((z5z (W g.snd) (W x.low)).hi=(W g'.snd).hi/\((z5z (W g.snd) (W x.low)).lo=(W g'.snd).lo/\True))/\((True/\True)/\(((0:Int)=0/\((0:Int)=0/\True))/\((True/\(True/\True))/\(I.sup=I.sup/\(I.arcs=I.arcs/\(side=side/\True)))))))))))))))
abbrev CRoom_a3 (x:Arc) (I:Inst) (side:List Bool):=((x.cap == (4611686018427387904:Int))=true->((((0:Int)=(z8o (z36 I side)).hi/\((0:Int)=(z8o (z36 I side)).lo/\True))/\(false=(z36 I side).isSome/\True))/\True)/\True)
abbrev zhs (g':Nat × Int) (I:Inst) (side:List Bool):=(g'.fst <= I.arcs.length/\(z11 (↑I.sup.length:Int) side (List.drop g'.fst I.arcs) g'.snd=z36 I side))
def CRoom_E0 (I : Inst) (side : List Bool) (ty0 ty1 ty2 : TypeId) : Prop :=
   ∀ (R:Loop->Prop),∃ (g0:Nat × Int),((g0.fst <= I.arcs.length/\(z11 (↑I.sup.length:Int) side (List.drop g0.fst I.arcs) g0.snd=z36 I side))/\((True/\(0=0/\(0=0/\(0=0/\(True/\((↑I.arcs.length:Int)=↑I.arcs.length/\((0:Int)=↑g0.fst/\True)))))))/\(R=R/\(((0=0/\True)/\True)/\((True/\True)/\((True/\(True/\True))/\(((0:Int)=(W g0.snd).hi/\((0:Int)=(W g0.snd).lo/\True))/\((True/\True)/\(((0:Int)=0/\((0:Int)=0/\True))/\((True/\(True/\True))/\(I.sup=I.sup/\(I.arcs=I.arcs/\(side=side/\True)))))))))))))/\∀ (g:Nat × Int),g.fst <= I.arcs.length/\z11 (↑I.sup.length:Int) side (List.drop g.fst I.arcs) g.snd=z36 I side->(decide ((↑g.fst:Int)<↑I.arcs.length)=true->((0:Int) <= ↑g.fst/\((↑g.fst:Int)<↑I.arcs.length))/\(↑g.fst:Int).toNat<I.arcs.length/\∀ (x:Arc),I.arcs[(↑g.fst:Int).toNat]? = some x->True/\((!isN (↑I.sup.length:Int) x.src)=true->∃ (g':Nat × Int),(zhs g' I side)/\(zhr I g' g R side))/\((!isN (↑I.sup.length:Int) x.src)=false->True/\((!isN (↑I.sup.length:Int) x.dst)=true->∃ (g':Nat × Int),(zhs g' I side)/\(zhr I g' g R side))/\((!isN (↑I.sup.length:Int) x.dst)=false->True/\True/\((onF side x.src == onF side x.dst)=true->∃ (g':Nat × Int),(zhs g' I side)/\(zhr I g' g R side))/\((onF side x.src == onF side x.dst)=false->True/\(onF side x.src=true->R=R/\((((1:Int) == (-1:Int))=true->I64 x.low/\(CRoom_a2 g x I side R))/\(((1:Int) == (-1:Int))=false->(CRoom_a3 x I side)/\(CRoom_a1 x g I side R))))/\(onF side x.src=false->R=R/\((((-1:Int) == (-1:Int))=true->I64 x.low/\(CRoom_a2 g x I side R))/\(((-1:Int) == (-1:Int))=false->(CRoom_a3 x I side)/\(CRoom_a1 x g I side R))))))))/\(decide ((↑g.fst:Int)<↑I.arcs.length)=false->((((W g.snd).hi=(z8o (z36 I side)).hi/\((W g.snd).lo=(z8o (z36 I side)).lo/\True))/\(true=(z36 I side).isSome/\True))/\True)/\True)
theorem CRoom_q (I:Inst) (side:List Bool) (ty0 ty1 ty2:TypeId):CRoom_E0 I side ty0 ty1 ty2=z2d TT CRoom_g (CRoom_I I side) (CRoom_an I side) Tryz.f145 [.agg [.row 0,.row 1],.row 2] [(0,.row false ty0 (.ints .i64 I.sup)),(1,.row false ty1 (.arcs I.arcs)),(2,.row false ty2 (.bools side))] (CRoom_r I side):=by kernel_rfl
theorem CRoom_E (I:Inst) (side:List Bool) (ty0 ty1 ty2:TypeId) (hp:A64a I.arcs/\I.arcs.length <= 140737488351232):FVc TT CRoom_g (CRoom_I I side) (CRoom_an I side) Tryz.f145 [.agg [.row 0,.row 1],.row 2] [(0,.row false ty0 (.ints .i64 I.sup)),(1,.row false ty1 (.arcs I.arcs)),(2,.row false ty2 (.bools side))] (CRoom_r I side):=by
 refine FVc.of (CRoom_E0 I side ty0 ty1 ty2) (CRoom_q I side ty0 ty1 ty2) ?_
 unfold CRoom_E0
 delta zhs CRoom_a3 CRoom_a2 CRoom_a1 zhr
 obtain ⟨p1,p2⟩:=hp
 simp only [eq_self,exists_const,forall_const,ne_eq,Int.toNat_natCast,zSS,z06]
 refine ⟨(0,0),⟨⟨Nat.zero_le _,rfl⟩,rfl,by decide,by decide⟩,fun g hg=>⟨fun h1=>⟨by omega,by omega,fun x hx=>?_⟩,fun h1=>?_⟩⟩
 ·obtain ⟨g1,g2⟩:=hg
  rw [z47 hx,z3h] at g2
  have hm:=p1 x (List.mem_of_getElem? hx)
  have wk:IntKind.i64.wrap ((g.1:Int)+1)=((g.1+1:Nat):Int):=by rw [w64 (by omega) (by omega)]; omega
  refine ⟨fun h2=>⟨(g.1+1,g.2),⟨by dsimp only; omega,?_⟩,by dsimp only; omega,wk,rfl,rfl⟩,fun h2=>⟨fun h3=>⟨(g.1+1,g.2),⟨by dsimp only; omega,?_⟩,by dsimp only; omega,wk,rfl,rfl⟩,
   fun h3=>⟨fun h4=>⟨(g.1+1,g.2),⟨by dsimp only; omega,?_⟩,by dsimp only; omega,wk,rfl,rfl⟩,fun h4=>⟨fun h5=>⟨fun h=>by omega,fun _=>⟨fun h6=>?_,fun h6=>⟨hm.2,⟨zf1 _,zf1 _⟩,(g.1+1,g.2+x.cap),⟨by dsimp only; omega,?_⟩,by dsimp only; omega,wk,by rw [za8],by rw [za8]⟩⟩⟩,
    fun h5=>⟨⟨hm.1,⟨zf1 _,zf1 _⟩,(g.1+1,g.2 - x.low),⟨by dsimp only; omega,?_⟩,by dsimp only; omega,wk,by rw [zb1],by rw [zb1]⟩,fun h=>absurd trivial h⟩⟩⟩⟩⟩
  ·simpa [zca,inA,h2] using g2
  ·simpa [zca,inA,h2,h3] using g2
  ·simpa [zca,inA,h2,h3,h4] using g2
  ·have h7:onF side x.dst=false:=by cases h:onF side x.dst <;> simp_all
   have:z36 I side=none:=by rw [<- g2]; simp [zca,h2,h3,h5,h7,inf,h6]
   rw [this]
   exact ⟨⟨rfl,rfl⟩,rfl⟩
  ·have h7:onF side x.dst=false:=by cases h:onF side x.dst <;> simp_all
   simpa [zca,inA,h2,h3,h5,h7,inf,h6] using g2
  ·have h7:onF side x.dst=true:=by cases h:onF side x.dst <;> simp_all
   simpa [zca,inA,h2,h3,h5,h7] using g2
 ·obtain ⟨g1,g2⟩:=hg
  rw [zam (by omega)] at g2
  rw [<- g2]
  exact ⟨⟨rfl,rfl⟩,rfl⟩
theorem CRoom_i0_ok (I:Inst) (side:List Bool):zbk Tryz.prog 174 (CRoom_i0 I side) :=
 inlI_ok z0h (show z14 Tryz.prog CRoom_i0g from z00 over1_ok (z00 on_ok (z04))) (by kernel_rfl) mixedOrders Tryz.func174 rfl rfl (fun key spec=>by kernel_rfl) _
theorem CRoom_ok:SpecOk Tryz.prog CRoom_n true (z02 true CRoom_fs) :=
 z0a z0h (show z14 Tryz.prog CRoom_g from z00 over_ok (z00 zcw (z00 zhk (z00 zbv (z04))))) (by kernel_rfl) mixedOrders Tryz.func145 rfl rfl (by kernel_rfl) (n:=2) (by decide +kernel) (I:=CRoom_IA) (fun args h=>by
   unfold CRoom_IA
   split
   ·exact zdb (CRoom_i0_ok _ _) (z07)
   ·exact z07) (A:=CRoom_A)
  (fun args h r hr=>by
   unfold CRoom_fs at hr
   split at hr
   ·rename_i ty0 I_s ty1 I_a ty2 side; cases hr; refine ⟨rfl,fun hp=>?_⟩; have hE:=CRoom_E ⟨I_s,I_a⟩ side ty0 ty1 ty2 hp; exact hE
   ·cases hr)
def Need_E0 (I : Inst) (side : List Bool) (ty0 ty1 ty2 : TypeId) : Prop :=
      ∃ (g0:Nat),
 (g0 <= I.sup.length /\
 (True/\(0:Nat)=(0:Nat)/\(0:Nat)=(0:Nat)/\True/\(↑I.sup.length:Int)=(↑I.sup.length:Int)/\(0:Int)=(↑g0:Int)/\True) /\
 ((0:Int)=(W (z5q side I.sup g0)).hi/\(0:Int)=(W (z5q side I.sup g0)).lo/\True) /\
 ((0:Int)=(0:Int)/\(0:Int)=(0:Int)/\True)/\I.sup=I.sup/\side=side/\True) /\
 ∀ (g:Nat),
 g <= I.sup.length ->
 (decide ((↑g:Int)<(↑I.sup.length:Int))=true ->
 ((0:Int) <= (↑g:Int)/\(↑g:Int)<(↑I.sup.length:Int)) /\
 (↑g:Int).toNat<I.sup.length /\
 ∀ (x:Int),
 I.sup[(↑g:Int).toNat]? = some x ->
 True /\
 (onF side (↑g:Int)=true ->
 I64 x /\
 ((W (z5q side I.sup g)).ok/\(W x).ok) /\
 ∃ (g':Nat),
 g' <= I.sup.length /\
 I.sup.length - g'<I.sup.length - g /\
 (True /\
 (0:Nat)=(0:Nat) /\
 (0:Nat)=(0:Nat) /\
 True/\(↑I.sup.length:Int)=(↑I.sup.length:Int)/\IntKind.i64.wrap ((↑g:Int)+(1:Int))=(↑g':Int)/\True) /\
 ((z7z (W (z5q side I.sup g)) (W x)).hi=(W (z5q side I.sup g')).hi /\
 (z7z (W (z5q side I.sup g)) (W x)).lo=(W (z5q side I.sup g')).lo/\True) /\
 ((0:Int)=(0:Int)/\(0:Int)=(0:Int)/\True)/\I.sup=I.sup/\side=side/\True) /\
 (onF side (↑g:Int)=false ->
 ∃ (g':Nat),
 g' <= I.sup.length /\
 I.sup.length - g'<I.sup.length - g /\
 (True /\
 (0:Nat)=(0:Nat) /\
 (0:Nat)=(0:Nat) /\
 True/\(↑I.sup.length:Int)=(↑I.sup.length:Int)/\IntKind.i64.wrap ((↑g:Int)+(1:Int))=(↑g':Int)/\True) /\
 ((W (z5q side I.sup g)).hi=(W (z5q side I.sup g')).hi/\(W (z5q side I.sup g)).lo=(W (z5q side I.sup g')).lo/\True) /\
 ((0:Int)=(0:Int)/\(0:Int)=(0:Int)/\True)/\I.sup=I.sup/\side=side/\True)) /\
 (decide ((↑g:Int)<(↑I.sup.length:Int))=false ->
 (((W (z5q side I.sup g)).hi=(W (zb6 I side)).hi/\(W (z5q side I.sup g)).lo=(W (zb6 I side)).lo/\True)/\True)/\True)
theorem Need_q (I:Inst) (side:List Bool) (ty0 ty1 ty2:TypeId):Need_E0 I side ty0 ty1 ty2=z2d TT Need_g (Need_I I side) (Need_an I side) Tryz.f146 [.agg [.row 0,.row 1],.row 2] [(0,.row false ty0 (.ints .i64 I.sup)),(1,.row false ty1 (.arcs I.arcs)),(2,.row false ty2 (.bools side))] (Need_r I side):=by kernel_rfl
theorem Need_E (I:Inst) (side:List Bool) (ty0 ty1 ty2:TypeId) (hp:A64 I.sup/\I.sup.length <= 140737488351232):FVc TT Need_g (Need_I I side) (Need_an I side) Tryz.f146 [.agg [.row 0,.row 1],.row 2] [(0,.row false ty0 (.ints .i64 I.sup)),(1,.row false ty1 (.arcs I.arcs)),(2,.row false ty2 (.bools side))] (Need_r I side):=by
 refine FVc.of (Need_E0 I side ty0 ty1 ty2) (Need_q I side ty0 ty1 ty2) ?_
 unfold Need_E0
 obtain ⟨p1,p2⟩:=hp
 simp only [eq_self,exists_const,forall_const,ne_eq,Int.toNat_natCast,zSS,z06]
 refine ⟨0,⟨Nat.zero_le _,rfl,by simp only [z5q]; decide,by simp only [z5q]; decide⟩,fun g hg=>⟨fun h1=>⟨by omega,by omega,fun x hx=>?_⟩,fun h1=>?_⟩⟩
 ·have hm:=p1 x (List.mem_of_getElem? hx)
  have wk:IntKind.i64.wrap ((g:Int)+1)=((g+1:Nat):Int):=by rw [w64 (by omega) (by omega)]; omega
  have hd:I.sup.getD g 0=x:=by simp [List.getD,hx]
  refine ⟨fun h2=>⟨hm,⟨zf1 _,zf1 _⟩,g+1,by omega,by omega,wk,?_,?_⟩,fun h2=>⟨g+1,by omega,by omega,wk,?_,?_⟩⟩
  all_goals (rw [onF_nat] at h2; simp only [z5q,hd,h2,if_true,if_false,za8,Int.add_zero,Bool.false_eq_true])
 ·have:g=I.sup.length:=by omega
  subst this
  exact ⟨rfl,rfl⟩
theorem Need_ok:SpecOk Tryz.prog Need_n true (z02 true Need_fs) :=
 z0a z0h (show z14 Tryz.prog Need_g from z00 on_ok (z00 zbv (z00 zhk (z04)))) (by kernel_rfl) mixedOrders Tryz.func146 rfl rfl (by kernel_rfl) (n:=2) (by decide +kernel) (I:=Need_IA) (fun _ _=>z07) (A:=Need_A)
  (fun args h r hr=>by
   unfold Need_fs at hr
   split at hr
   ·rename_i ty0 I_s ty1 I_a ty2 side; cases hr; refine ⟨rfl,fun hp=>?_⟩; have hE:=Need_E ⟨I_s,I_a⟩ side ty0 ty1 ty2 hp; exact hE
   ·cases hr)
def zj7 (I : Inst) (side : List Bool) (ty0 ty1 ty2 : TypeId) : Prop :=
      True /\
 ((z05 I != (0:Int))=true->(z05 I=z24 I side/\True)/\True) /\
 ((z05 I != (0:Int))=false ->
 (((↑side.length:Int) != (↑I.sup.length:Int))=true->((30:Int)=z24 I side/\True)/\True) /\
 (((↑side.length:Int) != (↑I.sup.length:Int))=false ->
 (A64a I.arcs/\I.arcs.length <= (140737488351232:Nat)) /\
 ((!(z36 I side).isSome)=true->((34:Int)=z24 I side/\True)/\True) /\
 ((!(z36 I side).isSome)=false ->
 (A64 I.sup/\I.sup.length <= (140737488351232:Nat)) /\
 ((W (zb6 I side)).ok/\(z8o (z36 I side)).ok) /\
 (decide (wcmp (W (zb6 I side)) (z8o (z36 I side)) <= (0:Int))=true->((34:Int)=z24 I side/\True)/\True) /\
 (decide (wcmp (W (zb6 I side)) (z8o (z36 I side)) <= (0:Int))=false->((0:Int)=z24 I side/\True)/\True))))
theorem Proves_q (I:Inst) (side:List Bool) (ty0 ty1 ty2:TypeId):zj7 I side ty0 ty1 ty2=z2d TT Proves_g (Proves_I I side) (Proves_an I side) Tryz.f131 [.agg [.row 0,.row 1],.row 2] [(0,.row false ty0 (.ints .i64 I.sup)),(1,.row false ty1 (.arcs I.arcs)),(2,.row false ty2 (.bools side))] (Proves_r I side):=by kernel_rfl
theorem Proves_E (I:Inst) (side:List Bool) (ty0 ty1 ty2:TypeId) (hp:A64a I.arcs/\I.arcs.length <= 140737488351232/\A64 I.sup/\I.sup.length <= 140737488351232):FVc TT Proves_g (Proves_I I side) (Proves_an I side) Tryz.f131 [.agg [.row 0,.row 1],.row 2] [(0,.row false ty0 (.ints .i64 I.sup)),(1,.row false ty1 (.arcs I.arcs)),(2,.row false ty2 (.bools side))] (Proves_r I side):=by
 refine FVc.of (zj7 I side ty0 ty1 ty2) (Proves_q I side ty0 ty1 ty2) ?_
 unfold zj7
 obtain ⟨p1,p2,p3,p4⟩:=hp
 simp only [eq_self,exists_const,forall_const,ne_eq,Int.toNat_natCast,zSS,z06]
 unfold z24
 refine ⟨fun h=>?_,fun h=>⟨fun h2=>?_,fun h2=>⟨⟨p1,p2⟩,fun h3=>?_,fun h3=>?_⟩⟩⟩
 ·simp [h]
 ·simp [h,show side.length ≠ I.sup.length by omega]
 ·simp only [h,ne_eq,not_true,if_false,show side.length=I.sup.length by omega]
  cases hr:z36 I side with
  | none=>simp
  | some s=>rw [hr] at h3; cases h3
 ·cases hr:z36 I side with
  | none=>rw [hr] at h3; cases h3
  | some s =>
   simp only [h,ne_eq,not_true,if_false,show side.length=I.sup.length by omega,z8o]
   refine ⟨⟨p3,p4⟩,⟨zf1 _,zf1 _⟩,fun h4=>?_,fun h4=>?_⟩
   ·simp [h4]
   ·simp [h4]
theorem Proves_ok:SpecOk Tryz.prog Proves_n true (z02 true zj8) :=
 z0a z0h (show z14 Tryz.prog Proves_g from z00 za9 (z00 CRoom_ok (z00 Need_ok (z00 zer (z04))))) (by kernel_rfl) mixedOrders Tryz.func131 rfl rfl (by kernel_rfl) (n:=2) (by decide +kernel) (I:=Proves_IA) (fun _ _=>z07) (A:=Proves_A)
  (fun args h r hr=>by
   unfold zj8 at hr
   split at hr
   ·rename_i ty0 I_s ty1 I_a ty2 side; cases hr; refine ⟨rfl,fun hp=>?_⟩; have hE:=Proves_E ⟨I_s,I_a⟩ side ty0 ty1 ty2 hp; exact hE
   ·cases hr)
def Bools_E0 (xs : List Bool) (ys : List Bool) (ty0 ty1 : TypeId) : Prop :=
      (((↑xs.length:Int) != (↑ys.length:Int))=true->(false=decide (xs=ys)/\True)/\True) /\
 (((↑xs.length:Int) != (↑ys.length:Int))=false ->
 ∃ (g0:Nat),
 ((g0 <= xs.length/\List.take g0 xs=List.take g0 ys)/\(True/\True/\(0:Int)=(↑g0:Int)/\True)/\xs=xs/\ys=ys/\True) /\
 ∀ (g:Nat),
 g <= xs.length/\List.take g xs=List.take g ys ->
 (decide ((↑g:Int)<(↑xs.length:Int))=true ->
 ((0:Int) <= (↑g:Int)/\(↑g:Int)<(↑xs.length:Int)) /\
 (↑g:Int).toNat<xs.length /\
 ∀ (x:Bool),
 xs[(↑g:Int).toNat]? = some x ->
 ((0:Int) <= (↑g:Int)/\(↑g:Int)<(↑ys.length:Int)) /\
 (↑g:Int).toNat<ys.length /\
 ∀ (x_1:Bool),
 ys[(↑g:Int).toNat]? = some x_1 ->
 ((!x == x_1)=true->(false=decide (xs=ys)/\True)/\True) /\
 ((!x == x_1)=false ->
 ∃ (g':Nat),
 (g' <= xs.length/\List.take g' xs=List.take g' ys) /\
 xs.length - g'<xs.length - g /\
 (True/\True/\IntKind.i64.wrap ((↑g:Int)+(1:Int))=(↑g':Int)/\True)/\xs=xs/\ys=ys/\True)) /\
 (decide ((↑g:Int)<(↑xs.length:Int))=false->(true=decide (xs=ys)/\True)/\True))
theorem Bools_q (xs:List Bool) (ys:List Bool) (ty0 ty1:TypeId):Bools_E0 xs ys ty0 ty1=z2d TT Bools_g (Bools_I xs ys) (Bools_an xs ys) Tryz.f29 [.row 0,.row 1] [(0,.row false ty0 (.bools xs)),(1,.row false ty1 (.bools ys))] (Bools_r xs ys):=by kernel_rfl
theorem Bools_E (xs:List Bool) (ys:List Bool) (ty0 ty1:TypeId) (hp:xs.length <= 1000000000):FVc TT Bools_g (Bools_I xs ys) (Bools_an xs ys) Tryz.f29 [.row 0,.row 1] [(0,.row false ty0 (.bools xs)),(1,.row false ty1 (.bools ys))] (Bools_r xs ys):=by
 refine FVc.of (Bools_E0 xs ys ty0 ty1) (Bools_q xs ys ty0 ty1) ?_
 unfold Bools_E0
 simp only [eq_self,exists_const,forall_const,ne_eq,Int.toNat_natCast,zSS,z06]
 refine ⟨fun h=>?_,fun h1=>⟨0,by simp,fun k hk=>⟨fun h2=>⟨by omega,by omega,fun x hx=>⟨by omega,by omega,fun y hy=>?_⟩⟩,fun h2=>?_⟩⟩⟩
 ·exact (decide_eq_false (fun e=>h (by rw [e]))).symm
 ·refine ⟨fun h3=>(decide_eq_false (fun e=>?_)).symm,fun h3=>⟨k+1,⟨by omega,?_⟩,by omega,w64 (by omega) (by omega)⟩⟩
  ·subst e; rw [hx] at hy; cases hy; exact h3 rfl
  ·rw [z1i hx,z1i hy,hk.2,h3]
 ·have h3:=hk.2
  rw [List.take_of_length_le (by omega),List.take_of_length_le (by omega)] at h3
  exact (decide_eq_true h3).symm
theorem Bools_ok:SpecOk Tryz.prog Bools_n true (z02 true Bools_fs) :=
 z0a z0h (show z14 Tryz.prog Bools_g from z04) (by kernel_rfl) mixedOrders Tryz.func29 rfl rfl (by kernel_rfl) (n:=2) (by decide +kernel) (I:=Bools_IA) (fun _ _=>z07) (A:=Bools_A)
  (fun args h r hr=>by
   unfold Bools_fs at hr
   split at hr
   ·rename_i ty0 xs ty1 ys; cases hr; refine ⟨rfl,fun hp=>?_⟩; have hE:=Bools_E xs ys ty0 ty1 hp; exact hE
   ·cases hr)
end Go.Proofs.YtapeenpimcffpaaGreat
end
section
namespace Go.Ql
open Go Go.RowKit Go.Vc
def redA (a:Arc) (f t:Int):Int:=a.cost - f+t
def sgn (r:Int):Int:=wcmp (W r) (W 0)
def atA (I:Inst) (a:Int):Arc:=z6w I.sup.length I.arcs a
def atF (I:Inst) (pot:List Int) (a:Int):Int:=if gOk I.sup.length I.arcs a then pot.getD (atA I a).src.toNat 0 else 0
def atT (I:Inst) (pot:List Int) (a:Int):Int:=if gOk I.sup.length I.arcs a then pot.getD (atA I a).dst.toNat 0 else 0
def redF (I:Inst) (pot:List Int) (a:Int):Int:=if gOk I.sup.length I.arcs a then redA (atA I a) (atF I pot a) (atT I pot a) else 0
def z5r (r x:Int) (a:Arc):Bool:=!((decide (0<sgn r) && decide (x ≠ a.low)) || (decide (sgn r<0) && (decide (x ≠ a.cap) || decide (a.cap=inf))))
def z4m (I:Inst) (x pot:List Int) (k:Nat):Bool:=z5r (redF I pot k) (x.getD k 0) (I.arcs.getD k default)
def z17 (I:Inst) (x pot:List Int):Int :=
 if z1a I x ≠ 0 then z1a I x else if pot.length ≠ I.sup.length then 30 else if (List.range I.arcs.length).all (z4m I x pot) then 0 else 33
def boundS (l pot:List Int):Nat->Int
 | 0=>0
 | k+1=>boundS l pot k+l.getD k 0 * pot.getD k 0
def potR (pot:List Int) (n:Int):Int:=if 0 <= n then pot.getD n.toNat 0 else 0
def redP (pot:List Int) (a:Arc):Int:=redA a (potR pot a.src) (potR pot a.dst)
def z2y (n:Int) (pot:List Int):List Arc->Int->Option Int
 | [],s=>some s
 | a :: l,s=>if z2z n a then (if sgn (redP pot a)<0 then if a.cap=inf then none else z2y n pot l (s+a.cap * redP pot a) else z2y n pot l (s+a.low * redP pot a)) else z2y n pot l s
def boundF (I:Inst) (pot:List Int):Option Int:=z2y I.sup.length pot I.arcs (boundS I.sup pot I.sup.length)
theorem sgn_zero:sgn 0=0:=by decide
theorem atA_get {I:Inst} {k:Nat} {x:Arc} (h:I.arcs[k]? = some x) (ho:z2z I.sup.length x=true):atA I k=x:=by
 have hg:gOk I.sup.length I.arcs (k:Int)=true:=by rw [zh3 (by omega) (by rw [Int.toNat_natCast]; exact h)]; exact ho
 unfold atA z6w
 rw [if_pos hg,Int.toNat_natCast]
 simp [List.getD,h]
end Go.Ql
end
section
namespace Go.Proofs.YtapeenpimcffpaaGreat
open Go Go.RowKit Go.Ql Go.Vc
def of11_r (pot:List Int) (n:Int):FRes:={ pre:=0 <= n,res:=.int .i64 (pot.getD n.toNat 0),rows:=[],eff:=[] }
def of11_fs:FS:=fun args h=>match args,h with
 | [.row 0,.int .i64 n],[(0,.row false ty0 (.ints .i64 pot))]=>some (of11_r pot n)
 | _,_=>none
def of11_an (pot:List Int) (n:Int):List (Nat × Ann):=[]
def of11_A:List SV->z0e->List (Nat × Ann):=fun _ _=>[]
def of11_g:z0c:=[]
abbrev of11_n:Nat:=172
def of11_I (pot:List Int) (n:Int):List (Nat × z09):=[]
def of11_IA:List SV->z0e->List (Nat × z09):=fun _ _=>[]
def zmf (p:Arc) (pf:Int) (pt:Int):FRes:={ pre:=I64 p.cost/\I64 pf/\I64 pt,res:=.agg (z1f (W (redA p pf pt))),rows:=[],eff:=[] }
def zgc:FS:=fun args h=>match args,h with
 | [.agg [.int .i64 p_0,.int .i64 p_1,.int .i64 p_2,.int .i64 p_3,.int .i64 p_4,.int .i64 pf,.int .i64 pt]],[]=>some (zmf ⟨p_0,p_1,p_2,p_3,p_4⟩ pf pt)
 | _,_=>none
def reduced_an (p:Arc) (pf:Int) (pt:Int):List (Nat × Ann):=[]
def reduced_A:List SV->z0e->List (Nat × Ann):=fun _ _=>[]
def zme:z0c:=[(zgy,(true,z02 true z82)),(zev,(true,z02 true z81)),(Of_n,(true,z02 true zcy))]
abbrev reduced_n:Nat:=158
def reduced_I (p:Arc) (pf:Int) (pt:Int):List (Nat × z09):=[]
def reduced_IA:List SV->z0e->List (Nat × z09):=fun _ _=>[]
def sign_r (p:Arc) (pf:Int) (pt:Int):FRes:={ pre:=I64 p.cost/\I64 pf/\I64 pt,res:=.int .i64 (sgn (redA p pf pt)),rows:=[],eff:=[] }
def sign_fs:FS:=fun args h=>match args,h with
 | [.agg [.int .i64 p_0,.int .i64 p_1,.int .i64 p_2,.int .i64 p_3,.int .i64 p_4,.int .i64 pf,.int .i64 pt]],[]=>some (sign_r ⟨p_0,p_1,p_2,p_3,p_4⟩ pf pt)
 | _,_=>none
def sign_an (p:Arc) (pf:Int) (pt:Int):List (Nat × Ann):=[]
def sign_A:List SV->z0e->List (Nat × Ann):=fun _ _=>[]
def sign_g:z0c:=[(zcv,(true,z02 true z7e)),(reduced_n,(true,z02 true zgc)),(Of_n,(true,z02 true zcy))]
abbrev sign_n:Nat:=144
def sign_I (p:Arc) (pf:Int) (pt:Int):List (Nat × z09):=[]
def sign_IA:List SV->z0e->List (Nat × z09):=fun _ _=>[]
def at11_r (I:Inst) (pot:List Int) (a:Int):FRes:={ pre:=True,res:=.tup [.agg [.int .i64 (atA I a).src,.int .i64 (atA I a).dst,.int .i64 (atA I a).low,.int .i64 (atA I a).cap,.int .i64 (atA I a).cost,.int .i64 (atF I pot a),.int .i64 (atT I pot a)],.bool (gOk I.sup.length I.arcs a)],rows:=[],eff:=[] }
def at11_fs:FS:=fun args h=>match args,h with
 | [.agg [.row 0,.row 1],.row 2,.int .i64 a],[(0,.row false ty0 (.ints .i64 I_s)),(1,.row false ty1 (.arcs I_a)),(2,.row false ty2 (.ints .i64 pot))]=>some (at11_r ⟨I_s,I_a⟩ pot a)
 | _,_=>none
def at11_an (I:Inst) (pot:List Int) (a:Int):List (Nat × Ann):=[]
def at11_A:List SV->z0e->List (Nat × Ann):=fun _ _=>[]
def at11_g:z0c:=[(of11_n,(true,z02 true of11_fs))]
abbrev at11_n:Nat:=157
def at11_I (I:Inst) (pot:List Int) (a:Int):List (Nat × z09):=[]
def at11_IA:List SV->z0e->List (Nat × z09):=fun _ _=>[]
abbrev arcs11_n:Nat:=143
def arcs11_g:z0c:=[]
def zjk:Vc.Spec:=z2c TT arcs11_g (fun _ _ _=>[]) Tryz.f143
def Slack_r (I:Inst) (x:List Int) (pot:List Int):FRes:={ pre:=I.sup.length <= 10000/\I.arcs.length <= 10000/\A64 x/\A64 I.sup/\A64 pot/\A64c I.arcs,res:=.int .u16 (z17 I x pot),rows:=[],eff:=[] }
def Slack_fs:FS:=fun args h=>match args,h with
 | [.agg [.row 0,.row 1],.row 2,.row 3],[(0,.row false ty0 (.ints .i64 I_s)),(1,.row false ty1 (.arcs I_a)),(2,.row false ty2 (.ints .i64 x)),(3,.row false ty3 (.ints .i64 pot))]=>some (Slack_r ⟨I_s,I_a⟩ x pot)
 | _,_=>none
def Slack_an (I:Inst) (x:List Int) (pot:List Int):List (Nat × Ann):=[]
def Slack_A:List SV->z0e->List (Nat × Ann):=fun _ _=>[]
def Slack_g:z0c:=[(Fits_n,(true,z02 true Fits_fs)),(arcs11_n,(false,zjk)),(sign_n,(true,z02 true sign_fs))]
abbrev Slack_n:Nat:=129
def Slack_i0g:z0c:=[(at11_n,(true,z02 true at11_fs))]
def Slack_i0 (I:Inst) (x:List Int) (pot:List Int):z09:=inlI TT Slack_i0g (fun args hp nk=>match args with
  | [y,c1,c2]=>[(1,{ G:=Nat,inv:=fun g=>⟨[(0,y),(1,c1),(2,c2),(9,.int .i64 I.arcs.length),(10,.int .i64 g)],hp,nk⟩,rel:=fun _ g=>g <= I.arcs.length/\∀ j,j<g->z4m I x pot j=true,meas:=fun g=>I.arcs.length - g })]
  | _=>[]) Tryz.f156
def Slack_I (I:Inst) (x:List Int) (pot:List Int):List (Nat × z09):=[(156,Slack_i0 I x pot)]
def Slack_IA:List SV->z0e->List (Nat × z09):=fun args h=>match args,h with
 | [.agg [.row 0,.row 1],.row 2,.row 3],[(0,.row false ty0 (.ints .i64 I_s)),(1,.row false ty1 (.arcs I_a)),(2,.row false ty2 (.ints .i64 x)),(3,.row false ty3 (.ints .i64 pot))]=>Slack_I ⟨I_s,I_a⟩ x pot
 | _,_=>[]
end Go.Proofs.YtapeenpimcffpaaGreat
end
section
namespace Go.Ql
open Go Go.RowKit Go.Vc
theorem sgn_neg {r:Int} (h:zb7 r):sgn r<0 ↔ r<0:=by
 unfold sgn
 rw [zbj h (by unfold zb7; omega)]
 split
 ·omega
 ·split <;> omega
theorem sgn_pos {r:Int} (h:zb7 r):0<sgn r ↔ 0<r:=by
 unfold sgn
 rw [zbj h (by unfold zb7; omega)]
 split
 ·omega
 ·split <;> omega
def potK (l:List Arc) (x pot:List Int):Nat->Int
 | 0=>0
 | k+1=>potK l x pot k+x.getD k 0 * (potR pot (l.getD k default).src - potR pot (l.getD k default).dst)
theorem sumTo_at {s f:Int} (P:Nat->Int) (h0:0 <= s) (n:Nat) (hn:s<n):z1m (fun v=>(if s=(v:Int) then f else 0) * P v) n=f * P s.toNat:=by
 rw [z16 (g:=fun v=>if s=(v:Int) then f * P s.toNat else 0) (fun v hv=>by
  by_cases e:s=(v:Int)
  ·have:s.toNat=v:=by omega
   rw [if_pos e,if_pos e,this]
  ·rw [if_neg e,if_neg e,Int.zero_mul]),za5 h0,if_pos hn]
theorem flowD_pot {n:Nat} {a:Arc} (pot:List Int) (f:Int) (ho:z2z n a=true):z1m (fun v:Nat=>z4t n a f v * pot.getD v 0) n=f * (potR pot a.src - potR pot a.dst):=by
 obtain ⟨o1,o2,o3,o4⟩:=okArc_iff.1 ho
 rw [z16 (g:=fun v:Nat=>(if a.src=(v:Int) then f else 0) * pot.getD v 0 - (if a.dst=(v:Int) then f else 0) * pot.getD v 0) (fun v _=>by
  simp only [z4t,ho,if_true,Int.sub_mul]),za6,sumTo_at (fun v=>pot.getD v 0) o1 n o2,sumTo_at (fun v=>pot.getD v 0) o3 n o4]
 simp only [potR,o1,o3,if_true,Int.mul_sub]
theorem net_pot {n:Nat} {l:List Arc} (x pot:List Int) (ho:∀ a ∈ l,z2z n a=true):∀ k,k <= l.length->z1m (fun v:Nat=>z52 n l x k v * pot.getD v 0) n=potK l x pot k
 | 0,_=>by
  simp only [z52,potK]
  rw [z16 (g:=fun _=>0) (fun v _=>by simp),z5i]
 | k+1,h=>by
  have hm:l.getD k default ∈ l:=by rw [List.getD_eq_getElem?_getD,List.getElem?_eq_getElem (show k<l.length by omega)]; exact List.getElem_mem _
  simp only [potK]
  rw [<- net_pot x pot ho k (by omega),<- flowD_pot pot (x.getD k 0) (ho _ hm),<- za4]
  refine z16 fun v _=>?_
  simp only [z52,Int.add_mul]
theorem boundS_sum (l pot:List Int):∀ k,boundS l pot k=z1m (fun v=>l.getD v 0 * pot.getD v 0) k
 | 0=>rfl
 | k+1=>by simp only [boundS,z1m,boundS_sum l pot k]
theorem z6z (n:Int) (pot:List Int):∀ (l r:List Arc) (s:Int),z2y n pot (l ++ r) s=(z2y n pot l s).bind (z2y n pot r)
 | [],r,s=>by simp [z2y]
 | a :: l,r,s=>by
  simp only [List.cons_append,z2y]
  split
  ·split
   ·split
    ·rfl
    ·exact z6z n pot l r _
   ·exact z6z n pot l r _
  ·exact z6z n pot l r _
def zec (l:List Arc) (x pot:List Int) (j:Nat):Bool:=z5r (redP pot (l.getD j default)) (x.getD j 0) (l.getD j default)
theorem step_gap {a:Arc} {x r:Int} (hr:zb7 r) (hf:fitF a x=true) :
  (sgn r<0->a.cap=inf->z5r r x a=false)/\(sgn r<0->a.cap ≠ inf->0 <= (x - a.cap) * r/\((x - a.cap) * r=0 ↔ z5r r x a=true))/\(¬ sgn r<0->0 <= (x - a.low) * r/\((x - a.low) * r=0 ↔ z5r r x a=true)):=by
 have hn:=sgn_neg hr
 have hp:=sgn_pos hr
 unfold fitF at hf
 simp only [Bool.and_eq_true,Bool.or_eq_true,decide_eq_true_eq] at hf
 refine ⟨fun h1 h2=>?_,fun h1 h2=>?_,fun h1=>?_⟩
 ·simp [z5r,h1,h2]
 ·have h3:r<0:=hn.1 h1
  have h4:x <= a.cap:=by rcases hf.2 with h | h; exact absurd h h2; exact h
  have h5:¬ 0<sgn r:=by omega
  refine ⟨Int.mul_nonneg_of_nonpos_of_nonpos (by omega) (by omega),?_⟩
  rw [Int.mul_eq_zero]
  simp only [z5r,h1,h2,h5,decide_true,decide_false,Bool.false_and,Bool.false_or,Bool.true_and,Bool.or_false,Bool.not_eq_true',decide_eq_false_iff_not,ne_eq,Decidable.not_not]
  omega
 ·have h3:0 <= r:=by omega
  refine ⟨Int.mul_nonneg (by omega) h3,?_⟩
  rw [Int.mul_eq_zero]
  by_cases h4:0<sgn r
  ·have h5:=hp.1 h4
   simp only [z5r,h1,h4,decide_true,decide_false,Bool.false_and,Bool.or_false,Bool.true_and,Bool.not_eq_true',decide_eq_false_iff_not,ne_eq,Decidable.not_not]
   omega
  ·have h5:r=0:=by omega
   subst h5; simp [z5r,sgn_zero]
theorem gap {n:Nat} {l:List Arc} {x pot:List Int} (s:Int) (ho:∀ a ∈ l,z2z n a=true) (hr:∀ a ∈ l,zb7 (redP pot a)) (hf:∀ j a,l[j]? = some a->fitF a (x.getD j 0)=true):∀ k,k <= l.length ->
  (z2y n pot (l.take k) s=none->∃ j,j<k/\zec l x pot j=false)/\∀ t,z2y n pot (l.take k) s=some t->0 <= z3m l x k - potK l x pot k - (t - s)/\(z3m l x k - potK l x pot k - (t - s)=0 ↔ ∀ j,j<k->zec l x pot j=true)
 | 0,_=>by
  refine ⟨fun h=>?_,fun t h=>?_⟩
  ·simp [z2y] at h
  ·simp only [List.take_zero,z2y,Option.some.injEq] at h
   subst h
   simp [z3m,potK]
 | k+1,h=>by
  have ih:=gap s ho hr hf k (by omega)
  have hk:l[k]? = some (l[k]'(by omega)):=List.getElem?_eq_getElem (by omega)
  generalize l[k]'(by omega)=a at hk
  have hd:l.getD k default=a:=by simp [List.getD,hk]
  have hm:=List.mem_of_getElem? hk
  have hg:=step_gap (hr a hm) (hf k a hk)
  have hoa:=ho a hm
  have hsj:zec l x pot k=z5r (redP pot a) (x.getD k 0) a:=by unfold zec; rw [hd]
  have hall:(∀ j,j<k+1->zec l x pot j=true) ↔ (∀ j,j<k->zec l x pot j=true)/\z5r (redP pot a) (x.getD k 0) a=true:=by
   rw [<- hsj]
   constructor
   ·exact fun h=>⟨fun j hj=>h j (by omega),h k (by omega)⟩
   ·intro h j hj
    by_cases e:j=k
    ·subst e; exact h.2
    ·exact h.1 j (by omega)
  rw [z1i hk,z6z]
  cases hb:z2y n pot (l.take k) s with
  | none =>
   refine ⟨fun _=>?_,fun t h=>by simp at h⟩
   obtain ⟨j,hj,hj2⟩:=ih.1 hb
   exact ⟨j,by omega,hj2⟩
  | some u =>
   have ih2:=ih.2 u hb
   simp only [Option.bind_some,z2y,hoa,if_true]
   have hc:z3m l x (k+1) - potK l x pot (k+1)=z3m l x k - potK l x pot k+x.getD k 0 * redP pot a:=by
    simp only [z3m,potK,hd,redP,redA,Int.mul_sub,Int.mul_add]
    rw [Int.mul_comm a.cost]
    omega
   rw [hall,hc]
   by_cases hs:sgn (redP pot a)<0
   ·by_cases hi:a.cap=inf
    ·simp only [hs,hi,if_true]
     exact ⟨fun _=>⟨k,by omega,by rw [hsj]; exact hg.1 hs hi⟩,fun t h=>by simp at h⟩
    ·simp only [hs,hi,if_true,if_false]
     refine ⟨fun h=>by simp at h,fun t h=>?_⟩
     simp only [Option.some.injEq] at h
     subst h
     have h2:=hg.2.1 hs hi
     rw [Int.sub_mul] at h2
     rw [<- ih2.2,<- h2.2]
     omega
   ·simp only [hs,if_false]
    refine ⟨fun h=>by simp at h,fun t h=>?_⟩
    simp only [Option.some.injEq] at h
    subst h
    have h2:=hg.2.2 hs
    rw [Int.sub_mul] at h2
    rw [<- ih2.2,<- h2.2]
    omega
theorem redF_at {I:Inst} {pot:List Int} {k:Nat} {a:Arc} (h:I.arcs[k]? = some a) (ho:z2z I.sup.length a=true):redF I pot k=redP pot a:=by
 have hg:gOk I.sup.length I.arcs (k:Int)=true:=by rw [zh3 (by omega) (by rw [Int.toNat_natCast]; exact h)]; exact ho
 obtain ⟨o1,o2,o3,o4⟩:=okArc_iff.1 ho
 unfold redF atF atT redP potR
 rw [if_pos hg,if_pos hg,if_pos hg,atA_get h ho,if_pos o1,if_pos o3]
theorem zm6 {I:Inst} {x pot:List Int} (hl:I.arcs.length <= 1000) (hx:A64 x) (hs:Within 4398046511104 I.sup) (hp:A64 pot) (hlp:pot.length=I.sup.length) (h:z1a I x=0) :
  (boundF I pot=none->z17 I x pot=33)/\∀ t,boundF I pot=some t->t <= z9e I x/\(t=z9e I x ↔ z17 I x pot=0):=by
 have hz:=fitsF_zero.1 h
 have ho:∀ a ∈ I.arcs,z2z I.sup.length a=true:=fun a ha=>(z1h hz.1 ha).1
 have hP:∀ v,I64 (potR pot v):=fun v=>by
  unfold potR
  split
  ·exact hp.getD _
  ·simp [I64]
 have hr:∀ a ∈ I.arcs,zb7 (redP pot a):=fun a ha=>by
  have h1:=(z1h hz.1 ha).2.2
  have h2:=hP a.src
  have h3:=hP a.dst
  unfold redP redA
  unfold I64 at h2 h3
  unfold zb7
  omega
 have hg:=gap (n:=I.sup.length) (l:=I.arcs) (x:=x) (pot:=pot) (boundS I.sup pot I.sup.length) ho hr (fitsAll_iff.1 hz.2.2.1) I.arcs.length (Nat.le_refl _)
 rw [List.take_length] at hg
 have hn:boundS I.sup pot I.sup.length=potK I.arcs x pot I.arcs.length:=by
  rw [boundS_sum,<- net_pot x pot ho I.arcs.length (Nat.le_refl _)]
  refine z16 fun v hv=>?_
  rw [fits_net hl hx hs h v hv]
 have hsl:∀ k,k<I.arcs.length->z4m I x pot k=zec I.arcs x pot k:=fun k hk=>by
  have hget:I.arcs[k]? = some (I.arcs[k]):=List.getElem?_eq_getElem hk
  have hd:I.arcs.getD k default=I.arcs[k]:=by simp [List.getD,hget]
  unfold z4m zec
  rw [redF_at hget (ho _ (List.getElem_mem hk)),hd]
 have hF:z17 I x pot=if (List.range I.arcs.length).all (z4m I x pot) then 0 else 33:=by
  unfold z17
  rw [if_neg (by omega),if_neg (by omega)]
 refine ⟨fun hb=>?_,fun t hb=>?_⟩
 ·obtain ⟨j,hj,hj2⟩:=hg.1 hb
  rw [hF,if_neg]
  intro hall
  have:=List.all_eq_true.1 hall j (List.mem_range.2 hj)
  rw [hsl j hj,hj2] at this
  cases this
 ·have h2:=hg.2 t hb
  rw [hn] at h2
  unfold z9e
  have h3:(t=z3m I.arcs x I.arcs.length) ↔ ∀ j,j<I.arcs.length->zec I.arcs x pot j=true:=by
   rw [<- h2.2]; omega
  refine ⟨by omega,?_⟩
  rw [h3,hF]
  constructor
  ·intro h4
   rw [if_pos (List.all_eq_true.2 fun j hj=>by have hj:=List.mem_range.1 hj; rw [hsl j hj]; exact h4 j hj)]
  ·intro h4 j hj
   split at h4
   ·rename_i h5
    rw [<- hsl j hj]
    exact List.all_eq_true.1 h5 j (List.mem_range.2 hj)
   ·omega
theorem zko {l:List Arc} {x:List Int} {C X:Int} (hC:0 <= C) (hX:0 <= X) (hl:∀ a ∈ l,-C <= a.cost/\a.cost <= C) (hx:∀ k,-X <= x.getD k 0/\x.getD k 0 <= X):∀ k:Nat,k <= l.length->-(C * X * k) <= z3m l x k/\z3m l x k <= C * X * k
 | 0,_=>by simp [z3m]
 | k+1,h=>by
  have ih:=zko hC hX hl hx k (by omega)
  have hm:l.getD k default ∈ l:=by rw [List.getD_eq_getElem?_getD,List.getElem?_eq_getElem (show k<l.length by omega)]; exact List.getElem_mem _
  have h1:=hl _ hm
  have h2:=hx k
  have hm:=zlq (a:=(l.getD k default).cost) (b:=x.getD k 0) h1.1 h1.2 h2.1 h2.2 hC hX
  rw [z3m,Int.natCast_succ,Int.mul_add,Int.mul_one]
  omega
theorem z0d {I:Inst} (h:z05 I=0):I.sup.length <= 64/\I.arcs.length <= 256:=by
 unfold z05 at h
 split at h
 ·omega
 ·omega
theorem supErr_in:∀ (l:List Int) (s:Int),z38 l s=0->Within 4398046511104 l/\s+l.sum=0
 | [],s,h=>by
  unfold z38 at h
  split at h
  ·rename_i e; exact ⟨fun x hx=>(by cases hx),by simpa using e⟩
  ·omega
 | x :: l,s,h=>by
  unfold z38 at h
  split at h
  ·omega
  ·have ih:=supErr_in l (s+x) h
   refine ⟨fun y hy=>?_,by rw [List.sum_cons]; omega⟩
   rcases List.mem_cons.1 hy with rfl | hy
   ·omega
   ·exact ih.1 y hy
theorem z1n {I:Inst} (h:z05 I=0):Within 4398046511104 I.sup/\I.sup.sum=0:=by
 unfold z05 at h
 split at h
 ·omega
 ·split at h
  ·have:=supErr_in _ _ h
   exact ⟨this.1,by omega⟩
  ·omega
theorem A64.at {l:List Int} (h:A64 l) (k:Nat):-9223372036854775808 <= l.getD k 0/\l.getD k 0 <= 9223372036854775808:=by
 have:=h.getD k
 unfold I64 at this
 omega
theorem z7j {I:Inst} {x:List Int} (h:z05 I=0) (hx:A64 x):zb7 (z9e I x):=by
 have hl:=z0d h
 have:=zko (C:=4398046511104) (X:=9223372036854775808) (by omega) (by omega) (fun a ha=>(z1h h ha).2.2) (fun k=>hx.at k) I.arcs.length (Nat.le_refl _)
 unfold z9e zb7
 omega
theorem slack_best {I:Inst} {x y pot:List Int} (hx:A64 x) (hy:A64 y) (hp:A64 pot) (hs:z17 I y pot=0) (hf:z1a I x=0):wcmp (W (z9e I y)) (W (z9e I x)) <= 0:=by
 have hfy:z1a I y=0:=by
  unfold z17 at hs
  split at hs
  ·omega
  ·rename_i h; omega
 have hlp:pot.length=I.sup.length:=by
  unfold z17 at hs
  split at hs
  ·omega
  ·split at hs
   ·omega
   ·rename_i h; omega
 have hr:=(fitsF_zero.1 hfy).1
 have hl:=z0d hr
 have hw:=(z1n hr).1
 have h1:=zm6 (by omega) hy hw hp hlp hfy
 have h2:=zm6 (by omega) hx hw hp hlp hf
 cases hb:boundF I pot with
 | none=>have:=h1.1 hb; omega
 | some t =>
  have e1:=(h1.2 t hb).2.2 hs
  have e2:=(h2.2 t hb).1
  rw [zbj (z7j hr hy) (z7j hr hx)]
  split
  ·omega
  ·split <;> omega
theorem zgk (P:Nat->Int) {m:Nat}:∀ t,t <= m->0<m->z1m (fun k=>P ((k+1) % m) - P k) t=P (t % m) - P 0
 | 0,_,_=>by simp [z1m]
 | t+1,h,h0=>by
  rw [z1m,zgk P t (by omega) h0,Nat.mod_eq_of_lt (show t<m by omega)]
  omega
end Go.Ql
end
section
namespace Go.Proofs.YtapeenpimcffpaaGreat
open Go Go.RowKit Go.Ql Go.Vc
def of11_E0 (pot : List Int) (n : Int) (ty0 : TypeId) : Prop :=
      (decide (n ≥ (↑pot.length:Int))=true->((0:Int)=pot.getD n.toNat (0:Int)/\True)/\True) /\
 (decide (n ≥ (↑pot.length:Int))=false ->
 ((0:Int) <= n/\n<(↑pot.length:Int))/\n.toNat<pot.length/\∀ (x:Int),pot[n.toNat]? = some x->(x=pot.getD n.toNat (0:Int)/\True)/\True)
theorem of11_q (pot:List Int) (n:Int) (ty0:TypeId):of11_E0 pot n ty0=z2d TT of11_g (of11_I pot n) (of11_an pot n) Tryz.f172 [.row 0,.int .i64 n] [(0,.row false ty0 (.ints .i64 pot))] (of11_r pot n):=by kernel_rfl
theorem of11_E (pot:List Int) (n:Int) (ty0:TypeId) (hp:0 <= n):FVc TT of11_g (of11_I pot n) (of11_an pot n) Tryz.f172 [.row 0,.int .i64 n] [(0,.row false ty0 (.ints .i64 pot))] (of11_r pot n):=by
 refine FVc.of (of11_E0 pot n ty0) (of11_q pot n ty0) ?_
 unfold of11_E0
 simp only [eq_self,exists_const,forall_const,ne_eq,Int.toNat_natCast,zSS,z06]
 refine ⟨fun h=>?_,fun h=>⟨by omega,by omega,fun x hx=>?_⟩⟩
 ·simp [List.getD,List.getElem?_eq_none (show pot.length <= n.toNat by omega)]
 ·simp [List.getD,hx]
theorem of11_ok:SpecOk Tryz.prog of11_n true (z02 true of11_fs) :=
 z0a z0h (show z14 Tryz.prog of11_g from z04) (by kernel_rfl) mixedOrders Tryz.func172 rfl rfl (by kernel_rfl) (n:=2) (by decide +kernel) (I:=of11_IA) (fun _ _=>z07) (A:=of11_A)
  (fun args h r hr=>by
   unfold of11_fs at hr
   split at hr
   ·rename_i n ty0 pot; cases hr; refine ⟨rfl,fun hp=>?_⟩; have hE:=of11_E pot n ty0 hp; exact hE
   ·cases hr)
def zgb (p : Arc) (pf : Int) (pt : Int) : Prop :=
      I64 p.cost /\
 I64 pf /\
 ((W p.cost).ok/\(W pf).ok) /\
 I64 pt /\
 ((z5z (W p.cost) (W pf)).ok/\(W pt).ok) /\
 (((z7z (z5z (W p.cost) (W pf)) (W pt)).hi=(W (redA p pf pt)).hi/\(z7z (z5z (W p.cost) (W pf)) (W pt)).lo=(W (redA p pf pt)).lo/\True)/\True)/\True
theorem reduced_q (p:Arc) (pf:Int) (pt:Int):zgb p pf pt=z2d TT zme (reduced_I p pf pt) (reduced_an p pf pt) Tryz.f158 [.agg [.int .i64 p.src,.int .i64 p.dst,.int .i64 p.low,.int .i64 p.cap,.int .i64 p.cost,.int .i64 pf,.int .i64 pt]] [] (zmf p pf pt):=by kernel_rfl
theorem reduced_E (p:Arc) (pf:Int) (pt:Int) (hp:I64 p.cost/\I64 pf/\I64 pt):FVc TT zme (reduced_I p pf pt) (reduced_an p pf pt) Tryz.f158 [.agg [.int .i64 p.src,.int .i64 p.dst,.int .i64 p.low,.int .i64 p.cap,.int .i64 p.cost,.int .i64 pf,.int .i64 pt]] [] (zmf p pf pt):=by
 refine FVc.of (zgb p pf pt) (reduced_q p pf pt) ?_
 unfold zgb
 obtain ⟨p1,p2,p3⟩:=hp
 simp only [eq_self,exists_const,forall_const,ne_eq,Int.toNat_natCast,zSS,z06]
 simp [p1,p2,p3,zf1,redA]
theorem reduced_ok:SpecOk Tryz.prog reduced_n true (z02 true zgc) :=
 z0a z0h (show z14 Tryz.prog zme from z00 zbv (z00 zcw (z00 zhk (z04)))) (by kernel_rfl) mixedOrders Tryz.func158 rfl rfl (by kernel_rfl) (n:=1) (by decide +kernel) (I:=reduced_IA) (fun _ _=>z07) (A:=reduced_A)
  (fun args h r hr=>by
   unfold zgc at hr
   split at hr
   ·rename_i p_0 p_1 p_2 p_3 p_4 pf pt; cases hr; refine ⟨rfl,fun hp=>?_⟩; have hE:=reduced_E ⟨p_0,p_1,p_2,p_3,p_4⟩ pf pt hp; exact hE
   ·cases hr)
def sign_E0 (p : Arc) (pf : Int) (pt : Int) : Prop :=
   (I64 p.cost/\I64 pf/\I64 pt)/\I64 (0:Int)/\((W (redA p pf pt)).ok/\(W (0:Int)).ok)/\(wcmp (W (redA p pf pt)) (W (0:Int))=sgn (redA p pf pt)/\True)/\True
theorem sign_q (p:Arc) (pf:Int) (pt:Int):sign_E0 p pf pt=z2d TT sign_g (sign_I p pf pt) (sign_an p pf pt) Tryz.f144 [.agg [.int .i64 p.src,.int .i64 p.dst,.int .i64 p.low,.int .i64 p.cap,.int .i64 p.cost,.int .i64 pf,.int .i64 pt]] [] (sign_r p pf pt):=by kernel_rfl
theorem sign_E (p:Arc) (pf:Int) (pt:Int) (hp:I64 p.cost/\I64 pf/\I64 pt):FVc TT sign_g (sign_I p pf pt) (sign_an p pf pt) Tryz.f144 [.agg [.int .i64 p.src,.int .i64 p.dst,.int .i64 p.low,.int .i64 p.cap,.int .i64 p.cost,.int .i64 pf,.int .i64 pt]] [] (sign_r p pf pt):=by
 refine FVc.of (sign_E0 p pf pt) (sign_q p pf pt) ?_
 unfold sign_E0
 obtain ⟨p1,p2,p3⟩:=hp
 have i0:I64 0:=by simp [I64]
 simp only [eq_self,exists_const,forall_const,ne_eq,Int.toNat_natCast,zSS,z06]
 simp [p1,p2,p3,zf1,i0,sgn]
theorem sign_ok:SpecOk Tryz.prog sign_n true (z02 true sign_fs) :=
 z0a z0h (show z14 Tryz.prog sign_g from z00 zer (z00 reduced_ok (z00 zhk (z04)))) (by kernel_rfl) mixedOrders Tryz.func144 rfl rfl (by kernel_rfl) (n:=1) (by decide +kernel) (I:=sign_IA) (fun _ _=>z07) (A:=sign_A)
  (fun args h r hr=>by
   unfold sign_fs at hr
   split at hr
   ·rename_i p_0 p_1 p_2 p_3 p_4 pf pt; cases hr; refine ⟨rfl,fun hp=>?_⟩; have hE:=sign_E ⟨p_0,p_1,p_2,p_3,p_4⟩ pf pt hp; exact hE
   ·cases hr)
theorem at_ok {I:Inst} {pot:List Int} {a:Int} (h1:A64 pot) (h2:A64c I.arcs):I64 (atA I a).cost/\I64 (atF I pot a)/\I64 (atT I pot a):=by
 have z:I64 0:=by simp [I64]
 refine ⟨?_,?_,?_⟩
 ·unfold atA z6w
  split
  ·rename_i h
   unfold gOk at h
   simp only [Bool.and_eq_true,decide_eq_true_eq] at h
   have hl:a.toNat<I.arcs.length:=by omega
   rw [List.getD_eq_getElem?_getD,List.getElem?_eq_getElem hl]
   exact h2 _ (List.getElem_mem hl)
  ·exact z
 ·unfold atF
  split
  ·exact h1.getD _
  ·exact z
 ·unfold atT
  split
  ·exact h1.getD _
  ·exact z
def at11_E0 (I : Inst) (pot : List Int) (a : Int) (ty0 ty1 ty2 : TypeId) : Prop :=
      (decide (a<(0:Int))=true ->
 ((((0:Int)=(atA I a).src /\
 (0:Int)=(atA I a).dst /\
 (0:Int)=(atA I a).low/\(0:Int)=(atA I a).cap/\(0:Int)=(atA I a).cost/\(0:Int)=atF I pot a/\(0:Int)=atT I pot a/\True) /\
 false=gOk (↑I.sup.length:Int) I.arcs a/\True) /\
 True) /\
 True) /\
 (decide (a<(0:Int))=false ->
 (decide (a ≥ (↑I.arcs.length:Int))=true ->
 ((((0:Int)=(atA I a).src /\
 (0:Int)=(atA I a).dst /\
 (0:Int)=(atA I a).low/\(0:Int)=(atA I a).cap/\(0:Int)=(atA I a).cost/\(0:Int)=atF I pot a/\(0:Int)=atT I pot a/\True) /\
 false=gOk (↑I.sup.length:Int) I.arcs a/\True) /\
 True) /\
 True) /\
 (decide (a ≥ (↑I.arcs.length:Int))=false ->
 ((0:Int) <= a/\a<(↑I.arcs.length:Int)) /\
 a.toNat<I.arcs.length /\
 ∀ (x:Arc),
 I.arcs[a.toNat]? = some x ->
 (decide (x.src<(0:Int))=true ->
 ((((0:Int)=(atA I a).src /\
 (0:Int)=(atA I a).dst /\
 (0:Int)=(atA I a).low/\(0:Int)=(atA I a).cap/\(0:Int)=(atA I a).cost/\(0:Int)=atF I pot a/\(0:Int)=atT I pot a/\True) /\
 false=gOk (↑I.sup.length:Int) I.arcs a/\True) /\
 True) /\
 True) /\
 (decide (x.src<(0:Int))=false ->
 (decide (x.src ≥ (↑I.sup.length:Int))=true ->
 ((((0:Int)=(atA I a).src /\
 (0:Int)=(atA I a).dst /\
 (0:Int)=(atA I a).low/\(0:Int)=(atA I a).cap/\(0:Int)=(atA I a).cost/\(0:Int)=atF I pot a/\(0:Int)=atT I pot a/\True) /\
 false=gOk (↑I.sup.length:Int) I.arcs a/\True) /\
 True) /\
 True) /\
 (decide (x.src ≥ (↑I.sup.length:Int))=false ->
 (decide (x.dst<(0:Int))=true ->
 ((((0:Int)=(atA I a).src /\
 (0:Int)=(atA I a).dst /\
 (0:Int)=(atA I a).low /\
 (0:Int)=(atA I a).cap/\(0:Int)=(atA I a).cost/\(0:Int)=atF I pot a/\(0:Int)=atT I pot a/\True) /\
 false=gOk (↑I.sup.length:Int) I.arcs a/\True) /\
 True) /\
 True) /\
 (decide (x.dst<(0:Int))=false ->
 (decide (x.dst ≥ (↑I.sup.length:Int))=true ->
 ((((0:Int)=(atA I a).src /\
 (0:Int)=(atA I a).dst /\
 (0:Int)=(atA I a).low /\
 (0:Int)=(atA I a).cap/\(0:Int)=(atA I a).cost/\(0:Int)=atF I pot a/\(0:Int)=atT I pot a/\True) /\
 false=gOk (↑I.sup.length:Int) I.arcs a/\True) /\
 True) /\
 True) /\
 (decide (x.dst ≥ (↑I.sup.length:Int))=false ->
 (0:Int) <= x.src /\
 (0:Int) <= x.dst /\
 (((x.src=(atA I a).src /\
 x.dst=(atA I a).dst /\
 x.low=(atA I a).low /\
 x.cap=(atA I a).cap /\
 x.cost=(atA I a).cost/\pot.getD x.src.toNat (0:Int)=atF I pot a/\pot.getD x.dst.toNat (0:Int)=atT I pot a/\True) /\
 true=gOk (↑I.sup.length:Int) I.arcs a/\True) /\
 True) /\
 True))))))
theorem at11_q (I:Inst) (pot:List Int) (a:Int) (ty0 ty1 ty2:TypeId):at11_E0 I pot a ty0 ty1 ty2=z2d TT at11_g (at11_I I pot a) (at11_an I pot a) Tryz.f157 [.agg [.row 0,.row 1],.row 2,.int .i64 a] [(0,.row false ty0 (.ints .i64 I.sup)),(1,.row false ty1 (.arcs I.arcs)),(2,.row false ty2 (.ints .i64 pot))] (at11_r I pot a):=by kernel_rfl
theorem at11_E (I:Inst) (pot:List Int) (a:Int) (ty0 ty1 ty2:TypeId) (hp:True):FVc TT at11_g (at11_I I pot a) (at11_an I pot a) Tryz.f157 [.agg [.row 0,.row 1],.row 2,.int .i64 a] [(0,.row false ty0 (.ints .i64 I.sup)),(1,.row false ty1 (.arcs I.arcs)),(2,.row false ty2 (.ints .i64 pot))] (at11_r I pot a):=by
 refine FVc.of (at11_E0 I pot a ty0 ty1 ty2) (at11_q I pot a ty0 ty1 ty2) ?_
 unfold at11_E0
 have z:gOk I.sup.length I.arcs a=false->(0=(atA I a).src/\0=(atA I a).dst/\0=(atA I a).low/\0=(atA I a).cap/\0=(atA I a).cost/\0=atF I pot a/\0=atT I pot a)/\false=gOk I.sup.length I.arcs a:=fun h=>by
  simp [atA,z6w,atF,atT,h]
 simp only [eq_self,exists_const,forall_const,ne_eq,Int.toNat_natCast,zSS,z06]
 refine ⟨fun h=>z (zl9 (.inl h)),fun h=>⟨fun h2=>z (zl9 (.inr h2)),fun h2=>⟨by omega,by omega,fun x hx=>?_⟩⟩⟩
 have hg:=zh3 (n:=I.sup.length) (a:=a) (by omega) hx
 have no:¬ (0 <= x.src/\x.src<I.sup.length/\0 <= x.dst/\x.dst<I.sup.length)->gOk I.sup.length I.arcs a=false:=fun h=>by
  rw [hg]
  cases ho:z2z (I.sup.length:Int) x with
  | false=>rfl
  | true=>exact absurd (okArc_iff.1 ho) h
 refine ⟨fun h3=>z (no (by omega)),fun h3=>⟨fun h4=>z (no (by omega)),fun h4=>⟨fun h5=>z (no (by omega)),fun h5=>⟨fun h6=>z (no (by omega)),fun h6=>⟨by omega,by omega,?_⟩⟩⟩⟩⟩
 have hgt:gOk I.sup.length I.arcs a=true:=by rw [hg]; exact okArc_iff.2 ⟨by omega,by omega,by omega,by omega⟩
 have hA:atA I a=x:=by unfold atA z6w; rw [if_pos hgt]; simp [List.getD,hx]
 simp [hgt,hA,atF,atT]
theorem at11_ok:SpecOk Tryz.prog at11_n true (z02 true at11_fs) :=
 z0a z0h (show z14 Tryz.prog at11_g from z00 of11_ok (z04)) (by kernel_rfl) mixedOrders Tryz.func157 rfl rfl (by kernel_rfl) (n:=3) (by decide +kernel) (I:=at11_IA) (fun _ _=>z07) (A:=at11_A)
  (fun args h r hr=>by
   unfold at11_fs at hr
   split at hr
   ·rename_i a ty0 I_s ty1 I_a ty2 pot; cases hr; refine ⟨rfl,fun hp=>?_⟩; have hE:=at11_E ⟨I_s,I_a⟩ pot a ty0 ty1 ty2 hp; exact hE
   ·cases hr)
theorem arcs11_ok:SpecOk Tryz.prog arcs11_n false zjk :=
 z4j z0h (show z14 Tryz.prog arcs11_g from z04) (by kernel_rfl) mixedOrders Tryz.func143 rfl rfl (by kernel_rfl) _
abbrev zaa (I:Inst) (g':Nat) (g:Nat) (R:Loop->Prop) (x:List Int) (pot:List Int):=(I.arcs.length - g'<I.arcs.length - g/\((True/\(0=0/\(0=0/\((↑I.arcs.length:Int)=↑I.arcs.length/\(IntKind.i64.wrap ((↑g:Int)+(1:Int))=(↑g':Int)/\True)))))/\(R=R/\((True/\True)/\((True/\(True/\True))/\(((0:Int)=0/\True)/\((True/\True)/\((True/\(True/\True))/\(I.sup=I.sup/\(I.arcs=I.arcs/\(x=x/\(pot=pot/\True))))))))))))
abbrev z83 (I:Inst) (g:Nat) (pot:List Int):=(redA (atA I (↑g:Int)) (atF I pot (↑g:Int)) (atT I pot (↑g:Int)))
abbrev zab (g':Nat) (I:Inst) (x:List Int) (pot:List Int):=(g' <= I.arcs.length/\(∀ (j:Nat),j<g'->z4m I x pot j=true))
abbrev zcz (I:Inst) (g:Nat):=((atA I (↑g:Int)).cap == (4611686018427387904:Int))
def Slack_E0 (I : Inst) (x : List Int) (pot : List Int) (ty0 ty1 ty2 ty3 : TypeId) : Prop :=
   (I.sup.length <= (10000:Nat)/\(I.arcs.length <= (10000:Nat)/\(A64 x/\(A64 I.sup))))/\((z1a I x != (0:Int))=true->(z1a I x=z17 I x pot/\True)/\True)/\((z1a I x != (0:Int))=false->(((↑pot.length:Int) != (↑I.sup.length:Int))=true->((30:Int)=z17 I x pot/\True)/\True)/\(((↑pot.length:Int) != (↑I.sup.length:Int))=false->∀ (R:Loop->Prop),∃ (g0:Nat),((g0 <= I.arcs.length/\(∀ (j:Nat),j<g0->z4m I x pot j=true))/\((True/\(0=0/\(0=0/\((↑I.arcs.length:Int)=↑I.arcs.length/\((0:Int)=↑g0/\True)))))/\(R=R/\((True/\True)/\((True/\(True/\True))/\(((0:Int)=0/\True)/\((True/\True)/\((True/\(True/\True))/\(I.sup=I.sup/\(I.arcs=I.arcs/\(x=x/\(pot=pot/\True))))))))))))/\∀ (g:Nat),(g <= I.arcs.length/\(∀ (j:Nat),j<g->z4m I x pot j=true))->(decide ((↑g:Int)<↑I.arcs.length)=true->True/\(gOk (↑I.sup.length:Int) I.arcs (↑g:Int)=true->R=R/\(I64 (atA I (↑g:Int)).cost/\(I64 (atF I pot (↑g:Int))/\(I64 (atT I pot (↑g:Int)))))/\(decide (sgn (z83 I g pot) > (0:Int))=true->((0:Int) <= ↑g/\((↑g:Int)<↑x.length))/\((↑g:Int).toNat<x.length/\(∀ (x_1:Int),x[(↑g:Int).toNat]? = some x_1->((x_1 != (atA I (↑g:Int)).low)=true->((33:Int)=z17 I x pot/\True)/\True)/\((x_1 != (atA I (↑g:Int)).low)=false->(decide (sgn (z83 I g pot)<(0:Int))=true->((0:Int) <= ↑g/\((↑g:Int)<↑x.length))/\((↑g:Int).toNat<x.length/\(∀ (x_2:Int),x[(↑g:Int).toNat]? = some x_2->((x_2 != (atA I (↑g:Int)).cap)=true->((33:Int)=z17 I x pot/\True)/\True)/\((x_2 != (atA I (↑g:Int)).cap)=false->((zcz I g)=true->((33:Int)=z17 I x pot/\True)/\True)/\((zcz I g)=false->∃ (g':Nat),(zab g' I x pot)/\(zaa I g' g R x pot))))))/\(decide (sgn (z83 I g pot)<(0:Int))=false->∃ (g':Nat),(zab g' I x pot)/\(zaa I g' g R x pot))))))/\(decide (sgn (z83 I g pot) > (0:Int))=false->(decide (sgn (z83 I g pot)<(0:Int))=true->((0:Int) <= ↑g/\((↑g:Int)<↑x.length))/\((↑g:Int).toNat<x.length/\(∀ (x_1:Int),x[(↑g:Int).toNat]? = some x_1->((x_1 != (atA I (↑g:Int)).cap)=true->((33:Int)=z17 I x pot/\True)/\True)/\((x_1 != (atA I (↑g:Int)).cap)=false->((zcz I g)=true->((33:Int)=z17 I x pot/\True)/\True)/\((zcz I g)=false->∃ (g':Nat),(zab g' I x pot)/\(zaa I g' g R x pot))))))/\(decide (sgn (z83 I g pot)<(0:Int))=false->∃ (g':Nat),(zab g' I x pot)/\(zaa I g' g R x pot))))/\(gOk (↑I.sup.length:Int) I.arcs (↑g:Int)=false->∃ (g':Nat),(zab g' I x pot)/\(zaa I g' g R x pot)))/\(decide ((↑g:Int)<↑I.arcs.length)=false->((0:Int)=z17 I x pot/\True)/\True)))
theorem Slack_q (I:Inst) (x:List Int) (pot:List Int) (ty0 ty1 ty2 ty3:TypeId):Slack_E0 I x pot ty0 ty1 ty2 ty3=z2d TT Slack_g (Slack_I I x pot) (Slack_an I x pot) Tryz.f129 [.agg [.row 0,.row 1],.row 2,.row 3] [(0,.row false ty0 (.ints .i64 I.sup)),(1,.row false ty1 (.arcs I.arcs)),(2,.row false ty2 (.ints .i64 x)),(3,.row false ty3 (.ints .i64 pot))] (Slack_r I x pot):=by kernel_rfl
theorem Slack_E (I:Inst) (x:List Int) (pot:List Int) (ty0 ty1 ty2 ty3:TypeId) (hp:I.sup.length <= 10000/\I.arcs.length <= 10000/\A64 x/\A64 I.sup/\A64 pot/\A64c I.arcs):FVc TT Slack_g (Slack_I I x pot) (Slack_an I x pot) Tryz.f129 [.agg [.row 0,.row 1],.row 2,.row 3] [(0,.row false ty0 (.ints .i64 I.sup)),(1,.row false ty1 (.arcs I.arcs)),(2,.row false ty2 (.ints .i64 x)),(3,.row false ty3 (.ints .i64 pot))] (Slack_r I x pot):=by
 refine FVc.of (Slack_E0 I x pot ty0 ty1 ty2 ty3) (Slack_q I x pot ty0 ty1 ty2 ty3) ?_
 unfold Slack_E0
 delta zcz zab z83 zaa
 obtain ⟨p1,p2,p3,p4,p5,p6⟩:=hp
 have bad:∀ j,j<I.arcs.length->z1a I x=0->pot.length=I.sup.length->z4m I x pot j=false->33=z17 I x pot:=fun j hj h1 h2 h3=>by
  unfold z17
  rw [if_neg (by omega),if_neg (by omega),if_neg]
  intro ha
  have:=List.all_eq_true.1 ha j (List.mem_range.2 hj)
  rw [h3] at this; cases this
 have nx:∀ g,g<I.arcs.length->(∀ j,j<g->z4m I x pot j=true)->z4m I x pot g=true->∃ g',(g' <= I.arcs.length/\∀ j,j<g'->z4m I x pot j=true)/\I.arcs.length - g'<I.arcs.length - g/\IntKind.i64.wrap ((g:Int)+1)=(g':Int):=fun g hg h1 h2 =>
  ⟨g+1,⟨by omega,fun j hj=>by
   by_cases e:j=g
   ·subst e; exact h2
   ·exact h1 j (by omega)⟩,by omega,by rw [w64 (by omega) (by omega)]; omega⟩
 simp only [eq_self,exists_const,forall_const,ne_eq,Int.toNat_natCast,zSS,z06]
 refine ⟨⟨p1,p2,p3,p4⟩,fun h=>by unfold z17; rw [if_pos h],fun hf=>⟨fun h=>by unfold z17; rw [if_neg (by omega),if_pos (by omega)],fun hl=>⟨0,⟨⟨by omega,fun j hj=>by omega⟩,rfl⟩,fun g hg=>⟨fun h1=>?_,fun h1=>?_⟩⟩⟩⟩
 ·have hz:=fitsF_zero.1 hf
  have hgl:g<I.arcs.length:=by omega
  have hgx:g<x.length:=by omega
  obtain ⟨b,hb⟩:∃ b,I.arcs[g]? = some b:=⟨_,List.getElem?_eq_getElem hgl⟩
  obtain ⟨y,hy⟩:∃ y,x[g]? = some y:=⟨_,List.getElem?_eq_getElem hgx⟩
  have ho:=(z1h hz.1 (List.mem_of_getElem? hb)).1
  have hgk:gOk I.sup.length I.arcs (g:Int)=true:=by rw [zh3 (by omega) (by rw [Int.toNat_natCast]; exact hb)]; exact ho
  have hA:=atA_get hb ho
  have hr:redA (atA I g) (atF I pot g) (atT I pot g)=redF I pot g:=by unfold redF; rw [if_pos hgk]
  have hbd:I.arcs.getD g default=b:=by simp [List.getD,hb]
  have hyd:x.getD g 0=y:=by simp [List.getD,hy]
  have key:z4m I x pot g=z5r (redF I pot g) y b:=by unfold z4m; rw [hbd,hyd]
  refine ⟨fun _=>⟨at_ok p5 p6,?_⟩,fun h=>by rw [hgk] at h; cases h⟩
  have B:=bad g hgl hf (by omega)
  have N:=nx g hgl hg.2
  rw [key] at B N
  rw [hr,hA]
  simp only [hy,Option.some.injEq,forall_eq']
  have q1:(0:Int) <= g:=by omega
  have q2:(g:Int)<x.length:=by omega
  unfold z5r inf at B N
  generalize redF I pot g=r at *
  refine ⟨fun c1=>⟨⟨q1,q2⟩,hgx,fun c2=>B (by simp [show 0<sgn r from c1,c2]),fun c2=>⟨fun c3=>by omega,fun c3=>N (by simp [c3,c2])⟩⟩,fun c1=>⟨fun c3=>⟨⟨q1,q2⟩,hgx,fun c4=>B (by simp [c3,c4]),fun c4=>⟨fun c5=>B (by simp [c3,c5]),fun c5=>N (by simp [show ¬ 0<sgn r from c1,c4,c5])⟩⟩,fun c3=>N (by simp [show ¬ 0<sgn r from c1,c3])⟩⟩
 ·have:(List.range I.arcs.length).all (z4m I x pot)=true:=List.all_eq_true.2 fun j hj=>hg.2 j (by have:=List.mem_range.1 hj; omega)
  unfold z17
  rw [if_neg (by omega),if_neg (by omega),if_pos this]
theorem Slack_i0_ok (I:Inst) (x:List Int) (pot:List Int):zbk Tryz.prog 156 (Slack_i0 I x pot) :=
 inlI_ok z0h (show z14 Tryz.prog Slack_i0g from z00 at11_ok (z04)) (by kernel_rfl) mixedOrders Tryz.func156 rfl rfl (fun key spec=>by kernel_rfl) _
theorem Slack_ok:SpecOk Tryz.prog Slack_n true (z02 true Slack_fs) :=
 z0a z0h (show z14 Tryz.prog Slack_g from z00 Fits_ok (z00 arcs11_ok (z00 sign_ok (z04)))) (by kernel_rfl) mixedOrders Tryz.func129 rfl rfl (by kernel_rfl) (n:=3) (by decide +kernel) (I:=Slack_IA) (fun args h=>by
   unfold Slack_IA
   split
   ·exact zdb (Slack_i0_ok _ _ _) (z07)
   ·exact z07) (A:=Slack_A)
  (fun args h r hr=>by
   unfold Slack_fs at hr
   split at hr
   ·rename_i ty0 I_s ty1 I_a ty2 x ty3 pot; cases hr; refine ⟨rfl,fun hp=>?_⟩; have hE:=Slack_E ⟨I_s,I_a⟩ x pot ty0 ty1 ty2 ty3 hp; exact hE
   ·cases hr)
end Go.Proofs.YtapeenpimcffpaaGreat
end
section
namespace Go.Ql
open Go Go.RowKit Go.Vc
def z4u (I:Inst) (a:Int):Bool:=decide (0 <= a) && decide (a<I.arcs.length)
def z53 (I:Inst) (a:Int):Arc:=I.arcs.getD a.toNat default
def rayD (I:Inst) (a:Int):Int:=if z4u I a then (z53 I a).cost else 0
def z92 (I:Inst) (l:List Int):Nat->Int
 | 0=>0
 | k+1=>z92 I l k+rayD I (l.getD k 0)
def rayS (I:Inst) (l:List Int):Int:=z92 I l l.length
def c1F (I:Inst) (l:List Int):Bool:=l.all (z4u I)
def c2F (l:List Int):Bool:=decide l.Nodup
def linkF (I:Inst) (l:List Int) (k:Nat):Bool:=decide ((z53 I (l.getD k 0)).dst=(z53 I (l.getD ((k+1) % l.length) 0)).src)
def c3F (I:Inst) (l:List Int):Bool:=(List.range l.length).all (linkF I l)
def c4F (I:Inst) (l:List Int):Bool:=l.all fun a=>decide ((z53 I a).cap=inf)
def c5F (I:Inst) (l:List Int):Bool:=decide (wcmp (W (rayS I l)) (W 0)<0)
def z21 (I:Inst) (l:List Int):Int :=
 if z05 I ≠ 0 then z05 I else if l.length=0 ∨ I.arcs.length<l.length then 30
 else if c1F I l && c2F l && c3F I l && c4F I l && c5F I l then 0 else 35
def metM (l:List Int):List (List Int × Int):=l.map fun a=>([a],1)
def nodI (l:List Int):Prop:=l.Nodup
theorem all_take {p:Int->Bool} {l:List Int} {k:Nat} {x:Int} (h:l[k]? = some x):(l.take (k+1)).all p=((l.take k).all p && p x):=by rw [z1i h,List.all_append]; simp
theorem all_not {p:Int->Bool} {l:List Int} {k:Nat} {x:Int} (h:l[k]? = some x) (hp:p x=false):l.all p=false:=by
 cases ha:l.all p with
 | false=>rfl
 | true=>have:=List.all_eq_true.1 ha x (List.mem_of_getElem? h); rw [hp] at this; cases this
theorem all_end {p:Int->Bool} {l:List Int} {k:Nat} (h:(l.take k).all p=true) (hk:l.length <= k):l.all p=true:=by rw [List.take_of_length_le hk] at h; exact h
theorem mget_metM (x:Int):∀ l:List Int,mget (metM l) [x]=if x ∈ l then some 1 else none
 | []=>rfl
 | y :: l=>by
  have ih:=mget_metM x l
  simp only [metM,List.map_cons,mget,List.cons.injEq,and_true,List.mem_cons] at ih ⊢
  by_cases e:x=y
  ·simp [e]
  ·simp only [e,if_false,false_or]; exact ih
theorem mput_metM {x:Int}:∀ {l:List Int},x ∉ l->mput (metM l) [x] 1=metM (l ++ [x])
 | [],_=>rfl
 | y :: l,h=>by
  have h1:¬ x=y:=fun e=>h (by simp [e])
  have ih:=mput_metM (x:=x) (l:=l) (fun e=>h (by simp [e]))
  simp only [metM,List.cons_append,List.map_cons,mput,List.cons.injEq,and_true,h1,if_false] at ih ⊢
  rw [ih]
  simp
theorem nodI_take {l:List Int} {k:Nat} {x:Int} (h:l[k]? = some x) (h1:nodI (l.take k)) (h2:x ∉ l.take k):nodI (l.take (k+1)):=by
 unfold nodI at *
 rw [z1i h,List.nodup_append]
 exact ⟨h1,by simp,fun a ha b hb=>by simp at hb; subst hb; exact fun e=>h2 (e ▸ ha)⟩
theorem nodI_not {l:List Int} {k:Nat} {x:Int} (h:l[k]? = some x) (h2:x ∈ l.take k):c2F l=false:=by
 unfold c2F
 refine decide_eq_false fun hn=>?_
 have hd:l=l.take k ++ l.drop k:=(List.take_append_drop k l).symm
 rw [hd,List.nodup_append] at hn
 refine hn.2.2 x h2 x ?_ rfl
 rw [z47 h]; simp
theorem nodI_end {l:List Int} {k:Nat} (h:nodI (l.take k)) (hk:l.length <= k):c2F l=true:=by
 unfold nodI at h
 rw [List.take_of_length_le hk] at h
 exact decide_eq_true h
theorem z6b {I:Inst} {x:Int} {a:Arc} (h:I.arcs[x.toNat]? = some a):z53 I x=a:=by simp [z53,List.getD,h]
theorem isArcF_iff {I:Inst} {x:Int}:z4u I x=true ↔ 0 <= x/\x<I.arcs.length:=by simp [z4u]
theorem c1F_get {I:Inst} {l:List Int} {k:Nat} {x:Int} (h:c1F I l=true) (hx:l[k]? = some x):0 <= x/\x<I.arcs.length:=isArcF_iff.1 (List.all_eq_true.1 h x (List.mem_of_getElem? hx))
end Go.Ql
end
section
namespace Go.Proofs.YtapeenpimcffpaaGreat
open Go Go.RowKit Go.Ql Go.Vc
def isArc_r (I:Inst) (a:Int):FRes:={ pre:=True,res:=.bool (z4u I a),rows:=[],eff:=[] }
def zhx:FS:=fun args h=>match args,h with
 | [.agg [.row 0,.row 1],.int .i64 a],[(0,.row false ty0 (.ints .i64 I_s)),(1,.row false ty1 (.arcs I_a))]=>some (isArc_r ⟨I_s,I_a⟩ a)
 | _,_=>none
def isArc_an (I:Inst) (a:Int):List (Nat × Ann):=[]
def isArc_A:List SV->z0e->List (Nat × Ann):=fun _ _=>[]
def isArc_g:z0c:=[]
abbrev isArc_n:Nat:=163
def isArc_I (I:Inst) (a:Int):List (Nat × z09):=[]
def isArc_IA:List SV->z0e->List (Nat × z09):=fun _ _=>[]
def Sum12_r (I:Inst) (l:List Int):FRes:={ pre:=A64c I.arcs/\l.length <= 140737488351232,res:=.agg (z1f (W (rayS I l))),rows:=[],eff:=[] }
def Sum12_fs:FS:=fun args h=>match args,h with
 | [.agg [.row 0,.row 1],.row 2],[(0,.row false ty0 (.ints .i64 I_s)),(1,.row false ty1 (.arcs I_a)),(2,.row false ty2 (.ints .i64 l))]=>some (Sum12_r ⟨I_s,I_a⟩ l)
 | _,_=>none
def Sum12_an (I:Inst) (l:List Int):List (Nat × Ann):=[(3,{ G:=(Nat),inv:=fun k=>⟨[(2,.ptr 3 0 0 0),(4,.ptr 4 0 0 0),(5,.ptr 5 0 0 0),(8,.row 2),(9,.int .i64 (↑l.length:Int)),(10,.int .i64 k)],[(5,.box true 54 (z1f (W (z92 I l k)))),(4,.box true 54 [.int .i64 (0:Int),.int .u64 (0:Int)]),(3,.box true 25 [.row 0,.row 1]),(0,.row false 0 (.ints .i64 I.sup)),(1,.row false 0 (.arcs I.arcs)),(2,.row false 0 (.ints .i64 l))],6⟩,rel:=fun k0 k=>k <= l.length,meas:=fun k=>l.length - k })]
def Sum12_A:List SV->z0e->List (Nat × Ann):=fun args h=>match args,h with
 | [.agg [.row 0,.row 1],.row 2],[(0,.row false ty0 (.ints .i64 I_s)),(1,.row false ty1 (.arcs I_a)),(2,.row false ty2 (.ints .i64 l))]=>Sum12_an ⟨I_s,I_a⟩ l
 | _,_=>[]
def Sum12_g:z0c:=[(isArc_n,(true,z02 true zhx)),(zgy,(true,z02 true z82)),(Of_n,(true,z02 true zcy))]
abbrev Sum12_n:Nat:=168
def Sum12_I (I:Inst) (l:List Int):List (Nat × z09):=[]
def Sum12_IA:List SV->z0e->List (Nat × z09):=fun _ _=>[]
def asked1_r (l:List Int) (I:Inst):FRes:={ pre:=l.length <= 140737488351232,res:=.bool (c1F I l),rows:=[],eff:=[] }
def zjp:FS:=fun args h=>match args,h with
 | [.ptr 0 0 0 0,.ptr 2 0 0 0],[(0,.box false 29 [.row 1]),(1,.row false ty1 (.ints .i64 l)),(2,.box false 25 [.row 3,.row 4]),(3,.row false ty3 (.ints .i64 I_s)),(4,.row false ty4 (.arcs I_a))]=>some (asked1_r l ⟨I_s,I_a⟩)
 | _,_=>none
def zjo (l:List Int) (I:Inst):List (Nat × Ann):=[(2,{ G:=(Nat),inv:=fun k=>⟨[(1,.ptr 2 0 0 0),(5,.row 1),(6,.int .i64 (↑l.length:Int)),(7,.int .i64 k)],[(1,.row false 0 (.ints .i64 l)),(2,.box false 25 [.row 3,.row 4]),(3,.row false 0 (.ints .i64 I.sup)),(4,.row false 0 (.arcs I.arcs))],5⟩,rel:=fun k0 k=>k <= l.length/\(l.take k).all (z4u I)=true,meas:=fun k=>l.length - k })]
def asked1_A:List SV->z0e->List (Nat × Ann):=fun args h=>match args,h with
 | [.ptr 0 0 0 0,.ptr 2 0 0 0],[(0,.box false 29 [.row 1]),(1,.row false ty1 (.ints .i64 l)),(2,.box false 25 [.row 3,.row 4]),(3,.row false ty3 (.ints .i64 I_s)),(4,.row false ty4 (.arcs I_a))]=>zjo l ⟨I_s,I_a⟩
 | _,_=>[]
def asked1_g:z0c:=[(isArc_n,(true,z02 true zhx))]
abbrev asked1_n:Nat:=162
def asked1_I (l:List Int) (I:Inst):List (Nat × z09):=[]
def asked1_IA:List SV->z0e->List (Nat × z09):=fun _ _=>[]
def asked2_r (l:List Int):FRes:={ pre:=l.length <= 140737488351232,res:=.bool (c2F l),rows:=[],eff:=[] }
def zjs:FS:=fun args h=>match args,h with
 | [.ptr 0 0 0 0],[(0,.box false 29 [.row 1]),(1,.row false ty1 (.ints .i64 l))]=>some (asked2_r l)
 | _,_=>none
def zjr (l:List Int):List (Nat × Ann):=[(3,{ G:=(Nat),inv:=fun k=>⟨[(2,.row 2),(6,.row 1),(7,.int .i64 (↑l.length:Int)),(8,.int .i64 k)],[(2,.map [.i64] .bool (metM (l.take k))),(1,.row false 0 (.ints .i64 l))],3⟩,rel:=fun k0 k=>k <= l.length/\nodI (l.take k),meas:=fun k=>l.length - k })]
def asked2_A:List SV->z0e->List (Nat × Ann):=fun args h=>match args,h with
 | [.ptr 0 0 0 0],[(0,.box false 29 [.row 1]),(1,.row false ty1 (.ints .i64 l))]=>zjr l
 | _,_=>[]
def asked2_g:z0c:=[]
abbrev asked2_n:Nat:=164
def asked2_I (l:List Int):List (Nat × z09):=[]
def asked2_IA:List SV->z0e->List (Nat × z09):=fun _ _=>[]
def asked3_r (l:List Int) (I:Inst):FRes:={ pre:=l.length <= 140737488351232/\c1F I l=true,res:=.bool (c3F I l),rows:=[],eff:=[] }
def zjv:FS:=fun args h=>match args,h with
 | [.ptr 0 0 0 0,.ptr 2 0 0 0],[(0,.box false 29 [.row 1]),(1,.row false ty1 (.ints .i64 l)),(2,.box false 25 [.row 3,.row 4]),(3,.row false ty3 (.ints .i64 I_s)),(4,.row false ty4 (.arcs I_a))]=>some (asked3_r l ⟨I_s,I_a⟩)
 | _,_=>none
def zju (l:List Int) (I:Inst):List (Nat × Ann):=[(2,{ G:=(Nat),inv:=fun k=>⟨[(0,.ptr 0 0 0 0),(1,.ptr 2 0 0 0),(6,.row 1),(7,.int .i64 (↑l.length:Int)),(8,.int .i64 k)],[(0,.box false 29 [.row 1]),(1,.row false 0 (.ints .i64 l)),(2,.box false 25 [.row 3,.row 4]),(3,.row false 0 (.ints .i64 I.sup)),(4,.row false 0 (.arcs I.arcs))],5⟩,rel:=fun k0 k=>k <= l.length/\∀ j,j<k->linkF I l j=true,meas:=fun k=>l.length - k })]
def asked3_A:List SV->z0e->List (Nat × Ann):=fun args h=>match args,h with
 | [.ptr 0 0 0 0,.ptr 2 0 0 0],[(0,.box false 29 [.row 1]),(1,.row false ty1 (.ints .i64 l)),(2,.box false 25 [.row 3,.row 4]),(3,.row false ty3 (.ints .i64 I_s)),(4,.row false ty4 (.arcs I_a))]=>zju l ⟨I_s,I_a⟩
 | _,_=>[]
def asked3_g:z0c:=[]
abbrev asked3_n:Nat:=165
def asked3_I (l:List Int) (I:Inst):List (Nat × z09):=[]
def asked3_IA:List SV->z0e->List (Nat × z09):=fun _ _=>[]
def asked4_r (l:List Int) (I:Inst):FRes:={ pre:=l.length <= 140737488351232/\c1F I l=true,res:=.bool (c4F I l),rows:=[],eff:=[] }
def zjy:FS:=fun args h=>match args,h with
 | [.ptr 0 0 0 0,.ptr 2 0 0 0],[(0,.box false 29 [.row 1]),(1,.row false ty1 (.ints .i64 l)),(2,.box false 25 [.row 3,.row 4]),(3,.row false ty3 (.ints .i64 I_s)),(4,.row false ty4 (.arcs I_a))]=>some (asked4_r l ⟨I_s,I_a⟩)
 | _,_=>none
def zjx (l:List Int) (I:Inst):List (Nat × Ann):=[(2,{ G:=(Nat),inv:=fun k=>⟨[(1,.ptr 2 0 0 0),(5,.row 1),(6,.int .i64 (↑l.length:Int)),(7,.int .i64 k)],[(1,.row false 0 (.ints .i64 l)),(2,.box false 25 [.row 3,.row 4]),(3,.row false 0 (.ints .i64 I.sup)),(4,.row false 0 (.arcs I.arcs))],5⟩,rel:=fun k0 k=>k <= l.length/\(l.take k).all (fun a=>decide ((z53 I a).cap=inf))=true,meas:=fun k=>l.length - k })]
def asked4_A:List SV->z0e->List (Nat × Ann):=fun args h=>match args,h with
 | [.ptr 0 0 0 0,.ptr 2 0 0 0],[(0,.box false 29 [.row 1]),(1,.row false ty1 (.ints .i64 l)),(2,.box false 25 [.row 3,.row 4]),(3,.row false ty3 (.ints .i64 I_s)),(4,.row false ty4 (.arcs I_a))]=>zjx l ⟨I_s,I_a⟩
 | _,_=>[]
def asked4_g:z0c:=[]
abbrev asked4_n:Nat:=166
def asked4_I (l:List Int) (I:Inst):List (Nat × z09):=[]
def asked4_IA:List SV->z0e->List (Nat × z09):=fun _ _=>[]
def asked5_r (I:Inst) (l:List Int):FRes:={ pre:=l.length <= 140737488351232/\A64c I.arcs,res:=.bool (c5F I l),rows:=[],eff:=[] }
def zk0:FS:=fun args h=>match args,h with
 | [.ptr 0 0 0 0,.ptr 3 0 0 0],[(0,.box false 25 [.row 1,.row 2]),(1,.row false ty1 (.ints .i64 I_s)),(2,.row false ty2 (.arcs I_a)),(3,.box false 29 [.row 4]),(4,.row false ty4 (.ints .i64 l))]=>some (asked5_r ⟨I_s,I_a⟩ l)
 | _,_=>none
def asked5_an (I:Inst) (l:List Int):List (Nat × Ann):=[]
def asked5_A:List SV->z0e->List (Nat × Ann):=fun _ _=>[]
def asked5_g:z0c:=[(Sum12_n,(true,z02 true Sum12_fs)),(Of_n,(true,z02 true zcy)),(zcv,(true,z02 true z7e))]
abbrev asked5_n:Nat:=167
def asked5_I (I:Inst) (l:List Int):List (Nat × z09):=[]
def asked5_IA:List SV->z0e->List (Nat × z09):=fun _ _=>[]
abbrev asked_n:Nat:=149
def asked_g:z0c:=[]
def asked_spec:Vc.Spec:=z2c TT asked_g (fun _ _ _=>[]) Tryz.f149
def Turns_r (I:Inst) (l:List Int):FRes:={ pre:=l.length <= 140737488351232/\A64c I.arcs,res:=.int .u16 (z21 I l),rows:=[],eff:=[] }
def Turns_fs:FS:=fun args h=>match args,h with
 | [.agg [.row 0,.row 1],.row 2],[(0,.row false ty0 (.ints .i64 I_s)),(1,.row false ty1 (.arcs I_a)),(2,.row false ty2 (.ints .i64 l))]=>some (Turns_r ⟨I_s,I_a⟩ l)
 | _,_=>none
def Turns_an (I:Inst) (l:List Int):List (Nat × Ann):=[(7,{ G:=(Nat),inv:=fun k=>⟨[(26,.row 7),(27,.int .i64 (↑5:Int)),(28,.int .i64 k)],[(7,.vec 35 [.fn 162 [.ptr 5 0 0 0,.ptr 4 0 0 0],.fn 164 [.ptr 5 0 0 0],.fn 165 [.ptr 5 0 0 0,.ptr 4 0 0 0],.fn 166 [.ptr 5 0 0 0,.ptr 4 0 0 0],.fn 167 [.ptr 4 0 0 0,.ptr 5 0 0 0]]),(5,.box true 29 [.row 2]),(4,.box true 25 [.row 0,.row 1]),(0,.row false 0 (.ints .i64 I.sup)),(1,.row false 0 (.arcs I.arcs)),(2,.row false 0 (.ints .i64 l))],8⟩,rel:=fun k0 k=>k <= 5/\(1 <= k->c1F I l=true)/\(2 <= k->c2F l=true)/\(3 <= k->c3F I l=true)/\(4 <= k->c4F I l=true)/\(5 <= k->c5F I l=true),meas:=fun k=>5 - k })]
def Turns_A:List SV->z0e->List (Nat × Ann):=fun args h=>match args,h with
 | [.agg [.row 0,.row 1],.row 2],[(0,.row false ty0 (.ints .i64 I_s)),(1,.row false ty1 (.arcs I_a)),(2,.row false ty2 (.ints .i64 l))]=>Turns_an ⟨I_s,I_a⟩ l
 | _,_=>[]
def Turns_g:z0c:=[(zbw,(true,z02 true z6y)),(asked_n,(false,asked_spec)),(asked1_n,(true,z02 true zjp)),(asked2_n,(true,z02 true zjs)),(asked3_n,(true,z02 true zjv)),(asked4_n,(true,z02 true zjy)),(asked5_n,(true,z02 true zk0))]
abbrev Turns_n:Nat:=134
def Turns_I (I:Inst) (l:List Int):List (Nat × z09):=[]
def Turns_IA:List SV->z0e->List (Nat × z09):=fun _ _=>[]
end Go.Proofs.YtapeenpimcffpaaGreat
end
