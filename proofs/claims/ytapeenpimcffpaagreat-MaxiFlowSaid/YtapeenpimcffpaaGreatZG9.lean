/- Part of the proof: FR12, DS12, FS12, Trim, Law03, Trim2, Law15, Odd, TrimL, Cert, DK13, FK13, CertOne, Solve. -/
import Derived.Test.YtapeenpimcffpaaGreatZG7
import Derived.Test.YtapeenpimcffpaaGreatZG8
import Derived.Test.YtapeenpimcffpaaGreatZG5
import Derived.Test.YtapeenpimcffpaaGreatZG1
set_option linter.unusedVariables false
set_option linter.all false
set_option linter.unusedSimpArgs false
set_option maxRecDepth 1000000
section
namespace Go.Proofs.YtapeenpimcffpaaGreat
open Go Go.RowKit Go.Ql Go.Vc
def isArc_E0 (I : Inst) (a : Int) (ty0 ty1 : TypeId) : Prop :=
   (decide (a ≥ (0:Int))=true->(decide (a<(↑I.arcs.length:Int))=z4u I a/\True)/\True)/\(decide (a ≥ (0:Int))=false->(false=z4u I a/\True)/\True)
theorem isArc_q (I:Inst) (a:Int) (ty0 ty1:TypeId):isArc_E0 I a ty0 ty1=z2d TT isArc_g (isArc_I I a) (isArc_an I a) Tryz.f163 [.agg [.row 0,.row 1],.int .i64 a] [(0,.row false ty0 (.ints .i64 I.sup)),(1,.row false ty1 (.arcs I.arcs))] (isArc_r I a):=by kernel_rfl
theorem isArc_E (I:Inst) (a:Int) (ty0 ty1:TypeId) (hp:True):FVc TT isArc_g (isArc_I I a) (isArc_an I a) Tryz.f163 [.agg [.row 0,.row 1],.int .i64 a] [(0,.row false ty0 (.ints .i64 I.sup)),(1,.row false ty1 (.arcs I.arcs))] (isArc_r I a):=by
 refine FVc.of (isArc_E0 I a ty0 ty1) (isArc_q I a ty0 ty1) ?_
 unfold isArc_E0
 simp only [eq_self,exists_const,forall_const,ne_eq,Int.toNat_natCast,zSS,z06]
 refine ⟨fun h=>?_,fun h=>?_⟩
 ·simp [z4u,show 0 <= a by omega]
 ·simp [z4u,show ¬ 0 <= a by omega]
theorem isArc_ok:SpecOk Tryz.prog isArc_n true (z02 true zhx) :=
 z0a z0h (show z14 Tryz.prog isArc_g from z04) (by kernel_rfl) mixedOrders Tryz.func163 rfl rfl (by kernel_rfl) (n:=2) (by decide +kernel) (I:=isArc_IA) (fun _ _=>z07) (A:=isArc_A)
  (fun args h r hr=>by
   unfold zhx at hr
   split at hr
   ·rename_i a ty0 I_s ty1 I_a; cases hr; refine ⟨rfl,fun hp=>?_⟩; have hE:=isArc_E ⟨I_s,I_a⟩ a ty0 ty1 hp; exact hE
   ·cases hr)
def Sum12_E0 (I : Inst) (l : List Int) (ty0 ty1 ty2 : TypeId) : Prop :=
      ∃ (g0:Nat),
 (g0 <= l.length /\
 ((0:Nat)=(0:Nat)/\(0:Nat)=(0:Nat)/\(0:Nat)=(0:Nat)/\True/\(↑l.length:Int)=(↑l.length:Int)/\(0:Int)=(↑g0:Int)/\True) /\
 ((0:Int)=(W (z92 I l g0)).hi/\(0:Int)=(W (z92 I l g0)).lo/\True) /\
 ((0:Int)=(0:Int)/\(0:Int)=(0:Int)/\True)/\(True/\True/\True)/\I.sup=I.sup/\I.arcs=I.arcs/\l=l/\True) /\
 ∀ (g:Nat),
 g <= l.length ->
 (decide ((↑g:Int)<(↑l.length:Int))=true ->
 ((0:Int) <= (↑g:Int)/\(↑g:Int)<(↑l.length:Int)) /\
 (↑g:Int).toNat<l.length /\
 ∀ (x:Int),
 l[(↑g:Int).toNat]? = some x ->
 True /\
 (z4u I x=true ->
 ((0:Int) <= x/\x<(↑I.arcs.length:Int)) /\
 x.toNat<I.arcs.length /\
 ∀ (x_1:Arc),
 I.arcs[x.toNat]? = some x_1 ->
 I64 x_1.cost /\
 ((W (z92 I l g)).ok/\(W x_1.cost).ok) /\
 ∃ (g':Nat),
 g' <= l.length /\
 l.length - g'<l.length - g /\
 ((0:Nat)=(0:Nat) /\
 (0:Nat)=(0:Nat) /\
 (0:Nat)=(0:Nat) /\
 True/\(↑l.length:Int)=(↑l.length:Int)/\IntKind.i64.wrap ((↑g:Int)+(1:Int))=(↑g':Int)/\True) /\
 ((z7z (W (z92 I l g)) (W x_1.cost)).hi=(W (z92 I l g')).hi /\
 (z7z (W (z92 I l g)) (W x_1.cost)).lo=(W (z92 I l g')).lo/\True) /\
 ((0:Int)=(0:Int)/\(0:Int)=(0:Int)/\True)/\(True/\True/\True)/\I.sup=I.sup/\I.arcs=I.arcs/\l=l/\True) /\
 (z4u I x=false ->
 ∃ (g':Nat),
 g' <= l.length /\
 l.length - g'<l.length - g /\
 ((0:Nat)=(0:Nat) /\
 (0:Nat)=(0:Nat) /\
 (0:Nat)=(0:Nat)/\True/\(↑l.length:Int)=(↑l.length:Int)/\IntKind.i64.wrap ((↑g:Int)+(1:Int))=(↑g':Int)/\True) /\
 ((W (z92 I l g)).hi=(W (z92 I l g')).hi/\(W (z92 I l g)).lo=(W (z92 I l g')).lo/\True) /\
 ((0:Int)=(0:Int)/\(0:Int)=(0:Int)/\True)/\(True/\True/\True)/\I.sup=I.sup/\I.arcs=I.arcs/\l=l/\True)) /\
 (decide ((↑g:Int)<(↑l.length:Int))=false->(((W (z92 I l g)).hi=(W (rayS I l)).hi/\(W (z92 I l g)).lo=(W (rayS I l)).lo/\True)/\True)/\True)
theorem Sum12_q (I:Inst) (l:List Int) (ty0 ty1 ty2:TypeId):Sum12_E0 I l ty0 ty1 ty2=z2d TT Sum12_g (Sum12_I I l) (Sum12_an I l) Tryz.f168 [.agg [.row 0,.row 1],.row 2] [(0,.row false ty0 (.ints .i64 I.sup)),(1,.row false ty1 (.arcs I.arcs)),(2,.row false ty2 (.ints .i64 l))] (Sum12_r I l):=by kernel_rfl
theorem Sum12_E (I:Inst) (l:List Int) (ty0 ty1 ty2:TypeId) (hp:A64c I.arcs/\l.length <= 140737488351232):FVc TT Sum12_g (Sum12_I I l) (Sum12_an I l) Tryz.f168 [.agg [.row 0,.row 1],.row 2] [(0,.row false ty0 (.ints .i64 I.sup)),(1,.row false ty1 (.arcs I.arcs)),(2,.row false ty2 (.ints .i64 l))] (Sum12_r I l):=by
 refine FVc.of (Sum12_E0 I l ty0 ty1 ty2) (Sum12_q I l ty0 ty1 ty2) ?_
 unfold Sum12_E0
 obtain ⟨p1,p2⟩:=hp
 simp only [eq_self,exists_const,forall_const,ne_eq,Int.toNat_natCast,zSS,z06]
 refine ⟨0,⟨Nat.zero_le _,rfl,by simp only [z92]; decide,by simp only [z92]; decide⟩,fun g hg=>⟨fun h1=>⟨by omega,by omega,fun x hx=>?_⟩,fun h1=>?_⟩⟩
 ·have wk:IntKind.i64.wrap ((g:Int)+1)=((g+1:Nat):Int):=by rw [w64 (by omega) (by omega)]; omega
  have hd:l.getD g 0=x:=by simp [List.getD,hx]
  refine ⟨fun h2=>⟨isArcF_iff.1 h2,by have:=isArcF_iff.1 h2; omega,fun a ha=>⟨p1 a (List.mem_of_getElem? ha),⟨zf1 _,zf1 _⟩,g+1,by omega,by omega,wk,?_⟩⟩,fun h2=>⟨g+1,by omega,by omega,wk,?_⟩⟩
  ·simp only [z92,hd,rayD,h2,if_true,z6b ha,za8,and_self]
  ·simp only [z92,hd,rayD,h2,if_false,Int.add_zero,Bool.false_eq_true,and_self]
 ·rw [show g=l.length by omega]
  exact ⟨rfl,rfl⟩
theorem Sum12_ok:SpecOk Tryz.prog Sum12_n true (z02 true Sum12_fs) :=
 z0a z0h (show z14 Tryz.prog Sum12_g from z00 isArc_ok (z00 zbv (z00 zhk (z04)))) (by kernel_rfl) mixedOrders Tryz.func168 rfl rfl (by kernel_rfl) (n:=2) (by decide +kernel) (I:=Sum12_IA) (fun _ _=>z07) (A:=Sum12_A)
  (fun args h r hr=>by
   unfold Sum12_fs at hr
   split at hr
   ·rename_i ty0 I_s ty1 I_a ty2 l; cases hr; refine ⟨rfl,fun hp=>?_⟩; have hE:=Sum12_E ⟨I_s,I_a⟩ l ty0 ty1 ty2 hp; exact hE
   ·cases hr)
def zjn (l : List Int) (I : Inst) (ty1 ty3 ty4 : TypeId) : Prop :=
      ∃ (g0:Nat),
 ((g0 <= l.length/\(List.take g0 l).all (z4u I)=true) /\
 ((0:Nat)=(0:Nat)/\True/\(↑l.length:Int)=(↑l.length:Int)/\(0:Int)=(↑g0:Int)/\True) /\
 l=l/\(True/\True/\True)/\I.sup=I.sup/\I.arcs=I.arcs/\True) /\
 ∀ (g:Nat),
 g <= l.length/\(List.take g l).all (z4u I)=true ->
 (decide ((↑g:Int)<(↑l.length:Int))=true ->
 ((0:Int) <= (↑g:Int)/\(↑g:Int)<(↑l.length:Int)) /\
 (↑g:Int).toNat<l.length /\
 ∀ (x:Int),
 l[(↑g:Int).toNat]? = some x ->
 True /\
 ((!z4u I x)=true->(false=c1F I l/\True)/\True) /\
 ((!z4u I x)=false ->
 ∃ (g':Nat),
 (g' <= l.length/\(List.take g' l).all (z4u I)=true) /\
 l.length - g'<l.length - g /\
 ((0:Nat)=(0:Nat)/\True/\(↑l.length:Int)=(↑l.length:Int)/\IntKind.i64.wrap ((↑g:Int)+(1:Int))=(↑g':Int)/\True) /\
 l=l/\(True/\True/\True)/\I.sup=I.sup/\I.arcs=I.arcs/\True)) /\
 (decide ((↑g:Int)<(↑l.length:Int))=false->(true=c1F I l/\True)/\True)
theorem asked1_q (l:List Int) (I:Inst) (ty1 ty3 ty4:TypeId):zjn l I ty1 ty3 ty4=z2d TT asked1_g (asked1_I l I) (zjo l I) Tryz.f162 [.ptr 0 0 0 0,.ptr 2 0 0 0] [(0,.box false 29 [.row 1]),(1,.row false ty1 (.ints .i64 l)),(2,.box false 25 [.row 3,.row 4]),(3,.row false ty3 (.ints .i64 I.sup)),(4,.row false ty4 (.arcs I.arcs))] (asked1_r l I):=by kernel_rfl
theorem asked1_E (l:List Int) (I:Inst) (ty1 ty3 ty4:TypeId) (hp:l.length <= 140737488351232):FVc TT asked1_g (asked1_I l I) (zjo l I) Tryz.f162 [.ptr 0 0 0 0,.ptr 2 0 0 0] [(0,.box false 29 [.row 1]),(1,.row false ty1 (.ints .i64 l)),(2,.box false 25 [.row 3,.row 4]),(3,.row false ty3 (.ints .i64 I.sup)),(4,.row false ty4 (.arcs I.arcs))] (asked1_r l I):=by
 refine FVc.of (zjn l I ty1 ty3 ty4) (asked1_q l I ty1 ty3 ty4) ?_
 unfold zjn
 simp only [eq_self,exists_const,forall_const,ne_eq,Int.toNat_natCast,zSS,z06]
 refine ⟨0,⟨⟨by omega,rfl⟩,rfl⟩,fun g hg=>⟨fun h1=>⟨by omega,by omega,fun x hx=>⟨fun h2=>(all_not hx h2).symm,fun h2=>⟨g+1,⟨by omega,by rw [all_take hx,hg.2,h2]; rfl⟩,by omega,by rw [w64 (by omega) (by omega)]; omega⟩⟩⟩,fun h1=>(all_end hg.2 (by omega)).symm⟩⟩
theorem asked1_ok:SpecOk Tryz.prog asked1_n true (z02 true zjp) :=
 z0a z0h (show z14 Tryz.prog asked1_g from z00 isArc_ok (z04)) (by kernel_rfl) mixedOrders Tryz.func162 rfl rfl (by kernel_rfl) (n:=2) (by decide +kernel) (I:=asked1_IA) (fun _ _=>z07) (A:=asked1_A)
  (fun args h r hr=>by
   unfold zjp at hr
   split at hr
   ·rename_i ty1 l ty3 I_s ty4 I_a; cases hr; refine ⟨rfl,fun hp=>?_⟩; have hE:=asked1_E l ⟨I_s,I_a⟩ ty1 ty3 ty4 hp; exact hE
   ·cases hr)
def zjq (l : List Int) (ty1 : TypeId) : Prop :=
      ∃ (g0:Nat),
 ((g0 <= l.length/\nodI (List.take g0 l))/\(True/\True/\(↑l.length:Int)=(↑l.length:Int)/\(0:Int)=(↑g0:Int)/\True)/\[]=metM (List.take g0 l)/\l=l/\True) /\
 ∀ (g:Nat),
 g <= l.length/\nodI (List.take g l) ->
 (decide ((↑g:Int)<(↑l.length:Int))=true ->
 ((0:Int) <= (↑g:Int)/\(↑g:Int)<(↑l.length:Int)) /\
 (↑g:Int).toNat<l.length /\
 ∀ (x:Int),
 l[(↑g:Int).toNat]? = some x ->
 (((mget (metM (List.take g l)) [x]).getD (0:Int) == (1:Int))=true->(false=c2F l/\True)/\True) /\
 (((mget (metM (List.take g l)) [x]).getD (0:Int) == (1:Int))=false ->
 ∃ (g':Nat),
 (g' <= l.length/\nodI (List.take g' l)) /\
 l.length - g'<l.length - g /\
 (True/\True/\(↑l.length:Int)=(↑l.length:Int)/\IntKind.i64.wrap ((↑g:Int)+(1:Int))=(↑g':Int)/\True) /\
 mput (metM (List.take g l)) [x] (bif true then (1:Int) else (0:Int))=metM (List.take g' l)/\l=l/\True)) /\
 (decide ((↑g:Int)<(↑l.length:Int))=false->(true=c2F l/\True)/\True)
theorem asked2_q (l:List Int) (ty1:TypeId):zjq l ty1=z2d TT asked2_g (asked2_I l) (zjr l) Tryz.f164 [.ptr 0 0 0 0] [(0,.box false 29 [.row 1]),(1,.row false ty1 (.ints .i64 l))] (asked2_r l):=by kernel_rfl
theorem asked2_E (l:List Int) (ty1:TypeId) (hp:l.length <= 140737488351232):FVc TT asked2_g (asked2_I l) (zjr l) Tryz.f164 [.ptr 0 0 0 0] [(0,.box false 29 [.row 1]),(1,.row false ty1 (.ints .i64 l))] (asked2_r l):=by
 refine FVc.of (zjq l ty1) (asked2_q l ty1) ?_
 unfold zjq
 simp only [eq_self,exists_const,forall_const,ne_eq,Int.toNat_natCast,zSS,z06]
 refine ⟨0,⟨⟨by omega,List.nodup_nil⟩,rfl,rfl⟩,fun g hg=>⟨fun h1=>⟨by omega,by omega,fun x hx=>?_⟩,fun h1=>(nodI_end hg.2 (by omega)).symm⟩⟩
 rw [mget_metM]
 by_cases hm:x ∈ l.take g
 ·simp only [hm,if_true,Option.getD_some,not_true,false_implies,and_true,forall_const]
  exact (nodI_not hx hm).symm
 ·simp only [hm,if_false,Option.getD_none]
  refine ⟨fun h=>by omega,fun _=>⟨g+1,⟨by omega,nodI_take hx hg.2 hm⟩,by omega,by rw [w64 (by omega) (by omega)]; omega,?_⟩⟩
  rw [z1i hx]
  exact mput_metM hm
theorem asked2_ok:SpecOk Tryz.prog asked2_n true (z02 true zjs) :=
 z0a z0h (show z14 Tryz.prog asked2_g from z04) (by kernel_rfl) mixedOrders Tryz.func164 rfl rfl (by kernel_rfl) (n:=1) (by decide +kernel) (I:=asked2_IA) (fun _ _=>z07) (A:=asked2_A)
  (fun args h r hr=>by
   unfold zjs at hr
   split at hr
   ·rename_i ty1 l; cases hr; refine ⟨rfl,fun hp=>?_⟩; have hE:=asked2_E l ty1 hp; exact hE
   ·cases hr)
def zjt (l : List Int) (I : Inst) (ty1 ty3 ty4 : TypeId) : Prop :=
      ∃ (g0:Nat),
 ((g0 <= l.length/\∀ (j:Nat),j<g0->linkF I l j=true) /\
 ((0:Nat)=(0:Nat)/\(0:Nat)=(0:Nat)/\True/\(↑l.length:Int)=(↑l.length:Int)/\(0:Int)=(↑g0:Int)/\True) /\
 (True/\True)/\l=l/\(True/\True/\True)/\I.sup=I.sup/\I.arcs=I.arcs/\True) /\
 ∀ (g:Nat),
 (g <= l.length/\∀ (j:Nat),j<g->linkF I l j=true) ->
 (decide ((↑g:Int)<(↑l.length:Int))=true ->
 ((0:Int) <= (↑g:Int)/\(↑g:Int)<(↑l.length:Int)) /\
 (↑g:Int).toNat<l.length /\
 ∀ (x:Int),
 l[(↑g:Int).toNat]? = some x ->
 (↑l.length:Int) ≠ (0:Int) /\
 ((0:Int) <= (IntKind.i64.wrap ((↑g:Int)+(1:Int))).tmod (↑l.length:Int) /\
 (IntKind.i64.wrap ((↑g:Int)+(1:Int))).tmod (↑l.length:Int)<(↑l.length:Int)) /\
 ((IntKind.i64.wrap ((↑g:Int)+(1:Int))).tmod (↑l.length:Int)).toNat<l.length /\
 ∀ (x_1:Int),
 l[((IntKind.i64.wrap ((↑g:Int)+(1:Int))).tmod (↑l.length:Int)).toNat]? = some x_1 ->
 ((0:Int) <= x/\x<(↑I.arcs.length:Int)) /\
 x.toNat<I.arcs.length /\
 ∀ (x_2:Arc),
 I.arcs[x.toNat]? = some x_2 ->
 ((0:Int) <= x_1/\x_1<(↑I.arcs.length:Int)) /\
 x_1.toNat<I.arcs.length /\
 ∀ (x:Arc),
 I.arcs[x_1.toNat]? = some x ->
 ((x_2.dst != x.src)=true->(false=c3F I l/\True)/\True) /\
 ((x_2.dst != x.src)=false ->
 ∃ (g':Nat),
 (g' <= l.length/\∀ (j:Nat),j<g'->linkF I l j=true) /\
 l.length - g'<l.length - g /\
 ((0:Nat)=(0:Nat) /\
 (0:Nat)=(0:Nat) /\
 True/\(↑l.length:Int)=(↑l.length:Int)/\IntKind.i64.wrap ((↑g:Int)+(1:Int))=(↑g':Int)/\True) /\
 (True/\True)/\l=l/\(True/\True/\True)/\I.sup=I.sup/\I.arcs=I.arcs/\True)) /\
 (decide ((↑g:Int)<(↑l.length:Int))=false->(true=c3F I l/\True)/\True)
theorem asked3_q (l:List Int) (I:Inst) (ty1 ty3 ty4:TypeId):zjt l I ty1 ty3 ty4=z2d TT asked3_g (asked3_I l I) (zju l I) Tryz.f165 [.ptr 0 0 0 0,.ptr 2 0 0 0] [(0,.box false 29 [.row 1]),(1,.row false ty1 (.ints .i64 l)),(2,.box false 25 [.row 3,.row 4]),(3,.row false ty3 (.ints .i64 I.sup)),(4,.row false ty4 (.arcs I.arcs))] (asked3_r l I):=by kernel_rfl
theorem asked3_E (l:List Int) (I:Inst) (ty1 ty3 ty4:TypeId) (hp:l.length <= 140737488351232/\c1F I l=true):FVc TT asked3_g (asked3_I l I) (zju l I) Tryz.f165 [.ptr 0 0 0 0,.ptr 2 0 0 0] [(0,.box false 29 [.row 1]),(1,.row false ty1 (.ints .i64 l)),(2,.box false 25 [.row 3,.row 4]),(3,.row false ty3 (.ints .i64 I.sup)),(4,.row false ty4 (.arcs I.arcs))] (asked3_r l I):=by
 refine FVc.of (zjt l I ty1 ty3 ty4) (asked3_q l I ty1 ty3 ty4) ?_
 unfold zjt
 obtain ⟨p1,p2⟩:=hp
 simp only [eq_self,exists_const,forall_const,ne_eq,Int.toNat_natCast,zSS,z06]
 refine ⟨0,⟨⟨by omega,fun j hj=>by omega⟩,rfl⟩,fun g hg=>⟨fun h1=>⟨by omega,by omega,fun x hx=>?_⟩,fun h1=>?_⟩⟩
 ·have hm:(IntKind.i64.wrap ((g:Int)+1)).tmod (l.length:Int)=(((g+1) % l.length:Nat):Int):=by rw [w64 (by omega) (by omega),z48 (by omega)]; norm_cast
  have hlt:(g+1) % l.length<l.length:=Nat.mod_lt _ (by omega)
  rw [hm]
  simp only [Int.toNat_natCast]
  refine ⟨by omega,by omega,by omega,fun y hy=>?_⟩
  have hcx:=c1F_get p2 hx
  have hcy:=c1F_get p2 hy
  refine ⟨hcx,by omega,fun a ha=>⟨hcy,by omega,fun b hb=>?_⟩⟩
  have hl:linkF I l g=decide (a.dst=b.src):=by
   unfold linkF
   have d1:l.getD g 0=x:=by simp [List.getD,hx]
   have d2:l.getD ((g+1) % l.length) 0=y:=by simp [List.getD,hy]
   rw [d1,d2,z6b ha,z6b hb]
  refine ⟨fun h2=>?_,fun h2=>⟨g+1,⟨by omega,fun j hj=>?_⟩,by omega,by rw [w64 (by omega) (by omega)]; omega⟩⟩
  ·have h3:linkF I l g=false:=by rw [hl]; exact decide_eq_false h2
   cases hc:c3F I l with
   | false=>rfl
   | true=>have:=List.all_eq_true.1 hc g (List.mem_range.2 (by omega)); rw [h3] at this; cases this
  ·by_cases e:j=g
   ·subst e; rw [hl]; exact decide_eq_true h2
   ·exact hg.2 j (by omega)
 ·have:c3F I l=true:=List.all_eq_true.2 fun j hj=>hg.2 j (by have:=List.mem_range.1 hj; omega)
  exact this.symm
theorem asked3_ok:SpecOk Tryz.prog asked3_n true (z02 true zjv) :=
 z0a z0h (show z14 Tryz.prog asked3_g from z04) (by kernel_rfl) mixedOrders Tryz.func165 rfl rfl (by kernel_rfl) (n:=2) (by decide +kernel) (I:=asked3_IA) (fun _ _=>z07) (A:=asked3_A)
  (fun args h r hr=>by
   unfold zjv at hr
   split at hr
   ·rename_i ty1 l ty3 I_s ty4 I_a; cases hr; refine ⟨rfl,fun hp=>?_⟩; have hE:=asked3_E l ⟨I_s,I_a⟩ ty1 ty3 ty4 hp; exact hE
   ·cases hr)
def zjw (l : List Int) (I : Inst) (ty1 ty3 ty4 : TypeId) : Prop :=
      ∃ (g0:Nat),
 ((g0 <= l.length/\((List.take g0 l).all fun (a:Int)=>decide ((z53 I a).cap=inf))=true) /\
 ((0:Nat)=(0:Nat)/\True/\(↑l.length:Int)=(↑l.length:Int)/\(0:Int)=(↑g0:Int)/\True) /\
 l=l/\(True/\True/\True)/\I.sup=I.sup/\I.arcs=I.arcs/\True) /\
 ∀ (g:Nat),
 g <= l.length/\((List.take g l).all fun (a:Int)=>decide ((z53 I a).cap=inf))=true ->
 (decide ((↑g:Int)<(↑l.length:Int))=true ->
 ((0:Int) <= (↑g:Int)/\(↑g:Int)<(↑l.length:Int)) /\
 (↑g:Int).toNat<l.length /\
 ∀ (x:Int),
 l[(↑g:Int).toNat]? = some x ->
 ((0:Int) <= x/\x<(↑I.arcs.length:Int)) /\
 x.toNat<I.arcs.length /\
 ∀ (x_1:Arc),
 I.arcs[x.toNat]? = some x_1 ->
 ((x_1.cap != (4611686018427387904:Int))=true->(false=c4F I l/\True)/\True) /\
 ((x_1.cap != (4611686018427387904:Int))=false ->
 ∃ (g':Nat),
 (g' <= l.length/\((List.take g' l).all fun (a:Int)=>decide ((z53 I a).cap=inf))=true) /\
 l.length - g'<l.length - g /\
 ((0:Nat)=(0:Nat)/\True/\(↑l.length:Int)=(↑l.length:Int)/\IntKind.i64.wrap ((↑g:Int)+(1:Int))=(↑g':Int)/\True) /\
 l=l/\(True/\True/\True)/\I.sup=I.sup/\I.arcs=I.arcs/\True)) /\
 (decide ((↑g:Int)<(↑l.length:Int))=false->(true=c4F I l/\True)/\True)
theorem asked4_q (l:List Int) (I:Inst) (ty1 ty3 ty4:TypeId):zjw l I ty1 ty3 ty4=z2d TT asked4_g (asked4_I l I) (zjx l I) Tryz.f166 [.ptr 0 0 0 0,.ptr 2 0 0 0] [(0,.box false 29 [.row 1]),(1,.row false ty1 (.ints .i64 l)),(2,.box false 25 [.row 3,.row 4]),(3,.row false ty3 (.ints .i64 I.sup)),(4,.row false ty4 (.arcs I.arcs))] (asked4_r l I):=by kernel_rfl
theorem asked4_E (l:List Int) (I:Inst) (ty1 ty3 ty4:TypeId) (hp:l.length <= 140737488351232/\c1F I l=true):FVc TT asked4_g (asked4_I l I) (zjx l I) Tryz.f166 [.ptr 0 0 0 0,.ptr 2 0 0 0] [(0,.box false 29 [.row 1]),(1,.row false ty1 (.ints .i64 l)),(2,.box false 25 [.row 3,.row 4]),(3,.row false ty3 (.ints .i64 I.sup)),(4,.row false ty4 (.arcs I.arcs))] (asked4_r l I):=by
 refine FVc.of (zjw l I ty1 ty3 ty4) (asked4_q l I ty1 ty3 ty4) ?_
 unfold zjw
 obtain ⟨p1,p2⟩:=hp
 simp only [eq_self,exists_const,forall_const,ne_eq,Int.toNat_natCast,zSS,z06]
 refine ⟨0,⟨⟨by omega,rfl⟩,rfl⟩,fun g hg=>⟨fun h1=>⟨by omega,by omega,fun x hx=>⟨c1F_get p2 hx,by have:=c1F_get p2 hx; omega,fun a ha=>⟨fun h2=>?_,fun h2=>⟨g+1,⟨by omega,?_⟩,by omega,by rw [w64 (by omega) (by omega)]; omega⟩⟩⟩⟩,fun h1=>(all_end hg.2 (by omega)).symm⟩⟩
 ·exact (all_not hx (decide_eq_false (by rw [z6b ha]; exact h2))).symm
 ·rw [all_take hx,hg.2,z6b ha]
  simp [inf,h2]
theorem asked4_ok:SpecOk Tryz.prog asked4_n true (z02 true zjy) :=
 z0a z0h (show z14 Tryz.prog asked4_g from z04) (by kernel_rfl) mixedOrders Tryz.func166 rfl rfl (by kernel_rfl) (n:=2) (by decide +kernel) (I:=asked4_IA) (fun _ _=>z07) (A:=asked4_A)
  (fun args h r hr=>by
   unfold zjy at hr
   split at hr
   ·rename_i ty1 l ty3 I_s ty4 I_a; cases hr; refine ⟨rfl,fun hp=>?_⟩; have hE:=asked4_E l ⟨I_s,I_a⟩ ty1 ty3 ty4 hp; exact hE
   ·cases hr)
def zjz (I : Inst) (l : List Int) (ty1 ty2 ty4 : TypeId) : Prop :=
      (A64c I.arcs/\l.length <= (140737488351232:Nat)) /\
 I64 (0:Int)/\((W (rayS I l)).ok/\(W (0:Int)).ok)/\(decide (wcmp (W (rayS I l)) (W (0:Int))<(0:Int))=c5F I l/\True)/\True
theorem asked5_q (I:Inst) (l:List Int) (ty1 ty2 ty4:TypeId):zjz I l ty1 ty2 ty4=z2d TT asked5_g (asked5_I I l) (asked5_an I l) Tryz.f167 [.ptr 0 0 0 0,.ptr 3 0 0 0] [(0,.box false 25 [.row 1,.row 2]),(1,.row false ty1 (.ints .i64 I.sup)),(2,.row false ty2 (.arcs I.arcs)),(3,.box false 29 [.row 4]),(4,.row false ty4 (.ints .i64 l))] (asked5_r I l):=by kernel_rfl
theorem asked5_E (I:Inst) (l:List Int) (ty1 ty2 ty4:TypeId) (hp:l.length <= 140737488351232/\A64c I.arcs):FVc TT asked5_g (asked5_I I l) (asked5_an I l) Tryz.f167 [.ptr 0 0 0 0,.ptr 3 0 0 0] [(0,.box false 25 [.row 1,.row 2]),(1,.row false ty1 (.ints .i64 I.sup)),(2,.row false ty2 (.arcs I.arcs)),(3,.box false 29 [.row 4]),(4,.row false ty4 (.ints .i64 l))] (asked5_r I l):=by
 refine FVc.of (zjz I l ty1 ty2 ty4) (asked5_q I l ty1 ty2 ty4) ?_
 unfold zjz
 obtain ⟨p1,p2⟩:=hp
 simp only [eq_self,exists_const,forall_const,ne_eq,Int.toNat_natCast,zSS,z06]
 exact ⟨⟨p2,p1⟩,by simp [I64],⟨zf1 _,zf1 _⟩,rfl⟩
theorem asked5_ok:SpecOk Tryz.prog asked5_n true (z02 true zk0) :=
 z0a z0h (show z14 Tryz.prog asked5_g from z00 Sum12_ok (z00 zhk (z00 zer (z04)))) (by kernel_rfl) mixedOrders Tryz.func167 rfl rfl (by kernel_rfl) (n:=2) (by decide +kernel) (I:=asked5_IA) (fun _ _=>z07) (A:=asked5_A)
  (fun args h r hr=>by
   unfold zk0 at hr
   split at hr
   ·rename_i ty1 I_s ty2 I_a ty4 l; cases hr; refine ⟨rfl,fun hp=>?_⟩; have hE:=asked5_E ⟨I_s,I_a⟩ l ty1 ty2 ty4 hp; exact hE
   ·cases hr)
theorem asked_ok:SpecOk Tryz.prog asked_n false asked_spec :=
 z4j z0h (show z14 Tryz.prog asked_g from z04) (by kernel_rfl) mixedOrders Tryz.func149 rfl rfl (by kernel_rfl) _
abbrev zac (g':Nat) (g:Nat) (I:Inst) (l:List Int):=((5:Nat) - g'<(5:Nat) - g/\((True/\((5:Int)=5/\(IntKind.i64.wrap ((↑g:Int)+(1:Int))=(↑g':Int)/\True)))/\(((0=0/\(0=0/\True))/\((0=0/\True)/\((0=0/\(0=0/\True))/\((0=0/\(0=0/\True))/\((0=0/\(0=0/\True))/\True)))))/\((True/\True)/\((True/\(True/\True))/\(I.sup=I.sup/\(I.arcs=I.arcs/\(l=l/\True))))))))
abbrev zad (g':Nat) (I:Inst) (l:List Int):=(g' <= (5:Nat)/\(((1:Nat) <= g'->c1F I l=true)/\(((2:Nat) <= g'->c2F l=true)/\(((3:Nat) <= g'->c3F I l=true)/\(((4:Nat) <= g'->c4F I l=true)/\((5:Nat) <= g'->c5F I l=true))))))
def Turns_E0 (I : Inst) (l : List Int) (ty0 ty1 ty2 : TypeId) : Prop :=
   True/\((z05 I != (0:Int))=true->(z05 I=z21 I l/\True)/\True)/\((z05 I != (0:Int))=false->(((↑l.length:Int) == (0:Int))=true->((30:Int)=z21 I l/\True)/\True)/\(((↑l.length:Int) == (0:Int))=false->(decide ((↑l.length:Int) > ↑I.arcs.length)=true->((30:Int)=z21 I l/\True)/\True)/\(decide ((↑l.length:Int) > ↑I.arcs.length)=false->∃ (g0:Nat),((g0 <= (5:Nat)/\(((1:Nat) <= g0->c1F I l=true)/\(((2:Nat) <= g0->c2F l=true)/\(((3:Nat) <= g0->c3F I l=true)/\(((4:Nat) <= g0->c4F I l=true)/\((5:Nat) <= g0->c5F I l=true))))))/\((True/\((↑(5:Nat):Int)=5/\((0:Int)=↑g0/\True)))/\(((0=0/\(0=0/\True))/\((0=0/\True)/\((0=0/\(0=0/\True))/\((0=0/\(0=0/\True))/\((0=0/\(0=0/\True))/\True)))))/\((True/\True)/\((True/\(True/\True))/\(I.sup=I.sup/\(I.arcs=I.arcs/\(l=l/\True))))))))/\∀ (g:Nat),g <= (5:Nat)/\((1:Nat) <= g->c1F I l=true)/\((2:Nat) <= g->c2F l=true)/\((3:Nat) <= g->c3F I l=true)/\((4:Nat) <= g->c4F I l=true)/\((5:Nat) <= g->c5F I l=true)->(decide ((↑g:Int)<5)=true->((0:Int) <= ↑g/\((↑g:Int)<↑(5:Nat)))/\(↑g:Int).toNat<(5:Nat)/\((↑g:Int).toNat=(0:Nat)->l.length <= (140737488351232:Nat)/\(((!c1F I l)=true->((35:Int)=z21 I l/\True)/\True)/\((!c1F I l)=false->∃ (g':Nat),(zad g' I l)/\(zac g' g I l))))/\((↑g:Int).toNat=(0:Nat)+(1:Nat)->l.length <= (140737488351232:Nat)/\(((!c2F l)=true->((35:Int)=z21 I l/\True)/\True)/\((!c2F l)=false->∃ (g':Nat),(zad g' I l)/\(zac g' g I l))))/\(((↑g:Int).toNat=(0:Nat)+(1:Nat)+(1:Nat)->(l.length <= (140737488351232:Nat)/\(c1F I l=true))/\(((!c3F I l)=true->((35:Int)=z21 I l/\True)/\True)/\((!c3F I l)=false->∃ (g':Nat),(zad g' I l)/\(zac g' g I l))))/\(((↑g:Int).toNat=(0:Nat)+(1:Nat)+(1:Nat)+(1:Nat)->(l.length <= (140737488351232:Nat)/\(c1F I l=true))/\(((!c4F I l)=true->((35:Int)=z21 I l/\True)/\True)/\((!c4F I l)=false->∃ (g':Nat),(zad g' I l)/\(zac g' g I l))))/\((↑g:Int).toNat=(0:Nat)+(1:Nat)+(1:Nat)+(1:Nat)+(1:Nat)->(l.length <= (140737488351232:Nat)/\(A64c I.arcs))/\(((!c5F I l)=true->((35:Int)=z21 I l/\True)/\True)/\((!c5F I l)=false->∃ (g':Nat),(zad g' I l)/\(zac g' g I l)))))))/\(decide ((↑g:Int)<5)=false->((0:Int)=z21 I l/\True)/\True))))
theorem Turns_q (I:Inst) (l:List Int) (ty0 ty1 ty2:TypeId):Turns_E0 I l ty0 ty1 ty2=z2d TT Turns_g (Turns_I I l) (Turns_an I l) Tryz.f134 [.agg [.row 0,.row 1],.row 2] [(0,.row false ty0 (.ints .i64 I.sup)),(1,.row false ty1 (.arcs I.arcs)),(2,.row false ty2 (.ints .i64 l))] (Turns_r I l):=by kernel_rfl
theorem Turns_E (I:Inst) (l:List Int) (ty0 ty1 ty2:TypeId) (hp:l.length <= 140737488351232/\A64c I.arcs):FVc TT Turns_g (Turns_I I l) (Turns_an I l) Tryz.f134 [.agg [.row 0,.row 1],.row 2] [(0,.row false ty0 (.ints .i64 I.sup)),(1,.row false ty1 (.arcs I.arcs)),(2,.row false ty2 (.ints .i64 l))] (Turns_r I l):=by
 refine FVc.of (Turns_E0 I l ty0 ty1 ty2) (Turns_q I l ty0 ty1 ty2) ?_
 unfold Turns_E0
 delta zad zac
 obtain ⟨p1,p2⟩:=hp
 simp only [eq_self,exists_const,forall_const,ne_eq,Int.toNat_natCast,zSS,z06]
 unfold z21
 refine ⟨fun h=>by simp [h],fun h=>⟨fun h2=>by simp [h,show l.length=0 by omega],fun h2=>⟨fun h3=>by simp [h,show I.arcs.length<l.length by omega],fun h3=>?_⟩⟩⟩
 have e0:¬ (l.length=0 ∨ I.arcs.length<l.length):=by omega
 simp only [h,e0,ne_eq,not_true,if_false]
 refine ⟨0,⟨⟨by omega,fun h=>by omega,fun h=>by omega,fun h=>by omega,fun h=>by omega,fun h=>by omega⟩,by first | exact rfl | exact ⟨rfl,rfl⟩⟩,fun g hg=>?_⟩
 obtain ⟨g0,g1,g2,g3,g4,g5⟩:=hg
 have wk:IntKind.i64.wrap ((g:Int)+1)=((g+1:Nat):Int):=by rw [w64 (by omega) (by omega)]; omega
 refine ⟨fun h4=>⟨by omega,by omega,fun e=>⟨p1,fun f=>?_,fun f=>⟨g+1,⟨by omega,fun _=>f,fun h=>by omega,fun h=>by omega,fun h=>by omega,fun h=>by omega⟩,by omega,wk⟩⟩,fun e=>⟨p1,fun f=>?_,fun f=>⟨g+1,⟨by omega,fun _=>g1 (by omega),fun _=>f,fun h=>by omega,fun h=>by omega,fun h=>by omega⟩,by omega,wk⟩⟩,
  fun e=>⟨⟨p1,g1 (by omega)⟩,fun f=>?_,fun f=>⟨g+1,⟨by omega,fun _=>g1 (by omega),fun _=>g2 (by omega),fun _=>f,fun h=>by omega,fun h=>by omega⟩,by omega,wk⟩⟩,
  fun e=>⟨⟨p1,g1 (by omega)⟩,fun f=>?_,fun f=>⟨g+1,⟨by omega,fun _=>g1 (by omega),fun _=>g2 (by omega),fun _=>g3 (by omega),fun _=>f,fun h=>by omega⟩,by omega,wk⟩⟩,
  fun e=>⟨⟨p1,p2⟩,fun f=>?_,fun f=>⟨g+1,⟨by omega,fun _=>g1 (by omega),fun _=>g2 (by omega),fun _=>g3 (by omega),fun _=>g4 (by omega),fun _=>f⟩,by omega,wk⟩⟩⟩,fun h4=>?_⟩
 all_goals first
  | simp [f]
  | simp [g1 (by omega),g2 (by omega),g3 (by omega),g4 (by omega),g5 (by omega)]
theorem Turns_ok:SpecOk Tryz.prog Turns_n true (z02 true Turns_fs) :=
 z0a z0h (show z14 Tryz.prog Turns_g from z00 za9 (z00 asked_ok (z00 asked1_ok (z00 asked2_ok (z00 asked3_ok (z00 asked4_ok (z00 asked5_ok (z04)))))))) (by kernel_rfl) mixedOrders Tryz.func134 rfl rfl (by kernel_rfl) (n:=2) (by decide +kernel) (I:=Turns_IA) (fun _ _=>z07) (A:=Turns_A)
  (fun args h r hr=>by
   unfold Turns_fs at hr
   split at hr
   ·rename_i ty0 I_s ty1 I_a ty2 l; cases hr; refine ⟨rfl,fun hp=>?_⟩; have hE:=Turns_E ⟨I_s,I_a⟩ l ty0 ty1 ty2 hp; exact hE
   ·cases hr)
end Go.Proofs.YtapeenpimcffpaaGreat
end
section
namespace Go.Proofs.YtapeenpimcffpaaGreat
open Go Go.RowKit Go.Ql Go.Vc
end Go.Proofs.YtapeenpimcffpaaGreat
end
section
namespace Go.Ql
open Go Go.Vc
structure Cert where
 kind:Int
 flow:List Int
 pot:List Int
 side:List Bool
 cycle:List Int
deriving DecidableEq
structure StepD where
 inst:Inst
 pass:Int
 was:Inst
 off:Wide
 did:Bool
deriving DecidableEq
def StepD.none:StepD:=⟨⟨[],[]⟩,0,⟨[],[]⟩,⟨0,0⟩,false⟩
open Go.RowKit
def Arc.In (n:Int) (a:Arc):Prop:=0 <= a.src/\a.src<n/\0 <= a.dst/\a.dst<n
theorem zdo {I:Inst} (h:z05 I=0):∀ a ∈ I.arcs,a.In I.sup.length:=fun a ha=>okArc_iff.1 (z1h h ha).1
theorem Arc.Nice.more {m n:Int} {a:Arc} (h:a.Nice m) (hm:m <= n):a.Nice n :=
 ⟨h.s0,by have:=h.s1; omega,h.d0,by have:=h.d1; omega,h.l0,h.l1,h.c0,h.c1,h.k0,h.k1⟩
theorem on_in {m:Int} {side:List Bool} {a:Arc} (h:a.In m):zca m side a=(side.getD a.src.toNat false && !side.getD a.dst.toNat false)/\inA m side a=(side.getD a.dst.toNat false && !side.getD a.src.toNat false):=by
 obtain ⟨h1,h2,h3,h4⟩:=h
 unfold zca inA isN onF
 simp [h1,h2,h3,h4]
theorem addAt_getD (s:List Int) (k:Nat) (x:Int) (v:Nat) (hv:v<s.length):(addAt s k x).getD v 0=s.getD v 0+(if k=v then x else 0):=by
 unfold addAt
 rw [List.getD_eq_getElem?_getD,List.getElem?_set]
 by_cases h:k=v
 ·subst h; simp [hv]
 ·simp [h,List.getD_eq_getElem?_getD]
theorem fitsF_iff {I:Inst} {x:List Int}:z1a I x=0 ↔ z05 I=0/\x.length=I.arcs.length/\z2n I.arcs x=true/\netOk I x=true:=by
 unfold z1a
 by_cases h1:z05 I=0
 ·by_cases h2:x.length=I.arcs.length
  ·cases h3:z2n I.arcs x <;> cases h4:netOk I x <;> simp [h1,h2]
  ·simp [h1,h2]
 ·simp [h1]
def Few (x:List Int):Prop:=∀ y ∈ x,0 <= y/\y <= 7
theorem Few.head {x:List Int} (h:Few x):0 <= x.headD 0/\x.headD 0 <= 7:=by
 cases x with
 | nil=>simp
 | cons y x=>exact h y (by simp)
theorem Few.tail {x:List Int} (h:Few x):Few x.tail:=fun y hy=>h y (List.mem_of_mem_tail hy)
theorem Few.a64 {x:List Int} (h:Few x):A64 x:=fun y hy=>by have:=h y hy; unfold I64; omega
theorem right_A64 {I:Inst} (h:z05 I=0):A64a I.arcs/\A64c I.arcs/\A64 I.sup/\L42 I.arcs:=by
 refine ⟨fun a ha=>?_,fun a ha=>?_,fun x hx=>?_,fun a ha=>?_⟩
 ·have:=z1h h ha; unfold I64; omega
 ·have:=z1h h ha; unfold I64; omega
 ·have:=(z1n h).1 x hx; unfold I64; omega
 ·have:=z1h h ha; omega
def z3t (l:List Int):Nat:=(l.filter fun x=>decide (x=0)).length
def z4l (c:Cert):Bool :=
 if c.kind=1 then decide (c.side.length=0) && decide (c.cycle.length=0)
 else if c.kind=2 then decide (c.flow.length=0) && decide (c.pot.length=0) && decide (c.cycle.length=0)
 else if c.kind=3 then decide (c.pot.length=0) && decide (c.side.length=0)
 else false
def z1g (I:Inst) (c:Cert):Int :=
 if z05 I ≠ 0 then z05 I else if z4l c=false then 36
 else if c.kind=1 then z17 I c.flow c.pot
 else if c.kind=2 then z24 I c.side
 else if z1a I c.flow ≠ 0 then z1a I c.flow else z21 I c.cycle
def z55 (I:Inst) (c:Cert):Wide:=if c.kind=1 then W (z9e I c.flow) else ⟨0,0⟩
def z1b (c:Cert):Prop:=A64 c.flow/\A64 c.pot/\c.flow.length <= 140737488351232/\c.pot.length <= 140737488351232/\c.side.length <= 140737488351232/\c.cycle.length <= 140737488351232
def z37 (I:Inst):Prop:=I.sup.length <= 10000/\I.arcs.length <= 10000/\A64 I.sup/\A64a I.arcs/\A64c I.arcs
theorem zcc {c:Cert} (h:z4l c=true):c.kind=1 ∨ c.kind=2 ∨ c.kind=3:=by
 unfold z4l at h
 by_cases h1:c.kind=1
 ·exact .inl h1
 ·by_cases h2:c.kind=2
  ·exact .inr (.inl h2)
  ·by_cases h3:c.kind=3
   ·exact .inr (.inr h3)
   ·rw [if_neg h1,if_neg h2,if_neg h3] at h; cases h
theorem zerosF_nil:z3t []=0:=rfl
theorem z6v (x:Int) (l:List Int):z3t (x :: l)=(if x=0 then 1 else 0)+z3t l:=by
 unfold z3t
 rw [List.filter_cons]
 by_cases h:x=0 <;> simp [h]; omega
theorem zerosF_snoc (l:List Int) (x:Int):z3t (l ++ [x])=z3t l+(if x=0 then 1 else 0):=by
 unfold z3t
 rw [List.filter_append]
 by_cases h:x=0 <;> simp [h]
theorem zerosF_le (l:List Int):z3t l <= l.length:=List.length_filter_le _ _
end Go.Ql
end
section
namespace Go.Proofs.YtapeenpimcffpaaGreat
open Go Go.RowKit Go.Ql Go.Vc
def zks (l:List Int):FRes:={ pre:=l.length <= 1000000000,res:=.int .i64 (z3t l),rows:=[],eff:=[] }
def zfp:FS:=fun args h=>match args,h with
 | [.row 0],[(0,.row false ty0 (.ints .i64 l))]=>some (zks l)
 | _,_=>none
def zfo (l:List Int):List (Nat × Ann):=[(3,{ G:=(Nat),inv:=fun k=>⟨[(3,.int .i64 (z3t (l.take k))),(6,.row 0),(7,.int .i64 (↑l.length:Int)),(8,.int .i64 k)],[(0,.row false 0 (.ints .i64 l))],1⟩,rel:=fun k0 k=>k <= l.length,meas:=fun k=>l.length - k })]
def empty13_A:List SV->z0e->List (Nat × Ann):=fun args h=>match args,h with
 | [.row 0],[(0,.row false ty0 (.ints .i64 l))]=>zfo l
 | _,_=>[]
def zkr:z0c:=[]
abbrev empty13_n:Nat:=127
def empty13_I (l:List Int):List (Nat × z09):=[]
def empty13_IA:List SV->z0e->List (Nat × z09):=fun _ _=>[]
def zj3 (c:Cert):FRes:={ pre:=True,res:=.bool (z4l c),rows:=[],eff:=[] }
def zey:FS:=fun args h=>match args,h with
 | [.agg [.int .i64 c_k,.row 0,.row 1,.row 2,.row 3]],[(0,.row false ty0 (.ints .i64 c_f)),(1,.row false ty1 (.ints .i64 c_p)),(2,.row false ty2 (.bools c_s)),(3,.row false ty3 (.ints .i64 c_y))]=>some (zj3 ⟨c_k,c_f,c_p,c_s,c_y⟩)
 | _,_=>none
def Plain13_an (c:Cert):List (Nat × Ann):=[]
def Plain13_A:List SV->z0e->List (Nat × Ann):=fun _ _=>[]
def zj2:z0c:=[(empty13_n,(true,z02 true zfp))]
abbrev Plain13_n:Nat:=116
def Plain13_I (c:Cert):List (Nat × z09):=[]
def Plain13_IA:List SV->z0e->List (Nat × z09):=fun _ _=>[]
def ValueC_r (I:Inst) (c:Cert):FRes:={ pre:=z1b c/\z37 I,res:=.tup [.agg (z1f (z55 I c)),.bool (decide (c.kind=1))],rows:=[],eff:=[] }
def zjf:FS:=fun args h=>match args,h with
 | [.agg [.row 0,.row 1],.agg [.int .i64 c_k,.row 2,.row 3,.row 4,.row 5]],[(0,.row false ty0 (.ints .i64 I_s)),(1,.row false ty1 (.arcs I_a)),(2,.row false ty2 (.ints .i64 c_f)),(3,.row false ty3 (.ints .i64 c_p)),(4,.row false ty4 (.bools c_s)),(5,.row false ty5 (.ints .i64 c_y))]=>some (ValueC_r ⟨I_s,I_a⟩ ⟨c_k,c_f,c_p,c_s,c_y⟩)
 | _,_=>none
def ValueC_an (I:Inst) (c:Cert):List (Nat × Ann):=[]
def ValueC_A:List SV->z0e->List (Nat × Ann):=fun _ _=>[]
def ValueC_g:z0c:=[(Cost_n,(true,z02 true Cost_fs))]
abbrev ValueC_n:Nat:=27
def ValueC_I (I:Inst) (c:Cert):List (Nat × z09):=[]
def ValueC_IA:List SV->z0e->List (Nat × z09):=fun _ _=>[]
def zk2 (I:Inst) (c:Cert):FRes:={ pre:=z1b c/\z37 I,res:=.int .u16 (z17 I c.flow c.pot),rows:=[],eff:=[] }
def zf8:FS:=fun args h=>match args,h with
 | [.agg [.row 0,.row 1],.agg [.int .i64 c_k,.row 2,.row 3,.row 4,.row 5]],[(0,.row false ty0 (.ints .i64 I_s)),(1,.row false ty1 (.arcs I_a)),(2,.row false ty2 (.ints .i64 c_f)),(3,.row false ty3 (.ints .i64 c_p)),(4,.row false ty4 (.bools c_s)),(5,.row false ty5 (.ints .i64 c_y))]=>some (zk2 ⟨I_s,I_a⟩ ⟨c_k,c_f,c_p,c_s,c_y⟩)
 | _,_=>none
def askedC1_an (I:Inst) (c:Cert):List (Nat × Ann):=[]
def askedC1_A:List SV->z0e->List (Nat × Ann):=fun _ _=>[]
def zk1:z0c:=[(Slack_n,(true,z02 true Slack_fs))]
abbrev askedC1_n:Nat:=128
def askedC1_I (I:Inst) (c:Cert):List (Nat × z09):=[]
def askedC1_IA:List SV->z0e->List (Nat × z09):=fun _ _=>[]
def zk4 (I:Inst) (c:Cert):FRes:={ pre:=z1b c/\z37 I,res:=.int .u16 (z24 I c.side),rows:=[],eff:=[] }
def zfa:FS:=fun args h=>match args,h with
 | [.agg [.row 0,.row 1],.agg [.int .i64 c_k,.row 2,.row 3,.row 4,.row 5]],[(0,.row false ty0 (.ints .i64 I_s)),(1,.row false ty1 (.arcs I_a)),(2,.row false ty2 (.ints .i64 c_f)),(3,.row false ty3 (.ints .i64 c_p)),(4,.row false ty4 (.bools c_s)),(5,.row false ty5 (.ints .i64 c_y))]=>some (zk4 ⟨I_s,I_a⟩ ⟨c_k,c_f,c_p,c_s,c_y⟩)
 | _,_=>none
def askedC2_an (I:Inst) (c:Cert):List (Nat × Ann):=[]
def askedC2_A:List SV->z0e->List (Nat × Ann):=fun _ _=>[]
def zk3:z0c:=[(Proves_n,(true,z02 true zj8))]
abbrev askedC2_n:Nat:=130
def askedC2_I (I:Inst) (c:Cert):List (Nat × z09):=[]
def askedC2_IA:List SV->z0e->List (Nat × z09):=fun _ _=>[]
def zk6 (I:Inst) (c:Cert):FRes:={ pre:=z1b c/\z37 I,res:=.int .u16 ((if z1a I c.flow ≠ 0 then z1a I c.flow else z21 I c.cycle)),rows:=[],eff:=[] }
def zfc:FS:=fun args h=>match args,h with
 | [.agg [.row 0,.row 1],.agg [.int .i64 c_k,.row 2,.row 3,.row 4,.row 5]],[(0,.row false ty0 (.ints .i64 I_s)),(1,.row false ty1 (.arcs I_a)),(2,.row false ty2 (.ints .i64 c_f)),(3,.row false ty3 (.ints .i64 c_p)),(4,.row false ty4 (.bools c_s)),(5,.row false ty5 (.ints .i64 c_y))]=>some (zk6 ⟨I_s,I_a⟩ ⟨c_k,c_f,c_p,c_s,c_y⟩)
 | _,_=>none
def askedC3_an (I:Inst) (c:Cert):List (Nat × Ann):=[]
def askedC3_A:List SV->z0e->List (Nat × Ann):=fun _ _=>[]
def zk5:z0c:=[(Fits_n,(true,z02 true Fits_fs)),(Turns_n,(true,z02 true Turns_fs))]
abbrev askedC3_n:Nat:=132
def askedC3_I (I:Inst) (c:Cert):List (Nat × z09):=[]
def askedC3_IA:List SV->z0e->List (Nat × z09):=fun _ _=>[]
abbrev askedC_n:Nat:=117
def askedC_g:z0c:=[]
def zk7:Vc.Spec:=z2c TT askedC_g (fun _ _ _=>[]) Tryz.f117
def Check_r (I:Inst) (c:Cert):FRes:={ pre:=z1b c/\z37 I,res:=.int .u16 (z1g I c),rows:=[],eff:=[] }
def zcu:FS:=fun args h=>match args,h with
 | [.agg [.row 0,.row 1],.agg [.int .i64 c_k,.row 2,.row 3,.row 4,.row 5]],[(0,.row false ty0 (.ints .i64 I_s)),(1,.row false ty1 (.arcs I_a)),(2,.row false ty2 (.ints .i64 c_f)),(3,.row false ty3 (.ints .i64 c_p)),(4,.row false ty4 (.bools c_s)),(5,.row false ty5 (.ints .i64 c_y))]=>some (Check_r ⟨I_s,I_a⟩ ⟨c_k,c_f,c_p,c_s,c_y⟩)
 | _,_=>none
def Check_an (I:Inst) (c:Cert):List (Nat × Ann):=[]
def Check_A:List SV->z0e->List (Nat × Ann):=fun _ _=>[]
def Check_g:z0c:=[(zbw,(true,z02 true z6y)),(Plain13_n,(true,z02 true zey)),(askedC_n,(false,zk7)),(askedC1_n,(true,z02 true zf8)),(askedC2_n,(true,z02 true zfa)),(askedC3_n,(true,z02 true zfc))]
abbrev Check_n:Nat:=97
def Check_I (I:Inst) (c:Cert):List (Nat × z09):=[]
def Check_IA:List SV->z0e->List (Nat × z09):=fun _ _=>[]
def zfn (l : List Int) (ty0 : TypeId) : Prop :=
      ∃ (g0:Nat),
 (g0 <= l.length/\((0:Int)=(↑(z3t (List.take g0 l)):Int)/\True/\(↑l.length:Int)=(↑l.length:Int)/\(0:Int)=(↑g0:Int)/\True)/\l=l/\True) /\
 ∀ (g:Nat),
 g <= l.length ->
 (decide ((↑g:Int)<(↑l.length:Int))=true ->
 ((0:Int) <= (↑g:Int)/\(↑g:Int)<(↑l.length:Int)) /\
 (↑g:Int).toNat<l.length /\
 ∀ (x:Int),
 l[(↑g:Int).toNat]? = some x ->
 ((x == (0:Int))=true ->
 ∃ (g':Nat),
 g' <= l.length /\
 l.length - g'<l.length - g /\
 (IntKind.i64.wrap ((↑(z3t (List.take g l)):Int)+(1:Int))=(↑(z3t (List.take g' l)):Int) /\
 True/\(↑l.length:Int)=(↑l.length:Int)/\IntKind.i64.wrap ((↑g:Int)+(1:Int))=(↑g':Int)/\True) /\
 l=l/\True) /\
 ((x == (0:Int))=false ->
 ∃ (g':Nat),
 g' <= l.length /\
 l.length - g'<l.length - g /\
 ((↑(z3t (List.take g l)):Int)=(↑(z3t (List.take g' l)):Int) /\
 True/\(↑l.length:Int)=(↑l.length:Int)/\IntKind.i64.wrap ((↑g:Int)+(1:Int))=(↑g':Int)/\True) /\
 l=l/\True)) /\
 (decide ((↑g:Int)<(↑l.length:Int))=false->((↑(z3t (List.take g l)):Int)=(↑(z3t l):Int)/\True)/\True)
theorem empty13_q (l:List Int) (ty0:TypeId):zfn l ty0=z2d TT zkr (empty13_I l) (zfo l) Tryz.f127 [.row 0] [(0,.row false ty0 (.ints .i64 l))] (zks l):=by kernel_rfl
theorem empty13_E (l:List Int) (ty0:TypeId) (hp:l.length <= 1000000000):FVc TT zkr (empty13_I l) (zfo l) Tryz.f127 [.row 0] [(0,.row false ty0 (.ints .i64 l))] (zks l):=by
 refine FVc.of (zfn l ty0) (empty13_q l ty0) ?_
 unfold zfn
 simp only [eq_self,exists_const,forall_const,ne_eq,Int.toNat_natCast,zSS,z06]
 refine ⟨0,⟨by omega,rfl,rfl⟩,fun g hg=>⟨fun h1=>⟨by omega,by omega,fun x hx=>?_⟩,fun h1=>?_⟩⟩
 ·have hw:IntKind.i64.wrap ((g:Int)+1)=((g+1:Nat):Int):=by rw [w64 (by omega) (by omega)]; omega
  have hz:=zerosF_snoc (l.take g) x
  rw [<- z1i hx] at hz
  have hle:=zerosF_le (l.take g)
  rw [List.length_take] at hle
  refine ⟨fun h2=>⟨g+1,by omega,by omega,?_,hw⟩,fun h2=>⟨g+1,by omega,by omega,?_,hw⟩⟩
  ·rw [hz,if_pos h2,w64 (by omega) (by omega)]; omega
  ·rw [hz,if_neg h2]; omega
 ·rw [List.take_of_length_le (by omega)]
theorem empty13_ok:SpecOk Tryz.prog empty13_n true (z02 true zfp) :=
 z0a z0h (show z14 Tryz.prog zkr from z04) (by kernel_rfl) mixedOrders Tryz.func127 rfl rfl (by kernel_rfl) (n:=1) (by decide +kernel) (I:=empty13_IA) (fun _ _=>z07) (A:=empty13_A)
  (fun args h r hr=>by
   unfold zfp at hr
   split at hr
   ·rename_i ty0 l; cases hr; refine ⟨rfl,fun hp=>?_⟩; have hE:=empty13_E l ty0 hp; exact hE
   ·cases hr)
def zex (c : Cert) (ty0 ty1 ty2 ty3 : TypeId) : Prop :=
      ((c.kind == (1:Int))=true->(2:Nat) <= (1000000000:Nat)/\(((↑(z3t [(↑c.side.length:Int),(↑c.cycle.length:Int)]):Int) == (2:Int))=z4l c/\True)/\True) /\
 ((c.kind == (1:Int))=false ->
 ((c.kind == (2:Int))=true ->
 (3:Nat) <= (1000000000:Nat)/\(((↑(z3t [(↑c.flow.length:Int),(↑c.pot.length:Int),(↑c.cycle.length:Int)]):Int) == (3:Int))=z4l c/\True)/\True) /\
 ((c.kind == (2:Int))=false ->
 ((c.kind == (3:Int))=true ->
 (2:Nat) <= (1000000000:Nat)/\(((↑(z3t [(↑c.pot.length:Int),(↑c.side.length:Int)]):Int) == (2:Int))=z4l c/\True)/\True) /\
 ((c.kind == (3:Int))=false->(false=z4l c/\True)/\True)))
theorem Plain13_q (c:Cert) (ty0 ty1 ty2 ty3:TypeId):zex c ty0 ty1 ty2 ty3=z2d TT zj2 (Plain13_I c) (Plain13_an c) Tryz.f116 [.agg [.int .i64 c.kind,.row 0,.row 1,.row 2,.row 3]] [(0,.row false ty0 (.ints .i64 c.flow)),(1,.row false ty1 (.ints .i64 c.pot)),(2,.row false ty2 (.bools c.side)),(3,.row false ty3 (.ints .i64 c.cycle))] (zj3 c):=by kernel_rfl
theorem Plain13_E (c:Cert) (ty0 ty1 ty2 ty3:TypeId) (hp:True):FVc TT zj2 (Plain13_I c) (Plain13_an c) Tryz.f116 [.agg [.int .i64 c.kind,.row 0,.row 1,.row 2,.row 3]] [(0,.row false ty0 (.ints .i64 c.flow)),(1,.row false ty1 (.ints .i64 c.pot)),(2,.row false ty2 (.bools c.side)),(3,.row false ty3 (.ints .i64 c.cycle))] (zj3 c):=by
 refine FVc.of (zex c ty0 ty1 ty2 ty3) (Plain13_q c ty0 ty1 ty2 ty3) ?_
 unfold zex
 simp only [eq_self,exists_const,forall_const,ne_eq,Int.toNat_natCast,zSS,z06]
 unfold z4l
 have e2:∀ a b:Nat,(((z3t [(a:Int),(b:Int)]:Nat):Int) == 2)=(decide (a=0) && decide (b=0)):=fun a b=>by
  rw [z6v,z6v,zerosF_nil]
  by_cases ha:a=0 <;> by_cases hb:b=0 <;> simp [ha,hb]
 have e3:∀ a b c:Nat,(((z3t [(a:Int),(b:Int),(c:Int)]:Nat):Int) == 3)=(decide (a=0) && decide (b=0) && decide (c=0)):=fun a b c=>by
  rw [z6v,z6v,z6v,zerosF_nil]
  by_cases ha:a=0 <;> by_cases hb:b=0 <;> by_cases hc:c=0 <;> simp [ha,hb,hc]
 refine ⟨fun h1=>⟨by omega,by rw [if_pos h1,e2]⟩,fun h1=>⟨fun h2=>⟨by omega,by rw [if_neg h1,if_pos h2,e3]⟩,fun h2=>⟨fun h3=>⟨by omega,by rw [if_neg h1,if_neg h2,if_pos h3,e2]⟩,fun h3=>by rw [if_neg h1,if_neg h2,if_neg h3]⟩⟩⟩
theorem Plain13_ok:SpecOk Tryz.prog Plain13_n true (z02 true zey) :=
 z0a z0h (show z14 Tryz.prog zj2 from z00 empty13_ok (z04)) (by kernel_rfl) mixedOrders Tryz.func116 rfl rfl (by kernel_rfl) (n:=1) (by decide +kernel) (I:=Plain13_IA) (fun _ _=>z07) (A:=Plain13_A)
  (fun args h r hr=>by
   unfold zey at hr
   split at hr
   ·rename_i c_k ty0 c_f ty1 c_p ty2 c_s ty3 c_y; cases hr; refine ⟨rfl,fun hp=>?_⟩; have hE:=Plain13_E ⟨c_k,c_f,c_p,c_s,c_y⟩ ty0 ty1 ty2 ty3 hp; exact hE
   ·cases hr)
def zje (I : Inst) (c : Cert) (ty0 ty1 ty2 ty3 ty4 ty5 : TypeId) : Prop :=
      ((c.kind != (1:Int))=true->((((0:Int)=(z55 I c).hi/\(0:Int)=(z55 I c).lo/\True)/\false=decide (c.kind=(1:Int))/\True)/\True)/\True) /\
 ((c.kind != (1:Int))=false ->
 (A64 c.flow/\A64c I.arcs/\I.arcs.length <= (1000000:Nat)) /\
 ((((W (z9e I c.flow)).hi=(z55 I c).hi/\(W (z9e I c.flow)).lo=(z55 I c).lo/\True)/\true=decide (c.kind=(1:Int))/\True)/\True)/\True)
theorem ValueC_q (I:Inst) (c:Cert) (ty0 ty1 ty2 ty3 ty4 ty5:TypeId):zje I c ty0 ty1 ty2 ty3 ty4 ty5=z2d TT ValueC_g (ValueC_I I c) (ValueC_an I c) Tryz.f27 [.agg [.row 0,.row 1],.agg [.int .i64 c.kind,.row 2,.row 3,.row 4,.row 5]] [(0,.row false ty0 (.ints .i64 I.sup)),(1,.row false ty1 (.arcs I.arcs)),(2,.row false ty2 (.ints .i64 c.flow)),(3,.row false ty3 (.ints .i64 c.pot)),(4,.row false ty4 (.bools c.side)),(5,.row false ty5 (.ints .i64 c.cycle))] (ValueC_r I c):=by kernel_rfl
theorem ValueC_E (I:Inst) (c:Cert) (ty0 ty1 ty2 ty3 ty4 ty5:TypeId) (hp:z1b c/\z37 I):FVc TT ValueC_g (ValueC_I I c) (ValueC_an I c) Tryz.f27 [.agg [.row 0,.row 1],.agg [.int .i64 c.kind,.row 2,.row 3,.row 4,.row 5]] [(0,.row false ty0 (.ints .i64 I.sup)),(1,.row false ty1 (.arcs I.arcs)),(2,.row false ty2 (.ints .i64 c.flow)),(3,.row false ty3 (.ints .i64 c.pot)),(4,.row false ty4 (.bools c.side)),(5,.row false ty5 (.ints .i64 c.cycle))] (ValueC_r I c):=by
 refine FVc.of (zje I c ty0 ty1 ty2 ty3 ty4 ty5) (ValueC_q I c ty0 ty1 ty2 ty3 ty4 ty5) ?_
 unfold zje
 obtain ⟨c1,c2,c3,c4,c5,c6⟩:=hp.1
 obtain ⟨i1,i2,i3,i4,i5⟩:=hp.2
 simp only [eq_self,exists_const,forall_const,ne_eq,Int.toNat_natCast,zSS,z06]
 unfold z55
 refine ⟨fun h=>by rw [if_neg h]; exact ⟨⟨rfl,rfl⟩,(decide_eq_false h).symm⟩,fun h=>⟨⟨c1,i5,by omega⟩,by rw [if_pos h]; exact ⟨⟨rfl,rfl⟩,(decide_eq_true h).symm⟩⟩⟩
theorem ValueC_ok:SpecOk Tryz.prog ValueC_n true (z02 true zjf) :=
 z0a z0h (show z14 Tryz.prog ValueC_g from z00 Cost_ok (z04)) (by kernel_rfl) mixedOrders Tryz.func27 rfl rfl (by kernel_rfl) (n:=2) (by decide +kernel) (I:=ValueC_IA) (fun _ _=>z07) (A:=ValueC_A)
  (fun args h r hr=>by
   unfold zjf at hr
   split at hr
   ·rename_i c_k ty0 I_s ty1 I_a ty2 c_f ty3 c_p ty4 c_s ty5 c_y; cases hr; refine ⟨rfl,fun hp=>?_⟩; have hE:=ValueC_E ⟨I_s,I_a⟩ ⟨c_k,c_f,c_p,c_s,c_y⟩ ty0 ty1 ty2 ty3 ty4 ty5 hp; exact hE
   ·cases hr)
def zf7 (I : Inst) (c : Cert) (ty0 ty1 ty2 ty3 ty4 ty5 : TypeId) : Prop :=
   (I.sup.length <= (10000:Nat)/\I.arcs.length <= (10000:Nat)/\A64 c.flow/\A64 I.sup/\A64 c.pot/\A64c I.arcs)/\(z17 I c.flow c.pot=z17 I c.flow c.pot/\True)/\True
theorem askedC1_q (I:Inst) (c:Cert) (ty0 ty1 ty2 ty3 ty4 ty5:TypeId):zf7 I c ty0 ty1 ty2 ty3 ty4 ty5=z2d TT zk1 (askedC1_I I c) (askedC1_an I c) Tryz.f128 [.agg [.row 0,.row 1],.agg [.int .i64 c.kind,.row 2,.row 3,.row 4,.row 5]] [(0,.row false ty0 (.ints .i64 I.sup)),(1,.row false ty1 (.arcs I.arcs)),(2,.row false ty2 (.ints .i64 c.flow)),(3,.row false ty3 (.ints .i64 c.pot)),(4,.row false ty4 (.bools c.side)),(5,.row false ty5 (.ints .i64 c.cycle))] (zk2 I c):=by kernel_rfl
theorem askedC1_E (I:Inst) (c:Cert) (ty0 ty1 ty2 ty3 ty4 ty5:TypeId) (hp:z1b c/\z37 I):FVc TT zk1 (askedC1_I I c) (askedC1_an I c) Tryz.f128 [.agg [.row 0,.row 1],.agg [.int .i64 c.kind,.row 2,.row 3,.row 4,.row 5]] [(0,.row false ty0 (.ints .i64 I.sup)),(1,.row false ty1 (.arcs I.arcs)),(2,.row false ty2 (.ints .i64 c.flow)),(3,.row false ty3 (.ints .i64 c.pot)),(4,.row false ty4 (.bools c.side)),(5,.row false ty5 (.ints .i64 c.cycle))] (zk2 I c):=by
 refine FVc.of (zf7 I c ty0 ty1 ty2 ty3 ty4 ty5) (askedC1_q I c ty0 ty1 ty2 ty3 ty4 ty5) ?_
 unfold zf7
 obtain ⟨c1,c2,c3,c4,c5,c6⟩:=hp.1
 obtain ⟨i1,i2,i3,i4,i5⟩:=hp.2
 simp only [eq_self,exists_const,forall_const,ne_eq,Int.toNat_natCast,zSS,z06]
 exact ⟨i1,i2,c1,i3,c2,i5⟩
theorem askedC1_ok:SpecOk Tryz.prog askedC1_n true (z02 true zf8) :=
 z0a z0h (show z14 Tryz.prog zk1 from z00 Slack_ok (z04)) (by kernel_rfl) mixedOrders Tryz.func128 rfl rfl (by kernel_rfl) (n:=2) (by decide +kernel) (I:=askedC1_IA) (fun _ _=>z07) (A:=askedC1_A)
  (fun args h r hr=>by
   unfold zf8 at hr
   split at hr
   ·rename_i c_k ty0 I_s ty1 I_a ty2 c_f ty3 c_p ty4 c_s ty5 c_y; cases hr; refine ⟨rfl,fun hp=>?_⟩; have hE:=askedC1_E ⟨I_s,I_a⟩ ⟨c_k,c_f,c_p,c_s,c_y⟩ ty0 ty1 ty2 ty3 ty4 ty5 hp; exact hE
   ·cases hr)
def zf9 (I : Inst) (c : Cert) (ty0 ty1 ty2 ty3 ty4 ty5 : TypeId) : Prop :=
   (A64a I.arcs/\I.arcs.length <= (140737488351232:Nat)/\A64 I.sup/\I.sup.length <= (140737488351232:Nat))/\(z24 I c.side=z24 I c.side/\True)/\True
theorem askedC2_q (I:Inst) (c:Cert) (ty0 ty1 ty2 ty3 ty4 ty5:TypeId):zf9 I c ty0 ty1 ty2 ty3 ty4 ty5=z2d TT zk3 (askedC2_I I c) (askedC2_an I c) Tryz.f130 [.agg [.row 0,.row 1],.agg [.int .i64 c.kind,.row 2,.row 3,.row 4,.row 5]] [(0,.row false ty0 (.ints .i64 I.sup)),(1,.row false ty1 (.arcs I.arcs)),(2,.row false ty2 (.ints .i64 c.flow)),(3,.row false ty3 (.ints .i64 c.pot)),(4,.row false ty4 (.bools c.side)),(5,.row false ty5 (.ints .i64 c.cycle))] (zk4 I c):=by kernel_rfl
theorem askedC2_E (I:Inst) (c:Cert) (ty0 ty1 ty2 ty3 ty4 ty5:TypeId) (hp:z1b c/\z37 I):FVc TT zk3 (askedC2_I I c) (askedC2_an I c) Tryz.f130 [.agg [.row 0,.row 1],.agg [.int .i64 c.kind,.row 2,.row 3,.row 4,.row 5]] [(0,.row false ty0 (.ints .i64 I.sup)),(1,.row false ty1 (.arcs I.arcs)),(2,.row false ty2 (.ints .i64 c.flow)),(3,.row false ty3 (.ints .i64 c.pot)),(4,.row false ty4 (.bools c.side)),(5,.row false ty5 (.ints .i64 c.cycle))] (zk4 I c):=by
 refine FVc.of (zf9 I c ty0 ty1 ty2 ty3 ty4 ty5) (askedC2_q I c ty0 ty1 ty2 ty3 ty4 ty5) ?_
 unfold zf9
 obtain ⟨c1,c2,c3,c4,c5,c6⟩:=hp.1
 obtain ⟨i1,i2,i3,i4,i5⟩:=hp.2
 simp only [eq_self,exists_const,forall_const,ne_eq,Int.toNat_natCast,zSS,z06]
 exact ⟨i4,by omega,i3,by omega⟩
theorem askedC2_ok:SpecOk Tryz.prog askedC2_n true (z02 true zfa) :=
 z0a z0h (show z14 Tryz.prog zk3 from z00 Proves_ok (z04)) (by kernel_rfl) mixedOrders Tryz.func130 rfl rfl (by kernel_rfl) (n:=2) (by decide +kernel) (I:=askedC2_IA) (fun _ _=>z07) (A:=askedC2_A)
  (fun args h r hr=>by
   unfold zfa at hr
   split at hr
   ·rename_i c_k ty0 I_s ty1 I_a ty2 c_f ty3 c_p ty4 c_s ty5 c_y; cases hr; refine ⟨rfl,fun hp=>?_⟩; have hE:=askedC2_E ⟨I_s,I_a⟩ ⟨c_k,c_f,c_p,c_s,c_y⟩ ty0 ty1 ty2 ty3 ty4 ty5 hp; exact hE
   ·cases hr)
def zfb (I : Inst) (c : Cert) (ty0 ty1 ty2 ty3 ty4 ty5 : TypeId) : Prop :=
      (I.sup.length <= (10000:Nat)/\I.arcs.length <= (10000:Nat)/\A64 c.flow/\A64 I.sup) /\
 ((z1a I c.flow != (0:Int))=true->((z1a I c.flow=if z1a I c.flow ≠ (0:Int) then z1a I c.flow else z21 I c.cycle)/\True)/\True) /\
 ((z1a I c.flow != (0:Int))=false ->
 (c.cycle.length <= (140737488351232:Nat)/\A64c I.arcs)/\((z21 I c.cycle=if z1a I c.flow ≠ (0:Int) then z1a I c.flow else z21 I c.cycle)/\True)/\True)
theorem askedC3_q (I:Inst) (c:Cert) (ty0 ty1 ty2 ty3 ty4 ty5:TypeId):zfb I c ty0 ty1 ty2 ty3 ty4 ty5=z2d TT zk5 (askedC3_I I c) (askedC3_an I c) Tryz.f132 [.agg [.row 0,.row 1],.agg [.int .i64 c.kind,.row 2,.row 3,.row 4,.row 5]] [(0,.row false ty0 (.ints .i64 I.sup)),(1,.row false ty1 (.arcs I.arcs)),(2,.row false ty2 (.ints .i64 c.flow)),(3,.row false ty3 (.ints .i64 c.pot)),(4,.row false ty4 (.bools c.side)),(5,.row false ty5 (.ints .i64 c.cycle))] (zk6 I c):=by kernel_rfl
theorem askedC3_E (I:Inst) (c:Cert) (ty0 ty1 ty2 ty3 ty4 ty5:TypeId) (hp:z1b c/\z37 I):FVc TT zk5 (askedC3_I I c) (askedC3_an I c) Tryz.f132 [.agg [.row 0,.row 1],.agg [.int .i64 c.kind,.row 2,.row 3,.row 4,.row 5]] [(0,.row false ty0 (.ints .i64 I.sup)),(1,.row false ty1 (.arcs I.arcs)),(2,.row false ty2 (.ints .i64 c.flow)),(3,.row false ty3 (.ints .i64 c.pot)),(4,.row false ty4 (.bools c.side)),(5,.row false ty5 (.ints .i64 c.cycle))] (zk6 I c):=by
 refine FVc.of (zfb I c ty0 ty1 ty2 ty3 ty4 ty5) (askedC3_q I c ty0 ty1 ty2 ty3 ty4 ty5) ?_
 unfold zfb
 obtain ⟨c1,c2,c3,c4,c5,c6⟩:=hp.1
 obtain ⟨i1,i2,i3,i4,i5⟩:=hp.2
 simp only [eq_self,exists_const,forall_const,ne_eq,Int.toNat_natCast,zSS,z06]
 refine ⟨⟨i1,i2,c1,i3⟩,fun h=>by rw [if_pos h],fun h=>⟨⟨c6,i5⟩,by rw [if_neg (fun h2=>h2 h)]⟩⟩
theorem askedC3_ok:SpecOk Tryz.prog askedC3_n true (z02 true zfc) :=
 z0a z0h (show z14 Tryz.prog zk5 from z00 Fits_ok (z00 Turns_ok (z04))) (by kernel_rfl) mixedOrders Tryz.func132 rfl rfl (by kernel_rfl) (n:=2) (by decide +kernel) (I:=askedC3_IA) (fun _ _=>z07) (A:=askedC3_A)
  (fun args h r hr=>by
   unfold zfc at hr
   split at hr
   ·rename_i c_k ty0 I_s ty1 I_a ty2 c_f ty3 c_p ty4 c_s ty5 c_y; cases hr; refine ⟨rfl,fun hp=>?_⟩; have hE:=askedC3_E ⟨I_s,I_a⟩ ⟨c_k,c_f,c_p,c_s,c_y⟩ ty0 ty1 ty2 ty3 ty4 ty5 hp; exact hE
   ·cases hr)
theorem askedC_ok:SpecOk Tryz.prog askedC_n false zk7 :=
 z4j z0h (show z14 Tryz.prog askedC_g from z04) (by kernel_rfl) mixedOrders Tryz.func117 rfl rfl (by kernel_rfl) _
def Check_E0 (I : Inst) (c : Cert) (ty0 ty1 ty2 ty3 ty4 ty5 : TypeId) : Prop :=
      True /\
 ((z05 I != (0:Int))=true->(z05 I=z1g I c/\True)/\True) /\
 ((z05 I != (0:Int))=false ->
 True /\
 ((!z4l { kind:=c.kind,flow:=c.flow,pot:=c.pot,side:=c.side,cycle:=c.cycle:Cert })=true->((36:Int)=z1g I c/\True)/\True) /\
 ((!z4l { kind:=c.kind,flow:=c.flow,pot:=c.pot,side:=c.side,cycle:=c.cycle:Cert })=false ->
 ((∀ (p:List Int × Int),
 List.Mem p
 (mput (mput (mput [] [(1:Int)] ((↑(128:Nat):Int)+(1:Int))) [(2:Int)] ((↑(130:Nat):Int)+(1:Int))) [(3:Int)]
 ((↑(132:Nat):Int)+(1:Int))) ->
 (0:Int)<p.snd) /\
 ([c.kind]=[(1:Int)] ->
 (z1b { kind:=c.kind,flow:=c.flow,pot:=c.pot,side:=c.side,cycle:=c.cycle:Cert }/\z37 I) /\
 (z17 I c.flow c.pot=z1g I c/\True)/\True) /\
 ([c.kind] ≠ [(1:Int)] ->
 ([c.kind]=[(2:Int)] ->
 (z1b { kind:=c.kind,flow:=c.flow,pot:=c.pot,side:=c.side,cycle:=c.cycle:Cert }/\z37 I) /\
 (z24 I c.side=z1g I c/\True)/\True) /\
 ([c.kind] ≠ [(2:Int)] ->
 ([c.kind]=[(3:Int)] ->
 (z1b { kind:=c.kind,flow:=c.flow,pot:=c.pot,side:=c.side,cycle:=c.cycle:Cert }/\z37 I) /\
 ((if z1a I c.flow ≠ (0:Int) then z1a I c.flow else z21 I c.cycle)=z1g I c/\True)/\True) /\
 ([c.kind] ≠ [(3:Int)]->((36:Int)=z1g I c/\True)/\True)))) /\
 (∀ (p:List Int × Int),
 List.Mem p
 (mput (mput (mput [] [(1:Int)] ((↑(128:Nat):Int)+(1:Int))) [(2:Int)] ((↑(130:Nat):Int)+(1:Int))) [(3:Int)]
 ((↑(132:Nat):Int)+(1:Int))) ->
 (0:Int)<p.snd) /\
 ([c.kind]=[(1:Int)] ->
 (z1b { kind:=c.kind,flow:=c.flow,pot:=c.pot,side:=c.side,cycle:=c.cycle:Cert }/\z37 I) /\
 (z17 I c.flow c.pot=z1g I c/\True)/\True) /\
 ([c.kind] ≠ [(1:Int)] ->
 ([c.kind]=[(2:Int)] ->
 (z1b { kind:=c.kind,flow:=c.flow,pot:=c.pot,side:=c.side,cycle:=c.cycle:Cert }/\z37 I) /\
 (z24 I c.side=z1g I c/\True)/\True) /\
 ([c.kind] ≠ [(2:Int)] ->
 ([c.kind]=[(3:Int)] ->
 (z1b { kind:=c.kind,flow:=c.flow,pot:=c.pot,side:=c.side,cycle:=c.cycle:Cert }/\z37 I) /\
 ((if z1a I c.flow ≠ (0:Int) then z1a I c.flow else z21 I c.cycle)=z1g I c/\True)/\True) /\
 ([c.kind] ≠ [(3:Int)]->((36:Int)=z1g I c/\True)/\True)))))
theorem Check_q (I:Inst) (c:Cert) (ty0 ty1 ty2 ty3 ty4 ty5:TypeId):Check_E0 I c ty0 ty1 ty2 ty3 ty4 ty5=z2d TT Check_g (Check_I I c) (Check_an I c) Tryz.f97 [.agg [.row 0,.row 1],.agg [.int .i64 c.kind,.row 2,.row 3,.row 4,.row 5]] [(0,.row false ty0 (.ints .i64 I.sup)),(1,.row false ty1 (.arcs I.arcs)),(2,.row false ty2 (.ints .i64 c.flow)),(3,.row false ty3 (.ints .i64 c.pot)),(4,.row false ty4 (.bools c.side)),(5,.row false ty5 (.ints .i64 c.cycle))] (Check_r I c):=by kernel_rfl
theorem Check_E (I:Inst) (c:Cert) (ty0 ty1 ty2 ty3 ty4 ty5:TypeId) (hp:z1b c/\z37 I):FVc TT Check_g (Check_I I c) (Check_an I c) Tryz.f97 [.agg [.row 0,.row 1],.agg [.int .i64 c.kind,.row 2,.row 3,.row 4,.row 5]] [(0,.row false ty0 (.ints .i64 I.sup)),(1,.row false ty1 (.arcs I.arcs)),(2,.row false ty2 (.ints .i64 c.flow)),(3,.row false ty3 (.ints .i64 c.pot)),(4,.row false ty4 (.bools c.side)),(5,.row false ty5 (.ints .i64 c.cycle))] (Check_r I c):=by
 refine FVc.of (Check_E0 I c ty0 ty1 ty2 ty3 ty4 ty5) (Check_q I c ty0 ty1 ty2 ty3 ty4 ty5) ?_
 unfold Check_E0
 obtain ⟨c1,c2,c3,c4,c5,c6⟩:=hp.1
 have hc:z1b ⟨c.kind,c.flow,c.pot,c.side,c.cycle⟩:=hp.1
 have mem:∀ x y z:Nat,∀ p:List Int × Int,List.Mem p (mput (mput (mput [] [1] ((x:Int)+1)) [2] ((y:Int)+1)) [3] ((z:Int)+1))->0<p.2:=fun x y z p hp=>by
  have h:p ∈ [([(1:Int)],(x:Int)+1),([2],(y:Int)+1),([3],(z:Int)+1)]:=hp
  simp only [List.mem_cons,List.not_mem_nil,or_false] at h
  rcases h with rfl | rfl | rfl <;> dsimp only <;> omega
 refine ⟨trivial,fun h=>⟨?_,trivial⟩,fun h=>⟨trivial,fun h2=>⟨?_,trivial⟩,fun h2=>?_⟩⟩
 ·have h3:¬ z05 I=0:=by simpa using h
  unfold z1g; rw [if_pos h3]; exact ⟨rfl,trivial⟩
 ·have h3:z05 I=0:=by simpa using h
  have h4:z4l c=false:=by simpa using h2
  unfold z1g; rw [if_neg (fun h5=>h5 h3),if_pos h4]; exact ⟨rfl,trivial⟩
 ·have h3:z05 I=0:=by simpa using h
  have h4:z4l c=true:=by simpa using h2
  have e0:z1g I c=if c.kind=1 then z17 I c.flow c.pot else if c.kind=2 then z24 I c.side else if z1a I c.flow ≠ 0 then z1a I c.flow else z21 I c.cycle:=by
   unfold z1g; rw [if_neg (fun h5=>h5 h3),if_neg (by rw [h4]; simp)]
  have hk:=zcc h4
  have f1:([c.kind]=[(1:Int)]->(z1b c/\z37 I)/\(z17 I c.flow c.pot=z1g I c/\True)/\True):=fun h=>by
   have h:c.kind=1:=by simpa using h
   exact ⟨hp,⟨by rw [e0,if_pos h],trivial⟩,trivial⟩
  have f2:[c.kind] ≠ [(1:Int)]->([c.kind]=[(2:Int)]->(z1b c/\z37 I)/\(z24 I c.side=z1g I c/\True)/\True):=fun _ h=>by
   have h:c.kind=2:=by simpa using h
   exact ⟨hp,⟨by rw [e0,if_neg (by omega),if_pos h],trivial⟩,trivial⟩
  have f3:[c.kind] ≠ [(2:Int)]->([c.kind]=[(3:Int)]->(z1b c/\z37 I)/\((if z1a I c.flow ≠ (0:Int) then z1a I c.flow else z21 I c.cycle)=z1g I c/\True)/\True):=fun _ h=>by
   have h:c.kind=3:=by simpa using h
   exact ⟨hp,⟨by rw [e0,if_neg (show ¬ c.kind=1 by omega),if_neg (show ¬ c.kind=2 by omega)],trivial⟩,trivial⟩
  have f4:[c.kind] ≠ [(1:Int)]->[c.kind] ≠ [(2:Int)]->[c.kind] ≠ [(3:Int)]->((36:Int)=z1g I c/\True)/\True:=fun g1 g2 g3=>by
   rcases hk with h | h | h
   ·exact absurd (by rw [h]) g1
   ·exact absurd (by rw [h]) g2
   ·exact absurd (by rw [h]) g3
  exact ⟨⟨mem _ _ _,f1,fun g1=>⟨f2 g1,fun g2=>⟨f3 g2,fun g3=>f4 g1 g2 g3⟩⟩⟩,mem _ _ _,f1,fun g1=>⟨f2 g1,fun g2=>⟨f3 g2,fun g3=>f4 g1 g2 g3⟩⟩⟩
theorem Check_ok:SpecOk Tryz.prog Check_n true (z02 true zcu) :=
 z0a z0h (show z14 Tryz.prog Check_g from z00 za9 (z00 Plain13_ok (z00 askedC_ok (z00 askedC1_ok (z00 askedC2_ok (z00 askedC3_ok (z04))))))) (by kernel_rfl) mixedOrders Tryz.func97 rfl rfl (by kernel_rfl) (n:=2) (by decide +kernel) (I:=Check_IA) (fun _ _=>z07) (A:=Check_A)
  (fun args h r hr=>by
   unfold zcu at hr
   split at hr
   ·rename_i c_k ty0 I_s ty1 I_a ty2 c_f ty3 c_p ty4 c_s ty5 c_y; cases hr; refine ⟨rfl,fun hp=>?_⟩; have hE:=Check_E ⟨I_s,I_a⟩ ⟨c_k,c_f,c_p,c_s,c_y⟩ ty0 ty1 ty2 ty3 ty4 ty5 hp; exact hE
   ·cases hr)
end Go.Proofs.YtapeenpimcffpaaGreat
end
section
namespace Go.Ql
open Go Go.Vc
theorem z4h {I:Inst} {c:Cert} (h:z1g I c=0):z05 I=0/\z4l c=true/\(c.kind=1/\z17 I c.flow c.pot=0 ∨ c.kind=2/\z24 I c.side=0 ∨ c.kind=3/\z1a I c.flow=0/\z21 I c.cycle=0):=by
 unfold z1g at h
 by_cases h1:z05 I=0
 ·rw [if_neg (fun h2=>h2 h1)] at h
  cases hp:z4l c with
  | false=>rw [hp] at h; simp at h
  | true =>
   rw [hp] at h
   simp only [Bool.true_eq_false,if_false] at h
   refine ⟨h1,rfl,?_⟩
   rcases zcc hp with hk | hk | hk
   ·left; rw [if_pos hk] at h; exact ⟨hk,h⟩
   ·right; left; rw [if_neg (by omega),if_pos hk] at h; exact ⟨hk,h⟩
   ·right; right
    rw [if_neg (by omega),if_neg (by omega)] at h
    refine ⟨hk,?_⟩
    by_cases hf:z1a I c.flow=0
    ·rw [if_neg (fun h2=>h2 hf)] at h; exact ⟨hf,h⟩
    ·rw [if_pos hf] at h; exact absurd h hf
 ·rw [if_pos h1] at h; exact absurd h h1
theorem z7x {I:Inst} {x pot:List Int} (h:z17 I x pot=0):z1a I x=0/\pot.length=I.sup.length/\∀ k,k<I.arcs.length->z4m I x pot k=true:=by
 unfold z17 at h
 by_cases h1:z1a I x=0
 ·rw [if_neg (fun h2=>h2 h1)] at h
  by_cases h2:pot.length=I.sup.length
  ·rw [if_neg (fun h3=>h3 h2)] at h
   refine ⟨h1,h2,fun k hk=>?_⟩
   split at h
   ·rename_i h3; exact List.all_eq_true.1 h3 k (List.mem_range.2 hk)
   ·omega
  ·rw [if_pos h2] at h; omega
 ·rw [if_pos h1] at h; exact absurd h h1
theorem turns_zero {I:Inst} {l:List Int} (h:z21 I l=0):z05 I=0/\0<l.length/\l.length <= I.arcs.length/\c1F I l=true/\c2F l=true/\c3F I l=true/\c4F I l=true/\c5F I l=true:=by
 unfold z21 at h
 by_cases h1:z05 I=0
 ·rw [if_neg (fun h2=>h2 h1)] at h
  by_cases h2:l.length=0 ∨ I.arcs.length<l.length
  ·rw [if_pos h2] at h; omega
  ·rw [if_neg h2] at h
   split at h
   ·rename_i h3
    simp only [Bool.and_eq_true] at h3
    exact ⟨h1,by omega,by omega,h3.1.1.1.1,h3.1.1.1.2,h3.1.1.2,h3.1.2,h3.2⟩
   ·omega
 ·rw [if_pos h1] at h; exact absurd h h1
theorem potR_I64 {pot:List Int} (h:A64 pot) (n:Int):I64 (potR pot n):=by
 unfold potR
 split
 ·exact h.getD _
 ·unfold I64; omega
theorem redP_I128 {I:Inst} {pot:List Int} (hr:z05 I=0) (hp:A64 pot) {a:Arc} (ha:a ∈ I.arcs):zb7 (redP pot a):=by
 have h1:=potR_I64 hp a.src
 have h2:=potR_I64 hp a.dst
 have h3:=z1h hr ha
 unfold redP redA zb7
 unfold I64 at h1 h2
 omega
theorem rayK_bd {I:Inst} (hr:z05 I=0) (l:List Int):∀ k:Nat,-(4398046511104 * (k:Int)) <= z92 I l k/\z92 I l k <= 4398046511104 * (k:Int)
 | 0=>by simp [z92]
 | k+1=>by
  have ih:=rayK_bd hr l k
  have hd:-4398046511104 <= rayD I (l.getD k 0)/\rayD I (l.getD k 0) <= 4398046511104:=by
   unfold rayD
   split
   ·rename_i h
    obtain ⟨h1,h2⟩:=isArcF_iff.1 h
    obtain ⟨a,ha⟩:∃ a,I.arcs[(l.getD k 0).toNat]? = some a:=⟨_,List.getElem?_eq_getElem (by omega)⟩
    rw [z6b ha]
    have:=z1h hr (List.mem_of_getElem? ha)
    omega
   ·omega
  rw [z92]
  push_cast
  omega
theorem no_both {I:Inst} {x pot l:List Int} (hp:A64 pot) (hs:z17 I x pot=0) (ht:z21 I l=0):False:=by
 obtain ⟨hr,hl0,hl1,c1,c2,c3,c4,c5⟩:=turns_zero ht
 obtain ⟨hf,hpl,hk⟩:=z7x hs
 have hrs:=z0d hr
 let P:Nat->Int:=fun k=>potR pot (z53 I (l.getD k 0)).src
 have step:∀ k,k<l.length->0 <= rayD I (l.getD k 0) - P k+P ((k+1) % l.length):=fun k hkl=>by
  have hx:l[k]? = some (l.getD k 0):=by rw [List.getD_eq_getElem?_getD,List.getElem?_eq_getElem hkl]; rfl
  have hm:=List.mem_of_getElem? hx
  generalize hy:l.getD k 0=y at *
  have h1:=List.all_eq_true.1 c1 y hm
  obtain ⟨y0,y1⟩:=isArcF_iff.1 h1
  obtain ⟨a,ha⟩:∃ a,I.arcs[y.toNat]? = some a:=⟨_,List.getElem?_eq_getElem (by omega)⟩
  have hma:=List.mem_of_getElem? ha
  have hat:=z6b (x:=y) ha
  have hcap:a.cap=inf:=by
   have:=List.all_eq_true.1 c4 y hm
   rw [hat] at this
   exact of_decide_eq_true this
  have hlink:(z53 I y).dst=(z53 I (l.getD ((k+1) % l.length) 0)).src:=by
   have:=List.all_eq_true.1 c3 k (List.mem_range.2 hkl)
   unfold linkF at this
   rw [hy] at this
   exact of_decide_eq_true this
  have hsk:=hk y.toNat (by omega)
  unfold z4m at hsk
  rw [redF_at ha (z1h hr hma).1,show I.arcs.getD y.toNat default=a by rw [List.getD_eq_getElem?_getD,ha]; rfl] at hsk
  have h2:¬ sgn (redP pot a)<0:=fun h3=>by
   unfold z5r at hsk
   simp [h3,hcap] at hsk
  have h3:0 <= redP pot a:=by
   apply Classical.byContradiction
   intro h4
   exact h2 ((sgn_neg (redP_I128 hr hp hma)).2 (by omega))
  unfold redP redA at h3
  have e1:rayD I y=a.cost:=by unfold rayD; rw [h1,hat]; rfl
  have e2:P k=potR pot a.src:=by show potR pot (z53 I (l.getD k 0)).src=_; rw [hy,hat]
  have e3:P ((k+1) % l.length)=potR pot a.dst:=by show potR pot (z53 I (l.getD ((k+1) % l.length) 0)).src=_; rw [<- hlink,hat]
  rw [e1,e2,e3]
  exact h3
 have sums:∀ t,t <= l.length->0 <= z92 I l t+z1m (fun k=>P ((k+1) % l.length) - P k) t:=fun t=>by
  induction t with
  | zero=>intro _; simp [z92,z1m]
  | succ t ih =>
   intro h
   have h1:=ih (by omega)
   have h2:=step t (by omega)
   rw [z92,z1m]
   omega
 have h1:=sums l.length (Nat.le_refl _)
 rw [zgk P l.length (Nat.le_refl _) hl0,Nat.mod_self] at h1
 have h2:=rayK_bd hr l l.length
 unfold c5F rayS at c5
 have h3:=of_decide_eq_true c5
 rw [zbj (by unfold zb7; omega) (by unfold zb7; omega)] at h3
 have h4:¬ z92 I l l.length<0:=by omega
 rw [if_neg h4] at h3
 split at h3 <;> omega
theorem cost_one {I:Inst} {x y p q:List Int} (hx:A64 x) (hy:A64 y) (hp:A64 p) (hq:A64 q) (h1:z17 I x p=0) (h2:z17 I y q=0):z9e I x=z9e I y:=by
 obtain ⟨f1,-,-⟩:=z7x h1
 obtain ⟨f2,-,-⟩:=z7x h2
 have hr:=(fitsF_iff.1 f1).1
 have a:=slack_best hy hx hp h1 f2
 have b:=slack_best hx hy hq h2 f1
 rw [zbj (z7j hr hx) (z7j hr hy)] at a
 rw [zbj (z7j hr hy) (z7j hr hx)] at b
 split at a <;> split at b <;> (try split at a) <;> (try split at b) <;> omega
theorem cert_one {I:Inst} {x y:Cert} (hx:z1b x) (hy:z1b y) (h1:z1g I x=0) (h2:z1g I y=0):x.kind=y.kind/\z55 I x=z55 I y:=by
 obtain ⟨hr,-,k1⟩:=z4h h1
 obtain ⟨-,-,k2⟩:=z4h h2
 have hrs:=z0d hr
 have hw:=(z1n hr).1
 have none_:∀ {s:List Bool} {f:List Int},A64 f->z24 I s=0->z1a I f=0->False:=fun hf h3 h4=>zcd (by omega) (by omega) hf hw h3 h4
 rcases k1 with ⟨a1,b1⟩ | ⟨a1,b1⟩ | ⟨a1,b1,d1⟩ <;> rcases k2 with ⟨a2,b2⟩ | ⟨a2,b2⟩ | ⟨a2,b2,d2⟩
 ·refine ⟨by omega,?_⟩
  unfold z55; rw [if_pos a1,if_pos a2,cost_one hx.1 hy.1 hx.2.1 hy.2.1 b1 b2]
 ·exact (none_ hx.1 b2 (z7x b1).1).elim
 ·exact (no_both hx.2.1 b1 d2).elim
 ·exact (none_ hy.1 b1 (z7x b2).1).elim
 ·refine ⟨by omega,?_⟩
  unfold z55; rw [if_neg (by omega),if_neg (by omega)]
 ·exact (none_ hy.1 b1 b2).elim
 ·exact (no_both hy.2.1 b2 d1).elim
 ·exact (none_ hx.1 b2 b1).elim
 ·refine ⟨by omega,?_⟩
  unfold z55; rw [if_neg (by omega),if_neg (by omega)]
abbrev Rows3:=List (List (List Int))
abbrev Stp:=Nat × Bool
def z22 (I:Inst) (a:Nat):Arc:=I.arcs.getD a default
def frS (I:Inst) (s:Stp):Nat:=if s.2 then (z22 I s.1).dst.toNat else (z22 I s.1).src.toNat
def toS (I:Inst) (s:Stp):Nat:=if s.2 then (z22 I s.1).src.toNat else (z22 I s.1).dst.toNat
def csS (I:Inst) (s:Stp):Int:=if s.2 then -(z22 I s.1).cost else (z22 I s.1).cost
def rmS (I:Inst) (x:List Int) (s:Stp):Int:=if s.2 then x.getD s.1 0 - (z22 I s.1).low else if (z22 I s.1).cap=inf then 1152921504606846976 else (z22 I s.1).cap - x.getD s.1 0
def okS (I:Inst) (s:Stp):Prop:=s.1<I.arcs.length
def z4w (x:List Int) (s:Stp) (u:Int):List Int:=x.set s.1 (x.getD s.1 0+(if s.2 then -u else u))
def z6x (I:Inst) (o:List Int) (s:Stp) (u:Int):List Int:=addAt (addAt o (frS I s) (-u)) (toS I s) u
theorem z2e {I:Inst} {a:Nat} {y:Arc} (h:I.arcs[a]? = some y):z22 I a=y:=by unfold z22; rw [List.getD_eq_getElem?_getD,h]; rfl
theorem z85 {I:Inst} {a:Nat} (h:a<I.arcs.length):I.arcs[a]? = some (z22 I a)/\z22 I a ∈ I.arcs:=by
 have e:I.arcs[a]? = some (z22 I a):=by unfold z22; rw [List.getD_eq_getElem?_getD,List.getElem?_eq_getElem h]; rfl
 exact ⟨e,List.mem_of_getElem? e⟩
structure ArcOk (n:Nat) (y:Arc):Prop where
 s0:0 <= y.src
 s1:y.src.toNat<n
 d0:0 <= y.dst
 d1:y.dst.toNat<n
 l0:0 <= y.low
 l1:y.low <= 4398046511104
 c:y.cap=inf ∨ y.low <= y.cap/\y.cap <= 4398046511104
 k0:-4398046511104 <= y.cost
 k1:y.cost <= 4398046511104
theorem z1p {I:Inst} (hr:z05 I=0) {a:Nat} (h:a<I.arcs.length):ArcOk I.sup.length (z22 I a):=by
 have hm:=z1h hr (z85 h).2
 obtain ⟨p1,p2,p3,p4⟩:=okArc_iff.1 hm.1
 exact ⟨p1,by omega,p3,by omega,hm.2.1.1,hm.2.1.2.1,hm.2.1.2.2,hm.2.2.1,hm.2.2.2⟩
theorem z31 {I:Inst} (hr:z05 I=0) {s:Stp} (h:okS I s):frS I s<I.sup.length:=by
 have:=z1p hr h
 unfold frS; split
 ·exact this.d1
 ·exact this.s1
theorem z5s {I:Inst} (hr:z05 I=0) {s:Stp} (h:okS I s):toS I s<I.sup.length:=by
 have:=z1p hr h
 unfold toS; split
 ·exact this.s1
 ·exact this.d1
theorem zh2 {I:Inst} (hr:z05 I=0) {s:Stp} (h:okS I s):-4398046511104 <= csS I s/\csS I s <= 4398046511104:=by
 have:=z1p hr h
 have:=this.k0; have:=(z1p hr h).k1
 unfold csS; split <;> omega
theorem zl8 (I:Inst) (a:Nat) (b:Bool):frS I (a,!b)=toS I (a,b)/\toS I (a,!b)=frS I (a,b)/\csS I (a,!b) = -csS I (a,b):=by
 cases b <;> simp [frS,toS,csS]
structure OverOf (I:Inst) (x o:List Int):Prop where
 lo:o.length=I.sup.length
 lx:x.length=I.arcs.length
 at_:∀ v:Nat,v<I.sup.length->o.getD v 0=I.sup.getD v 0 - z52 I.sup.length I.arcs x I.arcs.length v
theorem zmb (x:List Int) (s:Stp) (u:Int):(z4w x s u).length=x.length:=by simp [z4w]
theorem zm9 (I:Inst) (o:List Int) (s:Stp) (u:Int):(z6x I o s u).length=o.length:=by simp [z6x,z6a]
theorem zdj {I:Inst} {o:List Int} {s:Stp} {u:Int} {v:Nat} (hv:v<o.length):(z6x I o s u).getD v 0=o.getD v 0 - (if frS I s=v then u else 0)+(if toS I s=v then u else 0):=by
 unfold z6x
 rw [addAt_getD _ _ _ _ (by rw [z6a]; exact hv),addAt_getD _ _ _ _ hv]
 split <;> split <;> omega
theorem z8n {x:List Int} {s:Stp} {u:Int} {a:Nat} (h:s.1<x.length):(z4w x s u).getD a 0=x.getD a 0+(if a=s.1 then (if s.2 then -u else u) else 0):=by
 unfold z4w; exact zh4 h _ a
theorem flowD_step {I:Inst} (hr:z05 I=0) {s:Stp} (h:okS I s) (u:Int) (v:Nat):z4t I.sup.length (z22 I s.1) (if s.2 then -u else u) v=(if frS I s=v then u else 0) - (if toS I s=v then u else 0):=by
 have ok:=z1p hr h
 have h1:=ok.s0; have h2:=ok.d0; have h3:=ok.s1; have h4:=ok.d1
 have ho:z2z I.sup.length (z22 I s.1)=true:=okArc_iff.2 ⟨h1,by omega,h2,by omega⟩
 unfold z4t frS toS
 rw [ho,if_pos rfl]
 have e1:((z22 I s.1).src=(v:Int)) ↔ (z22 I s.1).src.toNat=v:=by omega
 have e2:((z22 I s.1).dst=(v:Int)) ↔ (z22 I s.1).dst.toNat=v:=by omega
 cases s.2
 ·simp only [Bool.false_eq_true,if_false,e1,e2]
 ·simp only [if_true,e1,e2]
  split <;> split <;> omega
theorem OverOf.push {I:Inst} (hr:z05 I=0) {x o:List Int} (h:OverOf I x o) {s:Stp} (hs:okS I s) (u:Int):OverOf I (z4w x s u) (z6x I o s u):=by
 refine ⟨by rw [zm9]; exact h.lo,by rw [zmb]; exact h.lx,fun v hv=>?_⟩
 have hx:s.1<x.length:=by rw [h.lx]; exact hs
 rw [zdj (by rw [h.lo]; exact hv),h.at_ v hv]
 have:=netK_set (n:=I.sup.length) (l:=I.arcs) (x:=x) (v:=v) hx (if s.2 then -u else u) I.arcs.length
 unfold z4w
 rw [this,if_pos (show s.1<I.arcs.length from hs)]
 have:=flowD_step hr hs u v
 unfold z22 at this
 rw [this]
 omega
def Betw (I:Inst) (x:List Int):Prop:=∀ a,a<I.arcs.length->(z22 I a).low <= x.getD a 0/\((z22 I a).cap=inf ∨ x.getD a 0 <= (z22 I a).cap)
theorem Betw.room {I:Inst} (hr:z05 I=0) {x:List Int} (h:Betw I x) {s:Stp} (hs:okS I s):0 <= rmS I x s:=by
 have:=h s.1 hs
 have ok:=z1p hr hs
 unfold rmS
 split
 ·omega
 ·split
  ·omega
  ·rename_i h2
   rcases this.2 with h3 | h3
   ·exact absurd h3 h2
   ·omega
theorem betw_push {I:Inst} {x:List Int} (h:Betw I x) (hl:x.length=I.arcs.length) {s:Stp} (hs:okS I s) {u:Int} (h0:0 <= u) (h1:u <= rmS I x s):Betw I (z4w x s u):=fun a ha=>by
 have hx:s.1<x.length:=by rw [hl]; exact hs
 rw [z8n hx]
 have hb:=h a ha
 by_cases e:a=s.1
 ·subst e
  rw [if_pos rfl]
  unfold rmS at h1
  cases hb2:s.2 with
  | true =>
   rw [hb2,if_pos rfl] at h1
   simp only [if_true]
   exact ⟨by omega,hb.2.imp id (by omega)⟩
  | false =>
   rw [hb2,if_neg Bool.false_ne_true] at h1
   simp only [Bool.false_eq_true,if_false]
   refine ⟨by omega,?_⟩
   by_cases hc:(z22 I s.1).cap=inf
   ·exact .inl hc
   ·rw [if_neg hc] at h1; exact .inr (by omega)
 ·rw [if_neg e]; simpa using hb
theorem zl5 {I:Inst} (hr:z05 I=0) {x o:List Int} (h:OverOf I x o) (hb:Betw I x) (h0:∀ v,v<I.sup.length->o.getD v 0=0):z1a I x=0:=by
 refine fitsF_zero.2 ⟨hr,h.lx,fitsAll_iff.2 fun j a ha=>?_,netOk_iff.2 fun v hv=>?_⟩
 ·have hj:=(List.getElem?_eq_some_iff.1 ha).1
  have:=hb j hj
  rw [z2e ha] at this
  simp [fitF]; exact this
 ·have:=h.at_ v hv
  rw [h0 v hv] at this
  congr 1; omega
def z1y (I:Inst) (b:Nat->Option Stp):Nat->Nat->List Stp
 | 0,_=>[]
 | f+1,v=>match b v with
  | none=>[]
  | some s=>s :: z1y I b f (frS I s)
def z15 (I:Inst) (b:Nat->Option Stp):Nat->Nat->Nat
 | 0,v=>v
 | f+1,v=>match b v with
  | none=>v
  | some s=>z15 I b f (frS I s)
def Tree (I:Inst) (b:Nat->Option Stp) (ρ:Nat->Nat):Prop:=∀ v s,v<I.sup.length->b v=some s->okS I s/\toS I s=v/\ρ (frS I s)<ρ v
theorem zem {I:Inst} {b:Nat->Option Stp} {ρ:Nat->Nat} (hr:z05 I=0) (h:Tree I b ρ):∀ (f v:Nat),v<I.sup.length->ρ v<f->z1y I b (f+1) v=z1y I b f v/\z15 I b (f+1) v=z15 I b f v/\b (z15 I b f v)=none/\z15 I b f v<I.sup.length
 | 0,v,_,hf=>by omega
 | f+1,v,hv,hf=>by
  cases hb:b v with
  | none =>
   refine ⟨?_,?_,?_,?_⟩ <;> simp only [z1y,z15,hb]
   exact hv
  | some s =>
   obtain ⟨h1,h2,h3⟩:=h v s hv hb
   obtain ⟨i1,i2,i3,i4⟩:=zem hr h f (frS I s) (z31 hr h1) (by omega)
   have e1:z1y I b (f+1+1) v=s :: z1y I b (f+1) (frS I s):=by rw [z1y,hb]
   have e2:z1y I b (f+1) v=s :: z1y I b f (frS I s):=by rw [z1y,hb]
   have e3:z15 I b (f+1+1) v=z15 I b (f+1) (frS I s):=by rw [z15,hb]
   have e4:z15 I b (f+1) v=z15 I b f (frS I s):=by rw [z15,hb]
   rw [e1,e2,e3,e4,i1,i2]
   exact ⟨rfl,rfl,i3,i4⟩
theorem zel {I:Inst} {b:Nat->Option Stp} {ρ:Nat->Nat} (hr:z05 I=0) (h:Tree I b ρ):∀ (f v:Nat),v<I.sup.length->∀ s ∈ z1y I b f v,okS I s/\b (toS I s)=some s/\ρ (toS I s) <= ρ v/\ρ (frS I s)<ρ (toS I s)
 | 0,v,_,s,hs=>by simp [z1y] at hs
 | f+1,v,hv,s,hs=>by
  rw [z1y] at hs
  cases hb:b v with
  | none=>rw [hb] at hs; simp at hs
  | some t =>
   rw [hb] at hs
   obtain ⟨h1,h2,h3⟩:=h v t hv hb
   rcases List.mem_cons.1 hs with rfl | hs
   ·exact ⟨h1,by rw [h2]; exact hb,by rw [h2]; exact Nat.le_refl _,by rw [h2]; exact h3⟩
   ·obtain ⟨i1,i2,i3,i4⟩:=zel hr h f (frS I t) (z31 hr h1) s hs
    exact ⟨i1,i2,by omega,i4⟩
theorem znp {I:Inst} {b:Nat->Option Stp} {ρ:Nat->Nat} (hr:z05 I=0) (h:Tree I b ρ):∀ (f v:Nat),v<I.sup.length->((z1y I b f v).map (·.1)).Nodup
 | 0,v,_=>by simp [z1y]
 | f+1,v,hv=>by
  rw [z1y]
  cases hb:b v with
  | none=>simp
  | some t =>
   obtain ⟨h1,h2,h3⟩:=h v t hv hb
   dsimp only
   rw [List.map_cons,List.nodup_cons]
   refine ⟨fun hm=>?_,znp hr h f (frS I t) (z31 hr h1)⟩
   obtain ⟨s,hs,he⟩:=List.mem_map.1 hm
   obtain ⟨i1,i2,i3,i4⟩:=zel hr h f (frS I t) (z31 hr h1) s hs
   obtain ⟨a,k⟩:=t
   obtain ⟨a',k'⟩:=s
   dsimp only at he
   subst he
   by_cases hk:k'=k
   ·subst hk; rw [h2] at i3; omega
   ·have hk':k' = !k:=by cases k <;> cases k' <;> simp_all
    subst hk'
    obtain ⟨f1,f2,-⟩:=zl8 I a' k
    rw [f1,f2,h2] at i4
    omega
def z77 (I:Inst) (x:List Int) (u:Int) (l:List Stp):Int:=l.foldl (fun u s=>min u (rmS I x s)) u
theorem znn {I:Inst} {x:List Int}:∀ (l:List Stp) (u:Int),z77 I x u l <= u/\∀ s ∈ l,z77 I x u l <= rmS I x s
 | [],u=>⟨Int.le_refl _,fun s h=>by simp at h⟩
 | t :: l,u=>by
  obtain ⟨i1,i2⟩:=znn (I:=I) (x:=x) l (min u (rmS I x t))
  have e:z77 I x u (t :: l)=z77 I x (min u (rmS I x t)) l:=rfl
  rw [e]
  refine ⟨by omega,fun s hs=>?_⟩
  rcases List.mem_cons.1 hs with rfl | hs
  ·omega
  ·exact i2 s hs
theorem unitsF_ge {I:Inst} {x:List Int} {L:Int}:∀ (l:List Stp) (u:Int),L <= u->(∀ s ∈ l,L <= rmS I x s)->L <= z77 I x u l
 | [],u,h,_=>h
 | t :: l,u,h,h2=>unitsF_ge l (min u (rmS I x t)) (by have:=h2 t (by simp); omega) fun s hs=>h2 s (by simp [hs])
def z2r (x:List Int) (l:List Stp) (u:Int):List Int:=l.foldl (fun x s=>z4w x s u) x
def z20 (I:Inst) (o:List Int) (l:List Stp) (u:Int):List Int:=l.foldl (fun o s=>z6x I o s u) o
theorem pushXs_len (u:Int):∀ (l:List Stp) (x:List Int),(z2r x l u).length=x.length
 | [],x=>rfl
 | s :: l,x=>by show (z2r (z4w x s u) l u).length=_; rw [pushXs_len u l,zmb]
theorem zga (I:Inst) (u:Int):∀ (l:List Stp) (o:List Int),(z20 I o l u).length=o.length
 | [],o=>rfl
 | s :: l,o=>by show (z20 I (z6x I o s u) l u).length=_; rw [zga I u l,zm9]
theorem zdk {u:Int}:∀ {l:List Stp} {x:List Int},(l.map (·.1)).Nodup->(∀ s ∈ l,s.1<x.length)->∀ a,(z2r x l u).getD a 0=x.getD a 0+(if (a,false) ∈ l then u else if (a,true) ∈ l then -u else 0)
 | [],x,_,_,a=>by simp [z2r]
 | s :: l,x,hn,hl,a=>by
  rw [List.map_cons,List.nodup_cons] at hn
  have ih:=zdk (u:=u) (l:=l) (x:=z4w x s u) hn.2 (fun t ht=>by rw [zmb]; exact hl t (by simp [ht])) a
  have e:z2r x (s :: l) u=z2r (z4w x s u) l u:=rfl
  rw [e,ih,z8n (hl s (by simp))]
  obtain ⟨a',k⟩:=s
  dsimp only at hn ⊢
  by_cases ha:a=a'
  ·subst ha
   have n1:∀ k,(a,k) ∉ l:=fun k hm=>hn.1 (List.mem_map.2 ⟨_,hm,rfl⟩)
   cases k <;> simp [n1]
  ·simp [ha]
theorem OverOf.pushs {I:Inst} (hr:z05 I=0) (u:Int):∀ {l:List Stp} {x o:List Int},OverOf I x o->(∀ s ∈ l,okS I s)->OverOf I (z2r x l u) (z20 I o l u)
 | [],x,o,h,_=>h
 | s :: l,x,o,h,hl=>OverOf.pushs hr u (l:=l) (h.push hr (hl s (by simp)) u) fun t ht=>hl t (by simp [ht])
theorem zma {I:Inst} {b:Nat->Option Stp} {ρ:Nat->Nat} (hr:z05 I=0) (h:Tree I b ρ) {u:Int}:∀ (f w:Nat) (o:List Int),w<I.sup.length->o.length=I.sup.length->∀ v,v<I.sup.length ->
  (z20 I o (z1y I b f w) u).getD v 0=o.getD v 0+(if w=v then u else 0) - (if z15 I b f w=v then u else 0)
 | 0,w,o,hw,ho,v,hv=>by simp only [z1y,z15,z20,List.foldl_nil]; omega
 | f+1,w,o,hw,ho,v,hv=>by
  rw [z1y,z15]
  cases hb:b w with
  | none=>simp only [z20,List.foldl_nil]; omega
  | some s =>
   obtain ⟨h1,h2,h3⟩:=h w s hw hb
   have e:z20 I o (s :: z1y I b f (frS I s)) u=z20 I (z6x I o s u) (z1y I b f (frS I s)) u:=rfl
   dsimp only
   rw [e,zma hr h f (frS I s) _ (z31 hr h1) (by rw [zm9]; exact ho) v hv,zdj (by rw [ho]; exact hv),h2]
   omega
theorem betw_pushs {I:Inst} {x:List Int} (h:Betw I x) (hl:x.length=I.arcs.length) {l:List Stp} (hn:(l.map (·.1)).Nodup) (hs:∀ s ∈ l,okS I s) {u:Int} (h0:0 <= u) (h1:∀ s ∈ l,u <= rmS I x s):Betw I (z2r x l u):=fun a ha=>by
 have hb:=h a ha
 rw [zdk hn (fun s h=>by rw [hl]; exact hs s h)]
 by_cases m1:(a,false) ∈ l
 ·rw [if_pos m1]
  have:=h1 _ m1
  unfold rmS at this
  dsimp only at this
  rw [if_neg Bool.false_ne_true] at this
  refine ⟨by omega,?_⟩
  by_cases hc:(z22 I a).cap=inf
  ·exact .inl hc
  ·rw [if_neg hc] at this; exact .inr (by omega)
 ·rw [if_neg m1]
  by_cases m2:(a,true) ∈ l
  ·rw [if_pos m2]
   have:=h1 _ m2
   unfold rmS at this
   dsimp only at this
   rw [if_pos rfl] at this
   exact ⟨by omega,hb.2.imp id (by omega)⟩
  ·rw [if_neg m2]; simpa using hb
def z4n (o:List Int):Nat->Int
 | 0=>0
 | k+1=>z4n o k+max (o.getD k 0) 0
theorem z1w (o:List Int):∀ k,0 <= z4n o k
 | 0=>Int.le_refl _
 | k+1=>by have:=z1w o k; rw [z4n]; omega
theorem posS_eq {o p:List Int}:∀ {k:Nat},(∀ v,v<k->max (p.getD v 0) 0=max (o.getD v 0) 0)->z4n p k=z4n o k
 | 0,_=>rfl
 | k+1,h=>by rw [z4n,z4n,posS_eq (k:=k) fun v hv=>h v (by omega),h k (by omega)]
theorem posS_less {o p:List Int} {r:Nat} {u:Int}:∀ {k:Nat},r<k->(∀ v,v<k->v ≠ r->max (p.getD v 0) 0=max (o.getD v 0) 0)->max (p.getD r 0) 0=max (o.getD r 0) 0 - u->z4n p k=z4n o k - u
 | 0,h,_,_=>by omega
 | k+1,h,h1,h2=>by
  rw [z4n,z4n]
  by_cases e:r=k
  ·subst e
   rw [posS_eq fun v hv=>h1 v (by omega) (by omega),h2]; omega
  ·rw [posS_less (r:=r) (u:=u) (by omega) (fun v hv hne=>h1 v (by omega) hne) h2,h1 k (by omega) (by omega)]; omega
theorem posS_ge {o:List Int} {v:Nat}:∀ {k:Nat},v<k->o.getD v 0 <= z4n o k
 | 0,h=>by omega
 | k+1,h=>by
  have:=z1w o k
  rw [z4n]
  by_cases e:v=k
  ·subst e; omega
  ·have:=posS_ge (o:=o) (v:=v) (k:=k) (by omega); omega
def XB (x:List Int):Prop:=∀ y ∈ x,-288230376151711744 <= y/\y <= 288230376151711744
theorem XB.at {x:List Int} (h:XB x) (k:Nat):-288230376151711744 <= x.getD k 0/\x.getD k 0 <= 288230376151711744:=by
 rw [List.getD_eq_getElem?_getD]
 cases e:x[k]? with
 | none=>exact ⟨by decide,by decide⟩
 | some u=>exact h u (List.mem_of_getElem? e)
def z1o (I:Inst) (s:Int):Prop:=z05 I=0/\0 <= s/\s<I.arcs.length
def endS (I:Inst) (s:Stp):Bool:=!s.2 && decide ((z22 I s.1).cap=inf)
theorem rmS_bd {I:Inst} {x:List Int} (hx:XB x) {s:Int} (h:z1o I s) (b:Bool):-288230376151711744 - 4398046511104 <= rmS I x (s.toNat,b)/\rmS I x (s.toNat,b) <= 1152921504606846976:=by
 have ok:=z1p h.1 (a:=s.toNat) (by have:=h.2; omega)
 have h1:=hx.at s.toNat
 have:=ok.l0; have:=ok.l1; have h2:=ok.c
 unfold rmS
 dsimp only
 split
 ·omega
 ·split
  ·omega
  ·rename_i hc
   have:=h2.resolve_left hc
   omega
theorem push_is {I:Inst} {x o:List Int} {s:Stp} {n:Int} (hr:z05 I=0) (hs:okS I s) (hl:x.length=I.arcs.length) (ho:o.length=I.sup.length) (hx:XB x) (hov:XB o) (n0:-1152921504606846976 <= n) (n1:n <= 1152921504606846976) {y u z:Int}
  (hy:x[s.1]? = some y) (hu:o[frS I s]? = some u) (hz:(o.set (frS I s) (IntKind.i64.wrap (u - n)))[toS I s]? = some z) :
  (s.2=true->x.set s.1 (IntKind.i64.wrap (y - n))=z4w x s n)/\(s.2=false->x.set s.1 (IntKind.i64.wrap (y+n))=z4w x s n)/\(o.set (frS I s) (IntKind.i64.wrap (u - n))).set (toS I s) (IntKind.i64.wrap (z+n))=z6x I o s n:=by
 have hf:=z31 hr hs
 have ht:=z5s hr hs
 have ey:x.getD s.1 0=y:=by rw [List.getD_eq_getElem?_getD,hy]; rfl
 have eu:o.getD (frS I s) 0=u:=by rw [List.getD_eq_getElem?_getD,hu]; rfl
 have by1:=hx.at s.1
 have bu1:=hov.at (frS I s)
 have bt1:=hov.at (toS I s)
 rw [ey] at by1
 rw [eu] at bu1
 have w1:IntKind.i64.wrap (y - n)=y + -n:=by rw [w64 (by omega) (by omega)]; omega
 have w2:IntKind.i64.wrap (y+n)=y+n:=w64 (by omega) (by omega)
 have w3:IntKind.i64.wrap (u - n)=u + -n:=by rw [w64 (by omega) (by omega)]; omega
 have ez:(o.set (frS I s) (u + -n)).getD (toS I s) 0=z:=by rw [w3] at hz; rw [List.getD_eq_getElem?_getD,hz]; rfl
 have bz:-1441151880758558720 <= z/\z <= 1441151880758558720:=by
  rw [<- ez]
  by_cases e:frS I s=toS I s
  ·rw [<- e,List.getD_eq_getElem?_getD,List.getElem?_set_self (by omega)]
   simp only [Option.getD_some]; omega
  ·rw [List.getD_eq_getElem?_getD,List.getElem?_set_ne e,<- List.getD_eq_getElem?_getD]; omega
 have w4:IntKind.i64.wrap (z+n)=z+n:=w64 (by omega) (by omega)
 refine ⟨fun h=>by unfold z4w; rw [h,ey,w1,if_pos rfl],fun h=>by unfold z4w; rw [h,ey,w2,if_neg Bool.false_ne_true],?_⟩
 unfold z6x addAt
 rw [eu,w3,ez,w4]
end Go.Ql
end
