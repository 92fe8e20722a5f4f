/- Part of the proof: FR12, DS12, FS12, Trim, Law03, Trim2, Law15, Odd, TrimL, Cert, DK13, FK13, CertOne, Solve, Solve2, Solve3, Solve4. -/
import Derived.Test.YtapeenpimcffpaaGreatZG8
import Derived.Test.YtapeenpimcffpaaGreatZG9
import Derived.Test.YtapeenpimcffpaaGreatZG5
import Derived.Test.YtapeenpimcffpaaGreatZG1
set_option linter.unusedVariables false
set_option linter.all false
set_option linter.unusedSimpArgs false
set_option maxRecDepth 1000000
section
namespace Go.Proofs.YtapeenpimcffpaaGreat
open Go Go.RowKit Go.Ql Go.Vc
def isArc_E0 (I : Inst) (a : Int) (ty0 ty1 : TypeId) : Prop :=
   (decide (a ≥ (0:Int)) = true->(decide (a < (↑I.arcs.length:Int)) = z3h I a/\True)/\True)/\(decide (a ≥ (0:Int)) = false->(false = z3h I a/\True)/\True)
theorem isArc_q (I:Inst) (a:Int) (ty0 ty1:TypeId):isArc_E0 I a ty0 ty1 = z1f TT isArc_g (isArc_I I a) (isArc_an I a) Tryz.f163 [.agg [.row 0,.row 1],.int .i64 a] [(0,.row false ty0 (.ints .i64 I.sup)),(1,.row false ty1 (.arcs I.arcs))] (isArc_r I a):=by kernel_rfl
theorem isArc_E (I:Inst) (a:Int) (ty0 ty1:TypeId) (hp:True):FVc TT isArc_g (isArc_I I a) (isArc_an I a) Tryz.f163 [.agg [.row 0,.row 1],.int .i64 a] [(0,.row false ty0 (.ints .i64 I.sup)),(1,.row false ty1 (.arcs I.arcs))] (isArc_r I a):=by
 refine FVc.of (isArc_E0 I a ty0 ty1) (isArc_q I a ty0 ty1) ?_
 unfold isArc_E0
 simp only [eq_self,exists_const,forall_const,decide_eq_true_eq,decide_eq_false_iff_not,and_true,true_and,bne_iff_ne,ne_eq,bne_eq_false_iff_eq,Int.toNat_natCast,Bool.not_eq_true',Bool.not_eq_false',beq_iff_eq,beq_eq_false_iff_ne,z07]
 refine ⟨fun h=>?_,fun h=>?_⟩
 ·simp [z3h,show 0 <= a by omega]
 ·simp [z3h,show ¬ 0 <= a by omega]
theorem isArc_ok:SpecOk Tryz.prog isArc_n true (z02 true zdr) :=
 z06 z0g (show z10 Tryz.prog isArc_g from z04) (by kernel_rfl) mixedOrders Tryz.func163 rfl rfl (by kernel_rfl) (n:=2) (by decide +kernel) (I:=isArc_IA) (fun _ _=>z05) (A:=isArc_A)
  (fun args h r hr=>by
   unfold zdr at hr
   split at hr
   ·rename_i a ty0 I_s ty1 I_a; cases hr; refine ⟨rfl,fun hp=>?_⟩; have hE:=isArc_E ⟨I_s,I_a⟩ a ty0 ty1 hp; exact hE
   ·cases hr)
def Sum12_E0 (I : Inst) (l : List Int) (ty0 ty1 ty2 : TypeId) : Prop :=
      ∃ (g0:Nat),
 (g0 <= l.length /\
 ((0:Nat) = (0:Nat)/\(0:Nat) = (0:Nat)/\(0:Nat) = (0:Nat)/\True/\(↑l.length:Int) = (↑l.length:Int)/\(0:Int) = (↑g0:Int)/\True) /\
 ((0:Int) = (W (zan I l g0)).hi/\(0:Int) = (W (zan I l g0)).lo/\True) /\
 ((0:Int) = (0:Int)/\(0:Int) = (0:Int)/\True)/\(True/\True/\True)/\I.sup = I.sup/\I.arcs = I.arcs/\l = l/\True) /\
 ∀ (g:Nat),
 g <= l.length ->
 (decide ((↑g:Int) < (↑l.length:Int)) = true ->
 ((0:Int) <= (↑g:Int)/\(↑g:Int) < (↑l.length:Int)) /\
 (↑g:Int).toNat < l.length /\
 ∀ (x:Int),
 l[(↑g:Int).toNat]? = some x ->
 True /\
 (z3h I x = true ->
 ((0:Int) <= x/\x < (↑I.arcs.length:Int)) /\
 x.toNat < I.arcs.length /\
 ∀ (x_1:Arc),
 I.arcs[x.toNat]? = some x_1 ->
 I64 x_1.cost /\
 ((W (zan I l g)).ok/\(W x_1.cost).ok) /\
 ∃ (g':Nat),
 g' <= l.length /\
 l.length - g' < l.length - g /\
 ((0:Nat) = (0:Nat) /\
 (0:Nat) = (0:Nat) /\
 (0:Nat) = (0:Nat) /\
 True/\(↑l.length:Int) = (↑l.length:Int)/\IntKind.i64.wrap ((↑g:Int) + (1:Int)) = (↑g':Int)/\True) /\
 ((z27 (W (zan I l g)) (W x_1.cost)).hi = (W (zan I l g')).hi /\
 (z27 (W (zan I l g)) (W x_1.cost)).lo = (W (zan I l g')).lo/\True) /\
 ((0:Int) = (0:Int)/\(0:Int) = (0:Int)/\True)/\(True/\True/\True)/\I.sup = I.sup/\I.arcs = I.arcs/\l = l/\True) /\
 (z3h I x = false ->
 ∃ (g':Nat),
 g' <= l.length /\
 l.length - g' < l.length - g /\
 ((0:Nat) = (0:Nat) /\
 (0:Nat) = (0:Nat) /\
 (0:Nat) = (0:Nat)/\True/\(↑l.length:Int) = (↑l.length:Int)/\IntKind.i64.wrap ((↑g:Int) + (1:Int)) = (↑g':Int)/\True) /\
 ((W (zan I l g)).hi = (W (zan I l g')).hi/\(W (zan I l g)).lo = (W (zan I l g')).lo/\True) /\
 ((0:Int) = (0:Int)/\(0:Int) = (0:Int)/\True)/\(True/\True/\True)/\I.sup = I.sup/\I.arcs = I.arcs/\l = l/\True)) /\
 (decide ((↑g:Int) < (↑l.length:Int)) = false->(((W (zan I l g)).hi = (W (rayS I l)).hi/\(W (zan I l g)).lo = (W (rayS I l)).lo/\True)/\True)/\True)
theorem Sum12_q (I:Inst) (l:List Int) (ty0 ty1 ty2:TypeId):Sum12_E0 I l ty0 ty1 ty2 = z1f TT Sum12_g (Sum12_I I l) (Sum12_an I l) Tryz.f168 [.agg [.row 0,.row 1],.row 2] [(0,.row false ty0 (.ints .i64 I.sup)),(1,.row false ty1 (.arcs I.arcs)),(2,.row false ty2 (.ints .i64 l))] (Sum12_r I l):=by kernel_rfl
theorem Sum12_E (I:Inst) (l:List Int) (ty0 ty1 ty2:TypeId) (hp:A64c I.arcs/\l.length <= 140737488351232):FVc TT Sum12_g (Sum12_I I l) (Sum12_an I l) Tryz.f168 [.agg [.row 0,.row 1],.row 2] [(0,.row false ty0 (.ints .i64 I.sup)),(1,.row false ty1 (.arcs I.arcs)),(2,.row false ty2 (.ints .i64 l))] (Sum12_r I l):=by
 refine FVc.of (Sum12_E0 I l ty0 ty1 ty2) (Sum12_q I l ty0 ty1 ty2) ?_
 unfold Sum12_E0
 obtain ⟨p1,p2⟩:=hp
 simp only [eq_self,exists_const,forall_const,decide_eq_true_eq,decide_eq_false_iff_not,and_true,true_and,bne_iff_ne,ne_eq,bne_eq_false_iff_eq,Int.toNat_natCast,Bool.not_eq_true',Bool.not_eq_false',beq_iff_eq,beq_eq_false_iff_ne,z07]
 refine ⟨0,⟨Nat.zero_le _,rfl,by simp only [zan]; decide,by simp only [zan]; decide⟩,fun g hg=>⟨fun h1=>⟨by omega,by omega,fun x hx=>?_⟩,fun h1=>?_⟩⟩
 ·have wk:IntKind.i64.wrap ((g:Int) + 1) = ((g + 1:Nat):Int):=by rw [w64 (by omega) (by omega)]; omega
  have hd:l.getD g 0 = x:=by simp [List.getD,hx]
  refine ⟨fun h2=>⟨isArcF_iff.1 h2,by have:=isArcF_iff.1 h2; omega,fun a ha=>⟨p1 a (List.mem_of_getElem? ha),⟨z6e _,z6e _⟩,g + 1,by omega,by omega,wk,?_⟩⟩,fun h2=>⟨g + 1,by omega,by omega,wk,?_⟩⟩
  ·simp only [zan,hd,rayD,h2,if_true,z4i ha,z45,and_self]
  ·simp only [zan,hd,rayD,h2,if_false,Int.add_zero,Bool.false_eq_true,and_self]
 ·rw [show g = l.length by omega]
  exact ⟨rfl,rfl⟩
theorem Sum12_ok:SpecOk Tryz.prog Sum12_n true (z02 true Sum12_fs) :=
 z06 z0g (show z10 Tryz.prog Sum12_g from z00 isArc_ok (z00 zb0 (z00 zf3 (z04)))) (by kernel_rfl) mixedOrders Tryz.func168 rfl rfl (by kernel_rfl) (n:=2) (by decide +kernel) (I:=Sum12_IA) (fun _ _=>z05) (A:=Sum12_A)
  (fun args h r hr=>by
   unfold Sum12_fs at hr
   split at hr
   ·rename_i ty0 I_s ty1 I_a ty2 l; cases hr; refine ⟨rfl,fun hp=>?_⟩; have hE:=Sum12_E ⟨I_s,I_a⟩ l ty0 ty1 ty2 hp; exact hE
   ·cases hr)
def zfl (l : List Int) (I : Inst) (ty1 ty3 ty4 : TypeId) : Prop :=
      ∃ (g0:Nat),
 ((g0 <= l.length/\(List.take g0 l).all (z3h I) = true) /\
 ((0:Nat) = (0:Nat)/\True/\(↑l.length:Int) = (↑l.length:Int)/\(0:Int) = (↑g0:Int)/\True) /\
 l = l/\(True/\True/\True)/\I.sup = I.sup/\I.arcs = I.arcs/\True) /\
 ∀ (g:Nat),
 g <= l.length/\(List.take g l).all (z3h I) = true ->
 (decide ((↑g:Int) < (↑l.length:Int)) = true ->
 ((0:Int) <= (↑g:Int)/\(↑g:Int) < (↑l.length:Int)) /\
 (↑g:Int).toNat < l.length /\
 ∀ (x:Int),
 l[(↑g:Int).toNat]? = some x ->
 True /\
 ((!z3h I x) = true->(false = c1F I l/\True)/\True) /\
 ((!z3h I x) = false ->
 ∃ (g':Nat),
 (g' <= l.length/\(List.take g' l).all (z3h I) = true) /\
 l.length - g' < l.length - g /\
 ((0:Nat) = (0:Nat)/\True/\(↑l.length:Int) = (↑l.length:Int)/\IntKind.i64.wrap ((↑g:Int) + (1:Int)) = (↑g':Int)/\True) /\
 l = l/\(True/\True/\True)/\I.sup = I.sup/\I.arcs = I.arcs/\True)) /\
 (decide ((↑g:Int) < (↑l.length:Int)) = false->(true = c1F I l/\True)/\True)
theorem asked1_q (l:List Int) (I:Inst) (ty1 ty3 ty4:TypeId):zfl l I ty1 ty3 ty4 = z1f TT asked1_g (asked1_I l I) (zfm l I) Tryz.f162 [.ptr 0 0 0 0,.ptr 2 0 0 0] [(0,.box false 29 [.row 1]),(1,.row false ty1 (.ints .i64 l)),(2,.box false 25 [.row 3,.row 4]),(3,.row false ty3 (.ints .i64 I.sup)),(4,.row false ty4 (.arcs I.arcs))] (asked1_r l I):=by kernel_rfl
theorem asked1_E (l:List Int) (I:Inst) (ty1 ty3 ty4:TypeId) (hp:l.length <= 140737488351232):FVc TT asked1_g (asked1_I l I) (zfm l I) Tryz.f162 [.ptr 0 0 0 0,.ptr 2 0 0 0] [(0,.box false 29 [.row 1]),(1,.row false ty1 (.ints .i64 l)),(2,.box false 25 [.row 3,.row 4]),(3,.row false ty3 (.ints .i64 I.sup)),(4,.row false ty4 (.arcs I.arcs))] (asked1_r l I):=by
 refine FVc.of (zfl l I ty1 ty3 ty4) (asked1_q l I ty1 ty3 ty4) ?_
 unfold zfl
 simp only [eq_self,exists_const,forall_const,decide_eq_true_eq,decide_eq_false_iff_not,and_true,true_and,bne_iff_ne,ne_eq,bne_eq_false_iff_eq,Int.toNat_natCast,Bool.not_eq_true',Bool.not_eq_false',beq_iff_eq,beq_eq_false_iff_ne,z07]
 refine ⟨0,⟨⟨by omega,rfl⟩,rfl⟩,fun g hg=>⟨fun h1=>⟨by omega,by omega,fun x hx=>⟨fun h2=>(all_not hx h2).symm,fun h2=>⟨g + 1,⟨by omega,by rw [all_take hx,hg.2,h2]; rfl⟩,by omega,by rw [w64 (by omega) (by omega)]; omega⟩⟩⟩,fun h1=>(all_end hg.2 (by omega)).symm⟩⟩
theorem asked1_ok:SpecOk Tryz.prog asked1_n true (z02 true zfn) :=
 z06 z0g (show z10 Tryz.prog asked1_g from z00 isArc_ok (z04)) (by kernel_rfl) mixedOrders Tryz.func162 rfl rfl (by kernel_rfl) (n:=2) (by decide +kernel) (I:=asked1_IA) (fun _ _=>z05) (A:=asked1_A)
  (fun args h r hr=>by
   unfold zfn at hr
   split at hr
   ·rename_i ty1 l ty3 I_s ty4 I_a; cases hr; refine ⟨rfl,fun hp=>?_⟩; have hE:=asked1_E l ⟨I_s,I_a⟩ ty1 ty3 ty4 hp; exact hE
   ·cases hr)
def zfo (l : List Int) (ty1 : TypeId) : Prop :=
      ∃ (g0:Nat),
 ((g0 <= l.length/\nodI (List.take g0 l))/\(True/\True/\(↑l.length:Int) = (↑l.length:Int)/\(0:Int) = (↑g0:Int)/\True)/\[] = metM (List.take g0 l)/\l = l/\True) /\
 ∀ (g:Nat),
 g <= l.length/\nodI (List.take g l) ->
 (decide ((↑g:Int) < (↑l.length:Int)) = true ->
 ((0:Int) <= (↑g:Int)/\(↑g:Int) < (↑l.length:Int)) /\
 (↑g:Int).toNat < l.length /\
 ∀ (x:Int),
 l[(↑g:Int).toNat]? = some x ->
 (((mget (metM (List.take g l)) [x]).getD (0:Int) == (1:Int)) = true->(false = c2F l/\True)/\True) /\
 (((mget (metM (List.take g l)) [x]).getD (0:Int) == (1:Int)) = false ->
 ∃ (g':Nat),
 (g' <= l.length/\nodI (List.take g' l)) /\
 l.length - g' < l.length - g /\
 (True/\True/\(↑l.length:Int) = (↑l.length:Int)/\IntKind.i64.wrap ((↑g:Int) + (1:Int)) = (↑g':Int)/\True) /\
 mput (metM (List.take g l)) [x] (bif true then (1:Int) else (0:Int)) = metM (List.take g' l)/\l = l/\True)) /\
 (decide ((↑g:Int) < (↑l.length:Int)) = false->(true = c2F l/\True)/\True)
theorem asked2_q (l:List Int) (ty1:TypeId):zfo l ty1 = z1f TT asked2_g (asked2_I l) (zfp l) Tryz.f164 [.ptr 0 0 0 0] [(0,.box false 29 [.row 1]),(1,.row false ty1 (.ints .i64 l))] (asked2_r l):=by kernel_rfl
theorem asked2_E (l:List Int) (ty1:TypeId) (hp:l.length <= 140737488351232):FVc TT asked2_g (asked2_I l) (zfp l) Tryz.f164 [.ptr 0 0 0 0] [(0,.box false 29 [.row 1]),(1,.row false ty1 (.ints .i64 l))] (asked2_r l):=by
 refine FVc.of (zfo l ty1) (asked2_q l ty1) ?_
 unfold zfo
 simp only [eq_self,exists_const,forall_const,decide_eq_true_eq,decide_eq_false_iff_not,and_true,true_and,bne_iff_ne,ne_eq,bne_eq_false_iff_eq,Int.toNat_natCast,Bool.not_eq_true',Bool.not_eq_false',beq_iff_eq,beq_eq_false_iff_ne,z07]
 refine ⟨0,⟨⟨by omega,List.nodup_nil⟩,rfl,rfl⟩,fun g hg=>⟨fun h1=>⟨by omega,by omega,fun x hx=>?_⟩,fun h1=>(nodI_end hg.2 (by omega)).symm⟩⟩
 rw [mget_metM]
 by_cases hm:x ∈ l.take g
 ·simp only [hm,if_true,Option.getD_some,not_true,false_implies,and_true,forall_const]
  exact (nodI_not hx hm).symm
 ·simp only [hm,if_false,Option.getD_none]
  refine ⟨fun h=>by omega,fun _=>⟨g + 1,⟨by omega,nodI_take hx hg.2 hm⟩,by omega,by rw [w64 (by omega) (by omega)]; omega,?_⟩⟩
  rw [z1a hx]
  exact mput_metM hm
theorem asked2_ok:SpecOk Tryz.prog asked2_n true (z02 true zfq) :=
 z06 z0g (show z10 Tryz.prog asked2_g from z04) (by kernel_rfl) mixedOrders Tryz.func164 rfl rfl (by kernel_rfl) (n:=1) (by decide +kernel) (I:=asked2_IA) (fun _ _=>z05) (A:=asked2_A)
  (fun args h r hr=>by
   unfold zfq at hr
   split at hr
   ·rename_i ty1 l; cases hr; refine ⟨rfl,fun hp=>?_⟩; have hE:=asked2_E l ty1 hp; exact hE
   ·cases hr)
def zfr (l : List Int) (I : Inst) (ty1 ty3 ty4 : TypeId) : Prop :=
      ∃ (g0:Nat),
 ((g0 <= l.length/\∀ (j:Nat),j < g0->linkF I l j = true) /\
 ((0:Nat) = (0:Nat)/\(0:Nat) = (0:Nat)/\True/\(↑l.length:Int) = (↑l.length:Int)/\(0:Int) = (↑g0:Int)/\True) /\
 (True/\True)/\l = l/\(True/\True/\True)/\I.sup = I.sup/\I.arcs = I.arcs/\True) /\
 ∀ (g:Nat),
 (g <= l.length/\∀ (j:Nat),j < g->linkF I l j = true) ->
 (decide ((↑g:Int) < (↑l.length:Int)) = true ->
 ((0:Int) <= (↑g:Int)/\(↑g:Int) < (↑l.length:Int)) /\
 (↑g:Int).toNat < l.length /\
 ∀ (x:Int),
 l[(↑g:Int).toNat]? = some x ->
 (↑l.length:Int) ≠ (0:Int) /\
 ((0:Int) <= (IntKind.i64.wrap ((↑g:Int) + (1:Int))).tmod (↑l.length:Int) /\
 (IntKind.i64.wrap ((↑g:Int) + (1:Int))).tmod (↑l.length:Int) < (↑l.length:Int)) /\
 ((IntKind.i64.wrap ((↑g:Int) + (1:Int))).tmod (↑l.length:Int)).toNat < l.length /\
 ∀ (x_1:Int),
 l[((IntKind.i64.wrap ((↑g:Int) + (1:Int))).tmod (↑l.length:Int)).toNat]? = some x_1 ->
 ((0:Int) <= x/\x < (↑I.arcs.length:Int)) /\
 x.toNat < I.arcs.length /\
 ∀ (x_2:Arc),
 I.arcs[x.toNat]? = some x_2 ->
 ((0:Int) <= x_1/\x_1 < (↑I.arcs.length:Int)) /\
 x_1.toNat < I.arcs.length /\
 ∀ (x:Arc),
 I.arcs[x_1.toNat]? = some x ->
 ((x_2.dst != x.src) = true->(false = c3F I l/\True)/\True) /\
 ((x_2.dst != x.src) = false ->
 ∃ (g':Nat),
 (g' <= l.length/\∀ (j:Nat),j < g'->linkF I l j = true) /\
 l.length - g' < l.length - g /\
 ((0:Nat) = (0:Nat) /\
 (0:Nat) = (0:Nat) /\
 True/\(↑l.length:Int) = (↑l.length:Int)/\IntKind.i64.wrap ((↑g:Int) + (1:Int)) = (↑g':Int)/\True) /\
 (True/\True)/\l = l/\(True/\True/\True)/\I.sup = I.sup/\I.arcs = I.arcs/\True)) /\
 (decide ((↑g:Int) < (↑l.length:Int)) = false->(true = c3F I l/\True)/\True)
theorem asked3_q (l:List Int) (I:Inst) (ty1 ty3 ty4:TypeId):zfr l I ty1 ty3 ty4 = z1f TT asked3_g (asked3_I l I) (zfs l I) Tryz.f165 [.ptr 0 0 0 0,.ptr 2 0 0 0] [(0,.box false 29 [.row 1]),(1,.row false ty1 (.ints .i64 l)),(2,.box false 25 [.row 3,.row 4]),(3,.row false ty3 (.ints .i64 I.sup)),(4,.row false ty4 (.arcs I.arcs))] (asked3_r l I):=by kernel_rfl
theorem asked3_E (l:List Int) (I:Inst) (ty1 ty3 ty4:TypeId) (hp:l.length <= 140737488351232/\c1F I l = true):FVc TT asked3_g (asked3_I l I) (zfs l I) Tryz.f165 [.ptr 0 0 0 0,.ptr 2 0 0 0] [(0,.box false 29 [.row 1]),(1,.row false ty1 (.ints .i64 l)),(2,.box false 25 [.row 3,.row 4]),(3,.row false ty3 (.ints .i64 I.sup)),(4,.row false ty4 (.arcs I.arcs))] (asked3_r l I):=by
 refine FVc.of (zfr l I ty1 ty3 ty4) (asked3_q l I ty1 ty3 ty4) ?_
 unfold zfr
 obtain ⟨p1,p2⟩:=hp
 simp only [eq_self,exists_const,forall_const,decide_eq_true_eq,decide_eq_false_iff_not,and_true,true_and,bne_iff_ne,ne_eq,bne_eq_false_iff_eq,Int.toNat_natCast,Bool.not_eq_true',Bool.not_eq_false',beq_iff_eq,beq_eq_false_iff_ne,z07]
 refine ⟨0,⟨⟨by omega,fun j hj=>by omega⟩,rfl⟩,fun g hg=>⟨fun h1=>⟨by omega,by omega,fun x hx=>?_⟩,fun h1=>?_⟩⟩
 ·have hm:(IntKind.i64.wrap ((g:Int) + 1)).tmod (l.length:Int) = (((g + 1) % l.length:Nat):Int):=by rw [w64 (by omega) (by omega),z26 (by omega)]; norm_cast
  have hlt:(g + 1) % l.length < l.length:=Nat.mod_lt _ (by omega)
  rw [hm]
  simp only [Int.toNat_natCast]
  refine ⟨by omega,by omega,by omega,fun y hy=>?_⟩
  have hcx:=c1F_get p2 hx
  have hcy:=c1F_get p2 hy
  refine ⟨hcx,by omega,fun a ha=>⟨hcy,by omega,fun b hb=>?_⟩⟩
  have hl:linkF I l g = decide (a.dst = b.src):=by
   unfold linkF
   have d1:l.getD g 0 = x:=by simp [List.getD,hx]
   have d2:l.getD ((g + 1) % l.length) 0 = y:=by simp [List.getD,hy]
   rw [d1,d2,z4i ha,z4i hb]
  refine ⟨fun h2=>?_,fun h2=>⟨g + 1,⟨by omega,fun j hj=>?_⟩,by omega,by rw [w64 (by omega) (by omega)]; omega⟩⟩
  ·have h3:linkF I l g = false:=by rw [hl]; exact decide_eq_false h2
   cases hc:c3F I l with
   | false=>rfl
   | true=>have:=List.all_eq_true.1 hc g (List.mem_range.2 (by omega)); rw [h3] at this; cases this
  ·by_cases e:j = g
   ·subst e; rw [hl]; exact decide_eq_true h2
   ·exact hg.2 j (by omega)
 ·have:c3F I l = true:=List.all_eq_true.2 fun j hj=>hg.2 j (by have:=List.mem_range.1 hj; omega)
  exact this.symm
theorem asked3_ok:SpecOk Tryz.prog asked3_n true (z02 true zft) :=
 z06 z0g (show z10 Tryz.prog asked3_g from z04) (by kernel_rfl) mixedOrders Tryz.func165 rfl rfl (by kernel_rfl) (n:=2) (by decide +kernel) (I:=asked3_IA) (fun _ _=>z05) (A:=asked3_A)
  (fun args h r hr=>by
   unfold zft at hr
   split at hr
   ·rename_i ty1 l ty3 I_s ty4 I_a; cases hr; refine ⟨rfl,fun hp=>?_⟩; have hE:=asked3_E l ⟨I_s,I_a⟩ ty1 ty3 ty4 hp; exact hE
   ·cases hr)
def zfu (l : List Int) (I : Inst) (ty1 ty3 ty4 : TypeId) : Prop :=
      ∃ (g0:Nat),
 ((g0 <= l.length/\((List.take g0 l).all fun (a:Int)=>decide ((z7t I a).cap = inf)) = true) /\
 ((0:Nat) = (0:Nat)/\True/\(↑l.length:Int) = (↑l.length:Int)/\(0:Int) = (↑g0:Int)/\True) /\
 l = l/\(True/\True/\True)/\I.sup = I.sup/\I.arcs = I.arcs/\True) /\
 ∀ (g:Nat),
 g <= l.length/\((List.take g l).all fun (a:Int)=>decide ((z7t I a).cap = inf)) = true ->
 (decide ((↑g:Int) < (↑l.length:Int)) = true ->
 ((0:Int) <= (↑g:Int)/\(↑g:Int) < (↑l.length:Int)) /\
 (↑g:Int).toNat < l.length /\
 ∀ (x:Int),
 l[(↑g:Int).toNat]? = some x ->
 ((0:Int) <= x/\x < (↑I.arcs.length:Int)) /\
 x.toNat < I.arcs.length /\
 ∀ (x_1:Arc),
 I.arcs[x.toNat]? = some x_1 ->
 ((x_1.cap != (4611686018427387904:Int)) = true->(false = c4F I l/\True)/\True) /\
 ((x_1.cap != (4611686018427387904:Int)) = false ->
 ∃ (g':Nat),
 (g' <= l.length/\((List.take g' l).all fun (a:Int)=>decide ((z7t I a).cap = inf)) = true) /\
 l.length - g' < l.length - g /\
 ((0:Nat) = (0:Nat)/\True/\(↑l.length:Int) = (↑l.length:Int)/\IntKind.i64.wrap ((↑g:Int) + (1:Int)) = (↑g':Int)/\True) /\
 l = l/\(True/\True/\True)/\I.sup = I.sup/\I.arcs = I.arcs/\True)) /\
 (decide ((↑g:Int) < (↑l.length:Int)) = false->(true = c4F I l/\True)/\True)
theorem asked4_q (l:List Int) (I:Inst) (ty1 ty3 ty4:TypeId):zfu l I ty1 ty3 ty4 = z1f TT asked4_g (asked4_I l I) (zfv l I) Tryz.f166 [.ptr 0 0 0 0,.ptr 2 0 0 0] [(0,.box false 29 [.row 1]),(1,.row false ty1 (.ints .i64 l)),(2,.box false 25 [.row 3,.row 4]),(3,.row false ty3 (.ints .i64 I.sup)),(4,.row false ty4 (.arcs I.arcs))] (asked4_r l I):=by kernel_rfl
theorem asked4_E (l:List Int) (I:Inst) (ty1 ty3 ty4:TypeId) (hp:l.length <= 140737488351232/\c1F I l = true):FVc TT asked4_g (asked4_I l I) (zfv l I) Tryz.f166 [.ptr 0 0 0 0,.ptr 2 0 0 0] [(0,.box false 29 [.row 1]),(1,.row false ty1 (.ints .i64 l)),(2,.box false 25 [.row 3,.row 4]),(3,.row false ty3 (.ints .i64 I.sup)),(4,.row false ty4 (.arcs I.arcs))] (asked4_r l I):=by
 refine FVc.of (zfu l I ty1 ty3 ty4) (asked4_q l I ty1 ty3 ty4) ?_
 unfold zfu
 obtain ⟨p1,p2⟩:=hp
 simp only [eq_self,exists_const,forall_const,decide_eq_true_eq,decide_eq_false_iff_not,and_true,true_and,bne_iff_ne,ne_eq,bne_eq_false_iff_eq,Int.toNat_natCast,Bool.not_eq_true',Bool.not_eq_false',beq_iff_eq,beq_eq_false_iff_ne,z07]
 refine ⟨0,⟨⟨by omega,rfl⟩,rfl⟩,fun g hg=>⟨fun h1=>⟨by omega,by omega,fun x hx=>⟨c1F_get p2 hx,by have:=c1F_get p2 hx; omega,fun a ha=>⟨fun h2=>?_,fun h2=>⟨g + 1,⟨by omega,?_⟩,by omega,by rw [w64 (by omega) (by omega)]; omega⟩⟩⟩⟩,fun h1=>(all_end hg.2 (by omega)).symm⟩⟩
 ·exact (all_not hx (decide_eq_false (by rw [z4i ha]; exact h2))).symm
 ·rw [all_take hx,hg.2,z4i ha]
  simp [inf,h2]
theorem asked4_ok:SpecOk Tryz.prog asked4_n true (z02 true zfw) :=
 z06 z0g (show z10 Tryz.prog asked4_g from z04) (by kernel_rfl) mixedOrders Tryz.func166 rfl rfl (by kernel_rfl) (n:=2) (by decide +kernel) (I:=asked4_IA) (fun _ _=>z05) (A:=asked4_A)
  (fun args h r hr=>by
   unfold zfw at hr
   split at hr
   ·rename_i ty1 l ty3 I_s ty4 I_a; cases hr; refine ⟨rfl,fun hp=>?_⟩; have hE:=asked4_E l ⟨I_s,I_a⟩ ty1 ty3 ty4 hp; exact hE
   ·cases hr)
def zfx (I : Inst) (l : List Int) (ty1 ty2 ty4 : TypeId) : Prop :=
      (A64c I.arcs/\l.length <= (140737488351232:Nat)) /\
 I64 (0:Int)/\((W (rayS I l)).ok/\(W (0:Int)).ok)/\(decide (zdd (W (rayS I l)) (W (0:Int)) < (0:Int)) = c5F I l/\True)/\True
theorem asked5_q (I:Inst) (l:List Int) (ty1 ty2 ty4:TypeId):zfx I l ty1 ty2 ty4 = z1f TT asked5_g (asked5_I I l) (asked5_an I l) Tryz.f167 [.ptr 0 0 0 0,.ptr 3 0 0 0] [(0,.box false 25 [.row 1,.row 2]),(1,.row false ty1 (.ints .i64 I.sup)),(2,.row false ty2 (.arcs I.arcs)),(3,.box false 29 [.row 4]),(4,.row false ty4 (.ints .i64 l))] (asked5_r I l):=by kernel_rfl
theorem asked5_E (I:Inst) (l:List Int) (ty1 ty2 ty4:TypeId) (hp:l.length <= 140737488351232/\A64c I.arcs):FVc TT asked5_g (asked5_I I l) (asked5_an I l) Tryz.f167 [.ptr 0 0 0 0,.ptr 3 0 0 0] [(0,.box false 25 [.row 1,.row 2]),(1,.row false ty1 (.ints .i64 I.sup)),(2,.row false ty2 (.arcs I.arcs)),(3,.box false 29 [.row 4]),(4,.row false ty4 (.ints .i64 l))] (asked5_r I l):=by
 refine FVc.of (zfx I l ty1 ty2 ty4) (asked5_q I l ty1 ty2 ty4) ?_
 unfold zfx
 obtain ⟨p1,p2⟩:=hp
 simp only [eq_self,exists_const,forall_const,decide_eq_true_eq,decide_eq_false_iff_not,and_true,true_and,bne_iff_ne,ne_eq,bne_eq_false_iff_eq,Int.toNat_natCast,Bool.not_eq_true',Bool.not_eq_false',beq_iff_eq,beq_eq_false_iff_ne,z07]
 exact ⟨⟨p2,p1⟩,by simp [I64],⟨z6e _,z6e _⟩,rfl⟩
theorem asked5_ok:SpecOk Tryz.prog asked5_n true (z02 true zfy) :=
 z06 z0g (show z10 Tryz.prog asked5_g from z00 Sum12_ok (z00 zf3 (z00 zaq (z04)))) (by kernel_rfl) mixedOrders Tryz.func167 rfl rfl (by kernel_rfl) (n:=2) (by decide +kernel) (I:=asked5_IA) (fun _ _=>z05) (A:=asked5_A)
  (fun args h r hr=>by
   unfold zfy at hr
   split at hr
   ·rename_i ty1 I_s ty2 I_a ty4 l; cases hr; refine ⟨rfl,fun hp=>?_⟩; have hE:=asked5_E ⟨I_s,I_a⟩ l ty1 ty2 ty4 hp; exact hE
   ·cases hr)
theorem asked_ok:SpecOk Tryz.prog asked_n false asked_spec :=
 z4q z0g (show z10 Tryz.prog asked_g from z04) (by kernel_rfl) mixedOrders Tryz.func149 rfl rfl (by kernel_rfl) _
abbrev z7c (g':Nat) (g:Nat) (I:Inst) (l:List Int):=((5:Nat) - g' < (5:Nat) - g/\((True/\((5:Int) = 5/\(IntKind.i64.wrap ((↑g:Int) + (1:Int)) = (↑g':Int)/\True)))/\(((0 = 0/\(0 = 0/\True))/\((0 = 0/\True)/\((0 = 0/\(0 = 0/\True))/\((0 = 0/\(0 = 0/\True))/\((0 = 0/\(0 = 0/\True))/\True)))))/\((True/\True)/\((True/\(True/\True))/\(I.sup = I.sup/\(I.arcs = I.arcs/\(l = l/\True))))))))
abbrev z7d (g':Nat) (I:Inst) (l:List Int):=(g' <= (5:Nat)/\(((1:Nat) <= g'->c1F I l = true)/\(((2:Nat) <= g'->c2F l = true)/\(((3:Nat) <= g'->c3F I l = true)/\(((4:Nat) <= g'->c4F I l = true)/\((5:Nat) <= g'->c5F I l = true))))))
def Turns_E0 (I : Inst) (l : List Int) (ty0 ty1 ty2 : TypeId) : Prop :=
   True/\((z0a I != (0:Int)) = true->(z0a I = z1y I l/\True)/\True)/\((z0a I != (0:Int)) = false->(((↑l.length:Int) == (0:Int)) = true->((30:Int) = z1y I l/\True)/\True)/\(((↑l.length:Int) == (0:Int)) = false->(decide ((↑l.length:Int) > ↑I.arcs.length) = true->((30:Int) = z1y I l/\True)/\True)/\(decide ((↑l.length:Int) > ↑I.arcs.length) = false->∃ (g0:Nat),((g0 <= (5:Nat)/\(((1:Nat) <= g0->c1F I l = true)/\(((2:Nat) <= g0->c2F l = true)/\(((3:Nat) <= g0->c3F I l = true)/\(((4:Nat) <= g0->c4F I l = true)/\((5:Nat) <= g0->c5F I l = true))))))/\((True/\((↑(5:Nat):Int) = 5/\((0:Int) = ↑g0/\True)))/\(((0 = 0/\(0 = 0/\True))/\((0 = 0/\True)/\((0 = 0/\(0 = 0/\True))/\((0 = 0/\(0 = 0/\True))/\((0 = 0/\(0 = 0/\True))/\True)))))/\((True/\True)/\((True/\(True/\True))/\(I.sup = I.sup/\(I.arcs = I.arcs/\(l = l/\True))))))))/\∀ (g:Nat),g <= (5:Nat)/\((1:Nat) <= g->c1F I l = true)/\((2:Nat) <= g->c2F l = true)/\((3:Nat) <= g->c3F I l = true)/\((4:Nat) <= g->c4F I l = true)/\((5:Nat) <= g->c5F I l = true)->(decide ((↑g:Int) < 5) = true->((0:Int) <= ↑g/\((↑g:Int) < ↑(5:Nat)))/\(↑g:Int).toNat < (5:Nat)/\((↑g:Int).toNat = (0:Nat)->l.length <= (140737488351232:Nat)/\(((!c1F I l) = true->((35:Int) = z1y I l/\True)/\True)/\((!c1F I l) = false->∃ (g':Nat),(z7d g' I l)/\(z7c g' g I l))))/\((↑g:Int).toNat = (0:Nat) + (1:Nat)->l.length <= (140737488351232:Nat)/\(((!c2F l) = true->((35:Int) = z1y I l/\True)/\True)/\((!c2F l) = false->∃ (g':Nat),(z7d g' I l)/\(z7c g' g I l))))/\(((↑g:Int).toNat = (0:Nat) + (1:Nat) + (1:Nat)->(l.length <= (140737488351232:Nat)/\(c1F I l = true))/\(((!c3F I l) = true->((35:Int) = z1y I l/\True)/\True)/\((!c3F I l) = false->∃ (g':Nat),(z7d g' I l)/\(z7c g' g I l))))/\(((↑g:Int).toNat = (0:Nat) + (1:Nat) + (1:Nat) + (1:Nat)->(l.length <= (140737488351232:Nat)/\(c1F I l = true))/\(((!c4F I l) = true->((35:Int) = z1y I l/\True)/\True)/\((!c4F I l) = false->∃ (g':Nat),(z7d g' I l)/\(z7c g' g I l))))/\((↑g:Int).toNat = (0:Nat) + (1:Nat) + (1:Nat) + (1:Nat) + (1:Nat)->(l.length <= (140737488351232:Nat)/\(A64c I.arcs))/\(((!c5F I l) = true->((35:Int) = z1y I l/\True)/\True)/\((!c5F I l) = false->∃ (g':Nat),(z7d g' I l)/\(z7c g' g I l)))))))/\(decide ((↑g:Int) < 5) = false->((0:Int) = z1y I l/\True)/\True))))
theorem Turns_q (I:Inst) (l:List Int) (ty0 ty1 ty2:TypeId):Turns_E0 I l ty0 ty1 ty2 = z1f TT Turns_g (Turns_I I l) (Turns_an I l) Tryz.f134 [.agg [.row 0,.row 1],.row 2] [(0,.row false ty0 (.ints .i64 I.sup)),(1,.row false ty1 (.arcs I.arcs)),(2,.row false ty2 (.ints .i64 l))] (Turns_r I l):=by kernel_rfl
theorem Turns_E (I:Inst) (l:List Int) (ty0 ty1 ty2:TypeId) (hp:l.length <= 140737488351232/\A64c I.arcs):FVc TT Turns_g (Turns_I I l) (Turns_an I l) Tryz.f134 [.agg [.row 0,.row 1],.row 2] [(0,.row false ty0 (.ints .i64 I.sup)),(1,.row false ty1 (.arcs I.arcs)),(2,.row false ty2 (.ints .i64 l))] (Turns_r I l):=by
 refine FVc.of (Turns_E0 I l ty0 ty1 ty2) (Turns_q I l ty0 ty1 ty2) ?_
 unfold Turns_E0
 delta z7d z7c
 obtain ⟨p1,p2⟩:=hp
 simp only [eq_self,exists_const,forall_const,decide_eq_true_eq,decide_eq_false_iff_not,and_true,true_and,bne_iff_ne,ne_eq,bne_eq_false_iff_eq,Int.toNat_natCast,Bool.not_eq_true',Bool.not_eq_false',beq_iff_eq,beq_eq_false_iff_ne,z07]
 unfold z1y
 refine ⟨fun h=>by simp [h],fun h=>⟨fun h2=>by simp [h,show l.length = 0 by omega],fun h2=>⟨fun h3=>by simp [h,show I.arcs.length < l.length by omega],fun h3=>?_⟩⟩⟩
 have e0:¬ (l.length = 0 ∨ I.arcs.length < l.length):=by omega
 simp only [h,e0,ne_eq,not_true,if_false]
 refine ⟨0,⟨⟨by omega,fun h=>by omega,fun h=>by omega,fun h=>by omega,fun h=>by omega,fun h=>by omega⟩,by first | exact rfl | exact ⟨rfl,rfl⟩⟩,fun g hg=>?_⟩
 obtain ⟨g0,g1,g2,g3,g4,g5⟩:=hg
 have wk:IntKind.i64.wrap ((g:Int) + 1) = ((g + 1:Nat):Int):=by rw [w64 (by omega) (by omega)]; omega
 refine ⟨fun h4=>⟨by omega,by omega,fun e=>⟨p1,fun f=>?_,fun f=>⟨g + 1,⟨by omega,fun _=>f,fun h=>by omega,fun h=>by omega,fun h=>by omega,fun h=>by omega⟩,by omega,wk⟩⟩,fun e=>⟨p1,fun f=>?_,fun f=>⟨g + 1,⟨by omega,fun _=>g1 (by omega),fun _=>f,fun h=>by omega,fun h=>by omega,fun h=>by omega⟩,by omega,wk⟩⟩,
  fun e=>⟨⟨p1,g1 (by omega)⟩,fun f=>?_,fun f=>⟨g + 1,⟨by omega,fun _=>g1 (by omega),fun _=>g2 (by omega),fun _=>f,fun h=>by omega,fun h=>by omega⟩,by omega,wk⟩⟩,
  fun e=>⟨⟨p1,g1 (by omega)⟩,fun f=>?_,fun f=>⟨g + 1,⟨by omega,fun _=>g1 (by omega),fun _=>g2 (by omega),fun _=>g3 (by omega),fun _=>f,fun h=>by omega⟩,by omega,wk⟩⟩,
  fun e=>⟨⟨p1,p2⟩,fun f=>?_,fun f=>⟨g + 1,⟨by omega,fun _=>g1 (by omega),fun _=>g2 (by omega),fun _=>g3 (by omega),fun _=>g4 (by omega),fun _=>f⟩,by omega,wk⟩⟩⟩,fun h4=>?_⟩
 all_goals first
  | simp [f]
  | simp [g1 (by omega),g2 (by omega),g3 (by omega),g4 (by omega),g5 (by omega)]
theorem Turns_ok:SpecOk Tryz.prog Turns_n true (z02 true Turns_fs) :=
 z06 z0g (show z10 Tryz.prog Turns_g from z00 z9m (z00 asked_ok (z00 asked1_ok (z00 asked2_ok (z00 asked3_ok (z00 asked4_ok (z00 asked5_ok (z04)))))))) (by kernel_rfl) mixedOrders Tryz.func134 rfl rfl (by kernel_rfl) (n:=2) (by decide +kernel) (I:=Turns_IA) (fun _ _=>z05) (A:=Turns_A)
  (fun args h r hr=>by
   unfold Turns_fs at hr
   split at hr
   ·rename_i ty0 I_s ty1 I_a ty2 l; cases hr; refine ⟨rfl,fun hp=>?_⟩; have hE:=Turns_E ⟨I_s,I_a⟩ l ty0 ty1 ty2 hp; exact hE
   ·cases hr)
end Go.Proofs.YtapeenpimcffpaaGreat
end
section
namespace Go.Proofs.YtapeenpimcffpaaGreat
open Go Go.RowKit Go.Ql Go.Vc
end Go.Proofs.YtapeenpimcffpaaGreat
end
section
namespace Go.Proofs.YtapeenpimcffpaaGreat
open Go Go.RowKit Go.Ql Go.Vc
end Go.Proofs.YtapeenpimcffpaaGreat
end
section
namespace Go.Ql
open Go Go.Vc
structure Cert where
 kind:Int
 flow:List Int
 pot:List Int
 side:List Bool
 cycle:List Int
deriving DecidableEq
structure StepD where
 inst:Inst
 pass:Int
 was:Inst
 off:Wide
 did:Bool
deriving DecidableEq
def StepD.none:StepD:=⟨⟨[],[]⟩,0,⟨[],[]⟩,⟨0,0⟩,false⟩
end Go.Ql
end
section
namespace Go.Ql
open Go Go.RowKit
end Go.Ql
end
section
namespace Go.Ql
open Go Go.Vc
end Go.Ql
end
section
namespace Go.Ql
open Go Go.Vc
end Go.Ql
end
section
namespace Go.Ql
open Go Go.Vc
theorem Arc.Nice.more {m n:Int} {a:Arc} (h:a.Nice m) (hm:m <= n):a.Nice n :=
 ⟨h.s0,by have:=h.s1; omega,h.d0,by have:=h.d1; omega,h.l0,h.l1,h.c0,h.c1,h.k0,h.k1⟩
end Go.Ql
end
section
namespace Go.Ql
open Go Go.Vc
theorem addAt_getD (s:List Int) (k:Nat) (x:Int) (v:Nat) (hv:v < s.length):(addAt s k x).getD v 0 = s.getD v 0 + (if k = v then x else 0):=by
 unfold addAt
 rw [List.getD_eq_getElem?_getD,List.getElem?_set]
 by_cases h:k = v
 ·subst h; simp [hv]
 ·simp [h,List.getD_eq_getElem?_getD]
theorem fitsF_iff {I:Inst} {x:List Int}:z0v I x = 0 ↔ z0a I = 0/\x.length = I.arcs.length/\z18 I.arcs x = true/\z9y I x = true:=by
 unfold z0v
 by_cases h1:z0a I = 0
 ·by_cases h2:x.length = I.arcs.length
  ·cases h3:z18 I.arcs x <;> cases h4:z9y I x <;> simp [h1,h2]
  ·simp [h1,h2]
 ·simp [h1]
def Few (x:List Int):Prop:=∀ y ∈ x,0 <= y/\y <= 7
theorem Few.head {x:List Int} (h:Few x):0 <= x.headD 0/\x.headD 0 <= 7:=by
 cases x with
 | nil=>simp
 | cons y x=>exact h y (by simp)
theorem Few.tail {x:List Int} (h:Few x):Few x.tail:=fun y hy=>h y (List.mem_of_mem_tail hy)
theorem Few.a64 {x:List Int} (h:Few x):A64 x:=fun y hy=>by have:=h y hy; unfold I64; omega
theorem flow_few {I:Inst} {m:Int} (h:∀ a ∈ I.arcs,a.Nice m) (d:List Int):Few (z1d I d):=fun y hy=>by
 unfold z1d at hy
 rw [List.mem_map] at hy
 obtain ⟨k,hk,rfl⟩:=hy
 have hk':k < I.arcs.length:=by simpa using hk
 obtain ⟨a,ha⟩:∃ a,I.arcs[k]? = some a:=⟨_,List.getElem?_eq_getElem hk'⟩
 rw [show I.arcs.getD k default = a by rw [List.getD_eq_getElem?_getD,ha]; rfl]
 have:=useOf_ok (d:=d) (k:=k) (h a (List.mem_of_getElem? ha))
 omega
theorem right_A64 {I:Inst} (h:z0a I = 0):A64a I.arcs/\A64c I.arcs/\A64 I.sup/\L42 I.arcs:=by
 refine ⟨fun a ha=>?_,fun a ha=>?_,fun x hx=>?_,fun a ha=>?_⟩
 ·have:=z1b h ha; unfold I64; omega
 ·have:=z1b h ha; unfold I64; omega
 ·have:=(z3z h).1 x hx; unfold I64; omega
 ·have:=z1b h ha; omega
end Go.Ql
end
section
namespace Go.Ql
open Go Go.Vc
def z2x (l:List Int):Nat:=(l.filter fun x=>decide (x = 0)).length
def z1r (c:Cert):Bool :=
 if c.kind = 1 then decide (c.side.length = 0) && decide (c.cycle.length = 0)
 else if c.kind = 2 then decide (c.flow.length = 0) && decide (c.pot.length = 0) && decide (c.cycle.length = 0)
 else if c.kind = 3 then decide (c.pot.length = 0) && decide (c.side.length = 0)
 else false
def z0x (I:Inst) (c:Cert):Int :=
 if z0a I ≠ 0 then z0a I else if z1r c = false then 36
 else if c.kind = 1 then z0p I c.flow c.pot
 else if c.kind = 2 then z1u I c.side
 else if z0v I c.flow ≠ 0 then z0v I c.flow else z1y I c.cycle
def zdc (I:Inst) (c:Cert):Wide:=if c.kind = 1 then W (costF I c.flow) else ⟨0,0⟩
def z0j (c:Cert):Prop:=A64 c.flow/\A64 c.pot/\c.flow.length <= 140737488351232/\c.pot.length <= 140737488351232/\c.side.length <= 140737488351232/\c.cycle.length <= 140737488351232
def z2b (I:Inst):Prop:=I.sup.length <= 10000/\I.arcs.length <= 10000/\A64 I.sup/\A64a I.arcs/\A64c I.arcs
theorem z8r {c:Cert} (h:z1r c = true):c.kind = 1 ∨ c.kind = 2 ∨ c.kind = 3:=by
 unfold z1r at h
 by_cases h1:c.kind = 1
 ·exact .inl h1
 ·by_cases h2:c.kind = 2
  ·exact .inr (.inl h2)
  ·by_cases h3:c.kind = 3
   ·exact .inr (.inr h3)
   ·rw [if_neg h1,if_neg h2,if_neg h3] at h; cases h
theorem zerosF_nil:z2x [] = 0:=rfl
theorem z4w (x:Int) (l:List Int):z2x (x :: l) = (if x = 0 then 1 else 0) + z2x l:=by
 unfold z2x
 rw [List.filter_cons]
 by_cases h:x = 0 <;> simp [h]; omega
theorem zerosF_snoc (l:List Int) (x:Int):z2x (l ++ [x]) = z2x l + (if x = 0 then 1 else 0):=by
 unfold z2x
 rw [List.filter_append]
 by_cases h:x = 0 <;> simp [h]
theorem zerosF_le (l:List Int):z2x l <= l.length:=List.length_filter_le _ _
end Go.Ql
end
section
namespace Go.Proofs.YtapeenpimcffpaaGreat
open Go Go.RowKit Go.Ql Go.Vc
def zgs (l:List Int):FRes:={ pre:=l.length <= 1000000000,res:=.int .i64 (z2x l),rows:=[],eff:=[] }
def zbh:FS:=fun args h=>match args,h with
 | [.row 0],[(0,.row false ty0 (.ints .i64 l))]=>some (zgs l)
 | _,_=>none
def zbg (l:List Int):List (Nat × Ann):=[(3,{ G:=(Nat),inv:=fun k=>⟨[(3,.int .i64 (z2x (l.take k))),(6,.row 0),(7,.int .i64 (↑l.length:Int)),(8,.int .i64 k)],[(0,.row false 0 (.ints .i64 l))],1⟩,rel:=fun k0 k=>k <= l.length,meas:=fun k=>l.length - k })]
def empty13_A:List SV->z0c->List (Nat × Ann):=fun args h=>match args,h with
 | [.row 0],[(0,.row false ty0 (.ints .i64 l))]=>zbg l
 | _,_=>[]
def zgr:z0b:=[]
abbrev empty13_n:Nat:=127
def empty13_I (l:List Int):List (Nat × z08):=[]
def empty13_IA:List SV->z0c->List (Nat × z08):=fun _ _=>[]
def zf5 (c:Cert):FRes:={ pre:=True,res:=.bool (z1r c),rows:=[],eff:=[] }
def zaz:FS:=fun args h=>match args,h with
 | [.agg [.int .i64 c_k,.row 0,.row 1,.row 2,.row 3]],[(0,.row false ty0 (.ints .i64 c_f)),(1,.row false ty1 (.ints .i64 c_p)),(2,.row false ty2 (.bools c_s)),(3,.row false ty3 (.ints .i64 c_y))]=>some (zf5 ⟨c_k,c_f,c_p,c_s,c_y⟩)
 | _,_=>none
def Plain13_an (c:Cert):List (Nat × Ann):=[]
def Plain13_A:List SV->z0c->List (Nat × Ann):=fun _ _=>[]
def zf4:z0b:=[(empty13_n,(true,z02 true zbh))]
abbrev Plain13_n:Nat:=116
def Plain13_I (c:Cert):List (Nat × z08):=[]
def Plain13_IA:List SV->z0c->List (Nat × z08):=fun _ _=>[]
def zg0 (I:Inst) (c:Cert):FRes:={ pre:=z0j c/\z2b I,res:=.int .u16 (z0p I c.flow c.pot),rows:=[],eff:=[] }
def zb8:FS:=fun args h=>match args,h with
 | [.agg [.row 0,.row 1],.agg [.int .i64 c_k,.row 2,.row 3,.row 4,.row 5]],[(0,.row false ty0 (.ints .i64 I_s)),(1,.row false ty1 (.arcs I_a)),(2,.row false ty2 (.ints .i64 c_f)),(3,.row false ty3 (.ints .i64 c_p)),(4,.row false ty4 (.bools c_s)),(5,.row false ty5 (.ints .i64 c_y))]=>some (zg0 ⟨I_s,I_a⟩ ⟨c_k,c_f,c_p,c_s,c_y⟩)
 | _,_=>none
def askedC1_an (I:Inst) (c:Cert):List (Nat × Ann):=[]
def askedC1_A:List SV->z0c->List (Nat × Ann):=fun _ _=>[]
def zfz:z0b:=[(Slack_n,(true,z02 true Slack_fs))]
abbrev askedC1_n:Nat:=128
def askedC1_I (I:Inst) (c:Cert):List (Nat × z08):=[]
def askedC1_IA:List SV->z0c->List (Nat × z08):=fun _ _=>[]
def zg2 (I:Inst) (c:Cert):FRes:={ pre:=z0j c/\z2b I,res:=.int .u16 (z1u I c.side),rows:=[],eff:=[] }
def zba:FS:=fun args h=>match args,h with
 | [.agg [.row 0,.row 1],.agg [.int .i64 c_k,.row 2,.row 3,.row 4,.row 5]],[(0,.row false ty0 (.ints .i64 I_s)),(1,.row false ty1 (.arcs I_a)),(2,.row false ty2 (.ints .i64 c_f)),(3,.row false ty3 (.ints .i64 c_p)),(4,.row false ty4 (.bools c_s)),(5,.row false ty5 (.ints .i64 c_y))]=>some (zg2 ⟨I_s,I_a⟩ ⟨c_k,c_f,c_p,c_s,c_y⟩)
 | _,_=>none
def askedC2_an (I:Inst) (c:Cert):List (Nat × Ann):=[]
def askedC2_A:List SV->z0c->List (Nat × Ann):=fun _ _=>[]
def zg1:z0b:=[(Proves_n,(true,z02 true zfb))]
abbrev askedC2_n:Nat:=130
def askedC2_I (I:Inst) (c:Cert):List (Nat × z08):=[]
def askedC2_IA:List SV->z0c->List (Nat × z08):=fun _ _=>[]
def zg4 (I:Inst) (c:Cert):FRes:={ pre:=z0j c/\z2b I,res:=.int .u16 ((if z0v I c.flow ≠ 0 then z0v I c.flow else z1y I c.cycle)),rows:=[],eff:=[] }
def zbc:FS:=fun args h=>match args,h with
 | [.agg [.row 0,.row 1],.agg [.int .i64 c_k,.row 2,.row 3,.row 4,.row 5]],[(0,.row false ty0 (.ints .i64 I_s)),(1,.row false ty1 (.arcs I_a)),(2,.row false ty2 (.ints .i64 c_f)),(3,.row false ty3 (.ints .i64 c_p)),(4,.row false ty4 (.bools c_s)),(5,.row false ty5 (.ints .i64 c_y))]=>some (zg4 ⟨I_s,I_a⟩ ⟨c_k,c_f,c_p,c_s,c_y⟩)
 | _,_=>none
def askedC3_an (I:Inst) (c:Cert):List (Nat × Ann):=[]
def askedC3_A:List SV->z0c->List (Nat × Ann):=fun _ _=>[]
def zg3:z0b:=[(Fits_n,(true,z02 true Fits_fs)),(Turns_n,(true,z02 true Turns_fs))]
abbrev askedC3_n:Nat:=132
def askedC3_I (I:Inst) (c:Cert):List (Nat × z08):=[]
def askedC3_IA:List SV->z0c->List (Nat × z08):=fun _ _=>[]
abbrev askedC_n:Nat:=117
def askedC_g:z0b:=[]
def zg5:Vc.Spec:=z2h TT askedC_g (fun _ _ _=>[]) Tryz.f117
def Check_r (I:Inst) (c:Cert):FRes:={ pre:=z0j c/\z2b I,res:=.int .u16 (z0x I c),rows:=[],eff:=[] }
def z9h:FS:=fun args h=>match args,h with
 | [.agg [.row 0,.row 1],.agg [.int .i64 c_k,.row 2,.row 3,.row 4,.row 5]],[(0,.row false ty0 (.ints .i64 I_s)),(1,.row false ty1 (.arcs I_a)),(2,.row false ty2 (.ints .i64 c_f)),(3,.row false ty3 (.ints .i64 c_p)),(4,.row false ty4 (.bools c_s)),(5,.row false ty5 (.ints .i64 c_y))]=>some (Check_r ⟨I_s,I_a⟩ ⟨c_k,c_f,c_p,c_s,c_y⟩)
 | _,_=>none
def Check_an (I:Inst) (c:Cert):List (Nat × Ann):=[]
def Check_A:List SV->z0c->List (Nat × Ann):=fun _ _=>[]
def Check_g:z0b:=[(zb1,(true,z02 true z5r)),(Plain13_n,(true,z02 true zaz)),(askedC_n,(false,zg5)),(askedC1_n,(true,z02 true zb8)),(askedC2_n,(true,z02 true zba)),(askedC3_n,(true,z02 true zbc))]
abbrev Check_n:Nat:=97
def Check_I (I:Inst) (c:Cert):List (Nat × z08):=[]
def Check_IA:List SV->z0c->List (Nat × z08):=fun _ _=>[]
end Go.Proofs.YtapeenpimcffpaaGreat
end
section
namespace Go.Proofs.YtapeenpimcffpaaGreat
open Go Go.RowKit Go.Ql Go.Vc
def zbf (l : List Int) (ty0 : TypeId) : Prop :=
      ∃ (g0:Nat),
 (g0 <= l.length/\((0:Int) = (↑(z2x (List.take g0 l)):Int)/\True/\(↑l.length:Int) = (↑l.length:Int)/\(0:Int) = (↑g0:Int)/\True)/\l = l/\True) /\
 ∀ (g:Nat),
 g <= l.length ->
 (decide ((↑g:Int) < (↑l.length:Int)) = true ->
 ((0:Int) <= (↑g:Int)/\(↑g:Int) < (↑l.length:Int)) /\
 (↑g:Int).toNat < l.length /\
 ∀ (x:Int),
 l[(↑g:Int).toNat]? = some x ->
 ((x == (0:Int)) = true ->
 ∃ (g':Nat),
 g' <= l.length /\
 l.length - g' < l.length - g /\
 (IntKind.i64.wrap ((↑(z2x (List.take g l)):Int) + (1:Int)) = (↑(z2x (List.take g' l)):Int) /\
 True/\(↑l.length:Int) = (↑l.length:Int)/\IntKind.i64.wrap ((↑g:Int) + (1:Int)) = (↑g':Int)/\True) /\
 l = l/\True) /\
 ((x == (0:Int)) = false ->
 ∃ (g':Nat),
 g' <= l.length /\
 l.length - g' < l.length - g /\
 ((↑(z2x (List.take g l)):Int) = (↑(z2x (List.take g' l)):Int) /\
 True/\(↑l.length:Int) = (↑l.length:Int)/\IntKind.i64.wrap ((↑g:Int) + (1:Int)) = (↑g':Int)/\True) /\
 l = l/\True)) /\
 (decide ((↑g:Int) < (↑l.length:Int)) = false->((↑(z2x (List.take g l)):Int) = (↑(z2x l):Int)/\True)/\True)
theorem empty13_q (l:List Int) (ty0:TypeId):zbf l ty0 = z1f TT zgr (empty13_I l) (zbg l) Tryz.f127 [.row 0] [(0,.row false ty0 (.ints .i64 l))] (zgs l):=by kernel_rfl
theorem empty13_E (l:List Int) (ty0:TypeId) (hp:l.length <= 1000000000):FVc TT zgr (empty13_I l) (zbg l) Tryz.f127 [.row 0] [(0,.row false ty0 (.ints .i64 l))] (zgs l):=by
 refine FVc.of (zbf l ty0) (empty13_q l ty0) ?_
 unfold zbf
 simp only [eq_self,exists_const,forall_const,decide_eq_true_eq,decide_eq_false_iff_not,and_true,true_and,bne_iff_ne,ne_eq,bne_eq_false_iff_eq,Int.toNat_natCast,Bool.not_eq_true',Bool.not_eq_false',beq_iff_eq,beq_eq_false_iff_ne,z07]
 refine ⟨0,⟨by omega,rfl,rfl⟩,fun g hg=>⟨fun h1=>⟨by omega,by omega,fun x hx=>?_⟩,fun h1=>?_⟩⟩
 ·have hw:IntKind.i64.wrap ((g:Int) + 1) = ((g + 1:Nat):Int):=by rw [w64 (by omega) (by omega)]; omega
  have hz:=zerosF_snoc (l.take g) x
  rw [<- z1a hx] at hz
  have hle:=zerosF_le (l.take g)
  rw [List.length_take] at hle
  refine ⟨fun h2=>⟨g + 1,by omega,by omega,?_,hw⟩,fun h2=>⟨g + 1,by omega,by omega,?_,hw⟩⟩
  ·rw [hz,if_pos h2,w64 (by omega) (by omega)]; omega
  ·rw [hz,if_neg h2]; omega
 ·rw [List.take_of_length_le (by omega)]
theorem empty13_ok:SpecOk Tryz.prog empty13_n true (z02 true zbh) :=
 z06 z0g (show z10 Tryz.prog zgr from z04) (by kernel_rfl) mixedOrders Tryz.func127 rfl rfl (by kernel_rfl) (n:=1) (by decide +kernel) (I:=empty13_IA) (fun _ _=>z05) (A:=empty13_A)
  (fun args h r hr=>by
   unfold zbh at hr
   split at hr
   ·rename_i ty0 l; cases hr; refine ⟨rfl,fun hp=>?_⟩; have hE:=empty13_E l ty0 hp; exact hE
   ·cases hr)
def zay (c : Cert) (ty0 ty1 ty2 ty3 : TypeId) : Prop :=
      ((c.kind == (1:Int)) = true->(2:Nat) <= (1000000000:Nat)/\(((↑(z2x [(↑c.side.length:Int),(↑c.cycle.length:Int)]):Int) == (2:Int)) = z1r c/\True)/\True) /\
 ((c.kind == (1:Int)) = false ->
 ((c.kind == (2:Int)) = true ->
 (3:Nat) <= (1000000000:Nat)/\(((↑(z2x [(↑c.flow.length:Int),(↑c.pot.length:Int),(↑c.cycle.length:Int)]):Int) == (3:Int)) = z1r c/\True)/\True) /\
 ((c.kind == (2:Int)) = false ->
 ((c.kind == (3:Int)) = true ->
 (2:Nat) <= (1000000000:Nat)/\(((↑(z2x [(↑c.pot.length:Int),(↑c.side.length:Int)]):Int) == (2:Int)) = z1r c/\True)/\True) /\
 ((c.kind == (3:Int)) = false->(false = z1r c/\True)/\True)))
theorem Plain13_q (c:Cert) (ty0 ty1 ty2 ty3:TypeId):zay c ty0 ty1 ty2 ty3 = z1f TT zf4 (Plain13_I c) (Plain13_an c) Tryz.f116 [.agg [.int .i64 c.kind,.row 0,.row 1,.row 2,.row 3]] [(0,.row false ty0 (.ints .i64 c.flow)),(1,.row false ty1 (.ints .i64 c.pot)),(2,.row false ty2 (.bools c.side)),(3,.row false ty3 (.ints .i64 c.cycle))] (zf5 c):=by kernel_rfl
theorem Plain13_E (c:Cert) (ty0 ty1 ty2 ty3:TypeId) (hp:True):FVc TT zf4 (Plain13_I c) (Plain13_an c) Tryz.f116 [.agg [.int .i64 c.kind,.row 0,.row 1,.row 2,.row 3]] [(0,.row false ty0 (.ints .i64 c.flow)),(1,.row false ty1 (.ints .i64 c.pot)),(2,.row false ty2 (.bools c.side)),(3,.row false ty3 (.ints .i64 c.cycle))] (zf5 c):=by
 refine FVc.of (zay c ty0 ty1 ty2 ty3) (Plain13_q c ty0 ty1 ty2 ty3) ?_
 unfold zay
 simp only [eq_self,exists_const,forall_const,decide_eq_true_eq,decide_eq_false_iff_not,and_true,true_and,bne_iff_ne,ne_eq,bne_eq_false_iff_eq,Int.toNat_natCast,Bool.not_eq_true',Bool.not_eq_false',beq_iff_eq,beq_eq_false_iff_ne,z07]
 unfold z1r
 have e2:∀ a b:Nat,(((z2x [(a:Int),(b:Int)]:Nat):Int) == 2) = (decide (a = 0) && decide (b = 0)):=fun a b=>by
  rw [z4w,z4w,zerosF_nil]
  by_cases ha:a = 0 <;> by_cases hb:b = 0 <;> simp [ha,hb]
 have e3:∀ a b c:Nat,(((z2x [(a:Int),(b:Int),(c:Int)]:Nat):Int) == 3) = (decide (a = 0) && decide (b = 0) && decide (c = 0)):=fun a b c=>by
  rw [z4w,z4w,z4w,zerosF_nil]
  by_cases ha:a = 0 <;> by_cases hb:b = 0 <;> by_cases hc:c = 0 <;> simp [ha,hb,hc]
 refine ⟨fun h1=>⟨by omega,by rw [if_pos h1,e2]⟩,fun h1=>⟨fun h2=>⟨by omega,by rw [if_neg h1,if_pos h2,e3]⟩,fun h2=>⟨fun h3=>⟨by omega,by rw [if_neg h1,if_neg h2,if_pos h3,e2]⟩,fun h3=>by rw [if_neg h1,if_neg h2,if_neg h3]⟩⟩⟩
theorem Plain13_ok:SpecOk Tryz.prog Plain13_n true (z02 true zaz) :=
 z06 z0g (show z10 Tryz.prog zf4 from z00 empty13_ok (z04)) (by kernel_rfl) mixedOrders Tryz.func116 rfl rfl (by kernel_rfl) (n:=1) (by decide +kernel) (I:=Plain13_IA) (fun _ _=>z05) (A:=Plain13_A)
  (fun args h r hr=>by
   unfold zaz at hr
   split at hr
   ·rename_i c_k ty0 c_f ty1 c_p ty2 c_s ty3 c_y; cases hr; refine ⟨rfl,fun hp=>?_⟩; have hE:=Plain13_E ⟨c_k,c_f,c_p,c_s,c_y⟩ ty0 ty1 ty2 ty3 hp; exact hE
   ·cases hr)
def zb7 (I : Inst) (c : Cert) (ty0 ty1 ty2 ty3 ty4 ty5 : TypeId) : Prop :=
   (I.sup.length <= (10000:Nat)/\I.arcs.length <= (10000:Nat)/\A64 c.flow/\A64 I.sup/\A64 c.pot/\A64c I.arcs)/\(z0p I c.flow c.pot = z0p I c.flow c.pot/\True)/\True
theorem askedC1_q (I:Inst) (c:Cert) (ty0 ty1 ty2 ty3 ty4 ty5:TypeId):zb7 I c ty0 ty1 ty2 ty3 ty4 ty5 = z1f TT zfz (askedC1_I I c) (askedC1_an I c) Tryz.f128 [.agg [.row 0,.row 1],.agg [.int .i64 c.kind,.row 2,.row 3,.row 4,.row 5]] [(0,.row false ty0 (.ints .i64 I.sup)),(1,.row false ty1 (.arcs I.arcs)),(2,.row false ty2 (.ints .i64 c.flow)),(3,.row false ty3 (.ints .i64 c.pot)),(4,.row false ty4 (.bools c.side)),(5,.row false ty5 (.ints .i64 c.cycle))] (zg0 I c):=by kernel_rfl
theorem askedC1_E (I:Inst) (c:Cert) (ty0 ty1 ty2 ty3 ty4 ty5:TypeId) (hp:z0j c/\z2b I):FVc TT zfz (askedC1_I I c) (askedC1_an I c) Tryz.f128 [.agg [.row 0,.row 1],.agg [.int .i64 c.kind,.row 2,.row 3,.row 4,.row 5]] [(0,.row false ty0 (.ints .i64 I.sup)),(1,.row false ty1 (.arcs I.arcs)),(2,.row false ty2 (.ints .i64 c.flow)),(3,.row false ty3 (.ints .i64 c.pot)),(4,.row false ty4 (.bools c.side)),(5,.row false ty5 (.ints .i64 c.cycle))] (zg0 I c):=by
 refine FVc.of (zb7 I c ty0 ty1 ty2 ty3 ty4 ty5) (askedC1_q I c ty0 ty1 ty2 ty3 ty4 ty5) ?_
 unfold zb7
 obtain ⟨c1,c2,c3,c4,c5,c6⟩:=hp.1
 obtain ⟨i1,i2,i3,i4,i5⟩:=hp.2
 simp only [eq_self,exists_const,forall_const,decide_eq_true_eq,decide_eq_false_iff_not,and_true,true_and,bne_iff_ne,ne_eq,bne_eq_false_iff_eq,Int.toNat_natCast,Bool.not_eq_true',Bool.not_eq_false',beq_iff_eq,beq_eq_false_iff_ne,z07]
 exact ⟨i1,i2,c1,i3,c2,i5⟩
theorem askedC1_ok:SpecOk Tryz.prog askedC1_n true (z02 true zb8) :=
 z06 z0g (show z10 Tryz.prog zfz from z00 Slack_ok (z04)) (by kernel_rfl) mixedOrders Tryz.func128 rfl rfl (by kernel_rfl) (n:=2) (by decide +kernel) (I:=askedC1_IA) (fun _ _=>z05) (A:=askedC1_A)
  (fun args h r hr=>by
   unfold zb8 at hr
   split at hr
   ·rename_i c_k ty0 I_s ty1 I_a ty2 c_f ty3 c_p ty4 c_s ty5 c_y; cases hr; refine ⟨rfl,fun hp=>?_⟩; have hE:=askedC1_E ⟨I_s,I_a⟩ ⟨c_k,c_f,c_p,c_s,c_y⟩ ty0 ty1 ty2 ty3 ty4 ty5 hp; exact hE
   ·cases hr)
def zb9 (I : Inst) (c : Cert) (ty0 ty1 ty2 ty3 ty4 ty5 : TypeId) : Prop :=
   (A64a I.arcs/\I.arcs.length <= (140737488351232:Nat)/\A64 I.sup/\I.sup.length <= (140737488351232:Nat))/\(z1u I c.side = z1u I c.side/\True)/\True
theorem askedC2_q (I:Inst) (c:Cert) (ty0 ty1 ty2 ty3 ty4 ty5:TypeId):zb9 I c ty0 ty1 ty2 ty3 ty4 ty5 = z1f TT zg1 (askedC2_I I c) (askedC2_an I c) Tryz.f130 [.agg [.row 0,.row 1],.agg [.int .i64 c.kind,.row 2,.row 3,.row 4,.row 5]] [(0,.row false ty0 (.ints .i64 I.sup)),(1,.row false ty1 (.arcs I.arcs)),(2,.row false ty2 (.ints .i64 c.flow)),(3,.row false ty3 (.ints .i64 c.pot)),(4,.row false ty4 (.bools c.side)),(5,.row false ty5 (.ints .i64 c.cycle))] (zg2 I c):=by kernel_rfl
theorem askedC2_E (I:Inst) (c:Cert) (ty0 ty1 ty2 ty3 ty4 ty5:TypeId) (hp:z0j c/\z2b I):FVc TT zg1 (askedC2_I I c) (askedC2_an I c) Tryz.f130 [.agg [.row 0,.row 1],.agg [.int .i64 c.kind,.row 2,.row 3,.row 4,.row 5]] [(0,.row false ty0 (.ints .i64 I.sup)),(1,.row false ty1 (.arcs I.arcs)),(2,.row false ty2 (.ints .i64 c.flow)),(3,.row false ty3 (.ints .i64 c.pot)),(4,.row false ty4 (.bools c.side)),(5,.row false ty5 (.ints .i64 c.cycle))] (zg2 I c):=by
 refine FVc.of (zb9 I c ty0 ty1 ty2 ty3 ty4 ty5) (askedC2_q I c ty0 ty1 ty2 ty3 ty4 ty5) ?_
 unfold zb9
 obtain ⟨c1,c2,c3,c4,c5,c6⟩:=hp.1
 obtain ⟨i1,i2,i3,i4,i5⟩:=hp.2
 simp only [eq_self,exists_const,forall_const,decide_eq_true_eq,decide_eq_false_iff_not,and_true,true_and,bne_iff_ne,ne_eq,bne_eq_false_iff_eq,Int.toNat_natCast,Bool.not_eq_true',Bool.not_eq_false',beq_iff_eq,beq_eq_false_iff_ne,z07]
 exact ⟨i4,by omega,i3,by omega⟩
theorem askedC2_ok:SpecOk Tryz.prog askedC2_n true (z02 true zba) :=
 z06 z0g (show z10 Tryz.prog zg1 from z00 Proves_ok (z04)) (by kernel_rfl) mixedOrders Tryz.func130 rfl rfl (by kernel_rfl) (n:=2) (by decide +kernel) (I:=askedC2_IA) (fun _ _=>z05) (A:=askedC2_A)
  (fun args h r hr=>by
   unfold zba at hr
   split at hr
   ·rename_i c_k ty0 I_s ty1 I_a ty2 c_f ty3 c_p ty4 c_s ty5 c_y; cases hr; refine ⟨rfl,fun hp=>?_⟩; have hE:=askedC2_E ⟨I_s,I_a⟩ ⟨c_k,c_f,c_p,c_s,c_y⟩ ty0 ty1 ty2 ty3 ty4 ty5 hp; exact hE
   ·cases hr)
def zbb (I : Inst) (c : Cert) (ty0 ty1 ty2 ty3 ty4 ty5 : TypeId) : Prop :=
      (I.sup.length <= (10000:Nat)/\I.arcs.length <= (10000:Nat)/\A64 c.flow/\A64 I.sup) /\
 ((z0v I c.flow != (0:Int)) = true->((z0v I c.flow = if z0v I c.flow ≠ (0:Int) then z0v I c.flow else z1y I c.cycle)/\True)/\True) /\
 ((z0v I c.flow != (0:Int)) = false ->
 (c.cycle.length <= (140737488351232:Nat)/\A64c I.arcs)/\((z1y I c.cycle = if z0v I c.flow ≠ (0:Int) then z0v I c.flow else z1y I c.cycle)/\True)/\True)
theorem askedC3_q (I:Inst) (c:Cert) (ty0 ty1 ty2 ty3 ty4 ty5:TypeId):zbb I c ty0 ty1 ty2 ty3 ty4 ty5 = z1f TT zg3 (askedC3_I I c) (askedC3_an I c) Tryz.f132 [.agg [.row 0,.row 1],.agg [.int .i64 c.kind,.row 2,.row 3,.row 4,.row 5]] [(0,.row false ty0 (.ints .i64 I.sup)),(1,.row false ty1 (.arcs I.arcs)),(2,.row false ty2 (.ints .i64 c.flow)),(3,.row false ty3 (.ints .i64 c.pot)),(4,.row false ty4 (.bools c.side)),(5,.row false ty5 (.ints .i64 c.cycle))] (zg4 I c):=by kernel_rfl
theorem askedC3_E (I:Inst) (c:Cert) (ty0 ty1 ty2 ty3 ty4 ty5:TypeId) (hp:z0j c/\z2b I):FVc TT zg3 (askedC3_I I c) (askedC3_an I c) Tryz.f132 [.agg [.row 0,.row 1],.agg [.int .i64 c.kind,.row 2,.row 3,.row 4,.row 5]] [(0,.row false ty0 (.ints .i64 I.sup)),(1,.row false ty1 (.arcs I.arcs)),(2,.row false ty2 (.ints .i64 c.flow)),(3,.row false ty3 (.ints .i64 c.pot)),(4,.row false ty4 (.bools c.side)),(5,.row false ty5 (.ints .i64 c.cycle))] (zg4 I c):=by
 refine FVc.of (zbb I c ty0 ty1 ty2 ty3 ty4 ty5) (askedC3_q I c ty0 ty1 ty2 ty3 ty4 ty5) ?_
 unfold zbb
 obtain ⟨c1,c2,c3,c4,c5,c6⟩:=hp.1
 obtain ⟨i1,i2,i3,i4,i5⟩:=hp.2
 simp only [eq_self,exists_const,forall_const,decide_eq_true_eq,decide_eq_false_iff_not,and_true,true_and,bne_iff_ne,ne_eq,bne_eq_false_iff_eq,Int.toNat_natCast,Bool.not_eq_true',Bool.not_eq_false',beq_iff_eq,beq_eq_false_iff_ne,z07]
 refine ⟨⟨i1,i2,c1,i3⟩,fun h=>by rw [if_pos h],fun h=>⟨⟨c6,i5⟩,by rw [if_neg (fun h2=>h2 h)]⟩⟩
theorem askedC3_ok:SpecOk Tryz.prog askedC3_n true (z02 true zbc) :=
 z06 z0g (show z10 Tryz.prog zg3 from z00 Fits_ok (z00 Turns_ok (z04))) (by kernel_rfl) mixedOrders Tryz.func132 rfl rfl (by kernel_rfl) (n:=2) (by decide +kernel) (I:=askedC3_IA) (fun _ _=>z05) (A:=askedC3_A)
  (fun args h r hr=>by
   unfold zbc at hr
   split at hr
   ·rename_i c_k ty0 I_s ty1 I_a ty2 c_f ty3 c_p ty4 c_s ty5 c_y; cases hr; refine ⟨rfl,fun hp=>?_⟩; have hE:=askedC3_E ⟨I_s,I_a⟩ ⟨c_k,c_f,c_p,c_s,c_y⟩ ty0 ty1 ty2 ty3 ty4 ty5 hp; exact hE
   ·cases hr)
theorem askedC_ok:SpecOk Tryz.prog askedC_n false zg5 :=
 z4q z0g (show z10 Tryz.prog askedC_g from z04) (by kernel_rfl) mixedOrders Tryz.func117 rfl rfl (by kernel_rfl) _
def Check_E0 (I : Inst) (c : Cert) (ty0 ty1 ty2 ty3 ty4 ty5 : TypeId) : Prop :=
      True /\
 ((z0a I != (0:Int)) = true->(z0a I = z0x I c/\True)/\True) /\
 ((z0a I != (0:Int)) = false ->
 True /\
 ((!z1r { kind:=c.kind,flow:=c.flow,pot:=c.pot,side:=c.side,cycle:=c.cycle:Cert }) = true->((36:Int) = z0x I c/\True)/\True) /\
 ((!z1r { kind:=c.kind,flow:=c.flow,pot:=c.pot,side:=c.side,cycle:=c.cycle:Cert }) = false ->
 ((∀ (p:List Int × Int),
 List.Mem p
 (mput (mput (mput [] [(1:Int)] ((↑(128:Nat):Int) + (1:Int))) [(2:Int)] ((↑(130:Nat):Int) + (1:Int))) [(3:Int)]
 ((↑(132:Nat):Int) + (1:Int))) ->
 (0:Int) < p.snd) /\
 ([c.kind] = [(1:Int)] ->
 (z0j { kind:=c.kind,flow:=c.flow,pot:=c.pot,side:=c.side,cycle:=c.cycle:Cert }/\z2b I) /\
 (z0p I c.flow c.pot = z0x I c/\True)/\True) /\
 ([c.kind] ≠ [(1:Int)] ->
 ([c.kind] = [(2:Int)] ->
 (z0j { kind:=c.kind,flow:=c.flow,pot:=c.pot,side:=c.side,cycle:=c.cycle:Cert }/\z2b I) /\
 (z1u I c.side = z0x I c/\True)/\True) /\
 ([c.kind] ≠ [(2:Int)] ->
 ([c.kind] = [(3:Int)] ->
 (z0j { kind:=c.kind,flow:=c.flow,pot:=c.pot,side:=c.side,cycle:=c.cycle:Cert }/\z2b I) /\
 ((if z0v I c.flow ≠ (0:Int) then z0v I c.flow else z1y I c.cycle) = z0x I c/\True)/\True) /\
 ([c.kind] ≠ [(3:Int)]->((36:Int) = z0x I c/\True)/\True)))) /\
 (∀ (p:List Int × Int),
 List.Mem p
 (mput (mput (mput [] [(1:Int)] ((↑(128:Nat):Int) + (1:Int))) [(2:Int)] ((↑(130:Nat):Int) + (1:Int))) [(3:Int)]
 ((↑(132:Nat):Int) + (1:Int))) ->
 (0:Int) < p.snd) /\
 ([c.kind] = [(1:Int)] ->
 (z0j { kind:=c.kind,flow:=c.flow,pot:=c.pot,side:=c.side,cycle:=c.cycle:Cert }/\z2b I) /\
 (z0p I c.flow c.pot = z0x I c/\True)/\True) /\
 ([c.kind] ≠ [(1:Int)] ->
 ([c.kind] = [(2:Int)] ->
 (z0j { kind:=c.kind,flow:=c.flow,pot:=c.pot,side:=c.side,cycle:=c.cycle:Cert }/\z2b I) /\
 (z1u I c.side = z0x I c/\True)/\True) /\
 ([c.kind] ≠ [(2:Int)] ->
 ([c.kind] = [(3:Int)] ->
 (z0j { kind:=c.kind,flow:=c.flow,pot:=c.pot,side:=c.side,cycle:=c.cycle:Cert }/\z2b I) /\
 ((if z0v I c.flow ≠ (0:Int) then z0v I c.flow else z1y I c.cycle) = z0x I c/\True)/\True) /\
 ([c.kind] ≠ [(3:Int)]->((36:Int) = z0x I c/\True)/\True)))))
theorem Check_q (I:Inst) (c:Cert) (ty0 ty1 ty2 ty3 ty4 ty5:TypeId):Check_E0 I c ty0 ty1 ty2 ty3 ty4 ty5 = z1f TT Check_g (Check_I I c) (Check_an I c) Tryz.f97 [.agg [.row 0,.row 1],.agg [.int .i64 c.kind,.row 2,.row 3,.row 4,.row 5]] [(0,.row false ty0 (.ints .i64 I.sup)),(1,.row false ty1 (.arcs I.arcs)),(2,.row false ty2 (.ints .i64 c.flow)),(3,.row false ty3 (.ints .i64 c.pot)),(4,.row false ty4 (.bools c.side)),(5,.row false ty5 (.ints .i64 c.cycle))] (Check_r I c):=by kernel_rfl
theorem Check_E (I:Inst) (c:Cert) (ty0 ty1 ty2 ty3 ty4 ty5:TypeId) (hp:z0j c/\z2b I):FVc TT Check_g (Check_I I c) (Check_an I c) Tryz.f97 [.agg [.row 0,.row 1],.agg [.int .i64 c.kind,.row 2,.row 3,.row 4,.row 5]] [(0,.row false ty0 (.ints .i64 I.sup)),(1,.row false ty1 (.arcs I.arcs)),(2,.row false ty2 (.ints .i64 c.flow)),(3,.row false ty3 (.ints .i64 c.pot)),(4,.row false ty4 (.bools c.side)),(5,.row false ty5 (.ints .i64 c.cycle))] (Check_r I c):=by
 refine FVc.of (Check_E0 I c ty0 ty1 ty2 ty3 ty4 ty5) (Check_q I c ty0 ty1 ty2 ty3 ty4 ty5) ?_
 unfold Check_E0
 obtain ⟨c1,c2,c3,c4,c5,c6⟩:=hp.1
 have hc:z0j ⟨c.kind,c.flow,c.pot,c.side,c.cycle⟩:=hp.1
 have mem:∀ x y z:Nat,∀ p:List Int × Int,List.Mem p (mput (mput (mput [] [1] ((x:Int) + 1)) [2] ((y:Int) + 1)) [3] ((z:Int) + 1))->0 < p.2:=fun x y z p hp=>by
  have h:p ∈ [([(1:Int)],(x:Int) + 1),([2],(y:Int) + 1),([3],(z:Int) + 1)]:=hp
  simp only [List.mem_cons,List.not_mem_nil,or_false] at h
  rcases h with rfl | rfl | rfl <;> dsimp only <;> omega
 refine ⟨trivial,fun h=>⟨?_,trivial⟩,fun h=>⟨trivial,fun h2=>⟨?_,trivial⟩,fun h2=>?_⟩⟩
 ·have h3:¬ z0a I = 0:=by simpa using h
  unfold z0x; rw [if_pos h3]; exact ⟨rfl,trivial⟩
 ·have h3:z0a I = 0:=by simpa using h
  have h4:z1r c = false:=by simpa using h2
  unfold z0x; rw [if_neg (fun h5=>h5 h3),if_pos h4]; exact ⟨rfl,trivial⟩
 ·have h3:z0a I = 0:=by simpa using h
  have h4:z1r c = true:=by simpa using h2
  have e0:z0x I c = if c.kind = 1 then z0p I c.flow c.pot else if c.kind = 2 then z1u I c.side else if z0v I c.flow ≠ 0 then z0v I c.flow else z1y I c.cycle:=by
   unfold z0x; rw [if_neg (fun h5=>h5 h3),if_neg (by rw [h4]; simp)]
  have hk:=z8r h4
  have f1:([c.kind] = [(1:Int)]->(z0j c/\z2b I)/\(z0p I c.flow c.pot = z0x I c/\True)/\True):=fun h=>by
   have h:c.kind = 1:=by simpa using h
   exact ⟨hp,⟨by rw [e0,if_pos h],trivial⟩,trivial⟩
  have f2:[c.kind] ≠ [(1:Int)]->([c.kind] = [(2:Int)]->(z0j c/\z2b I)/\(z1u I c.side = z0x I c/\True)/\True):=fun _ h=>by
   have h:c.kind = 2:=by simpa using h
   exact ⟨hp,⟨by rw [e0,if_neg (by omega),if_pos h],trivial⟩,trivial⟩
  have f3:[c.kind] ≠ [(2:Int)]->([c.kind] = [(3:Int)]->(z0j c/\z2b I)/\((if z0v I c.flow ≠ (0:Int) then z0v I c.flow else z1y I c.cycle) = z0x I c/\True)/\True):=fun _ h=>by
   have h:c.kind = 3:=by simpa using h
   exact ⟨hp,⟨by rw [e0,if_neg (show ¬ c.kind = 1 by omega),if_neg (show ¬ c.kind = 2 by omega)],trivial⟩,trivial⟩
  have f4:[c.kind] ≠ [(1:Int)]->[c.kind] ≠ [(2:Int)]->[c.kind] ≠ [(3:Int)]->((36:Int) = z0x I c/\True)/\True:=fun g1 g2 g3=>by
   rcases hk with h | h | h
   ·exact absurd (by rw [h]) g1
   ·exact absurd (by rw [h]) g2
   ·exact absurd (by rw [h]) g3
  exact ⟨⟨mem _ _ _,f1,fun g1=>⟨f2 g1,fun g2=>⟨f3 g2,fun g3=>f4 g1 g2 g3⟩⟩⟩,mem _ _ _,f1,fun g1=>⟨f2 g1,fun g2=>⟨f3 g2,fun g3=>f4 g1 g2 g3⟩⟩⟩
theorem Check_ok:SpecOk Tryz.prog Check_n true (z02 true z9h) :=
 z06 z0g (show z10 Tryz.prog Check_g from z00 z9m (z00 Plain13_ok (z00 askedC_ok (z00 askedC1_ok (z00 askedC2_ok (z00 askedC3_ok (z04))))))) (by kernel_rfl) mixedOrders Tryz.func97 rfl rfl (by kernel_rfl) (n:=2) (by decide +kernel) (I:=Check_IA) (fun _ _=>z05) (A:=Check_A)
  (fun args h r hr=>by
   unfold z9h at hr
   split at hr
   ·rename_i c_k ty0 I_s ty1 I_a ty2 c_f ty3 c_p ty4 c_s ty5 c_y; cases hr; refine ⟨rfl,fun hp=>?_⟩; have hE:=Check_E ⟨I_s,I_a⟩ ⟨c_k,c_f,c_p,c_s,c_y⟩ ty0 ty1 ty2 ty3 ty4 ty5 hp; exact hE
   ·cases hr)
end Go.Proofs.YtapeenpimcffpaaGreat
end
section
namespace Go.Ql
open Go Go.Vc
theorem z4e {I:Inst} {c:Cert} (h:z0x I c = 0):z0a I = 0/\z1r c = true/\(c.kind = 1/\z0p I c.flow c.pot = 0 ∨ c.kind = 2/\z1u I c.side = 0 ∨ c.kind = 3/\z0v I c.flow = 0/\z1y I c.cycle = 0):=by
 unfold z0x at h
 by_cases h1:z0a I = 0
 ·rw [if_neg (fun h2=>h2 h1)] at h
  cases hp:z1r c with
  | false=>rw [hp] at h; simp at h
  | true =>
   rw [hp] at h
   simp only [Bool.true_eq_false,if_false] at h
   refine ⟨h1,rfl,?_⟩
   rcases z8r hp with hk | hk | hk
   ·left; rw [if_pos hk] at h; exact ⟨hk,h⟩
   ·right; left; rw [if_neg (by omega),if_pos hk] at h; exact ⟨hk,h⟩
   ·right; right
    rw [if_neg (by omega),if_neg (by omega)] at h
    refine ⟨hk,?_⟩
    by_cases hf:z0v I c.flow = 0
    ·rw [if_neg (fun h2=>h2 hf)] at h; exact ⟨hf,h⟩
    ·rw [if_pos hf] at h; exact absurd h hf
 ·rw [if_pos h1] at h; exact absurd h h1
theorem z5p {I:Inst} {x pot:List Int} (h:z0p I x pot = 0):z0v I x = 0/\pot.length = I.sup.length/\∀ k,k < I.arcs.length->z1k I x pot k = true:=by
 unfold z0p at h
 by_cases h1:z0v I x = 0
 ·rw [if_neg (fun h2=>h2 h1)] at h
  by_cases h2:pot.length = I.sup.length
  ·rw [if_neg (fun h3=>h3 h2)] at h
   refine ⟨h1,h2,fun k hk=>?_⟩
   split at h
   ·rename_i h3; exact List.all_eq_true.1 h3 k (List.mem_range.2 hk)
   ·omega
  ·rw [if_pos h2] at h; omega
 ·rw [if_pos h1] at h; exact absurd h h1
theorem turns_zero {I:Inst} {l:List Int} (h:z1y I l = 0):z0a I = 0/\0 < l.length/\l.length <= I.arcs.length/\c1F I l = true/\c2F l = true/\c3F I l = true/\c4F I l = true/\c5F I l = true:=by
 unfold z1y at h
 by_cases h1:z0a I = 0
 ·rw [if_neg (fun h2=>h2 h1)] at h
  by_cases h2:l.length = 0 ∨ I.arcs.length < l.length
  ·rw [if_pos h2] at h; omega
  ·rw [if_neg h2] at h
   split at h
   ·rename_i h3
    simp only [Bool.and_eq_true] at h3
    exact ⟨h1,by omega,by omega,h3.1.1.1.1,h3.1.1.1.2,h3.1.1.2,h3.1.2,h3.2⟩
   ·omega
 ·rw [if_pos h1] at h; exact absurd h h1
theorem potR_I64 {pot:List Int} (h:A64 pot) (n:Int):I64 (potR pot n):=by
 unfold potR
 split
 ·exact h.getD _
 ·unfold I64; omega
theorem redP_I128 {I:Inst} {pot:List Int} (hr:z0a I = 0) (hp:A64 pot) {a:Arc} (ha:a ∈ I.arcs):zdn (redP pot a):=by
 have h1:=potR_I64 hp a.src
 have h2:=potR_I64 hp a.dst
 have h3:=z1b hr ha
 unfold redP redA zdn
 unfold I64 at h1 h2
 omega
theorem rayK_bd {I:Inst} (hr:z0a I = 0) (l:List Int):∀ k:Nat,-(4398046511104 * (k:Int)) <= zan I l k/\zan I l k <= 4398046511104 * (k:Int)
 | 0=>by simp [zan]
 | k + 1=>by
  have ih:=rayK_bd hr l k
  have hd:-4398046511104 <= rayD I (l.getD k 0)/\rayD I (l.getD k 0) <= 4398046511104:=by
   unfold rayD
   split
   ·rename_i h
    obtain ⟨h1,h2⟩:=isArcF_iff.1 h
    obtain ⟨a,ha⟩:∃ a,I.arcs[(l.getD k 0).toNat]? = some a:=⟨_,List.getElem?_eq_getElem (by omega)⟩
    rw [z4i ha]
    have:=z1b hr (List.mem_of_getElem? ha)
    omega
   ·omega
  rw [zan]
  push_cast
  omega
theorem no_both {I:Inst} {x pot l:List Int} (hp:A64 pot) (hs:z0p I x pot = 0) (ht:z1y I l = 0):False:=by
 obtain ⟨hr,hl0,hl1,c1,c2,c3,c4,c5⟩:=turns_zero ht
 obtain ⟨hf,hpl,hk⟩:=z5p hs
 have hrs:=z0n hr
 let P:Nat->Int:=fun k=>potR pot (z7t I (l.getD k 0)).src
 have step:∀ k,k < l.length->0 <= rayD I (l.getD k 0) - P k + P ((k + 1) % l.length):=fun k hkl=>by
  have hx:l[k]? = some (l.getD k 0):=by rw [List.getD_eq_getElem?_getD,List.getElem?_eq_getElem hkl]; rfl
  have hm:=List.mem_of_getElem? hx
  generalize hy:l.getD k 0 = y at *
  have h1:=List.all_eq_true.1 c1 y hm
  obtain ⟨y0,y1⟩:=isArcF_iff.1 h1
  obtain ⟨a,ha⟩:∃ a,I.arcs[y.toNat]? = some a:=⟨_,List.getElem?_eq_getElem (by omega)⟩
  have hma:=List.mem_of_getElem? ha
  have hat:=z4i (x:=y) ha
  have hcap:a.cap = inf:=by
   have:=List.all_eq_true.1 c4 y hm
   rw [hat] at this
   exact of_decide_eq_true this
  have hlink:(z7t I y).dst = (z7t I (l.getD ((k + 1) % l.length) 0)).src:=by
   have:=List.all_eq_true.1 c3 k (List.mem_range.2 hkl)
   unfold linkF at this
   rw [hy] at this
   exact of_decide_eq_true this
  have hsk:=hk y.toNat (by omega)
  unfold z1k at hsk
  rw [redF_at ha (z1b hr hma).1,show I.arcs.getD y.toNat default = a by rw [List.getD_eq_getElem?_getD,ha]; rfl] at hsk
  have h2:¬ sgn (redP pot a) < 0:=fun h3=>by
   unfold z48 at hsk
   simp [h3,hcap] at hsk
  have h3:0 <= redP pot a:=by
   apply Classical.byContradiction
   intro h4
   exact h2 ((sgn_neg (redP_I128 hr hp hma)).2 (by omega))
  unfold redP redA at h3
  have e1:rayD I y = a.cost:=by unfold rayD; rw [h1,hat]; rfl
  have e2:P k = potR pot a.src:=by show potR pot (z7t I (l.getD k 0)).src = _; rw [hy,hat]
  have e3:P ((k + 1) % l.length) = potR pot a.dst:=by show potR pot (z7t I (l.getD ((k + 1) % l.length) 0)).src = _; rw [<- hlink,hat]
  rw [e1,e2,e3]
  exact h3
 have sums:∀ t,t <= l.length->0 <= zan I l t + z1l (fun k=>P ((k + 1) % l.length) - P k) t:=fun t=>by
  induction t with
  | zero=>intro _; simp [zan,z1l]
  | succ t ih =>
   intro h
   have h1:=ih (by omega)
   have h2:=step t (by omega)
   rw [zan,z1l]
   omega
 have h1:=sums l.length (Nat.le_refl _)
 rw [round_zero P l.length (Nat.le_refl _) hl0,Nat.mod_self] at h1
 have h2:=rayK_bd hr l l.length
 unfold c5F rayS at c5
 have h3:=of_decide_eq_true c5
 rw [zit (by unfold zdn; omega) (by unfold zdn; omega)] at h3
 have h4:¬ zan I l l.length < 0:=by omega
 rw [if_neg h4] at h3
 split at h3 <;> omega
theorem cost_one {I:Inst} {x y p q:List Int} (hx:A64 x) (hy:A64 y) (hp:A64 p) (hq:A64 q) (h1:z0p I x p = 0) (h2:z0p I y q = 0):costF I x = costF I y:=by
 obtain ⟨f1,-,-⟩:=z5p h1
 obtain ⟨f2,-,-⟩:=z5p h2
 have hr:=(fitsF_iff.1 f1).1
 have a:=slack_best hy hx hp h1 f2
 have b:=slack_best hx hy hq h2 f1
 rw [zit (z5g hr hx) (z5g hr hy)] at a
 rw [zit (z5g hr hy) (z5g hr hx)] at b
 split at a <;> split at b <;> (try split at a) <;> (try split at b) <;> omega
theorem cert_one {I:Inst} {x y:Cert} (hx:z0j x) (hy:z0j y) (h1:z0x I x = 0) (h2:z0x I y = 0):x.kind = y.kind/\zdc I x = zdc I y:=by
 obtain ⟨hr,-,k1⟩:=z4e h1
 obtain ⟨-,-,k2⟩:=z4e h2
 have hrs:=z0n hr
 have hw:=(z3z hr).1
 have none_:∀ {s:List Bool} {f:List Int},A64 f->z1u I s = 0->z0v I f = 0->False:=fun hf h3 h4=>proves_none (by omega) (by omega) hf hw h3 h4
 rcases k1 with ⟨a1,b1⟩ | ⟨a1,b1⟩ | ⟨a1,b1,d1⟩ <;> rcases k2 with ⟨a2,b2⟩ | ⟨a2,b2⟩ | ⟨a2,b2,d2⟩
 ·refine ⟨by omega,?_⟩
  unfold zdc; rw [if_pos a1,if_pos a2,cost_one hx.1 hy.1 hx.2.1 hy.2.1 b1 b2]
 ·exact (none_ hx.1 b2 (z5p b1).1).elim
 ·exact (no_both hx.2.1 b1 d2).elim
 ·exact (none_ hy.1 b1 (z5p b2).1).elim
 ·refine ⟨by omega,?_⟩
  unfold zdc; rw [if_neg (by omega),if_neg (by omega)]
 ·exact (none_ hy.1 b1 b2).elim
 ·exact (no_both hy.2.1 b2 d1).elim
 ·exact (none_ hx.1 b2 b1).elim
 ·refine ⟨by omega,?_⟩
  unfold zdc; rw [if_neg (by omega),if_neg (by omega)]
end Go.Ql
end
section
namespace Go.Ql
open Go Go.Vc
abbrev Stp:=Nat × Bool
def z4d (I:Inst) (a:Nat):Arc:=I.arcs.getD a default
def frS (I:Inst) (s:Stp):Nat:=if s.2 then (z4d I s.1).dst.toNat else (z4d I s.1).src.toNat
def toS (I:Inst) (s:Stp):Nat:=if s.2 then (z4d I s.1).src.toNat else (z4d I s.1).dst.toNat
def csS (I:Inst) (s:Stp):Int:=if s.2 then -(z4d I s.1).cost else (z4d I s.1).cost
def rmS (I:Inst) (x:List Int) (s:Stp):Int:=if s.2 then x.getD s.1 0 - (z4d I s.1).low else if (z4d I s.1).cap = inf then 1152921504606846976 else (z4d I s.1).cap - x.getD s.1 0
def okS (I:Inst) (s:Stp):Prop:=s.1 < I.arcs.length
def zbx (x:List Int) (s:Stp) (u:Int):List Int:=x.set s.1 (x.getD s.1 0 + (if s.2 then -u else u))
def zdh (I:Inst) (o:List Int) (s:Stp) (u:Int):List Int:=addAt (addAt o (frS I s) (-u)) (toS I s) u
theorem arcN_get {I:Inst} {a:Nat} {y:Arc} (h:I.arcs[a]? = some y):z4d I a = y:=by unfold z4d; rw [List.getD_eq_getElem?_getD,h]; rfl
theorem arcN_mem {I:Inst} {a:Nat} (h:a < I.arcs.length):I.arcs[a]? = some (z4d I a)/\z4d I a ∈ I.arcs:=by
 have e:I.arcs[a]? = some (z4d I a):=by unfold z4d; rw [List.getD_eq_getElem?_getD,List.getElem?_eq_getElem h]; rfl
 exact ⟨e,List.mem_of_getElem? e⟩
structure ArcOk (n:Nat) (y:Arc):Prop where
 s0:0 <= y.src
 s1:y.src.toNat < n
 d0:0 <= y.dst
 d1:y.dst.toNat < n
 l0:0 <= y.low
 l1:y.low <= 4398046511104
 c:y.cap = inf ∨ y.low <= y.cap/\y.cap <= 4398046511104
 k0:-4398046511104 <= y.cost
 k1:y.cost <= 4398046511104
theorem z5v {I:Inst} (hr:z0a I = 0) {a:Nat} (h:a < I.arcs.length):ArcOk I.sup.length (z4d I a):=by
 have hm:=z1b hr (arcN_mem h).2
 obtain ⟨p1,p2,p3,p4⟩:=okArc_iff.1 hm.1
 exact ⟨p1,by omega,p3,by omega,hm.2.1.1,hm.2.1.2.1,hm.2.1.2.2,hm.2.2.1,hm.2.2.2⟩
theorem frS_lt {I:Inst} (hr:z0a I = 0) {s:Stp} (h:okS I s):frS I s < I.sup.length:=by
 have:=z5v hr h
 unfold frS; split
 ·exact this.d1
 ·exact this.s1
theorem toS_lt {I:Inst} (hr:z0a I = 0) {s:Stp} (h:okS I s):toS I s < I.sup.length:=by
 have:=z5v hr h
 unfold toS; split
 ·exact this.s1
 ·exact this.d1
theorem flip_ends (I:Inst) (a:Nat) (b:Bool):frS I (a,!b) = toS I (a,b)/\toS I (a,!b) = frS I (a,b)/\csS I (a,!b) = -csS I (a,b):=by
 cases b <;> simp [frS,toS,csS]
structure OverOf (I:Inst) (x o:List Int):Prop where
 lo:o.length = I.sup.length
 lx:x.length = I.arcs.length
 at_:∀ v:Nat,v < I.sup.length->o.getD v 0 = I.sup.getD v 0 - z2v I.sup.length I.arcs x I.arcs.length v
theorem pushX_len (x:List Int) (s:Stp) (u:Int):(zbx x s u).length = x.length:=by simp [zbx]
theorem zhq (I:Inst) (o:List Int) (s:Stp) (u:Int):(zdh I o s u).length = o.length:=by simp [zdh,z4h]
theorem za4 {I:Inst} {o:List Int} {s:Stp} {u:Int} {v:Nat} (hv:v < o.length):(zdh I o s u).getD v 0 = o.getD v 0 - (if frS I s = v then u else 0) + (if toS I s = v then u else 0):=by
 unfold zdh
 rw [addAt_getD _ _ _ _ (by rw [z4h]; exact hv),addAt_getD _ _ _ _ hv]
 split <;> split <;> omega
theorem z7l {x:List Int} {s:Stp} {u:Int} {a:Nat} (h:s.1 < x.length):(zbx x s u).getD a 0 = x.getD a 0 + (if a = s.1 then (if s.2 then -u else u) else 0):=by
 unfold zbx; exact zcz h _ a
theorem flowD_step {I:Inst} (hr:z0a I = 0) {s:Stp} (h:okS I s) (u:Int) (v:Nat):z3w I.sup.length (z4d I s.1) (if s.2 then -u else u) v = (if frS I s = v then u else 0) - (if toS I s = v then u else 0):=by
 have ok:=z5v hr h
 have h1:=ok.s0; have h2:=ok.d0; have h3:=ok.s1; have h4:=ok.d1
 have ho:z25 I.sup.length (z4d I s.1) = true:=okArc_iff.2 ⟨h1,by omega,h2,by omega⟩
 unfold z3w frS toS
 rw [ho,if_pos rfl]
 have e1:((z4d I s.1).src = (v:Int)) ↔ (z4d I s.1).src.toNat = v:=by omega
 have e2:((z4d I s.1).dst = (v:Int)) ↔ (z4d I s.1).dst.toNat = v:=by omega
 cases s.2
 ·simp only [Bool.false_eq_true,if_false,e1,e2]
 ·simp only [if_true,e1,e2]
  split <;> split <;> omega
theorem OverOf.push {I:Inst} (hr:z0a I = 0) {x o:List Int} (h:OverOf I x o) {s:Stp} (hs:okS I s) (u:Int):OverOf I (zbx x s u) (zdh I o s u):=by
 refine ⟨by rw [zhq]; exact h.lo,by rw [pushX_len]; exact h.lx,fun v hv=>?_⟩
 have hx:s.1 < x.length:=by rw [h.lx]; exact hs
 rw [za4 (by rw [h.lo]; exact hv),h.at_ v hv]
 have:=netK_set (n:=I.sup.length) (l:=I.arcs) (x:=x) (v:=v) hx (if s.2 then -u else u) I.arcs.length
 unfold zbx
 rw [this,if_pos (show s.1 < I.arcs.length from hs)]
 have:=flowD_step hr hs u v
 unfold z4d at this
 rw [this]
 omega
def Betw (I:Inst) (x:List Int):Prop:=∀ a,a < I.arcs.length->(z4d I a).low <= x.getD a 0/\((z4d I a).cap = inf ∨ x.getD a 0 <= (z4d I a).cap)
theorem Betw.room {I:Inst} (hr:z0a I = 0) {x:List Int} (h:Betw I x) {s:Stp} (hs:okS I s):0 <= rmS I x s:=by
 have:=h s.1 hs
 have ok:=z5v hr hs
 unfold rmS
 split
 ·omega
 ·split
  ·omega
  ·rename_i h2
   rcases this.2 with h3 | h3
   ·exact absurd h3 h2
   ·omega
theorem betw_push {I:Inst} {x:List Int} (h:Betw I x) (hl:x.length = I.arcs.length) {s:Stp} (hs:okS I s) {u:Int} (h0:0 <= u) (h1:u <= rmS I x s):Betw I (zbx x s u):=fun a ha=>by
 have hx:s.1 < x.length:=by rw [hl]; exact hs
 rw [z7l hx]
 have hb:=h a ha
 by_cases e:a = s.1
 ·subst e
  rw [if_pos rfl]
  unfold rmS at h1
  cases hb2:s.2 with
  | true =>
   rw [hb2,if_pos rfl] at h1
   simp only [if_true]
   exact ⟨by omega,hb.2.imp id (by omega)⟩
  | false =>
   rw [hb2,if_neg Bool.false_ne_true] at h1
   simp only [Bool.false_eq_true,if_false]
   refine ⟨by omega,?_⟩
   by_cases hc:(z4d I s.1).cap = inf
   ·exact .inl hc
   ·rw [if_neg hc] at h1; exact .inr (by omega)
 ·rw [if_neg e]; simpa using hb
def z9b (I:Inst) (b:Nat->Option Stp):Nat->Nat->List Stp
 | 0,_=>[]
 | f + 1,v=>match b v with
  | none=>[]
  | some s=>s :: z9b I b f (frS I s)
def rootF (I:Inst) (b:Nat->Option Stp):Nat->Nat->Nat
 | 0,v=>v
 | f + 1,v=>match b v with
  | none=>v
  | some s=>rootF I b f (frS I s)
def Tree (I:Inst) (b:Nat->Option Stp) (ρ:Nat->Nat):Prop:=∀ v s,v < I.sup.length->b v = some s->okS I s/\toS I s = v/\ρ (frS I s) < ρ v
theorem walk_mem {I:Inst} {b:Nat->Option Stp} {ρ:Nat->Nat} (hr:z0a I = 0) (h:Tree I b ρ):∀ (f v:Nat),v < I.sup.length->∀ s ∈ z9b I b f v,okS I s/\b (toS I s) = some s/\ρ (toS I s) <= ρ v/\ρ (frS I s) < ρ (toS I s)
 | 0,v,_,s,hs=>by simp [z9b] at hs
 | f + 1,v,hv,s,hs=>by
  rw [z9b] at hs
  cases hb:b v with
  | none=>rw [hb] at hs; simp at hs
  | some t =>
   rw [hb] at hs
   obtain ⟨h1,h2,h3⟩:=h v t hv hb
   rcases List.mem_cons.1 hs with rfl | hs
   ·exact ⟨h1,by rw [h2]; exact hb,by rw [h2]; exact Nat.le_refl _,by rw [h2]; exact h3⟩
   ·obtain ⟨i1,i2,i3,i4⟩:=walk_mem hr h f (frS I t) (frS_lt hr h1) s hs
    exact ⟨i1,i2,by omega,i4⟩
def unitsF (I:Inst) (x:List Int) (u:Int) (l:List Stp):Int:=l.foldl (fun u s=>min u (rmS I x s)) u
theorem unitsF_le {I:Inst} {x:List Int}:∀ (l:List Stp) (u:Int),unitsF I x u l <= u/\∀ s ∈ l,unitsF I x u l <= rmS I x s
 | [],u=>⟨Int.le_refl _,fun s h=>by simp at h⟩
 | t :: l,u=>by
  obtain ⟨i1,i2⟩:=unitsF_le (I:=I) (x:=x) l (min u (rmS I x t))
  have e:unitsF I x u (t :: l) = unitsF I x (min u (rmS I x t)) l:=rfl
  rw [e]
  refine ⟨by omega,fun s hs=>?_⟩
  rcases List.mem_cons.1 hs with rfl | hs
  ·omega
  ·exact i2 s hs
def za5 (I:Inst) (o:List Int) (l:List Stp) (u:Int):List Int:=l.foldl (fun o s=>zdh I o s u) o
theorem zbw (I:Inst) (u:Int):∀ (l:List Stp) (o:List Int),(za5 I o l u).length = o.length
 | [],o=>rfl
 | s :: l,o=>by show (za5 I (zdh I o s u) l u).length = _; rw [zbw I u l,zhq]
theorem pushOs_at {I:Inst} {b:Nat->Option Stp} {ρ:Nat->Nat} (hr:z0a I = 0) (h:Tree I b ρ) {u:Int}:∀ (f w:Nat) (o:List Int),w < I.sup.length->o.length = I.sup.length->∀ v,v < I.sup.length ->
  (za5 I o (z9b I b f w) u).getD v 0 = o.getD v 0 + (if w = v then u else 0) - (if rootF I b f w = v then u else 0)
 | 0,w,o,hw,ho,v,hv=>by simp only [z9b,rootF,za5,List.foldl_nil]; omega
 | f + 1,w,o,hw,ho,v,hv=>by
  rw [z9b,rootF]
  cases hb:b w with
  | none=>simp only [za5,List.foldl_nil]; omega
  | some s =>
   obtain ⟨h1,h2,h3⟩:=h w s hw hb
   have e:za5 I o (s :: z9b I b f (frS I s)) u = za5 I (zdh I o s u) (z9b I b f (frS I s)) u:=rfl
   dsimp only
   rw [e,pushOs_at hr h f (frS I s) _ (frS_lt hr h1) (by rw [zhq]; exact ho) v hv,za4 (by rw [ho]; exact hv),h2]
   omega
def zd6 (o:List Int):Nat->Int
 | 0=>0
 | k + 1=>zd6 o k + max (o.getD k 0) 0
theorem z66 (o:List Int):∀ k,0 <= zd6 o k
 | 0=>Int.le_refl _
 | k + 1=>by have:=z66 o k; rw [zd6]; omega
theorem posS_ge {o:List Int} {v:Nat}:∀ {k:Nat},v < k->o.getD v 0 <= zd6 o k
 | 0,h=>by omega
 | k + 1,h=>by
  have:=z66 o k
  rw [zd6]
  by_cases e:v = k
  ·subst e; omega
  ·have:=posS_ge (o:=o) (v:=v) (k:=k) (by omega); omega
def XB (x:List Int):Prop:=∀ y ∈ x,-288230376151711744 <= y/\y <= 288230376151711744
theorem XB.at {x:List Int} (h:XB x) (k:Nat):-288230376151711744 <= x.getD k 0/\x.getD k 0 <= 288230376151711744:=by
 rw [List.getD_eq_getElem?_getD]
 cases e:x[k]? with
 | none=>exact ⟨by decide,by decide⟩
 | some u=>exact h u (List.mem_of_getElem? e)
def endS (I:Inst) (s:Stp):Bool:=!s.2 && decide ((z4d I s.1).cap = inf)
end Go.Ql
end
section
namespace Go.Ql
open Go Go.Vc
structure BF (I:Inst) (cnt:Stp->Bool) (start:Nat->Bool) (r:Nat) (done:Stp->Bool) (d:Nat->Option Int) (b:Nat->Option Stp) (e:Option Nat) (τ T:Nat->Nat) (t:Nat):Prop where
 st:∀ v,v < I.sup.length->start v = true->∃ c,d v = some c/\c <= 0
 no:∀ v,v < I.sup.length->b v = none->∀ c,d v = some c->start v = true/\c = 0
 un:∀ v,d v = none->b v = none
 by_:∀ v s,v < I.sup.length->b v = some s->okS I s/\cnt s = true/\toS I s = v/\∃ c u,d v = some c/\d (frS I s) = some u/\u + csS I s <= c/\(T v <= T (frS I s)->u + csS I s < c)
 rd:∀ v s,v < I.sup.length->b v = some s->1 <= τ v/\τ v <= τ (frS I s) + 1
 r0:∀ v,b v = none->τ v = 0
 rl:∀ v,τ v <= r
 la:∀ v,e = some v->v < I.sup.length/\τ v = r/\1 <= r
 le:e = none->∀ v,τ v = r->r = 0
 ok:∀ s,okS I s->cnt s = true->∀ u,d (frS I s) = some u->τ (frS I s) < (if done s then r else r - 1)->∃ c,d (toS I s) = some c/\c <= u + csS I s
 cl:∀ v,T v < t
theorem BF.pass {I:Inst} {cnt:Stp->Bool} {start:Nat->Bool} {r:Nat} {done done':Stp->Bool} {d:Nat->Option Int} {b:Nat->Option Stp} {e:Option Nat} {τ T:Nat->Nat} {t:Nat} {s:Stp} (h:BF I cnt start r done d b e τ T t)
    (hd:∀ s',done' s' = (done s' || decide (s' = s))) (hs:cnt s = true->∀ u,d (frS I s) = some u->∃ c,d (toS I s) = some c/\c <= u + csS I s):BF I cnt start r done' d b e τ T t :=
  { h with
    ok:=fun s' h1 h2 u hu h3=>by
      by_cases es:s' = s
      · subst es; exact hs h2 u hu
      · rw [hd,decide_eq_false es,Bool.or_false] at h3
        exact h.ok s' h1 h2 u hu h3 }
theorem BF.take {I:Inst} (hr:z0a I = 0) {cnt:Stp->Bool} {start:Nat->Bool} {r:Nat} {done done':Stp->Bool} {d:Nat->Option Int} {b:Nat->Option Stp} {e:Option Nat} {τ T:Nat->Nat} {t:Nat} {s:Stp} (h:BF I cnt start r done d b e τ T t)
  (hd:∀ s',done' s' = (done s' || decide (s' = s))) (h1:1 <= r) (hsk:okS I s) (hc:cnt s = true) (hnd:done s = false) {u:Int} (hu:d (frS I s) = some u) (hless:∀ c,d (toS I s) = some c->u + csS I s < c) :
  ∃ τ' T':Nat->Nat,BF I cnt start r done' (fun v=>if v = toS I s then some (u + csS I s) else d v) (fun v=>if v = toS I s then some s else b v) (some (toS I s)) τ' T' (t + 1):=by
 have hto:=toS_lt hr hsk
 have hfr:=frS_lt hr hsk
 have hτ:r - 1 <= τ (frS I s):=by
  apply Nat.le_of_not_lt
  intro hlt
  obtain ⟨c,h2,h3⟩:=h.ok s hsk hc u hu (by rw [hnd]; exact hlt)
  have:=hless c h2; omega
 refine ⟨fun v=>if v = toS I s then r else τ v,fun v=>if v = toS I s then t else T v,?_⟩
 constructor
 ·intro v hv hst
  by_cases ev:v = toS I s
  ·rw [if_pos ev]
   subst ev
   obtain ⟨c,h2,h3⟩:=h.st _ hv hst
   exact ⟨_,rfl,by have:=hless c h2; omega⟩
  ·rw [if_neg ev]; exact h.st v hv hst
 ·intro v hv hb c hdv
  by_cases ev:v = toS I s
  ·rw [if_pos ev] at hb; cases hb
  ·rw [if_neg ev] at hb hdv; exact h.no v hv hb c hdv
 ·intro v hdv
  by_cases ev:v = toS I s
  ·rw [if_pos ev] at hdv; cases hdv
  ·rw [if_neg ev] at hdv ⊢; exact h.un v hdv
 ·intro v s' hv hb
  by_cases ev:v = toS I s
  ·rw [if_pos ev] at hb
   cases hb
   refine ⟨hsk,hc,ev.symm,u + csS I s,?_⟩
   rw [if_pos ev]
   by_cases ef:frS I s = toS I s
   ·rw [if_pos ef,if_pos ef,if_pos ev]
    have:=hless u (by rw [<- ef]; exact hu)
    exact ⟨u + csS I s,rfl,rfl,by omega,fun _=>by omega⟩
   ·rw [if_neg ef,if_neg ef,if_pos ev]
    exact ⟨u,rfl,hu,Int.le_refl _,fun hT=>by have:=h.cl (frS I s); omega⟩
  ·rw [if_neg ev] at hb
   obtain ⟨p1,p2,p3,c,u',p4,p5,p6,p7⟩:=h.by_ v s' hv hb
   rw [if_neg ev,if_neg ev]
   refine ⟨p1,p2,p3,c,?_⟩
   by_cases ef:frS I s' = toS I s
   ·rw [if_pos ef,if_pos ef]
    have:=hless u' (by rw [<- ef]; exact p5)
    exact ⟨u + csS I s,p4,rfl,by omega,fun _=>by omega⟩
   ·rw [if_neg ef,if_neg ef]
    exact ⟨u',p4,p5,p6,p7⟩
 ·intro v s' hv hb
  by_cases ev:v = toS I s
  ·rw [if_pos ev] at hb
   cases hb
   rw [if_pos ev]
   by_cases ef:frS I s = toS I s
   ·rw [if_pos ef]; omega
   ·rw [if_neg ef]; omega
  ·rw [if_neg ev] at hb
   obtain ⟨p1,p2⟩:=h.rd v s' hv hb
   rw [if_neg ev]
   by_cases ef:frS I s' = toS I s
   ·rw [if_pos ef]; have:=h.rl v; omega
   ·rw [if_neg ef]; exact ⟨p1,p2⟩
 ·intro v hb
  by_cases ev:v = toS I s
  ·rw [if_pos ev] at hb; cases hb
  ·rw [if_neg ev] at hb ⊢; exact h.r0 v hb
 ·intro v
  split
  ·exact Nat.le_refl _
  ·exact h.rl v
 ·intro v ev
  cases ev
  exact ⟨hto,by simp,h1⟩
 ·intro ev; cases ev
 ·intro s' h2 h3 w hw h4
  by_cases ef:frS I s' = toS I s
  ·rw [if_pos ef] at h4
   split at h4 <;> omega
  ·rw [if_neg ef] at hw h4
   by_cases es:s' = s
   ·subst es
    rw [if_pos rfl]
    rw [hu] at hw; cases hw
    exact ⟨_,rfl,Int.le_refl _⟩
   ·rw [hd,decide_eq_false es,Bool.or_false] at h4
    obtain ⟨c,p1,p2⟩:=h.ok s' h2 h3 w hw h4
    by_cases et:toS I s' = toS I s
    ·rw [if_pos et]
     have:=hless c (by rw [<- et]; exact p1)
     exact ⟨_,rfl,by omega⟩
    ·rw [if_neg et]; exact ⟨c,p1,p2⟩
 ·intro v
  split
  ·exact Nat.lt_succ_self _
  ·have:=h.cl v; omega
theorem BF.next {I:Inst} {cnt:Stp->Bool} {start:Nat->Bool} {r:Nat} {done done':Stp->Bool} {d:Nat->Option Int} {b:Nat->Option Stp} {e:Option Nat} {τ T:Nat->Nat} {t:Nat} (h:BF I cnt start r done d b e τ T t)
    (hd:∀ s,okS I s->done s = true) (hd':∀ s,done' s = false):BF I cnt start (r + 1) done' d b none τ T t :=
  { h with
    rl:=fun v=>Nat.le_succ_of_le (h.rl v)
    la:=fun v ev=>by cases ev
    le:=fun _ v hv=>by have:=h.rl v; omega
    ok:=fun s h1 h2 u hu h3=>h.ok s h1 h2 u hu (by rw [hd s h1]; rw [hd'] at h3; simpa using h3) }
theorem BF.zero {I:Inst} (cnt:Stp->Bool) (start:Nat->Bool) (done:Stp->Bool) {d:Nat->Option Int} (hd:∀ v,v < I.sup.length->d v = if start v then some 0 else none):BF I cnt start 0 done d (fun _=>none) none (fun _=>0) (fun _=>0) 1 where
 st:=fun v hv hs=>⟨0,by rw [hd v hv,if_pos hs],Int.le_refl _⟩
 no:=fun v hv _ c hc=>by
  rw [hd v hv] at hc
  split at hc
  ·rename_i hs; cases hc; exact ⟨hs,rfl⟩
  ·cases hc
 un:=fun _ _=>rfl
 by_:=fun _ _ _ h=>by cases h
 rd:=fun _ _ _ h=>by cases h
 r0:=fun _ _=>rfl
 rl:=fun _=>Nat.le_refl _
 la:=fun _ h=>by cases h
 le:=fun _ _ _=>rfl
 ok:=fun s _ _ u _ h=>by split at h <;> omega
 cl:=fun _=>Nat.zero_lt_one
def z4k (I:Inst) (b:Nat->Option Stp) (v:Nat):Nat->Nat
 | 0=>v
 | k + 1=>match b (z4k I b v k) with
  | some s=>frS I s
  | none=>z4k I b v k
def zgd (I:Inst) (b:Nat->Option Stp) (v:Nat):Nat->Int
 | 0=>0
 | k + 1=>zgd I b v k + (match b (z4k I b v k) with
  | some s=>csS I s
  | none=>0)
theorem backN_lt {I:Inst} (hr:z0a I = 0) {b:Nat->Option Stp} (hb:∀ v s,v < I.sup.length->b v = some s->okS I s) {v:Nat} (hv:v < I.sup.length):∀ k,z4k I b v k < I.sup.length
 | 0=>hv
 | k + 1=>by
  rw [z4k]
  split
  ·rename_i s hs; exact frS_lt hr (hb _ s (backN_lt hr hb hv k) hs)
  ·exact backN_lt hr hb hv k
theorem BF.back {I:Inst} (hr:z0a I = 0) {cnt:Stp->Bool} {start:Nat->Bool} {r:Nat} {done:Stp->Bool} {d:Nat->Option Int} {b:Nat->Option Stp} {e:Option Nat} {τ T:Nat->Nat} {t:Nat} (h:BF I cnt start r done d b e τ T t) {v:Nat} (hv:v < I.sup.length) {c0:Int} (h0:d v = some c0) :
  ∀ k,(∀ i,i < k->∃ s,b (z4k I b v i) = some s)->∃ c,d (z4k I b v k) = some c/\c + zgd I b v k <= c0/\(c + zgd I b v k = c0->∀ i,i < k->T (z4k I b v (i + 1)) < T (z4k I b v i))
 | 0,_=>⟨c0,h0,by rw [zgd]; omega,fun _ i hi=>absurd hi (Nat.not_lt_zero _)⟩
 | k + 1,hk=>by
  obtain ⟨c,p1,p2,p3⟩:=BF.back hr h hv h0 k fun i hi=>hk i (by omega)
  obtain ⟨s,hs⟩:=hk k (by omega)
  have hlt:=backN_lt hr (fun v s hv hb=>(h.by_ v s hv hb).1) hv k
  obtain ⟨q1,q2,q3,c',u,q4,q5,q6,q7⟩:=h.by_ _ s hlt hs
  rw [p1] at q4; cases q4
  have en:z4k I b v (k + 1) = frS I s:=by rw [z4k,hs]
  have ec:zgd I b v (k + 1) = zgd I b v k + csS I s:=by rw [zgd,hs]
  rw [en,ec]
  refine ⟨u,q5,by omega,fun heq i hi=>?_⟩
  by_cases ei:i = k
  ·subst ei
   rw [en]
   apply Nat.lt_of_not_le
   intro hle
   have:=q7 hle; omega
  ·exact p3 (by omega) i (by omega)
theorem BF.cycle {I:Inst} (hr:z0a I = 0) {cnt:Stp->Bool} {start:Nat->Bool} {r:Nat} {done:Stp->Bool} {d:Nat->Option Int} {b:Nat->Option Stp} {e:Option Nat} {τ T:Nat->Nat} {t:Nat} (h:BF I cnt start r done d b e τ T t) {v k:Nat} (hv:v < I.sup.length) (hk:1 <= k)
  (hs:∀ i,i < k->∃ s,b (z4k I b v i) = some s) (hc:z4k I b v k = v):zgd I b v k < 0:=by
 obtain ⟨s,hs0⟩:=hs 0 (by omega)
 obtain ⟨-,-,-,c0,u,h0,-⟩:=h.by_ v s hv hs0
 obtain ⟨c,p1,p2,p3⟩:=h.back hr hv h0 k hs
 rw [hc,h0] at p1; cases p1
 apply Classical.byContradiction
 intro hn
 have hlt:=p3 (by omega)
 have:∀ j,j <= k->T (z4k I b v j) + j <= T v:=by
  intro j
  induction j with
  | zero=>intro _; exact Nat.le_refl _
  | succ j ih =>
   intro hj
   have:=ih (by omega)
   have:=hlt j (by omega)
   omega
 have:=this k (Nat.le_refl _)
 rw [hc] at this
 omega
end Go.Ql
end
section
namespace Go.Ql
open Go Go.Vc
def mbS:Option Stp->List Int
 | some s=>[(s.1:Int),bif s.2 then 1 else 0,1]
 | none=>[0,0,0]
def mbI:Option Int->List Int
 | some c=>[c,1]
 | none=>[0,0]
def bRow (n:Nat) (b:Nat->Option Stp):List (List Int):=(List.range n).map fun v=>mbS (b v)
def dRow (n:Nat) (d:Nat->Option Int):List (List Int):=(List.range n).map fun v=>mbI (d v)
def unS (l:List Int):Option Stp:=if l.getD 2 0 = 1 then some ((l.getD 0 0).toNat,decide (l.getD 1 0 = 1)) else none
def bOf (by_:List (List Int)) (v:Nat):Option Stp:=unS (by_.getD v [])
theorem unS_mbS (o:Option Stp):unS (mbS o) = o:=by
 cases o with
 | none=>rfl
 | some s=>obtain ⟨a,k⟩:=s; cases k <;> simp [unS,mbS]
theorem bOf_row {n v:Nat} (b:Nat->Option Stp) (hv:v < n):bOf (bRow n b) v = b v:=by
 unfold bOf bRow
 rw [List.getD_eq_getElem?_getD,List.getElem?_map,List.getElem?_range hv]
 exact unS_mbS _
theorem walk_take {I:Inst} {b:Nat->Option Stp}:∀ (j f v:Nat),j <= f->z9b I b j v = (z9b I b f v).take j
 | 0,f,v,_=>rfl
 | j + 1,0,v,h=>by omega
 | j + 1,f + 1,v,h=>by
  rw [z9b,z9b]
  cases b v with
  | none=>rfl
  | some s=>dsimp only; rw [List.take_succ_cons,walk_take j f _ (by omega)]
def YB (x:List Int):Prop:=∀ y ∈ x,-144115188075855872 <= y/\y <= 144115188075855872
theorem YB.at {x:List Int} (h:YB x) (k:Nat):-144115188075855872 <= x.getD k 0/\x.getD k 0 <= 144115188075855872:=by
 rw [List.getD_eq_getElem?_getD]
 cases e:x[k]? with
 | none=>exact ⟨by decide,by decide⟩
 | some u=>exact h u (List.mem_of_getElem? e)
theorem YB.xb {x:List Int} (h:YB x):XB x:=fun y hy=>by have:=h y hy; omega
theorem xb_of {x:List Int} (h:∀ k,k < x.length->-288230376151711744 <= x.getD k 0/\x.getD k 0 <= 288230376151711744):XB x:=fun y hy=>by
 obtain ⟨k,hk⟩:=List.mem_iff_getElem?.1 hy
 have:=h k (List.getElem?_eq_some_iff.1 hk).1
 rwa [List.getD_eq_getElem?_getD,hk] at this
theorem yb_of {x:List Int} (h:∀ k,k < x.length->-144115188075855872 <= x.getD k 0/\x.getD k 0 <= 144115188075855872):YB x:=fun y hy=>by
 obtain ⟨k,hk⟩:=List.mem_iff_getElem?.1 hy
 have:=h k (List.getElem?_eq_some_iff.1 hk).1
 rwa [List.getD_eq_getElem?_getD,hk] at this
def alL (I:Inst) (by_:List (List Int)) (e:Int):List Stp:=z9b I (bOf by_) I.sup.length e.toNat
def alR (I:Inst) (by_:List (List Int)) (e:Int):Nat:=rootF I (bOf by_) I.sup.length e.toNat
def alU0 (I:Inst) (o:List Int) (by_:List (List Int)) (e:Int):Int:=min (o.getD (alR I by_ e) 0) (-(o.getD e.toNat 0))
def alU (I:Inst) (x o:List Int) (by_:List (List Int)) (e:Int):Int:=unitsF I x (alU0 I o by_ e) (alL I by_ e)
structure AlOk (I:Inst) (x o:List Int) (by_:List (List Int)) (e:Int):Prop where
 right:z0a I = 0
 lx:x.length = I.arcs.length
 lo:o.length = I.sup.length
 xb:YB x
 ob:YB o
 e0:0 <= e
 e1:e.toNat < I.sup.length
 tree:∃ b ρ,by_ = bRow I.sup.length b/\Tree I b ρ/\∀ v,v < I.sup.length->ρ v < I.sup.length
 pos:0 <= alU I x o by_ e
namespace AlOk
variable {I:Inst} {x o:List Int} {by_:List (List Int)} {e:Int} (h:AlOk I x o by_ e)
include h
theorem tree':∃ ρ,Tree I (bOf by_) ρ/\∀ v,v < I.sup.length->ρ v < I.sup.length:=by
 obtain ⟨b,ρ,rfl,h1,h2⟩:=h.tree
 exact ⟨ρ,fun v s hv hs=>h1 v s hv (by rw [<- bOf_row b hv]; exact hs),h2⟩
theorem mem:∀ s ∈ alL I by_ e,okS I s:=fun s hs=>by
 obtain ⟨ρ,h1,h2⟩:=h.tree'
 exact (walk_mem h.right h1 _ _ h.e1 s hs).1
theorem ub:alU I x o by_ e <= 144115188075855872:=by
 have h1:=(unitsF_le (I:=I) (x:=x) (alL I by_ e) (alU0 I o by_ e)).1
 have h2:=h.ob.at (alR I by_ e)
 unfold alU
 have h3:alU0 I o by_ e <= o.getD (alR I by_ e) 0:=by unfold alU0; omega
 omega
theorem oj (j:Nat) (hj:j <= I.sup.length):(za5 I o ((alL I by_ e).take j) (alU I x o by_ e)).length = I.sup.length/\XB (za5 I o ((alL I by_ e).take j) (alU I x o by_ e)):=by
 obtain ⟨ρ,h1,h2⟩:=h.tree'
 have hu:=h.ub
 have hp:=h.pos
 refine ⟨by rw [zbw,h.lo],xb_of fun k hk=>?_⟩
 have hb:=h.ob.at k
 rw [zbw,h.lo] at hk
 have:(alL I by_ e).take j = z9b I (bOf by_) j e.toNat:=(walk_take j _ _ hj).symm
 rw [this,pushOs_at h.right h1 j e.toNat o h.e1 h.lo k hk]
 repeat' split <;> omega
end AlOk
def DB (I:Inst) (d:Nat->Option Int) (q:Nat):Prop:=∀ C:Int,0 <= C->(∀ s,okS I s->-C <= csS I s/\csS I s <= C)->∀ v c,d v = some c->-(C * (q:Int)) <= c/\c <= C * (q:Int)
def SInv (I:Inst) (cnt:Stp->Bool) (start:Nat->Bool) (r:Nat) (done:Stp->Bool) (q:Nat) (d:Nat->Option Int) (b:Nat->Option Stp) (e:Option Nat):Prop :=
 (∃ τ T t,BF I cnt start r done d b e τ T t)/\DB I d q
def allD:Stp->Bool:=fun _=>true
def z4l (a j:Nat) (s:Stp):Bool:=decide (s.1 < a) || (decide (s.1 = a) && decide ((bif s.2 then 1 else 0) < j))
theorem DB.more {I:Inst} {d:Nat->Option Int} {q q':Nat} (h:DB I d q) (hq:q <= q'):DB I d q':=fun C h0 hC v c hc=>by
 have h1:=h C h0 hC v c hc
 have h2:C * (q:Int) <= C * (q':Int):=Int.mul_le_mul_of_nonneg_left (by omega) h0
 omega
theorem z7f (a:Nat) (k:Bool) (s:Stp):z4l a ((bif k then 1 else 0) + 1) s = (z4l a (bif k then 1 else 0) s || decide (s = (a,k))):=by
 obtain ⟨c,k'⟩:=s
 unfold z4l
 dsimp only
 rw [Bool.eq_iff_iff]
 simp only [Bool.or_eq_true,Bool.and_eq_true,decide_eq_true_eq,Prod.mk.injEq]
 cases k <;> cases k' <;> simp <;> omega
theorem doneJ_two (a:Nat) (s:Stp):z4l a 2 s = z4l (a + 1) 0 s:=by
 obtain ⟨c,k'⟩:=s
 unfold z4l
 dsimp only
 rw [Bool.eq_iff_iff]
 simp only [Bool.or_eq_true,Bool.and_eq_true,decide_eq_true_eq]
 cases k' <;> simp <;> omega
theorem doneJ_zero (s:Stp):z4l 0 0 s = false:=by
 unfold z4l
 simp
theorem doneJ_self (a:Nat) (k:Bool):z4l a (bif k then 1 else 0) (a,k) = false:=by
 unfold z4l
 cases k <;> simp
theorem doneJ_all {I:Inst} {s:Stp} (h:okS I s):z4l I.arcs.length 0 s = true:=by
 unfold z4l okS at *
 simp [h]
theorem SInv.congr {I:Inst} {cnt:Stp->Bool} {start:Nat->Bool} {r:Nat} {done done':Stp->Bool} {q q':Nat} {d:Nat->Option Int} {b:Nat->Option Stp} {e:Option Nat} (h:SInv I cnt start r done q d b e) (hd:∀ s,okS I s->done' s = true->done s = true) (hq:q <= q'):SInv I cnt start r done' q' d b e:=by
 obtain ⟨⟨τ,T,t,h1⟩,h2⟩:=h
 refine ⟨⟨τ,T,t,{ h1 with ok:=fun s a1 a2 u hu a3=>h1.ok s a1 a2 u hu ?_ }⟩,h2.more hq⟩
 cases hs:done' s with
 | true=>rw [hd s a1 hs]; rw [hs] at a3; exact a3
 | false =>
  rw [hs] at a3
  rw [if_neg Bool.false_ne_true] at a3
  split <;> omega
theorem SInv.pass {I:Inst} {cnt:Stp->Bool} {start:Nat->Bool} {r:Nat} {a q:Nat} {k:Bool} {d:Nat->Option Int} {b:Nat->Option Stp} {e:Option Nat} (h:SInv I cnt start r (z4l a (bif k then 1 else 0)) q d b e)
  (hs:cnt (a,k) = true->∀ u,d (frS I (a,k)) = some u->∃ c,d (toS I (a,k)) = some c/\c <= u + csS I (a,k)):SInv I cnt start r (z4l a ((bif k then 1 else 0) + 1)) (q + 1) d b e:=by
 obtain ⟨⟨τ,T,t,h1⟩,h2⟩:=h
 exact ⟨⟨τ,T,t,h1.pass (z7f a k) hs⟩,h2.more (Nat.le_succ _)⟩
theorem SInv.take {I:Inst} (hr:z0a I = 0) {cnt:Stp->Bool} {start:Nat->Bool} {r:Nat} {a q:Nat} {k:Bool} {d:Nat->Option Int} {b:Nat->Option Stp} {e:Option Nat} (h:SInv I cnt start r (z4l a (bif k then 1 else 0)) q d b e)
  (h1:1 <= r) (ha:a < I.arcs.length) (hc:cnt (a,k) = true) {u:Int} (hu:d (frS I (a,k)) = some u) (hless:∀ c,d (toS I (a,k)) = some c->u + csS I (a,k) < c) :
  SInv I cnt start r (z4l a ((bif k then 1 else 0) + 1)) (q + 1) (fun v=>if v = toS I (a,k) then some (u + csS I (a,k)) else d v) (fun v=>if v = toS I (a,k) then some (a,k) else b v) (some (toS I (a,k))):=by
 obtain ⟨⟨τ,T,t,h3⟩,h2⟩:=h
 obtain ⟨τ',T',h4⟩:=h3.take hr (z7f a k) h1 (show okS I (a,k) from ha) hc (doneJ_self a k) hu hless
 refine ⟨⟨τ',T',t + 1,h4⟩,fun C h0 hC v c hv=>?_⟩
 have hcs:=hC (a,k) ha
 have e:C * ((q + 1:Nat):Int) = C * (q:Int) + C:=by rw [Int.natCast_succ,Int.mul_add,Int.mul_one]
 rw [e]
 dsimp only at hv
 split at hv
 ·cases hv
  have:=h2 C h0 hC _ _ hu
  omega
 ·have:=h2 C h0 hC v c hv; omega
theorem SInv.next {I:Inst} {cnt:Stp->Bool} {start:Nat->Bool} {r q:Nat} {d:Nat->Option Int} {b:Nat->Option Stp} {e:Option Nat} (h:SInv I cnt start r allD q d b e):SInv I cnt start (r + 1) (z4l 0 0) q d b none:=by
 obtain ⟨⟨τ,T,t,h1⟩,h2⟩:=h
 exact ⟨⟨τ,T,t,h1.next (fun _ _=>rfl) doneJ_zero⟩,h2⟩
structure ShortP (I:Inst) (cnt:Stp->Bool) (start:Nat->Bool) (d:Nat->Option Int) (b:Nat->Option Stp) (e:Option Nat):Prop where
 inv:∃ r,SInv I cnt start r allD 32768 d b e/\(e = none->1 <= r ∨ I.sup.length = 0)/\(∀ v,e = some v->r = I.sup.length)
end Go.Ql
end
section
namespace Go.Ql
open Go Go.Vc
theorem over_sum {I:Inst} (hr:z0a I = 0) {x o:List Int} (h:OverOf I x o):z1l (fun v=>o.getD v 0) I.sup.length = 0:=by
 have h1:z1l (fun v=>o.getD v 0) I.sup.length = z1l (fun v=>I.sup.getD v 0 - z2v I.sup.length I.arcs x I.arcs.length v) I.sup.length:=z16 h.at_
 rw [h1,z78,netK_sum,<- sum_sumTo,(z3z hr).2]; rfl
theorem posS_sum (o:List Int):∀ k,z1l (fun v=>o.getD v 0) k <= zd6 o k
 | 0=>Int.le_refl _
 | k + 1=>by have:=posS_sum o k; rw [z1l,zd6]; omega
theorem posS_low {o:List Int} {v:Nat}:∀ {k:Nat},v < k->z1l (fun v=>o.getD v 0) k - o.getD v 0 <= zd6 o k
 | 0,h=>by omega
 | k + 1,h=>by
  rw [z1l,zd6]
  by_cases e:v = k
  ·subst e; have:=posS_sum o v; omega
  ·have:=posS_low (o:=o) (v:=v) (k:=k) (by omega); omega
theorem over_bd {I:Inst} (hr:z0a I = 0) {x o:List Int} (h:OverOf I x o) {v:Nat} (hv:v < I.sup.length):-(zd6 o I.sup.length) <= o.getD v 0/\o.getD v 0 <= zd6 o I.sup.length:=by
 have h1:=posS_low (o:=o) hv
 rw [over_sum hr h] at h1
 have h2:=posS_ge (o:=o) hv
 omega
theorem ShortP.by_ {I:Inst} {cnt:Stp->Bool} {start:Nat->Bool} {d:Nat->Option Int} {b:Nat->Option Stp} {e:Option Nat} (h:ShortP I cnt start d b e) {v:Nat} {s:Stp} (hv:v < I.sup.length) (hs:b v = some s):cnt s = true/\toS I s = v/\∃ c u,d v = some c/\d (frS I s) = some u/\u + csS I s <= c:=by
 obtain ⟨r,⟨⟨τ,T,t,hB⟩,hD⟩,h1,h2⟩:=h.inv
 obtain ⟨q1,q2,q3,c,u,q4,q5,q6,q7⟩:=hB.by_ v s hv hs
 exact ⟨q2,q3,c,u,q4,q5,q6⟩
theorem ShortP.no {I:Inst} {cnt:Stp->Bool} {start:Nat->Bool} {d:Nat->Option Int} {b:Nat->Option Stp} {e:Option Nat} (h:ShortP I cnt start d b e) {v:Nat} (hv:v < I.sup.length) (hs:b v = none) {c:Int} (hc:d v = some c):start v = true:=by
 obtain ⟨r,⟨⟨τ,T,t,hB⟩,hD⟩,h1,h2⟩:=h.inv
 exact (hB.no v hv hs c hc).1
theorem ShortP.st {I:Inst} {cnt:Stp->Bool} {start:Nat->Bool} {d:Nat->Option Int} {b:Nat->Option Stp} {e:Option Nat} (h:ShortP I cnt start d b e) {v:Nat} (hv:v < I.sup.length) (hs:start v = true):∃ c,d v = some c:=by
 obtain ⟨r,⟨⟨τ,T,t,hB⟩,hD⟩,h1,h2⟩:=h.inv
 obtain ⟨c,h3,-⟩:=hB.st v hv hs
 exact ⟨c,h3⟩
structure NInv (I:Inst) (x o:List Int) (B:Int):Prop where
 over:OverOf I x o
 betw:Betw I x
 bd:∀ a,a < I.arcs.length->-B <= x.getD a 0/\x.getD a 0 <= B
end Go.Ql
end
