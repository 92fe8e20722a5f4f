/- Part of the proof: FK13, CertOne, Solve, Solve2, Solve3, Solve4, Solve5, Solve6, Solve7, Solve8, Solve9, Solve10, Solve11, Solve12, Solve13, Solve14, Solve15, Solve16, Solve19, Maxi. -/
import Derived.Test.YtapeenpimcffpaaZG7
import Derived.Test.YtapeenpimcffpaaZG8
import Derived.Test.YtapeenpimcffpaaZG5
set_option linter.unusedVariables false
set_option linter.all false
set_option linter.unusedSimpArgs false
set_option maxRecDepth 1000000
section
namespace Go.Proofs.Ytapeenpimcffpaa
open Go Go.RowKit Go.Ql Go.Vc
def z9g (l : List Int) (ty0 : TypeId) : Prop :=
      ∃ (g0:Nat),
 (g0 <= l.length/\((0:Int) = (↑(z2d (List.take g0 l)):Int)/\True/\(↑l.length:Int) = (↑l.length:Int)/\(0:Int) = (↑g0:Int)/\True)/\l = l/\True) /\
 ∀ (g:Nat),
 g <= l.length ->
 (decide ((↑g:Int) < (↑l.length:Int)) = true ->
 ((0:Int) <= (↑g:Int)/\(↑g:Int) < (↑l.length:Int)) /\
 (↑g:Int).toNat < l.length /\
 ∀ (x:Int),
 l[(↑g:Int).toNat]? = some x ->
 ((x == (0:Int)) = true ->
 ∃ (g':Nat),
 g' <= l.length /\
 l.length - g' < l.length - g /\
 (IntKind.i64.wrap ((↑(z2d (List.take g l)):Int) + (1:Int)) = (↑(z2d (List.take g' l)):Int) /\
 True/\(↑l.length:Int) = (↑l.length:Int)/\IntKind.i64.wrap ((↑g:Int) + (1:Int)) = (↑g':Int)/\True) /\
 l = l/\True) /\
 ((x == (0:Int)) = false ->
 ∃ (g':Nat),
 g' <= l.length /\
 l.length - g' < l.length - g /\
 ((↑(z2d (List.take g l)):Int) = (↑(z2d (List.take g' l)):Int) /\
 True/\(↑l.length:Int) = (↑l.length:Int)/\IntKind.i64.wrap ((↑g:Int) + (1:Int)) = (↑g':Int)/\True) /\
 l = l/\True)) /\
 (decide ((↑g:Int) < (↑l.length:Int)) = false->((↑(z2d (List.take g l)):Int) = (↑(z2d l):Int)/\True)/\True)
theorem empty13_q (l:List Int) (ty0:TypeId):z9g l ty0 = z25 TT zdh (empty13_I l) (z9h l) Try.f43 [.row 0] [(0,.row false ty0 (.ints .i64 l))] (zdi l):=by kernel_rfl
theorem empty13_E (l:List Int) (ty0:TypeId) (hp:l.length <= 1000000000):FVc TT zdh (empty13_I l) (z9h l) Try.f43 [.row 0] [(0,.row false ty0 (.ints .i64 l))] (zdi l):=by
 refine FVc.of (z9g l ty0) (empty13_q l ty0) ?_
 unfold z9g
 simp only [eq_self,exists_const,forall_const,decide_eq_true_eq,decide_eq_false_iff_not,and_true,true_and,bne_iff_ne,ne_eq,bne_eq_false_iff_eq,Int.toNat_natCast,Bool.not_eq_true',Bool.not_eq_false',beq_iff_eq,beq_eq_false_iff_ne,z08]
 refine ⟨0,⟨by omega,rfl,rfl⟩,fun g hg=>⟨fun h1=>⟨by omega,by omega,fun x hx=>?_⟩,fun h1=>?_⟩⟩
 ·have hw:IntKind.i64.wrap ((g:Int) + 1) = ((g + 1:Nat):Int):=by rw [w64 (by omega) (by omega)]; omega
  have hz:=zerosF_snoc (l.take g) x
  rw [<- z2a hx] at hz
  have hle:=zerosF_le (l.take g)
  rw [List.length_take] at hle
  refine ⟨fun h2=>⟨g + 1,by omega,by omega,?_,hw⟩,fun h2=>⟨g + 1,by omega,by omega,?_,hw⟩⟩
  ·rw [hz,if_pos h2,w64 (by omega) (by omega)]; omega
  ·rw [hz,if_neg h2]; omega
 ·rw [List.take_of_length_le (by omega)]
theorem empty13_ok:SpecOk Try.prog empty13_n true (z03 true z9i) :=
 z09 z0n (show z18 Try.prog zdh from z04) (by kernel_rfl) mixedOrders Try.func43 rfl rfl (by kernel_rfl) (n:=1) (by decide +kernel) (I:=empty13_IA) (fun _ _=>z06) (A:=empty13_A)
  (fun args h r hr=>by
   unfold z9i at hr
   split at hr
   ·rename_i ty0 l; cases hr; refine ⟨rfl,fun hp=>?_⟩; have hE:=empty13_E l ty0 hp; exact hE
   ·cases hr)
def z8y (c : Cert) (ty0 ty1 ty2 ty3 : TypeId) : Prop :=
      ((c.kind == (1:Int)) = true->(2:Nat) <= (1000000000:Nat)/\(((↑(z2d [(↑c.side.length:Int),(↑c.cycle.length:Int)]):Int) == (2:Int)) = z3g c/\True)/\True) /\
 ((c.kind == (1:Int)) = false ->
 ((c.kind == (2:Int)) = true ->
 (3:Nat) <= (1000000000:Nat)/\(((↑(z2d [(↑c.flow.length:Int),(↑c.pot.length:Int),(↑c.cycle.length:Int)]):Int) == (3:Int)) = z3g c/\True)/\True) /\
 ((c.kind == (2:Int)) = false ->
 ((c.kind == (3:Int)) = true ->
 (2:Nat) <= (1000000000:Nat)/\(((↑(z2d [(↑c.pot.length:Int),(↑c.side.length:Int)]):Int) == (2:Int)) = z3g c/\True)/\True) /\
 ((c.kind == (3:Int)) = false->(false = z3g c/\True)/\True)))
theorem Plain13_q (c:Cert) (ty0 ty1 ty2 ty3:TypeId):z8y c ty0 ty1 ty2 ty3 = z25 TT zc0 (Plain13_I c) (Plain13_an c) Try.f40 [.agg [.int .i64 c.kind,.row 0,.row 1,.row 2,.row 3]] [(0,.row false ty0 (.ints .i64 c.flow)),(1,.row false ty1 (.ints .i64 c.pot)),(2,.row false ty2 (.bools c.side)),(3,.row false ty3 (.ints .i64 c.cycle))] (zc1 c):=by kernel_rfl
theorem Plain13_E (c:Cert) (ty0 ty1 ty2 ty3:TypeId) (hp:True):FVc TT zc0 (Plain13_I c) (Plain13_an c) Try.f40 [.agg [.int .i64 c.kind,.row 0,.row 1,.row 2,.row 3]] [(0,.row false ty0 (.ints .i64 c.flow)),(1,.row false ty1 (.ints .i64 c.pot)),(2,.row false ty2 (.bools c.side)),(3,.row false ty3 (.ints .i64 c.cycle))] (zc1 c):=by
 refine FVc.of (z8y c ty0 ty1 ty2 ty3) (Plain13_q c ty0 ty1 ty2 ty3) ?_
 unfold z8y
 simp only [eq_self,exists_const,forall_const,decide_eq_true_eq,decide_eq_false_iff_not,and_true,true_and,bne_iff_ne,ne_eq,bne_eq_false_iff_eq,Int.toNat_natCast,Bool.not_eq_true',Bool.not_eq_false',beq_iff_eq,beq_eq_false_iff_ne,z08]
 unfold z3g
 have e2:∀ a b:Nat,(((z2d [(a:Int),(b:Int)]:Nat):Int) == 2) = (decide (a = 0) && decide (b = 0)):=fun a b=>by
  rw [z40,z40,zerosF_nil]
  by_cases ha:a = 0 <;> by_cases hb:b = 0 <;> simp [ha,hb]
 have e3:∀ a b c:Nat,(((z2d [(a:Int),(b:Int),(c:Int)]:Nat):Int) == 3) = (decide (a = 0) && decide (b = 0) && decide (c = 0)):=fun a b c=>by
  rw [z40,z40,z40,zerosF_nil]
  by_cases ha:a = 0 <;> by_cases hb:b = 0 <;> by_cases hc:c = 0 <;> simp [ha,hb,hc]
 refine ⟨fun h1=>⟨by omega,by rw [if_pos h1,e2]⟩,fun h1=>⟨fun h2=>⟨by omega,by rw [if_neg h1,if_pos h2,e3]⟩,fun h2=>⟨fun h3=>⟨by omega,by rw [if_neg h1,if_neg h2,if_pos h3,e2]⟩,fun h3=>by rw [if_neg h1,if_neg h2,if_neg h3]⟩⟩⟩
theorem Plain13_ok:SpecOk Try.prog Plain13_n true (z03 true z8z) :=
 z09 z0n (show z18 Try.prog zc0 from z00 empty13_ok (z04)) (by kernel_rfl) mixedOrders Try.func40 rfl rfl (by kernel_rfl) (n:=1) (by decide +kernel) (I:=Plain13_IA) (fun _ _=>z06) (A:=Plain13_A)
  (fun args h r hr=>by
   unfold z8z at hr
   split at hr
   ·rename_i c_k ty0 c_f ty1 c_p ty2 c_s ty3 c_y; cases hr; refine ⟨rfl,fun hp=>?_⟩; have hE:=Plain13_E ⟨c_k,c_f,c_p,c_s,c_y⟩ ty0 ty1 ty2 ty3 hp; exact hE
   ·cases hr)
def z98 (I : Inst) (c : Cert) (ty0 ty1 ty2 ty3 ty4 ty5 : TypeId) : Prop :=
   (I.sup.length <= (10000:Nat)/\I.arcs.length <= (10000:Nat)/\A64 c.flow/\A64 I.sup/\A64 c.pot/\A64c I.arcs)/\(z0y I c.flow c.pot = z0y I c.flow c.pot/\True)/\True
theorem askedC1_q (I:Inst) (c:Cert) (ty0 ty1 ty2 ty3 ty4 ty5:TypeId):z98 I c ty0 ty1 ty2 ty3 ty4 ty5 = z25 TT zcw (askedC1_I I c) (askedC1_an I c) Try.f44 [.agg [.row 0,.row 1],.agg [.int .i64 c.kind,.row 2,.row 3,.row 4,.row 5]] [(0,.row false ty0 (.ints .i64 I.sup)),(1,.row false ty1 (.arcs I.arcs)),(2,.row false ty2 (.ints .i64 c.flow)),(3,.row false ty3 (.ints .i64 c.pot)),(4,.row false ty4 (.bools c.side)),(5,.row false ty5 (.ints .i64 c.cycle))] (zcx I c):=by kernel_rfl
theorem askedC1_E (I:Inst) (c:Cert) (ty0 ty1 ty2 ty3 ty4 ty5:TypeId) (hp:z0m c/\z2h I):FVc TT zcw (askedC1_I I c) (askedC1_an I c) Try.f44 [.agg [.row 0,.row 1],.agg [.int .i64 c.kind,.row 2,.row 3,.row 4,.row 5]] [(0,.row false ty0 (.ints .i64 I.sup)),(1,.row false ty1 (.arcs I.arcs)),(2,.row false ty2 (.ints .i64 c.flow)),(3,.row false ty3 (.ints .i64 c.pot)),(4,.row false ty4 (.bools c.side)),(5,.row false ty5 (.ints .i64 c.cycle))] (zcx I c):=by
 refine FVc.of (z98 I c ty0 ty1 ty2 ty3 ty4 ty5) (askedC1_q I c ty0 ty1 ty2 ty3 ty4 ty5) ?_
 unfold z98
 obtain ⟨c1,c2,c3,c4,c5,c6⟩:=hp.1
 obtain ⟨i1,i2,i3,i4,i5⟩:=hp.2
 simp only [eq_self,exists_const,forall_const,decide_eq_true_eq,decide_eq_false_iff_not,and_true,true_and,bne_iff_ne,ne_eq,bne_eq_false_iff_eq,Int.toNat_natCast,Bool.not_eq_true',Bool.not_eq_false',beq_iff_eq,beq_eq_false_iff_ne,z08]
 exact ⟨i1,i2,c1,i3,c2,i5⟩
theorem askedC1_ok:SpecOk Try.prog askedC1_n true (z03 true z99) :=
 z09 z0n (show z18 Try.prog zcw from z00 Slack_ok (z04)) (by kernel_rfl) mixedOrders Try.func44 rfl rfl (by kernel_rfl) (n:=2) (by decide +kernel) (I:=askedC1_IA) (fun _ _=>z06) (A:=askedC1_A)
  (fun args h r hr=>by
   unfold z99 at hr
   split at hr
   ·rename_i c_k ty0 I_s ty1 I_a ty2 c_f ty3 c_p ty4 c_s ty5 c_y; cases hr; refine ⟨rfl,fun hp=>?_⟩; have hE:=askedC1_E ⟨I_s,I_a⟩ ⟨c_k,c_f,c_p,c_s,c_y⟩ ty0 ty1 ty2 ty3 ty4 ty5 hp; exact hE
   ·cases hr)
def z9a (I : Inst) (c : Cert) (ty0 ty1 ty2 ty3 ty4 ty5 : TypeId) : Prop :=
   (A64a I.arcs/\I.arcs.length <= (140737488351232:Nat)/\A64 I.sup/\I.sup.length <= (140737488351232:Nat))/\(z1r I c.side = z1r I c.side/\True)/\True
theorem askedC2_q (I:Inst) (c:Cert) (ty0 ty1 ty2 ty3 ty4 ty5:TypeId):z9a I c ty0 ty1 ty2 ty3 ty4 ty5 = z25 TT zcy (askedC2_I I c) (askedC2_an I c) Try.f46 [.agg [.row 0,.row 1],.agg [.int .i64 c.kind,.row 2,.row 3,.row 4,.row 5]] [(0,.row false ty0 (.ints .i64 I.sup)),(1,.row false ty1 (.arcs I.arcs)),(2,.row false ty2 (.ints .i64 c.flow)),(3,.row false ty3 (.ints .i64 c.pot)),(4,.row false ty4 (.bools c.side)),(5,.row false ty5 (.ints .i64 c.cycle))] (zcz I c):=by kernel_rfl
theorem askedC2_E (I:Inst) (c:Cert) (ty0 ty1 ty2 ty3 ty4 ty5:TypeId) (hp:z0m c/\z2h I):FVc TT zcy (askedC2_I I c) (askedC2_an I c) Try.f46 [.agg [.row 0,.row 1],.agg [.int .i64 c.kind,.row 2,.row 3,.row 4,.row 5]] [(0,.row false ty0 (.ints .i64 I.sup)),(1,.row false ty1 (.arcs I.arcs)),(2,.row false ty2 (.ints .i64 c.flow)),(3,.row false ty3 (.ints .i64 c.pot)),(4,.row false ty4 (.bools c.side)),(5,.row false ty5 (.ints .i64 c.cycle))] (zcz I c):=by
 refine FVc.of (z9a I c ty0 ty1 ty2 ty3 ty4 ty5) (askedC2_q I c ty0 ty1 ty2 ty3 ty4 ty5) ?_
 unfold z9a
 obtain ⟨c1,c2,c3,c4,c5,c6⟩:=hp.1
 obtain ⟨i1,i2,i3,i4,i5⟩:=hp.2
 simp only [eq_self,exists_const,forall_const,decide_eq_true_eq,decide_eq_false_iff_not,and_true,true_and,bne_iff_ne,ne_eq,bne_eq_false_iff_eq,Int.toNat_natCast,Bool.not_eq_true',Bool.not_eq_false',beq_iff_eq,beq_eq_false_iff_ne,z08]
 exact ⟨i4,by omega,i3,by omega⟩
theorem askedC2_ok:SpecOk Try.prog askedC2_n true (z03 true z9b) :=
 z09 z0n (show z18 Try.prog zcy from z00 Proves_ok (z04)) (by kernel_rfl) mixedOrders Try.func46 rfl rfl (by kernel_rfl) (n:=2) (by decide +kernel) (I:=askedC2_IA) (fun _ _=>z06) (A:=askedC2_A)
  (fun args h r hr=>by
   unfold z9b at hr
   split at hr
   ·rename_i c_k ty0 I_s ty1 I_a ty2 c_f ty3 c_p ty4 c_s ty5 c_y; cases hr; refine ⟨rfl,fun hp=>?_⟩; have hE:=askedC2_E ⟨I_s,I_a⟩ ⟨c_k,c_f,c_p,c_s,c_y⟩ ty0 ty1 ty2 ty3 ty4 ty5 hp; exact hE
   ·cases hr)
def z9c (I : Inst) (c : Cert) (ty0 ty1 ty2 ty3 ty4 ty5 : TypeId) : Prop :=
      (I.sup.length <= (10000:Nat)/\I.arcs.length <= (10000:Nat)/\A64 c.flow/\A64 I.sup) /\
 ((z16 I c.flow != (0:Int)) = true->((z16 I c.flow = if z16 I c.flow ≠ (0:Int) then z16 I c.flow else z1t I c.cycle)/\True)/\True) /\
 ((z16 I c.flow != (0:Int)) = false ->
 (c.cycle.length <= (140737488351232:Nat)/\A64c I.arcs)/\((z1t I c.cycle = if z16 I c.flow ≠ (0:Int) then z16 I c.flow else z1t I c.cycle)/\True)/\True)
theorem askedC3_q (I:Inst) (c:Cert) (ty0 ty1 ty2 ty3 ty4 ty5:TypeId):z9c I c ty0 ty1 ty2 ty3 ty4 ty5 = z25 TT zd0 (askedC3_I I c) (askedC3_an I c) Try.f48 [.agg [.row 0,.row 1],.agg [.int .i64 c.kind,.row 2,.row 3,.row 4,.row 5]] [(0,.row false ty0 (.ints .i64 I.sup)),(1,.row false ty1 (.arcs I.arcs)),(2,.row false ty2 (.ints .i64 c.flow)),(3,.row false ty3 (.ints .i64 c.pot)),(4,.row false ty4 (.bools c.side)),(5,.row false ty5 (.ints .i64 c.cycle))] (zd1 I c):=by kernel_rfl
theorem askedC3_E (I:Inst) (c:Cert) (ty0 ty1 ty2 ty3 ty4 ty5:TypeId) (hp:z0m c/\z2h I):FVc TT zd0 (askedC3_I I c) (askedC3_an I c) Try.f48 [.agg [.row 0,.row 1],.agg [.int .i64 c.kind,.row 2,.row 3,.row 4,.row 5]] [(0,.row false ty0 (.ints .i64 I.sup)),(1,.row false ty1 (.arcs I.arcs)),(2,.row false ty2 (.ints .i64 c.flow)),(3,.row false ty3 (.ints .i64 c.pot)),(4,.row false ty4 (.bools c.side)),(5,.row false ty5 (.ints .i64 c.cycle))] (zd1 I c):=by
 refine FVc.of (z9c I c ty0 ty1 ty2 ty3 ty4 ty5) (askedC3_q I c ty0 ty1 ty2 ty3 ty4 ty5) ?_
 unfold z9c
 obtain ⟨c1,c2,c3,c4,c5,c6⟩:=hp.1
 obtain ⟨i1,i2,i3,i4,i5⟩:=hp.2
 simp only [eq_self,exists_const,forall_const,decide_eq_true_eq,decide_eq_false_iff_not,and_true,true_and,bne_iff_ne,ne_eq,bne_eq_false_iff_eq,Int.toNat_natCast,Bool.not_eq_true',Bool.not_eq_false',beq_iff_eq,beq_eq_false_iff_ne,z08]
 refine ⟨⟨i1,i2,c1,i3⟩,fun h=>by rw [if_pos h],fun h=>⟨⟨c6,i5⟩,by rw [if_neg (fun h2=>h2 h)]⟩⟩
theorem askedC3_ok:SpecOk Try.prog askedC3_n true (z03 true z9d) :=
 z09 z0n (show z18 Try.prog zd0 from z00 Fits_ok (z00 Turns_ok (z04))) (by kernel_rfl) mixedOrders Try.func48 rfl rfl (by kernel_rfl) (n:=2) (by decide +kernel) (I:=askedC3_IA) (fun _ _=>z06) (A:=askedC3_A)
  (fun args h r hr=>by
   unfold z9d at hr
   split at hr
   ·rename_i c_k ty0 I_s ty1 I_a ty2 c_f ty3 c_p ty4 c_s ty5 c_y; cases hr; refine ⟨rfl,fun hp=>?_⟩; have hE:=askedC3_E ⟨I_s,I_a⟩ ⟨c_k,c_f,c_p,c_s,c_y⟩ ty0 ty1 ty2 ty3 ty4 ty5 hp; exact hE
   ·cases hr)
theorem askedC_ok:SpecOk Try.prog askedC_n false zd2 :=
 z3u z0n (show z18 Try.prog askedC_g from z04) (by kernel_rfl) mixedOrders Try.func41 rfl rfl (by kernel_rfl) _
def Check_E0 (I : Inst) (c : Cert) (ty0 ty1 ty2 ty3 ty4 ty5 : TypeId) : Prop :=
      True /\
 ((z0b I != (0:Int)) = true->(z0b I = z14 I c/\True)/\True) /\
 ((z0b I != (0:Int)) = false ->
 True /\
 ((!z3g { kind:=c.kind,flow:=c.flow,pot:=c.pot,side:=c.side,cycle:=c.cycle:Cert }) = true->((36:Int) = z14 I c/\True)/\True) /\
 ((!z3g { kind:=c.kind,flow:=c.flow,pot:=c.pot,side:=c.side,cycle:=c.cycle:Cert }) = false ->
 ((∀ (p:List Int × Int),
 List.Mem p
 (mput (mput (mput [] [(1:Int)] ((↑(44:Nat):Int) + (1:Int))) [(2:Int)] ((↑(46:Nat):Int) + (1:Int))) [(3:Int)]
 ((↑(48:Nat):Int) + (1:Int))) ->
 (0:Int) < p.snd) /\
 ([c.kind] = [(1:Int)] ->
 (z0m { kind:=c.kind,flow:=c.flow,pot:=c.pot,side:=c.side,cycle:=c.cycle:Cert }/\z2h I) /\
 (z0y I c.flow c.pot = z14 I c/\True)/\True) /\
 ([c.kind] ≠ [(1:Int)] ->
 ([c.kind] = [(2:Int)] ->
 (z0m { kind:=c.kind,flow:=c.flow,pot:=c.pot,side:=c.side,cycle:=c.cycle:Cert }/\z2h I) /\
 (z1r I c.side = z14 I c/\True)/\True) /\
 ([c.kind] ≠ [(2:Int)] ->
 ([c.kind] = [(3:Int)] ->
 (z0m { kind:=c.kind,flow:=c.flow,pot:=c.pot,side:=c.side,cycle:=c.cycle:Cert }/\z2h I) /\
 ((if z16 I c.flow ≠ (0:Int) then z16 I c.flow else z1t I c.cycle) = z14 I c/\True)/\True) /\
 ([c.kind] ≠ [(3:Int)]->((36:Int) = z14 I c/\True)/\True)))) /\
 (∀ (p:List Int × Int),
 List.Mem p
 (mput (mput (mput [] [(1:Int)] ((↑(44:Nat):Int) + (1:Int))) [(2:Int)] ((↑(46:Nat):Int) + (1:Int))) [(3:Int)]
 ((↑(48:Nat):Int) + (1:Int))) ->
 (0:Int) < p.snd) /\
 ([c.kind] = [(1:Int)] ->
 (z0m { kind:=c.kind,flow:=c.flow,pot:=c.pot,side:=c.side,cycle:=c.cycle:Cert }/\z2h I) /\
 (z0y I c.flow c.pot = z14 I c/\True)/\True) /\
 ([c.kind] ≠ [(1:Int)] ->
 ([c.kind] = [(2:Int)] ->
 (z0m { kind:=c.kind,flow:=c.flow,pot:=c.pot,side:=c.side,cycle:=c.cycle:Cert }/\z2h I) /\
 (z1r I c.side = z14 I c/\True)/\True) /\
 ([c.kind] ≠ [(2:Int)] ->
 ([c.kind] = [(3:Int)] ->
 (z0m { kind:=c.kind,flow:=c.flow,pot:=c.pot,side:=c.side,cycle:=c.cycle:Cert }/\z2h I) /\
 ((if z16 I c.flow ≠ (0:Int) then z16 I c.flow else z1t I c.cycle) = z14 I c/\True)/\True) /\
 ([c.kind] ≠ [(3:Int)]->((36:Int) = z14 I c/\True)/\True)))))
theorem Check_q (I:Inst) (c:Cert) (ty0 ty1 ty2 ty3 ty4 ty5:TypeId):Check_E0 I c ty0 ty1 ty2 ty3 ty4 ty5 = z25 TT Check_g (Check_I I c) (Check_an I c) Try.f37 [.agg [.row 0,.row 1],.agg [.int .i64 c.kind,.row 2,.row 3,.row 4,.row 5]] [(0,.row false ty0 (.ints .i64 I.sup)),(1,.row false ty1 (.arcs I.arcs)),(2,.row false ty2 (.ints .i64 c.flow)),(3,.row false ty3 (.ints .i64 c.pot)),(4,.row false ty4 (.bools c.side)),(5,.row false ty5 (.ints .i64 c.cycle))] (Check_r I c):=by kernel_rfl
theorem Check_E (I:Inst) (c:Cert) (ty0 ty1 ty2 ty3 ty4 ty5:TypeId) (hp:z0m c/\z2h I):FVc TT Check_g (Check_I I c) (Check_an I c) Try.f37 [.agg [.row 0,.row 1],.agg [.int .i64 c.kind,.row 2,.row 3,.row 4,.row 5]] [(0,.row false ty0 (.ints .i64 I.sup)),(1,.row false ty1 (.arcs I.arcs)),(2,.row false ty2 (.ints .i64 c.flow)),(3,.row false ty3 (.ints .i64 c.pot)),(4,.row false ty4 (.bools c.side)),(5,.row false ty5 (.ints .i64 c.cycle))] (Check_r I c):=by
 refine FVc.of (Check_E0 I c ty0 ty1 ty2 ty3 ty4 ty5) (Check_q I c ty0 ty1 ty2 ty3 ty4 ty5) ?_
 unfold Check_E0
 obtain ⟨c1,c2,c3,c4,c5,c6⟩:=hp.1
 have hc:z0m ⟨c.kind,c.flow,c.pot,c.side,c.cycle⟩:=hp.1
 have mem:∀ x y z:Nat,∀ p:List Int × Int,List.Mem p (mput (mput (mput [] [1] ((x:Int) + 1)) [2] ((y:Int) + 1)) [3] ((z:Int) + 1))->0 < p.2:=fun x y z p hp=>by
  have h:p ∈ [([(1:Int)],(x:Int) + 1),([2],(y:Int) + 1),([3],(z:Int) + 1)]:=hp
  simp only [List.mem_cons,List.not_mem_nil,or_false] at h
  rcases h with rfl | rfl | rfl <;> dsimp only <;> omega
 refine ⟨trivial,fun h=>⟨?_,trivial⟩,fun h=>⟨trivial,fun h2=>⟨?_,trivial⟩,fun h2=>?_⟩⟩
 ·have h3:¬ z0b I = 0:=by simpa using h
  unfold z14; rw [if_pos h3]; exact ⟨rfl,trivial⟩
 ·have h3:z0b I = 0:=by simpa using h
  have h4:z3g c = false:=by simpa using h2
  unfold z14; rw [if_neg (fun h5=>h5 h3),if_pos h4]; exact ⟨rfl,trivial⟩
 ·have h3:z0b I = 0:=by simpa using h
  have h4:z3g c = true:=by simpa using h2
  have e0:z14 I c = if c.kind = 1 then z0y I c.flow c.pot else if c.kind = 2 then z1r I c.side else if z16 I c.flow ≠ 0 then z16 I c.flow else z1t I c.cycle:=by
   unfold z14; rw [if_neg (fun h5=>h5 h3),if_neg (by rw [h4]; simp)]
  have hk:=z7f h4
  have f1:([c.kind] = [(1:Int)]->(z0m c/\z2h I)/\(z0y I c.flow c.pot = z14 I c/\True)/\True):=fun h=>by
   have h:c.kind = 1:=by simpa using h
   exact ⟨hp,⟨by rw [e0,if_pos h],trivial⟩,trivial⟩
  have f2:[c.kind] ≠ [(1:Int)]->([c.kind] = [(2:Int)]->(z0m c/\z2h I)/\(z1r I c.side = z14 I c/\True)/\True):=fun _ h=>by
   have h:c.kind = 2:=by simpa using h
   exact ⟨hp,⟨by rw [e0,if_neg (by omega),if_pos h],trivial⟩,trivial⟩
  have f3:[c.kind] ≠ [(2:Int)]->([c.kind] = [(3:Int)]->(z0m c/\z2h I)/\((if z16 I c.flow ≠ (0:Int) then z16 I c.flow else z1t I c.cycle) = z14 I c/\True)/\True):=fun _ h=>by
   have h:c.kind = 3:=by simpa using h
   exact ⟨hp,⟨by rw [e0,if_neg (show ¬ c.kind = 1 by omega),if_neg (show ¬ c.kind = 2 by omega)],trivial⟩,trivial⟩
  have f4:[c.kind] ≠ [(1:Int)]->[c.kind] ≠ [(2:Int)]->[c.kind] ≠ [(3:Int)]->((36:Int) = z14 I c/\True)/\True:=fun g1 g2 g3=>by
   rcases hk with h | h | h
   ·exact absurd (by rw [h]) g1
   ·exact absurd (by rw [h]) g2
   ·exact absurd (by rw [h]) g3
  exact ⟨⟨mem _ _ _,f1,fun g1=>⟨f2 g1,fun g2=>⟨f3 g2,fun g3=>f4 g1 g2 g3⟩⟩⟩,mem _ _ _,f1,fun g1=>⟨f2 g1,fun g2=>⟨f3 g2,fun g3=>f4 g1 g2 g3⟩⟩⟩
theorem Check_ok:SpecOk Try.prog Check_n true (z03 true z7r) :=
 z09 z0n (show z18 Try.prog Check_g from z00 z7v (z00 Plain13_ok (z00 askedC_ok (z00 askedC1_ok (z00 askedC2_ok (z00 askedC3_ok (z04))))))) (by kernel_rfl) mixedOrders Try.func37 rfl rfl (by kernel_rfl) (n:=2) (by decide +kernel) (I:=Check_IA) (fun _ _=>z06) (A:=Check_A)
  (fun args h r hr=>by
   unfold z7r at hr
   split at hr
   ·rename_i c_k ty0 I_s ty1 I_a ty2 c_f ty3 c_p ty4 c_s ty5 c_y; cases hr; refine ⟨rfl,fun hp=>?_⟩; have hE:=Check_E ⟨I_s,I_a⟩ ⟨c_k,c_f,c_p,c_s,c_y⟩ ty0 ty1 ty2 ty3 ty4 ty5 hp; exact hE
   ·cases hr)
end Go.Proofs.Ytapeenpimcffpaa
end
section
namespace Go.Ql
open Go Go.Vc
theorem z3l {I:Inst} {c:Cert} (h:z14 I c = 0):z0b I = 0/\z3g c = true/\(c.kind = 1/\z0y I c.flow c.pot = 0 ∨ c.kind = 2/\z1r I c.side = 0 ∨ c.kind = 3/\z16 I c.flow = 0/\z1t I c.cycle = 0):=by
 unfold z14 at h
 by_cases h1:z0b I = 0
 ·rw [if_neg (fun h2=>h2 h1)] at h
  cases hp:z3g c with
  | false=>rw [hp] at h; simp at h
  | true =>
   rw [hp] at h
   simp only [Bool.true_eq_false,if_false] at h
   refine ⟨h1,rfl,?_⟩
   rcases z7f hp with hk | hk | hk
   ·left; rw [if_pos hk] at h; exact ⟨hk,h⟩
   ·right; left; rw [if_neg (by omega),if_pos hk] at h; exact ⟨hk,h⟩
   ·right; right
    rw [if_neg (by omega),if_neg (by omega)] at h
    refine ⟨hk,?_⟩
    by_cases hf:z16 I c.flow = 0
    ·rw [if_neg (fun h2=>h2 hf)] at h; exact ⟨hf,h⟩
    ·rw [if_pos hf] at h; exact absurd h hf
 ·rw [if_pos h1] at h; exact absurd h h1
theorem z4o {I:Inst} {x pot:List Int} (h:z0y I x pot = 0):z16 I x = 0/\pot.length = I.sup.length/\∀ k,k < I.arcs.length->z3b I x pot k = true:=by
 unfold z0y at h
 by_cases h1:z16 I x = 0
 ·rw [if_neg (fun h2=>h2 h1)] at h
  by_cases h2:pot.length = I.sup.length
  ·rw [if_neg (fun h3=>h3 h2)] at h
   refine ⟨h1,h2,fun k hk=>?_⟩
   split at h
   ·rename_i h3; exact List.all_eq_true.1 h3 k (List.mem_range.2 hk)
   ·omega
  ·rw [if_pos h2] at h; omega
 ·rw [if_pos h1] at h; exact absurd h h1
theorem turns_zero {I:Inst} {l:List Int} (h:z1t I l = 0):z0b I = 0/\0 < l.length/\l.length <= I.arcs.length/\c1F I l = true/\c2F l = true/\c3F I l = true/\c4F I l = true/\c5F I l = true:=by
 unfold z1t at h
 by_cases h1:z0b I = 0
 ·rw [if_neg (fun h2=>h2 h1)] at h
  by_cases h2:l.length = 0 ∨ I.arcs.length < l.length
  ·rw [if_pos h2] at h; omega
  ·rw [if_neg h2] at h
   split at h
   ·rename_i h3
    simp only [Bool.and_eq_true] at h3
    exact ⟨h1,by omega,by omega,h3.1.1.1.1,h3.1.1.1.2,h3.1.1.2,h3.1.2,h3.2⟩
   ·omega
 ·rw [if_pos h1] at h; exact absurd h h1
theorem potR_I64 {pot:List Int} (h:A64 pot) (n:Int):I64 (potR pot n):=by
 unfold potR
 split
 ·exact h.getD _
 ·unfold I64; omega
theorem redP_I128 {I:Inst} {pot:List Int} (hr:z0b I = 0) (hp:A64 pot) {a:Arc} (ha:a ∈ I.arcs):zax (redP pot a):=by
 have h1:=potR_I64 hp a.src
 have h2:=potR_I64 hp a.dst
 have h3:=z19 hr ha
 unfold redP redA zax
 unfold I64 at h1 h2
 omega
theorem rayK_bd {I:Inst} (hr:z0b I = 0) (l:List Int):∀ k:Nat,-(4398046511104 * (k:Int)) <= z8p I l k/\z8p I l k <= 4398046511104 * (k:Int)
 | 0=>by simp [z8p]
 | k + 1=>by
  have ih:=rayK_bd hr l k
  have hd:-4398046511104 <= rayD I (l.getD k 0)/\rayD I (l.getD k 0) <= 4398046511104:=by
   unfold rayD
   split
   ·rename_i h
    obtain ⟨h1,h2⟩:=isArcF_iff.1 h
    obtain ⟨a,ha⟩:∃ a,I.arcs[(l.getD k 0).toNat]? = some a:=⟨_,List.getElem?_eq_getElem (by omega)⟩
    rw [z3o ha]
    have:=z19 hr (List.mem_of_getElem? ha)
    omega
   ·omega
  rw [z8p]
  push_cast
  omega
theorem no_both {I:Inst} {x pot l:List Int} (hp:A64 pot) (hs:z0y I x pot = 0) (ht:z1t I l = 0):False:=by
 obtain ⟨hr,hl0,hl1,c1,c2,c3,c4,c5⟩:=turns_zero ht
 obtain ⟨hf,hpl,hk⟩:=z4o hs
 have hrs:=z11 hr
 let P:Nat->Int:=fun k=>potR pot (z6m I (l.getD k 0)).src
 have step:∀ k,k < l.length->0 <= rayD I (l.getD k 0) - P k + P ((k + 1) % l.length):=fun k hkl=>by
  have hx:l[k]? = some (l.getD k 0):=by rw [List.getD_eq_getElem?_getD,List.getElem?_eq_getElem hkl]; rfl
  have hm:=List.mem_of_getElem? hx
  generalize hy:l.getD k 0 = y at *
  have h1:=List.all_eq_true.1 c1 y hm
  obtain ⟨y0,y1⟩:=isArcF_iff.1 h1
  obtain ⟨a,ha⟩:∃ a,I.arcs[y.toNat]? = some a:=⟨_,List.getElem?_eq_getElem (by omega)⟩
  have hma:=List.mem_of_getElem? ha
  have hat:=z3o (x:=y) ha
  have hcap:a.cap = inf:=by
   have:=List.all_eq_true.1 c4 y hm
   rw [hat] at this
   exact of_decide_eq_true this
  have hlink:(z6m I y).dst = (z6m I (l.getD ((k + 1) % l.length) 0)).src:=by
   have:=List.all_eq_true.1 c3 k (List.mem_range.2 hkl)
   unfold linkF at this
   rw [hy] at this
   exact of_decide_eq_true this
  have hsk:=hk y.toNat (by omega)
  unfold z3b at hsk
  rw [redF_at ha (z19 hr hma).1,show I.arcs.getD y.toNat default = a by rw [List.getD_eq_getElem?_getD,ha]; rfl] at hsk
  have h2:¬ sgn (redP pot a) < 0:=fun h3=>by
   unfold z49 at hsk
   simp [h3,hcap] at hsk
  have h3:0 <= redP pot a:=by
   apply Classical.byContradiction
   intro h4
   exact h2 ((sgn_neg (redP_I128 hr hp hma)).2 (by omega))
  unfold redP redA at h3
  have e1:rayD I y = a.cost:=by unfold rayD; rw [h1,hat]; rfl
  have e2:P k = potR pot a.src:=by show potR pot (z6m I (l.getD k 0)).src = _; rw [hy,hat]
  have e3:P ((k + 1) % l.length) = potR pot a.dst:=by show potR pot (z6m I (l.getD ((k + 1) % l.length) 0)).src = _; rw [<- hlink,hat]
  rw [e1,e2,e3]
  exact h3
 have sums:∀ t,t <= l.length->0 <= z8p I l t + z1b (fun k=>P ((k + 1) % l.length) - P k) t:=fun t=>by
  induction t with
  | zero=>intro _; simp [z8p,z1b]
  | succ t ih =>
   intro h
   have h1:=ih (by omega)
   have h2:=step t (by omega)
   rw [z8p,z1b]
   omega
 have h1:=sums l.length (Nat.le_refl _)
 rw [round_zero P l.length (Nat.le_refl _) hl0,Nat.mod_self] at h1
 have h2:=rayK_bd hr l l.length
 unfold c5F rayS at c5
 have h3:=of_decide_eq_true c5
 rw [zes (by unfold zax; omega) (by unfold zax; omega)] at h3
 have h4:¬ z8p I l l.length < 0:=by omega
 rw [if_neg h4] at h3
 split at h3 <;> omega
theorem cost_one {I:Inst} {x y p q:List Int} (hx:A64 x) (hy:A64 y) (hp:A64 p) (hq:A64 q) (h1:z0y I x p = 0) (h2:z0y I y q = 0):costF I x = costF I y:=by
 obtain ⟨f1,-,-⟩:=z4o h1
 obtain ⟨f2,-,-⟩:=z4o h2
 have hr:=(fitsF_iff.1 f1).1
 have a:=slack_best hy hx hp h1 f2
 have b:=slack_best hx hy hq h2 f1
 rw [zes (z4i hr hx) (z4i hr hy)] at a
 rw [zes (z4i hr hy) (z4i hr hx)] at b
 split at a <;> split at b <;> (try split at a) <;> (try split at b) <;> omega
theorem cert_one {I:Inst} {x y:Cert} (hx:z0m x) (hy:z0m y) (h1:z14 I x = 0) (h2:z14 I y = 0):x.kind = y.kind/\zan I x = zan I y:=by
 obtain ⟨hr,-,k1⟩:=z3l h1
 obtain ⟨-,-,k2⟩:=z3l h2
 have hrs:=z11 hr
 have hw:=(z39 hr).1
 have none_:∀ {s:List Bool} {f:List Int},A64 f->z1r I s = 0->z16 I f = 0->False:=fun hf h3 h4=>proves_none (by omega) (by omega) hf hw h3 h4
 rcases k1 with ⟨a1,b1⟩ | ⟨a1,b1⟩ | ⟨a1,b1,d1⟩ <;> rcases k2 with ⟨a2,b2⟩ | ⟨a2,b2⟩ | ⟨a2,b2,d2⟩
 ·refine ⟨by omega,?_⟩
  unfold zan; rw [if_pos a1,if_pos a2,cost_one hx.1 hy.1 hx.2.1 hy.2.1 b1 b2]
 ·exact (none_ hx.1 b2 (z4o b1).1).elim
 ·exact (no_both hx.2.1 b1 d2).elim
 ·exact (none_ hy.1 b1 (z4o b2).1).elim
 ·refine ⟨by omega,?_⟩
  unfold zan; rw [if_neg (by omega),if_neg (by omega)]
 ·exact (none_ hy.1 b1 b2).elim
 ·exact (no_both hy.2.1 b2 d1).elim
 ·exact (none_ hx.1 b2 b1).elim
 ·refine ⟨by omega,?_⟩
  unfold zan; rw [if_neg (by omega),if_neg (by omega)]
end Go.Ql
end
section
namespace Go.Ql
open Go Go.Vc
abbrev Stp:=Nat × Bool
def z4q (I:Inst) (a:Nat):Arc:=I.arcs.getD a default
def frS (I:Inst) (s:Stp):Nat:=if s.2 then (z4q I s.1).dst.toNat else (z4q I s.1).src.toNat
def toS (I:Inst) (s:Stp):Nat:=if s.2 then (z4q I s.1).src.toNat else (z4q I s.1).dst.toNat
def csS (I:Inst) (s:Stp):Int:=if s.2 then -(z4q I s.1).cost else (z4q I s.1).cost
def rmS (I:Inst) (x:List Int) (s:Stp):Int:=if s.2 then x.getD s.1 0 - (z4q I s.1).low else if (z4q I s.1).cap = inf then 1152921504606846976 else (z4q I s.1).cap - x.getD s.1 0
def okS (I:Inst) (s:Stp):Prop:=s.1 < I.arcs.length
def z9y (x:List Int) (s:Stp) (u:Int):List Int:=x.set s.1 (x.getD s.1 0 + (if s.2 then -u else u))
def zas (I:Inst) (o:List Int) (s:Stp) (u:Int):List Int:=addAt (addAt o (frS I s) (-u)) (toS I s) u
theorem arcN_get {I:Inst} {a:Nat} {y:Arc} (h:I.arcs[a]? = some y):z4q I a = y:=by unfold z4q; rw [List.getD_eq_getElem?_getD,h]; rfl
theorem arcN_mem {I:Inst} {a:Nat} (h:a < I.arcs.length):I.arcs[a]? = some (z4q I a)/\z4q I a ∈ I.arcs:=by
 have e:I.arcs[a]? = some (z4q I a):=by unfold z4q; rw [List.getD_eq_getElem?_getD,List.getElem?_eq_getElem h]; rfl
 exact ⟨e,List.mem_of_getElem? e⟩
structure ArcOk (n:Nat) (y:Arc):Prop where
 s0:0 <= y.src
 s1:y.src.toNat < n
 d0:0 <= y.dst
 d1:y.dst.toNat < n
 l0:0 <= y.low
 l1:y.low <= 4398046511104
 c:y.cap = inf ∨ y.low <= y.cap/\y.cap <= 4398046511104
 k0:-4398046511104 <= y.cost
 k1:y.cost <= 4398046511104
theorem z4v {I:Inst} (hr:z0b I = 0) {a:Nat} (h:a < I.arcs.length):ArcOk I.sup.length (z4q I a):=by
 have hm:=z19 hr (arcN_mem h).2
 obtain ⟨p1,p2,p3,p4⟩:=okArc_iff.1 hm.1
 exact ⟨p1,by omega,p3,by omega,hm.2.1.1,hm.2.1.2.1,hm.2.1.2.2,hm.2.2.1,hm.2.2.2⟩
theorem frS_lt {I:Inst} (hr:z0b I = 0) {s:Stp} (h:okS I s):frS I s < I.sup.length:=by
 have:=z4v hr h
 unfold frS; split
 ·exact this.d1
 ·exact this.s1
theorem toS_lt {I:Inst} (hr:z0b I = 0) {s:Stp} (h:okS I s):toS I s < I.sup.length:=by
 have:=z4v hr h
 unfold toS; split
 ·exact this.s1
 ·exact this.d1
theorem flip_ends (I:Inst) (a:Nat) (b:Bool):frS I (a,!b) = toS I (a,b)/\toS I (a,!b) = frS I (a,b)/\csS I (a,!b) = -csS I (a,b):=by
 cases b <;> simp [frS,toS,csS]
structure OverOf (I:Inst) (x o:List Int):Prop where
 lo:o.length = I.sup.length
 lx:x.length = I.arcs.length
 at_:∀ v:Nat,v < I.sup.length->o.getD v 0 = I.sup.getD v 0 - z6o I.sup.length I.arcs x I.arcs.length v
theorem pushX_len (x:List Int) (s:Stp) (u:Int):(z9y x s u).length = x.length:=by simp [z9y]
theorem zef (I:Inst) (o:List Int) (s:Stp) (u:Int):(zas I o s u).length = o.length:=by simp [zas,z3n]
theorem z8a {I:Inst} {o:List Int} {s:Stp} {u:Int} {v:Nat} (hv:v < o.length):(zas I o s u).getD v 0 = o.getD v 0 - (if frS I s = v then u else 0) + (if toS I s = v then u else 0):=by
 unfold zas
 rw [addAt_getD _ _ _ _ (by rw [z3n]; exact hv),addAt_getD _ _ _ _ hv]
 split <;> split <;> omega
theorem z6h {x:List Int} {s:Stp} {u:Int} {a:Nat} (h:s.1 < x.length):(z9y x s u).getD a 0 = x.getD a 0 + (if a = s.1 then (if s.2 then -u else u) else 0):=by
 unfold z9y; exact zab h _ a
theorem flowD_step {I:Inst} (hr:z0b I = 0) {s:Stp} (h:okS I s) (u:Int) (v:Nat):z3i I.sup.length (z4q I s.1) (if s.2 then -u else u) v = (if frS I s = v then u else 0) - (if toS I s = v then u else 0):=by
 have ok:=z4v hr h
 have h1:=ok.s0; have h2:=ok.d0; have h3:=ok.s1; have h4:=ok.d1
 have ho:z2g I.sup.length (z4q I s.1) = true:=okArc_iff.2 ⟨h1,by omega,h2,by omega⟩
 unfold z3i frS toS
 rw [ho,if_pos rfl]
 have e1:((z4q I s.1).src = (v:Int)) ↔ (z4q I s.1).src.toNat = v:=by omega
 have e2:((z4q I s.1).dst = (v:Int)) ↔ (z4q I s.1).dst.toNat = v:=by omega
 cases s.2
 ·simp only [Bool.false_eq_true,if_false,e1,e2]
 ·simp only [if_true,e1,e2]
  split <;> split <;> omega
theorem OverOf.push {I:Inst} (hr:z0b I = 0) {x o:List Int} (h:OverOf I x o) {s:Stp} (hs:okS I s) (u:Int):OverOf I (z9y x s u) (zas I o s u):=by
 refine ⟨by rw [zef]; exact h.lo,by rw [pushX_len]; exact h.lx,fun v hv=>?_⟩
 have hx:s.1 < x.length:=by rw [h.lx]; exact hs
 rw [z8a (by rw [h.lo]; exact hv),h.at_ v hv]
 have:=netK_set (n:=I.sup.length) (l:=I.arcs) (x:=x) (v:=v) hx (if s.2 then -u else u) I.arcs.length
 unfold z9y
 rw [this,if_pos (show s.1 < I.arcs.length from hs)]
 have:=flowD_step hr hs u v
 unfold z4q at this
 rw [this]
 omega
def Betw (I:Inst) (x:List Int):Prop:=∀ a,a < I.arcs.length->(z4q I a).low <= x.getD a 0/\((z4q I a).cap = inf ∨ x.getD a 0 <= (z4q I a).cap)
theorem Betw.room {I:Inst} (hr:z0b I = 0) {x:List Int} (h:Betw I x) {s:Stp} (hs:okS I s):0 <= rmS I x s:=by
 have:=h s.1 hs
 have ok:=z4v hr hs
 unfold rmS
 split
 ·omega
 ·split
  ·omega
  ·rename_i h2
   rcases this.2 with h3 | h3
   ·exact absurd h3 h2
   ·omega
theorem betw_push {I:Inst} {x:List Int} (h:Betw I x) (hl:x.length = I.arcs.length) {s:Stp} (hs:okS I s) {u:Int} (h0:0 <= u) (h1:u <= rmS I x s):Betw I (z9y x s u):=fun a ha=>by
 have hx:s.1 < x.length:=by rw [hl]; exact hs
 rw [z6h hx]
 have hb:=h a ha
 by_cases e:a = s.1
 ·subst e
  rw [if_pos rfl]
  unfold rmS at h1
  cases hb2:s.2 with
  | true =>
   rw [hb2,if_pos rfl] at h1
   simp only [if_true]
   exact ⟨by omega,hb.2.imp id (by omega)⟩
  | false =>
   rw [hb2,if_neg Bool.false_ne_true] at h1
   simp only [Bool.false_eq_true,if_false]
   refine ⟨by omega,?_⟩
   by_cases hc:(z4q I s.1).cap = inf
   ·exact .inl hc
   ·rw [if_neg hc] at h1; exact .inr (by omega)
 ·rw [if_neg e]; simpa using hb
def z7o (I:Inst) (b:Nat->Option Stp):Nat->Nat->List Stp
 | 0,_=>[]
 | f + 1,v=>match b v with
  | none=>[]
  | some s=>s :: z7o I b f (frS I s)
def rootF (I:Inst) (b:Nat->Option Stp):Nat->Nat->Nat
 | 0,v=>v
 | f + 1,v=>match b v with
  | none=>v
  | some s=>rootF I b f (frS I s)
def Tree (I:Inst) (b:Nat->Option Stp) (ρ:Nat->Nat):Prop:=∀ v s,v < I.sup.length->b v = some s->okS I s/\toS I s = v/\ρ (frS I s) < ρ v
theorem walk_mem {I:Inst} {b:Nat->Option Stp} {ρ:Nat->Nat} (hr:z0b I = 0) (h:Tree I b ρ):∀ (f v:Nat),v < I.sup.length->∀ s ∈ z7o I b f v,okS I s/\b (toS I s) = some s/\ρ (toS I s) <= ρ v/\ρ (frS I s) < ρ (toS I s)
 | 0,v,_,s,hs=>by simp [z7o] at hs
 | f + 1,v,hv,s,hs=>by
  rw [z7o] at hs
  cases hb:b v with
  | none=>rw [hb] at hs; simp at hs
  | some t =>
   rw [hb] at hs
   obtain ⟨h1,h2,h3⟩:=h v t hv hb
   rcases List.mem_cons.1 hs with rfl | hs
   ·exact ⟨h1,by rw [h2]; exact hb,by rw [h2]; exact Nat.le_refl _,by rw [h2]; exact h3⟩
   ·obtain ⟨i1,i2,i3,i4⟩:=walk_mem hr h f (frS I t) (frS_lt hr h1) s hs
    exact ⟨i1,i2,by omega,i4⟩
def unitsF (I:Inst) (x:List Int) (u:Int) (l:List Stp):Int:=l.foldl (fun u s=>min u (rmS I x s)) u
theorem unitsF_le {I:Inst} {x:List Int}:∀ (l:List Stp) (u:Int),unitsF I x u l <= u/\∀ s ∈ l,unitsF I x u l <= rmS I x s
 | [],u=>⟨Int.le_refl _,fun s h=>by simp at h⟩
 | t :: l,u=>by
  obtain ⟨i1,i2⟩:=unitsF_le (I:=I) (x:=x) l (min u (rmS I x t))
  have e:unitsF I x u (t :: l) = unitsF I x (min u (rmS I x t)) l:=rfl
  rw [e]
  refine ⟨by omega,fun s hs=>?_⟩
  rcases List.mem_cons.1 hs with rfl | hs
  ·omega
  ·exact i2 s hs
def z8b (I:Inst) (o:List Int) (l:List Stp) (u:Int):List Int:=l.foldl (fun o s=>zas I o s u) o
theorem z9x (I:Inst) (u:Int):∀ (l:List Stp) (o:List Int),(z8b I o l u).length = o.length
 | [],o=>rfl
 | s :: l,o=>by show (z8b I (zas I o s u) l u).length = _; rw [z9x I u l,zef]
theorem pushOs_at {I:Inst} {b:Nat->Option Stp} {ρ:Nat->Nat} (hr:z0b I = 0) (h:Tree I b ρ) {u:Int}:∀ (f w:Nat) (o:List Int),w < I.sup.length->o.length = I.sup.length->∀ v,v < I.sup.length ->
  (z8b I o (z7o I b f w) u).getD v 0 = o.getD v 0 + (if w = v then u else 0) - (if rootF I b f w = v then u else 0)
 | 0,w,o,hw,ho,v,hv=>by simp only [z7o,rootF,z8b,List.foldl_nil]; omega
 | f + 1,w,o,hw,ho,v,hv=>by
  rw [z7o,rootF]
  cases hb:b w with
  | none=>simp only [z8b,List.foldl_nil]; omega
  | some s =>
   obtain ⟨h1,h2,h3⟩:=h w s hw hb
   have e:z8b I o (s :: z7o I b f (frS I s)) u = z8b I (zas I o s u) (z7o I b f (frS I s)) u:=rfl
   dsimp only
   rw [e,pushOs_at hr h f (frS I s) _ (frS_lt hr h1) (by rw [zef]; exact ho) v hv,z8a (by rw [ho]; exact hv),h2]
   omega
def zah (o:List Int):Nat->Int
 | 0=>0
 | k + 1=>zah o k + max (o.getD k 0) 0
theorem z55 (o:List Int):∀ k,0 <= zah o k
 | 0=>Int.le_refl _
 | k + 1=>by have:=z55 o k; rw [zah]; omega
theorem posS_ge {o:List Int} {v:Nat}:∀ {k:Nat},v < k->o.getD v 0 <= zah o k
 | 0,h=>by omega
 | k + 1,h=>by
  have:=z55 o k
  rw [zah]
  by_cases e:v = k
  ·subst e; omega
  ·have:=posS_ge (o:=o) (v:=v) (k:=k) (by omega); omega
def XB (x:List Int):Prop:=∀ y ∈ x,-288230376151711744 <= y/\y <= 288230376151711744
theorem XB.at {x:List Int} (h:XB x) (k:Nat):-288230376151711744 <= x.getD k 0/\x.getD k 0 <= 288230376151711744:=by
 rw [List.getD_eq_getElem?_getD]
 cases e:x[k]? with
 | none=>exact ⟨by decide,by decide⟩
 | some u=>exact h u (List.mem_of_getElem? e)
def endS (I:Inst) (s:Stp):Bool:=!s.2 && decide ((z4q I s.1).cap = inf)
end Go.Ql
end
section
namespace Go.Ql
open Go Go.Vc
structure BF (I:Inst) (cnt:Stp->Bool) (start:Nat->Bool) (r:Nat) (done:Stp->Bool) (d:Nat->Option Int) (b:Nat->Option Stp) (e:Option Nat) (τ T:Nat->Nat) (t:Nat):Prop where
 st:∀ v,v < I.sup.length->start v = true->∃ c,d v = some c/\c <= 0
 no:∀ v,v < I.sup.length->b v = none->∀ c,d v = some c->start v = true/\c = 0
 un:∀ v,d v = none->b v = none
 by_:∀ v s,v < I.sup.length->b v = some s->okS I s/\cnt s = true/\toS I s = v/\∃ c u,d v = some c/\d (frS I s) = some u/\u + csS I s <= c/\(T v <= T (frS I s)->u + csS I s < c)
 rd:∀ v s,v < I.sup.length->b v = some s->1 <= τ v/\τ v <= τ (frS I s) + 1
 r0:∀ v,b v = none->τ v = 0
 rl:∀ v,τ v <= r
 la:∀ v,e = some v->v < I.sup.length/\τ v = r/\1 <= r
 le:e = none->∀ v,τ v = r->r = 0
 ok:∀ s,okS I s->cnt s = true->∀ u,d (frS I s) = some u->τ (frS I s) < (if done s then r else r - 1)->∃ c,d (toS I s) = some c/\c <= u + csS I s
 cl:∀ v,T v < t
theorem BF.pass {I:Inst} {cnt:Stp->Bool} {start:Nat->Bool} {r:Nat} {done done':Stp->Bool} {d:Nat->Option Int} {b:Nat->Option Stp} {e:Option Nat} {τ T:Nat->Nat} {t:Nat} {s:Stp} (h:BF I cnt start r done d b e τ T t)
    (hd:∀ s',done' s' = (done s' || decide (s' = s))) (hs:cnt s = true->∀ u,d (frS I s) = some u->∃ c,d (toS I s) = some c/\c <= u + csS I s):BF I cnt start r done' d b e τ T t :=
  { h with
    ok:=fun s' h1 h2 u hu h3=>by
      by_cases es:s' = s
      · subst es; exact hs h2 u hu
      · rw [hd,decide_eq_false es,Bool.or_false] at h3
        exact h.ok s' h1 h2 u hu h3 }
theorem BF.take {I:Inst} (hr:z0b I = 0) {cnt:Stp->Bool} {start:Nat->Bool} {r:Nat} {done done':Stp->Bool} {d:Nat->Option Int} {b:Nat->Option Stp} {e:Option Nat} {τ T:Nat->Nat} {t:Nat} {s:Stp} (h:BF I cnt start r done d b e τ T t)
  (hd:∀ s',done' s' = (done s' || decide (s' = s))) (h1:1 <= r) (hsk:okS I s) (hc:cnt s = true) (hnd:done s = false) {u:Int} (hu:d (frS I s) = some u) (hless:∀ c,d (toS I s) = some c->u + csS I s < c) :
  ∃ τ' T':Nat->Nat,BF I cnt start r done' (fun v=>if v = toS I s then some (u + csS I s) else d v) (fun v=>if v = toS I s then some s else b v) (some (toS I s)) τ' T' (t + 1):=by
 have hto:=toS_lt hr hsk
 have hfr:=frS_lt hr hsk
 have hτ:r - 1 <= τ (frS I s):=by
  apply Nat.le_of_not_lt
  intro hlt
  obtain ⟨c,h2,h3⟩:=h.ok s hsk hc u hu (by rw [hnd]; exact hlt)
  have:=hless c h2; omega
 refine ⟨fun v=>if v = toS I s then r else τ v,fun v=>if v = toS I s then t else T v,?_⟩
 constructor
 ·intro v hv hst
  by_cases ev:v = toS I s
  ·rw [if_pos ev]
   subst ev
   obtain ⟨c,h2,h3⟩:=h.st _ hv hst
   exact ⟨_,rfl,by have:=hless c h2; omega⟩
  ·rw [if_neg ev]; exact h.st v hv hst
 ·intro v hv hb c hdv
  by_cases ev:v = toS I s
  ·rw [if_pos ev] at hb; cases hb
  ·rw [if_neg ev] at hb hdv; exact h.no v hv hb c hdv
 ·intro v hdv
  by_cases ev:v = toS I s
  ·rw [if_pos ev] at hdv; cases hdv
  ·rw [if_neg ev] at hdv ⊢; exact h.un v hdv
 ·intro v s' hv hb
  by_cases ev:v = toS I s
  ·rw [if_pos ev] at hb
   cases hb
   refine ⟨hsk,hc,ev.symm,u + csS I s,?_⟩
   rw [if_pos ev]
   by_cases ef:frS I s = toS I s
   ·rw [if_pos ef,if_pos ef,if_pos ev]
    have:=hless u (by rw [<- ef]; exact hu)
    exact ⟨u + csS I s,rfl,rfl,by omega,fun _=>by omega⟩
   ·rw [if_neg ef,if_neg ef,if_pos ev]
    exact ⟨u,rfl,hu,Int.le_refl _,fun hT=>by have:=h.cl (frS I s); omega⟩
  ·rw [if_neg ev] at hb
   obtain ⟨p1,p2,p3,c,u',p4,p5,p6,p7⟩:=h.by_ v s' hv hb
   rw [if_neg ev,if_neg ev]
   refine ⟨p1,p2,p3,c,?_⟩
   by_cases ef:frS I s' = toS I s
   ·rw [if_pos ef,if_pos ef]
    have:=hless u' (by rw [<- ef]; exact p5)
    exact ⟨u + csS I s,p4,rfl,by omega,fun _=>by omega⟩
   ·rw [if_neg ef,if_neg ef]
    exact ⟨u',p4,p5,p6,p7⟩
 ·intro v s' hv hb
  by_cases ev:v = toS I s
  ·rw [if_pos ev] at hb
   cases hb
   rw [if_pos ev]
   by_cases ef:frS I s = toS I s
   ·rw [if_pos ef]; omega
   ·rw [if_neg ef]; omega
  ·rw [if_neg ev] at hb
   obtain ⟨p1,p2⟩:=h.rd v s' hv hb
   rw [if_neg ev]
   by_cases ef:frS I s' = toS I s
   ·rw [if_pos ef]; have:=h.rl v; omega
   ·rw [if_neg ef]; exact ⟨p1,p2⟩
 ·intro v hb
  by_cases ev:v = toS I s
  ·rw [if_pos ev] at hb; cases hb
  ·rw [if_neg ev] at hb ⊢; exact h.r0 v hb
 ·intro v
  split
  ·exact Nat.le_refl _
  ·exact h.rl v
 ·intro v ev
  cases ev
  exact ⟨hto,by simp,h1⟩
 ·intro ev; cases ev
 ·intro s' h2 h3 w hw h4
  by_cases ef:frS I s' = toS I s
  ·rw [if_pos ef] at h4
   split at h4 <;> omega
  ·rw [if_neg ef] at hw h4
   by_cases es:s' = s
   ·subst es
    rw [if_pos rfl]
    rw [hu] at hw; cases hw
    exact ⟨_,rfl,Int.le_refl _⟩
   ·rw [hd,decide_eq_false es,Bool.or_false] at h4
    obtain ⟨c,p1,p2⟩:=h.ok s' h2 h3 w hw h4
    by_cases et:toS I s' = toS I s
    ·rw [if_pos et]
     have:=hless c (by rw [<- et]; exact p1)
     exact ⟨_,rfl,by omega⟩
    ·rw [if_neg et]; exact ⟨c,p1,p2⟩
 ·intro v
  split
  ·exact Nat.lt_succ_self _
  ·have:=h.cl v; omega
theorem BF.next {I:Inst} {cnt:Stp->Bool} {start:Nat->Bool} {r:Nat} {done done':Stp->Bool} {d:Nat->Option Int} {b:Nat->Option Stp} {e:Option Nat} {τ T:Nat->Nat} {t:Nat} (h:BF I cnt start r done d b e τ T t)
    (hd:∀ s,okS I s->done s = true) (hd':∀ s,done' s = false):BF I cnt start (r + 1) done' d b none τ T t :=
  { h with
    rl:=fun v=>Nat.le_succ_of_le (h.rl v)
    la:=fun v ev=>by cases ev
    le:=fun _ v hv=>by have:=h.rl v; omega
    ok:=fun s h1 h2 u hu h3=>h.ok s h1 h2 u hu (by rw [hd s h1]; rw [hd'] at h3; simpa using h3) }
theorem BF.zero {I:Inst} (cnt:Stp->Bool) (start:Nat->Bool) (done:Stp->Bool) {d:Nat->Option Int} (hd:∀ v,v < I.sup.length->d v = if start v then some 0 else none):BF I cnt start 0 done d (fun _=>none) none (fun _=>0) (fun _=>0) 1 where
 st:=fun v hv hs=>⟨0,by rw [hd v hv,if_pos hs],Int.le_refl _⟩
 no:=fun v hv _ c hc=>by
  rw [hd v hv] at hc
  split at hc
  ·rename_i hs; cases hc; exact ⟨hs,rfl⟩
  ·cases hc
 un:=fun _ _=>rfl
 by_:=fun _ _ _ h=>by cases h
 rd:=fun _ _ _ h=>by cases h
 r0:=fun _ _=>rfl
 rl:=fun _=>Nat.le_refl _
 la:=fun _ h=>by cases h
 le:=fun _ _ _=>rfl
 ok:=fun s _ _ u _ h=>by split at h <;> omega
 cl:=fun _=>Nat.zero_lt_one
def z3p (I:Inst) (b:Nat->Option Stp) (v:Nat):Nat->Nat
 | 0=>v
 | k + 1=>match b (z3p I b v k) with
  | some s=>frS I s
  | none=>z3p I b v k
def zd3 (I:Inst) (b:Nat->Option Stp) (v:Nat):Nat->Int
 | 0=>0
 | k + 1=>zd3 I b v k + (match b (z3p I b v k) with
  | some s=>csS I s
  | none=>0)
theorem backN_lt {I:Inst} (hr:z0b I = 0) {b:Nat->Option Stp} (hb:∀ v s,v < I.sup.length->b v = some s->okS I s) {v:Nat} (hv:v < I.sup.length):∀ k,z3p I b v k < I.sup.length
 | 0=>hv
 | k + 1=>by
  rw [z3p]
  split
  ·rename_i s hs; exact frS_lt hr (hb _ s (backN_lt hr hb hv k) hs)
  ·exact backN_lt hr hb hv k
theorem BF.back {I:Inst} (hr:z0b I = 0) {cnt:Stp->Bool} {start:Nat->Bool} {r:Nat} {done:Stp->Bool} {d:Nat->Option Int} {b:Nat->Option Stp} {e:Option Nat} {τ T:Nat->Nat} {t:Nat} (h:BF I cnt start r done d b e τ T t) {v:Nat} (hv:v < I.sup.length) {c0:Int} (h0:d v = some c0) :
  ∀ k,(∀ i,i < k->∃ s,b (z3p I b v i) = some s)->∃ c,d (z3p I b v k) = some c/\c + zd3 I b v k <= c0/\(c + zd3 I b v k = c0->∀ i,i < k->T (z3p I b v (i + 1)) < T (z3p I b v i))
 | 0,_=>⟨c0,h0,by rw [zd3]; omega,fun _ i hi=>absurd hi (Nat.not_lt_zero _)⟩
 | k + 1,hk=>by
  obtain ⟨c,p1,p2,p3⟩:=BF.back hr h hv h0 k fun i hi=>hk i (by omega)
  obtain ⟨s,hs⟩:=hk k (by omega)
  have hlt:=backN_lt hr (fun v s hv hb=>(h.by_ v s hv hb).1) hv k
  obtain ⟨q1,q2,q3,c',u,q4,q5,q6,q7⟩:=h.by_ _ s hlt hs
  rw [p1] at q4; cases q4
  have en:z3p I b v (k + 1) = frS I s:=by rw [z3p,hs]
  have ec:zd3 I b v (k + 1) = zd3 I b v k + csS I s:=by rw [zd3,hs]
  rw [en,ec]
  refine ⟨u,q5,by omega,fun heq i hi=>?_⟩
  by_cases ei:i = k
  ·subst ei
   rw [en]
   apply Nat.lt_of_not_le
   intro hle
   have:=q7 hle; omega
  ·exact p3 (by omega) i (by omega)
theorem BF.cycle {I:Inst} (hr:z0b I = 0) {cnt:Stp->Bool} {start:Nat->Bool} {r:Nat} {done:Stp->Bool} {d:Nat->Option Int} {b:Nat->Option Stp} {e:Option Nat} {τ T:Nat->Nat} {t:Nat} (h:BF I cnt start r done d b e τ T t) {v k:Nat} (hv:v < I.sup.length) (hk:1 <= k)
  (hs:∀ i,i < k->∃ s,b (z3p I b v i) = some s) (hc:z3p I b v k = v):zd3 I b v k < 0:=by
 obtain ⟨s,hs0⟩:=hs 0 (by omega)
 obtain ⟨-,-,-,c0,u,h0,-⟩:=h.by_ v s hv hs0
 obtain ⟨c,p1,p2,p3⟩:=h.back hr hv h0 k hs
 rw [hc,h0] at p1; cases p1
 apply Classical.byContradiction
 intro hn
 have hlt:=p3 (by omega)
 have:∀ j,j <= k->T (z3p I b v j) + j <= T v:=by
  intro j
  induction j with
  | zero=>intro _; exact Nat.le_refl _
  | succ j ih =>
   intro hj
   have:=ih (by omega)
   have:=hlt j (by omega)
   omega
 have:=this k (Nat.le_refl _)
 rw [hc] at this
 omega
end Go.Ql
end
section
namespace Go.Ql
open Go Go.Vc
def mbS:Option Stp->List Int
 | some s=>[(s.1:Int),bif s.2 then 1 else 0,1]
 | none=>[0,0,0]
def mbI:Option Int->List Int
 | some c=>[c,1]
 | none=>[0,0]
def bRow (n:Nat) (b:Nat->Option Stp):List (List Int):=(List.range n).map fun v=>mbS (b v)
def dRow (n:Nat) (d:Nat->Option Int):List (List Int):=(List.range n).map fun v=>mbI (d v)
def unS (l:List Int):Option Stp:=if l.getD 2 0 = 1 then some ((l.getD 0 0).toNat,decide (l.getD 1 0 = 1)) else none
def bOf (by_:List (List Int)) (v:Nat):Option Stp:=unS (by_.getD v [])
theorem unS_mbS (o:Option Stp):unS (mbS o) = o:=by
 cases o with
 | none=>rfl
 | some s=>obtain ⟨a,k⟩:=s; cases k <;> simp [unS,mbS]
theorem bOf_row {n v:Nat} (b:Nat->Option Stp) (hv:v < n):bOf (bRow n b) v = b v:=by
 unfold bOf bRow
 rw [List.getD_eq_getElem?_getD,List.getElem?_map,List.getElem?_range hv]
 exact unS_mbS _
theorem walk_take {I:Inst} {b:Nat->Option Stp}:∀ (j f v:Nat),j <= f->z7o I b j v = (z7o I b f v).take j
 | 0,f,v,_=>rfl
 | j + 1,0,v,h=>by omega
 | j + 1,f + 1,v,h=>by
  rw [z7o,z7o]
  cases b v with
  | none=>rfl
  | some s=>dsimp only; rw [List.take_succ_cons,walk_take j f _ (by omega)]
def YB (x:List Int):Prop:=∀ y ∈ x,-144115188075855872 <= y/\y <= 144115188075855872
theorem YB.at {x:List Int} (h:YB x) (k:Nat):-144115188075855872 <= x.getD k 0/\x.getD k 0 <= 144115188075855872:=by
 rw [List.getD_eq_getElem?_getD]
 cases e:x[k]? with
 | none=>exact ⟨by decide,by decide⟩
 | some u=>exact h u (List.mem_of_getElem? e)
theorem YB.xb {x:List Int} (h:YB x):XB x:=fun y hy=>by have:=h y hy; omega
theorem xb_of {x:List Int} (h:∀ k,k < x.length->-288230376151711744 <= x.getD k 0/\x.getD k 0 <= 288230376151711744):XB x:=fun y hy=>by
 obtain ⟨k,hk⟩:=List.mem_iff_getElem?.1 hy
 have:=h k (List.getElem?_eq_some_iff.1 hk).1
 rwa [List.getD_eq_getElem?_getD,hk] at this
theorem yb_of {x:List Int} (h:∀ k,k < x.length->-144115188075855872 <= x.getD k 0/\x.getD k 0 <= 144115188075855872):YB x:=fun y hy=>by
 obtain ⟨k,hk⟩:=List.mem_iff_getElem?.1 hy
 have:=h k (List.getElem?_eq_some_iff.1 hk).1
 rwa [List.getD_eq_getElem?_getD,hk] at this
def alL (I:Inst) (by_:List (List Int)) (e:Int):List Stp:=z7o I (bOf by_) I.sup.length e.toNat
def alR (I:Inst) (by_:List (List Int)) (e:Int):Nat:=rootF I (bOf by_) I.sup.length e.toNat
def alU0 (I:Inst) (o:List Int) (by_:List (List Int)) (e:Int):Int:=min (o.getD (alR I by_ e) 0) (-(o.getD e.toNat 0))
def alU (I:Inst) (x o:List Int) (by_:List (List Int)) (e:Int):Int:=unitsF I x (alU0 I o by_ e) (alL I by_ e)
structure AlOk (I:Inst) (x o:List Int) (by_:List (List Int)) (e:Int):Prop where
 right:z0b I = 0
 lx:x.length = I.arcs.length
 lo:o.length = I.sup.length
 xb:YB x
 ob:YB o
 e0:0 <= e
 e1:e.toNat < I.sup.length
 tree:∃ b ρ,by_ = bRow I.sup.length b/\Tree I b ρ/\∀ v,v < I.sup.length->ρ v < I.sup.length
 pos:0 <= alU I x o by_ e
namespace AlOk
variable {I:Inst} {x o:List Int} {by_:List (List Int)} {e:Int} (h:AlOk I x o by_ e)
include h
theorem tree':∃ ρ,Tree I (bOf by_) ρ/\∀ v,v < I.sup.length->ρ v < I.sup.length:=by
 obtain ⟨b,ρ,rfl,h1,h2⟩:=h.tree
 exact ⟨ρ,fun v s hv hs=>h1 v s hv (by rw [<- bOf_row b hv]; exact hs),h2⟩
theorem mem:∀ s ∈ alL I by_ e,okS I s:=fun s hs=>by
 obtain ⟨ρ,h1,h2⟩:=h.tree'
 exact (walk_mem h.right h1 _ _ h.e1 s hs).1
theorem ub:alU I x o by_ e <= 144115188075855872:=by
 have h1:=(unitsF_le (I:=I) (x:=x) (alL I by_ e) (alU0 I o by_ e)).1
 have h2:=h.ob.at (alR I by_ e)
 unfold alU
 have h3:alU0 I o by_ e <= o.getD (alR I by_ e) 0:=by unfold alU0; omega
 omega
theorem oj (j:Nat) (hj:j <= I.sup.length):(z8b I o ((alL I by_ e).take j) (alU I x o by_ e)).length = I.sup.length/\XB (z8b I o ((alL I by_ e).take j) (alU I x o by_ e)):=by
 obtain ⟨ρ,h1,h2⟩:=h.tree'
 have hu:=h.ub
 have hp:=h.pos
 refine ⟨by rw [z9x,h.lo],xb_of fun k hk=>?_⟩
 have hb:=h.ob.at k
 rw [z9x,h.lo] at hk
 have:(alL I by_ e).take j = z7o I (bOf by_) j e.toNat:=(walk_take j _ _ hj).symm
 rw [this,pushOs_at h.right h1 j e.toNat o h.e1 h.lo k hk]
 repeat' split <;> omega
end AlOk
def DB (I:Inst) (d:Nat->Option Int) (q:Nat):Prop:=∀ C:Int,0 <= C->(∀ s,okS I s->-C <= csS I s/\csS I s <= C)->∀ v c,d v = some c->-(C * (q:Int)) <= c/\c <= C * (q:Int)
def SInv (I:Inst) (cnt:Stp->Bool) (start:Nat->Bool) (r:Nat) (done:Stp->Bool) (q:Nat) (d:Nat->Option Int) (b:Nat->Option Stp) (e:Option Nat):Prop :=
 (∃ τ T t,BF I cnt start r done d b e τ T t)/\DB I d q
def allD:Stp->Bool:=fun _=>true
def z3q (a j:Nat) (s:Stp):Bool:=decide (s.1 < a) || (decide (s.1 = a) && decide ((bif s.2 then 1 else 0) < j))
theorem DB.more {I:Inst} {d:Nat->Option Int} {q q':Nat} (h:DB I d q) (hq:q <= q'):DB I d q':=fun C h0 hC v c hc=>by
 have h1:=h C h0 hC v c hc
 have h2:C * (q:Int) <= C * (q':Int):=Int.mul_le_mul_of_nonneg_left (by omega) h0
 omega
theorem z6c (a:Nat) (k:Bool) (s:Stp):z3q a ((bif k then 1 else 0) + 1) s = (z3q a (bif k then 1 else 0) s || decide (s = (a,k))):=by
 obtain ⟨c,k'⟩:=s
 unfold z3q
 dsimp only
 rw [Bool.eq_iff_iff]
 simp only [Bool.or_eq_true,Bool.and_eq_true,decide_eq_true_eq,Prod.mk.injEq]
 cases k <;> cases k' <;> simp <;> omega
theorem doneJ_two (a:Nat) (s:Stp):z3q a 2 s = z3q (a + 1) 0 s:=by
 obtain ⟨c,k'⟩:=s
 unfold z3q
 dsimp only
 rw [Bool.eq_iff_iff]
 simp only [Bool.or_eq_true,Bool.and_eq_true,decide_eq_true_eq]
 cases k' <;> simp <;> omega
theorem doneJ_zero (s:Stp):z3q 0 0 s = false:=by
 unfold z3q
 simp
theorem doneJ_self (a:Nat) (k:Bool):z3q a (bif k then 1 else 0) (a,k) = false:=by
 unfold z3q
 cases k <;> simp
theorem doneJ_all {I:Inst} {s:Stp} (h:okS I s):z3q I.arcs.length 0 s = true:=by
 unfold z3q okS at *
 simp [h]
theorem SInv.congr {I:Inst} {cnt:Stp->Bool} {start:Nat->Bool} {r:Nat} {done done':Stp->Bool} {q q':Nat} {d:Nat->Option Int} {b:Nat->Option Stp} {e:Option Nat} (h:SInv I cnt start r done q d b e) (hd:∀ s,okS I s->done' s = true->done s = true) (hq:q <= q'):SInv I cnt start r done' q' d b e:=by
 obtain ⟨⟨τ,T,t,h1⟩,h2⟩:=h
 refine ⟨⟨τ,T,t,{ h1 with ok:=fun s a1 a2 u hu a3=>h1.ok s a1 a2 u hu ?_ }⟩,h2.more hq⟩
 cases hs:done' s with
 | true=>rw [hd s a1 hs]; rw [hs] at a3; exact a3
 | false =>
  rw [hs] at a3
  rw [if_neg Bool.false_ne_true] at a3
  split <;> omega
theorem SInv.pass {I:Inst} {cnt:Stp->Bool} {start:Nat->Bool} {r:Nat} {a q:Nat} {k:Bool} {d:Nat->Option Int} {b:Nat->Option Stp} {e:Option Nat} (h:SInv I cnt start r (z3q a (bif k then 1 else 0)) q d b e)
  (hs:cnt (a,k) = true->∀ u,d (frS I (a,k)) = some u->∃ c,d (toS I (a,k)) = some c/\c <= u + csS I (a,k)):SInv I cnt start r (z3q a ((bif k then 1 else 0) + 1)) (q + 1) d b e:=by
 obtain ⟨⟨τ,T,t,h1⟩,h2⟩:=h
 exact ⟨⟨τ,T,t,h1.pass (z6c a k) hs⟩,h2.more (Nat.le_succ _)⟩
theorem SInv.take {I:Inst} (hr:z0b I = 0) {cnt:Stp->Bool} {start:Nat->Bool} {r:Nat} {a q:Nat} {k:Bool} {d:Nat->Option Int} {b:Nat->Option Stp} {e:Option Nat} (h:SInv I cnt start r (z3q a (bif k then 1 else 0)) q d b e)
  (h1:1 <= r) (ha:a < I.arcs.length) (hc:cnt (a,k) = true) {u:Int} (hu:d (frS I (a,k)) = some u) (hless:∀ c,d (toS I (a,k)) = some c->u + csS I (a,k) < c) :
  SInv I cnt start r (z3q a ((bif k then 1 else 0) + 1)) (q + 1) (fun v=>if v = toS I (a,k) then some (u + csS I (a,k)) else d v) (fun v=>if v = toS I (a,k) then some (a,k) else b v) (some (toS I (a,k))):=by
 obtain ⟨⟨τ,T,t,h3⟩,h2⟩:=h
 obtain ⟨τ',T',h4⟩:=h3.take hr (z6c a k) h1 (show okS I (a,k) from ha) hc (doneJ_self a k) hu hless
 refine ⟨⟨τ',T',t + 1,h4⟩,fun C h0 hC v c hv=>?_⟩
 have hcs:=hC (a,k) ha
 have e:C * ((q + 1:Nat):Int) = C * (q:Int) + C:=by rw [Int.natCast_succ,Int.mul_add,Int.mul_one]
 rw [e]
 dsimp only at hv
 split at hv
 ·cases hv
  have:=h2 C h0 hC _ _ hu
  omega
 ·have:=h2 C h0 hC v c hv; omega
theorem SInv.next {I:Inst} {cnt:Stp->Bool} {start:Nat->Bool} {r q:Nat} {d:Nat->Option Int} {b:Nat->Option Stp} {e:Option Nat} (h:SInv I cnt start r allD q d b e):SInv I cnt start (r + 1) (z3q 0 0) q d b none:=by
 obtain ⟨⟨τ,T,t,h1⟩,h2⟩:=h
 exact ⟨⟨τ,T,t,h1.next (fun _ _=>rfl) doneJ_zero⟩,h2⟩
structure ShortP (I:Inst) (cnt:Stp->Bool) (start:Nat->Bool) (d:Nat->Option Int) (b:Nat->Option Stp) (e:Option Nat):Prop where
 inv:∃ r,SInv I cnt start r allD 32768 d b e/\(e = none->1 <= r ∨ I.sup.length = 0)/\(∀ v,e = some v->r = I.sup.length)
end Go.Ql
end
section
namespace Go.Ql
open Go Go.Vc
theorem over_sum {I:Inst} (hr:z0b I = 0) {x o:List Int} (h:OverOf I x o):z1b (fun v=>o.getD v 0) I.sup.length = 0:=by
 have h1:z1b (fun v=>o.getD v 0) I.sup.length = z1b (fun v=>I.sup.getD v 0 - z6o I.sup.length I.arcs x I.arcs.length v) I.sup.length:=z0w h.at_
 rw [h1,z5y,netK_sum,<- sum_sumTo,(z39 hr).2]; rfl
theorem posS_sum (o:List Int):∀ k,z1b (fun v=>o.getD v 0) k <= zah o k
 | 0=>Int.le_refl _
 | k + 1=>by have:=posS_sum o k; rw [z1b,zah]; omega
theorem posS_low {o:List Int} {v:Nat}:∀ {k:Nat},v < k->z1b (fun v=>o.getD v 0) k - o.getD v 0 <= zah o k
 | 0,h=>by omega
 | k + 1,h=>by
  rw [z1b,zah]
  by_cases e:v = k
  ·subst e; have:=posS_sum o v; omega
  ·have:=posS_low (o:=o) (v:=v) (k:=k) (by omega); omega
theorem over_bd {I:Inst} (hr:z0b I = 0) {x o:List Int} (h:OverOf I x o) {v:Nat} (hv:v < I.sup.length):-(zah o I.sup.length) <= o.getD v 0/\o.getD v 0 <= zah o I.sup.length:=by
 have h1:=posS_low (o:=o) hv
 rw [over_sum hr h] at h1
 have h2:=posS_ge (o:=o) hv
 omega
theorem ShortP.by_ {I:Inst} {cnt:Stp->Bool} {start:Nat->Bool} {d:Nat->Option Int} {b:Nat->Option Stp} {e:Option Nat} (h:ShortP I cnt start d b e) {v:Nat} {s:Stp} (hv:v < I.sup.length) (hs:b v = some s):cnt s = true/\toS I s = v/\∃ c u,d v = some c/\d (frS I s) = some u/\u + csS I s <= c:=by
 obtain ⟨r,⟨⟨τ,T,t,hB⟩,hD⟩,h1,h2⟩:=h.inv
 obtain ⟨q1,q2,q3,c,u,q4,q5,q6,q7⟩:=hB.by_ v s hv hs
 exact ⟨q2,q3,c,u,q4,q5,q6⟩
theorem ShortP.no {I:Inst} {cnt:Stp->Bool} {start:Nat->Bool} {d:Nat->Option Int} {b:Nat->Option Stp} {e:Option Nat} (h:ShortP I cnt start d b e) {v:Nat} (hv:v < I.sup.length) (hs:b v = none) {c:Int} (hc:d v = some c):start v = true:=by
 obtain ⟨r,⟨⟨τ,T,t,hB⟩,hD⟩,h1,h2⟩:=h.inv
 exact (hB.no v hv hs c hc).1
theorem ShortP.st {I:Inst} {cnt:Stp->Bool} {start:Nat->Bool} {d:Nat->Option Int} {b:Nat->Option Stp} {e:Option Nat} (h:ShortP I cnt start d b e) {v:Nat} (hv:v < I.sup.length) (hs:start v = true):∃ c,d v = some c:=by
 obtain ⟨r,⟨⟨τ,T,t,hB⟩,hD⟩,h1,h2⟩:=h.inv
 obtain ⟨c,h3,-⟩:=hB.st v hv hs
 exact ⟨c,h3⟩
structure NInv (I:Inst) (x o:List Int) (B:Int):Prop where
 over:OverOf I x o
 betw:Betw I x
 bd:∀ a,a < I.arcs.length->-B <= x.getD a 0/\x.getD a 0 <= B
end Go.Ql
end
section
namespace Go.Ql
open Go Go.Vc
theorem posS_more {o p:List Int} {r:Nat} {u:Int} (hu:0 <= u):∀ {k:Nat},(∀ v,v < k->v ≠ r->max (p.getD v 0) 0 <= max (o.getD v 0) 0)->max (p.getD r 0) 0 <= max (o.getD r 0) 0 + u->zah p k <= zah o k + u
 | 0,_,_=>by rw [zah,zah]; omega
 | k + 1,h1,h2=>by
  rw [zah,zah]
  by_cases e:r = k
  ·subst e
   have:∀ j,j <= r->zah p j <= zah o j:=by
    intro j
    induction j with
    | zero=>intro _; exact Int.le_refl _
    | succ j ih=>intro hj; rw [zah,zah]; have:=ih (by omega); have:=h1 j (by omega) (by omega); omega
   have:=this r (Nat.le_refl _); omega
  ·have:=posS_more (o:=o) (p:=p) (r:=r) hu (k:=k) (fun v hv hne=>h1 v (by omega) hne) h2
   have:=h1 k (by omega) (fun e'=>e e'.symm); omega
theorem posS_push {I:Inst} (hr:z0b I = 0) {o:List Int} (ho:o.length = I.sup.length) {s:Stp} (hs:okS I s) {u:Int} (hu:0 <= u):zah (zas I o s u) I.sup.length <= zah o I.sup.length + u:=by
 refine posS_more (r:=toS I s) hu (fun v hv hne=>?_) ?_
 ·rw [z8a (by rw [ho]; exact hv)]
  (repeat' split) <;> omega
 ·rw [z8a (by rw [ho]; exact toS_lt hr hs)]
  (repeat' split) <;> omega
def rcOk (I:Inst) (g:Nat->Int) (s:Stp):Prop:=g (toS I s) <= g (frS I s) + csS I s
theorem rc_flip {I:Inst} {g:Nat->Int} {a:Nat} {k:Bool} (h:¬ rcOk I g (a,k)):rcOk I g (a,!k):=by
 obtain ⟨f1,f2,f3⟩:=flip_ends I a k
 unfold rcOk at *
 rw [f1,f2,f3]; omega
structure SatI (I:Inst) (g:Nat->Int) (L B P:Int) (q:Nat) (done:Stp->Bool) (x o:List Int):Prop where
 n:NInv I x o B
 hi:∀ s,okS I s->2 * L <= rmS I x s->rcOk I g s
 lo:∀ s,okS I s->done s = true->L <= rmS I x s->rcOk I g s
 p:zah o I.sup.length <= P + 2 * L * q
theorem rmS_other {x:List Int} {I:Inst} {s t:Stp} {u:Int} (hl:x.length = I.arcs.length) (hs:okS I s) (h:t.1 ≠ s.1):rmS I (z9y x s u) t = rmS I x t:=by
 unfold rmS
 rw [z6h (by rw [hl]; exact hs),if_neg h,Int.add_zero]
theorem rmS_self {x:List Int} {I:Inst} {s:Stp} (hl:x.length = I.arcs.length) (hs:okS I s) (hc:s.2 = false->¬ (z4q I s.1).cap = inf):rmS I (z9y x s (rmS I x s)) s = 0:=by
 have e:=z6h (x:=x) (s:=s) (u:=rmS I x s) (a:=s.1) (by rw [hl]; exact hs)
 rw [if_pos rfl] at e
 unfold rmS at *
 rw [e]
 cases h:s.2 with
 | true=>simp only [h,if_true] at *; omega
 | false=>simp only [h,Bool.false_eq_true,if_false,if_neg (hc h)] at *; omega
theorem SatI.skip {I:Inst} {g:Nat->Int} {L B P:Int} {q a:Nat} {k:Bool} {x o:List Int} (h:SatI I g L B P q (z3q a (bif k then 1 else 0)) x o) (hL:0 <= L) (hn:L <= rmS I x (a,k)->rcOk I g (a,k)):SatI I g L B P (q + 1) (z3q a ((bif k then 1 else 0) + 1)) x o :=
  { n:=h.n,hi:=h.hi,
    lo:=fun s hs hd hr=>by
      rw [z6c] at hd
      by_cases e:s = (a,k)
      · subst e; exact hn hr
      · rw [decide_eq_false e,Bool.or_false] at hd
        exact h.lo s hs hd hr,
    p:=by
      have:=h.p
      have e:2 * L * ((q + 1:Nat):Int) = 2 * L * q + 2 * L:=by rw [Int.natCast_add,Int.mul_add]; simp
      omega }
theorem SatI.fill {I:Inst} (hr:z0b I = 0) {g:Nat->Int} {L B P:Int} {q a:Nat} {k:Bool} {x o:List Int} (h:SatI I g L B P q (z3q a (bif k then 1 else 0)) x o) (hL:1 <= L) (hB:4398046511104 <= B) (ha:a < I.arcs.length)
  (h1:L <= rmS I x (a,k)) (h2:¬ rcOk I g (a,k)) (hinf:endS I (a,k) = true->rcOk I g (a,k)):SatI I g L B P (q + 1) (z3q a ((bif k then 1 else 0) + 1)) (z9y x (a,k) (rmS I x (a,k))) (zas I o (a,k) (rmS I x (a,k))):=by
 have hs:okS I (a,k):=ha
 have hlt:rmS I x (a,k) < 2 * L:=by
  apply Int.lt_of_not_ge
  intro hge
  exact h2 (h.hi _ hs hge)
 have hc:k = false->¬ (z4q I a).cap = inf:=fun hk hcap=>h2 (hinf (by subst hk; unfold endS; simp [hcap]))
 have hfl:=rc_flip h2
 have hz:=rmS_self (x:=x) (s:=(a,k)) h.n.over.lx hs hc
 have hother:∀ s,okS I s->s.1 ≠ a->rmS I (z9y x (a,k) (rmS I x (a,k))) s = rmS I x s:=fun s _ hne=>rmS_other h.n.over.lx hs hne
 have hcase:∀ s:Stp,s.1 = a->s = (a,k) ∨ s = (a,!k):=fun s hsa=>by
  obtain ⟨a',k'⟩:=s
  dsimp only at hsa
  subst hsa
  by_cases e:k' = k
  ·subst e; exact .inl rfl
  ·refine .inr ?_; cases k <;> cases k' <;> simp_all
 have hbt:=betw_push h.n.betw h.n.over.lx hs (show 0 <= rmS I x (a,k) by omega) (Int.le_refl _)
 refine ⟨⟨h.n.over.push hr hs _,hbt,fun c hcl=>?_⟩,fun s h3 h4=>?_,fun s h3 h4 h5=>?_,?_⟩
 ·by_cases e:c = a
  ·subst e
   have ok:=z4v hr hcl
   have hb:=hbt c hcl
   have hx:=z6h (x:=x) (s:=(c,k)) (u:=rmS I x (c,k)) (a:=c) (by rw [h.n.over.lx]; exact hs)
   rw [if_pos rfl] at hx
   dsimp only at hx
   have hbd:=h.n.bd c hcl
   have l0:=ok.l0
   have l1:=ok.l1
   refine ⟨by omega,?_⟩
   cases hk:k with
   | true =>
    subst hk
    simp only [if_true] at hx
    unfold rmS at hx ⊢
    simp only [if_true] at hx ⊢
    omega
   | false =>
    subst hk
    have hc2:=(ok.c.resolve_left (hc rfl)).2
    have:=hb.2.resolve_left (hc rfl)
    omega
  ·have hx:=z6h (x:=x) (s:=(a,k)) (u:=rmS I x (a,k)) (a:=c) (by rw [h.n.over.lx]; exact hs)
   rw [if_neg e,Int.add_zero] at hx
   rw [hx]; exact h.n.bd c hcl
 ·by_cases e:s.1 = a
  ·rcases hcase s e with rfl | rfl
   ·rw [hz] at h4; omega
   ·exact hfl
  ·rw [hother s h3 e] at h4; exact h.hi s h3 h4
 ·by_cases e:s.1 = a
  ·rcases hcase s e with rfl | rfl
   ·rw [hz] at h5; omega
   ·exact hfl
  ·rw [hother s h3 e] at h5
   rw [z6c,decide_eq_false (fun e'=>e (by rw [e'])),Bool.or_false] at h4
   exact h.lo s h3 h4 h5
 ·have:=posS_push hr h.n.over.lo hs (u:=rmS I x (a,k)) (by omega)
  have:=h.p
  have e:2 * L * ((q + 1:Nat):Int) = 2 * L * q + 2 * L:=by rw [Int.natCast_add,Int.mul_add]; simp
  omega
end Go.Ql
end
section
namespace Go.Ql
open Go Go.Vc
def MostI (I:Inst) (a:Nat) (m:Int):Prop:=(∀ c,c < a->(z4q I c).cap = inf ∨ (z4q I c).cap <= m)/\1 <= m/\m <= 536870912
structure SatG (I:Inst) (x o:List Int) (D:List (List Int)) (L:Int) (g:Nat->Int) (B P:Int):Prop where
 d:D = dRow I.sup.length fun v=>some (g v)
 gb:∀ v,v < I.sup.length->-144115188075855872 <= g v/\g v <= 144115188075855872
 b0:4398046511104 <= B
 b1:B <= 144115188075855872
 p:P + 2 * L * 512 <= 144115188075855872
 s:SatI I g L B P 0 (z3q 0 0) x o
 e:∀ s,okS I s->endS I s = true->rcOk I g s
def SatJ (I:Inst) (x0 o0:List Int) (D:List (List Int)) (L:Int) (a j:Nat) (x o:List Int):Prop:=∀ g B P,SatG I x0 o0 D L g B P->SatI I g L B P (2 * a + j) (z3q a j) x o
structure SatP (I:Inst) (x0 o0:List Int) (D:List (List Int)) (L:Int) (x o:List Int):Prop where
 all:∀ g B P,SatG I x0 o0 D L g B P->SatI I g L B P (2 * I.arcs.length) allD x o
theorem SatI.bounds {I:Inst} (hr:z0b I = 0) {g:Nat->Int} {L B P:Int} {q:Nat} {done:Stp->Bool} {x o:List Int} (h:SatI I g L B P q done x o) (hL:1 <= L) (hq:q <= 512) (hB:B <= 144115188075855872) (hP:P + 2 * L * 512 <= 144115188075855872):x.length = I.arcs.length/\o.length = I.sup.length/\YB x/\YB o:=by
 have hPq:2 * L * (q:Int) <= 2 * L * 512:=Int.mul_le_mul_of_nonneg_left (by omega) (by omega)
 have hp:=h.p
 refine ⟨h.n.over.lx,h.n.over.lo,yb_of fun k hk=>?_,yb_of fun k hk=>?_⟩
 ·have:=h.n.bd k (by rw [<- h.n.over.lx]; exact hk); omega
 ·have:=over_bd hr h.n.over (v:=k) (by rw [<- h.n.over.lo]; exact hk); omega
theorem SatI.congr {I:Inst} {g:Nat->Int} {L B P:Int} {q q':Nat} {done done':Stp->Bool} {x o:List Int} (h:SatI I g L B P q done x o) (hL:0 <= L) (hd:∀ s,okS I s->done' s = true->done s = true) (hq:q <= q'):SatI I g L B P q' done' x o :=
  { n:=h.n,hi:=h.hi,lo:=fun s hs hds hr=>h.lo s hs (hd s hs hds) hr,
    p:=by
      have:=h.p
      have:2 * L * (q:Int) <= 2 * L * q':=Int.mul_le_mul_of_nonneg_left (by omega) (by omega)
      omega }
theorem SatJ.skip {I:Inst} {x0 o0:List Int} {D:List (List Int)} {L:Int} {a:Nat} {k:Bool} {x o:List Int} (h:SatJ I x0 o0 D L a (bif k then 1 else 0) x o) (hL:0 <= L) (hn:L <= rmS I x (a,k)->∀ g:Nat->Int,D = dRow I.sup.length (fun v=>some (g v))->rcOk I g (a,k)):SatJ I x0 o0 D L a ((bif k then 1 else 0) + 1) x o :=
 fun g B P hG=>(h g B P hG).skip hL fun hl=>hn hl g hG.d
theorem SatJ.fill {I:Inst} (hr:z0b I = 0) {x0 o0:List Int} {D:List (List Int)} {L:Int} {a:Nat} {k:Bool} {x o:List Int} (h:SatJ I x0 o0 D L a (bif k then 1 else 0) x o) (hL:1 <= L) (ha:a < I.arcs.length) (h1:L <= rmS I x (a,k)) (hn:∀ g:Nat->Int,D = dRow I.sup.length (fun v=>some (g v))->¬ rcOk I g (a,k)) :
  SatJ I x0 o0 D L a ((bif k then 1 else 0) + 1) (z9y x (a,k) (rmS I x (a,k))) (zas I o (a,k) (rmS I x (a,k))) :=
 fun g B P hG=>(h g B P hG).fill hr hL hG.b0 ha h1 (hn g hG.d) (hG.e (a,k) ha)
theorem SatJ.next {I:Inst} {x0 o0:List Int} {D:List (List Int)} {L:Int} {a:Nat} {x o:List Int} (h:SatJ I x0 o0 D L a 2 x o) (hL:0 <= L):SatJ I x0 o0 D L (a + 1) 0 x o:=fun g B P hG=>(h g B P hG).congr hL (fun s _ hd=>by rw [doneJ_two]; exact hd) (by omega)
theorem SatJ.done {I:Inst} {x0 o0:List Int} {D:List (List Int)} {L:Int} {x o:List Int} (h:SatJ I x0 o0 D L I.arcs.length 0 x o) (hL:0 <= L):SatP I x0 o0 D L x o:=⟨fun g B P hG=>(h g B P hG).congr hL (fun s hs _=>doneJ_all hs) (by omega)⟩
theorem MostI.arc {I:Inst} {a:Nat} {m:Int} (h:MostI I a m) {y:Arc} (hy:I.arcs[a]? = some y) {m':Int} (hm:m <= m') (hc:y.cap = inf ∨ y.cap <= m') (hl:m' <= 536870912):MostI I (a + 1) m':=by
 refine ⟨fun c hc2=>?_,by have:=h.2.1; omega,hl⟩
 by_cases e:c = a
 ·subst e; rw [arcN_get hy]; exact hc
 ·exact (h.1 c (by omega)).imp id (by omega)
end Go.Ql
end
section
namespace Go.Ql
open Go Go.Vc
end Go.Ql
end
section
namespace Go.Ql
open Go Go.Vc
end Go.Ql
end
section
namespace Go.Ql
open Go Go.Vc
structure Circ (I:Inst) (b:Nat->Option Stp) (m k:Nat):Prop where
 mn:m < I.sup.length
 k1:1 <= k
 kn:k <= I.sup.length
 all:∀ i,∃ s,b (z3p I b m i) = some s/\okS I s/\endS I s = true/\toS I s = z3p I b m i
 back:z3p I b m k = m
 not:∀ i,1 <= i->i < k->z3p I b m i ≠ m
 neg:zd3 I b m k < 0
def arcB (I:Inst) (b:Nat->Option Stp) (m i:Nat):Int:=match b (z3p I b m i) with
 | some s=>(s.1:Int)
 | none=>0
def circL (I:Inst) (b:Nat->Option Stp) (m k:Nat):List Int:=(List.range k).map (arcB I b m)
theorem circL_succ (I:Inst) (b:Nat->Option Stp) (m k:Nat):circL I b m (k + 1) = circL I b m k ++ [arcB I b m k]:=by
 unfold circL; rw [List.range_succ,List.map_append]; rfl
theorem Circ.arc {I:Inst} (hr:z0b I = 0) {b:Nat->Option Stp} {m k:Nat} (h:Circ I b m k) (i:Nat):∃ a,a < I.arcs.length/\b (z3p I b m i) = some (a,false)/\arcB I b m i = (a:Int)/\(z4q I a).cap = inf/\(z4q I a).dst = (z3p I b m i:Int)/\(z4q I a).src = (z3p I b m (i + 1):Int):=by
 obtain ⟨⟨a,q⟩,hs,ha,he,ht⟩:=h.all i
 unfold endS at he
 rw [Bool.and_eq_true,Bool.not_eq_true',decide_eq_true_eq] at he
 have hq:q = false:=he.1
 subst hq
 have ok:=z4v hr (show a < I.arcs.length from ha)
 have:=ok.s0; have:=ok.d0
 unfold toS at ht
 simp only [Bool.false_eq_true,if_false] at ht
 refine ⟨a,ha,hs,by unfold arcB; rw [hs],he.2,by omega,?_⟩
 rw [z3p,hs]
 show (z4q I a).src = ((frS I (a,false):Nat):Int)
 unfold frS
 simp only [Bool.false_eq_true,if_false]
 omega
theorem Circ.cost {I:Inst} (hr:z0b I = 0) {b:Nat->Option Stp} {m k:Nat} (h:Circ I b m k):∀ j,((circL I b m j).map (rayD I)).sum = zd3 I b m j
 | 0=>rfl
 | j + 1=>by
  obtain ⟨a,ha,hb,ea,-⟩:=h.arc hr j
  have e1:z2w I (a:Int) = true:=isArcF_iff.2 ⟨by omega,by omega⟩
  rw [circL_succ,List.map_append,List.sum_append,h.cost hr j,zd3,hb,ea]
  have e2:rayD I (a:Int) = csS I (a,false):=by
   unfold rayD csS z6m z4q
   rw [if_pos e1,Int.toNat_natCast]
   rfl
  simp [e2]
theorem ShortP.ok {I:Inst} {cnt:Stp->Bool} {start:Nat->Bool} {d:Nat->Option Int} {b:Nat->Option Stp} {e:Option Nat} (h:ShortP I cnt start d b e) {v:Nat} {s:Stp} (hv:v < I.sup.length) (hs:b v = some s):okS I s:=by
 obtain ⟨r,⟨⟨τ,T,t,hB⟩,-⟩,-⟩:=h.inv
 exact (hB.by_ v s hv hs).1
end Go.Ql
end
section
namespace Go.Ql
open Go Go.Vc
structure SeI (I:Inst) (x o:List Int) (m:List Bool) (b:Nat->Option Stp) (pend:Stp->Prop):Prop where
 lm:m.length = I.sup.length
 st:∀ v,v < I.sup.length->0 < o.getD v 0->m.getD v false = true
 no:∀ v,v < I.sup.length->m.getD v false = true->b v = none->0 < o.getD v 0
 un:∀ v,v < I.sup.length->m.getD v false = false->b v = none
 by_:∀ v s,v < I.sup.length->b v = some s->okS I s/\toS I s = v/\0 < rmS I x s/\m.getD (frS I s) false = true
 tree:∃ ρ:Nat->Nat,∀ v s,v < I.sup.length->b v = some s->ρ (frS I s) < ρ v
 cl:∀ s,okS I s->0 < rmS I x s->m.getD (frS I s) false = true->m.getD (toS I s) false = true ∨ pend s
def SeG (I:Inst) (o:List Int) (m:List Bool):Prop:=∀ v,v < I.sup.length->m.getD v false = true->0 <= o.getD v 0
theorem SeI.skip {I:Inst} {x o:List Int} {m:List Bool} {b:Nat->Option Stp} {pend pend':Stp->Prop} (h:SeI I x o m b pend) (hp:∀ s,okS I s->pend s->m.getD (toS I s) false = true ∨ ¬ 0 < rmS I x s ∨ pend' s):SeI I x o m b pend' :=
 { h with cl:=fun s h1 h2 h3=>(h.cl s h1 h2 h3).elim .inl fun h4=>(hp s h1 h4).elim .inl fun h5=>h5.elim (fun h6=>absurd h2 h6) .inr }
theorem zb8 {m:List Bool} {k v:Nat} (hk:k < m.length):(m.set k true).getD v false = if v = k then true else m.getD v false:=by
 rw [List.getD_eq_getElem?_getD,List.getElem?_set]
 by_cases e:k = v
 ·subst e; simp [hk]
 ·rw [if_neg e,if_neg (fun h=>e h.symm),List.getD_eq_getElem?_getD]
theorem SeI.take {I:Inst} (hr:z0b I = 0) {x o:List Int} {m:List Bool} {b:Nat->Option Stp} {pend pend':Stp->Prop} (h:SeI I x o m b pend) {t:Stp} (ht:okS I t) (hf:m.getD (frS I t) false = true) (hm:m.getD (toS I t) false = false) (hrm:0 < rmS I x t)
  (hp:∀ s,pend s->s = t ∨ pend' s) (hq:∀ s,frS I s = toS I t->pend' s):SeI I x o (m.set (toS I t) true) (fun v=>if v = toS I t then some t else b v) pend':=by
 have hlt:=toS_lt hr ht
 have hg:∀ v,(m.set (toS I t) true).getD v false = if v = toS I t then true else m.getD v false:=fun v=>zb8 (by rw [h.lm]; exact hlt)
 have hfne:frS I t ≠ toS I t:=fun e=>by rw [e,hm] at hf; cases hf
 obtain ⟨ρ,hρ⟩:=h.tree
 refine ⟨by rw [List.length_set]; exact h.lm,fun v hv h1=>?_,fun v hv h1 h2=>?_,fun v hv h1=>?_,fun v s hv h1=>?_,⟨fun v=>if v = toS I t then ρ (frS I t) + 1 else ρ v,fun v s hv h1=>?_⟩,fun s h1 h2 h3=>?_⟩
 ·rw [hg]; split
  ·rfl
  ·exact h.st v hv h1
 ·try dsimp only at h2
  split at h2
  ·cases h2
  ·rename_i hne
   rw [hg,if_neg hne] at h1
   exact h.no v hv h1 h2
 ·rw [hg] at h1
  split at h1
  ·cases h1
  ·rename_i hne
   try dsimp only
   rw [if_neg hne]; exact h.un v hv h1
 ·try dsimp only at h1
  split at h1
  ·rename_i he
   cases h1
   refine ⟨ht,he.symm,hrm,?_⟩
   rw [hg,if_neg hfne]; exact hf
  ·obtain ⟨q1,q2,q3,q4⟩:=h.by_ v s hv h1
   refine ⟨q1,q2,q3,?_⟩
   rw [hg]; split
   ·rfl
   ·exact q4
 ·try dsimp only at h1 ⊢
  split at h1
  ·rename_i he
   cases h1
   rw [if_neg hfne,if_pos he]
   exact Nat.lt_succ_self _
  ·rename_i hne
   obtain ⟨q1,q2,q3,q4⟩:=h.by_ v s hv h1
   have:frS I s ≠ toS I t:=fun e=>by rw [e,hm] at q4; cases q4
   rw [if_neg this,if_neg hne]
   exact hρ v s hv h1
 ·by_cases e:frS I s = toS I t
  ·exact .inr (hq s e)
  ·rw [hg,if_neg e] at h3
   rcases h.cl s h1 h2 h3 with h4 | h4
   ·left; rw [hg]; split
    ·rfl
    ·exact h4
   ·rcases hp s h4 with rfl | h5
    ·left; rw [hg,if_pos rfl]
    ·exact .inr h5
theorem SeG.take {I:Inst} {o:List Int} {m:List Bool} (h:SeG I o m) {k:Nat} (hk:k < m.length) (ho:0 <= o.getD k 0):SeG I o (m.set k true):=fun v hv hm=>by
 rw [zb8 hk] at hm
 split at hm
 ·rename_i e; rw [e]; exact ho
 ·exact h v hv hm
structure FillI (I:Inst) (x o:List Int):Prop where
 inv:∃ B,NInv I x o B/\0 <= B/\B + zah o I.sup.length <= 144115188075855872
theorem FillI.xb {I:Inst} {x o:List Int} (h:FillI I x o):YB x:=by
 obtain ⟨B,hN,hB,hb⟩:=h.inv
 have hps:=z55 o I.sup.length
 exact yb_of fun i hi=>by have:=hN.bd i (by rw [<- hN.over.lx]; exact hi); omega
theorem FillI.ob {I:Inst} {x o:List Int} (hr:z0b I = 0) (h:FillI I x o):YB o:=by
 obtain ⟨B,hN,hB,hb⟩:=h.inv
 have hps:=z55 o I.sup.length
 exact yb_of fun k hk=>by have:=over_bd hr hN.over (v:=k) (by rw [<- hN.over.lo]; exact hk); omega
structure LayI (I:Inst) (x o:List Int) (m:List Bool) (b:Nat->Option Stp) (L X:List Nat) (p:Stp->Prop):Prop where
 i:SeI I x o m b (fun s=>frS I s ∈ L ∨ frS I s ∈ X ∨ p s)
 g:SeG I o m
 l:∀ v ∈ L,v < I.sup.length/\m.getD v false = true
 x:∀ v ∈ X,v < I.sup.length/\m.getD v false = true
section
variable {I:Inst} {x o:List Int} {m:List Bool} {b:Nat->Option Stp}
theorem LayI.pass {L X:List Nat} {l:List Stp} {j:Nat} {t:Stp} (h:LayI I x o m b L X (fun s=>s ∈ l.drop j)) (ht:l[j]? = some t) (hp:m.getD (toS I t) false = true ∨ ¬ 0 < rmS I x t):LayI I x o m b L X (fun s=>s ∈ l.drop (j + 1)):=by
 have hd:l.drop j = t :: l.drop (j + 1):=z32 ht
 refine ⟨h.i.skip fun s _ h2=>?_,h.g,h.l,h.x⟩
 rcases h2 with h2 | h2 | h2
 ·exact .inr (.inr (.inl h2))
 ·exact .inr (.inr (.inr (.inl h2)))
 ·rw [hd] at h2
  rcases List.mem_cons.1 h2 with e | h2
  ·subst e; rcases hp with hp | hp
   ·exact .inl hp
   ·exact .inr (.inl hp)
  ·exact .inr (.inr (.inr (.inr h2)))
theorem LayI.take (hr:z0b I = 0) {L X:List Nat} {l:List Stp} {j:Nat} {t:Stp} (h:LayI I x o m b L X (fun s=>s ∈ l.drop j)) (ht:l[j]? = some t) (hok:okS I t) (hf:m.getD (frS I t) false = true) (hm:m.getD (toS I t) false = false) (hrm:0 < rmS I x t) (ho:0 <= o.getD (toS I t) 0) :
  LayI I x o (m.set (toS I t) true) (fun v=>if v = toS I t then some t else b v) L (X ++ [toS I t]) (fun s=>s ∈ l.drop (j + 1)):=by
 have hd:l.drop j = t :: l.drop (j + 1):=z32 ht
 have hlt:=toS_lt hr hok
 have hml:toS I t < m.length:=by rw [h.i.lm]; exact hlt
 have hset:∀ v,m.getD v false = true->(m.set (toS I t) true).getD v false = true:=fun v hv=>by
  rw [zb8 hml]; split
  ·rfl
  ·exact hv
 refine ⟨h.i.take hr hok hf hm hrm (fun s h2=>?_) (fun s e=>.inr (.inl (by rw [e]; simp))),h.g.take hml ho,fun v hv=>⟨(h.l v hv).1,hset v (h.l v hv).2⟩,fun v hv=>?_⟩
 ·rcases h2 with h2 | h2 | h2
  ·exact .inr (.inl h2)
  ·exact .inr (.inr (.inl (by simp [h2])))
  ·rw [hd] at h2
   rcases List.mem_cons.1 h2 with e | h2
   ·exact .inl e
   ·exact .inr (.inr (.inr h2))
 ·rcases List.mem_append.1 hv with hv | hv
  ·exact ⟨(h.x v hv).1,hset v (h.x v hv).2⟩
  ·simp at hv
   subst hv
   exact ⟨hlt,by rw [zb8 hml,if_pos rfl]⟩
theorem LayI.next {L X:List Nat} {i:Nat} (h:LayI I x o m b (L.drop i) X (fun _=>False)) (hi:L.length <= i):LayI I x o m b X [] (fun _=>False):=by
 rw [List.drop_eq_nil_of_le hi] at h
 refine ⟨h.i.skip fun s _ h2=>?_,h.g,h.x,fun v hv=>by simp at hv⟩
 rcases h2 with h2 | h2 | h2
 ·simp at h2
 ·exact .inr (.inr (.inl h2))
 ·exact h2.elim
end
end Go.Ql
end
section
namespace Go.Ql
open Go Go.Vc
structure LowI (I:Inst) (a:Nat) (x o:List Int):Prop where
 over:OverOf I x o
 at_:∀ c,c < I.arcs.length->x.getD c 0 = if c < a then (z4q I c).low else 0
 bd:∀ v,v < I.sup.length->-(4398046511104 * (2 * (a:Int) + 1)) <= o.getD v 0/\o.getD v 0 <= 4398046511104 * (2 * (a:Int) + 1)
 pos:zah o I.sup.length <= 4398046511104 * ((I.sup.length:Int) + a)
theorem LowI.next {I:Inst} (hr:z0b I = 0) {a:Nat} {x o:List Int} (h:LowI I a x o) (ha:a < I.arcs.length):LowI I (a + 1) (z9y x (a,false) (z4q I a).low) (zas I o (a,false) (z4q I a).low):=by
 have hk:=z4v hr ha
 have hl0:=hk.l0; have hl1:=hk.l1
 refine ⟨h.over.push hr (s:=(a,false)) ha _,fun c hc=>?_,fun v hv=>?_,?_⟩
 ·rw [z6h (by rw [h.over.lx]; exact ha),h.at_ c hc]
  by_cases e:c = a
  ·subst e; rw [if_neg (Nat.lt_irrefl _),if_pos rfl,if_pos (Nat.lt_succ_self _)]; simp
  ·rw [if_neg (show ¬ c = ((a,false):Stp).1 from e)]
   by_cases h2:c < a
   ·rw [if_pos h2,if_pos (by omega)]; omega
   ·rw [if_neg h2,if_neg (by omega)]; rfl
 ·have:=h.bd v hv
  rw [z8a (by rw [h.over.lo]; exact hv)]
  have e:((a + 1:Nat):Int) = a + 1:=by omega
  rw [e]
  repeat' split <;> omega
 ·have:=posS_push hr h.over.lo (s:=(a,false)) ha hl0
  have:=h.pos
  have e:((a + 1:Nat):Int) = a + 1:=by omega
  rw [e]
  omega
theorem LowI.xb {I:Inst} (hr:z0b I = 0) {a:Nat} {x o:List Int} (h:LowI I a x o) (ha:a <= I.arcs.length):XB x/\XB o:=by
 have hs:=z11 hr
 refine ⟨xb_of fun k hk=>?_,xb_of fun k hk=>?_⟩
 ·have hk2:k < I.arcs.length:=by rw [<- h.over.lx]; exact hk
  have:=z4v hr hk2
  have:=this.l0; have:=(z4v hr hk2).l1
  rw [h.at_ k hk2]
  split <;> omega
 ·have:=h.bd k (by rw [<- h.over.lo]; exact hk)
  omega
end Go.Ql
end
section
namespace Go.Ql
open Go Go.Vc
theorem YB.nil:YB []:=fun y hy=>by simp at hy
end Go.Ql
end
section
namespace Go.Ql
open Go Go.Vc
theorem YB.a64 {x:List Int} (h:YB x):A64 x:=fun y hy=>by have:=h y hy; unfold I64; omega
theorem za3 {I:Inst} {x p:List Int} (h:z0y I x p = 0):z16 I x = 0:=by
 unfold z0y at h
 split at h
 ·rename_i hn; exact absurd h hn
 ·rename_i hn; exact Classical.byContradiction hn
structure ValueP (I:Inst) (w:Wide) (k:Int):Prop where
 ex:∃ c,z0m c/\z14 I c = 0/\c.kind = k/\w = zan I c
 yb:∃ c,z0m c/\z14 I c = 0/\YB c.flow/\YB c.pot/\∀ C:Int,0 <= C->(∀ s,okS I s->-C <= csS I s/\csS I s <= C)->∀ k,-(C * 32768) <= c.pot.getD k 0/\c.pot.getD k 0 <= C * 32768
theorem ValueP.one {I:Inst} {w:Wide} {k:Int} (h:ValueP I w k) {c:Cert} (hc:z0m c) (h1:z14 I c = 0):k = c.kind/\w = zan I c:=by
 obtain ⟨d,q1,q2,rfl,rfl⟩:=h.ex
 exact cert_one q1 hc q2 h1
theorem ValueP.pos {I:Inst} {w:Wide} {k:Int} (h:ValueP I w k):z0b I = 0/\(k = 1 ∨ k = 2 ∨ k = 3):=by
 obtain ⟨d,q1,q2,rfl,rfl⟩:=h.ex
 obtain ⟨hr,hp,-⟩:=z3l q2
 exact ⟨hr,z7f hp⟩
def FeasQ (I:Inst):Prop:=∃ x,A64 x/\z16 I x = 0
def NegQ (I:Inst):Prop:=∃ l,z1t I l = 0/\l.length <= 140737488351232
theorem ValueP.feas {I:Inst} {w:Wide} {k:Int} (h:ValueP I w k) (hk:k ≠ 2):FeasQ I:=by
 obtain ⟨d,q1,q2,rfl,-⟩:=h.ex
 obtain ⟨hr,-,q3⟩:=z3l q2
 rcases q3 with ⟨-,a⟩ | ⟨a,-⟩ | ⟨-,a,-⟩
 ·exact ⟨_,q1.1,za3 a⟩
 ·omega
 ·exact ⟨_,q1.1,a⟩
theorem ValueP.neg {I:Inst} {w:Wide} {k:Int} (h:ValueP I w k) (hk:k ≠ 2):k = 3 ↔ NegQ I:=by
 refine ⟨fun h3=>?_,fun ⟨l,hl,hll⟩=>?_⟩
 ·obtain ⟨d,q1,q2,rfl,-⟩:=h.ex
  obtain ⟨hr,-,q3⟩:=z3l q2
  rcases q3 with ⟨a,-⟩ | ⟨a,-⟩ | ⟨-,-,a⟩
  ·omega
  ·omega
  ·exact ⟨_,a,q1.2.2.2.2.2⟩
 ·obtain ⟨x,hx,hf⟩:=h.feas hk
  have hlen:=(fitsF_zero.1 hf).2.1
  have hr:=(fitsF_zero.1 hf).1
  have hs:=z11 hr
  have hc:z14 I ⟨3,x,[],[],l⟩ = 0:=by
   unfold z14 z3g
   simp [hr,hf,hl]
  exact (h.one (c:=⟨3,x,[],[],l⟩) ⟨hx,YB.nil.a64,by dsimp only; omega,by simp,by simp,hll⟩ hc).1
structure ArcFew (n:Int) (a:Arc):Prop where
 s0:0 <= a.src
 s1:a.src < n
 d0:0 <= a.dst
 d1:a.dst < n
 l0:0 <= a.low
 l1:a.low <= 500
 c:a.cap = inf ∨ a.low <= a.cap/\a.cap <= 2000
 k0:-2000 <= a.cost
 k1:a.cost <= 2000
structure FewI (I:Inst):Prop where
 n1:1 <= I.sup.length
 n2:I.sup.length <= 30
 m:I.arcs.length <= 64
 arc:∀ a ∈ I.arcs,ArcFew I.sup.length a
 sup:Within 100000 I.sup
 sum:I.sup.sum = 0
theorem FewI.right {I:Inst} (h:FewI I):z0b I = 0:=by
 have:=h.n2; have:=h.m
 refine right_of (by omega) (by omega) (fun a ha=>?_) (fun x hx=>by have:=h.sup x hx; omega) h.sum
 have h:=h.arc a ha
 have hi:inf = 4611686018427387904:=rfl
 have:=h.s0; have:=h.s1; have:=h.d0; have:=h.d1; have:=h.l0; have:=h.l1; have:=h.c; have:=h.k0; have:=h.k1
 unfold z0j
 rw [if_neg (by omega),if_neg (by omega),if_neg (by omega),if_neg (by omega)]
theorem ValueP.none {I:Inst} {w:Wide} {k:Int} (h:ValueP I w k) (hk:k ≠ 1):w = ⟨0,0⟩:=by
 obtain ⟨d,q1,q2,rfl,rfl⟩:=h.ex
 unfold zan; rw [if_neg hk]
end Go.Ql
end
section
namespace Go.Ql
open Go Go.Vc
def z4g {α:Type} (f:α->α) (s:List α) (k:Nat):List α:=(s.take k).map f ++ s.drop k
section
variable {α:Type} (f:α->α) (s:List α)
theorem stepL_zero:z4g f s 0 = s:=by simp [z4g]
theorem zep (k:Nat):(z4g f s k).length = s.length:=by simp [z4g]; omega
theorem stepL_end {k:Nat} (h:s.length <= k):z4g f s k = s.map f:=by unfold z4g; rw [List.take_of_length_le h,List.drop_eq_nil_of_le h,List.append_nil]
variable {f s}
theorem stepL_get {k:Nat} {x:α} (h:(z4g f s k)[k]? = some x):s[k]? = some x:=by
 have hk:=(List.getElem?_eq_some_iff.1 h).1
 rw [zep] at hk
 unfold z4g at h
 rw [List.getElem?_append_right (by simp; omega)] at h
 rw [List.length_map,List.length_take,Nat.min_eq_left (by omega),Nat.sub_self,List.getElem?_drop,Nat.add_zero] at h
 exact h
theorem stepL_set {k:Nat} {x y:α} (h:s[k]? = some x) (hy:y = f x):(z4g f s k).set k y = z4g f s (k + 1):=by
 have hk:=(List.getElem?_eq_some_iff.1 h).1
 subst hy
 have hl:((s.take k).map f).length = k:=by simp; omega
 unfold z4g
 rw [List.set_append_right _ _ (by omega),hl,Nat.sub_self,z32 h,List.set_cons_zero,z2a h,List.map_append]
 simp
end
def swapA (a:Arc):Arc:=⟨a.dst,a.src,a.low,a.cap,a.cost⟩
end Go.Ql
end
section
namespace Go.Ql
open Go Go.Vc
end Go.Ql
end
section
namespace Go.Ql
open Go Go.Vc
end Go.Ql
end
section
namespace Go.Ql
open Go Go.Vc
end Go.Ql
end
section
namespace Go.Ql
open Go Go.Vc
structure ProbD where
 most:Bool
 inst:Inst
 s:Int
 t:Int
def zeu (a:Arc):Bool:=decide (a.low = 0) && decide (a.cost = 0)
def z4b (I:Inst):Bool:=I.sup.all (fun y=>decide (y = 0)) && I.arcs.all zeu
def z3w (I:Inst) (n:Int):Bool:=decide (0 <= n) && decide (n < I.sup.length)
structure FitP (p:ProbD):Prop where
 m:p.most = true
 r:z0b p.inst = 0
 b:z4b p.inst = true
 s:z3w p.inst p.s = true
 t:z3w p.inst p.t = true
 d:p.s ≠ p.t
def fitP (p:ProbD):Bool:=p.most && (decide (z0b p.inst = 0) && (z4b p.inst && ((z3w p.inst p.s && z3w p.inst p.t) && !decide (p.s = p.t))))
structure AllI (p:ProbD) (k:Nat):Prop where
 n:k <= 5
 m:1 <= k->p.most = true
 r:2 <= k->z0b p.inst = 0
 b:3 <= k->z4b p.inst = true
 st:4 <= k->(z3w p.inst p.s && z3w p.inst p.t) = true
 d:5 <= k->p.s ≠ p.t
theorem fitP_iff {p:ProbD}:fitP p = true ↔ FitP p:=by
 unfold fitP
 simp only [Bool.and_eq_true,decide_eq_true_eq,Bool.not_eq_true',decide_eq_false_iff_not]
 exact ⟨fun ⟨a,b,c,⟨d,e⟩,f⟩=>⟨a,b,c,d,e,f⟩,fun ⟨a,b,c,d,e,f⟩=>⟨a,b,c,⟨d,e⟩,f⟩⟩
def ofE (p:ProbD):Int:=if fitP p = true then (if 256 <= p.inst.arcs.length then 20 else 0) else 1
def backA (p:ProbD):Arc:=⟨p.t,p.s,0,4611686018427387904,-1⟩
def ofP (p:ProbD):Inst:=⟨p.inst.sup,p.inst.arcs ++ [backA p]⟩
def ofI (p:ProbD):Inst:=if ofE p = 0 then ofP p else ⟨[],[]⟩
theorem ofE_zero {p:ProbD}:ofE p = 0 ↔ FitP p/\p.inst.arcs.length < 256:=by
 unfold ofE
 rw [<- fitP_iff]
 by_cases h:fitP p = true
 ·rw [if_pos h]
  by_cases h2:256 <= p.inst.arcs.length
  ·rw [if_pos h2]; exact ⟨fun h=>absurd h (by decide),fun h=>by omega⟩
  ·rw [if_neg h2]; exact ⟨fun _=>⟨h,by omega⟩,fun _=>rfl⟩
 ·rw [if_neg h]; exact ⟨fun h=>absurd h (by decide),fun h2=>absurd h2.1 h⟩
theorem nodeP_iff {I:Inst} {n:Int}:z3w I n = true ↔ 0 <= n/\n < I.sup.length:=by
 unfold z3w; rw [Bool.and_eq_true,decide_eq_true_eq,decide_eq_true_eq]
theorem bareF_iff {I:Inst}:z4b I = true ↔ (∀ y ∈ I.sup,y = 0)/\∀ a ∈ I.arcs,a.low = 0/\a.cost = 0:=by
 unfold z4b zeu
 simp only [Bool.and_eq_true,List.all_eq_true,decide_eq_true_eq]
theorem right_arc' {I:Inst} (h:z0b I = 0) {a:Arc} (ha:a ∈ I.arcs):z0j a I.sup.length = 0:=by
 obtain ⟨h1,h2,h3⟩:=z19 h ha
 unfold z2g at h1
 simp only [Bool.and_eq_true,decide_eq_true_eq] at h1
 unfold z0j
 rw [if_neg (by omega),if_neg (by omega),if_neg (by omega),if_neg (by omega)]
theorem of_right {p:ProbD} (h:ofE p = 0):z0b (ofP p) = 0:=by
 obtain ⟨hf,hl⟩:=ofE_zero.1 h
 have hr:=hf.r
 have hs:=z11 hr
 have hw:=z39 hr
 have h1:=nodeP_iff.1 hf.s; have h2:=nodeP_iff.1 hf.t; have h3:=hf.d
 refine right_of hs.1 (by unfold ofP; simp; omega) (fun a ha=>?_) (fun x hx=>hw.1 x hx) hw.2
 unfold ofP at ha ⊢
 dsimp only at ha ⊢
 rcases List.mem_append.1 ha with ha | ha
 ·exact right_arc' hr ha
 ·rw [List.mem_singleton] at ha
  subst ha
  unfold z0j backA
  rw [if_neg (by dsimp only; omega),if_neg (by dsimp only; omega),if_neg (by dsimp only; omega),if_neg (by dsimp only; omega)]
theorem right_ok {I:Inst} (h:z0b I = 0):z2h I:=by
 obtain ⟨a1,a2,a3,-⟩:=right_A64 h
 have hs:=z11 h
 exact ⟨by omega,by omega,a3,a1,a2⟩
def z0s (p:ProbD) (c:Cert):Bool:=decide (ofE p = 0) && (decide (c.kind = 1) && decide (z14 (ofI p) c = 0))
structure GoodP (p:ProbD) (c:Cert):Prop where
 e:ofE p = 0
 k:c.kind = 1
 c:z14 (ofP p) c = 0
theorem goodP_iff {p:ProbD} {c:Cert}:z0s p c = true ↔ GoodP p c:=by
 unfold z0s
 simp only [Bool.and_eq_true,decide_eq_true_eq]
 constructor
 ·rintro ⟨a,b,d⟩; unfold ofI at d; rw [if_pos a] at d; exact ⟨a,b,d⟩
 ·rintro ⟨a,b,d⟩; unfold ofI; rw [if_pos a]; exact ⟨a,b,d⟩
theorem GoodP.slack {p:ProbD} {c:Cert} (h:GoodP p c):z0y (ofP p) c.flow c.pot = 0:=by
 obtain ⟨-,-,h3⟩:=z3l h.c
 have:=h.k
 rcases h3 with h3 | h3 | h3
 ·exact h3.2
 ·omega
 ·omega
theorem GoodP.len {p:ProbD} {c:Cert} (h:GoodP p c):c.flow.length = p.inst.arcs.length + 1/\c.pot.length = p.inst.sup.length:=by
 have hs:=h.slack
 have hf:=(fitsF_zero.1 (za3 hs)).2.1
 refine ⟨by rw [hf]; simp [ofP],?_⟩
 unfold z0y at hs
 rw [if_neg (fun hn=>hn (za3 (by unfold z0y; exact hs)))] at hs
 split at hs
 ·cases hs
 ·rename_i hh; exact Classical.byContradiction hh
def valP (p:ProbD) (c:Cert):Int:=if z0s p c = true then c.flow.getD p.inst.arcs.length 0 else 0
def z5c (p:ProbD) (c:Cert):List Int:=if z0s p c = true then c.flow.take p.inst.arcs.length else []
def sideC (p:ProbD) (c:Cert):List Bool:=c.pot.map (fun y=>decide (c.pot.getD p.t.toNat 0 < y))
def z42 (p:ProbD) (c:Cert):List Bool:=if z0s p c = true then sideC p c else []
structure OnP (p:ProbD) (S:List Bool):Prop where
 e:ofE p = 0
 l:S.length = p.inst.sup.length
 s:S.getD p.s.toNat false = true
 t:S.getD p.t.toNat false = false
instance (p:ProbD) (S:List Bool):Decidable (OnP p S):=decidable_of_iff (ofE p = 0/\S.length = p.inst.sup.length/\S.getD p.s.toNat false = true/\S.getD p.t.toNat false = false) ⟨fun ⟨a,b,c,d⟩=>⟨a,b,c,d⟩,fun ⟨a,b,c,d⟩=>⟨a,b,c,d⟩⟩
def z2c (p:ProbD) (S:List Bool):Option Int:=if OnP p S then z2q p.inst S else none
theorem allT {α:Type} {p:α->Bool} {l:List α} {k:Nat} {x:α} (h:l[k]? = some x):(l.take (k + 1)).all p = ((l.take k).all p && p x):=by rw [z2a h,List.all_append]; simp
theorem allN {α:Type} {p:α->Bool} {l:List α} {k:Nat} {x:α} (h:l[k]? = some x) (hp:p x = false):l.all p = false :=
 List.all_eq_false.2 ⟨x,List.mem_of_getElem? h,by simp [hp]⟩
theorem allE {α:Type} {p:α->Bool} {l:List α} {k:Nat} (h:(l.take k).all p = true) (hk:l.length <= k):l.all p = true:=by rw [List.take_of_length_le hk] at h; exact h
theorem bare_sup {I:Inst} {k:Nat} {x:Int} (h:I.sup[k]? = some x) (hx:¬ x = 0):z4b I = false:=by
 unfold z4b; rw [allN h (decide_eq_false hx)]; rfl
theorem bare_arc {I:Inst} {k:Nat} {a:Arc} (h:I.arcs[k]? = some a) (hx:¬ (a.low = 0/\a.cost = 0)):z4b I = false:=by
 unfold z4b; rw [allN (p:=zeu) h (by unfold zeu; rw [<- Bool.decide_and]; exact decide_eq_false hx)]; exact Bool.and_false _
theorem bare_end {I:Inst} {k j:Nat} (h1:(I.sup.take k).all (fun y=>decide (y = 0)) = true) (h2:I.sup.length <= k) (h3:(I.arcs.take j).all zeu = true) (h4:I.arcs.length <= j):z4b I = true:=by
 unfold z4b; rw [allE h1 h2,allE h3 h4]; rfl
theorem zeroA_of {a:Arc} (h1:a.low = 0) (h2:a.cost = 0):zeu a = true:=by unfold zeu; rw [h1,h2]; rfl
theorem AllI.fit {p:ProbD} (h:AllI p 5):fitP p = true:=by
 have h4:=h.st (by decide)
 rw [Bool.and_eq_true] at h4
 exact fitP_iff.2 ⟨h.m (by decide),h.r (by decide),h.b (by decide),h4.1,h4.2,h.d (by decide)⟩
theorem fit_no {p:ProbD} (h:¬ FitP p):fitP p = false:=by
 cases e:fitP p
 ·rfl
 ·exact absurd (fitP_iff.1 e) h
theorem good_no {p:ProbD} {c:Cert} (h:¬ GoodP p c):z0s p c = false:=by
 cases e:z0s p c
 ·rfl
 ·exact absurd (goodP_iff.1 e) h
theorem weigh_no {p:ProbD} {S:List Bool} (h:¬ OnP p S):z2c p S = none:=if_neg h
theorem weigh_on {p:ProbD} {S:List Bool} (h:OnP p S):z2c p S = z2q p.inst S:=if_pos h
theorem ofI_of {p:ProbD} (h:ofE p = 0):ofI p = ofP p:=if_pos h
theorem ofI_no {p:ProbD} (h:ofE p ≠ 0):ofI p = ⟨[],[]⟩:=if_neg h
theorem room_step {m:Int} {S:List Bool} {a:Arc} {l:List Arc} {s:Int} (hr:z0j a m = 0) (h0:a.low = 0) :
  z0u m S (a :: l) s = if S.getD a.src.toNat false = true/\S.getD a.dst.toNat false = false then (if a.cap = inf then none else z0u m S l (s + a.cap)) else z0u m S l s:=by
 have h:¬ (¬ (0 <= a.src/\a.src < m) ∨ ¬ (0 <= a.dst/\a.dst < m)):=fun h=>by unfold z0j at hr; rw [if_pos h] at hr; cases hr
 have e1:isN m a.src = true:=by unfold isN; rw [Bool.and_eq_true,decide_eq_true_eq,decide_eq_true_eq]; omega
 have e2:isN m a.dst = true:=by unfold isN; rw [Bool.and_eq_true,decide_eq_true_eq,decide_eq_true_eq]; omega
 have e3:onF S a.src = S.getD a.src.toNat false:=by unfold onF; rw [decide_eq_true (by omega)]; rfl
 have e4:onF S a.dst = S.getD a.dst.toNat false:=by unfold onF; rw [decide_eq_true (by omega)]; rfl
 rw [z3a]
 unfold outA inA
 rw [e1,e2,e3,e4,h0]
 cases S.getD a.src.toNat false <;> cases S.getD a.dst.toNat false <;> simp
end Go.Ql
end
