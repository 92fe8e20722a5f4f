/- Part of the proof: FK13, CertOne, Solve, Solve2, Solve3, Solve4, Solve5. -/
import Derived.Test.YtapeenpimcffpaaGreatZG7
import Derived.Test.YtapeenpimcffpaaGreatZG8
import Derived.Test.YtapeenpimcffpaaGreatZG5
set_option linter.unusedVariables false
set_option linter.all false
set_option linter.unusedSimpArgs false
set_option maxRecDepth 1000000
section
namespace Go.Proofs.YtapeenpimcffpaaGreat
open Go Go.RowKit Go.Ql Go.Vc
def zf8 (l : List Int) (ty0 : TypeId) : Prop :=
      ∃ (g0:Nat),
 (g0 <= l.length/\((0:Int) = (↑(z3o (List.take g0 l)):Int)/\True/\(↑l.length:Int) = (↑l.length:Int)/\(0:Int) = (↑g0:Int)/\True)/\l = l/\True) /\
 ∀ (g:Nat),
 g <= l.length ->
 (decide ((↑g:Int) < (↑l.length:Int)) = true ->
 ((0:Int) <= (↑g:Int)/\(↑g:Int) < (↑l.length:Int)) /\
 (↑g:Int).toNat < l.length /\
 ∀ (x:Int),
 l[(↑g:Int).toNat]? = some x ->
 ((x == (0:Int)) = true ->
 ∃ (g':Nat),
 g' <= l.length /\
 l.length - g' < l.length - g /\
 (IntKind.i64.wrap ((↑(z3o (List.take g l)):Int) + (1:Int)) = (↑(z3o (List.take g' l)):Int) /\
 True/\(↑l.length:Int) = (↑l.length:Int)/\IntKind.i64.wrap ((↑g:Int) + (1:Int)) = (↑g':Int)/\True) /\
 l = l/\True) /\
 ((x == (0:Int)) = false ->
 ∃ (g':Nat),
 g' <= l.length /\
 l.length - g' < l.length - g /\
 ((↑(z3o (List.take g l)):Int) = (↑(z3o (List.take g' l)):Int) /\
 True/\(↑l.length:Int) = (↑l.length:Int)/\IntKind.i64.wrap ((↑g:Int) + (1:Int)) = (↑g':Int)/\True) /\
 l = l/\True)) /\
 (decide ((↑g:Int) < (↑l.length:Int)) = false->((↑(z3o (List.take g l)):Int) = (↑(z3o l):Int)/\True)/\True)
theorem empty13_q (l:List Int) (ty0:TypeId):zf8 l ty0 = z2e TT zk9 (empty13_I l) (zf9 l) Tryz.f127 [.row 0] [(0,.row false ty0 (.ints .i64 l))] (zka l):=by kernel_rfl
theorem empty13_E (l:List Int) (ty0:TypeId) (hp:l.length <= 1000000000):FVc TT zk9 (empty13_I l) (zf9 l) Tryz.f127 [.row 0] [(0,.row false ty0 (.ints .i64 l))] (zka l):=by
 refine FVc.of (zf8 l ty0) (empty13_q l ty0) ?_
 unfold zf8
 simp only [eq_self,exists_const,forall_const,decide_eq_true_eq,decide_eq_false_iff_not,and_true,true_and,bne_iff_ne,ne_eq,bne_eq_false_iff_eq,Int.toNat_natCast,Bool.not_eq_true',Bool.not_eq_false',beq_iff_eq,beq_eq_false_iff_ne,z06]
 refine ⟨0,⟨by omega,rfl,rfl⟩,fun g hg=>⟨fun h1=>⟨by omega,by omega,fun x hx=>?_⟩,fun h1=>?_⟩⟩
 ·have hw:IntKind.i64.wrap ((g:Int) + 1) = ((g + 1:Nat):Int):=by rw [w64 (by omega) (by omega)]; omega
  have hz:=zerosF_snoc (l.take g) x
  rw [<- z1c hx] at hz
  have hle:=zerosF_le (l.take g)
  rw [List.length_take] at hle
  refine ⟨fun h2=>⟨g + 1,by omega,by omega,?_,hw⟩,fun h2=>⟨g + 1,by omega,by omega,?_,hw⟩⟩
  ·rw [hz,if_pos h2,w64 (by omega) (by omega)]; omega
  ·rw [hz,if_neg h2]; omega
 ·rw [List.take_of_length_le (by omega)]
theorem empty13_ok:SpecOk Tryz.prog empty13_n true (z02 true zfa) :=
 z0a z0j (show z18 Tryz.prog zk9 from z05) (by kernel_rfl) mixedOrders Tryz.func127 rfl rfl (by kernel_rfl) (n:=1) (by decide +kernel) (I:=empty13_IA) (fun _ _=>z07) (A:=empty13_A)
  (fun args h r hr=>by
   unfold zfa at hr
   split at hr
   ·rename_i ty0 l; cases hr; refine ⟨rfl,fun hp=>?_⟩; have hE:=empty13_E l ty0 hp; exact hE
   ·cases hr)
def zeh (c : Cert) (ty0 ty1 ty2 ty3 : TypeId) : Prop :=
      ((c.kind == (1:Int)) = true->(2:Nat) <= (1000000000:Nat)/\(((↑(z3o [(↑c.side.length:Int),(↑c.cycle.length:Int)]):Int) == (2:Int)) = z4f c/\True)/\True) /\
 ((c.kind == (1:Int)) = false ->
 ((c.kind == (2:Int)) = true ->
 (3:Nat) <= (1000000000:Nat)/\(((↑(z3o [(↑c.flow.length:Int),(↑c.pot.length:Int),(↑c.cycle.length:Int)]):Int) == (3:Int)) = z4f c/\True)/\True) /\
 ((c.kind == (2:Int)) = false ->
 ((c.kind == (3:Int)) = true ->
 (2:Nat) <= (1000000000:Nat)/\(((↑(z3o [(↑c.pot.length:Int),(↑c.side.length:Int)]):Int) == (2:Int)) = z4f c/\True)/\True) /\
 ((c.kind == (3:Int)) = false->(false = z4f c/\True)/\True)))
theorem Plain13_q (c:Cert) (ty0 ty1 ty2 ty3:TypeId):zeh c ty0 ty1 ty2 ty3 = z2e TT zik (Plain13_I c) (Plain13_an c) Tryz.f116 [.agg [.int .i64 c.kind,.row 0,.row 1,.row 2,.row 3]] [(0,.row false ty0 (.ints .i64 c.flow)),(1,.row false ty1 (.ints .i64 c.pot)),(2,.row false ty2 (.bools c.side)),(3,.row false ty3 (.ints .i64 c.cycle))] (zil c):=by kernel_rfl
theorem Plain13_E (c:Cert) (ty0 ty1 ty2 ty3:TypeId) (hp:True):FVc TT zik (Plain13_I c) (Plain13_an c) Tryz.f116 [.agg [.int .i64 c.kind,.row 0,.row 1,.row 2,.row 3]] [(0,.row false ty0 (.ints .i64 c.flow)),(1,.row false ty1 (.ints .i64 c.pot)),(2,.row false ty2 (.bools c.side)),(3,.row false ty3 (.ints .i64 c.cycle))] (zil c):=by
 refine FVc.of (zeh c ty0 ty1 ty2 ty3) (Plain13_q c ty0 ty1 ty2 ty3) ?_
 unfold zeh
 simp only [eq_self,exists_const,forall_const,decide_eq_true_eq,decide_eq_false_iff_not,and_true,true_and,bne_iff_ne,ne_eq,bne_eq_false_iff_eq,Int.toNat_natCast,Bool.not_eq_true',Bool.not_eq_false',beq_iff_eq,beq_eq_false_iff_ne,z06]
 unfold z4f
 have e2:∀ a b:Nat,(((z3o [(a:Int),(b:Int)]:Nat):Int) == 2) = (decide (a = 0) && decide (b = 0)):=fun a b=>by
  rw [z6l,z6l,zerosF_nil]
  by_cases ha:a = 0 <;> by_cases hb:b = 0 <;> simp [ha,hb]
 have e3:∀ a b c:Nat,(((z3o [(a:Int),(b:Int),(c:Int)]:Nat):Int) == 3) = (decide (a = 0) && decide (b = 0) && decide (c = 0)):=fun a b c=>by
  rw [z6l,z6l,z6l,zerosF_nil]
  by_cases ha:a = 0 <;> by_cases hb:b = 0 <;> by_cases hc:c = 0 <;> simp [ha,hb,hc]
 refine ⟨fun h1=>⟨by omega,by rw [if_pos h1,e2]⟩,fun h1=>⟨fun h2=>⟨by omega,by rw [if_neg h1,if_pos h2,e3]⟩,fun h2=>⟨fun h3=>⟨by omega,by rw [if_neg h1,if_neg h2,if_pos h3,e2]⟩,fun h3=>by rw [if_neg h1,if_neg h2,if_neg h3]⟩⟩⟩
theorem Plain13_ok:SpecOk Tryz.prog Plain13_n true (z02 true zei) :=
 z0a z0j (show z18 Tryz.prog zik from z00 empty13_ok (z05)) (by kernel_rfl) mixedOrders Tryz.func116 rfl rfl (by kernel_rfl) (n:=1) (by decide +kernel) (I:=Plain13_IA) (fun _ _=>z07) (A:=Plain13_A)
  (fun args h r hr=>by
   unfold zei at hr
   split at hr
   ·rename_i c_k ty0 c_f ty1 c_p ty2 c_s ty3 c_y; cases hr; refine ⟨rfl,fun hp=>?_⟩; have hE:=Plain13_E ⟨c_k,c_f,c_p,c_s,c_y⟩ ty0 ty1 ty2 ty3 hp; exact hE
   ·cases hr)
def zer (I : Inst) (c : Cert) (ty0 ty1 ty2 ty3 ty4 ty5 : TypeId) : Prop :=
   (I.sup.length <= (10000:Nat)/\I.arcs.length <= (10000:Nat)/\A64 c.flow/\A64 I.sup/\A64 c.pot/\A64c I.arcs)/\(z15 I c.flow c.pot = z15 I c.flow c.pot/\True)/\True
theorem askedC1_q (I:Inst) (c:Cert) (ty0 ty1 ty2 ty3 ty4 ty5:TypeId):zer I c ty0 ty1 ty2 ty3 ty4 ty5 = z2e TT zjj (askedC1_I I c) (askedC1_an I c) Tryz.f128 [.agg [.row 0,.row 1],.agg [.int .i64 c.kind,.row 2,.row 3,.row 4,.row 5]] [(0,.row false ty0 (.ints .i64 I.sup)),(1,.row false ty1 (.arcs I.arcs)),(2,.row false ty2 (.ints .i64 c.flow)),(3,.row false ty3 (.ints .i64 c.pot)),(4,.row false ty4 (.bools c.side)),(5,.row false ty5 (.ints .i64 c.cycle))] (zjk I c):=by kernel_rfl
theorem askedC1_E (I:Inst) (c:Cert) (ty0 ty1 ty2 ty3 ty4 ty5:TypeId) (hp:z1e c/\z48 I):FVc TT zjj (askedC1_I I c) (askedC1_an I c) Tryz.f128 [.agg [.row 0,.row 1],.agg [.int .i64 c.kind,.row 2,.row 3,.row 4,.row 5]] [(0,.row false ty0 (.ints .i64 I.sup)),(1,.row false ty1 (.arcs I.arcs)),(2,.row false ty2 (.ints .i64 c.flow)),(3,.row false ty3 (.ints .i64 c.pot)),(4,.row false ty4 (.bools c.side)),(5,.row false ty5 (.ints .i64 c.cycle))] (zjk I c):=by
 refine FVc.of (zer I c ty0 ty1 ty2 ty3 ty4 ty5) (askedC1_q I c ty0 ty1 ty2 ty3 ty4 ty5) ?_
 unfold zer
 obtain ⟨c1,c2,c3,c4,c5,c6⟩:=hp.1
 obtain ⟨i1,i2,i3,i4,i5⟩:=hp.2
 simp only [eq_self,exists_const,forall_const,decide_eq_true_eq,decide_eq_false_iff_not,and_true,true_and,bne_iff_ne,ne_eq,bne_eq_false_iff_eq,Int.toNat_natCast,Bool.not_eq_true',Bool.not_eq_false',beq_iff_eq,beq_eq_false_iff_ne,z06]
 exact ⟨i1,i2,c1,i3,c2,i5⟩
theorem askedC1_ok:SpecOk Tryz.prog askedC1_n true (z02 true zes) :=
 z0a z0j (show z18 Tryz.prog zjj from z00 Slack_ok (z05)) (by kernel_rfl) mixedOrders Tryz.func128 rfl rfl (by kernel_rfl) (n:=2) (by decide +kernel) (I:=askedC1_IA) (fun _ _=>z07) (A:=askedC1_A)
  (fun args h r hr=>by
   unfold zes at hr
   split at hr
   ·rename_i c_k ty0 I_s ty1 I_a ty2 c_f ty3 c_p ty4 c_s ty5 c_y; cases hr; refine ⟨rfl,fun hp=>?_⟩; have hE:=askedC1_E ⟨I_s,I_a⟩ ⟨c_k,c_f,c_p,c_s,c_y⟩ ty0 ty1 ty2 ty3 ty4 ty5 hp; exact hE
   ·cases hr)
def zet (I : Inst) (c : Cert) (ty0 ty1 ty2 ty3 ty4 ty5 : TypeId) : Prop :=
   (A64a I.arcs/\I.arcs.length <= (140737488351232:Nat)/\A64 I.sup/\I.sup.length <= (140737488351232:Nat))/\(z20 I c.side = z20 I c.side/\True)/\True
theorem askedC2_q (I:Inst) (c:Cert) (ty0 ty1 ty2 ty3 ty4 ty5:TypeId):zet I c ty0 ty1 ty2 ty3 ty4 ty5 = z2e TT zjl (askedC2_I I c) (askedC2_an I c) Tryz.f130 [.agg [.row 0,.row 1],.agg [.int .i64 c.kind,.row 2,.row 3,.row 4,.row 5]] [(0,.row false ty0 (.ints .i64 I.sup)),(1,.row false ty1 (.arcs I.arcs)),(2,.row false ty2 (.ints .i64 c.flow)),(3,.row false ty3 (.ints .i64 c.pot)),(4,.row false ty4 (.bools c.side)),(5,.row false ty5 (.ints .i64 c.cycle))] (zjm I c):=by kernel_rfl
theorem askedC2_E (I:Inst) (c:Cert) (ty0 ty1 ty2 ty3 ty4 ty5:TypeId) (hp:z1e c/\z48 I):FVc TT zjl (askedC2_I I c) (askedC2_an I c) Tryz.f130 [.agg [.row 0,.row 1],.agg [.int .i64 c.kind,.row 2,.row 3,.row 4,.row 5]] [(0,.row false ty0 (.ints .i64 I.sup)),(1,.row false ty1 (.arcs I.arcs)),(2,.row false ty2 (.ints .i64 c.flow)),(3,.row false ty3 (.ints .i64 c.pot)),(4,.row false ty4 (.bools c.side)),(5,.row false ty5 (.ints .i64 c.cycle))] (zjm I c):=by
 refine FVc.of (zet I c ty0 ty1 ty2 ty3 ty4 ty5) (askedC2_q I c ty0 ty1 ty2 ty3 ty4 ty5) ?_
 unfold zet
 obtain ⟨c1,c2,c3,c4,c5,c6⟩:=hp.1
 obtain ⟨i1,i2,i3,i4,i5⟩:=hp.2
 simp only [eq_self,exists_const,forall_const,decide_eq_true_eq,decide_eq_false_iff_not,and_true,true_and,bne_iff_ne,ne_eq,bne_eq_false_iff_eq,Int.toNat_natCast,Bool.not_eq_true',Bool.not_eq_false',beq_iff_eq,beq_eq_false_iff_ne,z06]
 exact ⟨i4,by omega,i3,by omega⟩
theorem askedC2_ok:SpecOk Tryz.prog askedC2_n true (z02 true zeu) :=
 z0a z0j (show z18 Tryz.prog zjl from z00 Proves_ok (z05)) (by kernel_rfl) mixedOrders Tryz.func130 rfl rfl (by kernel_rfl) (n:=2) (by decide +kernel) (I:=askedC2_IA) (fun _ _=>z07) (A:=askedC2_A)
  (fun args h r hr=>by
   unfold zeu at hr
   split at hr
   ·rename_i c_k ty0 I_s ty1 I_a ty2 c_f ty3 c_p ty4 c_s ty5 c_y; cases hr; refine ⟨rfl,fun hp=>?_⟩; have hE:=askedC2_E ⟨I_s,I_a⟩ ⟨c_k,c_f,c_p,c_s,c_y⟩ ty0 ty1 ty2 ty3 ty4 ty5 hp; exact hE
   ·cases hr)
def zev (I : Inst) (c : Cert) (ty0 ty1 ty2 ty3 ty4 ty5 : TypeId) : Prop :=
      (I.sup.length <= (10000:Nat)/\I.arcs.length <= (10000:Nat)/\A64 c.flow/\A64 I.sup) /\
 ((z19 I c.flow != (0:Int)) = true->((z19 I c.flow = if z19 I c.flow ≠ (0:Int) then z19 I c.flow else z1x I c.cycle)/\True)/\True) /\
 ((z19 I c.flow != (0:Int)) = false ->
 (c.cycle.length <= (140737488351232:Nat)/\A64c I.arcs)/\((z1x I c.cycle = if z19 I c.flow ≠ (0:Int) then z19 I c.flow else z1x I c.cycle)/\True)/\True)
theorem askedC3_q (I:Inst) (c:Cert) (ty0 ty1 ty2 ty3 ty4 ty5:TypeId):zev I c ty0 ty1 ty2 ty3 ty4 ty5 = z2e TT zjn (askedC3_I I c) (askedC3_an I c) Tryz.f132 [.agg [.row 0,.row 1],.agg [.int .i64 c.kind,.row 2,.row 3,.row 4,.row 5]] [(0,.row false ty0 (.ints .i64 I.sup)),(1,.row false ty1 (.arcs I.arcs)),(2,.row false ty2 (.ints .i64 c.flow)),(3,.row false ty3 (.ints .i64 c.pot)),(4,.row false ty4 (.bools c.side)),(5,.row false ty5 (.ints .i64 c.cycle))] (zjo I c):=by kernel_rfl
theorem askedC3_E (I:Inst) (c:Cert) (ty0 ty1 ty2 ty3 ty4 ty5:TypeId) (hp:z1e c/\z48 I):FVc TT zjn (askedC3_I I c) (askedC3_an I c) Tryz.f132 [.agg [.row 0,.row 1],.agg [.int .i64 c.kind,.row 2,.row 3,.row 4,.row 5]] [(0,.row false ty0 (.ints .i64 I.sup)),(1,.row false ty1 (.arcs I.arcs)),(2,.row false ty2 (.ints .i64 c.flow)),(3,.row false ty3 (.ints .i64 c.pot)),(4,.row false ty4 (.bools c.side)),(5,.row false ty5 (.ints .i64 c.cycle))] (zjo I c):=by
 refine FVc.of (zev I c ty0 ty1 ty2 ty3 ty4 ty5) (askedC3_q I c ty0 ty1 ty2 ty3 ty4 ty5) ?_
 unfold zev
 obtain ⟨c1,c2,c3,c4,c5,c6⟩:=hp.1
 obtain ⟨i1,i2,i3,i4,i5⟩:=hp.2
 simp only [eq_self,exists_const,forall_const,decide_eq_true_eq,decide_eq_false_iff_not,and_true,true_and,bne_iff_ne,ne_eq,bne_eq_false_iff_eq,Int.toNat_natCast,Bool.not_eq_true',Bool.not_eq_false',beq_iff_eq,beq_eq_false_iff_ne,z06]
 refine ⟨⟨i1,i2,c1,i3⟩,fun h=>by rw [if_pos h],fun h=>⟨⟨c6,i5⟩,by rw [if_neg (fun h2=>h2 h)]⟩⟩
theorem askedC3_ok:SpecOk Tryz.prog askedC3_n true (z02 true zew) :=
 z0a z0j (show z18 Tryz.prog zjn from z00 Fits_ok (z00 Turns_ok (z05))) (by kernel_rfl) mixedOrders Tryz.func132 rfl rfl (by kernel_rfl) (n:=2) (by decide +kernel) (I:=askedC3_IA) (fun _ _=>z07) (A:=askedC3_A)
  (fun args h r hr=>by
   unfold zew at hr
   split at hr
   ·rename_i c_k ty0 I_s ty1 I_a ty2 c_f ty3 c_p ty4 c_s ty5 c_y; cases hr; refine ⟨rfl,fun hp=>?_⟩; have hE:=askedC3_E ⟨I_s,I_a⟩ ⟨c_k,c_f,c_p,c_s,c_y⟩ ty0 ty1 ty2 ty3 ty4 ty5 hp; exact hE
   ·cases hr)
theorem askedC_ok:SpecOk Tryz.prog askedC_n false zjp :=
 z4y z0j (show z18 Tryz.prog askedC_g from z05) (by kernel_rfl) mixedOrders Tryz.func117 rfl rfl (by kernel_rfl) _
def Check_E0 (I : Inst) (c : Cert) (ty0 ty1 ty2 ty3 ty4 ty5 : TypeId) : Prop :=
      True /\
 ((z04 I != (0:Int)) = true->(z04 I = z1f I c/\True)/\True) /\
 ((z04 I != (0:Int)) = false ->
 True /\
 ((!z4f { kind:=c.kind,flow:=c.flow,pot:=c.pot,side:=c.side,cycle:=c.cycle:Cert }) = true->((36:Int) = z1f I c/\True)/\True) /\
 ((!z4f { kind:=c.kind,flow:=c.flow,pot:=c.pot,side:=c.side,cycle:=c.cycle:Cert }) = false ->
 ((∀ (p:List Int × Int),
 List.Mem p
 (mput (mput (mput [] [(1:Int)] ((↑(128:Nat):Int) + (1:Int))) [(2:Int)] ((↑(130:Nat):Int) + (1:Int))) [(3:Int)]
 ((↑(132:Nat):Int) + (1:Int))) ->
 (0:Int) < p.snd) /\
 ([c.kind] = [(1:Int)] ->
 (z1e { kind:=c.kind,flow:=c.flow,pot:=c.pot,side:=c.side,cycle:=c.cycle:Cert }/\z48 I) /\
 (z15 I c.flow c.pot = z1f I c/\True)/\True) /\
 ([c.kind] ≠ [(1:Int)] ->
 ([c.kind] = [(2:Int)] ->
 (z1e { kind:=c.kind,flow:=c.flow,pot:=c.pot,side:=c.side,cycle:=c.cycle:Cert }/\z48 I) /\
 (z20 I c.side = z1f I c/\True)/\True) /\
 ([c.kind] ≠ [(2:Int)] ->
 ([c.kind] = [(3:Int)] ->
 (z1e { kind:=c.kind,flow:=c.flow,pot:=c.pot,side:=c.side,cycle:=c.cycle:Cert }/\z48 I) /\
 ((if z19 I c.flow ≠ (0:Int) then z19 I c.flow else z1x I c.cycle) = z1f I c/\True)/\True) /\
 ([c.kind] ≠ [(3:Int)]->((36:Int) = z1f I c/\True)/\True)))) /\
 (∀ (p:List Int × Int),
 List.Mem p
 (mput (mput (mput [] [(1:Int)] ((↑(128:Nat):Int) + (1:Int))) [(2:Int)] ((↑(130:Nat):Int) + (1:Int))) [(3:Int)]
 ((↑(132:Nat):Int) + (1:Int))) ->
 (0:Int) < p.snd) /\
 ([c.kind] = [(1:Int)] ->
 (z1e { kind:=c.kind,flow:=c.flow,pot:=c.pot,side:=c.side,cycle:=c.cycle:Cert }/\z48 I) /\
 (z15 I c.flow c.pot = z1f I c/\True)/\True) /\
 ([c.kind] ≠ [(1:Int)] ->
 ([c.kind] = [(2:Int)] ->
 (z1e { kind:=c.kind,flow:=c.flow,pot:=c.pot,side:=c.side,cycle:=c.cycle:Cert }/\z48 I) /\
 (z20 I c.side = z1f I c/\True)/\True) /\
 ([c.kind] ≠ [(2:Int)] ->
 ([c.kind] = [(3:Int)] ->
 (z1e { kind:=c.kind,flow:=c.flow,pot:=c.pot,side:=c.side,cycle:=c.cycle:Cert }/\z48 I) /\
 ((if z19 I c.flow ≠ (0:Int) then z19 I c.flow else z1x I c.cycle) = z1f I c/\True)/\True) /\
 ([c.kind] ≠ [(3:Int)]->((36:Int) = z1f I c/\True)/\True)))))
theorem Check_q (I:Inst) (c:Cert) (ty0 ty1 ty2 ty3 ty4 ty5:TypeId):Check_E0 I c ty0 ty1 ty2 ty3 ty4 ty5 = z2e TT Check_g (Check_I I c) (Check_an I c) Tryz.f97 [.agg [.row 0,.row 1],.agg [.int .i64 c.kind,.row 2,.row 3,.row 4,.row 5]] [(0,.row false ty0 (.ints .i64 I.sup)),(1,.row false ty1 (.arcs I.arcs)),(2,.row false ty2 (.ints .i64 c.flow)),(3,.row false ty3 (.ints .i64 c.pot)),(4,.row false ty4 (.bools c.side)),(5,.row false ty5 (.ints .i64 c.cycle))] (Check_r I c):=by kernel_rfl
theorem Check_E (I:Inst) (c:Cert) (ty0 ty1 ty2 ty3 ty4 ty5:TypeId) (hp:z1e c/\z48 I):FVc TT Check_g (Check_I I c) (Check_an I c) Tryz.f97 [.agg [.row 0,.row 1],.agg [.int .i64 c.kind,.row 2,.row 3,.row 4,.row 5]] [(0,.row false ty0 (.ints .i64 I.sup)),(1,.row false ty1 (.arcs I.arcs)),(2,.row false ty2 (.ints .i64 c.flow)),(3,.row false ty3 (.ints .i64 c.pot)),(4,.row false ty4 (.bools c.side)),(5,.row false ty5 (.ints .i64 c.cycle))] (Check_r I c):=by
 refine FVc.of (Check_E0 I c ty0 ty1 ty2 ty3 ty4 ty5) (Check_q I c ty0 ty1 ty2 ty3 ty4 ty5) ?_
 unfold Check_E0
 obtain ⟨c1,c2,c3,c4,c5,c6⟩:=hp.1
 have hc:z1e ⟨c.kind,c.flow,c.pot,c.side,c.cycle⟩:=hp.1
 have mem:∀ x y z:Nat,∀ p:List Int × Int,List.Mem p (mput (mput (mput [] [1] ((x:Int) + 1)) [2] ((y:Int) + 1)) [3] ((z:Int) + 1))->0 < p.2:=fun x y z p hp=>by
  have h:p ∈ [([(1:Int)],(x:Int) + 1),([2],(y:Int) + 1),([3],(z:Int) + 1)]:=hp
  simp only [List.mem_cons,List.not_mem_nil,or_false] at h
  rcases h with rfl | rfl | rfl <;> dsimp only <;> omega
 refine ⟨trivial,fun h=>⟨?_,trivial⟩,fun h=>⟨trivial,fun h2=>⟨?_,trivial⟩,fun h2=>?_⟩⟩
 ·have h3:¬ z04 I = 0:=by simpa using h
  unfold z1f; rw [if_pos h3]; exact ⟨rfl,trivial⟩
 ·have h3:z04 I = 0:=by simpa using h
  have h4:z4f c = false:=by simpa using h2
  unfold z1f; rw [if_neg (fun h5=>h5 h3),if_pos h4]; exact ⟨rfl,trivial⟩
 ·have h3:z04 I = 0:=by simpa using h
  have h4:z4f c = true:=by simpa using h2
  have e0:z1f I c = if c.kind = 1 then z15 I c.flow c.pot else if c.kind = 2 then z20 I c.side else if z19 I c.flow ≠ 0 then z19 I c.flow else z1x I c.cycle:=by
   unfold z1f; rw [if_neg (fun h5=>h5 h3),if_neg (by rw [h4]; simp)]
  have hk:=zc0 h4
  have f1:([c.kind] = [(1:Int)]->(z1e c/\z48 I)/\(z15 I c.flow c.pot = z1f I c/\True)/\True):=fun h=>by
   have h:c.kind = 1:=by simpa using h
   exact ⟨hp,⟨by rw [e0,if_pos h],trivial⟩,trivial⟩
  have f2:[c.kind] ≠ [(1:Int)]->([c.kind] = [(2:Int)]->(z1e c/\z48 I)/\(z20 I c.side = z1f I c/\True)/\True):=fun _ h=>by
   have h:c.kind = 2:=by simpa using h
   exact ⟨hp,⟨by rw [e0,if_neg (by omega),if_pos h],trivial⟩,trivial⟩
  have f3:[c.kind] ≠ [(2:Int)]->([c.kind] = [(3:Int)]->(z1e c/\z48 I)/\((if z19 I c.flow ≠ (0:Int) then z19 I c.flow else z1x I c.cycle) = z1f I c/\True)/\True):=fun _ h=>by
   have h:c.kind = 3:=by simpa using h
   exact ⟨hp,⟨by rw [e0,if_neg (show ¬ c.kind = 1 by omega),if_neg (show ¬ c.kind = 2 by omega)],trivial⟩,trivial⟩
  have f4:[c.kind] ≠ [(1:Int)]->[c.kind] ≠ [(2:Int)]->[c.kind] ≠ [(3:Int)]->((36:Int) = z1f I c/\True)/\True:=fun g1 g2 g3=>by
   rcases hk with h | h | h
   ·exact absurd (by rw [h]) g1
   ·exact absurd (by rw [h]) g2
   ·exact absurd (by rw [h]) g3
  exact ⟨⟨mem _ _ _,f1,fun g1=>⟨f2 g1,fun g2=>⟨f3 g2,fun g3=>f4 g1 g2 g3⟩⟩⟩,mem _ _ _,f1,fun g1=>⟨f2 g1,fun g2=>⟨f3 g2,fun g3=>f4 g1 g2 g3⟩⟩⟩
theorem Check_ok:SpecOk Tryz.prog Check_n true (z02 true zhe) :=
 z0a z0j (show z18 Tryz.prog Check_g from z00 za5 (z00 Plain13_ok (z00 askedC_ok (z00 askedC1_ok (z00 askedC2_ok (z00 askedC3_ok (z05))))))) (by kernel_rfl) mixedOrders Tryz.func97 rfl rfl (by kernel_rfl) (n:=2) (by decide +kernel) (I:=Check_IA) (fun _ _=>z07) (A:=Check_A)
  (fun args h r hr=>by
   unfold zhe at hr
   split at hr
   ·rename_i c_k ty0 I_s ty1 I_a ty2 c_f ty3 c_p ty4 c_s ty5 c_y; cases hr; refine ⟨rfl,fun hp=>?_⟩; have hE:=Check_E ⟨I_s,I_a⟩ ⟨c_k,c_f,c_p,c_s,c_y⟩ ty0 ty1 ty2 ty3 ty4 ty5 hp; exact hE
   ·cases hr)
end Go.Proofs.YtapeenpimcffpaaGreat
end
section
namespace Go.Ql
open Go Go.Vc
theorem z4c {I:Inst} {c:Cert} (h:z1f I c = 0):z04 I = 0/\z4f c = true/\(c.kind = 1/\z15 I c.flow c.pot = 0 ∨ c.kind = 2/\z20 I c.side = 0 ∨ c.kind = 3/\z19 I c.flow = 0/\z1x I c.cycle = 0):=by
 unfold z1f at h
 by_cases h1:z04 I = 0
 ·rw [if_neg (fun h2=>h2 h1)] at h
  cases hp:z4f c with
  | false=>rw [hp] at h; simp at h
  | true =>
   rw [hp] at h
   simp only [Bool.true_eq_false,if_false] at h
   refine ⟨h1,rfl,?_⟩
   rcases zc0 hp with hk | hk | hk
   ·left; rw [if_pos hk] at h; exact ⟨hk,h⟩
   ·right; left; rw [if_neg (by omega),if_pos hk] at h; exact ⟨hk,h⟩
   ·right; right
    rw [if_neg (by omega),if_neg (by omega)] at h
    refine ⟨hk,?_⟩
    by_cases hf:z19 I c.flow = 0
    ·rw [if_neg (fun h2=>h2 hf)] at h; exact ⟨hf,h⟩
    ·rw [if_pos hf] at h; exact absurd h hf
 ·rw [if_pos h1] at h; exact absurd h h1
theorem z7o {I:Inst} {x pot:List Int} (h:z15 I x pot = 0):z19 I x = 0/\pot.length = I.sup.length/\∀ k,k < I.arcs.length->z4g I x pot k = true:=by
 unfold z15 at h
 by_cases h1:z19 I x = 0
 ·rw [if_neg (fun h2=>h2 h1)] at h
  by_cases h2:pot.length = I.sup.length
  ·rw [if_neg (fun h3=>h3 h2)] at h
   refine ⟨h1,h2,fun k hk=>?_⟩
   split at h
   ·rename_i h3; exact List.all_eq_true.1 h3 k (List.mem_range.2 hk)
   ·omega
  ·rw [if_pos h2] at h; omega
 ·rw [if_pos h1] at h; exact absurd h h1
theorem turns_zero {I:Inst} {l:List Int} (h:z1x I l = 0):z04 I = 0/\0 < l.length/\l.length <= I.arcs.length/\c1F I l = true/\c2F l = true/\c3F I l = true/\c4F I l = true/\c5F I l = true:=by
 unfold z1x at h
 by_cases h1:z04 I = 0
 ·rw [if_neg (fun h2=>h2 h1)] at h
  by_cases h2:l.length = 0 ∨ I.arcs.length < l.length
  ·rw [if_pos h2] at h; omega
  ·rw [if_neg h2] at h
   split at h
   ·rename_i h3
    simp only [Bool.and_eq_true] at h3
    exact ⟨h1,by omega,by omega,h3.1.1.1.1,h3.1.1.1.2,h3.1.1.2,h3.1.2,h3.2⟩
   ·omega
 ·rw [if_pos h1] at h; exact absurd h h1
theorem potR_I64 {pot:List Int} (h:A64 pot) (n:Int):I64 (potR pot n):=by
 unfold potR
 split
 ·exact h.getD _
 ·unfold I64; omega
theorem redP_I128 {I:Inst} {pot:List Int} (hr:z04 I = 0) (hp:A64 pot) {a:Arc} (ha:a ∈ I.arcs):zb1 (redP pot a):=by
 have h1:=potR_I64 hp a.src
 have h2:=potR_I64 hp a.dst
 have h3:=z1b hr ha
 unfold redP redA zb1
 unfold I64 at h1 h2
 omega
theorem rayK_bd {I:Inst} (hr:z04 I = 0) (l:List Int):∀ k:Nat,-(4398046511104 * (k:Int)) <= z8y I l k/\z8y I l k <= 4398046511104 * (k:Int)
 | 0=>by simp [z8y]
 | k + 1=>by
  have ih:=rayK_bd hr l k
  have hd:-4398046511104 <= rayD I (l.getD k 0)/\rayD I (l.getD k 0) <= 4398046511104:=by
   unfold rayD
   split
   ·rename_i h
    obtain ⟨h1,h2⟩:=isArcF_iff.1 h
    obtain ⟨a,ha⟩:∃ a,I.arcs[(l.getD k 0).toNat]? = some a:=⟨_,List.getElem?_eq_getElem (by omega)⟩
    rw [z61 ha]
    have:=z1b hr (List.mem_of_getElem? ha)
    omega
   ·omega
  rw [z8y]
  push_cast
  omega
theorem no_both {I:Inst} {x pot l:List Int} (hp:A64 pot) (hs:z15 I x pot = 0) (ht:z1x I l = 0):False:=by
 obtain ⟨hr,hl0,hl1,c1,c2,c3,c4,c5⟩:=turns_zero ht
 obtain ⟨hf,hpl,hk⟩:=z7o hs
 have hrs:=z0c hr
 let P:Nat->Int:=fun k=>potR pot (z4w I (l.getD k 0)).src
 have step:∀ k,k < l.length->0 <= rayD I (l.getD k 0) - P k + P ((k + 1) % l.length):=fun k hkl=>by
  have hx:l[k]? = some (l.getD k 0):=by rw [List.getD_eq_getElem?_getD,List.getElem?_eq_getElem hkl]; rfl
  have hm:=List.mem_of_getElem? hx
  generalize hy:l.getD k 0 = y at *
  have h1:=List.all_eq_true.1 c1 y hm
  obtain ⟨y0,y1⟩:=isArcF_iff.1 h1
  obtain ⟨a,ha⟩:∃ a,I.arcs[y.toNat]? = some a:=⟨_,List.getElem?_eq_getElem (by omega)⟩
  have hma:=List.mem_of_getElem? ha
  have hat:=z61 (x:=y) ha
  have hcap:a.cap = inf:=by
   have:=List.all_eq_true.1 c4 y hm
   rw [hat] at this
   exact of_decide_eq_true this
  have hlink:(z4w I y).dst = (z4w I (l.getD ((k + 1) % l.length) 0)).src:=by
   have:=List.all_eq_true.1 c3 k (List.mem_range.2 hkl)
   unfold linkF at this
   rw [hy] at this
   exact of_decide_eq_true this
  have hsk:=hk y.toNat (by omega)
  unfold z4g at hsk
  rw [redF_at ha (z1b hr hma).1,show I.arcs.getD y.toNat default = a by rw [List.getD_eq_getElem?_getD,ha]; rfl] at hsk
  have h2:¬ sgn (redP pot a) < 0:=fun h3=>by
   unfold z5l at hsk
   simp [h3,hcap] at hsk
  have h3:0 <= redP pot a:=by
   apply Classical.byContradiction
   intro h4
   exact h2 ((sgn_neg (redP_I128 hr hp hma)).2 (by omega))
  unfold redP redA at h3
  have e1:rayD I y = a.cost:=by unfold rayD; rw [h1,hat]; rfl
  have e2:P k = potR pot a.src:=by show potR pot (z4w I (l.getD k 0)).src = _; rw [hy,hat]
  have e3:P ((k + 1) % l.length) = potR pot a.dst:=by show potR pot (z4w I (l.getD ((k + 1) % l.length) 0)).src = _; rw [<- hlink,hat]
  rw [e1,e2,e3]
  exact h3
 have sums:∀ t,t <= l.length->0 <= z8y I l t + z1i (fun k=>P ((k + 1) % l.length) - P k) t:=fun t=>by
  induction t with
  | zero=>intro _; simp [z8y,z1i]
  | succ t ih =>
   intro h
   have h1:=ih (by omega)
   have h2:=step t (by omega)
   rw [z8y,z1i]
   omega
 have h1:=sums l.length (Nat.le_refl _)
 rw [zg7 P l.length (Nat.le_refl _) hl0,Nat.mod_self] at h1
 have h2:=rayK_bd hr l l.length
 unfold c5F rayS at c5
 have h3:=of_decide_eq_true c5
 rw [zbd (by unfold zb1; omega) (by unfold zb1; omega)] at h3
 have h4:¬ z8y I l l.length < 0:=by omega
 rw [if_neg h4] at h3
 split at h3 <;> omega
theorem cost_one {I:Inst} {x y p q:List Int} (hx:A64 x) (hy:A64 y) (hp:A64 p) (hq:A64 q) (h1:z15 I x p = 0) (h2:z15 I y q = 0):costF I x = costF I y:=by
 obtain ⟨f1,-,-⟩:=z7o h1
 obtain ⟨f2,-,-⟩:=z7o h2
 have hr:=(fitsF_iff.1 f1).1
 have a:=slack_best hy hx hp h1 f2
 have b:=slack_best hx hy hq h2 f1
 rw [zbd (z78 hr hx) (z78 hr hy)] at a
 rw [zbd (z78 hr hy) (z78 hr hx)] at b
 split at a <;> split at b <;> (try split at a) <;> (try split at b) <;> omega
theorem cert_one {I:Inst} {x y:Cert} (hx:z1e x) (hy:z1e y) (h1:z1f I x = 0) (h2:z1f I y = 0):x.kind = y.kind/\zh2 I x = zh2 I y:=by
 obtain ⟨hr,-,k1⟩:=z4c h1
 obtain ⟨-,-,k2⟩:=z4c h2
 have hrs:=z0c hr
 have hw:=(z1j hr).1
 have none_:∀ {s:List Bool} {f:List Int},A64 f->z20 I s = 0->z19 I f = 0->False:=fun hf h3 h4=>zc1 (by omega) (by omega) hf hw h3 h4
 rcases k1 with ⟨a1,b1⟩ | ⟨a1,b1⟩ | ⟨a1,b1,d1⟩ <;> rcases k2 with ⟨a2,b2⟩ | ⟨a2,b2⟩ | ⟨a2,b2,d2⟩
 ·refine ⟨by omega,?_⟩
  unfold zh2; rw [if_pos a1,if_pos a2,cost_one hx.1 hy.1 hx.2.1 hy.2.1 b1 b2]
 ·exact (none_ hx.1 b2 (z7o b1).1).elim
 ·exact (no_both hx.2.1 b1 d2).elim
 ·exact (none_ hy.1 b1 (z7o b2).1).elim
 ·refine ⟨by omega,?_⟩
  unfold zh2; rw [if_neg (by omega),if_neg (by omega)]
 ·exact (none_ hy.1 b1 b2).elim
 ·exact (no_both hy.2.1 b2 d1).elim
 ·exact (none_ hx.1 b2 b1).elim
 ·refine ⟨by omega,?_⟩
  unfold zh2; rw [if_neg (by omega),if_neg (by omega)]
end Go.Ql
end
section
namespace Go.Ql
open Go Go.Vc
abbrev Rows3:=List (List (List Int))
abbrev Stp:=Nat × Bool
def z1y (I:Inst) (a:Nat):Arc:=I.arcs.getD a default
def frS (I:Inst) (s:Stp):Nat:=if s.2 then (z1y I s.1).dst.toNat else (z1y I s.1).src.toNat
def toS (I:Inst) (s:Stp):Nat:=if s.2 then (z1y I s.1).src.toNat else (z1y I s.1).dst.toNat
def csS (I:Inst) (s:Stp):Int:=if s.2 then -(z1y I s.1).cost else (z1y I s.1).cost
def rmS (I:Inst) (x:List Int) (s:Stp):Int:=if s.2 then x.getD s.1 0 - (z1y I s.1).low else if (z1y I s.1).cap = inf then 1152921504606846976 else (z1y I s.1).cap - x.getD s.1 0
def okS (I:Inst) (s:Stp):Prop:=s.1 < I.arcs.length
def z4q (x:List Int) (s:Stp) (u:Int):List Int:=x.set s.1 (x.getD s.1 0 + (if s.2 then -u else u))
def z6n (I:Inst) (o:List Int) (s:Stp) (u:Int):List Int:=addAt (addAt o (frS I s) (-u)) (toS I s) u
theorem z28 {I:Inst} {a:Nat} {y:Arc} (h:I.arcs[a]? = some y):z1y I a = y:=by unfold z1y; rw [List.getD_eq_getElem?_getD,h]; rfl
theorem z7z {I:Inst} {a:Nat} (h:a < I.arcs.length):I.arcs[a]? = some (z1y I a)/\z1y I a ∈ I.arcs:=by
 have e:I.arcs[a]? = some (z1y I a):=by unfold z1y; rw [List.getD_eq_getElem?_getD,List.getElem?_eq_getElem h]; rfl
 exact ⟨e,List.mem_of_getElem? e⟩
structure ArcOk (n:Nat) (y:Arc):Prop where
 s0:0 <= y.src
 s1:y.src.toNat < n
 d0:0 <= y.dst
 d1:y.dst.toNat < n
 l0:0 <= y.low
 l1:y.low <= 4398046511104
 c:y.cap = inf ∨ y.low <= y.cap/\y.cap <= 4398046511104
 k0:-4398046511104 <= y.cost
 k1:y.cost <= 4398046511104
theorem z1l {I:Inst} (hr:z04 I = 0) {a:Nat} (h:a < I.arcs.length):ArcOk I.sup.length (z1y I a):=by
 have hm:=z1b hr (z7z h).2
 obtain ⟨p1,p2,p3,p4⟩:=okArc_iff.1 hm.1
 exact ⟨p1,by omega,p3,by omega,hm.2.1.1,hm.2.1.2.1,hm.2.1.2.2,hm.2.2.1,hm.2.2.2⟩
theorem z2y {I:Inst} (hr:z04 I = 0) {s:Stp} (h:okS I s):frS I s < I.sup.length:=by
 have:=z1l hr h
 unfold frS; split
 ·exact this.d1
 ·exact this.s1
theorem z5m {I:Inst} (hr:z04 I = 0) {s:Stp} (h:okS I s):toS I s < I.sup.length:=by
 have:=z1l hr h
 unfold toS; split
 ·exact this.s1
 ·exact this.d1
theorem zgo {I:Inst} (hr:z04 I = 0) {s:Stp} (h:okS I s):-4398046511104 <= csS I s/\csS I s <= 4398046511104:=by
 have:=z1l hr h
 have:=this.k0; have:=(z1l hr h).k1
 unfold csS; split <;> omega
theorem zkr (I:Inst) (a:Nat) (b:Bool):frS I (a,!b) = toS I (a,b)/\toS I (a,!b) = frS I (a,b)/\csS I (a,!b) = -csS I (a,b):=by
 cases b <;> simp [frS,toS,csS]
structure OverOf (I:Inst) (x o:List Int):Prop where
 lo:o.length = I.sup.length
 lx:x.length = I.arcs.length
 at_:∀ v:Nat,v < I.sup.length->o.getD v 0 = I.sup.getD v 0 - z73 I.sup.length I.arcs x I.arcs.length v
theorem zls (x:List Int) (s:Stp) (u:Int):(z4q x s u).length = x.length:=by simp [z4q]
theorem zlq (I:Inst) (o:List Int) (s:Stp) (u:Int):(z6n I o s u).length = o.length:=by simp [z6n,z60]
theorem zd5 {I:Inst} {o:List Int} {s:Stp} {u:Int} {v:Nat} (hv:v < o.length):(z6n I o s u).getD v 0 = o.getD v 0 - (if frS I s = v then u else 0) + (if toS I s = v then u else 0):=by
 unfold z6n
 rw [addAt_getD _ _ _ _ (by rw [z60]; exact hv),addAt_getD _ _ _ _ hv]
 split <;> split <;> omega
theorem z8i {x:List Int} {s:Stp} {u:Int} {a:Nat} (h:s.1 < x.length):(z4q x s u).getD a 0 = x.getD a 0 + (if a = s.1 then (if s.2 then -u else u) else 0):=by
 unfold z4q; exact zgq h _ a
theorem flowD_step {I:Inst} (hr:z04 I = 0) {s:Stp} (h:okS I s) (u:Int) (v:Nat):z57 I.sup.length (z1y I s.1) (if s.2 then -u else u) v = (if frS I s = v then u else 0) - (if toS I s = v then u else 0):=by
 have ok:=z1l hr h
 have h1:=ok.s0; have h2:=ok.d0; have h3:=ok.s1; have h4:=ok.d1
 have ho:z39 I.sup.length (z1y I s.1) = true:=okArc_iff.2 ⟨h1,by omega,h2,by omega⟩
 unfold z57 frS toS
 rw [ho,if_pos rfl]
 have e1:((z1y I s.1).src = (v:Int)) ↔ (z1y I s.1).src.toNat = v:=by omega
 have e2:((z1y I s.1).dst = (v:Int)) ↔ (z1y I s.1).dst.toNat = v:=by omega
 cases s.2
 ·simp only [Bool.false_eq_true,if_false,e1,e2]
 ·simp only [if_true,e1,e2]
  split <;> split <;> omega
theorem OverOf.push {I:Inst} (hr:z04 I = 0) {x o:List Int} (h:OverOf I x o) {s:Stp} (hs:okS I s) (u:Int):OverOf I (z4q x s u) (z6n I o s u):=by
 refine ⟨by rw [zlq]; exact h.lo,by rw [zls]; exact h.lx,fun v hv=>?_⟩
 have hx:s.1 < x.length:=by rw [h.lx]; exact hs
 rw [zd5 (by rw [h.lo]; exact hv),h.at_ v hv]
 have:=netK_set (n:=I.sup.length) (l:=I.arcs) (x:=x) (v:=v) hx (if s.2 then -u else u) I.arcs.length
 unfold z4q
 rw [this,if_pos (show s.1 < I.arcs.length from hs)]
 have:=flowD_step hr hs u v
 unfold z1y at this
 rw [this]
 omega
def Betw (I:Inst) (x:List Int):Prop:=∀ a,a < I.arcs.length->(z1y I a).low <= x.getD a 0/\((z1y I a).cap = inf ∨ x.getD a 0 <= (z1y I a).cap)
theorem Betw.room {I:Inst} (hr:z04 I = 0) {x:List Int} (h:Betw I x) {s:Stp} (hs:okS I s):0 <= rmS I x s:=by
 have:=h s.1 hs
 have ok:=z1l hr hs
 unfold rmS
 split
 ·omega
 ·split
  ·omega
  ·rename_i h2
   rcases this.2 with h3 | h3
   ·exact absurd h3 h2
   ·omega
theorem betw_push {I:Inst} {x:List Int} (h:Betw I x) (hl:x.length = I.arcs.length) {s:Stp} (hs:okS I s) {u:Int} (h0:0 <= u) (h1:u <= rmS I x s):Betw I (z4q x s u):=fun a ha=>by
 have hx:s.1 < x.length:=by rw [hl]; exact hs
 rw [z8i hx]
 have hb:=h a ha
 by_cases e:a = s.1
 ·subst e
  rw [if_pos rfl]
  unfold rmS at h1
  cases hb2:s.2 with
  | true =>
   rw [hb2,if_pos rfl] at h1
   simp only [if_true]
   exact ⟨by omega,hb.2.imp id (by omega)⟩
  | false =>
   rw [hb2,if_neg Bool.false_ne_true] at h1
   simp only [Bool.false_eq_true,if_false]
   refine ⟨by omega,?_⟩
   by_cases hc:(z1y I s.1).cap = inf
   ·exact .inl hc
   ·rw [if_neg hc] at h1; exact .inr (by omega)
 ·rw [if_neg e]; simpa using hb
theorem zko {I:Inst} (hr:z04 I = 0) {x o:List Int} (h:OverOf I x o) (hb:Betw I x) (h0:∀ v,v < I.sup.length->o.getD v 0 = 0):z19 I x = 0:=by
 refine fitsF_zero.2 ⟨hr,h.lx,fitsAll_iff.2 fun j a ha=>?_,netOk_iff.2 fun v hv=>?_⟩
 ·have hj:=(List.getElem?_eq_some_iff.1 ha).1
  have:=hb j hj
  rw [z28 ha] at this
  simp [fitF]; exact this
 ·have:=h.at_ v hv
  rw [h0 v hv] at this
  congr 1; omega
def z1t (I:Inst) (b:Nat->Option Stp):Nat->Nat->List Stp
 | 0,_=>[]
 | f + 1,v=>match b v with
  | none=>[]
  | some s=>s :: z1t I b f (frS I s)
def z13 (I:Inst) (b:Nat->Option Stp):Nat->Nat->Nat
 | 0,v=>v
 | f + 1,v=>match b v with
  | none=>v
  | some s=>z13 I b f (frS I s)
def Tree (I:Inst) (b:Nat->Option Stp) (ρ:Nat->Nat):Prop:=∀ v s,v < I.sup.length->b v = some s->okS I s/\toS I s = v/\ρ (frS I s) < ρ v
theorem ze6 {I:Inst} {b:Nat->Option Stp} {ρ:Nat->Nat} (hr:z04 I = 0) (h:Tree I b ρ):∀ (f v:Nat),v < I.sup.length->ρ v < f->z1t I b (f + 1) v = z1t I b f v/\z13 I b (f + 1) v = z13 I b f v/\b (z13 I b f v) = none/\z13 I b f v < I.sup.length
 | 0,v,_,hf=>by omega
 | f + 1,v,hv,hf=>by
  cases hb:b v with
  | none =>
   refine ⟨?_,?_,?_,?_⟩ <;> simp only [z1t,z13,hb]
   exact hv
  | some s =>
   obtain ⟨h1,h2,h3⟩:=h v s hv hb
   obtain ⟨i1,i2,i3,i4⟩:=ze6 hr h f (frS I s) (z2y hr h1) (by omega)
   have e1:z1t I b (f + 1 + 1) v = s :: z1t I b (f + 1) (frS I s):=by rw [z1t,hb]
   have e2:z1t I b (f + 1) v = s :: z1t I b f (frS I s):=by rw [z1t,hb]
   have e3:z13 I b (f + 1 + 1) v = z13 I b (f + 1) (frS I s):=by rw [z13,hb]
   have e4:z13 I b (f + 1) v = z13 I b f (frS I s):=by rw [z13,hb]
   rw [e1,e2,e3,e4,i1,i2]
   exact ⟨rfl,rfl,i3,i4⟩
theorem ze5 {I:Inst} {b:Nat->Option Stp} {ρ:Nat->Nat} (hr:z04 I = 0) (h:Tree I b ρ):∀ (f v:Nat),v < I.sup.length->∀ s ∈ z1t I b f v,okS I s/\b (toS I s) = some s/\ρ (toS I s) <= ρ v/\ρ (frS I s) < ρ (toS I s)
 | 0,v,_,s,hs=>by simp [z1t] at hs
 | f + 1,v,hv,s,hs=>by
  rw [z1t] at hs
  cases hb:b v with
  | none=>rw [hb] at hs; simp at hs
  | some t =>
   rw [hb] at hs
   obtain ⟨h1,h2,h3⟩:=h v t hv hb
   rcases List.mem_cons.1 hs with rfl | hs
   ·exact ⟨h1,by rw [h2]; exact hb,by rw [h2]; exact Nat.le_refl _,by rw [h2]; exact h3⟩
   ·obtain ⟨i1,i2,i3,i4⟩:=ze5 hr h f (frS I t) (z2y hr h1) s hs
    exact ⟨i1,i2,by omega,i4⟩
theorem zn6 {I:Inst} {b:Nat->Option Stp} {ρ:Nat->Nat} (hr:z04 I = 0) (h:Tree I b ρ):∀ (f v:Nat),v < I.sup.length->((z1t I b f v).map (·.1)).Nodup
 | 0,v,_=>by simp [z1t]
 | f + 1,v,hv=>by
  rw [z1t]
  cases hb:b v with
  | none=>simp
  | some t =>
   obtain ⟨h1,h2,h3⟩:=h v t hv hb
   dsimp only
   rw [List.map_cons,List.nodup_cons]
   refine ⟨fun hm=>?_,zn6 hr h f (frS I t) (z2y hr h1)⟩
   obtain ⟨s,hs,he⟩:=List.mem_map.1 hm
   obtain ⟨i1,i2,i3,i4⟩:=ze5 hr h f (frS I t) (z2y hr h1) s hs
   obtain ⟨a,k⟩:=t
   obtain ⟨a',k'⟩:=s
   dsimp only at he
   subst he
   by_cases hk:k' = k
   ·subst hk; rw [h2] at i3; omega
   ·have hk':k' = !k:=by cases k <;> cases k' <;> simp_all
    subst hk'
    obtain ⟨f1,f2,-⟩:=zkr I a' k
    rw [f1,f2,h2] at i4
    omega
def z6x (I:Inst) (x:List Int) (u:Int) (l:List Stp):Int:=l.foldl (fun u s=>min u (rmS I x s)) u
theorem zn3 {I:Inst} {x:List Int}:∀ (l:List Stp) (u:Int),z6x I x u l <= u/\∀ s ∈ l,z6x I x u l <= rmS I x s
 | [],u=>⟨Int.le_refl _,fun s h=>by simp at h⟩
 | t :: l,u=>by
  obtain ⟨i1,i2⟩:=zn3 (I:=I) (x:=x) l (min u (rmS I x t))
  have e:z6x I x u (t :: l) = z6x I x (min u (rmS I x t)) l:=rfl
  rw [e]
  refine ⟨by omega,fun s hs=>?_⟩
  rcases List.mem_cons.1 hs with rfl | hs
  ·omega
  ·exact i2 s hs
theorem unitsF_ge {I:Inst} {x:List Int} {L:Int}:∀ (l:List Stp) (u:Int),L <= u->(∀ s ∈ l,L <= rmS I x s)->L <= z6x I x u l
 | [],u,h,_=>h
 | t :: l,u,h,h2=>unitsF_ge l (min u (rmS I x t)) (by have:=h2 t (by simp); omega) fun s hs=>h2 s (by simp [hs])
def z2o (x:List Int) (l:List Stp) (u:Int):List Int:=l.foldl (fun x s=>z4q x s u) x
def z1w (I:Inst) (o:List Int) (l:List Stp) (u:Int):List Int:=l.foldl (fun o s=>z6n I o s u) o
theorem pushXs_len (u:Int):∀ (l:List Stp) (x:List Int),(z2o x l u).length = x.length
 | [],x=>rfl
 | s :: l,x=>by show (z2o (z4q x s u) l u).length = _; rw [pushXs_len u l,zls]
theorem zfw (I:Inst) (u:Int):∀ (l:List Stp) (o:List Int),(z1w I o l u).length = o.length
 | [],o=>rfl
 | s :: l,o=>by show (z1w I (z6n I o s u) l u).length = _; rw [zfw I u l,zlq]
theorem zd6 {u:Int}:∀ {l:List Stp} {x:List Int},(l.map (·.1)).Nodup->(∀ s ∈ l,s.1 < x.length)->∀ a,(z2o x l u).getD a 0 = x.getD a 0 + (if (a,false) ∈ l then u else if (a,true) ∈ l then -u else 0)
 | [],x,_,_,a=>by simp [z2o]
 | s :: l,x,hn,hl,a=>by
  rw [List.map_cons,List.nodup_cons] at hn
  have ih:=zd6 (u:=u) (l:=l) (x:=z4q x s u) hn.2 (fun t ht=>by rw [zls]; exact hl t (by simp [ht])) a
  have e:z2o x (s :: l) u = z2o (z4q x s u) l u:=rfl
  rw [e,ih,z8i (hl s (by simp))]
  obtain ⟨a',k⟩:=s
  dsimp only at hn ⊢
  by_cases ha:a = a'
  ·subst ha
   have n1:∀ k,(a,k) ∉ l:=fun k hm=>hn.1 (List.mem_map.2 ⟨_,hm,rfl⟩)
   cases k <;> simp [n1]
  ·simp [ha]
theorem OverOf.pushs {I:Inst} (hr:z04 I = 0) (u:Int):∀ {l:List Stp} {x o:List Int},OverOf I x o->(∀ s ∈ l,okS I s)->OverOf I (z2o x l u) (z1w I o l u)
 | [],x,o,h,_=>h
 | s :: l,x,o,h,hl=>OverOf.pushs hr u (l:=l) (h.push hr (hl s (by simp)) u) fun t ht=>hl t (by simp [ht])
theorem zlr {I:Inst} {b:Nat->Option Stp} {ρ:Nat->Nat} (hr:z04 I = 0) (h:Tree I b ρ) {u:Int}:∀ (f w:Nat) (o:List Int),w < I.sup.length->o.length = I.sup.length->∀ v,v < I.sup.length ->
  (z1w I o (z1t I b f w) u).getD v 0 = o.getD v 0 + (if w = v then u else 0) - (if z13 I b f w = v then u else 0)
 | 0,w,o,hw,ho,v,hv=>by simp only [z1t,z13,z1w,List.foldl_nil]; omega
 | f + 1,w,o,hw,ho,v,hv=>by
  rw [z1t,z13]
  cases hb:b w with
  | none=>simp only [z1w,List.foldl_nil]; omega
  | some s =>
   obtain ⟨h1,h2,h3⟩:=h w s hw hb
   have e:z1w I o (s :: z1t I b f (frS I s)) u = z1w I (z6n I o s u) (z1t I b f (frS I s)) u:=rfl
   dsimp only
   rw [e,zlr hr h f (frS I s) _ (z2y hr h1) (by rw [zlq]; exact ho) v hv,zd5 (by rw [ho]; exact hv),h2]
   omega
theorem betw_pushs {I:Inst} {x:List Int} (h:Betw I x) (hl:x.length = I.arcs.length) {l:List Stp} (hn:(l.map (·.1)).Nodup) (hs:∀ s ∈ l,okS I s) {u:Int} (h0:0 <= u) (h1:∀ s ∈ l,u <= rmS I x s):Betw I (z2o x l u):=fun a ha=>by
 have hb:=h a ha
 rw [zd6 hn (fun s h=>by rw [hl]; exact hs s h)]
 by_cases m1:(a,false) ∈ l
 ·rw [if_pos m1]
  have:=h1 _ m1
  unfold rmS at this
  dsimp only at this
  rw [if_neg Bool.false_ne_true] at this
  refine ⟨by omega,?_⟩
  by_cases hc:(z1y I a).cap = inf
  ·exact .inl hc
  ·rw [if_neg hc] at this; exact .inr (by omega)
 ·rw [if_neg m1]
  by_cases m2:(a,true) ∈ l
  ·rw [if_pos m2]
   have:=h1 _ m2
   unfold rmS at this
   dsimp only at this
   rw [if_pos rfl] at this
   exact ⟨by omega,hb.2.imp id (by omega)⟩
  ·rw [if_neg m2]; simpa using hb
def z4h (o:List Int):Nat->Int
 | 0=>0
 | k + 1=>z4h o k + max (o.getD k 0) 0
theorem z1r (o:List Int):∀ k,0 <= z4h o k
 | 0=>Int.le_refl _
 | k + 1=>by have:=z1r o k; rw [z4h]; omega
theorem posS_eq {o p:List Int}:∀ {k:Nat},(∀ v,v < k->max (p.getD v 0) 0 = max (o.getD v 0) 0)->z4h p k = z4h o k
 | 0,_=>rfl
 | k + 1,h=>by rw [z4h,z4h,posS_eq (k:=k) fun v hv=>h v (by omega),h k (by omega)]
theorem posS_less {o p:List Int} {r:Nat} {u:Int}:∀ {k:Nat},r < k->(∀ v,v < k->v ≠ r->max (p.getD v 0) 0 = max (o.getD v 0) 0)->max (p.getD r 0) 0 = max (o.getD r 0) 0 - u->z4h p k = z4h o k - u
 | 0,h,_,_=>by omega
 | k + 1,h,h1,h2=>by
  rw [z4h,z4h]
  by_cases e:r = k
  ·subst e
   rw [posS_eq fun v hv=>h1 v (by omega) (by omega),h2]; omega
  ·rw [posS_less (r:=r) (u:=u) (by omega) (fun v hv hne=>h1 v (by omega) hne) h2,h1 k (by omega) (by omega)]; omega
theorem posS_ge {o:List Int} {v:Nat}:∀ {k:Nat},v < k->o.getD v 0 <= z4h o k
 | 0,h=>by omega
 | k + 1,h=>by
  have:=z1r o k
  rw [z4h]
  by_cases e:v = k
  ·subst e; omega
  ·have:=posS_ge (o:=o) (v:=v) (k:=k) (by omega); omega
def XB (x:List Int):Prop:=∀ y ∈ x,-288230376151711744 <= y/\y <= 288230376151711744
theorem XB.at {x:List Int} (h:XB x) (k:Nat):-288230376151711744 <= x.getD k 0/\x.getD k 0 <= 288230376151711744:=by
 rw [List.getD_eq_getElem?_getD]
 cases e:x[k]? with
 | none=>exact ⟨by decide,by decide⟩
 | some u=>exact h u (List.mem_of_getElem? e)
def z1k (I:Inst) (s:Int):Prop:=z04 I = 0/\0 <= s/\s < I.arcs.length
def endS (I:Inst) (s:Stp):Bool:=!s.2 && decide ((z1y I s.1).cap = inf)
theorem rmS_bd {I:Inst} {x:List Int} (hx:XB x) {s:Int} (h:z1k I s) (b:Bool):-288230376151711744 - 4398046511104 <= rmS I x (s.toNat,b)/\rmS I x (s.toNat,b) <= 1152921504606846976:=by
 have ok:=z1l h.1 (a:=s.toNat) (by have:=h.2; omega)
 have h1:=hx.at s.toNat
 have:=ok.l0; have:=ok.l1; have h2:=ok.c
 unfold rmS
 dsimp only
 split
 ·omega
 ·split
  ·omega
  ·rename_i hc
   have:=h2.resolve_left hc
   omega
theorem push_is {I:Inst} {x o:List Int} {s:Stp} {n:Int} (hr:z04 I = 0) (hs:okS I s) (hl:x.length = I.arcs.length) (ho:o.length = I.sup.length) (hx:XB x) (hov:XB o) (n0:-1152921504606846976 <= n) (n1:n <= 1152921504606846976) {y u z:Int}
  (hy:x[s.1]? = some y) (hu:o[frS I s]? = some u) (hz:(o.set (frS I s) (IntKind.i64.wrap (u - n)))[toS I s]? = some z) :
  (s.2 = true->x.set s.1 (IntKind.i64.wrap (y - n)) = z4q x s n)/\(s.2 = false->x.set s.1 (IntKind.i64.wrap (y + n)) = z4q x s n)/\(o.set (frS I s) (IntKind.i64.wrap (u - n))).set (toS I s) (IntKind.i64.wrap (z + n)) = z6n I o s n:=by
 have hf:=z2y hr hs
 have ht:=z5m hr hs
 have ey:x.getD s.1 0 = y:=by rw [List.getD_eq_getElem?_getD,hy]; rfl
 have eu:o.getD (frS I s) 0 = u:=by rw [List.getD_eq_getElem?_getD,hu]; rfl
 have by1:=hx.at s.1
 have bu1:=hov.at (frS I s)
 have bt1:=hov.at (toS I s)
 rw [ey] at by1
 rw [eu] at bu1
 have w1:IntKind.i64.wrap (y - n) = y + -n:=by rw [w64 (by omega) (by omega)]; omega
 have w2:IntKind.i64.wrap (y + n) = y + n:=w64 (by omega) (by omega)
 have w3:IntKind.i64.wrap (u - n) = u + -n:=by rw [w64 (by omega) (by omega)]; omega
 have ez:(o.set (frS I s) (u + -n)).getD (toS I s) 0 = z:=by rw [w3] at hz; rw [List.getD_eq_getElem?_getD,hz]; rfl
 have bz:-1441151880758558720 <= z/\z <= 1441151880758558720:=by
  rw [<- ez]
  by_cases e:frS I s = toS I s
  ·rw [<- e,List.getD_eq_getElem?_getD,List.getElem?_set_self (by omega)]
   simp only [Option.getD_some]; omega
  ·rw [List.getD_eq_getElem?_getD,List.getElem?_set_ne e,<- List.getD_eq_getElem?_getD]; omega
 have w4:IntKind.i64.wrap (z + n) = z + n:=w64 (by omega) (by omega)
 refine ⟨fun h=>by unfold z4q; rw [h,ey,w1,if_pos rfl],fun h=>by unfold z4q; rw [h,ey,w2,if_neg Bool.false_ne_true],?_⟩
 unfold z6n addAt
 rw [eu,w3,ez,w4]
end Go.Ql
end
section
namespace Go.Ql
open Go Go.Vc
theorem zla:∀ (n:Nat) (l:List Nat),l.Nodup->(∀ x ∈ l,x < n)->l.length <= n
 | 0,l,_,h=>by
  cases l with
  | nil=>exact Nat.le_refl _
  | cons x l=>exact absurd (h x (by simp)) (Nat.not_lt_zero _)
 | n + 1,l,hn,h=>by
  have h1:(l.filter (fun x=>decide (x ≠ n))).length <= n:=zla n _ (List.Pairwise.filter _ hn) fun x hx=>by
   rw [List.mem_filter,decide_eq_true_eq] at hx
   have:=h x hx.1; omega
  have h2:l.length <= (l.filter (fun x=>decide (x ≠ n))).length + 1:=by
   clear h h1
   induction l with
   | nil=>simp
   | cons x l ih =>
    rw [List.nodup_cons] at hn
    rw [List.filter_cons]
    by_cases e:x = n
    ·subst e
     have:l.filter (fun y=>decide (y ≠ x)) = l:=List.filter_eq_self.2 fun y hy=>decide_eq_true fun e=>hn.1 (e ▸ hy)
     rw [if_neg (by simp),this,List.length_cons]
     exact Nat.le_refl _
    ·have:=ih hn.2
     rw [if_pos (decide_eq_true e),List.length_cons,List.length_cons]
     omega
  omega
theorem pigeon {n:Nat} (f:Nat->Nat) (h:∀ i,i <= n->f i < n):∃ i j,i < j/\j <= n/\f i = f j:=by
 apply Classical.byContradiction
 intro hno
 have hn:((List.range (n + 1)).map f).Nodup:=by
  rw [List.nodup_iff_pairwise_ne,List.pairwise_map]
  refine List.pairwise_iff_getElem.2 fun i j hi hj hij=>?_
  rw [List.getElem_range,List.getElem_range]
  rw [List.length_range] at hj
  exact fun e=>hno ⟨i,j,hij,by omega,e⟩
 have:=zla n _ hn fun x hx=>by
  obtain ⟨i,hi,rfl⟩:=List.mem_map.1 hx
  rw [List.mem_range] at hi
  exact h i (by omega)
 rw [List.length_map,List.length_range] at this
 omega
structure BF (I:Inst) (cnt:Stp->Bool) (start:Nat->Bool) (r:Nat) (done:Stp->Bool) (d:Nat->Option Int) (b:Nat->Option Stp) (e:Option Nat) (τ T:Nat->Nat) (t:Nat):Prop where
 st:∀ v,v < I.sup.length->start v = true->∃ c,d v = some c/\c <= 0
 no:∀ v,v < I.sup.length->b v = none->∀ c,d v = some c->start v = true/\c = 0
 un:∀ v,d v = none->b v = none
 by_:∀ v s,v < I.sup.length->b v = some s->okS I s/\cnt s = true/\toS I s = v/\∃ c u,d v = some c/\d (frS I s) = some u/\u + csS I s <= c/\(T v <= T (frS I s)->u + csS I s < c)
 rd:∀ v s,v < I.sup.length->b v = some s->1 <= τ v/\τ v <= τ (frS I s) + 1
 r0:∀ v,b v = none->τ v = 0
 rl:∀ v,τ v <= r
 la:∀ v,e = some v->v < I.sup.length/\τ v = r/\1 <= r
 le:e = none->∀ v,τ v = r->r = 0
 ok:∀ s,okS I s->cnt s = true->∀ u,d (frS I s) = some u->τ (frS I s) < (if done s then r else r - 1)->∃ c,d (toS I s) = some c/\c <= u + csS I s
 cl:∀ v,T v < t
theorem BF.pass {I:Inst} {cnt:Stp->Bool} {start:Nat->Bool} {r:Nat} {done done':Stp->Bool} {d:Nat->Option Int} {b:Nat->Option Stp} {e:Option Nat} {τ T:Nat->Nat} {t:Nat} {s:Stp} (h:BF I cnt start r done d b e τ T t)
    (hd:∀ s',done' s' = (done s' || decide (s' = s))) (hs:cnt s = true->∀ u,d (frS I s) = some u->∃ c,d (toS I s) = some c/\c <= u + csS I s):BF I cnt start r done' d b e τ T t :=
  { h with
    ok:=fun s' h1 h2 u hu h3=>by
      by_cases es:s' = s
      · subst es; exact hs h2 u hu
      · rw [hd,decide_eq_false es,Bool.or_false] at h3
        exact h.ok s' h1 h2 u hu h3 }
theorem BF.take {I:Inst} (hr:z04 I = 0) {cnt:Stp->Bool} {start:Nat->Bool} {r:Nat} {done done':Stp->Bool} {d:Nat->Option Int} {b:Nat->Option Stp} {e:Option Nat} {τ T:Nat->Nat} {t:Nat} {s:Stp} (h:BF I cnt start r done d b e τ T t)
  (hd:∀ s',done' s' = (done s' || decide (s' = s))) (h1:1 <= r) (hsk:okS I s) (hc:cnt s = true) (hnd:done s = false) {u:Int} (hu:d (frS I s) = some u) (hless:∀ c,d (toS I s) = some c->u + csS I s < c) :
  ∃ τ' T':Nat->Nat,BF I cnt start r done' (fun v=>if v = toS I s then some (u + csS I s) else d v) (fun v=>if v = toS I s then some s else b v) (some (toS I s)) τ' T' (t + 1):=by
 have hto:=z5m hr hsk
 have hfr:=z2y hr hsk
 have hτ:r - 1 <= τ (frS I s):=by
  apply Nat.le_of_not_lt
  intro hlt
  obtain ⟨c,h2,h3⟩:=h.ok s hsk hc u hu (by rw [hnd]; exact hlt)
  have:=hless c h2; omega
 refine ⟨fun v=>if v = toS I s then r else τ v,fun v=>if v = toS I s then t else T v,?_⟩
 constructor
 ·intro v hv hst
  by_cases ev:v = toS I s
  ·rw [if_pos ev]
   subst ev
   obtain ⟨c,h2,h3⟩:=h.st _ hv hst
   exact ⟨_,rfl,by have:=hless c h2; omega⟩
  ·rw [if_neg ev]; exact h.st v hv hst
 ·intro v hv hb c hdv
  by_cases ev:v = toS I s
  ·rw [if_pos ev] at hb; cases hb
  ·rw [if_neg ev] at hb hdv; exact h.no v hv hb c hdv
 ·intro v hdv
  by_cases ev:v = toS I s
  ·rw [if_pos ev] at hdv; cases hdv
  ·rw [if_neg ev] at hdv ⊢; exact h.un v hdv
 ·intro v s' hv hb
  by_cases ev:v = toS I s
  ·rw [if_pos ev] at hb
   cases hb
   refine ⟨hsk,hc,ev.symm,u + csS I s,?_⟩
   rw [if_pos ev]
   by_cases ef:frS I s = toS I s
   ·rw [if_pos ef,if_pos ef,if_pos ev]
    have:=hless u (by rw [<- ef]; exact hu)
    exact ⟨u + csS I s,rfl,rfl,by omega,fun _=>by omega⟩
   ·rw [if_neg ef,if_neg ef,if_pos ev]
    exact ⟨u,rfl,hu,Int.le_refl _,fun hT=>by have:=h.cl (frS I s); omega⟩
  ·rw [if_neg ev] at hb
   obtain ⟨p1,p2,p3,c,u',p4,p5,p6,p7⟩:=h.by_ v s' hv hb
   rw [if_neg ev,if_neg ev]
   refine ⟨p1,p2,p3,c,?_⟩
   by_cases ef:frS I s' = toS I s
   ·rw [if_pos ef,if_pos ef]
    have:=hless u' (by rw [<- ef]; exact p5)
    exact ⟨u + csS I s,p4,rfl,by omega,fun _=>by omega⟩
   ·rw [if_neg ef,if_neg ef]
    exact ⟨u',p4,p5,p6,p7⟩
 ·intro v s' hv hb
  by_cases ev:v = toS I s
  ·rw [if_pos ev] at hb
   cases hb
   rw [if_pos ev]
   by_cases ef:frS I s = toS I s
   ·rw [if_pos ef]; omega
   ·rw [if_neg ef]; omega
  ·rw [if_neg ev] at hb
   obtain ⟨p1,p2⟩:=h.rd v s' hv hb
   rw [if_neg ev]
   by_cases ef:frS I s' = toS I s
   ·rw [if_pos ef]; have:=h.rl v; omega
   ·rw [if_neg ef]; exact ⟨p1,p2⟩
 ·intro v hb
  by_cases ev:v = toS I s
  ·rw [if_pos ev] at hb; cases hb
  ·rw [if_neg ev] at hb ⊢; exact h.r0 v hb
 ·intro v
  split
  ·exact Nat.le_refl _
  ·exact h.rl v
 ·intro v ev
  cases ev
  exact ⟨hto,by simp,h1⟩
 ·intro ev; cases ev
 ·intro s' h2 h3 w hw h4
  by_cases ef:frS I s' = toS I s
  ·rw [if_pos ef] at h4
   split at h4 <;> omega
  ·rw [if_neg ef] at hw h4
   by_cases es:s' = s
   ·subst es
    rw [if_pos rfl]
    rw [hu] at hw; cases hw
    exact ⟨_,rfl,Int.le_refl _⟩
   ·rw [hd,decide_eq_false es,Bool.or_false] at h4
    obtain ⟨c,p1,p2⟩:=h.ok s' h2 h3 w hw h4
    by_cases et:toS I s' = toS I s
    ·rw [if_pos et]
     have:=hless c (by rw [<- et]; exact p1)
     exact ⟨_,rfl,by omega⟩
    ·rw [if_neg et]; exact ⟨c,p1,p2⟩
 ·intro v
  split
  ·exact Nat.lt_succ_self _
  ·have:=h.cl v; omega
theorem BF.next {I:Inst} {cnt:Stp->Bool} {start:Nat->Bool} {r:Nat} {done done':Stp->Bool} {d:Nat->Option Int} {b:Nat->Option Stp} {e:Option Nat} {τ T:Nat->Nat} {t:Nat} (h:BF I cnt start r done d b e τ T t)
    (hd:∀ s,okS I s->done s = true) (hd':∀ s,done' s = false):BF I cnt start (r + 1) done' d b none τ T t :=
  { h with
    rl:=fun v=>Nat.le_succ_of_le (h.rl v)
    la:=fun v ev=>by cases ev
    le:=fun _ v hv=>by have:=h.rl v; omega
    ok:=fun s h1 h2 u hu h3=>h.ok s h1 h2 u hu (by rw [hd s h1]; rw [hd'] at h3; simpa using h3) }
theorem BF.zero {I:Inst} (cnt:Stp->Bool) (start:Nat->Bool) (done:Stp->Bool) {d:Nat->Option Int} (hd:∀ v,v < I.sup.length->d v = if start v then some 0 else none):BF I cnt start 0 done d (fun _=>none) none (fun _=>0) (fun _=>0) 1 where
 st:=fun v hv hs=>⟨0,by rw [hd v hv,if_pos hs],Int.le_refl _⟩
 no:=fun v hv _ c hc=>by
  rw [hd v hv] at hc
  split at hc
  ·rename_i hs; cases hc; exact ⟨hs,rfl⟩
  ·cases hc
 un:=fun _ _=>rfl
 by_:=fun _ _ _ h=>by cases h
 rd:=fun _ _ _ h=>by cases h
 r0:=fun _ _=>rfl
 rl:=fun _=>Nat.le_refl _
 la:=fun _ h=>by cases h
 le:=fun _ _ _=>rfl
 ok:=fun s _ _ u _ h=>by split at h <;> omega
 cl:=fun _=>Nat.zero_lt_one
theorem BF.end_ {I:Inst} {cnt:Stp->Bool} {start:Nat->Bool} {r:Nat} {done:Stp->Bool} {d:Nat->Option Int} {b:Nat->Option Stp} {τ T:Nat->Nat} {t:Nat} (h:BF I cnt start r done d b none τ T t) (h1:1 <= r)
  (hd:∀ s,okS I s->done s = true):∀ s,okS I s->cnt s = true->∀ u,d (frS I s) = some u->∃ c,d (toS I s) = some c/\c <= u + csS I s:=fun s h2 h3 u hu =>
 h.ok s h2 h3 u hu (by
  rw [hd s h2,if_pos rfl]
  have:=h.rl (frS I s)
  by_cases e:τ (frS I s) = r
  ·have:=h.le rfl _ e; omega
  ·omega)
def z0n (I:Inst) (b:Nat->Option Stp) (v:Nat):Nat->Nat
 | 0=>v
 | k + 1=>match b (z0n I b v k) with
  | some s=>frS I s
  | none=>z0n I b v k
def z8v (I:Inst) (b:Nat->Option Stp) (v:Nat):Nat->Int
 | 0=>0
 | k + 1=>z8v I b v k + (match b (z0n I b v k) with
  | some s=>csS I s
  | none=>0)
theorem z35 (I:Inst) (b:Nat->Option Stp) (v:Nat) (i:Nat):∀ k,z0n I b v (i + k) = z0n I b (z0n I b v i) k
 | 0=>rfl
 | k + 1=>by rw [<- Nat.add_assoc,z0n,z0n,z35 I b v i k]
theorem z5u {I:Inst} (hr:z04 I = 0) {b:Nat->Option Stp} (hb:∀ v s,v < I.sup.length->b v = some s->okS I s) {v:Nat} (hv:v < I.sup.length):∀ k,z0n I b v k < I.sup.length
 | 0=>hv
 | k + 1=>by
  rw [z0n]
  split
  ·rename_i s hs; exact z2y hr (hb _ s (z5u hr hb hv k) hs)
  ·exact z5u hr hb hv k
theorem BF.back {I:Inst} (hr:z04 I = 0) {cnt:Stp->Bool} {start:Nat->Bool} {r:Nat} {done:Stp->Bool} {d:Nat->Option Int} {b:Nat->Option Stp} {e:Option Nat} {τ T:Nat->Nat} {t:Nat} (h:BF I cnt start r done d b e τ T t) {v:Nat} (hv:v < I.sup.length) {c0:Int} (h0:d v = some c0) :
  ∀ k,(∀ i,i < k->∃ s,b (z0n I b v i) = some s)->∃ c,d (z0n I b v k) = some c/\c + z8v I b v k <= c0/\(c + z8v I b v k = c0->∀ i,i < k->T (z0n I b v (i + 1)) < T (z0n I b v i))
 | 0,_=>⟨c0,h0,by rw [z8v]; omega,fun _ i hi=>absurd hi (Nat.not_lt_zero _)⟩
 | k + 1,hk=>by
  obtain ⟨c,p1,p2,p3⟩:=BF.back hr h hv h0 k fun i hi=>hk i (by omega)
  obtain ⟨s,hs⟩:=hk k (by omega)
  have hlt:=z5u hr (fun v s hv hb=>(h.by_ v s hv hb).1) hv k
  obtain ⟨q1,q2,q3,c',u,q4,q5,q6,q7⟩:=h.by_ _ s hlt hs
  rw [p1] at q4; cases q4
  have en:z0n I b v (k + 1) = frS I s:=by rw [z0n,hs]
  have ec:z8v I b v (k + 1) = z8v I b v k + csS I s:=by rw [z8v,hs]
  rw [en,ec]
  refine ⟨u,q5,by omega,fun heq i hi=>?_⟩
  by_cases ei:i = k
  ·subst ei
   rw [en]
   apply Nat.lt_of_not_le
   intro hle
   have:=q7 hle; omega
  ·exact p3 (by omega) i (by omega)
theorem BF.cycle {I:Inst} (hr:z04 I = 0) {cnt:Stp->Bool} {start:Nat->Bool} {r:Nat} {done:Stp->Bool} {d:Nat->Option Int} {b:Nat->Option Stp} {e:Option Nat} {τ T:Nat->Nat} {t:Nat} (h:BF I cnt start r done d b e τ T t) {v k:Nat} (hv:v < I.sup.length) (hk:1 <= k)
  (hs:∀ i,i < k->∃ s,b (z0n I b v i) = some s) (hc:z0n I b v k = v):z8v I b v k < 0:=by
 obtain ⟨s,hs0⟩:=hs 0 (by omega)
 obtain ⟨-,-,-,c0,u,h0,-⟩:=h.by_ v s hv hs0
 obtain ⟨c,p1,p2,p3⟩:=h.back hr hv h0 k hs
 rw [hc,h0] at p1; cases p1
 apply Classical.byContradiction
 intro hn
 have hlt:=p3 (by omega)
 have:∀ j,j <= k->T (z0n I b v j) + j <= T v:=by
  intro j
  induction j with
  | zero=>intro _; exact Nat.le_refl _
  | succ j ih =>
   intro hj
   have:=ih (by omega)
   have:=hlt j (by omega)
   omega
 have:=this k (Nat.le_refl _)
 rw [hc] at this
 omega
theorem BF.long {I:Inst} (hr:z04 I = 0) {cnt:Stp->Bool} {start:Nat->Bool} {r:Nat} {done:Stp->Bool} {d:Nat->Option Int} {b:Nat->Option Stp} {e:Option Nat} {τ T:Nat->Nat} {t:Nat} (h:BF I cnt start r done d b e τ T t) {v:Nat} (he:e = some v) :
  ∀ k,k < r->(∃ s,b (z0n I b v k) = some s)/\r - k <= τ (z0n I b v k)
 | 0,hk=>by
  obtain ⟨h1,h2,h3⟩:=h.la v he
  refine ⟨?_,by simp only [z0n]; omega⟩
  show ∃ s,b v = some s
  cases hb:b v with
  | none=>have:=h.r0 v hb; omega
  | some s=>exact ⟨s,rfl⟩
 | k + 1,hk=>by
  obtain ⟨⟨s,hs⟩,h2⟩:=BF.long hr h he k (by omega)
  have hlt:=z5u hr (fun v s hv hb=>(h.by_ v s hv hb).1) (h.la v he).1 k
  have:=(h.rd _ s hlt hs).2
  have en:z0n I b v (k + 1) = frS I s:=by rw [z0n,hs]
  rw [en]
  refine ⟨?_,by omega⟩
  cases hb:b (frS I s) with
  | none=>have:=h.r0 _ hb; omega
  | some s'=>exact ⟨s',rfl⟩
end Go.Ql
end
section
namespace Go.Ql
open Go Go.Vc
def z5x (s:Stp):List Int:=[(s.1:Int),bif s.2 then 1 else 0]
def mbS:Option Stp->List Int
 | some s=>[(s.1:Int),bif s.2 then 1 else 0,1]
 | none=>[0,0,0]
def mbI:Option Int->List Int
 | some c=>[c,1]
 | none=>[0,0]
def z0i (n:Nat) (b:Nat->Option Stp):List (List Int):=(List.range n).map fun v=>mbS (b v)
def z0k (n:Nat) (d:Nat->Option Int):List (List Int):=(List.range n).map fun v=>mbI (d v)
def unS (l:List Int):Option Stp:=if l.getD 2 0 = 1 then some ((l.getD 0 0).toNat,decide (l.getD 1 0 = 1)) else none
def bOf (by_:List (List Int)) (v:Nat):Option Stp:=unS (by_.getD v [])
theorem unS_mbS (o:Option Stp):unS (mbS o) = o:=by
 cases o with
 | none=>rfl
 | some s=>obtain ⟨a,k⟩:=s; cases k <;> simp [unS,mbS]
theorem z80 (n:Nat) (b:Nat->Option Stp):(z0i n b).length = n:=by simp [z0i]
theorem z6s (n:Nat) (d:Nat->Option Int):(z0k n d).length = n:=by simp [z0k]
theorem bRow_get {n v:Nat} {b:Nat->Option Stp} {y:List Int} (h:(z0i n b)[v]? = some y):v < n/\y = mbS (b v):=z17 h
theorem z1u {n v:Nat} {d:Nat->Option Int} {y:List Int} (h:(z0k n d)[v]? = some y):v < n/\y = mbI (d v):=z17 h
theorem bOf_row {n v:Nat} (b:Nat->Option Stp) (hv:v < n):bOf (z0i n b) v = b v:=by
 unfold bOf z0i
 rw [List.getD_eq_getElem?_getD,List.getElem?_map,List.getElem?_range hv]
 exact unS_mbS _
theorem z5d (n v:Nat) (b:Nat->Option Stp) (s:Option Stp):(z0i n b).set v (mbS s) = z0i n (fun w=>if w = v then s else b w):=by
 unfold z0i
 rw [z1v]
 exact List.map_congr_left fun w _=>by dsimp only; split <;> rfl
theorem z41 (n v:Nat) (d:Nat->Option Int) (c:Option Int):(z0k n d).set v (mbI c) = z0k n (fun w=>if w = v then c else d w):=by
 unfold z0k
 rw [z1v]
 exact List.map_congr_left fun w _=>by dsimp only; split <;> rfl
theorem z96 (n:Nat):List.replicate n [0,0,0] = z0i n fun _=>none:=by
 unfold z0i
 apply List.ext_getElem?
 intro i
 by_cases h:i < n <;> simp [h,mbS]
theorem zcq (n:Nat):List.replicate n [0,0] = z0k n fun _=>none:=by
 unfold z0k
 apply List.ext_getElem?
 intro i
 by_cases h:i < n <;> simp [h,mbI]
theorem zn5 {I:Inst} (hr:z04 I = 0) {b b':Nat->Option Stp} (h:∀ v,v < I.sup.length->b v = b' v) (hok:∀ v s,v < I.sup.length->b v = some s->okS I s):∀ (f v:Nat),v < I.sup.length->z1t I b f v = z1t I b' f v/\z13 I b f v = z13 I b' f v
 | 0,v,_=>⟨rfl,rfl⟩
 | f + 1,v,hv=>by
  rw [z1t,z1t,z13,z13,<- h v hv]
  cases hb:b v with
  | none=>exact ⟨rfl,rfl⟩
  | some s =>
   obtain ⟨i1,i2⟩:=zn5 hr h hok f (frS I s) (z2y hr (hok v s hv hb))
   dsimp only
   rw [i1,i2]; exact ⟨rfl,rfl⟩
theorem walk_take {I:Inst} {b:Nat->Option Stp}:∀ (j f v:Nat),j <= f->z1t I b j v = (z1t I b f v).take j
 | 0,f,v,_=>rfl
 | j + 1,0,v,h=>by omega
 | j + 1,f + 1,v,h=>by
  rw [z1t,z1t]
  cases b v with
  | none=>rfl
  | some s=>dsimp only; rw [List.take_succ_cons,walk_take j f _ (by omega)]
theorem zm2 {I:Inst} {b:Nat->Option Stp}:∀ (k v:Nat),z13 I b (k + 1) v = match b (z13 I b k v) with | some s=>frS I s | none=>z13 I b k v
 | 0,v=>by
  rw [z13]
  cases hb:b v with
  | none=>simp [z13,hb]
  | some s=>simp [z13,hb]
 | k + 1,v=>by
  rw [z13]
  cases hb:b v with
  | none=>simp [z13,hb]
  | some s =>
   dsimp only
   rw [zm2 k (frS I s)]
   simp [z13,hb]
theorem walk_get {I:Inst} {b:Nat->Option Stp}:∀ (k f v:Nat),k < f->∀ s,b (z13 I b k v) = some s->k <= (z1t I b f v).length->(z1t I b f v)[k]? = some s
 | k,0,v,h,_,_,_=>by omega
 | 0,f + 1,v,_,s,hs,_=>by rw [z1t]; simp only [z13] at hs; rw [hs]; rfl
 | k + 1,f + 1,v,h,s,hs,hl=>by
  rw [z1t] at hl ⊢
  rw [z13] at hs
  cases hb:b v with
  | none=>rw [hb] at hl; simp at hl
  | some t =>
   rw [hb] at hs hl
   dsimp only at hs hl ⊢
   rw [List.getElem?_cons_succ]
   exact walk_get k f _ (by omega) s hs (by rw [List.length_cons] at hl; omega)
theorem walk_stop {I:Inst} {b:Nat->Option Stp}:∀ (k f v:Nat),b (z13 I b k v) = none->(z1t I b f v).length <= k
 | k,0,v,_=>Nat.zero_le _
 | 0,f + 1,v,h=>by simp only [z13] at h; rw [z1t,h]; exact Nat.le_refl _
 | k + 1,f + 1,v,h=>by
  rw [z1t]
  rw [z13] at h
  cases hb:b v with
  | none=>exact Nat.zero_le _
  | some t =>
   rw [hb] at h
   dsimp only at h ⊢
   rw [List.length_cons]
   exact Nat.succ_le_succ (walk_stop k f _ h)
theorem zn7 {I:Inst} {b:Nat->Option Stp}:∀ (f v:Nat),(z1t I b f v).length <= f
 | 0,v=>Nat.le_refl _
 | f + 1,v=>by
  rw [z1t]
  cases b v with
  | none=>exact Nat.zero_le _
  | some s=>dsimp only; rw [List.length_cons]; exact Nat.succ_le_succ (zn7 f _)
theorem root_end {I:Inst} {b:Nat->Option Stp}:∀ (f v:Nat),z13 I b (z1t I b f v).length v = z13 I b f v
 | 0,v=>rfl
 | f + 1,v=>by
  rw [z1t,z13]
  cases hb:b v with
  | none=>rfl
  | some s=>dsimp only; rw [List.length_cons,z13,hb]; exact root_end f _
def YB (x:List Int):Prop:=∀ y ∈ x,-144115188075855872 <= y/\y <= 144115188075855872
theorem YB.at {x:List Int} (h:YB x) (k:Nat):-144115188075855872 <= x.getD k 0/\x.getD k 0 <= 144115188075855872:=by
 rw [List.getD_eq_getElem?_getD]
 cases e:x[k]? with
 | none=>exact ⟨by decide,by decide⟩
 | some u=>exact h u (List.mem_of_getElem? e)
theorem YB.xb {x:List Int} (h:YB x):XB x:=fun y hy=>by have:=h y hy; omega
theorem xb_of {x:List Int} (h:∀ k,k < x.length->-288230376151711744 <= x.getD k 0/\x.getD k 0 <= 288230376151711744):XB x:=fun y hy=>by
 obtain ⟨k,hk⟩:=List.mem_iff_getElem?.1 hy
 have:=h k (List.getElem?_eq_some_iff.1 hk).1
 rwa [List.getD_eq_getElem?_getD,hk] at this
theorem yb_of {x:List Int} (h:∀ k,k < x.length->-144115188075855872 <= x.getD k 0/\x.getD k 0 <= 144115188075855872):YB x:=fun y hy=>by
 obtain ⟨k,hk⟩:=List.mem_iff_getElem?.1 hy
 have:=h k (List.getElem?_eq_some_iff.1 hk).1
 rwa [List.getD_eq_getElem?_getD,hk] at this
def alL (I:Inst) (by_:List (List Int)) (e:Int):List Stp:=z1t I (bOf by_) I.sup.length e.toNat
def alR (I:Inst) (by_:List (List Int)) (e:Int):Nat:=z13 I (bOf by_) I.sup.length e.toNat
def alU0 (I:Inst) (o:List Int) (by_:List (List Int)) (e:Int):Int:=min (o.getD (alR I by_ e) 0) (-(o.getD e.toNat 0))
def alU (I:Inst) (x o:List Int) (by_:List (List Int)) (e:Int):Int:=z6x I x (alU0 I o by_ e) (alL I by_ e)
structure AlOk (I:Inst) (x o:List Int) (by_:List (List Int)) (e:Int):Prop where
 right:z04 I = 0
 lx:x.length = I.arcs.length
 lo:o.length = I.sup.length
 xb:YB x
 ob:YB o
 e0:0 <= e
 e1:e.toNat < I.sup.length
 tree:∃ b ρ,by_ = z0i I.sup.length b/\Tree I b ρ/\∀ v,v < I.sup.length->ρ v < I.sup.length
 pos:0 <= alU I x o by_ e
namespace AlOk
variable {I:Inst} {x o:List Int} {by_:List (List Int)} {e:Int} (h:AlOk I x o by_ e)
include h
theorem tree':∃ ρ,Tree I (bOf by_) ρ/\∀ v,v < I.sup.length->ρ v < I.sup.length:=by
 obtain ⟨b,ρ,rfl,h1,h2⟩:=h.tree
 exact ⟨ρ,fun v s hv hs=>h1 v s hv (by rw [<- bOf_row b hv]; exact hs),h2⟩
theorem stop:bOf by_ (alR I by_ e) = none/\alR I by_ e < I.sup.length:=by
 obtain ⟨ρ,h1,h2⟩:=h.tree'
 obtain ⟨-,-,h3,h4⟩:=ze6 h.right h1 I.sup.length e.toNat h.e1 (h2 _ h.e1)
 exact ⟨h3,h4⟩
theorem mem:∀ s ∈ alL I by_ e,okS I s:=fun s hs=>by
 obtain ⟨ρ,h1,h2⟩:=h.tree'
 exact (ze5 h.right h1 _ _ h.e1 s hs).1
theorem ub:alU I x o by_ e <= 144115188075855872:=by
 have h1:=(zn3 (I:=I) (x:=x) (alL I by_ e) (alU0 I o by_ e)).1
 have h2:=h.ob.at (alR I by_ e)
 unfold alU
 have h3:alU0 I o by_ e <= o.getD (alR I by_ e) 0:=by unfold alU0; omega
 omega
theorem xj (j:Nat):XB (z2o x ((alL I by_ e).take j) (alU I x o by_ e)):=by
 obtain ⟨ρ,h1,h2⟩:=h.tree'
 have hn:=zn6 h.right h1 I.sup.length e.toNat h.e1
 have hu:=h.ub
 have hp:=h.pos
 refine xb_of fun k hk=>?_
 have hb:=h.xb.at k
 rw [zd6 (by rw [List.map_take]; exact List.Nodup.sublist (List.take_sublist _ _) hn) (fun s hs=>by rw [h.lx]; exact h.mem s (List.mem_of_mem_take hs))]
 repeat' split <;> omega
theorem root_lt (j:Nat):z13 I (bOf by_) j e.toNat < I.sup.length:=by
 obtain ⟨ρ,h1,h2⟩:=h.tree'
 induction j with
 | zero=>exact h.e1
 | succ j ih =>
  rw [zm2]
  split
  ·rename_i s hs; exact z2y h.right (h1 _ s ih hs).1
  ·exact ih
theorem oj (j:Nat) (hj:j <= I.sup.length):(z1w I o ((alL I by_ e).take j) (alU I x o by_ e)).length = I.sup.length/\XB (z1w I o ((alL I by_ e).take j) (alU I x o by_ e)):=by
 obtain ⟨ρ,h1,h2⟩:=h.tree'
 have hu:=h.ub
 have hp:=h.pos
 refine ⟨by rw [zfw,h.lo],xb_of fun k hk=>?_⟩
 have hb:=h.ob.at k
 rw [zfw,h.lo] at hk
 have:(alL I by_ e).take j = z1t I (bOf by_) j e.toNat:=(walk_take j _ _ hj).symm
 rw [this,zlr h.right h1 j e.toNat o h.e1 h.lo k hk]
 repeat' split <;> omega
end AlOk
theorem pushXs_snoc (x:List Int) (l:List Stp) (s:Stp) (u:Int):z2o x (l ++ [s]) u = z4q (z2o x l u) s u:=by unfold z2o; rw [List.foldl_append]; rfl
theorem pushOs_snoc (I:Inst) (o:List Int) (l:List Stp) (s:Stp) (u:Int):z1w I o (l ++ [s]) u = z6n I (z1w I o l u) s u:=by unfold z1w; rw [List.foldl_append]; rfl
theorem unitsF_snoc (I:Inst) (x:List Int) (u:Int) (l:List Stp) (s:Stp):z6x I x u (l ++ [s]) = min (z6x I x u l) (rmS I x s):=by unfold z6x; rw [List.foldl_append]; rfl
def DB (I:Inst) (d:Nat->Option Int) (q:Nat):Prop:=∀ C:Int,0 <= C->(∀ s,okS I s->-C <= csS I s/\csS I s <= C)->∀ v c,d v = some c->-(C * (q:Int)) <= c/\c <= C * (q:Int)
def SInv (I:Inst) (cnt:Stp->Bool) (start:Nat->Bool) (r:Nat) (done:Stp->Bool) (q:Nat) (d:Nat->Option Int) (b:Nat->Option Stp) (e:Option Nat):Prop :=
 (∃ τ T t,BF I cnt start r done d b e τ T t)/\DB I d q
def allD:Stp->Bool:=fun _=>true
def z1g (a j:Nat) (s:Stp):Bool:=decide (s.1 < a) || (decide (s.1 = a) && decide ((bif s.2 then 1 else 0) < j))
theorem DB.more {I:Inst} {d:Nat->Option Int} {q q':Nat} (h:DB I d q) (hq:q <= q'):DB I d q':=fun C h0 hC v c hc=>by
 have h1:=h C h0 hC v c hc
 have h2:C * (q:Int) <= C * (q':Int):=Int.mul_le_mul_of_nonneg_left (by omega) h0
 omega
theorem DB.big {I:Inst} {d:Nat->Option Int} {q q':Nat} (h:DB I d q) (hr:z04 I = 0) (hq:q <= q'):∀ v c,d v = some c->-(4398046511104 * (q':Int)) <= c/\c <= 4398046511104 * (q':Int) :=
 (h.more hq) 4398046511104 (by omega) (fun s hs=>zgo hr hs)
theorem zah (a:Nat) (k:Bool) (s:Stp):z1g a ((bif k then 1 else 0) + 1) s = (z1g a (bif k then 1 else 0) s || decide (s = (a,k))):=by
 obtain ⟨c,k'⟩:=s
 unfold z1g
 dsimp only
 rw [Bool.eq_iff_iff]
 simp only [Bool.or_eq_true,Bool.and_eq_true,decide_eq_true_eq,Prod.mk.injEq]
 cases k <;> cases k' <;> simp <;> omega
theorem z9b (a:Nat) (s:Stp):z1g a 2 s = z1g (a + 1) 0 s:=by
 obtain ⟨c,k'⟩:=s
 unfold z1g
 dsimp only
 rw [Bool.eq_iff_iff]
 simp only [Bool.or_eq_true,Bool.and_eq_true,decide_eq_true_eq]
 cases k' <;> simp <;> omega
theorem doneJ_zero (s:Stp):z1g 0 0 s = false:=by
 unfold z1g
 simp
theorem doneJ_self (a:Nat) (k:Bool):z1g a (bif k then 1 else 0) (a,k) = false:=by
 unfold z1g
 cases k <;> simp
theorem z4j {I:Inst} {s:Stp} (h:okS I s):z1g I.arcs.length 0 s = true:=by
 unfold z1g okS at *
 simp [h]
theorem SInv.congr {I:Inst} {cnt:Stp->Bool} {start:Nat->Bool} {r:Nat} {done done':Stp->Bool} {q q':Nat} {d:Nat->Option Int} {b:Nat->Option Stp} {e:Option Nat} (h:SInv I cnt start r done q d b e) (hd:∀ s,okS I s->done' s = true->done s = true) (hq:q <= q'):SInv I cnt start r done' q' d b e:=by
 obtain ⟨⟨τ,T,t,h1⟩,h2⟩:=h
 refine ⟨⟨τ,T,t,{ h1 with ok:=fun s a1 a2 u hu a3=>h1.ok s a1 a2 u hu ?_ }⟩,h2.more hq⟩
 cases hs:done' s with
 | true=>rw [hd s a1 hs]; rw [hs] at a3; exact a3
 | false =>
  rw [hs] at a3
  rw [if_neg Bool.false_ne_true] at a3
  split <;> omega
theorem SInv.pass {I:Inst} {cnt:Stp->Bool} {start:Nat->Bool} {r:Nat} {a q:Nat} {k:Bool} {d:Nat->Option Int} {b:Nat->Option Stp} {e:Option Nat} (h:SInv I cnt start r (z1g a (bif k then 1 else 0)) q d b e)
  (hs:cnt (a,k) = true->∀ u,d (frS I (a,k)) = some u->∃ c,d (toS I (a,k)) = some c/\c <= u + csS I (a,k)):SInv I cnt start r (z1g a ((bif k then 1 else 0) + 1)) (q + 1) d b e:=by
 obtain ⟨⟨τ,T,t,h1⟩,h2⟩:=h
 exact ⟨⟨τ,T,t,h1.pass (zah a k) hs⟩,h2.more (Nat.le_succ _)⟩
theorem SInv.take {I:Inst} (hr:z04 I = 0) {cnt:Stp->Bool} {start:Nat->Bool} {r:Nat} {a q:Nat} {k:Bool} {d:Nat->Option Int} {b:Nat->Option Stp} {e:Option Nat} (h:SInv I cnt start r (z1g a (bif k then 1 else 0)) q d b e)
  (h1:1 <= r) (ha:a < I.arcs.length) (hc:cnt (a,k) = true) {u:Int} (hu:d (frS I (a,k)) = some u) (hless:∀ c,d (toS I (a,k)) = some c->u + csS I (a,k) < c) :
  SInv I cnt start r (z1g a ((bif k then 1 else 0) + 1)) (q + 1) (fun v=>if v = toS I (a,k) then some (u + csS I (a,k)) else d v) (fun v=>if v = toS I (a,k) then some (a,k) else b v) (some (toS I (a,k))):=by
 obtain ⟨⟨τ,T,t,h3⟩,h2⟩:=h
 obtain ⟨τ',T',h4⟩:=h3.take hr (zah a k) h1 (show okS I (a,k) from ha) hc (doneJ_self a k) hu hless
 refine ⟨⟨τ',T',t + 1,h4⟩,fun C h0 hC v c hv=>?_⟩
 have hcs:=hC (a,k) ha
 have e:C * ((q + 1:Nat):Int) = C * (q:Int) + C:=by rw [Int.natCast_succ,Int.mul_add,Int.mul_one]
 rw [e]
 dsimp only at hv
 split at hv
 ·cases hv
  have:=h2 C h0 hC _ _ hu
  omega
 ·have:=h2 C h0 hC v c hv; omega
theorem SInv.next {I:Inst} {cnt:Stp->Bool} {start:Nat->Bool} {r q:Nat} {d:Nat->Option Int} {b:Nat->Option Stp} {e:Option Nat} (h:SInv I cnt start r allD q d b e):SInv I cnt start (r + 1) (z1g 0 0) q d b none:=by
 obtain ⟨⟨τ,T,t,h1⟩,h2⟩:=h
 exact ⟨⟨τ,T,t,h1.next (fun _ _=>rfl) doneJ_zero⟩,h2⟩
structure ShortP (I:Inst) (cnt:Stp->Bool) (start:Nat->Bool) (d:Nat->Option Int) (b:Nat->Option Stp) (e:Option Nat):Prop where
 inv:∃ r,SInv I cnt start r allD 32768 d b e/\(e = none->1 <= r ∨ I.sup.length = 0)/\(∀ v,e = some v->r = I.sup.length)
theorem z4p {o:Option Int} (h:(mbI o).tail.headD 0 = 1):∃ c,o = some c:=by
 cases o with
 | none=>simp [mbI] at h
 | some c=>exact ⟨c,rfl⟩
theorem zd0 {o:Option Int} (h:¬ (mbI o).tail.headD 0 = 1):o = none:=by
 cases o with
 | none=>rfl
 | some c=>simp [mbI] at h
theorem SInv.begin (I:Inst) (cnt:Stp->Bool) (start:Nat->Bool) {k:Nat} (hk:I.sup.length <= k):SInv I cnt start 0 allD 0 (fun v=>if v < k/\start v = true then some 0 else none) (fun _=>none) none:=by
 refine ⟨⟨_,_,_,BF.zero cnt start allD fun v hv=>?_⟩,fun C h0 hC v c hc=>?_⟩
 ·by_cases hs:start v = true
  ·rw [if_pos ⟨by omega,hs⟩,if_pos hs]
  ·rw [if_neg (fun h=>hs h.2),if_neg hs]
 ·dsimp only at hc
  split at hc
  ·cases hc; simp
  ·cases hc
theorem z9p {r m a n:Nat} (hr:r < n) (hn:n <= 64) (hm:m <= 256) (ha:a <= m):r * (2 * m) + 2 * a <= 32768:=by
 have:r * (2 * m) <= 63 * 512:=Nat.mul_le_mul (by omega) (by omega)
 omega
theorem zhq {r m n:Nat} (hr:r <= n) (hn:n <= 64) (hm:m <= 256):r * (2 * m) <= 32768:=by
 have:r * (2 * m) <= 64 * 512:=Nat.mul_le_mul (by omega) (by omega)
 omega
end Go.Ql
end
section
namespace Go.Ql
open Go Go.Vc
theorem over_sum {I:Inst} (hr:z04 I = 0) {x o:List Int} (h:OverOf I x o):z1i (fun v=>o.getD v 0) I.sup.length = 0:=by
 have h1:z1i (fun v=>o.getD v 0) I.sup.length = z1i (fun v=>I.sup.getD v 0 - z73 I.sup.length I.arcs x I.arcs.length v) I.sup.length:=z14 h.at_
 rw [h1,za3,netK_sum,<- sum_sumTo,(z1j hr).2]; rfl
theorem posS_sum (o:List Int):∀ k,z1i (fun v=>o.getD v 0) k <= z4h o k
 | 0=>Int.le_refl _
 | k + 1=>by have:=posS_sum o k; rw [z1i,z4h]; omega
theorem posS_low {o:List Int} {v:Nat}:∀ {k:Nat},v < k->z1i (fun v=>o.getD v 0) k - o.getD v 0 <= z4h o k
 | 0,h=>by omega
 | k + 1,h=>by
  rw [z1i,z4h]
  by_cases e:v = k
  ·subst e; have:=posS_sum o v; omega
  ·have:=posS_low (o:=o) (v:=v) (k:=k) (by omega); omega
theorem over_bd {I:Inst} (hr:z04 I = 0) {x o:List Int} (h:OverOf I x o) {v:Nat} (hv:v < I.sup.length):-(z4h o I.sup.length) <= o.getD v 0/\o.getD v 0 <= z4h o I.sup.length:=by
 have h1:=posS_low (o:=o) hv
 rw [over_sum hr h] at h1
 have h2:=posS_ge (o:=o) hv
 omega
theorem over_zero {I:Inst} (hr:z04 I = 0) {x o:List Int} (h:OverOf I x o) (h0:∀ v,v < I.sup.length->o.getD v 0 <= 0):∀ v,v < I.sup.length->o.getD v 0 = 0:=fun v hv=>by
 have h1:=posS_low (o:=o) hv
 rw [over_sum hr h] at h1
 have h2:z4h o I.sup.length = 0:=by
  have:∀ k,k <= I.sup.length->z4h o k = 0:=by
   intro k
   induction k with
   | zero=>intro _; rfl
   | succ k ih=>intro hk; rw [z4h,ih (by omega)]; have:=h0 k (by omega); omega
  exact this _ (Nat.le_refl _)
 have:=h0 v hv
 omega
def z8u (I:Inst) (cnt:Stp->Bool) (π:Nat->Int):Prop:=∀ s,okS I s->cnt s = true->π (toS I s) <= π (frS I s) + csS I s
theorem pot_round {I:Inst} {cnt:Stp->Bool} {π:Nat->Int} (hp:z8u I cnt π) {b:Nat->Option Stp} (hb:∀ v s,v < I.sup.length->b v = some s->okS I s/\cnt s = true/\toS I s = v) (hr:z04 I = 0) {v:Nat} (hv:v < I.sup.length) :
  ∀ k,(∀ i,i < k->∃ s,b (z0n I b v i) = some s)->π v <= π (z0n I b v k) + z8v I b v k
 | 0,_=>by rw [z8v]; simp only [z0n]; omega
 | k + 1,h=>by
  have ih:=pot_round hp hb hr hv k fun i hi=>h i (by omega)
  obtain ⟨s,hs⟩:=h k (by omega)
  have hlt:=z5u hr (fun v s hv hs=>(hb v s hv hs).1) hv k
  obtain ⟨h1,h2,h3⟩:=hb _ s hlt hs
  have:=hp s h1 h2
  rw [h3] at this
  have en:z0n I b v (k + 1) = frS I s:=by rw [z0n,hs]
  have ec:z8v I b v (k + 1) = z8v I b v k + csS I s:=by rw [z8v,hs]
  rw [en,ec]; omega
def zc2 (I:Inst) (b:Nat->Option Stp):Nat->Nat->Nat
 | 0,_=>0
 | f + 1,v=>match b v with
  | none=>0
  | some s=>zc2 I b f (frS I s) + 1
theorem zjq {I:Inst} {b:Nat->Option Stp} {v:Nat} {s:Stp} (h:b v = some s) (k:Nat):z0n I b v (k + 1) = z0n I b (frS I s) k:=by
 have:=z35 I b v 1 k
 rw [show k + 1 = 1 + k by omega,this]
 congr 1
 simp [z0n,h]
theorem z6d {I:Inst} {b:Nat->Option Stp}:∀ (k f v:Nat),b (z0n I b v k) = none->k <= f->zc2 I b f v = zc2 I b k v/\zc2 I b k v <= k
 | 0,f,v,h,_=>by
  simp only [z0n] at h
  cases f with
  | zero=>exact ⟨rfl,Nat.le_refl _⟩
  | succ f=>simp [zc2,h]
 | k + 1,0,v,_,h=>by omega
 | k + 1,f + 1,v,h,hf=>by
  rw [zc2,zc2]
  cases hb:b v with
  | none=>exact ⟨rfl,Nat.zero_le _⟩
  | some s =>
   rw [zjq hb] at h
   obtain ⟨h1,h2⟩:=z6d k f (frS I s) h (by omega)
   dsimp only
   rw [h1]
   exact ⟨rfl,Nat.succ_le_succ h2⟩
theorem zaw {I:Inst} (hr:z04 I = 0) {cnt:Stp->Bool} {start:Nat->Bool} {d:Nat->Option Int} {b:Nat->Option Stp} {e:Option Nat} (h:ShortP I cnt start d b e) {π:Nat->Int} (hp:z8u I cnt π) :
  e = none/\(∀ s,okS I s->cnt s = true->∀ u,d (frS I s) = some u->∃ c,d (toS I s) = some c/\c <= u + csS I s)/\∃ ρ,Tree I b ρ/\∀ v,v < I.sup.length->ρ v < I.sup.length:=by
 obtain ⟨r,⟨⟨τ,T,t,hB⟩,hD⟩,h1,h2⟩:=h.inv
 have hby:∀ v s,v < I.sup.length->b v = some s->okS I s/\cnt s = true/\toS I s = v:=fun v s hv hs=>by
  obtain ⟨q1,q2,q3,-⟩:=hB.by_ v s hv hs; exact ⟨q1,q2,q3⟩
 have hlt:=fun (v:Nat) (hv:v < I.sup.length) (k:Nat)=>z5u hr (fun v s hv hs=>(hby v s hv hs).1) hv k
 have hno:∀ v,v < I.sup.length->¬ ∀ k,k < I.sup.length->∃ s,b (z0n I b v k) = some s:=fun v hv hall=>by
  obtain ⟨i,j,hij,hj,he⟩:=pigeon (n:=I.sup.length) (fun k=>z0n I b v k) fun k _=>hlt v hv k
  have hw:=hlt v hv i
  have hk:∀ k,k < j - i->∃ s,b (z0n I b (z0n I b v i) k) = some s:=fun k hk=>by
   rw [<- z35]; exact hall (i + k) (by omega)
  have hc:z0n I b (z0n I b v i) (j - i) = z0n I b v i:=by
   rw [<- z35,show i + (j - i) = j by omega]; exact he.symm
  have c1:=hB.cycle hr hw (by omega) hk hc
  have c2:=pot_round hp hby hr hw (j - i) hk
  rw [hc] at c2
  omega
 have he:e = none:=by
  cases hev:e with
  | none=>rfl
  | some v =>
   exact absurd (fun k hk=>((hB.long hr hev) k (by have:=h2 v hev; omega)).1) (hno v (hB.la v hev).1)
 subst he
 refine ⟨rfl,fun s hs hc u hu=>?_,fun v=>zc2 I b I.sup.length v,fun v s hv hs=>?_,fun v hv=>?_⟩
 ·rcases h1 rfl with h3 | h3
  ·exact hB.end_ h3 (fun _ _=>rfl) s hs hc u hu
  ·have:=z2y hr hs; omega
 ·obtain ⟨q1,q2,q3⟩:=hby v s hv hs
  refine ⟨q1,q3,?_⟩
  have:∃ k,k < I.sup.length/\b (z0n I b v k) = none:=by
   apply Classical.byContradiction
   intro hn
   exact hno v hv fun k hk=>by
    cases hb:b (z0n I b v k) with
    | none=>exact absurd ⟨k,hk,hb⟩ hn
    | some s=>exact ⟨s,rfl⟩
  obtain ⟨k,hk,hb⟩:=this
  cases k with
  | zero=>simp only [z0n] at hb; rw [hs] at hb; cases hb
  | succ k =>
   have e1:=(z6d (k + 1) I.sup.length v hb (by omega)).1
   have hb2:=hb
   rw [zjq hs] at hb2
   have e2:=(z6d k I.sup.length (frS I s) hb2 (by omega)).1
   show zc2 I b I.sup.length (frS I s) < zc2 I b I.sup.length v
   rw [e1,e2,zc2,hs]
   exact Nat.lt_succ_self _
 ·have:∃ k,k < I.sup.length/\b (z0n I b v k) = none:=by
   apply Classical.byContradiction
   intro hn
   exact hno v hv fun k hk=>by
    cases hb:b (z0n I b v k) with
    | none=>exact absurd ⟨k,hk,hb⟩ hn
    | some s=>exact ⟨s,rfl⟩
  obtain ⟨k,hk,hb⟩:=this
  have:=z6d k I.sup.length v hb (by omega)
  dsimp only
  omega
theorem ShortP.by_ {I:Inst} {cnt:Stp->Bool} {start:Nat->Bool} {d:Nat->Option Int} {b:Nat->Option Stp} {e:Option Nat} (h:ShortP I cnt start d b e) {v:Nat} {s:Stp} (hv:v < I.sup.length) (hs:b v = some s):cnt s = true/\toS I s = v/\∃ c u,d v = some c/\d (frS I s) = some u/\u + csS I s <= c:=by
 obtain ⟨r,⟨⟨τ,T,t,hB⟩,hD⟩,h1,h2⟩:=h.inv
 obtain ⟨q1,q2,q3,c,u,q4,q5,q6,q7⟩:=hB.by_ v s hv hs
 exact ⟨q2,q3,c,u,q4,q5,q6⟩
theorem ShortP.no {I:Inst} {cnt:Stp->Bool} {start:Nat->Bool} {d:Nat->Option Int} {b:Nat->Option Stp} {e:Option Nat} (h:ShortP I cnt start d b e) {v:Nat} (hv:v < I.sup.length) (hs:b v = none) {c:Int} (hc:d v = some c):start v = true:=by
 obtain ⟨r,⟨⟨τ,T,t,hB⟩,hD⟩,h1,h2⟩:=h.inv
 exact (hB.no v hv hs c hc).1
theorem ShortP.st {I:Inst} {cnt:Stp->Bool} {start:Nat->Bool} {d:Nat->Option Int} {b:Nat->Option Stp} {e:Option Nat} (h:ShortP I cnt start d b e) {v:Nat} (hv:v < I.sup.length) (hs:start v = true):∃ c,d v = some c:=by
 obtain ⟨r,⟨⟨τ,T,t,hB⟩,hD⟩,h1,h2⟩:=h.inv
 obtain ⟨c,h3,-⟩:=hB.st v hv hs
 exact ⟨c,h3⟩
theorem ShortP.db {I:Inst} {cnt:Stp->Bool} {start:Nat->Bool} {d:Nat->Option Int} {b:Nat->Option Stp} {e:Option Nat} (h:ShortP I cnt start d b e) (hr:z04 I = 0) {v:Nat} {c:Int} (hc:d v = some c):-144115188075855872 <= c/\c <= 144115188075855872:=by
 obtain ⟨r,⟨⟨τ,T,t,hB⟩,hD⟩,h1,h2⟩:=h.inv
 have:=hD.big hr (Nat.le_refl _) v c hc
 omega
theorem ShortP.few {I:Inst} {cnt:Stp->Bool} {start:Nat->Bool} {d:Nat->Option Int} {b:Nat->Option Stp} {e:Option Nat} (h:ShortP I cnt start d b e) {C:Int} (h0:0 <= C) (hC:∀ s,okS I s->-C <= csS I s/\csS I s <= C) {v:Nat} {c:Int} (hc:d v = some c):-(C * 32768) <= c/\c <= C * 32768:=by
 obtain ⟨r,⟨⟨τ,T,t,hB⟩,hD⟩,h1,h2⟩:=h.inv
 exact hD C h0 hC v c hc
theorem zmy {I:Inst} (hr:z04 I = 0) {cnt:Stp->Bool} {d:Nat->Option Int} {b:Nat->Option Stp} {e:Option Nat} (h:ShortP I cnt (fun _=>true) d b e) {π:Nat->Int} (hp:z8u I cnt π):∃ g:Nat->Int,(∀ v,v < I.sup.length->d v = some (g v))/\z8u I cnt g:=by
 obtain ⟨h1,h2,-⟩:=zaw hr h hp
 have hk:∀ v,v < I.sup.length->∃ c,d v = some c:=fun v hv=>h.st hv rfl
 refine ⟨fun v=>(d v).getD 0,fun v hv=>?_,fun s hs hc=>?_⟩
 ·obtain ⟨c,hc⟩:=hk v hv
  dsimp only
  rw [hc]; rfl
 ·obtain ⟨u,hu⟩:=hk _ (z2y hr hs)
  obtain ⟨c,h3,h4⟩:=h2 s hs hc u hu
  dsimp only
  rw [hu,h3]; exact h4
theorem max_of (f:Nat->Int):∀ n,∃ K,∀ i,i < n->f i <= K
 | 0=>⟨0,fun i hi=>absurd hi (Nat.not_lt_zero _)⟩
 | n + 1=>by
  obtain ⟨K,hK⟩:=max_of f n
  refine ⟨max K (f n),fun i hi=>?_⟩
  by_cases e:i = n
  ·subst e; omega
  ·have:=hK i (by omega); omega
def z9s (I:Inst) (x:List Int) (L:Int):Stp->Bool:=fun s=>decide (L <= rmS I x s)
structure NInv (I:Inst) (x o:List Int) (B:Int):Prop where
 over:OverOf I x o
 betw:Betw I x
 bd:∀ a,a < I.arcs.length->-B <= x.getD a 0/\x.getD a 0 <= B
theorem zgg {I:Inst} (hr:z04 I = 0) {cnt:Stp->Bool} {start:Nat->Bool} {d:Nat->Option Int} {b:Nat->Option Stp} {e:Option Nat} (h:ShortP I cnt start d b e) (hok:∀ v s,v < I.sup.length->b v = some s->okS I s):∀ (f v:Nat),v < I.sup.length->∀ c,d v = some c->(∃ c',d (z13 I b f v) = some c')/\∀ s ∈ z1t I b f v,cnt s = true
 | 0,v,_,c,hc=>⟨⟨c,hc⟩,fun s hs=>by simp [z1t] at hs⟩
 | f + 1,v,hv,c,hc=>by
  rw [z1t,z13]
  cases hb:b v with
  | none=>exact ⟨⟨c,hc⟩,fun s hs=>by simp at hs⟩
  | some t =>
   obtain ⟨q1,q2,c',u,q3,q4,-⟩:=h.by_ hv hb
   obtain ⟨i1,i2⟩:=zgg hr h hok f (frS I t) (z2y hr (hok v t hv hb)) u q4
   refine ⟨i1,fun s hs=>?_⟩
   rcases List.mem_cons.1 hs with rfl | hs
   ·exact q1
   ·exact i2 s hs
theorem al_ok {I:Inst} (hr:z04 I = 0) {x o:List Int} {B:Int} (hN:NInv I x o B) (hB:B <= 144115188075855872) (hP:z4h o I.sup.length <= 144115188075855872) {b:Nat->Option Stp} {ρ:Nat->Nat} (hT:Tree I b ρ) (hρ:∀ v,v < I.sup.length->ρ v < I.sup.length)
  {v:Nat} (hv:v < I.sup.length) {L:Int} (hL:0 <= L) (h1:L <= o.getD (z13 I b I.sup.length v) 0) (h2:L <= -(o.getD v 0)) (h3:∀ s ∈ z1t I b I.sup.length v,L <= rmS I x s) :
  AlOk I x o (z0i I.sup.length b) (v:Int)/\L <= alU I x o (z0i I.sup.length b) v/\alL I (z0i I.sup.length b) v = z1t I b I.sup.length v/\alR I (z0i I.sup.length b) v = z13 I b I.sup.length v:=by
 obtain ⟨e1,e2⟩:=zn5 hr (b:=b) (b':=bOf (z0i I.sup.length b)) (fun w hw=>(bOf_row b hw).symm) (fun w s hw hs=>(hT w s hw hs).1) I.sup.length v hv
 have a1:alL I (z0i I.sup.length b) v = z1t I b I.sup.length v:=by unfold alL; rw [Int.toNat_natCast]; exact e1.symm
 have a2:alR I (z0i I.sup.length b) v = z13 I b I.sup.length v:=by unfold alR; rw [Int.toNat_natCast]; exact e2.symm
 have hU:L <= alU I x o (z0i I.sup.length b) v:=by
  unfold alU
  refine unitsF_ge _ _ ?_ (by rw [a1]; exact h3)
  unfold alU0
  rw [a2,Int.toNat_natCast]; omega
 refine ⟨⟨hr,hN.over.lx,hN.over.lo,yb_of fun k hk=>?_,yb_of fun k hk=>?_,by omega,by rw [Int.toNat_natCast]; exact hv,⟨b,ρ,rfl,hT,hρ⟩,by omega⟩,hU,a1,a2⟩
 ·have:=hN.bd k (by rw [<- hN.over.lx]; exact hk); omega
 ·have:=over_bd hr hN.over (v:=k) (by rw [<- hN.over.lo]; exact hk); omega
theorem al_does {I:Inst} {x o:List Int} {B:Int} (hN:NInv I x o B) (hB0:0 <= B) {by_:List (List Int)} {e:Int} (A:AlOk I x o by_ e) (hU:1 <= alU I x o by_ e) :
  NInv I (z2o x (alL I by_ e) (alU I x o by_ e)) (z1w I o (alL I by_ e) (alU I x o by_ e)) (B + alU I x o by_ e) /\
  z4h (z1w I o (alL I by_ e) (alU I x o by_ e)) I.sup.length = z4h o I.sup.length - alU I x o by_ e /\
  ∀ s,okS I s->rmS I x s < rmS I (z2o x (alL I by_ e) (alU I x o by_ e)) s->(s.1,!s.2) ∈ alL I by_ e:=by
 obtain ⟨ρ,h1,h2⟩:=A.tree'
 have hr:=A.right
 have hn:=zn6 hr h1 I.sup.length e.toNat A.e1
 have hm:=A.mem
 have hle:=zn3 (I:=I) (x:=x) (alL I by_ e) (alU0 I o by_ e)
 have hx:=fun a=>zd6 (u:=alU I x o by_ e) (x:=x) (l:=alL I by_ e) hn (fun s hs=>by rw [hN.over.lx]; exact hm s hs) a
 have ho:=zlr hr h1 (u:=alU I x o by_ e) I.sup.length e.toNat o A.e1 hN.over.lo
 have hst:=A.stop
 have hroot:alU I x o by_ e <= o.getD (alR I by_ e) 0/\alU I x o by_ e <= -(o.getD e.toNat 0):=by
  have:=hle.1
  unfold alU alU0 at *
  omega
 have hne:¬ e.toNat = alR I by_ e:=fun h=>by rw [<- h] at hroot; omega
 refine ⟨⟨hN.over.pushs hr _ hm,betw_pushs hN.betw hN.over.lx hn hm (by omega) fun s hs=>hle.2 s hs,fun a ha=>?_⟩,?_,fun s hs hlt=>?_⟩
 ·have:=hN.bd a ha
  rw [hx a]
  repeat' split <;> omega
 ·refine posS_less (r:=alR I by_ e) hst.2 (fun v hv hvr=>?_) ?_
  ·have:=ho v hv
   unfold alL
   rw [this]
   have hrv:¬ z13 I (bOf by_) I.sup.length e.toNat = v:=fun h=>hvr (by unfold alR; exact h.symm)
   rw [if_neg hrv]
   by_cases ev:e.toNat = v
   ·subst ev; rw [if_pos rfl]; omega
   ·rw [if_neg ev]; omega
  ·have:=ho (alR I by_ e) hst.2
   unfold alL
   rw [this,if_neg hne,if_pos (show z13 I (bOf by_) I.sup.length e.toNat = alR I by_ e from rfl)]
   omega
 ·obtain ⟨a,k⟩:=s
  unfold rmS at hlt
  dsimp only at hlt ⊢
  rw [hx a] at hlt
  cases k with
  | true =>
   simp only [if_true] at hlt
   rw [Bool.not_true]
   apply Classical.byContradiction
   intro h3
   rw [if_neg h3] at hlt
   split at hlt <;> omega
  | false =>
   simp only [Bool.false_eq_true,if_false] at hlt
   rw [Bool.not_false]
   apply Classical.byContradiction
   intro h3
   rw [if_neg h3] at hlt
   split at hlt
   ·omega
   ·split at hlt <;> omega
theorem al_pot {I:Inst} (hr:z04 I = 0) {x o:List Int} {L:Int} {start:Nat->Bool} {d:Nat->Option Int} {b:Nat->Option Stp} {e:Option Nat} (h:ShortP I (z9s I x L) start d b e) {π:Nat->Int} (hp:z8u I (z9s I x L) π)
  {v:Nat} (hv:v < I.sup.length) {c:Int} (hc:d v = some c) {x':List Int} (hx:∀ s,okS I s->rmS I x s < rmS I x' s->(s.1,!s.2) ∈ z1t I b I.sup.length v):∃ π',z8u I (z9s I x' L) π':=by
 obtain ⟨he,hcv,ρ,hT,hρ⟩:=zaw hr h hp
 obtain ⟨-,hw⟩:=zgg hr h (fun v s hv hs=>(hT v s hv hs).1) I.sup.length v hv c hc
 have hm:=ze5 hr hT I.sup.length v hv
 obtain ⟨K1,hK1⟩:=max_of (fun a=>(d (toS I (a,false))).getD 0 - csS I (a,false) - π (frS I (a,false))) I.arcs.length
 obtain ⟨K2,hK2⟩:=max_of (fun a=>(d (toS I (a,true))).getD 0 - csS I (a,true) - π (frS I (a,true))) I.arcs.length
 have hK:∀ s,okS I s->(d (toS I s)).getD 0 - csS I s - π (frS I s) <= max K1 K2:=fun s hs=>by
  obtain ⟨a,k⟩:=s
  cases k with
  | false=>have:=hK1 a hs; omega
  | true=>have:=hK2 a hs; omega
 refine ⟨fun w=>match d w with | some c=>c | none=>π w + max K1 K2,fun s hs hcs=>?_⟩
 dsimp only
 by_cases hold:z9s I x L s = true
 ·cases hf:d (frS I s) with
  | some u =>
   obtain ⟨c2,h3,h4⟩:=hcv s hs hold u hf
   rw [h3]; exact h4
  | none =>
   cases ht:d (toS I s) with
   | none=>have:=hp s hs hold; dsimp only; omega
   | some c2=>have:=hK s hs; rw [ht] at this; simp only [Option.getD_some] at this; dsimp only; omega
 ·unfold z9s at hold hcs
  rw [decide_eq_true_eq] at hold hcs
  have hmem:=hx s hs (by omega)
  obtain ⟨m1,m2,-,-⟩:=hm _ hmem
  obtain ⟨a,k⟩:=s
  dsimp only at hmem m1 m2
  obtain ⟨f1,f2,f3⟩:=zkr I a k
  rw [f2] at m2
  obtain ⟨q1,q2,c2,u,q3,q4,q5⟩:=h.by_ (z2y hr hs) m2
  rw [f1] at q4
  rw [f3] at q5
  obtain ⟨c3,q6,q7⟩:=hcv _ m1 q1 u (by rw [f1]; exact q4)
  rw [f2] at q6
  rw [q3] at q6; cases q6
  rw [q3,q4]
  dsimp only
  omega
end Go.Ql
end
section
namespace Go.Ql
open Go Go.Vc
theorem posS_more {o p:List Int} {r:Nat} {u:Int} (hu:0 <= u):∀ {k:Nat},(∀ v,v < k->v ≠ r->max (p.getD v 0) 0 <= max (o.getD v 0) 0)->max (p.getD r 0) 0 <= max (o.getD r 0) 0 + u->z4h p k <= z4h o k + u
 | 0,_,_=>by rw [z4h,z4h]; omega
 | k + 1,h1,h2=>by
  rw [z4h,z4h]
  by_cases e:r = k
  ·subst e
   have:∀ j,j <= r->z4h p j <= z4h o j:=by
    intro j
    induction j with
    | zero=>intro _; exact Int.le_refl _
    | succ j ih=>intro hj; rw [z4h,z4h]; have:=ih (by omega); have:=h1 j (by omega) (by omega); omega
   have:=this r (Nat.le_refl _); omega
  ·have:=posS_more (o:=o) (p:=p) (r:=r) hu (k:=k) (fun v hv hne=>h1 v (by omega) hne) h2
   have:=h1 k (by omega) (fun e'=>e e'.symm); omega
theorem posS_push {I:Inst} (hr:z04 I = 0) {o:List Int} (ho:o.length = I.sup.length) {s:Stp} (hs:okS I s) {u:Int} (hu:0 <= u):z4h (z6n I o s u) I.sup.length <= z4h o I.sup.length + u:=by
 refine posS_more (r:=toS I s) hu (fun v hv hne=>?_) ?_
 ·rw [zd5 (by rw [ho]; exact hv)]
  (repeat' split) <;> omega
 ·rw [zd5 (by rw [ho]; exact z5m hr hs)]
  (repeat' split) <;> omega
def rcOk (I:Inst) (g:Nat->Int) (s:Stp):Prop:=g (toS I s) <= g (frS I s) + csS I s
theorem rc_flip {I:Inst} {g:Nat->Int} {a:Nat} {k:Bool} (h:¬ rcOk I g (a,k)):rcOk I g (a,!k):=by
 obtain ⟨f1,f2,f3⟩:=zkr I a k
 unfold rcOk at *
 rw [f1,f2,f3]; omega
structure SatI (I:Inst) (g:Nat->Int) (L B P:Int) (q:Nat) (done:Stp->Bool) (x o:List Int):Prop where
 n:NInv I x o B
 hi:∀ s,okS I s->2 * L <= rmS I x s->rcOk I g s
 lo:∀ s,okS I s->done s = true->L <= rmS I x s->rcOk I g s
 p:z4h o I.sup.length <= P + 2 * L * q
theorem rmS_other {x:List Int} {I:Inst} {s t:Stp} {u:Int} (hl:x.length = I.arcs.length) (hs:okS I s) (h:t.1 ≠ s.1):rmS I (z4q x s u) t = rmS I x t:=by
 unfold rmS
 rw [z8i (by rw [hl]; exact hs),if_neg h,Int.add_zero]
theorem rmS_self {x:List Int} {I:Inst} {s:Stp} (hl:x.length = I.arcs.length) (hs:okS I s) (hc:s.2 = false->¬ (z1y I s.1).cap = inf):rmS I (z4q x s (rmS I x s)) s = 0:=by
 have e:=z8i (x:=x) (s:=s) (u:=rmS I x s) (a:=s.1) (by rw [hl]; exact hs)
 rw [if_pos rfl] at e
 unfold rmS at *
 rw [e]
 cases h:s.2 with
 | true=>simp only [h,if_true] at *; omega
 | false=>simp only [h,Bool.false_eq_true,if_false,if_neg (hc h)] at *; omega
theorem SatI.skip {I:Inst} {g:Nat->Int} {L B P:Int} {q a:Nat} {k:Bool} {x o:List Int} (h:SatI I g L B P q (z1g a (bif k then 1 else 0)) x o) (hL:0 <= L) (hn:L <= rmS I x (a,k)->rcOk I g (a,k)):SatI I g L B P (q + 1) (z1g a ((bif k then 1 else 0) + 1)) x o :=
  { n:=h.n,hi:=h.hi,
    lo:=fun s hs hd hr=>by
      rw [zah] at hd
      by_cases e:s = (a,k)
      · subst e; exact hn hr
      · rw [decide_eq_false e,Bool.or_false] at hd
        exact h.lo s hs hd hr,
    p:=by
      have:=h.p
      have e:2 * L * ((q + 1:Nat):Int) = 2 * L * q + 2 * L:=by rw [Int.natCast_add,Int.mul_add]; simp
      omega }
theorem SatI.fill {I:Inst} (hr:z04 I = 0) {g:Nat->Int} {L B P:Int} {q a:Nat} {k:Bool} {x o:List Int} (h:SatI I g L B P q (z1g a (bif k then 1 else 0)) x o) (hL:1 <= L) (hB:4398046511104 <= B) (ha:a < I.arcs.length)
  (h1:L <= rmS I x (a,k)) (h2:¬ rcOk I g (a,k)) (hinf:endS I (a,k) = true->rcOk I g (a,k)):SatI I g L B P (q + 1) (z1g a ((bif k then 1 else 0) + 1)) (z4q x (a,k) (rmS I x (a,k))) (z6n I o (a,k) (rmS I x (a,k))):=by
 have hs:okS I (a,k):=ha
 have hlt:rmS I x (a,k) < 2 * L:=by
  apply Int.lt_of_not_ge
  intro hge
  exact h2 (h.hi _ hs hge)
 have hc:k = false->¬ (z1y I a).cap = inf:=fun hk hcap=>h2 (hinf (by subst hk; unfold endS; simp [hcap]))
 have hfl:=rc_flip h2
 have hz:=rmS_self (x:=x) (s:=(a,k)) h.n.over.lx hs hc
 have hother:∀ s,okS I s->s.1 ≠ a->rmS I (z4q x (a,k) (rmS I x (a,k))) s = rmS I x s:=fun s _ hne=>rmS_other h.n.over.lx hs hne
 have hcase:∀ s:Stp,s.1 = a->s = (a,k) ∨ s = (a,!k):=fun s hsa=>by
  obtain ⟨a',k'⟩:=s
  dsimp only at hsa
  subst hsa
  by_cases e:k' = k
  ·subst e; exact .inl rfl
  ·refine .inr ?_; cases k <;> cases k' <;> simp_all
 have hbt:=betw_push h.n.betw h.n.over.lx hs (show 0 <= rmS I x (a,k) by omega) (Int.le_refl _)
 refine ⟨⟨h.n.over.push hr hs _,hbt,fun c hcl=>?_⟩,fun s h3 h4=>?_,fun s h3 h4 h5=>?_,?_⟩
 ·by_cases e:c = a
  ·subst e
   have ok:=z1l hr hcl
   have hb:=hbt c hcl
   have hx:=z8i (x:=x) (s:=(c,k)) (u:=rmS I x (c,k)) (a:=c) (by rw [h.n.over.lx]; exact hs)
   rw [if_pos rfl] at hx
   dsimp only at hx
   have hbd:=h.n.bd c hcl
   have l0:=ok.l0
   have l1:=ok.l1
   refine ⟨by omega,?_⟩
   cases hk:k with
   | true =>
    subst hk
    simp only [if_true] at hx
    unfold rmS at hx ⊢
    simp only [if_true] at hx ⊢
    omega
   | false =>
    subst hk
    have hc2:=(ok.c.resolve_left (hc rfl)).2
    have:=hb.2.resolve_left (hc rfl)
    omega
  ·have hx:=z8i (x:=x) (s:=(a,k)) (u:=rmS I x (a,k)) (a:=c) (by rw [h.n.over.lx]; exact hs)
   rw [if_neg e,Int.add_zero] at hx
   rw [hx]; exact h.n.bd c hcl
 ·by_cases e:s.1 = a
  ·rcases hcase s e with rfl | rfl
   ·rw [hz] at h4; omega
   ·exact hfl
  ·rw [hother s h3 e] at h4; exact h.hi s h3 h4
 ·by_cases e:s.1 = a
  ·rcases hcase s e with rfl | rfl
   ·rw [hz] at h5; omega
   ·exact hfl
  ·rw [hother s h3 e] at h5
   rw [zah,decide_eq_false (fun e'=>e (by rw [e'])),Bool.or_false] at h4
   exact h.lo s h3 h4 h5
 ·have:=posS_push hr h.n.over.lo hs (u:=rmS I x (a,k)) (by omega)
  have:=h.p
  have e:2 * L * ((q + 1:Nat):Int) = 2 * L * q + 2 * L:=by rw [Int.natCast_add,Int.mul_add]; simp
  omega
theorem badA_none {m:Int} {side:List Bool} {l:List Arc} (h:∀ a ∈ l,zby m side a = true->¬ a.cap = inf):∃ t,z0w m side l 0 = some t/\t = (l.map fun a=>if zby m side a then a.cap else if inA m side a then -a.low else 0).sum:=by
 have:∀ (l:List Arc) (s:Int),(∀ a ∈ l,zby m side a = true->¬ a.cap = inf)->z0w m side l s = some (s + (l.map fun a=>if zby m side a then a.cap else if inA m side a then -a.low else 0).sum):=by
  intro l
  induction l with
  | nil=>intro s _; simp [z0w]
  | cons a l ih =>
   intro s h
   rw [z29,List.map_cons,List.sum_cons]
   by_cases h1:zby m side a = true
   ·rw [if_pos h1,if_neg (h a (by simp) h1),ih _ (fun b hb=>h b (by simp [hb])),if_pos h1]
    congr 1; omega
   ·rw [if_neg h1,if_neg h1]
    by_cases h2:inA m side a = true
    ·rw [if_pos h2,if_pos h2,ih _ (fun b hb=>h b (by simp [hb]))]; congr 1; omega
    ·rw [if_neg h2,if_neg h2,ih _ (fun b hb=>h b (by simp [hb]))]; congr 1; omega
 exact ⟨_,by rw [this l 0 h,Int.zero_add],rfl⟩
theorem zf6 {m:Int} {side:List Bool} {l:List Arc} {x:List Int} (h1:∀ j a,l[j]? = some a->zby m side a = true->¬ a.cap = inf/\x.getD j 0 = a.cap) (h2:∀ j a,l[j]? = some a->inA m side a = true->x.getD j 0 = a.low) :
  ∀ k,k <= l.length->z66 m side l x k = ((l.take k).map fun a=>if zby m side a then a.cap else if inA m side a then -a.low else 0).sum
 | 0,_=>rfl
 | k + 1,hk=>by
  have ih:=zf6 h1 h2 k (by omega)
  have ha:l[k]? = some l[k]:=List.getElem?_eq_getElem (by omega)
  rw [z66,z1c ha,List.map_append,List.sum_append,ih]
  have hd:l.getD k default = l[k]:=by rw [List.getD_eq_getElem?_getD,ha]; rfl
  rw [hd]
  unfold zgn
  simp only [List.map_cons,List.map_nil,List.sum_cons,List.sum_nil,Int.add_zero]
  by_cases q1:zby m side l[k] = true
  ·rw [if_pos q1,if_pos q1,(h1 k _ ha q1).2,if_neg (by rw [out_not_in q1]; exact Bool.false_ne_true)]; omega
  ·rw [if_neg q1,if_neg q1]
   by_cases q2:inA m side l[k] = true
   ·rw [if_pos q2,if_pos q2,h2 k _ ha q2]; omega
   ·rw [if_neg q2,if_neg q2]; omega
theorem zmz {I:Inst} (hr:z04 I = 0) {x o:List Int} (h:OverOf I x o) (hb:Betw I x) {side:List Bool} (hl:side.length = I.sup.length) (hcl:∀ s,okS I s->0 < rmS I x s->side.getD (frS I s) false = true->side.getD (toS I s) false = true)
  (hpos:0 < z1i (fun v=>if side.getD v false then o.getD v 0 else 0) I.sup.length):z20 I side = 0:=by
 have hs:=z0c hr
 have hin:=zhs hr
 have hout:∀ j a,I.arcs[j]? = some a->zby I.sup.length side a = true->¬ a.cap = inf/\x.getD j 0 = a.cap:=fun j a ha ho=>by
  have hj:=(List.getElem?_eq_some_iff.1 ha).1
  rw [(on_in (hin a (List.mem_of_getElem? ha))).1,Bool.and_eq_true,Bool.not_eq_true'] at ho
  have hq:=hcl (j,false) hj
  have e1:frS I (j,false) = a.src.toNat:=by simp [frS,z28 ha]
  have e2:toS I (j,false) = a.dst.toNat:=by simp [toS,z28 ha]
  rw [e1,e2] at hq
  have hz:¬ 0 < rmS I x (j,false):=fun h0=>by rw [hq h0 ho.1] at ho; exact absurd ho.2 (by simp)
  have hb2:=hb j hj
  rw [z28 ha] at hb2
  unfold rmS at hz
  dsimp only at hz
  rw [if_neg Bool.false_ne_true,z28 ha] at hz
  by_cases hc:a.cap = inf
  ·rw [if_pos hc] at hz; omega
  ·rw [if_neg hc] at hz
   have:=hb2.2.resolve_left hc
   exact ⟨hc,by omega⟩
 have hinn:∀ j a,I.arcs[j]? = some a->inA I.sup.length side a = true->x.getD j 0 = a.low:=fun j a ha ho=>by
  have hj:=(List.getElem?_eq_some_iff.1 ha).1
  rw [(on_in (hin a (List.mem_of_getElem? ha))).2,Bool.and_eq_true,Bool.not_eq_true'] at ho
  have hq:=hcl (j,true) hj
  have e1:frS I (j,true) = a.dst.toNat:=by simp [frS,z28 ha]
  have e2:toS I (j,true) = a.src.toNat:=by simp [toS,z28 ha]
  rw [e1,e2] at hq
  have hz:¬ 0 < rmS I x (j,true):=fun h0=>by rw [hq h0 ho.1] at ho; exact absurd ho.2 (by simp)
  have hb2:=hb j hj
  rw [z28 ha] at hb2
  unfold rmS at hz
  dsimp only at hz
  rw [if_pos rfl,z28 ha] at hz
  omega
 obtain ⟨t,ht,htv⟩:=badA_none (m:=(I.sup.length:Int)) (side:=side) (l:=I.arcs) fun a ha ho=>by
  obtain ⟨j,hj⟩:=List.mem_iff_getElem?.1 ha
  exact (hout j a hj ho).1
 have hcf:=zf6 hout hinn I.arcs.length (Nat.le_refl _)
 rw [List.take_length,<- htv] at hcf
 have hneed:zb0 I side = z1i (fun v=>if side.getD v false then o.getD v 0 else 0) I.sup.length + t:=by
  unfold zb0
  rw [z8d,<- hcf,<- zk7,<- za1]
  refine z14 fun v hv=>?_
  have:=h.at_ v hv
  split <;> omega
 have hcm:=cmp_need (side:=side) (s:=t) hr (by omega) (by omega) (z1j hr).1 ht (zb0 I side) rfl
 unfold z20
 rw [if_neg (fun h=>h hr),if_neg (fun h=>h hl),show z2p I side = some t from ht]
 dsimp only
 rw [if_neg (fun hle=>by have:=hcm.1 hle; omega)]
theorem stuck_zero {I:Inst} (hr:z04 I = 0) {x o:List Int} (h:OverOf I x o) (hb:Betw I x) {d:Nat->Bool} (h1:∀ v,v < I.sup.length->1 <= o.getD v 0->d v = true) (h2:∀ s,okS I s->1 <= rmS I x s->d (frS I s) = true->d (toS I s) = true) (h3:∀ v,v < I.sup.length->o.getD v 0 <= -1->d v = false)
  {y:List Int} (hy:A64 y) (hf:z19 I y = 0):∀ v,v < I.sup.length->o.getD v 0 = 0:=by
 refine over_zero hr h fun v hv=>?_
 apply Classical.byContradiction
 intro hn
 have hs:=z0c hr
 have hget:∀ w,w < I.sup.length->((List.range I.sup.length).map d).getD w false = d w:=fun w hw=>by
  rw [List.getD_eq_getElem?_getD,List.getElem?_map,List.getElem?_range hw]; rfl
 have hp:=zmz (side:=(List.range I.sup.length).map d) hr h hb (by simp) (fun s hs h0 hd=>by
  rw [hget _ (z2y hr hs)] at hd
  rw [hget _ (z5m hr hs)]
  exact h2 s hs (by omega) hd) (by
   have hnn:∀ w,w < I.sup.length->0 <= (if ((List.range I.sup.length).map d).getD w false then o.getD w 0 else 0):=fun w hw=>by
    rw [hget w hw]
    split
    ·rename_i hd
     apply Int.le_of_not_gt
     intro hlt
     rw [h3 w hw (by omega)] at hd; cases hd
    ·omega
   have:∀ k,k <= I.sup.length->0 <= z1i (fun w=>if ((List.range I.sup.length).map d).getD w false then o.getD w 0 else 0) k/\(v < k->0 < z1i (fun w=>if ((List.range I.sup.length).map d).getD w false then o.getD w 0 else 0) k):=by
    intro k
    induction k with
    | zero=>intro _; exact ⟨Int.le_refl _,fun h=>absurd h (Nat.not_lt_zero _)⟩
    | succ k ih =>
     intro hk
     obtain ⟨i1,i2⟩:=ih (by omega)
     have:=hnn k (by omega)
     rw [z1i]
     refine ⟨by omega,fun hvk=>?_⟩
     by_cases e:v = k
     ·subst e
      rw [hget v hv,h1 v hv (by omega),if_pos rfl]
      omega
     ·have:=i2 (by omega); omega
   exact (this _ (Nat.le_refl _)).2 hv)
 exact zc1 (by omega) (by omega) hy (z1j hr).1 hp hf
end Go.Ql
end
