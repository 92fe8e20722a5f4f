/- Part of the proof: FN20, DO20, FO20, DP20. -/
import Derived.Test.YtggblkbecekbdaaGreatZG8
import Derived.Test.YtggblkbecekbdaaGreatZG9
import Derived.Test.YtggblkbecekbdaaGreatZG5
set_option linter.unusedVariables false
set_option linter.all false
set_option linter.unusedSimpArgs false
set_option maxRecDepth 1000000
section
namespace Go.Proofs.YtggblkbecekbdaaGreat
open Go Go.RowKit Go.Ql Go.Vc
theorem ze7:SpecOk Tryz.prog ze6 false z6q :=
 z7d z0i (show z15 Tryz.prog some64_g from z03) (by kernel_rfl) mixedOrders Tryz.func153 rfl rfl (by kernel_rfl) _
theorem ze9:SpecOk Tryz.prog zgm false z66 :=
 z7d z0i (show z15 Tryz.prog someS_g from z03) (by kernel_rfl) mixedOrders Tryz.func150 rfl rfl (by kernel_rfl) _
theorem ze8:SpecOk Tryz.prog zgl false z65 :=
 z7d z0i (show z15 Tryz.prog someI_g from z03) (by kernel_rfl) mixedOrders Tryz.func151 rfl rfl (by kernel_rfl) _
def zkm (n : Int) : Prop :=
   (true=true/\True)/\True
theorem everyw_q (n:Int):zkm n=z23 TT everyw_g (everyw_I n) (everyw_an n) Tryz.f105 [.int .i64 n] [] (everyw_r n):=by kernel_rfl
theorem everyw_E (n:Int) (hp:True):FVc TT everyw_g (everyw_I n) (everyw_an n) Tryz.f105 [.int .i64 n] [] (everyw_r n):=by
 refine FVc.of (zkm n) (everyw_q n) ?_
 unfold zkm
 simp only [eq_self,exists_const,forall_const,ne_eq,Int.toNat_natCast,zSS,z08]
theorem zkn:SpecOk Tryz.prog zhs true (z02 true z9a) :=
 z09 z0i (show z15 Tryz.prog everyw_g from z03) (by kernel_rfl) mixedOrders Tryz.func105 rfl rfl (by kernel_rfl) (n:=1) (by decide +kernel) (I:=everyw_IA) (fun _ _=>z07) (A:=everyw_A)
  (fun args h r hr=>by
   unfold z9a at hr
   split at hr
   ·rename_i n; cases hr; refine ⟨rfl,fun hp=>?_⟩; have hE:=everyw_E n hp; exact hE
   ·cases hr)
def ends_E0 (w : Inst) (w_x : List Int) (w_o : List Int) (w_t : Ql.Rows3) (w_v : List Value) (s : Int) (s_b : Bool) (ty1 ty2 ty3 ty4 ty5 tz5 : TypeId) : Prop :=
      ((0:Int) <= s/\s<(↑w.arcs.length:Int)) /\
 s.toNat<w.arcs.length /\
 ∀ (x:Arc),
 w.arcs[s.toNat]? = some x ->
 (s_b=true->((x.dst=(↑(frS w (s.toNat,s_b)):Int)/\x.src=(↑(toS w (s.toNat,s_b)):Int)/\True)/\True)/\True) /\
 (s_b=false->((x.src=(↑(frS w (s.toNat,s_b)):Int)/\x.dst=(↑(toS w (s.toNat,s_b)):Int)/\True)/\True)/\True)
theorem ends_q (w:Inst) (w_x:List Int) (w_o:List Int) (w_t:Ql.Rows3) (w_v:List Value) (s:Int) (s_b:Bool) (ty1 ty2 ty3 ty4 ty5 tz5:TypeId):ends_E0 w w_x w_o w_t w_v s s_b ty1 ty2 ty3 ty4 ty5 tz5=z23 TT ends_g (ends_I w w_x w_o w_t w_v s s_b) (ends_an w w_x w_o w_t w_v s s_b) Tryz.f107 [.ptr 0 0 0 0,.agg [.int .i64 s,.bool s_b]] [(0,.box false 109 [.row 1,.row 2,.row 3,.row 4,.row 5]),(1,.row false ty1 (.ints .i64 w.sup)),(2,.row false ty2 (.arcs w.arcs)),(3,.row false ty3 (.ints .i64 w_x)),(4,.row false ty4 (.ints .i64 w_o)),(5,.deep false ty5 tz5 (.recs (.int .i64) [.bool] w_t) w_v none)] (ends_r w w_x w_o w_t w_v s s_b):=by kernel_rfl
theorem ends_E (w:Inst) (w_x:List Int) (w_o:List Int) (w_t:Ql.Rows3) (w_v:List Value) (s:Int) (s_b:Bool) (ty1 ty2 ty3 ty4 ty5 tz5:TypeId) (hp:z1l w s):FVc TT ends_g (ends_I w w_x w_o w_t w_v s s_b) (ends_an w w_x w_o w_t w_v s s_b) Tryz.f107 [.ptr 0 0 0 0,.agg [.int .i64 s,.bool s_b]] [(0,.box false 109 [.row 1,.row 2,.row 3,.row 4,.row 5]),(1,.row false ty1 (.ints .i64 w.sup)),(2,.row false ty2 (.arcs w.arcs)),(3,.row false ty3 (.ints .i64 w_x)),(4,.row false ty4 (.ints .i64 w_o)),(5,.deep false ty5 tz5 (.recs (.int .i64) [.bool] w_t) w_v none)] (ends_r w w_x w_o w_t w_v s s_b):=by
 refine FVc.of (ends_E0 w w_x w_o w_t w_v s s_b ty1 ty2 ty3 ty4 ty5 tz5) (ends_q w w_x w_o w_t w_v s s_b ty1 ty2 ty3 ty4 ty5 tz5) ?_
 unfold ends_E0
 obtain ⟨hr,h0,h1⟩:=hp
 have ok:=z1n hr (a:=s.toNat) (by omega)
 obtain ⟨k0,k1,k2,k3,k4,k5,k6,k7,k8⟩:=ok
 simp only [eq_self,exists_const,forall_const,ne_eq,Int.toNat_natCast,zSS,z08]
 refine ⟨by omega,by omega,fun a ha=>?_⟩
 rw [z2d ha] at *
 unfold frS toS
 dsimp only
 rw [z2d ha]
 refine ⟨fun h=>?_,fun h=>?_⟩ <;> subst h
 ·simp only [if_true]; omega
 ·simp only [Bool.false_eq_true,if_false]; omega
theorem z85:SpecOk Tryz.prog zb4 true (z02 true z6g) :=
 z09 z0i (show z15 Tryz.prog ends_g from z03) (by kernel_rfl) mixedOrders Tryz.func107 rfl rfl (by kernel_rfl) (n:=2) (by decide +kernel) (I:=ends_IA) (fun _ _=>z07) (A:=ends_A)
  (fun args h r hr=>by
   unfold z6g at hr
   split at hr
   ·rename_i s s_b ty1 w_s ty2 w_a ty3 w_x ty4 w_o ty5 tz5 w_t w_v; cases hr; refine ⟨rfl,fun hp=>?_⟩; have hE:=ends_E ⟨w_s,w_a⟩ w_x w_o w_t w_v s s_b ty1 ty2 ty3 ty4 ty5 tz5 hp; exact hE
   ·cases hr)
def zkd (w : Inst) (w_x : List Int) (w_o : List Int) (w_t : Ql.Rows3) (w_v : List Value) (s : Int) (s_b : Bool) (ty1 ty2 ty3 ty4 ty5 tz5 : TypeId) : Prop :=
      (s_b=true ->
 ((0:Int) <= s/\s<(↑w.arcs.length:Int)) /\
 s.toNat<w.arcs.length/\∀ (x:Arc),w.arcs[s.toNat]? = some x->(IntKind.i64.wrap ((0:Int) - x.cost)=csS w (s.toNat,s_b)/\True)/\True) /\
 (s_b=false->((0:Int) <= s/\s<(↑w.arcs.length:Int))/\s.toNat<w.arcs.length/\∀ (x:Arc),w.arcs[s.toNat]? = some x->(x.cost=csS w (s.toNat,s_b)/\True)/\True)
theorem cost20_q (w:Inst) (w_x:List Int) (w_o:List Int) (w_t:Ql.Rows3) (w_v:List Value) (s:Int) (s_b:Bool) (ty1 ty2 ty3 ty4 ty5 tz5:TypeId):zkd w w_x w_o w_t w_v s s_b ty1 ty2 ty3 ty4 ty5 tz5=z23 TT cost20_g (cost20_I w w_x w_o w_t w_v s s_b) (cost20_an w w_x w_o w_t w_v s s_b) Tryz.f154 [.ptr 0 0 0 0,.agg [.int .i64 s,.bool s_b]] [(0,.box false 109 [.row 1,.row 2,.row 3,.row 4,.row 5]),(1,.row false ty1 (.ints .i64 w.sup)),(2,.row false ty2 (.arcs w.arcs)),(3,.row false ty3 (.ints .i64 w_x)),(4,.row false ty4 (.ints .i64 w_o)),(5,.deep false ty5 tz5 (.recs (.int .i64) [.bool] w_t) w_v none)] (cost20_r w w_x w_o w_t w_v s s_b):=by kernel_rfl
theorem cost20_E (w:Inst) (w_x:List Int) (w_o:List Int) (w_t:Ql.Rows3) (w_v:List Value) (s:Int) (s_b:Bool) (ty1 ty2 ty3 ty4 ty5 tz5:TypeId) (hp:z1l w s):FVc TT cost20_g (cost20_I w w_x w_o w_t w_v s s_b) (cost20_an w w_x w_o w_t w_v s s_b) Tryz.f154 [.ptr 0 0 0 0,.agg [.int .i64 s,.bool s_b]] [(0,.box false 109 [.row 1,.row 2,.row 3,.row 4,.row 5]),(1,.row false ty1 (.ints .i64 w.sup)),(2,.row false ty2 (.arcs w.arcs)),(3,.row false ty3 (.ints .i64 w_x)),(4,.row false ty4 (.ints .i64 w_o)),(5,.deep false ty5 tz5 (.recs (.int .i64) [.bool] w_t) w_v none)] (cost20_r w w_x w_o w_t w_v s s_b):=by
 refine FVc.of (zkd w w_x w_o w_t w_v s s_b ty1 ty2 ty3 ty4 ty5 tz5) (cost20_q w w_x w_o w_t w_v s s_b ty1 ty2 ty3 ty4 ty5 tz5) ?_
 unfold zkd
 obtain ⟨hr,h0,h1⟩:=hp
 have ok:=z1n hr (a:=s.toNat) (by omega)
 obtain ⟨k0,k1,k2,k3,k4,k5,k6,k7,k8⟩:=ok
 simp only [eq_self,exists_const,forall_const,ne_eq,Int.toNat_natCast,zSS,z08]
 unfold csS
 dsimp only
 refine ⟨fun h=>⟨by omega,by omega,fun a ha=>?_⟩,fun h=>⟨by omega,by omega,fun a ha=>?_⟩⟩ <;> rw [z2d ha] at * <;> subst h
 ·simp only [if_true]; rw [w64 (by omega) (by omega)]; omega
 ·simp only [Bool.false_eq_true,if_false]
theorem z97:SpecOk Tryz.prog zah true (z02 true z6d) :=
 z09 z0i (show z15 Tryz.prog cost20_g from z03) (by kernel_rfl) mixedOrders Tryz.func154 rfl rfl (by kernel_rfl) (n:=2) (by decide +kernel) (I:=cost20_IA) (fun _ _=>z07) (A:=cost20_A)
  (fun args h r hr=>by
   unfold z6d at hr
   split at hr
   ·rename_i s s_b ty1 w_s ty2 w_a ty3 w_x ty4 w_o ty5 tz5 w_t w_v; cases hr; refine ⟨rfl,fun hp=>?_⟩; have hE:=cost20_E ⟨w_s,w_a⟩ w_x w_o w_t w_v s s_b ty1 ty2 ty3 ty4 ty5 tz5 hp; exact hE
   ·cases hr)
def zmh (w : Inst) (w_x : List Int) (w_o : List Int) (w_t : Ql.Rows3) (w_v : List Value) (s : Int) (s_b : Bool) (ty1 ty2 ty3 ty4 ty5 tz5 : TypeId) : Prop :=
      ((0:Int) <= s/\s<(↑w.arcs.length:Int)) /\
 s.toNat<w.arcs.length /\
 ∀ (x:Arc),
 w.arcs[s.toNat]? = some x ->
 (s_b=true ->
 ((0:Int) <= s/\s<(↑w_x.length:Int)) /\
 s.toNat<w_x.length/\∀ (x_1:Int),w_x[s.toNat]? = some x_1->(IntKind.i64.wrap (x_1 - x.low)=rmS w w_x (s.toNat,s_b)/\True)/\True) /\
 (s_b=false ->
 ((x.cap == (4611686018427387904:Int))=true->((1152921504606846976:Int)=rmS w w_x (s.toNat,s_b)/\True)/\True) /\
 ((x.cap == (4611686018427387904:Int))=false ->
 ((0:Int) <= s/\s<(↑w_x.length:Int)) /\
 s.toNat<w_x.length/\∀ (x_1:Int),w_x[s.toNat]? = some x_1->(IntKind.i64.wrap (x.cap - x_1)=rmS w w_x (s.toNat,s_b)/\True)/\True))
theorem room20_q (w:Inst) (w_x:List Int) (w_o:List Int) (w_t:Ql.Rows3) (w_v:List Value) (s:Int) (s_b:Bool) (ty1 ty2 ty3 ty4 ty5 tz5:TypeId):zmh w w_x w_o w_t w_v s s_b ty1 ty2 ty3 ty4 ty5 tz5=z23 TT room20_g (room20_I w w_x w_o w_t w_v s s_b) (room20_an w w_x w_o w_t w_v s s_b) Tryz.f112 [.ptr 0 0 0 0,.agg [.int .i64 s,.bool s_b]] [(0,.box false 109 [.row 1,.row 2,.row 3,.row 4,.row 5]),(1,.row false ty1 (.ints .i64 w.sup)),(2,.row false ty2 (.arcs w.arcs)),(3,.row false ty3 (.ints .i64 w_x)),(4,.row false ty4 (.ints .i64 w_o)),(5,.deep false ty5 tz5 (.recs (.int .i64) [.bool] w_t) w_v none)] (room20_r w w_x w_o w_t w_v s s_b):=by kernel_rfl
theorem room20_E (w:Inst) (w_x:List Int) (w_o:List Int) (w_t:Ql.Rows3) (w_v:List Value) (s:Int) (s_b:Bool) (ty1 ty2 ty3 ty4 ty5 tz5:TypeId) (hp:z1l w s/\w_x.length=w.arcs.length/\XB w_x):FVc TT room20_g (room20_I w w_x w_o w_t w_v s s_b) (room20_an w w_x w_o w_t w_v s s_b) Tryz.f112 [.ptr 0 0 0 0,.agg [.int .i64 s,.bool s_b]] [(0,.box false 109 [.row 1,.row 2,.row 3,.row 4,.row 5]),(1,.row false ty1 (.ints .i64 w.sup)),(2,.row false ty2 (.arcs w.arcs)),(3,.row false ty3 (.ints .i64 w_x)),(4,.row false ty4 (.ints .i64 w_o)),(5,.deep false ty5 tz5 (.recs (.int .i64) [.bool] w_t) w_v none)] (room20_r w w_x w_o w_t w_v s s_b):=by
 refine FVc.of (zmh w w_x w_o w_t w_v s s_b ty1 ty2 ty3 ty4 ty5 tz5) (room20_q w w_x w_o w_t w_v s s_b ty1 ty2 ty3 ty4 ty5 tz5) ?_
 unfold zmh
 obtain ⟨hp,hl,hx⟩:=hp
 obtain ⟨hr,h0,h1⟩:=hp
 have ok:=z1n hr (a:=s.toNat) (by omega)
 obtain ⟨k0,k1,k2,k3,k4,k5,k6,k7,k8⟩:=ok
 simp only [eq_self,exists_const,forall_const,ne_eq,Int.toNat_natCast,zSS,z08]
 have hb:=hx.at s.toNat
 unfold rmS
 dsimp only
 refine ⟨by omega,by omega,fun a ha=>?_⟩
 rw [z2d ha] at *
 refine ⟨fun h=>?_,fun h=>?_⟩ <;> subst h
 ·refine ⟨by omega,by omega,fun y hy=>?_⟩
  have:w_x.getD s.toNat 0=y:=by rw [List.getD_eq_getElem?_getD,hy]; rfl
  rw [this] at hb ⊢
  simp only [if_true]
  exact w64 (by omega) (by omega)
 ·simp only [Bool.false_eq_true,if_false]
  refine ⟨fun hc=>?_,fun hc=>⟨by omega,by omega,fun y hy=>?_⟩⟩
  ·rw [if_pos (show a.cap=inf from hc)]
  ·have:w_x.getD s.toNat 0=y:=by rw [List.getD_eq_getElem?_getD,hy]; rfl
   rw [this] at hb ⊢
   rw [if_neg (show ¬ a.cap=inf from hc)]
   have:=k6.resolve_left hc
   exact w64 (by omega) (by omega)
theorem z9s:SpecOk Tryz.prog zaq true (z02 true z6n) :=
 z09 z0i (show z15 Tryz.prog room20_g from z03) (by kernel_rfl) mixedOrders Tryz.func112 rfl rfl (by kernel_rfl) (n:=2) (by decide +kernel) (I:=room20_IA) (fun _ _=>z07) (A:=room20_A)
  (fun args h r hr=>by
   unfold z6n at hr
   split at hr
   ·rename_i s s_b ty1 w_s ty2 w_a ty3 w_x ty4 w_o ty5 tz5 w_t w_v; cases hr; refine ⟨rfl,fun hp=>?_⟩; have hE:=room20_E ⟨w_s,w_a⟩ w_x w_o w_t w_v s s_b ty1 ty2 ty3 ty4 ty5 tz5 hp; exact hE
   ·cases hr)
def zkk (w : Inst) (w_x : List Int) (w_o : List Int) (w_t : Ql.Rows3) (w_v : List Value) (s : Int) (s_b : Bool) (ty1 ty2 ty3 ty4 ty5 tz5 : TypeId) : Prop :=
      ((!s_b)=true ->
 ((0:Int) <= s/\s<(↑w.arcs.length:Int)) /\
 s.toNat<w.arcs.length/\∀ (x:Arc),w.arcs[s.toNat]? = some x->((x.cap == (4611686018427387904:Int))=Ql.endS w (s.toNat,s_b)/\True)/\True) /\
 ((!s_b)=false->(false=Ql.endS w (s.toNat,s_b)/\True)/\True)
theorem endl20_q (w:Inst) (w_x:List Int) (w_o:List Int) (w_t:Ql.Rows3) (w_v:List Value) (s:Int) (s_b:Bool) (ty1 ty2 ty3 ty4 ty5 tz5:TypeId):zkk w w_x w_o w_t w_v s s_b ty1 ty2 ty3 ty4 ty5 tz5=z23 TT endl20_g (endl20_I w w_x w_o w_t w_v s s_b) (endl20_an w w_x w_o w_t w_v s s_b) Tryz.f106 [.ptr 0 0 0 0,.agg [.int .i64 s,.bool s_b]] [(0,.box false 109 [.row 1,.row 2,.row 3,.row 4,.row 5]),(1,.row false ty1 (.ints .i64 w.sup)),(2,.row false ty2 (.arcs w.arcs)),(3,.row false ty3 (.ints .i64 w_x)),(4,.row false ty4 (.ints .i64 w_o)),(5,.deep false ty5 tz5 (.recs (.int .i64) [.bool] w_t) w_v none)] (endl20_r w w_x w_o w_t w_v s s_b):=by kernel_rfl
theorem endl20_E (w:Inst) (w_x:List Int) (w_o:List Int) (w_t:Ql.Rows3) (w_v:List Value) (s:Int) (s_b:Bool) (ty1 ty2 ty3 ty4 ty5 tz5:TypeId) (hp:z1l w s):FVc TT endl20_g (endl20_I w w_x w_o w_t w_v s s_b) (endl20_an w w_x w_o w_t w_v s s_b) Tryz.f106 [.ptr 0 0 0 0,.agg [.int .i64 s,.bool s_b]] [(0,.box false 109 [.row 1,.row 2,.row 3,.row 4,.row 5]),(1,.row false ty1 (.ints .i64 w.sup)),(2,.row false ty2 (.arcs w.arcs)),(3,.row false ty3 (.ints .i64 w_x)),(4,.row false ty4 (.ints .i64 w_o)),(5,.deep false ty5 tz5 (.recs (.int .i64) [.bool] w_t) w_v none)] (endl20_r w w_x w_o w_t w_v s s_b):=by
 refine FVc.of (zkk w w_x w_o w_t w_v s s_b ty1 ty2 ty3 ty4 ty5 tz5) (endl20_q w w_x w_o w_t w_v s s_b ty1 ty2 ty3 ty4 ty5 tz5) ?_
 unfold zkk
 obtain ⟨hr,h0,h1⟩:=hp
 have ok:=z1n hr (a:=s.toNat) (by omega)
 obtain ⟨k0,k1,k2,k3,k4,k5,k6,k7,k8⟩:=ok
 simp only [eq_self,exists_const,forall_const,ne_eq,Int.toNat_natCast,zSS,z08]
 unfold Ql.endS
 dsimp only
 refine ⟨fun h=>⟨by omega,by omega,fun a ha=>?_⟩,fun h=>by rw [h]; rfl⟩
 rw [h,z2d ha,Bool.not_false,Bool.true_and]
 by_cases e:a.cap=4611686018427387904
 ·rw [e]; rfl
 ·rw [beq_eq_false_iff_ne.2 e,decide_eq_false (show ¬ a.cap=inf from e)]
theorem endl20_ok:SpecOk Tryz.prog endl20_n true (z02 true zcu) :=
 z09 z0i (show z15 Tryz.prog endl20_g from z03) (by kernel_rfl) mixedOrders Tryz.func106 rfl rfl (by kernel_rfl) (n:=2) (by decide +kernel) (I:=endl20_IA) (fun _ _=>z07) (A:=endl20_A)
  (fun args h r hr=>by
   unfold zcu at hr
   split at hr
   ·rename_i s s_b ty1 w_s ty2 w_a ty3 w_x ty4 w_o ty5 tz5 w_t w_v; cases hr; refine ⟨rfl,fun hp=>?_⟩; have hE:=endl20_E ⟨w_s,w_a⟩ w_x w_o w_t w_v s s_b ty1 ty2 ty3 ty4 ty5 tz5 hp; exact hE
   ·cases hr)
def zgc (s : Int) (s_b : Bool) (w : Inst) (w_x : List Int) (w_o : List Int) (w_t : Ql.Rows3) (w_v : List Value) (w_l : Int) (ty2 ty3 ty4 ty5 ty6 tz6 : TypeId) : Prop :=
   (z1l w s/\w_x.length=w.arcs.length/\XB w_x)/\(decide (rmS w w_x (s.toNat,s_b) ≥ w_l)=decide (w_l <= rmS w w_x (s.toNat,s_b))/\True)/\True
theorem roomy20_q (s:Int) (s_b:Bool) (w:Inst) (w_x:List Int) (w_o:List Int) (w_t:Ql.Rows3) (w_v:List Value) (w_l:Int) (ty2 ty3 ty4 ty5 ty6 tz6:TypeId):zgc s s_b w w_x w_o w_t w_v w_l ty2 ty3 ty4 ty5 ty6 tz6=z23 TT zmi (roomy20_I s s_b w w_x w_o w_t w_v w_l) (roomy20_an s s_b w w_x w_o w_t w_v w_l) Tryz.f111 [.agg [.int .i64 s,.bool s_b],.ptr 0 0 0 0,.ptr 7 0 0 0] [(0,.box false 102 [.ptr 1 0 0 0]),(1,.box false 109 [.row 2,.row 3,.row 4,.row 5,.row 6]),(2,.row false ty2 (.ints .i64 w.sup)),(3,.row false ty3 (.arcs w.arcs)),(4,.row false ty4 (.ints .i64 w_x)),(5,.row false ty5 (.ints .i64 w_o)),(6,.deep false ty6 tz6 (.recs (.int .i64) [.bool] w_t) w_v none),(7,.box false 2 [.int .i64 w_l])] (zmk s s_b w w_x w_o w_t w_v w_l):=by kernel_rfl
theorem roomy20_E (s:Int) (s_b:Bool) (w:Inst) (w_x:List Int) (w_o:List Int) (w_t:Ql.Rows3) (w_v:List Value) (w_l:Int) (ty2 ty3 ty4 ty5 ty6 tz6:TypeId) (hp:z1l w s/\w_x.length=w.arcs.length/\XB w_x):FVc TT zmi (roomy20_I s s_b w w_x w_o w_t w_v w_l) (roomy20_an s s_b w w_x w_o w_t w_v w_l) Tryz.f111 [.agg [.int .i64 s,.bool s_b],.ptr 0 0 0 0,.ptr 7 0 0 0] [(0,.box false 102 [.ptr 1 0 0 0]),(1,.box false 109 [.row 2,.row 3,.row 4,.row 5,.row 6]),(2,.row false ty2 (.ints .i64 w.sup)),(3,.row false ty3 (.arcs w.arcs)),(4,.row false ty4 (.ints .i64 w_x)),(5,.row false ty5 (.ints .i64 w_o)),(6,.deep false ty6 tz6 (.recs (.int .i64) [.bool] w_t) w_v none),(7,.box false 2 [.int .i64 w_l])] (zmk s s_b w w_x w_o w_t w_v w_l):=by
 refine FVc.of (zgc s s_b w w_x w_o w_t w_v w_l ty2 ty3 ty4 ty5 ty6 tz6) (roomy20_q s s_b w w_x w_o w_t w_v w_l ty2 ty3 ty4 ty5 ty6 tz6) ?_
 unfold zgc
 simp only [eq_self,exists_const,forall_const,ne_eq,Int.toNat_natCast,zSS,z08]
 exact hp
theorem roomy20_ok:SpecOk Tryz.prog zmj true (z02 true zar) :=
 z09 z0i (show z15 Tryz.prog zmi from z00 z9s (z03)) (by kernel_rfl) mixedOrders Tryz.func111 rfl rfl (by kernel_rfl) (n:=3) (by decide +kernel) (I:=roomy20_IA) (fun _ _=>z07) (A:=roomy20_A)
  (fun args h r hr=>by
   unfold zar at hr
   split at hr
   ·rename_i s s_b ty2 w_s ty3 w_a ty4 w_x ty5 w_o ty6 tz6 w_t w_v w_l; cases hr; refine ⟨rfl,fun hp=>?_⟩; have hE:=roomy20_E s s_b ⟨w_s,w_a⟩ w_x w_o w_t w_v w_l ty2 ty3 ty4 ty5 ty6 tz6 hp; exact hE
   ·cases hr)
def zln (s : Int) (s_b : Bool) (w : Inst) (w_x : List Int) (w_o : List Int) (w_t : Ql.Rows3) (w_v : List Value) (ty2 ty3 ty4 ty5 ty6 tz6 : TypeId) : Prop :=
      z1l w s /\
 (Ql.endS w (s.toNat,s_b)=true->(true=(Ql.endS w (s.toNat,s_b) || decide ((0:Int)<rmS w w_x (s.toNat,s_b)))/\True)/\True) /\
 (Ql.endS w (s.toNat,s_b)=false ->
 (z1l w s/\w_x.length=w.arcs.length/\XB w_x) /\
 (decide (rmS w w_x (s.toNat,s_b) > (0:Int))=(Ql.endS w (s.toNat,s_b) || decide ((0:Int)<rmS w w_x (s.toNat,s_b)))/\True)/\True)
theorem posi20_q (s:Int) (s_b:Bool) (w:Inst) (w_x:List Int) (w_o:List Int) (w_t:Ql.Rows3) (w_v:List Value) (ty2 ty3 ty4 ty5 ty6 tz6:TypeId):zln s s_b w w_x w_o w_t w_v ty2 ty3 ty4 ty5 ty6 tz6=z23 TT posi20_g (posi20_I s s_b w w_x w_o w_t w_v) (posi20_an s s_b w w_x w_o w_t w_v) Tryz.f114 [.agg [.int .i64 s,.bool s_b],.ptr 0 0 0 0] [(0,.box false 102 [.ptr 1 0 0 0]),(1,.box false 109 [.row 2,.row 3,.row 4,.row 5,.row 6]),(2,.row false ty2 (.ints .i64 w.sup)),(3,.row false ty3 (.arcs w.arcs)),(4,.row false ty4 (.ints .i64 w_x)),(5,.row false ty5 (.ints .i64 w_o)),(6,.deep false ty6 tz6 (.recs (.int .i64) [.bool] w_t) w_v none)] (posi20_r s s_b w w_x w_o w_t w_v):=by kernel_rfl
theorem posi20_E (s:Int) (s_b:Bool) (w:Inst) (w_x:List Int) (w_o:List Int) (w_t:Ql.Rows3) (w_v:List Value) (ty2 ty3 ty4 ty5 ty6 tz6:TypeId) (hp:z1l w s/\w_x.length=w.arcs.length/\XB w_x):FVc TT posi20_g (posi20_I s s_b w w_x w_o w_t w_v) (posi20_an s s_b w w_x w_o w_t w_v) Tryz.f114 [.agg [.int .i64 s,.bool s_b],.ptr 0 0 0 0] [(0,.box false 102 [.ptr 1 0 0 0]),(1,.box false 109 [.row 2,.row 3,.row 4,.row 5,.row 6]),(2,.row false ty2 (.ints .i64 w.sup)),(3,.row false ty3 (.arcs w.arcs)),(4,.row false ty4 (.ints .i64 w_x)),(5,.row false ty5 (.ints .i64 w_o)),(6,.deep false ty6 tz6 (.recs (.int .i64) [.bool] w_t) w_v none)] (posi20_r s s_b w w_x w_o w_t w_v):=by
 refine FVc.of (zln s s_b w w_x w_o w_t w_v ty2 ty3 ty4 ty5 ty6 tz6) (posi20_q s s_b w w_x w_o w_t w_v ty2 ty3 ty4 ty5 ty6 tz6) ?_
 unfold zln
 simp only [eq_self,exists_const,forall_const,ne_eq,Int.toNat_natCast,zSS,z08]
 refine ⟨hp.1,fun h=>by rw [h]; rfl,fun h=>⟨hp,by rw [h,Bool.false_or]⟩⟩
theorem posi20_ok:SpecOk Tryz.prog posi20_n true (z02 true zlo) :=
 z09 z0i (show z15 Tryz.prog posi20_g from z00 z9s (z00 endl20_ok (z03))) (by kernel_rfl) mixedOrders Tryz.func114 rfl rfl (by kernel_rfl) (n:=2) (by decide +kernel) (I:=posi20_IA) (fun _ _=>z07) (A:=posi20_A)
  (fun args h r hr=>by
   unfold zlo at hr
   split at hr
   ·rename_i s s_b ty2 w_s ty3 w_a ty4 w_x ty5 w_o ty6 tz6 w_t w_v; cases hr; refine ⟨rfl,fun hp=>?_⟩; have hE:=posi20_E s s_b ⟨w_s,w_a⟩ w_x w_o w_t w_v ty2 ty3 ty4 ty5 ty6 tz6 hp; exact hE
   ·cases hr)
def zlj (n : Int) (w : Inst) (w_x : List Int) (w_o : List Int) (w_t : Ql.Rows3) (w_v : List Value) (w_l : Int) (ty2 ty3 ty4 ty5 ty6 tz6 : TypeId) : Prop :=
      ((0:Int) <= n/\n<(↑w_o.length:Int)) /\
 n.toNat<w_o.length/\∀ (x:Int),w_o[n.toNat]? = some x->(decide (x ≥ w_l)=decide (w_l <= w_o.getD n.toNat (0:Int))/\True)/\True
theorem over20_q (n:Int) (w:Inst) (w_x:List Int) (w_o:List Int) (w_t:Ql.Rows3) (w_v:List Value) (w_l:Int) (ty2 ty3 ty4 ty5 ty6 tz6:TypeId):zlj n w w_x w_o w_t w_v w_l ty2 ty3 ty4 ty5 ty6 tz6=z23 TT over20_g (over20_I n w w_x w_o w_t w_v w_l) (over20_an n w w_x w_o w_t w_v w_l) Tryz.f155 [.int .i64 n,.ptr 0 0 0 0,.ptr 7 0 0 0] [(0,.box false 102 [.ptr 1 0 0 0]),(1,.box false 109 [.row 2,.row 3,.row 4,.row 5,.row 6]),(2,.row false ty2 (.ints .i64 w.sup)),(3,.row false ty3 (.arcs w.arcs)),(4,.row false ty4 (.ints .i64 w_x)),(5,.row false ty5 (.ints .i64 w_o)),(6,.deep false ty6 tz6 (.recs (.int .i64) [.bool] w_t) w_v none),(7,.box false 2 [.int .i64 w_l])] (over20_r n w w_x w_o w_t w_v w_l):=by kernel_rfl
theorem over20_E (n:Int) (w:Inst) (w_x:List Int) (w_o:List Int) (w_t:Ql.Rows3) (w_v:List Value) (w_l:Int) (ty2 ty3 ty4 ty5 ty6 tz6:TypeId) (hp:0 <= n/\n<w_o.length):FVc TT over20_g (over20_I n w w_x w_o w_t w_v w_l) (over20_an n w w_x w_o w_t w_v w_l) Tryz.f155 [.int .i64 n,.ptr 0 0 0 0,.ptr 7 0 0 0] [(0,.box false 102 [.ptr 1 0 0 0]),(1,.box false 109 [.row 2,.row 3,.row 4,.row 5,.row 6]),(2,.row false ty2 (.ints .i64 w.sup)),(3,.row false ty3 (.arcs w.arcs)),(4,.row false ty4 (.ints .i64 w_x)),(5,.row false ty5 (.ints .i64 w_o)),(6,.deep false ty6 tz6 (.recs (.int .i64) [.bool] w_t) w_v none),(7,.box false 2 [.int .i64 w_l])] (over20_r n w w_x w_o w_t w_v w_l):=by
 refine FVc.of (zlj n w w_x w_o w_t w_v w_l ty2 ty3 ty4 ty5 ty6 tz6) (over20_q n w w_x w_o w_t w_v w_l ty2 ty3 ty4 ty5 ty6 tz6) ?_
 unfold zlj
 simp only [eq_self,exists_const,forall_const,ne_eq,Int.toNat_natCast,zSS,z08]
 refine ⟨hp,by omega,fun x hx=>?_⟩
 rw [show w_o.getD n.toNat 0=x by rw [List.getD_eq_getElem?_getD,hx]; rfl]
theorem over20_ok:SpecOk Tryz.prog over20_n true (z02 true zlk) :=
 z09 z0i (show z15 Tryz.prog over20_g from z03) (by kernel_rfl) mixedOrders Tryz.func155 rfl rfl (by kernel_rfl) (n:=3) (by decide +kernel) (I:=over20_IA) (fun _ _=>z07) (A:=over20_A)
  (fun args h r hr=>by
   unfold zlk at hr
   split at hr
   ·rename_i n ty2 w_s ty3 w_a ty4 w_x ty5 w_o ty6 tz6 w_t w_v w_l; cases hr; refine ⟨rfl,fun hp=>?_⟩; have hE:=over20_E n ⟨w_s,w_a⟩ w_x w_o w_t w_v w_l ty2 ty3 ty4 ty5 ty6 tz6 hp; exact hE
   ·cases hr)
abbrev z43 (w_o:List Int) (w:Inst) (s:Int) (s_b:Bool) (x_1:Int) (n:Int):=(w_o.set (↑(frS w (s.toNat,s_b)):Int).toNat (IntKind.i64.wrap (x_1 - n)))
abbrev z9k (w:Inst) (s:Int) (s_b:Bool) (w_o:List Int) (x_1:Int) (n:Int):=((0:Int) <= ↑(toS w (s.toNat,s_b))/\((↑(toS w (s.toNat,s_b)):Int)<↑(z43 w_o w s s_b x_1 n).length))
abbrev z9l (w:Inst) (s:Int) (s_b:Bool) (w_o:List Int):=((0:Int) <= ↑(frS w (s.toNat,s_b))/\((↑(frS w (s.toNat,s_b)):Int)<↑w_o.length))
def zls (w : Inst) (w_x : List Int) (w_o : List Int) (w_t : Ql.Rows3) (w_v : List Value) (s : Int) (s_b : Bool) (n : Int) (ty1 ty2 : TypeId) : Prop :=
   z1l w s/\(s_b=true->((0:Int) <= s/\(s<(↑w_x.length:Int)))/\(s.toNat<w_x.length/\(∀ (x:Int),w_x[s.toNat]? = some x->((0:Int) <= s/\(s<(↑w_x.length:Int)))/\(s.toNat<w_x.length/\((z9l w s s_b w_o)/\((↑(frS w (s.toNat,s_b)):Int).toNat<w_o.length/\(∀ (x_1:Int),w_o[(↑(frS w (s.toNat,s_b)):Int).toNat]? = some x_1->(z9l w s s_b w_o)/\((↑(frS w (s.toNat,s_b)):Int).toNat<w_o.length/\((z9k w s s_b w_o x_1 n)/\((↑(toS w (s.toNat,s_b)):Int).toNat<(z43 w_o w s s_b x_1 n).length/\(∀ (x_2:Int),(z43 w_o w s s_b x_1 n)[(↑(toS w (s.toNat,s_b)):Int).toNat]? = some x_2->(z9k w s s_b w_o x_1 n)/\((↑(toS w (s.toNat,s_b)):Int).toNat<(z43 w_o w s s_b x_1 n).length/\((True/\True)/\((True/\(True/\(True/\(True/\(True/\True)))))/\(w_x.set s.toNat (IntKind.i64.wrap (x - n))=z4u w_x (s.toNat,s_b) n/\((z43 w_o w s s_b x_1 n).set (↑(toS w (s.toNat,s_b)):Int).toNat (IntKind.i64.wrap (x_2+n))=z6v w w_o (s.toNat,s_b) n/\((w_t=w_t/\(w_v=w_v/\((none:Option Nat)=none)))/\True)))))))))))))))))/\(s_b=false->((0:Int) <= s/\(s<(↑w_x.length:Int)))/\(s.toNat<w_x.length/\(∀ (x:Int),w_x[s.toNat]? = some x->((0:Int) <= s/\(s<(↑w_x.length:Int)))/\(s.toNat<w_x.length/\((z9l w s s_b w_o)/\((↑(frS w (s.toNat,s_b)):Int).toNat<w_o.length/\(∀ (x_1:Int),w_o[(↑(frS w (s.toNat,s_b)):Int).toNat]? = some x_1->(z9l w s s_b w_o)/\((↑(frS w (s.toNat,s_b)):Int).toNat<w_o.length/\((z9k w s s_b w_o x_1 n)/\((↑(toS w (s.toNat,s_b)):Int).toNat<(z43 w_o w s s_b x_1 n).length/\(∀ (x_2:Int),(z43 w_o w s s_b x_1 n)[(↑(toS w (s.toNat,s_b)):Int).toNat]? = some x_2->(z9k w s s_b w_o x_1 n)/\((↑(toS w (s.toNat,s_b)):Int).toNat<(z43 w_o w s s_b x_1 n).length/\((True/\True)/\((True/\(True/\(True/\(True/\(True/\True)))))/\(w_x.set s.toNat (IntKind.i64.wrap (x+n))=z4u w_x (s.toNat,s_b) n/\((z43 w_o w s s_b x_1 n).set (↑(toS w (s.toNat,s_b)):Int).toNat (IntKind.i64.wrap (x_2+n))=z6v w w_o (s.toNat,s_b) n/\((w_t=w_t/\(w_v=w_v/\((none:Option Nat)=none)))/\True)))))))))))))))))
theorem push20_q (w:Inst) (w_x:List Int) (w_o:List Int) (w_t:Ql.Rows3) (w_v:List Value) (s:Int) (s_b:Bool) (n:Int) (ty1 ty2:TypeId):zls w w_x w_o w_t w_v s s_b n ty1 ty2=z23 TT push20_g (push20_I w w_x w_o w_t w_v s s_b n) (push20_an w w_x w_o w_t w_v s s_b n) Tryz.f98 [.ptr 0 0 0 0,.agg [.int .i64 s,.bool s_b],.int .i64 n] [(0,.box true 109 [.row 1,.row 2,.row 3,.row 4,.row 5]),(1,.row false ty1 (.ints .i64 w.sup)),(2,.row false ty2 (.arcs w.arcs)),(3,.row true 2 (.ints .i64 w_x)),(4,.row true 2 (.ints .i64 w_o)),(5,.deep true 149 147 (.recs (.int .i64) [.bool] w_t) w_v none)] (push20_r w w_x w_o w_t w_v s s_b n):=by kernel_rfl
theorem push20_E (w:Inst) (w_x:List Int) (w_o:List Int) (w_t:Ql.Rows3) (w_v:List Value) (s:Int) (s_b:Bool) (n:Int) (ty1 ty2:TypeId) (hp:z1l w s/\w_x.length=w.arcs.length/\w_o.length=w.sup.length/\XB w_x/\XB w_o/\-1152921504606846976 <= n/\n <= 1152921504606846976):FVc TT push20_g (push20_I w w_x w_o w_t w_v s s_b n) (push20_an w w_x w_o w_t w_v s s_b n) Tryz.f98 [.ptr 0 0 0 0,.agg [.int .i64 s,.bool s_b],.int .i64 n] [(0,.box true 109 [.row 1,.row 2,.row 3,.row 4,.row 5]),(1,.row false ty1 (.ints .i64 w.sup)),(2,.row false ty2 (.arcs w.arcs)),(3,.row true 2 (.ints .i64 w_x)),(4,.row true 2 (.ints .i64 w_o)),(5,.deep true 149 147 (.recs (.int .i64) [.bool] w_t) w_v none)] (push20_r w w_x w_o w_t w_v s s_b n):=by
 refine FVc.of (zls w w_x w_o w_t w_v s s_b n ty1 ty2) (push20_q w w_x w_o w_t w_v s s_b n ty1 ty2) ?_
 unfold zls
 delta z9l z9k z43
 obtain ⟨hs,hl,ho,hx,hov,n0,n1⟩:=hp
 have hok:okS w (s.toNat,s_b):=by have:=hs.2; unfold okS; dsimp only; omega
 have f1:=z33 hs.1 hok
 have t1:=z5s hs.1 hok
 have hs2:=hs.2
 have key:=@push_is w w_x w_o (s.toNat,s_b) n hs.1 hok hl ho hx hov n0 n1
 simp only [eq_self,exists_const,forall_const,ne_eq,Int.toNat_natCast,zSS,z08]
 simp only [List.length_set]
 refine ⟨hs,fun h=>⟨by omega,by omega,fun y hy=>⟨by omega,by omega,by omega,by omega,fun u hu=>⟨by omega,by omega,by omega,by omega,fun z hz=>?_⟩⟩⟩,fun h=>⟨by omega,by omega,fun y hy=>⟨by omega,by omega,by omega,by omega,fun u hu=>⟨by omega,by omega,by omega,by omega,fun z hz=>?_⟩⟩⟩⟩
 all_goals
  obtain ⟨q1,q2,q3⟩:=key hy hu hz
  repeat' first | omega | exact q1 h | exact q2 h | exact q3 | refine And.intro ?_ ?_ | trivial
theorem zlt:SpecOk Tryz.prog zi3 false (z02 false z9m) :=
 z09 z0i (show z15 Tryz.prog push20_g from z00 z85 (z03)) (by kernel_rfl) mixedOrders Tryz.func98 rfl rfl (by kernel_rfl) (n:=3) (by decide +kernel) (I:=push20_IA) (fun _ _=>z07) (A:=push20_A)
  (fun args h r hr=>by
   unfold z9m at hr
   split at hr
   ·rename_i s s_b n ty1 w_s ty2 w_a w_x w_o w_t w_v; cases hr; refine ⟨rfl,fun hp=>?_⟩; have hE:=push20_E ⟨w_s,w_a⟩ w_x w_o w_t w_v s s_b n ty1 ty2 hp; exact hE
   ·cases hr)
end Go.Proofs.YtggblkbecekbdaaGreat
end
section
namespace Go.Proofs.YtggblkbecekbdaaGreat
open Go Go.RowKit Go.Ql Go.Vc
def zjb (w:Inst) (w_x:List Int) (w_o:List Int) (w_t:Ql.Rows3) (w_v:List Value) (by_:List (List Int)) (e:Int):FRes:={ pre:=AlOk w w_x w_o by_ e,res:=.tup [],rows:=[],eff:=[(0,.box true 109 [.row 1,.row 2,.row 3,.row 4,.row 5]),(3,.row true 2 (.ints .i64 (z2s w_x (alL w by_ e) (alU w w_x w_o by_ e)))),(4,.row true 2 (.ints .i64 (z21 w w_o (alL w by_ e) (alU w w_x w_o by_ e)))),(5,.deep true 149 147 (.recs (.int .i64) [.bool] w_t) w_v none)] }
def zab:FS:=fun args h=>match args,h with
 | [.ptr 0 0 0 0,.row 6,.int .i64 e],[(0,.box true 109 [.row 1,.row 2,.row 3,.row 4,.row 5]),(1,.row false ty1 (.ints .i64 w_s)),(2,.row false ty2 (.arcs w_a)),(3,.row true 2 (.ints .i64 w_x)),(4,.row true 2 (.ints .i64 w_o)),(5,.deep true 149 147 (.recs (.int .i64) [.bool] w_t) w_v none),(6,.row false ty6 (.recs (.int .i64) [.bool,.bool] by_))]=>some (zjb ⟨w_s,w_a⟩ w_x w_o w_t w_v by_ e)
 | _,_=>none
def zey (w:Inst) (w_x:List Int) (w_o:List Int) (w_t:Ql.Rows3) (w_v:List Value) (by_:List (List Int)) (e:Int):List (Nat × Ann):=[(2,{ G:=(Nat),inv:=fun k=>⟨[(0,.ptr 0 0 0 0),(1,.row 6),(2,.int .i64 e),(6,.row 7),(7,.int .i64 (z19 w (bOf by_) k e.toNat))],[(7,.row true 147 (.recs (.int .i64) [.bool] (((alL w by_ e).take k).map z63))),(0,.box true 109 [.row 1,.row 2,.row 3,.row 4,.row 5]),(1,.row false 0 (.ints .i64 w.sup)),(2,.row false 0 (.arcs w.arcs)),(3,.row true 2 (.ints .i64 w_x)),(4,.row true 2 (.ints .i64 w_o)),(5,.deep true 149 147 (.recs (.int .i64) [.bool] w_t) w_v none),(6,.row false 0 (.recs (.int .i64) [.bool,.bool] by_))],8⟩,rel:=fun k0 k=>k <= (alL w by_ e).length,meas:=fun k=>(alL w by_ e).length - k }),
 (8,{ G:=(Nat),inv:=fun j=>⟨[(0,.ptr 0 0 0 0),(6,.row 7),(9,.int .i64 (z74 w w_x (alU0 w w_o by_ e) ((alL w by_ e).take j))),(51,.row 7),(52,.int .i64 (alL w by_ e).length),(53,.int .i64 j)],[(7,.row true 147 (.recs (.int .i64) [.bool] ((alL w by_ e).map z63))),(0,.box true 109 [.row 1,.row 2,.row 3,.row 4,.row 5]),(1,.row false 0 (.ints .i64 w.sup)),(2,.row false 0 (.arcs w.arcs)),(3,.row true 2 (.ints .i64 w_x)),(4,.row true 2 (.ints .i64 w_o)),(5,.deep true 149 147 (.recs (.int .i64) [.bool] w_t) w_v none)],8⟩,rel:=fun j0 j=>j <= (alL w by_ e).length,meas:=fun j=>(alL w by_ e).length - j }),
 (13,{ G:=(Nat),inv:=fun j=>⟨[(0,.ptr 0 0 0 0),(9,.int .i64 (alU w w_x w_o by_ e)),(63,.row 7),(64,.int .i64 (alL w by_ e).length),(65,.int .i64 j)],[(7,.row true 147 (.recs (.int .i64) [.bool] ((alL w by_ e).map z63))),(0,.box true 109 [.row 1,.row 2,.row 3,.row 4,.row 5]),(1,.row false 0 (.ints .i64 w.sup)),(2,.row false 0 (.arcs w.arcs)),(3,.row true 2 (.ints .i64 (z2s w_x ((alL w by_ e).take j) (alU w w_x w_o by_ e)))),(4,.row true 2 (.ints .i64 (z21 w w_o ((alL w by_ e).take j) (alU w w_x w_o by_ e)))),(5,.deep true 149 147 (.recs (.int .i64) [.bool] w_t) w_v none)],8⟩,rel:=fun j0 j=>j <= (alL w by_ e).length,meas:=fun j=>(alL w by_ e).length - j })]
def along20_A:List SV->z0d->List (Nat × Ann):=fun args h=>match args,h with
 | [.ptr 0 0 0 0,.row 6,.int .i64 e],[(0,.box true 109 [.row 1,.row 2,.row 3,.row 4,.row 5]),(1,.row false ty1 (.ints .i64 w_s)),(2,.row false ty2 (.arcs w_a)),(3,.row true 2 (.ints .i64 w_x)),(4,.row true 2 (.ints .i64 w_o)),(5,.deep true 149 147 (.recs (.int .i64) [.bool] w_t) w_v none),(6,.row false ty6 (.recs (.int .i64) [.bool,.bool] by_))]=>zey ⟨w_s,w_a⟩ w_x w_o w_t w_v by_ e
 | _,_=>[]
def zj9:z0c:=[(zb4,(true,z02 true z6g)),(zaq,(true,z02 true z6n)),(zi3,(false,z02 false z9m))]
abbrev zja:Nat:=102
def along20_I (w:Inst) (w_x:List Int) (w_o:List Int) (w_t:Ql.Rows3) (w_v:List Value) (by_:List (List Int)) (e:Int):List (Nat × z0a):=[]
def along20_IA:List SV->z0d->List (Nat × z0a):=fun _ _=>[]
abbrev z4g:=(True/\(True/\(True/\(True/\(True/\True)))))
abbrev z4h (w_t:Ql.Rows3) (w_v:List Value):=(w_t=w_t/\(w_v=w_v/\((none:Option Nat)=none)))
abbrev z7b (x:List Int):=((x.headD (0:Int)).toNat,x.tail.headD (0:Int) == (1:Int))
def zex (w : Inst) (w_x : List Int) (w_o : List Int) (w_t : Ql.Rows3) (w_v : List Value) (by_ : List (List Int)) (e : Int) (ty1 ty2 ty6 : TypeId) : Prop :=
   ∃ (g0:Nat),(g0 <= (alL w by_ e).length/\((0=0/\(True/\(e=e/\(True/\(e=(↑(z19 w (bOf by_) g0 e.toNat):Int)/\True)))))/\([]=List.map z63 (List.take g0 (alL w by_ e))/\((z4g)/\(w.sup=w.sup/\(w.arcs=w.arcs/\(w_x=w_x/\(w_o=w_o/\((z4h w_t w_v)/\(by_=by_/\True))))))))))/\∀ (g:Nat),g <= (alL w by_ e).length->((0:Int) <= ↑(z19 w (bOf by_) g e.toNat)/\((↑(z19 w (bOf by_) g e.toNat):Int)<↑by_.length))/\(↑(z19 w (bOf by_) g e.toNat):Int).toNat<by_.length/\∀ (x:List Int),by_[(↑(z19 w (bOf by_) g e.toNat):Int).toNat]? = some x->((x.tail.tail.headD (0:Int) == (1:Int))=true->((0:Int) <= ↑(z19 w (bOf by_) g e.toNat)/\((↑(z19 w (bOf by_) g e.toNat):Int)<↑by_.length))/\((↑(z19 w (bOf by_) g e.toNat):Int).toNat<by_.length/\(∀ (x:List Int),by_[(↑(z19 w (bOf by_) g e.toNat):Int).toNat]? = some x->(List.map z63 (List.take g (alL w by_ e))).length+(1:Nat) <= 1000000000/\(z1l w (x.headD (0:Int))/\(∃ (g':Nat),g' <= (alL w by_ e).length/\((alL w by_ e).length - g'<(alL w by_ e).length - g/\((0=0/\(True/\(e=e/\(True/\((↑(frS w (z7b x)):Int)=↑(z19 w (bOf by_) g' e.toNat)/\True)))))/\(List.map z63 (List.take g (alL w by_ e)) ++ [[x.headD (0:Int),bif x.tail.headD (0:Int) == (1:Int) then (1:Int) else (0:Int)]]=List.map z63 (List.take g' (alL w by_ e))/\((z4g)/\(w.sup=w.sup/\(w.arcs=w.arcs/\(w_x=w_x/\(w_o=w_o/\((z4h w_t w_v)/\(by_=by_/\True)))))))))))))))/\((x.tail.tail.headD (0:Int) == (1:Int))=false->((0:Int) <= ↑(z19 w (bOf by_) g e.toNat)/\((↑(z19 w (bOf by_) g e.toNat):Int)<↑w_o.length))/\(↑(z19 w (bOf by_) g e.toNat):Int).toNat<w_o.length/\∀ (x:Int),w_o[(↑(z19 w (bOf by_) g e.toNat):Int).toNat]? = some x->((0:Int) <= e/\(e<(↑w_o.length:Int)))/\e.toNat<w_o.length/\∀ (x_1:Int),w_o[e.toNat]? = some x_1->∃ (g0:Nat),(g0 <= (alL w by_ e).length/\((0=0/\(True/\(min x (IntKind.i64.wrap ((0:Int) - x_1))=z74 w w_x (alU0 w w_o by_ e) (List.take g0 (alL w by_ e))/\(True/\((↑(List.map z63 (List.take g (alL w by_ e))).length:Int)=↑(alL w by_ e).length/\((0:Int)=↑g0/\True))))))/\(List.map z63 (List.take g (alL w by_ e))=List.map z63 (alL w by_ e)/\((z4g)/\(w.sup=w.sup/\(w.arcs=w.arcs/\(w_x=w_x/\(w_o=w_o/\((z4h w_t w_v)/\True)))))))))/\∀ (g:Nat),g <= (alL w by_ e).length->(decide ((↑g:Int)<↑(alL w by_ e).length)=true->((0:Int) <= ↑g/\((↑g:Int)<↑(List.map z63 (alL w by_ e)).length))/\((↑g:Int).toNat<(List.map z63 (alL w by_ e)).length/\(∀ (x:List Int),(List.map z63 (alL w by_ e))[(↑g:Int).toNat]? = some x->(z1l w (x.headD (0:Int))/\(w_x.length=w.arcs.length/\(XB w_x)))/\(∃ (g':Nat),g' <= (alL w by_ e).length/\((alL w by_ e).length - g'<(alL w by_ e).length - g/\((0=0/\(True/\(min (z74 w w_x (alU0 w w_o by_ e) (List.take g (alL w by_ e))) (rmS w w_x (z7b x))=z74 w w_x (alU0 w w_o by_ e) (List.take g' (alL w by_ e))/\(True/\((↑(alL w by_ e).length:Int)=↑(alL w by_ e).length/\(IntKind.i64.wrap ((↑g:Int)+(1:Int))=(↑g':Int)/\True))))))/\(List.map z63 (alL w by_ e)=List.map z63 (alL w by_ e)/\((z4g)/\(w.sup=w.sup/\(w.arcs=w.arcs/\(w_x=w_x/\(w_o=w_o/\((z4h w_t w_v)/\True)))))))))))))/\(decide ((↑g:Int)<↑(alL w by_ e).length)=false->∃ (g0:Nat),(g0 <= (alL w by_ e).length/\((0=0/\(z74 w w_x (alU0 w w_o by_ e) (List.take g (alL w by_ e))=alU w w_x w_o by_ e/\(True/\((↑(List.map z63 (alL w by_ e)).length:Int)=↑(alL w by_ e).length/\((0:Int)=↑g0/\True)))))/\(List.map z63 (alL w by_ e)=List.map z63 (alL w by_ e)/\((z4g)/\(w.sup=w.sup/\(w.arcs=w.arcs/\(w_x=z2s w_x (List.take g0 (alL w by_ e)) (alU w w_x w_o by_ e)/\(w_o=z21 w w_o (List.take g0 (alL w by_ e)) (alU w w_x w_o by_ e)/\((z4h w_t w_v)/\True)))))))))/\(∀ (g:Nat),g <= (alL w by_ e).length->(decide ((↑g:Int)<↑(alL w by_ e).length)=true->((0:Int) <= ↑g/\((↑g:Int)<↑(List.map z63 (alL w by_ e)).length))/\((↑g:Int).toNat<(List.map z63 (alL w by_ e)).length/\(∀ (x:List Int),(List.map z63 (alL w by_ e))[(↑g:Int).toNat]? = some x->(z1l w (x.headD (0:Int))/\((z2s w_x (List.take g (alL w by_ e)) (alU w w_x w_o by_ e)).length=w.arcs.length/\((z21 w w_o (List.take g (alL w by_ e)) (alU w w_x w_o by_ e)).length=w.sup.length/\(XB (z2s w_x (List.take g (alL w by_ e)) (alU w w_x w_o by_ e))/\(XB (z21 w w_o (List.take g (alL w by_ e)) (alU w w_x w_o by_ e))/\((-1152921504606846976:Int) <= alU w w_x w_o by_ e/\(alU w w_x w_o by_ e <= (1152921504606846976:Int))))))))/\(∃ (g':Nat),g' <= (alL w by_ e).length/\((alL w by_ e).length - g'<(alL w by_ e).length - g/\((0=0/\(alU w w_x w_o by_ e=alU w w_x w_o by_ e/\(True/\((↑(alL w by_ e).length:Int)=↑(alL w by_ e).length/\(IntKind.i64.wrap ((↑g:Int)+(1:Int))=(↑g':Int)/\True)))))/\(List.map z63 (alL w by_ e)=List.map z63 (alL w by_ e)/\((z4g)/\(w.sup=w.sup/\(w.arcs=w.arcs/\(z4u (z2s w_x (List.take g (alL w by_ e)) (alU w w_x w_o by_ e)) (z7b x) (alU w w_x w_o by_ e)=z2s w_x (List.take g' (alL w by_ e)) (alU w w_x w_o by_ e)/\(z6v w (z21 w w_o (List.take g (alL w by_ e)) (alU w w_x w_o by_ e)) (z7b x) (alU w w_x w_o by_ e)=z21 w w_o (List.take g' (alL w by_ e)) (alU w w_x w_o by_ e)/\((z4h w_t w_v)/\True)))))))))))))/\(decide ((↑g:Int)<↑(alL w by_ e).length)=false->(True/\True)/\((z4g)/\(z2s w_x (List.take g (alL w by_ e)) (alU w w_x w_o by_ e)=z2s w_x (alL w by_ e) (alU w w_x w_o by_ e)/\(z21 w w_o (List.take g (alL w by_ e)) (alU w w_x w_o by_ e)=z21 w w_o (alL w by_ e) (alU w w_x w_o by_ e)/\((z4h w_t w_v)/\True))))))))
theorem along20_q (w:Inst) (w_x:List Int) (w_o:List Int) (w_t:Ql.Rows3) (w_v:List Value) (by_:List (List Int)) (e:Int) (ty1 ty2 ty6:TypeId):zex w w_x w_o w_t w_v by_ e ty1 ty2 ty6=z23 TT zj9 (along20_I w w_x w_o w_t w_v by_ e) (zey w w_x w_o w_t w_v by_ e) Tryz.f102 [.ptr 0 0 0 0,.row 6,.int .i64 e] [(0,.box true 109 [.row 1,.row 2,.row 3,.row 4,.row 5]),(1,.row false ty1 (.ints .i64 w.sup)),(2,.row false ty2 (.arcs w.arcs)),(3,.row true 2 (.ints .i64 w_x)),(4,.row true 2 (.ints .i64 w_o)),(5,.deep true 149 147 (.recs (.int .i64) [.bool] w_t) w_v none),(6,.row false ty6 (.recs (.int .i64) [.bool,.bool] by_))] (zjb w w_x w_o w_t w_v by_ e):=by kernel_rfl
theorem along20_E (w:Inst) (w_x:List Int) (w_o:List Int) (w_t:Ql.Rows3) (w_v:List Value) (by_:List (List Int)) (e:Int) (ty1 ty2 ty6:TypeId) (hp:AlOk w w_x w_o by_ e):FVc TT zj9 (along20_I w w_x w_o w_t w_v by_ e) (zey w w_x w_o w_t w_v by_ e) Tryz.f102 [.ptr 0 0 0 0,.row 6,.int .i64 e] [(0,.box true 109 [.row 1,.row 2,.row 3,.row 4,.row 5]),(1,.row false ty1 (.ints .i64 w.sup)),(2,.row false ty2 (.arcs w.arcs)),(3,.row true 2 (.ints .i64 w_x)),(4,.row true 2 (.ints .i64 w_o)),(5,.deep true 149 147 (.recs (.int .i64) [.bool] w_t) w_v none),(6,.row false ty6 (.recs (.int .i64) [.bool,.bool] by_))] (zjb w w_x w_o w_t w_v by_ e):=by
 refine FVc.of (zex w w_x w_o w_t w_v by_ e ty1 ty2 ty6) (along20_q w w_x w_o w_t w_v by_ e ty1 ty2 ty6) ?_
 unfold zex
 delta z7b z4h z4g
 have A:=hp
 obtain ⟨hr,hlx,hlo,hxb,hob,e0,e1,htr,hpos⟩:=hp
 have hstop:=A.stop
 have hlen:(alL w by_ e).length <= w.sup.length:=zno _ _
 have hs64:=z0h hr
 obtain ⟨b,ρ,hby,hT,hρ⟩:=htr
 have hbl:by_.length=w.sup.length:=by rw [hby,z7x]
 have hw:∀ j:Nat,j <= 1000000->IntKind.i64.wrap ((j:Int)+1)=((j+1:Nat):Int):=fun j hj=>by rw [w64 (by omega) (by omega)]; omega
 have hre:z19 w (bOf by_) (alL w by_ e).length e.toNat=alR w by_ e:=root_end _ _
 simp only [eq_self,exists_const,forall_const,ne_eq,Int.toNat_natCast,zSS,z08]
 simp only [List.length_map,List.length_take,z08]
 have hat:∀ (j:Nat) (y:List Int),(List.map z63 (alL w by_ e))[j]? = some y->∃ s,(alL w by_ e)[j]? = some s/\y=z63 s/\okS w s/\((y.headD 0).toNat,y.tail.headD 0 == 1)=s/\z1l w (y.headD 0):=fun j y hy=>by
  rw [List.getElem?_map] at hy
  obtain ⟨s,h1,rfl⟩:=Option.map_eq_some_iff.1 hy
  have hok:=A.mem s (List.mem_of_getElem? h1)
  obtain ⟨a,k⟩:=s
  refine ⟨(a,k),h1,rfl,hok,?_,hr,?_,?_⟩
  ·cases k <;> simp [z63]
  ·simp [z63]
  ·have:a<w.arcs.length:=hok
   simp [z63]; omega
 have hyv:∀ (v:Nat) (y:List Int),by_[v]? = some y->y=mbS (bOf by_ v):=fun v y hy=>by
  rw [hby] at hy
  obtain ⟨h1,h2⟩:=bRow_get hy
  rw [h2,hby,bOf_row b h1]
 refine ⟨0,⟨Nat.zero_le _,by simp only [z19]; omega,rfl⟩,fun k hk=>⟨by have:=A.root_lt k; omega,by have:=A.root_lt k; omega,fun y hy=>?_⟩⟩
 have hrk:=A.root_lt k
 have hy1:=hyv _ y hy
 refine ⟨fun h1=>⟨by omega,by omega,fun z hz=>?_⟩,fun h1=>⟨by omega,by omega,fun u hu=>⟨by omega,by omega,fun v hv=>?_⟩⟩⟩
 ·have hz1:=hyv _ z hz
  cases hb:bOf by_ (z19 w (bOf by_) k e.toNat) with
  | none=>rw [hy1,hb] at h1; simp [mbS] at h1
  | some s =>
   rw [hb] at hz1
   have hkl:k<(alL w by_ e).length:=by
    apply Nat.lt_of_le_of_ne hk
    intro ek
    rw [ek,hre,hstop.1] at hb; cases hb
   have hLk:(alL w by_ e)[k]? = some s:=walk_get k _ _ (by omega) s hb hk
   have hok:=A.mem s (List.mem_of_getElem? hLk)
   obtain ⟨a,c⟩:=s
   have ha:a<w.arcs.length:=hok
   subst hz1
   have e1:(((mbS (some (a,c))).headD 0).toNat,(mbS (some (a,c))).tail.headD 0 == 1)=(a,c):=by cases c <;> simp [mbS]
   have e2:[(mbS (some (a,c))).headD 0,bif (mbS (some (a,c))).tail.headD 0 == 1 then 1 else 0]=z63 (a,c):=by cases c <;> simp [mbS,z63]
   rw [e1,e2]
   refine ⟨by omega,⟨hr,by simp [mbS],by simp [mbS]; omega⟩,k+1,by omega,by omega,?_,?_⟩
   ·rw [zml,hb]
   ·rw [z1k hLk,List.map_append]; rfl
 ·have hb:bOf by_ (z19 w (bOf by_) k e.toNat)=none:=by
   cases hb:bOf by_ (z19 w (bOf by_) k e.toNat) with
   | none=>rfl
   | some s=>rw [hy1,hb] at h1; simp [mbS] at h1
  have hkl:(alL w by_ e).length <= k:=walk_stop k _ _ hb
  have ek:k=(alL w by_ e).length:=by omega
  subst ek
  rw [hre] at hu
  have hu1:w_o.getD (alR w by_ e) 0=u:=by rw [List.getD_eq_getElem?_getD,hu]; rfl
  have hv1:w_o.getD e.toNat 0=v:=by rw [List.getD_eq_getElem?_getD,hv]; rfl
  have bv:=hob.at e.toNat
  rw [hv1] at bv
  have hw0:IntKind.i64.wrap (0 - v) = -v:=by rw [w64 (by omega) (by omega)]; omega
  have hU:=A.ub
  have ht0:∀ l:List Stp,l.take (l.length)=l:=fun l=>List.take_length
  have hm0:min (alL w by_ e).length (alL w by_ e).length=(alL w by_ e).length:=Nat.min_self _
  rw [hw0,ht0,hm0]
  refine ⟨0,⟨Nat.zero_le _,⟨?_,rfl,rfl⟩,rfl⟩,fun j hj=>⟨fun h2=>⟨by omega,by omega,fun y hy=>?_⟩,fun h2=>?_⟩⟩
  ·show min u (-v)=alU0 w w_o by_ e
   unfold alU0; rw [hu1,hv1]
  ·obtain ⟨s,g1,g2,g3,g4,g5⟩:=hat j y hy
   refine ⟨⟨g5,hlx,hxb.xb⟩,j+1,by omega,by omega,?_,hw j (by omega)⟩
   rw [g4,z1k g1,unitsF_snoc]
  ·have ej:j=(alL w by_ e).length:=by omega
   subst ej
   rw [ht0]
   refine ⟨0,⟨Nat.zero_le _,⟨rfl,trivial,rfl⟩,rfl,rfl⟩,fun i hi=>⟨fun h3=>⟨by omega,by omega,fun y hy=>?_⟩,fun h3=>?_⟩⟩
   ·obtain ⟨s,g1,g2,g3,g4,g5⟩:=hat i y hy
    have oj:=A.oj i (by omega)
    refine ⟨⟨g5,by rw [pushXs_len]; exact hlx,oj.1,A.xj i,oj.2,by omega,by omega⟩,i+1,by omega,by omega,hw i (by omega),?_,?_⟩
    ·rw [g4,z1k g1,pushXs_snoc]
    ·rw [g4,z1k g1,pushOs_snoc]
   ·have ei:i=(alL w by_ e).length:=by omega
    rw [ei,ht0]
    exact ⟨rfl,rfl⟩
theorem along20_ok:SpecOk Tryz.prog zja false (z02 false zab) :=
 z09 z0i (show z15 Tryz.prog zj9 from z00 z85 (z00 z9s (z00 zlt (z03)))) (by kernel_rfl) mixedOrders Tryz.func102 rfl rfl (by kernel_rfl) (n:=3) (by decide +kernel) (I:=along20_IA) (fun _ _=>z07) (A:=along20_A)
  (fun args h r hr=>by
   unfold zab at hr
   split at hr
   ·rename_i e ty1 w_s ty2 w_a w_x w_o w_t w_v ty6 by_; cases hr; refine ⟨rfl,fun hp=>?_⟩; have hE:=along20_E ⟨w_s,w_a⟩ w_x w_o w_t w_v by_ e ty1 ty2 ty6 hp; exact hE
   ·cases hr)
def shortE_r (w:Inst) (w_x:List Int) (w_o:List Int) (w_t:Ql.Rows3) (w_v:List Value) (q:Inst) (q_x:List Int) (q_o:List Int) (q_t:Ql.Rows3) (q_v:List Value):FRel:={ pre:=z04 w=0/\q=w,G:=(Nat->Option Int) × (Nat->Option Stp) × (Option Nat),post:=fun ⟨d,b,e⟩=>ShortP w (Ql.endS w) (fun _=>true) d b e,out:=fun ⟨d,b,e⟩=>{ pre:=True,res:=.tup [.row 12,.row 13,.agg [.int .i64 (e.getD 0:Nat),.bool e.isSome]],rows:=[.row 172 (.recs (.int .i64) [.bool] (z0l w.sup.length d)),.row 165 (.recs (.int .i64) [.bool,.bool] (z0k w.sup.length b))],eff:=[] } }
def zdo:FR:=fun args h=>match args,h with
 | [.ptr 0 0 0 0,.fn 105 [],.mth 106 [.ptr 6 0 0 0]],[(0,.box false 109 [.row 1,.row 2,.row 3,.row 4,.row 5]),(1,.row false ty1 (.ints .i64 w_s)),(2,.row false ty2 (.arcs w_a)),(3,.row false ty3 (.ints .i64 w_x)),(4,.row false ty4 (.ints .i64 w_o)),(5,.deep false ty5 tz5 (.recs (.int .i64) [.bool] w_t) w_v none),(6,.box false 109 [.row 7,.row 8,.row 9,.row 10,.row 11]),(7,.row false ty7 (.ints .i64 q_s)),(8,.row false ty8 (.arcs q_a)),(9,.row false ty9 (.ints .i64 q_x)),(10,.row false ty10 (.ints .i64 q_o)),(11,.deep false ty11 tz11 (.recs (.int .i64) [.bool] q_t) q_v none)]=>some (shortE_r ⟨w_s,w_a⟩ w_x w_o w_t w_v ⟨q_s,q_a⟩ q_x q_o q_t q_v)
 | _,_=>none
def zmu (w:Inst) (w_x:List Int) (w_o:List Int) (w_t:Ql.Rows3) (w_v:List Value) (q:Inst) (q_x:List Int) (q_o:List Int) (q_t:Ql.Rows3) (q_v:List Value):List (Nat × Ann):=[(4,{ G:=(Nat),inv:=fun k=>⟨[(0,.ptr 0 0 0 0),(1,.fn 105 []),(2,.mth 106 [.ptr 6 0 0 0]),(8,.ptr 14 0 0 0),(9,.row 15),(10,.row 16),(34,.int .i64 w.sup.length),(35,.int .i64 k)],[(16,.row true 165 (.recs (.int .i64) [.bool,.bool] (z0k w.sup.length (fun _=>none)))),(15,.row true 172 (.recs (.int .i64) [.bool] (z0l w.sup.length (fun v=>if v<k/\(fun _=>true) v=true then some 0 else none)))),(14,.box true 152 [.int .i64 (0:Int),SV.ff]),(0,.box false 109 [.row 1,.row 2,.row 3,.row 4,.row 5]),(1,.row false 0 (.ints .i64 w.sup)),(2,.row false 0 (.arcs w.arcs)),(3,.row false 0 (.ints .i64 w_x)),(4,.row false 0 (.ints .i64 w_o)),(5,.deep false 0 0 (.recs (.int .i64) [.bool] w_t) w_v none),(6,.box false 109 [.row 7,.row 8,.row 9,.row 10,.row 11]),(7,.row false 0 (.ints .i64 q.sup)),(8,.row false 0 (.arcs q.arcs)),(9,.row false 0 (.ints .i64 q_x)),(10,.row false 0 (.ints .i64 q_o)),(11,.deep false 0 0 (.recs (.int .i64) [.bool] q_t) q_v none)],17⟩,rel:=fun k0 k=>k <= w.sup.length,meas:=fun k=>w.sup.length - k }),
 (11,{ G:=(Nat) × (Nat->Option Int) × (Nat->Option Stp) × (Option Nat),inv:=fun ⟨r,d,b,e⟩=>⟨[(0,.ptr 0 0 0 0),(2,.mth 106 [.ptr 6 0 0 0]),(8,.ptr 14 0 0 0),(9,.row 15),(10,.row 16),(12,.ptr 17 0 0 0),(51,.int .i64 w.sup.length),(52,.int .i64 r)],[(17,.box true 152 [.int .i64 (e.getD 0:Nat),.bool e.isSome]),(16,.row true 165 (.recs (.int .i64) [.bool,.bool] (z0k w.sup.length (b)))),(15,.row true 172 (.recs (.int .i64) [.bool] (z0l w.sup.length (d)))),(14,.box true 152 [.int .i64 (0:Int),SV.ff]),(0,.box false 109 [.row 1,.row 2,.row 3,.row 4,.row 5]),(1,.row false 0 (.ints .i64 w.sup)),(2,.row false 0 (.arcs w.arcs)),(3,.row false 0 (.ints .i64 w_x)),(4,.row false 0 (.ints .i64 w_o)),(5,.deep false 0 0 (.recs (.int .i64) [.bool] w_t) w_v none),(6,.box false 109 [.row 7,.row 8,.row 9,.row 10,.row 11]),(7,.row false 0 (.ints .i64 q.sup)),(8,.row false 0 (.arcs q.arcs)),(9,.row false 0 (.ints .i64 q_x)),(10,.row false 0 (.ints .i64 q_o)),(11,.deep false 0 0 (.recs (.int .i64) [.bool] q_t) q_v none)],18⟩,rel:=fun ⟨r0,d0,b0,e0⟩ ⟨r,d,b,e⟩=>r <= w.sup.length/\SInv w (Ql.endS w) (fun _=>true) r allD (r * (2 * w.arcs.length)) d b e/\(e=none->r=0),meas:=fun ⟨r,d,b,e⟩=>w.sup.length - r }),
 (14,{ G:=(Nat) × (Nat) × (Nat->Option Int) × (Nat->Option Stp) × (Option Nat),inv:=fun ⟨r,a,d,b,e⟩=>⟨[(0,.ptr 0 0 0 0),(2,.mth 106 [.ptr 6 0 0 0]),(8,.ptr 14 0 0 0),(9,.row 15),(10,.row 16),(12,.ptr 17 0 0 0),(51,.int .i64 (↑w.sup.length:Int)),(52,.int .i64 r),(60,.int .i64 w.arcs.length),(61,.int .i64 a)],[(17,.box true 152 [.int .i64 (e.getD 0:Nat),.bool e.isSome]),(16,.row true 165 (.recs (.int .i64) [.bool,.bool] (z0k w.sup.length (b)))),(15,.row true 172 (.recs (.int .i64) [.bool] (z0l w.sup.length (d)))),(14,.box true 152 [.int .i64 (0:Int),SV.ff]),(0,.box false 109 [.row 1,.row 2,.row 3,.row 4,.row 5]),(1,.row false 0 (.ints .i64 w.sup)),(2,.row false 0 (.arcs w.arcs)),(3,.row false 0 (.ints .i64 w_x)),(4,.row false 0 (.ints .i64 w_o)),(5,.deep false 0 0 (.recs (.int .i64) [.bool] w_t) w_v none),(6,.box false 109 [.row 7,.row 8,.row 9,.row 10,.row 11]),(7,.row false 0 (.ints .i64 q.sup)),(8,.row false 0 (.arcs q.arcs)),(9,.row false 0 (.ints .i64 q_x)),(10,.row false 0 (.ints .i64 q_o)),(11,.deep false 0 0 (.recs (.int .i64) [.bool] q_t) q_v none)],18⟩,rel:=fun ⟨r0,a0,d0,b0,e0⟩ ⟨r,a,d,b,e⟩=>r=r0/\a <= w.arcs.length/\SInv w (Ql.endS w) (fun _=>true) (r+1) (z1g a 0) (r * (2 * w.arcs.length)+2 * a) d b e,meas:=fun ⟨r,a,d,b,e⟩=>w.arcs.length - a }),
 (17,{ G:=(Nat) × (Nat) × (Nat) × (Nat->Option Int) × (Nat->Option Stp) × (Option Nat),inv:=fun ⟨r,a,j,d,b,e⟩=>⟨[(0,.ptr 0 0 0 0),(2,.mth 106 [.ptr 6 0 0 0]),(8,.ptr 14 0 0 0),(9,.row 15),(10,.row 16),(12,.ptr 17 0 0 0),(51,.int .i64 (↑w.sup.length:Int)),(52,.int .i64 r),(60,.int .i64 (↑w.arcs.length:Int)),(61,.int .i64 a),(68,.agg [.int .i64 a,.bool false,.int .i64 a,.bool true]),(69,.int .i64 j),(13,.int .i64 a)],[(17,.box true 152 [.int .i64 (e.getD 0:Nat),.bool e.isSome]),(16,.row true 165 (.recs (.int .i64) [.bool,.bool] (z0k w.sup.length (b)))),(15,.row true 172 (.recs (.int .i64) [.bool] (z0l w.sup.length (d)))),(14,.box true 152 [.int .i64 (0:Int),SV.ff]),(0,.box false 109 [.row 1,.row 2,.row 3,.row 4,.row 5]),(1,.row false 0 (.ints .i64 w.sup)),(2,.row false 0 (.arcs w.arcs)),(3,.row false 0 (.ints .i64 w_x)),(4,.row false 0 (.ints .i64 w_o)),(5,.deep false 0 0 (.recs (.int .i64) [.bool] w_t) w_v none),(6,.box false 109 [.row 7,.row 8,.row 9,.row 10,.row 11]),(7,.row false 0 (.ints .i64 q.sup)),(8,.row false 0 (.arcs q.arcs)),(9,.row false 0 (.ints .i64 q_x)),(10,.row false 0 (.ints .i64 q_o)),(11,.deep false 0 0 (.recs (.int .i64) [.bool] q_t) q_v none)],18⟩,rel:=fun ⟨r0,a0,j0,d0,b0,e0⟩ ⟨r,a,j,d,b,e⟩=>r=r0/\a=a0/\j <= 2/\SInv w (Ql.endS w) (fun _=>true) (r+1) (z1g a j) (r * (2 * w.arcs.length)+2 * a+j) d b e,meas:=fun ⟨r,a,j,d,b,e⟩=>2 - j }),
 (1000019,{ G:=(Nat) × (Nat) × (Nat) × (Bool) × (Nat->Option Int) × (Nat->Option Stp) × (Option Nat),inv:=fun ⟨r,a,j,k,d,b,e⟩=>⟨[(0,.ptr 0 0 0 0),(2,.mth 106 [.ptr 6 0 0 0]),(8,.ptr 14 0 0 0),(9,.row 15),(10,.row 16),(12,.ptr 17 0 0 0),(51,.int .i64 (↑w.sup.length:Int)),(52,.int .i64 r),(60,.int .i64 (↑w.arcs.length:Int)),(61,.int .i64 a),(68,.agg [.int .i64 a,.bool false,.int .i64 a,.bool true]),(69,.int .i64 j),(15,.ptr 18 0 0 0),(13,.int .i64 a)],[(18,.box true 147 [.int .i64 a,.bool k]),(17,.box true 152 [.int .i64 (e.getD 0:Nat),.bool e.isSome]),(16,.row true 165 (.recs (.int .i64) [.bool,.bool] (z0k w.sup.length (b)))),(15,.row true 172 (.recs (.int .i64) [.bool] (z0l w.sup.length (d)))),(14,.box true 152 [.int .i64 (0:Int),SV.ff]),(0,.box false 109 [.row 1,.row 2,.row 3,.row 4,.row 5]),(1,.row false 0 (.ints .i64 w.sup)),(2,.row false 0 (.arcs w.arcs)),(3,.row false 0 (.ints .i64 w_x)),(4,.row false 0 (.ints .i64 w_o)),(5,.deep false 0 0 (.recs (.int .i64) [.bool] w_t) w_v none),(6,.box false 109 [.row 7,.row 8,.row 9,.row 10,.row 11]),(7,.row false 0 (.ints .i64 q.sup)),(8,.row false 0 (.arcs q.arcs)),(9,.row false 0 (.ints .i64 q_x)),(10,.row false 0 (.ints .i64 q_o)),(11,.deep false 0 0 (.recs (.int .i64) [.bool] q_t) q_v none)],19⟩,rel:=fun ⟨r0,a0,j0,k0,d0,b0,e0⟩ ⟨r,a,j,k,d,b,e⟩=>True,meas:=fun ⟨r,a,j,k,d,b,e⟩=>0,link:=true })]
def shortE_A:List SV->z0d->List (Nat × Ann):=fun args h=>match args,h with
 | [.ptr 0 0 0 0,.fn 105 [],.mth 106 [.ptr 6 0 0 0]],[(0,.box false 109 [.row 1,.row 2,.row 3,.row 4,.row 5]),(1,.row false ty1 (.ints .i64 w_s)),(2,.row false ty2 (.arcs w_a)),(3,.row false ty3 (.ints .i64 w_x)),(4,.row false ty4 (.ints .i64 w_o)),(5,.deep false ty5 tz5 (.recs (.int .i64) [.bool] w_t) w_v none),(6,.box false 109 [.row 7,.row 8,.row 9,.row 10,.row 11]),(7,.row false ty7 (.ints .i64 q_s)),(8,.row false ty8 (.arcs q_a)),(9,.row false ty9 (.ints .i64 q_x)),(10,.row false ty10 (.ints .i64 q_o)),(11,.deep false ty11 tz11 (.recs (.int .i64) [.bool] q_t) q_v none)]=>zmu ⟨w_s,w_a⟩ w_x w_o w_t w_v ⟨q_s,q_a⟩ q_x q_o q_t q_v
 | _,_=>[]
def shortE_g:z0c:=[(zb4,(true,z02 true z6g)),(zah,(true,z02 true z6d)),(zhs,(true,z02 true z9a)),(endl20_n,(true,z02 true zcu)),(ze6,(false,z6q)),(zgm,(false,z66)),(zgl,(false,z65))]
abbrev shortE_n:Nat:=104
def shortE_I (w:Inst) (w_x:List Int) (w_o:List Int) (w_t:Ql.Rows3) (w_v:List Value) (q:Inst) (q_x:List Int) (q_o:List Int) (q_t:Ql.Rows3) (q_v:List Value):List (Nat × z0a):=[]
def shortE_IA:List SV->z0d->List (Nat × z0a):=fun _ _=>[]
def shortR_r (w:Inst) (w_x:List Int) (w_o:List Int) (w_t:Ql.Rows3) (w_v:List Value) (q:Inst) (q_x:List Int) (q_o:List Int) (q_t:Ql.Rows3) (q_v:List Value) (q_l:Int):FRel:={ pre:=z04 w=0/\q=w/\q_x=w_x/\w_x.length=w.arcs.length/\XB w_x,G:=(Nat->Option Int) × (Nat->Option Stp) × (Option Nat),post:=fun ⟨d,b,e⟩=>ShortP w (fun s=>decide (q_l <= rmS w w_x s)) (fun _=>true) d b e,out:=fun ⟨d,b,e⟩=>{ pre:=True,res:=.tup [.row 14,.row 15,.agg [.int .i64 (e.getD 0:Nat),.bool e.isSome]],rows:=[.row 172 (.recs (.int .i64) [.bool] (z0l w.sup.length d)),.row 165 (.recs (.int .i64) [.bool,.bool] (z0k w.sup.length b))],eff:=[] } }
def znf:FR:=fun args h=>match args,h with
 | [.ptr 0 0 0 0,.fn 105 [],.fn 111 [.ptr 6 0 0 0,.ptr 13 0 0 0]],[(0,.box false 109 [.row 1,.row 2,.row 3,.row 4,.row 5]),(1,.row false ty1 (.ints .i64 w_s)),(2,.row false ty2 (.arcs w_a)),(3,.row false ty3 (.ints .i64 w_x)),(4,.row false ty4 (.ints .i64 w_o)),(5,.deep false ty5 tz5 (.recs (.int .i64) [.bool] w_t) w_v none),(6,.box false 102 [.ptr 7 0 0 0]),(7,.box false 109 [.row 8,.row 9,.row 10,.row 11,.row 12]),(8,.row false ty8 (.ints .i64 q_s)),(9,.row false ty9 (.arcs q_a)),(10,.row false ty10 (.ints .i64 q_x)),(11,.row false ty11 (.ints .i64 q_o)),(12,.deep false ty12 tz12 (.recs (.int .i64) [.bool] q_t) q_v none),(13,.box false 2 [.int .i64 q_l])]=>some (shortR_r ⟨w_s,w_a⟩ w_x w_o w_t w_v ⟨q_s,q_a⟩ q_x q_o q_t q_v q_l)
 | _,_=>none
def zne (w:Inst) (w_x:List Int) (w_o:List Int) (w_t:Ql.Rows3) (w_v:List Value) (q:Inst) (q_x:List Int) (q_o:List Int) (q_t:Ql.Rows3) (q_v:List Value) (q_l:Int):List (Nat × Ann):=[(4,{ G:=(Nat),inv:=fun k=>⟨[(0,.ptr 0 0 0 0),(1,.fn 105 []),(2,.fn 111 [.ptr 6 0 0 0,.ptr 13 0 0 0]),(8,.ptr 16 0 0 0),(9,.row 17),(10,.row 18),(34,.int .i64 w.sup.length),(35,.int .i64 k)],[(18,.row true 165 (.recs (.int .i64) [.bool,.bool] (z0k w.sup.length (fun _=>none)))),(17,.row true 172 (.recs (.int .i64) [.bool] (z0l w.sup.length (fun v=>if v<k/\(fun _=>true) v=true then some 0 else none)))),(16,.box true 152 [.int .i64 (0:Int),SV.ff]),(0,.box false 109 [.row 1,.row 2,.row 3,.row 4,.row 5]),(1,.row false 0 (.ints .i64 w.sup)),(2,.row false 0 (.arcs w.arcs)),(3,.row false 0 (.ints .i64 w_x)),(4,.row false 0 (.ints .i64 w_o)),(5,.deep false 0 0 (.recs (.int .i64) [.bool] w_t) w_v none),(6,.box false 102 [.ptr 7 0 0 0]),(7,.box false 109 [.row 8,.row 9,.row 10,.row 11,.row 12]),(8,.row false 0 (.ints .i64 q.sup)),(9,.row false 0 (.arcs q.arcs)),(10,.row false 0 (.ints .i64 q_x)),(11,.row false 0 (.ints .i64 q_o)),(12,.deep false 0 0 (.recs (.int .i64) [.bool] q_t) q_v none),(13,.box false 2 [.int .i64 q_l])],19⟩,rel:=fun k0 k=>k <= w.sup.length,meas:=fun k=>w.sup.length - k }),
 (11,{ G:=(Nat) × (Nat->Option Int) × (Nat->Option Stp) × (Option Nat),inv:=fun ⟨r,d,b,e⟩=>⟨[(0,.ptr 0 0 0 0),(2,.fn 111 [.ptr 6 0 0 0,.ptr 13 0 0 0]),(8,.ptr 16 0 0 0),(9,.row 17),(10,.row 18),(12,.ptr 19 0 0 0),(51,.int .i64 w.sup.length),(52,.int .i64 r)],[(19,.box true 152 [.int .i64 (e.getD 0:Nat),.bool e.isSome]),(18,.row true 165 (.recs (.int .i64) [.bool,.bool] (z0k w.sup.length (b)))),(17,.row true 172 (.recs (.int .i64) [.bool] (z0l w.sup.length (d)))),(16,.box true 152 [.int .i64 (0:Int),SV.ff]),(0,.box false 109 [.row 1,.row 2,.row 3,.row 4,.row 5]),(1,.row false 0 (.ints .i64 w.sup)),(2,.row false 0 (.arcs w.arcs)),(3,.row false 0 (.ints .i64 w_x)),(4,.row false 0 (.ints .i64 w_o)),(5,.deep false 0 0 (.recs (.int .i64) [.bool] w_t) w_v none),(6,.box false 102 [.ptr 7 0 0 0]),(7,.box false 109 [.row 8,.row 9,.row 10,.row 11,.row 12]),(8,.row false 0 (.ints .i64 q.sup)),(9,.row false 0 (.arcs q.arcs)),(10,.row false 0 (.ints .i64 q_x)),(11,.row false 0 (.ints .i64 q_o)),(12,.deep false 0 0 (.recs (.int .i64) [.bool] q_t) q_v none),(13,.box false 2 [.int .i64 q_l])],20⟩,rel:=fun ⟨r0,d0,b0,e0⟩ ⟨r,d,b,e⟩=>r <= w.sup.length/\SInv w (fun s=>decide (q_l <= rmS w w_x s)) (fun _=>true) r allD (r * (2 * w.arcs.length)) d b e/\(e=none->r=0),meas:=fun ⟨r,d,b,e⟩=>w.sup.length - r }),
 (14,{ G:=(Nat) × (Nat) × (Nat->Option Int) × (Nat->Option Stp) × (Option Nat),inv:=fun ⟨r,a,d,b,e⟩=>⟨[(0,.ptr 0 0 0 0),(2,.fn 111 [.ptr 6 0 0 0,.ptr 13 0 0 0]),(8,.ptr 16 0 0 0),(9,.row 17),(10,.row 18),(12,.ptr 19 0 0 0),(51,.int .i64 (↑w.sup.length:Int)),(52,.int .i64 r),(60,.int .i64 w.arcs.length),(61,.int .i64 a)],[(19,.box true 152 [.int .i64 (e.getD 0:Nat),.bool e.isSome]),(18,.row true 165 (.recs (.int .i64) [.bool,.bool] (z0k w.sup.length (b)))),(17,.row true 172 (.recs (.int .i64) [.bool] (z0l w.sup.length (d)))),(16,.box true 152 [.int .i64 (0:Int),SV.ff]),(0,.box false 109 [.row 1,.row 2,.row 3,.row 4,.row 5]),(1,.row false 0 (.ints .i64 w.sup)),(2,.row false 0 (.arcs w.arcs)),(3,.row false 0 (.ints .i64 w_x)),(4,.row false 0 (.ints .i64 w_o)),(5,.deep false 0 0 (.recs (.int .i64) [.bool] w_t) w_v none),(6,.box false 102 [.ptr 7 0 0 0]),(7,.box false 109 [.row 8,.row 9,.row 10,.row 11,.row 12]),(8,.row false 0 (.ints .i64 q.sup)),(9,.row false 0 (.arcs q.arcs)),(10,.row false 0 (.ints .i64 q_x)),(11,.row false 0 (.ints .i64 q_o)),(12,.deep false 0 0 (.recs (.int .i64) [.bool] q_t) q_v none),(13,.box false 2 [.int .i64 q_l])],20⟩,rel:=fun ⟨r0,a0,d0,b0,e0⟩ ⟨r,a,d,b,e⟩=>r=r0/\a <= w.arcs.length/\SInv w (fun s=>decide (q_l <= rmS w w_x s)) (fun _=>true) (r+1) (z1g a 0) (r * (2 * w.arcs.length)+2 * a) d b e,meas:=fun ⟨r,a,d,b,e⟩=>w.arcs.length - a }),
 (17,{ G:=(Nat) × (Nat) × (Nat) × (Nat->Option Int) × (Nat->Option Stp) × (Option Nat),inv:=fun ⟨r,a,j,d,b,e⟩=>⟨[(0,.ptr 0 0 0 0),(2,.fn 111 [.ptr 6 0 0 0,.ptr 13 0 0 0]),(8,.ptr 16 0 0 0),(9,.row 17),(10,.row 18),(12,.ptr 19 0 0 0),(51,.int .i64 (↑w.sup.length:Int)),(52,.int .i64 r),(60,.int .i64 (↑w.arcs.length:Int)),(61,.int .i64 a),(68,.agg [.int .i64 a,.bool false,.int .i64 a,.bool true]),(69,.int .i64 j),(13,.int .i64 a)],[(19,.box true 152 [.int .i64 (e.getD 0:Nat),.bool e.isSome]),(18,.row true 165 (.recs (.int .i64) [.bool,.bool] (z0k w.sup.length (b)))),(17,.row true 172 (.recs (.int .i64) [.bool] (z0l w.sup.length (d)))),(16,.box true 152 [.int .i64 (0:Int),SV.ff]),(0,.box false 109 [.row 1,.row 2,.row 3,.row 4,.row 5]),(1,.row false 0 (.ints .i64 w.sup)),(2,.row false 0 (.arcs w.arcs)),(3,.row false 0 (.ints .i64 w_x)),(4,.row false 0 (.ints .i64 w_o)),(5,.deep false 0 0 (.recs (.int .i64) [.bool] w_t) w_v none),(6,.box false 102 [.ptr 7 0 0 0]),(7,.box false 109 [.row 8,.row 9,.row 10,.row 11,.row 12]),(8,.row false 0 (.ints .i64 q.sup)),(9,.row false 0 (.arcs q.arcs)),(10,.row false 0 (.ints .i64 q_x)),(11,.row false 0 (.ints .i64 q_o)),(12,.deep false 0 0 (.recs (.int .i64) [.bool] q_t) q_v none),(13,.box false 2 [.int .i64 q_l])],20⟩,rel:=fun ⟨r0,a0,j0,d0,b0,e0⟩ ⟨r,a,j,d,b,e⟩=>r=r0/\a=a0/\j <= 2/\SInv w (fun s=>decide (q_l <= rmS w w_x s)) (fun _=>true) (r+1) (z1g a j) (r * (2 * w.arcs.length)+2 * a+j) d b e,meas:=fun ⟨r,a,j,d,b,e⟩=>2 - j }),
 (1000019,{ G:=(Nat) × (Nat) × (Nat) × (Bool) × (Nat->Option Int) × (Nat->Option Stp) × (Option Nat),inv:=fun ⟨r,a,j,k,d,b,e⟩=>⟨[(0,.ptr 0 0 0 0),(2,.fn 111 [.ptr 6 0 0 0,.ptr 13 0 0 0]),(8,.ptr 16 0 0 0),(9,.row 17),(10,.row 18),(12,.ptr 19 0 0 0),(51,.int .i64 (↑w.sup.length:Int)),(52,.int .i64 r),(60,.int .i64 (↑w.arcs.length:Int)),(61,.int .i64 a),(68,.agg [.int .i64 a,.bool false,.int .i64 a,.bool true]),(69,.int .i64 j),(15,.ptr 20 0 0 0),(13,.int .i64 a)],[(20,.box true 147 [.int .i64 a,.bool k]),(19,.box true 152 [.int .i64 (e.getD 0:Nat),.bool e.isSome]),(18,.row true 165 (.recs (.int .i64) [.bool,.bool] (z0k w.sup.length (b)))),(17,.row true 172 (.recs (.int .i64) [.bool] (z0l w.sup.length (d)))),(16,.box true 152 [.int .i64 (0:Int),SV.ff]),(0,.box false 109 [.row 1,.row 2,.row 3,.row 4,.row 5]),(1,.row false 0 (.ints .i64 w.sup)),(2,.row false 0 (.arcs w.arcs)),(3,.row false 0 (.ints .i64 w_x)),(4,.row false 0 (.ints .i64 w_o)),(5,.deep false 0 0 (.recs (.int .i64) [.bool] w_t) w_v none),(6,.box false 102 [.ptr 7 0 0 0]),(7,.box false 109 [.row 8,.row 9,.row 10,.row 11,.row 12]),(8,.row false 0 (.ints .i64 q.sup)),(9,.row false 0 (.arcs q.arcs)),(10,.row false 0 (.ints .i64 q_x)),(11,.row false 0 (.ints .i64 q_o)),(12,.deep false 0 0 (.recs (.int .i64) [.bool] q_t) q_v none),(13,.box false 2 [.int .i64 q_l])],21⟩,rel:=fun ⟨r0,a0,j0,k0,d0,b0,e0⟩ ⟨r,a,j,k,d,b,e⟩=>True,meas:=fun ⟨r,a,j,k,d,b,e⟩=>0,link:=true })]
def shortR_A:List SV->z0d->List (Nat × Ann):=fun args h=>match args,h with
 | [.ptr 0 0 0 0,.fn 105 [],.fn 111 [.ptr 6 0 0 0,.ptr 13 0 0 0]],[(0,.box false 109 [.row 1,.row 2,.row 3,.row 4,.row 5]),(1,.row false ty1 (.ints .i64 w_s)),(2,.row false ty2 (.arcs w_a)),(3,.row false ty3 (.ints .i64 w_x)),(4,.row false ty4 (.ints .i64 w_o)),(5,.deep false ty5 tz5 (.recs (.int .i64) [.bool] w_t) w_v none),(6,.box false 102 [.ptr 7 0 0 0]),(7,.box false 109 [.row 8,.row 9,.row 10,.row 11,.row 12]),(8,.row false ty8 (.ints .i64 q_s)),(9,.row false ty9 (.arcs q_a)),(10,.row false ty10 (.ints .i64 q_x)),(11,.row false ty11 (.ints .i64 q_o)),(12,.deep false ty12 tz12 (.recs (.int .i64) [.bool] q_t) q_v none),(13,.box false 2 [.int .i64 q_l])]=>zne ⟨w_s,w_a⟩ w_x w_o w_t w_v ⟨q_s,q_a⟩ q_x q_o q_t q_v q_l
 | _,_=>[]
def shortR_g:z0c:=[(zb4,(true,z02 true z6g)),(zah,(true,z02 true z6d)),(zhs,(true,z02 true z9a)),(zmj,(true,z02 true zar)),(ze6,(false,z6q)),(zgm,(false,z66)),(zgl,(false,z65))]
abbrev shortR_n:Nat:=104
def shortR_I (w:Inst) (w_x:List Int) (w_o:List Int) (w_t:Ql.Rows3) (w_v:List Value) (q:Inst) (q_x:List Int) (q_o:List Int) (q_t:Ql.Rows3) (q_v:List Value) (q_l:Int):List (Nat × z0a):=[]
def shortR_IA:List SV->z0d->List (Nat × z0a):=fun _ _=>[]
def shortP_r (w:Inst) (w_x:List Int) (w_o:List Int) (w_t:Ql.Rows3) (w_v:List Value) (q:Inst) (q_x:List Int) (q_o:List Int) (q_t:Ql.Rows3) (q_v:List Value):FRel:={ pre:=z04 w=0/\q=w/\q_x=w_x/\w_x.length=w.arcs.length/\XB w_x,G:=(Nat->Option Int) × (Nat->Option Stp) × (Option Nat),post:=fun ⟨d,b,e⟩=>ShortP w (fun s=>Ql.endS w s || decide (0<rmS w w_x s)) (fun _=>true) d b e,out:=fun ⟨d,b,e⟩=>{ pre:=True,res:=.tup [.row 13,.row 14,.agg [.int .i64 (e.getD 0:Nat),.bool e.isSome]],rows:=[.row 172 (.recs (.int .i64) [.bool] (z0l w.sup.length d)),.row 165 (.recs (.int .i64) [.bool,.bool] (z0k w.sup.length b))],eff:=[] } }
def zn8:FR:=fun args h=>match args,h with
 | [.ptr 0 0 0 0,.fn 105 [],.fn 114 [.ptr 6 0 0 0]],[(0,.box false 109 [.row 1,.row 2,.row 3,.row 4,.row 5]),(1,.row false ty1 (.ints .i64 w_s)),(2,.row false ty2 (.arcs w_a)),(3,.row false ty3 (.ints .i64 w_x)),(4,.row false ty4 (.ints .i64 w_o)),(5,.deep false ty5 tz5 (.recs (.int .i64) [.bool] w_t) w_v none),(6,.box false 102 [.ptr 7 0 0 0]),(7,.box false 109 [.row 8,.row 9,.row 10,.row 11,.row 12]),(8,.row false ty8 (.ints .i64 q_s)),(9,.row false ty9 (.arcs q_a)),(10,.row false ty10 (.ints .i64 q_x)),(11,.row false ty11 (.ints .i64 q_o)),(12,.deep false ty12 tz12 (.recs (.int .i64) [.bool] q_t) q_v none)]=>some (shortP_r ⟨w_s,w_a⟩ w_x w_o w_t w_v ⟨q_s,q_a⟩ q_x q_o q_t q_v)
 | _,_=>none
def zn7 (w:Inst) (w_x:List Int) (w_o:List Int) (w_t:Ql.Rows3) (w_v:List Value) (q:Inst) (q_x:List Int) (q_o:List Int) (q_t:Ql.Rows3) (q_v:List Value):List (Nat × Ann):=[(4,{ G:=(Nat),inv:=fun k=>⟨[(0,.ptr 0 0 0 0),(1,.fn 105 []),(2,.fn 114 [.ptr 6 0 0 0]),(8,.ptr 15 0 0 0),(9,.row 16),(10,.row 17),(34,.int .i64 w.sup.length),(35,.int .i64 k)],[(17,.row true 165 (.recs (.int .i64) [.bool,.bool] (z0k w.sup.length (fun _=>none)))),(16,.row true 172 (.recs (.int .i64) [.bool] (z0l w.sup.length (fun v=>if v<k/\(fun _=>true) v=true then some 0 else none)))),(15,.box true 152 [.int .i64 (0:Int),SV.ff]),(0,.box false 109 [.row 1,.row 2,.row 3,.row 4,.row 5]),(1,.row false 0 (.ints .i64 w.sup)),(2,.row false 0 (.arcs w.arcs)),(3,.row false 0 (.ints .i64 w_x)),(4,.row false 0 (.ints .i64 w_o)),(5,.deep false 0 0 (.recs (.int .i64) [.bool] w_t) w_v none),(6,.box false 102 [.ptr 7 0 0 0]),(7,.box false 109 [.row 8,.row 9,.row 10,.row 11,.row 12]),(8,.row false 0 (.ints .i64 q.sup)),(9,.row false 0 (.arcs q.arcs)),(10,.row false 0 (.ints .i64 q_x)),(11,.row false 0 (.ints .i64 q_o)),(12,.deep false 0 0 (.recs (.int .i64) [.bool] q_t) q_v none)],18⟩,rel:=fun k0 k=>k <= w.sup.length,meas:=fun k=>w.sup.length - k }),
 (11,{ G:=(Nat) × (Nat->Option Int) × (Nat->Option Stp) × (Option Nat),inv:=fun ⟨r,d,b,e⟩=>⟨[(0,.ptr 0 0 0 0),(2,.fn 114 [.ptr 6 0 0 0]),(8,.ptr 15 0 0 0),(9,.row 16),(10,.row 17),(12,.ptr 18 0 0 0),(51,.int .i64 w.sup.length),(52,.int .i64 r)],[(18,.box true 152 [.int .i64 (e.getD 0:Nat),.bool e.isSome]),(17,.row true 165 (.recs (.int .i64) [.bool,.bool] (z0k w.sup.length (b)))),(16,.row true 172 (.recs (.int .i64) [.bool] (z0l w.sup.length (d)))),(15,.box true 152 [.int .i64 (0:Int),SV.ff]),(0,.box false 109 [.row 1,.row 2,.row 3,.row 4,.row 5]),(1,.row false 0 (.ints .i64 w.sup)),(2,.row false 0 (.arcs w.arcs)),(3,.row false 0 (.ints .i64 w_x)),(4,.row false 0 (.ints .i64 w_o)),(5,.deep false 0 0 (.recs (.int .i64) [.bool] w_t) w_v none),(6,.box false 102 [.ptr 7 0 0 0]),(7,.box false 109 [.row 8,.row 9,.row 10,.row 11,.row 12]),(8,.row false 0 (.ints .i64 q.sup)),(9,.row false 0 (.arcs q.arcs)),(10,.row false 0 (.ints .i64 q_x)),(11,.row false 0 (.ints .i64 q_o)),(12,.deep false 0 0 (.recs (.int .i64) [.bool] q_t) q_v none)],19⟩,rel:=fun ⟨r0,d0,b0,e0⟩ ⟨r,d,b,e⟩=>r <= w.sup.length/\SInv w (fun s=>Ql.endS w s || decide (0<rmS w w_x s)) (fun _=>true) r allD (r * (2 * w.arcs.length)) d b e/\(e=none->r=0),meas:=fun ⟨r,d,b,e⟩=>w.sup.length - r }),
 (14,{ G:=(Nat) × (Nat) × (Nat->Option Int) × (Nat->Option Stp) × (Option Nat),inv:=fun ⟨r,a,d,b,e⟩=>⟨[(0,.ptr 0 0 0 0),(2,.fn 114 [.ptr 6 0 0 0]),(8,.ptr 15 0 0 0),(9,.row 16),(10,.row 17),(12,.ptr 18 0 0 0),(51,.int .i64 (↑w.sup.length:Int)),(52,.int .i64 r),(60,.int .i64 w.arcs.length),(61,.int .i64 a)],[(18,.box true 152 [.int .i64 (e.getD 0:Nat),.bool e.isSome]),(17,.row true 165 (.recs (.int .i64) [.bool,.bool] (z0k w.sup.length (b)))),(16,.row true 172 (.recs (.int .i64) [.bool] (z0l w.sup.length (d)))),(15,.box true 152 [.int .i64 (0:Int),SV.ff]),(0,.box false 109 [.row 1,.row 2,.row 3,.row 4,.row 5]),(1,.row false 0 (.ints .i64 w.sup)),(2,.row false 0 (.arcs w.arcs)),(3,.row false 0 (.ints .i64 w_x)),(4,.row false 0 (.ints .i64 w_o)),(5,.deep false 0 0 (.recs (.int .i64) [.bool] w_t) w_v none),(6,.box false 102 [.ptr 7 0 0 0]),(7,.box false 109 [.row 8,.row 9,.row 10,.row 11,.row 12]),(8,.row false 0 (.ints .i64 q.sup)),(9,.row false 0 (.arcs q.arcs)),(10,.row false 0 (.ints .i64 q_x)),(11,.row false 0 (.ints .i64 q_o)),(12,.deep false 0 0 (.recs (.int .i64) [.bool] q_t) q_v none)],19⟩,rel:=fun ⟨r0,a0,d0,b0,e0⟩ ⟨r,a,d,b,e⟩=>r=r0/\a <= w.arcs.length/\SInv w (fun s=>Ql.endS w s || decide (0<rmS w w_x s)) (fun _=>true) (r+1) (z1g a 0) (r * (2 * w.arcs.length)+2 * a) d b e,meas:=fun ⟨r,a,d,b,e⟩=>w.arcs.length - a }),
 (17,{ G:=(Nat) × (Nat) × (Nat) × (Nat->Option Int) × (Nat->Option Stp) × (Option Nat),inv:=fun ⟨r,a,j,d,b,e⟩=>⟨[(0,.ptr 0 0 0 0),(2,.fn 114 [.ptr 6 0 0 0]),(8,.ptr 15 0 0 0),(9,.row 16),(10,.row 17),(12,.ptr 18 0 0 0),(51,.int .i64 (↑w.sup.length:Int)),(52,.int .i64 r),(60,.int .i64 (↑w.arcs.length:Int)),(61,.int .i64 a),(68,.agg [.int .i64 a,.bool false,.int .i64 a,.bool true]),(69,.int .i64 j),(13,.int .i64 a)],[(18,.box true 152 [.int .i64 (e.getD 0:Nat),.bool e.isSome]),(17,.row true 165 (.recs (.int .i64) [.bool,.bool] (z0k w.sup.length (b)))),(16,.row true 172 (.recs (.int .i64) [.bool] (z0l w.sup.length (d)))),(15,.box true 152 [.int .i64 (0:Int),SV.ff]),(0,.box false 109 [.row 1,.row 2,.row 3,.row 4,.row 5]),(1,.row false 0 (.ints .i64 w.sup)),(2,.row false 0 (.arcs w.arcs)),(3,.row false 0 (.ints .i64 w_x)),(4,.row false 0 (.ints .i64 w_o)),(5,.deep false 0 0 (.recs (.int .i64) [.bool] w_t) w_v none),(6,.box false 102 [.ptr 7 0 0 0]),(7,.box false 109 [.row 8,.row 9,.row 10,.row 11,.row 12]),(8,.row false 0 (.ints .i64 q.sup)),(9,.row false 0 (.arcs q.arcs)),(10,.row false 0 (.ints .i64 q_x)),(11,.row false 0 (.ints .i64 q_o)),(12,.deep false 0 0 (.recs (.int .i64) [.bool] q_t) q_v none)],19⟩,rel:=fun ⟨r0,a0,j0,d0,b0,e0⟩ ⟨r,a,j,d,b,e⟩=>r=r0/\a=a0/\j <= 2/\SInv w (fun s=>Ql.endS w s || decide (0<rmS w w_x s)) (fun _=>true) (r+1) (z1g a j) (r * (2 * w.arcs.length)+2 * a+j) d b e,meas:=fun ⟨r,a,j,d,b,e⟩=>2 - j }),
 (1000019,{ G:=(Nat) × (Nat) × (Nat) × (Bool) × (Nat->Option Int) × (Nat->Option Stp) × (Option Nat),inv:=fun ⟨r,a,j,k,d,b,e⟩=>⟨[(0,.ptr 0 0 0 0),(2,.fn 114 [.ptr 6 0 0 0]),(8,.ptr 15 0 0 0),(9,.row 16),(10,.row 17),(12,.ptr 18 0 0 0),(51,.int .i64 (↑w.sup.length:Int)),(52,.int .i64 r),(60,.int .i64 (↑w.arcs.length:Int)),(61,.int .i64 a),(68,.agg [.int .i64 a,.bool false,.int .i64 a,.bool true]),(69,.int .i64 j),(15,.ptr 19 0 0 0),(13,.int .i64 a)],[(19,.box true 147 [.int .i64 a,.bool k]),(18,.box true 152 [.int .i64 (e.getD 0:Nat),.bool e.isSome]),(17,.row true 165 (.recs (.int .i64) [.bool,.bool] (z0k w.sup.length (b)))),(16,.row true 172 (.recs (.int .i64) [.bool] (z0l w.sup.length (d)))),(15,.box true 152 [.int .i64 (0:Int),SV.ff]),(0,.box false 109 [.row 1,.row 2,.row 3,.row 4,.row 5]),(1,.row false 0 (.ints .i64 w.sup)),(2,.row false 0 (.arcs w.arcs)),(3,.row false 0 (.ints .i64 w_x)),(4,.row false 0 (.ints .i64 w_o)),(5,.deep false 0 0 (.recs (.int .i64) [.bool] w_t) w_v none),(6,.box false 102 [.ptr 7 0 0 0]),(7,.box false 109 [.row 8,.row 9,.row 10,.row 11,.row 12]),(8,.row false 0 (.ints .i64 q.sup)),(9,.row false 0 (.arcs q.arcs)),(10,.row false 0 (.ints .i64 q_x)),(11,.row false 0 (.ints .i64 q_o)),(12,.deep false 0 0 (.recs (.int .i64) [.bool] q_t) q_v none)],20⟩,rel:=fun ⟨r0,a0,j0,k0,d0,b0,e0⟩ ⟨r,a,j,k,d,b,e⟩=>True,meas:=fun ⟨r,a,j,k,d,b,e⟩=>0,link:=true })]
def shortP_A:List SV->z0d->List (Nat × Ann):=fun args h=>match args,h with
 | [.ptr 0 0 0 0,.fn 105 [],.fn 114 [.ptr 6 0 0 0]],[(0,.box false 109 [.row 1,.row 2,.row 3,.row 4,.row 5]),(1,.row false ty1 (.ints .i64 w_s)),(2,.row false ty2 (.arcs w_a)),(3,.row false ty3 (.ints .i64 w_x)),(4,.row false ty4 (.ints .i64 w_o)),(5,.deep false ty5 tz5 (.recs (.int .i64) [.bool] w_t) w_v none),(6,.box false 102 [.ptr 7 0 0 0]),(7,.box false 109 [.row 8,.row 9,.row 10,.row 11,.row 12]),(8,.row false ty8 (.ints .i64 q_s)),(9,.row false ty9 (.arcs q_a)),(10,.row false ty10 (.ints .i64 q_x)),(11,.row false ty11 (.ints .i64 q_o)),(12,.deep false ty12 tz12 (.recs (.int .i64) [.bool] q_t) q_v none)]=>zn7 ⟨w_s,w_a⟩ w_x w_o w_t w_v ⟨q_s,q_a⟩ q_x q_o q_t q_v
 | _,_=>[]
def shortP_g:z0c:=[(zb4,(true,z02 true z6g)),(zah,(true,z02 true z6d)),(zhs,(true,z02 true z9a)),(posi20_n,(true,z02 true zlo)),(ze6,(false,z6q)),(zgm,(false,z66)),(zgl,(false,z65))]
abbrev shortP_n:Nat:=104
def shortP_I (w:Inst) (w_x:List Int) (w_o:List Int) (w_t:Ql.Rows3) (w_v:List Value) (q:Inst) (q_x:List Int) (q_o:List Int) (q_t:Ql.Rows3) (q_v:List Value):List (Nat × z0a):=[]
def shortP_IA:List SV->z0d->List (Nat × z0a):=fun _ _=>[]
def shortO_r (w:Inst) (w_x:List Int) (w_o:List Int) (w_t:Ql.Rows3) (w_v:List Value) (p:Inst) (p_x:List Int) (p_o:List Int) (p_t:Ql.Rows3) (p_v:List Value) (p_l:Int) (q:Inst) (q_x:List Int) (q_o:List Int) (q_t:Ql.Rows3) (q_v:List Value) (q_l:Int):FRel:={ pre:=z04 w=0/\q=w/\q_x=w_x/\w_x.length=w.arcs.length/\XB w_x/\p=w/\p_o=w_o/\w_o.length=w.sup.length,G:=(Nat->Option Int) × (Nat->Option Stp) × (Option Nat),post:=fun ⟨d,b,e⟩=>ShortP w (fun s=>decide (q_l <= rmS w w_x s)) (fun v=>decide (p_l <= w_o.getD v 0)) d b e,out:=fun ⟨d,b,e⟩=>{ pre:=True,res:=.tup [.row 22,.row 23,.agg [.int .i64 (e.getD 0:Nat),.bool e.isSome]],rows:=[.row 172 (.recs (.int .i64) [.bool] (z0l w.sup.length d)),.row 165 (.recs (.int .i64) [.bool,.bool] (z0k w.sup.length b))],eff:=[] } }
def zn1:FR:=fun args h=>match args,h.take 11 with
 | [.ptr 0 0 0 0,.fn 155 [.ptr 6 0 0 0,.ptr 13 0 0 0],.fn 111 [.ptr 14 0 0 0,.ptr 21 0 0 0]],[(0,.box false 109 [.row 1,.row 2,.row 3,.row 4,.row 5]),(1,.row false ty1 (.ints .i64 w_s)),(2,.row false ty2 (.arcs w_a)),(3,.row false ty3 (.ints .i64 w_x)),(4,.row false ty4 (.ints .i64 w_o)),(5,.deep false ty5 tz5 (.recs (.int .i64) [.bool] w_t) w_v none),(6,.box false 102 [.ptr 7 0 0 0]),(7,.box false 109 [.row 8,.row 9,.row 10,.row 11,.row 12]),(8,.row false ty8 (.ints .i64 p_s)),(9,.row false ty9 (.arcs p_a)),(10,.row false ty10 (.ints .i64 p_x))]=>(match h.drop 11 with
  | [(11,.row false ty11 (.ints .i64 p_o)),(12,.deep false ty12 tz12 (.recs (.int .i64) [.bool] p_t) p_v none),(13,.box false 2 [.int .i64 p_l]),(14,.box false 102 [.ptr 15 0 0 0]),(15,.box false 109 [.row 16,.row 17,.row 18,.row 19,.row 20]),(16,.row false ty16 (.ints .i64 q_s)),(17,.row false ty17 (.arcs q_a)),(18,.row false ty18 (.ints .i64 q_x)),(19,.row false ty19 (.ints .i64 q_o)),(20,.deep false ty20 tz20 (.recs (.int .i64) [.bool] q_t) q_v none),(21,.box false 2 [.int .i64 q_l])]=>some (shortO_r ⟨w_s,w_a⟩ w_x w_o w_t w_v ⟨p_s,p_a⟩ p_x p_o p_t p_v p_l ⟨q_s,q_a⟩ q_x q_o q_t q_v q_l)
  | _=>none)
 | _,_=>none
def zn0 (w:Inst) (w_x:List Int) (w_o:List Int) (w_t:Ql.Rows3) (w_v:List Value) (p:Inst) (p_x:List Int) (p_o:List Int) (p_t:Ql.Rows3) (p_v:List Value) (p_l:Int) (q:Inst) (q_x:List Int) (q_o:List Int) (q_t:Ql.Rows3) (q_v:List Value) (q_l:Int):List (Nat × Ann):=[(4,{ G:=(Nat),inv:=fun k=>⟨[(0,.ptr 0 0 0 0),(1,.fn 155 [.ptr 6 0 0 0,.ptr 13 0 0 0]),(2,.fn 111 [.ptr 14 0 0 0,.ptr 21 0 0 0]),(8,.ptr 24 0 0 0),(9,.row 25),(10,.row 26),(34,.int .i64 w.sup.length),(35,.int .i64 k)],[(26,.row true 165 (.recs (.int .i64) [.bool,.bool] (z0k w.sup.length (fun _=>none)))),(25,.row true 172 (.recs (.int .i64) [.bool] (z0l w.sup.length (fun v=>if v<k/\(fun v=>decide (p_l <= w_o.getD v 0)) v=true then some 0 else none)))),(24,.box true 152 [.int .i64 (0:Int),SV.ff]),(0,.box false 109 [.row 1,.row 2,.row 3,.row 4,.row 5]),(1,.row false 0 (.ints .i64 w.sup)),(2,.row false 0 (.arcs w.arcs)),(3,.row false 0 (.ints .i64 w_x)),(4,.row false 0 (.ints .i64 w_o)),(5,.deep false 0 0 (.recs (.int .i64) [.bool] w_t) w_v none),(6,.box false 102 [.ptr 7 0 0 0]),(7,.box false 109 [.row 8,.row 9,.row 10,.row 11,.row 12]),(8,.row false 0 (.ints .i64 p.sup)),(9,.row false 0 (.arcs p.arcs)),(10,.row false 0 (.ints .i64 p_x)),(11,.row false 0 (.ints .i64 p_o)),(12,.deep false 0 0 (.recs (.int .i64) [.bool] p_t) p_v none),(13,.box false 2 [.int .i64 p_l]),(14,.box false 102 [.ptr 15 0 0 0]),(15,.box false 109 [.row 16,.row 17,.row 18,.row 19,.row 20]),(16,.row false 0 (.ints .i64 q.sup)),(17,.row false 0 (.arcs q.arcs)),(18,.row false 0 (.ints .i64 q_x)),(19,.row false 0 (.ints .i64 q_o)),(20,.deep false 0 0 (.recs (.int .i64) [.bool] q_t) q_v none),(21,.box false 2 [.int .i64 q_l])],27⟩,rel:=fun k0 k=>k <= w.sup.length,meas:=fun k=>w.sup.length - k }),
 (11,{ G:=(Nat) × (Nat->Option Int) × (Nat->Option Stp) × (Option Nat),inv:=fun ⟨r,d,b,e⟩=>⟨[(0,.ptr 0 0 0 0),(2,.fn 111 [.ptr 14 0 0 0,.ptr 21 0 0 0]),(8,.ptr 24 0 0 0),(9,.row 25),(10,.row 26),(12,.ptr 27 0 0 0),(51,.int .i64 w.sup.length),(52,.int .i64 r)],[(27,.box true 152 [.int .i64 (e.getD 0:Nat),.bool e.isSome]),(26,.row true 165 (.recs (.int .i64) [.bool,.bool] (z0k w.sup.length (b)))),(25,.row true 172 (.recs (.int .i64) [.bool] (z0l w.sup.length (d)))),(24,.box true 152 [.int .i64 (0:Int),SV.ff]),(0,.box false 109 [.row 1,.row 2,.row 3,.row 4,.row 5]),(1,.row false 0 (.ints .i64 w.sup)),(2,.row false 0 (.arcs w.arcs)),(3,.row false 0 (.ints .i64 w_x)),(4,.row false 0 (.ints .i64 w_o)),(5,.deep false 0 0 (.recs (.int .i64) [.bool] w_t) w_v none),(14,.box false 102 [.ptr 15 0 0 0]),(15,.box false 109 [.row 16,.row 17,.row 18,.row 19,.row 20]),(16,.row false 0 (.ints .i64 q.sup)),(17,.row false 0 (.arcs q.arcs)),(18,.row false 0 (.ints .i64 q_x)),(19,.row false 0 (.ints .i64 q_o)),(20,.deep false 0 0 (.recs (.int .i64) [.bool] q_t) q_v none),(21,.box false 2 [.int .i64 q_l])],28⟩,rel:=fun ⟨r0,d0,b0,e0⟩ ⟨r,d,b,e⟩=>r <= w.sup.length/\SInv w (fun s=>decide (q_l <= rmS w w_x s)) (fun v=>decide (p_l <= w_o.getD v 0)) r allD (r * (2 * w.arcs.length)) d b e/\(e=none->r=0),meas:=fun ⟨r,d,b,e⟩=>w.sup.length - r }),
 (14,{ G:=(Nat) × (Nat) × (Nat->Option Int) × (Nat->Option Stp) × (Option Nat),inv:=fun ⟨r,a,d,b,e⟩=>⟨[(0,.ptr 0 0 0 0),(2,.fn 111 [.ptr 14 0 0 0,.ptr 21 0 0 0]),(8,.ptr 24 0 0 0),(9,.row 25),(10,.row 26),(12,.ptr 27 0 0 0),(51,.int .i64 (↑w.sup.length:Int)),(52,.int .i64 r),(60,.int .i64 w.arcs.length),(61,.int .i64 a)],[(27,.box true 152 [.int .i64 (e.getD 0:Nat),.bool e.isSome]),(26,.row true 165 (.recs (.int .i64) [.bool,.bool] (z0k w.sup.length (b)))),(25,.row true 172 (.recs (.int .i64) [.bool] (z0l w.sup.length (d)))),(24,.box true 152 [.int .i64 (0:Int),SV.ff]),(0,.box false 109 [.row 1,.row 2,.row 3,.row 4,.row 5]),(1,.row false 0 (.ints .i64 w.sup)),(2,.row false 0 (.arcs w.arcs)),(3,.row false 0 (.ints .i64 w_x)),(4,.row false 0 (.ints .i64 w_o)),(5,.deep false 0 0 (.recs (.int .i64) [.bool] w_t) w_v none),(14,.box false 102 [.ptr 15 0 0 0]),(15,.box false 109 [.row 16,.row 17,.row 18,.row 19,.row 20]),(16,.row false 0 (.ints .i64 q.sup)),(17,.row false 0 (.arcs q.arcs)),(18,.row false 0 (.ints .i64 q_x)),(19,.row false 0 (.ints .i64 q_o)),(20,.deep false 0 0 (.recs (.int .i64) [.bool] q_t) q_v none),(21,.box false 2 [.int .i64 q_l])],28⟩,rel:=fun ⟨r0,a0,d0,b0,e0⟩ ⟨r,a,d,b,e⟩=>r=r0/\a <= w.arcs.length/\SInv w (fun s=>decide (q_l <= rmS w w_x s)) (fun v=>decide (p_l <= w_o.getD v 0)) (r+1) (z1g a 0) (r * (2 * w.arcs.length)+2 * a) d b e,meas:=fun ⟨r,a,d,b,e⟩=>w.arcs.length - a }),
 (17,{ G:=(Nat) × (Nat) × (Nat) × (Nat->Option Int) × (Nat->Option Stp) × (Option Nat),inv:=fun ⟨r,a,j,d,b,e⟩=>⟨[(0,.ptr 0 0 0 0),(2,.fn 111 [.ptr 14 0 0 0,.ptr 21 0 0 0]),(8,.ptr 24 0 0 0),(9,.row 25),(10,.row 26),(12,.ptr 27 0 0 0),(51,.int .i64 (↑w.sup.length:Int)),(52,.int .i64 r),(60,.int .i64 (↑w.arcs.length:Int)),(61,.int .i64 a),(68,.agg [.int .i64 a,.bool false,.int .i64 a,.bool true]),(69,.int .i64 j),(13,.int .i64 a)],[(27,.box true 152 [.int .i64 (e.getD 0:Nat),.bool e.isSome]),(26,.row true 165 (.recs (.int .i64) [.bool,.bool] (z0k w.sup.length (b)))),(25,.row true 172 (.recs (.int .i64) [.bool] (z0l w.sup.length (d)))),(24,.box true 152 [.int .i64 (0:Int),SV.ff]),(0,.box false 109 [.row 1,.row 2,.row 3,.row 4,.row 5]),(1,.row false 0 (.ints .i64 w.sup)),(2,.row false 0 (.arcs w.arcs)),(3,.row false 0 (.ints .i64 w_x)),(4,.row false 0 (.ints .i64 w_o)),(5,.deep false 0 0 (.recs (.int .i64) [.bool] w_t) w_v none),(14,.box false 102 [.ptr 15 0 0 0]),(15,.box false 109 [.row 16,.row 17,.row 18,.row 19,.row 20]),(16,.row false 0 (.ints .i64 q.sup)),(17,.row false 0 (.arcs q.arcs)),(18,.row false 0 (.ints .i64 q_x)),(19,.row false 0 (.ints .i64 q_o)),(20,.deep false 0 0 (.recs (.int .i64) [.bool] q_t) q_v none),(21,.box false 2 [.int .i64 q_l])],28⟩,rel:=fun ⟨r0,a0,j0,d0,b0,e0⟩ ⟨r,a,j,d,b,e⟩=>r=r0/\a=a0/\j <= 2/\SInv w (fun s=>decide (q_l <= rmS w w_x s)) (fun v=>decide (p_l <= w_o.getD v 0)) (r+1) (z1g a j) (r * (2 * w.arcs.length)+2 * a+j) d b e,meas:=fun ⟨r,a,j,d,b,e⟩=>2 - j }),
 (1000019,{ G:=(Nat) × (Nat) × (Nat) × (Bool) × (Nat->Option Int) × (Nat->Option Stp) × (Option Nat),inv:=fun ⟨r,a,j,k,d,b,e⟩=>⟨[(0,.ptr 0 0 0 0),(2,.fn 111 [.ptr 14 0 0 0,.ptr 21 0 0 0]),(8,.ptr 24 0 0 0),(9,.row 25),(10,.row 26),(12,.ptr 27 0 0 0),(51,.int .i64 (↑w.sup.length:Int)),(52,.int .i64 r),(60,.int .i64 (↑w.arcs.length:Int)),(61,.int .i64 a),(68,.agg [.int .i64 a,.bool false,.int .i64 a,.bool true]),(69,.int .i64 j),(15,.ptr 28 0 0 0),(13,.int .i64 a)],[(28,.box true 147 [.int .i64 a,.bool k]),(27,.box true 152 [.int .i64 (e.getD 0:Nat),.bool e.isSome]),(26,.row true 165 (.recs (.int .i64) [.bool,.bool] (z0k w.sup.length (b)))),(25,.row true 172 (.recs (.int .i64) [.bool] (z0l w.sup.length (d)))),(24,.box true 152 [.int .i64 (0:Int),SV.ff]),(0,.box false 109 [.row 1,.row 2,.row 3,.row 4,.row 5]),(1,.row false 0 (.ints .i64 w.sup)),(2,.row false 0 (.arcs w.arcs)),(3,.row false 0 (.ints .i64 w_x)),(4,.row false 0 (.ints .i64 w_o)),(5,.deep false 0 0 (.recs (.int .i64) [.bool] w_t) w_v none),(14,.box false 102 [.ptr 15 0 0 0]),(15,.box false 109 [.row 16,.row 17,.row 18,.row 19,.row 20]),(16,.row false 0 (.ints .i64 q.sup)),(17,.row false 0 (.arcs q.arcs)),(18,.row false 0 (.ints .i64 q_x)),(19,.row false 0 (.ints .i64 q_o)),(20,.deep false 0 0 (.recs (.int .i64) [.bool] q_t) q_v none),(21,.box false 2 [.int .i64 q_l])],29⟩,rel:=fun ⟨r0,a0,j0,k0,d0,b0,e0⟩ ⟨r,a,j,k,d,b,e⟩=>True,meas:=fun ⟨r,a,j,k,d,b,e⟩=>0,link:=true })]
def shortO_A:List SV->z0d->List (Nat × Ann):=fun args h=>match args,h with
 | [.ptr 0 0 0 0,.fn 155 [.ptr 6 0 0 0,.ptr 13 0 0 0],.fn 111 [.ptr 14 0 0 0,.ptr 21 0 0 0]],[(0,.box false 109 [.row 1,.row 2,.row 3,.row 4,.row 5]),(1,.row false ty1 (.ints .i64 w_s)),(2,.row false ty2 (.arcs w_a)),(3,.row false ty3 (.ints .i64 w_x)),(4,.row false ty4 (.ints .i64 w_o)),(5,.deep false ty5 tz5 (.recs (.int .i64) [.bool] w_t) w_v none),(6,.box false 102 [.ptr 7 0 0 0]),(7,.box false 109 [.row 8,.row 9,.row 10,.row 11,.row 12]),(8,.row false ty8 (.ints .i64 p_s)),(9,.row false ty9 (.arcs p_a)),(10,.row false ty10 (.ints .i64 p_x)),(11,.row false ty11 (.ints .i64 p_o)),(12,.deep false ty12 tz12 (.recs (.int .i64) [.bool] p_t) p_v none),(13,.box false 2 [.int .i64 p_l]),(14,.box false 102 [.ptr 15 0 0 0]),(15,.box false 109 [.row 16,.row 17,.row 18,.row 19,.row 20]),(16,.row false ty16 (.ints .i64 q_s)),(17,.row false ty17 (.arcs q_a)),(18,.row false ty18 (.ints .i64 q_x)),(19,.row false ty19 (.ints .i64 q_o)),(20,.deep false ty20 tz20 (.recs (.int .i64) [.bool] q_t) q_v none),(21,.box false 2 [.int .i64 q_l])]=>zn0 ⟨w_s,w_a⟩ w_x w_o w_t w_v ⟨p_s,p_a⟩ p_x p_o p_t p_v p_l ⟨q_s,q_a⟩ q_x q_o q_t q_v q_l
 | _,_=>[]
def shortO_g:z0c:=[(zb4,(true,z02 true z6g)),(zah,(true,z02 true z6d)),(over20_n,(true,z02 true zlk)),(zmj,(true,z02 true zar)),(ze6,(false,z6q)),(zgm,(false,z66)),(zgl,(false,z65))]
abbrev shortO_n:Nat:=104
def shortO_I (w:Inst) (w_x:List Int) (w_o:List Int) (w_t:Ql.Rows3) (w_v:List Value) (p:Inst) (p_x:List Int) (p_o:List Int) (p_t:Ql.Rows3) (p_v:List Value) (p_l:Int) (q:Inst) (q_x:List Int) (q_o:List Int) (q_t:Ql.Rows3) (q_v:List Value) (q_l:Int):List (Nat × z0a):=[]
def shortO_IA:List SV->z0d->List (Nat × z0a):=fun _ _=>[]
end Go.Proofs.YtggblkbecekbdaaGreat
end
