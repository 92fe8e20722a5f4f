/- Part of the proof: FB9, Price, Law10. -/
import Derived.Test.YtggblkbecekbdaaGreatZG7
import Derived.Test.YtggblkbecekbdaaGreatZG5
import Derived.Test.YtggblkbecekbdaaGreatZG6
set_option linter.unusedVariables false
set_option linter.all false
set_option linter.unusedSimpArgs false
set_option maxRecDepth 1000000
section
namespace Go.Proofs.YtggblkbecekbdaaGreat
open Go Go.RowKit Go.Ql Go.Vc
def has_E0 (g_n : Int) (g_l : List Arc) (g_i : List Int) (g_s : List Int) (a : Int) (ty0 ty1 ty2 ty3 : TypeId) : Prop :=
      ((!false)=true ->
 (decide (a ≥ (0:Int))=true->(decide (a<g_n)=(decide ((0:Int) <= a) && decide (a<g_n))/\True)/\True) /\
 (decide (a ≥ (0:Int))=false->(false=(decide ((0:Int) <= a) && decide (a<g_n))/\True)/\True)) /\
 ((!false)=false->(false=(decide ((0:Int) <= a) && decide (a<g_n))/\True)/\True)
theorem has_q (g_n:Int) (g_l:List Arc) (g_i:List Int) (g_s:List Int) (a:Int) (ty0 ty1 ty2 ty3:TypeId):has_E0 g_n g_l g_i g_s a ty0 ty1 ty2 ty3=z23 TT has_g (has_I g_n g_l g_i g_s a) (has_an g_n g_l g_i g_s a) Tryz.f140 [.ptr 0 0 0 0,.int .i64 a] [(0,.box false ty0 [.int .i64 g_n,.row 1,.row 2,.row 3]),(1,.row false ty1 (.arcs g_l)),(2,.row false ty2 (.ints .i64 g_i)),(3,.row false ty3 (.ints .i64 g_s))] (has_r g_n g_l g_i g_s a):=by kernel_rfl
theorem has_E (g_n:Int) (g_l:List Arc) (g_i:List Int) (g_s:List Int) (a:Int) (ty0 ty1 ty2 ty3:TypeId) (hp:True):FVc TT has_g (has_I g_n g_l g_i g_s a) (has_an g_n g_l g_i g_s a) Tryz.f140 [.ptr 0 0 0 0,.int .i64 a] [(0,.box false ty0 [.int .i64 g_n,.row 1,.row 2,.row 3]),(1,.row false ty1 (.arcs g_l)),(2,.row false ty2 (.ints .i64 g_i)),(3,.row false ty3 (.ints .i64 g_s))] (has_r g_n g_l g_i g_s a):=by
 refine FVc.of (has_E0 g_n g_l g_i g_s a ty0 ty1 ty2 ty3) (has_q g_n g_l g_i g_s a ty0 ty1 ty2 ty3) ?_
 unfold has_E0
 simp only [eq_self,exists_const,forall_const,ne_eq,Int.toNat_natCast,zSS,z08]
 by_cases h:0 <= a <;> simp [h] <;> omega
theorem has_ok:SpecOk Tryz.prog has_n true (z02 true has_fs) :=
 z09 z0i (show z15 Tryz.prog has_g from z03) (by kernel_rfl) mixedOrders Tryz.func140 rfl rfl (by kernel_rfl) (n:=2) (by decide +kernel) (I:=has_IA) (fun _ _=>z07) (A:=has_A)
  (fun args h r hr=>by
   unfold has_fs at hr
   split at hr
   ·rename_i a ty0 g_n ty1 g_l ty2 g_i ty3 g_s; cases hr; refine ⟨rfl,fun hp=>?_⟩; have hE:=has_E g_n g_l g_i g_s a ty0 ty1 ty2 ty3 hp; exact hE
   ·cases hr)
def GArc_E0 (g_n : Int) (g_l : List Arc) (g_i : List Int) (g_s : List Int) (a : Int) (ty0 ty1 ty2 ty3 : TypeId) : Prop :=
      (false=true ->
 ((((0:Int)=(z2c g_n g_l a).src /\
 (0:Int)=(z2c g_n g_l a).dst/\(0:Int)=(z2c g_n g_l a).low/\(0:Int)=(z2c g_n g_l a).cap/\(0:Int)=(z2c g_n g_l a).cost/\True) /\
 false=gOk g_n g_l a/\True) /\
 True) /\
 True) /\
 (false=false ->
 (decide (a<(0:Int))=true ->
 ((((0:Int)=(z2c g_n g_l a).src /\
 (0:Int)=(z2c g_n g_l a).dst/\(0:Int)=(z2c g_n g_l a).low/\(0:Int)=(z2c g_n g_l a).cap/\(0:Int)=(z2c g_n g_l a).cost/\True) /\
 false=gOk g_n g_l a/\True) /\
 True) /\
 True) /\
 (decide (a<(0:Int))=false ->
 (decide (a ≥ (↑g_l.length:Int))=true ->
 ((((0:Int)=(z2c g_n g_l a).src /\
 (0:Int)=(z2c g_n g_l a).dst/\(0:Int)=(z2c g_n g_l a).low/\(0:Int)=(z2c g_n g_l a).cap/\(0:Int)=(z2c g_n g_l a).cost/\True) /\
 false=gOk g_n g_l a/\True) /\
 True) /\
 True) /\
 (decide (a ≥ (↑g_l.length:Int))=false ->
 ((0:Int) <= a/\a<(↑g_l.length:Int)) /\
 a.toNat<g_l.length /\
 ∀ (x:Arc),
 g_l[a.toNat]? = some x ->
 True /\
 ((!(decide ((0:Int) <= x.src) && decide (x.src<g_n)))=true ->
 ((((0:Int)=(z2c g_n g_l a).src /\
 (0:Int)=(z2c g_n g_l a).dst /\
 (0:Int)=(z2c g_n g_l a).low/\(0:Int)=(z2c g_n g_l a).cap/\(0:Int)=(z2c g_n g_l a).cost/\True) /\
 false=gOk g_n g_l a/\True) /\
 True) /\
 True) /\
 ((!(decide ((0:Int) <= x.src) && decide (x.src<g_n)))=false ->
 True /\
 ((!(decide ((0:Int) <= x.dst) && decide (x.dst<g_n)))=true ->
 ((((0:Int)=(z2c g_n g_l a).src /\
 (0:Int)=(z2c g_n g_l a).dst /\
 (0:Int)=(z2c g_n g_l a).low/\(0:Int)=(z2c g_n g_l a).cap/\(0:Int)=(z2c g_n g_l a).cost/\True) /\
 false=gOk g_n g_l a/\True) /\
 True) /\
 True) /\
 ((!(decide ((0:Int) <= x.dst) && decide (x.dst<g_n)))=false ->
 (((x.src=(z2c g_n g_l a).src /\
 x.dst=(z2c g_n g_l a).dst/\x.low=(z2c g_n g_l a).low/\x.cap=(z2c g_n g_l a).cap/\x.cost=(z2c g_n g_l a).cost/\True) /\
 true=gOk g_n g_l a/\True) /\
 True) /\
 True)))))
theorem GArc_q (g_n:Int) (g_l:List Arc) (g_i:List Int) (g_s:List Int) (a:Int) (ty0 ty1 ty2 ty3:TypeId):GArc_E0 g_n g_l g_i g_s a ty0 ty1 ty2 ty3=z23 TT GArc_g (GArc_I g_n g_l g_i g_s a) (GArc_an g_n g_l g_i g_s a) Tryz.f83 [.ptr 0 0 0 0,.int .i64 a] [(0,.box false ty0 [.int .i64 g_n,.row 1,.row 2,.row 3]),(1,.row false ty1 (.arcs g_l)),(2,.row false ty2 (.ints .i64 g_i)),(3,.row false ty3 (.ints .i64 g_s))] (GArc_r g_n g_l g_i g_s a):=by kernel_rfl
theorem GArc_E (g_n:Int) (g_l:List Arc) (g_i:List Int) (g_s:List Int) (a:Int) (ty0 ty1 ty2 ty3:TypeId) (hp:True):FVc TT GArc_g (GArc_I g_n g_l g_i g_s a) (GArc_an g_n g_l g_i g_s a) Tryz.f83 [.ptr 0 0 0 0,.int .i64 a] [(0,.box false ty0 [.int .i64 g_n,.row 1,.row 2,.row 3]),(1,.row false ty1 (.arcs g_l)),(2,.row false ty2 (.ints .i64 g_i)),(3,.row false ty3 (.ints .i64 g_s))] (GArc_r g_n g_l g_i g_s a):=by
 refine FVc.of (GArc_E0 g_n g_l g_i g_s a ty0 ty1 ty2 ty3) (GArc_q g_n g_l g_i g_s a ty0 ty1 ty2 ty3) ?_
 unfold GArc_E0
 simp only [eq_self,exists_const,forall_const,ne_eq,Int.toNat_natCast,zSS,z08]
 refine ⟨fun h=>(by cases h),fun h=>?_,fun h=>⟨fun h2=>?_,fun h2=>⟨by omega,by omega,fun x hx=>?_⟩⟩⟩
 ·simp [gArc_out (n:=g_n) (l:=g_l) (.inl h),zbp (n:=g_n) (l:=g_l) (.inl h)]
 ·simp [gArc_out (n:=g_n) (l:=g_l) (.inr h2),zbp (n:=g_n) (l:=g_l) (.inr h2)]
 ·rw [zb7 (by omega) hx,gArc_at (by omega) hx]
  have e:z34 g_n x=((decide (0 <= x.src) && decide (x.src<g_n)) && (decide (0 <= x.dst) && decide (x.dst<g_n))):=rfl
  refine ⟨fun h3=>?_,fun h3=>⟨fun h4=>?_,fun h4=>?_⟩⟩
  ·simp [e,h3]
  ·simp [e,h3,h4]
  ·simp [e,h3,h4]
theorem GArc_ok:SpecOk Tryz.prog GArc_n true (z02 true GArc_fs) :=
 z09 z0i (show z15 Tryz.prog GArc_g from z00 has_ok (z03)) (by kernel_rfl) mixedOrders Tryz.func83 rfl rfl (by kernel_rfl) (n:=2) (by decide +kernel) (I:=GArc_IA) (fun _ _=>z07) (A:=GArc_A)
  (fun args h r hr=>by
   unfold GArc_fs at hr
   split at hr
   ·rename_i a ty0 g_n ty1 g_l ty2 g_i ty3 g_s; cases hr; refine ⟨rfl,fun hp=>?_⟩; have hE:=GArc_E g_n g_l g_i g_s a ty0 ty1 ty2 ty3 hp; exact hE
   ·cases hr)
def zih (l : List Int) (ty0 : TypeId) : Prop :=
      ∀ (b:Bool),
 ((0:Nat)<l.length->b=false)->(b=true->(True/\True)/\[]=l/\True)/\(b=false->(0:Nat)+l.length <= (1000000000:Nat)/\(True/\True)/\l=l/\True)
theorem CloneI_q (l:List Int) (ty0:TypeId):zih l ty0=z23 TT CloneI_g (CloneI_I l) (CloneI_an l) Tryz.f84 [.row 0] [(0,.row false ty0 (.ints .i64 l))] (CloneI_r l):=by kernel_rfl
theorem CloneI_E (l:List Int) (ty0:TypeId) (hp:l.length <= 1000000000):FVc TT CloneI_g (CloneI_I l) (CloneI_an l) Tryz.f84 [.row 0] [(0,.row false ty0 (.ints .i64 l))] (CloneI_r l):=by
 refine FVc.of (zih l ty0) (CloneI_q l ty0) ?_
 unfold zih
 simp only [eq_self,exists_const,forall_const,ne_eq,Int.toNat_natCast,zSS,z08]
 refine fun b hb=>⟨fun h=>?_,fun h=>by omega⟩
 have:l=[]:=by
  cases l with
  | nil=>rfl
  | cons y l=>have:=hb (by simp); rw [h] at this; cases this
 rw [this]
theorem CloneI_ok:SpecOk Tryz.prog CloneI_n true (z02 true zii) :=
 z09 z0i (show z15 Tryz.prog CloneI_g from z03) (by kernel_rfl) mixedOrders Tryz.func84 rfl rfl (by kernel_rfl) (n:=1) (by decide +kernel) (I:=CloneI_IA) (fun _ _=>z07) (A:=CloneI_A)
  (fun args h r hr=>by
   unfold zii at hr
   split at hr
   ·rename_i ty0 l; cases hr; refine ⟨rfl,fun hp=>?_⟩; have hE:=CloneI_E l ty0 hp; exact hE
   ·cases hr)
theorem put_ok:SpecOk Tryz.prog put_n false put_spec :=
 z7d z0i (show z15 Tryz.prog put_g from z03) (by kernel_rfl) mixedOrders Tryz.func85 rfl rfl (by kernel_rfl) _
abbrev z8w (I:Inst) (g:Nat):=(IntKind.i64.wrap ((2:Int) * (z2c (↑I.sup.length:Int) I.arcs (↑g:Int)).src)+(0:Int))
abbrev zb1 (I:Inst) (g:Nat):=(IntKind.i64.wrap ((2:Int) * (z2c (↑I.sup.length:Int) I.arcs (↑g:Int)).dst)+(1:Int))
abbrev ziy (I:Inst):=((↑I.sup.length:Int)=↑I.sup.length/\(True/\(True/\(True/\True))))
abbrev zgt (I:Inst) (g:Nat) (x_1:Int):=((N3 I g).set (IntKind.i64.wrap (z8w I g)).toNat (IntKind.i64.wrap (x_1+(1:Int))))
abbrev ziz (I:Inst) (g:Nat) (x:Int):=((S1 I g).set (IntKind.i64.wrap (IntKind.i64.wrap (z8w I g)+(1:Int))).toNat (IntKind.i64.wrap (x+(1:Int))))
abbrev New_a5 (I:Inst) (g:Nat) (g':Nat):=((↑I.arcs.length:Int)=↑I.arcs.length/\(IntKind.i64.wrap ((↑g:Int)+(1:Int))=(↑g':Int)/\True))
abbrev New_a6 (I:Inst):=((0=0/\True)/\((ziy I)/\(z9h Int/\(I.arcs=I.arcs/\True))))
abbrev New_a7 (I:Inst):=(∃ (g:Unit),True/\((0=0/\True)/\((0=0/\True)/\((ziy I)/\(z9h Int/\(z9h Int/\(I.arcs=I.arcs/\True)))))))
abbrev New_a8 (I:Inst):=(IntKind.i64.wrap ((2:Int) * (↑I.sup.length:Int))+(1:Int))
abbrev zcn (I:Inst) (g:Nat):=(IntKind.i64.wrap (zb1 I g)+(1:Int))
abbrev New_a10 (I:Inst) (g:Nat):=((0:Int) <= IntKind.i64.wrap (z8w I g)/\(IntKind.i64.wrap (z8w I g)<(↑(N3 I g).length:Int)))
abbrev z8x (I:Inst) (g:Nat):=(IntKind.i64.wrap (z8w I g)+(1:Int))
abbrev New_a12 (I:Inst) (g:Nat) (x_1:Int):=((0:Int) <= IntKind.i64.wrap (zb1 I g)/\(IntKind.i64.wrap (zb1 I g)<(↑(zgt I g x_1).length:Int)))
abbrev New_a13 (g:Nat) (I:Inst):=((0:Int) <= IntKind.i64.wrap ((↑g:Int)+(1:Int))/\(IntKind.i64.wrap ((↑g:Int)+(1:Int))<(↑(S2 I g).length:Int)))
def New_E0 (I : Inst) (ty0 ty1 : TypeId) : Prop :=
   (((I.sup.length <= (1000000000:Nat)/\(I.arcs.length <= (1000000000:Nat)))/\((New_a7 I)/\(New_a7 I)))/\((I.sup.length <= (1000000000:Nat)/\(I.arcs.length <= (1000000000:Nat)))/\(New_a7 I)))/\∀ (g:Unit),True->(IntKind.i64.wrap (New_a8 I)=IntKind.i64.wrap (New_a8 I)/\((0:Int) <= IntKind.i64.wrap (New_a8 I)/\(IntKind.i64.wrap (New_a8 I) <= (1000000000:Int))))/\∃ (g0:Nat),(g0 <= I.arcs.length/\((0=0/\((↑I.arcs.length:Int)=↑I.arcs.length/\((0:Int)=↑g0/\True)))/\(List.replicate (IntKind.i64.wrap (New_a8 I)).toNat (0:Int)=S1 I g0/\(New_a6 I))))/\∀ (g:Nat),g <= I.arcs.length->(decide ((↑g:Int)<↑I.arcs.length)=true->True/\(gOk (↑I.sup.length:Int) I.arcs (↑g:Int)=true->((0:Int) <= IntKind.i64.wrap (z8x I g)/\(IntKind.i64.wrap (z8x I g)<(↑(S1 I g).length:Int)))/\(IntKind.i64.wrap (z8x I g)).toNat<(S1 I g).length/\∀ (x:Int),(S1 I g)[(IntKind.i64.wrap (z8x I g)).toNat]? = some x->((0:Int) <= IntKind.i64.wrap (z8x I g)/\(IntKind.i64.wrap (z8x I g)<(↑(S1 I g).length:Int)))/\(IntKind.i64.wrap (z8x I g)).toNat<(S1 I g).length/\((0:Int) <= IntKind.i64.wrap (zcn I g)/\(IntKind.i64.wrap (zcn I g)<(↑(ziz I g x).length:Int)))/\((IntKind.i64.wrap (zcn I g)).toNat<(ziz I g x).length/\(∀ (x_1:Int),(ziz I g x)[(IntKind.i64.wrap (zcn I g)).toNat]? = some x_1->((0:Int) <= IntKind.i64.wrap (zcn I g)/\(IntKind.i64.wrap (zcn I g)<(↑(ziz I g x).length:Int)))/\((IntKind.i64.wrap (zcn I g)).toNat<(ziz I g x).length/\(∃ (g':Nat),g' <= I.arcs.length/\(I.arcs.length - g'<I.arcs.length - g/\((0=0/\(New_a5 I g g'))/\((ziz I g x).set (IntKind.i64.wrap (zcn I g)).toNat (IntKind.i64.wrap (x_1+(1:Int)))=S1 I g'/\(New_a6 I)))))))))/\(gOk (↑I.sup.length:Int) I.arcs (↑g:Int)=false->∃ (g':Nat),g' <= I.arcs.length/\(I.arcs.length - g'<I.arcs.length - g/\((0=0/\(New_a5 I g g'))/\(S1 I g=S1 I g'/\(New_a6 I))))))/\(decide ((↑g:Int)<↑I.arcs.length)=false->∃ (g0:Nat),(g0 <= (2:Nat) * I.sup.length/\((0=0/\(IntKind.i64.wrap ((2:Int) * (↑I.sup.length:Int))=(↑((2:Nat) * I.sup.length):Int)/\((0:Int)=↑g0/\True)))/\(S1 I g=S2 I g0/\(New_a6 I))))/\∀ (g:Nat),g <= (2:Nat) * I.sup.length->(decide ((↑g:Int)<↑((2:Nat) * I.sup.length))=true->(New_a13 g I)/\((IntKind.i64.wrap ((↑g:Int)+(1:Int))).toNat<(S2 I g).length/\(∀ (x:Int),(S2 I g)[(IntKind.i64.wrap ((↑g:Int)+(1:Int))).toNat]? = some x->((0:Int) <= ↑g/\((↑g:Int)<↑(S2 I g).length))/\((↑g:Int).toNat<(S2 I g).length/\(∀ (x_1:Int),(S2 I g)[(↑g:Int).toNat]? = some x_1->(New_a13 g I)/\((IntKind.i64.wrap ((↑g:Int)+(1:Int))).toNat<(S2 I g).length/\(∃ (g':Nat),g' <= (2:Nat) * I.sup.length/\((2:Nat) * I.sup.length - g'<(2:Nat) * I.sup.length - g/\((0=0/\((↑((2:Nat) * I.sup.length):Int)=↑((2:Nat) * I.sup.length)/\(IntKind.i64.wrap ((↑g:Int)+(1:Int))=(↑g':Int)/\True)))/\((S2 I g).set (IntKind.i64.wrap ((↑g:Int)+(1:Int))).toNat (IntKind.i64.wrap (x+x_1))=S2 I g'/\(New_a6 I)))))))))))/\(decide ((↑g:Int)<↑((2:Nat) * I.sup.length))=false->((0:Int) <= IntKind.i64.wrap ((2:Int) * (↑I.sup.length:Int))/\(IntKind.i64.wrap ((2:Int) * (↑I.sup.length:Int))<(↑(S2 I g).length:Int)))/\(IntKind.i64.wrap ((2:Int) * (↑I.sup.length:Int))).toNat<(S2 I g).length/\∀ (x:Int),(S2 I g)[(IntKind.i64.wrap ((2:Int) * (↑I.sup.length:Int))).toNat]? = some x->(x=x/\((0:Int) <= x/\(x <= (1000000000:Int))))/\(S2 I g).length <= (1000000000:Nat)/\∃ (g0:Nat),(g0 <= I.arcs.length/\((0=0/\((0=0/\(0=0/\True))/\((↑I.arcs.length:Int)=↑I.arcs.length/\((0:Int)=↑g0/\True))))/\((True/\True)/\(S2 I g=N3 I g0/\(List.replicate x.toNat (0:Int)=L3 I g0/\(S2 I g=z11 I/\((0=0/\True)/\((ziy I)/\(I.arcs=I.arcs/\True)))))))))/\∀ (g:Nat),g <= I.arcs.length->(decide ((↑g:Int)<↑I.arcs.length)=true->True/\(gOk (↑I.sup.length:Int) I.arcs (↑g:Int)=true->(New_a10 I g)/\(IntKind.i64.wrap (z8w I g)).toNat<(N3 I g).length/\∀ (x:Int),(N3 I g)[(IntKind.i64.wrap (z8w I g)).toNat]? = some x->((0:Int) <= x/\(x<(↑(L3 I g).length:Int)))/\x.toNat<(L3 I g).length/\(New_a10 I g)/\(IntKind.i64.wrap (z8w I g)).toNat<(N3 I g).length/\∀ (x_1:Int),(N3 I g)[(IntKind.i64.wrap (z8w I g)).toNat]? = some x_1->(New_a10 I g)/\(IntKind.i64.wrap (z8w I g)).toNat<(N3 I g).length/\(New_a12 I g x_1)/\(IntKind.i64.wrap (zb1 I g)).toNat<(zgt I g x_1).length/\∀ (x_2:Int),(zgt I g x_1)[(IntKind.i64.wrap (zb1 I g)).toNat]? = some x_2->((0:Int) <= x_2/\(x_2<(↑((L3 I g).set x.toNat (↑g:Int)).length:Int)))/\x_2.toNat<((L3 I g).set x.toNat (↑g:Int)).length/\(New_a12 I g x_1)/\((IntKind.i64.wrap (zb1 I g)).toNat<(zgt I g x_1).length/\(∀ (x_3:Int),(zgt I g x_1)[(IntKind.i64.wrap (zb1 I g)).toNat]? = some x_3->(New_a12 I g x_1)/\((IntKind.i64.wrap (zb1 I g)).toNat<(zgt I g x_1).length/\(∃ (g':Nat),g' <= I.arcs.length/\(I.arcs.length - g'<I.arcs.length - g/\((0=0/\((0=0/\(0=0/\True))/\(New_a5 I g g')))/\((True/\True)/\((zgt I g x_1).set (IntKind.i64.wrap (zb1 I g)).toNat (IntKind.i64.wrap (x_3+(1:Int)))=N3 I g'/\(((L3 I g).set x.toNat (↑g:Int)).set x_2.toNat (↑g:Int)=L3 I g'/\(z11 I=z11 I/\((0=0/\True)/\((ziy I)/\(I.arcs=I.arcs/\True))))))))))))))/\(gOk (↑I.sup.length:Int) I.arcs (↑g:Int)=false->∃ (g':Nat),g' <= I.arcs.length/\(I.arcs.length - g'<I.arcs.length - g/\((0=0/\((0=0/\(0=0/\True))/\(New_a5 I g g')))/\((True/\True)/\(N3 I g=N3 I g'/\(L3 I g=L3 I g'/\(z11 I=z11 I/\((0=0/\True)/\((ziy I)/\(I.arcs=I.arcs/\True)))))))))))/\(decide ((↑g:Int)<↑I.arcs.length)=false->(0=0/\True)/\((ziy I)/\(I.arcs=I.arcs/\(L3 I g=z2j I/\(z11 I=z11 I/\True)))))))
theorem New_q (I:Inst) (ty0 ty1:TypeId):New_E0 I ty0 ty1=z23 TT New_g (New_I I) (New_an I) Tryz.f50 [.agg [.row 0,.row 1]] [(0,.row false ty0 (.ints .i64 I.sup)),(1,.row false ty1 (.arcs I.arcs))] (New_r I):=by kernel_rfl
theorem New_E (I:Inst) (ty0 ty1:TypeId) (hp:I.sup.length <= 10000/\I.arcs.length <= 10000):FVc TT New_g (New_I I) (New_an I) Tryz.f50 [.agg [.row 0,.row 1]] [(0,.row false ty0 (.ints .i64 I.sup)),(1,.row false ty1 (.arcs I.arcs))] (New_r I):=by
 refine FVc.of (New_E0 I ty0 ty1) (New_q I ty0 ty1) ?_
 unfold New_E0
 delta New_a13 New_a12 z8x New_a10 zcn New_a8 New_a7 New_a6 New_a5 ziz zgt ziy zb1 z8w
 simp only [eq_self,exists_const,forall_const,ne_eq,Int.toNat_natCast,zSS,z08]
 obtain ⟨p1,p2⟩:=hp
 have e1:IntKind.i64.wrap (2 * (I.sup.length:Int))=((2 * I.sup.length:Nat):Int):=by rw [w64 (by omega) (by omega)]; omega
 have e2:IntKind.i64.wrap (((2 * I.sup.length:Nat):Int)+1)=((2 * I.sup.length+1:Nat):Int):=by rw [w64 (by omega) (by omega)]; omega
 simp only [e1,e2,Int.toNat_natCast,show ∀ k,(S1 I k).length=2 * I.sup.length+1 from fun k=>by simp [S1],show ∀ k,(S2 I k).length=2 * I.sup.length+1 from fun k=>by simp [S2],show ∀ k,(N3 I k).length=2 * I.sup.length+1 from fun k=>by simp [N3],List.length_set]
 have hL3:∀ k,k <= I.arcs.length->(L3 I k).length=z8t I (2 * I.sup.length):=fun k hk=>zkv I (fun t=>zia hk t) _
 have hs1:∀ (k j:Nat) (v:Int),(S1 I k)[j]? = some v->k <= I.arcs.length->0 <= v/\v <= 10000:=fun k j v h hk=>by
  have e:=S1_get h
  subst e
  have:=z94 I (j - 1) k
  split <;> omega
 have hsum:∀ k,k <= 2 * I.sup.length->z8t I k <= 200000000:=fun k hk=>by
  have h1:=z9z I k (2 * I.sup.length - k)
  rw [show k+(2 * I.sup.length - k)=2 * I.sup.length by omega] at h1
  have h2:=sumA_le I (2 * I.sup.length)
  have h3:2 * I.sup.length * I.arcs.length <= 20000 * 10000:=Nat.mul_le_mul (by omega) p2
  omega
 have arcs:∀ k:Nat,k<I.arcs.length->∃ a,I.arcs[k]? = some a/\gOk I.sup.length I.arcs k=z34 I.sup.length a/\(z34 I.sup.length a=true->z2c I.sup.length I.arcs k=a):=fun k hk=>by
  have ha:I.arcs[k]? = some I.arcs[k]:=List.getElem?_eq_getElem hk
  exact ⟨_,ha,zb7 (by omega) (by simpa using ha),fun ho=>by rw [gArc_at (x:=I.arcs[k]) (by omega) (by simpa using ha),if_pos ho]⟩
 refine ⟨by omega,by omega,0,⟨by omega,rfl,by rw [S1_zero]⟩,fun k hk=>⟨fun h1=>?_,fun h1=>?_⟩⟩
 ·obtain ⟨a,ha,hgo,hga⟩:=arcs k (by omega)
  rw [hgo]
  refine ⟨fun ho=>?_,fun ho=>⟨k+1,by omega,by omega,w64 (by omega) (by omega),S1_same ha ho⟩⟩
  rw [hga ho]
  obtain ⟨o1,o2,o3,o4⟩:=okArc_iff.1 ho
  have f1:IntKind.i64.wrap (IntKind.i64.wrap (IntKind.i64.wrap (2 * a.src)+0)+1)=2 * a.src+1:=by rw [w64 (x:=2 * a.src) (by omega) (by omega),w64 (x:=2 * a.src+0) (by omega) (by omega),w64 (by omega) (by omega)]; omega
  have f2:IntKind.i64.wrap (IntKind.i64.wrap (IntKind.i64.wrap (2 * a.dst)+1)+1)=2 * a.dst+2:=by rw [w64 (x:=2 * a.dst) (by omega) (by omega),w64 (x:=2 * a.dst+1) (by omega) (by omega),w64 (by omega) (by omega)]; omega
  rw [f1,f2]
  refine ⟨by omega,by omega,fun x hx=>?_⟩
  have bx:=hs1 k _ x hx hk
  rw [w64 (x:=x+1) (by omega) (by omega)]
  refine ⟨by omega,by omega,by omega,by omega,fun y hy=>?_⟩
  have hstep:=S1_step ha ho hx hy
  have by':0 <= y/\y <= 10001:=by
   rw [List.getElem?_set] at hy
   split at hy
   ·split at hy
    ·cases hy; omega
    ·cases hy
   ·have:=hs1 k _ y hy hk; omega
  rw [w64 (x:=y+1) (by omega) (by omega)]
  exact ⟨by omega,by omega,k+1,by omega,by omega,w64 (by omega) (by omega),hstep⟩
 have hk':k=I.arcs.length:=by omega
 refine ⟨0,⟨by omega,⟨trivial,rfl⟩,by rw [hk',S1_S2]⟩,fun k2 hk2=>⟨fun h2=>?_,fun h2=>?_⟩⟩
 ·have f:IntKind.i64.wrap ((k2:Int)+1)=((k2+1:Nat):Int):=by rw [w64 (by omega) (by omega)]; omega
  simp only [f,Int.toNat_natCast]
  refine ⟨by omega,by omega,fun x hx=>⟨by omega,by omega,fun y hy=>⟨by omega,by omega,k2+1,by omega,by omega,rfl,?_⟩⟩⟩
  have hstep:=S2_step (by omega) hx hy
  have ex:=S2_get hx
  have ey:=S2_get hy
  rw [if_neg (by omega)] at ex
  rw [if_pos (by omega)] at ey
  have c1:=z94 I (k2+1 - 1) I.arcs.length
  have c2:=hsum k2 hk2
  rw [w64 (by omega) (by omega),hstep]
 have hk2':k2=2 * I.sup.length:=by omega
 subst hk2'
 rw [S2_end]
 have hstart:(z11 I).length=2 * I.sup.length+1:=by simp [z11]
 refine ⟨by omega,by omega,fun x hx=>?_⟩
 have ex:=startF_get hx
 have bx:=hsum (2 * I.sup.length) (by omega)
 subst ex
 refine ⟨by omega,by omega,0,⟨by omega,rfl,startF_N3 I,by rw [L3_zero]; simp,rfl⟩,fun m hm=>⟨fun h3=>?_,fun h3=>?_⟩⟩
 ·obtain ⟨a,ha,hgo,hga⟩:=arcs m (by omega)
  have hml:m<I.arcs.length:=by omega
  rw [hgo]
  refine ⟨fun ho=>?_,fun ho=>?_⟩
  ·rw [hga ho]
   obtain ⟨o1,o2,o3,o4⟩:=okArc_iff.1 ho
   have f1:IntKind.i64.wrap (IntKind.i64.wrap (2 * a.src)+0)=((2 * a.src).toNat:Int):=by rw [w64 (x:=2 * a.src) (by omega) (by omega),w64 (by omega) (by omega)]; omega
   have f2:IntKind.i64.wrap (IntKind.i64.wrap (2 * a.dst)+1)=((2 * a.dst+1).toNat:Int):=by rw [w64 (x:=2 * a.dst) (by omega) (by omega),w64 (by omega) (by omega)]; omega
   obtain ⟨P,hP⟩:∃ P,P=(2 * a.src).toNat:=⟨_,rfl⟩
   obtain ⟨Q,hQ⟩:∃ Q,Q=(2 * a.dst+1).toNat:=⟨_,rfl⟩
   rw [f1,f2,<- hP,<- hQ]
   simp only [Int.toNat_natCast]
   have hne:Q ≠ P:=by omega
   have hPn:P<2 * I.sup.length:=by omega
   have hQn:Q<2 * I.sup.length:=by omega
   have hin:∀ j,inK I j m=true ↔ j=P ∨ j=Q:=fun j=>by
    rw [inK_of ha,ho,Bool.true_and,hasK_iff]; omega
   have iP:=(hin P).2 (.inl rfl)
   have iQ:=(hin Q).2 (.inr rfl)
   have room:∀ j,j<2 * I.sup.length->inK I j m=true->z8t I j+z6x I m j<z8t I (2 * I.sup.length):=fun j hj hi=>by
    have h1:=cntA_lt hml hi
    have h2:=z9z I (j+1) (2 * I.sup.length - (j+1))
    rw [show j+1+(2 * I.sup.length - (j+1))=2 * I.sup.length by omega] at h2
    have h4:z8t I (j+1)=z8t I j+z6x I I.arcs.length j:=rfl
    omega
   have rP:=room P hPn iP
   have rQ:=room Q hQn iQ
   have hl:=hL3 m hm
   have dQ:(fun t=>t == P || (fun _=>false) t) Q=false:=by simp [hne]
   refine ⟨by omega,by omega,fun x hx=>?_⟩
   rw [N3_nP] at hx
   have ex:=nP_get hx rfl
   subst ex
   rw [hl]
   refine ⟨by omega,by omega,by omega,by omega,fun x1 hx1=>?_⟩
   rw [N3_nP] at hx1
   have ex1:=nP_get hx1 rfl
   subst ex1
   rw [w64 (x:=((z8t I P+z6x I m P:Nat):Int)+1) (by omega) (by omega),N3_nP,nP_put iP rfl,L3_segP,Int.toNat_natCast,L3_put hml hPn iP rfl]
   refine ⟨by omega,by omega,by omega,by omega,fun x2 hx2=>?_⟩
   have ex2:=nP_get hx2 dQ
   subst ex2
   refine ⟨by omega,by omega,by omega,by omega,fun x3 hx3=>?_⟩
   have ex3:=nP_get hx3 dQ
   subst ex3
   rw [w64 (x:=((z8t I Q+z6x I m Q:Nat):Int)+1) (by omega) (by omega),nP_put iQ dQ,Int.toNat_natCast,L3_put hml hQn iQ dQ]
   refine ⟨by omega,by omega,m+1,by omega,by omega,w64 (by omega) (by omega),?_,?_⟩
   ·exact nP_done hin
   ·exact L3_done hin
  ·obtain ⟨s1,s2⟩:=N3_same ha ho
   exact ⟨m+1,by omega,by omega,w64 (by omega) (by omega),s1,s2⟩
 ·rw [show m=I.arcs.length by omega,L3_end]
theorem New_ok:SpecOk Tryz.prog New_n true (z02 true New_fs) :=
 z09 z0i (show z15 Tryz.prog New_g from z00 Copy_ok (z00 GArc_ok (z00 CloneI_ok (z00 put_ok (z03))))) (by kernel_rfl) mixedOrders Tryz.func50 rfl rfl (by kernel_rfl) (n:=1) (by decide +kernel) (I:=New_IA) (fun _ _=>z07) (A:=New_A)
  (fun args h r hr=>by
   unfold New_fs at hr
   split at hr
   ·rename_i ty0 I_s ty1 I_a; cases hr; refine ⟨rfl,fun hp=>?_⟩; have hE:=New_E ⟨I_s,I_a⟩ ty0 ty1 hp; exact hE
   ·cases hr)
def along_E0 (x : List Int) (a : Int) (ty0 : TypeId) : Prop :=
      (decide (a ≥ (↑x.length:Int))=true->((0:Int)=x.getD a.toNat (0:Int)/\True)/\True) /\
 (decide (a ≥ (↑x.length:Int))=false ->
 ((0:Int) <= a/\a<(↑x.length:Int))/\a.toNat<x.length/\∀ (x_1:Int),x[a.toNat]? = some x_1->(x_1=x.getD a.toNat (0:Int)/\True)/\True)
theorem along_q (x:List Int) (a:Int) (ty0:TypeId):along_E0 x a ty0=z23 TT along_g (along_I x a) (along_an x a) Tryz.f52 [.row 0,.int .i64 a] [(0,.row false ty0 (.ints .i64 x))] (along_r x a):=by kernel_rfl
theorem along_E (x:List Int) (a:Int) (ty0:TypeId) (hp:0 <= a):FVc TT along_g (along_I x a) (along_an x a) Tryz.f52 [.row 0,.int .i64 a] [(0,.row false ty0 (.ints .i64 x))] (along_r x a):=by
 refine FVc.of (along_E0 x a ty0) (along_q x a ty0) ?_
 unfold along_E0
 simp only [eq_self,exists_const,forall_const,ne_eq,Int.toNat_natCast,zSS,z08]
 refine ⟨fun h=>?_,fun h=>⟨by omega,by omega,fun y hy=>by simp [List.getD,hy]⟩⟩
 simp [List.getD,show ¬ a.toNat<x.length by omega]
theorem along_ok:SpecOk Tryz.prog along_n true (z02 true zhq) :=
 z09 z0i (show z15 Tryz.prog along_g from z03) (by kernel_rfl) mixedOrders Tryz.func52 rfl rfl (by kernel_rfl) (n:=2) (by decide +kernel) (I:=along_IA) (fun _ _=>z07) (A:=along_A)
  (fun args h r hr=>by
   unfold zhq at hr
   split at hr
   ·rename_i a ty0 x; cases hr; refine ⟨rfl,fun hp=>?_⟩; have hE:=along_E x a ty0 hp; exact hE
   ·cases hr)
def fit_E0 (x : Arc) (n : Int) : Prop :=
      (decide (n ≥ x.low)=true ->
 ((x.cap == (4611686018427387904:Int))=true->(true=zhu x n/\True)/\True) /\
 ((x.cap == (4611686018427387904:Int))=false->(decide (n <= x.cap)=zhu x n/\True)/\True)) /\
 (decide (n ≥ x.low)=false->(false=zhu x n/\True)/\True)
theorem fit_q (x:Arc) (n:Int):fit_E0 x n=z23 TT fit_g (fit_I x n) (fit_an x n) Tryz.f74 [.agg (z6f x),.int .i64 n] [] (fit_r x n):=by kernel_rfl
theorem fit_E (x:Arc) (n:Int) (hp:True):FVc TT fit_g (fit_I x n) (fit_an x n) Tryz.f74 [.agg (z6f x),.int .i64 n] [] (fit_r x n):=by
 refine FVc.of (fit_E0 x n) (fit_q x n) ?_
 unfold fit_E0
 simp only [eq_self,exists_const,forall_const,ne_eq,Int.toNat_natCast,zSS,z08]
 unfold zhu inf
 refine ⟨fun h=>⟨fun h2=>?_,fun h2=>?_⟩,fun h=>?_⟩
 ·simp [h2]; omega
 ·simp [h2]; omega
 ·simp; omega
theorem fit_ok:SpecOk Tryz.prog fit_n true (z02 true fit_fs) :=
 z09 z0i (show z15 Tryz.prog fit_g from z03) (by kernel_rfl) mixedOrders Tryz.func74 rfl rfl (by kernel_rfl) (n:=2) (by decide +kernel) (I:=fit_IA) (fun _ _=>z07) (A:=fit_A)
  (fun args h r hr=>by
   unfold fit_fs at hr
   split at hr
   ·rename_i x_0 x_1 x_2 x_3 x_4 n; cases hr; refine ⟨rfl,fun hp=>?_⟩; have hE:=fit_E ⟨x_0,x_1,x_2,x_3,x_4⟩ n hp; exact hE
   ·cases hr)
theorem more_ok:SpecOk Tryz.prog more_n false more_spec :=
 z7d z0i (show z15 Tryz.prog more_g from z00 Of_ok (z00 zet (z03))) (by kernel_rfl) mixedOrders Tryz.func86 rfl rfl (by kernel_rfl) _
theorem less_ok:SpecOk Tryz.prog less_n false less_spec :=
 z7d z0i (show z15 Tryz.prog less_g from z00 Of_ok (z00 zho (z03))) (by kernel_rfl) mixedOrders Tryz.func87 rfl rfl (by kernel_rfl) _
theorem flows_ok:SpecOk Tryz.prog flows_n false flows_spec :=
 z7d z0i (show z15 Tryz.prog flows_g from z00 GArc_ok (z00 more_ok (z00 less_ok (z03)))) (by kernel_rfl) mixedOrders Tryz.func51 rfl rfl (by kernel_rfl) _
abbrev ziw (I:Inst) (x:List Int):=(∃ (g:Unit),True/\((True/\(0=0/\(0=0/\True)))/\((True/\(0=0/\True))/\(((↑I.sup.length:Int)=↑I.sup.length/\(True/\(True/\(True/\True))))/\(I.arcs=I.arcs/\(z2j I=z2j I/\(z11 I=z11 I/\(List.replicate (↑I.sup.length:Int).toNat { hi:=(0:Int),lo:=(0:Int):Wide } = List.replicate (↑I.sup.length:Int).toNat { hi:=(0:Int),lo:=(0:Int):Wide }/\((True/\(True/\True))/\(I.sup=I.sup/\(I.arcs=I.arcs/\(x=x/\True))))))))))))
abbrev z5j (I:Inst) (g:Nat):=(z2c (↑I.sup.length:Int) I.arcs (↑g:Int))
abbrev Net_a2 (I:Inst):=((↑I.sup.length:Int)=↑I.sup.length/\((0:Int) <= ↑I.sup.length/\((↑I.sup.length:Int) <= 1000000000)))
abbrev zix (I:Inst) (x:List Int) (g:Nat) (x_1:Wide):=((z61 I x g).set (z5j I g).src.toNat (z3a x_1 (W (x.getD (↑g:Int).toNat (0:Int)))))
abbrev Net_a4 (I:Inst):=(I.sup.length <= (10000:Nat)/\(I.arcs.length <= (10000:Nat)))
abbrev Net_a5 (I:Inst):=((↑I.sup.length:Int)=↑I.sup.length/\(True/\(True/\(True/\True))))
def Net_E0 (I : Inst) (x : List Int) (ty0 ty1 ty2 : TypeId) : Prop :=
   (((Net_a2 I)/\(((Net_a4 I)/\(ziw I x))/\((Net_a4 I)/\(ziw I x))))/\((Net_a4 I)/\(((Net_a2 I)/\(ziw I x))/\((Net_a2 I)/\(ziw I x))))/\(((Net_a2 I)/\((Net_a4 I)/\(ziw I x)))/\((Net_a4 I)/\((Net_a2 I)/\(ziw I x)))))/\∀ (g:Unit),True->∃ (g0:Nat),(g0 <= I.arcs.length/\((True/\(0=0/\((↑I.arcs.length:Int)=↑I.arcs.length/\((0:Int)=↑g0/\True))))/\((True/\(0=0/\True))/\((Net_a5 I)/\(I.arcs=I.arcs/\(z2j I=z2j I/\(z11 I=z11 I/\(List.replicate (↑I.sup.length:Int).toNat { hi:=(0:Int),lo:=(0:Int):Wide } = z61 I x g0/\(x=x/\True)))))))))/\∀ (g:Nat),g <= I.arcs.length->(decide ((↑g:Int)<↑I.arcs.length)=true->(0:Int) <= ↑g/\True/\(gOk (↑I.sup.length:Int) I.arcs (↑g:Int)=true->((0:Int) <= (z5j I g).src/\((z5j I g).src<(↑(z61 I x g).length:Int)))/\((z5j I g).src.toNat<(z61 I x g).length/\(∀ (x_1:Wide),(z61 I x g)[(z5j I g).src.toNat]? = some x_1->I64 (x.getD (↑g:Int).toNat (0:Int))/\((x_1.ok/\((W (x.getD (↑g:Int).toNat (0:Int))).ok))/\(((0:Int) <= (z5j I g).src/\((z5j I g).src<(↑(z61 I x g).length:Int)))/\((z5j I g).src.toNat<(z61 I x g).length/\(((0:Int) <= (z5j I g).dst/\((z5j I g).dst<(↑(zix I x g x_1).length:Int)))/\((z5j I g).dst.toNat<(zix I x g x_1).length/\(∀ (x_2:Wide),(zix I x g x_1)[(z5j I g).dst.toNat]? = some x_2->I64 (x.getD (↑g:Int).toNat (0:Int))/\((x_2.ok/\((W (x.getD (↑g:Int).toNat (0:Int))).ok))/\(((0:Int) <= (z5j I g).dst/\((z5j I g).dst<(↑(zix I x g x_1).length:Int)))/\((z5j I g).dst.toNat<(zix I x g x_1).length/\(∃ (g':Nat),g' <= I.arcs.length/\(I.arcs.length - g'<I.arcs.length - g/\((True/\(0=0/\((↑I.arcs.length:Int)=↑I.arcs.length/\(IntKind.i64.wrap ((↑g:Int)+(1:Int))=(↑g':Int)/\True))))/\((True/\(0=0/\True))/\((Net_a5 I)/\(I.arcs=I.arcs/\(z2j I=z2j I/\(z11 I=z11 I/\((zix I x g x_1).set (z5j I g).dst.toNat (z30 x_2 (W (x.getD (↑g:Int).toNat (0:Int))))=z61 I x g'/\(x=x/\True))))))))))))))))))))))/\(gOk (↑I.sup.length:Int) I.arcs (↑g:Int)=false->∃ (g':Nat),g' <= I.arcs.length/\(I.arcs.length - g'<I.arcs.length - g/\((True/\(0=0/\((↑I.arcs.length:Int)=↑I.arcs.length/\(IntKind.i64.wrap ((↑g:Int)+(1:Int))=(↑g':Int)/\True))))/\((True/\(0=0/\True))/\((Net_a5 I)/\(I.arcs=I.arcs/\(z2j I=z2j I/\(z11 I=z11 I/\(z61 I x g=z61 I x g'/\(x=x/\True)))))))))))/\(decide ((↑g:Int)<↑I.arcs.length)=false->(True/\True)/\(z61 I x g=z5i I x/\True))
theorem Net_q (I:Inst) (x:List Int) (ty0 ty1 ty2:TypeId):Net_E0 I x ty0 ty1 ty2=z23 TT Net_g (Net_I I x) (Net_an I x) Tryz.f16 [.agg [.row 0,.row 1],.row 2] [(0,.row false ty0 (.ints .i64 I.sup)),(1,.row false ty1 (.arcs I.arcs)),(2,.row false ty2 (.ints .i64 x))] (Net_r I x):=by kernel_rfl
theorem Net_E (I:Inst) (x:List Int) (ty0 ty1 ty2:TypeId) (hp:I.sup.length <= 10000/\I.arcs.length <= 10000/\A64 x):FVc TT Net_g (Net_I I x) (Net_an I x) Tryz.f16 [.agg [.row 0,.row 1],.row 2] [(0,.row false ty0 (.ints .i64 I.sup)),(1,.row false ty1 (.arcs I.arcs)),(2,.row false ty2 (.ints .i64 x))] (Net_r I x):=by
 refine FVc.of (Net_E0 I x ty0 ty1 ty2) (Net_q I x ty0 ty1 ty2) ?_
 unfold Net_E0
 delta Net_a5 Net_a4 zix Net_a2 z5j ziw
 simp only [eq_self,exists_const,forall_const,ne_eq,Int.toNat_natCast,zSS,z08]
 obtain ⟨p1,p2,p3⟩:=hp
 simp only [netAt_len,List.length_set]
 refine ⟨by omega,0,⟨by omega,rfl,?_⟩,fun k hk=>⟨fun h1=>?_,fun h1=>?_⟩⟩
 ·unfold z61
  simp only [z3b]
  rw [W_zero]
  simp [List.map_const']
 ·obtain ⟨a,ha⟩:∃ a,I.arcs[k]? = some a:=⟨_,List.getElem?_eq_getElem (by omega)⟩
  have hg:z2c I.sup.length I.arcs k=if z34 I.sup.length a then a else ⟨0,0,0,0,0⟩:=gArc_at (by omega) (by simpa using ha)
  have hgo:gOk I.sup.length I.arcs k=z34 I.sup.length a:=zb7 (by omega) (by simpa using ha)
  have hx:=p3.getD k
  rw [hg,hgo]
  refine ⟨by omega,fun ho=>?_,fun ho=>⟨k+1,by omega,by omega,w64 (by omega) (by omega),netAt_same ha ho⟩⟩
  rw [if_pos ho]
  obtain ⟨o1,o2,o3,o4⟩:=okArc_iff.1 ho
  refine ⟨by omega,by omega,fun p hp=>?_⟩
  obtain ⟨_,hpw⟩:=netAt_get hp
  refine ⟨hx,⟨by rw [hpw]; exact z78 _,z78 _⟩,by omega,by omega,by omega,by omega,fun q hq=>?_⟩
  obtain ⟨q1,q2,q3⟩:=netAt_step ha ho hp hq
  exact ⟨hx,⟨q1,z78 _⟩,by omega,by omega,k+1,by omega,by omega,w64 (by omega) (by omega),q3⟩
 ·rw [show k=I.arcs.length by omega]; rfl
theorem Net_ok:SpecOk Tryz.prog Net_n true (z02 true Net_fs) :=
 z09 z0i (show z15 Tryz.prog Net_g from z00 New_ok (z00 along_ok (z00 flows_ok (z03)))) (by kernel_rfl) mixedOrders Tryz.func16 rfl rfl (by kernel_rfl) (n:=2) (by decide +kernel) (I:=Net_IA) (fun _ _=>z07) (A:=Net_A)
  (fun args h r hr=>by
   unfold Net_fs at hr
   split at hr
   ·rename_i ty0 I_s ty1 I_a ty2 x; cases hr; refine ⟨rfl,fun hp=>?_⟩; have hE:=Net_E ⟨I_s,I_a⟩ x ty0 ty1 ty2 hp; exact hE
   ·cases hr)
def Cost_E0 (I : Inst) (x : List Int) (ty0 ty1 ty2 : TypeId) : Prop :=
      ∃ (g0:Nat),
 (g0 <= I.arcs.length /\
 (True/\(0:Nat)=(0:Nat)/\(0:Nat)=(0:Nat)/\True/\(↑I.arcs.length:Int)=(↑I.arcs.length:Int)/\(0:Int)=(↑g0:Int)/\True) /\
 ((0:Int)=(W (z50 I.arcs x g0)).hi/\(0:Int)=(W (z50 I.arcs x g0)).lo/\True) /\
 ((0:Int)=(0:Int)/\(0:Int)=(0:Int)/\True)/\I.arcs=I.arcs/\x=x/\True) /\
 ∀ (g:Nat),
 g <= I.arcs.length ->
 (decide ((↑g:Int)<(↑I.arcs.length:Int))=true ->
 ((0:Int) <= (↑g:Int)/\(↑g:Int)<(↑I.arcs.length:Int)) /\
 (↑g:Int).toNat<I.arcs.length /\
 ∀ (x_1:Arc),
 I.arcs[(↑g:Int).toNat]? = some x_1 ->
 (0:Int) <= (↑g:Int) /\
 (I64 x_1.cost/\I64 (x.getD (↑g:Int).toNat (0:Int))) /\
 ((W (z50 I.arcs x g)).ok/\(W (x_1.cost * x.getD (↑g:Int).toNat (0:Int))).ok) /\
 ∃ (g':Nat),
 g' <= I.arcs.length /\
 I.arcs.length - g'<I.arcs.length - g /\
 (True /\
 (0:Nat)=(0:Nat) /\
 (0:Nat)=(0:Nat) /\
 True/\(↑I.arcs.length:Int)=(↑I.arcs.length:Int)/\IntKind.i64.wrap ((↑g:Int)+(1:Int))=(↑g':Int)/\True) /\
 ((z3a (W (z50 I.arcs x g)) (W (x_1.cost * x.getD (↑g:Int).toNat (0:Int)))).hi=(W (z50 I.arcs x g')).hi /\
 (z3a (W (z50 I.arcs x g)) (W (x_1.cost * x.getD (↑g:Int).toNat (0:Int)))).lo=(W (z50 I.arcs x g')).lo/\True) /\
 ((0:Int)=(0:Int)/\(0:Int)=(0:Int)/\True)/\I.arcs=I.arcs/\x=x/\True) /\
 (decide ((↑g:Int)<(↑I.arcs.length:Int))=false ->
 (((W (z50 I.arcs x g)).hi=(W (z41 I x)).hi/\(W (z50 I.arcs x g)).lo=(W (z41 I x)).lo/\True)/\True)/\True)
theorem Cost_q (I:Inst) (x:List Int) (ty0 ty1 ty2:TypeId):Cost_E0 I x ty0 ty1 ty2=z23 TT Cost_g (Cost_I I x) (Cost_an I x) Tryz.f38 [.agg [.row 0,.row 1],.row 2] [(0,.row false ty0 (.ints .i64 I.sup)),(1,.row false ty1 (.arcs I.arcs)),(2,.row false ty2 (.ints .i64 x))] (Cost_r I x):=by kernel_rfl
theorem Cost_E (I:Inst) (x:List Int) (ty0 ty1 ty2:TypeId) (hp:A64 x/\zcm I.arcs/\I.arcs.length <= 1000000):FVc TT Cost_g (Cost_I I x) (Cost_an I x) Tryz.f38 [.agg [.row 0,.row 1],.row 2] [(0,.row false ty0 (.ints .i64 I.sup)),(1,.row false ty1 (.arcs I.arcs)),(2,.row false ty2 (.ints .i64 x))] (Cost_r I x):=by
 refine FVc.of (Cost_E0 I x ty0 ty1 ty2) (Cost_q I x ty0 ty1 ty2) ?_
 unfold Cost_E0
 simp only [eq_self,exists_const,forall_const,ne_eq,Int.toNat_natCast,zSS,z08]
 obtain ⟨p1,p2,p3⟩:=hp
 refine ⟨0,⟨by omega,rfl,by simp only [z50,W_zero],by simp only [z50,W_zero]⟩,fun k hk=>⟨fun h1=>⟨by omega,by omega,fun a ha=>?_⟩,fun h1=>?_⟩⟩
 ·have hc:=p2 a (List.mem_of_getElem? ha)
  have hg:I.arcs.getD k default=a:=by simp [List.getD,ha]
  have hx:=p1.getD k
  rw [z8n]
  refine ⟨by omega,⟨hc,hx⟩,⟨z78 _,z78 _⟩,k+1,by omega,by omega,w64 (by omega) (by omega),?_⟩
  rw [show z50 I.arcs x (k+1)=z50 I.arcs x k+a.cost * x.getD k 0 by simp only [z50,hg]]
  exact ⟨rfl,rfl⟩
 ·rw [show k=I.arcs.length by omega]
  exact ⟨rfl,rfl⟩
theorem Cost_ok:SpecOk Tryz.prog Cost_n true (z02 true Cost_fs) :=
 z09 z0i (show z15 Tryz.prog Cost_g from z00 along_ok (z00 Times_ok (z00 zet (z03)))) (by kernel_rfl) mixedOrders Tryz.func38 rfl rfl (by kernel_rfl) (n:=2) (by decide +kernel) (I:=Cost_IA) (fun _ _=>z07) (A:=Cost_A)
  (fun args h r hr=>by
   unfold Cost_fs at hr
   split at hr
   ·rename_i ty0 I_s ty1 I_a ty2 x; cases hr; refine ⟨rfl,fun hp=>?_⟩; have hE:=Cost_E ⟨I_s,I_a⟩ x ty0 ty1 ty2 hp; exact hE
   ·cases hr)
def Fits_E0 (I : Inst) (x : List Int) (ty0 ty1 ty2 : TypeId) : Prop :=
   True/\((z04 I != (0:Int))=true->(z04 I=z0v I x/\True)/\True)/\((z04 I != (0:Int))=false->(((↑x.length:Int) != (↑I.arcs.length:Int))=true->((30:Int)=z0v I x/\True)/\True)/\(((↑x.length:Int) != (↑I.arcs.length:Int))=false->∃ (g0:Nat),((g0 <= I.arcs.length/\(z1h (List.drop g0 I.arcs) (List.drop g0 x)=z1h I.arcs x))/\((True/\(0=0/\(True/\((↑I.arcs.length:Int)=↑I.arcs.length/\((0:Int)=↑g0/\True)))))/\((True/\(True/\True))/\(I.sup=I.sup/\(I.arcs=I.arcs/\(x=x/\True))))))/\∀ (g:Nat),g <= I.arcs.length/\z1h (List.drop g I.arcs) (List.drop g x)=z1h I.arcs x->(decide ((↑g:Int)<↑I.arcs.length)=true->((0:Int) <= ↑g/\((↑g:Int)<↑I.arcs.length))/\((↑g:Int).toNat<I.arcs.length/\(∀ (x_1:Arc),I.arcs[(↑g:Int).toNat]? = some x_1->((0:Int) <= ↑g/\((↑g:Int)<↑x.length))/\((↑g:Int).toNat<x.length/\(∀ (x_2:Int),x[(↑g:Int).toNat]? = some x_2->True/\(((!zhu x_1 x_2)=true->((31:Int)=z0v I x/\True)/\True)/\((!zhu x_1 x_2)=false->∃ (g':Nat),(g' <= I.arcs.length/\(z1h (List.drop g' I.arcs) (List.drop g' x)=z1h I.arcs x))/\(I.arcs.length - g'<I.arcs.length - g/\((True/\(0=0/\(True/\((↑I.arcs.length:Int)=↑I.arcs.length/\(IntKind.i64.wrap ((↑g:Int)+(1:Int))=(↑g':Int)/\True)))))/\((True/\(True/\True))/\(I.sup=I.sup/\(I.arcs=I.arcs/\(x=x/\True)))))))))))))/\(decide ((↑g:Int)<↑I.arcs.length)=false->(I.sup.length <= (10000:Nat)/\(I.arcs.length <= (10000:Nat)/\(A64 x)))/\(∃ (g0:Nat),((g0 <= I.sup.length/\(∀ (v:Nat),v<g0->W (z3b (↑I.sup.length:Int) I.arcs x I.arcs.length (↑v:Int))=W (I.sup.getD v (0:Int))))/\((0=0/\(True/\((↑(z5i I x).length:Int)=↑(z5i I x).length/\((0:Int)=↑g0/\True))))/\(z5i I x=z5i I x/\((True/\(True/\True))/\(I.sup=I.sup/\(I.arcs=I.arcs/\True))))))/\(∀ (g:Nat),(g <= I.sup.length/\(∀ (v:Nat),v<g->W (z3b (↑I.sup.length:Int) I.arcs x I.arcs.length (↑v:Int))=W (I.sup.getD v (0:Int))))->(decide ((↑g:Int)<↑(z5i I x).length)=true->((0:Int) <= ↑g/\((↑g:Int)<↑(z5i I x).length))/\((↑g:Int).toNat<(z5i I x).length/\(∀ (x_1:Wide),(z5i I x)[(↑g:Int).toNat]? = some x_1->((0:Int) <= ↑g/\((↑g:Int)<↑I.sup.length))/\((↑g:Int).toNat<I.sup.length/\(∀ (x_2:Int),I.sup[(↑g:Int).toNat]? = some x_2->I64 x_2/\(((!decide ([x_1.hi,x_1.lo]=[(W x_2).hi,(W x_2).lo]))=true->((32:Int)=z0v I x/\True)/\True)/\((!decide ([x_1.hi,x_1.lo]=[(W x_2).hi,(W x_2).lo]))=false->∃ (g':Nat),(g' <= I.sup.length/\(∀ (v:Nat),v<g'->W (z3b (↑I.sup.length:Int) I.arcs x I.arcs.length (↑v:Int))=W (I.sup.getD v (0:Int))))/\(I.sup.length - g'<I.sup.length - g/\((0=0/\(True/\((↑(z5i I x).length:Int)=↑(z5i I x).length/\(IntKind.i64.wrap ((↑g:Int)+(1:Int))=(↑g':Int)/\True))))/\(z5i I x=z5i I x/\((True/\(True/\True))/\(I.sup=I.sup/\(I.arcs=I.arcs/\True)))))))))))))/\(decide ((↑g:Int)<↑(z5i I x).length)=false->((0:Int)=z0v I x/\True)/\True))))))
theorem Fits_q (I:Inst) (x:List Int) (ty0 ty1 ty2:TypeId):Fits_E0 I x ty0 ty1 ty2=z23 TT Fits_g (Fits_I I x) (Fits_an I x) Tryz.f33 [.agg [.row 0,.row 1],.row 2] [(0,.row false ty0 (.ints .i64 I.sup)),(1,.row false ty1 (.arcs I.arcs)),(2,.row false ty2 (.ints .i64 x))] (Fits_r I x):=by kernel_rfl
theorem Fits_E (I:Inst) (x:List Int) (ty0 ty1 ty2:TypeId) (hp:I.sup.length <= 10000/\I.arcs.length <= 10000/\A64 x/\A64 I.sup):FVc TT Fits_g (Fits_I I x) (Fits_an I x) Tryz.f33 [.agg [.row 0,.row 1],.row 2] [(0,.row false ty0 (.ints .i64 I.sup)),(1,.row false ty1 (.arcs I.arcs)),(2,.row false ty2 (.ints .i64 x))] (Fits_r I x):=by
 refine FVc.of (Fits_E0 I x ty0 ty1 ty2) (Fits_q I x ty0 ty1 ty2) ?_
 unfold Fits_E0
 simp only [eq_self,exists_const,forall_const,ne_eq,Int.toNat_natCast,zSS,z08]
 obtain ⟨p1,p2,p3,p4⟩:=hp
 simp only [zi0]
 refine ⟨fun h=>by simp [z0v,h],fun h1=>⟨fun h2=>?_,fun h2=>⟨0,⟨⟨by omega,by simp⟩,rfl⟩,fun k hk=>⟨fun h3=>⟨by omega,by omega,fun a ha=>⟨by omega,by omega,fun y hy=>?_⟩⟩,fun h3=>?_⟩⟩⟩⟩
 ·have h2':¬ x.length=I.arcs.length:=by omega
  simp [z0v,h1,h2']
 ·have e:=zgy (x:=x) ha
  have hyd:x.getD k 0=y:=by simp [List.getD,hy]
  rw [hk.2,hyd] at e
  have h2':x.length=I.arcs.length:=by omega
  refine ⟨fun h4=>?_,fun h4=>⟨k+1,⟨by omega,?_⟩,by omega,w64 (by omega) (by omega)⟩⟩
  ·rw [h4] at e
   simp only [Bool.false_and] at e
   simp [z0v,h1,h2',e]
  ·rw [e,h4,Bool.true_and]
 ·have h2':x.length=I.arcs.length:=by omega
  have hall:z1h I.arcs x=true:=by rw [<- hk.2,z6z (by omega)]; rfl
  refine ⟨⟨p1,p2,p3⟩,0,⟨⟨by omega,fun v hv=>by omega⟩,rfl⟩,fun j hj=>⟨fun h4=>⟨by omega,by omega,fun w hw=>⟨by omega,by omega,fun z hz=>?_⟩⟩,fun h4=>?_⟩⟩
  ·obtain ⟨_,rfl⟩:=z14 hw
   have hzd:I.sup.getD j 0=z:=by simp [List.getD,hz]
   have hwe:∀ u v:Wide,[u.hi,u.lo]=[v.hi,v.lo] ↔ u=v:=fun u v=>by obtain ⟨u1,u2⟩:=u; obtain ⟨v1,v2⟩:=v; simp
   rw [hwe]
   refine ⟨p4 z (List.mem_of_getElem? hz),fun h5=>?_,fun h5=>⟨j+1,⟨by omega,fun v hv=>?_⟩,by omega,w64 (by omega) (by omega)⟩⟩
   ·have hno:zd5 I x=false:=by
     rw [Bool.eq_false_iff]
     intro h
     unfold zd5 at h
     have:=List.all_eq_true.1 h j (List.mem_range.2 (by omega))
     rw [decide_eq_true_eq,hzd] at this
     exact h5 this
    simp [z0v,h1,h2',hall,hno]
   ·by_cases hvj:v=j
    ·subst hvj; rw [hzd]; exact h5
    ·exact hj.2 v (by omega)
  ·have hno:zd5 I x=true:=by
    unfold zd5
    rw [List.all_eq_true]
    intro v hv
    rw [decide_eq_true_eq]
    exact hj.2 v (by have:=List.mem_range.1 hv; omega)
   simp [z0v,h1,h2',hall,hno]
theorem Fits_ok:SpecOk Tryz.prog Fits_n true (z02 true zit) :=
 z09 z0i (show z15 Tryz.prog Fits_g from z00 zco (z00 fit_ok (z00 Net_ok (z00 Of_ok (z03))))) (by kernel_rfl) mixedOrders Tryz.func33 rfl rfl (by kernel_rfl) (n:=2) (by decide +kernel) (I:=Fits_IA) (fun _ _=>z07) (A:=Fits_A)
  (fun args h r hr=>by
   unfold zit at hr
   split at hr
   ·rename_i ty0 I_s ty1 I_a ty2 x; cases hr; refine ⟨rfl,fun hp=>?_⟩; have hE:=Fits_E ⟨I_s,I_a⟩ x ty0 ty1 ty2 hp; exact hE
   ·cases hr)
def rArc_E0 (I : Inst) (a : Int) (ty0 ty1 : TypeId) : Prop :=
      True /\
 ((!gOk (↑I.sup.length:Int) I.arcs a)=true ->
 ((((0:Int)=(z2c (↑I.sup.length:Int) I.arcs a).src /\
 (0:Int)=(z2c (↑I.sup.length:Int) I.arcs a).dst /\
 (0:Int)=(z2c (↑I.sup.length:Int) I.arcs a).low /\
 (0:Int)=(z2c (↑I.sup.length:Int) I.arcs a).cap/\(0:Int)=(z2c (↑I.sup.length:Int) I.arcs a).cost/\True) /\
 false=gOk (↑I.sup.length:Int) I.arcs a/\True) /\
 True) /\
 True) /\
 ((!gOk (↑I.sup.length:Int) I.arcs a)=false ->
 ((0:Int) <= a/\a<(↑I.arcs.length:Int)) /\
 a.toNat<I.arcs.length /\
 ∀ (x:Arc),
 I.arcs[a.toNat]? = some x ->
 (((x.src=(z2c (↑I.sup.length:Int) I.arcs a).src /\
 x.dst=(z2c (↑I.sup.length:Int) I.arcs a).dst /\
 x.low=(z2c (↑I.sup.length:Int) I.arcs a).low /\
 x.cap=(z2c (↑I.sup.length:Int) I.arcs a).cap/\x.cost=(z2c (↑I.sup.length:Int) I.arcs a).cost/\True) /\
 true=gOk (↑I.sup.length:Int) I.arcs a/\True) /\
 True) /\
 True)
theorem rArc_q (I:Inst) (a:Int) (ty0 ty1:TypeId):rArc_E0 I a ty0 ty1=z23 TT rArc_g (rArc_I I a) (rArc_an I a) Tryz.f141 [.agg [.row 0,.row 1],.int .i64 a] [(0,.row false ty0 (.ints .i64 I.sup)),(1,.row false ty1 (.arcs I.arcs))] (rArc_r I a):=by kernel_rfl
theorem rArc_E (I:Inst) (a:Int) (ty0 ty1:TypeId) (hp:True):FVc TT rArc_g (rArc_I I a) (rArc_an I a) Tryz.f141 [.agg [.row 0,.row 1],.int .i64 a] [(0,.row false ty0 (.ints .i64 I.sup)),(1,.row false ty1 (.arcs I.arcs))] (rArc_r I a):=by
 refine FVc.of (rArc_E0 I a ty0 ty1) (rArc_q I a ty0 ty1) ?_
 unfold rArc_E0
 simp only [eq_self,exists_const,forall_const,ne_eq,Int.toNat_natCast,zSS,z08]
 refine ⟨fun h=>?_,fun h=>?_⟩
 ·unfold z2c
  rw [h]; simp
 ·have hb:0 <= a/\a<(I.arcs.length:Int):=by
   have h':=h
   unfold gOk at h'
   simp only [Bool.and_eq_true,decide_eq_true_eq] at h'
   exact h'.1
  refine ⟨hb,by omega,fun x hx=>?_⟩
  have hg:I.arcs.getD a.toNat default=x:=by simp [List.getD,hx]
  unfold z2c
  rw [h,if_pos rfl,hg]
  simp
theorem rArc_ok:SpecOk Tryz.prog rArc_n true (z02 true rArc_fs) :=
 z09 z0i (show z15 Tryz.prog rArc_g from z00 rfit_ok (z03)) (by kernel_rfl) mixedOrders Tryz.func141 rfl rfl (by kernel_rfl) (n:=2) (by decide +kernel) (I:=rArc_IA) (fun _ _=>z07) (A:=rArc_A)
  (fun args h r hr=>by
   unfold rArc_fs at hr
   split at hr
   ·rename_i a ty0 I_s ty1 I_a; cases hr; refine ⟨rfl,fun hp=>?_⟩; have hE:=rArc_E ⟨I_s,I_a⟩ a ty0 ty1 hp; exact hE
   ·cases hr)
def At_E0 (x : List Int) (a : Int) (ty0 : TypeId) : Prop :=
      (decide (a<(0:Int))=true->(((0:Int)=if (0:Int) <= a then x.getD a.toNat (0:Int) else (0:Int))/\True)/\True) /\
 (decide (a<(0:Int))=false ->
 (decide (a ≥ (↑x.length:Int))=true->(((0:Int)=if (0:Int) <= a then x.getD a.toNat (0:Int) else (0:Int))/\True)/\True) /\
 (decide (a ≥ (↑x.length:Int))=false ->
 ((0:Int) <= a/\a<(↑x.length:Int)) /\
 a.toNat<x.length/\∀ (x_1:Int),x[a.toNat]? = some x_1->((x_1=if (0:Int) <= a then x.getD a.toNat (0:Int) else (0:Int))/\True)/\True))
theorem At_q (x:List Int) (a:Int) (ty0:TypeId):At_E0 x a ty0=z23 TT At_g (At_I x a) (At_an x a) Tryz.f143 [.row 0,.int .i64 a] [(0,.row false ty0 (.ints .i64 x))] (At_r x a):=by kernel_rfl
theorem At_E (x:List Int) (a:Int) (ty0:TypeId) (hp:True):FVc TT At_g (At_I x a) (At_an x a) Tryz.f143 [.row 0,.int .i64 a] [(0,.row false ty0 (.ints .i64 x))] (At_r x a):=by
 refine FVc.of (At_E0 x a ty0) (At_q x a ty0) ?_
 unfold At_E0
 simp only [eq_self,exists_const,forall_const,ne_eq,Int.toNat_natCast,zSS,z08]
 refine ⟨fun h=>by rw [if_neg (by omega)],fun h=>⟨fun h2=>?_,fun h2=>⟨by omega,by omega,fun y hy=>?_⟩⟩⟩
 ·rw [if_pos (by omega)]; simp [List.getD,show ¬ a.toNat<x.length by omega]
 ·rw [if_pos (by omega)]; simp [List.getD,hy]
theorem At_ok:SpecOk Tryz.prog At_n true (z02 true At_fs) :=
 z09 z0i (show z15 Tryz.prog At_g from z03) (by kernel_rfl) mixedOrders Tryz.func143 rfl rfl (by kernel_rfl) (n:=2) (by decide +kernel) (I:=At_IA) (fun _ _=>z07) (A:=At_A)
  (fun args h r hr=>by
   unfold At_fs at hr
   split at hr
   ·rename_i a ty0 x; cases hr; refine ⟨rfl,fun hp=>?_⟩; have hE:=At_E x a ty0 hp; exact hE
   ·cases hr)
abbrev rNet_a0 (I:Inst) (g_1:Nat × Nat) (x:List Int) (g0:Nat × Nat):=(gOk (↑I.sup.length:Int) I.arcs (↑g_1.2:Int)=true->(((z2c (↑I.sup.length:Int) I.arcs (↑g_1.2:Int)).dst == (↑g_1.1:Int))=true->True/\(I64 (if (0:Int) <= (↑g_1.2:Int) then x.getD (↑g_1.2:Int).toNat (0:Int) else (0:Int))/\(((W (z3b (↑I.sup.length:Int) I.arcs x g_1.2 (↑g_1.1:Int))).ok/\((W (if (0:Int) <= (↑g_1.2:Int) then x.getD (↑g_1.2:Int).toNat (0:Int) else (0:Int))).ok))/\(∃ (g':Nat × Nat),(g'.fst<I.sup.length/\(g'.fst=g0.fst/\(g'.snd <= I.arcs.length)))/\(I.arcs.length - g'.snd<I.arcs.length - g_1.snd/\((True/\(0=0/\(True/\((↑g_1.1:Int)=↑g'.1/\(0=0/\(IntKind.i64.wrap ((↑g_1.2:Int)+(1:Int))=(↑g'.2:Int)/\True))))))/\(((z30 (W (z3b (↑I.sup.length:Int) I.arcs x g_1.2 (↑g_1.1:Int))) (W (if (0:Int) <= (↑g_1.2:Int) then x.getD (↑g_1.2:Int).toNat (0:Int) else (0:Int)))).hi=(W (z3b (↑I.sup.length:Int) I.arcs x g'.2 (↑g'.1:Int))).hi/\((z30 (W (z3b (↑I.sup.length:Int) I.arcs x g_1.2 (↑g_1.1:Int))) (W (if (0:Int) <= (↑g_1.2:Int) then x.getD (↑g_1.2:Int).toNat (0:Int) else (0:Int)))).lo=(W (z3b (↑I.sup.length:Int) I.arcs x g'.2 (↑g'.1:Int))).lo/\True))/\(List.take g_1.1 (z5i I x)=List.take g'.1 (z5i I x)/\((True/\(True/\True))/\(I.sup=I.sup/\(I.arcs=I.arcs/\(x=x/\True))))))))))))/\(((z2c (↑I.sup.length:Int) I.arcs (↑g_1.2:Int)).dst == (↑g_1.1:Int))=false->∃ (g':Nat × Nat),(g'.fst<I.sup.length/\(g'.fst=g0.fst/\(g'.snd <= I.arcs.length)))/\(I.arcs.length - g'.snd<I.arcs.length - g_1.snd/\((True/\(0=0/\(True/\((↑g_1.1:Int)=↑g'.1/\(0=0/\(IntKind.i64.wrap ((↑g_1.2:Int)+(1:Int))=(↑g'.2:Int)/\True))))))/\(((W (z3b (↑I.sup.length:Int) I.arcs x g_1.2 (↑g_1.1:Int))).hi=(W (z3b (↑I.sup.length:Int) I.arcs x g'.2 (↑g'.1:Int))).hi/\((W (z3b (↑I.sup.length:Int) I.arcs x g_1.2 (↑g_1.1:Int))).lo=(W (z3b (↑I.sup.length:Int) I.arcs x g'.2 (↑g'.1:Int))).lo/\True))/\(List.take g_1.1 (z5i I x)=List.take g'.1 (z5i I x)/\((True/\(True/\True))/\(I.sup=I.sup/\(I.arcs=I.arcs/\(x=x/\True))))))))))
abbrev z5u (g_1:Nat × Nat) (x:List Int):=(if (0:Int) <= (↑g_1.2:Int) then x.getD (↑g_1.2:Int).toNat (0:Int) else (0:Int))
abbrev rNet_a2 (I:Inst) (g_1:Nat × Nat) (g0:Nat × Nat) (x:List Int):=(gOk (↑I.sup.length:Int) I.arcs (↑g_1.2:Int)=false->∃ (g':Nat × Nat),(g'.fst<I.sup.length/\(g'.fst=g0.fst/\(g'.snd <= I.arcs.length)))/\(I.arcs.length - g'.snd<I.arcs.length - g_1.snd/\((True/\(0=0/\(True/\((↑g_1.1:Int)=↑g'.1/\(0=0/\(IntKind.i64.wrap ((↑g_1.2:Int)+(1:Int))=(↑g'.2:Int)/\True))))))/\(((W (z3b (↑I.sup.length:Int) I.arcs x g_1.2 (↑g_1.1:Int))).hi=(W (z3b (↑I.sup.length:Int) I.arcs x g'.2 (↑g'.1:Int))).hi/\((W (z3b (↑I.sup.length:Int) I.arcs x g_1.2 (↑g_1.1:Int))).lo=(W (z3b (↑I.sup.length:Int) I.arcs x g'.2 (↑g'.1:Int))).lo/\True))/\(List.take g_1.1 (z5i I x)=List.take g'.1 (z5i I x)/\((True/\(True/\True))/\(I.sup=I.sup/\(I.arcs=I.arcs/\(x=x/\True)))))))))
abbrev rNet_a3 (I:Inst) (g':Nat × Nat) (g_1:Nat × Nat) (x:List Int):=(I.arcs.length - g'.snd<I.arcs.length - g_1.snd/\((True/\(0=0/\(True/\((↑g_1.1:Int)=↑g'.1/\(0=0/\(IntKind.i64.wrap ((↑g_1.2:Int)+(1:Int))=(↑g'.2:Int)/\True))))))/\(((z3a (W (z3b (↑I.sup.length:Int) I.arcs x g_1.2 (↑g_1.1:Int))) (W (z5u g_1 x))).hi=(W (z3b (↑I.sup.length:Int) I.arcs x g'.2 (↑g'.1:Int))).hi/\((z3a (W (z3b (↑I.sup.length:Int) I.arcs x g_1.2 (↑g_1.1:Int))) (W (z5u g_1 x))).lo=(W (z3b (↑I.sup.length:Int) I.arcs x g'.2 (↑g'.1:Int))).lo/\True))/\(List.take g_1.1 (z5i I x)=List.take g'.1 (z5i I x)/\((True/\(True/\True))/\(I.sup=I.sup/\(I.arcs=I.arcs/\(x=x/\True))))))))
abbrev zm4 (I:Inst) (x:List Int):=((True/\(True/\True))/\(I.sup=I.sup/\(I.arcs=I.arcs/\(x=x/\True))))
abbrev zg2 (I:Inst) (x:List Int) (g_1:Nat × Nat):=(z3b (↑I.sup.length:Int) I.arcs x g_1.2 (↑g_1.1:Int))
def rNet_E0 (I : Inst) (x : List Int) (ty0 ty1 ty2 : TypeId) : Prop :=
   ∃ (g0:Nat),(g0 <= I.sup.length/\((True/\(0=0/\(True/\((0:Int)=↑g0/\True))))/\([]=List.take g0 (z5i I x)/\(zm4 I x))))/\∀ (g:Nat),g <= I.sup.length->(decide ((↑g:Int)<↑I.sup.length)=true->∃ (g0:Nat × Nat),((g0.fst<I.sup.length/\(g0.fst=g0.fst/\(g0.snd <= I.arcs.length)))/\((True/\(0=0/\(True/\((↑g:Int)=↑g0.1/\(0=0/\((0:Int)=↑g0.2/\True))))))/\(((0:Int)=(W (z3b (↑I.sup.length:Int) I.arcs x g0.2 (↑g0.1:Int))).hi/\((0:Int)=(W (z3b (↑I.sup.length:Int) I.arcs x g0.2 (↑g0.1:Int))).lo/\True))/\(List.take g (z5i I x)=List.take g0.1 (z5i I x)/\(zm4 I x)))))/\∀ (g_1:Nat × Nat),g_1.fst<I.sup.length/\g_1.fst=g0.fst/\g_1.snd <= I.arcs.length->(decide ((↑g_1.2:Int)<↑I.arcs.length)=true->True/\(gOk (↑I.sup.length:Int) I.arcs (↑g_1.2:Int)=true->(((z2c (↑I.sup.length:Int) I.arcs (↑g_1.2:Int)).src == (↑g_1.1:Int))=true->True/\I64 (z5u g_1 x)/\((W (zg2 I x g_1)).ok/\((W (z5u g_1 x)).ok))/\(gOk (↑I.sup.length:Int) I.arcs (↑g_1.2:Int)=true->(((z2c (↑I.sup.length:Int) I.arcs (↑g_1.2:Int)).dst == (↑g_1.1:Int))=true->True/\(I64 (z5u g_1 x)/\(((z3a (W (zg2 I x g_1)) (W (z5u g_1 x))).ok/\((W (z5u g_1 x)).ok))/\(∃ (g':Nat × Nat),(g'.fst<I.sup.length/\(g'.fst=g0.fst/\(g'.snd <= I.arcs.length)))/\(I.arcs.length - g'.snd<I.arcs.length - g_1.snd/\((True/\(0=0/\(True/\((↑g_1.1:Int)=↑g'.1/\(0=0/\(IntKind.i64.wrap ((↑g_1.2:Int)+(1:Int))=(↑g'.2:Int)/\True))))))/\(((z30 (z3a (W (zg2 I x g_1)) (W (z5u g_1 x))) (W (z5u g_1 x))).hi=(W (z3b (↑I.sup.length:Int) I.arcs x g'.2 (↑g'.1:Int))).hi/\((z30 (z3a (W (zg2 I x g_1)) (W (z5u g_1 x))) (W (z5u g_1 x))).lo=(W (z3b (↑I.sup.length:Int) I.arcs x g'.2 (↑g'.1:Int))).lo/\True))/\(List.take g_1.1 (z5i I x)=List.take g'.1 (z5i I x)/\(zm4 I x)))))))))/\(((z2c (↑I.sup.length:Int) I.arcs (↑g_1.2:Int)).dst == (↑g_1.1:Int))=false->∃ (g':Nat × Nat),(g'.fst<I.sup.length/\(g'.fst=g0.fst/\(g'.snd <= I.arcs.length)))/\(rNet_a3 I g' g_1 x)))/\(gOk (↑I.sup.length:Int) I.arcs (↑g_1.2:Int)=false->∃ (g':Nat × Nat),(g'.fst<I.sup.length/\(g'.fst=g0.fst/\(g'.snd <= I.arcs.length)))/\(rNet_a3 I g' g_1 x)))/\(((z2c (↑I.sup.length:Int) I.arcs (↑g_1.2:Int)).src == (↑g_1.1:Int))=false->(rNet_a0 I g_1 x g0)/\(rNet_a2 I g_1 g0 x)))/\(gOk (↑I.sup.length:Int) I.arcs (↑g_1.2:Int)=false->(rNet_a0 I g_1 x g0)/\(rNet_a2 I g_1 g0 x)))/\(decide ((↑g_1.2:Int)<↑I.arcs.length)=false->(List.take g_1.1 (z5i I x)).length+(1:Nat) <= 1000000000/\(∃ (g':Nat),g' <= I.sup.length/\(I.sup.length - g'<I.sup.length - g/\((True/\(0=0/\(True/\(IntKind.i64.wrap ((↑g_1.1:Int)+(1:Int))=(↑g':Int)/\True))))/\(List.take g_1.1 (z5i I x) ++ [W (zg2 I x g_1)]=List.take g' (z5i I x)/\(zm4 I x)))))))/\(decide ((↑g:Int)<↑I.sup.length)=false->(True/\True)/\(List.take g (z5i I x)=z5i I x/\True))
theorem rNet_q (I:Inst) (x:List Int) (ty0 ty1 ty2:TypeId):rNet_E0 I x ty0 ty1 ty2=z23 TT rNet_g (rNet_I I x) (rNet_an I x) Tryz.f93 [.agg [.row 0,.row 1],.row 2] [(0,.row false ty0 (.ints .i64 I.sup)),(1,.row false ty1 (.arcs I.arcs)),(2,.row false ty2 (.ints .i64 x))] (rNet_r I x):=by kernel_rfl
theorem rNet_E (I:Inst) (x:List Int) (ty0 ty1 ty2:TypeId) (hp:A64 x/\I.sup.length <= 10000/\I.arcs.length <= 10000):FVc TT rNet_g (rNet_I I x) (rNet_an I x) Tryz.f93 [.agg [.row 0,.row 1],.row 2] [(0,.row false ty0 (.ints .i64 I.sup)),(1,.row false ty1 (.arcs I.arcs)),(2,.row false ty2 (.ints .i64 x))] (rNet_r I x):=by
 refine FVc.of (rNet_E0 I x ty0 ty1 ty2) (rNet_q I x ty0 ty1 ty2) ?_
 unfold rNet_E0
 delta zg2 zm4 rNet_a3 rNet_a2 z5u rNet_a0
 simp only [eq_self,exists_const,forall_const,ne_eq,Int.toNat_natCast,zSS,z08]
 obtain ⟨p1,p2,p3⟩:=hp
 have hA:∀ k:Nat,(if 0 <= (k:Int) then x.getD k 0 else 0)=x.getD k 0:=fun k=>if_pos (by omega)
 simp only [hA,z8n,z8m]
 refine ⟨0,⟨by omega,rfl,by simp⟩,fun v hv=>⟨fun h1=>⟨(v,0),⟨⟨by dsimp only; omega,by dsimp only; omega⟩,⟨rfl,rfl⟩,⟨by simp only [z3b,W_zero],by simp only [z3b,W_zero]⟩,rfl⟩,fun g hg=>?_⟩,fun h1=>?_⟩⟩
 ·obtain ⟨v',k⟩:=g
  dsimp only at hg ⊢
  obtain ⟨g1,rfl,g3⟩:=hg
  have leaf:k<I.arcs.length->∀ z:Int,z=z3b I.sup.length I.arcs x (k+1) v'->∃ g':Nat × Nat,(g'.fst<I.sup.length/\g'.fst=v'/\g'.snd <= I.arcs.length)/\I.arcs.length - g'.snd<I.arcs.length - k/\((v':Int)=(g'.fst:Int)/\IntKind.i64.wrap ((k:Int)+1)=(g'.snd:Int)) /\
    ((W z).hi=(W (z3b I.sup.length I.arcs x g'.snd g'.fst)).hi/\(W z).lo=(W (z3b I.sup.length I.arcs x g'.snd g'.fst)).lo)/\(z5i I x).take v'=(z5i I x).take g'.fst:=fun hk z hz =>
   ⟨(v',k+1),⟨by dsimp only; omega,rfl,by dsimp only; omega⟩,by dsimp only; omega,⟨rfl,w64 (by omega) (by omega)⟩,by rw [hz]; exact ⟨rfl,rfl⟩,rfl⟩
  refine ⟨fun h2=>?_,fun h2=>?_⟩
  ·obtain ⟨a,ha⟩:∃ a,I.arcs[k]? = some a:=⟨_,List.getElem?_eq_getElem (by omega)⟩
   have hg:I.arcs.getD k default=a:=by simp [List.getD,ha]
   have e1:gOk I.sup.length I.arcs k=z34 I.sup.length a:=zb7 (by omega) (by simpa using ha)
   have e2:z2c I.sup.length I.arcs k=if z34 I.sup.length a then a else ⟨0,0,0,0,0⟩:=gArc_at (by omega) (by simpa using ha)
   have hx:=p1.getD k
   have hk:k<I.arcs.length:=by omega
   rw [e1,e2]
   cases ho:z34 I.sup.length a with
   | false =>
    refine ⟨fun h=>(by cases h),fun _=>⟨fun h=>(by cases h),fun _=>leaf hk _ ?_⟩⟩
    simp only [z3b,hg,z51,ho]; simp
   | true =>
    simp only [if_true]
    refine ⟨fun _=>⟨fun hs=>⟨hx,⟨z78 _,z78 _⟩,fun _=>⟨fun hd=>⟨hx,⟨z78 _,z78 _⟩,leaf hk _ ?_⟩,fun hd=>leaf hk _ ?_⟩,fun h=>(by cases h)⟩,fun hs=>⟨fun _=>⟨fun hd=>⟨hx,⟨z78 _,z78 _⟩,leaf hk _ ?_⟩,fun hd=>leaf hk _ ?_⟩,fun h=>(by cases h)⟩⟩,fun h=>(by cases h)⟩
    all_goals
     simp only [z3b,hg,z51,ho,if_true,hs,hd,if_false]
     omega
  ·have hkl:k=I.arcs.length:=by omega
   subst hkl
   refine ⟨by rw [List.length_take,zi0]; omega,v'+1,by omega,by omega,w64 (by omega) (by omega),?_⟩
   have:(z5i I x)[v']? = some (W (z3b I.sup.length I.arcs x I.arcs.length v')):=by
    unfold z5i
    rw [List.getElem?_map,List.getElem?_range g1]
    rfl
   rw [z1k this]
 ·rw [List.take_of_length_le (by rw [zi0]; omega)]
theorem rNet_ok:SpecOk Tryz.prog rNet_n true (z02 true rNet_fs) :=
 z09 z0i (show z15 Tryz.prog rNet_g from z00 rArc_ok (z00 rOf_ok (z00 zi7 (z00 rMinus_ok (z00 At_ok (z03)))))) (by kernel_rfl) mixedOrders Tryz.func93 rfl rfl (by kernel_rfl) (n:=2) (by decide +kernel) (I:=rNet_IA) (fun _ _=>z07) (A:=rNet_A)
  (fun args h r hr=>by
   unfold rNet_fs at hr
   split at hr
   ·rename_i ty0 I_s ty1 I_a ty2 x; cases hr; refine ⟨rfl,fun hp=>?_⟩; have hE:=rNet_E ⟨I_s,I_a⟩ x ty0 ty1 ty2 hp; exact hE
   ·cases hr)
def zfw (x : Arc) (n : Int) : Prop :=
      (decide (n ≥ x.low)=true ->
 ((x.cap == (4611686018427387904:Int))=true->(true=zhu x n/\True)/\True) /\
 ((x.cap == (4611686018427387904:Int))=false->(decide (n <= x.cap)=zhu x n/\True)/\True)) /\
 (decide (n ≥ x.low)=false->(false=zhu x n/\True)/\True)
theorem rBounds_q (x:Arc) (n:Int):zfw x n=z23 TT zly (rBounds_I x n) (rBounds_an x n) Tryz.f92 [.agg (z6f x),.int .i64 n] [] (zlz x n):=by kernel_rfl
theorem rBounds_E (x:Arc) (n:Int) (hp:True):FVc TT zly (rBounds_I x n) (rBounds_an x n) Tryz.f92 [.agg (z6f x),.int .i64 n] [] (zlz x n):=by
 refine FVc.of (zfw x n) (rBounds_q x n) ?_
 unfold zfw
 simp only [eq_self,exists_const,forall_const,ne_eq,Int.toNat_natCast,zSS,z08]
 unfold zhu inf
 refine ⟨fun h=>⟨fun h2=>?_,fun h2=>?_⟩,fun h=>?_⟩
 ·simp [h2]; omega
 ·simp [h2]; omega
 ·simp; omega
theorem rBounds_ok:SpecOk Tryz.prog rBounds_n true (z02 true zfx) :=
 z09 z0i (show z15 Tryz.prog zly from z03) (by kernel_rfl) mixedOrders Tryz.func92 rfl rfl (by kernel_rfl) (n:=2) (by decide +kernel) (I:=rBounds_IA) (fun _ _=>z07) (A:=rBounds_A)
  (fun args h r hr=>by
   unfold zfx at hr
   split at hr
   ·rename_i x_0 x_1 x_2 x_3 x_4 n; cases hr; refine ⟨rfl,fun hp=>?_⟩; have hE:=rBounds_E ⟨x_0,x_1,x_2,x_3,x_4⟩ n hp; exact hE
   ·cases hr)
def rFits_E0 (I : Inst) (x : List Int) (ty0 ty1 ty2 : TypeId) : Prop :=
   True/\((z04 I != (0:Int))=true->(z04 I=z0v I x/\True)/\True)/\((z04 I != (0:Int))=false->(((↑x.length:Int) != (↑I.arcs.length:Int))=true->((30:Int)=z0v I x/\True)/\True)/\(((↑x.length:Int) != (↑I.arcs.length:Int))=false->∃ (g0:Nat),((g0 <= I.arcs.length/\(z1h (List.drop g0 I.arcs) (List.drop g0 x)=z1h I.arcs x))/\((True/\(0=0/\((0:Int)=↑g0/\True)))/\((True/\(True/\True))/\(I.sup=I.sup/\(I.arcs=I.arcs/\(x=x/\True))))))/\(∀ (g:Nat),g <= I.arcs.length/\z1h (List.drop g I.arcs) (List.drop g x)=z1h I.arcs x->(decide ((↑g:Int)<↑x.length)=true->((0:Int) <= ↑g/\((↑g:Int)<↑I.arcs.length))/\((↑g:Int).toNat<I.arcs.length/\(∀ (x_1:Arc),I.arcs[(↑g:Int).toNat]? = some x_1->((0:Int) <= ↑g/\((↑g:Int)<↑x.length))/\((↑g:Int).toNat<x.length/\(∀ (x_2:Int),x[(↑g:Int).toNat]? = some x_2->True/\(((!zhu x_1 x_2)=true->((31:Int)=z0v I x/\True)/\True)/\((!zhu x_1 x_2)=false->∃ (g':Nat),(g' <= I.arcs.length/\(z1h (List.drop g' I.arcs) (List.drop g' x)=z1h I.arcs x))/\(I.arcs.length - g'<I.arcs.length - g/\((True/\(0=0/\(IntKind.i64.wrap ((↑g:Int)+(1:Int))=(↑g':Int)/\True)))/\((True/\(True/\True))/\(I.sup=I.sup/\(I.arcs=I.arcs/\(x=x/\True)))))))))))))/\(decide ((↑g:Int)<↑x.length)=false->(A64 x/\(I.sup.length <= (10000:Nat)/\(I.arcs.length <= (10000:Nat))))/\(∃ (g0:Nat),((g0 <= I.sup.length/\(∀ (v:Nat),v<g0->W (z3b (↑I.sup.length:Int) I.arcs x I.arcs.length (↑v:Int))=W (I.sup.getD v (0:Int))))/\((0=0/\(True/\((0:Int)=↑g0/\True)))/\(z5i I x=z5i I x/\((True/\(True/\True))/\(I.sup=I.sup/\(I.arcs=I.arcs/\True))))))/\(∀ (g:Nat),(g <= I.sup.length/\(∀ (v:Nat),v<g->W (z3b (↑I.sup.length:Int) I.arcs x I.arcs.length (↑v:Int))=W (I.sup.getD v (0:Int))))->(decide ((↑g:Int)<↑(z5i I x).length)=true->((0:Int) <= ↑g/\((↑g:Int)<↑(z5i I x).length))/\((↑g:Int).toNat<(z5i I x).length/\(∀ (x_1:Wide),(z5i I x)[(↑g:Int).toNat]? = some x_1->((0:Int) <= ↑g/\((↑g:Int)<↑I.sup.length))/\((↑g:Int).toNat<I.sup.length/\(∀ (x_2:Int),I.sup[(↑g:Int).toNat]? = some x_2->I64 x_2/\(((!decide ([x_1.hi,x_1.lo]=[(W x_2).hi,(W x_2).lo]))=true->((32:Int)=z0v I x/\True)/\True)/\((!decide ([x_1.hi,x_1.lo]=[(W x_2).hi,(W x_2).lo]))=false->∃ (g':Nat),(g' <= I.sup.length/\(∀ (v:Nat),v<g'->W (z3b (↑I.sup.length:Int) I.arcs x I.arcs.length (↑v:Int))=W (I.sup.getD v (0:Int))))/\(I.sup.length - g'<I.sup.length - g/\((0=0/\(True/\(IntKind.i64.wrap ((↑g:Int)+(1:Int))=(↑g':Int)/\True)))/\(z5i I x=z5i I x/\((True/\(True/\True))/\(I.sup=I.sup/\(I.arcs=I.arcs/\True)))))))))))))/\(decide ((↑g:Int)<↑(z5i I x).length)=false->((0:Int)=z0v I x/\True)/\True)))))))
theorem rFits_q (I:Inst) (x:List Int) (ty0 ty1 ty2:TypeId):rFits_E0 I x ty0 ty1 ty2=z23 TT rFits_g (rFits_I I x) (rFits_an I x) Tryz.f56 [.agg [.row 0,.row 1],.row 2] [(0,.row false ty0 (.ints .i64 I.sup)),(1,.row false ty1 (.arcs I.arcs)),(2,.row false ty2 (.ints .i64 x))] (rFits_r I x):=by kernel_rfl
theorem rFits_E (I:Inst) (x:List Int) (ty0 ty1 ty2:TypeId) (hp:I.sup.length <= 10000/\I.arcs.length <= 10000/\A64 x/\A64 I.sup):FVc TT rFits_g (rFits_I I x) (rFits_an I x) Tryz.f56 [.agg [.row 0,.row 1],.row 2] [(0,.row false ty0 (.ints .i64 I.sup)),(1,.row false ty1 (.arcs I.arcs)),(2,.row false ty2 (.ints .i64 x))] (rFits_r I x):=by
 refine FVc.of (rFits_E0 I x ty0 ty1 ty2) (rFits_q I x ty0 ty1 ty2) ?_
 unfold rFits_E0
 simp only [eq_self,exists_const,forall_const,ne_eq,Int.toNat_natCast,zSS,z08]
 obtain ⟨p1,p2,p3,p4⟩:=hp
 simp only [zi0]
 refine ⟨fun h=>by simp [z0v,h],fun h1=>⟨fun h2=>?_,fun h2=>⟨0,⟨⟨by omega,by simp⟩,rfl⟩,fun k hk=>⟨fun h3=>⟨by omega,by omega,fun a ha=>⟨by omega,by omega,fun y hy=>?_⟩⟩,fun h3=>?_⟩⟩⟩⟩
 ·have h2':¬ x.length=I.arcs.length:=by omega
  simp [z0v,h1,h2']
 ·have e:=zgy (x:=x) ha
  have hyd:x.getD k 0=y:=by simp [List.getD,hy]
  rw [hk.2,hyd] at e
  have h2':x.length=I.arcs.length:=by omega
  refine ⟨fun h4=>?_,fun h4=>⟨k+1,⟨by omega,?_⟩,by omega,w64 (by omega) (by omega)⟩⟩
  ·rw [h4] at e
   simp only [Bool.false_and] at e
   simp [z0v,h1,h2',e]
  ·rw [e,h4,Bool.true_and]
 ·have h2':x.length=I.arcs.length:=by omega
  have hall:z1h I.arcs x=true:=by rw [<- hk.2,z6z (by omega)]; rfl
  refine ⟨⟨p3,p1,p2⟩,0,⟨⟨by omega,fun v hv=>by omega⟩,rfl⟩,fun j hj=>⟨fun h4=>⟨by omega,by omega,fun w hw=>⟨by omega,by omega,fun z hz=>?_⟩⟩,fun h4=>?_⟩⟩
  ·obtain ⟨_,rfl⟩:=z14 hw
   have hzd:I.sup.getD j 0=z:=by simp [List.getD,hz]
   have hwe:∀ u v:Wide,[u.hi,u.lo]=[v.hi,v.lo] ↔ u=v:=fun u v=>by obtain ⟨u1,u2⟩:=u; obtain ⟨v1,v2⟩:=v; simp
   rw [hwe]
   refine ⟨p4 z (List.mem_of_getElem? hz),fun h5=>?_,fun h5=>⟨j+1,⟨by omega,fun v hv=>?_⟩,by omega,w64 (by omega) (by omega)⟩⟩
   ·have hno:zd5 I x=false:=by
     rw [Bool.eq_false_iff]
     intro h
     unfold zd5 at h
     have:=List.all_eq_true.1 h j (List.mem_range.2 (by omega))
     rw [decide_eq_true_eq,hzd] at this
     exact h5 this
    simp [z0v,h1,h2',hall,hno]
   ·by_cases hvj:v=j
    ·subst hvj; rw [hzd]; exact h5
    ·exact hj.2 v (by omega)
  ·have hno:zd5 I x=true:=by
    unfold zd5
    rw [List.all_eq_true]
    intro v hv
    rw [decide_eq_true_eq]
    exact hj.2 v (by have:=List.mem_range.1 hv; omega)
   simp [z0v,h1,h2',hall,hno]
theorem rFits_ok:SpecOk Tryz.prog rFits_n true (z02 true zi6) :=
 z09 z0i (show z15 Tryz.prog rFits_g from z00 rRight_ok (z00 rBounds_ok (z00 rNet_ok (z00 rOf_ok (z03))))) (by kernel_rfl) mixedOrders Tryz.func56 rfl rfl (by kernel_rfl) (n:=2) (by decide +kernel) (I:=rFits_IA) (fun _ _=>z07) (A:=rFits_A)
  (fun args h r hr=>by
   unfold zi6 at hr
   split at hr
   ·rename_i ty0 I_s ty1 I_a ty2 x; cases hr; refine ⟨rfl,fun hp=>?_⟩; have hE:=rFits_E ⟨I_s,I_a⟩ x ty0 ty1 ty2 hp; exact hE
   ·cases hr)
def Flow_E0 (I : Inst) (d : List Int) (ty0 ty1 ty2 : TypeId) : Prop :=
      ∃ (g0:Nat),
 (g0 <= I.arcs.length /\
 (True/\(0:Nat)=(0:Nat)/\True/\(0:Int)=(↑g0:Int)/\True) /\
 []=List.take g0 (z0w I d)/\(True/\True/\True)/\I.sup=I.sup/\I.arcs=I.arcs/\d=d/\True) /\
 ∀ (g:Nat),
 g <= I.arcs.length ->
 (decide ((↑g:Int)<(↑I.arcs.length:Int))=true ->
 ((0:Int) <= (↑g:Int)/\(↑g:Int)<(↑I.arcs.length:Int)) /\
 (↑g:Int).toNat<I.arcs.length /\
 ∀ (x:Arc),
 I.arcs[(↑g:Int).toNat]? = some x ->
 (decide (IntKind.i64.wrap ((↑g:Int)+(1:Int))<(↑d.length:Int))=true ->
 ((0:Int) <= IntKind.i64.wrap ((↑g:Int)+(1:Int))/\IntKind.i64.wrap ((↑g:Int)+(1:Int))<(↑d.length:Int)) /\
 (IntKind.i64.wrap ((↑g:Int)+(1:Int))).toNat<d.length /\
 ∀ (x_1:Int),
 d[(IntKind.i64.wrap ((↑g:Int)+(1:Int))).toNat]? = some x_1 ->
 (4:Int) ≠ (0:Int) /\
 (List.take g (z0w I d)).length+(1:Nat) <= (1000000000:Nat) /\
 ∃ (g':Nat),
 g' <= I.arcs.length /\
 I.arcs.length - g'<I.arcs.length - g /\
 (True/\(0:Nat)=(0:Nat)/\True/\IntKind.i64.wrap ((↑g:Int)+(1:Int))=(↑g':Int)/\True) /\
 List.take g (z0w I d) ++ [min (IntKind.i64.wrap (x.low+IntKind.i64.wrap (x_1.tmod (4:Int)))) x.cap]=List.take g' (z0w I d) /\
 (True/\True/\True)/\I.sup=I.sup/\I.arcs=I.arcs/\d=d/\True) /\
 (decide (IntKind.i64.wrap ((↑g:Int)+(1:Int))<(↑d.length:Int))=false ->
 (List.take g (z0w I d)).length+(1:Nat) <= (1000000000:Nat) /\
 ∃ (g':Nat),
 g' <= I.arcs.length /\
 I.arcs.length - g'<I.arcs.length - g /\
 (True/\(0:Nat)=(0:Nat)/\True/\IntKind.i64.wrap ((↑g:Int)+(1:Int))=(↑g':Int)/\True) /\
 List.take g (z0w I d) ++ [x.low]=List.take g' (z0w I d)/\(True/\True/\True)/\I.sup=I.sup/\I.arcs=I.arcs/\d=d/\True)) /\
 (decide ((↑g:Int)<(↑I.arcs.length:Int))=false->(True/\True)/\List.take g (z0w I d)=z0w I d/\True)
theorem Flow_q (I:Inst) (d:List Int) (ty0 ty1 ty2:TypeId):Flow_E0 I d ty0 ty1 ty2=z23 TT Flow_g (Flow_I I d) (Flow_an I d) Tryz.f37 [.agg [.row 0,.row 1],.row 2] [(0,.row false ty0 (.ints .i64 I.sup)),(1,.row false ty1 (.arcs I.arcs)),(2,.row false ty2 (.ints .u8 d))] (Flow_r I d):=by kernel_rfl
theorem Flow_E (I:Inst) (d:List Int) (ty0 ty1 ty2:TypeId) (hp:Bytes d/\I.arcs.length <= 1000000/\L42 I.arcs):FVc TT Flow_g (Flow_I I d) (Flow_an I d) Tryz.f37 [.agg [.row 0,.row 1],.row 2] [(0,.row false ty0 (.ints .i64 I.sup)),(1,.row false ty1 (.arcs I.arcs)),(2,.row false ty2 (.ints .u8 d))] (Flow_r I d):=by
 refine FVc.of (Flow_E0 I d ty0 ty1 ty2) (Flow_q I d ty0 ty1 ty2) ?_
 unfold Flow_E0
 simp only [eq_self,exists_const,forall_const,ne_eq,Int.toNat_natCast,zSS,z08]
 obtain ⟨p1,p2,p3⟩:=hp
 have hlen:(z0w I d).length=I.arcs.length:=by simp [z0w]
 refine ⟨0,⟨by omega,rfl,by simp⟩,fun k hk=>⟨fun h1=>⟨by omega,by omega,fun a ha=>?_⟩,fun h1=>?_⟩⟩
 ·have hw:=p3 a (List.mem_of_getElem? ha)
  have hk1:IntKind.i64.wrap ((k:Int)+1)=((k+1:Nat):Int):=by rw [w64 (by omega) (by omega)]; omega
  have hg:I.arcs.getD k default=a:=by simp [List.getD,ha]
  have hf:(z0w I d)[k]? = some (z6t d k a):=by
   unfold z0w
   rw [List.getElem?_map,List.getElem?_range (by omega)]
   simp only [Option.map_some,hg]
  have htl:((z0w I d).take k).length=k:=by rw [List.length_take,hlen]; omega
  simp only [hk1,Int.toNat_natCast]
  refine ⟨fun h2=>⟨by omega,by omega,fun y hy=>⟨by decide,by omega,k+1,by omega,by omega,rfl,?_⟩⟩,fun h2=>⟨by omega,k+1,by omega,by omega,rfl,?_⟩⟩
  ·have hb:=p1 y (List.mem_of_getElem? hy)
   rw [z1k hf,z3t hb.1,w64 (x:=y % 4) (by omega) (by omega),w64 (by omega) (by omega)]
   unfold z6t
   rw [if_pos (by omega)]
   simp [List.getD,hy]
  ·rw [z1k hf]
   unfold z6t
   rw [if_neg (by omega)]
 ·rw [List.take_of_length_le (by omega)]
theorem Flow_ok:SpecOk Tryz.prog Flow_n true (z02 true Flow_fs) :=
 z09 z0i (show z15 Tryz.prog Flow_g from z03) (by kernel_rfl) mixedOrders Tryz.func37 rfl rfl (by kernel_rfl) (n:=2) (by decide +kernel) (I:=Flow_IA) (fun _ _=>z07) (A:=Flow_A)
  (fun args h r hr=>by
   unfold Flow_fs at hr
   split at hr
   ·rename_i ty0 I_s ty1 I_a ty2 d; cases hr; refine ⟨rfl,fun hp=>?_⟩; have hE:=Flow_E ⟨I_s,I_a⟩ d ty0 ty1 ty2 hp; exact hE
   ·cases hr)
end Go.Proofs.YtggblkbecekbdaaGreat
end
section
namespace Go.Ql
open Go Go.RowKit Go.Vc
def redA (a:Arc) (f t:Int):Int:=a.cost - f+t
def sgn (r:Int):Int:=z8u (W r) (W 0)
def atA (I:Inst) (a:Int):Arc:=z2c I.sup.length I.arcs a
def atF (I:Inst) (pot:List Int) (a:Int):Int:=if gOk I.sup.length I.arcs a then pot.getD (atA I a).src.toNat 0 else 0
def atT (I:Inst) (pot:List Int) (a:Int):Int:=if gOk I.sup.length I.arcs a then pot.getD (atA I a).dst.toNat 0 else 0
def zel (I:Inst) (pot:List Int) (a:Int):Int:=if gOk I.sup.length I.arcs a then redA (atA I a) (atF I pot a) (atT I pot a) else 0
def z5r (r x:Int) (a:Arc):Bool:=!((decide (0<sgn r) && decide (x ≠ a.low)) || (decide (sgn r<0) && (decide (x ≠ a.cap) || decide (a.cap=inf))))
def z22 (I:Inst) (x pot:List Int) (k:Nat):Bool:=z5r (zel I pot k) (x.getD k 0) (I.arcs.getD k default)
def z0z (I:Inst) (x pot:List Int):Int :=
 if z0v I x ≠ 0 then z0v I x else if pot.length ≠ I.sup.length then 30 else if (List.range I.arcs.length).all (z22 I x pot) then 0 else 33
def boundS (l pot:List Int):Nat->Int
 | 0=>0
 | k+1=>boundS l pot k+l.getD k 0 * pot.getD k 0
def potR (pot:List Int) (n:Int):Int:=if 0 <= n then pot.getD n.toNat 0 else 0
def redP (pot:List Int) (a:Arc):Int:=redA a (potR pot a.src) (potR pot a.dst)
def z31 (n:Int) (pot:List Int):List Arc->Int->Option Int
 | [],s=>some s
 | a :: l,s=>if z34 n a then (if sgn (redP pot a)<0 then if a.cap=inf then none else z31 n pot l (s+a.cap * redP pot a) else z31 n pot l (s+a.low * redP pot a)) else z31 n pot l s
def boundF (I:Inst) (pot:List Int):Option Int:=z31 I.sup.length pot I.arcs (boundS I.sup pot I.sup.length)
theorem sgn_zero:sgn 0=0:=by decide
theorem atA_get {I:Inst} {k:Nat} {x:Arc} (h:I.arcs[k]? = some x) (ho:z34 I.sup.length x=true):atA I k=x:=by
 have hg:gOk I.sup.length I.arcs (k:Int)=true:=by rw [zb7 (by omega) (by rw [Int.toNat_natCast]; exact h)]; exact ho
 unfold atA z2c
 rw [if_pos hg,Int.toNat_natCast]
 simp [List.getD,h]
end Go.Ql
end
section
section
namespace Go.Ql
open Go Go.RowKit
def onF (side:List Bool) (n:Int):Bool:=decide (0 <= n) && side.getD n.toNat false
def isN (m:Int) (n:Int):Bool:=decide (0 <= n) && decide (n<m)
def zek (m:Int) (side:List Bool) (a:Arc):Bool:=isN m a.src && isN m a.dst && onF side a.src && !onF side a.dst
def inA (m:Int) (side:List Bool) (a:Arc):Bool:=isN m a.src && isN m a.dst && onF side a.dst && !onF side a.src
def z1j (m:Int) (side:List Bool):List Arc->Int->Option Int
 | [],s=>some s
 | a :: l,s=>if zek m side a then (if a.cap=inf then none else z1j m side l (s+a.cap)) else if inA m side a then z1j m side l (s - a.low) else z1j m side l s
def z5v (I:Inst) (side:List Bool):Option Int:=z1j I.sup.length side I.arcs 0
def roomW (o:Option Int):Wide:=match o with
 | some s=>W s
 | none=>⟨0,0⟩
def z5p (side:List Bool) (l:List Int):Nat->Int
 | 0=>0
 | k+1=>z5p side l k+(if side.getD k false then l.getD k 0 else 0)
def zd4 (I:Inst) (side:List Bool):Int:=z5p side I.sup I.sup.length
def z1z (I:Inst) (side:List Bool):Int :=
 if z04 I ≠ 0 then z04 I else if side.length ≠ I.sup.length then 30 else match z5v I side with
  | none=>34
  | some s=>if z8u (W (zd4 I side)) (W s) <= 0 then 34 else 0
theorem onF_nat (side:List Bool) (k:Nat):onF side (k:Int)=side.getD k false:=by simp [onF]
theorem z5q (m:Int) (side:List Bool) (a:Arc) (l:List Arc) (s:Int):z1j m side (a :: l) s=if zek m side a then (if a.cap=inf then none else z1j m side l (s+a.cap)) else if inA m side a then z1j m side l (s - a.low) else z1j m side l s:=rfl
def z1o (f:Nat->Int):Nat->Int
 | 0=>0
 | k+1=>z1o f k+f k
theorem z1c {f g:Nat->Int}:∀ {n:Nat},(∀ v,v<n->f v=g v)->z1o f n=z1o g n
 | 0,_=>rfl
 | n+1,h=>by simp only [z1o]; rw [z1c (fun v hv=>h v (by omega)),h n (by omega)]
theorem za0 (f g:Nat->Int):∀ n,z1o (fun v=>f v+g v) n=z1o f n+z1o g n
 | 0=>rfl
 | n+1=>by simp only [z1o]; rw [za0 f g n]; omega
theorem za2 (f g:Nat->Int):∀ n,z1o (fun v=>f v - g v) n=z1o f n - z1o g n
 | 0=>rfl
 | n+1=>by simp only [z1o]; rw [za2 f g n]; omega
theorem z67:∀ n,z1o (fun _=>0) n=0
 | 0=>rfl
 | n+1=>by simp only [z1o,z67 n]; rfl
theorem za1 {s f:Int} (h0:0 <= s):∀ n:Nat,z1o (fun v=>if s=(v:Int) then f else 0) n=if s<n then f else 0
 | 0=>by simp only [z1o]; rw [if_neg (by omega)]
 | n+1=>by
  simp only [z1o]
  rw [za1 h0 n]
  by_cases h1:s<n
  ·rw [if_pos h1,if_neg (by omega),if_pos (by omega)]; omega
  ·by_cases h2:s=n
   ·rw [if_neg h1,if_pos h2,if_pos (by omega)]; omega
   ·rw [if_neg h1,if_neg h2,if_neg (by omega)]; omega
theorem flowD_sum (n:Nat) (a:Arc) (f:Int):z1o (fun v:Nat=>z51 n a f v) n=0:=by
 cases ho:z34 n a with
 | false=>rw [z1c (g:=fun _=>0) (fun v _=>by simp [z51,ho]),z67]
 | true =>
  obtain ⟨o1,o2,o3,o4⟩:=okArc_iff.1 ho
  rw [z1c (g:=fun v=>(if a.src=(v:Int) then f else 0) - (if a.dst=(v:Int) then f else 0)) (fun v _=>by simp [z51,ho]),za2,za1 o1,za1 o3,if_pos o2,if_pos o4]
  omega
theorem netK_sum (n:Nat) (l:List Arc) (x:List Int):∀ k,z1o (fun v:Nat=>z3b n l x k v) n=0
 | 0=>by simp only [z3b]; exact z67 n
 | k+1=>by
  simp only [z3b]
  rw [za0,netK_sum n l x k,flowD_sum]; rfl
theorem flowD_add (n:Int) (a:Arc) (f g v:Int):z51 n a (f+g) v=z51 n a f v+z51 n a g v:=by
 unfold z51
 (repeat' split) <;> omega
theorem netK_bound {n:Int} {l:List Arc} {x:List Int} {v:Int} {B:Int} (hB:0 <= B) (hx:∀ y ∈ x,-B <= y/\y <= B):∀ k:Nat,-(2 * B * k) <= z3b n l x k v/\z3b n l x k v <= 2 * B * k
 | 0=>by simp [z3b]
 | k+1=>by
  have ih:=netK_bound (n:=n) (l:=l) (v:=v) hB hx k
  have hg:-B <= x.getD k 0/\x.getD k 0 <= B:=by
   by_cases hk:k<x.length
   ·have:=hx _ (List.getElem_mem hk)
    simpa [List.getD,hk] using this
   ·simp [List.getD,hk]; omega
  simp only [z3b]
  have hd:-(2 * B) <= z51 n (l.getD k default) (x.getD k 0) v/\z51 n (l.getD k default) (x.getD k 0) v <= 2 * B:=by
   unfold z51; (repeat' split) <;> omega
  have e:2 * B * ((k+1:Nat):Int)=2 * B * k+2 * B:=by
   rw [Int.natCast_succ,Int.mul_add]; omega
  omega
theorem zgz {x:List Int} {a:Nat} (ha:a<x.length) (f:Int) (j:Nat):(x.set a (x.getD a 0+f)).getD j 0=x.getD j 0+(if j=a then f else 0):=by
 rw [List.getD_eq_getElem?_getD,List.getElem?_set]
 by_cases h:a=j
 ·subst h; simp [ha]
 ·have h':¬ j=a:=fun e=>h e.symm
  simp [h,h',List.getD_eq_getElem?_getD]
theorem netK_set {n:Int} {l:List Arc} {x:List Int} {v:Int} {a:Nat} (ha:a<x.length) (f:Int):∀ k:Nat,z3b n l (x.set a (x.getD a 0+f)) k v=z3b n l x k v+(if a<k then z51 n (l.getD a default) f v else 0)
 | 0=>by simp [z3b]
 | k+1=>by
  simp only [z3b]
  rw [netK_set ha f k,zgz ha,flowD_add]
  by_cases h:k=a
  ·subst h; rw [if_neg (by omega),if_pos rfl,if_pos (by omega)]; omega
  ·rw [if_neg h]
   have z:z51 n (l.getD k default) 0 v=0:=by unfold z51; (repeat' split) <;> omega
   rw [z]
   by_cases h2:a<k
   ·rw [if_pos h2,if_pos (by omega)]; omega
   ·rw [if_neg h2,if_neg (by omega)]; omega
theorem fitsAll_iff {l:List Arc} {x:List Int}:z1h l x=true ↔ ∀ j a,l[j]? = some a->zhu a (x.getD j 0)=true:=by
 induction l generalizing x with
 | nil=>simp [z1h]
 | cons b l ih =>
  simp only [z1h,Bool.and_eq_true,ih]
  constructor
  ·rintro ⟨h1,h2⟩ j a ha
   cases j with
   | zero =>
    simp at ha; subst ha
    cases x <;> simpa [List.getD] using h1
   | succ j =>
    rw [List.getElem?_cons_succ] at ha
    have:=h2 j a ha
    cases x with
    | nil=>simpa [List.getD] using this
    | cons y x=>simpa [List.getD] using this
  ·intro h
   refine ⟨?_,fun j a ha=>?_⟩
   ·have:=h 0 b (by simp)
    cases x <;> simpa [List.getD] using this
   ·have:=h (j+1) a (by simpa using ha)
    cases x with
    | nil=>simpa [List.getD] using this
    | cons y x=>simpa [List.getD] using this
theorem netOk_iff {I:Inst} {x:List Int}:zd5 I x=true ↔ ∀ v,v<I.sup.length->W (z3b I.sup.length I.arcs x I.arcs.length v)=W (I.sup.getD v 0):=by
 unfold zd5
 rw [List.all_eq_true]
 simp only [List.mem_range,decide_eq_true_eq]
theorem fitsF_zero {I:Inst} {x:List Int}:z0v I x=0 ↔ z04 I=0/\x.length=I.arcs.length/\z1h I.arcs x=true/\zd5 I x=true:=by
 have hs:=rightF_small' I
 unfold z0v
 constructor
 ·intro h
  split at h
  ·rename_i h1; exact absurd h h1
  ·rename_i h1
   split at h
   ·omega
   ·rename_i h2
    split at h
    ·omega
    ·rename_i h3
     split at h
     ·omega
     ·rename_i h4
      simp at h1 h2 h3 h4
      exact ⟨h1,h2,h3,h4⟩
 ·rintro ⟨h1,h2,h3,h4⟩
  simp [h1,h2,h3,h4]
def A32 (l:List Int):Prop:=∀ x ∈ l,-2147483648 <= x/\x <= 2147483647
theorem A32.getD {l:List Int} (h:A32 l) (k:Nat):-2147483648 <= l.getD k 0/\l.getD k 0 <= 2147483647:=by
 by_cases hk:k<l.length
 ·have:=h _ (List.getElem_mem hk)
  simpa [List.getD,hk] using this
 ·simp [List.getD,hk]
theorem zcr (n:Int):∀ (l:List Arc),(∀ a ∈ l,z0e a n=0)->z1b n l=0
 | [],_=>rfl
 | a :: l,h=>by simp only [z1b,h a (by simp),zcr n l (fun b hb=>h b (by simp [hb]))]; simp
theorem zha:∀ (l:List Int) (s:Int),(∀ x ∈ l,-4398046511104 <= x/\x <= 4398046511104)->s+l.sum=0->z1r l s=0
 | [],s,_,h=>by simp at h; simp [z1r,h]
 | x :: l,s,hb,h=>by
  have:=hb x (by simp)
  simp only [z1r]
  rw [if_neg (by omega)]
  exact zha l (s+x) (fun y hy=>hb y (by simp [hy])) (by rw [List.sum_cons] at h; omega)
theorem right_of {I:Inst} (h1:I.sup.length <= 64) (h2:I.arcs.length <= 256) (h3:∀ a ∈ I.arcs,z0e a I.sup.length=0) (h4:∀ x ∈ I.sup,-4398046511104 <= x/\x <= 4398046511104) (h5:I.sup.sum=0):z04 I=0:=by
 unfold z04
 rw [if_neg (by omega),if_pos (zcr _ _ h3)]
 exact zha _ _ h4 (by omega)
theorem zec (f:Nat->Int):∀ n,((List.range n).map f).sum=z1o f n
 | 0=>rfl
 | n+1=>by rw [List.range_succ,List.map_append,List.sum_append,zec f n]; simp [z1o]
theorem Arc.Nice.right {m:Int} {a:Arc} (h:a.Nice m):z0e a m=0:=by
 have:=h.s0; have:=h.s1; have:=h.d0; have:=h.d1; have:=h.l0; have:=h.l1; have:=h.c0; have:=h.c1; have:=h.k0; have:=h.k1
 unfold z0e
 rw [if_neg (by omega),if_neg (by omega),if_neg (by omega),if_neg (by omega)]
theorem sum_set (s:List Int) (k:Nat) (y:Int) (hk:k<s.length):(s.set k y).sum=s.sum - s.getD k 0+y:=by
 induction s generalizing k with
 | nil=>simp at hk
 | cons z s ih =>
  cases k with
  | zero=>simp; omega
  | succ k =>
   have:=ih k (by simpa using hk)
   simp only [List.set_cons_succ,List.sum_cons,this,List.getD_cons_succ]; omega
theorem z7a (s:List Int) (k:Nat) (x:Int) (hk:k<s.length):(addAt s k x).sum=s.sum+x:=by
 unfold addAt; rw [sum_set _ _ _ hk]; omega
theorem supGo_sum {n:Nat} (d:List Int):∀ (l:List Arc) (k:Nat) (s:List Int),s.length=n->(∀ a ∈ l,a.Nice n)->(zci d l k s).sum=s.sum
 | [],_,s,_,_=>rfl
 | a :: l,k,s,hs,hn=>by
  have h:=hn a (by simp)
  have h1:=h.s0; have h2:=h.s1; have h3:=h.d0; have h4:=h.d1
  rw [zci,supGo_sum d l (k+1) _ (by simp [z2l,hs]) (fun b hb=>hn b (by simp [hb])),z7a _ _ _ (by rw [z2l]; omega),z7a _ _ _ (by omega)]
  omega
theorem instF_sum (c d:List Int):(z1m c d).sup.sum=0:=by
 have hp:=zfo d
 have h1:(sup1 c d).sum=0:=by
  unfold sup1
  rw [supGo_sum (n:=nOf d) d _ 0 _ (by simp) (zac c _ (by omega))]
  simp
 unfold z1m
 dsimp only
 split
 ·rw [z7a _ _ _ (by rw [z2l,sup1_len]; omega),z7a _ _ _ (by rw [sup1_len]; omega),h1]; omega
 ·exact h1
theorem z6o (m:Int) (side:List Bool):∀ (l r:List Arc) (s:Int),z1j m side (l ++ r) s=(z1j m side l s).bind (z1j m side r)
 | [],r,s=>by simp [z1j]
 | a :: l,r,s=>by
  rw [List.cons_append,z5q,z5q]
  split
  ·split
   ·rfl
   ·exact z6o m side l r _
  ·split
   ·exact z6o m side l r _
   ·exact z6o m side l r _
theorem zbs (side:List Bool) (l:List Int):∀ k,z5p side l k=z1o (fun v=>if side.getD v false then l.getD v 0 else 0) k
 | 0=>rfl
 | k+1=>by simp only [z5p,z1o,zbs side l k]
theorem sum_sumTo:∀ (l:List Int),l.sum=z1o (fun v=>l.getD v 0) l.length:=by
 intro l
 have h:=zec (fun v=>l.getD v 0) l.length
 rw [<- h]
 congr 1
 apply List.ext_getElem?
 intro i
 by_cases hi:i<l.length
 ·simp [hi]
 ·simp [hi]
def crossD (m:Int) (side:List Bool) (a:Arc) (f:Int):Int:=(if zek m side a then f else 0) - (if inA m side a then f else 0)
def zb3 (m:Int) (side:List Bool) (l:List Arc) (x:List Int):Nat->Int
 | 0=>0
 | k+1=>zb3 m side l x k+crossD m side (l.getD k default) (x.getD k 0)
theorem sumTo_pick {s f:Int} (p:Nat->Bool) (h0:0 <= s):∀ n:Nat,s<n->z1o (fun v=>if p v then (if s=(v:Int) then f else 0) else 0) n=if p s.toNat then f else 0:=by
 intro n hn
 have:z1o (fun v=>if p v then (if s=(v:Int) then f else 0) else 0) n=z1o (fun v=>if s=(v:Int) then (if p s.toNat then f else 0) else 0) n:=by
  refine z1c fun v hv=>?_
  by_cases e:s=(v:Int)
  ·have:s.toNat=v:=by omega
   simp [e,this]
  ·simp [e]
 rw [this,za1 h0,if_pos hn]
theorem flowD_cross {n:Nat} {side:List Bool} {a:Arc} (f:Int):z1o (fun v:Nat=>if side.getD v false then z51 n a f v else 0) n=crossD n side a f:=by
 cases ho:z34 n a with
 | false =>
  have hz:∀ v:Nat,(if side.getD v false then z51 n a f v else 0)=0:=fun v=>by simp [z51,ho]
  rw [z1c (g:=fun _=>0) (fun v _=>hz v),z67]
  have:isN (n:Int) a.src=false ∨ isN (n:Int) a.dst=false:=by
   unfold z34 at ho
   unfold isN
   cases h1:(decide (0 <= a.src) && decide (a.src<(n:Int))) <;> simp_all
  unfold crossD zek inA
  rcases this with h | h <;> simp [h]
 | true =>
  obtain ⟨o1,o2,o3,o4⟩:=okArc_iff.1 ho
  rw [z1c (g:=fun v=>(if side.getD v false then (if a.src=(v:Int) then f else 0) else 0) - (if side.getD v false then (if a.dst=(v:Int) then f else 0) else 0)) (fun v _=>by
   simp only [z51,ho,if_true]
   cases side.getD v false <;> simp),za2,sumTo_pick (fun v=>side.getD v false) o1 n o2,sumTo_pick (fun v=>side.getD v false) o3 n o4]
  unfold crossD zek inA isN onF
  simp only [o1,o2,o3,o4,decide_true,Bool.true_and]
  cases side.getD a.src.toNat false <;> cases side.getD a.dst.toNat false <;> simp
theorem zkf (n:Nat) (side:List Bool) (l:List Arc) (x:List Int):∀ k,z1o (fun v:Nat=>if side.getD v false then z3b n l x k v else 0) n=zb3 n side l x k
 | 0=>by
  simp only [z3b,zb3]
  rw [z1c (g:=fun _=>0) (fun v _=>by simp),z67]
 | k+1=>by
  simp only [zb3]
  rw [<- zkf n side l x k,<- flowD_cross,<- za0]
  refine z1c fun v _=>?_
  simp only [z3b]
  cases side.getD v false <;> simp
theorem fits_net {I:Inst} {x:List Int} (hl:I.arcs.length <= 1000) (hx:A64 x) (hs:Within 4398046511104 I.sup) (h:z0v I x=0):∀ v,v<I.sup.length->z3b I.sup.length I.arcs x I.arcs.length v=I.sup.getD v 0:=by
 intro v hv
 have hn:=netOk_iff.1 (fitsF_zero.1 h).2.2.2 v hv
 have hb:=netK_bound (n:=I.sup.length) (l:=I.arcs) (x:=x) (v:=v) (B:=9223372036854775808) (by omega) (fun y hy=>by have:=hx y hy; unfold I64 at this; omega) I.arcs.length
 have hs':=hs.getD (by omega) v
 refine W_inj ?_ ?_ hn
 ·unfold zej; omega
 ·unfold zej; omega
theorem fits_need {I:Inst} {x:List Int} (side:List Bool) (hl:I.arcs.length <= 1000) (hx:A64 x) (hs:Within 4398046511104 I.sup) (h:z0v I x=0):zb3 I.sup.length side I.arcs x I.arcs.length=zd4 I side:=by
 rw [<- zkf,zd4,zbs]
 refine z1c fun v hv=>?_
 rw [fits_net hl hx hs h v hv]
theorem zh8 {m:Int} {side:List Bool} {a:Arc} {s t:Int} (h:z1j m side [a] s=some t):(zek m side a=true/\a.cap ≠ inf/\t=s+a.cap) ∨ (zek m side a=false/\inA m side a=true/\t=s - a.low) ∨ (zek m side a=false/\inA m side a=false/\t=s):=by
 rw [z5q] at h
 simp only [z1j] at h
 cases ho:zek m side a with
 | true =>
  rw [ho] at h
  simp only [if_true] at h
  split at h
  ·cases h
  ·rename_i hc; cases h; exact .inl ⟨rfl,hc,rfl⟩
 | false =>
  rw [ho] at h
  simp only [Bool.false_eq_true,if_false] at h
  cases hi:inA m side a with
  | true=>rw [hi] at h; simp only [if_true] at h; cases h; exact .inr (.inl ⟨rfl,rfl,rfl⟩)
  | false=>rw [hi] at h; simp only [Bool.false_eq_true,if_false] at h; cases h; exact .inr (.inr ⟨rfl,rfl,rfl⟩)
theorem out_not_in {m:Int} {side:List Bool} {a:Arc} (h:zek m side a=true):inA m side a=false:=by
 unfold zek at h; unfold inA
 cases h1:isN m a.src <;> cases h2:isN m a.dst <;> cases h3:onF side a.src <;> cases h4:onF side a.dst <;> simp_all
theorem cross_room {m:Int} {side:List Bool} {l:List Arc} {x:List Int} (hf:∀ j a,l[j]? = some a->zhu a (x.getD j 0)=true):∀ k,k <= l.length->∀ t,z1j m side (l.take k) 0=some t->zb3 m side l x k <= t
 | 0,_,t,h=>by simp [z1j] at h; subst h; simp [zb3]
 | k+1,hk,t,h=>by
  have ha:=List.getElem?_eq_getElem (show k<l.length by omega)
  rw [z1k ha,z6o] at h
  cases h1:z1j m side (l.take k) 0 with
  | none=>rw [h1] at h; cases h
  | some u =>
   rw [h1] at h
   have ih:=cross_room hf k (by omega) u h1
   have hfa:=hf k _ ha
   have hd:l.getD k default=l[k]:=by simp [List.getD,ha]
   unfold zhu at hfa
   simp only [Bool.and_eq_true,Bool.or_eq_true,decide_eq_true_eq] at hfa
   simp only [zb3,hd,crossD]
   rcases zh8 h with ⟨h2,h3,h4⟩ | ⟨h2,h3,h4⟩ | ⟨h2,h3,h4⟩
   ·rw [h2,out_not_in h2]
    simp only [if_true,Bool.false_eq_true,if_false]
    rcases hfa.2 with h5 | h5
    ·exact absurd h5 h3
    ·omega
   ·rw [h2,h3]
    simp only [if_true,Bool.false_eq_true,if_false]
    omega
   ·rw [h2,h3]
    simp only [Bool.false_eq_true,if_false]
    omega
theorem room_bound {m:Int} {side:List Bool} {l:List Arc} (hb:∀ a ∈ l,(0 <= a.low/\a.low <= 4398046511104)/\(a.cap=inf ∨ 0 <= a.cap/\a.cap <= 4398046511104)):∀ k,k <= l.length->∀ t,z1j m side (l.take k) 0=some t->-(4398046511104 * (k:Int)) <= t/\t <= 4398046511104 * (k:Int)
 | 0,_,t,h=>by simp [z1j] at h; subst h; simp
 | k+1,hk,t,h=>by
  have ha:=List.getElem?_eq_getElem (show k<l.length by omega)
  rw [z1k ha,z6o] at h
  cases h1:z1j m side (l.take k) 0 with
  | none=>rw [h1] at h; cases h
  | some u =>
   rw [h1] at h
   have ih:=room_bound hb k (by omega) u h1
   have hfa:=hb _ (List.getElem_mem (show k<l.length by omega))
   rcases zh8 h with ⟨h2,h3,h4⟩ | ⟨h2,h3,h4⟩ | ⟨h2,h3,h4⟩
   ·rcases hfa.2 with h5 | h5
    ·exact absurd h5 h3
    ·omega
   ·omega
   ·omega
theorem zld {side:List Bool} {s:List Int} {b:Int} (hb:0 <= b) (h:Within b s):∀ k:Nat,-(b * k) <= z5p side s k/\z5p side s k <= b * k
 | 0=>by simp [z5p]
 | k+1=>by
  have ih:=zld (side:=side) hb h k
  have hg:=h.getD hb k
  have e:b * ((k+1:Nat):Int)=b * k+b:=by rw [Int.natCast_succ,Int.mul_add]; omega
  simp only [z5p]
  split <;> omega
theorem arcs_bound {I:Inst} (hr:z04 I=0):∀ a ∈ I.arcs,(0 <= a.low/\a.low <= 4398046511104)/\(a.cap=inf ∨ 0 <= a.cap/\a.cap <= 4398046511104):=fun a ha=>by
 have h:=z1u hr ha
 obtain ⟨_,h1,_⟩:=h
 unfold inf
 refine ⟨⟨h1.1,h1.2.1⟩,?_⟩
 rcases h1.2.2 with h2 | h2
 ·exact .inl h2
 ·exact .inr (by omega)
theorem cmp_need {I:Inst} {side:List Bool} {s:Int} (hr:z04 I=0) (hl:I.arcs.length <= 1000) (hn:I.sup.length <= 1000) (hs:Within 4398046511104 I.sup) (h:z5v I side=some s) (m:Int) (hm:m=zd4 I side):z8u (W m) (W s) <= 0 ↔ m <= s:=by
 have hb:=room_bound (m:=I.sup.length) (side:=side) (arcs_bound hr) I.arcs.length (Nat.le_refl _) s (by rw [List.take_length]; exact h)
 have hk:=zld (side:=side) (by omega) hs I.sup.length
 have e:zd4 I side=z5p side I.sup I.sup.length:=rfl
 rw [za4 (by unfold zej; omega) (by unfold zej; omega)]
 split
 ·omega
 ·split <;> omega
theorem zbx {I:Inst} {side:List Bool} {x:List Int} (hl:I.arcs.length <= 1000) (hn:I.sup.length <= 1000) (hx:A64 x) (hs:Within 4398046511104 I.sup) (h:z1z I side=0):z0v I x ≠ 0:=by
 intro hf
 have hr:=(fitsF_zero.1 hf).1
 unfold z1z at h
 simp only [hr,ne_eq,not_true,if_false] at h
 split at h
 ·omega
 ·split at h
  ·omega
  ·rename_i s hroom
   split at h
   ·omega
   ·rename_i hc
    rw [cmp_need hr hl hn hs hroom _ rfl] at hc
    have h1:=fits_need side hl hx hs hf
    have h2:=cross_room (m:=I.sup.length) (side:=side) (fitsAll_iff.1 (fitsF_zero.1 hf).2.2.1) I.arcs.length (Nat.le_refl _) s (by rw [List.take_length]; exact hroom)
    omega
end Go.Ql
end
end
