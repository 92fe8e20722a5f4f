/- Part of the proof: FB9, Law10, DC10, FC10, Price, DP11. -/
import Derived.Test.YtapeenpimcffpaaZG6
import Derived.Test.YtapeenpimcffpaaZG5
set_option linter.unusedVariables false
set_option linter.all false
set_option linter.unusedSimpArgs false
set_option maxRecDepth 1000000
section
namespace Go.Proofs.Ytapeenpimcffpaa
open Go Go.RowKit Go.Ql Go.Vc
def has_E0 (g_n : Int) (g_l : List Arc) (g_i : List Int) (g_s : List Int) (a : Int) (ty0 ty1 ty2 ty3 : TypeId) : Prop :=
      ((!false) = true ->
 (decide (a ≥ (0:Int)) = true->(decide (a < g_n) = (decide ((0:Int) <= a) && decide (a < g_n))/\True)/\True) /\
 (decide (a ≥ (0:Int)) = false->(false = (decide ((0:Int) <= a) && decide (a < g_n))/\True)/\True)) /\
 ((!false) = false->(false = (decide ((0:Int) <= a) && decide (a < g_n))/\True)/\True)
theorem has_q (g_n:Int) (g_l:List Arc) (g_i:List Int) (g_s:List Int) (a:Int) (ty0 ty1 ty2 ty3:TypeId):has_E0 g_n g_l g_i g_s a ty0 ty1 ty2 ty3 = z25 TT has_g (has_I g_n g_l g_i g_s a) (has_an g_n g_l g_i g_s a) Try.f88 [.ptr 0 0 0 0,.int .i64 a] [(0,.box false ty0 [.int .i64 g_n,.row 1,.row 2,.row 3]),(1,.row false ty1 (.arcs g_l)),(2,.row false ty2 (.ints .i64 g_i)),(3,.row false ty3 (.ints .i64 g_s))] (has_r g_n g_l g_i g_s a):=by kernel_rfl
theorem has_E (g_n:Int) (g_l:List Arc) (g_i:List Int) (g_s:List Int) (a:Int) (ty0 ty1 ty2 ty3:TypeId) (hp:True):FVc TT has_g (has_I g_n g_l g_i g_s a) (has_an g_n g_l g_i g_s a) Try.f88 [.ptr 0 0 0 0,.int .i64 a] [(0,.box false ty0 [.int .i64 g_n,.row 1,.row 2,.row 3]),(1,.row false ty1 (.arcs g_l)),(2,.row false ty2 (.ints .i64 g_i)),(3,.row false ty3 (.ints .i64 g_s))] (has_r g_n g_l g_i g_s a):=by
 refine FVc.of (has_E0 g_n g_l g_i g_s a ty0 ty1 ty2 ty3) (has_q g_n g_l g_i g_s a ty0 ty1 ty2 ty3) ?_
 unfold has_E0
 simp only [eq_self,exists_const,forall_const,decide_eq_true_eq,decide_eq_false_iff_not,and_true,true_and,bne_iff_ne,ne_eq,bne_eq_false_iff_eq,Int.toNat_natCast,Bool.not_eq_true',Bool.not_eq_false',beq_iff_eq,beq_eq_false_iff_ne,z08]
 by_cases h:0 <= a <;> simp [h] <;> omega
theorem has_ok:SpecOk Try.prog has_n true (z03 true has_fs) :=
 z09 z0n (show z18 Try.prog has_g from z04) (by kernel_rfl) mixedOrders Try.func88 rfl rfl (by kernel_rfl) (n:=2) (by decide +kernel) (I:=has_IA) (fun _ _=>z06) (A:=has_A)
  (fun args h r hr=>by
   unfold has_fs at hr
   split at hr
   ·rename_i a ty0 g_n ty1 g_l ty2 g_i ty3 g_s; cases hr; refine ⟨rfl,fun hp=>?_⟩; have hE:=has_E g_n g_l g_i g_s a ty0 ty1 ty2 ty3 hp; exact hE
   ·cases hr)
def GArc_E0 (g_n : Int) (g_l : List Arc) (g_i : List Int) (g_s : List Int) (a : Int) (ty0 ty1 ty2 ty3 : TypeId) : Prop :=
      (false = true ->
 ((((0:Int) = (z41 g_n g_l a).src /\
 (0:Int) = (z41 g_n g_l a).dst/\(0:Int) = (z41 g_n g_l a).low/\(0:Int) = (z41 g_n g_l a).cap/\(0:Int) = (z41 g_n g_l a).cost/\True) /\
 false = gOk g_n g_l a/\True) /\
 True) /\
 True) /\
 (false = false ->
 (decide (a < (0:Int)) = true ->
 ((((0:Int) = (z41 g_n g_l a).src /\
 (0:Int) = (z41 g_n g_l a).dst/\(0:Int) = (z41 g_n g_l a).low/\(0:Int) = (z41 g_n g_l a).cap/\(0:Int) = (z41 g_n g_l a).cost/\True) /\
 false = gOk g_n g_l a/\True) /\
 True) /\
 True) /\
 (decide (a < (0:Int)) = false ->
 (decide (a ≥ (↑g_l.length:Int)) = true ->
 ((((0:Int) = (z41 g_n g_l a).src /\
 (0:Int) = (z41 g_n g_l a).dst/\(0:Int) = (z41 g_n g_l a).low/\(0:Int) = (z41 g_n g_l a).cap/\(0:Int) = (z41 g_n g_l a).cost/\True) /\
 false = gOk g_n g_l a/\True) /\
 True) /\
 True) /\
 (decide (a ≥ (↑g_l.length:Int)) = false ->
 ((0:Int) <= a/\a < (↑g_l.length:Int)) /\
 a.toNat < g_l.length /\
 ∀ (x:Arc),
 g_l[a.toNat]? = some x ->
 True /\
 ((!(decide ((0:Int) <= x.src) && decide (x.src < g_n))) = true ->
 ((((0:Int) = (z41 g_n g_l a).src /\
 (0:Int) = (z41 g_n g_l a).dst /\
 (0:Int) = (z41 g_n g_l a).low/\(0:Int) = (z41 g_n g_l a).cap/\(0:Int) = (z41 g_n g_l a).cost/\True) /\
 false = gOk g_n g_l a/\True) /\
 True) /\
 True) /\
 ((!(decide ((0:Int) <= x.src) && decide (x.src < g_n))) = false ->
 True /\
 ((!(decide ((0:Int) <= x.dst) && decide (x.dst < g_n))) = true ->
 ((((0:Int) = (z41 g_n g_l a).src /\
 (0:Int) = (z41 g_n g_l a).dst /\
 (0:Int) = (z41 g_n g_l a).low/\(0:Int) = (z41 g_n g_l a).cap/\(0:Int) = (z41 g_n g_l a).cost/\True) /\
 false = gOk g_n g_l a/\True) /\
 True) /\
 True) /\
 ((!(decide ((0:Int) <= x.dst) && decide (x.dst < g_n))) = false ->
 (((x.src = (z41 g_n g_l a).src /\
 x.dst = (z41 g_n g_l a).dst/\x.low = (z41 g_n g_l a).low/\x.cap = (z41 g_n g_l a).cap/\x.cost = (z41 g_n g_l a).cost/\True) /\
 true = gOk g_n g_l a/\True) /\
 True) /\
 True)))))
theorem GArc_q (g_n:Int) (g_l:List Arc) (g_i:List Int) (g_s:List Int) (a:Int) (ty0 ty1 ty2 ty3:TypeId):GArc_E0 g_n g_l g_i g_s a ty0 ty1 ty2 ty3 = z25 TT GArc_g (GArc_I g_n g_l g_i g_s a) (GArc_an g_n g_l g_i g_s a) Try.f83 [.ptr 0 0 0 0,.int .i64 a] [(0,.box false ty0 [.int .i64 g_n,.row 1,.row 2,.row 3]),(1,.row false ty1 (.arcs g_l)),(2,.row false ty2 (.ints .i64 g_i)),(3,.row false ty3 (.ints .i64 g_s))] (GArc_r g_n g_l g_i g_s a):=by kernel_rfl
theorem GArc_E (g_n:Int) (g_l:List Arc) (g_i:List Int) (g_s:List Int) (a:Int) (ty0 ty1 ty2 ty3:TypeId) (hp:True):FVc TT GArc_g (GArc_I g_n g_l g_i g_s a) (GArc_an g_n g_l g_i g_s a) Try.f83 [.ptr 0 0 0 0,.int .i64 a] [(0,.box false ty0 [.int .i64 g_n,.row 1,.row 2,.row 3]),(1,.row false ty1 (.arcs g_l)),(2,.row false ty2 (.ints .i64 g_i)),(3,.row false ty3 (.ints .i64 g_s))] (GArc_r g_n g_l g_i g_s a):=by
 refine FVc.of (GArc_E0 g_n g_l g_i g_s a ty0 ty1 ty2 ty3) (GArc_q g_n g_l g_i g_s a ty0 ty1 ty2 ty3) ?_
 unfold GArc_E0
 simp only [eq_self,exists_const,forall_const,decide_eq_true_eq,decide_eq_false_iff_not,and_true,true_and,bne_iff_ne,ne_eq,bne_eq_false_iff_eq,Int.toNat_natCast,Bool.not_eq_true',Bool.not_eq_false',beq_iff_eq,beq_eq_false_iff_ne,z08]
 refine ⟨fun h=>(by cases h),fun h=>?_,fun h=>⟨fun h2=>?_,fun h2=>⟨by omega,by omega,fun x hx=>?_⟩⟩⟩
 ·simp [gArc_out (n:=g_n) (l:=g_l) (.inl h),zds (n:=g_n) (l:=g_l) (.inl h)]
 ·simp [gArc_out (n:=g_n) (l:=g_l) (.inr h2),zds (n:=g_n) (l:=g_l) (.inr h2)]
 ·rw [zaa (by omega) hx,gArc_at (by omega) hx]
  have e:z2g g_n x = ((decide (0 <= x.src) && decide (x.src < g_n)) && (decide (0 <= x.dst) && decide (x.dst < g_n))):=rfl
  refine ⟨fun h3=>?_,fun h3=>⟨fun h4=>?_,fun h4=>?_⟩⟩
  ·simp [e,h3]
  ·simp [e,h3,h4]
  ·simp [e,h3,h4]
theorem GArc_ok:SpecOk Try.prog GArc_n true (z03 true GArc_fs) :=
 z09 z0n (show z18 Try.prog GArc_g from z00 has_ok (z04)) (by kernel_rfl) mixedOrders Try.func83 rfl rfl (by kernel_rfl) (n:=2) (by decide +kernel) (I:=GArc_IA) (fun _ _=>z06) (A:=GArc_A)
  (fun args h r hr=>by
   unfold GArc_fs at hr
   split at hr
   ·rename_i a ty0 g_n ty1 g_l ty2 g_i ty3 g_s; cases hr; refine ⟨rfl,fun hp=>?_⟩; have hE:=GArc_E g_n g_l g_i g_s a ty0 ty1 ty2 ty3 hp; exact hE
   ·cases hr)
def zbe (l : List Int) (ty0 : TypeId) : Prop :=
      ∀ (b:Bool),
 ((0:Nat) < l.length->b = false)->(b = true->(True/\True)/\[] = l/\True)/\(b = false->(0:Nat) + l.length <= (1000000000:Nat)/\(True/\True)/\l = l/\True)
theorem CloneI_q (l:List Int) (ty0:TypeId):zbe l ty0 = z25 TT CloneI_g (CloneI_I l) (CloneI_an l) Try.f84 [.row 0] [(0,.row false ty0 (.ints .i64 l))] (CloneI_r l):=by kernel_rfl
theorem CloneI_E (l:List Int) (ty0:TypeId) (hp:l.length <= 1000000000):FVc TT CloneI_g (CloneI_I l) (CloneI_an l) Try.f84 [.row 0] [(0,.row false ty0 (.ints .i64 l))] (CloneI_r l):=by
 refine FVc.of (zbe l ty0) (CloneI_q l ty0) ?_
 unfold zbe
 simp only [eq_self,exists_const,forall_const,decide_eq_true_eq,decide_eq_false_iff_not,and_true,true_and,bne_iff_ne,ne_eq,bne_eq_false_iff_eq,Int.toNat_natCast,Bool.not_eq_true',Bool.not_eq_false',beq_iff_eq,beq_eq_false_iff_ne,z08]
 refine fun b hb=>⟨fun h=>?_,fun h=>by omega⟩
 have:l = []:=by
  cases l with
  | nil=>rfl
  | cons y l=>have:=hb (by simp); rw [h] at this; cases this
 rw [this]
theorem CloneI_ok:SpecOk Try.prog CloneI_n true (z03 true zbf) :=
 z09 z0n (show z18 Try.prog CloneI_g from z04) (by kernel_rfl) mixedOrders Try.func84 rfl rfl (by kernel_rfl) (n:=1) (by decide +kernel) (I:=CloneI_IA) (fun _ _=>z06) (A:=CloneI_A)
  (fun args h r hr=>by
   unfold zbf at hr
   split at hr
   ·rename_i ty0 l; cases hr; refine ⟨rfl,fun hp=>?_⟩; have hE:=CloneI_E l ty0 hp; exact hE
   ·cases hr)
theorem put_ok:SpecOk Try.prog put_n false put_spec :=
 z3u z0n (show z18 Try.prog put_g from z04) (by kernel_rfl) mixedOrders Try.func85 rfl rfl (by kernel_rfl) _
abbrev z5f (I:Inst) (g:Nat):=(IntKind.i64.wrap ((2:Int) * (z41 (↑I.sup.length:Int) I.arcs (↑g:Int)).src) + (0:Int))
abbrev z6p (I:Inst) (g:Nat):=(IntKind.i64.wrap ((2:Int) * (z41 (↑I.sup.length:Int) I.arcs (↑g:Int)).dst) + (1:Int))
abbrev zbw (I:Inst):=((↑I.sup.length:Int) = ↑I.sup.length/\(True/\(True/\(True/\True))))
abbrev za8 (I:Inst) (g:Nat) (x_1:Int):=((N3 I g).set (IntKind.i64.wrap (z5f I g)).toNat (IntKind.i64.wrap (x_1 + (1:Int))))
abbrev zbx (I:Inst) (g:Nat) (x:Int):=((S1 I g).set (IntKind.i64.wrap (IntKind.i64.wrap (z5f I g) + (1:Int))).toNat (IntKind.i64.wrap (x + (1:Int))))
abbrev New_a5 (I:Inst) (g:Nat) (g':Nat):=((↑I.arcs.length:Int) = ↑I.arcs.length/\(IntKind.i64.wrap ((↑g:Int) + (1:Int)) = (↑g':Int)/\True))
abbrev New_a6 (I:Inst):=((0 = 0/\True)/\((zbw I)/\(z5t Int/\(I.arcs = I.arcs/\True))))
abbrev New_a7 (I:Inst):=(∃ (g:Unit),True/\((0 = 0/\True)/\((0 = 0/\True)/\((zbw I)/\(z5t Int/\(z5t Int/\(I.arcs = I.arcs/\True)))))))
abbrev New_a8 (I:Inst):=(IntKind.i64.wrap ((2:Int) * (↑I.sup.length:Int)) + (1:Int))
abbrev z7u (I:Inst) (g:Nat):=(IntKind.i64.wrap (z6p I g) + (1:Int))
abbrev New_a10 (I:Inst) (g:Nat):=((0:Int) <= IntKind.i64.wrap (z5f I g)/\(IntKind.i64.wrap (z5f I g) < (↑(N3 I g).length:Int)))
abbrev z5g (I:Inst) (g:Nat):=(IntKind.i64.wrap (z5f I g) + (1:Int))
abbrev New_a12 (I:Inst) (g:Nat) (x_1:Int):=((0:Int) <= IntKind.i64.wrap (z6p I g)/\(IntKind.i64.wrap (z6p I g) < (↑(za8 I g x_1).length:Int)))
abbrev New_a13 (g:Nat) (I:Inst):=((0:Int) <= IntKind.i64.wrap ((↑g:Int) + (1:Int))/\(IntKind.i64.wrap ((↑g:Int) + (1:Int)) < (↑(S2 I g).length:Int)))
def New_E0 (I : Inst) (ty0 ty1 : TypeId) : Prop :=
   (((I.sup.length <= (1000000000:Nat)/\(I.arcs.length <= (1000000000:Nat)))/\((New_a7 I)/\(New_a7 I)))/\((I.sup.length <= (1000000000:Nat)/\(I.arcs.length <= (1000000000:Nat)))/\(New_a7 I)))/\∀ (g:Unit),True->(IntKind.i64.wrap (New_a8 I) = IntKind.i64.wrap (New_a8 I)/\((0:Int) <= IntKind.i64.wrap (New_a8 I)/\(IntKind.i64.wrap (New_a8 I) <= (1000000000:Int))))/\∃ (g0:Nat),(g0 <= I.arcs.length/\((0 = 0/\((↑I.arcs.length:Int) = ↑I.arcs.length/\((0:Int) = ↑g0/\True)))/\(List.replicate (IntKind.i64.wrap (New_a8 I)).toNat (0:Int) = S1 I g0/\(New_a6 I))))/\∀ (g:Nat),g <= I.arcs.length->(decide ((↑g:Int) < ↑I.arcs.length) = true->True/\(gOk (↑I.sup.length:Int) I.arcs (↑g:Int) = true->((0:Int) <= IntKind.i64.wrap (z5g I g)/\(IntKind.i64.wrap (z5g I g) < (↑(S1 I g).length:Int)))/\(IntKind.i64.wrap (z5g I g)).toNat < (S1 I g).length/\∀ (x:Int),(S1 I g)[(IntKind.i64.wrap (z5g I g)).toNat]? = some x->((0:Int) <= IntKind.i64.wrap (z5g I g)/\(IntKind.i64.wrap (z5g I g) < (↑(S1 I g).length:Int)))/\(IntKind.i64.wrap (z5g I g)).toNat < (S1 I g).length/\((0:Int) <= IntKind.i64.wrap (z7u I g)/\(IntKind.i64.wrap (z7u I g) < (↑(zbx I g x).length:Int)))/\((IntKind.i64.wrap (z7u I g)).toNat < (zbx I g x).length/\(∀ (x_1:Int),(zbx I g x)[(IntKind.i64.wrap (z7u I g)).toNat]? = some x_1->((0:Int) <= IntKind.i64.wrap (z7u I g)/\(IntKind.i64.wrap (z7u I g) < (↑(zbx I g x).length:Int)))/\((IntKind.i64.wrap (z7u I g)).toNat < (zbx I g x).length/\(∃ (g':Nat),g' <= I.arcs.length/\(I.arcs.length - g' < I.arcs.length - g/\((0 = 0/\(New_a5 I g g'))/\((zbx I g x).set (IntKind.i64.wrap (z7u I g)).toNat (IntKind.i64.wrap (x_1 + (1:Int))) = S1 I g'/\(New_a6 I)))))))))/\(gOk (↑I.sup.length:Int) I.arcs (↑g:Int) = false->∃ (g':Nat),g' <= I.arcs.length/\(I.arcs.length - g' < I.arcs.length - g/\((0 = 0/\(New_a5 I g g'))/\(S1 I g = S1 I g'/\(New_a6 I))))))/\(decide ((↑g:Int) < ↑I.arcs.length) = false->∃ (g0:Nat),(g0 <= (2:Nat) * I.sup.length/\((0 = 0/\(IntKind.i64.wrap ((2:Int) * (↑I.sup.length:Int)) = (↑((2:Nat) * I.sup.length):Int)/\((0:Int) = ↑g0/\True)))/\(S1 I g = S2 I g0/\(New_a6 I))))/\∀ (g:Nat),g <= (2:Nat) * I.sup.length->(decide ((↑g:Int) < ↑((2:Nat) * I.sup.length)) = true->(New_a13 g I)/\((IntKind.i64.wrap ((↑g:Int) + (1:Int))).toNat < (S2 I g).length/\(∀ (x:Int),(S2 I g)[(IntKind.i64.wrap ((↑g:Int) + (1:Int))).toNat]? = some x->((0:Int) <= ↑g/\((↑g:Int) < ↑(S2 I g).length))/\((↑g:Int).toNat < (S2 I g).length/\(∀ (x_1:Int),(S2 I g)[(↑g:Int).toNat]? = some x_1->(New_a13 g I)/\((IntKind.i64.wrap ((↑g:Int) + (1:Int))).toNat < (S2 I g).length/\(∃ (g':Nat),g' <= (2:Nat) * I.sup.length/\((2:Nat) * I.sup.length - g' < (2:Nat) * I.sup.length - g/\((0 = 0/\((↑((2:Nat) * I.sup.length):Int) = ↑((2:Nat) * I.sup.length)/\(IntKind.i64.wrap ((↑g:Int) + (1:Int)) = (↑g':Int)/\True)))/\((S2 I g).set (IntKind.i64.wrap ((↑g:Int) + (1:Int))).toNat (IntKind.i64.wrap (x + x_1)) = S2 I g'/\(New_a6 I)))))))))))/\(decide ((↑g:Int) < ↑((2:Nat) * I.sup.length)) = false->((0:Int) <= IntKind.i64.wrap ((2:Int) * (↑I.sup.length:Int))/\(IntKind.i64.wrap ((2:Int) * (↑I.sup.length:Int)) < (↑(S2 I g).length:Int)))/\(IntKind.i64.wrap ((2:Int) * (↑I.sup.length:Int))).toNat < (S2 I g).length/\∀ (x:Int),(S2 I g)[(IntKind.i64.wrap ((2:Int) * (↑I.sup.length:Int))).toNat]? = some x->(x = x/\((0:Int) <= x/\(x <= (1000000000:Int))))/\(S2 I g).length <= (1000000000:Nat)/\∃ (g0:Nat),(g0 <= I.arcs.length/\((0 = 0/\((0 = 0/\(0 = 0/\True))/\((↑I.arcs.length:Int) = ↑I.arcs.length/\((0:Int) = ↑g0/\True))))/\((True/\True)/\(S2 I g = N3 I g0/\(List.replicate x.toNat (0:Int) = L3 I g0/\(S2 I g = z1l I/\((0 = 0/\True)/\((zbw I)/\(I.arcs = I.arcs/\True)))))))))/\∀ (g:Nat),g <= I.arcs.length->(decide ((↑g:Int) < ↑I.arcs.length) = true->True/\(gOk (↑I.sup.length:Int) I.arcs (↑g:Int) = true->(New_a10 I g)/\(IntKind.i64.wrap (z5f I g)).toNat < (N3 I g).length/\∀ (x:Int),(N3 I g)[(IntKind.i64.wrap (z5f I g)).toNat]? = some x->((0:Int) <= x/\(x < (↑(L3 I g).length:Int)))/\x.toNat < (L3 I g).length/\(New_a10 I g)/\(IntKind.i64.wrap (z5f I g)).toNat < (N3 I g).length/\∀ (x_1:Int),(N3 I g)[(IntKind.i64.wrap (z5f I g)).toNat]? = some x_1->(New_a10 I g)/\(IntKind.i64.wrap (z5f I g)).toNat < (N3 I g).length/\(New_a12 I g x_1)/\(IntKind.i64.wrap (z6p I g)).toNat < (za8 I g x_1).length/\∀ (x_2:Int),(za8 I g x_1)[(IntKind.i64.wrap (z6p I g)).toNat]? = some x_2->((0:Int) <= x_2/\(x_2 < (↑((L3 I g).set x.toNat (↑g:Int)).length:Int)))/\x_2.toNat < ((L3 I g).set x.toNat (↑g:Int)).length/\(New_a12 I g x_1)/\((IntKind.i64.wrap (z6p I g)).toNat < (za8 I g x_1).length/\(∀ (x_3:Int),(za8 I g x_1)[(IntKind.i64.wrap (z6p I g)).toNat]? = some x_3->(New_a12 I g x_1)/\((IntKind.i64.wrap (z6p I g)).toNat < (za8 I g x_1).length/\(∃ (g':Nat),g' <= I.arcs.length/\(I.arcs.length - g' < I.arcs.length - g/\((0 = 0/\((0 = 0/\(0 = 0/\True))/\(New_a5 I g g')))/\((True/\True)/\((za8 I g x_1).set (IntKind.i64.wrap (z6p I g)).toNat (IntKind.i64.wrap (x_3 + (1:Int))) = N3 I g'/\(((L3 I g).set x.toNat (↑g:Int)).set x_2.toNat (↑g:Int) = L3 I g'/\(z1l I = z1l I/\((0 = 0/\True)/\((zbw I)/\(I.arcs = I.arcs/\True))))))))))))))/\(gOk (↑I.sup.length:Int) I.arcs (↑g:Int) = false->∃ (g':Nat),g' <= I.arcs.length/\(I.arcs.length - g' < I.arcs.length - g/\((0 = 0/\((0 = 0/\(0 = 0/\True))/\(New_a5 I g g')))/\((True/\True)/\(N3 I g = N3 I g'/\(L3 I g = L3 I g'/\(z1l I = z1l I/\((0 = 0/\True)/\((zbw I)/\(I.arcs = I.arcs/\True)))))))))))/\(decide ((↑g:Int) < ↑I.arcs.length) = false->(0 = 0/\True)/\((zbw I)/\(I.arcs = I.arcs/\(L3 I g = z83 I/\(z1l I = z1l I/\True)))))))
theorem New_q (I:Inst) (ty0 ty1:TypeId):New_E0 I ty0 ty1 = z25 TT New_g (New_I I) (New_an I) Try.f67 [.agg [.row 0,.row 1]] [(0,.row false ty0 (.ints .i64 I.sup)),(1,.row false ty1 (.arcs I.arcs))] (New_r I):=by kernel_rfl
theorem New_E (I:Inst) (ty0 ty1:TypeId) (hp:I.sup.length <= 10000/\I.arcs.length <= 10000):FVc TT New_g (New_I I) (New_an I) Try.f67 [.agg [.row 0,.row 1]] [(0,.row false ty0 (.ints .i64 I.sup)),(1,.row false ty1 (.arcs I.arcs))] (New_r I):=by
 refine FVc.of (New_E0 I ty0 ty1) (New_q I ty0 ty1) ?_
 unfold New_E0
 delta New_a13 New_a12 z5g New_a10 z7u New_a8 New_a7 New_a6 New_a5 zbx za8 zbw z6p z5f
 simp only [eq_self,exists_const,forall_const,decide_eq_true_eq,decide_eq_false_iff_not,and_true,true_and,bne_iff_ne,ne_eq,bne_eq_false_iff_eq,Int.toNat_natCast,Bool.not_eq_true',Bool.not_eq_false',beq_iff_eq,beq_eq_false_iff_ne,z08]
 obtain ⟨p1,p2⟩:=hp
 have e1:IntKind.i64.wrap (2 * (I.sup.length:Int)) = ((2 * I.sup.length:Nat):Int):=by rw [w64 (by omega) (by omega)]; omega
 have e2:IntKind.i64.wrap (((2 * I.sup.length:Nat):Int) + 1) = ((2 * I.sup.length + 1:Nat):Int):=by rw [w64 (by omega) (by omega)]; omega
 simp only [e1,e2,Int.toNat_natCast,show ∀ k,(S1 I k).length = 2 * I.sup.length + 1 from fun k=>by simp [S1],show ∀ k,(S2 I k).length = 2 * I.sup.length + 1 from fun k=>by simp [S2],show ∀ k,(N3 I k).length = 2 * I.sup.length + 1 from fun k=>by simp [N3],List.length_set]
 have hL3:∀ k,k <= I.arcs.length->(L3 I k).length = z7k I (2 * I.sup.length):=fun k hk=>zdp I (fun t=>zb7 hk t) _
 have hs1:∀ (k j:Nat) (v:Int),(S1 I k)[j]? = some v->k <= I.arcs.length->0 <= v/\v <= 10000:=fun k j v h hk=>by
  have e:=S1_get h
  subst e
  have:=cntA_le I (j - 1) k
  split <;> omega
 have hsum:∀ k,k <= 2 * I.sup.length->z7k I k <= 200000000:=fun k hk=>by
  have h1:=zeq I k (2 * I.sup.length - k)
  rw [show k + (2 * I.sup.length - k) = 2 * I.sup.length by omega] at h1
  have h2:=sumA_le I (2 * I.sup.length)
  have h3:2 * I.sup.length * I.arcs.length <= 20000 * 10000:=Nat.mul_le_mul (by omega) p2
  omega
 have arcs:∀ k:Nat,k < I.arcs.length->∃ a,I.arcs[k]? = some a/\gOk I.sup.length I.arcs k = z2g I.sup.length a/\(z2g I.sup.length a = true->z41 I.sup.length I.arcs k = a):=fun k hk=>by
  have ha:I.arcs[k]? = some I.arcs[k]:=List.getElem?_eq_getElem hk
  exact ⟨_,ha,zaa (by omega) (by simpa using ha),fun ho=>by rw [gArc_at (x:=I.arcs[k]) (by omega) (by simpa using ha),if_pos ho]⟩
 refine ⟨by omega,by omega,0,⟨by omega,rfl,by rw [S1_zero]⟩,fun k hk=>⟨fun h1=>?_,fun h1=>?_⟩⟩
 ·obtain ⟨a,ha,hgo,hga⟩:=arcs k (by omega)
  rw [hgo]
  refine ⟨fun ho=>?_,fun ho=>⟨k + 1,by omega,by omega,w64 (by omega) (by omega),S1_same ha ho⟩⟩
  rw [hga ho]
  obtain ⟨o1,o2,o3,o4⟩:=okArc_iff.1 ho
  have f1:IntKind.i64.wrap (IntKind.i64.wrap (IntKind.i64.wrap (2 * a.src) + 0) + 1) = 2 * a.src + 1:=by rw [w64 (x:=2 * a.src) (by omega) (by omega),w64 (x:=2 * a.src + 0) (by omega) (by omega),w64 (by omega) (by omega)]; omega
  have f2:IntKind.i64.wrap (IntKind.i64.wrap (IntKind.i64.wrap (2 * a.dst) + 1) + 1) = 2 * a.dst + 2:=by rw [w64 (x:=2 * a.dst) (by omega) (by omega),w64 (x:=2 * a.dst + 1) (by omega) (by omega),w64 (by omega) (by omega)]; omega
  rw [f1,f2]
  refine ⟨by omega,by omega,fun x hx=>?_⟩
  have bx:=hs1 k _ x hx hk
  rw [w64 (x:=x + 1) (by omega) (by omega)]
  refine ⟨by omega,by omega,by omega,by omega,fun y hy=>?_⟩
  have hstep:=S1_step ha ho hx hy
  have by':0 <= y/\y <= 10001:=by
   rw [List.getElem?_set] at hy
   split at hy
   ·split at hy
    ·cases hy; omega
    ·cases hy
   ·have:=hs1 k _ y hy hk; omega
  rw [w64 (x:=y + 1) (by omega) (by omega)]
  exact ⟨by omega,by omega,k + 1,by omega,by omega,w64 (by omega) (by omega),hstep⟩
 have hk':k = I.arcs.length:=by omega
 refine ⟨0,⟨by omega,⟨trivial,rfl⟩,by rw [hk',S1_S2]⟩,fun k2 hk2=>⟨fun h2=>?_,fun h2=>?_⟩⟩
 ·have f:IntKind.i64.wrap ((k2:Int) + 1) = ((k2 + 1:Nat):Int):=by rw [w64 (by omega) (by omega)]; omega
  simp only [f,Int.toNat_natCast]
  refine ⟨by omega,by omega,fun x hx=>⟨by omega,by omega,fun y hy=>⟨by omega,by omega,k2 + 1,by omega,by omega,rfl,?_⟩⟩⟩
  have hstep:=S2_step (by omega) hx hy
  have ex:=S2_get hx
  have ey:=S2_get hy
  rw [if_neg (by omega)] at ex
  rw [if_pos (by omega)] at ey
  have c1:=cntA_le I (k2 + 1 - 1) I.arcs.length
  have c2:=hsum k2 hk2
  rw [w64 (by omega) (by omega),hstep]
 have hk2':k2 = 2 * I.sup.length:=by omega
 subst hk2'
 rw [S2_end]
 have hstart:(z1l I).length = 2 * I.sup.length + 1:=by simp [z1l]
 refine ⟨by omega,by omega,fun x hx=>?_⟩
 have ex:=startF_get hx
 have bx:=hsum (2 * I.sup.length) (by omega)
 subst ex
 refine ⟨by omega,by omega,0,⟨by omega,rfl,startF_N3 I,by rw [L3_zero]; simp,rfl⟩,fun m hm=>⟨fun h3=>?_,fun h3=>?_⟩⟩
 ·obtain ⟨a,ha,hgo,hga⟩:=arcs m (by omega)
  have hml:m < I.arcs.length:=by omega
  rw [hgo]
  refine ⟨fun ho=>?_,fun ho=>?_⟩
  ·rw [hga ho]
   obtain ⟨o1,o2,o3,o4⟩:=okArc_iff.1 ho
   have f1:IntKind.i64.wrap (IntKind.i64.wrap (2 * a.src) + 0) = ((2 * a.src).toNat:Int):=by rw [w64 (x:=2 * a.src) (by omega) (by omega),w64 (by omega) (by omega)]; omega
   have f2:IntKind.i64.wrap (IntKind.i64.wrap (2 * a.dst) + 1) = ((2 * a.dst + 1).toNat:Int):=by rw [w64 (x:=2 * a.dst) (by omega) (by omega),w64 (by omega) (by omega)]; omega
   obtain ⟨P,hP⟩:∃ P,P = (2 * a.src).toNat:=⟨_,rfl⟩
   obtain ⟨Q,hQ⟩:∃ Q,Q = (2 * a.dst + 1).toNat:=⟨_,rfl⟩
   rw [f1,f2,<- hP,<- hQ]
   simp only [Int.toNat_natCast]
   have hne:Q ≠ P:=by omega
   have hPn:P < 2 * I.sup.length:=by omega
   have hQn:Q < 2 * I.sup.length:=by omega
   have hin:∀ j,inK I j m = true ↔ j = P ∨ j = Q:=fun j=>by
    rw [inK_of ha,ho,Bool.true_and,hasK_iff]; omega
   have iP:=(hin P).2 (.inl rfl)
   have iQ:=(hin Q).2 (.inr rfl)
   have room:∀ j,j < 2 * I.sup.length->inK I j m = true->z7k I j + z4c I m j < z7k I (2 * I.sup.length):=fun j hj hi=>by
    have h1:=cntA_lt hml hi
    have h2:=zeq I (j + 1) (2 * I.sup.length - (j + 1))
    rw [show j + 1 + (2 * I.sup.length - (j + 1)) = 2 * I.sup.length by omega] at h2
    have h4:z7k I (j + 1) = z7k I j + z4c I I.arcs.length j:=rfl
    omega
   have rP:=room P hPn iP
   have rQ:=room Q hQn iQ
   have hl:=hL3 m hm
   have dQ:(fun t=>t == P || (fun _=>false) t) Q = false:=by simp [hne]
   refine ⟨by omega,by omega,fun x hx=>?_⟩
   rw [N3_nP] at hx
   have ex:=nP_get hx rfl
   subst ex
   rw [hl]
   refine ⟨by omega,by omega,by omega,by omega,fun x1 hx1=>?_⟩
   rw [N3_nP] at hx1
   have ex1:=nP_get hx1 rfl
   subst ex1
   rw [w64 (x:=((z7k I P + z4c I m P:Nat):Int) + 1) (by omega) (by omega),N3_nP,nP_put iP rfl,L3_segP,Int.toNat_natCast,L3_put hml hPn iP rfl]
   refine ⟨by omega,by omega,by omega,by omega,fun x2 hx2=>?_⟩
   have ex2:=nP_get hx2 dQ
   subst ex2
   refine ⟨by omega,by omega,by omega,by omega,fun x3 hx3=>?_⟩
   have ex3:=nP_get hx3 dQ
   subst ex3
   rw [w64 (x:=((z7k I Q + z4c I m Q:Nat):Int) + 1) (by omega) (by omega),nP_put iQ dQ,Int.toNat_natCast,L3_put hml hQn iQ dQ]
   refine ⟨by omega,by omega,m + 1,by omega,by omega,w64 (by omega) (by omega),?_,?_⟩
   ·exact nP_done hin
   ·exact L3_done hin
  ·obtain ⟨s1,s2⟩:=N3_same ha ho
   exact ⟨m + 1,by omega,by omega,w64 (by omega) (by omega),s1,s2⟩
 ·rw [show m = I.arcs.length by omega,L3_end]
theorem New_ok:SpecOk Try.prog New_n true (z03 true New_fs) :=
 z09 z0n (show z18 Try.prog New_g from z00 Copy_ok (z00 GArc_ok (z00 CloneI_ok (z00 put_ok (z04))))) (by kernel_rfl) mixedOrders Try.func67 rfl rfl (by kernel_rfl) (n:=1) (by decide +kernel) (I:=New_IA) (fun _ _=>z06) (A:=New_A)
  (fun args h r hr=>by
   unfold New_fs at hr
   split at hr
   ·rename_i ty0 I_s ty1 I_a; cases hr; refine ⟨rfl,fun hp=>?_⟩; have hE:=New_E ⟨I_s,I_a⟩ ty0 ty1 hp; exact hE
   ·cases hr)
def along_E0 (x : List Int) (a : Int) (ty0 : TypeId) : Prop :=
      (decide (a ≥ (↑x.length:Int)) = true->((0:Int) = x.getD a.toNat (0:Int)/\True)/\True) /\
 (decide (a ≥ (↑x.length:Int)) = false ->
 ((0:Int) <= a/\a < (↑x.length:Int))/\a.toNat < x.length/\∀ (x_1:Int),x[a.toNat]? = some x_1->(x_1 = x.getD a.toNat (0:Int)/\True)/\True)
theorem along_q (x:List Int) (a:Int) (ty0:TypeId):along_E0 x a ty0 = z25 TT along_g (along_I x a) (along_an x a) Try.f69 [.row 0,.int .i64 a] [(0,.row false ty0 (.ints .i64 x))] (along_r x a):=by kernel_rfl
theorem along_E (x:List Int) (a:Int) (ty0:TypeId) (hp:0 <= a):FVc TT along_g (along_I x a) (along_an x a) Try.f69 [.row 0,.int .i64 a] [(0,.row false ty0 (.ints .i64 x))] (along_r x a):=by
 refine FVc.of (along_E0 x a ty0) (along_q x a ty0) ?_
 unfold along_E0
 simp only [eq_self,exists_const,forall_const,decide_eq_true_eq,decide_eq_false_iff_not,and_true,true_and,bne_iff_ne,ne_eq,bne_eq_false_iff_eq,Int.toNat_natCast,Bool.not_eq_true',Bool.not_eq_false',beq_iff_eq,beq_eq_false_iff_ne,z08]
 refine ⟨fun h=>?_,fun h=>⟨by omega,by omega,fun y hy=>by simp [List.getD,hy]⟩⟩
 simp [List.getD,show ¬ a.toNat < x.length by omega]
theorem along_ok:SpecOk Try.prog along_n true (z03 true along_fs) :=
 z09 z0n (show z18 Try.prog along_g from z04) (by kernel_rfl) mixedOrders Try.func69 rfl rfl (by kernel_rfl) (n:=2) (by decide +kernel) (I:=along_IA) (fun _ _=>z06) (A:=along_A)
  (fun args h r hr=>by
   unfold along_fs at hr
   split at hr
   ·rename_i a ty0 x; cases hr; refine ⟨rfl,fun hp=>?_⟩; have hE:=along_E x a ty0 hp; exact hE
   ·cases hr)
def fit_E0 (x : Arc) (n : Int) : Prop :=
      (decide (n ≥ x.low) = true ->
 ((x.cap == (4611686018427387904:Int)) = true->(true = fitF x n/\True)/\True) /\
 ((x.cap == (4611686018427387904:Int)) = false->(decide (n <= x.cap) = fitF x n/\True)/\True)) /\
 (decide (n ≥ x.low) = false->(false = fitF x n/\True)/\True)
theorem fit_q (x:Arc) (n:Int):fit_E0 x n = z25 TT fit_g (fit_I x n) (fit_an x n) Try.f56 [.agg (z6r x),.int .i64 n] [] (fit_r x n):=by kernel_rfl
theorem fit_E (x:Arc) (n:Int) (hp:True):FVc TT fit_g (fit_I x n) (fit_an x n) Try.f56 [.agg (z6r x),.int .i64 n] [] (fit_r x n):=by
 refine FVc.of (fit_E0 x n) (fit_q x n) ?_
 unfold fit_E0
 simp only [eq_self,exists_const,forall_const,decide_eq_true_eq,decide_eq_false_iff_not,and_true,true_and,bne_iff_ne,ne_eq,bne_eq_false_iff_eq,Int.toNat_natCast,Bool.not_eq_true',Bool.not_eq_false',beq_iff_eq,beq_eq_false_iff_ne,z08]
 unfold fitF inf
 refine ⟨fun h=>⟨fun h2=>?_,fun h2=>?_⟩,fun h=>?_⟩
 ·simp [h2]; omega
 ·simp [h2]; omega
 ·simp; omega
theorem fit_ok:SpecOk Try.prog fit_n true (z03 true fit_fs) :=
 z09 z0n (show z18 Try.prog fit_g from z04) (by kernel_rfl) mixedOrders Try.func56 rfl rfl (by kernel_rfl) (n:=2) (by decide +kernel) (I:=fit_IA) (fun _ _=>z06) (A:=fit_A)
  (fun args h r hr=>by
   unfold fit_fs at hr
   split at hr
   ·rename_i x_0 x_1 x_2 x_3 x_4 n; cases hr; refine ⟨rfl,fun hp=>?_⟩; have hE:=fit_E ⟨x_0,x_1,x_2,x_3,x_4⟩ n hp; exact hE
   ·cases hr)
theorem more_ok:SpecOk Try.prog more_n false more_spec :=
 z3u z0n (show z18 Try.prog more_g from z00 zbz (z00 z90 (z04))) (by kernel_rfl) mixedOrders Try.func86 rfl rfl (by kernel_rfl) _
theorem less_ok:SpecOk Try.prog less_n false less_spec :=
 z3u z0n (show z18 Try.prog less_g from z00 zbz (z00 Minus_ok (z04))) (by kernel_rfl) mixedOrders Try.func87 rfl rfl (by kernel_rfl) _
theorem flows_ok:SpecOk Try.prog flows_n false flows_spec :=
 z3u z0n (show z18 Try.prog flows_g from z00 GArc_ok (z00 more_ok (z00 less_ok (z04)))) (by kernel_rfl) mixedOrders Try.func68 rfl rfl (by kernel_rfl) _
abbrev zbu (I:Inst) (x:List Int):=(∃ (g:Unit),True/\((True/\(0 = 0/\(0 = 0/\True)))/\((True/\(0 = 0/\True))/\(((↑I.sup.length:Int) = ↑I.sup.length/\(True/\(True/\(True/\True))))/\(I.arcs = I.arcs/\(z83 I = z83 I/\(z1l I = z1l I/\(List.replicate (↑I.sup.length:Int).toNat { hi:=(0:Int),lo:=(0:Int):Wide } = List.replicate (↑I.sup.length:Int).toNat { hi:=(0:Int),lo:=(0:Int):Wide }/\((True/\(True/\True))/\(I.sup = I.sup/\(I.arcs = I.arcs/\(x = x/\True))))))))))))
abbrev z35 (I:Inst) (g:Nat):=(z41 (↑I.sup.length:Int) I.arcs (↑g:Int))
abbrev Net_a2 (I:Inst):=((↑I.sup.length:Int) = ↑I.sup.length/\((0:Int) <= ↑I.sup.length/\((↑I.sup.length:Int) <= 1000000000)))
abbrev zbv (I:Inst) (x:List Int) (g:Nat) (x_1:Wide):=((z3j I x g).set (z35 I g).src.toNat (z5d x_1 (W (x.getD (↑g:Int).toNat (0:Int)))))
abbrev Net_a4 (I:Inst):=(I.sup.length <= (10000:Nat)/\(I.arcs.length <= (10000:Nat)))
abbrev Net_a5 (I:Inst):=((↑I.sup.length:Int) = ↑I.sup.length/\(True/\(True/\(True/\True))))
def Net_E0 (I : Inst) (x : List Int) (ty0 ty1 ty2 : TypeId) : Prop :=
   (((Net_a2 I)/\(((Net_a4 I)/\(zbu I x))/\((Net_a4 I)/\(zbu I x))))/\((Net_a4 I)/\(((Net_a2 I)/\(zbu I x))/\((Net_a2 I)/\(zbu I x))))/\(((Net_a2 I)/\((Net_a4 I)/\(zbu I x)))/\((Net_a4 I)/\((Net_a2 I)/\(zbu I x)))))/\∀ (g:Unit),True->∃ (g0:Nat),(g0 <= I.arcs.length/\((True/\(0 = 0/\((↑I.arcs.length:Int) = ↑I.arcs.length/\((0:Int) = ↑g0/\True))))/\((True/\(0 = 0/\True))/\((Net_a5 I)/\(I.arcs = I.arcs/\(z83 I = z83 I/\(z1l I = z1l I/\(List.replicate (↑I.sup.length:Int).toNat { hi:=(0:Int),lo:=(0:Int):Wide } = z3j I x g0/\(x = x/\True)))))))))/\∀ (g:Nat),g <= I.arcs.length->(decide ((↑g:Int) < ↑I.arcs.length) = true->(0:Int) <= ↑g/\True/\(gOk (↑I.sup.length:Int) I.arcs (↑g:Int) = true->((0:Int) <= (z35 I g).src/\((z35 I g).src < (↑(z3j I x g).length:Int)))/\((z35 I g).src.toNat < (z3j I x g).length/\(∀ (x_1:Wide),(z3j I x g)[(z35 I g).src.toNat]? = some x_1->I64 (x.getD (↑g:Int).toNat (0:Int))/\((x_1.ok/\((W (x.getD (↑g:Int).toNat (0:Int))).ok))/\(((0:Int) <= (z35 I g).src/\((z35 I g).src < (↑(z3j I x g).length:Int)))/\((z35 I g).src.toNat < (z3j I x g).length/\(((0:Int) <= (z35 I g).dst/\((z35 I g).dst < (↑(zbv I x g x_1).length:Int)))/\((z35 I g).dst.toNat < (zbv I x g x_1).length/\(∀ (x_2:Wide),(zbv I x g x_1)[(z35 I g).dst.toNat]? = some x_2->I64 (x.getD (↑g:Int).toNat (0:Int))/\((x_2.ok/\((W (x.getD (↑g:Int).toNat (0:Int))).ok))/\(((0:Int) <= (z35 I g).dst/\((z35 I g).dst < (↑(zbv I x g x_1).length:Int)))/\((z35 I g).dst.toNat < (zbv I x g x_1).length/\(∃ (g':Nat),g' <= I.arcs.length/\(I.arcs.length - g' < I.arcs.length - g/\((True/\(0 = 0/\((↑I.arcs.length:Int) = ↑I.arcs.length/\(IntKind.i64.wrap ((↑g:Int) + (1:Int)) = (↑g':Int)/\True))))/\((True/\(0 = 0/\True))/\((Net_a5 I)/\(I.arcs = I.arcs/\(z83 I = z83 I/\(z1l I = z1l I/\((zbv I x g x_1).set (z35 I g).dst.toNat (z5b x_2 (W (x.getD (↑g:Int).toNat (0:Int)))) = z3j I x g'/\(x = x/\True))))))))))))))))))))))/\(gOk (↑I.sup.length:Int) I.arcs (↑g:Int) = false->∃ (g':Nat),g' <= I.arcs.length/\(I.arcs.length - g' < I.arcs.length - g/\((True/\(0 = 0/\((↑I.arcs.length:Int) = ↑I.arcs.length/\(IntKind.i64.wrap ((↑g:Int) + (1:Int)) = (↑g':Int)/\True))))/\((True/\(0 = 0/\True))/\((Net_a5 I)/\(I.arcs = I.arcs/\(z83 I = z83 I/\(z1l I = z1l I/\(z3j I x g = z3j I x g'/\(x = x/\True)))))))))))/\(decide ((↑g:Int) < ↑I.arcs.length) = false->(True/\True)/\(z3j I x g = netF I x/\True))
theorem Net_q (I:Inst) (x:List Int) (ty0 ty1 ty2:TypeId):Net_E0 I x ty0 ty1 ty2 = z25 TT Net_g (Net_I I x) (Net_an I x) Try.f57 [.agg [.row 0,.row 1],.row 2] [(0,.row false ty0 (.ints .i64 I.sup)),(1,.row false ty1 (.arcs I.arcs)),(2,.row false ty2 (.ints .i64 x))] (Net_r I x):=by kernel_rfl
theorem Net_E (I:Inst) (x:List Int) (ty0 ty1 ty2:TypeId) (hp:I.sup.length <= 10000/\I.arcs.length <= 10000/\A64 x):FVc TT Net_g (Net_I I x) (Net_an I x) Try.f57 [.agg [.row 0,.row 1],.row 2] [(0,.row false ty0 (.ints .i64 I.sup)),(1,.row false ty1 (.arcs I.arcs)),(2,.row false ty2 (.ints .i64 x))] (Net_r I x):=by
 refine FVc.of (Net_E0 I x ty0 ty1 ty2) (Net_q I x ty0 ty1 ty2) ?_
 unfold Net_E0
 delta Net_a5 Net_a4 zbv Net_a2 z35 zbu
 simp only [eq_self,exists_const,forall_const,decide_eq_true_eq,decide_eq_false_iff_not,and_true,true_and,bne_iff_ne,ne_eq,bne_eq_false_iff_eq,Int.toNat_natCast,Bool.not_eq_true',Bool.not_eq_false',beq_iff_eq,beq_eq_false_iff_ne,z08]
 obtain ⟨p1,p2,p3⟩:=hp
 simp only [netAt_len,List.length_set]
 refine ⟨by omega,0,⟨by omega,rfl,?_⟩,fun k hk=>⟨fun h1=>?_,fun h1=>?_⟩⟩
 ·unfold z3j
  simp only [z6o]
  rw [W_zero]
  simp [List.map_const']
 ·obtain ⟨a,ha⟩:∃ a,I.arcs[k]? = some a:=⟨_,List.getElem?_eq_getElem (by omega)⟩
  have hg:z41 I.sup.length I.arcs k = if z2g I.sup.length a then a else ⟨0,0,0,0,0⟩:=gArc_at (by omega) (by simpa using ha)
  have hgo:gOk I.sup.length I.arcs k = z2g I.sup.length a:=zaa (by omega) (by simpa using ha)
  have hx:=p3.getD k
  rw [hg,hgo]
  refine ⟨by omega,fun ho=>?_,fun ho=>⟨k + 1,by omega,by omega,w64 (by omega) (by omega),netAt_same ha ho⟩⟩
  rw [if_pos ho]
  obtain ⟨o1,o2,o3,o4⟩:=okArc_iff.1 ho
  refine ⟨by omega,by omega,fun p hp=>?_⟩
  obtain ⟨_,hpw⟩:=netAt_get hp
  refine ⟨hx,⟨by rw [hpw]; exact W_ok _,W_ok _⟩,by omega,by omega,by omega,by omega,fun q hq=>?_⟩
  obtain ⟨q1,q2,q3⟩:=netAt_step ha ho hp hq
  exact ⟨hx,⟨q1,W_ok _⟩,by omega,by omega,k + 1,by omega,by omega,w64 (by omega) (by omega),q3⟩
 ·rw [show k = I.arcs.length by omega]; rfl
theorem Net_ok:SpecOk Try.prog Net_n true (z03 true Net_fs) :=
 z09 z0n (show z18 Try.prog Net_g from z00 New_ok (z00 along_ok (z00 flows_ok (z04)))) (by kernel_rfl) mixedOrders Try.func57 rfl rfl (by kernel_rfl) (n:=2) (by decide +kernel) (I:=Net_IA) (fun _ _=>z06) (A:=Net_A)
  (fun args h r hr=>by
   unfold Net_fs at hr
   split at hr
   ·rename_i ty0 I_s ty1 I_a ty2 x; cases hr; refine ⟨rfl,fun hp=>?_⟩; have hE:=Net_E ⟨I_s,I_a⟩ x ty0 ty1 ty2 hp; exact hE
   ·cases hr)
def Fits_E0 (I : Inst) (x : List Int) (ty0 ty1 ty2 : TypeId) : Prop :=
   True/\((z0b I != (0:Int)) = true->(z0b I = z16 I x/\True)/\True)/\((z0b I != (0:Int)) = false->(((↑x.length:Int) != (↑I.arcs.length:Int)) = true->((30:Int) = z16 I x/\True)/\True)/\(((↑x.length:Int) != (↑I.arcs.length:Int)) = false->∃ (g0:Nat),((g0 <= I.arcs.length/\(z1j (List.drop g0 I.arcs) (List.drop g0 x) = z1j I.arcs x))/\((True/\(0 = 0/\(True/\((↑I.arcs.length:Int) = ↑I.arcs.length/\((0:Int) = ↑g0/\True)))))/\((True/\(True/\True))/\(I.sup = I.sup/\(I.arcs = I.arcs/\(x = x/\True))))))/\∀ (g:Nat),g <= I.arcs.length/\z1j (List.drop g I.arcs) (List.drop g x) = z1j I.arcs x->(decide ((↑g:Int) < ↑I.arcs.length) = true->((0:Int) <= ↑g/\((↑g:Int) < ↑I.arcs.length))/\((↑g:Int).toNat < I.arcs.length/\(∀ (x_1:Arc),I.arcs[(↑g:Int).toNat]? = some x_1->((0:Int) <= ↑g/\((↑g:Int) < ↑x.length))/\((↑g:Int).toNat < x.length/\(∀ (x_2:Int),x[(↑g:Int).toNat]? = some x_2->True/\(((!fitF x_1 x_2) = true->((31:Int) = z16 I x/\True)/\True)/\((!fitF x_1 x_2) = false->∃ (g':Nat),(g' <= I.arcs.length/\(z1j (List.drop g' I.arcs) (List.drop g' x) = z1j I.arcs x))/\(I.arcs.length - g' < I.arcs.length - g/\((True/\(0 = 0/\(True/\((↑I.arcs.length:Int) = ↑I.arcs.length/\(IntKind.i64.wrap ((↑g:Int) + (1:Int)) = (↑g':Int)/\True)))))/\((True/\(True/\True))/\(I.sup = I.sup/\(I.arcs = I.arcs/\(x = x/\True)))))))))))))/\(decide ((↑g:Int) < ↑I.arcs.length) = false->(I.sup.length <= (10000:Nat)/\(I.arcs.length <= (10000:Nat)/\(A64 x)))/\(∃ (g0:Nat),((g0 <= I.sup.length/\(∀ (v:Nat),v < g0->W (z6o (↑I.sup.length:Int) I.arcs x I.arcs.length (↑v:Int)) = W (I.sup.getD v (0:Int))))/\((0 = 0/\(True/\((↑(netF I x).length:Int) = ↑(netF I x).length/\((0:Int) = ↑g0/\True))))/\(netF I x = netF I x/\((True/\(True/\True))/\(I.sup = I.sup/\(I.arcs = I.arcs/\True))))))/\(∀ (g:Nat),(g <= I.sup.length/\(∀ (v:Nat),v < g->W (z6o (↑I.sup.length:Int) I.arcs x I.arcs.length (↑v:Int)) = W (I.sup.getD v (0:Int))))->(decide ((↑g:Int) < ↑(netF I x).length) = true->((0:Int) <= ↑g/\((↑g:Int) < ↑(netF I x).length))/\((↑g:Int).toNat < (netF I x).length/\(∀ (x_1:Wide),(netF I x)[(↑g:Int).toNat]? = some x_1->((0:Int) <= ↑g/\((↑g:Int) < ↑I.sup.length))/\((↑g:Int).toNat < I.sup.length/\(∀ (x_2:Int),I.sup[(↑g:Int).toNat]? = some x_2->I64 x_2/\(((!decide ([x_1.hi,x_1.lo] = [(W x_2).hi,(W x_2).lo])) = true->((32:Int) = z16 I x/\True)/\True)/\((!decide ([x_1.hi,x_1.lo] = [(W x_2).hi,(W x_2).lo])) = false->∃ (g':Nat),(g' <= I.sup.length/\(∀ (v:Nat),v < g'->W (z6o (↑I.sup.length:Int) I.arcs x I.arcs.length (↑v:Int)) = W (I.sup.getD v (0:Int))))/\(I.sup.length - g' < I.sup.length - g/\((0 = 0/\(True/\((↑(netF I x).length:Int) = ↑(netF I x).length/\(IntKind.i64.wrap ((↑g:Int) + (1:Int)) = (↑g':Int)/\True))))/\(netF I x = netF I x/\((True/\(True/\True))/\(I.sup = I.sup/\(I.arcs = I.arcs/\True)))))))))))))/\(decide ((↑g:Int) < ↑(netF I x).length) = false->((0:Int) = z16 I x/\True)/\True))))))
theorem Fits_q (I:Inst) (x:List Int) (ty0 ty1 ty2:TypeId):Fits_E0 I x ty0 ty1 ty2 = z25 TT Fits_g (Fits_I I x) (Fits_an I x) Try.f49 [.agg [.row 0,.row 1],.row 2] [(0,.row false ty0 (.ints .i64 I.sup)),(1,.row false ty1 (.arcs I.arcs)),(2,.row false ty2 (.ints .i64 x))] (Fits_r I x):=by kernel_rfl
theorem Fits_E (I:Inst) (x:List Int) (ty0 ty1 ty2:TypeId) (hp:I.sup.length <= 10000/\I.arcs.length <= 10000/\A64 x/\A64 I.sup):FVc TT Fits_g (Fits_I I x) (Fits_an I x) Try.f49 [.agg [.row 0,.row 1],.row 2] [(0,.row false ty0 (.ints .i64 I.sup)),(1,.row false ty1 (.arcs I.arcs)),(2,.row false ty2 (.ints .i64 x))] (Fits_r I x):=by
 refine FVc.of (Fits_E0 I x ty0 ty1 ty2) (Fits_q I x ty0 ty1 ty2) ?_
 unfold Fits_E0
 simp only [eq_self,exists_const,forall_const,decide_eq_true_eq,decide_eq_false_iff_not,and_true,true_and,bne_iff_ne,ne_eq,bne_eq_false_iff_eq,Int.toNat_natCast,Bool.not_eq_true',Bool.not_eq_false',beq_iff_eq,beq_eq_false_iff_ne,z08]
 obtain ⟨p1,p2,p3,p4⟩:=hp
 simp only [netF_len]
 refine ⟨fun h=>by simp [z16,h],fun h1=>⟨fun h2=>?_,fun h2=>⟨0,⟨⟨by omega,by simp⟩,rfl⟩,fun k hk=>⟨fun h3=>⟨by omega,by omega,fun a ha=>⟨by omega,by omega,fun y hy=>?_⟩⟩,fun h3=>?_⟩⟩⟩⟩
 ·have h2':¬ x.length = I.arcs.length:=by omega
  simp [z16,h1,h2']
 ·have e:=fitsAll_drop (x:=x) ha
  have hyd:x.getD k 0 = y:=by simp [List.getD,hy]
  rw [hk.2,hyd] at e
  have h2':x.length = I.arcs.length:=by omega
  refine ⟨fun h4=>?_,fun h4=>⟨k + 1,⟨by omega,?_⟩,by omega,w64 (by omega) (by omega)⟩⟩
  ·rw [h4] at e
   simp only [Bool.false_and] at e
   simp [z16,h1,h2',e]
  ·rw [e,h4,Bool.true_and]
 ·have h2':x.length = I.arcs.length:=by omega
  have hall:z1j I.arcs x = true:=by rw [<- hk.2,z6d (by omega)]; rfl
  refine ⟨⟨p1,p2,p3⟩,0,⟨⟨by omega,fun v hv=>by omega⟩,rfl⟩,fun j hj=>⟨fun h4=>⟨by omega,by omega,fun w hw=>⟨by omega,by omega,fun z hz=>?_⟩⟩,fun h4=>?_⟩⟩
  ·obtain ⟨_,rfl⟩:=z0z hw
   have hzd:I.sup.getD j 0 = z:=by simp [List.getD,hz]
   have hwe:∀ u v:Wide,[u.hi,u.lo] = [v.hi,v.lo] ↔ u = v:=fun u v=>by obtain ⟨u1,u2⟩:=u; obtain ⟨v1,v2⟩:=v; simp
   rw [hwe]
   refine ⟨p4 z (List.mem_of_getElem? hz),fun h5=>?_,fun h5=>⟨j + 1,⟨by omega,fun v hv=>?_⟩,by omega,w64 (by omega) (by omega)⟩⟩
   ·have hno:netOk I x = false:=by
     rw [Bool.eq_false_iff]
     intro h
     unfold netOk at h
     have:=List.all_eq_true.1 h j (List.mem_range.2 (by omega))
     rw [decide_eq_true_eq,hzd] at this
     exact h5 this
    simp [z16,h1,h2',hall,hno]
   ·by_cases hvj:v = j
    ·subst hvj; rw [hzd]; exact h5
    ·exact hj.2 v (by omega)
  ·have hno:netOk I x = true:=by
    unfold netOk
    rw [List.all_eq_true]
    intro v hv
    rw [decide_eq_true_eq]
    exact hj.2 v (by have:=List.mem_range.1 hv; omega)
   simp [z16,h1,h2',hall,hno]
theorem Fits_ok:SpecOk Try.prog Fits_n true (z03 true Fits_fs) :=
 z09 z0n (show z18 Try.prog Fits_g from z00 z7v (z00 fit_ok (z00 Net_ok (z00 zbz (z04))))) (by kernel_rfl) mixedOrders Try.func49 rfl rfl (by kernel_rfl) (n:=2) (by decide +kernel) (I:=Fits_IA) (fun _ _=>z06) (A:=Fits_A)
  (fun args h r hr=>by
   unfold Fits_fs at hr
   split at hr
   ·rename_i ty0 I_s ty1 I_a ty2 x; cases hr; refine ⟨rfl,fun hp=>?_⟩; have hE:=Fits_E ⟨I_s,I_a⟩ x ty0 ty1 ty2 hp; exact hE
   ·cases hr)
end Go.Proofs.Ytapeenpimcffpaa
end
section
section
namespace Go.Ql
open Go Go.RowKit
def onF (side:List Bool) (n:Int):Bool:=decide (0 <= n) && side.getD n.toNat false
def isN (m:Int) (n:Int):Bool:=decide (0 <= n) && decide (n < m)
def outA (m:Int) (side:List Bool) (a:Arc):Bool:=isN m a.src && isN m a.dst && onF side a.src && !onF side a.dst
def inA (m:Int) (side:List Bool) (a:Arc):Bool:=isN m a.src && isN m a.dst && onF side a.dst && !onF side a.src
def z0u (m:Int) (side:List Bool):List Arc->Int->Option Int
 | [],s=>some s
 | a :: l,s=>if outA m side a then (if a.cap = inf then none else z0u m side l (s + a.cap)) else if inA m side a then z0u m side l (s - a.low) else z0u m side l s
def z2q (I:Inst) (side:List Bool):Option Int:=z0u I.sup.length side I.arcs 0
def z56 (o:Option Int):Wide:=match o with
 | some s=>W s
 | none=>⟨0,0⟩
def z38 (side:List Bool) (l:List Int):Nat->Int
 | 0=>0
 | k + 1=>z38 side l k + (if side.getD k false then l.getD k 0 else 0)
def ze5 (I:Inst) (side:List Bool):Int:=z38 side I.sup I.sup.length
def z1r (I:Inst) (side:List Bool):Int :=
 if z0b I ≠ 0 then z0b I else if side.length ≠ I.sup.length then 30 else match z2q I side with
  | none=>34
  | some s=>if wcmp (W (ze5 I side)) (W s) <= 0 then 34 else 0
theorem onF_nat (side:List Bool) (k:Nat):onF side (k:Int) = side.getD k false:=by simp [onF]
theorem z3a (m:Int) (side:List Bool) (a:Arc) (l:List Arc) (s:Int):z0u m side (a :: l) s = if outA m side a then (if a.cap = inf then none else z0u m side l (s + a.cap)) else if inA m side a then z0u m side l (s - a.low) else z0u m side l s:=rfl
end Go.Ql
end
section
namespace Go.Ql
open Go Go.RowKit
def z1b (f:Nat->Int):Nat->Int
 | 0=>0
 | k + 1=>z1b f k + f k
theorem z0w {f g:Nat->Int}:∀ {n:Nat},(∀ v,v < n->f v = g v)->z1b f n = z1b g n
 | 0,_=>rfl
 | n + 1,h=>by simp only [z1b]; rw [z0w (fun v hv=>h v (by omega)),h n (by omega)]
theorem z8k (f g:Nat->Int):∀ n,z1b (fun v=>f v + g v) n = z1b f n + z1b g n
 | 0=>rfl
 | n + 1=>by simp only [z1b]; rw [z8k f g n]; omega
theorem z5y (f g:Nat->Int):∀ n,z1b (fun v=>f v - g v) n = z1b f n - z1b g n
 | 0=>rfl
 | n + 1=>by simp only [z1b]; rw [z5y f g n]; omega
theorem z3m:∀ n,z1b (fun _=>0) n = 0
 | 0=>rfl
 | n + 1=>by simp only [z1b,z3m n]; rfl
theorem z5x {s f:Int} (h0:0 <= s):∀ n:Nat,z1b (fun v=>if s = (v:Int) then f else 0) n = if s < n then f else 0
 | 0=>by simp only [z1b]; rw [if_neg (by omega)]
 | n + 1=>by
  simp only [z1b]
  rw [z5x h0 n]
  by_cases h1:s < n
  ·rw [if_pos h1,if_neg (by omega),if_pos (by omega)]; omega
  ·by_cases h2:s = n
   ·rw [if_neg h1,if_pos h2,if_pos (by omega)]; omega
   ·rw [if_neg h1,if_neg h2,if_neg (by omega)]; omega
theorem flowD_sum (n:Nat) (a:Arc) (f:Int):z1b (fun v:Nat=>z3i n a f v) n = 0:=by
 cases ho:z2g n a with
 | false=>rw [z0w (g:=fun _=>0) (fun v _=>by simp [z3i,ho]),z3m]
 | true =>
  obtain ⟨o1,o2,o3,o4⟩:=okArc_iff.1 ho
  rw [z0w (g:=fun v=>(if a.src = (v:Int) then f else 0) - (if a.dst = (v:Int) then f else 0)) (fun v _=>by simp [z3i,ho]),z5y,z5x o1,z5x o3,if_pos o2,if_pos o4]
  omega
theorem netK_sum (n:Nat) (l:List Arc) (x:List Int):∀ k,z1b (fun v:Nat=>z6o n l x k v) n = 0
 | 0=>by simp only [z6o]; exact z3m n
 | k + 1=>by
  simp only [z6o]
  rw [z8k,netK_sum n l x k,flowD_sum]; rfl
theorem flowD_add (n:Int) (a:Arc) (f g v:Int):z3i n a (f + g) v = z3i n a f v + z3i n a g v:=by
 unfold z3i
 (repeat' split) <;> omega
theorem netK_bound {n:Int} {l:List Arc} {x:List Int} {v:Int} {B:Int} (hB:0 <= B) (hx:∀ y ∈ x,-B <= y/\y <= B):∀ k:Nat,-(2 * B * k) <= z6o n l x k v/\z6o n l x k v <= 2 * B * k
 | 0=>by simp [z6o]
 | k + 1=>by
  have ih:=netK_bound (n:=n) (l:=l) (v:=v) hB hx k
  have hg:-B <= x.getD k 0/\x.getD k 0 <= B:=by
   by_cases hk:k < x.length
   ·have:=hx _ (List.getElem_mem hk)
    simpa [List.getD,hk] using this
   ·simp [List.getD,hk]; omega
  simp only [z6o]
  have hd:-(2 * B) <= z3i n (l.getD k default) (x.getD k 0) v/\z3i n (l.getD k default) (x.getD k 0) v <= 2 * B:=by
   unfold z3i; (repeat' split) <;> omega
  have e:2 * B * ((k + 1:Nat):Int) = 2 * B * k + 2 * B:=by
   rw [Int.natCast_succ,Int.mul_add]; omega
  omega
theorem zab {x:List Int} {a:Nat} (ha:a < x.length) (f:Int) (j:Nat):(x.set a (x.getD a 0 + f)).getD j 0 = x.getD j 0 + (if j = a then f else 0):=by
 rw [List.getD_eq_getElem?_getD,List.getElem?_set]
 by_cases h:a = j
 ·subst h; simp [ha]
 ·have h':¬ j = a:=fun e=>h e.symm
  simp [h,h',List.getD_eq_getElem?_getD]
theorem netK_set {n:Int} {l:List Arc} {x:List Int} {v:Int} {a:Nat} (ha:a < x.length) (f:Int):∀ k:Nat,z6o n l (x.set a (x.getD a 0 + f)) k v = z6o n l x k v + (if a < k then z3i n (l.getD a default) f v else 0)
 | 0=>by simp [z6o]
 | k + 1=>by
  simp only [z6o]
  rw [netK_set ha f k,zab ha,flowD_add]
  by_cases h:k = a
  ·subst h; rw [if_neg (by omega),if_pos rfl,if_pos (by omega)]; omega
  ·rw [if_neg h]
   have z:z3i n (l.getD k default) 0 v = 0:=by unfold z3i; (repeat' split) <;> omega
   rw [z]
   by_cases h2:a < k
   ·rw [if_pos h2,if_pos (by omega)]; omega
   ·rw [if_neg h2,if_neg (by omega)]; omega
theorem fitsAll_iff {l:List Arc} {x:List Int}:z1j l x = true ↔ ∀ j a,l[j]? = some a->fitF a (x.getD j 0) = true:=by
 induction l generalizing x with
 | nil=>simp [z1j]
 | cons b l ih =>
  simp only [z1j,Bool.and_eq_true,ih]
  constructor
  ·rintro ⟨h1,h2⟩ j a ha
   cases j with
   | zero =>
    simp at ha; subst ha
    cases x <;> simpa [List.getD] using h1
   | succ j =>
    rw [List.getElem?_cons_succ] at ha
    have:=h2 j a ha
    cases x with
    | nil=>simpa [List.getD] using this
    | cons y x=>simpa [List.getD] using this
  ·intro h
   refine ⟨?_,fun j a ha=>?_⟩
   ·have:=h 0 b (by simp)
    cases x <;> simpa [List.getD] using this
   ·have:=h (j + 1) a (by simpa using ha)
    cases x with
    | nil=>simpa [List.getD] using this
    | cons y x=>simpa [List.getD] using this
theorem netOk_iff {I:Inst} {x:List Int}:netOk I x = true ↔ ∀ v,v < I.sup.length->W (z6o I.sup.length I.arcs x I.arcs.length v) = W (I.sup.getD v 0):=by
 unfold netOk
 rw [List.all_eq_true]
 simp only [List.mem_range,decide_eq_true_eq]
theorem fitsF_zero {I:Inst} {x:List Int}:z16 I x = 0 ↔ z0b I = 0/\x.length = I.arcs.length/\z1j I.arcs x = true/\netOk I x = true:=by
 have hs:=rightF_small' I
 unfold z16
 constructor
 ·intro h
  split at h
  ·rename_i h1; exact absurd h h1
  ·rename_i h1
   split at h
   ·omega
   ·rename_i h2
    split at h
    ·omega
    ·rename_i h3
     split at h
     ·omega
     ·rename_i h4
      simp at h1 h2 h3 h4
      exact ⟨h1,h2,h3,h4⟩
 ·rintro ⟨h1,h2,h3,h4⟩
  simp [h1,h2,h3,h4]
def A32 (l:List Int):Prop:=∀ x ∈ l,-2147483648 <= x/\x <= 2147483647
theorem A32.getD {l:List Int} (h:A32 l) (k:Nat):-2147483648 <= l.getD k 0/\l.getD k 0 <= 2147483647:=by
 by_cases hk:k < l.length
 ·have:=h _ (List.getElem_mem hk)
  simpa [List.getD,hk] using this
 ·simp [List.getD,hk]
theorem z7y (n:Int):∀ (l:List Arc),(∀ a ∈ l,z0j a n = 0)->z1d n l = 0
 | [],_=>rfl
 | a :: l,h=>by simp only [z1d,h a (by simp),z7y n l (fun b hb=>h b (by simp [hb]))]; simp
theorem zal:∀ (l:List Int) (s:Int),(∀ x ∈ l,-4398046511104 <= x/\x <= 4398046511104)->s + l.sum = 0->z1w l s = 0
 | [],s,_,h=>by simp at h; simp [z1w,h]
 | x :: l,s,hb,h=>by
  have:=hb x (by simp)
  simp only [z1w]
  rw [if_neg (by omega)]
  exact zal l (s + x) (fun y hy=>hb y (by simp [hy])) (by rw [List.sum_cons] at h; omega)
theorem right_of {I:Inst} (h1:I.sup.length <= 64) (h2:I.arcs.length <= 256) (h3:∀ a ∈ I.arcs,z0j a I.sup.length = 0) (h4:∀ x ∈ I.sup,-4398046511104 <= x/\x <= 4398046511104) (h5:I.sup.sum = 0):z0b I = 0:=by
 unfold z0b
 rw [if_neg (by omega),if_pos (z7y _ _ h3)]
 exact zal _ _ h4 (by omega)
theorem z8l (f:Nat->Int):∀ n,((List.range n).map f).sum = z1b f n
 | 0=>rfl
 | n + 1=>by rw [List.range_succ,List.map_append,List.sum_append,z8l f n]; simp [z1b]
theorem Arc.Nice.right {m:Int} {a:Arc} (h:a.Nice m):z0j a m = 0:=by
 have:=h.s0; have:=h.s1; have:=h.d0; have:=h.d1; have:=h.l0; have:=h.l1; have:=h.c0; have:=h.c1; have:=h.k0; have:=h.k1
 unfold z0j
 rw [if_neg (by omega),if_neg (by omega),if_neg (by omega),if_neg (by omega)]
end Go.Ql
end
section
namespace Go.Ql
open Go Go.RowKit
theorem z3y (m:Int) (side:List Bool):∀ (l r:List Arc) (s:Int),z0u m side (l ++ r) s = (z0u m side l s).bind (z0u m side r)
 | [],r,s=>by simp [z0u]
 | a :: l,r,s=>by
  rw [List.cons_append,z3a,z3a]
  split
  ·split
   ·rfl
   ·exact z3y m side l r _
  ·split
   ·exact z3y m side l r _
   ·exact z3y m side l r _
theorem ze7 (side:List Bool) (l:List Int):∀ k,z38 side l k = z1b (fun v=>if side.getD v false then l.getD v 0 else 0) k
 | 0=>rfl
 | k + 1=>by simp only [z38,z1b,ze7 side l k]
theorem sum_sumTo:∀ (l:List Int),l.sum = z1b (fun v=>l.getD v 0) l.length:=by
 intro l
 have h:=z8l (fun v=>l.getD v 0) l.length
 rw [<- h]
 congr 1
 apply List.ext_getElem?
 intro i
 by_cases hi:i < l.length
 ·simp [hi]
 ·simp [hi]
def zdf (m:Int) (side:List Bool) (a:Arc) (f:Int):Int:=(if outA m side a then f else 0) - (if inA m side a then f else 0)
def za9 (m:Int) (side:List Bool) (l:List Arc) (x:List Int):Nat->Int
 | 0=>0
 | k + 1=>za9 m side l x k + zdf m side (l.getD k default) (x.getD k 0)
theorem sumTo_pick {s f:Int} (p:Nat->Bool) (h0:0 <= s):∀ n:Nat,s < n->z1b (fun v=>if p v then (if s = (v:Int) then f else 0) else 0) n = if p s.toNat then f else 0:=by
 intro n hn
 have:z1b (fun v=>if p v then (if s = (v:Int) then f else 0) else 0) n = z1b (fun v=>if s = (v:Int) then (if p s.toNat then f else 0) else 0) n:=by
  refine z0w fun v hv=>?_
  by_cases e:s = (v:Int)
  ·have:s.toNat = v:=by omega
   simp [e,this]
  ·simp [e]
 rw [this,z5x h0,if_pos hn]
theorem flowD_cross {n:Nat} {side:List Bool} {a:Arc} (f:Int):z1b (fun v:Nat=>if side.getD v false then z3i n a f v else 0) n = zdf n side a f:=by
 cases ho:z2g n a with
 | false =>
  have hz:∀ v:Nat,(if side.getD v false then z3i n a f v else 0) = 0:=fun v=>by simp [z3i,ho]
  rw [z0w (g:=fun _=>0) (fun v _=>hz v),z3m]
  have:isN (n:Int) a.src = false ∨ isN (n:Int) a.dst = false:=by
   unfold z2g at ho
   unfold isN
   cases h1:(decide (0 <= a.src) && decide (a.src < (n:Int))) <;> simp_all
  unfold zdf outA inA
  rcases this with h | h <;> simp [h]
 | true =>
  obtain ⟨o1,o2,o3,o4⟩:=okArc_iff.1 ho
  rw [z0w (g:=fun v=>(if side.getD v false then (if a.src = (v:Int) then f else 0) else 0) - (if side.getD v false then (if a.dst = (v:Int) then f else 0) else 0)) (fun v _=>by
   simp only [z3i,ho,if_true]
   cases side.getD v false <;> simp),z5y,sumTo_pick (fun v=>side.getD v false) o1 n o2,sumTo_pick (fun v=>side.getD v false) o3 n o4]
  unfold zdf outA inA isN onF
  simp only [o1,o2,o3,o4,decide_true,Bool.true_and]
  cases side.getD a.src.toNat false <;> cases side.getD a.dst.toNat false <;> simp
theorem cross_net (n:Nat) (side:List Bool) (l:List Arc) (x:List Int):∀ k,z1b (fun v:Nat=>if side.getD v false then z6o n l x k v else 0) n = za9 n side l x k
 | 0=>by
  simp only [z6o,za9]
  rw [z0w (g:=fun _=>0) (fun v _=>by simp),z3m]
 | k + 1=>by
  simp only [za9]
  rw [<- cross_net n side l x k,<- flowD_cross,<- z8k]
  refine z0w fun v _=>?_
  simp only [z6o]
  cases side.getD v false <;> simp
theorem fits_net {I:Inst} {x:List Int} (hl:I.arcs.length <= 1000) (hx:A64 x) (hs:Within 4398046511104 I.sup) (h:z16 I x = 0):∀ v,v < I.sup.length->z6o I.sup.length I.arcs x I.arcs.length v = I.sup.getD v 0:=by
 intro v hv
 have hn:=netOk_iff.1 (fitsF_zero.1 h).2.2.2 v hv
 have hb:=netK_bound (n:=I.sup.length) (l:=I.arcs) (x:=x) (v:=v) (B:=9223372036854775808) (by omega) (fun y hy=>by have:=hx y hy; unfold I64 at this; omega) I.arcs.length
 have hs':=hs.getD (by omega) v
 refine W_inj ?_ ?_ hn
 ·unfold zax; omega
 ·unfold zax; omega
theorem fits_need {I:Inst} {x:List Int} (side:List Bool) (hl:I.arcs.length <= 1000) (hx:A64 x) (hs:Within 4398046511104 I.sup) (h:z16 I x = 0):za9 I.sup.length side I.arcs x I.arcs.length = ze5 I side:=by
 rw [<- cross_net,ze5,ze7]
 refine z0w fun v hv=>?_
 rw [fits_net hl hx hs h v hv]
theorem zak {m:Int} {side:List Bool} {a:Arc} {s t:Int} (h:z0u m side [a] s = some t):(outA m side a = true/\a.cap ≠ inf/\t = s + a.cap) ∨ (outA m side a = false/\inA m side a = true/\t = s - a.low) ∨ (outA m side a = false/\inA m side a = false/\t = s):=by
 rw [z3a] at h
 simp only [z0u] at h
 cases ho:outA m side a with
 | true =>
  rw [ho] at h
  simp only [if_true] at h
  split at h
  ·cases h
  ·rename_i hc; cases h; exact .inl ⟨rfl,hc,rfl⟩
 | false =>
  rw [ho] at h
  simp only [Bool.false_eq_true,if_false] at h
  cases hi:inA m side a with
  | true=>rw [hi] at h; simp only [if_true] at h; cases h; exact .inr (.inl ⟨rfl,rfl,rfl⟩)
  | false=>rw [hi] at h; simp only [Bool.false_eq_true,if_false] at h; cases h; exact .inr (.inr ⟨rfl,rfl,rfl⟩)
theorem out_not_in {m:Int} {side:List Bool} {a:Arc} (h:outA m side a = true):inA m side a = false:=by
 unfold outA at h; unfold inA
 cases h1:isN m a.src <;> cases h2:isN m a.dst <;> cases h3:onF side a.src <;> cases h4:onF side a.dst <;> simp_all
theorem cross_room {m:Int} {side:List Bool} {l:List Arc} {x:List Int} (hf:∀ j a,l[j]? = some a->fitF a (x.getD j 0) = true):∀ k,k <= l.length->∀ t,z0u m side (l.take k) 0 = some t->za9 m side l x k <= t
 | 0,_,t,h=>by simp [z0u] at h; subst h; simp [za9]
 | k + 1,hk,t,h=>by
  have ha:=List.getElem?_eq_getElem (show k < l.length by omega)
  rw [z2a ha,z3y] at h
  cases h1:z0u m side (l.take k) 0 with
  | none=>rw [h1] at h; cases h
  | some u =>
   rw [h1] at h
   have ih:=cross_room hf k (by omega) u h1
   have hfa:=hf k _ ha
   have hd:l.getD k default = l[k]:=by simp [List.getD,ha]
   unfold fitF at hfa
   simp only [Bool.and_eq_true,Bool.or_eq_true,decide_eq_true_eq] at hfa
   simp only [za9,hd,zdf]
   rcases zak h with ⟨h2,h3,h4⟩ | ⟨h2,h3,h4⟩ | ⟨h2,h3,h4⟩
   ·rw [h2,out_not_in h2]
    simp only [if_true,Bool.false_eq_true,if_false]
    rcases hfa.2 with h5 | h5
    ·exact absurd h5 h3
    ·omega
   ·rw [h2,h3]
    simp only [if_true,Bool.false_eq_true,if_false]
    omega
   ·rw [h2,h3]
    simp only [Bool.false_eq_true,if_false]
    omega
theorem room_bound {m:Int} {side:List Bool} {l:List Arc} (hb:∀ a ∈ l,(0 <= a.low/\a.low <= 4398046511104)/\(a.cap = inf ∨ 0 <= a.cap/\a.cap <= 4398046511104)):∀ k,k <= l.length->∀ t,z0u m side (l.take k) 0 = some t->-(4398046511104 * (k:Int)) <= t/\t <= 4398046511104 * (k:Int)
 | 0,_,t,h=>by simp [z0u] at h; subst h; simp
 | k + 1,hk,t,h=>by
  have ha:=List.getElem?_eq_getElem (show k < l.length by omega)
  rw [z2a ha,z3y] at h
  cases h1:z0u m side (l.take k) 0 with
  | none=>rw [h1] at h; cases h
  | some u =>
   rw [h1] at h
   have ih:=room_bound hb k (by omega) u h1
   have hfa:=hb _ (List.getElem_mem (show k < l.length by omega))
   rcases zak h with ⟨h2,h3,h4⟩ | ⟨h2,h3,h4⟩ | ⟨h2,h3,h4⟩
   ·rcases hfa.2 with h5 | h5
    ·exact absurd h5 h3
    ·omega
   ·omega
   ·omega
theorem ze6 {side:List Bool} {s:List Int} {b:Int} (hb:0 <= b) (h:Within b s):∀ k:Nat,-(b * k) <= z38 side s k/\z38 side s k <= b * k
 | 0=>by simp [z38]
 | k + 1=>by
  have ih:=ze6 (side:=side) hb h k
  have hg:=h.getD hb k
  have e:b * ((k + 1:Nat):Int) = b * k + b:=by rw [Int.natCast_succ,Int.mul_add]; omega
  simp only [z38]
  split <;> omega
theorem arcs_bound {I:Inst} (hr:z0b I = 0):∀ a ∈ I.arcs,(0 <= a.low/\a.low <= 4398046511104)/\(a.cap = inf ∨ 0 <= a.cap/\a.cap <= 4398046511104):=fun a ha=>by
 have h:=z19 hr ha
 obtain ⟨_,h1,_⟩:=h
 unfold inf
 refine ⟨⟨h1.1,h1.2.1⟩,?_⟩
 rcases h1.2.2 with h2 | h2
 ·exact .inl h2
 ·exact .inr (by omega)
theorem cmp_need {I:Inst} {side:List Bool} {s:Int} (hr:z0b I = 0) (hl:I.arcs.length <= 1000) (hn:I.sup.length <= 1000) (hs:Within 4398046511104 I.sup) (h:z2q I side = some s) (m:Int) (hm:m = ze5 I side):wcmp (W m) (W s) <= 0 ↔ m <= s:=by
 have hb:=room_bound (m:=I.sup.length) (side:=side) (arcs_bound hr) I.arcs.length (Nat.le_refl _) s (by rw [List.take_length]; exact h)
 have hk:=ze6 (side:=side) (by omega) hs I.sup.length
 have e:ze5 I side = z38 side I.sup I.sup.length:=rfl
 rw [zes (by unfold zax; omega) (by unfold zax; omega)]
 split
 ·omega
 ·split <;> omega
theorem proves_none {I:Inst} {side:List Bool} {x:List Int} (hl:I.arcs.length <= 1000) (hn:I.sup.length <= 1000) (hx:A64 x) (hs:Within 4398046511104 I.sup) (h:z1r I side = 0):z16 I x ≠ 0:=by
 intro hf
 have hr:=(fitsF_zero.1 hf).1
 unfold z1r at h
 simp only [hr,ne_eq,not_true,if_false] at h
 split at h
 ·omega
 ·split at h
  ·omega
  ·rename_i s hroom
   split at h
   ·omega
   ·rename_i hc
    rw [cmp_need hr hl hn hs hroom _ rfl] at hc
    have h1:=fits_need side hl hx hs hf
    have h2:=cross_room (m:=I.sup.length) (side:=side) (fitsAll_iff.1 (fitsF_zero.1 hf).2.2.1) I.arcs.length (Nat.le_refl _) s (by rw [List.take_length]; exact hroom)
    omega
end Go.Ql
end
end
section
namespace Go.Proofs.Ytapeenpimcffpaa
open Go Go.RowKit Go.Ql Go.Vc
def on_r (side:List Bool) (n:Int):FRes:={ pre:=True,res:=.bool (onF side n),rows:=[],eff:=[] }
def on_fs:FS:=fun args h=>match args,h with
 | [.row 0,.int .i64 n],[(0,.row false ty0 (.bools side))]=>some (on_r side n)
 | _,_=>none
def on_an (side:List Bool) (n:Int):List (Nat × Ann):=[]
def on_A:List SV->z0g->List (Nat × Ann):=fun _ _=>[]
def on_g:z0c:=[]
abbrev on_n:Nat:=66
def on_I (side:List Bool) (n:Int):List (Nat × z0a):=[]
def on_IA:List SV->z0g->List (Nat × z0a):=fun _ _=>[]
def over1_r (n:Int) (I:Inst):FRes:={ pre:=True,res:=.bool (isN I.sup.length n),rows:=[],eff:=[] }
def over1_fs:FS:=fun args h=>match args,h with
 | [.int .i64 n,.ptr 0 0 0 0],[(0,.box false 30 [.row 1,.row 2]),(1,.row false ty1 (.ints .i64 I_s)),(2,.row false ty2 (.arcs I_a))]=>some (over1_r n ⟨I_s,I_a⟩)
 | _,_=>none
def over1_an (n:Int) (I:Inst):List (Nat × Ann):=[]
def over1_A:List SV->z0g->List (Nat × Ann):=fun _ _=>[]
def over1_g:z0c:=[]
abbrev over1_n:Nat:=78
def over1_I (n:Int) (I:Inst):List (Nat × z0a):=[]
def over1_IA:List SV->z0g->List (Nat × z0a):=fun _ _=>[]
abbrev over_n:Nat:=62
def over_g:z0c:=[]
def over_spec:Vc.Spec:=z1z TT over_g (fun _ _ _=>[]) Try.f62
def CRoom_r (I:Inst) (side:List Bool):FRes:={ pre:=A64a I.arcs/\I.arcs.length <= 140737488351232,res:=.tup [.agg (z12 (z56 (z2q I side))),.bool ((z2q I side).isSome)],rows:=[],eff:=[] }
def CRoom_fs:FS:=fun args h=>match args,h with
 | [.agg [.row 0,.row 1],.row 2],[(0,.row false ty0 (.ints .i64 I_s)),(1,.row false ty1 (.arcs I_a)),(2,.row false ty2 (.bools side))]=>some (CRoom_r ⟨I_s,I_a⟩ side)
 | _,_=>none
def CRoom_an (I:Inst) (side:List Bool):List (Nat × Ann):=[]
def CRoom_A:List SV->z0g->List (Nat × Ann):=fun _ _=>[]
def CRoom_g:z0c:=[(over_n,(false,over_spec)),(Minus_n,(true,z03 true z7t)),(Of_n,(true,z03 true z8w)),(zc2,(true,z03 true z5h))]
abbrev CRoom_n:Nat:=53
def CRoom_i0g:z0c:=[(over1_n,(true,z03 true over1_fs)),(on_n,(true,z03 true on_fs))]
def CRoom_i0 (I:Inst) (side:List Bool):z0a:=inlI TT CRoom_i0g (fun args hp nk=>match args with
  | [y,c1,c2,c3]=>[(1,{ G:=Nat × Int,inv:=fun g=>⟨[(0,y),(1,c1),(2,c2),(3,c3),(9,.row 1),(10,.int .i64 I.arcs.length),(11,.int .i64 g.1)],Vc.put 6 (.box true 49 (z12 (W g.2))) hp,nk⟩,rel:=fun _ g=>g.1 <= I.arcs.length/\z0u I.sup.length side (I.arcs.drop g.1) g.2 = z2q I side,meas:=fun g=>I.arcs.length - g.1 })]
  | _=>[]) Try.f79
def CRoom_I (I:Inst) (side:List Bool):List (Nat × z0a):=[(79,CRoom_i0 I side)]
def CRoom_IA:List SV->z0g->List (Nat × z0a):=fun args h=>match args,h with
 | [.agg [.row 0,.row 1],.row 2],[(0,.row false ty0 (.ints .i64 I_s)),(1,.row false ty1 (.arcs I_a)),(2,.row false ty2 (.bools side))]=>CRoom_I ⟨I_s,I_a⟩ side
 | _,_=>[]
def Need_r (I:Inst) (side:List Bool):FRes:={ pre:=A64 I.sup/\I.sup.length <= 140737488351232,res:=.agg (z12 (W (ze5 I side))),rows:=[],eff:=[] }
def Need_fs:FS:=fun args h=>match args,h with
 | [.agg [.row 0,.row 1],.row 2],[(0,.row false ty0 (.ints .i64 I_s)),(1,.row false ty1 (.arcs I_a)),(2,.row false ty2 (.bools side))]=>some (Need_r ⟨I_s,I_a⟩ side)
 | _,_=>none
def Need_an (I:Inst) (side:List Bool):List (Nat × Ann):=[(3,{ G:=(Nat),inv:=fun k=>⟨[(1,.row 2),(4,.ptr 4 0 0 0),(5,.ptr 5 0 0 0),(9,.row 0),(10,.int .i64 (↑I.sup.length:Int)),(11,.int .i64 k)],[(5,.box true 49 (z12 (W (z38 side I.sup k)))),(4,.box true 49 [.int .i64 (0:Int),.int .u64 (0:Int)]),(0,.row false 0 (.ints .i64 I.sup)),(2,.row false 0 (.bools side))],6⟩,rel:=fun k0 k=>k <= I.sup.length,meas:=fun k=>I.sup.length - k })]
def Need_A:List SV->z0g->List (Nat × Ann):=fun args h=>match args,h with
 | [.agg [.row 0,.row 1],.row 2],[(0,.row false ty0 (.ints .i64 I_s)),(1,.row false ty1 (.arcs I_a)),(2,.row false ty2 (.bools side))]=>Need_an ⟨I_s,I_a⟩ side
 | _,_=>[]
def Need_g:z0c:=[(on_n,(true,z03 true on_fs)),(zc2,(true,z03 true z5h)),(Of_n,(true,z03 true z8w))]
abbrev Need_n:Nat:=55
def Need_I (I:Inst) (side:List Bool):List (Nat × z0a):=[]
def Need_IA:List SV->z0g->List (Nat × z0a):=fun _ _=>[]
def Proves_r (I:Inst) (side:List Bool):FRes:={ pre:=A64a I.arcs/\I.arcs.length <= 140737488351232/\A64 I.sup/\I.sup.length <= 140737488351232,res:=.int .u16 (z1r I side),rows:=[],eff:=[] }
def zc7:FS:=fun args h=>match args,h with
 | [.agg [.row 0,.row 1],.row 2],[(0,.row false ty0 (.ints .i64 I_s)),(1,.row false ty1 (.arcs I_a)),(2,.row false ty2 (.bools side))]=>some (Proves_r ⟨I_s,I_a⟩ side)
 | _,_=>none
def Proves_an (I:Inst) (side:List Bool):List (Nat × Ann):=[]
def Proves_A:List SV->z0g->List (Nat × Ann):=fun _ _=>[]
def Proves_g:z0c:=[(z91,(true,z03 true z4r)),(CRoom_n,(true,z03 true CRoom_fs)),(Need_n,(true,z03 true Need_fs)),(z7s,(true,z03 true z4h))]
abbrev Proves_n:Nat:=47
def Proves_I (I:Inst) (side:List Bool):List (Nat × z0a):=[]
def Proves_IA:List SV->z0g->List (Nat × z0a):=fun _ _=>[]
def Bools_r (xs:List Bool) (ys:List Bool):FRes:={ pre:=xs.length <= 1000000000,res:=.bool (decide (xs = ys)),rows:=[],eff:=[] }
def Bools_fs:FS:=fun args h=>match args,h with
 | [.row 0,.row 1],[(0,.row false ty0 (.bools xs)),(1,.row false ty1 (.bools ys))]=>some (Bools_r xs ys)
 | _,_=>none
def Bools_an (xs:List Bool) (ys:List Bool):List (Nat × Ann):=[(4,{ G:=(Nat),inv:=fun k=>⟨[(0,.row 0),(1,.row 1),(5,.int .i64 k)],[(0,.row false 0 (.bools xs)),(1,.row false 0 (.bools ys))],2⟩,rel:=fun k0 k=>k <= xs.length/\xs.take k = ys.take k,meas:=fun k=>xs.length - k })]
def Bools_A:List SV->z0g->List (Nat × Ann):=fun args h=>match args,h with
 | [.row 0,.row 1],[(0,.row false ty0 (.bools xs)),(1,.row false ty1 (.bools ys))]=>Bools_an xs ys
 | _,_=>[]
def Bools_g:z0c:=[]
abbrev Bools_n:Nat:=14
def Bools_I (xs:List Bool) (ys:List Bool):List (Nat × z0a):=[]
def Bools_IA:List SV->z0g->List (Nat × z0a):=fun _ _=>[]
end Go.Proofs.Ytapeenpimcffpaa
end
section
namespace Go.Proofs.Ytapeenpimcffpaa
open Go Go.RowKit Go.Ql Go.Vc
def on_E0 (side : List Bool) (n : Int) (ty0 : TypeId) : Prop :=
      (decide (n ≥ (0:Int)) = true ->
 (decide (n < (↑side.length:Int)) = true ->
 ((0:Int) <= n/\n < (↑side.length:Int))/\n.toNat < side.length/\∀ (x:Bool),side[n.toNat]? = some x->(x = onF side n/\True)/\True) /\
 (decide (n < (↑side.length:Int)) = false->(false = onF side n/\True)/\True)) /\
 (decide (n ≥ (0:Int)) = false->(false = onF side n/\True)/\True)
theorem on_q (side:List Bool) (n:Int) (ty0:TypeId):on_E0 side n ty0 = z25 TT on_g (on_I side n) (on_an side n) Try.f66 [.row 0,.int .i64 n] [(0,.row false ty0 (.bools side))] (on_r side n):=by kernel_rfl
theorem on_E (side:List Bool) (n:Int) (ty0:TypeId) (hp:True):FVc TT on_g (on_I side n) (on_an side n) Try.f66 [.row 0,.int .i64 n] [(0,.row false ty0 (.bools side))] (on_r side n):=by
 refine FVc.of (on_E0 side n ty0) (on_q side n ty0) ?_
 unfold on_E0
 simp only [eq_self,exists_const,forall_const,decide_eq_true_eq,decide_eq_false_iff_not,and_true,true_and,bne_iff_ne,ne_eq,bne_eq_false_iff_eq,Int.toNat_natCast,Bool.not_eq_true',Bool.not_eq_false',beq_iff_eq,beq_eq_false_iff_ne,z08]
 refine ⟨fun h=>⟨fun h2=>⟨by omega,by omega,fun x hx=>?_⟩,fun h2=>?_⟩,fun h=>?_⟩
 ·unfold onF; simp [List.getD,hx]; omega
 ·unfold onF; simp [List.getD,List.getElem?_eq_none (show side.length <= n.toNat by omega)]
 ·unfold onF; simp; omega
theorem on_ok:SpecOk Try.prog on_n true (z03 true on_fs) :=
 z09 z0n (show z18 Try.prog on_g from z04) (by kernel_rfl) mixedOrders Try.func66 rfl rfl (by kernel_rfl) (n:=2) (by decide +kernel) (I:=on_IA) (fun _ _=>z06) (A:=on_A)
  (fun args h r hr=>by
   unfold on_fs at hr
   split at hr
   ·rename_i n ty0 side; cases hr; refine ⟨rfl,fun hp=>?_⟩; have hE:=on_E side n ty0 hp; exact hE
   ·cases hr)
def over1_E0 (n : Int) (I : Inst) (ty1 ty2 : TypeId) : Prop :=
      (decide (n ≥ (0:Int)) = true->(decide (n < (↑I.sup.length:Int)) = isN (↑I.sup.length:Int) n/\True)/\True) /\
 (decide (n ≥ (0:Int)) = false->(false = isN (↑I.sup.length:Int) n/\True)/\True)
theorem over1_q (n:Int) (I:Inst) (ty1 ty2:TypeId):over1_E0 n I ty1 ty2 = z25 TT over1_g (over1_I n I) (over1_an n I) Try.f78 [.int .i64 n,.ptr 0 0 0 0] [(0,.box false 30 [.row 1,.row 2]),(1,.row false ty1 (.ints .i64 I.sup)),(2,.row false ty2 (.arcs I.arcs))] (over1_r n I):=by kernel_rfl
theorem over1_E (n:Int) (I:Inst) (ty1 ty2:TypeId) (hp:True):FVc TT over1_g (over1_I n I) (over1_an n I) Try.f78 [.int .i64 n,.ptr 0 0 0 0] [(0,.box false 30 [.row 1,.row 2]),(1,.row false ty1 (.ints .i64 I.sup)),(2,.row false ty2 (.arcs I.arcs))] (over1_r n I):=by
 refine FVc.of (over1_E0 n I ty1 ty2) (over1_q n I ty1 ty2) ?_
 unfold over1_E0
 simp only [eq_self,exists_const,forall_const,decide_eq_true_eq,decide_eq_false_iff_not,and_true,true_and,bne_iff_ne,ne_eq,bne_eq_false_iff_eq,Int.toNat_natCast,Bool.not_eq_true',Bool.not_eq_false',beq_iff_eq,beq_eq_false_iff_ne,z08]
 refine ⟨fun h=>?_,fun h=>?_⟩
 ·unfold isN; simp [show 0 <= n by omega]
 ·unfold isN; simp [show ¬ 0 <= n by omega]
theorem over1_ok:SpecOk Try.prog over1_n true (z03 true over1_fs) :=
 z09 z0n (show z18 Try.prog over1_g from z04) (by kernel_rfl) mixedOrders Try.func78 rfl rfl (by kernel_rfl) (n:=2) (by decide +kernel) (I:=over1_IA) (fun _ _=>z06) (A:=over1_A)
  (fun args h r hr=>by
   unfold over1_fs at hr
   split at hr
   ·rename_i n ty1 I_s ty2 I_a; cases hr; refine ⟨rfl,fun hp=>?_⟩; have hE:=over1_E n ⟨I_s,I_a⟩ ty1 ty2 hp; exact hE
   ·cases hr)
theorem over_ok:SpecOk Try.prog over_n false over_spec :=
 z3u z0n (show z18 Try.prog over_g from z04) (by kernel_rfl) mixedOrders Try.func62 rfl rfl (by kernel_rfl) _
abbrev zav (I:Inst) (g':Nat × Int) (g:Nat × Int) (R:Loop->Prop) (side:List Bool):=(I.arcs.length - g'.fst < I.arcs.length - g.fst/\((True/\(0 = 0/\(0 = 0/\(0 = 0/\(True/\((↑I.arcs.length:Int) = ↑I.arcs.length/\(IntKind.i64.wrap ((↑g.fst:Int) + (1:Int)) = (↑g'.fst:Int)/\True)))))))/\(R = R/\(((0 = 0/\True)/\True)/\((True/\True)/\((True/\(True/\True))/\(((W g.snd).hi = (W g'.snd).hi/\((W g.snd).lo = (W g'.snd).lo/\True))/\((True/\True)/\(((0:Int) = 0/\((0:Int) = 0/\True))/\((True/\(True/\True))/\(I.sup = I.sup/\(I.arcs = I.arcs/\(side = side/\True)))))))))))))
abbrev CRoom_a1 (x:Arc) (g:Nat × Int) (I:Inst) (side:List Bool) (R:Loop->Prop):=((x.cap == (4611686018427387904:Int)) = false->I64 x.cap/\(((W g.snd).ok/\((W x.cap).ok))/\(∃ (g':Nat × Int),(g'.fst <= I.arcs.length/\(z0u (↑I.sup.length:Int) side (List.drop g'.fst I.arcs) g'.snd = z2q I side))/\(I.arcs.length - g'.fst < I.arcs.length - g.fst/\((True/\(0 = 0/\(0 = 0/\(0 = 0/\(True/\((↑I.arcs.length:Int) = ↑I.arcs.length/\(IntKind.i64.wrap ((↑g.fst:Int) + (1:Int)) = (↑g'.fst:Int)/\True)))))))/\(R = R/\(((0 = 0/\True)/\True)/\((True/\True)/\((True/\(True/\True))/\(((z5d (W g.snd) (W x.cap)).hi = (W g'.snd).hi/\((z5d (W g.snd) (W x.cap)).lo = (W g'.snd).lo/\True))/\((True/\True)/\(((0:Int) = 0/\((0:Int) = 0/\True))/\((True/\(True/\True))/\(I.sup = I.sup/\(I.arcs = I.arcs/\(side = side/\True))))))))))))))))
abbrev CRoom_a2 (g:Nat × Int) (x:Arc) (I:Inst) (side:List Bool) (R:Loop->Prop):=(((W g.snd).ok/\((W x.low).ok))/\(∃ (g':Nat × Int),(g'.fst <= I.arcs.length/\(z0u (↑I.sup.length:Int) side (List.drop g'.fst I.arcs) g'.snd = z2q I side))/\(I.arcs.length - g'.fst < I.arcs.length - g.fst/\((True/\(0 = 0/\(0 = 0/\(0 = 0/\(True/\((↑I.arcs.length:Int) = ↑I.arcs.length/\(IntKind.i64.wrap ((↑g.fst:Int) + (1:Int)) = (↑g'.fst:Int)/\True)))))))/\(R = R/\(((0 = 0/\True)/\True)/\((True/\True)/\((True/\(True/\True))/\(((z5b (W g.snd) (W x.low)).hi = (W g'.snd).hi/\((z5b (W g.snd) (W x.low)).lo = (W g'.snd).lo/\True))/\((True/\True)/\(((0:Int) = 0/\((0:Int) = 0/\True))/\((True/\(True/\True))/\(I.sup = I.sup/\(I.arcs = I.arcs/\(side = side/\True)))))))))))))))
abbrev CRoom_a3 (x:Arc) (I:Inst) (side:List Bool):=((x.cap == (4611686018427387904:Int)) = true->((((0:Int) = (z56 (z2q I side)).hi/\((0:Int) = (z56 (z2q I side)).lo/\True))/\(false = (z2q I side).isSome/\True))/\True)/\True)
abbrev zaw (g':Nat × Int) (I:Inst) (side:List Bool):=(g'.fst <= I.arcs.length/\(z0u (↑I.sup.length:Int) side (List.drop g'.fst I.arcs) g'.snd = z2q I side))
def CRoom_E0 (I : Inst) (side : List Bool) (ty0 ty1 ty2 : TypeId) : Prop :=
   ∀ (R:Loop->Prop),∃ (g0:Nat × Int),((g0.fst <= I.arcs.length/\(z0u (↑I.sup.length:Int) side (List.drop g0.fst I.arcs) g0.snd = z2q I side))/\((True/\(0 = 0/\(0 = 0/\(0 = 0/\(True/\((↑I.arcs.length:Int) = ↑I.arcs.length/\((0:Int) = ↑g0.fst/\True)))))))/\(R = R/\(((0 = 0/\True)/\True)/\((True/\True)/\((True/\(True/\True))/\(((0:Int) = (W g0.snd).hi/\((0:Int) = (W g0.snd).lo/\True))/\((True/\True)/\(((0:Int) = 0/\((0:Int) = 0/\True))/\((True/\(True/\True))/\(I.sup = I.sup/\(I.arcs = I.arcs/\(side = side/\True)))))))))))))/\∀ (g:Nat × Int),g.fst <= I.arcs.length/\z0u (↑I.sup.length:Int) side (List.drop g.fst I.arcs) g.snd = z2q I side->(decide ((↑g.fst:Int) < ↑I.arcs.length) = true->((0:Int) <= ↑g.fst/\((↑g.fst:Int) < ↑I.arcs.length))/\(↑g.fst:Int).toNat < I.arcs.length/\∀ (x:Arc),I.arcs[(↑g.fst:Int).toNat]? = some x->True/\((!isN (↑I.sup.length:Int) x.src) = true->∃ (g':Nat × Int),(zaw g' I side)/\(zav I g' g R side))/\((!isN (↑I.sup.length:Int) x.src) = false->True/\((!isN (↑I.sup.length:Int) x.dst) = true->∃ (g':Nat × Int),(zaw g' I side)/\(zav I g' g R side))/\((!isN (↑I.sup.length:Int) x.dst) = false->True/\True/\((onF side x.src == onF side x.dst) = true->∃ (g':Nat × Int),(zaw g' I side)/\(zav I g' g R side))/\((onF side x.src == onF side x.dst) = false->True/\(onF side x.src = true->R = R/\((((1:Int) == (-1:Int)) = true->I64 x.low/\(CRoom_a2 g x I side R))/\(((1:Int) == (-1:Int)) = false->(CRoom_a3 x I side)/\(CRoom_a1 x g I side R))))/\(onF side x.src = false->R = R/\((((-1:Int) == (-1:Int)) = true->I64 x.low/\(CRoom_a2 g x I side R))/\(((-1:Int) == (-1:Int)) = false->(CRoom_a3 x I side)/\(CRoom_a1 x g I side R))))))))/\(decide ((↑g.fst:Int) < ↑I.arcs.length) = false->((((W g.snd).hi = (z56 (z2q I side)).hi/\((W g.snd).lo = (z56 (z2q I side)).lo/\True))/\(true = (z2q I side).isSome/\True))/\True)/\True)
theorem CRoom_q (I:Inst) (side:List Bool) (ty0 ty1 ty2:TypeId):CRoom_E0 I side ty0 ty1 ty2 = z25 TT CRoom_g (CRoom_I I side) (CRoom_an I side) Try.f53 [.agg [.row 0,.row 1],.row 2] [(0,.row false ty0 (.ints .i64 I.sup)),(1,.row false ty1 (.arcs I.arcs)),(2,.row false ty2 (.bools side))] (CRoom_r I side):=by kernel_rfl
theorem CRoom_E (I:Inst) (side:List Bool) (ty0 ty1 ty2:TypeId) (hp:A64a I.arcs/\I.arcs.length <= 140737488351232):FVc TT CRoom_g (CRoom_I I side) (CRoom_an I side) Try.f53 [.agg [.row 0,.row 1],.row 2] [(0,.row false ty0 (.ints .i64 I.sup)),(1,.row false ty1 (.arcs I.arcs)),(2,.row false ty2 (.bools side))] (CRoom_r I side):=by
 refine FVc.of (CRoom_E0 I side ty0 ty1 ty2) (CRoom_q I side ty0 ty1 ty2) ?_
 unfold CRoom_E0
 delta zaw CRoom_a3 CRoom_a2 CRoom_a1 zav
 obtain ⟨p1,p2⟩:=hp
 simp only [eq_self,exists_const,forall_const,decide_eq_true_eq,decide_eq_false_iff_not,and_true,true_and,bne_iff_ne,ne_eq,bne_eq_false_iff_eq,Int.toNat_natCast,Bool.not_eq_true',Bool.not_eq_false',beq_iff_eq,beq_eq_false_iff_ne,z08]
 refine ⟨(0,0),⟨⟨Nat.zero_le _,rfl⟩,rfl,by decide,by decide⟩,fun g hg=>⟨fun h1=>⟨by omega,by omega,fun x hx=>?_⟩,fun h1=>?_⟩⟩
 ·obtain ⟨g1,g2⟩:=hg
  rw [z32 hx,z3a] at g2
  have hm:=p1 x (List.mem_of_getElem? hx)
  have wk:IntKind.i64.wrap ((g.1:Int) + 1) = ((g.1 + 1:Nat):Int):=by rw [w64 (by omega) (by omega)]; omega
  refine ⟨fun h2=>⟨(g.1 + 1,g.2),⟨by dsimp only; omega,?_⟩,by dsimp only; omega,wk,rfl,rfl⟩,fun h2=>⟨fun h3=>⟨(g.1 + 1,g.2),⟨by dsimp only; omega,?_⟩,by dsimp only; omega,wk,rfl,rfl⟩,
   fun h3=>⟨fun h4=>⟨(g.1 + 1,g.2),⟨by dsimp only; omega,?_⟩,by dsimp only; omega,wk,rfl,rfl⟩,fun h4=>⟨fun h5=>⟨fun h=>by omega,fun _=>⟨fun h6=>?_,fun h6=>⟨hm.2,⟨W_ok _,W_ok _⟩,(g.1 + 1,g.2 + x.cap),⟨by dsimp only; omega,?_⟩,by dsimp only; omega,wk,by rw [z7q],by rw [z7q]⟩⟩⟩,
    fun h5=>⟨⟨hm.1,⟨W_ok _,W_ok _⟩,(g.1 + 1,g.2 - x.low),⟨by dsimp only; omega,?_⟩,by dsimp only; omega,wk,by rw [zb9],by rw [zb9]⟩,fun h=>absurd trivial h⟩⟩⟩⟩⟩
  ·simpa [outA,inA,h2] using g2
  ·simpa [outA,inA,h2,h3] using g2
  ·simpa [outA,inA,h2,h3,h4] using g2
  ·have h7:onF side x.dst = false:=by cases h:onF side x.dst <;> simp_all
   have:z2q I side = none:=by rw [<- g2]; simp [outA,h2,h3,h5,h7,inf,h6]
   rw [this]
   exact ⟨⟨rfl,rfl⟩,rfl⟩
  ·have h7:onF side x.dst = false:=by cases h:onF side x.dst <;> simp_all
   simpa [outA,inA,h2,h3,h5,h7,inf,h6] using g2
  ·have h7:onF side x.dst = true:=by cases h:onF side x.dst <;> simp_all
   simpa [outA,inA,h2,h3,h5,h7] using g2
 ·obtain ⟨g1,g2⟩:=hg
  rw [z6d (by omega)] at g2
  rw [<- g2]
  exact ⟨⟨rfl,rfl⟩,rfl⟩
theorem CRoom_i0_ok (I:Inst) (side:List Bool):zbr Try.prog 79 (CRoom_i0 I side) :=
 inlI_ok z0n (show z18 Try.prog CRoom_i0g from z00 over1_ok (z00 on_ok (z04))) (by kernel_rfl) mixedOrders Try.func79 rfl rfl (fun key spec=>by kernel_rfl) _
theorem CRoom_ok:SpecOk Try.prog CRoom_n true (z03 true CRoom_fs) :=
 z09 z0n (show z18 Try.prog CRoom_g from z00 over_ok (z00 Minus_ok (z00 zbz (z00 z90 (z04))))) (by kernel_rfl) mixedOrders Try.func53 rfl rfl (by kernel_rfl) (n:=2) (by decide +kernel) (I:=CRoom_IA) (fun args h=>by
   unfold CRoom_IA
   split
   ·exact isOk_cons (CRoom_i0_ok _ _) (z06)
   ·exact z06) (A:=CRoom_A)
  (fun args h r hr=>by
   unfold CRoom_fs at hr
   split at hr
   ·rename_i ty0 I_s ty1 I_a ty2 side; cases hr; refine ⟨rfl,fun hp=>?_⟩; have hE:=CRoom_E ⟨I_s,I_a⟩ side ty0 ty1 ty2 hp; exact hE
   ·cases hr)
def Need_E0 (I : Inst) (side : List Bool) (ty0 ty1 ty2 : TypeId) : Prop :=
      ∃ (g0:Nat),
 (g0 <= I.sup.length /\
 (True/\(0:Nat) = (0:Nat)/\(0:Nat) = (0:Nat)/\True/\(↑I.sup.length:Int) = (↑I.sup.length:Int)/\(0:Int) = (↑g0:Int)/\True) /\
 ((0:Int) = (W (z38 side I.sup g0)).hi/\(0:Int) = (W (z38 side I.sup g0)).lo/\True) /\
 ((0:Int) = (0:Int)/\(0:Int) = (0:Int)/\True)/\I.sup = I.sup/\side = side/\True) /\
 ∀ (g:Nat),
 g <= I.sup.length ->
 (decide ((↑g:Int) < (↑I.sup.length:Int)) = true ->
 ((0:Int) <= (↑g:Int)/\(↑g:Int) < (↑I.sup.length:Int)) /\
 (↑g:Int).toNat < I.sup.length /\
 ∀ (x:Int),
 I.sup[(↑g:Int).toNat]? = some x ->
 True /\
 (onF side (↑g:Int) = true ->
 I64 x /\
 ((W (z38 side I.sup g)).ok/\(W x).ok) /\
 ∃ (g':Nat),
 g' <= I.sup.length /\
 I.sup.length - g' < I.sup.length - g /\
 (True /\
 (0:Nat) = (0:Nat) /\
 (0:Nat) = (0:Nat) /\
 True/\(↑I.sup.length:Int) = (↑I.sup.length:Int)/\IntKind.i64.wrap ((↑g:Int) + (1:Int)) = (↑g':Int)/\True) /\
 ((z5d (W (z38 side I.sup g)) (W x)).hi = (W (z38 side I.sup g')).hi /\
 (z5d (W (z38 side I.sup g)) (W x)).lo = (W (z38 side I.sup g')).lo/\True) /\
 ((0:Int) = (0:Int)/\(0:Int) = (0:Int)/\True)/\I.sup = I.sup/\side = side/\True) /\
 (onF side (↑g:Int) = false ->
 ∃ (g':Nat),
 g' <= I.sup.length /\
 I.sup.length - g' < I.sup.length - g /\
 (True /\
 (0:Nat) = (0:Nat) /\
 (0:Nat) = (0:Nat) /\
 True/\(↑I.sup.length:Int) = (↑I.sup.length:Int)/\IntKind.i64.wrap ((↑g:Int) + (1:Int)) = (↑g':Int)/\True) /\
 ((W (z38 side I.sup g)).hi = (W (z38 side I.sup g')).hi/\(W (z38 side I.sup g)).lo = (W (z38 side I.sup g')).lo/\True) /\
 ((0:Int) = (0:Int)/\(0:Int) = (0:Int)/\True)/\I.sup = I.sup/\side = side/\True)) /\
 (decide ((↑g:Int) < (↑I.sup.length:Int)) = false ->
 (((W (z38 side I.sup g)).hi = (W (ze5 I side)).hi/\(W (z38 side I.sup g)).lo = (W (ze5 I side)).lo/\True)/\True)/\True)
theorem Need_q (I:Inst) (side:List Bool) (ty0 ty1 ty2:TypeId):Need_E0 I side ty0 ty1 ty2 = z25 TT Need_g (Need_I I side) (Need_an I side) Try.f55 [.agg [.row 0,.row 1],.row 2] [(0,.row false ty0 (.ints .i64 I.sup)),(1,.row false ty1 (.arcs I.arcs)),(2,.row false ty2 (.bools side))] (Need_r I side):=by kernel_rfl
theorem Need_E (I:Inst) (side:List Bool) (ty0 ty1 ty2:TypeId) (hp:A64 I.sup/\I.sup.length <= 140737488351232):FVc TT Need_g (Need_I I side) (Need_an I side) Try.f55 [.agg [.row 0,.row 1],.row 2] [(0,.row false ty0 (.ints .i64 I.sup)),(1,.row false ty1 (.arcs I.arcs)),(2,.row false ty2 (.bools side))] (Need_r I side):=by
 refine FVc.of (Need_E0 I side ty0 ty1 ty2) (Need_q I side ty0 ty1 ty2) ?_
 unfold Need_E0
 obtain ⟨p1,p2⟩:=hp
 simp only [eq_self,exists_const,forall_const,decide_eq_true_eq,decide_eq_false_iff_not,and_true,true_and,bne_iff_ne,ne_eq,bne_eq_false_iff_eq,Int.toNat_natCast,Bool.not_eq_true',Bool.not_eq_false',beq_iff_eq,beq_eq_false_iff_ne,z08]
 refine ⟨0,⟨Nat.zero_le _,rfl,by simp only [z38]; decide,by simp only [z38]; decide⟩,fun g hg=>⟨fun h1=>⟨by omega,by omega,fun x hx=>?_⟩,fun h1=>?_⟩⟩
 ·have hm:=p1 x (List.mem_of_getElem? hx)
  have wk:IntKind.i64.wrap ((g:Int) + 1) = ((g + 1:Nat):Int):=by rw [w64 (by omega) (by omega)]; omega
  have hd:I.sup.getD g 0 = x:=by simp [List.getD,hx]
  refine ⟨fun h2=>⟨hm,⟨W_ok _,W_ok _⟩,g + 1,by omega,by omega,wk,?_,?_⟩,fun h2=>⟨g + 1,by omega,by omega,wk,?_,?_⟩⟩
  all_goals (rw [onF_nat] at h2; simp only [z38,hd,h2,if_true,if_false,z7q,Int.add_zero,Bool.false_eq_true])
 ·have:g = I.sup.length:=by omega
  subst this
  exact ⟨rfl,rfl⟩
theorem Need_ok:SpecOk Try.prog Need_n true (z03 true Need_fs) :=
 z09 z0n (show z18 Try.prog Need_g from z00 on_ok (z00 z90 (z00 zbz (z04)))) (by kernel_rfl) mixedOrders Try.func55 rfl rfl (by kernel_rfl) (n:=2) (by decide +kernel) (I:=Need_IA) (fun _ _=>z06) (A:=Need_A)
  (fun args h r hr=>by
   unfold Need_fs at hr
   split at hr
   ·rename_i ty0 I_s ty1 I_a ty2 side; cases hr; refine ⟨rfl,fun hp=>?_⟩; have hE:=Need_E ⟨I_s,I_a⟩ side ty0 ty1 ty2 hp; exact hE
   ·cases hr)
def zc6 (I : Inst) (side : List Bool) (ty0 ty1 ty2 : TypeId) : Prop :=
      True /\
 ((z0b I != (0:Int)) = true->(z0b I = z1r I side/\True)/\True) /\
 ((z0b I != (0:Int)) = false ->
 (((↑side.length:Int) != (↑I.sup.length:Int)) = true->((30:Int) = z1r I side/\True)/\True) /\
 (((↑side.length:Int) != (↑I.sup.length:Int)) = false ->
 (A64a I.arcs/\I.arcs.length <= (140737488351232:Nat)) /\
 ((!(z2q I side).isSome) = true->((34:Int) = z1r I side/\True)/\True) /\
 ((!(z2q I side).isSome) = false ->
 (A64 I.sup/\I.sup.length <= (140737488351232:Nat)) /\
 ((W (ze5 I side)).ok/\(z56 (z2q I side)).ok) /\
 (decide (wcmp (W (ze5 I side)) (z56 (z2q I side)) <= (0:Int)) = true->((34:Int) = z1r I side/\True)/\True) /\
 (decide (wcmp (W (ze5 I side)) (z56 (z2q I side)) <= (0:Int)) = false->((0:Int) = z1r I side/\True)/\True))))
theorem Proves_q (I:Inst) (side:List Bool) (ty0 ty1 ty2:TypeId):zc6 I side ty0 ty1 ty2 = z25 TT Proves_g (Proves_I I side) (Proves_an I side) Try.f47 [.agg [.row 0,.row 1],.row 2] [(0,.row false ty0 (.ints .i64 I.sup)),(1,.row false ty1 (.arcs I.arcs)),(2,.row false ty2 (.bools side))] (Proves_r I side):=by kernel_rfl
theorem Proves_E (I:Inst) (side:List Bool) (ty0 ty1 ty2:TypeId) (hp:A64a I.arcs/\I.arcs.length <= 140737488351232/\A64 I.sup/\I.sup.length <= 140737488351232):FVc TT Proves_g (Proves_I I side) (Proves_an I side) Try.f47 [.agg [.row 0,.row 1],.row 2] [(0,.row false ty0 (.ints .i64 I.sup)),(1,.row false ty1 (.arcs I.arcs)),(2,.row false ty2 (.bools side))] (Proves_r I side):=by
 refine FVc.of (zc6 I side ty0 ty1 ty2) (Proves_q I side ty0 ty1 ty2) ?_
 unfold zc6
 obtain ⟨p1,p2,p3,p4⟩:=hp
 simp only [eq_self,exists_const,forall_const,decide_eq_true_eq,decide_eq_false_iff_not,and_true,true_and,bne_iff_ne,ne_eq,bne_eq_false_iff_eq,Int.toNat_natCast,Bool.not_eq_true',Bool.not_eq_false',beq_iff_eq,beq_eq_false_iff_ne,z08]
 unfold z1r
 refine ⟨fun h=>?_,fun h=>⟨fun h2=>?_,fun h2=>⟨⟨p1,p2⟩,fun h3=>?_,fun h3=>?_⟩⟩⟩
 ·simp [h]
 ·simp [h,show side.length ≠ I.sup.length by omega]
 ·simp only [h,ne_eq,not_true,if_false,show side.length = I.sup.length by omega]
  cases hr:z2q I side with
  | none=>simp
  | some s=>rw [hr] at h3; cases h3
 ·cases hr:z2q I side with
  | none=>rw [hr] at h3; cases h3
  | some s =>
   simp only [h,ne_eq,not_true,if_false,show side.length = I.sup.length by omega,z56]
   refine ⟨⟨p3,p4⟩,⟨W_ok _,W_ok _⟩,fun h4=>?_,fun h4=>?_⟩
   ·simp [h4]
   ·simp [h4]
theorem Proves_ok:SpecOk Try.prog Proves_n true (z03 true zc7) :=
 z09 z0n (show z18 Try.prog Proves_g from z00 z7v (z00 CRoom_ok (z00 Need_ok (z00 z8s (z04))))) (by kernel_rfl) mixedOrders Try.func47 rfl rfl (by kernel_rfl) (n:=2) (by decide +kernel) (I:=Proves_IA) (fun _ _=>z06) (A:=Proves_A)
  (fun args h r hr=>by
   unfold zc7 at hr
   split at hr
   ·rename_i ty0 I_s ty1 I_a ty2 side; cases hr; refine ⟨rfl,fun hp=>?_⟩; have hE:=Proves_E ⟨I_s,I_a⟩ side ty0 ty1 ty2 hp; exact hE
   ·cases hr)
def Bools_E0 (xs : List Bool) (ys : List Bool) (ty0 ty1 : TypeId) : Prop :=
      (((↑xs.length:Int) != (↑ys.length:Int)) = true->(false = decide (xs = ys)/\True)/\True) /\
 (((↑xs.length:Int) != (↑ys.length:Int)) = false ->
 ∃ (g0:Nat),
 ((g0 <= xs.length/\List.take g0 xs = List.take g0 ys)/\(True/\True/\(0:Int) = (↑g0:Int)/\True)/\xs = xs/\ys = ys/\True) /\
 ∀ (g:Nat),
 g <= xs.length/\List.take g xs = List.take g ys ->
 (decide ((↑g:Int) < (↑xs.length:Int)) = true ->
 ((0:Int) <= (↑g:Int)/\(↑g:Int) < (↑xs.length:Int)) /\
 (↑g:Int).toNat < xs.length /\
 ∀ (x:Bool),
 xs[(↑g:Int).toNat]? = some x ->
 ((0:Int) <= (↑g:Int)/\(↑g:Int) < (↑ys.length:Int)) /\
 (↑g:Int).toNat < ys.length /\
 ∀ (x_1:Bool),
 ys[(↑g:Int).toNat]? = some x_1 ->
 ((!x == x_1) = true->(false = decide (xs = ys)/\True)/\True) /\
 ((!x == x_1) = false ->
 ∃ (g':Nat),
 (g' <= xs.length/\List.take g' xs = List.take g' ys) /\
 xs.length - g' < xs.length - g /\
 (True/\True/\IntKind.i64.wrap ((↑g:Int) + (1:Int)) = (↑g':Int)/\True)/\xs = xs/\ys = ys/\True)) /\
 (decide ((↑g:Int) < (↑xs.length:Int)) = false->(true = decide (xs = ys)/\True)/\True))
theorem Bools_q (xs:List Bool) (ys:List Bool) (ty0 ty1:TypeId):Bools_E0 xs ys ty0 ty1 = z25 TT Bools_g (Bools_I xs ys) (Bools_an xs ys) Try.f14 [.row 0,.row 1] [(0,.row false ty0 (.bools xs)),(1,.row false ty1 (.bools ys))] (Bools_r xs ys):=by kernel_rfl
theorem Bools_E (xs:List Bool) (ys:List Bool) (ty0 ty1:TypeId) (hp:xs.length <= 1000000000):FVc TT Bools_g (Bools_I xs ys) (Bools_an xs ys) Try.f14 [.row 0,.row 1] [(0,.row false ty0 (.bools xs)),(1,.row false ty1 (.bools ys))] (Bools_r xs ys):=by
 refine FVc.of (Bools_E0 xs ys ty0 ty1) (Bools_q xs ys ty0 ty1) ?_
 unfold Bools_E0
 simp only [eq_self,exists_const,forall_const,decide_eq_true_eq,decide_eq_false_iff_not,and_true,true_and,bne_iff_ne,ne_eq,bne_eq_false_iff_eq,Int.toNat_natCast,Bool.not_eq_true',Bool.not_eq_false',beq_iff_eq,beq_eq_false_iff_ne,z08]
 refine ⟨fun h=>?_,fun h1=>⟨0,by simp,fun k hk=>⟨fun h2=>⟨by omega,by omega,fun x hx=>⟨by omega,by omega,fun y hy=>?_⟩⟩,fun h2=>?_⟩⟩⟩
 ·exact (decide_eq_false (fun e=>h (by rw [e]))).symm
 ·refine ⟨fun h3=>(decide_eq_false (fun e=>?_)).symm,fun h3=>⟨k + 1,⟨by omega,?_⟩,by omega,w64 (by omega) (by omega)⟩⟩
  ·subst e; rw [hx] at hy; cases hy; exact h3 rfl
  ·rw [z2a hx,z2a hy,hk.2,h3]
 ·have h3:=hk.2
  rw [List.take_of_length_le (by omega),List.take_of_length_le (by omega)] at h3
  exact (decide_eq_true h3).symm
theorem Bools_ok:SpecOk Try.prog Bools_n true (z03 true Bools_fs) :=
 z09 z0n (show z18 Try.prog Bools_g from z04) (by kernel_rfl) mixedOrders Try.func14 rfl rfl (by kernel_rfl) (n:=2) (by decide +kernel) (I:=Bools_IA) (fun _ _=>z06) (A:=Bools_A)
  (fun args h r hr=>by
   unfold Bools_fs at hr
   split at hr
   ·rename_i ty0 xs ty1 ys; cases hr; refine ⟨rfl,fun hp=>?_⟩; have hE:=Bools_E xs ys ty0 ty1 hp; exact hE
   ·cases hr)
end Go.Proofs.Ytapeenpimcffpaa
end
section
namespace Go.Ql
open Go Go.RowKit Go.Vc
def redA (a:Arc) (f t:Int):Int:=a.cost - f + t
def sgn (r:Int):Int:=wcmp (W r) (W 0)
def atA (I:Inst) (a:Int):Arc:=z41 I.sup.length I.arcs a
def atF (I:Inst) (pot:List Int) (a:Int):Int:=if gOk I.sup.length I.arcs a then pot.getD (atA I a).src.toNat 0 else 0
def atT (I:Inst) (pot:List Int) (a:Int):Int:=if gOk I.sup.length I.arcs a then pot.getD (atA I a).dst.toNat 0 else 0
def redF (I:Inst) (pot:List Int) (a:Int):Int:=if gOk I.sup.length I.arcs a then redA (atA I a) (atF I pot a) (atT I pot a) else 0
def z49 (r x:Int) (a:Arc):Bool:=!((decide (0 < sgn r) && decide (x ≠ a.low)) || (decide (sgn r < 0) && (decide (x ≠ a.cap) || decide (a.cap = inf))))
def z3b (I:Inst) (x pot:List Int) (k:Nat):Bool:=z49 (redF I pot k) (x.getD k 0) (I.arcs.getD k default)
def z0y (I:Inst) (x pot:List Int):Int :=
 if z16 I x ≠ 0 then z16 I x else if pot.length ≠ I.sup.length then 30 else if (List.range I.arcs.length).all (z3b I x pot) then 0 else 33
def boundS (l pot:List Int):Nat->Int
 | 0=>0
 | k + 1=>boundS l pot k + l.getD k 0 * pot.getD k 0
def potR (pot:List Int) (n:Int):Int:=if 0 <= n then pot.getD n.toNat 0 else 0
def redP (pot:List Int) (a:Arc):Int:=redA a (potR pot a.src) (potR pot a.dst)
def z1o (n:Int) (pot:List Int):List Arc->Int->Option Int
 | [],s=>some s
 | a :: l,s=>if z2g n a then (if sgn (redP pot a) < 0 then if a.cap = inf then none else z1o n pot l (s + a.cap * redP pot a) else z1o n pot l (s + a.low * redP pot a)) else z1o n pot l s
def boundF (I:Inst) (pot:List Int):Option Int:=z1o I.sup.length pot I.arcs (boundS I.sup pot I.sup.length)
theorem sgn_zero:sgn 0 = 0:=by decide
theorem atA_get {I:Inst} {k:Nat} {x:Arc} (h:I.arcs[k]? = some x) (ho:z2g I.sup.length x = true):atA I k = x:=by
 have hg:gOk I.sup.length I.arcs (k:Int) = true:=by rw [zaa (by omega) (by rw [Int.toNat_natCast]; exact h)]; exact ho
 unfold atA z41
 rw [if_pos hg,Int.toNat_natCast]
 simp [List.getD,h]
end Go.Ql
end
section
namespace Go.Proofs.Ytapeenpimcffpaa
open Go Go.RowKit Go.Ql Go.Vc
def of11_r (pot:List Int) (n:Int):FRes:={ pre:=0 <= n,res:=.int .i64 (pot.getD n.toNat 0),rows:=[],eff:=[] }
def of11_fs:FS:=fun args h=>match args,h with
 | [.row 0,.int .i64 n],[(0,.row false ty0 (.ints .i64 pot))]=>some (of11_r pot n)
 | _,_=>none
def of11_an (pot:List Int) (n:Int):List (Nat × Ann):=[]
def of11_A:List SV->z0g->List (Nat × Ann):=fun _ _=>[]
def of11_g:z0c:=[]
abbrev of11_n:Nat:=77
def of11_I (pot:List Int) (n:Int):List (Nat × z0a):=[]
def of11_IA:List SV->z0g->List (Nat × z0a):=fun _ _=>[]
def zej (p:Arc) (pf:Int) (pt:Int):FRes:={ pre:=I64 p.cost/\I64 pf/\I64 pt,res:=.agg (z12 (W (redA p pf pt))),rows:=[],eff:=[] }
def za0:FS:=fun args h=>match args,h with
 | [.agg [.int .i64 p_0,.int .i64 p_1,.int .i64 p_2,.int .i64 p_3,.int .i64 p_4,.int .i64 pf,.int .i64 pt]],[]=>some (zej ⟨p_0,p_1,p_2,p_3,p_4⟩ pf pt)
 | _,_=>none
def reduced_an (p:Arc) (pf:Int) (pt:Int):List (Nat × Ann):=[]
def reduced_A:List SV->z0g->List (Nat × Ann):=fun _ _=>[]
def zei:z0c:=[(zc2,(true,z03 true z5h)),(Minus_n,(true,z03 true z7t)),(Of_n,(true,z03 true z8w))]
abbrev reduced_n:Nat:=61
def reduced_I (p:Arc) (pf:Int) (pt:Int):List (Nat × z0a):=[]
def reduced_IA:List SV->z0g->List (Nat × z0a):=fun _ _=>[]
def sign_r (p:Arc) (pf:Int) (pt:Int):FRes:={ pre:=I64 p.cost/\I64 pf/\I64 pt,res:=.int .i64 (sgn (redA p pf pt)),rows:=[],eff:=[] }
def sign_fs:FS:=fun args h=>match args,h with
 | [.agg [.int .i64 p_0,.int .i64 p_1,.int .i64 p_2,.int .i64 p_3,.int .i64 p_4,.int .i64 pf,.int .i64 pt]],[]=>some (sign_r ⟨p_0,p_1,p_2,p_3,p_4⟩ pf pt)
 | _,_=>none
def sign_an (p:Arc) (pf:Int) (pt:Int):List (Nat × Ann):=[]
def sign_A:List SV->z0g->List (Nat × Ann):=fun _ _=>[]
def sign_g:z0c:=[(z7s,(true,z03 true z4h)),(reduced_n,(true,z03 true za0)),(Of_n,(true,z03 true z8w))]
abbrev sign_n:Nat:=52
def sign_I (p:Arc) (pf:Int) (pt:Int):List (Nat × z0a):=[]
def sign_IA:List SV->z0g->List (Nat × z0a):=fun _ _=>[]
def at11_r (I:Inst) (pot:List Int) (a:Int):FRes:={ pre:=True,res:=.tup [.agg [.int .i64 (atA I a).src,.int .i64 (atA I a).dst,.int .i64 (atA I a).low,.int .i64 (atA I a).cap,.int .i64 (atA I a).cost,.int .i64 (atF I pot a),.int .i64 (atT I pot a)],.bool (gOk I.sup.length I.arcs a)],rows:=[],eff:=[] }
def at11_fs:FS:=fun args h=>match args,h with
 | [.agg [.row 0,.row 1],.row 2,.int .i64 a],[(0,.row false ty0 (.ints .i64 I_s)),(1,.row false ty1 (.arcs I_a)),(2,.row false ty2 (.ints .i64 pot))]=>some (at11_r ⟨I_s,I_a⟩ pot a)
 | _,_=>none
def at11_an (I:Inst) (pot:List Int) (a:Int):List (Nat × Ann):=[]
def at11_A:List SV->z0g->List (Nat × Ann):=fun _ _=>[]
def at11_g:z0c:=[(of11_n,(true,z03 true of11_fs))]
abbrev at11_n:Nat:=60
def at11_I (I:Inst) (pot:List Int) (a:Int):List (Nat × z0a):=[]
def at11_IA:List SV->z0g->List (Nat × z0a):=fun _ _=>[]
abbrev arcs11_n:Nat:=51
def arcs11_g:z0c:=[]
def zcf:Vc.Spec:=z1z TT arcs11_g (fun _ _ _=>[]) Try.f51
def Slack_r (I:Inst) (x:List Int) (pot:List Int):FRes:={ pre:=I.sup.length <= 10000/\I.arcs.length <= 10000/\A64 x/\A64 I.sup/\A64 pot/\A64c I.arcs,res:=.int .u16 (z0y I x pot),rows:=[],eff:=[] }
def Slack_fs:FS:=fun args h=>match args,h with
 | [.agg [.row 0,.row 1],.row 2,.row 3],[(0,.row false ty0 (.ints .i64 I_s)),(1,.row false ty1 (.arcs I_a)),(2,.row false ty2 (.ints .i64 x)),(3,.row false ty3 (.ints .i64 pot))]=>some (Slack_r ⟨I_s,I_a⟩ x pot)
 | _,_=>none
def Slack_an (I:Inst) (x:List Int) (pot:List Int):List (Nat × Ann):=[]
def Slack_A:List SV->z0g->List (Nat × Ann):=fun _ _=>[]
def Slack_g:z0c:=[(Fits_n,(true,z03 true Fits_fs)),(arcs11_n,(false,zcf)),(sign_n,(true,z03 true sign_fs))]
abbrev Slack_n:Nat:=45
def Slack_i0g:z0c:=[(at11_n,(true,z03 true at11_fs))]
def Slack_i0 (I:Inst) (x:List Int) (pot:List Int):z0a:=inlI TT Slack_i0g (fun args hp nk=>match args with
  | [y,c1,c2]=>[(1,{ G:=Nat,inv:=fun g=>⟨[(0,y),(1,c1),(2,c2),(9,.int .i64 I.arcs.length),(10,.int .i64 g)],hp,nk⟩,rel:=fun _ g=>g <= I.arcs.length/\∀ j,j < g->z3b I x pot j = true,meas:=fun g=>I.arcs.length - g })]
  | _=>[]) Try.f59
def Slack_I (I:Inst) (x:List Int) (pot:List Int):List (Nat × z0a):=[(59,Slack_i0 I x pot)]
def Slack_IA:List SV->z0g->List (Nat × z0a):=fun args h=>match args,h with
 | [.agg [.row 0,.row 1],.row 2,.row 3],[(0,.row false ty0 (.ints .i64 I_s)),(1,.row false ty1 (.arcs I_a)),(2,.row false ty2 (.ints .i64 x)),(3,.row false ty3 (.ints .i64 pot))]=>Slack_I ⟨I_s,I_a⟩ x pot
 | _,_=>[]
end Go.Proofs.Ytapeenpimcffpaa
end
