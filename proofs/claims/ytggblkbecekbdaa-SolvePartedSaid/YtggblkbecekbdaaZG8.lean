/- Part of the proof: FB9, Price, Law10, Law11, Trim, Law03, Trim2, Law15, Odd, TrimL, Ray, Cert, CertOne. -/
import Derived.Test.YtggblkbecekbdaaZG7
import Derived.Test.YtggblkbecekbdaaZG5
import Derived.Test.YtggblkbecekbdaaZG6
import Derived.Test.YtggblkbecekbdaaZG1
set_option linter.unusedVariables false
set_option linter.all false
set_option linter.unusedSimpArgs false
set_option maxRecDepth 1000000
section
namespace Go.Proofs.Ytggblkbecekbdaa
open Go Go.RowKit Go.Ql Go.Vc
def has_E0 (g_n : Int) (g_l : List Arc) (g_i : List Int) (g_s : List Int) (a : Int) (ty0 ty1 ty2 ty3 : TypeId) : Prop :=
      ((!false) = true ->
 (decide (a ≥ (0:Int)) = true->(decide (a < g_n) = (decide ((0:Int) <= a) && decide (a < g_n))/\True)/\True) /\
 (decide (a ≥ (0:Int)) = false->(false = (decide ((0:Int) <= a) && decide (a < g_n))/\True)/\True)) /\
 ((!false) = false->(false = (decide ((0:Int) <= a) && decide (a < g_n))/\True)/\True)
theorem has_q (g_n:Int) (g_l:List Arc) (g_i:List Int) (g_s:List Int) (a:Int) (ty0 ty1 ty2 ty3:TypeId):has_E0 g_n g_l g_i g_s a ty0 ty1 ty2 ty3 = z3p TT has_g (has_I g_n g_l g_i g_s a) (has_an g_n g_l g_i g_s a) Try.f105 [.ptr 0 0 0 0,.int .i64 a] [(0,.box false ty0 [.int .i64 g_n,.row 1,.row 2,.row 3]),(1,.row false ty1 (.arcs g_l)),(2,.row false ty2 (.ints .i64 g_i)),(3,.row false ty3 (.ints .i64 g_s))] (has_r g_n g_l g_i g_s a):=by kernel_rfl
theorem has_E (g_n:Int) (g_l:List Arc) (g_i:List Int) (g_s:List Int) (a:Int) (ty0 ty1 ty2 ty3:TypeId) (hp:True):FVc TT has_g (has_I g_n g_l g_i g_s a) (has_an g_n g_l g_i g_s a) Try.f105 [.ptr 0 0 0 0,.int .i64 a] [(0,.box false ty0 [.int .i64 g_n,.row 1,.row 2,.row 3]),(1,.row false ty1 (.arcs g_l)),(2,.row false ty2 (.ints .i64 g_i)),(3,.row false ty3 (.ints .i64 g_s))] (has_r g_n g_l g_i g_s a):=by
 refine FVc.of (has_E0 g_n g_l g_i g_s a ty0 ty1 ty2 ty3) (has_q g_n g_l g_i g_s a ty0 ty1 ty2 ty3) ?_
 unfold has_E0
 simp only [eq_self,exists_const,forall_const,decide_eq_true_eq,decide_eq_false_iff_not,and_true,true_and,bne_iff_ne,ne_eq,bne_eq_false_iff_eq,Int.toNat_natCast,Bool.not_eq_true',Bool.not_eq_false',beq_iff_eq,beq_eq_false_iff_ne,z09]
 by_cases h:0 <= a <;> simp [h] <;> omega
theorem has_ok:SpecOk Try.prog has_n true (z04 true has_fs) :=
 z0b z0v (show z1w Try.prog has_g from z06) (by kernel_rfl) mixedOrders Try.func105 rfl rfl (by kernel_rfl) (n:=2) (by decide +kernel) (I:=has_IA) (fun _ _=>z07) (A:=has_A)
  (fun args h r hr=>by
   unfold has_fs at hr
   split at hr
   ·rename_i a ty0 g_n ty1 g_l ty2 g_i ty3 g_s; cases hr; refine ⟨rfl,fun hp=>?_⟩; have hE:=has_E g_n g_l g_i g_s a ty0 ty1 ty2 ty3 hp; exact hE
   ·cases hr)
def GArc_E0 (g_n : Int) (g_l : List Arc) (g_i : List Int) (g_s : List Int) (a : Int) (ty0 ty1 ty2 ty3 : TypeId) : Prop :=
      (false = true ->
 ((((0:Int) = (z2v g_n g_l a).src /\
 (0:Int) = (z2v g_n g_l a).dst/\(0:Int) = (z2v g_n g_l a).low/\(0:Int) = (z2v g_n g_l a).cap/\(0:Int) = (z2v g_n g_l a).cost/\True) /\
 false = gOk g_n g_l a/\True) /\
 True) /\
 True) /\
 (false = false ->
 (decide (a < (0:Int)) = true ->
 ((((0:Int) = (z2v g_n g_l a).src /\
 (0:Int) = (z2v g_n g_l a).dst/\(0:Int) = (z2v g_n g_l a).low/\(0:Int) = (z2v g_n g_l a).cap/\(0:Int) = (z2v g_n g_l a).cost/\True) /\
 false = gOk g_n g_l a/\True) /\
 True) /\
 True) /\
 (decide (a < (0:Int)) = false ->
 (decide (a ≥ (↑g_l.length:Int)) = true ->
 ((((0:Int) = (z2v g_n g_l a).src /\
 (0:Int) = (z2v g_n g_l a).dst/\(0:Int) = (z2v g_n g_l a).low/\(0:Int) = (z2v g_n g_l a).cap/\(0:Int) = (z2v g_n g_l a).cost/\True) /\
 false = gOk g_n g_l a/\True) /\
 True) /\
 True) /\
 (decide (a ≥ (↑g_l.length:Int)) = false ->
 ((0:Int) <= a/\a < (↑g_l.length:Int)) /\
 a.toNat < g_l.length /\
 ∀ (x:Arc),
 g_l[a.toNat]? = some x ->
 True /\
 ((!(decide ((0:Int) <= x.src) && decide (x.src < g_n))) = true ->
 ((((0:Int) = (z2v g_n g_l a).src /\
 (0:Int) = (z2v g_n g_l a).dst /\
 (0:Int) = (z2v g_n g_l a).low/\(0:Int) = (z2v g_n g_l a).cap/\(0:Int) = (z2v g_n g_l a).cost/\True) /\
 false = gOk g_n g_l a/\True) /\
 True) /\
 True) /\
 ((!(decide ((0:Int) <= x.src) && decide (x.src < g_n))) = false ->
 True /\
 ((!(decide ((0:Int) <= x.dst) && decide (x.dst < g_n))) = true ->
 ((((0:Int) = (z2v g_n g_l a).src /\
 (0:Int) = (z2v g_n g_l a).dst /\
 (0:Int) = (z2v g_n g_l a).low/\(0:Int) = (z2v g_n g_l a).cap/\(0:Int) = (z2v g_n g_l a).cost/\True) /\
 false = gOk g_n g_l a/\True) /\
 True) /\
 True) /\
 ((!(decide ((0:Int) <= x.dst) && decide (x.dst < g_n))) = false ->
 (((x.src = (z2v g_n g_l a).src /\
 x.dst = (z2v g_n g_l a).dst/\x.low = (z2v g_n g_l a).low/\x.cap = (z2v g_n g_l a).cap/\x.cost = (z2v g_n g_l a).cost/\True) /\
 true = gOk g_n g_l a/\True) /\
 True) /\
 True)))))
theorem GArc_q (g_n:Int) (g_l:List Arc) (g_i:List Int) (g_s:List Int) (a:Int) (ty0 ty1 ty2 ty3:TypeId):GArc_E0 g_n g_l g_i g_s a ty0 ty1 ty2 ty3 = z3p TT GArc_g (GArc_I g_n g_l g_i g_s a) (GArc_an g_n g_l g_i g_s a) Try.f65 [.ptr 0 0 0 0,.int .i64 a] [(0,.box false ty0 [.int .i64 g_n,.row 1,.row 2,.row 3]),(1,.row false ty1 (.arcs g_l)),(2,.row false ty2 (.ints .i64 g_i)),(3,.row false ty3 (.ints .i64 g_s))] (GArc_r g_n g_l g_i g_s a):=by kernel_rfl
theorem GArc_E (g_n:Int) (g_l:List Arc) (g_i:List Int) (g_s:List Int) (a:Int) (ty0 ty1 ty2 ty3:TypeId) (hp:True):FVc TT GArc_g (GArc_I g_n g_l g_i g_s a) (GArc_an g_n g_l g_i g_s a) Try.f65 [.ptr 0 0 0 0,.int .i64 a] [(0,.box false ty0 [.int .i64 g_n,.row 1,.row 2,.row 3]),(1,.row false ty1 (.arcs g_l)),(2,.row false ty2 (.ints .i64 g_i)),(3,.row false ty3 (.ints .i64 g_s))] (GArc_r g_n g_l g_i g_s a):=by
 refine FVc.of (GArc_E0 g_n g_l g_i g_s a ty0 ty1 ty2 ty3) (GArc_q g_n g_l g_i g_s a ty0 ty1 ty2 ty3) ?_
 unfold GArc_E0
 simp only [eq_self,exists_const,forall_const,decide_eq_true_eq,decide_eq_false_iff_not,and_true,true_and,bne_iff_ne,ne_eq,bne_eq_false_iff_eq,Int.toNat_natCast,Bool.not_eq_true',Bool.not_eq_false',beq_iff_eq,beq_eq_false_iff_ne,z09]
 refine ⟨fun h=>(by cases h),fun h=>?_,fun h=>⟨fun h2=>?_,fun h2=>⟨by omega,by omega,fun x hx=>?_⟩⟩⟩
 ·simp [gArc_out (n:=g_n) (l:=g_l) (.inl h),zlx (n:=g_n) (l:=g_l) (.inl h)]
 ·simp [gArc_out (n:=g_n) (l:=g_l) (.inr h2),zlx (n:=g_n) (l:=g_l) (.inr h2)]
 ·rw [zlw (by omega) hx,gArc_at (by omega) hx]
  have e:z2l g_n x = ((decide (0 <= x.src) && decide (x.src < g_n)) && (decide (0 <= x.dst) && decide (x.dst < g_n))):=rfl
  refine ⟨fun h3=>?_,fun h3=>⟨fun h4=>?_,fun h4=>?_⟩⟩
  ·simp [e,h3]
  ·simp [e,h3,h4]
  ·simp [e,h3,h4]
theorem GArc_ok:SpecOk Try.prog GArc_n true (z04 true GArc_fs) :=
 z0b z0v (show z1w Try.prog GArc_g from z02 has_ok (z06)) (by kernel_rfl) mixedOrders Try.func65 rfl rfl (by kernel_rfl) (n:=2) (by decide +kernel) (I:=GArc_IA) (fun _ _=>z07) (A:=GArc_A)
  (fun args h r hr=>by
   unfold GArc_fs at hr
   split at hr
   ·rename_i a ty0 g_n ty1 g_l ty2 g_i ty3 g_s; cases hr; refine ⟨rfl,fun hp=>?_⟩; have hE:=GArc_E g_n g_l g_i g_s a ty0 ty1 ty2 ty3 hp; exact hE
   ·cases hr)
def zk8 (l : List Int) (ty0 : TypeId) : Prop :=
      ∀ (b:Bool),
 ((0:Nat) < l.length->b = false)->(b = true->(True/\True)/\[] = l/\True)/\(b = false->(0:Nat) + l.length <= (1000000000:Nat)/\(True/\True)/\l = l/\True)
theorem CloneI_q (l:List Int) (ty0:TypeId):zk8 l ty0 = z3p TT CloneI_g (CloneI_I l) (CloneI_an l) Try.f66 [.row 0] [(0,.row false ty0 (.ints .i64 l))] (CloneI_r l):=by kernel_rfl
theorem CloneI_E (l:List Int) (ty0:TypeId) (hp:l.length <= 1000000000):FVc TT CloneI_g (CloneI_I l) (CloneI_an l) Try.f66 [.row 0] [(0,.row false ty0 (.ints .i64 l))] (CloneI_r l):=by
 refine FVc.of (zk8 l ty0) (CloneI_q l ty0) ?_
 unfold zk8
 simp only [eq_self,exists_const,forall_const,decide_eq_true_eq,decide_eq_false_iff_not,and_true,true_and,bne_iff_ne,ne_eq,bne_eq_false_iff_eq,Int.toNat_natCast,Bool.not_eq_true',Bool.not_eq_false',beq_iff_eq,beq_eq_false_iff_ne,z09]
 refine fun b hb=>⟨fun h=>?_,fun h=>by omega⟩
 have:l = []:=by
  cases l with
  | nil=>rfl
  | cons y l=>have:=hb (by simp); rw [h] at this; cases this
 rw [this]
theorem CloneI_ok:SpecOk Try.prog CloneI_n true (z04 true zk9) :=
 z0b z0v (show z1w Try.prog CloneI_g from z06) (by kernel_rfl) mixedOrders Try.func66 rfl rfl (by kernel_rfl) (n:=1) (by decide +kernel) (I:=CloneI_IA) (fun _ _=>z07) (A:=CloneI_A)
  (fun args h r hr=>by
   unfold zk9 at hr
   split at hr
   ·rename_i ty0 l; cases hr; refine ⟨rfl,fun hp=>?_⟩; have hE:=CloneI_E l ty0 hp; exact hE
   ·cases hr)
theorem put_ok:SpecOk Try.prog put_n false put_spec :=
 inl_ok z0v (show z1w Try.prog put_g from z06) (by kernel_rfl) mixedOrders Try.func67 rfl rfl (by kernel_rfl) _
abbrev zaf (I:Inst) (g:Nat):=(IntKind.i64.wrap ((2:Int) * (z2v (↑I.sup.length:Int) I.arcs (↑g:Int)).src) + (0:Int))
abbrev zcy (I:Inst) (g:Nat):=(IntKind.i64.wrap ((2:Int) * (z2v (↑I.sup.length:Int) I.arcs (↑g:Int)).dst) + (1:Int))
abbrev zkl (I:Inst):=((↑I.sup.length:Int) = ↑I.sup.length/\(True/\(True/\(True/\True))))
abbrev zij (I:Inst) (g:Nat) (x_1:Int):=((N3 I g).set (IntKind.i64.wrap (zaf I g)).toNat (IntKind.i64.wrap (x_1 + (1:Int))))
abbrev zkm (I:Inst) (g:Nat) (x:Int):=((S1 I g).set (IntKind.i64.wrap (IntKind.i64.wrap (zaf I g) + (1:Int))).toNat (IntKind.i64.wrap (x + (1:Int))))
abbrev New_a5 (I:Inst) (g:Nat) (g':Nat):=((↑I.arcs.length:Int) = ↑I.arcs.length/\(IntKind.i64.wrap ((↑g:Int) + (1:Int)) = (↑g':Int)/\True))
abbrev New_a6 (I:Inst):=((0 = 0/\True)/\((zkl I)/\(zb8 Int/\(I.arcs = I.arcs/\True))))
abbrev New_a7 (I:Inst):=(∃ (g:Unit),True/\((0 = 0/\True)/\((0 = 0/\True)/\((zkl I)/\(zb8 Int/\(zb8 Int/\(I.arcs = I.arcs/\True)))))))
abbrev New_a8 (I:Inst):=(IntKind.i64.wrap ((2:Int) * (↑I.sup.length:Int)) + (1:Int))
abbrev zel (I:Inst) (g:Nat):=(IntKind.i64.wrap (zcy I g) + (1:Int))
abbrev New_a10 (I:Inst) (g:Nat):=((0:Int) <= IntKind.i64.wrap (zaf I g)/\(IntKind.i64.wrap (zaf I g) < (↑(N3 I g).length:Int)))
abbrev zag (I:Inst) (g:Nat):=(IntKind.i64.wrap (zaf I g) + (1:Int))
abbrev New_a12 (I:Inst) (g:Nat) (x_1:Int):=((0:Int) <= IntKind.i64.wrap (zcy I g)/\(IntKind.i64.wrap (zcy I g) < (↑(zij I g x_1).length:Int)))
abbrev New_a13 (g:Nat) (I:Inst):=((0:Int) <= IntKind.i64.wrap ((↑g:Int) + (1:Int))/\(IntKind.i64.wrap ((↑g:Int) + (1:Int)) < (↑(S2 I g).length:Int)))
def New_E0 (I : Inst) (ty0 ty1 : TypeId) : Prop :=
   (((I.sup.length <= (1000000000:Nat)/\(I.arcs.length <= (1000000000:Nat)))/\((New_a7 I)/\(New_a7 I)))/\((I.sup.length <= (1000000000:Nat)/\(I.arcs.length <= (1000000000:Nat)))/\(New_a7 I)))/\∀ (g:Unit),True->(IntKind.i64.wrap (New_a8 I) = IntKind.i64.wrap (New_a8 I)/\((0:Int) <= IntKind.i64.wrap (New_a8 I)/\(IntKind.i64.wrap (New_a8 I) <= (1000000000:Int))))/\∃ (g0:Nat),(g0 <= I.arcs.length/\((0 = 0/\((↑I.arcs.length:Int) = ↑I.arcs.length/\((0:Int) = ↑g0/\True)))/\(List.replicate (IntKind.i64.wrap (New_a8 I)).toNat (0:Int) = S1 I g0/\(New_a6 I))))/\∀ (g:Nat),g <= I.arcs.length->(decide ((↑g:Int) < ↑I.arcs.length) = true->True/\(gOk (↑I.sup.length:Int) I.arcs (↑g:Int) = true->((0:Int) <= IntKind.i64.wrap (zag I g)/\(IntKind.i64.wrap (zag I g) < (↑(S1 I g).length:Int)))/\(IntKind.i64.wrap (zag I g)).toNat < (S1 I g).length/\∀ (x:Int),(S1 I g)[(IntKind.i64.wrap (zag I g)).toNat]? = some x->((0:Int) <= IntKind.i64.wrap (zag I g)/\(IntKind.i64.wrap (zag I g) < (↑(S1 I g).length:Int)))/\(IntKind.i64.wrap (zag I g)).toNat < (S1 I g).length/\((0:Int) <= IntKind.i64.wrap (zel I g)/\(IntKind.i64.wrap (zel I g) < (↑(zkm I g x).length:Int)))/\((IntKind.i64.wrap (zel I g)).toNat < (zkm I g x).length/\(∀ (x_1:Int),(zkm I g x)[(IntKind.i64.wrap (zel I g)).toNat]? = some x_1->((0:Int) <= IntKind.i64.wrap (zel I g)/\(IntKind.i64.wrap (zel I g) < (↑(zkm I g x).length:Int)))/\((IntKind.i64.wrap (zel I g)).toNat < (zkm I g x).length/\(∃ (g':Nat),g' <= I.arcs.length/\(I.arcs.length - g' < I.arcs.length - g/\((0 = 0/\(New_a5 I g g'))/\((zkm I g x).set (IntKind.i64.wrap (zel I g)).toNat (IntKind.i64.wrap (x_1 + (1:Int))) = S1 I g'/\(New_a6 I)))))))))/\(gOk (↑I.sup.length:Int) I.arcs (↑g:Int) = false->∃ (g':Nat),g' <= I.arcs.length/\(I.arcs.length - g' < I.arcs.length - g/\((0 = 0/\(New_a5 I g g'))/\(S1 I g = S1 I g'/\(New_a6 I))))))/\(decide ((↑g:Int) < ↑I.arcs.length) = false->∃ (g0:Nat),(g0 <= (2:Nat) * I.sup.length/\((0 = 0/\(IntKind.i64.wrap ((2:Int) * (↑I.sup.length:Int)) = (↑((2:Nat) * I.sup.length):Int)/\((0:Int) = ↑g0/\True)))/\(S1 I g = S2 I g0/\(New_a6 I))))/\∀ (g:Nat),g <= (2:Nat) * I.sup.length->(decide ((↑g:Int) < ↑((2:Nat) * I.sup.length)) = true->(New_a13 g I)/\((IntKind.i64.wrap ((↑g:Int) + (1:Int))).toNat < (S2 I g).length/\(∀ (x:Int),(S2 I g)[(IntKind.i64.wrap ((↑g:Int) + (1:Int))).toNat]? = some x->((0:Int) <= ↑g/\((↑g:Int) < ↑(S2 I g).length))/\((↑g:Int).toNat < (S2 I g).length/\(∀ (x_1:Int),(S2 I g)[(↑g:Int).toNat]? = some x_1->(New_a13 g I)/\((IntKind.i64.wrap ((↑g:Int) + (1:Int))).toNat < (S2 I g).length/\(∃ (g':Nat),g' <= (2:Nat) * I.sup.length/\((2:Nat) * I.sup.length - g' < (2:Nat) * I.sup.length - g/\((0 = 0/\((↑((2:Nat) * I.sup.length):Int) = ↑((2:Nat) * I.sup.length)/\(IntKind.i64.wrap ((↑g:Int) + (1:Int)) = (↑g':Int)/\True)))/\((S2 I g).set (IntKind.i64.wrap ((↑g:Int) + (1:Int))).toNat (IntKind.i64.wrap (x + x_1)) = S2 I g'/\(New_a6 I)))))))))))/\(decide ((↑g:Int) < ↑((2:Nat) * I.sup.length)) = false->((0:Int) <= IntKind.i64.wrap ((2:Int) * (↑I.sup.length:Int))/\(IntKind.i64.wrap ((2:Int) * (↑I.sup.length:Int)) < (↑(S2 I g).length:Int)))/\(IntKind.i64.wrap ((2:Int) * (↑I.sup.length:Int))).toNat < (S2 I g).length/\∀ (x:Int),(S2 I g)[(IntKind.i64.wrap ((2:Int) * (↑I.sup.length:Int))).toNat]? = some x->(x = x/\((0:Int) <= x/\(x <= (1000000000:Int))))/\(S2 I g).length <= (1000000000:Nat)/\∃ (g0:Nat),(g0 <= I.arcs.length/\((0 = 0/\((0 = 0/\(0 = 0/\True))/\((↑I.arcs.length:Int) = ↑I.arcs.length/\((0:Int) = ↑g0/\True))))/\((True/\True)/\(S2 I g = N3 I g0/\(List.replicate x.toNat (0:Int) = L3 I g0/\(S2 I g = z1i I/\((0 = 0/\True)/\((zkl I)/\(I.arcs = I.arcs/\True)))))))))/\∀ (g:Nat),g <= I.arcs.length->(decide ((↑g:Int) < ↑I.arcs.length) = true->True/\(gOk (↑I.sup.length:Int) I.arcs (↑g:Int) = true->(New_a10 I g)/\(IntKind.i64.wrap (zaf I g)).toNat < (N3 I g).length/\∀ (x:Int),(N3 I g)[(IntKind.i64.wrap (zaf I g)).toNat]? = some x->((0:Int) <= x/\(x < (↑(L3 I g).length:Int)))/\x.toNat < (L3 I g).length/\(New_a10 I g)/\(IntKind.i64.wrap (zaf I g)).toNat < (N3 I g).length/\∀ (x_1:Int),(N3 I g)[(IntKind.i64.wrap (zaf I g)).toNat]? = some x_1->(New_a10 I g)/\(IntKind.i64.wrap (zaf I g)).toNat < (N3 I g).length/\(New_a12 I g x_1)/\(IntKind.i64.wrap (zcy I g)).toNat < (zij I g x_1).length/\∀ (x_2:Int),(zij I g x_1)[(IntKind.i64.wrap (zcy I g)).toNat]? = some x_2->((0:Int) <= x_2/\(x_2 < (↑((L3 I g).set x.toNat (↑g:Int)).length:Int)))/\x_2.toNat < ((L3 I g).set x.toNat (↑g:Int)).length/\(New_a12 I g x_1)/\((IntKind.i64.wrap (zcy I g)).toNat < (zij I g x_1).length/\(∀ (x_3:Int),(zij I g x_1)[(IntKind.i64.wrap (zcy I g)).toNat]? = some x_3->(New_a12 I g x_1)/\((IntKind.i64.wrap (zcy I g)).toNat < (zij I g x_1).length/\(∃ (g':Nat),g' <= I.arcs.length/\(I.arcs.length - g' < I.arcs.length - g/\((0 = 0/\((0 = 0/\(0 = 0/\True))/\(New_a5 I g g')))/\((True/\True)/\((zij I g x_1).set (IntKind.i64.wrap (zcy I g)).toNat (IntKind.i64.wrap (x_3 + (1:Int))) = N3 I g'/\(((L3 I g).set x.toNat (↑g:Int)).set x_2.toNat (↑g:Int) = L3 I g'/\(z1i I = z1i I/\((0 = 0/\True)/\((zkl I)/\(I.arcs = I.arcs/\True))))))))))))))/\(gOk (↑I.sup.length:Int) I.arcs (↑g:Int) = false->∃ (g':Nat),g' <= I.arcs.length/\(I.arcs.length - g' < I.arcs.length - g/\((0 = 0/\((0 = 0/\(0 = 0/\True))/\(New_a5 I g g')))/\((True/\True)/\(N3 I g = N3 I g'/\(L3 I g = L3 I g'/\(z1i I = z1i I/\((0 = 0/\True)/\((zkl I)/\(I.arcs = I.arcs/\True)))))))))))/\(decide ((↑g:Int) < ↑I.arcs.length) = false->(0 = 0/\True)/\((zkl I)/\(I.arcs = I.arcs/\(L3 I g = z4p I/\(z1i I = z1i I/\True)))))))
theorem New_q (I:Inst) (ty0 ty1:TypeId):New_E0 I ty0 ty1 = z3p TT New_g (New_I I) (New_an I) Try.f39 [.agg [.row 0,.row 1]] [(0,.row false ty0 (.ints .i64 I.sup)),(1,.row false ty1 (.arcs I.arcs))] (New_r I):=by kernel_rfl
theorem New_E (I:Inst) (ty0 ty1:TypeId) (hp:I.sup.length <= 10000/\I.arcs.length <= 10000):FVc TT New_g (New_I I) (New_an I) Try.f39 [.agg [.row 0,.row 1]] [(0,.row false ty0 (.ints .i64 I.sup)),(1,.row false ty1 (.arcs I.arcs))] (New_r I):=by
 refine FVc.of (New_E0 I ty0 ty1) (New_q I ty0 ty1) ?_
 unfold New_E0
 delta New_a13 New_a12 zag New_a10 zel New_a8 New_a7 New_a6 New_a5 zkm zij zkl zcy zaf
 simp only [eq_self,exists_const,forall_const,decide_eq_true_eq,decide_eq_false_iff_not,and_true,true_and,bne_iff_ne,ne_eq,bne_eq_false_iff_eq,Int.toNat_natCast,Bool.not_eq_true',Bool.not_eq_false',beq_iff_eq,beq_eq_false_iff_ne,z09]
 obtain ⟨p1,p2⟩:=hp
 have e1:IntKind.i64.wrap (2 * (I.sup.length:Int)) = ((2 * I.sup.length:Nat):Int):=by rw [w64 (by omega) (by omega)]; omega
 have e2:IntKind.i64.wrap (((2 * I.sup.length:Nat):Int) + 1) = ((2 * I.sup.length + 1:Nat):Int):=by rw [w64 (by omega) (by omega)]; omega
 simp only [e1,e2,Int.toNat_natCast,show ∀ k,(S1 I k).length = 2 * I.sup.length + 1 from fun k=>by simp [S1],show ∀ k,(S2 I k).length = 2 * I.sup.length + 1 from fun k=>by simp [S2],show ∀ k,(N3 I k).length = 2 * I.sup.length + 1 from fun k=>by simp [N3],List.length_set]
 have hL3:∀ k,k <= I.arcs.length->(L3 I k).length = zab I (2 * I.sup.length):=fun k hk=>zlt I (fun t=>zk1 hk t) _
 have hs1:∀ (k j:Nat) (v:Int),(S1 I k)[j]? = some v->k <= I.arcs.length->0 <= v/\v <= 10000:=fun k j v h hk=>by
  have e:=S1_get h
  subst e
  have:=zaq I (j - 1) k
  split <;> omega
 have hsum:∀ k,k <= 2 * I.sup.length->zab I k <= 200000000:=fun k hk=>by
  have h1:=zbx I k (2 * I.sup.length - k)
  rw [show k + (2 * I.sup.length - k) = 2 * I.sup.length by omega] at h1
  have h2:=sumA_le I (2 * I.sup.length)
  have h3:2 * I.sup.length * I.arcs.length <= 20000 * 10000:=Nat.mul_le_mul (by omega) p2
  omega
 have arcs:∀ k:Nat,k < I.arcs.length->∃ a,I.arcs[k]? = some a/\gOk I.sup.length I.arcs k = z2l I.sup.length a/\(z2l I.sup.length a = true->z2v I.sup.length I.arcs k = a):=fun k hk=>by
  have ha:I.arcs[k]? = some I.arcs[k]:=List.getElem?_eq_getElem hk
  exact ⟨_,ha,zlw (by omega) (by simpa using ha),fun ho=>by rw [gArc_at (x:=I.arcs[k]) (by omega) (by simpa using ha),if_pos ho]⟩
 refine ⟨by omega,by omega,0,⟨by omega,rfl,by rw [S1_zero]⟩,fun k hk=>⟨fun h1=>?_,fun h1=>?_⟩⟩
 ·obtain ⟨a,ha,hgo,hga⟩:=arcs k (by omega)
  rw [hgo]
  refine ⟨fun ho=>?_,fun ho=>⟨k + 1,by omega,by omega,w64 (by omega) (by omega),S1_same ha ho⟩⟩
  rw [hga ho]
  obtain ⟨o1,o2,o3,o4⟩:=okArc_iff.1 ho
  have f1:IntKind.i64.wrap (IntKind.i64.wrap (IntKind.i64.wrap (2 * a.src) + 0) + 1) = 2 * a.src + 1:=by rw [w64 (x:=2 * a.src) (by omega) (by omega),w64 (x:=2 * a.src + 0) (by omega) (by omega),w64 (by omega) (by omega)]; omega
  have f2:IntKind.i64.wrap (IntKind.i64.wrap (IntKind.i64.wrap (2 * a.dst) + 1) + 1) = 2 * a.dst + 2:=by rw [w64 (x:=2 * a.dst) (by omega) (by omega),w64 (x:=2 * a.dst + 1) (by omega) (by omega),w64 (by omega) (by omega)]; omega
  rw [f1,f2]
  refine ⟨by omega,by omega,fun x hx=>?_⟩
  have bx:=hs1 k _ x hx hk
  rw [w64 (x:=x + 1) (by omega) (by omega)]
  refine ⟨by omega,by omega,by omega,by omega,fun y hy=>?_⟩
  have hstep:=S1_step ha ho hx hy
  have by':0 <= y/\y <= 10001:=by
   rw [List.getElem?_set] at hy
   split at hy
   ·split at hy
    ·cases hy; omega
    ·cases hy
   ·have:=hs1 k _ y hy hk; omega
  rw [w64 (x:=y + 1) (by omega) (by omega)]
  exact ⟨by omega,by omega,k + 1,by omega,by omega,w64 (by omega) (by omega),hstep⟩
 have hk':k = I.arcs.length:=by omega
 refine ⟨0,⟨by omega,⟨trivial,rfl⟩,by rw [hk',S1_S2]⟩,fun k2 hk2=>⟨fun h2=>?_,fun h2=>?_⟩⟩
 ·have f:IntKind.i64.wrap ((k2:Int) + 1) = ((k2 + 1:Nat):Int):=by rw [w64 (by omega) (by omega)]; omega
  simp only [f,Int.toNat_natCast]
  refine ⟨by omega,by omega,fun x hx=>⟨by omega,by omega,fun y hy=>⟨by omega,by omega,k2 + 1,by omega,by omega,rfl,?_⟩⟩⟩
  have hstep:=S2_step (by omega) hx hy
  have ex:=S2_get hx
  have ey:=S2_get hy
  rw [if_neg (by omega)] at ex
  rw [if_pos (by omega)] at ey
  have c1:=zaq I (k2 + 1 - 1) I.arcs.length
  have c2:=hsum k2 hk2
  rw [w64 (by omega) (by omega),hstep]
 have hk2':k2 = 2 * I.sup.length:=by omega
 subst hk2'
 rw [S2_end]
 have hstart:(z1i I).length = 2 * I.sup.length + 1:=by simp [z1i]
 refine ⟨by omega,by omega,fun x hx=>?_⟩
 have ex:=startF_get hx
 have bx:=hsum (2 * I.sup.length) (by omega)
 subst ex
 refine ⟨by omega,by omega,0,⟨by omega,rfl,startF_N3 I,by rw [L3_zero]; simp,rfl⟩,fun m hm=>⟨fun h3=>?_,fun h3=>?_⟩⟩
 ·obtain ⟨a,ha,hgo,hga⟩:=arcs m (by omega)
  have hml:m < I.arcs.length:=by omega
  rw [hgo]
  refine ⟨fun ho=>?_,fun ho=>?_⟩
  ·rw [hga ho]
   obtain ⟨o1,o2,o3,o4⟩:=okArc_iff.1 ho
   have f1:IntKind.i64.wrap (IntKind.i64.wrap (2 * a.src) + 0) = ((2 * a.src).toNat:Int):=by rw [w64 (x:=2 * a.src) (by omega) (by omega),w64 (by omega) (by omega)]; omega
   have f2:IntKind.i64.wrap (IntKind.i64.wrap (2 * a.dst) + 1) = ((2 * a.dst + 1).toNat:Int):=by rw [w64 (x:=2 * a.dst) (by omega) (by omega),w64 (by omega) (by omega)]; omega
   obtain ⟨P,hP⟩:∃ P,P = (2 * a.src).toNat:=⟨_,rfl⟩
   obtain ⟨Q,hQ⟩:∃ Q,Q = (2 * a.dst + 1).toNat:=⟨_,rfl⟩
   rw [f1,f2,<- hP,<- hQ]
   simp only [Int.toNat_natCast]
   have hne:Q ≠ P:=by omega
   have hPn:P < 2 * I.sup.length:=by omega
   have hQn:Q < 2 * I.sup.length:=by omega
   have hin:∀ j,inK I j m = true ↔ j = P ∨ j = Q:=fun j=>by
    rw [inK_of ha,ho,Bool.true_and,hasK_iff]; omega
   have iP:=(hin P).2 (.inl rfl)
   have iQ:=(hin Q).2 (.inr rfl)
   have room:∀ j,j < 2 * I.sup.length->inK I j m = true->zab I j + z7u I m j < zab I (2 * I.sup.length):=fun j hj hi=>by
    have h1:=cntA_lt hml hi
    have h2:=zbx I (j + 1) (2 * I.sup.length - (j + 1))
    rw [show j + 1 + (2 * I.sup.length - (j + 1)) = 2 * I.sup.length by omega] at h2
    have h4:zab I (j + 1) = zab I j + z7u I I.arcs.length j:=rfl
    omega
   have rP:=room P hPn iP
   have rQ:=room Q hQn iQ
   have hl:=hL3 m hm
   have dQ:(fun t=>t == P || (fun _=>false) t) Q = false:=by simp [hne]
   refine ⟨by omega,by omega,fun x hx=>?_⟩
   rw [N3_nP] at hx
   have ex:=nP_get hx rfl
   subst ex
   rw [hl]
   refine ⟨by omega,by omega,by omega,by omega,fun x1 hx1=>?_⟩
   rw [N3_nP] at hx1
   have ex1:=nP_get hx1 rfl
   subst ex1
   rw [w64 (x:=((zab I P + z7u I m P:Nat):Int) + 1) (by omega) (by omega),N3_nP,nP_put iP rfl,L3_segP,Int.toNat_natCast,L3_put hml hPn iP rfl]
   refine ⟨by omega,by omega,by omega,by omega,fun x2 hx2=>?_⟩
   have ex2:=nP_get hx2 dQ
   subst ex2
   refine ⟨by omega,by omega,by omega,by omega,fun x3 hx3=>?_⟩
   have ex3:=nP_get hx3 dQ
   subst ex3
   rw [w64 (x:=((zab I Q + z7u I m Q:Nat):Int) + 1) (by omega) (by omega),nP_put iQ dQ,Int.toNat_natCast,L3_put hml hQn iQ dQ]
   refine ⟨by omega,by omega,m + 1,by omega,by omega,w64 (by omega) (by omega),?_,?_⟩
   ·exact nP_done hin
   ·exact L3_done hin
  ·obtain ⟨s1,s2⟩:=N3_same ha ho
   exact ⟨m + 1,by omega,by omega,w64 (by omega) (by omega),s1,s2⟩
 ·rw [show m = I.arcs.length by omega,L3_end]
theorem New_ok:SpecOk Try.prog New_n true (z04 true New_fs) :=
 z0b z0v (show z1w Try.prog New_g from z02 Copy_ok (z02 GArc_ok (z02 CloneI_ok (z02 put_ok (z06))))) (by kernel_rfl) mixedOrders Try.func39 rfl rfl (by kernel_rfl) (n:=1) (by decide +kernel) (I:=New_IA) (fun _ _=>z07) (A:=New_A)
  (fun args h r hr=>by
   unfold New_fs at hr
   split at hr
   ·rename_i ty0 I_s ty1 I_a; cases hr; refine ⟨rfl,fun hp=>?_⟩; have hE:=New_E ⟨I_s,I_a⟩ ty0 ty1 hp; exact hE
   ·cases hr)
def along_E0 (x : List Int) (a : Int) (ty0 : TypeId) : Prop :=
      (decide (a ≥ (↑x.length:Int)) = true->((0:Int) = x.getD a.toNat (0:Int)/\True)/\True) /\
 (decide (a ≥ (↑x.length:Int)) = false ->
 ((0:Int) <= a/\a < (↑x.length:Int))/\a.toNat < x.length/\∀ (x_1:Int),x[a.toNat]? = some x_1->(x_1 = x.getD a.toNat (0:Int)/\True)/\True)
theorem along_q (x:List Int) (a:Int) (ty0:TypeId):along_E0 x a ty0 = z3p TT along_g (along_I x a) (along_an x a) Try.f41 [.row 0,.int .i64 a] [(0,.row false ty0 (.ints .i64 x))] (along_r x a):=by kernel_rfl
theorem along_E (x:List Int) (a:Int) (ty0:TypeId) (hp:0 <= a):FVc TT along_g (along_I x a) (along_an x a) Try.f41 [.row 0,.int .i64 a] [(0,.row false ty0 (.ints .i64 x))] (along_r x a):=by
 refine FVc.of (along_E0 x a ty0) (along_q x a ty0) ?_
 unfold along_E0
 simp only [eq_self,exists_const,forall_const,decide_eq_true_eq,decide_eq_false_iff_not,and_true,true_and,bne_iff_ne,ne_eq,bne_eq_false_iff_eq,Int.toNat_natCast,Bool.not_eq_true',Bool.not_eq_false',beq_iff_eq,beq_eq_false_iff_ne,z09]
 refine ⟨fun h=>?_,fun h=>⟨by omega,by omega,fun y hy=>by simp [List.getD,hy]⟩⟩
 simp [List.getD,show ¬ a.toNat < x.length by omega]
theorem along_ok:SpecOk Try.prog along_n true (z04 true along_fs) :=
 z0b z0v (show z1w Try.prog along_g from z06) (by kernel_rfl) mixedOrders Try.func41 rfl rfl (by kernel_rfl) (n:=2) (by decide +kernel) (I:=along_IA) (fun _ _=>z07) (A:=along_A)
  (fun args h r hr=>by
   unfold along_fs at hr
   split at hr
   ·rename_i a ty0 x; cases hr; refine ⟨rfl,fun hp=>?_⟩; have hE:=along_E x a ty0 hp; exact hE
   ·cases hr)
def Cost_E0 (I : Inst) (x : List Int) (ty0 ty1 ty2 : TypeId) : Prop :=
      ∃ (g0:Nat),
 (g0 <= I.arcs.length /\
 (True/\(0:Nat) = (0:Nat)/\(0:Nat) = (0:Nat)/\True/\(↑I.arcs.length:Int) = (↑I.arcs.length:Int)/\(0:Int) = (↑g0:Int)/\True) /\
 ((0:Int) = (W (z1n I.arcs x g0)).hi/\(0:Int) = (W (z1n I.arcs x g0)).lo/\True) /\
 ((0:Int) = (0:Int)/\(0:Int) = (0:Int)/\True)/\I.arcs = I.arcs/\x = x/\True) /\
 ∀ (g:Nat),
 g <= I.arcs.length ->
 (decide ((↑g:Int) < (↑I.arcs.length:Int)) = true ->
 ((0:Int) <= (↑g:Int)/\(↑g:Int) < (↑I.arcs.length:Int)) /\
 (↑g:Int).toNat < I.arcs.length /\
 ∀ (x_1:Arc),
 I.arcs[(↑g:Int).toNat]? = some x_1 ->
 (0:Int) <= (↑g:Int) /\
 (I64 x_1.cost/\I64 (x.getD (↑g:Int).toNat (0:Int))) /\
 ((W (z1n I.arcs x g)).ok/\(W (x_1.cost * x.getD (↑g:Int).toNat (0:Int))).ok) /\
 ∃ (g':Nat),
 g' <= I.arcs.length /\
 I.arcs.length - g' < I.arcs.length - g /\
 (True /\
 (0:Nat) = (0:Nat) /\
 (0:Nat) = (0:Nat) /\
 True/\(↑I.arcs.length:Int) = (↑I.arcs.length:Int)/\IntKind.i64.wrap ((↑g:Int) + (1:Int)) = (↑g':Int)/\True) /\
 ((z3m (W (z1n I.arcs x g)) (W (x_1.cost * x.getD (↑g:Int).toNat (0:Int)))).hi = (W (z1n I.arcs x g')).hi /\
 (z3m (W (z1n I.arcs x g)) (W (x_1.cost * x.getD (↑g:Int).toNat (0:Int)))).lo = (W (z1n I.arcs x g')).lo/\True) /\
 ((0:Int) = (0:Int)/\(0:Int) = (0:Int)/\True)/\I.arcs = I.arcs/\x = x/\True) /\
 (decide ((↑g:Int) < (↑I.arcs.length:Int)) = false ->
 (((W (z1n I.arcs x g)).hi = (W (z3v I x)).hi/\(W (z1n I.arcs x g)).lo = (W (z3v I x)).lo/\True)/\True)/\True)
theorem Cost_q (I:Inst) (x:List Int) (ty0 ty1 ty2:TypeId):Cost_E0 I x ty0 ty1 ty2 = z3p TT Cost_g (Cost_I I x) (Cost_an I x) Try.f34 [.agg [.row 0,.row 1],.row 2] [(0,.row false ty0 (.ints .i64 I.sup)),(1,.row false ty1 (.arcs I.arcs)),(2,.row false ty2 (.ints .i64 x))] (Cost_r I x):=by kernel_rfl
theorem Cost_E (I:Inst) (x:List Int) (ty0 ty1 ty2:TypeId) (hp:A64 x/\A64c I.arcs/\I.arcs.length <= 1000000):FVc TT Cost_g (Cost_I I x) (Cost_an I x) Try.f34 [.agg [.row 0,.row 1],.row 2] [(0,.row false ty0 (.ints .i64 I.sup)),(1,.row false ty1 (.arcs I.arcs)),(2,.row false ty2 (.ints .i64 x))] (Cost_r I x):=by
 refine FVc.of (Cost_E0 I x ty0 ty1 ty2) (Cost_q I x ty0 ty1 ty2) ?_
 unfold Cost_E0
 simp only [eq_self,exists_const,forall_const,decide_eq_true_eq,decide_eq_false_iff_not,and_true,true_and,bne_iff_ne,ne_eq,bne_eq_false_iff_eq,Int.toNat_natCast,Bool.not_eq_true',Bool.not_eq_false',beq_iff_eq,beq_eq_false_iff_ne,z09]
 obtain ⟨p1,p2,p3⟩:=hp
 refine ⟨0,⟨by omega,rfl,by simp only [z1n,W_zero],by simp only [z1n,W_zero]⟩,fun k hk=>⟨fun h1=>⟨by omega,by omega,fun a ha=>?_⟩,fun h1=>?_⟩⟩
 ·have hc:=p2 a (List.mem_of_getElem? ha)
  have hg:I.arcs.getD k default = a:=by simp [List.getD,ha]
  have hx:=p1.getD k
  rw [zih]
  refine ⟨by omega,⟨hc,hx⟩,⟨zjh _,zjh _⟩,k + 1,by omega,by omega,w64 (by omega) (by omega),?_⟩
  rw [show z1n I.arcs x (k + 1) = z1n I.arcs x k + a.cost * x.getD k 0 by simp only [z1n,hg]]
  exact ⟨rfl,rfl⟩
 ·rw [show k = I.arcs.length by omega]
  exact ⟨rfl,rfl⟩
theorem Cost_ok:SpecOk Try.prog Cost_n true (z04 true Cost_fs) :=
 z0b z0v (show z1w Try.prog Cost_g from z02 along_ok (z02 Times_ok (z02 Plus_ok (z06)))) (by kernel_rfl) mixedOrders Try.func34 rfl rfl (by kernel_rfl) (n:=2) (by decide +kernel) (I:=Cost_IA) (fun _ _=>z07) (A:=Cost_A)
  (fun args h r hr=>by
   unfold Cost_fs at hr
   split at hr
   ·rename_i ty0 I_s ty1 I_a ty2 x; cases hr; refine ⟨rfl,fun hp=>?_⟩; have hE:=Cost_E ⟨I_s,I_a⟩ x ty0 ty1 ty2 hp; exact hE
   ·cases hr)
def rArc_E0 (I : Inst) (a : Int) (ty0 ty1 : TypeId) : Prop :=
      True /\
 ((!gOk (↑I.sup.length:Int) I.arcs a) = true ->
 ((((0:Int) = (z2v (↑I.sup.length:Int) I.arcs a).src /\
 (0:Int) = (z2v (↑I.sup.length:Int) I.arcs a).dst /\
 (0:Int) = (z2v (↑I.sup.length:Int) I.arcs a).low /\
 (0:Int) = (z2v (↑I.sup.length:Int) I.arcs a).cap/\(0:Int) = (z2v (↑I.sup.length:Int) I.arcs a).cost/\True) /\
 false = gOk (↑I.sup.length:Int) I.arcs a/\True) /\
 True) /\
 True) /\
 ((!gOk (↑I.sup.length:Int) I.arcs a) = false ->
 ((0:Int) <= a/\a < (↑I.arcs.length:Int)) /\
 a.toNat < I.arcs.length /\
 ∀ (x:Arc),
 I.arcs[a.toNat]? = some x ->
 (((x.src = (z2v (↑I.sup.length:Int) I.arcs a).src /\
 x.dst = (z2v (↑I.sup.length:Int) I.arcs a).dst /\
 x.low = (z2v (↑I.sup.length:Int) I.arcs a).low /\
 x.cap = (z2v (↑I.sup.length:Int) I.arcs a).cap/\x.cost = (z2v (↑I.sup.length:Int) I.arcs a).cost/\True) /\
 true = gOk (↑I.sup.length:Int) I.arcs a/\True) /\
 True) /\
 True)
theorem rArc_q (I:Inst) (a:Int) (ty0 ty1:TypeId):rArc_E0 I a ty0 ty1 = z3p TT rArc_g (rArc_I I a) (rArc_an I a) Try.f134 [.agg [.row 0,.row 1],.int .i64 a] [(0,.row false ty0 (.ints .i64 I.sup)),(1,.row false ty1 (.arcs I.arcs))] (rArc_r I a):=by kernel_rfl
theorem rArc_E (I:Inst) (a:Int) (ty0 ty1:TypeId) (hp:True):FVc TT rArc_g (rArc_I I a) (rArc_an I a) Try.f134 [.agg [.row 0,.row 1],.int .i64 a] [(0,.row false ty0 (.ints .i64 I.sup)),(1,.row false ty1 (.arcs I.arcs))] (rArc_r I a):=by
 refine FVc.of (rArc_E0 I a ty0 ty1) (rArc_q I a ty0 ty1) ?_
 unfold rArc_E0
 simp only [eq_self,exists_const,forall_const,decide_eq_true_eq,decide_eq_false_iff_not,and_true,true_and,bne_iff_ne,ne_eq,bne_eq_false_iff_eq,Int.toNat_natCast,Bool.not_eq_true',Bool.not_eq_false',beq_iff_eq,beq_eq_false_iff_ne,z09]
 refine ⟨fun h=>?_,fun h=>?_⟩
 ·unfold z2v
  rw [h]; simp
 ·have hb:0 <= a/\a < (I.arcs.length:Int):=by
   have h':=h
   unfold gOk at h'
   simp only [Bool.and_eq_true,decide_eq_true_eq] at h'
   exact h'.1
  refine ⟨hb,by omega,fun x hx=>?_⟩
  have hg:I.arcs.getD a.toNat default = x:=by simp [List.getD,hx]
  unfold z2v
  rw [h,if_pos rfl,hg]
  simp
theorem rArc_ok:SpecOk Try.prog rArc_n true (z04 true rArc_fs) :=
 z0b z0v (show z1w Try.prog rArc_g from z02 rfit_ok (z06)) (by kernel_rfl) mixedOrders Try.func134 rfl rfl (by kernel_rfl) (n:=2) (by decide +kernel) (I:=rArc_IA) (fun _ _=>z07) (A:=rArc_A)
  (fun args h r hr=>by
   unfold rArc_fs at hr
   split at hr
   ·rename_i a ty0 I_s ty1 I_a; cases hr; refine ⟨rfl,fun hp=>?_⟩; have hE:=rArc_E ⟨I_s,I_a⟩ a ty0 ty1 hp; exact hE
   ·cases hr)
def At_E0 (x : List Int) (a : Int) (ty0 : TypeId) : Prop :=
      (decide (a < (0:Int)) = true->(((0:Int) = if (0:Int) <= a then x.getD a.toNat (0:Int) else (0:Int))/\True)/\True) /\
 (decide (a < (0:Int)) = false ->
 (decide (a ≥ (↑x.length:Int)) = true->(((0:Int) = if (0:Int) <= a then x.getD a.toNat (0:Int) else (0:Int))/\True)/\True) /\
 (decide (a ≥ (↑x.length:Int)) = false ->
 ((0:Int) <= a/\a < (↑x.length:Int)) /\
 a.toNat < x.length/\∀ (x_1:Int),x[a.toNat]? = some x_1->((x_1 = if (0:Int) <= a then x.getD a.toNat (0:Int) else (0:Int))/\True)/\True))
theorem At_q (x:List Int) (a:Int) (ty0:TypeId):At_E0 x a ty0 = z3p TT At_g (At_I x a) (At_an x a) Try.f136 [.row 0,.int .i64 a] [(0,.row false ty0 (.ints .i64 x))] (At_r x a):=by kernel_rfl
theorem At_E (x:List Int) (a:Int) (ty0:TypeId) (hp:True):FVc TT At_g (At_I x a) (At_an x a) Try.f136 [.row 0,.int .i64 a] [(0,.row false ty0 (.ints .i64 x))] (At_r x a):=by
 refine FVc.of (At_E0 x a ty0) (At_q x a ty0) ?_
 unfold At_E0
 simp only [eq_self,exists_const,forall_const,decide_eq_true_eq,decide_eq_false_iff_not,and_true,true_and,bne_iff_ne,ne_eq,bne_eq_false_iff_eq,Int.toNat_natCast,Bool.not_eq_true',Bool.not_eq_false',beq_iff_eq,beq_eq_false_iff_ne,z09]
 refine ⟨fun h=>by rw [if_neg (by omega)],fun h=>⟨fun h2=>?_,fun h2=>⟨by omega,by omega,fun y hy=>?_⟩⟩⟩
 ·rw [if_pos (by omega)]; simp [List.getD,show ¬ a.toNat < x.length by omega]
 ·rw [if_pos (by omega)]; simp [List.getD,hy]
theorem At_ok:SpecOk Try.prog At_n true (z04 true At_fs) :=
 z0b z0v (show z1w Try.prog At_g from z06) (by kernel_rfl) mixedOrders Try.func136 rfl rfl (by kernel_rfl) (n:=2) (by decide +kernel) (I:=At_IA) (fun _ _=>z07) (A:=At_A)
  (fun args h r hr=>by
   unfold At_fs at hr
   split at hr
   ·rename_i a ty0 x; cases hr; refine ⟨rfl,fun hp=>?_⟩; have hE:=At_E x a ty0 hp; exact hE
   ·cases hr)
abbrev rNet_a0 (I:Inst) (g_1:Nat × Nat) (x:List Int) (g0:Nat × Nat):=(gOk (↑I.sup.length:Int) I.arcs (↑g_1.2:Int) = true->(((z2v (↑I.sup.length:Int) I.arcs (↑g_1.2:Int)).dst == (↑g_1.1:Int)) = true->True/\(I64 (if (0:Int) <= (↑g_1.2:Int) then x.getD (↑g_1.2:Int).toNat (0:Int) else (0:Int))/\(((W (z2d (↑I.sup.length:Int) I.arcs x g_1.2 (↑g_1.1:Int))).ok/\((W (if (0:Int) <= (↑g_1.2:Int) then x.getD (↑g_1.2:Int).toNat (0:Int) else (0:Int))).ok))/\(∃ (g':Nat × Nat),(g'.fst < I.sup.length/\(g'.fst = g0.fst/\(g'.snd <= I.arcs.length)))/\(I.arcs.length - g'.snd < I.arcs.length - g_1.snd/\((True/\(0 = 0/\(True/\((↑g_1.1:Int) = ↑g'.1/\(0 = 0/\(IntKind.i64.wrap ((↑g_1.2:Int) + (1:Int)) = (↑g'.2:Int)/\True))))))/\(((z5q (W (z2d (↑I.sup.length:Int) I.arcs x g_1.2 (↑g_1.1:Int))) (W (if (0:Int) <= (↑g_1.2:Int) then x.getD (↑g_1.2:Int).toNat (0:Int) else (0:Int)))).hi = (W (z2d (↑I.sup.length:Int) I.arcs x g'.2 (↑g'.1:Int))).hi/\((z5q (W (z2d (↑I.sup.length:Int) I.arcs x g_1.2 (↑g_1.1:Int))) (W (if (0:Int) <= (↑g_1.2:Int) then x.getD (↑g_1.2:Int).toNat (0:Int) else (0:Int)))).lo = (W (z2d (↑I.sup.length:Int) I.arcs x g'.2 (↑g'.1:Int))).lo/\True))/\(List.take g_1.1 (zaa I x) = List.take g'.1 (zaa I x)/\((True/\(True/\True))/\(I.sup = I.sup/\(I.arcs = I.arcs/\(x = x/\True))))))))))))/\(((z2v (↑I.sup.length:Int) I.arcs (↑g_1.2:Int)).dst == (↑g_1.1:Int)) = false->∃ (g':Nat × Nat),(g'.fst < I.sup.length/\(g'.fst = g0.fst/\(g'.snd <= I.arcs.length)))/\(I.arcs.length - g'.snd < I.arcs.length - g_1.snd/\((True/\(0 = 0/\(True/\((↑g_1.1:Int) = ↑g'.1/\(0 = 0/\(IntKind.i64.wrap ((↑g_1.2:Int) + (1:Int)) = (↑g'.2:Int)/\True))))))/\(((W (z2d (↑I.sup.length:Int) I.arcs x g_1.2 (↑g_1.1:Int))).hi = (W (z2d (↑I.sup.length:Int) I.arcs x g'.2 (↑g'.1:Int))).hi/\((W (z2d (↑I.sup.length:Int) I.arcs x g_1.2 (↑g_1.1:Int))).lo = (W (z2d (↑I.sup.length:Int) I.arcs x g'.2 (↑g'.1:Int))).lo/\True))/\(List.take g_1.1 (zaa I x) = List.take g'.1 (zaa I x)/\((True/\(True/\True))/\(I.sup = I.sup/\(I.arcs = I.arcs/\(x = x/\True))))))))))
abbrev z6n (g_1:Nat × Nat) (x:List Int):=(if (0:Int) <= (↑g_1.2:Int) then x.getD (↑g_1.2:Int).toNat (0:Int) else (0:Int))
abbrev rNet_a2 (I:Inst) (g_1:Nat × Nat) (g0:Nat × Nat) (x:List Int):=(gOk (↑I.sup.length:Int) I.arcs (↑g_1.2:Int) = false->∃ (g':Nat × Nat),(g'.fst < I.sup.length/\(g'.fst = g0.fst/\(g'.snd <= I.arcs.length)))/\(I.arcs.length - g'.snd < I.arcs.length - g_1.snd/\((True/\(0 = 0/\(True/\((↑g_1.1:Int) = ↑g'.1/\(0 = 0/\(IntKind.i64.wrap ((↑g_1.2:Int) + (1:Int)) = (↑g'.2:Int)/\True))))))/\(((W (z2d (↑I.sup.length:Int) I.arcs x g_1.2 (↑g_1.1:Int))).hi = (W (z2d (↑I.sup.length:Int) I.arcs x g'.2 (↑g'.1:Int))).hi/\((W (z2d (↑I.sup.length:Int) I.arcs x g_1.2 (↑g_1.1:Int))).lo = (W (z2d (↑I.sup.length:Int) I.arcs x g'.2 (↑g'.1:Int))).lo/\True))/\(List.take g_1.1 (zaa I x) = List.take g'.1 (zaa I x)/\((True/\(True/\True))/\(I.sup = I.sup/\(I.arcs = I.arcs/\(x = x/\True)))))))))
abbrev rNet_a3 (I:Inst) (g':Nat × Nat) (g_1:Nat × Nat) (x:List Int):=(I.arcs.length - g'.snd < I.arcs.length - g_1.snd/\((True/\(0 = 0/\(True/\((↑g_1.1:Int) = ↑g'.1/\(0 = 0/\(IntKind.i64.wrap ((↑g_1.2:Int) + (1:Int)) = (↑g'.2:Int)/\True))))))/\(((z3m (W (z2d (↑I.sup.length:Int) I.arcs x g_1.2 (↑g_1.1:Int))) (W (z6n g_1 x))).hi = (W (z2d (↑I.sup.length:Int) I.arcs x g'.2 (↑g'.1:Int))).hi/\((z3m (W (z2d (↑I.sup.length:Int) I.arcs x g_1.2 (↑g_1.1:Int))) (W (z6n g_1 x))).lo = (W (z2d (↑I.sup.length:Int) I.arcs x g'.2 (↑g'.1:Int))).lo/\True))/\(List.take g_1.1 (zaa I x) = List.take g'.1 (zaa I x)/\((True/\(True/\True))/\(I.sup = I.sup/\(I.arcs = I.arcs/\(x = x/\True))))))))
abbrev zn8 (I:Inst) (x:List Int):=((True/\(True/\True))/\(I.sup = I.sup/\(I.arcs = I.arcs/\(x = x/\True))))
abbrev zhp (I:Inst) (x:List Int) (g_1:Nat × Nat):=(z2d (↑I.sup.length:Int) I.arcs x g_1.2 (↑g_1.1:Int))
def rNet_E0 (I : Inst) (x : List Int) (ty0 ty1 ty2 : TypeId) : Prop :=
   ∃ (g0:Nat),(g0 <= I.sup.length/\((True/\(0 = 0/\(True/\((0:Int) = ↑g0/\True))))/\([] = List.take g0 (zaa I x)/\(zn8 I x))))/\∀ (g:Nat),g <= I.sup.length->(decide ((↑g:Int) < ↑I.sup.length) = true->∃ (g0:Nat × Nat),((g0.fst < I.sup.length/\(g0.fst = g0.fst/\(g0.snd <= I.arcs.length)))/\((True/\(0 = 0/\(True/\((↑g:Int) = ↑g0.1/\(0 = 0/\((0:Int) = ↑g0.2/\True))))))/\(((0:Int) = (W (z2d (↑I.sup.length:Int) I.arcs x g0.2 (↑g0.1:Int))).hi/\((0:Int) = (W (z2d (↑I.sup.length:Int) I.arcs x g0.2 (↑g0.1:Int))).lo/\True))/\(List.take g (zaa I x) = List.take g0.1 (zaa I x)/\(zn8 I x)))))/\∀ (g_1:Nat × Nat),g_1.fst < I.sup.length/\g_1.fst = g0.fst/\g_1.snd <= I.arcs.length->(decide ((↑g_1.2:Int) < ↑I.arcs.length) = true->True/\(gOk (↑I.sup.length:Int) I.arcs (↑g_1.2:Int) = true->(((z2v (↑I.sup.length:Int) I.arcs (↑g_1.2:Int)).src == (↑g_1.1:Int)) = true->True/\I64 (z6n g_1 x)/\((W (zhp I x g_1)).ok/\((W (z6n g_1 x)).ok))/\(gOk (↑I.sup.length:Int) I.arcs (↑g_1.2:Int) = true->(((z2v (↑I.sup.length:Int) I.arcs (↑g_1.2:Int)).dst == (↑g_1.1:Int)) = true->True/\(I64 (z6n g_1 x)/\(((z3m (W (zhp I x g_1)) (W (z6n g_1 x))).ok/\((W (z6n g_1 x)).ok))/\(∃ (g':Nat × Nat),(g'.fst < I.sup.length/\(g'.fst = g0.fst/\(g'.snd <= I.arcs.length)))/\(I.arcs.length - g'.snd < I.arcs.length - g_1.snd/\((True/\(0 = 0/\(True/\((↑g_1.1:Int) = ↑g'.1/\(0 = 0/\(IntKind.i64.wrap ((↑g_1.2:Int) + (1:Int)) = (↑g'.2:Int)/\True))))))/\(((z5q (z3m (W (zhp I x g_1)) (W (z6n g_1 x))) (W (z6n g_1 x))).hi = (W (z2d (↑I.sup.length:Int) I.arcs x g'.2 (↑g'.1:Int))).hi/\((z5q (z3m (W (zhp I x g_1)) (W (z6n g_1 x))) (W (z6n g_1 x))).lo = (W (z2d (↑I.sup.length:Int) I.arcs x g'.2 (↑g'.1:Int))).lo/\True))/\(List.take g_1.1 (zaa I x) = List.take g'.1 (zaa I x)/\(zn8 I x)))))))))/\(((z2v (↑I.sup.length:Int) I.arcs (↑g_1.2:Int)).dst == (↑g_1.1:Int)) = false->∃ (g':Nat × Nat),(g'.fst < I.sup.length/\(g'.fst = g0.fst/\(g'.snd <= I.arcs.length)))/\(rNet_a3 I g' g_1 x)))/\(gOk (↑I.sup.length:Int) I.arcs (↑g_1.2:Int) = false->∃ (g':Nat × Nat),(g'.fst < I.sup.length/\(g'.fst = g0.fst/\(g'.snd <= I.arcs.length)))/\(rNet_a3 I g' g_1 x)))/\(((z2v (↑I.sup.length:Int) I.arcs (↑g_1.2:Int)).src == (↑g_1.1:Int)) = false->(rNet_a0 I g_1 x g0)/\(rNet_a2 I g_1 g0 x)))/\(gOk (↑I.sup.length:Int) I.arcs (↑g_1.2:Int) = false->(rNet_a0 I g_1 x g0)/\(rNet_a2 I g_1 g0 x)))/\(decide ((↑g_1.2:Int) < ↑I.arcs.length) = false->(List.take g_1.1 (zaa I x)).length + (1:Nat) <= 1000000000/\(∃ (g':Nat),g' <= I.sup.length/\(I.sup.length - g' < I.sup.length - g/\((True/\(0 = 0/\(True/\(IntKind.i64.wrap ((↑g_1.1:Int) + (1:Int)) = (↑g':Int)/\True))))/\(List.take g_1.1 (zaa I x) ++ [W (zhp I x g_1)] = List.take g' (zaa I x)/\(zn8 I x)))))))/\(decide ((↑g:Int) < ↑I.sup.length) = false->(True/\True)/\(List.take g (zaa I x) = zaa I x/\True))
theorem rNet_q (I:Inst) (x:List Int) (ty0 ty1 ty2:TypeId):rNet_E0 I x ty0 ty1 ty2 = z3p TT rNet_g (rNet_I I x) (rNet_an I x) Try.f113 [.agg [.row 0,.row 1],.row 2] [(0,.row false ty0 (.ints .i64 I.sup)),(1,.row false ty1 (.arcs I.arcs)),(2,.row false ty2 (.ints .i64 x))] (rNet_r I x):=by kernel_rfl
theorem rNet_E (I:Inst) (x:List Int) (ty0 ty1 ty2:TypeId) (hp:A64 x/\I.sup.length <= 10000/\I.arcs.length <= 10000):FVc TT rNet_g (rNet_I I x) (rNet_an I x) Try.f113 [.agg [.row 0,.row 1],.row 2] [(0,.row false ty0 (.ints .i64 I.sup)),(1,.row false ty1 (.arcs I.arcs)),(2,.row false ty2 (.ints .i64 x))] (rNet_r I x):=by
 refine FVc.of (rNet_E0 I x ty0 ty1 ty2) (rNet_q I x ty0 ty1 ty2) ?_
 unfold rNet_E0
 delta zhp zn8 rNet_a3 rNet_a2 z6n rNet_a0
 simp only [eq_self,exists_const,forall_const,decide_eq_true_eq,decide_eq_false_iff_not,and_true,true_and,bne_iff_ne,ne_eq,bne_eq_false_iff_eq,Int.toNat_natCast,Bool.not_eq_true',Bool.not_eq_false',beq_iff_eq,beq_eq_false_iff_ne,z09]
 obtain ⟨p1,p2,p3⟩:=hp
 have hA:∀ k:Nat,(if 0 <= (k:Int) then x.getD k 0 else 0) = x.getD k 0:=fun k=>if_pos (by omega)
 simp only [hA,zih,wminus_W]
 refine ⟨0,⟨by omega,rfl,by simp⟩,fun v hv=>⟨fun h1=>⟨(v,0),⟨⟨by dsimp only; omega,by dsimp only; omega⟩,⟨rfl,rfl⟩,⟨by simp only [z2d,W_zero],by simp only [z2d,W_zero]⟩,rfl⟩,fun g hg=>?_⟩,fun h1=>?_⟩⟩
 ·obtain ⟨v',k⟩:=g
  dsimp only at hg ⊢
  obtain ⟨g1,rfl,g3⟩:=hg
  have leaf:k < I.arcs.length->∀ z:Int,z = z2d I.sup.length I.arcs x (k + 1) v'->∃ g':Nat × Nat,(g'.fst < I.sup.length/\g'.fst = v'/\g'.snd <= I.arcs.length)/\I.arcs.length - g'.snd < I.arcs.length - k/\((v':Int) = (g'.fst:Int)/\IntKind.i64.wrap ((k:Int) + 1) = (g'.snd:Int)) /\
    ((W z).hi = (W (z2d I.sup.length I.arcs x g'.snd g'.fst)).hi/\(W z).lo = (W (z2d I.sup.length I.arcs x g'.snd g'.fst)).lo)/\(zaa I x).take v' = (zaa I x).take g'.fst:=fun hk z hz =>
   ⟨(v',k + 1),⟨by dsimp only; omega,rfl,by dsimp only; omega⟩,by dsimp only; omega,⟨rfl,w64 (by omega) (by omega)⟩,by rw [hz]; exact ⟨rfl,rfl⟩,rfl⟩
  refine ⟨fun h2=>?_,fun h2=>?_⟩
  ·obtain ⟨a,ha⟩:∃ a,I.arcs[k]? = some a:=⟨_,List.getElem?_eq_getElem (by omega)⟩
   have hg:I.arcs.getD k default = a:=by simp [List.getD,ha]
   have e1:gOk I.sup.length I.arcs k = z2l I.sup.length a:=zlw (by omega) (by simpa using ha)
   have e2:z2v I.sup.length I.arcs k = if z2l I.sup.length a then a else ⟨0,0,0,0,0⟩:=gArc_at (by omega) (by simpa using ha)
   have hx:=p1.getD k
   have hk:k < I.arcs.length:=by omega
   rw [e1,e2]
   cases ho:z2l I.sup.length a with
   | false =>
    refine ⟨fun h=>(by cases h),fun _=>⟨fun h=>(by cases h),fun _=>leaf hk _ ?_⟩⟩
    simp only [z2d,hg,z3q,ho]; simp
   | true =>
    simp only [if_true]
    refine ⟨fun _=>⟨fun hs=>⟨hx,⟨zjh _,zjh _⟩,fun _=>⟨fun hd=>⟨hx,⟨zjh _,zjh _⟩,leaf hk _ ?_⟩,fun hd=>leaf hk _ ?_⟩,fun h=>(by cases h)⟩,fun hs=>⟨fun _=>⟨fun hd=>⟨hx,⟨zjh _,zjh _⟩,leaf hk _ ?_⟩,fun hd=>leaf hk _ ?_⟩,fun h=>(by cases h)⟩⟩,fun h=>(by cases h)⟩
    all_goals
     simp only [z2d,hg,z3q,ho,if_true,hs,hd,if_false]
     omega
  ·have hkl:k = I.arcs.length:=by omega
   subst hkl
   refine ⟨by rw [List.length_take,netF_len]; omega,v' + 1,by omega,by omega,w64 (by omega) (by omega),?_⟩
   have:(zaa I x)[v']? = some (W (z2d I.sup.length I.arcs x I.arcs.length v')):=by
    unfold zaa
    rw [List.getElem?_map,List.getElem?_range g1]
    rfl
   rw [z2h this]
 ·rw [List.take_of_length_le (by rw [netF_len]; omega)]
theorem rNet_ok:SpecOk Try.prog rNet_n true (z04 true rNet_fs) :=
 z0b z0v (show z1w Try.prog rNet_g from z02 rArc_ok (z02 rOf_ok (z02 zjx (z02 rMinus_ok (z02 At_ok (z06)))))) (by kernel_rfl) mixedOrders Try.func113 rfl rfl (by kernel_rfl) (n:=2) (by decide +kernel) (I:=rNet_IA) (fun _ _=>z07) (A:=rNet_A)
  (fun args h r hr=>by
   unfold rNet_fs at hr
   split at hr
   ·rename_i ty0 I_s ty1 I_a ty2 x; cases hr; refine ⟨rfl,fun hp=>?_⟩; have hE:=rNet_E ⟨I_s,I_a⟩ x ty0 ty1 ty2 hp; exact hE
   ·cases hr)
def zhj (x : Arc) (n : Int) : Prop :=
      (decide (n ≥ x.low) = true ->
 ((x.cap == (4611686018427387904:Int)) = true->(true = fitF x n/\True)/\True) /\
 ((x.cap == (4611686018427387904:Int)) = false->(decide (n <= x.cap) = fitF x n/\True)/\True)) /\
 (decide (n ≥ x.low) = false->(false = fitF x n/\True)/\True)
theorem rBounds_q (x:Arc) (n:Int):zhj x n = z3p TT zn2 (rBounds_I x n) (rBounds_an x n) Try.f112 [.agg (z8m x),.int .i64 n] [] (zn3 x n):=by kernel_rfl
theorem rBounds_E (x:Arc) (n:Int) (hp:True):FVc TT zn2 (rBounds_I x n) (rBounds_an x n) Try.f112 [.agg (z8m x),.int .i64 n] [] (zn3 x n):=by
 refine FVc.of (zhj x n) (rBounds_q x n) ?_
 unfold zhj
 simp only [eq_self,exists_const,forall_const,decide_eq_true_eq,decide_eq_false_iff_not,and_true,true_and,bne_iff_ne,ne_eq,bne_eq_false_iff_eq,Int.toNat_natCast,Bool.not_eq_true',Bool.not_eq_false',beq_iff_eq,beq_eq_false_iff_ne,z09]
 unfold fitF inf
 refine ⟨fun h=>⟨fun h2=>?_,fun h2=>?_⟩,fun h=>?_⟩
 ·simp [h2]; omega
 ·simp [h2]; omega
 ·simp; omega
theorem rBounds_ok:SpecOk Try.prog rBounds_n true (z04 true zhk) :=
 z0b z0v (show z1w Try.prog zn2 from z06) (by kernel_rfl) mixedOrders Try.func112 rfl rfl (by kernel_rfl) (n:=2) (by decide +kernel) (I:=rBounds_IA) (fun _ _=>z07) (A:=rBounds_A)
  (fun args h r hr=>by
   unfold zhk at hr
   split at hr
   ·rename_i x_0 x_1 x_2 x_3 x_4 n; cases hr; refine ⟨rfl,fun hp=>?_⟩; have hE:=rBounds_E ⟨x_0,x_1,x_2,x_3,x_4⟩ n hp; exact hE
   ·cases hr)
def rFits_E0 (I : Inst) (x : List Int) (ty0 ty1 ty2 : TypeId) : Prop :=
   True/\((z03 I != (0:Int)) = true->(z03 I = z1g I x/\True)/\True)/\((z03 I != (0:Int)) = false->(((↑x.length:Int) != (↑I.arcs.length:Int)) = true->((30:Int) = z1g I x/\True)/\True)/\(((↑x.length:Int) != (↑I.arcs.length:Int)) = false->∃ (g0:Nat),((g0 <= I.arcs.length/\(z33 (List.drop g0 I.arcs) (List.drop g0 x) = z33 I.arcs x))/\((True/\(0 = 0/\((0:Int) = ↑g0/\True)))/\((True/\(True/\True))/\(I.sup = I.sup/\(I.arcs = I.arcs/\(x = x/\True))))))/\(∀ (g:Nat),g <= I.arcs.length/\z33 (List.drop g I.arcs) (List.drop g x) = z33 I.arcs x->(decide ((↑g:Int) < ↑x.length) = true->((0:Int) <= ↑g/\((↑g:Int) < ↑I.arcs.length))/\((↑g:Int).toNat < I.arcs.length/\(∀ (x_1:Arc),I.arcs[(↑g:Int).toNat]? = some x_1->((0:Int) <= ↑g/\((↑g:Int) < ↑x.length))/\((↑g:Int).toNat < x.length/\(∀ (x_2:Int),x[(↑g:Int).toNat]? = some x_2->True/\(((!fitF x_1 x_2) = true->((31:Int) = z1g I x/\True)/\True)/\((!fitF x_1 x_2) = false->∃ (g':Nat),(g' <= I.arcs.length/\(z33 (List.drop g' I.arcs) (List.drop g' x) = z33 I.arcs x))/\(I.arcs.length - g' < I.arcs.length - g/\((True/\(0 = 0/\(IntKind.i64.wrap ((↑g:Int) + (1:Int)) = (↑g':Int)/\True)))/\((True/\(True/\True))/\(I.sup = I.sup/\(I.arcs = I.arcs/\(x = x/\True)))))))))))))/\(decide ((↑g:Int) < ↑x.length) = false->(A64 x/\(I.sup.length <= (10000:Nat)/\(I.arcs.length <= (10000:Nat))))/\(∃ (g0:Nat),((g0 <= I.sup.length/\(∀ (v:Nat),v < g0->W (z2d (↑I.sup.length:Int) I.arcs x I.arcs.length (↑v:Int)) = W (I.sup.getD v (0:Int))))/\((0 = 0/\(True/\((0:Int) = ↑g0/\True)))/\(zaa I x = zaa I x/\((True/\(True/\True))/\(I.sup = I.sup/\(I.arcs = I.arcs/\True))))))/\(∀ (g:Nat),(g <= I.sup.length/\(∀ (v:Nat),v < g->W (z2d (↑I.sup.length:Int) I.arcs x I.arcs.length (↑v:Int)) = W (I.sup.getD v (0:Int))))->(decide ((↑g:Int) < ↑(zaa I x).length) = true->((0:Int) <= ↑g/\((↑g:Int) < ↑(zaa I x).length))/\((↑g:Int).toNat < (zaa I x).length/\(∀ (x_1:Wide),(zaa I x)[(↑g:Int).toNat]? = some x_1->((0:Int) <= ↑g/\((↑g:Int) < ↑I.sup.length))/\((↑g:Int).toNat < I.sup.length/\(∀ (x_2:Int),I.sup[(↑g:Int).toNat]? = some x_2->I64 x_2/\(((!decide ([x_1.hi,x_1.lo] = [(W x_2).hi,(W x_2).lo])) = true->((32:Int) = z1g I x/\True)/\True)/\((!decide ([x_1.hi,x_1.lo] = [(W x_2).hi,(W x_2).lo])) = false->∃ (g':Nat),(g' <= I.sup.length/\(∀ (v:Nat),v < g'->W (z2d (↑I.sup.length:Int) I.arcs x I.arcs.length (↑v:Int)) = W (I.sup.getD v (0:Int))))/\(I.sup.length - g' < I.sup.length - g/\((0 = 0/\(True/\(IntKind.i64.wrap ((↑g:Int) + (1:Int)) = (↑g':Int)/\True)))/\(zaa I x = zaa I x/\((True/\(True/\True))/\(I.sup = I.sup/\(I.arcs = I.arcs/\True)))))))))))))/\(decide ((↑g:Int) < ↑(zaa I x).length) = false->((0:Int) = z1g I x/\True)/\True)))))))
theorem rFits_q (I:Inst) (x:List Int) (ty0 ty1 ty2:TypeId):rFits_E0 I x ty0 ty1 ty2 = z3p TT rFits_g (rFits_I I x) (rFits_an I x) Try.f74 [.agg [.row 0,.row 1],.row 2] [(0,.row false ty0 (.ints .i64 I.sup)),(1,.row false ty1 (.arcs I.arcs)),(2,.row false ty2 (.ints .i64 x))] (rFits_r I x):=by kernel_rfl
theorem rFits_E (I:Inst) (x:List Int) (ty0 ty1 ty2:TypeId) (hp:I.sup.length <= 10000/\I.arcs.length <= 10000/\A64 x/\A64 I.sup):FVc TT rFits_g (rFits_I I x) (rFits_an I x) Try.f74 [.agg [.row 0,.row 1],.row 2] [(0,.row false ty0 (.ints .i64 I.sup)),(1,.row false ty1 (.arcs I.arcs)),(2,.row false ty2 (.ints .i64 x))] (rFits_r I x):=by
 refine FVc.of (rFits_E0 I x ty0 ty1 ty2) (rFits_q I x ty0 ty1 ty2) ?_
 unfold rFits_E0
 simp only [eq_self,exists_const,forall_const,decide_eq_true_eq,decide_eq_false_iff_not,and_true,true_and,bne_iff_ne,ne_eq,bne_eq_false_iff_eq,Int.toNat_natCast,Bool.not_eq_true',Bool.not_eq_false',beq_iff_eq,beq_eq_false_iff_ne,z09]
 obtain ⟨p1,p2,p3,p4⟩:=hp
 simp only [netF_len]
 refine ⟨fun h=>by simp [z1g,h],fun h1=>⟨fun h2=>?_,fun h2=>⟨0,⟨⟨by omega,by simp⟩,rfl⟩,fun k hk=>⟨fun h3=>⟨by omega,by omega,fun a ha=>⟨by omega,by omega,fun y hy=>?_⟩⟩,fun h3=>?_⟩⟩⟩⟩
 ·have h2':¬ x.length = I.arcs.length:=by omega
  simp [z1g,h1,h2']
 ·have e:=fitsAll_drop (x:=x) ha
  have hyd:x.getD k 0 = y:=by simp [List.getD,hy]
  rw [hk.2,hyd] at e
  have h2':x.length = I.arcs.length:=by omega
  refine ⟨fun h4=>?_,fun h4=>⟨k + 1,⟨by omega,?_⟩,by omega,w64 (by omega) (by omega)⟩⟩
  ·rw [h4] at e
   simp only [Bool.false_and] at e
   simp [z1g,h1,h2',e]
  ·rw [e,h4,Bool.true_and]
 ·have h2':x.length = I.arcs.length:=by omega
  have hall:z33 I.arcs x = true:=by rw [<- hk.2,zcb (by omega)]; rfl
  refine ⟨⟨p3,p1,p2⟩,0,⟨⟨by omega,fun v hv=>by omega⟩,rfl⟩,fun j hj=>⟨fun h4=>⟨by omega,by omega,fun w hw=>⟨by omega,by omega,fun z hz=>?_⟩⟩,fun h4=>?_⟩⟩
  ·obtain ⟨_,rfl⟩:=z1r hw
   have hzd:I.sup.getD j 0 = z:=by simp [List.getD,hz]
   have hwe:∀ u v:Wide,[u.hi,u.lo] = [v.hi,v.lo] ↔ u = v:=fun u v=>by obtain ⟨u1,u2⟩:=u; obtain ⟨v1,v2⟩:=v; simp
   rw [hwe]
   refine ⟨p4 z (List.mem_of_getElem? hz),fun h5=>?_,fun h5=>⟨j + 1,⟨by omega,fun v hv=>?_⟩,by omega,w64 (by omega) (by omega)⟩⟩
   ·have hno:netOk I x = false:=by
     rw [Bool.eq_false_iff]
     intro h
     unfold netOk at h
     have:=List.all_eq_true.1 h j (List.mem_range.2 (by omega))
     rw [decide_eq_true_eq,hzd] at this
     exact h5 this
    simp [z1g,h1,h2',hall,hno]
   ·by_cases hvj:v = j
    ·subst hvj; rw [hzd]; exact h5
    ·exact hj.2 v (by omega)
  ·have hno:netOk I x = true:=by
    unfold netOk
    rw [List.all_eq_true]
    intro v hv
    rw [decide_eq_true_eq]
    exact hj.2 v (by have:=List.mem_range.1 hv; omega)
   simp [z1g,h1,h2',hall,hno]
theorem rFits_ok:SpecOk Try.prog rFits_n true (z04 true zjw) :=
 z0b z0v (show z1w Try.prog rFits_g from z02 rRight_ok (z02 rBounds_ok (z02 rNet_ok (z02 rOf_ok (z06))))) (by kernel_rfl) mixedOrders Try.func74 rfl rfl (by kernel_rfl) (n:=2) (by decide +kernel) (I:=rFits_IA) (fun _ _=>z07) (A:=rFits_A)
  (fun args h r hr=>by
   unfold zjw at hr
   split at hr
   ·rename_i ty0 I_s ty1 I_a ty2 x; cases hr; refine ⟨rfl,fun hp=>?_⟩; have hE:=rFits_E ⟨I_s,I_a⟩ x ty0 ty1 ty2 hp; exact hE
   ·cases hr)
end Go.Proofs.Ytggblkbecekbdaa
end
section
namespace Go.Ql
open Go Go.RowKit Go.Vc
def redA (a:Arc) (f t:Int):Int:=a.cost - f + t
def sgn (r:Int):Int:=zje (W r) (W 0)
def atA (I:Inst) (a:Int):Arc:=z2v I.sup.length I.arcs a
def atF (I:Inst) (pot:List Int) (a:Int):Int:=if gOk I.sup.length I.arcs a then pot.getD (atA I a).src.toNat 0 else 0
def atT (I:Inst) (pot:List Int) (a:Int):Int:=if gOk I.sup.length I.arcs a then pot.getD (atA I a).dst.toNat 0 else 0
def redF (I:Inst) (pot:List Int) (a:Int):Int:=if gOk I.sup.length I.arcs a then redA (atA I a) (atF I pot a) (atT I pot a) else 0
def z6k (r x:Int) (a:Arc):Bool:=!((decide (0 < sgn r) && decide (x ≠ a.low)) || (decide (sgn r < 0) && (decide (x ≠ a.cap) || decide (a.cap = inf))))
def z44 (I:Inst) (x pot:List Int) (k:Nat):Bool:=z6k (redF I pot k) (x.getD k 0) (I.arcs.getD k default)
def z1f (I:Inst) (x pot:List Int):Int :=
 if z1g I x ≠ 0 then z1g I x else if pot.length ≠ I.sup.length then 30 else if (List.range I.arcs.length).all (z44 I x pot) then 0 else 33
def boundS (l pot:List Int):Nat->Int
 | 0=>0
 | k + 1=>boundS l pot k + l.getD k 0 * pot.getD k 0
def zmr (pot:List Int) (n:Int):Int:=if 0 <= n then pot.getD n.toNat 0 else 0
def redP (pot:List Int) (a:Arc):Int:=redA a (zmr pot a.src) (zmr pot a.dst)
def z3d (n:Int) (pot:List Int):List Arc->Int->Option Int
 | [],s=>some s
 | a :: l,s=>if z2l n a then (if sgn (redP pot a) < 0 then if a.cap = inf then none else z3d n pot l (s + a.cap * redP pot a) else z3d n pot l (s + a.low * redP pot a)) else z3d n pot l s
def boundF (I:Inst) (pot:List Int):Option Int:=z3d I.sup.length pot I.arcs (boundS I.sup pot I.sup.length)
theorem sgn_zero:sgn 0 = 0:=by decide
theorem atA_get {I:Inst} {k:Nat} {x:Arc} (h:I.arcs[k]? = some x) (ho:z2l I.sup.length x = true):atA I k = x:=by
 have hg:gOk I.sup.length I.arcs (k:Int) = true:=by rw [zlw (by omega) (by rw [Int.toNat_natCast]; exact h)]; exact ho
 unfold atA z2v
 rw [if_pos hg,Int.toNat_natCast]
 simp [List.getD,h]
end Go.Ql
end
section
section
namespace Go.Ql
open Go Go.RowKit
def onF (side:List Bool) (n:Int):Bool:=decide (0 <= n) && side.getD n.toNat false
def isN (m:Int) (n:Int):Bool:=decide (0 <= n) && decide (n < m)
def zjs (m:Int) (side:List Bool) (a:Arc):Bool:=isN m a.src && isN m a.dst && onF side a.src && !onF side a.dst
def inA (m:Int) (side:List Bool) (a:Arc):Bool:=isN m a.src && isN m a.dst && onF side a.dst && !onF side a.src
def z1z (m:Int) (side:List Bool):List Arc->Int->Option Int
 | [],s=>some s
 | a :: l,s=>if zjs m side a then (if a.cap = inf then none else z1z m side l (s + a.cap)) else if inA m side a then z1z m side l (s - a.low) else z1z m side l s
def roomC (I:Inst) (side:List Bool):Option Int:=z1z I.sup.length side I.arcs 0
def zf6 (side:List Bool) (l:List Int):Nat->Int
 | 0=>0
 | k + 1=>zf6 side l k + (if side.getD k false then l.getD k 0 else 0)
def zf5 (I:Inst) (side:List Bool):Int:=zf6 side I.sup I.sup.length
def z5h (I:Inst) (side:List Bool):Int :=
 if z03 I ≠ 0 then z03 I else if side.length ≠ I.sup.length then 30 else match roomC I side with
  | none=>34
  | some s=>if zje (W (zf5 I side)) (W s) <= 0 then 34 else 0
theorem z83 (m:Int) (side:List Bool) (a:Arc) (l:List Arc) (s:Int):z1z m side (a :: l) s = if zjs m side a then (if a.cap = inf then none else z1z m side l (s + a.cap)) else if inA m side a then z1z m side l (s - a.low) else z1z m side l s:=rfl
end Go.Ql
end
section
namespace Go.Ql
open Go Go.RowKit
def z1m (f:Nat->Int):Nat->Int
 | 0=>0
 | k + 1=>z1m f k + f k
theorem z16 {f g:Nat->Int}:∀ {n:Nat},(∀ v,v < n->f v = g v)->z1m f n = z1m g n
 | 0,_=>rfl
 | n + 1,h=>by simp only [z1m]; rw [z16 (fun v hv=>h v (by omega)),h n (by omega)]
theorem zby (f g:Nat->Int):∀ n,z1m (fun v=>f v + g v) n = z1m f n + z1m g n
 | 0=>rfl
 | n + 1=>by simp only [z1m]; rw [zby f g n]; omega
theorem zc0 (f g:Nat->Int):∀ n,z1m (fun v=>f v - g v) n = z1m f n - z1m g n
 | 0=>rfl
 | n + 1=>by simp only [z1m]; rw [zc0 f g n]; omega
theorem z6y:∀ n,z1m (fun _=>0) n = 0
 | 0=>rfl
 | n + 1=>by simp only [z1m,z6y n]; rfl
theorem zbz {s f:Int} (h0:0 <= s):∀ n:Nat,z1m (fun v=>if s = (v:Int) then f else 0) n = if s < n then f else 0
 | 0=>by simp only [z1m]; rw [if_neg (by omega)]
 | n + 1=>by
  simp only [z1m]
  rw [zbz h0 n]
  by_cases h1:s < n
  ·rw [if_pos h1,if_neg (by omega),if_pos (by omega)]; omega
  ·by_cases h2:s = n
   ·rw [if_neg h1,if_pos h2,if_pos (by omega)]; omega
   ·rw [if_neg h1,if_neg h2,if_neg (by omega)]; omega
theorem flowD_sum (n:Nat) (a:Arc) (f:Int):z1m (fun v:Nat=>z3q n a f v) n = 0:=by
 cases ho:z2l n a with
 | false=>rw [z16 (g:=fun _=>0) (fun v _=>by simp [z3q,ho]),z6y]
 | true =>
  obtain ⟨o1,o2,o3,o4⟩:=okArc_iff.1 ho
  rw [z16 (g:=fun v=>(if a.src = (v:Int) then f else 0) - (if a.dst = (v:Int) then f else 0)) (fun v _=>by simp [z3q,ho]),zc0,zbz o1,zbz o3,if_pos o2,if_pos o4]
  omega
theorem netK_sum (n:Nat) (l:List Arc) (x:List Int):∀ k,z1m (fun v:Nat=>z2d n l x k v) n = 0
 | 0=>by simp only [z2d]; exact z6y n
 | k + 1=>by
  simp only [z2d]
  rw [zby,netK_sum n l x k,flowD_sum]; rfl
theorem flowD_add (n:Int) (a:Arc) (f g v:Int):z3q n a (f + g) v = z3q n a f v + z3q n a g v:=by
 unfold z3q
 (repeat' split) <;> omega
theorem netK_bound {n:Int} {l:List Arc} {x:List Int} {v:Int} {B:Int} (hB:0 <= B) (hx:∀ y ∈ x,-B <= y/\y <= B):∀ k:Nat,-(2 * B * k) <= z2d n l x k v/\z2d n l x k v <= 2 * B * k
 | 0=>by simp [z2d]
 | k + 1=>by
  have ih:=netK_bound (n:=n) (l:=l) (v:=v) hB hx k
  have hg:-B <= x.getD k 0/\x.getD k 0 <= B:=by
   by_cases hk:k < x.length
   ·have:=hx _ (List.getElem_mem hk)
    simpa [List.getD,hk] using this
   ·simp [List.getD,hk]; omega
  simp only [z2d]
  have hd:-(2 * B) <= z3q n (l.getD k default) (x.getD k 0) v/\z3q n (l.getD k default) (x.getD k 0) v <= 2 * B:=by
   unfold z3q; (repeat' split) <;> omega
  have e:2 * B * ((k + 1:Nat):Int) = 2 * B * k + 2 * B:=by
   rw [Int.natCast_succ,Int.mul_add]; omega
  omega
theorem ziq {x:List Int} {a:Nat} (ha:a < x.length) (f:Int) (j:Nat):(x.set a (x.getD a 0 + f)).getD j 0 = x.getD j 0 + (if j = a then f else 0):=by
 rw [List.getD_eq_getElem?_getD,List.getElem?_set]
 by_cases h:a = j
 ·subst h; simp [ha]
 ·have h':¬ j = a:=fun e=>h e.symm
  simp [h,h',List.getD_eq_getElem?_getD]
theorem netK_set {n:Int} {l:List Arc} {x:List Int} {v:Int} {a:Nat} (ha:a < x.length) (f:Int):∀ k:Nat,z2d n l (x.set a (x.getD a 0 + f)) k v = z2d n l x k v + (if a < k then z3q n (l.getD a default) f v else 0)
 | 0=>by simp [z2d]
 | k + 1=>by
  simp only [z2d]
  rw [netK_set ha f k,ziq ha,flowD_add]
  by_cases h:k = a
  ·subst h; rw [if_neg (by omega),if_pos rfl,if_pos (by omega)]; omega
  ·rw [if_neg h]
   have z:z3q n (l.getD k default) 0 v = 0:=by unfold z3q; (repeat' split) <;> omega
   rw [z]
   by_cases h2:a < k
   ·rw [if_pos h2,if_pos (by omega)]; omega
   ·rw [if_neg h2,if_neg (by omega)]; omega
theorem fitsAll_iff {l:List Arc} {x:List Int}:z33 l x = true ↔ ∀ j a,l[j]? = some a->fitF a (x.getD j 0) = true:=by
 induction l generalizing x with
 | nil=>simp [z33]
 | cons b l ih =>
  simp only [z33,Bool.and_eq_true,ih]
  constructor
  ·rintro ⟨h1,h2⟩ j a ha
   cases j with
   | zero =>
    simp at ha; subst ha
    cases x <;> simpa [List.getD] using h1
   | succ j =>
    rw [List.getElem?_cons_succ] at ha
    have:=h2 j a ha
    cases x with
    | nil=>simpa [List.getD] using this
    | cons y x=>simpa [List.getD] using this
  ·intro h
   refine ⟨?_,fun j a ha=>?_⟩
   ·have:=h 0 b (by simp)
    cases x <;> simpa [List.getD] using this
   ·have:=h (j + 1) a (by simpa using ha)
    cases x with
    | nil=>simpa [List.getD] using this
    | cons y x=>simpa [List.getD] using this
theorem netOk_iff {I:Inst} {x:List Int}:netOk I x = true ↔ ∀ v,v < I.sup.length->W (z2d I.sup.length I.arcs x I.arcs.length v) = W (I.sup.getD v 0):=by
 unfold netOk
 rw [List.all_eq_true]
 simp only [List.mem_range,decide_eq_true_eq]
theorem fitsF_zero {I:Inst} {x:List Int}:z1g I x = 0 ↔ z03 I = 0/\x.length = I.arcs.length/\z33 I.arcs x = true/\netOk I x = true:=by
 have hs:=rightF_small' I
 unfold z1g
 constructor
 ·intro h
  split at h
  ·rename_i h1; exact absurd h h1
  ·rename_i h1
   split at h
   ·omega
   ·rename_i h2
    split at h
    ·omega
    ·rename_i h3
     split at h
     ·omega
     ·rename_i h4
      simp at h1 h2 h3 h4
      exact ⟨h1,h2,h3,h4⟩
 ·rintro ⟨h1,h2,h3,h4⟩
  simp [h1,h2,h3,h4]
def A32 (l:List Int):Prop:=∀ x ∈ l,-2147483648 <= x/\x <= 2147483647
theorem A32.getD {l:List Int} (h:A32 l) (k:Nat):-2147483648 <= l.getD k 0/\l.getD k 0 <= 2147483647:=by
 by_cases hk:k < l.length
 ·have:=h _ (List.getElem_mem hk)
  simpa [List.getD,hk] using this
 ·simp [List.getD,hk]
theorem zes (n:Int):∀ (l:List Arc),(∀ a ∈ l,z0e a n = 0)->z1j n l = 0
 | [],_=>rfl
 | a :: l,h=>by simp only [z1j,h a (by simp),zes n l (fun b hb=>h b (by simp [hb]))]; simp
theorem zj3:∀ (l:List Int) (s:Int),(∀ x ∈ l,-4398046511104 <= x/\x <= 4398046511104)->s + l.sum = 0->z27 l s = 0
 | [],s,_,h=>by simp at h; simp [z27,h]
 | x :: l,s,hb,h=>by
  have:=hb x (by simp)
  simp only [z27]
  rw [if_neg (by omega)]
  exact zj3 l (s + x) (fun y hy=>hb y (by simp [hy])) (by rw [List.sum_cons] at h; omega)
theorem right_of {I:Inst} (h1:I.sup.length <= 64) (h2:I.arcs.length <= 256) (h3:∀ a ∈ I.arcs,z0e a I.sup.length = 0) (h4:∀ x ∈ I.sup,-4398046511104 <= x/\x <= 4398046511104) (h5:I.sup.sum = 0):z03 I = 0:=by
 unfold z03
 rw [if_neg (by omega),if_pos (zes _ _ h3)]
 exact zj3 _ _ h4 (by omega)
theorem zgd (f:Nat->Int):∀ n,((List.range n).map f).sum = z1m f n
 | 0=>rfl
 | n + 1=>by rw [List.range_succ,List.map_append,List.sum_append,zgd f n]; simp [z1m]
theorem Arc.Nice.right {m:Int} {a:Arc} (h:a.Nice m):z0e a m = 0:=by
 have:=h.s0; have:=h.s1; have:=h.d0; have:=h.d1; have:=h.l0; have:=h.l1; have:=h.c0; have:=h.c1; have:=h.k0; have:=h.k1
 unfold z0e
 rw [if_neg (by omega),if_neg (by omega),if_neg (by omega),if_neg (by omega)]
end Go.Ql
end
section
namespace Go.Ql
open Go Go.RowKit
theorem sum_set (s:List Int) (k:Nat) (y:Int) (hk:k < s.length):(s.set k y).sum = s.sum - s.getD k 0 + y:=by
 induction s generalizing k with
 | nil=>simp at hk
 | cons z s ih =>
  cases k with
  | zero=>simp; omega
  | succ k =>
   have:=ih k (by simpa using hk)
   simp only [List.set_cons_succ,List.sum_cons,this,List.getD_cons_succ]; omega
theorem z8j (s:List Int) (k:Nat) (x:Int) (hk:k < s.length):(addAt s k x).sum = s.sum + x:=by
 unfold addAt; rw [sum_set _ _ _ hk]; omega
theorem supGo_sum {n:Nat} (d:List Int):∀ (l:List Arc) (k:Nat) (s:List Int),s.length = n->(∀ a ∈ l,a.Nice n)->(zeg d l k s).sum = s.sum
 | [],_,s,_,_=>rfl
 | a :: l,k,s,hs,hn=>by
  have h:=hn a (by simp)
  have h1:=h.s0; have h2:=h.s1; have h3:=h.d0; have h4:=h.d1
  rw [zeg,supGo_sum d l (k + 1) _ (by simp [z2y,hs]) (fun b hb=>hn b (by simp [hb])),z8j _ _ _ (by rw [z2y]; omega),z8j _ _ _ (by omega)]
  omega
theorem instF_sum (c d:List Int):(z1y c d).sup.sum = 0:=by
 have hp:=zha d
 have h1:(sup1 c d).sum = 0:=by
  unfold sup1
  rw [supGo_sum (n:=nOf d) d _ 0 _ (by simp) (zc4 c _ (by omega))]
  simp
 unfold z1y
 dsimp only
 split
 ·rw [z8j _ _ _ (by rw [z2y,sup1_len]; omega),z8j _ _ _ (by rw [sup1_len]; omega),h1]; omega
 ·exact h1
theorem z7e (m:Int) (side:List Bool):∀ (l r:List Arc) (s:Int),z1z m side (l ++ r) s = (z1z m side l s).bind (z1z m side r)
 | [],r,s=>by simp [z1z]
 | a :: l,r,s=>by
  rw [List.cons_append,z83,z83]
  split
  ·split
   ·rfl
   ·exact z7e m side l r _
  ·split
   ·exact z7e m side l r _
   ·exact z7e m side l r _
theorem zds (side:List Bool) (l:List Int):∀ k,zf6 side l k = z1m (fun v=>if side.getD v false then l.getD v 0 else 0) k
 | 0=>rfl
 | k + 1=>by simp only [zf6,z1m,zds side l k]
theorem sum_sumTo:∀ (l:List Int),l.sum = z1m (fun v=>l.getD v 0) l.length:=by
 intro l
 have h:=zgd (fun v=>l.getD v 0) l.length
 rw [<- h]
 congr 1
 apply List.ext_getElem?
 intro i
 by_cases hi:i < l.length
 ·simp [hi]
 ·simp [hi]
def crossD (m:Int) (side:List Bool) (a:Arc) (f:Int):Int:=(if zjs m side a then f else 0) - (if inA m side a then f else 0)
def zd4 (m:Int) (side:List Bool) (l:List Arc) (x:List Int):Nat->Int
 | 0=>0
 | k + 1=>zd4 m side l x k + crossD m side (l.getD k default) (x.getD k 0)
theorem sumTo_pick {s f:Int} (p:Nat->Bool) (h0:0 <= s):∀ n:Nat,s < n->z1m (fun v=>if p v then (if s = (v:Int) then f else 0) else 0) n = if p s.toNat then f else 0:=by
 intro n hn
 have:z1m (fun v=>if p v then (if s = (v:Int) then f else 0) else 0) n = z1m (fun v=>if s = (v:Int) then (if p s.toNat then f else 0) else 0) n:=by
  refine z16 fun v hv=>?_
  by_cases e:s = (v:Int)
  ·have:s.toNat = v:=by omega
   simp [e,this]
  ·simp [e]
 rw [this,zbz h0,if_pos hn]
theorem flowD_cross {n:Nat} {side:List Bool} {a:Arc} (f:Int):z1m (fun v:Nat=>if side.getD v false then z3q n a f v else 0) n = crossD n side a f:=by
 cases ho:z2l n a with
 | false =>
  have hz:∀ v:Nat,(if side.getD v false then z3q n a f v else 0) = 0:=fun v=>by simp [z3q,ho]
  rw [z16 (g:=fun _=>0) (fun v _=>hz v),z6y]
  have:isN (n:Int) a.src = false ∨ isN (n:Int) a.dst = false:=by
   unfold z2l at ho
   unfold isN
   cases h1:(decide (0 <= a.src) && decide (a.src < (n:Int))) <;> simp_all
  unfold crossD zjs inA
  rcases this with h | h <;> simp [h]
 | true =>
  obtain ⟨o1,o2,o3,o4⟩:=okArc_iff.1 ho
  rw [z16 (g:=fun v=>(if side.getD v false then (if a.src = (v:Int) then f else 0) else 0) - (if side.getD v false then (if a.dst = (v:Int) then f else 0) else 0)) (fun v _=>by
   simp only [z3q,ho,if_true]
   cases side.getD v false <;> simp),zc0,sumTo_pick (fun v=>side.getD v false) o1 n o2,sumTo_pick (fun v=>side.getD v false) o3 n o4]
  unfold crossD zjs inA isN onF
  simp only [o1,o2,o3,o4,decide_true,Bool.true_and]
  cases side.getD a.src.toNat false <;> cases side.getD a.dst.toNat false <;> simp
theorem zld (n:Nat) (side:List Bool) (l:List Arc) (x:List Int):∀ k,z1m (fun v:Nat=>if side.getD v false then z2d n l x k v else 0) n = zd4 n side l x k
 | 0=>by
  simp only [z2d,zd4]
  rw [z16 (g:=fun _=>0) (fun v _=>by simp),z6y]
 | k + 1=>by
  simp only [zd4]
  rw [<- zld n side l x k,<- flowD_cross,<- zby]
  refine z16 fun v _=>?_
  simp only [z2d]
  cases side.getD v false <;> simp
theorem fits_net {I:Inst} {x:List Int} (hl:I.arcs.length <= 1000) (hx:A64 x) (hs:Within 4398046511104 I.sup) (h:z1g I x = 0):∀ v,v < I.sup.length->z2d I.sup.length I.arcs x I.arcs.length v = I.sup.getD v 0:=by
 intro v hv
 have hn:=netOk_iff.1 (fitsF_zero.1 h).2.2.2 v hv
 have hb:=netK_bound (n:=I.sup.length) (l:=I.arcs) (x:=x) (v:=v) (B:=9223372036854775808) (by omega) (fun y hy=>by have:=hx y hy; unfold I64 at this; omega) I.arcs.length
 have hs':=hs.getD (by omega) v
 refine W_inj ?_ ?_ hn
 ·unfold zac; omega
 ·unfold zac; omega
theorem fits_need {I:Inst} {x:List Int} (side:List Bool) (hl:I.arcs.length <= 1000) (hx:A64 x) (hs:Within 4398046511104 I.sup) (h:z1g I x = 0):zd4 I.sup.length side I.arcs x I.arcs.length = zf5 I side:=by
 rw [<- zld,zf5,zds]
 refine z16 fun v hv=>?_
 rw [fits_net hl hx hs h v hv]
theorem zj1 {m:Int} {side:List Bool} {a:Arc} {s t:Int} (h:z1z m side [a] s = some t):(zjs m side a = true/\a.cap ≠ inf/\t = s + a.cap) ∨ (zjs m side a = false/\inA m side a = true/\t = s - a.low) ∨ (zjs m side a = false/\inA m side a = false/\t = s):=by
 rw [z83] at h
 simp only [z1z] at h
 cases ho:zjs m side a with
 | true =>
  rw [ho] at h
  simp only [if_true] at h
  split at h
  ·cases h
  ·rename_i hc; cases h; exact .inl ⟨rfl,hc,rfl⟩
 | false =>
  rw [ho] at h
  simp only [Bool.false_eq_true,if_false] at h
  cases hi:inA m side a with
  | true=>rw [hi] at h; simp only [if_true] at h; cases h; exact .inr (.inl ⟨rfl,rfl,rfl⟩)
  | false=>rw [hi] at h; simp only [Bool.false_eq_true,if_false] at h; cases h; exact .inr (.inr ⟨rfl,rfl,rfl⟩)
theorem out_not_in {m:Int} {side:List Bool} {a:Arc} (h:zjs m side a = true):inA m side a = false:=by
 unfold zjs at h; unfold inA
 cases h1:isN m a.src <;> cases h2:isN m a.dst <;> cases h3:onF side a.src <;> cases h4:onF side a.dst <;> simp_all
theorem cross_room {m:Int} {side:List Bool} {l:List Arc} {x:List Int} (hf:∀ j a,l[j]? = some a->fitF a (x.getD j 0) = true):∀ k,k <= l.length->∀ t,z1z m side (l.take k) 0 = some t->zd4 m side l x k <= t
 | 0,_,t,h=>by simp [z1z] at h; subst h; simp [zd4]
 | k + 1,hk,t,h=>by
  have ha:=List.getElem?_eq_getElem (show k < l.length by omega)
  rw [z2h ha,z7e] at h
  cases h1:z1z m side (l.take k) 0 with
  | none=>rw [h1] at h; cases h
  | some u =>
   rw [h1] at h
   have ih:=cross_room hf k (by omega) u h1
   have hfa:=hf k _ ha
   have hd:l.getD k default = l[k]:=by simp [List.getD,ha]
   unfold fitF at hfa
   simp only [Bool.and_eq_true,Bool.or_eq_true,decide_eq_true_eq] at hfa
   simp only [zd4,hd,crossD]
   rcases zj1 h with ⟨h2,h3,h4⟩ | ⟨h2,h3,h4⟩ | ⟨h2,h3,h4⟩
   ·rw [h2,out_not_in h2]
    simp only [if_true,Bool.false_eq_true,if_false]
    rcases hfa.2 with h5 | h5
    ·exact absurd h5 h3
    ·omega
   ·rw [h2,h3]
    simp only [if_true,Bool.false_eq_true,if_false]
    omega
   ·rw [h2,h3]
    simp only [Bool.false_eq_true,if_false]
    omega
theorem room_bound {m:Int} {side:List Bool} {l:List Arc} (hb:∀ a ∈ l,(0 <= a.low/\a.low <= 4398046511104)/\(a.cap = inf ∨ 0 <= a.cap/\a.cap <= 4398046511104)):∀ k,k <= l.length->∀ t,z1z m side (l.take k) 0 = some t->-(4398046511104 * (k:Int)) <= t/\t <= 4398046511104 * (k:Int)
 | 0,_,t,h=>by simp [z1z] at h; subst h; simp
 | k + 1,hk,t,h=>by
  have ha:=List.getElem?_eq_getElem (show k < l.length by omega)
  rw [z2h ha,z7e] at h
  cases h1:z1z m side (l.take k) 0 with
  | none=>rw [h1] at h; cases h
  | some u =>
   rw [h1] at h
   have ih:=room_bound hb k (by omega) u h1
   have hfa:=hb _ (List.getElem_mem (show k < l.length by omega))
   rcases zj1 h with ⟨h2,h3,h4⟩ | ⟨h2,h3,h4⟩ | ⟨h2,h3,h4⟩
   ·rcases hfa.2 with h5 | h5
    ·exact absurd h5 h3
    ·omega
   ·omega
   ·omega
theorem zmd {side:List Bool} {s:List Int} {b:Int} (hb:0 <= b) (h:Within b s):∀ k:Nat,-(b * k) <= zf6 side s k/\zf6 side s k <= b * k
 | 0=>by simp [zf6]
 | k + 1=>by
  have ih:=zmd (side:=side) hb h k
  have hg:=h.getD hb k
  have e:b * ((k + 1:Nat):Int) = b * k + b:=by rw [Int.natCast_succ,Int.mul_add]; omega
  simp only [zf6]
  split <;> omega
theorem arcs_bound {I:Inst} (hr:z03 I = 0):∀ a ∈ I.arcs,(0 <= a.low/\a.low <= 4398046511104)/\(a.cap = inf ∨ 0 <= a.cap/\a.cap <= 4398046511104):=fun a ha=>by
 have h:=z1u hr ha
 obtain ⟨_,h1,_⟩:=h
 unfold inf
 refine ⟨⟨h1.1,h1.2.1⟩,?_⟩
 rcases h1.2.2 with h2 | h2
 ·exact .inl h2
 ·exact .inr (by omega)
theorem zji {I:Inst} {side:List Bool} {s:Int} (hr:z03 I = 0) (hl:I.arcs.length <= 1000) (hn:I.sup.length <= 1000) (hs:Within 4398046511104 I.sup) (h:roomC I side = some s) (m:Int) (hm:m = zf5 I side):zje (W m) (W s) <= 0 ↔ m <= s:=by
 have hb:=room_bound (m:=I.sup.length) (side:=side) (arcs_bound hr) I.arcs.length (Nat.le_refl _) s (by rw [List.take_length]; exact h)
 have hk:=zmd (side:=side) (by omega) hs I.sup.length
 have e:zf5 I side = zf6 side I.sup I.sup.length:=rfl
 rw [za8 (by unfold zac; omega) (by unfold zac; omega)]
 split
 ·omega
 ·split <;> omega
theorem zdw {I:Inst} {side:List Bool} {x:List Int} (hl:I.arcs.length <= 1000) (hn:I.sup.length <= 1000) (hx:A64 x) (hs:Within 4398046511104 I.sup) (h:z5h I side = 0):z1g I x ≠ 0:=by
 intro hf
 have hr:=(fitsF_zero.1 hf).1
 unfold z5h at h
 simp only [hr,ne_eq,not_true,if_false] at h
 split at h
 ·omega
 ·split at h
  ·omega
  ·rename_i s hroom
   split at h
   ·omega
   ·rename_i hc
    rw [zji hr hl hn hs hroom _ rfl] at hc
    have h1:=fits_need side hl hx hs hf
    have h2:=cross_room (m:=I.sup.length) (side:=side) (fitsAll_iff.1 (fitsF_zero.1 hf).2.2.1) I.arcs.length (Nat.le_refl _) s (by rw [List.take_length]; exact hroom)
    omega
end Go.Ql
end
end
section
namespace Go.Ql
open Go Go.RowKit Go.Vc
theorem sgn_neg {r:Int} (h:zac r):sgn r < 0 ↔ r < 0:=by
 unfold sgn
 rw [za8 h (by unfold zac; omega)]
 split
 ·omega
 ·split <;> omega
theorem sgn_pos {r:Int} (h:zac r):0 < sgn r ↔ 0 < r:=by
 unfold sgn
 rw [za8 h (by unfold zac; omega)]
 split
 ·omega
 ·split <;> omega
def potK (l:List Arc) (x pot:List Int):Nat->Int
 | 0=>0
 | k + 1=>potK l x pot k + x.getD k 0 * (zmr pot (l.getD k default).src - zmr pot (l.getD k default).dst)
theorem sumTo_at {s f:Int} (P:Nat->Int) (h0:0 <= s) (n:Nat) (hn:s < n):z1m (fun v=>(if s = (v:Int) then f else 0) * P v) n = f * P s.toNat:=by
 rw [z16 (g:=fun v=>if s = (v:Int) then f * P s.toNat else 0) (fun v hv=>by
  by_cases e:s = (v:Int)
  ·have:s.toNat = v:=by omega
   rw [if_pos e,if_pos e,this]
  ·rw [if_neg e,if_neg e,Int.zero_mul]),zbz h0,if_pos hn]
theorem flowD_pot {n:Nat} {a:Arc} (pot:List Int) (f:Int) (ho:z2l n a = true):z1m (fun v:Nat=>z3q n a f v * pot.getD v 0) n = f * (zmr pot a.src - zmr pot a.dst):=by
 obtain ⟨o1,o2,o3,o4⟩:=okArc_iff.1 ho
 rw [z16 (g:=fun v:Nat=>(if a.src = (v:Int) then f else 0) * pot.getD v 0 - (if a.dst = (v:Int) then f else 0) * pot.getD v 0) (fun v _=>by
  simp only [z3q,ho,if_true,Int.sub_mul]),zc0,sumTo_at (fun v=>pot.getD v 0) o1 n o2,sumTo_at (fun v=>pot.getD v 0) o3 n o4]
 simp only [zmr,o1,o3,if_true,Int.mul_sub]
theorem net_pot {n:Nat} {l:List Arc} (x pot:List Int) (ho:∀ a ∈ l,z2l n a = true):∀ k,k <= l.length->z1m (fun v:Nat=>z2d n l x k v * pot.getD v 0) n = potK l x pot k
 | 0,_=>by
  simp only [z2d,potK]
  rw [z16 (g:=fun _=>0) (fun v _=>by simp),z6y]
 | k + 1,h=>by
  have hm:l.getD k default ∈ l:=by rw [List.getD_eq_getElem?_getD,List.getElem?_eq_getElem (show k < l.length by omega)]; exact List.getElem_mem _
  simp only [potK]
  rw [<- net_pot x pot ho k (by omega),<- flowD_pot pot (x.getD k 0) (ho _ hm),<- zby]
  refine z16 fun v _=>?_
  simp only [z2d,Int.add_mul]
theorem boundS_sum (l pot:List Int):∀ k,boundS l pot k = z1m (fun v=>l.getD v 0 * pot.getD v 0) k
 | 0=>rfl
 | k + 1=>by simp only [boundS,z1m,boundS_sum l pot k]
theorem z7t (n:Int) (pot:List Int):∀ (l r:List Arc) (s:Int),z3d n pot (l ++ r) s = (z3d n pot l s).bind (z3d n pot r)
 | [],r,s=>by simp [z3d]
 | a :: l,r,s=>by
  simp only [List.cons_append,z3d]
  split
  ·split
   ·split
    ·rfl
    ·exact z7t n pot l r _
   ·exact z7t n pot l r _
  ·exact z7t n pot l r _
def zg0 (l:List Arc) (x pot:List Int) (j:Nat):Bool:=z6k (redP pot (l.getD j default)) (x.getD j 0) (l.getD j default)
theorem step_gap {a:Arc} {x r:Int} (hr:zac r) (hf:fitF a x = true) :
  (sgn r < 0->a.cap = inf->z6k r x a = false)/\(sgn r < 0->a.cap ≠ inf->0 <= (x - a.cap) * r/\((x - a.cap) * r = 0 ↔ z6k r x a = true))/\(¬ sgn r < 0->0 <= (x - a.low) * r/\((x - a.low) * r = 0 ↔ z6k r x a = true)):=by
 have hn:=sgn_neg hr
 have hp:=sgn_pos hr
 unfold fitF at hf
 simp only [Bool.and_eq_true,Bool.or_eq_true,decide_eq_true_eq] at hf
 refine ⟨fun h1 h2=>?_,fun h1 h2=>?_,fun h1=>?_⟩
 ·simp [z6k,h1,h2]
 ·have h3:r < 0:=hn.1 h1
  have h4:x <= a.cap:=by rcases hf.2 with h | h; exact absurd h h2; exact h
  have h5:¬ 0 < sgn r:=by omega
  refine ⟨Int.mul_nonneg_of_nonpos_of_nonpos (by omega) (by omega),?_⟩
  rw [Int.mul_eq_zero]
  simp only [z6k,h1,h2,h5,decide_true,decide_false,Bool.false_and,Bool.false_or,Bool.true_and,Bool.or_false,Bool.not_eq_true',decide_eq_false_iff_not,ne_eq,Decidable.not_not]
  omega
 ·have h3:0 <= r:=by omega
  refine ⟨Int.mul_nonneg (by omega) h3,?_⟩
  rw [Int.mul_eq_zero]
  by_cases h4:0 < sgn r
  ·have h5:=hp.1 h4
   simp only [z6k,h1,h4,decide_true,decide_false,Bool.false_and,Bool.or_false,Bool.true_and,Bool.not_eq_true',decide_eq_false_iff_not,ne_eq,Decidable.not_not]
   omega
  ·have h5:r = 0:=by omega
   subst h5; simp [z6k,sgn_zero]
theorem gap {n:Nat} {l:List Arc} {x pot:List Int} (s:Int) (ho:∀ a ∈ l,z2l n a = true) (hr:∀ a ∈ l,zac (redP pot a)) (hf:∀ j a,l[j]? = some a->fitF a (x.getD j 0) = true):∀ k,k <= l.length ->
  (z3d n pot (l.take k) s = none->∃ j,j < k/\zg0 l x pot j = false)/\∀ t,z3d n pot (l.take k) s = some t->0 <= z1n l x k - potK l x pot k - (t - s)/\(z1n l x k - potK l x pot k - (t - s) = 0 ↔ ∀ j,j < k->zg0 l x pot j = true)
 | 0,_=>by
  refine ⟨fun h=>?_,fun t h=>?_⟩
  ·simp [z3d] at h
  ·simp only [List.take_zero,z3d,Option.some.injEq] at h
   subst h
   simp [z1n,potK]
 | k + 1,h=>by
  have ih:=gap s ho hr hf k (by omega)
  have hk:l[k]? = some (l[k]'(by omega)):=List.getElem?_eq_getElem (by omega)
  generalize l[k]'(by omega) = a at hk
  have hd:l.getD k default = a:=by simp [List.getD,hk]
  have hm:=List.mem_of_getElem? hk
  have hg:=step_gap (hr a hm) (hf k a hk)
  have hoa:=ho a hm
  have hsj:zg0 l x pot k = z6k (redP pot a) (x.getD k 0) a:=by unfold zg0; rw [hd]
  have hall:(∀ j,j < k + 1->zg0 l x pot j = true) ↔ (∀ j,j < k->zg0 l x pot j = true)/\z6k (redP pot a) (x.getD k 0) a = true:=by
   rw [<- hsj]
   constructor
   ·exact fun h=>⟨fun j hj=>h j (by omega),h k (by omega)⟩
   ·intro h j hj
    by_cases e:j = k
    ·subst e; exact h.2
    ·exact h.1 j (by omega)
  rw [z2h hk,z7t]
  cases hb:z3d n pot (l.take k) s with
  | none =>
   refine ⟨fun _=>?_,fun t h=>by simp at h⟩
   obtain ⟨j,hj,hj2⟩:=ih.1 hb
   exact ⟨j,by omega,hj2⟩
  | some u =>
   have ih2:=ih.2 u hb
   simp only [Option.bind_some,z3d,hoa,if_true]
   have hc:z1n l x (k + 1) - potK l x pot (k + 1) = z1n l x k - potK l x pot k + x.getD k 0 * redP pot a:=by
    simp only [z1n,potK,hd,redP,redA,Int.mul_sub,Int.mul_add]
    rw [Int.mul_comm a.cost]
    omega
   rw [hall,hc]
   by_cases hs:sgn (redP pot a) < 0
   ·by_cases hi:a.cap = inf
    ·simp only [hs,hi,if_true]
     exact ⟨fun _=>⟨k,by omega,by rw [hsj]; exact hg.1 hs hi⟩,fun t h=>by simp at h⟩
    ·simp only [hs,hi,if_true,if_false]
     refine ⟨fun h=>by simp at h,fun t h=>?_⟩
     simp only [Option.some.injEq] at h
     subst h
     have h2:=hg.2.1 hs hi
     rw [Int.sub_mul] at h2
     rw [<- ih2.2,<- h2.2]
     omega
   ·simp only [hs,if_false]
    refine ⟨fun h=>by simp at h,fun t h=>?_⟩
    simp only [Option.some.injEq] at h
    subst h
    have h2:=hg.2.2 hs
    rw [Int.sub_mul] at h2
    rw [<- ih2.2,<- h2.2]
    omega
theorem redF_at {I:Inst} {pot:List Int} {k:Nat} {a:Arc} (h:I.arcs[k]? = some a) (ho:z2l I.sup.length a = true):redF I pot k = redP pot a:=by
 have hg:gOk I.sup.length I.arcs (k:Int) = true:=by rw [zlw (by omega) (by rw [Int.toNat_natCast]; exact h)]; exact ho
 obtain ⟨o1,o2,o3,o4⟩:=okArc_iff.1 ho
 unfold redF atF atT redP zmr
 rw [if_pos hg,if_pos hg,if_pos hg,atA_get h ho,if_pos o1,if_pos o3]
theorem zmu {I:Inst} {x pot:List Int} (hl:I.arcs.length <= 1000) (hx:A64 x) (hs:Within 4398046511104 I.sup) (hp:A64 pot) (hlp:pot.length = I.sup.length) (h:z1g I x = 0) :
  (boundF I pot = none->z1f I x pot = 33)/\∀ t,boundF I pot = some t->t <= z3v I x/\(t = z3v I x ↔ z1f I x pot = 0):=by
 have hz:=fitsF_zero.1 h
 have ho:∀ a ∈ I.arcs,z2l I.sup.length a = true:=fun a ha=>(z1u hz.1 ha).1
 have hP:∀ v,I64 (zmr pot v):=fun v=>by
  unfold zmr
  split
  ·exact hp.getD _
  ·simp [I64]
 have hr:∀ a ∈ I.arcs,zac (redP pot a):=fun a ha=>by
  have h1:=(z1u hz.1 ha).2.2
  have h2:=hP a.src
  have h3:=hP a.dst
  unfold redP redA
  unfold I64 at h2 h3
  unfold zac
  omega
 have hg:=gap (n:=I.sup.length) (l:=I.arcs) (x:=x) (pot:=pot) (boundS I.sup pot I.sup.length) ho hr (fitsAll_iff.1 hz.2.2.1) I.arcs.length (Nat.le_refl _)
 rw [List.take_length] at hg
 have hn:boundS I.sup pot I.sup.length = potK I.arcs x pot I.arcs.length:=by
  rw [boundS_sum,<- net_pot x pot ho I.arcs.length (Nat.le_refl _)]
  refine z16 fun v hv=>?_
  rw [fits_net hl hx hs h v hv]
 have hsl:∀ k,k < I.arcs.length->z44 I x pot k = zg0 I.arcs x pot k:=fun k hk=>by
  have hget:I.arcs[k]? = some (I.arcs[k]):=List.getElem?_eq_getElem hk
  have hd:I.arcs.getD k default = I.arcs[k]:=by simp [List.getD,hget]
  unfold z44 zg0
  rw [redF_at hget (ho _ (List.getElem_mem hk)),hd]
 have hF:z1f I x pot = if (List.range I.arcs.length).all (z44 I x pot) then 0 else 33:=by
  unfold z1f
  rw [if_neg (by omega),if_neg (by omega)]
 refine ⟨fun hb=>?_,fun t hb=>?_⟩
 ·obtain ⟨j,hj,hj2⟩:=hg.1 hb
  rw [hF,if_neg]
  intro hall
  have:=List.all_eq_true.1 hall j (List.mem_range.2 hj)
  rw [hsl j hj,hj2] at this
  cases this
 ·have h2:=hg.2 t hb
  rw [hn] at h2
  unfold z3v
  have h3:(t = z1n I.arcs x I.arcs.length) ↔ ∀ j,j < I.arcs.length->zg0 I.arcs x pot j = true:=by
   rw [<- h2.2]; omega
  refine ⟨by omega,?_⟩
  rw [h3,hF]
  constructor
  ·intro h4
   rw [if_pos (List.all_eq_true.2 fun j hj=>by have hj:=List.mem_range.1 hj; rw [hsl j hj]; exact h4 j hj)]
  ·intro h4 j hj
   split at h4
   ·rename_i h5
    rw [<- hsl j hj]
    exact List.all_eq_true.1 h5 j (List.mem_range.2 hj)
   ·omega
theorem zlb {l:List Arc} {x:List Int} {C X:Int} (hC:0 <= C) (hX:0 <= X) (hl:∀ a ∈ l,-C <= a.cost/\a.cost <= C) (hx:∀ k,-X <= x.getD k 0/\x.getD k 0 <= X):∀ k:Nat,k <= l.length->-(C * X * k) <= z1n l x k/\z1n l x k <= C * X * k
 | 0,_=>by simp [z1n]
 | k + 1,h=>by
  have ih:=zlb hC hX hl hx k (by omega)
  have hm:l.getD k default ∈ l:=by rw [List.getD_eq_getElem?_getD,List.getElem?_eq_getElem (show k < l.length by omega)]; exact List.getElem_mem _
  have h1:=hl _ hm
  have h2:=hx k
  have hm:=zmc (a:=(l.getD k default).cost) (b:=x.getD k 0) h1.1 h1.2 h2.1 h2.2 hC hX
  rw [z1n,Int.natCast_succ,Int.mul_add,Int.mul_one]
  omega
theorem z0c {I:Inst} (h:z03 I = 0):I.sup.length <= 64/\I.arcs.length <= 256:=by
 unfold z03 at h
 split at h
 ·omega
 ·omega
theorem supErr_in:∀ (l:List Int) (s:Int),z27 l s = 0->Within 4398046511104 l/\s + l.sum = 0
 | [],s,h=>by
  unfold z27 at h
  split at h
  ·rename_i e; exact ⟨fun x hx=>(by cases hx),by simpa using e⟩
  ·omega
 | x :: l,s,h=>by
  unfold z27 at h
  split at h
  ·omega
  ·have ih:=supErr_in l (s + x) h
   refine ⟨fun y hy=>?_,by rw [List.sum_cons]; omega⟩
   rcases List.mem_cons.1 hy with rfl | hy
   ·omega
   ·exact ih.1 y hy
theorem z1v {I:Inst} (h:z03 I = 0):Within 4398046511104 I.sup/\I.sup.sum = 0:=by
 unfold z03 at h
 split at h
 ·omega
 ·split at h
  ·have:=supErr_in _ _ h
   exact ⟨this.1,by omega⟩
  ·omega
theorem A64.at {l:List Int} (h:A64 l) (k:Nat):-9223372036854775808 <= l.getD k 0/\l.getD k 0 <= 9223372036854775808:=by
 have:=h.getD k
 unfold I64 at this
 omega
theorem z4o {I:Inst} {x:List Int} (h:z03 I = 0) (hx:A64 x):zac (z3v I x):=by
 have hl:=z0c h
 have:=zlb (C:=4398046511104) (X:=9223372036854775808) (by omega) (by omega) (fun a ha=>(z1u h ha).2.2) (fun k=>hx.at k) I.arcs.length (Nat.le_refl _)
 unfold z3v zac
 omega
theorem zi9 {I:Inst} {x y pot:List Int} (hx:A64 x) (hy:A64 y) (hp:A64 pot) (hs:z1f I y pot = 0) (hf:z1g I x = 0):zje (W (z3v I y)) (W (z3v I x)) <= 0:=by
 have hfy:z1g I y = 0:=by
  unfold z1f at hs
  split at hs
  ·omega
  ·rename_i h; omega
 have hlp:pot.length = I.sup.length:=by
  unfold z1f at hs
  split at hs
  ·omega
  ·split at hs
   ·omega
   ·rename_i h; omega
 have hr:=(fitsF_zero.1 hfy).1
 have hl:=z0c hr
 have hw:=(z1v hr).1
 have h1:=zmu (by omega) hy hw hp hlp hfy
 have h2:=zmu (by omega) hx hw hp hlp hf
 cases hb:boundF I pot with
 | none=>have:=h1.1 hb; omega
 | some t =>
  have e1:=(h1.2 t hb).2.2 hs
  have e2:=(h2.2 t hb).1
  rw [za8 (z4o hr hy) (z4o hr hx)]
  split
  ·omega
  ·split <;> omega
theorem gOk_ok {I:Inst} {a:Int} (h:gOk I.sup.length I.arcs a = true):z2l I.sup.length (atA I a) = true:=by
 unfold atA z2v
 rw [if_pos h]
 unfold gOk at h
 simp only [Bool.and_eq_true] at h
 exact h.2
theorem zi2 (P:Nat->Int) {m:Nat}:∀ t,t <= m->0 < m->z1m (fun k=>P ((k + 1) % m) - P k) t = P (t % m) - P 0
 | 0,_,_=>by simp [z1m]
 | t + 1,h,h0=>by
  rw [z1m,zi2 P t (by omega) h0,Nat.mod_eq_of_lt (show t < m by omega)]
  omega
end Go.Ql
end
section
namespace Go.Ql
open Go Go.Vc
structure Cert where
 kind:Int
 flow:List Int
 pot:List Int
 side:List Bool
 cycle:List Int
deriving DecidableEq
structure StepD where
 inst:Inst
 pass:Int
 was:Inst
 off:Wide
 did:Bool
deriving DecidableEq
def StepD.none:StepD:=⟨⟨[],[]⟩,0,⟨[],[]⟩,⟨0,0⟩,false⟩
end Go.Ql
end
section
namespace Go.Ql
open Go Go.RowKit
def Arc.In (n:Int) (a:Arc):Prop:=0 <= a.src/\a.src < n/\0 <= a.dst/\a.dst < n
end Go.Ql
end
section
namespace Go.Ql
open Go Go.Vc
theorem right_in {I:Inst} (h:z03 I = 0):∀ a ∈ I.arcs,a.In I.sup.length:=fun a ha=>okArc_iff.1 (z1u h ha).1
end Go.Ql
end
section
namespace Go.Ql
open Go Go.Vc
end Go.Ql
end
section
namespace Go.Ql
open Go Go.Vc
theorem Arc.Nice.more {m n:Int} {a:Arc} (h:a.Nice m) (hm:m <= n):a.Nice n :=
 ⟨h.s0,by have:=h.s1; omega,h.d0,by have:=h.d1; omega,h.l0,h.l1,h.c0,h.c1,h.k0,h.k1⟩
end Go.Ql
end
section
namespace Go.Ql
open Go Go.Vc
theorem on_in {m:Int} {side:List Bool} {a:Arc} (h:a.In m):zjs m side a = (side.getD a.src.toNat false && !side.getD a.dst.toNat false)/\inA m side a = (side.getD a.dst.toNat false && !side.getD a.src.toNat false):=by
 obtain ⟨h1,h2,h3,h4⟩:=h
 unfold zjs inA isN onF
 simp [h1,h2,h3,h4]
theorem addAt_getD (s:List Int) (k:Nat) (x:Int) (v:Nat) (hv:v < s.length):(addAt s k x).getD v 0 = s.getD v 0 + (if k = v then x else 0):=by
 unfold addAt
 rw [List.getD_eq_getElem?_getD,List.getElem?_set]
 by_cases h:k = v
 ·subst h; simp [hv]
 ·simp [h,List.getD_eq_getElem?_getD]
theorem fitsF_iff {I:Inst} {x:List Int}:z1g I x = 0 ↔ z03 I = 0/\x.length = I.arcs.length/\z33 I.arcs x = true/\netOk I x = true:=by
 unfold z1g
 by_cases h1:z03 I = 0
 ·by_cases h2:x.length = I.arcs.length
  ·cases h3:z33 I.arcs x <;> cases h4:netOk I x <;> simp [h1,h2]
  ·simp [h1,h2]
 ·simp [h1]
def Few (x:List Int):Prop:=∀ y ∈ x,0 <= y/\y <= 7
theorem Few.head {x:List Int} (h:Few x):0 <= x.headD 0/\x.headD 0 <= 7:=by
 cases x with
 | nil=>simp
 | cons y x=>exact h y (by simp)
theorem Few.tail {x:List Int} (h:Few x):Few x.tail:=fun y hy=>h y (List.mem_of_mem_tail hy)
theorem Few.a64 {x:List Int} (h:Few x):A64 x:=fun y hy=>by have:=h y hy; unfold I64; omega
theorem right_A64 {I:Inst} (h:z03 I = 0):A64a I.arcs/\A64c I.arcs/\A64 I.sup/\L42 I.arcs:=by
 refine ⟨fun a ha=>?_,fun a ha=>?_,fun x hx=>?_,fun a ha=>?_⟩
 ·have:=z1u h ha; unfold I64; omega
 ·have:=z1u h ha; unfold I64; omega
 ·have:=(z1v h).1 x hx; unfold I64; omega
 ·have:=z1u h ha; omega
end Go.Ql
end
section
namespace Go.Ql
open Go Go.RowKit Go.Vc
def zd8 (I:Inst) (a:Int):Bool:=decide (0 <= a) && decide (a < I.arcs.length)
def z2p (I:Inst) (a:Int):Arc:=I.arcs.getD a.toNat default
def zjy (I:Inst) (a:Int):Int:=if zd8 I a then (z2p I a).cost else 0
def rayK (I:Inst) (l:List Int):Nat->Int
 | 0=>0
 | k + 1=>rayK I l k + zjy I (l.getD k 0)
def rayS (I:Inst) (l:List Int):Int:=rayK I l l.length
def c1F (I:Inst) (l:List Int):Bool:=l.all (zd8 I)
def c2F (l:List Int):Bool:=decide l.Nodup
def linkF (I:Inst) (l:List Int) (k:Nat):Bool:=decide ((z2p I (l.getD k 0)).dst = (z2p I (l.getD ((k + 1) % l.length) 0)).src)
def c3F (I:Inst) (l:List Int):Bool:=(List.range l.length).all (linkF I l)
def c4F (I:Inst) (l:List Int):Bool:=l.all fun a=>decide ((z2p I a).cap = inf)
def c5F (I:Inst) (l:List Int):Bool:=decide (zje (W (rayS I l)) (W 0) < 0)
def z46 (I:Inst) (l:List Int):Int :=
 if z03 I ≠ 0 then z03 I else if l.length = 0 ∨ I.arcs.length < l.length then 30
 else if c1F I l && c2F l && c3F I l && c4F I l && c5F I l then 0 else 35
theorem arcAt_get {I:Inst} {x:Int} {a:Arc} (h:I.arcs[x.toNat]? = some a):z2p I x = a:=by simp [z2p,List.getD,h]
theorem isArcF_iff {I:Inst} {x:Int}:zd8 I x = true ↔ 0 <= x/\x < I.arcs.length:=by simp [zd8]
end Go.Ql
end
section
namespace Go.Ql
open Go Go.Vc
def z3b (c:Cert):Bool :=
 if c.kind = 1 then decide (c.side.length = 0) && decide (c.cycle.length = 0)
 else if c.kind = 2 then decide (c.flow.length = 0) && decide (c.pot.length = 0) && decide (c.cycle.length = 0)
 else if c.kind = 3 then decide (c.pot.length = 0) && decide (c.side.length = 0)
 else false
def z25 (I:Inst) (c:Cert):Int :=
 if z03 I ≠ 0 then z03 I else if z3b c = false then 36
 else if c.kind = 1 then z1f I c.flow c.pot
 else if c.kind = 2 then z5h I c.side
 else if z1g I c.flow ≠ 0 then z1g I c.flow else z46 I c.cycle
def z28 (I:Inst) (c:Cert):Wide:=if c.kind = 1 then W (z3v I c.flow) else ⟨0,0⟩
def z5r (c:Cert):Prop:=A64 c.flow/\A64 c.pot/\c.flow.length <= 140737488351232/\c.pot.length <= 140737488351232/\c.side.length <= 140737488351232/\c.cycle.length <= 140737488351232
def zae (I:Inst):Prop:=I.sup.length <= 10000/\I.arcs.length <= 10000/\A64 I.sup/\A64a I.arcs/\A64c I.arcs
theorem zmo {c:Cert} (h:z3b c = true):c.kind = 1 ∨ c.kind = 2 ∨ c.kind = 3:=by
 unfold z3b at h
 by_cases h1:c.kind = 1
 ·exact .inl h1
 ·by_cases h2:c.kind = 2
  ·exact .inr (.inl h2)
  ·by_cases h3:c.kind = 3
   ·exact .inr (.inr h3)
   ·rw [if_neg h1,if_neg h2,if_neg h3] at h; cases h
end Go.Ql
end
section
namespace Go.Ql
open Go Go.Vc
theorem z31 {I:Inst} {c:Cert} (h:z25 I c = 0):z03 I = 0/\z3b c = true/\(c.kind = 1/\z1f I c.flow c.pot = 0 ∨ c.kind = 2/\z5h I c.side = 0 ∨ c.kind = 3/\z1g I c.flow = 0/\z46 I c.cycle = 0):=by
 unfold z25 at h
 by_cases h1:z03 I = 0
 ·rw [if_neg (fun h2=>h2 h1)] at h
  cases hp:z3b c with
  | false=>rw [hp] at h; simp at h
  | true =>
   rw [hp] at h
   simp only [Bool.true_eq_false,if_false] at h
   refine ⟨h1,rfl,?_⟩
   rcases zmo hp with hk | hk | hk
   ·left; rw [if_pos hk] at h; exact ⟨hk,h⟩
   ·right; left; rw [if_neg (by omega),if_pos hk] at h; exact ⟨hk,h⟩
   ·right; right
    rw [if_neg (by omega),if_neg (by omega)] at h
    refine ⟨hk,?_⟩
    by_cases hf:z1g I c.flow = 0
    ·rw [if_neg (fun h2=>h2 hf)] at h; exact ⟨hf,h⟩
    ·rw [if_pos hf] at h; exact absurd h hf
 ·rw [if_pos h1] at h; exact absurd h h1
theorem z95 {I:Inst} {x pot:List Int} (h:z1f I x pot = 0):z1g I x = 0/\pot.length = I.sup.length/\∀ k,k < I.arcs.length->z44 I x pot k = true:=by
 unfold z1f at h
 by_cases h1:z1g I x = 0
 ·rw [if_neg (fun h2=>h2 h1)] at h
  by_cases h2:pot.length = I.sup.length
  ·rw [if_neg (fun h3=>h3 h2)] at h
   refine ⟨h1,h2,fun k hk=>?_⟩
   split at h
   ·rename_i h3; exact List.all_eq_true.1 h3 k (List.mem_range.2 hk)
   ·omega
  ·rw [if_pos h2] at h; omega
 ·rw [if_pos h1] at h; exact absurd h h1
theorem turns_zero {I:Inst} {l:List Int} (h:z46 I l = 0):z03 I = 0/\0 < l.length/\l.length <= I.arcs.length/\c1F I l = true/\c2F l = true/\c3F I l = true/\c4F I l = true/\c5F I l = true:=by
 unfold z46 at h
 by_cases h1:z03 I = 0
 ·rw [if_neg (fun h2=>h2 h1)] at h
  by_cases h2:l.length = 0 ∨ I.arcs.length < l.length
  ·rw [if_pos h2] at h; omega
  ·rw [if_neg h2] at h
   split at h
   ·rename_i h3
    simp only [Bool.and_eq_true] at h3
    exact ⟨h1,by omega,by omega,h3.1.1.1.1,h3.1.1.1.2,h3.1.1.2,h3.1.2,h3.2⟩
   ·omega
 ·rw [if_pos h1] at h; exact absurd h h1
theorem potR_I64 {pot:List Int} (h:A64 pot) (n:Int):I64 (zmr pot n):=by
 unfold zmr
 split
 ·exact h.getD _
 ·unfold I64; omega
theorem redP_I128 {I:Inst} {pot:List Int} (hr:z03 I = 0) (hp:A64 pot) {a:Arc} (ha:a ∈ I.arcs):zac (redP pot a):=by
 have h1:=potR_I64 hp a.src
 have h2:=potR_I64 hp a.dst
 have h3:=z1u hr ha
 unfold redP redA zac
 unfold I64 at h1 h2
 omega
theorem rayK_bd {I:Inst} (hr:z03 I = 0) (l:List Int):∀ k:Nat,-(4398046511104 * (k:Int)) <= rayK I l k/\rayK I l k <= 4398046511104 * (k:Int)
 | 0=>by simp [rayK]
 | k + 1=>by
  have ih:=rayK_bd hr l k
  have hd:-4398046511104 <= zjy I (l.getD k 0)/\zjy I (l.getD k 0) <= 4398046511104:=by
   unfold zjy
   split
   ·rename_i h
    obtain ⟨h1,h2⟩:=isArcF_iff.1 h
    obtain ⟨a,ha⟩:∃ a,I.arcs[(l.getD k 0).toNat]? = some a:=⟨_,List.getElem?_eq_getElem (by omega)⟩
    rw [arcAt_get ha]
    have:=z1u hr (List.mem_of_getElem? ha)
    omega
   ·omega
  rw [rayK]
  push_cast
  omega
theorem no_both {I:Inst} {x pot l:List Int} (hp:A64 pot) (hs:z1f I x pot = 0) (ht:z46 I l = 0):False:=by
 obtain ⟨hr,hl0,hl1,c1,c2,c3,c4,c5⟩:=turns_zero ht
 obtain ⟨hf,hpl,hk⟩:=z95 hs
 have hrs:=z0c hr
 let P:Nat->Int:=fun k=>zmr pot (z2p I (l.getD k 0)).src
 have step:∀ k,k < l.length->0 <= zjy I (l.getD k 0) - P k + P ((k + 1) % l.length):=fun k hkl=>by
  have hx:l[k]? = some (l.getD k 0):=by rw [List.getD_eq_getElem?_getD,List.getElem?_eq_getElem hkl]; rfl
  have hm:=List.mem_of_getElem? hx
  generalize hy:l.getD k 0 = y at *
  have h1:=List.all_eq_true.1 c1 y hm
  obtain ⟨y0,y1⟩:=isArcF_iff.1 h1
  obtain ⟨a,ha⟩:∃ a,I.arcs[y.toNat]? = some a:=⟨_,List.getElem?_eq_getElem (by omega)⟩
  have hma:=List.mem_of_getElem? ha
  have hat:=arcAt_get (x:=y) ha
  have hcap:a.cap = inf:=by
   have:=List.all_eq_true.1 c4 y hm
   rw [hat] at this
   exact of_decide_eq_true this
  have hlink:(z2p I y).dst = (z2p I (l.getD ((k + 1) % l.length) 0)).src:=by
   have:=List.all_eq_true.1 c3 k (List.mem_range.2 hkl)
   unfold linkF at this
   rw [hy] at this
   exact of_decide_eq_true this
  have hsk:=hk y.toNat (by omega)
  unfold z44 at hsk
  rw [redF_at ha (z1u hr hma).1,show I.arcs.getD y.toNat default = a by rw [List.getD_eq_getElem?_getD,ha]; rfl] at hsk
  have h2:¬ sgn (redP pot a) < 0:=fun h3=>by
   unfold z6k at hsk
   simp [h3,hcap] at hsk
  have h3:0 <= redP pot a:=by
   apply Classical.byContradiction
   intro h4
   exact h2 ((sgn_neg (redP_I128 hr hp hma)).2 (by omega))
  unfold redP redA at h3
  have e1:zjy I y = a.cost:=by unfold zjy; rw [h1,hat]; rfl
  have e2:P k = zmr pot a.src:=by show zmr pot (z2p I (l.getD k 0)).src = _; rw [hy,hat]
  have e3:P ((k + 1) % l.length) = zmr pot a.dst:=by show zmr pot (z2p I (l.getD ((k + 1) % l.length) 0)).src = _; rw [<- hlink,hat]
  rw [e1,e2,e3]
  exact h3
 have sums:∀ t,t <= l.length->0 <= rayK I l t + z1m (fun k=>P ((k + 1) % l.length) - P k) t:=fun t=>by
  induction t with
  | zero=>intro _; simp [rayK,z1m]
  | succ t ih =>
   intro h
   have h1:=ih (by omega)
   have h2:=step t (by omega)
   rw [rayK,z1m]
   omega
 have h1:=sums l.length (Nat.le_refl _)
 rw [zi2 P l.length (Nat.le_refl _) hl0,Nat.mod_self] at h1
 have h2:=rayK_bd hr l l.length
 unfold c5F rayS at c5
 have h3:=of_decide_eq_true c5
 rw [za8 (by unfold zac; omega) (by unfold zac; omega)] at h3
 have h4:¬ rayK I l l.length < 0:=by omega
 rw [if_neg h4] at h3
 split at h3 <;> omega
theorem cost_one {I:Inst} {x y p q:List Int} (hx:A64 x) (hy:A64 y) (hp:A64 p) (hq:A64 q) (h1:z1f I x p = 0) (h2:z1f I y q = 0):z3v I x = z3v I y:=by
 obtain ⟨f1,-,-⟩:=z95 h1
 obtain ⟨f2,-,-⟩:=z95 h2
 have hr:=(fitsF_iff.1 f1).1
 have a:=zi9 hy hx hp h1 f2
 have b:=zi9 hx hy hq h2 f1
 rw [za8 (z4o hr hx) (z4o hr hy)] at a
 rw [za8 (z4o hr hy) (z4o hr hx)] at b
 split at a <;> split at b <;> (try split at a) <;> (try split at b) <;> omega
theorem cert_one {I:Inst} {x y:Cert} (hx:z5r x) (hy:z5r y) (h1:z25 I x = 0) (h2:z25 I y = 0):x.kind = y.kind/\z28 I x = z28 I y:=by
 obtain ⟨hr,-,k1⟩:=z31 h1
 obtain ⟨-,-,k2⟩:=z31 h2
 have hrs:=z0c hr
 have hw:=(z1v hr).1
 have none_:∀ {s:List Bool} {f:List Int},A64 f->z5h I s = 0->z1g I f = 0->False:=fun hf h3 h4=>zdw (by omega) (by omega) hf hw h3 h4
 rcases k1 with ⟨a1,b1⟩ | ⟨a1,b1⟩ | ⟨a1,b1,d1⟩ <;> rcases k2 with ⟨a2,b2⟩ | ⟨a2,b2⟩ | ⟨a2,b2,d2⟩
 ·refine ⟨by omega,?_⟩
  unfold z28; rw [if_pos a1,if_pos a2,cost_one hx.1 hy.1 hx.2.1 hy.2.1 b1 b2]
 ·exact (none_ hx.1 b2 (z95 b1).1).elim
 ·exact (no_both hx.2.1 b1 d2).elim
 ·exact (none_ hy.1 b1 (z95 b2).1).elim
 ·refine ⟨by omega,?_⟩
  unfold z28; rw [if_neg (by omega),if_neg (by omega)]
 ·exact (none_ hy.1 b1 b2).elim
 ·exact (no_both hy.2.1 b2 d1).elim
 ·exact (none_ hx.1 b2 b1).elim
 ·refine ⟨by omega,?_⟩
  unfold z28; rw [if_neg (by omega),if_neg (by omega)]
end Go.Ql
end
