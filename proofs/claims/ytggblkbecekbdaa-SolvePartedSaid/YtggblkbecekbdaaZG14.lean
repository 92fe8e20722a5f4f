/- Part of the proof: FW20, Solve11, DX20, FX20, Solve12, DY20, FY20, DP11, FP11, DC10, FC10, DQ11, FQ11, DR12, FR12, DS12, FS12, DK13, FK13, DY13. -/
import Derived.Test.YtggblkbecekbdaaZG8
import Derived.Test.YtggblkbecekbdaaZG13
import Derived.Test.YtggblkbecekbdaaZG5
import Derived.Test.YtggblkbecekbdaaZG9
import Derived.Test.YtggblkbecekbdaaZG7
import Derived.Test.YtggblkbecekbdaaZG12
import Derived.Test.YtggblkbecekbdaaZG6
set_option linter.unusedVariables false
set_option linter.all false
set_option linter.unusedSimpArgs false
set_option maxRecDepth 1000000
section
namespace Go.Proofs.Ytggblkbecekbdaa
open Go Go.RowKit Go.Ql Go.Vc
theorem piece20_ok:SpecOk Try.prog zmn false zba :=
 inl_ok z0v (show z1w Try.prog piece20_g from z06) (by kernel_rfl) mixedOrders Try.func117 rfl rfl (by kernel_rfl) _
def out20_E0 (g_n : Int) (g_l : List Arc) (g_i : List Int) (g_s : List Int) (n : Int) (ty1 ty2 ty3 : TypeId) : Prop :=
      ∀ (R:Loop->Prop),
 True /\
 ((!(decide ((0:Int) <= n) && decide (n < g_n))) = true->(True/\True)/\[] = z0l g_i g_s n (0:Nat)/\True) /\
 ((!(decide ((0:Int) <= n) && decide (n < g_n))) = false ->
 ((0:Int) <= IntKind.i64.wrap (IntKind.i64.wrap ((2:Int) * n) + (0:Int))/\IntKind.i64.wrap (IntKind.i64.wrap ((2:Int) * n) + (0:Int)) < (↑g_s.length:Int)) /\
 (IntKind.i64.wrap (IntKind.i64.wrap ((2:Int) * n) + (0:Int))).toNat < g_s.length /\
 ∀ (x:Int),
 g_s[(IntKind.i64.wrap (IntKind.i64.wrap ((2:Int) * n) + (0:Int))).toNat]? = some x ->
 ((0:Int) <= IntKind.i64.wrap (IntKind.i64.wrap (IntKind.i64.wrap ((2:Int) * n) + (0:Int)) + (1:Int)) /\
 IntKind.i64.wrap (IntKind.i64.wrap (IntKind.i64.wrap ((2:Int) * n) + (0:Int)) + (1:Int)) < (↑g_s.length:Int)) /\
 (IntKind.i64.wrap (IntKind.i64.wrap (IntKind.i64.wrap ((2:Int) * n) + (0:Int)) + (1:Int))).toNat < g_s.length /\
 ∀ (x_1:Int),
 g_s[(IntKind.i64.wrap (IntKind.i64.wrap (IntKind.i64.wrap ((2:Int) * n) + (0:Int)) + (1:Int))).toNat]? = some x_1 ->
 ((0:Int) <= x/\x <= x_1/\x_1 <= x_1/\x_1 <= (↑g_i.length:Int)) /\
 ∃ (g0:Nat),
 (g0 <= (z0l g_i g_s n (0:Nat)).length /\
 (True /\
 True /\
 (↑(List.drop x.toNat (List.take x_1.toNat g_i)).length:Int) = (↑(z0l g_i g_s n (0:Nat)).length:Int) /\
 (0:Int) = (↑g0:Int)/\True) /\
 (True/\True) /\
 [] = List.take g0 (z0l g_i g_s n (0:Nat)) /\
 List.drop x.toNat (List.take x_1.toNat g_i) = z0l g_i g_s n (0:Nat) /\
 R = R /\
 ((0:Int) = (0:Int)/\True) /\
 (n = n/\True) /\
 ((0:Nat) = (0:Nat)/\True)/\zb8 Int/\(g_n = g_n/\True/\True/\True/\True)/\g_l = g_l/\g_i = g_i/\g_s = g_s/\True) /\
 ∀ (g:Nat),
 g <= (z0l g_i g_s n (0:Nat)).length ->
 (decide ((↑g:Int) < (↑(z0l g_i g_s n (0:Nat)).length:Int)) = true ->
 ((0:Int) <= (↑g:Int)/\(↑g:Int) < (↑(z0l g_i g_s n (0:Nat)).length:Int)) /\
 (↑g:Int).toNat < (z0l g_i g_s n (0:Nat)).length /\
 ∀ (x:Int),
 (z0l g_i g_s n (0:Nat))[(↑g:Int).toNat]? = some x ->
 R = R /\
 (List.take g (z0l g_i g_s n (0:Nat))).length + (1:Nat) <= (1000000000:Nat) /\
 ∃ (g':Nat),
 g' <= (z0l g_i g_s n (0:Nat)).length /\
 (z0l g_i g_s n (0:Nat)).length - g' < (z0l g_i g_s n (0:Nat)).length - g /\
 (True /\
 True /\
 (↑(z0l g_i g_s n (0:Nat)).length:Int) = (↑(z0l g_i g_s n (0:Nat)).length:Int) /\
 IntKind.i64.wrap ((↑g:Int) + (1:Int)) = (↑g':Int)/\True) /\
 (True/\True) /\
 List.take g (z0l g_i g_s n (0:Nat)) ++ [x] = List.take g' (z0l g_i g_s n (0:Nat)) /\
 z0l g_i g_s n (0:Nat) = z0l g_i g_s n (0:Nat) /\
 R = R /\
 ((0:Int) = (0:Int)/\True) /\
 (n = n/\True) /\
 ((0:Nat) = (0:Nat)/\True) /\
 zb8 Int/\(g_n = g_n/\True/\True/\True/\True)/\g_l = g_l/\g_i = g_i/\g_s = g_s/\True) /\
 (decide ((↑g:Int) < (↑(z0l g_i g_s n (0:Nat)).length:Int)) = false ->
 (True/\True)/\List.take g (z0l g_i g_s n (0:Nat)) = z0l g_i g_s n (0:Nat)/\True))
theorem out20_q (g_n:Int) (g_l:List Arc) (g_i:List Int) (g_s:List Int) (n:Int) (ty1 ty2 ty3:TypeId):out20_E0 g_n g_l g_i g_s n ty1 ty2 ty3 = z3p TT out20_g (out20_I g_n g_l g_i g_s n) (out20_an g_n g_l g_i g_s n) Try.f78 [.ptr 0 0 0 0,.int .i64 n] [(0,.box false 117 [.int .i64 g_n,.row 1,.row 2,.row 3]),(1,.row false ty1 (.arcs g_l)),(2,.row false ty2 (.ints .i64 g_i)),(3,.row false ty3 (.ints .i64 g_s))] (out20_r g_n g_l g_i g_s n):=by kernel_rfl
theorem out20_E (g_n:Int) (g_l:List Arc) (g_i:List Int) (g_s:List Int) (n:Int) (ty1 ty2 ty3:TypeId) (hp:PieceOk g_n g_i g_s n 0):FVc TT out20_g (out20_I g_n g_l g_i g_s n) (out20_an g_n g_l g_i g_s n) Try.f78 [.ptr 0 0 0 0,.int .i64 n] [(0,.box false 117 [.int .i64 g_n,.row 1,.row 2,.row 3]),(1,.row false ty1 (.arcs g_l)),(2,.row false ty2 (.ints .i64 g_i)),(3,.row false ty3 (.ints .i64 g_s))] (out20_r g_n g_l g_i g_s n):=by
 refine FVc.of (out20_E0 g_n g_l g_i g_s n ty1 ty2 ty3) (out20_q g_n g_l g_i g_s n ty1 ty2 ty3) ?_
 unfold out20_E0
 simp only [eq_self,exists_const,forall_const,decide_eq_true_eq,decide_eq_false_iff_not,and_true,true_and,bne_iff_ne,ne_eq,bne_eq_false_iff_eq,Int.toNat_natCast,Bool.not_eq_true',Bool.not_eq_false',beq_iff_eq,beq_eq_false_iff_ne,z09]
 obtain ⟨n0,n1,gn1,il,sl,a,b,c⟩:=hp
 have e1:IntKind.i64.wrap (IntKind.i64.wrap (2 * n) + 0) = ((2 * n.toNat + 0:Nat):Int):=by rw [w64 (x:=2 * n) (by omega) (by omega),w64 (by omega) (by omega)]; omega
 have e2:IntKind.i64.wrap (((2 * n.toNat + 0:Nat):Int) + 1) = ((2 * n.toNat + 0 + 1:Nat):Int):=by rw [w64 (by omega) (by omega)]; omega
 simp only [e1,e2,Int.toNat_natCast]
 refine ⟨fun h=>?_,fun _=>⟨by omega,by omega,fun x hx=>⟨by omega,by omega,fun y hy=>?_⟩⟩⟩
 ·simp [n0,n1] at h
 have ex:g_s.getD (2 * n.toNat + 0) 0 = x:=by rw [List.getD_eq_getElem?_getD,hx]; rfl
 have ey:g_s.getD (2 * n.toNat + 0 + 1) 0 = y:=by rw [List.getD_eq_getElem?_getD,hy]; rfl
 have hP:z0l g_i g_s n 0 = (g_i.take y.toNat).drop x.toNat:=by unfold z0l; rw [ex,ey]
 have hl:(z0l g_i g_s n 0).length <= g_i.length:=by rw [hP,List.length_drop,List.length_take]; omega
 rw [ex] at a b
 rw [ey] at b c
 rw [<- hP]
 generalize z0l g_i g_s n 0 = P at *
 refine ⟨by omega,0,⟨Nat.zero_le _,⟨rfl,rfl⟩,rfl,rfl⟩,fun k hk=>⟨fun h=>⟨by omega,by omega,fun z hz=>⟨by rw [List.length_take]; omega,k + 1,by omega,by omega,by rw [w64 (by omega) (by omega)]; omega,(z2h hz).symm⟩⟩,fun h=>List.take_of_length_le (by omega)⟩⟩
theorem out20_i0_ok (g_n:Int) (g_l:List Arc) (g_i:List Int) (g_s:List Int) (n:Int):zkj Try.prog 141 (out20_i0 g_n g_l g_i g_s n) :=
 inlI_ok z0v (show z1w Try.prog out20_i0g from z02 has_ok (z06)) (by kernel_rfl) mixedOrders Try.func141 rfl rfl (fun key spec=>by kernel_rfl) _
theorem out20_ok:SpecOk Try.prog out20_n true (z04 true out20_fs) :=
 z0b z0v (show z1w Try.prog out20_g from z02 piece20_ok (z06)) (by kernel_rfl) mixedOrders Try.func78 rfl rfl (by kernel_rfl) (n:=2) (by decide +kernel) (I:=out20_IA) (fun args h=>by
   unfold out20_IA
   split
   ·exact isOk_cons (out20_i0_ok _ _ _ _ _) (z07)
   ·exact z07) (A:=out20_A)
  (fun args h r hr=>by
   unfold out20_fs at hr
   split at hr
   ·rename_i n g_n ty1 g_l ty2 g_i ty3 g_s; cases hr; refine ⟨rfl,fun hp=>?_⟩; have hE:=out20_E g_n g_l g_i g_s n ty1 ty2 ty3 hp; exact hE
   ·cases hr)
def in20_E0 (g_n : Int) (g_l : List Arc) (g_i : List Int) (g_s : List Int) (n : Int) (ty1 ty2 ty3 : TypeId) : Prop :=
      ∀ (R:Loop->Prop),
 True /\
 ((!(decide ((0:Int) <= n) && decide (n < g_n))) = true->(True/\True)/\[] = z0l g_i g_s n (1:Nat)/\True) /\
 ((!(decide ((0:Int) <= n) && decide (n < g_n))) = false ->
 ((0:Int) <= IntKind.i64.wrap (IntKind.i64.wrap ((2:Int) * n) + (1:Int))/\IntKind.i64.wrap (IntKind.i64.wrap ((2:Int) * n) + (1:Int)) < (↑g_s.length:Int)) /\
 (IntKind.i64.wrap (IntKind.i64.wrap ((2:Int) * n) + (1:Int))).toNat < g_s.length /\
 ∀ (x:Int),
 g_s[(IntKind.i64.wrap (IntKind.i64.wrap ((2:Int) * n) + (1:Int))).toNat]? = some x ->
 ((0:Int) <= IntKind.i64.wrap (IntKind.i64.wrap (IntKind.i64.wrap ((2:Int) * n) + (1:Int)) + (1:Int)) /\
 IntKind.i64.wrap (IntKind.i64.wrap (IntKind.i64.wrap ((2:Int) * n) + (1:Int)) + (1:Int)) < (↑g_s.length:Int)) /\
 (IntKind.i64.wrap (IntKind.i64.wrap (IntKind.i64.wrap ((2:Int) * n) + (1:Int)) + (1:Int))).toNat < g_s.length /\
 ∀ (x_1:Int),
 g_s[(IntKind.i64.wrap (IntKind.i64.wrap (IntKind.i64.wrap ((2:Int) * n) + (1:Int)) + (1:Int))).toNat]? = some x_1 ->
 ((0:Int) <= x/\x <= x_1/\x_1 <= x_1/\x_1 <= (↑g_i.length:Int)) /\
 ∃ (g0:Nat),
 (g0 <= (z0l g_i g_s n (1:Nat)).length /\
 (True /\
 True /\
 (↑(List.drop x.toNat (List.take x_1.toNat g_i)).length:Int) = (↑(z0l g_i g_s n (1:Nat)).length:Int) /\
 (0:Int) = (↑g0:Int)/\True) /\
 (True/\True) /\
 [] = List.take g0 (z0l g_i g_s n (1:Nat)) /\
 List.drop x.toNat (List.take x_1.toNat g_i) = z0l g_i g_s n (1:Nat) /\
 R = R /\
 ((1:Int) = (1:Int)/\True) /\
 (n = n/\True) /\
 ((0:Nat) = (0:Nat)/\True)/\zb8 Int/\(g_n = g_n/\True/\True/\True/\True)/\g_l = g_l/\g_i = g_i/\g_s = g_s/\True) /\
 ∀ (g:Nat),
 g <= (z0l g_i g_s n (1:Nat)).length ->
 (decide ((↑g:Int) < (↑(z0l g_i g_s n (1:Nat)).length:Int)) = true ->
 ((0:Int) <= (↑g:Int)/\(↑g:Int) < (↑(z0l g_i g_s n (1:Nat)).length:Int)) /\
 (↑g:Int).toNat < (z0l g_i g_s n (1:Nat)).length /\
 ∀ (x:Int),
 (z0l g_i g_s n (1:Nat))[(↑g:Int).toNat]? = some x ->
 R = R /\
 (List.take g (z0l g_i g_s n (1:Nat))).length + (1:Nat) <= (1000000000:Nat) /\
 ∃ (g':Nat),
 g' <= (z0l g_i g_s n (1:Nat)).length /\
 (z0l g_i g_s n (1:Nat)).length - g' < (z0l g_i g_s n (1:Nat)).length - g /\
 (True /\
 True /\
 (↑(z0l g_i g_s n (1:Nat)).length:Int) = (↑(z0l g_i g_s n (1:Nat)).length:Int) /\
 IntKind.i64.wrap ((↑g:Int) + (1:Int)) = (↑g':Int)/\True) /\
 (True/\True) /\
 List.take g (z0l g_i g_s n (1:Nat)) ++ [x] = List.take g' (z0l g_i g_s n (1:Nat)) /\
 z0l g_i g_s n (1:Nat) = z0l g_i g_s n (1:Nat) /\
 R = R /\
 ((1:Int) = (1:Int)/\True) /\
 (n = n/\True) /\
 ((0:Nat) = (0:Nat)/\True) /\
 zb8 Int/\(g_n = g_n/\True/\True/\True/\True)/\g_l = g_l/\g_i = g_i/\g_s = g_s/\True) /\
 (decide ((↑g:Int) < (↑(z0l g_i g_s n (1:Nat)).length:Int)) = false ->
 (True/\True)/\List.take g (z0l g_i g_s n (1:Nat)) = z0l g_i g_s n (1:Nat)/\True))
theorem in20_q (g_n:Int) (g_l:List Arc) (g_i:List Int) (g_s:List Int) (n:Int) (ty1 ty2 ty3:TypeId):in20_E0 g_n g_l g_i g_s n ty1 ty2 ty3 = z3p TT in20_g (in20_I g_n g_l g_i g_s n) (in20_an g_n g_l g_i g_s n) Try.f79 [.ptr 0 0 0 0,.int .i64 n] [(0,.box false 117 [.int .i64 g_n,.row 1,.row 2,.row 3]),(1,.row false ty1 (.arcs g_l)),(2,.row false ty2 (.ints .i64 g_i)),(3,.row false ty3 (.ints .i64 g_s))] (in20_r g_n g_l g_i g_s n):=by kernel_rfl
theorem in20_E (g_n:Int) (g_l:List Arc) (g_i:List Int) (g_s:List Int) (n:Int) (ty1 ty2 ty3:TypeId) (hp:PieceOk g_n g_i g_s n 1):FVc TT in20_g (in20_I g_n g_l g_i g_s n) (in20_an g_n g_l g_i g_s n) Try.f79 [.ptr 0 0 0 0,.int .i64 n] [(0,.box false 117 [.int .i64 g_n,.row 1,.row 2,.row 3]),(1,.row false ty1 (.arcs g_l)),(2,.row false ty2 (.ints .i64 g_i)),(3,.row false ty3 (.ints .i64 g_s))] (in20_r g_n g_l g_i g_s n):=by
 refine FVc.of (in20_E0 g_n g_l g_i g_s n ty1 ty2 ty3) (in20_q g_n g_l g_i g_s n ty1 ty2 ty3) ?_
 unfold in20_E0
 simp only [eq_self,exists_const,forall_const,decide_eq_true_eq,decide_eq_false_iff_not,and_true,true_and,bne_iff_ne,ne_eq,bne_eq_false_iff_eq,Int.toNat_natCast,Bool.not_eq_true',Bool.not_eq_false',beq_iff_eq,beq_eq_false_iff_ne,z09]
 obtain ⟨n0,n1,gn1,il,sl,a,b,c⟩:=hp
 have e1:IntKind.i64.wrap (IntKind.i64.wrap (2 * n) + 1) = ((2 * n.toNat + 1:Nat):Int):=by rw [w64 (x:=2 * n) (by omega) (by omega),w64 (by omega) (by omega)]; omega
 have e2:IntKind.i64.wrap (((2 * n.toNat + 1:Nat):Int) + 1) = ((2 * n.toNat + 1 + 1:Nat):Int):=by rw [w64 (by omega) (by omega)]; omega
 simp only [e1,e2,Int.toNat_natCast]
 refine ⟨fun h=>?_,fun _=>⟨by omega,by omega,fun x hx=>⟨by omega,by omega,fun y hy=>?_⟩⟩⟩
 ·simp [n0,n1] at h
 have ex:g_s.getD (2 * n.toNat + 1) 0 = x:=by rw [List.getD_eq_getElem?_getD,hx]; rfl
 have ey:g_s.getD (2 * n.toNat + 1 + 1) 0 = y:=by rw [List.getD_eq_getElem?_getD,hy]; rfl
 have hP:z0l g_i g_s n 1 = (g_i.take y.toNat).drop x.toNat:=by unfold z0l; rw [ex,ey]
 have hl:(z0l g_i g_s n 1).length <= g_i.length:=by rw [hP,List.length_drop,List.length_take]; omega
 rw [ex] at a b
 rw [ey] at b c
 rw [<- hP]
 generalize z0l g_i g_s n 1 = P at *
 refine ⟨by omega,0,⟨Nat.zero_le _,⟨rfl,rfl⟩,rfl,rfl⟩,fun k hk=>⟨fun h=>⟨by omega,by omega,fun z hz=>⟨by rw [List.length_take]; omega,k + 1,by omega,by omega,by rw [w64 (by omega) (by omega)]; omega,(z2h hz).symm⟩⟩,fun h=>List.take_of_length_le (by omega)⟩⟩
theorem in20_i0_ok (g_n:Int) (g_l:List Arc) (g_i:List Int) (g_s:List Int) (n:Int):zkj Try.prog 141 (in20_i0 g_n g_l g_i g_s n) :=
 inlI_ok z0v (show z1w Try.prog in20_i0g from z02 has_ok (z06)) (by kernel_rfl) mixedOrders Try.func141 rfl rfl (fun key spec=>by kernel_rfl) _
theorem in20_ok:SpecOk Try.prog in20_n true (z04 true in20_fs) :=
 z0b z0v (show z1w Try.prog in20_g from z02 piece20_ok (z06)) (by kernel_rfl) mixedOrders Try.func79 rfl rfl (by kernel_rfl) (n:=2) (by decide +kernel) (I:=in20_IA) (fun args h=>by
   unfold in20_IA
   split
   ·exact isOk_cons (in20_i0_ok _ _ _ _ _) (z07)
   ·exact z07) (A:=in20_A)
  (fun args h r hr=>by
   unfold in20_fs at hr
   split at hr
   ·rename_i n g_n ty1 g_l ty2 g_i ty3 g_s; cases hr; refine ⟨rfl,fun hp=>?_⟩; have hE:=in20_E g_n g_l g_i g_s n ty1 ty2 ty3 hp; exact hE
   ·cases hr)
end Go.Proofs.Ytggblkbecekbdaa
end
section
namespace Go.Ql
open Go Go.Vc
structure LowI (I:Inst) (a:Nat) (x o:List Int):Prop where
 over:OverOf I x o
 at_:∀ c,c < I.arcs.length->x.getD c 0 = if c < a then (z18 I c).low else 0
 bd:∀ v,v < I.sup.length->-(4398046511104 * (2 * (a:Int) + 1)) <= o.getD v 0/\o.getD v 0 <= 4398046511104 * (2 * (a:Int) + 1)
 pos:z56 o I.sup.length <= 4398046511104 * ((I.sup.length:Int) + a)
structure BuildP (I:Inst) (x o:List Int) (t:Rows3):Prop where
 low:LowI I I.arcs.length x o
 at_:AtOk I t
theorem netK_zero (n:Nat) (l:List Arc) {x:List Int} (h:∀ c,x.getD c 0 = 0) (v:Nat):∀ k,z2d n l x k v = 0
 | 0=>rfl
 | k + 1=>by
  rw [z2d,netK_zero n l h v k]
  unfold z3q
  rw [h]
  simp
def z60 (I:Inst) (n:Nat):List Nat:=segA I I.arcs.length (2 * n)
def z8q (I:Inst) (n:Nat):List Nat:=segA I I.arcs.length (2 * n + 1)
def fwd (l:List Nat):List Stp:=l.map fun a=>(a,false)
def bwd (l:List Nat):List Stp:=l.map fun a=>(a,true)
def stpsF (I:Inst) (n:Nat):List Stp:=fwd (z60 I n) ++ bwd (z8q I n)
def z2a (I:Inst) (n:Nat) (q:List Stp):List (List (List Int)):=(List.range I.sup.length).map fun u=>(if u < n then stpsF I u else if u = n then q else []).map z6u
theorem z7n (I:Inst) (n:Nat) (q:List Stp):(z2a I n q).length = I.sup.length:=by simp [z2a]
theorem z7m {I:Inst} {n:Nat} {q:List Stp} {u:Nat} (h:u < I.sup.length):(z2a I n q)[u]? = some ((if u < n then stpsF I u else if u = n then q else []).map z6u):=by
 unfold z2a; rw [List.getElem?_map,List.getElem?_range h]; rfl
theorem stpsK_zero (I:Inst):List.replicate I.sup.length [] = z2a I 0 []:=by
 refine List.ext_getElem? fun t=>?_
 by_cases h:t < I.sup.length
 ·rw [z7m h,List.getElem?_replicate,if_pos h,if_neg (Nat.not_lt_zero _)]
  split <;> rfl
 ·rw [List.getElem?_eq_none (by simp; omega),List.getElem?_eq_none (by rw [z7n]; omega)]
theorem stpsK_set {I:Inst} {n:Nat} {q:List Stp} (s:Stp) {r:List (List Int)} (hr:(z2a I n q)[n]? = some r):(z2a I n q).set n (r ++ [z6u s]) = z2a I n (q ++ [s]):=by
 have hn:n < I.sup.length:=by have:=(List.getElem?_eq_some_iff.1 hr).1; rwa [z7n] at this
 rw [z7m hn,if_neg (Nat.lt_irrefl _),if_pos rfl] at hr
 cases hr
 refine List.ext_getElem? fun t=>?_
 rw [List.getElem?_set,z7n]
 by_cases h:t < I.sup.length
 ·by_cases e:n = t
  ·subst e
   rw [if_pos rfl,if_pos hn,z7m h,if_neg (Nat.lt_irrefl _),if_pos rfl,List.map_append]; rfl
  ·rw [if_neg e,z7m h,z7m h]
   by_cases h2:t < n
   ·rw [if_pos h2,if_pos h2]
   ·rw [if_neg h2,if_neg h2,if_neg (fun x=>e x.symm),if_neg (fun x=>e x.symm)]
 ·rw [if_neg (by omega),List.getElem?_eq_none (by rw [z7n]; omega),List.getElem?_eq_none (by rw [z7n]; omega)]
theorem stpsK_next (I:Inst) (n:Nat):z2a I n (stpsF I n) = z2a I (n + 1) []:=by
 unfold z2a
 refine List.map_congr_left fun u _=>?_
 by_cases h:u < n
 ·rw [if_pos h,if_pos (by omega)]
 ·rw [if_neg h]
  by_cases e:u = n
  ·subst e; rw [if_pos rfl,if_pos (Nat.lt_succ_self _)]
  ·rw [if_neg e,if_neg (by omega)]
   split <;> rfl
theorem fm_len {F:Nat->List Int} {S:Nat->Nat} (h0:S 0 = 0) (hS:∀ k,S (k + 1) = S k + (F k).length):∀ n,((List.range n).flatMap F).length = S n
 | 0=>by simp [h0]
 | n + 1=>by rw [List.range_succ,List.flatMap_append,List.length_append,fm_len h0 hS n,hS]; simp
theorem fm_piece {F:Nat->List Int} {S:Nat->Nat} (h0:S 0 = 0) (hS:∀ k,S (k + 1) = S k + (F k).length) {j:Nat}:∀ n,j < n->(((List.range n).flatMap F).take (S (j + 1))).drop (S j) = F j
 | 0,h=>by omega
 | n + 1,h=>by
  have hl:=fm_len h0 hS n
  rw [List.range_succ,List.flatMap_append]
  by_cases e:j = n
  ·subst e
   rw [List.take_of_length_le (by rw [List.length_append,hl,hS]; simp),<- hl,List.drop_append]
   simp
  ·have hm:∀ d k,S k <= S (k + d):=fun d k=>by
    induction d with
    | zero=>exact Nat.le_refl _
    | succ d ih=>rw [<- Nat.add_assoc,hS]; omega
   have:=hm (n - (j + 1)) (j + 1)
   rw [show j + 1 + (n - (j + 1)) = n by omega] at this
   rw [List.take_append_of_le_length (by omega)]
   exact fm_piece h0 hS n (by omega)
theorem z6a {I:Inst} {j:Nat} (h:j <= 2 * I.sup.length):(z1i I).getD j 0 = (zab I j:Int):=by
 unfold z1i
 rw [List.getD_eq_getElem?_getD,List.getElem?_map,List.getElem?_range (by omega)]; rfl
theorem piece_is {I:Inst} {n w:Nat} (hn:n < I.sup.length) (hw:w <= 1):z0l (z4p I) (z1i I) (n:Int) w = z4h (segA I I.arcs.length (2 * n + w)):=by
 unfold z0l
 rw [Int.toNat_natCast,z6a (by omega),z6a (by omega),Int.toNat_natCast,Int.toNat_natCast]
 unfold z4p z4h
 exact fm_piece (S:=zab I) rfl (fun k=>by rw [zab,List.length_map]; rfl) _ (by omega)
theorem sumA_len (I:Inst):(z4p I).length = zab I (2 * I.sup.length):=by
 unfold z4p
 exact fm_len (S:=zab I) rfl (fun k=>by rw [zab,List.length_map]; rfl) _
theorem piece_ok {I:Inst} (hr:z03 I = 0) {n w:Nat} (hn:n < I.sup.length) (hw:w <= 1):PieceOk I.sup.length (z4p I) (z1i I) (n:Int) w:=by
 have hs:=z0c hr
 have h1:=zbx I (2 * n + w) 1
 have h2:=zbx I (2 * n + w + 1) (2 * I.sup.length - (2 * n + w + 1))
 rw [show 2 * n + w + 1 + (2 * I.sup.length - (2 * n + w + 1)) = 2 * I.sup.length by omega] at h2
 have h3:=sumA_le I (2 * I.sup.length)
 have h4:2 * I.sup.length * I.arcs.length <= 128 * 256:=Nat.mul_le_mul (by omega) (by omega)
 have h5:=sumA_len I
 refine ⟨by omega,by omega,by omega,by omega,by simp [z1i]; omega,?_,?_,?_⟩
 ·rw [Int.toNat_natCast,z6a (by omega)]; omega
 ·rw [Int.toNat_natCast,z6a (by omega),z6a (by omega)]; omega
 ·rw [Int.toNat_natCast,z6a (by omega)]; omega
theorem segA_mem {I:Inst} (hr:z03 I = 0) {n a:Nat}:(a ∈ z60 I n ↔ a < I.arcs.length/\(z18 I a).src = n)/\(a ∈ z8q I n ↔ a < I.arcs.length/\(z18 I a).dst = n):=by
 have ok:∀ a,a < I.arcs.length->z2l I.sup.length (z18 I a) = true:=fun a ha=>by
  have:=z1x hr ha
  have q1:=this.s0; have q2:=this.s1; have q3:=this.d0; have q4:=this.d1
  exact okArc_iff.2 ⟨q1,by omega,q3,by omega⟩
 have e:∀ j,inK I j a = (z2l I.sup.length (z18 I a) && hasK (z18 I a) j):=fun _=>rfl
 unfold z60 z8q segA
 rw [List.mem_filter,List.mem_filter,List.mem_range,e,e]
 refine ⟨⟨fun h=>⟨h.1,?_⟩,fun h=>⟨h.1,?_⟩⟩,⟨fun h=>⟨h.1,?_⟩,fun h=>⟨h.1,?_⟩⟩⟩
 ·have h2:=h.2
  rw [ok a h.1,Bool.true_and,hasK_iff] at h2
  omega
 ·rw [ok a h.1,Bool.true_and,hasK_iff]; left; omega
 ·have h2:=h.2
  rw [ok a h.1,Bool.true_and,hasK_iff] at h2
  omega
 ·rw [ok a h.1,Bool.true_and,hasK_iff]; right; omega
theorem steps_ok {I:Inst} (hr:z03 I = 0):AtOk I (z2a I I.sup.length []):=by
 have hs:=z0c hr
 refine ⟨z7n _ _ _,fun u hu=>⟨stpsF I u,by rw [z7m hu,if_pos hu],?_,fun s=>?_⟩⟩
 ·have h1:=zaq I (2 * u) I.arcs.length
  have h2:=zaq I (2 * u + 1) I.arcs.length
  unfold z7u at h1 h2
  unfold stpsF fwd bwd z60 z8q
  rw [List.length_append,List.length_map,List.length_map]
  omega
 ·obtain ⟨a,k⟩:=s
  have hm:=@segA_mem I hr u a
  unfold stpsF fwd bwd okS frS
  rw [List.mem_append,List.mem_map,List.mem_map]
  dsimp only
  constructor
  ·rintro (⟨b,hb,he⟩ | ⟨b,hb,he⟩)
   ·cases he
    obtain ⟨q1,q2⟩:=hm.1.1 hb
    exact ⟨q1,by rw [if_neg (by simp)]; omega⟩
   ·cases he
    obtain ⟨q1,q2⟩:=hm.2.1 hb
    exact ⟨q1,by rw [if_pos rfl]; omega⟩
  ·rintro ⟨h1,h2⟩
   have ha:=z1x hr h1
   have:=ha.s0; have:=ha.d0
   cases k with
   | false =>
    rw [if_neg (by simp)] at h2
    exact .inl ⟨a,hm.1.2 ⟨h1,by omega⟩,rfl⟩
   | true =>
    rw [if_pos rfl] at h2
    exact .inr ⟨a,hm.2.2 ⟨h1,by omega⟩,rfl⟩
theorem LowI.begin {I:Inst} (hr:z03 I = 0):LowI I 0 (List.replicate I.arcs.length 0) I.sup:=by
 have hz:∀ c,(List.replicate I.arcs.length (0:Int)).getD c 0 = 0:=fun c=>by
  rw [List.getD_eq_getElem?_getD,List.getElem?_replicate]; split <;> rfl
 refine ⟨⟨rfl,by simp,fun v hv=>by rw [netK_zero _ _ hz]; omega⟩,fun c _=>by rw [hz,if_neg (Nat.not_lt_zero _)],fun v hv=>?_,?_⟩
 ·have hm:I.sup.getD v 0 ∈ I.sup:=by rw [List.getD_eq_getElem?_getD,List.getElem?_eq_getElem hv]; exact List.getElem_mem hv
  have:=(z1v hr).1 _ hm
  omega
 ·have:∀ k,k <= I.sup.length->z56 I.sup k <= 4398046511104 * (k:Int):=fun k=>by
   induction k with
   | zero=>intro _; simp [z56]
   | succ k ih =>
    intro hk
    have h1:=ih (by omega)
    have hm:I.sup.getD k 0 ∈ I.sup:=by rw [List.getD_eq_getElem?_getD,List.getElem?_eq_getElem hk]; exact List.getElem_mem hk
    have h2:=(z1v hr).1 _ hm
    rw [z56]
    have e:((k + 1:Nat):Int) = k + 1:=by omega
    rw [e]
    omega
  have:=this _ (Nat.le_refl _)
  have e:((0:Nat):Int) = 0:=rfl
  rw [e]
  omega
theorem LowI.next {I:Inst} (hr:z03 I = 0) {a:Nat} {x o:List Int} (h:LowI I a x o) (ha:a < I.arcs.length):LowI I (a + 1) (z5i x (a,false) (z18 I a).low) (z7r I o (a,false) (z18 I a).low):=by
 have hk:=z1x hr ha
 have hl0:=hk.l0; have hl1:=hk.l1
 refine ⟨h.over.push hr (s:=(a,false)) ha _,fun c hc=>?_,fun v hv=>?_,?_⟩
 ·rw [z9w (by rw [h.over.lx]; exact ha),h.at_ c hc]
  by_cases e:c = a
  ·subst e; rw [if_neg (Nat.lt_irrefl _),if_pos rfl,if_pos (Nat.lt_succ_self _)]; simp
  ·rw [if_neg (show ¬ c = ((a,false):Stp).1 from e)]
   by_cases h2:c < a
   ·rw [if_pos h2,if_pos (by omega)]; omega
   ·rw [if_neg h2,if_neg (by omega)]; rfl
 ·have:=h.bd v hv
  rw [zfc (by rw [h.over.lo]; exact hv)]
  have e:((a + 1:Nat):Int) = a + 1:=by omega
  rw [e]
  repeat' split <;> omega
 ·have:=posS_push hr h.over.lo (s:=(a,false)) ha hl0
  have:=h.pos
  have e:((a + 1:Nat):Int) = a + 1:=by omega
  rw [e]
  omega
theorem LowI.xb {I:Inst} (hr:z03 I = 0) {a:Nat} {x o:List Int} (h:LowI I a x o) (ha:a <= I.arcs.length):XB x/\XB o:=by
 have hs:=z0c hr
 refine ⟨xb_of fun k hk=>?_,xb_of fun k hk=>?_⟩
 ·have hk2:k < I.arcs.length:=by rw [<- h.over.lx]; exact hk
  have:=z1x hr hk2
  have:=this.l0; have:=(z1x hr hk2).l1
  rw [h.at_ k hk2]
  split <;> omega
 ·have:=h.bd k (by rw [<- h.over.lo]; exact hk)
  omega
end Go.Ql
end
section
namespace Go.Proofs.Ytggblkbecekbdaa
open Go Go.RowKit Go.Ql Go.Vc
def zl4 (I:Inst):FRel:={ pre:=z03 I = 0,G:=(List Int) × (List Int) × (Rows3),post:=fun ⟨x,o,t⟩=>BuildP I x o t,out:=fun ⟨x,o,t⟩=>{ pre:=True,res:=.ptr 2 0 0 0,rows:=[.box 105 [.row 0,.row 1,.row 3,.row 4,.row 5],.row 2 (.ints .i64 x),.row 2 (.ints .i64 o),.deep 131 129 (.recs (.int .i64) [.bool] t)],eff:=[] } }
def zgy:FR:=fun args h=>match args,h with
 | [.agg [.row 0,.row 1]],[(0,.row false ty0 (.ints .i64 I_s)),(1,.row false ty1 (.arcs I_a))]=>some (zl4 ⟨I_s,I_a⟩)
 | _,_=>none
def zgx (I:Inst):List (Nat × Ann):=[(1000002,{ G:=(List Value),inv:=fun vs=>⟨[(1,.ptr 2 0 0 0),(3,.ptr 12 0 0 0)],[(2,.box true 30 [.row 0,.row 1]),(12,.box true 105 [.row 0,.row 1,.row 3,.row 5,.row 6]),(0,.row false 0 (.ints .i64 I.sup)),(1,.row false 0 (.arcs I.arcs)),(3,.row true 2 (.ints .i64 (List.replicate I.arcs.length 0))),(5,.row true 2 (.ints .i64 I.sup)),(6,.deep true 131 129 (.recs (.int .i64) [.bool] (z2a I 0 [])) vs none)],13⟩,rel:=fun vs0 vs=>True,meas:=fun vs=>0 }),
 (3,{ G:=(Nat) × (List Int) × (List Int) × (List Value),inv:=fun ⟨a,x,o,vs⟩=>⟨[(1,.ptr 2 0 0 0),(3,.ptr 12 0 0 0),(27,.row 1),(28,.int .i64 (I.arcs.length:Int)),(29,.int .i64 a)],[(2,.box true 30 [.row 0,.row 1]),(12,.box true 105 [.row 0,.row 1,.row 3,.row 5,.row 6]),(0,.row false 0 (.ints .i64 I.sup)),(1,.row false 0 (.arcs I.arcs)),(3,.row true 2 (.ints .i64 x)),(5,.row true 2 (.ints .i64 o)),(6,.deep true 131 129 (.recs (.int .i64) [.bool] (z2a I 0 [])) vs none)],13⟩,rel:=fun ⟨a0,x0,o0,vs0⟩ ⟨a,x,o,vs⟩=>a <= I.arcs.length/\LowI I a x o,meas:=fun ⟨a,x,o,vs⟩=>I.arcs.length - a }),
 (9,{ G:=(Nat) × (List Int) × (List Int) × (List Value),inv:=fun ⟨n,x,o,vs⟩=>⟨[(3,.ptr 12 0 0 0),(6,.ptr 13 0 0 0),(45,.int .i64 (I.sup.length:Int)),(46,.int .i64 n)],[(13,.box true 117 [.int .i64 (↑I.sup.length:Int),.row 14,.row 15,.row 16]),(14,.row true 50 (.arcs I.arcs)),(15,.row true 3 (.ints .i64 (z4p I))),(16,.row true 3 (.ints .i64 (z1i I))),(12,.box true 105 [.row 0,.row 1,.row 3,.row 5,.row 6]),(0,.row false 0 (.ints .i64 I.sup)),(1,.row false 0 (.arcs I.arcs)),(3,.row true 2 (.ints .i64 x)),(5,.row true 2 (.ints .i64 o)),(6,.deep true 131 129 (.recs (.int .i64) [.bool] (z2a I n [])) vs none)],17⟩,rel:=fun ⟨n0,x0,o0,vs0⟩ ⟨n,x,o,vs⟩=>x = x0/\o = o0/\n <= I.sup.length,meas:=fun ⟨n,x,o,vs⟩=>I.sup.length - n }),
 (12,{ G:=(Nat) × (Nat) × (List Int) × (List Int) × (List Value),inv:=fun ⟨n,k,x,o,vs⟩=>⟨[(3,.ptr 12 0 0 0),(6,.ptr 13 0 0 0),(45,.int .i64 (I.sup.length:Int)),(46,.int .i64 n),(7,.int .i64 n),(51,.row 17),(52,.int .i64 ((z60 I n).length:Int)),(53,.int .i64 k)],[(17,.row true 3 (.ints .i64 (z4h (z60 I n)))),(13,.box true 117 [.int .i64 (↑I.sup.length:Int),.row 14,.row 15,.row 16]),(14,.row true 50 (.arcs I.arcs)),(15,.row true 3 (.ints .i64 (z4p I))),(16,.row true 3 (.ints .i64 (z1i I))),(12,.box true 105 [.row 0,.row 1,.row 3,.row 5,.row 6]),(0,.row false 0 (.ints .i64 I.sup)),(1,.row false 0 (.arcs I.arcs)),(3,.row true 2 (.ints .i64 x)),(5,.row true 2 (.ints .i64 o)),(6,.deep true 131 129 (.recs (.int .i64) [.bool] (z2a I n (fwd ((z60 I n).take k)))) vs none)],18⟩,rel:=fun ⟨n0,k0,x0,o0,vs0⟩ ⟨n,k,x,o,vs⟩=>x = x0/\o = o0/\n = n0/\k <= (z60 I n).length,meas:=fun ⟨n,k,x,o,vs⟩=>(z60 I n).length - k }),
 (17,{ G:=(Nat) × (Nat) × (List Int) × (List Int) × (List Value),inv:=fun ⟨n,k,x,o,vs⟩=>⟨[(3,.ptr 12 0 0 0),(6,.ptr 13 0 0 0),(45,.int .i64 (I.sup.length:Int)),(46,.int .i64 n),(7,.int .i64 n),(77,.row 18),(78,.int .i64 ((z8q I n).length:Int)),(79,.int .i64 k)],[(18,.row true 3 (.ints .i64 (z4h (z8q I n)))),(13,.box true 117 [.int .i64 (↑I.sup.length:Int),.row 14,.row 15,.row 16]),(14,.row true 50 (.arcs I.arcs)),(15,.row true 3 (.ints .i64 (z4p I))),(16,.row true 3 (.ints .i64 (z1i I))),(12,.box true 105 [.row 0,.row 1,.row 3,.row 5,.row 6]),(0,.row false 0 (.ints .i64 I.sup)),(1,.row false 0 (.arcs I.arcs)),(3,.row true 2 (.ints .i64 x)),(5,.row true 2 (.ints .i64 o)),(6,.deep true 131 129 (.recs (.int .i64) [.bool] (z2a I n (fwd (z60 I n) ++ bwd ((z8q I n).take k)))) vs none)],19⟩,rel:=fun ⟨n0,k0,x0,o0,vs0⟩ ⟨n,k,x,o,vs⟩=>x = x0/\o = o0/\n = n0/\k <= (z8q I n).length,meas:=fun ⟨n,k,x,o,vs⟩=>(z8q I n).length - k })]
def build20_A:List SV->z0f->List (Nat × Ann):=fun args h=>match args,h with
 | [.agg [.row 0,.row 1]],[(0,.row false ty0 (.ints .i64 I_s)),(1,.row false ty1 (.arcs I_a))]=>zgx ⟨I_s,I_a⟩
 | _,_=>[]
def zl3:z0d:=[(zjt,(false,z04 false zbd)),(New_n,(true,z04 true New_fs)),(out20_n,(true,z04 true out20_fs)),(in20_n,(true,z04 true in20_fs))]
abbrev build20_n:Nat:=47
def build20_I (I:Inst):List (Nat × z0a):=[]
def build20_IA:List SV->z0f->List (Nat × z0a):=fun _ _=>[]
end Go.Proofs.Ytggblkbecekbdaa
end
section
namespace Go.Proofs.Ytggblkbecekbdaa
open Go Go.RowKit Go.Ql Go.Vc
abbrev z30:=Nat × Nat × List Int × List Int × List Value
abbrev z5v:=Nat × List Int × List Int × List Value
abbrev z12 (I:Inst):=(∃ (g:List Value),True/\((0 = 0/\(0 = 0/\True))/\((True/\(True/\True))/\((True/\(True/\(True/\(True/\(True/\True)))))/\(I.sup = I.sup/\(I.arcs = I.arcs/\(List.replicate (↑I.arcs.length:Int).toNat (0:Int) = List.replicate I.arcs.length (0:Int)/\(I.sup = I.sup/\((List.replicate (↑I.sup.length:Int).toNat [] = z2a I (0:Nat) []/\(List.replicate (↑I.sup.length:Int).toNat (Value.slice none (0:Nat) (0:Nat)) = g/\((none:Option Nat) = none)))/\True)))))))))
abbrev z0s (I:Inst):=((↑I.arcs.length:Int) = ↑I.arcs.length/\((0:Int) <= ↑I.arcs.length/\((↑I.arcs.length:Int) <= 1000000000)))
abbrev z0p (I:Inst):=((↑I.sup.length:Int) = ↑I.sup.length/\((0:Int) <= ↑I.sup.length/\((↑I.sup.length:Int) <= 1000000000)))
abbrev zc5 (x_1:List (List Int)) (g_2:z30) (I:Inst) (g0_2:z30) (x:Int):=(x_1.length + (1:Nat) <= 1000000000/\(((0:Int) <= ↑g_2.1/\((↑g_2.1:Int) < ↑(DK.recs (MK.int IntKind.i64) [MK.bool] (z2a I g_2.1 (fwd (z60 I g_2.1) ++ bwd (List.take g_2.2.1 (z8q I g_2.1))))).len))/\((↑g_2.1:Int).toNat = (↑g_2.1:Int).toNat/\((↑g_2.1:Int).toNat < (z2a I g_2.1 (fwd (z60 I g_2.1) ++ bwd (List.take g_2.2.1 (z8q I g_2.1)))).length/\(∀ (u:Value),∃ (g':z30),(g'.2.2.fst = g0_2.2.2.fst/\(g'.2.2.2.fst = g0_2.2.2.2.fst/\(g'.fst = g0_2.fst/\(g'.2.fst <= (z8q I g'.fst).length))))/\((z8q I g'.fst).length - g'.2.fst < (z8q I g_2.fst).length - g_2.2.fst/\((0 = 0/\(0 = 0/\((↑I.sup.length:Int) = ↑I.sup.length/\((↑g_2.1:Int) = ↑g'.1/\((↑g_2.1:Int) = ↑g'.1/\(True/\((↑(z8q I g_2.1).length:Int) = ↑(z8q I g'.1).length/\(IntKind.i64.wrap ((↑g_2.2.1:Int) + (1:Int)) = (↑g'.2.1:Int)/\True))))))))/\(z4h (z8q I g_2.1) = z4h (z8q I g'.1)/\(((↑I.sup.length:Int) = ↑I.sup.length/\(True/\(True/\(True/\True))))/\(I.arcs = I.arcs/\(z4p I = z4p I/\(z1i I = z1i I/\((True/\(True/\(True/\(True/\(True/\True)))))/\(I.sup = I.sup/\(I.arcs = I.arcs/\(g_2.2.2.1 = g'.2.2.1/\(g_2.2.2.2.1 = g'.2.2.2.1/\(((z2a I g_2.1 (fwd (z60 I g_2.1) ++ bwd (List.take g_2.2.1 (z8q I g_2.1)))).set (↑g_2.1:Int).toNat (x_1 ++ [[x,bif true then (1:Int) else (0:Int)]]) = z2a I g'.1 (fwd (z60 I g'.1) ++ bwd (List.take g'.2.1 (z8q I g'.1)))/\(g_2.2.2.2.2.set (↑g_2.1:Int).toNat u = g'.2.2.2.2/\((none:Option Nat) = none)))/\True))))))))))))))))))
abbrev zc6 (x_1:List (List Int)) (g_1:z30) (I:Inst) (g0_1:z30) (x:Int):=(x_1.length + (1:Nat) <= 1000000000/\(((0:Int) <= ↑g_1.1/\((↑g_1.1:Int) < ↑(DK.recs (MK.int IntKind.i64) [MK.bool] (z2a I g_1.1 (fwd (List.take g_1.2.1 (z60 I g_1.1))))).len))/\((↑g_1.1:Int).toNat = (↑g_1.1:Int).toNat/\((↑g_1.1:Int).toNat < (z2a I g_1.1 (fwd (List.take g_1.2.1 (z60 I g_1.1)))).length/\(∀ (u:Value),∃ (g':z30),(g'.2.2.fst = g0_1.2.2.fst/\(g'.2.2.2.fst = g0_1.2.2.2.fst/\(g'.fst = g0_1.fst/\(g'.2.fst <= (z60 I g'.fst).length))))/\((z60 I g'.fst).length - g'.2.fst < (z60 I g_1.fst).length - g_1.2.fst/\((0 = 0/\(0 = 0/\((↑I.sup.length:Int) = ↑I.sup.length/\((↑g_1.1:Int) = ↑g'.1/\((↑g_1.1:Int) = ↑g'.1/\(True/\((↑(z60 I g_1.1).length:Int) = ↑(z60 I g'.1).length/\(IntKind.i64.wrap ((↑g_1.2.1:Int) + (1:Int)) = (↑g'.2.1:Int)/\True))))))))/\(z4h (z60 I g_1.1) = z4h (z60 I g'.1)/\(((↑I.sup.length:Int) = ↑I.sup.length/\(True/\(True/\(True/\True))))/\(I.arcs = I.arcs/\(z4p I = z4p I/\(z1i I = z1i I/\((True/\(True/\(True/\(True/\(True/\True)))))/\(I.sup = I.sup/\(I.arcs = I.arcs/\(g_1.2.2.1 = g'.2.2.1/\(g_1.2.2.2.1 = g'.2.2.2.1/\(((z2a I g_1.1 (fwd (List.take g_1.2.1 (z60 I g_1.1)))).set (↑g_1.1:Int).toNat (x_1 ++ [[x,bif false then (1:Int) else (0:Int)]]) = z2a I g'.1 (fwd (List.take g'.2.1 (z60 I g'.1)))/\(g_1.2.2.2.2.set (↑g_1.1:Int).toNat u = g'.2.2.2.2/\((none:Option Nat) = none)))/\True))))))))))))))))))
abbrev z2z (I:Inst):=(((z0s I)/\((z0p I)/\(z12 I)))/\((z0p I)/\((z0s I)/\(z12 I))))
abbrev z5t (I:Inst):=((0:Nat) + I.sup.length <= (1000000000:Nat)/\(z12 I))
abbrev z52 (I:Inst):=(((0:Nat) + I.sup.length <= (1000000000:Nat)/\((z0p I)/\(z12 I)))/\((z0p I)/\(z5t I)))
abbrev z5u (I:Inst):=(((z0s I)/\(z5t I))/\((0:Nat) + I.sup.length <= (1000000000:Nat)/\((z0s I)/\(z12 I))))
abbrev z3k (I:Inst):=(((z0p I)/\(z12 I))/\((z0p I)/\(z12 I)))
abbrev z2u (I:Inst):=(((z0s I)/\(z12 I))/\((z0s I)/\(z12 I)))
abbrev zdm (I:Inst):=(((z0s I)/\(((0:Nat) + I.sup.length <= (1000000000:Nat)/\((z0p I)/\(z12 I)))/\(z52 I)))/\((0:Nat) + I.sup.length <= (1000000000:Nat)/\(((z0s I)/\((z0p I)/\(z12 I)))/\(z2z I)))/\((z0s I)/\(z52 I))/\((0:Nat) + I.sup.length <= (1000000000:Nat)/\(z2z I))/\((z0p I)/\(z5u I)))
abbrev z71 (I:Inst):=(((z0s I)/\(z52 I))/\((0:Nat) + I.sup.length <= (1000000000:Nat)/\(z2z I))/\((z0p I)/\(z5u I)))
abbrev z4w (I:Inst):=((z2z I)/\((z0p I)/\((z0s I)/\(z12 I))))
abbrev z3t:=(True/\(True/\(True/\(True/\(True/\True)))))
abbrev z9h (I:Inst):=(((z0s I)/\((z5t I)/\(z5t I)))/\((0:Nat) + I.sup.length <= (1000000000:Nat)/\(z2u I)))
abbrev z9i (I:Inst):=(((0:Nat) + I.sup.length <= (1000000000:Nat)/\(z3k I))/\((z0p I)/\((z5t I)/\(z5t I))))
abbrev z9j (I:Inst):=((z5u I)/\((0:Nat) + I.sup.length <= (1000000000:Nat)/\((z0s I)/\(z12 I))))
abbrev z72 (I:Inst):=((↑I.sup.length:Int) = ↑I.sup.length/\(True/\(True/\(True/\True))))
abbrev z73 (I:Inst):=(((z0s I)/\((z0p I)/\(z12 I)))/\(z2z I))
abbrev zdn (I:Inst):=((0:Nat) + I.sup.length <= (1000000000:Nat)/\(z2z I)/\((z0s I)/\(z3k I))/\((z0p I)/\(z2u I)))
def zgw (I : Inst) (ty0 ty1 : TypeId) : Prop :=
   (((zdm I)/\((0:Nat) + I.sup.length <= (1000000000:Nat)/\(z73 I)/\(z4w I))/\(z71 I)/\((0:Nat) + I.sup.length <= (1000000000:Nat)/\(z4w I))/\((z0p I)/\(z9j I)))/\((zdm I)/\((z0s I)/\(((0:Nat) + I.sup.length <= (1000000000:Nat)/\((z0p I)/\(z12 I)))/\(z52 I))/\((0:Nat) + I.sup.length <= (1000000000:Nat)/\(((z0p I)/\(z12 I))/\(z3k I)))/\(z52 I)/\(z9i I))/\((0:Nat) + I.sup.length <= (1000000000:Nat)/\(z73 I)/\((z0s I)/\(((z0p I)/\(z12 I))/\(z3k I)))/\(z2z I)/\((z0s I)/\(z3k I))/\((z0p I)/\(z2u I)))/\(z71 I)/\((z0s I)/\(z52 I)/\(z9i I))/\(zdn I)/\(z0p I)/\(z5u I)/\(z9h I))/\((0:Nat) + I.sup.length <= (1000000000:Nat)/\((z73 I)/\(z4w I))/\((z73 I)/\((z0s I)/\(((z0p I)/\(z12 I))/\(z3k I)))/\(z2z I)/\((z0s I)/\(z3k I))/\((z0p I)/\(z2u I)))/\(z4w I)/\((z2z I)/\((z0s I)/\(z3k I))/\((z0p I)/\(z2u I)))/\((z0p I)/\(((z0s I)/\(z12 I))/\(z2u I))))/\((z71 I)/\((0:Nat) + I.sup.length <= (1000000000:Nat)/\(z4w I))/\((z0p I)/\(z9j I)))/\((z71 I)/\((z0s I)/\(z52 I)/\(z9i I))/\(zdn I)/\(z0p I)/\(z5u I)/\(z9h I))/\((0:Nat) + I.sup.length <= (1000000000:Nat)/\(z4w I)/\((z2z I)/\((z0s I)/\(z3k I))/\((z0p I)/\(z2u I)))/\((z0p I)/\(((z0s I)/\(z12 I))/\(z2u I))))/\(z0p I)/\(z9j I)/\((z5u I)/\(z9h I))/\((0:Nat) + I.sup.length <= (1000000000:Nat)/\(((z0s I)/\(z12 I))/\(z2u I))))/\∀ (g:List Value),True->∃ (g0:z5v),((g0.fst <= I.arcs.length/\(LowI I g0.fst g0.2.fst g0.2.2.fst))/\((0 = 0/\(0 = 0/\(True/\((↑I.arcs.length:Int) = ↑I.arcs.length/\((0:Int) = ↑g0.1/\True)))))/\((True/\(True/\True))/\((z3t)/\(I.sup = I.sup/\(I.arcs = I.arcs/\(List.replicate I.arcs.length (0:Int) = g0.2.1/\(I.sup = g0.2.2.1/\((z2a I (0:Nat) [] = z2a I (0:Nat) []/\(g = g0.2.2.2/\((none:Option Nat) = none)))/\True)))))))))/\∀ (g:z5v),g.fst <= I.arcs.length/\LowI I g.fst g.2.fst g.2.2.fst->(decide ((↑g.1:Int) < ↑I.arcs.length) = true->((0:Int) <= ↑g.1/\((↑g.1:Int) < ↑I.arcs.length))/\((↑g.1:Int).toNat < I.arcs.length/\(∀ (x:Arc),I.arcs[(↑g.1:Int).toNat]? = some x->(z17 I (↑g.1:Int)/\(g.2.1.length = I.arcs.length/\(g.2.2.1.length = I.sup.length/\(XB g.2.1/\(XB g.2.2.1/\((-1152921504606846976:Int) <= x.low/\(x.low <= (1152921504606846976:Int))))))))/\(∃ (g':z5v),(g'.fst <= I.arcs.length/\(LowI I g'.fst g'.2.fst g'.2.2.fst))/\(I.arcs.length - g'.fst < I.arcs.length - g.fst/\((0 = 0/\(0 = 0/\(True/\((↑I.arcs.length:Int) = ↑I.arcs.length/\(IntKind.i64.wrap ((↑g.1:Int) + (1:Int)) = (↑g'.1:Int)/\True)))))/\((True/\(True/\True))/\((z3t)/\(I.sup = I.sup/\(I.arcs = I.arcs/\(z5i g.2.1 ((↑g.1:Int).toNat,false) x.low = g'.2.1/\(z7r I g.2.2.1 ((↑g.1:Int).toNat,false) x.low = g'.2.2.1/\((z2a I (0:Nat) [] = z2a I (0:Nat) []/\(g.2.2.2 = g'.2.2.2/\((none:Option Nat) = none)))/\True)))))))))))))/\(decide ((↑g.1:Int) < ↑I.arcs.length) = false->(I.sup.length <= (10000:Nat)/\(I.arcs.length <= (10000:Nat)))/\∃ (g0:z5v),((g0.2.fst = g0.2.fst/\(g0.2.2.fst = g0.2.2.fst/\(g0.fst <= I.sup.length)))/\((0 = 0/\(0 = 0/\((↑I.sup.length:Int) = ↑I.sup.length/\((0:Int) = ↑g0.1/\True))))/\((z72 I)/\(I.arcs = I.arcs/\(z4p I = z4p I/\(z1i I = z1i I/\((z3t)/\(I.sup = I.sup/\(I.arcs = I.arcs/\(g.2.1 = g0.2.1/\(g.2.2.1 = g0.2.2.1/\((z2a I (0:Nat) [] = z2a I g0.1 []/\(g.2.2.2 = g0.2.2.2/\((none:Option Nat) = none)))/\True))))))))))))/\∀ (g:z5v),g.2.fst = g0.2.fst/\g.2.2.fst = g0.2.2.fst/\g.fst <= I.sup.length->(decide ((↑g.1:Int) < ↑I.sup.length) = true->PieceOk (↑I.sup.length:Int) (z4p I) (z1i I) (↑g.1:Int) (0:Nat)/\∃ (g0_1:z30),((g0_1.2.2.fst = g0_1.2.2.fst/\(g0_1.2.2.2.fst = g0_1.2.2.2.fst/\(g0_1.fst = g0_1.fst/\(g0_1.2.fst <= (z60 I g0_1.fst).length))))/\((0 = 0/\(0 = 0/\((↑I.sup.length:Int) = ↑I.sup.length/\((↑g.1:Int) = ↑g0_1.1/\((↑g.1:Int) = ↑g0_1.1/\(True/\((↑(z0l (z4p I) (z1i I) (↑g.1:Int) (0:Nat)).length:Int) = ↑(z60 I g0_1.1).length/\((0:Int) = ↑g0_1.2.1/\True))))))))/\(z0l (z4p I) (z1i I) (↑g.1:Int) (0:Nat) = z4h (z60 I g0_1.1)/\((z72 I)/\(I.arcs = I.arcs/\(z4p I = z4p I/\(z1i I = z1i I/\((z3t)/\(I.sup = I.sup/\(I.arcs = I.arcs/\(g.2.1 = g0_1.2.2.1/\(g.2.2.1 = g0_1.2.2.2.1/\((z2a I g.1 [] = z2a I g0_1.1 (fwd (List.take g0_1.2.1 (z60 I g0_1.1)))/\(g.2.2.2 = g0_1.2.2.2.2/\((none:Option Nat) = none)))/\True)))))))))))))/\∀ (g_1:z30),g_1.2.2.fst = g0_1.2.2.fst/\g_1.2.2.2.fst = g0_1.2.2.2.fst/\g_1.fst = g0_1.fst/\g_1.2.fst <= (z60 I g_1.fst).length->(decide ((↑g_1.2.1:Int) < ↑(z60 I g_1.1).length) = true->((0:Int) <= ↑g_1.2.1/\((↑g_1.2.1:Int) < ↑(z4h (z60 I g_1.1)).length))/\(↑g_1.2.1:Int).toNat < (z4h (z60 I g_1.1)).length/\∀ (x:Int),(z4h (z60 I g_1.1))[(↑g_1.2.1:Int).toNat]? = some x->((0:Int) <= ↑g_1.1/\((↑g_1.1:Int) < ↑(DK.recs (MK.int IntKind.i64) [MK.bool] (z2a I g_1.1 (fwd (List.take g_1.2.1 (z60 I g_1.1))))).len))/\(↑g_1.1:Int).toNat < (z2a I g_1.1 (fwd (List.take g_1.2.1 (z60 I g_1.1)))).length/\∀ (x_1:List (List Int)),(z2a I g_1.1 (fwd (List.take g_1.2.1 (z60 I g_1.1))))[(↑g_1.1:Int).toNat]? = some x_1->(zc6 x_1 g_1 I g0_1 x)/\(zc6 x_1 g_1 I g0_1 x)/\(zc6 x_1 g_1 I g0_1 x))/\(decide ((↑g_1.2.1:Int) < ↑(z60 I g_1.1).length) = false->PieceOk (↑I.sup.length:Int) (z4p I) (z1i I) (↑g_1.1:Int) (1:Nat)/\∃ (g0_2:z30),((g0_2.2.2.fst = g0_2.2.2.fst/\(g0_2.2.2.2.fst = g0_2.2.2.2.fst/\(g0_2.fst = g0_2.fst/\(g0_2.2.fst <= (z8q I g0_2.fst).length))))/\((0 = 0/\(0 = 0/\((↑I.sup.length:Int) = ↑I.sup.length/\((↑g_1.1:Int) = ↑g0_2.1/\((↑g_1.1:Int) = ↑g0_2.1/\(True/\((↑(z0l (z4p I) (z1i I) (↑g_1.1:Int) (1:Nat)).length:Int) = ↑(z8q I g0_2.1).length/\((0:Int) = ↑g0_2.2.1/\True))))))))/\(z0l (z4p I) (z1i I) (↑g_1.1:Int) (1:Nat) = z4h (z8q I g0_2.1)/\((z72 I)/\(I.arcs = I.arcs/\(z4p I = z4p I/\(z1i I = z1i I/\((z3t)/\(I.sup = I.sup/\(I.arcs = I.arcs/\(g_1.2.2.1 = g0_2.2.2.1/\(g_1.2.2.2.1 = g0_2.2.2.2.1/\((z2a I g_1.1 (fwd (List.take g_1.2.1 (z60 I g_1.1))) = z2a I g0_2.1 (fwd (z60 I g0_2.1) ++ bwd (List.take g0_2.2.1 (z8q I g0_2.1)))/\(g_1.2.2.2.2 = g0_2.2.2.2.2/\((none:Option Nat) = none)))/\True)))))))))))))/\∀ (g_2:z30),g_2.2.2.fst = g0_2.2.2.fst/\g_2.2.2.2.fst = g0_2.2.2.2.fst/\g_2.fst = g0_2.fst/\g_2.2.fst <= (z8q I g_2.fst).length->(decide ((↑g_2.2.1:Int) < ↑(z8q I g_2.1).length) = true->((0:Int) <= ↑g_2.2.1/\((↑g_2.2.1:Int) < ↑(z4h (z8q I g_2.1)).length))/\(↑g_2.2.1:Int).toNat < (z4h (z8q I g_2.1)).length/\∀ (x:Int),(z4h (z8q I g_2.1))[(↑g_2.2.1:Int).toNat]? = some x->((0:Int) <= ↑g_2.1/\((↑g_2.1:Int) < ↑(DK.recs (MK.int IntKind.i64) [MK.bool] (z2a I g_2.1 (fwd (z60 I g_2.1) ++ bwd (List.take g_2.2.1 (z8q I g_2.1))))).len))/\(↑g_2.1:Int).toNat < (z2a I g_2.1 (fwd (z60 I g_2.1) ++ bwd (List.take g_2.2.1 (z8q I g_2.1)))).length/\∀ (x_1:List (List Int)),(z2a I g_2.1 (fwd (z60 I g_2.1) ++ bwd (List.take g_2.2.1 (z8q I g_2.1))))[(↑g_2.1:Int).toNat]? = some x_1->(zc5 x_1 g_2 I g0_2 x)/\(zc5 x_1 g_2 I g0_2 x)/\(zc5 x_1 g_2 I g0_2 x))/\(decide ((↑g_2.2.1:Int) < ↑(z8q I g_2.1).length) = false->∃ (g':z5v),(g'.2.fst = g0.2.fst/\(g'.2.2.fst = g0.2.2.fst/\(g'.fst <= I.sup.length)))/\(I.sup.length - g'.fst < I.sup.length - g.fst/\((0 = 0/\(0 = 0/\((↑I.sup.length:Int) = ↑I.sup.length/\(IntKind.i64.wrap ((↑g_2.1:Int) + (1:Int)) = (↑g'.1:Int)/\True))))/\((z72 I)/\(I.arcs = I.arcs/\(z4p I = z4p I/\(z1i I = z1i I/\((z3t)/\(I.sup = I.sup/\(I.arcs = I.arcs/\(g_2.2.2.1 = g'.2.1/\(g_2.2.2.2.1 = g'.2.2.1/\((z2a I g_2.1 (fwd (z60 I g_2.1) ++ bwd (List.take g_2.2.1 (z8q I g_2.1))) = z2a I g'.1 []/\(g_2.2.2.2.2 = g'.2.2.2/\((none:Option Nat) = none)))/\True)))))))))))))))/\(decide ((↑g.1:Int) < ↑I.sup.length) = false->∃ (g_1:List Int × List Int × Rows3),BuildP I g_1.1 g_1.2.1 g_1.2.2/\(∃ (V:Nat->List Value),(0 = 0/\True)/\((z3t)/\(g.2.1 = g_1.1/\(g.2.2.1 = g_1.2.1/\((z2a I g.1 [] = g_1.2.2/\(g.2.2.2 = V ((0:Nat) + (1:Nat) + (1:Nat) + (1:Nat))/\((none:Option Nat) = none)))/\True)))))))
theorem build20_q (I:Inst) (ty0 ty1:TypeId):zgw I ty0 ty1 = zad TT zl3 (build20_I I) (zgx I) Try.f47 [.agg [.row 0,.row 1]] [(0,.row false ty0 (.ints .i64 I.sup)),(1,.row false ty1 (.arcs I.arcs))] (zl4 I):=by kernel_rfl
theorem build20_E (I:Inst) (ty0 ty1:TypeId) (hp:z03 I = 0):FVcR TT zl3 (build20_I I) (zgx I) Try.f47 [.agg [.row 0,.row 1]] [(0,.row false ty0 (.ints .i64 I.sup)),(1,.row false ty1 (.arcs I.arcs))] (zl4 I):=by
 refine FVcR.of (zgw I ty0 ty1) (build20_q I ty0 ty1) ?_
 unfold zgw
 delta zdn z73 z72 z9j z9i z9h z3t z4w z71 zdm z2u z3k z5u z52 z5t z2z zc6 zc5 z0p z0s z12 z30 z5v
 simp only [eq_self,exists_const,forall_const,decide_eq_true_eq,decide_eq_false_iff_not,and_true,true_and,bne_iff_ne,ne_eq,bne_eq_false_iff_eq,Int.toNat_natCast,Bool.not_eq_true',Bool.not_eq_false',beq_iff_eq,beq_eq_false_iff_ne,z09]
 have hs64:=z0c hp
 have f1:((0:Int) <= (I.arcs.length:Int)/\(I.arcs.length:Int) <= 1000000000) = True:=eq_true (by omega)
 have f2:((0:Int) <= (I.sup.length:Int)/\(I.sup.length:Int) <= 1000000000) = True:=eq_true (by omega)
 have f3:(0 + I.sup.length <= 1000000000) = True:=eq_true (by omega)
 have f4:(∃ g:List Value,List.replicate I.sup.length [] = z2a I 0 []/\List.replicate I.sup.length (Value.slice none 0 0) = g) = True:=eq_true ⟨_,stpsK_zero I,rfl⟩
 simp only [f1,f2,f3,f4,true_and,and_true]
 intro vs0
 refine ⟨(0,_,_,vs0),⟨⟨Nat.zero_le _,LowI.begin hp⟩,rfl,rfl,rfl,rfl⟩,?_⟩
 rintro ⟨a,x,o,vs⟩ ⟨ha,hL⟩
 dsimp only at ha hL ⊢
 refine ⟨fun h1=>⟨by omega,by omega,fun y hy=>?_⟩,fun h1=>?_⟩
 ·have hal:a < I.arcs.length:=by omega
  have hk:=z1x hp hal
  have hey:z18 I a = y:=z2s hy
  have hxb:=hL.xb hp ha
  have l0:=hk.l0
  have l1:=hk.l1
  have hn:=hL.next hp hal
  rw [hey] at l0 l1 hn
  exact ⟨⟨⟨hp,by omega,by omega⟩,hL.over.lx,hL.over.lo,hxb.1,hxb.2,by omega,by omega⟩,(a + 1,_,_,vs),⟨by dsimp only; omega,hn⟩,by dsimp only; omega,by rw [w64 (by omega) (by omega)]; dsimp only; omega,rfl,rfl,rfl⟩
 have ea:a = I.arcs.length:=by omega
 subst ea
 refine ⟨⟨by omega,by omega⟩,(0,x,o,vs),⟨Nat.zero_le _,rfl,rfl,rfl,rfl,rfl⟩,?_⟩
 rintro ⟨n,x',o',vs⟩ ⟨h2,h3,hn⟩
 dsimp only at h2 h3 hn ⊢
 subst h2 h3
 refine ⟨fun h4=>⟨piece_ok hp (by omega) (by omega),?_⟩,fun h4=>?_⟩
 rotate_left
 ·have en:n = I.sup.length:=by omega
  subst en
  exact ⟨(x',o',z2a I I.sup.length []),⟨hL,steps_ok hp⟩,fun _=>vs,rfl,rfl,rfl,rfl⟩
 have hn2:n < I.sup.length:=by omega
 have q0:z0l (z4p I) (z1i I) (n:Int) 0 = z4h (z60 I n):=piece_is hn2 (by omega)
 have q1:z0l (z4p I) (z1i I) (n:Int) 1 = z4h (z8q I n):=piece_is hn2 (by omega)
 have c0:(z60 I n).length <= 256:=Nat.le_trans (zaq I (2 * n) I.arcs.length) hs64.2
 have c1:(z8q I n).length <= 256:=Nat.le_trans (zaq I (2 * n + 1) I.arcs.length) hs64.2
 refine ⟨(n,0,x',o',vs),⟨Nat.zero_le _,⟨rfl,rfl,by rw [q0,zjp],rfl⟩,q0,rfl,rfl,rfl,rfl⟩,?_⟩
 rintro ⟨n1,k,x1,o1,vs⟩ ⟨h5,h6,h7,hk⟩
 dsimp only at h5 h6 h7 hk ⊢
 subst h5 h6 h7
 have dl:∀ t,DK.len (.recs (MK.int IntKind.i64) [MK.bool] t) = t.length:=fun _=>rfl
 have hrl:∀ q:List Stp,q.length <= 600->∀ r,(z2a I n1 q)[n1]? = some r->r.length <= 600:=fun q hq r hr=>by
  rw [z7m hn2,if_neg (Nat.lt_irrefl _),if_pos rfl] at hr
  cases hr
  rw [List.length_map]; exact hq
 simp only [zjp,z7n,dl]
 refine ⟨fun h8=>⟨by omega,by omega,fun z hz=>?_⟩,fun h8=>?_⟩
 ·obtain ⟨b,hb,rfl⟩:=natI_get hz
  refine ⟨by omega,by omega,fun r hr=>?_⟩
  have hr2:=hrl _ (by simp [fwd]; omega) r hr
  have e1:fwd ((z60 I n1).take (k + 1)) = fwd ((z60 I n1).take k) ++ [(b,false)]:=by rw [z2h hb]; simp [fwd]
  have e2:(z2a I n1 (fwd ((z60 I n1).take k))).set n1 (r ++ [[(b:Int),bif false then 1 else 0]]) = z2a I n1 (fwd ((z60 I n1).take (k + 1))):=by rw [e1]; exact stpsK_set (b,false) hr
  repeat' first
   | exact ⟨by omega,by omega,by omega,fun u=>⟨(n1,k + 1,x1,o1,_),⟨rfl,rfl,rfl,by dsimp only; omega⟩,by dsimp only; omega,⟨rfl,rfl,rfl,by rw [w64 (by omega) (by omega)]; dsimp only; omega⟩,rfl,rfl,rfl,e2,rfl⟩⟩
   | refine And.intro ?_ ?_
 have ek:k = (z60 I n1).length:=by omega
 subst ek
 refine ⟨piece_ok hp hn2 (by omega),(n1,0,x1,o1,vs),⟨Nat.zero_le _,⟨rfl,rfl,by rw [q1,zjp],rfl⟩,q1,rfl,rfl,?_,rfl⟩,?_⟩
 ·dsimp only
  rw [List.take_length]
  simp [bwd]
 rintro ⟨n2,k,x2,o2,vs⟩ ⟨h5,h6,h7,hk2⟩
 dsimp only at h5 h6 h7 hk2 ⊢
 subst h5 h6 h7
 refine ⟨fun h9=>⟨by omega,by omega,fun z hz=>?_⟩,fun h9=>?_⟩
 ·obtain ⟨b,hb,rfl⟩:=natI_get hz
  refine ⟨by omega,by omega,fun r hr=>?_⟩
  have hr2:=hrl _ (by simp [fwd,bwd]; omega) r hr
  have e1:fwd (z60 I n2) ++ bwd ((z8q I n2).take (k + 1)) = (fwd (z60 I n2) ++ bwd ((z8q I n2).take k)) ++ [(b,true)]:=by rw [z2h hb]; simp [bwd]
  have e2:(z2a I n2 (fwd (z60 I n2) ++ bwd ((z8q I n2).take k))).set n2 (r ++ [[(b:Int),bif true then 1 else 0]]) = z2a I n2 (fwd (z60 I n2) ++ bwd ((z8q I n2).take (k + 1))):=by rw [e1]; exact stpsK_set (b,true) hr
  repeat' first
   | exact ⟨by omega,by omega,by omega,fun u=>⟨(n2,k + 1,x2,o2,_),⟨rfl,rfl,rfl,by dsimp only; omega⟩,by dsimp only; omega,⟨rfl,rfl,rfl,by rw [w64 (by omega) (by omega)]; dsimp only; omega⟩,rfl,rfl,rfl,e2,rfl⟩⟩
   | refine And.intro ?_ ?_
 have ek:k = (z8q I n2).length:=by omega
 subst ek
 refine ⟨(n2 + 1,x2,o2,vs),⟨rfl,rfl,by dsimp only; omega⟩,by dsimp only; omega,by rw [w64 (by omega) (by omega)]; dsimp only; omega,rfl,rfl,?_,rfl⟩
 dsimp only
 rw [List.take_length]
 exact stpsK_next I n2
theorem build20_ok:SpecOk Try.prog build20_n true (z0u true zgy) :=
 z3o z0v (show z1w Try.prog zl3 from z02 zmx (z02 New_ok (z02 out20_ok (z02 in20_ok (z06))))) (by kernel_rfl) mixedOrders Try.func47 rfl rfl (by kernel_rfl) (n:=1) (by decide +kernel) (I:=build20_IA) (fun _ _=>z07) (A:=build20_A)
  (fun args h r hr=>by
   unfold zgy at hr
   split at hr
   ·rename_i ty0 I_s ty1 I_a; cases hr; refine ⟨rfl,fun hp=>?_⟩; have hE:=build20_E ⟨I_s,I_a⟩ ty0 ty1 hp; exact hE
   ·cases hr)
end Go.Proofs.Ytggblkbecekbdaa
end
section
namespace Go.Ql
open Go Go.Vc
structure SmallI (I:Inst):Prop where
 s:∀ y ∈ I.sup,-1048576 <= y/\y <= 1048576
 a:∀ a ∈ I.arcs,a.low <= 524288/\(a.cap = inf ∨ a.cap <= 536870912)
structure SolveP (I:Inst) (c:Cert) (e:Int):Prop where
 bad:z03 I ≠ 0->e = z03 I/\c = ⟨0,[],[],[],[]⟩
 ok:z03 I = 0->e = 0/\z25 I c = 0/\YB c.flow/\YB c.pot/\∀ C:Int,0 <= C->(∀ s,okS I s->-C <= csS I s/\csS I s <= C)->∀ k,-(C * 32768) <= c.pot.getD k 0/\c.pot.getD k 0 <= C * 32768
theorem build_fill {I:Inst} (hr:z03 I = 0) {x o:List Int} {t:Rows3} (h:BuildP I x o t):FillI I x o:=by
 have hs:=z0c hr
 have hlow:=h.low
 have hx:∀ a,a < I.arcs.length->x.getD a 0 = (z18 I a).low:=fun a ha=>by rw [hlow.at_ a ha,if_pos ha]
 refine ⟨⟨4398046511104,⟨hlow.over,fun a ha=>?_,fun a ha=>?_⟩,by omega,?_⟩⟩
 ·have:=z1x hr ha
  have h1:=this.c
  rw [hx a ha]
  exact ⟨Int.le_refl _,h1.imp id (·.1)⟩
 ·have:=z1x hr ha
  have h1:=this.l0; have h2:=this.l1
  rw [hx a ha]; omega
 ·have:=hlow.pos
  omega
theorem build_cheap {I:Inst} (hr:z03 I = 0) (hsm:SmallI I) {x o:List Int} {t:Rows3} (h:BuildP I x o t) (hπ:∃ π,zah I (endS I) π) (hy:∃ y,A64 y/\z1g I y = 0):zk7 I x o:=by
 have hs:=z0c hr
 have hlow:=h.low
 refine ⟨hr,hlow.over,fun a ha=>by rw [hlow.at_ a ha,if_pos ha],⟨by rw [hlow.over.lo]; omega,by omega,fun y hy=>?_,fun a ha=>?_⟩,hπ,hy⟩
 ·obtain ⟨v,hv⟩:=List.mem_iff_getElem?.1 hy
  have hvl:v < I.sup.length:=by rw [<- hlow.over.lo]; exact (List.getElem?_eq_some_iff.1 hv).1
  have e:o.getD v 0 = y:=by rw [List.getD_eq_getElem?_getD,hv]; rfl
  rw [<- e,hlow.over.at_ v hvl]
  have hm:I.sup.getD v 0 ∈ I.sup:=by rw [List.getD_eq_getElem?_getD,List.getElem?_eq_getElem hvl]; exact List.getElem_mem hvl
  have h1:=hsm.s _ hm
  have h2:∀ k,k <= I.arcs.length->-(524288 * (k:Int)) <= z2d I.sup.length I.arcs x k v/\z2d I.sup.length I.arcs x k v <= 524288 * (k:Int):=fun k=>by
   induction k with
   | zero=>intro _; simp [z2d]
   | succ k ih =>
    intro hk
    obtain ⟨i1,i2⟩:=ih (by omega)
    have h3:=z1x hr (a:=k) (by omega)
    have h4:=h3.l0
    have h5:=(hsm.a _ (z48 (show k < I.arcs.length by omega)).2).1
    have h6:=hlow.at_ k (by omega)
    rw [if_pos (by omega)] at h6
    rw [z2d,h6]
    have e2:((k + 1:Nat):Int) = k + 1:=by omega
    rw [e2]
    unfold z3q
    repeat' split <;> omega
  have:=h2 _ (Nat.le_refl _)
  omega
 ·have h1:=hsm.a a ha
  obtain ⟨j,hj⟩:=List.mem_iff_getElem?.1 ha
  have h3:=z1x hr (a:=j) (List.getElem?_eq_some_iff.1 hj).1
  rw [z2s hj] at h3
  have:=h3.l0; have h4:=h3.c
  refine h1.2.imp id fun h=>⟨?_,h⟩
  rcases h4 with h4 | h4
  ·rw [h4] at h; exact absurd h (by decide)
  ·omega
theorem fits_len {I:Inst} {x o:List Int} {m:List Bool} {f:Bool} (h:FillP I x o m f):A64 x:=fun y hy=>by have:=h.inv.xb y hy; unfold I64; omega
theorem nil_few {C:Int} (h0:0 <= C) (k:Nat):-(C * 32768) <= ([]:List Int).getD k 0/\([]:List Int).getD k 0 <= C * 32768:=by
 have:([]:List Int).getD k 0 = 0:=rfl
 rw [this]; omega
theorem YB.nil:YB []:=fun y hy=>by simp at hy
theorem solve_cut {I:Inst} (hr:z03 I = 0) {x o:List Int} {m:List Bool} (h:FillP I x o m true):SolveP I ⟨2,[],[],m,[]⟩ 0:=by
 refine ⟨fun h2=>absurd hr h2,fun _=>⟨rfl,?_,YB.nil,YB.nil,fun C h0 _ k=>nil_few h0 k⟩⟩
 unfold z25 z3b
 simp [hr,h.yes rfl]
theorem solve_ray {I:Inst} (hr:z03 I = 0) {x o:List Int} {m:List Bool} (h:FillP I x o m false) {l:List Int} (hl:RoundP I l true):SolveP I ⟨3,x,[],[],l⟩ 0:=by
 refine ⟨fun h2=>absurd hr h2,fun _=>⟨rfl,?_,h.inv.xb,YB.nil,fun C h0 _ k=>nil_few h0 k⟩⟩
 have h1:=(h.no rfl).2
 have h2:=hl.yes rfl
 unfold z25 z3b
 simp [hr,h1,h2]
theorem solve_best {I:Inst} (hr:z03 I = 0) {x o p:List Int} (h:CheapP I x o) (hp:PriceP I x p):SolveP I ⟨1,x,p,[],[]⟩ 0:=by
 refine ⟨fun h2=>absurd hr h2,fun _=>⟨rfl,?_,h.yb,?_,fun C h0 hC k=>?_⟩⟩
 ·have:=prices_slack h.fits hp
  unfold z25 z3b
  simp [hr,this]
 ·obtain ⟨g,-,hpe,hg,-⟩:=hp.ex
  show YB p
  rw [hpe]
  intro y hy
  unfold negF at hy
  obtain ⟨v,hv,rfl⟩:=List.mem_map.1 hy
  have:=hg v (List.mem_range.1 hv)
  omega
 ·obtain ⟨g,-,hpe,-,hg⟩:=hp.ex
  show -(C * 32768) <= p.getD k 0/\p.getD k 0 <= C * 32768
  rw [hpe]
  by_cases hk:k < I.sup.length
  ·have:=hg C h0 hC k hk
   rw [negF_get _ _ hk]; omega
  ·rw [List.getD_eq_getElem?_getD,List.getElem?_eq_none (by simp [negF]; omega)]
   show -(C * 32768) <= 0/\0 <= C * 32768
   omega
theorem solve_bad {I:Inst} (hr:z03 I ≠ 0):SolveP I ⟨0,[],[],[],[]⟩ (z03 I):=⟨fun _=>⟨rfl,rfl⟩,fun h=>absurd h hr⟩
end Go.Ql
end
section
namespace Go.Proofs.Ytggblkbecekbdaa
open Go Go.RowKit Go.Ql Go.Vc
def Solve_r (I:Inst):FRel:={ pre:=z03 I = 0->SmallI I,G:=(Cert) × (Int),post:=fun ⟨c,e⟩=>SolveP I c e,out:=fun ⟨c,e⟩=>{ pre:=True,res:=.tup [.agg [.int .i64 (c).kind,.row 2,.row 3,.row 4,.row 5],.int .u16 (e)],rows:=[.row 2 (.ints .i64 (c).flow),.row 2 (.ints .i64 (c).pot),.row 4 (.bools (c).side),.row 3 (.ints .i64 (c).cycle)],eff:=[] } }
def zer:FR:=fun args h=>match args,h with
 | [.agg [.row 0,.row 1]],[(0,.row false ty0 (.ints .i64 I_s)),(1,.row false ty1 (.arcs I_a))]=>some (Solve_r ⟨I_s,I_a⟩)
 | _,_=>none
def Solve_an (I:Inst):List (Nat × Ann):=[]
def Solve_A:List SV->z0f->List (Nat × Ann):=fun _ _=>[]
def Solve_g:z0d:=[(Right_n,(true,z04 true Right_fs)),(build20_n,(true,z0u true zgy)),(fill20_n,(false,z0u false zln)),(round20_n,(true,z0u true zi1)),(cheap20_n,(false,z0u false zh2)),(price20_n,(true,z0u true zhg))]
abbrev Solve_n:Nat:=28
def Solve_I (I:Inst):List (Nat × z0a):=[]
def Solve_IA:List SV->z0f->List (Nat × z0a):=fun _ _=>[]
end Go.Proofs.Ytggblkbecekbdaa
end
section
namespace Go.Proofs.Ytggblkbecekbdaa
open Go Go.RowKit Go.Ql Go.Vc
def Solve_E0 (I : Inst) (ty0 ty1 : TypeId) : Prop :=
      True /\
 ((z03 I != (0:Int)) = true ->
 ∃ (g:Cert × Int),
 SolveP I g.1 g.2 /\
 ((((0:Int) = g.1.kind/\True/\True/\True/\True/\True)/\z03 I = g.2/\True)/\True)/\[] = g.1.flow/\[] = g.1.pot/\[] = g.1.side/\[] = g.1.cycle/\True) /\
 ((z03 I != (0:Int)) = false ->
 z03 I = (0:Int) /\
 ∀ (g:List Int × List Int × Rows3),
 BuildP I g.1 g.2.1 g.2.2 ->
 ∀ (V:Nat->List Value),
 (z03 I = (0:Int)/\FillI I g.1 g.2.1/\AtOk I g.2.2) /\
 ∀ (g:List Int × List Int × List Bool × Bool),
 FillP I g.1 g.2.1 g.2.2.1 g.2.2.2 ->
 (g.2.2.2 = true ->
 ∃ (g_1:Cert × Int),
 SolveP I g_1.1 g_1.2 /\
 ((((2:Int) = g_1.1.kind/\True/\True/\True/\True/\True)/\(0:Int) = g_1.2/\True)/\True) /\
 [] = g_1.1.flow/\[] = g_1.1.pot/\g.2.2.1 = g_1.1.side/\[] = g_1.1.cycle/\True) /\
 (g.2.2.2 = false ->
 z03 I = (0:Int) /\
 ∀ (g_1:List Int × Bool),
 RoundP I g_1.1 g_1.2 ->
 (g_1.2 = true ->
 ∃ (g_2:Cert × Int),
 SolveP I g_2.1 g_2.2 /\
 ((((3:Int) = g_2.1.kind/\True/\True/\True/\True/\True)/\(0:Int) = g_2.2/\True)/\True) /\
 g.1 = g_2.1.flow/\[] = g_2.1.pot/\[] = g_2.1.side/\g_1.1 = g_2.1.cycle/\True) /\
 (g_1.2 = false ->
 z03 I = (0:Int) /\
 ∀ (g:List Int × List Int × Rows3),
 BuildP I g.1 g.2.1 g.2.2 ->
 ∀ (V:Nat->List Value),
 (z03 I = (0:Int) /\
 OverOf I g.1 g.2.1 /\
 (∀ (a:Nat),a < I.arcs.length->g.1.getD a (0:Int) = (z18 I a).low) /\
 GreatOk I g.2.1/\(∃ (π:Nat->Int),zah I (Ql.endS I) π)/\∃ (y:List Int),A64 y/\z1g I y = (0:Int)) /\
 ∀ (g:List Int × List Int),
 CheapP I g.1 g.2 ->
 (z03 I = (0:Int) /\
 g.1.length = I.arcs.length /\
 XB g.1/\∃ (π:Nat->Int),zah I (fun (s:Stp)=>Ql.endS I s || decide ((0:Int) < rmS I g.1 s)) π) /\
 ∀ (g_2:List Int),
 PriceP I g.1 g_2 ->
 ∃ (g_3:Cert × Int),
 SolveP I g_3.1 g_3.2 /\
 ((((1:Int) = g_3.1.kind/\True/\True/\True/\True/\True)/\(0:Int) = g_3.2/\True)/\True) /\
 g.1 = g_3.1.flow/\g_2 = g_3.1.pot/\[] = g_3.1.side/\[] = g_3.1.cycle/\True)))
theorem Solve_q (I:Inst) (ty0 ty1:TypeId):Solve_E0 I ty0 ty1 = zad TT Solve_g (Solve_I I) (Solve_an I) Try.f28 [.agg [.row 0,.row 1]] [(0,.row false ty0 (.ints .i64 I.sup)),(1,.row false ty1 (.arcs I.arcs))] (Solve_r I):=by kernel_rfl
theorem Solve_E (I:Inst) (ty0 ty1:TypeId) (hp:z03 I = 0->SmallI I):FVcR TT Solve_g (Solve_I I) (Solve_an I) Try.f28 [.agg [.row 0,.row 1]] [(0,.row false ty0 (.ints .i64 I.sup)),(1,.row false ty1 (.arcs I.arcs))] (Solve_r I):=by
 refine FVcR.of (Solve_E0 I ty0 ty1) (Solve_q I ty0 ty1) ?_
 unfold Solve_E0
 simp only [eq_self,exists_const,forall_const,decide_eq_true_eq,decide_eq_false_iff_not,and_true,true_and,bne_iff_ne,ne_eq,bne_eq_false_iff_eq,Int.toNat_natCast,Bool.not_eq_true',Bool.not_eq_false',beq_iff_eq,beq_eq_false_iff_ne,z09]
 refine ⟨fun h=>⟨(⟨0,[],[],[],[]⟩,_),solve_bad h,⟨rfl,rfl⟩,rfl,rfl,rfl,rfl⟩,fun hr=>⟨hr,?_⟩⟩
 rintro ⟨x,o,t⟩ hB
 have hF:=build_fill hr hB
 refine ⟨⟨hr,hF,hB.at_⟩,?_⟩
 rintro ⟨x1,o1,m,f⟩ hf
 dsimp only at hf ⊢
 refine ⟨fun h=>?_,fun h=>⟨hr,?_⟩⟩
 ·subst h; exact ⟨(⟨2,[],[],m,[]⟩,0),solve_cut hr hf,⟨rfl,rfl⟩,rfl,rfl,rfl,rfl⟩
 subst h
 rintro ⟨l,f⟩ hl
 dsimp only at hl ⊢
 refine ⟨fun h=>?_,fun h=>⟨hr,?_⟩⟩
 ·subst h; exact ⟨(⟨3,x1,[],[],l⟩,0),solve_ray hr hf hl,⟨rfl,rfl⟩,rfl,rfl,rfl,rfl⟩
 subst h
 rintro ⟨x2,o2,t2⟩ hB2
 refine ⟨build_cheap hr (hp hr) hB2 (hl.no rfl).2 ⟨x1,fits_len hf,(hf.no rfl).2⟩,?_⟩
 rintro ⟨x3,o3⟩ hC
 exact ⟨⟨hr,(fitsF_zero.1 hC.fits).2.1,hC.yb.xb,hC.pot⟩,fun p hp=>⟨(⟨1,x3,p,[],[]⟩,0),solve_best hr hC hp,⟨rfl,rfl⟩,rfl,rfl,rfl,rfl⟩⟩
theorem Solve_ok:SpecOk Try.prog Solve_n true (z0u true zer) :=
 z3o z0v (show z1w Try.prog Solve_g from z02 Right_ok (z02 build20_ok (z02 fill20_ok (z02 round20_ok (z02 cheap20_ok (z02 price20_ok (z06))))))) (by kernel_rfl) mixedOrders Try.func28 rfl rfl (by kernel_rfl) (n:=1) (by decide +kernel) (I:=Solve_IA) (fun _ _=>z07) (A:=Solve_A)
  (fun args h r hr=>by
   unfold zer at hr
   split at hr
   ·rename_i ty0 I_s ty1 I_a; cases hr; refine ⟨rfl,fun hp=>?_⟩; have hE:=Solve_E ⟨I_s,I_a⟩ ty0 ty1 hp; exact hE
   ·cases hr)
end Go.Proofs.Ytggblkbecekbdaa
end
section
namespace Go.Proofs.Ytggblkbecekbdaa
open Go Go.RowKit Go.Ql Go.Vc
def zht (I:Inst) (pot:List Int) (a:Int):FRes:={ pre:=A64 pot/\A64c I.arcs,res:=.agg (z0w (W (redF I pot a))),rows:=[],eff:=[] }
def ze3:FS:=fun args h=>match args,h with
 | [.agg [.row 0,.row 1],.row 2,.int .i64 a],[(0,.row false ty0 (.ints .i64 I_s)),(1,.row false ty1 (.arcs I_a)),(2,.row false ty2 (.ints .i64 pot))]=>some (zht ⟨I_s,I_a⟩ pot a)
 | _,_=>none
def znb (I:Inst) (pot:List Int) (a:Int):List (Nat × Ann):=[]
def rReduced_A:List SV->z0f->List (Nat × Ann):=fun _ _=>[]
def zhs:z0d:=[(rArc_n,(true,z04 true rArc_fs)),(rMinus_n,(true,z04 true zff)),(rOf_n,(true,z04 true rOf_fs)),(At_n,(true,z04 true At_fs)),(zna,(true,z04 true zcg))]
abbrev rReduced_n:Nat:=109
def rReduced_I (I:Inst) (pot:List Int) (a:Int):List (Nat × z0a):=[]
def rReduced_IA:List SV->z0f->List (Nat × z0a):=fun _ _=>[]
def rSlack_r (I:Inst) (x:List Int) (pot:List Int):FRes:={ pre:=I.sup.length <= 10000/\I.arcs.length <= 10000/\A64 x/\A64 I.sup/\A64 pot/\A64c I.arcs,res:=.int .i64 (z1f I x pot),rows:=[],eff:=[] }
def zng:FS:=fun args h=>match args,h with
 | [.agg [.row 0,.row 1],.row 2,.row 3],[(0,.row false ty0 (.ints .i64 I_s)),(1,.row false ty1 (.arcs I_a)),(2,.row false ty2 (.ints .i64 x)),(3,.row false ty3 (.ints .i64 pot))]=>some (rSlack_r ⟨I_s,I_a⟩ x pot)
 | _,_=>none
def znf (I:Inst) (x:List Int) (pot:List Int):List (Nat × Ann):=[(7,{ G:=(Nat),inv:=fun k=>⟨[(1,.row 2),(2,.row 3),(3,.ptr 4 0 0 0),(8,.int .i64 k)],[(4,.box true 30 [.row 0,.row 1]),(0,.row false 0 (.ints .i64 I.sup)),(1,.row false 0 (.arcs I.arcs)),(2,.row false 0 (.ints .i64 x)),(3,.row false 0 (.ints .i64 pot))],5⟩,rel:=fun k0 k=>k <= I.arcs.length/\∀ j,j < k->z44 I x pot j = true,meas:=fun k=>I.arcs.length - k })]
def rSlack_A:List SV->z0f->List (Nat × Ann):=fun args h=>match args,h with
 | [.agg [.row 0,.row 1],.row 2,.row 3],[(0,.row false ty0 (.ints .i64 I_s)),(1,.row false ty1 (.arcs I_a)),(2,.row false ty2 (.ints .i64 x)),(3,.row false ty3 (.ints .i64 pot))]=>znf ⟨I_s,I_a⟩ x pot
 | _,_=>[]
def rSlack_g:z0d:=[(rFits_n,(true,z04 true zjw)),(rReduced_n,(true,z04 true ze3)),(rCompare_n,(true,z04 true zdy))]
abbrev rSlack_n:Nat:=72
def rSlack_I (I:Inst) (x:List Int) (pot:List Int):List (Nat × z0a):=[]
def rSlack_IA:List SV->z0f->List (Nat × z0a):=fun _ _=>[]
end Go.Proofs.Ytggblkbecekbdaa
end
section
namespace Go.Proofs.Ytggblkbecekbdaa
open Go Go.RowKit Go.Ql Go.Vc
theorem at_ok {I:Inst} {pot:List Int} {a:Int} (h1:A64 pot) (h2:A64c I.arcs):I64 (atA I a).cost/\I64 (atF I pot a)/\I64 (atT I pot a):=by
 have z:I64 0:=by simp [I64]
 refine ⟨?_,?_,?_⟩
 ·unfold atA z2v
  split
  ·rename_i h
   unfold gOk at h
   simp only [Bool.and_eq_true,decide_eq_true_eq] at h
   have hl:a.toNat < I.arcs.length:=by omega
   rw [List.getD_eq_getElem?_getD,List.getElem?_eq_getElem hl]
   exact h2 _ (List.getElem_mem hl)
  ·exact z
 ·unfold atF
  split
  ·exact h1.getD _
  ·exact z
 ·unfold atT
  split
  ·exact h1.getD _
  ·exact z
abbrev z62 (I:Inst) (a:Int) (pot:List Int):=(((W (z2v (↑I.sup.length:Int) I.arcs a).cost).ok/\((W (if (0:Int) <= (z2v (↑I.sup.length:Int) I.arcs a).src then pot.getD (z2v (↑I.sup.length:Int) I.arcs a).src.toNat (0:Int) else (0:Int))).ok))/\(True/\(I64 (if (0:Int) <= (z2v (↑I.sup.length:Int) I.arcs a).dst then pot.getD (z2v (↑I.sup.length:Int) I.arcs a).dst.toNat (0:Int) else (0:Int))/\(((z5q (W (z2v (↑I.sup.length:Int) I.arcs a).cost) (W (if (0:Int) <= (z2v (↑I.sup.length:Int) I.arcs a).src then pot.getD (z2v (↑I.sup.length:Int) I.arcs a).src.toNat (0:Int) else (0:Int)))).ok/\((W (if (0:Int) <= (z2v (↑I.sup.length:Int) I.arcs a).dst then pot.getD (z2v (↑I.sup.length:Int) I.arcs a).dst.toNat (0:Int) else (0:Int))).ok))/\((((z3m (z5q (W (z2v (↑I.sup.length:Int) I.arcs a).cost) (W (if (0:Int) <= (z2v (↑I.sup.length:Int) I.arcs a).src then pot.getD (z2v (↑I.sup.length:Int) I.arcs a).src.toNat (0:Int) else (0:Int)))) (W (if (0:Int) <= (z2v (↑I.sup.length:Int) I.arcs a).dst then pot.getD (z2v (↑I.sup.length:Int) I.arcs a).dst.toNat (0:Int) else (0:Int)))).hi = (W (redF I pot a)).hi/\((z3m (z5q (W (z2v (↑I.sup.length:Int) I.arcs a).cost) (W (if (0:Int) <= (z2v (↑I.sup.length:Int) I.arcs a).src then pot.getD (z2v (↑I.sup.length:Int) I.arcs a).src.toNat (0:Int) else (0:Int)))) (W (if (0:Int) <= (z2v (↑I.sup.length:Int) I.arcs a).dst then pot.getD (z2v (↑I.sup.length:Int) I.arcs a).dst.toNat (0:Int) else (0:Int)))).lo = (W (redF I pot a)).lo/\True))/\True)/\True)))))
abbrev z7a (I:Inst) (a:Int) (pot:List Int):=(if (0:Int) <= (z2v (↑I.sup.length:Int) I.arcs a).src then pot.getD (z2v (↑I.sup.length:Int) I.arcs a).src.toNat (0:Int) else (0:Int))
def ze2 (I : Inst) (pot : List Int) (a : Int) (ty0 ty1 ty2 : TypeId) : Prop :=
   True/\((!gOk (↑I.sup.length:Int) I.arcs a) = true->(((0:Int) = (W (redF I pot a)).hi/\((0:Int) = (W (redF I pot a)).lo/\True))/\True)/\True)/\((!gOk (↑I.sup.length:Int) I.arcs a) = false->(I64 (z2v (↑I.sup.length:Int) I.arcs a).cost/\(True/\(I64 (z7a I a pot)/\(z62 I a pot)/\(z62 I a pot))/\(I64 (z7a I a pot)/\(z62 I a pot)))/\(True/\(I64 (z7a I a pot)/\(z62 I a pot))))/\(I64 (z2v (↑I.sup.length:Int) I.arcs a).cost/\(True/\(I64 (z7a I a pot)/\(z62 I a pot)))))
theorem rReduced_q (I:Inst) (pot:List Int) (a:Int) (ty0 ty1 ty2:TypeId):ze2 I pot a ty0 ty1 ty2 = z3p TT zhs (rReduced_I I pot a) (znb I pot a) Try.f109 [.agg [.row 0,.row 1],.row 2,.int .i64 a] [(0,.row false ty0 (.ints .i64 I.sup)),(1,.row false ty1 (.arcs I.arcs)),(2,.row false ty2 (.ints .i64 pot))] (zht I pot a):=by kernel_rfl
theorem rReduced_E (I:Inst) (pot:List Int) (a:Int) (ty0 ty1 ty2:TypeId) (hp:A64 pot/\A64c I.arcs):FVc TT zhs (rReduced_I I pot a) (znb I pot a) Try.f109 [.agg [.row 0,.row 1],.row 2,.int .i64 a] [(0,.row false ty0 (.ints .i64 I.sup)),(1,.row false ty1 (.arcs I.arcs)),(2,.row false ty2 (.ints .i64 pot))] (zht I pot a):=by
 refine FVc.of (ze2 I pot a ty0 ty1 ty2) (rReduced_q I pot a ty0 ty1 ty2) ?_
 unfold ze2
 delta z7a z62
 obtain ⟨p1,p2⟩:=hp
 have hk:=at_ok (a:=a) p1 p2
 simp only [eq_self,exists_const,forall_const,decide_eq_true_eq,decide_eq_false_iff_not,and_true,true_and,bne_iff_ne,ne_eq,bne_eq_false_iff_eq,Int.toNat_natCast,Bool.not_eq_true',Bool.not_eq_false',beq_iff_eq,beq_eq_false_iff_ne,z09]
 refine ⟨fun h=>?_,fun h=>?_⟩
 ·unfold redF; rw [h,if_neg (by decide),W_zero]; exact ⟨rfl,rfl⟩
 ·have ho:=gOk_ok h
  obtain ⟨o1,o2,o3,o4⟩:=okArc_iff.1 ho
  have e:z2v (I.sup.length:Int) I.arcs a = atA I a:=rfl
  have e1:atF I pot a = pot.getD (atA I a).src.toNat 0:=by unfold atF; rw [if_pos h]
  have e2:atT I pot a = pot.getD (atA I a).dst.toNat 0:=by unfold atT; rw [if_pos h]
  rw [e1,e2] at hk
  simp only [e,o1,o3,if_true,wminus_W,zih,redF,h,e1,e2,redA,and_self]
  exact ⟨hk.1,hk.2.1,⟨zjh _,zjh _⟩,hk.2.2,⟨zjh _,zjh _⟩,trivial⟩
theorem rReduced_ok:SpecOk Try.prog rReduced_n true (z04 true ze3) :=
 z0b z0v (show z1w Try.prog zhs from z02 rArc_ok (z02 rMinus_ok (z02 rOf_ok (z02 At_ok (z02 zjx (z06)))))) (by kernel_rfl) mixedOrders Try.func109 rfl rfl (by kernel_rfl) (n:=3) (by decide +kernel) (I:=rReduced_IA) (fun _ _=>z07) (A:=rReduced_A)
  (fun args h r hr=>by
   unfold ze3 at hr
   split at hr
   ·rename_i a ty0 I_s ty1 I_a ty2 pot; cases hr; refine ⟨rfl,fun hp=>?_⟩; have hE:=rReduced_E ⟨I_s,I_a⟩ pot a ty0 ty1 ty2 hp; exact hE
   ·cases hr)
abbrev zbh (I:Inst) (g':Nat) (g:Nat) (x:List Int) (pot:List Int):=(I.arcs.length - g' < I.arcs.length - g/\((True/\(True/\(0 = 0/\(IntKind.i64.wrap ((↑g:Int) + (1:Int)) = (↑g':Int)/\True))))/\((True/\(True/\True))/\(I.sup = I.sup/\(I.arcs = I.arcs/\(x = x/\(pot = pot/\True)))))))
abbrev zbi (I:Inst) (pot:List Int) (g:Nat):=(zje (W (redF I pot (↑g:Int))) { hi:=(0:Int),lo:=(0:Int):Wide } < (0:Int))
abbrev z8y (g:Nat) (I:Inst):=((0:Int) <= ↑g/\((↑g:Int) < ↑I.arcs.length))
def zne (I : Inst) (x : List Int) (pot : List Int) (ty0 ty1 ty2 ty3 : TypeId) : Prop :=
   (I.sup.length <= (10000:Nat)/\(I.arcs.length <= (10000:Nat)/\(A64 x/\(A64 I.sup))))/\((z1g I x != (0:Int)) = true->(z1g I x = z1f I x pot/\True)/\True)/\((z1g I x != (0:Int)) = false->(((↑pot.length:Int) != (↑I.sup.length:Int)) = true->((30:Int) = z1f I x pot/\True)/\True)/\(((↑pot.length:Int) != (↑I.sup.length:Int)) = false->∃ (g0:Nat),((g0 <= I.arcs.length/\(∀ (j:Nat),j < g0->z44 I x pot j = true))/\((True/\(True/\(0 = 0/\((0:Int) = ↑g0/\True))))/\((True/\(True/\True))/\(I.sup = I.sup/\(I.arcs = I.arcs/\(x = x/\(pot = pot/\True)))))))/\∀ (g:Nat),(g <= I.arcs.length/\(∀ (j:Nat),j < g->z44 I x pot j = true))->(decide ((↑g:Int) < ↑x.length) = true->(A64 pot/\(A64c I.arcs))/\((W (redF I pot (↑g:Int))).ok/\({ hi:=(0:Int),lo:=(0:Int):Wide }.ok))/\(decide (zje (W (redF I pot (↑g:Int))) { hi:=(0:Int),lo:=(0:Int):Wide } > (0:Int)) = true->((0:Int) <= ↑g/\((↑g:Int) < ↑x.length))/\((↑g:Int).toNat < x.length/\(∀ (x_1:Int),x[(↑g:Int).toNat]? = some x_1->(z8y g I)/\((↑g:Int).toNat < I.arcs.length/\(∀ (x_2:Arc),I.arcs[(↑g:Int).toNat]? = some x_2->((x_1 != x_2.low) = true->((33:Int) = z1f I x pot/\True)/\True)/\((x_1 != x_2.low) = false->(decide (zbi I pot g) = true->((0:Int) <= ↑g/\((↑g:Int) < ↑x.length))/\((↑g:Int).toNat < x.length/\(∀ (x_3:Int),x[(↑g:Int).toNat]? = some x_3->(z8y g I)/\((↑g:Int).toNat < I.arcs.length/\(∀ (x_4:Arc),I.arcs[(↑g:Int).toNat]? = some x_4->((x_3 != x_4.cap) = true->((33:Int) = z1f I x pot/\True)/\True)/\((x_3 != x_4.cap) = false->(z8y g I)/\((↑g:Int).toNat < I.arcs.length/\(∀ (x_5:Arc),I.arcs[(↑g:Int).toNat]? = some x_5->((x_5.cap == (4611686018427387904:Int)) = true->((33:Int) = z1f I x pot/\True)/\True)/\((x_5.cap == (4611686018427387904:Int)) = false->∃ (g':Nat),(g' <= I.arcs.length/\(∀ (j:Nat),j < g'->z44 I x pot j = true))/\(zbh I g' g x pot))))))))))/\(decide (zbi I pot g) = false->∃ (g':Nat),(g' <= I.arcs.length/\(∀ (j:Nat),j < g'->z44 I x pot j = true))/\(zbh I g' g x pot))))))))/\(decide (zje (W (redF I pot (↑g:Int))) { hi:=(0:Int),lo:=(0:Int):Wide } > (0:Int)) = false->(decide (zbi I pot g) = true->((0:Int) <= ↑g/\((↑g:Int) < ↑x.length))/\((↑g:Int).toNat < x.length/\(∀ (x_1:Int),x[(↑g:Int).toNat]? = some x_1->(z8y g I)/\((↑g:Int).toNat < I.arcs.length/\(∀ (x_2:Arc),I.arcs[(↑g:Int).toNat]? = some x_2->((x_1 != x_2.cap) = true->((33:Int) = z1f I x pot/\True)/\True)/\((x_1 != x_2.cap) = false->(z8y g I)/\((↑g:Int).toNat < I.arcs.length/\(∀ (x_3:Arc),I.arcs[(↑g:Int).toNat]? = some x_3->((x_3.cap == (4611686018427387904:Int)) = true->((33:Int) = z1f I x pot/\True)/\True)/\((x_3.cap == (4611686018427387904:Int)) = false->∃ (g':Nat),(g' <= I.arcs.length/\(∀ (j:Nat),j < g'->z44 I x pot j = true))/\(zbh I g' g x pot))))))))))/\(decide (zbi I pot g) = false->∃ (g':Nat),(g' <= I.arcs.length/\(∀ (j:Nat),j < g'->z44 I x pot j = true))/\(zbh I g' g x pot))))/\(decide ((↑g:Int) < ↑x.length) = false->((0:Int) = z1f I x pot/\True)/\True)))
theorem rSlack_q (I:Inst) (x:List Int) (pot:List Int) (ty0 ty1 ty2 ty3:TypeId):zne I x pot ty0 ty1 ty2 ty3 = z3p TT rSlack_g (rSlack_I I x pot) (znf I x pot) Try.f72 [.agg [.row 0,.row 1],.row 2,.row 3] [(0,.row false ty0 (.ints .i64 I.sup)),(1,.row false ty1 (.arcs I.arcs)),(2,.row false ty2 (.ints .i64 x)),(3,.row false ty3 (.ints .i64 pot))] (rSlack_r I x pot):=by kernel_rfl
theorem rSlack_E (I:Inst) (x:List Int) (pot:List Int) (ty0 ty1 ty2 ty3:TypeId) (hp:I.sup.length <= 10000/\I.arcs.length <= 10000/\A64 x/\A64 I.sup/\A64 pot/\A64c I.arcs):FVc TT rSlack_g (rSlack_I I x pot) (znf I x pot) Try.f72 [.agg [.row 0,.row 1],.row 2,.row 3] [(0,.row false ty0 (.ints .i64 I.sup)),(1,.row false ty1 (.arcs I.arcs)),(2,.row false ty2 (.ints .i64 x)),(3,.row false ty3 (.ints .i64 pot))] (rSlack_r I x pot):=by
 refine FVc.of (zne I x pot ty0 ty1 ty2 ty3) (rSlack_q I x pot ty0 ty1 ty2 ty3) ?_
 unfold zne
 delta z8y zbi zbh
 obtain ⟨p1,p2,p3,p4,p5,p6⟩:=hp
 have bad:∀ j,j < I.arcs.length->z1g I x = 0->pot.length = I.sup.length->z44 I x pot j = false->33 = z1f I x pot:=fun j hj h1 h2 h3=>by
  unfold z1f
  rw [if_neg (by omega),if_neg (by omega),if_neg]
  intro ha
  have:=List.all_eq_true.1 ha j (List.mem_range.2 hj)
  rw [h3] at this; cases this
 have nx:∀ g,g < I.arcs.length->(∀ j,j < g->z44 I x pot j = true)->z44 I x pot g = true->∃ g',(g' <= I.arcs.length/\∀ j,j < g'->z44 I x pot j = true)/\I.arcs.length - g' < I.arcs.length - g/\IntKind.i64.wrap ((g:Int) + 1) = (g':Int):=fun g hg h1 h2 =>
  ⟨g + 1,⟨by omega,fun j hj=>by
   by_cases e:j = g
   ·subst e; exact h2
   ·exact h1 j (by omega)⟩,by omega,by rw [w64 (by omega) (by omega)]; omega⟩
 simp only [eq_self,exists_const,forall_const,decide_eq_true_eq,decide_eq_false_iff_not,and_true,true_and,bne_iff_ne,ne_eq,bne_eq_false_iff_eq,Int.toNat_natCast,Bool.not_eq_true',Bool.not_eq_false',beq_iff_eq,beq_eq_false_iff_ne,z09]
 refine ⟨⟨p1,p2,p3,p4⟩,fun h=>by unfold z1f; rw [if_pos h],fun hf=>⟨fun h=>by unfold z1f; rw [if_neg (by omega),if_pos (by omega)],fun hl=>?_⟩⟩
 have hz:=fitsF_zero.1 hf
 have hzl:=hz.2.1
 refine ⟨0,⟨⟨by omega,fun j hj=>by omega⟩,rfl⟩,fun g hg=>⟨fun h1=>?_,fun h1=>?_⟩⟩
 ·have hgl:g < I.arcs.length:=by omega
  have hgx:g < x.length:=by omega
  obtain ⟨b,hb⟩:∃ b,I.arcs[g]? = some b:=⟨_,List.getElem?_eq_getElem hgl⟩
  obtain ⟨y,hy⟩:∃ y,x[g]? = some y:=⟨_,List.getElem?_eq_getElem hgx⟩
  have hbd:I.arcs.getD g default = b:=by simp [List.getD,hb]
  have hyd:x.getD g 0 = y:=by simp [List.getD,hy]
  have key:z44 I x pot g = z6k (redF I pot g) y b:=by unfold z44; rw [hbd,hyd]
  have B:=bad g hgl hf (by omega)
  have N:=nx g hgl hg.2
  rw [key] at B N
  have e0:(⟨0,0⟩:Wide) = W 0:=W_zero.symm
  simp only [hy,hb,Option.some.injEq,forall_eq',e0]
  have hs:zje (W (redF I pot g)) (W 0) = sgn (redF I pot g):=rfl
  rw [hs]
  have q1:(0:Int) <= g:=by omega
  have q2:(g:Int) < x.length:=by omega
  have q3:(g:Int) < I.arcs.length:=by omega
  unfold z6k inf at B N
  refine ⟨⟨p5,p6⟩,⟨zjh _,zjh _⟩,?_⟩
  generalize redF I pot g = r at *
  refine ⟨fun c1=>⟨⟨q1,q2⟩,hgx,⟨q1,q3⟩,hgl,fun c2=>B (by simp [show 0 < sgn r from c1,c2]),fun c2=>⟨fun c3=>by omega,fun c3=>N (by simp [c3,c2])⟩⟩,fun c1=>⟨fun c3=>⟨⟨q1,q2⟩,hgx,⟨q1,q3⟩,hgl,fun c4=>B (by simp [c3,c4]),fun c4=>⟨⟨q1,q3⟩,hgl,fun c5=>B (by simp [c3,c5]),fun c5=>N (by simp [show ¬ 0 < sgn r from c1,c4,c5])⟩⟩,fun c3=>N (by simp [show ¬ 0 < sgn r from c1,c3])⟩⟩
 ·have:(List.range I.arcs.length).all (z44 I x pot) = true:=List.all_eq_true.2 fun j hj=>hg.2 j (by have:=List.mem_range.1 hj; omega)
  unfold z1f
  rw [if_neg (by omega),if_neg (by omega),if_pos this]
theorem rSlack_ok:SpecOk Try.prog rSlack_n true (z04 true zng) :=
 z0b z0v (show z1w Try.prog rSlack_g from z02 rFits_ok (z02 rReduced_ok (z02 rCompare_ok (z06)))) (by kernel_rfl) mixedOrders Try.func72 rfl rfl (by kernel_rfl) (n:=3) (by decide +kernel) (I:=rSlack_IA) (fun _ _=>z07) (A:=rSlack_A)
  (fun args h r hr=>by
   unfold zng at hr
   split at hr
   ·rename_i ty0 I_s ty1 I_a ty2 x ty3 pot; cases hr; refine ⟨rfl,fun hp=>?_⟩; have hE:=rSlack_E ⟨I_s,I_a⟩ x pot ty0 ty1 ty2 ty3 hp; exact hE
   ·cases hr)
end Go.Proofs.Ytggblkbecekbdaa
end
section
namespace Go.Proofs.Ytggblkbecekbdaa
open Go Go.RowKit Go.Ql Go.Vc
end Go.Proofs.Ytggblkbecekbdaa
end
section
namespace Go.Proofs.Ytggblkbecekbdaa
open Go Go.RowKit Go.Ql Go.Vc
end Go.Proofs.Ytggblkbecekbdaa
end
section
namespace Go.Proofs.Ytggblkbecekbdaa
open Go Go.RowKit Go.Ql Go.Vc
def potE (e:List Int) (n:Nat):Int:=if n < e.length then e.getD n 0 % 25 - 8 else 0
def z57 (e:List Int) (n:Nat):List Int:=(List.range n).map (potE e)
def Pot_r (e:List Int) (n:Int):FRes:={ pre:=Bytes e/\e.length <= maxLen/\0 <= n/\n <= 1000000,res:=.row 1,rows:=[.row 2 (.ints .i64 (z57 e n.toNat))],eff:=[] }
def Pot_fs:FS:=fun args h=>match args,h with
 | [.row 0,.int .i64 n],[(0,.row false ty0 (.ints .u8 e))]=>some (Pot_r e n)
 | _,_=>none
def Pot_an (e:List Int) (n:Int):List (Nat × Ann):=[(3,{ G:=(Nat),inv:=fun k=>⟨[(0,.row 0),(1,.int .i64 n),(5,.row 2),(6,.int .i64 k)],[(2,.row true 2 (.ints .i64 (z57 e k))),(0,.row false 0 (.ints .u8 e))],3⟩,rel:=fun k0 k=>k <= n.toNat,meas:=fun k=>n.toNat - k })]
def Pot_A:List SV->z0f->List (Nat × Ann):=fun args h=>match args,h with
 | [.row 0,.int .i64 n],[(0,.row false ty0 (.ints .u8 e))]=>Pot_an e n
 | _,_=>[]
def Pot_g:z0d:=[]
abbrev Pot_n:Nat:=16
def Pot_I (e:List Int) (n:Int):List (Nat × z0a):=[]
def Pot_IA:List SV->z0f->List (Nat × z0a):=fun _ _=>[]
end Go.Proofs.Ytggblkbecekbdaa
end
section
namespace Go.Proofs.Ytggblkbecekbdaa
open Go Go.RowKit Go.Ql Go.Vc
theorem potF_len (e:List Int) (n:Nat):(z57 e n).length = n:=by simp [z57]
theorem potF_succ (e:List Int) (n:Nat):z57 e (n + 1) = z57 e n ++ [potE e n]:=by simp [z57,List.range_succ]
def Pot_E0 (e : List Int) (n : Int) (ty0 : TypeId) : Prop :=
      ∃ (g0:Nat),
 (g0 <= n.toNat/\(True/\n = n/\True/\(0:Int) = (↑g0:Int)/\True)/\[] = z57 e g0/\e = e/\True) /\
 ∀ (g:Nat),
 g <= n.toNat ->
 (decide ((↑g:Int) < n) = true ->
 (decide ((↑g:Int) < (↑e.length:Int)) = true ->
 ((0:Int) <= (↑g:Int)/\(↑g:Int) < (↑e.length:Int)) /\
 (↑g:Int).toNat < e.length /\
 ∀ (x:Int),
 e[(↑g:Int).toNat]? = some x ->
 (25:Int) ≠ (0:Int) /\
 (z57 e g).length + (1:Nat) <= (1000000000:Nat) /\
 ∃ (g':Nat),
 g' <= n.toNat /\
 n.toNat - g' < n.toNat - g /\
 (True/\n = n/\True/\IntKind.i64.wrap ((↑g:Int) + (1:Int)) = (↑g':Int)/\True) /\
 z57 e g ++ [IntKind.i64.wrap (IntKind.i64.wrap (x.tmod (25:Int)) - (8:Int))] = z57 e g'/\e = e/\True) /\
 (decide ((↑g:Int) < (↑e.length:Int)) = false ->
 (z57 e g).length + (1:Nat) <= (1000000000:Nat) /\
 ∃ (g':Nat),
 g' <= n.toNat /\
 n.toNat - g' < n.toNat - g /\
 (True/\n = n/\True/\IntKind.i64.wrap ((↑g:Int) + (1:Int)) = (↑g':Int)/\True)/\z57 e g ++ [(0:Int)] = z57 e g'/\e = e/\True)) /\
 (decide ((↑g:Int) < n) = false->(True/\True)/\z57 e g = z57 e n.toNat/\True)
theorem Pot_q (e:List Int) (n:Int) (ty0:TypeId):Pot_E0 e n ty0 = z3p TT Pot_g (Pot_I e n) (Pot_an e n) Try.f16 [.row 0,.int .i64 n] [(0,.row false ty0 (.ints .u8 e))] (Pot_r e n):=by kernel_rfl
theorem Pot_E (e:List Int) (n:Int) (ty0:TypeId) (hp:Bytes e/\e.length <= maxLen/\0 <= n/\n <= 1000000):FVc TT Pot_g (Pot_I e n) (Pot_an e n) Try.f16 [.row 0,.int .i64 n] [(0,.row false ty0 (.ints .u8 e))] (Pot_r e n):=by
 refine FVc.of (Pot_E0 e n ty0) (Pot_q e n ty0) ?_
 unfold Pot_E0
 obtain ⟨p1,p2,p3,p4⟩:=hp
 simp only [eq_self,exists_const,forall_const,decide_eq_true_eq,decide_eq_false_iff_not,and_true,true_and,bne_iff_ne,ne_eq,bne_eq_false_iff_eq,Int.toNat_natCast,Bool.not_eq_true',Bool.not_eq_false',beq_iff_eq,beq_eq_false_iff_ne,z09]
 refine ⟨0,⟨by omega,rfl,rfl⟩,fun g hg=>⟨fun h1=>⟨fun h2=>⟨by omega,by omega,fun x hx=>⟨by decide,?_⟩⟩,fun h2=>?_⟩,fun h1=>?_⟩⟩
 ·have hb:=p1 x (List.mem_of_getElem? hx)
  have hd:e.getD g 0 = x:=by simp [List.getD,hx]
  refine ⟨by rw [potF_len]; omega,g + 1,by omega,by omega,by rw [w64 (by omega) (by omega)]; omega,?_⟩
  rw [potF_succ,z4v hb.1,w64 (x:=x % 25) (by omega) (by omega),w64 (by omega) (by omega)]
  unfold potE
  rw [if_pos (by omega),hd]
 ·refine ⟨by rw [potF_len]; omega,g + 1,by omega,by omega,by rw [w64 (by omega) (by omega)]; omega,?_⟩
  rw [potF_succ]
  unfold potE
  rw [if_neg (by omega)]
 ·rw [show n.toNat = g by omega]
theorem Pot_ok:SpecOk Try.prog Pot_n true (z04 true Pot_fs) :=
 z0b z0v (show z1w Try.prog Pot_g from z06) (by kernel_rfl) mixedOrders Try.func16 rfl rfl (by kernel_rfl) (n:=2) (by decide +kernel) (I:=Pot_IA) (fun _ _=>z07) (A:=Pot_A)
  (fun args h r hr=>by
   unfold Pot_fs at hr
   split at hr
   ·rename_i n ty0 e; cases hr; refine ⟨rfl,fun hp=>?_⟩; have hE:=Pot_E e n ty0 hp; exact hE
   ·cases hr)
end Go.Proofs.Ytggblkbecekbdaa
end
section
namespace Go.Proofs.Ytggblkbecekbdaa
open Go Go.RowKit Go.Ql Go.Vc
end Go.Proofs.Ytggblkbecekbdaa
end
section
namespace Go.Proofs.Ytggblkbecekbdaa
open Go Go.RowKit Go.Ql Go.Vc
end Go.Proofs.Ytggblkbecekbdaa
end
section
namespace Go.Proofs.Ytggblkbecekbdaa
open Go Go.RowKit Go.Ql Go.Vc
end Go.Proofs.Ytggblkbecekbdaa
end
section
namespace Go.Proofs.Ytggblkbecekbdaa
open Go Go.RowKit Go.Ql Go.Vc
end Go.Proofs.Ytggblkbecekbdaa
end
section
namespace Go.Proofs.Ytggblkbecekbdaa
open Go Go.RowKit Go.Ql Go.Vc
def ValueC_r (I:Inst) (c:Cert):FRes:={ pre:=z5r c/\zae I,res:=.tup [.agg (z0w (z28 I c)),.bool (decide (c.kind = 1))],rows:=[],eff:=[] }
def zao:FS:=fun args h=>match args,h with
 | [.agg [.row 0,.row 1],.agg [.int .i64 c_k,.row 2,.row 3,.row 4,.row 5]],[(0,.row false ty0 (.ints .i64 I_s)),(1,.row false ty1 (.arcs I_a)),(2,.row false ty2 (.ints .i64 c_f)),(3,.row false ty3 (.ints .i64 c_p)),(4,.row false ty4 (.bools c_s)),(5,.row false ty5 (.ints .i64 c_y))]=>some (ValueC_r ⟨I_s,I_a⟩ ⟨c_k,c_f,c_p,c_s,c_y⟩)
 | _,_=>none
def ValueC_an (I:Inst) (c:Cert):List (Nat × Ann):=[]
def ValueC_A:List SV->z0f->List (Nat × Ann):=fun _ _=>[]
def ValueC_g:z0d:=[(Cost_n,(true,z04 true Cost_fs))]
abbrev zjg:Nat:=15
def ValueC_I (I:Inst) (c:Cert):List (Nat × z0a):=[]
def ValueC_IA:List SV->z0f->List (Nat × z0a):=fun _ _=>[]
end Go.Proofs.Ytggblkbecekbdaa
end
section
namespace Go.Proofs.Ytggblkbecekbdaa
open Go Go.RowKit Go.Ql Go.Vc
def zkp (I : Inst) (c : Cert) (ty0 ty1 ty2 ty3 ty4 ty5 : TypeId) : Prop :=
      ((c.kind != (1:Int)) = true->((((0:Int) = (z28 I c).hi/\(0:Int) = (z28 I c).lo/\True)/\false = decide (c.kind = (1:Int))/\True)/\True)/\True) /\
 ((c.kind != (1:Int)) = false ->
 (A64 c.flow/\A64c I.arcs/\I.arcs.length <= (1000000:Nat)) /\
 ((((W (z3v I c.flow)).hi = (z28 I c).hi/\(W (z3v I c.flow)).lo = (z28 I c).lo/\True)/\true = decide (c.kind = (1:Int))/\True)/\True)/\True)
theorem ValueC_q (I:Inst) (c:Cert) (ty0 ty1 ty2 ty3 ty4 ty5:TypeId):zkp I c ty0 ty1 ty2 ty3 ty4 ty5 = z3p TT ValueC_g (ValueC_I I c) (ValueC_an I c) Try.f15 [.agg [.row 0,.row 1],.agg [.int .i64 c.kind,.row 2,.row 3,.row 4,.row 5]] [(0,.row false ty0 (.ints .i64 I.sup)),(1,.row false ty1 (.arcs I.arcs)),(2,.row false ty2 (.ints .i64 c.flow)),(3,.row false ty3 (.ints .i64 c.pot)),(4,.row false ty4 (.bools c.side)),(5,.row false ty5 (.ints .i64 c.cycle))] (ValueC_r I c):=by kernel_rfl
theorem ValueC_E (I:Inst) (c:Cert) (ty0 ty1 ty2 ty3 ty4 ty5:TypeId) (hp:z5r c/\zae I):FVc TT ValueC_g (ValueC_I I c) (ValueC_an I c) Try.f15 [.agg [.row 0,.row 1],.agg [.int .i64 c.kind,.row 2,.row 3,.row 4,.row 5]] [(0,.row false ty0 (.ints .i64 I.sup)),(1,.row false ty1 (.arcs I.arcs)),(2,.row false ty2 (.ints .i64 c.flow)),(3,.row false ty3 (.ints .i64 c.pot)),(4,.row false ty4 (.bools c.side)),(5,.row false ty5 (.ints .i64 c.cycle))] (ValueC_r I c):=by
 refine FVc.of (zkp I c ty0 ty1 ty2 ty3 ty4 ty5) (ValueC_q I c ty0 ty1 ty2 ty3 ty4 ty5) ?_
 unfold zkp
 obtain ⟨c1,c2,c3,c4,c5,c6⟩:=hp.1
 obtain ⟨i1,i2,i3,i4,i5⟩:=hp.2
 simp only [eq_self,exists_const,forall_const,decide_eq_true_eq,decide_eq_false_iff_not,and_true,true_and,bne_iff_ne,ne_eq,bne_eq_false_iff_eq,Int.toNat_natCast,Bool.not_eq_true',Bool.not_eq_false',beq_iff_eq,beq_eq_false_iff_ne,z09]
 unfold z28
 refine ⟨fun h=>by rw [if_neg h]; exact ⟨⟨rfl,rfl⟩,(decide_eq_false h).symm⟩,fun h=>⟨⟨c1,i5,by omega⟩,by rw [if_pos h]; exact ⟨⟨rfl,rfl⟩,(decide_eq_true h).symm⟩⟩⟩
theorem zkq:SpecOk Try.prog zjg true (z04 true zao) :=
 z0b z0v (show z1w Try.prog ValueC_g from z02 Cost_ok (z06)) (by kernel_rfl) mixedOrders Try.func15 rfl rfl (by kernel_rfl) (n:=2) (by decide +kernel) (I:=ValueC_IA) (fun _ _=>z07) (A:=ValueC_A)
  (fun args h r hr=>by
   unfold zao at hr
   split at hr
   ·rename_i c_k ty0 I_s ty1 I_a ty2 c_f ty3 c_p ty4 c_s ty5 c_y; cases hr; refine ⟨rfl,fun hp=>?_⟩; have hE:=ValueC_E ⟨I_s,I_a⟩ ⟨c_k,c_f,c_p,c_s,c_y⟩ ty0 ty1 ty2 ty3 ty4 ty5 hp; exact hE
   ·cases hr)
end Go.Proofs.Ytggblkbecekbdaa
end
section
namespace Go.Proofs.Ytggblkbecekbdaa
open Go Go.RowKit Go.Ql Go.Vc
def zhr (c:Cert):FRes:={ pre:=True,res:=.bool (z3b c),rows:=[],eff:=[] }
def ze0:FS:=fun args h=>match args,h with
 | [.agg [.int .i64 c_k,.row 0,.row 1,.row 2,.row 3]],[(0,.row false ty0 (.ints .i64 c_f)),(1,.row false ty1 (.ints .i64 c_p)),(2,.row false ty2 (.bools c_s)),(3,.row false ty3 (.ints .i64 c_y))]=>some (zhr ⟨c_k,c_f,c_p,c_s,c_y⟩)
 | _,_=>none
def zn9 (c:Cert):List (Nat × Ann):=[]
def rPlain13_A:List SV->z0f->List (Nat × Ann):=fun _ _=>[]
def zhq:z0d:=[]
abbrev rPlain13_n:Nat:=71
def rPlain13_I (c:Cert):List (Nat × z0a):=[]
def rPlain13_IA:List SV->z0f->List (Nat × z0a):=fun _ _=>[]
def rProvesN_r (I:Inst) (side:List Bool):FRes:={ pre:=False,res:=.int .i64 (0),rows:=[],eff:=[] }
def ze1:FS:=fun args h=>match args,h with
 | [.agg [.row 0,.row 1],.row 2],[(0,.row false ty0 (.ints .i64 I_s)),(1,.row false ty1 (.arcs I_a)),(2,.row false ty2 (.bools side))]=>some (rProvesN_r ⟨I_s,I_a⟩ side)
 | _,_=>none
def rProvesN_g:z0d:=[]
abbrev rProvesN_n:Nat:=73
def rTurnsN_r (I:Inst) (l:List Int):FRes:={ pre:=False,res:=.int .i64 (0),rows:=[],eff:=[] }
def zhu:FS:=fun args h=>match args,h with
 | [.agg [.row 0,.row 1],.row 2],[(0,.row false ty0 (.ints .i64 I_s)),(1,.row false ty1 (.arcs I_a)),(2,.row false ty2 (.ints .i64 l))]=>some (rTurnsN_r ⟨I_s,I_a⟩ l)
 | _,_=>none
def rTurnsN_g:z0d:=[]
abbrev rTurnsN_n:Nat:=75
def zn5 (I:Inst) (c:Cert):FRes:={ pre:=z5r c/\zae I/\c.kind = 1,res:=.int .i64 (z25 I c),rows:=[],eff:=[] }
def zhm:FS:=fun args h=>match args,h with
 | [.agg [.row 0,.row 1],.agg [.int .i64 c_k,.row 2,.row 3,.row 4,.row 5]],[(0,.row false ty0 (.ints .i64 I_s)),(1,.row false ty1 (.arcs I_a)),(2,.row false ty2 (.ints .i64 c_f)),(3,.row false ty3 (.ints .i64 c_p)),(4,.row false ty4 (.bools c_s)),(5,.row false ty5 (.ints .i64 c_y))]=>some (zn5 ⟨I_s,I_a⟩ ⟨c_k,c_f,c_p,c_s,c_y⟩)
 | _,_=>none
def rCheckB_an (I:Inst) (c:Cert):List (Nat × Ann):=[]
def rCheckB_A:List SV->z0f->List (Nat × Ann):=fun _ _=>[]
def zn4:z0d:=[(rRight_n,(true,z04 true zfg)),(rPlain13_n,(true,z04 true ze0)),(rSlack_n,(true,z04 true zng)),(rProvesN_n,(true,z04 true ze1)),(rFits_n,(true,z04 true zjw)),(rTurnsN_n,(true,z04 true zhu))]
abbrev rCheckB_n:Nat:=42
def rCheckB_I (I:Inst) (c:Cert):List (Nat × z0a):=[]
def rCheckB_IA:List SV->z0f->List (Nat × z0a):=fun _ _=>[]
end Go.Proofs.Ytggblkbecekbdaa
end
