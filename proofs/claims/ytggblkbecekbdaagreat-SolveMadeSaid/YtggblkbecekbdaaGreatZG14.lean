/- Part of the proof: FW20, Solve11, DX20, FX20, Solve12, DY20, FY20, DP11, FP11, DC10, FC10. -/
import Derived.Test.YtggblkbecekbdaaGreatZG8
import Derived.Test.YtggblkbecekbdaaGreatZG13
import Derived.Test.YtggblkbecekbdaaGreatZG5
import Derived.Test.YtggblkbecekbdaaGreatZG9
import Derived.Test.YtggblkbecekbdaaGreatZG7
import Derived.Test.YtggblkbecekbdaaGreatZG12
import Derived.Test.YtggblkbecekbdaaGreatZG6
set_option linter.unusedVariables false
set_option linter.all false
set_option linter.unusedSimpArgs false
set_option maxRecDepth 1000000
section
namespace Go.Proofs.YtggblkbecekbdaaGreat
open Go Go.RowKit Go.Ql Go.Vc
theorem piece20_ok:SpecOk Tryz.prog zkf false z9x :=
 zbm z0r (show z1i Tryz.prog piece20_g from z05) (by kernel_rfl) mixedOrders Tryz.func149 rfl rfl (by kernel_rfl) _
def out20_E0 (g_n : Int) (g_l : List Arc) (g_i : List Int) (g_s : List Int) (n : Int) (ty1 ty2 ty3 : TypeId) : Prop :=
      ∀ (R:Loop->Prop),
 True /\
 ((!(decide ((0:Int) <= n) && decide (n < g_n))) = true->(True/\True)/\[] = z0k g_i g_s n (0:Nat)/\True) /\
 ((!(decide ((0:Int) <= n) && decide (n < g_n))) = false ->
 ((0:Int) <= IntKind.i64.wrap (IntKind.i64.wrap ((2:Int) * n) + (0:Int))/\IntKind.i64.wrap (IntKind.i64.wrap ((2:Int) * n) + (0:Int)) < (↑g_s.length:Int)) /\
 (IntKind.i64.wrap (IntKind.i64.wrap ((2:Int) * n) + (0:Int))).toNat < g_s.length /\
 ∀ (x:Int),
 g_s[(IntKind.i64.wrap (IntKind.i64.wrap ((2:Int) * n) + (0:Int))).toNat]? = some x ->
 ((0:Int) <= IntKind.i64.wrap (IntKind.i64.wrap (IntKind.i64.wrap ((2:Int) * n) + (0:Int)) + (1:Int)) /\
 IntKind.i64.wrap (IntKind.i64.wrap (IntKind.i64.wrap ((2:Int) * n) + (0:Int)) + (1:Int)) < (↑g_s.length:Int)) /\
 (IntKind.i64.wrap (IntKind.i64.wrap (IntKind.i64.wrap ((2:Int) * n) + (0:Int)) + (1:Int))).toNat < g_s.length /\
 ∀ (x_1:Int),
 g_s[(IntKind.i64.wrap (IntKind.i64.wrap (IntKind.i64.wrap ((2:Int) * n) + (0:Int)) + (1:Int))).toNat]? = some x_1 ->
 ((0:Int) <= x/\x <= x_1/\x_1 <= x_1/\x_1 <= (↑g_i.length:Int)) /\
 ∃ (g0:Nat),
 (g0 <= (z0k g_i g_s n (0:Nat)).length /\
 (True /\
 True /\
 (↑(List.drop x.toNat (List.take x_1.toNat g_i)).length:Int) = (↑(z0k g_i g_s n (0:Nat)).length:Int) /\
 (0:Int) = (↑g0:Int)/\True) /\
 (True/\True) /\
 [] = List.take g0 (z0k g_i g_s n (0:Nat)) /\
 List.drop x.toNat (List.take x_1.toNat g_i) = z0k g_i g_s n (0:Nat) /\
 R = R /\
 ((0:Int) = (0:Int)/\True) /\
 (n = n/\True) /\
 ((0:Nat) = (0:Nat)/\True)/\z1s Int/\(g_n = g_n/\True/\True/\True/\True)/\g_l = g_l/\g_i = g_i/\g_s = g_s/\True) /\
 ∀ (g:Nat),
 g <= (z0k g_i g_s n (0:Nat)).length ->
 (decide ((↑g:Int) < (↑(z0k g_i g_s n (0:Nat)).length:Int)) = true ->
 ((0:Int) <= (↑g:Int)/\(↑g:Int) < (↑(z0k g_i g_s n (0:Nat)).length:Int)) /\
 (↑g:Int).toNat < (z0k g_i g_s n (0:Nat)).length /\
 ∀ (x:Int),
 (z0k g_i g_s n (0:Nat))[(↑g:Int).toNat]? = some x ->
 R = R /\
 (List.take g (z0k g_i g_s n (0:Nat))).length + (1:Nat) <= (1000000000:Nat) /\
 ∃ (g':Nat),
 g' <= (z0k g_i g_s n (0:Nat)).length /\
 (z0k g_i g_s n (0:Nat)).length - g' < (z0k g_i g_s n (0:Nat)).length - g /\
 (True /\
 True /\
 (↑(z0k g_i g_s n (0:Nat)).length:Int) = (↑(z0k g_i g_s n (0:Nat)).length:Int) /\
 IntKind.i64.wrap ((↑g:Int) + (1:Int)) = (↑g':Int)/\True) /\
 (True/\True) /\
 List.take g (z0k g_i g_s n (0:Nat)) ++ [x] = List.take g' (z0k g_i g_s n (0:Nat)) /\
 z0k g_i g_s n (0:Nat) = z0k g_i g_s n (0:Nat) /\
 R = R /\
 ((0:Int) = (0:Int)/\True) /\
 (n = n/\True) /\
 ((0:Nat) = (0:Nat)/\True) /\
 z1s Int/\(g_n = g_n/\True/\True/\True/\True)/\g_l = g_l/\g_i = g_i/\g_s = g_s/\True) /\
 (decide ((↑g:Int) < (↑(z0k g_i g_s n (0:Nat)).length:Int)) = false ->
 (True/\True)/\List.take g (z0k g_i g_s n (0:Nat)) = z0k g_i g_s n (0:Nat)/\True))
theorem out20_q (g_n:Int) (g_l:List Arc) (g_i:List Int) (g_s:List Int) (n:Int) (ty1 ty2 ty3:TypeId):out20_E0 g_n g_l g_i g_s n ty1 ty2 ty3 = z3a TT out20_g (out20_I g_n g_l g_i g_s n) (out20_an g_n g_l g_i g_s n) Tryz.f99 [.ptr 0 0 0 0,.int .i64 n] [(0,.box false 137 [.int .i64 g_n,.row 1,.row 2,.row 3]),(1,.row false ty1 (.arcs g_l)),(2,.row false ty2 (.ints .i64 g_i)),(3,.row false ty3 (.ints .i64 g_s))] (out20_r g_n g_l g_i g_s n):=by kernel_rfl
theorem out20_E (g_n:Int) (g_l:List Arc) (g_i:List Int) (g_s:List Int) (n:Int) (ty1 ty2 ty3:TypeId) (hp:PieceOk g_n g_i g_s n 0):FVc TT out20_g (out20_I g_n g_l g_i g_s n) (out20_an g_n g_l g_i g_s n) Tryz.f99 [.ptr 0 0 0 0,.int .i64 n] [(0,.box false 137 [.int .i64 g_n,.row 1,.row 2,.row 3]),(1,.row false ty1 (.arcs g_l)),(2,.row false ty2 (.ints .i64 g_i)),(3,.row false ty3 (.ints .i64 g_s))] (out20_r g_n g_l g_i g_s n):=by
 refine FVc.of (out20_E0 g_n g_l g_i g_s n ty1 ty2 ty3) (out20_q g_n g_l g_i g_s n ty1 ty2 ty3) ?_
 unfold out20_E0
 simp only [eq_self,exists_const,forall_const,decide_eq_true_eq,decide_eq_false_iff_not,and_true,true_and,bne_iff_ne,ne_eq,bne_eq_false_iff_eq,Int.toNat_natCast,Bool.not_eq_true',Bool.not_eq_false',beq_iff_eq,beq_eq_false_iff_ne,z08]
 obtain ⟨n0,n1,gn1,il,sl,a,b,c⟩:=hp
 have e1:IntKind.i64.wrap (IntKind.i64.wrap (2 * n) + 0) = ((2 * n.toNat + 0:Nat):Int):=by rw [w64 (x:=2 * n) (by omega) (by omega),w64 (by omega) (by omega)]; omega
 have e2:IntKind.i64.wrap (((2 * n.toNat + 0:Nat):Int) + 1) = ((2 * n.toNat + 0 + 1:Nat):Int):=by rw [w64 (by omega) (by omega)]; omega
 simp only [e1,e2,Int.toNat_natCast]
 refine ⟨fun h=>?_,fun _=>⟨by omega,by omega,fun x hx=>⟨by omega,by omega,fun y hy=>?_⟩⟩⟩
 ·simp [n0,n1] at h
 have ex:g_s.getD (2 * n.toNat + 0) 0 = x:=by rw [List.getD_eq_getElem?_getD,hx]; rfl
 have ey:g_s.getD (2 * n.toNat + 0 + 1) 0 = y:=by rw [List.getD_eq_getElem?_getD,hy]; rfl
 have hP:z0k g_i g_s n 0 = (g_i.take y.toNat).drop x.toNat:=by unfold z0k; rw [ex,ey]
 have hl:(z0k g_i g_s n 0).length <= g_i.length:=by rw [hP,List.length_drop,List.length_take]; omega
 rw [ex] at a b
 rw [ey] at b c
 rw [<- hP]
 generalize z0k g_i g_s n 0 = P at *
 refine ⟨by omega,0,⟨Nat.zero_le _,⟨rfl,rfl⟩,rfl,rfl⟩,fun k hk=>⟨fun h=>⟨by omega,by omega,fun z hz=>⟨by rw [List.length_take]; omega,k + 1,by omega,by omega,by rw [w64 (by omega) (by omega)]; omega,(z1q hz).symm⟩⟩,fun h=>List.take_of_length_le (by omega)⟩⟩
theorem out20_i0_ok (g_n:Int) (g_l:List Arc) (g_i:List Int) (g_s:List Int) (n:Int):zer Tryz.prog 160 (out20_i0 g_n g_l g_i g_s n) :=
 inlI_ok z0r (show z1i Tryz.prog out20_i0g from z01 has_ok (z05)) (by kernel_rfl) mixedOrders Tryz.func160 rfl rfl (fun key spec=>by kernel_rfl) _
theorem out20_ok:SpecOk Tryz.prog out20_n true (z04 true out20_fs) :=
 z0a z0r (show z1i Tryz.prog out20_g from z01 piece20_ok (z05)) (by kernel_rfl) mixedOrders Tryz.func99 rfl rfl (by kernel_rfl) (n:=2) (by decide +kernel) (I:=out20_IA) (fun args h=>by
   unfold out20_IA
   split
   ·exact zjw (out20_i0_ok _ _ _ _ _) (z06)
   ·exact z06) (A:=out20_A)
  (fun args h r hr=>by
   unfold out20_fs at hr
   split at hr
   ·rename_i n g_n ty1 g_l ty2 g_i ty3 g_s; cases hr; refine ⟨rfl,fun hp=>?_⟩; have hE:=out20_E g_n g_l g_i g_s n ty1 ty2 ty3 hp; exact hE
   ·cases hr)
def in20_E0 (g_n : Int) (g_l : List Arc) (g_i : List Int) (g_s : List Int) (n : Int) (ty1 ty2 ty3 : TypeId) : Prop :=
      ∀ (R:Loop->Prop),
 True /\
 ((!(decide ((0:Int) <= n) && decide (n < g_n))) = true->(True/\True)/\[] = z0k g_i g_s n (1:Nat)/\True) /\
 ((!(decide ((0:Int) <= n) && decide (n < g_n))) = false ->
 ((0:Int) <= IntKind.i64.wrap (IntKind.i64.wrap ((2:Int) * n) + (1:Int))/\IntKind.i64.wrap (IntKind.i64.wrap ((2:Int) * n) + (1:Int)) < (↑g_s.length:Int)) /\
 (IntKind.i64.wrap (IntKind.i64.wrap ((2:Int) * n) + (1:Int))).toNat < g_s.length /\
 ∀ (x:Int),
 g_s[(IntKind.i64.wrap (IntKind.i64.wrap ((2:Int) * n) + (1:Int))).toNat]? = some x ->
 ((0:Int) <= IntKind.i64.wrap (IntKind.i64.wrap (IntKind.i64.wrap ((2:Int) * n) + (1:Int)) + (1:Int)) /\
 IntKind.i64.wrap (IntKind.i64.wrap (IntKind.i64.wrap ((2:Int) * n) + (1:Int)) + (1:Int)) < (↑g_s.length:Int)) /\
 (IntKind.i64.wrap (IntKind.i64.wrap (IntKind.i64.wrap ((2:Int) * n) + (1:Int)) + (1:Int))).toNat < g_s.length /\
 ∀ (x_1:Int),
 g_s[(IntKind.i64.wrap (IntKind.i64.wrap (IntKind.i64.wrap ((2:Int) * n) + (1:Int)) + (1:Int))).toNat]? = some x_1 ->
 ((0:Int) <= x/\x <= x_1/\x_1 <= x_1/\x_1 <= (↑g_i.length:Int)) /\
 ∃ (g0:Nat),
 (g0 <= (z0k g_i g_s n (1:Nat)).length /\
 (True /\
 True /\
 (↑(List.drop x.toNat (List.take x_1.toNat g_i)).length:Int) = (↑(z0k g_i g_s n (1:Nat)).length:Int) /\
 (0:Int) = (↑g0:Int)/\True) /\
 (True/\True) /\
 [] = List.take g0 (z0k g_i g_s n (1:Nat)) /\
 List.drop x.toNat (List.take x_1.toNat g_i) = z0k g_i g_s n (1:Nat) /\
 R = R /\
 ((1:Int) = (1:Int)/\True) /\
 (n = n/\True) /\
 ((0:Nat) = (0:Nat)/\True)/\z1s Int/\(g_n = g_n/\True/\True/\True/\True)/\g_l = g_l/\g_i = g_i/\g_s = g_s/\True) /\
 ∀ (g:Nat),
 g <= (z0k g_i g_s n (1:Nat)).length ->
 (decide ((↑g:Int) < (↑(z0k g_i g_s n (1:Nat)).length:Int)) = true ->
 ((0:Int) <= (↑g:Int)/\(↑g:Int) < (↑(z0k g_i g_s n (1:Nat)).length:Int)) /\
 (↑g:Int).toNat < (z0k g_i g_s n (1:Nat)).length /\
 ∀ (x:Int),
 (z0k g_i g_s n (1:Nat))[(↑g:Int).toNat]? = some x ->
 R = R /\
 (List.take g (z0k g_i g_s n (1:Nat))).length + (1:Nat) <= (1000000000:Nat) /\
 ∃ (g':Nat),
 g' <= (z0k g_i g_s n (1:Nat)).length /\
 (z0k g_i g_s n (1:Nat)).length - g' < (z0k g_i g_s n (1:Nat)).length - g /\
 (True /\
 True /\
 (↑(z0k g_i g_s n (1:Nat)).length:Int) = (↑(z0k g_i g_s n (1:Nat)).length:Int) /\
 IntKind.i64.wrap ((↑g:Int) + (1:Int)) = (↑g':Int)/\True) /\
 (True/\True) /\
 List.take g (z0k g_i g_s n (1:Nat)) ++ [x] = List.take g' (z0k g_i g_s n (1:Nat)) /\
 z0k g_i g_s n (1:Nat) = z0k g_i g_s n (1:Nat) /\
 R = R /\
 ((1:Int) = (1:Int)/\True) /\
 (n = n/\True) /\
 ((0:Nat) = (0:Nat)/\True) /\
 z1s Int/\(g_n = g_n/\True/\True/\True/\True)/\g_l = g_l/\g_i = g_i/\g_s = g_s/\True) /\
 (decide ((↑g:Int) < (↑(z0k g_i g_s n (1:Nat)).length:Int)) = false ->
 (True/\True)/\List.take g (z0k g_i g_s n (1:Nat)) = z0k g_i g_s n (1:Nat)/\True))
theorem in20_q (g_n:Int) (g_l:List Arc) (g_i:List Int) (g_s:List Int) (n:Int) (ty1 ty2 ty3:TypeId):in20_E0 g_n g_l g_i g_s n ty1 ty2 ty3 = z3a TT in20_g (in20_I g_n g_l g_i g_s n) (in20_an g_n g_l g_i g_s n) Tryz.f100 [.ptr 0 0 0 0,.int .i64 n] [(0,.box false 137 [.int .i64 g_n,.row 1,.row 2,.row 3]),(1,.row false ty1 (.arcs g_l)),(2,.row false ty2 (.ints .i64 g_i)),(3,.row false ty3 (.ints .i64 g_s))] (in20_r g_n g_l g_i g_s n):=by kernel_rfl
theorem in20_E (g_n:Int) (g_l:List Arc) (g_i:List Int) (g_s:List Int) (n:Int) (ty1 ty2 ty3:TypeId) (hp:PieceOk g_n g_i g_s n 1):FVc TT in20_g (in20_I g_n g_l g_i g_s n) (in20_an g_n g_l g_i g_s n) Tryz.f100 [.ptr 0 0 0 0,.int .i64 n] [(0,.box false 137 [.int .i64 g_n,.row 1,.row 2,.row 3]),(1,.row false ty1 (.arcs g_l)),(2,.row false ty2 (.ints .i64 g_i)),(3,.row false ty3 (.ints .i64 g_s))] (in20_r g_n g_l g_i g_s n):=by
 refine FVc.of (in20_E0 g_n g_l g_i g_s n ty1 ty2 ty3) (in20_q g_n g_l g_i g_s n ty1 ty2 ty3) ?_
 unfold in20_E0
 simp only [eq_self,exists_const,forall_const,decide_eq_true_eq,decide_eq_false_iff_not,and_true,true_and,bne_iff_ne,ne_eq,bne_eq_false_iff_eq,Int.toNat_natCast,Bool.not_eq_true',Bool.not_eq_false',beq_iff_eq,beq_eq_false_iff_ne,z08]
 obtain ⟨n0,n1,gn1,il,sl,a,b,c⟩:=hp
 have e1:IntKind.i64.wrap (IntKind.i64.wrap (2 * n) + 1) = ((2 * n.toNat + 1:Nat):Int):=by rw [w64 (x:=2 * n) (by omega) (by omega),w64 (by omega) (by omega)]; omega
 have e2:IntKind.i64.wrap (((2 * n.toNat + 1:Nat):Int) + 1) = ((2 * n.toNat + 1 + 1:Nat):Int):=by rw [w64 (by omega) (by omega)]; omega
 simp only [e1,e2,Int.toNat_natCast]
 refine ⟨fun h=>?_,fun _=>⟨by omega,by omega,fun x hx=>⟨by omega,by omega,fun y hy=>?_⟩⟩⟩
 ·simp [n0,n1] at h
 have ex:g_s.getD (2 * n.toNat + 1) 0 = x:=by rw [List.getD_eq_getElem?_getD,hx]; rfl
 have ey:g_s.getD (2 * n.toNat + 1 + 1) 0 = y:=by rw [List.getD_eq_getElem?_getD,hy]; rfl
 have hP:z0k g_i g_s n 1 = (g_i.take y.toNat).drop x.toNat:=by unfold z0k; rw [ex,ey]
 have hl:(z0k g_i g_s n 1).length <= g_i.length:=by rw [hP,List.length_drop,List.length_take]; omega
 rw [ex] at a b
 rw [ey] at b c
 rw [<- hP]
 generalize z0k g_i g_s n 1 = P at *
 refine ⟨by omega,0,⟨Nat.zero_le _,⟨rfl,rfl⟩,rfl,rfl⟩,fun k hk=>⟨fun h=>⟨by omega,by omega,fun z hz=>⟨by rw [List.length_take]; omega,k + 1,by omega,by omega,by rw [w64 (by omega) (by omega)]; omega,(z1q hz).symm⟩⟩,fun h=>List.take_of_length_le (by omega)⟩⟩
theorem in20_i0_ok (g_n:Int) (g_l:List Arc) (g_i:List Int) (g_s:List Int) (n:Int):zer Tryz.prog 160 (in20_i0 g_n g_l g_i g_s n) :=
 inlI_ok z0r (show z1i Tryz.prog in20_i0g from z01 has_ok (z05)) (by kernel_rfl) mixedOrders Tryz.func160 rfl rfl (fun key spec=>by kernel_rfl) _
theorem in20_ok:SpecOk Tryz.prog in20_n true (z04 true in20_fs) :=
 z0a z0r (show z1i Tryz.prog in20_g from z01 piece20_ok (z05)) (by kernel_rfl) mixedOrders Tryz.func100 rfl rfl (by kernel_rfl) (n:=2) (by decide +kernel) (I:=in20_IA) (fun args h=>by
   unfold in20_IA
   split
   ·exact zjw (in20_i0_ok _ _ _ _ _) (z06)
   ·exact z06) (A:=in20_A)
  (fun args h r hr=>by
   unfold in20_fs at hr
   split at hr
   ·rename_i n g_n ty1 g_l ty2 g_i ty3 g_s; cases hr; refine ⟨rfl,fun hp=>?_⟩; have hE:=in20_E g_n g_l g_i g_s n ty1 ty2 ty3 hp; exact hE
   ·cases hr)
end Go.Proofs.YtggblkbecekbdaaGreat
end
section
namespace Go.Ql
open Go Go.Vc
structure LowI (I:Inst) (a:Nat) (x o:List Int):Prop where
 over:OverOf I x o
 at_:∀ c,c < I.arcs.length->x.getD c 0 = if c < a then (z2i I c).low else 0
 bd:∀ v,v < I.sup.length->-(4398046511104 * (2 * (a:Int) + 1)) <= o.getD v 0/\o.getD v 0 <= 4398046511104 * (2 * (a:Int) + 1)
 pos:z4m o I.sup.length <= 4398046511104 * ((I.sup.length:Int) + a)
structure BuildP (I:Inst) (x o:List Int) (t:Rows3):Prop where
 low:LowI I I.arcs.length x o
 at_:AtOk I t
theorem netK_zero (n:Nat) (l:List Arc) {x:List Int} (h:∀ c,x.getD c 0 = 0) (v:Nat):∀ k,z3c n l x k v = 0
 | 0=>rfl
 | k + 1=>by
  rw [z3c,netK_zero n l h v k]
  unfold z50
  rw [h]
  simp
def z5a (I:Inst) (n:Nat):List Nat:=segA I I.arcs.length (2 * n)
def z7n (I:Inst) (n:Nat):List Nat:=segA I I.arcs.length (2 * n + 1)
def fwd (l:List Nat):List Stp:=l.map fun a=>(a,false)
def bwd (l:List Nat):List Stp:=l.map fun a=>(a,true)
def stpsF (I:Inst) (n:Nat):List Stp:=fwd (z5a I n) ++ bwd (z7n I n)
def z1u (I:Inst) (n:Nat) (q:List Stp):List (List (List Int)):=(List.range I.sup.length).map fun u=>(if u < n then stpsF I u else if u = n then q else []).map z68
theorem z70 (I:Inst) (n:Nat) (q:List Stp):(z1u I n q).length = I.sup.length:=by simp [z1u]
theorem z6z {I:Inst} {n:Nat} {q:List Stp} {u:Nat} (h:u < I.sup.length):(z1u I n q)[u]? = some ((if u < n then stpsF I u else if u = n then q else []).map z68):=by
 unfold z1u; rw [List.getElem?_map,List.getElem?_range h]; rfl
theorem stpsK_zero (I:Inst):List.replicate I.sup.length [] = z1u I 0 []:=by
 refine List.ext_getElem? fun t=>?_
 by_cases h:t < I.sup.length
 ·rw [z6z h,List.getElem?_replicate,if_pos h,if_neg (Nat.not_lt_zero _)]
  split <;> rfl
 ·rw [List.getElem?_eq_none (by simp; omega),List.getElem?_eq_none (by rw [z70]; omega)]
theorem stpsK_set {I:Inst} {n:Nat} {q:List Stp} (s:Stp) {r:List (List Int)} (hr:(z1u I n q)[n]? = some r):(z1u I n q).set n (r ++ [z68 s]) = z1u I n (q ++ [s]):=by
 have hn:n < I.sup.length:=by have:=(List.getElem?_eq_some_iff.1 hr).1; rwa [z70] at this
 rw [z6z hn,if_neg (Nat.lt_irrefl _),if_pos rfl] at hr
 cases hr
 refine List.ext_getElem? fun t=>?_
 rw [List.getElem?_set,z70]
 by_cases h:t < I.sup.length
 ·by_cases e:n = t
  ·subst e
   rw [if_pos rfl,if_pos hn,z6z h,if_neg (Nat.lt_irrefl _),if_pos rfl,List.map_append]; rfl
  ·rw [if_neg e,z6z h,z6z h]
   by_cases h2:t < n
   ·rw [if_pos h2,if_pos h2]
   ·rw [if_neg h2,if_neg h2,if_neg (fun x=>e x.symm),if_neg (fun x=>e x.symm)]
 ·rw [if_neg (by omega),List.getElem?_eq_none (by rw [z70]; omega),List.getElem?_eq_none (by rw [z70]; omega)]
theorem stpsK_next (I:Inst) (n:Nat):z1u I n (stpsF I n) = z1u I (n + 1) []:=by
 unfold z1u
 refine List.map_congr_left fun u _=>?_
 by_cases h:u < n
 ·rw [if_pos h,if_pos (by omega)]
 ·rw [if_neg h]
  by_cases e:u = n
  ·subst e; rw [if_pos rfl,if_pos (Nat.lt_succ_self _)]
  ·rw [if_neg e,if_neg (by omega)]
   split <;> rfl
theorem fm_len {F:Nat->List Int} {S:Nat->Nat} (h0:S 0 = 0) (hS:∀ k,S (k + 1) = S k + (F k).length):∀ n,((List.range n).flatMap F).length = S n
 | 0=>by simp [h0]
 | n + 1=>by rw [List.range_succ,List.flatMap_append,List.length_append,fm_len h0 hS n,hS]; simp
theorem fm_piece {F:Nat->List Int} {S:Nat->Nat} (h0:S 0 = 0) (hS:∀ k,S (k + 1) = S k + (F k).length) {j:Nat}:∀ n,j < n->(((List.range n).flatMap F).take (S (j + 1))).drop (S j) = F j
 | 0,h=>by omega
 | n + 1,h=>by
  have hl:=fm_len h0 hS n
  rw [List.range_succ,List.flatMap_append]
  by_cases e:j = n
  ·subst e
   rw [List.take_of_length_le (by rw [List.length_append,hl,hS]; simp),<- hl,List.drop_append]
   simp
  ·have hm:∀ d k,S k <= S (k + d):=fun d k=>by
    induction d with
    | zero=>exact Nat.le_refl _
    | succ d ih=>rw [<- Nat.add_assoc,hS]; omega
   have:=hm (n - (j + 1)) (j + 1)
   rw [show j + 1 + (n - (j + 1)) = n by omega] at this
   rw [List.take_append_of_le_length (by omega)]
   exact fm_piece h0 hS n (by omega)
theorem z5k {I:Inst} {j:Nat} (h:j <= 2 * I.sup.length):(z0y I).getD j 0 = (z93 I j:Int):=by
 unfold z0y
 rw [List.getD_eq_getElem?_getD,List.getElem?_map,List.getElem?_range (by omega)]; rfl
theorem piece_is {I:Inst} {n w:Nat} (hn:n < I.sup.length) (hw:w <= 1):z0k (z2g I) (z0y I) (n:Int) w = z40 (segA I I.arcs.length (2 * n + w)):=by
 unfold z0k
 rw [Int.toNat_natCast,z5k (by omega),z5k (by omega),Int.toNat_natCast,Int.toNat_natCast]
 unfold z2g z40
 exact fm_piece (S:=z93 I) rfl (fun k=>by rw [z93,List.length_map]; rfl) _ (by omega)
theorem sumA_len (I:Inst):(z2g I).length = z93 I (2 * I.sup.length):=by
 unfold z2g
 exact fm_len (S:=z93 I) rfl (fun k=>by rw [z93,List.length_map]; rfl) _
theorem piece_ok {I:Inst} (hr:z02 I = 0) {n w:Nat} (hn:n < I.sup.length) (hw:w <= 1):PieceOk I.sup.length (z2g I) (z0y I) (n:Int) w:=by
 have hs:=z0c hr
 have h1:=zah I (2 * n + w) 1
 have h2:=zah I (2 * n + w + 1) (2 * I.sup.length - (2 * n + w + 1))
 rw [show 2 * n + w + 1 + (2 * I.sup.length - (2 * n + w + 1)) = 2 * I.sup.length by omega] at h2
 have h3:=sumA_le I (2 * I.sup.length)
 have h4:2 * I.sup.length * I.arcs.length <= 128 * 256:=Nat.mul_le_mul (by omega) (by omega)
 have h5:=sumA_len I
 refine ⟨by omega,by omega,by omega,by omega,by simp [z0y]; omega,?_,?_,?_⟩
 ·rw [Int.toNat_natCast,z5k (by omega)]; omega
 ·rw [Int.toNat_natCast,z5k (by omega),z5k (by omega)]; omega
 ·rw [Int.toNat_natCast,z5k (by omega)]; omega
theorem segA_mem {I:Inst} (hr:z02 I = 0) {n a:Nat}:(a ∈ z5a I n ↔ a < I.arcs.length/\(z2i I a).src = n)/\(a ∈ z7n I n ↔ a < I.arcs.length/\(z2i I a).dst = n):=by
 have ok:∀ a,a < I.arcs.length->z37 I.sup.length (z2i I a) = true:=fun a ha=>by
  have:=z1l hr ha
  have q1:=this.s0; have q2:=this.s1; have q3:=this.d0; have q4:=this.d1
  exact okArc_iff.2 ⟨q1,by omega,q3,by omega⟩
 have e:∀ j,inK I j a = (z37 I.sup.length (z2i I a) && hasK (z2i I a) j):=fun _=>rfl
 unfold z5a z7n segA
 rw [List.mem_filter,List.mem_filter,List.mem_range,e,e]
 refine ⟨⟨fun h=>⟨h.1,?_⟩,fun h=>⟨h.1,?_⟩⟩,⟨fun h=>⟨h.1,?_⟩,fun h=>⟨h.1,?_⟩⟩⟩
 ·have h2:=h.2
  rw [ok a h.1,Bool.true_and,hasK_iff] at h2
  omega
 ·rw [ok a h.1,Bool.true_and,hasK_iff]; left; omega
 ·have h2:=h.2
  rw [ok a h.1,Bool.true_and,hasK_iff] at h2
  omega
 ·rw [ok a h.1,Bool.true_and,hasK_iff]; right; omega
theorem steps_ok {I:Inst} (hr:z02 I = 0):AtOk I (z1u I I.sup.length []):=by
 have hs:=z0c hr
 refine ⟨z70 _ _ _,fun u hu=>⟨stpsF I u,by rw [z6z hu,if_pos hu],?_,fun s=>?_⟩⟩
 ·have h1:=z9j I (2 * u) I.arcs.length
  have h2:=z9j I (2 * u + 1) I.arcs.length
  unfold z75 at h1 h2
  unfold stpsF fwd bwd z5a z7n
  rw [List.length_append,List.length_map,List.length_map]
  omega
 ·obtain ⟨a,k⟩:=s
  have hm:=@segA_mem I hr u a
  unfold stpsF fwd bwd okS frS
  rw [List.mem_append,List.mem_map,List.mem_map]
  dsimp only
  constructor
  ·rintro (⟨b,hb,he⟩ | ⟨b,hb,he⟩)
   ·cases he
    obtain ⟨q1,q2⟩:=hm.1.1 hb
    exact ⟨q1,by rw [if_neg (by simp)]; omega⟩
   ·cases he
    obtain ⟨q1,q2⟩:=hm.2.1 hb
    exact ⟨q1,by rw [if_pos rfl]; omega⟩
  ·rintro ⟨h1,h2⟩
   have ha:=z1l hr h1
   have:=ha.s0; have:=ha.d0
   cases k with
   | false =>
    rw [if_neg (by simp)] at h2
    exact .inl ⟨a,hm.1.2 ⟨h1,by omega⟩,rfl⟩
   | true =>
    rw [if_pos rfl] at h2
    exact .inr ⟨a,hm.2.2 ⟨h1,by omega⟩,rfl⟩
theorem LowI.begin {I:Inst} (hr:z02 I = 0):LowI I 0 (List.replicate I.arcs.length 0) I.sup:=by
 have hz:∀ c,(List.replicate I.arcs.length (0:Int)).getD c 0 = 0:=fun c=>by
  rw [List.getD_eq_getElem?_getD,List.getElem?_replicate]; split <;> rfl
 refine ⟨⟨rfl,by simp,fun v hv=>by rw [netK_zero _ _ hz]; omega⟩,fun c _=>by rw [hz,if_neg (Nat.not_lt_zero _)],fun v hv=>?_,?_⟩
 ·have hm:I.sup.getD v 0 ∈ I.sup:=by rw [List.getD_eq_getElem?_getD,List.getElem?_eq_getElem hv]; exact List.getElem_mem hv
  have:=(z1g hr).1 _ hm
  omega
 ·have:∀ k,k <= I.sup.length->z4m I.sup k <= 4398046511104 * (k:Int):=fun k=>by
   induction k with
   | zero=>intro _; simp [z4m]
   | succ k ih =>
    intro hk
    have h1:=ih (by omega)
    have hm:I.sup.getD k 0 ∈ I.sup:=by rw [List.getD_eq_getElem?_getD,List.getElem?_eq_getElem hk]; exact List.getElem_mem hk
    have h2:=(z1g hr).1 _ hm
    rw [z4m]
    have e:((k + 1:Nat):Int) = k + 1:=by omega
    rw [e]
    omega
  have:=this _ (Nat.le_refl _)
  have e:((0:Nat):Int) = 0:=rfl
  rw [e]
  omega
theorem LowI.next {I:Inst} (hr:z02 I = 0) {a:Nat} {x o:List Int} (h:LowI I a x o) (ha:a < I.arcs.length):LowI I (a + 1) (z4t x (a,false) (z2i I a).low) (z71 I o (a,false) (z2i I a).low):=by
 have hk:=z1l hr ha
 have hl0:=hk.l0; have hl1:=hk.l1
 refine ⟨h.over.push hr (s:=(a,false)) ha _,fun c hc=>?_,fun v hv=>?_,?_⟩
 ·rw [z8o (by rw [h.over.lx]; exact ha),h.at_ c hc]
  by_cases e:c = a
  ·subst e; rw [if_neg (Nat.lt_irrefl _),if_pos rfl,if_pos (Nat.lt_succ_self _)]; simp
  ·rw [if_neg (show ¬ c = ((a,false):Stp).1 from e)]
   by_cases h2:c < a
   ·rw [if_pos h2,if_pos (by omega)]; omega
   ·rw [if_neg h2,if_neg (by omega)]; rfl
 ·have:=h.bd v hv
  rw [zdm (by rw [h.over.lo]; exact hv)]
  have e:((a + 1:Nat):Int) = a + 1:=by omega
  rw [e]
  repeat' split <;> omega
 ·have:=posS_push hr h.over.lo (s:=(a,false)) ha hl0
  have:=h.pos
  have e:((a + 1:Nat):Int) = a + 1:=by omega
  rw [e]
  omega
theorem LowI.xb {I:Inst} (hr:z02 I = 0) {a:Nat} {x o:List Int} (h:LowI I a x o) (ha:a <= I.arcs.length):XB x/\XB o:=by
 have hs:=z0c hr
 refine ⟨xb_of fun k hk=>?_,xb_of fun k hk=>?_⟩
 ·have hk2:k < I.arcs.length:=by rw [<- h.over.lx]; exact hk
  have:=z1l hr hk2
  have:=this.l0; have:=(z1l hr hk2).l1
  rw [h.at_ k hk2]
  split <;> omega
 ·have:=h.bd k (by rw [<- h.over.lo]; exact hk)
  omega
end Go.Ql
end
section
namespace Go.Proofs.YtggblkbecekbdaaGreat
open Go Go.RowKit Go.Ql Go.Vc
def zj0 (I:Inst):FRel:={ pre:=z02 I = 0,G:=(List Int) × (List Int) × (Rows3),post:=fun ⟨x,o,t⟩=>BuildP I x o t,out:=fun ⟨x,o,t⟩=>{ pre:=True,res:=.ptr 2 0 0 0,rows:=[.box 109 [.row 0,.row 1,.row 3,.row 4,.row 5],.row 2 (.ints .i64 x),.row 2 (.ints .i64 o),.deep 149 147 (.recs (.int .i64) [.bool] t)],eff:=[] } }
def zaq:FR:=fun args h=>match args,h with
 | [.agg [.row 0,.row 1]],[(0,.row false ty0 (.ints .i64 I_s)),(1,.row false ty1 (.arcs I_a))]=>some (zj0 ⟨I_s,I_a⟩)
 | _,_=>none
def zf1 (I:Inst):List (Nat × Ann):=[(1000002,{ G:=(List Value),inv:=fun vs=>⟨[(1,.ptr 2 0 0 0),(3,.ptr 12 0 0 0)],[(2,.box true 25 [.row 0,.row 1]),(12,.box true 109 [.row 0,.row 1,.row 3,.row 5,.row 6]),(0,.row false 0 (.ints .i64 I.sup)),(1,.row false 0 (.arcs I.arcs)),(3,.row true 2 (.ints .i64 (List.replicate I.arcs.length 0))),(5,.row true 2 (.ints .i64 I.sup)),(6,.deep true 149 147 (.recs (.int .i64) [.bool] (z1u I 0 [])) vs none)],13⟩,rel:=fun vs0 vs=>True,meas:=fun vs=>0 }),
 (3,{ G:=(Nat) × (List Int) × (List Int) × (List Value),inv:=fun ⟨a,x,o,vs⟩=>⟨[(1,.ptr 2 0 0 0),(3,.ptr 12 0 0 0),(27,.row 1),(28,.int .i64 (I.arcs.length:Int)),(29,.int .i64 a)],[(2,.box true 25 [.row 0,.row 1]),(12,.box true 109 [.row 0,.row 1,.row 3,.row 5,.row 6]),(0,.row false 0 (.ints .i64 I.sup)),(1,.row false 0 (.arcs I.arcs)),(3,.row true 2 (.ints .i64 x)),(5,.row true 2 (.ints .i64 o)),(6,.deep true 149 147 (.recs (.int .i64) [.bool] (z1u I 0 [])) vs none)],13⟩,rel:=fun ⟨a0,x0,o0,vs0⟩ ⟨a,x,o,vs⟩=>a <= I.arcs.length/\LowI I a x o,meas:=fun ⟨a,x,o,vs⟩=>I.arcs.length - a }),
 (9,{ G:=(Nat) × (List Int) × (List Int) × (List Value),inv:=fun ⟨n,x,o,vs⟩=>⟨[(3,.ptr 12 0 0 0),(6,.ptr 13 0 0 0),(45,.int .i64 (I.sup.length:Int)),(46,.int .i64 n)],[(13,.box true 137 [.int .i64 (↑I.sup.length:Int),.row 14,.row 15,.row 16]),(14,.row true 35 (.arcs I.arcs)),(15,.row true 3 (.ints .i64 (z2g I))),(16,.row true 3 (.ints .i64 (z0y I))),(12,.box true 109 [.row 0,.row 1,.row 3,.row 5,.row 6]),(0,.row false 0 (.ints .i64 I.sup)),(1,.row false 0 (.arcs I.arcs)),(3,.row true 2 (.ints .i64 x)),(5,.row true 2 (.ints .i64 o)),(6,.deep true 149 147 (.recs (.int .i64) [.bool] (z1u I n [])) vs none)],17⟩,rel:=fun ⟨n0,x0,o0,vs0⟩ ⟨n,x,o,vs⟩=>x = x0/\o = o0/\n <= I.sup.length,meas:=fun ⟨n,x,o,vs⟩=>I.sup.length - n }),
 (12,{ G:=(Nat) × (Nat) × (List Int) × (List Int) × (List Value),inv:=fun ⟨n,k,x,o,vs⟩=>⟨[(3,.ptr 12 0 0 0),(6,.ptr 13 0 0 0),(45,.int .i64 (I.sup.length:Int)),(46,.int .i64 n),(7,.int .i64 n),(51,.row 17),(52,.int .i64 ((z5a I n).length:Int)),(53,.int .i64 k)],[(17,.row true 3 (.ints .i64 (z40 (z5a I n)))),(13,.box true 137 [.int .i64 (↑I.sup.length:Int),.row 14,.row 15,.row 16]),(14,.row true 35 (.arcs I.arcs)),(15,.row true 3 (.ints .i64 (z2g I))),(16,.row true 3 (.ints .i64 (z0y I))),(12,.box true 109 [.row 0,.row 1,.row 3,.row 5,.row 6]),(0,.row false 0 (.ints .i64 I.sup)),(1,.row false 0 (.arcs I.arcs)),(3,.row true 2 (.ints .i64 x)),(5,.row true 2 (.ints .i64 o)),(6,.deep true 149 147 (.recs (.int .i64) [.bool] (z1u I n (fwd ((z5a I n).take k)))) vs none)],18⟩,rel:=fun ⟨n0,k0,x0,o0,vs0⟩ ⟨n,k,x,o,vs⟩=>x = x0/\o = o0/\n = n0/\k <= (z5a I n).length,meas:=fun ⟨n,k,x,o,vs⟩=>(z5a I n).length - k }),
 (17,{ G:=(Nat) × (Nat) × (List Int) × (List Int) × (List Value),inv:=fun ⟨n,k,x,o,vs⟩=>⟨[(3,.ptr 12 0 0 0),(6,.ptr 13 0 0 0),(45,.int .i64 (I.sup.length:Int)),(46,.int .i64 n),(7,.int .i64 n),(77,.row 18),(78,.int .i64 ((z7n I n).length:Int)),(79,.int .i64 k)],[(18,.row true 3 (.ints .i64 (z40 (z7n I n)))),(13,.box true 137 [.int .i64 (↑I.sup.length:Int),.row 14,.row 15,.row 16]),(14,.row true 35 (.arcs I.arcs)),(15,.row true 3 (.ints .i64 (z2g I))),(16,.row true 3 (.ints .i64 (z0y I))),(12,.box true 109 [.row 0,.row 1,.row 3,.row 5,.row 6]),(0,.row false 0 (.ints .i64 I.sup)),(1,.row false 0 (.arcs I.arcs)),(3,.row true 2 (.ints .i64 x)),(5,.row true 2 (.ints .i64 o)),(6,.deep true 149 147 (.recs (.int .i64) [.bool] (z1u I n (fwd (z5a I n) ++ bwd ((z7n I n).take k)))) vs none)],19⟩,rel:=fun ⟨n0,k0,x0,o0,vs0⟩ ⟨n,k,x,o,vs⟩=>x = x0/\o = o0/\n = n0/\k <= (z7n I n).length,meas:=fun ⟨n,k,x,o,vs⟩=>(z7n I n).length - k })]
def build20_A:List SV->z0e->List (Nat × Ann):=fun args h=>match args,h with
 | [.agg [.row 0,.row 1]],[(0,.row false ty0 (.ints .i64 I_s)),(1,.row false ty1 (.arcs I_a))]=>zf1 ⟨I_s,I_a⟩
 | _,_=>[]
def ziy:z0b:=[(zhm,(false,z04 false za0)),(New_n,(true,z04 true New_fs)),(out20_n,(true,z04 true out20_fs)),(in20_n,(true,z04 true in20_fs))]
abbrev ziz:Nat:=59
def build20_I (I:Inst):List (Nat × z09):=[]
def build20_IA:List SV->z0e->List (Nat × z09):=fun _ _=>[]
end Go.Proofs.YtggblkbecekbdaaGreat
end
section
namespace Go.Proofs.YtggblkbecekbdaaGreat
open Go Go.RowKit Go.Ql Go.Vc
abbrev z2l:=Nat × Nat × List Int × List Int × List Value
abbrev z55:=Nat × List Int × List Int × List Value
abbrev z0z (I:Inst):=(∃ (g:List Value),True/\((0 = 0/\(0 = 0/\True))/\((True/\(True/\True))/\((True/\(True/\(True/\(True/\(True/\True)))))/\(I.sup = I.sup/\(I.arcs = I.arcs/\(List.replicate (↑I.arcs.length:Int).toNat (0:Int) = List.replicate I.arcs.length (0:Int)/\(I.sup = I.sup/\((List.replicate (↑I.sup.length:Int).toNat [] = z1u I (0:Nat) []/\(List.replicate (↑I.sup.length:Int).toNat (Value.slice none (0:Nat) (0:Nat)) = g/\((none:Option Nat) = none)))/\True)))))))))
abbrev z0p (I:Inst):=((↑I.arcs.length:Int) = ↑I.arcs.length/\((0:Int) <= ↑I.arcs.length/\((↑I.arcs.length:Int) <= 1000000000)))
abbrev z0n (I:Inst):=((↑I.sup.length:Int) = ↑I.sup.length/\((0:Int) <= ↑I.sup.length/\((↑I.sup.length:Int) <= 1000000000)))
abbrev zao (x_1:List (List Int)) (g_2:z2l) (I:Inst) (g0_2:z2l) (x:Int):=(x_1.length + (1:Nat) <= 1000000000/\(((0:Int) <= ↑g_2.1/\((↑g_2.1:Int) < ↑(DK.recs (MK.int IntKind.i64) [MK.bool] (z1u I g_2.1 (fwd (z5a I g_2.1) ++ bwd (List.take g_2.2.1 (z7n I g_2.1))))).len))/\((↑g_2.1:Int).toNat = (↑g_2.1:Int).toNat/\((↑g_2.1:Int).toNat < (z1u I g_2.1 (fwd (z5a I g_2.1) ++ bwd (List.take g_2.2.1 (z7n I g_2.1)))).length/\(∀ (u:Value),∃ (g':z2l),(g'.2.2.fst = g0_2.2.2.fst/\(g'.2.2.2.fst = g0_2.2.2.2.fst/\(g'.fst = g0_2.fst/\(g'.2.fst <= (z7n I g'.fst).length))))/\((z7n I g'.fst).length - g'.2.fst < (z7n I g_2.fst).length - g_2.2.fst/\((0 = 0/\(0 = 0/\((↑I.sup.length:Int) = ↑I.sup.length/\((↑g_2.1:Int) = ↑g'.1/\((↑g_2.1:Int) = ↑g'.1/\(True/\((↑(z7n I g_2.1).length:Int) = ↑(z7n I g'.1).length/\(IntKind.i64.wrap ((↑g_2.2.1:Int) + (1:Int)) = (↑g'.2.1:Int)/\True))))))))/\(z40 (z7n I g_2.1) = z40 (z7n I g'.1)/\(((↑I.sup.length:Int) = ↑I.sup.length/\(True/\(True/\(True/\True))))/\(I.arcs = I.arcs/\(z2g I = z2g I/\(z0y I = z0y I/\((True/\(True/\(True/\(True/\(True/\True)))))/\(I.sup = I.sup/\(I.arcs = I.arcs/\(g_2.2.2.1 = g'.2.2.1/\(g_2.2.2.2.1 = g'.2.2.2.1/\(((z1u I g_2.1 (fwd (z5a I g_2.1) ++ bwd (List.take g_2.2.1 (z7n I g_2.1)))).set (↑g_2.1:Int).toNat (x_1 ++ [[x,bif true then (1:Int) else (0:Int)]]) = z1u I g'.1 (fwd (z5a I g'.1) ++ bwd (List.take g'.2.1 (z7n I g'.1)))/\(g_2.2.2.2.2.set (↑g_2.1:Int).toNat u = g'.2.2.2.2/\((none:Option Nat) = none)))/\True))))))))))))))))))
abbrev zap (x_1:List (List Int)) (g_1:z2l) (I:Inst) (g0_1:z2l) (x:Int):=(x_1.length + (1:Nat) <= 1000000000/\(((0:Int) <= ↑g_1.1/\((↑g_1.1:Int) < ↑(DK.recs (MK.int IntKind.i64) [MK.bool] (z1u I g_1.1 (fwd (List.take g_1.2.1 (z5a I g_1.1))))).len))/\((↑g_1.1:Int).toNat = (↑g_1.1:Int).toNat/\((↑g_1.1:Int).toNat < (z1u I g_1.1 (fwd (List.take g_1.2.1 (z5a I g_1.1)))).length/\(∀ (u:Value),∃ (g':z2l),(g'.2.2.fst = g0_1.2.2.fst/\(g'.2.2.2.fst = g0_1.2.2.2.fst/\(g'.fst = g0_1.fst/\(g'.2.fst <= (z5a I g'.fst).length))))/\((z5a I g'.fst).length - g'.2.fst < (z5a I g_1.fst).length - g_1.2.fst/\((0 = 0/\(0 = 0/\((↑I.sup.length:Int) = ↑I.sup.length/\((↑g_1.1:Int) = ↑g'.1/\((↑g_1.1:Int) = ↑g'.1/\(True/\((↑(z5a I g_1.1).length:Int) = ↑(z5a I g'.1).length/\(IntKind.i64.wrap ((↑g_1.2.1:Int) + (1:Int)) = (↑g'.2.1:Int)/\True))))))))/\(z40 (z5a I g_1.1) = z40 (z5a I g'.1)/\(((↑I.sup.length:Int) = ↑I.sup.length/\(True/\(True/\(True/\True))))/\(I.arcs = I.arcs/\(z2g I = z2g I/\(z0y I = z0y I/\((True/\(True/\(True/\(True/\(True/\True)))))/\(I.sup = I.sup/\(I.arcs = I.arcs/\(g_1.2.2.1 = g'.2.2.1/\(g_1.2.2.2.1 = g'.2.2.2.1/\(((z1u I g_1.1 (fwd (List.take g_1.2.1 (z5a I g_1.1)))).set (↑g_1.1:Int).toNat (x_1 ++ [[x,bif false then (1:Int) else (0:Int)]]) = z1u I g'.1 (fwd (List.take g'.2.1 (z5a I g'.1)))/\(g_1.2.2.2.2.set (↑g_1.1:Int).toNat u = g'.2.2.2.2/\((none:Option Nat) = none)))/\True))))))))))))))))))
abbrev z2k (I:Inst):=(((z0p I)/\((z0n I)/\(z0z I)))/\((z0n I)/\((z0p I)/\(z0z I))))
abbrev z53 (I:Inst):=((0:Nat) + I.sup.length <= (1000000000:Nat)/\(z0z I))
abbrev z4h (I:Inst):=(((0:Nat) + I.sup.length <= (1000000000:Nat)/\((z0n I)/\(z0z I)))/\((z0n I)/\(z53 I)))
abbrev z54 (I:Inst):=(((z0p I)/\(z53 I))/\((0:Nat) + I.sup.length <= (1000000000:Nat)/\((z0p I)/\(z0z I))))
abbrev z35 (I:Inst):=(((z0n I)/\(z0z I))/\((z0n I)/\(z0z I)))
abbrev z2e (I:Inst):=(((z0p I)/\(z0z I))/\((z0p I)/\(z0z I)))
abbrev zc0 (I:Inst):=(((z0p I)/\(((0:Nat) + I.sup.length <= (1000000000:Nat)/\((z0n I)/\(z0z I)))/\(z4h I)))/\((0:Nat) + I.sup.length <= (1000000000:Nat)/\(((z0p I)/\((z0n I)/\(z0z I)))/\(z2k I)))/\((z0p I)/\(z4h I))/\((0:Nat) + I.sup.length <= (1000000000:Nat)/\(z2k I))/\((z0n I)/\(z54 I)))
abbrev z6d (I:Inst):=(((z0p I)/\(z4h I))/\((0:Nat) + I.sup.length <= (1000000000:Nat)/\(z2k I))/\((z0n I)/\(z54 I)))
abbrev z4b (I:Inst):=((z2k I)/\((z0n I)/\((z0p I)/\(z0z I))))
abbrev z3f:=(True/\(True/\(True/\(True/\(True/\True)))))
abbrev z85 (I:Inst):=(((z0p I)/\((z53 I)/\(z53 I)))/\((0:Nat) + I.sup.length <= (1000000000:Nat)/\(z2e I)))
abbrev z86 (I:Inst):=(((0:Nat) + I.sup.length <= (1000000000:Nat)/\(z35 I))/\((z0n I)/\((z53 I)/\(z53 I))))
abbrev z87 (I:Inst):=((z54 I)/\((0:Nat) + I.sup.length <= (1000000000:Nat)/\((z0p I)/\(z0z I))))
abbrev z6e (I:Inst):=((↑I.sup.length:Int) = ↑I.sup.length/\(True/\(True/\(True/\True))))
abbrev z6f (I:Inst):=(((z0p I)/\((z0n I)/\(z0z I)))/\(z2k I))
abbrev zc1 (I:Inst):=((0:Nat) + I.sup.length <= (1000000000:Nat)/\(z2k I)/\((z0p I)/\(z35 I))/\((z0n I)/\(z2e I)))
def zf0 (I : Inst) (ty0 ty1 : TypeId) : Prop :=
   (((zc0 I)/\((0:Nat) + I.sup.length <= (1000000000:Nat)/\(z6f I)/\(z4b I))/\(z6d I)/\((0:Nat) + I.sup.length <= (1000000000:Nat)/\(z4b I))/\((z0n I)/\(z87 I)))/\((zc0 I)/\((z0p I)/\(((0:Nat) + I.sup.length <= (1000000000:Nat)/\((z0n I)/\(z0z I)))/\(z4h I))/\((0:Nat) + I.sup.length <= (1000000000:Nat)/\(((z0n I)/\(z0z I))/\(z35 I)))/\(z4h I)/\(z86 I))/\((0:Nat) + I.sup.length <= (1000000000:Nat)/\(z6f I)/\((z0p I)/\(((z0n I)/\(z0z I))/\(z35 I)))/\(z2k I)/\((z0p I)/\(z35 I))/\((z0n I)/\(z2e I)))/\(z6d I)/\((z0p I)/\(z4h I)/\(z86 I))/\(zc1 I)/\(z0n I)/\(z54 I)/\(z85 I))/\((0:Nat) + I.sup.length <= (1000000000:Nat)/\((z6f I)/\(z4b I))/\((z6f I)/\((z0p I)/\(((z0n I)/\(z0z I))/\(z35 I)))/\(z2k I)/\((z0p I)/\(z35 I))/\((z0n I)/\(z2e I)))/\(z4b I)/\((z2k I)/\((z0p I)/\(z35 I))/\((z0n I)/\(z2e I)))/\((z0n I)/\(((z0p I)/\(z0z I))/\(z2e I))))/\((z6d I)/\((0:Nat) + I.sup.length <= (1000000000:Nat)/\(z4b I))/\((z0n I)/\(z87 I)))/\((z6d I)/\((z0p I)/\(z4h I)/\(z86 I))/\(zc1 I)/\(z0n I)/\(z54 I)/\(z85 I))/\((0:Nat) + I.sup.length <= (1000000000:Nat)/\(z4b I)/\((z2k I)/\((z0p I)/\(z35 I))/\((z0n I)/\(z2e I)))/\((z0n I)/\(((z0p I)/\(z0z I))/\(z2e I))))/\(z0n I)/\(z87 I)/\((z54 I)/\(z85 I))/\((0:Nat) + I.sup.length <= (1000000000:Nat)/\(((z0p I)/\(z0z I))/\(z2e I))))/\∀ (g:List Value),True->∃ (g0:z55),((g0.fst <= I.arcs.length/\(LowI I g0.fst g0.2.fst g0.2.2.fst))/\((0 = 0/\(0 = 0/\(True/\((↑I.arcs.length:Int) = ↑I.arcs.length/\((0:Int) = ↑g0.1/\True)))))/\((True/\(True/\True))/\((z3f)/\(I.sup = I.sup/\(I.arcs = I.arcs/\(List.replicate I.arcs.length (0:Int) = g0.2.1/\(I.sup = g0.2.2.1/\((z1u I (0:Nat) [] = z1u I (0:Nat) []/\(g = g0.2.2.2/\((none:Option Nat) = none)))/\True)))))))))/\∀ (g:z55),g.fst <= I.arcs.length/\LowI I g.fst g.2.fst g.2.2.fst->(decide ((↑g.1:Int) < ↑I.arcs.length) = true->((0:Int) <= ↑g.1/\((↑g.1:Int) < ↑I.arcs.length))/\((↑g.1:Int).toNat < I.arcs.length/\(∀ (x:Arc),I.arcs[(↑g.1:Int).toNat]? = some x->(z15 I (↑g.1:Int)/\(g.2.1.length = I.arcs.length/\(g.2.2.1.length = I.sup.length/\(XB g.2.1/\(XB g.2.2.1/\((-1152921504606846976:Int) <= x.low/\(x.low <= (1152921504606846976:Int))))))))/\(∃ (g':z55),(g'.fst <= I.arcs.length/\(LowI I g'.fst g'.2.fst g'.2.2.fst))/\(I.arcs.length - g'.fst < I.arcs.length - g.fst/\((0 = 0/\(0 = 0/\(True/\((↑I.arcs.length:Int) = ↑I.arcs.length/\(IntKind.i64.wrap ((↑g.1:Int) + (1:Int)) = (↑g'.1:Int)/\True)))))/\((True/\(True/\True))/\((z3f)/\(I.sup = I.sup/\(I.arcs = I.arcs/\(z4t g.2.1 ((↑g.1:Int).toNat,false) x.low = g'.2.1/\(z71 I g.2.2.1 ((↑g.1:Int).toNat,false) x.low = g'.2.2.1/\((z1u I (0:Nat) [] = z1u I (0:Nat) []/\(g.2.2.2 = g'.2.2.2/\((none:Option Nat) = none)))/\True)))))))))))))/\(decide ((↑g.1:Int) < ↑I.arcs.length) = false->(I.sup.length <= (10000:Nat)/\(I.arcs.length <= (10000:Nat)))/\∃ (g0:z55),((g0.2.fst = g0.2.fst/\(g0.2.2.fst = g0.2.2.fst/\(g0.fst <= I.sup.length)))/\((0 = 0/\(0 = 0/\((↑I.sup.length:Int) = ↑I.sup.length/\((0:Int) = ↑g0.1/\True))))/\((z6e I)/\(I.arcs = I.arcs/\(z2g I = z2g I/\(z0y I = z0y I/\((z3f)/\(I.sup = I.sup/\(I.arcs = I.arcs/\(g.2.1 = g0.2.1/\(g.2.2.1 = g0.2.2.1/\((z1u I (0:Nat) [] = z1u I g0.1 []/\(g.2.2.2 = g0.2.2.2/\((none:Option Nat) = none)))/\True))))))))))))/\∀ (g:z55),g.2.fst = g0.2.fst/\g.2.2.fst = g0.2.2.fst/\g.fst <= I.sup.length->(decide ((↑g.1:Int) < ↑I.sup.length) = true->PieceOk (↑I.sup.length:Int) (z2g I) (z0y I) (↑g.1:Int) (0:Nat)/\∃ (g0_1:z2l),((g0_1.2.2.fst = g0_1.2.2.fst/\(g0_1.2.2.2.fst = g0_1.2.2.2.fst/\(g0_1.fst = g0_1.fst/\(g0_1.2.fst <= (z5a I g0_1.fst).length))))/\((0 = 0/\(0 = 0/\((↑I.sup.length:Int) = ↑I.sup.length/\((↑g.1:Int) = ↑g0_1.1/\((↑g.1:Int) = ↑g0_1.1/\(True/\((↑(z0k (z2g I) (z0y I) (↑g.1:Int) (0:Nat)).length:Int) = ↑(z5a I g0_1.1).length/\((0:Int) = ↑g0_1.2.1/\True))))))))/\(z0k (z2g I) (z0y I) (↑g.1:Int) (0:Nat) = z40 (z5a I g0_1.1)/\((z6e I)/\(I.arcs = I.arcs/\(z2g I = z2g I/\(z0y I = z0y I/\((z3f)/\(I.sup = I.sup/\(I.arcs = I.arcs/\(g.2.1 = g0_1.2.2.1/\(g.2.2.1 = g0_1.2.2.2.1/\((z1u I g.1 [] = z1u I g0_1.1 (fwd (List.take g0_1.2.1 (z5a I g0_1.1)))/\(g.2.2.2 = g0_1.2.2.2.2/\((none:Option Nat) = none)))/\True)))))))))))))/\∀ (g_1:z2l),g_1.2.2.fst = g0_1.2.2.fst/\g_1.2.2.2.fst = g0_1.2.2.2.fst/\g_1.fst = g0_1.fst/\g_1.2.fst <= (z5a I g_1.fst).length->(decide ((↑g_1.2.1:Int) < ↑(z5a I g_1.1).length) = true->((0:Int) <= ↑g_1.2.1/\((↑g_1.2.1:Int) < ↑(z40 (z5a I g_1.1)).length))/\(↑g_1.2.1:Int).toNat < (z40 (z5a I g_1.1)).length/\∀ (x:Int),(z40 (z5a I g_1.1))[(↑g_1.2.1:Int).toNat]? = some x->((0:Int) <= ↑g_1.1/\((↑g_1.1:Int) < ↑(DK.recs (MK.int IntKind.i64) [MK.bool] (z1u I g_1.1 (fwd (List.take g_1.2.1 (z5a I g_1.1))))).len))/\(↑g_1.1:Int).toNat < (z1u I g_1.1 (fwd (List.take g_1.2.1 (z5a I g_1.1)))).length/\∀ (x_1:List (List Int)),(z1u I g_1.1 (fwd (List.take g_1.2.1 (z5a I g_1.1))))[(↑g_1.1:Int).toNat]? = some x_1->(zap x_1 g_1 I g0_1 x)/\(zap x_1 g_1 I g0_1 x)/\(zap x_1 g_1 I g0_1 x))/\(decide ((↑g_1.2.1:Int) < ↑(z5a I g_1.1).length) = false->PieceOk (↑I.sup.length:Int) (z2g I) (z0y I) (↑g_1.1:Int) (1:Nat)/\∃ (g0_2:z2l),((g0_2.2.2.fst = g0_2.2.2.fst/\(g0_2.2.2.2.fst = g0_2.2.2.2.fst/\(g0_2.fst = g0_2.fst/\(g0_2.2.fst <= (z7n I g0_2.fst).length))))/\((0 = 0/\(0 = 0/\((↑I.sup.length:Int) = ↑I.sup.length/\((↑g_1.1:Int) = ↑g0_2.1/\((↑g_1.1:Int) = ↑g0_2.1/\(True/\((↑(z0k (z2g I) (z0y I) (↑g_1.1:Int) (1:Nat)).length:Int) = ↑(z7n I g0_2.1).length/\((0:Int) = ↑g0_2.2.1/\True))))))))/\(z0k (z2g I) (z0y I) (↑g_1.1:Int) (1:Nat) = z40 (z7n I g0_2.1)/\((z6e I)/\(I.arcs = I.arcs/\(z2g I = z2g I/\(z0y I = z0y I/\((z3f)/\(I.sup = I.sup/\(I.arcs = I.arcs/\(g_1.2.2.1 = g0_2.2.2.1/\(g_1.2.2.2.1 = g0_2.2.2.2.1/\((z1u I g_1.1 (fwd (List.take g_1.2.1 (z5a I g_1.1))) = z1u I g0_2.1 (fwd (z5a I g0_2.1) ++ bwd (List.take g0_2.2.1 (z7n I g0_2.1)))/\(g_1.2.2.2.2 = g0_2.2.2.2.2/\((none:Option Nat) = none)))/\True)))))))))))))/\∀ (g_2:z2l),g_2.2.2.fst = g0_2.2.2.fst/\g_2.2.2.2.fst = g0_2.2.2.2.fst/\g_2.fst = g0_2.fst/\g_2.2.fst <= (z7n I g_2.fst).length->(decide ((↑g_2.2.1:Int) < ↑(z7n I g_2.1).length) = true->((0:Int) <= ↑g_2.2.1/\((↑g_2.2.1:Int) < ↑(z40 (z7n I g_2.1)).length))/\(↑g_2.2.1:Int).toNat < (z40 (z7n I g_2.1)).length/\∀ (x:Int),(z40 (z7n I g_2.1))[(↑g_2.2.1:Int).toNat]? = some x->((0:Int) <= ↑g_2.1/\((↑g_2.1:Int) < ↑(DK.recs (MK.int IntKind.i64) [MK.bool] (z1u I g_2.1 (fwd (z5a I g_2.1) ++ bwd (List.take g_2.2.1 (z7n I g_2.1))))).len))/\(↑g_2.1:Int).toNat < (z1u I g_2.1 (fwd (z5a I g_2.1) ++ bwd (List.take g_2.2.1 (z7n I g_2.1)))).length/\∀ (x_1:List (List Int)),(z1u I g_2.1 (fwd (z5a I g_2.1) ++ bwd (List.take g_2.2.1 (z7n I g_2.1))))[(↑g_2.1:Int).toNat]? = some x_1->(zao x_1 g_2 I g0_2 x)/\(zao x_1 g_2 I g0_2 x)/\(zao x_1 g_2 I g0_2 x))/\(decide ((↑g_2.2.1:Int) < ↑(z7n I g_2.1).length) = false->∃ (g':z55),(g'.2.fst = g0.2.fst/\(g'.2.2.fst = g0.2.2.fst/\(g'.fst <= I.sup.length)))/\(I.sup.length - g'.fst < I.sup.length - g.fst/\((0 = 0/\(0 = 0/\((↑I.sup.length:Int) = ↑I.sup.length/\(IntKind.i64.wrap ((↑g_2.1:Int) + (1:Int)) = (↑g'.1:Int)/\True))))/\((z6e I)/\(I.arcs = I.arcs/\(z2g I = z2g I/\(z0y I = z0y I/\((z3f)/\(I.sup = I.sup/\(I.arcs = I.arcs/\(g_2.2.2.1 = g'.2.1/\(g_2.2.2.2.1 = g'.2.2.1/\((z1u I g_2.1 (fwd (z5a I g_2.1) ++ bwd (List.take g_2.2.1 (z7n I g_2.1))) = z1u I g'.1 []/\(g_2.2.2.2.2 = g'.2.2.2/\((none:Option Nat) = none)))/\True)))))))))))))))/\(decide ((↑g.1:Int) < ↑I.sup.length) = false->∃ (g_1:List Int × List Int × Rows3),BuildP I g_1.1 g_1.2.1 g_1.2.2/\(∃ (V:Nat->List Value),(0 = 0/\True)/\((z3f)/\(g.2.1 = g_1.1/\(g.2.2.1 = g_1.2.1/\((z1u I g.1 [] = g_1.2.2/\(g.2.2.2 = V ((0:Nat) + (1:Nat) + (1:Nat) + (1:Nat))/\((none:Option Nat) = none)))/\True)))))))
theorem build20_q (I:Inst) (ty0 ty1:TypeId):zf0 I ty0 ty1 = z95 TT ziy (build20_I I) (zf1 I) Tryz.f59 [.agg [.row 0,.row 1]] [(0,.row false ty0 (.ints .i64 I.sup)),(1,.row false ty1 (.arcs I.arcs))] (zj0 I):=by kernel_rfl
theorem build20_E (I:Inst) (ty0 ty1:TypeId) (hp:z02 I = 0):FVcR TT ziy (build20_I I) (zf1 I) Tryz.f59 [.agg [.row 0,.row 1]] [(0,.row false ty0 (.ints .i64 I.sup)),(1,.row false ty1 (.arcs I.arcs))] (zj0 I):=by
 refine FVcR.of (zf0 I ty0 ty1) (build20_q I ty0 ty1) ?_
 unfold zf0
 delta zc1 z6f z6e z87 z86 z85 z3f z4b z6d zc0 z2e z35 z54 z4h z53 z2k zap zao z0n z0p z0z z2l z55
 simp only [eq_self,exists_const,forall_const,decide_eq_true_eq,decide_eq_false_iff_not,and_true,true_and,bne_iff_ne,ne_eq,bne_eq_false_iff_eq,Int.toNat_natCast,Bool.not_eq_true',Bool.not_eq_false',beq_iff_eq,beq_eq_false_iff_ne,z08]
 have hs64:=z0c hp
 have f1:((0:Int) <= (I.arcs.length:Int)/\(I.arcs.length:Int) <= 1000000000) = True:=eq_true (by omega)
 have f2:((0:Int) <= (I.sup.length:Int)/\(I.sup.length:Int) <= 1000000000) = True:=eq_true (by omega)
 have f3:(0 + I.sup.length <= 1000000000) = True:=eq_true (by omega)
 have f4:(∃ g:List Value,List.replicate I.sup.length [] = z1u I 0 []/\List.replicate I.sup.length (Value.slice none 0 0) = g) = True:=eq_true ⟨_,stpsK_zero I,rfl⟩
 simp only [f1,f2,f3,f4,true_and,and_true]
 intro vs0
 refine ⟨(0,_,_,vs0),⟨⟨Nat.zero_le _,LowI.begin hp⟩,rfl,rfl,rfl,rfl⟩,?_⟩
 rintro ⟨a,x,o,vs⟩ ⟨ha,hL⟩
 dsimp only at ha hL ⊢
 refine ⟨fun h1=>⟨by omega,by omega,fun y hy=>?_⟩,fun h1=>?_⟩
 ·have hal:a < I.arcs.length:=by omega
  have hk:=z1l hp hal
  have hey:z2i I a = y:=z27 hy
  have hxb:=hL.xb hp ha
  have l0:=hk.l0
  have l1:=hk.l1
  have hn:=hL.next hp hal
  rw [hey] at l0 l1 hn
  exact ⟨⟨⟨hp,by omega,by omega⟩,hL.over.lx,hL.over.lo,hxb.1,hxb.2,by omega,by omega⟩,(a + 1,_,_,vs),⟨by dsimp only; omega,hn⟩,by dsimp only; omega,by rw [w64 (by omega) (by omega)]; dsimp only; omega,rfl,rfl,rfl⟩
 have ea:a = I.arcs.length:=by omega
 subst ea
 refine ⟨⟨by omega,by omega⟩,(0,x,o,vs),⟨Nat.zero_le _,rfl,rfl,rfl,rfl,rfl⟩,?_⟩
 rintro ⟨n,x',o',vs⟩ ⟨h2,h3,hn⟩
 dsimp only at h2 h3 hn ⊢
 subst h2 h3
 refine ⟨fun h4=>⟨piece_ok hp (by omega) (by omega),?_⟩,fun h4=>?_⟩
 rotate_left
 ·have en:n = I.sup.length:=by omega
  subst en
  exact ⟨(x',o',z1u I I.sup.length []),⟨hL,steps_ok hp⟩,fun _=>vs,rfl,rfl,rfl,rfl⟩
 have hn2:n < I.sup.length:=by omega
 have q0:z0k (z2g I) (z0y I) (n:Int) 0 = z40 (z5a I n):=piece_is hn2 (by omega)
 have q1:z0k (z2g I) (z0y I) (n:Int) 1 = z40 (z7n I n):=piece_is hn2 (by omega)
 have c0:(z5a I n).length <= 256:=Nat.le_trans (z9j I (2 * n) I.arcs.length) hs64.2
 have c1:(z7n I n).length <= 256:=Nat.le_trans (z9j I (2 * n + 1) I.arcs.length) hs64.2
 refine ⟨(n,0,x',o',vs),⟨Nat.zero_le _,⟨rfl,rfl,by rw [q0,zhi],rfl⟩,q0,rfl,rfl,rfl,rfl⟩,?_⟩
 rintro ⟨n1,k,x1,o1,vs⟩ ⟨h5,h6,h7,hk⟩
 dsimp only at h5 h6 h7 hk ⊢
 subst h5 h6 h7
 have dl:∀ t,DK.len (.recs (MK.int IntKind.i64) [MK.bool] t) = t.length:=fun _=>rfl
 have hrl:∀ q:List Stp,q.length <= 600->∀ r,(z1u I n1 q)[n1]? = some r->r.length <= 600:=fun q hq r hr=>by
  rw [z6z hn2,if_neg (Nat.lt_irrefl _),if_pos rfl] at hr
  cases hr
  rw [List.length_map]; exact hq
 simp only [zhi,z70,dl]
 refine ⟨fun h8=>⟨by omega,by omega,fun z hz=>?_⟩,fun h8=>?_⟩
 ·obtain ⟨b,hb,rfl⟩:=natI_get hz
  refine ⟨by omega,by omega,fun r hr=>?_⟩
  have hr2:=hrl _ (by simp [fwd]; omega) r hr
  have e1:fwd ((z5a I n1).take (k + 1)) = fwd ((z5a I n1).take k) ++ [(b,false)]:=by rw [z1q hb]; simp [fwd]
  have e2:(z1u I n1 (fwd ((z5a I n1).take k))).set n1 (r ++ [[(b:Int),bif false then 1 else 0]]) = z1u I n1 (fwd ((z5a I n1).take (k + 1))):=by rw [e1]; exact stpsK_set (b,false) hr
  repeat' first
   | exact ⟨by omega,by omega,by omega,fun u=>⟨(n1,k + 1,x1,o1,_),⟨rfl,rfl,rfl,by dsimp only; omega⟩,by dsimp only; omega,⟨rfl,rfl,rfl,by rw [w64 (by omega) (by omega)]; dsimp only; omega⟩,rfl,rfl,rfl,e2,rfl⟩⟩
   | refine And.intro ?_ ?_
 have ek:k = (z5a I n1).length:=by omega
 subst ek
 refine ⟨piece_ok hp hn2 (by omega),(n1,0,x1,o1,vs),⟨Nat.zero_le _,⟨rfl,rfl,by rw [q1,zhi],rfl⟩,q1,rfl,rfl,?_,rfl⟩,?_⟩
 ·dsimp only
  rw [List.take_length]
  simp [bwd]
 rintro ⟨n2,k,x2,o2,vs⟩ ⟨h5,h6,h7,hk2⟩
 dsimp only at h5 h6 h7 hk2 ⊢
 subst h5 h6 h7
 refine ⟨fun h9=>⟨by omega,by omega,fun z hz=>?_⟩,fun h9=>?_⟩
 ·obtain ⟨b,hb,rfl⟩:=natI_get hz
  refine ⟨by omega,by omega,fun r hr=>?_⟩
  have hr2:=hrl _ (by simp [fwd,bwd]; omega) r hr
  have e1:fwd (z5a I n2) ++ bwd ((z7n I n2).take (k + 1)) = (fwd (z5a I n2) ++ bwd ((z7n I n2).take k)) ++ [(b,true)]:=by rw [z1q hb]; simp [bwd]
  have e2:(z1u I n2 (fwd (z5a I n2) ++ bwd ((z7n I n2).take k))).set n2 (r ++ [[(b:Int),bif true then 1 else 0]]) = z1u I n2 (fwd (z5a I n2) ++ bwd ((z7n I n2).take (k + 1))):=by rw [e1]; exact stpsK_set (b,true) hr
  repeat' first
   | exact ⟨by omega,by omega,by omega,fun u=>⟨(n2,k + 1,x2,o2,_),⟨rfl,rfl,rfl,by dsimp only; omega⟩,by dsimp only; omega,⟨rfl,rfl,rfl,by rw [w64 (by omega) (by omega)]; dsimp only; omega⟩,rfl,rfl,rfl,e2,rfl⟩⟩
   | refine And.intro ?_ ?_
 have ek:k = (z7n I n2).length:=by omega
 subst ek
 refine ⟨(n2 + 1,x2,o2,vs),⟨rfl,rfl,by dsimp only; omega⟩,by dsimp only; omega,by rw [w64 (by omega) (by omega)]; dsimp only; omega,rfl,rfl,?_,rfl⟩
 dsimp only
 rw [List.take_length]
 exact stpsK_next I n2
theorem build20_ok:SpecOk Tryz.prog ziz true (z0t true zaq) :=
 z38 z0r (show z1i Tryz.prog ziy from z01 zkn (z01 New_ok (z01 out20_ok (z01 in20_ok (z05))))) (by kernel_rfl) mixedOrders Tryz.func59 rfl rfl (by kernel_rfl) (n:=1) (by decide +kernel) (I:=build20_IA) (fun _ _=>z06) (A:=build20_A)
  (fun args h r hr=>by
   unfold zaq at hr
   split at hr
   ·rename_i ty0 I_s ty1 I_a; cases hr; refine ⟨rfl,fun hp=>?_⟩; have hE:=build20_E ⟨I_s,I_a⟩ ty0 ty1 hp; exact hE
   ·cases hr)
end Go.Proofs.YtggblkbecekbdaaGreat
end
section
namespace Go.Ql
open Go Go.Vc
structure SmallI (I:Inst):Prop where
 s:∀ y ∈ I.sup,-1048576 <= y/\y <= 1048576
 a:∀ a ∈ I.arcs,a.low <= 524288/\(a.cap = inf ∨ a.cap <= 536870912)
structure SolveP (I:Inst) (c:Cert) (e:Int):Prop where
 bad:z02 I ≠ 0->e = z02 I/\c = ⟨0,[],[],[],[]⟩
 ok:z02 I = 0->e = 0/\z22 I c = 0/\YB c.flow/\YB c.pot/\∀ C:Int,0 <= C->(∀ s,okS I s->-C <= csS I s/\csS I s <= C)->∀ k,-(C * 32768) <= c.pot.getD k 0/\c.pot.getD k 0 <= C * 32768
theorem build_fill {I:Inst} (hr:z02 I = 0) {x o:List Int} {t:Rows3} (h:BuildP I x o t):FillI I x o:=by
 have hs:=z0c hr
 have hlow:=h.low
 have hx:∀ a,a < I.arcs.length->x.getD a 0 = (z2i I a).low:=fun a ha=>by rw [hlow.at_ a ha,if_pos ha]
 refine ⟨⟨4398046511104,⟨hlow.over,fun a ha=>?_,fun a ha=>?_⟩,by omega,?_⟩⟩
 ·have:=z1l hr ha
  have h1:=this.c
  rw [hx a ha]
  exact ⟨Int.le_refl _,h1.imp id (·.1)⟩
 ·have:=z1l hr ha
  have h1:=this.l0; have h2:=this.l1
  rw [hx a ha]; omega
 ·have:=hlow.pos
  omega
theorem build_cheap {I:Inst} (hr:z02 I = 0) (hsm:SmallI I) {x o:List Int} {t:Rows3} (h:BuildP I x o t) (hπ:∃ π,z91 I (endS I) π) (hy:∃ y,A64 y/\z20 I y = 0):zi4 I x o:=by
 have hs:=z0c hr
 have hlow:=h.low
 refine ⟨hr,hlow.over,fun a ha=>by rw [hlow.at_ a ha,if_pos ha],⟨by rw [hlow.over.lo]; omega,by omega,fun y hy=>?_,fun a ha=>?_⟩,hπ,hy⟩
 ·obtain ⟨v,hv⟩:=List.mem_iff_getElem?.1 hy
  have hvl:v < I.sup.length:=by rw [<- hlow.over.lo]; exact (List.getElem?_eq_some_iff.1 hv).1
  have e:o.getD v 0 = y:=by rw [List.getD_eq_getElem?_getD,hv]; rfl
  rw [<- e,hlow.over.at_ v hvl]
  have hm:I.sup.getD v 0 ∈ I.sup:=by rw [List.getD_eq_getElem?_getD,List.getElem?_eq_getElem hvl]; exact List.getElem_mem hvl
  have h1:=hsm.s _ hm
  have h2:∀ k,k <= I.arcs.length->-(524288 * (k:Int)) <= z3c I.sup.length I.arcs x k v/\z3c I.sup.length I.arcs x k v <= 524288 * (k:Int):=fun k=>by
   induction k with
   | zero=>intro _; simp [z3c]
   | succ k ih =>
    intro hk
    obtain ⟨i1,i2⟩:=ih (by omega)
    have h3:=z1l hr (a:=k) (by omega)
    have h4:=h3.l0
    have h5:=(hsm.a _ (zhb (show k < I.arcs.length by omega)).2).1
    have h6:=hlow.at_ k (by omega)
    rw [if_pos (by omega)] at h6
    rw [z3c,h6]
    have e2:((k + 1:Nat):Int) = k + 1:=by omega
    rw [e2]
    unfold z50
    repeat' split <;> omega
  have:=h2 _ (Nat.le_refl _)
  omega
 ·have h1:=hsm.a a ha
  obtain ⟨j,hj⟩:=List.mem_iff_getElem?.1 ha
  have h3:=z1l hr (a:=j) (List.getElem?_eq_some_iff.1 hj).1
  rw [z27 hj] at h3
  have:=h3.l0; have h4:=h3.c
  refine h1.2.imp id fun h=>⟨?_,h⟩
  rcases h4 with h4 | h4
  ·rw [h4] at h; exact absurd h (by decide)
  ·omega
theorem fits_len {I:Inst} {x o:List Int} {m:List Bool} {f:Bool} (h:FillP I x o m f):A64 x:=fun y hy=>by have:=h.inv.xb y hy; unfold I64; omega
theorem nil_few {C:Int} (h0:0 <= C) (k:Nat):-(C * 32768) <= ([]:List Int).getD k 0/\([]:List Int).getD k 0 <= C * 32768:=by
 have:([]:List Int).getD k 0 = 0:=rfl
 rw [this]; omega
theorem YB.nil:YB []:=fun y hy=>by simp at hy
theorem solve_cut {I:Inst} (hr:z02 I = 0) {x o:List Int} {m:List Bool} (h:FillP I x o m true):SolveP I ⟨2,[],[],m,[]⟩ 0:=by
 refine ⟨fun h2=>absurd hr h2,fun _=>⟨rfl,?_,YB.nil,YB.nil,fun C h0 _ k=>nil_few h0 k⟩⟩
 unfold z22 z3w
 simp [hr,h.yes rfl]
theorem solve_ray {I:Inst} (hr:z02 I = 0) {x o:List Int} {m:List Bool} (h:FillP I x o m false) {l:List Int} (hl:RoundP I l true):SolveP I ⟨3,x,[],[],l⟩ 0:=by
 refine ⟨fun h2=>absurd hr h2,fun _=>⟨rfl,?_,h.inv.xb,YB.nil,fun C h0 _ k=>nil_few h0 k⟩⟩
 have h1:=(h.no rfl).2
 have h2:=hl.yes rfl
 unfold z22 z3w
 simp [hr,h1,h2]
theorem solve_best {I:Inst} (hr:z02 I = 0) {x o p:List Int} (h:CheapP I x o) (hp:PriceP I x p):SolveP I ⟨1,x,p,[],[]⟩ 0:=by
 refine ⟨fun h2=>absurd hr h2,fun _=>⟨rfl,?_,h.yb,?_,fun C h0 hC k=>?_⟩⟩
 ·have:=prices_slack h.fits hp
  unfold z22 z3w
  simp [hr,this]
 ·obtain ⟨g,-,hpe,hg,-⟩:=hp.ex
  show YB p
  rw [hpe]
  intro y hy
  unfold negF at hy
  obtain ⟨v,hv,rfl⟩:=List.mem_map.1 hy
  have:=hg v (List.mem_range.1 hv)
  omega
 ·obtain ⟨g,-,hpe,-,hg⟩:=hp.ex
  show -(C * 32768) <= p.getD k 0/\p.getD k 0 <= C * 32768
  rw [hpe]
  by_cases hk:k < I.sup.length
  ·have:=hg C h0 hC k hk
   rw [negF_get _ _ hk]; omega
  ·rw [List.getD_eq_getElem?_getD,List.getElem?_eq_none (by simp [negF]; omega)]
   show -(C * 32768) <= 0/\0 <= C * 32768
   omega
theorem solve_bad {I:Inst} (hr:z02 I ≠ 0):SolveP I ⟨0,[],[],[],[]⟩ (z02 I):=⟨fun _=>⟨rfl,rfl⟩,fun h=>absurd h hr⟩
end Go.Ql
end
section
namespace Go.Proofs.YtggblkbecekbdaaGreat
open Go Go.RowKit Go.Ql Go.Vc
def Solve_r (I:Inst):FRel:={ pre:=z02 I = 0->SmallI I,G:=(Cert) × (Int),post:=fun ⟨c,e⟩=>SolveP I c e,out:=fun ⟨c,e⟩=>{ pre:=True,res:=.tup [.agg [.int .i64 (c).kind,.row 2,.row 3,.row 4,.row 5],.int .u16 (e)],rows:=[.row 2 (.ints .i64 (c).flow),.row 2 (.ints .i64 (c).pot),.row 4 (.bools (c).side),.row 3 (.ints .i64 (c).cycle)],eff:=[] } }
def zh9:FR:=fun args h=>match args,h with
 | [.agg [.row 0,.row 1]],[(0,.row false ty0 (.ints .i64 I_s)),(1,.row false ty1 (.arcs I_a))]=>some (Solve_r ⟨I_s,I_a⟩)
 | _,_=>none
def Solve_an (I:Inst):List (Nat × Ann):=[]
def Solve_A:List SV->z0e->List (Nat × Ann):=fun _ _=>[]
def Solve_g:z0b:=[(Right_n,(true,z04 true zh8)),(ziz,(true,z0t true zaq)),(fill20_n,(false,z0t false zda)),(zlg,(true,z0t true zb7)),(cheap20_n,(false,z0t false zf5)),(price20_n,(true,z0t true zfk))]
abbrev Solve_n:Nat:=19
def Solve_I (I:Inst):List (Nat × z09):=[]
def Solve_IA:List SV->z0e->List (Nat × z09):=fun _ _=>[]
end Go.Proofs.YtggblkbecekbdaaGreat
end
section
namespace Go.Proofs.YtggblkbecekbdaaGreat
open Go Go.RowKit Go.Ql Go.Vc
def Solve_E0 (I : Inst) (ty0 ty1 : TypeId) : Prop :=
      True /\
 ((z02 I != (0:Int)) = true ->
 ∃ (g:Cert × Int),
 SolveP I g.1 g.2 /\
 ((((0:Int) = g.1.kind/\True/\True/\True/\True/\True)/\z02 I = g.2/\True)/\True)/\[] = g.1.flow/\[] = g.1.pot/\[] = g.1.side/\[] = g.1.cycle/\True) /\
 ((z02 I != (0:Int)) = false ->
 z02 I = (0:Int) /\
 ∀ (g:List Int × List Int × Rows3),
 BuildP I g.1 g.2.1 g.2.2 ->
 ∀ (V:Nat->List Value),
 (z02 I = (0:Int)/\FillI I g.1 g.2.1/\AtOk I g.2.2) /\
 ∀ (g:List Int × List Int × List Bool × Bool),
 FillP I g.1 g.2.1 g.2.2.1 g.2.2.2 ->
 (g.2.2.2 = true ->
 ∃ (g_1:Cert × Int),
 SolveP I g_1.1 g_1.2 /\
 ((((2:Int) = g_1.1.kind/\True/\True/\True/\True/\True)/\(0:Int) = g_1.2/\True)/\True) /\
 [] = g_1.1.flow/\[] = g_1.1.pot/\g.2.2.1 = g_1.1.side/\[] = g_1.1.cycle/\True) /\
 (g.2.2.2 = false ->
 z02 I = (0:Int) /\
 ∀ (g_1:List Int × Bool),
 RoundP I g_1.1 g_1.2 ->
 (g_1.2 = true ->
 ∃ (g_2:Cert × Int),
 SolveP I g_2.1 g_2.2 /\
 ((((3:Int) = g_2.1.kind/\True/\True/\True/\True/\True)/\(0:Int) = g_2.2/\True)/\True) /\
 g.1 = g_2.1.flow/\[] = g_2.1.pot/\[] = g_2.1.side/\g_1.1 = g_2.1.cycle/\True) /\
 (g_1.2 = false ->
 z02 I = (0:Int) /\
 ∀ (g:List Int × List Int × Rows3),
 BuildP I g.1 g.2.1 g.2.2 ->
 ∀ (V:Nat->List Value),
 (z02 I = (0:Int) /\
 OverOf I g.1 g.2.1 /\
 (∀ (a:Nat),a < I.arcs.length->g.1.getD a (0:Int) = (z2i I a).low) /\
 GreatOk I g.2.1/\(∃ (π:Nat->Int),z91 I (Ql.endS I) π)/\∃ (y:List Int),A64 y/\z20 I y = (0:Int)) /\
 ∀ (g:List Int × List Int),
 CheapP I g.1 g.2 ->
 (z02 I = (0:Int) /\
 g.1.length = I.arcs.length /\
 XB g.1/\∃ (π:Nat->Int),z91 I (fun (s:Stp)=>Ql.endS I s || decide ((0:Int) < rmS I g.1 s)) π) /\
 ∀ (g_2:List Int),
 PriceP I g.1 g_2 ->
 ∃ (g_3:Cert × Int),
 SolveP I g_3.1 g_3.2 /\
 ((((1:Int) = g_3.1.kind/\True/\True/\True/\True/\True)/\(0:Int) = g_3.2/\True)/\True) /\
 g.1 = g_3.1.flow/\g_2 = g_3.1.pot/\[] = g_3.1.side/\[] = g_3.1.cycle/\True)))
theorem Solve_q (I:Inst) (ty0 ty1:TypeId):Solve_E0 I ty0 ty1 = z95 TT Solve_g (Solve_I I) (Solve_an I) Tryz.f19 [.agg [.row 0,.row 1]] [(0,.row false ty0 (.ints .i64 I.sup)),(1,.row false ty1 (.arcs I.arcs))] (Solve_r I):=by kernel_rfl
theorem Solve_E (I:Inst) (ty0 ty1:TypeId) (hp:z02 I = 0->SmallI I):FVcR TT Solve_g (Solve_I I) (Solve_an I) Tryz.f19 [.agg [.row 0,.row 1]] [(0,.row false ty0 (.ints .i64 I.sup)),(1,.row false ty1 (.arcs I.arcs))] (Solve_r I):=by
 refine FVcR.of (Solve_E0 I ty0 ty1) (Solve_q I ty0 ty1) ?_
 unfold Solve_E0
 simp only [eq_self,exists_const,forall_const,decide_eq_true_eq,decide_eq_false_iff_not,and_true,true_and,bne_iff_ne,ne_eq,bne_eq_false_iff_eq,Int.toNat_natCast,Bool.not_eq_true',Bool.not_eq_false',beq_iff_eq,beq_eq_false_iff_ne,z08]
 refine ⟨fun h=>⟨(⟨0,[],[],[],[]⟩,_),solve_bad h,⟨rfl,rfl⟩,rfl,rfl,rfl,rfl⟩,fun hr=>⟨hr,?_⟩⟩
 rintro ⟨x,o,t⟩ hB
 have hF:=build_fill hr hB
 refine ⟨⟨hr,hF,hB.at_⟩,?_⟩
 rintro ⟨x1,o1,m,f⟩ hf
 dsimp only at hf ⊢
 refine ⟨fun h=>?_,fun h=>⟨hr,?_⟩⟩
 ·subst h; exact ⟨(⟨2,[],[],m,[]⟩,0),solve_cut hr hf,⟨rfl,rfl⟩,rfl,rfl,rfl,rfl⟩
 subst h
 rintro ⟨l,f⟩ hl
 dsimp only at hl ⊢
 refine ⟨fun h=>?_,fun h=>⟨hr,?_⟩⟩
 ·subst h; exact ⟨(⟨3,x1,[],[],l⟩,0),solve_ray hr hf hl,⟨rfl,rfl⟩,rfl,rfl,rfl,rfl⟩
 subst h
 rintro ⟨x2,o2,t2⟩ hB2
 refine ⟨build_cheap hr (hp hr) hB2 (hl.no rfl).2 ⟨x1,fits_len hf,(hf.no rfl).2⟩,?_⟩
 rintro ⟨x3,o3⟩ hC
 exact ⟨⟨hr,(fitsF_zero.1 hC.fits).2.1,hC.yb.xb,hC.pot⟩,fun p hp=>⟨(⟨1,x3,p,[],[]⟩,0),solve_best hr hC hp,⟨rfl,rfl⟩,rfl,rfl,rfl,rfl⟩⟩
theorem Solve_ok:SpecOk Tryz.prog Solve_n true (z0t true zh9) :=
 z38 z0r (show z1i Tryz.prog Solve_g from z01 Right_ok (z01 build20_ok (z01 fill20_ok (z01 round20_ok (z01 cheap20_ok (z01 price20_ok (z05))))))) (by kernel_rfl) mixedOrders Tryz.func19 rfl rfl (by kernel_rfl) (n:=1) (by decide +kernel) (I:=Solve_IA) (fun _ _=>z06) (A:=Solve_A)
  (fun args h r hr=>by
   unfold zh9 at hr
   split at hr
   ·rename_i ty0 I_s ty1 I_a; cases hr; refine ⟨rfl,fun hp=>?_⟩; have hE:=Solve_E ⟨I_s,I_a⟩ ty0 ty1 hp; exact hE
   ·cases hr)
end Go.Proofs.YtggblkbecekbdaaGreat
end
section
namespace Go.Proofs.YtggblkbecekbdaaGreat
open Go Go.RowKit Go.Ql Go.Vc
def zfv (I:Inst) (pot:List Int) (a:Int):FRes:={ pre:=A64 pot/\A64c I.arcs,res:=.agg (z0v (W (zhr I pot a))),rows:=[],eff:=[] }
def zci:FS:=fun args h=>match args,h with
 | [.agg [.row 0,.row 1],.row 2,.int .i64 a],[(0,.row false ty0 (.ints .i64 I_s)),(1,.row false ty1 (.arcs I_a)),(2,.row false ty2 (.ints .i64 pot))]=>some (zfv ⟨I_s,I_a⟩ pot a)
 | _,_=>none
def zl2 (I:Inst) (pot:List Int) (a:Int):List (Nat × Ann):=[]
def rReduced_A:List SV->z0e->List (Nat × Ann):=fun _ _=>[]
def zfu:z0b:=[(rArc_n,(true,z04 true rArc_fs)),(rMinus_n,(true,z04 true zdp)),(rOf_n,(true,z04 true rOf_fs)),(At_n,(true,z04 true At_fs)),(zl1,(true,z04 true zb2))]
abbrev rReduced_n:Nat:=89
def rReduced_I (I:Inst) (pot:List Int) (a:Int):List (Nat × z09):=[]
def rReduced_IA:List SV->z0e->List (Nat × z09):=fun _ _=>[]
def rSlack_r (I:Inst) (x:List Int) (pot:List Int):FRes:={ pre:=I.sup.length <= 10000/\I.arcs.length <= 10000/\A64 x/\A64 I.sup/\A64 pot/\A64c I.arcs,res:=.int .i64 (z1o I x pot),rows:=[],eff:=[] }
def zl7:FS:=fun args h=>match args,h with
 | [.agg [.row 0,.row 1],.row 2,.row 3],[(0,.row false ty0 (.ints .i64 I_s)),(1,.row false ty1 (.arcs I_a)),(2,.row false ty2 (.ints .i64 x)),(3,.row false ty3 (.ints .i64 pot))]=>some (rSlack_r ⟨I_s,I_a⟩ x pot)
 | _,_=>none
def zl6 (I:Inst) (x:List Int) (pot:List Int):List (Nat × Ann):=[(7,{ G:=(Nat),inv:=fun k=>⟨[(1,.row 2),(2,.row 3),(3,.ptr 4 0 0 0),(8,.int .i64 k)],[(4,.box true 25 [.row 0,.row 1]),(0,.row false 0 (.ints .i64 I.sup)),(1,.row false 0 (.arcs I.arcs)),(2,.row false 0 (.ints .i64 x)),(3,.row false 0 (.ints .i64 pot))],5⟩,rel:=fun k0 k=>k <= I.arcs.length/\∀ j,j < k->z46 I x pot j = true,meas:=fun k=>I.arcs.length - k })]
def rSlack_A:List SV->z0e->List (Nat × Ann):=fun args h=>match args,h with
 | [.agg [.row 0,.row 1],.row 2,.row 3],[(0,.row false ty0 (.ints .i64 I_s)),(1,.row false ty1 (.arcs I_a)),(2,.row false ty2 (.ints .i64 x)),(3,.row false ty3 (.ints .i64 pot))]=>zl6 ⟨I_s,I_a⟩ x pot
 | _,_=>[]
def rSlack_g:z0b:=[(rFits_n,(true,z04 true zhp)),(rReduced_n,(true,z04 true zci)),(rCompare_n,(true,z04 true zcd))]
abbrev rSlack_n:Nat:=54
def rSlack_I (I:Inst) (x:List Int) (pot:List Int):List (Nat × z09):=[]
def rSlack_IA:List SV->z0e->List (Nat × z09):=fun _ _=>[]
end Go.Proofs.YtggblkbecekbdaaGreat
end
section
namespace Go.Proofs.YtggblkbecekbdaaGreat
open Go Go.RowKit Go.Ql Go.Vc
theorem at_ok {I:Inst} {pot:List Int} {a:Int} (h1:A64 pot) (h2:A64c I.arcs):I64 (atA I a).cost/\I64 (atF I pot a)/\I64 (atT I pot a):=by
 have z:I64 0:=by simp [I64]
 refine ⟨?_,?_,?_⟩
 ·unfold atA z2c
  split
  ·rename_i h
   unfold gOk at h
   simp only [Bool.and_eq_true,decide_eq_true_eq] at h
   have hl:a.toNat < I.arcs.length:=by omega
   rw [List.getD_eq_getElem?_getD,List.getElem?_eq_getElem hl]
   exact h2 _ (List.getElem_mem hl)
  ·exact z
 ·unfold atF
  split
  ·exact h1.getD _
  ·exact z
 ·unfold atT
  split
  ·exact h1.getD _
  ·exact z
abbrev z5d (I:Inst) (a:Int) (pot:List Int):=(((W (z2c (↑I.sup.length:Int) I.arcs a).cost).ok/\((W (if (0:Int) <= (z2c (↑I.sup.length:Int) I.arcs a).src then pot.getD (z2c (↑I.sup.length:Int) I.arcs a).src.toNat (0:Int) else (0:Int))).ok))/\(True/\(I64 (if (0:Int) <= (z2c (↑I.sup.length:Int) I.arcs a).dst then pot.getD (z2c (↑I.sup.length:Int) I.arcs a).dst.toNat (0:Int) else (0:Int))/\(((z3r (W (z2c (↑I.sup.length:Int) I.arcs a).cost) (W (if (0:Int) <= (z2c (↑I.sup.length:Int) I.arcs a).src then pot.getD (z2c (↑I.sup.length:Int) I.arcs a).src.toNat (0:Int) else (0:Int)))).ok/\((W (if (0:Int) <= (z2c (↑I.sup.length:Int) I.arcs a).dst then pot.getD (z2c (↑I.sup.length:Int) I.arcs a).dst.toNat (0:Int) else (0:Int))).ok))/\((((z42 (z3r (W (z2c (↑I.sup.length:Int) I.arcs a).cost) (W (if (0:Int) <= (z2c (↑I.sup.length:Int) I.arcs a).src then pot.getD (z2c (↑I.sup.length:Int) I.arcs a).src.toNat (0:Int) else (0:Int)))) (W (if (0:Int) <= (z2c (↑I.sup.length:Int) I.arcs a).dst then pot.getD (z2c (↑I.sup.length:Int) I.arcs a).dst.toNat (0:Int) else (0:Int)))).hi = (W (zhr I pot a)).hi/\((z42 (z3r (W (z2c (↑I.sup.length:Int) I.arcs a).cost) (W (if (0:Int) <= (z2c (↑I.sup.length:Int) I.arcs a).src then pot.getD (z2c (↑I.sup.length:Int) I.arcs a).src.toNat (0:Int) else (0:Int)))) (W (if (0:Int) <= (z2c (↑I.sup.length:Int) I.arcs a).dst then pot.getD (z2c (↑I.sup.length:Int) I.arcs a).dst.toNat (0:Int) else (0:Int)))).lo = (W (zhr I pot a)).lo/\True))/\True)/\True)))))
abbrev z6m (I:Inst) (a:Int) (pot:List Int):=(if (0:Int) <= (z2c (↑I.sup.length:Int) I.arcs a).src then pot.getD (z2c (↑I.sup.length:Int) I.arcs a).src.toNat (0:Int) else (0:Int))
def zch (I : Inst) (pot : List Int) (a : Int) (ty0 ty1 ty2 : TypeId) : Prop :=
   True/\((!gOk (↑I.sup.length:Int) I.arcs a) = true->(((0:Int) = (W (zhr I pot a)).hi/\((0:Int) = (W (zhr I pot a)).lo/\True))/\True)/\True)/\((!gOk (↑I.sup.length:Int) I.arcs a) = false->(I64 (z2c (↑I.sup.length:Int) I.arcs a).cost/\(True/\(I64 (z6m I a pot)/\(z5d I a pot)/\(z5d I a pot))/\(I64 (z6m I a pot)/\(z5d I a pot)))/\(True/\(I64 (z6m I a pot)/\(z5d I a pot))))/\(I64 (z2c (↑I.sup.length:Int) I.arcs a).cost/\(True/\(I64 (z6m I a pot)/\(z5d I a pot)))))
theorem rReduced_q (I:Inst) (pot:List Int) (a:Int) (ty0 ty1 ty2:TypeId):zch I pot a ty0 ty1 ty2 = z3a TT zfu (rReduced_I I pot a) (zl2 I pot a) Tryz.f89 [.agg [.row 0,.row 1],.row 2,.int .i64 a] [(0,.row false ty0 (.ints .i64 I.sup)),(1,.row false ty1 (.arcs I.arcs)),(2,.row false ty2 (.ints .i64 pot))] (zfv I pot a):=by kernel_rfl
theorem rReduced_E (I:Inst) (pot:List Int) (a:Int) (ty0 ty1 ty2:TypeId) (hp:A64 pot/\A64c I.arcs):FVc TT zfu (rReduced_I I pot a) (zl2 I pot a) Tryz.f89 [.agg [.row 0,.row 1],.row 2,.int .i64 a] [(0,.row false ty0 (.ints .i64 I.sup)),(1,.row false ty1 (.arcs I.arcs)),(2,.row false ty2 (.ints .i64 pot))] (zfv I pot a):=by
 refine FVc.of (zch I pot a ty0 ty1 ty2) (rReduced_q I pot a ty0 ty1 ty2) ?_
 unfold zch
 delta z6m z5d
 obtain ⟨p1,p2⟩:=hp
 have hk:=at_ok (a:=a) p1 p2
 simp only [eq_self,exists_const,forall_const,decide_eq_true_eq,decide_eq_false_iff_not,and_true,true_and,bne_iff_ne,ne_eq,bne_eq_false_iff_eq,Int.toNat_natCast,Bool.not_eq_true',Bool.not_eq_false',beq_iff_eq,beq_eq_false_iff_ne,z08]
 refine ⟨fun h=>?_,fun h=>?_⟩
 ·unfold zhr; rw [h,if_neg (by decide),W_zero]; exact ⟨rfl,rfl⟩
 ·have ho:=gOk_ok h
  obtain ⟨o1,o2,o3,o4⟩:=okArc_iff.1 ho
  have e:z2c (I.sup.length:Int) I.arcs a = atA I a:=rfl
  have e1:atF I pot a = pot.getD (atA I a).src.toNat 0:=by unfold atF; rw [if_pos h]
  have e2:atT I pot a = pot.getD (atA I a).dst.toNat 0:=by unfold atT; rw [if_pos h]
  rw [e1,e2] at hk
  simp only [e,o1,o3,if_true,z8v,zam,zhr,h,e1,e2,redA,and_self]
  exact ⟨hk.1,hk.2.1,⟨zbg _,zbg _⟩,hk.2.2,⟨zbg _,zbg _⟩,trivial⟩
theorem rReduced_ok:SpecOk Tryz.prog rReduced_n true (z04 true zci) :=
 z0a z0r (show z1i Tryz.prog zfu from z01 rArc_ok (z01 rMinus_ok (z01 rOf_ok (z01 At_ok (z01 zhq (z05)))))) (by kernel_rfl) mixedOrders Tryz.func89 rfl rfl (by kernel_rfl) (n:=3) (by decide +kernel) (I:=rReduced_IA) (fun _ _=>z06) (A:=rReduced_A)
  (fun args h r hr=>by
   unfold zci at hr
   split at hr
   ·rename_i a ty0 I_s ty1 I_a ty2 pot; cases hr; refine ⟨rfl,fun hp=>?_⟩; have hE:=rReduced_E ⟨I_s,I_a⟩ pot a ty0 ty1 ty2 hp; exact hE
   ·cases hr)
abbrev za4 (I:Inst) (g':Nat) (g:Nat) (x:List Int) (pot:List Int):=(I.arcs.length - g' < I.arcs.length - g/\((True/\(True/\(0 = 0/\(IntKind.i64.wrap ((↑g:Int) + (1:Int)) = (↑g':Int)/\True))))/\((True/\(True/\True))/\(I.sup = I.sup/\(I.arcs = I.arcs/\(x = x/\(pot = pot/\True)))))))
abbrev za5 (I:Inst) (pot:List Int) (g:Nat):=(wcmp (W (zhr I pot (↑g:Int))) { hi:=(0:Int),lo:=(0:Int):Wide } < (0:Int))
abbrev z7t (g:Nat) (I:Inst):=((0:Int) <= ↑g/\((↑g:Int) < ↑I.arcs.length))
def zl5 (I : Inst) (x : List Int) (pot : List Int) (ty0 ty1 ty2 ty3 : TypeId) : Prop :=
   (I.sup.length <= (10000:Nat)/\(I.arcs.length <= (10000:Nat)/\(A64 x/\(A64 I.sup))))/\((z20 I x != (0:Int)) = true->(z20 I x = z1o I x pot/\True)/\True)/\((z20 I x != (0:Int)) = false->(((↑pot.length:Int) != (↑I.sup.length:Int)) = true->((30:Int) = z1o I x pot/\True)/\True)/\(((↑pot.length:Int) != (↑I.sup.length:Int)) = false->∃ (g0:Nat),((g0 <= I.arcs.length/\(∀ (j:Nat),j < g0->z46 I x pot j = true))/\((True/\(True/\(0 = 0/\((0:Int) = ↑g0/\True))))/\((True/\(True/\True))/\(I.sup = I.sup/\(I.arcs = I.arcs/\(x = x/\(pot = pot/\True)))))))/\∀ (g:Nat),(g <= I.arcs.length/\(∀ (j:Nat),j < g->z46 I x pot j = true))->(decide ((↑g:Int) < ↑x.length) = true->(A64 pot/\(A64c I.arcs))/\((W (zhr I pot (↑g:Int))).ok/\({ hi:=(0:Int),lo:=(0:Int):Wide }.ok))/\(decide (wcmp (W (zhr I pot (↑g:Int))) { hi:=(0:Int),lo:=(0:Int):Wide } > (0:Int)) = true->((0:Int) <= ↑g/\((↑g:Int) < ↑x.length))/\((↑g:Int).toNat < x.length/\(∀ (x_1:Int),x[(↑g:Int).toNat]? = some x_1->(z7t g I)/\((↑g:Int).toNat < I.arcs.length/\(∀ (x_2:Arc),I.arcs[(↑g:Int).toNat]? = some x_2->((x_1 != x_2.low) = true->((33:Int) = z1o I x pot/\True)/\True)/\((x_1 != x_2.low) = false->(decide (za5 I pot g) = true->((0:Int) <= ↑g/\((↑g:Int) < ↑x.length))/\((↑g:Int).toNat < x.length/\(∀ (x_3:Int),x[(↑g:Int).toNat]? = some x_3->(z7t g I)/\((↑g:Int).toNat < I.arcs.length/\(∀ (x_4:Arc),I.arcs[(↑g:Int).toNat]? = some x_4->((x_3 != x_4.cap) = true->((33:Int) = z1o I x pot/\True)/\True)/\((x_3 != x_4.cap) = false->(z7t g I)/\((↑g:Int).toNat < I.arcs.length/\(∀ (x_5:Arc),I.arcs[(↑g:Int).toNat]? = some x_5->((x_5.cap == (4611686018427387904:Int)) = true->((33:Int) = z1o I x pot/\True)/\True)/\((x_5.cap == (4611686018427387904:Int)) = false->∃ (g':Nat),(g' <= I.arcs.length/\(∀ (j:Nat),j < g'->z46 I x pot j = true))/\(za4 I g' g x pot))))))))))/\(decide (za5 I pot g) = false->∃ (g':Nat),(g' <= I.arcs.length/\(∀ (j:Nat),j < g'->z46 I x pot j = true))/\(za4 I g' g x pot))))))))/\(decide (wcmp (W (zhr I pot (↑g:Int))) { hi:=(0:Int),lo:=(0:Int):Wide } > (0:Int)) = false->(decide (za5 I pot g) = true->((0:Int) <= ↑g/\((↑g:Int) < ↑x.length))/\((↑g:Int).toNat < x.length/\(∀ (x_1:Int),x[(↑g:Int).toNat]? = some x_1->(z7t g I)/\((↑g:Int).toNat < I.arcs.length/\(∀ (x_2:Arc),I.arcs[(↑g:Int).toNat]? = some x_2->((x_1 != x_2.cap) = true->((33:Int) = z1o I x pot/\True)/\True)/\((x_1 != x_2.cap) = false->(z7t g I)/\((↑g:Int).toNat < I.arcs.length/\(∀ (x_3:Arc),I.arcs[(↑g:Int).toNat]? = some x_3->((x_3.cap == (4611686018427387904:Int)) = true->((33:Int) = z1o I x pot/\True)/\True)/\((x_3.cap == (4611686018427387904:Int)) = false->∃ (g':Nat),(g' <= I.arcs.length/\(∀ (j:Nat),j < g'->z46 I x pot j = true))/\(za4 I g' g x pot))))))))))/\(decide (za5 I pot g) = false->∃ (g':Nat),(g' <= I.arcs.length/\(∀ (j:Nat),j < g'->z46 I x pot j = true))/\(za4 I g' g x pot))))/\(decide ((↑g:Int) < ↑x.length) = false->((0:Int) = z1o I x pot/\True)/\True)))
theorem rSlack_q (I:Inst) (x:List Int) (pot:List Int) (ty0 ty1 ty2 ty3:TypeId):zl5 I x pot ty0 ty1 ty2 ty3 = z3a TT rSlack_g (rSlack_I I x pot) (zl6 I x pot) Tryz.f54 [.agg [.row 0,.row 1],.row 2,.row 3] [(0,.row false ty0 (.ints .i64 I.sup)),(1,.row false ty1 (.arcs I.arcs)),(2,.row false ty2 (.ints .i64 x)),(3,.row false ty3 (.ints .i64 pot))] (rSlack_r I x pot):=by kernel_rfl
theorem rSlack_E (I:Inst) (x:List Int) (pot:List Int) (ty0 ty1 ty2 ty3:TypeId) (hp:I.sup.length <= 10000/\I.arcs.length <= 10000/\A64 x/\A64 I.sup/\A64 pot/\A64c I.arcs):FVc TT rSlack_g (rSlack_I I x pot) (zl6 I x pot) Tryz.f54 [.agg [.row 0,.row 1],.row 2,.row 3] [(0,.row false ty0 (.ints .i64 I.sup)),(1,.row false ty1 (.arcs I.arcs)),(2,.row false ty2 (.ints .i64 x)),(3,.row false ty3 (.ints .i64 pot))] (rSlack_r I x pot):=by
 refine FVc.of (zl5 I x pot ty0 ty1 ty2 ty3) (rSlack_q I x pot ty0 ty1 ty2 ty3) ?_
 unfold zl5
 delta z7t za5 za4
 obtain ⟨p1,p2,p3,p4,p5,p6⟩:=hp
 have bad:∀ j,j < I.arcs.length->z20 I x = 0->pot.length = I.sup.length->z46 I x pot j = false->33 = z1o I x pot:=fun j hj h1 h2 h3=>by
  unfold z1o
  rw [if_neg (by omega),if_neg (by omega),if_neg]
  intro ha
  have:=List.all_eq_true.1 ha j (List.mem_range.2 hj)
  rw [h3] at this; cases this
 have nx:∀ g,g < I.arcs.length->(∀ j,j < g->z46 I x pot j = true)->z46 I x pot g = true->∃ g',(g' <= I.arcs.length/\∀ j,j < g'->z46 I x pot j = true)/\I.arcs.length - g' < I.arcs.length - g/\IntKind.i64.wrap ((g:Int) + 1) = (g':Int):=fun g hg h1 h2 =>
  ⟨g + 1,⟨by omega,fun j hj=>by
   by_cases e:j = g
   ·subst e; exact h2
   ·exact h1 j (by omega)⟩,by omega,by rw [w64 (by omega) (by omega)]; omega⟩
 simp only [eq_self,exists_const,forall_const,decide_eq_true_eq,decide_eq_false_iff_not,and_true,true_and,bne_iff_ne,ne_eq,bne_eq_false_iff_eq,Int.toNat_natCast,Bool.not_eq_true',Bool.not_eq_false',beq_iff_eq,beq_eq_false_iff_ne,z08]
 refine ⟨⟨p1,p2,p3,p4⟩,fun h=>by unfold z1o; rw [if_pos h],fun hf=>⟨fun h=>by unfold z1o; rw [if_neg (by omega),if_pos (by omega)],fun hl=>?_⟩⟩
 have hz:=fitsF_zero.1 hf
 have hzl:=hz.2.1
 refine ⟨0,⟨⟨by omega,fun j hj=>by omega⟩,rfl⟩,fun g hg=>⟨fun h1=>?_,fun h1=>?_⟩⟩
 ·have hgl:g < I.arcs.length:=by omega
  have hgx:g < x.length:=by omega
  obtain ⟨b,hb⟩:∃ b,I.arcs[g]? = some b:=⟨_,List.getElem?_eq_getElem hgl⟩
  obtain ⟨y,hy⟩:∃ y,x[g]? = some y:=⟨_,List.getElem?_eq_getElem hgx⟩
  have hbd:I.arcs.getD g default = b:=by simp [List.getD,hb]
  have hyd:x.getD g 0 = y:=by simp [List.getD,hy]
  have key:z46 I x pot g = z6x (zhr I pot g) y b:=by unfold z46; rw [hbd,hyd]
  have B:=bad g hgl hf (by omega)
  have N:=nx g hgl hg.2
  rw [key] at B N
  have e0:(⟨0,0⟩:Wide) = W 0:=W_zero.symm
  simp only [hy,hb,Option.some.injEq,forall_eq',e0]
  have hs:wcmp (W (zhr I pot g)) (W 0) = sgn (zhr I pot g):=rfl
  rw [hs]
  have q1:(0:Int) <= g:=by omega
  have q2:(g:Int) < x.length:=by omega
  have q3:(g:Int) < I.arcs.length:=by omega
  unfold z6x inf at B N
  refine ⟨⟨p5,p6⟩,⟨zbg _,zbg _⟩,?_⟩
  generalize zhr I pot g = r at *
  refine ⟨fun c1=>⟨⟨q1,q2⟩,hgx,⟨q1,q3⟩,hgl,fun c2=>B (by simp [show 0 < sgn r from c1,c2]),fun c2=>⟨fun c3=>by omega,fun c3=>N (by simp [c3,c2])⟩⟩,fun c1=>⟨fun c3=>⟨⟨q1,q2⟩,hgx,⟨q1,q3⟩,hgl,fun c4=>B (by simp [c3,c4]),fun c4=>⟨⟨q1,q3⟩,hgl,fun c5=>B (by simp [c3,c5]),fun c5=>N (by simp [show ¬ 0 < sgn r from c1,c4,c5])⟩⟩,fun c3=>N (by simp [show ¬ 0 < sgn r from c1,c3])⟩⟩
 ·have:(List.range I.arcs.length).all (z46 I x pot) = true:=List.all_eq_true.2 fun j hj=>hg.2 j (by have:=List.mem_range.1 hj; omega)
  unfold z1o
  rw [if_neg (by omega),if_neg (by omega),if_pos this]
theorem rSlack_ok:SpecOk Tryz.prog rSlack_n true (z04 true zl7) :=
 z0a z0r (show z1i Tryz.prog rSlack_g from z01 rFits_ok (z01 rReduced_ok (z01 rCompare_ok (z05)))) (by kernel_rfl) mixedOrders Tryz.func54 rfl rfl (by kernel_rfl) (n:=3) (by decide +kernel) (I:=rSlack_IA) (fun _ _=>z06) (A:=rSlack_A)
  (fun args h r hr=>by
   unfold zl7 at hr
   split at hr
   ·rename_i ty0 I_s ty1 I_a ty2 x ty3 pot; cases hr; refine ⟨rfl,fun hp=>?_⟩; have hE:=rSlack_E ⟨I_s,I_a⟩ x pot ty0 ty1 ty2 ty3 hp; exact hE
   ·cases hr)
end Go.Proofs.YtggblkbecekbdaaGreat
end
section
namespace Go.Proofs.YtggblkbecekbdaaGreat
open Go Go.RowKit Go.Ql Go.Vc
def on_r (side:List Bool) (n:Int):FRes:={ pre:=True,res:=.bool (onF side n),rows:=[],eff:=[] }
def on_fs:FS:=fun args h=>match args,h with
 | [.row 0,.int .i64 n],[(0,.row false ty0 (.bools side))]=>some (on_r side n)
 | _,_=>none
def on_an (side:List Bool) (n:Int):List (Nat × Ann):=[]
def on_A:List SV->z0e->List (Nat × Ann):=fun _ _=>[]
def on_g:z0b:=[]
abbrev on_n:Nat:=67
def on_I (side:List Bool) (n:Int):List (Nat × z09):=[]
def on_IA:List SV->z0e->List (Nat × z09):=fun _ _=>[]
def over1_r (n:Int) (I:Inst):FRes:={ pre:=True,res:=.bool (isN I.sup.length n),rows:=[],eff:=[] }
def over1_fs:FS:=fun args h=>match args,h with
 | [.int .i64 n,.ptr 0 0 0 0],[(0,.box false 25 [.row 1,.row 2]),(1,.row false ty1 (.ints .i64 I_s)),(2,.row false ty2 (.arcs I_a))]=>some (over1_r n ⟨I_s,I_a⟩)
 | _,_=>none
def over1_an (n:Int) (I:Inst):List (Nat × Ann):=[]
def over1_A:List SV->z0e->List (Nat × Ann):=fun _ _=>[]
def over1_g:z0b:=[]
abbrev over1_n:Nat:=115
def over1_I (n:Int) (I:Inst):List (Nat × z09):=[]
def over1_IA:List SV->z0e->List (Nat × z09):=fun _ _=>[]
abbrev over_n:Nat:=64
def over_g:z0b:=[]
def over_spec:Vc.Spec:=z5x TT over_g (fun _ _ _=>[]) Tryz.f64
def CRoom_r (I:Inst) (side:List Bool):FRes:={ pre:=A64a I.arcs/\I.arcs.length <= 140737488351232,res:=.tup [.agg (z0v (roomW (z5u I side))),.bool ((z5u I side).isSome)],rows:=[],eff:=[] }
def CRoom_fs:FS:=fun args h=>match args,h with
 | [.agg [.row 0,.row 1],.row 2],[(0,.row false ty0 (.ints .i64 I_s)),(1,.row false ty1 (.arcs I_a)),(2,.row false ty2 (.bools side))]=>some (CRoom_r ⟨I_s,I_a⟩ side)
 | _,_=>none
def CRoom_an (I:Inst) (side:List Bool):List (Nat × Ann):=[]
def CRoom_A:List SV->z0e->List (Nat × Ann):=fun _ _=>[]
def CRoom_g:z0b:=[(over_n,(false,over_spec)),(Minus_n,(true,z04 true zd1)),(Of_n,(true,z04 true Of_fs)),(Plus_n,(true,z04 true zev))]
abbrev CRoom_n:Nat:=22
def CRoom_i0g:z0b:=[(over1_n,(true,z04 true over1_fs)),(on_n,(true,z04 true on_fs))]
def CRoom_i0 (I:Inst) (side:List Bool):z09:=inlI TT CRoom_i0g (fun args hp nk=>match args with
  | [y,c1,c2,c3]=>[(1,{ G:=Nat × Int,inv:=fun g=>⟨[(0,y),(1,c1),(2,c2),(3,c3),(9,.row 1),(10,.int .i64 I.arcs.length),(11,.int .i64 g.1)],Vc.put 6 (.box true 47 (z0v (W g.2))) hp,nk⟩,rel:=fun _ g=>g.1 <= I.arcs.length/\z1f I.sup.length side (I.arcs.drop g.1) g.2 = z5u I side,meas:=fun g=>I.arcs.length - g.1 })]
  | _=>[]) Tryz.f116
def CRoom_I (I:Inst) (side:List Bool):List (Nat × z09):=[(116,CRoom_i0 I side)]
def CRoom_IA:List SV->z0e->List (Nat × z09):=fun args h=>match args,h with
 | [.agg [.row 0,.row 1],.row 2],[(0,.row false ty0 (.ints .i64 I_s)),(1,.row false ty1 (.arcs I_a)),(2,.row false ty2 (.bools side))]=>CRoom_I ⟨I_s,I_a⟩ side
 | _,_=>[]
def Need_r (I:Inst) (side:List Bool):FRes:={ pre:=A64 I.sup/\I.sup.length <= 140737488351232,res:=.agg (z0v (W (z2h I side))),rows:=[],eff:=[] }
def Need_fs:FS:=fun args h=>match args,h with
 | [.agg [.row 0,.row 1],.row 2],[(0,.row false ty0 (.ints .i64 I_s)),(1,.row false ty1 (.arcs I_a)),(2,.row false ty2 (.bools side))]=>some (Need_r ⟨I_s,I_a⟩ side)
 | _,_=>none
def Need_an (I:Inst) (side:List Bool):List (Nat × Ann):=[(3,{ G:=(Nat),inv:=fun k=>⟨[(1,.row 2),(4,.ptr 4 0 0 0),(5,.ptr 5 0 0 0),(9,.row 0),(10,.int .i64 (↑I.sup.length:Int)),(11,.int .i64 k)],[(5,.box true 47 (z0v (W (z44 side I.sup k)))),(4,.box true 47 [.int .i64 (0:Int),.int .u64 (0:Int)]),(0,.row false 0 (.ints .i64 I.sup)),(2,.row false 0 (.bools side))],6⟩,rel:=fun k0 k=>k <= I.sup.length,meas:=fun k=>I.sup.length - k })]
def Need_A:List SV->z0e->List (Nat × Ann):=fun args h=>match args,h with
 | [.agg [.row 0,.row 1],.row 2],[(0,.row false ty0 (.ints .i64 I_s)),(1,.row false ty1 (.arcs I_a)),(2,.row false ty2 (.bools side))]=>Need_an ⟨I_s,I_a⟩ side
 | _,_=>[]
def Need_g:z0b:=[(on_n,(true,z04 true on_fs)),(Plus_n,(true,z04 true zev)),(Of_n,(true,z04 true Of_fs))]
abbrev Need_n:Nat:=23
def Need_I (I:Inst) (side:List Bool):List (Nat × z09):=[]
def Need_IA:List SV->z0e->List (Nat × z09):=fun _ _=>[]
end Go.Proofs.YtggblkbecekbdaaGreat
end
section
namespace Go.Proofs.YtggblkbecekbdaaGreat
open Go Go.RowKit Go.Ql Go.Vc
def on_E0 (side : List Bool) (n : Int) (ty0 : TypeId) : Prop :=
      (decide (n ≥ (0:Int)) = true ->
 (decide (n < (↑side.length:Int)) = true ->
 ((0:Int) <= n/\n < (↑side.length:Int))/\n.toNat < side.length/\∀ (x:Bool),side[n.toNat]? = some x->(x = onF side n/\True)/\True) /\
 (decide (n < (↑side.length:Int)) = false->(false = onF side n/\True)/\True)) /\
 (decide (n ≥ (0:Int)) = false->(false = onF side n/\True)/\True)
theorem on_q (side:List Bool) (n:Int) (ty0:TypeId):on_E0 side n ty0 = z3a TT on_g (on_I side n) (on_an side n) Tryz.f67 [.row 0,.int .i64 n] [(0,.row false ty0 (.bools side))] (on_r side n):=by kernel_rfl
theorem on_E (side:List Bool) (n:Int) (ty0:TypeId) (hp:True):FVc TT on_g (on_I side n) (on_an side n) Tryz.f67 [.row 0,.int .i64 n] [(0,.row false ty0 (.bools side))] (on_r side n):=by
 refine FVc.of (on_E0 side n ty0) (on_q side n ty0) ?_
 unfold on_E0
 simp only [eq_self,exists_const,forall_const,decide_eq_true_eq,decide_eq_false_iff_not,and_true,true_and,bne_iff_ne,ne_eq,bne_eq_false_iff_eq,Int.toNat_natCast,Bool.not_eq_true',Bool.not_eq_false',beq_iff_eq,beq_eq_false_iff_ne,z08]
 refine ⟨fun h=>⟨fun h2=>⟨by omega,by omega,fun x hx=>?_⟩,fun h2=>?_⟩,fun h=>?_⟩
 ·unfold onF; simp [List.getD,hx]; omega
 ·unfold onF; simp [List.getD,List.getElem?_eq_none (show side.length <= n.toNat by omega)]
 ·unfold onF; simp; omega
theorem on_ok:SpecOk Tryz.prog on_n true (z04 true on_fs) :=
 z0a z0r (show z1i Tryz.prog on_g from z05) (by kernel_rfl) mixedOrders Tryz.func67 rfl rfl (by kernel_rfl) (n:=2) (by decide +kernel) (I:=on_IA) (fun _ _=>z06) (A:=on_A)
  (fun args h r hr=>by
   unfold on_fs at hr
   split at hr
   ·rename_i n ty0 side; cases hr; refine ⟨rfl,fun hp=>?_⟩; have hE:=on_E side n ty0 hp; exact hE
   ·cases hr)
def over1_E0 (n : Int) (I : Inst) (ty1 ty2 : TypeId) : Prop :=
      (decide (n ≥ (0:Int)) = true->(decide (n < (↑I.sup.length:Int)) = isN (↑I.sup.length:Int) n/\True)/\True) /\
 (decide (n ≥ (0:Int)) = false->(false = isN (↑I.sup.length:Int) n/\True)/\True)
theorem over1_q (n:Int) (I:Inst) (ty1 ty2:TypeId):over1_E0 n I ty1 ty2 = z3a TT over1_g (over1_I n I) (over1_an n I) Tryz.f115 [.int .i64 n,.ptr 0 0 0 0] [(0,.box false 25 [.row 1,.row 2]),(1,.row false ty1 (.ints .i64 I.sup)),(2,.row false ty2 (.arcs I.arcs))] (over1_r n I):=by kernel_rfl
theorem over1_E (n:Int) (I:Inst) (ty1 ty2:TypeId) (hp:True):FVc TT over1_g (over1_I n I) (over1_an n I) Tryz.f115 [.int .i64 n,.ptr 0 0 0 0] [(0,.box false 25 [.row 1,.row 2]),(1,.row false ty1 (.ints .i64 I.sup)),(2,.row false ty2 (.arcs I.arcs))] (over1_r n I):=by
 refine FVc.of (over1_E0 n I ty1 ty2) (over1_q n I ty1 ty2) ?_
 unfold over1_E0
 simp only [eq_self,exists_const,forall_const,decide_eq_true_eq,decide_eq_false_iff_not,and_true,true_and,bne_iff_ne,ne_eq,bne_eq_false_iff_eq,Int.toNat_natCast,Bool.not_eq_true',Bool.not_eq_false',beq_iff_eq,beq_eq_false_iff_ne,z08]
 refine ⟨fun h=>?_,fun h=>?_⟩
 ·unfold isN; simp [show 0 <= n by omega]
 ·unfold isN; simp [show ¬ 0 <= n by omega]
theorem over1_ok:SpecOk Tryz.prog over1_n true (z04 true over1_fs) :=
 z0a z0r (show z1i Tryz.prog over1_g from z05) (by kernel_rfl) mixedOrders Tryz.func115 rfl rfl (by kernel_rfl) (n:=2) (by decide +kernel) (I:=over1_IA) (fun _ _=>z06) (A:=over1_A)
  (fun args h r hr=>by
   unfold over1_fs at hr
   split at hr
   ·rename_i n ty1 I_s ty2 I_a; cases hr; refine ⟨rfl,fun hp=>?_⟩; have hE:=over1_E n ⟨I_s,I_a⟩ ty1 ty2 hp; exact hE
   ·cases hr)
theorem over_ok:SpecOk Tryz.prog over_n false over_spec :=
 zbm z0r (show z1i Tryz.prog over_g from z05) (by kernel_rfl) mixedOrders Tryz.func64 rfl rfl (by kernel_rfl) _
abbrev zh6 (I:Inst) (g':Nat × Int) (g:Nat × Int) (R:Loop->Prop) (side:List Bool):=(I.arcs.length - g'.fst < I.arcs.length - g.fst/\((True/\(0 = 0/\(0 = 0/\(0 = 0/\(True/\((↑I.arcs.length:Int) = ↑I.arcs.length/\(IntKind.i64.wrap ((↑g.fst:Int) + (1:Int)) = (↑g'.fst:Int)/\True)))))))/\(R = R/\(((0 = 0/\True)/\True)/\((True/\True)/\((True/\(True/\True))/\(((W g.snd).hi = (W g'.snd).hi/\((W g.snd).lo = (W g'.snd).lo/\True))/\((True/\True)/\(((0:Int) = 0/\((0:Int) = 0/\True))/\((True/\(True/\True))/\(I.sup = I.sup/\(I.arcs = I.arcs/\(side = side/\True)))))))))))))
abbrev CRoom_a1 (x:Arc) (g:Nat × Int) (I:Inst) (side:List Bool) (R:Loop->Prop):=((x.cap == (4611686018427387904:Int)) = false->I64 x.cap/\(((W g.snd).ok/\((W x.cap).ok))/\(∃ (g':Nat × Int),(g'.fst <= I.arcs.length/\(z1f (↑I.sup.length:Int) side (List.drop g'.fst I.arcs) g'.snd = z5u I side))/\(I.arcs.length - g'.fst < I.arcs.length - g.fst/\((True/\(0 = 0/\(0 = 0/\(0 = 0/\(True/\((↑I.arcs.length:Int) = ↑I.arcs.length/\(IntKind.i64.wrap ((↑g.fst:Int) + (1:Int)) = (↑g'.fst:Int)/\True)))))))/\(R = R/\(((0 = 0/\True)/\True)/\((True/\True)/\((True/\(True/\True))/\(((z42 (W g.snd) (W x.cap)).hi = (W g'.snd).hi/\((z42 (W g.snd) (W x.cap)).lo = (W g'.snd).lo/\True))/\((True/\True)/\(((0:Int) = 0/\((0:Int) = 0/\True))/\((True/\(True/\True))/\(I.sup = I.sup/\(I.arcs = I.arcs/\(side = side/\True))))))))))))))))
abbrev CRoom_a2 (g:Nat × Int) (x:Arc) (I:Inst) (side:List Bool) (R:Loop->Prop):=(((W g.snd).ok/\((W x.low).ok))/\(∃ (g':Nat × Int),(g'.fst <= I.arcs.length/\(z1f (↑I.sup.length:Int) side (List.drop g'.fst I.arcs) g'.snd = z5u I side))/\(I.arcs.length - g'.fst < I.arcs.length - g.fst/\((True/\(0 = 0/\(0 = 0/\(0 = 0/\(True/\((↑I.arcs.length:Int) = ↑I.arcs.length/\(IntKind.i64.wrap ((↑g.fst:Int) + (1:Int)) = (↑g'.fst:Int)/\True)))))))/\(R = R/\(((0 = 0/\True)/\True)/\((True/\True)/\((True/\(True/\True))/\(((z3r (W g.snd) (W x.low)).hi = (W g'.snd).hi/\((z3r (W g.snd) (W x.low)).lo = (W g'.snd).lo/\True))/\((True/\True)/\(((0:Int) = 0/\((0:Int) = 0/\True))/\((True/\(True/\True))/\(I.sup = I.sup/\(I.arcs = I.arcs/\(side = side/\True)))))))))))))))
abbrev CRoom_a3 (x:Arc) (I:Inst) (side:List Bool):=((x.cap == (4611686018427387904:Int)) = true->((((0:Int) = (roomW (z5u I side)).hi/\((0:Int) = (roomW (z5u I side)).lo/\True))/\(false = (z5u I side).isSome/\True))/\True)/\True)
abbrev zh7 (g':Nat × Int) (I:Inst) (side:List Bool):=(g'.fst <= I.arcs.length/\(z1f (↑I.sup.length:Int) side (List.drop g'.fst I.arcs) g'.snd = z5u I side))
def CRoom_E0 (I : Inst) (side : List Bool) (ty0 ty1 ty2 : TypeId) : Prop :=
   ∀ (R:Loop->Prop),∃ (g0:Nat × Int),((g0.fst <= I.arcs.length/\(z1f (↑I.sup.length:Int) side (List.drop g0.fst I.arcs) g0.snd = z5u I side))/\((True/\(0 = 0/\(0 = 0/\(0 = 0/\(True/\((↑I.arcs.length:Int) = ↑I.arcs.length/\((0:Int) = ↑g0.fst/\True)))))))/\(R = R/\(((0 = 0/\True)/\True)/\((True/\True)/\((True/\(True/\True))/\(((0:Int) = (W g0.snd).hi/\((0:Int) = (W g0.snd).lo/\True))/\((True/\True)/\(((0:Int) = 0/\((0:Int) = 0/\True))/\((True/\(True/\True))/\(I.sup = I.sup/\(I.arcs = I.arcs/\(side = side/\True)))))))))))))/\∀ (g:Nat × Int),g.fst <= I.arcs.length/\z1f (↑I.sup.length:Int) side (List.drop g.fst I.arcs) g.snd = z5u I side->(decide ((↑g.fst:Int) < ↑I.arcs.length) = true->((0:Int) <= ↑g.fst/\((↑g.fst:Int) < ↑I.arcs.length))/\(↑g.fst:Int).toNat < I.arcs.length/\∀ (x:Arc),I.arcs[(↑g.fst:Int).toNat]? = some x->True/\((!isN (↑I.sup.length:Int) x.src) = true->∃ (g':Nat × Int),(zh7 g' I side)/\(zh6 I g' g R side))/\((!isN (↑I.sup.length:Int) x.src) = false->True/\((!isN (↑I.sup.length:Int) x.dst) = true->∃ (g':Nat × Int),(zh7 g' I side)/\(zh6 I g' g R side))/\((!isN (↑I.sup.length:Int) x.dst) = false->True/\True/\((onF side x.src == onF side x.dst) = true->∃ (g':Nat × Int),(zh7 g' I side)/\(zh6 I g' g R side))/\((onF side x.src == onF side x.dst) = false->True/\(onF side x.src = true->R = R/\((((1:Int) == (-1:Int)) = true->I64 x.low/\(CRoom_a2 g x I side R))/\(((1:Int) == (-1:Int)) = false->(CRoom_a3 x I side)/\(CRoom_a1 x g I side R))))/\(onF side x.src = false->R = R/\((((-1:Int) == (-1:Int)) = true->I64 x.low/\(CRoom_a2 g x I side R))/\(((-1:Int) == (-1:Int)) = false->(CRoom_a3 x I side)/\(CRoom_a1 x g I side R))))))))/\(decide ((↑g.fst:Int) < ↑I.arcs.length) = false->((((W g.snd).hi = (roomW (z5u I side)).hi/\((W g.snd).lo = (roomW (z5u I side)).lo/\True))/\(true = (z5u I side).isSome/\True))/\True)/\True)
theorem CRoom_q (I:Inst) (side:List Bool) (ty0 ty1 ty2:TypeId):CRoom_E0 I side ty0 ty1 ty2 = z3a TT CRoom_g (CRoom_I I side) (CRoom_an I side) Tryz.f22 [.agg [.row 0,.row 1],.row 2] [(0,.row false ty0 (.ints .i64 I.sup)),(1,.row false ty1 (.arcs I.arcs)),(2,.row false ty2 (.bools side))] (CRoom_r I side):=by kernel_rfl
theorem CRoom_E (I:Inst) (side:List Bool) (ty0 ty1 ty2:TypeId) (hp:A64a I.arcs/\I.arcs.length <= 140737488351232):FVc TT CRoom_g (CRoom_I I side) (CRoom_an I side) Tryz.f22 [.agg [.row 0,.row 1],.row 2] [(0,.row false ty0 (.ints .i64 I.sup)),(1,.row false ty1 (.arcs I.arcs)),(2,.row false ty2 (.bools side))] (CRoom_r I side):=by
 refine FVc.of (CRoom_E0 I side ty0 ty1 ty2) (CRoom_q I side ty0 ty1 ty2) ?_
 unfold CRoom_E0
 delta zh7 CRoom_a3 CRoom_a2 CRoom_a1 zh6
 obtain ⟨p1,p2⟩:=hp
 simp only [eq_self,exists_const,forall_const,decide_eq_true_eq,decide_eq_false_iff_not,and_true,true_and,bne_iff_ne,ne_eq,bne_eq_false_iff_eq,Int.toNat_natCast,Bool.not_eq_true',Bool.not_eq_false',beq_iff_eq,beq_eq_false_iff_ne,z08]
 refine ⟨(0,0),⟨⟨Nat.zero_le _,rfl⟩,rfl,by decide,by decide⟩,fun g hg=>⟨fun h1=>⟨by omega,by omega,fun x hx=>?_⟩,fun h1=>?_⟩⟩
 ·obtain ⟨g1,g2⟩:=hg
  rw [z4a hx,z4k] at g2
  have hm:=p1 x (List.mem_of_getElem? hx)
  have wk:IntKind.i64.wrap ((g.1:Int) + 1) = ((g.1 + 1:Nat):Int):=by rw [w64 (by omega) (by omega)]; omega
  refine ⟨fun h2=>⟨(g.1 + 1,g.2),⟨by dsimp only; omega,?_⟩,by dsimp only; omega,wk,rfl,rfl⟩,fun h2=>⟨fun h3=>⟨(g.1 + 1,g.2),⟨by dsimp only; omega,?_⟩,by dsimp only; omega,wk,rfl,rfl⟩,
   fun h3=>⟨fun h4=>⟨(g.1 + 1,g.2),⟨by dsimp only; omega,?_⟩,by dsimp only; omega,wk,rfl,rfl⟩,fun h4=>⟨fun h5=>⟨fun h=>by omega,fun _=>⟨fun h6=>?_,fun h6=>⟨hm.2,⟨zbg _,zbg _⟩,(g.1 + 1,g.2 + x.cap),⟨by dsimp only; omega,?_⟩,by dsimp only; omega,wk,by rw [zam],by rw [zam]⟩⟩⟩,
    fun h5=>⟨⟨hm.1,⟨zbg _,zbg _⟩,(g.1 + 1,g.2 - x.low),⟨by dsimp only; omega,?_⟩,by dsimp only; omega,wk,by rw [z8v],by rw [z8v]⟩,fun h=>absurd trivial h⟩⟩⟩⟩⟩
  ·simpa [zep,inA,h2] using g2
  ·simpa [zep,inA,h2,h3] using g2
  ·simpa [zep,inA,h2,h3,h4] using g2
  ·have h7:onF side x.dst = false:=by cases h:onF side x.dst <;> simp_all
   have:z5u I side = none:=by rw [<- g2]; simp [zep,h2,h3,h5,h7,inf,h6]
   rw [this]
   exact ⟨⟨rfl,rfl⟩,rfl⟩
  ·have h7:onF side x.dst = false:=by cases h:onF side x.dst <;> simp_all
   simpa [zep,inA,h2,h3,h5,h7,inf,h6] using g2
  ·have h7:onF side x.dst = true:=by cases h:onF side x.dst <;> simp_all
   simpa [zep,inA,h2,h3,h5,h7] using g2
 ·obtain ⟨g1,g2⟩:=hg
  rw [z8b (by omega)] at g2
  rw [<- g2]
  exact ⟨⟨rfl,rfl⟩,rfl⟩
theorem CRoom_i0_ok (I:Inst) (side:List Bool):zer Tryz.prog 116 (CRoom_i0 I side) :=
 inlI_ok z0r (show z1i Tryz.prog CRoom_i0g from z01 over1_ok (z01 on_ok (z05))) (by kernel_rfl) mixedOrders Tryz.func116 rfl rfl (fun key spec=>by kernel_rfl) _
theorem CRoom_ok:SpecOk Tryz.prog CRoom_n true (z04 true CRoom_fs) :=
 z0a z0r (show z1i Tryz.prog CRoom_g from z01 over_ok (z01 Minus_ok (z01 Of_ok (z01 Plus_ok (z05))))) (by kernel_rfl) mixedOrders Tryz.func22 rfl rfl (by kernel_rfl) (n:=2) (by decide +kernel) (I:=CRoom_IA) (fun args h=>by
   unfold CRoom_IA
   split
   ·exact zjw (CRoom_i0_ok _ _) (z06)
   ·exact z06) (A:=CRoom_A)
  (fun args h r hr=>by
   unfold CRoom_fs at hr
   split at hr
   ·rename_i ty0 I_s ty1 I_a ty2 side; cases hr; refine ⟨rfl,fun hp=>?_⟩; have hE:=CRoom_E ⟨I_s,I_a⟩ side ty0 ty1 ty2 hp; exact hE
   ·cases hr)
def Need_E0 (I : Inst) (side : List Bool) (ty0 ty1 ty2 : TypeId) : Prop :=
      ∃ (g0:Nat),
 (g0 <= I.sup.length /\
 (True/\(0:Nat) = (0:Nat)/\(0:Nat) = (0:Nat)/\True/\(↑I.sup.length:Int) = (↑I.sup.length:Int)/\(0:Int) = (↑g0:Int)/\True) /\
 ((0:Int) = (W (z44 side I.sup g0)).hi/\(0:Int) = (W (z44 side I.sup g0)).lo/\True) /\
 ((0:Int) = (0:Int)/\(0:Int) = (0:Int)/\True)/\I.sup = I.sup/\side = side/\True) /\
 ∀ (g:Nat),
 g <= I.sup.length ->
 (decide ((↑g:Int) < (↑I.sup.length:Int)) = true ->
 ((0:Int) <= (↑g:Int)/\(↑g:Int) < (↑I.sup.length:Int)) /\
 (↑g:Int).toNat < I.sup.length /\
 ∀ (x:Int),
 I.sup[(↑g:Int).toNat]? = some x ->
 True /\
 (onF side (↑g:Int) = true ->
 I64 x /\
 ((W (z44 side I.sup g)).ok/\(W x).ok) /\
 ∃ (g':Nat),
 g' <= I.sup.length /\
 I.sup.length - g' < I.sup.length - g /\
 (True /\
 (0:Nat) = (0:Nat) /\
 (0:Nat) = (0:Nat) /\
 True/\(↑I.sup.length:Int) = (↑I.sup.length:Int)/\IntKind.i64.wrap ((↑g:Int) + (1:Int)) = (↑g':Int)/\True) /\
 ((z42 (W (z44 side I.sup g)) (W x)).hi = (W (z44 side I.sup g')).hi /\
 (z42 (W (z44 side I.sup g)) (W x)).lo = (W (z44 side I.sup g')).lo/\True) /\
 ((0:Int) = (0:Int)/\(0:Int) = (0:Int)/\True)/\I.sup = I.sup/\side = side/\True) /\
 (onF side (↑g:Int) = false ->
 ∃ (g':Nat),
 g' <= I.sup.length /\
 I.sup.length - g' < I.sup.length - g /\
 (True /\
 (0:Nat) = (0:Nat) /\
 (0:Nat) = (0:Nat) /\
 True/\(↑I.sup.length:Int) = (↑I.sup.length:Int)/\IntKind.i64.wrap ((↑g:Int) + (1:Int)) = (↑g':Int)/\True) /\
 ((W (z44 side I.sup g)).hi = (W (z44 side I.sup g')).hi/\(W (z44 side I.sup g)).lo = (W (z44 side I.sup g')).lo/\True) /\
 ((0:Int) = (0:Int)/\(0:Int) = (0:Int)/\True)/\I.sup = I.sup/\side = side/\True)) /\
 (decide ((↑g:Int) < (↑I.sup.length:Int)) = false ->
 (((W (z44 side I.sup g)).hi = (W (z2h I side)).hi/\(W (z44 side I.sup g)).lo = (W (z2h I side)).lo/\True)/\True)/\True)
theorem Need_q (I:Inst) (side:List Bool) (ty0 ty1 ty2:TypeId):Need_E0 I side ty0 ty1 ty2 = z3a TT Need_g (Need_I I side) (Need_an I side) Tryz.f23 [.agg [.row 0,.row 1],.row 2] [(0,.row false ty0 (.ints .i64 I.sup)),(1,.row false ty1 (.arcs I.arcs)),(2,.row false ty2 (.bools side))] (Need_r I side):=by kernel_rfl
theorem Need_E (I:Inst) (side:List Bool) (ty0 ty1 ty2:TypeId) (hp:A64 I.sup/\I.sup.length <= 140737488351232):FVc TT Need_g (Need_I I side) (Need_an I side) Tryz.f23 [.agg [.row 0,.row 1],.row 2] [(0,.row false ty0 (.ints .i64 I.sup)),(1,.row false ty1 (.arcs I.arcs)),(2,.row false ty2 (.bools side))] (Need_r I side):=by
 refine FVc.of (Need_E0 I side ty0 ty1 ty2) (Need_q I side ty0 ty1 ty2) ?_
 unfold Need_E0
 obtain ⟨p1,p2⟩:=hp
 simp only [eq_self,exists_const,forall_const,decide_eq_true_eq,decide_eq_false_iff_not,and_true,true_and,bne_iff_ne,ne_eq,bne_eq_false_iff_eq,Int.toNat_natCast,Bool.not_eq_true',Bool.not_eq_false',beq_iff_eq,beq_eq_false_iff_ne,z08]
 refine ⟨0,⟨Nat.zero_le _,rfl,by simp only [z44]; decide,by simp only [z44]; decide⟩,fun g hg=>⟨fun h1=>⟨by omega,by omega,fun x hx=>?_⟩,fun h1=>?_⟩⟩
 ·have hm:=p1 x (List.mem_of_getElem? hx)
  have wk:IntKind.i64.wrap ((g:Int) + 1) = ((g + 1:Nat):Int):=by rw [w64 (by omega) (by omega)]; omega
  have hd:I.sup.getD g 0 = x:=by simp [List.getD,hx]
  refine ⟨fun h2=>⟨hm,⟨zbg _,zbg _⟩,g + 1,by omega,by omega,wk,?_,?_⟩,fun h2=>⟨g + 1,by omega,by omega,wk,?_,?_⟩⟩
  all_goals (rw [onF_nat] at h2; simp only [z44,hd,h2,if_true,if_false,zam,Int.add_zero,Bool.false_eq_true])
 ·have:g = I.sup.length:=by omega
  subst this
  exact ⟨rfl,rfl⟩
theorem Need_ok:SpecOk Tryz.prog Need_n true (z04 true Need_fs) :=
 z0a z0r (show z1i Tryz.prog Need_g from z01 on_ok (z01 Plus_ok (z01 Of_ok (z05)))) (by kernel_rfl) mixedOrders Tryz.func23 rfl rfl (by kernel_rfl) (n:=2) (by decide +kernel) (I:=Need_IA) (fun _ _=>z06) (A:=Need_A)
  (fun args h r hr=>by
   unfold Need_fs at hr
   split at hr
   ·rename_i ty0 I_s ty1 I_a ty2 side; cases hr; refine ⟨rfl,fun hp=>?_⟩; have hE:=Need_E ⟨I_s,I_a⟩ side ty0 ty1 ty2 hp; exact hE
   ·cases hr)
end Go.Proofs.YtggblkbecekbdaaGreat
end
