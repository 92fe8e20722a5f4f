/- Part of the proof: FW20, Solve11, DX20, FX20, Solve12, DY20, FY20, DP11, FP11, DC10. -/
import Derived.Test.YtggblkbecekbdaaGreatZG8
import Derived.Test.YtggblkbecekbdaaGreatZG13
import Derived.Test.YtggblkbecekbdaaGreatZG5
import Derived.Test.YtggblkbecekbdaaGreatZG9
import Derived.Test.YtggblkbecekbdaaGreatZG7
import Derived.Test.YtggblkbecekbdaaGreatZG12
import Derived.Test.YtggblkbecekbdaaGreatZG10
import Derived.Test.YtggblkbecekbdaaGreatZG6
set_option linter.unusedVariables false
set_option linter.all false
set_option linter.unusedSimpArgs false
set_option maxRecDepth 1000000
section
namespace Go.Proofs.YtggblkbecekbdaaGreat
open Go Go.RowKit Go.Ql Go.Vc
theorem piece20_ok:SpecOk Tryz.prog zm4 false za6 :=
 z9y z0k (show z1d Tryz.prog piece20_g from z05) (by kernel_rfl) mixedOrders Tryz.func149 rfl rfl (by kernel_rfl) _
def out20_E0 (g_n : Int) (g_l : List Arc) (g_i : List Int) (g_s : List Int) (n : Int) (ty1 ty2 ty3 : TypeId) : Prop :=
      ∀ (R:Loop->Prop),
 True /\
 ((!(decide ((0:Int) <= n) && decide (n < g_n))) = true->(True/\True)/\[] = z0n g_i g_s n (0:Nat)/\True) /\
 ((!(decide ((0:Int) <= n) && decide (n < g_n))) = false ->
 ((0:Int) <= IntKind.i64.wrap (IntKind.i64.wrap ((2:Int) * n) + (0:Int))/\IntKind.i64.wrap (IntKind.i64.wrap ((2:Int) * n) + (0:Int)) < (↑g_s.length:Int)) /\
 (IntKind.i64.wrap (IntKind.i64.wrap ((2:Int) * n) + (0:Int))).toNat < g_s.length /\
 ∀ (x:Int),
 g_s[(IntKind.i64.wrap (IntKind.i64.wrap ((2:Int) * n) + (0:Int))).toNat]? = some x ->
 ((0:Int) <= IntKind.i64.wrap (IntKind.i64.wrap (IntKind.i64.wrap ((2:Int) * n) + (0:Int)) + (1:Int)) /\
 IntKind.i64.wrap (IntKind.i64.wrap (IntKind.i64.wrap ((2:Int) * n) + (0:Int)) + (1:Int)) < (↑g_s.length:Int)) /\
 (IntKind.i64.wrap (IntKind.i64.wrap (IntKind.i64.wrap ((2:Int) * n) + (0:Int)) + (1:Int))).toNat < g_s.length /\
 ∀ (x_1:Int),
 g_s[(IntKind.i64.wrap (IntKind.i64.wrap (IntKind.i64.wrap ((2:Int) * n) + (0:Int)) + (1:Int))).toNat]? = some x_1 ->
 ((0:Int) <= x/\x <= x_1/\x_1 <= x_1/\x_1 <= (↑g_i.length:Int)) /\
 ∃ (g0:Nat),
 (g0 <= (z0n g_i g_s n (0:Nat)).length /\
 (True /\
 True /\
 (↑(List.drop x.toNat (List.take x_1.toNat g_i)).length:Int) = (↑(z0n g_i g_s n (0:Nat)).length:Int) /\
 (0:Int) = (↑g0:Int)/\True) /\
 (True/\True) /\
 [] = List.take g0 (z0n g_i g_s n (0:Nat)) /\
 List.drop x.toNat (List.take x_1.toNat g_i) = z0n g_i g_s n (0:Nat) /\
 R = R /\
 ((0:Int) = (0:Int)/\True) /\
 (n = n/\True) /\
 ((0:Nat) = (0:Nat)/\True)/\z59 Int/\(g_n = g_n/\True/\True/\True/\True)/\g_l = g_l/\g_i = g_i/\g_s = g_s/\True) /\
 ∀ (g:Nat),
 g <= (z0n g_i g_s n (0:Nat)).length ->
 (decide ((↑g:Int) < (↑(z0n g_i g_s n (0:Nat)).length:Int)) = true ->
 ((0:Int) <= (↑g:Int)/\(↑g:Int) < (↑(z0n g_i g_s n (0:Nat)).length:Int)) /\
 (↑g:Int).toNat < (z0n g_i g_s n (0:Nat)).length /\
 ∀ (x:Int),
 (z0n g_i g_s n (0:Nat))[(↑g:Int).toNat]? = some x ->
 R = R /\
 (List.take g (z0n g_i g_s n (0:Nat))).length + (1:Nat) <= (1000000000:Nat) /\
 ∃ (g':Nat),
 g' <= (z0n g_i g_s n (0:Nat)).length /\
 (z0n g_i g_s n (0:Nat)).length - g' < (z0n g_i g_s n (0:Nat)).length - g /\
 (True /\
 True /\
 (↑(z0n g_i g_s n (0:Nat)).length:Int) = (↑(z0n g_i g_s n (0:Nat)).length:Int) /\
 IntKind.i64.wrap ((↑g:Int) + (1:Int)) = (↑g':Int)/\True) /\
 (True/\True) /\
 List.take g (z0n g_i g_s n (0:Nat)) ++ [x] = List.take g' (z0n g_i g_s n (0:Nat)) /\
 z0n g_i g_s n (0:Nat) = z0n g_i g_s n (0:Nat) /\
 R = R /\
 ((0:Int) = (0:Int)/\True) /\
 (n = n/\True) /\
 ((0:Nat) = (0:Nat)/\True) /\
 z59 Int/\(g_n = g_n/\True/\True/\True/\True)/\g_l = g_l/\g_i = g_i/\g_s = g_s/\True) /\
 (decide ((↑g:Int) < (↑(z0n g_i g_s n (0:Nat)).length:Int)) = false ->
 (True/\True)/\List.take g (z0n g_i g_s n (0:Nat)) = z0n g_i g_s n (0:Nat)/\True))
theorem out20_q (g_n:Int) (g_l:List Arc) (g_i:List Int) (g_s:List Int) (n:Int) (ty1 ty2 ty3:TypeId):out20_E0 g_n g_l g_i g_s n ty1 ty2 ty3 = z2h TT out20_g (out20_I g_n g_l g_i g_s n) (out20_an g_n g_l g_i g_s n) Tryz.f99 [.ptr 0 0 0 0,.int .i64 n] [(0,.box false 137 [.int .i64 g_n,.row 1,.row 2,.row 3]),(1,.row false ty1 (.arcs g_l)),(2,.row false ty2 (.ints .i64 g_i)),(3,.row false ty3 (.ints .i64 g_s))] (out20_r g_n g_l g_i g_s n):=by kernel_rfl
theorem out20_E (g_n:Int) (g_l:List Arc) (g_i:List Int) (g_s:List Int) (n:Int) (ty1 ty2 ty3:TypeId) (hp:PieceOk g_n g_i g_s n 0):FVc TT out20_g (out20_I g_n g_l g_i g_s n) (out20_an g_n g_l g_i g_s n) Tryz.f99 [.ptr 0 0 0 0,.int .i64 n] [(0,.box false 137 [.int .i64 g_n,.row 1,.row 2,.row 3]),(1,.row false ty1 (.arcs g_l)),(2,.row false ty2 (.ints .i64 g_i)),(3,.row false ty3 (.ints .i64 g_s))] (out20_r g_n g_l g_i g_s n):=by
 refine FVc.of (out20_E0 g_n g_l g_i g_s n ty1 ty2 ty3) (out20_q g_n g_l g_i g_s n ty1 ty2 ty3) ?_
 unfold out20_E0
 simp only [eq_self,exists_const,forall_const,decide_eq_true_eq,decide_eq_false_iff_not,and_true,true_and,bne_iff_ne,ne_eq,bne_eq_false_iff_eq,Int.toNat_natCast,Bool.not_eq_true',Bool.not_eq_false',beq_iff_eq,beq_eq_false_iff_ne,z08]
 obtain ⟨n0,n1,gn1,il,sl,a,b,c⟩:=hp
 have e1:IntKind.i64.wrap (IntKind.i64.wrap (2 * n) + 0) = ((2 * n.toNat + 0:Nat):Int):=by rw [w64 (x:=2 * n) (by omega) (by omega),w64 (by omega) (by omega)]; omega
 have e2:IntKind.i64.wrap (((2 * n.toNat + 0:Nat):Int) + 1) = ((2 * n.toNat + 0 + 1:Nat):Int):=by rw [w64 (by omega) (by omega)]; omega
 simp only [e1,e2,Int.toNat_natCast]
 refine ⟨fun h=>?_,fun _=>⟨by omega,by omega,fun x hx=>⟨by omega,by omega,fun y hy=>?_⟩⟩⟩
 ·simp [n0,n1] at h
 have ex:g_s.getD (2 * n.toNat + 0) 0 = x:=by rw [List.getD_eq_getElem?_getD,hx]; rfl
 have ey:g_s.getD (2 * n.toNat + 0 + 1) 0 = y:=by rw [List.getD_eq_getElem?_getD,hy]; rfl
 have hP:z0n g_i g_s n 0 = (g_i.take y.toNat).drop x.toNat:=by unfold z0n; rw [ex,ey]
 have hl:(z0n g_i g_s n 0).length <= g_i.length:=by rw [hP,List.length_drop,List.length_take]; omega
 rw [ex] at a b
 rw [ey] at b c
 rw [<- hP]
 generalize z0n g_i g_s n 0 = P at *
 refine ⟨by omega,0,⟨Nat.zero_le _,⟨rfl,rfl⟩,rfl,rfl⟩,fun k hk=>⟨fun h=>⟨by omega,by omega,fun z hz=>⟨by rw [List.length_take]; omega,k + 1,by omega,by omega,by rw [w64 (by omega) (by omega)]; omega,(z23 hz).symm⟩⟩,fun h=>List.take_of_length_le (by omega)⟩⟩
theorem out20_i0_ok (g_n:Int) (g_l:List Arc) (g_i:List Int) (g_s:List Int) (n:Int):zfm Tryz.prog 160 (out20_i0 g_n g_l g_i g_s n) :=
 inlI_ok z0k (show z1d Tryz.prog out20_i0g from z00 has_ok (z05)) (by kernel_rfl) mixedOrders Tryz.func160 rfl rfl (fun key spec=>by kernel_rfl) _
theorem out20_ok:SpecOk Tryz.prog out20_n true (z02 true out20_fs) :=
 z0a z0k (show z1d Tryz.prog out20_g from z00 piece20_ok (z05)) (by kernel_rfl) mixedOrders Tryz.func99 rfl rfl (by kernel_rfl) (n:=2) (by decide +kernel) (I:=out20_IA) (fun args h=>by
   unfold out20_IA
   split
   ·exact zlk (out20_i0_ok _ _ _ _ _) (z06)
   ·exact z06) (A:=out20_A)
  (fun args h r hr=>by
   unfold out20_fs at hr
   split at hr
   ·rename_i n g_n ty1 g_l ty2 g_i ty3 g_s; cases hr; refine ⟨rfl,fun hp=>?_⟩; have hE:=out20_E g_n g_l g_i g_s n ty1 ty2 ty3 hp; exact hE
   ·cases hr)
def in20_E0 (g_n : Int) (g_l : List Arc) (g_i : List Int) (g_s : List Int) (n : Int) (ty1 ty2 ty3 : TypeId) : Prop :=
      ∀ (R:Loop->Prop),
 True /\
 ((!(decide ((0:Int) <= n) && decide (n < g_n))) = true->(True/\True)/\[] = z0n g_i g_s n (1:Nat)/\True) /\
 ((!(decide ((0:Int) <= n) && decide (n < g_n))) = false ->
 ((0:Int) <= IntKind.i64.wrap (IntKind.i64.wrap ((2:Int) * n) + (1:Int))/\IntKind.i64.wrap (IntKind.i64.wrap ((2:Int) * n) + (1:Int)) < (↑g_s.length:Int)) /\
 (IntKind.i64.wrap (IntKind.i64.wrap ((2:Int) * n) + (1:Int))).toNat < g_s.length /\
 ∀ (x:Int),
 g_s[(IntKind.i64.wrap (IntKind.i64.wrap ((2:Int) * n) + (1:Int))).toNat]? = some x ->
 ((0:Int) <= IntKind.i64.wrap (IntKind.i64.wrap (IntKind.i64.wrap ((2:Int) * n) + (1:Int)) + (1:Int)) /\
 IntKind.i64.wrap (IntKind.i64.wrap (IntKind.i64.wrap ((2:Int) * n) + (1:Int)) + (1:Int)) < (↑g_s.length:Int)) /\
 (IntKind.i64.wrap (IntKind.i64.wrap (IntKind.i64.wrap ((2:Int) * n) + (1:Int)) + (1:Int))).toNat < g_s.length /\
 ∀ (x_1:Int),
 g_s[(IntKind.i64.wrap (IntKind.i64.wrap (IntKind.i64.wrap ((2:Int) * n) + (1:Int)) + (1:Int))).toNat]? = some x_1 ->
 ((0:Int) <= x/\x <= x_1/\x_1 <= x_1/\x_1 <= (↑g_i.length:Int)) /\
 ∃ (g0:Nat),
 (g0 <= (z0n g_i g_s n (1:Nat)).length /\
 (True /\
 True /\
 (↑(List.drop x.toNat (List.take x_1.toNat g_i)).length:Int) = (↑(z0n g_i g_s n (1:Nat)).length:Int) /\
 (0:Int) = (↑g0:Int)/\True) /\
 (True/\True) /\
 [] = List.take g0 (z0n g_i g_s n (1:Nat)) /\
 List.drop x.toNat (List.take x_1.toNat g_i) = z0n g_i g_s n (1:Nat) /\
 R = R /\
 ((1:Int) = (1:Int)/\True) /\
 (n = n/\True) /\
 ((0:Nat) = (0:Nat)/\True)/\z59 Int/\(g_n = g_n/\True/\True/\True/\True)/\g_l = g_l/\g_i = g_i/\g_s = g_s/\True) /\
 ∀ (g:Nat),
 g <= (z0n g_i g_s n (1:Nat)).length ->
 (decide ((↑g:Int) < (↑(z0n g_i g_s n (1:Nat)).length:Int)) = true ->
 ((0:Int) <= (↑g:Int)/\(↑g:Int) < (↑(z0n g_i g_s n (1:Nat)).length:Int)) /\
 (↑g:Int).toNat < (z0n g_i g_s n (1:Nat)).length /\
 ∀ (x:Int),
 (z0n g_i g_s n (1:Nat))[(↑g:Int).toNat]? = some x ->
 R = R /\
 (List.take g (z0n g_i g_s n (1:Nat))).length + (1:Nat) <= (1000000000:Nat) /\
 ∃ (g':Nat),
 g' <= (z0n g_i g_s n (1:Nat)).length /\
 (z0n g_i g_s n (1:Nat)).length - g' < (z0n g_i g_s n (1:Nat)).length - g /\
 (True /\
 True /\
 (↑(z0n g_i g_s n (1:Nat)).length:Int) = (↑(z0n g_i g_s n (1:Nat)).length:Int) /\
 IntKind.i64.wrap ((↑g:Int) + (1:Int)) = (↑g':Int)/\True) /\
 (True/\True) /\
 List.take g (z0n g_i g_s n (1:Nat)) ++ [x] = List.take g' (z0n g_i g_s n (1:Nat)) /\
 z0n g_i g_s n (1:Nat) = z0n g_i g_s n (1:Nat) /\
 R = R /\
 ((1:Int) = (1:Int)/\True) /\
 (n = n/\True) /\
 ((0:Nat) = (0:Nat)/\True) /\
 z59 Int/\(g_n = g_n/\True/\True/\True/\True)/\g_l = g_l/\g_i = g_i/\g_s = g_s/\True) /\
 (decide ((↑g:Int) < (↑(z0n g_i g_s n (1:Nat)).length:Int)) = false ->
 (True/\True)/\List.take g (z0n g_i g_s n (1:Nat)) = z0n g_i g_s n (1:Nat)/\True))
theorem in20_q (g_n:Int) (g_l:List Arc) (g_i:List Int) (g_s:List Int) (n:Int) (ty1 ty2 ty3:TypeId):in20_E0 g_n g_l g_i g_s n ty1 ty2 ty3 = z2h TT in20_g (in20_I g_n g_l g_i g_s n) (in20_an g_n g_l g_i g_s n) Tryz.f100 [.ptr 0 0 0 0,.int .i64 n] [(0,.box false 137 [.int .i64 g_n,.row 1,.row 2,.row 3]),(1,.row false ty1 (.arcs g_l)),(2,.row false ty2 (.ints .i64 g_i)),(3,.row false ty3 (.ints .i64 g_s))] (in20_r g_n g_l g_i g_s n):=by kernel_rfl
theorem in20_E (g_n:Int) (g_l:List Arc) (g_i:List Int) (g_s:List Int) (n:Int) (ty1 ty2 ty3:TypeId) (hp:PieceOk g_n g_i g_s n 1):FVc TT in20_g (in20_I g_n g_l g_i g_s n) (in20_an g_n g_l g_i g_s n) Tryz.f100 [.ptr 0 0 0 0,.int .i64 n] [(0,.box false 137 [.int .i64 g_n,.row 1,.row 2,.row 3]),(1,.row false ty1 (.arcs g_l)),(2,.row false ty2 (.ints .i64 g_i)),(3,.row false ty3 (.ints .i64 g_s))] (in20_r g_n g_l g_i g_s n):=by
 refine FVc.of (in20_E0 g_n g_l g_i g_s n ty1 ty2 ty3) (in20_q g_n g_l g_i g_s n ty1 ty2 ty3) ?_
 unfold in20_E0
 simp only [eq_self,exists_const,forall_const,decide_eq_true_eq,decide_eq_false_iff_not,and_true,true_and,bne_iff_ne,ne_eq,bne_eq_false_iff_eq,Int.toNat_natCast,Bool.not_eq_true',Bool.not_eq_false',beq_iff_eq,beq_eq_false_iff_ne,z08]
 obtain ⟨n0,n1,gn1,il,sl,a,b,c⟩:=hp
 have e1:IntKind.i64.wrap (IntKind.i64.wrap (2 * n) + 1) = ((2 * n.toNat + 1:Nat):Int):=by rw [w64 (x:=2 * n) (by omega) (by omega),w64 (by omega) (by omega)]; omega
 have e2:IntKind.i64.wrap (((2 * n.toNat + 1:Nat):Int) + 1) = ((2 * n.toNat + 1 + 1:Nat):Int):=by rw [w64 (by omega) (by omega)]; omega
 simp only [e1,e2,Int.toNat_natCast]
 refine ⟨fun h=>?_,fun _=>⟨by omega,by omega,fun x hx=>⟨by omega,by omega,fun y hy=>?_⟩⟩⟩
 ·simp [n0,n1] at h
 have ex:g_s.getD (2 * n.toNat + 1) 0 = x:=by rw [List.getD_eq_getElem?_getD,hx]; rfl
 have ey:g_s.getD (2 * n.toNat + 1 + 1) 0 = y:=by rw [List.getD_eq_getElem?_getD,hy]; rfl
 have hP:z0n g_i g_s n 1 = (g_i.take y.toNat).drop x.toNat:=by unfold z0n; rw [ex,ey]
 have hl:(z0n g_i g_s n 1).length <= g_i.length:=by rw [hP,List.length_drop,List.length_take]; omega
 rw [ex] at a b
 rw [ey] at b c
 rw [<- hP]
 generalize z0n g_i g_s n 1 = P at *
 refine ⟨by omega,0,⟨Nat.zero_le _,⟨rfl,rfl⟩,rfl,rfl⟩,fun k hk=>⟨fun h=>⟨by omega,by omega,fun z hz=>⟨by rw [List.length_take]; omega,k + 1,by omega,by omega,by rw [w64 (by omega) (by omega)]; omega,(z23 hz).symm⟩⟩,fun h=>List.take_of_length_le (by omega)⟩⟩
theorem in20_i0_ok (g_n:Int) (g_l:List Arc) (g_i:List Int) (g_s:List Int) (n:Int):zfm Tryz.prog 160 (in20_i0 g_n g_l g_i g_s n) :=
 inlI_ok z0k (show z1d Tryz.prog in20_i0g from z00 has_ok (z05)) (by kernel_rfl) mixedOrders Tryz.func160 rfl rfl (fun key spec=>by kernel_rfl) _
theorem in20_ok:SpecOk Tryz.prog in20_n true (z02 true in20_fs) :=
 z0a z0k (show z1d Tryz.prog in20_g from z00 piece20_ok (z05)) (by kernel_rfl) mixedOrders Tryz.func100 rfl rfl (by kernel_rfl) (n:=2) (by decide +kernel) (I:=in20_IA) (fun args h=>by
   unfold in20_IA
   split
   ·exact zlk (in20_i0_ok _ _ _ _ _) (z06)
   ·exact z06) (A:=in20_A)
  (fun args h r hr=>by
   unfold in20_fs at hr
   split at hr
   ·rename_i n g_n ty1 g_l ty2 g_i ty3 g_s; cases hr; refine ⟨rfl,fun hp=>?_⟩; have hE:=in20_E g_n g_l g_i g_s n ty1 ty2 ty3 hp; exact hE
   ·cases hr)
end Go.Proofs.YtggblkbecekbdaaGreat
end
section
namespace Go.Ql
open Go Go.Vc
structure LowI (I:Inst) (a:Nat) (x o:List Int):Prop where
 over:OverOf I x o
 at_:∀ c,c < I.arcs.length->x.getD c 0 = if c < a then (z29 I c).low else 0
 bd:∀ v,v < I.sup.length->-(4398046511104 * (2 * (a:Int) + 1)) <= o.getD v 0/\o.getD v 0 <= 4398046511104 * (2 * (a:Int) + 1)
 pos:z4i o I.sup.length <= 4398046511104 * ((I.sup.length:Int) + a)
structure BuildP (I:Inst) (x o:List Int) (t:Rows3):Prop where
 low:LowI I I.arcs.length x o
 at_:AtOk I t
theorem netK_zero (n:Nat) (l:List Arc) {x:List Int} (h:∀ c,x.getD c 0 = 0) (v:Nat):∀ k,z3e n l x k v = 0
 | 0=>rfl
 | k + 1=>by
  rw [z3e,netK_zero n l h v k]
  unfold z4y
  rw [h]
  simp
def z5a (I:Inst) (n:Nat):List Nat:=segA I I.arcs.length (2 * n)
def z7x (I:Inst) (n:Nat):List Nat:=segA I I.arcs.length (2 * n + 1)
def fwd (l:List Nat):List Stp:=l.map fun a=>(a,false)
def bwd (l:List Nat):List Stp:=l.map fun a=>(a,true)
def stpsF (I:Inst) (n:Nat):List Stp:=fwd (z5a I n) ++ bwd (z7x I n)
def z1z (I:Inst) (n:Nat) (q:List Stp):List (List (List Int)):=(List.range I.sup.length).map fun u=>(if u < n then stpsF I u else if u = n then q else []).map z68
theorem z74 (I:Inst) (n:Nat) (q:List Stp):(z1z I n q).length = I.sup.length:=by simp [z1z]
theorem z73 {I:Inst} {n:Nat} {q:List Stp} {u:Nat} (h:u < I.sup.length):(z1z I n q)[u]? = some ((if u < n then stpsF I u else if u = n then q else []).map z68):=by
 unfold z1z; rw [List.getElem?_map,List.getElem?_range h]; rfl
theorem stpsK_zero (I:Inst):List.replicate I.sup.length [] = z1z I 0 []:=by
 refine List.ext_getElem? fun t=>?_
 by_cases h:t < I.sup.length
 ·rw [z73 h,List.getElem?_replicate,if_pos h,if_neg (Nat.not_lt_zero _)]
  split <;> rfl
 ·rw [List.getElem?_eq_none (by simp; omega),List.getElem?_eq_none (by rw [z74]; omega)]
theorem stpsK_set {I:Inst} {n:Nat} {q:List Stp} (s:Stp) {r:List (List Int)} (hr:(z1z I n q)[n]? = some r):(z1z I n q).set n (r ++ [z68 s]) = z1z I n (q ++ [s]):=by
 have hn:n < I.sup.length:=by have:=(List.getElem?_eq_some_iff.1 hr).1; rwa [z74] at this
 rw [z73 hn,if_neg (Nat.lt_irrefl _),if_pos rfl] at hr
 cases hr
 refine List.ext_getElem? fun t=>?_
 rw [List.getElem?_set,z74]
 by_cases h:t < I.sup.length
 ·by_cases e:n = t
  ·subst e
   rw [if_pos rfl,if_pos hn,z73 h,if_neg (Nat.lt_irrefl _),if_pos rfl,List.map_append]; rfl
  ·rw [if_neg e,z73 h,z73 h]
   by_cases h2:t < n
   ·rw [if_pos h2,if_pos h2]
   ·rw [if_neg h2,if_neg h2,if_neg (fun x=>e x.symm),if_neg (fun x=>e x.symm)]
 ·rw [if_neg (by omega),List.getElem?_eq_none (by rw [z74]; omega),List.getElem?_eq_none (by rw [z74]; omega)]
theorem stpsK_next (I:Inst) (n:Nat):z1z I n (stpsF I n) = z1z I (n + 1) []:=by
 unfold z1z
 refine List.map_congr_left fun u _=>?_
 by_cases h:u < n
 ·rw [if_pos h,if_pos (by omega)]
 ·rw [if_neg h]
  by_cases e:u = n
  ·subst e; rw [if_pos rfl,if_pos (Nat.lt_succ_self _)]
  ·rw [if_neg e,if_neg (by omega)]
   split <;> rfl
theorem fm_len {F:Nat->List Int} {S:Nat->Nat} (h0:S 0 = 0) (hS:∀ k,S (k + 1) = S k + (F k).length):∀ n,((List.range n).flatMap F).length = S n
 | 0=>by simp [h0]
 | n + 1=>by rw [List.range_succ,List.flatMap_append,List.length_append,fm_len h0 hS n,hS]; simp
theorem fm_piece {F:Nat->List Int} {S:Nat->Nat} (h0:S 0 = 0) (hS:∀ k,S (k + 1) = S k + (F k).length) {j:Nat}:∀ n,j < n->(((List.range n).flatMap F).take (S (j + 1))).drop (S j) = F j
 | 0,h=>by omega
 | n + 1,h=>by
  have hl:=fm_len h0 hS n
  rw [List.range_succ,List.flatMap_append]
  by_cases e:j = n
  ·subst e
   rw [List.take_of_length_le (by rw [List.length_append,hl,hS]; simp),<- hl,List.drop_append]
   simp
  ·have hm:∀ d k,S k <= S (k + d):=fun d k=>by
    induction d with
    | zero=>exact Nat.le_refl _
    | succ d ih=>rw [<- Nat.add_assoc,hS]; omega
   have:=hm (n - (j + 1)) (j + 1)
   rw [show j + 1 + (n - (j + 1)) = n by omega] at this
   rw [List.take_append_of_le_length (by omega)]
   exact fm_piece h0 hS n (by omega)
theorem z5j {I:Inst} {j:Nat} (h:j <= 2 * I.sup.length):(z0z I).getD j 0 = (z9g I j:Int):=by
 unfold z0z
 rw [List.getD_eq_getElem?_getD,List.getElem?_map,List.getElem?_range (by omega)]; rfl
theorem piece_is {I:Inst} {n w:Nat} (hn:n < I.sup.length) (hw:w <= 1):z0n (z2o I) (z0z I) (n:Int) w = z40 (segA I I.arcs.length (2 * n + w)):=by
 unfold z0n
 rw [Int.toNat_natCast,z5j (by omega),z5j (by omega),Int.toNat_natCast,Int.toNat_natCast]
 unfold z2o z40
 exact fm_piece (S:=z9g I) rfl (fun k=>by rw [z9g,List.length_map]; rfl) _ (by omega)
theorem sumA_len (I:Inst):(z2o I).length = z9g I (2 * I.sup.length):=by
 unfold z2o
 exact fm_len (S:=z9g I) rfl (fun k=>by rw [z9g,List.length_map]; rfl) _
theorem piece_ok {I:Inst} (hr:z03 I = 0) {n w:Nat} (hn:n < I.sup.length) (hw:w <= 1):PieceOk I.sup.length (z2o I) (z0z I) (n:Int) w:=by
 have hs:=z0h hr
 have h1:=zar I (2 * n + w) 1
 have h2:=zar I (2 * n + w + 1) (2 * I.sup.length - (2 * n + w + 1))
 rw [show 2 * n + w + 1 + (2 * I.sup.length - (2 * n + w + 1)) = 2 * I.sup.length by omega] at h2
 have h3:=sumA_le I (2 * I.sup.length)
 have h4:2 * I.sup.length * I.arcs.length <= 128 * 256:=Nat.mul_le_mul (by omega) (by omega)
 have h5:=sumA_len I
 refine ⟨by omega,by omega,by omega,by omega,by simp [z0z]; omega,?_,?_,?_⟩
 ·rw [Int.toNat_natCast,z5j (by omega)]; omega
 ·rw [Int.toNat_natCast,z5j (by omega),z5j (by omega)]; omega
 ·rw [Int.toNat_natCast,z5j (by omega)]; omega
theorem segA_mem {I:Inst} (hr:z03 I = 0) {n a:Nat}:(a ∈ z5a I n ↔ a < I.arcs.length/\(z29 I a).src = n)/\(a ∈ z7x I n ↔ a < I.arcs.length/\(z29 I a).dst = n):=by
 have ok:∀ a,a < I.arcs.length->z35 I.sup.length (z29 I a) = true:=fun a ha=>by
  have:=z1o hr ha
  have q1:=this.s0; have q2:=this.s1; have q3:=this.d0; have q4:=this.d1
  exact okArc_iff.2 ⟨q1,by omega,q3,by omega⟩
 have e:∀ j,inK I j a = (z35 I.sup.length (z29 I a) && hasK (z29 I a) j):=fun _=>rfl
 unfold z5a z7x segA
 rw [List.mem_filter,List.mem_filter,List.mem_range,e,e]
 refine ⟨⟨fun h=>⟨h.1,?_⟩,fun h=>⟨h.1,?_⟩⟩,⟨fun h=>⟨h.1,?_⟩,fun h=>⟨h.1,?_⟩⟩⟩
 ·have h2:=h.2
  rw [ok a h.1,Bool.true_and,hasK_iff] at h2
  omega
 ·rw [ok a h.1,Bool.true_and,hasK_iff]; left; omega
 ·have h2:=h.2
  rw [ok a h.1,Bool.true_and,hasK_iff] at h2
  omega
 ·rw [ok a h.1,Bool.true_and,hasK_iff]; right; omega
theorem steps_ok {I:Inst} (hr:z03 I = 0):AtOk I (z1z I I.sup.length []):=by
 have hs:=z0h hr
 refine ⟨z74 _ _ _,fun u hu=>⟨stpsF I u,by rw [z73 hu,if_pos hu],?_,fun s=>?_⟩⟩
 ·have h1:=z9q I (2 * u) I.arcs.length
  have h2:=z9q I (2 * u + 1) I.arcs.length
  unfold z79 at h1 h2
  unfold stpsF fwd bwd z5a z7x
  rw [List.length_append,List.length_map,List.length_map]
  omega
 ·obtain ⟨a,k⟩:=s
  have hm:=@segA_mem I hr u a
  unfold stpsF fwd bwd okS frS
  rw [List.mem_append,List.mem_map,List.mem_map]
  dsimp only
  constructor
  ·rintro (⟨b,hb,he⟩ | ⟨b,hb,he⟩)
   ·cases he
    obtain ⟨q1,q2⟩:=hm.1.1 hb
    exact ⟨q1,by rw [if_neg (by simp)]; omega⟩
   ·cases he
    obtain ⟨q1,q2⟩:=hm.2.1 hb
    exact ⟨q1,by rw [if_pos rfl]; omega⟩
  ·rintro ⟨h1,h2⟩
   have ha:=z1o hr h1
   have:=ha.s0; have:=ha.d0
   cases k with
   | false =>
    rw [if_neg (by simp)] at h2
    exact .inl ⟨a,hm.1.2 ⟨h1,by omega⟩,rfl⟩
   | true =>
    rw [if_pos rfl] at h2
    exact .inr ⟨a,hm.2.2 ⟨h1,by omega⟩,rfl⟩
theorem LowI.begin {I:Inst} (hr:z03 I = 0):LowI I 0 (List.replicate I.arcs.length 0) I.sup:=by
 have hz:∀ c,(List.replicate I.arcs.length (0:Int)).getD c 0 = 0:=fun c=>by
  rw [List.getD_eq_getElem?_getD,List.getElem?_replicate]; split <;> rfl
 refine ⟨⟨rfl,by simp,fun v hv=>by rw [netK_zero _ _ hz]; omega⟩,fun c _=>by rw [hz,if_neg (Nat.not_lt_zero _)],fun v hv=>?_,?_⟩
 ·have hm:I.sup.getD v 0 ∈ I.sup:=by rw [List.getD_eq_getElem?_getD,List.getElem?_eq_getElem hv]; exact List.getElem_mem hv
  have:=(z28 hr).1 _ hm
  omega
 ·have:∀ k,k <= I.sup.length->z4i I.sup k <= 4398046511104 * (k:Int):=fun k=>by
   induction k with
   | zero=>intro _; simp [z4i]
   | succ k ih =>
    intro hk
    have h1:=ih (by omega)
    have hm:I.sup.getD k 0 ∈ I.sup:=by rw [List.getD_eq_getElem?_getD,List.getElem?_eq_getElem hk]; exact List.getElem_mem hk
    have h2:=(z28 hr).1 _ hm
    rw [z4i]
    have e:((k + 1:Nat):Int) = k + 1:=by omega
    rw [e]
    omega
  have:=this _ (Nat.le_refl _)
  have e:((0:Nat):Int) = 0:=rfl
  rw [e]
  omega
theorem LowI.next {I:Inst} (hr:z03 I = 0) {a:Nat} {x o:List Int} (h:LowI I a x o) (ha:a < I.arcs.length):LowI I (a + 1) (z4q x (a,false) (z29 I a).low) (z75 I o (a,false) (z29 I a).low):=by
 have hk:=z1o hr ha
 have hl0:=hk.l0; have hl1:=hk.l1
 refine ⟨h.over.push hr (s:=(a,false)) ha _,fun c hc=>?_,fun v hv=>?_,?_⟩
 ·rw [z8y (by rw [h.over.lx]; exact ha),h.at_ c hc]
  by_cases e:c = a
  ·subst e; rw [if_neg (Nat.lt_irrefl _),if_pos rfl,if_pos (Nat.lt_succ_self _)]; simp
  ·rw [if_neg (show ¬ c = ((a,false):Stp).1 from e)]
   by_cases h2:c < a
   ·rw [if_pos h2,if_pos (by omega)]; omega
   ·rw [if_neg h2,if_neg (by omega)]; rfl
 ·have:=h.bd v hv
  rw [ze9 (by rw [h.over.lo]; exact hv)]
  have e:((a + 1:Nat):Int) = a + 1:=by omega
  rw [e]
  repeat' split <;> omega
 ·have:=posS_push hr h.over.lo (s:=(a,false)) ha hl0
  have:=h.pos
  have e:((a + 1:Nat):Int) = a + 1:=by omega
  rw [e]
  omega
theorem LowI.xb {I:Inst} (hr:z03 I = 0) {a:Nat} {x o:List Int} (h:LowI I a x o) (ha:a <= I.arcs.length):XB x/\XB o:=by
 have hs:=z0h hr
 refine ⟨xb_of fun k hk=>?_,xb_of fun k hk=>?_⟩
 ·have hk2:k < I.arcs.length:=by rw [<- h.over.lx]; exact hk
  have:=z1o hr hk2
  have:=this.l0; have:=(z1o hr hk2).l1
  rw [h.at_ k hk2]
  split <;> omega
 ·have:=h.bd k (by rw [<- h.over.lo]; exact hk)
  omega
end Go.Ql
end
section
namespace Go.Proofs.YtggblkbecekbdaaGreat
open Go Go.RowKit Go.Ql Go.Vc
def zkq (I:Inst):FRel:={ pre:=z03 I = 0,G:=(List Int) × (List Int) × (Rows3),post:=fun ⟨x,o,t⟩=>BuildP I x o t,out:=fun ⟨x,o,t⟩=>{ pre:=True,res:=.ptr 2 0 0 0,rows:=[.box 109 [.row 0,.row 1,.row 3,.row 4,.row 5],.row 2 (.ints .i64 x),.row 2 (.ints .i64 o),.deep 149 147 (.recs (.int .i64) [.bool] t)],eff:=[] } }
def z7u:FR:=fun args h=>match args,h with
 | [.agg [.row 0,.row 1]],[(0,.row false ty0 (.ints .i64 I_s)),(1,.row false ty1 (.arcs I_a))]=>some (zkq ⟨I_s,I_a⟩)
 | _,_=>none
def zfy (I:Inst):List (Nat × Ann):=[(1000002,{ G:=(List Value),inv:=fun vs=>⟨[(1,.ptr 2 0 0 0),(3,.ptr 12 0 0 0)],[(2,.box true 25 [.row 0,.row 1]),(12,.box true 109 [.row 0,.row 1,.row 3,.row 5,.row 6]),(0,.row false 0 (.ints .i64 I.sup)),(1,.row false 0 (.arcs I.arcs)),(3,.row true 2 (.ints .i64 (List.replicate I.arcs.length 0))),(5,.row true 2 (.ints .i64 I.sup)),(6,.deep true 149 147 (.recs (.int .i64) [.bool] (z1z I 0 [])) vs none)],13⟩,rel:=fun vs0 vs=>True,meas:=fun vs=>0 }),
 (3,{ G:=(Nat) × (List Int) × (List Int) × (List Value),inv:=fun ⟨a,x,o,vs⟩=>⟨[(1,.ptr 2 0 0 0),(3,.ptr 12 0 0 0),(27,.row 1),(28,.int .i64 (I.arcs.length:Int)),(29,.int .i64 a)],[(2,.box true 25 [.row 0,.row 1]),(12,.box true 109 [.row 0,.row 1,.row 3,.row 5,.row 6]),(0,.row false 0 (.ints .i64 I.sup)),(1,.row false 0 (.arcs I.arcs)),(3,.row true 2 (.ints .i64 x)),(5,.row true 2 (.ints .i64 o)),(6,.deep true 149 147 (.recs (.int .i64) [.bool] (z1z I 0 [])) vs none)],13⟩,rel:=fun ⟨a0,x0,o0,vs0⟩ ⟨a,x,o,vs⟩=>a <= I.arcs.length/\LowI I a x o,meas:=fun ⟨a,x,o,vs⟩=>I.arcs.length - a }),
 (9,{ G:=(Nat) × (List Int) × (List Int) × (List Value),inv:=fun ⟨n,x,o,vs⟩=>⟨[(3,.ptr 12 0 0 0),(6,.ptr 13 0 0 0),(45,.int .i64 (I.sup.length:Int)),(46,.int .i64 n)],[(13,.box true 137 [.int .i64 (↑I.sup.length:Int),.row 14,.row 15,.row 16]),(14,.row true 35 (.arcs I.arcs)),(15,.row true 3 (.ints .i64 (z2o I))),(16,.row true 3 (.ints .i64 (z0z I))),(12,.box true 109 [.row 0,.row 1,.row 3,.row 5,.row 6]),(0,.row false 0 (.ints .i64 I.sup)),(1,.row false 0 (.arcs I.arcs)),(3,.row true 2 (.ints .i64 x)),(5,.row true 2 (.ints .i64 o)),(6,.deep true 149 147 (.recs (.int .i64) [.bool] (z1z I n [])) vs none)],17⟩,rel:=fun ⟨n0,x0,o0,vs0⟩ ⟨n,x,o,vs⟩=>x = x0/\o = o0/\n <= I.sup.length,meas:=fun ⟨n,x,o,vs⟩=>I.sup.length - n }),
 (12,{ G:=(Nat) × (Nat) × (List Int) × (List Int) × (List Value),inv:=fun ⟨n,k,x,o,vs⟩=>⟨[(3,.ptr 12 0 0 0),(6,.ptr 13 0 0 0),(45,.int .i64 (I.sup.length:Int)),(46,.int .i64 n),(7,.int .i64 n),(51,.row 17),(52,.int .i64 ((z5a I n).length:Int)),(53,.int .i64 k)],[(17,.row true 3 (.ints .i64 (z40 (z5a I n)))),(13,.box true 137 [.int .i64 (↑I.sup.length:Int),.row 14,.row 15,.row 16]),(14,.row true 35 (.arcs I.arcs)),(15,.row true 3 (.ints .i64 (z2o I))),(16,.row true 3 (.ints .i64 (z0z I))),(12,.box true 109 [.row 0,.row 1,.row 3,.row 5,.row 6]),(0,.row false 0 (.ints .i64 I.sup)),(1,.row false 0 (.arcs I.arcs)),(3,.row true 2 (.ints .i64 x)),(5,.row true 2 (.ints .i64 o)),(6,.deep true 149 147 (.recs (.int .i64) [.bool] (z1z I n (fwd ((z5a I n).take k)))) vs none)],18⟩,rel:=fun ⟨n0,k0,x0,o0,vs0⟩ ⟨n,k,x,o,vs⟩=>x = x0/\o = o0/\n = n0/\k <= (z5a I n).length,meas:=fun ⟨n,k,x,o,vs⟩=>(z5a I n).length - k }),
 (17,{ G:=(Nat) × (Nat) × (List Int) × (List Int) × (List Value),inv:=fun ⟨n,k,x,o,vs⟩=>⟨[(3,.ptr 12 0 0 0),(6,.ptr 13 0 0 0),(45,.int .i64 (I.sup.length:Int)),(46,.int .i64 n),(7,.int .i64 n),(77,.row 18),(78,.int .i64 ((z7x I n).length:Int)),(79,.int .i64 k)],[(18,.row true 3 (.ints .i64 (z40 (z7x I n)))),(13,.box true 137 [.int .i64 (↑I.sup.length:Int),.row 14,.row 15,.row 16]),(14,.row true 35 (.arcs I.arcs)),(15,.row true 3 (.ints .i64 (z2o I))),(16,.row true 3 (.ints .i64 (z0z I))),(12,.box true 109 [.row 0,.row 1,.row 3,.row 5,.row 6]),(0,.row false 0 (.ints .i64 I.sup)),(1,.row false 0 (.arcs I.arcs)),(3,.row true 2 (.ints .i64 x)),(5,.row true 2 (.ints .i64 o)),(6,.deep true 149 147 (.recs (.int .i64) [.bool] (z1z I n (fwd (z5a I n) ++ bwd ((z7x I n).take k)))) vs none)],19⟩,rel:=fun ⟨n0,k0,x0,o0,vs0⟩ ⟨n,k,x,o,vs⟩=>x = x0/\o = o0/\n = n0/\k <= (z7x I n).length,meas:=fun ⟨n,k,x,o,vs⟩=>(z7x I n).length - k })]
def build20_A:List SV->z0d->List (Nat × Ann):=fun args h=>match args,h with
 | [.agg [.row 0,.row 1]],[(0,.row false ty0 (.ints .i64 I_s)),(1,.row false ty1 (.arcs I_a))]=>zfy ⟨I_s,I_a⟩
 | _,_=>[]
def zkp:z0c:=[(zis,(false,z02 false za9)),(New_n,(true,z02 true New_fs)),(out20_n,(true,z02 true out20_fs)),(in20_n,(true,z02 true in20_fs))]
abbrev zdr:Nat:=59
def build20_I (I:Inst):List (Nat × z09):=[]
def build20_IA:List SV->z0d->List (Nat × z09):=fun _ _=>[]
end Go.Proofs.YtggblkbecekbdaaGreat
end
section
namespace Go.Proofs.YtggblkbecekbdaaGreat
open Go Go.RowKit Go.Ql Go.Vc
abbrev z2s:=Nat × Nat × List Int × List Int × List Value
abbrev z53:=Nat × List Int × List Int × List Value
abbrev z11 (I:Inst):=(∃ (g:List Value),True/\((0 = 0/\(0 = 0/\True))/\((True/\(True/\True))/\((True/\(True/\(True/\(True/\(True/\True)))))/\(I.sup = I.sup/\(I.arcs = I.arcs/\(List.replicate (↑I.arcs.length:Int).toNat (0:Int) = List.replicate I.arcs.length (0:Int)/\(I.sup = I.sup/\((List.replicate (↑I.sup.length:Int).toNat [] = z1z I (0:Nat) []/\(List.replicate (↑I.sup.length:Int).toNat (Value.slice none (0:Nat) (0:Nat)) = g/\((none:Option Nat) = none)))/\True)))))))))
abbrev z0t (I:Inst):=((↑I.arcs.length:Int) = ↑I.arcs.length/\((0:Int) <= ↑I.arcs.length/\((↑I.arcs.length:Int) <= 1000000000)))
abbrev z0q (I:Inst):=((↑I.sup.length:Int) = ↑I.sup.length/\((0:Int) <= ↑I.sup.length/\((↑I.sup.length:Int) <= 1000000000)))
abbrev zb4 (x_1:List (List Int)) (g_2:z2s) (I:Inst) (g0_2:z2s) (x:Int):=(x_1.length + (1:Nat) <= 1000000000/\(((0:Int) <= ↑g_2.1/\((↑g_2.1:Int) < ↑(DK.recs (MK.int IntKind.i64) [MK.bool] (z1z I g_2.1 (fwd (z5a I g_2.1) ++ bwd (List.take g_2.2.1 (z7x I g_2.1))))).len))/\((↑g_2.1:Int).toNat = (↑g_2.1:Int).toNat/\((↑g_2.1:Int).toNat < (z1z I g_2.1 (fwd (z5a I g_2.1) ++ bwd (List.take g_2.2.1 (z7x I g_2.1)))).length/\(∀ (u:Value),∃ (g':z2s),(g'.2.2.fst = g0_2.2.2.fst/\(g'.2.2.2.fst = g0_2.2.2.2.fst/\(g'.fst = g0_2.fst/\(g'.2.fst <= (z7x I g'.fst).length))))/\((z7x I g'.fst).length - g'.2.fst < (z7x I g_2.fst).length - g_2.2.fst/\((0 = 0/\(0 = 0/\((↑I.sup.length:Int) = ↑I.sup.length/\((↑g_2.1:Int) = ↑g'.1/\((↑g_2.1:Int) = ↑g'.1/\(True/\((↑(z7x I g_2.1).length:Int) = ↑(z7x I g'.1).length/\(IntKind.i64.wrap ((↑g_2.2.1:Int) + (1:Int)) = (↑g'.2.1:Int)/\True))))))))/\(z40 (z7x I g_2.1) = z40 (z7x I g'.1)/\(((↑I.sup.length:Int) = ↑I.sup.length/\(True/\(True/\(True/\True))))/\(I.arcs = I.arcs/\(z2o I = z2o I/\(z0z I = z0z I/\((True/\(True/\(True/\(True/\(True/\True)))))/\(I.sup = I.sup/\(I.arcs = I.arcs/\(g_2.2.2.1 = g'.2.2.1/\(g_2.2.2.2.1 = g'.2.2.2.1/\(((z1z I g_2.1 (fwd (z5a I g_2.1) ++ bwd (List.take g_2.2.1 (z7x I g_2.1)))).set (↑g_2.1:Int).toNat (x_1 ++ [[x,bif true then (1:Int) else (0:Int)]]) = z1z I g'.1 (fwd (z5a I g'.1) ++ bwd (List.take g'.2.1 (z7x I g'.1)))/\(g_2.2.2.2.2.set (↑g_2.1:Int).toNat u = g'.2.2.2.2/\((none:Option Nat) = none)))/\True))))))))))))))))))
abbrev zb5 (x_1:List (List Int)) (g_1:z2s) (I:Inst) (g0_1:z2s) (x:Int):=(x_1.length + (1:Nat) <= 1000000000/\(((0:Int) <= ↑g_1.1/\((↑g_1.1:Int) < ↑(DK.recs (MK.int IntKind.i64) [MK.bool] (z1z I g_1.1 (fwd (List.take g_1.2.1 (z5a I g_1.1))))).len))/\((↑g_1.1:Int).toNat = (↑g_1.1:Int).toNat/\((↑g_1.1:Int).toNat < (z1z I g_1.1 (fwd (List.take g_1.2.1 (z5a I g_1.1)))).length/\(∀ (u:Value),∃ (g':z2s),(g'.2.2.fst = g0_1.2.2.fst/\(g'.2.2.2.fst = g0_1.2.2.2.fst/\(g'.fst = g0_1.fst/\(g'.2.fst <= (z5a I g'.fst).length))))/\((z5a I g'.fst).length - g'.2.fst < (z5a I g_1.fst).length - g_1.2.fst/\((0 = 0/\(0 = 0/\((↑I.sup.length:Int) = ↑I.sup.length/\((↑g_1.1:Int) = ↑g'.1/\((↑g_1.1:Int) = ↑g'.1/\(True/\((↑(z5a I g_1.1).length:Int) = ↑(z5a I g'.1).length/\(IntKind.i64.wrap ((↑g_1.2.1:Int) + (1:Int)) = (↑g'.2.1:Int)/\True))))))))/\(z40 (z5a I g_1.1) = z40 (z5a I g'.1)/\(((↑I.sup.length:Int) = ↑I.sup.length/\(True/\(True/\(True/\True))))/\(I.arcs = I.arcs/\(z2o I = z2o I/\(z0z I = z0z I/\((True/\(True/\(True/\(True/\(True/\True)))))/\(I.sup = I.sup/\(I.arcs = I.arcs/\(g_1.2.2.1 = g'.2.2.1/\(g_1.2.2.2.1 = g'.2.2.2.1/\(((z1z I g_1.1 (fwd (List.take g_1.2.1 (z5a I g_1.1)))).set (↑g_1.1:Int).toNat (x_1 ++ [[x,bif false then (1:Int) else (0:Int)]]) = z1z I g'.1 (fwd (List.take g'.2.1 (z5a I g'.1)))/\(g_1.2.2.2.2.set (↑g_1.1:Int).toNat u = g'.2.2.2.2/\((none:Option Nat) = none)))/\True))))))))))))))))))
abbrev z2r (I:Inst):=(((z0t I)/\((z0q I)/\(z11 I)))/\((z0q I)/\((z0t I)/\(z11 I))))
abbrev z51 (I:Inst):=((0:Nat) + I.sup.length <= (1000000000:Nat)/\(z11 I))
abbrev z4f (I:Inst):=(((0:Nat) + I.sup.length <= (1000000000:Nat)/\((z0q I)/\(z11 I)))/\((z0q I)/\(z51 I)))
abbrev z52 (I:Inst):=(((z0t I)/\(z51 I))/\((0:Nat) + I.sup.length <= (1000000000:Nat)/\((z0t I)/\(z11 I))))
abbrev z3b (I:Inst):=(((z0q I)/\(z11 I))/\((z0q I)/\(z11 I)))
abbrev z2m (I:Inst):=(((z0t I)/\(z11 I))/\((z0t I)/\(z11 I)))
abbrev zci (I:Inst):=(((z0t I)/\(((0:Nat) + I.sup.length <= (1000000000:Nat)/\((z0q I)/\(z11 I)))/\(z4f I)))/\((0:Nat) + I.sup.length <= (1000000000:Nat)/\(((z0t I)/\((z0q I)/\(z11 I)))/\(z2r I)))/\((z0t I)/\(z4f I))/\((0:Nat) + I.sup.length <= (1000000000:Nat)/\(z2r I))/\((z0q I)/\(z52 I)))
abbrev z6f (I:Inst):=(((z0t I)/\(z4f I))/\((0:Nat) + I.sup.length <= (1000000000:Nat)/\(z2r I))/\((z0q I)/\(z52 I)))
abbrev z49 (I:Inst):=((z2r I)/\((z0q I)/\((z0t I)/\(z11 I))))
abbrev z3h:=(True/\(True/\(True/\(True/\(True/\True)))))
abbrev z8h (I:Inst):=(((z0t I)/\((z51 I)/\(z51 I)))/\((0:Nat) + I.sup.length <= (1000000000:Nat)/\(z2m I)))
abbrev z8i (I:Inst):=(((0:Nat) + I.sup.length <= (1000000000:Nat)/\(z3b I))/\((z0q I)/\((z51 I)/\(z51 I))))
abbrev z8j (I:Inst):=((z52 I)/\((0:Nat) + I.sup.length <= (1000000000:Nat)/\((z0t I)/\(z11 I))))
abbrev z6g (I:Inst):=((↑I.sup.length:Int) = ↑I.sup.length/\(True/\(True/\(True/\True))))
abbrev z6h (I:Inst):=(((z0t I)/\((z0q I)/\(z11 I)))/\(z2r I))
abbrev zcj (I:Inst):=((0:Nat) + I.sup.length <= (1000000000:Nat)/\(z2r I)/\((z0t I)/\(z3b I))/\((z0q I)/\(z2m I)))
def zfx (I : Inst) (ty0 ty1 : TypeId) : Prop :=
   (((zci I)/\((0:Nat) + I.sup.length <= (1000000000:Nat)/\(z6h I)/\(z49 I))/\(z6f I)/\((0:Nat) + I.sup.length <= (1000000000:Nat)/\(z49 I))/\((z0q I)/\(z8j I)))/\((zci I)/\((z0t I)/\(((0:Nat) + I.sup.length <= (1000000000:Nat)/\((z0q I)/\(z11 I)))/\(z4f I))/\((0:Nat) + I.sup.length <= (1000000000:Nat)/\(((z0q I)/\(z11 I))/\(z3b I)))/\(z4f I)/\(z8i I))/\((0:Nat) + I.sup.length <= (1000000000:Nat)/\(z6h I)/\((z0t I)/\(((z0q I)/\(z11 I))/\(z3b I)))/\(z2r I)/\((z0t I)/\(z3b I))/\((z0q I)/\(z2m I)))/\(z6f I)/\((z0t I)/\(z4f I)/\(z8i I))/\(zcj I)/\(z0q I)/\(z52 I)/\(z8h I))/\((0:Nat) + I.sup.length <= (1000000000:Nat)/\((z6h I)/\(z49 I))/\((z6h I)/\((z0t I)/\(((z0q I)/\(z11 I))/\(z3b I)))/\(z2r I)/\((z0t I)/\(z3b I))/\((z0q I)/\(z2m I)))/\(z49 I)/\((z2r I)/\((z0t I)/\(z3b I))/\((z0q I)/\(z2m I)))/\((z0q I)/\(((z0t I)/\(z11 I))/\(z2m I))))/\((z6f I)/\((0:Nat) + I.sup.length <= (1000000000:Nat)/\(z49 I))/\((z0q I)/\(z8j I)))/\((z6f I)/\((z0t I)/\(z4f I)/\(z8i I))/\(zcj I)/\(z0q I)/\(z52 I)/\(z8h I))/\((0:Nat) + I.sup.length <= (1000000000:Nat)/\(z49 I)/\((z2r I)/\((z0t I)/\(z3b I))/\((z0q I)/\(z2m I)))/\((z0q I)/\(((z0t I)/\(z11 I))/\(z2m I))))/\(z0q I)/\(z8j I)/\((z52 I)/\(z8h I))/\((0:Nat) + I.sup.length <= (1000000000:Nat)/\(((z0t I)/\(z11 I))/\(z2m I))))/\∀ (g:List Value),True->∃ (g0:z53),((g0.fst <= I.arcs.length/\(LowI I g0.fst g0.2.fst g0.2.2.fst))/\((0 = 0/\(0 = 0/\(True/\((↑I.arcs.length:Int) = ↑I.arcs.length/\((0:Int) = ↑g0.1/\True)))))/\((True/\(True/\True))/\((z3h)/\(I.sup = I.sup/\(I.arcs = I.arcs/\(List.replicate I.arcs.length (0:Int) = g0.2.1/\(I.sup = g0.2.2.1/\((z1z I (0:Nat) [] = z1z I (0:Nat) []/\(g = g0.2.2.2/\((none:Option Nat) = none)))/\True)))))))))/\∀ (g:z53),g.fst <= I.arcs.length/\LowI I g.fst g.2.fst g.2.2.fst->(decide ((↑g.1:Int) < ↑I.arcs.length) = true->((0:Int) <= ↑g.1/\((↑g.1:Int) < ↑I.arcs.length))/\((↑g.1:Int).toNat < I.arcs.length/\(∀ (x:Arc),I.arcs[(↑g.1:Int).toNat]? = some x->(z17 I (↑g.1:Int)/\(g.2.1.length = I.arcs.length/\(g.2.2.1.length = I.sup.length/\(XB g.2.1/\(XB g.2.2.1/\((-1152921504606846976:Int) <= x.low/\(x.low <= (1152921504606846976:Int))))))))/\(∃ (g':z53),(g'.fst <= I.arcs.length/\(LowI I g'.fst g'.2.fst g'.2.2.fst))/\(I.arcs.length - g'.fst < I.arcs.length - g.fst/\((0 = 0/\(0 = 0/\(True/\((↑I.arcs.length:Int) = ↑I.arcs.length/\(IntKind.i64.wrap ((↑g.1:Int) + (1:Int)) = (↑g'.1:Int)/\True)))))/\((True/\(True/\True))/\((z3h)/\(I.sup = I.sup/\(I.arcs = I.arcs/\(z4q g.2.1 ((↑g.1:Int).toNat,false) x.low = g'.2.1/\(z75 I g.2.2.1 ((↑g.1:Int).toNat,false) x.low = g'.2.2.1/\((z1z I (0:Nat) [] = z1z I (0:Nat) []/\(g.2.2.2 = g'.2.2.2/\((none:Option Nat) = none)))/\True)))))))))))))/\(decide ((↑g.1:Int) < ↑I.arcs.length) = false->(I.sup.length <= (10000:Nat)/\(I.arcs.length <= (10000:Nat)))/\∃ (g0:z53),((g0.2.fst = g0.2.fst/\(g0.2.2.fst = g0.2.2.fst/\(g0.fst <= I.sup.length)))/\((0 = 0/\(0 = 0/\((↑I.sup.length:Int) = ↑I.sup.length/\((0:Int) = ↑g0.1/\True))))/\((z6g I)/\(I.arcs = I.arcs/\(z2o I = z2o I/\(z0z I = z0z I/\((z3h)/\(I.sup = I.sup/\(I.arcs = I.arcs/\(g.2.1 = g0.2.1/\(g.2.2.1 = g0.2.2.1/\((z1z I (0:Nat) [] = z1z I g0.1 []/\(g.2.2.2 = g0.2.2.2/\((none:Option Nat) = none)))/\True))))))))))))/\∀ (g:z53),g.2.fst = g0.2.fst/\g.2.2.fst = g0.2.2.fst/\g.fst <= I.sup.length->(decide ((↑g.1:Int) < ↑I.sup.length) = true->PieceOk (↑I.sup.length:Int) (z2o I) (z0z I) (↑g.1:Int) (0:Nat)/\∃ (g0_1:z2s),((g0_1.2.2.fst = g0_1.2.2.fst/\(g0_1.2.2.2.fst = g0_1.2.2.2.fst/\(g0_1.fst = g0_1.fst/\(g0_1.2.fst <= (z5a I g0_1.fst).length))))/\((0 = 0/\(0 = 0/\((↑I.sup.length:Int) = ↑I.sup.length/\((↑g.1:Int) = ↑g0_1.1/\((↑g.1:Int) = ↑g0_1.1/\(True/\((↑(z0n (z2o I) (z0z I) (↑g.1:Int) (0:Nat)).length:Int) = ↑(z5a I g0_1.1).length/\((0:Int) = ↑g0_1.2.1/\True))))))))/\(z0n (z2o I) (z0z I) (↑g.1:Int) (0:Nat) = z40 (z5a I g0_1.1)/\((z6g I)/\(I.arcs = I.arcs/\(z2o I = z2o I/\(z0z I = z0z I/\((z3h)/\(I.sup = I.sup/\(I.arcs = I.arcs/\(g.2.1 = g0_1.2.2.1/\(g.2.2.1 = g0_1.2.2.2.1/\((z1z I g.1 [] = z1z I g0_1.1 (fwd (List.take g0_1.2.1 (z5a I g0_1.1)))/\(g.2.2.2 = g0_1.2.2.2.2/\((none:Option Nat) = none)))/\True)))))))))))))/\∀ (g_1:z2s),g_1.2.2.fst = g0_1.2.2.fst/\g_1.2.2.2.fst = g0_1.2.2.2.fst/\g_1.fst = g0_1.fst/\g_1.2.fst <= (z5a I g_1.fst).length->(decide ((↑g_1.2.1:Int) < ↑(z5a I g_1.1).length) = true->((0:Int) <= ↑g_1.2.1/\((↑g_1.2.1:Int) < ↑(z40 (z5a I g_1.1)).length))/\(↑g_1.2.1:Int).toNat < (z40 (z5a I g_1.1)).length/\∀ (x:Int),(z40 (z5a I g_1.1))[(↑g_1.2.1:Int).toNat]? = some x->((0:Int) <= ↑g_1.1/\((↑g_1.1:Int) < ↑(DK.recs (MK.int IntKind.i64) [MK.bool] (z1z I g_1.1 (fwd (List.take g_1.2.1 (z5a I g_1.1))))).len))/\(↑g_1.1:Int).toNat < (z1z I g_1.1 (fwd (List.take g_1.2.1 (z5a I g_1.1)))).length/\∀ (x_1:List (List Int)),(z1z I g_1.1 (fwd (List.take g_1.2.1 (z5a I g_1.1))))[(↑g_1.1:Int).toNat]? = some x_1->(zb5 x_1 g_1 I g0_1 x)/\(zb5 x_1 g_1 I g0_1 x)/\(zb5 x_1 g_1 I g0_1 x))/\(decide ((↑g_1.2.1:Int) < ↑(z5a I g_1.1).length) = false->PieceOk (↑I.sup.length:Int) (z2o I) (z0z I) (↑g_1.1:Int) (1:Nat)/\∃ (g0_2:z2s),((g0_2.2.2.fst = g0_2.2.2.fst/\(g0_2.2.2.2.fst = g0_2.2.2.2.fst/\(g0_2.fst = g0_2.fst/\(g0_2.2.fst <= (z7x I g0_2.fst).length))))/\((0 = 0/\(0 = 0/\((↑I.sup.length:Int) = ↑I.sup.length/\((↑g_1.1:Int) = ↑g0_2.1/\((↑g_1.1:Int) = ↑g0_2.1/\(True/\((↑(z0n (z2o I) (z0z I) (↑g_1.1:Int) (1:Nat)).length:Int) = ↑(z7x I g0_2.1).length/\((0:Int) = ↑g0_2.2.1/\True))))))))/\(z0n (z2o I) (z0z I) (↑g_1.1:Int) (1:Nat) = z40 (z7x I g0_2.1)/\((z6g I)/\(I.arcs = I.arcs/\(z2o I = z2o I/\(z0z I = z0z I/\((z3h)/\(I.sup = I.sup/\(I.arcs = I.arcs/\(g_1.2.2.1 = g0_2.2.2.1/\(g_1.2.2.2.1 = g0_2.2.2.2.1/\((z1z I g_1.1 (fwd (List.take g_1.2.1 (z5a I g_1.1))) = z1z I g0_2.1 (fwd (z5a I g0_2.1) ++ bwd (List.take g0_2.2.1 (z7x I g0_2.1)))/\(g_1.2.2.2.2 = g0_2.2.2.2.2/\((none:Option Nat) = none)))/\True)))))))))))))/\∀ (g_2:z2s),g_2.2.2.fst = g0_2.2.2.fst/\g_2.2.2.2.fst = g0_2.2.2.2.fst/\g_2.fst = g0_2.fst/\g_2.2.fst <= (z7x I g_2.fst).length->(decide ((↑g_2.2.1:Int) < ↑(z7x I g_2.1).length) = true->((0:Int) <= ↑g_2.2.1/\((↑g_2.2.1:Int) < ↑(z40 (z7x I g_2.1)).length))/\(↑g_2.2.1:Int).toNat < (z40 (z7x I g_2.1)).length/\∀ (x:Int),(z40 (z7x I g_2.1))[(↑g_2.2.1:Int).toNat]? = some x->((0:Int) <= ↑g_2.1/\((↑g_2.1:Int) < ↑(DK.recs (MK.int IntKind.i64) [MK.bool] (z1z I g_2.1 (fwd (z5a I g_2.1) ++ bwd (List.take g_2.2.1 (z7x I g_2.1))))).len))/\(↑g_2.1:Int).toNat < (z1z I g_2.1 (fwd (z5a I g_2.1) ++ bwd (List.take g_2.2.1 (z7x I g_2.1)))).length/\∀ (x_1:List (List Int)),(z1z I g_2.1 (fwd (z5a I g_2.1) ++ bwd (List.take g_2.2.1 (z7x I g_2.1))))[(↑g_2.1:Int).toNat]? = some x_1->(zb4 x_1 g_2 I g0_2 x)/\(zb4 x_1 g_2 I g0_2 x)/\(zb4 x_1 g_2 I g0_2 x))/\(decide ((↑g_2.2.1:Int) < ↑(z7x I g_2.1).length) = false->∃ (g':z53),(g'.2.fst = g0.2.fst/\(g'.2.2.fst = g0.2.2.fst/\(g'.fst <= I.sup.length)))/\(I.sup.length - g'.fst < I.sup.length - g.fst/\((0 = 0/\(0 = 0/\((↑I.sup.length:Int) = ↑I.sup.length/\(IntKind.i64.wrap ((↑g_2.1:Int) + (1:Int)) = (↑g'.1:Int)/\True))))/\((z6g I)/\(I.arcs = I.arcs/\(z2o I = z2o I/\(z0z I = z0z I/\((z3h)/\(I.sup = I.sup/\(I.arcs = I.arcs/\(g_2.2.2.1 = g'.2.1/\(g_2.2.2.2.1 = g'.2.2.1/\((z1z I g_2.1 (fwd (z5a I g_2.1) ++ bwd (List.take g_2.2.1 (z7x I g_2.1))) = z1z I g'.1 []/\(g_2.2.2.2.2 = g'.2.2.2/\((none:Option Nat) = none)))/\True)))))))))))))))/\(decide ((↑g.1:Int) < ↑I.sup.length) = false->∃ (g_1:List Int × List Int × Rows3),BuildP I g_1.1 g_1.2.1 g_1.2.2/\(∃ (V:Nat->List Value),(0 = 0/\True)/\((z3h)/\(g.2.1 = g_1.1/\(g.2.2.1 = g_1.2.1/\((z1z I g.1 [] = g_1.2.2/\(g.2.2.2 = V ((0:Nat) + (1:Nat) + (1:Nat) + (1:Nat))/\((none:Option Nat) = none)))/\True)))))))
theorem build20_q (I:Inst) (ty0 ty1:TypeId):zfx I ty0 ty1 = z9c TT zkp (build20_I I) (zfy I) Tryz.f59 [.agg [.row 0,.row 1]] [(0,.row false ty0 (.ints .i64 I.sup)),(1,.row false ty1 (.arcs I.arcs))] (zkq I):=by kernel_rfl
theorem build20_E (I:Inst) (ty0 ty1:TypeId) (hp:z03 I = 0):FVcR TT zkp (build20_I I) (zfy I) Tryz.f59 [.agg [.row 0,.row 1]] [(0,.row false ty0 (.ints .i64 I.sup)),(1,.row false ty1 (.arcs I.arcs))] (zkq I):=by
 refine FVcR.of (zfx I ty0 ty1) (build20_q I ty0 ty1) ?_
 unfold zfx
 delta zcj z6h z6g z8j z8i z8h z3h z49 z6f zci z2m z3b z52 z4f z51 z2r zb5 zb4 z0q z0t z11 z2s z53
 simp only [eq_self,exists_const,forall_const,decide_eq_true_eq,decide_eq_false_iff_not,and_true,true_and,bne_iff_ne,ne_eq,bne_eq_false_iff_eq,Int.toNat_natCast,Bool.not_eq_true',Bool.not_eq_false',beq_iff_eq,beq_eq_false_iff_ne,z08]
 have hs64:=z0h hp
 have f1:((0:Int) <= (I.arcs.length:Int)/\(I.arcs.length:Int) <= 1000000000) = True:=eq_true (by omega)
 have f2:((0:Int) <= (I.sup.length:Int)/\(I.sup.length:Int) <= 1000000000) = True:=eq_true (by omega)
 have f3:(0 + I.sup.length <= 1000000000) = True:=eq_true (by omega)
 have f4:(∃ g:List Value,List.replicate I.sup.length [] = z1z I 0 []/\List.replicate I.sup.length (Value.slice none 0 0) = g) = True:=eq_true ⟨_,stpsK_zero I,rfl⟩
 simp only [f1,f2,f3,f4,true_and,and_true]
 intro vs0
 refine ⟨(0,_,_,vs0),⟨⟨Nat.zero_le _,LowI.begin hp⟩,rfl,rfl,rfl,rfl⟩,?_⟩
 rintro ⟨a,x,o,vs⟩ ⟨ha,hL⟩
 dsimp only at ha hL ⊢
 refine ⟨fun h1=>⟨by omega,by omega,fun y hy=>?_⟩,fun h1=>?_⟩
 ·have hal:a < I.arcs.length:=by omega
  have hk:=z1o hp hal
  have hey:z29 I a = y:=z2j hy
  have hxb:=hL.xb hp ha
  have l0:=hk.l0
  have l1:=hk.l1
  have hn:=hL.next hp hal
  rw [hey] at l0 l1 hn
  exact ⟨⟨⟨hp,by omega,by omega⟩,hL.over.lx,hL.over.lo,hxb.1,hxb.2,by omega,by omega⟩,(a + 1,_,_,vs),⟨by dsimp only; omega,hn⟩,by dsimp only; omega,by rw [w64 (by omega) (by omega)]; dsimp only; omega,rfl,rfl,rfl⟩
 have ea:a = I.arcs.length:=by omega
 subst ea
 refine ⟨⟨by omega,by omega⟩,(0,x,o,vs),⟨Nat.zero_le _,rfl,rfl,rfl,rfl,rfl⟩,?_⟩
 rintro ⟨n,x',o',vs⟩ ⟨h2,h3,hn⟩
 dsimp only at h2 h3 hn ⊢
 subst h2 h3
 refine ⟨fun h4=>⟨piece_ok hp (by omega) (by omega),?_⟩,fun h4=>?_⟩
 rotate_left
 ·have en:n = I.sup.length:=by omega
  subst en
  exact ⟨(x',o',z1z I I.sup.length []),⟨hL,steps_ok hp⟩,fun _=>vs,rfl,rfl,rfl,rfl⟩
 have hn2:n < I.sup.length:=by omega
 have q0:z0n (z2o I) (z0z I) (n:Int) 0 = z40 (z5a I n):=piece_is hn2 (by omega)
 have q1:z0n (z2o I) (z0z I) (n:Int) 1 = z40 (z7x I n):=piece_is hn2 (by omega)
 have c0:(z5a I n).length <= 256:=Nat.le_trans (z9q I (2 * n) I.arcs.length) hs64.2
 have c1:(z7x I n).length <= 256:=Nat.le_trans (z9q I (2 * n + 1) I.arcs.length) hs64.2
 refine ⟨(n,0,x',o',vs),⟨Nat.zero_le _,⟨rfl,rfl,by rw [q0,zin],rfl⟩,q0,rfl,rfl,rfl,rfl⟩,?_⟩
 rintro ⟨n1,k,x1,o1,vs⟩ ⟨h5,h6,h7,hk⟩
 dsimp only at h5 h6 h7 hk ⊢
 subst h5 h6 h7
 have dl:∀ t,DK.len (.recs (MK.int IntKind.i64) [MK.bool] t) = t.length:=fun _=>rfl
 have hrl:∀ q:List Stp,q.length <= 600->∀ r,(z1z I n1 q)[n1]? = some r->r.length <= 600:=fun q hq r hr=>by
  rw [z73 hn2,if_neg (Nat.lt_irrefl _),if_pos rfl] at hr
  cases hr
  rw [List.length_map]; exact hq
 simp only [zin,z74,dl]
 refine ⟨fun h8=>⟨by omega,by omega,fun z hz=>?_⟩,fun h8=>?_⟩
 ·obtain ⟨b,hb,rfl⟩:=natI_get hz
  refine ⟨by omega,by omega,fun r hr=>?_⟩
  have hr2:=hrl _ (by simp [fwd]; omega) r hr
  have e1:fwd ((z5a I n1).take (k + 1)) = fwd ((z5a I n1).take k) ++ [(b,false)]:=by rw [z23 hb]; simp [fwd]
  have e2:(z1z I n1 (fwd ((z5a I n1).take k))).set n1 (r ++ [[(b:Int),bif false then 1 else 0]]) = z1z I n1 (fwd ((z5a I n1).take (k + 1))):=by rw [e1]; exact stpsK_set (b,false) hr
  repeat' first
   | exact ⟨by omega,by omega,by omega,fun u=>⟨(n1,k + 1,x1,o1,_),⟨rfl,rfl,rfl,by dsimp only; omega⟩,by dsimp only; omega,⟨rfl,rfl,rfl,by rw [w64 (by omega) (by omega)]; dsimp only; omega⟩,rfl,rfl,rfl,e2,rfl⟩⟩
   | refine And.intro ?_ ?_
 have ek:k = (z5a I n1).length:=by omega
 subst ek
 refine ⟨piece_ok hp hn2 (by omega),(n1,0,x1,o1,vs),⟨Nat.zero_le _,⟨rfl,rfl,by rw [q1,zin],rfl⟩,q1,rfl,rfl,?_,rfl⟩,?_⟩
 ·dsimp only
  rw [List.take_length]
  simp [bwd]
 rintro ⟨n2,k,x2,o2,vs⟩ ⟨h5,h6,h7,hk2⟩
 dsimp only at h5 h6 h7 hk2 ⊢
 subst h5 h6 h7
 refine ⟨fun h9=>⟨by omega,by omega,fun z hz=>?_⟩,fun h9=>?_⟩
 ·obtain ⟨b,hb,rfl⟩:=natI_get hz
  refine ⟨by omega,by omega,fun r hr=>?_⟩
  have hr2:=hrl _ (by simp [fwd,bwd]; omega) r hr
  have e1:fwd (z5a I n2) ++ bwd ((z7x I n2).take (k + 1)) = (fwd (z5a I n2) ++ bwd ((z7x I n2).take k)) ++ [(b,true)]:=by rw [z23 hb]; simp [bwd]
  have e2:(z1z I n2 (fwd (z5a I n2) ++ bwd ((z7x I n2).take k))).set n2 (r ++ [[(b:Int),bif true then 1 else 0]]) = z1z I n2 (fwd (z5a I n2) ++ bwd ((z7x I n2).take (k + 1))):=by rw [e1]; exact stpsK_set (b,true) hr
  repeat' first
   | exact ⟨by omega,by omega,by omega,fun u=>⟨(n2,k + 1,x2,o2,_),⟨rfl,rfl,rfl,by dsimp only; omega⟩,by dsimp only; omega,⟨rfl,rfl,rfl,by rw [w64 (by omega) (by omega)]; dsimp only; omega⟩,rfl,rfl,rfl,e2,rfl⟩⟩
   | refine And.intro ?_ ?_
 have ek:k = (z7x I n2).length:=by omega
 subst ek
 refine ⟨(n2 + 1,x2,o2,vs),⟨rfl,rfl,by dsimp only; omega⟩,by dsimp only; omega,by rw [w64 (by omega) (by omega)]; dsimp only; omega,rfl,rfl,?_,rfl⟩
 dsimp only
 rw [List.take_length]
 exact stpsK_next I n2
theorem zfz:SpecOk Tryz.prog zdr true (z0u true z7u) :=
 z37 z0k (show z1d Tryz.prog zkp from z00 zmc (z00 New_ok (z00 out20_ok (z00 in20_ok (z05))))) (by kernel_rfl) mixedOrders Tryz.func59 rfl rfl (by kernel_rfl) (n:=1) (by decide +kernel) (I:=build20_IA) (fun _ _=>z06) (A:=build20_A)
  (fun args h r hr=>by
   unfold z7u at hr
   split at hr
   ·rename_i ty0 I_s ty1 I_a; cases hr; refine ⟨rfl,fun hp=>?_⟩; have hE:=build20_E ⟨I_s,I_a⟩ ty0 ty1 hp; exact hE
   ·cases hr)
end Go.Proofs.YtggblkbecekbdaaGreat
end
section
namespace Go.Ql
open Go Go.Vc
structure SmallI (I:Inst):Prop where
 s:∀ y ∈ I.sup,-1048576 <= y/\y <= 1048576
 a:∀ a ∈ I.arcs,a.low <= 524288/\(a.cap = inf ∨ a.cap <= 536870912)
structure SolveP (I:Inst) (c:Cert) (e:Int):Prop where
 bad:z03 I ≠ 0->e = z03 I/\c = ⟨0,[],[],[],[]⟩
 ok:z03 I = 0->e = 0/\z2t I c = 0/\YB c.flow/\YB c.pot/\∀ C:Int,0 <= C->(∀ s,okS I s->-C <= csS I s/\csS I s <= C)->∀ k,-(C * 32768) <= c.pot.getD k 0/\c.pot.getD k 0 <= C * 32768
structure FeasP (I:Inst) (x:List Int) (m:List Bool) (e:Int):Prop where
 bad:z03 I ≠ 0->e = z03 I/\x = []/\m = []
 ok:z03 I = 0->e = 0/\YB x/\(m = []/\z1e I x = 0 ∨ x = []/\z2b I m = 0/\m.length ≠ 0)
structure RoundsP (I:Inst) (l:List Int) (f:Bool):Prop where
 yes:f = true->z1l I l = 0
 no:f = false->l = []/\(z03 I = 0->∃ π,z7q I (endS I) π)
theorem build_fill {I:Inst} (hr:z03 I = 0) {x o:List Int} {t:Rows3} (h:BuildP I x o t):FillI I x o:=by
 have hs:=z0h hr
 have hlow:=h.low
 have hx:∀ a,a < I.arcs.length->x.getD a 0 = (z29 I a).low:=fun a ha=>by rw [hlow.at_ a ha,if_pos ha]
 refine ⟨⟨4398046511104,⟨hlow.over,fun a ha=>?_,fun a ha=>?_⟩,by omega,?_⟩⟩
 ·have:=z1o hr ha
  have h1:=this.c
  rw [hx a ha]
  exact ⟨Int.le_refl _,h1.imp id (·.1)⟩
 ·have:=z1o hr ha
  have h1:=this.l0; have h2:=this.l1
  rw [hx a ha]; omega
 ·have:=hlow.pos
  omega
theorem build_cheap {I:Inst} (hr:z03 I = 0) (hsm:SmallI I) {x o:List Int} {t:Rows3} (h:BuildP I x o t) (hπ:∃ π,z7q I (endS I) π) (hy:∃ y,A64 y/\z1e I y = 0):zj4 I x o:=by
 have hs:=z0h hr
 have hlow:=h.low
 refine ⟨hr,hlow.over,fun a ha=>by rw [hlow.at_ a ha,if_pos ha],⟨by rw [hlow.over.lo]; omega,by omega,fun y hy=>?_,fun a ha=>?_⟩,hπ,hy⟩
 ·obtain ⟨v,hv⟩:=List.mem_iff_getElem?.1 hy
  have hvl:v < I.sup.length:=by rw [<- hlow.over.lo]; exact (List.getElem?_eq_some_iff.1 hv).1
  have e:o.getD v 0 = y:=by rw [List.getD_eq_getElem?_getD,hv]; rfl
  rw [<- e,hlow.over.at_ v hvl]
  have hm:I.sup.getD v 0 ∈ I.sup:=by rw [List.getD_eq_getElem?_getD,List.getElem?_eq_getElem hvl]; exact List.getElem_mem hvl
  have h1:=hsm.s _ hm
  have h2:∀ k,k <= I.arcs.length->-(524288 * (k:Int)) <= z3e I.sup.length I.arcs x k v/\z3e I.sup.length I.arcs x k v <= 524288 * (k:Int):=fun k=>by
   induction k with
   | zero=>intro _; simp [z3e]
   | succ k ih =>
    intro hk
    obtain ⟨i1,i2⟩:=ih (by omega)
    have h3:=z1o hr (a:=k) (by omega)
    have h4:=h3.l0
    have h5:=(hsm.a _ (z8f (show k < I.arcs.length by omega)).2).1
    have h6:=hlow.at_ k (by omega)
    rw [if_pos (by omega)] at h6
    rw [z3e,h6]
    have e2:((k + 1:Nat):Int) = k + 1:=by omega
    rw [e2]
    unfold z4y
    repeat' split <;> omega
  have:=h2 _ (Nat.le_refl _)
  omega
 ·have h1:=hsm.a a ha
  obtain ⟨j,hj⟩:=List.mem_iff_getElem?.1 ha
  have h3:=z1o hr (a:=j) (List.getElem?_eq_some_iff.1 hj).1
  rw [z2j hj] at h3
  have:=h3.l0; have h4:=h3.c
  refine h1.2.imp id fun h=>⟨?_,h⟩
  rcases h4 with h4 | h4
  ·rw [h4] at h; exact absurd h (by decide)
  ·omega
theorem fits_len {I:Inst} {x o:List Int} {m:List Bool} {f:Bool} (h:FillP I x o m f):A64 x:=fun y hy=>by have:=h.inv.xb y hy; unfold I64; omega
theorem nil_few {C:Int} (h0:0 <= C) (k:Nat):-(C * 32768) <= ([]:List Int).getD k 0/\([]:List Int).getD k 0 <= C * 32768:=by
 have:([]:List Int).getD k 0 = 0:=rfl
 rw [this]; omega
theorem YB.nil:YB []:=fun y hy=>by simp at hy
theorem solve_cut {I:Inst} (hr:z03 I = 0) {x o:List Int} {m:List Bool} (h:FillP I x o m true):SolveP I ⟨2,[],[],m,[]⟩ 0:=by
 refine ⟨fun h2=>absurd hr h2,fun _=>⟨rfl,?_,YB.nil,YB.nil,fun C h0 _ k=>nil_few h0 k⟩⟩
 unfold z2t z3w
 simp [hr,h.yes rfl]
theorem solve_ray {I:Inst} (hr:z03 I = 0) {x o:List Int} {m:List Bool} (h:FillP I x o m false) {l:List Int} (hl:RoundP I l true):SolveP I ⟨3,x,[],[],l⟩ 0:=by
 refine ⟨fun h2=>absurd hr h2,fun _=>⟨rfl,?_,h.inv.xb,YB.nil,fun C h0 _ k=>nil_few h0 k⟩⟩
 have h1:=(h.no rfl).2
 have h2:=hl.yes rfl
 unfold z2t z3w
 simp [hr,h1,h2]
theorem solve_best {I:Inst} (hr:z03 I = 0) {x o p:List Int} (h:CheapP I x o) (hp:PriceP I x p):SolveP I ⟨1,x,p,[],[]⟩ 0:=by
 refine ⟨fun h2=>absurd hr h2,fun _=>⟨rfl,?_,h.yb,?_,fun C h0 hC k=>?_⟩⟩
 ·have:=prices_slack h.fits hp
  unfold z2t z3w
  simp [hr,this]
 ·obtain ⟨g,-,hpe,hg,-⟩:=hp.ex
  show YB p
  rw [hpe]
  intro y hy
  unfold negF at hy
  obtain ⟨v,hv,rfl⟩:=List.mem_map.1 hy
  have:=hg v (List.mem_range.1 hv)
  omega
 ·obtain ⟨g,-,hpe,-,hg⟩:=hp.ex
  show -(C * 32768) <= p.getD k 0/\p.getD k 0 <= C * 32768
  rw [hpe]
  by_cases hk:k < I.sup.length
  ·have:=hg C h0 hC k hk
   rw [negF_get _ _ hk]; omega
  ·rw [List.getD_eq_getElem?_getD,List.getElem?_eq_none (by simp [negF]; omega)]
   show -(C * 32768) <= 0/\0 <= C * 32768
   omega
theorem solve_bad {I:Inst} (hr:z03 I ≠ 0):SolveP I ⟨0,[],[],[],[]⟩ (z03 I):=⟨fun _=>⟨rfl,rfl⟩,fun h=>absurd h hr⟩
end Go.Ql
end
section
namespace Go.Proofs.YtggblkbecekbdaaGreat
open Go Go.RowKit Go.Ql Go.Vc
def Solve_r (I:Inst):FRel:={ pre:=z03 I = 0->SmallI I,G:=(Cert) × (Int),post:=fun ⟨c,e⟩=>SolveP I c e,out:=fun ⟨c,e⟩=>{ pre:=True,res:=.tup [.agg [.int .i64 (c).kind,.row 2,.row 3,.row 4,.row 5],.int .u16 (e)],rows:=[.row 2 (.ints .i64 (c).flow),.row 2 (.ints .i64 (c).pot),.row 4 (.bools (c).side),.row 3 (.ints .i64 (c).cycle)],eff:=[] } }
def Solve_fs:FR:=fun args h=>match args,h with
 | [.agg [.row 0,.row 1]],[(0,.row false ty0 (.ints .i64 I_s)),(1,.row false ty1 (.arcs I_a))]=>some (Solve_r ⟨I_s,I_a⟩)
 | _,_=>none
def Solve_an (I:Inst):List (Nat × Ann):=[]
def Solve_A:List SV->z0d->List (Nat × Ann):=fun _ _=>[]
def Solve_g:z0c:=[(zcf,(true,z02 true z77)),(zdr,(true,z0u true z7u)),(fill20_n,(false,z0u false zdw)),(zn6,(true,z0u true zbl)),(cheap20_n,(false,z0u false zg3)),(price20_n,(true,z0u true zgg))]
abbrev Solve_n:Nat:=19
def Solve_I (I:Inst):List (Nat × z09):=[]
def Solve_IA:List SV->z0d->List (Nat × z09):=fun _ _=>[]
end Go.Proofs.YtggblkbecekbdaaGreat
end
section
namespace Go.Proofs.YtggblkbecekbdaaGreat
open Go Go.RowKit Go.Ql Go.Vc
def Solve_E0 (I : Inst) (ty0 ty1 : TypeId) : Prop :=
      True /\
 ((z03 I != (0:Int)) = true ->
 ∃ (g:Cert × Int),
 SolveP I g.1 g.2 /\
 ((((0:Int) = g.1.kind/\True/\True/\True/\True/\True)/\z03 I = g.2/\True)/\True)/\[] = g.1.flow/\[] = g.1.pot/\[] = g.1.side/\[] = g.1.cycle/\True) /\
 ((z03 I != (0:Int)) = false ->
 z03 I = (0:Int) /\
 ∀ (g:List Int × List Int × Rows3),
 BuildP I g.1 g.2.1 g.2.2 ->
 ∀ (V:Nat->List Value),
 (z03 I = (0:Int)/\FillI I g.1 g.2.1/\AtOk I g.2.2) /\
 ∀ (g:List Int × List Int × List Bool × Bool),
 FillP I g.1 g.2.1 g.2.2.1 g.2.2.2 ->
 (g.2.2.2 = true ->
 ∃ (g_1:Cert × Int),
 SolveP I g_1.1 g_1.2 /\
 ((((2:Int) = g_1.1.kind/\True/\True/\True/\True/\True)/\(0:Int) = g_1.2/\True)/\True) /\
 [] = g_1.1.flow/\[] = g_1.1.pot/\g.2.2.1 = g_1.1.side/\[] = g_1.1.cycle/\True) /\
 (g.2.2.2 = false ->
 z03 I = (0:Int) /\
 ∀ (g_1:List Int × Bool),
 RoundP I g_1.1 g_1.2 ->
 (g_1.2 = true ->
 ∃ (g_2:Cert × Int),
 SolveP I g_2.1 g_2.2 /\
 ((((3:Int) = g_2.1.kind/\True/\True/\True/\True/\True)/\(0:Int) = g_2.2/\True)/\True) /\
 g.1 = g_2.1.flow/\[] = g_2.1.pot/\[] = g_2.1.side/\g_1.1 = g_2.1.cycle/\True) /\
 (g_1.2 = false ->
 z03 I = (0:Int) /\
 ∀ (g:List Int × List Int × Rows3),
 BuildP I g.1 g.2.1 g.2.2 ->
 ∀ (V:Nat->List Value),
 (z03 I = (0:Int) /\
 OverOf I g.1 g.2.1 /\
 (∀ (a:Nat),a < I.arcs.length->g.1.getD a (0:Int) = (z29 I a).low) /\
 GreatOk I g.2.1/\(∃ (π:Nat->Int),z7q I (Ql.endS I) π)/\∃ (y:List Int),A64 y/\z1e I y = (0:Int)) /\
 ∀ (g:List Int × List Int),
 CheapP I g.1 g.2 ->
 (z03 I = (0:Int) /\
 g.1.length = I.arcs.length /\
 XB g.1/\∃ (π:Nat->Int),z7q I (fun (s:Stp)=>Ql.endS I s || decide ((0:Int) < rmS I g.1 s)) π) /\
 ∀ (g_2:List Int),
 PriceP I g.1 g_2 ->
 ∃ (g_3:Cert × Int),
 SolveP I g_3.1 g_3.2 /\
 ((((1:Int) = g_3.1.kind/\True/\True/\True/\True/\True)/\(0:Int) = g_3.2/\True)/\True) /\
 g.1 = g_3.1.flow/\g_2 = g_3.1.pot/\[] = g_3.1.side/\[] = g_3.1.cycle/\True)))
theorem Solve_q (I:Inst) (ty0 ty1:TypeId):Solve_E0 I ty0 ty1 = z9c TT Solve_g (Solve_I I) (Solve_an I) Tryz.f19 [.agg [.row 0,.row 1]] [(0,.row false ty0 (.ints .i64 I.sup)),(1,.row false ty1 (.arcs I.arcs))] (Solve_r I):=by kernel_rfl
theorem Solve_E (I:Inst) (ty0 ty1:TypeId) (hp:z03 I = 0->SmallI I):FVcR TT Solve_g (Solve_I I) (Solve_an I) Tryz.f19 [.agg [.row 0,.row 1]] [(0,.row false ty0 (.ints .i64 I.sup)),(1,.row false ty1 (.arcs I.arcs))] (Solve_r I):=by
 refine FVcR.of (Solve_E0 I ty0 ty1) (Solve_q I ty0 ty1) ?_
 unfold Solve_E0
 simp only [eq_self,exists_const,forall_const,decide_eq_true_eq,decide_eq_false_iff_not,and_true,true_and,bne_iff_ne,ne_eq,bne_eq_false_iff_eq,Int.toNat_natCast,Bool.not_eq_true',Bool.not_eq_false',beq_iff_eq,beq_eq_false_iff_ne,z08]
 refine ⟨fun h=>⟨(⟨0,[],[],[],[]⟩,_),solve_bad h,⟨rfl,rfl⟩,rfl,rfl,rfl,rfl⟩,fun hr=>⟨hr,?_⟩⟩
 rintro ⟨x,o,t⟩ hB
 have hF:=build_fill hr hB
 refine ⟨⟨hr,hF,hB.at_⟩,?_⟩
 rintro ⟨x1,o1,m,f⟩ hf
 dsimp only at hf ⊢
 refine ⟨fun h=>?_,fun h=>⟨hr,?_⟩⟩
 ·subst h; exact ⟨(⟨2,[],[],m,[]⟩,0),solve_cut hr hf,⟨rfl,rfl⟩,rfl,rfl,rfl,rfl⟩
 subst h
 rintro ⟨l,f⟩ hl
 dsimp only at hl ⊢
 refine ⟨fun h=>?_,fun h=>⟨hr,?_⟩⟩
 ·subst h; exact ⟨(⟨3,x1,[],[],l⟩,0),solve_ray hr hf hl,⟨rfl,rfl⟩,rfl,rfl,rfl,rfl⟩
 subst h
 rintro ⟨x2,o2,t2⟩ hB2
 refine ⟨build_cheap hr (hp hr) hB2 (hl.no rfl).2 ⟨x1,fits_len hf,(hf.no rfl).2⟩,?_⟩
 rintro ⟨x3,o3⟩ hC
 exact ⟨⟨hr,(fitsF_zero.1 hC.fits).2.1,hC.yb.xb,hC.pot⟩,fun p hp=>⟨(⟨1,x3,p,[],[]⟩,0),solve_best hr hC hp,⟨rfl,rfl⟩,rfl,rfl,rfl,rfl⟩⟩
theorem Solve_ok:SpecOk Tryz.prog Solve_n true (z0u true Solve_fs) :=
 z37 z0k (show z1d Tryz.prog Solve_g from z00 zax (z00 zfz (z00 fill20_ok (z00 round20_ok (z00 cheap20_ok (z00 price20_ok (z05))))))) (by kernel_rfl) mixedOrders Tryz.func19 rfl rfl (by kernel_rfl) (n:=1) (by decide +kernel) (I:=Solve_IA) (fun _ _=>z06) (A:=Solve_A)
  (fun args h r hr=>by
   unfold Solve_fs at hr
   split at hr
   ·rename_i ty0 I_s ty1 I_a; cases hr; refine ⟨rfl,fun hp=>?_⟩; have hE:=Solve_E ⟨I_s,I_a⟩ ty0 ty1 hp; exact hE
   ·cases hr)
end Go.Proofs.YtggblkbecekbdaaGreat
end
section
namespace Go.Proofs.YtggblkbecekbdaaGreat
open Go Go.RowKit Go.Ql Go.Vc
def of11_r (pot:List Int) (n:Int):FRes:={ pre:=0 <= n,res:=.int .i64 (pot.getD n.toNat 0),rows:=[],eff:=[] }
def of11_fs:FS:=fun args h=>match args,h with
 | [.row 0,.int .i64 n],[(0,.row false ty0 (.ints .i64 pot))]=>some (of11_r pot n)
 | _,_=>none
def of11_an (pot:List Int) (n:Int):List (Nat × Ann):=[]
def of11_A:List SV->z0d->List (Nat × Ann):=fun _ _=>[]
def of11_g:z0c:=[]
abbrev of11_n:Nat:=128
def of11_I (pot:List Int) (n:Int):List (Nat × z09):=[]
def of11_IA:List SV->z0d->List (Nat × z09):=fun _ _=>[]
def zmy (p:Arc) (pf:Int) (pt:Int):FRes:={ pre:=I64 p.cost/\I64 pf/\I64 pt,res:=.agg (z0s (W (redA p pf pt))),rows:=[],eff:=[] }
def zgv:FS:=fun args h=>match args,h with
 | [.agg [.int .i64 p_0,.int .i64 p_1,.int .i64 p_2,.int .i64 p_3,.int .i64 p_4,.int .i64 pf,.int .i64 pt]],[]=>some (zmy ⟨p_0,p_1,p_2,p_3,p_4⟩ pf pt)
 | _,_=>none
def reduced_an (p:Arc) (pf:Int) (pt:Int):List (Nat × Ann):=[]
def reduced_A:List SV->z0d->List (Nat × Ann):=fun _ _=>[]
def zmx:z0c:=[(zjq,(true,z02 true z9k)),(zjk,(true,z02 true zaw)),(Of_n,(true,z02 true zjp))]
abbrev reduced_n:Nat:=73
def reduced_I (p:Arc) (pf:Int) (pt:Int):List (Nat × z09):=[]
def reduced_IA:List SV->z0d->List (Nat × z09):=fun _ _=>[]
def at11_r (I:Inst) (pot:List Int) (a:Int):FRes:={ pre:=True,res:=.tup [.agg [.int .i64 (atA I a).src,.int .i64 (atA I a).dst,.int .i64 (atA I a).low,.int .i64 (atA I a).cap,.int .i64 (atA I a).cost,.int .i64 (atF I pot a),.int .i64 (atT I pot a)],.bool (gOk I.sup.length I.arcs a)],rows:=[],eff:=[] }
def at11_fs:FS:=fun args h=>match args,h with
 | [.agg [.row 0,.row 1],.row 2,.int .i64 a],[(0,.row false ty0 (.ints .i64 I_s)),(1,.row false ty1 (.arcs I_a)),(2,.row false ty2 (.ints .i64 pot))]=>some (at11_r ⟨I_s,I_a⟩ pot a)
 | _,_=>none
def at11_an (I:Inst) (pot:List Int) (a:Int):List (Nat × Ann):=[]
def at11_A:List SV->z0d->List (Nat × Ann):=fun _ _=>[]
def at11_g:z0c:=[(of11_n,(true,z02 true of11_fs))]
abbrev at11_n:Nat:=72
def at11_I (I:Inst) (pot:List Int) (a:Int):List (Nat × z09):=[]
def at11_IA:List SV->z0d->List (Nat × z09):=fun _ _=>[]
def zju (I:Inst) (pot:List Int) (a:Int):FRes:={ pre:=A64 pot/\zfd I.arcs,res:=.agg (z0s (W (zff I pot a))),rows:=[],eff:=[] }
def zfs:FS:=fun args h=>match args,h with
 | [.agg [.row 0,.row 1],.row 2,.int .i64 a],[(0,.row false ty0 (.ints .i64 I_s)),(1,.row false ty1 (.arcs I_a)),(2,.row false ty2 (.ints .i64 pot))]=>some (zju ⟨I_s,I_a⟩ pot a)
 | _,_=>none
def Reduced_an (I:Inst) (pot:List Int) (a:Int):List (Nat × Ann):=[]
def Reduced_A:List SV->z0d->List (Nat × Ann):=fun _ _=>[]
def zjt:z0c:=[(at11_n,(true,z02 true at11_fs)),(reduced_n,(true,z02 true zgv))]
abbrev Reduced_n:Nat:=31
def Reduced_I (I:Inst) (pot:List Int) (a:Int):List (Nat × z09):=[]
def Reduced_IA:List SV->z0d->List (Nat × z09):=fun _ _=>[]
def zgs (I:Inst) (pot:List Int) (a:Int):FRes:={ pre:=A64 pot/\zfd I.arcs,res:=.agg (z0s (W (zff I pot a))),rows:=[],eff:=[] }
def zd1:FS:=fun args h=>match args,h with
 | [.agg [.row 0,.row 1],.row 2,.int .i64 a],[(0,.row false ty0 (.ints .i64 I_s)),(1,.row false ty1 (.arcs I_a)),(2,.row false ty2 (.ints .i64 pot))]=>some (zgs ⟨I_s,I_a⟩ pot a)
 | _,_=>none
def zmq (I:Inst) (pot:List Int) (a:Int):List (Nat × Ann):=[]
def rReduced_A:List SV->z0d->List (Nat × Ann):=fun _ _=>[]
def zgr:z0c:=[(rArc_n,(true,z02 true rArc_fs)),(rMinus_n,(true,z02 true zec)),(rOf_n,(true,z02 true rOf_fs)),(At_n,(true,z02 true At_fs)),(zmp,(true,z02 true zbg))]
abbrev rReduced_n:Nat:=89
def rReduced_I (I:Inst) (pot:List Int) (a:Int):List (Nat × z09):=[]
def rReduced_IA:List SV->z0d->List (Nat × z09):=fun _ _=>[]
def rSlack_r (I:Inst) (x:List Int) (pot:List Int):FRes:={ pre:=I.sup.length <= 10000/\I.arcs.length <= 10000/\A64 x/\A64 I.sup/\A64 pot/\zfd I.arcs,res:=.int .i64 (z1u I x pot),rows:=[],eff:=[] }
def zmv:FS:=fun args h=>match args,h with
 | [.agg [.row 0,.row 1],.row 2,.row 3],[(0,.row false ty0 (.ints .i64 I_s)),(1,.row false ty1 (.arcs I_a)),(2,.row false ty2 (.ints .i64 x)),(3,.row false ty3 (.ints .i64 pot))]=>some (rSlack_r ⟨I_s,I_a⟩ x pot)
 | _,_=>none
def zmu (I:Inst) (x:List Int) (pot:List Int):List (Nat × Ann):=[(7,{ G:=(Nat),inv:=fun k=>⟨[(1,.row 2),(2,.row 3),(3,.ptr 4 0 0 0),(8,.int .i64 k)],[(4,.box true 25 [.row 0,.row 1]),(0,.row false 0 (.ints .i64 I.sup)),(1,.row false 0 (.arcs I.arcs)),(2,.row false 0 (.ints .i64 x)),(3,.row false 0 (.ints .i64 pot))],5⟩,rel:=fun k0 k=>k <= I.arcs.length/\∀ j,j < k->z44 I x pot j = true,meas:=fun k=>I.arcs.length - k })]
def rSlack_A:List SV->z0d->List (Nat × Ann):=fun args h=>match args,h with
 | [.agg [.row 0,.row 1],.row 2,.row 3],[(0,.row false ty0 (.ints .i64 I_s)),(1,.row false ty1 (.arcs I_a)),(2,.row false ty2 (.ints .i64 x)),(3,.row false ty3 (.ints .i64 pot))]=>zmu ⟨I_s,I_a⟩ x pot
 | _,_=>[]
def rSlack_g:z0c:=[(rFits_n,(true,z02 true ziv)),(rReduced_n,(true,z02 true zd1)),(rCompare_n,(true,z02 true zcw))]
abbrev rSlack_n:Nat:=54
def rSlack_I (I:Inst) (x:List Int) (pot:List Int):List (Nat × z09):=[]
def rSlack_IA:List SV->z0d->List (Nat × z09):=fun _ _=>[]
end Go.Proofs.YtggblkbecekbdaaGreat
end
section
namespace Go.Proofs.YtggblkbecekbdaaGreat
open Go Go.RowKit Go.Ql Go.Vc
def of11_E0 (pot : List Int) (n : Int) (ty0 : TypeId) : Prop :=
      (decide (n ≥ (↑pot.length:Int)) = true->((0:Int) = pot.getD n.toNat (0:Int)/\True)/\True) /\
 (decide (n ≥ (↑pot.length:Int)) = false ->
 ((0:Int) <= n/\n < (↑pot.length:Int))/\n.toNat < pot.length/\∀ (x:Int),pot[n.toNat]? = some x->(x = pot.getD n.toNat (0:Int)/\True)/\True)
theorem of11_q (pot:List Int) (n:Int) (ty0:TypeId):of11_E0 pot n ty0 = z2h TT of11_g (of11_I pot n) (of11_an pot n) Tryz.f128 [.row 0,.int .i64 n] [(0,.row false ty0 (.ints .i64 pot))] (of11_r pot n):=by kernel_rfl
theorem of11_E (pot:List Int) (n:Int) (ty0:TypeId) (hp:0 <= n):FVc TT of11_g (of11_I pot n) (of11_an pot n) Tryz.f128 [.row 0,.int .i64 n] [(0,.row false ty0 (.ints .i64 pot))] (of11_r pot n):=by
 refine FVc.of (of11_E0 pot n ty0) (of11_q pot n ty0) ?_
 unfold of11_E0
 simp only [eq_self,exists_const,forall_const,decide_eq_true_eq,decide_eq_false_iff_not,and_true,true_and,bne_iff_ne,ne_eq,bne_eq_false_iff_eq,Int.toNat_natCast,Bool.not_eq_true',Bool.not_eq_false',beq_iff_eq,beq_eq_false_iff_ne,z08]
 refine ⟨fun h=>?_,fun h=>⟨by omega,by omega,fun x hx=>?_⟩⟩
 ·simp [List.getD,List.getElem?_eq_none (show pot.length <= n.toNat by omega)]
 ·simp [List.getD,hx]
theorem of11_ok:SpecOk Tryz.prog of11_n true (z02 true of11_fs) :=
 z0a z0k (show z1d Tryz.prog of11_g from z05) (by kernel_rfl) mixedOrders Tryz.func128 rfl rfl (by kernel_rfl) (n:=2) (by decide +kernel) (I:=of11_IA) (fun _ _=>z06) (A:=of11_A)
  (fun args h r hr=>by
   unfold of11_fs at hr
   split at hr
   ·rename_i n ty0 pot; cases hr; refine ⟨rfl,fun hp=>?_⟩; have hE:=of11_E pot n ty0 hp; exact hE
   ·cases hr)
def zgu (p : Arc) (pf : Int) (pt : Int) : Prop :=
      I64 p.cost /\
 I64 pf /\
 ((W p.cost).ok/\(W pf).ok) /\
 I64 pt /\
 ((z33 (W p.cost) (W pf)).ok/\(W pt).ok) /\
 (((z3d (z33 (W p.cost) (W pf)) (W pt)).hi = (W (redA p pf pt)).hi/\(z3d (z33 (W p.cost) (W pf)) (W pt)).lo = (W (redA p pf pt)).lo/\True)/\True)/\True
theorem reduced_q (p:Arc) (pf:Int) (pt:Int):zgu p pf pt = z2h TT zmx (reduced_I p pf pt) (reduced_an p pf pt) Tryz.f73 [.agg [.int .i64 p.src,.int .i64 p.dst,.int .i64 p.low,.int .i64 p.cap,.int .i64 p.cost,.int .i64 pf,.int .i64 pt]] [] (zmy p pf pt):=by kernel_rfl
theorem reduced_E (p:Arc) (pf:Int) (pt:Int) (hp:I64 p.cost/\I64 pf/\I64 pt):FVc TT zmx (reduced_I p pf pt) (reduced_an p pf pt) Tryz.f73 [.agg [.int .i64 p.src,.int .i64 p.dst,.int .i64 p.low,.int .i64 p.cap,.int .i64 p.cost,.int .i64 pf,.int .i64 pt]] [] (zmy p pf pt):=by
 refine FVc.of (zgu p pf pt) (reduced_q p pf pt) ?_
 unfold zgu
 obtain ⟨p1,p2,p3⟩:=hp
 simp only [eq_self,exists_const,forall_const,decide_eq_true_eq,decide_eq_false_iff_not,and_true,true_and,bne_iff_ne,ne_eq,bne_eq_false_iff_eq,Int.toNat_natCast,Bool.not_eq_true',Bool.not_eq_false',beq_iff_eq,beq_eq_false_iff_ne,z08]
 simp [p1,p2,p3,z9d,redA]
theorem reduced_ok:SpecOk Tryz.prog reduced_n true (z02 true zgv) :=
 z0a z0k (show z1d Tryz.prog zmx from z00 zfq (z00 zic (z00 Of_ok (z05)))) (by kernel_rfl) mixedOrders Tryz.func73 rfl rfl (by kernel_rfl) (n:=1) (by decide +kernel) (I:=reduced_IA) (fun _ _=>z06) (A:=reduced_A)
  (fun args h r hr=>by
   unfold zgv at hr
   split at hr
   ·rename_i p_0 p_1 p_2 p_3 p_4 pf pt; cases hr; refine ⟨rfl,fun hp=>?_⟩; have hE:=reduced_E ⟨p_0,p_1,p_2,p_3,p_4⟩ pf pt hp; exact hE
   ·cases hr)
theorem at_ok {I:Inst} {pot:List Int} {a:Int} (h1:A64 pot) (h2:zfd I.arcs):I64 (atA I a).cost/\I64 (atF I pot a)/\I64 (atT I pot a):=by
 have z:I64 0:=by simp [I64]
 refine ⟨?_,?_,?_⟩
 ·unfold atA z2i
  split
  ·rename_i h
   unfold gOk at h
   simp only [Bool.and_eq_true,decide_eq_true_eq] at h
   have hl:a.toNat < I.arcs.length:=by omega
   rw [List.getD_eq_getElem?_getD,List.getElem?_eq_getElem hl]
   exact h2 _ (List.getElem_mem hl)
  ·exact z
 ·unfold atF
  split
  ·exact h1.getD _
  ·exact z
 ·unfold atT
  split
  ·exact h1.getD _
  ·exact z
def at11_E0 (I : Inst) (pot : List Int) (a : Int) (ty0 ty1 ty2 : TypeId) : Prop :=
      (decide (a < (0:Int)) = true ->
 ((((0:Int) = (atA I a).src /\
 (0:Int) = (atA I a).dst /\
 (0:Int) = (atA I a).low/\(0:Int) = (atA I a).cap/\(0:Int) = (atA I a).cost/\(0:Int) = atF I pot a/\(0:Int) = atT I pot a/\True) /\
 false = gOk (↑I.sup.length:Int) I.arcs a/\True) /\
 True) /\
 True) /\
 (decide (a < (0:Int)) = false ->
 (decide (a ≥ (↑I.arcs.length:Int)) = true ->
 ((((0:Int) = (atA I a).src /\
 (0:Int) = (atA I a).dst /\
 (0:Int) = (atA I a).low/\(0:Int) = (atA I a).cap/\(0:Int) = (atA I a).cost/\(0:Int) = atF I pot a/\(0:Int) = atT I pot a/\True) /\
 false = gOk (↑I.sup.length:Int) I.arcs a/\True) /\
 True) /\
 True) /\
 (decide (a ≥ (↑I.arcs.length:Int)) = false ->
 ((0:Int) <= a/\a < (↑I.arcs.length:Int)) /\
 a.toNat < I.arcs.length /\
 ∀ (x:Arc),
 I.arcs[a.toNat]? = some x ->
 (decide (x.src < (0:Int)) = true ->
 ((((0:Int) = (atA I a).src /\
 (0:Int) = (atA I a).dst /\
 (0:Int) = (atA I a).low/\(0:Int) = (atA I a).cap/\(0:Int) = (atA I a).cost/\(0:Int) = atF I pot a/\(0:Int) = atT I pot a/\True) /\
 false = gOk (↑I.sup.length:Int) I.arcs a/\True) /\
 True) /\
 True) /\
 (decide (x.src < (0:Int)) = false ->
 (decide (x.src ≥ (↑I.sup.length:Int)) = true ->
 ((((0:Int) = (atA I a).src /\
 (0:Int) = (atA I a).dst /\
 (0:Int) = (atA I a).low/\(0:Int) = (atA I a).cap/\(0:Int) = (atA I a).cost/\(0:Int) = atF I pot a/\(0:Int) = atT I pot a/\True) /\
 false = gOk (↑I.sup.length:Int) I.arcs a/\True) /\
 True) /\
 True) /\
 (decide (x.src ≥ (↑I.sup.length:Int)) = false ->
 (decide (x.dst < (0:Int)) = true ->
 ((((0:Int) = (atA I a).src /\
 (0:Int) = (atA I a).dst /\
 (0:Int) = (atA I a).low /\
 (0:Int) = (atA I a).cap/\(0:Int) = (atA I a).cost/\(0:Int) = atF I pot a/\(0:Int) = atT I pot a/\True) /\
 false = gOk (↑I.sup.length:Int) I.arcs a/\True) /\
 True) /\
 True) /\
 (decide (x.dst < (0:Int)) = false ->
 (decide (x.dst ≥ (↑I.sup.length:Int)) = true ->
 ((((0:Int) = (atA I a).src /\
 (0:Int) = (atA I a).dst /\
 (0:Int) = (atA I a).low /\
 (0:Int) = (atA I a).cap/\(0:Int) = (atA I a).cost/\(0:Int) = atF I pot a/\(0:Int) = atT I pot a/\True) /\
 false = gOk (↑I.sup.length:Int) I.arcs a/\True) /\
 True) /\
 True) /\
 (decide (x.dst ≥ (↑I.sup.length:Int)) = false ->
 (0:Int) <= x.src /\
 (0:Int) <= x.dst /\
 (((x.src = (atA I a).src /\
 x.dst = (atA I a).dst /\
 x.low = (atA I a).low /\
 x.cap = (atA I a).cap /\
 x.cost = (atA I a).cost/\pot.getD x.src.toNat (0:Int) = atF I pot a/\pot.getD x.dst.toNat (0:Int) = atT I pot a/\True) /\
 true = gOk (↑I.sup.length:Int) I.arcs a/\True) /\
 True) /\
 True))))))
theorem at11_q (I:Inst) (pot:List Int) (a:Int) (ty0 ty1 ty2:TypeId):at11_E0 I pot a ty0 ty1 ty2 = z2h TT at11_g (at11_I I pot a) (at11_an I pot a) Tryz.f72 [.agg [.row 0,.row 1],.row 2,.int .i64 a] [(0,.row false ty0 (.ints .i64 I.sup)),(1,.row false ty1 (.arcs I.arcs)),(2,.row false ty2 (.ints .i64 pot))] (at11_r I pot a):=by kernel_rfl
theorem at11_E (I:Inst) (pot:List Int) (a:Int) (ty0 ty1 ty2:TypeId) (hp:True):FVc TT at11_g (at11_I I pot a) (at11_an I pot a) Tryz.f72 [.agg [.row 0,.row 1],.row 2,.int .i64 a] [(0,.row false ty0 (.ints .i64 I.sup)),(1,.row false ty1 (.arcs I.arcs)),(2,.row false ty2 (.ints .i64 pot))] (at11_r I pot a):=by
 refine FVc.of (at11_E0 I pot a ty0 ty1 ty2) (at11_q I pot a ty0 ty1 ty2) ?_
 unfold at11_E0
 have z:gOk I.sup.length I.arcs a = false->(0 = (atA I a).src/\0 = (atA I a).dst/\0 = (atA I a).low/\0 = (atA I a).cap/\0 = (atA I a).cost/\0 = atF I pot a/\0 = atT I pot a)/\false = gOk I.sup.length I.arcs a:=fun h=>by
  simp [atA,z2i,atF,atT,h]
 simp only [eq_self,exists_const,forall_const,decide_eq_true_eq,decide_eq_false_iff_not,and_true,true_and,bne_iff_ne,ne_eq,bne_eq_false_iff_eq,Int.toNat_natCast,Bool.not_eq_true',Bool.not_eq_false',beq_iff_eq,beq_eq_false_iff_ne,z08]
 refine ⟨fun h=>z (zcn (.inl h)),fun h=>⟨fun h2=>z (zcn (.inr h2)),fun h2=>⟨by omega,by omega,fun x hx=>?_⟩⟩⟩
 have hg:=zdy (n:=I.sup.length) (a:=a) (by omega) hx
 have no:¬ (0 <= x.src/\x.src < I.sup.length/\0 <= x.dst/\x.dst < I.sup.length)->gOk I.sup.length I.arcs a = false:=fun h=>by
  rw [hg]
  cases ho:z35 (I.sup.length:Int) x with
  | false=>rfl
  | true=>exact absurd (okArc_iff.1 ho) h
 refine ⟨fun h3=>z (no (by omega)),fun h3=>⟨fun h4=>z (no (by omega)),fun h4=>⟨fun h5=>z (no (by omega)),fun h5=>⟨fun h6=>z (no (by omega)),fun h6=>⟨by omega,by omega,?_⟩⟩⟩⟩⟩
 have hgt:gOk I.sup.length I.arcs a = true:=by rw [hg]; exact okArc_iff.2 ⟨by omega,by omega,by omega,by omega⟩
 have hA:atA I a = x:=by unfold atA z2i; rw [if_pos hgt]; simp [List.getD,hx]
 simp [hgt,hA,atF,atT]
theorem at11_ok:SpecOk Tryz.prog at11_n true (z02 true at11_fs) :=
 z0a z0k (show z1d Tryz.prog at11_g from z00 of11_ok (z05)) (by kernel_rfl) mixedOrders Tryz.func72 rfl rfl (by kernel_rfl) (n:=3) (by decide +kernel) (I:=at11_IA) (fun _ _=>z06) (A:=at11_A)
  (fun args h r hr=>by
   unfold at11_fs at hr
   split at hr
   ·rename_i a ty0 I_s ty1 I_a ty2 pot; cases hr; refine ⟨rfl,fun hp=>?_⟩; have hE:=at11_E ⟨I_s,I_a⟩ pot a ty0 ty1 ty2 hp; exact hE
   ·cases hr)
def zfr (I : Inst) (pot : List Int) (a : Int) (ty0 ty1 ty2 : TypeId) : Prop :=
      True /\
 ((!gOk (↑I.sup.length:Int) I.arcs a) = true->(((0:Int) = (W (zff I pot a)).hi/\(0:Int) = (W (zff I pot a)).lo/\True)/\True)/\True) /\
 ((!gOk (↑I.sup.length:Int) I.arcs a) = false ->
 (I64 (atA I a).cost/\I64 (atF I pot a)/\I64 (atT I pot a)) /\
 (((W (redA (atA I a) (atF I pot a) (atT I pot a))).hi = (W (zff I pot a)).hi/\(W (redA (atA I a) (atF I pot a) (atT I pot a))).lo = (W (zff I pot a)).lo/\True) /\
 True) /\
 True)
theorem Reduced_q (I:Inst) (pot:List Int) (a:Int) (ty0 ty1 ty2:TypeId):zfr I pot a ty0 ty1 ty2 = z2h TT zjt (Reduced_I I pot a) (Reduced_an I pot a) Tryz.f31 [.agg [.row 0,.row 1],.row 2,.int .i64 a] [(0,.row false ty0 (.ints .i64 I.sup)),(1,.row false ty1 (.arcs I.arcs)),(2,.row false ty2 (.ints .i64 pot))] (zju I pot a):=by kernel_rfl
theorem Reduced_E (I:Inst) (pot:List Int) (a:Int) (ty0 ty1 ty2:TypeId) (hp:A64 pot/\zfd I.arcs):FVc TT zjt (Reduced_I I pot a) (Reduced_an I pot a) Tryz.f31 [.agg [.row 0,.row 1],.row 2,.int .i64 a] [(0,.row false ty0 (.ints .i64 I.sup)),(1,.row false ty1 (.arcs I.arcs)),(2,.row false ty2 (.ints .i64 pot))] (zju I pot a):=by
 refine FVc.of (zfr I pot a ty0 ty1 ty2) (Reduced_q I pot a ty0 ty1 ty2) ?_
 unfold zfr
 obtain ⟨p1,p2⟩:=hp
 have hk:=at_ok (a:=a) p1 p2
 simp only [eq_self,exists_const,forall_const,decide_eq_true_eq,decide_eq_false_iff_not,and_true,true_and,bne_iff_ne,ne_eq,bne_eq_false_iff_eq,Int.toNat_natCast,Bool.not_eq_true',Bool.not_eq_false',beq_iff_eq,beq_eq_false_iff_ne,z08]
 refine ⟨fun h=>?_,fun h=>⟨hk,?_⟩⟩
 ·unfold zff; rw [h,if_neg (by decide),W_zero]; exact ⟨rfl,rfl⟩
 ·unfold zff; rw [if_pos h]; exact ⟨rfl,rfl⟩
theorem Reduced_ok:SpecOk Tryz.prog Reduced_n true (z02 true zfs) :=
 z0a z0k (show z1d Tryz.prog zjt from z00 at11_ok (z00 reduced_ok (z05))) (by kernel_rfl) mixedOrders Tryz.func31 rfl rfl (by kernel_rfl) (n:=3) (by decide +kernel) (I:=Reduced_IA) (fun _ _=>z06) (A:=Reduced_A)
  (fun args h r hr=>by
   unfold zfs at hr
   split at hr
   ·rename_i a ty0 I_s ty1 I_a ty2 pot; cases hr; refine ⟨rfl,fun hp=>?_⟩; have hE:=Reduced_E ⟨I_s,I_a⟩ pot a ty0 ty1 ty2 hp; exact hE
   ·cases hr)
abbrev z5c (I:Inst) (a:Int) (pot:List Int):=(((W (z2i (↑I.sup.length:Int) I.arcs a).cost).ok/\((W (if (0:Int) <= (z2i (↑I.sup.length:Int) I.arcs a).src then pot.getD (z2i (↑I.sup.length:Int) I.arcs a).src.toNat (0:Int) else (0:Int))).ok))/\(True/\(I64 (if (0:Int) <= (z2i (↑I.sup.length:Int) I.arcs a).dst then pot.getD (z2i (↑I.sup.length:Int) I.arcs a).dst.toNat (0:Int) else (0:Int))/\(((z33 (W (z2i (↑I.sup.length:Int) I.arcs a).cost) (W (if (0:Int) <= (z2i (↑I.sup.length:Int) I.arcs a).src then pot.getD (z2i (↑I.sup.length:Int) I.arcs a).src.toNat (0:Int) else (0:Int)))).ok/\((W (if (0:Int) <= (z2i (↑I.sup.length:Int) I.arcs a).dst then pot.getD (z2i (↑I.sup.length:Int) I.arcs a).dst.toNat (0:Int) else (0:Int))).ok))/\((((z3d (z33 (W (z2i (↑I.sup.length:Int) I.arcs a).cost) (W (if (0:Int) <= (z2i (↑I.sup.length:Int) I.arcs a).src then pot.getD (z2i (↑I.sup.length:Int) I.arcs a).src.toNat (0:Int) else (0:Int)))) (W (if (0:Int) <= (z2i (↑I.sup.length:Int) I.arcs a).dst then pot.getD (z2i (↑I.sup.length:Int) I.arcs a).dst.toNat (0:Int) else (0:Int)))).hi = (W (zff I pot a)).hi/\((z3d (z33 (W (z2i (↑I.sup.length:Int) I.arcs a).cost) (W (if (0:Int) <= (z2i (↑I.sup.length:Int) I.arcs a).src then pot.getD (z2i (↑I.sup.length:Int) I.arcs a).src.toNat (0:Int) else (0:Int)))) (W (if (0:Int) <= (z2i (↑I.sup.length:Int) I.arcs a).dst then pot.getD (z2i (↑I.sup.length:Int) I.arcs a).dst.toNat (0:Int) else (0:Int)))).lo = (W (zff I pot a)).lo/\True))/\True)/\True)))))
abbrev z6q (I:Inst) (a:Int) (pot:List Int):=(if (0:Int) <= (z2i (↑I.sup.length:Int) I.arcs a).src then pot.getD (z2i (↑I.sup.length:Int) I.arcs a).src.toNat (0:Int) else (0:Int))
def zd0 (I : Inst) (pot : List Int) (a : Int) (ty0 ty1 ty2 : TypeId) : Prop :=
   True/\((!gOk (↑I.sup.length:Int) I.arcs a) = true->(((0:Int) = (W (zff I pot a)).hi/\((0:Int) = (W (zff I pot a)).lo/\True))/\True)/\True)/\((!gOk (↑I.sup.length:Int) I.arcs a) = false->(I64 (z2i (↑I.sup.length:Int) I.arcs a).cost/\(True/\(I64 (z6q I a pot)/\(z5c I a pot)/\(z5c I a pot))/\(I64 (z6q I a pot)/\(z5c I a pot)))/\(True/\(I64 (z6q I a pot)/\(z5c I a pot))))/\(I64 (z2i (↑I.sup.length:Int) I.arcs a).cost/\(True/\(I64 (z6q I a pot)/\(z5c I a pot)))))
theorem rReduced_q (I:Inst) (pot:List Int) (a:Int) (ty0 ty1 ty2:TypeId):zd0 I pot a ty0 ty1 ty2 = z2h TT zgr (rReduced_I I pot a) (zmq I pot a) Tryz.f89 [.agg [.row 0,.row 1],.row 2,.int .i64 a] [(0,.row false ty0 (.ints .i64 I.sup)),(1,.row false ty1 (.arcs I.arcs)),(2,.row false ty2 (.ints .i64 pot))] (zgs I pot a):=by kernel_rfl
theorem rReduced_E (I:Inst) (pot:List Int) (a:Int) (ty0 ty1 ty2:TypeId) (hp:A64 pot/\zfd I.arcs):FVc TT zgr (rReduced_I I pot a) (zmq I pot a) Tryz.f89 [.agg [.row 0,.row 1],.row 2,.int .i64 a] [(0,.row false ty0 (.ints .i64 I.sup)),(1,.row false ty1 (.arcs I.arcs)),(2,.row false ty2 (.ints .i64 pot))] (zgs I pot a):=by
 refine FVc.of (zd0 I pot a ty0 ty1 ty2) (rReduced_q I pot a ty0 ty1 ty2) ?_
 unfold zd0
 delta z6q z5c
 obtain ⟨p1,p2⟩:=hp
 have hk:=at_ok (a:=a) p1 p2
 simp only [eq_self,exists_const,forall_const,decide_eq_true_eq,decide_eq_false_iff_not,and_true,true_and,bne_iff_ne,ne_eq,bne_eq_false_iff_eq,Int.toNat_natCast,Bool.not_eq_true',Bool.not_eq_false',beq_iff_eq,beq_eq_false_iff_ne,z08]
 refine ⟨fun h=>?_,fun h=>?_⟩
 ·unfold zff; rw [h,if_neg (by decide),W_zero]; exact ⟨rfl,rfl⟩
 ·have ho:=gOk_ok h
  obtain ⟨o1,o2,o3,o4⟩:=okArc_iff.1 ho
  have e:z2i (I.sup.length:Int) I.arcs a = atA I a:=rfl
  have e1:atF I pot a = pot.getD (atA I a).src.toNat 0:=by unfold atF; rw [if_pos h]
  have e2:atT I pot a = pot.getD (atA I a).dst.toNat 0:=by unfold atT; rw [if_pos h]
  rw [e1,e2] at hk
  simp only [e,o1,o3,if_true,z95,z96,zff,h,e1,e2,redA,and_self]
  exact ⟨hk.1,hk.2.1,⟨z9d _,z9d _⟩,hk.2.2,⟨z9d _,z9d _⟩,trivial⟩
theorem rReduced_ok:SpecOk Tryz.prog rReduced_n true (z02 true zd1) :=
 z0a z0k (show z1d Tryz.prog zgr from z00 rArc_ok (z00 rMinus_ok (z00 rOf_ok (z00 At_ok (z00 ziw (z05)))))) (by kernel_rfl) mixedOrders Tryz.func89 rfl rfl (by kernel_rfl) (n:=3) (by decide +kernel) (I:=rReduced_IA) (fun _ _=>z06) (A:=rReduced_A)
  (fun args h r hr=>by
   unfold zd1 at hr
   split at hr
   ·rename_i a ty0 I_s ty1 I_a ty2 pot; cases hr; refine ⟨rfl,fun hp=>?_⟩; have hE:=rReduced_E ⟨I_s,I_a⟩ pot a ty0 ty1 ty2 hp; exact hE
   ·cases hr)
abbrev zad (I:Inst) (g':Nat) (g:Nat) (x:List Int) (pot:List Int):=(I.arcs.length - g' < I.arcs.length - g/\((True/\(True/\(0 = 0/\(IntKind.i64.wrap ((↑g:Int) + (1:Int)) = (↑g':Int)/\True))))/\((True/\(True/\True))/\(I.sup = I.sup/\(I.arcs = I.arcs/\(x = x/\(pot = pot/\True)))))))
abbrev zae (I:Inst) (pot:List Int) (g:Nat):=(zfg (W (zff I pot (↑g:Int))) { hi:=(0:Int),lo:=(0:Int):Wide } < (0:Int))
abbrev z84 (g:Nat) (I:Inst):=((0:Int) <= ↑g/\((↑g:Int) < ↑I.arcs.length))
def zmt (I : Inst) (x : List Int) (pot : List Int) (ty0 ty1 ty2 ty3 : TypeId) : Prop :=
   (I.sup.length <= (10000:Nat)/\(I.arcs.length <= (10000:Nat)/\(A64 x/\(A64 I.sup))))/\((z1e I x != (0:Int)) = true->(z1e I x = z1u I x pot/\True)/\True)/\((z1e I x != (0:Int)) = false->(((↑pot.length:Int) != (↑I.sup.length:Int)) = true->((30:Int) = z1u I x pot/\True)/\True)/\(((↑pot.length:Int) != (↑I.sup.length:Int)) = false->∃ (g0:Nat),((g0 <= I.arcs.length/\(∀ (j:Nat),j < g0->z44 I x pot j = true))/\((True/\(True/\(0 = 0/\((0:Int) = ↑g0/\True))))/\((True/\(True/\True))/\(I.sup = I.sup/\(I.arcs = I.arcs/\(x = x/\(pot = pot/\True)))))))/\∀ (g:Nat),(g <= I.arcs.length/\(∀ (j:Nat),j < g->z44 I x pot j = true))->(decide ((↑g:Int) < ↑x.length) = true->(A64 pot/\(zfd I.arcs))/\((W (zff I pot (↑g:Int))).ok/\({ hi:=(0:Int),lo:=(0:Int):Wide }.ok))/\(decide (zfg (W (zff I pot (↑g:Int))) { hi:=(0:Int),lo:=(0:Int):Wide } > (0:Int)) = true->((0:Int) <= ↑g/\((↑g:Int) < ↑x.length))/\((↑g:Int).toNat < x.length/\(∀ (x_1:Int),x[(↑g:Int).toNat]? = some x_1->(z84 g I)/\((↑g:Int).toNat < I.arcs.length/\(∀ (x_2:Arc),I.arcs[(↑g:Int).toNat]? = some x_2->((x_1 != x_2.low) = true->((33:Int) = z1u I x pot/\True)/\True)/\((x_1 != x_2.low) = false->(decide (zae I pot g) = true->((0:Int) <= ↑g/\((↑g:Int) < ↑x.length))/\((↑g:Int).toNat < x.length/\(∀ (x_3:Int),x[(↑g:Int).toNat]? = some x_3->(z84 g I)/\((↑g:Int).toNat < I.arcs.length/\(∀ (x_4:Arc),I.arcs[(↑g:Int).toNat]? = some x_4->((x_3 != x_4.cap) = true->((33:Int) = z1u I x pot/\True)/\True)/\((x_3 != x_4.cap) = false->(z84 g I)/\((↑g:Int).toNat < I.arcs.length/\(∀ (x_5:Arc),I.arcs[(↑g:Int).toNat]? = some x_5->((x_5.cap == (4611686018427387904:Int)) = true->((33:Int) = z1u I x pot/\True)/\True)/\((x_5.cap == (4611686018427387904:Int)) = false->∃ (g':Nat),(g' <= I.arcs.length/\(∀ (j:Nat),j < g'->z44 I x pot j = true))/\(zad I g' g x pot))))))))))/\(decide (zae I pot g) = false->∃ (g':Nat),(g' <= I.arcs.length/\(∀ (j:Nat),j < g'->z44 I x pot j = true))/\(zad I g' g x pot))))))))/\(decide (zfg (W (zff I pot (↑g:Int))) { hi:=(0:Int),lo:=(0:Int):Wide } > (0:Int)) = false->(decide (zae I pot g) = true->((0:Int) <= ↑g/\((↑g:Int) < ↑x.length))/\((↑g:Int).toNat < x.length/\(∀ (x_1:Int),x[(↑g:Int).toNat]? = some x_1->(z84 g I)/\((↑g:Int).toNat < I.arcs.length/\(∀ (x_2:Arc),I.arcs[(↑g:Int).toNat]? = some x_2->((x_1 != x_2.cap) = true->((33:Int) = z1u I x pot/\True)/\True)/\((x_1 != x_2.cap) = false->(z84 g I)/\((↑g:Int).toNat < I.arcs.length/\(∀ (x_3:Arc),I.arcs[(↑g:Int).toNat]? = some x_3->((x_3.cap == (4611686018427387904:Int)) = true->((33:Int) = z1u I x pot/\True)/\True)/\((x_3.cap == (4611686018427387904:Int)) = false->∃ (g':Nat),(g' <= I.arcs.length/\(∀ (j:Nat),j < g'->z44 I x pot j = true))/\(zad I g' g x pot))))))))))/\(decide (zae I pot g) = false->∃ (g':Nat),(g' <= I.arcs.length/\(∀ (j:Nat),j < g'->z44 I x pot j = true))/\(zad I g' g x pot))))/\(decide ((↑g:Int) < ↑x.length) = false->((0:Int) = z1u I x pot/\True)/\True)))
theorem rSlack_q (I:Inst) (x:List Int) (pot:List Int) (ty0 ty1 ty2 ty3:TypeId):zmt I x pot ty0 ty1 ty2 ty3 = z2h TT rSlack_g (rSlack_I I x pot) (zmu I x pot) Tryz.f54 [.agg [.row 0,.row 1],.row 2,.row 3] [(0,.row false ty0 (.ints .i64 I.sup)),(1,.row false ty1 (.arcs I.arcs)),(2,.row false ty2 (.ints .i64 x)),(3,.row false ty3 (.ints .i64 pot))] (rSlack_r I x pot):=by kernel_rfl
theorem rSlack_E (I:Inst) (x:List Int) (pot:List Int) (ty0 ty1 ty2 ty3:TypeId) (hp:I.sup.length <= 10000/\I.arcs.length <= 10000/\A64 x/\A64 I.sup/\A64 pot/\zfd I.arcs):FVc TT rSlack_g (rSlack_I I x pot) (zmu I x pot) Tryz.f54 [.agg [.row 0,.row 1],.row 2,.row 3] [(0,.row false ty0 (.ints .i64 I.sup)),(1,.row false ty1 (.arcs I.arcs)),(2,.row false ty2 (.ints .i64 x)),(3,.row false ty3 (.ints .i64 pot))] (rSlack_r I x pot):=by
 refine FVc.of (zmt I x pot ty0 ty1 ty2 ty3) (rSlack_q I x pot ty0 ty1 ty2 ty3) ?_
 unfold zmt
 delta z84 zae zad
 obtain ⟨p1,p2,p3,p4,p5,p6⟩:=hp
 have bad:∀ j,j < I.arcs.length->z1e I x = 0->pot.length = I.sup.length->z44 I x pot j = false->33 = z1u I x pot:=fun j hj h1 h2 h3=>by
  unfold z1u
  rw [if_neg (by omega),if_neg (by omega),if_neg]
  intro ha
  have:=List.all_eq_true.1 ha j (List.mem_range.2 hj)
  rw [h3] at this; cases this
 have nx:∀ g,g < I.arcs.length->(∀ j,j < g->z44 I x pot j = true)->z44 I x pot g = true->∃ g',(g' <= I.arcs.length/\∀ j,j < g'->z44 I x pot j = true)/\I.arcs.length - g' < I.arcs.length - g/\IntKind.i64.wrap ((g:Int) + 1) = (g':Int):=fun g hg h1 h2 =>
  ⟨g + 1,⟨by omega,fun j hj=>by
   by_cases e:j = g
   ·subst e; exact h2
   ·exact h1 j (by omega)⟩,by omega,by rw [w64 (by omega) (by omega)]; omega⟩
 simp only [eq_self,exists_const,forall_const,decide_eq_true_eq,decide_eq_false_iff_not,and_true,true_and,bne_iff_ne,ne_eq,bne_eq_false_iff_eq,Int.toNat_natCast,Bool.not_eq_true',Bool.not_eq_false',beq_iff_eq,beq_eq_false_iff_ne,z08]
 refine ⟨⟨p1,p2,p3,p4⟩,fun h=>by unfold z1u; rw [if_pos h],fun hf=>⟨fun h=>by unfold z1u; rw [if_neg (by omega),if_pos (by omega)],fun hl=>?_⟩⟩
 have hz:=fitsF_zero.1 hf
 have hzl:=hz.2.1
 refine ⟨0,⟨⟨by omega,fun j hj=>by omega⟩,rfl⟩,fun g hg=>⟨fun h1=>?_,fun h1=>?_⟩⟩
 ·have hgl:g < I.arcs.length:=by omega
  have hgx:g < x.length:=by omega
  obtain ⟨b,hb⟩:∃ b,I.arcs[g]? = some b:=⟨_,List.getElem?_eq_getElem hgl⟩
  obtain ⟨y,hy⟩:∃ y,x[g]? = some y:=⟨_,List.getElem?_eq_getElem hgx⟩
  have hbd:I.arcs.getD g default = b:=by simp [List.getD,hb]
  have hyd:x.getD g 0 = y:=by simp [List.getD,hy]
  have key:z44 I x pot g = z71 (zff I pot g) y b:=by unfold z44; rw [hbd,hyd]
  have B:=bad g hgl hf (by omega)
  have N:=nx g hgl hg.2
  rw [key] at B N
  have e0:(⟨0,0⟩:Wide) = W 0:=W_zero.symm
  simp only [hy,hb,Option.some.injEq,forall_eq',e0]
  have hs:zfg (W (zff I pot g)) (W 0) = sgn (zff I pot g):=rfl
  rw [hs]
  have q1:(0:Int) <= g:=by omega
  have q2:(g:Int) < x.length:=by omega
  have q3:(g:Int) < I.arcs.length:=by omega
  unfold z71 inf at B N
  refine ⟨⟨p5,p6⟩,⟨z9d _,z9d _⟩,?_⟩
  generalize zff I pot g = r at *
  refine ⟨fun c1=>⟨⟨q1,q2⟩,hgx,⟨q1,q3⟩,hgl,fun c2=>B (by simp [show 0 < sgn r from c1,c2]),fun c2=>⟨fun c3=>by omega,fun c3=>N (by simp [c3,c2])⟩⟩,fun c1=>⟨fun c3=>⟨⟨q1,q2⟩,hgx,⟨q1,q3⟩,hgl,fun c4=>B (by simp [c3,c4]),fun c4=>⟨⟨q1,q3⟩,hgl,fun c5=>B (by simp [c3,c5]),fun c5=>N (by simp [show ¬ 0 < sgn r from c1,c4,c5])⟩⟩,fun c3=>N (by simp [show ¬ 0 < sgn r from c1,c3])⟩⟩
 ·have:(List.range I.arcs.length).all (z44 I x pot) = true:=List.all_eq_true.2 fun j hj=>hg.2 j (by have:=List.mem_range.1 hj; omega)
  unfold z1u
  rw [if_neg (by omega),if_neg (by omega),if_pos this]
theorem rSlack_ok:SpecOk Tryz.prog rSlack_n true (z02 true zmv) :=
 z0a z0k (show z1d Tryz.prog rSlack_g from z00 rFits_ok (z00 rReduced_ok (z00 rCompare_ok (z05)))) (by kernel_rfl) mixedOrders Tryz.func54 rfl rfl (by kernel_rfl) (n:=3) (by decide +kernel) (I:=rSlack_IA) (fun _ _=>z06) (A:=rSlack_A)
  (fun args h r hr=>by
   unfold zmv at hr
   split at hr
   ·rename_i ty0 I_s ty1 I_a ty2 x ty3 pot; cases hr; refine ⟨rfl,fun hp=>?_⟩; have hE:=rSlack_E ⟨I_s,I_a⟩ x pot ty0 ty1 ty2 ty3 hp; exact hE
   ·cases hr)
end Go.Proofs.YtggblkbecekbdaaGreat
end
section
namespace Go.Proofs.YtggblkbecekbdaaGreat
open Go Go.RowKit Go.Ql Go.Vc
def on_r (side:List Bool) (n:Int):FRes:={ pre:=True,res:=.bool (onF side n),rows:=[],eff:=[] }
def on_fs:FS:=fun args h=>match args,h with
 | [.row 0,.int .i64 n],[(0,.row false ty0 (.bools side))]=>some (on_r side n)
 | _,_=>none
def on_an (side:List Bool) (n:Int):List (Nat × Ann):=[]
def on_A:List SV->z0d->List (Nat × Ann):=fun _ _=>[]
def on_g:z0c:=[]
abbrev on_n:Nat:=67
def on_I (side:List Bool) (n:Int):List (Nat × z09):=[]
def on_IA:List SV->z0d->List (Nat × z09):=fun _ _=>[]
def over1_r (n:Int) (I:Inst):FRes:={ pre:=True,res:=.bool (isN I.sup.length n),rows:=[],eff:=[] }
def over1_fs:FS:=fun args h=>match args,h with
 | [.int .i64 n,.ptr 0 0 0 0],[(0,.box false 25 [.row 1,.row 2]),(1,.row false ty1 (.ints .i64 I_s)),(2,.row false ty2 (.arcs I_a))]=>some (over1_r n ⟨I_s,I_a⟩)
 | _,_=>none
def over1_an (n:Int) (I:Inst):List (Nat × Ann):=[]
def over1_A:List SV->z0d->List (Nat × Ann):=fun _ _=>[]
def over1_g:z0c:=[]
abbrev over1_n:Nat:=115
def over1_I (n:Int) (I:Inst):List (Nat × z09):=[]
def over1_IA:List SV->z0d->List (Nat × z09):=fun _ _=>[]
abbrev over_n:Nat:=64
def over_g:z0c:=[]
def over_spec:Vc.Spec:=z57 TT over_g (fun _ _ _=>[]) Tryz.f64
def CRoom_r (I:Inst) (side:List Bool):FRes:={ pre:=A64a I.arcs/\I.arcs.length <= 140737488351232,res:=.tup [.agg (z0s (roomW (z4z I side))),.bool ((z4z I side).isSome)],rows:=[],eff:=[] }
def CRoom_fs:FS:=fun args h=>match args,h with
 | [.agg [.row 0,.row 1],.row 2],[(0,.row false ty0 (.ints .i64 I_s)),(1,.row false ty1 (.arcs I_a)),(2,.row false ty2 (.bools side))]=>some (CRoom_r ⟨I_s,I_a⟩ side)
 | _,_=>none
def CRoom_an (I:Inst) (side:List Bool):List (Nat × Ann):=[]
def CRoom_A:List SV->z0d->List (Nat × Ann):=fun _ _=>[]
def CRoom_g:z0c:=[(over_n,(false,over_spec)),(zjk,(true,z02 true zaw)),(Of_n,(true,z02 true zjp)),(zjq,(true,z02 true z9k))]
abbrev CRoom_n:Nat:=22
def CRoom_i0g:z0c:=[(over1_n,(true,z02 true over1_fs)),(on_n,(true,z02 true on_fs))]
def CRoom_i0 (I:Inst) (side:List Bool):z09:=inlI TT CRoom_i0g (fun args hp nk=>match args with
  | [y,c1,c2,c3]=>[(1,{ G:=Nat × Int,inv:=fun g=>⟨[(0,y),(1,c1),(2,c2),(3,c3),(9,.row 1),(10,.int .i64 I.arcs.length),(11,.int .i64 g.1)],Vc.put 6 (.box true 47 (z0s (W g.2))) hp,nk⟩,rel:=fun _ g=>g.1 <= I.arcs.length/\z1m I.sup.length side (I.arcs.drop g.1) g.2 = z4z I side,meas:=fun g=>I.arcs.length - g.1 })]
  | _=>[]) Tryz.f116
def CRoom_I (I:Inst) (side:List Bool):List (Nat × z09):=[(116,CRoom_i0 I side)]
def CRoom_IA:List SV->z0d->List (Nat × z09):=fun args h=>match args,h with
 | [.agg [.row 0,.row 1],.row 2],[(0,.row false ty0 (.ints .i64 I_s)),(1,.row false ty1 (.arcs I_a)),(2,.row false ty2 (.bools side))]=>CRoom_I ⟨I_s,I_a⟩ side
 | _,_=>[]
def Need_r (I:Inst) (side:List Bool):FRes:={ pre:=A64 I.sup/\I.sup.length <= 140737488351232,res:=.agg (z0s (W (z9f I side))),rows:=[],eff:=[] }
def Need_fs:FS:=fun args h=>match args,h with
 | [.agg [.row 0,.row 1],.row 2],[(0,.row false ty0 (.ints .i64 I_s)),(1,.row false ty1 (.arcs I_a)),(2,.row false ty2 (.bools side))]=>some (Need_r ⟨I_s,I_a⟩ side)
 | _,_=>none
def Need_an (I:Inst) (side:List Bool):List (Nat × Ann):=[(3,{ G:=(Nat),inv:=fun k=>⟨[(1,.row 2),(4,.ptr 4 0 0 0),(5,.ptr 5 0 0 0),(9,.row 0),(10,.int .i64 (↑I.sup.length:Int)),(11,.int .i64 k)],[(5,.box true 47 (z0s (W (z58 side I.sup k)))),(4,.box true 47 [.int .i64 (0:Int),.int .u64 (0:Int)]),(0,.row false 0 (.ints .i64 I.sup)),(2,.row false 0 (.bools side))],6⟩,rel:=fun k0 k=>k <= I.sup.length,meas:=fun k=>I.sup.length - k })]
def Need_A:List SV->z0d->List (Nat × Ann):=fun args h=>match args,h with
 | [.agg [.row 0,.row 1],.row 2],[(0,.row false ty0 (.ints .i64 I_s)),(1,.row false ty1 (.arcs I_a)),(2,.row false ty2 (.bools side))]=>Need_an ⟨I_s,I_a⟩ side
 | _,_=>[]
def Need_g:z0c:=[(on_n,(true,z02 true on_fs)),(zjq,(true,z02 true z9k)),(Of_n,(true,z02 true zjp))]
abbrev Need_n:Nat:=23
def Need_I (I:Inst) (side:List Bool):List (Nat × z09):=[]
def Need_IA:List SV->z0d->List (Nat × z09):=fun _ _=>[]
def Proves_r (I:Inst) (side:List Bool):FRes:={ pre:=A64a I.arcs/\I.arcs.length <= 140737488351232/\A64 I.sup/\I.sup.length <= 140737488351232,res:=.int .u16 (z2b I side),rows:=[],eff:=[] }
def zjs:FS:=fun args h=>match args,h with
 | [.agg [.row 0,.row 1],.row 2],[(0,.row false ty0 (.ints .i64 I_s)),(1,.row false ty1 (.arcs I_a)),(2,.row false ty2 (.bools side))]=>some (Proves_r ⟨I_s,I_a⟩ side)
 | _,_=>none
def Proves_an (I:Inst) (side:List Bool):List (Nat × Ann):=[]
def Proves_A:List SV->z0d->List (Nat × Ann):=fun _ _=>[]
def Proves_g:z0c:=[(zcf,(true,z02 true z77)),(CRoom_n,(true,z02 true CRoom_fs)),(Need_n,(true,z02 true Need_fs)),(zdm,(true,z02 true z7p))]
abbrev Proves_n:Nat:=34
def Proves_I (I:Inst) (side:List Bool):List (Nat × z09):=[]
def Proves_IA:List SV->z0d->List (Nat × z09):=fun _ _=>[]
end Go.Proofs.YtggblkbecekbdaaGreat
end
