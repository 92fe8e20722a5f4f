/- Part of the proof: FW20, Solve11, DX20, FX20, Solve12, DY20, FY20, DP11. -/
import Derived.Test.YtggblkbecekbdaaGreatZG8
import Derived.Test.YtggblkbecekbdaaGreatZG13
import Derived.Test.YtggblkbecekbdaaGreatZG5
import Derived.Test.YtggblkbecekbdaaGreatZG9
import Derived.Test.YtggblkbecekbdaaGreatZG7
import Derived.Test.YtggblkbecekbdaaGreatZG12
import Derived.Test.YtggblkbecekbdaaGreatZG10
import Derived.Test.YtggblkbecekbdaaGreatZG6
set_option linter.unusedVariables false
set_option linter.all false
set_option linter.unusedSimpArgs false
set_option maxRecDepth 1000000
section
namespace Go.Proofs.YtggblkbecekbdaaGreat
open Go Go.RowKit Go.Ql Go.Vc
theorem piece20_ok:SpecOk Tryz.prog zlm false z9j :=
 z7d z0i (show z15 Tryz.prog piece20_g from z03) (by kernel_rfl) mixedOrders Tryz.func149 rfl rfl (by kernel_rfl) _
def out20_E0 (g_n : Int) (g_l : List Arc) (g_i : List Int) (g_s : List Int) (n : Int) (ty1 ty2 ty3 : TypeId) : Prop :=
      ∀ (R:Loop->Prop),
 True /\
 ((!(decide ((0:Int) <= n) && decide (n<g_n)))=true->(True/\True)/\[]=z0m g_i g_s n (0:Nat)/\True) /\
 ((!(decide ((0:Int) <= n) && decide (n<g_n)))=false ->
 ((0:Int) <= IntKind.i64.wrap (IntKind.i64.wrap ((2:Int) * n)+(0:Int))/\IntKind.i64.wrap (IntKind.i64.wrap ((2:Int) * n)+(0:Int))<(↑g_s.length:Int)) /\
 (IntKind.i64.wrap (IntKind.i64.wrap ((2:Int) * n)+(0:Int))).toNat<g_s.length /\
 ∀ (x:Int),
 g_s[(IntKind.i64.wrap (IntKind.i64.wrap ((2:Int) * n)+(0:Int))).toNat]? = some x ->
 ((0:Int) <= IntKind.i64.wrap (IntKind.i64.wrap (IntKind.i64.wrap ((2:Int) * n)+(0:Int))+(1:Int)) /\
 IntKind.i64.wrap (IntKind.i64.wrap (IntKind.i64.wrap ((2:Int) * n)+(0:Int))+(1:Int))<(↑g_s.length:Int)) /\
 (IntKind.i64.wrap (IntKind.i64.wrap (IntKind.i64.wrap ((2:Int) * n)+(0:Int))+(1:Int))).toNat<g_s.length /\
 ∀ (x_1:Int),
 g_s[(IntKind.i64.wrap (IntKind.i64.wrap (IntKind.i64.wrap ((2:Int) * n)+(0:Int))+(1:Int))).toNat]? = some x_1 ->
 ((0:Int) <= x/\x <= x_1/\x_1 <= x_1/\x_1 <= (↑g_i.length:Int)) /\
 ∃ (g0:Nat),
 (g0 <= (z0m g_i g_s n (0:Nat)).length /\
 (True /\
 True /\
 (↑(List.drop x.toNat (List.take x_1.toNat g_i)).length:Int)=(↑(z0m g_i g_s n (0:Nat)).length:Int) /\
 (0:Int)=(↑g0:Int)/\True) /\
 (True/\True) /\
 []=List.take g0 (z0m g_i g_s n (0:Nat)) /\
 List.drop x.toNat (List.take x_1.toNat g_i)=z0m g_i g_s n (0:Nat) /\
 R=R /\
 ((0:Int)=(0:Int)/\True) /\
 (n=n/\True) /\
 ((0:Nat)=(0:Nat)/\True)/\z9h Int/\(g_n=g_n/\True/\True/\True/\True)/\g_l=g_l/\g_i=g_i/\g_s=g_s/\True) /\
 ∀ (g:Nat),
 g <= (z0m g_i g_s n (0:Nat)).length ->
 (decide ((↑g:Int)<(↑(z0m g_i g_s n (0:Nat)).length:Int))=true ->
 ((0:Int) <= (↑g:Int)/\(↑g:Int)<(↑(z0m g_i g_s n (0:Nat)).length:Int)) /\
 (↑g:Int).toNat<(z0m g_i g_s n (0:Nat)).length /\
 ∀ (x:Int),
 (z0m g_i g_s n (0:Nat))[(↑g:Int).toNat]? = some x ->
 R=R /\
 (List.take g (z0m g_i g_s n (0:Nat))).length+(1:Nat) <= (1000000000:Nat) /\
 ∃ (g':Nat),
 g' <= (z0m g_i g_s n (0:Nat)).length /\
 (z0m g_i g_s n (0:Nat)).length - g'<(z0m g_i g_s n (0:Nat)).length - g /\
 (True /\
 True /\
 (↑(z0m g_i g_s n (0:Nat)).length:Int)=(↑(z0m g_i g_s n (0:Nat)).length:Int) /\
 IntKind.i64.wrap ((↑g:Int)+(1:Int))=(↑g':Int)/\True) /\
 (True/\True) /\
 List.take g (z0m g_i g_s n (0:Nat)) ++ [x]=List.take g' (z0m g_i g_s n (0:Nat)) /\
 z0m g_i g_s n (0:Nat)=z0m g_i g_s n (0:Nat) /\
 R=R /\
 ((0:Int)=(0:Int)/\True) /\
 (n=n/\True) /\
 ((0:Nat)=(0:Nat)/\True) /\
 z9h Int/\(g_n=g_n/\True/\True/\True/\True)/\g_l=g_l/\g_i=g_i/\g_s=g_s/\True) /\
 (decide ((↑g:Int)<(↑(z0m g_i g_s n (0:Nat)).length:Int))=false ->
 (True/\True)/\List.take g (z0m g_i g_s n (0:Nat))=z0m g_i g_s n (0:Nat)/\True))
theorem out20_q (g_n:Int) (g_l:List Arc) (g_i:List Int) (g_s:List Int) (n:Int) (ty1 ty2 ty3:TypeId):out20_E0 g_n g_l g_i g_s n ty1 ty2 ty3=z23 TT out20_g (out20_I g_n g_l g_i g_s n) (out20_an g_n g_l g_i g_s n) Tryz.f99 [.ptr 0 0 0 0,.int .i64 n] [(0,.box false 137 [.int .i64 g_n,.row 1,.row 2,.row 3]),(1,.row false ty1 (.arcs g_l)),(2,.row false ty2 (.ints .i64 g_i)),(3,.row false ty3 (.ints .i64 g_s))] (out20_r g_n g_l g_i g_s n):=by kernel_rfl
theorem out20_E (g_n:Int) (g_l:List Arc) (g_i:List Int) (g_s:List Int) (n:Int) (ty1 ty2 ty3:TypeId) (hp:PieceOk g_n g_i g_s n 0):FVc TT out20_g (out20_I g_n g_l g_i g_s n) (out20_an g_n g_l g_i g_s n) Tryz.f99 [.ptr 0 0 0 0,.int .i64 n] [(0,.box false 137 [.int .i64 g_n,.row 1,.row 2,.row 3]),(1,.row false ty1 (.arcs g_l)),(2,.row false ty2 (.ints .i64 g_i)),(3,.row false ty3 (.ints .i64 g_s))] (out20_r g_n g_l g_i g_s n):=by
 refine FVc.of (out20_E0 g_n g_l g_i g_s n ty1 ty2 ty3) (out20_q g_n g_l g_i g_s n ty1 ty2 ty3) ?_
 unfold out20_E0
 simp only [eq_self,exists_const,forall_const,ne_eq,Int.toNat_natCast,zSS,z08]
 obtain ⟨n0,n1,gn1,il,sl,a,b,c⟩:=hp
 have e1:IntKind.i64.wrap (IntKind.i64.wrap (2 * n)+0)=((2 * n.toNat+0:Nat):Int):=by rw [w64 (x:=2 * n) (by omega) (by omega),w64 (by omega) (by omega)]; omega
 have e2:IntKind.i64.wrap (((2 * n.toNat+0:Nat):Int)+1)=((2 * n.toNat+0+1:Nat):Int):=by rw [w64 (by omega) (by omega)]; omega
 simp only [e1,e2,Int.toNat_natCast]
 refine ⟨fun h=>?_,fun _=>⟨by omega,by omega,fun x hx=>⟨by omega,by omega,fun y hy=>?_⟩⟩⟩
 ·simp [n0,n1] at h
 have ex:g_s.getD (2 * n.toNat+0) 0=x:=by rw [List.getD_eq_getElem?_getD,hx]; rfl
 have ey:g_s.getD (2 * n.toNat+0+1) 0=y:=by rw [List.getD_eq_getElem?_getD,hy]; rfl
 have hP:z0m g_i g_s n 0=(g_i.take y.toNat).drop x.toNat:=by unfold z0m; rw [ex,ey]
 have hl:(z0m g_i g_s n 0).length <= g_i.length:=by rw [hP,List.length_drop,List.length_take]; omega
 rw [ex] at a b
 rw [ey] at b c
 rw [<- hP]
 generalize z0m g_i g_s n 0=P at *
 refine ⟨by omega,0,⟨Nat.zero_le _,⟨rfl,rfl⟩,rfl,rfl⟩,fun k hk=>⟨fun h=>⟨by omega,by omega,fun z hz=>⟨by rw [List.length_take]; omega,k+1,by omega,by omega,by rw [w64 (by omega) (by omega)]; omega,(z1k hz).symm⟩⟩,fun h=>List.take_of_length_le (by omega)⟩⟩
theorem out20_i0_ok (g_n:Int) (g_l:List Arc) (g_i:List Int) (g_s:List Int) (n:Int):zbe Tryz.prog 160 (out20_i0 g_n g_l g_i g_s n) :=
 inlI_ok z0i (show z15 Tryz.prog out20_i0g from z00 has_ok (z03)) (by kernel_rfl) mixedOrders Tryz.func160 rfl rfl (fun key spec=>by kernel_rfl) _
theorem out20_ok:SpecOk Tryz.prog out20_n true (z02 true out20_fs) :=
 z09 z0i (show z15 Tryz.prog out20_g from z00 piece20_ok (z03)) (by kernel_rfl) mixedOrders Tryz.func99 rfl rfl (by kernel_rfl) (n:=2) (by decide +kernel) (I:=out20_IA) (fun args h=>by
   unfold out20_IA
   split
   ·exact zd0 (out20_i0_ok _ _ _ _ _) (z07)
   ·exact z07) (A:=out20_A)
  (fun args h r hr=>by
   unfold out20_fs at hr
   split at hr
   ·rename_i n g_n ty1 g_l ty2 g_i ty3 g_s; cases hr; refine ⟨rfl,fun hp=>?_⟩; have hE:=out20_E g_n g_l g_i g_s n ty1 ty2 ty3 hp; exact hE
   ·cases hr)
def in20_E0 (g_n : Int) (g_l : List Arc) (g_i : List Int) (g_s : List Int) (n : Int) (ty1 ty2 ty3 : TypeId) : Prop :=
      ∀ (R:Loop->Prop),
 True /\
 ((!(decide ((0:Int) <= n) && decide (n<g_n)))=true->(True/\True)/\[]=z0m g_i g_s n (1:Nat)/\True) /\
 ((!(decide ((0:Int) <= n) && decide (n<g_n)))=false ->
 ((0:Int) <= IntKind.i64.wrap (IntKind.i64.wrap ((2:Int) * n)+(1:Int))/\IntKind.i64.wrap (IntKind.i64.wrap ((2:Int) * n)+(1:Int))<(↑g_s.length:Int)) /\
 (IntKind.i64.wrap (IntKind.i64.wrap ((2:Int) * n)+(1:Int))).toNat<g_s.length /\
 ∀ (x:Int),
 g_s[(IntKind.i64.wrap (IntKind.i64.wrap ((2:Int) * n)+(1:Int))).toNat]? = some x ->
 ((0:Int) <= IntKind.i64.wrap (IntKind.i64.wrap (IntKind.i64.wrap ((2:Int) * n)+(1:Int))+(1:Int)) /\
 IntKind.i64.wrap (IntKind.i64.wrap (IntKind.i64.wrap ((2:Int) * n)+(1:Int))+(1:Int))<(↑g_s.length:Int)) /\
 (IntKind.i64.wrap (IntKind.i64.wrap (IntKind.i64.wrap ((2:Int) * n)+(1:Int))+(1:Int))).toNat<g_s.length /\
 ∀ (x_1:Int),
 g_s[(IntKind.i64.wrap (IntKind.i64.wrap (IntKind.i64.wrap ((2:Int) * n)+(1:Int))+(1:Int))).toNat]? = some x_1 ->
 ((0:Int) <= x/\x <= x_1/\x_1 <= x_1/\x_1 <= (↑g_i.length:Int)) /\
 ∃ (g0:Nat),
 (g0 <= (z0m g_i g_s n (1:Nat)).length /\
 (True /\
 True /\
 (↑(List.drop x.toNat (List.take x_1.toNat g_i)).length:Int)=(↑(z0m g_i g_s n (1:Nat)).length:Int) /\
 (0:Int)=(↑g0:Int)/\True) /\
 (True/\True) /\
 []=List.take g0 (z0m g_i g_s n (1:Nat)) /\
 List.drop x.toNat (List.take x_1.toNat g_i)=z0m g_i g_s n (1:Nat) /\
 R=R /\
 ((1:Int)=(1:Int)/\True) /\
 (n=n/\True) /\
 ((0:Nat)=(0:Nat)/\True)/\z9h Int/\(g_n=g_n/\True/\True/\True/\True)/\g_l=g_l/\g_i=g_i/\g_s=g_s/\True) /\
 ∀ (g:Nat),
 g <= (z0m g_i g_s n (1:Nat)).length ->
 (decide ((↑g:Int)<(↑(z0m g_i g_s n (1:Nat)).length:Int))=true ->
 ((0:Int) <= (↑g:Int)/\(↑g:Int)<(↑(z0m g_i g_s n (1:Nat)).length:Int)) /\
 (↑g:Int).toNat<(z0m g_i g_s n (1:Nat)).length /\
 ∀ (x:Int),
 (z0m g_i g_s n (1:Nat))[(↑g:Int).toNat]? = some x ->
 R=R /\
 (List.take g (z0m g_i g_s n (1:Nat))).length+(1:Nat) <= (1000000000:Nat) /\
 ∃ (g':Nat),
 g' <= (z0m g_i g_s n (1:Nat)).length /\
 (z0m g_i g_s n (1:Nat)).length - g'<(z0m g_i g_s n (1:Nat)).length - g /\
 (True /\
 True /\
 (↑(z0m g_i g_s n (1:Nat)).length:Int)=(↑(z0m g_i g_s n (1:Nat)).length:Int) /\
 IntKind.i64.wrap ((↑g:Int)+(1:Int))=(↑g':Int)/\True) /\
 (True/\True) /\
 List.take g (z0m g_i g_s n (1:Nat)) ++ [x]=List.take g' (z0m g_i g_s n (1:Nat)) /\
 z0m g_i g_s n (1:Nat)=z0m g_i g_s n (1:Nat) /\
 R=R /\
 ((1:Int)=(1:Int)/\True) /\
 (n=n/\True) /\
 ((0:Nat)=(0:Nat)/\True) /\
 z9h Int/\(g_n=g_n/\True/\True/\True/\True)/\g_l=g_l/\g_i=g_i/\g_s=g_s/\True) /\
 (decide ((↑g:Int)<(↑(z0m g_i g_s n (1:Nat)).length:Int))=false ->
 (True/\True)/\List.take g (z0m g_i g_s n (1:Nat))=z0m g_i g_s n (1:Nat)/\True))
theorem in20_q (g_n:Int) (g_l:List Arc) (g_i:List Int) (g_s:List Int) (n:Int) (ty1 ty2 ty3:TypeId):in20_E0 g_n g_l g_i g_s n ty1 ty2 ty3=z23 TT in20_g (in20_I g_n g_l g_i g_s n) (in20_an g_n g_l g_i g_s n) Tryz.f100 [.ptr 0 0 0 0,.int .i64 n] [(0,.box false 137 [.int .i64 g_n,.row 1,.row 2,.row 3]),(1,.row false ty1 (.arcs g_l)),(2,.row false ty2 (.ints .i64 g_i)),(3,.row false ty3 (.ints .i64 g_s))] (in20_r g_n g_l g_i g_s n):=by kernel_rfl
theorem in20_E (g_n:Int) (g_l:List Arc) (g_i:List Int) (g_s:List Int) (n:Int) (ty1 ty2 ty3:TypeId) (hp:PieceOk g_n g_i g_s n 1):FVc TT in20_g (in20_I g_n g_l g_i g_s n) (in20_an g_n g_l g_i g_s n) Tryz.f100 [.ptr 0 0 0 0,.int .i64 n] [(0,.box false 137 [.int .i64 g_n,.row 1,.row 2,.row 3]),(1,.row false ty1 (.arcs g_l)),(2,.row false ty2 (.ints .i64 g_i)),(3,.row false ty3 (.ints .i64 g_s))] (in20_r g_n g_l g_i g_s n):=by
 refine FVc.of (in20_E0 g_n g_l g_i g_s n ty1 ty2 ty3) (in20_q g_n g_l g_i g_s n ty1 ty2 ty3) ?_
 unfold in20_E0
 simp only [eq_self,exists_const,forall_const,ne_eq,Int.toNat_natCast,zSS,z08]
 obtain ⟨n0,n1,gn1,il,sl,a,b,c⟩:=hp
 have e1:IntKind.i64.wrap (IntKind.i64.wrap (2 * n)+1)=((2 * n.toNat+1:Nat):Int):=by rw [w64 (x:=2 * n) (by omega) (by omega),w64 (by omega) (by omega)]; omega
 have e2:IntKind.i64.wrap (((2 * n.toNat+1:Nat):Int)+1)=((2 * n.toNat+1+1:Nat):Int):=by rw [w64 (by omega) (by omega)]; omega
 simp only [e1,e2,Int.toNat_natCast]
 refine ⟨fun h=>?_,fun _=>⟨by omega,by omega,fun x hx=>⟨by omega,by omega,fun y hy=>?_⟩⟩⟩
 ·simp [n0,n1] at h
 have ex:g_s.getD (2 * n.toNat+1) 0=x:=by rw [List.getD_eq_getElem?_getD,hx]; rfl
 have ey:g_s.getD (2 * n.toNat+1+1) 0=y:=by rw [List.getD_eq_getElem?_getD,hy]; rfl
 have hP:z0m g_i g_s n 1=(g_i.take y.toNat).drop x.toNat:=by unfold z0m; rw [ex,ey]
 have hl:(z0m g_i g_s n 1).length <= g_i.length:=by rw [hP,List.length_drop,List.length_take]; omega
 rw [ex] at a b
 rw [ey] at b c
 rw [<- hP]
 generalize z0m g_i g_s n 1=P at *
 refine ⟨by omega,0,⟨Nat.zero_le _,⟨rfl,rfl⟩,rfl,rfl⟩,fun k hk=>⟨fun h=>⟨by omega,by omega,fun z hz=>⟨by rw [List.length_take]; omega,k+1,by omega,by omega,by rw [w64 (by omega) (by omega)]; omega,(z1k hz).symm⟩⟩,fun h=>List.take_of_length_le (by omega)⟩⟩
theorem in20_i0_ok (g_n:Int) (g_l:List Arc) (g_i:List Int) (g_s:List Int) (n:Int):zbe Tryz.prog 160 (in20_i0 g_n g_l g_i g_s n) :=
 inlI_ok z0i (show z15 Tryz.prog in20_i0g from z00 has_ok (z03)) (by kernel_rfl) mixedOrders Tryz.func160 rfl rfl (fun key spec=>by kernel_rfl) _
theorem in20_ok:SpecOk Tryz.prog in20_n true (z02 true in20_fs) :=
 z09 z0i (show z15 Tryz.prog in20_g from z00 piece20_ok (z03)) (by kernel_rfl) mixedOrders Tryz.func100 rfl rfl (by kernel_rfl) (n:=2) (by decide +kernel) (I:=in20_IA) (fun args h=>by
   unfold in20_IA
   split
   ·exact zd0 (in20_i0_ok _ _ _ _ _) (z07)
   ·exact z07) (A:=in20_A)
  (fun args h r hr=>by
   unfold in20_fs at hr
   split at hr
   ·rename_i n g_n ty1 g_l ty2 g_i ty3 g_s; cases hr; refine ⟨rfl,fun hp=>?_⟩; have hE:=in20_E g_n g_l g_i g_s n ty1 ty2 ty3 hp; exact hE
   ·cases hr)
end Go.Proofs.YtggblkbecekbdaaGreat
end
section
namespace Go.Ql
open Go Go.Vc
structure LowI (I:Inst) (a:Nat) (x o:List Int):Prop where
 over:OverOf I x o
 at_:∀ c,c<I.arcs.length->x.getD c 0=if c<a then (z37 I c).low else 0
 bd:∀ v,v<I.sup.length->-(4398046511104 * (2 * (a:Int)+1)) <= o.getD v 0/\o.getD v 0 <= 4398046511104 * (2 * (a:Int)+1)
 pos:z4n o I.sup.length <= 4398046511104 * ((I.sup.length:Int)+a)
structure BuildP (I:Inst) (x o:List Int) (t:Rows3):Prop where
 low:LowI I I.arcs.length x o
 at_:AtOk I t
theorem netK_zero (n:Nat) (l:List Arc) {x:List Int} (h:∀ c,x.getD c 0=0) (v:Nat):∀ k,z3b n l x k v=0
 | 0=>rfl
 | k+1=>by
  rw [z3b,netK_zero n l h v k]
  unfold z51
  rw [h]
  simp
def z5a (I:Inst) (n:Nat):List Nat:=segA I I.arcs.length (2 * n)
def z7e (I:Inst) (n:Nat):List Nat:=segA I I.arcs.length (2 * n+1)
def fwd (l:List Nat):List Stp:=l.map fun a=>(a,false)
def bwd (l:List Nat):List Stp:=l.map fun a=>(a,true)
def stpsF (I:Inst) (n:Nat):List Stp:=fwd (z5a I n) ++ bwd (z7e I n)
def z1s (I:Inst) (n:Nat) (q:List Stp):List (List (List Int)):=(List.range I.sup.length).map fun u=>(if u<n then stpsF I u else if u=n then q else []).map z63
theorem z6s (I:Inst) (n:Nat) (q:List Stp):(z1s I n q).length=I.sup.length:=by simp [z1s]
theorem z6r {I:Inst} {n:Nat} {q:List Stp} {u:Nat} (h:u<I.sup.length):(z1s I n q)[u]? = some ((if u<n then stpsF I u else if u=n then q else []).map z63):=by
 unfold z1s; rw [List.getElem?_map,List.getElem?_range h]; rfl
theorem stpsK_zero (I:Inst):List.replicate I.sup.length []=z1s I 0 []:=by
 refine List.ext_getElem? fun t=>?_
 by_cases h:t<I.sup.length
 ·rw [z6r h,List.getElem?_replicate,if_pos h,if_neg (Nat.not_lt_zero _)]
  split <;> rfl
 ·rw [List.getElem?_eq_none (by simp; omega),List.getElem?_eq_none (by rw [z6s]; omega)]
theorem stpsK_set {I:Inst} {n:Nat} {q:List Stp} (s:Stp) {r:List (List Int)} (hr:(z1s I n q)[n]? = some r):(z1s I n q).set n (r ++ [z63 s])=z1s I n (q ++ [s]):=by
 have hn:n<I.sup.length:=by have:=(List.getElem?_eq_some_iff.1 hr).1; rwa [z6s] at this
 rw [z6r hn,if_neg (Nat.lt_irrefl _),if_pos rfl] at hr
 cases hr
 refine List.ext_getElem? fun t=>?_
 rw [List.getElem?_set,z6s]
 by_cases h:t<I.sup.length
 ·by_cases e:n=t
  ·subst e
   rw [if_pos rfl,if_pos hn,z6r h,if_neg (Nat.lt_irrefl _),if_pos rfl,List.map_append]; rfl
  ·rw [if_neg e,z6r h,z6r h]
   by_cases h2:t<n
   ·rw [if_pos h2,if_pos h2]
   ·rw [if_neg h2,if_neg h2,if_neg (fun x=>e x.symm),if_neg (fun x=>e x.symm)]
 ·rw [if_neg (by omega),List.getElem?_eq_none (by rw [z6s]; omega),List.getElem?_eq_none (by rw [z6s]; omega)]
theorem stpsK_next (I:Inst) (n:Nat):z1s I n (stpsF I n)=z1s I (n+1) []:=by
 unfold z1s
 refine List.map_congr_left fun u _=>?_
 by_cases h:u<n
 ·rw [if_pos h,if_pos (by omega)]
 ·rw [if_neg h]
  by_cases e:u=n
  ·subst e; rw [if_pos rfl,if_pos (Nat.lt_succ_self _)]
  ·rw [if_neg e,if_neg (by omega)]
   split <;> rfl
theorem fm_len {F:Nat->List Int} {S:Nat->Nat} (h0:S 0=0) (hS:∀ k,S (k+1)=S k+(F k).length):∀ n,((List.range n).flatMap F).length=S n
 | 0=>by simp [h0]
 | n+1=>by rw [List.range_succ,List.flatMap_append,List.length_append,fm_len h0 hS n,hS]; simp
theorem fm_piece {F:Nat->List Int} {S:Nat->Nat} (h0:S 0=0) (hS:∀ k,S (k+1)=S k+(F k).length) {j:Nat}:∀ n,j<n->(((List.range n).flatMap F).take (S (j+1))).drop (S j)=F j
 | 0,h=>by omega
 | n+1,h=>by
  have hl:=fm_len h0 hS n
  rw [List.range_succ,List.flatMap_append]
  by_cases e:j=n
  ·subst e
   rw [List.take_of_length_le (by rw [List.length_append,hl,hS]; simp),<- hl,List.drop_append]
   simp
  ·have hm:∀ d k,S k <= S (k+d):=fun d k=>by
    induction d with
    | zero=>exact Nat.le_refl _
    | succ d ih=>rw [<- Nat.add_assoc,hS]; omega
   have:=hm (n - (j+1)) (j+1)
   rw [show j+1+(n - (j+1))=n by omega] at this
   rw [List.take_append_of_le_length (by omega)]
   exact fm_piece h0 hS n (by omega)
theorem z5d {I:Inst} {j:Nat} (h:j <= 2 * I.sup.length):(z11 I).getD j 0=(z8t I j:Int):=by
 unfold z11
 rw [List.getD_eq_getElem?_getD,List.getElem?_map,List.getElem?_range (by omega)]; rfl
theorem piece_is {I:Inst} {n w:Nat} (hn:n<I.sup.length) (hw:w <= 1):z0m (z2j I) (z11 I) (n:Int) w=z3y (segA I I.arcs.length (2 * n+w)):=by
 unfold z0m
 rw [Int.toNat_natCast,z5d (by omega),z5d (by omega),Int.toNat_natCast,Int.toNat_natCast]
 unfold z2j z3y
 exact fm_piece (S:=z8t I) rfl (fun k=>by rw [z8t,List.length_map]; rfl) _ (by omega)
theorem sumA_len (I:Inst):(z2j I).length=z8t I (2 * I.sup.length):=by
 unfold z2j
 exact fm_len (S:=z8t I) rfl (fun k=>by rw [z8t,List.length_map]; rfl) _
theorem piece_ok {I:Inst} (hr:z04 I=0) {n w:Nat} (hn:n<I.sup.length) (hw:w <= 1):PieceOk I.sup.length (z2j I) (z11 I) (n:Int) w:=by
 have hs:=z0h hr
 have h1:=z9z I (2 * n+w) 1
 have h2:=z9z I (2 * n+w+1) (2 * I.sup.length - (2 * n+w+1))
 rw [show 2 * n+w+1+(2 * I.sup.length - (2 * n+w+1))=2 * I.sup.length by omega] at h2
 have h3:=sumA_le I (2 * I.sup.length)
 have h4:2 * I.sup.length * I.arcs.length <= 128 * 256:=Nat.mul_le_mul (by omega) (by omega)
 have h5:=sumA_len I
 refine ⟨by omega,by omega,by omega,by omega,by simp [z11]; omega,?_,?_,?_⟩
 ·rw [Int.toNat_natCast,z5d (by omega)]; omega
 ·rw [Int.toNat_natCast,z5d (by omega),z5d (by omega)]; omega
 ·rw [Int.toNat_natCast,z5d (by omega)]; omega
theorem segA_mem {I:Inst} (hr:z04 I=0) {n a:Nat}:(a ∈ z5a I n ↔ a<I.arcs.length/\(z37 I a).src=n)/\(a ∈ z7e I n ↔ a<I.arcs.length/\(z37 I a).dst=n):=by
 have ok:∀ a,a<I.arcs.length->z34 I.sup.length (z37 I a)=true:=fun a ha=>by
  have:=z1n hr ha
  have q1:=this.s0; have q2:=this.s1; have q3:=this.d0; have q4:=this.d1
  exact okArc_iff.2 ⟨q1,by omega,q3,by omega⟩
 have e:∀ j,inK I j a=(z34 I.sup.length (z37 I a) && hasK (z37 I a) j):=fun _=>rfl
 unfold z5a z7e segA
 rw [List.mem_filter,List.mem_filter,List.mem_range,e,e]
 refine ⟨⟨fun h=>⟨h.1,?_⟩,fun h=>⟨h.1,?_⟩⟩,⟨fun h=>⟨h.1,?_⟩,fun h=>⟨h.1,?_⟩⟩⟩
 ·have h2:=h.2
  rw [ok a h.1,Bool.true_and,hasK_iff] at h2
  omega
 ·rw [ok a h.1,Bool.true_and,hasK_iff]; left; omega
 ·have h2:=h.2
  rw [ok a h.1,Bool.true_and,hasK_iff] at h2
  omega
 ·rw [ok a h.1,Bool.true_and,hasK_iff]; right; omega
theorem steps_ok {I:Inst} (hr:z04 I=0):AtOk I (z1s I I.sup.length []):=by
 have hs:=z0h hr
 refine ⟨z6s _ _ _,fun u hu=>⟨stpsF I u,by rw [z6r hu,if_pos hu],?_,fun s=>?_⟩⟩
 ·have h1:=z94 I (2 * u) I.arcs.length
  have h2:=z94 I (2 * u+1) I.arcs.length
  unfold z6x at h1 h2
  unfold stpsF fwd bwd z5a z7e
  rw [List.length_append,List.length_map,List.length_map]
  omega
 ·obtain ⟨a,k⟩:=s
  have hm:=@segA_mem I hr u a
  unfold stpsF fwd bwd okS frS
  rw [List.mem_append,List.mem_map,List.mem_map]
  dsimp only
  constructor
  ·rintro (⟨b,hb,he⟩ | ⟨b,hb,he⟩)
   ·cases he
    obtain ⟨q1,q2⟩:=hm.1.1 hb
    exact ⟨q1,by rw [if_neg (by simp)]; omega⟩
   ·cases he
    obtain ⟨q1,q2⟩:=hm.2.1 hb
    exact ⟨q1,by rw [if_pos rfl]; omega⟩
  ·rintro ⟨h1,h2⟩
   have ha:=z1n hr h1
   have:=ha.s0; have:=ha.d0
   cases k with
   | false =>
    rw [if_neg (by simp)] at h2
    exact .inl ⟨a,hm.1.2 ⟨h1,by omega⟩,rfl⟩
   | true =>
    rw [if_pos rfl] at h2
    exact .inr ⟨a,hm.2.2 ⟨h1,by omega⟩,rfl⟩
theorem LowI.begin {I:Inst} (hr:z04 I=0):LowI I 0 (List.replicate I.arcs.length 0) I.sup:=by
 have hz:∀ c,(List.replicate I.arcs.length (0:Int)).getD c 0=0:=fun c=>by
  rw [List.getD_eq_getElem?_getD,List.getElem?_replicate]; split <;> rfl
 refine ⟨⟨rfl,by simp,fun v hv=>by rw [netK_zero _ _ hz]; omega⟩,fun c _=>by rw [hz,if_neg (Nat.not_lt_zero _)],fun v hv=>?_,?_⟩
 ·have hm:I.sup.getD v 0 ∈ I.sup:=by rw [List.getD_eq_getElem?_getD,List.getElem?_eq_getElem hv]; exact List.getElem_mem hv
  have:=(z2f hr).1 _ hm
  omega
 ·have:∀ k,k <= I.sup.length->z4n I.sup k <= 4398046511104 * (k:Int):=fun k=>by
   induction k with
   | zero=>intro _; simp [z4n]
   | succ k ih =>
    intro hk
    have h1:=ih (by omega)
    have hm:I.sup.getD k 0 ∈ I.sup:=by rw [List.getD_eq_getElem?_getD,List.getElem?_eq_getElem hk]; exact List.getElem_mem hk
    have h2:=(z2f hr).1 _ hm
    rw [z4n]
    have e:((k+1:Nat):Int)=k+1:=by omega
    rw [e]
    omega
  have:=this _ (Nat.le_refl _)
  have e:((0:Nat):Int)=0:=rfl
  rw [e]
  omega
theorem LowI.next {I:Inst} (hr:z04 I=0) {a:Nat} {x o:List Int} (h:LowI I a x o) (ha:a<I.arcs.length):LowI I (a+1) (z4u x (a,false) (z37 I a).low) (z6v I o (a,false) (z37 I a).low):=by
 have hk:=z1n hr ha
 have hl0:=hk.l0; have hl1:=hk.l1
 refine ⟨h.over.push hr (s:=(a,false)) ha _,fun c hc=>?_,fun v hv=>?_,?_⟩
 ·rw [z8e (by rw [h.over.lx]; exact ha),h.at_ c hc]
  by_cases e:c=a
  ·subst e; rw [if_neg (Nat.lt_irrefl _),if_pos rfl,if_pos (Nat.lt_succ_self _)]; simp
  ·rw [if_neg (show ¬ c=((a,false):Stp).1 from e)]
   by_cases h2:c<a
   ·rw [if_pos h2,if_pos (by omega)]; omega
   ·rw [if_neg h2,if_neg (by omega)]; rfl
 ·have:=h.bd v hv
  rw [zda (by rw [h.over.lo]; exact hv)]
  have e:((a+1:Nat):Int)=a+1:=by omega
  rw [e]
  repeat' split <;> omega
 ·have:=posS_push hr h.over.lo (s:=(a,false)) ha hl0
  have:=h.pos
  have e:((a+1:Nat):Int)=a+1:=by omega
  rw [e]
  omega
theorem LowI.xb {I:Inst} (hr:z04 I=0) {a:Nat} {x o:List Int} (h:LowI I a x o) (ha:a <= I.arcs.length):XB x/\XB o:=by
 have hs:=z0h hr
 refine ⟨xb_of fun k hk=>?_,xb_of fun k hk=>?_⟩
 ·have hk2:k<I.arcs.length:=by rw [<- h.over.lx]; exact hk
  have:=z1n hr hk2
  have:=this.l0; have:=(z1n hr hk2).l1
  rw [h.at_ k hk2]
  split <;> omega
 ·have:=h.bd k (by rw [<- h.over.lo]; exact hk)
  omega
end Go.Ql
end
section
namespace Go.Proofs.YtggblkbecekbdaaGreat
open Go Go.RowKit Go.Ql Go.Vc
def zk7 (I:Inst):FRel:={ pre:=z04 I=0,G:=(List Int) × (List Int) × (Rows3),post:=fun ⟨x,o,t⟩=>BuildP I x o t,out:=fun ⟨x,o,t⟩=>{ pre:=True,res:=.ptr 2 0 0 0,rows:=[.box 109 [.row 0,.row 1,.row 3,.row 4,.row 5],.row 2 (.ints .i64 x),.row 2 (.ints .i64 o),.deep 149 147 (.recs (.int .i64) [.bool] t)],eff:=[] } }
def zf8:FR:=fun args h=>match args,h with
 | [.agg [.row 0,.row 1]],[(0,.row false ty0 (.ints .i64 I_s)),(1,.row false ty1 (.arcs I_a))]=>some (zk7 ⟨I_s,I_a⟩)
 | _,_=>none
def zf7 (I:Inst):List (Nat × Ann):=[(1000002,{ G:=(List Value),inv:=fun vs=>⟨[(1,.ptr 2 0 0 0),(3,.ptr 12 0 0 0)],[(2,.box true 25 [.row 0,.row 1]),(12,.box true 109 [.row 0,.row 1,.row 3,.row 5,.row 6]),(0,.row false 0 (.ints .i64 I.sup)),(1,.row false 0 (.arcs I.arcs)),(3,.row true 2 (.ints .i64 (List.replicate I.arcs.length 0))),(5,.row true 2 (.ints .i64 I.sup)),(6,.deep true 149 147 (.recs (.int .i64) [.bool] (z1s I 0 [])) vs none)],13⟩,rel:=fun vs0 vs=>True,meas:=fun vs=>0 }),
 (3,{ G:=(Nat) × (List Int) × (List Int) × (List Value),inv:=fun ⟨a,x,o,vs⟩=>⟨[(1,.ptr 2 0 0 0),(3,.ptr 12 0 0 0),(27,.row 1),(28,.int .i64 (I.arcs.length:Int)),(29,.int .i64 a)],[(2,.box true 25 [.row 0,.row 1]),(12,.box true 109 [.row 0,.row 1,.row 3,.row 5,.row 6]),(0,.row false 0 (.ints .i64 I.sup)),(1,.row false 0 (.arcs I.arcs)),(3,.row true 2 (.ints .i64 x)),(5,.row true 2 (.ints .i64 o)),(6,.deep true 149 147 (.recs (.int .i64) [.bool] (z1s I 0 [])) vs none)],13⟩,rel:=fun ⟨a0,x0,o0,vs0⟩ ⟨a,x,o,vs⟩=>a <= I.arcs.length/\LowI I a x o,meas:=fun ⟨a,x,o,vs⟩=>I.arcs.length - a }),
 (9,{ G:=(Nat) × (List Int) × (List Int) × (List Value),inv:=fun ⟨n,x,o,vs⟩=>⟨[(3,.ptr 12 0 0 0),(6,.ptr 13 0 0 0),(45,.int .i64 (I.sup.length:Int)),(46,.int .i64 n)],[(13,.box true 137 [.int .i64 (↑I.sup.length:Int),.row 14,.row 15,.row 16]),(14,.row true 35 (.arcs I.arcs)),(15,.row true 3 (.ints .i64 (z2j I))),(16,.row true 3 (.ints .i64 (z11 I))),(12,.box true 109 [.row 0,.row 1,.row 3,.row 5,.row 6]),(0,.row false 0 (.ints .i64 I.sup)),(1,.row false 0 (.arcs I.arcs)),(3,.row true 2 (.ints .i64 x)),(5,.row true 2 (.ints .i64 o)),(6,.deep true 149 147 (.recs (.int .i64) [.bool] (z1s I n [])) vs none)],17⟩,rel:=fun ⟨n0,x0,o0,vs0⟩ ⟨n,x,o,vs⟩=>x=x0/\o=o0/\n <= I.sup.length,meas:=fun ⟨n,x,o,vs⟩=>I.sup.length - n }),
 (12,{ G:=(Nat) × (Nat) × (List Int) × (List Int) × (List Value),inv:=fun ⟨n,k,x,o,vs⟩=>⟨[(3,.ptr 12 0 0 0),(6,.ptr 13 0 0 0),(45,.int .i64 (I.sup.length:Int)),(46,.int .i64 n),(7,.int .i64 n),(51,.row 17),(52,.int .i64 ((z5a I n).length:Int)),(53,.int .i64 k)],[(17,.row true 3 (.ints .i64 (z3y (z5a I n)))),(13,.box true 137 [.int .i64 (↑I.sup.length:Int),.row 14,.row 15,.row 16]),(14,.row true 35 (.arcs I.arcs)),(15,.row true 3 (.ints .i64 (z2j I))),(16,.row true 3 (.ints .i64 (z11 I))),(12,.box true 109 [.row 0,.row 1,.row 3,.row 5,.row 6]),(0,.row false 0 (.ints .i64 I.sup)),(1,.row false 0 (.arcs I.arcs)),(3,.row true 2 (.ints .i64 x)),(5,.row true 2 (.ints .i64 o)),(6,.deep true 149 147 (.recs (.int .i64) [.bool] (z1s I n (fwd ((z5a I n).take k)))) vs none)],18⟩,rel:=fun ⟨n0,k0,x0,o0,vs0⟩ ⟨n,k,x,o,vs⟩=>x=x0/\o=o0/\n=n0/\k <= (z5a I n).length,meas:=fun ⟨n,k,x,o,vs⟩=>(z5a I n).length - k }),
 (17,{ G:=(Nat) × (Nat) × (List Int) × (List Int) × (List Value),inv:=fun ⟨n,k,x,o,vs⟩=>⟨[(3,.ptr 12 0 0 0),(6,.ptr 13 0 0 0),(45,.int .i64 (I.sup.length:Int)),(46,.int .i64 n),(7,.int .i64 n),(77,.row 18),(78,.int .i64 ((z7e I n).length:Int)),(79,.int .i64 k)],[(18,.row true 3 (.ints .i64 (z3y (z7e I n)))),(13,.box true 137 [.int .i64 (↑I.sup.length:Int),.row 14,.row 15,.row 16]),(14,.row true 35 (.arcs I.arcs)),(15,.row true 3 (.ints .i64 (z2j I))),(16,.row true 3 (.ints .i64 (z11 I))),(12,.box true 109 [.row 0,.row 1,.row 3,.row 5,.row 6]),(0,.row false 0 (.ints .i64 I.sup)),(1,.row false 0 (.arcs I.arcs)),(3,.row true 2 (.ints .i64 x)),(5,.row true 2 (.ints .i64 o)),(6,.deep true 149 147 (.recs (.int .i64) [.bool] (z1s I n (fwd (z5a I n) ++ bwd ((z7e I n).take k)))) vs none)],19⟩,rel:=fun ⟨n0,k0,x0,o0,vs0⟩ ⟨n,k,x,o,vs⟩=>x=x0/\o=o0/\n=n0/\k <= (z7e I n).length,meas:=fun ⟨n,k,x,o,vs⟩=>(z7e I n).length - k })]
def build20_A:List SV->z0d->List (Nat × Ann):=fun args h=>match args,h with
 | [.agg [.row 0,.row 1]],[(0,.row false ty0 (.ints .i64 I_s)),(1,.row false ty1 (.arcs I_a))]=>zf7 ⟨I_s,I_a⟩
 | _,_=>[]
def zk6:z0c:=[(zi3,(false,z02 false z9m)),(New_n,(true,z02 true New_fs)),(out20_n,(true,z02 true out20_fs)),(in20_n,(true,z02 true in20_fs))]
abbrev build20_n:Nat:=59
def build20_I (I:Inst):List (Nat × z0a):=[]
def build20_IA:List SV->z0d->List (Nat × z0a):=fun _ _=>[]
abbrev z2n:=Nat × Nat × List Int × List Int × List Value
abbrev z56:=Nat × List Int × List Int × List Value
abbrev z12 (I:Inst):=(∃ (g:List Value),True/\((0=0/\(0=0/\True))/\((True/\(True/\True))/\((True/\(True/\(True/\(True/\(True/\True)))))/\(I.sup=I.sup/\(I.arcs=I.arcs/\(List.replicate (↑I.arcs.length:Int).toNat (0:Int)=List.replicate I.arcs.length (0:Int)/\(I.sup=I.sup/\((List.replicate (↑I.sup.length:Int).toNat []=z1s I (0:Nat) []/\(List.replicate (↑I.sup.length:Int).toNat (Value.slice none (0:Nat) (0:Nat))=g/\((none:Option Nat)=none)))/\True)))))))))
abbrev z0r (I:Inst):=((↑I.arcs.length:Int)=↑I.arcs.length/\((0:Int) <= ↑I.arcs.length/\((↑I.arcs.length:Int) <= 1000000000)))
abbrev z0p (I:Inst):=((↑I.sup.length:Int)=↑I.sup.length/\((0:Int) <= ↑I.sup.length/\((↑I.sup.length:Int) <= 1000000000)))
abbrev zad (x_1:List (List Int)) (g_2:z2n) (I:Inst) (g0_2:z2n) (x:Int):=(x_1.length+(1:Nat) <= 1000000000/\(((0:Int) <= ↑g_2.1/\((↑g_2.1:Int)<↑(DK.recs (MK.int IntKind.i64) [MK.bool] (z1s I g_2.1 (fwd (z5a I g_2.1) ++ bwd (List.take g_2.2.1 (z7e I g_2.1))))).len))/\((↑g_2.1:Int).toNat=(↑g_2.1:Int).toNat/\((↑g_2.1:Int).toNat<(z1s I g_2.1 (fwd (z5a I g_2.1) ++ bwd (List.take g_2.2.1 (z7e I g_2.1)))).length/\(∀ (u:Value),∃ (g':z2n),(g'.2.2.fst=g0_2.2.2.fst/\(g'.2.2.2.fst=g0_2.2.2.2.fst/\(g'.fst=g0_2.fst/\(g'.2.fst <= (z7e I g'.fst).length))))/\((z7e I g'.fst).length - g'.2.fst<(z7e I g_2.fst).length - g_2.2.fst/\((0=0/\(0=0/\((↑I.sup.length:Int)=↑I.sup.length/\((↑g_2.1:Int)=↑g'.1/\((↑g_2.1:Int)=↑g'.1/\(True/\((↑(z7e I g_2.1).length:Int)=↑(z7e I g'.1).length/\(IntKind.i64.wrap ((↑g_2.2.1:Int)+(1:Int))=(↑g'.2.1:Int)/\True))))))))/\(z3y (z7e I g_2.1)=z3y (z7e I g'.1)/\(((↑I.sup.length:Int)=↑I.sup.length/\(True/\(True/\(True/\True))))/\(I.arcs=I.arcs/\(z2j I=z2j I/\(z11 I=z11 I/\((True/\(True/\(True/\(True/\(True/\True)))))/\(I.sup=I.sup/\(I.arcs=I.arcs/\(g_2.2.2.1=g'.2.2.1/\(g_2.2.2.2.1=g'.2.2.2.1/\(((z1s I g_2.1 (fwd (z5a I g_2.1) ++ bwd (List.take g_2.2.1 (z7e I g_2.1)))).set (↑g_2.1:Int).toNat (x_1 ++ [[x,bif true then (1:Int) else (0:Int)]])=z1s I g'.1 (fwd (z5a I g'.1) ++ bwd (List.take g'.2.1 (z7e I g'.1)))/\(g_2.2.2.2.2.set (↑g_2.1:Int).toNat u=g'.2.2.2.2/\((none:Option Nat)=none)))/\True))))))))))))))))))
abbrev zae (x_1:List (List Int)) (g_1:z2n) (I:Inst) (g0_1:z2n) (x:Int):=(x_1.length+(1:Nat) <= 1000000000/\(((0:Int) <= ↑g_1.1/\((↑g_1.1:Int)<↑(DK.recs (MK.int IntKind.i64) [MK.bool] (z1s I g_1.1 (fwd (List.take g_1.2.1 (z5a I g_1.1))))).len))/\((↑g_1.1:Int).toNat=(↑g_1.1:Int).toNat/\((↑g_1.1:Int).toNat<(z1s I g_1.1 (fwd (List.take g_1.2.1 (z5a I g_1.1)))).length/\(∀ (u:Value),∃ (g':z2n),(g'.2.2.fst=g0_1.2.2.fst/\(g'.2.2.2.fst=g0_1.2.2.2.fst/\(g'.fst=g0_1.fst/\(g'.2.fst <= (z5a I g'.fst).length))))/\((z5a I g'.fst).length - g'.2.fst<(z5a I g_1.fst).length - g_1.2.fst/\((0=0/\(0=0/\((↑I.sup.length:Int)=↑I.sup.length/\((↑g_1.1:Int)=↑g'.1/\((↑g_1.1:Int)=↑g'.1/\(True/\((↑(z5a I g_1.1).length:Int)=↑(z5a I g'.1).length/\(IntKind.i64.wrap ((↑g_1.2.1:Int)+(1:Int))=(↑g'.2.1:Int)/\True))))))))/\(z3y (z5a I g_1.1)=z3y (z5a I g'.1)/\(((↑I.sup.length:Int)=↑I.sup.length/\(True/\(True/\(True/\True))))/\(I.arcs=I.arcs/\(z2j I=z2j I/\(z11 I=z11 I/\((True/\(True/\(True/\(True/\(True/\True)))))/\(I.sup=I.sup/\(I.arcs=I.arcs/\(g_1.2.2.1=g'.2.2.1/\(g_1.2.2.2.1=g'.2.2.2.1/\(((z1s I g_1.1 (fwd (List.take g_1.2.1 (z5a I g_1.1)))).set (↑g_1.1:Int).toNat (x_1 ++ [[x,bif false then (1:Int) else (0:Int)]])=z1s I g'.1 (fwd (List.take g'.2.1 (z5a I g'.1)))/\(g_1.2.2.2.2.set (↑g_1.1:Int).toNat u=g'.2.2.2.2/\((none:Option Nat)=none)))/\True))))))))))))))))))
abbrev z2m (I:Inst):=(((z0r I)/\((z0p I)/\(z12 I)))/\((z0p I)/\((z0r I)/\(z12 I))))
abbrev z54 (I:Inst):=((0:Nat)+I.sup.length <= (1000000000:Nat)/\(z12 I))
abbrev z4i (I:Inst):=(((0:Nat)+I.sup.length <= (1000000000:Nat)/\((z0p I)/\(z12 I)))/\((z0p I)/\(z54 I)))
abbrev z55 (I:Inst):=(((z0r I)/\(z54 I))/\((0:Nat)+I.sup.length <= (1000000000:Nat)/\((z0r I)/\(z12 I))))
abbrev z38 (I:Inst):=(((z0p I)/\(z12 I))/\((z0p I)/\(z12 I)))
abbrev z2h (I:Inst):=(((z0r I)/\(z12 I))/\((z0r I)/\(z12 I)))
abbrev zbl (I:Inst):=(((z0r I)/\(((0:Nat)+I.sup.length <= (1000000000:Nat)/\((z0p I)/\(z12 I)))/\(z4i I)))/\((0:Nat)+I.sup.length <= (1000000000:Nat)/\(((z0r I)/\((z0p I)/\(z12 I)))/\(z2m I)))/\((z0r I)/\(z4i I))/\((0:Nat)+I.sup.length <= (1000000000:Nat)/\(z2m I))/\((z0p I)/\(z55 I)))
abbrev z6a (I:Inst):=(((z0r I)/\(z4i I))/\((0:Nat)+I.sup.length <= (1000000000:Nat)/\(z2m I))/\((z0p I)/\(z55 I)))
abbrev z4c (I:Inst):=((z2m I)/\((z0p I)/\((z0r I)/\(z12 I))))
abbrev z3e:=(True/\(True/\(True/\(True/\(True/\True)))))
abbrev z7y (I:Inst):=(((z0r I)/\((z54 I)/\(z54 I)))/\((0:Nat)+I.sup.length <= (1000000000:Nat)/\(z2h I)))
abbrev z7z (I:Inst):=(((0:Nat)+I.sup.length <= (1000000000:Nat)/\(z38 I))/\((z0p I)/\((z54 I)/\(z54 I))))
abbrev z80 (I:Inst):=((z55 I)/\((0:Nat)+I.sup.length <= (1000000000:Nat)/\((z0r I)/\(z12 I))))
abbrev z6b (I:Inst):=((↑I.sup.length:Int)=↑I.sup.length/\(True/\(True/\(True/\True))))
abbrev z6c (I:Inst):=(((z0r I)/\((z0p I)/\(z12 I)))/\(z2m I))
abbrev zbm (I:Inst):=((0:Nat)+I.sup.length <= (1000000000:Nat)/\(z2m I)/\((z0r I)/\(z38 I))/\((z0p I)/\(z2h I)))
def zf6 (I : Inst) (ty0 ty1 : TypeId) : Prop :=
   (((zbl I)/\((0:Nat)+I.sup.length <= (1000000000:Nat)/\(z6c I)/\(z4c I))/\(z6a I)/\((0:Nat)+I.sup.length <= (1000000000:Nat)/\(z4c I))/\((z0p I)/\(z80 I)))/\((zbl I)/\((z0r I)/\(((0:Nat)+I.sup.length <= (1000000000:Nat)/\((z0p I)/\(z12 I)))/\(z4i I))/\((0:Nat)+I.sup.length <= (1000000000:Nat)/\(((z0p I)/\(z12 I))/\(z38 I)))/\(z4i I)/\(z7z I))/\((0:Nat)+I.sup.length <= (1000000000:Nat)/\(z6c I)/\((z0r I)/\(((z0p I)/\(z12 I))/\(z38 I)))/\(z2m I)/\((z0r I)/\(z38 I))/\((z0p I)/\(z2h I)))/\(z6a I)/\((z0r I)/\(z4i I)/\(z7z I))/\(zbm I)/\(z0p I)/\(z55 I)/\(z7y I))/\((0:Nat)+I.sup.length <= (1000000000:Nat)/\((z6c I)/\(z4c I))/\((z6c I)/\((z0r I)/\(((z0p I)/\(z12 I))/\(z38 I)))/\(z2m I)/\((z0r I)/\(z38 I))/\((z0p I)/\(z2h I)))/\(z4c I)/\((z2m I)/\((z0r I)/\(z38 I))/\((z0p I)/\(z2h I)))/\((z0p I)/\(((z0r I)/\(z12 I))/\(z2h I))))/\((z6a I)/\((0:Nat)+I.sup.length <= (1000000000:Nat)/\(z4c I))/\((z0p I)/\(z80 I)))/\((z6a I)/\((z0r I)/\(z4i I)/\(z7z I))/\(zbm I)/\(z0p I)/\(z55 I)/\(z7y I))/\((0:Nat)+I.sup.length <= (1000000000:Nat)/\(z4c I)/\((z2m I)/\((z0r I)/\(z38 I))/\((z0p I)/\(z2h I)))/\((z0p I)/\(((z0r I)/\(z12 I))/\(z2h I))))/\(z0p I)/\(z80 I)/\((z55 I)/\(z7y I))/\((0:Nat)+I.sup.length <= (1000000000:Nat)/\(((z0r I)/\(z12 I))/\(z2h I))))/\∀ (g:List Value),True->∃ (g0:z56),((g0.fst <= I.arcs.length/\(LowI I g0.fst g0.2.fst g0.2.2.fst))/\((0=0/\(0=0/\(True/\((↑I.arcs.length:Int)=↑I.arcs.length/\((0:Int)=↑g0.1/\True)))))/\((True/\(True/\True))/\((z3e)/\(I.sup=I.sup/\(I.arcs=I.arcs/\(List.replicate I.arcs.length (0:Int)=g0.2.1/\(I.sup=g0.2.2.1/\((z1s I (0:Nat) []=z1s I (0:Nat) []/\(g=g0.2.2.2/\((none:Option Nat)=none)))/\True)))))))))/\∀ (g:z56),g.fst <= I.arcs.length/\LowI I g.fst g.2.fst g.2.2.fst->(decide ((↑g.1:Int)<↑I.arcs.length)=true->((0:Int) <= ↑g.1/\((↑g.1:Int)<↑I.arcs.length))/\((↑g.1:Int).toNat<I.arcs.length/\(∀ (x:Arc),I.arcs[(↑g.1:Int).toNat]? = some x->(z1l I (↑g.1:Int)/\(g.2.1.length=I.arcs.length/\(g.2.2.1.length=I.sup.length/\(XB g.2.1/\(XB g.2.2.1/\((-1152921504606846976:Int) <= x.low/\(x.low <= (1152921504606846976:Int))))))))/\(∃ (g':z56),(g'.fst <= I.arcs.length/\(LowI I g'.fst g'.2.fst g'.2.2.fst))/\(I.arcs.length - g'.fst<I.arcs.length - g.fst/\((0=0/\(0=0/\(True/\((↑I.arcs.length:Int)=↑I.arcs.length/\(IntKind.i64.wrap ((↑g.1:Int)+(1:Int))=(↑g'.1:Int)/\True)))))/\((True/\(True/\True))/\((z3e)/\(I.sup=I.sup/\(I.arcs=I.arcs/\(z4u g.2.1 ((↑g.1:Int).toNat,false) x.low=g'.2.1/\(z6v I g.2.2.1 ((↑g.1:Int).toNat,false) x.low=g'.2.2.1/\((z1s I (0:Nat) []=z1s I (0:Nat) []/\(g.2.2.2=g'.2.2.2/\((none:Option Nat)=none)))/\True)))))))))))))/\(decide ((↑g.1:Int)<↑I.arcs.length)=false->(I.sup.length <= (10000:Nat)/\(I.arcs.length <= (10000:Nat)))/\∃ (g0:z56),((g0.2.fst=g0.2.fst/\(g0.2.2.fst=g0.2.2.fst/\(g0.fst <= I.sup.length)))/\((0=0/\(0=0/\((↑I.sup.length:Int)=↑I.sup.length/\((0:Int)=↑g0.1/\True))))/\((z6b I)/\(I.arcs=I.arcs/\(z2j I=z2j I/\(z11 I=z11 I/\((z3e)/\(I.sup=I.sup/\(I.arcs=I.arcs/\(g.2.1=g0.2.1/\(g.2.2.1=g0.2.2.1/\((z1s I (0:Nat) []=z1s I g0.1 []/\(g.2.2.2=g0.2.2.2/\((none:Option Nat)=none)))/\True))))))))))))/\∀ (g:z56),g.2.fst=g0.2.fst/\g.2.2.fst=g0.2.2.fst/\g.fst <= I.sup.length->(decide ((↑g.1:Int)<↑I.sup.length)=true->PieceOk (↑I.sup.length:Int) (z2j I) (z11 I) (↑g.1:Int) (0:Nat)/\∃ (g0_1:z2n),((g0_1.2.2.fst=g0_1.2.2.fst/\(g0_1.2.2.2.fst=g0_1.2.2.2.fst/\(g0_1.fst=g0_1.fst/\(g0_1.2.fst <= (z5a I g0_1.fst).length))))/\((0=0/\(0=0/\((↑I.sup.length:Int)=↑I.sup.length/\((↑g.1:Int)=↑g0_1.1/\((↑g.1:Int)=↑g0_1.1/\(True/\((↑(z0m (z2j I) (z11 I) (↑g.1:Int) (0:Nat)).length:Int)=↑(z5a I g0_1.1).length/\((0:Int)=↑g0_1.2.1/\True))))))))/\(z0m (z2j I) (z11 I) (↑g.1:Int) (0:Nat)=z3y (z5a I g0_1.1)/\((z6b I)/\(I.arcs=I.arcs/\(z2j I=z2j I/\(z11 I=z11 I/\((z3e)/\(I.sup=I.sup/\(I.arcs=I.arcs/\(g.2.1=g0_1.2.2.1/\(g.2.2.1=g0_1.2.2.2.1/\((z1s I g.1 []=z1s I g0_1.1 (fwd (List.take g0_1.2.1 (z5a I g0_1.1)))/\(g.2.2.2=g0_1.2.2.2.2/\((none:Option Nat)=none)))/\True)))))))))))))/\∀ (g_1:z2n),g_1.2.2.fst=g0_1.2.2.fst/\g_1.2.2.2.fst=g0_1.2.2.2.fst/\g_1.fst=g0_1.fst/\g_1.2.fst <= (z5a I g_1.fst).length->(decide ((↑g_1.2.1:Int)<↑(z5a I g_1.1).length)=true->((0:Int) <= ↑g_1.2.1/\((↑g_1.2.1:Int)<↑(z3y (z5a I g_1.1)).length))/\(↑g_1.2.1:Int).toNat<(z3y (z5a I g_1.1)).length/\∀ (x:Int),(z3y (z5a I g_1.1))[(↑g_1.2.1:Int).toNat]? = some x->((0:Int) <= ↑g_1.1/\((↑g_1.1:Int)<↑(DK.recs (MK.int IntKind.i64) [MK.bool] (z1s I g_1.1 (fwd (List.take g_1.2.1 (z5a I g_1.1))))).len))/\(↑g_1.1:Int).toNat<(z1s I g_1.1 (fwd (List.take g_1.2.1 (z5a I g_1.1)))).length/\∀ (x_1:List (List Int)),(z1s I g_1.1 (fwd (List.take g_1.2.1 (z5a I g_1.1))))[(↑g_1.1:Int).toNat]? = some x_1->(zae x_1 g_1 I g0_1 x)/\(zae x_1 g_1 I g0_1 x)/\(zae x_1 g_1 I g0_1 x))/\(decide ((↑g_1.2.1:Int)<↑(z5a I g_1.1).length)=false->PieceOk (↑I.sup.length:Int) (z2j I) (z11 I) (↑g_1.1:Int) (1:Nat)/\∃ (g0_2:z2n),((g0_2.2.2.fst=g0_2.2.2.fst/\(g0_2.2.2.2.fst=g0_2.2.2.2.fst/\(g0_2.fst=g0_2.fst/\(g0_2.2.fst <= (z7e I g0_2.fst).length))))/\((0=0/\(0=0/\((↑I.sup.length:Int)=↑I.sup.length/\((↑g_1.1:Int)=↑g0_2.1/\((↑g_1.1:Int)=↑g0_2.1/\(True/\((↑(z0m (z2j I) (z11 I) (↑g_1.1:Int) (1:Nat)).length:Int)=↑(z7e I g0_2.1).length/\((0:Int)=↑g0_2.2.1/\True))))))))/\(z0m (z2j I) (z11 I) (↑g_1.1:Int) (1:Nat)=z3y (z7e I g0_2.1)/\((z6b I)/\(I.arcs=I.arcs/\(z2j I=z2j I/\(z11 I=z11 I/\((z3e)/\(I.sup=I.sup/\(I.arcs=I.arcs/\(g_1.2.2.1=g0_2.2.2.1/\(g_1.2.2.2.1=g0_2.2.2.2.1/\((z1s I g_1.1 (fwd (List.take g_1.2.1 (z5a I g_1.1)))=z1s I g0_2.1 (fwd (z5a I g0_2.1) ++ bwd (List.take g0_2.2.1 (z7e I g0_2.1)))/\(g_1.2.2.2.2=g0_2.2.2.2.2/\((none:Option Nat)=none)))/\True)))))))))))))/\∀ (g_2:z2n),g_2.2.2.fst=g0_2.2.2.fst/\g_2.2.2.2.fst=g0_2.2.2.2.fst/\g_2.fst=g0_2.fst/\g_2.2.fst <= (z7e I g_2.fst).length->(decide ((↑g_2.2.1:Int)<↑(z7e I g_2.1).length)=true->((0:Int) <= ↑g_2.2.1/\((↑g_2.2.1:Int)<↑(z3y (z7e I g_2.1)).length))/\(↑g_2.2.1:Int).toNat<(z3y (z7e I g_2.1)).length/\∀ (x:Int),(z3y (z7e I g_2.1))[(↑g_2.2.1:Int).toNat]? = some x->((0:Int) <= ↑g_2.1/\((↑g_2.1:Int)<↑(DK.recs (MK.int IntKind.i64) [MK.bool] (z1s I g_2.1 (fwd (z5a I g_2.1) ++ bwd (List.take g_2.2.1 (z7e I g_2.1))))).len))/\(↑g_2.1:Int).toNat<(z1s I g_2.1 (fwd (z5a I g_2.1) ++ bwd (List.take g_2.2.1 (z7e I g_2.1)))).length/\∀ (x_1:List (List Int)),(z1s I g_2.1 (fwd (z5a I g_2.1) ++ bwd (List.take g_2.2.1 (z7e I g_2.1))))[(↑g_2.1:Int).toNat]? = some x_1->(zad x_1 g_2 I g0_2 x)/\(zad x_1 g_2 I g0_2 x)/\(zad x_1 g_2 I g0_2 x))/\(decide ((↑g_2.2.1:Int)<↑(z7e I g_2.1).length)=false->∃ (g':z56),(g'.2.fst=g0.2.fst/\(g'.2.2.fst=g0.2.2.fst/\(g'.fst <= I.sup.length)))/\(I.sup.length - g'.fst<I.sup.length - g.fst/\((0=0/\(0=0/\((↑I.sup.length:Int)=↑I.sup.length/\(IntKind.i64.wrap ((↑g_2.1:Int)+(1:Int))=(↑g'.1:Int)/\True))))/\((z6b I)/\(I.arcs=I.arcs/\(z2j I=z2j I/\(z11 I=z11 I/\((z3e)/\(I.sup=I.sup/\(I.arcs=I.arcs/\(g_2.2.2.1=g'.2.1/\(g_2.2.2.2.1=g'.2.2.1/\((z1s I g_2.1 (fwd (z5a I g_2.1) ++ bwd (List.take g_2.2.1 (z7e I g_2.1)))=z1s I g'.1 []/\(g_2.2.2.2.2=g'.2.2.2/\((none:Option Nat)=none)))/\True)))))))))))))))/\(decide ((↑g.1:Int)<↑I.sup.length)=false->∃ (g_1:List Int × List Int × Rows3),BuildP I g_1.1 g_1.2.1 g_1.2.2/\(∃ (V:Nat->List Value),(0=0/\True)/\((z3e)/\(g.2.1=g_1.1/\(g.2.2.1=g_1.2.1/\((z1s I g.1 []=g_1.2.2/\(g.2.2.2=V ((0:Nat)+(1:Nat)+(1:Nat)+(1:Nat))/\((none:Option Nat)=none)))/\True)))))))
theorem build20_q (I:Inst) (ty0 ty1:TypeId):zf6 I ty0 ty1=zaz TT zk6 (build20_I I) (zf7 I) Tryz.f59 [.agg [.row 0,.row 1]] [(0,.row false ty0 (.ints .i64 I.sup)),(1,.row false ty1 (.arcs I.arcs))] (zk7 I):=by kernel_rfl
theorem build20_E (I:Inst) (ty0 ty1:TypeId) (hp:z04 I=0):FVcR TT zk6 (build20_I I) (zf7 I) Tryz.f59 [.agg [.row 0,.row 1]] [(0,.row false ty0 (.ints .i64 I.sup)),(1,.row false ty1 (.arcs I.arcs))] (zk7 I):=by
 refine FVcR.of (zf6 I ty0 ty1) (build20_q I ty0 ty1) ?_
 unfold zf6
 delta zbm z6c z6b z80 z7z z7y z3e z4c z6a zbl z2h z38 z55 z4i z54 z2m zae zad z0p z0r z12 z2n z56
 simp only [eq_self,exists_const,forall_const,ne_eq,Int.toNat_natCast,zSS,z08]
 have hs64:=z0h hp
 have f1:((0:Int) <= (I.arcs.length:Int)/\(I.arcs.length:Int) <= 1000000000)=True:=eq_true (by omega)
 have f2:((0:Int) <= (I.sup.length:Int)/\(I.sup.length:Int) <= 1000000000)=True:=eq_true (by omega)
 have f3:(0+I.sup.length <= 1000000000)=True:=eq_true (by omega)
 have f4:(∃ g:List Value,List.replicate I.sup.length []=z1s I 0 []/\List.replicate I.sup.length (Value.slice none 0 0)=g)=True:=eq_true ⟨_,stpsK_zero I,rfl⟩
 simp only [f1,f2,f3,f4,true_and,and_true]
 intro vs0
 refine ⟨(0,_,_,vs0),⟨⟨Nat.zero_le _,LowI.begin hp⟩,rfl,rfl,rfl,rfl⟩,?_⟩
 rintro ⟨a,x,o,vs⟩ ⟨ha,hL⟩
 dsimp only at ha hL ⊢
 refine ⟨fun h1=>⟨by omega,by omega,fun y hy=>?_⟩,fun h1=>?_⟩
 ·have hal:a<I.arcs.length:=by omega
  have hk:=z1n hp hal
  have hey:z37 I a=y:=z2d hy
  have hxb:=hL.xb hp ha
  have l0:=hk.l0
  have l1:=hk.l1
  have hn:=hL.next hp hal
  rw [hey] at l0 l1 hn
  exact ⟨⟨⟨hp,by omega,by omega⟩,hL.over.lx,hL.over.lo,hxb.1,hxb.2,by omega,by omega⟩,(a+1,_,_,vs),⟨by dsimp only; omega,hn⟩,by dsimp only; omega,by rw [w64 (by omega) (by omega)]; dsimp only; omega,rfl,rfl,rfl⟩
 have ea:a=I.arcs.length:=by omega
 subst ea
 refine ⟨⟨by omega,by omega⟩,(0,x,o,vs),⟨Nat.zero_le _,rfl,rfl,rfl,rfl,rfl⟩,?_⟩
 rintro ⟨n,x',o',vs⟩ ⟨h2,h3,hn⟩
 dsimp only at h2 h3 hn ⊢
 subst h2 h3
 refine ⟨fun h4=>⟨piece_ok hp (by omega) (by omega),?_⟩,fun h4=>?_⟩
 rotate_left
 ·have en:n=I.sup.length:=by omega
  subst en
  exact ⟨(x',o',z1s I I.sup.length []),⟨hL,steps_ok hp⟩,fun _=>vs,rfl,rfl,rfl,rfl⟩
 have hn2:n<I.sup.length:=by omega
 have q0:z0m (z2j I) (z11 I) (n:Int) 0=z3y (z5a I n):=piece_is hn2 (by omega)
 have q1:z0m (z2j I) (z11 I) (n:Int) 1=z3y (z7e I n):=piece_is hn2 (by omega)
 have c0:(z5a I n).length <= 256:=Nat.le_trans (z94 I (2 * n) I.arcs.length) hs64.2
 have c1:(z7e I n).length <= 256:=Nat.le_trans (z94 I (2 * n+1) I.arcs.length) hs64.2
 refine ⟨(n,0,x',o',vs),⟨Nat.zero_le _,⟨rfl,rfl,by rw [q0,zhz],rfl⟩,q0,rfl,rfl,rfl,rfl⟩,?_⟩
 rintro ⟨n1,k,x1,o1,vs⟩ ⟨h5,h6,h7,hk⟩
 dsimp only at h5 h6 h7 hk ⊢
 subst h5 h6 h7
 have dl:∀ t,DK.len (.recs (MK.int IntKind.i64) [MK.bool] t)=t.length:=fun _=>rfl
 have hrl:∀ q:List Stp,q.length <= 600->∀ r,(z1s I n1 q)[n1]? = some r->r.length <= 600:=fun q hq r hr=>by
  rw [z6r hn2,if_neg (Nat.lt_irrefl _),if_pos rfl] at hr
  cases hr
  rw [List.length_map]; exact hq
 simp only [zhz,z6s,dl]
 refine ⟨fun h8=>⟨by omega,by omega,fun z hz=>?_⟩,fun h8=>?_⟩
 ·obtain ⟨b,hb,rfl⟩:=natI_get hz
  refine ⟨by omega,by omega,fun r hr=>?_⟩
  have hr2:=hrl _ (by simp [fwd]; omega) r hr
  have e1:fwd ((z5a I n1).take (k+1))=fwd ((z5a I n1).take k) ++ [(b,false)]:=by rw [z1k hb]; simp [fwd]
  have e2:(z1s I n1 (fwd ((z5a I n1).take k))).set n1 (r ++ [[(b:Int),bif false then 1 else 0]])=z1s I n1 (fwd ((z5a I n1).take (k+1))):=by rw [e1]; exact stpsK_set (b,false) hr
  repeat' first
   | exact ⟨by omega,by omega,by omega,fun u=>⟨(n1,k+1,x1,o1,_),⟨rfl,rfl,rfl,by dsimp only; omega⟩,by dsimp only; omega,⟨rfl,rfl,rfl,by rw [w64 (by omega) (by omega)]; dsimp only; omega⟩,rfl,rfl,rfl,e2,rfl⟩⟩
   | refine And.intro ?_ ?_
 have ek:k=(z5a I n1).length:=by omega
 subst ek
 refine ⟨piece_ok hp hn2 (by omega),(n1,0,x1,o1,vs),⟨Nat.zero_le _,⟨rfl,rfl,by rw [q1,zhz],rfl⟩,q1,rfl,rfl,?_,rfl⟩,?_⟩
 ·dsimp only
  rw [List.take_length]
  simp [bwd]
 rintro ⟨n2,k,x2,o2,vs⟩ ⟨h5,h6,h7,hk2⟩
 dsimp only at h5 h6 h7 hk2 ⊢
 subst h5 h6 h7
 refine ⟨fun h9=>⟨by omega,by omega,fun z hz=>?_⟩,fun h9=>?_⟩
 ·obtain ⟨b,hb,rfl⟩:=natI_get hz
  refine ⟨by omega,by omega,fun r hr=>?_⟩
  have hr2:=hrl _ (by simp [fwd,bwd]; omega) r hr
  have e1:fwd (z5a I n2) ++ bwd ((z7e I n2).take (k+1))=(fwd (z5a I n2) ++ bwd ((z7e I n2).take k)) ++ [(b,true)]:=by rw [z1k hb]; simp [bwd]
  have e2:(z1s I n2 (fwd (z5a I n2) ++ bwd ((z7e I n2).take k))).set n2 (r ++ [[(b:Int),bif true then 1 else 0]])=z1s I n2 (fwd (z5a I n2) ++ bwd ((z7e I n2).take (k+1))):=by rw [e1]; exact stpsK_set (b,true) hr
  repeat' first
   | exact ⟨by omega,by omega,by omega,fun u=>⟨(n2,k+1,x2,o2,_),⟨rfl,rfl,rfl,by dsimp only; omega⟩,by dsimp only; omega,⟨rfl,rfl,rfl,by rw [w64 (by omega) (by omega)]; dsimp only; omega⟩,rfl,rfl,rfl,e2,rfl⟩⟩
   | refine And.intro ?_ ?_
 have ek:k=(z7e I n2).length:=by omega
 subst ek
 refine ⟨(n2+1,x2,o2,vs),⟨rfl,rfl,by dsimp only; omega⟩,by dsimp only; omega,by rw [w64 (by omega) (by omega)]; dsimp only; omega,rfl,rfl,?_,rfl⟩
 dsimp only
 rw [List.take_length]
 exact stpsK_next I n2
theorem build20_ok:SpecOk Tryz.prog build20_n true (z10 true zf8) :=
 z3s z0i (show z15 Tryz.prog zk6 from z00 zlt (z00 New_ok (z00 out20_ok (z00 in20_ok (z03))))) (by kernel_rfl) mixedOrders Tryz.func59 rfl rfl (by kernel_rfl) (n:=1) (by decide +kernel) (I:=build20_IA) (fun _ _=>z07) (A:=build20_A)
  (fun args h r hr=>by
   unfold zf8 at hr
   split at hr
   ·rename_i ty0 I_s ty1 I_a; cases hr; refine ⟨rfl,fun hp=>?_⟩; have hE:=build20_E ⟨I_s,I_a⟩ ty0 ty1 hp; exact hE
   ·cases hr)
end Go.Proofs.YtggblkbecekbdaaGreat
end
section
namespace Go.Ql
open Go Go.Vc
structure SmallI (I:Inst):Prop where
 s:∀ y ∈ I.sup,-1048576 <= y/\y <= 1048576
 a:∀ a ∈ I.arcs,a.low <= 524288/\(a.cap=inf ∨ a.cap <= 536870912)
structure SolveP (I:Inst) (c:Cert) (e:Int):Prop where
 bad:z04 I ≠ 0->e=z04 I/\c=⟨0,[],[],[],[]⟩
 ok:z04 I=0->e=0/\z17 I c=0/\YB c.flow/\YB c.pot/\∀ C:Int,0 <= C->(∀ s,okS I s->-C <= csS I s/\csS I s <= C)->∀ k,-(C * 32768) <= c.pot.getD k 0/\c.pot.getD k 0 <= C * 32768
theorem build_fill {I:Inst} (hr:z04 I=0) {x o:List Int} {t:Rows3} (h:BuildP I x o t):FillI I x o:=by
 have hs:=z0h hr
 have hlow:=h.low
 have hx:∀ a,a<I.arcs.length->x.getD a 0=(z37 I a).low:=fun a ha=>by rw [hlow.at_ a ha,if_pos ha]
 refine ⟨⟨4398046511104,⟨hlow.over,fun a ha=>?_,fun a ha=>?_⟩,by omega,?_⟩⟩
 ·have:=z1n hr ha
  have h1:=this.c
  rw [hx a ha]
  exact ⟨Int.le_refl _,h1.imp id (·.1)⟩
 ·have:=z1n hr ha
  have h1:=this.l0; have h2:=this.l1
  rw [hx a ha]; omega
 ·have:=hlow.pos
  omega
theorem build_cheap {I:Inst} (hr:z04 I=0) (hsm:SmallI I) {x o:List Int} {t:Rows3} (h:BuildP I x o t) (hπ:∃ π,z8z I (endS I) π) (hy:∃ y,A64 y/\z0v I y=0):zig I x o:=by
 have hs:=z0h hr
 have hlow:=h.low
 refine ⟨hr,hlow.over,fun a ha=>by rw [hlow.at_ a ha,if_pos ha],⟨by rw [hlow.over.lo]; omega,by omega,fun y hy=>?_,fun a ha=>?_⟩,hπ,hy⟩
 ·obtain ⟨v,hv⟩:=List.mem_iff_getElem?.1 hy
  have hvl:v<I.sup.length:=by rw [<- hlow.over.lo]; exact (List.getElem?_eq_some_iff.1 hv).1
  have e:o.getD v 0=y:=by rw [List.getD_eq_getElem?_getD,hv]; rfl
  rw [<- e,hlow.over.at_ v hvl]
  have hm:I.sup.getD v 0 ∈ I.sup:=by rw [List.getD_eq_getElem?_getD,List.getElem?_eq_getElem hvl]; exact List.getElem_mem hvl
  have h1:=hsm.s _ hm
  have h2:∀ k,k <= I.arcs.length->-(524288 * (k:Int)) <= z3b I.sup.length I.arcs x k v/\z3b I.sup.length I.arcs x k v <= 524288 * (k:Int):=fun k=>by
   induction k with
   | zero=>intro _; simp [z3b]
   | succ k ih =>
    intro hk
    obtain ⟨i1,i2⟩:=ih (by omega)
    have h3:=z1n hr (a:=k) (by omega)
    have h4:=h3.l0
    have h5:=(hsm.a _ (arcN_mem (show k<I.arcs.length by omega)).2).1
    have h6:=hlow.at_ k (by omega)
    rw [if_pos (by omega)] at h6
    rw [z3b,h6]
    have e2:((k+1:Nat):Int)=k+1:=by omega
    rw [e2]
    unfold z51
    repeat' split <;> omega
  have:=h2 _ (Nat.le_refl _)
  omega
 ·have h1:=hsm.a a ha
  obtain ⟨j,hj⟩:=List.mem_iff_getElem?.1 ha
  have h3:=z1n hr (a:=j) (List.getElem?_eq_some_iff.1 hj).1
  rw [z2d hj] at h3
  have:=h3.l0; have h4:=h3.c
  refine h1.2.imp id fun h=>⟨?_,h⟩
  rcases h4 with h4 | h4
  ·rw [h4] at h; exact absurd h (by decide)
  ·omega
theorem fits_len {I:Inst} {x o:List Int} {m:List Bool} {f:Bool} (h:FillP I x o m f):A64 x:=fun y hy=>by have:=h.inv.xb y hy; unfold I64; omega
theorem nil_few {C:Int} (h0:0 <= C) (k:Nat):-(C * 32768) <= ([]:List Int).getD k 0/\([]:List Int).getD k 0 <= C * 32768:=by
 have:([]:List Int).getD k 0=0:=rfl
 rw [this]; omega
theorem YB.nil:YB []:=fun y hy=>by simp at hy
theorem solve_cut {I:Inst} (hr:z04 I=0) {x o:List Int} {m:List Bool} (h:FillP I x o m true):SolveP I ⟨2,[],[],m,[]⟩ 0:=by
 refine ⟨fun h2=>absurd hr h2,fun _=>⟨rfl,?_,YB.nil,YB.nil,fun C h0 _ k=>nil_few h0 k⟩⟩
 unfold z17 z20
 simp [hr,h.yes rfl]
theorem solve_ray {I:Inst} (hr:z04 I=0) {x o:List Int} {m:List Bool} (h:FillP I x o m false) {l:List Int} (hl:RoundP I l true):SolveP I ⟨3,x,[],[],l⟩ 0:=by
 refine ⟨fun h2=>absurd hr h2,fun _=>⟨rfl,?_,h.inv.xb,YB.nil,fun C h0 _ k=>nil_few h0 k⟩⟩
 have h1:=(h.no rfl).2
 have h2:=hl.yes rfl
 unfold z17 z20
 simp [hr,h1,h2]
theorem solve_best {I:Inst} (hr:z04 I=0) {x o p:List Int} (h:CheapP I x o) (hp:PriceP I x p):SolveP I ⟨1,x,p,[],[]⟩ 0:=by
 refine ⟨fun h2=>absurd hr h2,fun _=>⟨rfl,?_,h.yb,?_,fun C h0 hC k=>?_⟩⟩
 ·have:=prices_slack h.fits hp
  unfold z17 z20
  simp [hr,this]
 ·obtain ⟨g,-,hpe,hg,-⟩:=hp.ex
  show YB p
  rw [hpe]
  intro y hy
  unfold negF at hy
  obtain ⟨v,hv,rfl⟩:=List.mem_map.1 hy
  have:=hg v (List.mem_range.1 hv)
  omega
 ·obtain ⟨g,-,hpe,-,hg⟩:=hp.ex
  show -(C * 32768) <= p.getD k 0/\p.getD k 0 <= C * 32768
  rw [hpe]
  by_cases hk:k<I.sup.length
  ·have:=hg C h0 hC k hk
   rw [negF_get _ _ hk]; omega
  ·rw [List.getD_eq_getElem?_getD,List.getElem?_eq_none (by simp [negF]; omega)]
   show -(C * 32768) <= 0/\0 <= C * 32768
   omega
theorem solve_bad {I:Inst} (hr:z04 I ≠ 0):SolveP I ⟨0,[],[],[],[]⟩ (z04 I):=⟨fun _=>⟨rfl,rfl⟩,fun h=>absurd h hr⟩
end Go.Ql
end
section
namespace Go.Proofs.YtggblkbecekbdaaGreat
open Go Go.RowKit Go.Ql Go.Vc
def Solve_r (I:Inst):FRel:={ pre:=z04 I=0->SmallI I,G:=(Cert) × (Int),post:=fun ⟨c,e⟩=>SolveP I c e,out:=fun ⟨c,e⟩=>{ pre:=True,res:=.tup [.agg [.int .i64 (c).kind,.row 2,.row 3,.row 4,.row 5],.int .u16 (e)],rows:=[.row 2 (.ints .i64 (c).flow),.row 2 (.ints .i64 (c).pot),.row 4 (.bools (c).side),.row 3 (.ints .i64 (c).cycle)],eff:=[] } }
def zhp:FR:=fun args h=>match args,h with
 | [.agg [.row 0,.row 1]],[(0,.row false ty0 (.ints .i64 I_s)),(1,.row false ty1 (.arcs I_a))]=>some (Solve_r ⟨I_s,I_a⟩)
 | _,_=>none
def Solve_an (I:Inst):List (Nat × Ann):=[]
def Solve_A:List SV->z0d->List (Nat × Ann):=fun _ _=>[]
def Solve_g:z0c:=[(zeu,(true,z02 true z7u)),(build20_n,(true,z10 true zf8)),(fill20_n,(false,z10 false zkr)),(round20_n,(true,z10 true zgf)),(cheap20_n,(false,z10 false zfc)),(price20_n,(true,z10 true zfu))]
abbrev Solve_n:Nat:=19
def Solve_I (I:Inst):List (Nat × z0a):=[]
def Solve_IA:List SV->z0d->List (Nat × z0a):=fun _ _=>[]
def Solve_E0 (I : Inst) (ty0 ty1 : TypeId) : Prop :=
      True /\
 ((z04 I != (0:Int))=true ->
 ∃ (g:Cert × Int),
 SolveP I g.1 g.2 /\
 ((((0:Int)=g.1.kind/\True/\True/\True/\True/\True)/\z04 I=g.2/\True)/\True)/\[]=g.1.flow/\[]=g.1.pot/\[]=g.1.side/\[]=g.1.cycle/\True) /\
 ((z04 I != (0:Int))=false ->
 z04 I=(0:Int) /\
 ∀ (g:List Int × List Int × Rows3),
 BuildP I g.1 g.2.1 g.2.2 ->
 ∀ (V:Nat->List Value),
 (z04 I=(0:Int)/\FillI I g.1 g.2.1/\AtOk I g.2.2) /\
 ∀ (g:List Int × List Int × List Bool × Bool),
 FillP I g.1 g.2.1 g.2.2.1 g.2.2.2 ->
 (g.2.2.2=true ->
 ∃ (g_1:Cert × Int),
 SolveP I g_1.1 g_1.2 /\
 ((((2:Int)=g_1.1.kind/\True/\True/\True/\True/\True)/\(0:Int)=g_1.2/\True)/\True) /\
 []=g_1.1.flow/\[]=g_1.1.pot/\g.2.2.1=g_1.1.side/\[]=g_1.1.cycle/\True) /\
 (g.2.2.2=false ->
 z04 I=(0:Int) /\
 ∀ (g_1:List Int × Bool),
 RoundP I g_1.1 g_1.2 ->
 (g_1.2=true ->
 ∃ (g_2:Cert × Int),
 SolveP I g_2.1 g_2.2 /\
 ((((3:Int)=g_2.1.kind/\True/\True/\True/\True/\True)/\(0:Int)=g_2.2/\True)/\True) /\
 g.1=g_2.1.flow/\[]=g_2.1.pot/\[]=g_2.1.side/\g_1.1=g_2.1.cycle/\True) /\
 (g_1.2=false ->
 z04 I=(0:Int) /\
 ∀ (g:List Int × List Int × Rows3),
 BuildP I g.1 g.2.1 g.2.2 ->
 ∀ (V:Nat->List Value),
 (z04 I=(0:Int) /\
 OverOf I g.1 g.2.1 /\
 (∀ (a:Nat),a<I.arcs.length->g.1.getD a (0:Int)=(z37 I a).low) /\
 GreatOk I g.2.1/\(∃ (π:Nat->Int),z8z I (Ql.endS I) π)/\∃ (y:List Int),A64 y/\z0v I y=(0:Int)) /\
 ∀ (g:List Int × List Int),
 CheapP I g.1 g.2 ->
 (z04 I=(0:Int) /\
 g.1.length=I.arcs.length /\
 XB g.1/\∃ (π:Nat->Int),z8z I (fun (s:Stp)=>Ql.endS I s || decide ((0:Int)<rmS I g.1 s)) π) /\
 ∀ (g_2:List Int),
 PriceP I g.1 g_2 ->
 ∃ (g_3:Cert × Int),
 SolveP I g_3.1 g_3.2 /\
 ((((1:Int)=g_3.1.kind/\True/\True/\True/\True/\True)/\(0:Int)=g_3.2/\True)/\True) /\
 g.1=g_3.1.flow/\g_2=g_3.1.pot/\[]=g_3.1.side/\[]=g_3.1.cycle/\True)))
theorem Solve_q (I:Inst) (ty0 ty1:TypeId):Solve_E0 I ty0 ty1=zaz TT Solve_g (Solve_I I) (Solve_an I) Tryz.f19 [.agg [.row 0,.row 1]] [(0,.row false ty0 (.ints .i64 I.sup)),(1,.row false ty1 (.arcs I.arcs))] (Solve_r I):=by kernel_rfl
theorem Solve_E (I:Inst) (ty0 ty1:TypeId) (hp:z04 I=0->SmallI I):FVcR TT Solve_g (Solve_I I) (Solve_an I) Tryz.f19 [.agg [.row 0,.row 1]] [(0,.row false ty0 (.ints .i64 I.sup)),(1,.row false ty1 (.arcs I.arcs))] (Solve_r I):=by
 refine FVcR.of (Solve_E0 I ty0 ty1) (Solve_q I ty0 ty1) ?_
 unfold Solve_E0
 simp only [eq_self,exists_const,forall_const,ne_eq,Int.toNat_natCast,zSS,z08]
 refine ⟨fun h=>⟨(⟨0,[],[],[],[]⟩,_),solve_bad h,⟨rfl,rfl⟩,rfl,rfl,rfl,rfl⟩,fun hr=>⟨hr,?_⟩⟩
 rintro ⟨x,o,t⟩ hB
 have hF:=build_fill hr hB
 refine ⟨⟨hr,hF,hB.at_⟩,?_⟩
 rintro ⟨x1,o1,m,f⟩ hf
 dsimp only at hf ⊢
 refine ⟨fun h=>?_,fun h=>⟨hr,?_⟩⟩
 ·subst h; exact ⟨(⟨2,[],[],m,[]⟩,0),solve_cut hr hf,⟨rfl,rfl⟩,rfl,rfl,rfl,rfl⟩
 subst h
 rintro ⟨l,f⟩ hl
 dsimp only at hl ⊢
 refine ⟨fun h=>?_,fun h=>⟨hr,?_⟩⟩
 ·subst h; exact ⟨(⟨3,x1,[],[],l⟩,0),solve_ray hr hf hl,⟨rfl,rfl⟩,rfl,rfl,rfl,rfl⟩
 subst h
 rintro ⟨x2,o2,t2⟩ hB2
 refine ⟨build_cheap hr (hp hr) hB2 (hl.no rfl).2 ⟨x1,fits_len hf,(hf.no rfl).2⟩,?_⟩
 rintro ⟨x3,o3⟩ hC
 exact ⟨⟨hr,(fitsF_zero.1 hC.fits).2.1,hC.yb.xb,hC.pot⟩,fun p hp=>⟨(⟨1,x3,p,[],[]⟩,0),solve_best hr hC hp,⟨rfl,rfl⟩,rfl,rfl,rfl,rfl⟩⟩
theorem Solve_ok:SpecOk Tryz.prog Solve_n true (z10 true zhp) :=
 z3s z0i (show z15 Tryz.prog Solve_g from z00 zco (z00 build20_ok (z00 fill20_ok (z00 round20_ok (z00 cheap20_ok (z00 price20_ok (z03))))))) (by kernel_rfl) mixedOrders Tryz.func19 rfl rfl (by kernel_rfl) (n:=1) (by decide +kernel) (I:=Solve_IA) (fun _ _=>z07) (A:=Solve_A)
  (fun args h r hr=>by
   unfold zhp at hr
   split at hr
   ·rename_i ty0 I_s ty1 I_a; cases hr; refine ⟨rfl,fun hp=>?_⟩; have hE:=Solve_E ⟨I_s,I_a⟩ ty0 ty1 hp; exact hE
   ·cases hr)
def of11_r (pot:List Int) (n:Int):FRes:={ pre:=0 <= n,res:=.int .i64 (pot.getD n.toNat 0),rows:=[],eff:=[] }
def of11_fs:FS:=fun args h=>match args,h with
 | [.row 0,.int .i64 n],[(0,.row false ty0 (.ints .i64 pot))]=>some (of11_r pot n)
 | _,_=>none
def of11_an (pot:List Int) (n:Int):List (Nat × Ann):=[]
def of11_A:List SV->z0d->List (Nat × Ann):=fun _ _=>[]
def of11_g:z0c:=[]
abbrev of11_n:Nat:=128
def of11_I (pot:List Int) (n:Int):List (Nat × z0a):=[]
def of11_IA:List SV->z0d->List (Nat × z0a):=fun _ _=>[]
def zmf (p:Arc) (pf:Int) (pt:Int):FRes:={ pre:=I64 p.cost/\I64 pf/\I64 pt,res:=.agg (z0s (W (redA p pf pt))),rows:=[],eff:=[] }
def zg9:FS:=fun args h=>match args,h with
 | [.agg [.int .i64 p_0,.int .i64 p_1,.int .i64 p_2,.int .i64 p_3,.int .i64 p_4,.int .i64 pf,.int .i64 pt]],[]=>some (zmf ⟨p_0,p_1,p_2,p_3,p_4⟩ pf pt)
 | _,_=>none
def reduced_an (p:Arc) (pf:Int) (pt:Int):List (Nat × Ann):=[]
def reduced_A:List SV->z0d->List (Nat × Ann):=fun _ _=>[]
def zme:z0c:=[(zj2,(true,z02 true z8y)),(ziv,(true,z02 true za6)),(Of_n,(true,z02 true zhe))]
abbrev reduced_n:Nat:=73
def reduced_I (p:Arc) (pf:Int) (pt:Int):List (Nat × z0a):=[]
def reduced_IA:List SV->z0d->List (Nat × z0a):=fun _ _=>[]
def sign_r (p:Arc) (pf:Int) (pt:Int):FRes:={ pre:=I64 p.cost/\I64 pf/\I64 pt,res:=.int .i64 (sgn (redA p pf pt)),rows:=[],eff:=[] }
def sign_fs:FS:=fun args h=>match args,h with
 | [.agg [.int .i64 p_0,.int .i64 p_1,.int .i64 p_2,.int .i64 p_3,.int .i64 p_4,.int .i64 pf,.int .i64 pt]],[]=>some (sign_r ⟨p_0,p_1,p_2,p_3,p_4⟩ pf pt)
 | _,_=>none
def sign_an (p:Arc) (pf:Int) (pt:Int):List (Nat × Ann):=[]
def sign_A:List SV->z0d->List (Nat × Ann):=fun _ _=>[]
def sign_g:z0c:=[(z8v,(true,z02 true z64)),(reduced_n,(true,z02 true zg9)),(Of_n,(true,z02 true zhe))]
abbrev sign_n:Nat:=157
def sign_I (p:Arc) (pf:Int) (pt:Int):List (Nat × z0a):=[]
def sign_IA:List SV->z0d->List (Nat × z0a):=fun _ _=>[]
def at11_r (I:Inst) (pot:List Int) (a:Int):FRes:={ pre:=True,res:=.tup [.agg [.int .i64 (atA I a).src,.int .i64 (atA I a).dst,.int .i64 (atA I a).low,.int .i64 (atA I a).cap,.int .i64 (atA I a).cost,.int .i64 (atF I pot a),.int .i64 (atT I pot a)],.bool (gOk I.sup.length I.arcs a)],rows:=[],eff:=[] }
def at11_fs:FS:=fun args h=>match args,h with
 | [.agg [.row 0,.row 1],.row 2,.int .i64 a],[(0,.row false ty0 (.ints .i64 I_s)),(1,.row false ty1 (.arcs I_a)),(2,.row false ty2 (.ints .i64 pot))]=>some (at11_r ⟨I_s,I_a⟩ pot a)
 | _,_=>none
def at11_an (I:Inst) (pot:List Int) (a:Int):List (Nat × Ann):=[]
def at11_A:List SV->z0d->List (Nat × Ann):=fun _ _=>[]
def at11_g:z0c:=[(of11_n,(true,z02 true of11_fs))]
abbrev at11_n:Nat:=72
def at11_I (I:Inst) (pot:List Int) (a:Int):List (Nat × z0a):=[]
def at11_IA:List SV->z0d->List (Nat × z0a):=fun _ _=>[]
abbrev arcs11_n:Nat:=156
def arcs11_g:z0c:=[]
def zjc:Vc.Spec:=z4f TT arcs11_g (fun _ _ _=>[]) Tryz.f156
def Slack_r (I:Inst) (x:List Int) (pot:List Int):FRes:={ pre:=I.sup.length <= 10000/\I.arcs.length <= 10000/\A64 x/\A64 I.sup/\A64 pot/\zcm I.arcs,res:=.int .u16 (z0z I x pot),rows:=[],eff:=[] }
def Slack_fs:FS:=fun args h=>match args,h with
 | [.agg [.row 0,.row 1],.row 2,.row 3],[(0,.row false ty0 (.ints .i64 I_s)),(1,.row false ty1 (.arcs I_a)),(2,.row false ty2 (.ints .i64 x)),(3,.row false ty3 (.ints .i64 pot))]=>some (Slack_r ⟨I_s,I_a⟩ x pot)
 | _,_=>none
def Slack_an (I:Inst) (x:List Int) (pot:List Int):List (Nat × Ann):=[]
def Slack_A:List SV->z0d->List (Nat × Ann):=fun _ _=>[]
def Slack_g:z0c:=[(Fits_n,(true,z02 true zit)),(arcs11_n,(false,zjc)),(sign_n,(true,z02 true sign_fs))]
abbrev Slack_n:Nat:=133
def Slack_i0g:z0c:=[(at11_n,(true,z02 true at11_fs))]
def Slack_i0 (I:Inst) (x:List Int) (pot:List Int):z0a:=inlI TT Slack_i0g (fun args hp nk=>match args with
  | [y,c1,c2]=>[(1,{ G:=Nat,inv:=fun g=>⟨[(0,y),(1,c1),(2,c2),(9,.int .i64 I.arcs.length),(10,.int .i64 g)],hp,nk⟩,rel:=fun _ g=>g <= I.arcs.length/\∀ j,j<g->z22 I x pot j=true,meas:=fun g=>I.arcs.length - g })]
  | _=>[]) Tryz.f161
def Slack_I (I:Inst) (x:List Int) (pot:List Int):List (Nat × z0a):=[(161,Slack_i0 I x pot)]
def Slack_IA:List SV->z0d->List (Nat × z0a):=fun args h=>match args,h with
 | [.agg [.row 0,.row 1],.row 2,.row 3],[(0,.row false ty0 (.ints .i64 I_s)),(1,.row false ty1 (.arcs I_a)),(2,.row false ty2 (.ints .i64 x)),(3,.row false ty3 (.ints .i64 pot))]=>Slack_I ⟨I_s,I_a⟩ x pot
 | _,_=>[]
def zg6 (I:Inst) (pot:List Int) (a:Int):FRes:={ pre:=A64 pot/\zcm I.arcs,res:=.agg (z0s (W (zel I pot a))),rows:=[],eff:=[] }
def zc4:FS:=fun args h=>match args,h with
 | [.agg [.row 0,.row 1],.row 2,.int .i64 a],[(0,.row false ty0 (.ints .i64 I_s)),(1,.row false ty1 (.arcs I_a)),(2,.row false ty2 (.ints .i64 pot))]=>some (zg6 ⟨I_s,I_a⟩ pot a)
 | _,_=>none
def zm7 (I:Inst) (pot:List Int) (a:Int):List (Nat × Ann):=[]
def rReduced_A:List SV->z0d->List (Nat × Ann):=fun _ _=>[]
def zg5:z0c:=[(rArc_n,(true,z02 true rArc_fs)),(rMinus_n,(true,z02 true zdd)),(rOf_n,(true,z02 true rOf_fs)),(At_n,(true,z02 true At_fs)),(zm6,(true,z02 true zan))]
abbrev rReduced_n:Nat:=89
def rReduced_I (I:Inst) (pot:List Int) (a:Int):List (Nat × z0a):=[]
def rReduced_IA:List SV->z0d->List (Nat × z0a):=fun _ _=>[]
def rSlack_r (I:Inst) (x:List Int) (pot:List Int):FRes:={ pre:=I.sup.length <= 10000/\I.arcs.length <= 10000/\A64 x/\A64 I.sup/\A64 pot/\zcm I.arcs,res:=.int .i64 (z0z I x pot),rows:=[],eff:=[] }
def zmc:FS:=fun args h=>match args,h with
 | [.agg [.row 0,.row 1],.row 2,.row 3],[(0,.row false ty0 (.ints .i64 I_s)),(1,.row false ty1 (.arcs I_a)),(2,.row false ty2 (.ints .i64 x)),(3,.row false ty3 (.ints .i64 pot))]=>some (rSlack_r ⟨I_s,I_a⟩ x pot)
 | _,_=>none
def zmb (I:Inst) (x:List Int) (pot:List Int):List (Nat × Ann):=[(7,{ G:=(Nat),inv:=fun k=>⟨[(1,.row 2),(2,.row 3),(3,.ptr 4 0 0 0),(8,.int .i64 k)],[(4,.box true 25 [.row 0,.row 1]),(0,.row false 0 (.ints .i64 I.sup)),(1,.row false 0 (.arcs I.arcs)),(2,.row false 0 (.ints .i64 x)),(3,.row false 0 (.ints .i64 pot))],5⟩,rel:=fun k0 k=>k <= I.arcs.length/\∀ j,j<k->z22 I x pot j=true,meas:=fun k=>I.arcs.length - k })]
def rSlack_A:List SV->z0d->List (Nat × Ann):=fun args h=>match args,h with
 | [.agg [.row 0,.row 1],.row 2,.row 3],[(0,.row false ty0 (.ints .i64 I_s)),(1,.row false ty1 (.arcs I_a)),(2,.row false ty2 (.ints .i64 x)),(3,.row false ty3 (.ints .i64 pot))]=>zmb ⟨I_s,I_a⟩ x pot
 | _,_=>[]
def rSlack_g:z0c:=[(rFits_n,(true,z02 true zi6)),(rReduced_n,(true,z02 true zc4)),(rCompare_n,(true,z02 true zbz))]
abbrev rSlack_n:Nat:=54
def rSlack_I (I:Inst) (x:List Int) (pot:List Int):List (Nat × z0a):=[]
def rSlack_IA:List SV->z0d->List (Nat × z0a):=fun _ _=>[]
end Go.Proofs.YtggblkbecekbdaaGreat
end
