/- Part of the proof: DQ11, FQ11, DR12, FR12, DS12, FS12, DK13, FK13, DY13, FY13, Solve13, DZ20, FZ20, Solve14, Solve15, Solve16, Solve19, Solve20, CertMade, Solve21, DM20, FM20, DG20, FG20, Solve23, Base, Wrap3. -/
import Derived.Test.YtggblkbecekbdaaGreatZG14
import Derived.Test.YtggblkbecekbdaaGreatZG8
import Derived.Test.YtggblkbecekbdaaGreatZG5
import Derived.Test.YtggblkbecekbdaaGreatZG7
import Derived.Test.YtggblkbecekbdaaGreatZG9
import Derived.Test.YtggblkbecekbdaaGreatZG6
import Derived.Test.YtggblkbecekbdaaGreatZG12
import Derived.Test.YtggblkbecekbdaaGreatZG13
import Derived.Test.YtggblkbecekbdaaGreatZG1
import Derived.Test.YtggblkbecekbdaaGreatProg
import Derived.ProofKit
import Derived.OpenShut
import Derived.ChangeSame
import Derived.Deep.Slices
import Derived.Deep.Grids
import Derived.Test.YtggblkbecekbdaaGreatRows
set_option linter.all false
set_option linter.unusedSimpArgs false
set_option linter.unusedVariables false
set_option maxRecDepth 1000000
section
namespace Go.Proofs.YtggblkbecekbdaaGreat
open Go Go.RowKit Go.Ql Go.Vc
def potE (e:List Int) (n:Nat):Int:=if n < e.length then e.getD n 0 % 25 - 8 else 0
def z4l (e:List Int) (n:Nat):List Int:=(List.range n).map (potE e)
def Pot_r (e:List Int) (n:Int):FRes:={ pre:=Bytes e/\e.length <= maxLen/\0 <= n/\n <= 1000000,res:=.row 1,rows:=[.row 2 (.ints .i64 (z4l e n.toNat))],eff:=[] }
def Pot_fs:FS:=fun args h=>match args,h with
 | [.row 0,.int .i64 n],[(0,.row false ty0 (.ints .u8 e))]=>some (Pot_r e n)
 | _,_=>none
def Pot_an (e:List Int) (n:Int):List (Nat × Ann):=[(3,{ G:=(Nat),inv:=fun k=>⟨[(0,.row 0),(1,.int .i64 n),(5,.row 2),(6,.int .i64 k)],[(2,.row true 2 (.ints .i64 (z4l e k))),(0,.row false 0 (.ints .u8 e))],3⟩,rel:=fun k0 k=>k <= n.toNat,meas:=fun k=>n.toNat - k })]
def Pot_A:List SV->z0e->List (Nat × Ann):=fun args h=>match args,h with
 | [.row 0,.int .i64 n],[(0,.row false ty0 (.ints .u8 e))]=>Pot_an e n
 | _,_=>[]
def Pot_g:z0b:=[]
abbrev Pot_n:Nat:=29
def Pot_I (e:List Int) (n:Int):List (Nat × z09):=[]
def Pot_IA:List SV->z0e->List (Nat × z09):=fun _ _=>[]
end Go.Proofs.YtggblkbecekbdaaGreat
end
section
namespace Go.Proofs.YtggblkbecekbdaaGreat
open Go Go.RowKit Go.Ql Go.Vc
theorem potF_len (e:List Int) (n:Nat):(z4l e n).length = n:=by simp [z4l]
theorem potF_succ (e:List Int) (n:Nat):z4l e (n + 1) = z4l e n ++ [potE e n]:=by simp [z4l,List.range_succ]
def Pot_E0 (e : List Int) (n : Int) (ty0 : TypeId) : Prop :=
      ∃ (g0:Nat),
 (g0 <= n.toNat/\(True/\n = n/\True/\(0:Int) = (↑g0:Int)/\True)/\[] = z4l e g0/\e = e/\True) /\
 ∀ (g:Nat),
 g <= n.toNat ->
 (decide ((↑g:Int) < n) = true ->
 (decide ((↑g:Int) < (↑e.length:Int)) = true ->
 ((0:Int) <= (↑g:Int)/\(↑g:Int) < (↑e.length:Int)) /\
 (↑g:Int).toNat < e.length /\
 ∀ (x:Int),
 e[(↑g:Int).toNat]? = some x ->
 (25:Int) ≠ (0:Int) /\
 (z4l e g).length + (1:Nat) <= (1000000000:Nat) /\
 ∃ (g':Nat),
 g' <= n.toNat /\
 n.toNat - g' < n.toNat - g /\
 (True/\n = n/\True/\IntKind.i64.wrap ((↑g:Int) + (1:Int)) = (↑g':Int)/\True) /\
 z4l e g ++ [IntKind.i64.wrap (IntKind.i64.wrap (x.tmod (25:Int)) - (8:Int))] = z4l e g'/\e = e/\True) /\
 (decide ((↑g:Int) < (↑e.length:Int)) = false ->
 (z4l e g).length + (1:Nat) <= (1000000000:Nat) /\
 ∃ (g':Nat),
 g' <= n.toNat /\
 n.toNat - g' < n.toNat - g /\
 (True/\n = n/\True/\IntKind.i64.wrap ((↑g:Int) + (1:Int)) = (↑g':Int)/\True)/\z4l e g ++ [(0:Int)] = z4l e g'/\e = e/\True)) /\
 (decide ((↑g:Int) < n) = false->(True/\True)/\z4l e g = z4l e n.toNat/\True)
theorem Pot_q (e:List Int) (n:Int) (ty0:TypeId):Pot_E0 e n ty0 = z3a TT Pot_g (Pot_I e n) (Pot_an e n) Tryz.f29 [.row 0,.int .i64 n] [(0,.row false ty0 (.ints .u8 e))] (Pot_r e n):=by kernel_rfl
theorem Pot_E (e:List Int) (n:Int) (ty0:TypeId) (hp:Bytes e/\e.length <= maxLen/\0 <= n/\n <= 1000000):FVc TT Pot_g (Pot_I e n) (Pot_an e n) Tryz.f29 [.row 0,.int .i64 n] [(0,.row false ty0 (.ints .u8 e))] (Pot_r e n):=by
 refine FVc.of (Pot_E0 e n ty0) (Pot_q e n ty0) ?_
 unfold Pot_E0
 obtain ⟨p1,p2,p3,p4⟩:=hp
 simp only [eq_self,exists_const,forall_const,decide_eq_true_eq,decide_eq_false_iff_not,and_true,true_and,bne_iff_ne,ne_eq,bne_eq_false_iff_eq,Int.toNat_natCast,Bool.not_eq_true',Bool.not_eq_false',beq_iff_eq,beq_eq_false_iff_ne,z08]
 refine ⟨0,⟨by omega,rfl,rfl⟩,fun g hg=>⟨fun h1=>⟨fun h2=>⟨by omega,by omega,fun x hx=>⟨by decide,?_⟩⟩,fun h2=>?_⟩,fun h1=>?_⟩⟩
 ·have hb:=p1 x (List.mem_of_getElem? hx)
  have hd:e.getD g 0 = x:=by simp [List.getD,hx]
  refine ⟨by rw [potF_len]; omega,g + 1,by omega,by omega,by rw [w64 (by omega) (by omega)]; omega,?_⟩
  rw [potF_succ,z39 hb.1,w64 (x:=x % 25) (by omega) (by omega),w64 (by omega) (by omega)]
  unfold potE
  rw [if_pos (by omega),hd]
 ·refine ⟨by rw [potF_len]; omega,g + 1,by omega,by omega,by rw [w64 (by omega) (by omega)]; omega,?_⟩
  rw [potF_succ]
  unfold potE
  rw [if_neg (by omega)]
 ·rw [show n.toNat = g by omega]
theorem Pot_ok:SpecOk Tryz.prog Pot_n true (z04 true Pot_fs) :=
 z0a z0r (show z1i Tryz.prog Pot_g from z05) (by kernel_rfl) mixedOrders Tryz.func29 rfl rfl (by kernel_rfl) (n:=2) (by decide +kernel) (I:=Pot_IA) (fun _ _=>z06) (A:=Pot_A)
  (fun args h r hr=>by
   unfold Pot_fs at hr
   split at hr
   ·rename_i n ty0 e; cases hr; refine ⟨rfl,fun hp=>?_⟩; have hE:=Pot_E e n ty0 hp; exact hE
   ·cases hr)
end Go.Proofs.YtggblkbecekbdaaGreat
end
section
namespace Go.Proofs.YtggblkbecekbdaaGreat
open Go Go.RowKit Go.Ql Go.Vc
end Go.Proofs.YtggblkbecekbdaaGreat
end
section
namespace Go.Proofs.YtggblkbecekbdaaGreat
open Go Go.RowKit Go.Ql Go.Vc
end Go.Proofs.YtggblkbecekbdaaGreat
end
section
namespace Go.Proofs.YtggblkbecekbdaaGreat
open Go Go.RowKit Go.Ql Go.Vc
end Go.Proofs.YtggblkbecekbdaaGreat
end
section
namespace Go.Proofs.YtggblkbecekbdaaGreat
open Go Go.RowKit Go.Ql Go.Vc
end Go.Proofs.YtggblkbecekbdaaGreat
end
section
namespace Go.Proofs.YtggblkbecekbdaaGreat
open Go Go.RowKit Go.Ql Go.Vc
def ValueC_r (I:Inst) (c:Cert):FRes:={ pre:=z51 c/\z97 I,res:=.tup [.agg (z0v (z13 I c)),.bool (decide (c.kind = 1))],rows:=[],eff:=[] }
def zd3:FS:=fun args h=>match args,h with
 | [.agg [.row 0,.row 1],.agg [.int .i64 c_k,.row 2,.row 3,.row 4,.row 5]],[(0,.row false ty0 (.ints .i64 I_s)),(1,.row false ty1 (.arcs I_a)),(2,.row false ty2 (.ints .i64 c_f)),(3,.row false ty3 (.ints .i64 c_p)),(4,.row false ty4 (.bools c_s)),(5,.row false ty5 (.ints .i64 c_y))]=>some (ValueC_r ⟨I_s,I_a⟩ ⟨c_k,c_f,c_p,c_s,c_y⟩)
 | _,_=>none
def ValueC_an (I:Inst) (c:Cert):List (Nat × Ann):=[]
def ValueC_A:List SV->z0e->List (Nat × Ann):=fun _ _=>[]
def ValueC_g:z0b:=[(Cost_n,(true,z04 true Cost_fs))]
abbrev ValueC_n:Nat:=20
def ValueC_I (I:Inst) (c:Cert):List (Nat × z09):=[]
def ValueC_IA:List SV->z0e->List (Nat × z09):=fun _ _=>[]
end Go.Proofs.YtggblkbecekbdaaGreat
end
section
namespace Go.Proofs.YtggblkbecekbdaaGreat
open Go Go.RowKit Go.Ql Go.Vc
def zik (I : Inst) (c : Cert) (ty0 ty1 ty2 ty3 ty4 ty5 : TypeId) : Prop :=
      ((c.kind != (1:Int)) = true->((((0:Int) = (z13 I c).hi/\(0:Int) = (z13 I c).lo/\True)/\false = decide (c.kind = (1:Int))/\True)/\True)/\True) /\
 ((c.kind != (1:Int)) = false ->
 (A64 c.flow/\A64c I.arcs/\I.arcs.length <= (1000000:Nat)) /\
 ((((W (zc3 I c.flow)).hi = (z13 I c).hi/\(W (zc3 I c.flow)).lo = (z13 I c).lo/\True)/\true = decide (c.kind = (1:Int))/\True)/\True)/\True)
theorem ValueC_q (I:Inst) (c:Cert) (ty0 ty1 ty2 ty3 ty4 ty5:TypeId):zik I c ty0 ty1 ty2 ty3 ty4 ty5 = z3a TT ValueC_g (ValueC_I I c) (ValueC_an I c) Tryz.f20 [.agg [.row 0,.row 1],.agg [.int .i64 c.kind,.row 2,.row 3,.row 4,.row 5]] [(0,.row false ty0 (.ints .i64 I.sup)),(1,.row false ty1 (.arcs I.arcs)),(2,.row false ty2 (.ints .i64 c.flow)),(3,.row false ty3 (.ints .i64 c.pot)),(4,.row false ty4 (.bools c.side)),(5,.row false ty5 (.ints .i64 c.cycle))] (ValueC_r I c):=by kernel_rfl
theorem ValueC_E (I:Inst) (c:Cert) (ty0 ty1 ty2 ty3 ty4 ty5:TypeId) (hp:z51 c/\z97 I):FVc TT ValueC_g (ValueC_I I c) (ValueC_an I c) Tryz.f20 [.agg [.row 0,.row 1],.agg [.int .i64 c.kind,.row 2,.row 3,.row 4,.row 5]] [(0,.row false ty0 (.ints .i64 I.sup)),(1,.row false ty1 (.arcs I.arcs)),(2,.row false ty2 (.ints .i64 c.flow)),(3,.row false ty3 (.ints .i64 c.pot)),(4,.row false ty4 (.bools c.side)),(5,.row false ty5 (.ints .i64 c.cycle))] (ValueC_r I c):=by
 refine FVc.of (zik I c ty0 ty1 ty2 ty3 ty4 ty5) (ValueC_q I c ty0 ty1 ty2 ty3 ty4 ty5) ?_
 unfold zik
 obtain ⟨c1,c2,c3,c4,c5,c6⟩:=hp.1
 obtain ⟨i1,i2,i3,i4,i5⟩:=hp.2
 simp only [eq_self,exists_const,forall_const,decide_eq_true_eq,decide_eq_false_iff_not,and_true,true_and,bne_iff_ne,ne_eq,bne_eq_false_iff_eq,Int.toNat_natCast,Bool.not_eq_true',Bool.not_eq_false',beq_iff_eq,beq_eq_false_iff_ne,z08]
 unfold z13
 refine ⟨fun h=>by rw [if_neg h]; exact ⟨⟨rfl,rfl⟩,(decide_eq_false h).symm⟩,fun h=>⟨⟨c1,i5,by omega⟩,by rw [if_pos h]; exact ⟨⟨rfl,rfl⟩,(decide_eq_true h).symm⟩⟩⟩
theorem ValueC_ok:SpecOk Tryz.prog ValueC_n true (z04 true zd3) :=
 z0a z0r (show z1i Tryz.prog ValueC_g from z01 Cost_ok (z05)) (by kernel_rfl) mixedOrders Tryz.func20 rfl rfl (by kernel_rfl) (n:=2) (by decide +kernel) (I:=ValueC_IA) (fun _ _=>z06) (A:=ValueC_A)
  (fun args h r hr=>by
   unfold zd3 at hr
   split at hr
   ·rename_i c_k ty0 I_s ty1 I_a ty2 c_f ty3 c_p ty4 c_s ty5 c_y; cases hr; refine ⟨rfl,fun hp=>?_⟩; have hE:=ValueC_E ⟨I_s,I_a⟩ ⟨c_k,c_f,c_p,c_s,c_y⟩ ty0 ty1 ty2 ty3 ty4 ty5 hp; exact hE
   ·cases hr)
end Go.Proofs.YtggblkbecekbdaaGreat
end
section
namespace Go.Proofs.YtggblkbecekbdaaGreat
open Go Go.RowKit Go.Ql Go.Vc
def zft (c:Cert):FRes:={ pre:=True,res:=.bool (z3w c),rows:=[],eff:=[] }
def zcf:FS:=fun args h=>match args,h with
 | [.agg [.int .i64 c_k,.row 0,.row 1,.row 2,.row 3]],[(0,.row false ty0 (.ints .i64 c_f)),(1,.row false ty1 (.ints .i64 c_p)),(2,.row false ty2 (.bools c_s)),(3,.row false ty3 (.ints .i64 c_y))]=>some (zft ⟨c_k,c_f,c_p,c_s,c_y⟩)
 | _,_=>none
def zl0 (c:Cert):List (Nat × Ann):=[]
def rPlain13_A:List SV->z0e->List (Nat × Ann):=fun _ _=>[]
def zfs:z0b:=[]
abbrev rPlain13_n:Nat:=53
def rPlain13_I (c:Cert):List (Nat × z09):=[]
def rPlain13_IA:List SV->z0e->List (Nat × z09):=fun _ _=>[]
def rProvesN_r (I:Inst) (side:List Bool):FRes:={ pre:=False,res:=.int .i64 (0),rows:=[],eff:=[] }
def zcg:FS:=fun args h=>match args,h with
 | [.agg [.row 0,.row 1],.row 2],[(0,.row false ty0 (.ints .i64 I_s)),(1,.row false ty1 (.arcs I_a)),(2,.row false ty2 (.bools side))]=>some (rProvesN_r ⟨I_s,I_a⟩ side)
 | _,_=>none
def rProvesN_g:z0b:=[]
abbrev rProvesN_n:Nat:=55
def rTurnsN_r (I:Inst) (l:List Int):FRes:={ pre:=False,res:=.int .i64 (0),rows:=[],eff:=[] }
def zfw:FS:=fun args h=>match args,h with
 | [.agg [.row 0,.row 1],.row 2],[(0,.row false ty0 (.ints .i64 I_s)),(1,.row false ty1 (.arcs I_a)),(2,.row false ty2 (.ints .i64 l))]=>some (rTurnsN_r ⟨I_s,I_a⟩ l)
 | _,_=>none
def rTurnsN_g:z0b:=[]
abbrev rTurnsN_n:Nat:=57
def zkw (I:Inst) (c:Cert):FRes:={ pre:=z51 c/\z97 I/\c.kind = 1,res:=.int .i64 (z22 I c),rows:=[],eff:=[] }
def zb1:FS:=fun args h=>match args,h with
 | [.agg [.row 0,.row 1],.agg [.int .i64 c_k,.row 2,.row 3,.row 4,.row 5]],[(0,.row false ty0 (.ints .i64 I_s)),(1,.row false ty1 (.arcs I_a)),(2,.row false ty2 (.ints .i64 c_f)),(3,.row false ty3 (.ints .i64 c_p)),(4,.row false ty4 (.bools c_s)),(5,.row false ty5 (.ints .i64 c_y))]=>some (zkw ⟨I_s,I_a⟩ ⟨c_k,c_f,c_p,c_s,c_y⟩)
 | _,_=>none
def rCheckB_an (I:Inst) (c:Cert):List (Nat × Ann):=[]
def rCheckB_A:List SV->z0e->List (Nat × Ann):=fun _ _=>[]
def zku:z0b:=[(rRight_n,(true,z04 true zdq)),(rPlain13_n,(true,z04 true zcf)),(rSlack_n,(true,z04 true zl7)),(rProvesN_n,(true,z04 true zcg)),(rFits_n,(true,z04 true zhp)),(rTurnsN_n,(true,z04 true zfw))]
abbrev zkv:Nat:=18
def rCheckB_I (I:Inst) (c:Cert):List (Nat × z09):=[]
def rCheckB_IA:List SV->z0e->List (Nat × z09):=fun _ _=>[]
end Go.Proofs.YtggblkbecekbdaaGreat
end
section
namespace Go.Proofs.YtggblkbecekbdaaGreat
open Go Go.RowKit Go.Ql Go.Vc
def zce (c : Cert) (ty0 ty1 ty2 ty3 : TypeId) : Prop :=
      ((c.kind == (1:Int)) = true ->
 (((↑c.side.length:Int) == (0:Int)) = true->(((↑c.cycle.length:Int) == (0:Int)) = z3w c/\True)/\True) /\
 (((↑c.side.length:Int) == (0:Int)) = false->(false = z3w c/\True)/\True)) /\
 ((c.kind == (1:Int)) = false ->
 ((c.kind == (2:Int)) = true ->
 (((↑c.flow.length:Int) == (0:Int)) = true ->
 (((↑c.pot.length:Int) == (0:Int)) = true->(((↑c.cycle.length:Int) == (0:Int)) = z3w c/\True)/\True) /\
 (((↑c.pot.length:Int) == (0:Int)) = false->(false = z3w c/\True)/\True)) /\
 (((↑c.flow.length:Int) == (0:Int)) = false->(false = z3w c/\True)/\True)) /\
 ((c.kind == (2:Int)) = false ->
 ((c.kind == (3:Int)) = true ->
 (((↑c.pot.length:Int) == (0:Int)) = true->(((↑c.side.length:Int) == (0:Int)) = z3w c/\True)/\True) /\
 (((↑c.pot.length:Int) == (0:Int)) = false->(false = z3w c/\True)/\True)) /\
 ((c.kind == (3:Int)) = false->(false = z3w c/\True)/\True)))
theorem rPlain13_q (c:Cert) (ty0 ty1 ty2 ty3:TypeId):zce c ty0 ty1 ty2 ty3 = z3a TT zfs (rPlain13_I c) (zl0 c) Tryz.f53 [.agg [.int .i64 c.kind,.row 0,.row 1,.row 2,.row 3]] [(0,.row false ty0 (.ints .i64 c.flow)),(1,.row false ty1 (.ints .i64 c.pot)),(2,.row false ty2 (.bools c.side)),(3,.row false ty3 (.ints .i64 c.cycle))] (zft c):=by kernel_rfl
theorem rPlain13_E (c:Cert) (ty0 ty1 ty2 ty3:TypeId) (hp:True):FVc TT zfs (rPlain13_I c) (zl0 c) Tryz.f53 [.agg [.int .i64 c.kind,.row 0,.row 1,.row 2,.row 3]] [(0,.row false ty0 (.ints .i64 c.flow)),(1,.row false ty1 (.ints .i64 c.pot)),(2,.row false ty2 (.bools c.side)),(3,.row false ty3 (.ints .i64 c.cycle))] (zft c):=by
 refine FVc.of (zce c ty0 ty1 ty2 ty3) (rPlain13_q c ty0 ty1 ty2 ty3) ?_
 unfold zce
 simp only [eq_self,exists_const,forall_const,decide_eq_true_eq,decide_eq_false_iff_not,and_true,true_and,bne_iff_ne,ne_eq,bne_eq_false_iff_eq,Int.toNat_natCast,Bool.not_eq_true',Bool.not_eq_false',beq_iff_eq,beq_eq_false_iff_ne,z08]
 unfold z3w
 have b0:∀ n:Nat,(((n:Int) == 0):Bool) = decide (n = 0):=fun n=>by by_cases h:n = 0 <;> simp [h]
 simp only [b0]
 refine ⟨fun k1=>⟨fun h1=>?_,fun h1=>?_⟩,fun k1=>⟨fun k2=>⟨fun h1=>⟨fun h2=>?_,fun h2=>?_⟩,fun h1=>?_⟩,fun k2=>⟨fun k3=>⟨fun h1=>?_,fun h1=>?_⟩,fun k3=>?_⟩⟩⟩
 all_goals
  first
   | (rw [if_pos (by assumption)])
   | (rw [if_neg (by assumption),if_pos (by assumption)])
   | (rw [if_neg (by assumption),if_neg (by assumption),if_pos (by assumption)])
   | (rw [if_neg (by assumption),if_neg (by assumption),if_neg (by assumption)])
 all_goals simp_all
theorem rPlain13_ok:SpecOk Tryz.prog rPlain13_n true (z04 true zcf) :=
 z0a z0r (show z1i Tryz.prog zfs from z05) (by kernel_rfl) mixedOrders Tryz.func53 rfl rfl (by kernel_rfl) (n:=1) (by decide +kernel) (I:=rPlain13_IA) (fun _ _=>z06) (A:=rPlain13_A)
  (fun args h r hr=>by
   unfold zcf at hr
   split at hr
   ·rename_i c_k ty0 c_f ty1 c_p ty2 c_s ty3 c_y; cases hr; refine ⟨rfl,fun hp=>?_⟩; have hE:=rPlain13_E ⟨c_k,c_f,c_p,c_s,c_y⟩ ty0 ty1 ty2 ty3 hp; exact hE
   ·cases hr)
theorem rProvesN_ok:SpecOk Tryz.prog rProvesN_n true (z04 true zcg) :=
 z0a z0r (show z1i Tryz.prog rProvesN_g from z05) (by kernel_rfl) mixedOrders Tryz.func55 rfl rfl (by kernel_rfl) (n:=2) (by decide +kernel) (I:=fun _ _=>[]) (fun _ _=>z06) (A:=fun _ _=>[])
  (fun args h r hr=>by
   unfold zcg at hr
   split at hr
   ·cases hr; exact ⟨rfl,fun hp=>hp.elim⟩
   ·cases hr)
theorem rTurnsN_ok:SpecOk Tryz.prog rTurnsN_n true (z04 true zfw) :=
 z0a z0r (show z1i Tryz.prog rTurnsN_g from z05) (by kernel_rfl) mixedOrders Tryz.func57 rfl rfl (by kernel_rfl) (n:=2) (by decide +kernel) (I:=fun _ _=>[]) (fun _ _=>z06) (A:=fun _ _=>[])
  (fun args h r hr=>by
   unfold zfw at hr
   split at hr
   ·cases hr; exact ⟨rfl,fun hp=>hp.elim⟩
   ·cases hr)
def zfo (I : Inst) (c : Cert) (ty0 ty1 ty2 ty3 ty4 ty5 : TypeId) : Prop :=
      True /\
 ((z02 I != (0:Int)) = true->(z02 I = z22 I c/\True)/\True) /\
 ((z02 I != (0:Int)) = false ->
 True /\
 ((!z3w { kind:=c.kind,flow:=c.flow,pot:=c.pot,side:=c.side,cycle:=c.cycle:Cert }) = true->((36:Int) = z22 I c/\True)/\True) /\
 ((!z3w { kind:=c.kind,flow:=c.flow,pot:=c.pot,side:=c.side,cycle:=c.cycle:Cert }) = false ->
 ((c.kind == (1:Int)) = true ->
 (I.sup.length <= (10000:Nat)/\I.arcs.length <= (10000:Nat)/\A64 c.flow/\A64 I.sup/\A64 c.pot/\A64c I.arcs) /\
 (z1o I c.flow c.pot = z22 I c/\True)/\True) /\
 ((c.kind == (1:Int)) = false ->
 ((c.kind == (2:Int)) = true->False/\((0:Int) = z22 I c/\True)/\True) /\
 ((c.kind == (2:Int)) = false ->
 (I.sup.length <= (10000:Nat)/\I.arcs.length <= (10000:Nat)/\A64 c.flow/\A64 I.sup) /\
 ((z20 I c.flow != (0:Int)) = true->(z20 I c.flow = z22 I c/\True)/\True) /\
 ((z20 I c.flow != (0:Int)) = false->False/\((0:Int) = z22 I c/\True)/\True)))))
theorem rCheckB_q (I:Inst) (c:Cert) (ty0 ty1 ty2 ty3 ty4 ty5:TypeId):zfo I c ty0 ty1 ty2 ty3 ty4 ty5 = z3a TT zku (rCheckB_I I c) (rCheckB_an I c) Tryz.f18 [.agg [.row 0,.row 1],.agg [.int .i64 c.kind,.row 2,.row 3,.row 4,.row 5]] [(0,.row false ty0 (.ints .i64 I.sup)),(1,.row false ty1 (.arcs I.arcs)),(2,.row false ty2 (.ints .i64 c.flow)),(3,.row false ty3 (.ints .i64 c.pot)),(4,.row false ty4 (.bools c.side)),(5,.row false ty5 (.ints .i64 c.cycle))] (zkw I c):=by kernel_rfl
theorem rCheckB_E (I:Inst) (c:Cert) (ty0 ty1 ty2 ty3 ty4 ty5:TypeId) (hp:z51 c/\z97 I/\c.kind = 1):FVc TT zku (rCheckB_I I c) (rCheckB_an I c) Tryz.f18 [.agg [.row 0,.row 1],.agg [.int .i64 c.kind,.row 2,.row 3,.row 4,.row 5]] [(0,.row false ty0 (.ints .i64 I.sup)),(1,.row false ty1 (.arcs I.arcs)),(2,.row false ty2 (.ints .i64 c.flow)),(3,.row false ty3 (.ints .i64 c.pot)),(4,.row false ty4 (.bools c.side)),(5,.row false ty5 (.ints .i64 c.cycle))] (zkw I c):=by
 refine FVc.of (zfo I c ty0 ty1 ty2 ty3 ty4 ty5) (rCheckB_q I c ty0 ty1 ty2 ty3 ty4 ty5) ?_
 unfold zfo
 obtain ⟨c1,c2,c3,c4,c5,c6⟩:=hp.1
 obtain ⟨i1,i2,i3,i4,i5⟩:=hp.2.1
 have kk:=hp.2.2
 simp only [eq_self,exists_const,forall_const,decide_eq_true_eq,decide_eq_false_iff_not,and_true,true_and,bne_iff_ne,ne_eq,bne_eq_false_iff_eq,Int.toNat_natCast,Bool.not_eq_true',Bool.not_eq_false',beq_iff_eq,beq_eq_false_iff_ne,z08]
 refine ⟨fun h=>by unfold z22; rw [if_pos h],fun h=>⟨fun h2=>by unfold z22; rw [if_neg (fun h5=>h5 h),if_pos h2],fun h2=>?_⟩⟩
 have e0:z22 I c = if c.kind = 1 then z1o I c.flow c.pot else if c.kind = 2 then z5b I c.side else if z20 I c.flow ≠ 0 then z20 I c.flow else z7b I c.cycle:=by
  unfold z22; rw [if_neg (fun h5=>h5 h),if_neg (by rw [h2]; simp)]
 rw [e0]
 exact ⟨fun k1=>⟨⟨i1,i2,c1,i3,c2,i5⟩,by rw [if_pos k1]⟩,fun k1=>absurd kk k1⟩
theorem rCheckB_ok:SpecOk Tryz.prog zkv true (z04 true zb1) :=
 z0a z0r (show z1i Tryz.prog zku from z01 rRight_ok (z01 rPlain13_ok (z01 rSlack_ok (z01 rProvesN_ok (z01 rFits_ok (z01 rTurnsN_ok (z05))))))) (by kernel_rfl) mixedOrders Tryz.func18 rfl rfl (by kernel_rfl) (n:=2) (by decide +kernel) (I:=rCheckB_IA) (fun _ _=>z06) (A:=rCheckB_A)
  (fun args h r hr=>by
   unfold zb1 at hr
   split at hr
   ·rename_i c_k ty0 I_s ty1 I_a ty2 c_f ty3 c_p ty4 c_s ty5 c_y; cases hr; refine ⟨rfl,fun hp=>?_⟩; have hE:=rCheckB_E ⟨I_s,I_a⟩ ⟨c_k,c_f,c_p,c_s,c_y⟩ ty0 ty1 ty2 ty3 ty4 ty5 hp; exact hE
   ·cases hr)
end Go.Proofs.YtggblkbecekbdaaGreat
end
section
namespace Go.Ql
open Go Go.Vc
theorem YB.a64 {x:List Int} (h:YB x):A64 x:=fun y hy=>by have:=h y hy; unfold I64; omega
theorem zg9 {I:Inst} {x p:List Int} (h:z1o I x p = 0):z20 I x = 0:=by
 unfold z1o at h
 split at h
 ·rename_i hn; exact absurd h hn
 ·rename_i hn; exact Classical.byContradiction hn
theorem solve_ok {I:Inst} {c:Cert} {e:Int} (hr:z02 I = 0) (h:SolveP I c e):z51 c/\z22 I c = 0/\c.flow.length <= 256/\c.pot.length <= 64/\c.side.length <= 64/\c.cycle.length <= 256:=by
 obtain ⟨-,h1,h2,h3,-⟩:=h.ok hr
 have hs:=z0c hr
 have hl:c.flow.length <= 256/\c.pot.length <= 64/\c.side.length <= 64/\c.cycle.length <= 256:=by
  obtain ⟨-,hp,hk⟩:=z59 h1
  unfold z3w at hp
  rcases hk with ⟨k,h4⟩ | ⟨k,h4⟩ | ⟨k,h4,h5⟩
  ·have hf:=(fitsF_zero.1 (zg9 h4)).2.1
   have hpl:c.pot.length = I.sup.length:=by
    unfold z1o at h4
    rw [if_neg (fun hn=>hn (zg9 (by unfold z1o; exact h4)))] at h4
    split at h4
    ·cases h4
    ·rename_i hh; exact Classical.byContradiction hh
   rw [if_pos k,Bool.and_eq_true,decide_eq_true_eq,decide_eq_true_eq] at hp
   omega
  ·rw [if_neg (by omega),if_pos k,Bool.and_eq_true,Bool.and_eq_true,decide_eq_true_eq,decide_eq_true_eq,decide_eq_true_eq] at hp
   have:c.side.length = I.sup.length:=by
    unfold z5b at h4
    rw [if_neg (fun hn=>hn hr)] at h4
    split at h4
    ·cases h4
    ·rename_i hh; exact Classical.byContradiction hh
   omega
  ·rw [if_neg (by omega),if_neg (by omega),if_pos k,Bool.and_eq_true,decide_eq_true_eq,decide_eq_true_eq] at hp
   have hf:=(fitsF_zero.1 h4).2.1
   have:c.cycle.length <= I.arcs.length:=by
    unfold z7b at h5
    rw [if_neg (fun hn=>hn hr)] at h5
    split at h5
    ·cases h5
    ·omega
   omega
 exact ⟨⟨h2.a64,h3.a64,by omega,by omega,by omega,by omega⟩,h1,hl⟩
structure ValueP (I:Inst) (w:Wide) (k:Int):Prop where
 ex:∃ c,z51 c/\z22 I c = 0/\c.kind = k/\w = z13 I c
 yb:∃ c,z51 c/\z22 I c = 0/\YB c.flow/\YB c.pot/\∀ C:Int,0 <= C->(∀ s,okS I s->-C <= csS I s/\csS I s <= C)->∀ k,-(C * 32768) <= c.pot.getD k 0/\c.pot.getD k 0 <= C * 32768
theorem ValueP.one {I:Inst} {w:Wide} {k:Int} (h:ValueP I w k) {c:Cert} (hc:z51 c) (h1:z22 I c = 0):k = c.kind/\w = z13 I c:=by
 obtain ⟨d,q1,q2,rfl,rfl⟩:=h.ex
 exact cert_one q1 hc q2 h1
theorem ValueP.pos {I:Inst} {w:Wide} {k:Int} (h:ValueP I w k):z02 I = 0/\(k = 1 ∨ k = 2 ∨ k = 3):=by
 obtain ⟨d,q1,q2,rfl,rfl⟩:=h.ex
 obtain ⟨hr,hp,-⟩:=z59 q2
 exact ⟨hr,zkg hp⟩
def FeasQ (I:Inst):Prop:=∃ x,A64 x/\z20 I x = 0
def NegQ (I:Inst):Prop:=∃ l,z7b I l = 0/\l.length <= 140737488351232
theorem ValueP.feas {I:Inst} {w:Wide} {k:Int} (h:ValueP I w k) (hk:k ≠ 2):FeasQ I:=by
 obtain ⟨d,q1,q2,rfl,-⟩:=h.ex
 obtain ⟨hr,-,q3⟩:=z59 q2
 rcases q3 with ⟨-,a⟩ | ⟨a,-⟩ | ⟨-,a,-⟩
 ·exact ⟨_,q1.1,zg9 a⟩
 ·omega
 ·exact ⟨_,q1.1,a⟩
theorem ValueP.neg {I:Inst} {w:Wide} {k:Int} (h:ValueP I w k) (hk:k ≠ 2):k = 3 ↔ NegQ I:=by
 refine ⟨fun h3=>?_,fun ⟨l,hl,hll⟩=>?_⟩
 ·obtain ⟨d,q1,q2,rfl,-⟩:=h.ex
  obtain ⟨hr,-,q3⟩:=z59 q2
  rcases q3 with ⟨a,-⟩ | ⟨a,-⟩ | ⟨-,-,a⟩
  ·omega
  ·omega
  ·exact ⟨_,a,q1.2.2.2.2.2⟩
 ·obtain ⟨x,hx,hf⟩:=h.feas hk
  have hlen:=(fitsF_zero.1 hf).2.1
  have hr:=(fitsF_zero.1 hf).1
  have hs:=z0c hr
  have hc:z22 I ⟨3,x,[],[],l⟩ = 0:=by
   unfold z22 z3w
   simp [hr,hf,hl]
  exact (h.one (c:=⟨3,x,[],[],l⟩) ⟨hx,YB.nil.a64,by dsimp only; omega,by simp,by simp,hll⟩ hc).1
structure ArcFew (n:Int) (a:Arc):Prop where
 s0:0 <= a.src
 s1:a.src < n
 d0:0 <= a.dst
 d1:a.dst < n
 l0:0 <= a.low
 l1:a.low <= 500
 c:a.cap = inf ∨ a.low <= a.cap/\a.cap <= 2000
 k0:-2000 <= a.cost
 k1:a.cost <= 2000
structure FewI (I:Inst):Prop where
 n1:1 <= I.sup.length
 n2:I.sup.length <= 30
 m:I.arcs.length <= 64
 arc:∀ a ∈ I.arcs,ArcFew I.sup.length a
 sup:Within 100000 I.sup
 sum:I.sup.sum = 0
theorem FewI.right {I:Inst} (h:FewI I):z02 I = 0:=by
 have:=h.n2; have:=h.m
 refine right_of (by omega) (by omega) (fun a ha=>?_) (fun x hx=>by have:=h.sup x hx; omega) h.sum
 have h:=h.arc a ha
 have hi:inf = 4611686018427387904:=rfl
 have:=h.s0; have:=h.s1; have:=h.d0; have:=h.d1; have:=h.l0; have:=h.l1; have:=h.c; have:=h.k0; have:=h.k1
 unfold z0d
 rw [if_neg (by omega),if_neg (by omega),if_neg (by omega),if_neg (by omega)]
theorem ValueP.none {I:Inst} {w:Wide} {k:Int} (h:ValueP I w k) (hk:k ≠ 1):w = ⟨0,0⟩:=by
 obtain ⟨d,q1,q2,rfl,rfl⟩:=h.ex
 unfold z13; rw [if_neg hk]
theorem inst_ok {I:Inst} (h:z02 I = 0):z97 I:=by
 obtain ⟨a1,a2,a3,a4⟩:=right_A64 h
 have:=z0c h
 exact ⟨by omega,by omega,a3,a1,a2⟩
end Go.Ql
end
section
namespace Go.Proofs.YtggblkbecekbdaaGreat
open Go Go.RowKit Go.Ql Go.Vc
def zjy:FRes:={ pre:=True,res:=.bool (true),rows:=[],eff:=[] }
def zfb:FS:=fun args h=>match args,h with
 | [],[]=>some (zjy)
 | _,_=>none
def known20_an:List (Nat × Ann):=[]
def known20_A:List SV->z0e->List (Nat × Ann):=fun _ _=>[]
def zjx:z0b:=[(Solve_n,(true,z0t true zh9)),(ValueC_n,(true,z04 true zd3)),(Of_n,(true,z04 true Of_fs)),(zkv,(true,z04 true zb1))]
abbrev known20_n:Nat:=10
def known20_I:List (Nat × z09):=[]
def known20_IA:List SV->z0e->List (Nat × z09):=fun _ _=>[]
end Go.Proofs.YtggblkbecekbdaaGreat
end
section
namespace Go.Proofs.YtggblkbecekbdaaGreat
open Go Go.RowKit Go.Ql Go.Vc
abbrev z7o (g:Cert × Int):=(z13 { sup:=[(3:Int),(-3:Int)],arcs:=[{ src:=(0:Int),dst:=(1:Int),low:=(0:Int),cap:=(2:Int),cost:=(1:Int):Arc },{ src:=(0:Int),dst:=(1:Int),low:=(0:Int),cap:=(2:Int),cost:=(5:Int):Arc }]:Inst } { kind:=g.1.kind,flow:=g.1.flow,pot:=g.1.pot,side:=g.1.side,cycle:=g.1.cycle:Cert })
def zfa : Prop :=
   (z02 { sup:=[(3:Int),(-3:Int)],arcs:=[{ src:=(0:Int),dst:=(1:Int),low:=(0:Int),cap:=(2:Int),cost:=(1:Int):Arc },{ src:=(0:Int),dst:=(1:Int),low:=(0:Int),cap:=(2:Int),cost:=(5:Int):Arc }]:Inst } = (0:Int)->SmallI { sup:=[(3:Int),(-3:Int)],arcs:=[{ src:=(0:Int),dst:=(1:Int),low:=(0:Int),cap:=(2:Int),cost:=(1:Int):Arc },{ src:=(0:Int),dst:=(1:Int),low:=(0:Int),cap:=(2:Int),cost:=(5:Int):Arc }]:Inst })/\∀ (g:Cert × Int),SolveP { sup:=[(3:Int),(-3:Int)],arcs:=[{ src:=(0:Int),dst:=(1:Int),low:=(0:Int),cap:=(2:Int),cost:=(1:Int):Arc },{ src:=(0:Int),dst:=(1:Int),low:=(0:Int),cap:=(2:Int),cost:=(5:Int):Arc }]:Inst } g.1 g.2->(z51 { kind:=g.1.kind,flow:=g.1.flow,pot:=g.1.pot,side:=g.1.side,cycle:=g.1.cycle:Cert }/\(z97 { sup:=[(3:Int),(-3:Int)],arcs:=[{ src:=(0:Int),dst:=(1:Int),low:=(0:Int),cap:=(2:Int),cost:=(1:Int):Arc },{ src:=(0:Int),dst:=(1:Int),low:=(0:Int),cap:=(2:Int),cost:=(5:Int):Arc }]:Inst }))/\((g.2 == (0:Int)) = true->((g.1.kind == (1:Int)) = true->(decide (g.1.kind = (1:Int)) = true->I64 (7:Int)/\((decide ([(z7o g).hi,(z7o g).lo] = [(W (7:Int)).hi,(W (7:Int)).lo]) = true->(z51 { kind:=g.1.kind,flow:=g.1.flow,pot:=g.1.pot,side:=g.1.side,cycle:=g.1.cycle:Cert }/\(z97 { sup:=[(3:Int),(-3:Int)],arcs:=[{ src:=(0:Int),dst:=(1:Int),low:=(0:Int),cap:=(2:Int),cost:=(1:Int):Arc },{ src:=(0:Int),dst:=(1:Int),low:=(0:Int),cap:=(2:Int),cost:=(5:Int):Arc }]:Inst }/\(g.1.kind = (1:Int))))/\(((z22 { sup:=[(3:Int),(-3:Int)],arcs:=[{ src:=(0:Int),dst:=(1:Int),low:=(0:Int),cap:=(2:Int),cost:=(1:Int):Arc },{ src:=(0:Int),dst:=(1:Int),low:=(0:Int),cap:=(2:Int),cost:=(5:Int):Arc }]:Inst } { kind:=g.1.kind,flow:=g.1.flow,pot:=g.1.pot,side:=g.1.side,cycle:=g.1.cycle:Cert } == (0:Int)) = true/\True)/\True))/\(decide ([(z7o g).hi,(z7o g).lo] = [(W (7:Int)).hi,(W (7:Int)).lo]) = false->(false = true/\True)/\True)))/\(decide (g.1.kind = (1:Int)) = false->(false = true/\True)/\True))/\((g.1.kind == (1:Int)) = false->(false = true/\True)/\True))/\((g.2 == (0:Int)) = false->(false = true/\True)/\True)
theorem known20_q:zfa = z3a TT zjx (known20_I) (known20_an) Tryz.f10 [] [] (zjy):=by kernel_rfl
theorem known20_E (hp:True):FVc TT zjx (known20_I) (known20_an) Tryz.f10 [] [] (zjy):=by
 refine FVc.of (zfa) (known20_q) ?_
 unfold zfa
 delta z7o
 simp only [eq_self,exists_const,forall_const,decide_eq_true_eq,decide_eq_false_iff_not,and_true,true_and,bne_iff_ne,ne_eq,bne_eq_false_iff_eq,Int.toNat_natCast,Bool.not_eq_true',Bool.not_eq_false',beq_iff_eq,beq_eq_false_iff_ne,z08]
 have hr:z02 ⟨[3,-3],[⟨0,1,0,2,1⟩,⟨0,1,0,2,5⟩]⟩ = 0:=by decide
 have hsm:SmallI ⟨[3,-3],[⟨0,1,0,2,1⟩,⟨0,1,0,2,5⟩]⟩:=⟨by simp,by simp⟩
 have hc0:z22 ⟨[3,-3],[⟨0,1,0,2,1⟩,⟨0,1,0,2,5⟩]⟩ ⟨1,[2,1],[5,0],[],[]⟩ = 0:=by decide
 have hv0:z13 ⟨[3,-3],[⟨0,1,0,2,1⟩,⟨0,1,0,2,5⟩]⟩ ⟨1,[2,1],[5,0],[],[]⟩ = W 7:=by decide
 have h0:z51 ⟨1,[2,1],[5,0],[],[]⟩:=by simp [z51,A64,I64]
 have hi:=inst_ok hr
 generalize (⟨[3,-3],[⟨0,1,0,2,1⟩,⟨0,1,0,2,5⟩]⟩:Inst) = I at *
 refine ⟨fun _=>hsm,?_⟩
 rintro ⟨c,e⟩ hS
 obtain ⟨q1,q2,q3⟩:=solve_ok hr hS
 obtain ⟨hk,hv⟩:=cert_one q1 h0 q2 hc0
 have he:=(hS.ok hr).1
 rw [hv0] at hv
 dsimp only at he hk hv q1 q2 q3 ⊢
 rw [hv]
 exact ⟨⟨q1,hi⟩,fun _=>⟨fun _=>⟨fun _=>⟨by unfold I64; omega,fun _=>⟨⟨q1,hi,hk⟩,q2⟩,fun h=>absurd rfl h⟩,fun h=>absurd hk h⟩,fun h=>absurd hk h⟩,fun h=>absurd he h⟩
theorem known20_ok:SpecOk Tryz.prog known20_n true (z04 true zfb) :=
 z0a z0r (show z1i Tryz.prog zjx from z01 Solve_ok (z01 ValueC_ok (z01 Of_ok (z01 rCheckB_ok (z05))))) (by kernel_rfl) mixedOrders Tryz.func10 rfl rfl (by kernel_rfl) (n:=0) (by decide +kernel) (I:=known20_IA) (fun _ _=>z06) (A:=known20_A)
  (fun args h r hr=>by
   unfold zfb at hr
   split at hr
   ·cases hr; refine ⟨rfl,fun hp=>?_⟩; have hE:=known20_E  hp; exact hE
   ·cases hr)
end Go.Proofs.YtggblkbecekbdaaGreat
end
section
namespace Go.Ql
open Go Go.Vc
theorem turns_char {I:Inst} {l:List Int}:z7b I l = 0 ↔ z02 I = 0/\1 <= l.length/\l.length <= I.arcs.length/\(∀ a ∈ l,0 <= a/\a < I.arcs.length)/\l.Nodup/\(∀ k,k < l.length->(z64 I (l.getD k 0)).dst = (z64 I (l.getD ((k + 1) % l.length) 0)).src)/\(∀ a ∈ l,(z64 I a).cap = inf)/\rayS I l < 0:=by
 have hc5:z02 I = 0->l.length <= I.arcs.length->(c5F I l = true ↔ rayS I l < 0):=fun hr hl=>by
  have hs:=z0c hr
  have e2:=rayK_bd hr l l.length
  unfold c5F
  rw [decide_eq_true_eq]
  unfold rayS at *
  rw [zbt (by unfold z96; omega) (by unfold z96; omega)]
  by_cases h:rayK I l l.length < 0
  ·rw [if_pos h]; simp [h]
  ·rw [if_neg h]; split <;> simp [h]
 unfold z7b
 constructor
 ·intro h
  split at h
  ·rename_i hn; exact absurd h hn
  ·rename_i hr
   have hr:=Classical.byContradiction hr
   split at h
   ·cases h
   ·rename_i hl
    split at h
    ·rename_i hc
     simp only [Bool.and_eq_true] at hc
     obtain ⟨⟨⟨⟨c1,c2⟩,c3⟩,c4⟩,c5⟩:=hc
     refine ⟨hr,by omega,by omega,fun a ha=>isArcF_iff.1 (List.all_eq_true.1 c1 a ha),of_decide_eq_true c2,fun k hk=>of_decide_eq_true (List.all_eq_true.1 c3 k (List.mem_range.2 hk)),fun a ha=>of_decide_eq_true (List.all_eq_true.1 c4 a ha),(hc5 hr (by omega)).1 c5⟩
    ·cases h
 ·rintro ⟨hr,h1,h2,c1,c2,c3,c4,c5⟩
  have e1:c1F I l = true:=List.all_eq_true.2 fun a ha=>isArcF_iff.2 (c1 a ha)
  have e2:c2F l = true:=decide_eq_true c2
  have e3:c3F I l = true:=List.all_eq_true.2 fun k hk=>decide_eq_true (c3 k (List.mem_range.1 hk))
  have e4:c4F I l = true:=List.all_eq_true.2 fun a ha=>decide_eq_true (c4 a ha)
  rw [if_neg (fun h=>h hr),if_neg (by omega),e1,e2,e3,e4,(hc5 hr h2).2 c5]
  rfl
def z2z {α:Type} (f:α->α) (s:List α) (k:Nat):List α:=(s.take k).map f ++ s.drop k
section
variable {α:Type} (f:α->α) (s:List α)
theorem stepL_zero:z2z f s 0 = s:=by simp [z2z]
theorem zeg (k:Nat):(z2z f s k).length = s.length:=by simp [z2z]; omega
theorem stepL_end {k:Nat} (h:s.length <= k):z2z f s k = s.map f:=by unfold z2z; rw [List.take_of_length_le h,List.drop_eq_nil_of_le h,List.append_nil]
variable {f s}
theorem stepL_get {k:Nat} {x:α} (h:(z2z f s k)[k]? = some x):s[k]? = some x:=by
 have hk:=(List.getElem?_eq_some_iff.1 h).1
 rw [zeg] at hk
 unfold z2z at h
 rw [List.getElem?_append_right (by simp; omega)] at h
 rw [List.length_map,List.length_take,Nat.min_eq_left (by omega),Nat.sub_self,List.getElem?_drop,Nat.add_zero] at h
 exact h
theorem stepL_set {k:Nat} {x y:α} (h:s[k]? = some x) (hy:y = f x):(z2z f s k).set k y = z2z f s (k + 1):=by
 have hk:=(List.getElem?_eq_some_iff.1 h).1
 subst hy
 have hl:((s.take k).map f).length = k:=by simp; omega
 unfold z2z
 rw [List.set_append_right _ _ (by omega),hl,Nat.sub_self,z4a h,List.set_cons_zero,z1q h,List.map_append]
 simp
end
def swapA (a:Arc):Arc:=⟨a.dst,a.src,a.low,a.cap,a.cost⟩
end Go.Ql
end
section
namespace Go.Ql
open Go Go.Vc
end Go.Ql
end
section
namespace Go.Ql
open Go Go.Vc
def redN (I:Inst) (p:List Int) (c:Nat):Int:=(z2i I c).cost - p.getD (z2i I c).src.toNat 0 + p.getD (z2i I c).dst.toNat 0
theorem proves_char {I:Inst} {S:List Bool}:z5b I S = 0 ↔ z02 I = 0/\S.length = I.sup.length/\∃ t,z5u I S = some t/\t < z2h I S:=by
 unfold z5b
 constructor
 ·intro h
  split at h
  ·rename_i hn; exact absurd h hn
  ·rename_i hr
   have hr:=Classical.byContradiction hr
   have hs:=z0c hr
   split at h
   ·cases h
   ·rename_i hl
    cases hc:z5u I S with
    | none=>rw [hc] at h; cases h
    | some t =>
     rw [hc] at h
     dsimp only at h
     refine ⟨hr,Classical.byContradiction hl,t,rfl,?_⟩
     split at h
     ·cases h
     ·rename_i hle
      apply Int.lt_of_not_ge
      intro hge
      exact hle ((zhc hr (by omega) (by omega) (z1g hr).1 hc (z2h I S) rfl).2 hge)
 ·rintro ⟨hr,hl,t,ht,hlt⟩
  have hs:=z0c hr
  rw [if_neg (fun h=>h hr),if_neg (fun h=>h hl),ht]
  dsimp only
  rw [if_neg]
  intro hle
  have:=(zhc hr (by omega) (by omega) (z1g hr).1 ht (z2h I S) rfl).1 hle
  omega
end Go.Ql
end
section
namespace Go.Ql
open Go Go.Vc
theorem pot_turns {I:Inst} {π:Nat->Int} (hp:z91 I (endS I) π) {l:List Int}:z7b I l ≠ 0:=fun h=>by
 obtain ⟨hr,h1,h2,c1,c2,c3,c4,c5⟩:=turns_char.1 h
 have hm:∀ k,k < l.length->l.getD k 0 ∈ l:=fun k hk=>by rw [List.getD_eq_getElem?_getD,List.getElem?_eq_getElem hk]; exact List.getElem_mem _
 have hk:∀ t,t <= l.length->z1k (fun k=>π (z64 I (l.getD ((k + 1) % l.length) 0)).src.toNat - π (z64 I (l.getD k 0)).src.toNat) t <= rayK I l t:=fun t=>by
  induction t with
  | zero=>intro _; simp [rayK,z1k]
  | succ t ih =>
   intro ht
   have hmt:=hm t (by omega)
   obtain ⟨q1,q2⟩:=c1 _ hmt
   have e1:isArcF I (l.getD t 0) = true:=isArcF_iff.2 ⟨q1,q2⟩
   have hcap:=c4 _ hmt
   have hs:okS I ((l.getD t 0).toNat,false):=by unfold okS; dsimp only; omega
   have:=hp ((l.getD t 0).toNat,false) hs (by unfold endS; simp; exact hcap)
   have e2:toS I ((l.getD t 0).toNat,false) = (z64 I (l.getD t 0)).dst.toNat:=rfl
   have e3:frS I ((l.getD t 0).toNat,false) = (z64 I (l.getD t 0)).src.toNat:=rfl
   have e4:csS I ((l.getD t 0).toNat,false) = (z64 I (l.getD t 0)).cost:=rfl
   rw [e2,e3,e4] at this
   have ih:=ih (by omega)
   rw [rayK,z1k,<- c3 t (by omega)]
   unfold rayD
   rw [if_pos e1]
   omega
 have:=hk _ (Nat.le_refl _)
 rw [zg2 (fun k=>π (z64 I (l.getD k 0)).src.toNat) l.length (Nat.le_refl _) (by omega),Nat.mod_self] at this
 unfold rayS at c5
 omega
structure KindQ (I:Inst) (k e:Int):Prop where
 bad:z02 I ≠ 0->e = z02 I/\k = 0
 ok:z02 I = 0->e = 0/\(k = 2/\¬ FeasQ I ∨ k = 3/\FeasQ I/\NegQ I ∨ k = 1/\FeasQ I/\¬ NegQ I)
theorem kind_bad {I:Inst} (hr:z02 I ≠ 0):KindQ I 0 (z02 I):=⟨fun _=>⟨rfl,rfl⟩,fun h=>absurd h hr⟩
theorem fill_feas {I:Inst} {x o:List Int} {m:List Bool} (h:FillP I x o m false):FeasQ I:=⟨x,fits_len h,(h.no rfl).2⟩
theorem kind_cut {I:Inst} (hr:z02 I = 0) {x o:List Int} {m:List Bool} (h:FillP I x o m true):KindQ I 2 0 :=
 ⟨fun h2=>absurd hr h2,fun _=>⟨rfl,.inl ⟨rfl,fun ⟨y,hy,hf⟩=>by
  have hs:=z0c hr
  exact z8n (by omega) (by omega) hy (z1g hr).1 (h.yes rfl) hf⟩⟩⟩
theorem kind_ray {I:Inst} (hr:z02 I = 0) {x o:List Int} {m:List Bool} (h:FillP I x o m false) {l:List Int} (hl:RoundP I l true):KindQ I 3 0 :=
 ⟨fun h2=>absurd hr h2,fun _=>⟨rfl,.inr (.inl ⟨rfl,fill_feas h,l,hl.yes rfl,by
  have hs:=z0c hr
  have:=(turns_char.1 (hl.yes rfl)).2.2.1
  omega⟩)⟩⟩
theorem kind_best {I:Inst} (hr:z02 I = 0) {x o:List Int} {m:List Bool} (h:FillP I x o m false) {l:List Int} (hl:RoundP I l false):KindQ I 1 0 :=
 ⟨fun h2=>absurd hr h2,fun _=>⟨rfl,.inr (.inr ⟨rfl,fill_feas h,fun ⟨l2,ht,_⟩=>by
  obtain ⟨-,π,hπ⟩:=hl.no rfl
  exact pot_turns hπ ht⟩)⟩⟩
end Go.Ql
end
section
namespace Go.Ql
open Go Go.Vc
def idxS {α:Type} [Inhabited α] (f:Nat->α->α) (l:List α) (k:Nat):List α:=(List.range l.length).map fun c=>if c < k then f c (l.getD c default) else l.getD c default
section
variable {α:Type} [Inhabited α] {f:Nat->α->α} {l:List α}
theorem z8g (f:Nat->α->α) (l:List α) (k:Nat):(idxS f l k).length = l.length:=by simp [idxS]
theorem zaw {k c:Nat} (h:c < l.length):(idxS f l k)[c]? = some (if c < k then f c (l.getD c default) else l.getD c default):=by
 unfold idxS; rw [List.getElem?_map,List.getElem?_range h]; rfl
theorem idxS_zero (f:Nat->α->α) (l:List α):idxS f l 0 = l:=by
 refine List.ext_getElem? fun t=>?_
 by_cases h:t < l.length
 ·rw [zaw h,if_neg (Nat.not_lt_zero _),List.getD_eq_getElem?_getD,List.getElem?_eq_getElem h]; rfl
 ·rw [List.getElem?_eq_none (by rw [z8g]; omega),List.getElem?_eq_none (by omega)]
theorem idxS_at {k:Nat} {y:α} (h:(idxS f l k)[k]? = some y):l[k]? = some y:=by
 have hk:=(List.getElem?_eq_some_iff.1 h).1
 rw [z8g] at hk
 rw [zaw hk,if_neg (Nat.lt_irrefl _),List.getD_eq_getElem?_getD,List.getElem?_eq_getElem hk] at h
 rw [List.getElem?_eq_getElem hk]; exact h
theorem idxS_set {k:Nat} {y z:α} (h:l[k]? = some y) (hz:z = f k y):(idxS f l k).set k z = idxS f l (k + 1):=by
 have hk:=(List.getElem?_eq_some_iff.1 h).1
 have hy:l.getD k default = y:=by rw [List.getD_eq_getElem?_getD,h]; rfl
 refine List.ext_getElem? fun t=>?_
 rw [List.getElem?_set,z8g]
 by_cases ht:t < l.length
 ·rw [zaw (k:=k + 1) ht]
  by_cases e1:k = t
  ·subst e1; rw [if_pos rfl,if_pos hk,if_pos (Nat.lt_succ_self _),hy,hz]
  ·rw [if_neg e1,zaw ht]
   by_cases h2:t < k
   ·rw [if_pos h2,if_pos (by omega)]
   ·rw [if_neg h2,if_neg (by omega)]
 ·rw [if_neg (by omega),List.getElem?_eq_none (by rw [z8g]; omega),List.getElem?_eq_none (by rw [z8g]; omega)]
theorem idxS_same {k:Nat} {y:α} (h:l[k]? = some y) (hz:y = f k y):idxS f l k = idxS f l (k + 1):=by
 have hk:=(List.getElem?_eq_some_iff.1 h).1
 rw [<- idxS_set h hz]
 refine List.ext_getElem? fun t=>?_
 rw [List.getElem?_set,z8g]
 by_cases e1:k = t
 ·subst e1; rw [if_pos rfl,if_pos hk,zaw hk,if_neg (Nat.lt_irrefl _),List.getD_eq_getElem?_getD,h]; rfl
 ·rw [if_neg e1]
end
end Go.Ql
end
section
namespace Go.Ql
open Go Go.Vc
def madeA (a:Arc) (r:Int):Arc:=if r < 0/\a.cap = inf then { a with cap:=a.low + 2 } else a
def madeX (a:Arc) (r f:Int):Int:=if r < 0 then (madeA a r).cap else if 0 < r then a.low else f
structure MadeI (I:Inst) (P F:List Int) (k:Nat) (B:List Arc) (y:List Int):Prop where
 lb:B.length = I.arcs.length
 ly:y.length = I.arcs.length
 b:∀ j,j < I.arcs.length->B.getD j default = if j < k then madeA (I.arcs.getD j default) (zhr I P j) else I.arcs.getD j default
 y:∀ j,j < I.arcs.length->y.getD j 0 = if j < k then madeX (I.arcs.getD j default) (zhr I P j) (F.getD j 0) else F.getD j 0
theorem MadeI.zero {I:Inst} {P F:List Int} (h:F.length = I.arcs.length):MadeI I P F 0 I.arcs F:=⟨rfl,h,fun j _=>by simp,fun j _=>by simp⟩
theorem getD_set' {α:Type} (l:List α) (k j:Nat) (v d:α) (h:k < l.length):(l.set k v).getD j d = if j = k then v else l.getD j d:=by
 rw [List.getD_eq_getElem?_getD,List.getD_eq_getElem?_getD,List.getElem?_set]
 by_cases hjk:k = j
 ·subst hjk; simp [h]
 ·rw [if_neg hjk,if_neg (fun e=>hjk e.symm)]
theorem MadeI.next {I:Inst} {P F:List Int} {k:Nat} {B:List Arc} {y:List Int} (h:MadeI I P F k B y) (hk:k < I.arcs.length) {B':List Arc} {y':List Int}
  (hB:B' = B.set k (madeA (I.arcs.getD k default) (zhr I P k))) (hy:y' = y.set k (madeX (I.arcs.getD k default) (zhr I P k) (F.getD k 0))):MadeI I P F (k + 1) B' y':=by
 subst hB hy
 refine ⟨by rw [List.length_set]; exact h.lb,by rw [List.length_set]; exact h.ly,fun j hj=>?_,fun j hj=>?_⟩
 ·rw [getD_set' _ _ _ _ _ (by rw [h.lb]; exact hk),h.b j hj]
  by_cases e:j = k
  ·subst e; simp
  ·rw [if_neg e]
   by_cases e2:j < k
   ·rw [if_pos e2,if_pos (by omega)]
   ·rw [if_neg e2,if_neg (by omega)]
 ·rw [getD_set' _ _ _ _ _ (by rw [h.ly]; exact hk),h.y j hj]
  by_cases e:j = k
  ·subst e; simp
  ·rw [if_neg e]
   by_cases e2:j < k
   ·rw [if_pos e2,if_pos (by omega)]
   ·rw [if_neg e2,if_neg (by omega)]
theorem MadeI.same {I:Inst} {P F:List Int} {k:Nat} {B:List Arc} {y:List Int} (h:MadeI I P F k B y) (hk:k < I.arcs.length):B.getD k default = I.arcs.getD k default/\y.getD k 0 = F.getD k 0:=by
 have h1:=h.b k hk; have h2:=h.y k hk
 rw [if_neg (Nat.lt_irrefl _)] at h1 h2
 exact ⟨h1,h2⟩
theorem madeA_nice {m:Int} {a:Arc} (h:a.Nice m) (r:Int):(madeA a r).Nice m:=by
 unfold madeA
 split
 ·have:=h.l0; have:=h.l1
  exact ⟨h.s0,h.s1,h.d0,h.d1,h.l0,h.l1,by dsimp only; omega,by dsimp only; omega,h.k0,h.k1⟩
 ·exact h
theorem MadeI.a64 {I:Inst} {P F:List Int} {k:Nat} {B:List Arc} {y:List Int} (h:MadeI I P F k B y) {m:Int} (hn:∀ a ∈ I.arcs,a.Nice m) (hF:A64 F):A64 y:=fun u hu=>by
 obtain ⟨j,hj⟩:=List.mem_iff_getElem?.1 hu
 have hjl:j < I.arcs.length:=by have:=(List.getElem?_eq_some_iff.1 hj).1; rw [h.ly] at this; exact this
 have e:=h.y j hjl
 rw [List.getD_eq_getElem?_getD,hj] at e
 have hm:I.arcs.getD j default ∈ I.arcs:=by rw [List.getD_eq_getElem?_getD,List.getElem?_eq_getElem hjl]; exact List.getElem_mem hjl
 have hf:=hF.getD j
 change u = _ at e
 rw [e]
 split
 ·have h1:=madeA_nice (hn _ hm) (zhr I P j)
  have h2:=hn _ hm
  have:=h1.c0; have:=h1.c1; have:=h1.l0; have:=h2.l0; have:=h2.l1; have:=h1.l1
  unfold madeX
  split
  ·unfold I64; omega
  ·split
   ·unfold I64; omega
   ·exact hf
 ·exact hf
theorem flow_in {I:Inst} {m:Int} (hn:∀ a ∈ I.arcs,a.Nice m) (d:List Int):∀ k a,I.arcs[k]? = some a->a.low <= (z2t I d).getD k 0/\(z2t I d).getD k 0 <= 7/\(a.cap = inf ∨ (z2t I d).getD k 0 <= a.cap):=fun k a ha=>by
 have hk:=(List.getElem?_eq_some_iff.1 ha).1
 have e:(z2t I d).getD k 0 = z72 d k a:=by
  unfold z2t
  rw [List.getD_eq_getElem?_getD,List.getElem?_map,List.getElem?_range hk]
  show z72 d k (I.arcs.getD k default) = _
  rw [List.getD_eq_getElem?_getD,ha]; rfl
 have hN:=hn _ (List.mem_of_getElem? ha)
 have:=hN.l0; have:=hN.l1; have:=hN.c0; have:=hN.c1
 rw [e]
 unfold z72 inf
 split <;> omega
end Go.Ql
end
section
namespace Go.Ql
open Go Go.Vc
structure NiceI (I:Inst):Prop where
 arc:∀ a ∈ I.arcs,a.Nice I.sup.length
 n:I.sup.length <= 1000
 m:I.arcs.length <= 1000
def bestV (r:Int) (a:Arc) (f:Int):Int:=if 0 < r then a.low else if r < 0/\a.cap ≠ inf then a.cap else f
def z84 (I:Inst) (P F:List Int) (k:Nat):List Int:=idxS (fun c f=>bestV (redN I P c) (z2i I c) f) F k
theorem zit (I:Inst) (P F:List Int) (k:Nat):(z84 I P F k).length = F.length:=z8g _ _ _
theorem best_seven {I:Inst} {m:Int} (hn:∀ a ∈ I.arcs,a.Nice m) (P:List Int) {F:List Int} (hF:F.length = I.arcs.length) (hb:∀ k a,I.arcs[k]? = some a->a.low <= F.getD k 0/\F.getD k 0 <= 7/\(a.cap = inf ∨ F.getD k 0 <= a.cap)) (k:Nat):∀ y ∈ z84 I P F k,0 <= y/\y <= 7:=fun y hy=>by
 obtain ⟨j,hj⟩:=List.mem_iff_getElem?.1 hy
 have hjl:=(List.getElem?_eq_some_iff.1 hj).1
 rw [zit] at hjl
 unfold z84 at hj
 rw [zaw hjl] at hj
 obtain ⟨hg,hm⟩:=zhb (show j < I.arcs.length by omega)
 have hq:=hn _ hm
 have h1:=hb j _ hg
 have h2:F.getD j default = F.getD j 0:=rfl
 rw [h2] at hj
 have:=hq.l0; have:=hq.l1; have:=hq.c0; have h3:=hq.c1
 have hi:inf = 4611686018427387904:=rfl
 cases hj
 unfold bestV
 split
 ·split
  ·omega
  ·split
   ·rename_i h4; have:=h4.2; omega
   ·omega
 ·omega
def zc2 (h:Int) (a:Arc):Arc:=if a.cap = inf/\h % 2 = 1 then { a with cap:=a.low + 5 } else a
theorem capM_nice {h m:Int} {a:Arc} (ha:a.Nice m):(zc2 h a).Nice m:=by
 have:=ha.l0; have:=ha.l1
 unfold zc2
 split
 ·exact ⟨ha.s0,ha.s1,ha.d0,ha.d1,ha.l0,ha.l1,by dsimp only; omega,by dsimp only; omega,ha.k0,ha.k1⟩
 ·exact ha
theorem zk6 (side:List Bool) (s:List Int) (k:Nat) (x:Int):∀ n,n <= s.length->z44 side (addAt s k x) n = z44 side s n + (if k < n then (if side.getD k false then x else 0) else 0)
 | 0,_=>by simp [z44]
 | n + 1,hn=>by
  have ih:=zk6 side s k x n (by omega)
  simp only [z44]
  rw [ih]
  have e:(addAt s k x).getD n 0 = if n = k then s.getD k 0 + x else s.getD n 0:=by
   unfold addAt
   rw [List.getD_eq_getElem?_getD,List.getElem?_set]
   by_cases h:k = n
   ·subst h; simp [show k < s.length by omega]
   ·have h':¬ n = k:=fun e=>h e.symm
    simp [h,h',List.getD_eq_getElem?_getD]
  rw [e]
  by_cases h:n = k
  ·subst h
   simp only [Nat.lt_irrefl,if_false,if_true,show n < n + 1 by omega]
   split <;> omega
  ·simp only [h,if_false]
   by_cases h2:k < n
   ·simp only [h2,show k < n + 1 by omega,if_true]; omega
   ·simp only [h2,show ¬ k < n + 1 by omega,if_false]; omega
theorem zds {m n:Int} {S:List Bool}:∀ {l:List Arc} {s t:Int},(∀ a ∈ l,a.Nice n)->z1f m S l s = some t->s - 7 * l.length <= t/\t <= s + 7 * l.length
 | [],s,t,_,h=>by simp [z1f] at h; subst h; simp
 | a :: l,s,t,hn,h=>by
  have ha:=hn a (by simp)
  have:=ha.l0; have:=ha.l1; have:=ha.c0; have hc:=ha.c1
  have hl:∀ b ∈ l,b.Nice n:=fun b hb=>hn b (by simp [hb])
  have e:((a :: l).length:Int) = l.length + 1:=by simp
  rw [z4k] at h
  rw [e]
  split at h
  ·split at h
   ·cases h
   ·rename_i h2
    have h3:=hc.resolve_right h2
    have:=zds hl h; omega
  ·split at h
   ·have:=zds hl h; omega
   ·have:=zds hl h; omega
def movS (s:List Int) (i j:Nat) (q:Int):List Int:=addAt (addAt s i q) j (-q)
theorem made_cut {I:Inst} (hr:z02 I = 0) (hN:∀ a ∈ I.arcs,a.Nice I.sup.length) (hm:I.arcs.length <= 18) (hn:I.sup.length <= 7) (hw:Within 1000 I.sup) {S:List Bool} (hS:S.length = I.sup.length) {t:Int} (ht:z5u I S = some t) {i j:Nat} (hi:i < I.sup.length) (hj:j < I.sup.length)
  (hiS:S.getD i false = true) (hjS:S.getD j false = false):-1000 <= t/\t <= 1000/\-7000 <= z2h I S/\z2h I S <= 7000/\∀ {k e:Int},KindQ ⟨movS I.sup i j (t - z2h I S + 1),I.arcs⟩ k e->e = 0/\k = 2:=by
 have h1:=zds hN ht
 have h2:=z8j (side:=S) (by omega) hw I.sup.length
 have h3:z2h I S = z44 S I.sup I.sup.length:=rfl
 have hl:(movS I.sup i j (t - z2h I S + 1)).length = I.sup.length:=by unfold movS; rw [z30,z30]
 refine ⟨by omega,by omega,by omega,by omega,fun {k e} hk=>?_⟩
 generalize hq:t - z2h I S + 1 = q at *
 have hw2:=(hw.addAt (by omega) i (x:=q) (y:=9000) (by omega) (by omega)).addAt (by omega) j (x:=-q) (y:=9000) (by omega) (by omega)
 have hr2:z02 ⟨movS I.sup i j q,I.arcs⟩ = 0:=by
  refine right_sup hl (by omega) (by omega) hN (hw2.more (by omega)) ?_
  unfold movS
  rw [addAt_sum _ _ _ (by rw [z30]; exact hj),addAt_sum _ _ _ hi]
  have:=(z1g hr).2
  omega
 have hp:z5b ⟨movS I.sup i j q,I.arcs⟩ S = 0:=by
  refine proves_char.2 ⟨hr2,by dsimp only; rw [hl]; exact hS,t,?_,?_⟩
  ·unfold z5u at ht ⊢
   dsimp only
   rw [hl]; exact ht
  ·unfold z2h
   dsimp only
   rw [hl]
   unfold movS
   rw [zk6 _ _ _ _ _ (by rw [z30]; exact Nat.le_refl _),zk6 _ _ _ _ _ (Nat.le_refl _),if_pos hj,if_pos hi,hiS,hjS]
   simp only [if_true,Bool.false_eq_true,if_false]
   omega
 have hnf:¬ FeasQ ⟨movS I.sup i j q,I.arcs⟩:=fun ⟨y,hy,hf⟩=>by
  have hs:=z0c hr2
  exact z8n (by omega) (by omega) hy (z1g hr2).1 hp hf
 obtain ⟨he,h4⟩:=hk.ok hr2
 refine ⟨he,?_⟩
 rcases h4 with h4 | h4 | h4
 ·exact h4.1
 ·exact absurd h4.2.1 hnf
 ·exact absurd h4.2.1 hnf
end Go.Ql
end
section
namespace Go.Proofs.YtggblkbecekbdaaGreat
open Go Go.RowKit Go.Ql Go.Vc
def zd5 (I:Inst) (e:List Int):Cert:=⟨1,z84 I (z4l e I.sup.length) (z2t I e) I.arcs.length,z4l e I.sup.length,[],[]⟩
def Best19_r (I:Inst) (e:List Int):FRes:={ pre:=Bytes e/\e.length <= maxLen/\NiceI I,res:=.agg [.int .i64 (zd5 I e).kind,.row 3,.row 4,.row 5,.row 6],rows:=[.row 2 (.ints .i64 (zd5 I e).flow),.row 2 (.ints .i64 (zd5 I e).pot),.row 4 (.bools (zd5 I e).side),.row 3 (.ints .i64 (zd5 I e).cycle)],eff:=[] }
def zi3:FS:=fun args h=>match args,h with
 | [.agg [.row 0,.row 1],.row 2],[(0,.row false ty0 (.ints .i64 I_s)),(1,.row false ty1 (.arcs I_a)),(2,.row false ty2 (.ints .u8 e))]=>some (Best19_r ⟨I_s,I_a⟩ e)
 | _,_=>none
def zi2 (I:Inst) (e:List Int):List (Nat × Ann):=[(1000002,{ G:=Unit,inv:=fun _=>⟨[(2,.ptr 3 0 0 0),(4,.ptr 8 0 0 0),(5,.ptr 19 0 0 0)],[(3,.box true 25 [.row 0,.row 1]),(8,.box true 39 [.int .i64 (0:Int),.row 4,.row 5,.row 6,.row 7]),(19,.box true 39 [.int .i64 (1:Int),.row 9,.row 10,.row 13,.row 14]),(0,.row false 0 (.ints .i64 I.sup)),(1,.row false 0 (.arcs I.arcs)),(4,.row true 2 (.ints .i64 [])),(5,.row true 2 (.ints .i64 [])),(6,.row true 4 (.bools [])),(7,.row true 3 (.ints .i64 [])),(9,.row true 2 (.ints .i64 (z2t I e))),(10,.row true 2 (.ints .i64 (z4l e (↑I.sup.length:Int).toNat))),(13,.row true 4 (.bools [])),(14,.row true 3 (.ints .i64 []))],20⟩,rel:=fun _ _=>True,meas:=fun _=>0 }),
 (3,{ G:=(Nat),inv:=fun k=>⟨[(2,.ptr 3 0 0 0),(4,.ptr 8 0 0 0),(5,.ptr 19 0 0 0),(6,.int .i64 k)],[(3,.box true 25 [.row 0,.row 1]),(8,.box true 39 [.int .i64 (0:Int),.row 4,.row 5,.row 6,.row 7]),(19,.box true 39 [.int .i64 (1:Int),.row 9,.row 10,.row 13,.row 14]),(0,.row false 0 (.ints .i64 I.sup)),(1,.row false 0 (.arcs I.arcs)),(4,.row true 2 (.ints .i64 [])),(5,.row true 2 (.ints .i64 [])),(6,.row true 4 (.bools [])),(7,.row true 3 (.ints .i64 [])),(9,.row true 2 (.ints .i64 (z84 I (z4l e I.sup.length) (z2t I e) k))),(10,.row true 2 (.ints .i64 (z4l e I.sup.length))),(13,.row true 4 (.bools [])),(14,.row true 3 (.ints .i64 []))],20⟩,rel:=fun k0 k=>k <= I.arcs.length,meas:=fun k=>I.arcs.length - k })]
def Best19_A:List SV->z0e->List (Nat × Ann):=fun args h=>match args,h with
 | [.agg [.row 0,.row 1],.row 2],[(0,.row false ty0 (.ints .i64 I_s)),(1,.row false ty1 (.arcs I_a)),(2,.row false ty2 (.ints .u8 e))]=>zi2 ⟨I_s,I_a⟩ e
 | _,_=>[]
def Best19_g:z0b:=[(Flow_n,(true,z04 true Flow_fs)),(Pot_n,(true,z04 true Pot_fs))]
abbrev Best19_n:Nat:=15
def Best19_I (I:Inst) (e:List Int):List (Nat × z09):=[]
def Best19_IA:List SV->z0e->List (Nat × z09):=fun _ _=>[]
end Go.Proofs.YtggblkbecekbdaaGreat
end
section
namespace Go.Proofs.YtggblkbecekbdaaGreat
open Go Go.RowKit Go.Ql Go.Vc
abbrev zd0 (e:List Int) (I:Inst):=((Bytes e/\(e.length <= maxLen/\((0:Int) <= ↑I.sup.length/\((↑I.sup.length:Int) <= 1000000))))/\(∃ (g:Unit),True/\((0 = 0/\(0 = 0/\(0 = 0/\True)))/\((True/\(True/\True))/\(((0:Int) = 0/\(True/\(True/\(True/\(True/\True)))))/\(((1:Int) = 1/\(True/\(True/\(True/\(True/\True)))))/\(I.sup = I.sup/\(I.arcs = I.arcs/\(z1s Int/\(z1s Int/\(z1s Bool/\(z1s Int/\(z2t I e = z2t I e/\(z4l e (↑I.sup.length:Int).toNat = z4l e (↑I.sup.length:Int).toNat/\(z1s Bool/\(z1s Int/\True))))))))))))))))
abbrev zi0 (I:Inst) (g':Nat) (g:Nat) (e:List Int) (x:Arc):=(I.arcs.length - g' < I.arcs.length - g/\((0 = 0/\(0 = 0/\(0 = 0/\(IntKind.i64.wrap ((↑g:Int) + (1:Int)) = (↑g':Int)/\True))))/\((True/\(True/\True))/\(((0:Int) = 0/\(True/\(True/\(True/\(True/\True)))))/\(((1:Int) = 1/\(True/\(True/\(True/\(True/\True)))))/\(I.sup = I.sup/\(I.arcs = I.arcs/\(z1s Int/\(z1s Int/\(z1s Bool/\(z1s Int/\((z84 I (z4l e I.sup.length) (z2t I e) g).set (↑g:Int).toNat x.low = z84 I (z4l e I.sup.length) (z2t I e) g'/\(z4l e I.sup.length = z4l e I.sup.length/\(z1s Bool/\(z1s Int/\True)))))))))))))))
abbrev zi1 (I:Inst) (g':Nat) (g:Nat) (e:List Int):=(I.arcs.length - g' < I.arcs.length - g/\((0 = 0/\(0 = 0/\(0 = 0/\(IntKind.i64.wrap ((↑g:Int) + (1:Int)) = (↑g':Int)/\True))))/\((True/\(True/\True))/\(((0:Int) = 0/\(True/\(True/\(True/\(True/\True)))))/\(((1:Int) = 1/\(True/\(True/\(True/\(True/\True)))))/\(I.sup = I.sup/\(I.arcs = I.arcs/\(z1s Int/\(z1s Int/\(z1s Bool/\(z1s Int/\(z84 I (z4l e I.sup.length) (z2t I e) g = z84 I (z4l e I.sup.length) (z2t I e) g'/\(z4l e I.sup.length = z4l e I.sup.length/\(z1s Bool/\(z1s Int/\True)))))))))))))))
abbrev z5o:=(True/\(True/\(True/\(True/\True))))
abbrev z4n (I:Inst) (e:List Int) (g:Nat):=(z84 I (z4l e I.sup.length) (z2t I e) g)
abbrev z94 (x:Arc) (x_1:Int) (x_2:Int):=(IntKind.i64.wrap (IntKind.i64.wrap (x.cost - x_1) + x_2) < (0:Int))
def zhz (I : Inst) (e : List Int) (ty0 ty1 ty2 : TypeId) : Prop :=
   (((Bytes e/\(I.arcs.length <= (1000000:Nat)/\(L42 I.arcs)))/\((zd0 e I)/\(zd0 e I)))/\((Bytes e/\(I.arcs.length <= (1000000:Nat)/\(L42 I.arcs)))/\(zd0 e I)))/\∀ (g:Unit),True->∃ (g0:Nat),(g0 <= I.arcs.length/\((0 = 0/\(0 = 0/\(0 = 0/\((0:Int) = ↑g0/\True))))/\((True/\(True/\True))/\(((0:Int) = 0/\(z5o))/\(((1:Int) = 1/\(z5o))/\(I.sup = I.sup/\(I.arcs = I.arcs/\(z1s Int/\(z1s Int/\(z1s Bool/\(z1s Int/\(z2t I e = z84 I (z4l e I.sup.length) (z2t I e) g0/\(z4l e (↑I.sup.length:Int).toNat = z4l e I.sup.length/\(z1s Bool/\(z1s Int/\True)))))))))))))))/\∀ (g:Nat),g <= I.arcs.length->(decide ((↑g:Int) < ↑I.arcs.length) = true->((0:Int) <= ↑g/\((↑g:Int) < ↑I.arcs.length))/\(↑g:Int).toNat < I.arcs.length/\∀ (x:Arc),I.arcs[(↑g:Int).toNat]? = some x->((0:Int) <= x.src/\(x.src < (↑(z4l e I.sup.length).length:Int)))/\x.src.toNat < (z4l e I.sup.length).length/\∀ (x_1:Int),(z4l e I.sup.length)[x.src.toNat]? = some x_1->((0:Int) <= x.dst/\(x.dst < (↑(z4l e I.sup.length).length:Int)))/\x.dst.toNat < (z4l e I.sup.length).length/\∀ (x_2:Int),(z4l e I.sup.length)[x.dst.toNat]? = some x_2->(decide (IntKind.i64.wrap (IntKind.i64.wrap (x.cost - x_1) + x_2) > (0:Int)) = true->((0:Int) <= ↑g/\((↑g:Int) < ↑(z4n I e g).length))/\(↑g:Int).toNat < (z4n I e g).length/\((decide (z94 x x_1 x_2) = true->((x.cap != (4611686018427387904:Int)) = true->((0:Int) <= ↑g/\((↑g:Int) < ↑((z4n I e g).set (↑g:Int).toNat x.low).length))/\((↑g:Int).toNat < ((z4n I e g).set (↑g:Int).toNat x.low).length/\(∃ (g':Nat),g' <= I.arcs.length/\(I.arcs.length - g' < I.arcs.length - g/\((0 = 0/\(0 = 0/\(0 = 0/\(IntKind.i64.wrap ((↑g:Int) + (1:Int)) = (↑g':Int)/\True))))/\((True/\(True/\True))/\(((0:Int) = 0/\(z5o))/\(((1:Int) = 1/\(z5o))/\(I.sup = I.sup/\(I.arcs = I.arcs/\(z1s Int/\(z1s Int/\(z1s Bool/\(z1s Int/\(((z4n I e g).set (↑g:Int).toNat x.low).set (↑g:Int).toNat x.cap = z84 I (z4l e I.sup.length) (z2t I e) g'/\(z4l e I.sup.length = z4l e I.sup.length/\(z1s Bool/\(z1s Int/\True))))))))))))))))))/\((x.cap != (4611686018427387904:Int)) = false->∃ (g':Nat),g' <= I.arcs.length/\(zi0 I g' g e x)))/\(decide (z94 x x_1 x_2) = false->∃ (g':Nat),g' <= I.arcs.length/\(zi0 I g' g e x))))/\(decide (IntKind.i64.wrap (IntKind.i64.wrap (x.cost - x_1) + x_2) > (0:Int)) = false->(decide (z94 x x_1 x_2) = true->((x.cap != (4611686018427387904:Int)) = true->((0:Int) <= ↑g/\((↑g:Int) < ↑(z4n I e g).length))/\((↑g:Int).toNat < (z4n I e g).length/\(∃ (g':Nat),g' <= I.arcs.length/\(I.arcs.length - g' < I.arcs.length - g/\((0 = 0/\(0 = 0/\(0 = 0/\(IntKind.i64.wrap ((↑g:Int) + (1:Int)) = (↑g':Int)/\True))))/\((True/\(True/\True))/\(((0:Int) = 0/\(z5o))/\(((1:Int) = 1/\(z5o))/\(I.sup = I.sup/\(I.arcs = I.arcs/\(z1s Int/\(z1s Int/\(z1s Bool/\(z1s Int/\((z4n I e g).set (↑g:Int).toNat x.cap = z84 I (z4l e I.sup.length) (z2t I e) g'/\(z4l e I.sup.length = z4l e I.sup.length/\(z1s Bool/\(z1s Int/\True))))))))))))))))))/\((x.cap != (4611686018427387904:Int)) = false->∃ (g':Nat),g' <= I.arcs.length/\(zi1 I g' g e)))/\(decide (z94 x x_1 x_2) = false->∃ (g':Nat),g' <= I.arcs.length/\(zi1 I g' g e))))/\(decide ((↑g:Int) < ↑I.arcs.length) = false->(((1:Int) = (zd5 I e).kind/\(z5o))/\True)/\(z84 I (z4l e I.sup.length) (z2t I e) g = (zd5 I e).flow/\(z4l e I.sup.length = (zd5 I e).pot/\([] = (zd5 I e).side/\([] = (zd5 I e).cycle/\True)))))
theorem Best19_q (I:Inst) (e:List Int) (ty0 ty1 ty2:TypeId):zhz I e ty0 ty1 ty2 = z3a TT Best19_g (Best19_I I e) (zi2 I e) Tryz.f15 [.agg [.row 0,.row 1],.row 2] [(0,.row false ty0 (.ints .i64 I.sup)),(1,.row false ty1 (.arcs I.arcs)),(2,.row false ty2 (.ints .u8 e))] (Best19_r I e):=by kernel_rfl
theorem Best19_E (I:Inst) (e:List Int) (ty0 ty1 ty2:TypeId) (hp:Bytes e/\e.length <= maxLen/\NiceI I):FVc TT Best19_g (Best19_I I e) (zi2 I e) Tryz.f15 [.agg [.row 0,.row 1],.row 2] [(0,.row false ty0 (.ints .i64 I.sup)),(1,.row false ty1 (.arcs I.arcs)),(2,.row false ty2 (.ints .u8 e))] (Best19_r I e):=by
 refine FVc.of (zhz I e ty0 ty1 ty2) (Best19_q I e ty0 ty1 ty2) ?_
 unfold zhz
 delta z94 z4n z5o zi1 zi0 zd0
 simp only [eq_self,exists_const,forall_const,decide_eq_true_eq,decide_eq_false_iff_not,and_true,true_and,bne_iff_ne,ne_eq,bne_eq_false_iff_eq,Int.toNat_natCast,Bool.not_eq_true',Bool.not_eq_false',beq_iff_eq,beq_eq_false_iff_ne,z08]
 obtain ⟨e1,e2,hI⟩:=hp
 have n1:=hI.n; have n2:=hI.m
 have hL:L42 I.arcs:=fun a ha=>by have:=(hI.arc a ha).l0; have:=(hI.arc a ha).l1; exact ⟨by omega,by omega⟩
 have hPl:(z4l e I.sup.length).length = I.sup.length:=by unfold z4l; simp
 have hPb:∀ y ∈ z4l e I.sup.length,-8 <= y/\y <= 16:=fun y hy=>by
  unfold z4l at hy
  rw [List.mem_map] at hy
  obtain ⟨k,_,rfl⟩:=hy
  unfold potE
  split <;> omega
 have hF:=flow_in hI.arc e
 have hFl:=zjo I e
 have hA:Bytes e/\I.arcs.length <= 1000000/\L42 I.arcs:=⟨e1,by omega,hL⟩
 have hB:Bytes e/\e.length <= maxLen/\(0:Int) <= (I.sup.length:Int)/\(I.sup.length:Int) <= 1000000:=⟨e1,e2,by omega,by omega⟩
 refine ⟨by (repeat' apply And.intro) <;> first | assumption | omega,0,⟨Nat.zero_le _,rfl,(idxS_zero _ _).symm⟩,fun g hg=>?_⟩
 have hend:zd5 I e = ⟨1,z84 I (z4l e I.sup.length) (z2t I e) I.arcs.length,z4l e I.sup.length,[],[]⟩:=rfl
 rw [hend]
 generalize z4l e I.sup.length = P at *
 generalize z2t I e = F at *
 have hbl:=zit I P F
 simp only [List.length_set,hbl,hPl]
 refine ⟨fun h1=>⟨by omega,by omega,fun x hx=>?_⟩,fun h1=>?_⟩
 ·have hq:=hI.arc x (List.mem_of_getElem? hx)
  have s0:=hq.s0; have s1:=hq.s1; have d0:=hq.d0; have d1:=hq.d1; have k0:=hq.k0; have k1:=hq.k1
  refine ⟨by omega,by omega,fun y hy=>⟨by omega,by omega,fun z hz=>?_⟩⟩
  have by_:=hPb y (List.mem_of_getElem? hy)
  have bz:=hPb z (List.mem_of_getElem? hz)
  have ha:z2i I g = x:=z27 hx
  have er:redN I P g = x.cost - y + z:=by
   unfold redN
   rw [ha,List.getD_eq_getElem?_getD,hy,List.getD_eq_getElem?_getD,hz]; rfl
  have hw1:IntKind.i64.wrap (x.cost - y) = x.cost - y:=w64 (by omega) (by omega)
  have hw2:IntKind.i64.wrap (x.cost - y + z) = redN I P g:=by rw [er]; exact w64 (by omega) (by omega)
  have hw:IntKind.i64.wrap ((g:Int) + 1) = ((g + 1:Nat):Int):=by rw [w64 (by omega) (by omega)]; omega
  rw [hw1,hw2]
  have hFg:F[g]? = some (F.getD g 0):=by rw [List.getD_eq_getElem?_getD,List.getElem?_eq_getElem (by omega)]; rfl
  have key:∀ l:List Int,l = z84 I P F (g + 1)->∃ g',g' <= I.arcs.length/\I.arcs.length - g' < I.arcs.length - g/\IntKind.i64.wrap ((g:Int) + 1) = (g':Int)/\l = z84 I P F g':=fun l hl=>⟨g + 1,by omega,by omega,hw,hl⟩
  have st:∀ v,v = bestV (redN I P g) x (F.getD g 0)->(z84 I P F g).set g v = z84 I P F (g + 1):=fun v hv=>idxS_set hFg (by show v = bestV (redN I P g) (z2i I g) (F.getD g 0); rw [ha]; exact hv)
  have hi:inf = 4611686018427387904:=rfl
  refine ⟨fun h2=>⟨by omega,by omega,fun h3=>by omega,fun h3=>key _ (st _ ?_)⟩,fun h2=>⟨fun h3=>⟨fun h4=>⟨by omega,by omega,key _ (st _ ?_)⟩,fun h4=>key _ (idxS_same hFg ?_)⟩,fun h3=>key _ (idxS_same hFg ?_)⟩⟩
  ·unfold bestV; rw [if_pos h2]
  ·unfold bestV; rw [if_neg (by omega),if_pos ⟨h3,h4⟩]
  ·show F.getD g 0 = bestV (redN I P g) (z2i I g) (F.getD g 0); rw [ha]; unfold bestV; rw [if_neg (by omega),if_neg (fun h=>h.2 h4)]
  ·show F.getD g 0 = bestV (redN I P g) (z2i I g) (F.getD g 0); rw [ha]; unfold bestV; rw [if_neg (by omega),if_neg (fun h=>h3 h.1)]
 ·rw [show g = I.arcs.length by omega]
  simp
theorem Best19_ok:SpecOk Tryz.prog Best19_n true (z04 true zi3) :=
 z0a z0r (show z1i Tryz.prog Best19_g from z01 Flow_ok (z01 Pot_ok (z05))) (by kernel_rfl) mixedOrders Tryz.func15 rfl rfl (by kernel_rfl) (n:=2) (by decide +kernel) (I:=Best19_IA) (fun _ _=>z06) (A:=Best19_A)
  (fun args h r hr=>by
   unfold zi3 at hr
   split at hr
   ·rename_i ty0 I_s ty1 I_a ty2 e; cases hr; refine ⟨rfl,fun hp=>?_⟩; have hE:=Best19_E ⟨I_s,I_a⟩ e ty0 ty1 ty2 hp; exact hE
   ·cases hr)
end Go.Proofs.YtggblkbecekbdaaGreat
end
section
namespace Go.Proofs.YtggblkbecekbdaaGreat
open Go Go.RowKit Go.Ql Go.Vc
def Kind_r (I:Inst):FRel:={ pre:=True,G:=(Int) × (Int),post:=fun ⟨k,e⟩=>KindQ I k e,out:=fun ⟨k,e⟩=>{ pre:=True,res:=.tup [.int .i64 (k),.int .u16 (e)],rows:=[],eff:=[] } }
def Kind_fs:FR:=fun args h=>match args,h with
 | [.agg [.row 0,.row 1]],[(0,.row false ty0 (.ints .i64 I_s)),(1,.row false ty1 (.arcs I_a))]=>some (Kind_r ⟨I_s,I_a⟩)
 | _,_=>none
def Kind_an (I:Inst):List (Nat × Ann):=[]
def Kind_A:List SV->z0e->List (Nat × Ann):=fun _ _=>[]
def Kind_g:z0b:=[(Right_n,(true,z04 true zh8)),(ziz,(true,z0t true zaq)),(fill20_n,(false,z0t false zda)),(zlg,(true,z0t true zb7))]
abbrev Kind_n:Nat:=25
def Kind_I (I:Inst):List (Nat × z09):=[]
def Kind_IA:List SV->z0e->List (Nat × z09):=fun _ _=>[]
end Go.Proofs.YtggblkbecekbdaaGreat
end
section
namespace Go.Proofs.YtggblkbecekbdaaGreat
open Go Go.RowKit Go.Ql Go.Vc
def Kind_E0 (I : Inst) (ty0 ty1 : TypeId) : Prop :=
      True /\
 ((z02 I != (0:Int)) = true->∃ (g:Int × Int),KindQ I g.1 g.2/\(((0:Int) = g.1/\z02 I = g.2/\True)/\True)/\True) /\
 ((z02 I != (0:Int)) = false ->
 z02 I = (0:Int) /\
 ∀ (g:List Int × List Int × Rows3),
 BuildP I g.1 g.2.1 g.2.2 ->
 ∀ (V:Nat->List Value),
 (z02 I = (0:Int)/\FillI I g.1 g.2.1/\AtOk I g.2.2) /\
 ∀ (g:List Int × List Int × List Bool × Bool),
 FillP I g.1 g.2.1 g.2.2.1 g.2.2.2 ->
 (g.2.2.2 = true->∃ (g:Int × Int),KindQ I g.1 g.2/\(((2:Int) = g.1/\(0:Int) = g.2/\True)/\True)/\True) /\
 (g.2.2.2 = false ->
 z02 I = (0:Int) /\
 ∀ (g:List Int × Bool),
 RoundP I g.1 g.2 ->
 (g.2 = true->∃ (g:Int × Int),KindQ I g.1 g.2/\(((3:Int) = g.1/\(0:Int) = g.2/\True)/\True)/\True) /\
 (g.2 = false->∃ (g:Int × Int),KindQ I g.1 g.2/\(((1:Int) = g.1/\(0:Int) = g.2/\True)/\True)/\True)))
theorem Kind_q (I:Inst) (ty0 ty1:TypeId):Kind_E0 I ty0 ty1 = z95 TT Kind_g (Kind_I I) (Kind_an I) Tryz.f25 [.agg [.row 0,.row 1]] [(0,.row false ty0 (.ints .i64 I.sup)),(1,.row false ty1 (.arcs I.arcs))] (Kind_r I):=by kernel_rfl
theorem Kind_E (I:Inst) (ty0 ty1:TypeId) (hp:True):FVcR TT Kind_g (Kind_I I) (Kind_an I) Tryz.f25 [.agg [.row 0,.row 1]] [(0,.row false ty0 (.ints .i64 I.sup)),(1,.row false ty1 (.arcs I.arcs))] (Kind_r I):=by
 refine FVcR.of (Kind_E0 I ty0 ty1) (Kind_q I ty0 ty1) ?_
 unfold Kind_E0
 simp only [eq_self,exists_const,forall_const,decide_eq_true_eq,decide_eq_false_iff_not,and_true,true_and,bne_iff_ne,ne_eq,bne_eq_false_iff_eq,Int.toNat_natCast,Bool.not_eq_true',Bool.not_eq_false',beq_iff_eq,beq_eq_false_iff_ne,z08]
 refine ⟨fun h=>⟨(0,_),kind_bad h,rfl,rfl⟩,fun hr=>⟨hr,?_⟩⟩
 rintro ⟨x,o,t⟩ hB
 have hF:=build_fill hr hB
 refine ⟨⟨hr,hF,hB.at_⟩,?_⟩
 rintro ⟨x1,o1,m,f⟩ hf
 dsimp only at hf ⊢
 refine ⟨fun h=>?_,fun h=>⟨hr,?_⟩⟩
 ·subst h; exact ⟨(2,0),kind_cut hr hf,rfl,rfl⟩
 subst h
 rintro ⟨l,f⟩ hl
 dsimp only at hl ⊢
 refine ⟨fun h=>?_,fun h=>?_⟩
 ·subst h; exact ⟨(3,0),kind_ray hr hf hl,rfl,rfl⟩
 ·subst h; exact ⟨(1,0),kind_best hr hf hl,rfl,rfl⟩
theorem Kind_ok:SpecOk Tryz.prog Kind_n true (z0t true Kind_fs) :=
 z38 z0r (show z1i Tryz.prog Kind_g from z01 Right_ok (z01 build20_ok (z01 fill20_ok (z01 round20_ok (z05))))) (by kernel_rfl) mixedOrders Tryz.func25 rfl rfl (by kernel_rfl) (n:=1) (by decide +kernel) (I:=Kind_IA) (fun _ _=>z06) (A:=Kind_A)
  (fun args h r hr=>by
   unfold Kind_fs at hr
   split at hr
   ·rename_i ty0 I_s ty1 I_a; cases hr; refine ⟨rfl,fun hp=>?_⟩; have hE:=Kind_E ⟨I_s,I_a⟩ ty0 ty1 hp; exact hE
   ·cases hr)
end Go.Proofs.YtggblkbecekbdaaGreat
end
section
namespace Go.Ql
open Go Go.Vc
theorem stepL_same {α:Type} {f:α->α} {s:List α} {k:Nat} {x:α} (h:s[k]? = some x) (hy:x = f x):z2z f s k = z2z f s (k + 1):=by
 have hk:=(List.getElem?_eq_some_iff.1 h).1
 rw [<- stepL_set h hy]
 apply List.ext_getElem?
 intro j
 rw [List.getElem?_set]
 split
 ·rename_i e; subst e
  rw [if_pos (by rw [zeg]; exact hk)]
  unfold z2z
  rw [List.getElem?_append_right (by simp; omega)]
  rw [List.length_map,List.length_take,Nat.min_eq_left (by omega),Nat.sub_self,List.getElem?_drop,Nat.add_zero]
  exact h
 ·rfl
theorem keptF_hd {off:List Bool} {n:Nat} {y:Int} (h:((z7e off n).map Int.ofNat)[0]? = some y):0 <= y/\y.toNat < n/\off.getD y.toNat false = false:=by
 rw [List.getElem?_map,Option.map_eq_some_iff] at h
 obtain ⟨j,hj,rfl⟩:=h
 have hm:=List.mem_of_getElem? hj
 have hl:=keptF_lt hm
 unfold z7e at hm
 rw [zdf,List.mem_filter] at hm
 have:=hm.2
 refine ⟨Int.natCast_nonneg _,hl,?_⟩
 show off.getD j false = false
 simpa using this
theorem keptF_not {off:List Bool} {n:Nat} (h:(z7e off n).length ≠ n):∃ j,j < n/\off.getD j false = true:=by
 have h1:=keptF_len off n
 unfold z7e at h h1
 obtain ⟨j,-,h2,h3⟩:=(zbo off n 0).1 (by omega)
 exact ⟨j,by omega,h3⟩
theorem madeS_len (I:Inst) (x:List Int) (k:Nat):(madeS I x k).length = I.sup.length:=by simp [madeS]
theorem madeS_within {I:Inst} {x:List Int} (hx:∀ y ∈ x,0 <= y/\y <= 7) (hm:I.arcs.length <= 18):Within 1000 (madeS I x I.sup.length):=fun y hy=>by
 unfold madeS at hy
 rw [List.mem_map] at hy
 obtain ⟨v,hv,rfl⟩:=hy
 rw [if_pos (List.mem_range.1 hv)]
 have:=zax (n:=(I.sup.length:Int)) (l:=I.arcs) (x:=x) (v:=v) (B:=7) (by omega) (fun u hu=>by have:=hx u hu; omega) I.arcs.length
 omega
theorem wholeF_drop (e:List Int) (n:Nat):List.take n (z2d e n) ++ List.drop (z2d e n).length (List.replicate n false) = wholeF e n:=by
 unfold wholeF
 rw [List.drop_replicate,List.take_of_length_le (by unfold z2d; simp; omega)]
theorem few_a64 {n:Int} {l:List Arc} (h:∀ a ∈ l,a.Nice n):A64a l/\A64c l:=by
 refine ⟨fun a ha=>?_,fun a ha=>?_⟩
 ·have h:=h a ha; have:=h.l0; have:=h.l1; have:=h.c0
  rcases h.c1 with h1 | h1 <;> exact ⟨by unfold I64; omega,by unfold I64; omega⟩
 ·have:=(h a ha).k0; have:=(h a ha).k1; unfold I64; omega
end Go.Ql
end
section
namespace Go.Proofs.YtggblkbecekbdaaGreat
open Go Go.RowKit Go.Ql Go.Draw
end Go.Proofs.YtggblkbecekbdaaGreat
end
section
section
namespace Go.Ql
open Go Go.RowKit Go.ChangeShapes Go.WideShapes Go.ChangeAt Go.Deep
section
variable {H:Type} {enc:TypeId × Value->H} {P:Program}
theorem addr_plain {w:World} {a:Addr} {v:Value} (h:w.cell? a = some v):a = ⟨a.block,a.off,none⟩/\a.block < w.heap.size:=by
 refine ⟨?_,World.block_lt_of_cell? w a h⟩
 obtain ⟨b,o,s⟩:=a
 cases s with
 | none=>rfl
 | some s =>
  exfalso
  unfold World.cell? at h
  split at h <;> simp at h
theorem add_plain (b o i:Nat):(⟨b,o,none⟩:Addr).add i = ⟨b,o + i,none⟩:=by
 unfold Addr.add
 split
 ·rename_i h; simp_all
 ·rfl
theorem dec_ints {W:World} {base:Nat} {r:Reach} {b0:Nat} {t e:TypeId} {k:IntKind} {v:Value} {d:DataW H} {p:List MemPlace} (ht:P.underlying t = some (.slice e)) (he:P.underlying e = some (.int k)) (hc:P.cellsOf e = 1)
  (hv:Value.okWide P W r b0 t v) (h:DataW.Trod enc P W base (fun _=>true) true t v d p) :
  ∃ A c xs,v = .slice A xs.length c/\(RowR (Value.int k) W W.heap.size A xs/\xs.length <= c)/\xs.length <= maxLen/\∀ x ∈ xs,(Lit.int k x).wf = true:=by
 obtain ⟨a0,len,cap,rfl⟩:=okWide_slice ht hv
 obtain ⟨fuel,hf⟩:=h
 rcases open_ints ht he hc hf with ⟨hcs,_⟩ | ⟨a,len',cap',zs,hcs,_,hl,hm,hz,_,hcell,hwz⟩
 ·simp [Value.cells] at hcs
  obtain ⟨rfl,rfl,rfl⟩:=hcs
  exact ⟨none,0,[],rfl,⟨RowR.nil,by simp⟩,by simp,by simp⟩
 ·simp [Value.cells] at hcs
  obtain ⟨rfl,rfl,rfl⟩:=hcs
  simp only [if_true] at hz
  have hlen:(zs.take len).length = len:=by simp; omega
  refine ⟨some a,cap,zs.take len,by rw [hlen],⟨fun h0=>?_,by omega⟩,by omega,fun x hx=>hwz x (List.mem_of_mem_take hx)⟩
  have h1:=hcell 0 (by omega)
  have hz0:a.add 0 = a:=by unfold Addr.add; simp
  rw [hz0] at h1
  obtain ⟨e1,e2⟩:=addr_plain h1
  refine ⟨a.block,a.off,by rw [<- e1],e2,fun i x hx=>?_⟩
  rw [List.getElem?_take] at hx
  split at hx
  ·have h2:=hcell i (by omega)
   rw [e1,add_plain] at h2
   rw [h2]
   simp [List.getD,hx]
  ·cases hx
theorem zek {W W':World} (hl:laidOutB P = true) (hb:Below W.heap.size W W'):∀ (ts:List TypeId) (vs:List Value) (ds:List (DataW H)) (ps:List MemPlace),(ts.all fun t=>P.readableRec t && decide (t < P.types.size)) = true ->
  (∀ x ∈ ps,x.block < W.heap.size)->DataW.TrodAll enc P W 0 (fun _=>true) true ts vs ds ps->∀ sp:Nat->Bool,(∀ x ∈ ps,sp x.block = true)->DataW.TrodAll enc P W' 0 sp true ts vs ds ps
 | [],vs,ds,ps,_,_,h,_,_=>by
  cases vs <;> cases ds <;> simp [DataW.TrodAll] at h ⊢
  exact h
 | t :: ts,vs,ds,ps,hr,hlt,h,sp,hsp=>by
  obtain ⟨v,vs',d,ds',p,q,rfl,rfl,rfl,h1,h2⟩:=trodAll_cons h
  simp only [List.all_cons,Bool.and_eq_true,decide_eq_true_eq] at hr
  refine ⟨p,q,?_,zek hl hb ts vs' ds' q (by simpa using hr.2) (fun x hx=>hlt x (by simp [hx])) h2 sp (fun x hx=>hsp x (by simp [hx])),rfl⟩
  exact WideElems.Trod_stays hl hr.1.1 hr.1.2 h1 (fun x hx=>hb.same (hlt x (by simp [hx]))) (fun x hx=>hsp x (by simp [hx]))
theorem law_post {f:Func} {s:ChangeSpec} {W W':World} {args:Array Value} {ds gs:List (DataW H)} {before:List MemPlace} {tb:TypeId} (hl:laidOutB P = true)
  (hW:DataW.Whole enc P f.params.toList s.vars false W args.toList ds gs before) (hvars:s.vars = []) (hres:f.resultTypes = #[tb]) (htb:P.underlying tb = some .bool)
  (hr:(f.params.toList.all fun t=>P.readableRec t && decide (t < P.types.size)) = true)
  (hfn:s.fn H ds = { results:=[.lit (.bool true)],args:=ds }) (hb:Below W.heap.size W W') :
  s.post enc P f false true false false W args (.bool true) W':=by
 have hW':=hW
 have hlt:∀ p ∈ before,p.block < W.heap.size:=fun p hp=>hW.lt p hp
 obtain ⟨pa,pv,hA,hV,hps,hz,hn⟩:=hW
 rw [hvars] at hV
 obtain ⟨rfl,rfl⟩:=trodVars_none hV
 rw [List.append_nil] at hps
 subst hps
 have hargs:∀ sp:Nat->Bool,(∀ p ∈ before,sp p.block = true)->DataW.TrodAll enc P W' 0 sp true f.params.toList args.toList ds before:=fun sp hsp =>
  zek hl hb _ _ _ _ hr hlt hA sp hsp
 have hres':∀ (b:Nat) (sp:Nat->Bool) (hd:Bool),DataW.TrodAll enc P W' b sp hd f.resultTypes.toList ((Value.bool true).resultList f.resultTypes.size) [.lit (.bool true)] []:=fun b sp hd=>by
  rw [hres]
  exact trodAll_cons_mk (shut_bool htb _) trodAll_mk0
 have hf2:s.fn H (ds ++ []) = { results:=[.lit (.bool true)],args:=ds }:=by rw [List.append_nil]; exact hfn
 have hvr:∀ sp:Nat->Bool,DataW.TrodVars enc P W' sp s.vars (s.fn H (ds ++ [])).vars []:=fun sp=>by rw [hvars,hf2]; rfl
 have hold:∀ p ∈ before,(fun b=>decide (b < W.heap.size)) p.block = true:=fun p hp=>by simpa using hlt p hp
 refine ⟨ds,[],before,[],before,[],hW',by rw [hf2]; exact hres' _ _ _,by rw [hf2]; exact hargs _ hold,hvr _,World.keptBut_mono (fun p hp=>⟨hp,?_⟩) (hb.frame (· ∈ before)),fun h=>by cases h⟩
 exact .inr (by simpa using hp)
end
end Go.Ql
end
section
namespace Go.Ql
open Go Go.RowKit
theorem wf1_u8 {n:Int} (h:(Lit.int .u8 n).wf = true):0 <= n/\n <= 255:=by simpa [Lit.wf,IntKind.min,IntKind.max,IntKind.signed,IntKind.bits] using h
theorem wf_u8 {c:List Int} (h:∀ x ∈ c,(Lit.int .u8 x).wf = true):Bytes c:=fun x hx=>wf1_u8 (h x hx)
end Go.Ql
namespace Go.Proofs.YtggblkbecekbdaaGreat
open Go Go.RowKit Go.Ql
theorem own_knob:ownKnob Tryz.prog.godebug = none:=by kernel_rfl
theorem laid_out:laidOutB Tryz.prog = true:=by kernel_rfl
end Go.Proofs.YtggblkbecekbdaaGreat
end
section
namespace Go.Ql
open Go Go.RowKit Go.ChangeShapes Go.WideShapes Go.ChangeAt Go.Deep
section
variable {H:Type} {enc:TypeId × Value->H} {P:Program}
theorem slice_small {W:World} {base:Nat} {t e:TypeId} {fuel n c:Nat} {A:Option Addr} {x:DataW H × List MemPlace} {sp:Nat->Bool} {hd:Bool} (ht:P.underlying t = some (.slice e)) (hb:1 <= P.bytesOf e)
  (h:DataW.trod enc P W base sp hd fuel t [.slice A n c] = some x) (hz:(x.1.weights P t).all (· <= reachBytes) = true):n <= 140737488351232:=by
 rcases DataW.trod_slice ht h with ⟨hcs,_⟩ | ⟨a,len,cap,elems,rest,m,_,hcs,rfl,_,_,_,hlen,_⟩
 ·simp at hcs; omega
 ·simp only [List.cons.injEq,Value.slice.injEq,and_true] at hcs
  obtain ⟨_,rfl,_⟩:=hcs
  simp only [DataW.weights,ht,List.all_cons,Bool.and_eq_true,decide_eq_true_eq,List.length_map,hlen] at hz
  have h1:=hz.1
  have h2:n <= n + rest.length:=Nat.le_add_right _ _
  have h3:(n + rest.length) * 1 <= (n + rest.length) * P.bytesOf e:=Nat.mul_le_mul_left _ hb
  unfold reachBytes at h1
  omega
theorem zcv {W:World} {base:Nat} {t e:TypeId} {n c:Nat} {A:Option Addr} {d:DataW H} {p:List MemPlace} {sp:Nat->Bool} {hd:Bool} (ht:P.underlying t = some (.slice e)) (hb:1 <= P.bytesOf e)
  (h:DataW.Trod enc P W base sp hd t (.slice A n c) d p) (hz:(d.weights P t).all (· <= reachBytes) = true):n <= 140737488351232:=by
 obtain ⟨fuel,hf⟩:=h
 exact slice_small ht hb hf hz
theorem z7d {t:TypeId} {ts vt:List TypeId} {d:DataW H} {ds gs:List (DataW H)} (h:(DataW.weightsEach P ((t :: ts) ++ vt) ((d :: ds) ++ gs)).all (· <= reachBytes) = true) :
  (d.weights P t).all (· <= reachBytes) = true/\(DataW.weightsEach P (ts ++ vt) (ds ++ gs)).all (· <= reachBytes) = true:=by
 simpa only [List.cons_append,DataW.weightsEach,List.all_append,Bool.and_eq_true] using h
end
end Go.Ql
namespace Go.Proofs.YtggblkbecekbdaaGreat
open Go Go.RowKit Go.Ql
end Go.Proofs.YtggblkbecekbdaaGreat
end
end
