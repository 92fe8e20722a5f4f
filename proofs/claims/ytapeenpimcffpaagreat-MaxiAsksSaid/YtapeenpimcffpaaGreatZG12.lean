/- Part of the proof: DY13, FY13, DB21, FB21, Solve20, CertMade, Solve21, Maxi2, Solve23, DC21. -/
import Derived.Test.YtapeenpimcffpaaGreatZG9
import Derived.Test.YtapeenpimcffpaaGreatZG10
import Derived.Test.YtapeenpimcffpaaGreatZG7
import Derived.Test.YtapeenpimcffpaaGreatZG6
import Derived.Test.YtapeenpimcffpaaGreatZG5
import Derived.Test.YtapeenpimcffpaaGreatZG8
import Derived.Test.YtapeenpimcffpaaGreatZG11
set_option linter.all false
set_option linter.unusedSimpArgs false
set_option linter.unusedVariables false
set_option maxRecDepth 1000000
section
namespace Go.Proofs.YtapeenpimcffpaaGreat
open Go Go.RowKit Go.Ql Go.Vc
def zca (c:Cert):FRes:={ pre:=True,res:=.bool (z1r c),rows:=[],eff:=[] }
def z8v:FS:=fun args h=>match args,h with
 | [.agg [.int .i64 c_k,.row 0,.row 1,.row 2,.row 3]],[(0,.row false ty0 (.ints .i64 c_f)),(1,.row false ty1 (.ints .i64 c_p)),(2,.row false ty2 (.bools c_s)),(3,.row false ty3 (.ints .i64 c_y))]=>some (zca ⟨c_k,c_f,c_p,c_s,c_y⟩)
 | _,_=>none
def zi4 (c:Cert):List (Nat × Ann):=[]
def rPlain13_A:List SV->z0c->List (Nat × Ann):=fun _ _=>[]
def zc9:z0b:=[]
abbrev rPlain13_n:Nat:=120
def rPlain13_I (c:Cert):List (Nat × z08):=[]
def rPlain13_IA:List SV->z0c->List (Nat × z08):=fun _ _=>[]
def rProvesN_r (I:Inst) (side:List Bool):FRes:={ pre:=False,res:=.int .i64 (0),rows:=[],eff:=[] }
def z8w:FS:=fun args h=>match args,h with
 | [.agg [.row 0,.row 1],.row 2],[(0,.row false ty0 (.ints .i64 I_s)),(1,.row false ty1 (.arcs I_a)),(2,.row false ty2 (.bools side))]=>some (rProvesN_r ⟨I_s,I_a⟩ side)
 | _,_=>none
def rProvesN_g:z0b:=[]
abbrev rProvesN_n:Nat:=122
def rTurnsN_r (I:Inst) (l:List Int):FRes:={ pre:=False,res:=.int .i64 (0),rows:=[],eff:=[] }
def zch:FS:=fun args h=>match args,h with
 | [.agg [.row 0,.row 1],.row 2],[(0,.row false ty0 (.ints .i64 I_s)),(1,.row false ty1 (.arcs I_a)),(2,.row false ty2 (.ints .i64 l))]=>some (rTurnsN_r ⟨I_s,I_a⟩ l)
 | _,_=>none
def rTurnsN_g:z0b:=[]
abbrev rTurnsN_n:Nat:=124
def zhv (I:Inst) (c:Cert):FRes:={ pre:=z0j c/\z2b I/\c.kind = 1,res:=.int .i64 (z0x I c),rows:=[],eff:=[] }
def zc1:FS:=fun args h=>match args,h with
 | [.agg [.row 0,.row 1],.agg [.int .i64 c_k,.row 2,.row 3,.row 4,.row 5]],[(0,.row false ty0 (.ints .i64 I_s)),(1,.row false ty1 (.arcs I_a)),(2,.row false ty2 (.ints .i64 c_f)),(3,.row false ty3 (.ints .i64 c_p)),(4,.row false ty4 (.bools c_s)),(5,.row false ty5 (.ints .i64 c_y))]=>some (zhv ⟨I_s,I_a⟩ ⟨c_k,c_f,c_p,c_s,c_y⟩)
 | _,_=>none
def rCheckB_an (I:Inst) (c:Cert):List (Nat × Ann):=[]
def rCheckB_A:List SV->z0c->List (Nat × Ann):=fun _ _=>[]
def zhu:z0b:=[(ze1,(true,z02 true z6y)),(rPlain13_n,(true,z02 true z8v)),(rSlack_n,(true,z02 true zid)),(rProvesN_n,(true,z02 true z8w)),(rFits_n,(true,z02 true zdz)),(rTurnsN_n,(true,z02 true zch))]
abbrev rCheckB_n:Nat:=104
def rCheckB_I (I:Inst) (c:Cert):List (Nat × z08):=[]
def rCheckB_IA:List SV->z0c->List (Nat × z08):=fun _ _=>[]
end Go.Proofs.YtapeenpimcffpaaGreat
end
section
namespace Go.Proofs.YtapeenpimcffpaaGreat
open Go Go.RowKit Go.Ql Go.Vc
def z8u (c : Cert) (ty0 ty1 ty2 ty3 : TypeId) : Prop :=
      ((c.kind == (1:Int)) = true ->
 (((↑c.side.length:Int) == (0:Int)) = true->(((↑c.cycle.length:Int) == (0:Int)) = z1r c/\True)/\True) /\
 (((↑c.side.length:Int) == (0:Int)) = false->(false = z1r c/\True)/\True)) /\
 ((c.kind == (1:Int)) = false ->
 ((c.kind == (2:Int)) = true ->
 (((↑c.flow.length:Int) == (0:Int)) = true ->
 (((↑c.pot.length:Int) == (0:Int)) = true->(((↑c.cycle.length:Int) == (0:Int)) = z1r c/\True)/\True) /\
 (((↑c.pot.length:Int) == (0:Int)) = false->(false = z1r c/\True)/\True)) /\
 (((↑c.flow.length:Int) == (0:Int)) = false->(false = z1r c/\True)/\True)) /\
 ((c.kind == (2:Int)) = false ->
 ((c.kind == (3:Int)) = true ->
 (((↑c.pot.length:Int) == (0:Int)) = true->(((↑c.side.length:Int) == (0:Int)) = z1r c/\True)/\True) /\
 (((↑c.pot.length:Int) == (0:Int)) = false->(false = z1r c/\True)/\True)) /\
 ((c.kind == (3:Int)) = false->(false = z1r c/\True)/\True)))
theorem rPlain13_q (c:Cert) (ty0 ty1 ty2 ty3:TypeId):z8u c ty0 ty1 ty2 ty3 = z1f TT zc9 (rPlain13_I c) (zi4 c) Tryz.f120 [.agg [.int .i64 c.kind,.row 0,.row 1,.row 2,.row 3]] [(0,.row false ty0 (.ints .i64 c.flow)),(1,.row false ty1 (.ints .i64 c.pot)),(2,.row false ty2 (.bools c.side)),(3,.row false ty3 (.ints .i64 c.cycle))] (zca c):=by kernel_rfl
theorem rPlain13_E (c:Cert) (ty0 ty1 ty2 ty3:TypeId) (hp:True):FVc TT zc9 (rPlain13_I c) (zi4 c) Tryz.f120 [.agg [.int .i64 c.kind,.row 0,.row 1,.row 2,.row 3]] [(0,.row false ty0 (.ints .i64 c.flow)),(1,.row false ty1 (.ints .i64 c.pot)),(2,.row false ty2 (.bools c.side)),(3,.row false ty3 (.ints .i64 c.cycle))] (zca c):=by
 refine FVc.of (z8u c ty0 ty1 ty2 ty3) (rPlain13_q c ty0 ty1 ty2 ty3) ?_
 unfold z8u
 simp only [eq_self,exists_const,forall_const,decide_eq_true_eq,decide_eq_false_iff_not,and_true,true_and,bne_iff_ne,ne_eq,bne_eq_false_iff_eq,Int.toNat_natCast,Bool.not_eq_true',Bool.not_eq_false',beq_iff_eq,beq_eq_false_iff_ne,z07]
 unfold z1r
 have b0:∀ n:Nat,(((n:Int) == 0):Bool) = decide (n = 0):=fun n=>by by_cases h:n = 0 <;> simp [h]
 simp only [b0]
 refine ⟨fun k1=>⟨fun h1=>?_,fun h1=>?_⟩,fun k1=>⟨fun k2=>⟨fun h1=>⟨fun h2=>?_,fun h2=>?_⟩,fun h1=>?_⟩,fun k2=>⟨fun k3=>⟨fun h1=>?_,fun h1=>?_⟩,fun k3=>?_⟩⟩⟩
 all_goals
  first
   | (rw [if_pos (by assumption)])
   | (rw [if_neg (by assumption),if_pos (by assumption)])
   | (rw [if_neg (by assumption),if_neg (by assumption),if_pos (by assumption)])
   | (rw [if_neg (by assumption),if_neg (by assumption),if_neg (by assumption)])
 all_goals simp_all
theorem rPlain13_ok:SpecOk Tryz.prog rPlain13_n true (z02 true z8v) :=
 z06 z0g (show z10 Tryz.prog zc9 from z04) (by kernel_rfl) mixedOrders Tryz.func120 rfl rfl (by kernel_rfl) (n:=1) (by decide +kernel) (I:=rPlain13_IA) (fun _ _=>z05) (A:=rPlain13_A)
  (fun args h r hr=>by
   unfold z8v at hr
   split at hr
   ·rename_i c_k ty0 c_f ty1 c_p ty2 c_s ty3 c_y; cases hr; refine ⟨rfl,fun hp=>?_⟩; have hE:=rPlain13_E ⟨c_k,c_f,c_p,c_s,c_y⟩ ty0 ty1 ty2 ty3 hp; exact hE
   ·cases hr)
theorem rProvesN_ok:SpecOk Tryz.prog rProvesN_n true (z02 true z8w) :=
 z06 z0g (show z10 Tryz.prog rProvesN_g from z04) (by kernel_rfl) mixedOrders Tryz.func122 rfl rfl (by kernel_rfl) (n:=2) (by decide +kernel) (I:=fun _ _=>[]) (fun _ _=>z05) (A:=fun _ _=>[])
  (fun args h r hr=>by
   unfold z8w at hr
   split at hr
   ·cases hr; exact ⟨rfl,fun hp=>hp.elim⟩
   ·cases hr)
theorem rTurnsN_ok:SpecOk Tryz.prog rTurnsN_n true (z02 true zch) :=
 z06 z0g (show z10 Tryz.prog rTurnsN_g from z04) (by kernel_rfl) mixedOrders Tryz.func124 rfl rfl (by kernel_rfl) (n:=2) (by decide +kernel) (I:=fun _ _=>[]) (fun _ _=>z05) (A:=fun _ _=>[])
  (fun args h r hr=>by
   unfold zch at hr
   split at hr
   ·cases hr; exact ⟨rfl,fun hp=>hp.elim⟩
   ·cases hr)
def zc0 (I : Inst) (c : Cert) (ty0 ty1 ty2 ty3 ty4 ty5 : TypeId) : Prop :=
      True /\
 ((z0a I != (0:Int)) = true->(z0a I = z0x I c/\True)/\True) /\
 ((z0a I != (0:Int)) = false ->
 True /\
 ((!z1r { kind:=c.kind,flow:=c.flow,pot:=c.pot,side:=c.side,cycle:=c.cycle:Cert }) = true->((36:Int) = z0x I c/\True)/\True) /\
 ((!z1r { kind:=c.kind,flow:=c.flow,pot:=c.pot,side:=c.side,cycle:=c.cycle:Cert }) = false ->
 ((c.kind == (1:Int)) = true ->
 (I.sup.length <= (10000:Nat)/\I.arcs.length <= (10000:Nat)/\A64 c.flow/\A64 I.sup/\A64 c.pot/\A64c I.arcs) /\
 (z0p I c.flow c.pot = z0x I c/\True)/\True) /\
 ((c.kind == (1:Int)) = false ->
 ((c.kind == (2:Int)) = true->False/\((0:Int) = z0x I c/\True)/\True) /\
 ((c.kind == (2:Int)) = false ->
 (I.sup.length <= (10000:Nat)/\I.arcs.length <= (10000:Nat)/\A64 c.flow/\A64 I.sup) /\
 ((z0v I c.flow != (0:Int)) = true->(z0v I c.flow = z0x I c/\True)/\True) /\
 ((z0v I c.flow != (0:Int)) = false->False/\((0:Int) = z0x I c/\True)/\True)))))
theorem rCheckB_q (I:Inst) (c:Cert) (ty0 ty1 ty2 ty3 ty4 ty5:TypeId):zc0 I c ty0 ty1 ty2 ty3 ty4 ty5 = z1f TT zhu (rCheckB_I I c) (rCheckB_an I c) Tryz.f104 [.agg [.row 0,.row 1],.agg [.int .i64 c.kind,.row 2,.row 3,.row 4,.row 5]] [(0,.row false ty0 (.ints .i64 I.sup)),(1,.row false ty1 (.arcs I.arcs)),(2,.row false ty2 (.ints .i64 c.flow)),(3,.row false ty3 (.ints .i64 c.pot)),(4,.row false ty4 (.bools c.side)),(5,.row false ty5 (.ints .i64 c.cycle))] (zhv I c):=by kernel_rfl
theorem rCheckB_E (I:Inst) (c:Cert) (ty0 ty1 ty2 ty3 ty4 ty5:TypeId) (hp:z0j c/\z2b I/\c.kind = 1):FVc TT zhu (rCheckB_I I c) (rCheckB_an I c) Tryz.f104 [.agg [.row 0,.row 1],.agg [.int .i64 c.kind,.row 2,.row 3,.row 4,.row 5]] [(0,.row false ty0 (.ints .i64 I.sup)),(1,.row false ty1 (.arcs I.arcs)),(2,.row false ty2 (.ints .i64 c.flow)),(3,.row false ty3 (.ints .i64 c.pot)),(4,.row false ty4 (.bools c.side)),(5,.row false ty5 (.ints .i64 c.cycle))] (zhv I c):=by
 refine FVc.of (zc0 I c ty0 ty1 ty2 ty3 ty4 ty5) (rCheckB_q I c ty0 ty1 ty2 ty3 ty4 ty5) ?_
 unfold zc0
 obtain ⟨c1,c2,c3,c4,c5,c6⟩:=hp.1
 obtain ⟨i1,i2,i3,i4,i5⟩:=hp.2.1
 have kk:=hp.2.2
 simp only [eq_self,exists_const,forall_const,decide_eq_true_eq,decide_eq_false_iff_not,and_true,true_and,bne_iff_ne,ne_eq,bne_eq_false_iff_eq,Int.toNat_natCast,Bool.not_eq_true',Bool.not_eq_false',beq_iff_eq,beq_eq_false_iff_ne,z07]
 refine ⟨fun h=>by unfold z0x; rw [if_pos h],fun h=>⟨fun h2=>by unfold z0x; rw [if_neg (fun h5=>h5 h),if_pos h2],fun h2=>?_⟩⟩
 have e0:z0x I c = if c.kind = 1 then z0p I c.flow c.pot else if c.kind = 2 then z1u I c.side else if z0v I c.flow ≠ 0 then z0v I c.flow else z1y I c.cycle:=by
  unfold z0x; rw [if_neg (fun h5=>h5 h),if_neg (by rw [h2]; simp)]
 rw [e0]
 exact ⟨fun k1=>⟨⟨i1,i2,c1,i3,c2,i5⟩,by rw [if_pos k1]⟩,fun k1=>absurd kk k1⟩
theorem rCheckB_ok:SpecOk Tryz.prog rCheckB_n true (z02 true zc1) :=
 z06 z0g (show z10 Tryz.prog zhu from z00 zi8 (z00 rPlain13_ok (z00 rSlack_ok (z00 rProvesN_ok (z00 rFits_ok (z00 rTurnsN_ok (z04))))))) (by kernel_rfl) mixedOrders Tryz.func104 rfl rfl (by kernel_rfl) (n:=2) (by decide +kernel) (I:=rCheckB_IA) (fun _ _=>z05) (A:=rCheckB_A)
  (fun args h r hr=>by
   unfold zc1 at hr
   split at hr
   ·rename_i c_k ty0 I_s ty1 I_a ty2 c_f ty3 c_p ty4 c_s ty5 c_y; cases hr; refine ⟨rfl,fun hp=>?_⟩; have hE:=rCheckB_E ⟨I_s,I_a⟩ ⟨c_k,c_f,c_p,c_s,c_y⟩ ty0 ty1 ty2 ty3 ty4 ty5 hp; exact hE
   ·cases hr)
end Go.Proofs.YtapeenpimcffpaaGreat
end
section
namespace Go.Proofs.YtapeenpimcffpaaGreat
open Go Go.RowKit Go.Ql Go.Vc
def rCopy_r (I:Inst):FRes:={ pre:=I.sup.length <= 1000000/\I.arcs.length <= 1000000,res:=.agg [.row 2,.row 3],rows:=[.row 2 (.ints .i64 (I).sup),.row 65 (.arcs (I).arcs)],eff:=[] }
def rCopy_fs:FS:=fun args h=>match args,h with
 | [.agg [.row 0,.row 1]],[(0,.row false ty0 (.ints .i64 I_s)),(1,.row false ty1 (.arcs I_a))]=>some (rCopy_r ⟨I_s,I_a⟩)
 | _,_=>none
def rCopy_an (I:Inst):List (Nat × Ann):=[]
def rCopy_A:List SV->z0c->List (Nat × Ann):=fun _ _=>[]
def rCopy_g:z0b:=[]
abbrev rCopy_n:Nat:=32
def rCopy_I (I:Inst):List (Nat × z08):=[]
def rCopy_IA:List SV->z0c->List (Nat × z08):=fun _ _=>[]
def rfit21_r (p:ProbD):FRes:={ pre:=True,res:=.bool (z8k p),rows:=[],eff:=[] }
def zim:FS:=fun args h=>match args,h with
 | [.agg [.bool p_m,.row 0,.row 1,.int .i64 p_S,.int .i64 p_T]],[(0,.row false ty0 (.ints .i64 p_s)),(1,.row false ty1 (.arcs p_a))]=>some (rfit21_r ⟨p_m,⟨p_s,p_a⟩,p_S,p_T⟩)
 | _,_=>none
def zil (p:ProbD):List (Nat × Ann):=[(5,{ G:=(Nat),inv:=fun k=>⟨[(1,.ptr 2 0 0 0),(3,.int .i64 (↑p.inst.sup.length:Int)),(4,.int .i64 k)],[(2,.box true 27 [.bool p.most,.row 0,.row 1,.int .i64 p.s,.int .i64 p.t]),(0,.row false 0 (.ints .i64 p.inst.sup)),(1,.row false 0 (.arcs p.inst.arcs))],3⟩,rel:=fun k0 k=>k <= p.inst.sup.length/\(p.inst.sup.take k).all (fun y=>decide (y = 0)) = true,meas:=fun k=>p.inst.sup.length - k }),
 (10,{ G:=(Nat),inv:=fun k=>⟨[(1,.ptr 2 0 0 0),(5,.int .i64 k)],[(2,.box true 27 [.bool p.most,.row 0,.row 1,.int .i64 p.s,.int .i64 p.t]),(0,.row false 0 (.ints .i64 p.inst.sup)),(1,.row false 0 (.arcs p.inst.arcs))],3⟩,rel:=fun k0 k=>k <= p.inst.arcs.length/\(p.inst.arcs.take k).all z9e = true,meas:=fun k=>p.inst.arcs.length - k })]
def rfit21_A:List SV->z0c->List (Nat × Ann):=fun args h=>match args,h with
 | [.agg [.bool p_m,.row 0,.row 1,.int .i64 p_S,.int .i64 p_T]],[(0,.row false ty0 (.ints .i64 p_s)),(1,.row false ty1 (.arcs p_a))]=>zil ⟨p_m,⟨p_s,p_a⟩,p_S,p_T⟩
 | _,_=>[]
def rfit21_g:z0b:=[(ze1,(true,z02 true z6y))]
abbrev rfit21_n:Nat:=31
def rfit21_I (p:ProbD):List (Nat × z08):=[]
def rfit21_IA:List SV->z0c->List (Nat × z08):=fun _ _=>[]
def rOf21_r (p:ProbD):FRes:={ pre:=True,res:=.tup [.agg [.row 2,.row 3],.int .i64 (ofE p)],rows:=[.row 2 (.ints .i64 (ofI p).sup),.row 65 (.arcs (ofI p).arcs)],eff:=[] }
def z7o:FS:=fun args h=>match args,h with
 | [.agg [.bool p_m,.row 0,.row 1,.int .i64 p_S,.int .i64 p_T]],[(0,.row false ty0 (.ints .i64 p_s)),(1,.row false ty1 (.arcs p_a))]=>some (rOf21_r ⟨p_m,⟨p_s,p_a⟩,p_S,p_T⟩)
 | _,_=>none
def rOf21_an (p:ProbD):List (Nat × Ann):=[]
def rOf21_A:List SV->z0c->List (Nat × Ann):=fun _ _=>[]
def rOf21_g:z0b:=[(rfit21_n,(true,z02 true zim)),(rCopy_n,(true,z02 true rCopy_fs))]
abbrev zi3:Nat:=12
def rOf21_I (p:ProbD):List (Nat × z08):=[]
def rOf21_IA:List SV->z0c->List (Nat × z08):=fun _ _=>[]
def zi0 (p:ProbD) (c:Cert):FRes:={ pre:=z0j c,res:=.bool (z13 p c),rows:=[],eff:=[] }
def z5n:FS:=fun args h=>match args,h with
 | [.agg [.bool p_m,.row 0,.row 1,.int .i64 p_S,.int .i64 p_T],.agg [.int .i64 c_k,.row 2,.row 3,.row 4,.row 5]],[(0,.row false ty0 (.ints .i64 p_s)),(1,.row false ty1 (.arcs p_a)),(2,.row false ty2 (.ints .i64 c_f)),(3,.row false ty3 (.ints .i64 c_p)),(4,.row false ty4 (.bools c_s)),(5,.row false ty5 (.ints .i64 c_y))]=>some (zi0 ⟨p_m,⟨p_s,p_a⟩,p_S,p_T⟩ ⟨c_k,c_f,c_p,c_s,c_y⟩)
 | _,_=>none
def rGood21_an (p:ProbD) (c:Cert):List (Nat × Ann):=[]
def rGood21_A:List SV->z0c->List (Nat × Ann):=fun _ _=>[]
def zhz:z0b:=[(zi3,(true,z02 true z7o)),(rCheckB_n,(true,z02 true zc1))]
abbrev za7:Nat:=62
def rGood21_I (p:ProbD) (c:Cert):List (Nat × z08):=[]
def rGood21_IA:List SV->z0c->List (Nat × z08):=fun _ _=>[]
def zcj (p:ProbD) (c:Cert):FRes:={ pre:=z0j c,res:=.tup [.int .i64 (z6d p c),.bool (z13 p c)],rows:=[],eff:=[] }
def z90:FS:=fun args h=>match args,h with
 | [.agg [.bool p_m,.row 0,.row 1,.int .i64 p_S,.int .i64 p_T],.agg [.int .i64 c_k,.row 2,.row 3,.row 4,.row 5]],[(0,.row false ty0 (.ints .i64 p_s)),(1,.row false ty1 (.arcs p_a)),(2,.row false ty2 (.ints .i64 c_f)),(3,.row false ty3 (.ints .i64 c_p)),(4,.row false ty4 (.bools c_s)),(5,.row false ty5 (.ints .i64 c_y))]=>some (zcj ⟨p_m,⟨p_s,p_a⟩,p_S,p_T⟩ ⟨c_k,c_f,c_p,c_s,c_y⟩)
 | _,_=>none
def zie (p:ProbD) (c:Cert):List (Nat × Ann):=[]
def rValue21_A:List SV->z0c->List (Nat × Ann):=fun _ _=>[]
def zci:z0b:=[(za7,(true,z02 true z5n))]
abbrev rValue21_n:Nat:=33
def rValue21_I (p:ProbD) (c:Cert):List (Nat × z08):=[]
def rValue21_IA:List SV->z0c->List (Nat × z08):=fun _ _=>[]
def zhy (p:ProbD) (c:Cert):FRes:={ pre:=z0j c,res:=.tup [.row 6,.bool (z13 p c)],rows:=[.row 2 (.ints .i64 (z23 p c))],eff:=[] }
def zc5:FS:=fun args h=>match args,h with
 | [.agg [.bool p_m,.row 0,.row 1,.int .i64 p_S,.int .i64 p_T],.agg [.int .i64 c_k,.row 2,.row 3,.row 4,.row 5]],[(0,.row false ty0 (.ints .i64 p_s)),(1,.row false ty1 (.arcs p_a)),(2,.row false ty2 (.ints .i64 c_f)),(3,.row false ty3 (.ints .i64 c_p)),(4,.row false ty4 (.bools c_s)),(5,.row false ty5 (.ints .i64 c_y))]=>some (zhy ⟨p_m,⟨p_s,p_a⟩,p_S,p_T⟩ ⟨c_k,c_f,c_p,c_s,c_y⟩)
 | _,_=>none
def rFlow21_an (p:ProbD) (c:Cert):List (Nat × Ann):=[]
def rFlow21_A:List SV->z0c->List (Nat × Ann):=fun _ _=>[]
def zhx:z0b:=[(za7,(true,z02 true z5n))]
abbrev rFlow21_n:Nat:=35
def rFlow21_I (p:ProbD) (c:Cert):List (Nat × z08):=[]
def rFlow21_IA:List SV->z0c->List (Nat × z08):=fun _ _=>[]
def zia (p:ProbD) (c:Cert):FRes:={ pre:=z0j c,res:=.tup [.row 6,.bool (z13 p c)],rows:=[.row 4 (.bools (z1q p c))],eff:=[] }
def zcg:FS:=fun args h=>match args,h with
 | [.agg [.bool p_m,.row 0,.row 1,.int .i64 p_S,.int .i64 p_T],.agg [.int .i64 c_k,.row 2,.row 3,.row 4,.row 5]],[(0,.row false ty0 (.ints .i64 p_s)),(1,.row false ty1 (.arcs p_a)),(2,.row false ty2 (.ints .i64 c_f)),(3,.row false ty3 (.ints .i64 c_p)),(4,.row false ty4 (.bools c_s)),(5,.row false ty5 (.ints .i64 c_y))]=>some (zia ⟨p_m,⟨p_s,p_a⟩,p_S,p_T⟩ ⟨c_k,c_f,c_p,c_s,c_y⟩)
 | _,_=>none
def zcf (p:ProbD) (c:Cert):List (Nat × Ann):=[(5,{ G:=(Nat),inv:=fun k=>⟨[(2,.ptr 6 0 0 0),(3,.ptr 7 0 0 0),(6,.row 9),(7,.int .i64 k)],[(9,.row true 4 (.bools ((z5c p c).take k))),(7,.box true 31 [.int .i64 c.kind,.row 2,.row 3,.row 4,.row 5]),(6,.box true 27 [.bool p.most,.row 0,.row 1,.int .i64 p.s,.int .i64 p.t]),(0,.row false 0 (.ints .i64 p.inst.sup)),(1,.row false 0 (.arcs p.inst.arcs)),(2,.row false 0 (.ints .i64 c.flow)),(3,.row false 0 (.ints .i64 c.pot)),(4,.row false 0 (.bools c.side)),(5,.row false 0 (.ints .i64 c.cycle))],10⟩,rel:=fun k0 k=>k <= c.pot.length,meas:=fun k=>c.pot.length - k })]
def rSide21_A:List SV->z0c->List (Nat × Ann):=fun args h=>match args,h with
 | [.agg [.bool p_m,.row 0,.row 1,.int .i64 p_S,.int .i64 p_T],.agg [.int .i64 c_k,.row 2,.row 3,.row 4,.row 5]],[(0,.row false ty0 (.ints .i64 p_s)),(1,.row false ty1 (.arcs p_a)),(2,.row false ty2 (.ints .i64 c_f)),(3,.row false ty3 (.ints .i64 c_p)),(4,.row false ty4 (.bools c_s)),(5,.row false ty5 (.ints .i64 c_y))]=>zcf ⟨p_m,⟨p_s,p_a⟩,p_S,p_T⟩ ⟨c_k,c_f,c_p,c_s,c_y⟩
 | _,_=>[]
def zi9:z0b:=[(za7,(true,z02 true z5n))]
abbrev rSide21_n:Nat:=34
def rSide21_I (p:ProbD) (c:Cert):List (Nat × z08):=[]
def rSide21_IA:List SV->z0c->List (Nat × z08):=fun _ _=>[]
def z92 (p:ProbD) (S:List Bool):FRes:={ pre:=S.length <= 1000000,res:=.tup [.agg (z0l (z2u (z1w p S))),.bool ((z1w p S).isSome)],rows:=[],eff:=[] }
def z74:FS:=fun args h=>match args,h with
 | [.agg [.bool p_m,.row 0,.row 1,.int .i64 p_S,.int .i64 p_T],.row 2],[(0,.row false ty0 (.ints .i64 p_s)),(1,.row false ty1 (.arcs p_a)),(2,.row false ty2 (.bools S))]=>some (z92 ⟨p_m,⟨p_s,p_a⟩,p_S,p_T⟩ S)
 | _,_=>none
def z73 (p:ProbD) (S:List Bool):List (Nat × Ann):=[(6,{ G:=(Nat) × (Int),inv:=fun ⟨k,s⟩=>⟨[(1,.row 2),(2,.ptr 3 0 0 0),(4,.ptr 4 0 0 0),(8,.ptr 10 0 0 0),(9,.int .i64 k)],[(10,.box true 54 (z0l (W s))),(4,.box true 54 [.int .i64 (0:Int),.int .u64 (0:Int)]),(3,.box true 27 [.bool p.most,.row 0,.row 1,.int .i64 p.s,.int .i64 p.t]),(0,.row false 0 (.ints .i64 p.inst.sup)),(1,.row false 0 (.arcs p.inst.arcs)),(2,.row false 0 (.bools S))],11⟩,rel:=fun ⟨k0,s0⟩ ⟨k,s⟩=>k <= p.inst.arcs.length/\z0u p.inst.sup.length S (p.inst.arcs.drop k) s = z2t p.inst S,meas:=fun ⟨k,s⟩=>p.inst.arcs.length - k })]
def rWeight21_A:List SV->z0c->List (Nat × Ann):=fun args h=>match args,h with
 | [.agg [.bool p_m,.row 0,.row 1,.int .i64 p_S,.int .i64 p_T],.row 2],[(0,.row false ty0 (.ints .i64 p_s)),(1,.row false ty1 (.arcs p_a)),(2,.row false ty2 (.bools S))]=>z73 ⟨p_m,⟨p_s,p_a⟩,p_S,p_T⟩ S
 | _,_=>[]
def z91:z0b:=[(zi3,(true,z02 true z7o)),(rOf_n,(true,z02 true rOf_fs)),(zcb,(true,z02 true z67))]
abbrev zig:Nat:=36
def zif (p:ProbD) (S:List Bool):List (Nat × z08):=[]
def rWeight21_IA:List SV->z0c->List (Nat × z08):=fun _ _=>[]
end Go.Proofs.YtapeenpimcffpaaGreat
end
section
namespace Go.Proofs.YtapeenpimcffpaaGreat
open Go Go.RowKit Go.Ql Go.Vc
def rCopy_E0 (I : Inst) (ty0 ty1 : TypeId) : Prop :=
   (0:Nat) + I.sup.length <= (1000000000:Nat)/\(0:Nat) + I.arcs.length <= (1000000000:Nat)/\((True/\True/\True)/\True)/\I.sup = I.sup/\I.arcs = I.arcs/\True
theorem rCopy_q (I:Inst) (ty0 ty1:TypeId):rCopy_E0 I ty0 ty1 = z1f TT rCopy_g (rCopy_I I) (rCopy_an I) Tryz.f32 [.agg [.row 0,.row 1]] [(0,.row false ty0 (.ints .i64 I.sup)),(1,.row false ty1 (.arcs I.arcs))] (rCopy_r I):=by kernel_rfl
theorem rCopy_E (I:Inst) (ty0 ty1:TypeId) (hp:I.sup.length <= 1000000/\I.arcs.length <= 1000000):FVc TT rCopy_g (rCopy_I I) (rCopy_an I) Tryz.f32 [.agg [.row 0,.row 1]] [(0,.row false ty0 (.ints .i64 I.sup)),(1,.row false ty1 (.arcs I.arcs))] (rCopy_r I):=by
 refine FVc.of (rCopy_E0 I ty0 ty1) (rCopy_q I ty0 ty1) ?_
 unfold rCopy_E0
 simp only [eq_self,exists_const,forall_const,decide_eq_true_eq,decide_eq_false_iff_not,and_true,true_and,bne_iff_ne,ne_eq,bne_eq_false_iff_eq,Int.toNat_natCast,Bool.not_eq_true',Bool.not_eq_false',beq_iff_eq,beq_eq_false_iff_ne,z07]
 exact ⟨by omega,by omega⟩
theorem rCopy_ok:SpecOk Tryz.prog rCopy_n true (z02 true rCopy_fs) :=
 z06 z0g (show z10 Tryz.prog rCopy_g from z04) (by kernel_rfl) mixedOrders Tryz.func32 rfl rfl (by kernel_rfl) (n:=1) (by decide +kernel) (I:=rCopy_IA) (fun _ _=>z05) (A:=rCopy_A)
  (fun args h r hr=>by
   unfold rCopy_fs at hr
   split at hr
   ·rename_i ty0 I_s ty1 I_a; cases hr; refine ⟨rfl,fun hp=>?_⟩; have hE:=rCopy_E ⟨I_s,I_a⟩ ty0 ty1 hp; exact hE
   ·cases hr)
abbrev z75 (p:ProbD):=((p.most = p.most/\(True/\(True/\(p.s = p.s/\(p.t = p.t/\True)))))/\(p.inst.sup = p.inst.sup/\(p.inst.arcs = p.inst.arcs/\True)))
def zik (p : ProbD) (ty0 ty1 : TypeId) : Prop :=
   ((!p.most) = true->(false = z8k p/\True)/\True)/\((!p.most) = false->True/\((z0a p.inst != (0:Int)) = true->(false = z8k p/\True)/\True)/\((z0a p.inst != (0:Int)) = false->(decide (p.s < (0:Int)) = true->(false = z8k p/\True)/\True)/\(decide (p.s < (0:Int)) = false->(decide (p.s ≥ (↑p.inst.sup.length:Int)) = true->(false = z8k p/\True)/\True)/\(decide (p.s ≥ (↑p.inst.sup.length:Int)) = false->(decide (p.t < (0:Int)) = true->(false = z8k p/\True)/\True)/\(decide (p.t < (0:Int)) = false->(decide (p.t ≥ (↑p.inst.sup.length:Int)) = true->(false = z8k p/\True)/\True)/\(decide (p.t ≥ (↑p.inst.sup.length:Int)) = false->((p.s == p.t) = true->(false = z8k p/\True)/\True)/\((p.s == p.t) = false->∃ (g0:Nat),((g0 <= p.inst.sup.length/\(((List.take g0 p.inst.sup).all fun (y:Int)=>decide (y = (0:Int))) = true))/\((0 = 0/\((↑p.inst.sup.length:Int) = ↑p.inst.sup.length/\((0:Int) = ↑g0/\True)))/\(z75 p)))/\(∀ (g:Nat),g <= p.inst.sup.length/\((List.take g p.inst.sup).all fun (y:Int)=>decide (y = (0:Int))) = true->(decide ((↑g:Int) < ↑p.inst.sup.length) = true->((0:Int) <= ↑g/\((↑g:Int) < ↑p.inst.sup.length))/\((↑g:Int).toNat < p.inst.sup.length/\(∀ (x:Int),p.inst.sup[(↑g:Int).toNat]? = some x->((x != (0:Int)) = true->(false = z8k p/\True)/\True)/\((x != (0:Int)) = false->∃ (g':Nat),(g' <= p.inst.sup.length/\(((List.take g' p.inst.sup).all fun (y:Int)=>decide (y = (0:Int))) = true))/\(p.inst.sup.length - g' < p.inst.sup.length - g/\((0 = 0/\((↑p.inst.sup.length:Int) = ↑p.inst.sup.length/\(IntKind.i64.wrap ((↑g:Int) + (1:Int)) = (↑g':Int)/\True)))/\(z75 p)))))))/\(decide ((↑g:Int) < ↑p.inst.sup.length) = false->∃ (g0:Nat),((g0 <= p.inst.arcs.length/\((List.take g0 p.inst.arcs).all z9e = true))/\((0 = 0/\((0:Int) = ↑g0/\True))/\(z75 p)))/\(∀ (g:Nat),g <= p.inst.arcs.length/\(List.take g p.inst.arcs).all z9e = true->(decide ((↑g:Int) < ↑p.inst.arcs.length) = true->((0:Int) <= ↑g/\((↑g:Int) < ↑p.inst.arcs.length))/\((↑g:Int).toNat < p.inst.arcs.length/\(∀ (x:Arc),p.inst.arcs[(↑g:Int).toNat]? = some x->((x.low != (0:Int)) = true->(false = z8k p/\True)/\True)/\((x.low != (0:Int)) = false->((0:Int) <= ↑g/\((↑g:Int) < ↑p.inst.arcs.length))/\((↑g:Int).toNat < p.inst.arcs.length/\(∀ (x:Arc),p.inst.arcs[(↑g:Int).toNat]? = some x->((x.cost != (0:Int)) = true->(false = z8k p/\True)/\True)/\((x.cost != (0:Int)) = false->∃ (g':Nat),(g' <= p.inst.arcs.length/\((List.take g' p.inst.arcs).all z9e = true))/\(p.inst.arcs.length - g' < p.inst.arcs.length - g/\((0 = 0/\(IntKind.i64.wrap ((↑g:Int) + (1:Int)) = (↑g':Int)/\True))/\(z75 p))))))))))/\(decide ((↑g:Int) < ↑p.inst.arcs.length) = false->(true = z8k p/\True)/\True)))))))))))
theorem rfit21_q (p:ProbD) (ty0 ty1:TypeId):zik p ty0 ty1 = z1f TT rfit21_g (rfit21_I p) (zil p) Tryz.f31 [.agg [.bool p.most,.row 0,.row 1,.int .i64 p.s,.int .i64 p.t]] [(0,.row false ty0 (.ints .i64 p.inst.sup)),(1,.row false ty1 (.arcs p.inst.arcs))] (rfit21_r p):=by kernel_rfl
theorem rfit21_E (p:ProbD) (ty0 ty1:TypeId) (hp:True):FVc TT rfit21_g (rfit21_I p) (zil p) Tryz.f31 [.agg [.bool p.most,.row 0,.row 1,.int .i64 p.s,.int .i64 p.t]] [(0,.row false ty0 (.ints .i64 p.inst.sup)),(1,.row false ty1 (.arcs p.inst.arcs))] (rfit21_r p):=by
 refine FVc.of (zik p ty0 ty1) (rfit21_q p ty0 ty1) ?_
 unfold zik
 delta z75
 have hw:∀ j:Nat,j <= 1000000->IntKind.i64.wrap ((j:Int) + 1) = ((j + 1:Nat):Int):=fun j hj=>by rw [w64 (by omega) (by omega)]; omega
 simp only [eq_self,exists_const,forall_const,decide_eq_true_eq,decide_eq_false_iff_not,and_true,true_and,bne_iff_ne,ne_eq,bne_eq_false_iff_eq,Int.toNat_natCast,Bool.not_eq_true',Bool.not_eq_false',beq_iff_eq,beq_eq_false_iff_ne,z07]
 refine ⟨fun h=>(z5h fun f=>by rw [f.m] at h; cases h).symm,fun hm=>⟨fun h=>(z5h fun f=>h f.r).symm,fun hr=>⟨fun h=>(z5h fun f=>by have:=nodeP_iff.1 f.s; omega).symm,fun s0=>⟨fun h=>(z5h fun f=>by have:=nodeP_iff.1 f.s; omega).symm,fun s1=>⟨fun h=>(z5h fun f=>by have:=nodeP_iff.1 f.t; omega).symm,fun t0=>⟨fun h=>(z5h fun f=>by have:=nodeP_iff.1 f.t; omega).symm,fun t1=>⟨fun h=>(z5h fun f=>f.d h).symm,fun hd=>?_⟩⟩⟩⟩⟩⟩⟩
 have hs:=z0n hr
 have nb:z4x p.inst = false->false = z8k p:=fun h=>(z5h fun f=>by rw [f.b] at h; cases h).symm
 refine ⟨0,⟨⟨Nat.zero_le _,rfl⟩,rfl⟩,fun g hg=>⟨fun h1=>⟨⟨by omega,by omega⟩,by omega,fun x hx=>⟨fun h2=>nb (bare_sup hx h2),fun h2=>⟨g + 1,⟨by omega,?_⟩,by omega,hw g (by omega)⟩⟩⟩,fun h1=>⟨0,⟨⟨Nat.zero_le _,rfl⟩,rfl⟩,fun k hk=>⟨fun h3=>⟨⟨by omega,by omega⟩,by omega,fun a ha=>⟨fun h4=>nb (zdo ha fun h=>h4 h.1),fun h4=>⟨⟨by omega,by omega⟩,by omega,fun b hb=>⟨fun h5=>nb (zdo hb fun h=>h5 h.2),fun h5=>⟨k + 1,⟨by omega,?_⟩,by omega,hw k (by omega)⟩⟩⟩⟩⟩,fun h3=>?_⟩⟩⟩⟩
 ·rw [allT hx,hg.2,decide_eq_true h2]; rfl
 ·rw [ha] at hb; cases hb
  rw [allT ha,hk.2,zeroA_of h4 h5]; rfl
 ·exact (fitP_iff.2 ⟨hm,hr,bare_end hg.2 (by omega) hk.2 (by omega),nodeP_iff.2 ⟨by omega,by omega⟩,nodeP_iff.2 ⟨by omega,by omega⟩,hd⟩).symm
theorem rfit21_ok:SpecOk Tryz.prog rfit21_n true (z02 true zim) :=
 z06 z0g (show z10 Tryz.prog rfit21_g from z00 zi8 (z04)) (by kernel_rfl) mixedOrders Tryz.func31 rfl rfl (by kernel_rfl) (n:=1) (by decide +kernel) (I:=rfit21_IA) (fun _ _=>z05) (A:=rfit21_A)
  (fun args h r hr=>by
   unfold zim at hr
   split at hr
   ·rename_i p_m p_S p_T ty0 p_s ty1 p_a; cases hr; refine ⟨rfl,fun hp=>?_⟩; have hE:=rfit21_E ⟨p_m,⟨p_s,p_a⟩,p_S,p_T⟩ ty0 ty1 hp; exact hE
   ·cases hr)
def rOf21_E0 (p : ProbD) (ty0 ty1 : TypeId) : Prop :=
      True /\
 ((!z8k { most:=p.most,inst:=p.inst,s:=p.s,t:=p.t:ProbD }) = true ->
 (((True/\True/\True)/\(1:Int) = ofE p/\True)/\True)/\[] = (ofI p).sup/\[] = (ofI p).arcs/\True) /\
 ((!z8k { most:=p.most,inst:=p.inst,s:=p.s,t:=p.t:ProbD }) = false ->
 (decide ((↑p.inst.arcs.length:Int) ≥ (256:Int)) = true->(((True/\True/\True)/\(20:Int) = ofE p/\True)/\True)/\[] = (ofI p).sup/\[] = (ofI p).arcs/\True) /\
 (decide ((↑p.inst.arcs.length:Int) ≥ (256:Int)) = false ->
 (p.inst.sup.length <= (1000000:Nat)/\p.inst.arcs.length <= (1000000:Nat)) /\
 p.inst.arcs.length + (1:Nat) <= (1000000000:Nat) /\
 (((True/\True/\True)/\(0:Int) = ofE p/\True)/\True) /\
 p.inst.sup = (ofI p).sup /\
 p.inst.arcs ++ [{ src:=p.t,dst:=p.s,low:=(0:Int),cap:=(4611686018427387904:Int),cost:=(-1:Int):Arc }] = (ofI p).arcs/\True))
theorem rOf21_q (p:ProbD) (ty0 ty1:TypeId):rOf21_E0 p ty0 ty1 = z1f TT rOf21_g (rOf21_I p) (rOf21_an p) Tryz.f12 [.agg [.bool p.most,.row 0,.row 1,.int .i64 p.s,.int .i64 p.t]] [(0,.row false ty0 (.ints .i64 p.inst.sup)),(1,.row false ty1 (.arcs p.inst.arcs))] (rOf21_r p):=by kernel_rfl
theorem rOf21_E (p:ProbD) (ty0 ty1:TypeId) (hp:True):FVc TT rOf21_g (rOf21_I p) (rOf21_an p) Tryz.f12 [.agg [.bool p.most,.row 0,.row 1,.int .i64 p.s,.int .i64 p.t]] [(0,.row false ty0 (.ints .i64 p.inst.sup)),(1,.row false ty1 (.arcs p.inst.arcs))] (rOf21_r p):=by
 refine FVc.of (rOf21_E0 p ty0 ty1) (rOf21_q p ty0 ty1) ?_
 unfold rOf21_E0
 simp only [eq_self,exists_const,forall_const,decide_eq_true_eq,decide_eq_false_iff_not,and_true,true_and,bne_iff_ne,ne_eq,bne_eq_false_iff_eq,Int.toNat_natCast,Bool.not_eq_true',Bool.not_eq_false',beq_iff_eq,beq_eq_false_iff_ne,z07]
 refine ⟨fun h=>?_,fun h=>⟨fun h2=>?_,fun h2=>?_⟩⟩
 ·have e:ofE p = 1:=if_neg (by rw [h]; decide)
  rw [ofI_no (by rw [e]; decide),e]; exact ⟨rfl,rfl,rfl⟩
 ·have e:ofE p = 20:=by unfold ofE; rw [if_pos h,if_pos (by omega)]
  rw [ofI_no (by rw [e]; decide),e]; exact ⟨rfl,rfl,rfl⟩
 ·have hs:=z0n (fitP_iff.1 h).r
  have e:ofE p = 0:=by unfold ofE; rw [if_pos h,if_neg (by omega)]
  rw [zd3 e,e]; exact ⟨by omega,by omega,rfl,rfl,rfl⟩
theorem ze0:SpecOk Tryz.prog zi3 true (z02 true z7o) :=
 z06 z0g (show z10 Tryz.prog rOf21_g from z00 rfit21_ok (z00 rCopy_ok (z04))) (by kernel_rfl) mixedOrders Tryz.func12 rfl rfl (by kernel_rfl) (n:=1) (by decide +kernel) (I:=rOf21_IA) (fun _ _=>z05) (A:=rOf21_A)
  (fun args h r hr=>by
   unfold z7o at hr
   split at hr
   ·rename_i p_m p_S p_T ty0 p_s ty1 p_a; cases hr; refine ⟨rfl,fun hp=>?_⟩; have hE:=rOf21_E ⟨p_m,⟨p_s,p_a⟩,p_S,p_T⟩ ty0 ty1 hp; exact hE
   ·cases hr)
def zc6 (p : ProbD) (c : Cert) (ty0 ty1 ty2 ty3 ty4 ty5 : TypeId) : Prop :=
      True /\
 ((ofE { most:=p.most,inst:=p.inst,s:=p.s,t:=p.t:ProbD } == (0:Int)) = true ->
 ((c.kind == (1:Int)) = true ->
 (z0j { kind:=c.kind,flow:=c.flow,pot:=c.pot,side:=c.side,cycle:=c.cycle:Cert } /\
 z2b (ofI { most:=p.most,inst:=p.inst,s:=p.s,t:=p.t:ProbD })/\c.kind = (1:Int)) /\
 ((z0x (ofI { most:=p.most,inst:=p.inst,s:=p.s,t:=p.t:ProbD })
 { kind:=c.kind,flow:=c.flow,pot:=c.pot,side:=c.side,cycle:=c.cycle:Cert } ==
 (0:Int)) =
 z13 p c /\
 True) /\
 True) /\
 ((c.kind == (1:Int)) = false->(false = z13 p c/\True)/\True)) /\
 ((ofE { most:=p.most,inst:=p.inst,s:=p.s,t:=p.t:ProbD } == (0:Int)) = false->(false = z13 p c/\True)/\True)
theorem rGood21_q (p:ProbD) (c:Cert) (ty0 ty1 ty2 ty3 ty4 ty5:TypeId):zc6 p c ty0 ty1 ty2 ty3 ty4 ty5 = z1f TT zhz (rGood21_I p c) (rGood21_an p c) Tryz.f62 [.agg [.bool p.most,.row 0,.row 1,.int .i64 p.s,.int .i64 p.t],.agg [.int .i64 c.kind,.row 2,.row 3,.row 4,.row 5]] [(0,.row false ty0 (.ints .i64 p.inst.sup)),(1,.row false ty1 (.arcs p.inst.arcs)),(2,.row false ty2 (.ints .i64 c.flow)),(3,.row false ty3 (.ints .i64 c.pot)),(4,.row false ty4 (.bools c.side)),(5,.row false ty5 (.ints .i64 c.cycle))] (zi0 p c):=by kernel_rfl
theorem rGood21_E (p:ProbD) (c:Cert) (ty0 ty1 ty2 ty3 ty4 ty5:TypeId) (hp:z0j c):FVc TT zhz (rGood21_I p c) (rGood21_an p c) Tryz.f62 [.agg [.bool p.most,.row 0,.row 1,.int .i64 p.s,.int .i64 p.t],.agg [.int .i64 c.kind,.row 2,.row 3,.row 4,.row 5]] [(0,.row false ty0 (.ints .i64 p.inst.sup)),(1,.row false ty1 (.arcs p.inst.arcs)),(2,.row false ty2 (.ints .i64 c.flow)),(3,.row false ty3 (.ints .i64 c.pot)),(4,.row false ty4 (.bools c.side)),(5,.row false ty5 (.ints .i64 c.cycle))] (zi0 p c):=by
 refine FVc.of (zc6 p c ty0 ty1 ty2 ty3 ty4 ty5) (rGood21_q p c ty0 ty1 ty2 ty3 ty4 ty5) ?_
 unfold zc6
 simp only [eq_self,exists_const,forall_const,decide_eq_true_eq,decide_eq_false_iff_not,and_true,true_and,bne_iff_ne,ne_eq,bne_eq_false_iff_eq,Int.toNat_natCast,Bool.not_eq_true',Bool.not_eq_false',beq_iff_eq,beq_eq_false_iff_ne,z07]
 refine ⟨fun h0=>⟨fun h1=>⟨⟨hp,?_,h1⟩,?_⟩,fun h1=>(zh2 fun g=>h1 g.k).symm⟩,fun h0=>(zh2 fun g=>h0 g.e).symm⟩
 ·rw [zd3 h0]; exact ze2 (z7j h0)
 ·unfold z13; rw [decide_eq_true h0,decide_eq_true h1]; rfl
theorem zc7:SpecOk Tryz.prog za7 true (z02 true z5n) :=
 z06 z0g (show z10 Tryz.prog zhz from z00 ze0 (z00 rCheckB_ok (z04))) (by kernel_rfl) mixedOrders Tryz.func62 rfl rfl (by kernel_rfl) (n:=2) (by decide +kernel) (I:=rGood21_IA) (fun _ _=>z05) (A:=rGood21_A)
  (fun args h r hr=>by
   unfold z5n at hr
   split at hr
   ·rename_i p_m p_S p_T c_k ty0 p_s ty1 p_a ty2 c_f ty3 c_p ty4 c_s ty5 c_y; cases hr; refine ⟨rfl,fun hp=>?_⟩; have hE:=rGood21_E ⟨p_m,⟨p_s,p_a⟩,p_S,p_T⟩ ⟨c_k,c_f,c_p,c_s,c_y⟩ ty0 ty1 ty2 ty3 ty4 ty5 hp; exact hE
   ·cases hr)
def z8z (p : ProbD) (c : Cert) (ty0 ty1 ty2 ty3 ty4 ty5 : TypeId) : Prop :=
      z0j { kind:=c.kind,flow:=c.flow,pot:=c.pot,side:=c.side,cycle:=c.cycle:Cert } /\
 ((!z13 { most:=p.most,inst:=p.inst,s:=p.s,t:=p.t:ProbD } { kind:=c.kind,flow:=c.flow,pot:=c.pot,side:=c.side,cycle:=c.cycle:Cert }) = true ->
 (((0:Int) = z6d p c/\false = z13 p c/\True)/\True)/\True) /\
 ((!z13 { most:=p.most,inst:=p.inst,s:=p.s,t:=p.t:ProbD } { kind:=c.kind,flow:=c.flow,pot:=c.pot,side:=c.side,cycle:=c.cycle:Cert }) = false ->
 ((0:Int) <= IntKind.i64.wrap ((↑c.flow.length:Int) - (1:Int))/\IntKind.i64.wrap ((↑c.flow.length:Int) - (1:Int)) < (↑c.flow.length:Int)) /\
 (IntKind.i64.wrap ((↑c.flow.length:Int) - (1:Int))).toNat < c.flow.length /\
 ∀ (x:Int),c.flow[(IntKind.i64.wrap ((↑c.flow.length:Int) - (1:Int))).toNat]? = some x->((x = z6d p c/\true = z13 p c/\True)/\True)/\True)
theorem rValue21_q (p:ProbD) (c:Cert) (ty0 ty1 ty2 ty3 ty4 ty5:TypeId):z8z p c ty0 ty1 ty2 ty3 ty4 ty5 = z1f TT zci (rValue21_I p c) (zie p c) Tryz.f33 [.agg [.bool p.most,.row 0,.row 1,.int .i64 p.s,.int .i64 p.t],.agg [.int .i64 c.kind,.row 2,.row 3,.row 4,.row 5]] [(0,.row false ty0 (.ints .i64 p.inst.sup)),(1,.row false ty1 (.arcs p.inst.arcs)),(2,.row false ty2 (.ints .i64 c.flow)),(3,.row false ty3 (.ints .i64 c.pot)),(4,.row false ty4 (.bools c.side)),(5,.row false ty5 (.ints .i64 c.cycle))] (zcj p c):=by kernel_rfl
theorem rValue21_E (p:ProbD) (c:Cert) (ty0 ty1 ty2 ty3 ty4 ty5:TypeId) (hp:z0j c):FVc TT zci (rValue21_I p c) (zie p c) Tryz.f33 [.agg [.bool p.most,.row 0,.row 1,.int .i64 p.s,.int .i64 p.t],.agg [.int .i64 c.kind,.row 2,.row 3,.row 4,.row 5]] [(0,.row false ty0 (.ints .i64 p.inst.sup)),(1,.row false ty1 (.arcs p.inst.arcs)),(2,.row false ty2 (.ints .i64 c.flow)),(3,.row false ty3 (.ints .i64 c.pot)),(4,.row false ty4 (.bools c.side)),(5,.row false ty5 (.ints .i64 c.cycle))] (zcj p c):=by
 refine FVc.of (z8z p c ty0 ty1 ty2 ty3 ty4 ty5) (rValue21_q p c ty0 ty1 ty2 ty3 ty4 ty5) ?_
 unfold z8z
 have no:z13 p c = false->z6d p c = 0/\z23 p c = []/\z1q p c = []:=fun e=>by
  unfold z6d z23 z1q
  rw [e]; exact ⟨rfl,rfl,rfl⟩
 have yes:z13 p c = true->z6d p c = c.flow.getD p.inst.arcs.length 0/\z23 p c = c.flow.take p.inst.arcs.length/\z1q p c = z5c p c:=fun e=>by
  unfold z6d z23 z1q
  rw [e]; exact ⟨rfl,rfl,rfl⟩
 simp only [eq_self,exists_const,forall_const,decide_eq_true_eq,decide_eq_false_iff_not,and_true,true_and,bne_iff_ne,ne_eq,bne_eq_false_iff_eq,Int.toNat_natCast,Bool.not_eq_true',Bool.not_eq_false',beq_iff_eq,beq_eq_false_iff_ne,z07]
 refine ⟨hp,fun h=>by obtain ⟨n1,-,-⟩:=no h; exact ⟨n1.symm,h.symm⟩,fun h=>?_⟩
 have hG:=goodP_iff.1 h
 have hl:=hG.len
 have hs:=z0n (ofE_zero.1 hG.e).1.r
 obtain ⟨y1,y3,y4⟩:=yes h
 have e:IntKind.i64.wrap ((c.flow.length:Int) - 1) = (p.inst.arcs.length:Int):=by rw [hl.1,w64 (by omega) (by omega)]; omega
 rw [e]
 refine ⟨⟨by omega,by omega⟩,by omega,fun x hx=>?_⟩
 rw [Int.toNat_natCast] at hx
 rw [y1,h,List.getD_eq_getElem?_getD,hx]; exact ⟨rfl,rfl⟩
theorem rValue21_ok:SpecOk Tryz.prog rValue21_n true (z02 true z90) :=
 z06 z0g (show z10 Tryz.prog zci from z00 zc7 (z04)) (by kernel_rfl) mixedOrders Tryz.func33 rfl rfl (by kernel_rfl) (n:=2) (by decide +kernel) (I:=rValue21_IA) (fun _ _=>z05) (A:=rValue21_A)
  (fun args h r hr=>by
   unfold z90 at hr
   split at hr
   ·rename_i p_m p_S p_T c_k ty0 p_s ty1 p_a ty2 c_f ty3 c_p ty4 c_s ty5 c_y; cases hr; refine ⟨rfl,fun hp=>?_⟩; have hE:=rValue21_E ⟨p_m,⟨p_s,p_a⟩,p_S,p_T⟩ ⟨c_k,c_f,c_p,c_s,c_y⟩ ty0 ty1 ty2 ty3 ty4 ty5 hp; exact hE
   ·cases hr)
def zc4 (p : ProbD) (c : Cert) (ty0 ty1 ty2 ty3 ty4 ty5 : TypeId) : Prop :=
      z0j { kind:=c.kind,flow:=c.flow,pot:=c.pot,side:=c.side,cycle:=c.cycle:Cert } /\
 ((!z13 { most:=p.most,inst:=p.inst,s:=p.s,t:=p.t:ProbD } { kind:=c.kind,flow:=c.flow,pot:=c.pot,side:=c.side,cycle:=c.cycle:Cert }) = true ->
 ((True/\false = z13 p c/\True)/\True)/\[] = z23 p c/\True) /\
 ((!z13 { most:=p.most,inst:=p.inst,s:=p.s,t:=p.t:ProbD } { kind:=c.kind,flow:=c.flow,pot:=c.pot,side:=c.side,cycle:=c.cycle:Cert }) = false ->
 ((0:Int) <= (0:Int) /\
 (0:Int) <= IntKind.i64.wrap ((↑c.flow.length:Int) - (1:Int)) /\
 IntKind.i64.wrap ((↑c.flow.length:Int) - (1:Int)) <= (↑c.flow.length:Int)/\(↑c.flow.length:Int) <= (↑c.flow.length:Int)) /\
 (0:Nat) + (List.drop (Int.toNat (0:Int)) (List.take (IntKind.i64.wrap ((↑c.flow.length:Int) - (1:Int))).toNat c.flow)).length <= (1000000000:Nat) /\
 ((True/\true = z13 p c/\True)/\True) /\
 List.drop (Int.toNat (0:Int)) (List.take (IntKind.i64.wrap ((↑c.flow.length:Int) - (1:Int))).toNat c.flow) = z23 p c/\True)
theorem rFlow21_q (p:ProbD) (c:Cert) (ty0 ty1 ty2 ty3 ty4 ty5:TypeId):zc4 p c ty0 ty1 ty2 ty3 ty4 ty5 = z1f TT zhx (rFlow21_I p c) (rFlow21_an p c) Tryz.f35 [.agg [.bool p.most,.row 0,.row 1,.int .i64 p.s,.int .i64 p.t],.agg [.int .i64 c.kind,.row 2,.row 3,.row 4,.row 5]] [(0,.row false ty0 (.ints .i64 p.inst.sup)),(1,.row false ty1 (.arcs p.inst.arcs)),(2,.row false ty2 (.ints .i64 c.flow)),(3,.row false ty3 (.ints .i64 c.pot)),(4,.row false ty4 (.bools c.side)),(5,.row false ty5 (.ints .i64 c.cycle))] (zhy p c):=by kernel_rfl
theorem rFlow21_E (p:ProbD) (c:Cert) (ty0 ty1 ty2 ty3 ty4 ty5:TypeId) (hp:z0j c):FVc TT zhx (rFlow21_I p c) (rFlow21_an p c) Tryz.f35 [.agg [.bool p.most,.row 0,.row 1,.int .i64 p.s,.int .i64 p.t],.agg [.int .i64 c.kind,.row 2,.row 3,.row 4,.row 5]] [(0,.row false ty0 (.ints .i64 p.inst.sup)),(1,.row false ty1 (.arcs p.inst.arcs)),(2,.row false ty2 (.ints .i64 c.flow)),(3,.row false ty3 (.ints .i64 c.pot)),(4,.row false ty4 (.bools c.side)),(5,.row false ty5 (.ints .i64 c.cycle))] (zhy p c):=by
 refine FVc.of (zc4 p c ty0 ty1 ty2 ty3 ty4 ty5) (rFlow21_q p c ty0 ty1 ty2 ty3 ty4 ty5) ?_
 unfold zc4
 have no:z13 p c = false->z6d p c = 0/\z23 p c = []/\z1q p c = []:=fun e=>by
  unfold z6d z23 z1q
  rw [e]; exact ⟨rfl,rfl,rfl⟩
 have yes:z13 p c = true->z6d p c = c.flow.getD p.inst.arcs.length 0/\z23 p c = c.flow.take p.inst.arcs.length/\z1q p c = z5c p c:=fun e=>by
  unfold z6d z23 z1q
  rw [e]; exact ⟨rfl,rfl,rfl⟩
 simp only [eq_self,exists_const,forall_const,decide_eq_true_eq,decide_eq_false_iff_not,and_true,true_and,bne_iff_ne,ne_eq,bne_eq_false_iff_eq,Int.toNat_natCast,Bool.not_eq_true',Bool.not_eq_false',beq_iff_eq,beq_eq_false_iff_ne,z07]
 refine ⟨hp,fun h=>by obtain ⟨-,n1,-⟩:=no h; exact ⟨h.symm,n1.symm⟩,fun h=>?_⟩
 have hG:=goodP_iff.1 h
 have hl:=hG.len
 have hs:=z0n (ofE_zero.1 hG.e).1.r
 obtain ⟨y1,y3,y4⟩:=yes h
 have e:IntKind.i64.wrap ((c.flow.length:Int) - 1) = (p.inst.arcs.length:Int):=by rw [hl.1,w64 (by omega) (by omega)]; omega
 rw [e]
 rw [Int.toNat_natCast,y3]
 refine ⟨⟨by omega,by omega,by omega,by omega⟩,?_,h.symm,rfl⟩
 have:(List.drop (Int.toNat 0) (List.take p.inst.arcs.length c.flow)).length = p.inst.arcs.length:=by simp; omega
 omega
theorem rFlow21_ok:SpecOk Tryz.prog rFlow21_n true (z02 true zc5) :=
 z06 z0g (show z10 Tryz.prog zhx from z00 zc7 (z04)) (by kernel_rfl) mixedOrders Tryz.func35 rfl rfl (by kernel_rfl) (n:=2) (by decide +kernel) (I:=rFlow21_IA) (fun _ _=>z05) (A:=rFlow21_A)
  (fun args h r hr=>by
   unfold zc5 at hr
   split at hr
   ·rename_i p_m p_S p_T c_k ty0 p_s ty1 p_a ty2 c_f ty3 c_p ty4 c_s ty5 c_y; cases hr; refine ⟨rfl,fun hp=>?_⟩; have hE:=rFlow21_E ⟨p_m,⟨p_s,p_a⟩,p_S,p_T⟩ ⟨c_k,c_f,c_p,c_s,c_y⟩ ty0 ty1 ty2 ty3 ty4 ty5 hp; exact hE
   ·cases hr)
def zce (p : ProbD) (c : Cert) (ty0 ty1 ty2 ty3 ty4 ty5 : TypeId) : Prop :=
      z0j { kind:=c.kind,flow:=c.flow,pot:=c.pot,side:=c.side,cycle:=c.cycle:Cert } /\
 ((!z13 { most:=p.most,inst:=p.inst,s:=p.s,t:=p.t:ProbD } { kind:=c.kind,flow:=c.flow,pot:=c.pot,side:=c.side,cycle:=c.cycle:Cert }) = true ->
 ((True/\false = z13 p c/\True)/\True)/\[] = z1q p c/\True) /\
 ((!z13 { most:=p.most,inst:=p.inst,s:=p.s,t:=p.t:ProbD } { kind:=c.kind,flow:=c.flow,pot:=c.pot,side:=c.side,cycle:=c.cycle:Cert }) = false ->
 ∃ (g0:Nat),
 (g0 <= c.pot.length /\
 ((0:Nat) = (0:Nat)/\(0:Nat) = (0:Nat)/\True/\(0:Int) = (↑g0:Int)/\True) /\
 [] = List.take g0 (z5c p c) /\
 (c.kind = c.kind/\True/\True/\True/\True/\True) /\
 (p.most = p.most/\True/\True/\p.s = p.s/\p.t = p.t/\True) /\
 p.inst.sup = p.inst.sup/\p.inst.arcs = p.inst.arcs/\c.flow = c.flow/\c.pot = c.pot/\c.side = c.side/\c.cycle = c.cycle/\True) /\
 ∀ (g:Nat),
 g <= c.pot.length ->
 (decide ((↑g:Int) < (↑c.pot.length:Int)) = true ->
 ((0:Int) <= (↑g:Int)/\(↑g:Int) < (↑c.pot.length:Int)) /\
 (↑g:Int).toNat < c.pot.length /\
 ∀ (x:Int),
 c.pot[(↑g:Int).toNat]? = some x ->
 ((0:Int) <= p.t/\p.t < (↑c.pot.length:Int)) /\
 p.t.toNat < c.pot.length /\
 ∀ (x_1:Int),
 c.pot[p.t.toNat]? = some x_1 ->
 (List.take g (z5c p c)).length + (1:Nat) <= (1000000000:Nat) /\
 ∃ (g':Nat),
 g' <= c.pot.length /\
 c.pot.length - g' < c.pot.length - g /\
 ((0:Nat) = (0:Nat)/\(0:Nat) = (0:Nat)/\True/\IntKind.i64.wrap ((↑g:Int) + (1:Int)) = (↑g':Int)/\True) /\
 List.take g (z5c p c) ++ [decide (x > x_1)] = List.take g' (z5c p c) /\
 (c.kind = c.kind/\True/\True/\True/\True/\True) /\
 (p.most = p.most/\True/\True/\p.s = p.s/\p.t = p.t/\True) /\
 p.inst.sup = p.inst.sup /\
 p.inst.arcs = p.inst.arcs/\c.flow = c.flow/\c.pot = c.pot/\c.side = c.side/\c.cycle = c.cycle/\True) /\
 (decide ((↑g:Int) < (↑c.pot.length:Int)) = false->((True/\true = z13 p c/\True)/\True)/\List.take g (z5c p c) = z1q p c/\True))
theorem rSide21_q (p:ProbD) (c:Cert) (ty0 ty1 ty2 ty3 ty4 ty5:TypeId):zce p c ty0 ty1 ty2 ty3 ty4 ty5 = z1f TT zi9 (rSide21_I p c) (zcf p c) Tryz.f34 [.agg [.bool p.most,.row 0,.row 1,.int .i64 p.s,.int .i64 p.t],.agg [.int .i64 c.kind,.row 2,.row 3,.row 4,.row 5]] [(0,.row false ty0 (.ints .i64 p.inst.sup)),(1,.row false ty1 (.arcs p.inst.arcs)),(2,.row false ty2 (.ints .i64 c.flow)),(3,.row false ty3 (.ints .i64 c.pot)),(4,.row false ty4 (.bools c.side)),(5,.row false ty5 (.ints .i64 c.cycle))] (zia p c):=by kernel_rfl
theorem rSide21_E (p:ProbD) (c:Cert) (ty0 ty1 ty2 ty3 ty4 ty5:TypeId) (hp:z0j c):FVc TT zi9 (rSide21_I p c) (zcf p c) Tryz.f34 [.agg [.bool p.most,.row 0,.row 1,.int .i64 p.s,.int .i64 p.t],.agg [.int .i64 c.kind,.row 2,.row 3,.row 4,.row 5]] [(0,.row false ty0 (.ints .i64 p.inst.sup)),(1,.row false ty1 (.arcs p.inst.arcs)),(2,.row false ty2 (.ints .i64 c.flow)),(3,.row false ty3 (.ints .i64 c.pot)),(4,.row false ty4 (.bools c.side)),(5,.row false ty5 (.ints .i64 c.cycle))] (zia p c):=by
 refine FVc.of (zce p c ty0 ty1 ty2 ty3 ty4 ty5) (rSide21_q p c ty0 ty1 ty2 ty3 ty4 ty5) ?_
 unfold zce
 have hw:∀ j:Nat,j <= 1000000->IntKind.i64.wrap ((j:Int) + 1) = ((j + 1:Nat):Int):=fun j hj=>by rw [w64 (by omega) (by omega)]; omega
 have no:z13 p c = false->z6d p c = 0/\z23 p c = []/\z1q p c = []:=fun e=>by
  unfold z6d z23 z1q
  rw [e]; exact ⟨rfl,rfl,rfl⟩
 have yes:z13 p c = true->z6d p c = c.flow.getD p.inst.arcs.length 0/\z23 p c = c.flow.take p.inst.arcs.length/\z1q p c = z5c p c:=fun e=>by
  unfold z6d z23 z1q
  rw [e]; exact ⟨rfl,rfl,rfl⟩
 simp only [eq_self,exists_const,forall_const,decide_eq_true_eq,decide_eq_false_iff_not,and_true,true_and,bne_iff_ne,ne_eq,bne_eq_false_iff_eq,Int.toNat_natCast,Bool.not_eq_true',Bool.not_eq_false',beq_iff_eq,beq_eq_false_iff_ne,z07]
 refine ⟨hp,fun h=>by obtain ⟨-,-,n1⟩:=no h; exact ⟨h.symm,n1.symm⟩,fun h=>?_⟩
 have hG:=goodP_iff.1 h
 have hl:=hG.len
 have hs:=z0n (ofE_zero.1 hG.e).1.r
 obtain ⟨y1,y3,y4⟩:=yes h
 have ht:=nodeP_iff.1 (ofE_zero.1 hG.e).1.t
 have hsl:(z5c p c).length = c.pot.length:=by unfold z5c; simp
 refine ⟨0,⟨Nat.zero_le _,rfl,rfl⟩,fun g hg=>⟨fun h1=>⟨⟨by omega,by omega⟩,by omega,fun x hx=>⟨⟨by omega,by omega⟩,by omega,fun y hy=>⟨by rw [List.length_take]; omega,g + 1,by omega,by omega,hw g (by omega),?_⟩⟩⟩,fun h1=>?_⟩⟩
 ·refine (z1a ?_).symm
  unfold z5c
  rw [List.getElem?_map,hx,List.getD_eq_getElem?_getD,hy]; rfl
 ·rw [y4,List.take_of_length_le (by omega)]; exact ⟨h.symm,rfl⟩
theorem rSide21_ok:SpecOk Tryz.prog rSide21_n true (z02 true zcg) :=
 z06 z0g (show z10 Tryz.prog zi9 from z00 zc7 (z04)) (by kernel_rfl) mixedOrders Tryz.func34 rfl rfl (by kernel_rfl) (n:=2) (by decide +kernel) (I:=rSide21_IA) (fun _ _=>z05) (A:=rSide21_A)
  (fun args h r hr=>by
   unfold zcg at hr
   split at hr
   ·rename_i p_m p_S p_T c_k ty0 p_s ty1 p_a ty2 c_f ty3 c_p ty4 c_s ty5 c_y; cases hr; refine ⟨rfl,fun hp=>?_⟩; have hE:=rSide21_E ⟨p_m,⟨p_s,p_a⟩,p_S,p_T⟩ ⟨c_k,c_f,c_p,c_s,c_y⟩ ty0 ty1 ty2 ty3 ty4 ty5 hp; exact hE
   ·cases hr)
abbrev z55 (p:ProbD) (S:List Bool):=(((0:Int) = 0/\((0:Int) = 0/\True))/\((p.most = p.most/\(True/\(True/\(p.s = p.s/\(p.t = p.t/\True)))))/\(p.inst.sup = p.inst.sup/\(p.inst.arcs = p.inst.arcs/\(S = S/\True)))))
abbrev z39 (p:ProbD) (S:List Bool):=((((0:Int) = (z2u (z1w p S)).hi/\((0:Int) = (z2u (z1w p S)).lo/\True))/\(false = (z1w p S).isSome/\True))/\True)
abbrev z72 (p:ProbD) (g':Nat × Int) (g:Nat × Int) (S:List Bool):=(p.inst.arcs.length - g'.fst < p.inst.arcs.length - g.fst/\((True/\(0 = 0/\(0 = 0/\(0 = 0/\(IntKind.i64.wrap ((↑g.1:Int) + (1:Int)) = (↑g'.1:Int)/\True)))))/\(((W g.2).hi = (W g'.2).hi/\((W g.2).lo = (W g'.2).lo/\True))/\(z55 p S))))
abbrev z56 (g':Nat × Int) (p:ProbD) (S:List Bool):=(g'.fst <= p.inst.arcs.length/\(z0u (↑p.inst.sup.length:Int) S (List.drop g'.fst p.inst.arcs) g'.snd = z2t p.inst S))
def z71 (p : ProbD) (S : List Bool) (ty0 ty1 ty2 : TypeId) : Prop :=
   True/\((ofE { most:=p.most,inst:=p.inst,s:=p.s,t:=p.t:ProbD } != (0:Int)) = true->(z39 p S)/\True)/\((ofE { most:=p.most,inst:=p.inst,s:=p.s,t:=p.t:ProbD } != (0:Int)) = false->(((↑S.length:Int) != (↑p.inst.sup.length:Int)) = true->(z39 p S)/\True)/\(((↑S.length:Int) != (↑p.inst.sup.length:Int)) = false->((0:Int) <= p.s/\(p.s < (↑S.length:Int)))/\p.s.toNat < S.length/\∀ (x:Bool),S[p.s.toNat]? = some x->((!x) = true->(z39 p S)/\True)/\((!x) = false->((0:Int) <= p.t/\(p.t < (↑S.length:Int)))/\p.t.toNat < S.length/\∀ (x:Bool),S[p.t.toNat]? = some x->(x = true->(z39 p S)/\True)/\(x = false->∃ (g0:Nat × Int),((g0.fst <= p.inst.arcs.length/\(z0u (↑p.inst.sup.length:Int) S (List.drop g0.fst p.inst.arcs) g0.snd = z2t p.inst S))/\((True/\(0 = 0/\(0 = 0/\(0 = 0/\((0:Int) = ↑g0.1/\True)))))/\(((0:Int) = (W g0.2).hi/\((0:Int) = (W g0.2).lo/\True))/\(z55 p S))))/\∀ (g:Nat × Int),g.fst <= p.inst.arcs.length/\z0u (↑p.inst.sup.length:Int) S (List.drop g.fst p.inst.arcs) g.snd = z2t p.inst S->(decide ((↑g.1:Int) < ↑p.inst.arcs.length) = true->((0:Int) <= ↑g.1/\((↑g.1:Int) < ↑p.inst.arcs.length))/\((↑g.1:Int).toNat < p.inst.arcs.length/\(∀ (x:Arc),p.inst.arcs[(↑g.1:Int).toNat]? = some x->((0:Int) <= x.src/\(x.src < (↑S.length:Int)))/\(x.src.toNat < S.length/\(∀ (x_1:Bool),S[x.src.toNat]? = some x_1->(x_1 = true->((0:Int) <= x.dst/\(x.dst < (↑S.length:Int)))/\(x.dst.toNat < S.length/\(∀ (x_2:Bool),S[x.dst.toNat]? = some x_2->((!x_2) = true->((x.cap == (4611686018427387904:Int)) = true->(z39 p S)/\True)/\((x.cap == (4611686018427387904:Int)) = false->I64 x.cap/\(((W g.2).ok/\((W x.cap).ok))/\(∃ (g':Nat × Int),(z56 g' p S)/\(p.inst.arcs.length - g'.fst < p.inst.arcs.length - g.fst/\((True/\(0 = 0/\(0 = 0/\(0 = 0/\(IntKind.i64.wrap ((↑g.1:Int) + (1:Int)) = (↑g'.1:Int)/\True)))))/\(((z27 (W g.2) (W x.cap)).hi = (W g'.2).hi/\((z27 (W g.2) (W x.cap)).lo = (W g'.2).lo/\True))/\(z55 p S))))))))/\((!x_2) = false->∃ (g':Nat × Int),(z56 g' p S)/\(z72 p g' g S)))))/\(x_1 = false->∃ (g':Nat × Int),(z56 g' p S)/\(z72 p g' g S)))))))/\(decide ((↑g.1:Int) < ↑p.inst.arcs.length) = false->((((W g.2).hi = (z2u (z1w p S)).hi/\((W g.2).lo = (z2u (z1w p S)).lo/\True))/\(true = (z1w p S).isSome/\True))/\True)/\True)))))
theorem rWeight21_q (p:ProbD) (S:List Bool) (ty0 ty1 ty2:TypeId):z71 p S ty0 ty1 ty2 = z1f TT z91 (zif p S) (z73 p S) Tryz.f36 [.agg [.bool p.most,.row 0,.row 1,.int .i64 p.s,.int .i64 p.t],.row 2] [(0,.row false ty0 (.ints .i64 p.inst.sup)),(1,.row false ty1 (.arcs p.inst.arcs)),(2,.row false ty2 (.bools S))] (z92 p S):=by kernel_rfl
theorem rWeight21_E (p:ProbD) (S:List Bool) (ty0 ty1 ty2:TypeId) (hp:S.length <= 1000000):FVc TT z91 (zif p S) (z73 p S) Tryz.f36 [.agg [.bool p.most,.row 0,.row 1,.int .i64 p.s,.int .i64 p.t],.row 2] [(0,.row false ty0 (.ints .i64 p.inst.sup)),(1,.row false ty1 (.arcs p.inst.arcs)),(2,.row false ty2 (.bools S))] (z92 p S):=by
 refine FVc.of (z71 p S ty0 ty1 ty2) (rWeight21_q p S ty0 ty1 ty2) ?_
 unfold z71
 delta z56 z72 z39 z55
 have hw:∀ j:Nat,j <= 1000000->IntKind.i64.wrap ((j:Int) + 1) = ((j + 1:Nat):Int):=fun j hj=>by rw [w64 (by omega) (by omega)]; omega
 simp only [eq_self,exists_const,forall_const,decide_eq_true_eq,decide_eq_false_iff_not,and_true,true_and,bne_iff_ne,ne_eq,bne_eq_false_iff_eq,Int.toNat_natCast,Bool.not_eq_true',Bool.not_eq_false',beq_iff_eq,beq_eq_false_iff_ne,z07]
 have no:¬ OnP p S->(0 = (z2u (z1w p S)).hi/\0 = (z2u (z1w p S)).lo)/\false = (z1w p S).isSome:=fun h=>by rw [weigh_no h]; exact ⟨⟨rfl,rfl⟩,rfl⟩
 refine ⟨fun h=>no fun g=>h g.e,fun h0=>?_⟩
 have hf:=(ofE_zero.1 h0).1
 have hr:=hf.r
 have hs:=z0n hr
 have hb:=bareF_iff.1 hf.b
 have ns:=nodeP_iff.1 hf.s
 have nt:=nodeP_iff.1 hf.t
 refine ⟨fun h1=>no fun h=>h1 (by rw [h.l]),fun h1=>⟨⟨by omega,by omega⟩,by omega,fun x hx=>⟨fun h2=>no fun h=>?_,fun h2=>⟨⟨by omega,by omega⟩,by omega,fun y hy=>⟨fun h3=>no fun h=>?_,fun h3=>⟨(0,0),⟨⟨Nat.zero_le _,rfl⟩,rfl,by decide,by decide⟩,fun g hg=>?_⟩⟩⟩⟩⟩⟩
 ·have:=h.s; rw [List.getD_eq_getElem?_getD,hx,h2] at this; cases this
 ·have:=h.t; rw [List.getD_eq_getElem?_getD,hy,h3] at this; cases this
 have on:OnP p S:=⟨h0,by omega,by rw [List.getD_eq_getElem?_getD,hx,h2]; rfl,by rw [List.getD_eq_getElem?_getD,hy,h3]; rfl⟩
 rw [weigh_on on]
 clear no hx hy h2 h3
 obtain ⟨k,s⟩:=g
 dsimp only at hg ⊢
 obtain ⟨hk,hg⟩:=hg
 refine ⟨fun h4=>⟨⟨by omega,by omega⟩,by omega,fun a ha=>?_⟩,fun h4=>?_⟩
 ·have hm:=List.mem_of_getElem? ha
  have ra:=zcp hr hm
  have ho:=z1b hr hm
  have ho1:=ho.1
  unfold z25 at ho1
  simp only [Bool.and_eq_true,decide_eq_true_eq] at ho1
  rw [z2p ha,room_step ra (hb.2 a hm).1] at hg
  have hi:inf = 4611686018427387904:=rfl
  refine ⟨⟨by omega,by omega⟩,by omega,fun b hb1=>⟨fun h5=>⟨⟨by omega,by omega⟩,by omega,fun d hd1=>⟨fun h6=>?_,fun h6=>⟨(k + 1,s),⟨by dsimp only; omega,?_⟩,by dsimp only; omega,hw k (by omega),rfl,rfl⟩⟩⟩,fun h5=>⟨(k + 1,s),⟨by dsimp only; omega,?_⟩,by dsimp only; omega,hw k (by omega),rfl,rfl⟩⟩⟩
  ·rw [if_pos ⟨by rw [List.getD_eq_getElem?_getD,hb1,h5]; rfl,by rw [List.getD_eq_getElem?_getD,hd1,h6]; rfl⟩,hi] at hg
   refine ⟨fun h7=>?_,fun h7=>⟨by unfold I64; omega,⟨z6e _,z6e _⟩,(k + 1,s + a.cap),⟨by dsimp only; omega,?_⟩,by dsimp only; omega,hw k (by omega),by rw [z45],by rw [z45]⟩⟩
   ·rw [if_pos h7] at hg
    rw [<- hg]; exact ⟨⟨rfl,rfl⟩,rfl⟩
   ·rw [if_neg h7] at hg; exact hg
  ·rw [if_neg (fun h=>by have:=h.2; rw [List.getD_eq_getElem?_getD,hd1,h6] at this; cases this)] at hg; exact hg
  ·rw [if_neg (fun h=>by have:=h.1; rw [List.getD_eq_getElem?_getD,hb1,h5] at this; cases this)] at hg; exact hg
 ·rw [z3p (by omega)] at hg
  rw [<- hg]
  exact ⟨⟨rfl,rfl⟩,rfl⟩
theorem rWeight21_ok:SpecOk Tryz.prog zig true (z02 true z74) :=
 z06 z0g (show z10 Tryz.prog z91 from z00 ze0 (z00 rOf_ok (z00 za9 (z04)))) (by kernel_rfl) mixedOrders Tryz.func36 rfl rfl (by kernel_rfl) (n:=2) (by decide +kernel) (I:=rWeight21_IA) (fun _ _=>z05) (A:=rWeight21_A)
  (fun args h r hr=>by
   unfold z74 at hr
   split at hr
   ·rename_i p_m p_S p_T ty0 p_s ty1 p_a ty2 S; cases hr; refine ⟨rfl,fun hp=>?_⟩; have hE:=rWeight21_E ⟨p_m,⟨p_s,p_a⟩,p_S,p_T⟩ S ty0 ty1 ty2 hp; exact hE
   ·cases hr)
end Go.Proofs.YtapeenpimcffpaaGreat
end
section
namespace Go.Ql
open Go Go.Vc
def idxS {α:Type} [Inhabited α] (f:Nat->α->α) (l:List α) (k:Nat):List α:=(List.range l.length).map fun c=>if c < k then f c (l.getD c default) else l.getD c default
section
variable {α:Type} [Inhabited α] {f:Nat->α->α} {l:List α}
theorem z61 (f:Nat->α->α) (l:List α) (k:Nat):(idxS f l k).length = l.length:=by simp [idxS]
theorem z7i {k c:Nat} (h:c < l.length):(idxS f l k)[c]? = some (if c < k then f c (l.getD c default) else l.getD c default):=by
 unfold idxS; rw [List.getElem?_map,List.getElem?_range h]; rfl
theorem idxS_zero (f:Nat->α->α) (l:List α):idxS f l 0 = l:=by
 refine List.ext_getElem? fun t=>?_
 by_cases h:t < l.length
 ·rw [z7i h,if_neg (Nat.not_lt_zero _),List.getD_eq_getElem?_getD,List.getElem?_eq_getElem h]; rfl
 ·rw [List.getElem?_eq_none (by rw [z61]; omega),List.getElem?_eq_none (by omega)]
theorem idxS_at {k:Nat} {y:α} (h:(idxS f l k)[k]? = some y):l[k]? = some y:=by
 have hk:=(List.getElem?_eq_some_iff.1 h).1
 rw [z61] at hk
 rw [z7i hk,if_neg (Nat.lt_irrefl _),List.getD_eq_getElem?_getD,List.getElem?_eq_getElem hk] at h
 rw [List.getElem?_eq_getElem hk]; exact h
theorem idxS_set {k:Nat} {y z:α} (h:l[k]? = some y) (hz:z = f k y):(idxS f l k).set k z = idxS f l (k + 1):=by
 have hk:=(List.getElem?_eq_some_iff.1 h).1
 have hy:l.getD k default = y:=by rw [List.getD_eq_getElem?_getD,h]; rfl
 refine List.ext_getElem? fun t=>?_
 rw [List.getElem?_set,z61]
 by_cases ht:t < l.length
 ·rw [z7i (k:=k + 1) ht]
  by_cases e1:k = t
  ·subst e1; rw [if_pos rfl,if_pos hk,if_pos (Nat.lt_succ_self _),hy,hz]
  ·rw [if_neg e1,z7i ht]
   by_cases h2:t < k
   ·rw [if_pos h2,if_pos (by omega)]
   ·rw [if_neg h2,if_neg (by omega)]
 ·rw [if_neg (by omega),List.getElem?_eq_none (by rw [z61]; omega),List.getElem?_eq_none (by rw [z61]; omega)]
theorem idxS_same {k:Nat} {y:α} (h:l[k]? = some y) (hz:y = f k y):idxS f l k = idxS f l (k + 1):=by
 have hk:=(List.getElem?_eq_some_iff.1 h).1
 rw [<- idxS_set h hz]
 refine List.ext_getElem? fun t=>?_
 rw [List.getElem?_set,z61]
 by_cases e1:k = t
 ·subst e1; rw [if_pos rfl,if_pos hk,z7i hk,if_neg (Nat.lt_irrefl _),List.getD_eq_getElem?_getD,h]; rfl
 ·rw [if_neg e1]
end
end Go.Ql
end
section
namespace Go.Ql
open Go Go.Vc
def madeA (a:Arc) (r:Int):Arc:=if r < 0/\a.cap = inf then { a with cap:=a.low + 2 } else a
def madeX (a:Arc) (r f:Int):Int:=if r < 0 then (madeA a r).cap else if 0 < r then a.low else f
structure MadeI (I:Inst) (P F:List Int) (k:Nat) (B:List Arc) (y:List Int):Prop where
 lb:B.length = I.arcs.length
 ly:y.length = I.arcs.length
 b:∀ j,j < I.arcs.length->B.getD j default = if j < k then madeA (I.arcs.getD j default) (zck I P j) else I.arcs.getD j default
 y:∀ j,j < I.arcs.length->y.getD j 0 = if j < k then madeX (I.arcs.getD j default) (zck I P j) (F.getD j 0) else F.getD j 0
theorem MadeI.zero {I:Inst} {P F:List Int} (h:F.length = I.arcs.length):MadeI I P F 0 I.arcs F:=⟨rfl,h,fun j _=>by simp,fun j _=>by simp⟩
theorem getD_set' {α:Type} (l:List α) (k j:Nat) (v d:α) (h:k < l.length):(l.set k v).getD j d = if j = k then v else l.getD j d:=by
 rw [List.getD_eq_getElem?_getD,List.getD_eq_getElem?_getD,List.getElem?_set]
 by_cases hjk:k = j
 ·subst hjk; simp [h]
 ·rw [if_neg hjk,if_neg (fun e=>hjk e.symm)]
theorem MadeI.next {I:Inst} {P F:List Int} {k:Nat} {B:List Arc} {y:List Int} (h:MadeI I P F k B y) (hk:k < I.arcs.length) {B':List Arc} {y':List Int}
  (hB:B' = B.set k (madeA (I.arcs.getD k default) (zck I P k))) (hy:y' = y.set k (madeX (I.arcs.getD k default) (zck I P k) (F.getD k 0))):MadeI I P F (k + 1) B' y':=by
 subst hB hy
 refine ⟨by rw [List.length_set]; exact h.lb,by rw [List.length_set]; exact h.ly,fun j hj=>?_,fun j hj=>?_⟩
 ·rw [getD_set' _ _ _ _ _ (by rw [h.lb]; exact hk),h.b j hj]
  by_cases e:j = k
  ·subst e; simp
  ·rw [if_neg e]
   by_cases e2:j < k
   ·rw [if_pos e2,if_pos (by omega)]
   ·rw [if_neg e2,if_neg (by omega)]
 ·rw [getD_set' _ _ _ _ _ (by rw [h.ly]; exact hk),h.y j hj]
  by_cases e:j = k
  ·subst e; simp
  ·rw [if_neg e]
   by_cases e2:j < k
   ·rw [if_pos e2,if_pos (by omega)]
   ·rw [if_neg e2,if_neg (by omega)]
theorem MadeI.same {I:Inst} {P F:List Int} {k:Nat} {B:List Arc} {y:List Int} (h:MadeI I P F k B y) (hk:k < I.arcs.length):B.getD k default = I.arcs.getD k default/\y.getD k 0 = F.getD k 0:=by
 have h1:=h.b k hk; have h2:=h.y k hk
 rw [if_neg (Nat.lt_irrefl _)] at h1 h2
 exact ⟨h1,h2⟩
theorem madeA_nice {m:Int} {a:Arc} (h:a.Nice m) (r:Int):(madeA a r).Nice m:=by
 unfold madeA
 split
 ·have:=h.l0; have:=h.l1
  exact ⟨h.s0,h.s1,h.d0,h.d1,h.l0,h.l1,by dsimp only; omega,by dsimp only; omega,h.k0,h.k1⟩
 ·exact h
theorem MadeI.nice {I:Inst} {P F:List Int} {k:Nat} {B:List Arc} {y:List Int} (h:MadeI I P F k B y) {m:Int} (hn:∀ a ∈ I.arcs,a.Nice m):∀ a ∈ B,a.Nice m:=fun a ha=>by
 obtain ⟨j,hj⟩:=List.mem_iff_getElem?.1 ha
 have hjl:j < I.arcs.length:=by have:=(List.getElem?_eq_some_iff.1 hj).1; rw [h.lb] at this; exact this
 have e:=h.b j hjl
 rw [List.getD_eq_getElem?_getD,hj] at e
 have hm:I.arcs.getD j default ∈ I.arcs:=by rw [List.getD_eq_getElem?_getD,List.getElem?_eq_getElem hjl]; exact List.getElem_mem hjl
 change a = _ at e
 rw [e]
 split
 ·exact madeA_nice (hn _ hm) _
 ·exact hn _ hm
theorem MadeI.a64 {I:Inst} {P F:List Int} {k:Nat} {B:List Arc} {y:List Int} (h:MadeI I P F k B y) {m:Int} (hn:∀ a ∈ I.arcs,a.Nice m) (hF:A64 F):A64 y:=fun u hu=>by
 obtain ⟨j,hj⟩:=List.mem_iff_getElem?.1 hu
 have hjl:j < I.arcs.length:=by have:=(List.getElem?_eq_some_iff.1 hj).1; rw [h.ly] at this; exact this
 have e:=h.y j hjl
 rw [List.getD_eq_getElem?_getD,hj] at e
 have hm:I.arcs.getD j default ∈ I.arcs:=by rw [List.getD_eq_getElem?_getD,List.getElem?_eq_getElem hjl]; exact List.getElem_mem hjl
 have hf:=hF.getD j
 change u = _ at e
 rw [e]
 split
 ·have h1:=madeA_nice (hn _ hm) (zck I P j)
  have h2:=hn _ hm
  have:=h1.c0; have:=h1.c1; have:=h1.l0; have:=h2.l0; have:=h2.l1; have:=h1.l1
  unfold madeX
  split
  ·unfold I64; omega
  ·split
   ·unfold I64; omega
   ·exact hf
 ·exact hf
theorem flow_in {I:Inst} {m:Int} (hn:∀ a ∈ I.arcs,a.Nice m) (d:List Int):∀ k a,I.arcs[k]? = some a->a.low <= (z1d I d).getD k 0/\(z1d I d).getD k 0 <= 7/\(a.cap = inf ∨ (z1d I d).getD k 0 <= a.cap):=fun k a ha=>by
 have hk:=(List.getElem?_eq_some_iff.1 ha).1
 have e:(z1d I d).getD k 0 = z4y d k a:=by
  unfold z1d
  rw [List.getD_eq_getElem?_getD,List.getElem?_map,List.getElem?_range hk]
  show z4y d k (I.arcs.getD k default) = _
  rw [List.getD_eq_getElem?_getD,ha]; rfl
 have hN:=hn _ (List.mem_of_getElem? ha)
 have:=hN.l0; have:=hN.l1; have:=hN.c0; have:=hN.c1
 rw [e]
 unfold z4y inf
 split <;> omega
end Go.Ql
end
section
namespace Go.Ql
open Go Go.Vc
structure NiceI (I:Inst):Prop where
 arc:∀ a ∈ I.arcs,a.Nice I.sup.length
 n:I.sup.length <= 1000
 m:I.arcs.length <= 1000
def bestV (r:Int) (a:Arc) (f:Int):Int:=if 0 < r then a.low else if r < 0/\a.cap ≠ inf then a.cap else f
def z5w (I:Inst) (P F:List Int) (k:Nat):List Int:=idxS (fun c f=>bestV (redN I P c) (z4d I c) f) F k
theorem zgh (I:Inst) (P F:List Int) (k:Nat):(z5w I P F k).length = F.length:=z61 _ _ _
theorem best_seven {I:Inst} {m:Int} (hn:∀ a ∈ I.arcs,a.Nice m) (P:List Int) {F:List Int} (hF:F.length = I.arcs.length) (hb:∀ k a,I.arcs[k]? = some a->a.low <= F.getD k 0/\F.getD k 0 <= 7/\(a.cap = inf ∨ F.getD k 0 <= a.cap)) (k:Nat):∀ y ∈ z5w I P F k,0 <= y/\y <= 7:=fun y hy=>by
 obtain ⟨j,hj⟩:=List.mem_iff_getElem?.1 hy
 have hjl:=(List.getElem?_eq_some_iff.1 hj).1
 rw [zgh] at hjl
 unfold z5w at hj
 rw [z7i hjl] at hj
 obtain ⟨hg,hm⟩:=arcN_mem (show j < I.arcs.length by omega)
 have hq:=hn _ hm
 have h1:=hb j _ hg
 have h2:F.getD j default = F.getD j 0:=rfl
 rw [h2] at hj
 have:=hq.l0; have:=hq.l1; have:=hq.c0; have h3:=hq.c1
 have hi:inf = 4611686018427387904:=rfl
 cases hj
 unfold bestV
 split
 ·split
  ·omega
  ·split
   ·rename_i h4; have:=h4.2; omega
   ·omega
 ·omega
end Go.Ql
end
section
namespace Go.Ql
open Go Go.Vc
def z50 (a:Arc):Arc:={ a with low:=0,cost:=0 }
def probS (d:List Int) (n:Nat):Int:=d.getD 0 0 / 7 % n
def probT (d:List Int) (n:Nat):Int:=(probS d n + 1 + d.getD 0 0 / 14 % ((n:Int) - 1)) % n
def z0r (c d:List Int) (m:Bool):ProbD :=
 if m = true/\2 <= (z0q c d).sup.length then ⟨true,⟨List.replicate (z0q c d).sup.length 0,(z0q c d).arcs.map z50⟩,probS d (z0q c d).sup.length,probT d (z0q c d).sup.length⟩ else ⟨false,z0q c d,0,0⟩
def ownF (p:ProbD) (e:List Int):List Bool:=((z85 e p.inst.sup.length).set p.s.toNat true).set p.t.toNat false
def knownP:ProbD:=⟨true,⟨[0,0,0],[⟨0,1,0,3,0⟩,⟨1,2,0,2,0⟩]⟩,0,2⟩
def zh9:Cert:=⟨1,[2,2,2],[1,1,0],[],[]⟩
theorem known_is:z13 knownP zh9 = true/\z6d knownP zh9 = 2/\z1q knownP zh9 = [true,true,false]/\z1w knownP [true,true,false] = some 2:=by
 refine ⟨?_,?_,?_,?_⟩ <;> decide +kernel
theorem ofI_few (p:ProbD):(ofI p).sup.length <= 64/\(ofI p).arcs.length <= 256:=by
 by_cases h:ofE p = 0
 ·rw [zd3 h]; exact z0n (z7j h)
 ·rw [ofI_no h]; exact ⟨Nat.zero_le _,Nat.zero_le _⟩
theorem side_few (p:ProbD) (c:Cert):(z1q p c).length <= 64/\(z23 p c).length <= 256:=by
 unfold z1q z23
 by_cases h:z13 p c = true
 ·have hG:=goodP_iff.1 h
  have hl:=hG.len
  have hs:=z0n (ofE_zero.1 hG.e).1.r
  rw [if_pos h,if_pos h]
  unfold z5c
  simp; omega
 ·rw [if_neg h,if_neg h]; exact ⟨Nat.zero_le _,Nat.zero_le _⟩
theorem ofE_few (p:ProbD):0 <= ofE p/\ofE p <= 20:=by
 unfold ofE; split
 ·split <;> omega
 ·omega
theorem stepL_mem {α:Type} {f:α->α} {s:List α} {k:Nat} {y:α} (h:y ∈ z44 f s k):(∃ x ∈ s,y = f x) ∨ y ∈ s:=by
 unfold z44 at h
 rcases List.mem_append.1 h with h | h
 ·obtain ⟨x,hx,rfl⟩:=List.mem_map.1 h; exact .inl ⟨x,List.mem_of_mem_take hx,rfl⟩
 ·exact .inr (List.mem_of_mem_drop h)
theorem clear_nice {m:Int} {a:Arc} (h:a.Nice m):(z50 a).Nice m:=by
 have:=h.l0; have:=h.c0; have:=h.c1
 exact ⟨h.s0,h.s1,h.d0,h.d1,by show (0:Int) <= 0; omega,by show (0:Int) <= 2; omega,by show (0:Int) <= a.cap; omega,h.c1,by show -8 <= (0:Int); omega,by show (0:Int) <= 12; omega⟩
structure ProbOk (p:ProbD):Prop where
 n1:2 <= p.inst.sup.length
 n2:p.inst.sup.length <= 7
 m:p.inst.arcs.length <= 18
 a:∀ a ∈ p.inst.arcs,a.Nice p.inst.sup.length
 e:ofE p = 0
theorem ProbOk.fit {p:ProbD} (h:ProbOk p):FitP p:=(ofE_zero.1 h.e).1
theorem prob_ends {d:List Int} {n:Nat} (h1:2 <= n) (h2:n <= 7):0 <= probS d n/\probS d n < n/\0 <= probT d n/\probT d n < n/\probS d n ≠ probT d n:=by
 unfold probT probS
 generalize d.getD 0 0 = x
 have:n = 2 ∨ n = 3 ∨ n = 4 ∨ n = 5 ∨ n = 6 ∨ n = 7:=by omega
 rcases this with rfl | rfl | rfl | rfl | rfl | rfl <;> omega
theorem fit_ok {p:ProbD} (hm:p.most = true) (n1:p.inst.sup.length <= 7) (m1:p.inst.arcs.length <= 18) (ha:∀ a ∈ p.inst.arcs,a.Nice p.inst.sup.length) (hs:∀ y ∈ p.inst.sup,y = 0) (hz:∀ a ∈ p.inst.arcs,a.low = 0/\a.cost = 0)
  (s0:0 <= p.s) (s1:p.s < p.inst.sup.length) (t0:0 <= p.t) (t1:p.t < p.inst.sup.length) (hd:p.s ≠ p.t):ProbOk p:=by
 have hsum:∀ l:List Int,(∀ y ∈ l,y = 0)->l.sum = 0:=fun l=>by
  induction l with
  | nil=>intro _; rfl
  | cons y l ih=>intro h; rw [List.sum_cons,ih (fun z hz=>h z (by simp [hz])),h y (by simp)]; rfl
 have hr:z0a p.inst = 0:=right_of (by omega) (by omega) (fun a h=>(ha a h).right) (fun x hx=>by rw [hs x hx]; omega) (hsum _ hs)
 exact ⟨by omega,n1,m1,ha,ofE_zero.2 ⟨⟨hm,hr,bareF_iff.2 ⟨hs,hz⟩,nodeP_iff.2 ⟨s0,s1⟩,nodeP_iff.2 ⟨t0,t1⟩,hd⟩,by omega⟩⟩
theorem prob_eq {c d:List Int} (h:2 <= (z0q c d).sup.length):z0r c d true = ⟨true,⟨List.replicate (z0q c d).sup.length 0,(z0q c d).arcs.map z50⟩,probS d (z0q c d).sup.length,probT d (z0q c d).sup.length⟩:=if_pos ⟨rfl,h⟩
theorem prob_ok {c d:List Int} (h:2 <= (z0q c d).sup.length):ProbOk (z0r c d true):=by
 have l1:=instF_sup c d
 have l3:=nOf_le d
 have l4:=instF_arcs c d
 obtain ⟨e1,e2,e3,e4,e5⟩:=prob_ends (d:=d) h (by omega)
 rw [prob_eq h]
 refine fit_ok rfl (by dsimp only; rw [List.length_replicate]; omega) (by dsimp only; rw [List.length_map]; exact l4) (fun a ha=>?_) (fun y hy=>(List.mem_replicate.1 hy).2) (fun a ha=>?_) e1 (by dsimp only; rw [List.length_replicate]; exact e2) e3 (by dsimp only; rw [List.length_replicate]; exact e4) e5
 ·dsimp only at ha ⊢
  rw [List.length_replicate]
  obtain ⟨b,hb,rfl⟩:=List.mem_map.1 ha
  exact clear_nice (by rw [l1]; exact instF_nice c d b hb)
 ·obtain ⟨b,hb,rfl⟩:=List.mem_map.1 ha
  exact ⟨rfl,rfl⟩
theorem prob_no {c d:List Int} (h:¬ 2 <= (z0q c d).sup.length):ofE (z0r c d true) = 1:=by
 have e:z0r c d true = ⟨false,z0q c d,0,0⟩:=if_neg (fun h2=>h h2.2)
 rw [e]; rfl
theorem prob_of {c d:List Int} (h:ofE (z0r c d true) = 0):ProbOk (z0r c d true):=by
 by_cases h2:2 <= (z0q c d).sup.length
 ·exact prob_ok h2
 ·rw [prob_no h2] at h; cases h
theorem ProbOk.nice {p:ProbD} (h:ProbOk p):∀ a ∈ (ofP p).arcs,a.Nice p.inst.sup.length:=fun a ha=>by
 have hf:=h.fit
 have h1:=nodeP_iff.1 hf.s; have h2:=nodeP_iff.1 hf.t
 rcases List.mem_append.1 ha with ha | ha
 ·exact h.a a ha
 ·rw [List.mem_singleton] at ha; subst ha
  unfold backA
  exact ⟨h2.1,h2.2,h1.1,h1.2,by dsimp only; omega,by dsimp only; omega,by dsimp only; omega,.inr rfl,by dsimp only; omega,by dsimp only; omega⟩
theorem ofP_len (p:ProbD):(ofP p).arcs.length = p.inst.arcs.length + 1:=by simp [ofP]
theorem ProbOk.niceI {p:ProbD} (h:ProbOk p):NiceI (ofP p):=⟨h.nice,by have:=h.n2; show p.inst.sup.length <= _; omega,by have:=h.m; rw [ofP_len]; omega⟩
theorem own_len (p:ProbD) (e:List Int):(ownF p e).length = p.inst.sup.length:=by unfold ownF; rw [List.length_set,List.length_set,z7q]
end Go.Ql
end
section
namespace Go.Ql
open Go Go.Vc
theorem wholeF_drop (e:List Int) (n:Nat):List.take n (z0y e n) ++ List.drop (z0y e n).length (List.replicate n false) = z85 e n:=by
 unfold z85
 rw [List.drop_replicate,List.take_of_length_le (by unfold z0y; simp; omega)]
end Go.Ql
end
section
namespace Go.Proofs.YtapeenpimcffpaaGreat
open Go Go.RowKit Go.Ql Go.Vc
def z3f (p:ProbD) (e:List Int):Cert:=⟨1,List.replicate (p.inst.arcs.length + 1) 0,z2e e p.inst.sup.length,[],[]⟩
def Prob08_r (c:List Int) (d:List Int) (m:Bool):FRes:={ pre:=Bytes c/\Bytes d/\c.length <= maxLen/\d.length <= maxLen,res:=.agg [.bool (z0r c d m).most,.row 2,.row 3,.int .i64 (z0r c d m).s,.int .i64 (z0r c d m).t],rows:=[.row 2 (.ints .i64 (z0r c d m).inst.sup),.row 65 (.arcs (z0r c d m).inst.arcs)],eff:=[] }
def zf9:FS:=fun args h=>match args,h with
 | [.row 0,.row 1,.bool m],[(0,.row false ty0 (.ints .u8 c)),(1,.row false ty1 (.ints .u8 d))]=>some (Prob08_r c d m)
 | _,_=>none
def zf8 (c:List Int) (d:List Int) (m:Bool):List (Nat × Ann):=[(8,{ G:=(Nat),inv:=fun k=>⟨[(1,.row 1),(6,.ptr 4 0 0 0),(7,.ptr 11 0 0 0),(8,.int .i64 (↑(z0q c d).sup.length:Int)),(9,.int .i64 k)],[(12,.row true 2 (.ints .i64 (List.replicate (↑(z0q c d).sup.length:Int).toNat (0:Int)))),(11,.box true 27 [SV.tt,.row 12,.row 6,.int .i64 (0:Int),.int .i64 (0:Int)]),(6,.row true 65 (.arcs (z44 z50 (z0q c d).arcs k))),(4,.box true 27 [SV.ff,.row 2,.row 3,.int .i64 (0:Int),.int .i64 (0:Int)]),(2,.row true 2 (.ints .i64 [])),(3,.row true 65 (.arcs [])),(1,.row false 0 (.ints .u8 d))],13⟩,rel:=fun k0 k=>k <= (z0q c d).arcs.length,meas:=fun k=>(z0q c d).arcs.length - k })]
def Prob08_A:List SV->z0c->List (Nat × Ann):=fun args h=>match args,h with
 | [.row 0,.row 1,.bool m],[(0,.row false ty0 (.ints .u8 c)),(1,.row false ty1 (.ints .u8 d))]=>zf8 c d m
 | _,_=>[]
def Prob08_g:z0b:=[(Inst_n,(true,z02 true Inst_fs))]
abbrev Prob08_n:Nat:=11
def Prob08_I (c:List Int) (d:List Int) (m:Bool):List (Nat × z08):=[]
def Prob08_IA:List SV->z0c->List (Nat × z08):=fun _ _=>[]
def zh8:FRes:={ pre:=True,res:=.bool (true),rows:=[],eff:=[] }
def zbo:FS:=fun args h=>match args,h with
 | [],[]=>some (zh8)
 | _,_=>none
def known21_an:List (Nat × Ann):=[]
def known21_A:List SV->z0c->List (Nat × Ann):=fun _ _=>[]
def zh7:z0b:=[(zfe,(true,z02 true z7e)),(Side21_n,(true,z02 true z9n)),(zb5,(true,z02 true z5u)),(Bools_n,(true,z02 true zdk)),(Of_n,(true,z02 true zaw))]
abbrev known21_n:Nat:=10
def known21_I:List (Nat × z08):=[]
def known21_IA:List SV->z0c->List (Nat × z08):=fun _ _=>[]
def own21_r (p:ProbD) (e:List Int):FRes:={ pre:=Bytes e/\p.inst.sup.length <= 1000/\0 <= p.s/\p.s < p.inst.sup.length/\0 <= p.t/\p.t < p.inst.sup.length,res:=.row 3,rows:=[.row 4 (.bools (ownF p e))],eff:=[] }
def own21_fs:FS:=fun args h=>match args,h with
 | [.agg [.bool p_m,.row 0,.row 1,.int .i64 p_S,.int .i64 p_T],.row 2],[(0,.row false ty0 (.ints .i64 p_s)),(1,.row false ty1 (.arcs p_a)),(2,.row false ty2 (.ints .u8 e))]=>some (own21_r ⟨p_m,⟨p_s,p_a⟩,p_S,p_T⟩ e)
 | _,_=>none
def own21_an (p:ProbD) (e:List Int):List (Nat × Ann):=[]
def own21_A:List SV->z0c->List (Nat × Ann):=fun _ _=>[]
def own21_g:z0b:=[(Marks_n,(true,z02 true z9j))]
abbrev own21_n:Nat:=17
def own21_I (p:ProbD) (e:List Int):List (Nat × z08):=[]
def own21_IA:List SV->z0c->List (Nat × z08):=fun _ _=>[]
def zew (p:ProbD) (e:List Int):FRes:={ pre:=Bytes e/\e.length <= maxLen/\p.inst.sup.length <= 1000/\p.inst.arcs.length <= 1000,res:=.agg [.int .i64 (z3f p e).kind,.row 3,.row 4,.row 5,.row 6],rows:=[.row 2 (.ints .i64 (z3f p e).flow),.row 2 (.ints .i64 (z3f p e).pot),.row 4 (.bools (z3f p e).side),.row 3 (.ints .i64 (z3f p e).cycle)],eff:=[] }
def zau:FS:=fun args h=>match args,h with
 | [.agg [.bool p_m,.row 0,.row 1,.int .i64 p_S,.int .i64 p_T],.row 2],[(0,.row false ty0 (.ints .i64 p_s)),(1,.row false ty1 (.arcs p_a)),(2,.row false ty2 (.ints .u8 e))]=>some (zew ⟨p_m,⟨p_s,p_a⟩,p_S,p_T⟩ e)
 | _,_=>none
def Level21_an (p:ProbD) (e:List Int):List (Nat × Ann):=[]
def Level21_A:List SV->z0c->List (Nat × Ann):=fun _ _=>[]
def zev:z0b:=[(Pot_n,(true,z02 true Pot_fs))]
abbrev Level21_n:Nat:=16
def Level21_I (p:ProbD) (e:List Int):List (Nat × z08):=[]
def Level21_IA:List SV->z0c->List (Nat × z08):=fun _ _=>[]
def asks21_r (p:ProbD) (c:Cert) (S:List Bool):FRes:={ pre:=z0j c/\S.length <= 1000000,res:=.bool (true),rows:=[],eff:=[] }
def zgc:FS:=fun args h=>match args,h with
 | [.agg [.bool p_m,.row 0,.row 1,.int .i64 p_S,.int .i64 p_T],.agg [.int .i64 c_k,.row 2,.row 3,.row 4,.row 5],.row 6],[(0,.row false ty0 (.ints .i64 p_s)),(1,.row false ty1 (.arcs p_a)),(2,.row false ty2 (.ints .i64 c_f)),(3,.row false ty3 (.ints .i64 c_p)),(4,.row false ty4 (.bools c_s)),(5,.row false ty5 (.ints .i64 c_y)),(6,.row false ty6 (.bools S))]=>some (asks21_r ⟨p_m,⟨p_s,p_a⟩,p_S,p_T⟩ ⟨c_k,c_f,c_p,c_s,c_y⟩ S)
 | _,_=>none
def asks21_an (p:ProbD) (c:Cert) (S:List Bool):List (Nat × Ann):=[]
def asks21_A:List SV->z0c->List (Nat × Ann):=fun _ _=>[]
def asks21_g:z0b:=[(Of21_n,(true,z02 true z8d)),(zi3,(true,z02 true z7o)),(zfe,(true,z02 true z7e)),(rValue21_n,(true,z02 true z90)),(Side21_n,(true,z02 true z9n)),(rSide21_n,(true,z02 true zcg)),(Flow21_n,(true,z02 true zes)),(rFlow21_n,(true,z02 true zc5)),(zb5,(true,z02 true z5u)),(zig,(true,z02 true z74)),(rSame_n,(true,z02 true rSame_fs)),(Bools_n,(true,z02 true zdk)),(Nums_n,(true,z02 true Nums_fs))]
abbrev asks21_n:Nat:=13
def asks21_I (p:ProbD) (c:Cert) (S:List Bool):List (Nat × z08):=[]
def asks21_IA:List SV->z0c->List (Nat × z08):=fun _ _=>[]
end Go.Proofs.YtapeenpimcffpaaGreat
end
