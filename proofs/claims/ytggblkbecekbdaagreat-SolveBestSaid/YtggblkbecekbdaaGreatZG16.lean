/- Part of the proof: DK13, FK13, DY13, FY13, Solve13, DZ20, FZ20, DL13, FL13, Solve24, CertMade, Base, Wrap3, WrapC. -/
import Derived.Test.YtggblkbecekbdaaGreatZG15
import Derived.Test.YtggblkbecekbdaaGreatZG14
import Derived.Test.YtggblkbecekbdaaGreatZG9
import Derived.Test.YtggblkbecekbdaaGreatZG5
import Derived.Test.YtggblkbecekbdaaGreatZG7
import Derived.Test.YtggblkbecekbdaaGreatZG6
import Derived.Test.YtggblkbecekbdaaGreatZG8
import Derived.Test.YtggblkbecekbdaaGreatZG12
import Derived.Test.YtggblkbecekbdaaGreatZG1
import Derived.Test.YtggblkbecekbdaaGreatProg
import Derived.ProofKit
import Derived.OpenShut
import Derived.ChangeSame
import Derived.Deep.Slices
import Derived.Deep.Grids
import Derived.Test.YtggblkbecekbdaaGreatRows
set_option linter.all false
set_option linter.unusedSimpArgs false
set_option linter.unusedVariables false
set_option maxRecDepth 1000000
section
namespace Go.Proofs.YtggblkbecekbdaaGreat
open Go Go.RowKit Go.Ql Go.Vc
def zki (l:List Int):FRes:={ pre:=l.length <= 1000000000,res:=.int .i64 (z3v l),rows:=[],eff:=[] }
def zff:FS:=fun args h=>match args,h with
 | [.row 0],[(0,.row false ty0 (.ints .i64 l))]=>some (zki l)
 | _,_=>none
def zfe (l:List Int):List (Nat × Ann):=[(3,{ G:=(Nat),inv:=fun k=>⟨[(3,.int .i64 (z3v (l.take k))),(6,.row 0),(7,.int .i64 (↑l.length:Int)),(8,.int .i64 k)],[(0,.row false 0 (.ints .i64 l))],1⟩,rel:=fun k0 k=>k <= l.length,meas:=fun k=>l.length - k })]
def empty13_A:List SV->z0d->List (Nat × Ann):=fun args h=>match args,h with
 | [.row 0],[(0,.row false ty0 (.ints .i64 l))]=>zfe l
 | _,_=>[]
def zkh:z0c:=[]
abbrev empty13_n:Nat:=131
def empty13_I (l:List Int):List (Nat × z0a):=[]
def empty13_IA:List SV->z0d->List (Nat × z0a):=fun _ _=>[]
def zj1 (c:Cert):FRes:={ pre:=True,res:=.bool (z20 c),rows:=[],eff:=[] }
def zes:FS:=fun args h=>match args,h with
 | [.agg [.int .i64 c_k,.row 0,.row 1,.row 2,.row 3]],[(0,.row false ty0 (.ints .i64 c_f)),(1,.row false ty1 (.ints .i64 c_p)),(2,.row false ty2 (.bools c_s)),(3,.row false ty3 (.ints .i64 c_y))]=>some (zj1 ⟨c_k,c_f,c_p,c_s,c_y⟩)
 | _,_=>none
def Plain13_an (c:Cert):List (Nat × Ann):=[]
def Plain13_A:List SV->z0d->List (Nat × Ann):=fun _ _=>[]
def zj0:z0c:=[(empty13_n,(true,z02 true zff))]
abbrev Plain13_n:Nat:=76
def Plain13_I (c:Cert):List (Nat × z0a):=[]
def Plain13_IA:List SV->z0d->List (Nat × z0a):=fun _ _=>[]
def ValueC_r (I:Inst) (c:Cert):FRes:={ pre:=z1f c/\z2x I,res:=.tup [.agg (z0s (z0u I c)),.bool (decide (c.kind=1))],rows:=[],eff:=[] }
def zcq:FS:=fun args h=>match args,h with
 | [.agg [.row 0,.row 1],.agg [.int .i64 c_k,.row 2,.row 3,.row 4,.row 5]],[(0,.row false ty0 (.ints .i64 I_s)),(1,.row false ty1 (.arcs I_a)),(2,.row false ty2 (.ints .i64 c_f)),(3,.row false ty3 (.ints .i64 c_p)),(4,.row false ty4 (.bools c_s)),(5,.row false ty5 (.ints .i64 c_y))]=>some (ValueC_r ⟨I_s,I_a⟩ ⟨c_k,c_f,c_p,c_s,c_y⟩)
 | _,_=>none
def ValueC_an (I:Inst) (c:Cert):List (Nat × Ann):=[]
def ValueC_A:List SV->z0d->List (Nat × Ann):=fun _ _=>[]
def ValueC_g:z0c:=[(Cost_n,(true,z02 true Cost_fs))]
abbrev ValueC_n:Nat:=20
def ValueC_I (I:Inst) (c:Cert):List (Nat × z0a):=[]
def ValueC_IA:List SV->z0d->List (Nat × z0a):=fun _ _=>[]
def zjv (I:Inst) (c:Cert):FRes:={ pre:=z1f c/\z2x I,res:=.int .u16 (z0z I c.flow c.pot),rows:=[],eff:=[] }
def zf0:FS:=fun args h=>match args,h with
 | [.agg [.row 0,.row 1],.agg [.int .i64 c_k,.row 2,.row 3,.row 4,.row 5]],[(0,.row false ty0 (.ints .i64 I_s)),(1,.row false ty1 (.arcs I_a)),(2,.row false ty2 (.ints .i64 c_f)),(3,.row false ty3 (.ints .i64 c_p)),(4,.row false ty4 (.bools c_s)),(5,.row false ty5 (.ints .i64 c_y))]=>some (zjv ⟨I_s,I_a⟩ ⟨c_k,c_f,c_p,c_s,c_y⟩)
 | _,_=>none
def askedC1_an (I:Inst) (c:Cert):List (Nat × Ann):=[]
def askedC1_A:List SV->z0d->List (Nat × Ann):=fun _ _=>[]
def zju:z0c:=[(Slack_n,(true,z02 true Slack_fs))]
abbrev askedC1_n:Nat:=132
def askedC1_I (I:Inst) (c:Cert):List (Nat × z0a):=[]
def askedC1_IA:List SV->z0d->List (Nat × z0a):=fun _ _=>[]
def zjx (I:Inst) (c:Cert):FRes:={ pre:=z1f c/\z2x I,res:=.int .u16 (z1z I c.side),rows:=[],eff:=[] }
def zf2:FS:=fun args h=>match args,h with
 | [.agg [.row 0,.row 1],.agg [.int .i64 c_k,.row 2,.row 3,.row 4,.row 5]],[(0,.row false ty0 (.ints .i64 I_s)),(1,.row false ty1 (.arcs I_a)),(2,.row false ty2 (.ints .i64 c_f)),(3,.row false ty3 (.ints .i64 c_p)),(4,.row false ty4 (.bools c_s)),(5,.row false ty5 (.ints .i64 c_y))]=>some (zjx ⟨I_s,I_a⟩ ⟨c_k,c_f,c_p,c_s,c_y⟩)
 | _,_=>none
def askedC2_an (I:Inst) (c:Cert):List (Nat × Ann):=[]
def askedC2_A:List SV->z0d->List (Nat × Ann):=fun _ _=>[]
def zjw:z0c:=[(Proves_n,(true,z02 true zj4))]
abbrev askedC2_n:Nat:=134
def askedC2_I (I:Inst) (c:Cert):List (Nat × z0a):=[]
def askedC2_IA:List SV->z0d->List (Nat × z0a):=fun _ _=>[]
def zjz (I:Inst) (c:Cert):FRes:={ pre:=z1f c/\z2x I,res:=.int .u16 ((if z0v I c.flow ≠ 0 then z0v I c.flow else z2b I c.cycle)),rows:=[],eff:=[] }
def zf4:FS:=fun args h=>match args,h with
 | [.agg [.row 0,.row 1],.agg [.int .i64 c_k,.row 2,.row 3,.row 4,.row 5]],[(0,.row false ty0 (.ints .i64 I_s)),(1,.row false ty1 (.arcs I_a)),(2,.row false ty2 (.ints .i64 c_f)),(3,.row false ty3 (.ints .i64 c_p)),(4,.row false ty4 (.bools c_s)),(5,.row false ty5 (.ints .i64 c_y))]=>some (zjz ⟨I_s,I_a⟩ ⟨c_k,c_f,c_p,c_s,c_y⟩)
 | _,_=>none
def askedC3_an (I:Inst) (c:Cert):List (Nat × Ann):=[]
def askedC3_A:List SV->z0d->List (Nat × Ann):=fun _ _=>[]
def zjy:z0c:=[(Fits_n,(true,z02 true zit)),(Turns_n,(true,z02 true Turns_fs))]
abbrev askedC3_n:Nat:=135
def askedC3_I (I:Inst) (c:Cert):List (Nat × z0a):=[]
def askedC3_IA:List SV->z0d->List (Nat × z0a):=fun _ _=>[]
abbrev askedC_n:Nat:=77
def askedC_g:z0c:=[]
def zk0:Vc.Spec:=z4f TT askedC_g (fun _ _ _=>[]) Tryz.f77
def Check_r (I:Inst) (c:Cert):FRes:={ pre:=z1f c/\z2x I,res:=.int .u16 (z17 I c),rows:=[],eff:=[] }
def Check_fs:FS:=fun args h=>match args,h with
 | [.agg [.row 0,.row 1],.agg [.int .i64 c_k,.row 2,.row 3,.row 4,.row 5]],[(0,.row false ty0 (.ints .i64 I_s)),(1,.row false ty1 (.arcs I_a)),(2,.row false ty2 (.ints .i64 c_f)),(3,.row false ty3 (.ints .i64 c_p)),(4,.row false ty4 (.bools c_s)),(5,.row false ty5 (.ints .i64 c_y))]=>some (Check_r ⟨I_s,I_a⟩ ⟨c_k,c_f,c_p,c_s,c_y⟩)
 | _,_=>none
def Check_an (I:Inst) (c:Cert):List (Nat × Ann):=[]
def Check_A:List SV->z0d->List (Nat × Ann):=fun _ _=>[]
def Check_g:z0c:=[(zeu,(true,z02 true z7u)),(Plain13_n,(true,z02 true zes)),(askedC_n,(false,zk0)),(askedC1_n,(true,z02 true zf0)),(askedC2_n,(true,z02 true zf2)),(askedC3_n,(true,z02 true zf4))]
abbrev Check_n:Nat:=39
def Check_I (I:Inst) (c:Cert):List (Nat × z0a):=[]
def Check_IA:List SV->z0d->List (Nat × z0a):=fun _ _=>[]
end Go.Proofs.YtggblkbecekbdaaGreat
end
section
namespace Go.Proofs.YtggblkbecekbdaaGreat
open Go Go.RowKit Go.Ql Go.Vc
def zfd (l : List Int) (ty0 : TypeId) : Prop :=
      ∃ (g0:Nat),
 (g0 <= l.length/\((0:Int)=(↑(z3v (List.take g0 l)):Int)/\True/\(↑l.length:Int)=(↑l.length:Int)/\(0:Int)=(↑g0:Int)/\True)/\l=l/\True) /\
 ∀ (g:Nat),
 g <= l.length ->
 (decide ((↑g:Int)<(↑l.length:Int))=true ->
 ((0:Int) <= (↑g:Int)/\(↑g:Int)<(↑l.length:Int)) /\
 (↑g:Int).toNat<l.length /\
 ∀ (x:Int),
 l[(↑g:Int).toNat]? = some x ->
 ((x == (0:Int))=true ->
 ∃ (g':Nat),
 g' <= l.length /\
 l.length - g'<l.length - g /\
 (IntKind.i64.wrap ((↑(z3v (List.take g l)):Int)+(1:Int))=(↑(z3v (List.take g' l)):Int) /\
 True/\(↑l.length:Int)=(↑l.length:Int)/\IntKind.i64.wrap ((↑g:Int)+(1:Int))=(↑g':Int)/\True) /\
 l=l/\True) /\
 ((x == (0:Int))=false ->
 ∃ (g':Nat),
 g' <= l.length /\
 l.length - g'<l.length - g /\
 ((↑(z3v (List.take g l)):Int)=(↑(z3v (List.take g' l)):Int) /\
 True/\(↑l.length:Int)=(↑l.length:Int)/\IntKind.i64.wrap ((↑g:Int)+(1:Int))=(↑g':Int)/\True) /\
 l=l/\True)) /\
 (decide ((↑g:Int)<(↑l.length:Int))=false->((↑(z3v (List.take g l)):Int)=(↑(z3v l):Int)/\True)/\True)
theorem empty13_q (l:List Int) (ty0:TypeId):zfd l ty0=z23 TT zkh (empty13_I l) (zfe l) Tryz.f131 [.row 0] [(0,.row false ty0 (.ints .i64 l))] (zki l):=by kernel_rfl
theorem empty13_E (l:List Int) (ty0:TypeId) (hp:l.length <= 1000000000):FVc TT zkh (empty13_I l) (zfe l) Tryz.f131 [.row 0] [(0,.row false ty0 (.ints .i64 l))] (zki l):=by
 refine FVc.of (zfd l ty0) (empty13_q l ty0) ?_
 unfold zfd
 simp only [eq_self,exists_const,forall_const,ne_eq,Int.toNat_natCast,zSS,z08]
 refine ⟨0,⟨by omega,rfl,rfl⟩,fun g hg=>⟨fun h1=>⟨by omega,by omega,fun x hx=>?_⟩,fun h1=>?_⟩⟩
 ·have hw:IntKind.i64.wrap ((g:Int)+1)=((g+1:Nat):Int):=by rw [w64 (by omega) (by omega)]; omega
  have hz:=zerosF_snoc (l.take g) x
  rw [<- z1k hx] at hz
  have hle:=zerosF_le (l.take g)
  rw [List.length_take] at hle
  refine ⟨fun h2=>⟨g+1,by omega,by omega,?_,hw⟩,fun h2=>⟨g+1,by omega,by omega,?_,hw⟩⟩
  ·rw [hz,if_pos h2,w64 (by omega) (by omega)]; omega
  ·rw [hz,if_neg h2]; omega
 ·rw [List.take_of_length_le (by omega)]
theorem empty13_ok:SpecOk Tryz.prog empty13_n true (z02 true zff) :=
 z09 z0i (show z15 Tryz.prog zkh from z03) (by kernel_rfl) mixedOrders Tryz.func131 rfl rfl (by kernel_rfl) (n:=1) (by decide +kernel) (I:=empty13_IA) (fun _ _=>z07) (A:=empty13_A)
  (fun args h r hr=>by
   unfold zff at hr
   split at hr
   ·rename_i ty0 l; cases hr; refine ⟨rfl,fun hp=>?_⟩; have hE:=empty13_E l ty0 hp; exact hE
   ·cases hr)
def zer (c : Cert) (ty0 ty1 ty2 ty3 : TypeId) : Prop :=
      ((c.kind == (1:Int))=true->(2:Nat) <= (1000000000:Nat)/\(((↑(z3v [(↑c.side.length:Int),(↑c.cycle.length:Int)]):Int) == (2:Int))=z20 c/\True)/\True) /\
 ((c.kind == (1:Int))=false ->
 ((c.kind == (2:Int))=true ->
 (3:Nat) <= (1000000000:Nat)/\(((↑(z3v [(↑c.flow.length:Int),(↑c.pot.length:Int),(↑c.cycle.length:Int)]):Int) == (3:Int))=z20 c/\True)/\True) /\
 ((c.kind == (2:Int))=false ->
 ((c.kind == (3:Int))=true ->
 (2:Nat) <= (1000000000:Nat)/\(((↑(z3v [(↑c.pot.length:Int),(↑c.side.length:Int)]):Int) == (2:Int))=z20 c/\True)/\True) /\
 ((c.kind == (3:Int))=false->(false=z20 c/\True)/\True)))
theorem Plain13_q (c:Cert) (ty0 ty1 ty2 ty3:TypeId):zer c ty0 ty1 ty2 ty3=z23 TT zj0 (Plain13_I c) (Plain13_an c) Tryz.f76 [.agg [.int .i64 c.kind,.row 0,.row 1,.row 2,.row 3]] [(0,.row false ty0 (.ints .i64 c.flow)),(1,.row false ty1 (.ints .i64 c.pot)),(2,.row false ty2 (.bools c.side)),(3,.row false ty3 (.ints .i64 c.cycle))] (zj1 c):=by kernel_rfl
theorem Plain13_E (c:Cert) (ty0 ty1 ty2 ty3:TypeId) (hp:True):FVc TT zj0 (Plain13_I c) (Plain13_an c) Tryz.f76 [.agg [.int .i64 c.kind,.row 0,.row 1,.row 2,.row 3]] [(0,.row false ty0 (.ints .i64 c.flow)),(1,.row false ty1 (.ints .i64 c.pot)),(2,.row false ty2 (.bools c.side)),(3,.row false ty3 (.ints .i64 c.cycle))] (zj1 c):=by
 refine FVc.of (zer c ty0 ty1 ty2 ty3) (Plain13_q c ty0 ty1 ty2 ty3) ?_
 unfold zer
 simp only [eq_self,exists_const,forall_const,ne_eq,Int.toNat_natCast,zSS,z08]
 unfold z20
 have e2:∀ a b:Nat,(((z3v [(a:Int),(b:Int)]:Nat):Int) == 2)=(decide (a=0) && decide (b=0)):=fun a b=>by
  rw [z6u,z6u,zerosF_nil]
  by_cases ha:a=0 <;> by_cases hb:b=0 <;> simp [ha,hb]
 have e3:∀ a b c:Nat,(((z3v [(a:Int),(b:Int),(c:Int)]:Nat):Int) == 3)=(decide (a=0) && decide (b=0) && decide (c=0)):=fun a b c=>by
  rw [z6u,z6u,z6u,zerosF_nil]
  by_cases ha:a=0 <;> by_cases hb:b=0 <;> by_cases hc:c=0 <;> simp [ha,hb,hc]
 refine ⟨fun h1=>⟨by omega,by rw [if_pos h1,e2]⟩,fun h1=>⟨fun h2=>⟨by omega,by rw [if_neg h1,if_pos h2,e3]⟩,fun h2=>⟨fun h3=>⟨by omega,by rw [if_neg h1,if_neg h2,if_pos h3,e2]⟩,fun h3=>by rw [if_neg h1,if_neg h2,if_neg h3]⟩⟩⟩
theorem Plain13_ok:SpecOk Tryz.prog Plain13_n true (z02 true zes) :=
 z09 z0i (show z15 Tryz.prog zj0 from z00 empty13_ok (z03)) (by kernel_rfl) mixedOrders Tryz.func76 rfl rfl (by kernel_rfl) (n:=1) (by decide +kernel) (I:=Plain13_IA) (fun _ _=>z07) (A:=Plain13_A)
  (fun args h r hr=>by
   unfold zes at hr
   split at hr
   ·rename_i c_k ty0 c_f ty1 c_p ty2 c_s ty3 c_y; cases hr; refine ⟨rfl,fun hp=>?_⟩; have hE:=Plain13_E ⟨c_k,c_f,c_p,c_s,c_y⟩ ty0 ty1 ty2 ty3 hp; exact hE
   ·cases hr)
def zj6 (I : Inst) (c : Cert) (ty0 ty1 ty2 ty3 ty4 ty5 : TypeId) : Prop :=
      ((c.kind != (1:Int))=true->((((0:Int)=(z0u I c).hi/\(0:Int)=(z0u I c).lo/\True)/\false=decide (c.kind=(1:Int))/\True)/\True)/\True) /\
 ((c.kind != (1:Int))=false ->
 (A64 c.flow/\zcm I.arcs/\I.arcs.length <= (1000000:Nat)) /\
 ((((W (z41 I c.flow)).hi=(z0u I c).hi/\(W (z41 I c.flow)).lo=(z0u I c).lo/\True)/\true=decide (c.kind=(1:Int))/\True)/\True)/\True)
theorem ValueC_q (I:Inst) (c:Cert) (ty0 ty1 ty2 ty3 ty4 ty5:TypeId):zj6 I c ty0 ty1 ty2 ty3 ty4 ty5=z23 TT ValueC_g (ValueC_I I c) (ValueC_an I c) Tryz.f20 [.agg [.row 0,.row 1],.agg [.int .i64 c.kind,.row 2,.row 3,.row 4,.row 5]] [(0,.row false ty0 (.ints .i64 I.sup)),(1,.row false ty1 (.arcs I.arcs)),(2,.row false ty2 (.ints .i64 c.flow)),(3,.row false ty3 (.ints .i64 c.pot)),(4,.row false ty4 (.bools c.side)),(5,.row false ty5 (.ints .i64 c.cycle))] (ValueC_r I c):=by kernel_rfl
theorem ValueC_E (I:Inst) (c:Cert) (ty0 ty1 ty2 ty3 ty4 ty5:TypeId) (hp:z1f c/\z2x I):FVc TT ValueC_g (ValueC_I I c) (ValueC_an I c) Tryz.f20 [.agg [.row 0,.row 1],.agg [.int .i64 c.kind,.row 2,.row 3,.row 4,.row 5]] [(0,.row false ty0 (.ints .i64 I.sup)),(1,.row false ty1 (.arcs I.arcs)),(2,.row false ty2 (.ints .i64 c.flow)),(3,.row false ty3 (.ints .i64 c.pot)),(4,.row false ty4 (.bools c.side)),(5,.row false ty5 (.ints .i64 c.cycle))] (ValueC_r I c):=by
 refine FVc.of (zj6 I c ty0 ty1 ty2 ty3 ty4 ty5) (ValueC_q I c ty0 ty1 ty2 ty3 ty4 ty5) ?_
 unfold zj6
 obtain ⟨c1,c2,c3,c4,c5,c6⟩:=hp.1
 obtain ⟨i1,i2,i3,i4,i5⟩:=hp.2
 simp only [eq_self,exists_const,forall_const,ne_eq,Int.toNat_natCast,zSS,z08]
 unfold z0u
 refine ⟨fun h=>by rw [if_neg h]; exact ⟨⟨rfl,rfl⟩,(decide_eq_false h).symm⟩,fun h=>⟨⟨c1,i5,by omega⟩,by rw [if_pos h]; exact ⟨⟨rfl,rfl⟩,(decide_eq_true h).symm⟩⟩⟩
theorem ValueC_ok:SpecOk Tryz.prog ValueC_n true (z02 true zcq) :=
 z09 z0i (show z15 Tryz.prog ValueC_g from z00 Cost_ok (z03)) (by kernel_rfl) mixedOrders Tryz.func20 rfl rfl (by kernel_rfl) (n:=2) (by decide +kernel) (I:=ValueC_IA) (fun _ _=>z07) (A:=ValueC_A)
  (fun args h r hr=>by
   unfold zcq at hr
   split at hr
   ·rename_i c_k ty0 I_s ty1 I_a ty2 c_f ty3 c_p ty4 c_s ty5 c_y; cases hr; refine ⟨rfl,fun hp=>?_⟩; have hE:=ValueC_E ⟨I_s,I_a⟩ ⟨c_k,c_f,c_p,c_s,c_y⟩ ty0 ty1 ty2 ty3 ty4 ty5 hp; exact hE
   ·cases hr)
def zez (I : Inst) (c : Cert) (ty0 ty1 ty2 ty3 ty4 ty5 : TypeId) : Prop :=
   (I.sup.length <= (10000:Nat)/\I.arcs.length <= (10000:Nat)/\A64 c.flow/\A64 I.sup/\A64 c.pot/\zcm I.arcs)/\(z0z I c.flow c.pot=z0z I c.flow c.pot/\True)/\True
theorem askedC1_q (I:Inst) (c:Cert) (ty0 ty1 ty2 ty3 ty4 ty5:TypeId):zez I c ty0 ty1 ty2 ty3 ty4 ty5=z23 TT zju (askedC1_I I c) (askedC1_an I c) Tryz.f132 [.agg [.row 0,.row 1],.agg [.int .i64 c.kind,.row 2,.row 3,.row 4,.row 5]] [(0,.row false ty0 (.ints .i64 I.sup)),(1,.row false ty1 (.arcs I.arcs)),(2,.row false ty2 (.ints .i64 c.flow)),(3,.row false ty3 (.ints .i64 c.pot)),(4,.row false ty4 (.bools c.side)),(5,.row false ty5 (.ints .i64 c.cycle))] (zjv I c):=by kernel_rfl
theorem askedC1_E (I:Inst) (c:Cert) (ty0 ty1 ty2 ty3 ty4 ty5:TypeId) (hp:z1f c/\z2x I):FVc TT zju (askedC1_I I c) (askedC1_an I c) Tryz.f132 [.agg [.row 0,.row 1],.agg [.int .i64 c.kind,.row 2,.row 3,.row 4,.row 5]] [(0,.row false ty0 (.ints .i64 I.sup)),(1,.row false ty1 (.arcs I.arcs)),(2,.row false ty2 (.ints .i64 c.flow)),(3,.row false ty3 (.ints .i64 c.pot)),(4,.row false ty4 (.bools c.side)),(5,.row false ty5 (.ints .i64 c.cycle))] (zjv I c):=by
 refine FVc.of (zez I c ty0 ty1 ty2 ty3 ty4 ty5) (askedC1_q I c ty0 ty1 ty2 ty3 ty4 ty5) ?_
 unfold zez
 obtain ⟨c1,c2,c3,c4,c5,c6⟩:=hp.1
 obtain ⟨i1,i2,i3,i4,i5⟩:=hp.2
 simp only [eq_self,exists_const,forall_const,ne_eq,Int.toNat_natCast,zSS,z08]
 exact ⟨i1,i2,c1,i3,c2,i5⟩
theorem askedC1_ok:SpecOk Tryz.prog askedC1_n true (z02 true zf0) :=
 z09 z0i (show z15 Tryz.prog zju from z00 Slack_ok (z03)) (by kernel_rfl) mixedOrders Tryz.func132 rfl rfl (by kernel_rfl) (n:=2) (by decide +kernel) (I:=askedC1_IA) (fun _ _=>z07) (A:=askedC1_A)
  (fun args h r hr=>by
   unfold zf0 at hr
   split at hr
   ·rename_i c_k ty0 I_s ty1 I_a ty2 c_f ty3 c_p ty4 c_s ty5 c_y; cases hr; refine ⟨rfl,fun hp=>?_⟩; have hE:=askedC1_E ⟨I_s,I_a⟩ ⟨c_k,c_f,c_p,c_s,c_y⟩ ty0 ty1 ty2 ty3 ty4 ty5 hp; exact hE
   ·cases hr)
def zf1 (I : Inst) (c : Cert) (ty0 ty1 ty2 ty3 ty4 ty5 : TypeId) : Prop :=
   (A64a I.arcs/\I.arcs.length <= (140737488351232:Nat)/\A64 I.sup/\I.sup.length <= (140737488351232:Nat))/\(z1z I c.side=z1z I c.side/\True)/\True
theorem askedC2_q (I:Inst) (c:Cert) (ty0 ty1 ty2 ty3 ty4 ty5:TypeId):zf1 I c ty0 ty1 ty2 ty3 ty4 ty5=z23 TT zjw (askedC2_I I c) (askedC2_an I c) Tryz.f134 [.agg [.row 0,.row 1],.agg [.int .i64 c.kind,.row 2,.row 3,.row 4,.row 5]] [(0,.row false ty0 (.ints .i64 I.sup)),(1,.row false ty1 (.arcs I.arcs)),(2,.row false ty2 (.ints .i64 c.flow)),(3,.row false ty3 (.ints .i64 c.pot)),(4,.row false ty4 (.bools c.side)),(5,.row false ty5 (.ints .i64 c.cycle))] (zjx I c):=by kernel_rfl
theorem askedC2_E (I:Inst) (c:Cert) (ty0 ty1 ty2 ty3 ty4 ty5:TypeId) (hp:z1f c/\z2x I):FVc TT zjw (askedC2_I I c) (askedC2_an I c) Tryz.f134 [.agg [.row 0,.row 1],.agg [.int .i64 c.kind,.row 2,.row 3,.row 4,.row 5]] [(0,.row false ty0 (.ints .i64 I.sup)),(1,.row false ty1 (.arcs I.arcs)),(2,.row false ty2 (.ints .i64 c.flow)),(3,.row false ty3 (.ints .i64 c.pot)),(4,.row false ty4 (.bools c.side)),(5,.row false ty5 (.ints .i64 c.cycle))] (zjx I c):=by
 refine FVc.of (zf1 I c ty0 ty1 ty2 ty3 ty4 ty5) (askedC2_q I c ty0 ty1 ty2 ty3 ty4 ty5) ?_
 unfold zf1
 obtain ⟨c1,c2,c3,c4,c5,c6⟩:=hp.1
 obtain ⟨i1,i2,i3,i4,i5⟩:=hp.2
 simp only [eq_self,exists_const,forall_const,ne_eq,Int.toNat_natCast,zSS,z08]
 exact ⟨i4,by omega,i3,by omega⟩
theorem askedC2_ok:SpecOk Tryz.prog askedC2_n true (z02 true zf2) :=
 z09 z0i (show z15 Tryz.prog zjw from z00 Proves_ok (z03)) (by kernel_rfl) mixedOrders Tryz.func134 rfl rfl (by kernel_rfl) (n:=2) (by decide +kernel) (I:=askedC2_IA) (fun _ _=>z07) (A:=askedC2_A)
  (fun args h r hr=>by
   unfold zf2 at hr
   split at hr
   ·rename_i c_k ty0 I_s ty1 I_a ty2 c_f ty3 c_p ty4 c_s ty5 c_y; cases hr; refine ⟨rfl,fun hp=>?_⟩; have hE:=askedC2_E ⟨I_s,I_a⟩ ⟨c_k,c_f,c_p,c_s,c_y⟩ ty0 ty1 ty2 ty3 ty4 ty5 hp; exact hE
   ·cases hr)
def zf3 (I : Inst) (c : Cert) (ty0 ty1 ty2 ty3 ty4 ty5 : TypeId) : Prop :=
      (I.sup.length <= (10000:Nat)/\I.arcs.length <= (10000:Nat)/\A64 c.flow/\A64 I.sup) /\
 ((z0v I c.flow != (0:Int))=true->((z0v I c.flow=if z0v I c.flow ≠ (0:Int) then z0v I c.flow else z2b I c.cycle)/\True)/\True) /\
 ((z0v I c.flow != (0:Int))=false ->
 (c.cycle.length <= (140737488351232:Nat)/\zcm I.arcs)/\((z2b I c.cycle=if z0v I c.flow ≠ (0:Int) then z0v I c.flow else z2b I c.cycle)/\True)/\True)
theorem askedC3_q (I:Inst) (c:Cert) (ty0 ty1 ty2 ty3 ty4 ty5:TypeId):zf3 I c ty0 ty1 ty2 ty3 ty4 ty5=z23 TT zjy (askedC3_I I c) (askedC3_an I c) Tryz.f135 [.agg [.row 0,.row 1],.agg [.int .i64 c.kind,.row 2,.row 3,.row 4,.row 5]] [(0,.row false ty0 (.ints .i64 I.sup)),(1,.row false ty1 (.arcs I.arcs)),(2,.row false ty2 (.ints .i64 c.flow)),(3,.row false ty3 (.ints .i64 c.pot)),(4,.row false ty4 (.bools c.side)),(5,.row false ty5 (.ints .i64 c.cycle))] (zjz I c):=by kernel_rfl
theorem askedC3_E (I:Inst) (c:Cert) (ty0 ty1 ty2 ty3 ty4 ty5:TypeId) (hp:z1f c/\z2x I):FVc TT zjy (askedC3_I I c) (askedC3_an I c) Tryz.f135 [.agg [.row 0,.row 1],.agg [.int .i64 c.kind,.row 2,.row 3,.row 4,.row 5]] [(0,.row false ty0 (.ints .i64 I.sup)),(1,.row false ty1 (.arcs I.arcs)),(2,.row false ty2 (.ints .i64 c.flow)),(3,.row false ty3 (.ints .i64 c.pot)),(4,.row false ty4 (.bools c.side)),(5,.row false ty5 (.ints .i64 c.cycle))] (zjz I c):=by
 refine FVc.of (zf3 I c ty0 ty1 ty2 ty3 ty4 ty5) (askedC3_q I c ty0 ty1 ty2 ty3 ty4 ty5) ?_
 unfold zf3
 obtain ⟨c1,c2,c3,c4,c5,c6⟩:=hp.1
 obtain ⟨i1,i2,i3,i4,i5⟩:=hp.2
 simp only [eq_self,exists_const,forall_const,ne_eq,Int.toNat_natCast,zSS,z08]
 refine ⟨⟨i1,i2,c1,i3⟩,fun h=>by rw [if_pos h],fun h=>⟨⟨c6,i5⟩,by rw [if_neg (fun h2=>h2 h)]⟩⟩
theorem askedC3_ok:SpecOk Tryz.prog askedC3_n true (z02 true zf4) :=
 z09 z0i (show z15 Tryz.prog zjy from z00 Fits_ok (z00 Turns_ok (z03))) (by kernel_rfl) mixedOrders Tryz.func135 rfl rfl (by kernel_rfl) (n:=2) (by decide +kernel) (I:=askedC3_IA) (fun _ _=>z07) (A:=askedC3_A)
  (fun args h r hr=>by
   unfold zf4 at hr
   split at hr
   ·rename_i c_k ty0 I_s ty1 I_a ty2 c_f ty3 c_p ty4 c_s ty5 c_y; cases hr; refine ⟨rfl,fun hp=>?_⟩; have hE:=askedC3_E ⟨I_s,I_a⟩ ⟨c_k,c_f,c_p,c_s,c_y⟩ ty0 ty1 ty2 ty3 ty4 ty5 hp; exact hE
   ·cases hr)
theorem askedC_ok:SpecOk Tryz.prog askedC_n false zk0 :=
 z7d z0i (show z15 Tryz.prog askedC_g from z03) (by kernel_rfl) mixedOrders Tryz.func77 rfl rfl (by kernel_rfl) _
def Check_E0 (I : Inst) (c : Cert) (ty0 ty1 ty2 ty3 ty4 ty5 : TypeId) : Prop :=
      True /\
 ((z04 I != (0:Int))=true->(z04 I=z17 I c/\True)/\True) /\
 ((z04 I != (0:Int))=false ->
 True /\
 ((!z20 { kind:=c.kind,flow:=c.flow,pot:=c.pot,side:=c.side,cycle:=c.cycle:Cert })=true->((36:Int)=z17 I c/\True)/\True) /\
 ((!z20 { kind:=c.kind,flow:=c.flow,pot:=c.pot,side:=c.side,cycle:=c.cycle:Cert })=false ->
 ((∀ (p:List Int × Int),
 List.Mem p
 (mput (mput (mput [] [(1:Int)] ((↑(132:Nat):Int)+(1:Int))) [(2:Int)] ((↑(134:Nat):Int)+(1:Int))) [(3:Int)]
 ((↑(135:Nat):Int)+(1:Int))) ->
 (0:Int)<p.snd) /\
 ([c.kind]=[(1:Int)] ->
 (z1f { kind:=c.kind,flow:=c.flow,pot:=c.pot,side:=c.side,cycle:=c.cycle:Cert }/\z2x I) /\
 (z0z I c.flow c.pot=z17 I c/\True)/\True) /\
 ([c.kind] ≠ [(1:Int)] ->
 ([c.kind]=[(2:Int)] ->
 (z1f { kind:=c.kind,flow:=c.flow,pot:=c.pot,side:=c.side,cycle:=c.cycle:Cert }/\z2x I) /\
 (z1z I c.side=z17 I c/\True)/\True) /\
 ([c.kind] ≠ [(2:Int)] ->
 ([c.kind]=[(3:Int)] ->
 (z1f { kind:=c.kind,flow:=c.flow,pot:=c.pot,side:=c.side,cycle:=c.cycle:Cert }/\z2x I) /\
 ((if z0v I c.flow ≠ (0:Int) then z0v I c.flow else z2b I c.cycle)=z17 I c/\True)/\True) /\
 ([c.kind] ≠ [(3:Int)]->((36:Int)=z17 I c/\True)/\True)))) /\
 (∀ (p:List Int × Int),
 List.Mem p
 (mput (mput (mput [] [(1:Int)] ((↑(132:Nat):Int)+(1:Int))) [(2:Int)] ((↑(134:Nat):Int)+(1:Int))) [(3:Int)]
 ((↑(135:Nat):Int)+(1:Int))) ->
 (0:Int)<p.snd) /\
 ([c.kind]=[(1:Int)] ->
 (z1f { kind:=c.kind,flow:=c.flow,pot:=c.pot,side:=c.side,cycle:=c.cycle:Cert }/\z2x I) /\
 (z0z I c.flow c.pot=z17 I c/\True)/\True) /\
 ([c.kind] ≠ [(1:Int)] ->
 ([c.kind]=[(2:Int)] ->
 (z1f { kind:=c.kind,flow:=c.flow,pot:=c.pot,side:=c.side,cycle:=c.cycle:Cert }/\z2x I) /\
 (z1z I c.side=z17 I c/\True)/\True) /\
 ([c.kind] ≠ [(2:Int)] ->
 ([c.kind]=[(3:Int)] ->
 (z1f { kind:=c.kind,flow:=c.flow,pot:=c.pot,side:=c.side,cycle:=c.cycle:Cert }/\z2x I) /\
 ((if z0v I c.flow ≠ (0:Int) then z0v I c.flow else z2b I c.cycle)=z17 I c/\True)/\True) /\
 ([c.kind] ≠ [(3:Int)]->((36:Int)=z17 I c/\True)/\True)))))
theorem Check_q (I:Inst) (c:Cert) (ty0 ty1 ty2 ty3 ty4 ty5:TypeId):Check_E0 I c ty0 ty1 ty2 ty3 ty4 ty5=z23 TT Check_g (Check_I I c) (Check_an I c) Tryz.f39 [.agg [.row 0,.row 1],.agg [.int .i64 c.kind,.row 2,.row 3,.row 4,.row 5]] [(0,.row false ty0 (.ints .i64 I.sup)),(1,.row false ty1 (.arcs I.arcs)),(2,.row false ty2 (.ints .i64 c.flow)),(3,.row false ty3 (.ints .i64 c.pot)),(4,.row false ty4 (.bools c.side)),(5,.row false ty5 (.ints .i64 c.cycle))] (Check_r I c):=by kernel_rfl
theorem Check_E (I:Inst) (c:Cert) (ty0 ty1 ty2 ty3 ty4 ty5:TypeId) (hp:z1f c/\z2x I):FVc TT Check_g (Check_I I c) (Check_an I c) Tryz.f39 [.agg [.row 0,.row 1],.agg [.int .i64 c.kind,.row 2,.row 3,.row 4,.row 5]] [(0,.row false ty0 (.ints .i64 I.sup)),(1,.row false ty1 (.arcs I.arcs)),(2,.row false ty2 (.ints .i64 c.flow)),(3,.row false ty3 (.ints .i64 c.pot)),(4,.row false ty4 (.bools c.side)),(5,.row false ty5 (.ints .i64 c.cycle))] (Check_r I c):=by
 refine FVc.of (Check_E0 I c ty0 ty1 ty2 ty3 ty4 ty5) (Check_q I c ty0 ty1 ty2 ty3 ty4 ty5) ?_
 unfold Check_E0
 obtain ⟨c1,c2,c3,c4,c5,c6⟩:=hp.1
 have hc:z1f ⟨c.kind,c.flow,c.pot,c.side,c.cycle⟩:=hp.1
 have mem:∀ x y z:Nat,∀ p:List Int × Int,List.Mem p (mput (mput (mput [] [1] ((x:Int)+1)) [2] ((y:Int)+1)) [3] ((z:Int)+1))->0<p.2:=fun x y z p hp=>by
  have h:p ∈ [([(1:Int)],(x:Int)+1),([2],(y:Int)+1),([3],(z:Int)+1)]:=hp
  simp only [List.mem_cons,List.not_mem_nil,or_false] at h
  rcases h with rfl | rfl | rfl <;> dsimp only <;> omega
 refine ⟨trivial,fun h=>⟨?_,trivial⟩,fun h=>⟨trivial,fun h2=>⟨?_,trivial⟩,fun h2=>?_⟩⟩
 ·have h3:¬ z04 I=0:=by simpa using h
  unfold z17; rw [if_pos h3]; exact ⟨rfl,trivial⟩
 ·have h3:z04 I=0:=by simpa using h
  have h4:z20 c=false:=by simpa using h2
  unfold z17; rw [if_neg (fun h5=>h5 h3),if_pos h4]; exact ⟨rfl,trivial⟩
 ·have h3:z04 I=0:=by simpa using h
  have h4:z20 c=true:=by simpa using h2
  have e0:z17 I c=if c.kind=1 then z0z I c.flow c.pot else if c.kind=2 then z1z I c.side else if z0v I c.flow ≠ 0 then z0v I c.flow else z2b I c.cycle:=by
   unfold z17; rw [if_neg (fun h5=>h5 h3),if_neg (by rw [h4]; simp)]
  have hk:=zbw h4
  have f1:([c.kind]=[(1:Int)]->(z1f c/\z2x I)/\(z0z I c.flow c.pot=z17 I c/\True)/\True):=fun h=>by
   have h:c.kind=1:=by simpa using h
   exact ⟨hp,⟨by rw [e0,if_pos h],trivial⟩,trivial⟩
  have f2:[c.kind] ≠ [(1:Int)]->([c.kind]=[(2:Int)]->(z1f c/\z2x I)/\(z1z I c.side=z17 I c/\True)/\True):=fun _ h=>by
   have h:c.kind=2:=by simpa using h
   exact ⟨hp,⟨by rw [e0,if_neg (by omega),if_pos h],trivial⟩,trivial⟩
  have f3:[c.kind] ≠ [(2:Int)]->([c.kind]=[(3:Int)]->(z1f c/\z2x I)/\((if z0v I c.flow ≠ (0:Int) then z0v I c.flow else z2b I c.cycle)=z17 I c/\True)/\True):=fun _ h=>by
   have h:c.kind=3:=by simpa using h
   exact ⟨hp,⟨by rw [e0,if_neg (show ¬ c.kind=1 by omega),if_neg (show ¬ c.kind=2 by omega)],trivial⟩,trivial⟩
  have f4:[c.kind] ≠ [(1:Int)]->[c.kind] ≠ [(2:Int)]->[c.kind] ≠ [(3:Int)]->((36:Int)=z17 I c/\True)/\True:=fun g1 g2 g3=>by
   rcases hk with h | h | h
   ·exact absurd (by rw [h]) g1
   ·exact absurd (by rw [h]) g2
   ·exact absurd (by rw [h]) g3
  exact ⟨⟨mem _ _ _,f1,fun g1=>⟨f2 g1,fun g2=>⟨f3 g2,fun g3=>f4 g1 g2 g3⟩⟩⟩,mem _ _ _,f1,fun g1=>⟨f2 g1,fun g2=>⟨f3 g2,fun g3=>f4 g1 g2 g3⟩⟩⟩
theorem Check_ok:SpecOk Tryz.prog Check_n true (z02 true Check_fs) :=
 z09 z0i (show z15 Tryz.prog Check_g from z00 zco (z00 Plain13_ok (z00 askedC_ok (z00 askedC1_ok (z00 askedC2_ok (z00 askedC3_ok (z03))))))) (by kernel_rfl) mixedOrders Tryz.func39 rfl rfl (by kernel_rfl) (n:=2) (by decide +kernel) (I:=Check_IA) (fun _ _=>z07) (A:=Check_A)
  (fun args h r hr=>by
   unfold Check_fs at hr
   split at hr
   ·rename_i c_k ty0 I_s ty1 I_a ty2 c_f ty3 c_p ty4 c_s ty5 c_y; cases hr; refine ⟨rfl,fun hp=>?_⟩; have hE:=Check_E ⟨I_s,I_a⟩ ⟨c_k,c_f,c_p,c_s,c_y⟩ ty0 ty1 ty2 ty3 ty4 ty5 hp; exact hE
   ·cases hr)
def zg4 (c:Cert):FRes:={ pre:=True,res:=.bool (z20 c),rows:=[],eff:=[] }
def zc1:FS:=fun args h=>match args,h with
 | [.agg [.int .i64 c_k,.row 0,.row 1,.row 2,.row 3]],[(0,.row false ty0 (.ints .i64 c_f)),(1,.row false ty1 (.ints .i64 c_p)),(2,.row false ty2 (.bools c_s)),(3,.row false ty3 (.ints .i64 c_y))]=>some (zg4 ⟨c_k,c_f,c_p,c_s,c_y⟩)
 | _,_=>none
def zm5 (c:Cert):List (Nat × Ann):=[]
def rPlain13_A:List SV->z0d->List (Nat × Ann):=fun _ _=>[]
def zg3:z0c:=[]
abbrev rPlain13_n:Nat:=53
def rPlain13_I (c:Cert):List (Nat × z0a):=[]
def rPlain13_IA:List SV->z0d->List (Nat × z0a):=fun _ _=>[]
def rProvesN_r (I:Inst) (side:List Bool):FRes:={ pre:=False,res:=.int .i64 (0),rows:=[],eff:=[] }
def zc2:FS:=fun args h=>match args,h with
 | [.agg [.row 0,.row 1],.row 2],[(0,.row false ty0 (.ints .i64 I_s)),(1,.row false ty1 (.arcs I_a)),(2,.row false ty2 (.bools side))]=>some (rProvesN_r ⟨I_s,I_a⟩ side)
 | _,_=>none
def rProvesN_g:z0c:=[]
abbrev rProvesN_n:Nat:=55
def rTurnsN_r (I:Inst) (l:List Int):FRes:={ pre:=False,res:=.int .i64 (0),rows:=[],eff:=[] }
def zg7:FS:=fun args h=>match args,h with
 | [.agg [.row 0,.row 1],.row 2],[(0,.row false ty0 (.ints .i64 I_s)),(1,.row false ty1 (.arcs I_a)),(2,.row false ty2 (.ints .i64 l))]=>some (rTurnsN_r ⟨I_s,I_a⟩ l)
 | _,_=>none
def rTurnsN_g:z0c:=[]
abbrev rTurnsN_n:Nat:=57
def zm1 (I:Inst) (c:Cert):FRes:={ pre:=z1f c/\z2x I/\c.kind=1,res:=.int .i64 (z17 I c),rows:=[],eff:=[] }
def zfz:FS:=fun args h=>match args,h with
 | [.agg [.row 0,.row 1],.agg [.int .i64 c_k,.row 2,.row 3,.row 4,.row 5]],[(0,.row false ty0 (.ints .i64 I_s)),(1,.row false ty1 (.arcs I_a)),(2,.row false ty2 (.ints .i64 c_f)),(3,.row false ty3 (.ints .i64 c_p)),(4,.row false ty4 (.bools c_s)),(5,.row false ty5 (.ints .i64 c_y))]=>some (zm1 ⟨I_s,I_a⟩ ⟨c_k,c_f,c_p,c_s,c_y⟩)
 | _,_=>none
def rCheckB_an (I:Inst) (c:Cert):List (Nat × Ann):=[]
def rCheckB_A:List SV->z0d->List (Nat × Ann):=fun _ _=>[]
def zm0:z0c:=[(rRight_n,(true,z02 true zde)),(rPlain13_n,(true,z02 true zc1)),(rSlack_n,(true,z02 true zmc)),(rProvesN_n,(true,z02 true zc2)),(rFits_n,(true,z02 true zi6)),(rTurnsN_n,(true,z02 true zg7))]
abbrev rCheckB_n:Nat:=18
def rCheckB_I (I:Inst) (c:Cert):List (Nat × z0a):=[]
def rCheckB_IA:List SV->z0d->List (Nat × z0a):=fun _ _=>[]
def zc0 (c : Cert) (ty0 ty1 ty2 ty3 : TypeId) : Prop :=
      ((c.kind == (1:Int))=true ->
 (((↑c.side.length:Int) == (0:Int))=true->(((↑c.cycle.length:Int) == (0:Int))=z20 c/\True)/\True) /\
 (((↑c.side.length:Int) == (0:Int))=false->(false=z20 c/\True)/\True)) /\
 ((c.kind == (1:Int))=false ->
 ((c.kind == (2:Int))=true ->
 (((↑c.flow.length:Int) == (0:Int))=true ->
 (((↑c.pot.length:Int) == (0:Int))=true->(((↑c.cycle.length:Int) == (0:Int))=z20 c/\True)/\True) /\
 (((↑c.pot.length:Int) == (0:Int))=false->(false=z20 c/\True)/\True)) /\
 (((↑c.flow.length:Int) == (0:Int))=false->(false=z20 c/\True)/\True)) /\
 ((c.kind == (2:Int))=false ->
 ((c.kind == (3:Int))=true ->
 (((↑c.pot.length:Int) == (0:Int))=true->(((↑c.side.length:Int) == (0:Int))=z20 c/\True)/\True) /\
 (((↑c.pot.length:Int) == (0:Int))=false->(false=z20 c/\True)/\True)) /\
 ((c.kind == (3:Int))=false->(false=z20 c/\True)/\True)))
theorem rPlain13_q (c:Cert) (ty0 ty1 ty2 ty3:TypeId):zc0 c ty0 ty1 ty2 ty3=z23 TT zg3 (rPlain13_I c) (zm5 c) Tryz.f53 [.agg [.int .i64 c.kind,.row 0,.row 1,.row 2,.row 3]] [(0,.row false ty0 (.ints .i64 c.flow)),(1,.row false ty1 (.ints .i64 c.pot)),(2,.row false ty2 (.bools c.side)),(3,.row false ty3 (.ints .i64 c.cycle))] (zg4 c):=by kernel_rfl
theorem rPlain13_E (c:Cert) (ty0 ty1 ty2 ty3:TypeId) (hp:True):FVc TT zg3 (rPlain13_I c) (zm5 c) Tryz.f53 [.agg [.int .i64 c.kind,.row 0,.row 1,.row 2,.row 3]] [(0,.row false ty0 (.ints .i64 c.flow)),(1,.row false ty1 (.ints .i64 c.pot)),(2,.row false ty2 (.bools c.side)),(3,.row false ty3 (.ints .i64 c.cycle))] (zg4 c):=by
 refine FVc.of (zc0 c ty0 ty1 ty2 ty3) (rPlain13_q c ty0 ty1 ty2 ty3) ?_
 unfold zc0
 simp only [eq_self,exists_const,forall_const,ne_eq,Int.toNat_natCast,zSS,z08]
 unfold z20
 have b0:∀ n:Nat,(((n:Int) == 0):Bool)=decide (n=0):=fun n=>by by_cases h:n=0 <;> simp [h]
 simp only [b0]
 refine ⟨fun k1=>⟨fun h1=>?_,fun h1=>?_⟩,fun k1=>⟨fun k2=>⟨fun h1=>⟨fun h2=>?_,fun h2=>?_⟩,fun h1=>?_⟩,fun k2=>⟨fun k3=>⟨fun h1=>?_,fun h1=>?_⟩,fun k3=>?_⟩⟩⟩
 all_goals
  first
   | (rw [if_pos (by assumption)])
   | (rw [if_neg (by assumption),if_pos (by assumption)])
   | (rw [if_neg (by assumption),if_neg (by assumption),if_pos (by assumption)])
   | (rw [if_neg (by assumption),if_neg (by assumption),if_neg (by assumption)])
 all_goals simp_all
theorem rPlain13_ok:SpecOk Tryz.prog rPlain13_n true (z02 true zc1) :=
 z09 z0i (show z15 Tryz.prog zg3 from z03) (by kernel_rfl) mixedOrders Tryz.func53 rfl rfl (by kernel_rfl) (n:=1) (by decide +kernel) (I:=rPlain13_IA) (fun _ _=>z07) (A:=rPlain13_A)
  (fun args h r hr=>by
   unfold zc1 at hr
   split at hr
   ·rename_i c_k ty0 c_f ty1 c_p ty2 c_s ty3 c_y; cases hr; refine ⟨rfl,fun hp=>?_⟩; have hE:=rPlain13_E ⟨c_k,c_f,c_p,c_s,c_y⟩ ty0 ty1 ty2 ty3 hp; exact hE
   ·cases hr)
theorem rProvesN_ok:SpecOk Tryz.prog rProvesN_n true (z02 true zc2) :=
 z09 z0i (show z15 Tryz.prog rProvesN_g from z03) (by kernel_rfl) mixedOrders Tryz.func55 rfl rfl (by kernel_rfl) (n:=2) (by decide +kernel) (I:=fun _ _=>[]) (fun _ _=>z07) (A:=fun _ _=>[])
  (fun args h r hr=>by
   unfold zc2 at hr
   split at hr
   ·cases hr; exact ⟨rfl,fun hp=>hp.elim⟩
   ·cases hr)
theorem rTurnsN_ok:SpecOk Tryz.prog rTurnsN_n true (z02 true zg7) :=
 z09 z0i (show z15 Tryz.prog rTurnsN_g from z03) (by kernel_rfl) mixedOrders Tryz.func57 rfl rfl (by kernel_rfl) (n:=2) (by decide +kernel) (I:=fun _ _=>[]) (fun _ _=>z07) (A:=fun _ _=>[])
  (fun args h r hr=>by
   unfold zg7 at hr
   split at hr
   ·cases hr; exact ⟨rfl,fun hp=>hp.elim⟩
   ·cases hr)
def zfy (I : Inst) (c : Cert) (ty0 ty1 ty2 ty3 ty4 ty5 : TypeId) : Prop :=
      True /\
 ((z04 I != (0:Int))=true->(z04 I=z17 I c/\True)/\True) /\
 ((z04 I != (0:Int))=false ->
 True /\
 ((!z20 { kind:=c.kind,flow:=c.flow,pot:=c.pot,side:=c.side,cycle:=c.cycle:Cert })=true->((36:Int)=z17 I c/\True)/\True) /\
 ((!z20 { kind:=c.kind,flow:=c.flow,pot:=c.pot,side:=c.side,cycle:=c.cycle:Cert })=false ->
 ((c.kind == (1:Int))=true ->
 (I.sup.length <= (10000:Nat)/\I.arcs.length <= (10000:Nat)/\A64 c.flow/\A64 I.sup/\A64 c.pot/\zcm I.arcs) /\
 (z0z I c.flow c.pot=z17 I c/\True)/\True) /\
 ((c.kind == (1:Int))=false ->
 ((c.kind == (2:Int))=true->False/\((0:Int)=z17 I c/\True)/\True) /\
 ((c.kind == (2:Int))=false ->
 (I.sup.length <= (10000:Nat)/\I.arcs.length <= (10000:Nat)/\A64 c.flow/\A64 I.sup) /\
 ((z0v I c.flow != (0:Int))=true->(z0v I c.flow=z17 I c/\True)/\True) /\
 ((z0v I c.flow != (0:Int))=false->False/\((0:Int)=z17 I c/\True)/\True)))))
theorem rCheckB_q (I:Inst) (c:Cert) (ty0 ty1 ty2 ty3 ty4 ty5:TypeId):zfy I c ty0 ty1 ty2 ty3 ty4 ty5=z23 TT zm0 (rCheckB_I I c) (rCheckB_an I c) Tryz.f18 [.agg [.row 0,.row 1],.agg [.int .i64 c.kind,.row 2,.row 3,.row 4,.row 5]] [(0,.row false ty0 (.ints .i64 I.sup)),(1,.row false ty1 (.arcs I.arcs)),(2,.row false ty2 (.ints .i64 c.flow)),(3,.row false ty3 (.ints .i64 c.pot)),(4,.row false ty4 (.bools c.side)),(5,.row false ty5 (.ints .i64 c.cycle))] (zm1 I c):=by kernel_rfl
theorem rCheckB_E (I:Inst) (c:Cert) (ty0 ty1 ty2 ty3 ty4 ty5:TypeId) (hp:z1f c/\z2x I/\c.kind=1):FVc TT zm0 (rCheckB_I I c) (rCheckB_an I c) Tryz.f18 [.agg [.row 0,.row 1],.agg [.int .i64 c.kind,.row 2,.row 3,.row 4,.row 5]] [(0,.row false ty0 (.ints .i64 I.sup)),(1,.row false ty1 (.arcs I.arcs)),(2,.row false ty2 (.ints .i64 c.flow)),(3,.row false ty3 (.ints .i64 c.pot)),(4,.row false ty4 (.bools c.side)),(5,.row false ty5 (.ints .i64 c.cycle))] (zm1 I c):=by
 refine FVc.of (zfy I c ty0 ty1 ty2 ty3 ty4 ty5) (rCheckB_q I c ty0 ty1 ty2 ty3 ty4 ty5) ?_
 unfold zfy
 obtain ⟨c1,c2,c3,c4,c5,c6⟩:=hp.1
 obtain ⟨i1,i2,i3,i4,i5⟩:=hp.2.1
 have kk:=hp.2.2
 simp only [eq_self,exists_const,forall_const,ne_eq,Int.toNat_natCast,zSS,z08]
 refine ⟨fun h=>by unfold z17; rw [if_pos h],fun h=>⟨fun h2=>by unfold z17; rw [if_neg (fun h5=>h5 h),if_pos h2],fun h2=>?_⟩⟩
 have e0:z17 I c=if c.kind=1 then z0z I c.flow c.pot else if c.kind=2 then z1z I c.side else if z0v I c.flow ≠ 0 then z0v I c.flow else z2b I c.cycle:=by
  unfold z17; rw [if_neg (fun h5=>h5 h),if_neg (by rw [h2]; simp)]
 rw [e0]
 exact ⟨fun k1=>⟨⟨i1,i2,c1,i3,c2,i5⟩,by rw [if_pos k1]⟩,fun k1=>absurd kk k1⟩
theorem rCheckB_ok:SpecOk Tryz.prog rCheckB_n true (z02 true zfz) :=
 z09 z0i (show z15 Tryz.prog zm0 from z00 rRight_ok (z00 rPlain13_ok (z00 rSlack_ok (z00 rProvesN_ok (z00 rFits_ok (z00 rTurnsN_ok (z03))))))) (by kernel_rfl) mixedOrders Tryz.func18 rfl rfl (by kernel_rfl) (n:=2) (by decide +kernel) (I:=rCheckB_IA) (fun _ _=>z07) (A:=rCheckB_A)
  (fun args h r hr=>by
   unfold zfz at hr
   split at hr
   ·rename_i c_k ty0 I_s ty1 I_a ty2 c_f ty3 c_p ty4 c_s ty5 c_y; cases hr; refine ⟨rfl,fun hp=>?_⟩; have hE:=rCheckB_E ⟨I_s,I_a⟩ ⟨c_k,c_f,c_p,c_s,c_y⟩ ty0 ty1 ty2 ty3 ty4 ty5 hp; exact hE
   ·cases hr)
end Go.Proofs.YtggblkbecekbdaaGreat
end
section
namespace Go.Ql
open Go Go.Vc
theorem YB.a64 {x:List Int} (h:YB x):A64 x:=fun y hy=>by have:=h y hy; unfold I64; omega
theorem zax {I:Inst} {x p:List Int} (h:z0z I x p=0):z0v I x=0:=by
 unfold z0z at h
 split at h
 ·rename_i hn; exact absurd h hn
 ·rename_i hn; exact Classical.byContradiction hn
theorem zib {I:Inst} {c:Cert} {e:Int} (hr:z04 I=0) (h:SolveP I c e):z1f c/\z17 I c=0/\c.flow.length <= 256/\c.pot.length <= 64/\c.side.length <= 64/\c.cycle.length <= 256:=by
 obtain ⟨-,h1,h2,h3,-⟩:=h.ok hr
 have hs:=z0h hr
 have hl:c.flow.length <= 256/\c.pot.length <= 64/\c.side.length <= 64/\c.cycle.length <= 256:=by
  obtain ⟨-,hp,hk⟩:=z4j h1
  unfold z20 at hp
  rcases hk with ⟨k,h4⟩ | ⟨k,h4⟩ | ⟨k,h4,h5⟩
  ·have hf:=(fitsF_zero.1 (zax h4)).2.1
   have hpl:c.pot.length=I.sup.length:=by
    unfold z0z at h4
    rw [if_neg (fun hn=>hn (zax (by unfold z0z; exact h4)))] at h4
    split at h4
    ·cases h4
    ·rename_i hh; exact Classical.byContradiction hh
   rw [if_pos k,Bool.and_eq_true,decide_eq_true_eq,decide_eq_true_eq] at hp
   omega
  ·rw [if_neg (by omega),if_pos k,Bool.and_eq_true,Bool.and_eq_true,decide_eq_true_eq,decide_eq_true_eq,decide_eq_true_eq] at hp
   have:c.side.length=I.sup.length:=by
    unfold z1z at h4
    rw [if_neg (fun hn=>hn hr)] at h4
    split at h4
    ·cases h4
    ·rename_i hh; exact Classical.byContradiction hh
   omega
  ·rw [if_neg (by omega),if_neg (by omega),if_pos k,Bool.and_eq_true,decide_eq_true_eq,decide_eq_true_eq] at hp
   have hf:=(fitsF_zero.1 h4).2.1
   have:c.cycle.length <= I.arcs.length:=by
    unfold z2b at h5
    rw [if_neg (fun hn=>hn hr)] at h5
    split at h5
    ·cases h5
    ·omega
   omega
 exact ⟨⟨h2.a64,h3.a64,by omega,by omega,by omega,by omega⟩,h1,hl⟩
structure ValueP (I:Inst) (w:Wide) (k:Int):Prop where
 ex:∃ c,z1f c/\z17 I c=0/\c.kind=k/\w=z0u I c
 yb:∃ c,z1f c/\z17 I c=0/\YB c.flow/\YB c.pot/\∀ C:Int,0 <= C->(∀ s,okS I s->-C <= csS I s/\csS I s <= C)->∀ k,-(C * 32768) <= c.pot.getD k 0/\c.pot.getD k 0 <= C * 32768
theorem ValueP.one {I:Inst} {w:Wide} {k:Int} (h:ValueP I w k) {c:Cert} (hc:z1f c) (h1:z17 I c=0):k=c.kind/\w=z0u I c:=by
 obtain ⟨d,q1,q2,rfl,rfl⟩:=h.ex
 exact cert_one q1 hc q2 h1
theorem ValueP.pos {I:Inst} {w:Wide} {k:Int} (h:ValueP I w k):z04 I=0/\(k=1 ∨ k=2 ∨ k=3):=by
 obtain ⟨d,q1,q2,rfl,rfl⟩:=h.ex
 obtain ⟨hr,hp,-⟩:=z4j q2
 exact ⟨hr,zbw hp⟩
def FeasQ (I:Inst):Prop:=∃ x,A64 x/\z0v I x=0
def NegQ (I:Inst):Prop:=∃ l,z2b I l=0/\l.length <= 140737488351232
theorem ValueP.feas {I:Inst} {w:Wide} {k:Int} (h:ValueP I w k) (hk:k ≠ 2):FeasQ I:=by
 obtain ⟨d,q1,q2,rfl,-⟩:=h.ex
 obtain ⟨hr,-,q3⟩:=z4j q2
 rcases q3 with ⟨-,a⟩ | ⟨a,-⟩ | ⟨-,a,-⟩
 ·exact ⟨_,q1.1,zax a⟩
 ·omega
 ·exact ⟨_,q1.1,a⟩
theorem ValueP.neg {I:Inst} {w:Wide} {k:Int} (h:ValueP I w k) (hk:k ≠ 2):k=3 ↔ NegQ I:=by
 refine ⟨fun h3=>?_,fun ⟨l,hl,hll⟩=>?_⟩
 ·obtain ⟨d,q1,q2,rfl,-⟩:=h.ex
  obtain ⟨hr,-,q3⟩:=z4j q2
  rcases q3 with ⟨a,-⟩ | ⟨a,-⟩ | ⟨-,-,a⟩
  ·omega
  ·omega
  ·exact ⟨_,a,q1.2.2.2.2.2⟩
 ·obtain ⟨x,hx,hf⟩:=h.feas hk
  have hlen:=(fitsF_zero.1 hf).2.1
  have hr:=(fitsF_zero.1 hf).1
  have hs:=z0h hr
  have hc:z17 I ⟨3,x,[],[],l⟩=0:=by
   unfold z17 z20
   simp [hr,hf,hl]
  exact (h.one (c:=⟨3,x,[],[],l⟩) ⟨hx,YB.nil.a64,by dsimp only; omega,by simp,by simp,hll⟩ hc).1
theorem ValueP.best {I:Inst} {w:Wide} {k:Int} (h:ValueP I w k) (hk:k=1):∃ x,A64 x/\z0v I x=0/\w=W (z41 I x)/\∀ y,A64 y->z0v I y=0->z41 I x <= z41 I y:=by
 obtain ⟨d,q1,q2,rfl,rfl⟩:=h.ex
 obtain ⟨hr,-,q3⟩:=z4j q2
 have hs:=z0h hr
 rcases q3 with ⟨-,a⟩ | ⟨a,-⟩ | ⟨a,-⟩
 ·refine ⟨d.flow,q1.1,zax a,by unfold z0u; rw [if_pos hk],fun y hy hf=>?_⟩
  have hb:=zgk hy q1.1 q1.2.1 a hf
  rw [za4 (z42 hr q1.1) (z42 hr hy)] at hb
  apply Int.le_of_not_gt
  intro hlt
  rw [if_neg (by omega),if_pos hlt] at hb
  exact absurd hb (by decide)
 ·omega
 ·omega
def turnS (s:List Int) (k:Int):List Int:=addAt (addAt s (k % (s.length:Int)).toNat (k % 5)) (k / 5 % (s.length:Int)).toNat (-(k % 5))
def z06 (p d:List Int) (k:Int):Inst:=⟨turnS (z1m p d).sup k,(z1m p d).arcs⟩
theorem turnS_len (s:List Int) (k:Int):(turnS s k).length=s.length:=by unfold turnS; rw [z2l,z2l]
theorem turnS_sum {s:List Int} (k:Int) (h:1 <= s.length):(turnS s k).sum=s.sum:=by
 have h1:∀ x:Int,(x % (s.length:Int)).toNat<s.length:=fun x=>by
  have:=Int.emod_nonneg x (b:=(s.length:Int)) (by omega)
  have:=Int.emod_lt_of_pos x (b:=(s.length:Int)) (by omega)
  omega
 unfold turnS
 rw [z7a _ _ _ (by rw [z2l]; exact h1 _),z7a _ _ _ (h1 _)]
 omega
theorem turnS_within {s:List Int} {b k:Int} (h:Within b s) (hb:0 <= b):Within (b+8) (turnS s k):=by
 have h1:=h.addAt hb (k % (s.length:Int)).toNat (x:=k % 5) (y:=4) (by omega) (by omega)
 have h2:=h1.addAt (by omega) (k / 5 % (s.length:Int)).toNat (x:=-(k % 5)) (y:=4) (by omega) (by omega)
 unfold turnS
 exact h2.more (by omega)
structure ArcFew (n:Int) (a:Arc):Prop where
 s0:0 <= a.src
 s1:a.src<n
 d0:0 <= a.dst
 d1:a.dst<n
 l0:0 <= a.low
 l1:a.low <= 500
 c:a.cap=inf ∨ a.low <= a.cap/\a.cap <= 2000
 k0:-2000 <= a.cost
 k1:a.cost <= 2000
structure FewI (I:Inst):Prop where
 n1:1 <= I.sup.length
 n2:I.sup.length <= 30
 m:I.arcs.length <= 64
 arc:∀ a ∈ I.arcs,ArcFew I.sup.length a
 sup:Within 100000 I.sup
 sum:I.sup.sum=0
theorem Nice_few {n:Int} {a:Arc} (h:a.Nice n):ArcFew n a:=by
 have h1:=h.l1; have h2:=h.c0; have h3:=h.c1; have h4:=h.k0; have h5:=h.k1
 exact ⟨h.s0,h.s1,h.d0,h.d1,h.l0,by omega,h3.elim (fun h=>.inr ⟨h2,by omega⟩) .inl,by omega,by omega⟩
theorem small_few (p d:List Int) (k:Int):FewI (z06 p d k)/\(z06 p d k).sup.length=nOf d/\(z06 p d k).arcs.length <= 18/\nOf d <= 7/\1 <= nOf d/\Within 200 (z06 p d k).sup/\∀ a ∈ (z06 p d k).arcs,a.Nice (nOf d):=by
 have l1:=instF_sup p d
 have l2:=zfo d
 have l3:=nOf_le d
 have l4:=instF_arcs p d
 have hl:(z06 p d k).sup.length=nOf d:=by unfold z06; dsimp only; rw [turnS_len,l1]
 have hw:=turnS_within (k:=k) (zh1 p d) (by omega)
 exact ⟨⟨by omega,by omega,by unfold z06; dsimp only; omega,fun a ha=>by rw [hl]; exact Nice_few (instF_nice p d a ha),hw.more (by omega),by unfold z06; dsimp only; rw [turnS_sum k (by omega)]; exact instF_sum p d⟩,hl,l4,l3,l2,hw.more (by omega),instF_nice p d⟩
theorem FewI.right {I:Inst} (h:FewI I):z04 I=0:=by
 have:=h.n2; have:=h.m
 refine right_of (by omega) (by omega) (fun a ha=>?_) (fun x hx=>by have:=h.sup x hx; omega) h.sum
 have h:=h.arc a ha
 have hi:inf=4611686018427387904:=rfl
 have:=h.s0; have:=h.s1; have:=h.d0; have:=h.d1; have:=h.l0; have:=h.l1; have:=h.c; have:=h.k0; have:=h.k1
 unfold z0e
 rw [if_neg (by omega),if_neg (by omega),if_neg (by omega),if_neg (by omega)]
theorem FewI.small {I:Inst} (h:FewI I):SmallI I:=by
 refine ⟨fun y hy=>by have:=h.sup y hy; omega,fun a ha=>?_⟩
 have h1:=(h.arc a ha).l1; have h2:=(h.arc a ha).c
 exact ⟨by omega,h2.elim .inl (fun h=>.inr (by omega))⟩
theorem ValueP.none {I:Inst} {w:Wide} {k:Int} (h:ValueP I w k) (hk:k ≠ 1):w=⟨0,0⟩:=by
 obtain ⟨d,q1,q2,rfl,rfl⟩:=h.ex
 unfold z0u; rw [if_neg hk]
theorem value_of {I:Inst} {c:Cert} {e:Int} (hr:z04 I=0) (h:SolveP I c e):ValueP I (z0u I c) c.kind:=by
 obtain ⟨q1,q2,-⟩:=zib hr h
 obtain ⟨-,-,q3,q4,q5⟩:=h.ok hr
 exact ⟨⟨c,q1,q2,rfl,rfl⟩,⟨c,q1,q2,q3,q4,q5⟩⟩
theorem inst_ok {I:Inst} (h:z04 I=0):z2x I:=by
 obtain ⟨a1,a2,a3,a4⟩:=right_A64 h
 have:=z0h h
 exact ⟨by omega,by omega,a3,a1,a2⟩
end Go.Ql
end
section
namespace Go.Proofs.YtggblkbecekbdaaGreat
open Go Go.RowKit Go.Ql Go.Vc
def zl5:FRes:={ pre:=True,res:=.bool (true),rows:=[],eff:=[] }
def zfk:FS:=fun args h=>match args,h with
 | [],[]=>some (zl5)
 | _,_=>none
def known20_an:List (Nat × Ann):=[]
def known20_A:List SV->z0d->List (Nat × Ann):=fun _ _=>[]
def zl4:z0c:=[(Solve_n,(true,z10 true zhp)),(ValueC_n,(true,z02 true zcq)),(Of_n,(true,z02 true zhe)),(rCheckB_n,(true,z02 true zfz))]
abbrev known20_n:Nat:=10
def known20_I:List (Nat × z0a):=[]
def known20_IA:List SV->z0d->List (Nat × z0a):=fun _ _=>[]
def Small_r (p:List Int) (d:List Int) (k:Int):FRes:={ pre:=Bytes p/\Bytes d/\p.length <= maxLen/\d.length <= maxLen/\0 <= k/\k <= 255,res:=.agg [.row 2,.row 3],rows:=[.row 2 (.ints .i64 (z06 p d k).sup),.row 35 (.arcs (z06 p d k).arcs)],eff:=[] }
def Small_fs:FS:=fun args h=>match args,h with
 | [.row 0,.row 1,.int .u8 k],[(0,.row false ty0 (.ints .u8 p)),(1,.row false ty1 (.ints .u8 d))]=>some (Small_r p d k)
 | _,_=>none
def Small_an (p:List Int) (d:List Int) (k:Int):List (Nat × Ann):=[]
def Small_A:List SV->z0d->List (Nat × Ann):=fun _ _=>[]
def Small_g:z0c:=[(Inst_n,(true,z02 true Inst_fs))]
abbrev Small_n:Nat:=12
def Small_I (p:List Int) (d:List Int) (k:Int):List (Nat × z0a):=[]
def Small_IA:List SV->z0d->List (Nat × z0a):=fun _ _=>[]
abbrev z7f (g:Cert × Int):=(z0u { sup:=[(3:Int),(-3:Int)],arcs:=[{ src:=(0:Int),dst:=(1:Int),low:=(0:Int),cap:=(2:Int),cost:=(1:Int):Arc },{ src:=(0:Int),dst:=(1:Int),low:=(0:Int),cap:=(2:Int),cost:=(5:Int):Arc }]:Inst } { kind:=g.1.kind,flow:=g.1.flow,pot:=g.1.pot,side:=g.1.side,cycle:=g.1.cycle:Cert })
def zfj : Prop :=
   (z04 { sup:=[(3:Int),(-3:Int)],arcs:=[{ src:=(0:Int),dst:=(1:Int),low:=(0:Int),cap:=(2:Int),cost:=(1:Int):Arc },{ src:=(0:Int),dst:=(1:Int),low:=(0:Int),cap:=(2:Int),cost:=(5:Int):Arc }]:Inst } = (0:Int)->SmallI { sup:=[(3:Int),(-3:Int)],arcs:=[{ src:=(0:Int),dst:=(1:Int),low:=(0:Int),cap:=(2:Int),cost:=(1:Int):Arc },{ src:=(0:Int),dst:=(1:Int),low:=(0:Int),cap:=(2:Int),cost:=(5:Int):Arc }]:Inst })/\∀ (g:Cert × Int),SolveP { sup:=[(3:Int),(-3:Int)],arcs:=[{ src:=(0:Int),dst:=(1:Int),low:=(0:Int),cap:=(2:Int),cost:=(1:Int):Arc },{ src:=(0:Int),dst:=(1:Int),low:=(0:Int),cap:=(2:Int),cost:=(5:Int):Arc }]:Inst } g.1 g.2->(z1f { kind:=g.1.kind,flow:=g.1.flow,pot:=g.1.pot,side:=g.1.side,cycle:=g.1.cycle:Cert }/\(z2x { sup:=[(3:Int),(-3:Int)],arcs:=[{ src:=(0:Int),dst:=(1:Int),low:=(0:Int),cap:=(2:Int),cost:=(1:Int):Arc },{ src:=(0:Int),dst:=(1:Int),low:=(0:Int),cap:=(2:Int),cost:=(5:Int):Arc }]:Inst }))/\((g.2 == (0:Int))=true->((g.1.kind == (1:Int))=true->(decide (g.1.kind=(1:Int))=true->I64 (7:Int)/\((decide ([(z7f g).hi,(z7f g).lo]=[(W (7:Int)).hi,(W (7:Int)).lo])=true->(z1f { kind:=g.1.kind,flow:=g.1.flow,pot:=g.1.pot,side:=g.1.side,cycle:=g.1.cycle:Cert }/\(z2x { sup:=[(3:Int),(-3:Int)],arcs:=[{ src:=(0:Int),dst:=(1:Int),low:=(0:Int),cap:=(2:Int),cost:=(1:Int):Arc },{ src:=(0:Int),dst:=(1:Int),low:=(0:Int),cap:=(2:Int),cost:=(5:Int):Arc }]:Inst }/\(g.1.kind=(1:Int))))/\(((z17 { sup:=[(3:Int),(-3:Int)],arcs:=[{ src:=(0:Int),dst:=(1:Int),low:=(0:Int),cap:=(2:Int),cost:=(1:Int):Arc },{ src:=(0:Int),dst:=(1:Int),low:=(0:Int),cap:=(2:Int),cost:=(5:Int):Arc }]:Inst } { kind:=g.1.kind,flow:=g.1.flow,pot:=g.1.pot,side:=g.1.side,cycle:=g.1.cycle:Cert } == (0:Int))=true/\True)/\True))/\(decide ([(z7f g).hi,(z7f g).lo]=[(W (7:Int)).hi,(W (7:Int)).lo])=false->(false=true/\True)/\True)))/\(decide (g.1.kind=(1:Int))=false->(false=true/\True)/\True))/\((g.1.kind == (1:Int))=false->(false=true/\True)/\True))/\((g.2 == (0:Int))=false->(false=true/\True)/\True)
theorem known20_q:zfj=z23 TT zl4 (known20_I) (known20_an) Tryz.f10 [] [] (zl5):=by kernel_rfl
theorem known20_E (hp:True):FVc TT zl4 (known20_I) (known20_an) Tryz.f10 [] [] (zl5):=by
 refine FVc.of (zfj) (known20_q) ?_
 unfold zfj
 delta z7f
 simp only [eq_self,exists_const,forall_const,ne_eq,Int.toNat_natCast,zSS,z08]
 have hr:z04 ⟨[3,-3],[⟨0,1,0,2,1⟩,⟨0,1,0,2,5⟩]⟩=0:=by decide
 have hsm:SmallI ⟨[3,-3],[⟨0,1,0,2,1⟩,⟨0,1,0,2,5⟩]⟩:=⟨by simp,by simp⟩
 have hc0:z17 ⟨[3,-3],[⟨0,1,0,2,1⟩,⟨0,1,0,2,5⟩]⟩ ⟨1,[2,1],[5,0],[],[]⟩=0:=by decide
 have hv0:z0u ⟨[3,-3],[⟨0,1,0,2,1⟩,⟨0,1,0,2,5⟩]⟩ ⟨1,[2,1],[5,0],[],[]⟩=W 7:=by decide
 have h0:z1f ⟨1,[2,1],[5,0],[],[]⟩:=by simp [z1f,A64,I64]
 have hi:=inst_ok hr
 generalize (⟨[3,-3],[⟨0,1,0,2,1⟩,⟨0,1,0,2,5⟩]⟩:Inst)=I at *
 refine ⟨fun _=>hsm,?_⟩
 rintro ⟨c,e⟩ hS
 obtain ⟨q1,q2,q3⟩:=zib hr hS
 obtain ⟨hk,hv⟩:=cert_one q1 h0 q2 hc0
 have he:=(hS.ok hr).1
 rw [hv0] at hv
 dsimp only at he hk hv q1 q2 q3 ⊢
 rw [hv]
 exact ⟨⟨q1,hi⟩,fun _=>⟨fun _=>⟨fun _=>⟨by unfold I64; omega,fun _=>⟨⟨q1,hi,hk⟩,q2⟩,fun h=>absurd rfl h⟩,fun h=>absurd hk h⟩,fun h=>absurd hk h⟩,fun h=>absurd he h⟩
theorem known20_ok:SpecOk Tryz.prog known20_n true (z02 true zfk) :=
 z09 z0i (show z15 Tryz.prog zl4 from z00 Solve_ok (z00 ValueC_ok (z00 Of_ok (z00 rCheckB_ok (z03))))) (by kernel_rfl) mixedOrders Tryz.func10 rfl rfl (by kernel_rfl) (n:=0) (by decide +kernel) (I:=known20_IA) (fun _ _=>z07) (A:=known20_A)
  (fun args h r hr=>by
   unfold zfk at hr
   split at hr
   ·cases hr; refine ⟨rfl,fun hp=>?_⟩; have hE:=known20_E  hp; exact hE
   ·cases hr)
def Small_E0 (p : List Int) (d : List Int) (k : Int) (ty0 ty1 : TypeId) : Prop :=
      (Bytes p/\Bytes d/\p.length <= maxLen/\d.length <= maxLen) /\
 (↑(z1m p d).sup.length:Int) ≠ (0:Int) /\
 ((0:Int) <= (IntKind.i64.wrap k).tmod (↑(z1m p d).sup.length:Int)/\(IntKind.i64.wrap k).tmod (↑(z1m p d).sup.length:Int)<(↑(z1m p d).sup.length:Int)) /\
 ((IntKind.i64.wrap k).tmod (↑(z1m p d).sup.length:Int)).toNat<(z1m p d).sup.length /\
 ∀ (x:Int),
 (z1m p d).sup[((IntKind.i64.wrap k).tmod (↑(z1m p d).sup.length:Int)).toNat]? = some x ->
 (5:Int) ≠ (0:Int) /\
 ((0:Int) <= (IntKind.i64.wrap k).tmod (↑(z1m p d).sup.length:Int) /\
 (IntKind.i64.wrap k).tmod (↑(z1m p d).sup.length:Int)<(↑(z1m p d).sup.length:Int)) /\
 ((IntKind.i64.wrap k).tmod (↑(z1m p d).sup.length:Int)).toNat<(z1m p d).sup.length /\
 (5:Int) ≠ (0:Int) /\
 (↑(z1m p d).sup.length:Int) ≠ (0:Int) /\
 ((0:Int) <= (IntKind.i64.wrap (IntKind.u8.wrap (k.tdiv (5:Int)))).tmod (↑(z1m p d).sup.length:Int) /\
 (IntKind.i64.wrap (IntKind.u8.wrap (k.tdiv (5:Int)))).tmod (↑(z1m p d).sup.length:Int) <
 (↑((z1m p d).sup.set ((IntKind.i64.wrap k).tmod (↑(z1m p d).sup.length:Int)).toNat
 (IntKind.i64.wrap (x+IntKind.i64.wrap (k.tmod (5:Int))))).length :
 Int)) /\
 ((IntKind.i64.wrap (IntKind.u8.wrap (k.tdiv (5:Int)))).tmod (↑(z1m p d).sup.length:Int)).toNat <
 ((z1m p d).sup.set ((IntKind.i64.wrap k).tmod (↑(z1m p d).sup.length:Int)).toNat
 (IntKind.i64.wrap (x+IntKind.i64.wrap (k.tmod (5:Int))))).length /\
 ∀ (x_1:Int),
 ((z1m p d).sup.set ((IntKind.i64.wrap k).tmod (↑(z1m p d).sup.length:Int)).toNat
 (IntKind.i64.wrap
 (x +
 IntKind.i64.wrap
 (k.tmod (5:Int)))))[((IntKind.i64.wrap (IntKind.u8.wrap (k.tdiv (5:Int)))).tmod (↑(z1m p d).sup.length:Int)).toNat]? =
 some x_1 ->
 (5:Int) ≠ (0:Int) /\
 ((0:Int) <= (IntKind.i64.wrap (IntKind.u8.wrap (k.tdiv (5:Int)))).tmod (↑(z1m p d).sup.length:Int) /\
 (IntKind.i64.wrap (IntKind.u8.wrap (k.tdiv (5:Int)))).tmod (↑(z1m p d).sup.length:Int) <
 (↑((z1m p d).sup.set ((IntKind.i64.wrap k).tmod (↑(z1m p d).sup.length:Int)).toNat
 (IntKind.i64.wrap (x+IntKind.i64.wrap (k.tmod (5:Int))))).length :
 Int)) /\
 ((IntKind.i64.wrap (IntKind.u8.wrap (k.tdiv (5:Int)))).tmod (↑(z1m p d).sup.length:Int)).toNat <
 ((z1m p d).sup.set ((IntKind.i64.wrap k).tmod (↑(z1m p d).sup.length:Int)).toNat
 (IntKind.i64.wrap (x+IntKind.i64.wrap (k.tmod (5:Int))))).length /\
 ((True/\True/\True)/\True) /\
 ((z1m p d).sup.set ((IntKind.i64.wrap k).tmod (↑(z1m p d).sup.length:Int)).toNat
 (IntKind.i64.wrap (x+IntKind.i64.wrap (k.tmod (5:Int))))).set
 ((IntKind.i64.wrap (IntKind.u8.wrap (k.tdiv (5:Int)))).tmod (↑(z1m p d).sup.length:Int)).toNat
 (IntKind.i64.wrap (x_1 - IntKind.i64.wrap (k.tmod (5:Int)))) =
 (z06 p d k).sup /\
 (z1m p d).arcs=(z06 p d k).arcs/\True
theorem Small_q (p:List Int) (d:List Int) (k:Int) (ty0 ty1:TypeId):Small_E0 p d k ty0 ty1=z23 TT Small_g (Small_I p d k) (Small_an p d k) Tryz.f12 [.row 0,.row 1,.int .u8 k] [(0,.row false ty0 (.ints .u8 p)),(1,.row false ty1 (.ints .u8 d))] (Small_r p d k):=by kernel_rfl
theorem Small_E (p:List Int) (d:List Int) (k:Int) (ty0 ty1:TypeId) (hp:Bytes p/\Bytes d/\p.length <= maxLen/\d.length <= maxLen/\0 <= k/\k <= 255):FVc TT Small_g (Small_I p d k) (Small_an p d k) Tryz.f12 [.row 0,.row 1,.int .u8 k] [(0,.row false ty0 (.ints .u8 p)),(1,.row false ty1 (.ints .u8 d))] (Small_r p d k):=by
 refine FVc.of (Small_E0 p d k ty0 ty1) (Small_q p d k ty0 ty1) ?_
 unfold Small_E0
 simp only [eq_self,exists_const,forall_const,ne_eq,Int.toNat_natCast,zSS,z08]
 obtain ⟨p1,p2,p3,p4,k0,k1⟩:=hp
 have l1:=instF_sup p d
 have l2:=zfo d
 have l3:=nOf_le d
 have hw:=zh1 p d
 have e1:IntKind.i64.wrap k=k:=w64 (by omega) (by omega)
 have e2:IntKind.i64.wrap (IntKind.u8.wrap (k.tdiv 5))=k / 5:=by rw [Int.tdiv_eq_ediv_of_nonneg k0,wu8 (by omega) (by omega),w64 (by omega) (by omega)]
 have e3:IntKind.i64.wrap (k.tmod 5)=k % 5:=by rw [Int.tmod_eq_emod_of_nonneg k0,w64 (by omega) (by omega)]
 rw [e1,e2,e3]
 show _
 unfold z06
 dsimp only
 generalize (z1m p d).sup=s at *
 have hm:∀ x:Int,0 <= x->x.tmod (s.length:Int)=((x % (s.length:Int)).toNat:Nat)/\(x % (s.length:Int)).toNat<s.length:=fun x hx=>by
  have:=Int.emod_nonneg x (b:=(s.length:Int)) (by omega)
  have:=Int.emod_lt_of_pos x (b:=(s.length:Int)) (by omega)
  rw [Int.tmod_eq_emod_of_nonneg hx]
  omega
 have m1:=hm k k0
 have m2:=hm (k / 5) (by omega)
 rw [m1.1,m2.1]
 unfold turnS
 generalize (k % (s.length:Int)).toNat=i at *
 generalize (k / 5 % (s.length:Int)).toNat=j at *
 simp only [Int.toNat_natCast,List.length_set]
 refine ⟨⟨p1,p2,p3,p4⟩,by omega,by omega,by omega,fun x hx=>⟨by omega,by omega,by omega,by omega,by omega,by omega,by omega,fun y hy=>⟨by omega,by omega,by omega,?_,trivial⟩⟩⟩
 have hx2:=hw x (List.mem_of_getElem? hx)
 have hs1:IntKind.i64.wrap (x+k % 5)=x+k % 5:=w64 (by omega) (by omega)
 rw [hs1,zdk hx] at hy ⊢
 have hw1:=hw.addAt (by omega) i (x:=k % 5) (y:=4) (by omega) (by omega)
 have hy2:=hw1 y (List.mem_of_getElem? hy)
 rw [w64 (by omega) (by omega),show y - k % 5=y + -(k % 5) by omega,zdk hy]
theorem Small_ok:SpecOk Tryz.prog Small_n true (z02 true Small_fs) :=
 z09 z0i (show z15 Tryz.prog Small_g from z00 Inst_ok (z03)) (by kernel_rfl) mixedOrders Tryz.func12 rfl rfl (by kernel_rfl) (n:=3) (by decide +kernel) (I:=Small_IA) (fun _ _=>z07) (A:=Small_A)
  (fun args h r hr=>by
   unfold Small_fs at hr
   split at hr
   ·rename_i k ty0 p ty1 d; cases hr; refine ⟨rfl,fun hp=>?_⟩; have hE:=Small_E p d k ty0 ty1 hp; exact hE
   ·cases hr)
def LongC_r (c:Cert):FRes:={ pre:=z1f c,res:=.int .i64 (c.flow.length+c.pot.length+c.side.length+c.cycle.length),rows:=[],eff:=[] }
def LongC_fs:FS:=fun args h=>match args,h with
 | [.agg [.int .i64 c_k,.row 0,.row 1,.row 2,.row 3]],[(0,.row false ty0 (.ints .i64 c_f)),(1,.row false ty1 (.ints .i64 c_p)),(2,.row false ty2 (.bools c_s)),(3,.row false ty3 (.ints .i64 c_y))]=>some (LongC_r ⟨c_k,c_f,c_p,c_s,c_y⟩)
 | _,_=>none
def LongC_an (c:Cert):List (Nat × Ann):=[]
def LongC_A:List SV->z0d->List (Nat × Ann):=fun _ _=>[]
def LongC_g:z0c:=[]
abbrev LongC_n:Nat:=36
def LongC_I (c:Cert):List (Nat × z0a):=[]
def LongC_IA:List SV->z0d->List (Nat × z0a):=fun _ _=>[]
def LongC_E0 (c : Cert) (ty0 ty1 ty2 ty3 : TypeId) : Prop :=
      (IntKind.i64.wrap (IntKind.i64.wrap (IntKind.i64.wrap ((↑c.flow.length:Int)+(↑c.pot.length:Int))+(↑c.side.length:Int))+(↑c.cycle.length:Int)) =
 (↑c.flow.length:Int)+(↑c.pot.length:Int)+(↑c.side.length:Int)+(↑c.cycle.length:Int) /\
 True) /\
 True
theorem LongC_q (c:Cert) (ty0 ty1 ty2 ty3:TypeId):LongC_E0 c ty0 ty1 ty2 ty3=z23 TT LongC_g (LongC_I c) (LongC_an c) Tryz.f36 [.agg [.int .i64 c.kind,.row 0,.row 1,.row 2,.row 3]] [(0,.row false ty0 (.ints .i64 c.flow)),(1,.row false ty1 (.ints .i64 c.pot)),(2,.row false ty2 (.bools c.side)),(3,.row false ty3 (.ints .i64 c.cycle))] (LongC_r c):=by kernel_rfl
theorem LongC_E (c:Cert) (ty0 ty1 ty2 ty3:TypeId) (hp:z1f c):FVc TT LongC_g (LongC_I c) (LongC_an c) Tryz.f36 [.agg [.int .i64 c.kind,.row 0,.row 1,.row 2,.row 3]] [(0,.row false ty0 (.ints .i64 c.flow)),(1,.row false ty1 (.ints .i64 c.pot)),(2,.row false ty2 (.bools c.side)),(3,.row false ty3 (.ints .i64 c.cycle))] (LongC_r c):=by
 refine FVc.of (LongC_E0 c ty0 ty1 ty2 ty3) (LongC_q c ty0 ty1 ty2 ty3) ?_
 unfold LongC_E0
 obtain ⟨c1,c2,c3,c4,c5,c6⟩:=hp
 simp only [eq_self,exists_const,forall_const,ne_eq,Int.toNat_natCast,zSS,z08]
 rw [w64 (x:=(c.flow.length:Int)+c.pot.length) (by omega) (by omega),w64 (x:=(c.flow.length:Int)+c.pot.length+c.side.length) (by omega) (by omega),w64 (by omega) (by omega)]
theorem LongC_ok:SpecOk Tryz.prog LongC_n true (z02 true LongC_fs) :=
 z09 z0i (show z15 Tryz.prog LongC_g from z03) (by kernel_rfl) mixedOrders Tryz.func36 rfl rfl (by kernel_rfl) (n:=1) (by decide +kernel) (I:=LongC_IA) (fun _ _=>z07) (A:=LongC_A)
  (fun args h r hr=>by
   unfold LongC_fs at hr
   split at hr
   ·rename_i c_k ty0 c_f ty1 c_p ty2 c_s ty3 c_y; cases hr; refine ⟨rfl,fun hp=>?_⟩; have hE:=LongC_E ⟨c_k,c_f,c_p,c_s,c_y⟩ ty0 ty1 ty2 ty3 hp; exact hE
   ·cases hr)
end Go.Proofs.YtggblkbecekbdaaGreat
end
section
namespace Go.Ql
open Go Go.Vc
theorem best_law {I:Inst} {c:Cert} {e:Int} (hr:z04 I=0) (hS:SolveP I c e) {y:List Int} (hy:A64 y) (hf:z0v I y=0):c.kind ≠ 2/\(c.kind=1->¬ z8u (z0u I c) (W (z41 I y)) > 0):=by
 obtain ⟨q1,q2,-⟩:=zib hr hS
 have hs:=z0h hr
 refine ⟨fun hk=>?_,fun hk=>?_⟩
 ·obtain ⟨-,-,h⟩:=z4j q2
  rcases h with h | h | h
  ·omega
  ·exact zbx (by omega) (by omega) hy (z2f hr).1 h.2 hf
  ·omega
 ·obtain ⟨x,hx,-,e1,hb⟩:=(value_of hr hS).best hk
  have h1:=hb y hy hf
  rw [e1,za4 (z42 hr hx) (z42 hr hy)]
  split
  ·omega
  ·split <;> omega
theorem zee (I:Inst) (c:Cert):(z0u I c).ok:=by
 unfold z0u
 split
 ·exact z78 _
 ·rw [<- W_zero]; exact z78 _
def madeA (a:Arc) (r:Int):Arc:=if r<0/\a.cap=inf then { a with cap:=a.low+2 } else a
def madeX (a:Arc) (r f:Int):Int:=if r<0 then (madeA a r).cap else if 0<r then a.low else f
structure MadeI (I:Inst) (P F:List Int) (k:Nat) (B:List Arc) (y:List Int):Prop where
 lb:B.length=I.arcs.length
 ly:y.length=I.arcs.length
 b:∀ j,j<I.arcs.length->B.getD j default=if j<k then madeA (I.arcs.getD j default) (zel I P j) else I.arcs.getD j default
 y:∀ j,j<I.arcs.length->y.getD j 0=if j<k then madeX (I.arcs.getD j default) (zel I P j) (F.getD j 0) else F.getD j 0
theorem MadeI.zero {I:Inst} {P F:List Int} (h:F.length=I.arcs.length):MadeI I P F 0 I.arcs F:=⟨rfl,h,fun j _=>by simp,fun j _=>by simp⟩
theorem getD_set' {α:Type} (l:List α) (k j:Nat) (v d:α) (h:k<l.length):(l.set k v).getD j d=if j=k then v else l.getD j d:=by
 rw [List.getD_eq_getElem?_getD,List.getD_eq_getElem?_getD,List.getElem?_set]
 by_cases hjk:k=j
 ·subst hjk; simp [h]
 ·rw [if_neg hjk,if_neg (fun e=>hjk e.symm)]
theorem MadeI.next {I:Inst} {P F:List Int} {k:Nat} {B:List Arc} {y:List Int} (h:MadeI I P F k B y) (hk:k<I.arcs.length) {B':List Arc} {y':List Int}
  (hB:B'=B.set k (madeA (I.arcs.getD k default) (zel I P k))) (hy:y'=y.set k (madeX (I.arcs.getD k default) (zel I P k) (F.getD k 0))):MadeI I P F (k+1) B' y':=by
 subst hB hy
 refine ⟨by rw [List.length_set]; exact h.lb,by rw [List.length_set]; exact h.ly,fun j hj=>?_,fun j hj=>?_⟩
 ·rw [getD_set' _ _ _ _ _ (by rw [h.lb]; exact hk),h.b j hj]
  by_cases e:j=k
  ·subst e; simp
  ·rw [if_neg e]
   by_cases e2:j<k
   ·rw [if_pos e2,if_pos (by omega)]
   ·rw [if_neg e2,if_neg (by omega)]
 ·rw [getD_set' _ _ _ _ _ (by rw [h.ly]; exact hk),h.y j hj]
  by_cases e:j=k
  ·subst e; simp
  ·rw [if_neg e]
   by_cases e2:j<k
   ·rw [if_pos e2,if_pos (by omega)]
   ·rw [if_neg e2,if_neg (by omega)]
theorem MadeI.same {I:Inst} {P F:List Int} {k:Nat} {B:List Arc} {y:List Int} (h:MadeI I P F k B y) (hk:k<I.arcs.length):B.getD k default=I.arcs.getD k default/\y.getD k 0=F.getD k 0:=by
 have h1:=h.b k hk; have h2:=h.y k hk
 rw [if_neg (Nat.lt_irrefl _)] at h1 h2
 exact ⟨h1,h2⟩
theorem madeA_nice {m:Int} {a:Arc} (h:a.Nice m) (r:Int):(madeA a r).Nice m:=by
 unfold madeA
 split
 ·have:=h.l0; have:=h.l1
  exact ⟨h.s0,h.s1,h.d0,h.d1,h.l0,h.l1,by dsimp only; omega,by dsimp only; omega,h.k0,h.k1⟩
 ·exact h
theorem MadeI.a64 {I:Inst} {P F:List Int} {k:Nat} {B:List Arc} {y:List Int} (h:MadeI I P F k B y) {m:Int} (hn:∀ a ∈ I.arcs,a.Nice m) (hF:A64 F):A64 y:=fun u hu=>by
 obtain ⟨j,hj⟩:=List.mem_iff_getElem?.1 hu
 have hjl:j<I.arcs.length:=by have:=(List.getElem?_eq_some_iff.1 hj).1; rw [h.ly] at this; exact this
 have e:=h.y j hjl
 rw [List.getD_eq_getElem?_getD,hj] at e
 have hm:I.arcs.getD j default ∈ I.arcs:=by rw [List.getD_eq_getElem?_getD,List.getElem?_eq_getElem hjl]; exact List.getElem_mem hjl
 have hf:=hF.getD j
 change u=_ at e
 rw [e]
 split
 ·have h1:=madeA_nice (hn _ hm) (zel I P j)
  have h2:=hn _ hm
  have:=h1.c0; have:=h1.c1; have:=h1.l0; have:=h2.l0; have:=h2.l1; have:=h1.l1
  unfold madeX
  split
  ·unfold I64; omega
  ·split
   ·unfold I64; omega
   ·exact hf
 ·exact hf
theorem flow_in {I:Inst} {m:Int} (hn:∀ a ∈ I.arcs,a.Nice m) (d:List Int):∀ k a,I.arcs[k]? = some a->a.low <= (z0w I d).getD k 0/\(z0w I d).getD k 0 <= 7/\(a.cap=inf ∨ (z0w I d).getD k 0 <= a.cap):=fun k a ha=>by
 have hk:=(List.getElem?_eq_some_iff.1 ha).1
 have e:(z0w I d).getD k 0=z6t d k a:=by
  unfold z0w
  rw [List.getD_eq_getElem?_getD,List.getElem?_map,List.getElem?_range hk]
  show z6t d k (I.arcs.getD k default)=_
  rw [List.getD_eq_getElem?_getD,ha]; rfl
 have hN:=hn _ (List.mem_of_getElem? ha)
 have:=hN.l0; have:=hN.l1; have:=hN.c0; have:=hN.c1
 rw [e]
 unfold z6t inf
 split <;> omega
end Go.Ql
end
section
namespace Go.Proofs.YtggblkbecekbdaaGreat
open Go Go.RowKit Go.Ql Go.Draw
end Go.Proofs.YtggblkbecekbdaaGreat
end
section
section
namespace Go.Ql
open Go Go.RowKit Go.ChangeShapes Go.WideShapes Go.ChangeAt Go.Deep
section
variable {H:Type} {enc:TypeId × Value->H} {P:Program}
theorem zew {w:World} {a:Addr} {v:Value} (h:w.cell? a=some v):a=⟨a.block,a.off,none⟩/\a.block<w.heap.size:=by
 refine ⟨?_,World.block_lt_of_cell? w a h⟩
 obtain ⟨b,o,s⟩:=a
 cases s with
 | none=>rfl
 | some s =>
  exfalso
  unfold World.cell? at h
  split at h <;> simp at h
theorem zj7 (b o i:Nat):(⟨b,o,none⟩:Addr).add i=⟨b,o+i,none⟩:=by
 unfold Addr.add
 split
 ·rename_i h; simp_all
 ·rfl
theorem zhr {W:World} {base:Nat} {r:Reach} {b0:Nat} {t e:TypeId} {k:IntKind} {v:Value} {d:DataW H} {p:List MemPlace} (ht:P.underlying t=some (.slice e)) (he:P.underlying e=some (.int k)) (hc:P.cellsOf e=1)
  (hv:Value.okWide P W r b0 t v) (h:DataW.Trod enc P W base (fun _=>true) true t v d p) :
  ∃ A c xs,v = .slice A xs.length c/\(RowR (Value.int k) W W.heap.size A xs/\xs.length <= c)/\xs.length <= maxLen/\∀ x ∈ xs,(Lit.int k x).wf=true:=by
 obtain ⟨a0,len,cap,rfl⟩:=okWide_slice ht hv
 obtain ⟨fuel,hf⟩:=h
 rcases open_ints ht he hc hf with ⟨hcs,_⟩ | ⟨a,len',cap',zs,hcs,_,hl,hm,hz,_,hcell,hwz⟩
 ·simp [Value.cells] at hcs
  obtain ⟨rfl,rfl,rfl⟩:=hcs
  exact ⟨none,0,[],rfl,⟨RowR.nil,by simp⟩,by simp,by simp⟩
 ·simp [Value.cells] at hcs
  obtain ⟨rfl,rfl,rfl⟩:=hcs
  simp only [if_true] at hz
  have hlen:(zs.take len).length=len:=by simp; omega
  refine ⟨some a,cap,zs.take len,by rw [hlen],⟨fun h0=>?_,by omega⟩,by omega,fun x hx=>hwz x (List.mem_of_mem_take hx)⟩
  have h1:=hcell 0 (by omega)
  have hz0:a.add 0=a:=by unfold Addr.add; simp
  rw [hz0] at h1
  obtain ⟨e1,e2⟩:=zew h1
  refine ⟨a.block,a.off,by rw [<- e1],e2,fun i x hx=>?_⟩
  rw [List.getElem?_take] at hx
  split at hx
  ·have h2:=hcell i (by omega)
   rw [e1,zj7] at h2
   rw [h2]
   simp [List.getD,hx]
  ·cases hx
theorem zed {W W':World} (hl:laidOutB P=true) (hb:Below W.heap.size W W'):∀ (ts:List TypeId) (vs:List Value) (ds:List (DataW H)) (ps:List MemPlace),(ts.all fun t=>P.readableRec t && decide (t<P.types.size))=true ->
  (∀ x ∈ ps,x.block<W.heap.size)->DataW.TrodAll enc P W 0 (fun _=>true) true ts vs ds ps->∀ sp:Nat->Bool,(∀ x ∈ ps,sp x.block=true)->DataW.TrodAll enc P W' 0 sp true ts vs ds ps
 | [],vs,ds,ps,_,_,h,_,_=>by
  cases vs <;> cases ds <;> simp [DataW.TrodAll] at h ⊢
  exact h
 | t :: ts,vs,ds,ps,hr,hlt,h,sp,hsp=>by
  obtain ⟨v,vs',d,ds',p,q,rfl,rfl,rfl,h1,h2⟩:=trodAll_cons h
  simp only [List.all_cons,Bool.and_eq_true,decide_eq_true_eq] at hr
  refine ⟨p,q,?_,zed hl hb ts vs' ds' q (by simpa using hr.2) (fun x hx=>hlt x (by simp [hx])) h2 sp (fun x hx=>hsp x (by simp [hx])),rfl⟩
  exact WideElems.Trod_stays hl hr.1.1 hr.1.2 h1 (fun x hx=>hb.same (hlt x (by simp [hx]))) (fun x hx=>hsp x (by simp [hx]))
theorem law_post {f:Func} {s:ChangeSpec} {W W':World} {args:Array Value} {ds gs:List (DataW H)} {before:List MemPlace} {tb:TypeId} (hl:laidOutB P=true)
  (hW:DataW.Whole enc P f.params.toList s.vars false W args.toList ds gs before) (hvars:s.vars=[]) (hres:f.resultTypes = #[tb]) (htb:P.underlying tb=some .bool)
  (hr:(f.params.toList.all fun t=>P.readableRec t && decide (t<P.types.size))=true)
  (hfn:s.fn H ds = { results:=[.lit (.bool true)],args:=ds }) (hb:Below W.heap.size W W') :
  s.post enc P f false true false false W args (.bool true) W':=by
 have hW':=hW
 have hlt:∀ p ∈ before,p.block<W.heap.size:=fun p hp=>hW.lt p hp
 obtain ⟨pa,pv,hA,hV,hps,hz,hn⟩:=hW
 rw [hvars] at hV
 obtain ⟨rfl,rfl⟩:=trodVars_none hV
 rw [List.append_nil] at hps
 subst hps
 have hargs:∀ sp:Nat->Bool,(∀ p ∈ before,sp p.block=true)->DataW.TrodAll enc P W' 0 sp true f.params.toList args.toList ds before:=fun sp hsp =>
  zed hl hb _ _ _ _ hr hlt hA sp hsp
 have hres':∀ (b:Nat) (sp:Nat->Bool) (hd:Bool),DataW.TrodAll enc P W' b sp hd f.resultTypes.toList ((Value.bool true).resultList f.resultTypes.size) [.lit (.bool true)] []:=fun b sp hd=>by
  rw [hres]
  exact trodAll_cons_mk (shut_bool htb _) trodAll_mk0
 have hf2:s.fn H (ds ++ []) = { results:=[.lit (.bool true)],args:=ds }:=by rw [List.append_nil]; exact hfn
 have hvr:∀ sp:Nat->Bool,DataW.TrodVars enc P W' sp s.vars (s.fn H (ds ++ [])).vars []:=fun sp=>by rw [hvars,hf2]; rfl
 have hold:∀ p ∈ before,(fun b=>decide (b<W.heap.size)) p.block=true:=fun p hp=>by simpa using hlt p hp
 refine ⟨ds,[],before,[],before,[],hW',by rw [hf2]; exact hres' _ _ _,by rw [hf2]; exact hargs _ hold,hvr _,World.keptBut_mono (fun p hp=>⟨hp,?_⟩) (hb.frame (· ∈ before)),fun h=>by cases h⟩
 exact .inr (by simpa using hp)
end
end Go.Ql
end
section
namespace Go.Ql
open Go Go.RowKit
theorem wf1_u8 {n:Int} (h:(Lit.int .u8 n).wf=true):0 <= n/\n <= 255:=by simpa [Lit.wf,IntKind.min,IntKind.max,IntKind.signed,IntKind.bits] using h
theorem wf1_i64 {n:Int} (h:(Lit.int .i64 n).wf=true):-9223372036854775808 <= n/\n <= 9223372036854775807:=by simpa [Lit.wf,IntKind.min,IntKind.max,IntKind.signed,IntKind.bits] using h
def I64s (c:List Int):Prop:=∀ x ∈ c,-9223372036854775808 <= x/\x <= 9223372036854775807
theorem wf_u8 {c:List Int} (h:∀ x ∈ c,(Lit.int .u8 x).wf=true):Bytes c:=fun x hx=>wf1_u8 (h x hx)
theorem wf_i64 {c:List Int} (h:∀ x ∈ c,(Lit.int .i64 x).wf=true):I64s c:=fun x hx=>wf1_i64 (h x hx)
end Go.Ql
namespace Go.Proofs.YtggblkbecekbdaaGreat
open Go Go.RowKit Go.Ql
theorem own_knob:ownKnob Tryz.prog.godebug=none:=by kernel_rfl
theorem laid_out:laidOutB Tryz.prog=true:=by kernel_rfl
end Go.Proofs.YtggblkbecekbdaaGreat
end
section
namespace Go.Ql
open Go Go.RowKit Go.ChangeShapes Go.WideShapes Go.ChangeAt Go.Deep
section
variable {H:Type} {enc:TypeId × Value->H} {P:Program}
theorem z6p {W:World} {base:Nat} {t e:TypeId} {fuel n c:Nat} {A:Option Addr} {x:DataW H × List MemPlace} {sp:Nat->Bool} {hd:Bool} (ht:P.underlying t=some (.slice e)) (hb:1 <= P.bytesOf e)
  (h:DataW.trod enc P W base sp hd fuel t [.slice A n c]=some x) (hz:(x.1.weights P t).all (· <= reachBytes)=true):n <= 140737488351232:=by
 rcases DataW.trod_slice ht h with ⟨hcs,_⟩ | ⟨a,len,cap,elems,rest,m,_,hcs,rfl,_,_,_,hlen,_⟩
 ·simp at hcs; omega
 ·simp only [List.cons.injEq,Value.slice.injEq,and_true] at hcs
  obtain ⟨_,rfl,_⟩:=hcs
  simp only [DataW.weights,ht,List.all_cons,Bool.and_eq_true,decide_eq_true_eq,List.length_map,hlen] at hz
  have h1:=hz.1
  have h2:n <= n+rest.length:=Nat.le_add_right _ _
  have h3:(n+rest.length) * 1 <= (n+rest.length) * P.bytesOf e:=Nat.mul_le_mul_left _ hb
  unfold reachBytes at h1
  omega
theorem z8k {W:World} {base:Nat} {t e:TypeId} {n c:Nat} {A:Option Addr} {d:DataW H} {p:List MemPlace} {sp:Nat->Bool} {hd:Bool} (ht:P.underlying t=some (.slice e)) (hb:1 <= P.bytesOf e)
  (h:DataW.Trod enc P W base sp hd t (.slice A n c) d p) (hz:(d.weights P t).all (· <= reachBytes)=true):n <= 140737488351232:=by
 obtain ⟨fuel,hf⟩:=h
 exact z6p ht hb hf hz
theorem z4m {t:TypeId} {ts vt:List TypeId} {d:DataW H} {ds gs:List (DataW H)} (h:(DataW.weightsEach P ((t :: ts) ++ vt) ((d :: ds) ++ gs)).all (· <= reachBytes)=true) :
  (d.weights P t).all (· <= reachBytes)=true/\(DataW.weightsEach P (ts ++ vt) (ds ++ gs)).all (· <= reachBytes)=true:=by
 simpa only [List.cons_append,DataW.weightsEach,List.all_append,Bool.and_eq_true] using h
theorem okWide_struct {W:World} {r:Reach} {b0:Nat} {t:TypeId} {fs:Array Field} {v:Value} (ht:P.underlying t=some (.struct fs)) (h:Value.okWide P W r b0 t v):∃ xs:Array Value,v = .agg xs:=by
 simp only [Value.okWide,ht] at h
 obtain ⟨cs,h1,_⟩:=h
 exact ⟨cs,h1⟩
theorem z83 {W:World} {base:Nat} {t e:TypeId} {k:IntKind} {fuel:Nat} {cs:List Value} {x:DataW H × List MemPlace} (ht:P.underlying t=some (.slice e)) (he:P.underlying e=some (.int k)) (hc:P.cellsOf e=1)
  (h:DataW.trod enc P W base (fun _=>true) true fuel t cs=some x) :
  ∃ A c xs,cs=[.slice A xs.length c]/\(RowR (Value.int k) W W.heap.size A xs/\xs.length <= c)/\xs.length <= maxLen/\∀ x ∈ xs,(Lit.int k x).wf=true:=by
 rcases open_ints ht he hc h with ⟨hcs,_⟩ | ⟨a,len',cap',zs,hcs,_,hl,hm,hz,_,hcell,hwz⟩
 ·exact ⟨none,0,[],by simpa using hcs,⟨RowR.nil,by simp⟩,by simp,by simp⟩
 ·simp only [if_true] at hz
  have hlen:(zs.take len').length=len':=by simp; omega
  refine ⟨some a,cap',zs.take len',by rw [hlen]; exact hcs,⟨fun h0=>?_,by omega⟩,by omega,fun x hx=>hwz x (List.mem_of_mem_take hx)⟩
  have h1:=hcell 0 (by omega)
  have hz0:a.add 0=a:=by unfold Addr.add; simp
  rw [hz0] at h1
  obtain ⟨e1,e2⟩:=zew h1
  refine ⟨a.block,a.off,by rw [<- e1],e2,fun i x hx=>?_⟩
  rw [List.getElem?_take] at hx
  split at hx
  ·have h2:=hcell i (by omega)
   rw [e1,zj7] at h2
   rw [h2]
   simp [List.getD,hx]
  ·cases hx
end
end Go.Ql
namespace Go.Proofs.YtggblkbecekbdaaGreat
open Go Go.RowKit Go.Ql
end Go.Proofs.YtggblkbecekbdaaGreat
end
end
section
namespace Go.Ql
open Go Go.RowKit Go.ChangeShapes Go.WideShapes Go.ChangeAt Go.Deep
section
variable {H:Type} {P:Program} {enc:TypeId × Value->H}
theorem trod_struct5 {w:World} {base:Nat} {spare:Nat->Bool} {held:Bool} {t:TypeId} {f0 f1 f2 f3 f4:Field} {fuel:Nat} {cs:List Value} {x:DataW H × List MemPlace} (ht:P.underlying t=some (.struct #[f0,f1,f2,f3,f4])) (h:DataW.trod enc P w base spare held fuel t cs=some x) :
  ∃ y0 y1 y2 y3 y4 n,x=(.agg [y0.1,y1.1,y2.1,y3.1,y4.1],y0.2 ++ (y1.2 ++ (y2.2 ++ (y3.2 ++ y4.2))))/\cs.length=P.cellsOf t/\DataW.trod enc P w base spare held n f0.type ((cs.drop f0.offset).take (P.cellsOf f0.type))=some y0 /\
   DataW.trod enc P w base spare held n f1.type ((cs.drop f1.offset).take (P.cellsOf f1.type))=some y1/\DataW.trod enc P w base spare held n f2.type ((cs.drop f2.offset).take (P.cellsOf f2.type))=some y2 /\
   DataW.trod enc P w base spare held n f3.type ((cs.drop f3.offset).take (P.cellsOf f3.type))=some y3/\DataW.trod enc P w base spare held n f4.type ((cs.drop f4.offset).take (P.cellsOf f4.type))=some y4:=by
 obtain ⟨xs,n,_,rfl,hl,hlen,hf⟩:=DataW.trod_struct ht h
 match xs,hlen with
 | [y0,y1,y2,y3,y4],_=>exact ⟨y0,y1,y2,y3,y4,n,by simp,hl,by simpa using hf 0 f0 rfl,by simpa using hf 1 f1 rfl,by simpa using hf 2 f2 rfl,by simpa using hf 3 f3 rfl,by simpa using hf 4 f4 rfl⟩
theorem dec_bools_cell {W:World} {base:Nat} {t e:TypeId} {fuel:Nat} {cs:List Value} {x:DataW H × List MemPlace} (ht:P.underlying t=some (.slice e)) (he:P.underlying e=some .bool) (hc:P.cellsOf e=1)
  (h:DataW.trod enc P W base (fun _=>true) true fuel t cs=some x) :
  ∃ A c xs,cs=[.slice A xs.length c]/\(RowR Value.bool W W.heap.size A xs/\xs.length <= c)/\xs.length <= maxLen:=by
 rcases open_bools ht he hc h with ⟨hcs,_⟩ | ⟨a,len,cap',B,hcs,_,hl,hm,_,hcell⟩
 ·exact ⟨none,0,[],by simpa using hcs,⟨RowR.nil,by simp⟩,by simp⟩
 ·have hlen:((List.range len).map B).length=len:=by simp
  refine ⟨some a,cap',(List.range len).map B,by rw [hlen]; exact hcs,⟨fun h0=>?_,by omega⟩,by omega⟩
  have h1:=hcell 0 (by omega)
  have hz0:a.add 0=a:=by unfold Addr.add; simp
  rw [hz0] at h1
  obtain ⟨e1,e2⟩:=zew h1
  refine ⟨a.block,a.off,by rw [<- e1],e2,fun i x hx=>?_⟩
  rw [List.getElem?_map] at hx
  by_cases hi:i<len
  ·have h2:=hcell i (by omega)
   rw [e1,zj7] at h2
   rw [h2]
   rw [List.getElem?_range hi] at hx
   simp at hx
   rw [hx]
  ·rw [List.getElem?_eq_none (by simpa using hi)] at hx; cases hx
theorem dec_cert0 {W:World} {base:Nat} {r:Reach} {b0:Nat} {t:TypeId} {g0 g1 g2 g3 g4:Field} {v:Value} {d:DataW H} {p:List MemPlace} (ht:P.underlying t=some (.struct #[g0,g1,g2,g3,g4]))
  (hk:P.underlying g0.type=some (.int .i64)) {e1 e2 e3 e4:TypeId} (h1:P.underlying g1.type=some (.slice e1)) (h2:P.underlying g2.type=some (.slice e2)) (h3:P.underlying g3.type=some (.slice e3)) (h4:P.underlying g4.type=some (.slice e4))
  (i1:P.underlying e1=some (.int .i64)) (i2:P.underlying e2=some (.int .i64)) (i3:P.underlying e3=some .bool) (i4:P.underlying e4=some (.int .i64))
  (b1:1 <= P.bytesOf e1) (b2:1 <= P.bytesOf e2) (b3:1 <= P.bytesOf e3) (b4:1 <= P.bytesOf e4)
  (hg:[P.cellsOf g0.type,P.cellsOf g1.type,P.cellsOf g2.type,P.cellsOf g3.type,P.cellsOf g4.type,g0.offset,g1.offset,g2.offset,g3.offset,g4.offset,P.cellsOf t,P.cellsOf e1,P.cellsOf e2,P.cellsOf e3,P.cellsOf e4]=[1,1,1,1,1,0,1,2,3,4,5,1,1,1,1])
  (hv:Value.okWide P W r b0 t v) (h:DataW.Trod enc P W base (fun _=>true) true t v d p) :
  ∃ A1 c1 A2 c2 A3 c3 A4 c4,∃ (k:Int) (x1 x2:List Int) (x3:List Bool) (x4:List Int),v = .agg #[.int .i64 k,.slice A1 x1.length c1,.slice A2 x2.length c2,.slice A3 x3.length c3,.slice A4 x4.length c4] /\
   (RowR (Value.int .i64) W W.heap.size A1 x1/\x1.length <= c1)/\(RowR (Value.int .i64) W W.heap.size A2 x2/\x2.length <= c2)/\(RowR Value.bool W W.heap.size A3 x3/\x3.length <= c3)/\(RowR (Value.int .i64) W W.heap.size A4 x4/\x4.length <= c4) /\
   (I64s x1/\I64s x2/\I64s x4/\-9223372036854775808 <= k/\k <= 9223372036854775807)/\((d.weights P t).all (· <= reachBytes)=true->x1.length <= 140737488351232/\x2.length <= 140737488351232/\x3.length <= 140737488351232/\x4.length <= 140737488351232):=by
 simp only [List.cons.injEq,and_true] at hg
 obtain ⟨k0,k1,k2,k3,k4,o0,o1,o2,o3,o4,kt,l1,l2,l3,l4⟩:=hg
 obtain ⟨xs,rfl⟩:=okWide_struct ht hv
 obtain ⟨fuel,hf⟩:=h
 obtain ⟨y0,y1,y2,y3,y4,n,hy,hl,q0,q1,q2,q3,q4⟩:=trod_struct5 ht hf
 simp only [Value.cells] at hl q0 q1 q2 q3 q4
 rw [kt] at hl
 obtain ⟨l⟩:=xs
 match l,hl with
 | [u0,u1,u2,u3,u4],_ =>
  simp [o0,o1,o2,o3,o4,k0,k1,k2,k3,k4] at q0 q1 q2 q3 q4
  obtain ⟨A1,c1,s1,e1',R1,m1,w1⟩:=z83 h1 i1 l1 q1
  obtain ⟨A2,c2,s2,e2',R2,m2,w2⟩:=z83 h2 i2 l2 q2
  obtain ⟨A3,c3,s3,e3',R3,m3⟩:=dec_bools_cell h3 i3 l3 q3
  obtain ⟨A4,c4,s4,e4',R4,m4,w4⟩:=z83 h4 i4 l4 q4
  obtain ⟨k,e0',_,w0⟩:=DataW.trod_int hk q0
  simp only [List.cons.injEq,and_true] at e0' e1' e2' e3' e4'
  subst e0' e1' e2' e3' e4'
  refine ⟨A1,c1,A2,c2,A3,c3,A4,c4,k,s1,s2,s3,s4,rfl,R1,R2,R3,R4,⟨wf_i64 w1,wf_i64 w2,wf_i64 w4,wf1_i64 w0⟩,fun hz=>?_⟩
  simp only [Prod.mk.injEq] at hy
  obtain ⟨rfl,_⟩:=hy
  simp only [DataW.weights,ht,List.map_cons,List.map_nil,DataW.weightsEach,List.all_append,Bool.and_eq_true] at hz
  exact ⟨z6p h1 b1 q1 hz.2.1,z6p h2 b2 q2 hz.2.2.1,z6p h3 b3 q3 hz.2.2.2.1,z6p h4 b4 q4 hz.2.2.2.2.1⟩
end
end Go.Ql
namespace Go.Proofs.YtggblkbecekbdaaGreat
open Go Go.RowKit Go.Ql
theorem dec_cert {H:Type} {enc:TypeId × Value->H} {W:World} {base:Nat} {r:Reach} {b0:Nat} {v:Value} {d:DataW H} {p:List MemPlace} (hv:Value.okWide Tryz.prog W r b0 39 v)
  (h:DataW.Trod enc Tryz.prog W base (fun _=>true) true 39 v d p) :
  ∃ A1 c1 A2 c2 A3 c3 A4 c4,∃ (k:Int) (x1 x2:List Int) (x3:List Bool) (x4:List Int),v = .agg #[.int .i64 k,.slice A1 x1.length c1,.slice A2 x2.length c2,.slice A3 x3.length c3,.slice A4 x4.length c4] /\
   (RowR (Value.int .i64) W W.heap.size A1 x1/\x1.length <= c1)/\(RowR (Value.int .i64) W W.heap.size A2 x2/\x2.length <= c2)/\(RowR Value.bool W W.heap.size A3 x3/\x3.length <= c3)/\(RowR (Value.int .i64) W W.heap.size A4 x4/\x4.length <= c4) /\
   (I64s x1/\I64s x2/\I64s x4/\-9223372036854775808 <= k/\k <= 9223372036854775807)/\((d.weights Tryz.prog 39).all (· <= reachBytes)=true->x1.length <= 140737488351232/\x2.length <= 140737488351232/\x3.length <= 140737488351232/\x4.length <= 140737488351232) :=
 dec_cert0 Tryz.underlying39 Tryz.underlying3 Tryz.underlying22 Tryz.underlying22 Tryz.underlying36 Tryz.underlying37 Tryz.underlying2 Tryz.underlying2 Tryz.underlying4 Tryz.underlying3
  (of_decide_eq_true (by kernel_rfl)) (of_decide_eq_true (by kernel_rfl)) (of_decide_eq_true (by kernel_rfl)) (of_decide_eq_true (by kernel_rfl)) (by kernel_rfl) hv h
end Go.Proofs.YtggblkbecekbdaaGreat
end
