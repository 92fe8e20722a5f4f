/- Part of the proof: DE21, FE21, Base, Wrap3. -/
import Derived.Test.YtggblkbecekbdaaGreatZG9
import Derived.Test.YtggblkbecekbdaaGreatZG11
import Derived.Test.YtggblkbecekbdaaGreatZG15
import Derived.Test.YtggblkbecekbdaaGreatZG6
import Derived.Test.YtggblkbecekbdaaGreatZG7
import Derived.Test.YtggblkbecekbdaaGreatZG5
import Derived.Test.YtggblkbecekbdaaGreatZG1
import Derived.Test.YtggblkbecekbdaaGreatProg
import Derived.ProofKit
import Derived.OpenShut
import Derived.ChangeSame
import Derived.Deep.Slices
import Derived.Deep.Grids
import Derived.Test.YtggblkbecekbdaaGreatRows
set_option linter.all false
set_option linter.unusedSimpArgs false
set_option linter.unusedVariables false
set_option maxRecDepth 1000000
section
namespace Go.Proofs.YtggblkbecekbdaaGreat
open Go Go.RowKit Go.Ql Go.Vc
def Odd_r (c:List Int) (d:List Int) (e:List Int):FRes:={ pre:=Bytes c/\Bytes d/\c.length <= maxLen/\d.length <= maxLen/\Bytes e/\e.length <= maxLen,res:=.agg [.row 3,.row 4],rows:=[.row 2 (.ints .i64 (zfr c d e).sup),.row 35 (.arcs (zfr c d e).arcs)],eff:=[] }
def Odd_fs:FS:=fun args h=>match args,h with
 | [.row 0,.row 1,.row 2],[(0,.row false ty0 (.ints .u8 c)),(1,.row false ty1 (.ints .u8 d)),(2,.row false ty2 (.ints .u8 e))]=>some (Odd_r c d e)
 | _,_=>none
def Odd_an (c:List Int) (d:List Int) (e:List Int):List (Nat × Ann):=[(3,{ G:=(Nat),inv:=fun k=>⟨[(2,.row 2),(6,.ptr 5 0 0 0),(7,.ptr 10 0 0 0),(8,.int .i64 k)],[(10,.box true 25 [.row 6,.row 7]),(6,.row true 2 (.ints .i64 (z17 (z09 c d) e k).sup)),(7,.row true 35 (.arcs (z17 (z09 c d) e k).arcs)),(5,.box true 25 [.row 3,.row 4]),(3,.row true 2 (.ints .i64 [])),(4,.row true 35 (.arcs [])),(2,.row false 0 (.ints .u8 e))],11⟩,rel:=fun k0 k=>k <= zhn (z09 c d) e,meas:=fun k=>zhn (z09 c d) e - k })]
def Odd_A:List SV->z0d->List (Nat × Ann):=fun args h=>match args,h with
 | [.row 0,.row 1,.row 2],[(0,.row false ty0 (.ints .u8 c)),(1,.row false ty1 (.ints .u8 d)),(2,.row false ty2 (.ints .u8 e))]=>Odd_an c d e
 | _,_=>[]
def Odd_g:z0c:=[(Inst_n,(true,z03 true zix))]
abbrev Odd_n:Nat:=44
def Odd_I (c:List Int) (d:List Int) (e:List Int):List (Nat × z08):=[]
def Odd_IA:List SV->z0d->List (Nat × z08):=fun _ _=>[]
def Alike_r (c:List Int) (d:List Int):FRes:={ pre:=Bytes c/\Bytes d/\c.length <= maxLen/\d.length <= maxLen,res:=.agg [.row 2,.row 3],rows:=[.row 2 (.ints .i64 (z6c c d).sup),.row 35 (.arcs (z6c c d).arcs)],eff:=[] }
def Alike_fs:FS:=fun args h=>match args,h with
 | [.row 0,.row 1],[(0,.row false ty0 (.ints .u8 c)),(1,.row false ty1 (.ints .u8 d))]=>some (Alike_r c d)
 | _,_=>none
def Alike_an (c:List Int) (d:List Int):List (Nat × Ann):=[(3,{ G:=(Nat),inv:=fun k=>⟨[(1,.row 1),(4,.ptr 4 0 0 0),(5,.ptr 9 0 0 0),(6,.int .i64 k)],[(9,.box true 25 [.row 5,.row 6]),(5,.row true 2 (.ints .i64 (z0j (z09 c d) d k).sup)),(6,.row true 35 (.arcs (z0j (z09 c d) d k).arcs)),(4,.box true 25 [.row 2,.row 3]),(2,.row true 2 (.ints .i64 [])),(3,.row true 35 (.arcs [])),(1,.row false 0 (.ints .u8 d))],10⟩,rel:=fun k0 k=>k <= (z09 c d).arcs.length,meas:=fun k=>(z09 c d).arcs.length - k })]
def Alike_A:List SV->z0d->List (Nat × Ann):=fun args h=>match args,h with
 | [.row 0,.row 1],[(0,.row false ty0 (.ints .u8 c)),(1,.row false ty1 (.ints .u8 d))]=>Alike_an c d
 | _,_=>[]
def Alike_g:z0c:=[(Inst_n,(true,z03 true zix))]
abbrev Alike_n:Nat:=45
def Alike_I (c:List Int) (d:List Int):List (Nat × z08):=[]
def Alike_IA:List SV->z0d->List (Nat × z08):=fun _ _=>[]
def zgu (x:List Int):FRes:={ pre:=YB x/\x.length <= 140737488351232,res:=.bool (true),rows:=[],eff:=[] }
def zcu:FS:=fun args h=>match args,h with
 | [.row 0],[(0,.row false ty0 (.ints .i64 x))]=>some (zgu x)
 | _,_=>none
def zct (x:List Int):List (Nat × Ann):=[(2,{ G:=(Nat),inv:=fun k=>⟨[(0,.row 0),(3,.int .i64 k)],[(0,.row false 0 (.ints .i64 x))],1⟩,rel:=fun k0 k=>k <= x.length,meas:=fun k=>x.length - k })]
def within20_A:List SV->z0d->List (Nat × Ann):=fun args h=>match args,h with
 | [.row 0],[(0,.row false ty0 (.ints .i64 x))]=>zct x
 | _,_=>[]
def zgt:z0c:=[]
abbrev within20_n:Nat:=35
def within20_I (x:List Int):List (Nat × z08):=[]
def within20_IA:List SV->z0d->List (Nat × z08):=fun _ _=>[]
def Any19_r (c:List Int) (d:List Int) (e:List Int) (k:Int):FRel:={ pre:=Bytes c/\Bytes d/\c.length <= maxLen/\d.length <= maxLen/\Bytes e/\e.length <= maxLen/\0 <= k/\k <= 255,G:=(Inst),post:=fun I=>AnyP I,out:=fun I=>{ pre:=True,res:=.agg [.row 3,.row 4],rows:=[.row 2 (.ints .i64 (I).sup),.row 35 (.arcs (I).arcs)],eff:=[] } }
def Any19_fs:FR:=fun args h=>match args,h with
 | [.row 0,.row 1,.row 2,.int .u8 k],[(0,.row false ty0 (.ints .u8 c)),(1,.row false ty1 (.ints .u8 d)),(2,.row false ty2 (.ints .u8 e))]=>some (Any19_r c d e k)
 | _,_=>none
def Any19_an (c:List Int) (d:List Int) (e:List Int) (k:Int):List (Nat × Ann):=[]
def Any19_A:List SV->z0d->List (Nat × Ann):=fun _ _=>[]
def Any19_g:z0c:=[(Odd_n,(true,z03 true Odd_fs)),(Alike_n,(true,z03 true Alike_fs)),(Tree_n,(true,z0l true Tree_fs)),(Still_n,(true,z0l true Still_fs)),(Sparse_n,(true,z0l true zj4))]
abbrev Any19_n:Nat:=13
def Any19_I (c:List Int) (d:List Int) (e:List Int) (k:Int):List (Nat × z08):=[]
def Any19_IA:List SV->z0d->List (Nat × z08):=fun _ _=>[]
def tells_r (I:Inst):FRes:={ pre:=z02 I=0->SmallI I,res:=.bool (true),rows:=[],eff:=[] }
def tells_fs:FS:=fun args h=>match args,h with
 | [.agg [.row 0,.row 1]],[(0,.row false ty0 (.ints .i64 I_s)),(1,.row false ty1 (.arcs I_a))]=>some (tells_r ⟨I_s,I_a⟩)
 | _,_=>none
def tells_an (I:Inst):List (Nat × Ann):=[]
def tells_A:List SV->z0d->List (Nat × Ann):=fun _ _=>[]
def tells_g:z0c:=[(Solve_n,(true,z0l true zhs)),(Kind_n,(true,z0l true Kind_fs)),(z8p,(true,z03 true z5o)),(rSameC_n,(true,z03 true zm2)),(zg0,(true,z03 true z8n)),(within20_n,(true,z03 true zcu))]
abbrev tells_n:Nat:=11
def tells_I (I:Inst):List (Nat × z08):=[]
def tells_IA:List SV->z0d->List (Nat × z08):=fun _ _=>[]
def zkm:FRes:={ pre:=True,res:=.bool (true),rows:=[],eff:=[] }
def zfl:FS:=fun args h=>match args,h with
 | [],[]=>some (zkm)
 | _,_=>none
def known20_an:List (Nat × Ann):=[]
def known20_A:List SV->z0d->List (Nat × Ann):=fun _ _=>[]
def zkl:z0c:=[(Solve_n,(true,z0l true zhs)),(ValueC_n,(true,z03 true zj9)),(Of_n,(true,z03 true Of_fs)),(zg0,(true,z03 true z8n))]
abbrev known20_n:Nat:=10
def known20_I:List (Nat × z08):=[]
def known20_IA:List SV->z0d->List (Nat × z08):=fun _ _=>[]
def Small_r (p:List Int) (d:List Int) (k:Int):FRes:={ pre:=Bytes p/\Bytes d/\p.length <= maxLen/\d.length <= maxLen/\0 <= k/\k <= 255,res:=.agg [.row 2,.row 3],rows:=[.row 2 (.ints .i64 (z3q p d k).sup),.row 35 (.arcs (z3q p d k).arcs)],eff:=[] }
def Small_fs:FS:=fun args h=>match args,h with
 | [.row 0,.row 1,.int .u8 k],[(0,.row false ty0 (.ints .u8 p)),(1,.row false ty1 (.ints .u8 d))]=>some (Small_r p d k)
 | _,_=>none
def Small_an (p:List Int) (d:List Int) (k:Int):List (Nat × Ann):=[]
def Small_A:List SV->z0d->List (Nat × Ann):=fun _ _=>[]
def Small_g:z0c:=[(Inst_n,(true,z03 true zix))]
abbrev Small_n:Nat:=12
def Small_I (p:List Int) (d:List Int) (k:Int):List (Nat × z08):=[]
def Small_IA:List SV->z0d->List (Nat × z08):=fun _ _=>[]
end Go.Proofs.YtggblkbecekbdaaGreat
end
section
namespace Go.Proofs.YtggblkbecekbdaaGreat
open Go Go.RowKit Go.Ql Go.Vc
abbrev Odd_a0 (x:Int) (c:List Int) (d:List Int) (e:List Int) (g:Nat):=(((x.tmod (3:Int) == (0:Int))=true->(z17 (z09 c d) e g).sup.length+(1:Nat) <= 1000000000/\(((True/\(True/\True))/\True)/\((z17 (z09 c d) e g).sup ++ [(0:Int)]=(zfr c d e).sup/\((z17 (z09 c d) e g).arcs=(zfr c d e).arcs/\True))))/\((x.tmod (3:Int) == (0:Int))=false->((True/\(True/\True))/\True)/\((z17 (z09 c d) e g).sup=(zfr c d e).sup/\((z17 (z09 c d) e g).arcs=(zfr c d e).arcs/\True))))
abbrev Odd_a1 (e:List Int):=((True/\(True/\True))/\(z2c Int/\(z2c Arc/\(e=e/\True))))
abbrev Odd_a2 (g:Nat) (g':Nat):=(True/\(0=0/\(0=0/\(IntKind.i64.wrap ((↑g:Int)+(1:Int))=(↑g':Int)/\True))))
abbrev zj0 (c:List Int) (d:List Int) (e:List Int) (g:Nat) (x:Arc) (x_2:Int):=((z17 (z09 c d) e g).sup.set x.dst.toNat (IntKind.i64.wrap (x_2+x.low)))
abbrev zj1 (g:Nat) (c:List Int) (d:List Int) (e:List Int):=((↑g:Int)<↑(z17 (z09 c d) e g).arcs.length)
abbrev Odd_a5 (e:List Int) (c:List Int) (d:List Int) (g:Nat):=(decide ((↑e.length:Int) > 0)=false->((True/\(True/\True))/\True)/\((z17 (z09 c d) e g).sup=(zfr c d e).sup/\((z17 (z09 c d) e g).arcs=(zfr c d e).arcs/\True)))
def Odd_E0 (c : List Int) (d : List Int) (e : List Int) (ty0 ty1 ty2 : TypeId) : Prop :=
   (Bytes c/\(Bytes d/\(c.length <= maxLen/\(d.length <= maxLen))))/\∃ (g0:Nat),(g0 <= zhn (z09 c d) e/\((True/\(0=0/\(0=0/\((0:Int)=↑g0/\True))))/\((True/\(True/\True))/\((z09 c d).sup=(z17 (z09 c d) e g0).sup/\((z09 c d).arcs=(z17 (z09 c d) e g0).arcs/\(Odd_a1 e))))))/\∀ (g:Nat),g <= zhn (z09 c d) e->(decide ((↑g:Int)<↑e.length)=true->(decide (zj1 g c d e)=true->((0:Int) <= ↑g/\(zj1 g c d e))/\(↑g:Int).toNat<(z17 (z09 c d) e g).arcs.length/\∀ (x:Arc),(z17 (z09 c d) e g).arcs[(↑g:Int).toNat]? = some x->((0:Int) <= ↑g/\((↑g:Int)<↑e.length))/\(↑g:Int).toNat<e.length/\∀ (x_1:Int),e[(↑g:Int).toNat]? = some x_1->(6:Int) ≠ (0:Int)/\((x_1.tmod (6:Int) == (0:Int))=true->((0:Int) <= x.dst/\(x.dst<(↑(z17 (z09 c d) e g).sup.length:Int)))/\(x.dst.toNat<(z17 (z09 c d) e g).sup.length/\(∀ (x_2:Int),(z17 (z09 c d) e g).sup[x.dst.toNat]? = some x_2->((0:Int) <= x.dst/\(x.dst<(↑(z17 (z09 c d) e g).sup.length:Int)))/\(x.dst.toNat<(z17 (z09 c d) e g).sup.length/\(((0:Int) <= x.src/\(x.src<(↑(zj0 c d e g x x_2).length:Int)))/\(x.src.toNat<(zj0 c d e g x x_2).length/\(∀ (x_3:Int),(zj0 c d e g x x_2)[x.src.toNat]? = some x_3->((0:Int) <= x.src/\(x.src<(↑(zj0 c d e g x x_2).length:Int)))/\(x.src.toNat<(zj0 c d e g x x_2).length/\(((0:Int) <= ↑g/\(zj1 g c d e))/\((↑g:Int).toNat<(z17 (z09 c d) e g).arcs.length/\(∀ (x_4:Arc),(z17 (z09 c d) e g).arcs[(↑g:Int).toNat]? = some x_4->∃ (g':Nat),g' <= zhn (z09 c d) e/\(zhn (z09 c d) e - g'<zhn (z09 c d) e - g/\((Odd_a2 g g')/\((True/\(True/\True))/\((zj0 c d e g x x_2).set x.src.toNat (IntKind.i64.wrap (x_3 - x.low))=(z17 (z09 c d) e g').sup/\((z17 (z09 c d) e g).arcs.set (↑g:Int).toNat { src:=x_4.src,dst:=x.src,low:=x_4.low,cap:=x_4.cap,cost:=x_4.cost:Arc } = (z17 (z09 c d) e g').arcs/\(Odd_a1 e)))))))))))))))))/\((x_1.tmod (6:Int) == (0:Int))=false->((x_1.tmod (6:Int) == (1:Int))=true->((0:Int) <= ↑g/\(zj1 g c d e))/\((↑g:Int).toNat<(z17 (z09 c d) e g).arcs.length/\(∀ (x_2:Arc),(z17 (z09 c d) e g).arcs[(↑g:Int).toNat]? = some x_2->∃ (g':Nat),g' <= zhn (z09 c d) e/\(zhn (z09 c d) e - g'<zhn (z09 c d) e - g/\((Odd_a2 g g')/\((True/\(True/\True))/\((z17 (z09 c d) e g).sup=(z17 (z09 c d) e g').sup/\((z17 (z09 c d) e g).arcs.set (↑g:Int).toNat { src:=x_2.src,dst:=x_2.dst,low:=x_2.low,cap:=x.low,cost:=x_2.cost:Arc } = (z17 (z09 c d) e g').arcs/\(Odd_a1 e)))))))))/\((x_1.tmod (6:Int) == (1:Int))=false->((x_1.tmod (6:Int) == (2:Int))=true->((0:Int) <= ↑g/\(zj1 g c d e))/\((↑g:Int).toNat<(z17 (z09 c d) e g).arcs.length/\(∀ (x:Arc),(z17 (z09 c d) e g).arcs[(↑g:Int).toNat]? = some x->∃ (g':Nat),g' <= zhn (z09 c d) e/\(zhn (z09 c d) e - g'<zhn (z09 c d) e - g/\((Odd_a2 g g')/\((True/\(True/\True))/\((z17 (z09 c d) e g).sup=(z17 (z09 c d) e g').sup/\((z17 (z09 c d) e g).arcs.set (↑g:Int).toNat { src:=x.src,dst:=x.dst,low:=(0:Int),cap:=x.cap,cost:=x.cost:Arc } = (z17 (z09 c d) e g').arcs/\(Odd_a1 e)))))))))/\((x_1.tmod (6:Int) == (2:Int))=false->∃ (g':Nat),g' <= zhn (z09 c d) e/\(zhn (z09 c d) e - g'<zhn (z09 c d) e - g/\((Odd_a2 g g')/\((True/\(True/\True))/\((z17 (z09 c d) e g).sup=(z17 (z09 c d) e g').sup/\((z17 (z09 c d) e g).arcs=(z17 (z09 c d) e g').arcs/\(Odd_a1 e))))))))))/\(decide (zj1 g c d e)=false->(decide ((↑e.length:Int) > 0)=true->((0:Int) <= 0/\((0:Int)<↑e.length))/\(Int.toNat (0:Int)<e.length/\(∀ (x:Int),e[Int.toNat (0:Int)]? = some x->(3:Int) ≠ (0:Int)/\(Odd_a0 x c d e g))))/\(Odd_a5 e c d g)))/\(decide ((↑g:Int)<↑e.length)=false->(decide ((↑e.length:Int) > 0)=true->((0:Int) <= 0/\((0:Int)<↑e.length))/\(Int.toNat (0:Int)<e.length/\(∀ (x:Int),e[Int.toNat (0:Int)]? = some x->(3:Int) ≠ (0:Int)/\(Odd_a0 x c d e g))))/\(Odd_a5 e c d g))
theorem Odd_q (c:List Int) (d:List Int) (e:List Int) (ty0 ty1 ty2:TypeId):Odd_E0 c d e ty0 ty1 ty2=z2r TT Odd_g (Odd_I c d e) (Odd_an c d e) Tryz.f44 [.row 0,.row 1,.row 2] [(0,.row false ty0 (.ints .u8 c)),(1,.row false ty1 (.ints .u8 d)),(2,.row false ty2 (.ints .u8 e))] (Odd_r c d e):=by kernel_rfl
theorem Odd_E (c:List Int) (d:List Int) (e:List Int) (ty0 ty1 ty2:TypeId) (hp:Bytes c/\Bytes d/\c.length <= maxLen/\d.length <= maxLen/\Bytes e/\e.length <= maxLen):FVc TT Odd_g (Odd_I c d e) (Odd_an c d e) Tryz.f44 [.row 0,.row 1,.row 2] [(0,.row false ty0 (.ints .u8 c)),(1,.row false ty1 (.ints .u8 d)),(2,.row false ty2 (.ints .u8 e))] (Odd_r c d e):=by
 refine FVc.of (Odd_E0 c d e ty0 ty1 ty2) (Odd_q c d e ty0 ty1 ty2) ?_
 unfold Odd_E0
 delta Odd_a5 zj1 zj0 Odd_a2 Odd_a1 Odd_a0
 simp only [eq_self,exists_const,forall_const,ne_eq,Int.toNat_natCast,zSS,z07]
 obtain ⟨b1,b2,b3,b4,b5,b6⟩:=hp
 have hr:=instF_right c d
 have hwi:=(z1n hr).1
 have hlen:=z0e hr
 have har:=z65 c d
 refine ⟨⟨b1,b2,b3,b4⟩,0,⟨by omega,rfl,rfl,rfl⟩,fun g hg=>⟨fun h1=>⟨fun h2=>?_,fun h2=>?_⟩,fun h1=>?_⟩⟩
 ·have hl:=z9q (z09 c d) e g
  rw [hl.2] at h2
  have hgl:g<(z09 c d).arcs.length:=by omega
  have hge:g<e.length:=by omega
  have hN:g+1 <= zhn (z09 c d) e:=by unfold zhn; omega
  have hat:=oddTo_at (z09 c d) e g g (Nat.le_refl _)
  have hw:IntKind.i64.wrap ((g:Int)+1)=((g+1:Nat):Int):=by rw [w64 (by omega) (by omega)]; omega
  refine ⟨⟨by omega,by omega⟩,by omega,fun a ha=>⟨⟨by omega,by omega⟩,hge,fun y hy=>⟨by omega,?_⟩⟩⟩
  have ha2:=ha
  rw [hat] at ha
  obtain ⟨ho,hb1,hb2⟩:=z1r hr (List.mem_of_getElem? ha)
  obtain ⟨q1,q2,q3,q4⟩:=okArc_iff.1 ho
  have hlo:∀ a ∈ (z09 c d).arcs,0 <= a.low/\a.low <= 2:=fun a ha=>by
   have:=z5a c d a ha; exact ⟨this.l0,this.l1⟩
  have hlow:=hlo a (List.mem_of_getElem? ha)
  have hyb:=b5 y (List.mem_of_getElem? hy)
  have e6:y.tmod 6=y % 6:=Int.tmod_eq_emod_of_nonneg hyb.1
  rw [e6]
  have hs:=oddTo_succ ha hy
  have hsw:=z9r (e:=e) hwi (by omega) hlo g (by omega)
  simp only [ha2,Option.some.injEq,forall_eq',hw,hl.1,hl.2,List.length_set]
  refine ⟨fun e0=>⟨⟨by omega,by omega⟩,by omega,fun p hp=>⟨⟨by omega,by omega⟩,by omega,⟨by omega,by omega⟩,by omega,fun q hq=>⟨⟨by omega,by omega⟩,by omega,⟨by omega,by omega⟩,by omega,g+1,hN,by omega,rfl,?_,?_⟩⟩⟩,fun e0=>⟨fun e1=>⟨⟨by omega,by omega⟩,by omega,g+1,hN,by omega,rfl,?_,?_⟩,fun e1=>⟨fun e2=>⟨⟨by omega,by omega⟩,by omega,g+1,hN,by omega,rfl,?_,?_⟩,fun e2=>⟨g+1,hN,by omega,rfl,?_,?_⟩⟩⟩⟩
  ·rw [hs]; dsimp only; unfold zbf; rw [if_pos e0]; exact odd_step hsw (by omega) (by omega) hlow.1 hlow.2 hp hq
  ·rw [hs]; dsimp only; unfold zh8; rw [if_pos e0]
  ·rw [hs]; exact (odd_stay e0).symm
  ·rw [hs]; dsimp only; unfold zh8; rw [if_neg e0,if_pos e1]
  ·rw [hs]; exact (odd_stay e0).symm
  ·rw [hs]; dsimp only; unfold zh8; rw [if_neg e0,if_neg e1,if_pos e2]
  ·rw [hs]; exact (odd_stay e0).symm
  ·rw [hs]; dsimp only; unfold zh8; rw [if_neg e0,if_neg e1,if_neg e2]; exact set_same ha2
 all_goals
  have hl:=z9q (z09 c d) e g
  have hE:=oddF_end (c:=c) (d:=d) (e:=e) (g:=g) (by unfold zhn at *; omega)
  refine ⟨fun h3=>⟨⟨by omega,by omega⟩,by simp; omega,fun x hx=>⟨by omega,?_⟩⟩,fun h3=>hE.2 (by omega)⟩
  have hx0:e[0]? = some x:=hx
  have hxb:=b5 x (List.mem_of_getElem? hx0)
  rw [show x.tmod 3=x % 3 from Int.tmod_eq_emod_of_nonneg hxb.1]
  have h4:=hE.1 (by omega) x hx0
  exact ⟨fun h5=>⟨by omega,h4.1 h5⟩,fun h5=>h4.2 h5⟩
theorem Odd_ok:SpecOk Tryz.prog Odd_n true (z03 true Odd_fs) :=
 z0b z0r (show z1c Tryz.prog Odd_g from z00 Inst_ok (z05)) (by kernel_rfl) mixedOrders Tryz.func44 rfl rfl (by kernel_rfl) (n:=3) (by decide +kernel) (I:=Odd_IA) (fun _ _=>z06) (A:=Odd_A)
  (fun args h r hr=>by
   unfold Odd_fs at hr
   split at hr
   ·rename_i ty0 c ty1 d ty2 e; cases hr; refine ⟨rfl,fun hp=>?_⟩; have hE:=Odd_E c d e ty0 ty1 ty2 hp; exact hE
   ·cases hr)
theorem zid {b x v:Int} {s:List Int} {k:Nat} (hs:Within b s) (hb:0 <= b) (hb2:b <= 1000) (h0:-2 <= x) (h1:x <= 2) (hv:s[k]? = some v):s.set k (IntKind.i64.wrap (v+x))=addAt s k x/\Within (b+2) (addAt s k x):=by
 have:=hs v (List.mem_of_getElem? hv)
 refine ⟨?_,hs.addAt hb k (x:=x) (y:=2) h0 h1⟩
 rw [w64 (by omega) (by omega)]
 unfold addAt; rw [List.getD_eq_getElem?_getD,hv]; rfl
abbrev z82 (c:List Int) (d:List Int) (g:Nat) (x:Arc) (x_3:Int) (x_4:Int):=(((z0j (z09 c d) d g).sup.set x.src.toNat (IntKind.i64.wrap (x_3 - x.low))).set x.dst.toNat (IntKind.i64.wrap (x_4+x.low)))
abbrev zcy (c:List Int) (d:List Int) (g:Nat) (x_2:Arc) (x_7:Arc):=((z0j (z09 c d) d g).arcs.set (↑g:Int).toNat { src:=x_2.src,dst:=x_7.dst,low:=x_7.low,cap:=x_7.cap,cost:=x_7.cost:Arc })
abbrev Alike_a2 (c:List Int) (d:List Int) (g':Nat) (g:Nat):=((z09 c d).arcs.length - g'<(z09 c d).arcs.length - g/\((True/\(0=0/\(0=0/\(IntKind.i64.wrap ((↑g:Int)+(1:Int))=(↑g':Int)/\True))))/\((True/\(True/\True))/\((z0j (z09 c d) d g).sup=(z0j (z09 c d) d g').sup/\((z0j (z09 c d) d g).arcs=(z0j (z09 c d) d g').arcs/\((True/\(True/\True))/\(z2c Int/\(z2c Arc/\(d=d/\True)))))))))
abbrev zcz (c:List Int) (d:List Int) (g:Nat) (x_2:Arc) (x_7:Arc) (x_8:Arc):=((zcy c d g x_2 x_7).set (↑g:Int).toNat { src:=x_8.src,dst:=x_2.dst,low:=x_8.low,cap:=x_8.cap,cost:=x_8.cost:Arc })
abbrev zag (c:List Int) (d:List Int) (g:Nat) (x:Arc) (x_3:Int):=((z0j (z09 c d) d g).sup.set x.src.toNat (IntKind.i64.wrap (x_3 - x.low)))
abbrev z83 (c:List Int) (d:List Int) (g:Nat) (x:Arc) (x_3:Int) (x_4:Int) (x_2:Arc) (x_5:Int):=((z82 c d g x x_3 x_4).set x_2.src.toNat (IntKind.i64.wrap (x_5+x.low)))
def Alike_E0 (c : List Int) (d : List Int) (ty0 ty1 : TypeId) : Prop :=
   (Bytes c/\(Bytes d/\(c.length <= maxLen/\(d.length <= maxLen))))/\∃ (g0:Nat),(g0 <= (z09 c d).arcs.length/\((True/\(0=0/\(0=0/\((0:Int)=↑g0/\True))))/\((True/\(True/\True))/\((z09 c d).sup=(z0j (z09 c d) d g0).sup/\((z09 c d).arcs=(z0j (z09 c d) d g0).arcs/\((True/\(True/\True))/\(z2c Int/\(z2c Arc/\(d=d/\True)))))))))/\∀ (g:Nat),g <= (z09 c d).arcs.length->(decide ((↑g:Int)<↑(z0j (z09 c d) d g).arcs.length)=true->((0:Int) <= ↑g/\((↑g:Int)<↑(z0j (z09 c d) d g).arcs.length))/\(↑g:Int).toNat<(z0j (z09 c d) d g).arcs.length/\∀ (x:Arc),(z0j (z09 c d) d g).arcs[(↑g:Int).toNat]? = some x->(decide ((↑g:Int)<↑d.length)=true->((0:Int) <= ↑g/\((↑g:Int)<↑d.length))/\(↑g:Int).toNat<d.length/\∀ (x_1:Int),d[(↑g:Int).toNat]? = some x_1->(3:Int) ≠ (0:Int)/\(decide (x_1.tmod (3:Int) > 0)=true->(2:Int) ≠ (0:Int)/\((0:Int) <= IntKind.i64.wrap ((↑g:Int).tdiv (2:Int))/\(IntKind.i64.wrap ((↑g:Int).tdiv (2:Int))<(↑(z0j (z09 c d) d g).arcs.length:Int)))/\(IntKind.i64.wrap ((↑g:Int).tdiv (2:Int))).toNat<(z0j (z09 c d) d g).arcs.length/\∀ (x_2:Arc),(z0j (z09 c d) d g).arcs[(IntKind.i64.wrap ((↑g:Int).tdiv (2:Int))).toNat]? = some x_2->((0:Int) <= x.src/\(x.src<(↑(z0j (z09 c d) d g).sup.length:Int)))/\x.src.toNat<(z0j (z09 c d) d g).sup.length/\∀ (x_3:Int),(z0j (z09 c d) d g).sup[x.src.toNat]? = some x_3->((0:Int) <= x.src/\(x.src<(↑(z0j (z09 c d) d g).sup.length:Int)))/\x.src.toNat<(z0j (z09 c d) d g).sup.length/\((0:Int) <= x.dst/\(x.dst<(↑(zag c d g x x_3).length:Int)))/\x.dst.toNat<(zag c d g x x_3).length/\∀ (x_4:Int),(zag c d g x x_3)[x.dst.toNat]? = some x_4->((0:Int) <= x.dst/\(x.dst<(↑(zag c d g x x_3).length:Int)))/\x.dst.toNat<(zag c d g x x_3).length/\((0:Int) <= x_2.src/\(x_2.src<(↑(z82 c d g x x_3 x_4).length:Int)))/\x_2.src.toNat<(z82 c d g x x_3 x_4).length/\∀ (x_5:Int),(z82 c d g x x_3 x_4)[x_2.src.toNat]? = some x_5->((0:Int) <= x_2.src/\(x_2.src<(↑(z82 c d g x x_3 x_4).length:Int)))/\x_2.src.toNat<(z82 c d g x x_3 x_4).length/\((0:Int) <= x_2.dst/\(x_2.dst<(↑(z83 c d g x x_3 x_4 x_2 x_5).length:Int)))/\x_2.dst.toNat<(z83 c d g x x_3 x_4 x_2 x_5).length/\∀ (x_6:Int),(z83 c d g x x_3 x_4 x_2 x_5)[x_2.dst.toNat]? = some x_6->((0:Int) <= x_2.dst/\(x_2.dst<(↑(z83 c d g x x_3 x_4 x_2 x_5).length:Int)))/\x_2.dst.toNat<(z83 c d g x x_3 x_4 x_2 x_5).length/\((0:Int) <= ↑g/\((↑g:Int)<↑(z0j (z09 c d) d g).arcs.length))/\(↑g:Int).toNat<(z0j (z09 c d) d g).arcs.length/\∀ (x_7:Arc),(z0j (z09 c d) d g).arcs[(↑g:Int).toNat]? = some x_7->((0:Int) <= ↑g/\((↑g:Int)<↑(zcy c d g x_2 x_7).length))/\((↑g:Int).toNat<(zcy c d g x_2 x_7).length/\(∀ (x_8:Arc),(zcy c d g x_2 x_7)[(↑g:Int).toNat]? = some x_8->((0:Int) <= ↑g/\((↑g:Int)<↑(zcz c d g x_2 x_7 x_8).length))/\((↑g:Int).toNat<(zcz c d g x_2 x_7 x_8).length/\(∀ (x_9:Arc),(zcz c d g x_2 x_7 x_8)[(↑g:Int).toNat]? = some x_9->∃ (g':Nat),g' <= (z09 c d).arcs.length/\((z09 c d).arcs.length - g'<(z09 c d).arcs.length - g/\((True/\(0=0/\(0=0/\(IntKind.i64.wrap ((↑g:Int)+(1:Int))=(↑g':Int)/\True))))/\((True/\(True/\True))/\((z83 c d g x x_3 x_4 x_2 x_5).set x_2.dst.toNat (IntKind.i64.wrap (x_6 - x.low))=(z0j (z09 c d) d g').sup/\((zcz c d g x_2 x_7 x_8).set (↑g:Int).toNat { src:=x_9.src,dst:=x_9.dst,low:=x_9.low,cap:=x_9.cap,cost:=x_2.cost:Arc } = (z0j (z09 c d) d g').arcs/\((True/\(True/\True))/\(z2c Int/\(z2c Arc/\(d=d/\True))))))))))))))/\(decide (x_1.tmod (3:Int) > 0)=false->∃ (g':Nat),g' <= (z09 c d).arcs.length/\(Alike_a2 c d g' g)))/\(decide ((↑g:Int)<↑d.length)=false->∃ (g':Nat),g' <= (z09 c d).arcs.length/\(Alike_a2 c d g' g)))/\(decide ((↑g:Int)<↑(z0j (z09 c d) d g).arcs.length)=false->((True/\(True/\True))/\True)/\((z0j (z09 c d) d g).sup=(z6c c d).sup/\((z0j (z09 c d) d g).arcs=(z6c c d).arcs/\True)))
theorem Alike_q (c:List Int) (d:List Int) (ty0 ty1:TypeId):Alike_E0 c d ty0 ty1=z2r TT Alike_g (Alike_I c d) (Alike_an c d) Tryz.f45 [.row 0,.row 1] [(0,.row false ty0 (.ints .u8 c)),(1,.row false ty1 (.ints .u8 d))] (Alike_r c d):=by kernel_rfl
theorem Alike_E (c:List Int) (d:List Int) (ty0 ty1:TypeId) (hp:Bytes c/\Bytes d/\c.length <= maxLen/\d.length <= maxLen):FVc TT Alike_g (Alike_I c d) (Alike_an c d) Tryz.f45 [.row 0,.row 1] [(0,.row false ty0 (.ints .u8 c)),(1,.row false ty1 (.ints .u8 d))] (Alike_r c d):=by
 refine FVc.of (Alike_E0 c d ty0 ty1) (Alike_q c d ty0 ty1) ?_
 unfold Alike_E0
 delta z83 zag zcz Alike_a2 zcy z82
 simp only [eq_self,exists_const,forall_const,ne_eq,Int.toNat_natCast,zSS,z07]
 obtain ⟨b1,b2,b3,b4⟩:=hp
 have hs:=z7k c d
 have hn:=z5a c d
 have hwi:=z4i c d
 have har:=z65 c d
 have hnq:=zku d
 have hn2:∀ a ∈ (z09 c d).arcs,a.Nice (z09 c d).sup.length:=by rw [hs]; exact hn
 have hw:∀ j:Nat,j <= 1000000->IntKind.i64.wrap ((j:Int)+1)=((j+1:Nat):Int):=fun j hj=>by rw [w64 (by omega) (by omega)]; omega
 refine ⟨⟨b1,b2,b3,b4⟩,0,⟨by omega,rfl,rfl,rfl⟩,fun g hg=>?_⟩
 have hl:=z52 (z09 c d) d g
 have hat:=zf7 (z09 c d) d g g (Nat.le_refl _)
 have hnk:=z70 (d:=d) hn2 g hg
 obtain ⟨-,hsw⟩:=zbq (d:=d) hn2 hwi (by omega) g hg
 have hdef:z0j (z09 c d) d (g+1)=if g<d.length/\0<d.getD g 0 % 3 then ⟨zd6 ((z09 c d).arcs.getD g default) ((z0j (z09 c d) d g).arcs.getD (g / 2) default) (z0j (z09 c d) d g).sup,(z0j (z09 c d) d g).arcs.set g (alikeArc ((z09 c d).arcs.getD g default) ((z0j (z09 c d) d g).arcs.getD (g / 2) default))⟩ else z0j (z09 c d) d g:=rfl
 have hend:z6c c d=z0j (z09 c d) d (z09 c d).arcs.length:=rfl
 rw [hend]
 generalize hJ:z0j (z09 c d) d g=J at *
 refine ⟨fun h1=>⟨by omega,by omega,fun a ha=>?_⟩,fun h1=>?_⟩
 ·have hgl:g<(z09 c d).arcs.length:=by omega
  rw [hat] at ha
  have hda:(z09 c d).arcs.getD g default=a:=by rw [List.getD_eq_getElem?_getD,ha]; rfl
  have hJa:J.arcs[g]? = some a:=by rw [hat]; exact ha
  have an:=hn2 a (List.mem_of_getElem? ha)
  have a1:=an.s0; have a2:=an.s1; have a3:=an.d0; have a4:=an.d1; have a5:=an.l0; have a6:=an.l1
  have ht:(g:Int).tdiv 2=((g / 2:Nat):Int):=by rw [Int.tdiv_eq_ediv_of_nonneg (by omega)]; omega
  have hwt:IntKind.i64.wrap ((g:Int).tdiv 2)=((g / 2:Nat):Int):=by rw [ht,w64 (by omega) (by omega)]
  rw [hwt]
  obtain ⟨b,hb⟩:∃ b,J.arcs[g / 2]? = some b:=⟨_,List.getElem?_eq_getElem (by omega)⟩
  have hdb:J.arcs.getD (g / 2) default=b:=by rw [List.getD_eq_getElem?_getD,hb]; rfl
  have bn:=hnk b (List.mem_of_getElem? hb)
  have e1:=bn.s0; have e2:=bn.s1; have e3:=bn.d0; have e4:=bn.d1
  rw [hda,hdb] at hdef
  refine ⟨fun h2=>⟨by omega,by omega,fun y hy=>⟨by omega,?_⟩⟩,fun h2=>⟨g+1,by omega,by omega,hw g (by omega),?_⟩⟩
  ·have hyb:=b2 y (List.mem_of_getElem? hy)
   have hy2:d.getD g 0=y:=by rw [List.getD_eq_getElem?_getD,hy]; rfl
   rw [show y.tmod 3=y % 3 from Int.tmod_eq_emod_of_nonneg hyb.1]
   refine ⟨fun h3=>?_,fun h3=>⟨g+1,by omega,by omega,hw g (by omega),?_⟩⟩
   ·rw [if_pos ⟨by omega,by rw [hy2]; omega⟩] at hdef
    simp only [Int.toNat_natCast,List.length_set]
    refine ⟨by omega,by omega,by omega,fun b' hb'=>?_⟩
    rw [hb] at hb'
    cases hb'
    refine ⟨by omega,by omega,fun p hp=>⟨by omega,by omega,by omega,by omega,fun q hq=>⟨by omega,by omega,by omega,by omega,fun r hr=>⟨by omega,by omega,by omega,by omega,fun s hs2=>?_⟩⟩⟩⟩
    rw [show p - a.low=p + -a.low by omega] at hq hr hs2 ⊢
    rw [show s - a.low=s + -a.low by omega]
    obtain ⟨z1,w1⟩:=zid (x:=-a.low) hsw (by omega) (by omega) (by omega) (by omega) hp
    rw [z1] at hq hr hs2 ⊢
    obtain ⟨z2,w2⟩:=zid (x:=a.low) w1 (by omega) (by omega) (by omega) (by omega) hq
    rw [z2] at hr hs2 ⊢
    obtain ⟨z3,w3⟩:=zid (x:=a.low) w2 (by omega) (by omega) (by omega) (by omega) hr
    rw [z3] at hs2 ⊢
    obtain ⟨z4,w4⟩:=zid (x:=-a.low) w3 (by omega) (by omega) (by omega) (by omega) hs2
    rw [z4]
    have gs:∀ (l:List Arc) (v:Arc),g<l.length->(l.set g v)[g]? = some v:=fun l v h=>by rw [List.getElem?_set_self h]
    have gl:g<J.arcs.length:=by omega
    simp only [hJa,gs,gl,List.length_set,Option.some.injEq,forall_eq',List.set_set]
    refine ⟨by omega,by omega,by omega,trivial,by omega,trivial,by omega,trivial,g+1,by omega,by omega,hw g (by omega),?_,?_⟩
    ·rw [hdef]; rfl
    ·rw [hdef]; rfl
   ·rw [hdef,if_neg (by rw [hy2]; omega)]; exact ⟨rfl,rfl⟩
  ·rw [hdef,if_neg (by omega)]; exact ⟨rfl,rfl⟩
 ·have eg:g=(z09 c d).arcs.length:=by omega
  rw [eg] at hJ
  rw [<- hJ]; exact ⟨rfl,rfl⟩
theorem Alike_ok:SpecOk Tryz.prog Alike_n true (z03 true Alike_fs) :=
 z0b z0r (show z1c Tryz.prog Alike_g from z00 Inst_ok (z05)) (by kernel_rfl) mixedOrders Tryz.func45 rfl rfl (by kernel_rfl) (n:=2) (by decide +kernel) (I:=Alike_IA) (fun _ _=>z06) (A:=Alike_A)
  (fun args h r hr=>by
   unfold Alike_fs at hr
   split at hr
   ·rename_i ty0 c ty1 d; cases hr; refine ⟨rfl,fun hp=>?_⟩; have hE:=Alike_E c d ty0 ty1 hp; exact hE
   ·cases hr)
def zcs (x : List Int) (ty0 : TypeId) : Prop :=
      ∃ (g0:Nat),
 (g0 <= x.length/\(True/\(0:Int)=(↑g0:Int)/\True)/\x=x/\True) /\
 ∀ (g:Nat),
 g <= x.length ->
 (decide ((↑g:Int)<(↑x.length:Int))=true ->
 ((0:Int) <= (↑g:Int)/\(↑g:Int)<(↑x.length:Int)) /\
 (↑g:Int).toNat<x.length /\
 ∀ (x_1:Int),
 x[(↑g:Int).toNat]? = some x_1 ->
 (decide (x_1 > (1152921504606846976:Int))=true->(false=true/\True)/\True) /\
 (decide (x_1 > (1152921504606846976:Int))=false ->
 ((0:Int) <= (↑g:Int)/\(↑g:Int)<(↑x.length:Int)) /\
 (↑g:Int).toNat<x.length /\
 ∀ (x_2:Int),
 x[(↑g:Int).toNat]? = some x_2 ->
 (decide (x_2<(-1152921504606846976:Int))=true->(false=true/\True)/\True) /\
 (decide (x_2<(-1152921504606846976:Int))=false ->
 ∃ (g':Nat),
 g' <= x.length/\x.length - g'<x.length - g/\(True/\IntKind.i64.wrap ((↑g:Int)+(1:Int))=(↑g':Int)/\True)/\x=x/\True))) /\
 (decide ((↑g:Int)<(↑x.length:Int))=false->(true=true/\True)/\True)
theorem within20_q (x:List Int) (ty0:TypeId):zcs x ty0=z2r TT zgt (within20_I x) (zct x) Tryz.f35 [.row 0] [(0,.row false ty0 (.ints .i64 x))] (zgu x):=by kernel_rfl
theorem within20_E (x:List Int) (ty0:TypeId) (hp:YB x/\x.length <= 140737488351232):FVc TT zgt (within20_I x) (zct x) Tryz.f35 [.row 0] [(0,.row false ty0 (.ints .i64 x))] (zgu x):=by
 refine FVc.of (zcs x ty0) (within20_q x ty0) ?_
 unfold zcs
 simp only [eq_self,exists_const,forall_const,ne_eq,Int.toNat_natCast,zSS,z07]
 obtain ⟨hY,hl⟩:=hp
 refine ⟨0,⟨Nat.zero_le _,rfl⟩,fun k hk=>⟨fun h1=>⟨⟨by omega,by omega⟩,by omega,fun y hy=>?_⟩,fun _=>trivial⟩⟩
 have hb:=hY y (List.mem_of_getElem? hy)
 refine ⟨fun h=>by omega,fun _=>⟨⟨by omega,by omega⟩,by omega,fun z hz=>?_⟩⟩
 rw [hy] at hz
 cases hz
 exact ⟨fun h=>by omega,fun _=>⟨k+1,by omega,by omega,by rw [w64 (by omega) (by omega)]; omega⟩⟩
theorem within20_ok:SpecOk Tryz.prog within20_n true (z03 true zcu) :=
 z0b z0r (show z1c Tryz.prog zgt from z05) (by kernel_rfl) mixedOrders Tryz.func35 rfl rfl (by kernel_rfl) (n:=1) (by decide +kernel) (I:=within20_IA) (fun _ _=>z06) (A:=within20_A)
  (fun args h r hr=>by
   unfold zcu at hr
   split at hr
   ·rename_i ty0 x; cases hr; refine ⟨rfl,fun hp=>?_⟩; have hE:=within20_E x ty0 hp; exact hE
   ·cases hr)
theorem nice_small {I:Inst} {m:Int} (h:∀ a ∈ I.arcs,a.Nice m) (hw:Within 400 I.sup):SmallI I :=
 ⟨fun y hy=>by have:=hw y hy; omega,fun a ha=>by have h:=h a ha; have:=h.l1; exact ⟨by omega,h.c1.symm.imp_right fun h=>by omega⟩⟩
def Any19_E0 (c : List Int) (d : List Int) (e : List Int) (k : Int) (ty0 ty1 ty2 : TypeId) : Prop :=
      (5:Int) ≠ (0:Int) /\
 ((k.tmod (5:Int) == (0:Int))=true ->
 (Bytes c/\Bytes d/\c.length <= maxLen/\d.length <= maxLen/\Bytes e/\e.length <= maxLen) /\
 ∃ (g:Inst),AnyP g/\((True/\True/\True)/\True)/\(zfr c d e).sup=g.sup/\(zfr c d e).arcs=g.arcs/\True) /\
 ((k.tmod (5:Int) == (0:Int))=false ->
 ((k.tmod (5:Int) == (1:Int))=true ->
 (Bytes c/\Bytes d/\c.length <= maxLen/\d.length <= maxLen) /\
 ∃ (g:Inst),AnyP g/\((True/\True/\True)/\True)/\(z6c c d).sup=g.sup/\(z6c c d).arcs=g.arcs/\True) /\
 ((k.tmod (5:Int) == (1:Int))=false ->
 ((k.tmod (5:Int) == (2:Int))=true ->
 (Bytes c/\Bytes d)/\∀ (g:Inst),FewI g->∃ (g_1:Inst),AnyP g_1/\((True/\True/\True)/\True)/\g.sup=g_1.sup/\g.arcs=g_1.arcs/\True) /\
 ((k.tmod (5:Int) == (2:Int))=false ->
 ((k.tmod (5:Int) == (3:Int))=true ->
 (Bytes c/\Bytes d)/\∀ (g:Inst),FewI g->∃ (g_1:Inst),AnyP g_1/\((True/\True/\True)/\True)/\g.sup=g_1.sup/\g.arcs=g_1.arcs/\True) /\
 ((k.tmod (5:Int) == (3:Int))=false ->
 (Bytes c/\Bytes d)/\∀ (g:Inst),FewI g->∃ (g_1:Inst),AnyP g_1/\((True/\True/\True)/\True)/\g.sup=g_1.sup/\g.arcs=g_1.arcs/\True))))
theorem Any19_q (c:List Int) (d:List Int) (e:List Int) (k:Int) (ty0 ty1 ty2:TypeId):Any19_E0 c d e k ty0 ty1 ty2=z6x TT Any19_g (Any19_I c d e k) (Any19_an c d e k) Tryz.f13 [.row 0,.row 1,.row 2,.int .u8 k] [(0,.row false ty0 (.ints .u8 c)),(1,.row false ty1 (.ints .u8 d)),(2,.row false ty2 (.ints .u8 e))] (Any19_r c d e k):=by kernel_rfl
theorem Any19_E (c:List Int) (d:List Int) (e:List Int) (k:Int) (ty0 ty1 ty2:TypeId) (hp:Bytes c/\Bytes d/\c.length <= maxLen/\d.length <= maxLen/\Bytes e/\e.length <= maxLen/\0 <= k/\k <= 255):FVcR TT Any19_g (Any19_I c d e k) (Any19_an c d e k) Tryz.f13 [.row 0,.row 1,.row 2,.int .u8 k] [(0,.row false ty0 (.ints .u8 c)),(1,.row false ty1 (.ints .u8 d)),(2,.row false ty2 (.ints .u8 e))] (Any19_r c d e k):=by
 refine FVcR.of (Any19_E0 c d e k ty0 ty1 ty2) (Any19_q c d e k ty0 ty1 ty2) ?_
 unfold Any19_E0
 obtain ⟨b1,b2,b3,b4,b5,b6,k0,k1⟩:=hp
 obtain ⟨-,-,-,-,o1,o2⟩:=oddF_all c d e
 obtain ⟨-,-,-,a1,a2⟩:=alikeF_all c d
 simp only [eq_self,exists_const,forall_const,ne_eq,Int.toNat_natCast,zSS,z07]
 have few:∀ g:Inst,FewI g->∃ g_1:Inst,AnyP g_1/\g.sup=g_1.sup/\g.arcs=g_1.arcs:=fun g h=>⟨g,⟨fun _=>h.small⟩,rfl,rfl⟩
 exact ⟨by decide,fun _=>⟨⟨b1,b2,b3,b4,b5,b6⟩,zfr c d e,⟨fun _=>nice_small o1 (o2.more (by omega))⟩,rfl,rfl⟩,fun _=>⟨fun _=>⟨⟨b1,b2,b3,b4⟩,z6c c d,⟨fun _=>nice_small a1 a2⟩,rfl,rfl⟩,fun _=>⟨fun _=>⟨⟨b1,b2⟩,few⟩,fun _=>⟨fun _=>⟨⟨b1,b2⟩,few⟩,fun _=>⟨⟨b1,b2⟩,few⟩⟩⟩⟩⟩
theorem Any19_ok:SpecOk Tryz.prog Any19_n true (z0l true Any19_fs) :=
 z1x z0r (show z1c Tryz.prog Any19_g from z00 Odd_ok (z00 Alike_ok (z00 Tree_ok (z00 Still_ok (z00 Sparse_ok (z05)))))) (by kernel_rfl) mixedOrders Tryz.func13 rfl rfl (by kernel_rfl) (n:=4) (by decide +kernel) (I:=Any19_IA) (fun _ _=>z06) (A:=Any19_A)
  (fun args h r hr=>by
   unfold Any19_fs at hr
   split at hr
   ·rename_i k ty0 c ty1 d ty2 e; cases hr; refine ⟨rfl,fun hp=>?_⟩; have hE:=Any19_E c d e k ty0 ty1 ty2 hp; exact hE
   ·cases hr)
def tells_E0 (I : Inst) (ty0 ty1 : TypeId) : Prop :=
      (z02 I=(0:Int)->SmallI I) /\
 ∀ (g:Cert × Int),
 SolveP I g.1 g.2 ->
 True /\
 ∀ (g_1:Int × Int),
 KindQ I g_1.1 g_1.2 ->
 True /\
 ((z02 I != (0:Int))=true ->
 True /\
 ((IntKind.i64.wrap g.2 == z02 I)=true ->
 ((g.2 == g_1.2)=true ->
 (g.1.flow.length <= (1000000000:Nat) /\
 g.1.pot.length <= (1000000000:Nat)/\g.1.side.length <= (1000000000:Nat)/\g.1.cycle.length <= (1000000000:Nat)) /\
 (decide
 ({ kind:=g.1.kind,flow:=g.1.flow,pot:=g.1.pot,side:=g.1.side,cycle:=g.1.cycle:Cert } =
 { kind:=(0:Int),flow:=[],pot:=[],side:=[],cycle:=[]:Cert }) =
 true ->
 ((g_1.1 == (0:Int))=true/\True)/\True) /\
 (decide
 ({ kind:=g.1.kind,flow:=g.1.flow,pot:=g.1.pot,side:=g.1.side,cycle:=g.1.cycle:Cert } =
 { kind:=(0:Int),flow:=[],pot:=[],side:=[],cycle:=[]:Cert }) =
 false ->
 (false=true/\True)/\True)) /\
 ((g.2 == g_1.2)=false->(false=true/\True)/\True)) /\
 ((IntKind.i64.wrap g.2 == z02 I)=false->(false=true/\True)/\True)) /\
 ((z02 I != (0:Int))=false ->
 ((g.2 == (0:Int))=true ->
 ((g_1.2 == (0:Int))=true ->
 ((g_1.1 == g.1.kind)=true ->
 (z69 { kind:=g.1.kind,flow:=g.1.flow,pot:=g.1.pot,side:=g.1.side,cycle:=g.1.cycle:Cert } /\
 zgy I/\g.1.cycle.length <= (1000000:Nat)) /\
 ((z28 I { kind:=g.1.kind,flow:=g.1.flow,pot:=g.1.pot,side:=g.1.side,cycle:=g.1.cycle:Cert } == (0:Int))=true ->
 (YB g.1.flow/\g.1.flow.length <= (140737488351232:Nat)) /\
 (true=true->(YB g.1.pot/\g.1.pot.length <= (140737488351232:Nat))/\(true=true/\True)/\True) /\
 (true=false->(false=true/\True)/\True)) /\
 ((z28 I { kind:=g.1.kind,flow:=g.1.flow,pot:=g.1.pot,side:=g.1.side,cycle:=g.1.cycle:Cert } == (0:Int))=false ->
 (false=true/\True)/\True)) /\
 ((g_1.1 == g.1.kind)=false->(false=true/\True)/\True)) /\
 ((g_1.2 == (0:Int))=false->(false=true/\True)/\True)) /\
 ((g.2 == (0:Int))=false->(false=true/\True)/\True))
theorem tells_q (I:Inst) (ty0 ty1:TypeId):tells_E0 I ty0 ty1=z2r TT tells_g (tells_I I) (tells_an I) Tryz.f11 [.agg [.row 0,.row 1]] [(0,.row false ty0 (.ints .i64 I.sup)),(1,.row false ty1 (.arcs I.arcs))] (tells_r I):=by kernel_rfl
theorem tells_E (I:Inst) (ty0 ty1:TypeId) (hp:z02 I=0->SmallI I):FVc TT tells_g (tells_I I) (tells_an I) Tryz.f11 [.agg [.row 0,.row 1]] [(0,.row false ty0 (.ints .i64 I.sup)),(1,.row false ty1 (.arcs I.arcs))] (tells_r I):=by
 refine FVc.of (tells_E0 I ty0 ty1) (tells_q I ty0 ty1) ?_
 unfold tells_E0
 simp only [eq_self,exists_const,forall_const,ne_eq,Int.toNat_natCast,zSS,z07]
 refine ⟨hp,?_⟩
 rintro ⟨c,e⟩ hS
 rintro ⟨k,f⟩ hK
 dsimp only at hS hK ⊢
 refine ⟨fun hr=>?_,fun hr=>?_⟩
 ·obtain ⟨rfl,rfl⟩:=hS.bad hr
  obtain ⟨rfl,rfl⟩:=hK.bad hr
  have hb:=zdw I
  rw [w64 (by omega) (by omega)]
  simp
 ·obtain ⟨rfl,hc,hY,hP,-⟩:=hS.ok hr
  obtain ⟨rfl,hk⟩:=hK.ok hr
  obtain ⟨q1,q2,q3⟩:=solve_ok hr hS
  have ek:=kind_same hr hK (value_of hr hS)
  have hi:=inst_ok hr
  have l1:c.cycle.length <= 1000000:=by omega
  have l2:c.flow.length <= 140737488351232:=by omega
  have l3:c.pot.length <= 140737488351232:=by omega
  exact ⟨fun _=>⟨fun _=>⟨fun _=>⟨⟨q1,hi,l1⟩,fun _=>⟨⟨hY,l2⟩,⟨hP,l3⟩,fun h=>by cases h⟩,fun h=>absurd hc h⟩,fun h=>absurd ek h⟩,fun h=>absurd rfl h⟩,fun h=>absurd rfl h⟩
theorem tells_ok:SpecOk Tryz.prog tells_n true (z03 true tells_fs) :=
 z0b z0r (show z1c Tryz.prog tells_g from z00 Solve_ok (z00 Kind_ok (z00 z7q (z00 rSameC_ok (z00 zlq (z00 within20_ok (z05))))))) (by kernel_rfl) mixedOrders Tryz.func11 rfl rfl (by kernel_rfl) (n:=1) (by decide +kernel) (I:=tells_IA) (fun _ _=>z06) (A:=tells_A)
  (fun args h r hr=>by
   unfold tells_fs at hr
   split at hr
   ·rename_i ty0 I_s ty1 I_a; cases hr; refine ⟨rfl,fun hp=>?_⟩; have hE:=tells_E ⟨I_s,I_a⟩ ty0 ty1 hp; exact hE
   ·cases hr)
abbrev z7l (g:Cert × Int):=(z5r { sup:=[(3:Int),(-3:Int)],arcs:=[{ src:=(0:Int),dst:=(1:Int),low:=(0:Int),cap:=(2:Int),cost:=(1:Int):Arc },{ src:=(0:Int),dst:=(1:Int),low:=(0:Int),cap:=(2:Int),cost:=(5:Int):Arc }]:Inst } { kind:=g.1.kind,flow:=g.1.flow,pot:=g.1.pot,side:=g.1.side,cycle:=g.1.cycle:Cert })
def zfk : Prop :=
   (z02 { sup:=[(3:Int),(-3:Int)],arcs:=[{ src:=(0:Int),dst:=(1:Int),low:=(0:Int),cap:=(2:Int),cost:=(1:Int):Arc },{ src:=(0:Int),dst:=(1:Int),low:=(0:Int),cap:=(2:Int),cost:=(5:Int):Arc }]:Inst } = (0:Int)->SmallI { sup:=[(3:Int),(-3:Int)],arcs:=[{ src:=(0:Int),dst:=(1:Int),low:=(0:Int),cap:=(2:Int),cost:=(1:Int):Arc },{ src:=(0:Int),dst:=(1:Int),low:=(0:Int),cap:=(2:Int),cost:=(5:Int):Arc }]:Inst })/\∀ (g:Cert × Int),SolveP { sup:=[(3:Int),(-3:Int)],arcs:=[{ src:=(0:Int),dst:=(1:Int),low:=(0:Int),cap:=(2:Int),cost:=(1:Int):Arc },{ src:=(0:Int),dst:=(1:Int),low:=(0:Int),cap:=(2:Int),cost:=(5:Int):Arc }]:Inst } g.1 g.2->(z69 { kind:=g.1.kind,flow:=g.1.flow,pot:=g.1.pot,side:=g.1.side,cycle:=g.1.cycle:Cert }/\(zgy { sup:=[(3:Int),(-3:Int)],arcs:=[{ src:=(0:Int),dst:=(1:Int),low:=(0:Int),cap:=(2:Int),cost:=(1:Int):Arc },{ src:=(0:Int),dst:=(1:Int),low:=(0:Int),cap:=(2:Int),cost:=(5:Int):Arc }]:Inst }))/\((g.2 == (0:Int))=true->((g.1.kind == (1:Int))=true->(decide (g.1.kind=(1:Int))=true->I64 (7:Int)/\((decide ([(z7l g).hi,(z7l g).lo]=[(W (7:Int)).hi,(W (7:Int)).lo])=true->(z69 { kind:=g.1.kind,flow:=g.1.flow,pot:=g.1.pot,side:=g.1.side,cycle:=g.1.cycle:Cert }/\(zgy { sup:=[(3:Int),(-3:Int)],arcs:=[{ src:=(0:Int),dst:=(1:Int),low:=(0:Int),cap:=(2:Int),cost:=(1:Int):Arc },{ src:=(0:Int),dst:=(1:Int),low:=(0:Int),cap:=(2:Int),cost:=(5:Int):Arc }]:Inst }/\(g.1.cycle.length <= (1000000:Nat))))/\(((z28 { sup:=[(3:Int),(-3:Int)],arcs:=[{ src:=(0:Int),dst:=(1:Int),low:=(0:Int),cap:=(2:Int),cost:=(1:Int):Arc },{ src:=(0:Int),dst:=(1:Int),low:=(0:Int),cap:=(2:Int),cost:=(5:Int):Arc }]:Inst } { kind:=g.1.kind,flow:=g.1.flow,pot:=g.1.pot,side:=g.1.side,cycle:=g.1.cycle:Cert } == (0:Int))=true/\True)/\True))/\(decide ([(z7l g).hi,(z7l g).lo]=[(W (7:Int)).hi,(W (7:Int)).lo])=false->(false=true/\True)/\True)))/\(decide (g.1.kind=(1:Int))=false->(false=true/\True)/\True))/\((g.1.kind == (1:Int))=false->(false=true/\True)/\True))/\((g.2 == (0:Int))=false->(false=true/\True)/\True)
theorem known20_q:zfk=z2r TT zkl (known20_I) (known20_an) Tryz.f10 [] [] (zkm):=by kernel_rfl
theorem known20_E (hp:True):FVc TT zkl (known20_I) (known20_an) Tryz.f10 [] [] (zkm):=by
 refine FVc.of (zfk) (known20_q) ?_
 unfold zfk
 delta z7l
 simp only [eq_self,exists_const,forall_const,ne_eq,Int.toNat_natCast,zSS,z07]
 have hr:z02 ⟨[3,-3],[⟨0,1,0,2,1⟩,⟨0,1,0,2,5⟩]⟩=0:=by decide
 have hsm:SmallI ⟨[3,-3],[⟨0,1,0,2,1⟩,⟨0,1,0,2,5⟩]⟩:=⟨by simp,by simp⟩
 have hc0:z28 ⟨[3,-3],[⟨0,1,0,2,1⟩,⟨0,1,0,2,5⟩]⟩ ⟨1,[2,1],[5,0],[],[]⟩=0:=by decide
 have hv0:z5r ⟨[3,-3],[⟨0,1,0,2,1⟩,⟨0,1,0,2,5⟩]⟩ ⟨1,[2,1],[5,0],[],[]⟩=W 7:=by decide
 have h0:z69 ⟨1,[2,1],[5,0],[],[]⟩:=by simp [z69,A64,I64]
 have hi:=inst_ok hr
 generalize (⟨[3,-3],[⟨0,1,0,2,1⟩,⟨0,1,0,2,5⟩]⟩:Inst)=I at *
 refine ⟨fun _=>hsm,?_⟩
 rintro ⟨c,e⟩ hS
 obtain ⟨q1,q2,q3⟩:=solve_ok hr hS
 obtain ⟨hk,hv⟩:=cert_one q1 h0 q2 hc0
 have he:=(hS.ok hr).1
 rw [hv0] at hv
 dsimp only at he hk hv q1 q2 q3 ⊢
 rw [hv]
 exact ⟨⟨q1,hi⟩,fun _=>⟨fun _=>⟨fun _=>⟨by unfold I64; omega,fun _=>⟨⟨q1,hi,by omega⟩,q2⟩,fun h=>absurd rfl h⟩,fun h=>absurd hk h⟩,fun h=>absurd hk h⟩,fun h=>absurd he h⟩
theorem known20_ok:SpecOk Tryz.prog known20_n true (z03 true zfl) :=
 z0b z0r (show z1c Tryz.prog zkl from z00 Solve_ok (z00 ValueC_ok (z00 Of_ok (z00 zlq (z05))))) (by kernel_rfl) mixedOrders Tryz.func10 rfl rfl (by kernel_rfl) (n:=0) (by decide +kernel) (I:=known20_IA) (fun _ _=>z06) (A:=known20_A)
  (fun args h r hr=>by
   unfold zfl at hr
   split at hr
   ·cases hr; refine ⟨rfl,fun hp=>?_⟩; have hE:=known20_E  hp; exact hE
   ·cases hr)
def Small_E0 (p : List Int) (d : List Int) (k : Int) (ty0 ty1 : TypeId) : Prop :=
      (Bytes p/\Bytes d/\p.length <= maxLen/\d.length <= maxLen) /\
 (↑(z09 p d).sup.length:Int) ≠ (0:Int) /\
 ((0:Int) <= (IntKind.i64.wrap k).tmod (↑(z09 p d).sup.length:Int)/\(IntKind.i64.wrap k).tmod (↑(z09 p d).sup.length:Int)<(↑(z09 p d).sup.length:Int)) /\
 ((IntKind.i64.wrap k).tmod (↑(z09 p d).sup.length:Int)).toNat<(z09 p d).sup.length /\
 ∀ (x:Int),
 (z09 p d).sup[((IntKind.i64.wrap k).tmod (↑(z09 p d).sup.length:Int)).toNat]? = some x ->
 (5:Int) ≠ (0:Int) /\
 ((0:Int) <= (IntKind.i64.wrap k).tmod (↑(z09 p d).sup.length:Int) /\
 (IntKind.i64.wrap k).tmod (↑(z09 p d).sup.length:Int)<(↑(z09 p d).sup.length:Int)) /\
 ((IntKind.i64.wrap k).tmod (↑(z09 p d).sup.length:Int)).toNat<(z09 p d).sup.length /\
 (5:Int) ≠ (0:Int) /\
 (↑(z09 p d).sup.length:Int) ≠ (0:Int) /\
 ((0:Int) <= (IntKind.i64.wrap (IntKind.u8.wrap (k.tdiv (5:Int)))).tmod (↑(z09 p d).sup.length:Int) /\
 (IntKind.i64.wrap (IntKind.u8.wrap (k.tdiv (5:Int)))).tmod (↑(z09 p d).sup.length:Int) <
 (↑((z09 p d).sup.set ((IntKind.i64.wrap k).tmod (↑(z09 p d).sup.length:Int)).toNat
 (IntKind.i64.wrap (x+IntKind.i64.wrap (k.tmod (5:Int))))).length :
 Int)) /\
 ((IntKind.i64.wrap (IntKind.u8.wrap (k.tdiv (5:Int)))).tmod (↑(z09 p d).sup.length:Int)).toNat <
 ((z09 p d).sup.set ((IntKind.i64.wrap k).tmod (↑(z09 p d).sup.length:Int)).toNat
 (IntKind.i64.wrap (x+IntKind.i64.wrap (k.tmod (5:Int))))).length /\
 ∀ (x_1:Int),
 ((z09 p d).sup.set ((IntKind.i64.wrap k).tmod (↑(z09 p d).sup.length:Int)).toNat
 (IntKind.i64.wrap
 (x +
 IntKind.i64.wrap
 (k.tmod (5:Int)))))[((IntKind.i64.wrap (IntKind.u8.wrap (k.tdiv (5:Int)))).tmod (↑(z09 p d).sup.length:Int)).toNat]? =
 some x_1 ->
 (5:Int) ≠ (0:Int) /\
 ((0:Int) <= (IntKind.i64.wrap (IntKind.u8.wrap (k.tdiv (5:Int)))).tmod (↑(z09 p d).sup.length:Int) /\
 (IntKind.i64.wrap (IntKind.u8.wrap (k.tdiv (5:Int)))).tmod (↑(z09 p d).sup.length:Int) <
 (↑((z09 p d).sup.set ((IntKind.i64.wrap k).tmod (↑(z09 p d).sup.length:Int)).toNat
 (IntKind.i64.wrap (x+IntKind.i64.wrap (k.tmod (5:Int))))).length :
 Int)) /\
 ((IntKind.i64.wrap (IntKind.u8.wrap (k.tdiv (5:Int)))).tmod (↑(z09 p d).sup.length:Int)).toNat <
 ((z09 p d).sup.set ((IntKind.i64.wrap k).tmod (↑(z09 p d).sup.length:Int)).toNat
 (IntKind.i64.wrap (x+IntKind.i64.wrap (k.tmod (5:Int))))).length /\
 ((True/\True/\True)/\True) /\
 ((z09 p d).sup.set ((IntKind.i64.wrap k).tmod (↑(z09 p d).sup.length:Int)).toNat
 (IntKind.i64.wrap (x+IntKind.i64.wrap (k.tmod (5:Int))))).set
 ((IntKind.i64.wrap (IntKind.u8.wrap (k.tdiv (5:Int)))).tmod (↑(z09 p d).sup.length:Int)).toNat
 (IntKind.i64.wrap (x_1 - IntKind.i64.wrap (k.tmod (5:Int)))) =
 (z3q p d k).sup /\
 (z09 p d).arcs=(z3q p d k).arcs/\True
theorem Small_q (p:List Int) (d:List Int) (k:Int) (ty0 ty1:TypeId):Small_E0 p d k ty0 ty1=z2r TT Small_g (Small_I p d k) (Small_an p d k) Tryz.f12 [.row 0,.row 1,.int .u8 k] [(0,.row false ty0 (.ints .u8 p)),(1,.row false ty1 (.ints .u8 d))] (Small_r p d k):=by kernel_rfl
theorem Small_E (p:List Int) (d:List Int) (k:Int) (ty0 ty1:TypeId) (hp:Bytes p/\Bytes d/\p.length <= maxLen/\d.length <= maxLen/\0 <= k/\k <= 255):FVc TT Small_g (Small_I p d k) (Small_an p d k) Tryz.f12 [.row 0,.row 1,.int .u8 k] [(0,.row false ty0 (.ints .u8 p)),(1,.row false ty1 (.ints .u8 d))] (Small_r p d k):=by
 refine FVc.of (Small_E0 p d k ty0 ty1) (Small_q p d k ty0 ty1) ?_
 unfold Small_E0
 simp only [eq_self,exists_const,forall_const,ne_eq,Int.toNat_natCast,zSS,z07]
 obtain ⟨p1,p2,p3,p4,k0,k1⟩:=hp
 have l1:=z7k p d
 have l2:=z9l d
 have l3:=zku d
 have hw:=z4i p d
 have e1:IntKind.i64.wrap k=k:=w64 (by omega) (by omega)
 have e2:IntKind.i64.wrap (IntKind.u8.wrap (k.tdiv 5))=k / 5:=by rw [Int.tdiv_eq_ediv_of_nonneg k0,wu8 (by omega) (by omega),w64 (by omega) (by omega)]
 have e3:IntKind.i64.wrap (k.tmod 5)=k % 5:=by rw [Int.tmod_eq_emod_of_nonneg k0,w64 (by omega) (by omega)]
 rw [e1,e2,e3]
 show _
 unfold z3q
 dsimp only
 generalize (z09 p d).sup=s at *
 have hm:∀ x:Int,0 <= x->x.tmod (s.length:Int)=((x % (s.length:Int)).toNat:Nat)/\(x % (s.length:Int)).toNat<s.length:=fun x hx=>by
  have:=Int.emod_nonneg x (b:=(s.length:Int)) (by omega)
  have:=Int.emod_lt_of_pos x (b:=(s.length:Int)) (by omega)
  rw [Int.tmod_eq_emod_of_nonneg hx]
  omega
 have m1:=hm k k0
 have m2:=hm (k / 5) (by omega)
 rw [m1.1,m2.1]
 unfold turnS
 generalize (k % (s.length:Int)).toNat=i at *
 generalize (k / 5 % (s.length:Int)).toNat=j at *
 simp only [Int.toNat_natCast,List.length_set]
 refine ⟨⟨p1,p2,p3,p4⟩,by omega,by omega,by omega,fun x hx=>⟨by omega,by omega,by omega,by omega,by omega,by omega,by omega,fun y hy=>⟨by omega,by omega,by omega,?_,trivial⟩⟩⟩
 have hx2:=hw x (List.mem_of_getElem? hx)
 have hs1:IntKind.i64.wrap (x+k % 5)=x+k % 5:=w64 (by omega) (by omega)
 rw [hs1,ze1 hx] at hy ⊢
 have hw1:=hw.addAt (by omega) i (x:=k % 5) (y:=4) (by omega) (by omega)
 have hy2:=hw1 y (List.mem_of_getElem? hy)
 rw [w64 (by omega) (by omega),show y - k % 5=y + -(k % 5) by omega,ze1 hy]
theorem Small_ok:SpecOk Tryz.prog Small_n true (z03 true Small_fs) :=
 z0b z0r (show z1c Tryz.prog Small_g from z00 Inst_ok (z05)) (by kernel_rfl) mixedOrders Tryz.func12 rfl rfl (by kernel_rfl) (n:=3) (by decide +kernel) (I:=Small_IA) (fun _ _=>z06) (A:=Small_A)
  (fun args h r hr=>by
   unfold Small_fs at hr
   split at hr
   ·rename_i k ty0 p ty1 d; cases hr; refine ⟨rfl,fun hp=>?_⟩; have hE:=Small_E p d k ty0 ty1 hp; exact hE
   ·cases hr)
open Go.Draw
end Go.Proofs.YtggblkbecekbdaaGreat
end
section
section
namespace Go.Ql
open Go Go.RowKit Go.ChangeShapes Go.WideShapes Go.ChangeAt Go.Deep
section
variable {H:Type} {enc:TypeId × Value->H} {P:Program}
theorem zf6 {w:World} {a:Addr} {v:Value} (h:w.cell? a=some v):a=⟨a.block,a.off,none⟩/\a.block<w.heap.size:=by
 refine ⟨?_,World.block_lt_of_cell? w a h⟩
 obtain ⟨b,o,s⟩:=a
 cases s with
 | none=>rfl
 | some s =>
  exfalso
  unfold World.cell? at h
  split at h <;> simp at h
theorem zja (b o i:Nat):(⟨b,o,none⟩:Addr).add i=⟨b,o+i,none⟩:=by
 unfold Addr.add
 split
 ·rename_i h; simp_all
 ·rfl
theorem dec_ints {W:World} {base:Nat} {r:Reach} {b0:Nat} {t e:TypeId} {k:IntKind} {v:Value} {d:DataW H} {p:List MemPlace} (ht:P.underlying t=some (.slice e)) (he:P.underlying e=some (.int k)) (hc:P.cellsOf e=1)
  (hv:Value.okWide P W r b0 t v) (h:DataW.Trod enc P W base (fun _=>true) true t v d p) :
  ∃ A c xs,v = .slice A xs.length c/\(RowR (Value.int k) W W.heap.size A xs/\xs.length <= c)/\xs.length <= maxLen/\∀ x ∈ xs,(Lit.int k x).wf=true:=by
 obtain ⟨a0,len,cap,rfl⟩:=okWide_slice ht hv
 obtain ⟨fuel,hf⟩:=h
 rcases open_ints ht he hc hf with ⟨hcs,_⟩ | ⟨a,len',cap',zs,hcs,_,hl,hm,hz,_,hcell,hwz⟩
 ·simp [Value.cells] at hcs
  obtain ⟨rfl,rfl,rfl⟩:=hcs
  exact ⟨none,0,[],rfl,⟨RowR.nil,by simp⟩,by simp,by simp⟩
 ·simp [Value.cells] at hcs
  obtain ⟨rfl,rfl,rfl⟩:=hcs
  simp only [if_true] at hz
  have hlen:(zs.take len).length=len:=by simp; omega
  refine ⟨some a,cap,zs.take len,by rw [hlen],⟨fun h0=>?_,by omega⟩,by omega,fun x hx=>hwz x (List.mem_of_mem_take hx)⟩
  have h1:=hcell 0 (by omega)
  have hz0:a.add 0=a:=by unfold Addr.add; simp
  rw [hz0] at h1
  obtain ⟨e1,e2⟩:=zf6 h1
  refine ⟨a.block,a.off,by rw [<- e1],e2,fun i x hx=>?_⟩
  rw [List.getElem?_take] at hx
  split at hx
  ·have h2:=hcell i (by omega)
   rw [e1,zja] at h2
   rw [h2]
   simp [List.getD,hx]
  ·cases hx
theorem zet {W W':World} (hl:laidOutB P=true) (hb:Below W.heap.size W W'):∀ (ts:List TypeId) (vs:List Value) (ds:List (DataW H)) (ps:List MemPlace),(ts.all fun t=>P.readableRec t && decide (t<P.types.size))=true ->
  (∀ x ∈ ps,x.block<W.heap.size)->DataW.TrodAll enc P W 0 (fun _=>true) true ts vs ds ps->∀ sp:Nat->Bool,(∀ x ∈ ps,sp x.block=true)->DataW.TrodAll enc P W' 0 sp true ts vs ds ps
 | [],vs,ds,ps,_,_,h,_,_=>by
  cases vs <;> cases ds <;> simp [DataW.TrodAll] at h ⊢
  exact h
 | t :: ts,vs,ds,ps,hr,hlt,h,sp,hsp=>by
  obtain ⟨v,vs',d,ds',p,q,rfl,rfl,rfl,h1,h2⟩:=trodAll_cons h
  simp only [List.all_cons,Bool.and_eq_true,decide_eq_true_eq] at hr
  refine ⟨p,q,?_,zet hl hb ts vs' ds' q (by simpa using hr.2) (fun x hx=>hlt x (by simp [hx])) h2 sp (fun x hx=>hsp x (by simp [hx])),rfl⟩
  exact WideElems.Trod_stays hl hr.1.1 hr.1.2 h1 (fun x hx=>hb.same (hlt x (by simp [hx]))) (fun x hx=>hsp x (by simp [hx]))
theorem law_post {f:Func} {s:ChangeSpec} {W W':World} {args:Array Value} {ds gs:List (DataW H)} {before:List MemPlace} {tb:TypeId} (hl:laidOutB P=true)
  (hW:DataW.Whole enc P f.params.toList s.vars false W args.toList ds gs before) (hvars:s.vars=[]) (hres:f.resultTypes = #[tb]) (htb:P.underlying tb=some .bool)
  (hr:(f.params.toList.all fun t=>P.readableRec t && decide (t<P.types.size))=true)
  (hfn:s.fn H ds = { results:=[.lit (.bool true)],args:=ds }) (hb:Below W.heap.size W W') :
  s.post enc P f false true false false W args (.bool true) W':=by
 have hW':=hW
 have hlt:∀ p ∈ before,p.block<W.heap.size:=fun p hp=>hW.lt p hp
 obtain ⟨pa,pv,hA,hV,hps,hz,hn⟩:=hW
 rw [hvars] at hV
 obtain ⟨rfl,rfl⟩:=trodVars_none hV
 rw [List.append_nil] at hps
 subst hps
 have hargs:∀ sp:Nat->Bool,(∀ p ∈ before,sp p.block=true)->DataW.TrodAll enc P W' 0 sp true f.params.toList args.toList ds before:=fun sp hsp =>
  zet hl hb _ _ _ _ hr hlt hA sp hsp
 have hres':∀ (b:Nat) (sp:Nat->Bool) (hd:Bool),DataW.TrodAll enc P W' b sp hd f.resultTypes.toList ((Value.bool true).resultList f.resultTypes.size) [.lit (.bool true)] []:=fun b sp hd=>by
  rw [hres]
  exact trodAll_cons_mk (shut_bool htb _) trodAll_mk0
 have hf2:s.fn H (ds ++ []) = { results:=[.lit (.bool true)],args:=ds }:=by rw [List.append_nil]; exact hfn
 have hvr:∀ sp:Nat->Bool,DataW.TrodVars enc P W' sp s.vars (s.fn H (ds ++ [])).vars []:=fun sp=>by rw [hvars,hf2]; rfl
 have hold:∀ p ∈ before,(fun b=>decide (b<W.heap.size)) p.block=true:=fun p hp=>by simpa using hlt p hp
 refine ⟨ds,[],before,[],before,[],hW',by rw [hf2]; exact hres' _ _ _,by rw [hf2]; exact hargs _ hold,hvr _,World.keptBut_mono (fun p hp=>⟨hp,?_⟩) (hb.frame (· ∈ before)),fun h=>by cases h⟩
 exact .inr (by simpa using hp)
end
end Go.Ql
end
section
namespace Go.Ql
open Go Go.RowKit
theorem wf1_u8 {n:Int} (h:(Lit.int .u8 n).wf=true):0 <= n/\n <= 255:=by simpa [Lit.wf,IntKind.min,IntKind.max,IntKind.signed,IntKind.bits] using h
theorem zgs {n:Int} (h:(Lit.int .i64 n).wf=true):-9223372036854775808 <= n/\n <= 9223372036854775807:=by simpa [Lit.wf,IntKind.min,IntKind.max,IntKind.signed,IntKind.bits] using h
def I64s (c:List Int):Prop:=∀ x ∈ c,-9223372036854775808 <= x/\x <= 9223372036854775807
theorem wf_u8 {c:List Int} (h:∀ x ∈ c,(Lit.int .u8 x).wf=true):Bytes c:=fun x hx=>wf1_u8 (h x hx)
theorem wf_i64 {c:List Int} (h:∀ x ∈ c,(Lit.int .i64 x).wf=true):I64s c:=fun x hx=>zgs (h x hx)
end Go.Ql
namespace Go.Proofs.YtggblkbecekbdaaGreat
open Go Go.RowKit Go.Ql
theorem own_knob:ownKnob Tryz.prog.godebug=none:=by kernel_rfl
theorem laid_out:laidOutB Tryz.prog=true:=by kernel_rfl
end Go.Proofs.YtggblkbecekbdaaGreat
end
section
namespace Go.Ql
open Go Go.RowKit Go.ChangeShapes Go.WideShapes Go.ChangeAt Go.Deep
def Arc.Wf (a:Arc):Prop:=(-9223372036854775808 <= a.src/\a.src <= 9223372036854775807)/\(-9223372036854775808 <= a.dst/\a.dst <= 9223372036854775807)/\(-9223372036854775808 <= a.low/\a.low <= 9223372036854775807) /\
 (-9223372036854775808 <= a.cap/\a.cap <= 9223372036854775807)/\(-9223372036854775808 <= a.cost/\a.cost <= 9223372036854775807)
def Inst.Wf (I:Inst):Prop:=I64s I.sup/\(∀ a ∈ I.arcs,a.Wf)/\I.sup.length <= maxLen/\I.arcs.length <= maxLen
section
variable {H:Type} {enc:TypeId × Value->H} {P:Program}
theorem zcm {W:World} {base:Nat} {t e:TypeId} {fuel n c:Nat} {A:Option Addr} {x:DataW H × List MemPlace} {sp:Nat->Bool} {hd:Bool} (ht:P.underlying t=some (.slice e)) (hb:1 <= P.bytesOf e)
  (h:DataW.trod enc P W base sp hd fuel t [.slice A n c]=some x) (hz:(x.1.weights P t).all (· <= reachBytes)=true):n <= 140737488351232:=by
 rcases DataW.trod_slice ht h with ⟨hcs,_⟩ | ⟨a,len,cap,elems,rest,m,_,hcs,rfl,_,_,_,hlen,_⟩
 ·simp at hcs; omega
 ·simp only [List.cons.injEq,Value.slice.injEq,and_true] at hcs
  obtain ⟨_,rfl,_⟩:=hcs
  simp only [DataW.weights,ht,List.all_cons,Bool.and_eq_true,decide_eq_true_eq,List.length_map,hlen] at hz
  have h1:=hz.1
  have h2:n <= n+rest.length:=Nat.le_add_right _ _
  have h3:(n+rest.length) * 1 <= (n+rest.length) * P.bytesOf e:=Nat.mul_le_mul_left _ hb
  unfold reachBytes at h1
  omega
theorem zcn {W:World} {base:Nat} {t e:TypeId} {n c:Nat} {A:Option Addr} {d:DataW H} {p:List MemPlace} {sp:Nat->Bool} {hd:Bool} (ht:P.underlying t=some (.slice e)) (hb:1 <= P.bytesOf e)
  (h:DataW.Trod enc P W base sp hd t (.slice A n c) d p) (hz:(d.weights P t).all (· <= reachBytes)=true):n <= 140737488351232:=by
 obtain ⟨fuel,hf⟩:=h
 exact zcm ht hb hf hz
theorem z5t {t:TypeId} {ts vt:List TypeId} {d:DataW H} {ds gs:List (DataW H)} (h:(DataW.weightsEach P ((t :: ts) ++ vt) ((d :: ds) ++ gs)).all (· <= reachBytes)=true) :
  (d.weights P t).all (· <= reachBytes)=true/\(DataW.weightsEach P (ts ++ vt) (ds ++ gs)).all (· <= reachBytes)=true:=by
 simpa only [List.cons_append,DataW.weightsEach,List.all_append,Bool.and_eq_true] using h
theorem dec_arcs {W:World} {base:Nat} {t e:TypeId} {f0 f1 f2 f3 f4:Field} {fuel:Nat} {cs:List Value} {x:DataW H × List MemPlace} (ht:P.underlying t=some (.slice e)) (he:P.underlying e=some (.struct #[f0,f1,f2,f3,f4]))
  (ce:P.cellsOf e=5) (hi0:P.underlying f0.type=some (.int .i64)) (hi1:P.underlying f1.type=some (.int .i64)) (hi2:P.underlying f2.type=some (.int .i64)) (hi3:P.underlying f3.type=some (.int .i64)) (hi4:P.underlying f4.type=some (.int .i64))
  (hc:[P.cellsOf f0.type,P.cellsOf f1.type,P.cellsOf f2.type,P.cellsOf f3.type,P.cellsOf f4.type]=[1,1,1,1,1]) (ho:[f0.offset,f1.offset,f2.offset,f3.offset,f4.offset]=[0,1,2,3,4])
  (h:DataW.trod enc P W base (fun _=>true) true fuel t cs=some x) :
  ∃ A c xs,cs=[.slice A xs.length c]/\(ArcsR W W.heap.size A xs/\xs.length <= c)/\xs.length <= maxLen/\∀ a ∈ xs,a.Wf:=by
 simp only [List.cons.injEq,and_true] at hc ho
 obtain ⟨c0,c1,c2,c3,c4⟩:=hc
 obtain ⟨o0,o1,o2,o3,o4⟩:=ho
 rcases open_slice ht h with ⟨hcs,_⟩ | ⟨a,len,cap,m,n,D,Pl,hcs,hb,hl,hm,hmm,_,hx⟩
 ·exact ⟨none,0,[],by simpa using hcs,⟨ArcsR.nil,by simp⟩,by simp,by simp⟩
 simp only [if_true] at hmm
 have each:∀ i,i<len->∃ q:Arc,(W.cell? (a.add (i * 5))=some (.int .i64 q.src)/\W.cell? (a.add (i * 5+1))=some (.int .i64 q.dst)/\W.cell? (a.add (i * 5+2))=some (.int .i64 q.low) /\
   W.cell? (a.add (i * 5+3))=some (.int .i64 q.cap)/\W.cell? (a.add (i * 5+4))=some (.int .i64 q.cost))/\q.Wf:=by
  intro i hi
  obtain ⟨cs',h1,h2⟩:=hx i (by omega)
  rw [ce] at h1
  obtain ⟨_,hlen,hcell⟩:=World.cells?_some h1
  obtain ⟨xs,k,hk,hxy,_,hxl,hf⟩:=DataW.trod_struct he h2
  match xs,hxl,cs',hlen with
  | [y0,y1,y2,y3,y4],_,[v0,v1,v2,v3,v4],_ =>
   have g0:=hf 0 f0 rfl
   have g1:=hf 1 f1 rfl
   have g2:=hf 2 f2 rfl
   have g3:=hf 3 f3 rfl
   have g4:=hf 4 f4 rfl
   simp [o0,o1,o2,o3,o4,c0,c1,c2,c3,c4] at g0 g1 g2 g3 g4
   obtain ⟨n0,e0,_,w0⟩:=DataW.trod_int hi0 g0
   obtain ⟨n1,e1,_,w1⟩:=DataW.trod_int hi1 g1
   obtain ⟨n2,e2,_,w2⟩:=DataW.trod_int hi2 g2
   obtain ⟨n3,e3,_,w3⟩:=DataW.trod_int hi3 g3
   obtain ⟨n4,e4,_,w4⟩:=DataW.trod_int hi4 g4
   simp only [List.cons.injEq,and_true] at e0 e1 e2 e3 e4
   subst e0 e1 e2 e3 e4
   have k0:=hcell 0 (by omega)
   have k1:=hcell 1 (by omega)
   have k2:=hcell 2 (by omega)
   have k3:=hcell 3 (by omega)
   have k4:=hcell 4 (by omega)
   rw [add_add] at k0 k1 k2 k3 k4
   exact ⟨⟨n0,n1,n2,n3,n4⟩,⟨by simpa using k0,by simpa using k1,by simpa using k2,by simpa using k3,by simpa using k4⟩,zgs w0,zgs w1,zgs w2,zgs w3,zgs w4⟩
 haveI:Inhabited Arc:=⟨⟨0,0,0,0,0⟩⟩
 obtain ⟨q,hq⟩:=choose_lt each
 have hlen:((List.range len).map q).length=len:=by simp
 refine ⟨some a,cap,(List.range len).map q,by rw [hlen]; exact hcs,⟨fun h0=>?_,by omega⟩,by omega,fun y hy=>?_⟩
 ·have h1:=(hq 0 (by omega)).1.1
  have hz0:a.add (0 * 5)=a:=by unfold Addr.add; simp
  rw [hz0] at h1
  obtain ⟨e1,e2⟩:=zf6 h1
  refine ⟨a.block,a.off,by rw [<- e1],e2,fun i x hx=>?_⟩
  rw [List.getElem?_map] at hx
  by_cases hi:i<len
  ·rw [List.getElem?_range hi] at hx
   simp only [Option.map_some,Option.some.injEq] at hx
   subst hx
   obtain ⟨⟨a0,a1,a2,a3,a4⟩,_⟩:=hq i hi
   rw [e1,zja] at a0 a1 a2 a3 a4
   exact ⟨a0,a1,a2,a3,a4⟩
  ·rw [List.getElem?_eq_none (by simpa using hi)] at hx
   cases hx
 ·rw [List.mem_map] at hy
  obtain ⟨i,hi,rfl⟩:=hy
  exact (hq i (List.mem_range.1 hi)).2
theorem okWide_struct {W:World} {r:Reach} {b0:Nat} {t:TypeId} {fs:Array Field} {v:Value} (ht:P.underlying t=some (.struct fs)) (h:Value.okWide P W r b0 t v):∃ xs:Array Value,v = .agg xs:=by
 simp only [Value.okWide,ht] at h
 obtain ⟨cs,h1,_⟩:=h
 exact ⟨cs,h1⟩
theorem dec_ints_cell {W:World} {base:Nat} {t e:TypeId} {k:IntKind} {fuel:Nat} {cs:List Value} {x:DataW H × List MemPlace} (ht:P.underlying t=some (.slice e)) (he:P.underlying e=some (.int k)) (hc:P.cellsOf e=1)
  (h:DataW.trod enc P W base (fun _=>true) true fuel t cs=some x) :
  ∃ A c xs,cs=[.slice A xs.length c]/\(RowR (Value.int k) W W.heap.size A xs/\xs.length <= c)/\xs.length <= maxLen/\∀ x ∈ xs,(Lit.int k x).wf=true:=by
 rcases open_ints ht he hc h with ⟨hcs,_⟩ | ⟨a,len',cap',zs,hcs,_,hl,hm,hz,_,hcell,hwz⟩
 ·exact ⟨none,0,[],by simpa using hcs,⟨RowR.nil,by simp⟩,by simp,by simp⟩
 ·simp only [if_true] at hz
  have hlen:(zs.take len').length=len':=by simp; omega
  refine ⟨some a,cap',zs.take len',by rw [hlen]; exact hcs,⟨fun h0=>?_,by omega⟩,by omega,fun x hx=>hwz x (List.mem_of_mem_take hx)⟩
  have h1:=hcell 0 (by omega)
  have hz0:a.add 0=a:=by unfold Addr.add; simp
  rw [hz0] at h1
  obtain ⟨e1,e2⟩:=zf6 h1
  refine ⟨a.block,a.off,by rw [<- e1],e2,fun i x hx=>?_⟩
  rw [List.getElem?_take] at hx
  split at hx
  ·have h2:=hcell i (by omega)
   rw [e1,zja] at h2
   rw [h2]
   simp [List.getD,hx]
  ·cases hx
theorem dec_inst0 {W:World} {base:Nat} {r:Reach} {b0:Nat} {t te ti:TypeId} {g0 g1 f0 f1 f2 f3 f4:Field} {v:Value} {d:DataW H} {p:List MemPlace} (ht:P.underlying t=some (.struct #[g0,g1]))
  (h0:P.underlying g0.type=some (.slice ti)) (hti:P.underlying ti=some (.int .i64)) (h1:P.underlying g1.type=some (.slice te)) (hbi:1 <= P.bytesOf ti) (hbe:1 <= P.bytesOf te) (hg:[P.cellsOf g0.type,P.cellsOf g1.type,g0.offset,g1.offset,P.cellsOf t,P.cellsOf ti]=[1,1,0,1,2,1])
  (he:P.underlying te=some (.struct #[f0,f1,f2,f3,f4])) (ce:P.cellsOf te=5) (hi0:P.underlying f0.type=some (.int .i64)) (hi1:P.underlying f1.type=some (.int .i64)) (hi2:P.underlying f2.type=some (.int .i64))
  (hi3:P.underlying f3.type=some (.int .i64)) (hi4:P.underlying f4.type=some (.int .i64))
  (hc:[P.cellsOf f0.type,P.cellsOf f1.type,P.cellsOf f2.type,P.cellsOf f3.type,P.cellsOf f4.type]=[1,1,1,1,1]) (ho:[f0.offset,f1.offset,f2.offset,f3.offset,f4.offset]=[0,1,2,3,4])
  (hv:Value.okWide P W r b0 t v) (h:DataW.Trod enc P W base (fun _=>true) true t v d p) :
  ∃ A c A' c',∃ I:Inst,v = .agg #[.slice A I.sup.length c,.slice A' I.arcs.length c']/\(RowR (Value.int .i64) W W.heap.size A I.sup/\I.sup.length <= c)/\(ArcsR W W.heap.size A' I.arcs/\I.arcs.length <= c')/\I.Wf/\((d.weights P t).all (· <= reachBytes)=true->I.sup.length <= 140737488351232/\I.arcs.length <= 140737488351232):=by
 simp only [List.cons.injEq,and_true] at hg
 obtain ⟨k0,k1,o0,o1,kt,ki⟩:=hg
 obtain ⟨xs,rfl⟩:=okWide_struct ht hv
 obtain ⟨fuel,hf⟩:=h
 obtain ⟨y0,y1,n,hy,hl,q0,q1⟩:=trod_struct2 ht hf
 simp only [Value.cells] at hl q0 q1
 rw [kt] at hl
 obtain ⟨l⟩:=xs
 match l,hl with
 | [u0,u1],_ =>
  simp [o0,o1,k0,k1] at q0 q1
  obtain ⟨A,c,s,e0,R,m0,w0⟩:=dec_ints_cell h0 hti ki q0
  obtain ⟨A',c',l1,e1,R',m1,w1⟩:=dec_arcs h1 he ce hi0 hi1 hi2 hi3 hi4 hc ho q1
  simp only [List.cons.injEq,and_true] at e0 e1
  subst e0 e1
  refine ⟨A,c,A',c',⟨s,l1⟩,rfl,R,R',⟨wf_i64 w0,w1,m0,m1⟩,fun hz=>?_⟩
  simp only [Prod.mk.injEq] at hy
  obtain ⟨rfl,_⟩:=hy
  simp only [DataW.weights,ht,List.map_cons,List.map_nil,DataW.weightsEach,List.all_append,Bool.and_eq_true] at hz
  exact ⟨zcm h0 hbi q0 hz.1,zcm h1 hbe q1 hz.2.1⟩
end
end Go.Ql
namespace Go.Proofs.YtggblkbecekbdaaGreat
open Go Go.RowKit Go.Ql
theorem dec_inst {H:Type} {enc:TypeId × Value->H} {W:World} {base:Nat} {r:Reach} {b0:Nat} {v:Value} {d:DataW H} {p:List MemPlace} (hv:Value.okWide Tryz.prog W r b0 25 v)
  (h:DataW.Trod enc Tryz.prog W base (fun _=>true) true 25 v d p) :
  ∃ A c A' c',∃ I:Inst,v = .agg #[.slice A I.sup.length c,.slice A' I.arcs.length c']/\(RowR (Value.int .i64) W W.heap.size A I.sup/\I.sup.length <= c)/\(ArcsR W W.heap.size A' I.arcs/\I.arcs.length <= c')/\I.Wf/\((d.weights Tryz.prog 25).all (· <= reachBytes)=true->I.sup.length <= 140737488351232/\I.arcs.length <= 140737488351232) :=
 dec_inst0 Tryz.underlying25 Tryz.underlying22 Tryz.underlying2 Tryz.underlying23 (of_decide_eq_true (by kernel_rfl)) (of_decide_eq_true (by kernel_rfl)) (by kernel_rfl) Tryz.underlying35 (by kernel_rfl) Tryz.underlying3 Tryz.underlying3 Tryz.underlying2 Tryz.underlying2 Tryz.underlying2 (by kernel_rfl) (by kernel_rfl) hv h
end Go.Proofs.YtggblkbecekbdaaGreat
end
end
