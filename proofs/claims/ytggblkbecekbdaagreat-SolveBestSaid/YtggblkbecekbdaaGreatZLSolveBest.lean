/- SolveBest: the law is true for every input: the given statement, with no condition of its own. -/
import Derived.Test.YtggblkbecekbdaaGreatZG16
import Derived.Test.YtggblkbecekbdaaGreatZG7
import Derived.Test.YtggblkbecekbdaaGreatZG12
import Derived.Test.YtggblkbecekbdaaGreatZG5
import Derived.Test.YtggblkbecekbdaaGreatZG8
set_option linter.all false
set_option linter.unusedSimpArgs false
set_option linter.unusedVariables false
set_option maxRecDepth 1000000
section
namespace Go.Proofs.YtggblkbecekbdaaGreat
open Go Go.RowKit Go.Ql Go.Vc
def z68 (c:List Int) (d:List Int) (e:List Int) (f:List Int) (k:Int) (z:Cert):FRes:={ pre:=Bytes c/\Bytes d/\c.length <= maxLen/\d.length <= maxLen/\Bytes e/\Bytes f/\0 <= k/\k <= 255/\z1f z,res:=.bool (true),rows:=[],eff:=[] }
def zgu:FS:=fun args h=>match args,h with
 | [.row 0,.row 1,.row 2,.row 3,.int .u8 k,.agg [.int .i64 z_k,.row 4,.row 5,.row 6,.row 7]],[(0,.row false ty0 (.ints .u8 c)),(1,.row false ty1 (.ints .u8 d)),(2,.row false ty2 (.ints .u8 e)),(3,.row false ty3 (.ints .u8 f)),(4,.row false ty4 (.ints .i64 z_f)),(5,.row false ty5 (.ints .i64 z_p)),(6,.row false ty6 (.bools z_s)),(7,.row false ty7 (.ints .i64 z_y))]=>some (z68 c d e f k ⟨z_k,z_f,z_p,z_s,z_y⟩)
 | _,_=>none
def z91 (c:List Int) (d:List Int) (e:List Int) (f:List Int) (k:Int) (z:Cert):List (Nat × Ann):=[(8,{ G:=(Cert) × (Nat),inv:=fun ⟨q,j⟩=>⟨[(11,.ptr 8 0 0 0),(13,.ptr 13 0 0 0),(14,.ptr 22 0 0 0),(16,.ptr 23 0 0 0),(17,.bool (decide (q.kind=(1:Int)))),(18,.row 27),(19,.int .i64 j)],[(27,.vec 22 [.row 4,.row 24,.row 25,.row 26]),(26,.row true 2 (.ints .i64 (z0w (z06 c d k) e))),(25,.row true 2 (.ints .i64 (z0w (z06 c d k) f))),(24,.row true 2 (.ints .i64 (z0w (z06 c d k) d))),(23,.box true 47 [.int .i64 (z0u (z06 c d k) { kind:=q.kind,flow:=q.flow,pot:=q.pot,side:=q.side,cycle:=q.cycle:Cert }).hi,.int .u64 (z0u (z06 c d k) { kind:=q.kind,flow:=q.flow,pot:=q.pot,side:=q.side,cycle:=q.cycle:Cert }).lo]),(22,.box true 39 [.int .i64 q.kind,.row 14,.row 15,.row 16,.row 17]),(14,.row true 2 (.ints .i64 q.flow)),(15,.row true 2 (.ints .i64 q.pot)),(16,.row true 4 (.bools q.side)),(17,.row true 3 (.ints .i64 q.cycle)),(13,.box true 25 [.row 9,.row 10]),(9,.row true 2 (.ints .i64 (z06 c d k).sup)),(10,.row true 35 (.arcs (z06 c d k).arcs)),(8,.box true 39 [.int .i64 z.kind,.row 4,.row 5,.row 6,.row 7]),(4,.row false 0 (.ints .i64 z.flow)),(5,.row false 0 (.ints .i64 z.pot)),(6,.row false 0 (.bools z.side)),(7,.row false 0 (.ints .i64 z.cycle))],28⟩,rel:=fun ⟨q0,j0⟩ ⟨q,j⟩=>q=q0/\j <= 4,meas:=fun ⟨q,j⟩=>4 - j })]
def SolveBest_A:List SV->z0d->List (Nat × Ann):=fun args h=>match args,h with
 | [.row 0,.row 1,.row 2,.row 3,.int .u8 k,.agg [.int .i64 z_k,.row 4,.row 5,.row 6,.row 7]],[(0,.row false ty0 (.ints .u8 c)),(1,.row false ty1 (.ints .u8 d)),(2,.row false ty2 (.ints .u8 e)),(3,.row false ty3 (.ints .u8 f)),(4,.row false ty4 (.ints .i64 z_f)),(5,.row false ty5 (.ints .i64 z_p)),(6,.row false ty6 (.bools z_s)),(7,.row false ty7 (.ints .i64 z_y))]=>z91 c d e f k ⟨z_k,z_f,z_p,z_s,z_y⟩
 | _,_=>[]
def zbj:z0c:=[(known20_n,(true,z02 true zfk)),(Small_n,(true,z02 true Small_fs)),(Solve_n,(true,z10 true zhp)),(LongC_n,(true,z02 true LongC_fs)),(ValueC_n,(true,z02 true zcq)),(Flow_n,(true,z02 true Flow_fs)),(Fits_n,(true,z02 true zit)),(Cost_n,(true,z02 true Cost_fs)),(z8v,(true,z02 true z64)),(Check_n,(true,z02 true Check_fs))]
abbrev SolveBest_n:Nat:=7
def zj5 (c:List Int) (d:List Int) (e:List Int) (f:List Int) (k:Int) (z:Cert):List (Nat × z0a):=[]
def SolveBest_IA:List SV->z0d->List (Nat × z0a):=fun _ _=>[]
end Go.Proofs.YtggblkbecekbdaaGreat
end
section
namespace Go.Proofs.YtggblkbecekbdaaGreat
open Go Go.RowKit Go.Ql Go.Vc
abbrev z5k (g:Cert × Nat) (z:Cert) (c:List Int) (d:List Int) (k:Int) (g0:Cert × Nat) (e:List Int) (f:List Int):=((g.1.kind == (2:Int))=false->(decide (g.1.kind=(1:Int))=true->((0:Int) <= ↑g.2/\((↑g.2:Int)<↑(4:Nat)))/\(↑g.2:Int).toNat<(4:Nat)/\((↑g.2:Int).toNat=(0:Nat)->(A64 z.flow/\(zcm (z06 c d k).arcs/\((z06 c d k).arcs.length <= (1000000:Nat))))/\(((z0u (z06 c d k) g.1).ok/\((W (z41 (z06 c d k) z.flow)).ok))/\((decide (z8u (z0u (z06 c d k) g.1) (W (z41 (z06 c d k) z.flow)) > (0:Int))=true->(false=true/\True)/\True)/\(decide (z8u (z0u (z06 c d k) g.1) (W (z41 (z06 c d k) z.flow)) > (0:Int))=false->∃ (g':Cert × Nat),(g'.fst=g0.fst/\(g'.snd <= (4:Nat)))/\((4:Nat) - g'.snd<(4:Nat) - g.snd/\((0=0/\(0=0/\(0=0/\(0=0/\(decide (g.1.kind=(1:Int))=decide (g'.1.kind=(1:Int))/\(True/\(IntKind.i64.wrap ((↑g.2:Int)+(1:Int))=(↑g'.2:Int)/\True)))))))/\((True/\(True/\(True/\(True/\True))))/\(z0w (z06 c d k) e=z0w (z06 c d k) e/\(z0w (z06 c d k) f=z0w (z06 c d k) f/\(z0w (z06 c d k) d=z0w (z06 c d k) d/\(((z0u (z06 c d k) g.1).hi=(z0u (z06 c d k) g'.1).hi/\((z0u (z06 c d k) g.1).lo=(z0u (z06 c d k) g'.1).lo/\True))/\((g.1.kind=g'.1.kind/\(True/\(True/\(True/\(True/\True)))))/\(g.1.flow=g'.1.flow/\(g.1.pot=g'.1.pot/\(g.1.side=g'.1.side/\(g.1.cycle=g'.1.cycle/\((True/\(True/\True))/\((z06 c d k).sup=(z06 c d k).sup/\((z06 c d k).arcs=(z06 c d k).arcs/\((z.kind=z.kind/\(True/\(True/\(True/\(True/\True)))))/\(z.flow=z.flow/\(z.pot=z.pot/\(z.side=z.side/\(z.cycle=z.cycle/\True))))))))))))))))))))))))/\((↑g.2:Int).toNat=(0:Nat)+(1:Nat)->(A64 (z0w (z06 c d k) d)/\(zcm (z06 c d k).arcs/\((z06 c d k).arcs.length <= (1000000:Nat))))/\(((z0u (z06 c d k) g.1).ok/\((W (z41 (z06 c d k) (z0w (z06 c d k) d))).ok))/\((decide (z8u (z0u (z06 c d k) g.1) (W (z41 (z06 c d k) (z0w (z06 c d k) d))) > (0:Int))=true->(false=true/\True)/\True)/\(decide (z8u (z0u (z06 c d k) g.1) (W (z41 (z06 c d k) (z0w (z06 c d k) d))) > (0:Int))=false->∃ (g':Cert × Nat),(g'.fst=g0.fst/\(g'.snd <= (4:Nat)))/\((4:Nat) - g'.snd<(4:Nat) - g.snd/\((0=0/\(0=0/\(0=0/\(0=0/\(decide (g.1.kind=(1:Int))=decide (g'.1.kind=(1:Int))/\(True/\(IntKind.i64.wrap ((↑g.2:Int)+(1:Int))=(↑g'.2:Int)/\True)))))))/\((True/\(True/\(True/\(True/\True))))/\(z0w (z06 c d k) e=z0w (z06 c d k) e/\(z0w (z06 c d k) f=z0w (z06 c d k) f/\(z0w (z06 c d k) d=z0w (z06 c d k) d/\(((z0u (z06 c d k) g.1).hi=(z0u (z06 c d k) g'.1).hi/\((z0u (z06 c d k) g.1).lo=(z0u (z06 c d k) g'.1).lo/\True))/\((g.1.kind=g'.1.kind/\(True/\(True/\(True/\(True/\True)))))/\(g.1.flow=g'.1.flow/\(g.1.pot=g'.1.pot/\(g.1.side=g'.1.side/\(g.1.cycle=g'.1.cycle/\((True/\(True/\True))/\((z06 c d k).sup=(z06 c d k).sup/\((z06 c d k).arcs=(z06 c d k).arcs/\((z.kind=z.kind/\(True/\(True/\(True/\(True/\True)))))/\(z.flow=z.flow/\(z.pot=z.pot/\(z.side=z.side/\(z.cycle=z.cycle/\True))))))))))))))))))))))))/\((↑g.2:Int).toNat=(0:Nat)+(1:Nat)+(1:Nat)->(A64 (z0w (z06 c d k) f)/\(zcm (z06 c d k).arcs/\((z06 c d k).arcs.length <= (1000000:Nat))))/\(((z0u (z06 c d k) g.1).ok/\((W (z41 (z06 c d k) (z0w (z06 c d k) f))).ok))/\((decide (z8u (z0u (z06 c d k) g.1) (W (z41 (z06 c d k) (z0w (z06 c d k) f))) > (0:Int))=true->(false=true/\True)/\True)/\(decide (z8u (z0u (z06 c d k) g.1) (W (z41 (z06 c d k) (z0w (z06 c d k) f))) > (0:Int))=false->∃ (g':Cert × Nat),(g'.fst=g0.fst/\(g'.snd <= (4:Nat)))/\((4:Nat) - g'.snd<(4:Nat) - g.snd/\((0=0/\(0=0/\(0=0/\(0=0/\(decide (g.1.kind=(1:Int))=decide (g'.1.kind=(1:Int))/\(True/\(IntKind.i64.wrap ((↑g.2:Int)+(1:Int))=(↑g'.2:Int)/\True)))))))/\((True/\(True/\(True/\(True/\True))))/\(z0w (z06 c d k) e=z0w (z06 c d k) e/\(z0w (z06 c d k) f=z0w (z06 c d k) f/\(z0w (z06 c d k) d=z0w (z06 c d k) d/\(((z0u (z06 c d k) g.1).hi=(z0u (z06 c d k) g'.1).hi/\((z0u (z06 c d k) g.1).lo=(z0u (z06 c d k) g'.1).lo/\True))/\((g.1.kind=g'.1.kind/\(True/\(True/\(True/\(True/\True)))))/\(g.1.flow=g'.1.flow/\(g.1.pot=g'.1.pot/\(g.1.side=g'.1.side/\(g.1.cycle=g'.1.cycle/\((True/\(True/\True))/\((z06 c d k).sup=(z06 c d k).sup/\((z06 c d k).arcs=(z06 c d k).arcs/\((z.kind=z.kind/\(True/\(True/\(True/\(True/\True)))))/\(z.flow=z.flow/\(z.pot=z.pot/\(z.side=z.side/\(z.cycle=z.cycle/\True))))))))))))))))))))))))/\((↑g.2:Int).toNat=(0:Nat)+(1:Nat)+(1:Nat)+(1:Nat)->(A64 (z0w (z06 c d k) e)/\(zcm (z06 c d k).arcs/\((z06 c d k).arcs.length <= (1000000:Nat))))/\(((z0u (z06 c d k) g.1).ok/\((W (z41 (z06 c d k) (z0w (z06 c d k) e))).ok))/\((decide (z8u (z0u (z06 c d k) g.1) (W (z41 (z06 c d k) (z0w (z06 c d k) e))) > (0:Int))=true->(false=true/\True)/\True)/\(decide (z8u (z0u (z06 c d k) g.1) (W (z41 (z06 c d k) (z0w (z06 c d k) e))) > (0:Int))=false->∃ (g':Cert × Nat),(g'.fst=g0.fst/\(g'.snd <= (4:Nat)))/\((4:Nat) - g'.snd<(4:Nat) - g.snd/\((0=0/\(0=0/\(0=0/\(0=0/\(decide (g.1.kind=(1:Int))=decide (g'.1.kind=(1:Int))/\(True/\(IntKind.i64.wrap ((↑g.2:Int)+(1:Int))=(↑g'.2:Int)/\True)))))))/\((True/\(True/\(True/\(True/\True))))/\(z0w (z06 c d k) e=z0w (z06 c d k) e/\(z0w (z06 c d k) f=z0w (z06 c d k) f/\(z0w (z06 c d k) d=z0w (z06 c d k) d/\(((z0u (z06 c d k) g.1).hi=(z0u (z06 c d k) g'.1).hi/\((z0u (z06 c d k) g.1).lo=(z0u (z06 c d k) g'.1).lo/\True))/\((g.1.kind=g'.1.kind/\(True/\(True/\(True/\(True/\True)))))/\(g.1.flow=g'.1.flow/\(g.1.pot=g'.1.pot/\(g.1.side=g'.1.side/\(g.1.cycle=g'.1.cycle/\((True/\(True/\True))/\((z06 c d k).sup=(z06 c d k).sup/\((z06 c d k).arcs=(z06 c d k).arcs/\((z.kind=z.kind/\(True/\(True/\(True/\(True/\True)))))/\(z.flow=z.flow/\(z.pot=z.pot/\(z.side=z.side/\(z.cycle=z.cycle/\True)))))))))))))))))))))))))/\(decide (g.1.kind=(1:Int))=false->∃ (g':Cert × Nat),(g'.fst=g0.fst/\(g'.snd <= (4:Nat)))/\((4:Nat) - g'.snd<(4:Nat) - g.snd/\((0=0/\(0=0/\(0=0/\(0=0/\(decide (g.1.kind=(1:Int))=decide (g'.1.kind=(1:Int))/\(True/\(IntKind.i64.wrap ((↑g.2:Int)+(1:Int))=(↑g'.2:Int)/\True)))))))/\((True/\(True/\(True/\(True/\True))))/\(z0w (z06 c d k) e=z0w (z06 c d k) e/\(z0w (z06 c d k) f=z0w (z06 c d k) f/\(z0w (z06 c d k) d=z0w (z06 c d k) d/\(((z0u (z06 c d k) g.1).hi=(z0u (z06 c d k) g'.1).hi/\((z0u (z06 c d k) g.1).lo=(z0u (z06 c d k) g'.1).lo/\True))/\((g.1.kind=g'.1.kind/\(True/\(True/\(True/\(True/\True)))))/\(g.1.flow=g'.1.flow/\(g.1.pot=g'.1.pot/\(g.1.side=g'.1.side/\(g.1.cycle=g'.1.cycle/\((True/\(True/\True))/\((z06 c d k).sup=(z06 c d k).sup/\((z06 c d k).arcs=(z06 c d k).arcs/\((z.kind=z.kind/\(True/\(True/\(True/\(True/\True)))))/\(z.flow=z.flow/\(z.pot=z.pot/\(z.side=z.side/\(z.cycle=z.cycle/\True))))))))))))))))))))))
abbrev z5l (g':Cert × Nat) (g:Cert × Nat) (c:List Int) (d:List Int) (k:Int) (e:List Int) (f:List Int) (z:Cert):=((4:Nat) - g'.snd<(4:Nat) - g.snd/\((0=0/\(0=0/\(0=0/\(0=0/\(decide (g.1.kind=(1:Int))=decide (g'.1.kind=(1:Int))/\(True/\(IntKind.i64.wrap ((↑g.2:Int)+(1:Int))=(↑g'.2:Int)/\True)))))))/\((True/\(True/\(True/\(True/\True))))/\(z0w (z06 c d k) e=z0w (z06 c d k) e/\(z0w (z06 c d k) f=z0w (z06 c d k) f/\(z0w (z06 c d k) d=z0w (z06 c d k) d/\(((z0u (z06 c d k) g.1).hi=(z0u (z06 c d k) g'.1).hi/\((z0u (z06 c d k) g.1).lo=(z0u (z06 c d k) g'.1).lo/\True))/\((g.1.kind=g'.1.kind/\(True/\(True/\(True/\(True/\True)))))/\(g.1.flow=g'.1.flow/\(g.1.pot=g'.1.pot/\(g.1.side=g'.1.side/\(g.1.cycle=g'.1.cycle/\((True/\(True/\True))/\((z06 c d k).sup=(z06 c d k).sup/\((z06 c d k).arcs=(z06 c d k).arcs/\((z.kind=z.kind/\(True/\(True/\(True/\(True/\True)))))/\(z.flow=z.flow/\(z.pot=z.pot/\(z.side=z.side/\(z.cycle=z.cycle/\True))))))))))))))))))))
abbrev z5m (g:Cert × Nat):=((g.1.kind == (2:Int))=true->(false=true/\True)/\True)
def z90 (c : List Int) (d : List Int) (e : List Int) (f : List Int) (k : Int) (z : Cert) (ty0 ty1 ty2 ty3 ty4 ty5 ty6 ty7 : TypeId) : Prop :=
   (Bytes c/\(Bytes d/\(c.length <= maxLen/\(d.length <= maxLen/\((0:Int) <= k/\(k <= (255:Int)))))))/\(z04 (z06 c d k)=(0:Int)->SmallI (z06 c d k))/\∀ (g:Cert × Int),SolveP (z06 c d k) g.1 g.2->((g.2 != (0:Int))=true->True/\((true=true->((g.2 == (0:Int))=true/\True)/\True)/\(true=false->(false=true/\True)/\True)))/\((g.2 != (0:Int))=false->z1f { kind:=z.kind,flow:=z.flow,pot:=z.pot,side:=z.side,cycle:=z.cycle:Cert }/\(decide ((↑z.flow.length:Int)+(↑z.pot.length:Int)+(↑z.side.length:Int)+(↑z.cycle.length:Int) > 300)=true->True/\((true=true->((g.2 == (0:Int))=true/\True)/\True)/\(true=false->(false=true/\True)/\True)))/\(decide ((↑z.flow.length:Int)+(↑z.pot.length:Int)+(↑z.side.length:Int)+(↑z.cycle.length:Int) > 300)=false->(z1f { kind:=g.1.kind,flow:=g.1.flow,pot:=g.1.pot,side:=g.1.side,cycle:=g.1.cycle:Cert }/\(z2x (z06 c d k)))/\(Bytes d/\((z06 c d k).arcs.length <= (1000000:Nat)/\(L42 (z06 c d k).arcs)))/\(Bytes f/\((z06 c d k).arcs.length <= (1000000:Nat)/\(L42 (z06 c d k).arcs)))/\(Bytes e/\((z06 c d k).arcs.length <= (1000000:Nat)/\(L42 (z06 c d k).arcs)))/\∃ (g0:Cert × Nat),((g0.fst=g0.fst/\(g0.snd <= (4:Nat)))/\((0=0/\(0=0/\(0=0/\(0=0/\(decide (g.1.kind=(1:Int))=decide (g0.1.kind=(1:Int))/\(True/\((0:Int)=↑g0.2/\True)))))))/\((True/\(True/\(True/\(True/\True))))/\(z0w (z06 c d k) e=z0w (z06 c d k) e/\(z0w (z06 c d k) f=z0w (z06 c d k) f/\(z0w (z06 c d k) d=z0w (z06 c d k) d/\(((z0u (z06 c d k) { kind:=g.1.kind,flow:=g.1.flow,pot:=g.1.pot,side:=g.1.side,cycle:=g.1.cycle:Cert }).hi=(z0u (z06 c d k) g0.1).hi/\((z0u (z06 c d k) { kind:=g.1.kind,flow:=g.1.flow,pot:=g.1.pot,side:=g.1.side,cycle:=g.1.cycle:Cert }).lo=(z0u (z06 c d k) g0.1).lo/\True))/\((g.1.kind=g0.1.kind/\(True/\(True/\(True/\(True/\True)))))/\(g.1.flow=g0.1.flow/\(g.1.pot=g0.1.pot/\(g.1.side=g0.1.side/\(g.1.cycle=g0.1.cycle/\((True/\(True/\True))/\((z06 c d k).sup=(z06 c d k).sup/\((z06 c d k).arcs=(z06 c d k).arcs/\((z.kind=z.kind/\(True/\(True/\(True/\(True/\True)))))/\(z.flow=z.flow/\(z.pot=z.pot/\(z.side=z.side/\(z.cycle=z.cycle/\True))))))))))))))))))))/\∀ (g:Cert × Nat),g.fst=g0.fst/\g.snd <= (4:Nat)->(decide ((↑g.2:Int)<↑(4:Nat))=true->((0:Int) <= ↑g.2/\((↑g.2:Int)<↑(4:Nat)))/\(↑g.2:Int).toNat<(4:Nat)/\((↑g.2:Int).toNat=(0:Nat)->((z06 c d k).sup.length <= (10000:Nat)/\((z06 c d k).arcs.length <= (10000:Nat)/\(A64 z.flow/\(A64 (z06 c d k).sup))))/\((z0v (z06 c d k) z.flow == (0:Int))=true->(z5m g)/\(z5k g z c d k g0 e f))/\((z0v (z06 c d k) z.flow == (0:Int))=false->∃ (g':Cert × Nat),(g'.fst=g0.fst/\(g'.snd <= (4:Nat)))/\(z5l g' g c d k e f z)))/\((↑g.2:Int).toNat=(0:Nat)+(1:Nat)->((z06 c d k).sup.length <= (10000:Nat)/\((z06 c d k).arcs.length <= (10000:Nat)/\(A64 (z0w (z06 c d k) d)/\(A64 (z06 c d k).sup))))/\((z0v (z06 c d k) (z0w (z06 c d k) d) == (0:Int))=true->(z5m g)/\(z5k g z c d k g0 e f))/\((z0v (z06 c d k) (z0w (z06 c d k) d) == (0:Int))=false->∃ (g':Cert × Nat),(g'.fst=g0.fst/\(g'.snd <= (4:Nat)))/\(z5l g' g c d k e f z)))/\((↑g.2:Int).toNat=(0:Nat)+(1:Nat)+(1:Nat)->((z06 c d k).sup.length <= (10000:Nat)/\((z06 c d k).arcs.length <= (10000:Nat)/\(A64 (z0w (z06 c d k) f)/\(A64 (z06 c d k).sup))))/\((z0v (z06 c d k) (z0w (z06 c d k) f) == (0:Int))=true->(z5m g)/\(z5k g z c d k g0 e f))/\((z0v (z06 c d k) (z0w (z06 c d k) f) == (0:Int))=false->∃ (g':Cert × Nat),(g'.fst=g0.fst/\(g'.snd <= (4:Nat)))/\(z5l g' g c d k e f z)))/\((↑g.2:Int).toNat=(0:Nat)+(1:Nat)+(1:Nat)+(1:Nat)->((z06 c d k).sup.length <= (10000:Nat)/\((z06 c d k).arcs.length <= (10000:Nat)/\(A64 (z0w (z06 c d k) e)/\(A64 (z06 c d k).sup))))/\((z0v (z06 c d k) (z0w (z06 c d k) e) == (0:Int))=true->(z5m g)/\(z5k g z c d k g0 e f))/\((z0v (z06 c d k) (z0w (z06 c d k) e) == (0:Int))=false->∃ (g':Cert × Nat),(g'.fst=g0.fst/\(g'.snd <= (4:Nat)))/\(z5l g' g c d k e f z))))/\(decide ((↑g.2:Int)<↑(4:Nat))=false->True/\((true=true->(z1f { kind:=z.kind,flow:=z.flow,pot:=z.pot,side:=z.side,cycle:=z.cycle:Cert }/\(z2x (z06 c d k)))/\(((z17 (z06 c d k) { kind:=z.kind,flow:=z.flow,pot:=z.pot,side:=z.side,cycle:=z.cycle:Cert } != (0:Int))=true->(true=true/\True)/\True)/\((z17 (z06 c d k) { kind:=z.kind,flow:=z.flow,pot:=z.pot,side:=z.side,cycle:=z.cycle:Cert } != (0:Int))=false->((z.kind == g.1.kind)=true/\True)/\True)))/\(true=false->(false=true/\True)/\True)))))
theorem SolveBest_q (c:List Int) (d:List Int) (e:List Int) (f:List Int) (k:Int) (z:Cert) (ty0 ty1 ty2 ty3 ty4 ty5 ty6 ty7:TypeId):z90 c d e f k z ty0 ty1 ty2 ty3 ty4 ty5 ty6 ty7=z23 TT zbj (zj5 c d e f k z) (z91 c d e f k z) Tryz.f7 [.row 0,.row 1,.row 2,.row 3,.int .u8 k,.agg [.int .i64 z.kind,.row 4,.row 5,.row 6,.row 7]] [(0,.row false ty0 (.ints .u8 c)),(1,.row false ty1 (.ints .u8 d)),(2,.row false ty2 (.ints .u8 e)),(3,.row false ty3 (.ints .u8 f)),(4,.row false ty4 (.ints .i64 z.flow)),(5,.row false ty5 (.ints .i64 z.pot)),(6,.row false ty6 (.bools z.side)),(7,.row false ty7 (.ints .i64 z.cycle))] (z68 c d e f k z):=by kernel_rfl
theorem SolveBest_E (c:List Int) (d:List Int) (e:List Int) (f:List Int) (k:Int) (z:Cert) (ty0 ty1 ty2 ty3 ty4 ty5 ty6 ty7:TypeId) (hp:Bytes c/\Bytes d/\c.length <= maxLen/\d.length <= maxLen/\Bytes e/\Bytes f/\0 <= k/\k <= 255/\z1f z):FVc TT zbj (zj5 c d e f k z) (z91 c d e f k z) Tryz.f7 [.row 0,.row 1,.row 2,.row 3,.int .u8 k,.agg [.int .i64 z.kind,.row 4,.row 5,.row 6,.row 7]] [(0,.row false ty0 (.ints .u8 c)),(1,.row false ty1 (.ints .u8 d)),(2,.row false ty2 (.ints .u8 e)),(3,.row false ty3 (.ints .u8 f)),(4,.row false ty4 (.ints .i64 z.flow)),(5,.row false ty5 (.ints .i64 z.pot)),(6,.row false ty6 (.bools z.side)),(7,.row false ty7 (.ints .i64 z.cycle))] (z68 c d e f k z):=by
 refine FVc.of (z90 c d e f k z ty0 ty1 ty2 ty3 ty4 ty5 ty6 ty7) (SolveBest_q c d e f k z ty0 ty1 ty2 ty3 ty4 ty5 ty6 ty7) ?_
 unfold z90
 delta z5m z5l z5k
 obtain ⟨p1,p2,p3,p4,p5,p6,k0,k1,hz⟩:=hp
 obtain ⟨hF,hn,hm,n7,nn1,hw,hN⟩:=small_few c d k
 generalize z06 c d k=I at *
 have hr:=hF.right
 have hsA:A64 I.sup:=fun y hy=>by have:=hw y hy; unfold I64; omega
 have hAc:zcm I.arcs:=fun a ha=>by have:=(hN a ha).k0; have:=(hN a ha).k1; unfold I64; omega
 have hL:L42 I.arcs:=fun a ha=>by have:=(hN a ha).l0; have:=(hN a ha).l1; exact ⟨by omega,by omega⟩
 have hA:∀ v:List Int,A64 (z0w I v):=fun v y hy=>by
  obtain ⟨j,hj⟩:=List.mem_iff_getElem?.1 hy
  have hl:=(List.getElem?_eq_some_iff.1 hj).1
  rw [flowF_len] at hl
  obtain ⟨a,ha⟩:∃ a,I.arcs[j]? = some a:=⟨_,List.getElem?_eq_getElem hl⟩
  have h1:=flow_in hN v j a ha
  have h2:=(hN a (List.mem_of_getElem? ha)).l0
  rw [List.getD_eq_getElem?_getD,hj] at h1
  have h3:(some y).getD 0=y:=rfl
  rw [h3] at h1
  unfold I64; omega
 simp only [eq_self,exists_const,forall_const,ne_eq,Int.toNat_natCast,zSS,z08]
 refine ⟨⟨p1,p2,p3,p4,k0,k1⟩,fun _=>hF.small,?_⟩
 rintro ⟨b,g⟩ hS
 obtain ⟨q1,q2,q3⟩:=zib hr hS
 obtain ⟨rfl,-⟩:=hS.ok hr
 have key:∀ y,A64 y->z0v I y=0->b.kind ≠ 2/\(b.kind=1->¬ z8u (z0u I b) (W (z41 I y)) > 0):=fun y hy hf=>best_law hr hS hy hf
 dsimp only
 refine ⟨fun h=>absurd rfl h,fun _=>⟨hz,fun _=>⟨rfl,fun h=>by cases h⟩,fun hlong=>⟨⟨q1,inst_ok hr⟩,⟨p2,by omega,hL⟩,⟨p6,by omega,hL⟩,⟨p5,by omega,hL⟩,(b,0),⟨Nat.zero_le _,⟨rfl,rfl⟩,⟨rfl,rfl⟩,rfl,rfl,rfl,rfl,rfl⟩,?_⟩⟩⟩
 rintro ⟨q,j⟩ ⟨hq,hj⟩
 dsimp only at hq hj ⊢
 subst hq
 refine ⟨fun hlt=>⟨⟨by omega,by omega⟩,by omega,?_⟩,fun hge=>?_⟩
 ·have st:IntKind.i64.wrap ((j:Int)+1)=((j+1:Nat):Int):=by rw [w64 (by omega) (by omega)]; omega
  exact ⟨fun hi=>⟨⟨by omega,by omega,hz.1,hsA⟩,fun hf=>⟨fun h2=>absurd h2 (key _ hz.1 hf).1,fun h2=>⟨fun h1=>⟨⟨by omega,by omega⟩,by omega,⟨fun _=>⟨⟨hz.1,hAc,by omega⟩,⟨zee _ _,z78 _⟩,fun h=>absurd h ((key _ hz.1 hf).2 h1),fun _=>⟨(q,j+1),⟨rfl,by dsimp only; omega⟩,by dsimp only; omega,⟨rfl,st⟩,⟨rfl,rfl⟩,rfl,rfl,rfl,rfl,rfl⟩⟩,fun h=>absurd h (by omega),fun h=>absurd h (by omega),fun h=>absurd h (by omega)⟩⟩,fun _=>⟨(q,j+1),⟨rfl,by dsimp only; omega⟩,by dsimp only; omega,⟨rfl,st⟩,⟨rfl,rfl⟩,rfl,rfl,rfl,rfl,rfl⟩⟩⟩,fun hf=>⟨(q,j+1),⟨rfl,by dsimp only; omega⟩,by dsimp only; omega,⟨rfl,st⟩,⟨rfl,rfl⟩,rfl,rfl,rfl,rfl,rfl⟩⟩,fun hi=>⟨⟨by omega,by omega,(hA d),hsA⟩,fun hf=>⟨fun h2=>absurd h2 (key _ (hA d) hf).1,fun h2=>⟨fun h1=>⟨⟨by omega,by omega⟩,by omega,⟨fun h=>absurd h (by omega),fun _=>⟨⟨(hA d),hAc,by omega⟩,⟨zee _ _,z78 _⟩,fun h=>absurd h ((key _ (hA d) hf).2 h1),fun _=>⟨(q,j+1),⟨rfl,by dsimp only; omega⟩,by dsimp only; omega,⟨rfl,st⟩,⟨rfl,rfl⟩,rfl,rfl,rfl,rfl,rfl⟩⟩,fun h=>absurd h (by omega),fun h=>absurd h (by omega)⟩⟩,fun _=>⟨(q,j+1),⟨rfl,by dsimp only; omega⟩,by dsimp only; omega,⟨rfl,st⟩,⟨rfl,rfl⟩,rfl,rfl,rfl,rfl,rfl⟩⟩⟩,fun hf=>⟨(q,j+1),⟨rfl,by dsimp only; omega⟩,by dsimp only; omega,⟨rfl,st⟩,⟨rfl,rfl⟩,rfl,rfl,rfl,rfl,rfl⟩⟩,fun hi=>⟨⟨by omega,by omega,(hA f),hsA⟩,fun hf=>⟨fun h2=>absurd h2 (key _ (hA f) hf).1,fun h2=>⟨fun h1=>⟨⟨by omega,by omega⟩,by omega,⟨fun h=>absurd h (by omega),fun h=>absurd h (by omega),fun _=>⟨⟨(hA f),hAc,by omega⟩,⟨zee _ _,z78 _⟩,fun h=>absurd h ((key _ (hA f) hf).2 h1),fun _=>⟨(q,j+1),⟨rfl,by dsimp only; omega⟩,by dsimp only; omega,⟨rfl,st⟩,⟨rfl,rfl⟩,rfl,rfl,rfl,rfl,rfl⟩⟩,fun h=>absurd h (by omega)⟩⟩,fun _=>⟨(q,j+1),⟨rfl,by dsimp only; omega⟩,by dsimp only; omega,⟨rfl,st⟩,⟨rfl,rfl⟩,rfl,rfl,rfl,rfl,rfl⟩⟩⟩,fun hf=>⟨(q,j+1),⟨rfl,by dsimp only; omega⟩,by dsimp only; omega,⟨rfl,st⟩,⟨rfl,rfl⟩,rfl,rfl,rfl,rfl,rfl⟩⟩,fun hi=>⟨⟨by omega,by omega,(hA e),hsA⟩,fun hf=>⟨fun h2=>absurd h2 (key _ (hA e) hf).1,fun h2=>⟨fun h1=>⟨⟨by omega,by omega⟩,by omega,⟨fun h=>absurd h (by omega),fun h=>absurd h (by omega),fun h=>absurd h (by omega),fun _=>⟨⟨(hA e),hAc,by omega⟩,⟨zee _ _,z78 _⟩,fun h=>absurd h ((key _ (hA e) hf).2 h1),fun _=>⟨(q,j+1),⟨rfl,by dsimp only; omega⟩,by dsimp only; omega,⟨rfl,st⟩,⟨rfl,rfl⟩,rfl,rfl,rfl,rfl,rfl⟩⟩⟩⟩,fun _=>⟨(q,j+1),⟨rfl,by dsimp only; omega⟩,by dsimp only; omega,⟨rfl,st⟩,⟨rfl,rfl⟩,rfl,rfl,rfl,rfl,rfl⟩⟩⟩,fun hf=>⟨(q,j+1),⟨rfl,by dsimp only; omega⟩,by dsimp only; omega,⟨rfl,st⟩,⟨rfl,rfl⟩,rfl,rfl,rfl,rfl,rfl⟩⟩⟩
 ·exact ⟨⟨⟨hz,inst_ok hr⟩,fun _=>trivial,fun h=>(cert_one hz q1 h q2).1⟩,fun h=>by cases h⟩
theorem SolveBest_ok:SpecOk Tryz.prog SolveBest_n true (z02 true zgu) :=
 z09 z0i (show z15 Tryz.prog zbj from z00 known20_ok (z00 Small_ok (z00 Solve_ok (z00 LongC_ok (z00 ValueC_ok (z00 Flow_ok (z00 Fits_ok (z00 Cost_ok (z00 za5 (z00 Check_ok (z03))))))))))) (by kernel_rfl) mixedOrders Tryz.func7 rfl rfl (by kernel_rfl) (n:=6) (by decide +kernel) (I:=SolveBest_IA) (fun _ _=>z07) (A:=SolveBest_A)
  (fun args h r hr=>by
   unfold zgu at hr
   split at hr
   ·rename_i k z_k ty0 c ty1 d ty2 e ty3 f ty4 z_f ty5 z_p ty6 z_s ty7 z_y; cases hr; refine ⟨rfl,fun hp=>?_⟩; have hE:=SolveBest_E c d e f k ⟨z_k,z_f,z_p,z_s,z_y⟩ ty0 ty1 ty2 ty3 ty4 ty5 ty6 ty7 hp; exact hE
   ·cases hr)
open Go.ChangeShapes Go.WideShapes Go.ChangeAt Go.Deep
set_option maxHeartbeats 2000000 in
theorem ze5 (H:Type) (enc:TypeId × Value->H) (W:World) (base:Nat) (args:Array Value) (ds gs:List (DataW H)) (before:List MemPlace)
  (hval:∀ (j:Nat) t v,Tryz.f7.params[j]? = some t->args[j]? = some v->Value.okWide Tryz.prog W .any base t v)
  (hW:DataW.Whole enc Tryz.prog Tryz.f7.params.toList Rows.solveBestSpec.vars false W args.toList ds gs before)
  (hz:(DataW.weightsEach Tryz.prog (Tryz.f7.params.toList ++ Rows.solveBestSpec.plain.varTypes Tryz.prog) (ds ++ gs)).all (· <= reachBytes)=true) :
  Calls Tryz.prog 7 args W fun e W'=>∃ v,e = .returned v/\Rows.solveBestSpec.post enc Tryz.prog Tryz.f7 false true false false W args v W':=by
 have hW':=hW
 obtain ⟨p,q,hA0,hV,rfl,hfz,hnd⟩:=hW
 have hA:DataW.TrodAll enc Tryz.prog W 0 (fun _=>true) true Tryz.f7.params.toList args.toList ds p:=hA0
 rw [Tryz.params7] at hA hval hz
 obtain ⟨v0,vs0,d0,ds0,p0,q0,hargs,rfl,rfl,h0,r0⟩:=trodAll_cons hA
 obtain ⟨v1,vs1,d1,ds1,p1,q1,rfl,rfl,rfl,h1,r1⟩:=trodAll_cons r0
 obtain ⟨v2,vs2,d2,ds2,p2,q2,rfl,rfl,rfl,h2,r2⟩:=trodAll_cons r1
 obtain ⟨v3,vs3,d3,ds3,p3,q3,rfl,rfl,rfl,h3,r3⟩:=trodAll_cons r2
 obtain ⟨v4,vs4,d4,ds4,p4,q4,rfl,rfl,rfl,h4,r4⟩:=trodAll_cons r3
 obtain ⟨v5,vs5,d5,ds5,p5,q5,rfl,rfl,rfl,h5,r5⟩:=trodAll_cons r4
 obtain ⟨rfl,rfl,rfl⟩:=trodAll_nil r5
 obtain rfl:args = #[v0,v1,v2,v3,v4,v5]:=by cases args; simp_all
 obtain ⟨z0,hz⟩:=z4m hz
 obtain ⟨z1,hz⟩:=z4m hz
 obtain ⟨z2,hz⟩:=z4m hz
 obtain ⟨z3,hz⟩:=z4m hz
 obtain ⟨z4,hz⟩:=z4m hz
 obtain ⟨z5,hz⟩:=z4m hz
 obtain ⟨A0,c0,x0,rfl,hR0,hm0,hw0⟩:=zhr Tryz.underlying26 Tryz.underlying5 (by kernel_rfl) (hval 0 26 v0 rfl rfl) h0
 have hb0:=wf_u8 hw0
 have hs0:=z8k Tryz.underlying26 (of_decide_eq_true (by kernel_rfl)) h0 z0
 obtain ⟨A1,c1,x1,rfl,hR1,hm1,hw1⟩:=zhr Tryz.underlying26 Tryz.underlying5 (by kernel_rfl) (hval 1 26 v1 rfl rfl) h1
 have hb1:=wf_u8 hw1
 have hs1:=z8k Tryz.underlying26 (of_decide_eq_true (by kernel_rfl)) h1 z1
 obtain ⟨A2,c2,x2,rfl,hR2,hm2,hw2⟩:=zhr Tryz.underlying26 Tryz.underlying5 (by kernel_rfl) (hval 2 26 v2 rfl rfl) h2
 have hb2:=wf_u8 hw2
 have hs2:=z8k Tryz.underlying26 (of_decide_eq_true (by kernel_rfl)) h2 z2
 obtain ⟨A3,c3,x3,rfl,hR3,hm3,hw3⟩:=zhr Tryz.underlying26 Tryz.underlying5 (by kernel_rfl) (hval 3 26 v3 rfl rfl) h3
 have hb3:=wf_u8 hw3
 have hs3:=z8k Tryz.underlying26 (of_decide_eq_true (by kernel_rfl)) h3 z3
 obtain ⟨x4,rfl,rfl,rfl,wn4⟩:=open_int Tryz.underlying5 (hval 4 5 v4 rfl rfl) h4
 have hb4:=wf1_u8 wn4
 obtain ⟨A51,c51,A52,c52,A53,c53,A54,c54,k5,x51,x52,x53,x54,rfl,hR51,hR52,hR53,hR54,hb5,hs5⟩:=dec_cert (hval 5 39 v5 rfl rfl) h5
 replace hs5:=hs5 z5
 have hpre:(z68 x0 x1 x2 x3 x4 ⟨k5,x51,x52,x53,x54⟩).pre:=⟨hb0,hb1,hm0,hm1,hb2,hb3,hb4.1,hb4.2,⟨fun y hy=>hb5.1 y hy,fun y hy=>hb5.2.1 y hy,hs5.1,hs5.2.1,hs5.2.2.1,hs5.2.2.2⟩⟩
 have hc:=law_calls (enter_gen Tryz.func7 rfl rfl) SolveBest_ok (ρ:=fun k=>if k=0 then .slice A0 x0.length c0 else if k=1 then .slice A1 x1.length c1 else if k=2 then .slice A2 x2.length c2 else if k=3 then .slice A3 x3.length c3 else if k=4 then .slice A51 x51.length c51 else if k=5 then .slice A52 x52.length c52 else if k=6 then .slice A53 x53.length c53 else if k=7 then .slice A54 x54.length c54 else .int .i64 0) (W:=W) (args:=[.row 0,.row 1,.row 2,.row 3,.int .u8 x4,.agg [.int .i64 k5,.row 4,.row 5,.row 6,.row 7]]) (hp:=[(0,.row false 0 (.ints .u8 x0)),(1,.row false 0 (.ints .u8 x1)),(2,.row false 0 (.ints .u8 x2)),(3,.row false 0 (.ints .u8 x3)),(4,.row false 0 (.ints .i64 x51)),(5,.row false 0 (.ints .i64 x52)),(6,.row false 0 (.bools x53)),(7,.row false 0 (.ints .i64 x54))]) (fun k=>by (repeat' split) <;> rfl) ⟨⟨rfl,zc8 hR0⟩,⟨⟨rfl,zc8 hR1⟩,⟨⟨rfl,zc8 hR2⟩,⟨⟨rfl,zc8 hR3⟩,⟨⟨rfl,zc8 hR51⟩,⟨⟨rfl,zc8 hR52⟩,⟨⟨rfl,ro_bools hR53⟩,⟨⟨rfl,zc8 hR54⟩,trivial⟩⟩⟩⟩⟩⟩⟩⟩ ((z68 x0 x1 x2 x3 x4 ⟨k5,x51,x52,x53,x54⟩).pre/\SV.bool true = .bool true) ⟨hpre,rfl⟩ (by kernel_rfl)
 simp only [z0q,SV.toV] at hc
 refine Calls.mono (show Calls Tryz.prog 7 #[_,_,_,_,_,_] W _ from hc) fun e W' hx=>?_
 obtain ⟨rfl,hb⟩:=hx
 exact ⟨_,rfl,law_post laid_out hW' rfl (by kernel_rfl) Tryz.underlying4 (by kernel_rfl) rfl hb⟩
theorem zhk (os:Os) (started:os.Started) (H:Type) (enc:TypeId × Value->H) :
  ReturnsInHanded {} Tryz.checked os 7 .any (Rows.solveBestSpec.pre6 enc Tryz.prog Tryz.f7 Rows.solveBestRow.domain false) (Rows.solveBestSpec.post enc Tryz.prog Tryz.f7 false true false false):=by
 refine returnsInHanded_of_change_sized (C:=Tryz.checked) own_knob started (by kernel_rfl) Tryz.func7
  (ChangeSpec.witness6 (enc:=enc) (C:=Tryz.checked) false ⟨#[],#[.slice none 0 0,.slice none 0 0,.slice none 0 0,.slice none 0 0,.int .u8 0,.agg #[.int .i64 0,.slice none 0 0,.slice none 0 0,.slice none 0 0,.slice none 0 0]],[]⟩ 8 (by kernel_rfl) (by kernel_rfl) (by kernel_rfl) (by kernel_rfl)) ?_
 intro W base args ds gs before hval0 hW hcnd hz _
 exact ze5 H enc W base args ds gs before hval0 hW hz
theorem solveBest_holds:Rows.SolveBestSaid :=
 OpenClaim.holds_of_wide 7 Tryz.f7 rfl rfl rfl rfl rfl rfl rfl ⟨rfl,rfl,rfl,rfl,rfl⟩ rfl rfl rfl rfl rfl (by kernel_rfl) Tryz.func7 (by kernel_rfl)
  (of_decide_eq_true (by kernel_rfl)) (by unfold Func.isWrapper; first | (rw [if_pos (by decide +kernel)]; kernel_rfl) | (rw [if_neg (by decide +kernel)]; exact ⟨rfl,rfl⟩))
  (fun os started H enc _=>zhk os started H enc)
end Go.Proofs.YtggblkbecekbdaaGreat
end
