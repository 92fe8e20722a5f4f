/- SolveMade: the law is true for every input: the given statement, with no condition of its own. -/
import Derived.Test.YtggblkbecekbdaaGreatZG15
import Derived.Test.YtggblkbecekbdaaGreatZG14
import Derived.Test.YtggblkbecekbdaaGreatZG12
import Derived.Test.YtggblkbecekbdaaGreatZG5
set_option linter.all false
set_option linter.unusedSimpArgs false
set_option linter.unusedVariables false
set_option maxRecDepth 1000000
section
namespace Go.Proofs.YtggblkbecekbdaaGreat
open Go Go.RowKit Go.Ql Go.Vc
def mJ (p d:List Int) (h:Int):Inst:=⟨(z0q p d).sup,(z0q p d).arcs.map (zc2 h)⟩
def mB (p d e:List Int) (h:Int):Cert:=zd5 (mJ p d h) e
def mK (p d e:List Int) (h:Int) (k:Nat):Inst:=⟨madeS (mJ p d h) (mB p d e h).flow k,(mJ p d h).arcs⟩
def mN (p d:List Int):Nat:=(z0q p d).sup.length
def mKK (p d e:List Int) (h:Int):Inst:=mK p d e h (mN p d)
def mS (p d e:List Int):List Bool:=wholeF e (mN p d)
def mO (p d e:List Int):List Int:=(z7e (mS p d e) (mN p d)).map Int.ofNat
def mT (p d e:List Int) (h:Int):Int:=(z5u (mKK p d e h) (mS p d e)).getD 0
structure MadeL (p d e:List Int) (h:Int) (k:Nat):Prop where
 c:z22 (mKK p d e h) (mB p d e h) = 0
 r:(z5u (mKK p d e h) (mS p d e)).isSome = true
 o:(mO p d e).length ≠ 0
 n:(mO p d e).length ≠ mN p d
 kn:k <= mN p d
 f:∀ j,j < k->(mS p d e).getD j false = false
def z6c (p:List Int) (d:List Int) (e:List Int) (h:Int):FRes:={ pre:=Bytes p/\Bytes d/\p.length <= maxLen/\d.length <= maxLen/\Bytes e/\e.length <= maxLen/\0 <= h/\h <= 255,res:=.bool (true),rows:=[],eff:=[] }
def zgi:FS:=fun args h=>match args,h with
 | [.row 0,.row 1,.row 2,.int .u8 h],[(0,.row false ty0 (.ints .u8 p)),(1,.row false ty1 (.ints .u8 d)),(2,.row false ty2 (.ints .u8 e))]=>some (z6c p d e h)
 | _,_=>none
def z9g (p:List Int) (d:List Int) (e:List Int) (h:Int):List (Nat × Ann):=[(3,{ G:=(Nat),inv:=fun k=>⟨[(2,.row 2),(3,.int .u8 h),(9,.ptr 7 0 0 0),(10,.int .i64 k)],[(7,.box true 25 [.row 3,.row 4]),(3,.row true 2 (.ints .i64 (z0q p d).sup)),(4,.row true 35 (.arcs (z2z (zc2 h) (z0q p d).arcs k))),(2,.row false 0 (.ints .u8 e))],8⟩,rel:=fun k0 k=>k <= (z0q p d).arcs.length,meas:=fun k=>(z0q p d).arcs.length - k }),
 (10,{ G:=(Nat),inv:=fun k=>⟨[(2,.row 2),(9,.ptr 7 0 0 0),(11,.ptr 16 0 0 0),(12,.row 17),(13,.int .i64 k)],[(17,.row true 47 (.wides (z63 (mJ p d h) (mB p d e h).flow))),(16,.box true 39 [.int .i64 (mB p d e h).kind,.row 8,.row 9,.row 10,.row 11]),(8,.row true 2 (.ints .i64 (mB p d e h).flow)),(9,.row true 2 (.ints .i64 (mB p d e h).pot)),(10,.row true 4 (.bools (mB p d e h).side)),(11,.row true 3 (.ints .i64 (mB p d e h).cycle)),(7,.box true 25 [.row 3,.row 4]),(3,.row true 2 (.ints .i64 (mK p d e h k).sup)),(4,.row true 35 (.arcs (mJ p d h).arcs)),(2,.row false 0 (.ints .u8 e))],18⟩,rel:=fun k0 k=>k <= (z0q p d).sup.length,meas:=fun k=>(z0q p d).sup.length - k }),
 (1000014,{ G:=Unit,inv:=fun _=>⟨[(2,.row 2),(9,.ptr 7 0 0 0),(11,.ptr 16 0 0 0)],[(16,.box true 39 [.int .i64 (mB p d e h).kind,.row 8,.row 9,.row 10,.row 11]),(8,.row true 2 (.ints .i64 (mB p d e h).flow)),(9,.row true 2 (.ints .i64 (mB p d e h).pot)),(10,.row true 4 (.bools (mB p d e h).side)),(11,.row true 3 (.ints .i64 (mB p d e h).cycle)),(7,.box true 25 [.row 3,.row 4]),(3,.row true 2 (.ints .i64 (mKK p d e h).sup)),(4,.row true 35 (.arcs (mJ p d h).arcs)),(2,.row false 0 (.ints .u8 e))],18⟩,rel:=fun _ _=>True,meas:=fun _=>0 }),
 (1000021,{ G:=(Unit),inv:=fun _u=>⟨[(9,.ptr 7 0 0 0),(17,.int .u16 0),(18,.ptr 27 0 0 0),(19,.bool true),(20,.ptr 28 0 0 0),(22,.row 29)],[(29,.row true 4 (.bools (mS p d e))),(28,.box true 47 [.int .i64 (z13 (mKK p d e h) (mB p d e h)).hi,.int .u64 (z13 (mKK p d e h) (mB p d e h)).lo]),(27,.box true 47 [.int .i64 (z13 (mKK p d e h) (mB p d e h)).hi,.int .u64 (z13 (mKK p d e h) (mB p d e h)).lo]),(7,.box true 25 [.row 3,.row 4]),(3,.row true 2 (.ints .i64 (mKK p d e h).sup)),(4,.row true 35 (.arcs (mJ p d h).arcs))],31⟩,rel:=fun _u0 _u=>z22 (mKK p d e h) (mB p d e h) = 0,meas:=fun _u=>0 }),
 (28,{ G:=(Nat),inv:=fun k=>⟨[(9,.ptr 7 0 0 0),(17,.int .u16 0),(18,.ptr 27 0 0 0),(19,.bool true),(20,.ptr 28 0 0 0),(22,.row 29),(25,.int .i64 (mT p d e h)),(27,.int .i64 (z2h (mKK p d e h) (mS p d e))),(29,.row 32),(30,.int .i64 k)],[(32,.row true 3 (.ints .i64 (mO p d e))),(29,.row true 4 (.bools (mS p d e))),(28,.box true 47 [.int .i64 (z13 (mKK p d e h) (mB p d e h)).hi,.int .u64 (z13 (mKK p d e h) (mB p d e h)).lo]),(27,.box true 47 [.int .i64 (z13 (mKK p d e h) (mB p d e h)).hi,.int .u64 (z13 (mKK p d e h) (mB p d e h)).lo]),(7,.box true 25 [.row 3,.row 4]),(3,.row true 2 (.ints .i64 (mKK p d e h).sup)),(4,.row true 35 (.arcs (mJ p d h).arcs))],33⟩,rel:=fun k0 k=>MadeL p d e h k,meas:=fun k=>mN p d - k })]
def SolveMade_A:List SV->z0e->List (Nat × Ann):=fun args h=>match args,h with
 | [.row 0,.row 1,.row 2,.int .u8 h],[(0,.row false ty0 (.ints .u8 p)),(1,.row false ty1 (.ints .u8 d)),(2,.row false ty2 (.ints .u8 e))]=>z9g p d e h
 | _,_=>[]
def zby:z0b:=[(known20_n,(true,z04 true zfb)),(Inst_n,(true,z04 true Inst_fs)),(Best19_n,(true,z04 true zi3)),(Net_n,(true,z04 true Net_fs)),(Back_n,(true,z04 true Back_fs)),(zkv,(true,z04 true zb1)),(Solve_n,(true,z0t true zh9)),(ValueC_n,(true,z04 true zd3)),(Marks_n,(true,z04 true Marks_fs)),(CRoom_n,(true,z04 true CRoom_fs)),(Need_n,(true,z04 true Need_fs)),(rKept_n,(true,z04 true rKept_fs)),(Kind_n,(true,z0t true Kind_fs))]
abbrev SolveMade_n:Nat:=4
def zij (p:List Int) (d:List Int) (e:List Int) (h:Int):List (Nat × z09):=[]
def SolveMade_IA:List SV->z0e->List (Nat × z09):=fun _ _=>[]
end Go.Proofs.YtggblkbecekbdaaGreat
end
section
namespace Go.Proofs.YtggblkbecekbdaaGreat
open Go Go.RowKit Go.Ql Go.Vc
abbrev z73 (p:List Int) (d:List Int) (e:List Int) (h:Int):=((true = true->(((0:Int) == (0:Int)) = true->(true = true->(decide ([(z13 (mKK p d e h) (mB p d e h)).hi,(z13 (mKK p d e h) (mB p d e h)).lo] = [(z13 (mKK p d e h) (mB p d e h)).hi,(z13 (mKK p d e h) (mB p d e h)).lo]) = true/\True)/\True)/\(true = false->(false = true/\True)/\True))/\(((0:Int) == (0:Int)) = false->(false = true/\True)/\True))/\(true = false->(false = true/\True)/\True))
abbrev z3d (p:List Int) (d:List Int) (e:List Int) (h:Int) (g:Nat) (x:Int):=((mKK p d e h).sup.set (↑g:Int).toNat (IntKind.i64.wrap (x + IntKind.i64.wrap (IntKind.i64.wrap (mT p d e h - z2h (mKK p d e h) (mS p d e)) + (1:Int)))))
abbrev z9b (p:List Int) (d:List Int) (e:List Int) (h:Int):=(mS p d e = mS p d e/\(((z13 (mKK p d e h) (mB p d e h)).hi = (z13 (mKK p d e h) (mB p d e h)).hi/\((z13 (mKK p d e h) (mB p d e h)).lo = (z13 (mKK p d e h) (mB p d e h)).lo/\True))/\(((z13 (mKK p d e h) (mB p d e h)).hi = (z13 (mKK p d e h) (mB p d e h)).hi/\((z13 (mKK p d e h) (mB p d e h)).lo = (z13 (mKK p d e h) (mB p d e h)).lo/\True))/\((True/\(True/\True))/\((mKK p d e h).sup = (mKK p d e h).sup/\((mJ p d h).arcs = (mJ p d h).arcs/\True))))))
abbrev z9c (p:List Int) (d:List Int) (e:List Int) (h:Int) (g:Nat):=((True/\(0 = 0/\(0 = 0/\True)))/\(((mB p d e h).kind = (mB p d e h).kind/\(True/\(True/\(True/\(True/\True)))))/\((mB p d e h).flow = (mB p d e h).flow/\((mB p d e h).pot = (mB p d e h).pot/\((mB p d e h).side = (mB p d e h).side/\((mB p d e h).cycle = (mB p d e h).cycle/\((True/\(True/\True))/\((mK p d e h g).sup = (mKK p d e h).sup/\((mJ p d h).arcs = (mJ p d h).arcs/\(e = e/\True))))))))))
abbrev z2u (p:List Int) (d:List Int) (h:Int) (g:Nat) (e:List Int):=(zd5 { sup:=(z0q p d).sup,arcs:=z2z (zc2 h) (z0q p d).arcs g:Inst } e)
abbrev z9d (p:List Int) (d:List Int) (g':Nat) (g:Nat) (h:Int) (e:List Int):=((z0q p d).arcs.length - g' < (z0q p d).arcs.length - g/\((True/\(h = h/\(0 = 0/\(IntKind.i64.wrap ((↑g:Int) + (1:Int)) = (↑g':Int)/\True))))/\((True/\(True/\True))/\((z0q p d).sup = (z0q p d).sup/\(z2z (zc2 h) (z0q p d).arcs g = z2z (zc2 h) (z0q p d).arcs g'/\(e = e/\True))))))
abbrev z4e (p:List Int) (d:List Int) (e:List Int) (h:Int):=(z5u { sup:=(mKK p d e h).sup,arcs:=(mJ p d h).arcs:Inst } (mS p d e))
abbrev z5q (p:List Int) (d:List Int) (e:List Int):=(↑(List.map Int.ofNat (z7e (mS p d e) (z3h (↑(mS p d e).length:Int)))).length:Int)
abbrev z9e (p:List Int) (d:List Int) (e:List Int) (h:Int):=(z22 { sup:=(mKK p d e h).sup,arcs:=(mJ p d h).arcs:Inst } { kind:=(mB p d e h).kind,flow:=(mB p d e h).flow,pot:=(mB p d e h).pot,side:=(mB p d e h).side,cycle:=(mB p d e h).cycle:Cert } != (0:Int))
abbrev z9f (p:List Int) (d:List Int) (e:List Int) (h:Int):=(z13 { sup:=(mKK p d e h).sup,arcs:=(mJ p d h).arcs:Inst } { kind:=(mB p d e h).kind,flow:=(mB p d e h).flow,pot:=(mB p d e h).pot,side:=(mB p d e h).side,cycle:=(mB p d e h).cycle:Cert })
def z9a (p : List Int) (d : List Int) (e : List Int) (h : Int) (ty0 ty1 ty2 : TypeId) : Prop :=
   (Bytes p/\(Bytes d/\(p.length <= maxLen/\(d.length <= maxLen))))/\∃ (g0:Nat),(g0 <= (z0q p d).arcs.length/\((True/\(h = h/\(0 = 0/\((0:Int) = ↑g0/\True))))/\((True/\(True/\True))/\((z0q p d).sup = (z0q p d).sup/\((z0q p d).arcs = z2z (zc2 h) (z0q p d).arcs g0/\(e = e/\True))))))/\∀ (g:Nat),g <= (z0q p d).arcs.length->(decide ((↑g:Int) < ↑(z2z (zc2 h) (z0q p d).arcs g).length) = true->((0:Int) <= ↑g/\((↑g:Int) < ↑(z2z (zc2 h) (z0q p d).arcs g).length))/\((↑g:Int).toNat < (z2z (zc2 h) (z0q p d).arcs g).length/\(∀ (x:Arc),(z2z (zc2 h) (z0q p d).arcs g)[(↑g:Int).toNat]? = some x->((x.cap == (4611686018427387904:Int)) = true->(2:Int) ≠ (0:Int)/\(((h.tmod (2:Int) == (1:Int)) = true->((0:Int) <= ↑g/\((↑g:Int) < ↑(z2z (zc2 h) (z0q p d).arcs g).length))/\((↑g:Int).toNat < (z2z (zc2 h) (z0q p d).arcs g).length/\(∀ (x:Arc),(z2z (zc2 h) (z0q p d).arcs g)[(↑g:Int).toNat]? = some x->((0:Int) <= ↑g/\((↑g:Int) < ↑(z2z (zc2 h) (z0q p d).arcs g).length))/\((↑g:Int).toNat < (z2z (zc2 h) (z0q p d).arcs g).length/\(∀ (x_1:Arc),(z2z (zc2 h) (z0q p d).arcs g)[(↑g:Int).toNat]? = some x_1->∃ (g':Nat),g' <= (z0q p d).arcs.length/\((z0q p d).arcs.length - g' < (z0q p d).arcs.length - g/\((True/\(h = h/\(0 = 0/\(IntKind.i64.wrap ((↑g:Int) + (1:Int)) = (↑g':Int)/\True))))/\((True/\(True/\True))/\((z0q p d).sup = (z0q p d).sup/\((z2z (zc2 h) (z0q p d).arcs g).set (↑g:Int).toNat { src:=x_1.src,dst:=x_1.dst,low:=x_1.low,cap:=IntKind.i64.wrap (x.low + (5:Int)),cost:=x_1.cost:Arc } = z2z (zc2 h) (z0q p d).arcs g'/\(e = e/\True)))))))))))/\((h.tmod (2:Int) == (1:Int)) = false->∃ (g':Nat),g' <= (z0q p d).arcs.length/\(z9d p d g' g h e))))/\((x.cap == (4611686018427387904:Int)) = false->∃ (g':Nat),g' <= (z0q p d).arcs.length/\(z9d p d g' g h e)))))/\(decide ((↑g:Int) < ↑(z2z (zc2 h) (z0q p d).arcs g).length) = false->(Bytes e/\(e.length <= maxLen/\(NiceI { sup:=(z0q p d).sup,arcs:=z2z (zc2 h) (z0q p d).arcs g:Inst })))/\((z0q p d).sup.length <= (10000:Nat)/\((z2z (zc2 h) (z0q p d).arcs g).length <= (10000:Nat)/\(A64 (z2u p d h g e).flow)))/\(∃ (g0:Nat),(g0 <= (z0q p d).sup.length/\((True/\(0 = 0/\(0 = 0/\(True/\((0:Int) = ↑g0/\True)))))/\(z63 { sup:=(z0q p d).sup,arcs:=z2z (zc2 h) (z0q p d).arcs g:Inst } (z2u p d h g e).flow = z63 (mJ p d h) (mB p d e h).flow/\(((z2u p d h g e).kind = (mB p d e h).kind/\(True/\(True/\(True/\(True/\True)))))/\((z2u p d h g e).flow = (mB p d e h).flow/\((z2u p d h g e).pot = (mB p d e h).pot/\((z2u p d h g e).side = (mB p d e h).side/\((z2u p d h g e).cycle = (mB p d e h).cycle/\((True/\(True/\True))/\((z0q p d).sup = (mK p d e h g0).sup/\(z2z (zc2 h) (z0q p d).arcs g = (mJ p d h).arcs/\(e = e/\True))))))))))))/\(∀ (g:Nat),g <= (z0q p d).sup.length->(decide ((↑g:Int) < ↑(z63 (mJ p d h) (mB p d e h).flow).length) = true->(decide ((↑g:Int) < ↑(mK p d e h g).sup.length) = true->((0:Int) <= ↑g/\((↑g:Int) < ↑(z63 (mJ p d h) (mB p d e h).flow).length))/\((↑g:Int).toNat < (z63 (mJ p d h) (mB p d e h).flow).length/\(∀ (x:Wide),(z63 (mJ p d h) (mB p d e h).flow)[(↑g:Int).toNat]? = some x->x.ok/\(((0:Int) <= ↑g/\((↑g:Int) < ↑(mK p d e h g).sup.length))/\((↑g:Int).toNat < (mK p d e h g).sup.length/\(∃ (g':Nat),g' <= (z0q p d).sup.length/\((z0q p d).sup.length - g' < (z0q p d).sup.length - g/\((True/\(0 = 0/\(0 = 0/\(True/\(IntKind.i64.wrap ((↑g:Int) + (1:Int)) = (↑g':Int)/\True)))))/\(z63 (mJ p d h) (mB p d e h).flow = z63 (mJ p d h) (mB p d e h).flow/\(((mB p d e h).kind = (mB p d e h).kind/\(True/\(True/\(True/\(True/\True)))))/\((mB p d e h).flow = (mB p d e h).flow/\((mB p d e h).pot = (mB p d e h).pot/\((mB p d e h).side = (mB p d e h).side/\((mB p d e h).cycle = (mB p d e h).cycle/\((True/\(True/\True))/\((mK p d e h g).sup.set (↑g:Int).toNat (if I64 x.v then x.v else (0:Int)) = (mK p d e h g').sup/\((mJ p d h).arcs = (mJ p d h).arcs/\(e = e/\True))))))))))))))))))/\(decide ((↑g:Int) < ↑(mK p d e h g).sup.length) = false->∃ (g_1:Unit),True/\(z9c p d e h g)))/\(decide ((↑g:Int) < ↑(z63 (mJ p d h) (mB p d e h).flow).length) = false->∃ (g_1:Unit),True/\(z9c p d e h g))))/\∀ (g:Unit),True->(z51 { kind:=(mB p d e h).kind,flow:=(mB p d e h).flow,pot:=(mB p d e h).pot,side:=(mB p d e h).side,cycle:=(mB p d e h).cycle:Cert }/\(z97 { sup:=(mKK p d e h).sup,arcs:=(mJ p d h).arcs:Inst }/\((mB p d e h).kind = (1:Int))))/\((z9e p d e h) = true->True/\((true = true/\True)/\True))/\((z9e p d e h) = false->(z02 { sup:=(mKK p d e h).sup,arcs:=(mJ p d h).arcs:Inst } = (0:Int)->SmallI { sup:=(mKK p d e h).sup,arcs:=(mJ p d h).arcs:Inst })/\∀ (g:Cert × Int),SolveP { sup:=(mKK p d e h).sup,arcs:=(mJ p d h).arcs:Inst } g.1 g.2->(z51 { kind:=g.1.kind,flow:=g.1.flow,pot:=g.1.pot,side:=g.1.side,cycle:=g.1.cycle:Cert }/\(z97 { sup:=(mKK p d e h).sup,arcs:=(mJ p d h).arcs:Inst }))/\(z51 { kind:=(mB p d e h).kind,flow:=(mB p d e h).flow,pot:=(mB p d e h).pot,side:=(mB p d e h).side,cycle:=(mB p d e h).cycle:Cert }/\(z97 { sup:=(mKK p d e h).sup,arcs:=(mJ p d h).arcs:Inst }))/\((↑(mKK p d e h).sup.length:Int) = ↑(mKK p d e h).sup.length/\((0:Int) <= ↑(mKK p d e h).sup.length/\((↑(mKK p d e h).sup.length:Int) <= 1000000000)))/\((Bytes e/\((↑(List.replicate (↑(mKK p d e h).sup.length:Int).toNat false).length:Int) <= 1000000))/\(∃ (g_1:Unit),z22 (mKK p d e h) (mB p d e h) = (0:Int)/\((0 = 0/\(g.2 = (0:Int)/\(0 = 0/\(decide (g.1.kind = (1:Int)) = true/\(0 = 0/\(True/\True))))))/\(List.take (List.replicate (↑(mKK p d e h).sup.length:Int).toNat false).length (z2d e (↑(List.replicate (↑(mKK p d e h).sup.length:Int).toNat false).length:Int).toNat) ++ List.drop (z2d e (↑(List.replicate (↑(mKK p d e h).sup.length:Int).toNat false).length:Int).toNat).length (List.replicate (↑(mKK p d e h).sup.length:Int).toNat false) = mS p d e/\(((z9f p d e h).hi = (z13 (mKK p d e h) (mB p d e h)).hi/\((z9f p d e h).lo = (z13 (mKK p d e h) (mB p d e h)).lo/\True))/\(((z13 { sup:=(mKK p d e h).sup,arcs:=(mJ p d h).arcs:Inst } { kind:=g.1.kind,flow:=g.1.flow,pot:=g.1.pot,side:=g.1.side,cycle:=g.1.cycle:Cert }).hi = (z13 (mKK p d e h) (mB p d e h)).hi/\((z13 { sup:=(mKK p d e h).sup,arcs:=(mJ p d h).arcs:Inst } { kind:=g.1.kind,flow:=g.1.flow,pot:=g.1.pot,side:=g.1.side,cycle:=g.1.cycle:Cert }).lo = (z13 (mKK p d e h) (mB p d e h)).lo/\True))/\((True/\(True/\True))/\((mKK p d e h).sup = (mKK p d e h).sup/\((mJ p d h).arcs = (mJ p d h).arcs/\True)))))))))/\∀ (g:Unit),z22 (mKK p d e h) (mB p d e h) = (0:Int)->(A64a (mJ p d h).arcs/\((mJ p d h).arcs.length <= (140737488351232:Nat)))/\(roomW (z4e p d e h)).ok/\(A64 (mKK p d e h).sup/\((mKK p d e h).sup.length <= (140737488351232:Nat)))/\(W (z2h { sup:=(mKK p d e h).sup,arcs:=(mJ p d h).arcs:Inst } (mS p d e))).ok/\True/\((!(z4e p d e h).isSome) = true->True/\(z73 p d e h))/\((!(z4e p d e h).isSome) = false->(((z5q p d e) == (0:Int)) = true->True/\(z73 p d e h))/\(((z5q p d e) == (0:Int)) = false->(((z5q p d e) == (↑(mS p d e).length:Int)) = true->True/\(z73 p d e h))/\(((z5q p d e) == (↑(mS p d e).length:Int)) = false->∃ (g0:Nat),(MadeL p d e h g0/\((0 = 0/\((0:Int) = 0/\(0 = 0/\(true = true/\(0 = 0/\(True/\((if I64 (roomW (z4e p d e h)).v then (roomW (z4e p d e h)).v else (0:Int)) = mT p d e h/\((if I64 (W (z2h { sup:=(mKK p d e h).sup,arcs:=(mJ p d h).arcs:Inst } (mS p d e))).v then (W (z2h { sup:=(mKK p d e h).sup,arcs:=(mJ p d h).arcs:Inst } (mS p d e))).v else (0:Int)) = z2h (mKK p d e h) (mS p d e)/\(True/\((0:Int) = ↑g0/\True))))))))))/\(List.map Int.ofNat (z7e (mS p d e) (z3h (↑(mS p d e).length:Int))) = mO p d e/\(z9b p d e h))))/\∀ (g:Nat),MadeL p d e h g->((0:Int) <= ↑g/\((↑g:Int) < ↑(mS p d e).length))/\(↑g:Int).toNat < (mS p d e).length/\∀ (x:Bool),(mS p d e)[(↑g:Int).toNat]? = some x->((!x) = true->∃ (g':Nat),MadeL p d e h g'/\(mN p d - g' < mN p d - g/\((0 = 0/\((0:Int) = 0/\(0 = 0/\(true = true/\(0 = 0/\(True/\(mT p d e h = mT p d e h/\(z2h (mKK p d e h) (mS p d e) = z2h (mKK p d e h) (mS p d e)/\(True/\(IntKind.i64.wrap ((↑g:Int) + (1:Int)) = (↑g':Int)/\True))))))))))/\(mO p d e = mO p d e/\(z9b p d e h)))))/\((!x) = false->(0:Nat) + (mKK p d e h).sup.length <= (1000000000:Nat)/\((0:Int) <= ↑g/\((↑g:Int) < ↑(mKK p d e h).sup.length))/\(↑g:Int).toNat < (mKK p d e h).sup.length/\(∀ (x:Int),(mKK p d e h).sup[(↑g:Int).toNat]? = some x->((0:Int) <= ↑g/\((↑g:Int) < ↑(mKK p d e h).sup.length))/\((↑g:Int).toNat < (mKK p d e h).sup.length/\(((0:Int) <= 0/\((0:Int) < ↑(mO p d e).length))/\(Int.toNat (0:Int) < (mO p d e).length/\(∀ (x_1:Int),(mO p d e)[Int.toNat (0:Int)]? = some x_1->((0:Int) <= x_1/\(x_1 < (↑(z3d p d e h g x).length:Int)))/\(x_1.toNat < (z3d p d e h g x).length/\(∀ (x_2:Int),(z3d p d e h g x)[x_1.toNat]? = some x_2->((0:Int) <= x_1/\(x_1 < (↑(z3d p d e h g x).length:Int)))/\(x_1.toNat < (z3d p d e h g x).length/\(True/\(∀ (g_1:Int × Int),KindQ { sup:=(z3d p d e h g x).set x_1.toNat (IntKind.i64.wrap (x_2 - IntKind.i64.wrap (IntKind.i64.wrap (mT p d e h - z2h (mKK p d e h) (mS p d e)) + (1:Int)))),arcs:=(mJ p d h).arcs:Inst } g_1.1 g_1.2->True/\((true = true->(((0:Int) == (0:Int)) = true->(true = true->(decide ([(z13 (mKK p d e h) (mB p d e h)).hi,(z13 (mKK p d e h) (mB p d e h)).lo] = [(z13 (mKK p d e h) (mB p d e h)).hi,(z13 (mKK p d e h) (mB p d e h)).lo]) = true->((g_1.2 == (0:Int)) = true->((g_1.1 == (2:Int)) = true/\True)/\True)/\((g_1.2 == (0:Int)) = false->(false = true/\True)/\True))/\(decide ([(z13 (mKK p d e h) (mB p d e h)).hi,(z13 (mKK p d e h) (mB p d e h)).lo] = [(z13 (mKK p d e h) (mB p d e h)).hi,(z13 (mKK p d e h) (mB p d e h)).lo]) = false->(false = true/\True)/\True))/\(true = false->(false = true/\True)/\True))/\(((0:Int) == (0:Int)) = false->(false = true/\True)/\True))/\(true = false->(false = true/\True)/\True))))))))))))))))))
theorem SolveMade_q (p:List Int) (d:List Int) (e:List Int) (h:Int) (ty0 ty1 ty2:TypeId):z9a p d e h ty0 ty1 ty2 = z3a TT zby (zij p d e h) (z9g p d e h) Tryz.f4 [.row 0,.row 1,.row 2,.int .u8 h] [(0,.row false ty0 (.ints .u8 p)),(1,.row false ty1 (.ints .u8 d)),(2,.row false ty2 (.ints .u8 e))] (z6c p d e h):=by kernel_rfl
theorem SolveMade_E (p:List Int) (d:List Int) (e:List Int) (h:Int) (ty0 ty1 ty2:TypeId) (hp:Bytes p/\Bytes d/\p.length <= maxLen/\d.length <= maxLen/\Bytes e/\e.length <= maxLen/\0 <= h/\h <= 255):FVc TT zby (zij p d e h) (z9g p d e h) Tryz.f4 [.row 0,.row 1,.row 2,.int .u8 h] [(0,.row false ty0 (.ints .u8 p)),(1,.row false ty1 (.ints .u8 d)),(2,.row false ty2 (.ints .u8 e))] (z6c p d e h):=by
 refine FVc.of (z9a p d e h ty0 ty1 ty2) (SolveMade_q p d e h ty0 ty1 ty2) ?_
 unfold z9a
 delta z9f z9e z5q z4e z9d z2u z9c z9b z3d z73
 obtain ⟨p1,p2,p3,p4,p5,p6,h0,h1⟩:=hp
 have l1:=instF_sup p d
 have l2:=nOf_pos d
 have l3:=nOf_le d
 have l4:=instF_arcs p d
 have hn:∀ a ∈ (z0q p d).arcs,a.Nice (z0q p d).sup.length:=fun a ha=>by rw [l1]; exact instF_nice p d a ha
 have Jn:∀ a ∈ (mJ p d h).arcs,a.Nice (z0q p d).sup.length:=fun a ha=>by
  obtain ⟨b,hb,rfl⟩:=List.mem_map.1 ha
  exact capM_nice (hn b hb)
 have Jm:(mJ p d h).arcs.length = (z0q p d).arcs.length:=List.length_map _
 have JI:NiceI (mJ p d h):=⟨Jn,by show (z0q p d).sup.length <= _; omega,by omega⟩
 have hB7:∀ y ∈ (mB p d e h).flow,0 <= y/\y <= 7:=best_seven (I:=mJ p d h) Jn _ (zjo _ e) (flow_in Jn e) _
 have hBl:(mB p d e h).flow.length = (mJ p d h).arcs.length:=(zit _ _ _ _).trans (zjo _ e)
 have hBA:A64 (mB p d e h).flow:=fun y hy=>by have:=hB7 y hy; unfold I64; omega
 have hw:Within 1000 (mKK p d e h).sup:=madeS_within (I:=mJ p d h) hB7 (by omega)
 have kl:∀ k,(mK p d e h k).sup.length = (z0q p d).sup.length:=fun k=>madeS_len _ _ _
 have kkl:(mKK p d e h).sup.length = (z0q p d).sup.length:=kl _
 have sl:(mS p d e).length = (z0q p d).sup.length:=wholeF_len _ _
 have JA:=few_a64 Jn
 have hIO:z97 (mKK p d e h):=⟨by omega,by show (mJ p d h).arcs.length <= _; omega,fun y hy=>by have:=hw y hy; unfold I64; omega,JA⟩
 have hPl:(z4l e (z0q p d).sup.length).length = (z0q p d).sup.length:=by unfold z4l; simp
 have hPA:A64 (z4l e (z0q p d).sup.length):=fun y hy=>by
  unfold z4l at hy
  rw [List.mem_map] at hy
  obtain ⟨k,_,rfl⟩:=hy
  unfold potE
  unfold I64
  split <;> omega
 have hBO:z51 (mB p d e h):=⟨hBA,hPA,by omega,by show (z4l e (z0q p d).sup.length).length <= _; omega,Nat.zero_le _,Nat.zero_le _⟩
 have hwr:∀ j:Nat,j <= 1000->IntKind.i64.wrap ((j:Int) + 1) = ((j + 1:Nat):Int):=fun j hj=>by rw [w64 (by omega) (by omega)]; omega
 have eK:(⟨(mKK p d e h).sup,(mJ p d h).arcs⟩:Inst) = mKK p d e h:=rfl
 simp only [eq_self,exists_const,forall_const,decide_eq_true_eq,decide_eq_false_iff_not,and_true,true_and,bne_iff_ne,ne_eq,bne_eq_false_iff_eq,Int.toNat_natCast,Bool.not_eq_true',Bool.not_eq_false',beq_iff_eq,beq_eq_false_iff_ne,z08]
 simp only [eK]
 refine ⟨⟨p1,p2,p3,p4⟩,0,⟨Nat.zero_le _,rfl,(stepL_zero _ _).symm⟩,fun g hg=>⟨fun hl=>?_,fun hl=>?_⟩⟩
 ·rw [zeg] at hl ⊢
  have st:∀ l:List Arc,l = z2z (zc2 h) (z0q p d).arcs (g + 1)->∃ g',g' <= (z0q p d).arcs.length/\(z0q p d).arcs.length - g' < (z0q p d).arcs.length - g/\IntKind.i64.wrap ((g:Int) + 1) = (g':Int)/\l = z2z (zc2 h) (z0q p d).arcs g':=fun l hl=>⟨g + 1,by omega,by omega,hwr g (by omega),hl⟩
  refine ⟨⟨by omega,by omega⟩,by omega,fun x hx=>?_⟩
  have hx':=stepL_get hx
  have hq:=hn x (List.mem_of_getElem? hx')
  have hi:inf = 4611686018427387904:=rfl
  have hm:h.tmod 2 = h % 2:=Int.tmod_eq_emod_of_nonneg h0
  refine ⟨fun hc=>⟨by decide,fun h2=>⟨⟨by omega,by omega⟩,by omega,fun y hy=>⟨⟨by omega,by omega⟩,by omega,fun z hz=>st _ ?_⟩⟩,fun h2=>st _ (stepL_same hx' ?_)⟩,fun hc=>st _ (stepL_same hx' ?_)⟩
  ·rw [hx] at hy hz; cases hy; cases hz
   have:=hq.l0; have:=hq.l1
   rw [w64 (by omega) (by omega)]
   refine stepL_set hx' ?_
   unfold zc2
   rw [if_pos ⟨hc,by omega⟩]
  ·unfold zc2; rw [if_neg (fun hh=>h2 (by omega))]
  ·unfold zc2; rw [if_neg (fun hh=>hc hh.1)]
 rw [zeg] at hl
 have eE:z2z (zc2 h) (z0q p d).arcs g = (mJ p d h).arcs:=stepL_end _ _ (by omega)
 rw [eE]
 have eJ:(⟨(z0q p d).sup,(mJ p d h).arcs⟩:Inst) = mJ p d h:=rfl
 have eB:zd5 (mJ p d h) e = mB p d e h:=rfl
 rw [eJ,eB]
 clear hl hg g eE
 refine ⟨⟨p5,p6,JI⟩,⟨by omega,by omega,hBA⟩,⟨0,⟨Nat.zero_le _,rfl,rfl,rfl,rfl,rfl,rfl,rfl,(madeS_zero (mJ p d h) _).symm,rfl⟩,fun g hg=>?_⟩,⟨hBO,hIO,rfl⟩,fun _=>trivial,fun hck=>?_⟩
 ·have en:(z63 (mJ p d h) (mB p d e h).flow).length = (z0q p d).sup.length:=zhj _ _
  have fin:(z0q p d).sup.length <= g->(mK p d e h g).sup = (mKK p d e h).sup:=fun h=>by rw [show g = (z0q p d).sup.length by omega]; rfl
  rw [en,kl]
  refine ⟨fun hl=>⟨fun _=>⟨⟨by omega,by omega⟩,by omega,fun x hx=>?_⟩,fun h=>absurd hl h⟩,fun h=>fin (by omega)⟩
  obtain ⟨-,rfl⟩:=z14 hx
  have nb:=zax (n:=((mJ p d h).sup.length:Int)) (l:=(mJ p d h).arcs) (x:=(mB p d e h).flow) (v:=g) (B:=7) (by omega) (fun u hu=>by have:=hB7 u hu; omega) (mJ p d h).arcs.length
  refine ⟨zbg _,⟨by omega,by omega⟩,by omega,g + 1,by omega,by omega,hwr g (by omega),?_⟩
  rw [v_of (by unfold z96; omega),if_pos (by unfold I64; omega)]
  exact madeS_step (I:=mJ p d h)
 ·have hr:=(z59 hck).1
  refine ⟨fun _=>⟨fun y hy=>by have:=hw y hy; omega,fun a ha=>?_⟩,?_⟩
  ·have hq:=Jn a ha; have:=hq.l0; have:=hq.l1; have:=hq.c0
   exact ⟨by omega,hq.c1.symm.imp_right (fun h=>by omega)⟩
  ·rintro ⟨c,i⟩ hS
   dsimp only at hS ⊢
   obtain ⟨s1,s2,-⟩:=solve_ok hr hS
   obtain ⟨o1,o2⟩:=cert_one s1 hBO s2 hck
   have o3:=(hS.ok hr).1
   rw [o2]
   refine ⟨⟨s1,hIO⟩,⟨hBO,hIO⟩,⟨by omega,by omega⟩,⟨⟨p5,by simp only [List.length_replicate]; omega⟩,hck,⟨o3,o1⟩,?_,⟨trivial,trivial⟩,rfl,rfl⟩,?_⟩
   ·rw [List.length_replicate,kkl]
    exact wholeF_drop _ _
   intro _
   clear hS s1 s2 o1 o2 o3
   clear c i
   have ht:∀ t,z5u (mKK p d e h) (mS p d e) = some t->-1000 <= t/\t <= 1000:=fun t ht=>by have:=zds (n:=((z0q p d).sup.length:Int)) Jn ht; omega
   have hnb:=z8j (side:=mS p d e) (by omega) hw (mKK p d e h).sup.length
   have hnf:z2h (mKK p d e h) (mS p d e) = z44 (mS p d e) (mKK p d e h).sup (mKK p d e h).sup.length:=rfl
   have hnb2:-7000 <= z2h (mKK p d e h) (mS p d e)/\z2h (mKK p d e h) (mS p d e) <= 7000:=by rw [hnf]; omega
   have eo:List.map Int.ofNat (z7e (mS p d e) (z3h ((mS p d e).length:Int))) = mO p d e:=by rw [keptN_small (by omega),sl]; rfl
   rw [eo,sl]
   refine ⟨⟨JA.1,by omega⟩,?_,⟨hIO.2.2.1,by omega⟩,zbg _,fun _=>⟨⟨fun h=>(by cases h),fun h=>absurd trivial h⟩,fun h=>(by cases h)⟩,fun hro=>⟨fun _=>⟨⟨fun h=>(by cases h),fun h=>absurd trivial h⟩,fun h=>(by cases h)⟩,fun ho=>⟨fun _=>⟨⟨fun h=>(by cases h),fun h=>absurd trivial h⟩,fun h=>(by cases h)⟩,fun hon=>⟨0,⟨⟨hck,hro,by omega,by show _ ≠ (z0q p d).sup.length; omega,Nat.zero_le _,fun j hj=>absurd hj (Nat.not_lt_zero j)⟩,⟨?_,?_,rfl⟩,rfl⟩,fun g hg=>?_⟩⟩⟩⟩
   ·unfold roomW
    split
    ·exact zbg _
    ·exact W_zero ▸ zbg 0
   ·obtain ⟨t,et⟩:=Option.isSome_iff_exists.1 hro
    have:=ht t et
    rw [et]
    unfold roomW mT
    rw [et]
    rw [v_of (by unfold z96; omega),if_pos (by unfold I64; omega)]; rfl
   ·rw [v_of (by unfold z96; omega),if_pos (by unfold I64; omega)]
   ·obtain ⟨-,-,g3,g4,g5,g6⟩:=hg
    have hgl:g < (z0q p d).sup.length:=by
     obtain ⟨j,j1,j2⟩:=keptF_not (off:=mS p d e) (n:=mN p d) (by intro h; exact g4 (by unfold mO; rw [List.length_map]; exact h))
     refine Classical.byContradiction fun h=>?_
     have j1':j < (z0q p d).sup.length:=j1
     rw [g6 j (by omega)] at j2
     cases j2
    refine ⟨⟨by omega,by omega⟩,by omega,fun x hx=>⟨fun hx0=>⟨g + 1,⟨hck,hro,g3,g4,hgl,fun j hj=>?_⟩,?_,hwr g (by omega)⟩,fun hx1=>⟨by omega,⟨by omega,by omega⟩,by omega,fun y hy=>⟨⟨by omega,by omega⟩,by omega,⟨by omega,by omega⟩,?_,fun z hz=>?_⟩⟩⟩⟩
    ·by_cases ej:j = g
     ·subst ej; rw [List.getD_eq_getElem?_getD,hx,hx0]; rfl
     ·exact g6 j (by omega)
    ·show (z0q p d).sup.length - _ < (z0q p d).sup.length - _; omega
    ·show 0 < _; omega
    ·have hz0:=keptF_hd (show ((z7e (mS p d e) (mN p d)).map Int.ofNat)[0]? = some z from hz)
     obtain ⟨z1,z2,z3⟩:=hz0
     have z2':z.toNat < (z0q p d).sup.length:=z2
     obtain ⟨t,et⟩:=Option.isSome_iff_exists.1 hro
     have hT:mT p d e h = t:=by unfold mT; rw [et]; rfl
     have hiS:(mS p d e).getD g false = true:=by rw [List.getD_eq_getElem?_getD,hx,hx1]; rfl
     obtain ⟨m1,m2,m3,m4,m5⟩:=made_cut (I:=mKK p d e h) hr (fun a ha=>by rw [kkl]; exact Jn a ha) (by show (mJ p d h).arcs.length <= _; omega) (by omega) hw (by omega) et (i:=g) (j:=z.toNat) (by omega) (by omega) hiS z3
     have eg:(mKK p d e h).sup.getD g 0 = y:=by rw [List.getD_eq_getElem?_getD,hy]; rfl
     have by_:=hw y (List.mem_of_getElem? hy)
     rw [hT]
     rw [w64 (x:=t - z2h (mKK p d e h) (mS p d e)) (by omega) (by omega),w64 (x:=t - z2h (mKK p d e h) (mS p d e) + 1) (by omega) (by omega),w64 (x:=y + (t - z2h (mKK p d e h) (mS p d e) + 1)) (by omega) (by omega)]
     have e1:(mKK p d e h).sup.set g (y + (t - z2h (mKK p d e h) (mS p d e) + 1)) = addAt (mKK p d e h).sup g (t - z2h (mKK p d e h) (mS p d e) + 1):=by unfold addAt; rw [eg]
     rw [e1,z30]
     refine ⟨⟨by omega,by omega⟩,by omega,fun u hu=>⟨⟨by omega,by omega⟩,by omega,?_⟩⟩
     have hw2:=hw.addAt (by omega) g (x:=t - z2h (mKK p d e h) (mS p d e) + 1) (y:=9000) (by omega) (by omega)
     have bu:=hw2 u (List.mem_of_getElem? hu)
     rw [w64 (x:=u - _) (by omega) (by omega)]
     have e2:(addAt (mKK p d e h).sup g (t - z2h (mKK p d e h) (mS p d e) + 1)).set z.toNat (u - (t - z2h (mKK p d e h) (mS p d e) + 1)) = movS (mKK p d e h).sup g z.toNat (t - z2h (mKK p d e h) (mS p d e) + 1):=by
      unfold movS
      rw [addAt.eq_def (addAt _ g _),List.getD_eq_getElem?_getD,hu]
      rfl
     rw [e2]
     rintro ⟨k,f⟩ hk
     obtain ⟨rfl,rfl⟩:=m5 hk
     simp
theorem SolveMade_ok:SpecOk Tryz.prog SolveMade_n true (z04 true zgi) :=
 z0a z0r (show z1i Tryz.prog zby from z01 known20_ok (z01 Inst_ok (z01 Best19_ok (z01 Net_ok (z01 Back_ok (z01 rCheckB_ok (z01 Solve_ok (z01 ValueC_ok (z01 Marks_ok (z01 CRoom_ok (z01 Need_ok (z01 rKept_ok (z01 Kind_ok (z05)))))))))))))) (by kernel_rfl) mixedOrders Tryz.func4 rfl rfl (by kernel_rfl) (n:=4) (by decide +kernel) (I:=SolveMade_IA) (fun _ _=>z06) (A:=SolveMade_A)
  (fun args h r hr=>by
   unfold zgi at hr
   split at hr
   ·rename_i h ty0 p ty1 d ty2 e; cases hr; refine ⟨rfl,fun hp=>?_⟩; have hE:=SolveMade_E p d e h ty0 ty1 ty2 hp; exact hE
   ·cases hr)
end Go.Proofs.YtggblkbecekbdaaGreat
end
section
namespace Go.Proofs.YtggblkbecekbdaaGreat
open Go Go.RowKit Go.ChangeShapes Go.WideShapes Go.ChangeAt Go.Deep Go.Ql Go.Vc
theorem zeb (H:Type) (enc:TypeId × Value->H) (W:World) (base:Nat) (args:Array Value) (ds gs:List (DataW H)) (before:List MemPlace)
  (hval:∀ (j:Nat) t v,Tryz.f4.params[j]? = some t->args[j]? = some v->Value.okWide Tryz.prog W .any base t v)
  (hW:DataW.Whole enc Tryz.prog Tryz.f4.params.toList Rows.solveMadeSpec.vars false W args.toList ds gs before)
  (hz:(DataW.weightsEach Tryz.prog (Tryz.f4.params.toList ++ Rows.solveMadeSpec.plain.varTypes Tryz.prog) (ds ++ gs)).all (· <= reachBytes) = true) :
  Calls Tryz.prog 4 args W fun e W'=>∃ v,e = .returned v/\Rows.solveMadeSpec.post enc Tryz.prog Tryz.f4 false true false false W args v W':=by
 have hW':=hW
 obtain ⟨p,q,hA0,hV,rfl,hfz,hnd⟩:=hW
 have hA:DataW.TrodAll enc Tryz.prog W 0 (fun _=>true) true Tryz.f4.params.toList args.toList ds p:=hA0
 rw [Tryz.params4] at hA hval hz
 obtain ⟨v0,vs0,d0,ds0,p0,q0,hargs,rfl,rfl,h0,r0⟩:=trodAll_cons hA
 obtain ⟨v1,vs1,d1,ds1,p1,q1,rfl,rfl,rfl,h1,r1⟩:=trodAll_cons r0
 obtain ⟨v2,vs2,d2,ds2,p2,q2,rfl,rfl,rfl,h2,r2⟩:=trodAll_cons r1
 obtain ⟨v3,vs3,d3,ds3,p3,q3,rfl,rfl,rfl,h3,r3⟩:=trodAll_cons r2
 obtain ⟨rfl,rfl,rfl⟩:=trodAll_nil r3
 obtain rfl:args = #[v0,v1,v2,v3]:=by cases args; simp_all
 obtain ⟨z0,hz⟩:=z7d hz
 obtain ⟨z1,hz⟩:=z7d hz
 obtain ⟨z2,hz⟩:=z7d hz
 obtain ⟨z3,hz⟩:=z7d hz
 obtain ⟨A0,c0,x0,rfl,hR0,hm0,hw0⟩:=dec_ints Tryz.underlying26 Tryz.underlying5 (by kernel_rfl) (hval 0 26 v0 rfl rfl) h0
 have hb0:=wf_u8 hw0
 have hs0:=zcv Tryz.underlying26 (of_decide_eq_true (by kernel_rfl)) h0 z0
 obtain ⟨A1,c1,x1,rfl,hR1,hm1,hw1⟩:=dec_ints Tryz.underlying26 Tryz.underlying5 (by kernel_rfl) (hval 1 26 v1 rfl rfl) h1
 have hb1:=wf_u8 hw1
 have hs1:=zcv Tryz.underlying26 (of_decide_eq_true (by kernel_rfl)) h1 z1
 obtain ⟨A2,c2,x2,rfl,hR2,hm2,hw2⟩:=dec_ints Tryz.underlying26 Tryz.underlying5 (by kernel_rfl) (hval 2 26 v2 rfl rfl) h2
 have hb2:=wf_u8 hw2
 have hs2:=zcv Tryz.underlying26 (of_decide_eq_true (by kernel_rfl)) h2 z2
 obtain ⟨x3,rfl,rfl,rfl,wn3⟩:=open_int Tryz.underlying5 (hval 3 5 v3 rfl rfl) h3
 have hb3:=wf1_u8 wn3
 have hpre:(z6c x0 x1 x2 x3).pre:=⟨hb0,hb1,hm0,hm1,hb2,hm2,hb3.1,hb3.2⟩
 have hc:=law_calls (enter_gen Tryz.func4 rfl rfl) SolveMade_ok (ρ:=fun k=>if k = 0 then .slice A0 x0.length c0 else if k = 1 then .slice A1 x1.length c1 else if k = 2 then .slice A2 x2.length c2 else .int .i64 0) (W:=W) (args:=[.row 0,.row 1,.row 2,.int .u8 x3]) (hp:=[(0,.row false 0 (.ints .u8 x0)),(1,.row false 0 (.ints .u8 x1)),(2,.row false 0 (.ints .u8 x2))]) (fun k=>by (repeat' split) <;> rfl) ⟨⟨rfl,ro_ints hR0⟩,⟨⟨rfl,ro_ints hR1⟩,⟨⟨rfl,ro_ints hR2⟩,trivial⟩⟩⟩ ((z6c x0 x1 x2 x3).pre/\SV.bool true = .bool true) ⟨hpre,rfl⟩ (by kernel_rfl)
 simp only [z0o,SV.toV] at hc
 refine Calls.mono (show Calls Tryz.prog 4 #[_,_,_,_] W _ from hc) fun e W' hx=>?_
 obtain ⟨rfl,hb⟩:=hx
 exact ⟨_,rfl,law_post laid_out hW' rfl (by kernel_rfl) Tryz.underlying4 (by kernel_rfl) rfl hb⟩
theorem zh4 (os:Os) (started:os.Started) (H:Type) (enc:TypeId × Value->H) :
  ReturnsInHanded {} Tryz.checked os 4 .any (Rows.solveMadeSpec.pre6 enc Tryz.prog Tryz.f4 Rows.solveMadeRow.domain false) (Rows.solveMadeSpec.post enc Tryz.prog Tryz.f4 false true false false):=by
 refine returnsInHanded_of_change_sized (C:=Tryz.checked) own_knob started (by kernel_rfl) Tryz.func4
  (ChangeSpec.witness6 (enc:=enc) (C:=Tryz.checked) false ⟨#[],#[.slice none 0 0,.slice none 0 0,.slice none 0 0,.int .u8 0],[]⟩ 8 (by kernel_rfl) (by kernel_rfl) (by kernel_rfl) (by kernel_rfl)) ?_
 intro W base args ds gs before hval0 hW hcnd hz _
 exact zeb H enc W base args ds gs before hval0 hW hz
theorem solveMade_holds:Rows.SolveMadeSaid :=
 OpenClaim.holds_of_wide 4 Tryz.f4 rfl rfl rfl rfl rfl rfl rfl ⟨rfl,rfl,rfl,rfl,rfl⟩ rfl rfl rfl rfl rfl (by kernel_rfl) Tryz.func4 (by kernel_rfl)
  (of_decide_eq_true (by kernel_rfl)) (by unfold Func.isWrapper; first | (rw [if_pos (by decide +kernel)]; kernel_rfl) | (rw [if_neg (by decide +kernel)]; exact ⟨rfl,rfl⟩))
  (fun os started H enc _=>zh4 os started H enc)
end Go.Proofs.YtggblkbecekbdaaGreat
end
