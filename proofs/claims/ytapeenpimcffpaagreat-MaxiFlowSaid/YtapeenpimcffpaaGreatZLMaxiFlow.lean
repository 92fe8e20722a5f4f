/- MaxiFlow: the law is true for every input: the given statement, with no condition of its own. -/
import Derived.Test.YtapeenpimcffpaaGreatZG12
import Derived.Test.YtapeenpimcffpaaGreatZG16
import Derived.Test.YtapeenpimcffpaaGreatZG17
import Derived.Test.YtapeenpimcffpaaGreatZG15
import Derived.Test.YtapeenpimcffpaaGreatZG5
set_option linter.all false
set_option linter.unusedSimpArgs false
set_option linter.unusedVariables false
set_option maxRecDepth 1000000
section
namespace Go.Proofs.YtapeenpimcffpaaGreat
open Go Go.RowKit Go.Ql Go.Vc
def z7f (c:List Int) (d:List Int):FRes:={ pre:=Bytes c/\Bytes d/\c.length <= maxLen/\d.length <= maxLen,res:=.bool (true),rows:=[],eff:=[] }
def ziw:FS:=fun args h=>match args,h with
 | [.row 0,.row 1],[(0,.row false ty0 (.ints .u8 c)),(1,.row false ty1 (.ints .u8 d))]=>some (z7f c d)
 | _,_=>none
def zbt (c:List Int) (d:List Int):List (Nat × Ann):=[(14,{ G:=(Cert) × (Nat),inv:=fun ⟨q,k⟩=>⟨[(5,.ptr 6 0 0 0),(6,.ptr 11 0 0 0),(8,.ptr 20 0 0 0),(10,.row 21),(12,.int .i64 (z5v { most:=(z08 c d true).most,inst:=(z08 c d true).inst,s:=(z08 c d true).s,t:=(z08 c d true).t:ProbD } { kind:=q.kind,flow:=q.flow,pot:=q.pot,side:=q.side,cycle:=q.cycle:Cert })),(13,.bool (z1t { most:=(z08 c d true).most,inst:=(z08 c d true).inst,s:=(z08 c d true).s,t:=(z08 c d true).t:ProbD } { kind:=q.kind,flow:=q.flow,pot:=q.pot,side:=q.side,cycle:=q.cycle:Cert })),(14,.row 22),(15,.int .i64 k)],[(22,.row true 2 (.ints .i64 (zh7 (z08 c d true).inst.sup.length (z08 c d true).inst.arcs (z1q (z08 c d true) q) k))),(21,.row true 2 (.ints .i64 (z1q { most:=(z08 c d true).most,inst:=(z08 c d true).inst,s:=(z08 c d true).s,t:=(z08 c d true).t:ProbD } { kind:=q.kind,flow:=q.flow,pot:=q.pot,side:=q.side,cycle:=q.cycle:Cert }))),(20,.box true 31 [.int .i64 q.kind,.row 12,.row 13,.row 14,.row 15]),(12,.row true 2 (.ints .i64 q.flow)),(13,.row true 2 (.ints .i64 q.pot)),(14,.row true 4 (.bools q.side)),(15,.row true 3 (.ints .i64 q.cycle)),(11,.box true 25 [.row 7,.row 8]),(7,.row true 2 (.ints .i64 (ofI { most:=(z08 c d true).most,inst:=(z08 c d true).inst,s:=(z08 c d true).s,t:=(z08 c d true).t:ProbD }).sup)),(8,.row true 65 (.arcs (ofI { most:=(z08 c d true).most,inst:=(z08 c d true).inst,s:=(z08 c d true).s,t:=(z08 c d true).t:ProbD }).arcs)),(6,.box true 27 [.bool (z08 c d true).most,.row 2,.row 3,.int .i64 (z08 c d true).s,.int .i64 (z08 c d true).t]),(2,.row true 2 (.ints .i64 (z08 c d true).inst.sup)),(3,.row true 65 (.arcs (z08 c d true).inst.arcs))],23⟩,rel:=fun ⟨q0,k0⟩ ⟨q,k⟩=>q=q0/\k <= (z08 c d true).inst.arcs.length,meas:=fun ⟨q,k⟩=>(z08 c d true).inst.arcs.length - k }),
 (21,{ G:=(Cert) × (Nat),inv:=fun ⟨q,k⟩=>⟨[(5,.ptr 6 0 0 0),(6,.ptr 11 0 0 0),(8,.ptr 20 0 0 0),(12,.int .i64 (z5v (z08 c d true) q)),(13,.bool (z1t (z08 c d true) q)),(14,.row 22),(16,.int .i64 k)],[(22,.row true 2 (.ints .i64 (zh7 (z08 c d true).inst.sup.length (z08 c d true).inst.arcs (z1q (z08 c d true) q) (z08 c d true).inst.arcs.length))),(20,.box true 31 [.int .i64 q.kind,.row 12,.row 13,.row 14,.row 15]),(12,.row true 2 (.ints .i64 q.flow)),(13,.row true 2 (.ints .i64 q.pot)),(14,.row true 4 (.bools q.side)),(15,.row true 3 (.ints .i64 q.cycle)),(11,.box true 25 [.row 7,.row 8]),(7,.row true 2 (.ints .i64 (ofI (z08 c d true)).sup)),(8,.row true 65 (.arcs (ofI (z08 c d true)).arcs)),(6,.box true 27 [.bool (z08 c d true).most,.row 2,.row 3,.int .i64 (z08 c d true).s,.int .i64 (z08 c d true).t]),(2,.row true 2 (.ints .i64 (z08 c d true).inst.sup)),(3,.row true 65 (.arcs (z08 c d true).inst.arcs))],23⟩,rel:=fun ⟨q0,k0⟩ ⟨q,k⟩=>q=q0/\k <= (z08 c d true).inst.sup.length,meas:=fun ⟨q,k⟩=>(z08 c d true).inst.sup.length - k })]
def MaxiFlow_A:List SV->z0e->List (Nat × Ann):=fun args h=>match args,h with
 | [.row 0,.row 1],[(0,.row false ty0 (.ints .u8 c)),(1,.row false ty1 (.ints .u8 d))]=>zbt c d
 | _,_=>[]
def zeu:z0c:=[(known21_n,(true,z02 true zfy)),(Prob08_n,(true,z02 true zj6)),(Of21_n,(true,z02 true zbu)),(Solve_n,(true,z0y true Solve_fs)),(Flow21_n,(true,z02 true ziu)),(zjc,(true,z02 true zae)),(ValueC_n,(true,z02 true zjf)),(Of_n,(true,z02 true zcy)),(zev,(true,z02 true z81))]
abbrev MaxiFlow_n:Nat:=7
def MaxiFlow_I (c:List Int) (d:List Int):List (Nat × z09):=[]
def MaxiFlow_IA:List SV->z0e->List (Nat × z09):=fun _ _=>[]
end Go.Proofs.YtapeenpimcffpaaGreat
end
section
namespace Go.Proofs.YtapeenpimcffpaaGreat
open Go Go.RowKit Go.Ql Go.Vc
abbrev z68 (c:List Int) (d:List Int) (g':Cert × Nat) (g:Cert × Nat):=((z08 c d true).inst.sup.length - g'.snd<(z08 c d true).inst.sup.length - g.snd/\((0=0/\(0=0/\(0=0/\(z5v (z08 c d true) g.1=z5v (z08 c d true) g'.1/\(z1t (z08 c d true) g.1=z1t (z08 c d true) g'.1/\(True/\(IntKind.i64.wrap ((↑g.2:Int)+(1:Int))=(↑g'.2:Int)/\True)))))))/\(zh7 (z08 c d true).inst.sup.length (z08 c d true).inst.arcs (z1q (z08 c d true) g.1) (z08 c d true).inst.arcs.length=zh7 (z08 c d true).inst.sup.length (z08 c d true).inst.arcs (z1q (z08 c d true) g'.1) (z08 c d true).inst.arcs.length/\((g.1.kind=g'.1.kind/\(True/\(True/\(True/\(True/\True)))))/\(g.1.flow=g'.1.flow/\(g.1.pot=g'.1.pot/\(g.1.side=g'.1.side/\(g.1.cycle=g'.1.cycle/\((True/\(True/\True))/\((ofI (z08 c d true)).sup=(ofI (z08 c d true)).sup/\((ofI (z08 c d true)).arcs=(ofI (z08 c d true)).arcs/\(((z08 c d true).most=(z08 c d true).most/\(True/\(True/\((z08 c d true).s=(z08 c d true).s/\((z08 c d true).t=(z08 c d true).t/\True)))))/\((z08 c d true).inst.sup=(z08 c d true).inst.sup/\((z08 c d true).inst.arcs=(z08 c d true).inst.arcs/\True))))))))))))))
abbrev z0t (c:List Int) (d:List Int) (g:Cert × Nat):=(zh7 (z08 c d true).inst.sup.length (z08 c d true).inst.arcs (z1q (z08 c d true) g.1) g.2)
abbrev z1e (c:List Int) (d:List Int) (g:Cert × Nat):=(zh7 (z08 c d true).inst.sup.length (z08 c d true).inst.arcs (z1q (z08 c d true) g.1) (z08 c d true).inst.arcs.length)
abbrev zbq (c:List Int) (d:List Int):=((True/\(True/\True))/\((ofI (z08 c d true)).sup=(ofI (z08 c d true)).sup/\((ofI (z08 c d true)).arcs=(ofI (z08 c d true)).arcs/\(((z08 c d true).most=(z08 c d true).most/\(True/\(True/\((z08 c d true).s=(z08 c d true).s/\((z08 c d true).t=(z08 c d true).t/\True)))))/\((z08 c d true).inst.sup=(z08 c d true).inst.sup/\((z08 c d true).inst.arcs=(z08 c d true).inst.arcs/\True))))))
abbrev z69 (c:List Int) (d:List Int) (g:Cert × Int):=(!z1t { most:=(z08 c d true).most,inst:=(z08 c d true).inst,s:=(z08 c d true).s,t:=(z08 c d true).t:ProbD } { kind:=g.1.kind,flow:=g.1.flow,pot:=g.1.pot,side:=g.1.side,cycle:=g.1.cycle:Cert })
abbrev z56 (c:List Int) (d:List Int):=(ofI { most:=(z08 c d true).most,inst:=(z08 c d true).inst,s:=(z08 c d true).s,t:=(z08 c d true).t:ProbD })
abbrev zbr (c:List Int) (d:List Int) (g:Cert × Int):=((↑(z1q { most:=(z08 c d true).most,inst:=(z08 c d true).inst,s:=(z08 c d true).s,t:=(z08 c d true).t:ProbD } { kind:=g.1.kind,flow:=g.1.flow,pot:=g.1.pot,side:=g.1.side,cycle:=g.1.cycle:Cert }).length:Int) != (↑(z08 c d true).inst.arcs.length:Int))
abbrev z49 (g:Cert × Nat) (c:List Int) (d:List Int):=((0:Int) <= ↑g.2/\((↑g.2:Int)<↑(z1q (z08 c d true) g.1).length))
abbrev z4a (g:Cert × Nat) (c:List Int) (d:List Int):=((0:Int) <= ↑g.2/\((↑g.2:Int)<↑(z08 c d true).inst.arcs.length))
abbrev zbs (c:List Int) (d:List Int) (g:Cert × Nat) (g':Cert × Nat):=(z1q (z08 c d true) g.1=z1q (z08 c d true) g'.1/\((g.1.kind=g'.1.kind/\(True/\(True/\(True/\(True/\True)))))/\(g.1.flow=g'.1.flow/\(g.1.pot=g'.1.pot/\(g.1.side=g'.1.side/\(g.1.cycle=g'.1.cycle/\(zbq c d)))))))
abbrev z93 (c:List Int) (d:List Int) (g:Cert × Nat) (g':Cert × Nat):=(0=0/\(0=0/\(0=0/\(True/\(z5v (z08 c d true) g.1=z5v (z08 c d true) g'.1/\(z1t (z08 c d true) g.1=z1t (z08 c d true) g'.1/\(True/\(IntKind.i64.wrap ((↑g.2:Int)+(1:Int))=(↑g'.2:Int)/\True))))))))
def zbp (c : List Int) (d : List Int) (ty0 ty1 : TypeId) : Prop :=
   (Bytes c/\(Bytes d/\(c.length <= maxLen/\(d.length <= maxLen))))/\True/\((ofE { most:=(z08 c d true).most,inst:=(z08 c d true).inst,s:=(z08 c d true).s,t:=(z08 c d true).t:ProbD } != (0:Int))=true->True/\((true=true/\True)/\True))/\((ofE { most:=(z08 c d true).most,inst:=(z08 c d true).inst,s:=(z08 c d true).s,t:=(z08 c d true).t:ProbD } != (0:Int))=false->(z05 (z56 c d)=(0:Int)->SmallI (z56 c d))/\∀ (g:Cert × Int),SolveP (z56 c d) g.1 g.2->z1b { kind:=g.1.kind,flow:=g.1.flow,pot:=g.1.pot,side:=g.1.side,cycle:=g.1.cycle:Cert }/\z1b { kind:=g.1.kind,flow:=g.1.flow,pot:=g.1.pot,side:=g.1.side,cycle:=g.1.cycle:Cert }/\((z69 c d g)=true->True/\((true=true->((z69 c d g)=true->((g.1.kind == (3:Int))=true/\True)/\True)/\((z69 c d g)=false->(false=true/\True)/\True))/\(true=false->(false=true/\True)/\True)))/\((z69 c d g)=false->((zbr c d g)=true->(false=true/\True)/\True)/\((zbr c d g)=false->((↑(z08 c d true).inst.sup.length:Int)=↑(z08 c d true).inst.sup.length/\((0:Int) <= ↑(z08 c d true).inst.sup.length/\((↑(z08 c d true).inst.sup.length:Int) <= 1000000000)))/\∃ (g0:Cert × Nat),((g0.fst=g0.fst/\(g0.snd <= (z08 c d true).inst.arcs.length))/\((0=0/\(0=0/\(0=0/\(True/\(z5v { most:=(z08 c d true).most,inst:=(z08 c d true).inst,s:=(z08 c d true).s,t:=(z08 c d true).t:ProbD } { kind:=g.1.kind,flow:=g.1.flow,pot:=g.1.pot,side:=g.1.side,cycle:=g.1.cycle:Cert } = z5v (z08 c d true) g0.1/\(z1t { most:=(z08 c d true).most,inst:=(z08 c d true).inst,s:=(z08 c d true).s,t:=(z08 c d true).t:ProbD } { kind:=g.1.kind,flow:=g.1.flow,pot:=g.1.pot,side:=g.1.side,cycle:=g.1.cycle:Cert } = z1t (z08 c d true) g0.1/\(True/\((0:Int)=↑g0.2/\True))))))))/\(List.replicate (↑(z08 c d true).inst.sup.length:Int).toNat (0:Int)=zh7 (z08 c d true).inst.sup.length (z08 c d true).inst.arcs (z1q (z08 c d true) g0.1) g0.2/\(z1q { most:=(z08 c d true).most,inst:=(z08 c d true).inst,s:=(z08 c d true).s,t:=(z08 c d true).t:ProbD } { kind:=g.1.kind,flow:=g.1.flow,pot:=g.1.pot,side:=g.1.side,cycle:=g.1.cycle:Cert } = z1q (z08 c d true) g0.1/\((g.1.kind=g0.1.kind/\(True/\(True/\(True/\(True/\True)))))/\(g.1.flow=g0.1.flow/\(g.1.pot=g0.1.pot/\(g.1.side=g0.1.side/\(g.1.cycle=g0.1.cycle/\((True/\(True/\True))/\((z56 c d).sup=(ofI (z08 c d true)).sup/\((z56 c d).arcs=(ofI (z08 c d true)).arcs/\(((z08 c d true).most=(z08 c d true).most/\(True/\(True/\((z08 c d true).s=(z08 c d true).s/\((z08 c d true).t=(z08 c d true).t/\True)))))/\((z08 c d true).inst.sup=(z08 c d true).inst.sup/\((z08 c d true).inst.arcs=(z08 c d true).inst.arcs/\True)))))))))))))))/\∀ (g:Cert × Nat),g.fst=g0.fst/\g.snd <= (z08 c d true).inst.arcs.length->(decide ((↑g.2:Int)<↑(z1q (z08 c d true) g.1).length)=true->(z49 g c d)/\(↑g.2:Int).toNat<(z1q (z08 c d true) g.1).length/\∀ (x:Int),(z1q (z08 c d true) g.1)[(↑g.2:Int).toNat]? = some x->(decide (x<(0:Int))=true->(false=true/\True)/\True)/\(decide (x<(0:Int))=false->(z4a g c d)/\(↑g.2:Int).toNat<(z08 c d true).inst.arcs.length/\∀ (x:Arc),(z08 c d true).inst.arcs[(↑g.2:Int).toNat]? = some x->((x.cap != (4611686018427387904:Int))=true->(z49 g c d)/\(↑g.2:Int).toNat<(z1q (z08 c d true) g.1).length/\∀ (x:Int),(z1q (z08 c d true) g.1)[(↑g.2:Int).toNat]? = some x->(z4a g c d)/\(↑g.2:Int).toNat<(z08 c d true).inst.arcs.length/\∀ (x_1:Arc),(z08 c d true).inst.arcs[(↑g.2:Int).toNat]? = some x_1->(decide (x > x_1.cap)=true->(false=true/\True)/\True)/\(decide (x > x_1.cap)=false->(z4a g c d)/\(↑g.2:Int).toNat<(z08 c d true).inst.arcs.length/\∀ (x:Arc),(z08 c d true).inst.arcs[(↑g.2:Int).toNat]? = some x->((0:Int) <= x.src/\(x.src<(↑(z0t c d g).length:Int)))/\x.src.toNat<(z0t c d g).length/\∀ (x_2:Int),(z0t c d g)[x.src.toNat]? = some x_2->(z49 g c d)/\(↑g.2:Int).toNat<(z1q (z08 c d true) g.1).length/\∀ (x_3:Int),(z1q (z08 c d true) g.1)[(↑g.2:Int).toNat]? = some x_3->((0:Int) <= x.src/\(x.src<(↑(z0t c d g).length:Int)))/\x.src.toNat<(z0t c d g).length/\(z4a g c d)/\(↑g.2:Int).toNat<(z08 c d true).inst.arcs.length/\∀ (x_4:Arc),(z08 c d true).inst.arcs[(↑g.2:Int).toNat]? = some x_4->((0:Int) <= x_4.dst/\(x_4.dst<(↑((z0t c d g).set x.src.toNat (IntKind.i64.wrap (x_2+x_3))).length:Int)))/\(x_4.dst.toNat<((z0t c d g).set x.src.toNat (IntKind.i64.wrap (x_2+x_3))).length/\(∀ (x_5:Int),((z0t c d g).set x.src.toNat (IntKind.i64.wrap (x_2+x_3)))[x_4.dst.toNat]? = some x_5->(z49 g c d)/\((↑g.2:Int).toNat<(z1q (z08 c d true) g.1).length/\(∀ (x_6:Int),(z1q (z08 c d true) g.1)[(↑g.2:Int).toNat]? = some x_6->((0:Int) <= x_4.dst/\(x_4.dst<(↑((z0t c d g).set x.src.toNat (IntKind.i64.wrap (x_2+x_3))).length:Int)))/\(x_4.dst.toNat<((z0t c d g).set x.src.toNat (IntKind.i64.wrap (x_2+x_3))).length/\(∃ (g':Cert × Nat),(g'.fst=g0.fst/\(g'.snd <= (z08 c d true).inst.arcs.length))/\((z08 c d true).inst.arcs.length - g'.snd<(z08 c d true).inst.arcs.length - g.snd/\((z93 c d g g')/\(((z0t c d g).set x.src.toNat (IntKind.i64.wrap (x_2+x_3))).set x_4.dst.toNat (IntKind.i64.wrap (x_5 - x_6))=zh7 (z08 c d true).inst.sup.length (z08 c d true).inst.arcs (z1q (z08 c d true) g'.1) g'.2/\(zbs c d g g'))))))))))))/\((x.cap != (4611686018427387904:Int))=false->(z4a g c d)/\(↑g.2:Int).toNat<(z08 c d true).inst.arcs.length/\∀ (x:Arc),(z08 c d true).inst.arcs[(↑g.2:Int).toNat]? = some x->((0:Int) <= x.src/\(x.src<(↑(z0t c d g).length:Int)))/\x.src.toNat<(z0t c d g).length/\∀ (x_1:Int),(z0t c d g)[x.src.toNat]? = some x_1->(z49 g c d)/\(↑g.2:Int).toNat<(z1q (z08 c d true) g.1).length/\∀ (x_2:Int),(z1q (z08 c d true) g.1)[(↑g.2:Int).toNat]? = some x_2->((0:Int) <= x.src/\(x.src<(↑(z0t c d g).length:Int)))/\x.src.toNat<(z0t c d g).length/\(z4a g c d)/\(↑g.2:Int).toNat<(z08 c d true).inst.arcs.length/\∀ (x_3:Arc),(z08 c d true).inst.arcs[(↑g.2:Int).toNat]? = some x_3->((0:Int) <= x_3.dst/\(x_3.dst<(↑((z0t c d g).set x.src.toNat (IntKind.i64.wrap (x_1+x_2))).length:Int)))/\(x_3.dst.toNat<((z0t c d g).set x.src.toNat (IntKind.i64.wrap (x_1+x_2))).length/\(∀ (x_4:Int),((z0t c d g).set x.src.toNat (IntKind.i64.wrap (x_1+x_2)))[x_3.dst.toNat]? = some x_4->(z49 g c d)/\((↑g.2:Int).toNat<(z1q (z08 c d true) g.1).length/\(∀ (x_5:Int),(z1q (z08 c d true) g.1)[(↑g.2:Int).toNat]? = some x_5->((0:Int) <= x_3.dst/\(x_3.dst<(↑((z0t c d g).set x.src.toNat (IntKind.i64.wrap (x_1+x_2))).length:Int)))/\(x_3.dst.toNat<((z0t c d g).set x.src.toNat (IntKind.i64.wrap (x_1+x_2))).length/\(∃ (g':Cert × Nat),(g'.fst=g0.fst/\(g'.snd <= (z08 c d true).inst.arcs.length))/\((z08 c d true).inst.arcs.length - g'.snd<(z08 c d true).inst.arcs.length - g.snd/\((z93 c d g g')/\(((z0t c d g).set x.src.toNat (IntKind.i64.wrap (x_1+x_2))).set x_3.dst.toNat (IntKind.i64.wrap (x_4 - x_5))=zh7 (z08 c d true).inst.sup.length (z08 c d true).inst.arcs (z1q (z08 c d true) g'.1) g'.2/\(zbs c d g g')))))))))))))/\(decide ((↑g.2:Int)<↑(z1q (z08 c d true) g.1).length)=false->∃ (g0:Cert × Nat),((g0.fst=g0.fst/\(g0.snd <= (z08 c d true).inst.sup.length))/\((0=0/\(0=0/\(0=0/\(z5v (z08 c d true) g.1=z5v (z08 c d true) g0.1/\(z1t (z08 c d true) g.1=z1t (z08 c d true) g0.1/\(True/\((0:Int)=↑g0.2/\True)))))))/\(zh7 (z08 c d true).inst.sup.length (z08 c d true).inst.arcs (z1q (z08 c d true) g.1) g.2=zh7 (z08 c d true).inst.sup.length (z08 c d true).inst.arcs (z1q (z08 c d true) g0.1) (z08 c d true).inst.arcs.length/\((g.1.kind=g0.1.kind/\(True/\(True/\(True/\(True/\True)))))/\(g.1.flow=g0.1.flow/\(g.1.pot=g0.1.pot/\(g.1.side=g0.1.side/\(g.1.cycle=g0.1.cycle/\(zbq c d)))))))))/\∀ (g:Cert × Nat),g.fst=g0.fst/\g.snd <= (z08 c d true).inst.sup.length->(decide ((↑g.2:Int)<↑(z1e c d g).length)=true->(((↑g.2:Int) == (z08 c d true).s)=true->(((↑g.2:Int) == (z08 c d true).t)=true->((0:Int) <= ↑g.2/\((↑g.2:Int)<↑(z1e c d g).length))/\((↑g.2:Int).toNat<(z1e c d g).length/\(∀ (x:Int),(z1e c d g)[(↑g.2:Int).toNat]? = some x->((x != IntKind.i64.wrap ((0:Int) - z5v (z08 c d true) g.1))=true->(false=true/\True)/\True)/\((x != IntKind.i64.wrap ((0:Int) - z5v (z08 c d true) g.1))=false->∃ (g':Cert × Nat),(g'.fst=g0.fst/\(g'.snd <= (z08 c d true).inst.sup.length))/\(z68 c d g' g)))))/\(((↑g.2:Int) == (z08 c d true).t)=false->((0:Int) <= ↑g.2/\((↑g.2:Int)<↑(z1e c d g).length))/\((↑g.2:Int).toNat<(z1e c d g).length/\(∀ (x:Int),(z1e c d g)[(↑g.2:Int).toNat]? = some x->((x != z5v (z08 c d true) g.1)=true->(false=true/\True)/\True)/\((x != z5v (z08 c d true) g.1)=false->∃ (g':Cert × Nat),(g'.fst=g0.fst/\(g'.snd <= (z08 c d true).inst.sup.length))/\(z68 c d g' g))))))/\(((↑g.2:Int) == (z08 c d true).s)=false->(((↑g.2:Int) == (z08 c d true).t)=true->((0:Int) <= ↑g.2/\((↑g.2:Int)<↑(z1e c d g).length))/\((↑g.2:Int).toNat<(z1e c d g).length/\(∀ (x:Int),(z1e c d g)[(↑g.2:Int).toNat]? = some x->((x != IntKind.i64.wrap ((0:Int) - z5v (z08 c d true) g.1))=true->(false=true/\True)/\True)/\((x != IntKind.i64.wrap ((0:Int) - z5v (z08 c d true) g.1))=false->∃ (g':Cert × Nat),(g'.fst=g0.fst/\(g'.snd <= (z08 c d true).inst.sup.length))/\(z68 c d g' g)))))/\(((↑g.2:Int) == (z08 c d true).t)=false->((0:Int) <= ↑g.2/\((↑g.2:Int)<↑(z1e c d g).length))/\((↑g.2:Int).toNat<(z1e c d g).length/\(∀ (x:Int),(z1e c d g)[(↑g.2:Int).toNat]? = some x->((x != (0:Int))=true->(false=true/\True)/\True)/\((x != (0:Int))=false->∃ (g':Cert × Nat),(g'.fst=g0.fst/\(g'.snd <= (z08 c d true).inst.sup.length))/\(z68 c d g' g)))))))/\(decide ((↑g.2:Int)<↑(z1e c d g).length)=false->(z1b { kind:=g.1.kind,flow:=g.1.flow,pot:=g.1.pot,side:=g.1.side,cycle:=g.1.cycle:Cert }/\(z37 (ofI (z08 c d true))))/\(True/\((true=true->(z1t (z08 c d true) g.1=true->I64 (z5v (z08 c d true) g.1)/\(({ hi:=(0:Int),lo:=(0:Int):Wide }.ok/\((W (z5v (z08 c d true) g.1)).ok))/\((decide ([(z55 (ofI (z08 c d true)) { kind:=g.1.kind,flow:=g.1.flow,pot:=g.1.pot,side:=g.1.side,cycle:=g.1.cycle:Cert }).hi,(z55 (ofI (z08 c d true)) { kind:=g.1.kind,flow:=g.1.flow,pot:=g.1.pot,side:=g.1.side,cycle:=g.1.cycle:Cert }).lo]=[(z5z { hi:=(0:Int),lo:=(0:Int):Wide } (W (z5v (z08 c d true) g.1))).hi,(z5z { hi:=(0:Int),lo:=(0:Int):Wide } (W (z5v (z08 c d true) g.1))).lo])=true/\True)/\True)))/\(z1t (z08 c d true) g.1=false->(false=true/\True)/\True))/\(true=false->(false=true/\True)/\True))))))))
theorem MaxiFlow_q (c:List Int) (d:List Int) (ty0 ty1:TypeId):zbp c d ty0 ty1=z2d TT zeu (MaxiFlow_I c d) (zbt c d) Tryz.f7 [.row 0,.row 1] [(0,.row false ty0 (.ints .u8 c)),(1,.row false ty1 (.ints .u8 d))] (z7f c d):=by kernel_rfl
theorem MaxiFlow_E (c:List Int) (d:List Int) (ty0 ty1:TypeId) (hp:Bytes c/\Bytes d/\c.length <= maxLen/\d.length <= maxLen):FVc TT zeu (MaxiFlow_I c d) (zbt c d) Tryz.f7 [.row 0,.row 1] [(0,.row false ty0 (.ints .u8 c)),(1,.row false ty1 (.ints .u8 d))] (z7f c d):=by
 refine FVc.of (zbp c d ty0 ty1) (MaxiFlow_q c d ty0 ty1) ?_
 unfold zbp
 delta z93 zbs z4a z49 zbr z56 z69 zbq z1e z0t z68
 obtain ⟨p1,p2,p3,p4⟩:=hp
 simp only [eq_self,exists_const,forall_const,ne_eq,Int.toNat_natCast,zSS,z06]
 refine ⟨⟨p1,p2,p3,p4⟩,fun _=>trivial,fun hz=>?_⟩
 have hP:=prob_of hz
 generalize z08 c d true=p at *
 have m1:=hP.m
 have n1:=hP.n1
 have n2:=hP.n2
 have hf:=hP.fit
 refine ⟨fun _=>by rw [zh9 hz]; exact ofP_small hP,?_⟩
 rintro ⟨b,f⟩ hS
 dsimp only at hS ⊢
 obtain ⟨rfl,hB,hM⟩:=solve_max hz hS
 simp only [netR_len,List.length_set]
 refine ⟨hB,hB,fun hg=>?_,fun hg=>?_⟩
 ·rcases hM with ⟨-,h1,-⟩ | ⟨h1,h2,-⟩
  ·exact absurd (h1.symm.trans hg) (by decide)
  ·exact ⟨⟨fun _=>h1,fun h=>by rw [h2] at h; cases h⟩,fun h=>by cases h⟩
 have hG:z1t p b=true:=hg
 obtain ⟨hQ,hV⟩:=solve_flow hP hS hG
 have hl:=hQ.l
 have st:∀ k,k<p.inst.arcs.length->IntKind.i64.wrap ((k:Int)+1)=((k+1:Nat):Int):=fun k hk=>by rw [w64 (by omega) (by omega)]; omega
 refine ⟨fun h=>absurd (by omega) h,fun _=>⟨⟨by omega,by omega⟩,(b,0),⟨Nat.zero_le _,⟨rfl,rfl,rfl⟩,(netR_zero _ _ _).symm,rfl,rfl,rfl,rfl,rfl,rfl⟩,fun g hg'=>?_⟩⟩
 obtain ⟨q,k⟩:=g
 obtain ⟨hq,hk⟩:=hg'
 dsimp only at hq hk ⊢
 subst hq
 refine ⟨fun h1=>⟨⟨by omega,by omega⟩,by omega,fun x hx=>?_⟩,fun h1=>?_⟩
 ·have hk2:k<p.inst.arcs.length:=by omega
  have hb:=fun a ha=>hQ.b k a x ha hx
  refine ⟨fun h=>?_,fun _=>⟨⟨by omega,by omega⟩,by omega,fun a ha=>?_⟩⟩
  ·obtain ⟨a,ha⟩:∃ a,p.inst.arcs[k]? = some a:=⟨_,List.getElem?_eq_getElem hk2⟩
   have:=(hb a ha).1
   omega
  obtain ⟨i1,i2,i3,i4⟩:=zdo hf.r a (List.mem_of_getElem? ha)
  have hi:inf=4611686018427387904:=rfl
  obtain ⟨b0,b1,b2⟩:=hb a ha
  refine ⟨fun hc=>⟨⟨by omega,by omega⟩,by omega,fun x' hx'=>⟨⟨by omega,by omega⟩,by omega,fun a1 ha1=>?_⟩⟩,fun hc=>⟨⟨by omega,by omega⟩,by omega,?_⟩⟩
  ·rw [ha] at ha1
   cases ha1
   rw [hx] at hx'
   cases hx'
   refine ⟨fun h=>absurd h (by have:=b1.resolve_left (by omega); omega),fun _=>⟨⟨by omega,by omega⟩,by omega,?_⟩⟩
   intro a2 ha2
   rw [ha] at ha2
   cases ha2
   refine ⟨⟨i1,i2⟩,by omega,fun y hy=>⟨⟨by omega,by omega⟩,by omega,fun x3 hx3=>⟨⟨i1,i2⟩,by omega,⟨by omega,by omega⟩,by omega,fun a4 ha4=>?_⟩⟩⟩
   rw [ha] at ha4
   cases ha4
   refine ⟨⟨i3,i4⟩,by omega,fun y' hy'=>⟨⟨by omega,by omega⟩,by omega,fun x6 hx6=>?_⟩⟩
   rw [hx] at hx3 hx6
   cases hx3
   cases hx6
   exact ⟨⟨i3,i4⟩,by omega,(q,k+1),⟨rfl,by dsimp only; omega⟩,by dsimp only; omega,⟨rfl,rfl,st k hk2⟩,hQ.step hP ha hx hy hy',rfl,rfl,rfl,rfl,rfl,rfl⟩
  ·intro a2 ha2
   rw [ha] at ha2
   cases ha2
   refine ⟨⟨i1,i2⟩,by omega,fun y hy=>⟨⟨by omega,by omega⟩,by omega,fun x3 hx3=>⟨⟨i1,i2⟩,by omega,⟨by omega,by omega⟩,by omega,fun a4 ha4=>?_⟩⟩⟩
   rw [ha] at ha4
   cases ha4
   refine ⟨⟨i3,i4⟩,by omega,fun y' hy'=>⟨⟨by omega,by omega⟩,by omega,fun x6 hx6=>?_⟩⟩
   rw [hx] at hx3 hx6
   cases hx3
   cases hx6
   exact ⟨⟨i3,i4⟩,by omega,(q,k+1),⟨rfl,by dsimp only; omega⟩,by dsimp only; omega,⟨rfl,rfl,st k hk2⟩,hQ.step hP ha hx hy hy',rfl,rfl,rfl,rfl,rfl,rfl⟩
 ·have ek:k=p.inst.arcs.length:=by omega
  subst ek
  refine ⟨(q,0),⟨Nat.zero_le _,⟨rfl,rfl,rfl⟩,rfl,rfl,rfl,rfl,rfl,rfl⟩,fun g hg'=>?_⟩
  obtain ⟨q',v⟩:=g
  obtain ⟨hq,hv⟩:=hg'
  dsimp only at hq hv ⊢
  subst hq
  have hv50:0 <= z5v p q'/\z5v p q' <= 1125899906842624:=by
   rcases hM with ⟨-,-,h⟩ | ⟨-,h,-⟩
   ·exact ⟨h.pos,h.few hz⟩
   ·rw [hG] at h; cases h
  have hw:IntKind.i64.wrap (0 - z5v p q') = -z5v p q':=by rw [w64 (by omega) (by omega)]; omega
  have hd:=hf.d
  have hx0:∀ x,(zh7 p.inst.sup.length p.inst.arcs (z1q p q') p.inst.arcs.length)[v]? = some x->x=wantP p (z5v p q') v:=fun x h=>(netR_get h).trans (hQ.n v (zdm h).1)
  unfold wantP at hx0
  have st':∀ v:Nat,v<p.inst.sup.length->IntKind.i64.wrap ((v:Int)+1)=((v+1:Nat):Int):=fun k hk=>by rw [w64 (by omega) (by omega)]; omega
  refine ⟨fun h2=>⟨fun h3=>⟨fun h4=>absurd (h3.symm.trans h4) hd,fun h4=>⟨⟨by omega,by omega⟩,by omega,fun x hx=>⟨fun h=>absurd (by rw [hx0 x hx,if_neg h4,if_pos h3]) h,fun _=>⟨(q',v+1),⟨rfl,by dsimp only; omega⟩,by dsimp only; omega,⟨rfl,rfl,st' v (by omega)⟩,rfl,rfl,rfl,rfl,rfl,rfl⟩⟩⟩⟩,fun h3=>⟨fun h4=>⟨⟨by omega,by omega⟩,by omega,fun x hx=>⟨fun h=>absurd (by rw [hx0 x hx,if_pos h4,hw]) h,fun _=>⟨(q',v+1),⟨rfl,by dsimp only; omega⟩,by dsimp only; omega,⟨rfl,rfl,st' v (by omega)⟩,rfl,rfl,rfl,rfl,rfl,rfl⟩⟩⟩,fun h4=>⟨⟨by omega,by omega⟩,by omega,fun x hx=>⟨fun h=>absurd (by rw [hx0 x hx,if_neg h4,if_neg h3]) h,fun _=>⟨(q',v+1),⟨rfl,by dsimp only; omega⟩,by dsimp only; omega,⟨rfl,rfl,st' v (by omega)⟩,rfl,rfl,rfl,rfl,rfl,rfl⟩⟩⟩⟩⟩,fun _=>⟨⟨hB,?_⟩,⟨fun _=>⟨by unfold I64; omega,⟨by rw [<- W_zero]; exact zf1 _,zf1 _⟩,?_⟩,fun h=>by rw [hG] at h; cases h⟩,fun h=>by cases h⟩⟩
  ·rw [zh9 hz]; exact zi7 (z5m hz)
  ·have e0:(⟨0,0⟩:Wide)=W 0:=W_zero.symm
   rw [hV,e0,zb1,Int.zero_sub]
theorem MaxiFlow_ok:SpecOk Tryz.prog MaxiFlow_n true (z02 true ziw) :=
 z0a z0h (show z14 Tryz.prog zeu from z00 known21_ok (z00 Prob08_ok (z00 zj1 (z00 Solve_ok (z00 Flow21_ok (z00 Value21_ok (z00 ValueC_ok (z00 zhk (z00 zcw (z04)))))))))) (by kernel_rfl) mixedOrders Tryz.func7 rfl rfl (by kernel_rfl) (n:=2) (by decide +kernel) (I:=MaxiFlow_IA) (fun _ _=>z07) (A:=MaxiFlow_A)
  (fun args h r hr=>by
   unfold ziw at hr
   split at hr
   ·rename_i ty0 c ty1 d; cases hr; refine ⟨rfl,fun hp=>?_⟩; have hE:=MaxiFlow_E c d ty0 ty1 hp; exact hE
   ·cases hr)
open Go.ChangeShapes Go.WideShapes Go.ChangeAt Go.Deep
theorem zg2 (H:Type) (enc:TypeId × Value->H) (W:World) (base:Nat) (args:Array Value) (ds gs:List (DataW H)) (before:List MemPlace)
  (hval:∀ (j:Nat) t v,Tryz.f7.params[j]? = some t->args[j]? = some v->Value.okWide Tryz.prog W .any base t v)
  (hW:DataW.Whole enc Tryz.prog Tryz.f7.params.toList Rows.maxiFlowSpec.vars false W args.toList ds gs before)
  (hz:(DataW.weightsEach Tryz.prog (Tryz.f7.params.toList ++ Rows.maxiFlowSpec.plain.varTypes Tryz.prog) (ds ++ gs)).all (· <= reachBytes)=true) :
  Calls Tryz.prog 7 args W fun e W'=>∃ v,e = .returned v/\Rows.maxiFlowSpec.post enc Tryz.prog Tryz.f7 false true false false W args v W':=by
 have hW':=hW
 obtain ⟨p,q,hA0,hV,rfl,hfz,hnd⟩:=hW
 have hA:DataW.TrodAll enc Tryz.prog W 0 (fun _=>true) true Tryz.f7.params.toList args.toList ds p:=hA0
 rw [Tryz.params7] at hA hval hz
 obtain ⟨v0,vs0,d0,ds0,p0,q0,hargs,rfl,rfl,h0,r0⟩:=trodAll_cons hA
 obtain ⟨v1,vs1,d1,ds1,p1,q1,rfl,rfl,rfl,h1,r1⟩:=trodAll_cons r0
 obtain ⟨rfl,rfl,rfl⟩:=trodAll_nil r1
 obtain rfl:args = #[v0,v1]:=by cases args; simp_all
 obtain ⟨z0,hz⟩:=zhi hz
 obtain ⟨z1,hz⟩:=zhi hz
 obtain ⟨A0,c0,x0,rfl,hR0,hm0,hw0⟩:=dec_ints Tryz.underlying32 Tryz.underlying5 (by kernel_rfl) (hval 0 32 v0 rfl rfl) h0
 have hb0:=wf_u8 hw0
 have hs0:=znj Tryz.underlying32 (of_decide_eq_true (by kernel_rfl)) h0 z0
 obtain ⟨A1,c1,x1,rfl,hR1,hm1,hw1⟩:=dec_ints Tryz.underlying32 Tryz.underlying5 (by kernel_rfl) (hval 1 32 v1 rfl rfl) h1
 have hb1:=wf_u8 hw1
 have hs1:=znj Tryz.underlying32 (of_decide_eq_true (by kernel_rfl)) h1 z1
 have hpre:(z7f x0 x1).pre:=⟨hb0,hb1,hm0,hm1⟩
 have hc:=law_calls (enter_gen Tryz.func7 rfl rfl) MaxiFlow_ok (ρ:=fun k=>if k=0 then .slice A0 x0.length c0 else if k=1 then .slice A1 x1.length c1 else .int .i64 0) (W:=W) (args:=[.row 0,.row 1]) (hp:=[(0,.row false 0 (.ints .u8 x0)),(1,.row false 0 (.ints .u8 x1))]) (fun k=>by (repeat' split) <;> rfl) ⟨⟨rfl,ro_ints hR0⟩,⟨⟨rfl,ro_ints hR1⟩,trivial⟩⟩ ((z7f x0 x1).pre/\SV.bool true = .bool true) ⟨hpre,rfl⟩ (by kernel_rfl)
 simp only [z0p,SV.toV] at hc
 refine Calls.mono (show Calls Tryz.prog 7 #[_,_] W _ from hc) fun e W' hx=>?_
 obtain ⟨rfl,hb⟩:=hx
 exact ⟨_,rfl,law_post laid_out hW' rfl (by kernel_rfl) Tryz.underlying4 (by kernel_rfl) rfl hb⟩
theorem zlp (os:Os) (started:os.Started) (H:Type) (enc:TypeId × Value->H) :
  ReturnsInHanded {} Tryz.checked os 7 .any (Rows.maxiFlowSpec.pre6 enc Tryz.prog Tryz.f7 Rows.maxiFlowRow.domain false) (Rows.maxiFlowSpec.post enc Tryz.prog Tryz.f7 false true false false):=by
 refine returnsInHanded_of_change_sized (C:=Tryz.checked) own_knob started (by kernel_rfl) Tryz.func7
  (ChangeSpec.witness6 (enc:=enc) (C:=Tryz.checked) false ⟨#[],#[.slice none 0 0,.slice none 0 0],[]⟩ 8 (by kernel_rfl) (by kernel_rfl) (by kernel_rfl) (by kernel_rfl)) ?_
 intro W base args ds gs before hval0 hW hcnd hz _
 exact zg2 H enc W base args ds gs before hval0 hW hz
theorem maxiFlow_holds:Rows.MaxiFlowSaid :=
 OpenClaim.holds_of_wide 7 Tryz.f7 rfl rfl rfl rfl rfl rfl rfl ⟨rfl,rfl,rfl,rfl,rfl⟩ rfl rfl rfl rfl rfl (by kernel_rfl) Tryz.func7 (by kernel_rfl)
  (of_decide_eq_true (by kernel_rfl)) (by unfold Func.isWrapper; first | (rw [if_pos (by decide +kernel)]; kernel_rfl) | (rw [if_neg (by decide +kernel)]; exact ⟨rfl,rfl⟩))
  (fun os started H enc _=>zlp os started H enc)
end Go.Proofs.YtapeenpimcffpaaGreat
end
