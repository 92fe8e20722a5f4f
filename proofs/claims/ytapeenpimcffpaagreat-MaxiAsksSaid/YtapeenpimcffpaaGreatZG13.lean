/- Part of the proof: FC21, DL13, FL13, VcR, DM20, FM20, Base, Wrap3, WrapC, WrapP. -/
import Derived.Test.YtapeenpimcffpaaGreatZG11
import Derived.Test.YtapeenpimcffpaaGreatZG12
import Derived.Test.YtapeenpimcffpaaGreatZG6
import Derived.Test.YtapeenpimcffpaaGreatZG9
import Derived.Test.YtapeenpimcffpaaGreatZG10
import Derived.Test.YtapeenpimcffpaaGreatZG5
import Derived.Test.YtapeenpimcffpaaGreatZG7
import Derived.Test.YtapeenpimcffpaaGreatZG8
import Derived.Test.YtapeenpimcffpaaGreatZG1
import Derived.Test.YtapeenpimcffpaaGreatProg
import Derived.ProofKit
import Derived.OpenShut
import Derived.ChangeSame
import Derived.Deep.Slices
import Derived.Deep.Grids
import Derived.Test.YtapeenpimcffpaaGreatRows
set_option linter.unusedVariables false
set_option linter.all false
set_option linter.unusedSimpArgs false
set_option maxRecDepth 1000000
section
namespace Go.Proofs.YtapeenpimcffpaaGreat
open Go Go.RowKit Go.Ql Go.Vc
abbrev z6j (c:List Int) (d:List Int) (g:Nat) (x:Arc):=((z44 z50 (z0q c d).arcs g).set (↑g:Int).toNat { src:=x.src,dst:=x.dst,low:=(0:Int),cap:=x.cap,cost:=x.cost:Arc })
abbrev z6k:=(True/\(True/\(True/\((0:Int) = 0/\((0:Int) = 0/\True)))))
def zf7 (c : List Int) (d : List Int) (m : Bool) (ty0 ty1 : TypeId) : Prop :=
   (Bytes c/\(Bytes d/\(c.length <= maxLen/\(d.length <= maxLen))))/\((!m) = true->((false = (z0r c d m).most/\(True/\(True/\((0:Int) = (z0r c d m).s/\((0:Int) = (z0r c d m).t/\True)))))/\True)/\((z0q c d).sup = (z0r c d m).inst.sup/\((z0q c d).arcs = (z0r c d m).inst.arcs/\True)))/\((!m) = false->(decide ((↑(z0q c d).sup.length:Int) < 2) = true->((false = (z0r c d m).most/\(True/\(True/\((0:Int) = (z0r c d m).s/\((0:Int) = (z0r c d m).t/\True)))))/\True)/\((z0q c d).sup = (z0r c d m).inst.sup/\((z0q c d).arcs = (z0r c d m).inst.arcs/\True)))/\(decide ((↑(z0q c d).sup.length:Int) < 2) = false->((↑(z0q c d).sup.length:Int) = ↑(z0q c d).sup.length/\((0:Int) <= ↑(z0q c d).sup.length/\((↑(z0q c d).sup.length:Int) <= 1000000000)))/\∃ (g0:Nat),(g0 <= (z0q c d).arcs.length/\((True/\(0 = 0/\(0 = 0/\((↑(z0q c d).sup.length:Int) = ↑(z0q c d).sup.length/\((0:Int) = ↑g0/\True)))))/\(List.replicate (↑(z0q c d).sup.length:Int).toNat (0:Int) = List.replicate (↑(z0q c d).sup.length:Int).toNat (0:Int)/\((z6k)/\((z0q c d).arcs = z44 z50 (z0q c d).arcs g0/\((z6k)/\(z0t Int/\(z0t Arc/\(d = d/\True)))))))))/\∀ (g:Nat),g <= (z0q c d).arcs.length->(decide ((↑g:Int) < ↑(z44 z50 (z0q c d).arcs g).length) = true->((0:Int) <= ↑g/\((↑g:Int) < ↑(z44 z50 (z0q c d).arcs g).length))/\((↑g:Int).toNat < (z44 z50 (z0q c d).arcs g).length/\(∀ (x:Arc),(z44 z50 (z0q c d).arcs g)[(↑g:Int).toNat]? = some x->((0:Int) <= ↑g/\((↑g:Int) < ↑(z6j c d g x).length))/\((↑g:Int).toNat < (z6j c d g x).length/\(∀ (x_1:Arc),(z6j c d g x)[(↑g:Int).toNat]? = some x_1->∃ (g':Nat),g' <= (z0q c d).arcs.length/\((z0q c d).arcs.length - g' < (z0q c d).arcs.length - g/\((True/\(0 = 0/\(0 = 0/\((↑(z0q c d).sup.length:Int) = ↑(z0q c d).sup.length/\(IntKind.i64.wrap ((↑g:Int) + (1:Int)) = (↑g':Int)/\True)))))/\(List.replicate (↑(z0q c d).sup.length:Int).toNat (0:Int) = List.replicate (↑(z0q c d).sup.length:Int).toNat (0:Int)/\((z6k)/\((z6j c d g x).set (↑g:Int).toNat { src:=x_1.src,dst:=x_1.dst,low:=x_1.low,cap:=x_1.cap,cost:=(0:Int):Arc } = z44 z50 (z0q c d).arcs g'/\((z6k)/\(z0t Int/\(z0t Arc/\(d = d/\True))))))))))))))/\(decide ((↑g:Int) < ↑(z44 z50 (z0q c d).arcs g).length) = false->((0:Int) <= 0/\((0:Int) < ↑d.length))/\(Int.toNat (0:Int) < d.length/\(∀ (x:Int),d[Int.toNat (0:Int)]? = some x->(7:Int) ≠ (0:Int)/\((↑(z0q c d).sup.length:Int) ≠ (0:Int)/\(((0:Int) <= 0/\((0:Int) < ↑d.length))/\(Int.toNat (0:Int) < d.length/\(∀ (x_1:Int),d[Int.toNat (0:Int)]? = some x_1->(14:Int) ≠ (0:Int)/\(IntKind.i64.wrap ((↑(z0q c d).sup.length:Int) - (1:Int)) ≠ (0:Int)/\((↑(z0q c d).sup.length:Int) ≠ (0:Int)/\(((true = (z0r c d m).most/\(True/\(True/\((IntKind.i64.wrap (IntKind.u8.wrap (x.tdiv (7:Int)))).tmod (↑(z0q c d).sup.length:Int) = (z0r c d m).s/\((IntKind.i64.wrap (IntKind.i64.wrap ((IntKind.i64.wrap (IntKind.u8.wrap (x.tdiv (7:Int)))).tmod (↑(z0q c d).sup.length:Int) + (1:Int)) + (IntKind.i64.wrap (IntKind.u8.wrap (x_1.tdiv (14:Int)))).tmod (IntKind.i64.wrap ((↑(z0q c d).sup.length:Int) - (1:Int))))).tmod (↑(z0q c d).sup.length:Int) = (z0r c d m).t/\True)))))/\True)/\(List.replicate (↑(z0q c d).sup.length:Int).toNat (0:Int) = (z0r c d m).inst.sup/\(z44 z50 (z0q c d).arcs g = (z0r c d m).inst.arcs/\True))))))))))))))
theorem Prob08_q (c:List Int) (d:List Int) (m:Bool) (ty0 ty1:TypeId):zf7 c d m ty0 ty1 = z1f TT Prob08_g (Prob08_I c d m) (zf8 c d m) Tryz.f11 [.row 0,.row 1,.bool m] [(0,.row false ty0 (.ints .u8 c)),(1,.row false ty1 (.ints .u8 d))] (Prob08_r c d m):=by kernel_rfl
theorem Prob08_E (c:List Int) (d:List Int) (m:Bool) (ty0 ty1:TypeId) (hp:Bytes c/\Bytes d/\c.length <= maxLen/\d.length <= maxLen):FVc TT Prob08_g (Prob08_I c d m) (zf8 c d m) Tryz.f11 [.row 0,.row 1,.bool m] [(0,.row false ty0 (.ints .u8 c)),(1,.row false ty1 (.ints .u8 d))] (Prob08_r c d m):=by
 refine FVc.of (zf7 c d m ty0 ty1) (Prob08_q c d m ty0 ty1) ?_
 unfold zf7
 delta z6k z6j
 have hw:∀ j:Nat,j <= 1000000->IntKind.i64.wrap ((j:Int) + 1) = ((j + 1:Nat):Int):=fun j hj=>by rw [w64 (by omega) (by omega)]; omega
 obtain ⟨p1,p2,p3,p4⟩:=hp
 have l1:=instF_sup c d
 have l2:=nOf_pos d
 have l3:=nOf_le d
 have l4:=instF_arcs c d
 simp only [eq_self,exists_const,forall_const,decide_eq_true_eq,decide_eq_false_iff_not,and_true,true_and,bne_iff_ne,ne_eq,bne_eq_false_iff_eq,Int.toNat_natCast,Bool.not_eq_true',Bool.not_eq_false',beq_iff_eq,beq_eq_false_iff_ne,z07]
 refine ⟨⟨p1,p2,p3,p4⟩,fun hm=>?_,fun hm=>⟨fun hn=>?_,fun hn=>⟨⟨by omega,by omega⟩,0,⟨Nat.zero_le _,rfl,(stepL_zero _ _).symm⟩,fun g hg=>?_⟩⟩⟩
 ·unfold z0r; rw [if_neg (fun h=>by rw [hm] at h; cases h.1)]; exact ⟨⟨rfl,rfl,rfl⟩,rfl,rfl⟩
 ·unfold z0r; rw [if_neg (fun h=>by have:=h.2; omega)]; exact ⟨⟨rfl,rfl,rfl⟩,rfl,rfl⟩
 have ep:z0r c d m = ⟨true,⟨List.replicate (z0q c d).sup.length 0,(z0q c d).arcs.map z50⟩,probS d (z0q c d).sup.length,probT d (z0q c d).sup.length⟩:=if_pos ⟨hm,by omega⟩
 rw [ep]
 simp only [List.length_set,zaf]
 refine ⟨fun h1=>⟨⟨by omega,by omega⟩,by omega,fun x hx=>⟨⟨by omega,by omega⟩,by omega,fun y hy=>⟨g + 1,by omega,by omega,hw g (by omega),?_⟩⟩⟩,fun h1=>?_⟩
 ·rw [List.getElem?_set_self (by rw [zaf]; omega)] at hy
  cases hy
  rw [List.set_set]
  exact stepL_set (stepL_get hx) rfl
 ·have hd0:0 < d.length:=by
   refine Classical.byContradiction fun h=>?_
   have:nOf d = 1:=by unfold nOf; rw [if_neg h]
   omega
  refine ⟨⟨by omega,by omega⟩,hd0,fun x hx=>⟨by decide,by omega,⟨by omega,by omega⟩,hd0,fun y hy=>?_⟩⟩
  rw [hx] at hy; cases hy
  have hx2:d[0]? = some x:=hx
  have e0:d.getD 0 0 = x:=by rw [List.getD_eq_getElem?_getD,hx2]; rfl
  have bx:=p2 x (List.mem_of_getElem? hx2)
  have hn2:2 <= (z0q c d).sup.length:=by omega
  generalize (z0q c d).sup.length = n at *
  have t1:x.tdiv 7 = x / 7:=Int.tdiv_eq_ediv_of_nonneg bx.1
  have t2:x.tdiv 14 = x / 14:=Int.tdiv_eq_ediv_of_nonneg bx.1
  have w1:IntKind.i64.wrap (IntKind.u8.wrap (x.tdiv 7)) = x / 7:=by rw [t1,wu8 (by omega) (by omega),w64 (by omega) (by omega)]
  have w2:IntKind.i64.wrap (IntKind.u8.wrap (x.tdiv 14)) = x / 14:=by rw [t2,wu8 (by omega) (by omega),w64 (by omega) (by omega)]
  have w3:IntKind.i64.wrap ((n:Int) - 1) = (n:Int) - 1:=w64 (by omega) (by omega)
  rw [w1,w2,w3]
  have m1:(x / 7).tmod (n:Int) = x / 7 % n:=Int.tmod_eq_emod_of_nonneg (by omega)
  have m2:(x / 14).tmod ((n:Int) - 1) = x / 14 % ((n:Int) - 1):=Int.tmod_eq_emod_of_nonneg (by omega)
  have b1:=Int.emod_nonneg (x / 7) (show (n:Int) ≠ 0 by omega)
  have b2:=Int.emod_lt_of_pos (x / 7) (show (0:Int) < n by omega)
  have b3:=Int.emod_nonneg (x / 14) (show (n:Int) - 1 ≠ 0 by omega)
  have b4:=Int.emod_lt_of_pos (x / 14) (show (0:Int) < (n:Int) - 1 by omega)
  rw [m1,m2,w64 (x:=x / 7 % n + 1) (by omega) (by omega),w64 (x:=x / 7 % n + 1 + _) (by omega) (by omega),Int.tmod_eq_emod_of_nonneg (by omega)]
  unfold probT probS
  rw [e0]
  refine ⟨by decide,by omega,by omega,?_⟩
  rw [stepL_end _ _ (by omega)]; simp
theorem Prob08_ok:SpecOk Tryz.prog Prob08_n true (z02 true zf9) :=
 z06 z0g (show z10 Tryz.prog Prob08_g from z00 Inst_ok (z04)) (by kernel_rfl) mixedOrders Tryz.func11 rfl rfl (by kernel_rfl) (n:=3) (by decide +kernel) (I:=Prob08_IA) (fun _ _=>z05) (A:=Prob08_A)
  (fun args h r hr=>by
   unfold zf9 at hr
   split at hr
   ·rename_i m ty0 c ty1 d; cases hr; refine ⟨rfl,fun hp=>?_⟩; have hE:=Prob08_E c d m ty0 ty1 hp; exact hE
   ·cases hr)
abbrev z5i:=(z1w { most:=true,inst:={ sup:=List.replicate (Int.toNat (3:Int)) (0:Int),arcs:=[{ src:=(0:Int),dst:=(1:Int),low:=(0:Int),cap:=(3:Int),cost:=(0:Int):Arc },{ src:=(1:Int),dst:=(2:Int),low:=(0:Int),cap:=(2:Int),cost:=(0:Int):Arc }]:Inst },s:=(0:Int),t:=(2:Int):ProbD } (z1q { most:=true,inst:={ sup:=List.replicate (Int.toNat (3:Int)) (0:Int),arcs:=[{ src:=(0:Int),dst:=(1:Int),low:=(0:Int),cap:=(3:Int),cost:=(0:Int):Arc },{ src:=(1:Int),dst:=(2:Int),low:=(0:Int),cap:=(2:Int),cost:=(0:Int):Arc }]:Inst },s:=(0:Int),t:=(2:Int):ProbD } { kind:=(1:Int),flow:=[(2:Int),(2:Int),(2:Int)],pot:=[(1:Int),(1:Int),(0:Int)],side:=[],cycle:=[]:Cert }))
abbrev zbk:=(z13 { most:=true,inst:={ sup:=List.replicate (Int.toNat (3:Int)) (0:Int),arcs:=[{ src:=(0:Int),dst:=(1:Int),low:=(0:Int),cap:=(3:Int),cost:=(0:Int):Arc },{ src:=(1:Int),dst:=(2:Int),low:=(0:Int),cap:=(2:Int),cost:=(0:Int):Arc }]:Inst },s:=(0:Int),t:=(2:Int):ProbD } { kind:=(1:Int),flow:=[(2:Int),(2:Int),(2:Int)],pot:=[(1:Int),(1:Int),(0:Int)],side:=[],cycle:=[]:Cert } = false->(false = true/\True)/\True)
abbrev zbl:=(z1q { most:=true,inst:={ sup:=List.replicate (Int.toNat (3:Int)) (0:Int),arcs:=[{ src:=(0:Int),dst:=(1:Int),low:=(0:Int),cap:=(3:Int),cost:=(0:Int):Arc },{ src:=(1:Int),dst:=(2:Int),low:=(0:Int),cap:=(2:Int),cost:=(0:Int):Arc }]:Inst },s:=(0:Int),t:=(2:Int):ProbD } { kind:=(1:Int),flow:=[(2:Int),(2:Int),(2:Int)],pot:=[(1:Int),(1:Int),(0:Int)],side:=[],cycle:=[]:Cert } = [true,true,false])
abbrev zbm:=(z6d { most:=true,inst:={ sup:=List.replicate (Int.toNat (3:Int)) (0:Int),arcs:=[{ src:=(0:Int),dst:=(1:Int),low:=(0:Int),cap:=(3:Int),cost:=(0:Int):Arc },{ src:=(1:Int),dst:=(2:Int),low:=(0:Int),cap:=(2:Int),cost:=(0:Int):Arc }]:Inst },s:=(0:Int),t:=(2:Int):ProbD } { kind:=(1:Int),flow:=[(2:Int),(2:Int),(2:Int)],pot:=[(1:Int),(1:Int),(0:Int)],side:=[],cycle:=[]:Cert } == (2:Int))
abbrev zbn:=(z1q { most:=true,inst:={ sup:=List.replicate (Int.toNat (3:Int)) (0:Int),arcs:=[{ src:=(0:Int),dst:=(1:Int),low:=(0:Int),cap:=(3:Int),cost:=(0:Int):Arc },{ src:=(1:Int),dst:=(2:Int),low:=(0:Int),cap:=(2:Int),cost:=(0:Int):Arc }]:Inst },s:=(0:Int),t:=(2:Int):ProbD } { kind:=(1:Int),flow:=[(2:Int),(2:Int),(2:Int)],pot:=[(1:Int),(1:Int),(0:Int)],side:=[],cycle:=[]:Cert })
def zbj : Prop :=
   ((3:Int) = 3/\((0:Int) <= 3/\((3:Int) <= 1000000000)))/\z0j { kind:=(1:Int),flow:=[(2:Int),(2:Int),(2:Int)],pot:=[(1:Int),(1:Int),(0:Int)],side:=[],cycle:=[]:Cert }/\z0j { kind:=(1:Int),flow:=[(2:Int),(2:Int),(2:Int)],pot:=[(1:Int),(1:Int),(0:Int)],side:=[],cycle:=[]:Cert }/\(zbn).length <= (1000000:Nat)/\(z13 { most:=true,inst:={ sup:=List.replicate (Int.toNat (3:Int)) (0:Int),arcs:=[{ src:=(0:Int),dst:=(1:Int),low:=(0:Int),cap:=(3:Int),cost:=(0:Int):Arc },{ src:=(1:Int),dst:=(2:Int),low:=(0:Int),cap:=(2:Int),cost:=(0:Int):Arc }]:Inst },s:=(0:Int),t:=(2:Int):ProbD } { kind:=(1:Int),flow:=[(2:Int),(2:Int),(2:Int)],pot:=[(1:Int),(1:Int),(0:Int)],side:=[],cycle:=[]:Cert } = true->((zbm) = true->(z13 { most:=true,inst:={ sup:=List.replicate (Int.toNat (3:Int)) (0:Int),arcs:=[{ src:=(0:Int),dst:=(1:Int),low:=(0:Int),cap:=(3:Int),cost:=(0:Int):Arc },{ src:=(1:Int),dst:=(2:Int),low:=(0:Int),cap:=(2:Int),cost:=(0:Int):Arc }]:Inst },s:=(0:Int),t:=(2:Int):ProbD } { kind:=(1:Int),flow:=[(2:Int),(2:Int),(2:Int)],pot:=[(1:Int),(1:Int),(0:Int)],side:=[],cycle:=[]:Cert } = true->(zbn).length <= (1000000000:Nat)/\(decide (zbl) = true->((z5i).isSome = true->I64 (2:Int)/\((decide ([(z2u (z5i)).hi,(z2u (z5i)).lo] = [(W (2:Int)).hi,(W (2:Int)).lo]) = true/\True)/\True))/\((z5i).isSome = false->(false = true/\True)/\True))/\(decide (zbl) = false->(false = true/\True)/\True))/\(zbk))/\((zbm) = false->(false = true/\True)/\True))/\(zbk)
theorem known21_q:zbj = z1f TT zh7 (known21_I) (known21_an) Tryz.f10 [] [] (zh8):=by kernel_rfl
theorem known21_E (hp:True):FVc TT zh7 (known21_I) (known21_an) Tryz.f10 [] [] (zh8):=by
 refine FVc.of (zbj) (known21_q) ?_
 unfold zbj
 delta zbn zbm zbl zbk z5i
 simp only [eq_self,exists_const,forall_const,decide_eq_true_eq,decide_eq_false_iff_not,and_true,true_and,bne_iff_ne,ne_eq,bne_eq_false_iff_eq,Int.toNat_natCast,Bool.not_eq_true',Bool.not_eq_false',beq_iff_eq,beq_eq_false_iff_ne,z07]
 obtain ⟨k1,k2,k3,k4⟩:=known_is
 have e:(⟨true,⟨List.replicate (Int.toNat 3) 0,[⟨0,1,0,3,0⟩,⟨1,2,0,2,0⟩]⟩,0,2⟩:ProbD) = knownP:=rfl
 have e2:(⟨1,[2,2,2],[1,1,0],[],[]⟩:Cert) = zh9:=rfl
 have ok:z0j zh9:=⟨fun y hy=>by unfold zh9 at hy; simp at hy; unfold I64; omega,fun y hy=>by unfold zh9 at hy; simp at hy; unfold I64; omega,by decide,by decide,by decide,by decide⟩
 simp only [e,e2,k1,k2,k3,k4]
 simp [ok,z2u,I64]
theorem known21_ok:SpecOk Tryz.prog known21_n true (z02 true zbo) :=
 z06 z0g (show z10 Tryz.prog zh7 from z00 Value21_ok (z00 Side21_ok (z00 zfg (z00 Bools_ok (z00 zf3 (z04)))))) (by kernel_rfl) mixedOrders Tryz.func10 rfl rfl (by kernel_rfl) (n:=0) (by decide +kernel) (I:=known21_IA) (fun _ _=>z05) (A:=known21_A)
  (fun args h r hr=>by
   unfold zbo at hr
   split at hr
   ·cases hr; refine ⟨rfl,fun hp=>?_⟩; have hE:=known21_E  hp; exact hE
   ·cases hr)
def own21_E0 (p : ProbD) (e : List Int) (ty0 ty1 ty2 : TypeId) : Prop :=
      ((↑p.inst.sup.length:Int) = (↑p.inst.sup.length:Int)/\(0:Int) <= (↑p.inst.sup.length:Int)/\(↑p.inst.sup.length:Int) <= (1000000000:Int)) /\
 (Bytes e/\(↑(List.replicate (↑p.inst.sup.length:Int).toNat false).length:Int) <= (1000000:Int)) /\
 ((0:Int) <= p.s /\
 p.s <
 (↑(List.take (List.replicate (↑p.inst.sup.length:Int).toNat false).length (z0y e (↑(List.replicate (↑p.inst.sup.length:Int).toNat false).length:Int).toNat) ++
 List.drop (z0y e (↑(List.replicate (↑p.inst.sup.length:Int).toNat false).length:Int).toNat).length
 (List.replicate (↑p.inst.sup.length:Int).toNat false)).length :
 Int)) /\
 p.s.toNat <
 (List.take (List.replicate (↑p.inst.sup.length:Int).toNat false).length (z0y e (↑(List.replicate (↑p.inst.sup.length:Int).toNat false).length:Int).toNat) ++
 List.drop (z0y e (↑(List.replicate (↑p.inst.sup.length:Int).toNat false).length:Int).toNat).length
 (List.replicate (↑p.inst.sup.length:Int).toNat false)).length /\
 ((0:Int) <= p.t /\
 p.t <
 (↑((List.take (List.replicate (↑p.inst.sup.length:Int).toNat false).length
 (z0y e (↑(List.replicate (↑p.inst.sup.length:Int).toNat false).length:Int).toNat) ++
 List.drop (z0y e (↑(List.replicate (↑p.inst.sup.length:Int).toNat false).length:Int).toNat).length
 (List.replicate (↑p.inst.sup.length:Int).toNat false)).set
 p.s.toNat true).length :
 Int)) /\
 p.t.toNat <
 ((List.take (List.replicate (↑p.inst.sup.length:Int).toNat false).length (z0y e (↑(List.replicate (↑p.inst.sup.length:Int).toNat false).length:Int).toNat) ++
 List.drop (z0y e (↑(List.replicate (↑p.inst.sup.length:Int).toNat false).length:Int).toNat).length
 (List.replicate (↑p.inst.sup.length:Int).toNat false)).set
 p.s.toNat true).length /\
 (True/\True) /\
 ((List.take (List.replicate (↑p.inst.sup.length:Int).toNat false).length (z0y e (↑(List.replicate (↑p.inst.sup.length:Int).toNat false).length:Int).toNat) ++
 List.drop (z0y e (↑(List.replicate (↑p.inst.sup.length:Int).toNat false).length:Int).toNat).length
 (List.replicate (↑p.inst.sup.length:Int).toNat false)).set
 p.s.toNat true).set
 p.t.toNat false =
 ownF p e /\
 True
theorem own21_q (p:ProbD) (e:List Int) (ty0 ty1 ty2:TypeId):own21_E0 p e ty0 ty1 ty2 = z1f TT own21_g (own21_I p e) (own21_an p e) Tryz.f17 [.agg [.bool p.most,.row 0,.row 1,.int .i64 p.s,.int .i64 p.t],.row 2] [(0,.row false ty0 (.ints .i64 p.inst.sup)),(1,.row false ty1 (.arcs p.inst.arcs)),(2,.row false ty2 (.ints .u8 e))] (own21_r p e):=by kernel_rfl
theorem own21_E (p:ProbD) (e:List Int) (ty0 ty1 ty2:TypeId) (hp:Bytes e/\p.inst.sup.length <= 1000/\0 <= p.s/\p.s < p.inst.sup.length/\0 <= p.t/\p.t < p.inst.sup.length):FVc TT own21_g (own21_I p e) (own21_an p e) Tryz.f17 [.agg [.bool p.most,.row 0,.row 1,.int .i64 p.s,.int .i64 p.t],.row 2] [(0,.row false ty0 (.ints .i64 p.inst.sup)),(1,.row false ty1 (.arcs p.inst.arcs)),(2,.row false ty2 (.ints .u8 e))] (own21_r p e):=by
 refine FVc.of (own21_E0 p e ty0 ty1 ty2) (own21_q p e ty0 ty1 ty2) ?_
 unfold own21_E0
 obtain ⟨e1,e2,s0,s1,t0,t1⟩:=hp
 simp only [eq_self,exists_const,forall_const,decide_eq_true_eq,decide_eq_false_iff_not,and_true,true_and,bne_iff_ne,ne_eq,bne_eq_false_iff_eq,Int.toNat_natCast,Bool.not_eq_true',Bool.not_eq_false',beq_iff_eq,beq_eq_false_iff_ne,z07]
 have e2:∀ n:Nat,List.take n (z0y e n) ++ List.drop (z0y e n).length (List.replicate n false) = z85 e n:=fun n=>wholeF_drop e n
 simp only [List.length_replicate,e2,List.length_set,z7q]
 exact ⟨⟨by omega,by omega⟩,⟨e1,by omega⟩,⟨by omega,by omega⟩,by omega,⟨by omega,by omega⟩,by omega,rfl⟩
theorem own21_ok:SpecOk Tryz.prog own21_n true (z02 true own21_fs) :=
 z06 z0g (show z10 Tryz.prog own21_g from z00 Marks_ok (z04)) (by kernel_rfl) mixedOrders Tryz.func17 rfl rfl (by kernel_rfl) (n:=2) (by decide +kernel) (I:=own21_IA) (fun _ _=>z05) (A:=own21_A)
  (fun args h r hr=>by
   unfold own21_fs at hr
   split at hr
   ·rename_i p_m p_S p_T ty0 p_s ty1 p_a ty2 e; cases hr; refine ⟨rfl,fun hp=>?_⟩; have hE:=own21_E ⟨p_m,⟨p_s,p_a⟩,p_S,p_T⟩ e ty0 ty1 ty2 hp; exact hE
   ·cases hr)
def zat (p : ProbD) (e : List Int) (ty0 ty1 ty2 : TypeId) : Prop :=
      ((IntKind.i64.wrap ((↑p.inst.arcs.length:Int) + (1:Int)) = IntKind.i64.wrap ((↑p.inst.arcs.length:Int) + (1:Int)) /\
 (0:Int) <= IntKind.i64.wrap ((↑p.inst.arcs.length:Int) + (1:Int))/\IntKind.i64.wrap ((↑p.inst.arcs.length:Int) + (1:Int)) <= (1000000000:Int)) /\
 (Bytes e/\e.length <= maxLen/\(0:Int) <= (↑p.inst.sup.length:Int)/\(↑p.inst.sup.length:Int) <= (1000000:Int)) /\
 (((1:Int) = (z3f p e).kind/\True/\True/\True/\True/\True)/\True) /\
 List.replicate (IntKind.i64.wrap ((↑p.inst.arcs.length:Int) + (1:Int))).toNat (0:Int) = (z3f p e).flow /\
 z2e e (↑p.inst.sup.length:Int).toNat = (z3f p e).pot/\[] = (z3f p e).side/\[] = (z3f p e).cycle/\True) /\
 (Bytes e/\e.length <= maxLen/\(0:Int) <= (↑p.inst.sup.length:Int)/\(↑p.inst.sup.length:Int) <= (1000000:Int)) /\
 (IntKind.i64.wrap ((↑p.inst.arcs.length:Int) + (1:Int)) = IntKind.i64.wrap ((↑p.inst.arcs.length:Int) + (1:Int)) /\
 (0:Int) <= IntKind.i64.wrap ((↑p.inst.arcs.length:Int) + (1:Int))/\IntKind.i64.wrap ((↑p.inst.arcs.length:Int) + (1:Int)) <= (1000000000:Int)) /\
 (((1:Int) = (z3f p e).kind/\True/\True/\True/\True/\True)/\True) /\
 List.replicate (IntKind.i64.wrap ((↑p.inst.arcs.length:Int) + (1:Int))).toNat (0:Int) = (z3f p e).flow /\
 z2e e (↑p.inst.sup.length:Int).toNat = (z3f p e).pot/\[] = (z3f p e).side/\[] = (z3f p e).cycle/\True
theorem Level21_q (p:ProbD) (e:List Int) (ty0 ty1 ty2:TypeId):zat p e ty0 ty1 ty2 = z1f TT zev (Level21_I p e) (Level21_an p e) Tryz.f16 [.agg [.bool p.most,.row 0,.row 1,.int .i64 p.s,.int .i64 p.t],.row 2] [(0,.row false ty0 (.ints .i64 p.inst.sup)),(1,.row false ty1 (.arcs p.inst.arcs)),(2,.row false ty2 (.ints .u8 e))] (zew p e):=by kernel_rfl
theorem Level21_E (p:ProbD) (e:List Int) (ty0 ty1 ty2:TypeId) (hp:Bytes e/\e.length <= maxLen/\p.inst.sup.length <= 1000/\p.inst.arcs.length <= 1000):FVc TT zev (Level21_I p e) (Level21_an p e) Tryz.f16 [.agg [.bool p.most,.row 0,.row 1,.int .i64 p.s,.int .i64 p.t],.row 2] [(0,.row false ty0 (.ints .i64 p.inst.sup)),(1,.row false ty1 (.arcs p.inst.arcs)),(2,.row false ty2 (.ints .u8 e))] (zew p e):=by
 refine FVc.of (zat p e ty0 ty1 ty2) (Level21_q p e ty0 ty1 ty2) ?_
 unfold zat
 obtain ⟨e1,e2,n1,n2⟩:=hp
 have hw:∀ j:Nat,j <= 1000000->IntKind.i64.wrap ((j:Int) + 1) = ((j + 1:Nat):Int):=fun j hj=>by rw [w64 (by omega) (by omega)]; omega
 simp only [eq_self,exists_const,forall_const,decide_eq_true_eq,decide_eq_false_iff_not,and_true,true_and,bne_iff_ne,ne_eq,bne_eq_false_iff_eq,Int.toNat_natCast,Bool.not_eq_true',Bool.not_eq_false',beq_iff_eq,beq_eq_false_iff_ne,z07]
 rw [hw _ (by omega)]
 have hA:Bytes e/\e.length <= maxLen/\(0:Int) <= (p.inst.sup.length:Int)/\(p.inst.sup.length:Int) <= 1000000:=⟨e1,e2,by omega,by omega⟩
 exact ⟨⟨⟨by omega,by omega⟩,hA,rfl,rfl,rfl,rfl,rfl⟩,hA,⟨by omega,by omega⟩,rfl,rfl,rfl,rfl,rfl⟩
theorem Level21_ok:SpecOk Tryz.prog Level21_n true (z02 true zau) :=
 z06 z0g (show z10 Tryz.prog zev from z00 Pot_ok (z04)) (by kernel_rfl) mixedOrders Tryz.func16 rfl rfl (by kernel_rfl) (n:=2) (by decide +kernel) (I:=Level21_IA) (fun _ _=>z05) (A:=Level21_A)
  (fun args h r hr=>by
   unfold zau at hr
   split at hr
   ·rename_i p_m p_S p_T ty0 p_s ty1 p_a ty2 e; cases hr; refine ⟨rfl,fun hp=>?_⟩; have hE:=Level21_E ⟨p_m,⟨p_s,p_a⟩,p_S,p_T⟩ e ty0 ty1 ty2 hp; exact hE
   ·cases hr)
abbrev z4j (p:ProbD) (c:Cert):=(z13 { most:=p.most,inst:=p.inst,s:=p.s,t:=p.t:ProbD } { kind:=c.kind,flow:=c.flow,pot:=c.pot,side:=c.side,cycle:=c.cycle:Cert } == z13 { most:=p.most,inst:=p.inst,s:=p.s,t:=p.t:ProbD } { kind:=c.kind,flow:=c.flow,pot:=c.pot,side:=c.side,cycle:=c.cycle:Cert })
abbrev z2f (p:ProbD) (S:List Bool):=(z1w { most:=p.most,inst:=p.inst,s:=p.s,t:=p.t:ProbD } S)
abbrev zg7 (p:ProbD) (c:Cert):=(z1q { most:=p.most,inst:=p.inst,s:=p.s,t:=p.t:ProbD } { kind:=c.kind,flow:=c.flow,pot:=c.pot,side:=c.side,cycle:=c.cycle:Cert } = z1q { most:=p.most,inst:=p.inst,s:=p.s,t:=p.t:ProbD } { kind:=c.kind,flow:=c.flow,pot:=c.pot,side:=c.side,cycle:=c.cycle:Cert })
abbrev zg8 (p:ProbD) (c:Cert):=(z23 { most:=p.most,inst:=p.inst,s:=p.s,t:=p.t:ProbD } { kind:=c.kind,flow:=c.flow,pot:=c.pot,side:=c.side,cycle:=c.cycle:Cert } = z23 { most:=p.most,inst:=p.inst,s:=p.s,t:=p.t:ProbD } { kind:=c.kind,flow:=c.flow,pot:=c.pot,side:=c.side,cycle:=c.cycle:Cert })
abbrev zg9 (p:ProbD) (c:Cert):=(z6d { most:=p.most,inst:=p.inst,s:=p.s,t:=p.t:ProbD } { kind:=c.kind,flow:=c.flow,pot:=c.pot,side:=c.side,cycle:=c.cycle:Cert } == z6d { most:=p.most,inst:=p.inst,s:=p.s,t:=p.t:ProbD } { kind:=c.kind,flow:=c.flow,pot:=c.pot,side:=c.side,cycle:=c.cycle:Cert })
abbrev zga (p:ProbD):=(IntKind.i64.wrap (ofE { most:=p.most,inst:=p.inst,s:=p.s,t:=p.t:ProbD }) == ofE { most:=p.most,inst:=p.inst,s:=p.s,t:=p.t:ProbD })
abbrev zgb (p:ProbD):=(ofI { most:=p.most,inst:=p.inst,s:=p.s,t:=p.t:ProbD } = ofI { most:=p.most,inst:=p.inst,s:=p.s,t:=p.t:ProbD })
def zg6 (p : ProbD) (c : Cert) (S : List Bool) (ty0 ty1 ty2 ty3 ty4 ty5 ty6 : TypeId) : Prop :=
   True/\True/\z0j { kind:=c.kind,flow:=c.flow,pot:=c.pot,side:=c.side,cycle:=c.cycle:Cert }/\z0j { kind:=c.kind,flow:=c.flow,pot:=c.pot,side:=c.side,cycle:=c.cycle:Cert }/\z0j { kind:=c.kind,flow:=c.flow,pot:=c.pot,side:=c.side,cycle:=c.cycle:Cert }/\z0j { kind:=c.kind,flow:=c.flow,pot:=c.pot,side:=c.side,cycle:=c.cycle:Cert }/\z0j { kind:=c.kind,flow:=c.flow,pot:=c.pot,side:=c.side,cycle:=c.cycle:Cert }/\z0j { kind:=c.kind,flow:=c.flow,pot:=c.pot,side:=c.side,cycle:=c.cycle:Cert }/\S.length <= (1000000:Nat)/\S.length <= (1000000:Nat)/\((ofI { most:=p.most,inst:=p.inst,s:=p.s,t:=p.t:ProbD }).sup.length <= (1000000000:Nat)/\((ofI { most:=p.most,inst:=p.inst,s:=p.s,t:=p.t:ProbD }).arcs.length <= (1000000000:Nat)))/\(decide (zgb p) = true->((zga p) = true->((zg9 p c) = true->((z4j p c) = true->(z1q { most:=p.most,inst:=p.inst,s:=p.s,t:=p.t:ProbD } { kind:=c.kind,flow:=c.flow,pot:=c.pot,side:=c.side,cycle:=c.cycle:Cert }).length <= (1000000000:Nat)/\(decide (zg7 p c) = true->((z4j p c) = true->(z23 { most:=p.most,inst:=p.inst,s:=p.s,t:=p.t:ProbD } { kind:=c.kind,flow:=c.flow,pot:=c.pot,side:=c.side,cycle:=c.cycle:Cert }).length <= (1000000000:Nat)/\((decide (zg8 p c) = true->((z4j p c) = true->(decide ([(z2u (z2f p S)).hi,(z2u (z2f p S)).lo] = [(z2u (z2f p S)).hi,(z2u (z2f p S)).lo]) = true->(((z2f p S).isSome == (z2f p S).isSome) = true/\True)/\True)/\(decide ([(z2u (z2f p S)).hi,(z2u (z2f p S)).lo] = [(z2u (z2f p S)).hi,(z2u (z2f p S)).lo]) = false->(false = true/\True)/\True))/\((z4j p c) = false->(false = true/\True)/\True))/\(decide (zg8 p c) = false->(false = true/\True)/\True)))/\((z4j p c) = false->(false = true/\True)/\True))/\(decide (zg7 p c) = false->(false = true/\True)/\True))/\((z4j p c) = false->(false = true/\True)/\True))/\((zg9 p c) = false->(false = true/\True)/\True))/\((zga p) = false->(false = true/\True)/\True))/\(decide (zgb p) = false->(false = true/\True)/\True)
theorem asks21_q (p:ProbD) (c:Cert) (S:List Bool) (ty0 ty1 ty2 ty3 ty4 ty5 ty6:TypeId):zg6 p c S ty0 ty1 ty2 ty3 ty4 ty5 ty6 = z1f TT asks21_g (asks21_I p c S) (asks21_an p c S) Tryz.f13 [.agg [.bool p.most,.row 0,.row 1,.int .i64 p.s,.int .i64 p.t],.agg [.int .i64 c.kind,.row 2,.row 3,.row 4,.row 5],.row 6] [(0,.row false ty0 (.ints .i64 p.inst.sup)),(1,.row false ty1 (.arcs p.inst.arcs)),(2,.row false ty2 (.ints .i64 c.flow)),(3,.row false ty3 (.ints .i64 c.pot)),(4,.row false ty4 (.bools c.side)),(5,.row false ty5 (.ints .i64 c.cycle)),(6,.row false ty6 (.bools S))] (asks21_r p c S):=by kernel_rfl
theorem asks21_E (p:ProbD) (c:Cert) (S:List Bool) (ty0 ty1 ty2 ty3 ty4 ty5 ty6:TypeId) (hp:z0j c/\S.length <= 1000000):FVc TT asks21_g (asks21_I p c S) (asks21_an p c S) Tryz.f13 [.agg [.bool p.most,.row 0,.row 1,.int .i64 p.s,.int .i64 p.t],.agg [.int .i64 c.kind,.row 2,.row 3,.row 4,.row 5],.row 6] [(0,.row false ty0 (.ints .i64 p.inst.sup)),(1,.row false ty1 (.arcs p.inst.arcs)),(2,.row false ty2 (.ints .i64 c.flow)),(3,.row false ty3 (.ints .i64 c.pot)),(4,.row false ty4 (.bools c.side)),(5,.row false ty5 (.ints .i64 c.cycle)),(6,.row false ty6 (.bools S))] (asks21_r p c S):=by
 refine FVc.of (zg6 p c S ty0 ty1 ty2 ty3 ty4 ty5 ty6) (asks21_q p c S ty0 ty1 ty2 ty3 ty4 ty5 ty6) ?_
 unfold zg6
 delta zgb zga zg9 zg8 zg7 z2f z4j
 obtain ⟨h1,h2⟩:=hp
 simp only [eq_self,exists_const,forall_const,decide_eq_true_eq,decide_eq_false_iff_not,and_true,true_and,bne_iff_ne,ne_eq,bne_eq_false_iff_eq,Int.toNat_natCast,Bool.not_eq_true',Bool.not_eq_false',beq_iff_eq,beq_eq_false_iff_ne,z07]
 have f1:=ofI_few p
 have f2:=side_few p c
 have f3:=ofE_few p
 have f4:IntKind.i64.wrap (ofE p) = ofE p:=w64 (by omega) (by omega)
 have g1:(z1q p c).length <= 1000000000:=by omega
 have g2:(z23 p c).length <= 1000000000:=by omega
 have g3:(ofI p).sup.length <= 1000000000:=by omega
 have g4:(ofI p).arcs.length <= 1000000000:=by omega
 simp [h1,h2,f4,g1,g2,g3,g4]
theorem asks21_ok:SpecOk Tryz.prog asks21_n true (z02 true zgc) :=
 z06 z0g (show z10 Tryz.prog asks21_g from z00 zf2 (z00 ze0 (z00 Value21_ok (z00 rValue21_ok (z00 Side21_ok (z00 rSide21_ok (z00 Flow21_ok (z00 rFlow21_ok (z00 zfg (z00 rWeight21_ok (z00 rSame_ok (z00 Bools_ok (z00 Nums_ok (z04)))))))))))))) (by kernel_rfl) mixedOrders Tryz.func13 rfl rfl (by kernel_rfl) (n:=3) (by decide +kernel) (I:=asks21_IA) (fun _ _=>z05) (A:=asks21_A)
  (fun args h r hr=>by
   unfold zgc at hr
   split at hr
   ·rename_i p_m p_S p_T c_k ty0 p_s ty1 p_a ty2 c_f ty3 c_p ty4 c_s ty5 c_y ty6 S; cases hr; refine ⟨rfl,fun hp=>?_⟩; have hE:=asks21_E ⟨p_m,⟨p_s,p_a⟩,p_S,p_T⟩ ⟨c_k,c_f,c_p,c_s,c_y⟩ S ty0 ty1 ty2 ty3 ty4 ty5 ty6 hp; exact hE
   ·cases hr)
end Go.Proofs.YtapeenpimcffpaaGreat
end
section
namespace Go.Proofs.YtapeenpimcffpaaGreat
open Go Go.RowKit Go.Ql Go.Vc
def z1g (I:Inst) (k:Int) (d e:List Int):Cert :=
 if k % 3 = 0 then ⟨1,z1d I d,z2e e I.sup.length,[],[]⟩
 else if k % 3 = 1 then ⟨2,[],[],z85 e I.sup.length,[]⟩
 else ⟨3,z1d I d,[],[],(e.take 4).map fun x=>x % ((I.arcs.length:Int) + 1)⟩
def z2y (I:Inst) (k:Int) (d e:List Int):Cert :=
 let c:=z1g I k d e
 if k / 3 % 12 = 0 then { c with side:=c.side ++ [true] } else if k / 3 % 12 = 1 then { c with pot:=c.pot ++ [1] } else if k / 3 % 12 = 2 then { c with kind:=k / 36 } else c
def LongC_r (c:Cert):FRes:={ pre:=z0j c,res:=.int .i64 (c.flow.length + c.pot.length + c.side.length + c.cycle.length),rows:=[],eff:=[] }
def LongC_fs:FS:=fun args h=>match args,h with
 | [.agg [.int .i64 c_k,.row 0,.row 1,.row 2,.row 3]],[(0,.row false ty0 (.ints .i64 c_f)),(1,.row false ty1 (.ints .i64 c_p)),(2,.row false ty2 (.bools c_s)),(3,.row false ty3 (.ints .i64 c_y))]=>some (LongC_r ⟨c_k,c_f,c_p,c_s,c_y⟩)
 | _,_=>none
def LongC_an (c:Cert):List (Nat × Ann):=[]
def LongC_A:List SV->z0c->List (Nat × Ann):=fun _ _=>[]
def LongC_g:z0b:=[]
abbrev LongC_n:Nat:=9
def LongC_I (c:Cert):List (Nat × z08):=[]
def LongC_IA:List SV->z0c->List (Nat × z08):=fun _ _=>[]
def CertC_r (I:Inst) (k:Int) (d:List Int) (e:List Int):FRes:={ pre:=0 <= k/\k <= 255/\I.sup.length <= 1000/\I.arcs.length <= 1000/\L42 I.arcs/\Bytes d/\Bytes e/\e.length <= maxLen,res:=.agg [.int .i64 (z2y I k d e).kind,.row 4,.row 5,.row 6,.row 7],rows:=[.row 2 (.ints .i64 (z2y I k d e).flow),.row 2 (.ints .i64 (z2y I k d e).pot),.row 4 (.bools (z2y I k d e).side),.row 3 (.ints .i64 (z2y I k d e).cycle)],eff:=[] }
def CertC_fs:FS:=fun args h=>match args,h with
 | [.agg [.row 0,.row 1],.int .u8 k,.row 2,.row 3],[(0,.row false ty0 (.ints .i64 I_s)),(1,.row false ty1 (.arcs I_a)),(2,.row false ty2 (.ints .u8 d)),(3,.row false ty3 (.ints .u8 e))]=>some (CertC_r ⟨I_s,I_a⟩ k d e)
 | _,_=>none
def CertC_an (I:Inst) (k:Int) (d:List Int) (e:List Int):List (Nat × Ann):=[(5,{ G:=(Nat),inv:=fun n=>⟨[(1,.int .u8 k),(3,.row 3),(4,.ptr 4 0 0 0),(8,.ptr 9 0 0 0),(9,.ptr 18 0 0 0),(10,.int .i64 n)],[(19,.row true 2 (.ints .i64 (z1d I d))),(18,.box true 31 [.int .i64 (IntKind.i64.wrap ((1:Int) + IntKind.i64.wrap (k.tmod (3:Int)))),.row 19,.row 11,.row 12,.row 13]),(11,.row true 2 (.ints .i64 [])),(12,.row true 4 (.bools [])),(13,.row true 3 (.ints .i64 ((e.take n).map fun x=>x % ((I.arcs.length:Int) + 1)))),(9,.box true 31 [.int .i64 (0:Int),.row 5,.row 6,.row 7,.row 8]),(5,.row true 2 (.ints .i64 [])),(6,.row true 2 (.ints .i64 [])),(7,.row true 4 (.bools [])),(8,.row true 3 (.ints .i64 [])),(4,.box true 25 [.row 0,.row 1]),(0,.row false 0 (.ints .i64 I.sup)),(1,.row false 0 (.arcs I.arcs)),(3,.row false 0 (.ints .u8 e))],20⟩,rel:=fun n0 n=>n <= e.length/\n <= 4,meas:=fun n=>4 - n }),
 (1000014,{ G:=Unit,inv:=fun _=>⟨[(1,.int .u8 k),(8,.ptr 9 0 0 0),(9,.ptr 18 0 0 0)],[(9,.box true 31 [.int .i64 (0:Int),.row 5,.row 6,.row 7,.row 8]),(18,.box true 31 [.int .i64 (z1g I k d e).kind,.row 19,.row 20,.row 12,.row 13]),(5,.row true 2 (.ints .i64 [])),(6,.row true 2 (.ints .i64 [])),(7,.row true 4 (.bools [])),(8,.row true 3 (.ints .i64 [])),(19,.row true 2 (.ints .i64 (z1g I k d e).flow)),(20,.row true 2 (.ints .i64 (z1g I k d e).pot)),(12,.row true 4 (.bools (z1g I k d e).side)),(13,.row true 3 (.ints .i64 (z1g I k d e).cycle))],21⟩,rel:=fun _ _=>True,meas:=fun _=>0 })]
def CertC_A:List SV->z0c->List (Nat × Ann):=fun args h=>match args,h with
 | [.agg [.row 0,.row 1],.int .u8 k,.row 2,.row 3],[(0,.row false ty0 (.ints .i64 I_s)),(1,.row false ty1 (.arcs I_a)),(2,.row false ty2 (.ints .u8 d)),(3,.row false ty3 (.ints .u8 e))]=>CertC_an ⟨I_s,I_a⟩ k d e
 | _,_=>[]
def CertC_g:z0b:=[(Flow_n,(true,z02 true Flow_fs)),(Pot_n,(true,z02 true Pot_fs)),(Marks_n,(true,z02 true z9j))]
abbrev CertC_n:Nat:=18
def CertC_I (I:Inst) (k:Int) (d:List Int) (e:List Int):List (Nat × z08):=[]
def CertC_IA:List SV->z0c->List (Nat × z08):=fun _ _=>[]
end Go.Proofs.YtapeenpimcffpaaGreat
end
section
namespace Go.Proofs.YtapeenpimcffpaaGreat
open Go Go.RowKit Go.Ql Go.Vc
theorem cpot_len (e:List Int) (n:Nat):(z2e e n).length = n:=by simp [z2e]
theorem whole_eq (e:List Int) (n:Nat):List.take n (z0y e n) ++ List.drop (z0y e n).length (List.replicate n false) = z85 e n:=by
 have h:(z0y e n).length <= n:=by unfold z0y; simp; omega
 unfold z85
 rw [List.take_of_length_le h,List.drop_replicate]
def LongC_E0 (c : Cert) (ty0 ty1 ty2 ty3 : TypeId) : Prop :=
      (IntKind.i64.wrap (IntKind.i64.wrap (IntKind.i64.wrap ((↑c.flow.length:Int) + (↑c.pot.length:Int)) + (↑c.side.length:Int)) + (↑c.cycle.length:Int)) =
 (↑c.flow.length:Int) + (↑c.pot.length:Int) + (↑c.side.length:Int) + (↑c.cycle.length:Int) /\
 True) /\
 True
theorem LongC_q (c:Cert) (ty0 ty1 ty2 ty3:TypeId):LongC_E0 c ty0 ty1 ty2 ty3 = z1f TT LongC_g (LongC_I c) (LongC_an c) Tryz.f9 [.agg [.int .i64 c.kind,.row 0,.row 1,.row 2,.row 3]] [(0,.row false ty0 (.ints .i64 c.flow)),(1,.row false ty1 (.ints .i64 c.pot)),(2,.row false ty2 (.bools c.side)),(3,.row false ty3 (.ints .i64 c.cycle))] (LongC_r c):=by kernel_rfl
theorem LongC_E (c:Cert) (ty0 ty1 ty2 ty3:TypeId) (hp:z0j c):FVc TT LongC_g (LongC_I c) (LongC_an c) Tryz.f9 [.agg [.int .i64 c.kind,.row 0,.row 1,.row 2,.row 3]] [(0,.row false ty0 (.ints .i64 c.flow)),(1,.row false ty1 (.ints .i64 c.pot)),(2,.row false ty2 (.bools c.side)),(3,.row false ty3 (.ints .i64 c.cycle))] (LongC_r c):=by
 refine FVc.of (LongC_E0 c ty0 ty1 ty2 ty3) (LongC_q c ty0 ty1 ty2 ty3) ?_
 unfold LongC_E0
 obtain ⟨c1,c2,c3,c4,c5,c6⟩:=hp
 simp only [eq_self,exists_const,forall_const,decide_eq_true_eq,decide_eq_false_iff_not,and_true,true_and,bne_iff_ne,ne_eq,bne_eq_false_iff_eq,Int.toNat_natCast,Bool.not_eq_true',Bool.not_eq_false',beq_iff_eq,beq_eq_false_iff_ne,z07]
 rw [w64 (x:=(c.flow.length:Int) + c.pot.length) (by omega) (by omega),w64 (x:=(c.flow.length:Int) + c.pot.length + c.side.length) (by omega) (by omega),w64 (by omega) (by omega)]
theorem LongC_ok:SpecOk Tryz.prog LongC_n true (z02 true LongC_fs) :=
 z06 z0g (show z10 Tryz.prog LongC_g from z04) (by kernel_rfl) mixedOrders Tryz.func9 rfl rfl (by kernel_rfl) (n:=1) (by decide +kernel) (I:=LongC_IA) (fun _ _=>z05) (A:=LongC_A)
  (fun args h r hr=>by
   unfold LongC_fs at hr
   split at hr
   ·rename_i c_k ty0 c_f ty1 c_p ty2 c_s ty3 c_y; cases hr; refine ⟨rfl,fun hp=>?_⟩; have hE:=LongC_E ⟨c_k,c_f,c_p,c_s,c_y⟩ ty0 ty1 ty2 ty3 hp; exact hE
   ·cases hr)
abbrev z2a:=(True/\(True/\(True/\(True/\True))))
abbrev z32 (k:Int):=((1:Int) + IntKind.i64.wrap (k.tmod (3:Int)))
abbrev CertC_a2 (k:Int) (I:Inst) (d:List Int) (e:List Int) (g:Nat):=((k = k/\(0 = 0/\(0 = 0/\True)))/\(((0:Int) = 0/\(z2a))/\((IntKind.i64.wrap (z32 k) = (z1g I k d e).kind/\(z2a))/\(z0t Int/\(z0t Int/\(z0t Bool/\(z0t Int/\(z1d I d = (z1g I k d e).flow/\([] = (z1g I k d e).pot/\([] = (z1g I k d e).side/\(List.map (fun (x:Int)=>x % ((↑I.arcs.length:Int) + (1:Int))) (List.take g e) = (z1g I k d e).cycle/\True)))))))))))
abbrev z9g (I:Inst):=(fun (x:Int)=>x % ((↑I.arcs.length:Int) + (1:Int)))
abbrev CertC_a4 (I:Inst) (e:List Int):=(((0:Int) = 0/\(z2a))/\(z0t Int/\(z0t Int/\(z0t Bool/\(z0t Int/\((True/\(True/\True))/\(I.sup = I.sup/\(I.arcs = I.arcs/\(e = e/\True)))))))))
abbrev CertC_a5 (I:Inst) (k:Int) (d:List Int) (e:List Int):=((z1g I k d e).flow = (z2y I k d e).flow/\((z1g I k d e).pot = (z2y I k d e).pot/\((z1g I k d e).side = (z2y I k d e).side/\((z1g I k d e).cycle = (z2y I k d e).cycle/\True))))
def CertC_E0 (I : Inst) (k : Int) (d : List Int) (e : List Int) (ty0 ty1 ty2 ty3 : TypeId) : Prop :=
   (3:Int) ≠ (0:Int)/\(((IntKind.i64.wrap (z32 k) == (1:Int)) = true->(Bytes d/\(I.arcs.length <= (1000000:Nat)/\(L42 I.arcs)))/\((Bytes e/\(e.length <= maxLen/\((0:Int) <= ↑I.sup.length/\((↑I.sup.length:Int) <= 1000000))))/\(∃ (g:Unit),True/\((k = k/\(0 = 0/\(0 = 0/\True)))/\(((0:Int) = 0/\(z2a))/\((IntKind.i64.wrap (z32 k) = (z1g I k d e).kind/\(z2a))/\(z0t Int/\(z0t Int/\(z0t Bool/\(z0t Int/\(z1d I d = (z1g I k d e).flow/\(z2e e (↑I.sup.length:Int).toNat = (z1g I k d e).pot/\([] = (z1g I k d e).side/\([] = (z1g I k d e).cycle/\True))))))))))))))/\((IntKind.i64.wrap (z32 k) == (1:Int)) = false->((IntKind.i64.wrap (z32 k) == (2:Int)) = true->((↑I.sup.length:Int) = ↑I.sup.length/\((0:Int) <= ↑I.sup.length/\((↑I.sup.length:Int) <= 1000000000)))/\((Bytes e/\((↑I.sup.length:Int) <= 1000000))/\(∃ (g:Unit),True/\((k = k/\(0 = 0/\(0 = 0/\True)))/\(((0:Int) = 0/\(z2a))/\((IntKind.i64.wrap (z32 k) = (z1g I k d e).kind/\(z2a))/\(z0t Int/\(z0t Int/\(z0t Bool/\(z0t Int/\([] = (z1g I k d e).flow/\([] = (z1g I k d e).pot/\(List.take (List.replicate (↑I.sup.length:Int).toNat false).length (z0y e (↑I.sup.length:Int).toNat) ++ List.drop (z0y e (↑I.sup.length:Int).toNat).length (List.replicate (↑I.sup.length:Int).toNat false) = (z1g I k d e).side/\([] = (z1g I k d e).cycle/\True))))))))))))))/\((IntKind.i64.wrap (z32 k) == (2:Int)) = false->(Bytes d/\(I.arcs.length <= (1000000:Nat)/\(L42 I.arcs)))/\∃ (g0:Nat),((g0 <= e.length/\(g0 <= (4:Nat)))/\((k = k/\(True/\(0 = 0/\(0 = 0/\(0 = 0/\((0:Int) = ↑g0/\True))))))/\(z1d I d = z1d I d/\((IntKind.i64.wrap (z32 k) = IntKind.i64.wrap (z32 k)/\(z2a))/\(z0t Int/\(z0t Bool/\([] = List.map (z9g I) (List.take g0 e)/\(CertC_a4 I e))))))))/\∀ (g:Nat),g <= e.length/\g <= (4:Nat)->(decide ((↑g:Int) < ↑e.length) = true->(decide ((↑g:Int) < 4) = true->((0:Int) <= ↑g/\((↑g:Int) < ↑e.length))/\((↑g:Int).toNat < e.length/\(∀ (x:Int),e[(↑g:Int).toNat]? = some x->IntKind.i64.wrap ((↑I.arcs.length:Int) + (1:Int)) ≠ (0:Int)/\((List.map (z9g I) (List.take g e)).length + (1:Nat) <= 1000000000/\(∃ (g':Nat),(g' <= e.length/\(g' <= (4:Nat)))/\((4:Nat) - g' < (4:Nat) - g/\((k = k/\(True/\(0 = 0/\(0 = 0/\(0 = 0/\(IntKind.i64.wrap ((↑g:Int) + (1:Int)) = (↑g':Int)/\True))))))/\(z1d I d = z1d I d/\((IntKind.i64.wrap (z32 k) = IntKind.i64.wrap (z32 k)/\(z2a))/\(z0t Int/\(z0t Bool/\(List.map (z9g I) (List.take g e) ++ [(IntKind.i64.wrap x).tmod (IntKind.i64.wrap ((↑I.arcs.length:Int) + (1:Int)))] = List.map (z9g I) (List.take g' e)/\(CertC_a4 I e)))))))))))))/\(decide ((↑g:Int) < 4) = false->∃ (g_1:Unit),True/\(CertC_a2 k I d e g)))/\(decide ((↑g:Int) < ↑e.length) = false->∃ (g_1:Unit),True/\(CertC_a2 k I d e g)))))/\(∀ (g:Unit),True->(3:Int) ≠ (0:Int)/\((12:Int) ≠ (0:Int)/\((((IntKind.u8.wrap (k.tdiv (3:Int))).tmod (12:Int) == (0:Int)) = true->(z1g I k d e).side.length + (1:Nat) <= 1000000000/\((((z1g I k d e).kind = (z2y I k d e).kind/\(z2a))/\True)/\((z1g I k d e).flow = (z2y I k d e).flow/\((z1g I k d e).pot = (z2y I k d e).pot/\((z1g I k d e).side ++ [true] = (z2y I k d e).side/\((z1g I k d e).cycle = (z2y I k d e).cycle/\True))))))/\(((IntKind.u8.wrap (k.tdiv (3:Int))).tmod (12:Int) == (0:Int)) = false->(((IntKind.u8.wrap (k.tdiv (3:Int))).tmod (12:Int) == (1:Int)) = true->(z1g I k d e).pot.length + (1:Nat) <= 1000000000/\((((z1g I k d e).kind = (z2y I k d e).kind/\(z2a))/\True)/\((z1g I k d e).flow = (z2y I k d e).flow/\((z1g I k d e).pot ++ [(1:Int)] = (z2y I k d e).pot/\((z1g I k d e).side = (z2y I k d e).side/\((z1g I k d e).cycle = (z2y I k d e).cycle/\True))))))/\(((IntKind.u8.wrap (k.tdiv (3:Int))).tmod (12:Int) == (1:Int)) = false->(((IntKind.u8.wrap (k.tdiv (3:Int))).tmod (12:Int) == (2:Int)) = true->(36:Int) ≠ (0:Int)/\(((IntKind.i64.wrap (IntKind.u8.wrap (k.tdiv (36:Int))) = (z2y I k d e).kind/\(z2a))/\True)/\(CertC_a5 I k d e)))/\(((IntKind.u8.wrap (k.tdiv (3:Int))).tmod (12:Int) == (2:Int)) = false->(((z1g I k d e).kind = (z2y I k d e).kind/\(z2a))/\True)/\(CertC_a5 I k d e)))))))
theorem CertC_q (I:Inst) (k:Int) (d:List Int) (e:List Int) (ty0 ty1 ty2 ty3:TypeId):CertC_E0 I k d e ty0 ty1 ty2 ty3 = z1f TT CertC_g (CertC_I I k d e) (CertC_an I k d e) Tryz.f18 [.agg [.row 0,.row 1],.int .u8 k,.row 2,.row 3] [(0,.row false ty0 (.ints .i64 I.sup)),(1,.row false ty1 (.arcs I.arcs)),(2,.row false ty2 (.ints .u8 d)),(3,.row false ty3 (.ints .u8 e))] (CertC_r I k d e):=by kernel_rfl
theorem CertC_E (I:Inst) (k:Int) (d:List Int) (e:List Int) (ty0 ty1 ty2 ty3:TypeId) (hp:0 <= k/\k <= 255/\I.sup.length <= 1000/\I.arcs.length <= 1000/\L42 I.arcs/\Bytes d/\Bytes e/\e.length <= maxLen):FVc TT CertC_g (CertC_I I k d e) (CertC_an I k d e) Tryz.f18 [.agg [.row 0,.row 1],.int .u8 k,.row 2,.row 3] [(0,.row false ty0 (.ints .i64 I.sup)),(1,.row false ty1 (.arcs I.arcs)),(2,.row false ty2 (.ints .u8 d)),(3,.row false ty3 (.ints .u8 e))] (CertC_r I k d e):=by
 refine FVc.of (CertC_E0 I k d e ty0 ty1 ty2 ty3) (CertC_q I k d e ty0 ty1 ty2 ty3) ?_
 unfold CertC_E0
 delta CertC_a5 CertC_a4 z9g CertC_a2 z32 z2a
 obtain ⟨k0,k1,n1,n2,hl,hd,he,hel⟩:=hp
 have km:k.tmod 3 = k % 3:=Int.tmod_eq_emod_of_nonneg k0
 have kd:k.tdiv 3 = k / 3:=ze6 k0
 have kd2:k.tdiv 36 = k / 36:=ze6 k0
 have kw:IntKind.i64.wrap (1 + IntKind.i64.wrap (k % 3)) = 1 + k % 3:=by rw [w64 (x:=k % 3) (by omega) (by omega),w64 (by omega) (by omega)]
 have ku:IntKind.u8.wrap (k / 3) = k / 3:=wu8 (by omega) (by omega)
 have ku2:IntKind.i64.wrap (IntKind.u8.wrap (k / 36)) = k / 36:=by rw [wu8 (by omega) (by omega),w64 (by omega) (by omega)]
 have kt:(k / 3).tmod 12 = k / 3 % 12:=Int.tmod_eq_emod_of_nonneg (by omega)
 have hn:IntKind.i64.wrap ((I.arcs.length:Int) + 1) = (I.arcs.length:Int) + 1:=w64 (by omega) (by omega)
 simp only [km,kd,kd2,kw,ku,ku2,kt,hn]
 simp only [eq_self,exists_const,forall_const,decide_eq_true_eq,decide_eq_false_iff_not,and_true,true_and,bne_iff_ne,ne_eq,bne_eq_false_iff_eq,Int.toNat_natCast,Bool.not_eq_true',Bool.not_eq_false',beq_iff_eq,beq_eq_false_iff_ne,z07]
 simp only [List.length_replicate,whole_eq]
 have hw:∀ g:Nat,g <= 10->IntKind.i64.wrap ((g:Int) + 1) = ((g + 1:Nat):Int):=fun g hg=>by rw [w64 (by omega) (by omega)]; omega
 have c0:k % 3 = 0->z1g I k d e = ⟨1,z1d I d,z2e e I.sup.length,[],[]⟩:=fun h=>by unfold z1g; rw [if_pos h]
 have c1:¬ k % 3 = 0->k % 3 = 1->z1g I k d e = ⟨2,[],[],z85 e I.sup.length,[]⟩:=fun h h2=>by unfold z1g; rw [if_neg h,if_pos h2]
 have c2:¬ k % 3 = 0->¬ k % 3 = 1->z1g I k d e = ⟨3,z1d I d,[],[],(e.take 4).map fun x=>x % ((I.arcs.length:Int) + 1)⟩:=fun h h2=>by unfold z1g; rw [if_neg h,if_neg h2]
 have lens:(z1g I k d e).side.length <= 1000/\(z1g I k d e).pot.length <= 1000:=by
  unfold z1g
  split
  ·simp [cpot_len]; omega
  ·split
   ·simp [z7q]; omega
   ·simp
 have three:∀ g:Nat,g <= e.length/\g <= 4->¬ ((g:Int) < e.length/\(g:Int) < 4)->List.take g e = e.take 4:=fun g hg h=>by
  by_cases h4:g = 4
  ·rw [h4]
  ·rw [List.take_of_length_le (by omega),List.take_of_length_le (by omega)]
 refine ⟨by omega,⟨fun h1=>?_,fun h1=>⟨fun h2=>?_,fun h2=>⟨⟨hd,by omega,hl⟩,0,⟨by omega,rfl,by simp⟩,fun g hg=>⟨fun l1=>⟨fun l2=>⟨by omega,by omega,fun x hx=>⟨by omega,?_,g + 1,by omega,by omega,hw g (by omega),?_⟩⟩,fun l2=>?_⟩,fun l1=>?_⟩⟩⟩⟩,by omega,by omega,?_⟩
 ·rw [c0 (by omega)]; exact ⟨⟨hd,by omega,hl⟩,⟨he,hel,by omega,by omega⟩,by dsimp only; omega,rfl,rfl,rfl,rfl⟩
 ·rw [c1 (by omega) (by omega)]; exact ⟨by omega,⟨he,by omega⟩,by dsimp only; omega,rfl,rfl,rfl,rfl⟩
 ·simp; omega
 ·have hb:=he x (List.mem_of_getElem? hx)
  rw [z1a hx,List.map_append,w64 (x:=x) (by omega) (by omega),Int.tmod_eq_emod_of_nonneg hb.1]; rfl
 ·rw [c2 (by omega) (by omega),three g hg (by omega)]; exact ⟨by dsimp only; omega,rfl,rfl,rfl,rfl⟩
 ·rw [c2 (by omega) (by omega),three g hg (by omega)]; exact ⟨by dsimp only; omega,rfl,rfl,rfl,rfl⟩
 ·unfold z2y
  dsimp only
  refine ⟨fun h1=>?_,fun h1=>⟨fun h2=>?_,fun h2=>⟨fun h3=>?_,fun h3=>?_⟩⟩⟩
  ·simp only [h1,if_true]; exact ⟨by omega,by simp,by simp,by simp,by simp,by simp⟩
  ·simp only [h1,h2,if_true,if_false]; exact ⟨by omega,by simp,by simp,by simp,by simp,by simp⟩
  ·simp only [h1,h2,h3,if_true,if_false]; exact ⟨by omega,by simp,by simp,by simp,by simp,by simp⟩
  ·simp only [h1,h2,h3,if_false]; exact ⟨by simp,by simp,by simp,by simp,by simp⟩
theorem CertC_ok:SpecOk Tryz.prog CertC_n true (z02 true CertC_fs) :=
 z06 z0g (show z10 Tryz.prog CertC_g from z00 Flow_ok (z00 Pot_ok (z00 Marks_ok (z04)))) (by kernel_rfl) mixedOrders Tryz.func18 rfl rfl (by kernel_rfl) (n:=4) (by decide +kernel) (I:=CertC_IA) (fun _ _=>z05) (A:=CertC_A)
  (fun args h r hr=>by
   unfold CertC_fs at hr
   split at hr
   ·rename_i k ty0 I_s ty1 I_a ty2 d ty3 e; cases hr; refine ⟨rfl,fun hp=>?_⟩; have hE:=CertC_E ⟨I_s,I_a⟩ k d e ty0 ty1 ty2 ty3 hp; exact hE
   ·cases hr)
end Go.Proofs.YtapeenpimcffpaaGreat
end
section
namespace Go.Vc
open Go Go.RowKit Go.Ql Go.Draw
variable {P:Program}
end Go.Vc
end
section
namespace Go.Proofs.YtapeenpimcffpaaGreat
open Go Go.RowKit Go.Ql Go.Vc
def z57 (I:Inst) (e:List Int):Cert:=⟨1,z5w I (z2e e I.sup.length) (z1d I e) I.arcs.length,z2e e I.sup.length,[],[]⟩
def Best19_r (I:Inst) (e:List Int):FRes:={ pre:=Bytes e/\e.length <= maxLen/\NiceI I,res:=.agg [.int .i64 (z57 I e).kind,.row 3,.row 4,.row 5,.row 6],rows:=[.row 2 (.ints .i64 (z57 I e).flow),.row 2 (.ints .i64 (z57 I e).pot),.row 4 (.bools (z57 I e).side),.row 3 (.ints .i64 (z57 I e).cycle)],eff:=[] }
def zef:FS:=fun args h=>match args,h with
 | [.agg [.row 0,.row 1],.row 2],[(0,.row false ty0 (.ints .i64 I_s)),(1,.row false ty1 (.arcs I_a)),(2,.row false ty2 (.ints .u8 e))]=>some (Best19_r ⟨I_s,I_a⟩ e)
 | _,_=>none
def zee (I:Inst) (e:List Int):List (Nat × Ann):=[(1000002,{ G:=Unit,inv:=fun _=>⟨[(2,.ptr 3 0 0 0),(4,.ptr 8 0 0 0),(5,.ptr 19 0 0 0)],[(3,.box true 25 [.row 0,.row 1]),(8,.box true 31 [.int .i64 (0:Int),.row 4,.row 5,.row 6,.row 7]),(19,.box true 31 [.int .i64 (1:Int),.row 9,.row 10,.row 13,.row 14]),(0,.row false 0 (.ints .i64 I.sup)),(1,.row false 0 (.arcs I.arcs)),(4,.row true 2 (.ints .i64 [])),(5,.row true 2 (.ints .i64 [])),(6,.row true 4 (.bools [])),(7,.row true 3 (.ints .i64 [])),(9,.row true 2 (.ints .i64 (z1d I e))),(10,.row true 2 (.ints .i64 (z2e e (↑I.sup.length:Int).toNat))),(13,.row true 4 (.bools [])),(14,.row true 3 (.ints .i64 []))],20⟩,rel:=fun _ _=>True,meas:=fun _=>0 }),
 (3,{ G:=(Nat),inv:=fun k=>⟨[(2,.ptr 3 0 0 0),(4,.ptr 8 0 0 0),(5,.ptr 19 0 0 0),(6,.int .i64 k)],[(3,.box true 25 [.row 0,.row 1]),(8,.box true 31 [.int .i64 (0:Int),.row 4,.row 5,.row 6,.row 7]),(19,.box true 31 [.int .i64 (1:Int),.row 9,.row 10,.row 13,.row 14]),(0,.row false 0 (.ints .i64 I.sup)),(1,.row false 0 (.arcs I.arcs)),(4,.row true 2 (.ints .i64 [])),(5,.row true 2 (.ints .i64 [])),(6,.row true 4 (.bools [])),(7,.row true 3 (.ints .i64 [])),(9,.row true 2 (.ints .i64 (z5w I (z2e e I.sup.length) (z1d I e) k))),(10,.row true 2 (.ints .i64 (z2e e I.sup.length))),(13,.row true 4 (.bools [])),(14,.row true 3 (.ints .i64 []))],20⟩,rel:=fun k0 k=>k <= I.arcs.length,meas:=fun k=>I.arcs.length - k })]
def Best19_A:List SV->z0c->List (Nat × Ann):=fun args h=>match args,h with
 | [.agg [.row 0,.row 1],.row 2],[(0,.row false ty0 (.ints .i64 I_s)),(1,.row false ty1 (.arcs I_a)),(2,.row false ty2 (.ints .u8 e))]=>zee ⟨I_s,I_a⟩ e
 | _,_=>[]
def Best19_g:z0b:=[(Flow_n,(true,z02 true Flow_fs)),(Pot_n,(true,z02 true Pot_fs))]
abbrev Best19_n:Nat:=14
def Best19_I (I:Inst) (e:List Int):List (Nat × z08):=[]
def Best19_IA:List SV->z0c->List (Nat × z08):=fun _ _=>[]
end Go.Proofs.YtapeenpimcffpaaGreat
end
section
namespace Go.Proofs.YtapeenpimcffpaaGreat
open Go Go.RowKit Go.Ql Go.Vc
abbrev z9f (e:List Int) (I:Inst):=((Bytes e/\(e.length <= maxLen/\((0:Int) <= ↑I.sup.length/\((↑I.sup.length:Int) <= 1000000))))/\(∃ (g:Unit),True/\((0 = 0/\(0 = 0/\(0 = 0/\True)))/\((True/\(True/\True))/\(((0:Int) = 0/\(True/\(True/\(True/\(True/\True)))))/\(((1:Int) = 1/\(True/\(True/\(True/\(True/\True)))))/\(I.sup = I.sup/\(I.arcs = I.arcs/\(z0t Int/\(z0t Int/\(z0t Bool/\(z0t Int/\(z1d I e = z1d I e/\(z2e e (↑I.sup.length:Int).toNat = z2e e (↑I.sup.length:Int).toNat/\(z0t Bool/\(z0t Int/\True))))))))))))))))
abbrev zec (I:Inst) (g':Nat) (g:Nat) (e:List Int) (x:Arc):=(I.arcs.length - g' < I.arcs.length - g/\((0 = 0/\(0 = 0/\(0 = 0/\(IntKind.i64.wrap ((↑g:Int) + (1:Int)) = (↑g':Int)/\True))))/\((True/\(True/\True))/\(((0:Int) = 0/\(True/\(True/\(True/\(True/\True)))))/\(((1:Int) = 1/\(True/\(True/\(True/\(True/\True)))))/\(I.sup = I.sup/\(I.arcs = I.arcs/\(z0t Int/\(z0t Int/\(z0t Bool/\(z0t Int/\((z5w I (z2e e I.sup.length) (z1d I e) g).set (↑g:Int).toNat x.low = z5w I (z2e e I.sup.length) (z1d I e) g'/\(z2e e I.sup.length = z2e e I.sup.length/\(z0t Bool/\(z0t Int/\True)))))))))))))))
abbrev zed (I:Inst) (g':Nat) (g:Nat) (e:List Int):=(I.arcs.length - g' < I.arcs.length - g/\((0 = 0/\(0 = 0/\(0 = 0/\(IntKind.i64.wrap ((↑g:Int) + (1:Int)) = (↑g':Int)/\True))))/\((True/\(True/\True))/\(((0:Int) = 0/\(True/\(True/\(True/\(True/\True)))))/\(((1:Int) = 1/\(True/\(True/\(True/\(True/\True)))))/\(I.sup = I.sup/\(I.arcs = I.arcs/\(z0t Int/\(z0t Int/\(z0t Bool/\(z0t Int/\(z5w I (z2e e I.sup.length) (z1d I e) g = z5w I (z2e e I.sup.length) (z1d I e) g'/\(z2e e I.sup.length = z2e e I.sup.length/\(z0t Bool/\(z0t Int/\True)))))))))))))))
abbrev z3t:=(True/\(True/\(True/\(True/\True))))
abbrev z3a (I:Inst) (e:List Int) (g:Nat):=(z5w I (z2e e I.sup.length) (z1d I e) g)
abbrev z6f (x:Arc) (x_1:Int) (x_2:Int):=(IntKind.i64.wrap (IntKind.i64.wrap (x.cost - x_1) + x_2) < (0:Int))
def zeb (I : Inst) (e : List Int) (ty0 ty1 ty2 : TypeId) : Prop :=
   (((Bytes e/\(I.arcs.length <= (1000000:Nat)/\(L42 I.arcs)))/\((z9f e I)/\(z9f e I)))/\((Bytes e/\(I.arcs.length <= (1000000:Nat)/\(L42 I.arcs)))/\(z9f e I)))/\∀ (g:Unit),True->∃ (g0:Nat),(g0 <= I.arcs.length/\((0 = 0/\(0 = 0/\(0 = 0/\((0:Int) = ↑g0/\True))))/\((True/\(True/\True))/\(((0:Int) = 0/\(z3t))/\(((1:Int) = 1/\(z3t))/\(I.sup = I.sup/\(I.arcs = I.arcs/\(z0t Int/\(z0t Int/\(z0t Bool/\(z0t Int/\(z1d I e = z5w I (z2e e I.sup.length) (z1d I e) g0/\(z2e e (↑I.sup.length:Int).toNat = z2e e I.sup.length/\(z0t Bool/\(z0t Int/\True)))))))))))))))/\∀ (g:Nat),g <= I.arcs.length->(decide ((↑g:Int) < ↑I.arcs.length) = true->((0:Int) <= ↑g/\((↑g:Int) < ↑I.arcs.length))/\(↑g:Int).toNat < I.arcs.length/\∀ (x:Arc),I.arcs[(↑g:Int).toNat]? = some x->((0:Int) <= x.src/\(x.src < (↑(z2e e I.sup.length).length:Int)))/\x.src.toNat < (z2e e I.sup.length).length/\∀ (x_1:Int),(z2e e I.sup.length)[x.src.toNat]? = some x_1->((0:Int) <= x.dst/\(x.dst < (↑(z2e e I.sup.length).length:Int)))/\x.dst.toNat < (z2e e I.sup.length).length/\∀ (x_2:Int),(z2e e I.sup.length)[x.dst.toNat]? = some x_2->(decide (IntKind.i64.wrap (IntKind.i64.wrap (x.cost - x_1) + x_2) > (0:Int)) = true->((0:Int) <= ↑g/\((↑g:Int) < ↑(z3a I e g).length))/\(↑g:Int).toNat < (z3a I e g).length/\((decide (z6f x x_1 x_2) = true->((x.cap != (4611686018427387904:Int)) = true->((0:Int) <= ↑g/\((↑g:Int) < ↑((z3a I e g).set (↑g:Int).toNat x.low).length))/\((↑g:Int).toNat < ((z3a I e g).set (↑g:Int).toNat x.low).length/\(∃ (g':Nat),g' <= I.arcs.length/\(I.arcs.length - g' < I.arcs.length - g/\((0 = 0/\(0 = 0/\(0 = 0/\(IntKind.i64.wrap ((↑g:Int) + (1:Int)) = (↑g':Int)/\True))))/\((True/\(True/\True))/\(((0:Int) = 0/\(z3t))/\(((1:Int) = 1/\(z3t))/\(I.sup = I.sup/\(I.arcs = I.arcs/\(z0t Int/\(z0t Int/\(z0t Bool/\(z0t Int/\(((z3a I e g).set (↑g:Int).toNat x.low).set (↑g:Int).toNat x.cap = z5w I (z2e e I.sup.length) (z1d I e) g'/\(z2e e I.sup.length = z2e e I.sup.length/\(z0t Bool/\(z0t Int/\True))))))))))))))))))/\((x.cap != (4611686018427387904:Int)) = false->∃ (g':Nat),g' <= I.arcs.length/\(zec I g' g e x)))/\(decide (z6f x x_1 x_2) = false->∃ (g':Nat),g' <= I.arcs.length/\(zec I g' g e x))))/\(decide (IntKind.i64.wrap (IntKind.i64.wrap (x.cost - x_1) + x_2) > (0:Int)) = false->(decide (z6f x x_1 x_2) = true->((x.cap != (4611686018427387904:Int)) = true->((0:Int) <= ↑g/\((↑g:Int) < ↑(z3a I e g).length))/\((↑g:Int).toNat < (z3a I e g).length/\(∃ (g':Nat),g' <= I.arcs.length/\(I.arcs.length - g' < I.arcs.length - g/\((0 = 0/\(0 = 0/\(0 = 0/\(IntKind.i64.wrap ((↑g:Int) + (1:Int)) = (↑g':Int)/\True))))/\((True/\(True/\True))/\(((0:Int) = 0/\(z3t))/\(((1:Int) = 1/\(z3t))/\(I.sup = I.sup/\(I.arcs = I.arcs/\(z0t Int/\(z0t Int/\(z0t Bool/\(z0t Int/\((z3a I e g).set (↑g:Int).toNat x.cap = z5w I (z2e e I.sup.length) (z1d I e) g'/\(z2e e I.sup.length = z2e e I.sup.length/\(z0t Bool/\(z0t Int/\True))))))))))))))))))/\((x.cap != (4611686018427387904:Int)) = false->∃ (g':Nat),g' <= I.arcs.length/\(zed I g' g e)))/\(decide (z6f x x_1 x_2) = false->∃ (g':Nat),g' <= I.arcs.length/\(zed I g' g e))))/\(decide ((↑g:Int) < ↑I.arcs.length) = false->(((1:Int) = (z57 I e).kind/\(z3t))/\True)/\(z5w I (z2e e I.sup.length) (z1d I e) g = (z57 I e).flow/\(z2e e I.sup.length = (z57 I e).pot/\([] = (z57 I e).side/\([] = (z57 I e).cycle/\True)))))
theorem Best19_q (I:Inst) (e:List Int) (ty0 ty1 ty2:TypeId):zeb I e ty0 ty1 ty2 = z1f TT Best19_g (Best19_I I e) (zee I e) Tryz.f14 [.agg [.row 0,.row 1],.row 2] [(0,.row false ty0 (.ints .i64 I.sup)),(1,.row false ty1 (.arcs I.arcs)),(2,.row false ty2 (.ints .u8 e))] (Best19_r I e):=by kernel_rfl
theorem Best19_E (I:Inst) (e:List Int) (ty0 ty1 ty2:TypeId) (hp:Bytes e/\e.length <= maxLen/\NiceI I):FVc TT Best19_g (Best19_I I e) (zee I e) Tryz.f14 [.agg [.row 0,.row 1],.row 2] [(0,.row false ty0 (.ints .i64 I.sup)),(1,.row false ty1 (.arcs I.arcs)),(2,.row false ty2 (.ints .u8 e))] (Best19_r I e):=by
 refine FVc.of (zeb I e ty0 ty1 ty2) (Best19_q I e ty0 ty1 ty2) ?_
 unfold zeb
 delta z6f z3a z3t zed zec z9f
 simp only [eq_self,exists_const,forall_const,decide_eq_true_eq,decide_eq_false_iff_not,and_true,true_and,bne_iff_ne,ne_eq,bne_eq_false_iff_eq,Int.toNat_natCast,Bool.not_eq_true',Bool.not_eq_false',beq_iff_eq,beq_eq_false_iff_ne,z07]
 obtain ⟨e1,e2,hI⟩:=hp
 have n1:=hI.n; have n2:=hI.m
 have hL:L42 I.arcs:=fun a ha=>by have:=(hI.arc a ha).l0; have:=(hI.arc a ha).l1; exact ⟨by omega,by omega⟩
 have hPl:(z2e e I.sup.length).length = I.sup.length:=by unfold z2e; simp
 have hPb:∀ y ∈ z2e e I.sup.length,-8 <= y/\y <= 16:=fun y hy=>by
  unfold z2e at hy
  rw [List.mem_map] at hy
  obtain ⟨k,_,rfl⟩:=hy
  unfold potE
  split <;> omega
 have hF:=flow_in hI.arc e
 have hFl:=z9r I e
 have hA:Bytes e/\I.arcs.length <= 1000000/\L42 I.arcs:=⟨e1,by omega,hL⟩
 have hB:Bytes e/\e.length <= maxLen/\(0:Int) <= (I.sup.length:Int)/\(I.sup.length:Int) <= 1000000:=⟨e1,e2,by omega,by omega⟩
 refine ⟨by (repeat' apply And.intro) <;> first | assumption | omega,0,⟨Nat.zero_le _,rfl,(idxS_zero _ _).symm⟩,fun g hg=>?_⟩
 have hend:z57 I e = ⟨1,z5w I (z2e e I.sup.length) (z1d I e) I.arcs.length,z2e e I.sup.length,[],[]⟩:=rfl
 rw [hend]
 generalize z2e e I.sup.length = P at *
 generalize z1d I e = F at *
 have hbl:=zgh I P F
 simp only [List.length_set,hbl,hPl]
 refine ⟨fun h1=>⟨by omega,by omega,fun x hx=>?_⟩,fun h1=>?_⟩
 ·have hq:=hI.arc x (List.mem_of_getElem? hx)
  have s0:=hq.s0; have s1:=hq.s1; have d0:=hq.d0; have d1:=hq.d1; have k0:=hq.k0; have k1:=hq.k1
  refine ⟨by omega,by omega,fun y hy=>⟨by omega,by omega,fun z hz=>?_⟩⟩
  have by_:=hPb y (List.mem_of_getElem? hy)
  have bz:=hPb z (List.mem_of_getElem? hz)
  have ha:z4d I g = x:=arcN_get hx
  have er:redN I P g = x.cost - y + z:=by
   unfold redN
   rw [ha,List.getD_eq_getElem?_getD,hy,List.getD_eq_getElem?_getD,hz]; rfl
  have hw1:IntKind.i64.wrap (x.cost - y) = x.cost - y:=w64 (by omega) (by omega)
  have hw2:IntKind.i64.wrap (x.cost - y + z) = redN I P g:=by rw [er]; exact w64 (by omega) (by omega)
  have hw:IntKind.i64.wrap ((g:Int) + 1) = ((g + 1:Nat):Int):=by rw [w64 (by omega) (by omega)]; omega
  rw [hw1,hw2]
  have hFg:F[g]? = some (F.getD g 0):=by rw [List.getD_eq_getElem?_getD,List.getElem?_eq_getElem (by omega)]; rfl
  have key:∀ l:List Int,l = z5w I P F (g + 1)->∃ g',g' <= I.arcs.length/\I.arcs.length - g' < I.arcs.length - g/\IntKind.i64.wrap ((g:Int) + 1) = (g':Int)/\l = z5w I P F g':=fun l hl=>⟨g + 1,by omega,by omega,hw,hl⟩
  have st:∀ v,v = bestV (redN I P g) x (F.getD g 0)->(z5w I P F g).set g v = z5w I P F (g + 1):=fun v hv=>idxS_set hFg (by show v = bestV (redN I P g) (z4d I g) (F.getD g 0); rw [ha]; exact hv)
  have hi:inf = 4611686018427387904:=rfl
  refine ⟨fun h2=>⟨by omega,by omega,fun h3=>by omega,fun h3=>key _ (st _ ?_)⟩,fun h2=>⟨fun h3=>⟨fun h4=>⟨by omega,by omega,key _ (st _ ?_)⟩,fun h4=>key _ (idxS_same hFg ?_)⟩,fun h3=>key _ (idxS_same hFg ?_)⟩⟩
  ·unfold bestV; rw [if_pos h2]
  ·unfold bestV; rw [if_neg (by omega),if_pos ⟨h3,h4⟩]
  ·show F.getD g 0 = bestV (redN I P g) (z4d I g) (F.getD g 0); rw [ha]; unfold bestV; rw [if_neg (by omega),if_neg (fun h=>h.2 h4)]
  ·show F.getD g 0 = bestV (redN I P g) (z4d I g) (F.getD g 0); rw [ha]; unfold bestV; rw [if_neg (by omega),if_neg (fun h=>h3 h.1)]
 ·rw [show g = I.arcs.length by omega]
  simp
theorem Best19_ok:SpecOk Tryz.prog Best19_n true (z02 true zef) :=
 z06 z0g (show z10 Tryz.prog Best19_g from z00 Flow_ok (z00 Pot_ok (z04))) (by kernel_rfl) mixedOrders Tryz.func14 rfl rfl (by kernel_rfl) (n:=2) (by decide +kernel) (I:=Best19_IA) (fun _ _=>z05) (A:=Best19_A)
  (fun args h r hr=>by
   unfold zef at hr
   split at hr
   ·rename_i ty0 I_s ty1 I_a ty2 e; cases hr; refine ⟨rfl,fun hp=>?_⟩; have hE:=Best19_E ⟨I_s,I_a⟩ e ty0 ty1 ty2 hp; exact hE
   ·cases hr)
end Go.Proofs.YtapeenpimcffpaaGreat
end
section
namespace Go.Proofs.YtapeenpimcffpaaGreat
open Go Go.RowKit Go.Ql Go.Draw
end Go.Proofs.YtapeenpimcffpaaGreat
end
section
section
namespace Go.Ql
open Go Go.RowKit Go.ChangeShapes Go.WideShapes Go.ChangeAt Go.Deep
section
variable {H:Type} {enc:TypeId × Value->H} {P:Program}
theorem z5f {w:World} {a:Addr} {v:Value} (h:w.cell? a = some v):a = ⟨a.block,a.off,none⟩/\a.block < w.heap.size:=by
 refine ⟨?_,World.block_lt_of_cell? w a h⟩
 obtain ⟨b,o,s⟩:=a
 cases s with
 | none=>rfl
 | some s =>
  exfalso
  unfold World.cell? at h
  split at h <;> simp at h
theorem z6n (b o i:Nat):(⟨b,o,none⟩:Addr).add i = ⟨b,o + i,none⟩:=by
 unfold Addr.add
 split
 ·rename_i h; simp_all
 ·rfl
theorem dec_ints {W:World} {base:Nat} {r:Reach} {b0:Nat} {t e:TypeId} {k:IntKind} {v:Value} {d:DataW H} {p:List MemPlace} (ht:P.underlying t = some (.slice e)) (he:P.underlying e = some (.int k)) (hc:P.cellsOf e = 1)
  (hv:Value.okWide P W r b0 t v) (h:DataW.Trod enc P W base (fun _=>true) true t v d p) :
  ∃ A c xs,v = .slice A xs.length c/\(RowR (Value.int k) W W.heap.size A xs/\xs.length <= c)/\xs.length <= maxLen/\∀ x ∈ xs,(Lit.int k x).wf = true:=by
 obtain ⟨a0,len,cap,rfl⟩:=okWide_slice ht hv
 obtain ⟨fuel,hf⟩:=h
 rcases open_ints ht he hc hf with ⟨hcs,_⟩ | ⟨a,len',cap',zs,hcs,_,hl,hm,hz,_,hcell,hwz⟩
 ·simp [Value.cells] at hcs
  obtain ⟨rfl,rfl,rfl⟩:=hcs
  exact ⟨none,0,[],rfl,⟨RowR.nil,by simp⟩,by simp,by simp⟩
 ·simp [Value.cells] at hcs
  obtain ⟨rfl,rfl,rfl⟩:=hcs
  simp only [if_true] at hz
  have hlen:(zs.take len).length = len:=by simp; omega
  refine ⟨some a,cap,zs.take len,by rw [hlen],⟨fun h0=>?_,by omega⟩,by omega,fun x hx=>hwz x (List.mem_of_mem_take hx)⟩
  have h1:=hcell 0 (by omega)
  have hz0:a.add 0 = a:=by unfold Addr.add; simp
  rw [hz0] at h1
  obtain ⟨e1,e2⟩:=z5f h1
  refine ⟨a.block,a.off,by rw [<- e1],e2,fun i x hx=>?_⟩
  rw [List.getElem?_take] at hx
  split at hx
  ·have h2:=hcell i (by omega)
   rw [e1,z6n] at h2
   rw [h2]
   simp [List.getD,hx]
  ·cases hx
theorem dec_bools {W:World} {base:Nat} {r:Reach} {b0:Nat} {t e:TypeId} {v:Value} {d:DataW H} {p:List MemPlace} (ht:P.underlying t = some (.slice e)) (he:P.underlying e = some .bool) (hc:P.cellsOf e = 1)
  (hv:Value.okWide P W r b0 t v) (h:DataW.Trod enc P W base (fun _=>true) true t v d p) :
  ∃ A c xs,v = .slice A xs.length c/\(RowR Value.bool W W.heap.size A xs/\xs.length <= c)/\xs.length <= maxLen:=by
 obtain ⟨a0,len,cap,rfl⟩:=okWide_slice ht hv
 obtain ⟨fuel,hf⟩:=h
 rcases open_bools ht he hc hf with ⟨hcs,_⟩ | ⟨a,len',cap',B,hcs,_,hl,hm,_,hcell⟩
 ·simp [Value.cells] at hcs
  obtain ⟨rfl,rfl,rfl⟩:=hcs
  exact ⟨none,0,[],rfl,⟨RowR.nil,by simp⟩,by simp⟩
 ·simp [Value.cells] at hcs
  obtain ⟨rfl,rfl,rfl⟩:=hcs
  have hlen:((List.range len).map B).length = len:=by simp
  refine ⟨some a,cap,(List.range len).map B,by rw [hlen],⟨fun h0=>?_,by omega⟩,by omega⟩
  have h1:=hcell 0 (by omega)
  have hz0:a.add 0 = a:=by unfold Addr.add; simp
  rw [hz0] at h1
  obtain ⟨e1,e2⟩:=z5f h1
  refine ⟨a.block,a.off,by rw [<- e1],e2,fun i x hx=>?_⟩
  rw [List.getElem?_map] at hx
  by_cases hi:i < len
  ·rw [List.getElem?_range hi] at hx
   simp only [Option.map_some,Option.some.injEq] at hx
   have h2:=hcell i (by omega)
   rw [e1,z6n] at h2
   rw [h2,hx]
  ·rw [List.getElem?_eq_none (by simpa using hi)] at hx
   cases hx
theorem zak {W W':World} (hl:laidOutB P = true) (hb:Below W.heap.size W W'):∀ (ts:List TypeId) (vs:List Value) (ds:List (DataW H)) (ps:List MemPlace),(ts.all fun t=>P.readableRec t && decide (t < P.types.size)) = true ->
  (∀ x ∈ ps,x.block < W.heap.size)->DataW.TrodAll enc P W 0 (fun _=>true) true ts vs ds ps->∀ sp:Nat->Bool,(∀ x ∈ ps,sp x.block = true)->DataW.TrodAll enc P W' 0 sp true ts vs ds ps
 | [],vs,ds,ps,_,_,h,_,_=>by
  cases vs <;> cases ds <;> simp [DataW.TrodAll] at h ⊢
  exact h
 | t :: ts,vs,ds,ps,hr,hlt,h,sp,hsp=>by
  obtain ⟨v,vs',d,ds',p,q,rfl,rfl,rfl,h1,h2⟩:=trodAll_cons h
  simp only [List.all_cons,Bool.and_eq_true,decide_eq_true_eq] at hr
  refine ⟨p,q,?_,zak hl hb ts vs' ds' q (by simpa using hr.2) (fun x hx=>hlt x (by simp [hx])) h2 sp (fun x hx=>hsp x (by simp [hx])),rfl⟩
  exact WideElems.Trod_stays hl hr.1.1 hr.1.2 h1 (fun x hx=>hb.same (hlt x (by simp [hx]))) (fun x hx=>hsp x (by simp [hx]))
theorem law_post {f:Func} {s:ChangeSpec} {W W':World} {args:Array Value} {ds gs:List (DataW H)} {before:List MemPlace} {tb:TypeId} (hl:laidOutB P = true)
  (hW:DataW.Whole enc P f.params.toList s.vars false W args.toList ds gs before) (hvars:s.vars = []) (hres:f.resultTypes = #[tb]) (htb:P.underlying tb = some .bool)
  (hr:(f.params.toList.all fun t=>P.readableRec t && decide (t < P.types.size)) = true)
  (hfn:s.fn H ds = { results:=[.lit (.bool true)],args:=ds }) (hb:Below W.heap.size W W') :
  s.post enc P f false true false false W args (.bool true) W':=by
 have hW':=hW
 have hlt:∀ p ∈ before,p.block < W.heap.size:=fun p hp=>hW.lt p hp
 obtain ⟨pa,pv,hA,hV,hps,hz,hn⟩:=hW
 rw [hvars] at hV
 obtain ⟨rfl,rfl⟩:=trodVars_none hV
 rw [List.append_nil] at hps
 subst hps
 have hargs:∀ sp:Nat->Bool,(∀ p ∈ before,sp p.block = true)->DataW.TrodAll enc P W' 0 sp true f.params.toList args.toList ds before:=fun sp hsp =>
  zak hl hb _ _ _ _ hr hlt hA sp hsp
 have hres':∀ (b:Nat) (sp:Nat->Bool) (hd:Bool),DataW.TrodAll enc P W' b sp hd f.resultTypes.toList ((Value.bool true).resultList f.resultTypes.size) [.lit (.bool true)] []:=fun b sp hd=>by
  rw [hres]
  exact trodAll_cons_mk (shut_bool htb _) trodAll_mk0
 have hf2:s.fn H (ds ++ []) = { results:=[.lit (.bool true)],args:=ds }:=by rw [List.append_nil]; exact hfn
 have hvr:∀ sp:Nat->Bool,DataW.TrodVars enc P W' sp s.vars (s.fn H (ds ++ [])).vars []:=fun sp=>by rw [hvars,hf2]; rfl
 have hold:∀ p ∈ before,(fun b=>decide (b < W.heap.size)) p.block = true:=fun p hp=>by simpa using hlt p hp
 refine ⟨ds,[],before,[],before,[],hW',by rw [hf2]; exact hres' _ _ _,by rw [hf2]; exact hargs _ hold,hvr _,World.keptBut_mono (fun p hp=>⟨hp,?_⟩) (hb.frame (· ∈ before)),fun h=>by cases h⟩
 exact .inr (by simpa using hp)
end
end Go.Ql
end
section
namespace Go.Ql
open Go Go.RowKit
theorem wf1_u8 {n:Int} (h:(Lit.int .u8 n).wf = true):0 <= n/\n <= 255:=by simpa [Lit.wf,IntKind.min,IntKind.max,IntKind.signed,IntKind.bits] using h
theorem z9c {n:Int} (h:(Lit.int .i64 n).wf = true):-9223372036854775808 <= n/\n <= 9223372036854775807:=by simpa [Lit.wf,IntKind.min,IntKind.max,IntKind.signed,IntKind.bits] using h
def I64s (c:List Int):Prop:=∀ x ∈ c,-9223372036854775808 <= x/\x <= 9223372036854775807
theorem wf_u8 {c:List Int} (h:∀ x ∈ c,(Lit.int .u8 x).wf = true):Bytes c:=fun x hx=>wf1_u8 (h x hx)
theorem wf_i64 {c:List Int} (h:∀ x ∈ c,(Lit.int .i64 x).wf = true):I64s c:=fun x hx=>z9c (h x hx)
end Go.Ql
namespace Go.Proofs.YtapeenpimcffpaaGreat
open Go Go.RowKit Go.Ql
theorem own_knob:ownKnob Tryz.prog.godebug = none:=by kernel_rfl
theorem laid_out:laidOutB Tryz.prog = true:=by kernel_rfl
end Go.Proofs.YtapeenpimcffpaaGreat
end
section
namespace Go.Ql
open Go Go.RowKit Go.ChangeShapes Go.WideShapes Go.ChangeAt Go.Deep
def Arc.Wf (a:Arc):Prop:=(-9223372036854775808 <= a.src/\a.src <= 9223372036854775807)/\(-9223372036854775808 <= a.dst/\a.dst <= 9223372036854775807)/\(-9223372036854775808 <= a.low/\a.low <= 9223372036854775807) /\
 (-9223372036854775808 <= a.cap/\a.cap <= 9223372036854775807)/\(-9223372036854775808 <= a.cost/\a.cost <= 9223372036854775807)
def Inst.Wf (I:Inst):Prop:=I64s I.sup/\(∀ a ∈ I.arcs,a.Wf)/\I.sup.length <= maxLen/\I.arcs.length <= maxLen
section
variable {H:Type} {enc:TypeId × Value->H} {P:Program}
theorem z36 {W:World} {base:Nat} {t e:TypeId} {fuel n c:Nat} {A:Option Addr} {x:DataW H × List MemPlace} {sp:Nat->Bool} {hd:Bool} (ht:P.underlying t = some (.slice e)) (hb:1 <= P.bytesOf e)
  (h:DataW.trod enc P W base sp hd fuel t [.slice A n c] = some x) (hz:(x.1.weights P t).all (· <= reachBytes) = true):n <= 140737488351232:=by
 rcases DataW.trod_slice ht h with ⟨hcs,_⟩ | ⟨a,len,cap,elems,rest,m,_,hcs,rfl,_,_,_,hlen,_⟩
 ·simp at hcs; omega
 ·simp only [List.cons.injEq,Value.slice.injEq,and_true] at hcs
  obtain ⟨_,rfl,_⟩:=hcs
  simp only [DataW.weights,ht,List.all_cons,Bool.and_eq_true,decide_eq_true_eq,List.length_map,hlen] at hz
  have h1:=hz.1
  have h2:n <= n + rest.length:=Nat.le_add_right _ _
  have h3:(n + rest.length) * 1 <= (n + rest.length) * P.bytesOf e:=Nat.mul_le_mul_left _ hb
  unfold reachBytes at h1
  omega
theorem z68 {W:World} {base:Nat} {t e:TypeId} {n c:Nat} {A:Option Addr} {d:DataW H} {p:List MemPlace} {sp:Nat->Bool} {hd:Bool} (ht:P.underlying t = some (.slice e)) (hb:1 <= P.bytesOf e)
  (h:DataW.Trod enc P W base sp hd t (.slice A n c) d p) (hz:(d.weights P t).all (· <= reachBytes) = true):n <= 140737488351232:=by
 obtain ⟨fuel,hf⟩:=h
 exact z36 ht hb hf hz
theorem z2n {t:TypeId} {ts vt:List TypeId} {d:DataW H} {ds gs:List (DataW H)} (h:(DataW.weightsEach P ((t :: ts) ++ vt) ((d :: ds) ++ gs)).all (· <= reachBytes) = true) :
  (d.weights P t).all (· <= reachBytes) = true/\(DataW.weightsEach P (ts ++ vt) (ds ++ gs)).all (· <= reachBytes) = true:=by
 simpa only [List.cons_append,DataW.weightsEach,List.all_append,Bool.and_eq_true] using h
theorem dec_arcs {W:World} {base:Nat} {t e:TypeId} {f0 f1 f2 f3 f4:Field} {fuel:Nat} {cs:List Value} {x:DataW H × List MemPlace} (ht:P.underlying t = some (.slice e)) (he:P.underlying e = some (.struct #[f0,f1,f2,f3,f4]))
  (ce:P.cellsOf e = 5) (hi0:P.underlying f0.type = some (.int .i64)) (hi1:P.underlying f1.type = some (.int .i64)) (hi2:P.underlying f2.type = some (.int .i64)) (hi3:P.underlying f3.type = some (.int .i64)) (hi4:P.underlying f4.type = some (.int .i64))
  (hc:[P.cellsOf f0.type,P.cellsOf f1.type,P.cellsOf f2.type,P.cellsOf f3.type,P.cellsOf f4.type] = [1,1,1,1,1]) (ho:[f0.offset,f1.offset,f2.offset,f3.offset,f4.offset] = [0,1,2,3,4])
  (h:DataW.trod enc P W base (fun _=>true) true fuel t cs = some x) :
  ∃ A c xs,cs = [.slice A xs.length c]/\(ArcsR W W.heap.size A xs/\xs.length <= c)/\xs.length <= maxLen/\∀ a ∈ xs,a.Wf:=by
 simp only [List.cons.injEq,and_true] at hc ho
 obtain ⟨c0,c1,c2,c3,c4⟩:=hc
 obtain ⟨o0,o1,o2,o3,o4⟩:=ho
 rcases open_slice ht h with ⟨hcs,_⟩ | ⟨a,len,cap,m,n,D,Pl,hcs,hb,hl,hm,hmm,_,hx⟩
 ·exact ⟨none,0,[],by simpa using hcs,⟨ArcsR.nil,by simp⟩,by simp,by simp⟩
 simp only [if_true] at hmm
 have each:∀ i,i < len->∃ q:Arc,(W.cell? (a.add (i * 5)) = some (.int .i64 q.src)/\W.cell? (a.add (i * 5 + 1)) = some (.int .i64 q.dst)/\W.cell? (a.add (i * 5 + 2)) = some (.int .i64 q.low) /\
   W.cell? (a.add (i * 5 + 3)) = some (.int .i64 q.cap)/\W.cell? (a.add (i * 5 + 4)) = some (.int .i64 q.cost))/\q.Wf:=by
  intro i hi
  obtain ⟨cs',h1,h2⟩:=hx i (by omega)
  rw [ce] at h1
  obtain ⟨_,hlen,hcell⟩:=World.cells?_some h1
  obtain ⟨xs,k,hk,hxy,_,hxl,hf⟩:=DataW.trod_struct he h2
  match xs,hxl,cs',hlen with
  | [y0,y1,y2,y3,y4],_,[v0,v1,v2,v3,v4],_ =>
   have g0:=hf 0 f0 rfl
   have g1:=hf 1 f1 rfl
   have g2:=hf 2 f2 rfl
   have g3:=hf 3 f3 rfl
   have g4:=hf 4 f4 rfl
   simp [o0,o1,o2,o3,o4,c0,c1,c2,c3,c4] at g0 g1 g2 g3 g4
   obtain ⟨n0,e0,_,w0⟩:=DataW.trod_int hi0 g0
   obtain ⟨n1,e1,_,w1⟩:=DataW.trod_int hi1 g1
   obtain ⟨n2,e2,_,w2⟩:=DataW.trod_int hi2 g2
   obtain ⟨n3,e3,_,w3⟩:=DataW.trod_int hi3 g3
   obtain ⟨n4,e4,_,w4⟩:=DataW.trod_int hi4 g4
   simp only [List.cons.injEq,and_true] at e0 e1 e2 e3 e4
   subst e0 e1 e2 e3 e4
   have k0:=hcell 0 (by omega)
   have k1:=hcell 1 (by omega)
   have k2:=hcell 2 (by omega)
   have k3:=hcell 3 (by omega)
   have k4:=hcell 4 (by omega)
   rw [add_add] at k0 k1 k2 k3 k4
   exact ⟨⟨n0,n1,n2,n3,n4⟩,⟨by simpa using k0,by simpa using k1,by simpa using k2,by simpa using k3,by simpa using k4⟩,z9c w0,z9c w1,z9c w2,z9c w3,z9c w4⟩
 haveI:Inhabited Arc:=⟨⟨0,0,0,0,0⟩⟩
 obtain ⟨q,hq⟩:=choose_lt each
 have hlen:((List.range len).map q).length = len:=by simp
 refine ⟨some a,cap,(List.range len).map q,by rw [hlen]; exact hcs,⟨fun h0=>?_,by omega⟩,by omega,fun y hy=>?_⟩
 ·have h1:=(hq 0 (by omega)).1.1
  have hz0:a.add (0 * 5) = a:=by unfold Addr.add; simp
  rw [hz0] at h1
  obtain ⟨e1,e2⟩:=z5f h1
  refine ⟨a.block,a.off,by rw [<- e1],e2,fun i x hx=>?_⟩
  rw [List.getElem?_map] at hx
  by_cases hi:i < len
  ·rw [List.getElem?_range hi] at hx
   simp only [Option.map_some,Option.some.injEq] at hx
   subst hx
   obtain ⟨⟨a0,a1,a2,a3,a4⟩,_⟩:=hq i hi
   rw [e1,z6n] at a0 a1 a2 a3 a4
   exact ⟨a0,a1,a2,a3,a4⟩
  ·rw [List.getElem?_eq_none (by simpa using hi)] at hx
   cases hx
 ·rw [List.mem_map] at hy
  obtain ⟨i,hi,rfl⟩:=hy
  exact (hq i (List.mem_range.1 hi)).2
theorem za1 {W:World} {r:Reach} {b0:Nat} {t:TypeId} {fs:Array Field} {v:Value} (ht:P.underlying t = some (.struct fs)) (h:Value.okWide P W r b0 t v):∃ xs:Array Value,v = .agg xs:=by
 simp only [Value.okWide,ht] at h
 obtain ⟨cs,h1,_⟩:=h
 exact ⟨cs,h1⟩
theorem z4a {W:World} {base:Nat} {t e:TypeId} {k:IntKind} {fuel:Nat} {cs:List Value} {x:DataW H × List MemPlace} (ht:P.underlying t = some (.slice e)) (he:P.underlying e = some (.int k)) (hc:P.cellsOf e = 1)
  (h:DataW.trod enc P W base (fun _=>true) true fuel t cs = some x) :
  ∃ A c xs,cs = [.slice A xs.length c]/\(RowR (Value.int k) W W.heap.size A xs/\xs.length <= c)/\xs.length <= maxLen/\∀ x ∈ xs,(Lit.int k x).wf = true:=by
 rcases open_ints ht he hc h with ⟨hcs,_⟩ | ⟨a,len',cap',zs,hcs,_,hl,hm,hz,_,hcell,hwz⟩
 ·exact ⟨none,0,[],by simpa using hcs,⟨RowR.nil,by simp⟩,by simp,by simp⟩
 ·simp only [if_true] at hz
  have hlen:(zs.take len').length = len':=by simp; omega
  refine ⟨some a,cap',zs.take len',by rw [hlen]; exact hcs,⟨fun h0=>?_,by omega⟩,by omega,fun x hx=>hwz x (List.mem_of_mem_take hx)⟩
  have h1:=hcell 0 (by omega)
  have hz0:a.add 0 = a:=by unfold Addr.add; simp
  rw [hz0] at h1
  obtain ⟨e1,e2⟩:=z5f h1
  refine ⟨a.block,a.off,by rw [<- e1],e2,fun i x hx=>?_⟩
  rw [List.getElem?_take] at hx
  split at hx
  ·have h2:=hcell i (by omega)
   rw [e1,z6n] at h2
   rw [h2]
   simp [List.getD,hx]
  ·cases hx
end
end Go.Ql
namespace Go.Proofs.YtapeenpimcffpaaGreat
open Go Go.RowKit Go.Ql
end Go.Proofs.YtapeenpimcffpaaGreat
end
end
section
namespace Go.Ql
open Go Go.RowKit Go.ChangeShapes Go.WideShapes Go.ChangeAt Go.Deep
section
variable {H:Type} {P:Program} {enc:TypeId × Value->H}
theorem trod_struct5 {w:World} {base:Nat} {spare:Nat->Bool} {held:Bool} {t:TypeId} {f0 f1 f2 f3 f4:Field} {fuel:Nat} {cs:List Value} {x:DataW H × List MemPlace} (ht:P.underlying t = some (.struct #[f0,f1,f2,f3,f4])) (h:DataW.trod enc P w base spare held fuel t cs = some x) :
  ∃ y0 y1 y2 y3 y4 n,x = (.agg [y0.1,y1.1,y2.1,y3.1,y4.1],y0.2 ++ (y1.2 ++ (y2.2 ++ (y3.2 ++ y4.2))))/\cs.length = P.cellsOf t/\DataW.trod enc P w base spare held n f0.type ((cs.drop f0.offset).take (P.cellsOf f0.type)) = some y0 /\
   DataW.trod enc P w base spare held n f1.type ((cs.drop f1.offset).take (P.cellsOf f1.type)) = some y1/\DataW.trod enc P w base spare held n f2.type ((cs.drop f2.offset).take (P.cellsOf f2.type)) = some y2 /\
   DataW.trod enc P w base spare held n f3.type ((cs.drop f3.offset).take (P.cellsOf f3.type)) = some y3/\DataW.trod enc P w base spare held n f4.type ((cs.drop f4.offset).take (P.cellsOf f4.type)) = some y4:=by
 obtain ⟨xs,n,_,rfl,hl,hlen,hf⟩:=DataW.trod_struct ht h
 match xs,hlen with
 | [y0,y1,y2,y3,y4],_=>exact ⟨y0,y1,y2,y3,y4,n,by simp,hl,by simpa using hf 0 f0 rfl,by simpa using hf 1 f1 rfl,by simpa using hf 2 f2 rfl,by simpa using hf 3 f3 rfl,by simpa using hf 4 f4 rfl⟩
theorem dec_bools_cell {W:World} {base:Nat} {t e:TypeId} {fuel:Nat} {cs:List Value} {x:DataW H × List MemPlace} (ht:P.underlying t = some (.slice e)) (he:P.underlying e = some .bool) (hc:P.cellsOf e = 1)
  (h:DataW.trod enc P W base (fun _=>true) true fuel t cs = some x) :
  ∃ A c xs,cs = [.slice A xs.length c]/\(RowR Value.bool W W.heap.size A xs/\xs.length <= c)/\xs.length <= maxLen:=by
 rcases open_bools ht he hc h with ⟨hcs,_⟩ | ⟨a,len,cap',B,hcs,_,hl,hm,_,hcell⟩
 ·exact ⟨none,0,[],by simpa using hcs,⟨RowR.nil,by simp⟩,by simp⟩
 ·have hlen:((List.range len).map B).length = len:=by simp
  refine ⟨some a,cap',(List.range len).map B,by rw [hlen]; exact hcs,⟨fun h0=>?_,by omega⟩,by omega⟩
  have h1:=hcell 0 (by omega)
  have hz0:a.add 0 = a:=by unfold Addr.add; simp
  rw [hz0] at h1
  obtain ⟨e1,e2⟩:=z5f h1
  refine ⟨a.block,a.off,by rw [<- e1],e2,fun i x hx=>?_⟩
  rw [List.getElem?_map] at hx
  by_cases hi:i < len
  ·have h2:=hcell i (by omega)
   rw [e1,z6n] at h2
   rw [h2]
   rw [List.getElem?_range hi] at hx
   simp at hx
   rw [hx]
  ·rw [List.getElem?_eq_none (by simpa using hi)] at hx; cases hx
theorem dec_cert0 {W:World} {base:Nat} {r:Reach} {b0:Nat} {t:TypeId} {g0 g1 g2 g3 g4:Field} {v:Value} {d:DataW H} {p:List MemPlace} (ht:P.underlying t = some (.struct #[g0,g1,g2,g3,g4]))
  (hk:P.underlying g0.type = some (.int .i64)) {e1 e2 e3 e4:TypeId} (h1:P.underlying g1.type = some (.slice e1)) (h2:P.underlying g2.type = some (.slice e2)) (h3:P.underlying g3.type = some (.slice e3)) (h4:P.underlying g4.type = some (.slice e4))
  (i1:P.underlying e1 = some (.int .i64)) (i2:P.underlying e2 = some (.int .i64)) (i3:P.underlying e3 = some .bool) (i4:P.underlying e4 = some (.int .i64))
  (b1:1 <= P.bytesOf e1) (b2:1 <= P.bytesOf e2) (b3:1 <= P.bytesOf e3) (b4:1 <= P.bytesOf e4)
  (hg:[P.cellsOf g0.type,P.cellsOf g1.type,P.cellsOf g2.type,P.cellsOf g3.type,P.cellsOf g4.type,g0.offset,g1.offset,g2.offset,g3.offset,g4.offset,P.cellsOf t,P.cellsOf e1,P.cellsOf e2,P.cellsOf e3,P.cellsOf e4] = [1,1,1,1,1,0,1,2,3,4,5,1,1,1,1])
  (hv:Value.okWide P W r b0 t v) (h:DataW.Trod enc P W base (fun _=>true) true t v d p) :
  ∃ A1 c1 A2 c2 A3 c3 A4 c4,∃ (k:Int) (x1 x2:List Int) (x3:List Bool) (x4:List Int),v = .agg #[.int .i64 k,.slice A1 x1.length c1,.slice A2 x2.length c2,.slice A3 x3.length c3,.slice A4 x4.length c4] /\
   (RowR (Value.int .i64) W W.heap.size A1 x1/\x1.length <= c1)/\(RowR (Value.int .i64) W W.heap.size A2 x2/\x2.length <= c2)/\(RowR Value.bool W W.heap.size A3 x3/\x3.length <= c3)/\(RowR (Value.int .i64) W W.heap.size A4 x4/\x4.length <= c4) /\
   (I64s x1/\I64s x2/\I64s x4/\-9223372036854775808 <= k/\k <= 9223372036854775807)/\((d.weights P t).all (· <= reachBytes) = true->x1.length <= 140737488351232/\x2.length <= 140737488351232/\x3.length <= 140737488351232/\x4.length <= 140737488351232):=by
 simp only [List.cons.injEq,and_true] at hg
 obtain ⟨k0,k1,k2,k3,k4,o0,o1,o2,o3,o4,kt,l1,l2,l3,l4⟩:=hg
 obtain ⟨xs,rfl⟩:=za1 ht hv
 obtain ⟨fuel,hf⟩:=h
 obtain ⟨y0,y1,y2,y3,y4,n,hy,hl,q0,q1,q2,q3,q4⟩:=trod_struct5 ht hf
 simp only [Value.cells] at hl q0 q1 q2 q3 q4
 rw [kt] at hl
 obtain ⟨l⟩:=xs
 match l,hl with
 | [u0,u1,u2,u3,u4],_ =>
  simp [o0,o1,o2,o3,o4,k0,k1,k2,k3,k4] at q0 q1 q2 q3 q4
  obtain ⟨A1,c1,s1,e1',R1,m1,w1⟩:=z4a h1 i1 l1 q1
  obtain ⟨A2,c2,s2,e2',R2,m2,w2⟩:=z4a h2 i2 l2 q2
  obtain ⟨A3,c3,s3,e3',R3,m3⟩:=dec_bools_cell h3 i3 l3 q3
  obtain ⟨A4,c4,s4,e4',R4,m4,w4⟩:=z4a h4 i4 l4 q4
  obtain ⟨k,e0',_,w0⟩:=DataW.trod_int hk q0
  simp only [List.cons.injEq,and_true] at e0' e1' e2' e3' e4'
  subst e0' e1' e2' e3' e4'
  refine ⟨A1,c1,A2,c2,A3,c3,A4,c4,k,s1,s2,s3,s4,rfl,R1,R2,R3,R4,⟨wf_i64 w1,wf_i64 w2,wf_i64 w4,z9c w0⟩,fun hz=>?_⟩
  simp only [Prod.mk.injEq] at hy
  obtain ⟨rfl,_⟩:=hy
  simp only [DataW.weights,ht,List.map_cons,List.map_nil,DataW.weightsEach,List.all_append,Bool.and_eq_true] at hz
  exact ⟨z36 h1 b1 q1 hz.2.1,z36 h2 b2 q2 hz.2.2.1,z36 h3 b3 q3 hz.2.2.2.1,z36 h4 b4 q4 hz.2.2.2.2.1⟩
end
end Go.Ql
namespace Go.Proofs.YtapeenpimcffpaaGreat
open Go Go.RowKit Go.Ql
theorem dec_cert {H:Type} {enc:TypeId × Value->H} {W:World} {base:Nat} {r:Reach} {b0:Nat} {v:Value} {d:DataW H} {p:List MemPlace} (hv:Value.okWide Tryz.prog W r b0 31 v)
  (h:DataW.Trod enc Tryz.prog W base (fun _=>true) true 31 v d p) :
  ∃ A1 c1 A2 c2 A3 c3 A4 c4,∃ (k:Int) (x1 x2:List Int) (x3:List Bool) (x4:List Int),v = .agg #[.int .i64 k,.slice A1 x1.length c1,.slice A2 x2.length c2,.slice A3 x3.length c3,.slice A4 x4.length c4] /\
   (RowR (Value.int .i64) W W.heap.size A1 x1/\x1.length <= c1)/\(RowR (Value.int .i64) W W.heap.size A2 x2/\x2.length <= c2)/\(RowR Value.bool W W.heap.size A3 x3/\x3.length <= c3)/\(RowR (Value.int .i64) W W.heap.size A4 x4/\x4.length <= c4) /\
   (I64s x1/\I64s x2/\I64s x4/\-9223372036854775808 <= k/\k <= 9223372036854775807)/\((d.weights Tryz.prog 31).all (· <= reachBytes) = true->x1.length <= 140737488351232/\x2.length <= 140737488351232/\x3.length <= 140737488351232/\x4.length <= 140737488351232) :=
 dec_cert0 Tryz.underlying31 Tryz.underlying3 Tryz.underlying22 Tryz.underlying22 Tryz.underlying28 Tryz.underlying29 Tryz.underlying2 Tryz.underlying2 Tryz.underlying4 Tryz.underlying3
  (of_decide_eq_true (by kernel_rfl)) (of_decide_eq_true (by kernel_rfl)) (of_decide_eq_true (by kernel_rfl)) (of_decide_eq_true (by kernel_rfl)) (by kernel_rfl) hv h
end Go.Proofs.YtapeenpimcffpaaGreat
end
section
namespace Go.Ql
open Go Go.RowKit Go.ChangeShapes Go.WideShapes Go.ChangeAt Go.Deep
section
variable {H:Type} {P:Program} {enc:TypeId × Value->H}
theorem trod_struct4 {w:World} {base:Nat} {spare:Nat->Bool} {held:Bool} {t:TypeId} {f0 f1 f2 f3:Field} {fuel:Nat} {cs:List Value} {x:DataW H × List MemPlace} (ht:P.underlying t = some (.struct #[f0,f1,f2,f3])) (h:DataW.trod enc P w base spare held fuel t cs = some x) :
  ∃ y0 y1 y2 y3 n,x = (.agg [y0.1,y1.1,y2.1,y3.1],y0.2 ++ (y1.2 ++ (y2.2 ++ y3.2)))/\cs.length = P.cellsOf t/\DataW.trod enc P w base spare held n f0.type ((cs.drop f0.offset).take (P.cellsOf f0.type)) = some y0 /\
   DataW.trod enc P w base spare held n f1.type ((cs.drop f1.offset).take (P.cellsOf f1.type)) = some y1/\DataW.trod enc P w base spare held n f2.type ((cs.drop f2.offset).take (P.cellsOf f2.type)) = some y2 /\
   DataW.trod enc P w base spare held n f3.type ((cs.drop f3.offset).take (P.cellsOf f3.type)) = some y3:=by
 obtain ⟨xs,n,_,rfl,hl,hlen,hf⟩:=DataW.trod_struct ht h
 match xs,hlen with
 | [y0,y1,y2,y3],_=>exact ⟨y0,y1,y2,y3,n,by simp,hl,by simpa using hf 0 f0 rfl,by simpa using hf 1 f1 rfl,by simpa using hf 2 f2 rfl,by simpa using hf 3 f3 rfl⟩
theorem dec_prob0 {W:World} {base:Nat} {r:Reach} {b0:Nat} {tp te ti:TypeId} {m0 m1 m2 m3 g0 g1 f0 f1 f2 f3 f4:Field} {v:Value} {d:DataW H} {p:List MemPlace} (hp:P.underlying tp = some (.struct #[m0,m1,m2,m3]))
  (hb:P.underlying m0.type = some .bool) (ht:P.underlying m1.type = some (.struct #[g0,g1])) (hs:P.underlying m2.type = some (.int .i64)) (hq:P.underlying m3.type = some (.int .i64))
  (hm:[P.cellsOf m0.type,P.cellsOf m1.type,P.cellsOf m2.type,P.cellsOf m3.type,m0.offset,m1.offset,m2.offset,m3.offset,P.cellsOf tp] = [1,2,1,1,0,1,3,4,5])
  (h0:P.underlying g0.type = some (.slice ti)) (hti:P.underlying ti = some (.int .i64)) (h1:P.underlying g1.type = some (.slice te)) (hbi:1 <= P.bytesOf ti) (hbe:1 <= P.bytesOf te) (hg:[P.cellsOf g0.type,P.cellsOf g1.type,g0.offset,g1.offset,P.cellsOf ti] = [1,1,0,1,1])
  (he:P.underlying te = some (.struct #[f0,f1,f2,f3,f4])) (ce:P.cellsOf te = 5) (hi0:P.underlying f0.type = some (.int .i64)) (hi1:P.underlying f1.type = some (.int .i64)) (hi2:P.underlying f2.type = some (.int .i64))
  (hi3:P.underlying f3.type = some (.int .i64)) (hi4:P.underlying f4.type = some (.int .i64))
  (hc:[P.cellsOf f0.type,P.cellsOf f1.type,P.cellsOf f2.type,P.cellsOf f3.type,P.cellsOf f4.type] = [1,1,1,1,1]) (ho:[f0.offset,f1.offset,f2.offset,f3.offset,f4.offset] = [0,1,2,3,4])
  (hv:Value.okWide P W r b0 tp v) (h:DataW.Trod enc P W base (fun _=>true) true tp v d p) :
  ∃ A c A' c',∃ (m:Bool) (I:Inst) (s q:Int),v = .agg #[.bool m,.slice A I.sup.length c,.slice A' I.arcs.length c',.int .i64 s,.int .i64 q]/\(RowR (Value.int .i64) W W.heap.size A I.sup/\I.sup.length <= c)/\(ArcsR W W.heap.size A' I.arcs/\I.arcs.length <= c')/\((d.weights P tp).all (· <= reachBytes) = true->I.sup.length <= 140737488351232/\I.arcs.length <= 140737488351232):=by
 simp only [List.cons.injEq,and_true] at hg hm
 obtain ⟨k0,k1,o0,o1,ki⟩:=hg
 obtain ⟨j0,j1,j2,j3,n0,n1,n2,n3,kt⟩:=hm
 obtain ⟨xs,rfl⟩:=za1 hp hv
 obtain ⟨fuel,hf⟩:=h
 obtain ⟨y0,y1,y2,y3,n,hy,hl,q0,q1,q2,q3⟩:=trod_struct4 hp hf
 simp only [Value.cells] at hl q0 q1 q2 q3
 rw [kt] at hl
 obtain ⟨l⟩:=xs
 match l,hl with
 | [u0,u1,u2,u3,u4],_ =>
  simp [j0,j1,j2,j3,n0,n1,n2,n3] at q0 q1 q2 q3
  obtain ⟨z0,z1,n',hz',hl',w0,w1⟩:=trod_struct2 ht q1
  simp [o0,o1,k0,k1] at w0 w1
  obtain ⟨b,e0,-⟩:=DataW.trod_bool hb q0
  obtain ⟨s,e3,-,-⟩:=DataW.trod_int hs q2
  obtain ⟨q,e4,-,-⟩:=DataW.trod_int hq q3
  obtain ⟨A,c,x,e1,R,mm0,ww0⟩:=z4a h0 hti ki w0
  obtain ⟨A',c',l1,e2,R',mm1,ww1⟩:=dec_arcs h1 he ce hi0 hi1 hi2 hi3 hi4 hc ho w1
  simp only [List.cons.injEq,and_true] at e0 e1 e2 e3 e4
  subst e0 e1 e2 e3 e4
  refine ⟨A,c,A',c',b,⟨x,l1⟩,s,q,rfl,R,R',fun hz=>?_⟩
  simp only [Prod.mk.injEq] at hy
  obtain ⟨rfl,_⟩:=hy
  subst hz'
  simp only [DataW.weights,hp,ht,List.map_cons,List.map_nil,DataW.weightsEach,List.all_append,Bool.and_eq_true] at hz
  exact ⟨z36 h0 hbi w0 hz.2.1.1,z36 h1 hbe w1 hz.2.1.2.1⟩
end
end Go.Ql
namespace Go.Proofs.YtapeenpimcffpaaGreat
open Go Go.RowKit Go.Ql
theorem dec_prob {H:Type} {enc:TypeId × Value->H} {W:World} {base:Nat} {r:Reach} {b0:Nat} {v:Value} {d:DataW H} {p:List MemPlace} (hv:Value.okWide Tryz.prog W r b0 27 v)
  (h:DataW.Trod enc Tryz.prog W base (fun _=>true) true 27 v d p) :
  ∃ A c A' c',∃ (m:Bool) (I:Inst) (s q:Int),v = .agg #[.bool m,.slice A I.sup.length c,.slice A' I.arcs.length c',.int .i64 s,.int .i64 q]/\(RowR (Value.int .i64) W W.heap.size A I.sup/\I.sup.length <= c)/\(ArcsR W W.heap.size A' I.arcs/\I.arcs.length <= c')/\((d.weights Tryz.prog 27).all (· <= reachBytes) = true->I.sup.length <= 140737488351232/\I.arcs.length <= 140737488351232) :=
 dec_prob0 Tryz.underlying27 Tryz.underlying4 Tryz.underlying25 Tryz.underlying3 Tryz.underlying3 (by kernel_rfl) Tryz.underlying22 Tryz.underlying2 Tryz.underlying23 (of_decide_eq_true (by kernel_rfl)) (of_decide_eq_true (by kernel_rfl)) (by kernel_rfl) Tryz.underlying65 (by kernel_rfl) Tryz.underlying3 Tryz.underlying3 Tryz.underlying2 Tryz.underlying2 Tryz.underlying2 (by kernel_rfl) (by kernel_rfl) hv h
end Go.Proofs.YtapeenpimcffpaaGreat
end
