/- SolveRounds: the law is true for every input: the given statement, with no condition of its own. -/
import Derived.Test.YtggblkbecekbdaaGreatZG16
import Derived.Test.YtggblkbecekbdaaGreatZG15
import Derived.Test.YtggblkbecekbdaaGreatZG14
import Derived.Test.YtggblkbecekbdaaGreatZG12
import Derived.Test.YtggblkbecekbdaaGreatZG5
set_option linter.all false
set_option linter.unusedSimpArgs false
set_option linter.unusedVariables false
set_option maxRecDepth 1000000
section
namespace Go.Proofs.YtggblkbecekbdaaGreat
open Go Go.RowKit Go.Ql Go.Vc
def z4j (p:List Int) (d:List Int) (e:List Int):FRes:={ pre:=Bytes p/\Bytes d/\p.length <= maxLen/\d.length <= maxLen/\Bytes e/\e.length <= maxLen,res:=.bool (true),rows:=[],eff:=[] }
def zbw:FS:=fun args h=>match args,h with
 | [.row 0,.row 1,.row 2],[(0,.row false ty0 (.ints .u8 p)),(1,.row false ty1 (.ints .u8 d)),(2,.row false ty2 (.ints .u8 e))]=>some (z4j p d e)
 | _,_=>none
def z7k (p:List Int) (d:List Int) (e:List Int):List (Nat × Ann):=[(7,{ G:=(Nat) × (List Int) × (Bool),inv:=fun ⟨a,m,i⟩=>⟨[(7,.ptr 8 0 0 0),(9,.row 9),(10,.bool i),(11,.bool (z1l (z16 p d) (z61 p d) == (0:Int))),(12,.row 10),(13,.ptr 15 0 0 0),(14,.int .i64 a)],[(15,.box true 25 [.row 11,.row 12]),(11,.row true 2 (.ints .i64 (z07 p d).sup)),(12,.row true 35 (.arcs (idxS (capA (z07 p d) (z7o e (z07 p d).sup.length)) (z07 p d).arcs a))),(10,.row true 2 (.ints .i64 (z7o e (z07 p d).sup.length))),(9,.row true 3 (.ints .i64 m)),(8,.box true 25 [.row 3,.row 4]),(3,.row true 2 (.ints .i64 (z16 p d).sup)),(4,.row true 35 (.arcs (z16 p d).arcs))],16⟩,rel:=fun ⟨a0,m0,i0⟩ ⟨a,m,i⟩=>m = m0/\i = i0/\a <= (z07 p d).arcs.length/\RoundsP (z16 p d) m i,meas:=fun ⟨a,m,i⟩=>(z07 p d).arcs.length - a })]
def SolveRounds_A:List SV->z0d->List (Nat × Ann):=fun args h=>match args,h with
 | [.row 0,.row 1,.row 2],[(0,.row false ty0 (.ints .u8 p)),(1,.row false ty1 (.ints .u8 d)),(2,.row false ty2 (.ints .u8 e))]=>z7k p d e
 | _,_=>[]
def z8e:z0c:=[(zlm,(true,z02 true zbc)),(Round_n,(true,z02 true Round_fs)),(Rounds_n,(true,z0u true zdo)),(Turns_n,(true,z02 true zid)),(Pot_n,(true,z02 true Pot_fs)),(Inst_n,(true,z02 true zjj)),(Reduced_n,(true,z02 true zfs)),(zdm,(true,z02 true z7p))]
abbrev SolveRounds_n:Nat:=5
def zdp (p:List Int) (d:List Int) (e:List Int):List (Nat × z09):=[]
def SolveRounds_IA:List SV->z0d->List (Nat × z09):=fun _ _=>[]
end Go.Proofs.YtggblkbecekbdaaGreat
end
section
namespace Go.Proofs.YtggblkbecekbdaaGreat
open Go Go.RowKit Go.Ql Go.Vc
abbrev z10 (p:List Int) (d:List Int) (e:List Int) (g:Nat × List Int × Bool):=(Ql.idxS (capA (z07 p d) (z7o e (z07 p d).sup.length)) (z07 p d).arcs g.1)
abbrev z7i (p:List Int) (d:List Int) (g':Nat × List Int × Bool) (g:Nat × List Int × Bool) (e:List Int):=((z07 p d).arcs.length - g'.fst < (z07 p d).arcs.length - g.fst/\((0 = 0/\(True/\(g.2.2 = g'.2.2/\((z1l (z16 p d) (z61 p d) == (0:Int)) = (z1l (z16 p d) (z61 p d) == (0:Int))/\(True/\(0 = 0/\(IntKind.i64.wrap ((↑g.1:Int) + (1:Int)) = (↑g'.1:Int)/\True)))))))/\((True/\(True/\True))/\((z07 p d).sup = (z07 p d).sup/\(Ql.idxS (capA (z07 p d) (z7o e (z07 p d).sup.length)) (z07 p d).arcs g.1 = Ql.idxS (capA (z07 p d) (z7o e (z07 p d).sup.length)) (z07 p d).arcs g'.1/\(z7o e (z07 p d).sup.length = z7o e (z07 p d).sup.length/\(g.2.1 = g'.2.1/\((True/\(True/\True))/\((z16 p d).sup = (z16 p d).sup/\((z16 p d).arcs = (z16 p d).arcs/\True))))))))))
abbrev z7j (g:Nat × List Int × Bool) (p:List Int) (d:List Int) (g_1:List Int × Bool):=((!g.2.2) = false->(g.2.1.length <= (140737488351232:Nat)/\(zfd (z16 p d).arcs))/\(((z1l (z16 p d) g.2.1 == (0:Int)) = true->((!g_1.2) = true->(((↑g_1.1.length:Int) == (0:Int)) = true/\True)/\True)/\((!g_1.2) = false->(false = true/\True)/\True))/\((z1l (z16 p d) g.2.1 == (0:Int)) = false->(false = true/\True)/\True)))
abbrev z5l (p:List Int) (d:List Int) (e:List Int) (g:Nat × List Int × Bool):=(W (zff { sup:=(z07 p d).sup,arcs:=Ql.idxS (capA (z07 p d) (z7o e (z07 p d).sup.length)) (z07 p d).arcs g.1:Inst } (z7o e (z07 p d).sup.length) (↑g.1:Int)))
def z7h (p : List Int) (d : List Int) (e : List Int) (ty0 ty1 ty2 : TypeId) : Prop :=
   (Bytes p/\(Bytes d/\(p.length <= maxLen/\(d.length <= maxLen))))/\True/\∀ (g:List Int × Bool),RoundsP (z16 p d) g.1 g.2->((z61 p d).length <= (140737488351232:Nat)/\(zfd (z16 p d).arcs))/\(Bytes e/\(e.length <= maxLen/\((0:Int) <= ↑(z16 p d).sup.length/\((↑(z16 p d).sup.length:Int) <= 1000000))))/\(Bytes p/\(Bytes d/\(p.length <= maxLen/\(d.length <= maxLen))))/\∃ (g0:Nat × List Int × Bool),((g0.2.fst = g0.2.fst/\(g0.2.snd = g0.2.snd/\(g0.fst <= (z07 p d).arcs.length/\(RoundsP (z16 p d) g0.2.fst g0.2.snd))))/\((0 = 0/\(True/\(g.2 = g0.2.2/\((z1l (z16 p d) (z61 p d) == (0:Int)) = (z1l (z16 p d) (z61 p d) == (0:Int))/\(True/\(0 = 0/\((0:Int) = ↑g0.1/\True)))))))/\((True/\(True/\True))/\((z07 p d).sup = (z07 p d).sup/\((z07 p d).arcs = Ql.idxS (capA (z07 p d) (z7o e (z07 p d).sup.length)) (z07 p d).arcs g0.1/\(z7o e (↑(z16 p d).sup.length:Int).toNat = z7o e (z07 p d).sup.length/\(g.1 = g0.2.1/\((True/\(True/\True))/\((z16 p d).sup = (z16 p d).sup/\((z16 p d).arcs = (z16 p d).arcs/\True))))))))))/\∀ (g:Nat × List Int × Bool),g.2.fst = g0.2.fst/\g.2.snd = g0.2.snd/\g.fst <= (z07 p d).arcs.length/\RoundsP (z16 p d) g.2.fst g.2.snd->(decide ((↑g.1:Int) < ↑(z10 p d e g).length) = true->(A64 (z7o e (z07 p d).sup.length)/\(zfd (z10 p d e g)))/\((z5l p d e g).ok/\({ hi:=(0:Int),lo:=(0:Int):Wide }.ok))/\(decide (zfg (z5l p d e g) { hi:=(0:Int),lo:=(0:Int):Wide } < (0:Int)) = true->((0:Int) <= ↑g.1/\((↑g.1:Int) < ↑(z10 p d e g).length))/\(↑g.1:Int).toNat < (z10 p d e g).length/\∀ (x:Arc),(z10 p d e g)[(↑g.1:Int).toNat]? = some x->((x.cap == (4611686018427387904:Int)) = true->((0:Int) <= ↑g.1/\((↑g.1:Int) < ↑(z10 p d e g).length))/\((↑g.1:Int).toNat < (z10 p d e g).length/\(∀ (x:Arc),(z10 p d e g)[(↑g.1:Int).toNat]? = some x->((0:Int) <= ↑g.1/\((↑g.1:Int) < ↑(z10 p d e g).length))/\((↑g.1:Int).toNat < (z10 p d e g).length/\(∀ (x_1:Arc),(z10 p d e g)[(↑g.1:Int).toNat]? = some x_1->∃ (g':Nat × List Int × Bool),(g'.2.fst = g0.2.fst/\(g'.2.snd = g0.2.snd/\(g'.fst <= (z07 p d).arcs.length/\(RoundsP (z16 p d) g'.2.fst g'.2.snd))))/\((z07 p d).arcs.length - g'.fst < (z07 p d).arcs.length - g.fst/\((0 = 0/\(True/\(g.2.2 = g'.2.2/\((z1l (z16 p d) (z61 p d) == (0:Int)) = (z1l (z16 p d) (z61 p d) == (0:Int))/\(True/\(0 = 0/\(IntKind.i64.wrap ((↑g.1:Int) + (1:Int)) = (↑g'.1:Int)/\True)))))))/\((True/\(True/\True))/\((z07 p d).sup = (z07 p d).sup/\((z10 p d e g).set (↑g.1:Int).toNat { src:=x_1.src,dst:=x_1.dst,low:=x_1.low,cap:=IntKind.i64.wrap (x.low + (1:Int)),cost:=x_1.cost:Arc } = Ql.idxS (capA (z07 p d) (z7o e (z07 p d).sup.length)) (z07 p d).arcs g'.1/\(z7o e (z07 p d).sup.length = z7o e (z07 p d).sup.length/\(g.2.1 = g'.2.1/\((True/\(True/\True))/\((z16 p d).sup = (z16 p d).sup/\((z16 p d).arcs = (z16 p d).arcs/\True)))))))))))))))/\((x.cap == (4611686018427387904:Int)) = false->∃ (g':Nat × List Int × Bool),(g'.2.fst = g0.2.fst/\(g'.2.snd = g0.2.snd/\(g'.fst <= (z07 p d).arcs.length/\(RoundsP (z16 p d) g'.2.fst g'.2.snd))))/\(z7i p d g' g e)))/\(decide (zfg (z5l p d e g) { hi:=(0:Int),lo:=(0:Int):Wide } < (0:Int)) = false->∃ (g':Nat × List Int × Bool),(g'.2.fst = g0.2.fst/\(g'.2.snd = g0.2.snd/\(g'.fst <= (z07 p d).arcs.length/\(RoundsP (z16 p d) g'.2.fst g'.2.snd))))/\(z7i p d g' g e)))/\(decide ((↑g.1:Int) < ↑(z10 p d e g).length) = false->True/\(∀ (g_1:List Int × Bool),RoundsP { sup:=(z07 p d).sup,arcs:=Ql.idxS (capA (z07 p d) (z7o e (z07 p d).sup.length)) (z07 p d).arcs g.1:Inst } g_1.1 g_1.2->True/\((true = true->((!z1l (z16 p d) (z61 p d) == (0:Int)) = true->((!g.2.2) = true->((!g_1.2) = true->(((↑g_1.1.length:Int) == (0:Int)) = true/\True)/\True)/\((!g_1.2) = false->(false = true/\True)/\True))/\(z7j g p d g_1))/\((!z1l (z16 p d) (z61 p d) == (0:Int)) = false->(g.2.2 = true->((!g.2.2) = true->((!g_1.2) = true->(((↑g_1.1.length:Int) == (0:Int)) = true/\True)/\True)/\((!g_1.2) = false->(false = true/\True)/\True))/\(z7j g p d g_1))/\(g.2.2 = false->(false = true/\True)/\True)))/\(true = false->(false = true/\True)/\True))))
theorem SolveRounds_q (p:List Int) (d:List Int) (e:List Int) (ty0 ty1 ty2:TypeId):z7h p d e ty0 ty1 ty2 = z2h TT z8e (zdp p d e) (z7k p d e) Tryz.f5 [.row 0,.row 1,.row 2] [(0,.row false ty0 (.ints .u8 p)),(1,.row false ty1 (.ints .u8 d)),(2,.row false ty2 (.ints .u8 e))] (z4j p d e):=by kernel_rfl
theorem SolveRounds_E (p:List Int) (d:List Int) (e:List Int) (ty0 ty1 ty2:TypeId) (hp:Bytes p/\Bytes d/\p.length <= maxLen/\d.length <= maxLen/\Bytes e/\e.length <= maxLen):FVc TT z8e (zdp p d e) (z7k p d e) Tryz.f5 [.row 0,.row 1,.row 2] [(0,.row false ty0 (.ints .u8 p)),(1,.row false ty1 (.ints .u8 d)),(2,.row false ty2 (.ints .u8 e))] (z4j p d e):=by
 refine FVc.of (z7h p d e ty0 ty1 ty2) (SolveRounds_q p d e ty0 ty1 ty2) ?_
 unfold z7h
 delta z5l z7j z7i z10
 obtain ⟨p1,p2,p3,p4,p5,p6⟩:=hp
 have hr:=instF_right p d
 have hN:∀ a ∈ (z07 p d).arcs,a.Nice (nOf d):=z7y p d
 have hL7:=roundL_le p d
 have hAc:=roundI_A64c p d
 have n7:=(small_few p d 0).2.2.2.1
 have hsn:(z16 p d).sup.length = nOf d:=z6o p d
 have hm18:=zbb p d
 have hPm:∀ y ∈ z7o e (z07 p d).sup.length,-8 <= y/\y <= 16:=fun y hy=>by
  unfold z7o at hy
  rw [List.mem_map] at hy
  obtain ⟨k,_,rfl⟩:=hy
  unfold potE
  split <;> omega
 have hPb:∀ j,-16 <= (z7o e (z07 p d).sup.length).getD j 0/\(z7o e (z07 p d).sup.length).getD j 0 <= 16:=fun j=>by
  rw [List.getD_eq_getElem?_getD]
  cases hj:(z7o e (z07 p d).sup.length)[j]? with
  | none=>exact ⟨by decide,by decide⟩
  | some u=>have:=hPm u (List.mem_of_getElem? hj); exact ⟨by show -16 <= u; omega,by show u <= 16; omega⟩
 have hPA:A64 (z7o e (z07 p d).sup.length):=fun y hy=>by have:=hPm y hy; unfold I64; omega
 have e0:z7o e (z16 p d).sup.length = z7o e (z07 p d).sup.length:=rfl
 simp only [eq_self,exists_const,forall_const,decide_eq_true_eq,decide_eq_false_iff_not,and_true,true_and,bne_iff_ne,ne_eq,bne_eq_false_iff_eq,Int.toNat_natCast,Bool.not_eq_true',Bool.not_eq_false',beq_iff_eq,beq_eq_false_iff_ne,z08]
 refine ⟨⟨p1,p2,p3,p4⟩,?_⟩
 rintro ⟨m,i⟩ hM
 dsimp only at hM ⊢
 have hml:m.length <= 140737488351232 ∨ i = false:=by
  cases i with
  | false=>exact Or.inr rfl
  | true=>exact Or.inl (by have h1:=(turns_char.1 (hM.yes rfl)).2.2.1; have h2:=roundI_len p d; omega)
 refine ⟨⟨by omega,hAc⟩,⟨p5,p6,by omega,by omega⟩,⟨p1,p2,p3,p4⟩,(0,m,i),⟨⟨Nat.zero_le _,hM⟩,⟨rfl,rfl⟩,(idxS_zero _ _).symm,e0,rfl⟩,?_⟩
 clear e0
 rintro ⟨k,m',i'⟩ ⟨e1,e2,hk,hM'⟩
 dsimp only at e1 e2 hk hM' ⊢
 subst e1
 subst e2
 generalize z7o e (z07 p d).sup.length = P at *
 generalize z07 p d = I at *
 have hi:inf = 4611686018427387904:=rfl
 simp only [z65]
 refine ⟨fun h1=>?_,fun h1=>?_⟩
 ·have hk1:k < I.arcs.length:=by omega
  have hq:=hN (z29 I k) (z8f hk1).2
  have l0:=hq.l0; have l1:=hq.l1; have q0:=hq.k0; have q1:=hq.k1
  have b1:=hPb (z29 I k).src.toNat
  have b2:=hPb (z29 I k).dst.toNat
  have hb:-100 <= redN I P k/\redN I P k <= 100:=by unfold redN; omega
  have hs:zfg (W (redN I P k)) ⟨0,0⟩ < 0 ↔ redN I P k < 0:=sgn_neg (by unfold zca; omega)
  have hx:(idxS (capA I P) I.arcs k)[k]? = some (z29 I k):=by rw [z64 hk1,if_neg (Nat.lt_irrefl _)]; rfl
  have hx0:=idxS_at hx
  rw [red_at hr rfl hk1]
  simp only [hs,hx,Option.some.injEq,forall_eq']
  have w1:IntKind.i64.wrap ((k:Int) + 1) = ((k + 1:Nat):Int):=by rw [w64 (by omega) (by omega)]; omega
  have w2:IntKind.i64.wrap ((z29 I k).low + 1) = (z29 I k).low + 1:=w64 (by omega) (by omega)
  rw [w1,w2]
  refine ⟨⟨hPA,fun a ha=>?_⟩,⟨z9d _,z9d 0⟩,fun h2=>⟨⟨by omega,by omega⟩,by omega,fun h3=>⟨⟨by omega,by omega⟩,by omega,⟨by omega,by omega⟩,by omega,(k + 1,m',i'),⟨rfl,rfl,by dsimp only; omega,hM'⟩,by dsimp only; omega,⟨rfl,rfl⟩,idxS_set hx0 ?_,rfl⟩,fun h3=>⟨(k + 1,m',i'),⟨rfl,rfl,by dsimp only; omega,hM'⟩,by dsimp only; omega,⟨rfl,rfl⟩,idxS_same hx0 ?_,rfl⟩⟩,fun h2=>⟨(k + 1,m',i'),⟨rfl,rfl,by dsimp only; omega,hM'⟩,by dsimp only; omega,⟨rfl,rfl⟩,idxS_same hx0 ?_,rfl⟩⟩
  ·obtain ⟨j,hj⟩:=List.mem_iff_getElem?.1 ha
   have hj1:=(List.getElem?_eq_some_iff.1 hj).1
   rw [z65] at hj1
   rw [z64 hj1] at hj
   have hqj:=hN (z29 I j) (z8f hj1).2
   have hc:a.cost = (z29 I j).cost:=by
    cases hj
    split
    ·exact (capA_ends I P j _).2.2.2
    ·rfl
   have:=hqj.k0; have:=hqj.k1
   unfold I64; omega
  ·unfold capA; rw [if_pos ⟨h2,h3⟩]
  ·unfold capA; rw [if_neg fun h=>h3 h.2]
  ·unfold capA; rw [if_neg fun h=>h2 h.1]
 have ek:k = I.arcs.length:=by omega
 subst ek
 rintro ⟨m2,i2⟩ hM2
 obtain ⟨f1,f2⟩:=cap_rounds hN hM2
 dsimp only at f1 f2 ⊢
 subst f1
 subst f2
 have hme:i' = true->m'.length <= 140737488351232:=fun h=>by
  rcases hml with h' | h'
  ·exact h'
  ·rw [h] at h'; cases h'
 refine ⟨⟨fun h=>⟨fun _=>⟨fun _=>rfl,fun h=>by cases h⟩,fun hi=>⟨⟨hme hi,hAc⟩,fun _=>⟨fun _=>rfl,fun h=>by cases h⟩,fun h3=>absurd (hM'.yes hi) h3⟩⟩,fun ht=>⟨fun hi=>⟨fun _=>⟨fun _=>rfl,fun h=>by cases h⟩,fun _=>⟨⟨hme hi,hAc⟩,fun _=>⟨fun _=>rfl,fun h=>by cases h⟩,fun h3=>absurd (hM'.yes hi) h3⟩⟩,fun hi=>absurd (turns_rounds hM' ht) (by rw [hi]; decide)⟩⟩,fun h=>by cases h⟩
theorem SolveRounds_ok:SpecOk Tryz.prog SolveRounds_n true (z02 true zbw) :=
 z0a z0k (show z1d Tryz.prog z8e from z00 known20_ok (z00 Round_ok (z00 Rounds_ok (z00 Turns_ok (z00 Pot_ok (z00 Inst_ok (z00 Reduced_ok (z00 zfj (z05))))))))) (by kernel_rfl) mixedOrders Tryz.func5 rfl rfl (by kernel_rfl) (n:=3) (by decide +kernel) (I:=SolveRounds_IA) (fun _ _=>z06) (A:=SolveRounds_A)
  (fun args h r hr=>by
   unfold zbw at hr
   split at hr
   ·rename_i ty0 p ty1 d ty2 e; cases hr; refine ⟨rfl,fun hp=>?_⟩; have hE:=SolveRounds_E p d e ty0 ty1 ty2 hp; exact hE
   ·cases hr)
end Go.Proofs.YtggblkbecekbdaaGreat
end
section
namespace Go.Proofs.YtggblkbecekbdaaGreat
open Go Go.RowKit Go.ChangeShapes Go.WideShapes Go.ChangeAt Go.Deep Go.Ql Go.Vc
theorem zbt (H:Type) (enc:TypeId × Value->H) (W:World) (base:Nat) (args:Array Value) (ds gs:List (DataW H)) (before:List MemPlace)
  (hval:∀ (j:Nat) t v,Tryz.f5.params[j]? = some t->args[j]? = some v->Value.okWide Tryz.prog W .any base t v)
  (hW:DataW.Whole enc Tryz.prog Tryz.f5.params.toList Rows.solveRoundsSpec.vars false W args.toList ds gs before)
  (hz:(DataW.weightsEach Tryz.prog (Tryz.f5.params.toList ++ Rows.solveRoundsSpec.plain.varTypes Tryz.prog) (ds ++ gs)).all (· <= reachBytes) = true) :
  Calls Tryz.prog 5 args W fun e W'=>∃ v,e = .returned v/\Rows.solveRoundsSpec.post enc Tryz.prog Tryz.f5 false true false false W args v W':=by
 have hW':=hW
 obtain ⟨p,q,hA0,hV,rfl,hfz,hnd⟩:=hW
 have hA:DataW.TrodAll enc Tryz.prog W 0 (fun _=>true) true Tryz.f5.params.toList args.toList ds p:=hA0
 rw [Tryz.params5] at hA hval hz
 obtain ⟨v0,vs0,d0,ds0,p0,q0,hargs,rfl,rfl,h0,r0⟩:=trodAll_cons hA
 obtain ⟨v1,vs1,d1,ds1,p1,q1,rfl,rfl,rfl,h1,r1⟩:=trodAll_cons r0
 obtain ⟨v2,vs2,d2,ds2,p2,q2,rfl,rfl,rfl,h2,r2⟩:=trodAll_cons r1
 obtain ⟨rfl,rfl,rfl⟩:=trodAll_nil r2
 obtain rfl:args = #[v0,v1,v2]:=by cases args; simp_all
 obtain ⟨z0,hz⟩:=z32 hz
 obtain ⟨z1,hz⟩:=z32 hz
 obtain ⟨z2,hz⟩:=z32 hz
 obtain ⟨A0,c0,x0,rfl,hR0,hm0,hw0⟩:=z8m Tryz.underlying26 Tryz.underlying5 (by kernel_rfl) (hval 0 26 v0 rfl rfl) h0
 have hb0:=wf_u8 hw0
 have hs0:=z4c Tryz.underlying26 (of_decide_eq_true (by kernel_rfl)) h0 z0
 obtain ⟨A1,c1,x1,rfl,hR1,hm1,hw1⟩:=z8m Tryz.underlying26 Tryz.underlying5 (by kernel_rfl) (hval 1 26 v1 rfl rfl) h1
 have hb1:=wf_u8 hw1
 have hs1:=z4c Tryz.underlying26 (of_decide_eq_true (by kernel_rfl)) h1 z1
 obtain ⟨A2,c2,x2,rfl,hR2,hm2,hw2⟩:=z8m Tryz.underlying26 Tryz.underlying5 (by kernel_rfl) (hval 2 26 v2 rfl rfl) h2
 have hb2:=wf_u8 hw2
 have hs2:=z4c Tryz.underlying26 (of_decide_eq_true (by kernel_rfl)) h2 z2
 have hpre:(z4j x0 x1 x2).pre:=⟨hb0,hb1,hm0,hm1,hb2,hm2⟩
 have hc:=law_calls (enter_gen Tryz.func5 rfl rfl) SolveRounds_ok (ρ:=fun k=>if k = 0 then .slice A0 x0.length c0 else if k = 1 then .slice A1 x1.length c1 else if k = 2 then .slice A2 x2.length c2 else .int .i64 0) (W:=W) (args:=[.row 0,.row 1,.row 2]) (hp:=[(0,.row false 0 (.ints .u8 x0)),(1,.row false 0 (.ints .u8 x1)),(2,.row false 0 (.ints .u8 x2))]) (fun k=>by (repeat' split) <;> rfl) ⟨⟨rfl,zd5 hR0⟩,⟨⟨rfl,zd5 hR1⟩,⟨⟨rfl,zd5 hR2⟩,trivial⟩⟩⟩ ((z4j x0 x1 x2).pre/\SV.bool true = .bool true) ⟨hpre,rfl⟩ (by kernel_rfl)
 simp only [z0r,SV.toV] at hc
 refine Calls.mono (show Calls Tryz.prog 5 #[_,_,_] W _ from hc) fun e W' hx=>?_
 obtain ⟨rfl,hb⟩:=hx
 exact ⟨_,rfl,law_post laid_out hW' rfl (by kernel_rfl) Tryz.underlying4 (by kernel_rfl) rfl hb⟩
theorem zf0 (os:Os) (started:os.Started) (H:Type) (enc:TypeId × Value->H) :
  ReturnsInHanded {} Tryz.checked os 5 .any (Rows.solveRoundsSpec.pre6 enc Tryz.prog Tryz.f5 Rows.solveRoundsRow.domain false) (Rows.solveRoundsSpec.post enc Tryz.prog Tryz.f5 false true false false):=by
 refine returnsInHanded_of_change_sized (C:=Tryz.checked) own_knob started (by kernel_rfl) Tryz.func5
  (ChangeSpec.witness6 (enc:=enc) (C:=Tryz.checked) false ⟨#[],#[.slice none 0 0,.slice none 0 0,.slice none 0 0],[]⟩ 8 (by kernel_rfl) (by kernel_rfl) (by kernel_rfl) (by kernel_rfl)) ?_
 intro W base args ds gs before hval0 hW hcnd hz _
 exact zbt H enc W base args ds gs before hval0 hW hz
theorem solveRounds_holds:Rows.SolveRoundsSaid :=
 OpenClaim.holds_of_wide 5 Tryz.f5 rfl rfl rfl rfl rfl rfl rfl ⟨rfl,rfl,rfl,rfl,rfl⟩ rfl rfl rfl rfl rfl (by kernel_rfl) Tryz.func5 (by kernel_rfl)
  (of_decide_eq_true (by kernel_rfl)) (by unfold Func.isWrapper; first | (rw [if_pos (by decide +kernel)]; kernel_rfl) | (rw [if_neg (by decide +kernel)]; exact ⟨rfl,rfl⟩))
  (fun os started H enc _=>zf0 os started H enc)
end Go.Proofs.YtggblkbecekbdaaGreat
end
