/- Part of the proof: FA3, DA4, FA4, Flow, DN1, FN1, DRf, FRf, DB9. -/
import Derived.Test.YtapeenpimcffpaaZG5
import Derived.Test.YtapeenpimcffpaaZG2
import Derived.Test.YtapeenpimcffpaaZG1
import Derived.Laws.Externs
set_option linter.unusedVariables false
set_option linter.all false
set_option linter.unusedSimpArgs false
set_option maxRecDepth 1000000
section
namespace Go.Proofs.Ytapeenpimcffpaa
open Go Go.RowKit Go.Ql Go.Vc
def Copy_E0 (I : Inst) (ty0 ty1 : TypeId) : Prop :=
   I.sup.length <= (1000000000:Nat)/\I.arcs.length <= (1000000000:Nat)/\((True/\True/\True)/\True)/\I.sup = I.sup/\I.arcs = I.arcs/\True
theorem Copy_q (I:Inst) (ty0 ty1:TypeId):Copy_E0 I ty0 ty1 = z25 TT Copy_g (Copy_I I) (Copy_an I) Try.f13 [.agg [.row 0,.row 1]] [(0,.row false ty0 (.ints .i64 I.sup)),(1,.row false ty1 (.arcs I.arcs))] (Copy_r I):=by kernel_rfl
theorem Copy_E (I:Inst) (ty0 ty1:TypeId) (hp:I.sup.length <= 1000000000/\I.arcs.length <= 1000000000):FVc TT Copy_g (Copy_I I) (Copy_an I) Try.f13 [.agg [.row 0,.row 1]] [(0,.row false ty0 (.ints .i64 I.sup)),(1,.row false ty1 (.arcs I.arcs))] (Copy_r I):=by
 refine FVc.of (Copy_E0 I ty0 ty1) (Copy_q I ty0 ty1) ?_
 unfold Copy_E0
 simp [hp]
theorem Copy_ok:SpecOk Try.prog Copy_n true (z03 true Copy_fs) :=
 z09 z0n (show z18 Try.prog Copy_g from z00 takeI_ok (z00 takeA_ok (z04))) (by kernel_rfl) mixedOrders Try.func13 rfl rfl (by kernel_rfl) (n:=1) (by decide +kernel) (I:=Copy_IA) (fun _ _=>z06) (A:=Copy_A)
  (fun args h r hr=>by
   unfold Copy_fs at hr
   split at hr
   ·rename_i ty0 I_s ty1 I_a; cases hr; refine ⟨rfl,fun hp=>?_⟩; have hE:=Copy_E ⟨I_s,I_a⟩ ty0 ty1 hp; exact hE
   ·cases hr)
abbrev zba (g':Nat × List Arc) (c:List Int) (many:Int):=(g'.fst <= (18:Nat)/\(g'.snd.length <= g'.fst/\(g'.snd ++ z3e c many ((18:Nat) - g'.fst) ((4:Nat) * g'.fst) = z1e c many)))
abbrev zbb (many:Int) (g:Nat × List Arc) (g':Nat × List Arc):=(True/\(many = many/\(True/\(IntKind.i64.wrap ((4:Int) * (↑g.1:Int) + (4:Int)) = (4:Int) * (↑g'.1:Int)/\True))))
abbrev Arcs_a2 (x_2:Int) (x_4:Int):=(IntKind.i64.wrap (x_2.tmod (3:Int)) + IntKind.i64.wrap ((IntKind.u8.wrap (x_4.tdiv (3:Int))).tmod (6:Int)))
abbrev zbc (x_1:Int):=(IntKind.i64.wrap (IntKind.u8.wrap (x_1.tdiv (16:Int))))
abbrev zbd (g:Nat × List Arc):=(IntKind.i64.wrap ((4:Int) * (↑g.1:Int) + (1:Int)))
abbrev Arcs_a5 (g:Nat × List Arc) (c:List Int):=((0:Int) <= IntKind.i64.wrap ((4:Int) * (↑g.1:Int) + (1:Int))/\(IntKind.i64.wrap ((4:Int) * (↑g.1:Int) + (1:Int)) < (↑c.length:Int)))
def Arcs_E0 (c : List Int) (many : Int) (ty0 : TypeId) : Prop :=
   ∃ (g0:Nat × List Arc),((g0.fst <= (18:Nat)/\(g0.snd.length <= g0.fst/\(g0.snd ++ z3e c many ((18:Nat) - g0.fst) ((4:Nat) * g0.fst) = z1e c many)))/\((True/\(many = many/\(True/\((0:Int) = (4:Int) * (↑g0.1:Int)/\True))))/\([] = g0.2/\(c = c/\True))))/\∀ (g:Nat × List Arc),g.fst <= (18:Nat)/\g.snd.length <= g.fst/\g.snd ++ z3e c many ((18:Nat) - g.fst) ((4:Nat) * g.fst) = z1e c many->(decide (IntKind.i64.wrap ((4:Int) * (↑g.1:Int) + (3:Int)) < (↑c.length:Int)) = true->(decide ((4:Int) * (↑g.1:Int) < 72) = true->((0:Int) <= (4:Int) * (↑g.1:Int)/\((4:Int) * (↑g.1:Int) < ↑c.length))/\((4:Int) * (↑g.1:Int)).toNat < c.length/\∀ (x:Int),c[((4:Int) * (↑g.1:Int)).toNat]? = some x->many ≠ (0:Int)/\((0:Int) <= (4:Int) * (↑g.1:Int)/\((4:Int) * (↑g.1:Int) < ↑c.length))/\((4:Int) * (↑g.1:Int)).toNat < c.length/\∀ (x_1:Int),c[((4:Int) * (↑g.1:Int)).toNat]? = some x_1->(16:Int) ≠ (0:Int)/\many ≠ (0:Int)/\(Arcs_a5 g c)/\(zbd g).toNat < c.length/\∀ (x_2:Int),c[(zbd g).toNat]? = some x_2->(3:Int) ≠ (0:Int)/\((0:Int) <= IntKind.i64.wrap ((4:Int) * (↑g.1:Int) + (2:Int))/\(IntKind.i64.wrap ((4:Int) * (↑g.1:Int) + (2:Int)) < (↑c.length:Int)))/\(IntKind.i64.wrap ((4:Int) * (↑g.1:Int) + (2:Int))).toNat < c.length/\∀ (x_3:Int),c[(IntKind.i64.wrap ((4:Int) * (↑g.1:Int) + (2:Int))).toNat]? = some x_3->(21:Int) ≠ (0:Int)/\(Arcs_a5 g c)/\(zbd g).toNat < c.length/\∀ (x_4:Int),c[(zbd g).toNat]? = some x_4->(3:Int) ≠ (0:Int)/\(6:Int) ≠ (0:Int)/\((0:Int) <= IntKind.i64.wrap ((4:Int) * (↑g.1:Int) + (3:Int))/\(IntKind.i64.wrap ((4:Int) * (↑g.1:Int) + (3:Int)) < (↑c.length:Int)))/\(IntKind.i64.wrap ((4:Int) * (↑g.1:Int) + (3:Int))).toNat < c.length/\∀ (x_5:Int),c[(IntKind.i64.wrap ((4:Int) * (↑g.1:Int) + (3:Int))).toNat]? = some x_5->(8:Int) ≠ (0:Int)/\((x_5.tmod (8:Int) == (0:Int)) = true->g.2.length + (1:Nat) <= 1000000000/\(∃ (g':Nat × List Arc),(zba g' c many)/\((18:Nat) - g'.fst < (18:Nat) - g.fst/\((zbb many g g')/\(g.2 ++ [{ src:=(IntKind.i64.wrap x).tmod many,dst:=(zbc x_1).tmod many,low:=IntKind.i64.wrap (x_2.tmod (3:Int)),cap:=(4611686018427387904:Int),cost:=IntKind.i64.wrap (IntKind.i64.wrap (x_3.tmod (21:Int)) - (8:Int)):Arc }] = g'.2/\(c = c/\True))))))/\((x_5.tmod (8:Int) == (0:Int)) = false->((x_5.tmod (8:Int) == (1:Int)) = true->g.2.length + (1:Nat) <= 1000000000/\(∃ (g':Nat × List Arc),(zba g' c many)/\((18:Nat) - g'.fst < (18:Nat) - g.fst/\((zbb many g g')/\(g.2 ++ [{ src:=(IntKind.i64.wrap x).tmod many,dst:=(zbc x_1).tmod many,low:=(0:Int),cap:=IntKind.i64.wrap (Arcs_a2 x_2 x_4),cost:=IntKind.i64.wrap (IntKind.i64.wrap (x_3.tmod (21:Int)) - (8:Int)):Arc }] = g'.2/\(c = c/\True))))))/\((x_5.tmod (8:Int) == (1:Int)) = false->((x_5.tmod (8:Int) == (2:Int)) = true->g.2.length + (1:Nat) <= 1000000000/\(∃ (g':Nat × List Arc),(zba g' c many)/\((18:Nat) - g'.fst < (18:Nat) - g.fst/\((zbb many g g')/\(g.2 ++ [{ src:=(IntKind.i64.wrap x).tmod many,dst:=(zbc x_1).tmod many,low:=IntKind.i64.wrap (x_2.tmod (3:Int)),cap:=IntKind.i64.wrap (Arcs_a2 x_2 x_4),cost:=(0:Int):Arc }] = g'.2/\(c = c/\True))))))/\((x_5.tmod (8:Int) == (2:Int)) = false->g.2.length + (1:Nat) <= 1000000000/\(∃ (g':Nat × List Arc),(zba g' c many)/\((18:Nat) - g'.fst < (18:Nat) - g.fst/\((zbb many g g')/\(g.2 ++ [{ src:=(IntKind.i64.wrap x).tmod many,dst:=(zbc x_1).tmod many,low:=IntKind.i64.wrap (x_2.tmod (3:Int)),cap:=IntKind.i64.wrap (Arcs_a2 x_2 x_4),cost:=IntKind.i64.wrap (IntKind.i64.wrap (x_3.tmod (21:Int)) - (8:Int)):Arc }] = g'.2/\(c = c/\True)))))))))/\(decide ((4:Int) * (↑g.1:Int) < 72) = false->(True/\True)/\(g.2 = z1e c many/\True)))/\(decide (IntKind.i64.wrap ((4:Int) * (↑g.1:Int) + (3:Int)) < (↑c.length:Int)) = false->(True/\True)/\(g.2 = z1e c many/\True))
theorem Arcs_q (c:List Int) (many:Int) (ty0:TypeId):Arcs_E0 c many ty0 = z25 TT Arcs_g (Arcs_I c many) (Arcs_an c many) Try.f23 [.row 0,.int .i64 many] [(0,.row false ty0 (.ints .u8 c))] (Arcs_r c many):=by kernel_rfl
theorem Arcs_E (c:List Int) (many:Int) (ty0:TypeId) (hp:Bytes c/\1 <= many/\many <= 1000):FVc TT Arcs_g (Arcs_I c many) (Arcs_an c many) Try.f23 [.row 0,.int .i64 many] [(0,.row false ty0 (.ints .u8 c))] (Arcs_r c many):=by
 refine FVc.of (Arcs_E0 c many ty0) (Arcs_q c many ty0) ?_
 unfold Arcs_E0
 delta Arcs_a5 zbd zbc Arcs_a2 zbb zba
 simp only [eq_self,decide_eq_true_eq,decide_eq_false_iff_not,and_true,true_and,bne_iff_ne,ne_eq,bne_eq_false_iff_eq,Int.toNat_natCast,Bool.not_eq_true',Bool.not_eq_false',beq_iff_eq,beq_eq_false_iff_ne]
 obtain ⟨hb,hm1,hm2⟩:=hp
 refine ⟨(0,[]),by simp [z1e],fun g hg=>?_⟩
 obtain ⟨k,l⟩:=g
 dsimp only at hg ⊢
 obtain ⟨g1,g2,g3⟩:=hg
 have e0:∀ j:Int,0 <= j->j <= 3->IntKind.i64.wrap (4 * (k:Int) + j) = 4 * (k:Int) + j:=fun j h1 h2=>w64 (by omega) (by omega)
 rw [e0 3 (by omega) (by omega),e0 1 (by omega) (by omega),e0 2 (by omega) (by omega)]
 have t0:(4 * (k:Int)).toNat = 4 * k:=by omega
 have t1:(4 * (k:Int) + 1).toNat = 4 * k + 1:=by omega
 have t2:(4 * (k:Int) + 2).toNat = 4 * k + 2:=by omega
 have t3:(4 * (k:Int) + 3).toNat = 4 * k + 3:=by omega
 rw [t0,t1,t2,t3]
 have hend:(18 <= k ∨ c.length <= 4 * k + 3)->l = z1e c many:=fun h=>by
  rw [<- g3]
  by_cases h18:18 - k = 0
  ·rw [h18]; simp [z3e]
  ·rw [show 18 - k = (17 - k) + 1 by omega,z3e,if_neg (by omega)]; simp
 refine ⟨fun h1=>⟨fun h2=>⟨by omega,by omega,fun x hx=>⟨by omega,by omega,by omega,fun x1 hx1=>⟨by omega,by omega,by omega,by omega,fun x2 hx2=>⟨by omega,by omega,by omega,fun x3 hx3=>⟨by omega,by omega,by omega,fun x4 hx4=>⟨by omega,by omega,by omega,by omega,fun x5 hx5=>?_⟩⟩⟩⟩⟩⟩,fun h2=>hend (by omega)⟩,fun h1=>hend (by omega)⟩
 rw [hx] at hx1
 rw [hx2] at hx4
 cases hx1
 cases hx4
 have bx:=hb x (List.mem_of_getElem? hx)
 have bx2:=hb x2 (List.mem_of_getElem? hx2)
 have bx3:=hb x3 (List.mem_of_getElem? hx3)
 have bx5:=hb x5 (List.mem_of_getElem? hx5)
 have hstep:l ++ [arcOf x x2 x3 x5 many] ++ z3e c many (18 - (k + 1)) (4 * (k + 1)) = z1e c many:=by
  rw [<- g3,show 18 - k = (18 - (k + 1)) + 1 by omega,z3e,if_pos (by omega)]
  simp only [List.getD,hx,hx2,hx3,hx5,Option.getD_some,List.append_assoc,List.cons_append,List.nil_append]
  rw [show 4 * k + 4 = 4 * (k + 1) by omega]
 have r1:x5.tmod 8 = x5 % 8:=z2k bx5.1
 have r2:IntKind.i64.wrap x = x:=w64 (by omega) (by omega)
 have r3:x.tmod many = x % many:=z2k bx.1
 have r4:x.tdiv 16 = x / 16:=tdiv_pos bx.1
 have r5:IntKind.u8.wrap (x / 16) = x / 16:=wu8 (by omega) (by omega)
 have r6:IntKind.i64.wrap (x / 16) = x / 16:=w64 (by omega) (by omega)
 have r7:(x / 16).tmod many = x / 16 % many:=z2k (by omega)
 have r8:x2.tmod 3 = x2 % 3:=z2k bx2.1
 have r9:IntKind.i64.wrap (x2 % 3) = x2 % 3:=w64 (by omega) (by omega)
 have r10:x3.tmod 21 = x3 % 21:=z2k bx3.1
 have r11:IntKind.i64.wrap (x3 % 21) = x3 % 21:=w64 (by omega) (by omega)
 have r12:IntKind.i64.wrap (x3 % 21 - 8) = x3 % 21 - 8:=w64 (by omega) (by omega)
 have r13:x2.tdiv 3 = x2 / 3:=tdiv_pos bx2.1
 have r14:IntKind.u8.wrap (x2 / 3) = x2 / 3:=wu8 (by omega) (by omega)
 have r15:(x2 / 3).tmod 6 = x2 / 3 % 6:=z2k (by omega)
 have r16:IntKind.i64.wrap (x2 / 3 % 6) = x2 / 3 % 6:=w64 (by omega) (by omega)
 have r17:IntKind.i64.wrap (x2 % 3 + x2 / 3 % 6) = x2 % 3 + x2 / 3 % 6:=w64 (by omega) (by omega)
 simp only [r1,r2,r3,r4,r5,r6,r7,r8,r9,r10,r11,r12,r13,r14,r15,r16,r17,List.nil_append]
 have hk4:IntKind.i64.wrap (4 * (k:Int) + 4) = 4 * ((k + 1:Nat):Int):=by rw [w64 (by omega) (by omega)]; omega
 have hlen:l.length + 1 <= 1000000000:=by omega
 refine ⟨by omega,fun q0=>?_,fun q0=>⟨fun q1=>?_,fun q1=>⟨fun q2=>?_,fun q2=>?_⟩⟩⟩
 all_goals
  refine ⟨by simp; omega,(k + 1,l ++ [arcOf x x2 x3 x5 many]),⟨by dsimp only; omega,by simp; omega,hstep⟩,by dsimp only; omega,⟨hk4,?_⟩⟩
  simp [arcOf, *]
theorem Arcs_ok:SpecOk Try.prog Arcs_n true (z03 true Arcs_fs) :=
 z09 z0n (show z18 Try.prog Arcs_g from z04) (by kernel_rfl) mixedOrders Try.func23 rfl rfl (by kernel_rfl) (n:=2) (by decide +kernel) (I:=Arcs_IA) (fun _ _=>z06) (A:=Arcs_A)
  (fun args h r hr=>by
   unfold Arcs_fs at hr
   split at hr
   ·rename_i many ty0 c; cases hr; refine ⟨rfl,fun hp=>?_⟩; have hE:=Arcs_E c many ty0 hp; exact hE
   ·cases hr)
end Go.Proofs.Ytapeenpimcffpaa
end
section
namespace Go.Proofs.Ytapeenpimcffpaa
open Go Go.RowKit Go.Ql Go.Vc
def Inst_r (c:List Int) (d:List Int):FRes:={ pre:=Bytes c/\Bytes d/\c.length <= maxLen/\d.length <= maxLen,res:=.agg [.row 2,.row 3],rows:=[.row 2 (.ints .i64 (z0o c d).sup),.row 40 (.arcs (z0o c d).arcs)],eff:=[] }
def Inst_fs:FS:=fun args h=>match args,h with
 | [.row 0,.row 1],[(0,.row false ty0 (.ints .u8 c)),(1,.row false ty1 (.ints .u8 d))]=>some (Inst_r c d)
 | _,_=>none
def Inst_an (c:List Int) (d:List Int):List (Nat × Ann):=[(1000004,{ G:=Unit,inv:=fun _=>⟨[(0,.row 0),(1,.row 1),(4,.ptr 4 0 0 0),(5,.int .i64 (nOf d))],[(4,.box true 30 [.row 2,.row 3]),(2,.row true 2 (.ints .i64 [])),(3,.row true 40 (.arcs [])),(0,.row false 0 (.ints .u8 c)),(1,.row false 0 (.ints .u8 d))],5⟩,rel:=fun _ _=>True,meas:=fun _=>0 }),
 (1000005,{ G:=Unit,inv:=fun _=>⟨[(1,.row 1),(4,.ptr 4 0 0 0),(5,.int .i64 (↑(nOf d):Int)),(6,.ptr 11 0 0 0)],[(11,.box true 30 [.row 5,.row 6]),(6,.row true 40 (.arcs (z1e c (↑(nOf d):Int)))),(5,.row true 2 (.ints .i64 (List.replicate (↑(nOf d):Int).toNat (0:Int)))),(4,.box true 30 [.row 2,.row 3]),(2,.row true 2 (.ints .i64 [])),(3,.row true 40 (.arcs [])),(1,.row false 0 (.ints .u8 d))],12⟩,rel:=fun _ _=>True,meas:=fun _=>0 }),
 (6,{ G:=(Nat) × (List Int),inv:=fun ⟨k,s⟩=>⟨[(1,.row 1),(4,.ptr 4 0 0 0),(5,.int .i64 (↑(nOf d):Int)),(6,.ptr 11 0 0 0),(7,.int .i64 k)],[(11,.box true 30 [.row 5,.row 6]),(6,.row true 40 (.arcs (z1e c (↑(nOf d):Int)))),(5,.row true 2 (.ints .i64 s)),(4,.box true 30 [.row 2,.row 3]),(2,.row true 2 (.ints .i64 [])),(3,.row true 40 (.arcs [])),(1,.row false 0 (.ints .u8 d))],12⟩,rel:=fun ⟨k0,s0⟩ ⟨k,s⟩=>k <= (z1e c (nOf d)).length/\s.length = nOf d/\Within (10 * k) s/\supGo d ((z1e c (nOf d)).drop k) k s = sup1 c d,meas:=fun ⟨k,s⟩=>(z1e c (nOf d)).length - k })]
def Inst_A:List SV->z0g->List (Nat × Ann):=fun args h=>match args,h with
 | [.row 0,.row 1],[(0,.row false ty0 (.ints .u8 c)),(1,.row false ty1 (.ints .u8 d))]=>Inst_an c d
 | _,_=>[]
def Inst_g:z0c:=[(Arcs_n,(true,z03 true Arcs_fs))]
abbrev Inst_n:Nat:=11
def Inst_I (c:List Int) (d:List Int):List (Nat × z0a):=[]
def Inst_IA:List SV->z0g->List (Nat × z0a):=fun _ _=>[]
end Go.Proofs.Ytapeenpimcffpaa
end
section
namespace Go.Proofs.Ytapeenpimcffpaa
open Go Go.RowKit Go.Ql Go.Vc
theorem set_addAt {s:List Int} {k:Nat} {v x:Int} (h:s[k]? = some v):s.set k (v + x) = addAt s k x:=by
 unfold addAt; simp [List.getD,h]
theorem instStep {m:Nat} {s:List Int} {i j:Nat} {u y z:Int} (hw:Within (10 * m) s) (hm:m <= 18) (hu:0 <= u) (hu5:u <= 5) (hy:s[i]? = some y)
  (hz:(s.set i (IntKind.i64.wrap (y + u)))[j]? = some z) :
  (s.set i (IntKind.i64.wrap (y + u))).set j (IntKind.i64.wrap (z - u)) = addAt (addAt s i u) j (-u)/\Within (10 * (m + 1:Nat)) (addAt (addAt s i u) j (-u)):=by
 have h1:=hw y (List.mem_of_getElem? hy)
 rw [w64 (by omega) (by omega),set_addAt hy] at hz ⊢
 have hw1:=hw.addAt (by omega) i (x:=u) (y:=5) (by omega) (by omega)
 have h2:=hw1 z (List.mem_of_getElem? hz)
 rw [w64 (by omega) (by omega),show z - u = z + -u by omega,set_addAt hz]
 exact ⟨rfl,(hw1.addAt (by omega) j (x:=-u) (y:=5) (by omega) (by omega)).more (by omega)⟩
abbrev z6z (d:List Int) (c:List Int):=(∃ (g:Unit),True/\((True/\(0 = 0/\((↑(nOf d):Int) = ↑(nOf d)/\(0 = 0/\True))))/\((True/\(True/\True))/\(z1e c (↑(nOf d):Int) = z1e c (↑(nOf d):Int)/\(List.replicate (↑(nOf d):Int).toNat (0:Int) = List.replicate (↑(nOf d):Int).toNat (0:Int)/\((True/\(True/\True))/\(z5t Int/\(z5t Arc/\(d = d/\True)))))))))
abbrev z70 (g:Nat × List Int) (x:Arc) (x_2:Int) (x_1:Int):=(g.2.set x.src.toNat (IntKind.i64.wrap (x_2 + min (IntKind.i64.wrap (x.low + IntKind.i64.wrap (x_1.tmod (4:Int)))) x.cap)))
abbrev z71 (g:Nat × List Int) (x_1:Int) (x:Int):=(g.2.set (Int.toNat (0:Int)) (IntKind.i64.wrap (x_1 + IntKind.i64.wrap (x.tmod (3:Int)))))
abbrev z8t (d:List Int):=((↑(nOf d):Int) = ↑(nOf d)/\((0:Int) <= ↑(nOf d)/\((↑(nOf d):Int) <= 1000000000)))
abbrev z8u (c:List Int) (d:List Int):=(Bytes c/\((1:Int) <= ↑(nOf d)/\((↑(nOf d):Int) <= 1000)))
abbrev z72 (g:Nat × List Int) (x:Arc) (x_1:Int):=(g.2.set x.src.toNat (IntKind.i64.wrap (x_1 + x.low)))
abbrev Inst_a6 (g':Nat × List Int) (c:List Int) (d:List Int):=(g'.fst <= (z1e c (↑(nOf d):Int)).length/\(g'.snd.length = nOf d/\(Within ((10:Int) * (↑g'.fst:Int)) g'.snd/\(supGo d (List.drop g'.fst (z1e c (↑(nOf d):Int))) g'.fst g'.snd = sup1 c d))))
abbrev Inst_a7 (d:List Int):=((True/\(True/\True))/\(z5t Int/\(z5t Arc/\(d = d/\True))))
abbrev zbs (d:List Int):=(IntKind.i64.wrap ((↑(nOf d):Int) - (1:Int)))
def Inst_E0 (c : List Int) (d : List Int) (ty0 ty1 : TypeId) : Prop :=
   ((decide ((↑d.length:Int) > 0) = true->((0:Int) <= 0/\((0:Int) < ↑d.length))/\(Int.toNat (0:Int) < d.length/\(∀ (x:Int),d[Int.toNat (0:Int)]? = some x->(7:Int) ≠ (0:Int)/\(∃ (g:Unit),True/\((True/\(True/\(0 = 0/\(IntKind.i64.wrap ((1:Int) + IntKind.i64.wrap (x.tmod (7:Int))) = (↑(nOf d):Int)/\True))))/\((True/\(True/\True))/\(z5t Int/\(z5t Arc/\(c = c/\(d = d/\True))))))))))/\(decide ((↑d.length:Int) > 0) = false->∃ (g:Unit),True/\((True/\(True/\(0 = 0/\((1:Int) = ↑(nOf d)/\True))))/\((True/\(True/\True))/\(z5t Int/\(z5t Arc/\(c = c/\(d = d/\True))))))))/\∀ (g:Unit),True->(((z8t d)/\(((z8u c d)/\(z6z d c))/\((z8u c d)/\(z6z d c))))/\(((z8u c d)/\(((z8t d)/\(z6z d c))/\((z8t d)/\(z6z d c))))/\(((z8t d)/\((z8u c d)/\(z6z d c)))/\((z8u c d)/\((z8t d)/\(z6z d c))))))/\∀ (g:Unit),True->∃ (g0:Nat × List Int),((g0.fst <= (z1e c (↑(nOf d):Int)).length/\(g0.snd.length = nOf d/\(Within ((10:Int) * (↑g0.fst:Int)) g0.snd/\(supGo d (List.drop g0.fst (z1e c (↑(nOf d):Int))) g0.fst g0.snd = sup1 c d))))/\((True/\(0 = 0/\((↑(nOf d):Int) = ↑(nOf d)/\(0 = 0/\((0:Int) = ↑g0.1/\True)))))/\((True/\(True/\True))/\(z1e c (↑(nOf d):Int) = z1e c (↑(nOf d):Int)/\(List.replicate (↑(nOf d):Int).toNat (0:Int) = g0.2/\(Inst_a7 d))))))/\∀ (g:Nat × List Int),g.fst <= (z1e c (↑(nOf d):Int)).length/\g.snd.length = nOf d/\Within ((10:Int) * (↑g.fst:Int)) g.snd/\supGo d (List.drop g.fst (z1e c (↑(nOf d):Int))) g.fst g.snd = sup1 c d->(decide ((↑g.1:Int) < ↑(z1e c (↑(nOf d):Int)).length) = true->((0:Int) <= ↑g.1/\((↑g.1:Int) < ↑(z1e c (↑(nOf d):Int)).length))/\(↑g.1:Int).toNat < (z1e c (↑(nOf d):Int)).length/\∀ (x:Arc),(z1e c (↑(nOf d):Int))[(↑g.1:Int).toNat]? = some x->(decide (IntKind.i64.wrap ((↑g.1:Int) + (1:Int)) < (↑d.length:Int)) = true->((0:Int) <= IntKind.i64.wrap ((↑g.1:Int) + (1:Int))/\(IntKind.i64.wrap ((↑g.1:Int) + (1:Int)) < (↑d.length:Int)))/\((IntKind.i64.wrap ((↑g.1:Int) + (1:Int))).toNat < d.length/\(∀ (x_1:Int),d[(IntKind.i64.wrap ((↑g.1:Int) + (1:Int))).toNat]? = some x_1->(4:Int) ≠ (0:Int)/\(((0:Int) <= x.src/\(x.src < (↑g.2.length:Int)))/\(x.src.toNat < g.2.length/\(∀ (x_2:Int),g.2[x.src.toNat]? = some x_2->((0:Int) <= x.src/\(x.src < (↑g.2.length:Int)))/\(x.src.toNat < g.2.length/\(((0:Int) <= x.dst/\(x.dst < (↑(z70 g x x_2 x_1).length:Int)))/\(x.dst.toNat < (z70 g x x_2 x_1).length/\(∀ (x_3:Int),(z70 g x x_2 x_1)[x.dst.toNat]? = some x_3->((0:Int) <= x.dst/\(x.dst < (↑(z70 g x x_2 x_1).length:Int)))/\(x.dst.toNat < (z70 g x x_2 x_1).length/\(∃ (g':Nat × List Int),(Inst_a6 g' c d)/\((z1e c (↑(nOf d):Int)).length - g'.fst < (z1e c (↑(nOf d):Int)).length - g.fst/\((True/\(0 = 0/\((↑(nOf d):Int) = ↑(nOf d)/\(0 = 0/\(IntKind.i64.wrap ((↑g.1:Int) + (1:Int)) = (↑g'.1:Int)/\True)))))/\((True/\(True/\True))/\(z1e c (↑(nOf d):Int) = z1e c (↑(nOf d):Int)/\((z70 g x x_2 x_1).set x.dst.toNat (IntKind.i64.wrap (x_3 - min (IntKind.i64.wrap (x.low + IntKind.i64.wrap (x_1.tmod (4:Int)))) x.cap)) = g'.2/\(Inst_a7 d))))))))))))))))))/\(decide (IntKind.i64.wrap ((↑g.1:Int) + (1:Int)) < (↑d.length:Int)) = false->((0:Int) <= x.src/\(x.src < (↑g.2.length:Int)))/\(x.src.toNat < g.2.length/\(∀ (x_1:Int),g.2[x.src.toNat]? = some x_1->((0:Int) <= x.src/\(x.src < (↑g.2.length:Int)))/\(x.src.toNat < g.2.length/\(((0:Int) <= x.dst/\(x.dst < (↑(z72 g x x_1).length:Int)))/\(x.dst.toNat < (z72 g x x_1).length/\(∀ (x_2:Int),(z72 g x x_1)[x.dst.toNat]? = some x_2->((0:Int) <= x.dst/\(x.dst < (↑(z72 g x x_1).length:Int)))/\(x.dst.toNat < (z72 g x x_1).length/\(∃ (g':Nat × List Int),(Inst_a6 g' c d)/\((z1e c (↑(nOf d):Int)).length - g'.fst < (z1e c (↑(nOf d):Int)).length - g.fst/\((True/\(0 = 0/\((↑(nOf d):Int) = ↑(nOf d)/\(0 = 0/\(IntKind.i64.wrap ((↑g.1:Int) + (1:Int)) = (↑g'.1:Int)/\True)))))/\((True/\(True/\True))/\(z1e c (↑(nOf d):Int) = z1e c (↑(nOf d):Int)/\((z72 g x x_1).set x.dst.toNat (IntKind.i64.wrap (x_2 - x.low)) = g'.2/\(Inst_a7 d))))))))))))))))/\(decide ((↑g.1:Int) < ↑(z1e c (↑(nOf d):Int)).length) = false->(decide ((↑d.length:Int) > 1) = true->((0:Int) <= IntKind.i64.wrap ((↑d.length:Int) - (1:Int))/\(IntKind.i64.wrap ((↑d.length:Int) - (1:Int)) < (↑d.length:Int)))/\((IntKind.i64.wrap ((↑d.length:Int) - (1:Int))).toNat < d.length/\(∀ (x:Int),d[(IntKind.i64.wrap ((↑d.length:Int) - (1:Int))).toNat]? = some x->(5:Int) ≠ (0:Int)/\(((x.tmod (5:Int) == (0:Int)) = true->((0:Int) <= 1/\((1:Int) < ↑d.length))/\(Int.toNat (1:Int) < d.length/\(∀ (x:Int),d[Int.toNat (1:Int)]? = some x->(3:Int) ≠ (0:Int)/\(((0:Int) <= 0/\((0:Int) < ↑g.2.length))/\(Int.toNat (0:Int) < g.2.length/\(∀ (x_1:Int),g.2[Int.toNat (0:Int)]? = some x_1->((0:Int) <= 0/\((0:Int) < ↑g.2.length))/\(Int.toNat (0:Int) < g.2.length/\(((0:Int) <= IntKind.i64.wrap ((↑(nOf d):Int) - (1:Int))/\(IntKind.i64.wrap ((↑(nOf d):Int) - (1:Int)) < (↑(z71 g x_1 x).length:Int)))/\((zbs d).toNat < (z71 g x_1 x).length/\(∀ (x_2:Int),(z71 g x_1 x)[(zbs d).toNat]? = some x_2->((0:Int) <= IntKind.i64.wrap ((↑(nOf d):Int) - (1:Int))/\(IntKind.i64.wrap ((↑(nOf d):Int) - (1:Int)) < (↑(z71 g x_1 x).length:Int)))/\((zbs d).toNat < (z71 g x_1 x).length/\(((True/\(True/\True))/\True)/\((z71 g x_1 x).set (zbs d).toNat (IntKind.i64.wrap (x_2 - IntKind.i64.wrap (x.tmod (3:Int)))) = (z0o c d).sup/\(z1e c (↑(nOf d):Int) = (z0o c d).arcs/\True))))))))))))))/\((x.tmod (5:Int) == (0:Int)) = false->((True/\(True/\True))/\True)/\(g.2 = (z0o c d).sup/\(z1e c (↑(nOf d):Int) = (z0o c d).arcs/\True)))))))/\(decide ((↑d.length:Int) > 1) = false->((True/\(True/\True))/\True)/\(g.2 = (z0o c d).sup/\(z1e c (↑(nOf d):Int) = (z0o c d).arcs/\True))))
theorem Inst_q (c:List Int) (d:List Int) (ty0 ty1:TypeId):Inst_E0 c d ty0 ty1 = z25 TT Inst_g (Inst_I c d) (Inst_an c d) Try.f11 [.row 0,.row 1] [(0,.row false ty0 (.ints .u8 c)),(1,.row false ty1 (.ints .u8 d))] (Inst_r c d):=by kernel_rfl
theorem Inst_E (c:List Int) (d:List Int) (ty0 ty1:TypeId) (hp:Bytes c/\Bytes d/\c.length <= maxLen/\d.length <= maxLen):FVc TT Inst_g (Inst_I c d) (Inst_an c d) Try.f11 [.row 0,.row 1] [(0,.row false ty0 (.ints .u8 c)),(1,.row false ty1 (.ints .u8 d))] (Inst_r c d):=by
 refine FVc.of (Inst_E0 c d ty0 ty1) (Inst_q c d ty0 ty1) ?_
 unfold Inst_E0
 delta zbs Inst_a7 Inst_a6 z72 z8u z8t z71 z70 z6z
 simp only [eq_self,exists_const,forall_const,decide_eq_true_eq,decide_eq_false_iff_not,and_true,true_and,bne_iff_ne,ne_eq,bne_eq_false_iff_eq,Int.toNat_natCast,Bool.not_eq_true',Bool.not_eq_false',beq_iff_eq,beq_eq_false_iff_ne]
 simp only [z08,and_true,true_and]
 obtain ⟨p1,p2,p3,p4⟩:=hp
 have hS:=nOf_pos d
 have hL:=nOf_le d
 have hA:=arcsF_len c (nOf d)
 have hN:=arcsF_nice c (nOf d) (by omega)
 unfold maxLen at *
 have gz:∀ {l:List Int} {k:Nat} {v:Int},l[k]? = some v->l.getD k 0 = v:=fun h=>by simp [List.getD,h]
 refine ⟨⟨fun h=>⟨by omega,by simp; omega,fun x hx=>⟨by decide,?_⟩⟩,fun h=>?_⟩,by simp only [p1,true_and]; omega,(0,List.replicate (nOf d) 0),⟨⟨by simp,by simp,fun x hx=>by simp [List.mem_replicate] at hx; simp [hx],by simp [sup1]⟩,rfl,rfl⟩,fun g hg=>?_⟩
 ·have hb:=p2 x (List.mem_of_getElem? hx)
  rw [z2k hb.1,w64 (x:=x % 7) (by omega) (by omega),w64 (by omega) (by omega)]
  unfold nOf
  have hx':=gz hx
  simp only [Int.toNat_zero] at hx'
  rw [if_pos (by omega),hx']
  omega
 ·unfold nOf; rw [if_neg (by omega)]; rfl
 obtain ⟨k,s⟩:=g
 dsimp only at hg ⊢
 obtain ⟨g1,g2,g3,g4⟩:=hg
 refine ⟨fun h1=>⟨by omega,by omega,fun a ha=>?_⟩,fun h1=>?_⟩
 ·have hn:=hN a (List.mem_of_getElem? ha)
  have n1:=hn.s0; have n2:=hn.s1; have n3:=hn.d0; have n4:=hn.d1; have n5:=hn.l0; have n6:=hn.l1; have n7:=hn.c0
  have hu:=useOf_ok (d:=d) (k:=k) hn
  rw [z32 ha,supGo] at g4
  have e3:(addAt (addAt s a.src.toNat (z7m d k a)) a.dst.toNat (-(z7m d k a))).length = nOf d:=by rw [z3n,z3n]; exact g2
  have hk:IntKind.i64.wrap ((k:Int) + 1) = ((k + 1:Nat):Int):=by rw [w64 (by omega) (by omega)]; omega
  have hk18:k <= 18:=by omega
  simp only [hk,Int.toNat_natCast,List.length_set]
  refine ⟨fun h2=>⟨by omega,by omega,fun b hb=>⟨by decide,by omega,by omega,fun y hy=>⟨by omega,by omega,by omega,by omega,fun z hz=>⟨by omega,by omega,?_⟩⟩⟩⟩,fun h2=>⟨by omega,by omega,fun y hy=>⟨by omega,by omega,by omega,by omega,fun z hz=>⟨by omega,by omega,?_⟩⟩⟩⟩
  ·have hbb:=p2 b (List.mem_of_getElem? hb)
   have hmin:min (IntKind.i64.wrap (a.low + IntKind.i64.wrap (b.tmod 4))) a.cap = z7m d k a:=by
    rw [z2k hbb.1,w64 (x:=b % 4) (by omega) (by omega),w64 (by omega) (by omega)]
    unfold z7m; rw [if_pos (by omega),gz hb]
   rw [hmin] at hz ⊢
   obtain ⟨e1,e2⟩:=instStep g3 hk18 hu.1 hu.2 hy hz
   rw [e1]
   exact ⟨(k + 1,addAt (addAt s a.src.toNat (z7m d k a)) a.dst.toNat (-(z7m d k a))),⟨by dsimp only; omega,e3,e2,g4⟩,by dsimp only; omega,rfl,rfl⟩
  ·have hlow:a.low = z7m d k a:=by unfold z7m; rw [if_neg (by omega)]
   rw [hlow] at hz ⊢
   obtain ⟨e1,e2⟩:=instStep g3 hk18 hu.1 hu.2 hy hz
   rw [e1]
   exact ⟨(k + 1,addAt (addAt s a.src.toNat (z7m d k a)) a.dst.toNat (-(z7m d k a))),⟨by dsimp only; omega,e3,e2,g4⟩,by dsimp only; omega,rfl,rfl⟩
 ·rw [z6d (by omega)] at g4
  simp only [supGo] at g4
  subst g4
  have hk18:k <= 18:=by omega
  have t1:Int.toNat 1 = 1:=rfl
  have t0:Int.toNat 0 = 0:=rfl
  simp only [t1,t0]
  refine ⟨fun h2=>?_,fun h2=>⟨?_,rfl⟩⟩
  ·have e1:IntKind.i64.wrap ((d.length:Int) - 1) = ((d.length - 1:Nat):Int):=by rw [w64 (by omega) (by omega)]; omega
   have e2:IntKind.i64.wrap ((nOf d:Int) - 1) = ((nOf d - 1:Nat):Int):=by rw [w64 (by omega) (by omega)]; omega
   simp only [e1,e2,Int.toNat_natCast,List.length_set]
   refine ⟨by omega,by omega,fun x hx=>⟨by decide,fun h3=>⟨by omega,by omega,fun v hv=>⟨by decide,by omega,by omega,fun y hy=>⟨by omega,by omega,by omega,by omega,fun z hz=>⟨by omega,by omega,?_,rfl⟩⟩⟩⟩,fun h3=>⟨?_,rfl⟩⟩⟩
   ·have hb:=p2 x (List.mem_of_getElem? hx)
    have hv':=p2 v (List.mem_of_getElem? hv)
    rw [z2k hb.1] at h3
    rw [z2k hv'.1,w64 (x:=v % 3) (by omega) (by omega)] at hz ⊢
    rw [(instStep g3 hk18 (by omega) (by omega) hy hz).1]
    unfold z0o
    dsimp only
    rw [if_pos ⟨by omega,by rw [gz hx]; exact h3⟩,gz hv]
   ·have hb:=p2 x (List.mem_of_getElem? hx)
    rw [z2k hb.1] at h3
    unfold z0o
    dsimp only
    rw [if_neg (fun h=>h3 (by rw [<- gz hx]; exact h.2))]
  ·unfold z0o
   dsimp only
   rw [if_neg (fun h=>h2 (by omega))]
theorem Inst_ok:SpecOk Try.prog Inst_n true (z03 true Inst_fs) :=
 z09 z0n (show z18 Try.prog Inst_g from z00 Arcs_ok (z04)) (by kernel_rfl) mixedOrders Try.func11 rfl rfl (by kernel_rfl) (n:=2) (by decide +kernel) (I:=Inst_IA) (fun _ _=>z06) (A:=Inst_A)
  (fun args h r hr=>by
   unfold Inst_fs at hr
   split at hr
   ·rename_i ty0 c ty1 d; cases hr; refine ⟨rfl,fun hp=>?_⟩; have hE:=Inst_E c d ty0 ty1 hp; exact hE
   ·cases hr)
end Go.Proofs.Ytapeenpimcffpaa
end
section
section
namespace Go.Ql
open Go Go.RowKit Go.Vc
def I64 (n:Int):Prop:=-9223372036854775808 <= n/\n <= 9223372036854775807
instance (n:Int):Decidable (I64 n):=instDecidableAnd
def U64 (n:Int):Prop:=0 <= n/\n <= 18446744073709551615
def W (n:Int):Wide:=⟨(n / 18446744073709551616 + 9223372036854775808) % 18446744073709551616 - 9223372036854775808,n % 18446744073709551616⟩
def Wide.v (w:Wide):Int:=w.hi * 18446744073709551616 + w.lo
def Wide.ok (w:Wide):Prop:=I64 w.hi/\U64 w.lo
def zax (n:Int):Prop:=-170141183460469231731687303715884105728 <= n/\n <= 170141183460469231731687303715884105727
theorem wrapI64 (x:Int):IntKind.i64.wrap x = (x + 9223372036854775808) % 18446744073709551616 - 9223372036854775808:=by
 unfold IntKind.wrap; simp [IntKind.bits,IntKind.signed]; omega
theorem wrapU64 (x:Int):IntKind.u64.wrap x = x % 18446744073709551616:=by
 unfold IntKind.wrap; simp [IntKind.bits,IntKind.signed]
theorem W_ok (n:Int):(W n).ok:=by unfold W Wide.ok I64 U64; dsimp only; omega
theorem W_congr {m n k:Int} (h:m = n + k * 340282366920938463463374607431768211456):W m = W n:=by
 unfold W
 have e1:m / 18446744073709551616 = n / 18446744073709551616 + k * 18446744073709551616:=by omega
 have e2:m % 18446744073709551616 = n % 18446744073709551616:=by omega
 rw [e1,e2]
 have e3:(n / 18446744073709551616 + k * 18446744073709551616 + 9223372036854775808) % 18446744073709551616 = (n / 18446744073709551616 + 9223372036854775808) % 18446744073709551616:=by omega
 rw [e3]
theorem v_W (n:Int):∃ k:Int,(W n).v = n + k * 340282366920938463463374607431768211456:=by
 unfold W Wide.v
 dsimp only
 refine ⟨-((n / 18446744073709551616 + 9223372036854775808) / 18446744073709551616),?_⟩
 omega
theorem v_of {n:Int} (h:zax n):(W n).v = n:=by
 unfold zax at h
 unfold W Wide.v
 dsimp only
 omega
theorem W_inj {m n:Int} (hm:zax m) (hn:zax n) (h:W m = W n):m = n:=by
 have:=congrArg Wide.v h
 rwa [v_of hm,v_of hn] at this
def z5d (a b:Wide):Wide:=W (a.v + b.v)
def z5b (a b:Wide):Wide:=W (a.v - b.v)
def wcmp (a b:Wide):Int:=if a.v < b.v then -1 else if b.v < a.v then 1 else 0
@[simp] theorem z7q (m n:Int):z5d (W m) (W n) = W (m + n):=by
 obtain ⟨k,hk⟩:=v_W m
 obtain ⟨j,hj⟩:=v_W n
 exact W_congr (k:=k + j) (by rw [hk,hj]; omega)
@[simp] theorem zb9 (m n:Int):z5b (W m) (W n) = W (m - n):=by
 obtain ⟨k,hk⟩:=v_W m
 obtain ⟨j,hj⟩:=v_W n
 exact W_congr (k:=k - j) (by rw [hk,hj]; omega)
theorem zes {m n:Int} (hm:zax m) (hn:zax n):wcmp (W m) (W n) = if m < n then -1 else if n < m then 1 else 0:=by
 unfold wcmp; rw [v_of hm,v_of hn]
theorem W_zero:W 0 = ⟨0,0⟩:=by decide
theorem mul_bound {a b A B:Int} (ha:-A <= a) (ha':a <= A) (hb:-B <= b) (hb':b <= B) (hA:0 <= A) (hB:0 <= B):-(A * B) <= a * b/\a * b <= A * B:=by
 have h1:=Int.mul_nonneg (show 0 <= A - a by omega) (show 0 <= B - b by omega)
 have h2:=Int.mul_nonneg (show 0 <= A + a by omega) (show 0 <= B + b by omega)
 have h3:=Int.mul_nonneg (show 0 <= A - a by omega) (show 0 <= B + b by omega)
 have h4:=Int.mul_nonneg (show 0 <= A + a by omega) (show 0 <= B - b by omega)
 simp only [Int.sub_mul,Int.add_mul,Int.mul_sub,Int.mul_add] at h1 h2 h3 h4
 omega
end Go.Ql
end
section
namespace Go.Ql
open Go Go.RowKit
def inf:Int:=4611686018427387904
def z2g (n:Int) (a:Arc):Bool:=decide (0 <= a.src) && decide (a.src < n) && (decide (0 <= a.dst) && decide (a.dst < n))
theorem okArc_iff {n:Int} {a:Arc}:z2g n a = true ↔ 0 <= a.src/\a.src < n/\0 <= a.dst/\a.dst < n:=by
 simp [z2g,and_assoc]
def A64 (l:List Int):Prop:=∀ x ∈ l,I64 x
theorem A64.getD {l:List Int} (h:A64 l) (k:Nat):I64 (l.getD k 0):=by
 by_cases hk:k < l.length
 ·have:=h _ (List.getElem_mem hk)
  simpa [List.getD,hk] using this
 ·simp [List.getD,hk,I64]
def z3i (n:Int) (a:Arc) (f:Int) (v:Int):Int:=if z2g n a then (if a.src = v then f else 0) - (if a.dst = v then f else 0) else 0
def z6o (n:Int) (l:List Arc) (x:List Int):Nat->Int->Int
 | 0,_=>0
 | k + 1,v=>z6o n l x k v + z3i n (l.getD k default) (x.getD k 0) v
def netF (I:Inst) (x:List Int):List Wide:=(List.range I.sup.length).map (fun v:Nat=>W (z6o I.sup.length I.arcs x I.arcs.length v))
def z9f (l:List Arc) (x:List Int):Nat->Int
 | 0=>0
 | k + 1=>z9f l x k + (l.getD k default).cost * x.getD k 0
def costF (I:Inst) (x:List Int):Int:=z9f I.arcs x I.arcs.length
def fitF (a:Arc) (x:Int):Bool:=decide (a.low <= x) && (decide (a.cap = inf) || decide (x <= a.cap))
def z1j:List Arc->List Int->Bool
 | [],_=>true
 | a :: l,x=>fitF a (x.headD 0) && z1j l x.tail
def netOk (I:Inst) (x:List Int):Bool:=(List.range I.sup.length).all (fun v=>decide (W (z6o I.sup.length I.arcs x I.arcs.length v) = W (I.sup.getD v 0)))
def z16 (I:Inst) (x:List Int):Int :=
 if z0b I ≠ 0 then z0b I else if x.length ≠ I.arcs.length then 30 else if !z1j I.arcs x then 31 else if !netOk I x then 32 else 0
def gOk (n:Int) (l:List Arc) (a:Int):Bool:=decide (0 <= a) && decide (a < l.length) && z2g n (l.getD a.toNat default)
def z41 (n:Int) (l:List Arc) (a:Int):Arc:=if gOk n l a then l.getD a.toNat default else ⟨0,0,0,0,0⟩
def z3j (I:Inst) (x:List Int) (k:Nat):List Wide:=(List.range I.sup.length).map (fun v:Nat=>W (z6o I.sup.length I.arcs x k v))
def A64a (l:List Arc):Prop:=∀ a ∈ l,I64 a.low/\I64 a.cap
def A64c (l:List Arc):Prop:=∀ a ∈ l,I64 a.cost
def L42 (l:List Arc):Prop:=∀ a ∈ l,0 <= a.low/\a.low <= 4398046511104
theorem zaa {n:Int} {l:List Arc} {a:Int} {x:Arc} (h0:0 <= a) (h:l[a.toNat]? = some x):gOk n l a = z2g n x:=by
 have hl:=get_lt h
 unfold gOk
 have hg:l.getD a.toNat default = x:=by simp [List.getD,h]
 rw [hg]
 simp [h0,show a < (l.length:Int) by omega]
theorem gArc_at {n:Int} {l:List Arc} {a:Int} {x:Arc} (h0:0 <= a) (h:l[a.toNat]? = some x):z41 n l a = if z2g n x then x else ⟨0,0,0,0,0⟩:=by
 have hg:l.getD a.toNat default = x:=by simp [List.getD,h]
 unfold z41
 rw [zaa h0 h,hg]
theorem zds {n:Int} {l:List Arc} {a:Int} (h:a < 0 ∨ l.length <= a):gOk n l a = false:=by
 unfold gOk
 rcases h with h | h
 ·simp [show ¬ 0 <= a by omega]
 ·simp [show ¬ a < (l.length:Int) by omega]
theorem gArc_out {n:Int} {l:List Arc} {a:Int} (h:a < 0 ∨ l.length <= a):z41 n l a = ⟨0,0,0,0,0⟩:=by
 unfold z41; rw [zds h]; rfl
theorem z1q {α:Type} (f:Nat->α) (n j:Nat) (v:α):((List.range n).map f).set j v = (List.range n).map (fun t=>if t = j then v else f t):=by
 apply List.ext_getElem?
 intro i
 rw [List.getElem?_set]
 by_cases hi:i < n
 ·by_cases h:j = i
  ·subst h; simp [hi]
  ·have h':¬ i = j:=fun e=>h e.symm
   simp [h,h',hi]
 ·by_cases h:j = i
  ·subst h; simp [hi]
  ·simp [h,hi]
theorem z0z {α:Type} {f:Nat->α} {n j:Nat} {v:α} (h:((List.range n).map f)[j]? = some v):j < n/\v = f j:=by
 rw [List.getElem?_map] at h
 obtain ⟨z,hz,rfl⟩:=Option.map_eq_some_iff.1 h
 have hj:j < n:=by have:=get_lt hz; simpa using this
 rw [List.getElem?_range hj] at hz
 cases hz; exact ⟨hj,rfl⟩
theorem netAt_len (I:Inst) (x:List Int) (k:Nat):(z3j I x k).length = I.sup.length:=by simp [z3j]
theorem netAt_get {I:Inst} {x:List Int} {k j:Nat} {w:Wide} (h:(z3j I x k)[j]? = some w):j < I.sup.length/\w = W (z6o I.sup.length I.arcs x k j):=z0z h
theorem netAt_step {I:Inst} {x:List Int} {k:Nat} {a:Arc} (h:I.arcs[k]? = some a) (ho:z2g I.sup.length a = true) {p q:Wide} (hp:(z3j I x k)[a.src.toNat]? = some p)
  (hq:((z3j I x k).set a.src.toNat (z5d p (W (x.getD k 0))))[a.dst.toNat]? = some q):q.ok/\p.ok/\((z3j I x k).set a.src.toNat (z5d p (W (x.getD k 0)))).set a.dst.toNat (z5b q (W (x.getD k 0))) = z3j I x (k + 1):=by
 obtain ⟨o1,o2,o3,o4⟩:=okArc_iff.1 ho
 obtain ⟨_,rfl⟩:=netAt_get hp
 unfold z3j at hq ⊢
 rw [z7q,z1q] at hq ⊢
 obtain ⟨_,rfl⟩:=z0z hq
 have hg:I.arcs.getD k default = a:=by simp [List.getD,h]
 refine ⟨by split <;> exact W_ok _,W_ok _,?_⟩
 rw [z1q]
 apply List.map_congr_left
 intro t ht
 simp only [z6o,hg,z3i,ho,if_true]
 by_cases e1:t = a.dst.toNat <;> by_cases e2:t = a.src.toNat
 ·have e3:a.dst.toNat = a.src.toNat:=by omega
  rw [if_pos e1,if_pos e3,zb9,if_pos (by omega),if_pos (by omega)]
  congr 1
  rw [<- e2]; omega
 ·have e3:¬ a.dst.toNat = a.src.toNat:=by omega
  rw [if_pos e1,if_neg e3,zb9,if_neg (by omega),if_pos (by omega)]
  congr 1
  rw [<- e1]; omega
 ·rw [if_neg e1,if_pos e2,if_pos (by omega),if_neg (by omega)]
  congr 1
  rw [<- e2]; omega
 ·rw [if_neg e1,if_neg e2,if_neg (by omega),if_neg (by omega)]
  congr 1
  omega
theorem netAt_same {I:Inst} {x:List Int} {k:Nat} {a:Arc} (h:I.arcs[k]? = some a) (ho:z2g I.sup.length a = false):z3j I x k = z3j I x (k + 1):=by
 unfold z3j
 apply List.map_congr_left
 intro t ht
 have hg:I.arcs.getD k default = a:=by simp [List.getD,h]
 simp only [z6o,hg,z3i,ho]
 simp
theorem netF_len (I:Inst) (x:List Int):(netF I x).length = I.sup.length:=by simp [netF]
theorem fitsAll_drop {l:List Arc} {x:List Int} {k:Nat} {a:Arc} (h:l[k]? = some a):z1j (l.drop k) (x.drop k) = (fitF a (x.getD k 0) && z1j (l.drop (k + 1)) (x.drop (k + 1))):=by
 rw [z32 h,z1j]
 congr 1
 ·congr 1
  by_cases hk:k < x.length
  ·rw [List.drop_eq_getElem_cons hk]; simp [List.getD,hk]
  ·simp [List.drop_of_length_le (Nat.le_of_not_lt hk),List.getD,hk]
 ·rw [List.tail_drop]
theorem rightF_small' (I:Inst):0 <= z0b I/\z0b I <= 25:=by
  have h1:∀ (n:Int) (l:List Arc),0 <= z1d n l/\z1d n l <= 23:=fun n l=>by
    induction l with
    | nil=>simp [z1d]
    | cons x l ih=>simp only [z1d]; unfold z0j at *; (repeat' split) <;> omega
  have h2:∀ (l:List Int) (s:Int),0 <= z1w l s/\z1w l s <= 25:=fun l=>by
    induction l with
    | nil=>intro s; simp only [z1w]; split <;> omega
    | cons x l ih => intro s; simp only [z1w]; split
                     · omega
                     · exact ih _
  have:=h1 I.sup.length I.arcs
  have:=h2 I.sup 0
  unfold z0b; (repeat' split) <;> omega
theorem zcg {n:Int}:∀ {l:List Arc},z1d n l = 0->∀ a ∈ l,z0j a n = 0
 | [],_,a,ha=>by cases ha
 | b :: l,h,a,ha=>by
  simp only [z1d] at h
  split at h
  ·rename_i hb
   cases ha with
   | head=>first | exact hb | (simp at hb; exact hb)
   | tail _ ha=>exact zcg h a ha
  ·rename_i hb
   exact absurd h hb
theorem z19 {I:Inst} (h:z0b I = 0) {a:Arc} (ha:a ∈ I.arcs):z2g I.sup.length a = true/\(0 <= a.low/\a.low <= 4398046511104/\(a.cap = 4611686018427387904 ∨ a.low <= a.cap/\a.cap <= 4398046511104))/\-4398046511104 <= a.cost/\a.cost <= 4398046511104:=by
 unfold z0b at h
 split at h
 ·omega
 ·split at h
  ·rename_i he
   have hr:=zcg he a ha
   unfold z0j at hr
   rw [okArc_iff]
   (repeat' split at hr) <;> first | omega | (simp_all; omega) | grind
  ·rename_i he; exact absurd h he
theorem A64.set {l:List Int} (h:A64 l) {k:Nat} {v:Int} (hv:I64 v):A64 (l.set k v):=fun y hy=>by
 rcases List.mem_or_eq_of_mem_set hy with hy | rfl
 ·exact h y hy
 ·exact hv
end Go.Ql
end
section
namespace Go.Ql
open Go Go.RowKit
def hasK (a:Arc) (j:Nat):Bool:=decide ((j:Int) = 2 * a.src) || decide ((j:Int) = 2 * a.dst + 1)
def inK (I:Inst) (j a:Nat):Bool:=z2g I.sup.length (I.arcs.getD a default) && hasK (I.arcs.getD a default) j
def segA (I:Inst) (m j:Nat):List Nat:=(List.range m).filter (inK I j)
def z4c (I:Inst) (m j:Nat):Nat:=(segA I m j).length
def z7k (I:Inst):Nat->Nat
 | 0=>0
 | k + 1=>z7k I k + z4c I I.arcs.length k
def z1l (I:Inst):List Int:=(List.range (2 * I.sup.length + 1)).map (fun k=>(z7k I k:Int))
def z83 (I:Inst):List Int:=(List.range (2 * I.sup.length)).flatMap (fun j=>(segA I I.arcs.length j).map Int.ofNat)
def S1 (I:Inst) (m:Nat):List Int:=(List.range (2 * I.sup.length + 1)).map (fun k=>if k = 0 then 0 else (z4c I m (k - 1):Int))
def S2 (I:Inst) (k:Nat):List Int:=(List.range (2 * I.sup.length + 1)).map (fun i=>if i <= k then (z7k I i:Int) else (z4c I I.arcs.length (i - 1):Int))
def N3 (I:Inst) (m:Nat):List Int:=(List.range (2 * I.sup.length + 1)).map (fun k=>((z7k I k + z4c I m k:Nat):Int))
def segL (I:Inst) (m j:Nat):List Int:=(segA I m j).map Int.ofNat ++ List.replicate (z4c I I.arcs.length j - z4c I m j) 0
def L3 (I:Inst) (m:Nat):List Int:=(List.range (2 * I.sup.length)).flatMap (segL I m)
theorem z8f (I:Inst) (m j:Nat):segA I (m + 1) j = segA I m j ++ (if inK I j m then [m] else []):=by
 unfold segA
 rw [List.range_succ,List.filter_append]
 congr 1
 cases h:inK I j m <;> simp [h]
theorem z1y (I:Inst) (m j:Nat):z4c I (m + 1) j = z4c I m j + (if inK I j m then 1 else 0):=by
 unfold z4c
 rw [z8f,List.length_append]
 split <;> simp
theorem zdd (I:Inst) (j:Nat):z4c I 0 j = 0:=rfl
theorem cntA_le (I:Inst) (j:Nat):∀ m,z4c I m j <= m
 | 0=>Nat.le_refl _
 | m + 1=>by rw [z1y]; have:=cntA_le I j m; split <;> omega
theorem zdc (I:Inst) (j:Nat):∀ (m k:Nat),z4c I m j <= z4c I (m + k) j
 | m,0=>Nat.le_refl _
 | m,k + 1=>by
  rw [show m + (k + 1) = (m + k) + 1 by omega,z1y]
  have:=zdc I j m k
  omega
theorem cntA_lt {I:Inst} {m j:Nat} (hm:m < I.arcs.length) (h:inK I j m = true):z4c I m j < z4c I I.arcs.length j:=by
 have h1:=zdc I j (m + 1) (I.arcs.length - (m + 1))
 rw [show m + 1 + (I.arcs.length - (m + 1)) = I.arcs.length by omega,z1y,if_pos h] at h1
 omega
theorem zeq (I:Inst):∀ (j k:Nat),z7k I j <= z7k I (j + k)
 | j,0=>Nat.le_refl _
 | j,k + 1=>by
  have:=zeq I j k
  show z7k I j <= z7k I (j + k) + _
  omega
theorem sumA_le (I:Inst):∀ k,z7k I k <= k * I.arcs.length
 | 0=>by simp [z7k]
 | k + 1=>by
  have h1:=sumA_le I k
  have h2:=cntA_le I k I.arcs.length
  show z7k I k + _ <= _
  rw [Nat.add_mul]; omega
theorem S1_zero (I:Inst):S1 I 0 = List.replicate (2 * I.sup.length + 1) 0:=by
 unfold S1
 simp only [zdd]
 apply List.ext_getElem?
 intro i
 by_cases h:i < 2 * I.sup.length + 1
 ·simp [h]
 ·simp [h]
theorem inK_of {I:Inst} {m:Nat} {a:Arc} (h:I.arcs[m]? = some a) (j:Nat):inK I j m = (z2g I.sup.length a && hasK a j):=by
 have hg:I.arcs.getD m default = a:=by simp [List.getD,h]
 unfold inK; rw [hg]
theorem hasK_iff {a:Arc} {j:Nat}:hasK a j = true ↔ (j:Int) = 2 * a.src ∨ (j:Int) = 2 * a.dst + 1:=by simp [hasK]
theorem S1_step {I:Inst} {m:Nat} {a:Arc} (h:I.arcs[m]? = some a) (ho:z2g I.sup.length a = true) {p q:Int} (hp:(S1 I m)[(2 * a.src + 1).toNat]? = some p)
  (hq:((S1 I m).set (2 * a.src + 1).toNat (p + 1))[(2 * a.dst + 2).toNat]? = some q):((S1 I m).set (2 * a.src + 1).toNat (p + 1)).set (2 * a.dst + 2).toNat (q + 1) = S1 I (m + 1):=by
 obtain ⟨o1,o2,o3,o4⟩:=okArc_iff.1 ho
 unfold S1 at hp hq ⊢
 obtain ⟨_,rfl⟩:=z0z hp
 rw [z1q] at hq ⊢
 obtain ⟨_,rfl⟩:=z0z hq
 rw [z1q]
 apply List.map_congr_left
 intro t ht
 have hk:∀ j,inK I j m = hasK a j:=fun j=>by rw [inK_of h,ho,Bool.true_and]
 by_cases e0:t = 0
 ·subst e0
  rw [if_neg (by omega),if_neg (by omega),if_pos rfl,if_pos rfl]
 ·rw [if_neg e0,if_neg e0,z1y,hk]
  by_cases e1:t = (2 * a.src + 1).toNat <;> by_cases e2:t = (2 * a.dst + 2).toNat
  ·omega
  ·rw [if_neg e2,if_pos e1,if_neg (by omega),<- e1]
   rw [if_pos (hasK_iff.2 (.inl (by omega)))]; omega
  ·rw [if_pos e2,if_neg (by omega),if_neg (by omega),<- e2]
   rw [if_pos (hasK_iff.2 (.inr (by omega)))]; omega
  ·rw [if_neg e2,if_neg e1,if_neg (fun h=>?_)]
   ·omega
   ·rcases hasK_iff.1 h with h | h <;> omega
theorem S1_same {I:Inst} {m:Nat} {a:Arc} (h:I.arcs[m]? = some a) (ho:z2g I.sup.length a = false):S1 I m = S1 I (m + 1):=by
 unfold S1
 apply List.map_congr_left
 intro t ht
 rw [z1y,inK_of h,ho]
 simp
theorem S1_get {I:Inst} {m j:Nat} {v:Int} (h:(S1 I m)[j]? = some v):v = if j = 0 then 0 else (z4c I m (j - 1):Int):=by unfold S1 at h; exact (z0z h).2
theorem S2_get {I:Inst} {k j:Nat} {v:Int} (h:(S2 I k)[j]? = some v):v = if j <= k then (z7k I j:Int) else (z4c I I.arcs.length (j - 1):Int):=by unfold S2 at h; exact (z0z h).2
theorem startF_get {I:Inst} {j:Nat} {v:Int} (h:(z1l I)[j]? = some v):v = (z7k I j:Int):=by unfold z1l at h; exact (z0z h).2
theorem S1_S2 (I:Inst):S1 I I.arcs.length = S2 I 0:=by
 unfold S1 S2
 apply List.map_congr_left
 intro t ht
 by_cases e:t = 0
 ·subst e; simp [z7k]
 ·rw [if_neg e,if_neg (by omega)]
theorem S2_step {I:Inst} {k:Nat} {p q:Int} (hk:k < 2 * I.sup.length) (hp:(S2 I k)[k + 1]? = some p) (hq:(S2 I k)[k]? = some q):(S2 I k).set (k + 1) (p + q) = S2 I (k + 1):=by
 unfold S2 at hp hq ⊢
 obtain ⟨_,rfl⟩:=z0z hp
 obtain ⟨_,rfl⟩:=z0z hq
 rw [z1q]
 apply List.map_congr_left
 intro t ht
 by_cases e:t = k + 1
 ·subst e
  rw [if_pos rfl,if_neg (by omega),if_pos (by omega),if_pos (by omega)]
  show _ = ((z7k I k + z4c I I.arcs.length k:Nat):Int)
  simp; omega
 ·rw [if_neg e]
  by_cases e2:t <= k
  ·rw [if_pos e2,if_pos (by omega)]
  ·rw [if_neg e2,if_neg (by omega)]
theorem S2_end (I:Inst):S2 I (2 * I.sup.length) = z1l I:=by
 unfold S2 z1l
 apply List.map_congr_left
 intro t ht
 rw [if_pos (by have:=List.mem_range.1 ht; omega)]
theorem startF_N3 (I:Inst):z1l I = N3 I 0:=by
 unfold z1l N3
 apply List.map_congr_left
 intro t ht
 simp [zdd]
theorem z4z {α β:Type} {f g:α->List β}:∀ {l:List α},(∀ t ∈ l,f t = g t)->l.flatMap f = l.flatMap g
 | [],_=>rfl
 | a :: l,h=>by rw [List.flatMap_cons,List.flatMap_cons,h a (by simp),z4z (fun t ht=>h t (by simp [ht]))]
theorem zdq {f:Nat->List Int} {v:Int}:∀ {n j i b:Nat},(∀ t,b <= t->t < b + n->(f t).length = (f t).length)->b <= j->j < b + n->i < (f j).length ->
  ((List.range' b n).flatMap f).set (((List.range' b (j - b)).map (fun t=>(f t).length)).sum + i) v = (List.range' b n).flatMap (fun t=>if t = j then (f j).set i v else f t)
 | 0,j,i,b,_,h1,h2,_=>by omega
 | n + 1,j,i,b,hl,h1,h2,h3=>by
  rw [List.range'_succ,List.flatMap_cons,List.flatMap_cons]
  by_cases e:b = j
  ·subst e
   simp only [Nat.sub_self,List.range'_zero,List.map_nil,List.sum_nil,Nat.zero_add,if_true]
   rw [List.set_append_left _ _ h3]
   congr 1
   apply z4z
   intro t ht
   have:=List.mem_range'_1.1 ht
   rw [if_neg (by omega)]
  ·rw [if_neg e,show j - b = (j - (b + 1)) + 1 by omega,List.range'_succ,List.map_cons,List.sum_cons]
   rw [show (f b).length + ((List.range' (b + 1) (j - (b + 1))).map (fun t=>(f t).length)).sum + i = (f b).length + (((List.range' (b + 1) (j - (b + 1))).map (fun t=>(f t).length)).sum + i) by omega]
   rw [List.set_append_right _ _ (by omega),Nat.add_sub_cancel_left]
   congr 1
   exact zdq (fun _ _ _=>rfl) (by omega) (by omega) h3
theorem zb7 {I:Inst} {m:Nat} (hm:m <= I.arcs.length) (j:Nat):(segL I m j).length = z4c I I.arcs.length j:=by
 have:=zdc I j m (I.arcs.length - m)
 rw [show m + (I.arcs.length - m) = I.arcs.length by omega] at this
 unfold segL
 rw [List.length_append,List.length_map,List.length_replicate]
 show z4c I m j + _ = _
 omega
theorem zer (I:Inst) {f:Nat->List Int} (hf:∀ t,(f t).length = z4c I I.arcs.length t):∀ j,((List.range' 0 j).map (fun t=>(f t).length)).sum = z7k I j
 | 0=>rfl
 | j + 1=>by
  rw [List.range'_concat,List.map_append,List.sum_append,zer I hf j]
  simp [hf,z7k]
theorem zdp (I:Inst) {f:Nat->List Int} (hf:∀ t,(f t).length = z4c I I.arcs.length t) (n:Nat):((List.range n).flatMap f).length = z7k I n:=by
 rw [List.length_flatMap,List.range_eq_range',zer I hf n]
def segP (I:Inst) (m:Nat) (d:Nat->Bool) (j:Nat):List Int:=if d j then segL I (m + 1) j else segL I m j
theorem segP_len {I:Inst} {m:Nat} (hm:m < I.arcs.length) (d:Nat->Bool) (j:Nat):(segP I m d j).length = z4c I I.arcs.length j:=by
 unfold segP; split
 ·exact zb7 (by omega) j
 ·exact zb7 (by omega) j
theorem segL_put {I:Inst} {m j:Nat} (hm:m < I.arcs.length) (h:inK I j m = true):(segL I m j).set (z4c I m j) (m:Int) = segL I (m + 1) j:=by
 have hl:=cntA_lt hm h
 unfold segL
 rw [List.set_append_right _ _ (by simp [z4c]),List.length_map,z8f,if_pos h,z1y,if_pos h]
 show _ ++ (List.replicate (z4c I I.arcs.length j - z4c I m j) 0).set (z4c I m j - z4c I m j) _ = _
 rw [Nat.sub_self,show z4c I I.arcs.length j - z4c I m j = (z4c I I.arcs.length j - (z4c I m j + 1)) + 1 by omega,List.replicate_succ,List.set_cons_zero]
 simp
theorem L3_put {I:Inst} {m j:Nat} {d:Nat->Bool} (hm:m < I.arcs.length) (hj:j < 2 * I.sup.length) (h:inK I j m = true) (hd:d j = false) :
  ((List.range (2 * I.sup.length)).flatMap (segP I m d)).set (z7k I j + z4c I m j) (m:Int) = (List.range (2 * I.sup.length)).flatMap (segP I m (fun t=>t == j || d t)):=by
 have hl:=segP_len hm d
 have h1:=zdq (f:=segP I m d) (v:=(m:Int)) (n:=2 * I.sup.length) (j:=j) (i:=z4c I m j) (b:=0) (fun _ _ _=>rfl) (by omega) (by omega) (by rw [hl]; exact cntA_lt hm h)
 rw [Nat.sub_zero,zer I hl,<- List.range_eq_range'] at h1
 rw [h1]
 apply z4z
 intro t ht
 by_cases e:t = j
 ·subst e
  simp only [if_true,segP,hd,beq_self_eq_true,Bool.true_or]
  exact segL_put hm h
 ·have:(t == j) = false:=by simp [e]
  simp only [e,if_false,segP,this,Bool.false_or]
def nP (I:Inst) (m:Nat) (d:Nat->Bool):List Int:=(List.range (2 * I.sup.length + 1)).map (fun k=>((z7k I k + z4c I (if d k then m + 1 else m) k:Nat):Int))
theorem nP_put {I:Inst} {m j:Nat} {d:Nat->Bool} (h:inK I j m = true) (hd:d j = false):(nP I m d).set j (((z7k I j + z4c I m j:Nat):Int) + 1) = nP I m (fun t=>t == j || d t):=by
 unfold nP
 rw [z1q]
 apply List.map_congr_left
 intro t ht
 by_cases e:t = j
 ·subst e
  simp only [if_true,beq_self_eq_true,Bool.true_or]
  rw [z1y,if_pos h]
  simp; omega
 ·have:(t == j) = false:=by simp [e]
  simp only [e,if_false,this,Bool.false_or]
theorem nP_get {I:Inst} {m j:Nat} {d:Nat->Bool} {v:Int} (h:(nP I m d)[j]? = some v) (hd:d j = false):v = ((z7k I j + z4c I m j:Nat):Int):=by
 obtain ⟨_,rfl⟩:=z0z h
 simp [hd]
theorem N3_nP (I:Inst) (m:Nat):N3 I m = nP I m (fun _=>false):=rfl
theorem L3_segP (I:Inst) (m:Nat):L3 I m = (List.range (2 * I.sup.length)).flatMap (segP I m (fun _=>false)):=by
 unfold L3
 apply z4z
 intro t ht
 rfl
theorem nP_done {I:Inst} {m p q:Nat} (h:∀ j,inK I j m = true ↔ j = p ∨ j = q):nP I m (fun t=>t == q || (t == p || false)) = N3 I (m + 1):=by
 unfold nP N3
 apply List.map_congr_left
 intro t ht
 by_cases e:t = p ∨ t = q
 ·have:(t == q || (t == p || false)) = true:=by rcases e with e | e <;> simp [e]
  simp only [this,if_true]
 ·have h1:(t == q || (t == p || false)) = false:=by
   simp only [not_or] at e; simp [e.1,e.2]
  have h2:inK I t m = false:=by rw [Bool.eq_false_iff]; intro hk; exact e ((h t).1 hk)
  simp only [h1]
  rw [z1y,h2]; simp
theorem L3_done {I:Inst} {m p q:Nat} (h:∀ j,inK I j m = true ↔ j = p ∨ j = q):(List.range (2 * I.sup.length)).flatMap (segP I m (fun t=>t == q || (t == p || false))) = L3 I (m + 1):=by
 unfold L3
 apply z4z
 intro t ht
 unfold segP
 by_cases e:t = p ∨ t = q
 ·have:(t == q || (t == p || false)) = true:=by rcases e with e | e <;> simp [e]
  simp only [this,if_true]
 ·have h1:(t == q || (t == p || false)) = false:=by
   simp only [not_or] at e; simp [e.1,e.2]
  have h2:inK I t m = false:=by rw [Bool.eq_false_iff]; intro hk; exact e ((h t).1 hk)
  simp only [h1]
  unfold segL
  rw [z8f,z1y,h2]; simp
theorem N3_same {I:Inst} {m:Nat} {a:Arc} (h:I.arcs[m]? = some a) (ho:z2g I.sup.length a = false):N3 I m = N3 I (m + 1)/\L3 I m = L3 I (m + 1):=by
 have hk:∀ j,inK I j m = false:=fun j=>by rw [inK_of h,ho]; rfl
 unfold N3 L3
 refine ⟨?_,?_⟩
 ·apply List.map_congr_left
  intro t ht
  rw [z1y,hk]; simp
 ·apply z4z
  intro t ht
  unfold segL
  rw [z8f,z1y,hk]; simp
theorem L3_zero (I:Inst):L3 I 0 = List.replicate (z7k I (2 * I.sup.length)) 0:=by
 have hz:∀ j,segL I 0 j = List.replicate (z4c I I.arcs.length j) 0:=fun j=>by simp [segL,segA,zdd]
 apply List.eq_replicate_iff.2
 refine ⟨zdp I (fun t=>zb7 (by omega) t) _,fun b hb=>?_⟩
 unfold L3 at hb
 rw [List.mem_flatMap] at hb
 obtain ⟨j,_,hb⟩:=hb
 rw [hz] at hb
 exact (List.mem_replicate.1 hb).2
theorem L3_end (I:Inst):L3 I I.arcs.length = z83 I:=by
 unfold L3 z83
 apply z4z
 intro t ht
 unfold segL
 simp
end Go.Ql
end
end
section
namespace Go.Proofs.Ytapeenpimcffpaa
open Go Go.RowKit Go.Ql Go.Vc
abbrev Add64_n:Nat:=38
def z8q:Vc.Spec:=fun args hp nk K=>match args with
 | [.int .u64 x,.int .u64 y,.int .u64 c]=>(0 <= x/\0 <= y/\0 <= c/\c <= 1)/\K (.tup [.int .u64 ((x + y + c) % 18446744073709551616),.int .u64 ((x + y + c) / 18446744073709551616)]) hp nk
 | _=>False
abbrev Sub64_n:Nat:=80
def z92:Vc.Spec:=fun args hp nk K=>match args with
 | [.int .u64 x,.int .u64 y,.int .u64 c]=>(0 <= x/\0 <= y/\y <= 18446744073709551615/\0 <= c/\c <= 1)/\K (.tup [.int .u64 ((x - y - c) % 18446744073709551616),.int .u64 (if x < y + c then 1 else 0)]) hp nk
 | _=>False
def Of_r (n:Int):FRes:={ pre:=I64 n,res:=.agg (z12 (W n)),rows:=[],eff:=[] }
def z8w:FS:=fun args h=>match args,h with
 | [.int .i64 n],[]=>some (Of_r n)
 | _,_=>none
def Of_an (n:Int):List (Nat × Ann):=[]
def Of_A:List SV->z0g->List (Nat × Ann):=fun _ _=>[]
def Of_g:z0c:=[]
abbrev Of_n:Nat:=15
def Of_I (n:Int):List (Nat × z0a):=[]
def Of_IA:List SV->z0g->List (Nat × z0a):=fun _ _=>[]
def Plus_r (a:Wide) (b:Wide):FRes:={ pre:=a.ok/\b.ok,res:=.agg (z12 (z5d a b)),rows:=[],eff:=[] }
def z5h:FS:=fun args h=>match args,h with
 | [.agg [.int .i64 a_0,.int .u64 a_1],.agg [.int .i64 b_0,.int .u64 b_1]],[]=>some (Plus_r ⟨a_0,a_1⟩ ⟨b_0,b_1⟩)
 | _,_=>none
def Plus_an (a:Wide) (b:Wide):List (Nat × Ann):=[]
def Plus_A:List SV->z0g->List (Nat × Ann):=fun _ _=>[]
def Plus_g:z0c:=[(Add64_n,(true,z8q))]
abbrev zc2:Nat:=22
def Plus_I (a:Wide) (b:Wide):List (Nat × z0a):=[]
def Plus_IA:List SV->z0g->List (Nat × z0a):=fun _ _=>[]
def Minus_r (a:Wide) (b:Wide):FRes:={ pre:=a.ok/\b.ok,res:=.agg (z12 (z5b a b)),rows:=[],eff:=[] }
def z7t:FS:=fun args h=>match args,h with
 | [.agg [.int .i64 a_0,.int .u64 a_1],.agg [.int .i64 b_0,.int .u64 b_1]],[]=>some (Minus_r ⟨a_0,a_1⟩ ⟨b_0,b_1⟩)
 | _,_=>none
def Minus_an (a:Wide) (b:Wide):List (Nat × Ann):=[]
def Minus_A:List SV->z0g->List (Nat × Ann):=fun _ _=>[]
def Minus_g:z0c:=[(Sub64_n,(true,z92))]
abbrev Minus_n:Nat:=63
def Minus_I (a:Wide) (b:Wide):List (Nat × z0a):=[]
def Minus_IA:List SV->z0g->List (Nat × z0a):=fun _ _=>[]
def nan1_r (n:Int):FRes:={ pre:=True,res:=.bool (false),rows:=[],eff:=[] }
def nan1_fs:FS:=fun args h=>match args,h with
 | [.int .i64 n],[]=>some (nan1_r n)
 | _,_=>none
def nan1_an (n:Int):List (Nat × Ann):=[]
def nan1_A:List SV->z0g->List (Nat × Ann):=fun _ _=>[]
def nan1_g:z0c:=[]
abbrev nan1_n:Nat:=81
def nan1_I (n:Int):List (Nat × z0a):=[]
def nan1_IA:List SV->z0g->List (Nat × z0a):=fun _ _=>[]
def nan2_r (n:Int):FRes:={ pre:=True,res:=.bool (false),rows:=[],eff:=[] }
def nan2_fs:FS:=fun args h=>match args,h with
 | [.int .u64 n],[]=>some (nan2_r n)
 | _,_=>none
def nan2_an (n:Int):List (Nat × Ann):=[]
def nan2_A:List SV->z0g->List (Nat × Ann):=fun _ _=>[]
def nan2_g:z0c:=[]
abbrev nan2_n:Nat:=82
def nan2_I (n:Int):List (Nat × z0a):=[]
def nan2_IA:List SV->z0g->List (Nat × z0a):=fun _ _=>[]
def cmp1_r (a:Int) (b:Int):FRes:={ pre:=True,res:=.int .i64 (if a < b then -1 else if b < a then 1 else 0),rows:=[],eff:=[] }
def cmp1_fs:FS:=fun args h=>match args,h with
 | [.int .i64 a,.int .i64 b],[]=>some (cmp1_r a b)
 | _,_=>none
def cmp1_an (a:Int) (b:Int):List (Nat × Ann):=[]
def cmp1_A:List SV->z0g->List (Nat × Ann):=fun _ _=>[]
def cmp1_g:z0c:=[(nan1_n,(true,z03 true nan1_fs))]
abbrev cmp1_n:Nat:=64
def cmp1_I (a:Int) (b:Int):List (Nat × z0a):=[]
def cmp1_IA:List SV->z0g->List (Nat × z0a):=fun _ _=>[]
def cmp2_r (a:Int) (b:Int):FRes:={ pre:=True,res:=.int .i64 (if a < b then -1 else if b < a then 1 else 0),rows:=[],eff:=[] }
def cmp2_fs:FS:=fun args h=>match args,h with
 | [.int .u64 a,.int .u64 b],[]=>some (cmp2_r a b)
 | _,_=>none
def cmp2_an (a:Int) (b:Int):List (Nat × Ann):=[]
def cmp2_A:List SV->z0g->List (Nat × Ann):=fun _ _=>[]
def cmp2_g:z0c:=[(nan2_n,(true,z03 true nan2_fs))]
abbrev cmp2_n:Nat:=65
def cmp2_I (a:Int) (b:Int):List (Nat × z0a):=[]
def cmp2_IA:List SV->z0g->List (Nat × z0a):=fun _ _=>[]
def zbi (a:Wide) (b:Wide):FRes:={ pre:=a.ok/\b.ok,res:=.int .i64 (wcmp a b),rows:=[],eff:=[] }
def z4h:FS:=fun args h=>match args,h with
 | [.agg [.int .i64 a_0,.int .u64 a_1],.agg [.int .i64 b_0,.int .u64 b_1]],[]=>some (zbi ⟨a_0,a_1⟩ ⟨b_0,b_1⟩)
 | _,_=>none
def Compare_an (a:Wide) (b:Wide):List (Nat × Ann):=[]
def Compare_A:List SV->z0g->List (Nat × Ann):=fun _ _=>[]
def zbh:z0c:=[(cmp1_n,(true,z03 true cmp1_fs)),(cmp2_n,(true,z03 true cmp2_fs))]
abbrev z7s:Nat:=54
def Compare_I (a:Wide) (b:Wide):List (Nat × z0a):=[]
def Compare_IA:List SV->z0g->List (Nat × z0a):=fun _ _=>[]
end Go.Proofs.Ytapeenpimcffpaa
end
section
namespace Go.Proofs.Ytapeenpimcffpaa
open Go Go.RowKit Go.Ql Go.Vc
theorem Add64_ok:SpecOk Try.prog Add64_n true z8q:=by
 refine .ext fun ρ hp nk w args K hh h=>?_
 unfold z8q at h
 split at h
 ·obtain ⟨⟨h1,h2,h3,h4⟩,hk⟩:=h
  refine ⟨_,?_,hk⟩
  simp only [z0i,SV.toV]
  rw [run_callFunc_extern Try.func38 (by kernel_rfl) (by kernel_rfl) (by kernel_rfl) (e:=add64Entry) (by kernel_rfl),run_add64 _ _ _ h1 h2 h3 h4]
  simp only [Result.andThen]
 ·exact h.elim
theorem run_sub64 {P:Program} (x y b:Nat) (hb:b <= 1) (w:World) :
  ((Extern.MathBitsCarry.rows[1]).2 #[.int .u64 x,.int .u64 y,.int .u64 b]).run P w =
   .ok (.tuple #[.int .u64 (((x + 18446744073709551616 - y - b) % 18446744073709551616:Nat):Int),.int .u64 ((if x < y + b then 1 else 0:Nat):Int)]) w:=by
 have:b = 0 ∨ b = 1:=by omega
 rcases this with rfl | rfl <;> rfl
theorem Sub64_ok:SpecOk Try.prog Sub64_n true z92:=by
 refine .ext fun ρ hp nk w args K hh h=>?_
 unfold z92 at h
 split at h
 ·rename_i x y c
  obtain ⟨⟨h1,h2,h3,h4,h5⟩,hk⟩:=h
  obtain ⟨X,rfl⟩:=Int.eq_ofNat_of_zero_le h1
  obtain ⟨Y,rfl⟩:=Int.eq_ofNat_of_zero_le h2
  obtain ⟨B,rfl⟩:=Int.eq_ofNat_of_zero_le h4
  refine ⟨_,?_,hk⟩
  simp only [z0i,SV.toV]
  rw [run_callFunc_extern Try.func80 (by kernel_rfl) (by kernel_rfl) (by kernel_rfl) (e:=(Extern.MathBitsCarry.rows[1]).2) (by kernel_rfl),run_sub64 X Y B (by omega)]
  simp only [Result.andThen]
  have e1:(((X + 18446744073709551616 - Y - B) % 18446744073709551616:Nat):Int) = ((X:Int) - Y - B) % 18446744073709551616:=by omega
  have e2:((if X < Y + B then 1 else 0:Nat):Int) = if (X:Int) < Y + B then 1 else 0:=by split <;> split <;> omega
  rw [e1,e2]
 ·exact h.elim
def Of_E0 (n : Int) : Prop :=
   (0:Int) <= (63:Int)/\((n.fdiv ((2:Int) ^ min (Int.toNat (63:Int)) IntKind.i64.bits) = (W n).hi/\IntKind.u64.wrap n = (W n).lo/\True)/\True)/\True
theorem Of_q (n:Int):Of_E0 n = z25 TT Of_g (Of_I n) (Of_an n) Try.f15 [.int .i64 n] [] (Of_r n):=by kernel_rfl
theorem Of_E (n:Int) (hp:I64 n):FVc TT Of_g (Of_I n) (Of_an n) Try.f15 [.int .i64 n] [] (Of_r n):=by
 refine FVc.of (Of_E0 n) (Of_q n) ?_
 unfold Of_E0
 simp only [eq_self,exists_const,forall_const,decide_eq_true_eq,decide_eq_false_iff_not,and_true,true_and,bne_iff_ne,ne_eq,bne_eq_false_iff_eq,Int.toNat_natCast,Bool.not_eq_true',Bool.not_eq_false',beq_iff_eq,beq_eq_false_iff_ne]
 unfold I64 at hp
 have e:(2:Int) ^ min (Int.toNat 63) IntKind.i64.bits = 9223372036854775808:=by decide
 rw [e,Int.fdiv_eq_ediv_of_nonneg _ (show (0:Int) <= 9223372036854775808 by decide)]
 simp only [wrapU64,W,and_true]
 omega
theorem zbz:SpecOk Try.prog Of_n true (z03 true z8w) :=
 z09 z0n (show z18 Try.prog Of_g from z04) (by kernel_rfl) mixedOrders Try.func15 rfl rfl (by kernel_rfl) (n:=1) (by decide +kernel) (I:=Of_IA) (fun _ _=>z06) (A:=Of_A)
  (fun args h r hr=>by
   unfold z8w at hr
   split at hr
   ·rename_i n; cases hr; refine ⟨rfl,fun hp=>?_⟩; have hE:=Of_E n hp; exact hE
   ·cases hr)
def Plus_E0 (a : Wide) (b : Wide) : Prop :=
      ((0:Int) <= a.lo/\(0:Int) <= b.lo/\(0:Int) <= (0:Int)/\(0:Int) <= (1:Int)) /\
 ((0:Int) <= IntKind.u64.wrap a.hi /\
 (0:Int) <= IntKind.u64.wrap b.hi /\
 (0:Int) <= (a.lo + b.lo + (0:Int)) / (18446744073709551616:Int)/\(a.lo + b.lo + (0:Int)) / (18446744073709551616:Int) <= (1:Int)) /\
 ((IntKind.i64.wrap ((IntKind.u64.wrap a.hi + IntKind.u64.wrap b.hi + (a.lo + b.lo + (0:Int)) / (18446744073709551616:Int)) % (18446744073709551616:Int)) =
 (z5d a b).hi /\
 (a.lo + b.lo + (0:Int)) % (18446744073709551616:Int) = (z5d a b).lo/\True) /\
 True) /\
 True
theorem Plus_q (a:Wide) (b:Wide):Plus_E0 a b = z25 TT Plus_g (Plus_I a b) (Plus_an a b) Try.f22 [.agg (z12 a),.agg (z12 b)] [] (Plus_r a b):=by kernel_rfl
theorem Plus_E (a:Wide) (b:Wide) (hp:a.ok/\b.ok):FVc TT Plus_g (Plus_I a b) (Plus_an a b) Try.f22 [.agg (z12 a),.agg (z12 b)] [] (Plus_r a b):=by
 refine FVc.of (Plus_E0 a b) (Plus_q a b) ?_
 unfold Plus_E0
 simp only [eq_self,exists_const,forall_const,decide_eq_true_eq,decide_eq_false_iff_not,and_true,true_and,bne_iff_ne,ne_eq,bne_eq_false_iff_eq,Int.toNat_natCast,Bool.not_eq_true',Bool.not_eq_false',beq_iff_eq,beq_eq_false_iff_ne]
 obtain ⟨⟨⟨a1,a2⟩,a3,a4⟩,⟨b1,b2⟩,b3,b4⟩:=hp
 simp only [wrapU64,wrapI64,z5d,W,Wide.v]
 omega
theorem z90:SpecOk Try.prog zc2 true (z03 true z5h) :=
 z09 z0n (show z18 Try.prog Plus_g from z00 Add64_ok (z04)) (by kernel_rfl) mixedOrders Try.func22 rfl rfl (by kernel_rfl) (n:=2) (by decide +kernel) (I:=Plus_IA) (fun _ _=>z06) (A:=Plus_A)
  (fun args h r hr=>by
   unfold z5h at hr
   split at hr
   ·rename_i a_0 a_1 b_0 b_1; cases hr; refine ⟨rfl,fun hp=>?_⟩; have hE:=Plus_E ⟨a_0,a_1⟩ ⟨b_0,b_1⟩ hp; exact hE
   ·cases hr)
def Minus_E0 (a : Wide) (b : Wide) : Prop :=
      ((0:Int) <= a.lo/\(0:Int) <= b.lo/\b.lo <= (18446744073709551615:Int)/\(0:Int) <= (0:Int)/\(0:Int) <= (1:Int)) /\
 ((0:Int) <= IntKind.u64.wrap a.hi /\
 (0:Int) <= IntKind.u64.wrap b.hi /\
 IntKind.u64.wrap b.hi <= (18446744073709551615:Int) /\
 ((0:Int) <= if a.lo < b.lo + (0:Int) then (1:Int) else (0:Int))/\(if a.lo < b.lo + (0:Int) then (1:Int) else (0:Int)) <= (1:Int)) /\
 ((IntKind.i64.wrap ((IntKind.u64.wrap a.hi - IntKind.u64.wrap b.hi - if a.lo < b.lo + (0:Int) then (1:Int) else (0:Int)) % (18446744073709551616:Int)) =
 (z5b a b).hi /\
 (a.lo - b.lo - (0:Int)) % (18446744073709551616:Int) = (z5b a b).lo/\True) /\
 True) /\
 True
theorem Minus_q (a:Wide) (b:Wide):Minus_E0 a b = z25 TT Minus_g (Minus_I a b) (Minus_an a b) Try.f63 [.agg (z12 a),.agg (z12 b)] [] (Minus_r a b):=by kernel_rfl
theorem Minus_E (a:Wide) (b:Wide) (hp:a.ok/\b.ok):FVc TT Minus_g (Minus_I a b) (Minus_an a b) Try.f63 [.agg (z12 a),.agg (z12 b)] [] (Minus_r a b):=by
 refine FVc.of (Minus_E0 a b) (Minus_q a b) ?_
 unfold Minus_E0
 simp only [eq_self,exists_const,forall_const,decide_eq_true_eq,decide_eq_false_iff_not,and_true,true_and,bne_iff_ne,ne_eq,bne_eq_false_iff_eq,Int.toNat_natCast,Bool.not_eq_true',Bool.not_eq_false',beq_iff_eq,beq_eq_false_iff_ne]
 obtain ⟨⟨⟨a1,a2⟩,a3,a4⟩,⟨b1,b2⟩,b3,b4⟩:=hp
 simp only [wrapU64,wrapI64,z5b,W,Wide.v]
 split <;> omega
theorem Minus_ok:SpecOk Try.prog Minus_n true (z03 true z7t) :=
 z09 z0n (show z18 Try.prog Minus_g from z00 Sub64_ok (z04)) (by kernel_rfl) mixedOrders Try.func63 rfl rfl (by kernel_rfl) (n:=2) (by decide +kernel) (I:=Minus_IA) (fun _ _=>z06) (A:=Minus_A)
  (fun args h r hr=>by
   unfold z7t at hr
   split at hr
   ·rename_i a_0 a_1 b_0 b_1; cases hr; refine ⟨rfl,fun hp=>?_⟩; have hE:=Minus_E ⟨a_0,a_1⟩ ⟨b_0,b_1⟩ hp; exact hE
   ·cases hr)
def nan1_E0 (n : Int) : Prop :=
   ((n != n) = false/\True)/\True
theorem nan1_q (n:Int):nan1_E0 n = z25 TT nan1_g (nan1_I n) (nan1_an n) Try.f81 [.int .i64 n] [] (nan1_r n):=by kernel_rfl
theorem nan1_E (n:Int) (hp:True):FVc TT nan1_g (nan1_I n) (nan1_an n) Try.f81 [.int .i64 n] [] (nan1_r n):=by
 refine FVc.of (nan1_E0 n) (nan1_q n) ?_
 unfold nan1_E0
 simp
theorem nan1_ok:SpecOk Try.prog nan1_n true (z03 true nan1_fs) :=
 z09 z0n (show z18 Try.prog nan1_g from z04) (by kernel_rfl) mixedOrders Try.func81 rfl rfl (by kernel_rfl) (n:=1) (by decide +kernel) (I:=nan1_IA) (fun _ _=>z06) (A:=nan1_A)
  (fun args h r hr=>by
   unfold nan1_fs at hr
   split at hr
   ·rename_i n; cases hr; refine ⟨rfl,fun hp=>?_⟩; have hE:=nan1_E n hp; exact hE
   ·cases hr)
def nan2_E0 (n : Int) : Prop :=
   ((n != n) = false/\True)/\True
theorem nan2_q (n:Int):nan2_E0 n = z25 TT nan2_g (nan2_I n) (nan2_an n) Try.f82 [.int .u64 n] [] (nan2_r n):=by kernel_rfl
theorem nan2_E (n:Int) (hp:True):FVc TT nan2_g (nan2_I n) (nan2_an n) Try.f82 [.int .u64 n] [] (nan2_r n):=by
 refine FVc.of (nan2_E0 n) (nan2_q n) ?_
 unfold nan2_E0
 simp
theorem nan2_ok:SpecOk Try.prog nan2_n true (z03 true nan2_fs) :=
 z09 z0n (show z18 Try.prog nan2_g from z04) (by kernel_rfl) mixedOrders Try.func82 rfl rfl (by kernel_rfl) (n:=1) (by decide +kernel) (I:=nan2_IA) (fun _ _=>z06) (A:=nan2_A)
  (fun args h r hr=>by
   unfold nan2_fs at hr
   split at hr
   ·rename_i n; cases hr; refine ⟨rfl,fun hp=>?_⟩; have hE:=nan2_E n hp; exact hE
   ·cases hr)
def cmp1_E0 (a : Int) (b : Int) : Prop :=
      True /\
 True /\
 (false = true ->
 (false = true->(((0:Int) = if a < b then (-1:Int) else if b < a then (1:Int) else (0:Int))/\True)/\True) /\
 (false = false->(((-1:Int) = if a < b then (-1:Int) else if b < a then (1:Int) else (0:Int))/\True)/\True)) /\
 (false = false ->
 (false = true->(((1:Int) = if a < b then (-1:Int) else if b < a then (1:Int) else (0:Int))/\True)/\True) /\
 (false = false ->
 (decide (a < b) = true->(((-1:Int) = if a < b then (-1:Int) else if b < a then (1:Int) else (0:Int))/\True)/\True) /\
 (decide (a < b) = false ->
 (decide (a > b) = true->(((1:Int) = if a < b then (-1:Int) else if b < a then (1:Int) else (0:Int))/\True)/\True) /\
 (decide (a > b) = false->(((0:Int) = if a < b then (-1:Int) else if b < a then (1:Int) else (0:Int))/\True)/\True))))
theorem cmp1_q (a:Int) (b:Int):cmp1_E0 a b = z25 TT cmp1_g (cmp1_I a b) (cmp1_an a b) Try.f64 [.int .i64 a,.int .i64 b] [] (cmp1_r a b):=by kernel_rfl
theorem cmp1_E (a:Int) (b:Int) (hp:True):FVc TT cmp1_g (cmp1_I a b) (cmp1_an a b) Try.f64 [.int .i64 a,.int .i64 b] [] (cmp1_r a b):=by
 refine FVc.of (cmp1_E0 a b) (cmp1_q a b) ?_
 unfold cmp1_E0
 simp
 grind
theorem cmp1_ok:SpecOk Try.prog cmp1_n true (z03 true cmp1_fs) :=
 z09 z0n (show z18 Try.prog cmp1_g from z00 nan1_ok (z04)) (by kernel_rfl) mixedOrders Try.func64 rfl rfl (by kernel_rfl) (n:=2) (by decide +kernel) (I:=cmp1_IA) (fun _ _=>z06) (A:=cmp1_A)
  (fun args h r hr=>by
   unfold cmp1_fs at hr
   split at hr
   ·rename_i a b; cases hr; refine ⟨rfl,fun hp=>?_⟩; have hE:=cmp1_E a b hp; exact hE
   ·cases hr)
def cmp2_E0 (a : Int) (b : Int) : Prop :=
      True /\
 True /\
 (false = true ->
 (false = true->(((0:Int) = if a < b then (-1:Int) else if b < a then (1:Int) else (0:Int))/\True)/\True) /\
 (false = false->(((-1:Int) = if a < b then (-1:Int) else if b < a then (1:Int) else (0:Int))/\True)/\True)) /\
 (false = false ->
 (false = true->(((1:Int) = if a < b then (-1:Int) else if b < a then (1:Int) else (0:Int))/\True)/\True) /\
 (false = false ->
 (decide (a < b) = true->(((-1:Int) = if a < b then (-1:Int) else if b < a then (1:Int) else (0:Int))/\True)/\True) /\
 (decide (a < b) = false ->
 (decide (a > b) = true->(((1:Int) = if a < b then (-1:Int) else if b < a then (1:Int) else (0:Int))/\True)/\True) /\
 (decide (a > b) = false->(((0:Int) = if a < b then (-1:Int) else if b < a then (1:Int) else (0:Int))/\True)/\True))))
theorem cmp2_q (a:Int) (b:Int):cmp2_E0 a b = z25 TT cmp2_g (cmp2_I a b) (cmp2_an a b) Try.f65 [.int .u64 a,.int .u64 b] [] (cmp2_r a b):=by kernel_rfl
theorem cmp2_E (a:Int) (b:Int) (hp:True):FVc TT cmp2_g (cmp2_I a b) (cmp2_an a b) Try.f65 [.int .u64 a,.int .u64 b] [] (cmp2_r a b):=by
 refine FVc.of (cmp2_E0 a b) (cmp2_q a b) ?_
 unfold cmp2_E0
 simp
 grind
theorem cmp2_ok:SpecOk Try.prog cmp2_n true (z03 true cmp2_fs) :=
 z09 z0n (show z18 Try.prog cmp2_g from z00 nan2_ok (z04)) (by kernel_rfl) mixedOrders Try.func65 rfl rfl (by kernel_rfl) (n:=2) (by decide +kernel) (I:=cmp2_IA) (fun _ _=>z06) (A:=cmp2_A)
  (fun args h r hr=>by
   unfold cmp2_fs at hr
   split at hr
   ·rename_i a b; cases hr; refine ⟨rfl,fun hp=>?_⟩; have hE:=cmp2_E a b hp; exact hE
   ·cases hr)
def z8r (a : Wide) (b : Wide) : Prop :=
      ((a.hi != b.hi) = true->True/\((if a.hi < b.hi then (-1:Int) else if b.hi < a.hi then (1:Int) else (0:Int)) = wcmp a b/\True)/\True) /\
 ((a.hi != b.hi) = false->True/\((if a.lo < b.lo then (-1:Int) else if b.lo < a.lo then (1:Int) else (0:Int)) = wcmp a b/\True)/\True)
theorem Compare_q (a:Wide) (b:Wide):z8r a b = z25 TT zbh (Compare_I a b) (Compare_an a b) Try.f54 [.agg (z12 a),.agg (z12 b)] [] (zbi a b):=by kernel_rfl
theorem Compare_E (a:Wide) (b:Wide) (hp:a.ok/\b.ok):FVc TT zbh (Compare_I a b) (Compare_an a b) Try.f54 [.agg (z12 a),.agg (z12 b)] [] (zbi a b):=by
 refine FVc.of (z8r a b) (Compare_q a b) ?_
 unfold z8r
 simp only [eq_self,exists_const,forall_const,decide_eq_true_eq,decide_eq_false_iff_not,and_true,true_and,bne_iff_ne,ne_eq,bne_eq_false_iff_eq,Int.toNat_natCast,Bool.not_eq_true',Bool.not_eq_false',beq_iff_eq,beq_eq_false_iff_ne]
 obtain ⟨⟨⟨a1,a2⟩,a3,a4⟩,⟨b1,b2⟩,b3,b4⟩:=hp
 unfold wcmp Wide.v
 refine ⟨fun h=>?_,fun h=>?_⟩ <;> (repeat' split) <;> omega
theorem z8s:SpecOk Try.prog z7s true (z03 true z4h) :=
 z09 z0n (show z18 Try.prog zbh from z00 cmp1_ok (z00 cmp2_ok (z04))) (by kernel_rfl) mixedOrders Try.func54 rfl rfl (by kernel_rfl) (n:=2) (by decide +kernel) (I:=Compare_IA) (fun _ _=>z06) (A:=Compare_A)
  (fun args h r hr=>by
   unfold z4h at hr
   split at hr
   ·rename_i a_0 a_1 b_0 b_1; cases hr; refine ⟨rfl,fun hp=>?_⟩; have hE:=Compare_E ⟨a_0,a_1⟩ ⟨b_0,b_1⟩ hp; exact hE
   ·cases hr)
end Go.Proofs.Ytapeenpimcffpaa
end
section
namespace Go.Proofs.Ytapeenpimcffpaa
open Go Go.RowKit Go.Ql Go.Vc
end Go.Proofs.Ytapeenpimcffpaa
end
section
namespace Go.Proofs.Ytapeenpimcffpaa
open Go Go.RowKit Go.Ql Go.Vc
end Go.Proofs.Ytapeenpimcffpaa
end
section
namespace Go.Proofs.Ytapeenpimcffpaa
open Go Go.RowKit Go.Ql Go.Vc
def has_r (g_n:Int) (g_l:List Arc) (g_i:List Int) (g_s:List Int) (a:Int):FRes:={ pre:=True,res:=.bool (decide (0 <= a) && decide (a < g_n)),rows:=[],eff:=[] }
def has_fs:FS:=fun args h=>match args,h with
 | [.ptr 0 0 0 0,.int .i64 a],[(0,.box false ty0 [.int .i64 g_n,.row 1,.row 2,.row 3]),(1,.row false ty1 (.arcs g_l)),(2,.row false ty2 (.ints .i64 g_i)),(3,.row false ty3 (.ints .i64 g_s))]=>some (has_r g_n g_l g_i g_s a)
 | _,_=>none
def has_an (g_n:Int) (g_l:List Arc) (g_i:List Int) (g_s:List Int) (a:Int):List (Nat × Ann):=[]
def has_A:List SV->z0g->List (Nat × Ann):=fun _ _=>[]
def has_g:z0c:=[]
abbrev has_n:Nat:=88
def has_I (g_n:Int) (g_l:List Arc) (g_i:List Int) (g_s:List Int) (a:Int):List (Nat × z0a):=[]
def has_IA:List SV->z0g->List (Nat × z0a):=fun _ _=>[]
def GArc_r (g_n:Int) (g_l:List Arc) (g_i:List Int) (g_s:List Int) (a:Int):FRes:={ pre:=True,res:=.tup [.agg (z6r (z41 g_n g_l a)),.bool (gOk g_n g_l a)],rows:=[],eff:=[] }
def GArc_fs:FS:=fun args h=>match args,h with
 | [.ptr 0 0 0 0,.int .i64 a],[(0,.box false ty0 [.int .i64 g_n,.row 1,.row 2,.row 3]),(1,.row false ty1 (.arcs g_l)),(2,.row false ty2 (.ints .i64 g_i)),(3,.row false ty3 (.ints .i64 g_s))]=>some (GArc_r g_n g_l g_i g_s a)
 | _,_=>none
def GArc_an (g_n:Int) (g_l:List Arc) (g_i:List Int) (g_s:List Int) (a:Int):List (Nat × Ann):=[]
def GArc_A:List SV->z0g->List (Nat × Ann):=fun _ _=>[]
def GArc_g:z0c:=[(has_n,(true,z03 true has_fs))]
abbrev GArc_n:Nat:=83
def GArc_I (g_n:Int) (g_l:List Arc) (g_i:List Int) (g_s:List Int) (a:Int):List (Nat × z0a):=[]
def GArc_IA:List SV->z0g->List (Nat × z0a):=fun _ _=>[]
def CloneI_r (l:List Int):FRes:={ pre:=l.length <= 1000000000,res:=.row 1,rows:=[.row 3 (.ints .i64 (l))],eff:=[] }
def zbf:FS:=fun args h=>match args,h with
 | [.row 0],[(0,.row false ty0 (.ints .i64 l))]=>some (CloneI_r l)
 | _,_=>none
def CloneI_an (l:List Int):List (Nat × Ann):=[]
def CloneI_A:List SV->z0g->List (Nat × Ann):=fun _ _=>[]
def CloneI_g:z0c:=[]
abbrev CloneI_n:Nat:=84
def CloneI_I (l:List Int):List (Nat × z0a):=[]
def CloneI_IA:List SV->z0g->List (Nat × z0a):=fun _ _=>[]
abbrev put_n:Nat:=85
def put_g:z0c:=[]
def put_spec:Vc.Spec:=z1z TT put_g (fun _ _ _=>[]) Try.f85
def New_r (I:Inst):FRes:={ pre:=I.sup.length <= 10000/\I.arcs.length <= 10000,res:=.ptr 2 0 0 0,rows:=[.box 126 [.int .i64 I.sup.length,.row 3,.row 4,.row 5],.row 40 (.arcs I.arcs),.row 3 (.ints .i64 (z83 I)),.row 3 (.ints .i64 (z1l I))],eff:=[] }
def New_fs:FS:=fun args h=>match args,h with
 | [.agg [.row 0,.row 1]],[(0,.row false ty0 (.ints .i64 I_s)),(1,.row false ty1 (.arcs I_a))]=>some (New_r ⟨I_s,I_a⟩)
 | _,_=>none
def New_an (I:Inst):List (Nat × Ann):=[(1000002,{ G:=Unit,inv:=fun _=>⟨[(3,.ptr 9 0 0 0)],[(9,.box true 114 [.ptr 8 0 0 0]),(8,.box true 126 [.int .i64 (↑I.sup.length:Int),.row 4,.row 6,.row 7]),(6,.row true 3 (.ints .i64 [])),(7,.row true 3 (.ints .i64 [])),(4,.row true 40 (.arcs I.arcs))],10⟩,rel:=fun _ _=>True,meas:=fun _=>0 }),
 (4,{ G:=(Nat),inv:=fun k=>⟨[(3,.ptr 9 0 0 0),(35,.int .i64 (↑I.arcs.length:Int)),(36,.int .i64 k)],[(10,.row true 3 (.ints .i64 (S1 I k))),(9,.box true 114 [.ptr 8 0 0 0]),(8,.box true 126 [.int .i64 (↑I.sup.length:Int),.row 4,.row 6,.row 10]),(6,.row true 3 (.ints .i64 [])),(4,.row true 40 (.arcs I.arcs))],11⟩,rel:=fun k0 k=>k <= I.arcs.length,meas:=fun k=>I.arcs.length - k }),
 (12,{ G:=(Nat),inv:=fun k=>⟨[(3,.ptr 9 0 0 0),(77,.int .i64 (2 * I.sup.length:Nat)),(78,.int .i64 k)],[(10,.row true 3 (.ints .i64 (S2 I k))),(9,.box true 114 [.ptr 8 0 0 0]),(8,.box true 126 [.int .i64 (↑I.sup.length:Int),.row 4,.row 6,.row 10]),(6,.row true 3 (.ints .i64 [])),(4,.row true 40 (.arcs I.arcs))],11⟩,rel:=fun k0 k=>k <= 2 * I.sup.length,meas:=fun k=>2 * I.sup.length - k }),
 (20,{ G:=(Nat),inv:=fun k=>⟨[(3,.ptr 9 0 0 0),(9,.fn 85 [.ptr 9 0 0 0,.ptr 14 0 0 0]),(124,.int .i64 (↑I.arcs.length:Int)),(125,.int .i64 k)],[(14,.box true 25 [.row 12]),(12,.row true 3 (.ints .i64 (N3 I k))),(11,.row true 3 (.ints .i64 (L3 I k))),(10,.row true 3 (.ints .i64 (z1l I))),(9,.box true 114 [.ptr 8 0 0 0]),(8,.box true 126 [.int .i64 (↑I.sup.length:Int),.row 4,.row 11,.row 10]),(4,.row true 40 (.arcs I.arcs))],15⟩,rel:=fun k0 k=>k <= I.arcs.length,meas:=fun k=>I.arcs.length - k })]
def New_A:List SV->z0g->List (Nat × Ann):=fun args h=>match args,h with
 | [.agg [.row 0,.row 1]],[(0,.row false ty0 (.ints .i64 I_s)),(1,.row false ty1 (.arcs I_a))]=>New_an ⟨I_s,I_a⟩
 | _,_=>[]
def New_g:z0c:=[(Copy_n,(true,z03 true Copy_fs)),(GArc_n,(true,z03 true GArc_fs)),(CloneI_n,(true,z03 true zbf)),(put_n,(false,put_spec))]
abbrev New_n:Nat:=67
def New_I (I:Inst):List (Nat × z0a):=[]
def New_IA:List SV->z0g->List (Nat × z0a):=fun _ _=>[]
def along_r (x:List Int) (a:Int):FRes:={ pre:=0 <= a,res:=.int .i64 (x.getD a.toNat 0),rows:=[],eff:=[] }
def along_fs:FS:=fun args h=>match args,h with
 | [.row 0,.int .i64 a],[(0,.row false ty0 (.ints .i64 x))]=>some (along_r x a)
 | _,_=>none
def along_an (x:List Int) (a:Int):List (Nat × Ann):=[]
def along_A:List SV->z0g->List (Nat × Ann):=fun _ _=>[]
def along_g:z0c:=[]
abbrev along_n:Nat:=69
def along_I (x:List Int) (a:Int):List (Nat × z0a):=[]
def along_IA:List SV->z0g->List (Nat × z0a):=fun _ _=>[]
def fit_r (x:Arc) (n:Int):FRes:={ pre:=True,res:=.bool (fitF x n),rows:=[],eff:=[] }
def fit_fs:FS:=fun args h=>match args,h with
 | [.agg [.int .i64 x_0,.int .i64 x_1,.int .i64 x_2,.int .i64 x_3,.int .i64 x_4],.int .i64 n],[]=>some (fit_r ⟨x_0,x_1,x_2,x_3,x_4⟩ n)
 | _,_=>none
def fit_an (x:Arc) (n:Int):List (Nat × Ann):=[]
def fit_A:List SV->z0g->List (Nat × Ann):=fun _ _=>[]
def fit_g:z0c:=[]
abbrev fit_n:Nat:=56
def fit_I (x:Arc) (n:Int):List (Nat × z0a):=[]
def fit_IA:List SV->z0g->List (Nat × z0a):=fun _ _=>[]
abbrev more_n:Nat:=86
def more_g:z0c:=[(Of_n,(true,z03 true z8w)),(zc2,(true,z03 true z5h))]
def more_spec:Vc.Spec:=z1z TT more_g (fun _ _ _=>[]) Try.f86
abbrev less_n:Nat:=87
def less_g:z0c:=[(Of_n,(true,z03 true z8w)),(Minus_n,(true,z03 true z7t))]
def less_spec:Vc.Spec:=z1z TT less_g (fun _ _ _=>[]) Try.f87
abbrev flows_n:Nat:=68
def flows_g:z0c:=[(GArc_n,(true,z03 true GArc_fs)),(more_n,(false,more_spec)),(less_n,(false,less_spec))]
def flows_spec:Vc.Spec:=z1z TT flows_g (fun _ _ _=>[]) Try.f68
def Net_r (I:Inst) (x:List Int):FRes:={ pre:=I.sup.length <= 10000/\I.arcs.length <= 10000/\A64 x,res:=.row 3,rows:=[.row 49 (.wides (netF I x))],eff:=[] }
def Net_fs:FS:=fun args h=>match args,h with
 | [.agg [.row 0,.row 1],.row 2],[(0,.row false ty0 (.ints .i64 I_s)),(1,.row false ty1 (.arcs I_a)),(2,.row false ty2 (.ints .i64 x))]=>some (Net_r ⟨I_s,I_a⟩ x)
 | _,_=>none
def Net_an (I:Inst) (x:List Int):List (Nat × Ann):=[(1000002,{ G:=Unit,inv:=fun _=>⟨[(1,.row 2),(2,.ptr 3 0 0 0),(5,.ptr 12 0 0 0)],[(12,.box true 117 [.row 5,.ptr 6 0 0 0]),(6,.box true 126 [.int .i64 (↑I.sup.length:Int),.row 7,.row 8,.row 9]),(7,.row true 40 (.arcs I.arcs)),(8,.row true 3 (.ints .i64 (z83 I))),(9,.row true 3 (.ints .i64 (z1l I))),(5,.row true 49 (.wides (List.replicate (↑I.sup.length:Int).toNat { hi:=(0:Int),lo:=(0:Int):Wide }))),(3,.box true 30 [.row 0,.row 1]),(0,.row false 0 (.ints .i64 I.sup)),(1,.row false 0 (.arcs I.arcs)),(2,.row false 0 (.ints .i64 x))],13⟩,rel:=fun _ _=>True,meas:=fun _=>0 }),
 (3,{ G:=(Nat),inv:=fun k=>⟨[(1,.row 2),(5,.ptr 12 0 0 0),(16,.int .i64 (↑I.arcs.length:Int)),(17,.int .i64 k)],[(12,.box true 117 [.row 5,.ptr 6 0 0 0]),(6,.box true 126 [.int .i64 (↑I.sup.length:Int),.row 7,.row 8,.row 9]),(7,.row true 40 (.arcs I.arcs)),(8,.row true 3 (.ints .i64 (z83 I))),(9,.row true 3 (.ints .i64 (z1l I))),(5,.row true 49 (.wides (z3j I x k))),(2,.row false 0 (.ints .i64 x))],13⟩,rel:=fun k0 k=>k <= I.arcs.length,meas:=fun k=>I.arcs.length - k })]
def Net_A:List SV->z0g->List (Nat × Ann):=fun args h=>match args,h with
 | [.agg [.row 0,.row 1],.row 2],[(0,.row false ty0 (.ints .i64 I_s)),(1,.row false ty1 (.arcs I_a)),(2,.row false ty2 (.ints .i64 x))]=>Net_an ⟨I_s,I_a⟩ x
 | _,_=>[]
def Net_g:z0c:=[(New_n,(true,z03 true New_fs)),(along_n,(true,z03 true along_fs)),(flows_n,(false,flows_spec))]
abbrev Net_n:Nat:=57
def Net_I (I:Inst) (x:List Int):List (Nat × z0a):=[]
def Net_IA:List SV->z0g->List (Nat × z0a):=fun _ _=>[]
def Fits_r (I:Inst) (x:List Int):FRes:={ pre:=I.sup.length <= 10000/\I.arcs.length <= 10000/\A64 x/\A64 I.sup,res:=.int .u16 (z16 I x),rows:=[],eff:=[] }
def Fits_fs:FS:=fun args h=>match args,h with
 | [.agg [.row 0,.row 1],.row 2],[(0,.row false ty0 (.ints .i64 I_s)),(1,.row false ty1 (.arcs I_a)),(2,.row false ty2 (.ints .i64 x))]=>some (Fits_r ⟨I_s,I_a⟩ x)
 | _,_=>none
def Fits_an (I:Inst) (x:List Int):List (Nat × Ann):=[(7,{ G:=(Nat),inv:=fun k=>⟨[(1,.row 2),(2,.ptr 3 0 0 0),(22,.row 1),(23,.int .i64 (↑I.arcs.length:Int)),(24,.int .i64 k)],[(3,.box true 30 [.row 0,.row 1]),(0,.row false 0 (.ints .i64 I.sup)),(1,.row false 0 (.arcs I.arcs)),(2,.row false 0 (.ints .i64 x))],4⟩,rel:=fun k0 k=>k <= I.arcs.length/\z1j (I.arcs.drop k) (x.drop k) = z1j I.arcs x,meas:=fun k=>I.arcs.length - k }),
 (13,{ G:=(Nat),inv:=fun k=>⟨[(2,.ptr 3 0 0 0),(39,.row 4),(40,.int .i64 (↑(netF I x).length:Int)),(41,.int .i64 k)],[(4,.row true 49 (.wides (netF I x))),(3,.box true 30 [.row 0,.row 1]),(0,.row false 0 (.ints .i64 I.sup)),(1,.row false 0 (.arcs I.arcs))],5⟩,rel:=fun k0 k=>k <= I.sup.length/\∀ v,v < k->W (z6o I.sup.length I.arcs x I.arcs.length v) = W (I.sup.getD v 0),meas:=fun k=>I.sup.length - k })]
def Fits_A:List SV->z0g->List (Nat × Ann):=fun args h=>match args,h with
 | [.agg [.row 0,.row 1],.row 2],[(0,.row false ty0 (.ints .i64 I_s)),(1,.row false ty1 (.arcs I_a)),(2,.row false ty2 (.ints .i64 x))]=>Fits_an ⟨I_s,I_a⟩ x
 | _,_=>[]
def Fits_g:z0c:=[(z91,(true,z03 true z4r)),(fit_n,(true,z03 true fit_fs)),(Net_n,(true,z03 true Net_fs)),(Of_n,(true,z03 true z8w))]
abbrev Fits_n:Nat:=49
def Fits_I (I:Inst) (x:List Int):List (Nat × z0a):=[]
def Fits_IA:List SV->z0g->List (Nat × z0a):=fun _ _=>[]
end Go.Proofs.Ytapeenpimcffpaa
end
