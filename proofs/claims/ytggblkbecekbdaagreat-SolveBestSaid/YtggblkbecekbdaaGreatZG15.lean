/- Part of the proof: FP11, DC10, FC10, DQ11, FQ11, DR12, FR12, DS12, FS12. -/
import Derived.Test.YtggblkbecekbdaaGreatZG8
import Derived.Test.YtggblkbecekbdaaGreatZG14
import Derived.Test.YtggblkbecekbdaaGreatZG5
import Derived.Test.YtggblkbecekbdaaGreatZG9
import Derived.Test.YtggblkbecekbdaaGreatZG7
set_option linter.unusedVariables false
set_option linter.all false
set_option linter.unusedSimpArgs false
set_option maxRecDepth 1000000
section
namespace Go.Proofs.YtggblkbecekbdaaGreat
open Go Go.RowKit Go.Ql Go.Vc
def of11_E0 (pot : List Int) (n : Int) (ty0 : TypeId) : Prop :=
      (decide (n ≥ (↑pot.length:Int))=true->((0:Int)=pot.getD n.toNat (0:Int)/\True)/\True) /\
 (decide (n ≥ (↑pot.length:Int))=false ->
 ((0:Int) <= n/\n<(↑pot.length:Int))/\n.toNat<pot.length/\∀ (x:Int),pot[n.toNat]? = some x->(x=pot.getD n.toNat (0:Int)/\True)/\True)
theorem of11_q (pot:List Int) (n:Int) (ty0:TypeId):of11_E0 pot n ty0=z23 TT of11_g (of11_I pot n) (of11_an pot n) Tryz.f128 [.row 0,.int .i64 n] [(0,.row false ty0 (.ints .i64 pot))] (of11_r pot n):=by kernel_rfl
theorem of11_E (pot:List Int) (n:Int) (ty0:TypeId) (hp:0 <= n):FVc TT of11_g (of11_I pot n) (of11_an pot n) Tryz.f128 [.row 0,.int .i64 n] [(0,.row false ty0 (.ints .i64 pot))] (of11_r pot n):=by
 refine FVc.of (of11_E0 pot n ty0) (of11_q pot n ty0) ?_
 unfold of11_E0
 simp only [eq_self,exists_const,forall_const,ne_eq,Int.toNat_natCast,zSS,z08]
 refine ⟨fun h=>?_,fun h=>⟨by omega,by omega,fun x hx=>?_⟩⟩
 ·simp [List.getD,List.getElem?_eq_none (show pot.length <= n.toNat by omega)]
 ·simp [List.getD,hx]
theorem of11_ok:SpecOk Tryz.prog of11_n true (z02 true of11_fs) :=
 z09 z0i (show z15 Tryz.prog of11_g from z03) (by kernel_rfl) mixedOrders Tryz.func128 rfl rfl (by kernel_rfl) (n:=2) (by decide +kernel) (I:=of11_IA) (fun _ _=>z07) (A:=of11_A)
  (fun args h r hr=>by
   unfold of11_fs at hr
   split at hr
   ·rename_i n ty0 pot; cases hr; refine ⟨rfl,fun hp=>?_⟩; have hE:=of11_E pot n ty0 hp; exact hE
   ·cases hr)
def zg8 (p : Arc) (pf : Int) (pt : Int) : Prop :=
      I64 p.cost /\
 I64 pf /\
 ((W p.cost).ok/\(W pf).ok) /\
 I64 pt /\
 ((z30 (W p.cost) (W pf)).ok/\(W pt).ok) /\
 (((z3a (z30 (W p.cost) (W pf)) (W pt)).hi=(W (redA p pf pt)).hi/\(z3a (z30 (W p.cost) (W pf)) (W pt)).lo=(W (redA p pf pt)).lo/\True)/\True)/\True
theorem reduced_q (p:Arc) (pf:Int) (pt:Int):zg8 p pf pt=z23 TT zme (reduced_I p pf pt) (reduced_an p pf pt) Tryz.f73 [.agg [.int .i64 p.src,.int .i64 p.dst,.int .i64 p.low,.int .i64 p.cap,.int .i64 p.cost,.int .i64 pf,.int .i64 pt]] [] (zmf p pf pt):=by kernel_rfl
theorem reduced_E (p:Arc) (pf:Int) (pt:Int) (hp:I64 p.cost/\I64 pf/\I64 pt):FVc TT zme (reduced_I p pf pt) (reduced_an p pf pt) Tryz.f73 [.agg [.int .i64 p.src,.int .i64 p.dst,.int .i64 p.low,.int .i64 p.cap,.int .i64 p.cost,.int .i64 pf,.int .i64 pt]] [] (zmf p pf pt):=by
 refine FVc.of (zg8 p pf pt) (reduced_q p pf pt) ?_
 unfold zg8
 obtain ⟨p1,p2,p3⟩:=hp
 simp only [eq_self,exists_const,forall_const,ne_eq,Int.toNat_natCast,zSS,z08]
 simp [p1,p2,p3,z78,redA]
theorem reduced_ok:SpecOk Tryz.prog reduced_n true (z02 true zg9) :=
 z09 z0i (show z15 Tryz.prog zme from z00 zet (z00 zho (z00 Of_ok (z03)))) (by kernel_rfl) mixedOrders Tryz.func73 rfl rfl (by kernel_rfl) (n:=1) (by decide +kernel) (I:=reduced_IA) (fun _ _=>z07) (A:=reduced_A)
  (fun args h r hr=>by
   unfold zg9 at hr
   split at hr
   ·rename_i p_0 p_1 p_2 p_3 p_4 pf pt; cases hr; refine ⟨rfl,fun hp=>?_⟩; have hE:=reduced_E ⟨p_0,p_1,p_2,p_3,p_4⟩ pf pt hp; exact hE
   ·cases hr)
def sign_E0 (p : Arc) (pf : Int) (pt : Int) : Prop :=
   (I64 p.cost/\I64 pf/\I64 pt)/\I64 (0:Int)/\((W (redA p pf pt)).ok/\(W (0:Int)).ok)/\(z8u (W (redA p pf pt)) (W (0:Int))=sgn (redA p pf pt)/\True)/\True
theorem sign_q (p:Arc) (pf:Int) (pt:Int):sign_E0 p pf pt=z23 TT sign_g (sign_I p pf pt) (sign_an p pf pt) Tryz.f157 [.agg [.int .i64 p.src,.int .i64 p.dst,.int .i64 p.low,.int .i64 p.cap,.int .i64 p.cost,.int .i64 pf,.int .i64 pt]] [] (sign_r p pf pt):=by kernel_rfl
theorem sign_E (p:Arc) (pf:Int) (pt:Int) (hp:I64 p.cost/\I64 pf/\I64 pt):FVc TT sign_g (sign_I p pf pt) (sign_an p pf pt) Tryz.f157 [.agg [.int .i64 p.src,.int .i64 p.dst,.int .i64 p.low,.int .i64 p.cap,.int .i64 p.cost,.int .i64 pf,.int .i64 pt]] [] (sign_r p pf pt):=by
 refine FVc.of (sign_E0 p pf pt) (sign_q p pf pt) ?_
 unfold sign_E0
 obtain ⟨p1,p2,p3⟩:=hp
 have i0:I64 0:=by simp [I64]
 simp only [eq_self,exists_const,forall_const,ne_eq,Int.toNat_natCast,zSS,z08]
 simp [p1,p2,p3,z78,i0,sgn]
theorem sign_ok:SpecOk Tryz.prog sign_n true (z02 true sign_fs) :=
 z09 z0i (show z15 Tryz.prog sign_g from z00 za5 (z00 reduced_ok (z00 Of_ok (z03)))) (by kernel_rfl) mixedOrders Tryz.func157 rfl rfl (by kernel_rfl) (n:=1) (by decide +kernel) (I:=sign_IA) (fun _ _=>z07) (A:=sign_A)
  (fun args h r hr=>by
   unfold sign_fs at hr
   split at hr
   ·rename_i p_0 p_1 p_2 p_3 p_4 pf pt; cases hr; refine ⟨rfl,fun hp=>?_⟩; have hE:=sign_E ⟨p_0,p_1,p_2,p_3,p_4⟩ pf pt hp; exact hE
   ·cases hr)
theorem at_ok {I:Inst} {pot:List Int} {a:Int} (h1:A64 pot) (h2:zcm I.arcs):I64 (atA I a).cost/\I64 (atF I pot a)/\I64 (atT I pot a):=by
 have z:I64 0:=by simp [I64]
 refine ⟨?_,?_,?_⟩
 ·unfold atA z2c
  split
  ·rename_i h
   unfold gOk at h
   simp only [Bool.and_eq_true,decide_eq_true_eq] at h
   have hl:a.toNat<I.arcs.length:=by omega
   rw [List.getD_eq_getElem?_getD,List.getElem?_eq_getElem hl]
   exact h2 _ (List.getElem_mem hl)
  ·exact z
 ·unfold atF
  split
  ·exact h1.getD _
  ·exact z
 ·unfold atT
  split
  ·exact h1.getD _
  ·exact z
def at11_E0 (I : Inst) (pot : List Int) (a : Int) (ty0 ty1 ty2 : TypeId) : Prop :=
      (decide (a<(0:Int))=true ->
 ((((0:Int)=(atA I a).src /\
 (0:Int)=(atA I a).dst /\
 (0:Int)=(atA I a).low/\(0:Int)=(atA I a).cap/\(0:Int)=(atA I a).cost/\(0:Int)=atF I pot a/\(0:Int)=atT I pot a/\True) /\
 false=gOk (↑I.sup.length:Int) I.arcs a/\True) /\
 True) /\
 True) /\
 (decide (a<(0:Int))=false ->
 (decide (a ≥ (↑I.arcs.length:Int))=true ->
 ((((0:Int)=(atA I a).src /\
 (0:Int)=(atA I a).dst /\
 (0:Int)=(atA I a).low/\(0:Int)=(atA I a).cap/\(0:Int)=(atA I a).cost/\(0:Int)=atF I pot a/\(0:Int)=atT I pot a/\True) /\
 false=gOk (↑I.sup.length:Int) I.arcs a/\True) /\
 True) /\
 True) /\
 (decide (a ≥ (↑I.arcs.length:Int))=false ->
 ((0:Int) <= a/\a<(↑I.arcs.length:Int)) /\
 a.toNat<I.arcs.length /\
 ∀ (x:Arc),
 I.arcs[a.toNat]? = some x ->
 (decide (x.src<(0:Int))=true ->
 ((((0:Int)=(atA I a).src /\
 (0:Int)=(atA I a).dst /\
 (0:Int)=(atA I a).low/\(0:Int)=(atA I a).cap/\(0:Int)=(atA I a).cost/\(0:Int)=atF I pot a/\(0:Int)=atT I pot a/\True) /\
 false=gOk (↑I.sup.length:Int) I.arcs a/\True) /\
 True) /\
 True) /\
 (decide (x.src<(0:Int))=false ->
 (decide (x.src ≥ (↑I.sup.length:Int))=true ->
 ((((0:Int)=(atA I a).src /\
 (0:Int)=(atA I a).dst /\
 (0:Int)=(atA I a).low/\(0:Int)=(atA I a).cap/\(0:Int)=(atA I a).cost/\(0:Int)=atF I pot a/\(0:Int)=atT I pot a/\True) /\
 false=gOk (↑I.sup.length:Int) I.arcs a/\True) /\
 True) /\
 True) /\
 (decide (x.src ≥ (↑I.sup.length:Int))=false ->
 (decide (x.dst<(0:Int))=true ->
 ((((0:Int)=(atA I a).src /\
 (0:Int)=(atA I a).dst /\
 (0:Int)=(atA I a).low /\
 (0:Int)=(atA I a).cap/\(0:Int)=(atA I a).cost/\(0:Int)=atF I pot a/\(0:Int)=atT I pot a/\True) /\
 false=gOk (↑I.sup.length:Int) I.arcs a/\True) /\
 True) /\
 True) /\
 (decide (x.dst<(0:Int))=false ->
 (decide (x.dst ≥ (↑I.sup.length:Int))=true ->
 ((((0:Int)=(atA I a).src /\
 (0:Int)=(atA I a).dst /\
 (0:Int)=(atA I a).low /\
 (0:Int)=(atA I a).cap/\(0:Int)=(atA I a).cost/\(0:Int)=atF I pot a/\(0:Int)=atT I pot a/\True) /\
 false=gOk (↑I.sup.length:Int) I.arcs a/\True) /\
 True) /\
 True) /\
 (decide (x.dst ≥ (↑I.sup.length:Int))=false ->
 (0:Int) <= x.src /\
 (0:Int) <= x.dst /\
 (((x.src=(atA I a).src /\
 x.dst=(atA I a).dst /\
 x.low=(atA I a).low /\
 x.cap=(atA I a).cap /\
 x.cost=(atA I a).cost/\pot.getD x.src.toNat (0:Int)=atF I pot a/\pot.getD x.dst.toNat (0:Int)=atT I pot a/\True) /\
 true=gOk (↑I.sup.length:Int) I.arcs a/\True) /\
 True) /\
 True))))))
theorem at11_q (I:Inst) (pot:List Int) (a:Int) (ty0 ty1 ty2:TypeId):at11_E0 I pot a ty0 ty1 ty2=z23 TT at11_g (at11_I I pot a) (at11_an I pot a) Tryz.f72 [.agg [.row 0,.row 1],.row 2,.int .i64 a] [(0,.row false ty0 (.ints .i64 I.sup)),(1,.row false ty1 (.arcs I.arcs)),(2,.row false ty2 (.ints .i64 pot))] (at11_r I pot a):=by kernel_rfl
theorem at11_E (I:Inst) (pot:List Int) (a:Int) (ty0 ty1 ty2:TypeId) (hp:True):FVc TT at11_g (at11_I I pot a) (at11_an I pot a) Tryz.f72 [.agg [.row 0,.row 1],.row 2,.int .i64 a] [(0,.row false ty0 (.ints .i64 I.sup)),(1,.row false ty1 (.arcs I.arcs)),(2,.row false ty2 (.ints .i64 pot))] (at11_r I pot a):=by
 refine FVc.of (at11_E0 I pot a ty0 ty1 ty2) (at11_q I pot a ty0 ty1 ty2) ?_
 unfold at11_E0
 have z:gOk I.sup.length I.arcs a=false->(0=(atA I a).src/\0=(atA I a).dst/\0=(atA I a).low/\0=(atA I a).cap/\0=(atA I a).cost/\0=atF I pot a/\0=atT I pot a)/\false=gOk I.sup.length I.arcs a:=fun h=>by
  simp [atA,z2c,atF,atT,h]
 simp only [eq_self,exists_const,forall_const,ne_eq,Int.toNat_natCast,zSS,z08]
 refine ⟨fun h=>z (zbp (.inl h)),fun h=>⟨fun h2=>z (zbp (.inr h2)),fun h2=>⟨by omega,by omega,fun x hx=>?_⟩⟩⟩
 have hg:=zb7 (n:=I.sup.length) (a:=a) (by omega) hx
 have no:¬ (0 <= x.src/\x.src<I.sup.length/\0 <= x.dst/\x.dst<I.sup.length)->gOk I.sup.length I.arcs a=false:=fun h=>by
  rw [hg]
  cases ho:z34 (I.sup.length:Int) x with
  | false=>rfl
  | true=>exact absurd (okArc_iff.1 ho) h
 refine ⟨fun h3=>z (no (by omega)),fun h3=>⟨fun h4=>z (no (by omega)),fun h4=>⟨fun h5=>z (no (by omega)),fun h5=>⟨fun h6=>z (no (by omega)),fun h6=>⟨by omega,by omega,?_⟩⟩⟩⟩⟩
 have hgt:gOk I.sup.length I.arcs a=true:=by rw [hg]; exact okArc_iff.2 ⟨by omega,by omega,by omega,by omega⟩
 have hA:atA I a=x:=by unfold atA z2c; rw [if_pos hgt]; simp [List.getD,hx]
 simp [hgt,hA,atF,atT]
theorem at11_ok:SpecOk Tryz.prog at11_n true (z02 true at11_fs) :=
 z09 z0i (show z15 Tryz.prog at11_g from z00 of11_ok (z03)) (by kernel_rfl) mixedOrders Tryz.func72 rfl rfl (by kernel_rfl) (n:=3) (by decide +kernel) (I:=at11_IA) (fun _ _=>z07) (A:=at11_A)
  (fun args h r hr=>by
   unfold at11_fs at hr
   split at hr
   ·rename_i a ty0 I_s ty1 I_a ty2 pot; cases hr; refine ⟨rfl,fun hp=>?_⟩; have hE:=at11_E ⟨I_s,I_a⟩ pot a ty0 ty1 ty2 hp; exact hE
   ·cases hr)
theorem arcs11_ok:SpecOk Tryz.prog arcs11_n false zjc :=
 z7d z0i (show z15 Tryz.prog arcs11_g from z03) (by kernel_rfl) mixedOrders Tryz.func156 rfl rfl (by kernel_rfl) _
abbrev za7 (I:Inst) (g':Nat) (g:Nat) (R:Loop->Prop) (x:List Int) (pot:List Int):=(I.arcs.length - g'<I.arcs.length - g/\((True/\(0=0/\(0=0/\((↑I.arcs.length:Int)=↑I.arcs.length/\(IntKind.i64.wrap ((↑g:Int)+(1:Int))=(↑g':Int)/\True)))))/\(R=R/\((True/\True)/\((True/\(True/\True))/\(((0:Int)=0/\True)/\((True/\True)/\((True/\(True/\True))/\(I.sup=I.sup/\(I.arcs=I.arcs/\(x=x/\(pot=pot/\True))))))))))))
abbrev z7v (I:Inst) (g:Nat) (pot:List Int):=(redA (atA I (↑g:Int)) (atF I pot (↑g:Int)) (atT I pot (↑g:Int)))
abbrev za8 (g':Nat) (I:Inst) (x:List Int) (pot:List Int):=(g' <= I.arcs.length/\(∀ (j:Nat),j<g'->z22 I x pot j=true))
abbrev zcp (I:Inst) (g:Nat):=((atA I (↑g:Int)).cap == (4611686018427387904:Int))
def Slack_E0 (I : Inst) (x : List Int) (pot : List Int) (ty0 ty1 ty2 ty3 : TypeId) : Prop :=
   (I.sup.length <= (10000:Nat)/\(I.arcs.length <= (10000:Nat)/\(A64 x/\(A64 I.sup))))/\((z0v I x != (0:Int))=true->(z0v I x=z0z I x pot/\True)/\True)/\((z0v I x != (0:Int))=false->(((↑pot.length:Int) != (↑I.sup.length:Int))=true->((30:Int)=z0z I x pot/\True)/\True)/\(((↑pot.length:Int) != (↑I.sup.length:Int))=false->∀ (R:Loop->Prop),∃ (g0:Nat),((g0 <= I.arcs.length/\(∀ (j:Nat),j<g0->z22 I x pot j=true))/\((True/\(0=0/\(0=0/\((↑I.arcs.length:Int)=↑I.arcs.length/\((0:Int)=↑g0/\True)))))/\(R=R/\((True/\True)/\((True/\(True/\True))/\(((0:Int)=0/\True)/\((True/\True)/\((True/\(True/\True))/\(I.sup=I.sup/\(I.arcs=I.arcs/\(x=x/\(pot=pot/\True))))))))))))/\∀ (g:Nat),(g <= I.arcs.length/\(∀ (j:Nat),j<g->z22 I x pot j=true))->(decide ((↑g:Int)<↑I.arcs.length)=true->True/\(gOk (↑I.sup.length:Int) I.arcs (↑g:Int)=true->R=R/\(I64 (atA I (↑g:Int)).cost/\(I64 (atF I pot (↑g:Int))/\(I64 (atT I pot (↑g:Int)))))/\(decide (sgn (z7v I g pot) > (0:Int))=true->((0:Int) <= ↑g/\((↑g:Int)<↑x.length))/\((↑g:Int).toNat<x.length/\(∀ (x_1:Int),x[(↑g:Int).toNat]? = some x_1->((x_1 != (atA I (↑g:Int)).low)=true->((33:Int)=z0z I x pot/\True)/\True)/\((x_1 != (atA I (↑g:Int)).low)=false->(decide (sgn (z7v I g pot)<(0:Int))=true->((0:Int) <= ↑g/\((↑g:Int)<↑x.length))/\((↑g:Int).toNat<x.length/\(∀ (x_2:Int),x[(↑g:Int).toNat]? = some x_2->((x_2 != (atA I (↑g:Int)).cap)=true->((33:Int)=z0z I x pot/\True)/\True)/\((x_2 != (atA I (↑g:Int)).cap)=false->((zcp I g)=true->((33:Int)=z0z I x pot/\True)/\True)/\((zcp I g)=false->∃ (g':Nat),(za8 g' I x pot)/\(za7 I g' g R x pot))))))/\(decide (sgn (z7v I g pot)<(0:Int))=false->∃ (g':Nat),(za8 g' I x pot)/\(za7 I g' g R x pot))))))/\(decide (sgn (z7v I g pot) > (0:Int))=false->(decide (sgn (z7v I g pot)<(0:Int))=true->((0:Int) <= ↑g/\((↑g:Int)<↑x.length))/\((↑g:Int).toNat<x.length/\(∀ (x_1:Int),x[(↑g:Int).toNat]? = some x_1->((x_1 != (atA I (↑g:Int)).cap)=true->((33:Int)=z0z I x pot/\True)/\True)/\((x_1 != (atA I (↑g:Int)).cap)=false->((zcp I g)=true->((33:Int)=z0z I x pot/\True)/\True)/\((zcp I g)=false->∃ (g':Nat),(za8 g' I x pot)/\(za7 I g' g R x pot))))))/\(decide (sgn (z7v I g pot)<(0:Int))=false->∃ (g':Nat),(za8 g' I x pot)/\(za7 I g' g R x pot))))/\(gOk (↑I.sup.length:Int) I.arcs (↑g:Int)=false->∃ (g':Nat),(za8 g' I x pot)/\(za7 I g' g R x pot)))/\(decide ((↑g:Int)<↑I.arcs.length)=false->((0:Int)=z0z I x pot/\True)/\True)))
theorem Slack_q (I:Inst) (x:List Int) (pot:List Int) (ty0 ty1 ty2 ty3:TypeId):Slack_E0 I x pot ty0 ty1 ty2 ty3=z23 TT Slack_g (Slack_I I x pot) (Slack_an I x pot) Tryz.f133 [.agg [.row 0,.row 1],.row 2,.row 3] [(0,.row false ty0 (.ints .i64 I.sup)),(1,.row false ty1 (.arcs I.arcs)),(2,.row false ty2 (.ints .i64 x)),(3,.row false ty3 (.ints .i64 pot))] (Slack_r I x pot):=by kernel_rfl
theorem Slack_E (I:Inst) (x:List Int) (pot:List Int) (ty0 ty1 ty2 ty3:TypeId) (hp:I.sup.length <= 10000/\I.arcs.length <= 10000/\A64 x/\A64 I.sup/\A64 pot/\zcm I.arcs):FVc TT Slack_g (Slack_I I x pot) (Slack_an I x pot) Tryz.f133 [.agg [.row 0,.row 1],.row 2,.row 3] [(0,.row false ty0 (.ints .i64 I.sup)),(1,.row false ty1 (.arcs I.arcs)),(2,.row false ty2 (.ints .i64 x)),(3,.row false ty3 (.ints .i64 pot))] (Slack_r I x pot):=by
 refine FVc.of (Slack_E0 I x pot ty0 ty1 ty2 ty3) (Slack_q I x pot ty0 ty1 ty2 ty3) ?_
 unfold Slack_E0
 delta zcp za8 z7v za7
 obtain ⟨p1,p2,p3,p4,p5,p6⟩:=hp
 have bad:∀ j,j<I.arcs.length->z0v I x=0->pot.length=I.sup.length->z22 I x pot j=false->33=z0z I x pot:=fun j hj h1 h2 h3=>by
  unfold z0z
  rw [if_neg (by omega),if_neg (by omega),if_neg]
  intro ha
  have:=List.all_eq_true.1 ha j (List.mem_range.2 hj)
  rw [h3] at this; cases this
 have nx:∀ g,g<I.arcs.length->(∀ j,j<g->z22 I x pot j=true)->z22 I x pot g=true->∃ g',(g' <= I.arcs.length/\∀ j,j<g'->z22 I x pot j=true)/\I.arcs.length - g'<I.arcs.length - g/\IntKind.i64.wrap ((g:Int)+1)=(g':Int):=fun g hg h1 h2 =>
  ⟨g+1,⟨by omega,fun j hj=>by
   by_cases e:j=g
   ·subst e; exact h2
   ·exact h1 j (by omega)⟩,by omega,by rw [w64 (by omega) (by omega)]; omega⟩
 simp only [eq_self,exists_const,forall_const,ne_eq,Int.toNat_natCast,zSS,z08]
 refine ⟨⟨p1,p2,p3,p4⟩,fun h=>by unfold z0z; rw [if_pos h],fun hf=>⟨fun h=>by unfold z0z; rw [if_neg (by omega),if_pos (by omega)],fun hl=>⟨0,⟨⟨by omega,fun j hj=>by omega⟩,rfl⟩,fun g hg=>⟨fun h1=>?_,fun h1=>?_⟩⟩⟩⟩
 ·have hz:=fitsF_zero.1 hf
  have hgl:g<I.arcs.length:=by omega
  have hgx:g<x.length:=by omega
  obtain ⟨b,hb⟩:∃ b,I.arcs[g]? = some b:=⟨_,List.getElem?_eq_getElem hgl⟩
  obtain ⟨y,hy⟩:∃ y,x[g]? = some y:=⟨_,List.getElem?_eq_getElem hgx⟩
  have ho:=(z1u hz.1 (List.mem_of_getElem? hb)).1
  have hgk:gOk I.sup.length I.arcs (g:Int)=true:=by rw [zb7 (by omega) (by rw [Int.toNat_natCast]; exact hb)]; exact ho
  have hA:=atA_get hb ho
  have hr:redA (atA I g) (atF I pot g) (atT I pot g)=zel I pot g:=by unfold zel; rw [if_pos hgk]
  have hbd:I.arcs.getD g default=b:=by simp [List.getD,hb]
  have hyd:x.getD g 0=y:=by simp [List.getD,hy]
  have key:z22 I x pot g=z5r (zel I pot g) y b:=by unfold z22; rw [hbd,hyd]
  refine ⟨fun _=>⟨at_ok p5 p6,?_⟩,fun h=>by rw [hgk] at h; cases h⟩
  have B:=bad g hgl hf (by omega)
  have N:=nx g hgl hg.2
  rw [key] at B N
  rw [hr,hA]
  simp only [hy,Option.some.injEq,forall_eq']
  have q1:(0:Int) <= g:=by omega
  have q2:(g:Int)<x.length:=by omega
  unfold z5r inf at B N
  generalize zel I pot g=r at *
  refine ⟨fun c1=>⟨⟨q1,q2⟩,hgx,fun c2=>B (by simp [show 0<sgn r from c1,c2]),fun c2=>⟨fun c3=>by omega,fun c3=>N (by simp [c3,c2])⟩⟩,fun c1=>⟨fun c3=>⟨⟨q1,q2⟩,hgx,fun c4=>B (by simp [c3,c4]),fun c4=>⟨fun c5=>B (by simp [c3,c5]),fun c5=>N (by simp [show ¬ 0<sgn r from c1,c4,c5])⟩⟩,fun c3=>N (by simp [show ¬ 0<sgn r from c1,c3])⟩⟩
 ·have:(List.range I.arcs.length).all (z22 I x pot)=true:=List.all_eq_true.2 fun j hj=>hg.2 j (by have:=List.mem_range.1 hj; omega)
  unfold z0z
  rw [if_neg (by omega),if_neg (by omega),if_pos this]
theorem Slack_i0_ok (I:Inst) (x:List Int) (pot:List Int):zbe Tryz.prog 161 (Slack_i0 I x pot) :=
 inlI_ok z0i (show z15 Tryz.prog Slack_i0g from z00 at11_ok (z03)) (by kernel_rfl) mixedOrders Tryz.func161 rfl rfl (fun key spec=>by kernel_rfl) _
theorem Slack_ok:SpecOk Tryz.prog Slack_n true (z02 true Slack_fs) :=
 z09 z0i (show z15 Tryz.prog Slack_g from z00 Fits_ok (z00 arcs11_ok (z00 sign_ok (z03)))) (by kernel_rfl) mixedOrders Tryz.func133 rfl rfl (by kernel_rfl) (n:=3) (by decide +kernel) (I:=Slack_IA) (fun args h=>by
   unfold Slack_IA
   split
   ·exact zd0 (Slack_i0_ok _ _ _) (z07)
   ·exact z07) (A:=Slack_A)
  (fun args h r hr=>by
   unfold Slack_fs at hr
   split at hr
   ·rename_i ty0 I_s ty1 I_a ty2 x ty3 pot; cases hr; refine ⟨rfl,fun hp=>?_⟩; have hE:=Slack_E ⟨I_s,I_a⟩ x pot ty0 ty1 ty2 ty3 hp; exact hE
   ·cases hr)
abbrev z5c (I:Inst) (a:Int) (pot:List Int):=(((W (z2c (↑I.sup.length:Int) I.arcs a).cost).ok/\((W (if (0:Int) <= (z2c (↑I.sup.length:Int) I.arcs a).src then pot.getD (z2c (↑I.sup.length:Int) I.arcs a).src.toNat (0:Int) else (0:Int))).ok))/\(True/\(I64 (if (0:Int) <= (z2c (↑I.sup.length:Int) I.arcs a).dst then pot.getD (z2c (↑I.sup.length:Int) I.arcs a).dst.toNat (0:Int) else (0:Int))/\(((z30 (W (z2c (↑I.sup.length:Int) I.arcs a).cost) (W (if (0:Int) <= (z2c (↑I.sup.length:Int) I.arcs a).src then pot.getD (z2c (↑I.sup.length:Int) I.arcs a).src.toNat (0:Int) else (0:Int)))).ok/\((W (if (0:Int) <= (z2c (↑I.sup.length:Int) I.arcs a).dst then pot.getD (z2c (↑I.sup.length:Int) I.arcs a).dst.toNat (0:Int) else (0:Int))).ok))/\((((z3a (z30 (W (z2c (↑I.sup.length:Int) I.arcs a).cost) (W (if (0:Int) <= (z2c (↑I.sup.length:Int) I.arcs a).src then pot.getD (z2c (↑I.sup.length:Int) I.arcs a).src.toNat (0:Int) else (0:Int)))) (W (if (0:Int) <= (z2c (↑I.sup.length:Int) I.arcs a).dst then pot.getD (z2c (↑I.sup.length:Int) I.arcs a).dst.toNat (0:Int) else (0:Int)))).hi=(W (zel I pot a)).hi/\((z3a (z30 (W (z2c (↑I.sup.length:Int) I.arcs a).cost) (W (if (0:Int) <= (z2c (↑I.sup.length:Int) I.arcs a).src then pot.getD (z2c (↑I.sup.length:Int) I.arcs a).src.toNat (0:Int) else (0:Int)))) (W (if (0:Int) <= (z2c (↑I.sup.length:Int) I.arcs a).dst then pot.getD (z2c (↑I.sup.length:Int) I.arcs a).dst.toNat (0:Int) else (0:Int)))).lo=(W (zel I pot a)).lo/\True))/\True)/\True)))))
abbrev z6k (I:Inst) (a:Int) (pot:List Int):=(if (0:Int) <= (z2c (↑I.sup.length:Int) I.arcs a).src then pot.getD (z2c (↑I.sup.length:Int) I.arcs a).src.toNat (0:Int) else (0:Int))
def zc3 (I : Inst) (pot : List Int) (a : Int) (ty0 ty1 ty2 : TypeId) : Prop :=
   True/\((!gOk (↑I.sup.length:Int) I.arcs a)=true->(((0:Int)=(W (zel I pot a)).hi/\((0:Int)=(W (zel I pot a)).lo/\True))/\True)/\True)/\((!gOk (↑I.sup.length:Int) I.arcs a)=false->(I64 (z2c (↑I.sup.length:Int) I.arcs a).cost/\(True/\(I64 (z6k I a pot)/\(z5c I a pot)/\(z5c I a pot))/\(I64 (z6k I a pot)/\(z5c I a pot)))/\(True/\(I64 (z6k I a pot)/\(z5c I a pot))))/\(I64 (z2c (↑I.sup.length:Int) I.arcs a).cost/\(True/\(I64 (z6k I a pot)/\(z5c I a pot)))))
theorem rReduced_q (I:Inst) (pot:List Int) (a:Int) (ty0 ty1 ty2:TypeId):zc3 I pot a ty0 ty1 ty2=z23 TT zg5 (rReduced_I I pot a) (zm7 I pot a) Tryz.f89 [.agg [.row 0,.row 1],.row 2,.int .i64 a] [(0,.row false ty0 (.ints .i64 I.sup)),(1,.row false ty1 (.arcs I.arcs)),(2,.row false ty2 (.ints .i64 pot))] (zg6 I pot a):=by kernel_rfl
theorem rReduced_E (I:Inst) (pot:List Int) (a:Int) (ty0 ty1 ty2:TypeId) (hp:A64 pot/\zcm I.arcs):FVc TT zg5 (rReduced_I I pot a) (zm7 I pot a) Tryz.f89 [.agg [.row 0,.row 1],.row 2,.int .i64 a] [(0,.row false ty0 (.ints .i64 I.sup)),(1,.row false ty1 (.arcs I.arcs)),(2,.row false ty2 (.ints .i64 pot))] (zg6 I pot a):=by
 refine FVc.of (zc3 I pot a ty0 ty1 ty2) (rReduced_q I pot a ty0 ty1 ty2) ?_
 unfold zc3
 delta z6k z5c
 obtain ⟨p1,p2⟩:=hp
 have hk:=at_ok (a:=a) p1 p2
 simp only [eq_self,exists_const,forall_const,ne_eq,Int.toNat_natCast,zSS,z08]
 refine ⟨fun h=>?_,fun h=>?_⟩
 ·unfold zel; rw [h,if_neg (by decide),W_zero]; exact ⟨rfl,rfl⟩
 ·have ho:=gOk_ok h
  obtain ⟨o1,o2,o3,o4⟩:=okArc_iff.1 ho
  have e:z2c (I.sup.length:Int) I.arcs a=atA I a:=rfl
  have e1:atF I pot a=pot.getD (atA I a).src.toNat 0:=by unfold atF; rw [if_pos h]
  have e2:atT I pot a=pot.getD (atA I a).dst.toNat 0:=by unfold atT; rw [if_pos h]
  rw [e1,e2] at hk
  simp only [e,o1,o3,if_true,z8m,z8n,zel,h,e1,e2,redA,and_self]
  exact ⟨hk.1,hk.2.1,⟨z78 _,z78 _⟩,hk.2.2,⟨z78 _,z78 _⟩,trivial⟩
theorem rReduced_ok:SpecOk Tryz.prog rReduced_n true (z02 true zc4) :=
 z09 z0i (show z15 Tryz.prog zg5 from z00 rArc_ok (z00 rMinus_ok (z00 rOf_ok (z00 At_ok (z00 zi7 (z03)))))) (by kernel_rfl) mixedOrders Tryz.func89 rfl rfl (by kernel_rfl) (n:=3) (by decide +kernel) (I:=rReduced_IA) (fun _ _=>z07) (A:=rReduced_A)
  (fun args h r hr=>by
   unfold zc4 at hr
   split at hr
   ·rename_i a ty0 I_s ty1 I_a ty2 pot; cases hr; refine ⟨rfl,fun hp=>?_⟩; have hE:=rReduced_E ⟨I_s,I_a⟩ pot a ty0 ty1 ty2 hp; exact hE
   ·cases hr)
abbrev z9q (I:Inst) (g':Nat) (g:Nat) (x:List Int) (pot:List Int):=(I.arcs.length - g'<I.arcs.length - g/\((True/\(True/\(0=0/\(IntKind.i64.wrap ((↑g:Int)+(1:Int))=(↑g':Int)/\True))))/\((True/\(True/\True))/\(I.sup=I.sup/\(I.arcs=I.arcs/\(x=x/\(pot=pot/\True)))))))
abbrev z9r (I:Inst) (pot:List Int) (g:Nat):=(z8u (W (zel I pot (↑g:Int))) { hi:=(0:Int),lo:=(0:Int):Wide } < (0:Int))
abbrev z7k (g:Nat) (I:Inst):=((0:Int) <= ↑g/\((↑g:Int)<↑I.arcs.length))
def zma (I : Inst) (x : List Int) (pot : List Int) (ty0 ty1 ty2 ty3 : TypeId) : Prop :=
   (I.sup.length <= (10000:Nat)/\(I.arcs.length <= (10000:Nat)/\(A64 x/\(A64 I.sup))))/\((z0v I x != (0:Int))=true->(z0v I x=z0z I x pot/\True)/\True)/\((z0v I x != (0:Int))=false->(((↑pot.length:Int) != (↑I.sup.length:Int))=true->((30:Int)=z0z I x pot/\True)/\True)/\(((↑pot.length:Int) != (↑I.sup.length:Int))=false->∃ (g0:Nat),((g0 <= I.arcs.length/\(∀ (j:Nat),j<g0->z22 I x pot j=true))/\((True/\(True/\(0=0/\((0:Int)=↑g0/\True))))/\((True/\(True/\True))/\(I.sup=I.sup/\(I.arcs=I.arcs/\(x=x/\(pot=pot/\True)))))))/\∀ (g:Nat),(g <= I.arcs.length/\(∀ (j:Nat),j<g->z22 I x pot j=true))->(decide ((↑g:Int)<↑x.length)=true->(A64 pot/\(zcm I.arcs))/\((W (zel I pot (↑g:Int))).ok/\({ hi:=(0:Int),lo:=(0:Int):Wide }.ok))/\(decide (z8u (W (zel I pot (↑g:Int))) { hi:=(0:Int),lo:=(0:Int):Wide } > (0:Int))=true->((0:Int) <= ↑g/\((↑g:Int)<↑x.length))/\((↑g:Int).toNat<x.length/\(∀ (x_1:Int),x[(↑g:Int).toNat]? = some x_1->(z7k g I)/\((↑g:Int).toNat<I.arcs.length/\(∀ (x_2:Arc),I.arcs[(↑g:Int).toNat]? = some x_2->((x_1 != x_2.low)=true->((33:Int)=z0z I x pot/\True)/\True)/\((x_1 != x_2.low)=false->(decide (z9r I pot g)=true->((0:Int) <= ↑g/\((↑g:Int)<↑x.length))/\((↑g:Int).toNat<x.length/\(∀ (x_3:Int),x[(↑g:Int).toNat]? = some x_3->(z7k g I)/\((↑g:Int).toNat<I.arcs.length/\(∀ (x_4:Arc),I.arcs[(↑g:Int).toNat]? = some x_4->((x_3 != x_4.cap)=true->((33:Int)=z0z I x pot/\True)/\True)/\((x_3 != x_4.cap)=false->(z7k g I)/\((↑g:Int).toNat<I.arcs.length/\(∀ (x_5:Arc),I.arcs[(↑g:Int).toNat]? = some x_5->((x_5.cap == (4611686018427387904:Int))=true->((33:Int)=z0z I x pot/\True)/\True)/\((x_5.cap == (4611686018427387904:Int))=false->∃ (g':Nat),(g' <= I.arcs.length/\(∀ (j:Nat),j<g'->z22 I x pot j=true))/\(z9q I g' g x pot))))))))))/\(decide (z9r I pot g)=false->∃ (g':Nat),(g' <= I.arcs.length/\(∀ (j:Nat),j<g'->z22 I x pot j=true))/\(z9q I g' g x pot))))))))/\(decide (z8u (W (zel I pot (↑g:Int))) { hi:=(0:Int),lo:=(0:Int):Wide } > (0:Int))=false->(decide (z9r I pot g)=true->((0:Int) <= ↑g/\((↑g:Int)<↑x.length))/\((↑g:Int).toNat<x.length/\(∀ (x_1:Int),x[(↑g:Int).toNat]? = some x_1->(z7k g I)/\((↑g:Int).toNat<I.arcs.length/\(∀ (x_2:Arc),I.arcs[(↑g:Int).toNat]? = some x_2->((x_1 != x_2.cap)=true->((33:Int)=z0z I x pot/\True)/\True)/\((x_1 != x_2.cap)=false->(z7k g I)/\((↑g:Int).toNat<I.arcs.length/\(∀ (x_3:Arc),I.arcs[(↑g:Int).toNat]? = some x_3->((x_3.cap == (4611686018427387904:Int))=true->((33:Int)=z0z I x pot/\True)/\True)/\((x_3.cap == (4611686018427387904:Int))=false->∃ (g':Nat),(g' <= I.arcs.length/\(∀ (j:Nat),j<g'->z22 I x pot j=true))/\(z9q I g' g x pot))))))))))/\(decide (z9r I pot g)=false->∃ (g':Nat),(g' <= I.arcs.length/\(∀ (j:Nat),j<g'->z22 I x pot j=true))/\(z9q I g' g x pot))))/\(decide ((↑g:Int)<↑x.length)=false->((0:Int)=z0z I x pot/\True)/\True)))
theorem rSlack_q (I:Inst) (x:List Int) (pot:List Int) (ty0 ty1 ty2 ty3:TypeId):zma I x pot ty0 ty1 ty2 ty3=z23 TT rSlack_g (rSlack_I I x pot) (zmb I x pot) Tryz.f54 [.agg [.row 0,.row 1],.row 2,.row 3] [(0,.row false ty0 (.ints .i64 I.sup)),(1,.row false ty1 (.arcs I.arcs)),(2,.row false ty2 (.ints .i64 x)),(3,.row false ty3 (.ints .i64 pot))] (rSlack_r I x pot):=by kernel_rfl
theorem rSlack_E (I:Inst) (x:List Int) (pot:List Int) (ty0 ty1 ty2 ty3:TypeId) (hp:I.sup.length <= 10000/\I.arcs.length <= 10000/\A64 x/\A64 I.sup/\A64 pot/\zcm I.arcs):FVc TT rSlack_g (rSlack_I I x pot) (zmb I x pot) Tryz.f54 [.agg [.row 0,.row 1],.row 2,.row 3] [(0,.row false ty0 (.ints .i64 I.sup)),(1,.row false ty1 (.arcs I.arcs)),(2,.row false ty2 (.ints .i64 x)),(3,.row false ty3 (.ints .i64 pot))] (rSlack_r I x pot):=by
 refine FVc.of (zma I x pot ty0 ty1 ty2 ty3) (rSlack_q I x pot ty0 ty1 ty2 ty3) ?_
 unfold zma
 delta z7k z9r z9q
 obtain ⟨p1,p2,p3,p4,p5,p6⟩:=hp
 have bad:∀ j,j<I.arcs.length->z0v I x=0->pot.length=I.sup.length->z22 I x pot j=false->33=z0z I x pot:=fun j hj h1 h2 h3=>by
  unfold z0z
  rw [if_neg (by omega),if_neg (by omega),if_neg]
  intro ha
  have:=List.all_eq_true.1 ha j (List.mem_range.2 hj)
  rw [h3] at this; cases this
 have nx:∀ g,g<I.arcs.length->(∀ j,j<g->z22 I x pot j=true)->z22 I x pot g=true->∃ g',(g' <= I.arcs.length/\∀ j,j<g'->z22 I x pot j=true)/\I.arcs.length - g'<I.arcs.length - g/\IntKind.i64.wrap ((g:Int)+1)=(g':Int):=fun g hg h1 h2 =>
  ⟨g+1,⟨by omega,fun j hj=>by
   by_cases e:j=g
   ·subst e; exact h2
   ·exact h1 j (by omega)⟩,by omega,by rw [w64 (by omega) (by omega)]; omega⟩
 simp only [eq_self,exists_const,forall_const,ne_eq,Int.toNat_natCast,zSS,z08]
 refine ⟨⟨p1,p2,p3,p4⟩,fun h=>by unfold z0z; rw [if_pos h],fun hf=>⟨fun h=>by unfold z0z; rw [if_neg (by omega),if_pos (by omega)],fun hl=>?_⟩⟩
 have hz:=fitsF_zero.1 hf
 have hzl:=hz.2.1
 refine ⟨0,⟨⟨by omega,fun j hj=>by omega⟩,rfl⟩,fun g hg=>⟨fun h1=>?_,fun h1=>?_⟩⟩
 ·have hgl:g<I.arcs.length:=by omega
  have hgx:g<x.length:=by omega
  obtain ⟨b,hb⟩:∃ b,I.arcs[g]? = some b:=⟨_,List.getElem?_eq_getElem hgl⟩
  obtain ⟨y,hy⟩:∃ y,x[g]? = some y:=⟨_,List.getElem?_eq_getElem hgx⟩
  have hbd:I.arcs.getD g default=b:=by simp [List.getD,hb]
  have hyd:x.getD g 0=y:=by simp [List.getD,hy]
  have key:z22 I x pot g=z5r (zel I pot g) y b:=by unfold z22; rw [hbd,hyd]
  have B:=bad g hgl hf (by omega)
  have N:=nx g hgl hg.2
  rw [key] at B N
  have e0:(⟨0,0⟩:Wide)=W 0:=W_zero.symm
  simp only [hy,hb,Option.some.injEq,forall_eq',e0]
  have hs:z8u (W (zel I pot g)) (W 0)=sgn (zel I pot g):=rfl
  rw [hs]
  have q1:(0:Int) <= g:=by omega
  have q2:(g:Int)<x.length:=by omega
  have q3:(g:Int)<I.arcs.length:=by omega
  unfold z5r inf at B N
  refine ⟨⟨p5,p6⟩,⟨z78 _,z78 _⟩,?_⟩
  generalize zel I pot g=r at *
  refine ⟨fun c1=>⟨⟨q1,q2⟩,hgx,⟨q1,q3⟩,hgl,fun c2=>B (by simp [show 0<sgn r from c1,c2]),fun c2=>⟨fun c3=>by omega,fun c3=>N (by simp [c3,c2])⟩⟩,fun c1=>⟨fun c3=>⟨⟨q1,q2⟩,hgx,⟨q1,q3⟩,hgl,fun c4=>B (by simp [c3,c4]),fun c4=>⟨⟨q1,q3⟩,hgl,fun c5=>B (by simp [c3,c5]),fun c5=>N (by simp [show ¬ 0<sgn r from c1,c4,c5])⟩⟩,fun c3=>N (by simp [show ¬ 0<sgn r from c1,c3])⟩⟩
 ·have:(List.range I.arcs.length).all (z22 I x pot)=true:=List.all_eq_true.2 fun j hj=>hg.2 j (by have:=List.mem_range.1 hj; omega)
  unfold z0z
  rw [if_neg (by omega),if_neg (by omega),if_pos this]
theorem rSlack_ok:SpecOk Tryz.prog rSlack_n true (z02 true zmc) :=
 z09 z0i (show z15 Tryz.prog rSlack_g from z00 rFits_ok (z00 rReduced_ok (z00 rCompare_ok (z03)))) (by kernel_rfl) mixedOrders Tryz.func54 rfl rfl (by kernel_rfl) (n:=3) (by decide +kernel) (I:=rSlack_IA) (fun _ _=>z07) (A:=rSlack_A)
  (fun args h r hr=>by
   unfold zmc at hr
   split at hr
   ·rename_i ty0 I_s ty1 I_a ty2 x ty3 pot; cases hr; refine ⟨rfl,fun hp=>?_⟩; have hE:=rSlack_E ⟨I_s,I_a⟩ x pot ty0 ty1 ty2 ty3 hp; exact hE
   ·cases hr)
end Go.Proofs.YtggblkbecekbdaaGreat
end
section
namespace Go.Proofs.YtggblkbecekbdaaGreat
open Go Go.RowKit Go.Ql Go.Vc
def on_r (side:List Bool) (n:Int):FRes:={ pre:=True,res:=.bool (onF side n),rows:=[],eff:=[] }
def on_fs:FS:=fun args h=>match args,h with
 | [.row 0,.int .i64 n],[(0,.row false ty0 (.bools side))]=>some (on_r side n)
 | _,_=>none
def on_an (side:List Bool) (n:Int):List (Nat × Ann):=[]
def on_A:List SV->z0d->List (Nat × Ann):=fun _ _=>[]
def on_g:z0c:=[]
abbrev on_n:Nat:=67
def on_I (side:List Bool) (n:Int):List (Nat × z0a):=[]
def on_IA:List SV->z0d->List (Nat × z0a):=fun _ _=>[]
def over1_r (n:Int) (I:Inst):FRes:={ pre:=True,res:=.bool (isN I.sup.length n),rows:=[],eff:=[] }
def over1_fs:FS:=fun args h=>match args,h with
 | [.int .i64 n,.ptr 0 0 0 0],[(0,.box false 25 [.row 1,.row 2]),(1,.row false ty1 (.ints .i64 I_s)),(2,.row false ty2 (.arcs I_a))]=>some (over1_r n ⟨I_s,I_a⟩)
 | _,_=>none
def over1_an (n:Int) (I:Inst):List (Nat × Ann):=[]
def over1_A:List SV->z0d->List (Nat × Ann):=fun _ _=>[]
def over1_g:z0c:=[]
abbrev over1_n:Nat:=115
def over1_I (n:Int) (I:Inst):List (Nat × z0a):=[]
def over1_IA:List SV->z0d->List (Nat × z0a):=fun _ _=>[]
abbrev over_n:Nat:=64
def over_g:z0c:=[]
def over_spec:Vc.Spec:=z4f TT over_g (fun _ _ _=>[]) Tryz.f64
def CRoom_r (I:Inst) (side:List Bool):FRes:={ pre:=A64a I.arcs/\I.arcs.length <= 140737488351232,res:=.tup [.agg (z0s (roomW (z5v I side))),.bool ((z5v I side).isSome)],rows:=[],eff:=[] }
def CRoom_fs:FS:=fun args h=>match args,h with
 | [.agg [.row 0,.row 1],.row 2],[(0,.row false ty0 (.ints .i64 I_s)),(1,.row false ty1 (.arcs I_a)),(2,.row false ty2 (.bools side))]=>some (CRoom_r ⟨I_s,I_a⟩ side)
 | _,_=>none
def CRoom_an (I:Inst) (side:List Bool):List (Nat × Ann):=[]
def CRoom_A:List SV->z0d->List (Nat × Ann):=fun _ _=>[]
def CRoom_g:z0c:=[(over_n,(false,over_spec)),(ziv,(true,z02 true za6)),(Of_n,(true,z02 true zhe)),(zj2,(true,z02 true z8y))]
abbrev CRoom_n:Nat:=22
def CRoom_i0g:z0c:=[(over1_n,(true,z02 true over1_fs)),(on_n,(true,z02 true on_fs))]
def CRoom_i0 (I:Inst) (side:List Bool):z0a:=inlI TT CRoom_i0g (fun args hp nk=>match args with
  | [y,c1,c2,c3]=>[(1,{ G:=Nat × Int,inv:=fun g=>⟨[(0,y),(1,c1),(2,c2),(3,c3),(9,.row 1),(10,.int .i64 I.arcs.length),(11,.int .i64 g.1)],Vc.put 6 (.box true 47 (z0s (W g.2))) hp,nk⟩,rel:=fun _ g=>g.1 <= I.arcs.length/\z1j I.sup.length side (I.arcs.drop g.1) g.2=z5v I side,meas:=fun g=>I.arcs.length - g.1 })]
  | _=>[]) Tryz.f116
def CRoom_I (I:Inst) (side:List Bool):List (Nat × z0a):=[(116,CRoom_i0 I side)]
def CRoom_IA:List SV->z0d->List (Nat × z0a):=fun args h=>match args,h with
 | [.agg [.row 0,.row 1],.row 2],[(0,.row false ty0 (.ints .i64 I_s)),(1,.row false ty1 (.arcs I_a)),(2,.row false ty2 (.bools side))]=>CRoom_I ⟨I_s,I_a⟩ side
 | _,_=>[]
def Need_r (I:Inst) (side:List Bool):FRes:={ pre:=A64 I.sup/\I.sup.length <= 140737488351232,res:=.agg (z0s (W (zd4 I side))),rows:=[],eff:=[] }
def Need_fs:FS:=fun args h=>match args,h with
 | [.agg [.row 0,.row 1],.row 2],[(0,.row false ty0 (.ints .i64 I_s)),(1,.row false ty1 (.arcs I_a)),(2,.row false ty2 (.bools side))]=>some (Need_r ⟨I_s,I_a⟩ side)
 | _,_=>none
def Need_an (I:Inst) (side:List Bool):List (Nat × Ann):=[(3,{ G:=(Nat),inv:=fun k=>⟨[(1,.row 2),(4,.ptr 4 0 0 0),(5,.ptr 5 0 0 0),(9,.row 0),(10,.int .i64 (↑I.sup.length:Int)),(11,.int .i64 k)],[(5,.box true 47 (z0s (W (z5p side I.sup k)))),(4,.box true 47 [.int .i64 (0:Int),.int .u64 (0:Int)]),(0,.row false 0 (.ints .i64 I.sup)),(2,.row false 0 (.bools side))],6⟩,rel:=fun k0 k=>k <= I.sup.length,meas:=fun k=>I.sup.length - k })]
def Need_A:List SV->z0d->List (Nat × Ann):=fun args h=>match args,h with
 | [.agg [.row 0,.row 1],.row 2],[(0,.row false ty0 (.ints .i64 I_s)),(1,.row false ty1 (.arcs I_a)),(2,.row false ty2 (.bools side))]=>Need_an ⟨I_s,I_a⟩ side
 | _,_=>[]
def Need_g:z0c:=[(on_n,(true,z02 true on_fs)),(zj2,(true,z02 true z8y)),(Of_n,(true,z02 true zhe))]
abbrev Need_n:Nat:=23
def Need_I (I:Inst) (side:List Bool):List (Nat × z0a):=[]
def Need_IA:List SV->z0d->List (Nat × z0a):=fun _ _=>[]
def Proves_r (I:Inst) (side:List Bool):FRes:={ pre:=A64a I.arcs/\I.arcs.length <= 140737488351232/\A64 I.sup/\I.sup.length <= 140737488351232,res:=.int .u16 (z1z I side),rows:=[],eff:=[] }
def zj4:FS:=fun args h=>match args,h with
 | [.agg [.row 0,.row 1],.row 2],[(0,.row false ty0 (.ints .i64 I_s)),(1,.row false ty1 (.arcs I_a)),(2,.row false ty2 (.bools side))]=>some (Proves_r ⟨I_s,I_a⟩ side)
 | _,_=>none
def Proves_an (I:Inst) (side:List Bool):List (Nat × Ann):=[]
def Proves_A:List SV->z0d->List (Nat × Ann):=fun _ _=>[]
def Proves_g:z0c:=[(zeu,(true,z02 true z7u)),(CRoom_n,(true,z02 true CRoom_fs)),(Need_n,(true,z02 true Need_fs)),(z8v,(true,z02 true z64))]
abbrev Proves_n:Nat:=34
def Proves_I (I:Inst) (side:List Bool):List (Nat × z0a):=[]
def Proves_IA:List SV->z0d->List (Nat × z0a):=fun _ _=>[]
def on_E0 (side : List Bool) (n : Int) (ty0 : TypeId) : Prop :=
      (decide (n ≥ (0:Int))=true ->
 (decide (n<(↑side.length:Int))=true ->
 ((0:Int) <= n/\n<(↑side.length:Int))/\n.toNat<side.length/\∀ (x:Bool),side[n.toNat]? = some x->(x=onF side n/\True)/\True) /\
 (decide (n<(↑side.length:Int))=false->(false=onF side n/\True)/\True)) /\
 (decide (n ≥ (0:Int))=false->(false=onF side n/\True)/\True)
theorem on_q (side:List Bool) (n:Int) (ty0:TypeId):on_E0 side n ty0=z23 TT on_g (on_I side n) (on_an side n) Tryz.f67 [.row 0,.int .i64 n] [(0,.row false ty0 (.bools side))] (on_r side n):=by kernel_rfl
theorem on_E (side:List Bool) (n:Int) (ty0:TypeId) (hp:True):FVc TT on_g (on_I side n) (on_an side n) Tryz.f67 [.row 0,.int .i64 n] [(0,.row false ty0 (.bools side))] (on_r side n):=by
 refine FVc.of (on_E0 side n ty0) (on_q side n ty0) ?_
 unfold on_E0
 simp only [eq_self,exists_const,forall_const,ne_eq,Int.toNat_natCast,zSS,z08]
 refine ⟨fun h=>⟨fun h2=>⟨by omega,by omega,fun x hx=>?_⟩,fun h2=>?_⟩,fun h=>?_⟩
 ·unfold onF; simp [List.getD,hx]; omega
 ·unfold onF; simp [List.getD,List.getElem?_eq_none (show side.length <= n.toNat by omega)]
 ·unfold onF; simp; omega
theorem on_ok:SpecOk Tryz.prog on_n true (z02 true on_fs) :=
 z09 z0i (show z15 Tryz.prog on_g from z03) (by kernel_rfl) mixedOrders Tryz.func67 rfl rfl (by kernel_rfl) (n:=2) (by decide +kernel) (I:=on_IA) (fun _ _=>z07) (A:=on_A)
  (fun args h r hr=>by
   unfold on_fs at hr
   split at hr
   ·rename_i n ty0 side; cases hr; refine ⟨rfl,fun hp=>?_⟩; have hE:=on_E side n ty0 hp; exact hE
   ·cases hr)
def over1_E0 (n : Int) (I : Inst) (ty1 ty2 : TypeId) : Prop :=
      (decide (n ≥ (0:Int))=true->(decide (n<(↑I.sup.length:Int))=isN (↑I.sup.length:Int) n/\True)/\True) /\
 (decide (n ≥ (0:Int))=false->(false=isN (↑I.sup.length:Int) n/\True)/\True)
theorem over1_q (n:Int) (I:Inst) (ty1 ty2:TypeId):over1_E0 n I ty1 ty2=z23 TT over1_g (over1_I n I) (over1_an n I) Tryz.f115 [.int .i64 n,.ptr 0 0 0 0] [(0,.box false 25 [.row 1,.row 2]),(1,.row false ty1 (.ints .i64 I.sup)),(2,.row false ty2 (.arcs I.arcs))] (over1_r n I):=by kernel_rfl
theorem over1_E (n:Int) (I:Inst) (ty1 ty2:TypeId) (hp:True):FVc TT over1_g (over1_I n I) (over1_an n I) Tryz.f115 [.int .i64 n,.ptr 0 0 0 0] [(0,.box false 25 [.row 1,.row 2]),(1,.row false ty1 (.ints .i64 I.sup)),(2,.row false ty2 (.arcs I.arcs))] (over1_r n I):=by
 refine FVc.of (over1_E0 n I ty1 ty2) (over1_q n I ty1 ty2) ?_
 unfold over1_E0
 simp only [eq_self,exists_const,forall_const,ne_eq,Int.toNat_natCast,zSS,z08]
 refine ⟨fun h=>?_,fun h=>?_⟩
 ·unfold isN; simp [show 0 <= n by omega]
 ·unfold isN; simp [show ¬ 0 <= n by omega]
theorem over1_ok:SpecOk Tryz.prog over1_n true (z02 true over1_fs) :=
 z09 z0i (show z15 Tryz.prog over1_g from z03) (by kernel_rfl) mixedOrders Tryz.func115 rfl rfl (by kernel_rfl) (n:=2) (by decide +kernel) (I:=over1_IA) (fun _ _=>z07) (A:=over1_A)
  (fun args h r hr=>by
   unfold over1_fs at hr
   split at hr
   ·rename_i n ty1 I_s ty2 I_a; cases hr; refine ⟨rfl,fun hp=>?_⟩; have hE:=over1_E n ⟨I_s,I_a⟩ ty1 ty2 hp; exact hE
   ·cases hr)
theorem over_ok:SpecOk Tryz.prog over_n false over_spec :=
 z7d z0i (show z15 Tryz.prog over_g from z03) (by kernel_rfl) mixedOrders Tryz.func64 rfl rfl (by kernel_rfl) _
abbrev zhm (I:Inst) (g':Nat × Int) (g:Nat × Int) (R:Loop->Prop) (side:List Bool):=(I.arcs.length - g'.fst<I.arcs.length - g.fst/\((True/\(0=0/\(0=0/\(0=0/\(True/\((↑I.arcs.length:Int)=↑I.arcs.length/\(IntKind.i64.wrap ((↑g.fst:Int)+(1:Int))=(↑g'.fst:Int)/\True)))))))/\(R=R/\(((0=0/\True)/\True)/\((True/\True)/\((True/\(True/\True))/\(((W g.snd).hi=(W g'.snd).hi/\((W g.snd).lo=(W g'.snd).lo/\True))/\((True/\True)/\(((0:Int)=0/\((0:Int)=0/\True))/\((True/\(True/\True))/\(I.sup=I.sup/\(I.arcs=I.arcs/\(side=side/\True)))))))))))))
abbrev CRoom_a1 (x:Arc) (g:Nat × Int) (I:Inst) (side:List Bool) (R:Loop->Prop):=((x.cap == (4611686018427387904:Int))=false->I64 x.cap/\(((W g.snd).ok/\((W x.cap).ok))/\(∃ (g':Nat × Int),(g'.fst <= I.arcs.length/\(z1j (↑I.sup.length:Int) side (List.drop g'.fst I.arcs) g'.snd=z5v I side))/\(I.arcs.length - g'.fst<I.arcs.length - g.fst/\((True/\(0=0/\(0=0/\(0=0/\(True/\((↑I.arcs.length:Int)=↑I.arcs.length/\(IntKind.i64.wrap ((↑g.fst:Int)+(1:Int))=(↑g'.fst:Int)/\True)))))))/\(R=R/\(((0=0/\True)/\True)/\((True/\True)/\((True/\(True/\True))/\(((z3a (W g.snd) (W x.cap)).hi=(W g'.snd).hi/\((z3a (W g.snd) (W x.cap)).lo=(W g'.snd).lo/\True))/\((True/\True)/\(((0:Int)=0/\((0:Int)=0/\True))/\((True/\(True/\True))/\(I.sup=I.sup/\(I.arcs=I.arcs/\(side=side/\True))))))))))))))))
abbrev CRoom_a2 (g:Nat × Int) (x:Arc) (I:Inst) (side:List Bool) (R:Loop->Prop):=(((W g.snd).ok/\((W x.low).ok))/\(∃ (g':Nat × Int),(g'.fst <= I.arcs.length/\(z1j (↑I.sup.length:Int) side (List.drop g'.fst I.arcs) g'.snd=z5v I side))/\(I.arcs.length - g'.fst<I.arcs.length - g.fst/\((True/\(0=0/\(0=0/\(0=0/\(True/\((↑I.arcs.length:Int)=↑I.arcs.length/\(IntKind.i64.wrap ((↑g.fst:Int)+(1:Int))=(↑g'.fst:Int)/\True)))))))/\(R=R/\(((0=0/\True)/\True)/\((True/\True)/\((True/\(True/\True))/\(((z30 (W g.snd) (W x.low)).hi=(W g'.snd).hi/\((z30 (W g.snd) (W x.low)).lo=(W g'.snd).lo/\True))/\((True/\True)/\(((0:Int)=0/\((0:Int)=0/\True))/\((True/\(True/\True))/\(I.sup=I.sup/\(I.arcs=I.arcs/\(side=side/\True)))))))))))))))
abbrev CRoom_a3 (x:Arc) (I:Inst) (side:List Bool):=((x.cap == (4611686018427387904:Int))=true->((((0:Int)=(roomW (z5v I side)).hi/\((0:Int)=(roomW (z5v I side)).lo/\True))/\(false=(z5v I side).isSome/\True))/\True)/\True)
abbrev zhn (g':Nat × Int) (I:Inst) (side:List Bool):=(g'.fst <= I.arcs.length/\(z1j (↑I.sup.length:Int) side (List.drop g'.fst I.arcs) g'.snd=z5v I side))
def CRoom_E0 (I : Inst) (side : List Bool) (ty0 ty1 ty2 : TypeId) : Prop :=
   ∀ (R:Loop->Prop),∃ (g0:Nat × Int),((g0.fst <= I.arcs.length/\(z1j (↑I.sup.length:Int) side (List.drop g0.fst I.arcs) g0.snd=z5v I side))/\((True/\(0=0/\(0=0/\(0=0/\(True/\((↑I.arcs.length:Int)=↑I.arcs.length/\((0:Int)=↑g0.fst/\True)))))))/\(R=R/\(((0=0/\True)/\True)/\((True/\True)/\((True/\(True/\True))/\(((0:Int)=(W g0.snd).hi/\((0:Int)=(W g0.snd).lo/\True))/\((True/\True)/\(((0:Int)=0/\((0:Int)=0/\True))/\((True/\(True/\True))/\(I.sup=I.sup/\(I.arcs=I.arcs/\(side=side/\True)))))))))))))/\∀ (g:Nat × Int),g.fst <= I.arcs.length/\z1j (↑I.sup.length:Int) side (List.drop g.fst I.arcs) g.snd=z5v I side->(decide ((↑g.fst:Int)<↑I.arcs.length)=true->((0:Int) <= ↑g.fst/\((↑g.fst:Int)<↑I.arcs.length))/\(↑g.fst:Int).toNat<I.arcs.length/\∀ (x:Arc),I.arcs[(↑g.fst:Int).toNat]? = some x->True/\((!isN (↑I.sup.length:Int) x.src)=true->∃ (g':Nat × Int),(zhn g' I side)/\(zhm I g' g R side))/\((!isN (↑I.sup.length:Int) x.src)=false->True/\((!isN (↑I.sup.length:Int) x.dst)=true->∃ (g':Nat × Int),(zhn g' I side)/\(zhm I g' g R side))/\((!isN (↑I.sup.length:Int) x.dst)=false->True/\True/\((onF side x.src == onF side x.dst)=true->∃ (g':Nat × Int),(zhn g' I side)/\(zhm I g' g R side))/\((onF side x.src == onF side x.dst)=false->True/\(onF side x.src=true->R=R/\((((1:Int) == (-1:Int))=true->I64 x.low/\(CRoom_a2 g x I side R))/\(((1:Int) == (-1:Int))=false->(CRoom_a3 x I side)/\(CRoom_a1 x g I side R))))/\(onF side x.src=false->R=R/\((((-1:Int) == (-1:Int))=true->I64 x.low/\(CRoom_a2 g x I side R))/\(((-1:Int) == (-1:Int))=false->(CRoom_a3 x I side)/\(CRoom_a1 x g I side R))))))))/\(decide ((↑g.fst:Int)<↑I.arcs.length)=false->((((W g.snd).hi=(roomW (z5v I side)).hi/\((W g.snd).lo=(roomW (z5v I side)).lo/\True))/\(true=(z5v I side).isSome/\True))/\True)/\True)
theorem CRoom_q (I:Inst) (side:List Bool) (ty0 ty1 ty2:TypeId):CRoom_E0 I side ty0 ty1 ty2=z23 TT CRoom_g (CRoom_I I side) (CRoom_an I side) Tryz.f22 [.agg [.row 0,.row 1],.row 2] [(0,.row false ty0 (.ints .i64 I.sup)),(1,.row false ty1 (.arcs I.arcs)),(2,.row false ty2 (.bools side))] (CRoom_r I side):=by kernel_rfl
theorem CRoom_E (I:Inst) (side:List Bool) (ty0 ty1 ty2:TypeId) (hp:A64a I.arcs/\I.arcs.length <= 140737488351232):FVc TT CRoom_g (CRoom_I I side) (CRoom_an I side) Tryz.f22 [.agg [.row 0,.row 1],.row 2] [(0,.row false ty0 (.ints .i64 I.sup)),(1,.row false ty1 (.arcs I.arcs)),(2,.row false ty2 (.bools side))] (CRoom_r I side):=by
 refine FVc.of (CRoom_E0 I side ty0 ty1 ty2) (CRoom_q I side ty0 ty1 ty2) ?_
 unfold CRoom_E0
 delta zhn CRoom_a3 CRoom_a2 CRoom_a1 zhm
 obtain ⟨p1,p2⟩:=hp
 simp only [eq_self,exists_const,forall_const,ne_eq,Int.toNat_natCast,zSS,z08]
 refine ⟨(0,0),⟨⟨Nat.zero_le _,rfl⟩,rfl,by decide,by decide⟩,fun g hg=>⟨fun h1=>⟨by omega,by omega,fun x hx=>?_⟩,fun h1=>?_⟩⟩
 ·obtain ⟨g1,g2⟩:=hg
  rw [z4b hx,z5q] at g2
  have hm:=p1 x (List.mem_of_getElem? hx)
  have wk:IntKind.i64.wrap ((g.1:Int)+1)=((g.1+1:Nat):Int):=by rw [w64 (by omega) (by omega)]; omega
  refine ⟨fun h2=>⟨(g.1+1,g.2),⟨by dsimp only; omega,?_⟩,by dsimp only; omega,wk,rfl,rfl⟩,fun h2=>⟨fun h3=>⟨(g.1+1,g.2),⟨by dsimp only; omega,?_⟩,by dsimp only; omega,wk,rfl,rfl⟩,
   fun h3=>⟨fun h4=>⟨(g.1+1,g.2),⟨by dsimp only; omega,?_⟩,by dsimp only; omega,wk,rfl,rfl⟩,fun h4=>⟨fun h5=>⟨fun h=>by omega,fun _=>⟨fun h6=>?_,fun h6=>⟨hm.2,⟨z78 _,z78 _⟩,(g.1+1,g.2+x.cap),⟨by dsimp only; omega,?_⟩,by dsimp only; omega,wk,by rw [z8n],by rw [z8n]⟩⟩⟩,
    fun h5=>⟨⟨hm.1,⟨z78 _,z78 _⟩,(g.1+1,g.2 - x.low),⟨by dsimp only; omega,?_⟩,by dsimp only; omega,wk,by rw [z8m],by rw [z8m]⟩,fun h=>absurd trivial h⟩⟩⟩⟩⟩
  ·simpa [zek,inA,h2] using g2
  ·simpa [zek,inA,h2,h3] using g2
  ·simpa [zek,inA,h2,h3,h4] using g2
  ·have h7:onF side x.dst=false:=by cases h:onF side x.dst <;> simp_all
   have:z5v I side=none:=by rw [<- g2]; simp [zek,h2,h3,h5,h7,inf,h6]
   rw [this]
   exact ⟨⟨rfl,rfl⟩,rfl⟩
  ·have h7:onF side x.dst=false:=by cases h:onF side x.dst <;> simp_all
   simpa [zek,inA,h2,h3,h5,h7,inf,h6] using g2
  ·have h7:onF side x.dst=true:=by cases h:onF side x.dst <;> simp_all
   simpa [zek,inA,h2,h3,h5,h7] using g2
 ·obtain ⟨g1,g2⟩:=hg
  rw [z6z (by omega)] at g2
  rw [<- g2]
  exact ⟨⟨rfl,rfl⟩,rfl⟩
theorem CRoom_i0_ok (I:Inst) (side:List Bool):zbe Tryz.prog 116 (CRoom_i0 I side) :=
 inlI_ok z0i (show z15 Tryz.prog CRoom_i0g from z00 over1_ok (z00 on_ok (z03))) (by kernel_rfl) mixedOrders Tryz.func116 rfl rfl (fun key spec=>by kernel_rfl) _
theorem CRoom_ok:SpecOk Tryz.prog CRoom_n true (z02 true CRoom_fs) :=
 z09 z0i (show z15 Tryz.prog CRoom_g from z00 over_ok (z00 zho (z00 Of_ok (z00 zet (z03))))) (by kernel_rfl) mixedOrders Tryz.func22 rfl rfl (by kernel_rfl) (n:=2) (by decide +kernel) (I:=CRoom_IA) (fun args h=>by
   unfold CRoom_IA
   split
   ·exact zd0 (CRoom_i0_ok _ _) (z07)
   ·exact z07) (A:=CRoom_A)
  (fun args h r hr=>by
   unfold CRoom_fs at hr
   split at hr
   ·rename_i ty0 I_s ty1 I_a ty2 side; cases hr; refine ⟨rfl,fun hp=>?_⟩; have hE:=CRoom_E ⟨I_s,I_a⟩ side ty0 ty1 ty2 hp; exact hE
   ·cases hr)
def Need_E0 (I : Inst) (side : List Bool) (ty0 ty1 ty2 : TypeId) : Prop :=
      ∃ (g0:Nat),
 (g0 <= I.sup.length /\
 (True/\(0:Nat)=(0:Nat)/\(0:Nat)=(0:Nat)/\True/\(↑I.sup.length:Int)=(↑I.sup.length:Int)/\(0:Int)=(↑g0:Int)/\True) /\
 ((0:Int)=(W (z5p side I.sup g0)).hi/\(0:Int)=(W (z5p side I.sup g0)).lo/\True) /\
 ((0:Int)=(0:Int)/\(0:Int)=(0:Int)/\True)/\I.sup=I.sup/\side=side/\True) /\
 ∀ (g:Nat),
 g <= I.sup.length ->
 (decide ((↑g:Int)<(↑I.sup.length:Int))=true ->
 ((0:Int) <= (↑g:Int)/\(↑g:Int)<(↑I.sup.length:Int)) /\
 (↑g:Int).toNat<I.sup.length /\
 ∀ (x:Int),
 I.sup[(↑g:Int).toNat]? = some x ->
 True /\
 (onF side (↑g:Int)=true ->
 I64 x /\
 ((W (z5p side I.sup g)).ok/\(W x).ok) /\
 ∃ (g':Nat),
 g' <= I.sup.length /\
 I.sup.length - g'<I.sup.length - g /\
 (True /\
 (0:Nat)=(0:Nat) /\
 (0:Nat)=(0:Nat) /\
 True/\(↑I.sup.length:Int)=(↑I.sup.length:Int)/\IntKind.i64.wrap ((↑g:Int)+(1:Int))=(↑g':Int)/\True) /\
 ((z3a (W (z5p side I.sup g)) (W x)).hi=(W (z5p side I.sup g')).hi /\
 (z3a (W (z5p side I.sup g)) (W x)).lo=(W (z5p side I.sup g')).lo/\True) /\
 ((0:Int)=(0:Int)/\(0:Int)=(0:Int)/\True)/\I.sup=I.sup/\side=side/\True) /\
 (onF side (↑g:Int)=false ->
 ∃ (g':Nat),
 g' <= I.sup.length /\
 I.sup.length - g'<I.sup.length - g /\
 (True /\
 (0:Nat)=(0:Nat) /\
 (0:Nat)=(0:Nat) /\
 True/\(↑I.sup.length:Int)=(↑I.sup.length:Int)/\IntKind.i64.wrap ((↑g:Int)+(1:Int))=(↑g':Int)/\True) /\
 ((W (z5p side I.sup g)).hi=(W (z5p side I.sup g')).hi/\(W (z5p side I.sup g)).lo=(W (z5p side I.sup g')).lo/\True) /\
 ((0:Int)=(0:Int)/\(0:Int)=(0:Int)/\True)/\I.sup=I.sup/\side=side/\True)) /\
 (decide ((↑g:Int)<(↑I.sup.length:Int))=false ->
 (((W (z5p side I.sup g)).hi=(W (zd4 I side)).hi/\(W (z5p side I.sup g)).lo=(W (zd4 I side)).lo/\True)/\True)/\True)
theorem Need_q (I:Inst) (side:List Bool) (ty0 ty1 ty2:TypeId):Need_E0 I side ty0 ty1 ty2=z23 TT Need_g (Need_I I side) (Need_an I side) Tryz.f23 [.agg [.row 0,.row 1],.row 2] [(0,.row false ty0 (.ints .i64 I.sup)),(1,.row false ty1 (.arcs I.arcs)),(2,.row false ty2 (.bools side))] (Need_r I side):=by kernel_rfl
theorem Need_E (I:Inst) (side:List Bool) (ty0 ty1 ty2:TypeId) (hp:A64 I.sup/\I.sup.length <= 140737488351232):FVc TT Need_g (Need_I I side) (Need_an I side) Tryz.f23 [.agg [.row 0,.row 1],.row 2] [(0,.row false ty0 (.ints .i64 I.sup)),(1,.row false ty1 (.arcs I.arcs)),(2,.row false ty2 (.bools side))] (Need_r I side):=by
 refine FVc.of (Need_E0 I side ty0 ty1 ty2) (Need_q I side ty0 ty1 ty2) ?_
 unfold Need_E0
 obtain ⟨p1,p2⟩:=hp
 simp only [eq_self,exists_const,forall_const,ne_eq,Int.toNat_natCast,zSS,z08]
 refine ⟨0,⟨Nat.zero_le _,rfl,by simp only [z5p]; decide,by simp only [z5p]; decide⟩,fun g hg=>⟨fun h1=>⟨by omega,by omega,fun x hx=>?_⟩,fun h1=>?_⟩⟩
 ·have hm:=p1 x (List.mem_of_getElem? hx)
  have wk:IntKind.i64.wrap ((g:Int)+1)=((g+1:Nat):Int):=by rw [w64 (by omega) (by omega)]; omega
  have hd:I.sup.getD g 0=x:=by simp [List.getD,hx]
  refine ⟨fun h2=>⟨hm,⟨z78 _,z78 _⟩,g+1,by omega,by omega,wk,?_,?_⟩,fun h2=>⟨g+1,by omega,by omega,wk,?_,?_⟩⟩
  all_goals (rw [onF_nat] at h2; simp only [z5p,hd,h2,if_true,if_false,z8n,Int.add_zero,Bool.false_eq_true])
 ·have:g=I.sup.length:=by omega
  subst this
  exact ⟨rfl,rfl⟩
theorem Need_ok:SpecOk Tryz.prog Need_n true (z02 true Need_fs) :=
 z09 z0i (show z15 Tryz.prog Need_g from z00 on_ok (z00 zet (z00 Of_ok (z03)))) (by kernel_rfl) mixedOrders Tryz.func23 rfl rfl (by kernel_rfl) (n:=2) (by decide +kernel) (I:=Need_IA) (fun _ _=>z07) (A:=Need_A)
  (fun args h r hr=>by
   unfold Need_fs at hr
   split at hr
   ·rename_i ty0 I_s ty1 I_a ty2 side; cases hr; refine ⟨rfl,fun hp=>?_⟩; have hE:=Need_E ⟨I_s,I_a⟩ side ty0 ty1 ty2 hp; exact hE
   ·cases hr)
def zj3 (I : Inst) (side : List Bool) (ty0 ty1 ty2 : TypeId) : Prop :=
      True /\
 ((z04 I != (0:Int))=true->(z04 I=z1z I side/\True)/\True) /\
 ((z04 I != (0:Int))=false ->
 (((↑side.length:Int) != (↑I.sup.length:Int))=true->((30:Int)=z1z I side/\True)/\True) /\
 (((↑side.length:Int) != (↑I.sup.length:Int))=false ->
 (A64a I.arcs/\I.arcs.length <= (140737488351232:Nat)) /\
 ((!(z5v I side).isSome)=true->((34:Int)=z1z I side/\True)/\True) /\
 ((!(z5v I side).isSome)=false ->
 (A64 I.sup/\I.sup.length <= (140737488351232:Nat)) /\
 ((W (zd4 I side)).ok/\(roomW (z5v I side)).ok) /\
 (decide (z8u (W (zd4 I side)) (roomW (z5v I side)) <= (0:Int))=true->((34:Int)=z1z I side/\True)/\True) /\
 (decide (z8u (W (zd4 I side)) (roomW (z5v I side)) <= (0:Int))=false->((0:Int)=z1z I side/\True)/\True))))
theorem Proves_q (I:Inst) (side:List Bool) (ty0 ty1 ty2:TypeId):zj3 I side ty0 ty1 ty2=z23 TT Proves_g (Proves_I I side) (Proves_an I side) Tryz.f34 [.agg [.row 0,.row 1],.row 2] [(0,.row false ty0 (.ints .i64 I.sup)),(1,.row false ty1 (.arcs I.arcs)),(2,.row false ty2 (.bools side))] (Proves_r I side):=by kernel_rfl
theorem Proves_E (I:Inst) (side:List Bool) (ty0 ty1 ty2:TypeId) (hp:A64a I.arcs/\I.arcs.length <= 140737488351232/\A64 I.sup/\I.sup.length <= 140737488351232):FVc TT Proves_g (Proves_I I side) (Proves_an I side) Tryz.f34 [.agg [.row 0,.row 1],.row 2] [(0,.row false ty0 (.ints .i64 I.sup)),(1,.row false ty1 (.arcs I.arcs)),(2,.row false ty2 (.bools side))] (Proves_r I side):=by
 refine FVc.of (zj3 I side ty0 ty1 ty2) (Proves_q I side ty0 ty1 ty2) ?_
 unfold zj3
 obtain ⟨p1,p2,p3,p4⟩:=hp
 simp only [eq_self,exists_const,forall_const,ne_eq,Int.toNat_natCast,zSS,z08]
 unfold z1z
 refine ⟨fun h=>?_,fun h=>⟨fun h2=>?_,fun h2=>⟨⟨p1,p2⟩,fun h3=>?_,fun h3=>?_⟩⟩⟩
 ·simp [h]
 ·simp [h,show side.length ≠ I.sup.length by omega]
 ·simp only [h,ne_eq,not_true,if_false,show side.length=I.sup.length by omega]
  cases hr:z5v I side with
  | none=>simp
  | some s=>rw [hr] at h3; cases h3
 ·cases hr:z5v I side with
  | none=>rw [hr] at h3; cases h3
  | some s =>
   simp only [h,ne_eq,not_true,if_false,show side.length=I.sup.length by omega,roomW]
   refine ⟨⟨p3,p4⟩,⟨z78 _,z78 _⟩,fun h4=>?_,fun h4=>?_⟩
   ·simp [h4]
   ·simp [h4]
theorem Proves_ok:SpecOk Tryz.prog Proves_n true (z02 true zj4) :=
 z09 z0i (show z15 Tryz.prog Proves_g from z00 zco (z00 CRoom_ok (z00 Need_ok (z00 za5 (z03))))) (by kernel_rfl) mixedOrders Tryz.func34 rfl rfl (by kernel_rfl) (n:=2) (by decide +kernel) (I:=Proves_IA) (fun _ _=>z07) (A:=Proves_A)
  (fun args h r hr=>by
   unfold zj4 at hr
   split at hr
   ·rename_i ty0 I_s ty1 I_a ty2 side; cases hr; refine ⟨rfl,fun hp=>?_⟩; have hE:=Proves_E ⟨I_s,I_a⟩ side ty0 ty1 ty2 hp; exact hE
   ·cases hr)
def isArc_r (I:Inst) (a:Int):FRes:={ pre:=True,res:=.bool (z52 I a),rows:=[],eff:=[] }
def zhv:FS:=fun args h=>match args,h with
 | [.agg [.row 0,.row 1],.int .i64 a],[(0,.row false ty0 (.ints .i64 I_s)),(1,.row false ty1 (.arcs I_a))]=>some (isArc_r ⟨I_s,I_a⟩ a)
 | _,_=>none
def isArc_an (I:Inst) (a:Int):List (Nat × Ann):=[]
def isArc_A:List SV->z0d->List (Nat × Ann):=fun _ _=>[]
def isArc_g:z0c:=[]
abbrev isArc_n:Nat:=120
def isArc_I (I:Inst) (a:Int):List (Nat × z0a):=[]
def isArc_IA:List SV->z0d->List (Nat × z0a):=fun _ _=>[]
def Sum12_r (I:Inst) (l:List Int):FRes:={ pre:=zcm I.arcs/\l.length <= 140737488351232,res:=.agg (z0s (W (rayS I l))),rows:=[],eff:=[] }
def Sum12_fs:FS:=fun args h=>match args,h with
 | [.agg [.row 0,.row 1],.row 2],[(0,.row false ty0 (.ints .i64 I_s)),(1,.row false ty1 (.arcs I_a)),(2,.row false ty2 (.ints .i64 l))]=>some (Sum12_r ⟨I_s,I_a⟩ l)
 | _,_=>none
def Sum12_an (I:Inst) (l:List Int):List (Nat × Ann):=[(3,{ G:=(Nat),inv:=fun k=>⟨[(2,.ptr 3 0 0 0),(4,.ptr 4 0 0 0),(5,.ptr 5 0 0 0),(8,.row 2),(9,.int .i64 (↑l.length:Int)),(10,.int .i64 k)],[(5,.box true 47 (z0s (W (zbc I l k)))),(4,.box true 47 [.int .i64 (0:Int),.int .u64 (0:Int)]),(3,.box true 25 [.row 0,.row 1]),(0,.row false 0 (.ints .i64 I.sup)),(1,.row false 0 (.arcs I.arcs)),(2,.row false 0 (.ints .i64 l))],6⟩,rel:=fun k0 k=>k <= l.length,meas:=fun k=>l.length - k })]
def Sum12_A:List SV->z0d->List (Nat × Ann):=fun args h=>match args,h with
 | [.agg [.row 0,.row 1],.row 2],[(0,.row false ty0 (.ints .i64 I_s)),(1,.row false ty1 (.arcs I_a)),(2,.row false ty2 (.ints .i64 l))]=>Sum12_an ⟨I_s,I_a⟩ l
 | _,_=>[]
def Sum12_g:z0c:=[(isArc_n,(true,z02 true zhv)),(zj2,(true,z02 true z8y)),(Of_n,(true,z02 true zhe))]
abbrev Sum12_n:Nat:=125
def Sum12_I (I:Inst) (l:List Int):List (Nat × z0a):=[]
def Sum12_IA:List SV->z0d->List (Nat × z0a):=fun _ _=>[]
def asked1_r (l:List Int) (I:Inst):FRes:={ pre:=l.length <= 140737488351232,res:=.bool (c1F I l),rows:=[],eff:=[] }
def zji:FS:=fun args h=>match args,h with
 | [.ptr 0 0 0 0,.ptr 2 0 0 0],[(0,.box false 37 [.row 1]),(1,.row false ty1 (.ints .i64 l)),(2,.box false 25 [.row 3,.row 4]),(3,.row false ty3 (.ints .i64 I_s)),(4,.row false ty4 (.arcs I_a))]=>some (asked1_r l ⟨I_s,I_a⟩)
 | _,_=>none
def zjh (l:List Int) (I:Inst):List (Nat × Ann):=[(2,{ G:=(Nat),inv:=fun k=>⟨[(1,.ptr 2 0 0 0),(5,.row 1),(6,.int .i64 (↑l.length:Int)),(7,.int .i64 k)],[(1,.row false 0 (.ints .i64 l)),(2,.box false 25 [.row 3,.row 4]),(3,.row false 0 (.ints .i64 I.sup)),(4,.row false 0 (.arcs I.arcs))],5⟩,rel:=fun k0 k=>k <= l.length/\(l.take k).all (z52 I)=true,meas:=fun k=>l.length - k })]
def asked1_A:List SV->z0d->List (Nat × Ann):=fun args h=>match args,h with
 | [.ptr 0 0 0 0,.ptr 2 0 0 0],[(0,.box false 37 [.row 1]),(1,.row false ty1 (.ints .i64 l)),(2,.box false 25 [.row 3,.row 4]),(3,.row false ty3 (.ints .i64 I_s)),(4,.row false ty4 (.arcs I_a))]=>zjh l ⟨I_s,I_a⟩
 | _,_=>[]
def asked1_g:z0c:=[(isArc_n,(true,z02 true zhv))]
abbrev asked1_n:Nat:=119
def asked1_I (l:List Int) (I:Inst):List (Nat × z0a):=[]
def asked1_IA:List SV->z0d->List (Nat × z0a):=fun _ _=>[]
def asked2_r (l:List Int):FRes:={ pre:=l.length <= 140737488351232,res:=.bool (c2F l),rows:=[],eff:=[] }
def zjl:FS:=fun args h=>match args,h with
 | [.ptr 0 0 0 0],[(0,.box false 37 [.row 1]),(1,.row false ty1 (.ints .i64 l))]=>some (asked2_r l)
 | _,_=>none
def zjk (l:List Int):List (Nat × Ann):=[(3,{ G:=(Nat),inv:=fun k=>⟨[(2,.row 2),(6,.row 1),(7,.int .i64 (↑l.length:Int)),(8,.int .i64 k)],[(2,.map [.i64] .bool (metM (l.take k))),(1,.row false 0 (.ints .i64 l))],3⟩,rel:=fun k0 k=>k <= l.length/\nodI (l.take k),meas:=fun k=>l.length - k })]
def asked2_A:List SV->z0d->List (Nat × Ann):=fun args h=>match args,h with
 | [.ptr 0 0 0 0],[(0,.box false 37 [.row 1]),(1,.row false ty1 (.ints .i64 l))]=>zjk l
 | _,_=>[]
def asked2_g:z0c:=[]
abbrev asked2_n:Nat:=121
def asked2_I (l:List Int):List (Nat × z0a):=[]
def asked2_IA:List SV->z0d->List (Nat × z0a):=fun _ _=>[]
def asked3_r (l:List Int) (I:Inst):FRes:={ pre:=l.length <= 140737488351232/\c1F I l=true,res:=.bool (c3F I l),rows:=[],eff:=[] }
def zjo:FS:=fun args h=>match args,h with
 | [.ptr 0 0 0 0,.ptr 2 0 0 0],[(0,.box false 37 [.row 1]),(1,.row false ty1 (.ints .i64 l)),(2,.box false 25 [.row 3,.row 4]),(3,.row false ty3 (.ints .i64 I_s)),(4,.row false ty4 (.arcs I_a))]=>some (asked3_r l ⟨I_s,I_a⟩)
 | _,_=>none
def zjn (l:List Int) (I:Inst):List (Nat × Ann):=[(2,{ G:=(Nat),inv:=fun k=>⟨[(0,.ptr 0 0 0 0),(1,.ptr 2 0 0 0),(6,.row 1),(7,.int .i64 (↑l.length:Int)),(8,.int .i64 k)],[(0,.box false 37 [.row 1]),(1,.row false 0 (.ints .i64 l)),(2,.box false 25 [.row 3,.row 4]),(3,.row false 0 (.ints .i64 I.sup)),(4,.row false 0 (.arcs I.arcs))],5⟩,rel:=fun k0 k=>k <= l.length/\∀ j,j<k->linkF I l j=true,meas:=fun k=>l.length - k })]
def asked3_A:List SV->z0d->List (Nat × Ann):=fun args h=>match args,h with
 | [.ptr 0 0 0 0,.ptr 2 0 0 0],[(0,.box false 37 [.row 1]),(1,.row false ty1 (.ints .i64 l)),(2,.box false 25 [.row 3,.row 4]),(3,.row false ty3 (.ints .i64 I_s)),(4,.row false ty4 (.arcs I_a))]=>zjn l ⟨I_s,I_a⟩
 | _,_=>[]
def asked3_g:z0c:=[]
abbrev asked3_n:Nat:=122
def asked3_I (l:List Int) (I:Inst):List (Nat × z0a):=[]
def asked3_IA:List SV->z0d->List (Nat × z0a):=fun _ _=>[]
def asked4_r (l:List Int) (I:Inst):FRes:={ pre:=l.length <= 140737488351232/\c1F I l=true,res:=.bool (c4F I l),rows:=[],eff:=[] }
def zjr:FS:=fun args h=>match args,h with
 | [.ptr 0 0 0 0,.ptr 2 0 0 0],[(0,.box false 37 [.row 1]),(1,.row false ty1 (.ints .i64 l)),(2,.box false 25 [.row 3,.row 4]),(3,.row false ty3 (.ints .i64 I_s)),(4,.row false ty4 (.arcs I_a))]=>some (asked4_r l ⟨I_s,I_a⟩)
 | _,_=>none
def zjq (l:List Int) (I:Inst):List (Nat × Ann):=[(2,{ G:=(Nat),inv:=fun k=>⟨[(1,.ptr 2 0 0 0),(5,.row 1),(6,.int .i64 (↑l.length:Int)),(7,.int .i64 k)],[(1,.row false 0 (.ints .i64 l)),(2,.box false 25 [.row 3,.row 4]),(3,.row false 0 (.ints .i64 I.sup)),(4,.row false 0 (.arcs I.arcs))],5⟩,rel:=fun k0 k=>k <= l.length/\(l.take k).all (fun a=>decide ((z7w I a).cap=inf))=true,meas:=fun k=>l.length - k })]
def asked4_A:List SV->z0d->List (Nat × Ann):=fun args h=>match args,h with
 | [.ptr 0 0 0 0,.ptr 2 0 0 0],[(0,.box false 37 [.row 1]),(1,.row false ty1 (.ints .i64 l)),(2,.box false 25 [.row 3,.row 4]),(3,.row false ty3 (.ints .i64 I_s)),(4,.row false ty4 (.arcs I_a))]=>zjq l ⟨I_s,I_a⟩
 | _,_=>[]
def asked4_g:z0c:=[]
abbrev asked4_n:Nat:=123
def asked4_I (l:List Int) (I:Inst):List (Nat × z0a):=[]
def asked4_IA:List SV->z0d->List (Nat × z0a):=fun _ _=>[]
def asked5_r (I:Inst) (l:List Int):FRes:={ pre:=l.length <= 140737488351232/\zcm I.arcs,res:=.bool (c5F I l),rows:=[],eff:=[] }
def zjt:FS:=fun args h=>match args,h with
 | [.ptr 0 0 0 0,.ptr 3 0 0 0],[(0,.box false 25 [.row 1,.row 2]),(1,.row false ty1 (.ints .i64 I_s)),(2,.row false ty2 (.arcs I_a)),(3,.box false 37 [.row 4]),(4,.row false ty4 (.ints .i64 l))]=>some (asked5_r ⟨I_s,I_a⟩ l)
 | _,_=>none
def asked5_an (I:Inst) (l:List Int):List (Nat × Ann):=[]
def asked5_A:List SV->z0d->List (Nat × Ann):=fun _ _=>[]
def asked5_g:z0c:=[(Sum12_n,(true,z02 true Sum12_fs)),(Of_n,(true,z02 true zhe)),(z8v,(true,z02 true z64))]
abbrev asked5_n:Nat:=124
def asked5_I (I:Inst) (l:List Int):List (Nat × z0a):=[]
def asked5_IA:List SV->z0d->List (Nat × z0a):=fun _ _=>[]
abbrev asked_n:Nat:=69
def asked_g:z0c:=[]
def asked_spec:Vc.Spec:=z4f TT asked_g (fun _ _ _=>[]) Tryz.f69
def Turns_r (I:Inst) (l:List Int):FRes:={ pre:=l.length <= 140737488351232/\zcm I.arcs,res:=.int .u16 (z2b I l),rows:=[],eff:=[] }
def Turns_fs:FS:=fun args h=>match args,h with
 | [.agg [.row 0,.row 1],.row 2],[(0,.row false ty0 (.ints .i64 I_s)),(1,.row false ty1 (.arcs I_a)),(2,.row false ty2 (.ints .i64 l))]=>some (Turns_r ⟨I_s,I_a⟩ l)
 | _,_=>none
def Turns_an (I:Inst) (l:List Int):List (Nat × Ann):=[(7,{ G:=(Nat),inv:=fun k=>⟨[(26,.row 7),(27,.int .i64 (↑5:Int)),(28,.int .i64 k)],[(7,.vec 28 [.fn 119 [.ptr 5 0 0 0,.ptr 4 0 0 0],.fn 121 [.ptr 5 0 0 0],.fn 122 [.ptr 5 0 0 0,.ptr 4 0 0 0],.fn 123 [.ptr 5 0 0 0,.ptr 4 0 0 0],.fn 124 [.ptr 4 0 0 0,.ptr 5 0 0 0]]),(5,.box true 37 [.row 2]),(4,.box true 25 [.row 0,.row 1]),(0,.row false 0 (.ints .i64 I.sup)),(1,.row false 0 (.arcs I.arcs)),(2,.row false 0 (.ints .i64 l))],8⟩,rel:=fun k0 k=>k <= 5/\(1 <= k->c1F I l=true)/\(2 <= k->c2F l=true)/\(3 <= k->c3F I l=true)/\(4 <= k->c4F I l=true)/\(5 <= k->c5F I l=true),meas:=fun k=>5 - k })]
def Turns_A:List SV->z0d->List (Nat × Ann):=fun args h=>match args,h with
 | [.agg [.row 0,.row 1],.row 2],[(0,.row false ty0 (.ints .i64 I_s)),(1,.row false ty1 (.arcs I_a)),(2,.row false ty2 (.ints .i64 l))]=>Turns_an ⟨I_s,I_a⟩ l
 | _,_=>[]
def Turns_g:z0c:=[(zeu,(true,z02 true z7u)),(asked_n,(false,asked_spec)),(asked1_n,(true,z02 true zji)),(asked2_n,(true,z02 true zjl)),(asked3_n,(true,z02 true zjo)),(asked4_n,(true,z02 true zjr)),(asked5_n,(true,z02 true zjt))]
abbrev Turns_n:Nat:=28
def Turns_I (I:Inst) (l:List Int):List (Nat × z0a):=[]
def Turns_IA:List SV->z0d->List (Nat × z0a):=fun _ _=>[]
def isArc_E0 (I : Inst) (a : Int) (ty0 ty1 : TypeId) : Prop :=
   (decide (a ≥ (0:Int))=true->(decide (a<(↑I.arcs.length:Int))=z52 I a/\True)/\True)/\(decide (a ≥ (0:Int))=false->(false=z52 I a/\True)/\True)
theorem isArc_q (I:Inst) (a:Int) (ty0 ty1:TypeId):isArc_E0 I a ty0 ty1=z23 TT isArc_g (isArc_I I a) (isArc_an I a) Tryz.f120 [.agg [.row 0,.row 1],.int .i64 a] [(0,.row false ty0 (.ints .i64 I.sup)),(1,.row false ty1 (.arcs I.arcs))] (isArc_r I a):=by kernel_rfl
theorem isArc_E (I:Inst) (a:Int) (ty0 ty1:TypeId) (hp:True):FVc TT isArc_g (isArc_I I a) (isArc_an I a) Tryz.f120 [.agg [.row 0,.row 1],.int .i64 a] [(0,.row false ty0 (.ints .i64 I.sup)),(1,.row false ty1 (.arcs I.arcs))] (isArc_r I a):=by
 refine FVc.of (isArc_E0 I a ty0 ty1) (isArc_q I a ty0 ty1) ?_
 unfold isArc_E0
 simp only [eq_self,exists_const,forall_const,ne_eq,Int.toNat_natCast,zSS,z08]
 refine ⟨fun h=>?_,fun h=>?_⟩
 ·simp [z52,show 0 <= a by omega]
 ·simp [z52,show ¬ 0 <= a by omega]
theorem isArc_ok:SpecOk Tryz.prog isArc_n true (z02 true zhv) :=
 z09 z0i (show z15 Tryz.prog isArc_g from z03) (by kernel_rfl) mixedOrders Tryz.func120 rfl rfl (by kernel_rfl) (n:=2) (by decide +kernel) (I:=isArc_IA) (fun _ _=>z07) (A:=isArc_A)
  (fun args h r hr=>by
   unfold zhv at hr
   split at hr
   ·rename_i a ty0 I_s ty1 I_a; cases hr; refine ⟨rfl,fun hp=>?_⟩; have hE:=isArc_E ⟨I_s,I_a⟩ a ty0 ty1 hp; exact hE
   ·cases hr)
def Sum12_E0 (I : Inst) (l : List Int) (ty0 ty1 ty2 : TypeId) : Prop :=
      ∃ (g0:Nat),
 (g0 <= l.length /\
 ((0:Nat)=(0:Nat)/\(0:Nat)=(0:Nat)/\(0:Nat)=(0:Nat)/\True/\(↑l.length:Int)=(↑l.length:Int)/\(0:Int)=(↑g0:Int)/\True) /\
 ((0:Int)=(W (zbc I l g0)).hi/\(0:Int)=(W (zbc I l g0)).lo/\True) /\
 ((0:Int)=(0:Int)/\(0:Int)=(0:Int)/\True)/\(True/\True/\True)/\I.sup=I.sup/\I.arcs=I.arcs/\l=l/\True) /\
 ∀ (g:Nat),
 g <= l.length ->
 (decide ((↑g:Int)<(↑l.length:Int))=true ->
 ((0:Int) <= (↑g:Int)/\(↑g:Int)<(↑l.length:Int)) /\
 (↑g:Int).toNat<l.length /\
 ∀ (x:Int),
 l[(↑g:Int).toNat]? = some x ->
 True /\
 (z52 I x=true ->
 ((0:Int) <= x/\x<(↑I.arcs.length:Int)) /\
 x.toNat<I.arcs.length /\
 ∀ (x_1:Arc),
 I.arcs[x.toNat]? = some x_1 ->
 I64 x_1.cost /\
 ((W (zbc I l g)).ok/\(W x_1.cost).ok) /\
 ∃ (g':Nat),
 g' <= l.length /\
 l.length - g'<l.length - g /\
 ((0:Nat)=(0:Nat) /\
 (0:Nat)=(0:Nat) /\
 (0:Nat)=(0:Nat) /\
 True/\(↑l.length:Int)=(↑l.length:Int)/\IntKind.i64.wrap ((↑g:Int)+(1:Int))=(↑g':Int)/\True) /\
 ((z3a (W (zbc I l g)) (W x_1.cost)).hi=(W (zbc I l g')).hi /\
 (z3a (W (zbc I l g)) (W x_1.cost)).lo=(W (zbc I l g')).lo/\True) /\
 ((0:Int)=(0:Int)/\(0:Int)=(0:Int)/\True)/\(True/\True/\True)/\I.sup=I.sup/\I.arcs=I.arcs/\l=l/\True) /\
 (z52 I x=false ->
 ∃ (g':Nat),
 g' <= l.length /\
 l.length - g'<l.length - g /\
 ((0:Nat)=(0:Nat) /\
 (0:Nat)=(0:Nat) /\
 (0:Nat)=(0:Nat)/\True/\(↑l.length:Int)=(↑l.length:Int)/\IntKind.i64.wrap ((↑g:Int)+(1:Int))=(↑g':Int)/\True) /\
 ((W (zbc I l g)).hi=(W (zbc I l g')).hi/\(W (zbc I l g)).lo=(W (zbc I l g')).lo/\True) /\
 ((0:Int)=(0:Int)/\(0:Int)=(0:Int)/\True)/\(True/\True/\True)/\I.sup=I.sup/\I.arcs=I.arcs/\l=l/\True)) /\
 (decide ((↑g:Int)<(↑l.length:Int))=false->(((W (zbc I l g)).hi=(W (rayS I l)).hi/\(W (zbc I l g)).lo=(W (rayS I l)).lo/\True)/\True)/\True)
theorem Sum12_q (I:Inst) (l:List Int) (ty0 ty1 ty2:TypeId):Sum12_E0 I l ty0 ty1 ty2=z23 TT Sum12_g (Sum12_I I l) (Sum12_an I l) Tryz.f125 [.agg [.row 0,.row 1],.row 2] [(0,.row false ty0 (.ints .i64 I.sup)),(1,.row false ty1 (.arcs I.arcs)),(2,.row false ty2 (.ints .i64 l))] (Sum12_r I l):=by kernel_rfl
theorem Sum12_E (I:Inst) (l:List Int) (ty0 ty1 ty2:TypeId) (hp:zcm I.arcs/\l.length <= 140737488351232):FVc TT Sum12_g (Sum12_I I l) (Sum12_an I l) Tryz.f125 [.agg [.row 0,.row 1],.row 2] [(0,.row false ty0 (.ints .i64 I.sup)),(1,.row false ty1 (.arcs I.arcs)),(2,.row false ty2 (.ints .i64 l))] (Sum12_r I l):=by
 refine FVc.of (Sum12_E0 I l ty0 ty1 ty2) (Sum12_q I l ty0 ty1 ty2) ?_
 unfold Sum12_E0
 obtain ⟨p1,p2⟩:=hp
 simp only [eq_self,exists_const,forall_const,ne_eq,Int.toNat_natCast,zSS,z08]
 refine ⟨0,⟨Nat.zero_le _,rfl,by simp only [zbc]; decide,by simp only [zbc]; decide⟩,fun g hg=>⟨fun h1=>⟨by omega,by omega,fun x hx=>?_⟩,fun h1=>?_⟩⟩
 ·have wk:IntKind.i64.wrap ((g:Int)+1)=((g+1:Nat):Int):=by rw [w64 (by omega) (by omega)]; omega
  have hd:l.getD g 0=x:=by simp [List.getD,hx]
  refine ⟨fun h2=>⟨isArcF_iff.1 h2,by have:=isArcF_iff.1 h2; omega,fun a ha=>⟨p1 a (List.mem_of_getElem? ha),⟨z78 _,z78 _⟩,g+1,by omega,by omega,wk,?_⟩⟩,fun h2=>⟨g+1,by omega,by omega,wk,?_⟩⟩
  ·simp only [zbc,hd,rayD,h2,if_true,z69 ha,z8n,and_self]
  ·simp only [zbc,hd,rayD,h2,if_false,Int.add_zero,Bool.false_eq_true,and_self]
 ·rw [show g=l.length by omega]
  exact ⟨rfl,rfl⟩
theorem Sum12_ok:SpecOk Tryz.prog Sum12_n true (z02 true Sum12_fs) :=
 z09 z0i (show z15 Tryz.prog Sum12_g from z00 isArc_ok (z00 zet (z00 Of_ok (z03)))) (by kernel_rfl) mixedOrders Tryz.func125 rfl rfl (by kernel_rfl) (n:=2) (by decide +kernel) (I:=Sum12_IA) (fun _ _=>z07) (A:=Sum12_A)
  (fun args h r hr=>by
   unfold Sum12_fs at hr
   split at hr
   ·rename_i ty0 I_s ty1 I_a ty2 l; cases hr; refine ⟨rfl,fun hp=>?_⟩; have hE:=Sum12_E ⟨I_s,I_a⟩ l ty0 ty1 ty2 hp; exact hE
   ·cases hr)
def zjg (l : List Int) (I : Inst) (ty1 ty3 ty4 : TypeId) : Prop :=
      ∃ (g0:Nat),
 ((g0 <= l.length/\(List.take g0 l).all (z52 I)=true) /\
 ((0:Nat)=(0:Nat)/\True/\(↑l.length:Int)=(↑l.length:Int)/\(0:Int)=(↑g0:Int)/\True) /\
 l=l/\(True/\True/\True)/\I.sup=I.sup/\I.arcs=I.arcs/\True) /\
 ∀ (g:Nat),
 g <= l.length/\(List.take g l).all (z52 I)=true ->
 (decide ((↑g:Int)<(↑l.length:Int))=true ->
 ((0:Int) <= (↑g:Int)/\(↑g:Int)<(↑l.length:Int)) /\
 (↑g:Int).toNat<l.length /\
 ∀ (x:Int),
 l[(↑g:Int).toNat]? = some x ->
 True /\
 ((!z52 I x)=true->(false=c1F I l/\True)/\True) /\
 ((!z52 I x)=false ->
 ∃ (g':Nat),
 (g' <= l.length/\(List.take g' l).all (z52 I)=true) /\
 l.length - g'<l.length - g /\
 ((0:Nat)=(0:Nat)/\True/\(↑l.length:Int)=(↑l.length:Int)/\IntKind.i64.wrap ((↑g:Int)+(1:Int))=(↑g':Int)/\True) /\
 l=l/\(True/\True/\True)/\I.sup=I.sup/\I.arcs=I.arcs/\True)) /\
 (decide ((↑g:Int)<(↑l.length:Int))=false->(true=c1F I l/\True)/\True)
theorem asked1_q (l:List Int) (I:Inst) (ty1 ty3 ty4:TypeId):zjg l I ty1 ty3 ty4=z23 TT asked1_g (asked1_I l I) (zjh l I) Tryz.f119 [.ptr 0 0 0 0,.ptr 2 0 0 0] [(0,.box false 37 [.row 1]),(1,.row false ty1 (.ints .i64 l)),(2,.box false 25 [.row 3,.row 4]),(3,.row false ty3 (.ints .i64 I.sup)),(4,.row false ty4 (.arcs I.arcs))] (asked1_r l I):=by kernel_rfl
theorem asked1_E (l:List Int) (I:Inst) (ty1 ty3 ty4:TypeId) (hp:l.length <= 140737488351232):FVc TT asked1_g (asked1_I l I) (zjh l I) Tryz.f119 [.ptr 0 0 0 0,.ptr 2 0 0 0] [(0,.box false 37 [.row 1]),(1,.row false ty1 (.ints .i64 l)),(2,.box false 25 [.row 3,.row 4]),(3,.row false ty3 (.ints .i64 I.sup)),(4,.row false ty4 (.arcs I.arcs))] (asked1_r l I):=by
 refine FVc.of (zjg l I ty1 ty3 ty4) (asked1_q l I ty1 ty3 ty4) ?_
 unfold zjg
 simp only [eq_self,exists_const,forall_const,ne_eq,Int.toNat_natCast,zSS,z08]
 refine ⟨0,⟨⟨by omega,rfl⟩,rfl⟩,fun g hg=>⟨fun h1=>⟨by omega,by omega,fun x hx=>⟨fun h2=>(all_not hx h2).symm,fun h2=>⟨g+1,⟨by omega,by rw [all_take hx,hg.2,h2]; rfl⟩,by omega,by rw [w64 (by omega) (by omega)]; omega⟩⟩⟩,fun h1=>(all_end hg.2 (by omega)).symm⟩⟩
theorem asked1_ok:SpecOk Tryz.prog asked1_n true (z02 true zji) :=
 z09 z0i (show z15 Tryz.prog asked1_g from z00 isArc_ok (z03)) (by kernel_rfl) mixedOrders Tryz.func119 rfl rfl (by kernel_rfl) (n:=2) (by decide +kernel) (I:=asked1_IA) (fun _ _=>z07) (A:=asked1_A)
  (fun args h r hr=>by
   unfold zji at hr
   split at hr
   ·rename_i ty1 l ty3 I_s ty4 I_a; cases hr; refine ⟨rfl,fun hp=>?_⟩; have hE:=asked1_E l ⟨I_s,I_a⟩ ty1 ty3 ty4 hp; exact hE
   ·cases hr)
def zjj (l : List Int) (ty1 : TypeId) : Prop :=
      ∃ (g0:Nat),
 ((g0 <= l.length/\nodI (List.take g0 l))/\(True/\True/\(↑l.length:Int)=(↑l.length:Int)/\(0:Int)=(↑g0:Int)/\True)/\[]=metM (List.take g0 l)/\l=l/\True) /\
 ∀ (g:Nat),
 g <= l.length/\nodI (List.take g l) ->
 (decide ((↑g:Int)<(↑l.length:Int))=true ->
 ((0:Int) <= (↑g:Int)/\(↑g:Int)<(↑l.length:Int)) /\
 (↑g:Int).toNat<l.length /\
 ∀ (x:Int),
 l[(↑g:Int).toNat]? = some x ->
 (((mget (metM (List.take g l)) [x]).getD (0:Int) == (1:Int))=true->(false=c2F l/\True)/\True) /\
 (((mget (metM (List.take g l)) [x]).getD (0:Int) == (1:Int))=false ->
 ∃ (g':Nat),
 (g' <= l.length/\nodI (List.take g' l)) /\
 l.length - g'<l.length - g /\
 (True/\True/\(↑l.length:Int)=(↑l.length:Int)/\IntKind.i64.wrap ((↑g:Int)+(1:Int))=(↑g':Int)/\True) /\
 mput (metM (List.take g l)) [x] (bif true then (1:Int) else (0:Int))=metM (List.take g' l)/\l=l/\True)) /\
 (decide ((↑g:Int)<(↑l.length:Int))=false->(true=c2F l/\True)/\True)
theorem asked2_q (l:List Int) (ty1:TypeId):zjj l ty1=z23 TT asked2_g (asked2_I l) (zjk l) Tryz.f121 [.ptr 0 0 0 0] [(0,.box false 37 [.row 1]),(1,.row false ty1 (.ints .i64 l))] (asked2_r l):=by kernel_rfl
theorem asked2_E (l:List Int) (ty1:TypeId) (hp:l.length <= 140737488351232):FVc TT asked2_g (asked2_I l) (zjk l) Tryz.f121 [.ptr 0 0 0 0] [(0,.box false 37 [.row 1]),(1,.row false ty1 (.ints .i64 l))] (asked2_r l):=by
 refine FVc.of (zjj l ty1) (asked2_q l ty1) ?_
 unfold zjj
 simp only [eq_self,exists_const,forall_const,ne_eq,Int.toNat_natCast,zSS,z08]
 refine ⟨0,⟨⟨by omega,List.nodup_nil⟩,rfl,rfl⟩,fun g hg=>⟨fun h1=>⟨by omega,by omega,fun x hx=>?_⟩,fun h1=>(nodI_end hg.2 (by omega)).symm⟩⟩
 rw [mget_metM]
 by_cases hm:x ∈ l.take g
 ·simp only [hm,if_true,Option.getD_some,not_true,false_implies,and_true,forall_const]
  exact (nodI_not hx hm).symm
 ·simp only [hm,if_false,Option.getD_none]
  refine ⟨fun h=>by omega,fun _=>⟨g+1,⟨by omega,nodI_take hx hg.2 hm⟩,by omega,by rw [w64 (by omega) (by omega)]; omega,?_⟩⟩
  rw [z1k hx]
  exact mput_metM hm
theorem asked2_ok:SpecOk Tryz.prog asked2_n true (z02 true zjl) :=
 z09 z0i (show z15 Tryz.prog asked2_g from z03) (by kernel_rfl) mixedOrders Tryz.func121 rfl rfl (by kernel_rfl) (n:=1) (by decide +kernel) (I:=asked2_IA) (fun _ _=>z07) (A:=asked2_A)
  (fun args h r hr=>by
   unfold zjl at hr
   split at hr
   ·rename_i ty1 l; cases hr; refine ⟨rfl,fun hp=>?_⟩; have hE:=asked2_E l ty1 hp; exact hE
   ·cases hr)
def zjm (l : List Int) (I : Inst) (ty1 ty3 ty4 : TypeId) : Prop :=
      ∃ (g0:Nat),
 ((g0 <= l.length/\∀ (j:Nat),j<g0->linkF I l j=true) /\
 ((0:Nat)=(0:Nat)/\(0:Nat)=(0:Nat)/\True/\(↑l.length:Int)=(↑l.length:Int)/\(0:Int)=(↑g0:Int)/\True) /\
 (True/\True)/\l=l/\(True/\True/\True)/\I.sup=I.sup/\I.arcs=I.arcs/\True) /\
 ∀ (g:Nat),
 (g <= l.length/\∀ (j:Nat),j<g->linkF I l j=true) ->
 (decide ((↑g:Int)<(↑l.length:Int))=true ->
 ((0:Int) <= (↑g:Int)/\(↑g:Int)<(↑l.length:Int)) /\
 (↑g:Int).toNat<l.length /\
 ∀ (x:Int),
 l[(↑g:Int).toNat]? = some x ->
 (↑l.length:Int) ≠ (0:Int) /\
 ((0:Int) <= (IntKind.i64.wrap ((↑g:Int)+(1:Int))).tmod (↑l.length:Int) /\
 (IntKind.i64.wrap ((↑g:Int)+(1:Int))).tmod (↑l.length:Int)<(↑l.length:Int)) /\
 ((IntKind.i64.wrap ((↑g:Int)+(1:Int))).tmod (↑l.length:Int)).toNat<l.length /\
 ∀ (x_1:Int),
 l[((IntKind.i64.wrap ((↑g:Int)+(1:Int))).tmod (↑l.length:Int)).toNat]? = some x_1 ->
 ((0:Int) <= x/\x<(↑I.arcs.length:Int)) /\
 x.toNat<I.arcs.length /\
 ∀ (x_2:Arc),
 I.arcs[x.toNat]? = some x_2 ->
 ((0:Int) <= x_1/\x_1<(↑I.arcs.length:Int)) /\
 x_1.toNat<I.arcs.length /\
 ∀ (x:Arc),
 I.arcs[x_1.toNat]? = some x ->
 ((x_2.dst != x.src)=true->(false=c3F I l/\True)/\True) /\
 ((x_2.dst != x.src)=false ->
 ∃ (g':Nat),
 (g' <= l.length/\∀ (j:Nat),j<g'->linkF I l j=true) /\
 l.length - g'<l.length - g /\
 ((0:Nat)=(0:Nat) /\
 (0:Nat)=(0:Nat) /\
 True/\(↑l.length:Int)=(↑l.length:Int)/\IntKind.i64.wrap ((↑g:Int)+(1:Int))=(↑g':Int)/\True) /\
 (True/\True)/\l=l/\(True/\True/\True)/\I.sup=I.sup/\I.arcs=I.arcs/\True)) /\
 (decide ((↑g:Int)<(↑l.length:Int))=false->(true=c3F I l/\True)/\True)
theorem asked3_q (l:List Int) (I:Inst) (ty1 ty3 ty4:TypeId):zjm l I ty1 ty3 ty4=z23 TT asked3_g (asked3_I l I) (zjn l I) Tryz.f122 [.ptr 0 0 0 0,.ptr 2 0 0 0] [(0,.box false 37 [.row 1]),(1,.row false ty1 (.ints .i64 l)),(2,.box false 25 [.row 3,.row 4]),(3,.row false ty3 (.ints .i64 I.sup)),(4,.row false ty4 (.arcs I.arcs))] (asked3_r l I):=by kernel_rfl
theorem asked3_E (l:List Int) (I:Inst) (ty1 ty3 ty4:TypeId) (hp:l.length <= 140737488351232/\c1F I l=true):FVc TT asked3_g (asked3_I l I) (zjn l I) Tryz.f122 [.ptr 0 0 0 0,.ptr 2 0 0 0] [(0,.box false 37 [.row 1]),(1,.row false ty1 (.ints .i64 l)),(2,.box false 25 [.row 3,.row 4]),(3,.row false ty3 (.ints .i64 I.sup)),(4,.row false ty4 (.arcs I.arcs))] (asked3_r l I):=by
 refine FVc.of (zjm l I ty1 ty3 ty4) (asked3_q l I ty1 ty3 ty4) ?_
 unfold zjm
 obtain ⟨p1,p2⟩:=hp
 simp only [eq_self,exists_const,forall_const,ne_eq,Int.toNat_natCast,zSS,z08]
 refine ⟨0,⟨⟨by omega,fun j hj=>by omega⟩,rfl⟩,fun g hg=>⟨fun h1=>⟨by omega,by omega,fun x hx=>?_⟩,fun h1=>?_⟩⟩
 ·have hm:(IntKind.i64.wrap ((g:Int)+1)).tmod (l.length:Int)=(((g+1) % l.length:Nat):Int):=by rw [w64 (by omega) (by omega),z3t (by omega)]; norm_cast
  have hlt:(g+1) % l.length<l.length:=Nat.mod_lt _ (by omega)
  rw [hm]
  simp only [Int.toNat_natCast]
  refine ⟨by omega,by omega,by omega,fun y hy=>?_⟩
  have hcx:=c1F_get p2 hx
  have hcy:=c1F_get p2 hy
  refine ⟨hcx,by omega,fun a ha=>⟨hcy,by omega,fun b hb=>?_⟩⟩
  have hl:linkF I l g=decide (a.dst=b.src):=by
   unfold linkF
   have d1:l.getD g 0=x:=by simp [List.getD,hx]
   have d2:l.getD ((g+1) % l.length) 0=y:=by simp [List.getD,hy]
   rw [d1,d2,z69 ha,z69 hb]
  refine ⟨fun h2=>?_,fun h2=>⟨g+1,⟨by omega,fun j hj=>?_⟩,by omega,by rw [w64 (by omega) (by omega)]; omega⟩⟩
  ·have h3:linkF I l g=false:=by rw [hl]; exact decide_eq_false h2
   cases hc:c3F I l with
   | false=>rfl
   | true=>have:=List.all_eq_true.1 hc g (List.mem_range.2 (by omega)); rw [h3] at this; cases this
  ·by_cases e:j=g
   ·subst e; rw [hl]; exact decide_eq_true h2
   ·exact hg.2 j (by omega)
 ·have:c3F I l=true:=List.all_eq_true.2 fun j hj=>hg.2 j (by have:=List.mem_range.1 hj; omega)
  exact this.symm
theorem asked3_ok:SpecOk Tryz.prog asked3_n true (z02 true zjo) :=
 z09 z0i (show z15 Tryz.prog asked3_g from z03) (by kernel_rfl) mixedOrders Tryz.func122 rfl rfl (by kernel_rfl) (n:=2) (by decide +kernel) (I:=asked3_IA) (fun _ _=>z07) (A:=asked3_A)
  (fun args h r hr=>by
   unfold zjo at hr
   split at hr
   ·rename_i ty1 l ty3 I_s ty4 I_a; cases hr; refine ⟨rfl,fun hp=>?_⟩; have hE:=asked3_E l ⟨I_s,I_a⟩ ty1 ty3 ty4 hp; exact hE
   ·cases hr)
def zjp (l : List Int) (I : Inst) (ty1 ty3 ty4 : TypeId) : Prop :=
      ∃ (g0:Nat),
 ((g0 <= l.length/\((List.take g0 l).all fun (a:Int)=>decide ((z7w I a).cap=inf))=true) /\
 ((0:Nat)=(0:Nat)/\True/\(↑l.length:Int)=(↑l.length:Int)/\(0:Int)=(↑g0:Int)/\True) /\
 l=l/\(True/\True/\True)/\I.sup=I.sup/\I.arcs=I.arcs/\True) /\
 ∀ (g:Nat),
 g <= l.length/\((List.take g l).all fun (a:Int)=>decide ((z7w I a).cap=inf))=true ->
 (decide ((↑g:Int)<(↑l.length:Int))=true ->
 ((0:Int) <= (↑g:Int)/\(↑g:Int)<(↑l.length:Int)) /\
 (↑g:Int).toNat<l.length /\
 ∀ (x:Int),
 l[(↑g:Int).toNat]? = some x ->
 ((0:Int) <= x/\x<(↑I.arcs.length:Int)) /\
 x.toNat<I.arcs.length /\
 ∀ (x_1:Arc),
 I.arcs[x.toNat]? = some x_1 ->
 ((x_1.cap != (4611686018427387904:Int))=true->(false=c4F I l/\True)/\True) /\
 ((x_1.cap != (4611686018427387904:Int))=false ->
 ∃ (g':Nat),
 (g' <= l.length/\((List.take g' l).all fun (a:Int)=>decide ((z7w I a).cap=inf))=true) /\
 l.length - g'<l.length - g /\
 ((0:Nat)=(0:Nat)/\True/\(↑l.length:Int)=(↑l.length:Int)/\IntKind.i64.wrap ((↑g:Int)+(1:Int))=(↑g':Int)/\True) /\
 l=l/\(True/\True/\True)/\I.sup=I.sup/\I.arcs=I.arcs/\True)) /\
 (decide ((↑g:Int)<(↑l.length:Int))=false->(true=c4F I l/\True)/\True)
theorem asked4_q (l:List Int) (I:Inst) (ty1 ty3 ty4:TypeId):zjp l I ty1 ty3 ty4=z23 TT asked4_g (asked4_I l I) (zjq l I) Tryz.f123 [.ptr 0 0 0 0,.ptr 2 0 0 0] [(0,.box false 37 [.row 1]),(1,.row false ty1 (.ints .i64 l)),(2,.box false 25 [.row 3,.row 4]),(3,.row false ty3 (.ints .i64 I.sup)),(4,.row false ty4 (.arcs I.arcs))] (asked4_r l I):=by kernel_rfl
theorem asked4_E (l:List Int) (I:Inst) (ty1 ty3 ty4:TypeId) (hp:l.length <= 140737488351232/\c1F I l=true):FVc TT asked4_g (asked4_I l I) (zjq l I) Tryz.f123 [.ptr 0 0 0 0,.ptr 2 0 0 0] [(0,.box false 37 [.row 1]),(1,.row false ty1 (.ints .i64 l)),(2,.box false 25 [.row 3,.row 4]),(3,.row false ty3 (.ints .i64 I.sup)),(4,.row false ty4 (.arcs I.arcs))] (asked4_r l I):=by
 refine FVc.of (zjp l I ty1 ty3 ty4) (asked4_q l I ty1 ty3 ty4) ?_
 unfold zjp
 obtain ⟨p1,p2⟩:=hp
 simp only [eq_self,exists_const,forall_const,ne_eq,Int.toNat_natCast,zSS,z08]
 refine ⟨0,⟨⟨by omega,rfl⟩,rfl⟩,fun g hg=>⟨fun h1=>⟨by omega,by omega,fun x hx=>⟨c1F_get p2 hx,by have:=c1F_get p2 hx; omega,fun a ha=>⟨fun h2=>?_,fun h2=>⟨g+1,⟨by omega,?_⟩,by omega,by rw [w64 (by omega) (by omega)]; omega⟩⟩⟩⟩,fun h1=>(all_end hg.2 (by omega)).symm⟩⟩
 ·exact (all_not hx (decide_eq_false (by rw [z69 ha]; exact h2))).symm
 ·rw [all_take hx,hg.2,z69 ha]
  simp [inf,h2]
theorem asked4_ok:SpecOk Tryz.prog asked4_n true (z02 true zjr) :=
 z09 z0i (show z15 Tryz.prog asked4_g from z03) (by kernel_rfl) mixedOrders Tryz.func123 rfl rfl (by kernel_rfl) (n:=2) (by decide +kernel) (I:=asked4_IA) (fun _ _=>z07) (A:=asked4_A)
  (fun args h r hr=>by
   unfold zjr at hr
   split at hr
   ·rename_i ty1 l ty3 I_s ty4 I_a; cases hr; refine ⟨rfl,fun hp=>?_⟩; have hE:=asked4_E l ⟨I_s,I_a⟩ ty1 ty3 ty4 hp; exact hE
   ·cases hr)
def zjs (I : Inst) (l : List Int) (ty1 ty2 ty4 : TypeId) : Prop :=
      (zcm I.arcs/\l.length <= (140737488351232:Nat)) /\
 I64 (0:Int)/\((W (rayS I l)).ok/\(W (0:Int)).ok)/\(decide (z8u (W (rayS I l)) (W (0:Int))<(0:Int))=c5F I l/\True)/\True
theorem asked5_q (I:Inst) (l:List Int) (ty1 ty2 ty4:TypeId):zjs I l ty1 ty2 ty4=z23 TT asked5_g (asked5_I I l) (asked5_an I l) Tryz.f124 [.ptr 0 0 0 0,.ptr 3 0 0 0] [(0,.box false 25 [.row 1,.row 2]),(1,.row false ty1 (.ints .i64 I.sup)),(2,.row false ty2 (.arcs I.arcs)),(3,.box false 37 [.row 4]),(4,.row false ty4 (.ints .i64 l))] (asked5_r I l):=by kernel_rfl
theorem asked5_E (I:Inst) (l:List Int) (ty1 ty2 ty4:TypeId) (hp:l.length <= 140737488351232/\zcm I.arcs):FVc TT asked5_g (asked5_I I l) (asked5_an I l) Tryz.f124 [.ptr 0 0 0 0,.ptr 3 0 0 0] [(0,.box false 25 [.row 1,.row 2]),(1,.row false ty1 (.ints .i64 I.sup)),(2,.row false ty2 (.arcs I.arcs)),(3,.box false 37 [.row 4]),(4,.row false ty4 (.ints .i64 l))] (asked5_r I l):=by
 refine FVc.of (zjs I l ty1 ty2 ty4) (asked5_q I l ty1 ty2 ty4) ?_
 unfold zjs
 obtain ⟨p1,p2⟩:=hp
 simp only [eq_self,exists_const,forall_const,ne_eq,Int.toNat_natCast,zSS,z08]
 exact ⟨⟨p2,p1⟩,by simp [I64],⟨z78 _,z78 _⟩,rfl⟩
theorem asked5_ok:SpecOk Tryz.prog asked5_n true (z02 true zjt) :=
 z09 z0i (show z15 Tryz.prog asked5_g from z00 Sum12_ok (z00 Of_ok (z00 za5 (z03)))) (by kernel_rfl) mixedOrders Tryz.func124 rfl rfl (by kernel_rfl) (n:=2) (by decide +kernel) (I:=asked5_IA) (fun _ _=>z07) (A:=asked5_A)
  (fun args h r hr=>by
   unfold zjt at hr
   split at hr
   ·rename_i ty1 I_s ty2 I_a ty4 l; cases hr; refine ⟨rfl,fun hp=>?_⟩; have hE:=asked5_E ⟨I_s,I_a⟩ l ty1 ty2 ty4 hp; exact hE
   ·cases hr)
theorem asked_ok:SpecOk Tryz.prog asked_n false asked_spec :=
 z7d z0i (show z15 Tryz.prog asked_g from z03) (by kernel_rfl) mixedOrders Tryz.func69 rfl rfl (by kernel_rfl) _
abbrev za9 (g':Nat) (g:Nat) (I:Inst) (l:List Int):=((5:Nat) - g'<(5:Nat) - g/\((True/\((5:Int)=5/\(IntKind.i64.wrap ((↑g:Int)+(1:Int))=(↑g':Int)/\True)))/\(((0=0/\(0=0/\True))/\((0=0/\True)/\((0=0/\(0=0/\True))/\((0=0/\(0=0/\True))/\((0=0/\(0=0/\True))/\True)))))/\((True/\True)/\((True/\(True/\True))/\(I.sup=I.sup/\(I.arcs=I.arcs/\(l=l/\True))))))))
abbrev zaa (g':Nat) (I:Inst) (l:List Int):=(g' <= (5:Nat)/\(((1:Nat) <= g'->c1F I l=true)/\(((2:Nat) <= g'->c2F l=true)/\(((3:Nat) <= g'->c3F I l=true)/\(((4:Nat) <= g'->c4F I l=true)/\((5:Nat) <= g'->c5F I l=true))))))
def Turns_E0 (I : Inst) (l : List Int) (ty0 ty1 ty2 : TypeId) : Prop :=
   True/\((z04 I != (0:Int))=true->(z04 I=z2b I l/\True)/\True)/\((z04 I != (0:Int))=false->(((↑l.length:Int) == (0:Int))=true->((30:Int)=z2b I l/\True)/\True)/\(((↑l.length:Int) == (0:Int))=false->(decide ((↑l.length:Int) > ↑I.arcs.length)=true->((30:Int)=z2b I l/\True)/\True)/\(decide ((↑l.length:Int) > ↑I.arcs.length)=false->∃ (g0:Nat),((g0 <= (5:Nat)/\(((1:Nat) <= g0->c1F I l=true)/\(((2:Nat) <= g0->c2F l=true)/\(((3:Nat) <= g0->c3F I l=true)/\(((4:Nat) <= g0->c4F I l=true)/\((5:Nat) <= g0->c5F I l=true))))))/\((True/\((↑(5:Nat):Int)=5/\((0:Int)=↑g0/\True)))/\(((0=0/\(0=0/\True))/\((0=0/\True)/\((0=0/\(0=0/\True))/\((0=0/\(0=0/\True))/\((0=0/\(0=0/\True))/\True)))))/\((True/\True)/\((True/\(True/\True))/\(I.sup=I.sup/\(I.arcs=I.arcs/\(l=l/\True))))))))/\∀ (g:Nat),g <= (5:Nat)/\((1:Nat) <= g->c1F I l=true)/\((2:Nat) <= g->c2F l=true)/\((3:Nat) <= g->c3F I l=true)/\((4:Nat) <= g->c4F I l=true)/\((5:Nat) <= g->c5F I l=true)->(decide ((↑g:Int)<5)=true->((0:Int) <= ↑g/\((↑g:Int)<↑(5:Nat)))/\(↑g:Int).toNat<(5:Nat)/\((↑g:Int).toNat=(0:Nat)->l.length <= (140737488351232:Nat)/\(((!c1F I l)=true->((35:Int)=z2b I l/\True)/\True)/\((!c1F I l)=false->∃ (g':Nat),(zaa g' I l)/\(za9 g' g I l))))/\((↑g:Int).toNat=(0:Nat)+(1:Nat)->l.length <= (140737488351232:Nat)/\(((!c2F l)=true->((35:Int)=z2b I l/\True)/\True)/\((!c2F l)=false->∃ (g':Nat),(zaa g' I l)/\(za9 g' g I l))))/\(((↑g:Int).toNat=(0:Nat)+(1:Nat)+(1:Nat)->(l.length <= (140737488351232:Nat)/\(c1F I l=true))/\(((!c3F I l)=true->((35:Int)=z2b I l/\True)/\True)/\((!c3F I l)=false->∃ (g':Nat),(zaa g' I l)/\(za9 g' g I l))))/\(((↑g:Int).toNat=(0:Nat)+(1:Nat)+(1:Nat)+(1:Nat)->(l.length <= (140737488351232:Nat)/\(c1F I l=true))/\(((!c4F I l)=true->((35:Int)=z2b I l/\True)/\True)/\((!c4F I l)=false->∃ (g':Nat),(zaa g' I l)/\(za9 g' g I l))))/\((↑g:Int).toNat=(0:Nat)+(1:Nat)+(1:Nat)+(1:Nat)+(1:Nat)->(l.length <= (140737488351232:Nat)/\(zcm I.arcs))/\(((!c5F I l)=true->((35:Int)=z2b I l/\True)/\True)/\((!c5F I l)=false->∃ (g':Nat),(zaa g' I l)/\(za9 g' g I l)))))))/\(decide ((↑g:Int)<5)=false->((0:Int)=z2b I l/\True)/\True))))
theorem Turns_q (I:Inst) (l:List Int) (ty0 ty1 ty2:TypeId):Turns_E0 I l ty0 ty1 ty2=z23 TT Turns_g (Turns_I I l) (Turns_an I l) Tryz.f28 [.agg [.row 0,.row 1],.row 2] [(0,.row false ty0 (.ints .i64 I.sup)),(1,.row false ty1 (.arcs I.arcs)),(2,.row false ty2 (.ints .i64 l))] (Turns_r I l):=by kernel_rfl
theorem Turns_E (I:Inst) (l:List Int) (ty0 ty1 ty2:TypeId) (hp:l.length <= 140737488351232/\zcm I.arcs):FVc TT Turns_g (Turns_I I l) (Turns_an I l) Tryz.f28 [.agg [.row 0,.row 1],.row 2] [(0,.row false ty0 (.ints .i64 I.sup)),(1,.row false ty1 (.arcs I.arcs)),(2,.row false ty2 (.ints .i64 l))] (Turns_r I l):=by
 refine FVc.of (Turns_E0 I l ty0 ty1 ty2) (Turns_q I l ty0 ty1 ty2) ?_
 unfold Turns_E0
 delta zaa za9
 obtain ⟨p1,p2⟩:=hp
 simp only [eq_self,exists_const,forall_const,ne_eq,Int.toNat_natCast,zSS,z08]
 unfold z2b
 refine ⟨fun h=>by simp [h],fun h=>⟨fun h2=>by simp [h,show l.length=0 by omega],fun h2=>⟨fun h3=>by simp [h,show I.arcs.length<l.length by omega],fun h3=>?_⟩⟩⟩
 have e0:¬ (l.length=0 ∨ I.arcs.length<l.length):=by omega
 simp only [h,e0,ne_eq,not_true,if_false]
 refine ⟨0,⟨⟨by omega,fun h=>by omega,fun h=>by omega,fun h=>by omega,fun h=>by omega,fun h=>by omega⟩,by first | exact rfl | exact ⟨rfl,rfl⟩⟩,fun g hg=>?_⟩
 obtain ⟨g0,g1,g2,g3,g4,g5⟩:=hg
 have wk:IntKind.i64.wrap ((g:Int)+1)=((g+1:Nat):Int):=by rw [w64 (by omega) (by omega)]; omega
 refine ⟨fun h4=>⟨by omega,by omega,fun e=>⟨p1,fun f=>?_,fun f=>⟨g+1,⟨by omega,fun _=>f,fun h=>by omega,fun h=>by omega,fun h=>by omega,fun h=>by omega⟩,by omega,wk⟩⟩,fun e=>⟨p1,fun f=>?_,fun f=>⟨g+1,⟨by omega,fun _=>g1 (by omega),fun _=>f,fun h=>by omega,fun h=>by omega,fun h=>by omega⟩,by omega,wk⟩⟩,
  fun e=>⟨⟨p1,g1 (by omega)⟩,fun f=>?_,fun f=>⟨g+1,⟨by omega,fun _=>g1 (by omega),fun _=>g2 (by omega),fun _=>f,fun h=>by omega,fun h=>by omega⟩,by omega,wk⟩⟩,
  fun e=>⟨⟨p1,g1 (by omega)⟩,fun f=>?_,fun f=>⟨g+1,⟨by omega,fun _=>g1 (by omega),fun _=>g2 (by omega),fun _=>g3 (by omega),fun _=>f,fun h=>by omega⟩,by omega,wk⟩⟩,
  fun e=>⟨⟨p1,p2⟩,fun f=>?_,fun f=>⟨g+1,⟨by omega,fun _=>g1 (by omega),fun _=>g2 (by omega),fun _=>g3 (by omega),fun _=>g4 (by omega),fun _=>f⟩,by omega,wk⟩⟩⟩,fun h4=>?_⟩
 all_goals first
  | simp [f]
  | simp [g1 (by omega),g2 (by omega),g3 (by omega),g4 (by omega),g5 (by omega)]
theorem Turns_ok:SpecOk Tryz.prog Turns_n true (z02 true Turns_fs) :=
 z09 z0i (show z15 Tryz.prog Turns_g from z00 zco (z00 asked_ok (z00 asked1_ok (z00 asked2_ok (z00 asked3_ok (z00 asked4_ok (z00 asked5_ok (z03)))))))) (by kernel_rfl) mixedOrders Tryz.func28 rfl rfl (by kernel_rfl) (n:=2) (by decide +kernel) (I:=Turns_IA) (fun _ _=>z07) (A:=Turns_A)
  (fun args h r hr=>by
   unfold Turns_fs at hr
   split at hr
   ·rename_i ty0 I_s ty1 I_a ty2 l; cases hr; refine ⟨rfl,fun hp=>?_⟩; have hE:=Turns_E ⟨I_s,I_a⟩ l ty0 ty1 ty2 hp; exact hE
   ·cases hr)
end Go.Proofs.YtggblkbecekbdaaGreat
end
