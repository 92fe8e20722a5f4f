/- Part of the proof: FC10, DQ11, FQ11, DR12, FR12, DS12, FS12, DK13, FK13, DY13. -/
import Derived.Test.YtggblkbecekbdaaGreatZG8
import Derived.Test.YtggblkbecekbdaaGreatZG14
import Derived.Test.YtggblkbecekbdaaGreatZG5
import Derived.Test.YtggblkbecekbdaaGreatZG9
import Derived.Test.YtggblkbecekbdaaGreatZG7
import Derived.Test.YtggblkbecekbdaaGreatZG6
set_option linter.unusedVariables false
set_option linter.all false
set_option linter.unusedSimpArgs false
set_option maxRecDepth 1000000
section
namespace Go.Proofs.YtggblkbecekbdaaGreat
open Go Go.RowKit Go.Ql Go.Vc
def on_E0 (side : List Bool) (n : Int) (ty0 : TypeId) : Prop :=
      (decide (n ≥ (0:Int)) = true ->
 (decide (n < (↑side.length:Int)) = true ->
 ((0:Int) <= n/\n < (↑side.length:Int))/\n.toNat < side.length/\∀ (x:Bool),side[n.toNat]? = some x->(x = onF side n/\True)/\True) /\
 (decide (n < (↑side.length:Int)) = false->(false = onF side n/\True)/\True)) /\
 (decide (n ≥ (0:Int)) = false->(false = onF side n/\True)/\True)
theorem on_q (side:List Bool) (n:Int) (ty0:TypeId):on_E0 side n ty0 = z2h TT on_g (on_I side n) (on_an side n) Tryz.f67 [.row 0,.int .i64 n] [(0,.row false ty0 (.bools side))] (on_r side n):=by kernel_rfl
theorem on_E (side:List Bool) (n:Int) (ty0:TypeId) (hp:True):FVc TT on_g (on_I side n) (on_an side n) Tryz.f67 [.row 0,.int .i64 n] [(0,.row false ty0 (.bools side))] (on_r side n):=by
 refine FVc.of (on_E0 side n ty0) (on_q side n ty0) ?_
 unfold on_E0
 simp only [eq_self,exists_const,forall_const,decide_eq_true_eq,decide_eq_false_iff_not,and_true,true_and,bne_iff_ne,ne_eq,bne_eq_false_iff_eq,Int.toNat_natCast,Bool.not_eq_true',Bool.not_eq_false',beq_iff_eq,beq_eq_false_iff_ne,z08]
 refine ⟨fun h=>⟨fun h2=>⟨by omega,by omega,fun x hx=>?_⟩,fun h2=>?_⟩,fun h=>?_⟩
 ·unfold onF; simp [List.getD,hx]; omega
 ·unfold onF; simp [List.getD,List.getElem?_eq_none (show side.length <= n.toNat by omega)]
 ·unfold onF; simp; omega
theorem on_ok:SpecOk Tryz.prog on_n true (z02 true on_fs) :=
 z0a z0k (show z1d Tryz.prog on_g from z05) (by kernel_rfl) mixedOrders Tryz.func67 rfl rfl (by kernel_rfl) (n:=2) (by decide +kernel) (I:=on_IA) (fun _ _=>z06) (A:=on_A)
  (fun args h r hr=>by
   unfold on_fs at hr
   split at hr
   ·rename_i n ty0 side; cases hr; refine ⟨rfl,fun hp=>?_⟩; have hE:=on_E side n ty0 hp; exact hE
   ·cases hr)
def over1_E0 (n : Int) (I : Inst) (ty1 ty2 : TypeId) : Prop :=
      (decide (n ≥ (0:Int)) = true->(decide (n < (↑I.sup.length:Int)) = isN (↑I.sup.length:Int) n/\True)/\True) /\
 (decide (n ≥ (0:Int)) = false->(false = isN (↑I.sup.length:Int) n/\True)/\True)
theorem over1_q (n:Int) (I:Inst) (ty1 ty2:TypeId):over1_E0 n I ty1 ty2 = z2h TT over1_g (over1_I n I) (over1_an n I) Tryz.f115 [.int .i64 n,.ptr 0 0 0 0] [(0,.box false 25 [.row 1,.row 2]),(1,.row false ty1 (.ints .i64 I.sup)),(2,.row false ty2 (.arcs I.arcs))] (over1_r n I):=by kernel_rfl
theorem over1_E (n:Int) (I:Inst) (ty1 ty2:TypeId) (hp:True):FVc TT over1_g (over1_I n I) (over1_an n I) Tryz.f115 [.int .i64 n,.ptr 0 0 0 0] [(0,.box false 25 [.row 1,.row 2]),(1,.row false ty1 (.ints .i64 I.sup)),(2,.row false ty2 (.arcs I.arcs))] (over1_r n I):=by
 refine FVc.of (over1_E0 n I ty1 ty2) (over1_q n I ty1 ty2) ?_
 unfold over1_E0
 simp only [eq_self,exists_const,forall_const,decide_eq_true_eq,decide_eq_false_iff_not,and_true,true_and,bne_iff_ne,ne_eq,bne_eq_false_iff_eq,Int.toNat_natCast,Bool.not_eq_true',Bool.not_eq_false',beq_iff_eq,beq_eq_false_iff_ne,z08]
 refine ⟨fun h=>?_,fun h=>?_⟩
 ·unfold isN; simp [show 0 <= n by omega]
 ·unfold isN; simp [show ¬ 0 <= n by omega]
theorem over1_ok:SpecOk Tryz.prog over1_n true (z02 true over1_fs) :=
 z0a z0k (show z1d Tryz.prog over1_g from z05) (by kernel_rfl) mixedOrders Tryz.func115 rfl rfl (by kernel_rfl) (n:=2) (by decide +kernel) (I:=over1_IA) (fun _ _=>z06) (A:=over1_A)
  (fun args h r hr=>by
   unfold over1_fs at hr
   split at hr
   ·rename_i n ty1 I_s ty2 I_a; cases hr; refine ⟨rfl,fun hp=>?_⟩; have hE:=over1_E n ⟨I_s,I_a⟩ ty1 ty2 hp; exact hE
   ·cases hr)
theorem over_ok:SpecOk Tryz.prog over_n false over_spec :=
 z9y z0k (show z1d Tryz.prog over_g from z05) (by kernel_rfl) mixedOrders Tryz.func64 rfl rfl (by kernel_rfl) _
abbrev zia (I:Inst) (g':Nat × Int) (g:Nat × Int) (R:Loop->Prop) (side:List Bool):=(I.arcs.length - g'.fst < I.arcs.length - g.fst/\((True/\(0 = 0/\(0 = 0/\(0 = 0/\(True/\((↑I.arcs.length:Int) = ↑I.arcs.length/\(IntKind.i64.wrap ((↑g.fst:Int) + (1:Int)) = (↑g'.fst:Int)/\True)))))))/\(R = R/\(((0 = 0/\True)/\True)/\((True/\True)/\((True/\(True/\True))/\(((W g.snd).hi = (W g'.snd).hi/\((W g.snd).lo = (W g'.snd).lo/\True))/\((True/\True)/\(((0:Int) = 0/\((0:Int) = 0/\True))/\((True/\(True/\True))/\(I.sup = I.sup/\(I.arcs = I.arcs/\(side = side/\True)))))))))))))
abbrev CRoom_a1 (x:Arc) (g:Nat × Int) (I:Inst) (side:List Bool) (R:Loop->Prop):=((x.cap == (4611686018427387904:Int)) = false->I64 x.cap/\(((W g.snd).ok/\((W x.cap).ok))/\(∃ (g':Nat × Int),(g'.fst <= I.arcs.length/\(z1m (↑I.sup.length:Int) side (List.drop g'.fst I.arcs) g'.snd = z4z I side))/\(I.arcs.length - g'.fst < I.arcs.length - g.fst/\((True/\(0 = 0/\(0 = 0/\(0 = 0/\(True/\((↑I.arcs.length:Int) = ↑I.arcs.length/\(IntKind.i64.wrap ((↑g.fst:Int) + (1:Int)) = (↑g'.fst:Int)/\True)))))))/\(R = R/\(((0 = 0/\True)/\True)/\((True/\True)/\((True/\(True/\True))/\(((z3d (W g.snd) (W x.cap)).hi = (W g'.snd).hi/\((z3d (W g.snd) (W x.cap)).lo = (W g'.snd).lo/\True))/\((True/\True)/\(((0:Int) = 0/\((0:Int) = 0/\True))/\((True/\(True/\True))/\(I.sup = I.sup/\(I.arcs = I.arcs/\(side = side/\True))))))))))))))))
abbrev CRoom_a2 (g:Nat × Int) (x:Arc) (I:Inst) (side:List Bool) (R:Loop->Prop):=(((W g.snd).ok/\((W x.low).ok))/\(∃ (g':Nat × Int),(g'.fst <= I.arcs.length/\(z1m (↑I.sup.length:Int) side (List.drop g'.fst I.arcs) g'.snd = z4z I side))/\(I.arcs.length - g'.fst < I.arcs.length - g.fst/\((True/\(0 = 0/\(0 = 0/\(0 = 0/\(True/\((↑I.arcs.length:Int) = ↑I.arcs.length/\(IntKind.i64.wrap ((↑g.fst:Int) + (1:Int)) = (↑g'.fst:Int)/\True)))))))/\(R = R/\(((0 = 0/\True)/\True)/\((True/\True)/\((True/\(True/\True))/\(((z33 (W g.snd) (W x.low)).hi = (W g'.snd).hi/\((z33 (W g.snd) (W x.low)).lo = (W g'.snd).lo/\True))/\((True/\True)/\(((0:Int) = 0/\((0:Int) = 0/\True))/\((True/\(True/\True))/\(I.sup = I.sup/\(I.arcs = I.arcs/\(side = side/\True)))))))))))))))
abbrev CRoom_a3 (x:Arc) (I:Inst) (side:List Bool):=((x.cap == (4611686018427387904:Int)) = true->((((0:Int) = (roomW (z4z I side)).hi/\((0:Int) = (roomW (z4z I side)).lo/\True))/\(false = (z4z I side).isSome/\True))/\True)/\True)
abbrev zib (g':Nat × Int) (I:Inst) (side:List Bool):=(g'.fst <= I.arcs.length/\(z1m (↑I.sup.length:Int) side (List.drop g'.fst I.arcs) g'.snd = z4z I side))
def CRoom_E0 (I : Inst) (side : List Bool) (ty0 ty1 ty2 : TypeId) : Prop :=
   ∀ (R:Loop->Prop),∃ (g0:Nat × Int),((g0.fst <= I.arcs.length/\(z1m (↑I.sup.length:Int) side (List.drop g0.fst I.arcs) g0.snd = z4z I side))/\((True/\(0 = 0/\(0 = 0/\(0 = 0/\(True/\((↑I.arcs.length:Int) = ↑I.arcs.length/\((0:Int) = ↑g0.fst/\True)))))))/\(R = R/\(((0 = 0/\True)/\True)/\((True/\True)/\((True/\(True/\True))/\(((0:Int) = (W g0.snd).hi/\((0:Int) = (W g0.snd).lo/\True))/\((True/\True)/\(((0:Int) = 0/\((0:Int) = 0/\True))/\((True/\(True/\True))/\(I.sup = I.sup/\(I.arcs = I.arcs/\(side = side/\True)))))))))))))/\∀ (g:Nat × Int),g.fst <= I.arcs.length/\z1m (↑I.sup.length:Int) side (List.drop g.fst I.arcs) g.snd = z4z I side->(decide ((↑g.fst:Int) < ↑I.arcs.length) = true->((0:Int) <= ↑g.fst/\((↑g.fst:Int) < ↑I.arcs.length))/\(↑g.fst:Int).toNat < I.arcs.length/\∀ (x:Arc),I.arcs[(↑g.fst:Int).toNat]? = some x->True/\((!isN (↑I.sup.length:Int) x.src) = true->∃ (g':Nat × Int),(zib g' I side)/\(zia I g' g R side))/\((!isN (↑I.sup.length:Int) x.src) = false->True/\((!isN (↑I.sup.length:Int) x.dst) = true->∃ (g':Nat × Int),(zib g' I side)/\(zia I g' g R side))/\((!isN (↑I.sup.length:Int) x.dst) = false->True/\True/\((onF side x.src == onF side x.dst) = true->∃ (g':Nat × Int),(zib g' I side)/\(zia I g' g R side))/\((onF side x.src == onF side x.dst) = false->True/\(onF side x.src = true->R = R/\((((1:Int) == (-1:Int)) = true->I64 x.low/\(CRoom_a2 g x I side R))/\(((1:Int) == (-1:Int)) = false->(CRoom_a3 x I side)/\(CRoom_a1 x g I side R))))/\(onF side x.src = false->R = R/\((((-1:Int) == (-1:Int)) = true->I64 x.low/\(CRoom_a2 g x I side R))/\(((-1:Int) == (-1:Int)) = false->(CRoom_a3 x I side)/\(CRoom_a1 x g I side R))))))))/\(decide ((↑g.fst:Int) < ↑I.arcs.length) = false->((((W g.snd).hi = (roomW (z4z I side)).hi/\((W g.snd).lo = (roomW (z4z I side)).lo/\True))/\(true = (z4z I side).isSome/\True))/\True)/\True)
theorem CRoom_q (I:Inst) (side:List Bool) (ty0 ty1 ty2:TypeId):CRoom_E0 I side ty0 ty1 ty2 = z2h TT CRoom_g (CRoom_I I side) (CRoom_an I side) Tryz.f22 [.agg [.row 0,.row 1],.row 2] [(0,.row false ty0 (.ints .i64 I.sup)),(1,.row false ty1 (.arcs I.arcs)),(2,.row false ty2 (.bools side))] (CRoom_r I side):=by kernel_rfl
theorem CRoom_E (I:Inst) (side:List Bool) (ty0 ty1 ty2:TypeId) (hp:A64a I.arcs/\I.arcs.length <= 140737488351232):FVc TT CRoom_g (CRoom_I I side) (CRoom_an I side) Tryz.f22 [.agg [.row 0,.row 1],.row 2] [(0,.row false ty0 (.ints .i64 I.sup)),(1,.row false ty1 (.arcs I.arcs)),(2,.row false ty2 (.bools side))] (CRoom_r I side):=by
 refine FVc.of (CRoom_E0 I side ty0 ty1 ty2) (CRoom_q I side ty0 ty1 ty2) ?_
 unfold CRoom_E0
 delta zib CRoom_a3 CRoom_a2 CRoom_a1 zia
 obtain ⟨p1,p2⟩:=hp
 simp only [eq_self,exists_const,forall_const,decide_eq_true_eq,decide_eq_false_iff_not,and_true,true_and,bne_iff_ne,ne_eq,bne_eq_false_iff_eq,Int.toNat_natCast,Bool.not_eq_true',Bool.not_eq_false',beq_iff_eq,beq_eq_false_iff_ne,z08]
 refine ⟨(0,0),⟨⟨Nat.zero_le _,rfl⟩,rfl,by decide,by decide⟩,fun g hg=>⟨fun h1=>⟨by omega,by omega,fun x hx=>?_⟩,fun h1=>?_⟩⟩
 ·obtain ⟨g1,g2⟩:=hg
  rw [z48 hx,z5t] at g2
  have hm:=p1 x (List.mem_of_getElem? hx)
  have wk:IntKind.i64.wrap ((g.1:Int) + 1) = ((g.1 + 1:Nat):Int):=by rw [w64 (by omega) (by omega)]; omega
  refine ⟨fun h2=>⟨(g.1 + 1,g.2),⟨by dsimp only; omega,?_⟩,by dsimp only; omega,wk,rfl,rfl⟩,fun h2=>⟨fun h3=>⟨(g.1 + 1,g.2),⟨by dsimp only; omega,?_⟩,by dsimp only; omega,wk,rfl,rfl⟩,
   fun h3=>⟨fun h4=>⟨(g.1 + 1,g.2),⟨by dsimp only; omega,?_⟩,by dsimp only; omega,wk,rfl,rfl⟩,fun h4=>⟨fun h5=>⟨fun h=>by omega,fun _=>⟨fun h6=>?_,fun h6=>⟨hm.2,⟨z9d _,z9d _⟩,(g.1 + 1,g.2 + x.cap),⟨by dsimp only; omega,?_⟩,by dsimp only; omega,wk,by rw [z96],by rw [z96]⟩⟩⟩,
    fun h5=>⟨⟨hm.1,⟨z9d _,z9d _⟩,(g.1 + 1,g.2 - x.low),⟨by dsimp only; omega,?_⟩,by dsimp only; omega,wk,by rw [z95],by rw [z95]⟩,fun h=>absurd trivial h⟩⟩⟩⟩⟩
  ·simpa [zfe,inA,h2] using g2
  ·simpa [zfe,inA,h2,h3] using g2
  ·simpa [zfe,inA,h2,h3,h4] using g2
  ·have h7:onF side x.dst = false:=by cases h:onF side x.dst <;> simp_all
   have:z4z I side = none:=by rw [<- g2]; simp [zfe,h2,h3,h5,h7,inf,h6]
   rw [this]
   exact ⟨⟨rfl,rfl⟩,rfl⟩
  ·have h7:onF side x.dst = false:=by cases h:onF side x.dst <;> simp_all
   simpa [zfe,inA,h2,h3,h5,h7,inf,h6] using g2
  ·have h7:onF side x.dst = true:=by cases h:onF side x.dst <;> simp_all
   simpa [zfe,inA,h2,h3,h5,h7] using g2
 ·obtain ⟨g1,g2⟩:=hg
  rw [z7b (by omega)] at g2
  rw [<- g2]
  exact ⟨⟨rfl,rfl⟩,rfl⟩
theorem CRoom_i0_ok (I:Inst) (side:List Bool):zfm Tryz.prog 116 (CRoom_i0 I side) :=
 inlI_ok z0k (show z1d Tryz.prog CRoom_i0g from z00 over1_ok (z00 on_ok (z05))) (by kernel_rfl) mixedOrders Tryz.func116 rfl rfl (fun key spec=>by kernel_rfl) _
theorem CRoom_ok:SpecOk Tryz.prog CRoom_n true (z02 true CRoom_fs) :=
 z0a z0k (show z1d Tryz.prog CRoom_g from z00 over_ok (z00 zic (z00 Of_ok (z00 zfq (z05))))) (by kernel_rfl) mixedOrders Tryz.func22 rfl rfl (by kernel_rfl) (n:=2) (by decide +kernel) (I:=CRoom_IA) (fun args h=>by
   unfold CRoom_IA
   split
   ·exact zlk (CRoom_i0_ok _ _) (z06)
   ·exact z06) (A:=CRoom_A)
  (fun args h r hr=>by
   unfold CRoom_fs at hr
   split at hr
   ·rename_i ty0 I_s ty1 I_a ty2 side; cases hr; refine ⟨rfl,fun hp=>?_⟩; have hE:=CRoom_E ⟨I_s,I_a⟩ side ty0 ty1 ty2 hp; exact hE
   ·cases hr)
def Need_E0 (I : Inst) (side : List Bool) (ty0 ty1 ty2 : TypeId) : Prop :=
      ∃ (g0:Nat),
 (g0 <= I.sup.length /\
 (True/\(0:Nat) = (0:Nat)/\(0:Nat) = (0:Nat)/\True/\(↑I.sup.length:Int) = (↑I.sup.length:Int)/\(0:Int) = (↑g0:Int)/\True) /\
 ((0:Int) = (W (z58 side I.sup g0)).hi/\(0:Int) = (W (z58 side I.sup g0)).lo/\True) /\
 ((0:Int) = (0:Int)/\(0:Int) = (0:Int)/\True)/\I.sup = I.sup/\side = side/\True) /\
 ∀ (g:Nat),
 g <= I.sup.length ->
 (decide ((↑g:Int) < (↑I.sup.length:Int)) = true ->
 ((0:Int) <= (↑g:Int)/\(↑g:Int) < (↑I.sup.length:Int)) /\
 (↑g:Int).toNat < I.sup.length /\
 ∀ (x:Int),
 I.sup[(↑g:Int).toNat]? = some x ->
 True /\
 (onF side (↑g:Int) = true ->
 I64 x /\
 ((W (z58 side I.sup g)).ok/\(W x).ok) /\
 ∃ (g':Nat),
 g' <= I.sup.length /\
 I.sup.length - g' < I.sup.length - g /\
 (True /\
 (0:Nat) = (0:Nat) /\
 (0:Nat) = (0:Nat) /\
 True/\(↑I.sup.length:Int) = (↑I.sup.length:Int)/\IntKind.i64.wrap ((↑g:Int) + (1:Int)) = (↑g':Int)/\True) /\
 ((z3d (W (z58 side I.sup g)) (W x)).hi = (W (z58 side I.sup g')).hi /\
 (z3d (W (z58 side I.sup g)) (W x)).lo = (W (z58 side I.sup g')).lo/\True) /\
 ((0:Int) = (0:Int)/\(0:Int) = (0:Int)/\True)/\I.sup = I.sup/\side = side/\True) /\
 (onF side (↑g:Int) = false ->
 ∃ (g':Nat),
 g' <= I.sup.length /\
 I.sup.length - g' < I.sup.length - g /\
 (True /\
 (0:Nat) = (0:Nat) /\
 (0:Nat) = (0:Nat) /\
 True/\(↑I.sup.length:Int) = (↑I.sup.length:Int)/\IntKind.i64.wrap ((↑g:Int) + (1:Int)) = (↑g':Int)/\True) /\
 ((W (z58 side I.sup g)).hi = (W (z58 side I.sup g')).hi/\(W (z58 side I.sup g)).lo = (W (z58 side I.sup g')).lo/\True) /\
 ((0:Int) = (0:Int)/\(0:Int) = (0:Int)/\True)/\I.sup = I.sup/\side = side/\True)) /\
 (decide ((↑g:Int) < (↑I.sup.length:Int)) = false ->
 (((W (z58 side I.sup g)).hi = (W (z9f I side)).hi/\(W (z58 side I.sup g)).lo = (W (z9f I side)).lo/\True)/\True)/\True)
theorem Need_q (I:Inst) (side:List Bool) (ty0 ty1 ty2:TypeId):Need_E0 I side ty0 ty1 ty2 = z2h TT Need_g (Need_I I side) (Need_an I side) Tryz.f23 [.agg [.row 0,.row 1],.row 2] [(0,.row false ty0 (.ints .i64 I.sup)),(1,.row false ty1 (.arcs I.arcs)),(2,.row false ty2 (.bools side))] (Need_r I side):=by kernel_rfl
theorem Need_E (I:Inst) (side:List Bool) (ty0 ty1 ty2:TypeId) (hp:A64 I.sup/\I.sup.length <= 140737488351232):FVc TT Need_g (Need_I I side) (Need_an I side) Tryz.f23 [.agg [.row 0,.row 1],.row 2] [(0,.row false ty0 (.ints .i64 I.sup)),(1,.row false ty1 (.arcs I.arcs)),(2,.row false ty2 (.bools side))] (Need_r I side):=by
 refine FVc.of (Need_E0 I side ty0 ty1 ty2) (Need_q I side ty0 ty1 ty2) ?_
 unfold Need_E0
 obtain ⟨p1,p2⟩:=hp
 simp only [eq_self,exists_const,forall_const,decide_eq_true_eq,decide_eq_false_iff_not,and_true,true_and,bne_iff_ne,ne_eq,bne_eq_false_iff_eq,Int.toNat_natCast,Bool.not_eq_true',Bool.not_eq_false',beq_iff_eq,beq_eq_false_iff_ne,z08]
 refine ⟨0,⟨Nat.zero_le _,rfl,by simp only [z58]; decide,by simp only [z58]; decide⟩,fun g hg=>⟨fun h1=>⟨by omega,by omega,fun x hx=>?_⟩,fun h1=>?_⟩⟩
 ·have hm:=p1 x (List.mem_of_getElem? hx)
  have wk:IntKind.i64.wrap ((g:Int) + 1) = ((g + 1:Nat):Int):=by rw [w64 (by omega) (by omega)]; omega
  have hd:I.sup.getD g 0 = x:=by simp [List.getD,hx]
  refine ⟨fun h2=>⟨hm,⟨z9d _,z9d _⟩,g + 1,by omega,by omega,wk,?_,?_⟩,fun h2=>⟨g + 1,by omega,by omega,wk,?_,?_⟩⟩
  all_goals (rw [onF_nat] at h2; simp only [z58,hd,h2,if_true,if_false,z96,Int.add_zero,Bool.false_eq_true])
 ·have:g = I.sup.length:=by omega
  subst this
  exact ⟨rfl,rfl⟩
theorem Need_ok:SpecOk Tryz.prog Need_n true (z02 true Need_fs) :=
 z0a z0k (show z1d Tryz.prog Need_g from z00 on_ok (z00 zfq (z00 Of_ok (z05)))) (by kernel_rfl) mixedOrders Tryz.func23 rfl rfl (by kernel_rfl) (n:=2) (by decide +kernel) (I:=Need_IA) (fun _ _=>z06) (A:=Need_A)
  (fun args h r hr=>by
   unfold Need_fs at hr
   split at hr
   ·rename_i ty0 I_s ty1 I_a ty2 side; cases hr; refine ⟨rfl,fun hp=>?_⟩; have hE:=Need_E ⟨I_s,I_a⟩ side ty0 ty1 ty2 hp; exact hE
   ·cases hr)
def zjr (I : Inst) (side : List Bool) (ty0 ty1 ty2 : TypeId) : Prop :=
      True /\
 ((z03 I != (0:Int)) = true->(z03 I = z2b I side/\True)/\True) /\
 ((z03 I != (0:Int)) = false ->
 (((↑side.length:Int) != (↑I.sup.length:Int)) = true->((30:Int) = z2b I side/\True)/\True) /\
 (((↑side.length:Int) != (↑I.sup.length:Int)) = false ->
 (A64a I.arcs/\I.arcs.length <= (140737488351232:Nat)) /\
 ((!(z4z I side).isSome) = true->((34:Int) = z2b I side/\True)/\True) /\
 ((!(z4z I side).isSome) = false ->
 (A64 I.sup/\I.sup.length <= (140737488351232:Nat)) /\
 ((W (z9f I side)).ok/\(roomW (z4z I side)).ok) /\
 (decide (zfg (W (z9f I side)) (roomW (z4z I side)) <= (0:Int)) = true->((34:Int) = z2b I side/\True)/\True) /\
 (decide (zfg (W (z9f I side)) (roomW (z4z I side)) <= (0:Int)) = false->((0:Int) = z2b I side/\True)/\True))))
theorem Proves_q (I:Inst) (side:List Bool) (ty0 ty1 ty2:TypeId):zjr I side ty0 ty1 ty2 = z2h TT Proves_g (Proves_I I side) (Proves_an I side) Tryz.f34 [.agg [.row 0,.row 1],.row 2] [(0,.row false ty0 (.ints .i64 I.sup)),(1,.row false ty1 (.arcs I.arcs)),(2,.row false ty2 (.bools side))] (Proves_r I side):=by kernel_rfl
theorem Proves_E (I:Inst) (side:List Bool) (ty0 ty1 ty2:TypeId) (hp:A64a I.arcs/\I.arcs.length <= 140737488351232/\A64 I.sup/\I.sup.length <= 140737488351232):FVc TT Proves_g (Proves_I I side) (Proves_an I side) Tryz.f34 [.agg [.row 0,.row 1],.row 2] [(0,.row false ty0 (.ints .i64 I.sup)),(1,.row false ty1 (.arcs I.arcs)),(2,.row false ty2 (.bools side))] (Proves_r I side):=by
 refine FVc.of (zjr I side ty0 ty1 ty2) (Proves_q I side ty0 ty1 ty2) ?_
 unfold zjr
 obtain ⟨p1,p2,p3,p4⟩:=hp
 simp only [eq_self,exists_const,forall_const,decide_eq_true_eq,decide_eq_false_iff_not,and_true,true_and,bne_iff_ne,ne_eq,bne_eq_false_iff_eq,Int.toNat_natCast,Bool.not_eq_true',Bool.not_eq_false',beq_iff_eq,beq_eq_false_iff_ne,z08]
 unfold z2b
 refine ⟨fun h=>?_,fun h=>⟨fun h2=>?_,fun h2=>⟨⟨p1,p2⟩,fun h3=>?_,fun h3=>?_⟩⟩⟩
 ·simp [h]
 ·simp [h,show side.length ≠ I.sup.length by omega]
 ·simp only [h,ne_eq,not_true,if_false,show side.length = I.sup.length by omega]
  cases hr:z4z I side with
  | none=>simp
  | some s=>rw [hr] at h3; cases h3
 ·cases hr:z4z I side with
  | none=>rw [hr] at h3; cases h3
  | some s =>
   simp only [h,ne_eq,not_true,if_false,show side.length = I.sup.length by omega,roomW]
   refine ⟨⟨p3,p4⟩,⟨z9d _,z9d _⟩,fun h4=>?_,fun h4=>?_⟩
   ·simp [h4]
   ·simp [h4]
theorem Proves_ok:SpecOk Tryz.prog Proves_n true (z02 true zjs) :=
 z0a z0k (show z1d Tryz.prog Proves_g from z00 zax (z00 CRoom_ok (z00 Need_ok (z00 zfj (z05))))) (by kernel_rfl) mixedOrders Tryz.func34 rfl rfl (by kernel_rfl) (n:=2) (by decide +kernel) (I:=Proves_IA) (fun _ _=>z06) (A:=Proves_A)
  (fun args h r hr=>by
   unfold zjs at hr
   split at hr
   ·rename_i ty0 I_s ty1 I_a ty2 side; cases hr; refine ⟨rfl,fun hp=>?_⟩; have hE:=Proves_E ⟨I_s,I_a⟩ side ty0 ty1 ty2 hp; exact hE
   ·cases hr)
end Go.Proofs.YtggblkbecekbdaaGreat
end
section
namespace Go.Proofs.YtggblkbecekbdaaGreat
open Go Go.RowKit Go.Ql Go.Vc
def potE (e:List Int) (n:Nat):Int:=if n < e.length then e.getD n 0 % 25 - 8 else 0
def z7o (e:List Int) (n:Nat):List Int:=(List.range n).map (potE e)
def Pot_r (e:List Int) (n:Int):FRes:={ pre:=Bytes e/\e.length <= maxLen/\0 <= n/\n <= 1000000,res:=.row 1,rows:=[.row 2 (.ints .i64 (z7o e n.toNat))],eff:=[] }
def Pot_fs:FS:=fun args h=>match args,h with
 | [.row 0,.int .i64 n],[(0,.row false ty0 (.ints .u8 e))]=>some (Pot_r e n)
 | _,_=>none
def Pot_an (e:List Int) (n:Int):List (Nat × Ann):=[(3,{ G:=(Nat),inv:=fun k=>⟨[(0,.row 0),(1,.int .i64 n),(5,.row 2),(6,.int .i64 k)],[(2,.row true 2 (.ints .i64 (z7o e k))),(0,.row false 0 (.ints .u8 e))],3⟩,rel:=fun k0 k=>k <= n.toNat,meas:=fun k=>n.toNat - k })]
def Pot_A:List SV->z0d->List (Nat × Ann):=fun args h=>match args,h with
 | [.row 0,.int .i64 n],[(0,.row false ty0 (.ints .u8 e))]=>Pot_an e n
 | _,_=>[]
def Pot_g:z0c:=[]
abbrev Pot_n:Nat:=29
def Pot_I (e:List Int) (n:Int):List (Nat × z09):=[]
def Pot_IA:List SV->z0d->List (Nat × z09):=fun _ _=>[]
end Go.Proofs.YtggblkbecekbdaaGreat
end
section
namespace Go.Proofs.YtggblkbecekbdaaGreat
open Go Go.RowKit Go.Ql Go.Vc
theorem potF_len (e:List Int) (n:Nat):(z7o e n).length = n:=by simp [z7o]
theorem potF_succ (e:List Int) (n:Nat):z7o e (n + 1) = z7o e n ++ [potE e n]:=by simp [z7o,List.range_succ]
def Pot_E0 (e : List Int) (n : Int) (ty0 : TypeId) : Prop :=
      ∃ (g0:Nat),
 (g0 <= n.toNat/\(True/\n = n/\True/\(0:Int) = (↑g0:Int)/\True)/\[] = z7o e g0/\e = e/\True) /\
 ∀ (g:Nat),
 g <= n.toNat ->
 (decide ((↑g:Int) < n) = true ->
 (decide ((↑g:Int) < (↑e.length:Int)) = true ->
 ((0:Int) <= (↑g:Int)/\(↑g:Int) < (↑e.length:Int)) /\
 (↑g:Int).toNat < e.length /\
 ∀ (x:Int),
 e[(↑g:Int).toNat]? = some x ->
 (25:Int) ≠ (0:Int) /\
 (z7o e g).length + (1:Nat) <= (1000000000:Nat) /\
 ∃ (g':Nat),
 g' <= n.toNat /\
 n.toNat - g' < n.toNat - g /\
 (True/\n = n/\True/\IntKind.i64.wrap ((↑g:Int) + (1:Int)) = (↑g':Int)/\True) /\
 z7o e g ++ [IntKind.i64.wrap (IntKind.i64.wrap (x.tmod (25:Int)) - (8:Int))] = z7o e g'/\e = e/\True) /\
 (decide ((↑g:Int) < (↑e.length:Int)) = false ->
 (z7o e g).length + (1:Nat) <= (1000000000:Nat) /\
 ∃ (g':Nat),
 g' <= n.toNat /\
 n.toNat - g' < n.toNat - g /\
 (True/\n = n/\True/\IntKind.i64.wrap ((↑g:Int) + (1:Int)) = (↑g':Int)/\True)/\z7o e g ++ [(0:Int)] = z7o e g'/\e = e/\True)) /\
 (decide ((↑g:Int) < n) = false->(True/\True)/\z7o e g = z7o e n.toNat/\True)
theorem Pot_q (e:List Int) (n:Int) (ty0:TypeId):Pot_E0 e n ty0 = z2h TT Pot_g (Pot_I e n) (Pot_an e n) Tryz.f29 [.row 0,.int .i64 n] [(0,.row false ty0 (.ints .u8 e))] (Pot_r e n):=by kernel_rfl
theorem Pot_E (e:List Int) (n:Int) (ty0:TypeId) (hp:Bytes e/\e.length <= maxLen/\0 <= n/\n <= 1000000):FVc TT Pot_g (Pot_I e n) (Pot_an e n) Tryz.f29 [.row 0,.int .i64 n] [(0,.row false ty0 (.ints .u8 e))] (Pot_r e n):=by
 refine FVc.of (Pot_E0 e n ty0) (Pot_q e n ty0) ?_
 unfold Pot_E0
 obtain ⟨p1,p2,p3,p4⟩:=hp
 simp only [eq_self,exists_const,forall_const,decide_eq_true_eq,decide_eq_false_iff_not,and_true,true_and,bne_iff_ne,ne_eq,bne_eq_false_iff_eq,Int.toNat_natCast,Bool.not_eq_true',Bool.not_eq_false',beq_iff_eq,beq_eq_false_iff_ne,z08]
 refine ⟨0,⟨by omega,rfl,rfl⟩,fun g hg=>⟨fun h1=>⟨fun h2=>⟨by omega,by omega,fun x hx=>⟨by decide,?_⟩⟩,fun h2=>?_⟩,fun h1=>?_⟩⟩
 ·have hb:=p1 x (List.mem_of_getElem? hx)
  have hd:e.getD g 0 = x:=by simp [List.getD,hx]
  refine ⟨by rw [potF_len]; omega,g + 1,by omega,by omega,by rw [w64 (by omega) (by omega)]; omega,?_⟩
  rw [potF_succ,z2e hb.1,w64 (x:=x % 25) (by omega) (by omega),w64 (by omega) (by omega)]
  unfold potE
  rw [if_pos (by omega),hd]
 ·refine ⟨by rw [potF_len]; omega,g + 1,by omega,by omega,by rw [w64 (by omega) (by omega)]; omega,?_⟩
  rw [potF_succ]
  unfold potE
  rw [if_neg (by omega)]
 ·rw [show n.toNat = g by omega]
theorem Pot_ok:SpecOk Tryz.prog Pot_n true (z02 true Pot_fs) :=
 z0a z0k (show z1d Tryz.prog Pot_g from z05) (by kernel_rfl) mixedOrders Tryz.func29 rfl rfl (by kernel_rfl) (n:=2) (by decide +kernel) (I:=Pot_IA) (fun _ _=>z06) (A:=Pot_A)
  (fun args h r hr=>by
   unfold Pot_fs at hr
   split at hr
   ·rename_i n ty0 e; cases hr; refine ⟨rfl,fun hp=>?_⟩; have hE:=Pot_E e n ty0 hp; exact hE
   ·cases hr)
end Go.Proofs.YtggblkbecekbdaaGreat
end
section
namespace Go.Proofs.YtggblkbecekbdaaGreat
open Go Go.RowKit Go.Ql Go.Vc
def isArc_r (I:Inst) (a:Int):FRes:={ pre:=True,res:=.bool (z4p I a),rows:=[],eff:=[] }
def zij:FS:=fun args h=>match args,h with
 | [.agg [.row 0,.row 1],.int .i64 a],[(0,.row false ty0 (.ints .i64 I_s)),(1,.row false ty1 (.arcs I_a))]=>some (isArc_r ⟨I_s,I_a⟩ a)
 | _,_=>none
def isArc_an (I:Inst) (a:Int):List (Nat × Ann):=[]
def isArc_A:List SV->z0d->List (Nat × Ann):=fun _ _=>[]
def isArc_g:z0c:=[]
abbrev isArc_n:Nat:=120
def isArc_I (I:Inst) (a:Int):List (Nat × z09):=[]
def isArc_IA:List SV->z0d->List (Nat × z09):=fun _ _=>[]
def Sum12_r (I:Inst) (l:List Int):FRes:={ pre:=zfd I.arcs/\l.length <= 140737488351232,res:=.agg (z0s (W (rayS I l))),rows:=[],eff:=[] }
def Sum12_fs:FS:=fun args h=>match args,h with
 | [.agg [.row 0,.row 1],.row 2],[(0,.row false ty0 (.ints .i64 I_s)),(1,.row false ty1 (.arcs I_a)),(2,.row false ty2 (.ints .i64 l))]=>some (Sum12_r ⟨I_s,I_a⟩ l)
 | _,_=>none
def Sum12_an (I:Inst) (l:List Int):List (Nat × Ann):=[(3,{ G:=(Nat),inv:=fun k=>⟨[(2,.ptr 3 0 0 0),(4,.ptr 4 0 0 0),(5,.ptr 5 0 0 0),(8,.row 2),(9,.int .i64 (↑l.length:Int)),(10,.int .i64 k)],[(5,.box true 47 (z0s (W (z9h I l k)))),(4,.box true 47 [.int .i64 (0:Int),.int .u64 (0:Int)]),(3,.box true 25 [.row 0,.row 1]),(0,.row false 0 (.ints .i64 I.sup)),(1,.row false 0 (.arcs I.arcs)),(2,.row false 0 (.ints .i64 l))],6⟩,rel:=fun k0 k=>k <= l.length,meas:=fun k=>l.length - k })]
def Sum12_A:List SV->z0d->List (Nat × Ann):=fun args h=>match args,h with
 | [.agg [.row 0,.row 1],.row 2],[(0,.row false ty0 (.ints .i64 I_s)),(1,.row false ty1 (.arcs I_a)),(2,.row false ty2 (.ints .i64 l))]=>Sum12_an ⟨I_s,I_a⟩ l
 | _,_=>[]
def Sum12_g:z0c:=[(isArc_n,(true,z02 true zij)),(zjq,(true,z02 true z9k)),(Of_n,(true,z02 true zjp))]
abbrev Sum12_n:Nat:=125
def Sum12_I (I:Inst) (l:List Int):List (Nat × z09):=[]
def Sum12_IA:List SV->z0d->List (Nat × z09):=fun _ _=>[]
def asked1_r (l:List Int) (I:Inst):FRes:={ pre:=l.length <= 140737488351232,res:=.bool (c1F I l),rows:=[],eff:=[] }
def zk8:FS:=fun args h=>match args,h with
 | [.ptr 0 0 0 0,.ptr 2 0 0 0],[(0,.box false 37 [.row 1]),(1,.row false ty1 (.ints .i64 l)),(2,.box false 25 [.row 3,.row 4]),(3,.row false ty3 (.ints .i64 I_s)),(4,.row false ty4 (.arcs I_a))]=>some (asked1_r l ⟨I_s,I_a⟩)
 | _,_=>none
def zk7 (l:List Int) (I:Inst):List (Nat × Ann):=[(2,{ G:=(Nat),inv:=fun k=>⟨[(1,.ptr 2 0 0 0),(5,.row 1),(6,.int .i64 (↑l.length:Int)),(7,.int .i64 k)],[(1,.row false 0 (.ints .i64 l)),(2,.box false 25 [.row 3,.row 4]),(3,.row false 0 (.ints .i64 I.sup)),(4,.row false 0 (.arcs I.arcs))],5⟩,rel:=fun k0 k=>k <= l.length/\(l.take k).all (z4p I) = true,meas:=fun k=>l.length - k })]
def asked1_A:List SV->z0d->List (Nat × Ann):=fun args h=>match args,h with
 | [.ptr 0 0 0 0,.ptr 2 0 0 0],[(0,.box false 37 [.row 1]),(1,.row false ty1 (.ints .i64 l)),(2,.box false 25 [.row 3,.row 4]),(3,.row false ty3 (.ints .i64 I_s)),(4,.row false ty4 (.arcs I_a))]=>zk7 l ⟨I_s,I_a⟩
 | _,_=>[]
def asked1_g:z0c:=[(isArc_n,(true,z02 true zij))]
abbrev asked1_n:Nat:=119
def asked1_I (l:List Int) (I:Inst):List (Nat × z09):=[]
def asked1_IA:List SV->z0d->List (Nat × z09):=fun _ _=>[]
def asked2_r (l:List Int):FRes:={ pre:=l.length <= 140737488351232,res:=.bool (c2F l),rows:=[],eff:=[] }
def zkb:FS:=fun args h=>match args,h with
 | [.ptr 0 0 0 0],[(0,.box false 37 [.row 1]),(1,.row false ty1 (.ints .i64 l))]=>some (asked2_r l)
 | _,_=>none
def zka (l:List Int):List (Nat × Ann):=[(3,{ G:=(Nat),inv:=fun k=>⟨[(2,.row 2),(6,.row 1),(7,.int .i64 (↑l.length:Int)),(8,.int .i64 k)],[(2,.map [.i64] .bool (metM (l.take k))),(1,.row false 0 (.ints .i64 l))],3⟩,rel:=fun k0 k=>k <= l.length/\nodI (l.take k),meas:=fun k=>l.length - k })]
def asked2_A:List SV->z0d->List (Nat × Ann):=fun args h=>match args,h with
 | [.ptr 0 0 0 0],[(0,.box false 37 [.row 1]),(1,.row false ty1 (.ints .i64 l))]=>zka l
 | _,_=>[]
def asked2_g:z0c:=[]
abbrev asked2_n:Nat:=121
def asked2_I (l:List Int):List (Nat × z09):=[]
def asked2_IA:List SV->z0d->List (Nat × z09):=fun _ _=>[]
def asked3_r (l:List Int) (I:Inst):FRes:={ pre:=l.length <= 140737488351232/\c1F I l = true,res:=.bool (c3F I l),rows:=[],eff:=[] }
def zke:FS:=fun args h=>match args,h with
 | [.ptr 0 0 0 0,.ptr 2 0 0 0],[(0,.box false 37 [.row 1]),(1,.row false ty1 (.ints .i64 l)),(2,.box false 25 [.row 3,.row 4]),(3,.row false ty3 (.ints .i64 I_s)),(4,.row false ty4 (.arcs I_a))]=>some (asked3_r l ⟨I_s,I_a⟩)
 | _,_=>none
def zkd (l:List Int) (I:Inst):List (Nat × Ann):=[(2,{ G:=(Nat),inv:=fun k=>⟨[(0,.ptr 0 0 0 0),(1,.ptr 2 0 0 0),(6,.row 1),(7,.int .i64 (↑l.length:Int)),(8,.int .i64 k)],[(0,.box false 37 [.row 1]),(1,.row false 0 (.ints .i64 l)),(2,.box false 25 [.row 3,.row 4]),(3,.row false 0 (.ints .i64 I.sup)),(4,.row false 0 (.arcs I.arcs))],5⟩,rel:=fun k0 k=>k <= l.length/\∀ j,j < k->linkF I l j = true,meas:=fun k=>l.length - k })]
def asked3_A:List SV->z0d->List (Nat × Ann):=fun args h=>match args,h with
 | [.ptr 0 0 0 0,.ptr 2 0 0 0],[(0,.box false 37 [.row 1]),(1,.row false ty1 (.ints .i64 l)),(2,.box false 25 [.row 3,.row 4]),(3,.row false ty3 (.ints .i64 I_s)),(4,.row false ty4 (.arcs I_a))]=>zkd l ⟨I_s,I_a⟩
 | _,_=>[]
def asked3_g:z0c:=[]
abbrev asked3_n:Nat:=122
def asked3_I (l:List Int) (I:Inst):List (Nat × z09):=[]
def asked3_IA:List SV->z0d->List (Nat × z09):=fun _ _=>[]
def asked4_r (l:List Int) (I:Inst):FRes:={ pre:=l.length <= 140737488351232/\c1F I l = true,res:=.bool (c4F I l),rows:=[],eff:=[] }
def zkh:FS:=fun args h=>match args,h with
 | [.ptr 0 0 0 0,.ptr 2 0 0 0],[(0,.box false 37 [.row 1]),(1,.row false ty1 (.ints .i64 l)),(2,.box false 25 [.row 3,.row 4]),(3,.row false ty3 (.ints .i64 I_s)),(4,.row false ty4 (.arcs I_a))]=>some (asked4_r l ⟨I_s,I_a⟩)
 | _,_=>none
def zkg (l:List Int) (I:Inst):List (Nat × Ann):=[(2,{ G:=(Nat),inv:=fun k=>⟨[(1,.ptr 2 0 0 0),(5,.row 1),(6,.int .i64 (↑l.length:Int)),(7,.int .i64 k)],[(1,.row false 0 (.ints .i64 l)),(2,.box false 25 [.row 3,.row 4]),(3,.row false 0 (.ints .i64 I.sup)),(4,.row false 0 (.arcs I.arcs))],5⟩,rel:=fun k0 k=>k <= l.length/\(l.take k).all (fun a=>decide ((z4w I a).cap = inf)) = true,meas:=fun k=>l.length - k })]
def asked4_A:List SV->z0d->List (Nat × Ann):=fun args h=>match args,h with
 | [.ptr 0 0 0 0,.ptr 2 0 0 0],[(0,.box false 37 [.row 1]),(1,.row false ty1 (.ints .i64 l)),(2,.box false 25 [.row 3,.row 4]),(3,.row false ty3 (.ints .i64 I_s)),(4,.row false ty4 (.arcs I_a))]=>zkg l ⟨I_s,I_a⟩
 | _,_=>[]
def asked4_g:z0c:=[]
abbrev asked4_n:Nat:=123
def asked4_I (l:List Int) (I:Inst):List (Nat × z09):=[]
def asked4_IA:List SV->z0d->List (Nat × z09):=fun _ _=>[]
def asked5_r (I:Inst) (l:List Int):FRes:={ pre:=l.length <= 140737488351232/\zfd I.arcs,res:=.bool (c5F I l),rows:=[],eff:=[] }
def zkj:FS:=fun args h=>match args,h with
 | [.ptr 0 0 0 0,.ptr 3 0 0 0],[(0,.box false 25 [.row 1,.row 2]),(1,.row false ty1 (.ints .i64 I_s)),(2,.row false ty2 (.arcs I_a)),(3,.box false 37 [.row 4]),(4,.row false ty4 (.ints .i64 l))]=>some (asked5_r ⟨I_s,I_a⟩ l)
 | _,_=>none
def asked5_an (I:Inst) (l:List Int):List (Nat × Ann):=[]
def asked5_A:List SV->z0d->List (Nat × Ann):=fun _ _=>[]
def asked5_g:z0c:=[(Sum12_n,(true,z02 true Sum12_fs)),(Of_n,(true,z02 true zjp)),(zdm,(true,z02 true z7p))]
abbrev asked5_n:Nat:=124
def asked5_I (I:Inst) (l:List Int):List (Nat × z09):=[]
def asked5_IA:List SV->z0d->List (Nat × z09):=fun _ _=>[]
abbrev asked_n:Nat:=69
def asked_g:z0c:=[]
def asked_spec:Vc.Spec:=z57 TT asked_g (fun _ _ _=>[]) Tryz.f69
def Turns_r (I:Inst) (l:List Int):FRes:={ pre:=l.length <= 140737488351232/\zfd I.arcs,res:=.int .u16 (z1l I l),rows:=[],eff:=[] }
def zid:FS:=fun args h=>match args,h with
 | [.agg [.row 0,.row 1],.row 2],[(0,.row false ty0 (.ints .i64 I_s)),(1,.row false ty1 (.arcs I_a)),(2,.row false ty2 (.ints .i64 l))]=>some (Turns_r ⟨I_s,I_a⟩ l)
 | _,_=>none
def Turns_an (I:Inst) (l:List Int):List (Nat × Ann):=[(7,{ G:=(Nat),inv:=fun k=>⟨[(26,.row 7),(27,.int .i64 (↑5:Int)),(28,.int .i64 k)],[(7,.vec 28 [.fn 119 [.ptr 5 0 0 0,.ptr 4 0 0 0],.fn 121 [.ptr 5 0 0 0],.fn 122 [.ptr 5 0 0 0,.ptr 4 0 0 0],.fn 123 [.ptr 5 0 0 0,.ptr 4 0 0 0],.fn 124 [.ptr 4 0 0 0,.ptr 5 0 0 0]]),(5,.box true 37 [.row 2]),(4,.box true 25 [.row 0,.row 1]),(0,.row false 0 (.ints .i64 I.sup)),(1,.row false 0 (.arcs I.arcs)),(2,.row false 0 (.ints .i64 l))],8⟩,rel:=fun k0 k=>k <= 5/\(1 <= k->c1F I l = true)/\(2 <= k->c2F l = true)/\(3 <= k->c3F I l = true)/\(4 <= k->c4F I l = true)/\(5 <= k->c5F I l = true),meas:=fun k=>5 - k })]
def Turns_A:List SV->z0d->List (Nat × Ann):=fun args h=>match args,h with
 | [.agg [.row 0,.row 1],.row 2],[(0,.row false ty0 (.ints .i64 I_s)),(1,.row false ty1 (.arcs I_a)),(2,.row false ty2 (.ints .i64 l))]=>Turns_an ⟨I_s,I_a⟩ l
 | _,_=>[]
def Turns_g:z0c:=[(zcf,(true,z02 true z77)),(asked_n,(false,asked_spec)),(asked1_n,(true,z02 true zk8)),(asked2_n,(true,z02 true zkb)),(asked3_n,(true,z02 true zke)),(asked4_n,(true,z02 true zkh)),(asked5_n,(true,z02 true zkj))]
abbrev Turns_n:Nat:=28
def Turns_I (I:Inst) (l:List Int):List (Nat × z09):=[]
def Turns_IA:List SV->z0d->List (Nat × z09):=fun _ _=>[]
end Go.Proofs.YtggblkbecekbdaaGreat
end
section
namespace Go.Proofs.YtggblkbecekbdaaGreat
open Go Go.RowKit Go.Ql Go.Vc
def isArc_E0 (I : Inst) (a : Int) (ty0 ty1 : TypeId) : Prop :=
   (decide (a ≥ (0:Int)) = true->(decide (a < (↑I.arcs.length:Int)) = z4p I a/\True)/\True)/\(decide (a ≥ (0:Int)) = false->(false = z4p I a/\True)/\True)
theorem isArc_q (I:Inst) (a:Int) (ty0 ty1:TypeId):isArc_E0 I a ty0 ty1 = z2h TT isArc_g (isArc_I I a) (isArc_an I a) Tryz.f120 [.agg [.row 0,.row 1],.int .i64 a] [(0,.row false ty0 (.ints .i64 I.sup)),(1,.row false ty1 (.arcs I.arcs))] (isArc_r I a):=by kernel_rfl
theorem isArc_E (I:Inst) (a:Int) (ty0 ty1:TypeId) (hp:True):FVc TT isArc_g (isArc_I I a) (isArc_an I a) Tryz.f120 [.agg [.row 0,.row 1],.int .i64 a] [(0,.row false ty0 (.ints .i64 I.sup)),(1,.row false ty1 (.arcs I.arcs))] (isArc_r I a):=by
 refine FVc.of (isArc_E0 I a ty0 ty1) (isArc_q I a ty0 ty1) ?_
 unfold isArc_E0
 simp only [eq_self,exists_const,forall_const,decide_eq_true_eq,decide_eq_false_iff_not,and_true,true_and,bne_iff_ne,ne_eq,bne_eq_false_iff_eq,Int.toNat_natCast,Bool.not_eq_true',Bool.not_eq_false',beq_iff_eq,beq_eq_false_iff_ne,z08]
 refine ⟨fun h=>?_,fun h=>?_⟩
 ·simp [z4p,show 0 <= a by omega]
 ·simp [z4p,show ¬ 0 <= a by omega]
theorem isArc_ok:SpecOk Tryz.prog isArc_n true (z02 true zij) :=
 z0a z0k (show z1d Tryz.prog isArc_g from z05) (by kernel_rfl) mixedOrders Tryz.func120 rfl rfl (by kernel_rfl) (n:=2) (by decide +kernel) (I:=isArc_IA) (fun _ _=>z06) (A:=isArc_A)
  (fun args h r hr=>by
   unfold zij at hr
   split at hr
   ·rename_i a ty0 I_s ty1 I_a; cases hr; refine ⟨rfl,fun hp=>?_⟩; have hE:=isArc_E ⟨I_s,I_a⟩ a ty0 ty1 hp; exact hE
   ·cases hr)
def Sum12_E0 (I : Inst) (l : List Int) (ty0 ty1 ty2 : TypeId) : Prop :=
      ∃ (g0:Nat),
 (g0 <= l.length /\
 ((0:Nat) = (0:Nat)/\(0:Nat) = (0:Nat)/\(0:Nat) = (0:Nat)/\True/\(↑l.length:Int) = (↑l.length:Int)/\(0:Int) = (↑g0:Int)/\True) /\
 ((0:Int) = (W (z9h I l g0)).hi/\(0:Int) = (W (z9h I l g0)).lo/\True) /\
 ((0:Int) = (0:Int)/\(0:Int) = (0:Int)/\True)/\(True/\True/\True)/\I.sup = I.sup/\I.arcs = I.arcs/\l = l/\True) /\
 ∀ (g:Nat),
 g <= l.length ->
 (decide ((↑g:Int) < (↑l.length:Int)) = true ->
 ((0:Int) <= (↑g:Int)/\(↑g:Int) < (↑l.length:Int)) /\
 (↑g:Int).toNat < l.length /\
 ∀ (x:Int),
 l[(↑g:Int).toNat]? = some x ->
 True /\
 (z4p I x = true ->
 ((0:Int) <= x/\x < (↑I.arcs.length:Int)) /\
 x.toNat < I.arcs.length /\
 ∀ (x_1:Arc),
 I.arcs[x.toNat]? = some x_1 ->
 I64 x_1.cost /\
 ((W (z9h I l g)).ok/\(W x_1.cost).ok) /\
 ∃ (g':Nat),
 g' <= l.length /\
 l.length - g' < l.length - g /\
 ((0:Nat) = (0:Nat) /\
 (0:Nat) = (0:Nat) /\
 (0:Nat) = (0:Nat) /\
 True/\(↑l.length:Int) = (↑l.length:Int)/\IntKind.i64.wrap ((↑g:Int) + (1:Int)) = (↑g':Int)/\True) /\
 ((z3d (W (z9h I l g)) (W x_1.cost)).hi = (W (z9h I l g')).hi /\
 (z3d (W (z9h I l g)) (W x_1.cost)).lo = (W (z9h I l g')).lo/\True) /\
 ((0:Int) = (0:Int)/\(0:Int) = (0:Int)/\True)/\(True/\True/\True)/\I.sup = I.sup/\I.arcs = I.arcs/\l = l/\True) /\
 (z4p I x = false ->
 ∃ (g':Nat),
 g' <= l.length /\
 l.length - g' < l.length - g /\
 ((0:Nat) = (0:Nat) /\
 (0:Nat) = (0:Nat) /\
 (0:Nat) = (0:Nat)/\True/\(↑l.length:Int) = (↑l.length:Int)/\IntKind.i64.wrap ((↑g:Int) + (1:Int)) = (↑g':Int)/\True) /\
 ((W (z9h I l g)).hi = (W (z9h I l g')).hi/\(W (z9h I l g)).lo = (W (z9h I l g')).lo/\True) /\
 ((0:Int) = (0:Int)/\(0:Int) = (0:Int)/\True)/\(True/\True/\True)/\I.sup = I.sup/\I.arcs = I.arcs/\l = l/\True)) /\
 (decide ((↑g:Int) < (↑l.length:Int)) = false->(((W (z9h I l g)).hi = (W (rayS I l)).hi/\(W (z9h I l g)).lo = (W (rayS I l)).lo/\True)/\True)/\True)
theorem Sum12_q (I:Inst) (l:List Int) (ty0 ty1 ty2:TypeId):Sum12_E0 I l ty0 ty1 ty2 = z2h TT Sum12_g (Sum12_I I l) (Sum12_an I l) Tryz.f125 [.agg [.row 0,.row 1],.row 2] [(0,.row false ty0 (.ints .i64 I.sup)),(1,.row false ty1 (.arcs I.arcs)),(2,.row false ty2 (.ints .i64 l))] (Sum12_r I l):=by kernel_rfl
theorem Sum12_E (I:Inst) (l:List Int) (ty0 ty1 ty2:TypeId) (hp:zfd I.arcs/\l.length <= 140737488351232):FVc TT Sum12_g (Sum12_I I l) (Sum12_an I l) Tryz.f125 [.agg [.row 0,.row 1],.row 2] [(0,.row false ty0 (.ints .i64 I.sup)),(1,.row false ty1 (.arcs I.arcs)),(2,.row false ty2 (.ints .i64 l))] (Sum12_r I l):=by
 refine FVc.of (Sum12_E0 I l ty0 ty1 ty2) (Sum12_q I l ty0 ty1 ty2) ?_
 unfold Sum12_E0
 obtain ⟨p1,p2⟩:=hp
 simp only [eq_self,exists_const,forall_const,decide_eq_true_eq,decide_eq_false_iff_not,and_true,true_and,bne_iff_ne,ne_eq,bne_eq_false_iff_eq,Int.toNat_natCast,Bool.not_eq_true',Bool.not_eq_false',beq_iff_eq,beq_eq_false_iff_ne,z08]
 refine ⟨0,⟨Nat.zero_le _,rfl,by simp only [z9h]; decide,by simp only [z9h]; decide⟩,fun g hg=>⟨fun h1=>⟨by omega,by omega,fun x hx=>?_⟩,fun h1=>?_⟩⟩
 ·have wk:IntKind.i64.wrap ((g:Int) + 1) = ((g + 1:Nat):Int):=by rw [w64 (by omega) (by omega)]; omega
  have hd:l.getD g 0 = x:=by simp [List.getD,hx]
  refine ⟨fun h2=>⟨isArcF_iff.1 h2,by have:=isArcF_iff.1 h2; omega,fun a ha=>⟨p1 a (List.mem_of_getElem? ha),⟨z9d _,z9d _⟩,g + 1,by omega,by omega,wk,?_⟩⟩,fun h2=>⟨g + 1,by omega,by omega,wk,?_⟩⟩
  ·simp only [z9h,hd,rayD,h2,if_true,z6e ha,z96,and_self]
  ·simp only [z9h,hd,rayD,h2,if_false,Int.add_zero,Bool.false_eq_true,and_self]
 ·rw [show g = l.length by omega]
  exact ⟨rfl,rfl⟩
theorem Sum12_ok:SpecOk Tryz.prog Sum12_n true (z02 true Sum12_fs) :=
 z0a z0k (show z1d Tryz.prog Sum12_g from z00 isArc_ok (z00 zfq (z00 Of_ok (z05)))) (by kernel_rfl) mixedOrders Tryz.func125 rfl rfl (by kernel_rfl) (n:=2) (by decide +kernel) (I:=Sum12_IA) (fun _ _=>z06) (A:=Sum12_A)
  (fun args h r hr=>by
   unfold Sum12_fs at hr
   split at hr
   ·rename_i ty0 I_s ty1 I_a ty2 l; cases hr; refine ⟨rfl,fun hp=>?_⟩; have hE:=Sum12_E ⟨I_s,I_a⟩ l ty0 ty1 ty2 hp; exact hE
   ·cases hr)
def zk6 (l : List Int) (I : Inst) (ty1 ty3 ty4 : TypeId) : Prop :=
      ∃ (g0:Nat),
 ((g0 <= l.length/\(List.take g0 l).all (z4p I) = true) /\
 ((0:Nat) = (0:Nat)/\True/\(↑l.length:Int) = (↑l.length:Int)/\(0:Int) = (↑g0:Int)/\True) /\
 l = l/\(True/\True/\True)/\I.sup = I.sup/\I.arcs = I.arcs/\True) /\
 ∀ (g:Nat),
 g <= l.length/\(List.take g l).all (z4p I) = true ->
 (decide ((↑g:Int) < (↑l.length:Int)) = true ->
 ((0:Int) <= (↑g:Int)/\(↑g:Int) < (↑l.length:Int)) /\
 (↑g:Int).toNat < l.length /\
 ∀ (x:Int),
 l[(↑g:Int).toNat]? = some x ->
 True /\
 ((!z4p I x) = true->(false = c1F I l/\True)/\True) /\
 ((!z4p I x) = false ->
 ∃ (g':Nat),
 (g' <= l.length/\(List.take g' l).all (z4p I) = true) /\
 l.length - g' < l.length - g /\
 ((0:Nat) = (0:Nat)/\True/\(↑l.length:Int) = (↑l.length:Int)/\IntKind.i64.wrap ((↑g:Int) + (1:Int)) = (↑g':Int)/\True) /\
 l = l/\(True/\True/\True)/\I.sup = I.sup/\I.arcs = I.arcs/\True)) /\
 (decide ((↑g:Int) < (↑l.length:Int)) = false->(true = c1F I l/\True)/\True)
theorem asked1_q (l:List Int) (I:Inst) (ty1 ty3 ty4:TypeId):zk6 l I ty1 ty3 ty4 = z2h TT asked1_g (asked1_I l I) (zk7 l I) Tryz.f119 [.ptr 0 0 0 0,.ptr 2 0 0 0] [(0,.box false 37 [.row 1]),(1,.row false ty1 (.ints .i64 l)),(2,.box false 25 [.row 3,.row 4]),(3,.row false ty3 (.ints .i64 I.sup)),(4,.row false ty4 (.arcs I.arcs))] (asked1_r l I):=by kernel_rfl
theorem asked1_E (l:List Int) (I:Inst) (ty1 ty3 ty4:TypeId) (hp:l.length <= 140737488351232):FVc TT asked1_g (asked1_I l I) (zk7 l I) Tryz.f119 [.ptr 0 0 0 0,.ptr 2 0 0 0] [(0,.box false 37 [.row 1]),(1,.row false ty1 (.ints .i64 l)),(2,.box false 25 [.row 3,.row 4]),(3,.row false ty3 (.ints .i64 I.sup)),(4,.row false ty4 (.arcs I.arcs))] (asked1_r l I):=by
 refine FVc.of (zk6 l I ty1 ty3 ty4) (asked1_q l I ty1 ty3 ty4) ?_
 unfold zk6
 simp only [eq_self,exists_const,forall_const,decide_eq_true_eq,decide_eq_false_iff_not,and_true,true_and,bne_iff_ne,ne_eq,bne_eq_false_iff_eq,Int.toNat_natCast,Bool.not_eq_true',Bool.not_eq_false',beq_iff_eq,beq_eq_false_iff_ne,z08]
 refine ⟨0,⟨⟨by omega,rfl⟩,rfl⟩,fun g hg=>⟨fun h1=>⟨by omega,by omega,fun x hx=>⟨fun h2=>(all_not hx h2).symm,fun h2=>⟨g + 1,⟨by omega,by rw [all_take hx,hg.2,h2]; rfl⟩,by omega,by rw [w64 (by omega) (by omega)]; omega⟩⟩⟩,fun h1=>(all_end hg.2 (by omega)).symm⟩⟩
theorem asked1_ok:SpecOk Tryz.prog asked1_n true (z02 true zk8) :=
 z0a z0k (show z1d Tryz.prog asked1_g from z00 isArc_ok (z05)) (by kernel_rfl) mixedOrders Tryz.func119 rfl rfl (by kernel_rfl) (n:=2) (by decide +kernel) (I:=asked1_IA) (fun _ _=>z06) (A:=asked1_A)
  (fun args h r hr=>by
   unfold zk8 at hr
   split at hr
   ·rename_i ty1 l ty3 I_s ty4 I_a; cases hr; refine ⟨rfl,fun hp=>?_⟩; have hE:=asked1_E l ⟨I_s,I_a⟩ ty1 ty3 ty4 hp; exact hE
   ·cases hr)
def zk9 (l : List Int) (ty1 : TypeId) : Prop :=
      ∃ (g0:Nat),
 ((g0 <= l.length/\nodI (List.take g0 l))/\(True/\True/\(↑l.length:Int) = (↑l.length:Int)/\(0:Int) = (↑g0:Int)/\True)/\[] = metM (List.take g0 l)/\l = l/\True) /\
 ∀ (g:Nat),
 g <= l.length/\nodI (List.take g l) ->
 (decide ((↑g:Int) < (↑l.length:Int)) = true ->
 ((0:Int) <= (↑g:Int)/\(↑g:Int) < (↑l.length:Int)) /\
 (↑g:Int).toNat < l.length /\
 ∀ (x:Int),
 l[(↑g:Int).toNat]? = some x ->
 (((mget (metM (List.take g l)) [x]).getD (0:Int) == (1:Int)) = true->(false = c2F l/\True)/\True) /\
 (((mget (metM (List.take g l)) [x]).getD (0:Int) == (1:Int)) = false ->
 ∃ (g':Nat),
 (g' <= l.length/\nodI (List.take g' l)) /\
 l.length - g' < l.length - g /\
 (True/\True/\(↑l.length:Int) = (↑l.length:Int)/\IntKind.i64.wrap ((↑g:Int) + (1:Int)) = (↑g':Int)/\True) /\
 mput (metM (List.take g l)) [x] (bif true then (1:Int) else (0:Int)) = metM (List.take g' l)/\l = l/\True)) /\
 (decide ((↑g:Int) < (↑l.length:Int)) = false->(true = c2F l/\True)/\True)
theorem asked2_q (l:List Int) (ty1:TypeId):zk9 l ty1 = z2h TT asked2_g (asked2_I l) (zka l) Tryz.f121 [.ptr 0 0 0 0] [(0,.box false 37 [.row 1]),(1,.row false ty1 (.ints .i64 l))] (asked2_r l):=by kernel_rfl
theorem asked2_E (l:List Int) (ty1:TypeId) (hp:l.length <= 140737488351232):FVc TT asked2_g (asked2_I l) (zka l) Tryz.f121 [.ptr 0 0 0 0] [(0,.box false 37 [.row 1]),(1,.row false ty1 (.ints .i64 l))] (asked2_r l):=by
 refine FVc.of (zk9 l ty1) (asked2_q l ty1) ?_
 unfold zk9
 simp only [eq_self,exists_const,forall_const,decide_eq_true_eq,decide_eq_false_iff_not,and_true,true_and,bne_iff_ne,ne_eq,bne_eq_false_iff_eq,Int.toNat_natCast,Bool.not_eq_true',Bool.not_eq_false',beq_iff_eq,beq_eq_false_iff_ne,z08]
 refine ⟨0,⟨⟨by omega,List.nodup_nil⟩,rfl,rfl⟩,fun g hg=>⟨fun h1=>⟨by omega,by omega,fun x hx=>?_⟩,fun h1=>(nodI_end hg.2 (by omega)).symm⟩⟩
 rw [mget_metM]
 by_cases hm:x ∈ l.take g
 ·simp only [hm,if_true,Option.getD_some,not_true,false_implies,and_true,forall_const]
  exact (nodI_not hx hm).symm
 ·simp only [hm,if_false,Option.getD_none]
  refine ⟨fun h=>by omega,fun _=>⟨g + 1,⟨by omega,nodI_take hx hg.2 hm⟩,by omega,by rw [w64 (by omega) (by omega)]; omega,?_⟩⟩
  rw [z23 hx]
  exact mput_metM hm
theorem asked2_ok:SpecOk Tryz.prog asked2_n true (z02 true zkb) :=
 z0a z0k (show z1d Tryz.prog asked2_g from z05) (by kernel_rfl) mixedOrders Tryz.func121 rfl rfl (by kernel_rfl) (n:=1) (by decide +kernel) (I:=asked2_IA) (fun _ _=>z06) (A:=asked2_A)
  (fun args h r hr=>by
   unfold zkb at hr
   split at hr
   ·rename_i ty1 l; cases hr; refine ⟨rfl,fun hp=>?_⟩; have hE:=asked2_E l ty1 hp; exact hE
   ·cases hr)
def zkc (l : List Int) (I : Inst) (ty1 ty3 ty4 : TypeId) : Prop :=
      ∃ (g0:Nat),
 ((g0 <= l.length/\∀ (j:Nat),j < g0->linkF I l j = true) /\
 ((0:Nat) = (0:Nat)/\(0:Nat) = (0:Nat)/\True/\(↑l.length:Int) = (↑l.length:Int)/\(0:Int) = (↑g0:Int)/\True) /\
 (True/\True)/\l = l/\(True/\True/\True)/\I.sup = I.sup/\I.arcs = I.arcs/\True) /\
 ∀ (g:Nat),
 (g <= l.length/\∀ (j:Nat),j < g->linkF I l j = true) ->
 (decide ((↑g:Int) < (↑l.length:Int)) = true ->
 ((0:Int) <= (↑g:Int)/\(↑g:Int) < (↑l.length:Int)) /\
 (↑g:Int).toNat < l.length /\
 ∀ (x:Int),
 l[(↑g:Int).toNat]? = some x ->
 (↑l.length:Int) ≠ (0:Int) /\
 ((0:Int) <= (IntKind.i64.wrap ((↑g:Int) + (1:Int))).tmod (↑l.length:Int) /\
 (IntKind.i64.wrap ((↑g:Int) + (1:Int))).tmod (↑l.length:Int) < (↑l.length:Int)) /\
 ((IntKind.i64.wrap ((↑g:Int) + (1:Int))).tmod (↑l.length:Int)).toNat < l.length /\
 ∀ (x_1:Int),
 l[((IntKind.i64.wrap ((↑g:Int) + (1:Int))).tmod (↑l.length:Int)).toNat]? = some x_1 ->
 ((0:Int) <= x/\x < (↑I.arcs.length:Int)) /\
 x.toNat < I.arcs.length /\
 ∀ (x_2:Arc),
 I.arcs[x.toNat]? = some x_2 ->
 ((0:Int) <= x_1/\x_1 < (↑I.arcs.length:Int)) /\
 x_1.toNat < I.arcs.length /\
 ∀ (x:Arc),
 I.arcs[x_1.toNat]? = some x ->
 ((x_2.dst != x.src) = true->(false = c3F I l/\True)/\True) /\
 ((x_2.dst != x.src) = false ->
 ∃ (g':Nat),
 (g' <= l.length/\∀ (j:Nat),j < g'->linkF I l j = true) /\
 l.length - g' < l.length - g /\
 ((0:Nat) = (0:Nat) /\
 (0:Nat) = (0:Nat) /\
 True/\(↑l.length:Int) = (↑l.length:Int)/\IntKind.i64.wrap ((↑g:Int) + (1:Int)) = (↑g':Int)/\True) /\
 (True/\True)/\l = l/\(True/\True/\True)/\I.sup = I.sup/\I.arcs = I.arcs/\True)) /\
 (decide ((↑g:Int) < (↑l.length:Int)) = false->(true = c3F I l/\True)/\True)
theorem asked3_q (l:List Int) (I:Inst) (ty1 ty3 ty4:TypeId):zkc l I ty1 ty3 ty4 = z2h TT asked3_g (asked3_I l I) (zkd l I) Tryz.f122 [.ptr 0 0 0 0,.ptr 2 0 0 0] [(0,.box false 37 [.row 1]),(1,.row false ty1 (.ints .i64 l)),(2,.box false 25 [.row 3,.row 4]),(3,.row false ty3 (.ints .i64 I.sup)),(4,.row false ty4 (.arcs I.arcs))] (asked3_r l I):=by kernel_rfl
theorem asked3_E (l:List Int) (I:Inst) (ty1 ty3 ty4:TypeId) (hp:l.length <= 140737488351232/\c1F I l = true):FVc TT asked3_g (asked3_I l I) (zkd l I) Tryz.f122 [.ptr 0 0 0 0,.ptr 2 0 0 0] [(0,.box false 37 [.row 1]),(1,.row false ty1 (.ints .i64 l)),(2,.box false 25 [.row 3,.row 4]),(3,.row false ty3 (.ints .i64 I.sup)),(4,.row false ty4 (.arcs I.arcs))] (asked3_r l I):=by
 refine FVc.of (zkc l I ty1 ty3 ty4) (asked3_q l I ty1 ty3 ty4) ?_
 unfold zkc
 obtain ⟨p1,p2⟩:=hp
 simp only [eq_self,exists_const,forall_const,decide_eq_true_eq,decide_eq_false_iff_not,and_true,true_and,bne_iff_ne,ne_eq,bne_eq_false_iff_eq,Int.toNat_natCast,Bool.not_eq_true',Bool.not_eq_false',beq_iff_eq,beq_eq_false_iff_ne,z08]
 refine ⟨0,⟨⟨by omega,fun j hj=>by omega⟩,rfl⟩,fun g hg=>⟨fun h1=>⟨by omega,by omega,fun x hx=>?_⟩,fun h1=>?_⟩⟩
 ·have hm:(IntKind.i64.wrap ((g:Int) + 1)).tmod (l.length:Int) = (((g + 1) % l.length:Nat):Int):=by rw [w64 (by omega) (by omega),z2e (by omega)]; norm_cast
  have hlt:(g + 1) % l.length < l.length:=Nat.mod_lt _ (by omega)
  rw [hm]
  simp only [Int.toNat_natCast]
  refine ⟨by omega,by omega,by omega,fun y hy=>?_⟩
  have hcx:=c1F_get p2 hx
  have hcy:=c1F_get p2 hy
  refine ⟨hcx,by omega,fun a ha=>⟨hcy,by omega,fun b hb=>?_⟩⟩
  have hl:linkF I l g = decide (a.dst = b.src):=by
   unfold linkF
   have d1:l.getD g 0 = x:=by simp [List.getD,hx]
   have d2:l.getD ((g + 1) % l.length) 0 = y:=by simp [List.getD,hy]
   rw [d1,d2,z6e ha,z6e hb]
  refine ⟨fun h2=>?_,fun h2=>⟨g + 1,⟨by omega,fun j hj=>?_⟩,by omega,by rw [w64 (by omega) (by omega)]; omega⟩⟩
  ·have h3:linkF I l g = false:=by rw [hl]; exact decide_eq_false h2
   cases hc:c3F I l with
   | false=>rfl
   | true=>have:=List.all_eq_true.1 hc g (List.mem_range.2 (by omega)); rw [h3] at this; cases this
  ·by_cases e:j = g
   ·subst e; rw [hl]; exact decide_eq_true h2
   ·exact hg.2 j (by omega)
 ·have:c3F I l = true:=List.all_eq_true.2 fun j hj=>hg.2 j (by have:=List.mem_range.1 hj; omega)
  exact this.symm
theorem asked3_ok:SpecOk Tryz.prog asked3_n true (z02 true zke) :=
 z0a z0k (show z1d Tryz.prog asked3_g from z05) (by kernel_rfl) mixedOrders Tryz.func122 rfl rfl (by kernel_rfl) (n:=2) (by decide +kernel) (I:=asked3_IA) (fun _ _=>z06) (A:=asked3_A)
  (fun args h r hr=>by
   unfold zke at hr
   split at hr
   ·rename_i ty1 l ty3 I_s ty4 I_a; cases hr; refine ⟨rfl,fun hp=>?_⟩; have hE:=asked3_E l ⟨I_s,I_a⟩ ty1 ty3 ty4 hp; exact hE
   ·cases hr)
def zkf (l : List Int) (I : Inst) (ty1 ty3 ty4 : TypeId) : Prop :=
      ∃ (g0:Nat),
 ((g0 <= l.length/\((List.take g0 l).all fun (a:Int)=>decide ((z4w I a).cap = inf)) = true) /\
 ((0:Nat) = (0:Nat)/\True/\(↑l.length:Int) = (↑l.length:Int)/\(0:Int) = (↑g0:Int)/\True) /\
 l = l/\(True/\True/\True)/\I.sup = I.sup/\I.arcs = I.arcs/\True) /\
 ∀ (g:Nat),
 g <= l.length/\((List.take g l).all fun (a:Int)=>decide ((z4w I a).cap = inf)) = true ->
 (decide ((↑g:Int) < (↑l.length:Int)) = true ->
 ((0:Int) <= (↑g:Int)/\(↑g:Int) < (↑l.length:Int)) /\
 (↑g:Int).toNat < l.length /\
 ∀ (x:Int),
 l[(↑g:Int).toNat]? = some x ->
 ((0:Int) <= x/\x < (↑I.arcs.length:Int)) /\
 x.toNat < I.arcs.length /\
 ∀ (x_1:Arc),
 I.arcs[x.toNat]? = some x_1 ->
 ((x_1.cap != (4611686018427387904:Int)) = true->(false = c4F I l/\True)/\True) /\
 ((x_1.cap != (4611686018427387904:Int)) = false ->
 ∃ (g':Nat),
 (g' <= l.length/\((List.take g' l).all fun (a:Int)=>decide ((z4w I a).cap = inf)) = true) /\
 l.length - g' < l.length - g /\
 ((0:Nat) = (0:Nat)/\True/\(↑l.length:Int) = (↑l.length:Int)/\IntKind.i64.wrap ((↑g:Int) + (1:Int)) = (↑g':Int)/\True) /\
 l = l/\(True/\True/\True)/\I.sup = I.sup/\I.arcs = I.arcs/\True)) /\
 (decide ((↑g:Int) < (↑l.length:Int)) = false->(true = c4F I l/\True)/\True)
theorem asked4_q (l:List Int) (I:Inst) (ty1 ty3 ty4:TypeId):zkf l I ty1 ty3 ty4 = z2h TT asked4_g (asked4_I l I) (zkg l I) Tryz.f123 [.ptr 0 0 0 0,.ptr 2 0 0 0] [(0,.box false 37 [.row 1]),(1,.row false ty1 (.ints .i64 l)),(2,.box false 25 [.row 3,.row 4]),(3,.row false ty3 (.ints .i64 I.sup)),(4,.row false ty4 (.arcs I.arcs))] (asked4_r l I):=by kernel_rfl
theorem asked4_E (l:List Int) (I:Inst) (ty1 ty3 ty4:TypeId) (hp:l.length <= 140737488351232/\c1F I l = true):FVc TT asked4_g (asked4_I l I) (zkg l I) Tryz.f123 [.ptr 0 0 0 0,.ptr 2 0 0 0] [(0,.box false 37 [.row 1]),(1,.row false ty1 (.ints .i64 l)),(2,.box false 25 [.row 3,.row 4]),(3,.row false ty3 (.ints .i64 I.sup)),(4,.row false ty4 (.arcs I.arcs))] (asked4_r l I):=by
 refine FVc.of (zkf l I ty1 ty3 ty4) (asked4_q l I ty1 ty3 ty4) ?_
 unfold zkf
 obtain ⟨p1,p2⟩:=hp
 simp only [eq_self,exists_const,forall_const,decide_eq_true_eq,decide_eq_false_iff_not,and_true,true_and,bne_iff_ne,ne_eq,bne_eq_false_iff_eq,Int.toNat_natCast,Bool.not_eq_true',Bool.not_eq_false',beq_iff_eq,beq_eq_false_iff_ne,z08]
 refine ⟨0,⟨⟨by omega,rfl⟩,rfl⟩,fun g hg=>⟨fun h1=>⟨by omega,by omega,fun x hx=>⟨c1F_get p2 hx,by have:=c1F_get p2 hx; omega,fun a ha=>⟨fun h2=>?_,fun h2=>⟨g + 1,⟨by omega,?_⟩,by omega,by rw [w64 (by omega) (by omega)]; omega⟩⟩⟩⟩,fun h1=>(all_end hg.2 (by omega)).symm⟩⟩
 ·exact (all_not hx (decide_eq_false (by rw [z6e ha]; exact h2))).symm
 ·rw [all_take hx,hg.2,z6e ha]
  simp [inf,h2]
theorem asked4_ok:SpecOk Tryz.prog asked4_n true (z02 true zkh) :=
 z0a z0k (show z1d Tryz.prog asked4_g from z05) (by kernel_rfl) mixedOrders Tryz.func123 rfl rfl (by kernel_rfl) (n:=2) (by decide +kernel) (I:=asked4_IA) (fun _ _=>z06) (A:=asked4_A)
  (fun args h r hr=>by
   unfold zkh at hr
   split at hr
   ·rename_i ty1 l ty3 I_s ty4 I_a; cases hr; refine ⟨rfl,fun hp=>?_⟩; have hE:=asked4_E l ⟨I_s,I_a⟩ ty1 ty3 ty4 hp; exact hE
   ·cases hr)
def zki (I : Inst) (l : List Int) (ty1 ty2 ty4 : TypeId) : Prop :=
      (zfd I.arcs/\l.length <= (140737488351232:Nat)) /\
 I64 (0:Int)/\((W (rayS I l)).ok/\(W (0:Int)).ok)/\(decide (zfg (W (rayS I l)) (W (0:Int)) < (0:Int)) = c5F I l/\True)/\True
theorem asked5_q (I:Inst) (l:List Int) (ty1 ty2 ty4:TypeId):zki I l ty1 ty2 ty4 = z2h TT asked5_g (asked5_I I l) (asked5_an I l) Tryz.f124 [.ptr 0 0 0 0,.ptr 3 0 0 0] [(0,.box false 25 [.row 1,.row 2]),(1,.row false ty1 (.ints .i64 I.sup)),(2,.row false ty2 (.arcs I.arcs)),(3,.box false 37 [.row 4]),(4,.row false ty4 (.ints .i64 l))] (asked5_r I l):=by kernel_rfl
theorem asked5_E (I:Inst) (l:List Int) (ty1 ty2 ty4:TypeId) (hp:l.length <= 140737488351232/\zfd I.arcs):FVc TT asked5_g (asked5_I I l) (asked5_an I l) Tryz.f124 [.ptr 0 0 0 0,.ptr 3 0 0 0] [(0,.box false 25 [.row 1,.row 2]),(1,.row false ty1 (.ints .i64 I.sup)),(2,.row false ty2 (.arcs I.arcs)),(3,.box false 37 [.row 4]),(4,.row false ty4 (.ints .i64 l))] (asked5_r I l):=by
 refine FVc.of (zki I l ty1 ty2 ty4) (asked5_q I l ty1 ty2 ty4) ?_
 unfold zki
 obtain ⟨p1,p2⟩:=hp
 simp only [eq_self,exists_const,forall_const,decide_eq_true_eq,decide_eq_false_iff_not,and_true,true_and,bne_iff_ne,ne_eq,bne_eq_false_iff_eq,Int.toNat_natCast,Bool.not_eq_true',Bool.not_eq_false',beq_iff_eq,beq_eq_false_iff_ne,z08]
 exact ⟨⟨p2,p1⟩,by simp [I64],⟨z9d _,z9d _⟩,rfl⟩
theorem asked5_ok:SpecOk Tryz.prog asked5_n true (z02 true zkj) :=
 z0a z0k (show z1d Tryz.prog asked5_g from z00 Sum12_ok (z00 Of_ok (z00 zfj (z05)))) (by kernel_rfl) mixedOrders Tryz.func124 rfl rfl (by kernel_rfl) (n:=2) (by decide +kernel) (I:=asked5_IA) (fun _ _=>z06) (A:=asked5_A)
  (fun args h r hr=>by
   unfold zkj at hr
   split at hr
   ·rename_i ty1 I_s ty2 I_a ty4 l; cases hr; refine ⟨rfl,fun hp=>?_⟩; have hE:=asked5_E ⟨I_s,I_a⟩ l ty1 ty2 ty4 hp; exact hE
   ·cases hr)
theorem asked_ok:SpecOk Tryz.prog asked_n false asked_spec :=
 z9y z0k (show z1d Tryz.prog asked_g from z05) (by kernel_rfl) mixedOrders Tryz.func69 rfl rfl (by kernel_rfl) _
abbrev zb0 (g':Nat) (g:Nat) (I:Inst) (l:List Int):=((5:Nat) - g' < (5:Nat) - g/\((True/\((5:Int) = 5/\(IntKind.i64.wrap ((↑g:Int) + (1:Int)) = (↑g':Int)/\True)))/\(((0 = 0/\(0 = 0/\True))/\((0 = 0/\True)/\((0 = 0/\(0 = 0/\True))/\((0 = 0/\(0 = 0/\True))/\((0 = 0/\(0 = 0/\True))/\True)))))/\((True/\True)/\((True/\(True/\True))/\(I.sup = I.sup/\(I.arcs = I.arcs/\(l = l/\True))))))))
abbrev zb1 (g':Nat) (I:Inst) (l:List Int):=(g' <= (5:Nat)/\(((1:Nat) <= g'->c1F I l = true)/\(((2:Nat) <= g'->c2F l = true)/\(((3:Nat) <= g'->c3F I l = true)/\(((4:Nat) <= g'->c4F I l = true)/\((5:Nat) <= g'->c5F I l = true))))))
def Turns_E0 (I : Inst) (l : List Int) (ty0 ty1 ty2 : TypeId) : Prop :=
   True/\((z03 I != (0:Int)) = true->(z03 I = z1l I l/\True)/\True)/\((z03 I != (0:Int)) = false->(((↑l.length:Int) == (0:Int)) = true->((30:Int) = z1l I l/\True)/\True)/\(((↑l.length:Int) == (0:Int)) = false->(decide ((↑l.length:Int) > ↑I.arcs.length) = true->((30:Int) = z1l I l/\True)/\True)/\(decide ((↑l.length:Int) > ↑I.arcs.length) = false->∃ (g0:Nat),((g0 <= (5:Nat)/\(((1:Nat) <= g0->c1F I l = true)/\(((2:Nat) <= g0->c2F l = true)/\(((3:Nat) <= g0->c3F I l = true)/\(((4:Nat) <= g0->c4F I l = true)/\((5:Nat) <= g0->c5F I l = true))))))/\((True/\((↑(5:Nat):Int) = 5/\((0:Int) = ↑g0/\True)))/\(((0 = 0/\(0 = 0/\True))/\((0 = 0/\True)/\((0 = 0/\(0 = 0/\True))/\((0 = 0/\(0 = 0/\True))/\((0 = 0/\(0 = 0/\True))/\True)))))/\((True/\True)/\((True/\(True/\True))/\(I.sup = I.sup/\(I.arcs = I.arcs/\(l = l/\True))))))))/\∀ (g:Nat),g <= (5:Nat)/\((1:Nat) <= g->c1F I l = true)/\((2:Nat) <= g->c2F l = true)/\((3:Nat) <= g->c3F I l = true)/\((4:Nat) <= g->c4F I l = true)/\((5:Nat) <= g->c5F I l = true)->(decide ((↑g:Int) < 5) = true->((0:Int) <= ↑g/\((↑g:Int) < ↑(5:Nat)))/\(↑g:Int).toNat < (5:Nat)/\((↑g:Int).toNat = (0:Nat)->l.length <= (140737488351232:Nat)/\(((!c1F I l) = true->((35:Int) = z1l I l/\True)/\True)/\((!c1F I l) = false->∃ (g':Nat),(zb1 g' I l)/\(zb0 g' g I l))))/\((↑g:Int).toNat = (0:Nat) + (1:Nat)->l.length <= (140737488351232:Nat)/\(((!c2F l) = true->((35:Int) = z1l I l/\True)/\True)/\((!c2F l) = false->∃ (g':Nat),(zb1 g' I l)/\(zb0 g' g I l))))/\(((↑g:Int).toNat = (0:Nat) + (1:Nat) + (1:Nat)->(l.length <= (140737488351232:Nat)/\(c1F I l = true))/\(((!c3F I l) = true->((35:Int) = z1l I l/\True)/\True)/\((!c3F I l) = false->∃ (g':Nat),(zb1 g' I l)/\(zb0 g' g I l))))/\(((↑g:Int).toNat = (0:Nat) + (1:Nat) + (1:Nat) + (1:Nat)->(l.length <= (140737488351232:Nat)/\(c1F I l = true))/\(((!c4F I l) = true->((35:Int) = z1l I l/\True)/\True)/\((!c4F I l) = false->∃ (g':Nat),(zb1 g' I l)/\(zb0 g' g I l))))/\((↑g:Int).toNat = (0:Nat) + (1:Nat) + (1:Nat) + (1:Nat) + (1:Nat)->(l.length <= (140737488351232:Nat)/\(zfd I.arcs))/\(((!c5F I l) = true->((35:Int) = z1l I l/\True)/\True)/\((!c5F I l) = false->∃ (g':Nat),(zb1 g' I l)/\(zb0 g' g I l)))))))/\(decide ((↑g:Int) < 5) = false->((0:Int) = z1l I l/\True)/\True))))
theorem Turns_q (I:Inst) (l:List Int) (ty0 ty1 ty2:TypeId):Turns_E0 I l ty0 ty1 ty2 = z2h TT Turns_g (Turns_I I l) (Turns_an I l) Tryz.f28 [.agg [.row 0,.row 1],.row 2] [(0,.row false ty0 (.ints .i64 I.sup)),(1,.row false ty1 (.arcs I.arcs)),(2,.row false ty2 (.ints .i64 l))] (Turns_r I l):=by kernel_rfl
theorem Turns_E (I:Inst) (l:List Int) (ty0 ty1 ty2:TypeId) (hp:l.length <= 140737488351232/\zfd I.arcs):FVc TT Turns_g (Turns_I I l) (Turns_an I l) Tryz.f28 [.agg [.row 0,.row 1],.row 2] [(0,.row false ty0 (.ints .i64 I.sup)),(1,.row false ty1 (.arcs I.arcs)),(2,.row false ty2 (.ints .i64 l))] (Turns_r I l):=by
 refine FVc.of (Turns_E0 I l ty0 ty1 ty2) (Turns_q I l ty0 ty1 ty2) ?_
 unfold Turns_E0
 delta zb1 zb0
 obtain ⟨p1,p2⟩:=hp
 simp only [eq_self,exists_const,forall_const,decide_eq_true_eq,decide_eq_false_iff_not,and_true,true_and,bne_iff_ne,ne_eq,bne_eq_false_iff_eq,Int.toNat_natCast,Bool.not_eq_true',Bool.not_eq_false',beq_iff_eq,beq_eq_false_iff_ne,z08]
 unfold z1l
 refine ⟨fun h=>by simp [h],fun h=>⟨fun h2=>by simp [h,show l.length = 0 by omega],fun h2=>⟨fun h3=>by simp [h,show I.arcs.length < l.length by omega],fun h3=>?_⟩⟩⟩
 have e0:¬ (l.length = 0 ∨ I.arcs.length < l.length):=by omega
 simp only [h,e0,ne_eq,not_true,if_false]
 refine ⟨0,⟨⟨by omega,fun h=>by omega,fun h=>by omega,fun h=>by omega,fun h=>by omega,fun h=>by omega⟩,by first | exact rfl | exact ⟨rfl,rfl⟩⟩,fun g hg=>?_⟩
 obtain ⟨g0,g1,g2,g3,g4,g5⟩:=hg
 have wk:IntKind.i64.wrap ((g:Int) + 1) = ((g + 1:Nat):Int):=by rw [w64 (by omega) (by omega)]; omega
 refine ⟨fun h4=>⟨by omega,by omega,fun e=>⟨p1,fun f=>?_,fun f=>⟨g + 1,⟨by omega,fun _=>f,fun h=>by omega,fun h=>by omega,fun h=>by omega,fun h=>by omega⟩,by omega,wk⟩⟩,fun e=>⟨p1,fun f=>?_,fun f=>⟨g + 1,⟨by omega,fun _=>g1 (by omega),fun _=>f,fun h=>by omega,fun h=>by omega,fun h=>by omega⟩,by omega,wk⟩⟩,
  fun e=>⟨⟨p1,g1 (by omega)⟩,fun f=>?_,fun f=>⟨g + 1,⟨by omega,fun _=>g1 (by omega),fun _=>g2 (by omega),fun _=>f,fun h=>by omega,fun h=>by omega⟩,by omega,wk⟩⟩,
  fun e=>⟨⟨p1,g1 (by omega)⟩,fun f=>?_,fun f=>⟨g + 1,⟨by omega,fun _=>g1 (by omega),fun _=>g2 (by omega),fun _=>g3 (by omega),fun _=>f,fun h=>by omega⟩,by omega,wk⟩⟩,
  fun e=>⟨⟨p1,p2⟩,fun f=>?_,fun f=>⟨g + 1,⟨by omega,fun _=>g1 (by omega),fun _=>g2 (by omega),fun _=>g3 (by omega),fun _=>g4 (by omega),fun _=>f⟩,by omega,wk⟩⟩⟩,fun h4=>?_⟩
 all_goals first
  | simp [f]
  | simp [g1 (by omega),g2 (by omega),g3 (by omega),g4 (by omega),g5 (by omega)]
theorem Turns_ok:SpecOk Tryz.prog Turns_n true (z02 true zid) :=
 z0a z0k (show z1d Tryz.prog Turns_g from z00 zax (z00 asked_ok (z00 asked1_ok (z00 asked2_ok (z00 asked3_ok (z00 asked4_ok (z00 asked5_ok (z05)))))))) (by kernel_rfl) mixedOrders Tryz.func28 rfl rfl (by kernel_rfl) (n:=2) (by decide +kernel) (I:=Turns_IA) (fun _ _=>z06) (A:=Turns_A)
  (fun args h r hr=>by
   unfold zid at hr
   split at hr
   ·rename_i ty0 I_s ty1 I_a ty2 l; cases hr; refine ⟨rfl,fun hp=>?_⟩; have hE:=Turns_E ⟨I_s,I_a⟩ l ty0 ty1 ty2 hp; exact hE
   ·cases hr)
end Go.Proofs.YtggblkbecekbdaaGreat
end
section
namespace Go.Proofs.YtggblkbecekbdaaGreat
open Go Go.RowKit Go.Ql Go.Vc
def z0m (c:List Int) (n:Nat):Nat:=if c.length = 0 then 1 else 1 + (c.getD 0 0).toNat % n
def zef (d:List Int) (k:Nat):Int:=if k < d.length then d.getD k 0 % 9 - 6 else 0
def zah (c:List Int) (k:Nat):Int:=if 1 < c.length/\c.getD 1 0 % 8 = 0/\k = 0 then 5 else inf
def roundA (c d:List Int) (m k:Nat):Arc:=⟨k,((k + 1) % m:Nat),0,zah c k,zef d k⟩
def z1g (c d:List Int) (m k:Nat):List Arc:=(List.range k).map (roundA c d m)
def z1i (b k:Nat):List Int:=(List.range k).map fun j:Nat=>((b + j:Nat):Int)
def z16 (c d:List Int):Inst:=⟨(z07 c d).sup,(z07 c d).arcs ++ z1g c d (z0m c (z07 c d).sup.length) (z0m c (z07 c d).sup.length)⟩
def z61 (c d:List Int):List Int:=z1i (z07 c d).arcs.length (z0m c (z07 c d).sup.length)
theorem roundAs_snoc (c d:List Int) (m k:Nat):z1g c d m (k + 1) = z1g c d m k ++ [roundA c d m k]:=by simp [z1g,List.range_succ]
theorem roundLs_snoc (b k:Nat):z1i b (k + 1) = z1i b k ++ [((b + k:Nat):Int)]:=by simp [z1i,List.range_succ]
theorem zn8 (c d:List Int) (m k:Nat):(z1g c d m k).length = k:=by simp [z1g]
theorem zna (b k:Nat):(z1i b k).length = k:=by simp [z1i]
theorem roundM_pos (c:List Int) (n:Nat):1 <= z0m c n:=by unfold z0m; split <;> omega
theorem znb (c:List Int) {n:Nat} (h:0 < n):z0m c n <= n:=by
 unfold z0m
 split
 ·omega
 ·have:=Nat.mod_lt (c.getD 0 0).toNat h; omega
theorem roundA_nice (c d:List Int) {m k n:Nat} (hk:k < m) (hm:m <= n):(roundA c d m k).Nice (n:Int):=by
 have h1:(k + 1) % m < m:=Nat.mod_lt _ (by omega)
 have h2:zah c k = 5 ∨ zah c k = 4611686018427387904:=by unfold zah inf; split <;> simp
 have h3:-6 <= zef d k/\zef d k <= 2:=by unfold zef; split <;> omega
 unfold roundA
 constructor <;> dsimp only <;> omega
theorem zn9 (c d:List Int):(z16 c d).arcs = (z07 c d).arcs ++ z1g c d (z0m c (z07 c d).sup.length) (z0m c (z07 c d).sup.length):=rfl
theorem roundI_nice (c d:List Int):∀ a ∈ (z16 c d).arcs,a.Nice (nOf d):=fun a ha=>by
 have l1:=z6o c d
 have l2:=z8u d
 rw [zn9,List.mem_append] at ha
 rcases ha with ha | ha
 ·exact z7y c d a ha
 ·unfold z1g at ha
  rw [List.mem_map] at ha
  obtain ⟨k,hk,rfl⟩:=ha
  have:=znb c (show 0 < (z07 c d).sup.length by omega)
  exact roundA_nice c d (List.mem_range.1 hk) (by omega)
theorem roundL_len (c d:List Int):(z61 c d).length = z0m c (z07 c d).sup.length:=zna _ _
theorem roundI_len (c d:List Int):(z16 c d).arcs.length = (z07 c d).arcs.length + (z61 c d).length:=by rw [zn9,List.length_append,zn8,roundL_len]
theorem roundL_le (c d:List Int):(z61 c d).length <= 7:=by
 have l1:=z6o c d
 have l2:=z8u d
 have l3:=nOf_le d
 have:=znb c (show 0 < (z07 c d).sup.length by omega)
 rw [roundL_len]; omega
theorem roundI_A64c (c d:List Int):zfd (z16 c d).arcs:=fun a ha=>by
 have h:=roundI_nice c d a ha
 have:=h.k0; have:=h.k1
 unfold I64; omega
def Round_r (c:List Int) (d:List Int):FRes:={ pre:=Bytes c/\Bytes d/\c.length <= maxLen/\d.length <= maxLen,res:=.tup [.agg [.row 2,.row 3],.row 4],rows:=[.row 2 (.ints .i64 (z16 c d).sup),.row 35 (.arcs (z16 c d).arcs),.row 3 (.ints .i64 (z61 c d))],eff:=[] }
def Round_fs:FS:=fun args h=>match args,h with
 | [.row 0,.row 1],[(0,.row false ty0 (.ints .u8 c)),(1,.row false ty1 (.ints .u8 d))]=>some (Round_r c d)
 | _,_=>none
def Round_an (c:List Int) (d:List Int):List (Nat × Ann):=[(8,{ G:=(Nat),inv:=fun k=>⟨[(0,.row 0),(1,.row 1),(4,.ptr 4 0 0 0),(6,.ptr 10 0 0 0),(8,.int .i64 (z0m c (z07 c d).sup.length)),(9,.row 11),(10,.int .i64 k)],[(11,.row true 3 (.ints .i64 (z1i (z07 c d).arcs.length k))),(10,.box true 25 [.row 6,.row 7]),(6,.row true 2 (.ints .i64 (z07 c d).sup)),(7,.row true 35 (.arcs ((z07 c d).arcs ++ z1g c d (z0m c (z07 c d).sup.length) k))),(4,.box true 25 [.row 2,.row 3]),(2,.row true 2 (.ints .i64 [])),(3,.row true 35 (.arcs [])),(0,.row false 0 (.ints .u8 c)),(1,.row false 0 (.ints .u8 d))],12⟩,rel:=fun k0 k=>k <= z0m c (z07 c d).sup.length,meas:=fun k=>z0m c (z07 c d).sup.length - k })]
def Round_A:List SV->z0d->List (Nat × Ann):=fun args h=>match args,h with
 | [.row 0,.row 1],[(0,.row false ty0 (.ints .u8 c)),(1,.row false ty1 (.ints .u8 d))]=>Round_an c d
 | _,_=>[]
def Round_g:z0c:=[(Inst_n,(true,z02 true zjj))]
abbrev Round_n:Nat:=26
def Round_I (c:List Int) (d:List Int):List (Nat × z09):=[]
def Round_IA:List SV->z0d->List (Nat × z09):=fun _ _=>[]
end Go.Proofs.YtggblkbecekbdaaGreat
end
section
namespace Go.Proofs.YtggblkbecekbdaaGreat
open Go Go.RowKit Go.Ql Go.Vc
abbrev zay (c:List Int) (d:List Int) (g:Nat) (x:Int):=(((z07 c d).arcs ++ z1g c d (z0m c (z07 c d).sup.length) g).length + (1:Nat) <= 1000000000/\(∃ (g':Nat),g' <= z0m c (z07 c d).sup.length/\(z0m c (z07 c d).sup.length - g' < z0m c (z07 c d).sup.length - g/\((True/\(True/\(0 = 0/\(0 = 0/\((↑(z0m c (z07 c d).sup.length):Int) = ↑(z0m c (z07 c d).sup.length)/\(True/\(IntKind.i64.wrap ((↑g:Int) + (1:Int)) = (↑g':Int)/\True)))))))/\(z1i (z07 c d).arcs.length g ++ [(↑((z07 c d).arcs ++ z1g c d (z0m c (z07 c d).sup.length) g).length:Int)] = z1i (z07 c d).arcs.length g'/\((True/\(True/\True))/\((z07 c d).sup = (z07 c d).sup/\((z07 c d).arcs ++ z1g c d (z0m c (z07 c d).sup.length) g ++ [{ src:=(↑g:Int),dst:=(IntKind.i64.wrap ((↑g:Int) + (1:Int))).tmod (↑(z0m c (z07 c d).sup.length):Int),low:=(0:Int),cap:=(4611686018427387904:Int),cost:=IntKind.i64.wrap (IntKind.i64.wrap (x.tmod (9:Int)) - (6:Int)):Arc }] = (z07 c d).arcs ++ z1g c d (z0m c (z07 c d).sup.length) g'/\((True/\(True/\True))/\(z59 Int/\(z59 Arc/\(c = c/\(d = d/\True)))))))))))))
abbrev zaz (c:List Int) (d:List Int) (g:Nat):=(((z07 c d).arcs ++ z1g c d (z0m c (z07 c d).sup.length) g).length + (1:Nat) <= 1000000000/\(∃ (g':Nat),g' <= z0m c (z07 c d).sup.length/\(z0m c (z07 c d).sup.length - g' < z0m c (z07 c d).sup.length - g/\((True/\(True/\(0 = 0/\(0 = 0/\((↑(z0m c (z07 c d).sup.length):Int) = ↑(z0m c (z07 c d).sup.length)/\(True/\(IntKind.i64.wrap ((↑g:Int) + (1:Int)) = (↑g':Int)/\True)))))))/\(z1i (z07 c d).arcs.length g ++ [(↑((z07 c d).arcs ++ z1g c d (z0m c (z07 c d).sup.length) g).length:Int)] = z1i (z07 c d).arcs.length g'/\((True/\(True/\True))/\((z07 c d).sup = (z07 c d).sup/\((z07 c d).arcs ++ z1g c d (z0m c (z07 c d).sup.length) g ++ [{ src:=(↑g:Int),dst:=(IntKind.i64.wrap ((↑g:Int) + (1:Int))).tmod (↑(z0m c (z07 c d).sup.length):Int),low:=(0:Int),cap:=(4611686018427387904:Int),cost:=(0:Int):Arc }] = (z07 c d).arcs ++ z1g c d (z0m c (z07 c d).sup.length) g'/\((True/\(True/\True))/\(z59 Int/\(z59 Arc/\(c = c/\(d = d/\True)))))))))))))
abbrev Round_a2 (x_1:Int) (g:Nat) (c:List Int) (d:List Int) (x:Int):=((x_1.tmod (8:Int) == (0:Int)) = true->(((↑g:Int) == (0:Int)) = true->(z1i (z07 c d).arcs.length g).length + (1:Nat) <= 1000000000/\(((z07 c d).arcs ++ z1g c d (z0m c (z07 c d).sup.length) g).length + (1:Nat) <= 1000000000/\(∃ (g':Nat),g' <= z0m c (z07 c d).sup.length/\(z0m c (z07 c d).sup.length - g' < z0m c (z07 c d).sup.length - g/\((True/\(True/\(0 = 0/\(0 = 0/\((↑(z0m c (z07 c d).sup.length):Int) = ↑(z0m c (z07 c d).sup.length)/\(True/\(IntKind.i64.wrap ((↑g:Int) + (1:Int)) = (↑g':Int)/\True)))))))/\(z1i (z07 c d).arcs.length g ++ [(↑((z07 c d).arcs ++ z1g c d (z0m c (z07 c d).sup.length) g).length:Int)] = z1i (z07 c d).arcs.length g'/\((True/\(True/\True))/\((z07 c d).sup = (z07 c d).sup/\((z07 c d).arcs ++ z1g c d (z0m c (z07 c d).sup.length) g ++ [{ src:=(↑g:Int),dst:=(IntKind.i64.wrap ((↑g:Int) + (1:Int))).tmod (↑(z0m c (z07 c d).sup.length):Int),low:=(0:Int),cap:=(5:Int),cost:=IntKind.i64.wrap (IntKind.i64.wrap (x.tmod (9:Int)) - (6:Int)):Arc }] = (z07 c d).arcs ++ z1g c d (z0m c (z07 c d).sup.length) g'/\((True/\(True/\True))/\(z59 Int/\(z59 Arc/\(c = c/\(d = d/\True))))))))))))))/\(((↑g:Int) == (0:Int)) = false->(z1i (z07 c d).arcs.length g).length + (1:Nat) <= 1000000000/\(zay c d g x)))
abbrev Round_a3 (x:Int) (g:Nat) (c:List Int) (d:List Int):=((x.tmod (8:Int) == (0:Int)) = true->(((↑g:Int) == (0:Int)) = true->(z1i (z07 c d).arcs.length g).length + (1:Nat) <= 1000000000/\(((z07 c d).arcs ++ z1g c d (z0m c (z07 c d).sup.length) g).length + (1:Nat) <= 1000000000/\(∃ (g':Nat),g' <= z0m c (z07 c d).sup.length/\(z0m c (z07 c d).sup.length - g' < z0m c (z07 c d).sup.length - g/\((True/\(True/\(0 = 0/\(0 = 0/\((↑(z0m c (z07 c d).sup.length):Int) = ↑(z0m c (z07 c d).sup.length)/\(True/\(IntKind.i64.wrap ((↑g:Int) + (1:Int)) = (↑g':Int)/\True)))))))/\(z1i (z07 c d).arcs.length g ++ [(↑((z07 c d).arcs ++ z1g c d (z0m c (z07 c d).sup.length) g).length:Int)] = z1i (z07 c d).arcs.length g'/\((True/\(True/\True))/\((z07 c d).sup = (z07 c d).sup/\((z07 c d).arcs ++ z1g c d (z0m c (z07 c d).sup.length) g ++ [{ src:=(↑g:Int),dst:=(IntKind.i64.wrap ((↑g:Int) + (1:Int))).tmod (↑(z0m c (z07 c d).sup.length):Int),low:=(0:Int),cap:=(5:Int),cost:=(0:Int):Arc }] = (z07 c d).arcs ++ z1g c d (z0m c (z07 c d).sup.length) g'/\((True/\(True/\True))/\(z59 Int/\(z59 Arc/\(c = c/\(d = d/\True))))))))))))))/\(((↑g:Int) == (0:Int)) = false->(z1i (z07 c d).arcs.length g).length + (1:Nat) <= 1000000000/\(zaz c d g)))
abbrev Round_a4 (g:Nat) (c:List Int) (d:List Int):=(decide ((↑g:Int) < ↑(z0m c (z07 c d).sup.length)) = false->(((True/\(True/\True))/\(True/\True))/\True)/\((z07 c d).sup = (z16 c d).sup/\((z07 c d).arcs ++ z1g c d (z0m c (z07 c d).sup.length) g = (z16 c d).arcs/\(z1i (z07 c d).arcs.length g = z61 c d/\True))))
abbrev Round_a5 (c:List Int) (d:List Int) (g0:Nat):=([] = z1i (z07 c d).arcs.length g0/\((True/\(True/\True))/\((z07 c d).sup = (z07 c d).sup/\((z07 c d).arcs = (z07 c d).arcs ++ z1g c d (z0m c (z07 c d).sup.length) g0/\((True/\(True/\True))/\(z59 Int/\(z59 Arc/\(c = c/\(d = d/\True)))))))))
def Round_E0 (c : List Int) (d : List Int) (ty0 ty1 : TypeId) : Prop :=
   (Bytes c/\(Bytes d/\(c.length <= maxLen/\(d.length <= maxLen))))/\(decide ((↑c.length:Int) > 0) = true->((0:Int) <= 0/\((0:Int) < ↑c.length))/\Int.toNat (0:Int) < c.length/\∀ (x:Int),c[Int.toNat (0:Int)]? = some x->(↑(z07 c d).sup.length:Int) ≠ (0:Int)/\∃ (g0:Nat),(g0 <= z0m c (z07 c d).sup.length/\((True/\(True/\(0 = 0/\(0 = 0/\(IntKind.i64.wrap ((1:Int) + (IntKind.i64.wrap x).tmod (↑(z07 c d).sup.length:Int)) = (↑(z0m c (z07 c d).sup.length):Int)/\(True/\((0:Int) = ↑g0/\True)))))))/\(Round_a5 c d g0)))/\∀ (g:Nat),g <= z0m c (z07 c d).sup.length->(decide ((↑g:Int) < ↑(z0m c (z07 c d).sup.length)) = true->(decide ((↑g:Int) < ↑d.length) = true->((0:Int) <= ↑g/\((↑g:Int) < ↑d.length))/\(↑g:Int).toNat < d.length/\∀ (x:Int),d[(↑g:Int).toNat]? = some x->(9:Int) ≠ (0:Int)/\(↑(z0m c (z07 c d).sup.length):Int) ≠ (0:Int)/\(decide ((↑c.length:Int) > 1) = true->((0:Int) <= 1/\((1:Int) < ↑c.length))/\Int.toNat (1:Int) < c.length/\∀ (x_1:Int),c[Int.toNat (1:Int)]? = some x_1->(8:Int) ≠ (0:Int)/\(Round_a2 x_1 g c d x)/\((x_1.tmod (8:Int) == (0:Int)) = false->(z1i (z07 c d).arcs.length g).length + (1:Nat) <= 1000000000/\(zay c d g x)))/\(decide ((↑c.length:Int) > 1) = false->(z1i (z07 c d).arcs.length g).length + (1:Nat) <= 1000000000/\(zay c d g x)))/\(decide ((↑g:Int) < ↑d.length) = false->(↑(z0m c (z07 c d).sup.length):Int) ≠ (0:Int)/\(decide ((↑c.length:Int) > 1) = true->((0:Int) <= 1/\((1:Int) < ↑c.length))/\Int.toNat (1:Int) < c.length/\∀ (x:Int),c[Int.toNat (1:Int)]? = some x->(8:Int) ≠ (0:Int)/\(Round_a3 x g c d)/\((x.tmod (8:Int) == (0:Int)) = false->(z1i (z07 c d).arcs.length g).length + (1:Nat) <= 1000000000/\(zaz c d g)))/\(decide ((↑c.length:Int) > 1) = false->(z1i (z07 c d).arcs.length g).length + (1:Nat) <= 1000000000/\(zaz c d g))))/\(Round_a4 g c d))/\(decide ((↑c.length:Int) > 0) = false->∃ (g0:Nat),(g0 <= z0m c (z07 c d).sup.length/\((True/\(True/\(0 = 0/\(0 = 0/\((1:Int) = ↑(z0m c (z07 c d).sup.length)/\(True/\((0:Int) = ↑g0/\True)))))))/\(Round_a5 c d g0)))/\∀ (g:Nat),g <= z0m c (z07 c d).sup.length->(decide ((↑g:Int) < ↑(z0m c (z07 c d).sup.length)) = true->(decide ((↑g:Int) < ↑d.length) = true->((0:Int) <= ↑g/\((↑g:Int) < ↑d.length))/\(↑g:Int).toNat < d.length/\∀ (x:Int),d[(↑g:Int).toNat]? = some x->(9:Int) ≠ (0:Int)/\(↑(z0m c (z07 c d).sup.length):Int) ≠ (0:Int)/\(decide ((↑c.length:Int) > 1) = true->((0:Int) <= 1/\((1:Int) < ↑c.length))/\Int.toNat (1:Int) < c.length/\∀ (x_1:Int),c[Int.toNat (1:Int)]? = some x_1->(8:Int) ≠ (0:Int)/\(Round_a2 x_1 g c d x)/\((x_1.tmod (8:Int) == (0:Int)) = false->(z1i (z07 c d).arcs.length g).length + (1:Nat) <= 1000000000/\(zay c d g x)))/\(decide ((↑c.length:Int) > 1) = false->(z1i (z07 c d).arcs.length g).length + (1:Nat) <= 1000000000/\(zay c d g x)))/\(decide ((↑g:Int) < ↑d.length) = false->(↑(z0m c (z07 c d).sup.length):Int) ≠ (0:Int)/\(decide ((↑c.length:Int) > 1) = true->((0:Int) <= 1/\((1:Int) < ↑c.length))/\Int.toNat (1:Int) < c.length/\∀ (x:Int),c[Int.toNat (1:Int)]? = some x->(8:Int) ≠ (0:Int)/\(Round_a3 x g c d)/\((x.tmod (8:Int) == (0:Int)) = false->(z1i (z07 c d).arcs.length g).length + (1:Nat) <= 1000000000/\(zaz c d g)))/\(decide ((↑c.length:Int) > 1) = false->(z1i (z07 c d).arcs.length g).length + (1:Nat) <= 1000000000/\(zaz c d g))))/\(Round_a4 g c d))
theorem Round_q (c:List Int) (d:List Int) (ty0 ty1:TypeId):Round_E0 c d ty0 ty1 = z2h TT Round_g (Round_I c d) (Round_an c d) Tryz.f26 [.row 0,.row 1] [(0,.row false ty0 (.ints .u8 c)),(1,.row false ty1 (.ints .u8 d))] (Round_r c d):=by kernel_rfl
theorem Round_E (c:List Int) (d:List Int) (ty0 ty1:TypeId) (hp:Bytes c/\Bytes d/\c.length <= maxLen/\d.length <= maxLen):FVc TT Round_g (Round_I c d) (Round_an c d) Tryz.f26 [.row 0,.row 1] [(0,.row false ty0 (.ints .u8 c)),(1,.row false ty1 (.ints .u8 d))] (Round_r c d):=by
 refine FVc.of (Round_E0 c d ty0 ty1) (Round_q c d ty0 ty1) ?_
 unfold Round_E0
 delta Round_a5 Round_a4 Round_a3 Round_a2 zaz zay
 obtain ⟨p1,p2,p3,p4⟩:=hp
 have l1:=z6o c d
 have l2:=z8u d
 have l3:=nOf_le d
 have l4:=zbb c d
 have hM1:=roundM_pos c (z07 c d).sup.length
 have hM2:=znb c (show 0 < (z07 c d).sup.length by omega)
 have e0:c.length = 0->z0m c (z07 c d).sup.length = 1:=fun h=>by unfold z0m; rw [if_pos h]
 have e1:∀ x,c[(0:Int).toNat]? = some x->IntKind.i64.wrap (1 + (IntKind.i64.wrap x).tmod ((z07 c d).sup.length:Int)) = (z0m c (z07 c d).sup.length:Int):=fun x hx=>by
  have hx':c[0]? = some x:=by simpa using hx
  have hb:=p1 x (List.mem_of_getElem? hx')
  have hc:¬ c.length = 0:=fun h=>by rw [List.getElem?_eq_none (by omega)] at hx'; cases hx'
  have hd:c.getD 0 0 = x:=by simp [List.getD,hx']
  have m0:=Int.emod_nonneg x (b:=((z07 c d).sup.length:Int)) (by omega)
  have m1:=Int.emod_lt_of_pos x (show (0:Int) < (z07 c d).sup.length by omega)
  unfold z0m
  rw [if_neg hc,hd,w64 (x:=x) (by omega) (by omega),z2e (by omega),w64 (by omega) (by omega)]
  have:((x.toNat % (z07 c d).sup.length:Nat):Int) = x % ((z07 c d).sup.length:Int):=by rw [Int.natCast_emod,Int.toNat_of_nonneg hb.1]
  omega
 have wk:∀ g:Nat,g < z0m c (z07 c d).sup.length->IntKind.i64.wrap ((g:Int) + 1) = ((g + 1:Nat):Int):=fun g hg=>by rw [w64 (by omega) (by omega)]; omega
 have e2:z61 c d = z1i (z07 c d).arcs.length (z0m c (z07 c d).sup.length):=rfl
 have e3:(z16 c d).arcs = (z07 c d).arcs ++ z1g c d (z0m c (z07 c d).sup.length) (z0m c (z07 c d).sup.length):=rfl
 have e4:(z16 c d).sup = (z07 c d).sup:=rfl
 generalize hM:z0m c (z07 c d).sup.length = M at *
 simp only [eq_self,exists_const,forall_const,decide_eq_true_eq,decide_eq_false_iff_not,and_true,true_and,bne_iff_ne,ne_eq,bne_eq_false_iff_eq,Int.toNat_natCast,Bool.not_eq_true',Bool.not_eq_false',beq_iff_eq,beq_eq_false_iff_ne,z08]
 have step:∀ (g:Nat) (cap cost:Int),g < M->cap = zah c g->cost = zef d g->(z1i (z07 c d).arcs.length g).length + 1 <= 1000000000/\((z07 c d).arcs ++ z1g c d M g).length + 1 <= 1000000000/\∃ g':Nat,g' <= M/\M - g' < M - g/\IntKind.i64.wrap ((g:Int) + 1) = (g':Int)/\z1i (z07 c d).arcs.length g ++ [(((z07 c d).arcs ++ z1g c d M g).length:Int)] = z1i (z07 c d).arcs.length g'/\(z07 c d).arcs ++ z1g c d M g ++ [(⟨(g:Int),(IntKind.i64.wrap ((g:Int) + 1)).tmod (M:Int),0,cap,cost⟩:Arc)] = (z07 c d).arcs ++ z1g c d M g':=fun g cap cost hg h1 h2=>by
  rw [List.length_append,zn8,zna]
  refine ⟨by omega,by omega,g + 1,by omega,by omega,wk g hg,(roundLs_snoc _ _).symm,?_⟩
  rw [roundAs_snoc,List.append_assoc,wk g hg,h1,h2,z2e (by omega)]
  unfold roundA
  rw [Int.natCast_emod]
 have hP5:∀ (g:Nat) (y:Int),c[(1:Int).toNat]? = some y->y.tmod 8 = 0->(g:Int) = 0->(5:Int) = zah c g:=fun g y hy h1 h2=>by
  have hy':c[1]? = some y:=by simpa using hy
  have hb:=p1 y (List.mem_of_getElem? hy')
  have hd:c.getD 1 0 = y:=by simp [List.getD,hy']
  have hc:1 < c.length:=by
   rcases Nat.lt_or_ge 1 c.length with h | h
   ·exact h
   ·rw [List.getElem?_eq_none h] at hy'; cases hy'
  rw [z2e hb.1] at h1
  unfold zah
  rw [hd,if_pos ⟨hc,h1,by omega⟩]
 have hP6:∀ (g:Nat) (y:Int),c[(1:Int).toNat]? = some y->¬ (y.tmod 8 = 0/\(g:Int) = 0)->(4611686018427387904:Int) = zah c g:=fun g y hy h1=>by
  have hy':c[1]? = some y:=by simpa using hy
  have hb:=p1 y (List.mem_of_getElem? hy')
  have hd:c.getD 1 0 = y:=by simp [List.getD,hy']
  rw [z2e hb.1] at h1
  unfold zah
  rw [hd,if_neg (fun h=>h1 ⟨h.2.1,by omega⟩)]
  rfl
 have hP7:∀ g:Nat,¬ (c.length:Int) > 1->(4611686018427387904:Int) = zah c g:=fun g h1=>by
  unfold zah
  rw [if_neg (fun h=>h1 (by omega))]
  rfl
 have hC1:∀ (g:Nat) (x:Int),d[g]? = some x->IntKind.i64.wrap (IntKind.i64.wrap (x.tmod 9) - 6) = zef d g:=fun g x hx=>by
  have hb:=p2 x (List.mem_of_getElem? hx)
  have hd:d.getD g 0 = x:=by simp [List.getD,hx]
  have hl:g < d.length:=by
   rcases Nat.lt_or_ge g d.length with h | h
   ·exact h
   ·rw [List.getElem?_eq_none h] at hx; cases hx
  unfold zef
  rw [if_pos hl,hd,z2e hb.1,w64 (x:=x % 9) (by omega) (by omega),w64 (by omega) (by omega)]
 have hC2:∀ g:Nat,¬ (g:Int) < (d.length:Int)->(0:Int) = zef d g:=fun g h=>by
  unfold zef
  rw [if_neg (by omega)]
 refine ⟨⟨p1,p2,p3,p4⟩,fun h=>⟨by omega,by omega,fun x hx=>⟨by omega,0,⟨by omega,⟨e1 x hx,rfl⟩,rfl,by simp [z1g]⟩,?_⟩⟩,fun h=>⟨0,⟨by omega,⟨by have:=e0 (by omega); omega,rfl⟩,rfl,by simp [z1g]⟩,?_⟩⟩
 all_goals
  intro g hg
  refine ⟨fun h1=>⟨fun h2=>⟨by omega,by omega,fun x hx=>⟨by decide,by omega,fun h3=>⟨by omega,by omega,fun y hy=>⟨by decide,fun h4=>⟨fun h5=>step g _ _ (by omega) (hP5 g y hy h4 h5) (hC1 g x hx),fun h5=>step g _ _ (by omega) (hP6 g y hy (fun h=>h5 h.2)) (hC1 g x hx)⟩,fun h4=>step g _ _ (by omega) (hP6 g y hy (fun h=>h4 h.1)) (hC1 g x hx)⟩⟩,fun h3=>step g _ _ (by omega) (hP7 g h3) (hC1 g x hx)⟩⟩,
   fun h2=>⟨by omega,fun h3=>⟨by omega,by omega,fun y hy=>⟨by decide,fun h4=>⟨fun h5=>step g _ _ (by omega) (hP5 g y hy h4 h5) (hC2 g h2),fun h5=>step g _ _ (by omega) (hP6 g y hy (fun h=>h5 h.2)) (hC2 g h2)⟩,fun h4=>step g _ _ (by omega) (hP6 g y hy (fun h=>h4 h.1)) (hC2 g h2)⟩⟩,fun h3=>step g _ _ (by omega) (hP7 g h3) (hC2 g h2)⟩⟩,fun h1=>?_⟩
  have:g = M:=by omega
  subst this
  simp [e2,e3,e4]
theorem Round_ok:SpecOk Tryz.prog Round_n true (z02 true Round_fs) :=
 z0a z0k (show z1d Tryz.prog Round_g from z00 Inst_ok (z05)) (by kernel_rfl) mixedOrders Tryz.func26 rfl rfl (by kernel_rfl) (n:=2) (by decide +kernel) (I:=Round_IA) (fun _ _=>z06) (A:=Round_A)
  (fun args h r hr=>by
   unfold Round_fs at hr
   split at hr
   ·rename_i ty0 c ty1 d; cases hr; refine ⟨rfl,fun hp=>?_⟩; have hE:=Round_E c d ty0 ty1 hp; exact hE
   ·cases hr)
end Go.Proofs.YtggblkbecekbdaaGreat
end
section
namespace Go.Proofs.YtggblkbecekbdaaGreat
open Go Go.RowKit Go.Ql Go.Vc
def ValueC_r (I:Inst) (c:Cert):FRes:={ pre:=z76 c/\zjh I,res:=.tup [.agg (z0s (z62 I c)),.bool (decide (c.kind = 1))],rows:=[],eff:=[] }
def zjy:FS:=fun args h=>match args,h with
 | [.agg [.row 0,.row 1],.agg [.int .i64 c_k,.row 2,.row 3,.row 4,.row 5]],[(0,.row false ty0 (.ints .i64 I_s)),(1,.row false ty1 (.arcs I_a)),(2,.row false ty2 (.ints .i64 c_f)),(3,.row false ty3 (.ints .i64 c_p)),(4,.row false ty4 (.bools c_s)),(5,.row false ty5 (.ints .i64 c_y))]=>some (ValueC_r ⟨I_s,I_a⟩ ⟨c_k,c_f,c_p,c_s,c_y⟩)
 | _,_=>none
def ValueC_an (I:Inst) (c:Cert):List (Nat × Ann):=[]
def ValueC_A:List SV->z0d->List (Nat × Ann):=fun _ _=>[]
def ValueC_g:z0c:=[(Cost_n,(true,z02 true Cost_fs))]
abbrev ValueC_n:Nat:=20
def ValueC_I (I:Inst) (c:Cert):List (Nat × z09):=[]
def ValueC_IA:List SV->z0d->List (Nat × z09):=fun _ _=>[]
end Go.Proofs.YtggblkbecekbdaaGreat
end
section
namespace Go.Proofs.YtggblkbecekbdaaGreat
open Go Go.RowKit Go.Ql Go.Vc
def zjx (I : Inst) (c : Cert) (ty0 ty1 ty2 ty3 ty4 ty5 : TypeId) : Prop :=
      ((c.kind != (1:Int)) = true->((((0:Int) = (z62 I c).hi/\(0:Int) = (z62 I c).lo/\True)/\false = decide (c.kind = (1:Int))/\True)/\True)/\True) /\
 ((c.kind != (1:Int)) = false ->
 (A64 c.flow/\zfd I.arcs/\I.arcs.length <= (1000000:Nat)) /\
 ((((W (zck I c.flow)).hi = (z62 I c).hi/\(W (zck I c.flow)).lo = (z62 I c).lo/\True)/\true = decide (c.kind = (1:Int))/\True)/\True)/\True)
theorem ValueC_q (I:Inst) (c:Cert) (ty0 ty1 ty2 ty3 ty4 ty5:TypeId):zjx I c ty0 ty1 ty2 ty3 ty4 ty5 = z2h TT ValueC_g (ValueC_I I c) (ValueC_an I c) Tryz.f20 [.agg [.row 0,.row 1],.agg [.int .i64 c.kind,.row 2,.row 3,.row 4,.row 5]] [(0,.row false ty0 (.ints .i64 I.sup)),(1,.row false ty1 (.arcs I.arcs)),(2,.row false ty2 (.ints .i64 c.flow)),(3,.row false ty3 (.ints .i64 c.pot)),(4,.row false ty4 (.bools c.side)),(5,.row false ty5 (.ints .i64 c.cycle))] (ValueC_r I c):=by kernel_rfl
theorem ValueC_E (I:Inst) (c:Cert) (ty0 ty1 ty2 ty3 ty4 ty5:TypeId) (hp:z76 c/\zjh I):FVc TT ValueC_g (ValueC_I I c) (ValueC_an I c) Tryz.f20 [.agg [.row 0,.row 1],.agg [.int .i64 c.kind,.row 2,.row 3,.row 4,.row 5]] [(0,.row false ty0 (.ints .i64 I.sup)),(1,.row false ty1 (.arcs I.arcs)),(2,.row false ty2 (.ints .i64 c.flow)),(3,.row false ty3 (.ints .i64 c.pot)),(4,.row false ty4 (.bools c.side)),(5,.row false ty5 (.ints .i64 c.cycle))] (ValueC_r I c):=by
 refine FVc.of (zjx I c ty0 ty1 ty2 ty3 ty4 ty5) (ValueC_q I c ty0 ty1 ty2 ty3 ty4 ty5) ?_
 unfold zjx
 obtain ⟨c1,c2,c3,c4,c5,c6⟩:=hp.1
 obtain ⟨i1,i2,i3,i4,i5⟩:=hp.2
 simp only [eq_self,exists_const,forall_const,decide_eq_true_eq,decide_eq_false_iff_not,and_true,true_and,bne_iff_ne,ne_eq,bne_eq_false_iff_eq,Int.toNat_natCast,Bool.not_eq_true',Bool.not_eq_false',beq_iff_eq,beq_eq_false_iff_ne,z08]
 unfold z62
 refine ⟨fun h=>by rw [if_neg h]; exact ⟨⟨rfl,rfl⟩,(decide_eq_false h).symm⟩,fun h=>⟨⟨c1,i5,by omega⟩,by rw [if_pos h]; exact ⟨⟨rfl,rfl⟩,(decide_eq_true h).symm⟩⟩⟩
theorem ValueC_ok:SpecOk Tryz.prog ValueC_n true (z02 true zjy) :=
 z0a z0k (show z1d Tryz.prog ValueC_g from z00 Cost_ok (z05)) (by kernel_rfl) mixedOrders Tryz.func20 rfl rfl (by kernel_rfl) (n:=2) (by decide +kernel) (I:=ValueC_IA) (fun _ _=>z06) (A:=ValueC_A)
  (fun args h r hr=>by
   unfold zjy at hr
   split at hr
   ·rename_i c_k ty0 I_s ty1 I_a ty2 c_f ty3 c_p ty4 c_s ty5 c_y; cases hr; refine ⟨rfl,fun hp=>?_⟩; have hE:=ValueC_E ⟨I_s,I_a⟩ ⟨c_k,c_f,c_p,c_s,c_y⟩ ty0 ty1 ty2 ty3 ty4 ty5 hp; exact hE
   ·cases hr)
end Go.Proofs.YtggblkbecekbdaaGreat
end
section
namespace Go.Proofs.YtggblkbecekbdaaGreat
open Go Go.RowKit Go.Ql Go.Vc
def zgq (c:Cert):FRes:={ pre:=True,res:=.bool (z3w c),rows:=[],eff:=[] }
def zcy:FS:=fun args h=>match args,h with
 | [.agg [.int .i64 c_k,.row 0,.row 1,.row 2,.row 3]],[(0,.row false ty0 (.ints .i64 c_f)),(1,.row false ty1 (.ints .i64 c_p)),(2,.row false ty2 (.bools c_s)),(3,.row false ty3 (.ints .i64 c_y))]=>some (zgq ⟨c_k,c_f,c_p,c_s,c_y⟩)
 | _,_=>none
def zmo (c:Cert):List (Nat × Ann):=[]
def rPlain13_A:List SV->z0d->List (Nat × Ann):=fun _ _=>[]
def zgp:z0c:=[]
abbrev rPlain13_n:Nat:=53
def rPlain13_I (c:Cert):List (Nat × z09):=[]
def rPlain13_IA:List SV->z0d->List (Nat × z09):=fun _ _=>[]
def rProvesN_r (I:Inst) (side:List Bool):FRes:={ pre:=False,res:=.int .i64 (0),rows:=[],eff:=[] }
def zcz:FS:=fun args h=>match args,h with
 | [.agg [.row 0,.row 1],.row 2],[(0,.row false ty0 (.ints .i64 I_s)),(1,.row false ty1 (.arcs I_a)),(2,.row false ty2 (.bools side))]=>some (rProvesN_r ⟨I_s,I_a⟩ side)
 | _,_=>none
def rProvesN_g:z0c:=[]
abbrev rProvesN_n:Nat:=55
def rTurnsN_r (I:Inst) (l:List Int):FRes:={ pre:=False,res:=.int .i64 (0),rows:=[],eff:=[] }
def zgt:FS:=fun args h=>match args,h with
 | [.agg [.row 0,.row 1],.row 2],[(0,.row false ty0 (.ints .i64 I_s)),(1,.row false ty1 (.arcs I_a)),(2,.row false ty2 (.ints .i64 l))]=>some (rTurnsN_r ⟨I_s,I_a⟩ l)
 | _,_=>none
def rTurnsN_g:z0c:=[]
abbrev rTurnsN_n:Nat:=57
def zmk (I:Inst) (c:Cert):FRes:={ pre:=z76 c/\zjh I/\c.kind = 1,res:=.int .i64 (z2t I c),rows:=[],eff:=[] }
def zgl:FS:=fun args h=>match args,h with
 | [.agg [.row 0,.row 1],.agg [.int .i64 c_k,.row 2,.row 3,.row 4,.row 5]],[(0,.row false ty0 (.ints .i64 I_s)),(1,.row false ty1 (.arcs I_a)),(2,.row false ty2 (.ints .i64 c_f)),(3,.row false ty3 (.ints .i64 c_p)),(4,.row false ty4 (.bools c_s)),(5,.row false ty5 (.ints .i64 c_y))]=>some (zmk ⟨I_s,I_a⟩ ⟨c_k,c_f,c_p,c_s,c_y⟩)
 | _,_=>none
def rCheckB_an (I:Inst) (c:Cert):List (Nat × Ann):=[]
def rCheckB_A:List SV->z0d->List (Nat × Ann):=fun _ _=>[]
def zmj:z0c:=[(rRight_n,(true,z02 true zed)),(rPlain13_n,(true,z02 true zcy)),(rSlack_n,(true,z02 true zmv)),(rProvesN_n,(true,z02 true zcz)),(rFits_n,(true,z02 true ziv)),(rTurnsN_n,(true,z02 true zgt))]
abbrev rCheckB_n:Nat:=18
def rCheckB_I (I:Inst) (c:Cert):List (Nat × z09):=[]
def rCheckB_IA:List SV->z0d->List (Nat × z09):=fun _ _=>[]
end Go.Proofs.YtggblkbecekbdaaGreat
end
