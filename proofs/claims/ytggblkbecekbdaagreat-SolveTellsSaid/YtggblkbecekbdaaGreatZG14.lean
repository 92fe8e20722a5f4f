/- Part of the proof: DQ20, FQ20, DR20, FR20, DS20, FS20, DT20, FT20, DU20. -/
import Derived.Test.YtggblkbecekbdaaGreatZG12
import Derived.Test.YtggblkbecekbdaaGreatZG8
import Derived.Test.YtggblkbecekbdaaGreatZG5
import Derived.Test.YtggblkbecekbdaaGreatZG13
import Derived.Test.YtggblkbecekbdaaGreatZG9
import Derived.Test.YtggblkbecekbdaaGreatZG11
set_option linter.all false
set_option linter.unusedSimpArgs false
set_option linter.unusedVariables false
set_option maxRecDepth 1000000
section
namespace Go.Proofs.YtggblkbecekbdaaGreat
open Go Go.RowKit Go.Ql Go.Vc
def zkg (w:Inst) (w_x:List Int) (w_o:List Int) (w_t:Ql.Rows3) (w_v:List Value):FRel:={ pre:=GreatOk w w_o,G:=(Nat),post:=fun j=>GreatP w j,out:=fun j=>{ pre:=True,res:=.int .i64 ((2:Int) ^ j),rows:=[],eff:=[] } }
def zfj:FR:=fun args h=>match args,h with
 | [.ptr 0 0 0 0],[(0,.box false 109 [.row 1,.row 2,.row 3,.row 4,.row 5]),(1,.row false ty1 (.ints .i64 w_s)),(2,.row false ty2 (.arcs w_a)),(3,.row false ty3 (.ints .i64 w_x)),(4,.row false ty4 (.ints .i64 w_o)),(5,.deep false ty5 tz5 (.recs (.int .i64) [.bool] w_t) w_v none)]=>some (zkg ⟨w_s,w_a⟩ w_x w_o w_t w_v)
 | _,_=>none
def zfi (w:Inst) (w_x:List Int) (w_o:List Int) (w_t:Ql.Rows3) (w_v:List Value):List (Nat × Ann):=[(3,{ G:=(Nat) × (Int),inv:=fun ⟨k,m⟩=>⟨[(0,.ptr 0 0 0 0),(3,.int .i64 m),(12,.row 4),(13,.int .i64 (↑w_o.length:Int)),(14,.int .i64 k)],[(0,.box false 109 [.row 1,.row 2,.row 3,.row 4,.row 5]),(1,.row false 0 (.ints .i64 w.sup)),(2,.row false 0 (.arcs w.arcs)),(3,.row false 0 (.ints .i64 w_x)),(4,.row false 0 (.ints .i64 w_o)),(5,.deep false 0 0 (.recs (.int .i64) [.bool] w_t) w_v none)],6⟩,rel:=fun ⟨k0,m0⟩ ⟨k,m⟩=>k <= w_o.length/\MostI w 0 m,meas:=fun ⟨k,m⟩=>w_o.length - k }),
 (8,{ G:=(Nat) × (Int),inv:=fun ⟨a,m⟩=>⟨[(3,.int .i64 m),(28,.row 2),(29,.int .i64 (↑w.arcs.length:Int)),(30,.int .i64 a)],[(2,.row false 0 (.arcs w.arcs))],6⟩,rel:=fun ⟨a0,m0⟩ ⟨a,m⟩=>a <= w.arcs.length/\MostI w a m,meas:=fun ⟨a,m⟩=>w.arcs.length - a }),
 (14,{ G:=(Nat) × (Int),inv:=fun ⟨j,m⟩=>⟨[(3,.int .i64 m),(8,.int .i64 ((2:Int) ^ j))],[],6⟩,rel:=fun ⟨j0,m0⟩ ⟨j,m⟩=>m=m0/\MostI w w.arcs.length m/\(j=0 ∨ 1 <= j/\(2:Int) ^ (j - 1)<m),meas:=fun ⟨j,m⟩=>(2 * m - (2:Int) ^ j).toNat })]
def great20_A:List SV->z0d->List (Nat × Ann):=fun args h=>match args,h with
 | [.ptr 0 0 0 0],[(0,.box false 109 [.row 1,.row 2,.row 3,.row 4,.row 5]),(1,.row false ty1 (.ints .i64 w_s)),(2,.row false ty2 (.arcs w_a)),(3,.row false ty3 (.ints .i64 w_x)),(4,.row false ty4 (.ints .i64 w_o)),(5,.deep false ty5 tz5 (.recs (.int .i64) [.bool] w_t) w_v none)]=>zfi ⟨w_s,w_a⟩ w_x w_o w_t w_v
 | _,_=>[]
def zkf:z0c:=[]
abbrev great20_n:Nat:=109
def great20_I (w:Inst) (w_x:List Int) (w_o:List Int) (w_t:Ql.Rows3) (w_v:List Value):List (Nat × z08):=[]
def great20_IA:List SV->z0d->List (Nat × z08):=fun _ _=>[]
def sat20_r (w:Inst) (w_x:List Int) (w_o:List Int) (w_t:Ql.Rows3) (w_v:List Value) (D:List (List Int)) (L:Int):FRel:={ pre:=SatOk w w_x w_o D L,G:=(List Int) × (List Int),post:=fun ⟨x,o⟩=>SatP w w_x w_o D L x o,out:=fun ⟨x,o⟩=>{ pre:=True,res:=.tup [],rows:=[],eff:=[(0,.box true 109 [.row 1,.row 2,.row 3,.row 4,.row 5]),(3,.row true 2 (.ints .i64 (x))),(4,.row true 2 (.ints .i64 (o))),(5,.deep true 149 147 (.recs (.int .i64) [.bool] w_t) w_v none)] } }
def sat20_fs:FR:=fun args h=>match args,h with
 | [.ptr 0 0 0 0,.row 6,.int .i64 L],[(0,.box true 109 [.row 1,.row 2,.row 3,.row 4,.row 5]),(1,.row false ty1 (.ints .i64 w_s)),(2,.row false ty2 (.arcs w_a)),(3,.row true 2 (.ints .i64 w_x)),(4,.row true 2 (.ints .i64 w_o)),(5,.deep true 149 147 (.recs (.int .i64) [.bool] w_t) w_v none),(6,.row false ty6 (.recs (.int .i64) [.bool] D))]=>some (sat20_r ⟨w_s,w_a⟩ w_x w_o w_t w_v D L)
 | _,_=>none
def sat20_an (w:Inst) (w_x:List Int) (w_o:List Int) (w_t:Ql.Rows3) (w_v:List Value) (D:List (List Int)) (L:Int):List (Nat × Ann):=[(1,{ G:=(Nat) × (List Int) × (List Int),inv:=fun ⟨a,x,o⟩=>⟨[(0,.ptr 0 0 0 0),(1,.row 6),(2,.int .i64 L),(17,.int .i64 (↑w.arcs.length:Int)),(18,.int .i64 a)],[(0,.box true 109 [.row 1,.row 2,.row 3,.row 4,.row 5]),(1,.row false 0 (.ints .i64 w.sup)),(2,.row false 0 (.arcs w.arcs)),(3,.row true 2 (.ints .i64 x)),(4,.row true 2 (.ints .i64 o)),(5,.deep true 149 147 (.recs (.int .i64) [.bool] w_t) w_v none),(6,.row false 0 (.recs (.int .i64) [.bool] D))],7⟩,rel:=fun ⟨a0,x0,o0⟩ ⟨a,x,o⟩=>a <= w.arcs.length/\SatJ w w_x w_o D L a 0 x o,meas:=fun ⟨a,x,o⟩=>w.arcs.length - a }),
 (4,{ G:=(Nat) × (Nat) × (List Int) × (List Int),inv:=fun ⟨a,j,x,o⟩=>⟨[(0,.ptr 0 0 0 0),(1,.row 6),(2,.int .i64 L),(17,.int .i64 (↑w.arcs.length:Int)),(18,.int .i64 a),(25,.agg [.int .i64 a,.bool false,.int .i64 a,.bool true]),(26,.int .i64 j)],[(0,.box true 109 [.row 1,.row 2,.row 3,.row 4,.row 5]),(1,.row false 0 (.ints .i64 w.sup)),(2,.row false 0 (.arcs w.arcs)),(3,.row true 2 (.ints .i64 x)),(4,.row true 2 (.ints .i64 o)),(5,.deep true 149 147 (.recs (.int .i64) [.bool] w_t) w_v none),(6,.row false 0 (.recs (.int .i64) [.bool] D))],7⟩,rel:=fun ⟨a0,j0,x0,o0⟩ ⟨a,j,x,o⟩=>a=a0/\j <= 2/\SatJ w w_x w_o D L a j x o,meas:=fun ⟨a,j,x,o⟩=>2 - j })]
def sat20_A:List SV->z0d->List (Nat × Ann):=fun args h=>match args,h with
 | [.ptr 0 0 0 0,.row 6,.int .i64 L],[(0,.box true 109 [.row 1,.row 2,.row 3,.row 4,.row 5]),(1,.row false ty1 (.ints .i64 w_s)),(2,.row false ty2 (.arcs w_a)),(3,.row true 2 (.ints .i64 w_x)),(4,.row true 2 (.ints .i64 w_o)),(5,.deep true 149 147 (.recs (.int .i64) [.bool] w_t) w_v none),(6,.row false ty6 (.recs (.int .i64) [.bool] D))]=>sat20_an ⟨w_s,w_a⟩ w_x w_o w_t w_v D L
 | _,_=>[]
def sat20_g:z0c:=[(zbb,(true,z03 true z6j)),(zao,(true,z03 true z6h)),(zax,(true,z03 true z6r)),(zi3,(false,z03 false z9v))]
abbrev sat20_n:Nat:=110
def sat20_I (w:Inst) (w_x:List Int) (w_o:List Int) (w_t:Ql.Rows3) (w_v:List Value) (D:List (List Int)) (L:Int):List (Nat × z08):=[]
def sat20_IA:List SV->z0d->List (Nat × z08):=fun _ _=>[]
end Go.Proofs.YtggblkbecekbdaaGreat
end
section
namespace Go.Proofs.YtggblkbecekbdaaGreat
open Go Go.RowKit Go.Ql Go.Vc
def zfh (w : Inst) (w_x : List Int) (w_o : List Int) (w_t : Ql.Rows3) (w_v : List Value) (ty1 ty2 ty3 ty4 ty5 tz5 : TypeId) : Prop :=
   ∃ (g0:Nat × Int),((g0.fst <= w_o.length/\(MostI w (0:Nat) g0.snd))/\((0=0/\((1:Int)=g0.2/\(True/\((↑w_o.length:Int)=↑w_o.length/\((0:Int)=↑g0.1/\True)))))/\((True/\(True/\(True/\(True/\(True/\True)))))/\(w.sup=w.sup/\(w.arcs=w.arcs/\(w_x=w_x/\(w_o=w_o/\((w_t=w_t/\(w_v=w_v))/\True))))))))/\∀ (g:Nat × Int),g.fst <= w_o.length/\MostI w (0:Nat) g.snd->(decide ((↑g.1:Int)<↑w_o.length)=true->((0:Int) <= ↑g.1/\((↑g.1:Int)<↑w_o.length))/\((↑g.1:Int).toNat<w_o.length/\(∀ (x:Int),w_o[(↑g.1:Int).toNat]? = some x->∃ (g':Nat × Int),(g'.fst <= w_o.length/\(MostI w (0:Nat) g'.snd))/\(w_o.length - g'.fst<w_o.length - g.fst/\((0=0/\(max (max g.2 x) (IntKind.i64.wrap ((0:Int) - x))=g'.2/\(True/\((↑w_o.length:Int)=↑w_o.length/\(IntKind.i64.wrap ((↑g.1:Int)+(1:Int))=(↑g'.1:Int)/\True)))))/\((True/\(True/\(True/\(True/\(True/\True)))))/\(w.sup=w.sup/\(w.arcs=w.arcs/\(w_x=w_x/\(w_o=w_o/\((w_t=w_t/\(w_v=w_v))/\True)))))))))))/\(decide ((↑g.1:Int)<↑w_o.length)=false->∃ (g0:Nat × Int),((g0.fst <= w.arcs.length/\(MostI w g0.fst g0.snd))/\((g.2=g0.2/\(True/\((↑w.arcs.length:Int)=↑w.arcs.length/\((0:Int)=↑g0.1/\True))))/\(w.arcs=w.arcs/\True)))/\(∀ (g:Nat × Int),g.fst <= w.arcs.length/\MostI w g.fst g.snd->(decide ((↑g.1:Int)<↑w.arcs.length)=true->((0:Int) <= ↑g.1/\((↑g.1:Int)<↑w.arcs.length))/\((↑g.1:Int).toNat<w.arcs.length/\(∀ (x:Arc),w.arcs[(↑g.1:Int).toNat]? = some x->((x.cap != (4611686018427387904:Int))=true->∃ (g':Nat × Int),(g'.fst <= w.arcs.length/\(MostI w g'.fst g'.snd))/\(w.arcs.length - g'.fst<w.arcs.length - g.fst/\((max g.2 x.cap=g'.2/\(True/\((↑w.arcs.length:Int)=↑w.arcs.length/\(IntKind.i64.wrap ((↑g.1:Int)+(1:Int))=(↑g'.1:Int)/\True))))/\(w.arcs=w.arcs/\True))))/\((x.cap != (4611686018427387904:Int))=false->∃ (g':Nat × Int),(g'.fst <= w.arcs.length/\(MostI w g'.fst g'.snd))/\(w.arcs.length - g'.fst<w.arcs.length - g.fst/\((g.2=g'.2/\(True/\((↑w.arcs.length:Int)=↑w.arcs.length/\(IntKind.i64.wrap ((↑g.1:Int)+(1:Int))=(↑g'.1:Int)/\True))))/\(w.arcs=w.arcs/\True)))))))/\(decide ((↑g.1:Int)<↑w.arcs.length)=false->∃ (g0:Nat × Int),((g0.snd=g0.snd/\(MostI w w.arcs.length g0.snd/\(g0.fst=(0:Nat) ∨ (1:Nat) <= g0.fst/\((2:Int) ^ (g0.fst - (1:Nat))<g0.snd))))/\((g.2=g0.2/\((1:Int)=(2:Int) ^ g0.1/\True))/\True))/\(∀ (g:Nat × Int),g.snd=g0.snd/\MostI w w.arcs.length g.snd/\(g.fst=(0:Nat) ∨ (1:Nat) <= g.fst/\((2:Int) ^ (g.fst - (1:Nat))<g.snd))->(decide ((2:Int) ^ g.1<g.2)=true->∃ (g':Nat × Int),(g'.snd=g0.snd/\(MostI w w.arcs.length g'.snd/\(g'.fst=(0:Nat) ∨ (1:Nat) <= g'.fst/\((2:Int) ^ (g'.fst - (1:Nat))<g'.snd))))/\(((2:Int) * g'.snd - (2:Int) ^ g'.fst).toNat<((2:Int) * g.snd - (2:Int) ^ g.fst).toNat/\((g.2=g'.2/\(IntKind.i64.wrap ((2:Int) ^ g.1 * (2:Int))=(2:Int) ^ g'.1/\True))/\True)))/\(decide ((2:Int) ^ g.1<g.2)=false->∃ (g_1:Nat),GreatP w g_1/\(((2:Int) ^ g.1=(2:Int) ^ g_1/\True)/\True))))))
theorem great20_q (w:Inst) (w_x:List Int) (w_o:List Int) (w_t:Ql.Rows3) (w_v:List Value) (ty1 ty2 ty3 ty4 ty5 tz5:TypeId):zfh w w_x w_o w_t w_v ty1 ty2 ty3 ty4 ty5 tz5=z6x TT zkf (great20_I w w_x w_o w_t w_v) (zfi w w_x w_o w_t w_v) Tryz.f109 [.ptr 0 0 0 0] [(0,.box false 109 [.row 1,.row 2,.row 3,.row 4,.row 5]),(1,.row false ty1 (.ints .i64 w.sup)),(2,.row false ty2 (.arcs w.arcs)),(3,.row false ty3 (.ints .i64 w_x)),(4,.row false ty4 (.ints .i64 w_o)),(5,.deep false ty5 tz5 (.recs (.int .i64) [.bool] w_t) w_v none)] (zkg w w_x w_o w_t w_v):=by kernel_rfl
theorem great20_E (w:Inst) (w_x:List Int) (w_o:List Int) (w_t:Ql.Rows3) (w_v:List Value) (ty1 ty2 ty3 ty4 ty5 tz5:TypeId) (hp:GreatOk w w_o):FVcR TT zkf (great20_I w w_x w_o w_t w_v) (zfi w w_x w_o w_t w_v) Tryz.f109 [.ptr 0 0 0 0] [(0,.box false 109 [.row 1,.row 2,.row 3,.row 4,.row 5]),(1,.row false ty1 (.ints .i64 w.sup)),(2,.row false ty2 (.arcs w.arcs)),(3,.row false ty3 (.ints .i64 w_x)),(4,.row false ty4 (.ints .i64 w_o)),(5,.deep false ty5 tz5 (.recs (.int .i64) [.bool] w_t) w_v none)] (zkg w w_x w_o w_t w_v):=by
 refine FVcR.of (zfh w w_x w_o w_t w_v ty1 ty2 ty3 ty4 ty5 tz5) (great20_q w w_x w_o w_t w_v ty1 ty2 ty3 ty4 ty5 tz5) ?_
 unfold zfh
 obtain ⟨l1,l2,ho,ha⟩:=hp
 have hw:∀ j:Nat,j <= 1000000->IntKind.i64.wrap ((j:Int)+1)=((j+1:Nat):Int):=fun j hj=>by rw [w64 (by omega) (by omega)]; omega
 simp only [eq_self,exists_const,forall_const,ne_eq,Int.toNat_natCast,zSS,z07]
 refine ⟨(0,1),⟨⟨Nat.zero_le _,fun c hc=>absurd hc (Nat.not_lt_zero _),by omega,by omega⟩,rfl,rfl⟩,fun g hg=>?_⟩
 obtain ⟨k,m⟩:=g
 dsimp only at hg ⊢
 obtain ⟨hk,-,m1,m2⟩:=hg
 refine ⟨fun h1=>⟨by omega,by omega,fun y hy=>?_⟩,fun h1=>?_⟩
 ·have hb:=ho y (List.mem_of_getElem? hy)
  rw [w64 (x:=0 - y) (by omega) (by omega)]
  exact ⟨(k+1,max (max m y) (0 - y)),⟨by dsimp only; omega,fun c hc=>absurd hc (Nat.not_lt_zero _),by dsimp only; omega,by dsimp only; omega⟩,by dsimp only; omega,rfl,hw k (by omega)⟩
 refine ⟨(0,m),⟨⟨Nat.zero_le _,fun c hc=>absurd hc (Nat.not_lt_zero _),m1,m2⟩,rfl,rfl⟩,fun g hg=>?_⟩
 clear hk m1 m2
 obtain ⟨a,m⟩:=g
 dsimp only at hg ⊢
 obtain ⟨ham,hM⟩:=hg
 refine ⟨fun h2=>⟨by omega,by omega,fun y hy=>⟨fun hc=>?_,fun hc=>?_⟩⟩,fun h2=>?_⟩
 ·have hb:=(ha y (List.mem_of_getElem? hy)).resolve_left hc
  have:=hM.2
  exact ⟨(a+1,max m y.cap),⟨by dsimp only; omega,hM.arc hy (by dsimp only; omega) (.inr (by dsimp only; omega)) (by dsimp only; omega)⟩,by dsimp only; omega,rfl,hw a (by omega)⟩
 ·exact ⟨(a+1,m),⟨by dsimp only; omega,hM.arc hy (Int.le_refl _) (.inl hc) hM.2.2⟩,by dsimp only; omega,rfl,hw a (by omega)⟩
 have ea:a=w.arcs.length:=by omega
 subst ea
 refine ⟨(0,m),⟨⟨hM,.inl rfl⟩,rfl,by simp⟩,fun g hg=>?_⟩
 obtain ⟨j,m'⟩:=g
 dsimp only at hg ⊢
 obtain ⟨rfl,-,hj⟩:=hg
 have hp1:=z8k j
 have hM2:=hM.2
 refine ⟨fun h3=>⟨(j+1,m'),⟨rfl,hM,.inr ⟨by omega,by simpa using h3⟩⟩,?_,rfl,?_⟩,fun h3=>⟨j,⟨fun a ha=>(hM.1 a ha).imp id (by omega),?_⟩,rfl⟩⟩
 ·dsimp only; rw [Int.pow_succ]; omega
 ·dsimp only; rw [Int.pow_succ]; exact w64 (by omega) (by omega)
 ·rcases hj with rfl | ⟨h4,h5⟩
  ·simp
  ·obtain ⟨i,rfl⟩:∃ i,j=i+1:=⟨j - 1,by omega⟩
   rw [Int.pow_succ]
   simp only [Nat.add_sub_cancel] at h5
   omega
theorem great20_ok:SpecOk Tryz.prog great20_n true (z0l true zfj) :=
 z1x z0r (show z1c Tryz.prog zkf from z05) (by kernel_rfl) mixedOrders Tryz.func109 rfl rfl (by kernel_rfl) (n:=1) (by decide +kernel) (I:=great20_IA) (fun _ _=>z06) (A:=great20_A)
  (fun args h r hr=>by
   unfold zfj at hr
   split at hr
   ·rename_i ty1 w_s ty2 w_a ty3 w_x ty4 w_o ty5 tz5 w_t w_v; cases hr; refine ⟨rfl,fun hp=>?_⟩; have hE:=great20_E ⟨w_s,w_a⟩ w_x w_o w_t w_v ty1 ty2 ty3 ty4 ty5 tz5 hp; exact hE
   ·cases hr)
abbrev z2v:=Nat × Nat × List Int × List Int
abbrev zia:=Nat × List Int × List Int
abbrev zdz (g':z2v) (g_1:z2v) (L:Int) (w:Inst) (w_t:Ql.Rows3) (w_v:List Value) (D:List (List Int)):=((2:Nat) - g'.2.fst<(2:Nat) - g_1.2.fst/\((0=0/\(True/\(L=L/\((↑w.arcs.length:Int)=↑w.arcs.length/\((↑g_1.1:Int)=↑g'.1/\(((↑g_1.1:Int)=↑g'.1/\(false=false/\((↑g_1.1:Int)=↑g'.1/\(true=true/\True))))/\(IntKind.i64.wrap ((↑g_1.2.1:Int)+(1:Int))=(↑g'.2.1:Int)/\True)))))))/\((True/\(True/\(True/\(True/\(True/\True)))))/\(w.sup=w.sup/\(w.arcs=w.arcs/\(g_1.2.2.1=g'.2.2.1/\(g_1.2.2.2=g'.2.2.2/\((w_t=w_t/\(w_v=w_v/\((none:Option Nat)=none)))/\(D=D/\True)))))))))
abbrev z8q (g':z2v) (g0:z2v) (w:Inst) (w_x:List Int) (w_o:List Int) (D:List (List Int)) (L:Int):=(g'.fst=g0.fst/\(g'.2.fst <= (2:Nat)/\(SatJ w w_x w_o D L g'.fst g'.2.fst g'.2.2.fst g'.2.2.snd)))
abbrev z8r:=(True/\(True/\(True/\(True/\(True/\True)))))
abbrev sat20_a3 (L:Int) (w:Inst) (g_1:z2v) (g':z2v):=(0=0/\(True/\(L=L/\((↑w.arcs.length:Int)=↑w.arcs.length/\((↑g_1.1:Int)=↑g'.1/\(((↑g_1.1:Int)=↑g'.1/\(false=false/\((↑g_1.1:Int)=↑g'.1/\(true=true/\True))))/\(IntKind.i64.wrap ((↑g_1.2.1:Int)+(1:Int))=(↑g'.2.1:Int)/\True)))))))
abbrev zb2 (w_t:Ql.Rows3) (w_v:List Value) (D:List (List Int)):=((w_t=w_t/\(w_v=w_v/\((none:Option Nat)=none)))/\(D=D/\True))
def sat20_E0 (w : Inst) (w_x : List Int) (w_o : List Int) (w_t : Ql.Rows3) (w_v : List Value) (D : List (List Int)) (L : Int) (ty1 ty2 ty6 : TypeId) : Prop :=
   ∃ (g0:zia),((g0.fst <= w.arcs.length/\(SatJ w w_x w_o D L g0.fst (0:Nat) g0.2.fst g0.2.snd))/\((0=0/\(True/\(L=L/\((↑w.arcs.length:Int)=↑w.arcs.length/\((0:Int)=↑g0.1/\True)))))/\((z8r)/\(w.sup=w.sup/\(w.arcs=w.arcs/\(w_x=g0.2.1/\(w_o=g0.2.2/\(zb2 w_t w_v D))))))))/\∀ (g:zia),g.fst <= w.arcs.length/\SatJ w w_x w_o D L g.fst (0:Nat) g.2.fst g.2.snd->(decide ((↑g.1:Int)<↑w.arcs.length)=true->∃ (g0:z2v),((g0.fst=g0.fst/\(g0.2.fst <= (2:Nat)/\(SatJ w w_x w_o D L g0.fst g0.2.fst g0.2.2.fst g0.2.2.snd)))/\((0=0/\(True/\(L=L/\((↑w.arcs.length:Int)=↑w.arcs.length/\((↑g.1:Int)=↑g0.1/\(((↑g.1:Int)=↑g0.1/\(false=false/\((↑g.1:Int)=↑g0.1/\(true=true/\True))))/\((0:Int)=↑g0.2.1/\True)))))))/\((z8r)/\(w.sup=w.sup/\(w.arcs=w.arcs/\(g.2.1=g0.2.2.1/\(g.2.2=g0.2.2.2/\(zb2 w_t w_v D))))))))/\∀ (g_1:z2v),g_1.fst=g0.fst/\g_1.2.fst <= (2:Nat)/\SatJ w w_x w_o D L g_1.fst g_1.2.fst g_1.2.2.fst g_1.2.2.snd->(decide ((↑g_1.2.1:Int)<2)=true->((0:Int) <= ↑g_1.2.1/\((↑g_1.2.1:Int)<↑ti197.fs.length))/\((↑g_1.2.1:Int).toNat=(0:Nat)->z1i w (↑g_1.1:Int)/\(z1i w (↑g_1.1:Int)/\(g_1.2.2.1.length=w.arcs.length/\(XB g_1.2.2.1)))/\(decide (rmS w g_1.2.2.1 ((↑g_1.1:Int).toNat,false) ≥ L)=true->((0:Int) <= ↑(frS w ((↑g_1.1:Int).toNat,false))/\((↑(frS w ((↑g_1.1:Int).toNat,false)):Int)<↑D.length))/\(↑(frS w ((↑g_1.1:Int).toNat,false)):Int).toNat<D.length/\(∀ (x:List Int),D[(↑(frS w ((↑g_1.1:Int).toNat,false)):Int).toNat]? = some x->((0:Int) <= ↑(toS w ((↑g_1.1:Int).toNat,false))/\((↑(toS w ((↑g_1.1:Int).toNat,false)):Int)<↑D.length))/\((↑(toS w ((↑g_1.1:Int).toNat,false)):Int).toNat<D.length/\(∀ (x_1:List Int),D[(↑(toS w ((↑g_1.1:Int).toNat,false)):Int).toNat]? = some x_1->z1i w (↑g_1.1:Int)/\((decide (IntKind.i64.wrap (x.headD (0:Int)+csS w ((↑g_1.1:Int).toNat,false))<x_1.headD (0:Int))=true->(z1i w (↑g_1.1:Int)/\(g_1.2.2.1.length=w.arcs.length/\(g_1.2.2.2.length=w.sup.length/\(XB g_1.2.2.1/\(XB g_1.2.2.2/\((-1152921504606846976:Int) <= rmS w g_1.2.2.1 ((↑g_1.1:Int).toNat,false)/\(rmS w g_1.2.2.1 ((↑g_1.1:Int).toNat,false) <= (1152921504606846976:Int))))))))/\(∃ (g':z2v),(z8q g' g0 w w_x w_o D L)/\((2:Nat) - g'.2.fst<(2:Nat) - g_1.2.fst/\((sat20_a3 L w g_1 g')/\((z8r)/\(w.sup=w.sup/\(w.arcs=w.arcs/\(z4s g_1.2.2.1 ((↑g_1.1:Int).toNat,false) (rmS w g_1.2.2.1 ((↑g_1.1:Int).toNat,false))=g'.2.2.1/\(z6y w g_1.2.2.2 ((↑g_1.1:Int).toNat,false) (rmS w g_1.2.2.1 ((↑g_1.1:Int).toNat,false))=g'.2.2.2/\(zb2 w_t w_v D))))))))))/\(decide (IntKind.i64.wrap (x.headD (0:Int)+csS w ((↑g_1.1:Int).toNat,false))<x_1.headD (0:Int))=false->∃ (g':z2v),(z8q g' g0 w w_x w_o D L)/\(zdz g' g_1 L w w_t w_v D)))))))/\(decide (rmS w g_1.2.2.1 ((↑g_1.1:Int).toNat,false) ≥ L)=false->∃ (g':z2v),(z8q g' g0 w w_x w_o D L)/\(zdz g' g_1 L w w_t w_v D)))/\((↑g_1.2.1:Int).toNat=(0:Nat)+(1:Nat)->z1i w (↑g_1.1:Int)/\(z1i w (↑g_1.1:Int)/\(g_1.2.2.1.length=w.arcs.length/\(XB g_1.2.2.1)))/\(decide (rmS w g_1.2.2.1 ((↑g_1.1:Int).toNat,true) ≥ L)=true->((0:Int) <= ↑(frS w ((↑g_1.1:Int).toNat,true))/\((↑(frS w ((↑g_1.1:Int).toNat,true)):Int)<↑D.length))/\(↑(frS w ((↑g_1.1:Int).toNat,true)):Int).toNat<D.length/\(∀ (x:List Int),D[(↑(frS w ((↑g_1.1:Int).toNat,true)):Int).toNat]? = some x->((0:Int) <= ↑(toS w ((↑g_1.1:Int).toNat,true))/\((↑(toS w ((↑g_1.1:Int).toNat,true)):Int)<↑D.length))/\((↑(toS w ((↑g_1.1:Int).toNat,true)):Int).toNat<D.length/\(∀ (x_1:List Int),D[(↑(toS w ((↑g_1.1:Int).toNat,true)):Int).toNat]? = some x_1->z1i w (↑g_1.1:Int)/\((decide (IntKind.i64.wrap (x.headD (0:Int)+csS w ((↑g_1.1:Int).toNat,true))<x_1.headD (0:Int))=true->(z1i w (↑g_1.1:Int)/\(g_1.2.2.1.length=w.arcs.length/\(g_1.2.2.2.length=w.sup.length/\(XB g_1.2.2.1/\(XB g_1.2.2.2/\((-1152921504606846976:Int) <= rmS w g_1.2.2.1 ((↑g_1.1:Int).toNat,true)/\(rmS w g_1.2.2.1 ((↑g_1.1:Int).toNat,true) <= (1152921504606846976:Int))))))))/\(∃ (g':z2v),(z8q g' g0 w w_x w_o D L)/\((2:Nat) - g'.2.fst<(2:Nat) - g_1.2.fst/\((sat20_a3 L w g_1 g')/\((z8r)/\(w.sup=w.sup/\(w.arcs=w.arcs/\(z4s g_1.2.2.1 ((↑g_1.1:Int).toNat,true) (rmS w g_1.2.2.1 ((↑g_1.1:Int).toNat,true))=g'.2.2.1/\(z6y w g_1.2.2.2 ((↑g_1.1:Int).toNat,true) (rmS w g_1.2.2.1 ((↑g_1.1:Int).toNat,true))=g'.2.2.2/\(zb2 w_t w_v D))))))))))/\(decide (IntKind.i64.wrap (x.headD (0:Int)+csS w ((↑g_1.1:Int).toNat,true))<x_1.headD (0:Int))=false->∃ (g':z2v),(z8q g' g0 w w_x w_o D L)/\(zdz g' g_1 L w w_t w_v D)))))))/\(decide (rmS w g_1.2.2.1 ((↑g_1.1:Int).toNat,true) ≥ L)=false->∃ (g':z2v),(z8q g' g0 w w_x w_o D L)/\(zdz g' g_1 L w w_t w_v D))))/\(decide ((↑g_1.2.1:Int)<2)=false->∃ (g':zia),(g'.fst <= w.arcs.length/\(SatJ w w_x w_o D L g'.fst (0:Nat) g'.2.fst g'.2.snd))/\(w.arcs.length - g'.fst<w.arcs.length - g.fst/\((0=0/\(True/\(L=L/\((↑w.arcs.length:Int)=↑w.arcs.length/\(IntKind.i64.wrap ((↑g_1.1:Int)+(1:Int))=(↑g'.1:Int)/\True)))))/\((z8r)/\(w.sup=w.sup/\(w.arcs=w.arcs/\(g_1.2.2.1=g'.2.1/\(g_1.2.2.2=g'.2.2/\(zb2 w_t w_v D))))))))))/\(decide ((↑g.1:Int)<↑w.arcs.length)=false->∃ (g_1:List Int × List Int),SatP w w_x w_o D L g_1.1 g_1.2/\((True/\True)/\((z8r)/\(g.2.1=g_1.1/\(g.2.2=g_1.2/\((w_t=w_t/\(w_v=w_v/\((none:Option Nat)=none)))/\True))))))
theorem sat20_q (w:Inst) (w_x:List Int) (w_o:List Int) (w_t:Ql.Rows3) (w_v:List Value) (D:List (List Int)) (L:Int) (ty1 ty2 ty6:TypeId):sat20_E0 w w_x w_o w_t w_v D L ty1 ty2 ty6=z6x TT sat20_g (sat20_I w w_x w_o w_t w_v D L) (sat20_an w w_x w_o w_t w_v D L) Tryz.f110 [.ptr 0 0 0 0,.row 6,.int .i64 L] [(0,.box true 109 [.row 1,.row 2,.row 3,.row 4,.row 5]),(1,.row false ty1 (.ints .i64 w.sup)),(2,.row false ty2 (.arcs w.arcs)),(3,.row true 2 (.ints .i64 w_x)),(4,.row true 2 (.ints .i64 w_o)),(5,.deep true 149 147 (.recs (.int .i64) [.bool] w_t) w_v none),(6,.row false ty6 (.recs (.int .i64) [.bool] D))] (sat20_r w w_x w_o w_t w_v D L):=by kernel_rfl
theorem sat20_E (w:Inst) (w_x:List Int) (w_o:List Int) (w_t:Ql.Rows3) (w_v:List Value) (D:List (List Int)) (L:Int) (ty1 ty2 ty6:TypeId) (hp:SatOk w w_x w_o D L):FVcR TT sat20_g (sat20_I w w_x w_o w_t w_v D L) (sat20_an w w_x w_o w_t w_v D L) Tryz.f110 [.ptr 0 0 0 0,.row 6,.int .i64 L] [(0,.box true 109 [.row 1,.row 2,.row 3,.row 4,.row 5]),(1,.row false ty1 (.ints .i64 w.sup)),(2,.row false ty2 (.arcs w.arcs)),(3,.row true 2 (.ints .i64 w_x)),(4,.row true 2 (.ints .i64 w_o)),(5,.deep true 149 147 (.recs (.int .i64) [.bool] w_t) w_v none),(6,.row false ty6 (.recs (.int .i64) [.bool] D))] (sat20_r w w_x w_o w_t w_v D L):=by
 refine FVcR.of (sat20_E0 w w_x w_o w_t w_v D L ty1 ty2 ty6) (sat20_q w w_x w_o w_t w_v D L ty1 ty2 ty6) ?_
 unfold sat20_E0
 delta zb2 sat20_a3 z8r z8q zdz z2v zia
 obtain ⟨hr,hL,hL2,g,B,P,hG⟩:=hp
 have hs64:=z0e hr
 have hw:∀ j:Nat,j <= 1000000->IntKind.i64.wrap ((j:Int)+1)=((j+1:Nat):Int):=fun j hj=>by rw [w64 (by omega) (by omega)]; omega
 have hDl:D.length=w.sup.length:=by rw [hG.d,z73]
 simp only [eq_self,exists_const,forall_const,ne_eq,Int.toNat_natCast,zSS,z07]
 refine ⟨(0,w_x,w_o),⟨⟨Nat.zero_le _,SatJ.begin⟩,rfl,rfl,rfl⟩,fun g1 hg1=>?_⟩
 obtain ⟨a,x,o⟩:=g1
 dsimp only at hg1 ⊢
 obtain ⟨ham,hJ0⟩:=hg1
 refine ⟨fun h1=>?_,fun h1=>?_⟩
 ·have ha:a<w.arcs.length:=by omega
  refine ⟨(a,0,x,o),⟨⟨Nat.zero_le _,hJ0⟩,⟨rfl,⟨rfl,rfl⟩,rfl⟩,rfl,rfl⟩,fun g1 hg1=>?_⟩
  clear hJ0
  obtain ⟨a1,j,x,o⟩:=g1
  dsimp only at hg1 ⊢
  obtain ⟨rfl,hj,hJ⟩:=hg1
  obtain ⟨hx1,ho1,hx2,ho2⟩:=(hJ g B P hG).bounds hr hL (by omega) hG.b1 hG.p
  refine ⟨fun h4=>⟨⟨by omega,?_⟩,fun h5=>?_,fun h5=>?_⟩,fun h4=>?_⟩
  ·show (j:Int)<((2:Nat):Int); omega
  ·have stp:z1i w (a1:Int):=⟨hr,by omega,by omega⟩
   have h6:j=0:=h5
   subst h6
   generalize a1=a at *
   have f1:=z2w hr (s:=(a,false)) ha
   have t1:=z5q hr (s:=(a,false)) ha
   have cb:=zh3 hr (s:=(a,false)) ha
   have rb:=rmS_bd (x:=x) hx2.xb stp false
   rw [Int.toNat_natCast] at rb
   refine ⟨stp,⟨stp,hx1,hx2.xb⟩,fun h1=>⟨by omega,by omega,fun u hu=>⟨by omega,by omega,fun v hv=>⟨stp,?_⟩⟩⟩,fun h1=>⟨(a,0+1,x,o),⟨rfl,by dsimp only; omega,hJ.skip (k:=false) (by omega) (fun h=>absurd h (by omega))⟩,by dsimp only; omega,⟨rfl,⟨rfl,rfl⟩,hw 0 (by omega)⟩,rfl,rfl⟩⟩
   have e1:=(z49 hG.d hu).1
   have e2:=(z49 hG.d hv).1
   have b1:=hG.gb _ f1
   rw [e1,e2,w64 (x:=g (frS w (a,false))+csS w (a,false)) (by omega) (by omega)]
   refine ⟨fun h2=>⟨⟨stp,hx1,ho1,hx2.xb,ho2.xb,by omega,by omega⟩,(a,0+1,_,_),⟨rfl,by dsimp only; omega,hJ.fill hr (k:=false) (by omega) ha h1 (fun g' hg'=>?_)⟩,by dsimp only; omega,⟨rfl,⟨rfl,rfl⟩,hw 0 (by omega)⟩,rfl,rfl⟩,fun h2=>⟨(a,0+1,x,o),⟨rfl,by dsimp only; omega,hJ.skip (k:=false) (by omega) (fun _ g' hg'=>?_)⟩,by dsimp only; omega,⟨rfl,⟨rfl,rfl⟩,hw 0 (by omega)⟩,rfl,rfl⟩⟩
   ·have q1:=(z49 hg' hu).1
    have q2:=(z49 hg' hv).1
    unfold rcOk; omega
   ·have q1:=(z49 hg' hu).1
    have q2:=(z49 hg' hv).1
    unfold rcOk; omega
  ·have stp:z1i w (a1:Int):=⟨hr,by omega,by omega⟩
   have h6:j=1:=h5
   subst h6
   generalize a1=a at *
   have f1:=z2w hr (s:=(a,true)) ha
   have t1:=z5q hr (s:=(a,true)) ha
   have cb:=zh3 hr (s:=(a,true)) ha
   have rb:=rmS_bd (x:=x) hx2.xb stp true
   rw [Int.toNat_natCast] at rb
   refine ⟨stp,⟨stp,hx1,hx2.xb⟩,fun h1=>⟨by omega,by omega,fun u hu=>⟨by omega,by omega,fun v hv=>⟨stp,?_⟩⟩⟩,fun h1=>⟨(a,1+1,x,o),⟨rfl,by dsimp only; omega,hJ.skip (k:=true) (by omega) (fun h=>absurd h (by omega))⟩,by dsimp only; omega,⟨rfl,⟨rfl,rfl⟩,hw 1 (by omega)⟩,rfl,rfl⟩⟩
   have e1:=(z49 hG.d hu).1
   have e2:=(z49 hG.d hv).1
   have b1:=hG.gb _ f1
   rw [e1,e2,w64 (x:=g (frS w (a,true))+csS w (a,true)) (by omega) (by omega)]
   refine ⟨fun h2=>⟨⟨stp,hx1,ho1,hx2.xb,ho2.xb,by omega,by omega⟩,(a,1+1,_,_),⟨rfl,by dsimp only; omega,hJ.fill hr (k:=true) (by omega) ha h1 (fun g' hg'=>?_)⟩,by dsimp only; omega,⟨rfl,⟨rfl,rfl⟩,hw 1 (by omega)⟩,rfl,rfl⟩,fun h2=>⟨(a,1+1,x,o),⟨rfl,by dsimp only; omega,hJ.skip (k:=true) (by omega) (fun _ g' hg'=>?_)⟩,by dsimp only; omega,⟨rfl,⟨rfl,rfl⟩,hw 1 (by omega)⟩,rfl,rfl⟩⟩
   ·have q1:=(z49 hg' hu).1
    have q2:=(z49 hg' hv).1
    unfold rcOk; omega
   ·have q1:=(z49 hg' hu).1
    have q2:=(z49 hg' hv).1
    unfold rcOk; omega
  ·have ej:j=2:=by omega
   subst ej
   exact ⟨(a1+1,x,o),⟨by dsimp only; omega,hJ.next (by omega)⟩,by dsimp only; omega,hw a1 (by omega),rfl,rfl⟩
 ·have ea:a=w.arcs.length:=by omega
  subst ea
  exact ⟨(x,o),hJ0.done (by omega),rfl,rfl⟩
theorem sat20_ok:SpecOk Tryz.prog sat20_n false (z0l false sat20_fs) :=
 z1x z0r (show z1c Tryz.prog sat20_g from z00 z8c (z00 z9d (z00 za3 (z00 zld (z05))))) (by kernel_rfl) mixedOrders Tryz.func110 rfl rfl (by kernel_rfl) (n:=3) (by decide +kernel) (I:=sat20_IA) (fun _ _=>z06) (A:=sat20_A)
  (fun args h r hr=>by
   unfold sat20_fs at hr
   split at hr
   ·rename_i L ty1 w_s ty2 w_a w_x w_o w_t w_v ty6 D; cases hr; refine ⟨rfl,fun hp=>?_⟩; have hE:=sat20_E ⟨w_s,w_a⟩ w_x w_o w_t w_v D L ty1 ty2 ty6 hp; exact hE
   ·cases hr)
abbrev lump20_n:Nat:=113
def lump20_g:z0c:=[(shortO_n,(true,z0l true zn1)),(zjd,(false,z03 false zah))]
def zkp:Vc.Spec:=z9i TT lump20_g (fun args hp nk=>match args with | [.ptr a0 0 0 0,.int .i64 L,_]=>(match lk a0 hp with | some (.box _ _ [.row a1,_,_,.row a4,_])=>(match lk a1 hp,lk a4 hp with | some (.row _ _ (.ints .i64 s)),some (.row _ _ (.ints .i64 o))=>[(3,{ G:=Nat × (Nat->Option Int) × (Nat->Option Stp),inv:=fun ⟨k,d,b⟩=>⟨[(3,.ptr nk 0 0 0),(4,.ptr (nk+1) 0 0 0),(7,.row (nk+2)),(8,.row (nk+3)),(23,.row a4),(24,.int .i64 (o.length:Int)),(25,.int .i64 k)],[(nk,.box true 102 [.ptr a0 0 0 0]),(nk+1,.box true 2 [.int .i64 L]),(nk+2,.row true 172 (.recs (.int .i64) [.bool] (z0m s.length d))),(nk+3,.row false 165 (.recs (.int .i64) [.bool,.bool] (z0k s.length b)))] ++ hp,nk+5⟩,rel:=fun ⟨k0,d0,b0⟩ ⟨k,d,b⟩=>d=d0/\b=b0/\k <= o.length/\∀ v,v<k->o.getD v 0 <= -L->d v=none,meas:=fun ⟨k,_,_⟩=>o.length - k })] | _,_=>[]) | _=>[]) | _=>[]) Tryz.f113
abbrev shortER_n:Nat:=104
def shortER_fs:FR:=orFR ze5 (znf)
def zjs (w:Inst) (w_x:List Int) (w_o:List Int) (w_t:Ql.Rows3) (w_v:List Value):FRel:={ pre:=zik w w_x w_o,G:=(List Int) × (List Int),post:=fun ⟨x,o⟩=>CheapP w x o,out:=fun ⟨x,o⟩=>{ pre:=True,res:=.tup [],rows:=[],eff:=[(0,.box true 109 [.row 1,.row 2,.row 3,.row 4,.row 5]),(3,.row true 2 (.ints .i64 (x))),(4,.row true 2 (.ints .i64 (o))),(5,.deep true 149 147 (.recs (.int .i64) [.bool] w_t) w_v none)] } }
def zfg:FR:=fun args h=>match args,h with
 | [.ptr 0 0 0 0],[(0,.box true 109 [.row 1,.row 2,.row 3,.row 4,.row 5]),(1,.row false ty1 (.ints .i64 w_s)),(2,.row false ty2 (.arcs w_a)),(3,.row true 2 (.ints .i64 w_x)),(4,.row true 2 (.ints .i64 w_o)),(5,.deep true 149 147 (.recs (.int .i64) [.bool] w_t) w_v none)]=>some (zjs ⟨w_s,w_a⟩ w_x w_o w_t w_v)
 | _,_=>none
def zff (w:Inst) (w_x:List Int) (w_o:List Int) (w_t:Ql.Rows3) (w_v:List Value):List (Nat × Ann):=[(3,{ G:=(Nat) × (List Int) × (List Int) × (Nat->Int),inv:=fun ⟨k,x,o,g⟩=>⟨[(1,.ptr 6 0 0 0),(2,.row 7),(5,.ptr 10 0 0 0)],[(10,.box true 2 [.int .i64 (z2j k)]),(7,.row false 172 (.recs (.int .i64) [.bool] (z0m w.sup.length fun v=>some (g v)))),(6,.box true 102 [.ptr 0 0 0 0]),(0,.box true 109 [.row 1,.row 2,.row 3,.row 4,.row 5]),(1,.row false 0 (.ints .i64 w.sup)),(2,.row false 0 (.arcs w.arcs)),(3,.row true 2 (.ints .i64 x)),(4,.row true 2 (.ints .i64 o)),(5,.deep true 149 147 (.recs (.int .i64) [.bool] w_t) w_v none)],11⟩,rel:=fun ⟨k0,x0,o0,g0⟩ ⟨k,x,o,g⟩=>PhI w x o g k,meas:=fun ⟨k,x,o,g⟩=>k }),
 (7,{ G:=(Nat) × (List Int) × (List Int),inv:=fun ⟨k,x,o⟩=>⟨[(1,.ptr 6 0 0 0),(5,.ptr 10 0 0 0),(6,.fn 111 [.ptr 6 0 0 0,.ptr 10 0 0 0])],[(10,.box true 2 [.int .i64 (z2j k)]),(6,.box true 102 [.ptr 0 0 0 0]),(0,.box true 109 [.row 1,.row 2,.row 3,.row 4,.row 5]),(1,.row false 0 (.ints .i64 w.sup)),(2,.row false 0 (.arcs w.arcs)),(3,.row true 2 (.ints .i64 x)),(4,.row true 2 (.ints .i64 o)),(5,.deep true 149 147 (.recs (.int .i64) [.bool] w_t) w_v none)],11⟩,rel:=fun ⟨k0,x0,o0⟩ ⟨k,x,o⟩=>k=k0/\LpI w x o (z2j k),meas:=fun ⟨k,x,o⟩=>(z4k o w.sup.length).toNat })]
def cheap20_A:List SV->z0d->List (Nat × Ann):=fun args h=>match args,h with
 | [.ptr 0 0 0 0],[(0,.box true 109 [.row 1,.row 2,.row 3,.row 4,.row 5]),(1,.row false ty1 (.ints .i64 w_s)),(2,.row false ty2 (.arcs w_a)),(3,.row true 2 (.ints .i64 w_x)),(4,.row true 2 (.ints .i64 w_o)),(5,.deep true 149 147 (.recs (.int .i64) [.bool] w_t) w_v none)]=>zff ⟨w_s,w_a⟩ w_x w_o w_t w_v
 | _,_=>[]
def zjr:z0c:=[(shortER_n,(true,z0l true shortER_fs)),(great20_n,(true,z0l true zfj)),(sat20_n,(false,z0l false sat20_fs)),(lump20_n,(false,zkp))]
abbrev cheap20_n:Nat:=62
def cheap20_I (w:Inst) (w_x:List Int) (w_o:List Int) (w_t:Ql.Rows3) (w_v:List Value):List (Nat × z08):=[]
def cheap20_IA:List SV->z0d->List (Nat × z08):=fun _ _=>[]
theorem lump20_ok:SpecOk Tryz.prog lump20_n false zkp :=
 inl_ok z0r (show z1c Tryz.prog lump20_g from z00 shortO_ok (z00 along20_ok (z05))) (by kernel_rfl) mixedOrders Tryz.func113 rfl rfl (by kernel_rfl) _
theorem shortER_ok:SpecOk Tryz.prog shortER_n true (z0l true shortER_fs):=or_ok shortE_ok (shortR_ok)
abbrev zam:=(Nat->Option Int) × (Nat->Option Stp) × Option Nat
abbrev z58:=Nat × (Nat->Option Int) × (Nat->Option Stp)
abbrev zan:=Nat × List Int × List Int × (Nat->Int)
abbrev z7g:=Nat × List Int × List Int
abbrev zfe (g_3:z7g) (g':z58) (g_5:z58) (w:Inst) (w_t:Ql.Rows3) (w_v:List Value):=(g_3.2.2.length - g'.fst<g_3.2.2.length - g_5.fst/\((0=0/\(0=0/\(True/\(True/\(True/\((↑g_3.2.2.length:Int)=↑g_3.2.2.length/\(IntKind.i64.wrap ((↑g_5.1:Int)+(1:Int))=(↑g'.1:Int)/\True)))))))/\((0=0/\True)/\((z2j g_3.1=z2j g_3.1/\True)/\(z0m w.sup.length g_5.2.1=z0m w.sup.length g'.2.1/\(z0k w.sup.length g_5.2.2=z0k w.sup.length g'.2.2/\((z2j g_3.1=z2j g_3.1/\True)/\((0=0/\True)/\((True/\(True/\(True/\(True/\(True/\True)))))/\(w.sup=w.sup/\(w.arcs=w.arcs/\(g_3.2.1=g_3.2.1/\(g_3.2.2=g_3.2.2/\((w_t=w_t/\(w_v=w_v/\((none:Option Nat)=none)))/\True))))))))))))))
abbrev z56:=(True/\(True/\(True/\(True/\(True/\True)))))
abbrev z57 (w_t:Ql.Rows3) (w_v:List Value):=((w_t=w_t/\(w_v=w_v/\((none:Option Nat)=none)))/\True)
def zfd (w : Inst) (w_x : List Int) (w_o : List Int) (w_t : Ql.Rows3) (w_v : List Value) (ty1 ty2 : TypeId) : Prop :=
   (z02 w=(0:Int)/\(w=w))/\∀ (g:zam),ShortP w (Ql.endS w) (fun (x:Nat)=>true) g.1 g.2.1 g.2.2->(w_o.length <= (1000:Nat)/\(w.arcs.length <= (1000:Nat)/\((∀ (y:Int),List.Mem y w_o->(-536870912:Int) <= y/\(y <= (536870912:Int)))/\(∀ (a:Arc),List.Mem a w.arcs->a.cap=inf ∨ (-536870912:Int) <= a.cap/\(a.cap <= (536870912:Int))))))/\∀ (g_1:Nat),GreatP w g_1->∃ (g0:zan),(PhI w g0.2.fst g0.2.2.fst g0.2.2.snd g0.fst/\((0=0/\(True/\(0=0/\True)))/\(((2:Int) ^ g_1=z2j g0.1/\True)/\((z0m w.sup.length g.1=z0m w.sup.length fun (v:Nat)=>some (g0.2.2.2 v))/\((0=0/\True)/\((z56)/\(w.sup=w.sup/\(w.arcs=w.arcs/\(w_x=g0.2.1/\(w_o=g0.2.2.1/\(z57 w_t w_v)))))))))))/\∀ (g:zan),PhI w g.2.fst g.2.2.fst g.2.2.snd g.fst->(decide (z2j g.1 > (0:Int))=true->(z02 w=(0:Int)/\((1:Int) <= z2j g.1/\(z2j g.1 <= (1152921504606846976:Int)/\(∃ (g_2:Nat->Int),∃ (B:Int),∃ (P:Int),SatG w g.2.1 g.2.2.1 (z0m w.sup.length fun (v:Nat)=>some (g.2.2.2 v)) (z2j g.1) g_2 B P))))/\∀ (g_2:List Int × List Int),SatP w g.2.1 g.2.2.1 (z0m w.sup.length fun (v:Nat)=>some (g.2.2.2 v)) (z2j g.1) g_2.1 g_2.2->∃ (g0:z7g),((g0.fst=g0.fst/\(LpI w g0.2.fst g0.2.snd (z2j g0.fst)))/\((0=0/\(0=0/\((0=0/\(0=0/\True))/\True)))/\((z2j g.1=z2j g0.1/\True)/\((0=0/\True)/\((z56)/\(w.sup=w.sup/\(w.arcs=w.arcs/\(g_2.1=g0.2.1/\(g_2.2=g0.2.2/\(z57 w_t w_v))))))))))/\∀ (g_3:z7g),g_3.fst=g0.fst/\LpI w g_3.2.fst g_3.2.snd (z2j g_3.fst)->(z02 w=(0:Int)/\(w=w/\(g_3.2.1=g_3.2.1/\(g_3.2.1.length=w.arcs.length/\(XB g_3.2.1/\(w=w/\(g_3.2.2=g_3.2.2/\(g_3.2.2.length=w.sup.length))))))))/\∀ (g_4:zam),ShortP w (fun (s:Stp)=>decide (z2j g_3.1 <= rmS w g_3.2.1 s)) (fun (v:Nat)=>decide (z2j g_3.1 <= g_3.2.2.getD v (0:Int))) g_4.1 g_4.2.1 g_4.2.2->∃ (g0_1:z58),((g0_1.2.fst=g0_1.2.fst/\(g0_1.2.snd=g0_1.2.snd/\(g0_1.fst <= g_3.2.2.length/\(∀ (v:Nat),v<g0_1.fst->g_3.2.2.getD v (0:Int) <= -z2j g_3.1->g0_1.2.fst v=none))))/\((0=0/\(0=0/\(True/\(True/\(True/\((↑g_3.2.2.length:Int)=↑g_3.2.2.length/\((0:Int)=↑g0_1.1/\True)))))))/\((0=0/\True)/\((z2j g_3.1=z2j g_3.1/\True)/\(z0m w.sup.length g_4.1=z0m w.sup.length g0_1.2.1/\(z0k w.sup.length g_4.2.1=z0k w.sup.length g0_1.2.2/\((z2j g_3.1=z2j g_3.1/\True)/\((0=0/\True)/\((z56)/\(w.sup=w.sup/\(w.arcs=w.arcs/\(g_3.2.1=g_3.2.1/\(g_3.2.2=g_3.2.2/\(z57 w_t w_v))))))))))))))/\∀ (g_5:z58),(g_5.2.fst=g0_1.2.fst/\(g_5.2.snd=g0_1.2.snd/\(g_5.fst <= g_3.2.2.length/\(∀ (v:Nat),v<g_5.fst->g_3.2.2.getD v (0:Int) <= -z2j g_3.1->g_5.2.fst v=none))))->(decide ((↑g_5.1:Int)<↑g_3.2.2.length)=true->((0:Int) <= ↑g_5.1/\((↑g_5.1:Int)<↑g_3.2.2.length))/\(↑g_5.1:Int).toNat<g_3.2.2.length/\∀ (x:Int),g_3.2.2[(↑g_5.1:Int).toNat]? = some x->(decide (x <= IntKind.i64.wrap ((0:Int) - z2j g_3.1))=true->((0:Int) <= ↑g_5.1/\((↑g_5.1:Int)<↑(z0m w.sup.length g_5.2.1).length))/\((↑g_5.1:Int).toNat<(z0m w.sup.length g_5.2.1).length/\(∀ (x:List Int),(z0m w.sup.length g_5.2.1)[(↑g_5.1:Int).toNat]? = some x->((x.tail.headD (0:Int) == (1:Int))=true->AlOk w g_3.2.1 g_3.2.2 (z0k w.sup.length g_5.2.2) (↑g_5.1:Int)/\(∃ (g':z7g),(g'.fst=g0.fst/\(LpI w g'.2.fst g'.2.snd (z2j g'.fst)))/\((z4k g'.2.snd w.sup.length).toNat<(z4k g_3.2.snd w.sup.length).toNat/\((0=0/\(0=0/\((0=0/\(0=0/\True))/\True)))/\((z2j g_3.1=z2j g'.1/\True)/\((0=0/\True)/\((z56)/\(w.sup=w.sup/\(w.arcs=w.arcs/\(z2m g_3.2.1 (alL w (z0k w.sup.length g_5.2.2) (↑g_5.1:Int)) (alU w g_3.2.1 g_3.2.2 (z0k w.sup.length g_5.2.2) (↑g_5.1:Int))=g'.2.1/\(z1y w g_3.2.2 (alL w (z0k w.sup.length g_5.2.2) (↑g_5.1:Int)) (alU w g_3.2.1 g_3.2.2 (z0k w.sup.length g_5.2.2) (↑g_5.1:Int))=g'.2.2/\(z57 w_t w_v))))))))))))/\((x.tail.headD (0:Int) == (1:Int))=false->∃ (g':z58),(g'.2.fst=g0_1.2.fst/\(g'.2.snd=g0_1.2.snd/\(g'.fst <= g_3.2.2.length/\(∀ (v:Nat),v<g'.fst->g_3.2.2.getD v (0:Int) <= -z2j g_3.1->g'.2.fst v=none))))/\(zfe g_3 g' g_5 w w_t w_v)))))/\(decide (x <= IntKind.i64.wrap ((0:Int) - z2j g_3.1))=false->∃ (g':z58),(g'.2.fst=g0_1.2.fst/\(g'.2.snd=g0_1.2.snd/\(g'.fst <= g_3.2.2.length/\(∀ (v:Nat),v<g'.fst->g_3.2.2.getD v (0:Int) <= -z2j g_3.1->g'.2.fst v=none))))/\(zfe g_3 g' g_5 w w_t w_v)))/\(decide ((↑g_5.1:Int)<↑g_3.2.2.length)=false->(z02 w=(0:Int)/\(w=w/\(g_3.2.1=g_3.2.1/\(g_3.2.1.length=w.arcs.length/\(XB g_3.2.1)))))/\(∀ (g_6:zam),ShortP w (fun (s:Stp)=>decide (z2j g_3.1 <= rmS w g_3.2.1 s)) (fun (x:Nat)=>true) g_6.1 g_6.2.1 g_6.2.2->(2:Int) ≠ (0:Int)/\(∃ (g':zan),PhI w g'.2.fst g'.2.2.fst g'.2.2.snd g'.fst/\(g'.fst<g.fst/\((0=0/\(True/\(0=0/\True)))/\((IntKind.i64.wrap ((z2j g_3.1).tdiv (2:Int))=z2j g'.1/\True)/\((z0m w.sup.length g_6.1=z0m w.sup.length fun (v:Nat)=>some (g'.2.2.2 v))/\((0=0/\True)/\((z56)/\(w.sup=w.sup/\(w.arcs=w.arcs/\(g_3.2.1=g'.2.1/\(g_3.2.2=g'.2.2.1/\(z57 w_t w_v)))))))))))))))/\(decide (z2j g.1 > (0:Int))=false->∃ (g_2:List Int × List Int),CheapP w g_2.1 g_2.2/\((True/\True)/\((z56)/\(g.2.1=g_2.1/\(g.2.2.1=g_2.2/\(z57 w_t w_v))))))
theorem cheap20_q (w:Inst) (w_x:List Int) (w_o:List Int) (w_t:Ql.Rows3) (w_v:List Value) (ty1 ty2:TypeId):zfd w w_x w_o w_t w_v ty1 ty2=z6x TT zjr (cheap20_I w w_x w_o w_t w_v) (zff w w_x w_o w_t w_v) Tryz.f62 [.ptr 0 0 0 0] [(0,.box true 109 [.row 1,.row 2,.row 3,.row 4,.row 5]),(1,.row false ty1 (.ints .i64 w.sup)),(2,.row false ty2 (.arcs w.arcs)),(3,.row true 2 (.ints .i64 w_x)),(4,.row true 2 (.ints .i64 w_o)),(5,.deep true 149 147 (.recs (.int .i64) [.bool] w_t) w_v none)] (zjs w w_x w_o w_t w_v):=by kernel_rfl
theorem cheap20_E (w:Inst) (w_x:List Int) (w_o:List Int) (w_t:Ql.Rows3) (w_v:List Value) (ty1 ty2:TypeId) (hp:zik w w_x w_o):FVcR TT zjr (cheap20_I w w_x w_o w_t w_v) (zff w w_x w_o w_t w_v) Tryz.f62 [.ptr 0 0 0 0] [(0,.box true 109 [.row 1,.row 2,.row 3,.row 4,.row 5]),(1,.row false ty1 (.ints .i64 w.sup)),(2,.row false ty2 (.arcs w.arcs)),(3,.row true 2 (.ints .i64 w_x)),(4,.row true 2 (.ints .i64 w_o)),(5,.deep true 149 147 (.recs (.int .i64) [.bool] w_t) w_v none)] (zjs w w_x w_o w_t w_v):=by
 refine FVcR.of (zfd w w_x w_o w_t w_v ty1 ty2) (cheap20_q w w_x w_o w_t w_v ty1 ty2) ?_
 unfold zfd
 delta z57 z56 zfe zam z58 zan z7g
 simp only [eq_self,exists_const,forall_const,ne_eq,Int.toNat_natCast,zSS,z07]
 have hr:=hp.1
 obtain ⟨-,hO,hx,hG,hπ,hy⟩:=id hp
 refine ⟨hr,?_⟩
 rintro ⟨d,b,e⟩ hS
 refine ⟨hG,fun j hj=>?_⟩
 dsimp only at hS ⊢
 obtain ⟨g,hg,hP⟩:=ph_begin hp hS hj
 refine ⟨(j+1,w_x,w_o,g),⟨hP,(z2k j).symm,hg,rfl,rfl⟩,?_⟩
 clear hP hg hS hO hx hG hπ hy hj
 clear g d b e j
 rintro ⟨k,x,o,g⟩ hP
 dsimp only at hP ⊢
 refine ⟨fun hk=>?_,fun hk=>?_⟩
 rotate_left
 ·cases k with
  | zero=>exact ⟨(x,o),ph_end hp hP,rfl,rfl⟩
  | succ k=>exact absurd (by rw [z2k]; have:=z8k k; omega) hk
 obtain ⟨k,rfl⟩:∃ j,k=j+1:=by
  cases k with
  | zero=>exact absurd hk (by decide)
  | succ j=>exact ⟨j,rfl⟩
 have hpk:=z8k k
 obtain ⟨B,hSG,hb⟩:=ph_sat hr hP
 have hps:=z1s o w.sup.length
 have hB0:=hSG.b0
 simp only [z2k]
 refine ⟨⟨hr,hpk,by omega,g,B,_,hSG⟩,?_⟩
 rintro ⟨x1,o1⟩ hS1
 dsimp only at hS1 ⊢
 have hL1:=ph_lump hr hP hS1
 refine ⟨(k+1,x1,o1),⟨by dsimp only; rw [z2k]; exact hL1,(z2k k).symm,rfl,rfl⟩,?_⟩
 clear hL1 hS1 hSG hb hps hB0 hP hk
 dsimp only
 clear x1 o1 x o B g
 rintro ⟨k',x,o⟩ ⟨hk',hL⟩
 dsimp only at hk' hL ⊢
 subst hk'
 rw [z2k] at hL
 simp only [z2k]
 obtain ⟨⟨B,hN,hB,hb⟩,-⟩:=id hL
 have hps:=z1s o w.sup.length
 have hlo:=hN.over.lo
 have hyb:YB x:=yb_of fun i hi=>by have:=hN.bd i (by rw [<- hN.over.lx]; exact hi); omega
 refine ⟨⟨hr,hN.over.lx,hyb.xb,hlo⟩,?_⟩
 rintro ⟨d,b,e⟩ hS
 dsimp only at hS ⊢
 refine ⟨(0,d,b),⟨⟨Nat.zero_le _,fun v hv=>absurd hv (Nat.not_lt_zero _)⟩,rfl,rfl,rfl⟩,?_⟩
 rintro ⟨i,d',b'⟩ ⟨h1,h2,h3,h4⟩
 dsimp only at h1 h2 h3 h4 ⊢
 subst h1
 subst h2
 have ew:IntKind.i64.wrap (0 - (2:Int) ^ k) = -(2:Int) ^ k:=by rw [w64 (by omega) (by omega)]; omega
 rw [ew]
 refine ⟨fun hi=>⟨⟨by omega,hi⟩,by omega,fun y hy=>?_⟩,fun hi=>⟨⟨hr,hN.over.lx,hyb.xb⟩,?_⟩⟩
 ·have hyv:o.getD i 0=y:=by rw [List.getD_eq_getElem?_getD,hy]; rfl
  have hil:i<w.sup.length:=by omega
  have wi:IntKind.i64.wrap ((i:Int)+1)=((i+1:Nat):Int):=by have:=z0e hr; rw [w64 (by omega) (by omega)]; omega
  rw [z73,wi]
  refine ⟨fun hle=>⟨⟨by omega,by omega⟩,hil,fun z hz=>?_⟩,fun hle=>?_⟩
  ·obtain ⟨-,ez⟩:=z1v hz
   refine ⟨fun hc=>?_,fun hc=>?_⟩
   ·obtain ⟨c,ec⟩:=z4q (ez ▸ hc)
    obtain ⟨A,l1,l2⟩:=lump_more hr hpk hL hS hil (by omega) ec
    exact ⟨A,(k+1,_,_),⟨rfl,by dsimp only; rw [z2k]; exact l1⟩,l2,(z2k k).symm,rfl,rfl⟩
   ·have en:=zdk (ez ▸ hc)
    refine ⟨(i+1,d',b'),⟨rfl,rfl,by dsimp only; omega,fun v hv hl=>?_⟩,by dsimp only; omega,rfl,rfl,rfl⟩
    by_cases hvi:v=i
    ·rw [hvi]; exact en
    ·exact h4 v (by dsimp only at hv; omega) hl
  ·refine ⟨(i+1,d',b'),⟨rfl,rfl,by dsimp only; omega,fun v hv hl=>?_⟩,by dsimp only; omega,rfl,rfl,rfl⟩
   by_cases hvi:v=i
   ·rw [hvi] at hl; omega
   ·exact h4 v (by dsimp only at hv; omega) hl
 ·have hst:=lump_end hr hL hS fun v hv hl=>h4 v (by omega) hl
  rintro ⟨d2,b2,e2⟩ hS2
  dsimp only at hS2 ⊢
  obtain ⟨g',hg',hP'⟩:=ph_next hr hL hst hS2
  refine ⟨by decide,(k,x,o,g'),hP',by dsimp only; omega,?_,hg',rfl,rfl⟩
  dsimp only
  rw [lumpV_half]
  have hlv:z2j k <= (2:Int) ^ k/\0 <= z2j k:=by
   cases k with
   | zero=>decide
   | succ j=>rw [z2k,Int.pow_succ]; have:=z8k j; omega
  exact w64 (by omega) (by omega)
theorem cheap20_ok:SpecOk Tryz.prog cheap20_n false (z0l false zfg) :=
 z1x z0r (show z1c Tryz.prog zjr from z00 shortER_ok (z00 great20_ok (z00 sat20_ok (z00 lump20_ok (z05))))) (by kernel_rfl) mixedOrders Tryz.func62 rfl rfl (by kernel_rfl) (n:=1) (by decide +kernel) (I:=cheap20_IA) (fun _ _=>z06) (A:=cheap20_A)
  (fun args h r hr=>by
   unfold zfg at hr
   split at hr
   ·rename_i ty1 w_s ty2 w_a w_x w_o w_t w_v; cases hr; refine ⟨rfl,fun hp=>?_⟩; have hE:=cheap20_E ⟨w_s,w_a⟩ w_x w_o w_t w_v ty1 ty2 hp; exact hE
   ·cases hr)
def zla (w:Inst) (w_x:List Int) (w_o:List Int) (w_t:Ql.Rows3) (w_v:List Value):FRel:={ pre:=z02 w=0/\w_x.length=w.arcs.length/\XB w_x/\∃ π,z90 w (fun s=>endS w s || decide (0<rmS w w_x s)) π,G:=(List Int),post:=fun p=>PriceP w w_x p,out:=fun p=>{ pre:=True,res:=.row 6,rows:=[.row 2 (.ints .i64 (p))],eff:=[] } }
def zfv:FR:=fun args h=>match args,h with
 | [.ptr 0 0 0 0],[(0,.box false 109 [.row 1,.row 2,.row 3,.row 4,.row 5]),(1,.row false ty1 (.ints .i64 w_s)),(2,.row false ty2 (.arcs w_a)),(3,.row false ty3 (.ints .i64 w_x)),(4,.row false ty4 (.ints .i64 w_o)),(5,.deep false ty5 tz5 (.recs (.int .i64) [.bool] w_t) w_v none)]=>some (zla ⟨w_s,w_a⟩ w_x w_o w_t w_v)
 | _,_=>none
def zfu (w:Inst) (w_x:List Int) (w_o:List Int) (w_t:Ql.Rows3) (w_v:List Value):List (Nat × Ann):=[(4,{ G:=(Nat) × (Nat->Option Int),inv:=fun ⟨k,d⟩=>⟨[(6,.row 11),(19,.row 8),(20,.int .i64 (w.sup.length:Int)),(21,.int .i64 k)],[(11,.row true 2 (.ints .i64 (negF k fun v=>(d v).getD 0))),(8,.row true 172 (.recs (.int .i64) [.bool] (z0m w.sup.length d)))],12⟩,rel:=fun ⟨k0,d0⟩ ⟨k,d⟩=>d=d0/\k <= w.sup.length,meas:=fun ⟨k,d⟩=>w.sup.length - k })]
def price20_A:List SV->z0d->List (Nat × Ann):=fun args h=>match args,h with
 | [.ptr 0 0 0 0],[(0,.box false 109 [.row 1,.row 2,.row 3,.row 4,.row 5]),(1,.row false ty1 (.ints .i64 w_s)),(2,.row false ty2 (.arcs w_a)),(3,.row false ty3 (.ints .i64 w_x)),(4,.row false ty4 (.ints .i64 w_o)),(5,.deep false ty5 tz5 (.recs (.int .i64) [.bool] w_t) w_v none)]=>zfu ⟨w_s,w_a⟩ w_x w_o w_t w_v
 | _,_=>[]
def zl9:z0c:=[(shortP_n,(true,z0l true zn8))]
abbrev price20_n:Nat:=63
def price20_I (w:Inst) (w_x:List Int) (w_o:List Int) (w_t:Ql.Rows3) (w_v:List Value):List (Nat × z08):=[]
def price20_IA:List SV->z0d->List (Nat × z08):=fun _ _=>[]
def zft (w : Inst) (w_x : List Int) (w_o : List Int) (w_t : Ql.Rows3) (w_v : List Value) (ty1 ty2 ty3 ty4 ty5 tz5 : TypeId) : Prop :=
      (z02 w=(0:Int)/\w=w/\w_x=w_x/\w_x.length=w.arcs.length/\XB w_x) /\
 ∀ (g:(Nat->Option Int) × (Nat->Option Stp) × Option Nat),
 ShortP w (fun (s:Stp)=>Ql.endS w s || decide ((0:Int)<rmS w w_x s)) (fun (x:Nat)=>true) g.1 g.2.1 g.2.2 ->
 ((0:Int) <= (0:Int)/\(0:Int) <= (↑(z0m w.sup.length g.1).length:Int)/\(↑(z0m w.sup.length g.1).length:Int) <= (1000000000:Int)) /\
 ∃ (g0:Nat × (Nat->Option Int)),
 ((g0.snd=g0.snd/\g0.fst <= w.sup.length) /\
 (True/\True/\(↑(z0m w.sup.length g.1).length:Int)=(↑w.sup.length:Int)/\(0:Int)=(↑g0.1:Int)/\True) /\
 (List.replicate (Int.toNat (0:Int)) (0:Int)=negF g0.1 fun (v:Nat)=>(g0.2 v).getD (0:Int))/\z0m w.sup.length g.1=z0m w.sup.length g0.2/\True) /\
 ∀ (g:Nat × (Nat->Option Int)),
 g.snd=g0.snd/\g.fst <= w.sup.length ->
 (decide ((↑g.1:Int)<(↑w.sup.length:Int))=true ->
 ((0:Int) <= (↑g.1:Int)/\(↑g.1:Int)<(↑(z0m w.sup.length g.2).length:Int)) /\
 (↑g.1:Int).toNat<(z0m w.sup.length g.2).length /\
 ∀ (x:List Int),
 (z0m w.sup.length g.2)[(↑g.1:Int).toNat]? = some x ->
 (negF g.1 fun (v:Nat)=>(g.2 v).getD (0:Int)).length+(1:Nat) <= (1000000000:Nat) /\
 ∃ (g':Nat × (Nat->Option Int)),
 (g'.snd=g0.snd/\g'.fst <= w.sup.length) /\
 w.sup.length - g'.fst<w.sup.length - g.fst /\
 (True/\True/\(↑w.sup.length:Int)=(↑w.sup.length:Int)/\IntKind.i64.wrap ((↑g.1:Int)+(1:Int))=(↑g'.1:Int)/\True) /\
 ((negF g.1 fun (v:Nat)=>(g.2 v).getD (0:Int)) ++ [IntKind.i64.wrap ((0:Int) - x.headD (0:Int))] =
 negF g'.1 fun (v:Nat)=>(g'.2 v).getD (0:Int)) /\
 z0m w.sup.length g.2=z0m w.sup.length g'.2/\True) /\
 (decide ((↑g.1:Int)<(↑w.sup.length:Int))=false ->
 ∃ (g_1:List Int),PriceP w w_x g_1/\(True/\True)/\(negF g.1 fun (v:Nat)=>(g.2 v).getD (0:Int))=g_1/\True)
theorem price20_q (w:Inst) (w_x:List Int) (w_o:List Int) (w_t:Ql.Rows3) (w_v:List Value) (ty1 ty2 ty3 ty4 ty5 tz5:TypeId):zft w w_x w_o w_t w_v ty1 ty2 ty3 ty4 ty5 tz5=z6x TT zl9 (price20_I w w_x w_o w_t w_v) (zfu w w_x w_o w_t w_v) Tryz.f63 [.ptr 0 0 0 0] [(0,.box false 109 [.row 1,.row 2,.row 3,.row 4,.row 5]),(1,.row false ty1 (.ints .i64 w.sup)),(2,.row false ty2 (.arcs w.arcs)),(3,.row false ty3 (.ints .i64 w_x)),(4,.row false ty4 (.ints .i64 w_o)),(5,.deep false ty5 tz5 (.recs (.int .i64) [.bool] w_t) w_v none)] (zla w w_x w_o w_t w_v):=by kernel_rfl
theorem price20_E (w:Inst) (w_x:List Int) (w_o:List Int) (w_t:Ql.Rows3) (w_v:List Value) (ty1 ty2 ty3 ty4 ty5 tz5:TypeId) (hp:z02 w=0/\w_x.length=w.arcs.length/\XB w_x/\∃ π,z90 w (fun s=>endS w s || decide (0<rmS w w_x s)) π):FVcR TT zl9 (price20_I w w_x w_o w_t w_v) (zfu w w_x w_o w_t w_v) Tryz.f63 [.ptr 0 0 0 0] [(0,.box false 109 [.row 1,.row 2,.row 3,.row 4,.row 5]),(1,.row false ty1 (.ints .i64 w.sup)),(2,.row false ty2 (.arcs w.arcs)),(3,.row false ty3 (.ints .i64 w_x)),(4,.row false ty4 (.ints .i64 w_o)),(5,.deep false ty5 tz5 (.recs (.int .i64) [.bool] w_t) w_v none)] (zla w w_x w_o w_t w_v):=by
 refine FVcR.of (zft w w_x w_o w_t w_v ty1 ty2 ty3 ty4 ty5 tz5) (price20_q w w_x w_o w_t w_v ty1 ty2 ty3 ty4 ty5 tz5) ?_
 unfold zft
 simp only [eq_self,exists_const,forall_const,ne_eq,Int.toNat_natCast,zSS,z07]
 obtain ⟨hr,hl,hx,π,hπ⟩:=hp
 refine ⟨⟨hr,hl,hx⟩,?_⟩
 rintro ⟨d,b,e⟩ hS
 dsimp only at hS ⊢
 obtain ⟨g,h1,h2⟩:=znh hr hS hπ
 have hs64:=z0e hr
 rw [z73]
 refine ⟨by omega,(0,d),⟨Nat.zero_le _,⟨rfl,rfl⟩,rfl,rfl⟩,?_⟩
 rintro ⟨k,d2⟩ ⟨h3,h4⟩
 dsimp only at h3 h4 ⊢
 subst h3
 rw [z73]
 refine ⟨fun h5=>⟨⟨by omega,h5⟩,by omega,fun x hx=>⟨by simp [negF]; omega,(k+1,d2),⟨rfl,by dsimp only; omega⟩,by dsimp only; omega,by rw [w64 (by omega) (by omega)]; dsimp only; omega,?_,rfl⟩⟩,fun h5=>⟨_,⟨⟨g,h2,?_,fun v hv=>hS.db hr (h1 v hv),fun C h0 hC v hv=>hS.few h0 hC (h1 v hv)⟩⟩,rfl⟩⟩
 ·obtain ⟨hk,rfl⟩:=z1v hx
  have hb:=hS.db hr (h1 k hk)
  have e1:(mbI (d2 k)).headD 0=g k:=by rw [h1 k hk]; rfl
  rw [e1,w64 (by omega) (by omega)]
  unfold negF
  rw [List.range_succ,List.map_append,List.map_singleton]
  dsimp only
  rw [h1 k hk]
  simp
 ·have ek:k=w.sup.length:=by omega
  subst ek
  unfold negF
  exact List.map_congr_left fun v hv=>by dsimp only; rw [h1 v (List.mem_range.1 hv)]; rfl
theorem price20_ok:SpecOk Tryz.prog price20_n true (z0l true zfv) :=
 z1x z0r (show z1c Tryz.prog zl9 from z00 shortP_ok (z05)) (by kernel_rfl) mixedOrders Tryz.func63 rfl rfl (by kernel_rfl) (n:=1) (by decide +kernel) (I:=price20_IA) (fun _ _=>z06) (A:=price20_A)
  (fun args h r hr=>by
   unfold zfv at hr
   split at hr
   ·rename_i ty1 w_s ty2 w_a ty3 w_x ty4 w_o ty5 tz5 w_t w_v; cases hr; refine ⟨rfl,fun hp=>?_⟩; have hE:=price20_E ⟨w_s,w_a⟩ w_x w_o w_t w_v ty1 ty2 ty3 ty4 ty5 tz5 hp; exact hE
   ·cases hr)
def rev20_r (l:List Int):FRes:={ pre:=l.length <= 1000000,res:=.tup [],rows:=[],eff:=[(0,.row true 3 (.ints .i64 l.reverse))] }
def rev20_fs:FS:=fun args h=>match args,h with
 | [.row 0],[(0,.row true 3 (.ints .i64 l))]=>some (rev20_r l)
 | _,_=>none
def rev20_an (l:List Int):List (Nat × Ann):=[(1,{ G:=(Nat),inv:=fun i=>⟨[(0,.row 0),(2,.int .i64 i),(3,.int .i64 ((l.length:Int) - 1 - i))],[(0,.row true 3 (.ints .i64 (zhp l i)))],1⟩,rel:=fun i0 i=>i <= l.length,meas:=fun i=>l.length - i })]
def rev20_A:List SV->z0d->List (Nat × Ann):=fun args h=>match args,h with
 | [.row 0],[(0,.row true 3 (.ints .i64 l))]=>rev20_an l
 | _,_=>[]
def rev20_g:z0c:=[]
abbrev rev20_n:Nat:=108
def rev20_I (l:List Int):List (Nat × z08):=[]
def rev20_IA:List SV->z0d->List (Nat × z08):=fun _ _=>[]
def zmk (w:Inst) (w_x:List Int) (w_o:List Int) (w_t:Ql.Rows3) (w_v:List Value):FRel:={ pre:=z02 w=0,G:=(List Int) × (Bool),post:=fun ⟨l,f⟩=>RoundP w l f,out:=fun ⟨l,f⟩=>{ pre:=True,res:=.tup [.row 6,.bool (f)],rows:=[.row 3 (.ints .i64 (l))],eff:=[] } }
def zaz:FR:=fun args h=>match args,h with
 | [.ptr 0 0 0 0],[(0,.box false 109 [.row 1,.row 2,.row 3,.row 4,.row 5]),(1,.row false ty1 (.ints .i64 w_s)),(2,.row false ty2 (.arcs w_a)),(3,.row false ty3 (.ints .i64 w_x)),(4,.row false ty4 (.ints .i64 w_o)),(5,.deep false ty5 tz5 (.recs (.int .i64) [.bool] w_t) w_v none)]=>some (zmk ⟨w_s,w_a⟩ w_x w_o w_t w_v)
 | _,_=>none
def zgf (w:Inst) (w_x:List Int) (w_o:List Int) (w_t:Ql.Rows3) (w_v:List Value):List (Nat × Ann):=[(6,{ G:=(Nat->Option Stp) × (Nat) × (Nat),inv:=fun ⟨b,v,j⟩=>⟨[(0,.ptr 0 0 0 0),(5,.row 8),(7,.int .i64 (z0p w b v j:Nat)),(29,.int .i64 (w.sup.length:Int)),(30,.int .i64 j)],[(8,.row true 165 (.recs (.int .i64) [.bool,.bool] (z0k w.sup.length b))),(0,.box false 109 [.row 1,.row 2,.row 3,.row 4,.row 5]),(1,.row false 0 (.ints .i64 w.sup)),(2,.row false 0 (.arcs w.arcs)),(3,.row false 0 (.ints .i64 w_x)),(4,.row false 0 (.ints .i64 w_o)),(5,.deep false 0 0 (.recs (.int .i64) [.bool] w_t) w_v none)],10⟩,rel:=fun ⟨b0,v0,j0⟩ ⟨b,v,j⟩=>b=b0/\v=v0/\j <= w.sup.length/\CircA w b v,meas:=fun ⟨b,v,j⟩=>w.sup.length - j }),
 (11,{ G:=(Nat->Option Stp) × (Nat) × (Nat) × (Nat),inv:=fun ⟨b,m,k,j⟩=>⟨[(0,.ptr 0 0 0 0),(5,.row 8),(7,.int .i64 (m:Int)),(8,.row 10),(9,.int .i64 (z0p w b m j:Nat))],[(10,.row true 3 (.ints .i64 (z3r w b m j))),(8,.row true 165 (.recs (.int .i64) [.bool,.bool] (z0k w.sup.length b))),(0,.box false 109 [.row 1,.row 2,.row 3,.row 4,.row 5]),(1,.row false 0 (.ints .i64 w.sup)),(2,.row false 0 (.arcs w.arcs)),(3,.row false 0 (.ints .i64 w_x)),(4,.row false 0 (.ints .i64 w_o)),(5,.deep false 0 0 (.recs (.int .i64) [.bool] w_t) w_v none)],11⟩,rel:=fun ⟨b0,m0,k0,j0⟩ ⟨b,m,k,j⟩=>b=b0/\m=m0/\k=k0/\j<k/\Circ w b m k,meas:=fun ⟨b,m,k,j⟩=>k - j })]
def round20_A:List SV->z0d->List (Nat × Ann):=fun args h=>match args,h with
 | [.ptr 0 0 0 0],[(0,.box false 109 [.row 1,.row 2,.row 3,.row 4,.row 5]),(1,.row false ty1 (.ints .i64 w_s)),(2,.row false ty2 (.arcs w_a)),(3,.row false ty3 (.ints .i64 w_x)),(4,.row false ty4 (.ints .i64 w_o)),(5,.deep false ty5 tz5 (.recs (.int .i64) [.bool] w_t) w_v none)]=>zgf ⟨w_s,w_a⟩ w_x w_o w_t w_v
 | _,_=>[]
def zmi:z0c:=[(shortE_n,(true,z0l true ze5)),(zbb,(true,z03 true z6j)),(rev20_n,(false,z03 false rev20_fs))]
abbrev zmj:Nat:=61
def round20_I (w:Inst) (w_x:List Int) (w_o:List Int) (w_t:Ql.Rows3) (w_v:List Value):List (Nat × z08):=[]
def round20_IA:List SV->z0d->List (Nat × z08):=fun _ _=>[]
def rev20_E0 (l : List Int) : Prop :=
      ∃ (g0:Nat),
 (g0 <= l.length /\
 (True/\(0:Int)=(↑g0:Int)/\IntKind.i64.wrap ((↑l.length:Int) - (1:Int))=(↑l.length:Int) - (1:Int) - (↑g0:Int)/\True)/\l=zhp l g0/\True) /\
 ∀ (g:Nat),
 g <= l.length ->
 (decide ((↑g:Int)<(↑l.length:Int) - (1:Int) - (↑g:Int))=true ->
 ((0:Int) <= (↑l.length:Int) - (1:Int) - (↑g:Int)/\(↑l.length:Int) - (1:Int) - (↑g:Int)<(↑(zhp l g).length:Int)) /\
 ((↑l.length:Int) - (1:Int) - (↑g:Int)).toNat<(zhp l g).length /\
 ∀ (x:Int),
 (zhp l g)[((↑l.length:Int) - (1:Int) - (↑g:Int)).toNat]? = some x ->
 ((0:Int) <= (↑g:Int)/\(↑g:Int)<(↑(zhp l g).length:Int)) /\
 (↑g:Int).toNat<(zhp l g).length /\
 ∀ (x_1:Int),
 (zhp l g)[(↑g:Int).toNat]? = some x_1 ->
 ((0:Int) <= (↑g:Int)/\(↑g:Int)<(↑(zhp l g).length:Int)) /\
 (↑g:Int).toNat<(zhp l g).length /\
 ((0:Int) <= (↑l.length:Int) - (1:Int) - (↑g:Int) /\
 (↑l.length:Int) - (1:Int) - (↑g:Int)<(↑((zhp l g).set (↑g:Int).toNat x).length:Int)) /\
 ((↑l.length:Int) - (1:Int) - (↑g:Int)).toNat<((zhp l g).set (↑g:Int).toNat x).length /\
 ∃ (g':Nat),
 g' <= l.length /\
 l.length - g'<l.length - g /\
 (True /\
 IntKind.i64.wrap ((↑g:Int)+(1:Int))=(↑g':Int) /\
 IntKind.i64.wrap ((↑l.length:Int) - (1:Int) - (↑g:Int) - (1:Int))=(↑l.length:Int) - (1:Int) - (↑g':Int)/\True) /\
 ((zhp l g).set (↑g:Int).toNat x).set ((↑l.length:Int) - (1:Int) - (↑g:Int)).toNat x_1=zhp l g'/\True) /\
 (decide ((↑g:Int)<(↑l.length:Int) - (1:Int) - (↑g:Int))=false->(True/\True)/\zhp l g=l.reverse/\True)
theorem rev20_q (l:List Int):rev20_E0 l=z2r TT rev20_g (rev20_I l) (rev20_an l) Tryz.f108 [.row 0] [(0,.row true 3 (.ints .i64 l))] (rev20_r l):=by kernel_rfl
theorem rev20_E (l:List Int) (hp:l.length <= 1000000):FVc TT rev20_g (rev20_I l) (rev20_an l) Tryz.f108 [.row 0] [(0,.row true 3 (.ints .i64 l))] (rev20_r l):=by
 refine FVc.of (rev20_E0 l) (rev20_q l) ?_
 unfold rev20_E0
 simp only [eq_self,exists_const,forall_const,ne_eq,Int.toNat_natCast,zSS,z07]
 simp only [zaw,List.length_set]
 refine ⟨0,⟨Nat.zero_le _,⟨rfl,by rw [w64 (by omega) (by omega)]; omega⟩,(revK_zero l).symm⟩,fun i hi=>?_⟩
 refine ⟨fun h=>⟨by omega,by omega,fun x hx=>⟨by omega,by omega,fun y hy=>⟨by omega,by omega,by omega,by omega,i+1,by omega,by omega,⟨by rw [w64 (by omega) (by omega)]; omega,by rw [w64 (by omega) (by omega)]; omega⟩,?_⟩⟩⟩,fun h=>revK_end (by omega)⟩
 exact revK_next (by omega) (by omega) hy hx
theorem rev20_ok:SpecOk Tryz.prog rev20_n false (z03 false rev20_fs) :=
 z0b z0r (show z1c Tryz.prog rev20_g from z05) (by kernel_rfl) mixedOrders Tryz.func108 rfl rfl (by kernel_rfl) (n:=1) (by decide +kernel) (I:=rev20_IA) (fun _ _=>z06) (A:=rev20_A)
  (fun args h r hr=>by
   unfold rev20_fs at hr
   split at hr
   ·rename_i l; cases hr; refine ⟨rfl,fun hp=>?_⟩; have hE:=rev20_E l hp; exact hE
   ·cases hr)
abbrev zb0:=(Nat->Option Stp) × Nat × Nat × Nat
abbrev zb1:=(Nat->Option Stp) × Nat × Nat
abbrev z7s (w:Inst) (w_x:List Int) (w_o:List Int) (w_t:Ql.Rows3) (w_v:List Value):=((True/\(True/\(True/\(True/\(True/\True)))))/\(w.sup=w.sup/\(w.arcs=w.arcs/\(w_x=w_x/\(w_o=w_o/\((w_t=w_t/\(w_v=w_v))/\True))))))
abbrev z7t (w:Inst) (x:List Int):=(↑(frS w ((x.headD (0:Int)).toNat,x.tail.headD (0:Int) == (1:Int))):Int)
def zge (w : Inst) (w_x : List Int) (w_o : List Int) (w_t : Ql.Rows3) (w_v : List Value) (ty1 ty2 ty3 ty4 ty5 tz5 : TypeId) : Prop :=
   (z02 w=(0:Int)/\(w=w))/\∀ (g:(Nat->Option Int) × (Nat->Option Stp) × Option Nat),ShortP w (Ql.endS w) (fun (x:Nat)=>true) g.1 g.2.1 g.2.2->((!g.2.2.isSome)=true->∃ (g:List Int × Bool),RoundP w g.1 g.2/\(((True/\(false=g.2/\True))/\True)/\([]=g.1/\True)))/\((!g.2.2.isSome)=false->∃ (g0:zb1),((g0.fst=g0.fst/\(g0.2.fst=g0.2.fst/\(g0.2.snd <= w.sup.length/\(CircA w g0.fst g0.2.fst))))/\((0=0/\(True/\((↑(g.2.2.getD (0:Nat)):Int)=↑(z0p w g0.1 g0.2.1 g0.2.2)/\((↑w.sup.length:Int)=↑w.sup.length/\((0:Int)=↑g0.2.2/\True)))))/\(z0k w.sup.length g.2.1=z0k w.sup.length g0.1/\(z7s w w_x w_o w_t w_v))))/\∀ (g:zb1),g.fst=g0.fst/\g.2.fst=g0.2.fst/\g.2.snd <= w.sup.length/\CircA w g.fst g.2.fst->(decide ((↑g.2.2:Int)<↑w.sup.length)=true->((0:Int) <= ↑(z0p w g.1 g.2.1 g.2.2)/\((↑(z0p w g.1 g.2.1 g.2.2):Int)<↑(z0k w.sup.length g.1).length))/\((↑(z0p w g.1 g.2.1 g.2.2):Int).toNat<(z0k w.sup.length g.1).length/\(∀ (x:List Int),(z0k w.sup.length g.1)[(↑(z0p w g.1 g.2.1 g.2.2):Int).toNat]? = some x->z1i w (x.headD (0:Int))/\(∃ (g':zb1),(g'.fst=g0.fst/\(g'.2.fst=g0.2.fst/\(g'.2.snd <= w.sup.length/\(CircA w g'.fst g'.2.fst))))/\(w.sup.length - g'.2.snd<w.sup.length - g.2.snd/\((0=0/\(True/\((z7t w x)=↑(z0p w g'.1 g'.2.1 g'.2.2)/\((↑w.sup.length:Int)=↑w.sup.length/\(IntKind.i64.wrap ((↑g.2.2:Int)+(1:Int))=(↑g'.2.2:Int)/\True)))))/\(z0k w.sup.length g.1=z0k w.sup.length g'.1/\(z7s w w_x w_o w_t w_v))))))))/\(decide ((↑g.2.2:Int)<↑w.sup.length)=false->∃ (g0:zb0),((g0.fst=g0.fst/\(g0.2.fst=g0.2.fst/\(g0.2.2.fst=g0.2.2.fst/\(g0.2.2.snd<g0.2.2.fst/\(Circ w g0.fst g0.2.fst g0.2.2.fst)))))/\((0=0/\(True/\((↑(z0p w g.1 g.2.1 g.2.2):Int)=↑g0.2.1/\(True/\((↑(z0p w g.1 g.2.1 g.2.2):Int)=↑(z0p w g0.1 g0.2.1 g0.2.2.2)/\True)))))/\([]=z3r w g0.1 g0.2.1 g0.2.2.2/\(z0k w.sup.length g.1=z0k w.sup.length g0.1/\(z7s w w_x w_o w_t w_v)))))/\(∀ (g:zb0),g.fst=g0.fst/\g.2.fst=g0.2.fst/\g.2.2.fst=g0.2.2.fst/\g.2.2.snd<g.2.2.fst/\Circ w g.fst g.2.fst g.2.2.fst->((0:Int) <= ↑(z0p w g.1 g.2.1 g.2.2.2)/\((↑(z0p w g.1 g.2.1 g.2.2.2):Int)<↑(z0k w.sup.length g.1).length))/\((↑(z0p w g.1 g.2.1 g.2.2.2):Int).toNat<(z0k w.sup.length g.1).length/\(∀ (x:List Int),(z0k w.sup.length g.1)[(↑(z0p w g.1 g.2.1 g.2.2.2):Int).toNat]? = some x->(z3r w g.1 g.2.1 g.2.2.2).length+(1:Nat) <= 1000000000/\(z1i w (x.headD (0:Int))/\((((z7t w x) == (↑g.2.1:Int))=true->(z3r w g.1 g.2.1 g.2.2.2 ++ [x.headD (0:Int)]).length <= (1000000:Nat)/\(∃ (g_1:List Int × Bool),RoundP w g_1.1 g_1.2/\(((True/\(true=g_1.2/\True))/\True)/\((z3r w g.1 g.2.1 g.2.2.2 ++ [x.headD (0:Int)]).reverse=g_1.1/\True))))/\(((z7t w x) == (↑g.2.1:Int))=false->∃ (g':zb0),(g'.fst=g0.fst/\(g'.2.fst=g0.2.fst/\(g'.2.2.fst=g0.2.2.fst/\(g'.2.2.snd<g'.2.2.fst/\(Circ w g'.fst g'.2.fst g'.2.2.fst)))))/\(g'.2.2.fst - g'.2.2.snd<g.2.2.fst - g.2.2.snd/\((0=0/\(True/\((↑g.2.1:Int)=↑g'.2.1/\(True/\((z7t w x)=↑(z0p w g'.1 g'.2.1 g'.2.2.2)/\True)))))/\(z3r w g.1 g.2.1 g.2.2.2 ++ [x.headD (0:Int)]=z3r w g'.1 g'.2.1 g'.2.2.2/\(z0k w.sup.length g.1=z0k w.sup.length g'.1/\(z7s w w_x w_o w_t w_v)))))))))))))
theorem round20_q (w:Inst) (w_x:List Int) (w_o:List Int) (w_t:Ql.Rows3) (w_v:List Value) (ty1 ty2 ty3 ty4 ty5 tz5:TypeId):zge w w_x w_o w_t w_v ty1 ty2 ty3 ty4 ty5 tz5=z6x TT zmi (round20_I w w_x w_o w_t w_v) (zgf w w_x w_o w_t w_v) Tryz.f61 [.ptr 0 0 0 0] [(0,.box false 109 [.row 1,.row 2,.row 3,.row 4,.row 5]),(1,.row false ty1 (.ints .i64 w.sup)),(2,.row false ty2 (.arcs w.arcs)),(3,.row false ty3 (.ints .i64 w_x)),(4,.row false ty4 (.ints .i64 w_o)),(5,.deep false ty5 tz5 (.recs (.int .i64) [.bool] w_t) w_v none)] (zmk w w_x w_o w_t w_v):=by kernel_rfl
theorem round20_E (w:Inst) (w_x:List Int) (w_o:List Int) (w_t:Ql.Rows3) (w_v:List Value) (ty1 ty2 ty3 ty4 ty5 tz5:TypeId) (hp:z02 w=0):FVcR TT zmi (round20_I w w_x w_o w_t w_v) (zgf w w_x w_o w_t w_v) Tryz.f61 [.ptr 0 0 0 0] [(0,.box false 109 [.row 1,.row 2,.row 3,.row 4,.row 5]),(1,.row false ty1 (.ints .i64 w.sup)),(2,.row false ty2 (.arcs w.arcs)),(3,.row false ty3 (.ints .i64 w_x)),(4,.row false ty4 (.ints .i64 w_o)),(5,.deep false ty5 tz5 (.recs (.int .i64) [.bool] w_t) w_v none)] (zmk w w_x w_o w_t w_v):=by
 refine FVcR.of (zge w w_x w_o w_t w_v ty1 ty2 ty3 ty4 ty5 tz5) (round20_q w w_x w_o w_t w_v ty1 ty2 ty3 ty4 ty5 tz5) ?_
 unfold zge
 delta z7t z7s zb0 zb1
 simp only [eq_self,exists_const,forall_const,ne_eq,Int.toNat_natCast,zSS,z07]
 simp only [z85]
 refine ⟨hp,?_⟩
 rintro ⟨d,b,e⟩ hS
 dsimp only at hS ⊢
 have hs64:=z0e hp
 have hw:∀ j:Nat,j <= 1000000->IntKind.i64.wrap ((j:Int)+1)=((j+1:Nat):Int):=fun j hj=>by rw [w64 (by omega) (by omega)]; omega
 have hyv:∀ (b:Nat->Option Stp) (v:Nat) (y:List Int),(z0k w.sup.length b)[v]? = some y->∀ s,b v=some s->okS w s->z1i w (y.headD 0)/\((y.headD 0).toNat,y.tail.headD 0 == 1)=s/\y.headD 0=(s.1:Int):=fun b v y hy s hs hok=>by
  obtain ⟨-,h2⟩:=bRow_get hy
  obtain ⟨a,c⟩:=s
  have ha:a<w.arcs.length:=hok
  subst h2
  rw [hs]
  exact ⟨⟨hp,by simp [mbS],by simp [mbS]; omega⟩,by cases c <;> simp [mbS],rfl⟩
 cases e with
 | none=>exact ⟨fun _=>⟨([],false),⟨fun h=>(by cases h),fun _=>⟨rfl,_,short_none hp hS⟩⟩,rfl,rfl⟩,fun h=>(by cases h)⟩
 | some v =>
 refine ⟨fun h=>(by cases h),fun _=>?_⟩
 have hA:=circ_a hp hS
 refine ⟨(b,v,0),⟨⟨Nat.zero_le _,hA⟩,⟨rfl,rfl⟩,rfl⟩,?_⟩
 rintro ⟨b',v',j⟩ ⟨h2,h3,hj,-⟩
 dsimp only at h2 h3 hj ⊢
 subst h2 h3
 have hlt:=z61 hp (fun u s hu hb=>hS.ok hu hb) hA.vn
 refine ⟨fun h4=>?_,fun h4=>?_⟩
 ·obtain ⟨s,hs,hok⟩:=hA.all j
  refine ⟨by have:=hlt j; omega,hlt j,fun x hx=>?_⟩
  obtain ⟨q1,q2,q3⟩:=hyv _ _ x hx s hs hok
  rw [q2]
  refine ⟨q1,(b',v',j+1),⟨rfl,rfl,by dsimp only; omega,hA⟩,by dsimp only; omega,⟨?_,hw j (by omega)⟩,rfl⟩
  dsimp only
  rw [z0p,hs]
 ·have ej:j=w.sup.length:=by omega
  subst ej
  obtain ⟨k,hC⟩:=hA.circ
  refine ⟨(b',z0p w b' v' w.sup.length,k,0),⟨⟨hC.k1,hC⟩,⟨rfl,rfl⟩,rfl,rfl⟩,?_⟩
  generalize z0p w b' v' w.sup.length=m at *
  rintro ⟨b2,m2,k2,i⟩ ⟨h5,h6,h7,hik,-⟩
  dsimp only at h5 h6 h7 hik ⊢
  subst h5 h6 h7
  obtain ⟨s,hs,hok,hend,hto⟩:=hC.all i
  have hfew:=hC.few hp
  have hli:(z3r w b2 m2 i).length=i:=by simp [z3r]
  have htl:=z5q hp hok
  rw [hto] at htl
  refine ⟨by omega,htl,fun x hx=>?_⟩
  obtain ⟨q1,q2,q3⟩:=hyv _ _ x hx s hs hok
  have e1:frS w s=z0p w b2 m2 (i+1):=by rw [z0p,hs]
  have e2:z3r w b2 m2 i ++ [x.headD 0]=z3r w b2 m2 (i+1):=by
   rw [circL_succ,q3]; unfold arcB; rw [hs]
  rw [q2,e1,e2]
  refine ⟨by omega,q1,fun h8=>⟨by simp [z3r]; omega,(_,true),⟨fun _=>?_,fun h=>(by cases h)⟩,rfl,rfl⟩,fun h8=>⟨(b2,m2,k2,i+1),⟨rfl,rfl,rfl,?_,hC⟩,by dsimp only; omega,⟨rfl,rfl⟩,rfl,rfl⟩⟩
  ·have ek:i+1=k2:=by
    apply Classical.byContradiction
    intro hne
    exact hC.not (i+1) (by omega) (by omega) (by omega)
   rw [ek]
   exact hC.turns hp
  ·dsimp only
   have:i+1 ≠ k2:=fun e=>h8 (by rw [e,hC.back])
   omega
theorem round20_ok:SpecOk Tryz.prog zmj true (z0l true zaz) :=
 z1x z0r (show z1c Tryz.prog zmi from z00 shortE_ok (z00 z8c (z00 rev20_ok (z05)))) (by kernel_rfl) mixedOrders Tryz.func61 rfl rfl (by kernel_rfl) (n:=1) (by decide +kernel) (I:=round20_IA) (fun _ _=>z06) (A:=round20_A)
  (fun args h r hr=>by
   unfold zaz at hr
   split at hr
   ·rename_i ty1 w_s ty2 w_a ty3 w_x ty4 w_o ty5 tz5 w_t w_v; cases hr; refine ⟨rfl,fun hp=>?_⟩; have hE:=round20_E ⟨w_s,w_a⟩ w_x w_o w_t w_v ty1 ty2 ty3 ty4 ty5 tz5 hp; exact hE
   ·cases hr)
def idxB (l:List Bool) (v:Bool):Int:=if v ∈ l then (l.findIdx (· == v):Nat) else -1
def idx20_r (l:List Bool) (v:Bool):FRes:={ pre:=l.length <= 1000000,res:=.int .i64 (idxB l v),rows:=[],eff:=[] }
def idx20_fs:FS:=fun args h=>match args,h with
 | [.row 0,.bool v],[(0,.row false ty0 (.bools l))]=>some (idx20_r l v)
 | _,_=>none
def idx20_an (l:List Bool) (v:Bool):List (Nat × Ann):=[(2,{ G:=(Nat),inv:=fun k=>⟨[(0,.row 0),(1,.bool v),(7,.int .i64 (↑l.length:Int)),(8,.int .i64 k)],[(0,.row false 0 (.bools l))],1⟩,rel:=fun k0 k=>k <= l.length/\v ∉ l.take k,meas:=fun k=>l.length - k })]
def idx20_A:List SV->z0d->List (Nat × Ann):=fun args h=>match args,h with
 | [.row 0,.bool v],[(0,.row false ty0 (.bools l))]=>idx20_an l v
 | _,_=>[]
def idx20_g:z0c:=[]
abbrev idx20_n:Nat:=152
def idx20_I (l:List Bool) (v:Bool):List (Nat × z08):=[]
def idx20_IA:List SV->z0d->List (Nat × z08):=fun _ _=>[]
def z9c (l:List Bool) (v:Bool):FRes:={ pre:=l.length <= 1000000,res:=.bool (l.contains v),rows:=[],eff:=[] }
def z8a:FS:=fun args h=>match args,h with
 | [.row 0,.bool v],[(0,.row false ty0 (.bools l))]=>some (z9c l v)
 | _,_=>none
def zd8 (l:List Bool) (v:Bool):List (Nat × Ann):=[]
def contains20_A:List SV->z0d->List (Nat × Ann):=fun _ _=>[]
def z9b:z0c:=[(idx20_n,(true,z03 true idx20_fs))]
abbrev zh2:Nat:=103
def zh1 (l:List Bool) (v:Bool):List (Nat × z08):=[]
def contains20_IA:List SV->z0d->List (Nat × z08):=fun _ _=>[]
def zgi (w:Inst) (w_x:List Int) (w_o:List Int) (w_t:Ql.Rows3) (w_v:List Value):FRel:={ pre:=z02 w=0/\w_x.length=w.arcs.length/\w_o.length=w.sup.length/\XB w_x/\Betw w w_x/\AtOk w w_t,G:=(List Bool) × (Nat->Option Stp) × (Option Nat),post:=fun ⟨m,b,e⟩=>SearchP w w_x w_o m b e,out:=fun ⟨m,b,e⟩=>{ pre:=True,res:=.tup [.row 6,.row 7,.agg [.int .i64 (e.getD 0:Nat),.bool e.isSome]],rows:=[.row 4 (.bools m),.row 165 (.recs (.int .i64) [.bool,.bool] (z0k w.sup.length b))],eff:=[] } }
def zck:FR:=fun args h=>match args,h with
 | [.ptr 0 0 0 0],[(0,.box false 109 [.row 1,.row 2,.row 3,.row 4,.row 5]),(1,.row false ty1 (.ints .i64 w_s)),(2,.row false ty2 (.arcs w_a)),(3,.row false ty3 (.ints .i64 w_x)),(4,.row false ty4 (.ints .i64 w_o)),(5,.deep false ty5 tz5 (.recs (.int .i64) [.bool] w_t) w_v none)]=>some (zgi ⟨w_s,w_a⟩ w_x w_o w_t w_v)
 | _,_=>none
def zcj (w:Inst) (w_x:List Int) (w_o:List Int) (w_t:Ql.Rows3) (w_v:List Value):List (Nat × Ann):=[(6,{ G:=(Nat),inv:=fun k=>⟨[(0,.ptr 0 0 0 0),(4,.ptr 8 0 0 0),(5,.row 9),(6,.row 10),(7,.ptr 11 0 0 0),(8,.row 12),(35,.row 4),(36,.int .i64 (w_o.length:Int)),(37,.int .i64 k)],[(12,.row true 3 (.ints .i64 (z3t (layK w_o k)))),(11,.box true 152 [.int .i64 (0:Int),SV.ff]),(10,.row true 165 (.recs (.int .i64) [.bool,.bool] (z0k w.sup.length fun _=>none))),(9,.row true 4 (.bools (zhm w_o w.sup.length k))),(8,.box true 152 [.int .i64 (0:Int),SV.ff]),(0,.box false 109 [.row 1,.row 2,.row 3,.row 4,.row 5]),(1,.row false 0 (.ints .i64 w.sup)),(2,.row false 0 (.arcs w.arcs)),(3,.row false 0 (.ints .i64 w_x)),(4,.row false 0 (.ints .i64 w_o)),(5,.deep false 0 0 (.recs (.int .i64) [.bool] w_t) w_v none)],13⟩,rel:=fun k0 k=>k <= w.sup.length,meas:=fun k=>w.sup.length - k }),
 (12,{ G:=(List Bool) × (Nat->Option Stp) × (List Nat),inv:=fun ⟨m,b,L⟩=>⟨[(0,.ptr 0 0 0 0),(4,.ptr 8 0 0 0),(5,.row 9),(6,.row 10),(7,.ptr 11 0 0 0),(8,.row 12)],[(12,.row true 3 (.ints .i64 (z3t L))),(11,.box true 152 [.int .i64 (0:Int),SV.ff]),(10,.row true 165 (.recs (.int .i64) [.bool,.bool] (z0k w.sup.length b))),(9,.row true 4 (.bools m)),(8,.box true 152 [.int .i64 (0:Int),SV.ff]),(0,.box false 109 [.row 1,.row 2,.row 3,.row 4,.row 5]),(1,.row false 0 (.ints .i64 w.sup)),(2,.row false 0 (.arcs w.arcs)),(3,.row false 0 (.ints .i64 w_x)),(4,.row false 0 (.ints .i64 w_o)),(5,.deep false 0 0 (.recs (.int .i64) [.bool] w_t) w_v none)],13⟩,rel:=fun ⟨m0,b0,L0⟩ ⟨m,b,L⟩=>LayI w w_x w_o m b L [] (fun _=>False)/\L.length <= w.sup.length,meas:=fun ⟨m,b,L⟩=>2 * unN m+L.length.min 1 }),
 (15,{ G:=(List Bool) × (Nat->Option Stp) × (List Nat) × (List Nat) × (Nat),inv:=fun ⟨m,b,L,X,i⟩=>⟨[(0,.ptr 0 0 0 0),(4,.ptr 8 0 0 0),(5,.row 9),(6,.row 10),(7,.ptr 11 0 0 0),(11,.row 13),(55,.row 12),(56,.int .i64 (L.length:Int)),(57,.int .i64 i)],[(13,.row true 3 (.ints .i64 (z3t X))),(12,.row true 3 (.ints .i64 (z3t L))),(11,.box true 152 [.int .i64 (0:Int),SV.ff]),(10,.row true 165 (.recs (.int .i64) [.bool,.bool] (z0k w.sup.length b))),(9,.row true 4 (.bools m)),(8,.box true 152 [.int .i64 (0:Int),SV.ff]),(0,.box false 109 [.row 1,.row 2,.row 3,.row 4,.row 5]),(1,.row false 0 (.ints .i64 w.sup)),(2,.row false 0 (.arcs w.arcs)),(3,.row false 0 (.ints .i64 w_x)),(4,.row false 0 (.ints .i64 w_o)),(5,.deep false 0 0 (.recs (.int .i64) [.bool] w_t) w_v none)],14⟩,rel:=fun ⟨m0,b0,L0,X0,i0⟩ ⟨m,b,L,X,i⟩=>L=L0/\i <= L.length/\LayI w w_x w_o m b (L.drop i) X (fun _=>False)/\unN m+X.length=unN m0+X0.length,meas:=fun ⟨m,b,L,X,i⟩=>L.length - i }),
 (18,{ G:=(List Bool) × (Nat->Option Stp) × (List Nat) × (List Nat) × (Nat) × (List Stp) × (Nat),inv:=fun ⟨m,b,L,X,i,l,j⟩=>⟨[(0,.ptr 0 0 0 0),(4,.ptr 8 0 0 0),(5,.row 9),(6,.row 10),(7,.ptr 11 0 0 0),(11,.row 13),(55,.row 12),(56,.int .i64 (L.length:Int)),(57,.int .i64 i),(67,.row 14),(68,.int .i64 (l.length:Int)),(69,.int .i64 j)],[(14,.row false 0 (.recs (.int .i64) [.bool] (l.map z64))),(13,.row true 3 (.ints .i64 (z3t X))),(12,.row true 3 (.ints .i64 (z3t L))),(11,.box true 152 [.int .i64 (0:Int),SV.ff]),(10,.row true 165 (.recs (.int .i64) [.bool,.bool] (z0k w.sup.length b))),(9,.row true 4 (.bools m)),(8,.box true 152 [.int .i64 (0:Int),SV.ff]),(0,.box false 109 [.row 1,.row 2,.row 3,.row 4,.row 5]),(1,.row false 0 (.ints .i64 w.sup)),(2,.row false 0 (.arcs w.arcs)),(3,.row false 0 (.ints .i64 w_x)),(4,.row false 0 (.ints .i64 w_o)),(5,.deep false 0 0 (.recs (.int .i64) [.bool] w_t) w_v none)],15⟩,rel:=fun ⟨m0,b0,L0,X0,i0,l0,j0⟩ ⟨m,b,L,X,i,l,j⟩=>L=L0/\i=i0/\l=l0/\j <= l.length/\LayI w w_x w_o m b (L.drop (i+1)) X (fun s=>s ∈ l.drop j)/\unN m+X.length=unN m0+X0.length/\∀ s ∈ l,okS w s/\m.getD (frS w s) false=true,meas:=fun ⟨m,b,L,X,i,l,j⟩=>l.length - j })]
def search20_A:List SV->z0d->List (Nat × Ann):=fun args h=>match args,h with
 | [.ptr 0 0 0 0],[(0,.box false 109 [.row 1,.row 2,.row 3,.row 4,.row 5]),(1,.row false ty1 (.ints .i64 w_s)),(2,.row false ty2 (.arcs w_a)),(3,.row false ty3 (.ints .i64 w_x)),(4,.row false ty4 (.ints .i64 w_o)),(5,.deep false ty5 tz5 (.recs (.int .i64) [.bool] w_t) w_v none)]=>zcj ⟨w_s,w_a⟩ w_x w_o w_t w_v
 | _,_=>[]
def zgh:z0c:=[(zbb,(true,z03 true z6j)),(zax,(true,z03 true z6r)),(zgo,(false,z67)),(zgn,(false,z66))]
abbrev search20_n:Nat:=101
def search20_I (w:Inst) (w_x:List Int) (w_o:List Int) (w_t:Ql.Rows3) (w_v:List Value):List (Nat × z08):=[]
def search20_IA:List SV->z0d->List (Nat × z08):=fun _ _=>[]
end Go.Proofs.YtggblkbecekbdaaGreat
end
