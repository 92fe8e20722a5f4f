/- Part of the proof: FA2, DA3, FA3, DA4, FA4, Flow, Price. -/
import Derived.Test.YtggblkbecekbdaaGreatZG5
import Derived.Test.YtggblkbecekbdaaGreatZG1
import Derived.Test.YtggblkbecekbdaaGreatZG2
set_option linter.unusedVariables false
set_option linter.all false
set_option linter.unusedSimpArgs false
set_option maxRecDepth 1000000
section
namespace Go.Proofs.YtggblkbecekbdaaGreat
open Go Go.RowKit Go.Ql Go.Vc
def Right_E0 (I : Inst) (ty0 ty1 : TypeId) : Prop :=
   (decide ((↑I.sup.length:Int) > 64)=true->((20:Int)=z02 I/\True)/\True)/\(decide ((↑I.sup.length:Int) > 64)=false->(decide ((↑I.arcs.length:Int) > 256)=true->((20:Int)=z02 I/\True)/\True)/\(decide ((↑I.arcs.length:Int) > 256)=false->∃ (g0:Nat),((g0 <= I.arcs.length/\(z16 (↑I.sup.length:Int) (List.drop g0 I.arcs)=z16 (↑I.sup.length:Int) I.arcs))/\((0=0/\(True/\((↑I.arcs.length:Int)=↑I.arcs.length/\((0:Int)=↑g0/\True))))/\((True/\(True/\True))/\(I.sup=I.sup/\(I.arcs=I.arcs/\True)))))/\∀ (g:Nat),g <= I.arcs.length/\z16 (↑I.sup.length:Int) (List.drop g I.arcs)=z16 (↑I.sup.length:Int) I.arcs->(decide ((↑g:Int)<↑I.arcs.length)=true->((0:Int) <= ↑g/\((↑g:Int)<↑I.arcs.length))/\((↑g:Int).toNat<I.arcs.length/\(∀ (x:Arc),I.arcs[(↑g:Int).toNat]? = some x->True/\(((z0f x (↑I.sup.length:Int) != (0:Int))=true->(z0f x (↑I.sup.length:Int)=z02 I/\True)/\True)/\((z0f x (↑I.sup.length:Int) != (0:Int))=false->∃ (g':Nat),(g' <= I.arcs.length/\(z16 (↑I.sup.length:Int) (List.drop g' I.arcs)=z16 (↑I.sup.length:Int) I.arcs))/\(I.arcs.length - g'<I.arcs.length - g/\((0=0/\(True/\((↑I.arcs.length:Int)=↑I.arcs.length/\(IntKind.i64.wrap ((↑g:Int)+(1:Int))=(↑g':Int)/\True))))/\((True/\(True/\True))/\(I.sup=I.sup/\(I.arcs=I.arcs/\True))))))))))/\(decide ((↑g:Int)<↑I.arcs.length)=false->∃ (g0:Nat × Int),((g0.fst <= I.sup.length/\(z1o (List.drop g0.fst I.sup) g0.snd=z1o I.sup (0:Int)/\(-((4398046511104:Int) * (↑g0.fst:Int)) <= g0.snd/\(g0.snd <= (4398046511104:Int) * (↑g0.fst:Int)))))/\(((0:Int)=g0.2/\(True/\((↑I.sup.length:Int)=↑I.sup.length/\((0:Int)=↑g0.1/\True))))/\(I.sup=I.sup/\True)))/\(∀ (g:Nat × Int),g.fst <= I.sup.length/\z1o (List.drop g.fst I.sup) g.snd=z1o I.sup (0:Int)/\-((4398046511104:Int) * (↑g.fst:Int)) <= g.snd/\g.snd <= (4398046511104:Int) * (↑g.fst:Int)->(decide ((↑g.1:Int)<↑I.sup.length)=true->((0:Int) <= ↑g.1/\((↑g.1:Int)<↑I.sup.length))/\((↑g.1:Int).toNat<I.sup.length/\(∀ (x:Int),I.sup[(↑g.1:Int).toNat]? = some x->(decide (x<(-4398046511104:Int))=true->((24:Int)=z02 I/\True)/\True)/\(decide (x<(-4398046511104:Int))=false->(decide (x > (4398046511104:Int))=true->((24:Int)=z02 I/\True)/\True)/\(decide (x > (4398046511104:Int))=false->∃ (g':Nat × Int),(g'.fst <= I.sup.length/\(z1o (List.drop g'.fst I.sup) g'.snd=z1o I.sup (0:Int)/\(-((4398046511104:Int) * (↑g'.fst:Int)) <= g'.snd/\(g'.snd <= (4398046511104:Int) * (↑g'.fst:Int)))))/\(I.sup.length - g'.fst<I.sup.length - g.fst/\((IntKind.i64.wrap (g.2+x)=g'.2/\(True/\((↑I.sup.length:Int)=↑I.sup.length/\(IntKind.i64.wrap ((↑g.1:Int)+(1:Int))=(↑g'.1:Int)/\True))))/\(I.sup=I.sup/\True))))))))/\(decide ((↑g.1:Int)<↑I.sup.length)=false->((g.2 != (0:Int))=true->((25:Int)=z02 I/\True)/\True)/\((g.2 != (0:Int))=false->((0:Int)=z02 I/\True)/\True))))))
theorem Right_q (I:Inst) (ty0 ty1:TypeId):Right_E0 I ty0 ty1=z2r TT Right_g (Right_I I) (Right_an I) Tryz.f58 [.agg [.row 0,.row 1]] [(0,.row false ty0 (.ints .i64 I.sup)),(1,.row false ty1 (.arcs I.arcs))] (Right_r I):=by kernel_rfl
theorem Right_E (I:Inst) (ty0 ty1:TypeId) (hp:True):FVc TT Right_g (Right_I I) (Right_an I) Tryz.f58 [.agg [.row 0,.row 1]] [(0,.row false ty0 (.ints .i64 I.sup)),(1,.row false ty1 (.arcs I.arcs))] (Right_r I):=by
 refine FVc.of (Right_E0 I ty0 ty1) (Right_q I ty0 ty1) ?_
 unfold Right_E0
 simp only [decide_eq_true_eq,decide_eq_false_iff_not,and_true,true_and,bne_iff_ne,ne_eq,bne_eq_false_iff_eq,Int.toNat_natCast,Bool.not_eq_true',Bool.not_eq_false']
 refine ⟨fun h=>by grind [z02],fun h1=>⟨fun h=>by grind [z02],fun h2=>⟨0,by simp,fun k hk=>⟨fun h3=>⟨by omega,by omega,fun x hx=>?_⟩,fun h3=>?_⟩⟩⟩⟩
 ·have hd:=z3i hx
  rw [hd] at hk
  refine ⟨fun h4=>by grind [z02,z16],fun h4=>⟨k+1,by grind [z16],by omega,w64 (by omega) (by omega)⟩⟩
 ·rw [z74 (by omega)] at hk
  have h0:z16 I.sup.length I.arcs=0:=hk.2.symm
  refine ⟨(0,0),by simp,fun g hg=>?_⟩
  obtain ⟨k,s⟩:=g
  dsimp only at hg ⊢
  refine ⟨fun h4=>⟨by omega,by omega,fun x hx=>?_⟩,fun h4=>?_⟩
  ·rw [z3i hx] at hg
   refine ⟨fun h5=>by grind [z02,z1o],fun h5=>⟨fun h6=>by grind [z02,z1o],fun h6=>⟨(k+1,s+x),?_,by dsimp only; omega,?_,?_⟩⟩⟩
   ·refine ⟨by dsimp only; omega,?_,by dsimp only; omega,by dsimp only; omega⟩
    grind [z1o]
   ·exact w64 (by omega) (by omega)
   ·exact w64 (by omega) (by omega)
  ·rw [z74 (by omega)] at hg
   grind [z02,z1o]
theorem Right_ok:SpecOk Tryz.prog Right_n true (z03 true zhr) :=
 z0b z0r (show z1c Tryz.prog Right_g from z00 rightArc_ok (z05)) (by kernel_rfl) mixedOrders Tryz.func58 rfl rfl (by kernel_rfl) (n:=1) (by decide +kernel) (I:=Right_IA) (fun _ _=>z06) (A:=Right_A)
  (fun args h r hr=>by
   unfold zhr at hr
   split at hr
   ·rename_i ty0 I_s ty1 I_a; cases hr; refine ⟨rfl,fun hp=>?_⟩; have hE:=Right_E ⟨I_s,I_a⟩ ty0 ty1 hp; exact hE
   ·cases hr)
def takeI_E0 (l : List Int) (ty0 : TypeId) : Prop :=
      ∃ (g0:Nat),
 (g0 <= l.length/\(True/\True/\True/\(↑l.length:Int)=(↑l.length:Int)/\(0:Int)=(↑g0:Int)/\True)/\[]=List.take g0 l/\l=l/\True) /\
 ∀ (g:Nat),
 g <= l.length ->
 (decide ((↑g:Int)<(↑l.length:Int))=true ->
 ((0:Int) <= (↑g:Int)/\(↑g:Int)<(↑l.length:Int)) /\
 (↑g:Int).toNat<l.length /\
 ∀ (x:Int),
 l[(↑g:Int).toNat]? = some x ->
 True /\
 (true=true ->
 (List.take g l).length+(1:Nat) <= (1000000000:Nat) /\
 ∃ (g':Nat),
 g' <= l.length /\
 l.length - g'<l.length - g /\
 (True/\True/\True/\(↑l.length:Int)=(↑l.length:Int)/\IntKind.i64.wrap ((↑g:Int)+(1:Int))=(↑g':Int)/\True) /\
 List.take g l ++ [x]=List.take g' l/\l=l/\True) /\
 (true=false ->
 ∃ (g':Nat),
 g' <= l.length /\
 l.length - g'<l.length - g /\
 (True/\True/\True/\(↑l.length:Int)=(↑l.length:Int)/\IntKind.i64.wrap ((↑g:Int)+(1:Int))=(↑g':Int)/\True) /\
 List.take g l=List.take g' l/\l=l/\True)) /\
 (decide ((↑g:Int)<(↑l.length:Int))=false->(True/\True)/\List.take g l=l/\True)
theorem takeI_q (l:List Int) (ty0:TypeId):takeI_E0 l ty0=z2r TT takeI_g (takeI_I l) (takeI_an l) Tryz.f136 [.row 0,.fn 137 []] [(0,.row false ty0 (.ints .i64 l))] (takeI_r l):=by kernel_rfl
theorem takeI_E (l:List Int) (ty0:TypeId) (hp:l.length <= 1000000000):FVc TT takeI_g (takeI_I l) (takeI_an l) Tryz.f136 [.row 0,.fn 137 []] [(0,.row false ty0 (.ints .i64 l))] (takeI_r l):=by
 refine FVc.of (takeI_E0 l ty0) (takeI_q l ty0) ?_
 unfold takeI_E0
 simp only [decide_eq_true_eq,decide_eq_false_iff_not,and_true,true_and,bne_iff_ne,ne_eq,bne_eq_false_iff_eq,Int.toNat_natCast,Bool.not_eq_true',Bool.not_eq_false']
 refine ⟨0,by simp,fun k hk=>⟨fun h1=>⟨by omega,by omega,fun x hx=>⟨fun _=>⟨by simp; omega,k+1,by omega,by omega,w64 (by omega) (by omega),?_⟩,fun h=>by simp at h⟩⟩,fun h1=>?_⟩⟩
 ·rw [z1b hx]
 ·rw [List.take_of_length_le (by omega)]
theorem takeI_ok:SpecOk Tryz.prog takeI_n true (z03 true takeI_fs) :=
 z0b z0r (show z1c Tryz.prog takeI_g from z00 CopyF1_ok (z05)) (by kernel_rfl) mixedOrders Tryz.func136 rfl rfl (by kernel_rfl) (n:=2) (by decide +kernel) (I:=takeI_IA) (fun _ _=>z06) (A:=takeI_A)
  (fun args h r hr=>by
   unfold takeI_fs at hr
   split at hr
   ·rename_i ty0 l; cases hr; refine ⟨rfl,fun hp=>?_⟩; have hE:=takeI_E l ty0 hp; exact hE
   ·cases hr)
def takeA_E0 (l : List Arc) (ty0 : TypeId) : Prop :=
      ∃ (g0:Nat),
 (g0 <= l.length/\(True/\True/\True/\(↑l.length:Int)=(↑l.length:Int)/\(0:Int)=(↑g0:Int)/\True)/\[]=List.take g0 l/\l=l/\True) /\
 ∀ (g:Nat),
 g <= l.length ->
 (decide ((↑g:Int)<(↑l.length:Int))=true ->
 ((0:Int) <= (↑g:Int)/\(↑g:Int)<(↑l.length:Int)) /\
 (↑g:Int).toNat<l.length /\
 ∀ (x:Arc),
 l[(↑g:Int).toNat]? = some x ->
 True /\
 (true=true ->
 (List.take g l).length+(1:Nat) <= (1000000000:Nat) /\
 ∃ (g':Nat),
 g' <= l.length /\
 l.length - g'<l.length - g /\
 (True/\True/\True/\(↑l.length:Int)=(↑l.length:Int)/\IntKind.i64.wrap ((↑g:Int)+(1:Int))=(↑g':Int)/\True) /\
 List.take g l ++ [x]=List.take g' l/\l=l/\True) /\
 (true=false ->
 ∃ (g':Nat),
 g' <= l.length /\
 l.length - g'<l.length - g /\
 (True/\True/\True/\(↑l.length:Int)=(↑l.length:Int)/\IntKind.i64.wrap ((↑g:Int)+(1:Int))=(↑g':Int)/\True) /\
 List.take g l=List.take g' l/\l=l/\True)) /\
 (decide ((↑g:Int)<(↑l.length:Int))=false->(True/\True)/\List.take g l=l/\True)
theorem takeA_q (l:List Arc) (ty0:TypeId):takeA_E0 l ty0=z2r TT takeA_g (takeA_I l) (takeA_an l) Tryz.f138 [.row 0,.fn 139 []] [(0,.row false ty0 (.arcs l))] (takeA_r l):=by kernel_rfl
theorem takeA_E (l:List Arc) (ty0:TypeId) (hp:l.length <= 1000000000):FVc TT takeA_g (takeA_I l) (takeA_an l) Tryz.f138 [.row 0,.fn 139 []] [(0,.row false ty0 (.arcs l))] (takeA_r l):=by
 refine FVc.of (takeA_E0 l ty0) (takeA_q l ty0) ?_
 unfold takeA_E0
 simp only [decide_eq_true_eq,decide_eq_false_iff_not,and_true,true_and,bne_iff_ne,ne_eq,bne_eq_false_iff_eq,Int.toNat_natCast,Bool.not_eq_true',Bool.not_eq_false']
 refine ⟨0,by simp,fun k hk=>⟨fun h1=>⟨by omega,by omega,fun x hx=>⟨fun _=>⟨by simp; omega,k+1,by omega,by omega,w64 (by omega) (by omega),?_⟩,fun h=>by simp at h⟩⟩,fun h1=>?_⟩⟩
 ·rw [z1b hx]
 ·rw [List.take_of_length_le (by omega)]
theorem takeA_ok:SpecOk Tryz.prog takeA_n true (z03 true takeA_fs) :=
 z0b z0r (show z1c Tryz.prog takeA_g from z00 CopyF2_ok (z05)) (by kernel_rfl) mixedOrders Tryz.func138 rfl rfl (by kernel_rfl) (n:=2) (by decide +kernel) (I:=takeA_IA) (fun _ _=>z06) (A:=takeA_A)
  (fun args h r hr=>by
   unfold takeA_fs at hr
   split at hr
   ·rename_i ty0 l; cases hr; refine ⟨rfl,fun hp=>?_⟩; have hE:=takeA_E l ty0 hp; exact hE
   ·cases hr)
end Go.Proofs.YtggblkbecekbdaaGreat
end
section
namespace Go.Proofs.YtggblkbecekbdaaGreat
open Go Go.RowKit Go.Ql Go.Vc
def z4r (n:Int):List Int->Nat->Int
 | [],_=>-1
 | x :: r,k=>if x=n then k else z4r n r (k+1)
def rin_r (n:Int):FRes:={ pre:=True,res:=.bool (decide (-4398046511104 <= n) && decide (n <= 4398046511104)),rows:=[],eff:=[] }
def rin_fs:FS:=fun args h=>match args,h with
 | [.int .i64 n],[]=>some (rin_r n)
 | _,_=>none
def rin_an (n:Int):List (Nat × Ann):=[]
def rin_A:List SV->z0d->List (Nat × Ann):=fun _ _=>[]
def rin_g:z0c:=[]
abbrev rin_n:Nat:=41
def rin_I (n:Int):List (Nat × z08):=[]
def rin_IA:List SV->z0d->List (Nat × z08):=fun _ _=>[]
def rarc_r (x:Arc) (m:Int):FRes:={ pre:=True,res:=.int .i64 (z0f x m),rows:=[],eff:=[] }
def rarc_fs:FS:=fun args h=>match args,h with
 | [.agg [.int .i64 x_0,.int .i64 x_1,.int .i64 x_2,.int .i64 x_3,.int .i64 x_4],.int .i64 m],[]=>some (rarc_r ⟨x_0,x_1,x_2,x_3,x_4⟩ m)
 | _,_=>none
def rarc_an (x:Arc) (m:Int):List (Nat × Ann):=[]
def rarc_A:List SV->z0d->List (Nat × Ann):=fun _ _=>[]
def rarc_g:z0c:=[(rin_n,(true,z03 true rin_fs))]
abbrev rarc_n:Nat:=40
def rarc_I (x:Arc) (m:Int):List (Nat × z08):=[]
def rarc_IA:List SV->z0d->List (Nat × z08):=fun _ _=>[]
def rRight_r (I:Inst):FRes:={ pre:=True,res:=.int .i64 (z02 I),rows:=[],eff:=[] }
def z5o:FS:=fun args h=>match args,h with
 | [.agg [.row 0,.row 1]],[(0,.row false ty0 (.ints .i64 I_s)),(1,.row false ty1 (.arcs I_a))]=>some (rRight_r ⟨I_s,I_a⟩)
 | _,_=>none
def zm0 (I:Inst):List (Nat × Ann):=[(4,{ G:=(Nat),inv:=fun k=>⟨[(1,.ptr 2 0 0 0),(3,.int .i64 k)],[(2,.box true 25 [.row 0,.row 1]),(0,.row false 0 (.ints .i64 I.sup)),(1,.row false 0 (.arcs I.arcs))],3⟩,rel:=fun k0 k=>k <= I.arcs.length/\z16 I.sup.length (I.arcs.drop k)=z16 I.sup.length I.arcs,meas:=fun k=>I.arcs.length - k }),
 (11,{ G:=(Nat) × (Int),inv:=fun ⟨k,s⟩=>⟨[(1,.ptr 2 0 0 0),(5,.int .i64 s),(6,.int .i64 k)],[(2,.box true 25 [.row 0,.row 1]),(0,.row false 0 (.ints .i64 I.sup)),(1,.row false 0 (.arcs I.arcs))],3⟩,rel:=fun ⟨k0,s0⟩ ⟨k,s⟩=>k <= I.sup.length/\z1o (I.sup.drop k) s=z1o I.sup 0/\-(4398046511104 * (k:Int)) <= s/\s <= 4398046511104 * (k:Int),meas:=fun ⟨k,s⟩=>I.sup.length - k })]
def rRight_A:List SV->z0d->List (Nat × Ann):=fun args h=>match args,h with
 | [.agg [.row 0,.row 1]],[(0,.row false ty0 (.ints .i64 I_s)),(1,.row false ty1 (.arcs I_a))]=>zm0 ⟨I_s,I_a⟩
 | _,_=>[]
def rRight_g:z0c:=[(rin_n,(true,z03 true rin_fs)),(rarc_n,(true,z03 true rarc_fs))]
abbrev z8p:Nat:=9
def rRight_I (I:Inst):List (Nat × z08):=[]
def rRight_IA:List SV->z0d->List (Nat × z08):=fun _ _=>[]
def Nums_r (xs:List Int) (ys:List Int):FRes:={ pre:=xs.length <= 1000000000,res:=.bool (decide (xs=ys)),rows:=[],eff:=[] }
def Nums_fs:FS:=fun args h=>match args,h with
 | [.row 0,.row 1],[(0,.row false ty0 (.ints .i64 xs)),(1,.row false ty1 (.ints .i64 ys))]=>some (Nums_r xs ys)
 | _,_=>none
def Nums_an (xs:List Int) (ys:List Int):List (Nat × Ann):=[(4,{ G:=(Nat),inv:=fun k=>⟨[(0,.row 0),(1,.row 1),(5,.int .i64 k)],[(0,.row false 0 (.ints .i64 xs)),(1,.row false 0 (.ints .i64 ys))],2⟩,rel:=fun k0 k=>k <= xs.length/\xs.take k=ys.take k,meas:=fun k=>xs.length - k })]
def Nums_A:List SV->z0d->List (Nat × Ann):=fun args h=>match args,h with
 | [.row 0,.row 1],[(0,.row false ty0 (.ints .i64 xs)),(1,.row false ty1 (.ints .i64 ys))]=>Nums_an xs ys
 | _,_=>[]
def Nums_g:z0c:=[]
abbrev Nums_n:Nat:=78
def Nums_I (xs:List Int) (ys:List Int):List (Nat × z08):=[]
def Nums_IA:List SV->z0d->List (Nat × z08):=fun _ _=>[]
def Ints_r (xs:List Int) (ys:List Int):FRes:={ pre:=xs.length <= 1000000000,res:=.bool (decide (xs=ys)),rows:=[],eff:=[] }
def Ints_fs:FS:=fun args h=>match args,h with
 | [.row 0,.row 1],[(0,.row false ty0 (.ints .i64 xs)),(1,.row false ty1 (.ints .i64 ys))]=>some (Ints_r xs ys)
 | _,_=>none
def Ints_an (xs:List Int) (ys:List Int):List (Nat × Ann):=[(4,{ G:=(Nat),inv:=fun k=>⟨[(0,.row 0),(1,.row 1),(5,.int .i64 k)],[(0,.row false 0 (.ints .i64 xs)),(1,.row false 0 (.ints .i64 ys))],2⟩,rel:=fun k0 k=>k <= xs.length/\xs.take k=ys.take k,meas:=fun k=>xs.length - k })]
def Ints_A:List SV->z0d->List (Nat × Ann):=fun args h=>match args,h with
 | [.row 0,.row 1],[(0,.row false ty0 (.ints .i64 xs)),(1,.row false ty1 (.ints .i64 ys))]=>Ints_an xs ys
 | _,_=>[]
def Ints_g:z0c:=[]
abbrev Ints_n:Nat:=80
def Ints_I (xs:List Int) (ys:List Int):List (Nat × z08):=[]
def Ints_IA:List SV->z0d->List (Nat × z08):=fun _ _=>[]
def Off_r (l:List Bool) (k:Int):FRes:={ pre:=0 <= k,res:=.bool (l.getD k.toNat false),rows:=[],eff:=[] }
def Off_fs:FS:=fun args h=>match args,h with
 | [.row 0,.int .i64 k],[(0,.row false ty0 (.bools l))]=>some (Off_r l k)
 | _,_=>none
def Off_an (l:List Bool) (k:Int):List (Nat × Ann):=[]
def Off_A:List SV->z0d->List (Nat × Ann):=fun _ _=>[]
def Off_g:z0c:=[]
abbrev Off_n:Nat:=68
def Off_I (l:List Bool) (k:Int):List (Nat × z08):=[]
def Off_IA:List SV->z0d->List (Nat × z08):=fun _ _=>[]
def Place_r (l:List Int) (n:Int):FRes:={ pre:=l.length <= 1000000000,res:=.int .i64 (z4r n l 0),rows:=[],eff:=[] }
def Place_fs:FS:=fun args h=>match args,h with
 | [.row 0,.int .i64 n],[(0,.row false ty0 (.ints .i64 l))]=>some (Place_r l n)
 | _,_=>none
def Place_an (l:List Int) (n:Int):List (Nat × Ann):=[(2,{ G:=(Nat),inv:=fun k=>⟨[(0,.row 0),(1,.int .i64 n),(5,.int .i64 k)],[(0,.row false 0 (.ints .i64 l))],1⟩,rel:=fun k0 k=>k <= l.length/\z4r n (l.drop k) k=z4r n l 0,meas:=fun k=>l.length - k })]
def Place_A:List SV->z0d->List (Nat × Ann):=fun args h=>match args,h with
 | [.row 0,.int .i64 n],[(0,.row false ty0 (.ints .i64 l))]=>Place_an l n
 | _,_=>[]
def Place_g:z0c:=[]
abbrev Place_n:Nat:=147
def Place_I (l:List Int) (n:Int):List (Nat × z08):=[]
def Place_IA:List SV->z0d->List (Nat × z08):=fun _ _=>[]
def Copy_r (I:Inst):FRes:={ pre:=I.sup.length <= 1000000000/\I.arcs.length <= 1000000000,res:=.agg [.row 2,.row 3],rows:=[.row 2 (.ints .i64 (I).sup),.row 35 (.arcs (I).arcs)],eff:=[] }
def Copy_fs:FS:=fun args h=>match args,h with
 | [.agg [.row 0,.row 1]],[(0,.row false ty0 (.ints .i64 I_s)),(1,.row false ty1 (.arcs I_a))]=>some (Copy_r ⟨I_s,I_a⟩)
 | _,_=>none
def Copy_an (I:Inst):List (Nat × Ann):=[]
def Copy_A:List SV->z0d->List (Nat × Ann):=fun _ _=>[]
def Copy_g:z0c:=[(takeI_n,(true,z03 true takeI_fs)),(takeA_n,(true,z03 true takeA_fs))]
abbrev Copy_n:Nat:=82
def Copy_I (I:Inst):List (Nat × z08):=[]
def Copy_IA:List SV->z0d->List (Nat × z08):=fun _ _=>[]
def Size_r (I:Inst):FRes:={ pre:=I.sup.length <= 1000000000000000000/\I.arcs.length <= 1000000000000000000,res:=.int .i64 (I.sup.length+2 * I.arcs.length),rows:=[],eff:=[] }
def Size_fs:FS:=fun args h=>match args,h with
 | [.agg [.row 0,.row 1]],[(0,.row false ty0 (.ints .i64 I_s)),(1,.row false ty1 (.arcs I_a))]=>some (Size_r ⟨I_s,I_a⟩)
 | _,_=>none
def Size_an (I:Inst):List (Nat × Ann):=[]
def Size_A:List SV->z0d->List (Nat × Ann):=fun _ _=>[]
def Size_g:z0c:=[]
abbrev Size_n:Nat:=8
def Size_I (I:Inst):List (Nat × z08):=[]
def Size_IA:List SV->z0d->List (Nat × z08):=fun _ _=>[]
def Arcs_r (c:List Int) (many:Int):FRes:={ pre:=Bytes c/\1 <= many/\many <= 1000,res:=.row 1,rows:=[.row 35 (.arcs (z24 c many))],eff:=[] }
def Arcs_fs:FS:=fun args h=>match args,h with
 | [.row 0,.int .i64 many],[(0,.row false ty0 (.ints .u8 c))]=>some (Arcs_r c many)
 | _,_=>none
def Arcs_an (c:List Int) (many:Int):List (Nat × Ann):=[(3,{ G:=(Nat) × (List Arc),inv:=fun ⟨k,l⟩=>⟨[(0,.row 0),(1,.int .i64 many),(5,.row 2),(6,.int .i64 (4 * (k:Int)))],[(2,.row true 35 (.arcs l)),(0,.row false 0 (.ints .u8 c))],3⟩,rel:=fun ⟨k0,l0⟩ ⟨k,l⟩=>k <= 18/\l.length <= k/\l ++ z5x c many (18 - k) (4 * k)=z24 c many,meas:=fun ⟨k,l⟩=>18 - k })]
def Arcs_A:List SV->z0d->List (Nat × Ann):=fun args h=>match args,h with
 | [.row 0,.int .i64 many],[(0,.row false ty0 (.ints .u8 c))]=>Arcs_an c many
 | _,_=>[]
def Arcs_g:z0c:=[]
abbrev Arcs_n:Nat:=49
def Arcs_I (c:List Int) (many:Int):List (Nat × z08):=[]
def Arcs_IA:List SV->z0d->List (Nat × z08):=fun _ _=>[]
def rin_E0 (n : Int) : Prop :=
      (decide (n ≥ (-4398046511104:Int))=true->(decide (n <= (4398046511104:Int))=(decide ((-4398046511104:Int) <= n) && decide (n <= (4398046511104:Int)))/\True)/\True) /\
 (decide (n ≥ (-4398046511104:Int))=false->(false=(decide ((-4398046511104:Int) <= n) && decide (n <= (4398046511104:Int)))/\True)/\True)
theorem rin_q (n:Int):rin_E0 n=z2r TT rin_g (rin_I n) (rin_an n) Tryz.f41 [.int .i64 n] [] (rin_r n):=by kernel_rfl
theorem rin_E (n:Int) (hp:True):FVc TT rin_g (rin_I n) (rin_an n) Tryz.f41 [.int .i64 n] [] (rin_r n):=by
 refine FVc.of (rin_E0 n) (rin_q n) ?_
 unfold rin_E0
 simp; grind
theorem rin_ok:SpecOk Tryz.prog rin_n true (z03 true rin_fs) :=
 z0b z0r (show z1c Tryz.prog rin_g from z05) (by kernel_rfl) mixedOrders Tryz.func41 rfl rfl (by kernel_rfl) (n:=1) (by decide +kernel) (I:=rin_IA) (fun _ _=>z06) (A:=rin_A)
  (fun args h r hr=>by
   unfold rin_fs at hr
   split at hr
   ·rename_i n; cases hr; refine ⟨rfl,fun hp=>?_⟩; have hE:=rin_E n hp; exact hE
   ·cases hr)
def rarc_E0 (x : Arc) (m : Int) : Prop :=
      (decide (x.src<(0:Int))=true->((21:Int)=z0f x m/\True)/\True) /\
 (decide (x.src<(0:Int))=false ->
 (decide (x.src ≥ m)=true->((21:Int)=z0f x m/\True)/\True) /\
 (decide (x.src ≥ m)=false ->
 (decide (x.dst<(0:Int))=true->((21:Int)=z0f x m/\True)/\True) /\
 (decide (x.dst<(0:Int))=false ->
 (decide (x.dst ≥ m)=true->((21:Int)=z0f x m/\True)/\True) /\
 (decide (x.dst ≥ m)=false ->
 (decide (x.low<(0:Int))=true->((22:Int)=z0f x m/\True)/\True) /\
 (decide (x.low<(0:Int))=false ->
 (decide (x.low > (4398046511104:Int))=true->((22:Int)=z0f x m/\True)/\True) /\
 (decide (x.low > (4398046511104:Int))=false ->
 ((x.cap != (4611686018427387904:Int))=true ->
 (decide (x.cap<x.low)=true->((22:Int)=z0f x m/\True)/\True) /\
 (decide (x.cap<x.low)=false ->
 (decide (x.cap > (4398046511104:Int))=true->((22:Int)=z0f x m/\True)/\True) /\
 (decide (x.cap > (4398046511104:Int))=false ->
 True /\
 ((!(decide ((-4398046511104:Int) <= x.cost) && decide (x.cost <= (4398046511104:Int))))=true ->
 ((23:Int)=z0f x m/\True)/\True) /\
 ((!(decide ((-4398046511104:Int) <= x.cost) && decide (x.cost <= (4398046511104:Int))))=false ->
 ((0:Int)=z0f x m/\True)/\True)))) /\
 ((x.cap != (4611686018427387904:Int))=false ->
 True /\
 ((!(decide ((-4398046511104:Int) <= x.cost) && decide (x.cost <= (4398046511104:Int))))=true->((23:Int)=z0f x m/\True)/\True) /\
 ((!(decide ((-4398046511104:Int) <= x.cost) && decide (x.cost <= (4398046511104:Int))))=false ->
 ((0:Int)=z0f x m/\True)/\True))))))))
theorem rarc_q (x:Arc) (m:Int):rarc_E0 x m=z2r TT rarc_g (rarc_I x m) (rarc_an x m) Tryz.f40 [.agg (z7i x),.int .i64 m] [] (rarc_r x m):=by kernel_rfl
theorem rarc_E (x:Arc) (m:Int) (hp:True):FVc TT rarc_g (rarc_I x m) (rarc_an x m) Tryz.f40 [.agg (z7i x),.int .i64 m] [] (rarc_r x m):=by
 refine FVc.of (rarc_E0 x m) (rarc_q x m) ?_
 unfold rarc_E0
 simp; unfold z0f; grind
theorem rarc_ok:SpecOk Tryz.prog rarc_n true (z03 true rarc_fs) :=
 z0b z0r (show z1c Tryz.prog rarc_g from z00 rin_ok (z05)) (by kernel_rfl) mixedOrders Tryz.func40 rfl rfl (by kernel_rfl) (n:=2) (by decide +kernel) (I:=rarc_IA) (fun _ _=>z06) (A:=rarc_A)
  (fun args h r hr=>by
   unfold rarc_fs at hr
   split at hr
   ·rename_i x_0 x_1 x_2 x_3 x_4 m; cases hr; refine ⟨rfl,fun hp=>?_⟩; have hE:=rarc_E ⟨x_0,x_1,x_2,x_3,x_4⟩ m hp; exact hE
   ·cases hr)
abbrev za0 (I:Inst):=((True/\(True/\True))/\(I.sup=I.sup/\(I.arcs=I.arcs/\True)))
def zlz (I : Inst) (ty0 ty1 : TypeId) : Prop :=
   (decide ((↑I.sup.length:Int) > 64)=true->((20:Int)=z02 I/\True)/\True)/\(decide ((↑I.sup.length:Int) > 64)=false->(decide ((↑I.arcs.length:Int) > 256)=true->((20:Int)=z02 I/\True)/\True)/\(decide ((↑I.arcs.length:Int) > 256)=false->∃ (g0:Nat),((g0 <= I.arcs.length/\(z16 (↑I.sup.length:Int) (List.drop g0 I.arcs)=z16 (↑I.sup.length:Int) I.arcs))/\((0=0/\((0:Int)=↑g0/\True))/\(za0 I)))/\∀ (g:Nat),g <= I.arcs.length/\z16 (↑I.sup.length:Int) (List.drop g I.arcs)=z16 (↑I.sup.length:Int) I.arcs->(decide ((↑g:Int)<↑I.arcs.length)=true->((0:Int) <= ↑g/\((↑g:Int)<↑I.arcs.length))/\((↑g:Int).toNat<I.arcs.length/\(∀ (x:Arc),I.arcs[(↑g:Int).toNat]? = some x->True/\(((z0f x (↑I.sup.length:Int) != (0:Int))=true->(z0f x (↑I.sup.length:Int)=z02 I/\True)/\True)/\((z0f x (↑I.sup.length:Int) != (0:Int))=false->∃ (g':Nat),(g' <= I.arcs.length/\(z16 (↑I.sup.length:Int) (List.drop g' I.arcs)=z16 (↑I.sup.length:Int) I.arcs))/\(I.arcs.length - g'<I.arcs.length - g/\((0=0/\(IntKind.i64.wrap ((↑g:Int)+(1:Int))=(↑g':Int)/\True))/\(za0 I))))))))/\(decide ((↑g:Int)<↑I.arcs.length)=false->∃ (g0:Nat × Int),((g0.fst <= I.sup.length/\(z1o (List.drop g0.fst I.sup) g0.snd=z1o I.sup (0:Int)/\(-((4398046511104:Int) * (↑g0.fst:Int)) <= g0.snd/\(g0.snd <= (4398046511104:Int) * (↑g0.fst:Int)))))/\((0=0/\((0:Int)=g0.2/\((0:Int)=↑g0.1/\True)))/\(za0 I)))/\(∀ (g:Nat × Int),g.fst <= I.sup.length/\z1o (List.drop g.fst I.sup) g.snd=z1o I.sup (0:Int)/\-((4398046511104:Int) * (↑g.fst:Int)) <= g.snd/\g.snd <= (4398046511104:Int) * (↑g.fst:Int)->(decide ((↑g.1:Int)<↑I.sup.length)=true->((0:Int) <= ↑g.1/\((↑g.1:Int)<↑I.sup.length))/\((↑g.1:Int).toNat<I.sup.length/\(∀ (x:Int),I.sup[(↑g.1:Int).toNat]? = some x->True/\(((!(decide ((-4398046511104:Int) <= x) && decide (x <= (4398046511104:Int))))=true->((24:Int)=z02 I/\True)/\True)/\((!(decide ((-4398046511104:Int) <= x) && decide (x <= (4398046511104:Int))))=false->((0:Int) <= ↑g.1/\((↑g.1:Int)<↑I.sup.length))/\((↑g.1:Int).toNat<I.sup.length/\(∀ (x:Int),I.sup[(↑g.1:Int).toNat]? = some x->∃ (g':Nat × Int),(g'.fst <= I.sup.length/\(z1o (List.drop g'.fst I.sup) g'.snd=z1o I.sup (0:Int)/\(-((4398046511104:Int) * (↑g'.fst:Int)) <= g'.snd/\(g'.snd <= (4398046511104:Int) * (↑g'.fst:Int)))))/\(I.sup.length - g'.fst<I.sup.length - g.fst/\((0=0/\(IntKind.i64.wrap (g.2+x)=g'.2/\(IntKind.i64.wrap ((↑g.1:Int)+(1:Int))=(↑g'.1:Int)/\True)))/\(za0 I))))))))))/\(decide ((↑g.1:Int)<↑I.sup.length)=false->((g.2 != (0:Int))=true->((25:Int)=z02 I/\True)/\True)/\((g.2 != (0:Int))=false->((0:Int)=z02 I/\True)/\True))))))
theorem rRight_q (I:Inst) (ty0 ty1:TypeId):zlz I ty0 ty1=z2r TT rRight_g (rRight_I I) (zm0 I) Tryz.f9 [.agg [.row 0,.row 1]] [(0,.row false ty0 (.ints .i64 I.sup)),(1,.row false ty1 (.arcs I.arcs))] (rRight_r I):=by kernel_rfl
theorem rRight_E (I:Inst) (ty0 ty1:TypeId) (hp:True):FVc TT rRight_g (rRight_I I) (zm0 I) Tryz.f9 [.agg [.row 0,.row 1]] [(0,.row false ty0 (.ints .i64 I.sup)),(1,.row false ty1 (.arcs I.arcs))] (rRight_r I):=by
 refine FVc.of (zlz I ty0 ty1) (rRight_q I ty0 ty1) ?_
 unfold zlz
 delta za0
 simp only [eq_self,ne_eq,Int.toNat_natCast,zSS]
 refine ⟨fun h=>by grind [z02],fun h1=>⟨fun h=>by grind [z02],fun h2=>⟨0,by simp,fun k hk=>⟨fun h3=>⟨by omega,by omega,fun x hx=>?_⟩,fun h3=>?_⟩⟩⟩⟩
 ·have hd:=z3i hx
  rw [hd] at hk
  refine ⟨fun h4=>by grind [z02,z16],fun h4=>⟨k+1,by grind [z16],by omega,w64 (by omega) (by omega)⟩⟩
 ·rw [z74 (by omega)] at hk
  have h0:z16 I.sup.length I.arcs=0:=hk.2.symm
  refine ⟨(0,0),by simp,fun g hg=>?_⟩
  obtain ⟨k,s⟩:=g
  dsimp only at hg ⊢
  refine ⟨fun h4=>⟨by omega,by omega,fun x hx=>?_⟩,fun h4=>?_⟩
  ·rw [z3i hx] at hg
   refine ⟨fun h5=>by grind [z02,z1o],fun h5=>⟨by omega,by omega,fun y hy=>?_⟩⟩
   rw [hx] at hy
   cases hy
   simp at h5
   refine ⟨(k+1,s+x),?_,by dsimp only; omega,?_,?_⟩
   ·refine ⟨by dsimp only; omega,?_,by dsimp only; omega,by dsimp only; omega⟩
    grind [z1o]
   ·exact w64 (by omega) (by omega)
   ·exact w64 (by omega) (by omega)
  ·rw [z74 (by omega)] at hg
   grind [z02,z1o]
theorem z7q:SpecOk Tryz.prog z8p true (z03 true z5o) :=
 z0b z0r (show z1c Tryz.prog rRight_g from z00 rin_ok (z00 rarc_ok (z05))) (by kernel_rfl) mixedOrders Tryz.func9 rfl rfl (by kernel_rfl) (n:=1) (by decide +kernel) (I:=rRight_IA) (fun _ _=>z06) (A:=rRight_A)
  (fun args h r hr=>by
   unfold z5o at hr
   split at hr
   ·rename_i ty0 I_s ty1 I_a; cases hr; refine ⟨rfl,fun hp=>?_⟩; have hE:=rRight_E ⟨I_s,I_a⟩ ty0 ty1 hp; exact hE
   ·cases hr)
def Nums_E0 (xs : List Int) (ys : List Int) (ty0 ty1 : TypeId) : Prop :=
      (((↑xs.length:Int) != (↑ys.length:Int))=true->(false=decide (xs=ys)/\True)/\True) /\
 (((↑xs.length:Int) != (↑ys.length:Int))=false ->
 ∃ (g0:Nat),
 ((g0 <= xs.length/\List.take g0 xs=List.take g0 ys)/\(True/\True/\(0:Int)=(↑g0:Int)/\True)/\xs=xs/\ys=ys/\True) /\
 ∀ (g:Nat),
 g <= xs.length/\List.take g xs=List.take g ys ->
 (decide ((↑g:Int)<(↑xs.length:Int))=true ->
 ((0:Int) <= (↑g:Int)/\(↑g:Int)<(↑xs.length:Int)) /\
 (↑g:Int).toNat<xs.length /\
 ∀ (x:Int),
 xs[(↑g:Int).toNat]? = some x ->
 ((0:Int) <= (↑g:Int)/\(↑g:Int)<(↑ys.length:Int)) /\
 (↑g:Int).toNat<ys.length /\
 ∀ (x_1:Int),
 ys[(↑g:Int).toNat]? = some x_1 ->
 ((x != x_1)=true->(false=decide (xs=ys)/\True)/\True) /\
 ((x != x_1)=false ->
 ∃ (g':Nat),
 (g' <= xs.length/\List.take g' xs=List.take g' ys) /\
 xs.length - g'<xs.length - g /\
 (True/\True/\IntKind.i64.wrap ((↑g:Int)+(1:Int))=(↑g':Int)/\True)/\xs=xs/\ys=ys/\True)) /\
 (decide ((↑g:Int)<(↑xs.length:Int))=false->(true=decide (xs=ys)/\True)/\True))
theorem Nums_q (xs:List Int) (ys:List Int) (ty0 ty1:TypeId):Nums_E0 xs ys ty0 ty1=z2r TT Nums_g (Nums_I xs ys) (Nums_an xs ys) Tryz.f78 [.row 0,.row 1] [(0,.row false ty0 (.ints .i64 xs)),(1,.row false ty1 (.ints .i64 ys))] (Nums_r xs ys):=by kernel_rfl
theorem Nums_E (xs:List Int) (ys:List Int) (ty0 ty1:TypeId) (hp:xs.length <= 1000000000):FVc TT Nums_g (Nums_I xs ys) (Nums_an xs ys) Tryz.f78 [.row 0,.row 1] [(0,.row false ty0 (.ints .i64 xs)),(1,.row false ty1 (.ints .i64 ys))] (Nums_r xs ys):=by
 refine FVc.of (Nums_E0 xs ys ty0 ty1) (Nums_q xs ys ty0 ty1) ?_
 unfold Nums_E0
 simp only [eq_self,ne_eq,Int.toNat_natCast,zSS]
 refine ⟨fun h=>?_,fun h1=>⟨0,by simp,fun k hk=>⟨fun h2=>⟨by omega,by omega,fun x hx=>⟨by omega,by omega,fun y hy=>?_⟩⟩,fun h2=>?_⟩⟩⟩
 ·exact (decide_eq_false (fun e=>h (by rw [e]))).symm
 ·refine ⟨fun h3=>(decide_eq_false (fun e=>?_)).symm,fun h3=>⟨k+1,⟨by omega,?_⟩,by omega,w64 (by omega) (by omega)⟩⟩
  ·subst e; rw [hx] at hy; cases hy; exact h3 rfl
  ·rw [z1b hx,z1b hy,hk.2,h3]
 ·have h3:=hk.2
  rw [List.take_of_length_le (by omega),List.take_of_length_le (by omega)] at h3
  exact (decide_eq_true h3).symm
theorem Nums_ok:SpecOk Tryz.prog Nums_n true (z03 true Nums_fs) :=
 z0b z0r (show z1c Tryz.prog Nums_g from z05) (by kernel_rfl) mixedOrders Tryz.func78 rfl rfl (by kernel_rfl) (n:=2) (by decide +kernel) (I:=Nums_IA) (fun _ _=>z06) (A:=Nums_A)
  (fun args h r hr=>by
   unfold Nums_fs at hr
   split at hr
   ·rename_i ty0 xs ty1 ys; cases hr; refine ⟨rfl,fun hp=>?_⟩; have hE:=Nums_E xs ys ty0 ty1 hp; exact hE
   ·cases hr)
def Ints_E0 (xs : List Int) (ys : List Int) (ty0 ty1 : TypeId) : Prop :=
      (((↑xs.length:Int) != (↑ys.length:Int))=true->(false=decide (xs=ys)/\True)/\True) /\
 (((↑xs.length:Int) != (↑ys.length:Int))=false ->
 ∃ (g0:Nat),
 ((g0 <= xs.length/\List.take g0 xs=List.take g0 ys)/\(True/\True/\(0:Int)=(↑g0:Int)/\True)/\xs=xs/\ys=ys/\True) /\
 ∀ (g:Nat),
 g <= xs.length/\List.take g xs=List.take g ys ->
 (decide ((↑g:Int)<(↑xs.length:Int))=true ->
 ((0:Int) <= (↑g:Int)/\(↑g:Int)<(↑xs.length:Int)) /\
 (↑g:Int).toNat<xs.length /\
 ∀ (x:Int),
 xs[(↑g:Int).toNat]? = some x ->
 ((0:Int) <= (↑g:Int)/\(↑g:Int)<(↑ys.length:Int)) /\
 (↑g:Int).toNat<ys.length /\
 ∀ (x_1:Int),
 ys[(↑g:Int).toNat]? = some x_1 ->
 ((x != x_1)=true->(false=decide (xs=ys)/\True)/\True) /\
 ((x != x_1)=false ->
 ∃ (g':Nat),
 (g' <= xs.length/\List.take g' xs=List.take g' ys) /\
 xs.length - g'<xs.length - g /\
 (True/\True/\IntKind.i64.wrap ((↑g:Int)+(1:Int))=(↑g':Int)/\True)/\xs=xs/\ys=ys/\True)) /\
 (decide ((↑g:Int)<(↑xs.length:Int))=false->(true=decide (xs=ys)/\True)/\True))
theorem Ints_q (xs:List Int) (ys:List Int) (ty0 ty1:TypeId):Ints_E0 xs ys ty0 ty1=z2r TT Ints_g (Ints_I xs ys) (Ints_an xs ys) Tryz.f80 [.row 0,.row 1] [(0,.row false ty0 (.ints .i64 xs)),(1,.row false ty1 (.ints .i64 ys))] (Ints_r xs ys):=by kernel_rfl
theorem Ints_E (xs:List Int) (ys:List Int) (ty0 ty1:TypeId) (hp:xs.length <= 1000000000):FVc TT Ints_g (Ints_I xs ys) (Ints_an xs ys) Tryz.f80 [.row 0,.row 1] [(0,.row false ty0 (.ints .i64 xs)),(1,.row false ty1 (.ints .i64 ys))] (Ints_r xs ys):=by
 refine FVc.of (Ints_E0 xs ys ty0 ty1) (Ints_q xs ys ty0 ty1) ?_
 unfold Ints_E0
 simp only [eq_self,ne_eq,Int.toNat_natCast,zSS]
 refine ⟨fun h=>?_,fun h1=>⟨0,by simp,fun k hk=>⟨fun h2=>⟨by omega,by omega,fun x hx=>⟨by omega,by omega,fun y hy=>?_⟩⟩,fun h2=>?_⟩⟩⟩
 ·exact (decide_eq_false (fun e=>h (by rw [e]))).symm
 ·refine ⟨fun h3=>(decide_eq_false (fun e=>?_)).symm,fun h3=>⟨k+1,⟨by omega,?_⟩,by omega,w64 (by omega) (by omega)⟩⟩
  ·subst e; rw [hx] at hy; cases hy; exact h3 rfl
  ·rw [z1b hx,z1b hy,hk.2,h3]
 ·have h3:=hk.2
  rw [List.take_of_length_le (by omega),List.take_of_length_le (by omega)] at h3
  exact (decide_eq_true h3).symm
theorem Ints_ok:SpecOk Tryz.prog Ints_n true (z03 true Ints_fs) :=
 z0b z0r (show z1c Tryz.prog Ints_g from z05) (by kernel_rfl) mixedOrders Tryz.func80 rfl rfl (by kernel_rfl) (n:=2) (by decide +kernel) (I:=Ints_IA) (fun _ _=>z06) (A:=Ints_A)
  (fun args h r hr=>by
   unfold Ints_fs at hr
   split at hr
   ·rename_i ty0 xs ty1 ys; cases hr; refine ⟨rfl,fun hp=>?_⟩; have hE:=Ints_E xs ys ty0 ty1 hp; exact hE
   ·cases hr)
def Off_E0 (l : List Bool) (k : Int) (ty0 : TypeId) : Prop :=
      (decide (k<(↑l.length:Int))=true ->
 ((0:Int) <= k/\k<(↑l.length:Int))/\k.toNat<l.length/\∀ (x:Bool),l[k.toNat]? = some x->(x=l.getD k.toNat false/\True)/\True) /\
 (decide (k<(↑l.length:Int))=false->(false=l.getD k.toNat false/\True)/\True)
theorem Off_q (l:List Bool) (k:Int) (ty0:TypeId):Off_E0 l k ty0=z2r TT Off_g (Off_I l k) (Off_an l k) Tryz.f68 [.row 0,.int .i64 k] [(0,.row false ty0 (.bools l))] (Off_r l k):=by kernel_rfl
theorem Off_E (l:List Bool) (k:Int) (ty0:TypeId) (hp:0 <= k):FVc TT Off_g (Off_I l k) (Off_an l k) Tryz.f68 [.row 0,.int .i64 k] [(0,.row false ty0 (.bools l))] (Off_r l k):=by
 refine FVc.of (Off_E0 l k ty0) (Off_q l k ty0) ?_
 unfold Off_E0
 simp only [eq_self,ne_eq,Int.toNat_natCast,zSS]
 refine ⟨fun h=>⟨by omega,by omega,fun x hx=>by simp [List.getD,hx]⟩,fun h=>?_⟩
 rw [List.getD,List.getElem?_eq_none (by omega)]; rfl
theorem Off_ok:SpecOk Tryz.prog Off_n true (z03 true Off_fs) :=
 z0b z0r (show z1c Tryz.prog Off_g from z05) (by kernel_rfl) mixedOrders Tryz.func68 rfl rfl (by kernel_rfl) (n:=2) (by decide +kernel) (I:=Off_IA) (fun _ _=>z06) (A:=Off_A)
  (fun args h r hr=>by
   unfold Off_fs at hr
   split at hr
   ·rename_i k ty0 l; cases hr; refine ⟨rfl,fun hp=>?_⟩; have hE:=Off_E l k ty0 hp; exact hE
   ·cases hr)
def Place_E0 (l : List Int) (n : Int) (ty0 : TypeId) : Prop :=
      ∃ (g0:Nat),
 ((g0 <= l.length/\z4r n (List.drop g0 l) g0=z4r n l (0:Nat))/\(True/\n=n/\(0:Int)=(↑g0:Int)/\True)/\l=l/\True) /\
 ∀ (g:Nat),
 g <= l.length/\z4r n (List.drop g l) g=z4r n l (0:Nat) ->
 (decide ((↑g:Int)<(↑l.length:Int))=true ->
 ((0:Int) <= (↑g:Int)/\(↑g:Int)<(↑l.length:Int)) /\
 (↑g:Int).toNat<l.length /\
 ∀ (x:Int),
 l[(↑g:Int).toNat]? = some x ->
 ((x == n)=true->((↑g:Int)=z4r n l (0:Nat)/\True)/\True) /\
 ((x == n)=false ->
 ∃ (g':Nat),
 (g' <= l.length/\z4r n (List.drop g' l) g'=z4r n l (0:Nat)) /\
 l.length - g'<l.length - g/\(True/\n=n/\IntKind.i64.wrap ((↑g:Int)+(1:Int))=(↑g':Int)/\True)/\l=l/\True)) /\
 (decide ((↑g:Int)<(↑l.length:Int))=false->((-1:Int)=z4r n l (0:Nat)/\True)/\True)
theorem Place_q (l:List Int) (n:Int) (ty0:TypeId):Place_E0 l n ty0=z2r TT Place_g (Place_I l n) (Place_an l n) Tryz.f147 [.row 0,.int .i64 n] [(0,.row false ty0 (.ints .i64 l))] (Place_r l n):=by kernel_rfl
theorem Place_E (l:List Int) (n:Int) (ty0:TypeId) (hp:l.length <= 1000000000):FVc TT Place_g (Place_I l n) (Place_an l n) Tryz.f147 [.row 0,.int .i64 n] [(0,.row false ty0 (.ints .i64 l))] (Place_r l n):=by
 refine FVc.of (Place_E0 l n ty0) (Place_q l n ty0) ?_
 unfold Place_E0
 simp only [eq_self,ne_eq,Int.toNat_natCast,zSS]
 refine ⟨0,by simp,fun k hk=>⟨fun h1=>⟨by omega,by omega,fun x hx=>?_⟩,fun h1=>?_⟩⟩
 ·rw [z3i hx,z4r] at hk
  refine ⟨fun h2=>by rw [if_pos h2] at hk; exact hk.2,fun h2=>⟨k+1,⟨by omega,by rw [if_neg h2] at hk; exact hk.2⟩,by omega,w64 (by omega) (by omega)⟩⟩
 ·rw [z74 (by omega),z4r] at hk
  exact hk.2
theorem Place_ok:SpecOk Tryz.prog Place_n true (z03 true Place_fs) :=
 z0b z0r (show z1c Tryz.prog Place_g from z05) (by kernel_rfl) mixedOrders Tryz.func147 rfl rfl (by kernel_rfl) (n:=2) (by decide +kernel) (I:=Place_IA) (fun _ _=>z06) (A:=Place_A)
  (fun args h r hr=>by
   unfold Place_fs at hr
   split at hr
   ·rename_i n ty0 l; cases hr; refine ⟨rfl,fun hp=>?_⟩; have hE:=Place_E l n ty0 hp; exact hE
   ·cases hr)
def Copy_E0 (I : Inst) (ty0 ty1 : TypeId) : Prop :=
   I.sup.length <= (1000000000:Nat)/\I.arcs.length <= (1000000000:Nat)/\((True/\True/\True)/\True)/\I.sup=I.sup/\I.arcs=I.arcs/\True
theorem Copy_q (I:Inst) (ty0 ty1:TypeId):Copy_E0 I ty0 ty1=z2r TT Copy_g (Copy_I I) (Copy_an I) Tryz.f82 [.agg [.row 0,.row 1]] [(0,.row false ty0 (.ints .i64 I.sup)),(1,.row false ty1 (.arcs I.arcs))] (Copy_r I):=by kernel_rfl
theorem Copy_E (I:Inst) (ty0 ty1:TypeId) (hp:I.sup.length <= 1000000000/\I.arcs.length <= 1000000000):FVc TT Copy_g (Copy_I I) (Copy_an I) Tryz.f82 [.agg [.row 0,.row 1]] [(0,.row false ty0 (.ints .i64 I.sup)),(1,.row false ty1 (.arcs I.arcs))] (Copy_r I):=by
 refine FVc.of (Copy_E0 I ty0 ty1) (Copy_q I ty0 ty1) ?_
 unfold Copy_E0
 simp [hp]
theorem Copy_ok:SpecOk Tryz.prog Copy_n true (z03 true Copy_fs) :=
 z0b z0r (show z1c Tryz.prog Copy_g from z00 takeI_ok (z00 takeA_ok (z05))) (by kernel_rfl) mixedOrders Tryz.func82 rfl rfl (by kernel_rfl) (n:=1) (by decide +kernel) (I:=Copy_IA) (fun _ _=>z06) (A:=Copy_A)
  (fun args h r hr=>by
   unfold Copy_fs at hr
   split at hr
   ·rename_i ty0 I_s ty1 I_a; cases hr; refine ⟨rfl,fun hp=>?_⟩; have hE:=Copy_E ⟨I_s,I_a⟩ ty0 ty1 hp; exact hE
   ·cases hr)
def Size_E0 (I : Inst) (ty0 ty1 : TypeId) : Prop :=
   (IntKind.i64.wrap ((↑I.sup.length:Int)+IntKind.i64.wrap ((2:Int) * (↑I.arcs.length:Int)))=(↑I.sup.length:Int)+(2:Int) * (↑I.arcs.length:Int)/\True)/\True
theorem Size_q (I:Inst) (ty0 ty1:TypeId):Size_E0 I ty0 ty1=z2r TT Size_g (Size_I I) (Size_an I) Tryz.f8 [.agg [.row 0,.row 1]] [(0,.row false ty0 (.ints .i64 I.sup)),(1,.row false ty1 (.arcs I.arcs))] (Size_r I):=by kernel_rfl
theorem Size_E (I:Inst) (ty0 ty1:TypeId) (hp:I.sup.length <= 1000000000000000000/\I.arcs.length <= 1000000000000000000):FVc TT Size_g (Size_I I) (Size_an I) Tryz.f8 [.agg [.row 0,.row 1]] [(0,.row false ty0 (.ints .i64 I.sup)),(1,.row false ty1 (.arcs I.arcs))] (Size_r I):=by
 refine FVc.of (Size_E0 I ty0 ty1) (Size_q I ty0 ty1) ?_
 unfold Size_E0
 simp only [eq_self,ne_eq,Int.toNat_natCast,zSS]
 rw [w64 (x:=2 * (I.arcs.length:Int)) (by omega) (by omega),w64 (by omega) (by omega)]
theorem Size_ok:SpecOk Tryz.prog Size_n true (z03 true Size_fs) :=
 z0b z0r (show z1c Tryz.prog Size_g from z05) (by kernel_rfl) mixedOrders Tryz.func8 rfl rfl (by kernel_rfl) (n:=1) (by decide +kernel) (I:=Size_IA) (fun _ _=>z06) (A:=Size_A)
  (fun args h r hr=>by
   unfold Size_fs at hr
   split at hr
   ·rename_i ty0 I_s ty1 I_a; cases hr; refine ⟨rfl,fun hp=>?_⟩; have hE:=Size_E ⟨I_s,I_a⟩ ty0 ty1 hp; exact hE
   ·cases hr)
abbrev zig (g':Nat × List Arc) (c:List Int) (many:Int):=(g'.fst <= (18:Nat)/\(g'.snd.length <= g'.fst/\(g'.snd ++ z5x c many ((18:Nat) - g'.fst) ((4:Nat) * g'.fst)=z24 c many)))
abbrev zih (many:Int) (g:Nat × List Arc) (g':Nat × List Arc):=(True/\(many=many/\(True/\(IntKind.i64.wrap ((4:Int) * (↑g.1:Int)+(4:Int))=(4:Int) * (↑g'.1:Int)/\True))))
abbrev Arcs_a2 (x_2:Int) (x_4:Int):=(IntKind.i64.wrap (x_2.tmod (3:Int))+IntKind.i64.wrap ((IntKind.u8.wrap (x_4.tdiv (3:Int))).tmod (6:Int)))
abbrev zii (x_1:Int):=(IntKind.i64.wrap (IntKind.u8.wrap (x_1.tdiv (16:Int))))
abbrev zij (g:Nat × List Arc):=(IntKind.i64.wrap ((4:Int) * (↑g.1:Int)+(1:Int)))
abbrev Arcs_a5 (g:Nat × List Arc) (c:List Int):=((0:Int) <= IntKind.i64.wrap ((4:Int) * (↑g.1:Int)+(1:Int))/\(IntKind.i64.wrap ((4:Int) * (↑g.1:Int)+(1:Int))<(↑c.length:Int)))
def Arcs_E0 (c : List Int) (many : Int) (ty0 : TypeId) : Prop :=
   ∃ (g0:Nat × List Arc),((g0.fst <= (18:Nat)/\(g0.snd.length <= g0.fst/\(g0.snd ++ z5x c many ((18:Nat) - g0.fst) ((4:Nat) * g0.fst)=z24 c many)))/\((True/\(many=many/\(True/\((0:Int)=(4:Int) * (↑g0.1:Int)/\True))))/\([]=g0.2/\(c=c/\True))))/\∀ (g:Nat × List Arc),g.fst <= (18:Nat)/\g.snd.length <= g.fst/\g.snd ++ z5x c many ((18:Nat) - g.fst) ((4:Nat) * g.fst)=z24 c many->(decide (IntKind.i64.wrap ((4:Int) * (↑g.1:Int)+(3:Int))<(↑c.length:Int))=true->(decide ((4:Int) * (↑g.1:Int)<72)=true->((0:Int) <= (4:Int) * (↑g.1:Int)/\((4:Int) * (↑g.1:Int)<↑c.length))/\((4:Int) * (↑g.1:Int)).toNat<c.length/\∀ (x:Int),c[((4:Int) * (↑g.1:Int)).toNat]? = some x->many ≠ (0:Int)/\((0:Int) <= (4:Int) * (↑g.1:Int)/\((4:Int) * (↑g.1:Int)<↑c.length))/\((4:Int) * (↑g.1:Int)).toNat<c.length/\∀ (x_1:Int),c[((4:Int) * (↑g.1:Int)).toNat]? = some x_1->(16:Int) ≠ (0:Int)/\many ≠ (0:Int)/\(Arcs_a5 g c)/\(zij g).toNat<c.length/\∀ (x_2:Int),c[(zij g).toNat]? = some x_2->(3:Int) ≠ (0:Int)/\((0:Int) <= IntKind.i64.wrap ((4:Int) * (↑g.1:Int)+(2:Int))/\(IntKind.i64.wrap ((4:Int) * (↑g.1:Int)+(2:Int))<(↑c.length:Int)))/\(IntKind.i64.wrap ((4:Int) * (↑g.1:Int)+(2:Int))).toNat<c.length/\∀ (x_3:Int),c[(IntKind.i64.wrap ((4:Int) * (↑g.1:Int)+(2:Int))).toNat]? = some x_3->(21:Int) ≠ (0:Int)/\(Arcs_a5 g c)/\(zij g).toNat<c.length/\∀ (x_4:Int),c[(zij g).toNat]? = some x_4->(3:Int) ≠ (0:Int)/\(6:Int) ≠ (0:Int)/\((0:Int) <= IntKind.i64.wrap ((4:Int) * (↑g.1:Int)+(3:Int))/\(IntKind.i64.wrap ((4:Int) * (↑g.1:Int)+(3:Int))<(↑c.length:Int)))/\(IntKind.i64.wrap ((4:Int) * (↑g.1:Int)+(3:Int))).toNat<c.length/\∀ (x_5:Int),c[(IntKind.i64.wrap ((4:Int) * (↑g.1:Int)+(3:Int))).toNat]? = some x_5->(8:Int) ≠ (0:Int)/\((x_5.tmod (8:Int) == (0:Int))=true->g.2.length+(1:Nat) <= 1000000000/\(∃ (g':Nat × List Arc),(zig g' c many)/\((18:Nat) - g'.fst<(18:Nat) - g.fst/\((zih many g g')/\(g.2 ++ [{ src:=(IntKind.i64.wrap x).tmod many,dst:=(zii x_1).tmod many,low:=IntKind.i64.wrap (x_2.tmod (3:Int)),cap:=(4611686018427387904:Int),cost:=IntKind.i64.wrap (IntKind.i64.wrap (x_3.tmod (21:Int)) - (8:Int)):Arc }]=g'.2/\(c=c/\True))))))/\((x_5.tmod (8:Int) == (0:Int))=false->((x_5.tmod (8:Int) == (1:Int))=true->g.2.length+(1:Nat) <= 1000000000/\(∃ (g':Nat × List Arc),(zig g' c many)/\((18:Nat) - g'.fst<(18:Nat) - g.fst/\((zih many g g')/\(g.2 ++ [{ src:=(IntKind.i64.wrap x).tmod many,dst:=(zii x_1).tmod many,low:=(0:Int),cap:=IntKind.i64.wrap (Arcs_a2 x_2 x_4),cost:=IntKind.i64.wrap (IntKind.i64.wrap (x_3.tmod (21:Int)) - (8:Int)):Arc }]=g'.2/\(c=c/\True))))))/\((x_5.tmod (8:Int) == (1:Int))=false->((x_5.tmod (8:Int) == (2:Int))=true->g.2.length+(1:Nat) <= 1000000000/\(∃ (g':Nat × List Arc),(zig g' c many)/\((18:Nat) - g'.fst<(18:Nat) - g.fst/\((zih many g g')/\(g.2 ++ [{ src:=(IntKind.i64.wrap x).tmod many,dst:=(zii x_1).tmod many,low:=IntKind.i64.wrap (x_2.tmod (3:Int)),cap:=IntKind.i64.wrap (Arcs_a2 x_2 x_4),cost:=(0:Int):Arc }]=g'.2/\(c=c/\True))))))/\((x_5.tmod (8:Int) == (2:Int))=false->g.2.length+(1:Nat) <= 1000000000/\(∃ (g':Nat × List Arc),(zig g' c many)/\((18:Nat) - g'.fst<(18:Nat) - g.fst/\((zih many g g')/\(g.2 ++ [{ src:=(IntKind.i64.wrap x).tmod many,dst:=(zii x_1).tmod many,low:=IntKind.i64.wrap (x_2.tmod (3:Int)),cap:=IntKind.i64.wrap (Arcs_a2 x_2 x_4),cost:=IntKind.i64.wrap (IntKind.i64.wrap (x_3.tmod (21:Int)) - (8:Int)):Arc }]=g'.2/\(c=c/\True)))))))))/\(decide ((4:Int) * (↑g.1:Int)<72)=false->(True/\True)/\(g.2=z24 c many/\True)))/\(decide (IntKind.i64.wrap ((4:Int) * (↑g.1:Int)+(3:Int))<(↑c.length:Int))=false->(True/\True)/\(g.2=z24 c many/\True))
theorem Arcs_q (c:List Int) (many:Int) (ty0:TypeId):Arcs_E0 c many ty0=z2r TT Arcs_g (Arcs_I c many) (Arcs_an c many) Tryz.f49 [.row 0,.int .i64 many] [(0,.row false ty0 (.ints .u8 c))] (Arcs_r c many):=by kernel_rfl
theorem Arcs_E (c:List Int) (many:Int) (ty0:TypeId) (hp:Bytes c/\1 <= many/\many <= 1000):FVc TT Arcs_g (Arcs_I c many) (Arcs_an c many) Tryz.f49 [.row 0,.int .i64 many] [(0,.row false ty0 (.ints .u8 c))] (Arcs_r c many):=by
 refine FVc.of (Arcs_E0 c many ty0) (Arcs_q c many ty0) ?_
 unfold Arcs_E0
 delta Arcs_a5 zij zii Arcs_a2 zih zig
 simp only [eq_self,ne_eq,Int.toNat_natCast,zSS]
 obtain ⟨hb,hm1,hm2⟩:=hp
 refine ⟨(0,[]),by simp [z24],fun g hg=>?_⟩
 obtain ⟨k,l⟩:=g
 dsimp only at hg ⊢
 obtain ⟨g1,g2,g3⟩:=hg
 have e0:∀ j:Int,0 <= j->j <= 3->IntKind.i64.wrap (4 * (k:Int)+j)=4 * (k:Int)+j:=fun j h1 h2=>w64 (by omega) (by omega)
 rw [e0 3 (by omega) (by omega),e0 1 (by omega) (by omega),e0 2 (by omega) (by omega)]
 have t0:(4 * (k:Int)).toNat=4 * k:=by omega
 have t1:(4 * (k:Int)+1).toNat=4 * k+1:=by omega
 have t2:(4 * (k:Int)+2).toNat=4 * k+2:=by omega
 have t3:(4 * (k:Int)+3).toNat=4 * k+3:=by omega
 rw [t0,t1,t2,t3]
 have hend:(18 <= k ∨ c.length <= 4 * k+3)->l=z24 c many:=fun h=>by
  rw [<- g3]
  by_cases h18:18 - k=0
  ·rw [h18]; simp [z5x]
  ·rw [show 18 - k=(17 - k)+1 by omega,z5x,if_neg (by omega)]; simp
 refine ⟨fun h1=>⟨fun h2=>⟨by omega,by omega,fun x hx=>⟨by omega,by omega,by omega,fun x1 hx1=>⟨by omega,by omega,by omega,by omega,fun x2 hx2=>⟨by omega,by omega,by omega,fun x3 hx3=>⟨by omega,by omega,by omega,fun x4 hx4=>⟨by omega,by omega,by omega,by omega,fun x5 hx5=>?_⟩⟩⟩⟩⟩⟩,fun h2=>hend (by omega)⟩,fun h1=>hend (by omega)⟩
 rw [hx] at hx1
 rw [hx2] at hx4
 cases hx1
 cases hx4
 have bx:=hb x (List.mem_of_getElem? hx)
 have bx2:=hb x2 (List.mem_of_getElem? hx2)
 have bx3:=hb x3 (List.mem_of_getElem? hx3)
 have bx5:=hb x5 (List.mem_of_getElem? hx5)
 have hstep:l ++ [arcOf x x2 x3 x5 many] ++ z5x c many (18 - (k+1)) (4 * (k+1))=z24 c many:=by
  rw [<- g3,show 18 - k=(18 - (k+1))+1 by omega,z5x,if_pos (by omega)]
  simp only [List.getD,hx,hx2,hx3,hx5,Option.getD_some,List.append_assoc,List.cons_append,List.nil_append]
  rw [show 4 * k+4=4 * (k+1) by omega]
 have r1:x5.tmod 8=x5 % 8:=z4a bx5.1
 have r2:IntKind.i64.wrap x=x:=w64 (by omega) (by omega)
 have r3:x.tmod many=x % many:=z4a bx.1
 have r4:x.tdiv 16=x / 16:=tdiv_pos bx.1
 have r5:IntKind.u8.wrap (x / 16)=x / 16:=wu8 (by omega) (by omega)
 have r6:IntKind.i64.wrap (x / 16)=x / 16:=w64 (by omega) (by omega)
 have r7:(x / 16).tmod many=x / 16 % many:=z4a (by omega)
 have r8:x2.tmod 3=x2 % 3:=z4a bx2.1
 have r9:IntKind.i64.wrap (x2 % 3)=x2 % 3:=w64 (by omega) (by omega)
 have r10:x3.tmod 21=x3 % 21:=z4a bx3.1
 have r11:IntKind.i64.wrap (x3 % 21)=x3 % 21:=w64 (by omega) (by omega)
 have r12:IntKind.i64.wrap (x3 % 21 - 8)=x3 % 21 - 8:=w64 (by omega) (by omega)
 have r13:x2.tdiv 3=x2 / 3:=tdiv_pos bx2.1
 have r14:IntKind.u8.wrap (x2 / 3)=x2 / 3:=wu8 (by omega) (by omega)
 have r15:(x2 / 3).tmod 6=x2 / 3 % 6:=z4a (by omega)
 have r16:IntKind.i64.wrap (x2 / 3 % 6)=x2 / 3 % 6:=w64 (by omega) (by omega)
 have r17:IntKind.i64.wrap (x2 % 3+x2 / 3 % 6)=x2 % 3+x2 / 3 % 6:=w64 (by omega) (by omega)
 simp only [r1,r2,r3,r4,r5,r6,r7,r8,r9,r10,r11,r12,r13,r14,r15,r16,r17,List.nil_append]
 have hk4:IntKind.i64.wrap (4 * (k:Int)+4)=4 * ((k+1:Nat):Int):=by rw [w64 (by omega) (by omega)]; omega
 have hlen:l.length+1 <= 1000000000:=by omega
 refine ⟨by omega,fun q0=>?_,fun q0=>⟨fun q1=>?_,fun q1=>⟨fun q2=>?_,fun q2=>?_⟩⟩⟩
 all_goals
  refine ⟨by simp; omega,(k+1,l ++ [arcOf x x2 x3 x5 many]),⟨by dsimp only; omega,by simp; omega,hstep⟩,by dsimp only; omega,⟨hk4,?_⟩⟩
  simp [arcOf, *]
theorem Arcs_ok:SpecOk Tryz.prog Arcs_n true (z03 true Arcs_fs) :=
 z0b z0r (show z1c Tryz.prog Arcs_g from z05) (by kernel_rfl) mixedOrders Tryz.func49 rfl rfl (by kernel_rfl) (n:=2) (by decide +kernel) (I:=Arcs_IA) (fun _ _=>z06) (A:=Arcs_A)
  (fun args h r hr=>by
   unfold Arcs_fs at hr
   split at hr
   ·rename_i many ty0 c; cases hr; refine ⟨rfl,fun hp=>?_⟩; have hE:=Arcs_E c many ty0 hp; exact hE
   ·cases hr)
def Inst_r (c:List Int) (d:List Int):FRes:={ pre:=Bytes c/\Bytes d/\c.length <= maxLen/\d.length <= maxLen,res:=.agg [.row 2,.row 3],rows:=[.row 2 (.ints .i64 (z09 c d).sup),.row 35 (.arcs (z09 c d).arcs)],eff:=[] }
def zix:FS:=fun args h=>match args,h with
 | [.row 0,.row 1],[(0,.row false ty0 (.ints .u8 c)),(1,.row false ty1 (.ints .u8 d))]=>some (Inst_r c d)
 | _,_=>none
def Inst_an (c:List Int) (d:List Int):List (Nat × Ann):=[(1000004,{ G:=Unit,inv:=fun _=>⟨[(0,.row 0),(1,.row 1),(4,.ptr 4 0 0 0),(5,.int .i64 (nOf d))],[(4,.box true 25 [.row 2,.row 3]),(2,.row true 2 (.ints .i64 [])),(3,.row true 35 (.arcs [])),(0,.row false 0 (.ints .u8 c)),(1,.row false 0 (.ints .u8 d))],5⟩,rel:=fun _ _=>True,meas:=fun _=>0 }),
 (1000005,{ G:=Unit,inv:=fun _=>⟨[(1,.row 1),(4,.ptr 4 0 0 0),(5,.int .i64 (↑(nOf d):Int)),(6,.ptr 11 0 0 0)],[(11,.box true 25 [.row 5,.row 6]),(6,.row true 35 (.arcs (z24 c (↑(nOf d):Int)))),(5,.row true 2 (.ints .i64 (List.replicate (↑(nOf d):Int).toNat (0:Int)))),(4,.box true 25 [.row 2,.row 3]),(2,.row true 2 (.ints .i64 [])),(3,.row true 35 (.arcs [])),(1,.row false 0 (.ints .u8 d))],12⟩,rel:=fun _ _=>True,meas:=fun _=>0 }),
 (6,{ G:=(Nat) × (List Int),inv:=fun ⟨k,s⟩=>⟨[(1,.row 1),(4,.ptr 4 0 0 0),(5,.int .i64 (↑(nOf d):Int)),(6,.ptr 11 0 0 0),(7,.int .i64 k)],[(11,.box true 25 [.row 5,.row 6]),(6,.row true 35 (.arcs (z24 c (↑(nOf d):Int)))),(5,.row true 2 (.ints .i64 s)),(4,.box true 25 [.row 2,.row 3]),(2,.row true 2 (.ints .i64 [])),(3,.row true 35 (.arcs [])),(1,.row false 0 (.ints .u8 d))],12⟩,rel:=fun ⟨k0,s0⟩ ⟨k,s⟩=>k <= (z24 c (nOf d)).length/\s.length=nOf d/\Within (10 * k) s/\zcp d ((z24 c (nOf d)).drop k) k s=sup1 c d,meas:=fun ⟨k,s⟩=>(z24 c (nOf d)).length - k })]
def Inst_A:List SV->z0d->List (Nat × Ann):=fun args h=>match args,h with
 | [.row 0,.row 1],[(0,.row false ty0 (.ints .u8 c)),(1,.row false ty1 (.ints .u8 d))]=>Inst_an c d
 | _,_=>[]
def Inst_g:z0c:=[(Arcs_n,(true,z03 true Arcs_fs))]
abbrev Inst_n:Nat:=14
def Inst_I (c:List Int) (d:List Int):List (Nat × z08):=[]
def Inst_IA:List SV->z0d->List (Nat × z08):=fun _ _=>[]
theorem ze1 {s:List Int} {k:Nat} {v x:Int} (h:s[k]? = some v):s.set k (v+x)=addAt s k x:=by
 unfold addAt; simp [List.getD,h]
theorem instStep {m:Nat} {s:List Int} {i j:Nat} {u y z:Int} (hw:Within (10 * m) s) (hm:m <= 18) (hu:0 <= u) (hu5:u <= 5) (hy:s[i]? = some y)
  (hz:(s.set i (IntKind.i64.wrap (y+u)))[j]? = some z) :
  (s.set i (IntKind.i64.wrap (y+u))).set j (IntKind.i64.wrap (z - u))=addAt (addAt s i u) j (-u)/\Within (10 * (m+1:Nat)) (addAt (addAt s i u) j (-u)):=by
 have h1:=hw y (List.mem_of_getElem? hy)
 rw [w64 (by omega) (by omega),ze1 hy] at hz ⊢
 have hw1:=hw.addAt (by omega) i (x:=u) (y:=5) (by omega) (by omega)
 have h2:=hw1 z (List.mem_of_getElem? hz)
 rw [w64 (by omega) (by omega),show z - u=z + -u by omega,ze1 hz]
 exact ⟨rfl,(hw1.addAt (by omega) j (x:=-u) (y:=5) (by omega) (by omega)).more (by omega)⟩
abbrev zbl (d:List Int) (c:List Int):=(∃ (g:Unit),True/\((True/\(0=0/\((↑(nOf d):Int)=↑(nOf d)/\(0=0/\True))))/\((True/\(True/\True))/\(z24 c (↑(nOf d):Int)=z24 c (↑(nOf d):Int)/\(List.replicate (↑(nOf d):Int).toNat (0:Int)=List.replicate (↑(nOf d):Int).toNat (0:Int)/\((True/\(True/\True))/\(z2c Int/\(z2c Arc/\(d=d/\True)))))))))
abbrev zbm (g:Nat × List Int) (x:Arc) (x_2:Int) (x_1:Int):=(g.2.set x.src.toNat (IntKind.i64.wrap (x_2+min (IntKind.i64.wrap (x.low+IntKind.i64.wrap (x_1.tmod (4:Int)))) x.cap)))
abbrev zbn (g:Nat × List Int) (x_1:Int) (x:Int):=(g.2.set (Int.toNat (0:Int)) (IntKind.i64.wrap (x_1+IntKind.i64.wrap (x.tmod (3:Int)))))
abbrev zf0 (d:List Int):=((↑(nOf d):Int)=↑(nOf d)/\((0:Int) <= ↑(nOf d)/\((↑(nOf d):Int) <= 1000000000)))
abbrev zf1 (c:List Int) (d:List Int):=(Bytes c/\((1:Int) <= ↑(nOf d)/\((↑(nOf d):Int) <= 1000)))
abbrev zbo (g:Nat × List Int) (x:Arc) (x_1:Int):=(g.2.set x.src.toNat (IntKind.i64.wrap (x_1+x.low)))
abbrev Inst_a6 (g':Nat × List Int) (c:List Int) (d:List Int):=(g'.fst <= (z24 c (↑(nOf d):Int)).length/\(g'.snd.length=nOf d/\(Within ((10:Int) * (↑g'.fst:Int)) g'.snd/\(zcp d (List.drop g'.fst (z24 c (↑(nOf d):Int))) g'.fst g'.snd=sup1 c d))))
abbrev Inst_a7 (d:List Int):=((True/\(True/\True))/\(z2c Int/\(z2c Arc/\(d=d/\True))))
abbrev ziw (d:List Int):=(IntKind.i64.wrap ((↑(nOf d):Int) - (1:Int)))
def Inst_E0 (c : List Int) (d : List Int) (ty0 ty1 : TypeId) : Prop :=
   ((decide ((↑d.length:Int) > 0)=true->((0:Int) <= 0/\((0:Int)<↑d.length))/\(Int.toNat (0:Int)<d.length/\(∀ (x:Int),d[Int.toNat (0:Int)]? = some x->(7:Int) ≠ (0:Int)/\(∃ (g:Unit),True/\((True/\(True/\(0=0/\(IntKind.i64.wrap ((1:Int)+IntKind.i64.wrap (x.tmod (7:Int)))=(↑(nOf d):Int)/\True))))/\((True/\(True/\True))/\(z2c Int/\(z2c Arc/\(c=c/\(d=d/\True))))))))))/\(decide ((↑d.length:Int) > 0)=false->∃ (g:Unit),True/\((True/\(True/\(0=0/\((1:Int)=↑(nOf d)/\True))))/\((True/\(True/\True))/\(z2c Int/\(z2c Arc/\(c=c/\(d=d/\True))))))))/\∀ (g:Unit),True->(((zf0 d)/\(((zf1 c d)/\(zbl d c))/\((zf1 c d)/\(zbl d c))))/\(((zf1 c d)/\(((zf0 d)/\(zbl d c))/\((zf0 d)/\(zbl d c))))/\(((zf0 d)/\((zf1 c d)/\(zbl d c)))/\((zf1 c d)/\((zf0 d)/\(zbl d c))))))/\∀ (g:Unit),True->∃ (g0:Nat × List Int),((g0.fst <= (z24 c (↑(nOf d):Int)).length/\(g0.snd.length=nOf d/\(Within ((10:Int) * (↑g0.fst:Int)) g0.snd/\(zcp d (List.drop g0.fst (z24 c (↑(nOf d):Int))) g0.fst g0.snd=sup1 c d))))/\((True/\(0=0/\((↑(nOf d):Int)=↑(nOf d)/\(0=0/\((0:Int)=↑g0.1/\True)))))/\((True/\(True/\True))/\(z24 c (↑(nOf d):Int)=z24 c (↑(nOf d):Int)/\(List.replicate (↑(nOf d):Int).toNat (0:Int)=g0.2/\(Inst_a7 d))))))/\∀ (g:Nat × List Int),g.fst <= (z24 c (↑(nOf d):Int)).length/\g.snd.length=nOf d/\Within ((10:Int) * (↑g.fst:Int)) g.snd/\zcp d (List.drop g.fst (z24 c (↑(nOf d):Int))) g.fst g.snd=sup1 c d->(decide ((↑g.1:Int)<↑(z24 c (↑(nOf d):Int)).length)=true->((0:Int) <= ↑g.1/\((↑g.1:Int)<↑(z24 c (↑(nOf d):Int)).length))/\(↑g.1:Int).toNat<(z24 c (↑(nOf d):Int)).length/\∀ (x:Arc),(z24 c (↑(nOf d):Int))[(↑g.1:Int).toNat]? = some x->(decide (IntKind.i64.wrap ((↑g.1:Int)+(1:Int))<(↑d.length:Int))=true->((0:Int) <= IntKind.i64.wrap ((↑g.1:Int)+(1:Int))/\(IntKind.i64.wrap ((↑g.1:Int)+(1:Int))<(↑d.length:Int)))/\((IntKind.i64.wrap ((↑g.1:Int)+(1:Int))).toNat<d.length/\(∀ (x_1:Int),d[(IntKind.i64.wrap ((↑g.1:Int)+(1:Int))).toNat]? = some x_1->(4:Int) ≠ (0:Int)/\(((0:Int) <= x.src/\(x.src<(↑g.2.length:Int)))/\(x.src.toNat<g.2.length/\(∀ (x_2:Int),g.2[x.src.toNat]? = some x_2->((0:Int) <= x.src/\(x.src<(↑g.2.length:Int)))/\(x.src.toNat<g.2.length/\(((0:Int) <= x.dst/\(x.dst<(↑(zbm g x x_2 x_1).length:Int)))/\(x.dst.toNat<(zbm g x x_2 x_1).length/\(∀ (x_3:Int),(zbm g x x_2 x_1)[x.dst.toNat]? = some x_3->((0:Int) <= x.dst/\(x.dst<(↑(zbm g x x_2 x_1).length:Int)))/\(x.dst.toNat<(zbm g x x_2 x_1).length/\(∃ (g':Nat × List Int),(Inst_a6 g' c d)/\((z24 c (↑(nOf d):Int)).length - g'.fst<(z24 c (↑(nOf d):Int)).length - g.fst/\((True/\(0=0/\((↑(nOf d):Int)=↑(nOf d)/\(0=0/\(IntKind.i64.wrap ((↑g.1:Int)+(1:Int))=(↑g'.1:Int)/\True)))))/\((True/\(True/\True))/\(z24 c (↑(nOf d):Int)=z24 c (↑(nOf d):Int)/\((zbm g x x_2 x_1).set x.dst.toNat (IntKind.i64.wrap (x_3 - min (IntKind.i64.wrap (x.low+IntKind.i64.wrap (x_1.tmod (4:Int)))) x.cap))=g'.2/\(Inst_a7 d))))))))))))))))))/\(decide (IntKind.i64.wrap ((↑g.1:Int)+(1:Int))<(↑d.length:Int))=false->((0:Int) <= x.src/\(x.src<(↑g.2.length:Int)))/\(x.src.toNat<g.2.length/\(∀ (x_1:Int),g.2[x.src.toNat]? = some x_1->((0:Int) <= x.src/\(x.src<(↑g.2.length:Int)))/\(x.src.toNat<g.2.length/\(((0:Int) <= x.dst/\(x.dst<(↑(zbo g x x_1).length:Int)))/\(x.dst.toNat<(zbo g x x_1).length/\(∀ (x_2:Int),(zbo g x x_1)[x.dst.toNat]? = some x_2->((0:Int) <= x.dst/\(x.dst<(↑(zbo g x x_1).length:Int)))/\(x.dst.toNat<(zbo g x x_1).length/\(∃ (g':Nat × List Int),(Inst_a6 g' c d)/\((z24 c (↑(nOf d):Int)).length - g'.fst<(z24 c (↑(nOf d):Int)).length - g.fst/\((True/\(0=0/\((↑(nOf d):Int)=↑(nOf d)/\(0=0/\(IntKind.i64.wrap ((↑g.1:Int)+(1:Int))=(↑g'.1:Int)/\True)))))/\((True/\(True/\True))/\(z24 c (↑(nOf d):Int)=z24 c (↑(nOf d):Int)/\((zbo g x x_1).set x.dst.toNat (IntKind.i64.wrap (x_2 - x.low))=g'.2/\(Inst_a7 d))))))))))))))))/\(decide ((↑g.1:Int)<↑(z24 c (↑(nOf d):Int)).length)=false->(decide ((↑d.length:Int) > 1)=true->((0:Int) <= IntKind.i64.wrap ((↑d.length:Int) - (1:Int))/\(IntKind.i64.wrap ((↑d.length:Int) - (1:Int))<(↑d.length:Int)))/\((IntKind.i64.wrap ((↑d.length:Int) - (1:Int))).toNat<d.length/\(∀ (x:Int),d[(IntKind.i64.wrap ((↑d.length:Int) - (1:Int))).toNat]? = some x->(5:Int) ≠ (0:Int)/\(((x.tmod (5:Int) == (0:Int))=true->((0:Int) <= 1/\((1:Int)<↑d.length))/\(Int.toNat (1:Int)<d.length/\(∀ (x:Int),d[Int.toNat (1:Int)]? = some x->(3:Int) ≠ (0:Int)/\(((0:Int) <= 0/\((0:Int)<↑g.2.length))/\(Int.toNat (0:Int)<g.2.length/\(∀ (x_1:Int),g.2[Int.toNat (0:Int)]? = some x_1->((0:Int) <= 0/\((0:Int)<↑g.2.length))/\(Int.toNat (0:Int)<g.2.length/\(((0:Int) <= IntKind.i64.wrap ((↑(nOf d):Int) - (1:Int))/\(IntKind.i64.wrap ((↑(nOf d):Int) - (1:Int))<(↑(zbn g x_1 x).length:Int)))/\((ziw d).toNat<(zbn g x_1 x).length/\(∀ (x_2:Int),(zbn g x_1 x)[(ziw d).toNat]? = some x_2->((0:Int) <= IntKind.i64.wrap ((↑(nOf d):Int) - (1:Int))/\(IntKind.i64.wrap ((↑(nOf d):Int) - (1:Int))<(↑(zbn g x_1 x).length:Int)))/\((ziw d).toNat<(zbn g x_1 x).length/\(((True/\(True/\True))/\True)/\((zbn g x_1 x).set (ziw d).toNat (IntKind.i64.wrap (x_2 - IntKind.i64.wrap (x.tmod (3:Int))))=(z09 c d).sup/\(z24 c (↑(nOf d):Int)=(z09 c d).arcs/\True))))))))))))))/\((x.tmod (5:Int) == (0:Int))=false->((True/\(True/\True))/\True)/\(g.2=(z09 c d).sup/\(z24 c (↑(nOf d):Int)=(z09 c d).arcs/\True)))))))/\(decide ((↑d.length:Int) > 1)=false->((True/\(True/\True))/\True)/\(g.2=(z09 c d).sup/\(z24 c (↑(nOf d):Int)=(z09 c d).arcs/\True))))
theorem Inst_q (c:List Int) (d:List Int) (ty0 ty1:TypeId):Inst_E0 c d ty0 ty1=z2r TT Inst_g (Inst_I c d) (Inst_an c d) Tryz.f14 [.row 0,.row 1] [(0,.row false ty0 (.ints .u8 c)),(1,.row false ty1 (.ints .u8 d))] (Inst_r c d):=by kernel_rfl
theorem Inst_E (c:List Int) (d:List Int) (ty0 ty1:TypeId) (hp:Bytes c/\Bytes d/\c.length <= maxLen/\d.length <= maxLen):FVc TT Inst_g (Inst_I c d) (Inst_an c d) Tryz.f14 [.row 0,.row 1] [(0,.row false ty0 (.ints .u8 c)),(1,.row false ty1 (.ints .u8 d))] (Inst_r c d):=by
 refine FVc.of (Inst_E0 c d ty0 ty1) (Inst_q c d ty0 ty1) ?_
 unfold Inst_E0
 delta ziw Inst_a7 Inst_a6 zbo zf1 zf0 zbn zbm zbl
 simp only [eq_self,exists_const,forall_const,ne_eq,Int.toNat_natCast,zSS]
 simp only [z07,and_true,true_and]
 obtain ⟨p1,p2,p3,p4⟩:=hp
 have hS:=z9l d
 have hL:=zku d
 have hA:=zjg c (nOf d)
 have hN:=zai c (nOf d) (by omega)
 unfold maxLen at *
 have gz:∀ {l:List Int} {k:Nat} {v:Int},l[k]? = some v->l.getD k 0=v:=fun h=>by simp [List.getD,h]
 refine ⟨⟨fun h=>⟨by omega,by simp; omega,fun x hx=>⟨by decide,?_⟩⟩,fun h=>?_⟩,by simp only [p1,true_and]; omega,(0,List.replicate (nOf d) 0),⟨⟨by simp,by simp,fun x hx=>by simp [List.mem_replicate] at hx; simp [hx],by simp [sup1]⟩,rfl,rfl⟩,fun g hg=>?_⟩
 ·have hb:=p2 x (List.mem_of_getElem? hx)
  rw [z4a hb.1,w64 (x:=x % 7) (by omega) (by omega),w64 (by omega) (by omega)]
  unfold nOf
  have hx':=gz hx
  simp only [Int.toNat_zero] at hx'
  rw [if_pos (by omega),hx']
  omega
 ·unfold nOf; rw [if_neg (by omega)]; rfl
 obtain ⟨k,s⟩:=g
 dsimp only at hg ⊢
 obtain ⟨g1,g2,g3,g4⟩:=hg
 refine ⟨fun h1=>⟨by omega,by omega,fun a ha=>?_⟩,fun h1=>?_⟩
 ·have hn:=hN a (List.mem_of_getElem? ha)
  have n1:=hn.s0; have n2:=hn.s1; have n3:=hn.d0; have n4:=hn.d1; have n5:=hn.l0; have n6:=hn.l1; have n7:=hn.c0
  have hu:=useOf_ok (d:=d) (k:=k) hn
  rw [z3i ha,zcp] at g4
  have e3:(addAt (addAt s a.src.toNat (zb7 d k a)) a.dst.toNat (-(zb7 d k a))).length=nOf d:=by rw [z14,z14]; exact g2
  have hk:IntKind.i64.wrap ((k:Int)+1)=((k+1:Nat):Int):=by rw [w64 (by omega) (by omega)]; omega
  have hk18:k <= 18:=by omega
  simp only [hk,Int.toNat_natCast,List.length_set]
  refine ⟨fun h2=>⟨by omega,by omega,fun b hb=>⟨by decide,by omega,by omega,fun y hy=>⟨by omega,by omega,by omega,by omega,fun z hz=>⟨by omega,by omega,?_⟩⟩⟩⟩,fun h2=>⟨by omega,by omega,fun y hy=>⟨by omega,by omega,by omega,by omega,fun z hz=>⟨by omega,by omega,?_⟩⟩⟩⟩
  ·have hbb:=p2 b (List.mem_of_getElem? hb)
   have hmin:min (IntKind.i64.wrap (a.low+IntKind.i64.wrap (b.tmod 4))) a.cap=zb7 d k a:=by
    rw [z4a hbb.1,w64 (x:=b % 4) (by omega) (by omega),w64 (by omega) (by omega)]
    unfold zb7; rw [if_pos (by omega),gz hb]
   rw [hmin] at hz ⊢
   obtain ⟨e1,e2⟩:=instStep g3 hk18 hu.1 hu.2 hy hz
   rw [e1]
   exact ⟨(k+1,addAt (addAt s a.src.toNat (zb7 d k a)) a.dst.toNat (-(zb7 d k a))),⟨by dsimp only; omega,e3,e2,g4⟩,by dsimp only; omega,rfl,rfl⟩
  ·have hlow:a.low=zb7 d k a:=by unfold zb7; rw [if_neg (by omega)]
   rw [hlow] at hz ⊢
   obtain ⟨e1,e2⟩:=instStep g3 hk18 hu.1 hu.2 hy hz
   rw [e1]
   exact ⟨(k+1,addAt (addAt s a.src.toNat (zb7 d k a)) a.dst.toNat (-(zb7 d k a))),⟨by dsimp only; omega,e3,e2,g4⟩,by dsimp only; omega,rfl,rfl⟩
 ·rw [z74 (by omega)] at g4
  simp only [zcp] at g4
  subst g4
  have hk18:k <= 18:=by omega
  have t1:Int.toNat 1=1:=rfl
  have t0:Int.toNat 0=0:=rfl
  simp only [t1,t0]
  refine ⟨fun h2=>?_,fun h2=>⟨?_,rfl⟩⟩
  ·have e1:IntKind.i64.wrap ((d.length:Int) - 1)=((d.length - 1:Nat):Int):=by rw [w64 (by omega) (by omega)]; omega
   have e2:IntKind.i64.wrap ((nOf d:Int) - 1)=((nOf d - 1:Nat):Int):=by rw [w64 (by omega) (by omega)]; omega
   simp only [e1,e2,Int.toNat_natCast,List.length_set]
   refine ⟨by omega,by omega,fun x hx=>⟨by decide,fun h3=>⟨by omega,by omega,fun v hv=>⟨by decide,by omega,by omega,fun y hy=>⟨by omega,by omega,by omega,by omega,fun z hz=>⟨by omega,by omega,?_,rfl⟩⟩⟩⟩,fun h3=>⟨?_,rfl⟩⟩⟩
   ·have hb:=p2 x (List.mem_of_getElem? hx)
    have hv':=p2 v (List.mem_of_getElem? hv)
    rw [z4a hb.1] at h3
    rw [z4a hv'.1,w64 (x:=v % 3) (by omega) (by omega)] at hz ⊢
    rw [(instStep g3 hk18 (by omega) (by omega) hy hz).1]
    unfold z09
    dsimp only
    rw [if_pos ⟨by omega,by rw [gz hx]; exact h3⟩,gz hv]
   ·have hb:=p2 x (List.mem_of_getElem? hx)
    rw [z4a hb.1] at h3
    unfold z09
    dsimp only
    rw [if_neg (fun h=>h3 (by rw [<- gz hx]; exact h.2))]
  ·unfold z09
   dsimp only
   rw [if_neg (fun h=>h2 (by omega))]
theorem Inst_ok:SpecOk Tryz.prog Inst_n true (z03 true zix) :=
 z0b z0r (show z1c Tryz.prog Inst_g from z00 Arcs_ok (z05)) (by kernel_rfl) mixedOrders Tryz.func14 rfl rfl (by kernel_rfl) (n:=2) (by decide +kernel) (I:=Inst_IA) (fun _ _=>z06) (A:=Inst_A)
  (fun args h r hr=>by
   unfold zix at hr
   split at hr
   ·rename_i ty0 c ty1 d; cases hr; refine ⟨rfl,fun hp=>?_⟩; have hE:=Inst_E c d ty0 ty1 hp; exact hE
   ·cases hr)
end Go.Proofs.YtggblkbecekbdaaGreat
end
section
section
namespace Go.Ql
open Go Go.RowKit Go.Vc
def I64 (n:Int):Prop:=-9223372036854775808 <= n/\n <= 9223372036854775807
instance (n:Int):Decidable (I64 n):=instDecidableAnd
def U64 (n:Int):Prop:=0 <= n/\n <= 18446744073709551615
def W (n:Int):Wide:=⟨(n / 18446744073709551616+9223372036854775808) % 18446744073709551616 - 9223372036854775808,n % 18446744073709551616⟩
def Wide.v (w:Wide):Int:=w.hi * 18446744073709551616+w.lo
def Wide.ok (w:Wide):Prop:=I64 w.hi/\U64 w.lo
def zcx (n:Int):Prop:=-170141183460469231731687303715884105728 <= n/\n <= 170141183460469231731687303715884105727
theorem zgw (x:Int):IntKind.i64.wrap x=(x+9223372036854775808) % 18446744073709551616 - 9223372036854775808:=by
 unfold IntKind.wrap; simp [IntKind.bits,IntKind.signed]; omega
theorem z8w (x:Int):IntKind.u64.wrap x=x % 18446744073709551616:=by
 unfold IntKind.wrap; simp [IntKind.bits,IntKind.signed]
theorem zey (n:Int):(W n).ok:=by unfold W Wide.ok I64 U64; dsimp only; omega
theorem W_congr {m n k:Int} (h:m=n+k * 340282366920938463463374607431768211456):W m=W n:=by
 unfold W
 have e1:m / 18446744073709551616=n / 18446744073709551616+k * 18446744073709551616:=by omega
 have e2:m % 18446744073709551616=n % 18446744073709551616:=by omega
 rw [e1,e2]
 have e3:(n / 18446744073709551616+k * 18446744073709551616+9223372036854775808) % 18446744073709551616=(n / 18446744073709551616+9223372036854775808) % 18446744073709551616:=by omega
 rw [e3]
theorem W_v {w:Wide} (h:w.ok):W w.v=w:=by
 obtain ⟨hi,lo⟩:=w
 unfold Wide.ok I64 U64 at h
 dsimp only at h
 unfold W Wide.v
 dsimp only
 congr 1 <;> omega
theorem v_W (n:Int):∃ k:Int,(W n).v=n+k * 340282366920938463463374607431768211456:=by
 unfold W Wide.v
 dsimp only
 refine ⟨-((n / 18446744073709551616+9223372036854775808) / 18446744073709551616),?_⟩
 omega
theorem v_of {n:Int} (h:zcx n):(W n).v=n:=by
 unfold zcx at h
 unfold W Wide.v
 dsimp only
 omega
theorem W_inj {m n:Int} (hm:zcx m) (hn:zcx n) (h:W m=W n):m=n:=by
 have:=congrArg Wide.v h
 rwa [v_of hm,v_of hn] at this
def z3g (a b:Wide):Wide:=W (a.v+b.v)
def z3f (a b:Wide):Wide:=W (a.v - b.v)
def zie (a b:Wide):Int:=if a.v<b.v then -1 else if b.v<a.v then 1 else 0
@[simp] theorem zcw (m n:Int):z3g (W m) (W n)=W (m+n):=by
 obtain ⟨k,hk⟩:=v_W m
 obtain ⟨j,hj⟩:=v_W n
 exact W_congr (k:=k+j) (by rw [hk,hj]; omega)
@[simp] theorem zif (m n:Int):z3f (W m) (W n)=W (m - n):=by
 obtain ⟨k,hk⟩:=v_W m
 obtain ⟨j,hj⟩:=v_W n
 exact W_congr (k:=k - j) (by rw [hk,hj]; omega)
theorem zbk {m n:Int} (hm:zcx m) (hn:zcx n):zie (W m) (W n)=if m<n then -1 else if n<m then 1 else 0:=by
 unfold zie; rw [v_of hm,v_of hn]
theorem W_zero:W 0=⟨0,0⟩:=by decide
theorem ok_zero:(⟨0,0⟩:Wide).ok:=by unfold Wide.ok I64 U64; dsimp only; omega
theorem zkt {a b A B:Int} (ha:-A <= a) (ha':a <= A) (hb:-B <= b) (hb':b <= B) (hA:0 <= A) (hB:0 <= B):-(A * B) <= a * b/\a * b <= A * B:=by
 have h1:=Int.mul_nonneg (show 0 <= A - a by omega) (show 0 <= B - b by omega)
 have h2:=Int.mul_nonneg (show 0 <= A+a by omega) (show 0 <= B+b by omega)
 have h3:=Int.mul_nonneg (show 0 <= A - a by omega) (show 0 <= B+b by omega)
 have h4:=Int.mul_nonneg (show 0 <= A+a by omega) (show 0 <= B - b by omega)
 simp only [Int.sub_mul,Int.add_mul,Int.mul_sub,Int.mul_add] at h1 h2 h3 h4
 omega
theorem and_low {x:Int} (h0:0 <= x) (h1:x <= 18446744073709551615):andS .u64 x 4294967295=x % 4294967296:=by
 unfold andS
 have e:(BitVec.ofInt IntKind.u64.bits x &&& BitVec.ofInt IntKind.u64.bits 4294967295).toNat=x.toNat % 4294967296:=by
  rw [BitVec.toNat_and,BitVec.toNat_ofInt,BitVec.toNat_ofInt]
  have hb:IntKind.u64.bits=64:=rfl
  rw [hb]
  have e1:(x % ((2 ^ 64:Nat):Int)).toNat=x.toNat:=by
   rw [Int.emod_eq_of_lt h0 (by omega)]
  have e2:((4294967295:Int) % ((2 ^ 64:Nat):Int)).toNat=2 ^ 32 - 1:=by decide
  rw [e1,e2,Nat.and_two_pow_sub_one_eq_mod]
 rw [e,z8w]
 omega
theorem not_i64 {x:Int} (h:I64 x):notS .i64 x = -1 - x:=by
 unfold I64 at h
 unfold notS
 have e:(BitVec.ofInt IntKind.i64.bits (if IntKind.i64.signed then -1 else IntKind.i64.max) ^^^ BitVec.ofInt IntKind.i64.bits x)=BitVec.ofInt 64 (-1 - x):=by
  show (BitVec.ofInt 64 (-1) ^^^ BitVec.ofInt 64 x)=_
  have h1:BitVec.ofInt 64 (-1)=BitVec.allOnes 64:=by decide
  rw [h1,BitVec.allOnes_xor]
  rw [BitVec.not_eq_neg_add,<- BitVec.ofInt_neg]
  rw [show (-1 - x:Int) = -x + -1 by omega,BitVec.ofInt_add]
  rw [BitVec.sub_eq_add_neg]
  congr 1
 rw [e,zgw]
 show ((((BitVec.ofInt 64 (-1 - x)).toNat:Nat):Int)+_) % _ - _=_
 rw [BitVec.toNat_ofInt]
 omega
theorem not_u64 {x:Int} (h:U64 x):notS .u64 x=18446744073709551615 - x:=by
 unfold U64 at h
 unfold notS
 have e:(BitVec.ofInt IntKind.u64.bits (if IntKind.u64.signed then -1 else IntKind.u64.max) ^^^ BitVec.ofInt IntKind.u64.bits x)=BitVec.ofInt 64 (-1 - x):=by
  show (BitVec.ofInt 64 (18446744073709551615) ^^^ BitVec.ofInt 64 x)=_
  have h1:BitVec.ofInt 64 18446744073709551615=BitVec.allOnes 64:=by decide
  rw [h1,BitVec.allOnes_xor]
  rw [BitVec.not_eq_neg_add,<- BitVec.ofInt_neg]
  rw [show (-1 - x:Int) = -x + -1 by omega,BitVec.ofInt_add]
  rw [BitVec.sub_eq_add_neg]
  congr 1
 rw [e,z8w]
 show (((BitVec.ofInt 64 (-1 - x)).toNat:Nat):Int) % _=_
 rw [BitVec.toNat_ofInt]
 omega
def inf:Int:=4611686018427387904
def z3v (n:Int) (a:Arc):Bool:=decide (0 <= a.src) && decide (a.src<n) && (decide (0 <= a.dst) && decide (a.dst<n))
theorem okArc_iff {n:Int} {a:Arc}:z3v n a=true ↔ 0 <= a.src/\a.src<n/\0 <= a.dst/\a.dst<n:=by
 simp [z3v,and_assoc]
def A64 (l:List Int):Prop:=∀ x ∈ l,I64 x
theorem A64.getD {l:List Int} (h:A64 l) (k:Nat):I64 (l.getD k 0):=by
 by_cases hk:k<l.length
 ·have:=h _ (List.getElem_mem hk)
  simpa [List.getD,hk] using this
 ·simp [List.getD,hk,I64]
def z5m (n:Int) (a:Arc) (f:Int) (v:Int):Int:=if z3v n a then (if a.src=v then f else 0) - (if a.dst=v then f else 0) else 0
def z3z (n:Int) (l:List Arc) (x:List Int):Nat->Int->Int
 | 0,_=>0
 | k+1,v=>z3z n l x k v+z5m n (l.getD k default) (x.getD k 0) v
def z92 (I:Inst) (x:List Int):List Wide:=(List.range I.sup.length).map (fun v:Nat=>W (z3z I.sup.length I.arcs x I.arcs.length v))
def z4z (l:List Arc) (x:List Int):Nat->Int
 | 0=>0
 | k+1=>z4z l x k+(l.getD k default).cost * x.getD k 0
def zbu (I:Inst) (x:List Int):Int:=z4z I.arcs x I.arcs.length
def fitF (a:Arc) (x:Int):Bool:=decide (a.low <= x) && (decide (a.cap=inf) || decide (x <= a.cap))
def z2i:List Arc->List Int->Bool
 | [],_=>true
 | a :: l,x=>fitF a (x.headD 0) && z2i l x.tail
def netOk (I:Inst) (x:List Int):Bool:=(List.range I.sup.length).all (fun v=>decide (W (z3z I.sup.length I.arcs x I.arcs.length v)=W (I.sup.getD v 0)))
def z1w (I:Inst) (x:List Int):Int :=
 if z02 I ≠ 0 then z02 I else if x.length ≠ I.arcs.length then 30 else if !z2i I.arcs x then 31 else if !netOk I x then 32 else 0
def gOk (n:Int) (l:List Arc) (a:Int):Bool:=decide (0 <= a) && decide (a<l.length) && z3v n (l.getD a.toNat default)
def z2b (n:Int) (l:List Arc) (a:Int):Arc:=if gOk n l a then l.getD a.toNat default else ⟨0,0,0,0,0⟩
def A64a (l:List Arc):Prop:=∀ a ∈ l,I64 a.low/\I64 a.cap
def A64c (l:List Arc):Prop:=∀ a ∈ l,I64 a.cost
def L42 (l:List Arc):Prop:=∀ a ∈ l,0 <= a.low/\a.low <= 4398046511104
theorem zkd {n:Int} {l:List Arc} {a:Int} {x:Arc} (h0:0 <= a) (h:l[a.toNat]? = some x):gOk n l a=z3v n x:=by
 have hl:=get_lt h
 unfold gOk
 have hg:l.getD a.toNat default=x:=by simp [List.getD,h]
 rw [hg]
 simp [h0,show a<(l.length:Int) by omega]
theorem gArc_at {n:Int} {l:List Arc} {a:Int} {x:Arc} (h0:0 <= a) (h:l[a.toNat]? = some x):z2b n l a=if z3v n x then x else ⟨0,0,0,0,0⟩:=by
 have hg:l.getD a.toNat default=x:=by simp [List.getD,h]
 unfold z2b
 rw [zkd h0 h,hg]
theorem zke {n:Int} {l:List Arc} {a:Int} (h:a<0 ∨ l.length <= a):gOk n l a=false:=by
 unfold gOk
 rcases h with h | h
 ·simp [show ¬ 0 <= a by omega]
 ·simp [show ¬ a<(l.length:Int) by omega]
theorem gArc_out {n:Int} {l:List Arc} {a:Int} (h:a<0 ∨ l.length <= a):z2b n l a=⟨0,0,0,0,0⟩:=by
 unfold z2b; rw [zke h]; rfl
theorem z3k {α:Type} (f:Nat->α) (n j:Nat) (v:α):((List.range n).map f).set j v=(List.range n).map (fun t=>if t=j then v else f t):=by
 apply List.ext_getElem?
 intro i
 rw [List.getElem?_set]
 by_cases hi:i<n
 ·by_cases h:j=i
  ·subst h; simp [hi]
  ·have h':¬ i=j:=fun e=>h e.symm
   simp [h,h',hi]
 ·by_cases h:j=i
  ·subst h; simp [hi]
  ·simp [h,hi]
theorem z1f {α:Type} {f:Nat->α} {n j:Nat} {v:α} (h:((List.range n).map f)[j]? = some v):j<n/\v=f j:=by
 rw [List.getElem?_map] at h
 obtain ⟨z,hz,rfl⟩:=Option.map_eq_some_iff.1 h
 have hj:j<n:=by have:=get_lt hz; simpa using this
 rw [List.getElem?_range hj] at hz
 cases hz; exact ⟨hj,rfl⟩
theorem netF_len (I:Inst) (x:List Int):(z92 I x).length=I.sup.length:=by simp [z92]
theorem fitsAll_drop {l:List Arc} {x:List Int} {k:Nat} {a:Arc} (h:l[k]? = some a):z2i (l.drop k) (x.drop k)=(fitF a (x.getD k 0) && z2i (l.drop (k+1)) (x.drop (k+1))):=by
 rw [z3i h,z2i]
 congr 1
 ·congr 1
  by_cases hk:k<x.length
  ·rw [List.drop_eq_getElem_cons hk]; simp [List.getD,hk]
  ·simp [List.drop_of_length_le (Nat.le_of_not_lt hk),List.getD,hk]
 ·rw [List.tail_drop]
theorem zdw (I:Inst):0 <= z02 I/\z02 I <= 25:=by
  have h1:∀ (n:Int) (l:List Arc),0 <= z16 n l/\z16 n l <= 23:=fun n l=>by
    induction l with
    | nil=>simp [z16]
    | cons x l ih=>simp only [z16]; unfold z0f at *; (repeat' split) <;> omega
  have h2:∀ (l:List Int) (s:Int),0 <= z1o l s/\z1o l s <= 25:=fun l=>by
    induction l with
    | nil=>intro s; simp only [z1o]; split <;> omega
    | cons x l ih => intro s; simp only [z1o]; split
                     · omega
                     · exact ih _
  have:=h1 I.sup.length I.arcs
  have:=h2 I.sup 0
  unfold z02; (repeat' split) <;> omega
theorem zjf {n:Int}:∀ {l:List Arc},z16 n l=0->∀ a ∈ l,z0f a n=0
 | [],_,a,ha=>by cases ha
 | b :: l,h,a,ha=>by
  simp only [z16] at h
  split at h
  ·rename_i hb
   cases ha with
   | head=>first | exact hb | (simp at hb; exact hb)
   | tail _ ha=>exact zjf h a ha
  ·rename_i hb
   exact absurd h hb
theorem z1r {I:Inst} (h:z02 I=0) {a:Arc} (ha:a ∈ I.arcs):z3v I.sup.length a=true/\(0 <= a.low/\a.low <= 4398046511104/\(a.cap=4611686018427387904 ∨ a.low <= a.cap/\a.cap <= 4398046511104))/\-4398046511104 <= a.cost/\a.cost <= 4398046511104:=by
 unfold z02 at h
 split at h
 ·omega
 ·split at h
  ·rename_i he
   have hr:=zjf he a ha
   unfold z0f at hr
   rw [okArc_iff]
   (repeat' split at hr) <;> first | omega | (simp_all; omega) | grind
  ·rename_i he; exact absurd h he
theorem A64.set {l:List Int} (h:A64 l) {k:Nat} {v:Int} (hv:I64 v):A64 (l.set k v):=fun y hy=>by
 rcases List.mem_or_eq_of_mem_set hy with hy | rfl
 ·exact h y hy
 ·exact hv
def hasK (a:Arc) (j:Nat):Bool:=decide ((j:Int)=2 * a.src) || decide ((j:Int)=2 * a.dst+1)
def inK (I:Inst) (j a:Nat):Bool:=z3v I.sup.length (I.arcs.getD a default) && hasK (I.arcs.getD a default) j
def segA (I:Inst) (m j:Nat):List Nat:=(List.range m).filter (inK I j)
def z72 (I:Inst) (m j:Nat):Nat:=(segA I m j).length
def z93 (I:Inst):Nat->Nat
 | 0=>0
 | k+1=>z93 I k+z72 I I.arcs.length k
def z15 (I:Inst):List Int:=(List.range (2 * I.sup.length+1)).map (fun k=>(z93 I k:Int))
def z3y (I:Inst):List Int:=(List.range (2 * I.sup.length)).flatMap (fun j=>(segA I I.arcs.length j).map Int.ofNat)
def S1 (I:Inst) (m:Nat):List Int:=(List.range (2 * I.sup.length+1)).map (fun k=>if k=0 then 0 else (z72 I m (k - 1):Int))
def S2 (I:Inst) (k:Nat):List Int:=(List.range (2 * I.sup.length+1)).map (fun i=>if i <= k then (z93 I i:Int) else (z72 I I.arcs.length (i - 1):Int))
def N3 (I:Inst) (m:Nat):List Int:=(List.range (2 * I.sup.length+1)).map (fun k=>((z93 I k+z72 I m k:Nat):Int))
def segL (I:Inst) (m j:Nat):List Int:=(segA I m j).map Int.ofNat ++ List.replicate (z72 I I.arcs.length j - z72 I m j) 0
def L3 (I:Inst) (m:Nat):List Int:=(List.range (2 * I.sup.length)).flatMap (segL I m)
theorem ze0 (I:Inst) (m j:Nat):segA I (m+1) j=segA I m j ++ (if inK I j m then [m] else []):=by
 unfold segA
 rw [List.range_succ,List.filter_append]
 congr 1
 cases h:inK I j m <;> simp [h]
theorem z36 (I:Inst) (m j:Nat):z72 I (m+1) j=z72 I m j+(if inK I j m then 1 else 0):=by
 unfold z72
 rw [ze0,List.length_append]
 split <;> simp
theorem zju (I:Inst) (j:Nat):z72 I 0 j=0:=rfl
theorem z9a (I:Inst) (j:Nat):∀ m,z72 I m j <= m
 | 0=>Nat.le_refl _
 | m+1=>by rw [z36]; have:=z9a I j m; split <;> omega
theorem zjt (I:Inst) (j:Nat):∀ (m k:Nat),z72 I m j <= z72 I (m+k) j
 | m,0=>Nat.le_refl _
 | m,k+1=>by
  rw [show m+(k+1)=(m+k)+1 by omega,z36]
  have:=zjt I j m k
  omega
theorem cntA_lt {I:Inst} {m j:Nat} (hm:m<I.arcs.length) (h:inK I j m=true):z72 I m j<z72 I I.arcs.length j:=by
 have h1:=zjt I j (m+1) (I.arcs.length - (m+1))
 rw [show m+1+(I.arcs.length - (m+1))=I.arcs.length by omega,z36,if_pos h] at h1
 omega
theorem zab (I:Inst):∀ (j k:Nat),z93 I j <= z93 I (j+k)
 | j,0=>Nat.le_refl _
 | j,k+1=>by
  have:=zab I j k
  show z93 I j <= z93 I (j+k)+_
  omega
theorem sumA_le (I:Inst):∀ k,z93 I k <= k * I.arcs.length
 | 0=>by simp [z93]
 | k+1=>by
  have h1:=sumA_le I k
  have h2:=z9a I k I.arcs.length
  show z93 I k+_ <= _
  rw [Nat.add_mul]; omega
theorem S1_zero (I:Inst):S1 I 0=List.replicate (2 * I.sup.length+1) 0:=by
 unfold S1
 simp only [zju]
 apply List.ext_getElem?
 intro i
 by_cases h:i<2 * I.sup.length+1
 ·simp [h]
 ·simp [h]
theorem inK_of {I:Inst} {m:Nat} {a:Arc} (h:I.arcs[m]? = some a) (j:Nat):inK I j m=(z3v I.sup.length a && hasK a j):=by
 have hg:I.arcs.getD m default=a:=by simp [List.getD,h]
 unfold inK; rw [hg]
theorem hasK_iff {a:Arc} {j:Nat}:hasK a j=true ↔ (j:Int)=2 * a.src ∨ (j:Int)=2 * a.dst+1:=by simp [hasK]
theorem S1_step {I:Inst} {m:Nat} {a:Arc} (h:I.arcs[m]? = some a) (ho:z3v I.sup.length a=true) {p q:Int} (hp:(S1 I m)[(2 * a.src+1).toNat]? = some p)
  (hq:((S1 I m).set (2 * a.src+1).toNat (p+1))[(2 * a.dst+2).toNat]? = some q):((S1 I m).set (2 * a.src+1).toNat (p+1)).set (2 * a.dst+2).toNat (q+1)=S1 I (m+1):=by
 obtain ⟨o1,o2,o3,o4⟩:=okArc_iff.1 ho
 unfold S1 at hp hq ⊢
 obtain ⟨_,rfl⟩:=z1f hp
 rw [z3k] at hq ⊢
 obtain ⟨_,rfl⟩:=z1f hq
 rw [z3k]
 apply List.map_congr_left
 intro t ht
 have hk:∀ j,inK I j m=hasK a j:=fun j=>by rw [inK_of h,ho,Bool.true_and]
 by_cases e0:t=0
 ·subst e0
  rw [if_neg (by omega),if_neg (by omega),if_pos rfl,if_pos rfl]
 ·rw [if_neg e0,if_neg e0,z36,hk]
  by_cases e1:t=(2 * a.src+1).toNat <;> by_cases e2:t=(2 * a.dst+2).toNat
  ·omega
  ·rw [if_neg e2,if_pos e1,if_neg (by omega),<- e1]
   rw [if_pos (hasK_iff.2 (.inl (by omega)))]; omega
  ·rw [if_pos e2,if_neg (by omega),if_neg (by omega),<- e2]
   rw [if_pos (hasK_iff.2 (.inr (by omega)))]; omega
  ·rw [if_neg e2,if_neg e1,if_neg (fun h=>?_)]
   ·omega
   ·rcases hasK_iff.1 h with h | h <;> omega
theorem S1_same {I:Inst} {m:Nat} {a:Arc} (h:I.arcs[m]? = some a) (ho:z3v I.sup.length a=false):S1 I m=S1 I (m+1):=by
 unfold S1
 apply List.map_congr_left
 intro t ht
 rw [z36,inK_of h,ho]
 simp
theorem S1_get {I:Inst} {m j:Nat} {v:Int} (h:(S1 I m)[j]? = some v):v=if j=0 then 0 else (z72 I m (j - 1):Int):=by unfold S1 at h; exact (z1f h).2
theorem S2_get {I:Inst} {k j:Nat} {v:Int} (h:(S2 I k)[j]? = some v):v=if j <= k then (z93 I j:Int) else (z72 I I.arcs.length (j - 1):Int):=by unfold S2 at h; exact (z1f h).2
theorem startF_get {I:Inst} {j:Nat} {v:Int} (h:(z15 I)[j]? = some v):v=(z93 I j:Int):=by unfold z15 at h; exact (z1f h).2
theorem S1_S2 (I:Inst):S1 I I.arcs.length=S2 I 0:=by
 unfold S1 S2
 apply List.map_congr_left
 intro t ht
 by_cases e:t=0
 ·subst e; simp [z93]
 ·rw [if_neg e,if_neg (by omega)]
theorem S2_step {I:Inst} {k:Nat} {p q:Int} (hk:k<2 * I.sup.length) (hp:(S2 I k)[k+1]? = some p) (hq:(S2 I k)[k]? = some q):(S2 I k).set (k+1) (p+q)=S2 I (k+1):=by
 unfold S2 at hp hq ⊢
 obtain ⟨_,rfl⟩:=z1f hp
 obtain ⟨_,rfl⟩:=z1f hq
 rw [z3k]
 apply List.map_congr_left
 intro t ht
 by_cases e:t=k+1
 ·subst e
  rw [if_pos rfl,if_neg (by omega),if_pos (by omega),if_pos (by omega)]
  show _=((z93 I k+z72 I I.arcs.length k:Nat):Int)
  simp; omega
 ·rw [if_neg e]
  by_cases e2:t <= k
  ·rw [if_pos e2,if_pos (by omega)]
  ·rw [if_neg e2,if_neg (by omega)]
theorem S2_end (I:Inst):S2 I (2 * I.sup.length)=z15 I:=by
 unfold S2 z15
 apply List.map_congr_left
 intro t ht
 rw [if_pos (by have:=List.mem_range.1 ht; omega)]
theorem startF_N3 (I:Inst):z15 I=N3 I 0:=by
 unfold z15 N3
 apply List.map_congr_left
 intro t ht
 simp [zju]
theorem z8e {α β:Type} {f g:α->List β}:∀ {l:List α},(∀ t ∈ l,f t=g t)->l.flatMap f=l.flatMap g
 | [],_=>rfl
 | a :: l,h=>by rw [List.flatMap_cons,List.flatMap_cons,h a (by simp),z8e (fun t ht=>h t (by simp [ht]))]
theorem zkb {f:Nat->List Int} {v:Int}:∀ {n j i b:Nat},(∀ t,b <= t->t<b+n->(f t).length=(f t).length)->b <= j->j<b+n->i<(f j).length ->
  ((List.range' b n).flatMap f).set (((List.range' b (j - b)).map (fun t=>(f t).length)).sum+i) v=(List.range' b n).flatMap (fun t=>if t=j then (f j).set i v else f t)
 | 0,j,i,b,_,h1,h2,_=>by omega
 | n+1,j,i,b,hl,h1,h2,h3=>by
  rw [List.range'_succ,List.flatMap_cons,List.flatMap_cons]
  by_cases e:b=j
  ·subst e
   simp only [Nat.sub_self,List.range'_zero,List.map_nil,List.sum_nil,Nat.zero_add,if_true]
   rw [List.set_append_left _ _ h3]
   congr 1
   apply z8e
   intro t ht
   have:=List.mem_range'_1.1 ht
   rw [if_neg (by omega)]
  ·rw [if_neg e,show j - b=(j - (b+1))+1 by omega,List.range'_succ,List.map_cons,List.sum_cons]
   rw [show (f b).length+((List.range' (b+1) (j - (b+1))).map (fun t=>(f t).length)).sum+i=(f b).length+(((List.range' (b+1) (j - (b+1))).map (fun t=>(f t).length)).sum+i) by omega]
   rw [List.set_append_right _ _ (by omega),Nat.add_sub_cancel_left]
   congr 1
   exact zkb (fun _ _ _=>rfl) (by omega) (by omega) h3
theorem zib {I:Inst} {m:Nat} (hm:m <= I.arcs.length) (j:Nat):(segL I m j).length=z72 I I.arcs.length j:=by
 have:=zjt I j m (I.arcs.length - m)
 rw [show m+(I.arcs.length - m)=I.arcs.length by omega] at this
 unfold segL
 rw [List.length_append,List.length_map,List.length_replicate]
 show z72 I m j+_=_
 omega
theorem znk (I:Inst) {f:Nat->List Int} (hf:∀ t,(f t).length=z72 I I.arcs.length t):∀ j,((List.range' 0 j).map (fun t=>(f t).length)).sum=z93 I j
 | 0=>rfl
 | j+1=>by
  rw [List.range'_concat,List.map_append,List.sum_append,znk I hf j]
  simp [hf,z93]
theorem zka (I:Inst) {f:Nat->List Int} (hf:∀ t,(f t).length=z72 I I.arcs.length t) (n:Nat):((List.range n).flatMap f).length=z93 I n:=by
 rw [List.length_flatMap,List.range_eq_range',znk I hf n]
def segP (I:Inst) (m:Nat) (d:Nat->Bool) (j:Nat):List Int:=if d j then segL I (m+1) j else segL I m j
theorem segP_len {I:Inst} {m:Nat} (hm:m<I.arcs.length) (d:Nat->Bool) (j:Nat):(segP I m d j).length=z72 I I.arcs.length j:=by
 unfold segP; split
 ·exact zib (by omega) j
 ·exact zib (by omega) j
theorem segL_put {I:Inst} {m j:Nat} (hm:m<I.arcs.length) (h:inK I j m=true):(segL I m j).set (z72 I m j) (m:Int)=segL I (m+1) j:=by
 have hl:=cntA_lt hm h
 unfold segL
 rw [List.set_append_right _ _ (by simp [z72]),List.length_map,ze0,if_pos h,z36,if_pos h]
 show _ ++ (List.replicate (z72 I I.arcs.length j - z72 I m j) 0).set (z72 I m j - z72 I m j) _=_
 rw [Nat.sub_self,show z72 I I.arcs.length j - z72 I m j=(z72 I I.arcs.length j - (z72 I m j+1))+1 by omega,List.replicate_succ,List.set_cons_zero]
 simp
theorem L3_put {I:Inst} {m j:Nat} {d:Nat->Bool} (hm:m<I.arcs.length) (hj:j<2 * I.sup.length) (h:inK I j m=true) (hd:d j=false) :
  ((List.range (2 * I.sup.length)).flatMap (segP I m d)).set (z93 I j+z72 I m j) (m:Int)=(List.range (2 * I.sup.length)).flatMap (segP I m (fun t=>t == j || d t)):=by
 have hl:=segP_len hm d
 have h1:=zkb (f:=segP I m d) (v:=(m:Int)) (n:=2 * I.sup.length) (j:=j) (i:=z72 I m j) (b:=0) (fun _ _ _=>rfl) (by omega) (by omega) (by rw [hl]; exact cntA_lt hm h)
 rw [Nat.sub_zero,znk I hl,<- List.range_eq_range'] at h1
 rw [h1]
 apply z8e
 intro t ht
 by_cases e:t=j
 ·subst e
  simp only [if_true,segP,hd,beq_self_eq_true,Bool.true_or]
  exact segL_put hm h
 ·have:(t == j)=false:=by simp [e]
  simp only [e,if_false,segP,this,Bool.false_or]
def nP (I:Inst) (m:Nat) (d:Nat->Bool):List Int:=(List.range (2 * I.sup.length+1)).map (fun k=>((z93 I k+z72 I (if d k then m+1 else m) k:Nat):Int))
theorem nP_put {I:Inst} {m j:Nat} {d:Nat->Bool} (h:inK I j m=true) (hd:d j=false):(nP I m d).set j (((z93 I j+z72 I m j:Nat):Int)+1)=nP I m (fun t=>t == j || d t):=by
 unfold nP
 rw [z3k]
 apply List.map_congr_left
 intro t ht
 by_cases e:t=j
 ·subst e
  simp only [if_true,beq_self_eq_true,Bool.true_or]
  rw [z36,if_pos h]
  simp; omega
 ·have:(t == j)=false:=by simp [e]
  simp only [e,if_false,this,Bool.false_or]
theorem nP_get {I:Inst} {m j:Nat} {d:Nat->Bool} {v:Int} (h:(nP I m d)[j]? = some v) (hd:d j=false):v=((z93 I j+z72 I m j:Nat):Int):=by
 obtain ⟨_,rfl⟩:=z1f h
 simp [hd]
theorem N3_nP (I:Inst) (m:Nat):N3 I m=nP I m (fun _=>false):=rfl
theorem L3_segP (I:Inst) (m:Nat):L3 I m=(List.range (2 * I.sup.length)).flatMap (segP I m (fun _=>false)):=by
 unfold L3
 apply z8e
 intro t ht
 rfl
theorem nP_done {I:Inst} {m p q:Nat} (h:∀ j,inK I j m=true ↔ j=p ∨ j=q):nP I m (fun t=>t == q || (t == p || false))=N3 I (m+1):=by
 unfold nP N3
 apply List.map_congr_left
 intro t ht
 by_cases e:t=p ∨ t=q
 ·have:(t == q || (t == p || false))=true:=by rcases e with e | e <;> simp [e]
  simp only [this,if_true]
 ·have h1:(t == q || (t == p || false))=false:=by
   simp only [not_or] at e; simp [e.1,e.2]
  have h2:inK I t m=false:=by rw [Bool.eq_false_iff]; intro hk; exact e ((h t).1 hk)
  simp only [h1]
  rw [z36,h2]; simp
theorem L3_done {I:Inst} {m p q:Nat} (h:∀ j,inK I j m=true ↔ j=p ∨ j=q):(List.range (2 * I.sup.length)).flatMap (segP I m (fun t=>t == q || (t == p || false)))=L3 I (m+1):=by
 unfold L3
 apply z8e
 intro t ht
 unfold segP
 by_cases e:t=p ∨ t=q
 ·have:(t == q || (t == p || false))=true:=by rcases e with e | e <;> simp [e]
  simp only [this,if_true]
 ·have h1:(t == q || (t == p || false))=false:=by
   simp only [not_or] at e; simp [e.1,e.2]
  have h2:inK I t m=false:=by rw [Bool.eq_false_iff]; intro hk; exact e ((h t).1 hk)
  simp only [h1]
  unfold segL
  rw [ze0,z36,h2]; simp
theorem N3_same {I:Inst} {m:Nat} {a:Arc} (h:I.arcs[m]? = some a) (ho:z3v I.sup.length a=false):N3 I m=N3 I (m+1)/\L3 I m=L3 I (m+1):=by
 have hk:∀ j,inK I j m=false:=fun j=>by rw [inK_of h,ho]; rfl
 unfold N3 L3
 refine ⟨?_,?_⟩
 ·apply List.map_congr_left
  intro t ht
  rw [z36,hk]; simp
 ·apply z8e
  intro t ht
  unfold segL
  rw [ze0,z36,hk]; simp
theorem L3_zero (I:Inst):L3 I 0=List.replicate (z93 I (2 * I.sup.length)) 0:=by
 have hz:∀ j,segL I 0 j=List.replicate (z72 I I.arcs.length j) 0:=fun j=>by simp [segL,segA,zju]
 apply List.eq_replicate_iff.2
 refine ⟨zka I (fun t=>zib (by omega) t) _,fun b hb=>?_⟩
 unfold L3 at hb
 rw [List.mem_flatMap] at hb
 obtain ⟨j,_,hb⟩:=hb
 rw [hz] at hb
 exact (List.mem_replicate.1 hb).2
theorem L3_end (I:Inst):L3 I I.arcs.length=z3y I:=by
 unfold L3 z3y
 apply z8e
 intro t ht
 unfold segL
 simp
end Go.Ql
end
end
section
namespace Go.Ql
open Go Go.RowKit Go.Vc
def redA (a:Arc) (f t:Int):Int:=a.cost - f+t
def sgn (r:Int):Int:=zie (W r) (W 0)
def atA (I:Inst) (a:Int):Arc:=z2b I.sup.length I.arcs a
def atF (I:Inst) (pot:List Int) (a:Int):Int:=if gOk I.sup.length I.arcs a then pot.getD (atA I a).src.toNat 0 else 0
def atT (I:Inst) (pot:List Int) (a:Int):Int:=if gOk I.sup.length I.arcs a then pot.getD (atA I a).dst.toNat 0 else 0
def redF (I:Inst) (pot:List Int) (a:Int):Int:=if gOk I.sup.length I.arcs a then redA (atA I a) (atF I pot a) (atT I pot a) else 0
def z6t (r x:Int) (a:Arc):Bool:=!((decide (0<sgn r) && decide (x ≠ a.low)) || (decide (sgn r<0) && (decide (x ≠ a.cap) || decide (a.cap=inf))))
def z45 (I:Inst) (x pot:List Int) (k:Nat):Bool:=z6t (redF I pot k) (x.getD k 0) (I.arcs.getD k default)
def z1l (I:Inst) (x pot:List Int):Int :=
 if z1w I x ≠ 0 then z1w I x else if pot.length ≠ I.sup.length then 30 else if (List.range I.arcs.length).all (z45 I x pot) then 0 else 33
def boundS (l pot:List Int):Nat->Int
 | 0=>0
 | k+1=>boundS l pot k+l.getD k 0 * pot.getD k 0
def potR (pot:List Int) (n:Int):Int:=if 0 <= n then pot.getD n.toNat 0 else 0
def redP (pot:List Int) (a:Arc):Int:=redA a (potR pot a.src) (potR pot a.dst)
def z2u (n:Int) (pot:List Int):List Arc->Int->Option Int
 | [],s=>some s
 | a :: l,s=>if z3v n a then (if sgn (redP pot a)<0 then if a.cap=inf then none else z2u n pot l (s+a.cap * redP pot a) else z2u n pot l (s+a.low * redP pot a)) else z2u n pot l s
def boundF (I:Inst) (pot:List Int):Option Int:=z2u I.sup.length pot I.arcs (boundS I.sup pot I.sup.length)
theorem sgn_zero:sgn 0=0:=by decide
theorem atA_get {I:Inst} {k:Nat} {x:Arc} (h:I.arcs[k]? = some x) (ho:z3v I.sup.length x=true):atA I k=x:=by
 have hg:gOk I.sup.length I.arcs (k:Int)=true:=by rw [zkd (by omega) (by rw [Int.toNat_natCast]; exact h)]; exact ho
 unfold atA z2b
 rw [if_pos hg,Int.toNat_natCast]
 simp [List.getD,h]
end Go.Ql
end
