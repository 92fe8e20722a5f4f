/- Part of the proof: DB9, FB9, Law10, DC10. -/
import Derived.Test.YtapeenpimcffpaaGreatZG6
import Derived.Test.YtapeenpimcffpaaGreatZG5
set_option linter.all false
set_option linter.unusedSimpArgs false
set_option linter.unusedVariables false
set_option maxRecDepth 1000000
section
namespace Go.Proofs.YtapeenpimcffpaaGreat
open Go Go.RowKit Go.Ql Go.Vc
def has_r (g_n:Int) (g_l:List Arc) (g_i:List Int) (g_s:List Int) (a:Int):FRes:={ pre:=True,res:=.bool (decide (0 <= a) && decide (a<g_n)),rows:=[],eff:=[] }
def has_fs:FS:=fun args h=>match args,h with
 | [.ptr 0 0 0 0,.int .i64 a],[(0,.box false ty0 [.int .i64 g_n,.row 1,.row 2,.row 3]),(1,.row false ty1 (.arcs g_l)),(2,.row false ty2 (.ints .i64 g_i)),(3,.row false ty3 (.ints .i64 g_s))]=>some (has_r g_n g_l g_i g_s a)
 | _,_=>none
def has_an (g_n:Int) (g_l:List Arc) (g_i:List Int) (g_s:List Int) (a:Int):List (Nat × Ann):=[]
def has_A:List SV->z0e->List (Nat × Ann):=fun _ _=>[]
def has_g:z0c:=[]
abbrev has_n:Nat:=125
def has_I (g_n:Int) (g_l:List Arc) (g_i:List Int) (g_s:List Int) (a:Int):List (Nat × z09):=[]
def has_IA:List SV->z0e->List (Nat × z09):=fun _ _=>[]
def GArc_r (g_n:Int) (g_l:List Arc) (g_i:List Int) (g_s:List Int) (a:Int):FRes:={ pre:=True,res:=.tup [.agg (zba (z6w g_n g_l a)),.bool (gOk g_n g_l a)],rows:=[],eff:=[] }
def GArc_fs:FS:=fun args h=>match args,h with
 | [.ptr 0 0 0 0,.int .i64 a],[(0,.box false ty0 [.int .i64 g_n,.row 1,.row 2,.row 3]),(1,.row false ty1 (.arcs g_l)),(2,.row false ty2 (.ints .i64 g_i)),(3,.row false ty3 (.ints .i64 g_s))]=>some (GArc_r g_n g_l g_i g_s a)
 | _,_=>none
def GArc_an (g_n:Int) (g_l:List Arc) (g_i:List Int) (g_s:List Int) (a:Int):List (Nat × Ann):=[]
def GArc_A:List SV->z0e->List (Nat × Ann):=fun _ _=>[]
def GArc_g:z0c:=[(has_n,(true,z02 true has_fs))]
abbrev GArc_n:Nat:=106
def GArc_I (g_n:Int) (g_l:List Arc) (g_i:List Int) (g_s:List Int) (a:Int):List (Nat × z09):=[]
def GArc_IA:List SV->z0e->List (Nat × z09):=fun _ _=>[]
def CloneI_r (l:List Int):FRes:={ pre:=l.length <= 1000000000,res:=.row 1,rows:=[.row 3 (.ints .i64 (l))],eff:=[] }
def zii:FS:=fun args h=>match args,h with
 | [.row 0],[(0,.row false ty0 (.ints .i64 l))]=>some (CloneI_r l)
 | _,_=>none
def CloneI_an (l:List Int):List (Nat × Ann):=[]
def CloneI_A:List SV->z0e->List (Nat × Ann):=fun _ _=>[]
def CloneI_g:z0c:=[]
abbrev CloneI_n:Nat:=107
def CloneI_I (l:List Int):List (Nat × z09):=[]
def CloneI_IA:List SV->z0e->List (Nat × z09):=fun _ _=>[]
abbrev put_n:Nat:=108
def put_g:z0c:=[]
def put_spec:Vc.Spec:=z2c TT put_g (fun _ _ _=>[]) Tryz.f108
def New_r (I:Inst):FRes:={ pre:=I.sup.length <= 10000/\I.arcs.length <= 10000,res:=.ptr 2 0 0 0,rows:=[.box 149 [.int .i64 I.sup.length,.row 3,.row 4,.row 5],.row 65 (.arcs I.arcs),.row 3 (.ints .i64 (z2i I)),.row 3 (.ints .i64 (z0w I))],eff:=[] }
def New_fs:FS:=fun args h=>match args,h with
 | [.agg [.row 0,.row 1]],[(0,.row false ty0 (.ints .i64 I_s)),(1,.row false ty1 (.arcs I_a))]=>some (New_r ⟨I_s,I_a⟩)
 | _,_=>none
def New_an (I:Inst):List (Nat × Ann):=[(1000002,{ G:=Unit,inv:=fun _=>⟨[(3,.ptr 9 0 0 0)],[(9,.box true 114 [.ptr 8 0 0 0]),(8,.box true 149 [.int .i64 (↑I.sup.length:Int),.row 4,.row 6,.row 7]),(6,.row true 3 (.ints .i64 [])),(7,.row true 3 (.ints .i64 [])),(4,.row true 65 (.arcs I.arcs))],10⟩,rel:=fun _ _=>True,meas:=fun _=>0 }),
 (4,{ G:=(Nat),inv:=fun k=>⟨[(3,.ptr 9 0 0 0),(35,.int .i64 (↑I.arcs.length:Int)),(36,.int .i64 k)],[(10,.row true 3 (.ints .i64 (S1 I k))),(9,.box true 114 [.ptr 8 0 0 0]),(8,.box true 149 [.int .i64 (↑I.sup.length:Int),.row 4,.row 6,.row 10]),(6,.row true 3 (.ints .i64 [])),(4,.row true 65 (.arcs I.arcs))],11⟩,rel:=fun k0 k=>k <= I.arcs.length,meas:=fun k=>I.arcs.length - k }),
 (12,{ G:=(Nat),inv:=fun k=>⟨[(3,.ptr 9 0 0 0),(77,.int .i64 (2 * I.sup.length:Nat)),(78,.int .i64 k)],[(10,.row true 3 (.ints .i64 (S2 I k))),(9,.box true 114 [.ptr 8 0 0 0]),(8,.box true 149 [.int .i64 (↑I.sup.length:Int),.row 4,.row 6,.row 10]),(6,.row true 3 (.ints .i64 [])),(4,.row true 65 (.arcs I.arcs))],11⟩,rel:=fun k0 k=>k <= 2 * I.sup.length,meas:=fun k=>2 * I.sup.length - k }),
 (20,{ G:=(Nat),inv:=fun k=>⟨[(3,.ptr 9 0 0 0),(9,.fn 108 [.ptr 9 0 0 0,.ptr 14 0 0 0]),(124,.int .i64 (↑I.arcs.length:Int)),(125,.int .i64 k)],[(14,.box true 29 [.row 12]),(12,.row true 3 (.ints .i64 (N3 I k))),(11,.row true 3 (.ints .i64 (L3 I k))),(10,.row true 3 (.ints .i64 (z0w I))),(9,.box true 114 [.ptr 8 0 0 0]),(8,.box true 149 [.int .i64 (↑I.sup.length:Int),.row 4,.row 11,.row 10]),(4,.row true 65 (.arcs I.arcs))],15⟩,rel:=fun k0 k=>k <= I.arcs.length,meas:=fun k=>I.arcs.length - k })]
def New_A:List SV->z0e->List (Nat × Ann):=fun args h=>match args,h with
 | [.agg [.row 0,.row 1]],[(0,.row false ty0 (.ints .i64 I_s)),(1,.row false ty1 (.arcs I_a))]=>New_an ⟨I_s,I_a⟩
 | _,_=>[]
def New_g:z0c:=[(Copy_n,(true,z02 true Copy_fs)),(GArc_n,(true,z02 true GArc_fs)),(CloneI_n,(true,z02 true zii)),(put_n,(false,put_spec))]
abbrev New_n:Nat:=79
def New_I (I:Inst):List (Nat × z09):=[]
def New_IA:List SV->z0e->List (Nat × z09):=fun _ _=>[]
def along_r (x:List Int) (a:Int):FRes:={ pre:=0 <= a,res:=.int .i64 (x.getD a.toNat 0),rows:=[],eff:=[] }
def zht:FS:=fun args h=>match args,h with
 | [.row 0,.int .i64 a],[(0,.row false ty0 (.ints .i64 x))]=>some (along_r x a)
 | _,_=>none
def along_an (x:List Int) (a:Int):List (Nat × Ann):=[]
def along_A:List SV->z0e->List (Nat × Ann):=fun _ _=>[]
def along_g:z0c:=[]
abbrev along_n:Nat:=101
def along_I (x:List Int) (a:Int):List (Nat × z09):=[]
def along_IA:List SV->z0e->List (Nat × z09):=fun _ _=>[]
def fit_r (x:Arc) (n:Int):FRes:={ pre:=True,res:=.bool (fitF x n),rows:=[],eff:=[] }
def fit_fs:FS:=fun args h=>match args,h with
 | [.agg [.int .i64 x_0,.int .i64 x_1,.int .i64 x_2,.int .i64 x_3,.int .i64 x_4],.int .i64 n],[]=>some (fit_r ⟨x_0,x_1,x_2,x_3,x_4⟩ n)
 | _,_=>none
def fit_an (x:Arc) (n:Int):List (Nat × Ann):=[]
def fit_A:List SV->z0e->List (Nat × Ann):=fun _ _=>[]
def fit_g:z0c:=[]
abbrev fit_n:Nat:=147
def fit_I (x:Arc) (n:Int):List (Nat × z09):=[]
def fit_IA:List SV->z0e->List (Nat × z09):=fun _ _=>[]
abbrev more_n:Nat:=175
def more_g:z0c:=[(Of_n,(true,z02 true zcy)),(zgy,(true,z02 true z82))]
def more_spec:Vc.Spec:=z2c TT more_g (fun _ _ _=>[]) Tryz.f175
abbrev less_n:Nat:=176
def less_g:z0c:=[(Of_n,(true,z02 true zcy)),(zev,(true,z02 true z81))]
def less_spec:Vc.Spec:=z2c TT less_g (fun _ _ _=>[]) Tryz.f176
abbrev flows_n:Nat:=161
def flows_g:z0c:=[(GArc_n,(true,z02 true GArc_fs)),(more_n,(false,more_spec)),(less_n,(false,less_spec))]
def flows_spec:Vc.Spec:=z2c TT flows_g (fun _ _ _=>[]) Tryz.f161
def Net_r (I:Inst) (x:List Int):FRes:={ pre:=I.sup.length <= 10000/\I.arcs.length <= 10000/\A64 x,res:=.row 3,rows:=[.row 54 (.wides (netF I x))],eff:=[] }
def Net_fs:FS:=fun args h=>match args,h with
 | [.agg [.row 0,.row 1],.row 2],[(0,.row false ty0 (.ints .i64 I_s)),(1,.row false ty1 (.arcs I_a)),(2,.row false ty2 (.ints .i64 x))]=>some (Net_r ⟨I_s,I_a⟩ x)
 | _,_=>none
def Net_an (I:Inst) (x:List Int):List (Nat × Ann):=[(1000002,{ G:=Unit,inv:=fun _=>⟨[(1,.row 2),(2,.ptr 3 0 0 0),(5,.ptr 12 0 0 0)],[(12,.box true 205 [.row 5,.ptr 6 0 0 0]),(6,.box true 149 [.int .i64 (↑I.sup.length:Int),.row 7,.row 8,.row 9]),(7,.row true 65 (.arcs I.arcs)),(8,.row true 3 (.ints .i64 (z2i I))),(9,.row true 3 (.ints .i64 (z0w I))),(5,.row true 54 (.wides (List.replicate (↑I.sup.length:Int).toNat { hi:=(0:Int),lo:=(0:Int):Wide }))),(3,.box true 25 [.row 0,.row 1]),(0,.row false 0 (.ints .i64 I.sup)),(1,.row false 0 (.arcs I.arcs)),(2,.row false 0 (.ints .i64 x))],13⟩,rel:=fun _ _=>True,meas:=fun _=>0 }),
 (3,{ G:=(Nat),inv:=fun k=>⟨[(1,.row 2),(5,.ptr 12 0 0 0),(16,.int .i64 (↑I.arcs.length:Int)),(17,.int .i64 k)],[(12,.box true 205 [.row 5,.ptr 6 0 0 0]),(6,.box true 149 [.int .i64 (↑I.sup.length:Int),.row 7,.row 8,.row 9]),(7,.row true 65 (.arcs I.arcs)),(8,.row true 3 (.ints .i64 (z2i I))),(9,.row true 3 (.ints .i64 (z0w I))),(5,.row true 54 (.wides (z61 I x k))),(2,.row false 0 (.ints .i64 x))],13⟩,rel:=fun k0 k=>k <= I.arcs.length,meas:=fun k=>I.arcs.length - k })]
def Net_A:List SV->z0e->List (Nat × Ann):=fun args h=>match args,h with
 | [.agg [.row 0,.row 1],.row 2],[(0,.row false ty0 (.ints .i64 I_s)),(1,.row false ty1 (.arcs I_a)),(2,.row false ty2 (.ints .i64 x))]=>Net_an ⟨I_s,I_a⟩ x
 | _,_=>[]
def Net_g:z0c:=[(New_n,(true,z02 true New_fs)),(along_n,(true,z02 true zht)),(flows_n,(false,flows_spec))]
abbrev Net_n:Nat:=148
def Net_I (I:Inst) (x:List Int):List (Nat × z09):=[]
def Net_IA:List SV->z0e->List (Nat × z09):=fun _ _=>[]
def Cost_r (I:Inst) (x:List Int):FRes:={ pre:=A64 x/\A64c I.arcs/\I.arcs.length <= 1000000,res:=.agg (z1f (W (z9e I x))),rows:=[],eff:=[] }
def Cost_fs:FS:=fun args h=>match args,h with
 | [.agg [.row 0,.row 1],.row 2],[(0,.row false ty0 (.ints .i64 I_s)),(1,.row false ty1 (.arcs I_a)),(2,.row false ty2 (.ints .i64 x))]=>some (Cost_r ⟨I_s,I_a⟩ x)
 | _,_=>none
def Cost_an (I:Inst) (x:List Int):List (Nat × Ann):=[(3,{ G:=(Nat),inv:=fun k=>⟨[(1,.row 2),(4,.ptr 4 0 0 0),(5,.ptr 5 0 0 0),(9,.row 1),(10,.int .i64 (↑I.arcs.length:Int)),(11,.int .i64 k)],[(5,.box true 54 (z1f (W (z3m I.arcs x k)))),(4,.box true 54 [.int .i64 (0:Int),.int .u64 (0:Int)]),(1,.row false 0 (.arcs I.arcs)),(2,.row false 0 (.ints .i64 x))],6⟩,rel:=fun k0 k=>k <= I.arcs.length,meas:=fun k=>I.arcs.length - k })]
def Cost_A:List SV->z0e->List (Nat × Ann):=fun args h=>match args,h with
 | [.agg [.row 0,.row 1],.row 2],[(0,.row false ty0 (.ints .i64 I_s)),(1,.row false ty1 (.arcs I_a)),(2,.row false ty2 (.ints .i64 x))]=>Cost_an ⟨I_s,I_a⟩ x
 | _,_=>[]
def Cost_g:z0c:=[(along_n,(true,z02 true zht)),(Times_n,(true,z02 true Times_fs)),(zgy,(true,z02 true z82))]
abbrev Cost_n:Nat:=58
def Cost_I (I:Inst) (x:List Int):List (Nat × z09):=[]
def Cost_IA:List SV->z0e->List (Nat × z09):=fun _ _=>[]
def Fits_r (I:Inst) (x:List Int):FRes:={ pre:=I.sup.length <= 10000/\I.arcs.length <= 10000/\A64 x/\A64 I.sup,res:=.int .u16 (z1a I x),rows:=[],eff:=[] }
def Fits_fs:FS:=fun args h=>match args,h with
 | [.agg [.row 0,.row 1],.row 2],[(0,.row false ty0 (.ints .i64 I_s)),(1,.row false ty1 (.arcs I_a)),(2,.row false ty2 (.ints .i64 x))]=>some (Fits_r ⟨I_s,I_a⟩ x)
 | _,_=>none
def Fits_an (I:Inst) (x:List Int):List (Nat × Ann):=[(7,{ G:=(Nat),inv:=fun k=>⟨[(1,.row 2),(2,.ptr 3 0 0 0),(22,.row 1),(23,.int .i64 (↑I.arcs.length:Int)),(24,.int .i64 k)],[(3,.box true 25 [.row 0,.row 1]),(0,.row false 0 (.ints .i64 I.sup)),(1,.row false 0 (.arcs I.arcs)),(2,.row false 0 (.ints .i64 x))],4⟩,rel:=fun k0 k=>k <= I.arcs.length/\z2n (I.arcs.drop k) (x.drop k)=z2n I.arcs x,meas:=fun k=>I.arcs.length - k }),
 (13,{ G:=(Nat),inv:=fun k=>⟨[(2,.ptr 3 0 0 0),(39,.row 4),(40,.int .i64 (↑(netF I x).length:Int)),(41,.int .i64 k)],[(4,.row true 54 (.wides (netF I x))),(3,.box true 25 [.row 0,.row 1]),(0,.row false 0 (.ints .i64 I.sup)),(1,.row false 0 (.arcs I.arcs))],5⟩,rel:=fun k0 k=>k <= I.sup.length/\∀ v,v<k->W (z52 I.sup.length I.arcs x I.arcs.length v)=W (I.sup.getD v 0),meas:=fun k=>I.sup.length - k })]
def Fits_A:List SV->z0e->List (Nat × Ann):=fun args h=>match args,h with
 | [.agg [.row 0,.row 1],.row 2],[(0,.row false ty0 (.ints .i64 I_s)),(1,.row false ty1 (.arcs I_a)),(2,.row false ty2 (.ints .i64 x))]=>Fits_an ⟨I_s,I_a⟩ x
 | _,_=>[]
def Fits_g:z0c:=[(zbw,(true,z02 true z6y)),(fit_n,(true,z02 true fit_fs)),(Net_n,(true,z02 true Net_fs)),(Of_n,(true,z02 true zcy))]
abbrev Fits_n:Nat:=133
def Fits_I (I:Inst) (x:List Int):List (Nat × z09):=[]
def Fits_IA:List SV->z0e->List (Nat × z09):=fun _ _=>[]
end Go.Proofs.YtapeenpimcffpaaGreat
end
section
namespace Go.Proofs.YtapeenpimcffpaaGreat
open Go Go.RowKit Go.Ql Go.Vc
def has_E0 (g_n : Int) (g_l : List Arc) (g_i : List Int) (g_s : List Int) (a : Int) (ty0 ty1 ty2 ty3 : TypeId) : Prop :=
      ((!false)=true ->
 (decide (a ≥ (0:Int))=true->(decide (a<g_n)=(decide ((0:Int) <= a) && decide (a<g_n))/\True)/\True) /\
 (decide (a ≥ (0:Int))=false->(false=(decide ((0:Int) <= a) && decide (a<g_n))/\True)/\True)) /\
 ((!false)=false->(false=(decide ((0:Int) <= a) && decide (a<g_n))/\True)/\True)
theorem has_q (g_n:Int) (g_l:List Arc) (g_i:List Int) (g_s:List Int) (a:Int) (ty0 ty1 ty2 ty3:TypeId):has_E0 g_n g_l g_i g_s a ty0 ty1 ty2 ty3=z2d TT has_g (has_I g_n g_l g_i g_s a) (has_an g_n g_l g_i g_s a) Tryz.f125 [.ptr 0 0 0 0,.int .i64 a] [(0,.box false ty0 [.int .i64 g_n,.row 1,.row 2,.row 3]),(1,.row false ty1 (.arcs g_l)),(2,.row false ty2 (.ints .i64 g_i)),(3,.row false ty3 (.ints .i64 g_s))] (has_r g_n g_l g_i g_s a):=by kernel_rfl
theorem has_E (g_n:Int) (g_l:List Arc) (g_i:List Int) (g_s:List Int) (a:Int) (ty0 ty1 ty2 ty3:TypeId) (hp:True):FVc TT has_g (has_I g_n g_l g_i g_s a) (has_an g_n g_l g_i g_s a) Tryz.f125 [.ptr 0 0 0 0,.int .i64 a] [(0,.box false ty0 [.int .i64 g_n,.row 1,.row 2,.row 3]),(1,.row false ty1 (.arcs g_l)),(2,.row false ty2 (.ints .i64 g_i)),(3,.row false ty3 (.ints .i64 g_s))] (has_r g_n g_l g_i g_s a):=by
 refine FVc.of (has_E0 g_n g_l g_i g_s a ty0 ty1 ty2 ty3) (has_q g_n g_l g_i g_s a ty0 ty1 ty2 ty3) ?_
 unfold has_E0
 simp only [eq_self,exists_const,forall_const,ne_eq,Int.toNat_natCast,zSS,z06]
 by_cases h:0 <= a <;> simp [h] <;> omega
theorem has_ok:SpecOk Tryz.prog has_n true (z02 true has_fs) :=
 z0a z0h (show z14 Tryz.prog has_g from z04) (by kernel_rfl) mixedOrders Tryz.func125 rfl rfl (by kernel_rfl) (n:=2) (by decide +kernel) (I:=has_IA) (fun _ _=>z07) (A:=has_A)
  (fun args h r hr=>by
   unfold has_fs at hr
   split at hr
   ·rename_i a ty0 g_n ty1 g_l ty2 g_i ty3 g_s; cases hr; refine ⟨rfl,fun hp=>?_⟩; have hE:=has_E g_n g_l g_i g_s a ty0 ty1 ty2 ty3 hp; exact hE
   ·cases hr)
def GArc_E0 (g_n : Int) (g_l : List Arc) (g_i : List Int) (g_s : List Int) (a : Int) (ty0 ty1 ty2 ty3 : TypeId) : Prop :=
      (false=true ->
 ((((0:Int)=(z6w g_n g_l a).src /\
 (0:Int)=(z6w g_n g_l a).dst/\(0:Int)=(z6w g_n g_l a).low/\(0:Int)=(z6w g_n g_l a).cap/\(0:Int)=(z6w g_n g_l a).cost/\True) /\
 false=gOk g_n g_l a/\True) /\
 True) /\
 True) /\
 (false=false ->
 (decide (a<(0:Int))=true ->
 ((((0:Int)=(z6w g_n g_l a).src /\
 (0:Int)=(z6w g_n g_l a).dst/\(0:Int)=(z6w g_n g_l a).low/\(0:Int)=(z6w g_n g_l a).cap/\(0:Int)=(z6w g_n g_l a).cost/\True) /\
 false=gOk g_n g_l a/\True) /\
 True) /\
 True) /\
 (decide (a<(0:Int))=false ->
 (decide (a ≥ (↑g_l.length:Int))=true ->
 ((((0:Int)=(z6w g_n g_l a).src /\
 (0:Int)=(z6w g_n g_l a).dst/\(0:Int)=(z6w g_n g_l a).low/\(0:Int)=(z6w g_n g_l a).cap/\(0:Int)=(z6w g_n g_l a).cost/\True) /\
 false=gOk g_n g_l a/\True) /\
 True) /\
 True) /\
 (decide (a ≥ (↑g_l.length:Int))=false ->
 ((0:Int) <= a/\a<(↑g_l.length:Int)) /\
 a.toNat<g_l.length /\
 ∀ (x:Arc),
 g_l[a.toNat]? = some x ->
 True /\
 ((!(decide ((0:Int) <= x.src) && decide (x.src<g_n)))=true ->
 ((((0:Int)=(z6w g_n g_l a).src /\
 (0:Int)=(z6w g_n g_l a).dst /\
 (0:Int)=(z6w g_n g_l a).low/\(0:Int)=(z6w g_n g_l a).cap/\(0:Int)=(z6w g_n g_l a).cost/\True) /\
 false=gOk g_n g_l a/\True) /\
 True) /\
 True) /\
 ((!(decide ((0:Int) <= x.src) && decide (x.src<g_n)))=false ->
 True /\
 ((!(decide ((0:Int) <= x.dst) && decide (x.dst<g_n)))=true ->
 ((((0:Int)=(z6w g_n g_l a).src /\
 (0:Int)=(z6w g_n g_l a).dst /\
 (0:Int)=(z6w g_n g_l a).low/\(0:Int)=(z6w g_n g_l a).cap/\(0:Int)=(z6w g_n g_l a).cost/\True) /\
 false=gOk g_n g_l a/\True) /\
 True) /\
 True) /\
 ((!(decide ((0:Int) <= x.dst) && decide (x.dst<g_n)))=false ->
 (((x.src=(z6w g_n g_l a).src /\
 x.dst=(z6w g_n g_l a).dst/\x.low=(z6w g_n g_l a).low/\x.cap=(z6w g_n g_l a).cap/\x.cost=(z6w g_n g_l a).cost/\True) /\
 true=gOk g_n g_l a/\True) /\
 True) /\
 True)))))
theorem GArc_q (g_n:Int) (g_l:List Arc) (g_i:List Int) (g_s:List Int) (a:Int) (ty0 ty1 ty2 ty3:TypeId):GArc_E0 g_n g_l g_i g_s a ty0 ty1 ty2 ty3=z2d TT GArc_g (GArc_I g_n g_l g_i g_s a) (GArc_an g_n g_l g_i g_s a) Tryz.f106 [.ptr 0 0 0 0,.int .i64 a] [(0,.box false ty0 [.int .i64 g_n,.row 1,.row 2,.row 3]),(1,.row false ty1 (.arcs g_l)),(2,.row false ty2 (.ints .i64 g_i)),(3,.row false ty3 (.ints .i64 g_s))] (GArc_r g_n g_l g_i g_s a):=by kernel_rfl
theorem GArc_E (g_n:Int) (g_l:List Arc) (g_i:List Int) (g_s:List Int) (a:Int) (ty0 ty1 ty2 ty3:TypeId) (hp:True):FVc TT GArc_g (GArc_I g_n g_l g_i g_s a) (GArc_an g_n g_l g_i g_s a) Tryz.f106 [.ptr 0 0 0 0,.int .i64 a] [(0,.box false ty0 [.int .i64 g_n,.row 1,.row 2,.row 3]),(1,.row false ty1 (.arcs g_l)),(2,.row false ty2 (.ints .i64 g_i)),(3,.row false ty3 (.ints .i64 g_s))] (GArc_r g_n g_l g_i g_s a):=by
 refine FVc.of (GArc_E0 g_n g_l g_i g_s a ty0 ty1 ty2 ty3) (GArc_q g_n g_l g_i g_s a ty0 ty1 ty2 ty3) ?_
 unfold GArc_E0
 simp only [eq_self,exists_const,forall_const,ne_eq,Int.toNat_natCast,zSS,z06]
 refine ⟨fun h=>(by cases h),fun h=>?_,fun h=>⟨fun h2=>?_,fun h2=>⟨by omega,by omega,fun x hx=>?_⟩⟩⟩
 ·simp [gArc_out (n:=g_n) (l:=g_l) (.inl h),zl9 (n:=g_n) (l:=g_l) (.inl h)]
 ·simp [gArc_out (n:=g_n) (l:=g_l) (.inr h2),zl9 (n:=g_n) (l:=g_l) (.inr h2)]
 ·rw [zh3 (by omega) hx,gArc_at (by omega) hx]
  have e:z2z g_n x=((decide (0 <= x.src) && decide (x.src<g_n)) && (decide (0 <= x.dst) && decide (x.dst<g_n))):=rfl
  refine ⟨fun h3=>?_,fun h3=>⟨fun h4=>?_,fun h4=>?_⟩⟩
  ·simp [e,h3]
  ·simp [e,h3,h4]
  ·simp [e,h3,h4]
theorem GArc_ok:SpecOk Tryz.prog GArc_n true (z02 true GArc_fs) :=
 z0a z0h (show z14 Tryz.prog GArc_g from z00 has_ok (z04)) (by kernel_rfl) mixedOrders Tryz.func106 rfl rfl (by kernel_rfl) (n:=2) (by decide +kernel) (I:=GArc_IA) (fun _ _=>z07) (A:=GArc_A)
  (fun args h r hr=>by
   unfold GArc_fs at hr
   split at hr
   ·rename_i a ty0 g_n ty1 g_l ty2 g_i ty3 g_s; cases hr; refine ⟨rfl,fun hp=>?_⟩; have hE:=GArc_E g_n g_l g_i g_s a ty0 ty1 ty2 ty3 hp; exact hE
   ·cases hr)
def zih (l : List Int) (ty0 : TypeId) : Prop :=
      ∀ (b:Bool),
 ((0:Nat)<l.length->b=false)->(b=true->(True/\True)/\[]=l/\True)/\(b=false->(0:Nat)+l.length <= (1000000000:Nat)/\(True/\True)/\l=l/\True)
theorem CloneI_q (l:List Int) (ty0:TypeId):zih l ty0=z2d TT CloneI_g (CloneI_I l) (CloneI_an l) Tryz.f107 [.row 0] [(0,.row false ty0 (.ints .i64 l))] (CloneI_r l):=by kernel_rfl
theorem CloneI_E (l:List Int) (ty0:TypeId) (hp:l.length <= 1000000000):FVc TT CloneI_g (CloneI_I l) (CloneI_an l) Tryz.f107 [.row 0] [(0,.row false ty0 (.ints .i64 l))] (CloneI_r l):=by
 refine FVc.of (zih l ty0) (CloneI_q l ty0) ?_
 unfold zih
 simp only [eq_self,exists_const,forall_const,ne_eq,Int.toNat_natCast,zSS,z06]
 refine fun b hb=>⟨fun h=>?_,fun h=>by omega⟩
 have:l=[]:=by
  cases l with
  | nil=>rfl
  | cons y l=>have:=hb (by simp); rw [h] at this; cases this
 rw [this]
theorem CloneI_ok:SpecOk Tryz.prog CloneI_n true (z02 true zii) :=
 z0a z0h (show z14 Tryz.prog CloneI_g from z04) (by kernel_rfl) mixedOrders Tryz.func107 rfl rfl (by kernel_rfl) (n:=1) (by decide +kernel) (I:=CloneI_IA) (fun _ _=>z07) (A:=CloneI_A)
  (fun args h r hr=>by
   unfold zii at hr
   split at hr
   ·rename_i ty0 l; cases hr; refine ⟨rfl,fun hp=>?_⟩; have hE:=CloneI_E l ty0 hp; exact hE
   ·cases hr)
theorem put_ok:SpecOk Tryz.prog put_n false put_spec :=
 z4j z0h (show z14 Tryz.prog put_g from z04) (by kernel_rfl) mixedOrders Tryz.func108 rfl rfl (by kernel_rfl) _
abbrev z94 (I:Inst) (g:Nat):=(IntKind.i64.wrap ((2:Int) * (z6w (↑I.sup.length:Int) I.arcs (↑g:Int)).src)+(0:Int))
abbrev zb8 (I:Inst) (g:Nat):=(IntKind.i64.wrap ((2:Int) * (z6w (↑I.sup.length:Int) I.arcs (↑g:Int)).dst)+(1:Int))
abbrev ziz (I:Inst):=((↑I.sup.length:Int)=↑I.sup.length/\(True/\(True/\(True/\True))))
abbrev zgx (I:Inst) (g:Nat) (x_1:Int):=((N3 I g).set (IntKind.i64.wrap (z94 I g)).toNat (IntKind.i64.wrap (x_1+(1:Int))))
abbrev zj0 (I:Inst) (g:Nat) (x:Int):=((S1 I g).set (IntKind.i64.wrap (IntKind.i64.wrap (z94 I g)+(1:Int))).toNat (IntKind.i64.wrap (x+(1:Int))))
abbrev New_a5 (I:Inst) (g:Nat) (g':Nat):=((↑I.arcs.length:Int)=↑I.arcs.length/\(IntKind.i64.wrap ((↑g:Int)+(1:Int))=(↑g':Int)/\True))
abbrev New_a6 (I:Inst):=((0=0/\True)/\((ziz I)/\(z79 Int/\(I.arcs=I.arcs/\True))))
abbrev New_a7 (I:Inst):=(∃ (g:Unit),True/\((0=0/\True)/\((0=0/\True)/\((ziz I)/\(z79 Int/\(z79 Int/\(I.arcs=I.arcs/\True)))))))
abbrev New_a8 (I:Inst):=(IntKind.i64.wrap ((2:Int) * (↑I.sup.length:Int))+(1:Int))
abbrev zcx (I:Inst) (g:Nat):=(IntKind.i64.wrap (zb8 I g)+(1:Int))
abbrev New_a10 (I:Inst) (g:Nat):=((0:Int) <= IntKind.i64.wrap (z94 I g)/\(IntKind.i64.wrap (z94 I g)<(↑(N3 I g).length:Int)))
abbrev z95 (I:Inst) (g:Nat):=(IntKind.i64.wrap (z94 I g)+(1:Int))
abbrev New_a12 (I:Inst) (g:Nat) (x_1:Int):=((0:Int) <= IntKind.i64.wrap (zb8 I g)/\(IntKind.i64.wrap (zb8 I g)<(↑(zgx I g x_1).length:Int)))
abbrev New_a13 (g:Nat) (I:Inst):=((0:Int) <= IntKind.i64.wrap ((↑g:Int)+(1:Int))/\(IntKind.i64.wrap ((↑g:Int)+(1:Int))<(↑(S2 I g).length:Int)))
def New_E0 (I : Inst) (ty0 ty1 : TypeId) : Prop :=
   (((I.sup.length <= (1000000000:Nat)/\(I.arcs.length <= (1000000000:Nat)))/\((New_a7 I)/\(New_a7 I)))/\((I.sup.length <= (1000000000:Nat)/\(I.arcs.length <= (1000000000:Nat)))/\(New_a7 I)))/\∀ (g:Unit),True->(IntKind.i64.wrap (New_a8 I)=IntKind.i64.wrap (New_a8 I)/\((0:Int) <= IntKind.i64.wrap (New_a8 I)/\(IntKind.i64.wrap (New_a8 I) <= (1000000000:Int))))/\∃ (g0:Nat),(g0 <= I.arcs.length/\((0=0/\((↑I.arcs.length:Int)=↑I.arcs.length/\((0:Int)=↑g0/\True)))/\(List.replicate (IntKind.i64.wrap (New_a8 I)).toNat (0:Int)=S1 I g0/\(New_a6 I))))/\∀ (g:Nat),g <= I.arcs.length->(decide ((↑g:Int)<↑I.arcs.length)=true->True/\(gOk (↑I.sup.length:Int) I.arcs (↑g:Int)=true->((0:Int) <= IntKind.i64.wrap (z95 I g)/\(IntKind.i64.wrap (z95 I g)<(↑(S1 I g).length:Int)))/\(IntKind.i64.wrap (z95 I g)).toNat<(S1 I g).length/\∀ (x:Int),(S1 I g)[(IntKind.i64.wrap (z95 I g)).toNat]? = some x->((0:Int) <= IntKind.i64.wrap (z95 I g)/\(IntKind.i64.wrap (z95 I g)<(↑(S1 I g).length:Int)))/\(IntKind.i64.wrap (z95 I g)).toNat<(S1 I g).length/\((0:Int) <= IntKind.i64.wrap (zcx I g)/\(IntKind.i64.wrap (zcx I g)<(↑(zj0 I g x).length:Int)))/\((IntKind.i64.wrap (zcx I g)).toNat<(zj0 I g x).length/\(∀ (x_1:Int),(zj0 I g x)[(IntKind.i64.wrap (zcx I g)).toNat]? = some x_1->((0:Int) <= IntKind.i64.wrap (zcx I g)/\(IntKind.i64.wrap (zcx I g)<(↑(zj0 I g x).length:Int)))/\((IntKind.i64.wrap (zcx I g)).toNat<(zj0 I g x).length/\(∃ (g':Nat),g' <= I.arcs.length/\(I.arcs.length - g'<I.arcs.length - g/\((0=0/\(New_a5 I g g'))/\((zj0 I g x).set (IntKind.i64.wrap (zcx I g)).toNat (IntKind.i64.wrap (x_1+(1:Int)))=S1 I g'/\(New_a6 I)))))))))/\(gOk (↑I.sup.length:Int) I.arcs (↑g:Int)=false->∃ (g':Nat),g' <= I.arcs.length/\(I.arcs.length - g'<I.arcs.length - g/\((0=0/\(New_a5 I g g'))/\(S1 I g=S1 I g'/\(New_a6 I))))))/\(decide ((↑g:Int)<↑I.arcs.length)=false->∃ (g0:Nat),(g0 <= (2:Nat) * I.sup.length/\((0=0/\(IntKind.i64.wrap ((2:Int) * (↑I.sup.length:Int))=(↑((2:Nat) * I.sup.length):Int)/\((0:Int)=↑g0/\True)))/\(S1 I g=S2 I g0/\(New_a6 I))))/\∀ (g:Nat),g <= (2:Nat) * I.sup.length->(decide ((↑g:Int)<↑((2:Nat) * I.sup.length))=true->(New_a13 g I)/\((IntKind.i64.wrap ((↑g:Int)+(1:Int))).toNat<(S2 I g).length/\(∀ (x:Int),(S2 I g)[(IntKind.i64.wrap ((↑g:Int)+(1:Int))).toNat]? = some x->((0:Int) <= ↑g/\((↑g:Int)<↑(S2 I g).length))/\((↑g:Int).toNat<(S2 I g).length/\(∀ (x_1:Int),(S2 I g)[(↑g:Int).toNat]? = some x_1->(New_a13 g I)/\((IntKind.i64.wrap ((↑g:Int)+(1:Int))).toNat<(S2 I g).length/\(∃ (g':Nat),g' <= (2:Nat) * I.sup.length/\((2:Nat) * I.sup.length - g'<(2:Nat) * I.sup.length - g/\((0=0/\((↑((2:Nat) * I.sup.length):Int)=↑((2:Nat) * I.sup.length)/\(IntKind.i64.wrap ((↑g:Int)+(1:Int))=(↑g':Int)/\True)))/\((S2 I g).set (IntKind.i64.wrap ((↑g:Int)+(1:Int))).toNat (IntKind.i64.wrap (x+x_1))=S2 I g'/\(New_a6 I)))))))))))/\(decide ((↑g:Int)<↑((2:Nat) * I.sup.length))=false->((0:Int) <= IntKind.i64.wrap ((2:Int) * (↑I.sup.length:Int))/\(IntKind.i64.wrap ((2:Int) * (↑I.sup.length:Int))<(↑(S2 I g).length:Int)))/\(IntKind.i64.wrap ((2:Int) * (↑I.sup.length:Int))).toNat<(S2 I g).length/\∀ (x:Int),(S2 I g)[(IntKind.i64.wrap ((2:Int) * (↑I.sup.length:Int))).toNat]? = some x->(x=x/\((0:Int) <= x/\(x <= (1000000000:Int))))/\(S2 I g).length <= (1000000000:Nat)/\∃ (g0:Nat),(g0 <= I.arcs.length/\((0=0/\((0=0/\(0=0/\True))/\((↑I.arcs.length:Int)=↑I.arcs.length/\((0:Int)=↑g0/\True))))/\((True/\True)/\(S2 I g=N3 I g0/\(List.replicate x.toNat (0:Int)=L3 I g0/\(S2 I g=z0w I/\((0=0/\True)/\((ziz I)/\(I.arcs=I.arcs/\True)))))))))/\∀ (g:Nat),g <= I.arcs.length->(decide ((↑g:Int)<↑I.arcs.length)=true->True/\(gOk (↑I.sup.length:Int) I.arcs (↑g:Int)=true->(New_a10 I g)/\(IntKind.i64.wrap (z94 I g)).toNat<(N3 I g).length/\∀ (x:Int),(N3 I g)[(IntKind.i64.wrap (z94 I g)).toNat]? = some x->((0:Int) <= x/\(x<(↑(L3 I g).length:Int)))/\x.toNat<(L3 I g).length/\(New_a10 I g)/\(IntKind.i64.wrap (z94 I g)).toNat<(N3 I g).length/\∀ (x_1:Int),(N3 I g)[(IntKind.i64.wrap (z94 I g)).toNat]? = some x_1->(New_a10 I g)/\(IntKind.i64.wrap (z94 I g)).toNat<(N3 I g).length/\(New_a12 I g x_1)/\(IntKind.i64.wrap (zb8 I g)).toNat<(zgx I g x_1).length/\∀ (x_2:Int),(zgx I g x_1)[(IntKind.i64.wrap (zb8 I g)).toNat]? = some x_2->((0:Int) <= x_2/\(x_2<(↑((L3 I g).set x.toNat (↑g:Int)).length:Int)))/\x_2.toNat<((L3 I g).set x.toNat (↑g:Int)).length/\(New_a12 I g x_1)/\((IntKind.i64.wrap (zb8 I g)).toNat<(zgx I g x_1).length/\(∀ (x_3:Int),(zgx I g x_1)[(IntKind.i64.wrap (zb8 I g)).toNat]? = some x_3->(New_a12 I g x_1)/\((IntKind.i64.wrap (zb8 I g)).toNat<(zgx I g x_1).length/\(∃ (g':Nat),g' <= I.arcs.length/\(I.arcs.length - g'<I.arcs.length - g/\((0=0/\((0=0/\(0=0/\True))/\(New_a5 I g g')))/\((True/\True)/\((zgx I g x_1).set (IntKind.i64.wrap (zb8 I g)).toNat (IntKind.i64.wrap (x_3+(1:Int)))=N3 I g'/\(((L3 I g).set x.toNat (↑g:Int)).set x_2.toNat (↑g:Int)=L3 I g'/\(z0w I=z0w I/\((0=0/\True)/\((ziz I)/\(I.arcs=I.arcs/\True))))))))))))))/\(gOk (↑I.sup.length:Int) I.arcs (↑g:Int)=false->∃ (g':Nat),g' <= I.arcs.length/\(I.arcs.length - g'<I.arcs.length - g/\((0=0/\((0=0/\(0=0/\True))/\(New_a5 I g g')))/\((True/\True)/\(N3 I g=N3 I g'/\(L3 I g=L3 I g'/\(z0w I=z0w I/\((0=0/\True)/\((ziz I)/\(I.arcs=I.arcs/\True)))))))))))/\(decide ((↑g:Int)<↑I.arcs.length)=false->(0=0/\True)/\((ziz I)/\(I.arcs=I.arcs/\(L3 I g=z2i I/\(z0w I=z0w I/\True)))))))
theorem New_q (I:Inst) (ty0 ty1:TypeId):New_E0 I ty0 ty1=z2d TT New_g (New_I I) (New_an I) Tryz.f79 [.agg [.row 0,.row 1]] [(0,.row false ty0 (.ints .i64 I.sup)),(1,.row false ty1 (.arcs I.arcs))] (New_r I):=by kernel_rfl
theorem New_E (I:Inst) (ty0 ty1:TypeId) (hp:I.sup.length <= 10000/\I.arcs.length <= 10000):FVc TT New_g (New_I I) (New_an I) Tryz.f79 [.agg [.row 0,.row 1]] [(0,.row false ty0 (.ints .i64 I.sup)),(1,.row false ty1 (.arcs I.arcs))] (New_r I):=by
 refine FVc.of (New_E0 I ty0 ty1) (New_q I ty0 ty1) ?_
 unfold New_E0
 delta New_a13 New_a12 z95 New_a10 zcx New_a8 New_a7 New_a6 New_a5 zj0 zgx ziz zb8 z94
 simp only [eq_self,exists_const,forall_const,ne_eq,Int.toNat_natCast,zSS,z06]
 obtain ⟨p1,p2⟩:=hp
 have e1:IntKind.i64.wrap (2 * (I.sup.length:Int))=((2 * I.sup.length:Nat):Int):=by rw [w64 (by omega) (by omega)]; omega
 have e2:IntKind.i64.wrap (((2 * I.sup.length:Nat):Int)+1)=((2 * I.sup.length+1:Nat):Int):=by rw [w64 (by omega) (by omega)]; omega
 simp only [e1,e2,Int.toNat_natCast,show ∀ k,(S1 I k).length=2 * I.sup.length+1 from fun k=>by simp [S1],show ∀ k,(S2 I k).length=2 * I.sup.length+1 from fun k=>by simp [S2],show ∀ k,(N3 I k).length=2 * I.sup.length+1 from fun k=>by simp [N3],List.length_set]
 have hL3:∀ k,k <= I.arcs.length->(L3 I k).length=z91 I (2 * I.sup.length):=fun k hk=>zl6 I (fun t=>zib hk t) _
 have hs1:∀ (k j:Nat) (v:Int),(S1 I k)[j]? = some v->k <= I.arcs.length->0 <= v/\v <= 10000:=fun k j v h hk=>by
  have e:=S1_get h
  subst e
  have:=z9a I (j - 1) k
  split <;> omega
 have hsum:∀ k,k <= 2 * I.sup.length->z91 I k <= 200000000:=fun k hk=>by
  have h1:=za3 I k (2 * I.sup.length - k)
  rw [show k+(2 * I.sup.length - k)=2 * I.sup.length by omega] at h1
  have h2:=sumA_le I (2 * I.sup.length)
  have h3:2 * I.sup.length * I.arcs.length <= 20000 * 10000:=Nat.mul_le_mul (by omega) p2
  omega
 have arcs:∀ k:Nat,k<I.arcs.length->∃ a,I.arcs[k]? = some a/\gOk I.sup.length I.arcs k=z2z I.sup.length a/\(z2z I.sup.length a=true->z6w I.sup.length I.arcs k=a):=fun k hk=>by
  have ha:I.arcs[k]? = some I.arcs[k]:=List.getElem?_eq_getElem hk
  exact ⟨_,ha,zh3 (by omega) (by simpa using ha),fun ho=>by rw [gArc_at (x:=I.arcs[k]) (by omega) (by simpa using ha),if_pos ho]⟩
 refine ⟨by omega,by omega,0,⟨by omega,rfl,by rw [S1_zero]⟩,fun k hk=>⟨fun h1=>?_,fun h1=>?_⟩⟩
 ·obtain ⟨a,ha,hgo,hga⟩:=arcs k (by omega)
  rw [hgo]
  refine ⟨fun ho=>?_,fun ho=>⟨k+1,by omega,by omega,w64 (by omega) (by omega),S1_same ha ho⟩⟩
  rw [hga ho]
  obtain ⟨o1,o2,o3,o4⟩:=okArc_iff.1 ho
  have f1:IntKind.i64.wrap (IntKind.i64.wrap (IntKind.i64.wrap (2 * a.src)+0)+1)=2 * a.src+1:=by rw [w64 (x:=2 * a.src) (by omega) (by omega),w64 (x:=2 * a.src+0) (by omega) (by omega),w64 (by omega) (by omega)]; omega
  have f2:IntKind.i64.wrap (IntKind.i64.wrap (IntKind.i64.wrap (2 * a.dst)+1)+1)=2 * a.dst+2:=by rw [w64 (x:=2 * a.dst) (by omega) (by omega),w64 (x:=2 * a.dst+1) (by omega) (by omega),w64 (by omega) (by omega)]; omega
  rw [f1,f2]
  refine ⟨by omega,by omega,fun x hx=>?_⟩
  have bx:=hs1 k _ x hx hk
  rw [w64 (x:=x+1) (by omega) (by omega)]
  refine ⟨by omega,by omega,by omega,by omega,fun y hy=>?_⟩
  have hstep:=S1_step ha ho hx hy
  have by':0 <= y/\y <= 10001:=by
   rw [List.getElem?_set] at hy
   split at hy
   ·split at hy
    ·cases hy; omega
    ·cases hy
   ·have:=hs1 k _ y hy hk; omega
  rw [w64 (x:=y+1) (by omega) (by omega)]
  exact ⟨by omega,by omega,k+1,by omega,by omega,w64 (by omega) (by omega),hstep⟩
 have hk':k=I.arcs.length:=by omega
 refine ⟨0,⟨by omega,⟨trivial,rfl⟩,by rw [hk',S1_S2]⟩,fun k2 hk2=>⟨fun h2=>?_,fun h2=>?_⟩⟩
 ·have f:IntKind.i64.wrap ((k2:Int)+1)=((k2+1:Nat):Int):=by rw [w64 (by omega) (by omega)]; omega
  simp only [f,Int.toNat_natCast]
  refine ⟨by omega,by omega,fun x hx=>⟨by omega,by omega,fun y hy=>⟨by omega,by omega,k2+1,by omega,by omega,rfl,?_⟩⟩⟩
  have hstep:=S2_step (by omega) hx hy
  have ex:=S2_get hx
  have ey:=S2_get hy
  rw [if_neg (by omega)] at ex
  rw [if_pos (by omega)] at ey
  have c1:=z9a I (k2+1 - 1) I.arcs.length
  have c2:=hsum k2 hk2
  rw [w64 (by omega) (by omega),hstep]
 have hk2':k2=2 * I.sup.length:=by omega
 subst hk2'
 rw [S2_end]
 have hstart:(z0w I).length=2 * I.sup.length+1:=by simp [z0w]
 refine ⟨by omega,by omega,fun x hx=>?_⟩
 have ex:=startF_get hx
 have bx:=hsum (2 * I.sup.length) (by omega)
 subst ex
 refine ⟨by omega,by omega,0,⟨by omega,rfl,startF_N3 I,by rw [L3_zero]; simp,rfl⟩,fun m hm=>⟨fun h3=>?_,fun h3=>?_⟩⟩
 ·obtain ⟨a,ha,hgo,hga⟩:=arcs m (by omega)
  have hml:m<I.arcs.length:=by omega
  rw [hgo]
  refine ⟨fun ho=>?_,fun ho=>?_⟩
  ·rw [hga ho]
   obtain ⟨o1,o2,o3,o4⟩:=okArc_iff.1 ho
   have f1:IntKind.i64.wrap (IntKind.i64.wrap (2 * a.src)+0)=((2 * a.src).toNat:Int):=by rw [w64 (x:=2 * a.src) (by omega) (by omega),w64 (by omega) (by omega)]; omega
   have f2:IntKind.i64.wrap (IntKind.i64.wrap (2 * a.dst)+1)=((2 * a.dst+1).toNat:Int):=by rw [w64 (x:=2 * a.dst) (by omega) (by omega),w64 (by omega) (by omega)]; omega
   obtain ⟨P,hP⟩:∃ P,P=(2 * a.src).toNat:=⟨_,rfl⟩
   obtain ⟨Q,hQ⟩:∃ Q,Q=(2 * a.dst+1).toNat:=⟨_,rfl⟩
   rw [f1,f2,<- hP,<- hQ]
   simp only [Int.toNat_natCast]
   have hne:Q ≠ P:=by omega
   have hPn:P<2 * I.sup.length:=by omega
   have hQn:Q<2 * I.sup.length:=by omega
   have hin:∀ j,inK I j m=true ↔ j=P ∨ j=Q:=fun j=>by
    rw [inK_of ha,ho,Bool.true_and,hasK_iff]; omega
   have iP:=(hin P).2 (.inl rfl)
   have iQ:=(hin Q).2 (.inr rfl)
   have room:∀ j,j<2 * I.sup.length->inK I j m=true->z91 I j+z71 I m j<z91 I (2 * I.sup.length):=fun j hj hi=>by
    have h1:=cntA_lt hml hi
    have h2:=za3 I (j+1) (2 * I.sup.length - (j+1))
    rw [show j+1+(2 * I.sup.length - (j+1))=2 * I.sup.length by omega] at h2
    have h4:z91 I (j+1)=z91 I j+z71 I I.arcs.length j:=rfl
    omega
   have rP:=room P hPn iP
   have rQ:=room Q hQn iQ
   have hl:=hL3 m hm
   have dQ:(fun t=>t == P || (fun _=>false) t) Q=false:=by simp [hne]
   refine ⟨by omega,by omega,fun x hx=>?_⟩
   rw [N3_nP] at hx
   have ex:=nP_get hx rfl
   subst ex
   rw [hl]
   refine ⟨by omega,by omega,by omega,by omega,fun x1 hx1=>?_⟩
   rw [N3_nP] at hx1
   have ex1:=nP_get hx1 rfl
   subst ex1
   rw [w64 (x:=((z91 I P+z71 I m P:Nat):Int)+1) (by omega) (by omega),N3_nP,nP_put iP rfl,L3_segP,Int.toNat_natCast,L3_put hml hPn iP rfl]
   refine ⟨by omega,by omega,by omega,by omega,fun x2 hx2=>?_⟩
   have ex2:=nP_get hx2 dQ
   subst ex2
   refine ⟨by omega,by omega,by omega,by omega,fun x3 hx3=>?_⟩
   have ex3:=nP_get hx3 dQ
   subst ex3
   rw [w64 (x:=((z91 I Q+z71 I m Q:Nat):Int)+1) (by omega) (by omega),nP_put iQ dQ,Int.toNat_natCast,L3_put hml hQn iQ dQ]
   refine ⟨by omega,by omega,m+1,by omega,by omega,w64 (by omega) (by omega),?_,?_⟩
   ·exact nP_done hin
   ·exact L3_done hin
  ·obtain ⟨s1,s2⟩:=N3_same ha ho
   exact ⟨m+1,by omega,by omega,w64 (by omega) (by omega),s1,s2⟩
 ·rw [show m=I.arcs.length by omega,L3_end]
theorem New_ok:SpecOk Tryz.prog New_n true (z02 true New_fs) :=
 z0a z0h (show z14 Tryz.prog New_g from z00 Copy_ok (z00 GArc_ok (z00 CloneI_ok (z00 put_ok (z04))))) (by kernel_rfl) mixedOrders Tryz.func79 rfl rfl (by kernel_rfl) (n:=1) (by decide +kernel) (I:=New_IA) (fun _ _=>z07) (A:=New_A)
  (fun args h r hr=>by
   unfold New_fs at hr
   split at hr
   ·rename_i ty0 I_s ty1 I_a; cases hr; refine ⟨rfl,fun hp=>?_⟩; have hE:=New_E ⟨I_s,I_a⟩ ty0 ty1 hp; exact hE
   ·cases hr)
def along_E0 (x : List Int) (a : Int) (ty0 : TypeId) : Prop :=
      (decide (a ≥ (↑x.length:Int))=true->((0:Int)=x.getD a.toNat (0:Int)/\True)/\True) /\
 (decide (a ≥ (↑x.length:Int))=false ->
 ((0:Int) <= a/\a<(↑x.length:Int))/\a.toNat<x.length/\∀ (x_1:Int),x[a.toNat]? = some x_1->(x_1=x.getD a.toNat (0:Int)/\True)/\True)
theorem along_q (x:List Int) (a:Int) (ty0:TypeId):along_E0 x a ty0=z2d TT along_g (along_I x a) (along_an x a) Tryz.f101 [.row 0,.int .i64 a] [(0,.row false ty0 (.ints .i64 x))] (along_r x a):=by kernel_rfl
theorem along_E (x:List Int) (a:Int) (ty0:TypeId) (hp:0 <= a):FVc TT along_g (along_I x a) (along_an x a) Tryz.f101 [.row 0,.int .i64 a] [(0,.row false ty0 (.ints .i64 x))] (along_r x a):=by
 refine FVc.of (along_E0 x a ty0) (along_q x a ty0) ?_
 unfold along_E0
 simp only [eq_self,exists_const,forall_const,ne_eq,Int.toNat_natCast,zSS,z06]
 refine ⟨fun h=>?_,fun h=>⟨by omega,by omega,fun y hy=>by simp [List.getD,hy]⟩⟩
 simp [List.getD,show ¬ a.toNat<x.length by omega]
theorem along_ok:SpecOk Tryz.prog along_n true (z02 true zht) :=
 z0a z0h (show z14 Tryz.prog along_g from z04) (by kernel_rfl) mixedOrders Tryz.func101 rfl rfl (by kernel_rfl) (n:=2) (by decide +kernel) (I:=along_IA) (fun _ _=>z07) (A:=along_A)
  (fun args h r hr=>by
   unfold zht at hr
   split at hr
   ·rename_i a ty0 x; cases hr; refine ⟨rfl,fun hp=>?_⟩; have hE:=along_E x a ty0 hp; exact hE
   ·cases hr)
def fit_E0 (x : Arc) (n : Int) : Prop :=
      (decide (n ≥ x.low)=true ->
 ((x.cap == (4611686018427387904:Int))=true->(true=fitF x n/\True)/\True) /\
 ((x.cap == (4611686018427387904:Int))=false->(decide (n <= x.cap)=fitF x n/\True)/\True)) /\
 (decide (n ≥ x.low)=false->(false=fitF x n/\True)/\True)
theorem fit_q (x:Arc) (n:Int):fit_E0 x n=z2d TT fit_g (fit_I x n) (fit_an x n) Tryz.f147 [.agg (zba x),.int .i64 n] [] (fit_r x n):=by kernel_rfl
theorem fit_E (x:Arc) (n:Int) (hp:True):FVc TT fit_g (fit_I x n) (fit_an x n) Tryz.f147 [.agg (zba x),.int .i64 n] [] (fit_r x n):=by
 refine FVc.of (fit_E0 x n) (fit_q x n) ?_
 unfold fit_E0
 simp only [eq_self,exists_const,forall_const,ne_eq,Int.toNat_natCast,zSS,z06]
 unfold fitF inf
 refine ⟨fun h=>⟨fun h2=>?_,fun h2=>?_⟩,fun h=>?_⟩
 ·simp [h2]; omega
 ·simp [h2]; omega
 ·simp; omega
theorem fit_ok:SpecOk Tryz.prog fit_n true (z02 true fit_fs) :=
 z0a z0h (show z14 Tryz.prog fit_g from z04) (by kernel_rfl) mixedOrders Tryz.func147 rfl rfl (by kernel_rfl) (n:=2) (by decide +kernel) (I:=fit_IA) (fun _ _=>z07) (A:=fit_A)
  (fun args h r hr=>by
   unfold fit_fs at hr
   split at hr
   ·rename_i x_0 x_1 x_2 x_3 x_4 n; cases hr; refine ⟨rfl,fun hp=>?_⟩; have hE:=fit_E ⟨x_0,x_1,x_2,x_3,x_4⟩ n hp; exact hE
   ·cases hr)
theorem more_ok:SpecOk Tryz.prog more_n false more_spec :=
 z4j z0h (show z14 Tryz.prog more_g from z00 zhk (z00 zbv (z04))) (by kernel_rfl) mixedOrders Tryz.func175 rfl rfl (by kernel_rfl) _
theorem less_ok:SpecOk Tryz.prog less_n false less_spec :=
 z4j z0h (show z14 Tryz.prog less_g from z00 zhk (z00 zcw (z04))) (by kernel_rfl) mixedOrders Tryz.func176 rfl rfl (by kernel_rfl) _
theorem flows_ok:SpecOk Tryz.prog flows_n false flows_spec :=
 z4j z0h (show z14 Tryz.prog flows_g from z00 GArc_ok (z00 more_ok (z00 less_ok (z04)))) (by kernel_rfl) mixedOrders Tryz.func161 rfl rfl (by kernel_rfl) _
abbrev zix (I:Inst) (x:List Int):=(∃ (g:Unit),True/\((True/\(0=0/\(0=0/\True)))/\((True/\(0=0/\True))/\(((↑I.sup.length:Int)=↑I.sup.length/\(True/\(True/\(True/\True))))/\(I.arcs=I.arcs/\(z2i I=z2i I/\(z0w I=z0w I/\(List.replicate (↑I.sup.length:Int).toNat { hi:=(0:Int),lo:=(0:Int):Wide } = List.replicate (↑I.sup.length:Int).toNat { hi:=(0:Int),lo:=(0:Int):Wide }/\((True/\(True/\True))/\(I.sup=I.sup/\(I.arcs=I.arcs/\(x=x/\True))))))))))))
abbrev z5n (I:Inst) (g:Nat):=(z6w (↑I.sup.length:Int) I.arcs (↑g:Int))
abbrev Net_a2 (I:Inst):=((↑I.sup.length:Int)=↑I.sup.length/\((0:Int) <= ↑I.sup.length/\((↑I.sup.length:Int) <= 1000000000)))
abbrev ziy (I:Inst) (x:List Int) (g:Nat) (x_1:Wide):=((z61 I x g).set (z5n I g).src.toNat (z7z x_1 (W (x.getD (↑g:Int).toNat (0:Int)))))
abbrev Net_a4 (I:Inst):=(I.sup.length <= (10000:Nat)/\(I.arcs.length <= (10000:Nat)))
abbrev Net_a5 (I:Inst):=((↑I.sup.length:Int)=↑I.sup.length/\(True/\(True/\(True/\True))))
def Net_E0 (I : Inst) (x : List Int) (ty0 ty1 ty2 : TypeId) : Prop :=
   (((Net_a2 I)/\(((Net_a4 I)/\(zix I x))/\((Net_a4 I)/\(zix I x))))/\((Net_a4 I)/\(((Net_a2 I)/\(zix I x))/\((Net_a2 I)/\(zix I x))))/\(((Net_a2 I)/\((Net_a4 I)/\(zix I x)))/\((Net_a4 I)/\((Net_a2 I)/\(zix I x)))))/\∀ (g:Unit),True->∃ (g0:Nat),(g0 <= I.arcs.length/\((True/\(0=0/\((↑I.arcs.length:Int)=↑I.arcs.length/\((0:Int)=↑g0/\True))))/\((True/\(0=0/\True))/\((Net_a5 I)/\(I.arcs=I.arcs/\(z2i I=z2i I/\(z0w I=z0w I/\(List.replicate (↑I.sup.length:Int).toNat { hi:=(0:Int),lo:=(0:Int):Wide } = z61 I x g0/\(x=x/\True)))))))))/\∀ (g:Nat),g <= I.arcs.length->(decide ((↑g:Int)<↑I.arcs.length)=true->(0:Int) <= ↑g/\True/\(gOk (↑I.sup.length:Int) I.arcs (↑g:Int)=true->((0:Int) <= (z5n I g).src/\((z5n I g).src<(↑(z61 I x g).length:Int)))/\((z5n I g).src.toNat<(z61 I x g).length/\(∀ (x_1:Wide),(z61 I x g)[(z5n I g).src.toNat]? = some x_1->I64 (x.getD (↑g:Int).toNat (0:Int))/\((x_1.ok/\((W (x.getD (↑g:Int).toNat (0:Int))).ok))/\(((0:Int) <= (z5n I g).src/\((z5n I g).src<(↑(z61 I x g).length:Int)))/\((z5n I g).src.toNat<(z61 I x g).length/\(((0:Int) <= (z5n I g).dst/\((z5n I g).dst<(↑(ziy I x g x_1).length:Int)))/\((z5n I g).dst.toNat<(ziy I x g x_1).length/\(∀ (x_2:Wide),(ziy I x g x_1)[(z5n I g).dst.toNat]? = some x_2->I64 (x.getD (↑g:Int).toNat (0:Int))/\((x_2.ok/\((W (x.getD (↑g:Int).toNat (0:Int))).ok))/\(((0:Int) <= (z5n I g).dst/\((z5n I g).dst<(↑(ziy I x g x_1).length:Int)))/\((z5n I g).dst.toNat<(ziy I x g x_1).length/\(∃ (g':Nat),g' <= I.arcs.length/\(I.arcs.length - g'<I.arcs.length - g/\((True/\(0=0/\((↑I.arcs.length:Int)=↑I.arcs.length/\(IntKind.i64.wrap ((↑g:Int)+(1:Int))=(↑g':Int)/\True))))/\((True/\(0=0/\True))/\((Net_a5 I)/\(I.arcs=I.arcs/\(z2i I=z2i I/\(z0w I=z0w I/\((ziy I x g x_1).set (z5n I g).dst.toNat (z5z x_2 (W (x.getD (↑g:Int).toNat (0:Int))))=z61 I x g'/\(x=x/\True))))))))))))))))))))))/\(gOk (↑I.sup.length:Int) I.arcs (↑g:Int)=false->∃ (g':Nat),g' <= I.arcs.length/\(I.arcs.length - g'<I.arcs.length - g/\((True/\(0=0/\((↑I.arcs.length:Int)=↑I.arcs.length/\(IntKind.i64.wrap ((↑g:Int)+(1:Int))=(↑g':Int)/\True))))/\((True/\(0=0/\True))/\((Net_a5 I)/\(I.arcs=I.arcs/\(z2i I=z2i I/\(z0w I=z0w I/\(z61 I x g=z61 I x g'/\(x=x/\True)))))))))))/\(decide ((↑g:Int)<↑I.arcs.length)=false->(True/\True)/\(z61 I x g=netF I x/\True))
theorem Net_q (I:Inst) (x:List Int) (ty0 ty1 ty2:TypeId):Net_E0 I x ty0 ty1 ty2=z2d TT Net_g (Net_I I x) (Net_an I x) Tryz.f148 [.agg [.row 0,.row 1],.row 2] [(0,.row false ty0 (.ints .i64 I.sup)),(1,.row false ty1 (.arcs I.arcs)),(2,.row false ty2 (.ints .i64 x))] (Net_r I x):=by kernel_rfl
theorem Net_E (I:Inst) (x:List Int) (ty0 ty1 ty2:TypeId) (hp:I.sup.length <= 10000/\I.arcs.length <= 10000/\A64 x):FVc TT Net_g (Net_I I x) (Net_an I x) Tryz.f148 [.agg [.row 0,.row 1],.row 2] [(0,.row false ty0 (.ints .i64 I.sup)),(1,.row false ty1 (.arcs I.arcs)),(2,.row false ty2 (.ints .i64 x))] (Net_r I x):=by
 refine FVc.of (Net_E0 I x ty0 ty1 ty2) (Net_q I x ty0 ty1 ty2) ?_
 unfold Net_E0
 delta Net_a5 Net_a4 ziy Net_a2 z5n zix
 simp only [eq_self,exists_const,forall_const,ne_eq,Int.toNat_natCast,zSS,z06]
 obtain ⟨p1,p2,p3⟩:=hp
 simp only [netAt_len,List.length_set]
 refine ⟨by omega,0,⟨by omega,rfl,?_⟩,fun k hk=>⟨fun h1=>?_,fun h1=>?_⟩⟩
 ·unfold z61
  simp only [z52]
  rw [W_zero]
  simp [List.map_const']
 ·obtain ⟨a,ha⟩:∃ a,I.arcs[k]? = some a:=⟨_,List.getElem?_eq_getElem (by omega)⟩
  have hg:z6w I.sup.length I.arcs k=if z2z I.sup.length a then a else ⟨0,0,0,0,0⟩:=gArc_at (by omega) (by simpa using ha)
  have hgo:gOk I.sup.length I.arcs k=z2z I.sup.length a:=zh3 (by omega) (by simpa using ha)
  have hx:=p3.getD k
  rw [hg,hgo]
  refine ⟨by omega,fun ho=>?_,fun ho=>⟨k+1,by omega,by omega,w64 (by omega) (by omega),netAt_same ha ho⟩⟩
  rw [if_pos ho]
  obtain ⟨o1,o2,o3,o4⟩:=okArc_iff.1 ho
  refine ⟨by omega,by omega,fun p hp=>?_⟩
  obtain ⟨_,hpw⟩:=netAt_get hp
  refine ⟨hx,⟨by rw [hpw]; exact zf1 _,zf1 _⟩,by omega,by omega,by omega,by omega,fun q hq=>?_⟩
  obtain ⟨q1,q2,q3⟩:=netAt_step ha ho hp hq
  exact ⟨hx,⟨q1,zf1 _⟩,by omega,by omega,k+1,by omega,by omega,w64 (by omega) (by omega),q3⟩
 ·rw [show k=I.arcs.length by omega]; rfl
theorem Net_ok:SpecOk Tryz.prog Net_n true (z02 true Net_fs) :=
 z0a z0h (show z14 Tryz.prog Net_g from z00 New_ok (z00 along_ok (z00 flows_ok (z04)))) (by kernel_rfl) mixedOrders Tryz.func148 rfl rfl (by kernel_rfl) (n:=2) (by decide +kernel) (I:=Net_IA) (fun _ _=>z07) (A:=Net_A)
  (fun args h r hr=>by
   unfold Net_fs at hr
   split at hr
   ·rename_i ty0 I_s ty1 I_a ty2 x; cases hr; refine ⟨rfl,fun hp=>?_⟩; have hE:=Net_E ⟨I_s,I_a⟩ x ty0 ty1 ty2 hp; exact hE
   ·cases hr)
def Cost_E0 (I : Inst) (x : List Int) (ty0 ty1 ty2 : TypeId) : Prop :=
      ∃ (g0:Nat),
 (g0 <= I.arcs.length /\
 (True/\(0:Nat)=(0:Nat)/\(0:Nat)=(0:Nat)/\True/\(↑I.arcs.length:Int)=(↑I.arcs.length:Int)/\(0:Int)=(↑g0:Int)/\True) /\
 ((0:Int)=(W (z3m I.arcs x g0)).hi/\(0:Int)=(W (z3m I.arcs x g0)).lo/\True) /\
 ((0:Int)=(0:Int)/\(0:Int)=(0:Int)/\True)/\I.arcs=I.arcs/\x=x/\True) /\
 ∀ (g:Nat),
 g <= I.arcs.length ->
 (decide ((↑g:Int)<(↑I.arcs.length:Int))=true ->
 ((0:Int) <= (↑g:Int)/\(↑g:Int)<(↑I.arcs.length:Int)) /\
 (↑g:Int).toNat<I.arcs.length /\
 ∀ (x_1:Arc),
 I.arcs[(↑g:Int).toNat]? = some x_1 ->
 (0:Int) <= (↑g:Int) /\
 (I64 x_1.cost/\I64 (x.getD (↑g:Int).toNat (0:Int))) /\
 ((W (z3m I.arcs x g)).ok/\(W (x_1.cost * x.getD (↑g:Int).toNat (0:Int))).ok) /\
 ∃ (g':Nat),
 g' <= I.arcs.length /\
 I.arcs.length - g'<I.arcs.length - g /\
 (True /\
 (0:Nat)=(0:Nat) /\
 (0:Nat)=(0:Nat) /\
 True/\(↑I.arcs.length:Int)=(↑I.arcs.length:Int)/\IntKind.i64.wrap ((↑g:Int)+(1:Int))=(↑g':Int)/\True) /\
 ((z7z (W (z3m I.arcs x g)) (W (x_1.cost * x.getD (↑g:Int).toNat (0:Int)))).hi=(W (z3m I.arcs x g')).hi /\
 (z7z (W (z3m I.arcs x g)) (W (x_1.cost * x.getD (↑g:Int).toNat (0:Int)))).lo=(W (z3m I.arcs x g')).lo/\True) /\
 ((0:Int)=(0:Int)/\(0:Int)=(0:Int)/\True)/\I.arcs=I.arcs/\x=x/\True) /\
 (decide ((↑g:Int)<(↑I.arcs.length:Int))=false ->
 (((W (z3m I.arcs x g)).hi=(W (z9e I x)).hi/\(W (z3m I.arcs x g)).lo=(W (z9e I x)).lo/\True)/\True)/\True)
theorem Cost_q (I:Inst) (x:List Int) (ty0 ty1 ty2:TypeId):Cost_E0 I x ty0 ty1 ty2=z2d TT Cost_g (Cost_I I x) (Cost_an I x) Tryz.f58 [.agg [.row 0,.row 1],.row 2] [(0,.row false ty0 (.ints .i64 I.sup)),(1,.row false ty1 (.arcs I.arcs)),(2,.row false ty2 (.ints .i64 x))] (Cost_r I x):=by kernel_rfl
theorem Cost_E (I:Inst) (x:List Int) (ty0 ty1 ty2:TypeId) (hp:A64 x/\A64c I.arcs/\I.arcs.length <= 1000000):FVc TT Cost_g (Cost_I I x) (Cost_an I x) Tryz.f58 [.agg [.row 0,.row 1],.row 2] [(0,.row false ty0 (.ints .i64 I.sup)),(1,.row false ty1 (.arcs I.arcs)),(2,.row false ty2 (.ints .i64 x))] (Cost_r I x):=by
 refine FVc.of (Cost_E0 I x ty0 ty1 ty2) (Cost_q I x ty0 ty1 ty2) ?_
 unfold Cost_E0
 simp only [eq_self,exists_const,forall_const,ne_eq,Int.toNat_natCast,zSS,z06]
 obtain ⟨p1,p2,p3⟩:=hp
 refine ⟨0,⟨by omega,rfl,by simp only [z3m,W_zero],by simp only [z3m,W_zero]⟩,fun k hk=>⟨fun h1=>⟨by omega,by omega,fun a ha=>?_⟩,fun h1=>?_⟩⟩
 ·have hc:=p2 a (List.mem_of_getElem? ha)
  have hg:I.arcs.getD k default=a:=by simp [List.getD,ha]
  have hx:=p1.getD k
  rw [za8]
  refine ⟨by omega,⟨hc,hx⟩,⟨zf1 _,zf1 _⟩,k+1,by omega,by omega,w64 (by omega) (by omega),?_⟩
  rw [show z3m I.arcs x (k+1)=z3m I.arcs x k+a.cost * x.getD k 0 by simp only [z3m,hg]]
  exact ⟨rfl,rfl⟩
 ·rw [show k=I.arcs.length by omega]
  exact ⟨rfl,rfl⟩
theorem Cost_ok:SpecOk Tryz.prog Cost_n true (z02 true Cost_fs) :=
 z0a z0h (show z14 Tryz.prog Cost_g from z00 along_ok (z00 Times_ok (z00 zbv (z04)))) (by kernel_rfl) mixedOrders Tryz.func58 rfl rfl (by kernel_rfl) (n:=2) (by decide +kernel) (I:=Cost_IA) (fun _ _=>z07) (A:=Cost_A)
  (fun args h r hr=>by
   unfold Cost_fs at hr
   split at hr
   ·rename_i ty0 I_s ty1 I_a ty2 x; cases hr; refine ⟨rfl,fun hp=>?_⟩; have hE:=Cost_E ⟨I_s,I_a⟩ x ty0 ty1 ty2 hp; exact hE
   ·cases hr)
def Fits_E0 (I : Inst) (x : List Int) (ty0 ty1 ty2 : TypeId) : Prop :=
   True/\((z05 I != (0:Int))=true->(z05 I=z1a I x/\True)/\True)/\((z05 I != (0:Int))=false->(((↑x.length:Int) != (↑I.arcs.length:Int))=true->((30:Int)=z1a I x/\True)/\True)/\(((↑x.length:Int) != (↑I.arcs.length:Int))=false->∃ (g0:Nat),((g0 <= I.arcs.length/\(z2n (List.drop g0 I.arcs) (List.drop g0 x)=z2n I.arcs x))/\((True/\(0=0/\(True/\((↑I.arcs.length:Int)=↑I.arcs.length/\((0:Int)=↑g0/\True)))))/\((True/\(True/\True))/\(I.sup=I.sup/\(I.arcs=I.arcs/\(x=x/\True))))))/\∀ (g:Nat),g <= I.arcs.length/\z2n (List.drop g I.arcs) (List.drop g x)=z2n I.arcs x->(decide ((↑g:Int)<↑I.arcs.length)=true->((0:Int) <= ↑g/\((↑g:Int)<↑I.arcs.length))/\((↑g:Int).toNat<I.arcs.length/\(∀ (x_1:Arc),I.arcs[(↑g:Int).toNat]? = some x_1->((0:Int) <= ↑g/\((↑g:Int)<↑x.length))/\((↑g:Int).toNat<x.length/\(∀ (x_2:Int),x[(↑g:Int).toNat]? = some x_2->True/\(((!fitF x_1 x_2)=true->((31:Int)=z1a I x/\True)/\True)/\((!fitF x_1 x_2)=false->∃ (g':Nat),(g' <= I.arcs.length/\(z2n (List.drop g' I.arcs) (List.drop g' x)=z2n I.arcs x))/\(I.arcs.length - g'<I.arcs.length - g/\((True/\(0=0/\(True/\((↑I.arcs.length:Int)=↑I.arcs.length/\(IntKind.i64.wrap ((↑g:Int)+(1:Int))=(↑g':Int)/\True)))))/\((True/\(True/\True))/\(I.sup=I.sup/\(I.arcs=I.arcs/\(x=x/\True)))))))))))))/\(decide ((↑g:Int)<↑I.arcs.length)=false->(I.sup.length <= (10000:Nat)/\(I.arcs.length <= (10000:Nat)/\(A64 x)))/\(∃ (g0:Nat),((g0 <= I.sup.length/\(∀ (v:Nat),v<g0->W (z52 (↑I.sup.length:Int) I.arcs x I.arcs.length (↑v:Int))=W (I.sup.getD v (0:Int))))/\((0=0/\(True/\((↑(netF I x).length:Int)=↑(netF I x).length/\((0:Int)=↑g0/\True))))/\(netF I x=netF I x/\((True/\(True/\True))/\(I.sup=I.sup/\(I.arcs=I.arcs/\True))))))/\(∀ (g:Nat),(g <= I.sup.length/\(∀ (v:Nat),v<g->W (z52 (↑I.sup.length:Int) I.arcs x I.arcs.length (↑v:Int))=W (I.sup.getD v (0:Int))))->(decide ((↑g:Int)<↑(netF I x).length)=true->((0:Int) <= ↑g/\((↑g:Int)<↑(netF I x).length))/\((↑g:Int).toNat<(netF I x).length/\(∀ (x_1:Wide),(netF I x)[(↑g:Int).toNat]? = some x_1->((0:Int) <= ↑g/\((↑g:Int)<↑I.sup.length))/\((↑g:Int).toNat<I.sup.length/\(∀ (x_2:Int),I.sup[(↑g:Int).toNat]? = some x_2->I64 x_2/\(((!decide ([x_1.hi,x_1.lo]=[(W x_2).hi,(W x_2).lo]))=true->((32:Int)=z1a I x/\True)/\True)/\((!decide ([x_1.hi,x_1.lo]=[(W x_2).hi,(W x_2).lo]))=false->∃ (g':Nat),(g' <= I.sup.length/\(∀ (v:Nat),v<g'->W (z52 (↑I.sup.length:Int) I.arcs x I.arcs.length (↑v:Int))=W (I.sup.getD v (0:Int))))/\(I.sup.length - g'<I.sup.length - g/\((0=0/\(True/\((↑(netF I x).length:Int)=↑(netF I x).length/\(IntKind.i64.wrap ((↑g:Int)+(1:Int))=(↑g':Int)/\True))))/\(netF I x=netF I x/\((True/\(True/\True))/\(I.sup=I.sup/\(I.arcs=I.arcs/\True)))))))))))))/\(decide ((↑g:Int)<↑(netF I x).length)=false->((0:Int)=z1a I x/\True)/\True))))))
theorem Fits_q (I:Inst) (x:List Int) (ty0 ty1 ty2:TypeId):Fits_E0 I x ty0 ty1 ty2=z2d TT Fits_g (Fits_I I x) (Fits_an I x) Tryz.f133 [.agg [.row 0,.row 1],.row 2] [(0,.row false ty0 (.ints .i64 I.sup)),(1,.row false ty1 (.arcs I.arcs)),(2,.row false ty2 (.ints .i64 x))] (Fits_r I x):=by kernel_rfl
theorem Fits_E (I:Inst) (x:List Int) (ty0 ty1 ty2:TypeId) (hp:I.sup.length <= 10000/\I.arcs.length <= 10000/\A64 x/\A64 I.sup):FVc TT Fits_g (Fits_I I x) (Fits_an I x) Tryz.f133 [.agg [.row 0,.row 1],.row 2] [(0,.row false ty0 (.ints .i64 I.sup)),(1,.row false ty1 (.arcs I.arcs)),(2,.row false ty2 (.ints .i64 x))] (Fits_r I x):=by
 refine FVc.of (Fits_E0 I x ty0 ty1 ty2) (Fits_q I x ty0 ty1 ty2) ?_
 unfold Fits_E0
 simp only [eq_self,exists_const,forall_const,ne_eq,Int.toNat_natCast,zSS,z06]
 obtain ⟨p1,p2,p3,p4⟩:=hp
 simp only [netF_len]
 refine ⟨fun h=>by simp [z1a,h],fun h1=>⟨fun h2=>?_,fun h2=>⟨0,⟨⟨by omega,by simp⟩,rfl⟩,fun k hk=>⟨fun h3=>⟨by omega,by omega,fun a ha=>⟨by omega,by omega,fun y hy=>?_⟩⟩,fun h3=>?_⟩⟩⟩⟩
 ·have h2':¬ x.length=I.arcs.length:=by omega
  simp [z1a,h1,h2']
 ·have e:=fitsAll_drop (x:=x) ha
  have hyd:x.getD k 0=y:=by simp [List.getD,hy]
  rw [hk.2,hyd] at e
  have h2':x.length=I.arcs.length:=by omega
  refine ⟨fun h4=>?_,fun h4=>⟨k+1,⟨by omega,?_⟩,by omega,w64 (by omega) (by omega)⟩⟩
  ·rw [h4] at e
   simp only [Bool.false_and] at e
   simp [z1a,h1,h2',e]
  ·rw [e,h4,Bool.true_and]
 ·have h2':x.length=I.arcs.length:=by omega
  have hall:z2n I.arcs x=true:=by rw [<- hk.2,zam (by omega)]; rfl
  refine ⟨⟨p1,p2,p3⟩,0,⟨⟨by omega,fun v hv=>by omega⟩,rfl⟩,fun j hj=>⟨fun h4=>⟨by omega,by omega,fun w hw=>⟨by omega,by omega,fun z hz=>?_⟩⟩,fun h4=>?_⟩⟩
  ·obtain ⟨_,rfl⟩:=z19 hw
   have hzd:I.sup.getD j 0=z:=by simp [List.getD,hz]
   have hwe:∀ u v:Wide,[u.hi,u.lo]=[v.hi,v.lo] ↔ u=v:=fun u v=>by obtain ⟨u1,u2⟩:=u; obtain ⟨v1,v2⟩:=v; simp
   rw [hwe]
   refine ⟨p4 z (List.mem_of_getElem? hz),fun h5=>?_,fun h5=>⟨j+1,⟨by omega,fun v hv=>?_⟩,by omega,w64 (by omega) (by omega)⟩⟩
   ·have hno:netOk I x=false:=by
     rw [Bool.eq_false_iff]
     intro h
     unfold netOk at h
     have:=List.all_eq_true.1 h j (List.mem_range.2 (by omega))
     rw [decide_eq_true_eq,hzd] at this
     exact h5 this
    simp [z1a,h1,h2',hall,hno]
   ·by_cases hvj:v=j
    ·subst hvj; rw [hzd]; exact h5
    ·exact hj.2 v (by omega)
  ·have hno:netOk I x=true:=by
    unfold netOk
    rw [List.all_eq_true]
    intro v hv
    rw [decide_eq_true_eq]
    exact hj.2 v (by have:=List.mem_range.1 hv; omega)
   simp [z1a,h1,h2',hall,hno]
theorem Fits_ok:SpecOk Tryz.prog Fits_n true (z02 true Fits_fs) :=
 z0a z0h (show z14 Tryz.prog Fits_g from z00 za9 (z00 fit_ok (z00 Net_ok (z00 zhk (z04))))) (by kernel_rfl) mixedOrders Tryz.func133 rfl rfl (by kernel_rfl) (n:=2) (by decide +kernel) (I:=Fits_IA) (fun _ _=>z07) (A:=Fits_A)
  (fun args h r hr=>by
   unfold Fits_fs at hr
   split at hr
   ·rename_i ty0 I_s ty1 I_a ty2 x; cases hr; refine ⟨rfl,fun hp=>?_⟩; have hE:=Fits_E ⟨I_s,I_a⟩ x ty0 ty1 ty2 hp; exact hE
   ·cases hr)
end Go.Proofs.YtapeenpimcffpaaGreat
end
section
section
namespace Go.Ql
open Go Go.RowKit
def onF (side:List Bool) (n:Int):Bool:=decide (0 <= n) && side.getD n.toNat false
def isN (m:Int) (n:Int):Bool:=decide (0 <= n) && decide (n<m)
def zca (m:Int) (side:List Bool) (a:Arc):Bool:=isN m a.src && isN m a.dst && onF side a.src && !onF side a.dst
def inA (m:Int) (side:List Bool) (a:Arc):Bool:=isN m a.src && isN m a.dst && onF side a.dst && !onF side a.src
def z11 (m:Int) (side:List Bool):List Arc->Int->Option Int
 | [],s=>some s
 | a :: l,s=>if zca m side a then (if a.cap=inf then none else z11 m side l (s+a.cap)) else if inA m side a then z11 m side l (s - a.low) else z11 m side l s
def z36 (I:Inst) (side:List Bool):Option Int:=z11 I.sup.length side I.arcs 0
def z8o (o:Option Int):Wide:=match o with
 | some s=>W s
 | none=>⟨0,0⟩
def z5q (side:List Bool) (l:List Int):Nat->Int
 | 0=>0
 | k+1=>z5q side l k+(if side.getD k false then l.getD k 0 else 0)
def zb6 (I:Inst) (side:List Bool):Int:=z5q side I.sup I.sup.length
def z24 (I:Inst) (side:List Bool):Int :=
 if z05 I ≠ 0 then z05 I else if side.length ≠ I.sup.length then 30 else match z36 I side with
  | none=>34
  | some s=>if wcmp (W (zb6 I side)) (W s) <= 0 then 34 else 0
theorem onF_nat (side:List Bool) (k:Nat):onF side (k:Int)=side.getD k false:=by simp [onF]
theorem z3h (m:Int) (side:List Bool) (a:Arc) (l:List Arc) (s:Int):z11 m side (a :: l) s=if zca m side a then (if a.cap=inf then none else z11 m side l (s+a.cap)) else if inA m side a then z11 m side l (s - a.low) else z11 m side l s:=rfl
def z1m (f:Nat->Int):Nat->Int
 | 0=>0
 | k+1=>z1m f k+f k
theorem z16 {f g:Nat->Int}:∀ {n:Nat},(∀ v,v<n->f v=g v)->z1m f n=z1m g n
 | 0,_=>rfl
 | n+1,h=>by simp only [z1m]; rw [z16 (fun v hv=>h v (by omega)),h n (by omega)]
theorem za4 (f g:Nat->Int):∀ n,z1m (fun v=>f v+g v) n=z1m f n+z1m g n
 | 0=>rfl
 | n+1=>by simp only [z1m]; rw [za4 f g n]; omega
theorem za6 (f g:Nat->Int):∀ n,z1m (fun v=>f v - g v) n=z1m f n - z1m g n
 | 0=>rfl
 | n+1=>by simp only [z1m]; rw [za6 f g n]; omega
theorem z5i:∀ n,z1m (fun _=>0) n=0
 | 0=>rfl
 | n+1=>by simp only [z1m,z5i n]; rfl
theorem za5 {s f:Int} (h0:0 <= s):∀ n:Nat,z1m (fun v=>if s=(v:Int) then f else 0) n=if s<n then f else 0
 | 0=>by simp only [z1m]; rw [if_neg (by omega)]
 | n+1=>by
  simp only [z1m]
  rw [za5 h0 n]
  by_cases h1:s<n
  ·rw [if_pos h1,if_neg (by omega),if_pos (by omega)]; omega
  ·by_cases h2:s=n
   ·rw [if_neg h1,if_pos h2,if_pos (by omega)]; omega
   ·rw [if_neg h1,if_neg h2,if_neg (by omega)]; omega
theorem flowD_sum (n:Nat) (a:Arc) (f:Int):z1m (fun v:Nat=>z4t n a f v) n=0:=by
 cases ho:z2z n a with
 | false=>rw [z16 (g:=fun _=>0) (fun v _=>by simp [z4t,ho]),z5i]
 | true =>
  obtain ⟨o1,o2,o3,o4⟩:=okArc_iff.1 ho
  rw [z16 (g:=fun v=>(if a.src=(v:Int) then f else 0) - (if a.dst=(v:Int) then f else 0)) (fun v _=>by simp [z4t,ho]),za6,za5 o1,za5 o3,if_pos o2,if_pos o4]
  omega
theorem netK_sum (n:Nat) (l:List Arc) (x:List Int):∀ k,z1m (fun v:Nat=>z52 n l x k v) n=0
 | 0=>by simp only [z52]; exact z5i n
 | k+1=>by
  simp only [z52]
  rw [za4,netK_sum n l x k,flowD_sum]; rfl
theorem flowD_add (n:Int) (a:Arc) (f g v:Int):z4t n a (f+g) v=z4t n a f v+z4t n a g v:=by
 unfold z4t
 (repeat' split) <;> omega
theorem zg4 {n:Int} {l:List Arc} {x:List Int} {v:Int} {B:Int} (hB:0 <= B) (hx:∀ y ∈ x,-B <= y/\y <= B):∀ k:Nat,-(2 * B * k) <= z52 n l x k v/\z52 n l x k v <= 2 * B * k
 | 0=>by simp [z52]
 | k+1=>by
  have ih:=zg4 (n:=n) (l:=l) (v:=v) hB hx k
  have hg:-B <= x.getD k 0/\x.getD k 0 <= B:=by
   by_cases hk:k<x.length
   ·have:=hx _ (List.getElem_mem hk)
    simpa [List.getD,hk] using this
   ·simp [List.getD,hk]; omega
  simp only [z52]
  have hd:-(2 * B) <= z4t n (l.getD k default) (x.getD k 0) v/\z4t n (l.getD k default) (x.getD k 0) v <= 2 * B:=by
   unfold z4t; (repeat' split) <;> omega
  have e:2 * B * ((k+1:Nat):Int)=2 * B * k+2 * B:=by
   rw [Int.natCast_succ,Int.mul_add]; omega
  omega
theorem zh4 {x:List Int} {a:Nat} (ha:a<x.length) (f:Int) (j:Nat):(x.set a (x.getD a 0+f)).getD j 0=x.getD j 0+(if j=a then f else 0):=by
 rw [List.getD_eq_getElem?_getD,List.getElem?_set]
 by_cases h:a=j
 ·subst h; simp [ha]
 ·have h':¬ j=a:=fun e=>h e.symm
  simp [h,h',List.getD_eq_getElem?_getD]
theorem netK_set {n:Int} {l:List Arc} {x:List Int} {v:Int} {a:Nat} (ha:a<x.length) (f:Int):∀ k:Nat,z52 n l (x.set a (x.getD a 0+f)) k v=z52 n l x k v+(if a<k then z4t n (l.getD a default) f v else 0)
 | 0=>by simp [z52]
 | k+1=>by
  simp only [z52]
  rw [netK_set ha f k,zh4 ha,flowD_add]
  by_cases h:k=a
  ·subst h; rw [if_neg (by omega),if_pos rfl,if_pos (by omega)]; omega
  ·rw [if_neg h]
   have z:z4t n (l.getD k default) 0 v=0:=by unfold z4t; (repeat' split) <;> omega
   rw [z]
   by_cases h2:a<k
   ·rw [if_pos h2,if_pos (by omega)]; omega
   ·rw [if_neg h2,if_neg (by omega)]; omega
theorem fitsAll_iff {l:List Arc} {x:List Int}:z2n l x=true ↔ ∀ j a,l[j]? = some a->fitF a (x.getD j 0)=true:=by
 induction l generalizing x with
 | nil=>simp [z2n]
 | cons b l ih =>
  simp only [z2n,Bool.and_eq_true,ih]
  constructor
  ·rintro ⟨h1,h2⟩ j a ha
   cases j with
   | zero =>
    simp at ha; subst ha
    cases x <;> simpa [List.getD] using h1
   | succ j =>
    rw [List.getElem?_cons_succ] at ha
    have:=h2 j a ha
    cases x with
    | nil=>simpa [List.getD] using this
    | cons y x=>simpa [List.getD] using this
  ·intro h
   refine ⟨?_,fun j a ha=>?_⟩
   ·have:=h 0 b (by simp)
    cases x <;> simpa [List.getD] using this
   ·have:=h (j+1) a (by simpa using ha)
    cases x with
    | nil=>simpa [List.getD] using this
    | cons y x=>simpa [List.getD] using this
theorem netOk_iff {I:Inst} {x:List Int}:netOk I x=true ↔ ∀ v,v<I.sup.length->W (z52 I.sup.length I.arcs x I.arcs.length v)=W (I.sup.getD v 0):=by
 unfold netOk
 rw [List.all_eq_true]
 simp only [List.mem_range,decide_eq_true_eq]
theorem fitsF_zero {I:Inst} {x:List Int}:z1a I x=0 ↔ z05 I=0/\x.length=I.arcs.length/\z2n I.arcs x=true/\netOk I x=true:=by
 have hs:=rightF_small' I
 unfold z1a
 constructor
 ·intro h
  split at h
  ·rename_i h1; exact absurd h h1
  ·rename_i h1
   split at h
   ·omega
   ·rename_i h2
    split at h
    ·omega
    ·rename_i h3
     split at h
     ·omega
     ·rename_i h4
      simp at h1 h2 h3 h4
      exact ⟨h1,h2,h3,h4⟩
 ·rintro ⟨h1,h2,h3,h4⟩
  simp [h1,h2,h3,h4]
def A32 (l:List Int):Prop:=∀ x ∈ l,-2147483648 <= x/\x <= 2147483647
theorem A32.getD {l:List Int} (h:A32 l) (k:Nat):-2147483648 <= l.getD k 0/\l.getD k 0 <= 2147483647:=by
 by_cases hk:k<l.length
 ·have:=h _ (List.getElem_mem hk)
  simpa [List.getD,hk] using this
 ·simp [List.getD,hk]
theorem zd0 (n:Int):∀ (l:List Arc),(∀ a ∈ l,z0r a n=0)->z2a n l=0
 | [],_=>rfl
 | a :: l,h=>by simp only [z2a,h a (by simp),zd0 n l (fun b hb=>h b (by simp [hb]))]; simp
theorem zhg:∀ (l:List Int) (s:Int),(∀ x ∈ l,-4398046511104 <= x/\x <= 4398046511104)->s+l.sum=0->z38 l s=0
 | [],s,_,h=>by simp at h; simp [z38,h]
 | x :: l,s,hb,h=>by
  have:=hb x (by simp)
  simp only [z38]
  rw [if_neg (by omega)]
  exact zhg l (s+x) (fun y hy=>hb y (by simp [hy])) (by rw [List.sum_cons] at h; omega)
theorem right_of {I:Inst} (h1:I.sup.length <= 64) (h2:I.arcs.length <= 256) (h3:∀ a ∈ I.arcs,z0r a I.sup.length=0) (h4:∀ x ∈ I.sup,-4398046511104 <= x/\x <= 4398046511104) (h5:I.sup.sum=0):z05 I=0:=by
 unfold z05
 rw [if_neg (by omega),if_pos (zd0 _ _ h3)]
 exact zhg _ _ h4 (by omega)
theorem zej (f:Nat->Int):∀ n,((List.range n).map f).sum=z1m f n
 | 0=>rfl
 | n+1=>by rw [List.range_succ,List.map_append,List.sum_append,zej f n]; simp [z1m]
theorem Arc.Nice.right {m:Int} {a:Arc} (h:a.Nice m):z0r a m=0:=by
 have:=h.s0; have:=h.s1; have:=h.d0; have:=h.d1; have:=h.l0; have:=h.l1; have:=h.c0; have:=h.c1; have:=h.k0; have:=h.k1
 unfold z0r
 rw [if_neg (by omega),if_neg (by omega),if_neg (by omega),if_neg (by omega)]
theorem z6q (m:Int) (side:List Bool):∀ (l r:List Arc) (s:Int),z11 m side (l ++ r) s=(z11 m side l s).bind (z11 m side r)
 | [],r,s=>by simp [z11]
 | a :: l,r,s=>by
  rw [List.cons_append,z3h,z3h]
  split
  ·split
   ·rfl
   ·exact z6q m side l r _
  ·split
   ·exact z6q m side l r _
   ·exact z6q m side l r _
theorem z8j (side:List Bool) (l:List Int):∀ k,z5q side l k=z1m (fun v=>if side.getD v false then l.getD v 0 else 0) k
 | 0=>rfl
 | k+1=>by simp only [z5q,z1m,z8j side l k]
theorem sum_sumTo:∀ (l:List Int),l.sum=z1m (fun v=>l.getD v 0) l.length:=by
 intro l
 have h:=zej (fun v=>l.getD v 0) l.length
 rw [<- h]
 congr 1
 apply List.ext_getElem?
 intro i
 by_cases hi:i<l.length
 ·simp [hi]
 ·simp [hi]
def zh1 (m:Int) (side:List Bool) (a:Arc) (f:Int):Int:=(if zca m side a then f else 0) - (if inA m side a then f else 0)
def z6g (m:Int) (side:List Bool) (l:List Arc) (x:List Int):Nat->Int
 | 0=>0
 | k+1=>z6g m side l x k+zh1 m side (l.getD k default) (x.getD k 0)
theorem sumTo_pick {s f:Int} (p:Nat->Bool) (h0:0 <= s):∀ n:Nat,s<n->z1m (fun v=>if p v then (if s=(v:Int) then f else 0) else 0) n=if p s.toNat then f else 0:=by
 intro n hn
 have:z1m (fun v=>if p v then (if s=(v:Int) then f else 0) else 0) n=z1m (fun v=>if s=(v:Int) then (if p s.toNat then f else 0) else 0) n:=by
  refine z16 fun v hv=>?_
  by_cases e:s=(v:Int)
  ·have:s.toNat=v:=by omega
   simp [e,this]
  ·simp [e]
 rw [this,za5 h0,if_pos hn]
theorem flowD_cross {n:Nat} {side:List Bool} {a:Arc} (f:Int):z1m (fun v:Nat=>if side.getD v false then z4t n a f v else 0) n=zh1 n side a f:=by
 cases ho:z2z n a with
 | false =>
  have hz:∀ v:Nat,(if side.getD v false then z4t n a f v else 0)=0:=fun v=>by simp [z4t,ho]
  rw [z16 (g:=fun _=>0) (fun v _=>hz v),z5i]
  have:isN (n:Int) a.src=false ∨ isN (n:Int) a.dst=false:=by
   unfold z2z at ho
   unfold isN
   cases h1:(decide (0 <= a.src) && decide (a.src<(n:Int))) <;> simp_all
  unfold zh1 zca inA
  rcases this with h | h <;> simp [h]
 | true =>
  obtain ⟨o1,o2,o3,o4⟩:=okArc_iff.1 ho
  rw [z16 (g:=fun v=>(if side.getD v false then (if a.src=(v:Int) then f else 0) else 0) - (if side.getD v false then (if a.dst=(v:Int) then f else 0) else 0)) (fun v _=>by
   simp only [z4t,ho,if_true]
   cases side.getD v false <;> simp),za6,sumTo_pick (fun v=>side.getD v false) o1 n o2,sumTo_pick (fun v=>side.getD v false) o3 n o4]
  unfold zh1 zca inA isN onF
  simp only [o1,o2,o3,o4,decide_true,Bool.true_and]
  cases side.getD a.src.toNat false <;> cases side.getD a.dst.toNat false <;> simp
theorem zkp (n:Nat) (side:List Bool) (l:List Arc) (x:List Int):∀ k,z1m (fun v:Nat=>if side.getD v false then z52 n l x k v else 0) n=z6g n side l x k
 | 0=>by
  simp only [z52,z6g]
  rw [z16 (g:=fun _=>0) (fun v _=>by simp),z5i]
 | k+1=>by
  simp only [z6g]
  rw [<- zkp n side l x k,<- flowD_cross,<- za4]
  refine z16 fun v _=>?_
  simp only [z52]
  cases side.getD v false <;> simp
theorem fits_net {I:Inst} {x:List Int} (hl:I.arcs.length <= 1000) (hx:A64 x) (hs:Within 4398046511104 I.sup) (h:z1a I x=0):∀ v,v<I.sup.length->z52 I.sup.length I.arcs x I.arcs.length v=I.sup.getD v 0:=by
 intro v hv
 have hn:=netOk_iff.1 (fitsF_zero.1 h).2.2.2 v hv
 have hb:=zg4 (n:=I.sup.length) (l:=I.arcs) (x:=x) (v:=v) (B:=9223372036854775808) (by omega) (fun y hy=>by have:=hx y hy; unfold I64 at this; omega) I.arcs.length
 have hs':=hs.getD (by omega) v
 refine W_inj ?_ ?_ hn
 ·unfold zb7; omega
 ·unfold zb7; omega
theorem fits_need {I:Inst} {x:List Int} (side:List Bool) (hl:I.arcs.length <= 1000) (hx:A64 x) (hs:Within 4398046511104 I.sup) (h:z1a I x=0):z6g I.sup.length side I.arcs x I.arcs.length=zb6 I side:=by
 rw [<- zkp,zb6,z8j]
 refine z16 fun v hv=>?_
 rw [fits_net hl hx hs h v hv]
theorem zhe {m:Int} {side:List Bool} {a:Arc} {s t:Int} (h:z11 m side [a] s=some t):(zca m side a=true/\a.cap ≠ inf/\t=s+a.cap) ∨ (zca m side a=false/\inA m side a=true/\t=s - a.low) ∨ (zca m side a=false/\inA m side a=false/\t=s):=by
 rw [z3h] at h
 simp only [z11] at h
 cases ho:zca m side a with
 | true =>
  rw [ho] at h
  simp only [if_true] at h
  split at h
  ·cases h
  ·rename_i hc; cases h; exact .inl ⟨rfl,hc,rfl⟩
 | false =>
  rw [ho] at h
  simp only [Bool.false_eq_true,if_false] at h
  cases hi:inA m side a with
  | true=>rw [hi] at h; simp only [if_true] at h; cases h; exact .inr (.inl ⟨rfl,rfl,rfl⟩)
  | false=>rw [hi] at h; simp only [Bool.false_eq_true,if_false] at h; cases h; exact .inr (.inr ⟨rfl,rfl,rfl⟩)
theorem out_not_in {m:Int} {side:List Bool} {a:Arc} (h:zca m side a=true):inA m side a=false:=by
 unfold zca at h; unfold inA
 cases h1:isN m a.src <;> cases h2:isN m a.dst <;> cases h3:onF side a.src <;> cases h4:onF side a.dst <;> simp_all
theorem zfm {m:Int} {side:List Bool} {l:List Arc} {x:List Int} (hf:∀ j a,l[j]? = some a->fitF a (x.getD j 0)=true):∀ k,k <= l.length->∀ t,z11 m side (l.take k) 0=some t->z6g m side l x k <= t
 | 0,_,t,h=>by simp [z11] at h; subst h; simp [z6g]
 | k+1,hk,t,h=>by
  have ha:=List.getElem?_eq_getElem (show k<l.length by omega)
  rw [z1i ha,z6q] at h
  cases h1:z11 m side (l.take k) 0 with
  | none=>rw [h1] at h; cases h
  | some u =>
   rw [h1] at h
   have ih:=zfm hf k (by omega) u h1
   have hfa:=hf k _ ha
   have hd:l.getD k default=l[k]:=by simp [List.getD,ha]
   unfold fitF at hfa
   simp only [Bool.and_eq_true,Bool.or_eq_true,decide_eq_true_eq] at hfa
   simp only [z6g,hd,zh1]
   rcases zhe h with ⟨h2,h3,h4⟩ | ⟨h2,h3,h4⟩ | ⟨h2,h3,h4⟩
   ·rw [h2,out_not_in h2]
    simp only [if_true,Bool.false_eq_true,if_false]
    rcases hfa.2 with h5 | h5
    ·exact absurd h5 h3
    ·omega
   ·rw [h2,h3]
    simp only [if_true,Bool.false_eq_true,if_false]
    omega
   ·rw [h2,h3]
    simp only [Bool.false_eq_true,if_false]
    omega
theorem zgf {m:Int} {side:List Bool} {l:List Arc} (hb:∀ a ∈ l,(0 <= a.low/\a.low <= 4398046511104)/\(a.cap=inf ∨ 0 <= a.cap/\a.cap <= 4398046511104)):∀ k,k <= l.length->∀ t,z11 m side (l.take k) 0=some t->-(4398046511104 * (k:Int)) <= t/\t <= 4398046511104 * (k:Int)
 | 0,_,t,h=>by simp [z11] at h; subst h; simp
 | k+1,hk,t,h=>by
  have ha:=List.getElem?_eq_getElem (show k<l.length by omega)
  rw [z1i ha,z6q] at h
  cases h1:z11 m side (l.take k) 0 with
  | none=>rw [h1] at h; cases h
  | some u =>
   rw [h1] at h
   have ih:=zgf hb k (by omega) u h1
   have hfa:=hb _ (List.getElem_mem (show k<l.length by omega))
   rcases zhe h with ⟨h2,h3,h4⟩ | ⟨h2,h3,h4⟩ | ⟨h2,h3,h4⟩
   ·rcases hfa.2 with h5 | h5
    ·exact absurd h5 h3
    ·omega
   ·omega
   ·omega
theorem zlr {side:List Bool} {s:List Int} {b:Int} (hb:0 <= b) (h:Within b s):∀ k:Nat,-(b * k) <= z5q side s k/\z5q side s k <= b * k
 | 0=>by simp [z5q]
 | k+1=>by
  have ih:=zlr (side:=side) hb h k
  have hg:=h.getD hb k
  have e:b * ((k+1:Nat):Int)=b * k+b:=by rw [Int.natCast_succ,Int.mul_add]; omega
  simp only [z5q]
  split <;> omega
theorem zf6 {I:Inst} (hr:z05 I=0):∀ a ∈ I.arcs,(0 <= a.low/\a.low <= 4398046511104)/\(a.cap=inf ∨ 0 <= a.cap/\a.cap <= 4398046511104):=fun a ha=>by
 have h:=z1h hr ha
 obtain ⟨_,h1,_⟩:=h
 unfold inf
 refine ⟨⟨h1.1,h1.2.1⟩,?_⟩
 rcases h1.2.2 with h2 | h2
 ·exact .inl h2
 ·exact .inr (by omega)
theorem cmp_need {I:Inst} {side:List Bool} {s:Int} (hr:z05 I=0) (hl:I.arcs.length <= 1000) (hn:I.sup.length <= 1000) (hs:Within 4398046511104 I.sup) (h:z36 I side=some s) (m:Int) (hm:m=zb6 I side):wcmp (W m) (W s) <= 0 ↔ m <= s:=by
 have hb:=zgf (m:=I.sup.length) (side:=side) (zf6 hr) I.arcs.length (Nat.le_refl _) s (by rw [List.take_length]; exact h)
 have hk:=zlr (side:=side) (by omega) hs I.sup.length
 have e:zb6 I side=z5q side I.sup I.sup.length:=rfl
 rw [zbj (by unfold zb7; omega) (by unfold zb7; omega)]
 split
 ·omega
 ·split <;> omega
theorem zcd {I:Inst} {side:List Bool} {x:List Int} (hl:I.arcs.length <= 1000) (hn:I.sup.length <= 1000) (hx:A64 x) (hs:Within 4398046511104 I.sup) (h:z24 I side=0):z1a I x ≠ 0:=by
 intro hf
 have hr:=(fitsF_zero.1 hf).1
 unfold z24 at h
 simp only [hr,ne_eq,not_true,if_false] at h
 split at h
 ·omega
 ·split at h
  ·omega
  ·rename_i s hroom
   split at h
   ·omega
   ·rename_i hc
    rw [cmp_need hr hl hn hs hroom _ rfl] at hc
    have h1:=fits_need side hl hx hs hf
    have h2:=zfm (m:=I.sup.length) (side:=side) (fitsAll_iff.1 (fitsF_zero.1 hf).2.2.1) I.arcs.length (Nat.le_refl _) s (by rw [List.take_length]; exact hroom)
    omega
end Go.Ql
end
end
section
namespace Go.Proofs.YtapeenpimcffpaaGreat
open Go Go.RowKit Go.Ql Go.Vc
def on_r (side:List Bool) (n:Int):FRes:={ pre:=True,res:=.bool (onF side n),rows:=[],eff:=[] }
def on_fs:FS:=fun args h=>match args,h with
 | [.row 0,.int .i64 n],[(0,.row false ty0 (.bools side))]=>some (on_r side n)
 | _,_=>none
def on_an (side:List Bool) (n:Int):List (Nat × Ann):=[]
def on_A:List SV->z0e->List (Nat × Ann):=fun _ _=>[]
def on_g:z0c:=[]
abbrev on_n:Nat:=160
def on_I (side:List Bool) (n:Int):List (Nat × z09):=[]
def on_IA:List SV->z0e->List (Nat × z09):=fun _ _=>[]
def over1_r (n:Int) (I:Inst):FRes:={ pre:=True,res:=.bool (isN I.sup.length n),rows:=[],eff:=[] }
def over1_fs:FS:=fun args h=>match args,h with
 | [.int .i64 n,.ptr 0 0 0 0],[(0,.box false 25 [.row 1,.row 2]),(1,.row false ty1 (.ints .i64 I_s)),(2,.row false ty2 (.arcs I_a))]=>some (over1_r n ⟨I_s,I_a⟩)
 | _,_=>none
def over1_an (n:Int) (I:Inst):List (Nat × Ann):=[]
def over1_A:List SV->z0e->List (Nat × Ann):=fun _ _=>[]
def over1_g:z0c:=[]
abbrev over1_n:Nat:=173
def over1_I (n:Int) (I:Inst):List (Nat × z09):=[]
def over1_IA:List SV->z0e->List (Nat × z09):=fun _ _=>[]
abbrev over_n:Nat:=159
def over_g:z0c:=[]
def over_spec:Vc.Spec:=z2c TT over_g (fun _ _ _=>[]) Tryz.f159
def CRoom_r (I:Inst) (side:List Bool):FRes:={ pre:=A64a I.arcs/\I.arcs.length <= 140737488351232,res:=.tup [.agg (z1f (z8o (z36 I side))),.bool ((z36 I side).isSome)],rows:=[],eff:=[] }
def CRoom_fs:FS:=fun args h=>match args,h with
 | [.agg [.row 0,.row 1],.row 2],[(0,.row false ty0 (.ints .i64 I_s)),(1,.row false ty1 (.arcs I_a)),(2,.row false ty2 (.bools side))]=>some (CRoom_r ⟨I_s,I_a⟩ side)
 | _,_=>none
def CRoom_an (I:Inst) (side:List Bool):List (Nat × Ann):=[]
def CRoom_A:List SV->z0e->List (Nat × Ann):=fun _ _=>[]
def CRoom_g:z0c:=[(over_n,(false,over_spec)),(zev,(true,z02 true z81)),(Of_n,(true,z02 true zcy)),(zgy,(true,z02 true z82))]
abbrev CRoom_n:Nat:=145
def CRoom_i0g:z0c:=[(over1_n,(true,z02 true over1_fs)),(on_n,(true,z02 true on_fs))]
def CRoom_i0 (I:Inst) (side:List Bool):z09:=inlI TT CRoom_i0g (fun args hp nk=>match args with
  | [y,c1,c2,c3]=>[(1,{ G:=Nat × Int,inv:=fun g=>⟨[(0,y),(1,c1),(2,c2),(3,c3),(9,.row 1),(10,.int .i64 I.arcs.length),(11,.int .i64 g.1)],Vc.put 6 (.box true 54 (z1f (W g.2))) hp,nk⟩,rel:=fun _ g=>g.1 <= I.arcs.length/\z11 I.sup.length side (I.arcs.drop g.1) g.2=z36 I side,meas:=fun g=>I.arcs.length - g.1 })]
  | _=>[]) Tryz.f174
def CRoom_I (I:Inst) (side:List Bool):List (Nat × z09):=[(174,CRoom_i0 I side)]
def CRoom_IA:List SV->z0e->List (Nat × z09):=fun args h=>match args,h with
 | [.agg [.row 0,.row 1],.row 2],[(0,.row false ty0 (.ints .i64 I_s)),(1,.row false ty1 (.arcs I_a)),(2,.row false ty2 (.bools side))]=>CRoom_I ⟨I_s,I_a⟩ side
 | _,_=>[]
def Need_r (I:Inst) (side:List Bool):FRes:={ pre:=A64 I.sup/\I.sup.length <= 140737488351232,res:=.agg (z1f (W (zb6 I side))),rows:=[],eff:=[] }
def Need_fs:FS:=fun args h=>match args,h with
 | [.agg [.row 0,.row 1],.row 2],[(0,.row false ty0 (.ints .i64 I_s)),(1,.row false ty1 (.arcs I_a)),(2,.row false ty2 (.bools side))]=>some (Need_r ⟨I_s,I_a⟩ side)
 | _,_=>none
def Need_an (I:Inst) (side:List Bool):List (Nat × Ann):=[(3,{ G:=(Nat),inv:=fun k=>⟨[(1,.row 2),(4,.ptr 4 0 0 0),(5,.ptr 5 0 0 0),(9,.row 0),(10,.int .i64 (↑I.sup.length:Int)),(11,.int .i64 k)],[(5,.box true 54 (z1f (W (z5q side I.sup k)))),(4,.box true 54 [.int .i64 (0:Int),.int .u64 (0:Int)]),(0,.row false 0 (.ints .i64 I.sup)),(2,.row false 0 (.bools side))],6⟩,rel:=fun k0 k=>k <= I.sup.length,meas:=fun k=>I.sup.length - k })]
def Need_A:List SV->z0e->List (Nat × Ann):=fun args h=>match args,h with
 | [.agg [.row 0,.row 1],.row 2],[(0,.row false ty0 (.ints .i64 I_s)),(1,.row false ty1 (.arcs I_a)),(2,.row false ty2 (.bools side))]=>Need_an ⟨I_s,I_a⟩ side
 | _,_=>[]
def Need_g:z0c:=[(on_n,(true,z02 true on_fs)),(zgy,(true,z02 true z82)),(Of_n,(true,z02 true zcy))]
abbrev Need_n:Nat:=146
def Need_I (I:Inst) (side:List Bool):List (Nat × z09):=[]
def Need_IA:List SV->z0e->List (Nat × z09):=fun _ _=>[]
def Proves_r (I:Inst) (side:List Bool):FRes:={ pre:=A64a I.arcs/\I.arcs.length <= 140737488351232/\A64 I.sup/\I.sup.length <= 140737488351232,res:=.int .u16 (z24 I side),rows:=[],eff:=[] }
def zj8:FS:=fun args h=>match args,h with
 | [.agg [.row 0,.row 1],.row 2],[(0,.row false ty0 (.ints .i64 I_s)),(1,.row false ty1 (.arcs I_a)),(2,.row false ty2 (.bools side))]=>some (Proves_r ⟨I_s,I_a⟩ side)
 | _,_=>none
def Proves_an (I:Inst) (side:List Bool):List (Nat × Ann):=[]
def Proves_A:List SV->z0e->List (Nat × Ann):=fun _ _=>[]
def Proves_g:z0c:=[(zbw,(true,z02 true z6y)),(CRoom_n,(true,z02 true CRoom_fs)),(Need_n,(true,z02 true Need_fs)),(zcv,(true,z02 true z7e))]
abbrev Proves_n:Nat:=131
def Proves_I (I:Inst) (side:List Bool):List (Nat × z09):=[]
def Proves_IA:List SV->z0e->List (Nat × z09):=fun _ _=>[]
def Bools_r (xs:List Bool) (ys:List Bool):FRes:={ pre:=xs.length <= 1000000000,res:=.bool (decide (xs=ys)),rows:=[],eff:=[] }
def Bools_fs:FS:=fun args h=>match args,h with
 | [.row 0,.row 1],[(0,.row false ty0 (.bools xs)),(1,.row false ty1 (.bools ys))]=>some (Bools_r xs ys)
 | _,_=>none
def Bools_an (xs:List Bool) (ys:List Bool):List (Nat × Ann):=[(4,{ G:=(Nat),inv:=fun k=>⟨[(0,.row 0),(1,.row 1),(5,.int .i64 k)],[(0,.row false 0 (.bools xs)),(1,.row false 0 (.bools ys))],2⟩,rel:=fun k0 k=>k <= xs.length/\xs.take k=ys.take k,meas:=fun k=>xs.length - k })]
def Bools_A:List SV->z0e->List (Nat × Ann):=fun args h=>match args,h with
 | [.row 0,.row 1],[(0,.row false ty0 (.bools xs)),(1,.row false ty1 (.bools ys))]=>Bools_an xs ys
 | _,_=>[]
def Bools_g:z0c:=[]
abbrev Bools_n:Nat:=29
def Bools_I (xs:List Bool) (ys:List Bool):List (Nat × z09):=[]
def Bools_IA:List SV->z0e->List (Nat × z09):=fun _ _=>[]
end Go.Proofs.YtapeenpimcffpaaGreat
end
