/- Part of the proof: FRf, DB9, FB9, DC10, FC10. -/
import Derived.Test.YtggblkbecekbdaaGreatZG6
import Derived.Test.YtggblkbecekbdaaGreatZG9
import Derived.Test.YtggblkbecekbdaaGreatZG5
import Derived.Test.YtggblkbecekbdaaGreatZG7
set_option linter.unusedVariables false
set_option linter.all false
set_option linter.unusedSimpArgs false
set_option maxRecDepth 1000000
section
namespace Go.Proofs.YtggblkbecekbdaaGreat
open Go Go.RowKit Go.Ql Go.Vc
def rfit_E0 (I : Inst) (a : Int) (ty0 ty1 : TypeId) : Prop :=
      (decide (a<(0:Int))=true->(false=gOk (↑I.sup.length:Int) I.arcs a/\True)/\True) /\
 (decide (a<(0:Int))=false ->
 (decide (a ≥ (↑I.arcs.length:Int))=true->(false=gOk (↑I.sup.length:Int) I.arcs a/\True)/\True) /\
 (decide (a ≥ (↑I.arcs.length:Int))=false ->
 ((0:Int) <= a/\a<(↑I.arcs.length:Int)) /\
 a.toNat<I.arcs.length /\
 ∀ (x:Arc),
 I.arcs[a.toNat]? = some x ->
 (decide (x.src ≥ (0:Int))=true ->
 (decide (x.src<(↑I.sup.length:Int))=true ->
 (decide (x.dst ≥ (0:Int))=true->(decide (x.dst<(↑I.sup.length:Int))=gOk (↑I.sup.length:Int) I.arcs a/\True)/\True) /\
 (decide (x.dst ≥ (0:Int))=false->(false=gOk (↑I.sup.length:Int) I.arcs a/\True)/\True)) /\
 (decide (x.src<(↑I.sup.length:Int))=false->(false=gOk (↑I.sup.length:Int) I.arcs a/\True)/\True)) /\
 (decide (x.src ≥ (0:Int))=false->(false=gOk (↑I.sup.length:Int) I.arcs a/\True)/\True)))
theorem rfit_q (I:Inst) (a:Int) (ty0 ty1:TypeId):rfit_E0 I a ty0 ty1=z2r TT rfit_g (rfit_I I a) (rfit_an I a) Tryz.f158 [.agg [.row 0,.row 1],.int .i64 a] [(0,.row false ty0 (.ints .i64 I.sup)),(1,.row false ty1 (.arcs I.arcs))] (rfit_r I a):=by kernel_rfl
theorem rfit_E (I:Inst) (a:Int) (ty0 ty1:TypeId) (hp:True):FVc TT rfit_g (rfit_I I a) (rfit_an I a) Tryz.f158 [.agg [.row 0,.row 1],.int .i64 a] [(0,.row false ty0 (.ints .i64 I.sup)),(1,.row false ty1 (.arcs I.arcs))] (rfit_r I a):=by
 refine FVc.of (rfit_E0 I a ty0 ty1) (rfit_q I a ty0 ty1) ?_
 unfold rfit_E0
 simp only [eq_self,exists_const,forall_const,ne_eq,Int.toNat_natCast,zSS,z07]
 refine ⟨fun h=>(zke (.inl h)).symm,fun h=>⟨fun h2=>(zke (.inr h2)).symm,fun h2=>⟨by omega,by omega,fun x hx=>?_⟩⟩⟩
 rw [zkd (by omega) hx]
 unfold z3v
 refine ⟨fun h3=>⟨fun h4=>⟨fun h5=>?_,fun h5=>?_⟩,fun h4=>?_⟩,fun h3=>?_⟩
 ·simp [show 0 <= x.src from h3,h4,show 0 <= x.dst from h5]
 ·simp; omega
 ·simp; omega
 ·simp; omega
theorem rfit_ok:SpecOk Tryz.prog rfit_n true (z03 true rfit_fs) :=
 z0b z0r (show z1c Tryz.prog rfit_g from z05) (by kernel_rfl) mixedOrders Tryz.func158 rfl rfl (by kernel_rfl) (n:=2) (by decide +kernel) (I:=rfit_IA) (fun _ _=>z06) (A:=rfit_A)
  (fun args h r hr=>by
   unfold rfit_fs at hr
   split at hr
   ·rename_i a ty0 I_s ty1 I_a; cases hr; refine ⟨rfl,fun hp=>?_⟩; have hE:=rfit_E ⟨I_s,I_a⟩ a ty0 ty1 hp; exact hE
   ·cases hr)
end Go.Proofs.YtggblkbecekbdaaGreat
end
section
namespace Go.Proofs.YtggblkbecekbdaaGreat
open Go Go.RowKit Go.Ql Go.Vc
def has_r (g_n:Int) (g_l:List Arc) (g_i:List Int) (g_s:List Int) (a:Int):FRes:={ pre:=True,res:=.bool (decide (0 <= a) && decide (a<g_n)),rows:=[],eff:=[] }
def has_fs:FS:=fun args h=>match args,h with
 | [.ptr 0 0 0 0,.int .i64 a],[(0,.box false ty0 [.int .i64 g_n,.row 1,.row 2,.row 3]),(1,.row false ty1 (.arcs g_l)),(2,.row false ty2 (.ints .i64 g_i)),(3,.row false ty3 (.ints .i64 g_s))]=>some (has_r g_n g_l g_i g_s a)
 | _,_=>none
def has_an (g_n:Int) (g_l:List Arc) (g_i:List Int) (g_s:List Int) (a:Int):List (Nat × Ann):=[]
def has_A:List SV->z0d->List (Nat × Ann):=fun _ _=>[]
def has_g:z0c:=[]
abbrev has_n:Nat:=140
def has_I (g_n:Int) (g_l:List Arc) (g_i:List Int) (g_s:List Int) (a:Int):List (Nat × z08):=[]
def has_IA:List SV->z0d->List (Nat × z08):=fun _ _=>[]
def GArc_r (g_n:Int) (g_l:List Arc) (g_i:List Int) (g_s:List Int) (a:Int):FRes:={ pre:=True,res:=.tup [.agg (z7i (z2b g_n g_l a)),.bool (gOk g_n g_l a)],rows:=[],eff:=[] }
def GArc_fs:FS:=fun args h=>match args,h with
 | [.ptr 0 0 0 0,.int .i64 a],[(0,.box false ty0 [.int .i64 g_n,.row 1,.row 2,.row 3]),(1,.row false ty1 (.arcs g_l)),(2,.row false ty2 (.ints .i64 g_i)),(3,.row false ty3 (.ints .i64 g_s))]=>some (GArc_r g_n g_l g_i g_s a)
 | _,_=>none
def GArc_an (g_n:Int) (g_l:List Arc) (g_i:List Int) (g_s:List Int) (a:Int):List (Nat × Ann):=[]
def GArc_A:List SV->z0d->List (Nat × Ann):=fun _ _=>[]
def GArc_g:z0c:=[(has_n,(true,z03 true has_fs))]
abbrev GArc_n:Nat:=83
def GArc_I (g_n:Int) (g_l:List Arc) (g_i:List Int) (g_s:List Int) (a:Int):List (Nat × z08):=[]
def GArc_IA:List SV->z0d->List (Nat × z08):=fun _ _=>[]
def CloneI_r (l:List Int):FRes:={ pre:=l.length <= 1000000000,res:=.row 1,rows:=[.row 3 (.ints .i64 (l))],eff:=[] }
def zim:FS:=fun args h=>match args,h with
 | [.row 0],[(0,.row false ty0 (.ints .i64 l))]=>some (CloneI_r l)
 | _,_=>none
def CloneI_an (l:List Int):List (Nat × Ann):=[]
def CloneI_A:List SV->z0d->List (Nat × Ann):=fun _ _=>[]
def CloneI_g:z0c:=[]
abbrev CloneI_n:Nat:=84
def CloneI_I (l:List Int):List (Nat × z08):=[]
def CloneI_IA:List SV->z0d->List (Nat × z08):=fun _ _=>[]
abbrev put_n:Nat:=85
def put_g:z0c:=[]
def put_spec:Vc.Spec:=z9i TT put_g (fun _ _ _=>[]) Tryz.f85
def New_r (I:Inst):FRes:={ pre:=I.sup.length <= 10000/\I.arcs.length <= 10000,res:=.ptr 2 0 0 0,rows:=[.box 137 [.int .i64 I.sup.length,.row 3,.row 4,.row 5],.row 35 (.arcs I.arcs),.row 3 (.ints .i64 (z3y I)),.row 3 (.ints .i64 (z15 I))],eff:=[] }
def New_fs:FS:=fun args h=>match args,h with
 | [.agg [.row 0,.row 1]],[(0,.row false ty0 (.ints .i64 I_s)),(1,.row false ty1 (.arcs I_a))]=>some (New_r ⟨I_s,I_a⟩)
 | _,_=>none
def New_an (I:Inst):List (Nat × Ann):=[(1000002,{ G:=Unit,inv:=fun _=>⟨[(3,.ptr 9 0 0 0)],[(9,.box true 90 [.ptr 8 0 0 0]),(8,.box true 137 [.int .i64 (↑I.sup.length:Int),.row 4,.row 6,.row 7]),(6,.row true 3 (.ints .i64 [])),(7,.row true 3 (.ints .i64 [])),(4,.row true 35 (.arcs I.arcs))],10⟩,rel:=fun _ _=>True,meas:=fun _=>0 }),
 (4,{ G:=(Nat),inv:=fun k=>⟨[(3,.ptr 9 0 0 0),(35,.int .i64 (↑I.arcs.length:Int)),(36,.int .i64 k)],[(10,.row true 3 (.ints .i64 (S1 I k))),(9,.box true 90 [.ptr 8 0 0 0]),(8,.box true 137 [.int .i64 (↑I.sup.length:Int),.row 4,.row 6,.row 10]),(6,.row true 3 (.ints .i64 [])),(4,.row true 35 (.arcs I.arcs))],11⟩,rel:=fun k0 k=>k <= I.arcs.length,meas:=fun k=>I.arcs.length - k }),
 (12,{ G:=(Nat),inv:=fun k=>⟨[(3,.ptr 9 0 0 0),(77,.int .i64 (2 * I.sup.length:Nat)),(78,.int .i64 k)],[(10,.row true 3 (.ints .i64 (S2 I k))),(9,.box true 90 [.ptr 8 0 0 0]),(8,.box true 137 [.int .i64 (↑I.sup.length:Int),.row 4,.row 6,.row 10]),(6,.row true 3 (.ints .i64 [])),(4,.row true 35 (.arcs I.arcs))],11⟩,rel:=fun k0 k=>k <= 2 * I.sup.length,meas:=fun k=>2 * I.sup.length - k }),
 (20,{ G:=(Nat),inv:=fun k=>⟨[(3,.ptr 9 0 0 0),(9,.fn 85 [.ptr 9 0 0 0,.ptr 14 0 0 0]),(124,.int .i64 (↑I.arcs.length:Int)),(125,.int .i64 k)],[(14,.box true 37 [.row 12]),(12,.row true 3 (.ints .i64 (N3 I k))),(11,.row true 3 (.ints .i64 (L3 I k))),(10,.row true 3 (.ints .i64 (z15 I))),(9,.box true 90 [.ptr 8 0 0 0]),(8,.box true 137 [.int .i64 (↑I.sup.length:Int),.row 4,.row 11,.row 10]),(4,.row true 35 (.arcs I.arcs))],15⟩,rel:=fun k0 k=>k <= I.arcs.length,meas:=fun k=>I.arcs.length - k })]
def New_A:List SV->z0d->List (Nat × Ann):=fun args h=>match args,h with
 | [.agg [.row 0,.row 1]],[(0,.row false ty0 (.ints .i64 I_s)),(1,.row false ty1 (.arcs I_a))]=>New_an ⟨I_s,I_a⟩
 | _,_=>[]
def New_g:z0c:=[(Copy_n,(true,z03 true Copy_fs)),(GArc_n,(true,z03 true GArc_fs)),(CloneI_n,(true,z03 true zim)),(put_n,(false,put_spec))]
abbrev New_n:Nat:=50
def New_I (I:Inst):List (Nat × z08):=[]
def New_IA:List SV->z0d->List (Nat × z08):=fun _ _=>[]
def along_r (x:List Int) (a:Int):FRes:={ pre:=0 <= a,res:=.int .i64 (x.getD a.toNat 0),rows:=[],eff:=[] }
def along_fs:FS:=fun args h=>match args,h with
 | [.row 0,.int .i64 a],[(0,.row false ty0 (.ints .i64 x))]=>some (along_r x a)
 | _,_=>none
def along_an (x:List Int) (a:Int):List (Nat × Ann):=[]
def along_A:List SV->z0d->List (Nat × Ann):=fun _ _=>[]
def along_g:z0c:=[]
abbrev along_n:Nat:=52
def along_I (x:List Int) (a:Int):List (Nat × z08):=[]
def along_IA:List SV->z0d->List (Nat × z08):=fun _ _=>[]
def Cost_r (I:Inst) (x:List Int):FRes:={ pre:=A64 x/\A64c I.arcs/\I.arcs.length <= 1000000,res:=.agg (z0v (W (zbu I x))),rows:=[],eff:=[] }
def Cost_fs:FS:=fun args h=>match args,h with
 | [.agg [.row 0,.row 1],.row 2],[(0,.row false ty0 (.ints .i64 I_s)),(1,.row false ty1 (.arcs I_a)),(2,.row false ty2 (.ints .i64 x))]=>some (Cost_r ⟨I_s,I_a⟩ x)
 | _,_=>none
def Cost_an (I:Inst) (x:List Int):List (Nat × Ann):=[(3,{ G:=(Nat),inv:=fun k=>⟨[(1,.row 2),(4,.ptr 4 0 0 0),(5,.ptr 5 0 0 0),(9,.row 1),(10,.int .i64 (↑I.arcs.length:Int)),(11,.int .i64 k)],[(5,.box true 47 (z0v (W (z4z I.arcs x k)))),(4,.box true 47 [.int .i64 (0:Int),.int .u64 (0:Int)]),(1,.row false 0 (.arcs I.arcs)),(2,.row false 0 (.ints .i64 x))],6⟩,rel:=fun k0 k=>k <= I.arcs.length,meas:=fun k=>I.arcs.length - k })]
def Cost_A:List SV->z0d->List (Nat × Ann):=fun args h=>match args,h with
 | [.agg [.row 0,.row 1],.row 2],[(0,.row false ty0 (.ints .i64 I_s)),(1,.row false ty1 (.arcs I_a)),(2,.row false ty2 (.ints .i64 x))]=>Cost_an ⟨I_s,I_a⟩ x
 | _,_=>[]
def Cost_g:z0c:=[(along_n,(true,z03 true along_fs)),(Times_n,(true,z03 true Times_fs)),(Plus_n,(true,z03 true Plus_fs))]
abbrev Cost_n:Nat:=38
def Cost_I (I:Inst) (x:List Int):List (Nat × z08):=[]
def Cost_IA:List SV->z0d->List (Nat × z08):=fun _ _=>[]
def rArc_r (I:Inst) (a:Int):FRes:={ pre:=True,res:=.tup [.agg (z7i (z2b I.sup.length I.arcs a)),.bool (gOk I.sup.length I.arcs a)],rows:=[],eff:=[] }
def rArc_fs:FS:=fun args h=>match args,h with
 | [.agg [.row 0,.row 1],.int .i64 a],[(0,.row false ty0 (.ints .i64 I_s)),(1,.row false ty1 (.arcs I_a))]=>some (rArc_r ⟨I_s,I_a⟩ a)
 | _,_=>none
def rArc_an (I:Inst) (a:Int):List (Nat × Ann):=[]
def rArc_A:List SV->z0d->List (Nat × Ann):=fun _ _=>[]
def rArc_g:z0c:=[(rfit_n,(true,z03 true rfit_fs))]
abbrev rArc_n:Nat:=141
def rArc_I (I:Inst) (a:Int):List (Nat × z08):=[]
def rArc_IA:List SV->z0d->List (Nat × z08):=fun _ _=>[]
def At_r (x:List Int) (a:Int):FRes:={ pre:=True,res:=.int .i64 (if 0 <= a then x.getD a.toNat 0 else 0),rows:=[],eff:=[] }
def At_fs:FS:=fun args h=>match args,h with
 | [.row 0,.int .i64 a],[(0,.row false ty0 (.ints .i64 x))]=>some (At_r x a)
 | _,_=>none
def At_an (x:List Int) (a:Int):List (Nat × Ann):=[]
def At_A:List SV->z0d->List (Nat × Ann):=fun _ _=>[]
def At_g:z0c:=[]
abbrev At_n:Nat:=143
def At_I (x:List Int) (a:Int):List (Nat × z08):=[]
def At_IA:List SV->z0d->List (Nat × z08):=fun _ _=>[]
def rNet_r (I:Inst) (x:List Int):FRes:={ pre:=A64 x/\I.sup.length <= 10000/\I.arcs.length <= 10000,res:=.row 3,rows:=[.row 47 (.wides (z92 I x))],eff:=[] }
def rNet_fs:FS:=fun args h=>match args,h with
 | [.agg [.row 0,.row 1],.row 2],[(0,.row false ty0 (.ints .i64 I_s)),(1,.row false ty1 (.arcs I_a)),(2,.row false ty2 (.ints .i64 x))]=>some (rNet_r ⟨I_s,I_a⟩ x)
 | _,_=>none
def rNet_an (I:Inst) (x:List Int):List (Nat × Ann):=[(3,{ G:=(Nat),inv:=fun v=>⟨[(1,.row 2),(2,.ptr 3 0 0 0),(5,.row 5),(6,.int .i64 v)],[(5,.row true 47 (.wides ((z92 I x).take v))),(3,.box true 25 [.row 0,.row 1]),(0,.row false 0 (.ints .i64 I.sup)),(1,.row false 0 (.arcs I.arcs)),(2,.row false 0 (.ints .i64 x))],6⟩,rel:=fun v0 v=>v <= I.sup.length,meas:=fun v=>I.sup.length - v }),
 (7,{ G:=(Nat) × (Nat),inv:=fun ⟨v,k⟩=>⟨[(1,.row 2),(2,.ptr 3 0 0 0),(5,.row 5),(6,.int .i64 v),(7,.ptr 6 0 0 0),(8,.int .i64 k)],[(6,.box true 47 (z0v (W (z3z I.sup.length I.arcs x k v)))),(5,.row true 47 (.wides ((z92 I x).take v))),(3,.box true 25 [.row 0,.row 1]),(0,.row false 0 (.ints .i64 I.sup)),(1,.row false 0 (.arcs I.arcs)),(2,.row false 0 (.ints .i64 x))],7⟩,rel:=fun ⟨v0,k0⟩ ⟨v,k⟩=>v<I.sup.length/\v=v0/\k <= I.arcs.length,meas:=fun ⟨v,k⟩=>I.arcs.length - k })]
def rNet_A:List SV->z0d->List (Nat × Ann):=fun args h=>match args,h with
 | [.agg [.row 0,.row 1],.row 2],[(0,.row false ty0 (.ints .i64 I_s)),(1,.row false ty1 (.arcs I_a)),(2,.row false ty2 (.ints .i64 x))]=>rNet_an ⟨I_s,I_a⟩ x
 | _,_=>[]
def rNet_g:z0c:=[(rArc_n,(true,z03 true rArc_fs)),(rOf_n,(true,z03 true zhd)),(z9z,(true,z03 true z63)),(zi7,(true,z03 true z9y)),(At_n,(true,z03 true At_fs))]
abbrev rNet_n:Nat:=93
def rNet_I (I:Inst) (x:List Int):List (Nat × z08):=[]
def rNet_IA:List SV->z0d->List (Nat × z08):=fun _ _=>[]
def zlj (x:Arc) (n:Int):FRes:={ pre:=True,res:=.bool (fitF x n),rows:=[],eff:=[] }
def zfy:FS:=fun args h=>match args,h with
 | [.agg [.int .i64 x_0,.int .i64 x_1,.int .i64 x_2,.int .i64 x_3,.int .i64 x_4],.int .i64 n],[]=>some (zlj ⟨x_0,x_1,x_2,x_3,x_4⟩ n)
 | _,_=>none
def rBounds_an (x:Arc) (n:Int):List (Nat × Ann):=[]
def rBounds_A:List SV->z0d->List (Nat × Ann):=fun _ _=>[]
def zli:z0c:=[]
abbrev rBounds_n:Nat:=92
def rBounds_I (x:Arc) (n:Int):List (Nat × z08):=[]
def rBounds_IA:List SV->z0d->List (Nat × z08):=fun _ _=>[]
def rFits_r (I:Inst) (x:List Int):FRes:={ pre:=I.sup.length <= 10000/\I.arcs.length <= 10000/\A64 x/\A64 I.sup,res:=.int .i64 (z1w I x),rows:=[],eff:=[] }
def zi6:FS:=fun args h=>match args,h with
 | [.agg [.row 0,.row 1],.row 2],[(0,.row false ty0 (.ints .i64 I_s)),(1,.row false ty1 (.arcs I_a)),(2,.row false ty2 (.ints .i64 x))]=>some (rFits_r ⟨I_s,I_a⟩ x)
 | _,_=>none
def rFits_an (I:Inst) (x:List Int):List (Nat × Ann):=[(7,{ G:=(Nat),inv:=fun k=>⟨[(1,.row 2),(2,.ptr 3 0 0 0),(6,.int .i64 k)],[(3,.box true 25 [.row 0,.row 1]),(0,.row false 0 (.ints .i64 I.sup)),(1,.row false 0 (.arcs I.arcs)),(2,.row false 0 (.ints .i64 x))],4⟩,rel:=fun k0 k=>k <= I.arcs.length/\z2i (I.arcs.drop k) (x.drop k)=z2i I.arcs x,meas:=fun k=>I.arcs.length - k }),
 (13,{ G:=(Nat),inv:=fun k=>⟨[(2,.ptr 3 0 0 0),(7,.row 4),(8,.int .i64 k)],[(4,.row true 47 (.wides (z92 I x))),(3,.box true 25 [.row 0,.row 1]),(0,.row false 0 (.ints .i64 I.sup)),(1,.row false 0 (.arcs I.arcs))],5⟩,rel:=fun k0 k=>k <= I.sup.length/\∀ v,v<k->W (z3z I.sup.length I.arcs x I.arcs.length v)=W (I.sup.getD v 0),meas:=fun k=>I.sup.length - k })]
def rFits_A:List SV->z0d->List (Nat × Ann):=fun args h=>match args,h with
 | [.agg [.row 0,.row 1],.row 2],[(0,.row false ty0 (.ints .i64 I_s)),(1,.row false ty1 (.arcs I_a)),(2,.row false ty2 (.ints .i64 x))]=>rFits_an ⟨I_s,I_a⟩ x
 | _,_=>[]
def rFits_g:z0c:=[(z8p,(true,z03 true z5o)),(rBounds_n,(true,z03 true zfy)),(rNet_n,(true,z03 true rNet_fs)),(rOf_n,(true,z03 true zhd))]
abbrev rFits_n:Nat:=56
def rFits_I (I:Inst) (x:List Int):List (Nat × z08):=[]
def rFits_IA:List SV->z0d->List (Nat × z08):=fun _ _=>[]
def has_E0 (g_n : Int) (g_l : List Arc) (g_i : List Int) (g_s : List Int) (a : Int) (ty0 ty1 ty2 ty3 : TypeId) : Prop :=
      ((!false)=true ->
 (decide (a ≥ (0:Int))=true->(decide (a<g_n)=(decide ((0:Int) <= a) && decide (a<g_n))/\True)/\True) /\
 (decide (a ≥ (0:Int))=false->(false=(decide ((0:Int) <= a) && decide (a<g_n))/\True)/\True)) /\
 ((!false)=false->(false=(decide ((0:Int) <= a) && decide (a<g_n))/\True)/\True)
theorem has_q (g_n:Int) (g_l:List Arc) (g_i:List Int) (g_s:List Int) (a:Int) (ty0 ty1 ty2 ty3:TypeId):has_E0 g_n g_l g_i g_s a ty0 ty1 ty2 ty3=z2r TT has_g (has_I g_n g_l g_i g_s a) (has_an g_n g_l g_i g_s a) Tryz.f140 [.ptr 0 0 0 0,.int .i64 a] [(0,.box false ty0 [.int .i64 g_n,.row 1,.row 2,.row 3]),(1,.row false ty1 (.arcs g_l)),(2,.row false ty2 (.ints .i64 g_i)),(3,.row false ty3 (.ints .i64 g_s))] (has_r g_n g_l g_i g_s a):=by kernel_rfl
theorem has_E (g_n:Int) (g_l:List Arc) (g_i:List Int) (g_s:List Int) (a:Int) (ty0 ty1 ty2 ty3:TypeId) (hp:True):FVc TT has_g (has_I g_n g_l g_i g_s a) (has_an g_n g_l g_i g_s a) Tryz.f140 [.ptr 0 0 0 0,.int .i64 a] [(0,.box false ty0 [.int .i64 g_n,.row 1,.row 2,.row 3]),(1,.row false ty1 (.arcs g_l)),(2,.row false ty2 (.ints .i64 g_i)),(3,.row false ty3 (.ints .i64 g_s))] (has_r g_n g_l g_i g_s a):=by
 refine FVc.of (has_E0 g_n g_l g_i g_s a ty0 ty1 ty2 ty3) (has_q g_n g_l g_i g_s a ty0 ty1 ty2 ty3) ?_
 unfold has_E0
 simp only [eq_self,exists_const,forall_const,ne_eq,Int.toNat_natCast,zSS,z07]
 by_cases h:0 <= a <;> simp [h] <;> omega
theorem has_ok:SpecOk Tryz.prog has_n true (z03 true has_fs) :=
 z0b z0r (show z1c Tryz.prog has_g from z05) (by kernel_rfl) mixedOrders Tryz.func140 rfl rfl (by kernel_rfl) (n:=2) (by decide +kernel) (I:=has_IA) (fun _ _=>z06) (A:=has_A)
  (fun args h r hr=>by
   unfold has_fs at hr
   split at hr
   ·rename_i a ty0 g_n ty1 g_l ty2 g_i ty3 g_s; cases hr; refine ⟨rfl,fun hp=>?_⟩; have hE:=has_E g_n g_l g_i g_s a ty0 ty1 ty2 ty3 hp; exact hE
   ·cases hr)
def GArc_E0 (g_n : Int) (g_l : List Arc) (g_i : List Int) (g_s : List Int) (a : Int) (ty0 ty1 ty2 ty3 : TypeId) : Prop :=
      (false=true ->
 ((((0:Int)=(z2b g_n g_l a).src /\
 (0:Int)=(z2b g_n g_l a).dst/\(0:Int)=(z2b g_n g_l a).low/\(0:Int)=(z2b g_n g_l a).cap/\(0:Int)=(z2b g_n g_l a).cost/\True) /\
 false=gOk g_n g_l a/\True) /\
 True) /\
 True) /\
 (false=false ->
 (decide (a<(0:Int))=true ->
 ((((0:Int)=(z2b g_n g_l a).src /\
 (0:Int)=(z2b g_n g_l a).dst/\(0:Int)=(z2b g_n g_l a).low/\(0:Int)=(z2b g_n g_l a).cap/\(0:Int)=(z2b g_n g_l a).cost/\True) /\
 false=gOk g_n g_l a/\True) /\
 True) /\
 True) /\
 (decide (a<(0:Int))=false ->
 (decide (a ≥ (↑g_l.length:Int))=true ->
 ((((0:Int)=(z2b g_n g_l a).src /\
 (0:Int)=(z2b g_n g_l a).dst/\(0:Int)=(z2b g_n g_l a).low/\(0:Int)=(z2b g_n g_l a).cap/\(0:Int)=(z2b g_n g_l a).cost/\True) /\
 false=gOk g_n g_l a/\True) /\
 True) /\
 True) /\
 (decide (a ≥ (↑g_l.length:Int))=false ->
 ((0:Int) <= a/\a<(↑g_l.length:Int)) /\
 a.toNat<g_l.length /\
 ∀ (x:Arc),
 g_l[a.toNat]? = some x ->
 True /\
 ((!(decide ((0:Int) <= x.src) && decide (x.src<g_n)))=true ->
 ((((0:Int)=(z2b g_n g_l a).src /\
 (0:Int)=(z2b g_n g_l a).dst /\
 (0:Int)=(z2b g_n g_l a).low/\(0:Int)=(z2b g_n g_l a).cap/\(0:Int)=(z2b g_n g_l a).cost/\True) /\
 false=gOk g_n g_l a/\True) /\
 True) /\
 True) /\
 ((!(decide ((0:Int) <= x.src) && decide (x.src<g_n)))=false ->
 True /\
 ((!(decide ((0:Int) <= x.dst) && decide (x.dst<g_n)))=true ->
 ((((0:Int)=(z2b g_n g_l a).src /\
 (0:Int)=(z2b g_n g_l a).dst /\
 (0:Int)=(z2b g_n g_l a).low/\(0:Int)=(z2b g_n g_l a).cap/\(0:Int)=(z2b g_n g_l a).cost/\True) /\
 false=gOk g_n g_l a/\True) /\
 True) /\
 True) /\
 ((!(decide ((0:Int) <= x.dst) && decide (x.dst<g_n)))=false ->
 (((x.src=(z2b g_n g_l a).src /\
 x.dst=(z2b g_n g_l a).dst/\x.low=(z2b g_n g_l a).low/\x.cap=(z2b g_n g_l a).cap/\x.cost=(z2b g_n g_l a).cost/\True) /\
 true=gOk g_n g_l a/\True) /\
 True) /\
 True)))))
theorem GArc_q (g_n:Int) (g_l:List Arc) (g_i:List Int) (g_s:List Int) (a:Int) (ty0 ty1 ty2 ty3:TypeId):GArc_E0 g_n g_l g_i g_s a ty0 ty1 ty2 ty3=z2r TT GArc_g (GArc_I g_n g_l g_i g_s a) (GArc_an g_n g_l g_i g_s a) Tryz.f83 [.ptr 0 0 0 0,.int .i64 a] [(0,.box false ty0 [.int .i64 g_n,.row 1,.row 2,.row 3]),(1,.row false ty1 (.arcs g_l)),(2,.row false ty2 (.ints .i64 g_i)),(3,.row false ty3 (.ints .i64 g_s))] (GArc_r g_n g_l g_i g_s a):=by kernel_rfl
theorem GArc_E (g_n:Int) (g_l:List Arc) (g_i:List Int) (g_s:List Int) (a:Int) (ty0 ty1 ty2 ty3:TypeId) (hp:True):FVc TT GArc_g (GArc_I g_n g_l g_i g_s a) (GArc_an g_n g_l g_i g_s a) Tryz.f83 [.ptr 0 0 0 0,.int .i64 a] [(0,.box false ty0 [.int .i64 g_n,.row 1,.row 2,.row 3]),(1,.row false ty1 (.arcs g_l)),(2,.row false ty2 (.ints .i64 g_i)),(3,.row false ty3 (.ints .i64 g_s))] (GArc_r g_n g_l g_i g_s a):=by
 refine FVc.of (GArc_E0 g_n g_l g_i g_s a ty0 ty1 ty2 ty3) (GArc_q g_n g_l g_i g_s a ty0 ty1 ty2 ty3) ?_
 unfold GArc_E0
 simp only [eq_self,exists_const,forall_const,ne_eq,Int.toNat_natCast,zSS,z07]
 refine ⟨fun h=>(by cases h),fun h=>?_,fun h=>⟨fun h2=>?_,fun h2=>⟨by omega,by omega,fun x hx=>?_⟩⟩⟩
 ·simp [gArc_out (n:=g_n) (l:=g_l) (.inl h),zke (n:=g_n) (l:=g_l) (.inl h)]
 ·simp [gArc_out (n:=g_n) (l:=g_l) (.inr h2),zke (n:=g_n) (l:=g_l) (.inr h2)]
 ·rw [zkd (by omega) hx,gArc_at (by omega) hx]
  have e:z3v g_n x=((decide (0 <= x.src) && decide (x.src<g_n)) && (decide (0 <= x.dst) && decide (x.dst<g_n))):=rfl
  refine ⟨fun h3=>?_,fun h3=>⟨fun h4=>?_,fun h4=>?_⟩⟩
  ·simp [e,h3]
  ·simp [e,h3,h4]
  ·simp [e,h3,h4]
theorem GArc_ok:SpecOk Tryz.prog GArc_n true (z03 true GArc_fs) :=
 z0b z0r (show z1c Tryz.prog GArc_g from z00 has_ok (z05)) (by kernel_rfl) mixedOrders Tryz.func83 rfl rfl (by kernel_rfl) (n:=2) (by decide +kernel) (I:=GArc_IA) (fun _ _=>z06) (A:=GArc_A)
  (fun args h r hr=>by
   unfold GArc_fs at hr
   split at hr
   ·rename_i a ty0 g_n ty1 g_l ty2 g_i ty3 g_s; cases hr; refine ⟨rfl,fun hp=>?_⟩; have hE:=GArc_E g_n g_l g_i g_s a ty0 ty1 ty2 ty3 hp; exact hE
   ·cases hr)
def zil (l : List Int) (ty0 : TypeId) : Prop :=
      ∀ (b:Bool),
 ((0:Nat)<l.length->b=false)->(b=true->(True/\True)/\[]=l/\True)/\(b=false->(0:Nat)+l.length <= (1000000000:Nat)/\(True/\True)/\l=l/\True)
theorem CloneI_q (l:List Int) (ty0:TypeId):zil l ty0=z2r TT CloneI_g (CloneI_I l) (CloneI_an l) Tryz.f84 [.row 0] [(0,.row false ty0 (.ints .i64 l))] (CloneI_r l):=by kernel_rfl
theorem CloneI_E (l:List Int) (ty0:TypeId) (hp:l.length <= 1000000000):FVc TT CloneI_g (CloneI_I l) (CloneI_an l) Tryz.f84 [.row 0] [(0,.row false ty0 (.ints .i64 l))] (CloneI_r l):=by
 refine FVc.of (zil l ty0) (CloneI_q l ty0) ?_
 unfold zil
 simp only [eq_self,exists_const,forall_const,ne_eq,Int.toNat_natCast,zSS,z07]
 refine fun b hb=>⟨fun h=>?_,fun h=>by omega⟩
 have:l=[]:=by
  cases l with
  | nil=>rfl
  | cons y l=>have:=hb (by simp); rw [h] at this; cases this
 rw [this]
theorem CloneI_ok:SpecOk Tryz.prog CloneI_n true (z03 true zim) :=
 z0b z0r (show z1c Tryz.prog CloneI_g from z05) (by kernel_rfl) mixedOrders Tryz.func84 rfl rfl (by kernel_rfl) (n:=1) (by decide +kernel) (I:=CloneI_IA) (fun _ _=>z06) (A:=CloneI_A)
  (fun args h r hr=>by
   unfold zim at hr
   split at hr
   ·rename_i ty0 l; cases hr; refine ⟨rfl,fun hp=>?_⟩; have hE:=CloneI_E l ty0 hp; exact hE
   ·cases hr)
theorem put_ok:SpecOk Tryz.prog put_n false put_spec :=
 inl_ok z0r (show z1c Tryz.prog put_g from z05) (by kernel_rfl) mixedOrders Tryz.func85 rfl rfl (by kernel_rfl) _
abbrev z94 (I:Inst) (g:Nat):=(IntKind.i64.wrap ((2:Int) * (z2b (↑I.sup.length:Int) I.arcs (↑g:Int)).src)+(0:Int))
abbrev zb8 (I:Inst) (g:Nat):=(IntKind.i64.wrap ((2:Int) * (z2b (↑I.sup.length:Int) I.arcs (↑g:Int)).dst)+(1:Int))
abbrev ziy (I:Inst):=((↑I.sup.length:Int)=↑I.sup.length/\(True/\(True/\(True/\True))))
abbrev zgz (I:Inst) (g:Nat) (x_1:Int):=((N3 I g).set (IntKind.i64.wrap (z94 I g)).toNat (IntKind.i64.wrap (x_1+(1:Int))))
abbrev ziz (I:Inst) (g:Nat) (x:Int):=((S1 I g).set (IntKind.i64.wrap (IntKind.i64.wrap (z94 I g)+(1:Int))).toNat (IntKind.i64.wrap (x+(1:Int))))
abbrev New_a5 (I:Inst) (g:Nat) (g':Nat):=((↑I.arcs.length:Int)=↑I.arcs.length/\(IntKind.i64.wrap ((↑g:Int)+(1:Int))=(↑g':Int)/\True))
abbrev New_a6 (I:Inst):=((0=0/\True)/\((ziy I)/\(z2c Int/\(I.arcs=I.arcs/\True))))
abbrev New_a7 (I:Inst):=(∃ (g:Unit),True/\((0=0/\True)/\((0=0/\True)/\((ziy I)/\(z2c Int/\(z2c Int/\(I.arcs=I.arcs/\True)))))))
abbrev New_a8 (I:Inst):=(IntKind.i64.wrap ((2:Int) * (↑I.sup.length:Int))+(1:Int))
abbrev zd0 (I:Inst) (g:Nat):=(IntKind.i64.wrap (zb8 I g)+(1:Int))
abbrev New_a10 (I:Inst) (g:Nat):=((0:Int) <= IntKind.i64.wrap (z94 I g)/\(IntKind.i64.wrap (z94 I g)<(↑(N3 I g).length:Int)))
abbrev z95 (I:Inst) (g:Nat):=(IntKind.i64.wrap (z94 I g)+(1:Int))
abbrev New_a12 (I:Inst) (g:Nat) (x_1:Int):=((0:Int) <= IntKind.i64.wrap (zb8 I g)/\(IntKind.i64.wrap (zb8 I g)<(↑(zgz I g x_1).length:Int)))
abbrev New_a13 (g:Nat) (I:Inst):=((0:Int) <= IntKind.i64.wrap ((↑g:Int)+(1:Int))/\(IntKind.i64.wrap ((↑g:Int)+(1:Int))<(↑(S2 I g).length:Int)))
def New_E0 (I : Inst) (ty0 ty1 : TypeId) : Prop :=
   (((I.sup.length <= (1000000000:Nat)/\(I.arcs.length <= (1000000000:Nat)))/\((New_a7 I)/\(New_a7 I)))/\((I.sup.length <= (1000000000:Nat)/\(I.arcs.length <= (1000000000:Nat)))/\(New_a7 I)))/\∀ (g:Unit),True->(IntKind.i64.wrap (New_a8 I)=IntKind.i64.wrap (New_a8 I)/\((0:Int) <= IntKind.i64.wrap (New_a8 I)/\(IntKind.i64.wrap (New_a8 I) <= (1000000000:Int))))/\∃ (g0:Nat),(g0 <= I.arcs.length/\((0=0/\((↑I.arcs.length:Int)=↑I.arcs.length/\((0:Int)=↑g0/\True)))/\(List.replicate (IntKind.i64.wrap (New_a8 I)).toNat (0:Int)=S1 I g0/\(New_a6 I))))/\∀ (g:Nat),g <= I.arcs.length->(decide ((↑g:Int)<↑I.arcs.length)=true->True/\(gOk (↑I.sup.length:Int) I.arcs (↑g:Int)=true->((0:Int) <= IntKind.i64.wrap (z95 I g)/\(IntKind.i64.wrap (z95 I g)<(↑(S1 I g).length:Int)))/\(IntKind.i64.wrap (z95 I g)).toNat<(S1 I g).length/\∀ (x:Int),(S1 I g)[(IntKind.i64.wrap (z95 I g)).toNat]? = some x->((0:Int) <= IntKind.i64.wrap (z95 I g)/\(IntKind.i64.wrap (z95 I g)<(↑(S1 I g).length:Int)))/\(IntKind.i64.wrap (z95 I g)).toNat<(S1 I g).length/\((0:Int) <= IntKind.i64.wrap (zd0 I g)/\(IntKind.i64.wrap (zd0 I g)<(↑(ziz I g x).length:Int)))/\((IntKind.i64.wrap (zd0 I g)).toNat<(ziz I g x).length/\(∀ (x_1:Int),(ziz I g x)[(IntKind.i64.wrap (zd0 I g)).toNat]? = some x_1->((0:Int) <= IntKind.i64.wrap (zd0 I g)/\(IntKind.i64.wrap (zd0 I g)<(↑(ziz I g x).length:Int)))/\((IntKind.i64.wrap (zd0 I g)).toNat<(ziz I g x).length/\(∃ (g':Nat),g' <= I.arcs.length/\(I.arcs.length - g'<I.arcs.length - g/\((0=0/\(New_a5 I g g'))/\((ziz I g x).set (IntKind.i64.wrap (zd0 I g)).toNat (IntKind.i64.wrap (x_1+(1:Int)))=S1 I g'/\(New_a6 I)))))))))/\(gOk (↑I.sup.length:Int) I.arcs (↑g:Int)=false->∃ (g':Nat),g' <= I.arcs.length/\(I.arcs.length - g'<I.arcs.length - g/\((0=0/\(New_a5 I g g'))/\(S1 I g=S1 I g'/\(New_a6 I))))))/\(decide ((↑g:Int)<↑I.arcs.length)=false->∃ (g0:Nat),(g0 <= (2:Nat) * I.sup.length/\((0=0/\(IntKind.i64.wrap ((2:Int) * (↑I.sup.length:Int))=(↑((2:Nat) * I.sup.length):Int)/\((0:Int)=↑g0/\True)))/\(S1 I g=S2 I g0/\(New_a6 I))))/\∀ (g:Nat),g <= (2:Nat) * I.sup.length->(decide ((↑g:Int)<↑((2:Nat) * I.sup.length))=true->(New_a13 g I)/\((IntKind.i64.wrap ((↑g:Int)+(1:Int))).toNat<(S2 I g).length/\(∀ (x:Int),(S2 I g)[(IntKind.i64.wrap ((↑g:Int)+(1:Int))).toNat]? = some x->((0:Int) <= ↑g/\((↑g:Int)<↑(S2 I g).length))/\((↑g:Int).toNat<(S2 I g).length/\(∀ (x_1:Int),(S2 I g)[(↑g:Int).toNat]? = some x_1->(New_a13 g I)/\((IntKind.i64.wrap ((↑g:Int)+(1:Int))).toNat<(S2 I g).length/\(∃ (g':Nat),g' <= (2:Nat) * I.sup.length/\((2:Nat) * I.sup.length - g'<(2:Nat) * I.sup.length - g/\((0=0/\((↑((2:Nat) * I.sup.length):Int)=↑((2:Nat) * I.sup.length)/\(IntKind.i64.wrap ((↑g:Int)+(1:Int))=(↑g':Int)/\True)))/\((S2 I g).set (IntKind.i64.wrap ((↑g:Int)+(1:Int))).toNat (IntKind.i64.wrap (x+x_1))=S2 I g'/\(New_a6 I)))))))))))/\(decide ((↑g:Int)<↑((2:Nat) * I.sup.length))=false->((0:Int) <= IntKind.i64.wrap ((2:Int) * (↑I.sup.length:Int))/\(IntKind.i64.wrap ((2:Int) * (↑I.sup.length:Int))<(↑(S2 I g).length:Int)))/\(IntKind.i64.wrap ((2:Int) * (↑I.sup.length:Int))).toNat<(S2 I g).length/\∀ (x:Int),(S2 I g)[(IntKind.i64.wrap ((2:Int) * (↑I.sup.length:Int))).toNat]? = some x->(x=x/\((0:Int) <= x/\(x <= (1000000000:Int))))/\(S2 I g).length <= (1000000000:Nat)/\∃ (g0:Nat),(g0 <= I.arcs.length/\((0=0/\((0=0/\(0=0/\True))/\((↑I.arcs.length:Int)=↑I.arcs.length/\((0:Int)=↑g0/\True))))/\((True/\True)/\(S2 I g=N3 I g0/\(List.replicate x.toNat (0:Int)=L3 I g0/\(S2 I g=z15 I/\((0=0/\True)/\((ziy I)/\(I.arcs=I.arcs/\True)))))))))/\∀ (g:Nat),g <= I.arcs.length->(decide ((↑g:Int)<↑I.arcs.length)=true->True/\(gOk (↑I.sup.length:Int) I.arcs (↑g:Int)=true->(New_a10 I g)/\(IntKind.i64.wrap (z94 I g)).toNat<(N3 I g).length/\∀ (x:Int),(N3 I g)[(IntKind.i64.wrap (z94 I g)).toNat]? = some x->((0:Int) <= x/\(x<(↑(L3 I g).length:Int)))/\x.toNat<(L3 I g).length/\(New_a10 I g)/\(IntKind.i64.wrap (z94 I g)).toNat<(N3 I g).length/\∀ (x_1:Int),(N3 I g)[(IntKind.i64.wrap (z94 I g)).toNat]? = some x_1->(New_a10 I g)/\(IntKind.i64.wrap (z94 I g)).toNat<(N3 I g).length/\(New_a12 I g x_1)/\(IntKind.i64.wrap (zb8 I g)).toNat<(zgz I g x_1).length/\∀ (x_2:Int),(zgz I g x_1)[(IntKind.i64.wrap (zb8 I g)).toNat]? = some x_2->((0:Int) <= x_2/\(x_2<(↑((L3 I g).set x.toNat (↑g:Int)).length:Int)))/\x_2.toNat<((L3 I g).set x.toNat (↑g:Int)).length/\(New_a12 I g x_1)/\((IntKind.i64.wrap (zb8 I g)).toNat<(zgz I g x_1).length/\(∀ (x_3:Int),(zgz I g x_1)[(IntKind.i64.wrap (zb8 I g)).toNat]? = some x_3->(New_a12 I g x_1)/\((IntKind.i64.wrap (zb8 I g)).toNat<(zgz I g x_1).length/\(∃ (g':Nat),g' <= I.arcs.length/\(I.arcs.length - g'<I.arcs.length - g/\((0=0/\((0=0/\(0=0/\True))/\(New_a5 I g g')))/\((True/\True)/\((zgz I g x_1).set (IntKind.i64.wrap (zb8 I g)).toNat (IntKind.i64.wrap (x_3+(1:Int)))=N3 I g'/\(((L3 I g).set x.toNat (↑g:Int)).set x_2.toNat (↑g:Int)=L3 I g'/\(z15 I=z15 I/\((0=0/\True)/\((ziy I)/\(I.arcs=I.arcs/\True))))))))))))))/\(gOk (↑I.sup.length:Int) I.arcs (↑g:Int)=false->∃ (g':Nat),g' <= I.arcs.length/\(I.arcs.length - g'<I.arcs.length - g/\((0=0/\((0=0/\(0=0/\True))/\(New_a5 I g g')))/\((True/\True)/\(N3 I g=N3 I g'/\(L3 I g=L3 I g'/\(z15 I=z15 I/\((0=0/\True)/\((ziy I)/\(I.arcs=I.arcs/\True)))))))))))/\(decide ((↑g:Int)<↑I.arcs.length)=false->(0=0/\True)/\((ziy I)/\(I.arcs=I.arcs/\(L3 I g=z3y I/\(z15 I=z15 I/\True)))))))
theorem New_q (I:Inst) (ty0 ty1:TypeId):New_E0 I ty0 ty1=z2r TT New_g (New_I I) (New_an I) Tryz.f50 [.agg [.row 0,.row 1]] [(0,.row false ty0 (.ints .i64 I.sup)),(1,.row false ty1 (.arcs I.arcs))] (New_r I):=by kernel_rfl
theorem New_E (I:Inst) (ty0 ty1:TypeId) (hp:I.sup.length <= 10000/\I.arcs.length <= 10000):FVc TT New_g (New_I I) (New_an I) Tryz.f50 [.agg [.row 0,.row 1]] [(0,.row false ty0 (.ints .i64 I.sup)),(1,.row false ty1 (.arcs I.arcs))] (New_r I):=by
 refine FVc.of (New_E0 I ty0 ty1) (New_q I ty0 ty1) ?_
 unfold New_E0
 delta New_a13 New_a12 z95 New_a10 zd0 New_a8 New_a7 New_a6 New_a5 ziz zgz ziy zb8 z94
 simp only [eq_self,exists_const,forall_const,ne_eq,Int.toNat_natCast,zSS,z07]
 obtain ⟨p1,p2⟩:=hp
 have e1:IntKind.i64.wrap (2 * (I.sup.length:Int))=((2 * I.sup.length:Nat):Int):=by rw [w64 (by omega) (by omega)]; omega
 have e2:IntKind.i64.wrap (((2 * I.sup.length:Nat):Int)+1)=((2 * I.sup.length+1:Nat):Int):=by rw [w64 (by omega) (by omega)]; omega
 simp only [e1,e2,Int.toNat_natCast,show ∀ k,(S1 I k).length=2 * I.sup.length+1 from fun k=>by simp [S1],show ∀ k,(S2 I k).length=2 * I.sup.length+1 from fun k=>by simp [S2],show ∀ k,(N3 I k).length=2 * I.sup.length+1 from fun k=>by simp [N3],List.length_set]
 have hL3:∀ k,k <= I.arcs.length->(L3 I k).length=z93 I (2 * I.sup.length):=fun k hk=>zka I (fun t=>zib hk t) _
 have hs1:∀ (k j:Nat) (v:Int),(S1 I k)[j]? = some v->k <= I.arcs.length->0 <= v/\v <= 10000:=fun k j v h hk=>by
  have e:=S1_get h
  subst e
  have:=z9a I (j - 1) k
  split <;> omega
 have hsum:∀ k,k <= 2 * I.sup.length->z93 I k <= 200000000:=fun k hk=>by
  have h1:=zab I k (2 * I.sup.length - k)
  rw [show k+(2 * I.sup.length - k)=2 * I.sup.length by omega] at h1
  have h2:=sumA_le I (2 * I.sup.length)
  have h3:2 * I.sup.length * I.arcs.length <= 20000 * 10000:=Nat.mul_le_mul (by omega) p2
  omega
 have arcs:∀ k:Nat,k<I.arcs.length->∃ a,I.arcs[k]? = some a/\gOk I.sup.length I.arcs k=z3v I.sup.length a/\(z3v I.sup.length a=true->z2b I.sup.length I.arcs k=a):=fun k hk=>by
  have ha:I.arcs[k]? = some I.arcs[k]:=List.getElem?_eq_getElem hk
  exact ⟨_,ha,zkd (by omega) (by simpa using ha),fun ho=>by rw [gArc_at (x:=I.arcs[k]) (by omega) (by simpa using ha),if_pos ho]⟩
 refine ⟨by omega,by omega,0,⟨by omega,rfl,by rw [S1_zero]⟩,fun k hk=>⟨fun h1=>?_,fun h1=>?_⟩⟩
 ·obtain ⟨a,ha,hgo,hga⟩:=arcs k (by omega)
  rw [hgo]
  refine ⟨fun ho=>?_,fun ho=>⟨k+1,by omega,by omega,w64 (by omega) (by omega),S1_same ha ho⟩⟩
  rw [hga ho]
  obtain ⟨o1,o2,o3,o4⟩:=okArc_iff.1 ho
  have f1:IntKind.i64.wrap (IntKind.i64.wrap (IntKind.i64.wrap (2 * a.src)+0)+1)=2 * a.src+1:=by rw [w64 (x:=2 * a.src) (by omega) (by omega),w64 (x:=2 * a.src+0) (by omega) (by omega),w64 (by omega) (by omega)]; omega
  have f2:IntKind.i64.wrap (IntKind.i64.wrap (IntKind.i64.wrap (2 * a.dst)+1)+1)=2 * a.dst+2:=by rw [w64 (x:=2 * a.dst) (by omega) (by omega),w64 (x:=2 * a.dst+1) (by omega) (by omega),w64 (by omega) (by omega)]; omega
  rw [f1,f2]
  refine ⟨by omega,by omega,fun x hx=>?_⟩
  have bx:=hs1 k _ x hx hk
  rw [w64 (x:=x+1) (by omega) (by omega)]
  refine ⟨by omega,by omega,by omega,by omega,fun y hy=>?_⟩
  have hstep:=S1_step ha ho hx hy
  have by':0 <= y/\y <= 10001:=by
   rw [List.getElem?_set] at hy
   split at hy
   ·split at hy
    ·cases hy; omega
    ·cases hy
   ·have:=hs1 k _ y hy hk; omega
  rw [w64 (x:=y+1) (by omega) (by omega)]
  exact ⟨by omega,by omega,k+1,by omega,by omega,w64 (by omega) (by omega),hstep⟩
 have hk':k=I.arcs.length:=by omega
 refine ⟨0,⟨by omega,⟨trivial,rfl⟩,by rw [hk',S1_S2]⟩,fun k2 hk2=>⟨fun h2=>?_,fun h2=>?_⟩⟩
 ·have f:IntKind.i64.wrap ((k2:Int)+1)=((k2+1:Nat):Int):=by rw [w64 (by omega) (by omega)]; omega
  simp only [f,Int.toNat_natCast]
  refine ⟨by omega,by omega,fun x hx=>⟨by omega,by omega,fun y hy=>⟨by omega,by omega,k2+1,by omega,by omega,rfl,?_⟩⟩⟩
  have hstep:=S2_step (by omega) hx hy
  have ex:=S2_get hx
  have ey:=S2_get hy
  rw [if_neg (by omega)] at ex
  rw [if_pos (by omega)] at ey
  have c1:=z9a I (k2+1 - 1) I.arcs.length
  have c2:=hsum k2 hk2
  rw [w64 (by omega) (by omega),hstep]
 have hk2':k2=2 * I.sup.length:=by omega
 subst hk2'
 rw [S2_end]
 have hstart:(z15 I).length=2 * I.sup.length+1:=by simp [z15]
 refine ⟨by omega,by omega,fun x hx=>?_⟩
 have ex:=startF_get hx
 have bx:=hsum (2 * I.sup.length) (by omega)
 subst ex
 refine ⟨by omega,by omega,0,⟨by omega,rfl,startF_N3 I,by rw [L3_zero]; simp,rfl⟩,fun m hm=>⟨fun h3=>?_,fun h3=>?_⟩⟩
 ·obtain ⟨a,ha,hgo,hga⟩:=arcs m (by omega)
  have hml:m<I.arcs.length:=by omega
  rw [hgo]
  refine ⟨fun ho=>?_,fun ho=>?_⟩
  ·rw [hga ho]
   obtain ⟨o1,o2,o3,o4⟩:=okArc_iff.1 ho
   have f1:IntKind.i64.wrap (IntKind.i64.wrap (2 * a.src)+0)=((2 * a.src).toNat:Int):=by rw [w64 (x:=2 * a.src) (by omega) (by omega),w64 (by omega) (by omega)]; omega
   have f2:IntKind.i64.wrap (IntKind.i64.wrap (2 * a.dst)+1)=((2 * a.dst+1).toNat:Int):=by rw [w64 (x:=2 * a.dst) (by omega) (by omega),w64 (by omega) (by omega)]; omega
   obtain ⟨P,hP⟩:∃ P,P=(2 * a.src).toNat:=⟨_,rfl⟩
   obtain ⟨Q,hQ⟩:∃ Q,Q=(2 * a.dst+1).toNat:=⟨_,rfl⟩
   rw [f1,f2,<- hP,<- hQ]
   simp only [Int.toNat_natCast]
   have hne:Q ≠ P:=by omega
   have hPn:P<2 * I.sup.length:=by omega
   have hQn:Q<2 * I.sup.length:=by omega
   have hin:∀ j,inK I j m=true ↔ j=P ∨ j=Q:=fun j=>by
    rw [inK_of ha,ho,Bool.true_and,hasK_iff]; omega
   have iP:=(hin P).2 (.inl rfl)
   have iQ:=(hin Q).2 (.inr rfl)
   have room:∀ j,j<2 * I.sup.length->inK I j m=true->z93 I j+z72 I m j<z93 I (2 * I.sup.length):=fun j hj hi=>by
    have h1:=cntA_lt hml hi
    have h2:=zab I (j+1) (2 * I.sup.length - (j+1))
    rw [show j+1+(2 * I.sup.length - (j+1))=2 * I.sup.length by omega] at h2
    have h4:z93 I (j+1)=z93 I j+z72 I I.arcs.length j:=rfl
    omega
   have rP:=room P hPn iP
   have rQ:=room Q hQn iQ
   have hl:=hL3 m hm
   have dQ:(fun t=>t == P || (fun _=>false) t) Q=false:=by simp [hne]
   refine ⟨by omega,by omega,fun x hx=>?_⟩
   rw [N3_nP] at hx
   have ex:=nP_get hx rfl
   subst ex
   rw [hl]
   refine ⟨by omega,by omega,by omega,by omega,fun x1 hx1=>?_⟩
   rw [N3_nP] at hx1
   have ex1:=nP_get hx1 rfl
   subst ex1
   rw [w64 (x:=((z93 I P+z72 I m P:Nat):Int)+1) (by omega) (by omega),N3_nP,nP_put iP rfl,L3_segP,Int.toNat_natCast,L3_put hml hPn iP rfl]
   refine ⟨by omega,by omega,by omega,by omega,fun x2 hx2=>?_⟩
   have ex2:=nP_get hx2 dQ
   subst ex2
   refine ⟨by omega,by omega,by omega,by omega,fun x3 hx3=>?_⟩
   have ex3:=nP_get hx3 dQ
   subst ex3
   rw [w64 (x:=((z93 I Q+z72 I m Q:Nat):Int)+1) (by omega) (by omega),nP_put iQ dQ,Int.toNat_natCast,L3_put hml hQn iQ dQ]
   refine ⟨by omega,by omega,m+1,by omega,by omega,w64 (by omega) (by omega),?_,?_⟩
   ·exact nP_done hin
   ·exact L3_done hin
  ·obtain ⟨s1,s2⟩:=N3_same ha ho
   exact ⟨m+1,by omega,by omega,w64 (by omega) (by omega),s1,s2⟩
 ·rw [show m=I.arcs.length by omega,L3_end]
theorem New_ok:SpecOk Tryz.prog New_n true (z03 true New_fs) :=
 z0b z0r (show z1c Tryz.prog New_g from z00 Copy_ok (z00 GArc_ok (z00 CloneI_ok (z00 put_ok (z05))))) (by kernel_rfl) mixedOrders Tryz.func50 rfl rfl (by kernel_rfl) (n:=1) (by decide +kernel) (I:=New_IA) (fun _ _=>z06) (A:=New_A)
  (fun args h r hr=>by
   unfold New_fs at hr
   split at hr
   ·rename_i ty0 I_s ty1 I_a; cases hr; refine ⟨rfl,fun hp=>?_⟩; have hE:=New_E ⟨I_s,I_a⟩ ty0 ty1 hp; exact hE
   ·cases hr)
def along_E0 (x : List Int) (a : Int) (ty0 : TypeId) : Prop :=
      (decide (a ≥ (↑x.length:Int))=true->((0:Int)=x.getD a.toNat (0:Int)/\True)/\True) /\
 (decide (a ≥ (↑x.length:Int))=false ->
 ((0:Int) <= a/\a<(↑x.length:Int))/\a.toNat<x.length/\∀ (x_1:Int),x[a.toNat]? = some x_1->(x_1=x.getD a.toNat (0:Int)/\True)/\True)
theorem along_q (x:List Int) (a:Int) (ty0:TypeId):along_E0 x a ty0=z2r TT along_g (along_I x a) (along_an x a) Tryz.f52 [.row 0,.int .i64 a] [(0,.row false ty0 (.ints .i64 x))] (along_r x a):=by kernel_rfl
theorem along_E (x:List Int) (a:Int) (ty0:TypeId) (hp:0 <= a):FVc TT along_g (along_I x a) (along_an x a) Tryz.f52 [.row 0,.int .i64 a] [(0,.row false ty0 (.ints .i64 x))] (along_r x a):=by
 refine FVc.of (along_E0 x a ty0) (along_q x a ty0) ?_
 unfold along_E0
 simp only [eq_self,exists_const,forall_const,ne_eq,Int.toNat_natCast,zSS,z07]
 refine ⟨fun h=>?_,fun h=>⟨by omega,by omega,fun y hy=>by simp [List.getD,hy]⟩⟩
 simp [List.getD,show ¬ a.toNat<x.length by omega]
theorem along_ok:SpecOk Tryz.prog along_n true (z03 true along_fs) :=
 z0b z0r (show z1c Tryz.prog along_g from z05) (by kernel_rfl) mixedOrders Tryz.func52 rfl rfl (by kernel_rfl) (n:=2) (by decide +kernel) (I:=along_IA) (fun _ _=>z06) (A:=along_A)
  (fun args h r hr=>by
   unfold along_fs at hr
   split at hr
   ·rename_i a ty0 x; cases hr; refine ⟨rfl,fun hp=>?_⟩; have hE:=along_E x a ty0 hp; exact hE
   ·cases hr)
def Cost_E0 (I : Inst) (x : List Int) (ty0 ty1 ty2 : TypeId) : Prop :=
      ∃ (g0:Nat),
 (g0 <= I.arcs.length /\
 (True/\(0:Nat)=(0:Nat)/\(0:Nat)=(0:Nat)/\True/\(↑I.arcs.length:Int)=(↑I.arcs.length:Int)/\(0:Int)=(↑g0:Int)/\True) /\
 ((0:Int)=(W (z4z I.arcs x g0)).hi/\(0:Int)=(W (z4z I.arcs x g0)).lo/\True) /\
 ((0:Int)=(0:Int)/\(0:Int)=(0:Int)/\True)/\I.arcs=I.arcs/\x=x/\True) /\
 ∀ (g:Nat),
 g <= I.arcs.length ->
 (decide ((↑g:Int)<(↑I.arcs.length:Int))=true ->
 ((0:Int) <= (↑g:Int)/\(↑g:Int)<(↑I.arcs.length:Int)) /\
 (↑g:Int).toNat<I.arcs.length /\
 ∀ (x_1:Arc),
 I.arcs[(↑g:Int).toNat]? = some x_1 ->
 (0:Int) <= (↑g:Int) /\
 (I64 x_1.cost/\I64 (x.getD (↑g:Int).toNat (0:Int))) /\
 ((W (z4z I.arcs x g)).ok/\(W (x_1.cost * x.getD (↑g:Int).toNat (0:Int))).ok) /\
 ∃ (g':Nat),
 g' <= I.arcs.length /\
 I.arcs.length - g'<I.arcs.length - g /\
 (True /\
 (0:Nat)=(0:Nat) /\
 (0:Nat)=(0:Nat) /\
 True/\(↑I.arcs.length:Int)=(↑I.arcs.length:Int)/\IntKind.i64.wrap ((↑g:Int)+(1:Int))=(↑g':Int)/\True) /\
 ((z3g (W (z4z I.arcs x g)) (W (x_1.cost * x.getD (↑g:Int).toNat (0:Int)))).hi=(W (z4z I.arcs x g')).hi /\
 (z3g (W (z4z I.arcs x g)) (W (x_1.cost * x.getD (↑g:Int).toNat (0:Int)))).lo=(W (z4z I.arcs x g')).lo/\True) /\
 ((0:Int)=(0:Int)/\(0:Int)=(0:Int)/\True)/\I.arcs=I.arcs/\x=x/\True) /\
 (decide ((↑g:Int)<(↑I.arcs.length:Int))=false ->
 (((W (z4z I.arcs x g)).hi=(W (zbu I x)).hi/\(W (z4z I.arcs x g)).lo=(W (zbu I x)).lo/\True)/\True)/\True)
theorem Cost_q (I:Inst) (x:List Int) (ty0 ty1 ty2:TypeId):Cost_E0 I x ty0 ty1 ty2=z2r TT Cost_g (Cost_I I x) (Cost_an I x) Tryz.f38 [.agg [.row 0,.row 1],.row 2] [(0,.row false ty0 (.ints .i64 I.sup)),(1,.row false ty1 (.arcs I.arcs)),(2,.row false ty2 (.ints .i64 x))] (Cost_r I x):=by kernel_rfl
theorem Cost_E (I:Inst) (x:List Int) (ty0 ty1 ty2:TypeId) (hp:A64 x/\A64c I.arcs/\I.arcs.length <= 1000000):FVc TT Cost_g (Cost_I I x) (Cost_an I x) Tryz.f38 [.agg [.row 0,.row 1],.row 2] [(0,.row false ty0 (.ints .i64 I.sup)),(1,.row false ty1 (.arcs I.arcs)),(2,.row false ty2 (.ints .i64 x))] (Cost_r I x):=by
 refine FVc.of (Cost_E0 I x ty0 ty1 ty2) (Cost_q I x ty0 ty1 ty2) ?_
 unfold Cost_E0
 simp only [eq_self,exists_const,forall_const,ne_eq,Int.toNat_natCast,zSS,z07]
 obtain ⟨p1,p2,p3⟩:=hp
 refine ⟨0,⟨by omega,rfl,by simp only [z4z,W_zero],by simp only [z4z,W_zero]⟩,fun k hk=>⟨fun h1=>⟨by omega,by omega,fun a ha=>?_⟩,fun h1=>?_⟩⟩
 ·have hc:=p2 a (List.mem_of_getElem? ha)
  have hg:I.arcs.getD k default=a:=by simp [List.getD,ha]
  have hx:=p1.getD k
  rw [zcw]
  refine ⟨by omega,⟨hc,hx⟩,⟨zey _,zey _⟩,k+1,by omega,by omega,w64 (by omega) (by omega),?_⟩
  rw [show z4z I.arcs x (k+1)=z4z I.arcs x k+a.cost * x.getD k 0 by simp only [z4z,hg]]
  exact ⟨rfl,rfl⟩
 ·rw [show k=I.arcs.length by omega]
  exact ⟨rfl,rfl⟩
theorem Cost_ok:SpecOk Tryz.prog Cost_n true (z03 true Cost_fs) :=
 z0b z0r (show z1c Tryz.prog Cost_g from z00 along_ok (z00 Times_ok (z00 Plus_ok (z05)))) (by kernel_rfl) mixedOrders Tryz.func38 rfl rfl (by kernel_rfl) (n:=2) (by decide +kernel) (I:=Cost_IA) (fun _ _=>z06) (A:=Cost_A)
  (fun args h r hr=>by
   unfold Cost_fs at hr
   split at hr
   ·rename_i ty0 I_s ty1 I_a ty2 x; cases hr; refine ⟨rfl,fun hp=>?_⟩; have hE:=Cost_E ⟨I_s,I_a⟩ x ty0 ty1 ty2 hp; exact hE
   ·cases hr)
def rArc_E0 (I : Inst) (a : Int) (ty0 ty1 : TypeId) : Prop :=
      True /\
 ((!gOk (↑I.sup.length:Int) I.arcs a)=true ->
 ((((0:Int)=(z2b (↑I.sup.length:Int) I.arcs a).src /\
 (0:Int)=(z2b (↑I.sup.length:Int) I.arcs a).dst /\
 (0:Int)=(z2b (↑I.sup.length:Int) I.arcs a).low /\
 (0:Int)=(z2b (↑I.sup.length:Int) I.arcs a).cap/\(0:Int)=(z2b (↑I.sup.length:Int) I.arcs a).cost/\True) /\
 false=gOk (↑I.sup.length:Int) I.arcs a/\True) /\
 True) /\
 True) /\
 ((!gOk (↑I.sup.length:Int) I.arcs a)=false ->
 ((0:Int) <= a/\a<(↑I.arcs.length:Int)) /\
 a.toNat<I.arcs.length /\
 ∀ (x:Arc),
 I.arcs[a.toNat]? = some x ->
 (((x.src=(z2b (↑I.sup.length:Int) I.arcs a).src /\
 x.dst=(z2b (↑I.sup.length:Int) I.arcs a).dst /\
 x.low=(z2b (↑I.sup.length:Int) I.arcs a).low /\
 x.cap=(z2b (↑I.sup.length:Int) I.arcs a).cap/\x.cost=(z2b (↑I.sup.length:Int) I.arcs a).cost/\True) /\
 true=gOk (↑I.sup.length:Int) I.arcs a/\True) /\
 True) /\
 True)
theorem rArc_q (I:Inst) (a:Int) (ty0 ty1:TypeId):rArc_E0 I a ty0 ty1=z2r TT rArc_g (rArc_I I a) (rArc_an I a) Tryz.f141 [.agg [.row 0,.row 1],.int .i64 a] [(0,.row false ty0 (.ints .i64 I.sup)),(1,.row false ty1 (.arcs I.arcs))] (rArc_r I a):=by kernel_rfl
theorem rArc_E (I:Inst) (a:Int) (ty0 ty1:TypeId) (hp:True):FVc TT rArc_g (rArc_I I a) (rArc_an I a) Tryz.f141 [.agg [.row 0,.row 1],.int .i64 a] [(0,.row false ty0 (.ints .i64 I.sup)),(1,.row false ty1 (.arcs I.arcs))] (rArc_r I a):=by
 refine FVc.of (rArc_E0 I a ty0 ty1) (rArc_q I a ty0 ty1) ?_
 unfold rArc_E0
 simp only [eq_self,exists_const,forall_const,ne_eq,Int.toNat_natCast,zSS,z07]
 refine ⟨fun h=>?_,fun h=>?_⟩
 ·unfold z2b
  rw [h]; simp
 ·have hb:0 <= a/\a<(I.arcs.length:Int):=by
   have h':=h
   unfold gOk at h'
   simp only [Bool.and_eq_true,decide_eq_true_eq] at h'
   exact h'.1
  refine ⟨hb,by omega,fun x hx=>?_⟩
  have hg:I.arcs.getD a.toNat default=x:=by simp [List.getD,hx]
  unfold z2b
  rw [h,if_pos rfl,hg]
  simp
theorem rArc_ok:SpecOk Tryz.prog rArc_n true (z03 true rArc_fs) :=
 z0b z0r (show z1c Tryz.prog rArc_g from z00 rfit_ok (z05)) (by kernel_rfl) mixedOrders Tryz.func141 rfl rfl (by kernel_rfl) (n:=2) (by decide +kernel) (I:=rArc_IA) (fun _ _=>z06) (A:=rArc_A)
  (fun args h r hr=>by
   unfold rArc_fs at hr
   split at hr
   ·rename_i a ty0 I_s ty1 I_a; cases hr; refine ⟨rfl,fun hp=>?_⟩; have hE:=rArc_E ⟨I_s,I_a⟩ a ty0 ty1 hp; exact hE
   ·cases hr)
def At_E0 (x : List Int) (a : Int) (ty0 : TypeId) : Prop :=
      (decide (a<(0:Int))=true->(((0:Int)=if (0:Int) <= a then x.getD a.toNat (0:Int) else (0:Int))/\True)/\True) /\
 (decide (a<(0:Int))=false ->
 (decide (a ≥ (↑x.length:Int))=true->(((0:Int)=if (0:Int) <= a then x.getD a.toNat (0:Int) else (0:Int))/\True)/\True) /\
 (decide (a ≥ (↑x.length:Int))=false ->
 ((0:Int) <= a/\a<(↑x.length:Int)) /\
 a.toNat<x.length/\∀ (x_1:Int),x[a.toNat]? = some x_1->((x_1=if (0:Int) <= a then x.getD a.toNat (0:Int) else (0:Int))/\True)/\True))
theorem At_q (x:List Int) (a:Int) (ty0:TypeId):At_E0 x a ty0=z2r TT At_g (At_I x a) (At_an x a) Tryz.f143 [.row 0,.int .i64 a] [(0,.row false ty0 (.ints .i64 x))] (At_r x a):=by kernel_rfl
theorem At_E (x:List Int) (a:Int) (ty0:TypeId) (hp:True):FVc TT At_g (At_I x a) (At_an x a) Tryz.f143 [.row 0,.int .i64 a] [(0,.row false ty0 (.ints .i64 x))] (At_r x a):=by
 refine FVc.of (At_E0 x a ty0) (At_q x a ty0) ?_
 unfold At_E0
 simp only [eq_self,exists_const,forall_const,ne_eq,Int.toNat_natCast,zSS,z07]
 refine ⟨fun h=>by rw [if_neg (by omega)],fun h=>⟨fun h2=>?_,fun h2=>⟨by omega,by omega,fun y hy=>?_⟩⟩⟩
 ·rw [if_pos (by omega)]; simp [List.getD,show ¬ a.toNat<x.length by omega]
 ·rw [if_pos (by omega)]; simp [List.getD,hy]
theorem At_ok:SpecOk Tryz.prog At_n true (z03 true At_fs) :=
 z0b z0r (show z1c Tryz.prog At_g from z05) (by kernel_rfl) mixedOrders Tryz.func143 rfl rfl (by kernel_rfl) (n:=2) (by decide +kernel) (I:=At_IA) (fun _ _=>z06) (A:=At_A)
  (fun args h r hr=>by
   unfold At_fs at hr
   split at hr
   ·rename_i a ty0 x; cases hr; refine ⟨rfl,fun hp=>?_⟩; have hE:=At_E x a ty0 hp; exact hE
   ·cases hr)
abbrev rNet_a0 (I:Inst) (g_1:Nat × Nat) (x:List Int) (g0:Nat × Nat):=(gOk (↑I.sup.length:Int) I.arcs (↑g_1.2:Int)=true->(((z2b (↑I.sup.length:Int) I.arcs (↑g_1.2:Int)).dst == (↑g_1.1:Int))=true->True/\(I64 (if (0:Int) <= (↑g_1.2:Int) then x.getD (↑g_1.2:Int).toNat (0:Int) else (0:Int))/\(((W (z3z (↑I.sup.length:Int) I.arcs x g_1.2 (↑g_1.1:Int))).ok/\((W (if (0:Int) <= (↑g_1.2:Int) then x.getD (↑g_1.2:Int).toNat (0:Int) else (0:Int))).ok))/\(∃ (g':Nat × Nat),(g'.fst<I.sup.length/\(g'.fst=g0.fst/\(g'.snd <= I.arcs.length)))/\(I.arcs.length - g'.snd<I.arcs.length - g_1.snd/\((True/\(0=0/\(True/\((↑g_1.1:Int)=↑g'.1/\(0=0/\(IntKind.i64.wrap ((↑g_1.2:Int)+(1:Int))=(↑g'.2:Int)/\True))))))/\(((z3f (W (z3z (↑I.sup.length:Int) I.arcs x g_1.2 (↑g_1.1:Int))) (W (if (0:Int) <= (↑g_1.2:Int) then x.getD (↑g_1.2:Int).toNat (0:Int) else (0:Int)))).hi=(W (z3z (↑I.sup.length:Int) I.arcs x g'.2 (↑g'.1:Int))).hi/\((z3f (W (z3z (↑I.sup.length:Int) I.arcs x g_1.2 (↑g_1.1:Int))) (W (if (0:Int) <= (↑g_1.2:Int) then x.getD (↑g_1.2:Int).toNat (0:Int) else (0:Int)))).lo=(W (z3z (↑I.sup.length:Int) I.arcs x g'.2 (↑g'.1:Int))).lo/\True))/\(List.take g_1.1 (z92 I x)=List.take g'.1 (z92 I x)/\((True/\(True/\True))/\(I.sup=I.sup/\(I.arcs=I.arcs/\(x=x/\True))))))))))))/\(((z2b (↑I.sup.length:Int) I.arcs (↑g_1.2:Int)).dst == (↑g_1.1:Int))=false->∃ (g':Nat × Nat),(g'.fst<I.sup.length/\(g'.fst=g0.fst/\(g'.snd <= I.arcs.length)))/\(I.arcs.length - g'.snd<I.arcs.length - g_1.snd/\((True/\(0=0/\(True/\((↑g_1.1:Int)=↑g'.1/\(0=0/\(IntKind.i64.wrap ((↑g_1.2:Int)+(1:Int))=(↑g'.2:Int)/\True))))))/\(((W (z3z (↑I.sup.length:Int) I.arcs x g_1.2 (↑g_1.1:Int))).hi=(W (z3z (↑I.sup.length:Int) I.arcs x g'.2 (↑g'.1:Int))).hi/\((W (z3z (↑I.sup.length:Int) I.arcs x g_1.2 (↑g_1.1:Int))).lo=(W (z3z (↑I.sup.length:Int) I.arcs x g'.2 (↑g'.1:Int))).lo/\True))/\(List.take g_1.1 (z92 I x)=List.take g'.1 (z92 I x)/\((True/\(True/\True))/\(I.sup=I.sup/\(I.arcs=I.arcs/\(x=x/\True))))))))))
abbrev z5u (g_1:Nat × Nat) (x:List Int):=(if (0:Int) <= (↑g_1.2:Int) then x.getD (↑g_1.2:Int).toNat (0:Int) else (0:Int))
abbrev rNet_a2 (I:Inst) (g_1:Nat × Nat) (g0:Nat × Nat) (x:List Int):=(gOk (↑I.sup.length:Int) I.arcs (↑g_1.2:Int)=false->∃ (g':Nat × Nat),(g'.fst<I.sup.length/\(g'.fst=g0.fst/\(g'.snd <= I.arcs.length)))/\(I.arcs.length - g'.snd<I.arcs.length - g_1.snd/\((True/\(0=0/\(True/\((↑g_1.1:Int)=↑g'.1/\(0=0/\(IntKind.i64.wrap ((↑g_1.2:Int)+(1:Int))=(↑g'.2:Int)/\True))))))/\(((W (z3z (↑I.sup.length:Int) I.arcs x g_1.2 (↑g_1.1:Int))).hi=(W (z3z (↑I.sup.length:Int) I.arcs x g'.2 (↑g'.1:Int))).hi/\((W (z3z (↑I.sup.length:Int) I.arcs x g_1.2 (↑g_1.1:Int))).lo=(W (z3z (↑I.sup.length:Int) I.arcs x g'.2 (↑g'.1:Int))).lo/\True))/\(List.take g_1.1 (z92 I x)=List.take g'.1 (z92 I x)/\((True/\(True/\True))/\(I.sup=I.sup/\(I.arcs=I.arcs/\(x=x/\True)))))))))
abbrev rNet_a3 (I:Inst) (g':Nat × Nat) (g_1:Nat × Nat) (x:List Int):=(I.arcs.length - g'.snd<I.arcs.length - g_1.snd/\((True/\(0=0/\(True/\((↑g_1.1:Int)=↑g'.1/\(0=0/\(IntKind.i64.wrap ((↑g_1.2:Int)+(1:Int))=(↑g'.2:Int)/\True))))))/\(((z3g (W (z3z (↑I.sup.length:Int) I.arcs x g_1.2 (↑g_1.1:Int))) (W (z5u g_1 x))).hi=(W (z3z (↑I.sup.length:Int) I.arcs x g'.2 (↑g'.1:Int))).hi/\((z3g (W (z3z (↑I.sup.length:Int) I.arcs x g_1.2 (↑g_1.1:Int))) (W (z5u g_1 x))).lo=(W (z3z (↑I.sup.length:Int) I.arcs x g'.2 (↑g'.1:Int))).lo/\True))/\(List.take g_1.1 (z92 I x)=List.take g'.1 (z92 I x)/\((True/\(True/\True))/\(I.sup=I.sup/\(I.arcs=I.arcs/\(x=x/\True))))))))
abbrev zlu (I:Inst) (x:List Int):=((True/\(True/\True))/\(I.sup=I.sup/\(I.arcs=I.arcs/\(x=x/\True))))
abbrev zg4 (I:Inst) (x:List Int) (g_1:Nat × Nat):=(z3z (↑I.sup.length:Int) I.arcs x g_1.2 (↑g_1.1:Int))
def rNet_E0 (I : Inst) (x : List Int) (ty0 ty1 ty2 : TypeId) : Prop :=
   ∃ (g0:Nat),(g0 <= I.sup.length/\((True/\(0=0/\(True/\((0:Int)=↑g0/\True))))/\([]=List.take g0 (z92 I x)/\(zlu I x))))/\∀ (g:Nat),g <= I.sup.length->(decide ((↑g:Int)<↑I.sup.length)=true->∃ (g0:Nat × Nat),((g0.fst<I.sup.length/\(g0.fst=g0.fst/\(g0.snd <= I.arcs.length)))/\((True/\(0=0/\(True/\((↑g:Int)=↑g0.1/\(0=0/\((0:Int)=↑g0.2/\True))))))/\(((0:Int)=(W (z3z (↑I.sup.length:Int) I.arcs x g0.2 (↑g0.1:Int))).hi/\((0:Int)=(W (z3z (↑I.sup.length:Int) I.arcs x g0.2 (↑g0.1:Int))).lo/\True))/\(List.take g (z92 I x)=List.take g0.1 (z92 I x)/\(zlu I x)))))/\∀ (g_1:Nat × Nat),g_1.fst<I.sup.length/\g_1.fst=g0.fst/\g_1.snd <= I.arcs.length->(decide ((↑g_1.2:Int)<↑I.arcs.length)=true->True/\(gOk (↑I.sup.length:Int) I.arcs (↑g_1.2:Int)=true->(((z2b (↑I.sup.length:Int) I.arcs (↑g_1.2:Int)).src == (↑g_1.1:Int))=true->True/\I64 (z5u g_1 x)/\((W (zg4 I x g_1)).ok/\((W (z5u g_1 x)).ok))/\(gOk (↑I.sup.length:Int) I.arcs (↑g_1.2:Int)=true->(((z2b (↑I.sup.length:Int) I.arcs (↑g_1.2:Int)).dst == (↑g_1.1:Int))=true->True/\(I64 (z5u g_1 x)/\(((z3g (W (zg4 I x g_1)) (W (z5u g_1 x))).ok/\((W (z5u g_1 x)).ok))/\(∃ (g':Nat × Nat),(g'.fst<I.sup.length/\(g'.fst=g0.fst/\(g'.snd <= I.arcs.length)))/\(I.arcs.length - g'.snd<I.arcs.length - g_1.snd/\((True/\(0=0/\(True/\((↑g_1.1:Int)=↑g'.1/\(0=0/\(IntKind.i64.wrap ((↑g_1.2:Int)+(1:Int))=(↑g'.2:Int)/\True))))))/\(((z3f (z3g (W (zg4 I x g_1)) (W (z5u g_1 x))) (W (z5u g_1 x))).hi=(W (z3z (↑I.sup.length:Int) I.arcs x g'.2 (↑g'.1:Int))).hi/\((z3f (z3g (W (zg4 I x g_1)) (W (z5u g_1 x))) (W (z5u g_1 x))).lo=(W (z3z (↑I.sup.length:Int) I.arcs x g'.2 (↑g'.1:Int))).lo/\True))/\(List.take g_1.1 (z92 I x)=List.take g'.1 (z92 I x)/\(zlu I x)))))))))/\(((z2b (↑I.sup.length:Int) I.arcs (↑g_1.2:Int)).dst == (↑g_1.1:Int))=false->∃ (g':Nat × Nat),(g'.fst<I.sup.length/\(g'.fst=g0.fst/\(g'.snd <= I.arcs.length)))/\(rNet_a3 I g' g_1 x)))/\(gOk (↑I.sup.length:Int) I.arcs (↑g_1.2:Int)=false->∃ (g':Nat × Nat),(g'.fst<I.sup.length/\(g'.fst=g0.fst/\(g'.snd <= I.arcs.length)))/\(rNet_a3 I g' g_1 x)))/\(((z2b (↑I.sup.length:Int) I.arcs (↑g_1.2:Int)).src == (↑g_1.1:Int))=false->(rNet_a0 I g_1 x g0)/\(rNet_a2 I g_1 g0 x)))/\(gOk (↑I.sup.length:Int) I.arcs (↑g_1.2:Int)=false->(rNet_a0 I g_1 x g0)/\(rNet_a2 I g_1 g0 x)))/\(decide ((↑g_1.2:Int)<↑I.arcs.length)=false->(List.take g_1.1 (z92 I x)).length+(1:Nat) <= 1000000000/\(∃ (g':Nat),g' <= I.sup.length/\(I.sup.length - g'<I.sup.length - g/\((True/\(0=0/\(True/\(IntKind.i64.wrap ((↑g_1.1:Int)+(1:Int))=(↑g':Int)/\True))))/\(List.take g_1.1 (z92 I x) ++ [W (zg4 I x g_1)]=List.take g' (z92 I x)/\(zlu I x)))))))/\(decide ((↑g:Int)<↑I.sup.length)=false->(True/\True)/\(List.take g (z92 I x)=z92 I x/\True))
theorem rNet_q (I:Inst) (x:List Int) (ty0 ty1 ty2:TypeId):rNet_E0 I x ty0 ty1 ty2=z2r TT rNet_g (rNet_I I x) (rNet_an I x) Tryz.f93 [.agg [.row 0,.row 1],.row 2] [(0,.row false ty0 (.ints .i64 I.sup)),(1,.row false ty1 (.arcs I.arcs)),(2,.row false ty2 (.ints .i64 x))] (rNet_r I x):=by kernel_rfl
theorem rNet_E (I:Inst) (x:List Int) (ty0 ty1 ty2:TypeId) (hp:A64 x/\I.sup.length <= 10000/\I.arcs.length <= 10000):FVc TT rNet_g (rNet_I I x) (rNet_an I x) Tryz.f93 [.agg [.row 0,.row 1],.row 2] [(0,.row false ty0 (.ints .i64 I.sup)),(1,.row false ty1 (.arcs I.arcs)),(2,.row false ty2 (.ints .i64 x))] (rNet_r I x):=by
 refine FVc.of (rNet_E0 I x ty0 ty1 ty2) (rNet_q I x ty0 ty1 ty2) ?_
 unfold rNet_E0
 delta zg4 zlu rNet_a3 rNet_a2 z5u rNet_a0
 simp only [eq_self,exists_const,forall_const,ne_eq,Int.toNat_natCast,zSS,z07]
 obtain ⟨p1,p2,p3⟩:=hp
 have hA:∀ k:Nat,(if 0 <= (k:Int) then x.getD k 0 else 0)=x.getD k 0:=fun k=>if_pos (by omega)
 simp only [hA,zcw,zif]
 refine ⟨0,⟨by omega,rfl,by simp⟩,fun v hv=>⟨fun h1=>⟨(v,0),⟨⟨by dsimp only; omega,by dsimp only; omega⟩,⟨rfl,rfl⟩,⟨by simp only [z3z,W_zero],by simp only [z3z,W_zero]⟩,rfl⟩,fun g hg=>?_⟩,fun h1=>?_⟩⟩
 ·obtain ⟨v',k⟩:=g
  dsimp only at hg ⊢
  obtain ⟨g1,rfl,g3⟩:=hg
  have leaf:k<I.arcs.length->∀ z:Int,z=z3z I.sup.length I.arcs x (k+1) v'->∃ g':Nat × Nat,(g'.fst<I.sup.length/\g'.fst=v'/\g'.snd <= I.arcs.length)/\I.arcs.length - g'.snd<I.arcs.length - k/\((v':Int)=(g'.fst:Int)/\IntKind.i64.wrap ((k:Int)+1)=(g'.snd:Int)) /\
    ((W z).hi=(W (z3z I.sup.length I.arcs x g'.snd g'.fst)).hi/\(W z).lo=(W (z3z I.sup.length I.arcs x g'.snd g'.fst)).lo)/\(z92 I x).take v'=(z92 I x).take g'.fst:=fun hk z hz =>
   ⟨(v',k+1),⟨by dsimp only; omega,rfl,by dsimp only; omega⟩,by dsimp only; omega,⟨rfl,w64 (by omega) (by omega)⟩,by rw [hz]; exact ⟨rfl,rfl⟩,rfl⟩
  refine ⟨fun h2=>?_,fun h2=>?_⟩
  ·obtain ⟨a,ha⟩:∃ a,I.arcs[k]? = some a:=⟨_,List.getElem?_eq_getElem (by omega)⟩
   have hg:I.arcs.getD k default=a:=by simp [List.getD,ha]
   have e1:gOk I.sup.length I.arcs k=z3v I.sup.length a:=zkd (by omega) (by simpa using ha)
   have e2:z2b I.sup.length I.arcs k=if z3v I.sup.length a then a else ⟨0,0,0,0,0⟩:=gArc_at (by omega) (by simpa using ha)
   have hx:=p1.getD k
   have hk:k<I.arcs.length:=by omega
   rw [e1,e2]
   cases ho:z3v I.sup.length a with
   | false =>
    refine ⟨fun h=>(by cases h),fun _=>⟨fun h=>(by cases h),fun _=>leaf hk _ ?_⟩⟩
    simp only [z3z,hg,z5m,ho]; simp
   | true =>
    simp only [if_true]
    refine ⟨fun _=>⟨fun hs=>⟨hx,⟨zey _,zey _⟩,fun _=>⟨fun hd=>⟨hx,⟨zey _,zey _⟩,leaf hk _ ?_⟩,fun hd=>leaf hk _ ?_⟩,fun h=>(by cases h)⟩,fun hs=>⟨fun _=>⟨fun hd=>⟨hx,⟨zey _,zey _⟩,leaf hk _ ?_⟩,fun hd=>leaf hk _ ?_⟩,fun h=>(by cases h)⟩⟩,fun h=>(by cases h)⟩
    all_goals
     simp only [z3z,hg,z5m,ho,if_true,hs,hd,if_false]
     omega
  ·have hkl:k=I.arcs.length:=by omega
   subst hkl
   refine ⟨by rw [List.length_take,netF_len]; omega,v'+1,by omega,by omega,w64 (by omega) (by omega),?_⟩
   have:(z92 I x)[v']? = some (W (z3z I.sup.length I.arcs x I.arcs.length v')):=by
    unfold z92
    rw [List.getElem?_map,List.getElem?_range g1]
    rfl
   rw [z1b this]
 ·rw [List.take_of_length_le (by rw [netF_len]; omega)]
theorem rNet_ok:SpecOk Tryz.prog rNet_n true (z03 true rNet_fs) :=
 z0b z0r (show z1c Tryz.prog rNet_g from z00 rArc_ok (z00 rOf_ok (z00 z8o (z00 zlt (z00 At_ok (z05)))))) (by kernel_rfl) mixedOrders Tryz.func93 rfl rfl (by kernel_rfl) (n:=2) (by decide +kernel) (I:=rNet_IA) (fun _ _=>z06) (A:=rNet_A)
  (fun args h r hr=>by
   unfold rNet_fs at hr
   split at hr
   ·rename_i ty0 I_s ty1 I_a ty2 x; cases hr; refine ⟨rfl,fun hp=>?_⟩; have hE:=rNet_E ⟨I_s,I_a⟩ x ty0 ty1 ty2 hp; exact hE
   ·cases hr)
def zfx (x : Arc) (n : Int) : Prop :=
      (decide (n ≥ x.low)=true ->
 ((x.cap == (4611686018427387904:Int))=true->(true=fitF x n/\True)/\True) /\
 ((x.cap == (4611686018427387904:Int))=false->(decide (n <= x.cap)=fitF x n/\True)/\True)) /\
 (decide (n ≥ x.low)=false->(false=fitF x n/\True)/\True)
theorem rBounds_q (x:Arc) (n:Int):zfx x n=z2r TT zli (rBounds_I x n) (rBounds_an x n) Tryz.f92 [.agg (z7i x),.int .i64 n] [] (zlj x n):=by kernel_rfl
theorem rBounds_E (x:Arc) (n:Int) (hp:True):FVc TT zli (rBounds_I x n) (rBounds_an x n) Tryz.f92 [.agg (z7i x),.int .i64 n] [] (zlj x n):=by
 refine FVc.of (zfx x n) (rBounds_q x n) ?_
 unfold zfx
 simp only [eq_self,exists_const,forall_const,ne_eq,Int.toNat_natCast,zSS,z07]
 unfold fitF inf
 refine ⟨fun h=>⟨fun h2=>?_,fun h2=>?_⟩,fun h=>?_⟩
 ·simp [h2]; omega
 ·simp [h2]; omega
 ·simp; omega
theorem rBounds_ok:SpecOk Tryz.prog rBounds_n true (z03 true zfy) :=
 z0b z0r (show z1c Tryz.prog zli from z05) (by kernel_rfl) mixedOrders Tryz.func92 rfl rfl (by kernel_rfl) (n:=2) (by decide +kernel) (I:=rBounds_IA) (fun _ _=>z06) (A:=rBounds_A)
  (fun args h r hr=>by
   unfold zfy at hr
   split at hr
   ·rename_i x_0 x_1 x_2 x_3 x_4 n; cases hr; refine ⟨rfl,fun hp=>?_⟩; have hE:=rBounds_E ⟨x_0,x_1,x_2,x_3,x_4⟩ n hp; exact hE
   ·cases hr)
def rFits_E0 (I : Inst) (x : List Int) (ty0 ty1 ty2 : TypeId) : Prop :=
   True/\((z02 I != (0:Int))=true->(z02 I=z1w I x/\True)/\True)/\((z02 I != (0:Int))=false->(((↑x.length:Int) != (↑I.arcs.length:Int))=true->((30:Int)=z1w I x/\True)/\True)/\(((↑x.length:Int) != (↑I.arcs.length:Int))=false->∃ (g0:Nat),((g0 <= I.arcs.length/\(z2i (List.drop g0 I.arcs) (List.drop g0 x)=z2i I.arcs x))/\((True/\(0=0/\((0:Int)=↑g0/\True)))/\((True/\(True/\True))/\(I.sup=I.sup/\(I.arcs=I.arcs/\(x=x/\True))))))/\(∀ (g:Nat),g <= I.arcs.length/\z2i (List.drop g I.arcs) (List.drop g x)=z2i I.arcs x->(decide ((↑g:Int)<↑x.length)=true->((0:Int) <= ↑g/\((↑g:Int)<↑I.arcs.length))/\((↑g:Int).toNat<I.arcs.length/\(∀ (x_1:Arc),I.arcs[(↑g:Int).toNat]? = some x_1->((0:Int) <= ↑g/\((↑g:Int)<↑x.length))/\((↑g:Int).toNat<x.length/\(∀ (x_2:Int),x[(↑g:Int).toNat]? = some x_2->True/\(((!fitF x_1 x_2)=true->((31:Int)=z1w I x/\True)/\True)/\((!fitF x_1 x_2)=false->∃ (g':Nat),(g' <= I.arcs.length/\(z2i (List.drop g' I.arcs) (List.drop g' x)=z2i I.arcs x))/\(I.arcs.length - g'<I.arcs.length - g/\((True/\(0=0/\(IntKind.i64.wrap ((↑g:Int)+(1:Int))=(↑g':Int)/\True)))/\((True/\(True/\True))/\(I.sup=I.sup/\(I.arcs=I.arcs/\(x=x/\True)))))))))))))/\(decide ((↑g:Int)<↑x.length)=false->(A64 x/\(I.sup.length <= (10000:Nat)/\(I.arcs.length <= (10000:Nat))))/\(∃ (g0:Nat),((g0 <= I.sup.length/\(∀ (v:Nat),v<g0->W (z3z (↑I.sup.length:Int) I.arcs x I.arcs.length (↑v:Int))=W (I.sup.getD v (0:Int))))/\((0=0/\(True/\((0:Int)=↑g0/\True)))/\(z92 I x=z92 I x/\((True/\(True/\True))/\(I.sup=I.sup/\(I.arcs=I.arcs/\True))))))/\(∀ (g:Nat),(g <= I.sup.length/\(∀ (v:Nat),v<g->W (z3z (↑I.sup.length:Int) I.arcs x I.arcs.length (↑v:Int))=W (I.sup.getD v (0:Int))))->(decide ((↑g:Int)<↑(z92 I x).length)=true->((0:Int) <= ↑g/\((↑g:Int)<↑(z92 I x).length))/\((↑g:Int).toNat<(z92 I x).length/\(∀ (x_1:Wide),(z92 I x)[(↑g:Int).toNat]? = some x_1->((0:Int) <= ↑g/\((↑g:Int)<↑I.sup.length))/\((↑g:Int).toNat<I.sup.length/\(∀ (x_2:Int),I.sup[(↑g:Int).toNat]? = some x_2->I64 x_2/\(((!decide ([x_1.hi,x_1.lo]=[(W x_2).hi,(W x_2).lo]))=true->((32:Int)=z1w I x/\True)/\True)/\((!decide ([x_1.hi,x_1.lo]=[(W x_2).hi,(W x_2).lo]))=false->∃ (g':Nat),(g' <= I.sup.length/\(∀ (v:Nat),v<g'->W (z3z (↑I.sup.length:Int) I.arcs x I.arcs.length (↑v:Int))=W (I.sup.getD v (0:Int))))/\(I.sup.length - g'<I.sup.length - g/\((0=0/\(True/\(IntKind.i64.wrap ((↑g:Int)+(1:Int))=(↑g':Int)/\True)))/\(z92 I x=z92 I x/\((True/\(True/\True))/\(I.sup=I.sup/\(I.arcs=I.arcs/\True)))))))))))))/\(decide ((↑g:Int)<↑(z92 I x).length)=false->((0:Int)=z1w I x/\True)/\True)))))))
theorem rFits_q (I:Inst) (x:List Int) (ty0 ty1 ty2:TypeId):rFits_E0 I x ty0 ty1 ty2=z2r TT rFits_g (rFits_I I x) (rFits_an I x) Tryz.f56 [.agg [.row 0,.row 1],.row 2] [(0,.row false ty0 (.ints .i64 I.sup)),(1,.row false ty1 (.arcs I.arcs)),(2,.row false ty2 (.ints .i64 x))] (rFits_r I x):=by kernel_rfl
theorem rFits_E (I:Inst) (x:List Int) (ty0 ty1 ty2:TypeId) (hp:I.sup.length <= 10000/\I.arcs.length <= 10000/\A64 x/\A64 I.sup):FVc TT rFits_g (rFits_I I x) (rFits_an I x) Tryz.f56 [.agg [.row 0,.row 1],.row 2] [(0,.row false ty0 (.ints .i64 I.sup)),(1,.row false ty1 (.arcs I.arcs)),(2,.row false ty2 (.ints .i64 x))] (rFits_r I x):=by
 refine FVc.of (rFits_E0 I x ty0 ty1 ty2) (rFits_q I x ty0 ty1 ty2) ?_
 unfold rFits_E0
 simp only [eq_self,exists_const,forall_const,ne_eq,Int.toNat_natCast,zSS,z07]
 obtain ⟨p1,p2,p3,p4⟩:=hp
 simp only [netF_len]
 refine ⟨fun h=>by simp [z1w,h],fun h1=>⟨fun h2=>?_,fun h2=>⟨0,⟨⟨by omega,by simp⟩,rfl⟩,fun k hk=>⟨fun h3=>⟨by omega,by omega,fun a ha=>⟨by omega,by omega,fun y hy=>?_⟩⟩,fun h3=>?_⟩⟩⟩⟩
 ·have h2':¬ x.length=I.arcs.length:=by omega
  simp [z1w,h1,h2']
 ·have e:=fitsAll_drop (x:=x) ha
  have hyd:x.getD k 0=y:=by simp [List.getD,hy]
  rw [hk.2,hyd] at e
  have h2':x.length=I.arcs.length:=by omega
  refine ⟨fun h4=>?_,fun h4=>⟨k+1,⟨by omega,?_⟩,by omega,w64 (by omega) (by omega)⟩⟩
  ·rw [h4] at e
   simp only [Bool.false_and] at e
   simp [z1w,h1,h2',e]
  ·rw [e,h4,Bool.true_and]
 ·have h2':x.length=I.arcs.length:=by omega
  have hall:z2i I.arcs x=true:=by rw [<- hk.2,z74 (by omega)]; rfl
  refine ⟨⟨p3,p1,p2⟩,0,⟨⟨by omega,fun v hv=>by omega⟩,rfl⟩,fun j hj=>⟨fun h4=>⟨by omega,by omega,fun w hw=>⟨by omega,by omega,fun z hz=>?_⟩⟩,fun h4=>?_⟩⟩
  ·obtain ⟨_,rfl⟩:=z1f hw
   have hzd:I.sup.getD j 0=z:=by simp [List.getD,hz]
   have hwe:∀ u v:Wide,[u.hi,u.lo]=[v.hi,v.lo] ↔ u=v:=fun u v=>by obtain ⟨u1,u2⟩:=u; obtain ⟨v1,v2⟩:=v; simp
   rw [hwe]
   refine ⟨p4 z (List.mem_of_getElem? hz),fun h5=>?_,fun h5=>⟨j+1,⟨by omega,fun v hv=>?_⟩,by omega,w64 (by omega) (by omega)⟩⟩
   ·have hno:netOk I x=false:=by
     rw [Bool.eq_false_iff]
     intro h
     unfold netOk at h
     have:=List.all_eq_true.1 h j (List.mem_range.2 (by omega))
     rw [decide_eq_true_eq,hzd] at this
     exact h5 this
    simp [z1w,h1,h2',hall,hno]
   ·by_cases hvj:v=j
    ·subst hvj; rw [hzd]; exact h5
    ·exact hj.2 v (by omega)
  ·have hno:netOk I x=true:=by
    unfold netOk
    rw [List.all_eq_true]
    intro v hv
    rw [decide_eq_true_eq]
    exact hj.2 v (by have:=List.mem_range.1 hv; omega)
   simp [z1w,h1,h2',hall,hno]
theorem rFits_ok:SpecOk Tryz.prog rFits_n true (z03 true zi6) :=
 z0b z0r (show z1c Tryz.prog rFits_g from z00 z7q (z00 rBounds_ok (z00 rNet_ok (z00 rOf_ok (z05))))) (by kernel_rfl) mixedOrders Tryz.func56 rfl rfl (by kernel_rfl) (n:=2) (by decide +kernel) (I:=rFits_IA) (fun _ _=>z06) (A:=rFits_A)
  (fun args h r hr=>by
   unfold zi6 at hr
   split at hr
   ·rename_i ty0 I_s ty1 I_a ty2 x; cases hr; refine ⟨rfl,fun hp=>?_⟩; have hE:=rFits_E ⟨I_s,I_a⟩ x ty0 ty1 ty2 hp; exact hE
   ·cases hr)
def ron_r (I:Inst) (side:List Bool) (n:Int):FRes:={ pre:=True,res:=.bool (isN I.sup.length n && onF side n),rows:=[],eff:=[] }
def ron_fs:FS:=fun args h=>match args,h with
 | [.agg [.row 0,.row 1],.row 2,.int .i64 n],[(0,.row false ty0 (.ints .i64 I_s)),(1,.row false ty1 (.arcs I_a)),(2,.row false ty2 (.bools side))]=>some (ron_r ⟨I_s,I_a⟩ side n)
 | _,_=>none
def ron_an (I:Inst) (side:List Bool) (n:Int):List (Nat × Ann):=[]
def ron_A:List SV->z0d->List (Nat × Ann):=fun _ _=>[]
def ron_g:z0c:=[(Off_n,(true,z03 true Off_fs))]
abbrev ron_n:Nat:=145
def ron_I (I:Inst) (side:List Bool) (n:Int):List (Nat × z08):=[]
def ron_IA:List SV->z0d->List (Nat × z08):=fun _ _=>[]
def roff_r (I:Inst) (side:List Bool) (n:Int):FRes:={ pre:=True,res:=.bool (isN I.sup.length n && !onF side n),rows:=[],eff:=[] }
def roff_fs:FS:=fun args h=>match args,h with
 | [.agg [.row 0,.row 1],.row 2,.int .i64 n],[(0,.row false ty0 (.ints .i64 I_s)),(1,.row false ty1 (.arcs I_a)),(2,.row false ty2 (.bools side))]=>some (roff_r ⟨I_s,I_a⟩ side n)
 | _,_=>none
def roff_an (I:Inst) (side:List Bool) (n:Int):List (Nat × Ann):=[]
def roff_A:List SV->z0d->List (Nat × Ann):=fun _ _=>[]
def roff_g:z0c:=[(Off_n,(true,z03 true Off_fs))]
abbrev roff_n:Nat:=146
def roff_I (I:Inst) (side:List Bool) (n:Int):List (Nat × z08):=[]
def roff_IA:List SV->z0d->List (Nat × z08):=fun _ _=>[]
def rCRoom_r (I:Inst) (side:List Bool):FRes:={ pre:=A64a I.arcs/\I.arcs.length <= 140737488351232,res:=.tup [.agg (z0v (roomW (z50 I side))),.bool ((z50 I side).isSome)],rows:=[],eff:=[] }
def zlo:FS:=fun args h=>match args,h with
 | [.agg [.row 0,.row 1],.row 2],[(0,.row false ty0 (.ints .i64 I_s)),(1,.row false ty1 (.arcs I_a)),(2,.row false ty2 (.bools side))]=>some (rCRoom_r ⟨I_s,I_a⟩ side)
 | _,_=>none
def zln (I:Inst) (side:List Bool):List (Nat × Ann):=[(3,{ G:=(Nat) × (Int),inv:=fun ⟨k,s⟩=>⟨[(1,.row 2),(2,.ptr 3 0 0 0),(4,.ptr 4 0 0 0),(6,.ptr 5 0 0 0),(7,.int .i64 k)],[(5,.box true 47 (z0v (W (s)))),(4,.box true 47 [.int .i64 (0:Int),.int .u64 (0:Int)]),(3,.box true 25 [.row 0,.row 1]),(0,.row false 0 (.ints .i64 I.sup)),(1,.row false 0 (.arcs I.arcs)),(2,.row false 0 (.bools side))],6⟩,rel:=fun ⟨k0,s0⟩ ⟨k,s⟩=>k <= I.arcs.length/\z19 I.sup.length side (I.arcs.drop k) s=z50 I side,meas:=fun ⟨k,s⟩=>I.arcs.length - k })]
def rCRoom_A:List SV->z0d->List (Nat × Ann):=fun args h=>match args,h with
 | [.agg [.row 0,.row 1],.row 2],[(0,.row false ty0 (.ints .i64 I_s)),(1,.row false ty1 (.arcs I_a)),(2,.row false ty2 (.bools side))]=>zln ⟨I_s,I_a⟩ side
 | _,_=>[]
def rCRoom_g:z0c:=[(ron_n,(true,z03 true ron_fs)),(roff_n,(true,z03 true roff_fs)),(z9z,(true,z03 true z63)),(zi7,(true,z03 true z9y)),(rOf_n,(true,z03 true zhd))]
abbrev rCRoom_n:Nat:=90
def rCRoom_I (I:Inst) (side:List Bool):List (Nat × z08):=[]
def rCRoom_IA:List SV->z0d->List (Nat × z08):=fun _ _=>[]
def rNeed_r (I:Inst) (side:List Bool):FRes:={ pre:=A64 I.sup/\I.sup.length <= 140737488351232,res:=.agg (z0v (W (zdl I side))),rows:=[],eff:=[] }
def rNeed_fs:FS:=fun args h=>match args,h with
 | [.agg [.row 0,.row 1],.row 2],[(0,.row false ty0 (.ints .i64 I_s)),(1,.row false ty1 (.arcs I_a)),(2,.row false ty2 (.bools side))]=>some (rNeed_r ⟨I_s,I_a⟩ side)
 | _,_=>none
def rNeed_an (I:Inst) (side:List Bool):List (Nat × Ann):=[(3,{ G:=(Nat),inv:=fun k=>⟨[(1,.row 2),(2,.ptr 3 0 0 0),(4,.ptr 4 0 0 0),(5,.ptr 5 0 0 0),(6,.int .i64 k)],[(5,.box true 47 (z0v (W (z5b side I.sup k)))),(4,.box true 47 [.int .i64 (0:Int),.int .u64 (0:Int)]),(3,.box true 25 [.row 0,.row 1]),(0,.row false 0 (.ints .i64 I.sup)),(1,.row false 0 (.arcs I.arcs)),(2,.row false 0 (.bools side))],6⟩,rel:=fun k0 k=>k <= I.sup.length,meas:=fun k=>I.sup.length - k })]
def rNeed_A:List SV->z0d->List (Nat × Ann):=fun args h=>match args,h with
 | [.agg [.row 0,.row 1],.row 2],[(0,.row false ty0 (.ints .i64 I_s)),(1,.row false ty1 (.arcs I_a)),(2,.row false ty2 (.bools side))]=>rNeed_an ⟨I_s,I_a⟩ side
 | _,_=>[]
def rNeed_g:z0c:=[(ron_n,(true,z03 true ron_fs)),(z9z,(true,z03 true z63)),(rOf_n,(true,z03 true zhd))]
abbrev rNeed_n:Nat:=91
def rNeed_I (I:Inst) (side:List Bool):List (Nat × z08):=[]
def rNeed_IA:List SV->z0d->List (Nat × z08):=fun _ _=>[]
def zlx (I:Inst) (side:List Bool):FRes:={ pre:=A64a I.arcs/\I.arcs.length <= 140737488351232/\A64 I.sup/\I.sup.length <= 140737488351232,res:=.int .i64 (z32 I side),rows:=[],eff:=[] }
def zg8:FS:=fun args h=>match args,h with
 | [.agg [.row 0,.row 1],.row 2],[(0,.row false ty0 (.ints .i64 I_s)),(1,.row false ty1 (.arcs I_a)),(2,.row false ty2 (.bools side))]=>some (zlx ⟨I_s,I_a⟩ side)
 | _,_=>none
def rProves_an (I:Inst) (side:List Bool):List (Nat × Ann):=[]
def rProves_A:List SV->z0d->List (Nat × Ann):=fun _ _=>[]
def zlw:z0c:=[(z8p,(true,z03 true z5o)),(rCRoom_n,(true,z03 true zlo)),(rNeed_n,(true,z03 true rNeed_fs)),(zau,(true,z03 true z6n))]
abbrev rProves_n:Nat:=55
def rProves_I (I:Inst) (side:List Bool):List (Nat × z08):=[]
def rProves_IA:List SV->z0d->List (Nat × z08):=fun _ _=>[]
def Bools_r (xs:List Bool) (ys:List Bool):FRes:={ pre:=xs.length <= 1000000000,res:=.bool (decide (xs=ys)),rows:=[],eff:=[] }
def Bools_fs:FS:=fun args h=>match args,h with
 | [.row 0,.row 1],[(0,.row false ty0 (.bools xs)),(1,.row false ty1 (.bools ys))]=>some (Bools_r xs ys)
 | _,_=>none
def Bools_an (xs:List Bool) (ys:List Bool):List (Nat × Ann):=[(4,{ G:=(Nat),inv:=fun k=>⟨[(0,.row 0),(1,.row 1),(5,.int .i64 k)],[(0,.row false 0 (.bools xs)),(1,.row false 0 (.bools ys))],2⟩,rel:=fun k0 k=>k <= xs.length/\xs.take k=ys.take k,meas:=fun k=>xs.length - k })]
def Bools_A:List SV->z0d->List (Nat × Ann):=fun args h=>match args,h with
 | [.row 0,.row 1],[(0,.row false ty0 (.bools xs)),(1,.row false ty1 (.bools ys))]=>Bools_an xs ys
 | _,_=>[]
def Bools_g:z0c:=[]
abbrev Bools_n:Nat:=79
def Bools_I (xs:List Bool) (ys:List Bool):List (Nat × z08):=[]
def Bools_IA:List SV->z0d->List (Nat × z08):=fun _ _=>[]
def ron_E0 (I : Inst) (side : List Bool) (n : Int) (ty0 ty1 ty2 : TypeId) : Prop :=
      (decide (n ≥ (0:Int))=true ->
 (decide (n<(↑I.sup.length:Int))=true->(0:Int) <= n/\(side.getD n.toNat false=(isN (↑I.sup.length:Int) n && onF side n)/\True)/\True) /\
 (decide (n<(↑I.sup.length:Int))=false->(false=(isN (↑I.sup.length:Int) n && onF side n)/\True)/\True)) /\
 (decide (n ≥ (0:Int))=false->(false=(isN (↑I.sup.length:Int) n && onF side n)/\True)/\True)
theorem ron_q (I:Inst) (side:List Bool) (n:Int) (ty0 ty1 ty2:TypeId):ron_E0 I side n ty0 ty1 ty2=z2r TT ron_g (ron_I I side n) (ron_an I side n) Tryz.f145 [.agg [.row 0,.row 1],.row 2,.int .i64 n] [(0,.row false ty0 (.ints .i64 I.sup)),(1,.row false ty1 (.arcs I.arcs)),(2,.row false ty2 (.bools side))] (ron_r I side n):=by kernel_rfl
theorem ron_E (I:Inst) (side:List Bool) (n:Int) (ty0 ty1 ty2:TypeId) (hp:True):FVc TT ron_g (ron_I I side n) (ron_an I side n) Tryz.f145 [.agg [.row 0,.row 1],.row 2,.int .i64 n] [(0,.row false ty0 (.ints .i64 I.sup)),(1,.row false ty1 (.arcs I.arcs)),(2,.row false ty2 (.bools side))] (ron_r I side n):=by
 refine FVc.of (ron_E0 I side n ty0 ty1 ty2) (ron_q I side n ty0 ty1 ty2) ?_
 unfold ron_E0
 simp only [eq_self,exists_const,forall_const,ne_eq,Int.toNat_natCast,zSS,z07]
 refine ⟨fun h=>⟨fun h2=>⟨by omega,?_⟩,fun h2=>?_⟩,fun h=>?_⟩
 ·simp [isN,onF,show 0 <= n by omega,show n<(I.sup.length:Int) by omega]
 ·simp [isN,show ¬ n<(I.sup.length:Int) by omega]
 ·simp [isN,show ¬ 0 <= n by omega]
theorem ron_ok:SpecOk Tryz.prog ron_n true (z03 true ron_fs) :=
 z0b z0r (show z1c Tryz.prog ron_g from z00 Off_ok (z05)) (by kernel_rfl) mixedOrders Tryz.func145 rfl rfl (by kernel_rfl) (n:=3) (by decide +kernel) (I:=ron_IA) (fun _ _=>z06) (A:=ron_A)
  (fun args h r hr=>by
   unfold ron_fs at hr
   split at hr
   ·rename_i n ty0 I_s ty1 I_a ty2 side; cases hr; refine ⟨rfl,fun hp=>?_⟩; have hE:=ron_E ⟨I_s,I_a⟩ side n ty0 ty1 ty2 hp; exact hE
   ·cases hr)
def roff_E0 (I : Inst) (side : List Bool) (n : Int) (ty0 ty1 ty2 : TypeId) : Prop :=
      (decide (n ≥ (0:Int))=true ->
 (decide (n<(↑I.sup.length:Int))=true->(0:Int) <= n/\((!side.getD n.toNat false)=(isN (↑I.sup.length:Int) n && !onF side n)/\True)/\True) /\
 (decide (n<(↑I.sup.length:Int))=false->(false=(isN (↑I.sup.length:Int) n && !onF side n)/\True)/\True)) /\
 (decide (n ≥ (0:Int))=false->(false=(isN (↑I.sup.length:Int) n && !onF side n)/\True)/\True)
theorem roff_q (I:Inst) (side:List Bool) (n:Int) (ty0 ty1 ty2:TypeId):roff_E0 I side n ty0 ty1 ty2=z2r TT roff_g (roff_I I side n) (roff_an I side n) Tryz.f146 [.agg [.row 0,.row 1],.row 2,.int .i64 n] [(0,.row false ty0 (.ints .i64 I.sup)),(1,.row false ty1 (.arcs I.arcs)),(2,.row false ty2 (.bools side))] (roff_r I side n):=by kernel_rfl
theorem roff_E (I:Inst) (side:List Bool) (n:Int) (ty0 ty1 ty2:TypeId) (hp:True):FVc TT roff_g (roff_I I side n) (roff_an I side n) Tryz.f146 [.agg [.row 0,.row 1],.row 2,.int .i64 n] [(0,.row false ty0 (.ints .i64 I.sup)),(1,.row false ty1 (.arcs I.arcs)),(2,.row false ty2 (.bools side))] (roff_r I side n):=by
 refine FVc.of (roff_E0 I side n ty0 ty1 ty2) (roff_q I side n ty0 ty1 ty2) ?_
 unfold roff_E0
 simp only [eq_self,exists_const,forall_const,ne_eq,Int.toNat_natCast,zSS,z07]
 refine ⟨fun h=>⟨fun h2=>⟨by omega,?_⟩,fun h2=>?_⟩,fun h=>?_⟩
 ·simp [isN,onF,show 0 <= n by omega,show n<(I.sup.length:Int) by omega]
 ·simp [isN,show ¬ n<(I.sup.length:Int) by omega]
 ·simp [isN,show ¬ 0 <= n by omega]
theorem roff_ok:SpecOk Tryz.prog roff_n true (z03 true roff_fs) :=
 z0b z0r (show z1c Tryz.prog roff_g from z00 Off_ok (z05)) (by kernel_rfl) mixedOrders Tryz.func146 rfl rfl (by kernel_rfl) (n:=3) (by decide +kernel) (I:=roff_IA) (fun _ _=>z06) (A:=roff_A)
  (fun args h r hr=>by
   unfold roff_fs at hr
   split at hr
   ·rename_i n ty0 I_s ty1 I_a ty2 side; cases hr; refine ⟨rfl,fun hp=>?_⟩; have hE:=roff_E ⟨I_s,I_a⟩ side n ty0 ty1 ty2 hp; exact hE
   ·cases hr)
abbrev zll (I:Inst) (x:Arc) (side:List Bool) (g:Nat × Int):=(((isN (↑I.sup.length:Int) x.dst && onF side x.dst)=true->True/\(((isN (↑I.sup.length:Int) x.src && !onF side x.src)=true->I64 x.low/\(((W g.2).ok/\((W x.low).ok))/\(∃ (g':Nat × Int),(g'.fst <= I.arcs.length/\(z19 (↑I.sup.length:Int) side (List.drop g'.fst I.arcs) g'.snd=z50 I side))/\(I.arcs.length - g'.fst<I.arcs.length - g.fst/\((True/\(0=0/\(0=0/\(0=0/\(IntKind.i64.wrap ((↑g.1:Int)+(1:Int))=(↑g'.1:Int)/\True)))))/\(((z3f (W g.2) (W x.low)).hi=(W g'.2).hi/\((z3f (W g.2) (W x.low)).lo=(W g'.2).lo/\True))/\(((0:Int)=0/\((0:Int)=0/\True))/\((True/\(True/\True))/\(I.sup=I.sup/\(I.arcs=I.arcs/\(side=side/\True)))))))))))/\((isN (↑I.sup.length:Int) x.src && !onF side x.src)=false->∃ (g':Nat × Int),(g'.fst <= I.arcs.length/\(z19 (↑I.sup.length:Int) side (List.drop g'.fst I.arcs) g'.snd=z50 I side))/\(I.arcs.length - g'.fst<I.arcs.length - g.fst/\((True/\(0=0/\(0=0/\(0=0/\(IntKind.i64.wrap ((↑g.1:Int)+(1:Int))=(↑g'.1:Int)/\True)))))/\(((W g.2).hi=(W g'.2).hi/\((W g.2).lo=(W g'.2).lo/\True))/\(((0:Int)=0/\((0:Int)=0/\True))/\((True/\(True/\True))/\(I.sup=I.sup/\(I.arcs=I.arcs/\(side=side/\True)))))))))))/\((isN (↑I.sup.length:Int) x.dst && onF side x.dst)=false->∃ (g':Nat × Int),(g'.fst <= I.arcs.length/\(z19 (↑I.sup.length:Int) side (List.drop g'.fst I.arcs) g'.snd=z50 I side))/\(I.arcs.length - g'.fst<I.arcs.length - g.fst/\((True/\(0=0/\(0=0/\(0=0/\(IntKind.i64.wrap ((↑g.1:Int)+(1:Int))=(↑g'.1:Int)/\True)))))/\(((W g.2).hi=(W g'.2).hi/\((W g.2).lo=(W g'.2).lo/\True))/\(((0:Int)=0/\((0:Int)=0/\True))/\((True/\(True/\True))/\(I.sup=I.sup/\(I.arcs=I.arcs/\(side=side/\True))))))))))
abbrev zdt (I:Inst) (side:List Bool):=(((0:Int)=0/\((0:Int)=0/\True))/\((True/\(True/\True))/\(I.sup=I.sup/\(I.arcs=I.arcs/\(side=side/\True)))))
abbrev zlm (I:Inst) (g':Nat × Int) (g:Nat × Int) (x:Arc) (side:List Bool):=(I.arcs.length - g'.fst<I.arcs.length - g.fst/\((True/\(0=0/\(0=0/\(0=0/\(IntKind.i64.wrap ((↑g.1:Int)+(1:Int))=(↑g'.1:Int)/\True)))))/\(((z3g (W g.2) (W x.cap)).hi=(W g'.2).hi/\((z3g (W g.2) (W x.cap)).lo=(W g'.2).lo/\True))/\(zdt I side))))
abbrev zdu (g':Nat × Int) (I:Inst) (side:List Bool):=(g'.fst <= I.arcs.length/\(z19 (↑I.sup.length:Int) side (List.drop g'.fst I.arcs) g'.snd=z50 I side))
def zlk (I : Inst) (side : List Bool) (ty0 ty1 ty2 : TypeId) : Prop :=
   ∃ (g0:Nat × Int),((g0.fst <= I.arcs.length/\(z19 (↑I.sup.length:Int) side (List.drop g0.fst I.arcs) g0.snd=z50 I side))/\((True/\(0=0/\(0=0/\(0=0/\((0:Int)=↑g0.1/\True)))))/\(((0:Int)=(W g0.2).hi/\((0:Int)=(W g0.2).lo/\True))/\(zdt I side))))/\∀ (g:Nat × Int),g.fst <= I.arcs.length/\z19 (↑I.sup.length:Int) side (List.drop g.fst I.arcs) g.snd=z50 I side->(decide ((↑g.1:Int)<↑I.arcs.length)=true->((0:Int) <= ↑g.1/\((↑g.1:Int)<↑I.arcs.length))/\(↑g.1:Int).toNat<I.arcs.length/\∀ (x:Arc),I.arcs[(↑g.1:Int).toNat]? = some x->True/\((isN (↑I.sup.length:Int) x.src && onF side x.src)=true->True/\((isN (↑I.sup.length:Int) x.dst && !onF side x.dst)=true->((x.cap == (4611686018427387904:Int))=true->((((0:Int)=(roomW (z50 I side)).hi/\((0:Int)=(roomW (z50 I side)).lo/\True))/\(false=(z50 I side).isSome/\True))/\True)/\True)/\((x.cap == (4611686018427387904:Int))=false->I64 x.cap/\(((W g.2).ok/\((W x.cap).ok))/\(True/\(((isN (↑I.sup.length:Int) x.dst && onF side x.dst)=true->True/\(((isN (↑I.sup.length:Int) x.src && !onF side x.src)=true->I64 x.low/\(((z3g (W g.2) (W x.cap)).ok/\((W x.low).ok))/\(∃ (g':Nat × Int),(zdu g' I side)/\(I.arcs.length - g'.fst<I.arcs.length - g.fst/\((True/\(0=0/\(0=0/\(0=0/\(IntKind.i64.wrap ((↑g.1:Int)+(1:Int))=(↑g'.1:Int)/\True)))))/\(((z3f (z3g (W g.2) (W x.cap)) (W x.low)).hi=(W g'.2).hi/\((z3f (z3g (W g.2) (W x.cap)) (W x.low)).lo=(W g'.2).lo/\True))/\(zdt I side)))))))/\((isN (↑I.sup.length:Int) x.src && !onF side x.src)=false->∃ (g':Nat × Int),(zdu g' I side)/\(zlm I g' g x side))))/\((isN (↑I.sup.length:Int) x.dst && onF side x.dst)=false->∃ (g':Nat × Int),(zdu g' I side)/\(zlm I g' g x side)))))))/\((isN (↑I.sup.length:Int) x.dst && !onF side x.dst)=false->True/\(zll I x side g)))/\((isN (↑I.sup.length:Int) x.src && onF side x.src)=false->True/\(zll I x side g)))/\(decide ((↑g.1:Int)<↑I.arcs.length)=false->((((W g.2).hi=(roomW (z50 I side)).hi/\((W g.2).lo=(roomW (z50 I side)).lo/\True))/\(true=(z50 I side).isSome/\True))/\True)/\True)
theorem rCRoom_q (I:Inst) (side:List Bool) (ty0 ty1 ty2:TypeId):zlk I side ty0 ty1 ty2=z2r TT rCRoom_g (rCRoom_I I side) (zln I side) Tryz.f90 [.agg [.row 0,.row 1],.row 2] [(0,.row false ty0 (.ints .i64 I.sup)),(1,.row false ty1 (.arcs I.arcs)),(2,.row false ty2 (.bools side))] (rCRoom_r I side):=by kernel_rfl
theorem rCRoom_E (I:Inst) (side:List Bool) (ty0 ty1 ty2:TypeId) (hp:A64a I.arcs/\I.arcs.length <= 140737488351232):FVc TT rCRoom_g (rCRoom_I I side) (zln I side) Tryz.f90 [.agg [.row 0,.row 1],.row 2] [(0,.row false ty0 (.ints .i64 I.sup)),(1,.row false ty1 (.arcs I.arcs)),(2,.row false ty2 (.bools side))] (rCRoom_r I side):=by
  refine FVc.of (zlk I side ty0 ty1 ty2) (rCRoom_q I side ty0 ty1 ty2) ?_
  unfold zlk
  delta zdu zlm zdt zll
  obtain ⟨p1,p2⟩:=hp
  simp only [eq_self,exists_const,forall_const,ne_eq,Int.toNat_natCast,zSS,z07]
  refine ⟨(0,0),⟨⟨Nat.zero_le _,rfl⟩,rfl,by decide,by decide⟩,fun g hg=>⟨fun h1=>⟨by omega,by omega,fun x hx=>?_⟩,fun h1=>?_⟩⟩
  · obtain ⟨g1,g2⟩:=hg
    rw [z3i hx,z5p] at g2
    have hm:=p1 x (List.mem_of_getElem? hx)
    have wk:IntKind.i64.wrap ((g.1:Int)+1)=((g.1+1:Nat):Int):=by rw [w64 (by omega) (by omega)]; omega
    have next:∀ s':Int,z19 I.sup.length side (List.drop (g.1+1) I.arcs) s'=z50 I side->∃ g':Nat × Int,(g'.fst <= I.arcs.length/\z19 I.sup.length side (List.drop g'.fst I.arcs) g'.snd=z50 I side)/\I.arcs.length - g'.fst<I.arcs.length - g.fst/\IntKind.i64.wrap ((g.fst:Int)+1)=(g'.fst:Int)/\(W s').hi=(W g'.snd).hi/\(W s').lo=(W g'.snd).lo :=
      fun s' hs=>⟨(g.1+1,s'),⟨by dsimp only; omega,hs⟩,by dsimp only; omega,wk,rfl,rfl⟩
    cases ha:isN (I.sup.length:Int) x.src <;> cases hb:isN (I.sup.length:Int) x.dst <;> cases hc:onF side x.src <;> cases hd:onF side x.dst <;>
      simp only [Bool.true_and,Bool.and_true,Bool.and_false,Bool.false_and,Bool.not_true,Bool.not_false,forall_const,false_implies,reduceCtorEq,true_implies,and_true,true_and,implies_true,Bool.false_eq_true,Bool.true_eq_false] <;>
      simp [zl1,inA,ha,hb,hc,hd] at g2 <;> first
        | exact next _ g2
        | exact ⟨hm.1,⟨zey _,zey _⟩,by rw [zif]; exact next _ g2⟩
        | (refine ⟨fun h6 => ?_, fun h6 => ⟨hm.2, ⟨zey _, zey _⟩, by rw [zcw]; exact next _ (by simpa [inf, h6] using g2)⟩⟩
           have:z50 I side=none:=by rw [<- g2]; simp [inf,h6]
           rw [this]
           exact ⟨⟨rfl,rfl⟩,rfl⟩)
  · obtain ⟨g1,g2⟩:=hg
    rw [z74 (by omega)] at g2
    rw [<- g2]
    exact ⟨⟨rfl,rfl⟩,rfl⟩
theorem rCRoom_ok:SpecOk Tryz.prog rCRoom_n true (z03 true zlo) :=
 z0b z0r (show z1c Tryz.prog rCRoom_g from z00 ron_ok (z00 roff_ok (z00 z8o (z00 zlt (z00 rOf_ok (z05)))))) (by kernel_rfl) mixedOrders Tryz.func90 rfl rfl (by kernel_rfl) (n:=2) (by decide +kernel) (I:=rCRoom_IA) (fun _ _=>z06) (A:=rCRoom_A)
  (fun args h r hr=>by
   unfold zlo at hr
   split at hr
   ·rename_i ty0 I_s ty1 I_a ty2 side; cases hr; refine ⟨rfl,fun hp=>?_⟩; have hE:=rCRoom_E ⟨I_s,I_a⟩ side ty0 ty1 ty2 hp; exact hE
   ·cases hr)
def rNeed_E0 (I : Inst) (side : List Bool) (ty0 ty1 ty2 : TypeId) : Prop :=
      ∃ (g0:Nat),
 (g0 <= I.sup.length /\
 (True/\(0:Nat)=(0:Nat)/\(0:Nat)=(0:Nat)/\(0:Nat)=(0:Nat)/\(0:Int)=(↑g0:Int)/\True) /\
 ((0:Int)=(W (z5b side I.sup g0)).hi/\(0:Int)=(W (z5b side I.sup g0)).lo/\True) /\
 ((0:Int)=(0:Int)/\(0:Int)=(0:Int)/\True)/\(True/\True/\True)/\I.sup=I.sup/\I.arcs=I.arcs/\side=side/\True) /\
 ∀ (g:Nat),
 g <= I.sup.length ->
 (decide ((↑g:Int)<(↑I.sup.length:Int))=true ->
 True /\
 ((isN (↑I.sup.length:Int) (↑g:Int) && onF side (↑g:Int))=true ->
 ((0:Int) <= (↑g:Int)/\(↑g:Int)<(↑I.sup.length:Int)) /\
 (↑g:Int).toNat<I.sup.length /\
 ∀ (x:Int),
 I.sup[(↑g:Int).toNat]? = some x ->
 I64 x /\
 ((W (z5b side I.sup g)).ok/\(W x).ok) /\
 ∃ (g':Nat),
 g' <= I.sup.length /\
 I.sup.length - g'<I.sup.length - g /\
 (True /\
 (0:Nat)=(0:Nat)/\(0:Nat)=(0:Nat)/\(0:Nat)=(0:Nat)/\IntKind.i64.wrap ((↑g:Int)+(1:Int))=(↑g':Int)/\True) /\
 ((z3g (W (z5b side I.sup g)) (W x)).hi=(W (z5b side I.sup g')).hi /\
 (z3g (W (z5b side I.sup g)) (W x)).lo=(W (z5b side I.sup g')).lo/\True) /\
 ((0:Int)=(0:Int)/\(0:Int)=(0:Int)/\True)/\(True/\True/\True)/\I.sup=I.sup/\I.arcs=I.arcs/\side=side/\True) /\
 ((isN (↑I.sup.length:Int) (↑g:Int) && onF side (↑g:Int))=false ->
 ∃ (g':Nat),
 g' <= I.sup.length /\
 I.sup.length - g'<I.sup.length - g /\
 (True/\(0:Nat)=(0:Nat)/\(0:Nat)=(0:Nat)/\(0:Nat)=(0:Nat)/\IntKind.i64.wrap ((↑g:Int)+(1:Int))=(↑g':Int)/\True) /\
 ((W (z5b side I.sup g)).hi=(W (z5b side I.sup g')).hi/\(W (z5b side I.sup g)).lo=(W (z5b side I.sup g')).lo/\True) /\
 ((0:Int)=(0:Int)/\(0:Int)=(0:Int)/\True)/\(True/\True/\True)/\I.sup=I.sup/\I.arcs=I.arcs/\side=side/\True)) /\
 (decide ((↑g:Int)<(↑I.sup.length:Int))=false ->
 (((W (z5b side I.sup g)).hi=(W (zdl I side)).hi/\(W (z5b side I.sup g)).lo=(W (zdl I side)).lo/\True)/\True)/\True)
theorem rNeed_q (I:Inst) (side:List Bool) (ty0 ty1 ty2:TypeId):rNeed_E0 I side ty0 ty1 ty2=z2r TT rNeed_g (rNeed_I I side) (rNeed_an I side) Tryz.f91 [.agg [.row 0,.row 1],.row 2] [(0,.row false ty0 (.ints .i64 I.sup)),(1,.row false ty1 (.arcs I.arcs)),(2,.row false ty2 (.bools side))] (rNeed_r I side):=by kernel_rfl
theorem rNeed_E (I:Inst) (side:List Bool) (ty0 ty1 ty2:TypeId) (hp:A64 I.sup/\I.sup.length <= 140737488351232):FVc TT rNeed_g (rNeed_I I side) (rNeed_an I side) Tryz.f91 [.agg [.row 0,.row 1],.row 2] [(0,.row false ty0 (.ints .i64 I.sup)),(1,.row false ty1 (.arcs I.arcs)),(2,.row false ty2 (.bools side))] (rNeed_r I side):=by
 refine FVc.of (rNeed_E0 I side ty0 ty1 ty2) (rNeed_q I side ty0 ty1 ty2) ?_
 unfold rNeed_E0
 obtain ⟨p1,p2⟩:=hp
 simp only [eq_self,exists_const,forall_const,ne_eq,Int.toNat_natCast,zSS,z07]
 have hc:∀ g:Nat,g<I.sup.length->(isN (I.sup.length:Int) (g:Int) && onF side (g:Int))=side.getD g false:=fun g hg=>by simp [isN,onF_nat,show (g:Int)<(I.sup.length:Int) by omega]
 refine ⟨0,⟨Nat.zero_le _,rfl,by simp only [z5b]; decide,by simp only [z5b]; decide⟩,fun g hg=>⟨fun h1=>?_,fun h1=>?_⟩⟩
 ·have wk:IntKind.i64.wrap ((g:Int)+1)=((g+1:Nat):Int):=by rw [w64 (by omega) (by omega)]; omega
  rw [hc g (by omega)]
  refine ⟨fun h2=>⟨by omega,by omega,fun x hx=>⟨p1 x (List.mem_of_getElem? hx),⟨zey _,zey _⟩,g+1,by omega,by omega,wk,?_⟩⟩,fun h2=>⟨g+1,by omega,by omega,wk,?_⟩⟩
  ·have hd:I.sup.getD g 0=x:=by simp [List.getD,hx]
   simp only [z5b,hd,h2,if_true,zcw,and_self]
  ·simp only [z5b,h2,if_false,Int.add_zero,Bool.false_eq_true,and_self]
 ·have:g=I.sup.length:=by omega
  subst this
  exact ⟨rfl,rfl⟩
theorem rNeed_ok:SpecOk Tryz.prog rNeed_n true (z03 true rNeed_fs) :=
 z0b z0r (show z1c Tryz.prog rNeed_g from z00 ron_ok (z00 z8o (z00 rOf_ok (z05)))) (by kernel_rfl) mixedOrders Tryz.func91 rfl rfl (by kernel_rfl) (n:=2) (by decide +kernel) (I:=rNeed_IA) (fun _ _=>z06) (A:=rNeed_A)
  (fun args h r hr=>by
   unfold rNeed_fs at hr
   split at hr
   ·rename_i ty0 I_s ty1 I_a ty2 side; cases hr; refine ⟨rfl,fun hp=>?_⟩; have hE:=rNeed_E ⟨I_s,I_a⟩ side ty0 ty1 ty2 hp; exact hE
   ·cases hr)
def zg7 (I : Inst) (side : List Bool) (ty0 ty1 ty2 : TypeId) : Prop :=
      True /\
 ((z02 I != (0:Int))=true->(z02 I=z32 I side/\True)/\True) /\
 ((z02 I != (0:Int))=false ->
 (((↑side.length:Int) != (↑I.sup.length:Int))=true->((30:Int)=z32 I side/\True)/\True) /\
 (((↑side.length:Int) != (↑I.sup.length:Int))=false ->
 (A64a I.arcs/\I.arcs.length <= (140737488351232:Nat)) /\
 ((!(z50 I side).isSome)=true->((34:Int)=z32 I side/\True)/\True) /\
 ((!(z50 I side).isSome)=false ->
 (A64 I.sup/\I.sup.length <= (140737488351232:Nat)) /\
 ((W (zdl I side)).ok/\(roomW (z50 I side)).ok) /\
 (decide (zie (W (zdl I side)) (roomW (z50 I side)) <= (0:Int))=true->((34:Int)=z32 I side/\True)/\True) /\
 (decide (zie (W (zdl I side)) (roomW (z50 I side)) <= (0:Int))=false->((0:Int)=z32 I side/\True)/\True))))
theorem rProves_q (I:Inst) (side:List Bool) (ty0 ty1 ty2:TypeId):zg7 I side ty0 ty1 ty2=z2r TT zlw (rProves_I I side) (rProves_an I side) Tryz.f55 [.agg [.row 0,.row 1],.row 2] [(0,.row false ty0 (.ints .i64 I.sup)),(1,.row false ty1 (.arcs I.arcs)),(2,.row false ty2 (.bools side))] (zlx I side):=by kernel_rfl
theorem rProves_E (I:Inst) (side:List Bool) (ty0 ty1 ty2:TypeId) (hp:A64a I.arcs/\I.arcs.length <= 140737488351232/\A64 I.sup/\I.sup.length <= 140737488351232):FVc TT zlw (rProves_I I side) (rProves_an I side) Tryz.f55 [.agg [.row 0,.row 1],.row 2] [(0,.row false ty0 (.ints .i64 I.sup)),(1,.row false ty1 (.arcs I.arcs)),(2,.row false ty2 (.bools side))] (zlx I side):=by
 refine FVc.of (zg7 I side ty0 ty1 ty2) (rProves_q I side ty0 ty1 ty2) ?_
 unfold zg7
 obtain ⟨p1,p2,p3,p4⟩:=hp
 simp only [eq_self,exists_const,forall_const,ne_eq,Int.toNat_natCast,zSS,z07]
 unfold z32
 refine ⟨fun h=>?_,fun h=>⟨fun h2=>?_,fun h2=>⟨⟨p1,p2⟩,fun h3=>?_,fun h3=>?_⟩⟩⟩
 ·simp [h]
 ·simp [h,show side.length ≠ I.sup.length by omega]
 ·simp only [h,ne_eq,not_true,if_false,show side.length=I.sup.length by omega]
  cases hr:z50 I side with
  | none=>simp
  | some s=>rw [hr] at h3; cases h3
 ·cases hr:z50 I side with
  | none=>rw [hr] at h3; cases h3
  | some s =>
   simp only [h,ne_eq,not_true,if_false,show side.length=I.sup.length by omega,roomW]
   refine ⟨⟨p3,p4⟩,⟨zey _,zey _⟩,fun h4=>?_,fun h4=>?_⟩
   ·simp [h4]
   ·simp [h4]
theorem rProves_ok:SpecOk Tryz.prog rProves_n true (z03 true zg8) :=
 z0b z0r (show z1c Tryz.prog zlw from z00 z7q (z00 rCRoom_ok (z00 rNeed_ok (z00 zc5 (z05))))) (by kernel_rfl) mixedOrders Tryz.func55 rfl rfl (by kernel_rfl) (n:=2) (by decide +kernel) (I:=rProves_IA) (fun _ _=>z06) (A:=rProves_A)
  (fun args h r hr=>by
   unfold zg8 at hr
   split at hr
   ·rename_i ty0 I_s ty1 I_a ty2 side; cases hr; refine ⟨rfl,fun hp=>?_⟩; have hE:=rProves_E ⟨I_s,I_a⟩ side ty0 ty1 ty2 hp; exact hE
   ·cases hr)
def Bools_E0 (xs : List Bool) (ys : List Bool) (ty0 ty1 : TypeId) : Prop :=
      (((↑xs.length:Int) != (↑ys.length:Int))=true->(false=decide (xs=ys)/\True)/\True) /\
 (((↑xs.length:Int) != (↑ys.length:Int))=false ->
 ∃ (g0:Nat),
 ((g0 <= xs.length/\List.take g0 xs=List.take g0 ys)/\(True/\True/\(0:Int)=(↑g0:Int)/\True)/\xs=xs/\ys=ys/\True) /\
 ∀ (g:Nat),
 g <= xs.length/\List.take g xs=List.take g ys ->
 (decide ((↑g:Int)<(↑xs.length:Int))=true ->
 ((0:Int) <= (↑g:Int)/\(↑g:Int)<(↑xs.length:Int)) /\
 (↑g:Int).toNat<xs.length /\
 ∀ (x:Bool),
 xs[(↑g:Int).toNat]? = some x ->
 ((0:Int) <= (↑g:Int)/\(↑g:Int)<(↑ys.length:Int)) /\
 (↑g:Int).toNat<ys.length /\
 ∀ (x_1:Bool),
 ys[(↑g:Int).toNat]? = some x_1 ->
 ((!x == x_1)=true->(false=decide (xs=ys)/\True)/\True) /\
 ((!x == x_1)=false ->
 ∃ (g':Nat),
 (g' <= xs.length/\List.take g' xs=List.take g' ys) /\
 xs.length - g'<xs.length - g /\
 (True/\True/\IntKind.i64.wrap ((↑g:Int)+(1:Int))=(↑g':Int)/\True)/\xs=xs/\ys=ys/\True)) /\
 (decide ((↑g:Int)<(↑xs.length:Int))=false->(true=decide (xs=ys)/\True)/\True))
theorem Bools_q (xs:List Bool) (ys:List Bool) (ty0 ty1:TypeId):Bools_E0 xs ys ty0 ty1=z2r TT Bools_g (Bools_I xs ys) (Bools_an xs ys) Tryz.f79 [.row 0,.row 1] [(0,.row false ty0 (.bools xs)),(1,.row false ty1 (.bools ys))] (Bools_r xs ys):=by kernel_rfl
theorem Bools_E (xs:List Bool) (ys:List Bool) (ty0 ty1:TypeId) (hp:xs.length <= 1000000000):FVc TT Bools_g (Bools_I xs ys) (Bools_an xs ys) Tryz.f79 [.row 0,.row 1] [(0,.row false ty0 (.bools xs)),(1,.row false ty1 (.bools ys))] (Bools_r xs ys):=by
 refine FVc.of (Bools_E0 xs ys ty0 ty1) (Bools_q xs ys ty0 ty1) ?_
 unfold Bools_E0
 simp only [eq_self,exists_const,forall_const,ne_eq,Int.toNat_natCast,zSS,z07]
 refine ⟨fun h=>?_,fun h1=>⟨0,by simp,fun k hk=>⟨fun h2=>⟨by omega,by omega,fun x hx=>⟨by omega,by omega,fun y hy=>?_⟩⟩,fun h2=>?_⟩⟩⟩
 ·exact (decide_eq_false (fun e=>h (by rw [e]))).symm
 ·refine ⟨fun h3=>(decide_eq_false (fun e=>?_)).symm,fun h3=>⟨k+1,⟨by omega,?_⟩,by omega,w64 (by omega) (by omega)⟩⟩
  ·subst e; rw [hx] at hy; cases hy; exact h3 rfl
  ·rw [z1b hx,z1b hy,hk.2,h3]
 ·have h3:=hk.2
  rw [List.take_of_length_le (by omega),List.take_of_length_le (by omega)] at h3
  exact (decide_eq_true h3).symm
theorem Bools_ok:SpecOk Tryz.prog Bools_n true (z03 true Bools_fs) :=
 z0b z0r (show z1c Tryz.prog Bools_g from z05) (by kernel_rfl) mixedOrders Tryz.func79 rfl rfl (by kernel_rfl) (n:=2) (by decide +kernel) (I:=Bools_IA) (fun _ _=>z06) (A:=Bools_A)
  (fun args h r hr=>by
   unfold Bools_fs at hr
   split at hr
   ·rename_i ty0 xs ty1 ys; cases hr; refine ⟨rfl,fun hp=>?_⟩; have hE:=Bools_E xs ys ty0 ty1 hp; exact hE
   ·cases hr)
end Go.Proofs.YtggblkbecekbdaaGreat
end
