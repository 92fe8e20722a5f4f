/- Part of the proof: FU20, DV20, FV20, DW20, FW20, DX20, FX20, DY20, FY20, Maxi3. -/
import Derived.Test.YtapeenpimcffpaaGreatZG13
import Derived.Test.YtapeenpimcffpaaGreatZG15
import Derived.Test.YtapeenpimcffpaaGreatZG5
import Derived.Test.YtapeenpimcffpaaGreatZG11
import Derived.Test.YtapeenpimcffpaaGreatZG7
import Derived.Test.YtapeenpimcffpaaGreatZG12
import Derived.Test.YtapeenpimcffpaaGreatZG6
set_option linter.unusedVariables false
set_option linter.all false
set_option linter.unusedSimpArgs false
set_option maxRecDepth 1000000
section
namespace Go.Proofs.YtapeenpimcffpaaGreat
open Go Go.RowKit Go.Ql Go.Vc
def idx20_E0 (l : List Bool) (v : Bool) (ty0 : TypeId) : Prop :=
      ∃ (g0:Nat),
 ((g0 <= l.length/\¬v ∈ List.take g0 l)/\(True/\v=v/\(↑l.length:Int)=(↑l.length:Int)/\(0:Int)=(↑g0:Int)/\True)/\l=l/\True) /\
 ∀ (g:Nat),
 g <= l.length/\¬v ∈ List.take g l ->
 (decide ((↑g:Int)<(↑l.length:Int))=true ->
 ((0:Int) <= (↑g:Int)/\(↑g:Int)<(↑l.length:Int)) /\
 (↑g:Int).toNat<l.length /\
 ∀ (x:Bool),
 l[(↑g:Int).toNat]? = some x ->
 ((v == x)=true->((↑g:Int)=idxB l v/\True)/\True) /\
 ((v == x)=false ->
 ∃ (g':Nat),
 (g' <= l.length/\¬v ∈ List.take g' l) /\
 l.length - g'<l.length - g /\
 (True/\v=v/\(↑l.length:Int)=(↑l.length:Int)/\IntKind.i64.wrap ((↑g:Int)+(1:Int))=(↑g':Int)/\True)/\l=l/\True)) /\
 (decide ((↑g:Int)<(↑l.length:Int))=false->((-1:Int)=idxB l v/\True)/\True)
theorem idx20_q (l:List Bool) (v:Bool) (ty0:TypeId):idx20_E0 l v ty0=z2d TT idx20_g (idx20_I l v) (idx20_an l v) Tryz.f112 [.row 0,.bool v] [(0,.row false ty0 (.bools l))] (idx20_r l v):=by kernel_rfl
theorem idx20_E (l:List Bool) (v:Bool) (ty0:TypeId) (hp:l.length <= 1000000):FVc TT idx20_g (idx20_I l v) (idx20_an l v) Tryz.f112 [.row 0,.bool v] [(0,.row false ty0 (.bools l))] (idx20_r l v):=by
 refine FVc.of (idx20_E0 l v ty0) (idx20_q l v ty0) ?_
 unfold idx20_E0
 simp only [eq_self,exists_const,forall_const,ne_eq,Int.toNat_natCast,zSS,z06]
 refine ⟨0,⟨⟨Nat.zero_le _,by simp⟩,rfl⟩,fun k hk=>⟨fun h1=>⟨by omega,by omega,fun x hx=>⟨fun h2=>?_,fun h2=>⟨k+1,⟨by omega,?_⟩,by omega,by rw [w64 (by omega) (by omega)]; omega⟩⟩⟩,fun h1=>?_⟩⟩
 ·subst h2
  unfold idxB
  have hm:=List.mem_of_getElem? hx
  rw [if_pos hm]
  have hk2:=(List.getElem?_eq_some_iff.1 hx).1
  have hf:l.findIdx (· == v)=k:=by
   rw [List.findIdx_eq hk2]
   refine ⟨by simp [(List.getElem?_eq_some_iff.1 hx).2],fun j hj=>?_⟩
   rw [Bool.eq_false_iff]
   intro h3
   rw [beq_iff_eq] at h3
   exact hk.2 (List.mem_take_iff_getElem.2 ⟨j,by omega,h3⟩)
  rw [hf]
 ·rw [z1i hx,List.mem_append]
  rintro (h3 | h3)
  ·exact hk.2 h3
  ·exact h2 (by simpa using h3)
 ·unfold idxB
  rw [List.take_of_length_le (by omega)] at hk
  rw [if_neg hk.2]
theorem idx20_ok:SpecOk Tryz.prog idx20_n true (z02 true idx20_fs) :=
 z0a z0h (show z14 Tryz.prog idx20_g from z04) (by kernel_rfl) mixedOrders Tryz.func112 rfl rfl (by kernel_rfl) (n:=2) (by decide +kernel) (I:=idx20_IA) (fun _ _=>z07) (A:=idx20_A)
  (fun args h r hr=>by
   unfold idx20_fs at hr
   split at hr
   ·rename_i v ty0 l; cases hr; refine ⟨rfl,fun hp=>?_⟩; have hE:=idx20_E l v ty0 hp; exact hE
   ·cases hr)
def z8a (l : List Bool) (v : Bool) (ty0 : TypeId) : Prop :=
   l.length <= (1000000:Nat)/\(decide (idxB l v ≥ (0:Int))=l.contains v/\True)/\True
theorem contains20_q (l:List Bool) (v:Bool) (ty0:TypeId):z8a l v ty0=z2d TT z9b (zgz l v) (zd1 l v) Tryz.f84 [.row 0,.bool v] [(0,.row false ty0 (.bools l))] (z9c l v):=by kernel_rfl
theorem contains20_E (l:List Bool) (v:Bool) (ty0:TypeId) (hp:l.length <= 1000000):FVc TT z9b (zgz l v) (zd1 l v) Tryz.f84 [.row 0,.bool v] [(0,.row false ty0 (.bools l))] (z9c l v):=by
 refine FVc.of (z8a l v ty0) (contains20_q l v ty0) ?_
 unfold z8a
 simp only [eq_self,exists_const,forall_const,ne_eq,Int.toNat_natCast,zSS,z06]
 refine ⟨hp,?_⟩
 unfold idxB
 by_cases h:v ∈ l
 ·rw [if_pos h,List.contains_iff_mem.2 h]
  exact decide_eq_true (by omega)
 ·rw [if_neg h]
  have:l.contains v=false:=by rw [Bool.eq_false_iff]; exact fun h2=>h (List.contains_iff_mem.1 h2)
  rw [this]; rfl
theorem contains20_ok:SpecOk Tryz.prog zh0 true (z02 true z8b) :=
 z0a z0h (show z14 Tryz.prog z9b from z00 idx20_ok (z04)) (by kernel_rfl) mixedOrders Tryz.func84 rfl rfl (by kernel_rfl) (n:=2) (by decide +kernel) (I:=contains20_IA) (fun _ _=>z07) (A:=contains20_A)
  (fun args h r hr=>by
   unfold z8b at hr
   split at hr
   ·rename_i v ty0 l; cases hr; refine ⟨rfl,fun hp=>?_⟩; have hE:=contains20_E l v ty0 hp; exact hE
   ·cases hr)
abbrev z1x:=List Bool × (Nat->Option Stp) × List Nat × List Nat × Nat × List Stp × Nat
abbrev z8s:=List Bool × (Nat->Option Stp) × List Nat × List Nat × Nat
abbrev zcp:=List Bool × (Nat->Option Stp) × Option Nat
abbrev z8t:=List Bool × (Nat->Option Stp) × List Nat
abbrev z25 (w:Inst) (w_x:List Int) (w_o:List Int) (w_t:Ql.Rows3) (w_v:List Value):=(((0:Int)=0/\(True/\True))/\((True/\(True/\(True/\(True/\(True/\True)))))/\(w.sup=w.sup/\(w.arcs=w.arcs/\(w_x=w_x/\(w_o=w_o/\((w_t=w_t/\(w_v=w_v))/\True)))))))
abbrev z0v (w:Inst) (x:List Int):=(toS w ((x.headD (0:Int)).toNat,x.tail.headD (0:Int) == (1:Int)))
abbrev z8r (g':z1x) (g0_1:z1x) (w:Inst) (w_x:List Int) (w_o:List Int):=(g'.2.2.fst=g0_1.2.2.fst/\(g'.2.2.2.2.fst=g0_1.2.2.2.2.fst/\(g'.2.2.2.2.2.fst=g0_1.2.2.2.2.2.fst/\(g'.2.2.2.2.2.snd <= g'.2.2.2.2.2.fst.length/\((LayI w w_x w_o g'.fst g'.2.fst (List.drop (g'.2.2.2.2.fst+(1:Nat)) g'.2.2.fst) g'.2.2.2.fst fun (s:Stp)=>s ∈ List.drop g'.2.2.2.2.2.snd g'.2.2.2.2.2.fst)/\(unN g'.fst+g'.2.2.2.fst.length=unN g0_1.fst+g0_1.2.2.2.fst.length/\(∀ (s:Stp),List.Mem s g'.2.2.2.2.2.fst->okS w s/\(g'.fst.getD (frS w s) false=true))))))))
abbrev zck (g:z1x) (g':z1x):=(0=0/\(0=0/\(True/\(True/\(0=0/\(True/\(True/\((↑g.2.2.1.length:Int)=↑g'.2.2.1.length/\((↑g.2.2.2.2.1:Int)=↑g'.2.2.2.2.1/\(True/\((↑g.2.2.2.2.2.1.length:Int)=↑g'.2.2.2.2.2.1.length/\(IntKind.i64.wrap ((↑g.2.2.2.2.2.2:Int)+(1:Int))=(↑g'.2.2.2.2.2.2:Int)/\True))))))))))))
abbrev zcl (g':z1x) (g:z1x) (w:Inst) (w_x:List Int) (w_o:List Int) (w_t:Ql.Rows3) (w_v:List Value):=(g'.2.2.2.2.2.fst.length - g'.2.2.2.2.2.snd<g.2.2.2.2.2.fst.length - g.2.2.2.2.2.snd/\((zck g g')/\(List.map z64 g.2.2.2.2.2.1=List.map z64 g'.2.2.2.2.2.1/\(z3w g.2.2.2.1=z3w g'.2.2.2.1/\(z3w g.2.2.1=z3w g'.2.2.1/\(((0:Int)=0/\(True/\True))/\(z0j w.sup.length g.2.1=z0j w.sup.length g'.2.1/\(g.1=g'.1/\(z25 w w_x w_o w_t w_v)))))))))
abbrev zcm (w_o:List Int) (g:Nat) (g':Nat):=(0=0/\(0=0/\(True/\(True/\(0=0/\(True/\(True/\((↑w_o.length:Int)=↑w_o.length/\(IntKind.i64.wrap ((↑g:Int)+(1:Int))=(↑g':Int)/\True)))))))))
def zcj (w : Inst) (w_x : List Int) (w_o : List Int) (w_t : Ql.Rows3) (w_v : List Value) (ty1 ty2 ty3 ty4 ty5 tz5 : TypeId) : Prop :=
   ((↑w.sup.length:Int)=↑w.sup.length/\((0:Int) <= ↑w.sup.length/\((↑w.sup.length:Int) <= 1000000000)))/\((↑w.sup.length:Int)=↑w.sup.length/\((0:Int) <= ↑w.sup.length/\((↑w.sup.length:Int) <= 1000000000)))/\∃ (g0:Nat),(g0 <= w.sup.length/\((0=0/\(0=0/\(True/\(True/\(0=0/\(True/\(True/\((↑w_o.length:Int)=↑w_o.length/\((0:Int)=↑g0/\True)))))))))/\([]=z3w (layK w_o g0)/\(((0:Int)=0/\(True/\True))/\((List.replicate (↑w.sup.length:Int).toNat (zs0 (z80 (MK.int IntKind.i64) [MK.bool,MK.bool]))=z0j w.sup.length fun (x:Nat)=>none)/\(List.replicate (↑w.sup.length:Int).toNat false=zhn w_o w.sup.length g0/\(z25 w w_x w_o w_t w_v)))))))/\∀ (g:Nat),g <= w.sup.length->(decide ((↑g:Int)<↑w_o.length)=true->((0:Int) <= ↑g/\((↑g:Int)<↑w_o.length))/\((↑g:Int).toNat<w_o.length/\(∀ (x:Int),w_o[(↑g:Int).toNat]? = some x->(decide (x > (0:Int))=true->((0:Int) <= ↑g/\((↑g:Int)<↑(zhn w_o w.sup.length g).length))/\((↑g:Int).toNat<(zhn w_o w.sup.length g).length/\((z3w (layK w_o g)).length+(1:Nat) <= 1000000000/\(∃ (g':Nat),g' <= w.sup.length/\(w.sup.length - g'<w.sup.length - g/\((zcm w_o g g')/\(z3w (layK w_o g) ++ [(↑g:Int)]=z3w (layK w_o g')/\(((0:Int)=0/\(True/\True))/\(((z0j w.sup.length fun (x:Nat)=>none)=z0j w.sup.length fun (x:Nat)=>none)/\((zhn w_o w.sup.length g).set (↑g:Int).toNat true=zhn w_o w.sup.length g'/\(z25 w w_x w_o w_t w_v)))))))))))/\(decide (x > (0:Int))=false->∃ (g':Nat),g' <= w.sup.length/\(w.sup.length - g'<w.sup.length - g/\((zcm w_o g g')/\(z3w (layK w_o g)=z3w (layK w_o g')/\(((0:Int)=0/\(True/\True))/\(((z0j w.sup.length fun (x:Nat)=>none)=z0j w.sup.length fun (x:Nat)=>none)/\(zhn w_o w.sup.length g=zhn w_o w.sup.length g'/\(z25 w w_x w_o w_t w_v)))))))))))/\(decide ((↑g:Int)<↑w_o.length)=false->∃ (g0:z8t),(((LayI w w_x w_o g0.fst g0.2.fst g0.2.snd [] fun (x:Stp)=>False)/\(g0.2.snd.length <= w.sup.length))/\((0=0/\(0=0/\(True/\(True/\(0=0/\(True/\True))))))/\(z3w (layK w_o g)=z3w g0.2.2/\(((0:Int)=0/\(True/\True))/\((z0j w.sup.length fun (x:Nat)=>none)=z0j w.sup.length g0.2.1/\(zhn w_o w.sup.length g=g0.1/\(z25 w w_x w_o w_t w_v)))))))/\∀ (g:z8t),(LayI w w_x w_o g.fst g.2.fst g.2.snd [] fun (x:Stp)=>False)/\g.2.snd.length <= w.sup.length->(decide ((↑(z3w g.2.2).length:Int) > 0)=true->∃ (g0:z8s),((g0.2.2.fst=g0.2.2.fst/\(g0.2.2.2.snd <= g0.2.2.fst.length/\((LayI w w_x w_o g0.fst g0.2.fst (List.drop g0.2.2.2.snd g0.2.2.fst) g0.2.2.2.fst fun (x:Stp)=>False)/\(unN g0.fst+g0.2.2.2.fst.length=unN g0.fst+g0.2.2.2.fst.length))))/\((0=0/\(0=0/\(True/\(True/\(0=0/\(True/\(True/\((↑(z3w g.2.2).length:Int)=↑g0.2.2.1.length/\((0:Int)=↑g0.2.2.2.2/\True)))))))))/\([]=z3w g0.2.2.2.1/\(z3w g.2.2=z3w g0.2.2.1/\(((0:Int)=0/\(True/\True))/\(z0j w.sup.length g.2.1=z0j w.sup.length g0.2.1/\(g.1=g0.1/\(z25 w w_x w_o w_t w_v))))))))/\∀ (g_1:z8s),g_1.2.2.fst=g0.2.2.fst/\g_1.2.2.2.snd <= g_1.2.2.fst.length/\(LayI w w_x w_o g_1.fst g_1.2.fst (List.drop g_1.2.2.2.snd g_1.2.2.fst) g_1.2.2.2.fst fun (x:Stp)=>False)/\unN g_1.fst+g_1.2.2.2.fst.length=unN g0.fst+g0.2.2.2.fst.length->(decide ((↑g_1.2.2.2.2:Int)<↑g_1.2.2.1.length)=true->((0:Int) <= ↑g_1.2.2.2.2/\((↑g_1.2.2.2.2:Int)<↑(z3w g_1.2.2.1).length))/\(↑g_1.2.2.2.2:Int).toNat<(z3w g_1.2.2.1).length/\∀ (x:Int),(z3w g_1.2.2.1)[(↑g_1.2.2.2.2:Int).toNat]? = some x->((0:Int) <= x/\(x<(↑(DK.recs (MK.int IntKind.i64) [MK.bool] w_t).len:Int)))/\x.toNat<List.length w_t/\∀ (x_1:List (List Int)),w_t[x.toNat]? = some x_1->∃ (g0_1:z1x),((g0_1.2.2.fst=g0_1.2.2.fst/\(g0_1.2.2.2.2.fst=g0_1.2.2.2.2.fst/\(g0_1.2.2.2.2.2.fst=g0_1.2.2.2.2.2.fst/\(g0_1.2.2.2.2.2.snd <= g0_1.2.2.2.2.2.fst.length/\((LayI w w_x w_o g0_1.fst g0_1.2.fst (List.drop (g0_1.2.2.2.2.fst+(1:Nat)) g0_1.2.2.fst) g0_1.2.2.2.fst fun (s:Stp)=>s ∈ List.drop g0_1.2.2.2.2.2.snd g0_1.2.2.2.2.2.fst)/\(unN g0_1.fst+g0_1.2.2.2.fst.length=unN g0_1.fst+g0_1.2.2.2.fst.length/\(∀ (s:Stp),List.Mem s g0_1.2.2.2.2.2.fst->okS w s/\(g0_1.fst.getD (frS w s) false=true))))))))/\((0=0/\(0=0/\(True/\(True/\(0=0/\(True/\(True/\((↑g_1.2.2.1.length:Int)=↑g0_1.2.2.1.length/\((↑g_1.2.2.2.2:Int)=↑g0_1.2.2.2.2.1/\(True/\((↑x_1.length:Int)=↑g0_1.2.2.2.2.2.1.length/\((0:Int)=↑g0_1.2.2.2.2.2.2/\True))))))))))))/\(x_1=List.map z64 g0_1.2.2.2.2.2.1/\(z3w g_1.2.2.2.1=z3w g0_1.2.2.2.1/\(z3w g_1.2.2.1=z3w g0_1.2.2.1/\(((0:Int)=0/\(True/\True))/\(z0j w.sup.length g_1.2.1=z0j w.sup.length g0_1.2.1/\(g_1.1=g0_1.1/\(z25 w w_x w_o w_t w_v)))))))))/\∀ (g:z1x),(g.2.2.fst=g0_1.2.2.fst/\(g.2.2.2.2.fst=g0_1.2.2.2.2.fst/\(g.2.2.2.2.2.fst=g0_1.2.2.2.2.2.fst/\(g.2.2.2.2.2.snd <= g.2.2.2.2.2.fst.length/\((LayI w w_x w_o g.fst g.2.fst (List.drop (g.2.2.2.2.fst+(1:Nat)) g.2.2.fst) g.2.2.2.fst fun (s:Stp)=>s ∈ List.drop g.2.2.2.2.2.snd g.2.2.2.2.2.fst)/\(unN g.fst+g.2.2.2.fst.length=unN g0_1.fst+g0_1.2.2.2.fst.length/\(∀ (s:Stp),List.Mem s g.2.2.2.2.2.fst->okS w s/\(g.fst.getD (frS w s) false=true))))))))->(decide ((↑g.2.2.2.2.2.2:Int)<↑g.2.2.2.2.2.1.length)=true->((0:Int) <= ↑g.2.2.2.2.2.2/\((↑g.2.2.2.2.2.2:Int)<↑(List.map z64 g.2.2.2.2.2.1).length))/\(↑g.2.2.2.2.2.2:Int).toNat<(List.map z64 g.2.2.2.2.2.1).length/\∀ (x:List Int),(List.map z64 g.2.2.2.2.2.1)[(↑g.2.2.2.2.2.2:Int).toNat]? = some x->z1o w (x.headD (0:Int))/\((0:Int) <= ↑(z0v w x)/\((↑(z0v w x):Int)<↑g.1.length))/\(↑(z0v w x):Int).toNat<g.1.length/\∀ (x_2:Bool),g.1[(↑(z0v w x):Int).toNat]? = some x_2->(x_2=true->∃ (g':z1x),(z8r g' g0_1 w w_x w_o)/\(zcl g' g w w_x w_o w_t w_v))/\(x_2=false->(z1o w (x.headD (0:Int))/\(w_x.length=w.arcs.length/\(XB w_x)))/\((rmS w w_x ((x.headD (0:Int)).toNat,x.tail.headD (0:Int) == (1:Int)) == (0:Int))=true->∃ (g':z1x),(z8r g' g0_1 w w_x w_o)/\(zcl g' g w w_x w_o w_t w_v))/\((rmS w w_x ((x.headD (0:Int)).toNat,x.tail.headD (0:Int) == (1:Int)) == (0:Int))=false->((0:Int) <= ↑(z0v w x)/\((↑(z0v w x):Int)<↑g.1.length))/\(↑(z0v w x):Int).toNat<g.1.length/\((0:Int) <= ↑(z0v w x)/\((↑(z0v w x):Int)<↑(z0j w.sup.length g.2.1).length))/\(↑(z0v w x):Int).toNat<(z0j w.sup.length g.2.1).length/\((0:Int) <= ↑(z0v w x)/\((↑(z0v w x):Int)<↑w_o.length))/\(↑(z0v w x):Int).toNat<w_o.length/\∀ (x_3:Int),w_o[(↑(z0v w x):Int).toNat]? = some x_3->(decide (x_3<(0:Int))=true->∃ (g_2:zcp),SearchP w w_x w_o g_2.1 g_2.2.1 g_2.2.2/\(((True/\(True/\(((↑(z0v w x):Int)=↑(g_2.2.2.getD (0:Nat))/\(true=g_2.2.2.isSome/\True))/\True)))/\True)/\(g.1.set (↑(z0v w x):Int).toNat true=g_2.1/\((z0j w.sup.length g.2.1).set (↑(z0v w x):Int).toNat [x.headD (0:Int),bif x.tail.headD (0:Int) == (1:Int) then (1:Int) else (0:Int),bif true then (1:Int) else (0:Int)]=z0j w.sup.length g_2.2.1/\True))))/\(decide (x_3<(0:Int))=false->(z3w g.2.2.2.1).length+(1:Nat) <= 1000000000/\(∃ (g':z1x),(z8r g' g0_1 w w_x w_o)/\(g'.2.2.2.2.2.fst.length - g'.2.2.2.2.2.snd<g.2.2.2.2.2.fst.length - g.2.2.2.2.2.snd/\((zck g g')/\(List.map z64 g.2.2.2.2.2.1=List.map z64 g'.2.2.2.2.2.1/\(z3w g.2.2.2.1 ++ [(↑(z0v w x):Int)]=z3w g'.2.2.2.1/\(z3w g.2.2.1=z3w g'.2.2.1/\(((0:Int)=0/\(True/\True))/\((z0j w.sup.length g.2.1).set (↑(z0v w x):Int).toNat [x.headD (0:Int),bif x.tail.headD (0:Int) == (1:Int) then (1:Int) else (0:Int),bif true then (1:Int) else (0:Int)]=z0j w.sup.length g'.2.1/\(g.1.set (↑(z0v w x):Int).toNat true=g'.1/\(z25 w w_x w_o w_t w_v))))))))))))))/\(decide ((↑g.2.2.2.2.2.2:Int)<↑g.2.2.2.2.2.1.length)=false->∃ (g':z8s),(g'.2.2.fst=g0.2.2.fst/\(g'.2.2.2.snd <= g'.2.2.fst.length/\((LayI w w_x w_o g'.fst g'.2.fst (List.drop g'.2.2.2.snd g'.2.2.fst) g'.2.2.2.fst fun (x:Stp)=>False)/\(unN g'.fst+g'.2.2.2.fst.length=unN g0.fst+g0.2.2.2.fst.length))))/\(g'.2.2.fst.length - g'.2.2.2.snd<g_1.2.2.fst.length - g_1.2.2.2.snd/\((0=0/\(0=0/\(True/\(True/\(0=0/\(True/\(True/\((↑g.2.2.1.length:Int)=↑g'.2.2.1.length/\(IntKind.i64.wrap ((↑g.2.2.2.2.1:Int)+(1:Int))=(↑g'.2.2.2.2:Int)/\True)))))))))/\(z3w g.2.2.2.1=z3w g'.2.2.2.1/\(z3w g.2.2.1=z3w g'.2.2.1/\(((0:Int)=0/\(True/\True))/\(z0j w.sup.length g.2.1=z0j w.sup.length g'.2.1/\(g.1=g'.1/\(z25 w w_x w_o w_t w_v))))))))))/\(decide ((↑g_1.2.2.2.2:Int)<↑g_1.2.2.1.length)=false->∃ (g':z8t),((LayI w w_x w_o g'.fst g'.2.fst g'.2.snd [] fun (x:Stp)=>False)/\(g'.2.snd.length <= w.sup.length))/\((2:Nat) * unN g'.fst+g'.2.snd.length.min (1:Nat)<(2:Nat) * unN g.fst+g.2.snd.length.min (1:Nat)/\((0=0/\(0=0/\(True/\(True/\(0=0/\(True/\True))))))/\(z3w g_1.2.2.2.1=z3w g'.2.2/\(((0:Int)=0/\(True/\True))/\(z0j w.sup.length g_1.2.1=z0j w.sup.length g'.2.1/\(g_1.1=g'.1/\(z25 w w_x w_o w_t w_v)))))))))/\(decide ((↑(z3w g.2.2).length:Int) > 0)=false->∃ (g_1:zcp),SearchP w w_x w_o g_1.1 g_1.2.1 g_1.2.2/\(((True/\(True/\(((0:Int)=↑(g_1.2.2.getD (0:Nat))/\(false=g_1.2.2.isSome/\True))/\True)))/\True)/\(g.1=g_1.1/\(z0j w.sup.length g.2.1=z0j w.sup.length g_1.2.1/\True)))))
theorem search20_q (w:Inst) (w_x:List Int) (w_o:List Int) (w_t:Ql.Rows3) (w_v:List Value) (ty1 ty2 ty3 ty4 ty5 tz5:TypeId):zcj w w_x w_o w_t w_v ty1 ty2 ty3 ty4 ty5 tz5=zb3 TT zgl (search20_I w w_x w_o w_t w_v) (zcn w w_x w_o w_t w_v) Tryz.f82 [.ptr 0 0 0 0] [(0,.box false 88 [.row 1,.row 2,.row 3,.row 4,.row 5]),(1,.row false ty1 (.ints .i64 w.sup)),(2,.row false ty2 (.arcs w.arcs)),(3,.row false ty3 (.ints .i64 w_x)),(4,.row false ty4 (.ints .i64 w_o)),(5,.deep false ty5 tz5 (.recs (.int .i64) [.bool] w_t) w_v none)] (zgm w w_x w_o w_t w_v):=by kernel_rfl
theorem search20_E (w:Inst) (w_x:List Int) (w_o:List Int) (w_t:Ql.Rows3) (w_v:List Value) (ty1 ty2 ty3 ty4 ty5 tz5:TypeId) (hp:z05 w=0/\w_x.length=w.arcs.length/\w_o.length=w.sup.length/\XB w_x/\Betw w w_x/\AtOk w w_t):FVcR TT zgl (search20_I w w_x w_o w_t w_v) (zcn w w_x w_o w_t w_v) Tryz.f82 [.ptr 0 0 0 0] [(0,.box false 88 [.row 1,.row 2,.row 3,.row 4,.row 5]),(1,.row false ty1 (.ints .i64 w.sup)),(2,.row false ty2 (.arcs w.arcs)),(3,.row false ty3 (.ints .i64 w_x)),(4,.row false ty4 (.ints .i64 w_o)),(5,.deep false ty5 tz5 (.recs (.int .i64) [.bool] w_t) w_v none)] (zgm w w_x w_o w_t w_v):=by
 refine FVcR.of (zcj w w_x w_o w_t w_v ty1 ty2 ty3 ty4 ty5 tz5) (search20_q w w_x w_o w_t w_v ty1 ty2 ty3 ty4 ty5 tz5) ?_
 unfold zcj
 delta zcm zcl zck z8r z0v z25 z1x z8s zcp z8t
 obtain ⟨hr,hxl,hol,hxb,hbw,hat⟩:=hp
 have hs64:=z0d hr
 have hw:∀ j:Nat,j <= 1000000->IntKind.i64.wrap ((j:Int)+1)=((j+1:Nat):Int):=fun j hj=>by rw [w64 (by omega) (by omega)]; omega
 simp only [eq_self,exists_const,forall_const,ne_eq,Int.toNat_natCast,zSS,z06]
 simp only [metK_len,zi1,z86,List.length_set,List.length_map]
 refine ⟨by omega,by omega,0,⟨Nat.zero_le _,rfl,rfl,z99 _,metK_zero _ _⟩,fun k hk=>⟨fun h1=>⟨by omega,by omega,fun y hy=>?_⟩,fun h1=>?_⟩⟩
 ·have ey:w_o.getD k 0=y:=by rw [List.getD_eq_getElem?_getD,hy]; rfl
  have hl:=layK_le w_o k
  refine ⟨fun h2=>⟨by omega,by omega,by omega,k+1,by omega,by omega,hw k (by omega),?_,?_⟩,fun h2=>⟨k+1,by omega,by omega,hw k (by omega),?_,?_⟩⟩
  ·rw [layK_yes (by omega),natI_snoc]
  ·exact metK_yes (by omega)
  ·rw [layK_no (by omega)]
  ·exact metK_no (by omega)
 have ek:k=w.sup.length:=by omega
 subst ek
 refine ⟨(_,fun _=>none,layK w_o w.sup.length),⟨⟨LayI.begin hr hol,layK_le _ _⟩,rfl,rfl,rfl⟩,?_⟩
 rintro ⟨m,b,L⟩ ⟨hL,hLn⟩
 dsimp only at hL hLn ⊢
 have hml:=hL.i.lm
 refine ⟨fun h2=>?_,fun h2=>?_⟩
 rotate_left
 ·have eL:L=[]:=by
   cases L with
   | nil=>rfl
   | cons a l=>exact absurd (by rw [List.length_cons]; omega) h2
  subst eL
  exact ⟨(m,b,none),hL.end_ hr,⟨rfl,rfl⟩,rfl,rfl⟩
 refine ⟨(m,b,L,[],0),⟨⟨Nat.zero_le _,by rw [List.drop_zero]; exact hL⟩,⟨rfl,rfl⟩,rfl,rfl,rfl,rfl⟩,?_⟩
 rintro ⟨m1,b1,L1,X,i⟩ ⟨h3,hi,hI,hu⟩
 dsimp only at h3 hi hI hu ⊢
 subst h3
 have hun:=unN_le m
 rw [List.length_nil] at hu
 refine ⟨fun h4=>⟨by omega,by omega,fun x hx=>?_⟩,fun h4=>?_⟩
 rotate_left
 ·refine ⟨(m1,b1,X),⟨hI.next (by omega),by dsimp only; omega⟩,?_,rfl,rfl,rfl⟩
  show 2 * unN m1+min X.length 1<2 * unN m+min L1.length 1
  omega
 obtain ⟨v,hv,rfl⟩:=natI_get hx
 have hv2:=hI.l v (by rw [z47 hv]; simp)
 have hwt:w_t.length=w.sup.length:=hat.len
 refine ⟨⟨by omega,by show (v:Int)<((w_t.length:Nat):Int); omega⟩,by omega,fun q hq=>?_⟩
 obtain ⟨l,hl1,hl3,hl2⟩:=hat.at_ v hv2.1
 rw [Int.toNat_natCast,hl1] at hq
 cases hq
 obtain ⟨hN,hst⟩:=hI.node hv hl2
 refine ⟨(m1,b1,L1,X,i,l,0),⟨⟨Nat.zero_le _,hN,hst⟩,⟨rfl,rfl,by simp,rfl⟩,rfl,rfl,rfl,rfl,rfl⟩,?_⟩
 rintro ⟨m2,b2,L2,X2,i2,l2,j⟩ ⟨h5,h6,h7,hj,hJ,hu2,hst2⟩
 dsimp only at h5 h6 h7 hj hJ hu2 hst2 ⊢
 subst h5 h6 h7
 have hm2:=hJ.i.lm
 refine ⟨fun h8=>⟨by omega,by omega,fun x hx=>?_⟩,fun h8=>?_⟩
 rotate_left
 ·exact ⟨(m2,b2,L2,X2,i2+1),⟨rfl,by dsimp only; omega,hJ.close (by omega),by dsimp only; rw [List.length_nil]; omega⟩,by dsimp only; omega,⟨rfl,hw i2 (by omega)⟩,rfl,rfl,rfl,rfl⟩
 rw [List.getElem?_map] at hx
 obtain ⟨s,hs,rfl⟩:=Option.map_eq_some_iff.1 hx
 obtain ⟨hok,hfm⟩:=hst2 s (List.mem_of_getElem? hs)
 have htl:=z5s hr hok
 have e4:((z64 s).headD 0).toNat=s.1/\((z64 s).tail.headD 0 == 1)=s.2/\z1o w ((z64 s).headD 0)/\[(z64 s).headD 0,bif (z64 s).tail.headD 0 == 1 then 1 else 0,bif true then 1 else 0]=mbS (some s):=by
  obtain ⟨a,c⟩:=s
  have ha:a<w.arcs.length:=hok
  cases c <;> simp [z64,mbS,z1o,hr] <;> omega
 obtain ⟨g1,g2,g3,g4⟩:=e4
 rw [g4,g1,g2]
 rw [show ((s.1,s.2):Stp)=s from rfl]
 have hrm0:=hbw.room hr hok
 refine ⟨g3,by omega,by omega,fun c hc=>?_⟩
 have hmc:m2.getD (toS w s) false=c:=by rw [List.getD_eq_getElem?_getD,hc]; rfl
 have hmo:∀ v,m2.getD v false=true->(m2.set (toS w s) true).getD v false=true:=fun v hv=>by
  rw [zaz (by omega)]; split
  ·rfl
  ·exact hv
 refine ⟨fun h9=>⟨(m2,b2,L2,X2,i2,l2,j+1),⟨rfl,rfl,rfl,by dsimp only; omega,hJ.pass hs (.inl (by rw [hmc]; exact h9)),hu2,hst2⟩,by dsimp only; omega,⟨rfl,rfl,rfl,hw j (by omega)⟩,rfl,rfl,rfl,rfl,rfl⟩,fun h9=>⟨⟨g3,hxl,hxb⟩,fun h10=>⟨(m2,b2,L2,X2,i2,l2,j+1),⟨rfl,rfl,rfl,by dsimp only; omega,hJ.pass hs (.inr (by omega)),hu2,hst2⟩,by dsimp only; omega,⟨rfl,rfl,rfl,hw j (by omega)⟩,rfl,rfl,rfl,rfl,rfl⟩,fun h10=>⟨by omega,by omega,by omega,by omega,by omega,by omega,fun y hy=>?_⟩⟩⟩
 have eo:w_o.getD (toS w s) 0=y:=by rw [List.getD_eq_getElem?_getD,hy]; rfl
 subst h9
 refine ⟨fun h11=>⟨(_,_,some (toS w s)),hJ.i.hit hr hok hfm hmc (by omega) (by omega),⟨rfl,rfl⟩,rfl,z5j _ _ _ _⟩,fun h11=>⟨by omega,(_,_,L2,_,i2,l2,j+1),⟨rfl,rfl,rfl,by dsimp only; omega,hJ.take hr hs hok hfm hmc (by omega) (by omega),?_,fun t ht=>⟨(hst2 t ht).1,hmo _ (hst2 t ht).2⟩⟩,by dsimp only; omega,⟨rfl,rfl,rfl,hw j (by omega)⟩,rfl,(natI_snoc _ _).symm,rfl,z5j _ _ _ _,rfl⟩⟩
 have:=unN_set hc
 dsimp only
 rw [List.length_append,List.length_singleton]
 omega
theorem search20_ok:SpecOk Tryz.prog search20_n true (z0y true zco) :=
 z3r z0h (show z14 Tryz.prog zgl from z00 z8d (z00 z9w (z00 zeg (z00 zef (z04))))) (by kernel_rfl) mixedOrders Tryz.func82 rfl rfl (by kernel_rfl) (n:=1) (by decide +kernel) (I:=search20_IA) (fun _ _=>z07) (A:=search20_A)
  (fun args h r hr=>by
   unfold zco at hr
   split at hr
   ·rename_i ty1 w_s ty2 w_a ty3 w_x ty4 w_o ty5 tz5 w_t w_v; cases hr; refine ⟨rfl,fun hp=>?_⟩; have hE:=search20_E ⟨w_s,w_a⟩ w_x w_o w_t w_v ty1 ty2 ty3 ty4 ty5 tz5 hp; exact hE
   ·cases hr)
end Go.Proofs.YtapeenpimcffpaaGreat
end
section
namespace Go.Proofs.YtapeenpimcffpaaGreat
open Go Go.RowKit Go.Ql Go.Vc
def fill20_r (w:Inst) (w_x:List Int) (w_o:List Int) (w_t:Ql.Rows3) (w_v:List Value):FRel:={ pre:=z05 w=0/\FillI w w_x w_o/\AtOk w w_t,G:=(List Int) × (List Int) × (List Bool) × (Bool),post:=fun ⟨x,o,m,f⟩=>FillP w x o m f,out:=fun ⟨x,o,m,f⟩=>{ pre:=True,res:=.tup [.row 6,.bool (f)],rows:=[.row 4 (.bools (m))],eff:=[(0,.box true 88 [.row 1,.row 2,.row 3,.row 4,.row 5]),(3,.row true 2 (.ints .i64 (x))),(4,.row true 2 (.ints .i64 (o))),(5,.deep true 117 113 (.recs (.int .i64) [.bool] w_t) w_v none)] } }
def zl1:FR:=fun args h=>match args,h with
 | [.ptr 0 0 0 0],[(0,.box true 88 [.row 1,.row 2,.row 3,.row 4,.row 5]),(1,.row false ty1 (.ints .i64 w_s)),(2,.row false ty2 (.arcs w_a)),(3,.row true 2 (.ints .i64 w_x)),(4,.row true 2 (.ints .i64 w_o)),(5,.deep true 117 113 (.recs (.int .i64) [.bool] w_t) w_v none)]=>some (fill20_r ⟨w_s,w_a⟩ w_x w_o w_t w_v)
 | _,_=>none
def zl0 (w:Inst) (w_x:List Int) (w_o:List Int) (w_t:Ql.Rows3) (w_v:List Value):List (Nat × Ann):=[(1,{ G:=(List Int) × (List Int),inv:=fun ⟨x,o⟩=>⟨[(0,.ptr 0 0 0 0)],[(0,.box true 88 [.row 1,.row 2,.row 3,.row 4,.row 5]),(1,.row false 0 (.ints .i64 w.sup)),(2,.row false 0 (.arcs w.arcs)),(3,.row true 2 (.ints .i64 x)),(4,.row true 2 (.ints .i64 o)),(5,.deep true 117 113 (.recs (.int .i64) [.bool] w_t) w_v none)],7⟩,rel:=fun ⟨x0,o0⟩ ⟨x,o⟩=>FillI w x o,meas:=fun ⟨x,o⟩=>(z4n o w.sup.length).toNat }),
 (1000002,{ G:=(List Int) × (List Int) × (List Bool) × (Nat->Option Stp) × (Option Nat),inv:=fun ⟨x,o,m,b,e⟩=>⟨[(0,.ptr 0 0 0 0),(6,.ptr 9 0 0 0),(4,.row 7),(5,.row 8)],[(9,.box true 120 [.int .i64 (e.getD 0:Nat),.bool e.isSome]),(7,.row true 4 (.bools m)),(8,.row false 133 (.recs (.int .i64) [.bool,.bool] (z0j w.sup.length b))),(0,.box true 88 [.row 1,.row 2,.row 3,.row 4,.row 5]),(1,.row false 0 (.ints .i64 w.sup)),(2,.row false 0 (.arcs w.arcs)),(3,.row true 2 (.ints .i64 x)),(4,.row true 2 (.ints .i64 o)),(5,.deep true 117 113 (.recs (.int .i64) [.bool] w_t) w_v none)],10⟩,rel:=fun ⟨x0,o0,m0,b0,e0⟩ ⟨x,o,m,b,e⟩=>FillI w x o/\SearchP w x o m b e,meas:=fun ⟨x,o,m,b,e⟩=>0,link:=true })]
def fill20_A:List SV->z0e->List (Nat × Ann):=fun args h=>match args,h with
 | [.ptr 0 0 0 0],[(0,.box true 88 [.row 1,.row 2,.row 3,.row 4,.row 5]),(1,.row false ty1 (.ints .i64 w_s)),(2,.row false ty2 (.arcs w_a)),(3,.row true 2 (.ints .i64 w_x)),(4,.row true 2 (.ints .i64 w_o)),(5,.deep true 117 113 (.recs (.int .i64) [.bool] w_t) w_v none)]=>zl0 ⟨w_s,w_a⟩ w_x w_o w_t w_v
 | _,_=>[]
def fill20_g:z0c:=[(search20_n,(true,z0y true zco)),(zji,(false,z02 false zaf)),(zh0,(true,z02 true z8b))]
abbrev fill20_n:Nat:=45
def fill20_I (w:Inst) (w_x:List Int) (w_o:List Int) (w_t:Ql.Rows3) (w_v:List Value):List (Nat × z09):=[]
def fill20_IA:List SV->z0e->List (Nat × z09):=fun _ _=>[]
def zkz (w : Inst) (w_x : List Int) (w_o : List Int) (w_t : Ql.Rows3) (w_v : List Value) (ty1 ty2 : TypeId) : Prop :=
      ∃ (g0:List Int × List Int),
 (FillI w g0.fst g0.snd /\
 ((0:Nat)=(0:Nat)/\True) /\
 (True/\True/\True/\True/\True/\True)/\w.sup=w.sup/\w.arcs=w.arcs/\w_x=g0.1/\w_o=g0.2/\(w_t=w_t/\w_v=w_v/\(none:Option Nat)=none)/\True) /\
 ∀ (g:List Int × List Int),
 FillI w g.fst g.snd ->
 ∃ (Q:List Int × List Int × List Bool × (Nat->Option Stp) × Option Nat->Prop),
 ((z05 w=(0:Int)/\g.1.length=w.arcs.length/\g.2.length=w.sup.length/\XB g.1/\Betw w g.1/\AtOk w w_t) /\
 ∀ (g_1:List Bool × (Nat->Option Stp) × Option Nat),
 SearchP w g.1 g.2 g_1.1 g_1.2.1 g_1.2.2 ->
 ∃ (g_2:List Int × List Int × List Bool × (Nat->Option Stp) × Option Nat),
 ((FillI w g_2.fst g_2.2.fst/\SearchP w g_2.fst g_2.2.fst g_2.2.2.fst g_2.2.2.2.fst g_2.2.2.2.snd)/\Q g_2) /\
 ((0:Nat)=(0:Nat)/\(0:Nat)=(0:Nat)/\True/\True/\True) /\
 ((↑(g_1.2.2.getD (0:Nat)):Int)=(↑(g_2.2.2.2.2.getD (0:Nat)):Int)/\g_1.2.2.isSome=g_2.2.2.2.2.isSome/\True) /\
 g_1.1=g_2.2.2.1 /\
 z0j w.sup.length g_1.2.1=z0j w.sup.length g_2.2.2.2.1 /\
 (True/\True/\True/\True/\True/\True) /\
 w.sup=w.sup/\w.arcs=w.arcs/\g.1=g_2.1/\g.2=g_2.2.1/\(w_t=w_t/\w_v=w_v/\(none:Option Nat)=none)/\True) /\
 ∀ (g_1:List Int × List Int × List Bool × (Nat->Option Stp) × Option Nat),
 FillI w g_1.fst g_1.2.fst/\SearchP w g_1.fst g_1.2.fst g_1.2.2.fst g_1.2.2.2.fst g_1.2.2.2.snd ->
 Q g_1 ->
 (g_1.2.2.2.2.isSome=true ->
 AlOk w g_1.1 g_1.2.1 (z0j w.sup.length g_1.2.2.2.1) (↑(g_1.2.2.2.2.getD (0:Nat)):Int) /\
 ∃ (g':List Int × List Int),
 FillI w g'.fst g'.snd /\
 (z4n g'.snd w.sup.length).toNat<(z4n g.snd w.sup.length).toNat /\
 ((0:Nat)=(0:Nat)/\True) /\
 (True/\True/\True/\True/\True/\True) /\
 w.sup=w.sup /\
 w.arcs=w.arcs /\
 z2r g_1.1 (alL w (z0j w.sup.length g_1.2.2.2.1) (↑(g_1.2.2.2.2.getD (0:Nat)):Int))
 (alU w g_1.1 g_1.2.1 (z0j w.sup.length g_1.2.2.2.1) (↑(g_1.2.2.2.2.getD (0:Nat)):Int)) =
 g'.1 /\
 z20 w g_1.2.1 (alL w (z0j w.sup.length g_1.2.2.2.1) (↑(g_1.2.2.2.2.getD (0:Nat)):Int))
 (alU w g_1.1 g_1.2.1 (z0j w.sup.length g_1.2.2.2.1) (↑(g_1.2.2.2.2.getD (0:Nat)):Int)) =
 g'.2 /\
 (w_t=w_t/\w_v=w_v/\(none:Option Nat)=none)/\True) /\
 (g_1.2.2.2.2.isSome=false ->
 g_1.2.2.1.length <= (1000000:Nat) /\
 (g_1.2.2.1.contains true=true ->
 ∃ (g:List Int × List Int × List Bool × Bool),
 FillP w g.1 g.2.1 g.2.2.1 g.2.2.2 /\
 ((True/\true=g.2.2.2/\True)/\True) /\
 g_1.2.2.1=g.2.2.1/\(True/\True/\True/\True/\True/\True)/\g_1.1=g.1/\g_1.2.1=g.2.1/\(w_t=w_t/\w_v=w_v/\(none:Option Nat)=none)/\True) /\
 (g_1.2.2.1.contains true=false ->
 ∃ (g:List Int × List Int × List Bool × Bool),
 FillP w g.1 g.2.1 g.2.2.1 g.2.2.2 /\
 ((True/\false=g.2.2.2/\True)/\True) /\
 []=g.2.2.1/\(True/\True/\True/\True/\True/\True)/\g_1.1=g.1/\g_1.2.1=g.2.1/\(w_t=w_t/\w_v=w_v/\(none:Option Nat)=none)/\True))
theorem fill20_q (w:Inst) (w_x:List Int) (w_o:List Int) (w_t:Ql.Rows3) (w_v:List Value) (ty1 ty2:TypeId):zkz w w_x w_o w_t w_v ty1 ty2=zb3 TT fill20_g (fill20_I w w_x w_o w_t w_v) (zl0 w w_x w_o w_t w_v) Tryz.f45 [.ptr 0 0 0 0] [(0,.box true 88 [.row 1,.row 2,.row 3,.row 4,.row 5]),(1,.row false ty1 (.ints .i64 w.sup)),(2,.row false ty2 (.arcs w.arcs)),(3,.row true 2 (.ints .i64 w_x)),(4,.row true 2 (.ints .i64 w_o)),(5,.deep true 117 113 (.recs (.int .i64) [.bool] w_t) w_v none)] (fill20_r w w_x w_o w_t w_v):=by kernel_rfl
theorem fill20_E (w:Inst) (w_x:List Int) (w_o:List Int) (w_t:Ql.Rows3) (w_v:List Value) (ty1 ty2:TypeId) (hp:z05 w=0/\FillI w w_x w_o/\AtOk w w_t):FVcR TT fill20_g (fill20_I w w_x w_o w_t w_v) (zl0 w w_x w_o w_t w_v) Tryz.f45 [.ptr 0 0 0 0] [(0,.box true 88 [.row 1,.row 2,.row 3,.row 4,.row 5]),(1,.row false ty1 (.ints .i64 w.sup)),(2,.row false ty2 (.arcs w.arcs)),(3,.row true 2 (.ints .i64 w_x)),(4,.row true 2 (.ints .i64 w_o)),(5,.deep true 117 113 (.recs (.int .i64) [.bool] w_t) w_v none)] (fill20_r w w_x w_o w_t w_v):=by
 refine FVcR.of (zkz w w_x w_o w_t w_v ty1 ty2) (fill20_q w w_x w_o w_t w_v ty1 ty2) ?_
 unfold zkz
 simp only [eq_self,exists_const,forall_const,ne_eq,Int.toNat_natCast,zSS,z06]
 obtain ⟨hr,hF,hat⟩:=hp
 have hs64:=z0d hr
 refine ⟨(w_x,w_o),⟨hF,rfl,rfl⟩,?_⟩
 clear hF
 rintro ⟨x,o⟩ hF
 dsimp only at hF ⊢
 obtain ⟨B,hN,-,-⟩:=id hF.inv
 refine ⟨fun g=>g.1=x/\g.2.1=o,⟨⟨hr,hN.over.lx,hN.over.lo,hF.xb.xb,hN.betw,hat⟩,?_⟩,?_⟩
 ·rintro ⟨m,b,e⟩ hS
  exact ⟨(x,o,m,b,e),⟨⟨hF,hS⟩,rfl,rfl⟩,⟨rfl,rfl⟩,rfl,rfl,rfl,rfl⟩
 rintro ⟨x1,o1,m,b,e⟩ ⟨-,hS⟩ ⟨h1,h2⟩
 dsimp only at hS h1 h2 ⊢
 subst h1 h2
 refine ⟨fun h3=>?_,fun h3=>?_⟩
 ·cases e with
  | none=>cases h3
  | some v =>
   obtain ⟨A,q1,q2⟩:=fill_more hr hF hS
   exact ⟨A,(_,_),q1,q2,rfl,rfl⟩
 ·cases e with
  | some v=>cases h3
  | none =>
   obtain ⟨q1,q2⟩:=fill_end hr hF hS
   refine ⟨by have:=hS.lm; omega,fun h4=>⟨(x1,o1,m,true),q1 h4,rfl,rfl,rfl,rfl⟩,fun h4=>⟨(x1,o1,[],false),q2 (by rw [h4]; simp),rfl,rfl,rfl,rfl⟩⟩
theorem fill20_ok:SpecOk Tryz.prog fill20_n false (z0y false zl1) :=
 z3r z0h (show z14 Tryz.prog fill20_g from z00 search20_ok (z00 along20_ok (z00 contains20_ok (z04)))) (by kernel_rfl) mixedOrders Tryz.func45 rfl rfl (by kernel_rfl) (n:=1) (by decide +kernel) (I:=fill20_IA) (fun _ _=>z07) (A:=fill20_A)
  (fun args h r hr=>by
   unfold zl1 at hr
   split at hr
   ·rename_i ty1 w_s ty2 w_a w_x w_o w_t w_v; cases hr; refine ⟨rfl,fun hp=>?_⟩; have hE:=fill20_E ⟨w_s,w_a⟩ w_x w_o w_t w_v ty1 ty2 hp; exact hE
   ·cases hr)
abbrev zm1:Nat:=109
def piece20_g:z0c:=[]
def z9q:Vc.Spec:=z2c TT piece20_g (fun _ _ _=>[]) Tryz.f109
def out20_r (g_n:Int) (g_l:List Arc) (g_i:List Int) (g_s:List Int) (n:Int):FRes:={ pre:=PieceOk g_n g_i g_s n 0,res:=.row 4,rows:=[.row 3 (.ints .i64 (z0l g_i g_s n 0))],eff:=[] }
def out20_fs:FS:=fun args h=>match args,h with
 | [.ptr 0 0 0 0,.int .i64 n],[(0,.box false 149 [.int .i64 g_n,.row 1,.row 2,.row 3]),(1,.row false ty1 (.arcs g_l)),(2,.row false ty2 (.ints .i64 g_i)),(3,.row false ty3 (.ints .i64 g_s))]=>some (out20_r g_n g_l g_i g_s n)
 | _,_=>none
def out20_an (g_n:Int) (g_l:List Arc) (g_i:List Int) (g_s:List Int) (n:Int):List (Nat × Ann):=[]
def out20_A:List SV->z0e->List (Nat × Ann):=fun _ _=>[]
def out20_g:z0c:=[(zm1,(false,z9q))]
abbrev out20_n:Nat:=80
def out20_i0g:z0c:=[(has_n,(true,z02 true has_fs))]
def out20_i0 (g_n:Int) (g_l:List Arc) (g_i:List Int) (g_s:List Int) (n:Int):z09:=inlI TT out20_i0g (fun args hp nk=>match args with | [y,c1,c2,c3]=>[(3,{ G:=Nat,inv:=fun k=>⟨[(0,y),(41,.row nk),(42,.int .i64 ((z0l g_i g_s n 0).length:Int)),(43,.int .i64 k)],[(6,.box true 29 [.row (nk+1)]),(nk+1,.row true 3 (.ints .i64 ((z0l g_i g_s n 0).take k))),(nk,.row false 3 (.ints .i64 (z0l g_i g_s n 0)))] ++ Vc.del 6 (Vc.del 5 hp),nk+2⟩,rel:=fun _ k=>k <= (z0l g_i g_s n 0).length,meas:=fun k=>(z0l g_i g_s n 0).length - k })] | _=>[]) Tryz.f126
def out20_I (g_n:Int) (g_l:List Arc) (g_i:List Int) (g_s:List Int) (n:Int):List (Nat × z09):=[(126,out20_i0 g_n g_l g_i g_s n)]
def out20_IA:List SV->z0e->List (Nat × z09):=fun args h=>match args,h with
 | [.ptr 0 0 0 0,.int .i64 n],[(0,.box false 149 [.int .i64 g_n,.row 1,.row 2,.row 3]),(1,.row false ty1 (.arcs g_l)),(2,.row false ty2 (.ints .i64 g_i)),(3,.row false ty3 (.ints .i64 g_s))]=>out20_I g_n g_l g_i g_s n
 | _,_=>[]
def in20_r (g_n:Int) (g_l:List Arc) (g_i:List Int) (g_s:List Int) (n:Int):FRes:={ pre:=PieceOk g_n g_i g_s n 1,res:=.row 4,rows:=[.row 3 (.ints .i64 (z0l g_i g_s n 1))],eff:=[] }
def in20_fs:FS:=fun args h=>match args,h with
 | [.ptr 0 0 0 0,.int .i64 n],[(0,.box false 149 [.int .i64 g_n,.row 1,.row 2,.row 3]),(1,.row false ty1 (.arcs g_l)),(2,.row false ty2 (.ints .i64 g_i)),(3,.row false ty3 (.ints .i64 g_s))]=>some (in20_r g_n g_l g_i g_s n)
 | _,_=>none
def in20_an (g_n:Int) (g_l:List Arc) (g_i:List Int) (g_s:List Int) (n:Int):List (Nat × Ann):=[]
def in20_A:List SV->z0e->List (Nat × Ann):=fun _ _=>[]
def in20_g:z0c:=[(zm1,(false,z9q))]
abbrev in20_n:Nat:=81
def in20_i0g:z0c:=[(has_n,(true,z02 true has_fs))]
def in20_i0 (g_n:Int) (g_l:List Arc) (g_i:List Int) (g_s:List Int) (n:Int):z09:=inlI TT in20_i0g (fun args hp nk=>match args with | [y,c1,c2,c3]=>[(3,{ G:=Nat,inv:=fun k=>⟨[(0,y),(41,.row nk),(42,.int .i64 ((z0l g_i g_s n 1).length:Int)),(43,.int .i64 k)],[(6,.box true 29 [.row (nk+1)]),(nk+1,.row true 3 (.ints .i64 ((z0l g_i g_s n 1).take k))),(nk,.row false 3 (.ints .i64 (z0l g_i g_s n 1)))] ++ Vc.del 6 (Vc.del 5 hp),nk+2⟩,rel:=fun _ k=>k <= (z0l g_i g_s n 1).length,meas:=fun k=>(z0l g_i g_s n 1).length - k })] | _=>[]) Tryz.f126
def in20_I (g_n:Int) (g_l:List Arc) (g_i:List Int) (g_s:List Int) (n:Int):List (Nat × z09):=[(126,in20_i0 g_n g_l g_i g_s n)]
def in20_IA:List SV->z0e->List (Nat × z09):=fun args h=>match args,h with
 | [.ptr 0 0 0 0,.int .i64 n],[(0,.box false 149 [.int .i64 g_n,.row 1,.row 2,.row 3]),(1,.row false ty1 (.arcs g_l)),(2,.row false ty2 (.ints .i64 g_i)),(3,.row false ty3 (.ints .i64 g_s))]=>in20_I g_n g_l g_i g_s n
 | _,_=>[]
theorem piece20_ok:SpecOk Tryz.prog zm1 false z9q :=
 z4j z0h (show z14 Tryz.prog piece20_g from z04) (by kernel_rfl) mixedOrders Tryz.func109 rfl rfl (by kernel_rfl) _
def out20_E0 (g_n : Int) (g_l : List Arc) (g_i : List Int) (g_s : List Int) (n : Int) (ty1 ty2 ty3 : TypeId) : Prop :=
      ∀ (R:Loop->Prop),
 True /\
 ((!(decide ((0:Int) <= n) && decide (n<g_n)))=true->(True/\True)/\[]=z0l g_i g_s n (0:Nat)/\True) /\
 ((!(decide ((0:Int) <= n) && decide (n<g_n)))=false ->
 ((0:Int) <= IntKind.i64.wrap (IntKind.i64.wrap ((2:Int) * n)+(0:Int))/\IntKind.i64.wrap (IntKind.i64.wrap ((2:Int) * n)+(0:Int))<(↑g_s.length:Int)) /\
 (IntKind.i64.wrap (IntKind.i64.wrap ((2:Int) * n)+(0:Int))).toNat<g_s.length /\
 ∀ (x:Int),
 g_s[(IntKind.i64.wrap (IntKind.i64.wrap ((2:Int) * n)+(0:Int))).toNat]? = some x ->
 ((0:Int) <= IntKind.i64.wrap (IntKind.i64.wrap (IntKind.i64.wrap ((2:Int) * n)+(0:Int))+(1:Int)) /\
 IntKind.i64.wrap (IntKind.i64.wrap (IntKind.i64.wrap ((2:Int) * n)+(0:Int))+(1:Int))<(↑g_s.length:Int)) /\
 (IntKind.i64.wrap (IntKind.i64.wrap (IntKind.i64.wrap ((2:Int) * n)+(0:Int))+(1:Int))).toNat<g_s.length /\
 ∀ (x_1:Int),
 g_s[(IntKind.i64.wrap (IntKind.i64.wrap (IntKind.i64.wrap ((2:Int) * n)+(0:Int))+(1:Int))).toNat]? = some x_1 ->
 ((0:Int) <= x/\x <= x_1/\x_1 <= x_1/\x_1 <= (↑g_i.length:Int)) /\
 ∃ (g0:Nat),
 (g0 <= (z0l g_i g_s n (0:Nat)).length /\
 (True /\
 True /\
 (↑(List.drop x.toNat (List.take x_1.toNat g_i)).length:Int)=(↑(z0l g_i g_s n (0:Nat)).length:Int) /\
 (0:Int)=(↑g0:Int)/\True) /\
 (True/\True) /\
 []=List.take g0 (z0l g_i g_s n (0:Nat)) /\
 List.drop x.toNat (List.take x_1.toNat g_i)=z0l g_i g_s n (0:Nat) /\
 R=R /\
 ((0:Int)=(0:Int)/\True) /\
 (n=n/\True) /\
 ((0:Nat)=(0:Nat)/\True)/\z79 Int/\(g_n=g_n/\True/\True/\True/\True)/\g_l=g_l/\g_i=g_i/\g_s=g_s/\True) /\
 ∀ (g:Nat),
 g <= (z0l g_i g_s n (0:Nat)).length ->
 (decide ((↑g:Int)<(↑(z0l g_i g_s n (0:Nat)).length:Int))=true ->
 ((0:Int) <= (↑g:Int)/\(↑g:Int)<(↑(z0l g_i g_s n (0:Nat)).length:Int)) /\
 (↑g:Int).toNat<(z0l g_i g_s n (0:Nat)).length /\
 ∀ (x:Int),
 (z0l g_i g_s n (0:Nat))[(↑g:Int).toNat]? = some x ->
 R=R /\
 (List.take g (z0l g_i g_s n (0:Nat))).length+(1:Nat) <= (1000000000:Nat) /\
 ∃ (g':Nat),
 g' <= (z0l g_i g_s n (0:Nat)).length /\
 (z0l g_i g_s n (0:Nat)).length - g'<(z0l g_i g_s n (0:Nat)).length - g /\
 (True /\
 True /\
 (↑(z0l g_i g_s n (0:Nat)).length:Int)=(↑(z0l g_i g_s n (0:Nat)).length:Int) /\
 IntKind.i64.wrap ((↑g:Int)+(1:Int))=(↑g':Int)/\True) /\
 (True/\True) /\
 List.take g (z0l g_i g_s n (0:Nat)) ++ [x]=List.take g' (z0l g_i g_s n (0:Nat)) /\
 z0l g_i g_s n (0:Nat)=z0l g_i g_s n (0:Nat) /\
 R=R /\
 ((0:Int)=(0:Int)/\True) /\
 (n=n/\True) /\
 ((0:Nat)=(0:Nat)/\True) /\
 z79 Int/\(g_n=g_n/\True/\True/\True/\True)/\g_l=g_l/\g_i=g_i/\g_s=g_s/\True) /\
 (decide ((↑g:Int)<(↑(z0l g_i g_s n (0:Nat)).length:Int))=false ->
 (True/\True)/\List.take g (z0l g_i g_s n (0:Nat))=z0l g_i g_s n (0:Nat)/\True))
theorem out20_q (g_n:Int) (g_l:List Arc) (g_i:List Int) (g_s:List Int) (n:Int) (ty1 ty2 ty3:TypeId):out20_E0 g_n g_l g_i g_s n ty1 ty2 ty3=z2d TT out20_g (out20_I g_n g_l g_i g_s n) (out20_an g_n g_l g_i g_s n) Tryz.f80 [.ptr 0 0 0 0,.int .i64 n] [(0,.box false 149 [.int .i64 g_n,.row 1,.row 2,.row 3]),(1,.row false ty1 (.arcs g_l)),(2,.row false ty2 (.ints .i64 g_i)),(3,.row false ty3 (.ints .i64 g_s))] (out20_r g_n g_l g_i g_s n):=by kernel_rfl
theorem out20_E (g_n:Int) (g_l:List Arc) (g_i:List Int) (g_s:List Int) (n:Int) (ty1 ty2 ty3:TypeId) (hp:PieceOk g_n g_i g_s n 0):FVc TT out20_g (out20_I g_n g_l g_i g_s n) (out20_an g_n g_l g_i g_s n) Tryz.f80 [.ptr 0 0 0 0,.int .i64 n] [(0,.box false 149 [.int .i64 g_n,.row 1,.row 2,.row 3]),(1,.row false ty1 (.arcs g_l)),(2,.row false ty2 (.ints .i64 g_i)),(3,.row false ty3 (.ints .i64 g_s))] (out20_r g_n g_l g_i g_s n):=by
 refine FVc.of (out20_E0 g_n g_l g_i g_s n ty1 ty2 ty3) (out20_q g_n g_l g_i g_s n ty1 ty2 ty3) ?_
 unfold out20_E0
 simp only [eq_self,exists_const,forall_const,ne_eq,Int.toNat_natCast,zSS,z06]
 obtain ⟨n0,n1,gn1,il,sl,a,b,c⟩:=hp
 have e1:IntKind.i64.wrap (IntKind.i64.wrap (2 * n)+0)=((2 * n.toNat+0:Nat):Int):=by rw [w64 (x:=2 * n) (by omega) (by omega),w64 (by omega) (by omega)]; omega
 have e2:IntKind.i64.wrap (((2 * n.toNat+0:Nat):Int)+1)=((2 * n.toNat+0+1:Nat):Int):=by rw [w64 (by omega) (by omega)]; omega
 simp only [e1,e2,Int.toNat_natCast]
 refine ⟨fun h=>?_,fun _=>⟨by omega,by omega,fun x hx=>⟨by omega,by omega,fun y hy=>?_⟩⟩⟩
 ·simp [n0,n1] at h
 have ex:g_s.getD (2 * n.toNat+0) 0=x:=by rw [List.getD_eq_getElem?_getD,hx]; rfl
 have ey:g_s.getD (2 * n.toNat+0+1) 0=y:=by rw [List.getD_eq_getElem?_getD,hy]; rfl
 have hP:z0l g_i g_s n 0=(g_i.take y.toNat).drop x.toNat:=by unfold z0l; rw [ex,ey]
 have hl:(z0l g_i g_s n 0).length <= g_i.length:=by rw [hP,List.length_drop,List.length_take]; omega
 rw [ex] at a b
 rw [ey] at b c
 rw [<- hP]
 generalize z0l g_i g_s n 0=P at *
 refine ⟨by omega,0,⟨Nat.zero_le _,⟨rfl,rfl⟩,rfl,rfl⟩,fun k hk=>⟨fun h=>⟨by omega,by omega,fun z hz=>⟨by rw [List.length_take]; omega,k+1,by omega,by omega,by rw [w64 (by omega) (by omega)]; omega,(z1i hz).symm⟩⟩,fun h=>List.take_of_length_le (by omega)⟩⟩
theorem out20_i0_ok (g_n:Int) (g_l:List Arc) (g_i:List Int) (g_s:List Int) (n:Int):zbk Tryz.prog 126 (out20_i0 g_n g_l g_i g_s n) :=
 inlI_ok z0h (show z14 Tryz.prog out20_i0g from z00 has_ok (z04)) (by kernel_rfl) mixedOrders Tryz.func126 rfl rfl (fun key spec=>by kernel_rfl) _
theorem out20_ok:SpecOk Tryz.prog out20_n true (z02 true out20_fs) :=
 z0a z0h (show z14 Tryz.prog out20_g from z00 piece20_ok (z04)) (by kernel_rfl) mixedOrders Tryz.func80 rfl rfl (by kernel_rfl) (n:=2) (by decide +kernel) (I:=out20_IA) (fun args h=>by
   unfold out20_IA
   split
   ·exact zdb (out20_i0_ok _ _ _ _ _) (z07)
   ·exact z07) (A:=out20_A)
  (fun args h r hr=>by
   unfold out20_fs at hr
   split at hr
   ·rename_i n g_n ty1 g_l ty2 g_i ty3 g_s; cases hr; refine ⟨rfl,fun hp=>?_⟩; have hE:=out20_E g_n g_l g_i g_s n ty1 ty2 ty3 hp; exact hE
   ·cases hr)
def in20_E0 (g_n : Int) (g_l : List Arc) (g_i : List Int) (g_s : List Int) (n : Int) (ty1 ty2 ty3 : TypeId) : Prop :=
      ∀ (R:Loop->Prop),
 True /\
 ((!(decide ((0:Int) <= n) && decide (n<g_n)))=true->(True/\True)/\[]=z0l g_i g_s n (1:Nat)/\True) /\
 ((!(decide ((0:Int) <= n) && decide (n<g_n)))=false ->
 ((0:Int) <= IntKind.i64.wrap (IntKind.i64.wrap ((2:Int) * n)+(1:Int))/\IntKind.i64.wrap (IntKind.i64.wrap ((2:Int) * n)+(1:Int))<(↑g_s.length:Int)) /\
 (IntKind.i64.wrap (IntKind.i64.wrap ((2:Int) * n)+(1:Int))).toNat<g_s.length /\
 ∀ (x:Int),
 g_s[(IntKind.i64.wrap (IntKind.i64.wrap ((2:Int) * n)+(1:Int))).toNat]? = some x ->
 ((0:Int) <= IntKind.i64.wrap (IntKind.i64.wrap (IntKind.i64.wrap ((2:Int) * n)+(1:Int))+(1:Int)) /\
 IntKind.i64.wrap (IntKind.i64.wrap (IntKind.i64.wrap ((2:Int) * n)+(1:Int))+(1:Int))<(↑g_s.length:Int)) /\
 (IntKind.i64.wrap (IntKind.i64.wrap (IntKind.i64.wrap ((2:Int) * n)+(1:Int))+(1:Int))).toNat<g_s.length /\
 ∀ (x_1:Int),
 g_s[(IntKind.i64.wrap (IntKind.i64.wrap (IntKind.i64.wrap ((2:Int) * n)+(1:Int))+(1:Int))).toNat]? = some x_1 ->
 ((0:Int) <= x/\x <= x_1/\x_1 <= x_1/\x_1 <= (↑g_i.length:Int)) /\
 ∃ (g0:Nat),
 (g0 <= (z0l g_i g_s n (1:Nat)).length /\
 (True /\
 True /\
 (↑(List.drop x.toNat (List.take x_1.toNat g_i)).length:Int)=(↑(z0l g_i g_s n (1:Nat)).length:Int) /\
 (0:Int)=(↑g0:Int)/\True) /\
 (True/\True) /\
 []=List.take g0 (z0l g_i g_s n (1:Nat)) /\
 List.drop x.toNat (List.take x_1.toNat g_i)=z0l g_i g_s n (1:Nat) /\
 R=R /\
 ((1:Int)=(1:Int)/\True) /\
 (n=n/\True) /\
 ((0:Nat)=(0:Nat)/\True)/\z79 Int/\(g_n=g_n/\True/\True/\True/\True)/\g_l=g_l/\g_i=g_i/\g_s=g_s/\True) /\
 ∀ (g:Nat),
 g <= (z0l g_i g_s n (1:Nat)).length ->
 (decide ((↑g:Int)<(↑(z0l g_i g_s n (1:Nat)).length:Int))=true ->
 ((0:Int) <= (↑g:Int)/\(↑g:Int)<(↑(z0l g_i g_s n (1:Nat)).length:Int)) /\
 (↑g:Int).toNat<(z0l g_i g_s n (1:Nat)).length /\
 ∀ (x:Int),
 (z0l g_i g_s n (1:Nat))[(↑g:Int).toNat]? = some x ->
 R=R /\
 (List.take g (z0l g_i g_s n (1:Nat))).length+(1:Nat) <= (1000000000:Nat) /\
 ∃ (g':Nat),
 g' <= (z0l g_i g_s n (1:Nat)).length /\
 (z0l g_i g_s n (1:Nat)).length - g'<(z0l g_i g_s n (1:Nat)).length - g /\
 (True /\
 True /\
 (↑(z0l g_i g_s n (1:Nat)).length:Int)=(↑(z0l g_i g_s n (1:Nat)).length:Int) /\
 IntKind.i64.wrap ((↑g:Int)+(1:Int))=(↑g':Int)/\True) /\
 (True/\True) /\
 List.take g (z0l g_i g_s n (1:Nat)) ++ [x]=List.take g' (z0l g_i g_s n (1:Nat)) /\
 z0l g_i g_s n (1:Nat)=z0l g_i g_s n (1:Nat) /\
 R=R /\
 ((1:Int)=(1:Int)/\True) /\
 (n=n/\True) /\
 ((0:Nat)=(0:Nat)/\True) /\
 z79 Int/\(g_n=g_n/\True/\True/\True/\True)/\g_l=g_l/\g_i=g_i/\g_s=g_s/\True) /\
 (decide ((↑g:Int)<(↑(z0l g_i g_s n (1:Nat)).length:Int))=false ->
 (True/\True)/\List.take g (z0l g_i g_s n (1:Nat))=z0l g_i g_s n (1:Nat)/\True))
theorem in20_q (g_n:Int) (g_l:List Arc) (g_i:List Int) (g_s:List Int) (n:Int) (ty1 ty2 ty3:TypeId):in20_E0 g_n g_l g_i g_s n ty1 ty2 ty3=z2d TT in20_g (in20_I g_n g_l g_i g_s n) (in20_an g_n g_l g_i g_s n) Tryz.f81 [.ptr 0 0 0 0,.int .i64 n] [(0,.box false 149 [.int .i64 g_n,.row 1,.row 2,.row 3]),(1,.row false ty1 (.arcs g_l)),(2,.row false ty2 (.ints .i64 g_i)),(3,.row false ty3 (.ints .i64 g_s))] (in20_r g_n g_l g_i g_s n):=by kernel_rfl
theorem in20_E (g_n:Int) (g_l:List Arc) (g_i:List Int) (g_s:List Int) (n:Int) (ty1 ty2 ty3:TypeId) (hp:PieceOk g_n g_i g_s n 1):FVc TT in20_g (in20_I g_n g_l g_i g_s n) (in20_an g_n g_l g_i g_s n) Tryz.f81 [.ptr 0 0 0 0,.int .i64 n] [(0,.box false 149 [.int .i64 g_n,.row 1,.row 2,.row 3]),(1,.row false ty1 (.arcs g_l)),(2,.row false ty2 (.ints .i64 g_i)),(3,.row false ty3 (.ints .i64 g_s))] (in20_r g_n g_l g_i g_s n):=by
 refine FVc.of (in20_E0 g_n g_l g_i g_s n ty1 ty2 ty3) (in20_q g_n g_l g_i g_s n ty1 ty2 ty3) ?_
 unfold in20_E0
 simp only [eq_self,exists_const,forall_const,ne_eq,Int.toNat_natCast,zSS,z06]
 obtain ⟨n0,n1,gn1,il,sl,a,b,c⟩:=hp
 have e1:IntKind.i64.wrap (IntKind.i64.wrap (2 * n)+1)=((2 * n.toNat+1:Nat):Int):=by rw [w64 (x:=2 * n) (by omega) (by omega),w64 (by omega) (by omega)]; omega
 have e2:IntKind.i64.wrap (((2 * n.toNat+1:Nat):Int)+1)=((2 * n.toNat+1+1:Nat):Int):=by rw [w64 (by omega) (by omega)]; omega
 simp only [e1,e2,Int.toNat_natCast]
 refine ⟨fun h=>?_,fun _=>⟨by omega,by omega,fun x hx=>⟨by omega,by omega,fun y hy=>?_⟩⟩⟩
 ·simp [n0,n1] at h
 have ex:g_s.getD (2 * n.toNat+1) 0=x:=by rw [List.getD_eq_getElem?_getD,hx]; rfl
 have ey:g_s.getD (2 * n.toNat+1+1) 0=y:=by rw [List.getD_eq_getElem?_getD,hy]; rfl
 have hP:z0l g_i g_s n 1=(g_i.take y.toNat).drop x.toNat:=by unfold z0l; rw [ex,ey]
 have hl:(z0l g_i g_s n 1).length <= g_i.length:=by rw [hP,List.length_drop,List.length_take]; omega
 rw [ex] at a b
 rw [ey] at b c
 rw [<- hP]
 generalize z0l g_i g_s n 1=P at *
 refine ⟨by omega,0,⟨Nat.zero_le _,⟨rfl,rfl⟩,rfl,rfl⟩,fun k hk=>⟨fun h=>⟨by omega,by omega,fun z hz=>⟨by rw [List.length_take]; omega,k+1,by omega,by omega,by rw [w64 (by omega) (by omega)]; omega,(z1i hz).symm⟩⟩,fun h=>List.take_of_length_le (by omega)⟩⟩
theorem in20_i0_ok (g_n:Int) (g_l:List Arc) (g_i:List Int) (g_s:List Int) (n:Int):zbk Tryz.prog 126 (in20_i0 g_n g_l g_i g_s n) :=
 inlI_ok z0h (show z14 Tryz.prog in20_i0g from z00 has_ok (z04)) (by kernel_rfl) mixedOrders Tryz.func126 rfl rfl (fun key spec=>by kernel_rfl) _
theorem in20_ok:SpecOk Tryz.prog in20_n true (z02 true in20_fs) :=
 z0a z0h (show z14 Tryz.prog in20_g from z00 piece20_ok (z04)) (by kernel_rfl) mixedOrders Tryz.func81 rfl rfl (by kernel_rfl) (n:=2) (by decide +kernel) (I:=in20_IA) (fun args h=>by
   unfold in20_IA
   split
   ·exact zdb (in20_i0_ok _ _ _ _ _) (z07)
   ·exact z07) (A:=in20_A)
  (fun args h r hr=>by
   unfold in20_fs at hr
   split at hr
   ·rename_i n g_n ty1 g_l ty2 g_i ty3 g_s; cases hr; refine ⟨rfl,fun hp=>?_⟩; have hE:=in20_E g_n g_l g_i g_s n ty1 ty2 ty3 hp; exact hE
   ·cases hr)
def zkh (I:Inst):FRel:={ pre:=z05 I=0,G:=(List Int) × (List Int) × (Rows3),post:=fun ⟨x,o,t⟩=>BuildP I x o t,out:=fun ⟨x,o,t⟩=>{ pre:=True,res:=.ptr 2 0 0 0,rows:=[.box 88 [.row 0,.row 1,.row 3,.row 4,.row 5],.row 2 (.ints .i64 x),.row 2 (.ints .i64 o),.deep 117 113 (.recs (.int .i64) [.bool] t)],eff:=[] } }
def zfg:FR:=fun args h=>match args,h with
 | [.agg [.row 0,.row 1]],[(0,.row false ty0 (.ints .i64 I_s)),(1,.row false ty1 (.arcs I_a))]=>some (zkh ⟨I_s,I_a⟩)
 | _,_=>none
def zff (I:Inst):List (Nat × Ann):=[(1000002,{ G:=(List Value),inv:=fun vs=>⟨[(1,.ptr 2 0 0 0),(3,.ptr 12 0 0 0)],[(2,.box true 25 [.row 0,.row 1]),(12,.box true 88 [.row 0,.row 1,.row 3,.row 5,.row 6]),(0,.row false 0 (.ints .i64 I.sup)),(1,.row false 0 (.arcs I.arcs)),(3,.row true 2 (.ints .i64 (List.replicate I.arcs.length 0))),(5,.row true 2 (.ints .i64 I.sup)),(6,.deep true 117 113 (.recs (.int .i64) [.bool] (z1u I 0 [])) vs none)],13⟩,rel:=fun vs0 vs=>True,meas:=fun vs=>0 }),
 (3,{ G:=(Nat) × (List Int) × (List Int) × (List Value),inv:=fun ⟨a,x,o,vs⟩=>⟨[(1,.ptr 2 0 0 0),(3,.ptr 12 0 0 0),(27,.row 1),(28,.int .i64 (I.arcs.length:Int)),(29,.int .i64 a)],[(2,.box true 25 [.row 0,.row 1]),(12,.box true 88 [.row 0,.row 1,.row 3,.row 5,.row 6]),(0,.row false 0 (.ints .i64 I.sup)),(1,.row false 0 (.arcs I.arcs)),(3,.row true 2 (.ints .i64 x)),(5,.row true 2 (.ints .i64 o)),(6,.deep true 117 113 (.recs (.int .i64) [.bool] (z1u I 0 [])) vs none)],13⟩,rel:=fun ⟨a0,x0,o0,vs0⟩ ⟨a,x,o,vs⟩=>a <= I.arcs.length/\LowI I a x o,meas:=fun ⟨a,x,o,vs⟩=>I.arcs.length - a }),
 (9,{ G:=(Nat) × (List Int) × (List Int) × (List Value),inv:=fun ⟨n,x,o,vs⟩=>⟨[(3,.ptr 12 0 0 0),(6,.ptr 13 0 0 0),(45,.int .i64 (I.sup.length:Int)),(46,.int .i64 n)],[(13,.box true 149 [.int .i64 (↑I.sup.length:Int),.row 14,.row 15,.row 16]),(14,.row true 65 (.arcs I.arcs)),(15,.row true 3 (.ints .i64 (z2i I))),(16,.row true 3 (.ints .i64 (z0w I))),(12,.box true 88 [.row 0,.row 1,.row 3,.row 5,.row 6]),(0,.row false 0 (.ints .i64 I.sup)),(1,.row false 0 (.arcs I.arcs)),(3,.row true 2 (.ints .i64 x)),(5,.row true 2 (.ints .i64 o)),(6,.deep true 117 113 (.recs (.int .i64) [.bool] (z1u I n [])) vs none)],17⟩,rel:=fun ⟨n0,x0,o0,vs0⟩ ⟨n,x,o,vs⟩=>x=x0/\o=o0/\n <= I.sup.length,meas:=fun ⟨n,x,o,vs⟩=>I.sup.length - n }),
 (12,{ G:=(Nat) × (Nat) × (List Int) × (List Int) × (List Value),inv:=fun ⟨n,k,x,o,vs⟩=>⟨[(3,.ptr 12 0 0 0),(6,.ptr 13 0 0 0),(45,.int .i64 (I.sup.length:Int)),(46,.int .i64 n),(7,.int .i64 n),(51,.row 17),(52,.int .i64 ((z5e I n).length:Int)),(53,.int .i64 k)],[(17,.row true 3 (.ints .i64 (z3w (z5e I n)))),(13,.box true 149 [.int .i64 (↑I.sup.length:Int),.row 14,.row 15,.row 16]),(14,.row true 65 (.arcs I.arcs)),(15,.row true 3 (.ints .i64 (z2i I))),(16,.row true 3 (.ints .i64 (z0w I))),(12,.box true 88 [.row 0,.row 1,.row 3,.row 5,.row 6]),(0,.row false 0 (.ints .i64 I.sup)),(1,.row false 0 (.arcs I.arcs)),(3,.row true 2 (.ints .i64 x)),(5,.row true 2 (.ints .i64 o)),(6,.deep true 117 113 (.recs (.int .i64) [.bool] (z1u I n (fwd ((z5e I n).take k)))) vs none)],18⟩,rel:=fun ⟨n0,k0,x0,o0,vs0⟩ ⟨n,k,x,o,vs⟩=>x=x0/\o=o0/\n=n0/\k <= (z5e I n).length,meas:=fun ⟨n,k,x,o,vs⟩=>(z5e I n).length - k }),
 (17,{ G:=(Nat) × (Nat) × (List Int) × (List Int) × (List Value),inv:=fun ⟨n,k,x,o,vs⟩=>⟨[(3,.ptr 12 0 0 0),(6,.ptr 13 0 0 0),(45,.int .i64 (I.sup.length:Int)),(46,.int .i64 n),(7,.int .i64 n),(77,.row 18),(78,.int .i64 ((z7k I n).length:Int)),(79,.int .i64 k)],[(18,.row true 3 (.ints .i64 (z3w (z7k I n)))),(13,.box true 149 [.int .i64 (↑I.sup.length:Int),.row 14,.row 15,.row 16]),(14,.row true 65 (.arcs I.arcs)),(15,.row true 3 (.ints .i64 (z2i I))),(16,.row true 3 (.ints .i64 (z0w I))),(12,.box true 88 [.row 0,.row 1,.row 3,.row 5,.row 6]),(0,.row false 0 (.ints .i64 I.sup)),(1,.row false 0 (.arcs I.arcs)),(3,.row true 2 (.ints .i64 x)),(5,.row true 2 (.ints .i64 o)),(6,.deep true 117 113 (.recs (.int .i64) [.bool] (z1u I n (fwd (z5e I n) ++ bwd ((z7k I n).take k)))) vs none)],19⟩,rel:=fun ⟨n0,k0,x0,o0,vs0⟩ ⟨n,k,x,o,vs⟩=>x=x0/\o=o0/\n=n0/\k <= (z7k I n).length,meas:=fun ⟨n,k,x,o,vs⟩=>(z7k I n).length - k })]
def build20_A:List SV->z0e->List (Nat × Ann):=fun args h=>match args,h with
 | [.agg [.row 0,.row 1]],[(0,.row false ty0 (.ints .i64 I_s)),(1,.row false ty1 (.arcs I_a))]=>zff ⟨I_s,I_a⟩
 | _,_=>[]
def zkg:z0c:=[(zi4,(false,z02 false z9t)),(New_n,(true,z02 true New_fs)),(out20_n,(true,z02 true out20_fs)),(in20_n,(true,z02 true in20_fs))]
abbrev build20_n:Nat:=44
def build20_I (I:Inst):List (Nat × z09):=[]
def build20_IA:List SV->z0e->List (Nat × z09):=fun _ _=>[]
abbrev z2l:=Nat × Nat × List Int × List Int × List Value
abbrev z5a:=Nat × List Int × List Int × List Value
abbrev z0z (I:Inst):=(∃ (g:List Value),True/\((0=0/\(0=0/\True))/\((True/\(True/\True))/\((True/\(True/\(True/\(True/\(True/\True)))))/\(I.sup=I.sup/\(I.arcs=I.arcs/\(List.replicate (↑I.arcs.length:Int).toNat (0:Int)=List.replicate I.arcs.length (0:Int)/\(I.sup=I.sup/\((List.replicate (↑I.sup.length:Int).toNat []=z1u I (0:Nat) []/\(List.replicate (↑I.sup.length:Int).toNat (Value.slice none (0:Nat) (0:Nat))=g/\((none:Option Nat)=none)))/\True)))))))))
abbrev z0q (I:Inst):=((↑I.arcs.length:Int)=↑I.arcs.length/\((0:Int) <= ↑I.arcs.length/\((↑I.arcs.length:Int) <= 1000000000)))
abbrev z0o (I:Inst):=((↑I.sup.length:Int)=↑I.sup.length/\((0:Int) <= ↑I.sup.length/\((↑I.sup.length:Int) <= 1000000000)))
abbrev zag (x_1:List (List Int)) (g_2:z2l) (I:Inst) (g0_2:z2l) (x:Int):=(x_1.length+(1:Nat) <= 1000000000/\(((0:Int) <= ↑g_2.1/\((↑g_2.1:Int)<↑(DK.recs (MK.int IntKind.i64) [MK.bool] (z1u I g_2.1 (fwd (z5e I g_2.1) ++ bwd (List.take g_2.2.1 (z7k I g_2.1))))).len))/\((↑g_2.1:Int).toNat=(↑g_2.1:Int).toNat/\((↑g_2.1:Int).toNat<(z1u I g_2.1 (fwd (z5e I g_2.1) ++ bwd (List.take g_2.2.1 (z7k I g_2.1)))).length/\(∀ (u:Value),∃ (g':z2l),(g'.2.2.fst=g0_2.2.2.fst/\(g'.2.2.2.fst=g0_2.2.2.2.fst/\(g'.fst=g0_2.fst/\(g'.2.fst <= (z7k I g'.fst).length))))/\((z7k I g'.fst).length - g'.2.fst<(z7k I g_2.fst).length - g_2.2.fst/\((0=0/\(0=0/\((↑I.sup.length:Int)=↑I.sup.length/\((↑g_2.1:Int)=↑g'.1/\((↑g_2.1:Int)=↑g'.1/\(True/\((↑(z7k I g_2.1).length:Int)=↑(z7k I g'.1).length/\(IntKind.i64.wrap ((↑g_2.2.1:Int)+(1:Int))=(↑g'.2.1:Int)/\True))))))))/\(z3w (z7k I g_2.1)=z3w (z7k I g'.1)/\(((↑I.sup.length:Int)=↑I.sup.length/\(True/\(True/\(True/\True))))/\(I.arcs=I.arcs/\(z2i I=z2i I/\(z0w I=z0w I/\((True/\(True/\(True/\(True/\(True/\True)))))/\(I.sup=I.sup/\(I.arcs=I.arcs/\(g_2.2.2.1=g'.2.2.1/\(g_2.2.2.2.1=g'.2.2.2.1/\(((z1u I g_2.1 (fwd (z5e I g_2.1) ++ bwd (List.take g_2.2.1 (z7k I g_2.1)))).set (↑g_2.1:Int).toNat (x_1 ++ [[x,bif true then (1:Int) else (0:Int)]])=z1u I g'.1 (fwd (z5e I g'.1) ++ bwd (List.take g'.2.1 (z7k I g'.1)))/\(g_2.2.2.2.2.set (↑g_2.1:Int).toNat u=g'.2.2.2.2/\((none:Option Nat)=none)))/\True))))))))))))))))))
abbrev zah (x_1:List (List Int)) (g_1:z2l) (I:Inst) (g0_1:z2l) (x:Int):=(x_1.length+(1:Nat) <= 1000000000/\(((0:Int) <= ↑g_1.1/\((↑g_1.1:Int)<↑(DK.recs (MK.int IntKind.i64) [MK.bool] (z1u I g_1.1 (fwd (List.take g_1.2.1 (z5e I g_1.1))))).len))/\((↑g_1.1:Int).toNat=(↑g_1.1:Int).toNat/\((↑g_1.1:Int).toNat<(z1u I g_1.1 (fwd (List.take g_1.2.1 (z5e I g_1.1)))).length/\(∀ (u:Value),∃ (g':z2l),(g'.2.2.fst=g0_1.2.2.fst/\(g'.2.2.2.fst=g0_1.2.2.2.fst/\(g'.fst=g0_1.fst/\(g'.2.fst <= (z5e I g'.fst).length))))/\((z5e I g'.fst).length - g'.2.fst<(z5e I g_1.fst).length - g_1.2.fst/\((0=0/\(0=0/\((↑I.sup.length:Int)=↑I.sup.length/\((↑g_1.1:Int)=↑g'.1/\((↑g_1.1:Int)=↑g'.1/\(True/\((↑(z5e I g_1.1).length:Int)=↑(z5e I g'.1).length/\(IntKind.i64.wrap ((↑g_1.2.1:Int)+(1:Int))=(↑g'.2.1:Int)/\True))))))))/\(z3w (z5e I g_1.1)=z3w (z5e I g'.1)/\(((↑I.sup.length:Int)=↑I.sup.length/\(True/\(True/\(True/\True))))/\(I.arcs=I.arcs/\(z2i I=z2i I/\(z0w I=z0w I/\((True/\(True/\(True/\(True/\(True/\True)))))/\(I.sup=I.sup/\(I.arcs=I.arcs/\(g_1.2.2.1=g'.2.2.1/\(g_1.2.2.2.1=g'.2.2.2.1/\(((z1u I g_1.1 (fwd (List.take g_1.2.1 (z5e I g_1.1)))).set (↑g_1.1:Int).toNat (x_1 ++ [[x,bif false then (1:Int) else (0:Int)]])=z1u I g'.1 (fwd (List.take g'.2.1 (z5e I g'.1)))/\(g_1.2.2.2.2.set (↑g_1.1:Int).toNat u=g'.2.2.2.2/\((none:Option Nat)=none)))/\True))))))))))))))))))
abbrev z2k (I:Inst):=(((z0q I)/\((z0o I)/\(z0z I)))/\((z0o I)/\((z0q I)/\(z0z I))))
abbrev z58 (I:Inst):=((0:Nat)+I.sup.length <= (1000000000:Nat)/\(z0z I))
abbrev z4g (I:Inst):=(((0:Nat)+I.sup.length <= (1000000000:Nat)/\((z0o I)/\(z0z I)))/\((z0o I)/\(z58 I)))
abbrev z59 (I:Inst):=(((z0q I)/\(z58 I))/\((0:Nat)+I.sup.length <= (1000000000:Nat)/\((z0q I)/\(z0z I))))
abbrev z34 (I:Inst):=(((z0o I)/\(z0z I))/\((z0o I)/\(z0z I)))
abbrev z2g (I:Inst):=(((z0q I)/\(z0z I))/\((z0q I)/\(z0z I)))
abbrev zc2 (I:Inst):=(((z0q I)/\(((0:Nat)+I.sup.length <= (1000000000:Nat)/\((z0o I)/\(z0z I)))/\(z4g I)))/\((0:Nat)+I.sup.length <= (1000000000:Nat)/\(((z0q I)/\((z0o I)/\(z0z I)))/\(z2k I)))/\((z0q I)/\(z4g I))/\((0:Nat)+I.sup.length <= (1000000000:Nat)/\(z2k I))/\((z0o I)/\(z59 I)))
abbrev z6c (I:Inst):=(((z0q I)/\(z4g I))/\((0:Nat)+I.sup.length <= (1000000000:Nat)/\(z2k I))/\((z0o I)/\(z59 I)))
abbrev z4b (I:Inst):=((z2k I)/\((z0o I)/\((z0q I)/\(z0z I))))
abbrev z3b:=(True/\(True/\(True/\(True/\(True/\True)))))
abbrev z87 (I:Inst):=(((z0q I)/\((z58 I)/\(z58 I)))/\((0:Nat)+I.sup.length <= (1000000000:Nat)/\(z2g I)))
abbrev z88 (I:Inst):=(((0:Nat)+I.sup.length <= (1000000000:Nat)/\(z34 I))/\((z0o I)/\((z58 I)/\(z58 I))))
abbrev z89 (I:Inst):=((z59 I)/\((0:Nat)+I.sup.length <= (1000000000:Nat)/\((z0q I)/\(z0z I))))
abbrev z6d (I:Inst):=((↑I.sup.length:Int)=↑I.sup.length/\(True/\(True/\(True/\True))))
abbrev z6e (I:Inst):=(((z0q I)/\((z0o I)/\(z0z I)))/\(z2k I))
abbrev zc3 (I:Inst):=((0:Nat)+I.sup.length <= (1000000000:Nat)/\(z2k I)/\((z0q I)/\(z34 I))/\((z0o I)/\(z2g I)))
def zfe (I : Inst) (ty0 ty1 : TypeId) : Prop :=
   (((zc2 I)/\((0:Nat)+I.sup.length <= (1000000000:Nat)/\(z6e I)/\(z4b I))/\(z6c I)/\((0:Nat)+I.sup.length <= (1000000000:Nat)/\(z4b I))/\((z0o I)/\(z89 I)))/\((zc2 I)/\((z0q I)/\(((0:Nat)+I.sup.length <= (1000000000:Nat)/\((z0o I)/\(z0z I)))/\(z4g I))/\((0:Nat)+I.sup.length <= (1000000000:Nat)/\(((z0o I)/\(z0z I))/\(z34 I)))/\(z4g I)/\(z88 I))/\((0:Nat)+I.sup.length <= (1000000000:Nat)/\(z6e I)/\((z0q I)/\(((z0o I)/\(z0z I))/\(z34 I)))/\(z2k I)/\((z0q I)/\(z34 I))/\((z0o I)/\(z2g I)))/\(z6c I)/\((z0q I)/\(z4g I)/\(z88 I))/\(zc3 I)/\(z0o I)/\(z59 I)/\(z87 I))/\((0:Nat)+I.sup.length <= (1000000000:Nat)/\((z6e I)/\(z4b I))/\((z6e I)/\((z0q I)/\(((z0o I)/\(z0z I))/\(z34 I)))/\(z2k I)/\((z0q I)/\(z34 I))/\((z0o I)/\(z2g I)))/\(z4b I)/\((z2k I)/\((z0q I)/\(z34 I))/\((z0o I)/\(z2g I)))/\((z0o I)/\(((z0q I)/\(z0z I))/\(z2g I))))/\((z6c I)/\((0:Nat)+I.sup.length <= (1000000000:Nat)/\(z4b I))/\((z0o I)/\(z89 I)))/\((z6c I)/\((z0q I)/\(z4g I)/\(z88 I))/\(zc3 I)/\(z0o I)/\(z59 I)/\(z87 I))/\((0:Nat)+I.sup.length <= (1000000000:Nat)/\(z4b I)/\((z2k I)/\((z0q I)/\(z34 I))/\((z0o I)/\(z2g I)))/\((z0o I)/\(((z0q I)/\(z0z I))/\(z2g I))))/\(z0o I)/\(z89 I)/\((z59 I)/\(z87 I))/\((0:Nat)+I.sup.length <= (1000000000:Nat)/\(((z0q I)/\(z0z I))/\(z2g I))))/\∀ (g:List Value),True->∃ (g0:z5a),((g0.fst <= I.arcs.length/\(LowI I g0.fst g0.2.fst g0.2.2.fst))/\((0=0/\(0=0/\(True/\((↑I.arcs.length:Int)=↑I.arcs.length/\((0:Int)=↑g0.1/\True)))))/\((True/\(True/\True))/\((z3b)/\(I.sup=I.sup/\(I.arcs=I.arcs/\(List.replicate I.arcs.length (0:Int)=g0.2.1/\(I.sup=g0.2.2.1/\((z1u I (0:Nat) []=z1u I (0:Nat) []/\(g=g0.2.2.2/\((none:Option Nat)=none)))/\True)))))))))/\∀ (g:z5a),g.fst <= I.arcs.length/\LowI I g.fst g.2.fst g.2.2.fst->(decide ((↑g.1:Int)<↑I.arcs.length)=true->((0:Int) <= ↑g.1/\((↑g.1:Int)<↑I.arcs.length))/\((↑g.1:Int).toNat<I.arcs.length/\(∀ (x:Arc),I.arcs[(↑g.1:Int).toNat]? = some x->(z1o I (↑g.1:Int)/\(g.2.1.length=I.arcs.length/\(g.2.2.1.length=I.sup.length/\(XB g.2.1/\(XB g.2.2.1/\((-1152921504606846976:Int) <= x.low/\(x.low <= (1152921504606846976:Int))))))))/\(∃ (g':z5a),(g'.fst <= I.arcs.length/\(LowI I g'.fst g'.2.fst g'.2.2.fst))/\(I.arcs.length - g'.fst<I.arcs.length - g.fst/\((0=0/\(0=0/\(True/\((↑I.arcs.length:Int)=↑I.arcs.length/\(IntKind.i64.wrap ((↑g.1:Int)+(1:Int))=(↑g'.1:Int)/\True)))))/\((True/\(True/\True))/\((z3b)/\(I.sup=I.sup/\(I.arcs=I.arcs/\(z4w g.2.1 ((↑g.1:Int).toNat,false) x.low=g'.2.1/\(z6x I g.2.2.1 ((↑g.1:Int).toNat,false) x.low=g'.2.2.1/\((z1u I (0:Nat) []=z1u I (0:Nat) []/\(g.2.2.2=g'.2.2.2/\((none:Option Nat)=none)))/\True)))))))))))))/\(decide ((↑g.1:Int)<↑I.arcs.length)=false->(I.sup.length <= (10000:Nat)/\(I.arcs.length <= (10000:Nat)))/\∃ (g0:z5a),((g0.2.fst=g0.2.fst/\(g0.2.2.fst=g0.2.2.fst/\(g0.fst <= I.sup.length)))/\((0=0/\(0=0/\((↑I.sup.length:Int)=↑I.sup.length/\((0:Int)=↑g0.1/\True))))/\((z6d I)/\(I.arcs=I.arcs/\(z2i I=z2i I/\(z0w I=z0w I/\((z3b)/\(I.sup=I.sup/\(I.arcs=I.arcs/\(g.2.1=g0.2.1/\(g.2.2.1=g0.2.2.1/\((z1u I (0:Nat) []=z1u I g0.1 []/\(g.2.2.2=g0.2.2.2/\((none:Option Nat)=none)))/\True))))))))))))/\∀ (g:z5a),g.2.fst=g0.2.fst/\g.2.2.fst=g0.2.2.fst/\g.fst <= I.sup.length->(decide ((↑g.1:Int)<↑I.sup.length)=true->PieceOk (↑I.sup.length:Int) (z2i I) (z0w I) (↑g.1:Int) (0:Nat)/\∃ (g0_1:z2l),((g0_1.2.2.fst=g0_1.2.2.fst/\(g0_1.2.2.2.fst=g0_1.2.2.2.fst/\(g0_1.fst=g0_1.fst/\(g0_1.2.fst <= (z5e I g0_1.fst).length))))/\((0=0/\(0=0/\((↑I.sup.length:Int)=↑I.sup.length/\((↑g.1:Int)=↑g0_1.1/\((↑g.1:Int)=↑g0_1.1/\(True/\((↑(z0l (z2i I) (z0w I) (↑g.1:Int) (0:Nat)).length:Int)=↑(z5e I g0_1.1).length/\((0:Int)=↑g0_1.2.1/\True))))))))/\(z0l (z2i I) (z0w I) (↑g.1:Int) (0:Nat)=z3w (z5e I g0_1.1)/\((z6d I)/\(I.arcs=I.arcs/\(z2i I=z2i I/\(z0w I=z0w I/\((z3b)/\(I.sup=I.sup/\(I.arcs=I.arcs/\(g.2.1=g0_1.2.2.1/\(g.2.2.1=g0_1.2.2.2.1/\((z1u I g.1 []=z1u I g0_1.1 (fwd (List.take g0_1.2.1 (z5e I g0_1.1)))/\(g.2.2.2=g0_1.2.2.2.2/\((none:Option Nat)=none)))/\True)))))))))))))/\∀ (g_1:z2l),g_1.2.2.fst=g0_1.2.2.fst/\g_1.2.2.2.fst=g0_1.2.2.2.fst/\g_1.fst=g0_1.fst/\g_1.2.fst <= (z5e I g_1.fst).length->(decide ((↑g_1.2.1:Int)<↑(z5e I g_1.1).length)=true->((0:Int) <= ↑g_1.2.1/\((↑g_1.2.1:Int)<↑(z3w (z5e I g_1.1)).length))/\(↑g_1.2.1:Int).toNat<(z3w (z5e I g_1.1)).length/\∀ (x:Int),(z3w (z5e I g_1.1))[(↑g_1.2.1:Int).toNat]? = some x->((0:Int) <= ↑g_1.1/\((↑g_1.1:Int)<↑(DK.recs (MK.int IntKind.i64) [MK.bool] (z1u I g_1.1 (fwd (List.take g_1.2.1 (z5e I g_1.1))))).len))/\(↑g_1.1:Int).toNat<(z1u I g_1.1 (fwd (List.take g_1.2.1 (z5e I g_1.1)))).length/\∀ (x_1:List (List Int)),(z1u I g_1.1 (fwd (List.take g_1.2.1 (z5e I g_1.1))))[(↑g_1.1:Int).toNat]? = some x_1->(zah x_1 g_1 I g0_1 x)/\(zah x_1 g_1 I g0_1 x)/\(zah x_1 g_1 I g0_1 x))/\(decide ((↑g_1.2.1:Int)<↑(z5e I g_1.1).length)=false->PieceOk (↑I.sup.length:Int) (z2i I) (z0w I) (↑g_1.1:Int) (1:Nat)/\∃ (g0_2:z2l),((g0_2.2.2.fst=g0_2.2.2.fst/\(g0_2.2.2.2.fst=g0_2.2.2.2.fst/\(g0_2.fst=g0_2.fst/\(g0_2.2.fst <= (z7k I g0_2.fst).length))))/\((0=0/\(0=0/\((↑I.sup.length:Int)=↑I.sup.length/\((↑g_1.1:Int)=↑g0_2.1/\((↑g_1.1:Int)=↑g0_2.1/\(True/\((↑(z0l (z2i I) (z0w I) (↑g_1.1:Int) (1:Nat)).length:Int)=↑(z7k I g0_2.1).length/\((0:Int)=↑g0_2.2.1/\True))))))))/\(z0l (z2i I) (z0w I) (↑g_1.1:Int) (1:Nat)=z3w (z7k I g0_2.1)/\((z6d I)/\(I.arcs=I.arcs/\(z2i I=z2i I/\(z0w I=z0w I/\((z3b)/\(I.sup=I.sup/\(I.arcs=I.arcs/\(g_1.2.2.1=g0_2.2.2.1/\(g_1.2.2.2.1=g0_2.2.2.2.1/\((z1u I g_1.1 (fwd (List.take g_1.2.1 (z5e I g_1.1)))=z1u I g0_2.1 (fwd (z5e I g0_2.1) ++ bwd (List.take g0_2.2.1 (z7k I g0_2.1)))/\(g_1.2.2.2.2=g0_2.2.2.2.2/\((none:Option Nat)=none)))/\True)))))))))))))/\∀ (g_2:z2l),g_2.2.2.fst=g0_2.2.2.fst/\g_2.2.2.2.fst=g0_2.2.2.2.fst/\g_2.fst=g0_2.fst/\g_2.2.fst <= (z7k I g_2.fst).length->(decide ((↑g_2.2.1:Int)<↑(z7k I g_2.1).length)=true->((0:Int) <= ↑g_2.2.1/\((↑g_2.2.1:Int)<↑(z3w (z7k I g_2.1)).length))/\(↑g_2.2.1:Int).toNat<(z3w (z7k I g_2.1)).length/\∀ (x:Int),(z3w (z7k I g_2.1))[(↑g_2.2.1:Int).toNat]? = some x->((0:Int) <= ↑g_2.1/\((↑g_2.1:Int)<↑(DK.recs (MK.int IntKind.i64) [MK.bool] (z1u I g_2.1 (fwd (z5e I g_2.1) ++ bwd (List.take g_2.2.1 (z7k I g_2.1))))).len))/\(↑g_2.1:Int).toNat<(z1u I g_2.1 (fwd (z5e I g_2.1) ++ bwd (List.take g_2.2.1 (z7k I g_2.1)))).length/\∀ (x_1:List (List Int)),(z1u I g_2.1 (fwd (z5e I g_2.1) ++ bwd (List.take g_2.2.1 (z7k I g_2.1))))[(↑g_2.1:Int).toNat]? = some x_1->(zag x_1 g_2 I g0_2 x)/\(zag x_1 g_2 I g0_2 x)/\(zag x_1 g_2 I g0_2 x))/\(decide ((↑g_2.2.1:Int)<↑(z7k I g_2.1).length)=false->∃ (g':z5a),(g'.2.fst=g0.2.fst/\(g'.2.2.fst=g0.2.2.fst/\(g'.fst <= I.sup.length)))/\(I.sup.length - g'.fst<I.sup.length - g.fst/\((0=0/\(0=0/\((↑I.sup.length:Int)=↑I.sup.length/\(IntKind.i64.wrap ((↑g_2.1:Int)+(1:Int))=(↑g'.1:Int)/\True))))/\((z6d I)/\(I.arcs=I.arcs/\(z2i I=z2i I/\(z0w I=z0w I/\((z3b)/\(I.sup=I.sup/\(I.arcs=I.arcs/\(g_2.2.2.1=g'.2.1/\(g_2.2.2.2.1=g'.2.2.1/\((z1u I g_2.1 (fwd (z5e I g_2.1) ++ bwd (List.take g_2.2.1 (z7k I g_2.1)))=z1u I g'.1 []/\(g_2.2.2.2.2=g'.2.2.2/\((none:Option Nat)=none)))/\True)))))))))))))))/\(decide ((↑g.1:Int)<↑I.sup.length)=false->∃ (g_1:List Int × List Int × Rows3),BuildP I g_1.1 g_1.2.1 g_1.2.2/\(∃ (V:Nat->List Value),(0=0/\True)/\((z3b)/\(g.2.1=g_1.1/\(g.2.2.1=g_1.2.1/\((z1u I g.1 []=g_1.2.2/\(g.2.2.2=V ((0:Nat)+(1:Nat)+(1:Nat)+(1:Nat))/\((none:Option Nat)=none)))/\True)))))))
theorem build20_q (I:Inst) (ty0 ty1:TypeId):zfe I ty0 ty1=zb3 TT zkg (build20_I I) (zff I) Tryz.f44 [.agg [.row 0,.row 1]] [(0,.row false ty0 (.ints .i64 I.sup)),(1,.row false ty1 (.arcs I.arcs))] (zkh I):=by kernel_rfl
theorem build20_E (I:Inst) (ty0 ty1:TypeId) (hp:z05 I=0):FVcR TT zkg (build20_I I) (zff I) Tryz.f44 [.agg [.row 0,.row 1]] [(0,.row false ty0 (.ints .i64 I.sup)),(1,.row false ty1 (.arcs I.arcs))] (zkh I):=by
 refine FVcR.of (zfe I ty0 ty1) (build20_q I ty0 ty1) ?_
 unfold zfe
 delta zc3 z6e z6d z89 z88 z87 z3b z4b z6c zc2 z2g z34 z59 z4g z58 z2k zah zag z0o z0q z0z z2l z5a
 simp only [eq_self,exists_const,forall_const,ne_eq,Int.toNat_natCast,zSS,z06]
 have hs64:=z0d hp
 have f1:((0:Int) <= (I.arcs.length:Int)/\(I.arcs.length:Int) <= 1000000000)=True:=eq_true (by omega)
 have f2:((0:Int) <= (I.sup.length:Int)/\(I.sup.length:Int) <= 1000000000)=True:=eq_true (by omega)
 have f3:(0+I.sup.length <= 1000000000)=True:=eq_true (by omega)
 have f4:(∃ g:List Value,List.replicate I.sup.length []=z1u I 0 []/\List.replicate I.sup.length (Value.slice none 0 0)=g)=True:=eq_true ⟨_,stpsK_zero I,rfl⟩
 simp only [f1,f2,f3,f4,true_and,and_true]
 intro vs0
 refine ⟨(0,_,_,vs0),⟨⟨Nat.zero_le _,LowI.begin hp⟩,rfl,rfl,rfl,rfl⟩,?_⟩
 rintro ⟨a,x,o,vs⟩ ⟨ha,hL⟩
 dsimp only at ha hL ⊢
 refine ⟨fun h1=>⟨by omega,by omega,fun y hy=>?_⟩,fun h1=>?_⟩
 ·have hal:a<I.arcs.length:=by omega
  have hk:=z1p hp hal
  have hey:z22 I a=y:=z2e hy
  have hxb:=hL.xb hp ha
  have l0:=hk.l0
  have l1:=hk.l1
  have hn:=hL.next hp hal
  rw [hey] at l0 l1 hn
  exact ⟨⟨⟨hp,by omega,by omega⟩,hL.over.lx,hL.over.lo,hxb.1,hxb.2,by omega,by omega⟩,(a+1,_,_,vs),⟨by dsimp only; omega,hn⟩,by dsimp only; omega,by rw [w64 (by omega) (by omega)]; dsimp only; omega,rfl,rfl,rfl⟩
 have ea:a=I.arcs.length:=by omega
 subst ea
 refine ⟨⟨by omega,by omega⟩,(0,x,o,vs),⟨Nat.zero_le _,rfl,rfl,rfl,rfl,rfl⟩,?_⟩
 rintro ⟨n,x',o',vs⟩ ⟨h2,h3,hn⟩
 dsimp only at h2 h3 hn ⊢
 subst h2 h3
 refine ⟨fun h4=>⟨piece_ok hp (by omega) (by omega),?_⟩,fun h4=>?_⟩
 rotate_left
 ·have en:n=I.sup.length:=by omega
  subst en
  exact ⟨(x',o',z1u I I.sup.length []),⟨hL,steps_ok hp⟩,fun _=>vs,rfl,rfl,rfl,rfl⟩
 have hn2:n<I.sup.length:=by omega
 have q0:z0l (z2i I) (z0w I) (n:Int) 0=z3w (z5e I n):=piece_is hn2 (by omega)
 have q1:z0l (z2i I) (z0w I) (n:Int) 1=z3w (z7k I n):=piece_is hn2 (by omega)
 have c0:(z5e I n).length <= 256:=Nat.le_trans (z9a I (2 * n) I.arcs.length) hs64.2
 have c1:(z7k I n).length <= 256:=Nat.le_trans (z9a I (2 * n+1) I.arcs.length) hs64.2
 refine ⟨(n,0,x',o',vs),⟨Nat.zero_le _,⟨rfl,rfl,by rw [q0,zi1],rfl⟩,q0,rfl,rfl,rfl,rfl⟩,?_⟩
 rintro ⟨n1,k,x1,o1,vs⟩ ⟨h5,h6,h7,hk⟩
 dsimp only at h5 h6 h7 hk ⊢
 subst h5 h6 h7
 have dl:∀ t,DK.len (.recs (MK.int IntKind.i64) [MK.bool] t)=t.length:=fun _=>rfl
 have hrl:∀ q:List Stp,q.length <= 600->∀ r,(z1u I n1 q)[n1]? = some r->r.length <= 600:=fun q hq r hr=>by
  rw [z6s hn2,if_neg (Nat.lt_irrefl _),if_pos rfl] at hr
  cases hr
  rw [List.length_map]; exact hq
 simp only [zi1,z6t,dl]
 refine ⟨fun h8=>⟨by omega,by omega,fun z hz=>?_⟩,fun h8=>?_⟩
 ·obtain ⟨b,hb,rfl⟩:=natI_get hz
  refine ⟨by omega,by omega,fun r hr=>?_⟩
  have hr2:=hrl _ (by simp [fwd]; omega) r hr
  have e1:fwd ((z5e I n1).take (k+1))=fwd ((z5e I n1).take k) ++ [(b,false)]:=by rw [z1i hb]; simp [fwd]
  have e2:(z1u I n1 (fwd ((z5e I n1).take k))).set n1 (r ++ [[(b:Int),bif false then 1 else 0]])=z1u I n1 (fwd ((z5e I n1).take (k+1))):=by rw [e1]; exact stpsK_set (b,false) hr
  repeat' first
   | exact ⟨by omega,by omega,by omega,fun u=>⟨(n1,k+1,x1,o1,_),⟨rfl,rfl,rfl,by dsimp only; omega⟩,by dsimp only; omega,⟨rfl,rfl,rfl,by rw [w64 (by omega) (by omega)]; dsimp only; omega⟩,rfl,rfl,rfl,e2,rfl⟩⟩
   | refine And.intro ?_ ?_
 have ek:k=(z5e I n1).length:=by omega
 subst ek
 refine ⟨piece_ok hp hn2 (by omega),(n1,0,x1,o1,vs),⟨Nat.zero_le _,⟨rfl,rfl,by rw [q1,zi1],rfl⟩,q1,rfl,rfl,?_,rfl⟩,?_⟩
 ·dsimp only
  rw [List.take_length]
  simp [bwd]
 rintro ⟨n2,k,x2,o2,vs⟩ ⟨h5,h6,h7,hk2⟩
 dsimp only at h5 h6 h7 hk2 ⊢
 subst h5 h6 h7
 refine ⟨fun h9=>⟨by omega,by omega,fun z hz=>?_⟩,fun h9=>?_⟩
 ·obtain ⟨b,hb,rfl⟩:=natI_get hz
  refine ⟨by omega,by omega,fun r hr=>?_⟩
  have hr2:=hrl _ (by simp [fwd,bwd]; omega) r hr
  have e1:fwd (z5e I n2) ++ bwd ((z7k I n2).take (k+1))=(fwd (z5e I n2) ++ bwd ((z7k I n2).take k)) ++ [(b,true)]:=by rw [z1i hb]; simp [bwd]
  have e2:(z1u I n2 (fwd (z5e I n2) ++ bwd ((z7k I n2).take k))).set n2 (r ++ [[(b:Int),bif true then 1 else 0]])=z1u I n2 (fwd (z5e I n2) ++ bwd ((z7k I n2).take (k+1))):=by rw [e1]; exact stpsK_set (b,true) hr
  repeat' first
   | exact ⟨by omega,by omega,by omega,fun u=>⟨(n2,k+1,x2,o2,_),⟨rfl,rfl,rfl,by dsimp only; omega⟩,by dsimp only; omega,⟨rfl,rfl,rfl,by rw [w64 (by omega) (by omega)]; dsimp only; omega⟩,rfl,rfl,rfl,e2,rfl⟩⟩
   | refine And.intro ?_ ?_
 have ek:k=(z7k I n2).length:=by omega
 subst ek
 refine ⟨(n2+1,x2,o2,vs),⟨rfl,rfl,by dsimp only; omega⟩,by dsimp only; omega,by rw [w64 (by omega) (by omega)]; dsimp only; omega,rfl,rfl,?_,rfl⟩
 dsimp only
 rw [List.take_length]
 exact stpsK_next I n2
theorem build20_ok:SpecOk Tryz.prog build20_n true (z0y true zfg) :=
 z3r z0h (show z14 Tryz.prog zkg from z00 zm8 (z00 New_ok (z00 out20_ok (z00 in20_ok (z04))))) (by kernel_rfl) mixedOrders Tryz.func44 rfl rfl (by kernel_rfl) (n:=1) (by decide +kernel) (I:=build20_IA) (fun _ _=>z07) (A:=build20_A)
  (fun args h r hr=>by
   unfold zfg at hr
   split at hr
   ·rename_i ty0 I_s ty1 I_a; cases hr; refine ⟨rfl,fun hp=>?_⟩; have hE:=build20_E ⟨I_s,I_a⟩ ty0 ty1 hp; exact hE
   ·cases hr)
def Solve_r (I:Inst):FRel:={ pre:=z05 I=0->SmallI I,G:=(Cert) × (Int),post:=fun ⟨c,e⟩=>SolveP I c e,out:=fun ⟨c,e⟩=>{ pre:=True,res:=.tup [.agg [.int .i64 (c).kind,.row 2,.row 3,.row 4,.row 5],.int .u16 (e)],rows:=[.row 2 (.ints .i64 (c).flow),.row 2 (.ints .i64 (c).pot),.row 4 (.bools (c).side),.row 3 (.ints .i64 (c).cycle)],eff:=[] } }
def Solve_fs:FR:=fun args h=>match args,h with
 | [.agg [.row 0,.row 1]],[(0,.row false ty0 (.ints .i64 I_s)),(1,.row false ty1 (.arcs I_a))]=>some (Solve_r ⟨I_s,I_a⟩)
 | _,_=>none
def Solve_an (I:Inst):List (Nat × Ann):=[]
def Solve_A:List SV->z0e->List (Nat × Ann):=fun _ _=>[]
def Solve_g:z0c:=[(zbw,(true,z02 true z6y)),(build20_n,(true,z0y true zfg)),(fill20_n,(false,z0y false zl1)),(round20_n,(true,z0y true zgj)),(cheap20_n,(false,z0y false zfk)),(price20_n,(true,z0y true zg9))]
abbrev Solve_n:Nat:=20
def Solve_I (I:Inst):List (Nat × z09):=[]
def Solve_IA:List SV->z0e->List (Nat × z09):=fun _ _=>[]
def Solve_E0 (I : Inst) (ty0 ty1 : TypeId) : Prop :=
      True /\
 ((z05 I != (0:Int))=true ->
 ∃ (g:Cert × Int),
 SolveP I g.1 g.2 /\
 ((((0:Int)=g.1.kind/\True/\True/\True/\True/\True)/\z05 I=g.2/\True)/\True)/\[]=g.1.flow/\[]=g.1.pot/\[]=g.1.side/\[]=g.1.cycle/\True) /\
 ((z05 I != (0:Int))=false ->
 z05 I=(0:Int) /\
 ∀ (g:List Int × List Int × Rows3),
 BuildP I g.1 g.2.1 g.2.2 ->
 ∀ (V:Nat->List Value),
 (z05 I=(0:Int)/\FillI I g.1 g.2.1/\AtOk I g.2.2) /\
 ∀ (g:List Int × List Int × List Bool × Bool),
 FillP I g.1 g.2.1 g.2.2.1 g.2.2.2 ->
 (g.2.2.2=true ->
 ∃ (g_1:Cert × Int),
 SolveP I g_1.1 g_1.2 /\
 ((((2:Int)=g_1.1.kind/\True/\True/\True/\True/\True)/\(0:Int)=g_1.2/\True)/\True) /\
 []=g_1.1.flow/\[]=g_1.1.pot/\g.2.2.1=g_1.1.side/\[]=g_1.1.cycle/\True) /\
 (g.2.2.2=false ->
 z05 I=(0:Int) /\
 ∀ (g_1:List Int × Bool),
 RoundP I g_1.1 g_1.2 ->
 (g_1.2=true ->
 ∃ (g_2:Cert × Int),
 SolveP I g_2.1 g_2.2 /\
 ((((3:Int)=g_2.1.kind/\True/\True/\True/\True/\True)/\(0:Int)=g_2.2/\True)/\True) /\
 g.1=g_2.1.flow/\[]=g_2.1.pot/\[]=g_2.1.side/\g_1.1=g_2.1.cycle/\True) /\
 (g_1.2=false ->
 z05 I=(0:Int) /\
 ∀ (g:List Int × List Int × Rows3),
 BuildP I g.1 g.2.1 g.2.2 ->
 ∀ (V:Nat->List Value),
 (z05 I=(0:Int) /\
 OverOf I g.1 g.2.1 /\
 (∀ (a:Nat),a<I.arcs.length->g.1.getD a (0:Int)=(z22 I a).low) /\
 GreatOk I g.2.1/\(∃ (π:Nat->Int),z8y I (Ql.endS I) π)/\∃ (y:List Int),A64 y/\z1a I y=(0:Int)) /\
 ∀ (g:List Int × List Int),
 CheapP I g.1 g.2 ->
 (z05 I=(0:Int) /\
 g.1.length=I.arcs.length /\
 XB g.1/\∃ (π:Nat->Int),z8y I (fun (s:Stp)=>Ql.endS I s || decide ((0:Int)<rmS I g.1 s)) π) /\
 ∀ (g_2:List Int),
 PriceP I g.1 g_2 ->
 ∃ (g_3:Cert × Int),
 SolveP I g_3.1 g_3.2 /\
 ((((1:Int)=g_3.1.kind/\True/\True/\True/\True/\True)/\(0:Int)=g_3.2/\True)/\True) /\
 g.1=g_3.1.flow/\g_2=g_3.1.pot/\[]=g_3.1.side/\[]=g_3.1.cycle/\True)))
theorem Solve_q (I:Inst) (ty0 ty1:TypeId):Solve_E0 I ty0 ty1=zb3 TT Solve_g (Solve_I I) (Solve_an I) Tryz.f20 [.agg [.row 0,.row 1]] [(0,.row false ty0 (.ints .i64 I.sup)),(1,.row false ty1 (.arcs I.arcs))] (Solve_r I):=by kernel_rfl
theorem Solve_E (I:Inst) (ty0 ty1:TypeId) (hp:z05 I=0->SmallI I):FVcR TT Solve_g (Solve_I I) (Solve_an I) Tryz.f20 [.agg [.row 0,.row 1]] [(0,.row false ty0 (.ints .i64 I.sup)),(1,.row false ty1 (.arcs I.arcs))] (Solve_r I):=by
 refine FVcR.of (Solve_E0 I ty0 ty1) (Solve_q I ty0 ty1) ?_
 unfold Solve_E0
 simp only [eq_self,exists_const,forall_const,ne_eq,Int.toNat_natCast,zSS,z06]
 refine ⟨fun h=>⟨(⟨0,[],[],[],[]⟩,_),solve_bad h,⟨rfl,rfl⟩,rfl,rfl,rfl,rfl⟩,fun hr=>⟨hr,?_⟩⟩
 rintro ⟨x,o,t⟩ hB
 have hF:=build_fill hr hB
 refine ⟨⟨hr,hF,hB.at_⟩,?_⟩
 rintro ⟨x1,o1,m,f⟩ hf
 dsimp only at hf ⊢
 refine ⟨fun h=>?_,fun h=>⟨hr,?_⟩⟩
 ·subst h; exact ⟨(⟨2,[],[],m,[]⟩,0),solve_cut hr hf,⟨rfl,rfl⟩,rfl,rfl,rfl,rfl⟩
 subst h
 rintro ⟨l,f⟩ hl
 dsimp only at hl ⊢
 refine ⟨fun h=>?_,fun h=>⟨hr,?_⟩⟩
 ·subst h; exact ⟨(⟨3,x1,[],[],l⟩,0),solve_ray hr hf hl,⟨rfl,rfl⟩,rfl,rfl,rfl,rfl⟩
 subst h
 rintro ⟨x2,o2,t2⟩ hB2
 refine ⟨build_cheap hr (hp hr) hB2 (hl.no rfl).2 ⟨x1,fits_len hf,(hf.no rfl).2⟩,?_⟩
 rintro ⟨x3,o3⟩ hC
 exact ⟨⟨hr,(fitsF_zero.1 hC.fits).2.1,hC.yb.xb,hC.pot⟩,fun p hp=>⟨(⟨1,x3,p,[],[]⟩,0),solve_best hr hC hp,⟨rfl,rfl⟩,rfl,rfl,rfl,rfl⟩⟩
theorem Solve_ok:SpecOk Tryz.prog Solve_n true (z0y true Solve_fs) :=
 z3r z0h (show z14 Tryz.prog Solve_g from z00 za9 (z00 build20_ok (z00 fill20_ok (z00 round20_ok (z00 cheap20_ok (z00 price20_ok (z04))))))) (by kernel_rfl) mixedOrders Tryz.func20 rfl rfl (by kernel_rfl) (n:=1) (by decide +kernel) (I:=Solve_IA) (fun _ _=>z07) (A:=Solve_A)
  (fun args h r hr=>by
   unfold Solve_fs at hr
   split at hr
   ·rename_i ty0 I_s ty1 I_a; cases hr; refine ⟨rfl,fun hp=>?_⟩; have hE:=Solve_E ⟨I_s,I_a⟩ ty0 ty1 hp; exact hE
   ·cases hr)
end Go.Proofs.YtapeenpimcffpaaGreat
end
section
namespace Go.Ql
open Go Go.Vc
theorem zd7 {α:Type} {l r:List α} {k:Nat} (d:α) (h:k<l.length):(l ++ r).getD k d=l.getD k d:=by
 rw [List.getD_eq_getElem?_getD,List.getD_eq_getElem?_getD,List.getElem?_append_left h]
theorem zhw {α:Type} (l:List α) (b d:α):(l ++ [b]).getD l.length d=b:=by
 rw [List.getD_eq_getElem?_getD,List.getElem?_append_right (Nat.le_refl _),Nat.sub_self]; rfl
theorem cost_pre {l r:List Arc} {x:List Int}:∀ k,k <= l.length->z3m (l ++ r) x k=z3m l x k
 | 0,_=>rfl
 | k+1,h=>by simp only [z3m]; rw [cost_pre k (by omega),zd7 _ (by omega)]
theorem net_pre {n:Int} {l r:List Arc} {x:List Int} {v:Int}:∀ k,k <= l.length->z52 n (l ++ r) x k v=z52 n l x k v
 | 0,_=>rfl
 | k+1,h=>by simp only [z52]; rw [net_pre k (by omega),zd7 _ (by omega)]
theorem cross_pre {m:Int} {S:List Bool} {l r:List Arc} {x:List Int}:∀ k,k <= l.length->z6g m S (l ++ r) x k=z6g m S l x k
 | 0,_=>rfl
 | k+1,h=>by simp only [z6g]; rw [cross_pre k (by omega),zd7 _ (by omega)]
theorem cost_zero {l:List Arc} {x:List Int} (h:∀ a ∈ l,a.cost=0):∀ k,k <= l.length->z3m l x k=0
 | 0,_=>rfl
 | k+1,hk=>by
  have e:(l.getD k default).cost=0:=by rw [List.getD_eq_getElem?_getD,List.getElem?_eq_getElem (by omega)]; exact h _ (List.getElem_mem _)
  simp only [z3m]; rw [cost_zero h k (by omega),e,Int.zero_mul]; rfl
section
variable {p:ProbD}
theorem FitP.bare (h:FitP p):(∀ y ∈ p.inst.sup,y=0)/\∀ a ∈ p.inst.arcs,a.low=0/\a.cost=0:=bareF_iff.1 h.b
theorem FitP.supD (h:FitP p) (v:Nat):p.inst.sup.getD v 0=0:=by
 rw [List.getD_eq_getElem?_getD]
 cases e:p.inst.sup[v]? with
 | none=>rfl
 | some y=>exact h.bare.1 y (List.mem_of_getElem? e)
theorem of_cost (h:FitP p) (x:List Int):z9e (ofP p) x = -x.getD p.inst.arcs.length 0:=by
 unfold z9e
 rw [z9p]
 simp only [z3m]
 unfold ofP
 rw [cost_pre _ (Nat.le_refl _),cost_zero (fun a ha=>(h.bare.2 a ha).2) _ (Nat.le_refl _),zhw]
 unfold zb4
 dsimp only; omega
theorem OnP.back (hf:FitP p) {S:List Bool} (h:OnP p S) (f:Int):zh1 p.inst.sup.length S (zb4 p) f = -f:=by
 have h1:=nodeP_iff.1 hf.s; have h2:=nodeP_iff.1 hf.t
 have hin:(zb4 p).In p.inst.sup.length:=⟨h2.1,h2.2,h1.1,h1.2⟩
 obtain ⟨e1,e2⟩:=on_in (side:=S) hin
 have e3:(zb4 p).src=p.t:=rfl
 have e4:(zb4 p).dst=p.s:=rfl
 unfold zh1
 rw [e1,e2,e3,e4,h.s,h.t]
 simp
theorem cross_back (h0:ofE p=0) {S:List Bool} (h:OnP p S) {x:List Int} (hx:A64 x) (hf:z1a (ofP p) x=0):z6g p.inst.sup.length S p.inst.arcs x p.inst.arcs.length=x.getD p.inst.arcs.length 0:=by
 have hfit:=(ofE_zero.1 h0).1
 have hr:=z5m h0
 have hs:=z0d hr
 have e:=fits_need S (by omega) hx (z1n hr).1 hf
 have en:zb6 (ofP p) S=0:=by
  unfold zb6
  rw [z8j]
  rw [z16 (g:=fun _=>0) (fun v _=>by show (if S.getD v false then p.inst.sup.getD v 0 else 0)=0; rw [hfit.supD]; simp),z5i]
 rw [en,z9p] at e
 simp only [z6g] at e
 unfold ofP at e
 rw [cross_pre _ (Nat.le_refl _),zhw,h.back hfit] at e
 dsimp only at e
 omega
theorem of_fit (h0:ofE p=0) {x:List Int} (hx:A64 x) (hf:z1a (ofP p) x=0):∀ j a,p.inst.arcs[j]? = some a->fitF a (x.getD j 0)=true:=fun j a ha=>by
 have hj:=(List.getElem?_eq_some_iff.1 ha).1
 obtain ⟨-,-,hb,-⟩:=(zd5 hx).1 hf
 have:=hb j (by rw [z9p]; omega)
 have e:z22 (ofP p) j=a:=by
  unfold z22 ofP
  rw [zd7 _ hj,List.getD_eq_getElem?_getD,ha]; rfl
 rw [e] at this
 unfold fitF
 rw [Bool.and_eq_true,Bool.or_eq_true,decide_eq_true_eq,decide_eq_true_eq,decide_eq_true_eq]
 exact this
theorem max_weak (h0:ofE p=0) {S:List Bool} (h:OnP p S) {x:List Int} (hx:A64 x) (hf:z1a (ofP p) x=0) {t:Int} (ht:z36 p.inst S=some t):x.getD p.inst.arcs.length 0 <= t:=by
 rw [<- cross_back h0 h hx hf]
 refine zfm (of_fit h0 hx hf) _ (Nat.le_refl _) t ?_
 rw [List.take_length]; exact ht
theorem back_arc (h0:ofE p=0):z22 (ofP p) p.inst.arcs.length=zb4 p:=zhw _ _ _
theorem pre_arc {j:Nat} {a:Arc} (ha:p.inst.arcs[j]? = some a):z22 (ofP p) j=a:=by
 have hj:=(List.getElem?_eq_some_iff.1 ha).1
 unfold z22 ofP
 rw [zd7 _ hj,List.getD_eq_getElem?_getD,ha]; rfl
theorem z7w {c:Cert} {v:Nat} (hv:v<c.pot.length):(z90 p c).getD v false=decide (c.pot.getD p.t.toNat 0<c.pot.getD v 0):=by
 unfold z90
 rw [List.getD_eq_getElem?_getD,List.getElem?_map,List.getD_eq_getElem?_getD (i:=v),List.getElem?_eq_getElem hv]; rfl
structure MaxQ (p:ProbD) (f:Int) (S:List Bool):Prop where
 on:OnP p S
 room:z36 p.inst S=some f
 pos:0 <= f
 least:∀ S' t,OnP p S'->z36 p.inst S'=some t->f <= t
theorem good_max {c:Cert} (hc:z1b c) (hG:GoodP p c):MaxQ p (c.flow.getD p.inst.arcs.length 0) (z90 p c):=by
 have h0:=hG.e
 have hfit:=(ofE_zero.1 h0).1
 have hr:=z5m h0
 have hl:=hG.len
 obtain ⟨hf,hpl,hsl⟩:=(slack_char hc.2.1).1 hG.slack
 have h1:=nodeP_iff.1 hfit.s; have h2:=nodeP_iff.1 hfit.t
 have ht:(z90 p c).getD p.t.toNat false=false:=by rw [z7w (by omega)]; exact decide_eq_false (Int.lt_irrefl _)
 have hs:(z90 p c).getD p.s.toNat false=true:=by
  rw [z7w (by omega)]
  have hb:=(hsl p.inst.arcs.length (by rw [z9p]; omega)).2
  rw [back_arc h0] at hb
  have e:redN (ofP p) c.pot p.inst.arcs.length = -1 - c.pot.getD p.t.toNat 0+c.pot.getD p.s.toNat 0:=by
   unfold redN; rw [back_arc h0]; rfl
  rw [e] at hb
  refine decide_eq_true ?_
  refine Classical.byContradiction fun h=>?_
  exact (hb (by omega)).2 rfl
 have on:OnP p (z90 p c):=⟨h0,by unfold z90; rw [List.length_map]; exact hl.2,hs,ht⟩
 have hin:=zdo hfit.r
 have red:∀ j a,p.inst.arcs[j]? = some a->redN (ofP p) c.pot j = -c.pot.getD a.src.toNat 0+c.pot.getD a.dst.toNat 0:=fun j a ha=>by
  unfold redN; rw [pre_arc ha,(hfit.bare.2 a (List.mem_of_getElem? ha)).2]; omega
 have ho:∀ j a,p.inst.arcs[j]? = some a->zca p.inst.sup.length (z90 p c) a=true->¬ a.cap=inf/\c.flow.getD j 0=a.cap:=fun j a ha hoa=>by
  have hj:=(List.getElem?_eq_some_iff.1 ha).1
  have hi:=hin a (List.mem_of_getElem? ha)
  rw [(on_in hi).1,Bool.and_eq_true,Bool.not_eq_true'] at hoa
  obtain ⟨i1,i2,i3,i4⟩:=hi
  rw [z7w (by omega),z7w (by omega),decide_eq_true_eq,decide_eq_false_iff_not] at hoa
  have:=(hsl j (by rw [z9p]; omega)).2
  rw [red j a ha,pre_arc ha] at this
  exact (this (by omega)).symm
 have hi:∀ j a,p.inst.arcs[j]? = some a->inA p.inst.sup.length (z90 p c) a=true->c.flow.getD j 0=a.low:=fun j a ha hia=>by
  have hj:=(List.getElem?_eq_some_iff.1 ha).1
  have hi:=hin a (List.mem_of_getElem? ha)
  rw [(on_in hi).2,Bool.and_eq_true,Bool.not_eq_true'] at hia
  obtain ⟨i1,i2,i3,i4⟩:=hi
  rw [z7w (by omega),z7w (by omega),decide_eq_true_eq,decide_eq_false_iff_not] at hia
  have:=(hsl j (by rw [z9p]; omega)).1
  rw [red j a ha,pre_arc ha] at this
  exact this (by omega)
 obtain ⟨t,e1,e2⟩:=badA_none (m:=(p.inst.sup.length:Int)) (side:=z90 p c) (l:=p.inst.arcs) (fun a ha hoa=>by
  obtain ⟨j,hj⟩:=List.mem_iff_getElem?.1 ha
  exact (ho j a hj hoa).1)
 have e3:=zfl ho hi p.inst.arcs.length (Nat.le_refl _)
 rw [List.take_length,<- e2,cross_back h0 on hc.1 hf] at e3
 refine ⟨on,by rw [e3]; exact e1,?_,fun S' t' h' ht'=>max_weak h0 h' hc.1 hf ht'⟩
 obtain ⟨-,-,hb,-⟩:=(zd5 hc.1).1 hf
 have:=(hb p.inst.arcs.length (by rw [z9p]; omega)).1
 rw [back_arc h0] at this
 exact this
theorem of_feas (h0:ofE p=0):FeasQ (ofP p):=by
 have hfit:=(ofE_zero.1 h0).1
 have hx:A64 (List.replicate (ofP p).arcs.length 0):=fun y hy=>by rw [(List.mem_replicate.1 hy).2]; unfold I64; omega
 have hz:∀ k,(List.replicate (ofP p).arcs.length (0:Int)).getD k 0=0:=fun k=>by
  rw [List.getD_eq_getElem?_getD,List.getElem?_replicate]; split <;> rfl
 refine ⟨_,hx,(zd5 hx).2 ⟨z5m h0,List.length_replicate,fun a ha=>?_,fun v hv=>?_⟩⟩
 ·rw [hz]
  obtain ⟨-,hm⟩:=z85 ha
  have hb:=(zf6 (z5m h0)) _ hm
  have hl:(z22 (ofP p) a).low=0:=by
   rcases List.mem_append.1 (show z22 (ofP p) a ∈ p.inst.arcs ++ [zb4 p] from hm) with h | h
   ·exact (hfit.bare.2 _ h).1
   ·rw [List.mem_singleton] at h; rw [h]; rfl
  rw [hl]
  exact ⟨Int.le_refl _,hb.2.imp_right fun h=>h.1⟩
 ·have:∀ k,z52 (ofP p).sup.length (ofP p).arcs (List.replicate (ofP p).arcs.length 0) k v=0:=fun k=>by
   induction k with
   | zero=>rfl
   | succ k ih=>simp only [z52]; rw [ih,hz]; unfold z4t; simp
  rw [this]
  exact (hfit.supD v).symm
theorem zi8 {m:Int} {S:List Bool}:∀ {l:List Arc} {s t:Int},z11 m S l s=some t->∀ a ∈ l,zca m S a=true->a.cap ≠ inf
 | [],_,_,_,a,ha,_=>by simp at ha
 | b :: l,s,t,h,a,ha,ho=>by
  rw [z3h] at h
  rcases List.mem_cons.1 ha with rfl | ha
  ·rw [if_pos ho] at h
   split at h
   ·cases h
   ·rename_i hc; exact hc
  ·split at h
   ·split at h
    ·cases h
    ·exact zi8 h a ha ho
   ·split at h
    ·exact zi8 h a ha ho
    ·exact zi8 h a ha ho
theorem ray_none (h0:ofE p=0) (hn:NegQ (ofP p)) {S:List Bool} (h:OnP p S):z36 p.inst S=none:=by
 cases e:z36 p.inst S with
 | none=>rfl
 | some t =>
  exfalso
  obtain ⟨l,hl,-⟩:=hn
  have hfit:=(ofE_zero.1 h0).1
  have hin:=zdo hfit.r
  refine pot_turns (I:=ofP p) (π:=fun v=>if S.getD v false then 0 else 1) (fun s hs hc=>?_) hl
  obtain ⟨a,k⟩:=s
  unfold endS at hc
  rw [Bool.and_eq_true,Bool.not_eq_true',decide_eq_true_eq] at hc
  obtain ⟨hk,hc⟩:=hc
  dsimp only at hk hc
  subst hk
  have hm:=(z85 hs).2
  unfold toS frS csS
  simp only [Bool.false_eq_true,if_false]
  rcases List.mem_append.1 (show z22 (ofP p) a ∈ p.inst.arcs ++ [zb4 p] from hm) with hq | hq
  ·generalize z22 (ofP p) a=b at *
   rw [(hfit.bare.2 b hq).2]
   have ho:=zi8 e b hq
   rw [(on_in (hin b hq)).1] at ho
   cases e1:S.getD b.src.toNat false with
   | false=>cases S.getD b.dst.toNat false <;> simp
   | true =>
    cases e2:S.getD b.dst.toNat false with
    | true=>simp
    | false=>rw [e1,e2] at ho; exact absurd hc (ho rfl)
  ·rw [List.mem_singleton] at hq
   rw [hq]
   show (if S.getD p.s.toNat false=true then (0:Int) else 1) <= (if S.getD p.t.toNat false=true then 0 else 1) + -1
   rw [h.s,h.t]; decide
end
theorem solve_max {p:ProbD} (h0:ofE p=0) {c:Cert} {e:Int} (hS:SolveP (ofI p) c e):e=0/\z1b c/\(c.kind=1/\z1t p c=true/\MaxQ p (z5v p c) (z63 p c) ∨ c.kind=3/\z1t p c=false/\∀ S,OnP p S->z36 p.inst S=none):=by
 rw [zh9 h0] at hS
 have hr:=z5m h0
 obtain ⟨h1,h2,-⟩:=solve_ok hr hS
 have hs:=z0d hr
 refine ⟨(hS.ok hr).1,h1,?_⟩
 obtain ⟨-,-,h3⟩:=z4h h2
 rcases h3 with h3 | h3 | h3
 ·have hG:GoodP p c:=⟨h0,h3.1,h2⟩
  have e:=goodP_iff.2 hG
  refine .inl ⟨h3.1,e,?_⟩
  unfold z5v z63
  rw [if_pos e,if_pos e]
  exact good_max h1 hG
 ·obtain ⟨x,hx,hf⟩:=of_feas h0
  exact absurd hf (zcd (by omega) (by omega) hx (z1n hr).1 h3.2)
 ·refine .inr ⟨h3.1,good_no fun g=>by have:=g.k; omega,fun S hS'=>ray_none h0 ⟨c.cycle,h3.2.2,by have:=(turns_char.1 h3.2.2).2.2.1; omega⟩ hS'⟩
theorem MaxQ.few {p:ProbD} (h0:ofE p=0) {f:Int} {S:List Bool} (h:MaxQ p f S):f <= 1125899906842624:=by
 have hr:=(ofE_zero.1 h0).1.r
 have hs:=z0d hr
 have:=zgf (m:=p.inst.sup.length) (side:=S) (zf6 hr) p.inst.arcs.length (Nat.le_refl _) f (by rw [List.take_length]; exact h.room)
 omega
theorem ofP_small {p:ProbD} (h:ProbOk p):SmallI (ofP p):=by
 have hf:=h.fit
 refine ⟨fun y hy=>?_,fun a ha=>?_⟩
 ·rw [hf.bare.1 y hy]; omega
 ·have hq:=h.nice a ha
  have:=hq.l1
  exact ⟨by omega,hq.c1.symm.imp_right fun h=>by omega⟩
end Go.Ql
end
