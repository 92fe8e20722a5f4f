/- Part of the proof: FU20, DV20, FV20, DW20, FW20, DX20, FX20, DY20, FY20, DG20, FG20, Twin. -/
import Derived.Test.YtggblkbecekbdaaGreatZG11
import Derived.Test.YtggblkbecekbdaaGreatZG14
import Derived.Test.YtggblkbecekbdaaGreatZG5
import Derived.Test.YtggblkbecekbdaaGreatZG12
import Derived.Test.YtggblkbecekbdaaGreatZG8
import Derived.Test.YtggblkbecekbdaaGreatZG9
import Derived.Test.YtggblkbecekbdaaGreatZG10
import Derived.Test.YtggblkbecekbdaaGreatZG6
import Derived.Test.YtggblkbecekbdaaGreatZG7
set_option linter.unusedVariables false
set_option linter.all false
set_option linter.unusedSimpArgs false
set_option maxRecDepth 1000000
section
namespace Go.Proofs.YtggblkbecekbdaaGreat
open Go Go.RowKit Go.Ql Go.Vc
def idx20_E0 (l : List Bool) (v : Bool) (ty0 : TypeId) : Prop :=
      ∃ (g0:Nat),
 ((g0 <= l.length/\¬v ∈ List.take g0 l)/\(True/\v=v/\(↑l.length:Int)=(↑l.length:Int)/\(0:Int)=(↑g0:Int)/\True)/\l=l/\True) /\
 ∀ (g:Nat),
 g <= l.length/\¬v ∈ List.take g l ->
 (decide ((↑g:Int)<(↑l.length:Int))=true ->
 ((0:Int) <= (↑g:Int)/\(↑g:Int)<(↑l.length:Int)) /\
 (↑g:Int).toNat<l.length /\
 ∀ (x:Bool),
 l[(↑g:Int).toNat]? = some x ->
 ((v == x)=true->((↑g:Int)=idxB l v/\True)/\True) /\
 ((v == x)=false ->
 ∃ (g':Nat),
 (g' <= l.length/\¬v ∈ List.take g' l) /\
 l.length - g'<l.length - g /\
 (True/\v=v/\(↑l.length:Int)=(↑l.length:Int)/\IntKind.i64.wrap ((↑g:Int)+(1:Int))=(↑g':Int)/\True)/\l=l/\True)) /\
 (decide ((↑g:Int)<(↑l.length:Int))=false->((-1:Int)=idxB l v/\True)/\True)
theorem idx20_q (l:List Bool) (v:Bool) (ty0:TypeId):idx20_E0 l v ty0=z2r TT idx20_g (idx20_I l v) (idx20_an l v) Tryz.f152 [.row 0,.bool v] [(0,.row false ty0 (.bools l))] (idx20_r l v):=by kernel_rfl
theorem idx20_E (l:List Bool) (v:Bool) (ty0:TypeId) (hp:l.length <= 1000000):FVc TT idx20_g (idx20_I l v) (idx20_an l v) Tryz.f152 [.row 0,.bool v] [(0,.row false ty0 (.bools l))] (idx20_r l v):=by
 refine FVc.of (idx20_E0 l v ty0) (idx20_q l v ty0) ?_
 unfold idx20_E0
 simp only [eq_self,exists_const,forall_const,ne_eq,Int.toNat_natCast,zSS,z07]
 refine ⟨0,⟨⟨Nat.zero_le _,by simp⟩,rfl⟩,fun k hk=>⟨fun h1=>⟨by omega,by omega,fun x hx=>⟨fun h2=>?_,fun h2=>⟨k+1,⟨by omega,?_⟩,by omega,by rw [w64 (by omega) (by omega)]; omega⟩⟩⟩,fun h1=>?_⟩⟩
 ·subst h2
  unfold idxB
  have hm:=List.mem_of_getElem? hx
  rw [if_pos hm]
  have hk2:=(List.getElem?_eq_some_iff.1 hx).1
  have hf:l.findIdx (· == v)=k:=by
   rw [List.findIdx_eq hk2]
   refine ⟨by simp [(List.getElem?_eq_some_iff.1 hx).2],fun j hj=>?_⟩
   rw [Bool.eq_false_iff]
   intro h3
   rw [beq_iff_eq] at h3
   exact hk.2 (List.mem_take_iff_getElem.2 ⟨j,by omega,h3⟩)
  rw [hf]
 ·rw [z1b hx,List.mem_append]
  rintro (h3 | h3)
  ·exact hk.2 h3
  ·exact h2 (by simpa using h3)
 ·unfold idxB
  rw [List.take_of_length_le (by omega)] at hk
  rw [if_neg hk.2]
theorem idx20_ok:SpecOk Tryz.prog idx20_n true (z03 true idx20_fs) :=
 z0b z0r (show z1c Tryz.prog idx20_g from z05) (by kernel_rfl) mixedOrders Tryz.func152 rfl rfl (by kernel_rfl) (n:=2) (by decide +kernel) (I:=idx20_IA) (fun _ _=>z06) (A:=idx20_A)
  (fun args h r hr=>by
   unfold idx20_fs at hr
   split at hr
   ·rename_i v ty0 l; cases hr; refine ⟨rfl,fun hp=>?_⟩; have hE:=idx20_E l v ty0 hp; exact hE
   ·cases hr)
def z89 (l : List Bool) (v : Bool) (ty0 : TypeId) : Prop :=
   l.length <= (1000000:Nat)/\(decide (idxB l v ≥ (0:Int))=l.contains v/\True)/\True
theorem contains20_q (l:List Bool) (v:Bool) (ty0:TypeId):z89 l v ty0=z2r TT z9b (zh1 l v) (zd8 l v) Tryz.f103 [.row 0,.bool v] [(0,.row false ty0 (.bools l))] (z9c l v):=by kernel_rfl
theorem contains20_E (l:List Bool) (v:Bool) (ty0:TypeId) (hp:l.length <= 1000000):FVc TT z9b (zh1 l v) (zd8 l v) Tryz.f103 [.row 0,.bool v] [(0,.row false ty0 (.bools l))] (z9c l v):=by
 refine FVc.of (z89 l v ty0) (contains20_q l v ty0) ?_
 unfold z89
 simp only [eq_self,exists_const,forall_const,ne_eq,Int.toNat_natCast,zSS,z07]
 refine ⟨hp,?_⟩
 unfold idxB
 by_cases h:v ∈ l
 ·rw [if_pos h,List.contains_iff_mem.2 h]
  exact decide_eq_true (by omega)
 ·rw [if_neg h]
  have:l.contains v=false:=by rw [Bool.eq_false_iff]; exact fun h2=>h (List.contains_iff_mem.1 h2)
  rw [this]; rfl
theorem contains20_ok:SpecOk Tryz.prog zh2 true (z03 true z8a) :=
 z0b z0r (show z1c Tryz.prog z9b from z00 idx20_ok (z05)) (by kernel_rfl) mixedOrders Tryz.func103 rfl rfl (by kernel_rfl) (n:=2) (by decide +kernel) (I:=contains20_IA) (fun _ _=>z06) (A:=contains20_A)
  (fun args h r hr=>by
   unfold z8a at hr
   split at hr
   ·rename_i v ty0 l; cases hr; refine ⟨rfl,fun hp=>?_⟩; have hE:=contains20_E l v ty0 hp; exact hE
   ·cases hr)
abbrev z1t:=List Bool × (Nat->Option Stp) × List Nat × List Nat × Nat × List Stp × Nat
abbrev z8t:=List Bool × (Nat->Option Stp) × List Nat × List Nat × Nat
abbrev zcl:=List Bool × (Nat->Option Stp) × Option Nat
abbrev z8u:=List Bool × (Nat->Option Stp) × List Nat
abbrev z20 (w:Inst) (w_x:List Int) (w_o:List Int) (w_t:Ql.Rows3) (w_v:List Value):=(((0:Int)=0/\(True/\True))/\((True/\(True/\(True/\(True/\(True/\True)))))/\(w.sup=w.sup/\(w.arcs=w.arcs/\(w_x=w_x/\(w_o=w_o/\((w_t=w_t/\(w_v=w_v))/\True)))))))
abbrev z0x (w:Inst) (x:List Int):=(toS w ((x.headD (0:Int)).toNat,x.tail.headD (0:Int) == (1:Int)))
abbrev z8s (g':z1t) (g0_1:z1t) (w:Inst) (w_x:List Int) (w_o:List Int):=(g'.2.2.fst=g0_1.2.2.fst/\(g'.2.2.2.2.fst=g0_1.2.2.2.2.fst/\(g'.2.2.2.2.2.fst=g0_1.2.2.2.2.2.fst/\(g'.2.2.2.2.2.snd <= g'.2.2.2.2.2.fst.length/\((LayI w w_x w_o g'.fst g'.2.fst (List.drop (g'.2.2.2.2.fst+(1:Nat)) g'.2.2.fst) g'.2.2.2.fst fun (s:Stp)=>s ∈ List.drop g'.2.2.2.2.2.snd g'.2.2.2.2.2.fst)/\(unN g'.fst+g'.2.2.2.fst.length=unN g0_1.fst+g0_1.2.2.2.fst.length/\(∀ (s:Stp),List.Mem s g'.2.2.2.2.2.fst->okS w s/\(g'.fst.getD (frS w s) false=true))))))))
abbrev zcg (g:z1t) (g':z1t):=(0=0/\(0=0/\(True/\(True/\(0=0/\(True/\(True/\((↑g.2.2.1.length:Int)=↑g'.2.2.1.length/\((↑g.2.2.2.2.1:Int)=↑g'.2.2.2.2.1/\(True/\((↑g.2.2.2.2.2.1.length:Int)=↑g'.2.2.2.2.2.1.length/\(IntKind.i64.wrap ((↑g.2.2.2.2.2.2:Int)+(1:Int))=(↑g'.2.2.2.2.2.2:Int)/\True))))))))))))
abbrev zch (g':z1t) (g:z1t) (w:Inst) (w_x:List Int) (w_o:List Int) (w_t:Ql.Rows3) (w_v:List Value):=(g'.2.2.2.2.2.fst.length - g'.2.2.2.2.2.snd<g.2.2.2.2.2.fst.length - g.2.2.2.2.2.snd/\((zcg g g')/\(List.map z64 g.2.2.2.2.2.1=List.map z64 g'.2.2.2.2.2.1/\(z3t g.2.2.2.1=z3t g'.2.2.2.1/\(z3t g.2.2.1=z3t g'.2.2.1/\(((0:Int)=0/\(True/\True))/\(z0k w.sup.length g.2.1=z0k w.sup.length g'.2.1/\(g.1=g'.1/\(z20 w w_x w_o w_t w_v)))))))))
abbrev zci (w_o:List Int) (g:Nat) (g':Nat):=(0=0/\(0=0/\(True/\(True/\(0=0/\(True/\(True/\((↑w_o.length:Int)=↑w_o.length/\(IntKind.i64.wrap ((↑g:Int)+(1:Int))=(↑g':Int)/\True)))))))))
def zcf (w : Inst) (w_x : List Int) (w_o : List Int) (w_t : Ql.Rows3) (w_v : List Value) (ty1 ty2 ty3 ty4 ty5 tz5 : TypeId) : Prop :=
   ((↑w.sup.length:Int)=↑w.sup.length/\((0:Int) <= ↑w.sup.length/\((↑w.sup.length:Int) <= 1000000000)))/\((↑w.sup.length:Int)=↑w.sup.length/\((0:Int) <= ↑w.sup.length/\((↑w.sup.length:Int) <= 1000000000)))/\∃ (g0:Nat),(g0 <= w.sup.length/\((0=0/\(0=0/\(True/\(True/\(0=0/\(True/\(True/\((↑w_o.length:Int)=↑w_o.length/\((0:Int)=↑g0/\True)))))))))/\([]=z3t (layK w_o g0)/\(((0:Int)=0/\(True/\True))/\((List.replicate (↑w.sup.length:Int).toNat (zs0 (z81 (MK.int IntKind.i64) [MK.bool,MK.bool]))=z0k w.sup.length fun (x:Nat)=>none)/\(List.replicate (↑w.sup.length:Int).toNat false=zhm w_o w.sup.length g0/\(z20 w w_x w_o w_t w_v)))))))/\∀ (g:Nat),g <= w.sup.length->(decide ((↑g:Int)<↑w_o.length)=true->((0:Int) <= ↑g/\((↑g:Int)<↑w_o.length))/\((↑g:Int).toNat<w_o.length/\(∀ (x:Int),w_o[(↑g:Int).toNat]? = some x->(decide (x > (0:Int))=true->((0:Int) <= ↑g/\((↑g:Int)<↑(zhm w_o w.sup.length g).length))/\((↑g:Int).toNat<(zhm w_o w.sup.length g).length/\((z3t (layK w_o g)).length+(1:Nat) <= 1000000000/\(∃ (g':Nat),g' <= w.sup.length/\(w.sup.length - g'<w.sup.length - g/\((zci w_o g g')/\(z3t (layK w_o g) ++ [(↑g:Int)]=z3t (layK w_o g')/\(((0:Int)=0/\(True/\True))/\(((z0k w.sup.length fun (x:Nat)=>none)=z0k w.sup.length fun (x:Nat)=>none)/\((zhm w_o w.sup.length g).set (↑g:Int).toNat true=zhm w_o w.sup.length g'/\(z20 w w_x w_o w_t w_v)))))))))))/\(decide (x > (0:Int))=false->∃ (g':Nat),g' <= w.sup.length/\(w.sup.length - g'<w.sup.length - g/\((zci w_o g g')/\(z3t (layK w_o g)=z3t (layK w_o g')/\(((0:Int)=0/\(True/\True))/\(((z0k w.sup.length fun (x:Nat)=>none)=z0k w.sup.length fun (x:Nat)=>none)/\(zhm w_o w.sup.length g=zhm w_o w.sup.length g'/\(z20 w w_x w_o w_t w_v)))))))))))/\(decide ((↑g:Int)<↑w_o.length)=false->∃ (g0:z8u),(((LayI w w_x w_o g0.fst g0.2.fst g0.2.snd [] fun (x:Stp)=>False)/\(g0.2.snd.length <= w.sup.length))/\((0=0/\(0=0/\(True/\(True/\(0=0/\(True/\True))))))/\(z3t (layK w_o g)=z3t g0.2.2/\(((0:Int)=0/\(True/\True))/\((z0k w.sup.length fun (x:Nat)=>none)=z0k w.sup.length g0.2.1/\(zhm w_o w.sup.length g=g0.1/\(z20 w w_x w_o w_t w_v)))))))/\∀ (g:z8u),(LayI w w_x w_o g.fst g.2.fst g.2.snd [] fun (x:Stp)=>False)/\g.2.snd.length <= w.sup.length->(decide ((↑(z3t g.2.2).length:Int) > 0)=true->∃ (g0:z8t),((g0.2.2.fst=g0.2.2.fst/\(g0.2.2.2.snd <= g0.2.2.fst.length/\((LayI w w_x w_o g0.fst g0.2.fst (List.drop g0.2.2.2.snd g0.2.2.fst) g0.2.2.2.fst fun (x:Stp)=>False)/\(unN g0.fst+g0.2.2.2.fst.length=unN g0.fst+g0.2.2.2.fst.length))))/\((0=0/\(0=0/\(True/\(True/\(0=0/\(True/\(True/\((↑(z3t g.2.2).length:Int)=↑g0.2.2.1.length/\((0:Int)=↑g0.2.2.2.2/\True)))))))))/\([]=z3t g0.2.2.2.1/\(z3t g.2.2=z3t g0.2.2.1/\(((0:Int)=0/\(True/\True))/\(z0k w.sup.length g.2.1=z0k w.sup.length g0.2.1/\(g.1=g0.1/\(z20 w w_x w_o w_t w_v))))))))/\∀ (g_1:z8t),g_1.2.2.fst=g0.2.2.fst/\g_1.2.2.2.snd <= g_1.2.2.fst.length/\(LayI w w_x w_o g_1.fst g_1.2.fst (List.drop g_1.2.2.2.snd g_1.2.2.fst) g_1.2.2.2.fst fun (x:Stp)=>False)/\unN g_1.fst+g_1.2.2.2.fst.length=unN g0.fst+g0.2.2.2.fst.length->(decide ((↑g_1.2.2.2.2:Int)<↑g_1.2.2.1.length)=true->((0:Int) <= ↑g_1.2.2.2.2/\((↑g_1.2.2.2.2:Int)<↑(z3t g_1.2.2.1).length))/\(↑g_1.2.2.2.2:Int).toNat<(z3t g_1.2.2.1).length/\∀ (x:Int),(z3t g_1.2.2.1)[(↑g_1.2.2.2.2:Int).toNat]? = some x->((0:Int) <= x/\(x<(↑(DK.recs (MK.int IntKind.i64) [MK.bool] w_t).len:Int)))/\x.toNat<List.length w_t/\∀ (x_1:List (List Int)),w_t[x.toNat]? = some x_1->∃ (g0_1:z1t),((g0_1.2.2.fst=g0_1.2.2.fst/\(g0_1.2.2.2.2.fst=g0_1.2.2.2.2.fst/\(g0_1.2.2.2.2.2.fst=g0_1.2.2.2.2.2.fst/\(g0_1.2.2.2.2.2.snd <= g0_1.2.2.2.2.2.fst.length/\((LayI w w_x w_o g0_1.fst g0_1.2.fst (List.drop (g0_1.2.2.2.2.fst+(1:Nat)) g0_1.2.2.fst) g0_1.2.2.2.fst fun (s:Stp)=>s ∈ List.drop g0_1.2.2.2.2.2.snd g0_1.2.2.2.2.2.fst)/\(unN g0_1.fst+g0_1.2.2.2.fst.length=unN g0_1.fst+g0_1.2.2.2.fst.length/\(∀ (s:Stp),List.Mem s g0_1.2.2.2.2.2.fst->okS w s/\(g0_1.fst.getD (frS w s) false=true))))))))/\((0=0/\(0=0/\(True/\(True/\(0=0/\(True/\(True/\((↑g_1.2.2.1.length:Int)=↑g0_1.2.2.1.length/\((↑g_1.2.2.2.2:Int)=↑g0_1.2.2.2.2.1/\(True/\((↑x_1.length:Int)=↑g0_1.2.2.2.2.2.1.length/\((0:Int)=↑g0_1.2.2.2.2.2.2/\True))))))))))))/\(x_1=List.map z64 g0_1.2.2.2.2.2.1/\(z3t g_1.2.2.2.1=z3t g0_1.2.2.2.1/\(z3t g_1.2.2.1=z3t g0_1.2.2.1/\(((0:Int)=0/\(True/\True))/\(z0k w.sup.length g_1.2.1=z0k w.sup.length g0_1.2.1/\(g_1.1=g0_1.1/\(z20 w w_x w_o w_t w_v)))))))))/\∀ (g:z1t),(g.2.2.fst=g0_1.2.2.fst/\(g.2.2.2.2.fst=g0_1.2.2.2.2.fst/\(g.2.2.2.2.2.fst=g0_1.2.2.2.2.2.fst/\(g.2.2.2.2.2.snd <= g.2.2.2.2.2.fst.length/\((LayI w w_x w_o g.fst g.2.fst (List.drop (g.2.2.2.2.fst+(1:Nat)) g.2.2.fst) g.2.2.2.fst fun (s:Stp)=>s ∈ List.drop g.2.2.2.2.2.snd g.2.2.2.2.2.fst)/\(unN g.fst+g.2.2.2.fst.length=unN g0_1.fst+g0_1.2.2.2.fst.length/\(∀ (s:Stp),List.Mem s g.2.2.2.2.2.fst->okS w s/\(g.fst.getD (frS w s) false=true))))))))->(decide ((↑g.2.2.2.2.2.2:Int)<↑g.2.2.2.2.2.1.length)=true->((0:Int) <= ↑g.2.2.2.2.2.2/\((↑g.2.2.2.2.2.2:Int)<↑(List.map z64 g.2.2.2.2.2.1).length))/\(↑g.2.2.2.2.2.2:Int).toNat<(List.map z64 g.2.2.2.2.2.1).length/\∀ (x:List Int),(List.map z64 g.2.2.2.2.2.1)[(↑g.2.2.2.2.2.2:Int).toNat]? = some x->z1i w (x.headD (0:Int))/\((0:Int) <= ↑(z0x w x)/\((↑(z0x w x):Int)<↑g.1.length))/\(↑(z0x w x):Int).toNat<g.1.length/\∀ (x_2:Bool),g.1[(↑(z0x w x):Int).toNat]? = some x_2->(x_2=true->∃ (g':z1t),(z8s g' g0_1 w w_x w_o)/\(zch g' g w w_x w_o w_t w_v))/\(x_2=false->(z1i w (x.headD (0:Int))/\(w_x.length=w.arcs.length/\(XB w_x)))/\((rmS w w_x ((x.headD (0:Int)).toNat,x.tail.headD (0:Int) == (1:Int)) == (0:Int))=true->∃ (g':z1t),(z8s g' g0_1 w w_x w_o)/\(zch g' g w w_x w_o w_t w_v))/\((rmS w w_x ((x.headD (0:Int)).toNat,x.tail.headD (0:Int) == (1:Int)) == (0:Int))=false->((0:Int) <= ↑(z0x w x)/\((↑(z0x w x):Int)<↑g.1.length))/\(↑(z0x w x):Int).toNat<g.1.length/\((0:Int) <= ↑(z0x w x)/\((↑(z0x w x):Int)<↑(z0k w.sup.length g.2.1).length))/\(↑(z0x w x):Int).toNat<(z0k w.sup.length g.2.1).length/\((0:Int) <= ↑(z0x w x)/\((↑(z0x w x):Int)<↑w_o.length))/\(↑(z0x w x):Int).toNat<w_o.length/\∀ (x_3:Int),w_o[(↑(z0x w x):Int).toNat]? = some x_3->(decide (x_3<(0:Int))=true->∃ (g_2:zcl),SearchP w w_x w_o g_2.1 g_2.2.1 g_2.2.2/\(((True/\(True/\(((↑(z0x w x):Int)=↑(g_2.2.2.getD (0:Nat))/\(true=g_2.2.2.isSome/\True))/\True)))/\True)/\(g.1.set (↑(z0x w x):Int).toNat true=g_2.1/\((z0k w.sup.length g.2.1).set (↑(z0x w x):Int).toNat [x.headD (0:Int),bif x.tail.headD (0:Int) == (1:Int) then (1:Int) else (0:Int),bif true then (1:Int) else (0:Int)]=z0k w.sup.length g_2.2.1/\True))))/\(decide (x_3<(0:Int))=false->(z3t g.2.2.2.1).length+(1:Nat) <= 1000000000/\(∃ (g':z1t),(z8s g' g0_1 w w_x w_o)/\(g'.2.2.2.2.2.fst.length - g'.2.2.2.2.2.snd<g.2.2.2.2.2.fst.length - g.2.2.2.2.2.snd/\((zcg g g')/\(List.map z64 g.2.2.2.2.2.1=List.map z64 g'.2.2.2.2.2.1/\(z3t g.2.2.2.1 ++ [(↑(z0x w x):Int)]=z3t g'.2.2.2.1/\(z3t g.2.2.1=z3t g'.2.2.1/\(((0:Int)=0/\(True/\True))/\((z0k w.sup.length g.2.1).set (↑(z0x w x):Int).toNat [x.headD (0:Int),bif x.tail.headD (0:Int) == (1:Int) then (1:Int) else (0:Int),bif true then (1:Int) else (0:Int)]=z0k w.sup.length g'.2.1/\(g.1.set (↑(z0x w x):Int).toNat true=g'.1/\(z20 w w_x w_o w_t w_v))))))))))))))/\(decide ((↑g.2.2.2.2.2.2:Int)<↑g.2.2.2.2.2.1.length)=false->∃ (g':z8t),(g'.2.2.fst=g0.2.2.fst/\(g'.2.2.2.snd <= g'.2.2.fst.length/\((LayI w w_x w_o g'.fst g'.2.fst (List.drop g'.2.2.2.snd g'.2.2.fst) g'.2.2.2.fst fun (x:Stp)=>False)/\(unN g'.fst+g'.2.2.2.fst.length=unN g0.fst+g0.2.2.2.fst.length))))/\(g'.2.2.fst.length - g'.2.2.2.snd<g_1.2.2.fst.length - g_1.2.2.2.snd/\((0=0/\(0=0/\(True/\(True/\(0=0/\(True/\(True/\((↑g.2.2.1.length:Int)=↑g'.2.2.1.length/\(IntKind.i64.wrap ((↑g.2.2.2.2.1:Int)+(1:Int))=(↑g'.2.2.2.2:Int)/\True)))))))))/\(z3t g.2.2.2.1=z3t g'.2.2.2.1/\(z3t g.2.2.1=z3t g'.2.2.1/\(((0:Int)=0/\(True/\True))/\(z0k w.sup.length g.2.1=z0k w.sup.length g'.2.1/\(g.1=g'.1/\(z20 w w_x w_o w_t w_v))))))))))/\(decide ((↑g_1.2.2.2.2:Int)<↑g_1.2.2.1.length)=false->∃ (g':z8u),((LayI w w_x w_o g'.fst g'.2.fst g'.2.snd [] fun (x:Stp)=>False)/\(g'.2.snd.length <= w.sup.length))/\((2:Nat) * unN g'.fst+g'.2.snd.length.min (1:Nat)<(2:Nat) * unN g.fst+g.2.snd.length.min (1:Nat)/\((0=0/\(0=0/\(True/\(True/\(0=0/\(True/\True))))))/\(z3t g_1.2.2.2.1=z3t g'.2.2/\(((0:Int)=0/\(True/\True))/\(z0k w.sup.length g_1.2.1=z0k w.sup.length g'.2.1/\(g_1.1=g'.1/\(z20 w w_x w_o w_t w_v)))))))))/\(decide ((↑(z3t g.2.2).length:Int) > 0)=false->∃ (g_1:zcl),SearchP w w_x w_o g_1.1 g_1.2.1 g_1.2.2/\(((True/\(True/\(((0:Int)=↑(g_1.2.2.getD (0:Nat))/\(false=g_1.2.2.isSome/\True))/\True)))/\True)/\(g.1=g_1.1/\(z0k w.sup.length g.2.1=z0k w.sup.length g_1.2.1/\True)))))
theorem search20_q (w:Inst) (w_x:List Int) (w_o:List Int) (w_t:Ql.Rows3) (w_v:List Value) (ty1 ty2 ty3 ty4 ty5 tz5:TypeId):zcf w w_x w_o w_t w_v ty1 ty2 ty3 ty4 ty5 tz5=z6x TT zgh (search20_I w w_x w_o w_t w_v) (zcj w w_x w_o w_t w_v) Tryz.f101 [.ptr 0 0 0 0] [(0,.box false 109 [.row 1,.row 2,.row 3,.row 4,.row 5]),(1,.row false ty1 (.ints .i64 w.sup)),(2,.row false ty2 (.arcs w.arcs)),(3,.row false ty3 (.ints .i64 w_x)),(4,.row false ty4 (.ints .i64 w_o)),(5,.deep false ty5 tz5 (.recs (.int .i64) [.bool] w_t) w_v none)] (zgi w w_x w_o w_t w_v):=by kernel_rfl
theorem search20_E (w:Inst) (w_x:List Int) (w_o:List Int) (w_t:Ql.Rows3) (w_v:List Value) (ty1 ty2 ty3 ty4 ty5 tz5:TypeId) (hp:z02 w=0/\w_x.length=w.arcs.length/\w_o.length=w.sup.length/\XB w_x/\Betw w w_x/\AtOk w w_t):FVcR TT zgh (search20_I w w_x w_o w_t w_v) (zcj w w_x w_o w_t w_v) Tryz.f101 [.ptr 0 0 0 0] [(0,.box false 109 [.row 1,.row 2,.row 3,.row 4,.row 5]),(1,.row false ty1 (.ints .i64 w.sup)),(2,.row false ty2 (.arcs w.arcs)),(3,.row false ty3 (.ints .i64 w_x)),(4,.row false ty4 (.ints .i64 w_o)),(5,.deep false ty5 tz5 (.recs (.int .i64) [.bool] w_t) w_v none)] (zgi w w_x w_o w_t w_v):=by
 refine FVcR.of (zcf w w_x w_o w_t w_v ty1 ty2 ty3 ty4 ty5 tz5) (search20_q w w_x w_o w_t w_v ty1 ty2 ty3 ty4 ty5 tz5) ?_
 unfold zcf
 delta zci zch zcg z8s z0x z20 z1t z8t zcl z8u
 obtain ⟨hr,hxl,hol,hxb,hbw,hat⟩:=hp
 have hs64:=z0e hr
 have hw:∀ j:Nat,j <= 1000000->IntKind.i64.wrap ((j:Int)+1)=((j+1:Nat):Int):=fun j hj=>by rw [w64 (by omega) (by omega)]; omega
 simp only [eq_self,exists_const,forall_const,ne_eq,Int.toNat_natCast,zSS,z07]
 simp only [metK_len,zi0,z85,List.length_set,List.length_map]
 refine ⟨by omega,by omega,0,⟨Nat.zero_le _,rfl,rfl,z99 _,metK_zero _ _⟩,fun k hk=>⟨fun h1=>⟨by omega,by omega,fun y hy=>?_⟩,fun h1=>?_⟩⟩
 ·have ey:w_o.getD k 0=y:=by rw [List.getD_eq_getElem?_getD,hy]; rfl
  have hl:=layK_le w_o k
  refine ⟨fun h2=>⟨by omega,by omega,by omega,k+1,by omega,by omega,hw k (by omega),?_,?_⟩,fun h2=>⟨k+1,by omega,by omega,hw k (by omega),?_,?_⟩⟩
  ·rw [layK_yes (by omega),natI_snoc]
  ·exact metK_yes (by omega)
  ·rw [layK_no (by omega)]
  ·exact metK_no (by omega)
 have ek:k=w.sup.length:=by omega
 subst ek
 refine ⟨(_,fun _=>none,layK w_o w.sup.length),⟨⟨LayI.begin hr hol,layK_le _ _⟩,rfl,rfl,rfl⟩,?_⟩
 rintro ⟨m,b,L⟩ ⟨hL,hLn⟩
 dsimp only at hL hLn ⊢
 have hml:=hL.i.lm
 refine ⟨fun h2=>?_,fun h2=>?_⟩
 rotate_left
 ·have eL:L=[]:=by
   cases L with
   | nil=>rfl
   | cons a l=>exact absurd (by rw [List.length_cons]; omega) h2
  subst eL
  exact ⟨(m,b,none),hL.end_ hr,⟨rfl,rfl⟩,rfl,rfl⟩
 refine ⟨(m,b,L,[],0),⟨⟨Nat.zero_le _,by rw [List.drop_zero]; exact hL⟩,⟨rfl,rfl⟩,rfl,rfl,rfl,rfl⟩,?_⟩
 rintro ⟨m1,b1,L1,X,i⟩ ⟨h3,hi,hI,hu⟩
 dsimp only at h3 hi hI hu ⊢
 subst h3
 have hun:=unN_le m
 rw [List.length_nil] at hu
 refine ⟨fun h4=>⟨by omega,by omega,fun x hx=>?_⟩,fun h4=>?_⟩
 rotate_left
 ·refine ⟨(m1,b1,X),⟨hI.next (by omega),by dsimp only; omega⟩,?_,rfl,rfl,rfl⟩
  show 2 * unN m1+min X.length 1<2 * unN m+min L1.length 1
  omega
 obtain ⟨v,hv,rfl⟩:=natI_get hx
 have hv2:=hI.l v (by rw [z3i hv]; simp)
 have hwt:w_t.length=w.sup.length:=hat.len
 refine ⟨⟨by omega,by show (v:Int)<((w_t.length:Nat):Int); omega⟩,by omega,fun q hq=>?_⟩
 obtain ⟨l,hl1,hl3,hl2⟩:=hat.at_ v hv2.1
 rw [Int.toNat_natCast,hl1] at hq
 cases hq
 obtain ⟨hN,hst⟩:=hI.node hv hl2
 refine ⟨(m1,b1,L1,X,i,l,0),⟨⟨Nat.zero_le _,hN,hst⟩,⟨rfl,rfl,by simp,rfl⟩,rfl,rfl,rfl,rfl,rfl⟩,?_⟩
 rintro ⟨m2,b2,L2,X2,i2,l2,j⟩ ⟨h5,h6,h7,hj,hJ,hu2,hst2⟩
 dsimp only at h5 h6 h7 hj hJ hu2 hst2 ⊢
 subst h5 h6 h7
 have hm2:=hJ.i.lm
 refine ⟨fun h8=>⟨by omega,by omega,fun x hx=>?_⟩,fun h8=>?_⟩
 rotate_left
 ·exact ⟨(m2,b2,L2,X2,i2+1),⟨rfl,by dsimp only; omega,hJ.close (by omega),by dsimp only; rw [List.length_nil]; omega⟩,by dsimp only; omega,⟨rfl,hw i2 (by omega)⟩,rfl,rfl,rfl,rfl⟩
 rw [List.getElem?_map] at hx
 obtain ⟨s,hs,rfl⟩:=Option.map_eq_some_iff.1 hx
 obtain ⟨hok,hfm⟩:=hst2 s (List.mem_of_getElem? hs)
 have htl:=z5q hr hok
 have e4:((z64 s).headD 0).toNat=s.1/\((z64 s).tail.headD 0 == 1)=s.2/\z1i w ((z64 s).headD 0)/\[(z64 s).headD 0,bif (z64 s).tail.headD 0 == 1 then 1 else 0,bif true then 1 else 0]=mbS (some s):=by
  obtain ⟨a,c⟩:=s
  have ha:a<w.arcs.length:=hok
  cases c <;> simp [z64,mbS,z1i,hr] <;> omega
 obtain ⟨g1,g2,g3,g4⟩:=e4
 rw [g4,g1,g2]
 rw [show ((s.1,s.2):Stp)=s from rfl]
 have hrm0:=hbw.room hr hok
 refine ⟨g3,by omega,by omega,fun c hc=>?_⟩
 have hmc:m2.getD (toS w s) false=c:=by rw [List.getD_eq_getElem?_getD,hc]; rfl
 have hmo:∀ v,m2.getD v false=true->(m2.set (toS w s) true).getD v false=true:=fun v hv=>by
  rw [zb3 (by omega)]; split
  ·rfl
  ·exact hv
 refine ⟨fun h9=>⟨(m2,b2,L2,X2,i2,l2,j+1),⟨rfl,rfl,rfl,by dsimp only; omega,hJ.pass hs (.inl (by rw [hmc]; exact h9)),hu2,hst2⟩,by dsimp only; omega,⟨rfl,rfl,rfl,hw j (by omega)⟩,rfl,rfl,rfl,rfl,rfl⟩,fun h9=>⟨⟨g3,hxl,hxb⟩,fun h10=>⟨(m2,b2,L2,X2,i2,l2,j+1),⟨rfl,rfl,rfl,by dsimp only; omega,hJ.pass hs (.inr (by omega)),hu2,hst2⟩,by dsimp only; omega,⟨rfl,rfl,rfl,hw j (by omega)⟩,rfl,rfl,rfl,rfl,rfl⟩,fun h10=>⟨by omega,by omega,by omega,by omega,by omega,by omega,fun y hy=>?_⟩⟩⟩
 have eo:w_o.getD (toS w s) 0=y:=by rw [List.getD_eq_getElem?_getD,hy]; rfl
 subst h9
 refine ⟨fun h11=>⟨(_,_,some (toS w s)),hJ.i.hit hr hok hfm hmc (by omega) (by omega),⟨rfl,rfl⟩,rfl,z5h _ _ _ _⟩,fun h11=>⟨by omega,(_,_,L2,_,i2,l2,j+1),⟨rfl,rfl,rfl,by dsimp only; omega,hJ.take hr hs hok hfm hmc (by omega) (by omega),?_,fun t ht=>⟨(hst2 t ht).1,hmo _ (hst2 t ht).2⟩⟩,by dsimp only; omega,⟨rfl,rfl,rfl,hw j (by omega)⟩,rfl,(natI_snoc _ _).symm,rfl,z5h _ _ _ _,rfl⟩⟩
 have:=unN_set hc
 dsimp only
 rw [List.length_append,List.length_singleton]
 omega
theorem search20_ok:SpecOk Tryz.prog search20_n true (z0l true zck) :=
 z1x z0r (show z1c Tryz.prog zgh from z00 z8c (z00 za3 (z00 zep (z00 zeo (z05))))) (by kernel_rfl) mixedOrders Tryz.func101 rfl rfl (by kernel_rfl) (n:=1) (by decide +kernel) (I:=search20_IA) (fun _ _=>z06) (A:=search20_A)
  (fun args h r hr=>by
   unfold zck at hr
   split at hr
   ·rename_i ty1 w_s ty2 w_a ty3 w_x ty4 w_o ty5 tz5 w_t w_v; cases hr; refine ⟨rfl,fun hp=>?_⟩; have hE:=search20_E ⟨w_s,w_a⟩ w_x w_o w_t w_v ty1 ty2 ty3 ty4 ty5 tz5 hp; exact hE
   ·cases hr)
end Go.Proofs.YtggblkbecekbdaaGreat
end
section
namespace Go.Proofs.YtggblkbecekbdaaGreat
open Go Go.RowKit Go.Ql Go.Vc
def fill20_r (w:Inst) (w_x:List Int) (w_o:List Int) (w_t:Ql.Rows3) (w_v:List Value):FRel:={ pre:=z02 w=0/\FillI w w_x w_o/\AtOk w w_t,G:=(List Int) × (List Int) × (List Bool) × (Bool),post:=fun ⟨x,o,m,f⟩=>FillP w x o m f,out:=fun ⟨x,o,m,f⟩=>{ pre:=True,res:=.tup [.row 6,.bool (f)],rows:=[.row 4 (.bools (m))],eff:=[(0,.box true 109 [.row 1,.row 2,.row 3,.row 4,.row 5]),(3,.row true 2 (.ints .i64 (x))),(4,.row true 2 (.ints .i64 (o))),(5,.deep true 149 147 (.recs (.int .i64) [.bool] w_t) w_v none)] } }
def zdc:FR:=fun args h=>match args,h with
 | [.ptr 0 0 0 0],[(0,.box true 109 [.row 1,.row 2,.row 3,.row 4,.row 5]),(1,.row false ty1 (.ints .i64 w_s)),(2,.row false ty2 (.arcs w_a)),(3,.row true 2 (.ints .i64 w_x)),(4,.row true 2 (.ints .i64 w_o)),(5,.deep true 149 147 (.recs (.int .i64) [.bool] w_t) w_v none)]=>some (fill20_r ⟨w_s,w_a⟩ w_x w_o w_t w_v)
 | _,_=>none
def zk6 (w:Inst) (w_x:List Int) (w_o:List Int) (w_t:Ql.Rows3) (w_v:List Value):List (Nat × Ann):=[(1,{ G:=(List Int) × (List Int),inv:=fun ⟨x,o⟩=>⟨[(0,.ptr 0 0 0 0)],[(0,.box true 109 [.row 1,.row 2,.row 3,.row 4,.row 5]),(1,.row false 0 (.ints .i64 w.sup)),(2,.row false 0 (.arcs w.arcs)),(3,.row true 2 (.ints .i64 x)),(4,.row true 2 (.ints .i64 o)),(5,.deep true 149 147 (.recs (.int .i64) [.bool] w_t) w_v none)],7⟩,rel:=fun ⟨x0,o0⟩ ⟨x,o⟩=>FillI w x o,meas:=fun ⟨x,o⟩=>(z4k o w.sup.length).toNat }),
 (1000002,{ G:=(List Int) × (List Int) × (List Bool) × (Nat->Option Stp) × (Option Nat),inv:=fun ⟨x,o,m,b,e⟩=>⟨[(0,.ptr 0 0 0 0),(6,.ptr 9 0 0 0),(4,.row 7),(5,.row 8)],[(9,.box true 152 [.int .i64 (e.getD 0:Nat),.bool e.isSome]),(7,.row true 4 (.bools m)),(8,.row false 165 (.recs (.int .i64) [.bool,.bool] (z0k w.sup.length b))),(0,.box true 109 [.row 1,.row 2,.row 3,.row 4,.row 5]),(1,.row false 0 (.ints .i64 w.sup)),(2,.row false 0 (.arcs w.arcs)),(3,.row true 2 (.ints .i64 x)),(4,.row true 2 (.ints .i64 o)),(5,.deep true 149 147 (.recs (.int .i64) [.bool] w_t) w_v none)],10⟩,rel:=fun ⟨x0,o0,m0,b0,e0⟩ ⟨x,o,m,b,e⟩=>FillI w x o/\SearchP w x o m b e,meas:=fun ⟨x,o,m,b,e⟩=>0,link:=true })]
def fill20_A:List SV->z0d->List (Nat × Ann):=fun args h=>match args,h with
 | [.ptr 0 0 0 0],[(0,.box true 109 [.row 1,.row 2,.row 3,.row 4,.row 5]),(1,.row false ty1 (.ints .i64 w_s)),(2,.row false ty2 (.arcs w_a)),(3,.row true 2 (.ints .i64 w_x)),(4,.row true 2 (.ints .i64 w_o)),(5,.deep true 149 147 (.recs (.int .i64) [.bool] w_t) w_v none)]=>zk6 ⟨w_s,w_a⟩ w_x w_o w_t w_v
 | _,_=>[]
def fill20_g:z0c:=[(search20_n,(true,z0l true zck)),(zjd,(false,z03 false zah)),(zh2,(true,z03 true z8a))]
abbrev fill20_n:Nat:=60
def fill20_I (w:Inst) (w_x:List Int) (w_o:List Int) (w_t:Ql.Rows3) (w_v:List Value):List (Nat × z08):=[]
def fill20_IA:List SV->z0d->List (Nat × z08):=fun _ _=>[]
def zk5 (w : Inst) (w_x : List Int) (w_o : List Int) (w_t : Ql.Rows3) (w_v : List Value) (ty1 ty2 : TypeId) : Prop :=
      ∃ (g0:List Int × List Int),
 (FillI w g0.fst g0.snd /\
 ((0:Nat)=(0:Nat)/\True) /\
 (True/\True/\True/\True/\True/\True)/\w.sup=w.sup/\w.arcs=w.arcs/\w_x=g0.1/\w_o=g0.2/\(w_t=w_t/\w_v=w_v/\(none:Option Nat)=none)/\True) /\
 ∀ (g:List Int × List Int),
 FillI w g.fst g.snd ->
 ∃ (Q:List Int × List Int × List Bool × (Nat->Option Stp) × Option Nat->Prop),
 ((z02 w=(0:Int)/\g.1.length=w.arcs.length/\g.2.length=w.sup.length/\XB g.1/\Betw w g.1/\AtOk w w_t) /\
 ∀ (g_1:List Bool × (Nat->Option Stp) × Option Nat),
 SearchP w g.1 g.2 g_1.1 g_1.2.1 g_1.2.2 ->
 ∃ (g_2:List Int × List Int × List Bool × (Nat->Option Stp) × Option Nat),
 ((FillI w g_2.fst g_2.2.fst/\SearchP w g_2.fst g_2.2.fst g_2.2.2.fst g_2.2.2.2.fst g_2.2.2.2.snd)/\Q g_2) /\
 ((0:Nat)=(0:Nat)/\(0:Nat)=(0:Nat)/\True/\True/\True) /\
 ((↑(g_1.2.2.getD (0:Nat)):Int)=(↑(g_2.2.2.2.2.getD (0:Nat)):Int)/\g_1.2.2.isSome=g_2.2.2.2.2.isSome/\True) /\
 g_1.1=g_2.2.2.1 /\
 z0k w.sup.length g_1.2.1=z0k w.sup.length g_2.2.2.2.1 /\
 (True/\True/\True/\True/\True/\True) /\
 w.sup=w.sup/\w.arcs=w.arcs/\g.1=g_2.1/\g.2=g_2.2.1/\(w_t=w_t/\w_v=w_v/\(none:Option Nat)=none)/\True) /\
 ∀ (g_1:List Int × List Int × List Bool × (Nat->Option Stp) × Option Nat),
 FillI w g_1.fst g_1.2.fst/\SearchP w g_1.fst g_1.2.fst g_1.2.2.fst g_1.2.2.2.fst g_1.2.2.2.snd ->
 Q g_1 ->
 (g_1.2.2.2.2.isSome=true ->
 AlOk w g_1.1 g_1.2.1 (z0k w.sup.length g_1.2.2.2.1) (↑(g_1.2.2.2.2.getD (0:Nat)):Int) /\
 ∃ (g':List Int × List Int),
 FillI w g'.fst g'.snd /\
 (z4k g'.snd w.sup.length).toNat<(z4k g.snd w.sup.length).toNat /\
 ((0:Nat)=(0:Nat)/\True) /\
 (True/\True/\True/\True/\True/\True) /\
 w.sup=w.sup /\
 w.arcs=w.arcs /\
 z2m g_1.1 (alL w (z0k w.sup.length g_1.2.2.2.1) (↑(g_1.2.2.2.2.getD (0:Nat)):Int))
 (alU w g_1.1 g_1.2.1 (z0k w.sup.length g_1.2.2.2.1) (↑(g_1.2.2.2.2.getD (0:Nat)):Int)) =
 g'.1 /\
 z1y w g_1.2.1 (alL w (z0k w.sup.length g_1.2.2.2.1) (↑(g_1.2.2.2.2.getD (0:Nat)):Int))
 (alU w g_1.1 g_1.2.1 (z0k w.sup.length g_1.2.2.2.1) (↑(g_1.2.2.2.2.getD (0:Nat)):Int)) =
 g'.2 /\
 (w_t=w_t/\w_v=w_v/\(none:Option Nat)=none)/\True) /\
 (g_1.2.2.2.2.isSome=false ->
 g_1.2.2.1.length <= (1000000:Nat) /\
 (g_1.2.2.1.contains true=true ->
 ∃ (g:List Int × List Int × List Bool × Bool),
 FillP w g.1 g.2.1 g.2.2.1 g.2.2.2 /\
 ((True/\true=g.2.2.2/\True)/\True) /\
 g_1.2.2.1=g.2.2.1/\(True/\True/\True/\True/\True/\True)/\g_1.1=g.1/\g_1.2.1=g.2.1/\(w_t=w_t/\w_v=w_v/\(none:Option Nat)=none)/\True) /\
 (g_1.2.2.1.contains true=false ->
 ∃ (g:List Int × List Int × List Bool × Bool),
 FillP w g.1 g.2.1 g.2.2.1 g.2.2.2 /\
 ((True/\false=g.2.2.2/\True)/\True) /\
 []=g.2.2.1/\(True/\True/\True/\True/\True/\True)/\g_1.1=g.1/\g_1.2.1=g.2.1/\(w_t=w_t/\w_v=w_v/\(none:Option Nat)=none)/\True))
theorem fill20_q (w:Inst) (w_x:List Int) (w_o:List Int) (w_t:Ql.Rows3) (w_v:List Value) (ty1 ty2:TypeId):zk5 w w_x w_o w_t w_v ty1 ty2=z6x TT fill20_g (fill20_I w w_x w_o w_t w_v) (zk6 w w_x w_o w_t w_v) Tryz.f60 [.ptr 0 0 0 0] [(0,.box true 109 [.row 1,.row 2,.row 3,.row 4,.row 5]),(1,.row false ty1 (.ints .i64 w.sup)),(2,.row false ty2 (.arcs w.arcs)),(3,.row true 2 (.ints .i64 w_x)),(4,.row true 2 (.ints .i64 w_o)),(5,.deep true 149 147 (.recs (.int .i64) [.bool] w_t) w_v none)] (fill20_r w w_x w_o w_t w_v):=by kernel_rfl
theorem fill20_E (w:Inst) (w_x:List Int) (w_o:List Int) (w_t:Ql.Rows3) (w_v:List Value) (ty1 ty2:TypeId) (hp:z02 w=0/\FillI w w_x w_o/\AtOk w w_t):FVcR TT fill20_g (fill20_I w w_x w_o w_t w_v) (zk6 w w_x w_o w_t w_v) Tryz.f60 [.ptr 0 0 0 0] [(0,.box true 109 [.row 1,.row 2,.row 3,.row 4,.row 5]),(1,.row false ty1 (.ints .i64 w.sup)),(2,.row false ty2 (.arcs w.arcs)),(3,.row true 2 (.ints .i64 w_x)),(4,.row true 2 (.ints .i64 w_o)),(5,.deep true 149 147 (.recs (.int .i64) [.bool] w_t) w_v none)] (fill20_r w w_x w_o w_t w_v):=by
 refine FVcR.of (zk5 w w_x w_o w_t w_v ty1 ty2) (fill20_q w w_x w_o w_t w_v ty1 ty2) ?_
 unfold zk5
 simp only [eq_self,exists_const,forall_const,ne_eq,Int.toNat_natCast,zSS,z07]
 obtain ⟨hr,hF,hat⟩:=hp
 have hs64:=z0e hr
 refine ⟨(w_x,w_o),⟨hF,rfl,rfl⟩,?_⟩
 clear hF
 rintro ⟨x,o⟩ hF
 dsimp only at hF ⊢
 obtain ⟨B,hN,-,-⟩:=id hF.inv
 refine ⟨fun g=>g.1=x/\g.2.1=o,⟨⟨hr,hN.over.lx,hN.over.lo,hF.xb.xb,hN.betw,hat⟩,?_⟩,?_⟩
 ·rintro ⟨m,b,e⟩ hS
  exact ⟨(x,o,m,b,e),⟨⟨hF,hS⟩,rfl,rfl⟩,⟨rfl,rfl⟩,rfl,rfl,rfl,rfl⟩
 rintro ⟨x1,o1,m,b,e⟩ ⟨-,hS⟩ ⟨h1,h2⟩
 dsimp only at hS h1 h2 ⊢
 subst h1 h2
 refine ⟨fun h3=>?_,fun h3=>?_⟩
 ·cases e with
  | none=>cases h3
  | some v =>
   obtain ⟨A,q1,q2⟩:=fill_more hr hF hS
   exact ⟨A,(_,_),q1,q2,rfl,rfl⟩
 ·cases e with
  | some v=>cases h3
  | none =>
   obtain ⟨q1,q2⟩:=fill_end hr hF hS
   refine ⟨by have:=hS.lm; omega,fun h4=>⟨(x1,o1,m,true),q1 h4,rfl,rfl,rfl,rfl⟩,fun h4=>⟨(x1,o1,[],false),q2 (by rw [h4]; simp),rfl,rfl,rfl,rfl⟩⟩
theorem fill20_ok:SpecOk Tryz.prog fill20_n false (z0l false zdc) :=
 z1x z0r (show z1c Tryz.prog fill20_g from z00 search20_ok (z00 along20_ok (z00 contains20_ok (z05)))) (by kernel_rfl) mixedOrders Tryz.func60 rfl rfl (by kernel_rfl) (n:=1) (by decide +kernel) (I:=fill20_IA) (fun _ _=>z06) (A:=fill20_A)
  (fun args h r hr=>by
   unfold zdc at hr
   split at hr
   ·rename_i ty1 w_s ty2 w_a w_x w_o w_t w_v; cases hr; refine ⟨rfl,fun hp=>?_⟩; have hE:=fill20_E ⟨w_s,w_a⟩ w_x w_o w_t w_v ty1 ty2 hp; exact hE
   ·cases hr)
abbrev zl5:Nat:=149
def piece20_g:z0c:=[]
def z9s:Vc.Spec:=z9i TT piece20_g (fun _ _ _=>[]) Tryz.f149
def out20_r (g_n:Int) (g_l:List Arc) (g_i:List Int) (g_s:List Int) (n:Int):FRes:={ pre:=PieceOk g_n g_i g_s n 0,res:=.row 4,rows:=[.row 3 (.ints .i64 (z0n g_i g_s n 0))],eff:=[] }
def out20_fs:FS:=fun args h=>match args,h with
 | [.ptr 0 0 0 0,.int .i64 n],[(0,.box false 137 [.int .i64 g_n,.row 1,.row 2,.row 3]),(1,.row false ty1 (.arcs g_l)),(2,.row false ty2 (.ints .i64 g_i)),(3,.row false ty3 (.ints .i64 g_s))]=>some (out20_r g_n g_l g_i g_s n)
 | _,_=>none
def out20_an (g_n:Int) (g_l:List Arc) (g_i:List Int) (g_s:List Int) (n:Int):List (Nat × Ann):=[]
def out20_A:List SV->z0d->List (Nat × Ann):=fun _ _=>[]
def out20_g:z0c:=[(zl5,(false,z9s))]
abbrev out20_n:Nat:=99
def out20_i0g:z0c:=[(has_n,(true,z03 true has_fs))]
def out20_i0 (g_n:Int) (g_l:List Arc) (g_i:List Int) (g_s:List Int) (n:Int):z08:=inlI TT out20_i0g (fun args hp nk=>match args with | [y,c1,c2,c3]=>[(3,{ G:=Nat,inv:=fun k=>⟨[(0,y),(41,.row nk),(42,.int .i64 ((z0n g_i g_s n 0).length:Int)),(43,.int .i64 k)],[(6,.box true 37 [.row (nk+1)]),(nk+1,.row true 3 (.ints .i64 ((z0n g_i g_s n 0).take k))),(nk,.row false 3 (.ints .i64 (z0n g_i g_s n 0)))] ++ Vc.del 6 (Vc.del 5 hp),nk+2⟩,rel:=fun _ k=>k <= (z0n g_i g_s n 0).length,meas:=fun k=>(z0n g_i g_s n 0).length - k })] | _=>[]) Tryz.f160
def out20_I (g_n:Int) (g_l:List Arc) (g_i:List Int) (g_s:List Int) (n:Int):List (Nat × z08):=[(160,out20_i0 g_n g_l g_i g_s n)]
def out20_IA:List SV->z0d->List (Nat × z08):=fun args h=>match args,h with
 | [.ptr 0 0 0 0,.int .i64 n],[(0,.box false 137 [.int .i64 g_n,.row 1,.row 2,.row 3]),(1,.row false ty1 (.arcs g_l)),(2,.row false ty2 (.ints .i64 g_i)),(3,.row false ty3 (.ints .i64 g_s))]=>out20_I g_n g_l g_i g_s n
 | _,_=>[]
def in20_r (g_n:Int) (g_l:List Arc) (g_i:List Int) (g_s:List Int) (n:Int):FRes:={ pre:=PieceOk g_n g_i g_s n 1,res:=.row 4,rows:=[.row 3 (.ints .i64 (z0n g_i g_s n 1))],eff:=[] }
def in20_fs:FS:=fun args h=>match args,h with
 | [.ptr 0 0 0 0,.int .i64 n],[(0,.box false 137 [.int .i64 g_n,.row 1,.row 2,.row 3]),(1,.row false ty1 (.arcs g_l)),(2,.row false ty2 (.ints .i64 g_i)),(3,.row false ty3 (.ints .i64 g_s))]=>some (in20_r g_n g_l g_i g_s n)
 | _,_=>none
def in20_an (g_n:Int) (g_l:List Arc) (g_i:List Int) (g_s:List Int) (n:Int):List (Nat × Ann):=[]
def in20_A:List SV->z0d->List (Nat × Ann):=fun _ _=>[]
def in20_g:z0c:=[(zl5,(false,z9s))]
abbrev in20_n:Nat:=100
def in20_i0g:z0c:=[(has_n,(true,z03 true has_fs))]
def in20_i0 (g_n:Int) (g_l:List Arc) (g_i:List Int) (g_s:List Int) (n:Int):z08:=inlI TT in20_i0g (fun args hp nk=>match args with | [y,c1,c2,c3]=>[(3,{ G:=Nat,inv:=fun k=>⟨[(0,y),(41,.row nk),(42,.int .i64 ((z0n g_i g_s n 1).length:Int)),(43,.int .i64 k)],[(6,.box true 37 [.row (nk+1)]),(nk+1,.row true 3 (.ints .i64 ((z0n g_i g_s n 1).take k))),(nk,.row false 3 (.ints .i64 (z0n g_i g_s n 1)))] ++ Vc.del 6 (Vc.del 5 hp),nk+2⟩,rel:=fun _ k=>k <= (z0n g_i g_s n 1).length,meas:=fun k=>(z0n g_i g_s n 1).length - k })] | _=>[]) Tryz.f160
def in20_I (g_n:Int) (g_l:List Arc) (g_i:List Int) (g_s:List Int) (n:Int):List (Nat × z08):=[(160,in20_i0 g_n g_l g_i g_s n)]
def in20_IA:List SV->z0d->List (Nat × z08):=fun args h=>match args,h with
 | [.ptr 0 0 0 0,.int .i64 n],[(0,.box false 137 [.int .i64 g_n,.row 1,.row 2,.row 3]),(1,.row false ty1 (.arcs g_l)),(2,.row false ty2 (.ints .i64 g_i)),(3,.row false ty3 (.ints .i64 g_s))]=>in20_I g_n g_l g_i g_s n
 | _,_=>[]
theorem piece20_ok:SpecOk Tryz.prog zl5 false z9s :=
 inl_ok z0r (show z1c Tryz.prog piece20_g from z05) (by kernel_rfl) mixedOrders Tryz.func149 rfl rfl (by kernel_rfl) _
def out20_E0 (g_n : Int) (g_l : List Arc) (g_i : List Int) (g_s : List Int) (n : Int) (ty1 ty2 ty3 : TypeId) : Prop :=
      ∀ (R:Loop->Prop),
 True /\
 ((!(decide ((0:Int) <= n) && decide (n<g_n)))=true->(True/\True)/\[]=z0n g_i g_s n (0:Nat)/\True) /\
 ((!(decide ((0:Int) <= n) && decide (n<g_n)))=false ->
 ((0:Int) <= IntKind.i64.wrap (IntKind.i64.wrap ((2:Int) * n)+(0:Int))/\IntKind.i64.wrap (IntKind.i64.wrap ((2:Int) * n)+(0:Int))<(↑g_s.length:Int)) /\
 (IntKind.i64.wrap (IntKind.i64.wrap ((2:Int) * n)+(0:Int))).toNat<g_s.length /\
 ∀ (x:Int),
 g_s[(IntKind.i64.wrap (IntKind.i64.wrap ((2:Int) * n)+(0:Int))).toNat]? = some x ->
 ((0:Int) <= IntKind.i64.wrap (IntKind.i64.wrap (IntKind.i64.wrap ((2:Int) * n)+(0:Int))+(1:Int)) /\
 IntKind.i64.wrap (IntKind.i64.wrap (IntKind.i64.wrap ((2:Int) * n)+(0:Int))+(1:Int))<(↑g_s.length:Int)) /\
 (IntKind.i64.wrap (IntKind.i64.wrap (IntKind.i64.wrap ((2:Int) * n)+(0:Int))+(1:Int))).toNat<g_s.length /\
 ∀ (x_1:Int),
 g_s[(IntKind.i64.wrap (IntKind.i64.wrap (IntKind.i64.wrap ((2:Int) * n)+(0:Int))+(1:Int))).toNat]? = some x_1 ->
 ((0:Int) <= x/\x <= x_1/\x_1 <= x_1/\x_1 <= (↑g_i.length:Int)) /\
 ∃ (g0:Nat),
 (g0 <= (z0n g_i g_s n (0:Nat)).length /\
 (True /\
 True /\
 (↑(List.drop x.toNat (List.take x_1.toNat g_i)).length:Int)=(↑(z0n g_i g_s n (0:Nat)).length:Int) /\
 (0:Int)=(↑g0:Int)/\True) /\
 (True/\True) /\
 []=List.take g0 (z0n g_i g_s n (0:Nat)) /\
 List.drop x.toNat (List.take x_1.toNat g_i)=z0n g_i g_s n (0:Nat) /\
 R=R /\
 ((0:Int)=(0:Int)/\True) /\
 (n=n/\True) /\
 ((0:Nat)=(0:Nat)/\True)/\z2c Int/\(g_n=g_n/\True/\True/\True/\True)/\g_l=g_l/\g_i=g_i/\g_s=g_s/\True) /\
 ∀ (g:Nat),
 g <= (z0n g_i g_s n (0:Nat)).length ->
 (decide ((↑g:Int)<(↑(z0n g_i g_s n (0:Nat)).length:Int))=true ->
 ((0:Int) <= (↑g:Int)/\(↑g:Int)<(↑(z0n g_i g_s n (0:Nat)).length:Int)) /\
 (↑g:Int).toNat<(z0n g_i g_s n (0:Nat)).length /\
 ∀ (x:Int),
 (z0n g_i g_s n (0:Nat))[(↑g:Int).toNat]? = some x ->
 R=R /\
 (List.take g (z0n g_i g_s n (0:Nat))).length+(1:Nat) <= (1000000000:Nat) /\
 ∃ (g':Nat),
 g' <= (z0n g_i g_s n (0:Nat)).length /\
 (z0n g_i g_s n (0:Nat)).length - g'<(z0n g_i g_s n (0:Nat)).length - g /\
 (True /\
 True /\
 (↑(z0n g_i g_s n (0:Nat)).length:Int)=(↑(z0n g_i g_s n (0:Nat)).length:Int) /\
 IntKind.i64.wrap ((↑g:Int)+(1:Int))=(↑g':Int)/\True) /\
 (True/\True) /\
 List.take g (z0n g_i g_s n (0:Nat)) ++ [x]=List.take g' (z0n g_i g_s n (0:Nat)) /\
 z0n g_i g_s n (0:Nat)=z0n g_i g_s n (0:Nat) /\
 R=R /\
 ((0:Int)=(0:Int)/\True) /\
 (n=n/\True) /\
 ((0:Nat)=(0:Nat)/\True) /\
 z2c Int/\(g_n=g_n/\True/\True/\True/\True)/\g_l=g_l/\g_i=g_i/\g_s=g_s/\True) /\
 (decide ((↑g:Int)<(↑(z0n g_i g_s n (0:Nat)).length:Int))=false ->
 (True/\True)/\List.take g (z0n g_i g_s n (0:Nat))=z0n g_i g_s n (0:Nat)/\True))
theorem out20_q (g_n:Int) (g_l:List Arc) (g_i:List Int) (g_s:List Int) (n:Int) (ty1 ty2 ty3:TypeId):out20_E0 g_n g_l g_i g_s n ty1 ty2 ty3=z2r TT out20_g (out20_I g_n g_l g_i g_s n) (out20_an g_n g_l g_i g_s n) Tryz.f99 [.ptr 0 0 0 0,.int .i64 n] [(0,.box false 137 [.int .i64 g_n,.row 1,.row 2,.row 3]),(1,.row false ty1 (.arcs g_l)),(2,.row false ty2 (.ints .i64 g_i)),(3,.row false ty3 (.ints .i64 g_s))] (out20_r g_n g_l g_i g_s n):=by kernel_rfl
theorem out20_E (g_n:Int) (g_l:List Arc) (g_i:List Int) (g_s:List Int) (n:Int) (ty1 ty2 ty3:TypeId) (hp:PieceOk g_n g_i g_s n 0):FVc TT out20_g (out20_I g_n g_l g_i g_s n) (out20_an g_n g_l g_i g_s n) Tryz.f99 [.ptr 0 0 0 0,.int .i64 n] [(0,.box false 137 [.int .i64 g_n,.row 1,.row 2,.row 3]),(1,.row false ty1 (.arcs g_l)),(2,.row false ty2 (.ints .i64 g_i)),(3,.row false ty3 (.ints .i64 g_s))] (out20_r g_n g_l g_i g_s n):=by
 refine FVc.of (out20_E0 g_n g_l g_i g_s n ty1 ty2 ty3) (out20_q g_n g_l g_i g_s n ty1 ty2 ty3) ?_
 unfold out20_E0
 simp only [eq_self,exists_const,forall_const,ne_eq,Int.toNat_natCast,zSS,z07]
 obtain ⟨n0,n1,gn1,il,sl,a,b,c⟩:=hp
 have e1:IntKind.i64.wrap (IntKind.i64.wrap (2 * n)+0)=((2 * n.toNat+0:Nat):Int):=by rw [w64 (x:=2 * n) (by omega) (by omega),w64 (by omega) (by omega)]; omega
 have e2:IntKind.i64.wrap (((2 * n.toNat+0:Nat):Int)+1)=((2 * n.toNat+0+1:Nat):Int):=by rw [w64 (by omega) (by omega)]; omega
 simp only [e1,e2,Int.toNat_natCast]
 refine ⟨fun h=>?_,fun _=>⟨by omega,by omega,fun x hx=>⟨by omega,by omega,fun y hy=>?_⟩⟩⟩
 ·simp [n0,n1] at h
 have ex:g_s.getD (2 * n.toNat+0) 0=x:=by rw [List.getD_eq_getElem?_getD,hx]; rfl
 have ey:g_s.getD (2 * n.toNat+0+1) 0=y:=by rw [List.getD_eq_getElem?_getD,hy]; rfl
 have hP:z0n g_i g_s n 0=(g_i.take y.toNat).drop x.toNat:=by unfold z0n; rw [ex,ey]
 have hl:(z0n g_i g_s n 0).length <= g_i.length:=by rw [hP,List.length_drop,List.length_take]; omega
 rw [ex] at a b
 rw [ey] at b c
 rw [<- hP]
 generalize z0n g_i g_s n 0=P at *
 refine ⟨by omega,0,⟨Nat.zero_le _,⟨rfl,rfl⟩,rfl,rfl⟩,fun k hk=>⟨fun h=>⟨by omega,by omega,fun z hz=>⟨by rw [List.length_take]; omega,k+1,by omega,by omega,by rw [w64 (by omega) (by omega)]; omega,(z1b hz).symm⟩⟩,fun h=>List.take_of_length_le (by omega)⟩⟩
theorem out20_i0_ok (g_n:Int) (g_l:List Arc) (g_i:List Int) (g_s:List Int) (n:Int):ziv Tryz.prog 160 (out20_i0 g_n g_l g_i g_s n) :=
 inlI_ok z0r (show z1c Tryz.prog out20_i0g from z00 has_ok (z05)) (by kernel_rfl) mixedOrders Tryz.func160 rfl rfl (fun key spec=>by kernel_rfl) _
theorem out20_ok:SpecOk Tryz.prog out20_n true (z03 true out20_fs) :=
 z0b z0r (show z1c Tryz.prog out20_g from z00 piece20_ok (z05)) (by kernel_rfl) mixedOrders Tryz.func99 rfl rfl (by kernel_rfl) (n:=2) (by decide +kernel) (I:=out20_IA) (fun args h=>by
   unfold out20_IA
   split
   ·exact isOk_cons (out20_i0_ok _ _ _ _ _) (z06)
   ·exact z06) (A:=out20_A)
  (fun args h r hr=>by
   unfold out20_fs at hr
   split at hr
   ·rename_i n g_n ty1 g_l ty2 g_i ty3 g_s; cases hr; refine ⟨rfl,fun hp=>?_⟩; have hE:=out20_E g_n g_l g_i g_s n ty1 ty2 ty3 hp; exact hE
   ·cases hr)
def in20_E0 (g_n : Int) (g_l : List Arc) (g_i : List Int) (g_s : List Int) (n : Int) (ty1 ty2 ty3 : TypeId) : Prop :=
      ∀ (R:Loop->Prop),
 True /\
 ((!(decide ((0:Int) <= n) && decide (n<g_n)))=true->(True/\True)/\[]=z0n g_i g_s n (1:Nat)/\True) /\
 ((!(decide ((0:Int) <= n) && decide (n<g_n)))=false ->
 ((0:Int) <= IntKind.i64.wrap (IntKind.i64.wrap ((2:Int) * n)+(1:Int))/\IntKind.i64.wrap (IntKind.i64.wrap ((2:Int) * n)+(1:Int))<(↑g_s.length:Int)) /\
 (IntKind.i64.wrap (IntKind.i64.wrap ((2:Int) * n)+(1:Int))).toNat<g_s.length /\
 ∀ (x:Int),
 g_s[(IntKind.i64.wrap (IntKind.i64.wrap ((2:Int) * n)+(1:Int))).toNat]? = some x ->
 ((0:Int) <= IntKind.i64.wrap (IntKind.i64.wrap (IntKind.i64.wrap ((2:Int) * n)+(1:Int))+(1:Int)) /\
 IntKind.i64.wrap (IntKind.i64.wrap (IntKind.i64.wrap ((2:Int) * n)+(1:Int))+(1:Int))<(↑g_s.length:Int)) /\
 (IntKind.i64.wrap (IntKind.i64.wrap (IntKind.i64.wrap ((2:Int) * n)+(1:Int))+(1:Int))).toNat<g_s.length /\
 ∀ (x_1:Int),
 g_s[(IntKind.i64.wrap (IntKind.i64.wrap (IntKind.i64.wrap ((2:Int) * n)+(1:Int))+(1:Int))).toNat]? = some x_1 ->
 ((0:Int) <= x/\x <= x_1/\x_1 <= x_1/\x_1 <= (↑g_i.length:Int)) /\
 ∃ (g0:Nat),
 (g0 <= (z0n g_i g_s n (1:Nat)).length /\
 (True /\
 True /\
 (↑(List.drop x.toNat (List.take x_1.toNat g_i)).length:Int)=(↑(z0n g_i g_s n (1:Nat)).length:Int) /\
 (0:Int)=(↑g0:Int)/\True) /\
 (True/\True) /\
 []=List.take g0 (z0n g_i g_s n (1:Nat)) /\
 List.drop x.toNat (List.take x_1.toNat g_i)=z0n g_i g_s n (1:Nat) /\
 R=R /\
 ((1:Int)=(1:Int)/\True) /\
 (n=n/\True) /\
 ((0:Nat)=(0:Nat)/\True)/\z2c Int/\(g_n=g_n/\True/\True/\True/\True)/\g_l=g_l/\g_i=g_i/\g_s=g_s/\True) /\
 ∀ (g:Nat),
 g <= (z0n g_i g_s n (1:Nat)).length ->
 (decide ((↑g:Int)<(↑(z0n g_i g_s n (1:Nat)).length:Int))=true ->
 ((0:Int) <= (↑g:Int)/\(↑g:Int)<(↑(z0n g_i g_s n (1:Nat)).length:Int)) /\
 (↑g:Int).toNat<(z0n g_i g_s n (1:Nat)).length /\
 ∀ (x:Int),
 (z0n g_i g_s n (1:Nat))[(↑g:Int).toNat]? = some x ->
 R=R /\
 (List.take g (z0n g_i g_s n (1:Nat))).length+(1:Nat) <= (1000000000:Nat) /\
 ∃ (g':Nat),
 g' <= (z0n g_i g_s n (1:Nat)).length /\
 (z0n g_i g_s n (1:Nat)).length - g'<(z0n g_i g_s n (1:Nat)).length - g /\
 (True /\
 True /\
 (↑(z0n g_i g_s n (1:Nat)).length:Int)=(↑(z0n g_i g_s n (1:Nat)).length:Int) /\
 IntKind.i64.wrap ((↑g:Int)+(1:Int))=(↑g':Int)/\True) /\
 (True/\True) /\
 List.take g (z0n g_i g_s n (1:Nat)) ++ [x]=List.take g' (z0n g_i g_s n (1:Nat)) /\
 z0n g_i g_s n (1:Nat)=z0n g_i g_s n (1:Nat) /\
 R=R /\
 ((1:Int)=(1:Int)/\True) /\
 (n=n/\True) /\
 ((0:Nat)=(0:Nat)/\True) /\
 z2c Int/\(g_n=g_n/\True/\True/\True/\True)/\g_l=g_l/\g_i=g_i/\g_s=g_s/\True) /\
 (decide ((↑g:Int)<(↑(z0n g_i g_s n (1:Nat)).length:Int))=false ->
 (True/\True)/\List.take g (z0n g_i g_s n (1:Nat))=z0n g_i g_s n (1:Nat)/\True))
theorem in20_q (g_n:Int) (g_l:List Arc) (g_i:List Int) (g_s:List Int) (n:Int) (ty1 ty2 ty3:TypeId):in20_E0 g_n g_l g_i g_s n ty1 ty2 ty3=z2r TT in20_g (in20_I g_n g_l g_i g_s n) (in20_an g_n g_l g_i g_s n) Tryz.f100 [.ptr 0 0 0 0,.int .i64 n] [(0,.box false 137 [.int .i64 g_n,.row 1,.row 2,.row 3]),(1,.row false ty1 (.arcs g_l)),(2,.row false ty2 (.ints .i64 g_i)),(3,.row false ty3 (.ints .i64 g_s))] (in20_r g_n g_l g_i g_s n):=by kernel_rfl
theorem in20_E (g_n:Int) (g_l:List Arc) (g_i:List Int) (g_s:List Int) (n:Int) (ty1 ty2 ty3:TypeId) (hp:PieceOk g_n g_i g_s n 1):FVc TT in20_g (in20_I g_n g_l g_i g_s n) (in20_an g_n g_l g_i g_s n) Tryz.f100 [.ptr 0 0 0 0,.int .i64 n] [(0,.box false 137 [.int .i64 g_n,.row 1,.row 2,.row 3]),(1,.row false ty1 (.arcs g_l)),(2,.row false ty2 (.ints .i64 g_i)),(3,.row false ty3 (.ints .i64 g_s))] (in20_r g_n g_l g_i g_s n):=by
 refine FVc.of (in20_E0 g_n g_l g_i g_s n ty1 ty2 ty3) (in20_q g_n g_l g_i g_s n ty1 ty2 ty3) ?_
 unfold in20_E0
 simp only [eq_self,exists_const,forall_const,ne_eq,Int.toNat_natCast,zSS,z07]
 obtain ⟨n0,n1,gn1,il,sl,a,b,c⟩:=hp
 have e1:IntKind.i64.wrap (IntKind.i64.wrap (2 * n)+1)=((2 * n.toNat+1:Nat):Int):=by rw [w64 (x:=2 * n) (by omega) (by omega),w64 (by omega) (by omega)]; omega
 have e2:IntKind.i64.wrap (((2 * n.toNat+1:Nat):Int)+1)=((2 * n.toNat+1+1:Nat):Int):=by rw [w64 (by omega) (by omega)]; omega
 simp only [e1,e2,Int.toNat_natCast]
 refine ⟨fun h=>?_,fun _=>⟨by omega,by omega,fun x hx=>⟨by omega,by omega,fun y hy=>?_⟩⟩⟩
 ·simp [n0,n1] at h
 have ex:g_s.getD (2 * n.toNat+1) 0=x:=by rw [List.getD_eq_getElem?_getD,hx]; rfl
 have ey:g_s.getD (2 * n.toNat+1+1) 0=y:=by rw [List.getD_eq_getElem?_getD,hy]; rfl
 have hP:z0n g_i g_s n 1=(g_i.take y.toNat).drop x.toNat:=by unfold z0n; rw [ex,ey]
 have hl:(z0n g_i g_s n 1).length <= g_i.length:=by rw [hP,List.length_drop,List.length_take]; omega
 rw [ex] at a b
 rw [ey] at b c
 rw [<- hP]
 generalize z0n g_i g_s n 1=P at *
 refine ⟨by omega,0,⟨Nat.zero_le _,⟨rfl,rfl⟩,rfl,rfl⟩,fun k hk=>⟨fun h=>⟨by omega,by omega,fun z hz=>⟨by rw [List.length_take]; omega,k+1,by omega,by omega,by rw [w64 (by omega) (by omega)]; omega,(z1b hz).symm⟩⟩,fun h=>List.take_of_length_le (by omega)⟩⟩
theorem in20_i0_ok (g_n:Int) (g_l:List Arc) (g_i:List Int) (g_s:List Int) (n:Int):ziv Tryz.prog 160 (in20_i0 g_n g_l g_i g_s n) :=
 inlI_ok z0r (show z1c Tryz.prog in20_i0g from z00 has_ok (z05)) (by kernel_rfl) mixedOrders Tryz.func160 rfl rfl (fun key spec=>by kernel_rfl) _
theorem in20_ok:SpecOk Tryz.prog in20_n true (z03 true in20_fs) :=
 z0b z0r (show z1c Tryz.prog in20_g from z00 piece20_ok (z05)) (by kernel_rfl) mixedOrders Tryz.func100 rfl rfl (by kernel_rfl) (n:=2) (by decide +kernel) (I:=in20_IA) (fun args h=>by
   unfold in20_IA
   split
   ·exact isOk_cons (in20_i0_ok _ _ _ _ _) (z06)
   ·exact z06) (A:=in20_A)
  (fun args h r hr=>by
   unfold in20_fs at hr
   split at hr
   ·rename_i n g_n ty1 g_l ty2 g_i ty3 g_s; cases hr; refine ⟨rfl,fun hp=>?_⟩; have hE:=in20_E g_n g_l g_i g_s n ty1 ty2 ty3 hp; exact hE
   ·cases hr)
def zjp (I:Inst):FRel:={ pre:=z02 I=0,G:=(List Int) × (List Int) × (Rows3),post:=fun ⟨x,o,t⟩=>BuildP I x o t,out:=fun ⟨x,o,t⟩=>{ pre:=True,res:=.ptr 2 0 0 0,rows:=[.box 109 [.row 0,.row 1,.row 3,.row 4,.row 5],.row 2 (.ints .i64 x),.row 2 (.ints .i64 o),.deep 149 147 (.recs (.int .i64) [.bool] t)],eff:=[] } }
def zal:FR:=fun args h=>match args,h with
 | [.agg [.row 0,.row 1]],[(0,.row false ty0 (.ints .i64 I_s)),(1,.row false ty1 (.arcs I_a))]=>some (zjp ⟨I_s,I_a⟩)
 | _,_=>none
def zfc (I:Inst):List (Nat × Ann):=[(1000002,{ G:=(List Value),inv:=fun vs=>⟨[(1,.ptr 2 0 0 0),(3,.ptr 12 0 0 0)],[(2,.box true 25 [.row 0,.row 1]),(12,.box true 109 [.row 0,.row 1,.row 3,.row 5,.row 6]),(0,.row false 0 (.ints .i64 I.sup)),(1,.row false 0 (.arcs I.arcs)),(3,.row true 2 (.ints .i64 (List.replicate I.arcs.length 0))),(5,.row true 2 (.ints .i64 I.sup)),(6,.deep true 149 147 (.recs (.int .i64) [.bool] (z1p I 0 [])) vs none)],13⟩,rel:=fun vs0 vs=>True,meas:=fun vs=>0 }),
 (3,{ G:=(Nat) × (List Int) × (List Int) × (List Value),inv:=fun ⟨a,x,o,vs⟩=>⟨[(1,.ptr 2 0 0 0),(3,.ptr 12 0 0 0),(27,.row 1),(28,.int .i64 (I.arcs.length:Int)),(29,.int .i64 a)],[(2,.box true 25 [.row 0,.row 1]),(12,.box true 109 [.row 0,.row 1,.row 3,.row 5,.row 6]),(0,.row false 0 (.ints .i64 I.sup)),(1,.row false 0 (.arcs I.arcs)),(3,.row true 2 (.ints .i64 x)),(5,.row true 2 (.ints .i64 o)),(6,.deep true 149 147 (.recs (.int .i64) [.bool] (z1p I 0 [])) vs none)],13⟩,rel:=fun ⟨a0,x0,o0,vs0⟩ ⟨a,x,o,vs⟩=>a <= I.arcs.length/\LowI I a x o,meas:=fun ⟨a,x,o,vs⟩=>I.arcs.length - a }),
 (9,{ G:=(Nat) × (List Int) × (List Int) × (List Value),inv:=fun ⟨n,x,o,vs⟩=>⟨[(3,.ptr 12 0 0 0),(6,.ptr 13 0 0 0),(45,.int .i64 (I.sup.length:Int)),(46,.int .i64 n)],[(13,.box true 137 [.int .i64 (↑I.sup.length:Int),.row 14,.row 15,.row 16]),(14,.row true 35 (.arcs I.arcs)),(15,.row true 3 (.ints .i64 (z3y I))),(16,.row true 3 (.ints .i64 (z15 I))),(12,.box true 109 [.row 0,.row 1,.row 3,.row 5,.row 6]),(0,.row false 0 (.ints .i64 I.sup)),(1,.row false 0 (.arcs I.arcs)),(3,.row true 2 (.ints .i64 x)),(5,.row true 2 (.ints .i64 o)),(6,.deep true 149 147 (.recs (.int .i64) [.bool] (z1p I n [])) vs none)],17⟩,rel:=fun ⟨n0,x0,o0,vs0⟩ ⟨n,x,o,vs⟩=>x=x0/\o=o0/\n <= I.sup.length,meas:=fun ⟨n,x,o,vs⟩=>I.sup.length - n }),
 (12,{ G:=(Nat) × (Nat) × (List Int) × (List Int) × (List Value),inv:=fun ⟨n,k,x,o,vs⟩=>⟨[(3,.ptr 12 0 0 0),(6,.ptr 13 0 0 0),(45,.int .i64 (I.sup.length:Int)),(46,.int .i64 n),(7,.int .i64 n),(51,.row 17),(52,.int .i64 ((z5c I n).length:Int)),(53,.int .i64 k)],[(17,.row true 3 (.ints .i64 (z3t (z5c I n)))),(13,.box true 137 [.int .i64 (↑I.sup.length:Int),.row 14,.row 15,.row 16]),(14,.row true 35 (.arcs I.arcs)),(15,.row true 3 (.ints .i64 (z3y I))),(16,.row true 3 (.ints .i64 (z15 I))),(12,.box true 109 [.row 0,.row 1,.row 3,.row 5,.row 6]),(0,.row false 0 (.ints .i64 I.sup)),(1,.row false 0 (.arcs I.arcs)),(3,.row true 2 (.ints .i64 x)),(5,.row true 2 (.ints .i64 o)),(6,.deep true 149 147 (.recs (.int .i64) [.bool] (z1p I n (fwd ((z5c I n).take k)))) vs none)],18⟩,rel:=fun ⟨n0,k0,x0,o0,vs0⟩ ⟨n,k,x,o,vs⟩=>x=x0/\o=o0/\n=n0/\k <= (z5c I n).length,meas:=fun ⟨n,k,x,o,vs⟩=>(z5c I n).length - k }),
 (17,{ G:=(Nat) × (Nat) × (List Int) × (List Int) × (List Value),inv:=fun ⟨n,k,x,o,vs⟩=>⟨[(3,.ptr 12 0 0 0),(6,.ptr 13 0 0 0),(45,.int .i64 (I.sup.length:Int)),(46,.int .i64 n),(7,.int .i64 n),(77,.row 18),(78,.int .i64 ((z7j I n).length:Int)),(79,.int .i64 k)],[(18,.row true 3 (.ints .i64 (z3t (z7j I n)))),(13,.box true 137 [.int .i64 (↑I.sup.length:Int),.row 14,.row 15,.row 16]),(14,.row true 35 (.arcs I.arcs)),(15,.row true 3 (.ints .i64 (z3y I))),(16,.row true 3 (.ints .i64 (z15 I))),(12,.box true 109 [.row 0,.row 1,.row 3,.row 5,.row 6]),(0,.row false 0 (.ints .i64 I.sup)),(1,.row false 0 (.arcs I.arcs)),(3,.row true 2 (.ints .i64 x)),(5,.row true 2 (.ints .i64 o)),(6,.deep true 149 147 (.recs (.int .i64) [.bool] (z1p I n (fwd (z5c I n) ++ bwd ((z7j I n).take k)))) vs none)],19⟩,rel:=fun ⟨n0,k0,x0,o0,vs0⟩ ⟨n,k,x,o,vs⟩=>x=x0/\o=o0/\n=n0/\k <= (z7j I n).length,meas:=fun ⟨n,k,x,o,vs⟩=>(z7j I n).length - k })]
def build20_A:List SV->z0d->List (Nat × Ann):=fun args h=>match args,h with
 | [.agg [.row 0,.row 1]],[(0,.row false ty0 (.ints .i64 I_s)),(1,.row false ty1 (.arcs I_a))]=>zfc ⟨I_s,I_a⟩
 | _,_=>[]
def zjn:z0c:=[(zi3,(false,z03 false z9v)),(New_n,(true,z03 true New_fs)),(out20_n,(true,z03 true out20_fs)),(in20_n,(true,z03 true in20_fs))]
abbrev zjo:Nat:=59
def build20_I (I:Inst):List (Nat × z08):=[]
def build20_IA:List SV->z0d->List (Nat × z08):=fun _ _=>[]
abbrev z2g:=Nat × Nat × List Int × List Int × List Value
abbrev z55:=Nat × List Int × List Int × List Value
abbrev z0y (I:Inst):=(∃ (g:List Value),True/\((0=0/\(0=0/\True))/\((True/\(True/\True))/\((True/\(True/\(True/\(True/\(True/\True)))))/\(I.sup=I.sup/\(I.arcs=I.arcs/\(List.replicate (↑I.arcs.length:Int).toNat (0:Int)=List.replicate I.arcs.length (0:Int)/\(I.sup=I.sup/\((List.replicate (↑I.sup.length:Int).toNat []=z1p I (0:Nat) []/\(List.replicate (↑I.sup.length:Int).toNat (Value.slice none (0:Nat) (0:Nat))=g/\((none:Option Nat)=none)))/\True)))))))))
abbrev z0t (I:Inst):=((↑I.arcs.length:Int)=↑I.arcs.length/\((0:Int) <= ↑I.arcs.length/\((↑I.arcs.length:Int) <= 1000000000)))
abbrev z0q (I:Inst):=((↑I.sup.length:Int)=↑I.sup.length/\((0:Int) <= ↑I.sup.length/\((↑I.sup.length:Int) <= 1000000000)))
abbrev zaj (x_1:List (List Int)) (g_2:z2g) (I:Inst) (g0_2:z2g) (x:Int):=(x_1.length+(1:Nat) <= 1000000000/\(((0:Int) <= ↑g_2.1/\((↑g_2.1:Int)<↑(DK.recs (MK.int IntKind.i64) [MK.bool] (z1p I g_2.1 (fwd (z5c I g_2.1) ++ bwd (List.take g_2.2.1 (z7j I g_2.1))))).len))/\((↑g_2.1:Int).toNat=(↑g_2.1:Int).toNat/\((↑g_2.1:Int).toNat<(z1p I g_2.1 (fwd (z5c I g_2.1) ++ bwd (List.take g_2.2.1 (z7j I g_2.1)))).length/\(∀ (u:Value),∃ (g':z2g),(g'.2.2.fst=g0_2.2.2.fst/\(g'.2.2.2.fst=g0_2.2.2.2.fst/\(g'.fst=g0_2.fst/\(g'.2.fst <= (z7j I g'.fst).length))))/\((z7j I g'.fst).length - g'.2.fst<(z7j I g_2.fst).length - g_2.2.fst/\((0=0/\(0=0/\((↑I.sup.length:Int)=↑I.sup.length/\((↑g_2.1:Int)=↑g'.1/\((↑g_2.1:Int)=↑g'.1/\(True/\((↑(z7j I g_2.1).length:Int)=↑(z7j I g'.1).length/\(IntKind.i64.wrap ((↑g_2.2.1:Int)+(1:Int))=(↑g'.2.1:Int)/\True))))))))/\(z3t (z7j I g_2.1)=z3t (z7j I g'.1)/\(((↑I.sup.length:Int)=↑I.sup.length/\(True/\(True/\(True/\True))))/\(I.arcs=I.arcs/\(z3y I=z3y I/\(z15 I=z15 I/\((True/\(True/\(True/\(True/\(True/\True)))))/\(I.sup=I.sup/\(I.arcs=I.arcs/\(g_2.2.2.1=g'.2.2.1/\(g_2.2.2.2.1=g'.2.2.2.1/\(((z1p I g_2.1 (fwd (z5c I g_2.1) ++ bwd (List.take g_2.2.1 (z7j I g_2.1)))).set (↑g_2.1:Int).toNat (x_1 ++ [[x,bif true then (1:Int) else (0:Int)]])=z1p I g'.1 (fwd (z5c I g'.1) ++ bwd (List.take g'.2.1 (z7j I g'.1)))/\(g_2.2.2.2.2.set (↑g_2.1:Int).toNat u=g'.2.2.2.2/\((none:Option Nat)=none)))/\True))))))))))))))))))
abbrev zak (x_1:List (List Int)) (g_1:z2g) (I:Inst) (g0_1:z2g) (x:Int):=(x_1.length+(1:Nat) <= 1000000000/\(((0:Int) <= ↑g_1.1/\((↑g_1.1:Int)<↑(DK.recs (MK.int IntKind.i64) [MK.bool] (z1p I g_1.1 (fwd (List.take g_1.2.1 (z5c I g_1.1))))).len))/\((↑g_1.1:Int).toNat=(↑g_1.1:Int).toNat/\((↑g_1.1:Int).toNat<(z1p I g_1.1 (fwd (List.take g_1.2.1 (z5c I g_1.1)))).length/\(∀ (u:Value),∃ (g':z2g),(g'.2.2.fst=g0_1.2.2.fst/\(g'.2.2.2.fst=g0_1.2.2.2.fst/\(g'.fst=g0_1.fst/\(g'.2.fst <= (z5c I g'.fst).length))))/\((z5c I g'.fst).length - g'.2.fst<(z5c I g_1.fst).length - g_1.2.fst/\((0=0/\(0=0/\((↑I.sup.length:Int)=↑I.sup.length/\((↑g_1.1:Int)=↑g'.1/\((↑g_1.1:Int)=↑g'.1/\(True/\((↑(z5c I g_1.1).length:Int)=↑(z5c I g'.1).length/\(IntKind.i64.wrap ((↑g_1.2.1:Int)+(1:Int))=(↑g'.2.1:Int)/\True))))))))/\(z3t (z5c I g_1.1)=z3t (z5c I g'.1)/\(((↑I.sup.length:Int)=↑I.sup.length/\(True/\(True/\(True/\True))))/\(I.arcs=I.arcs/\(z3y I=z3y I/\(z15 I=z15 I/\((True/\(True/\(True/\(True/\(True/\True)))))/\(I.sup=I.sup/\(I.arcs=I.arcs/\(g_1.2.2.1=g'.2.2.1/\(g_1.2.2.2.1=g'.2.2.2.1/\(((z1p I g_1.1 (fwd (List.take g_1.2.1 (z5c I g_1.1)))).set (↑g_1.1:Int).toNat (x_1 ++ [[x,bif false then (1:Int) else (0:Int)]])=z1p I g'.1 (fwd (List.take g'.2.1 (z5c I g'.1)))/\(g_1.2.2.2.2.set (↑g_1.1:Int).toNat u=g'.2.2.2.2/\((none:Option Nat)=none)))/\True))))))))))))))))))
abbrev z2f (I:Inst):=(((z0t I)/\((z0q I)/\(z0y I)))/\((z0q I)/\((z0t I)/\(z0y I))))
abbrev z53 (I:Inst):=((0:Nat)+I.sup.length <= (1000000000:Nat)/\(z0y I))
abbrev z4g (I:Inst):=(((0:Nat)+I.sup.length <= (1000000000:Nat)/\((z0q I)/\(z0y I)))/\((z0q I)/\(z53 I)))
abbrev z54 (I:Inst):=(((z0t I)/\(z53 I))/\((0:Nat)+I.sup.length <= (1000000000:Nat)/\((z0t I)/\(z0y I))))
abbrev z30 (I:Inst):=(((z0q I)/\(z0y I))/\((z0q I)/\(z0y I)))
abbrev z2a (I:Inst):=(((z0t I)/\(z0y I))/\((z0t I)/\(z0y I)))
abbrev zbs (I:Inst):=(((z0t I)/\(((0:Nat)+I.sup.length <= (1000000000:Nat)/\((z0q I)/\(z0y I)))/\(z4g I)))/\((0:Nat)+I.sup.length <= (1000000000:Nat)/\(((z0t I)/\((z0q I)/\(z0y I)))/\(z2f I)))/\((z0t I)/\(z4g I))/\((0:Nat)+I.sup.length <= (1000000000:Nat)/\(z2f I))/\((z0q I)/\(z54 I)))
abbrev z6e (I:Inst):=(((z0t I)/\(z4g I))/\((0:Nat)+I.sup.length <= (1000000000:Nat)/\(z2f I))/\((z0q I)/\(z54 I)))
abbrev z4b (I:Inst):=((z2f I)/\((z0q I)/\((z0t I)/\(z0y I))))
abbrev z35:=(True/\(True/\(True/\(True/\(True/\True)))))
abbrev z86 (I:Inst):=(((z0t I)/\((z53 I)/\(z53 I)))/\((0:Nat)+I.sup.length <= (1000000000:Nat)/\(z2a I)))
abbrev z87 (I:Inst):=(((0:Nat)+I.sup.length <= (1000000000:Nat)/\(z30 I))/\((z0q I)/\((z53 I)/\(z53 I))))
abbrev z88 (I:Inst):=((z54 I)/\((0:Nat)+I.sup.length <= (1000000000:Nat)/\((z0t I)/\(z0y I))))
abbrev z6f (I:Inst):=((↑I.sup.length:Int)=↑I.sup.length/\(True/\(True/\(True/\True))))
abbrev z6g (I:Inst):=(((z0t I)/\((z0q I)/\(z0y I)))/\(z2f I))
abbrev zbt (I:Inst):=((0:Nat)+I.sup.length <= (1000000000:Nat)/\(z2f I)/\((z0t I)/\(z30 I))/\((z0q I)/\(z2a I)))
def zfb (I : Inst) (ty0 ty1 : TypeId) : Prop :=
   (((zbs I)/\((0:Nat)+I.sup.length <= (1000000000:Nat)/\(z6g I)/\(z4b I))/\(z6e I)/\((0:Nat)+I.sup.length <= (1000000000:Nat)/\(z4b I))/\((z0q I)/\(z88 I)))/\((zbs I)/\((z0t I)/\(((0:Nat)+I.sup.length <= (1000000000:Nat)/\((z0q I)/\(z0y I)))/\(z4g I))/\((0:Nat)+I.sup.length <= (1000000000:Nat)/\(((z0q I)/\(z0y I))/\(z30 I)))/\(z4g I)/\(z87 I))/\((0:Nat)+I.sup.length <= (1000000000:Nat)/\(z6g I)/\((z0t I)/\(((z0q I)/\(z0y I))/\(z30 I)))/\(z2f I)/\((z0t I)/\(z30 I))/\((z0q I)/\(z2a I)))/\(z6e I)/\((z0t I)/\(z4g I)/\(z87 I))/\(zbt I)/\(z0q I)/\(z54 I)/\(z86 I))/\((0:Nat)+I.sup.length <= (1000000000:Nat)/\((z6g I)/\(z4b I))/\((z6g I)/\((z0t I)/\(((z0q I)/\(z0y I))/\(z30 I)))/\(z2f I)/\((z0t I)/\(z30 I))/\((z0q I)/\(z2a I)))/\(z4b I)/\((z2f I)/\((z0t I)/\(z30 I))/\((z0q I)/\(z2a I)))/\((z0q I)/\(((z0t I)/\(z0y I))/\(z2a I))))/\((z6e I)/\((0:Nat)+I.sup.length <= (1000000000:Nat)/\(z4b I))/\((z0q I)/\(z88 I)))/\((z6e I)/\((z0t I)/\(z4g I)/\(z87 I))/\(zbt I)/\(z0q I)/\(z54 I)/\(z86 I))/\((0:Nat)+I.sup.length <= (1000000000:Nat)/\(z4b I)/\((z2f I)/\((z0t I)/\(z30 I))/\((z0q I)/\(z2a I)))/\((z0q I)/\(((z0t I)/\(z0y I))/\(z2a I))))/\(z0q I)/\(z88 I)/\((z54 I)/\(z86 I))/\((0:Nat)+I.sup.length <= (1000000000:Nat)/\(((z0t I)/\(z0y I))/\(z2a I))))/\∀ (g:List Value),True->∃ (g0:z55),((g0.fst <= I.arcs.length/\(LowI I g0.fst g0.2.fst g0.2.2.fst))/\((0=0/\(0=0/\(True/\((↑I.arcs.length:Int)=↑I.arcs.length/\((0:Int)=↑g0.1/\True)))))/\((True/\(True/\True))/\((z35)/\(I.sup=I.sup/\(I.arcs=I.arcs/\(List.replicate I.arcs.length (0:Int)=g0.2.1/\(I.sup=g0.2.2.1/\((z1p I (0:Nat) []=z1p I (0:Nat) []/\(g=g0.2.2.2/\((none:Option Nat)=none)))/\True)))))))))/\∀ (g:z55),g.fst <= I.arcs.length/\LowI I g.fst g.2.fst g.2.2.fst->(decide ((↑g.1:Int)<↑I.arcs.length)=true->((0:Int) <= ↑g.1/\((↑g.1:Int)<↑I.arcs.length))/\((↑g.1:Int).toNat<I.arcs.length/\(∀ (x:Arc),I.arcs[(↑g.1:Int).toNat]? = some x->(z1i I (↑g.1:Int)/\(g.2.1.length=I.arcs.length/\(g.2.2.1.length=I.sup.length/\(XB g.2.1/\(XB g.2.2.1/\((-1152921504606846976:Int) <= x.low/\(x.low <= (1152921504606846976:Int))))))))/\(∃ (g':z55),(g'.fst <= I.arcs.length/\(LowI I g'.fst g'.2.fst g'.2.2.fst))/\(I.arcs.length - g'.fst<I.arcs.length - g.fst/\((0=0/\(0=0/\(True/\((↑I.arcs.length:Int)=↑I.arcs.length/\(IntKind.i64.wrap ((↑g.1:Int)+(1:Int))=(↑g'.1:Int)/\True)))))/\((True/\(True/\True))/\((z35)/\(I.sup=I.sup/\(I.arcs=I.arcs/\(z4s g.2.1 ((↑g.1:Int).toNat,false) x.low=g'.2.1/\(z6y I g.2.2.1 ((↑g.1:Int).toNat,false) x.low=g'.2.2.1/\((z1p I (0:Nat) []=z1p I (0:Nat) []/\(g.2.2.2=g'.2.2.2/\((none:Option Nat)=none)))/\True)))))))))))))/\(decide ((↑g.1:Int)<↑I.arcs.length)=false->(I.sup.length <= (10000:Nat)/\(I.arcs.length <= (10000:Nat)))/\∃ (g0:z55),((g0.2.fst=g0.2.fst/\(g0.2.2.fst=g0.2.2.fst/\(g0.fst <= I.sup.length)))/\((0=0/\(0=0/\((↑I.sup.length:Int)=↑I.sup.length/\((0:Int)=↑g0.1/\True))))/\((z6f I)/\(I.arcs=I.arcs/\(z3y I=z3y I/\(z15 I=z15 I/\((z35)/\(I.sup=I.sup/\(I.arcs=I.arcs/\(g.2.1=g0.2.1/\(g.2.2.1=g0.2.2.1/\((z1p I (0:Nat) []=z1p I g0.1 []/\(g.2.2.2=g0.2.2.2/\((none:Option Nat)=none)))/\True))))))))))))/\∀ (g:z55),g.2.fst=g0.2.fst/\g.2.2.fst=g0.2.2.fst/\g.fst <= I.sup.length->(decide ((↑g.1:Int)<↑I.sup.length)=true->PieceOk (↑I.sup.length:Int) (z3y I) (z15 I) (↑g.1:Int) (0:Nat)/\∃ (g0_1:z2g),((g0_1.2.2.fst=g0_1.2.2.fst/\(g0_1.2.2.2.fst=g0_1.2.2.2.fst/\(g0_1.fst=g0_1.fst/\(g0_1.2.fst <= (z5c I g0_1.fst).length))))/\((0=0/\(0=0/\((↑I.sup.length:Int)=↑I.sup.length/\((↑g.1:Int)=↑g0_1.1/\((↑g.1:Int)=↑g0_1.1/\(True/\((↑(z0n (z3y I) (z15 I) (↑g.1:Int) (0:Nat)).length:Int)=↑(z5c I g0_1.1).length/\((0:Int)=↑g0_1.2.1/\True))))))))/\(z0n (z3y I) (z15 I) (↑g.1:Int) (0:Nat)=z3t (z5c I g0_1.1)/\((z6f I)/\(I.arcs=I.arcs/\(z3y I=z3y I/\(z15 I=z15 I/\((z35)/\(I.sup=I.sup/\(I.arcs=I.arcs/\(g.2.1=g0_1.2.2.1/\(g.2.2.1=g0_1.2.2.2.1/\((z1p I g.1 []=z1p I g0_1.1 (fwd (List.take g0_1.2.1 (z5c I g0_1.1)))/\(g.2.2.2=g0_1.2.2.2.2/\((none:Option Nat)=none)))/\True)))))))))))))/\∀ (g_1:z2g),g_1.2.2.fst=g0_1.2.2.fst/\g_1.2.2.2.fst=g0_1.2.2.2.fst/\g_1.fst=g0_1.fst/\g_1.2.fst <= (z5c I g_1.fst).length->(decide ((↑g_1.2.1:Int)<↑(z5c I g_1.1).length)=true->((0:Int) <= ↑g_1.2.1/\((↑g_1.2.1:Int)<↑(z3t (z5c I g_1.1)).length))/\(↑g_1.2.1:Int).toNat<(z3t (z5c I g_1.1)).length/\∀ (x:Int),(z3t (z5c I g_1.1))[(↑g_1.2.1:Int).toNat]? = some x->((0:Int) <= ↑g_1.1/\((↑g_1.1:Int)<↑(DK.recs (MK.int IntKind.i64) [MK.bool] (z1p I g_1.1 (fwd (List.take g_1.2.1 (z5c I g_1.1))))).len))/\(↑g_1.1:Int).toNat<(z1p I g_1.1 (fwd (List.take g_1.2.1 (z5c I g_1.1)))).length/\∀ (x_1:List (List Int)),(z1p I g_1.1 (fwd (List.take g_1.2.1 (z5c I g_1.1))))[(↑g_1.1:Int).toNat]? = some x_1->(zak x_1 g_1 I g0_1 x)/\(zak x_1 g_1 I g0_1 x)/\(zak x_1 g_1 I g0_1 x))/\(decide ((↑g_1.2.1:Int)<↑(z5c I g_1.1).length)=false->PieceOk (↑I.sup.length:Int) (z3y I) (z15 I) (↑g_1.1:Int) (1:Nat)/\∃ (g0_2:z2g),((g0_2.2.2.fst=g0_2.2.2.fst/\(g0_2.2.2.2.fst=g0_2.2.2.2.fst/\(g0_2.fst=g0_2.fst/\(g0_2.2.fst <= (z7j I g0_2.fst).length))))/\((0=0/\(0=0/\((↑I.sup.length:Int)=↑I.sup.length/\((↑g_1.1:Int)=↑g0_2.1/\((↑g_1.1:Int)=↑g0_2.1/\(True/\((↑(z0n (z3y I) (z15 I) (↑g_1.1:Int) (1:Nat)).length:Int)=↑(z7j I g0_2.1).length/\((0:Int)=↑g0_2.2.1/\True))))))))/\(z0n (z3y I) (z15 I) (↑g_1.1:Int) (1:Nat)=z3t (z7j I g0_2.1)/\((z6f I)/\(I.arcs=I.arcs/\(z3y I=z3y I/\(z15 I=z15 I/\((z35)/\(I.sup=I.sup/\(I.arcs=I.arcs/\(g_1.2.2.1=g0_2.2.2.1/\(g_1.2.2.2.1=g0_2.2.2.2.1/\((z1p I g_1.1 (fwd (List.take g_1.2.1 (z5c I g_1.1)))=z1p I g0_2.1 (fwd (z5c I g0_2.1) ++ bwd (List.take g0_2.2.1 (z7j I g0_2.1)))/\(g_1.2.2.2.2=g0_2.2.2.2.2/\((none:Option Nat)=none)))/\True)))))))))))))/\∀ (g_2:z2g),g_2.2.2.fst=g0_2.2.2.fst/\g_2.2.2.2.fst=g0_2.2.2.2.fst/\g_2.fst=g0_2.fst/\g_2.2.fst <= (z7j I g_2.fst).length->(decide ((↑g_2.2.1:Int)<↑(z7j I g_2.1).length)=true->((0:Int) <= ↑g_2.2.1/\((↑g_2.2.1:Int)<↑(z3t (z7j I g_2.1)).length))/\(↑g_2.2.1:Int).toNat<(z3t (z7j I g_2.1)).length/\∀ (x:Int),(z3t (z7j I g_2.1))[(↑g_2.2.1:Int).toNat]? = some x->((0:Int) <= ↑g_2.1/\((↑g_2.1:Int)<↑(DK.recs (MK.int IntKind.i64) [MK.bool] (z1p I g_2.1 (fwd (z5c I g_2.1) ++ bwd (List.take g_2.2.1 (z7j I g_2.1))))).len))/\(↑g_2.1:Int).toNat<(z1p I g_2.1 (fwd (z5c I g_2.1) ++ bwd (List.take g_2.2.1 (z7j I g_2.1)))).length/\∀ (x_1:List (List Int)),(z1p I g_2.1 (fwd (z5c I g_2.1) ++ bwd (List.take g_2.2.1 (z7j I g_2.1))))[(↑g_2.1:Int).toNat]? = some x_1->(zaj x_1 g_2 I g0_2 x)/\(zaj x_1 g_2 I g0_2 x)/\(zaj x_1 g_2 I g0_2 x))/\(decide ((↑g_2.2.1:Int)<↑(z7j I g_2.1).length)=false->∃ (g':z55),(g'.2.fst=g0.2.fst/\(g'.2.2.fst=g0.2.2.fst/\(g'.fst <= I.sup.length)))/\(I.sup.length - g'.fst<I.sup.length - g.fst/\((0=0/\(0=0/\((↑I.sup.length:Int)=↑I.sup.length/\(IntKind.i64.wrap ((↑g_2.1:Int)+(1:Int))=(↑g'.1:Int)/\True))))/\((z6f I)/\(I.arcs=I.arcs/\(z3y I=z3y I/\(z15 I=z15 I/\((z35)/\(I.sup=I.sup/\(I.arcs=I.arcs/\(g_2.2.2.1=g'.2.1/\(g_2.2.2.2.1=g'.2.2.1/\((z1p I g_2.1 (fwd (z5c I g_2.1) ++ bwd (List.take g_2.2.1 (z7j I g_2.1)))=z1p I g'.1 []/\(g_2.2.2.2.2=g'.2.2.2/\((none:Option Nat)=none)))/\True)))))))))))))))/\(decide ((↑g.1:Int)<↑I.sup.length)=false->∃ (g_1:List Int × List Int × Rows3),BuildP I g_1.1 g_1.2.1 g_1.2.2/\(∃ (V:Nat->List Value),(0=0/\True)/\((z35)/\(g.2.1=g_1.1/\(g.2.2.1=g_1.2.1/\((z1p I g.1 []=g_1.2.2/\(g.2.2.2=V ((0:Nat)+(1:Nat)+(1:Nat)+(1:Nat))/\((none:Option Nat)=none)))/\True)))))))
theorem build20_q (I:Inst) (ty0 ty1:TypeId):zfb I ty0 ty1=z6x TT zjn (build20_I I) (zfc I) Tryz.f59 [.agg [.row 0,.row 1]] [(0,.row false ty0 (.ints .i64 I.sup)),(1,.row false ty1 (.arcs I.arcs))] (zjp I):=by kernel_rfl
theorem build20_E (I:Inst) (ty0 ty1:TypeId) (hp:z02 I=0):FVcR TT zjn (build20_I I) (zfc I) Tryz.f59 [.agg [.row 0,.row 1]] [(0,.row false ty0 (.ints .i64 I.sup)),(1,.row false ty1 (.arcs I.arcs))] (zjp I):=by
 refine FVcR.of (zfb I ty0 ty1) (build20_q I ty0 ty1) ?_
 unfold zfb
 delta zbt z6g z6f z88 z87 z86 z35 z4b z6e zbs z2a z30 z54 z4g z53 z2f zak zaj z0q z0t z0y z2g z55
 simp only [eq_self,exists_const,forall_const,ne_eq,Int.toNat_natCast,zSS,z07]
 have hs64:=z0e hp
 have f1:((0:Int) <= (I.arcs.length:Int)/\(I.arcs.length:Int) <= 1000000000)=True:=eq_true (by omega)
 have f2:((0:Int) <= (I.sup.length:Int)/\(I.sup.length:Int) <= 1000000000)=True:=eq_true (by omega)
 have f3:(0+I.sup.length <= 1000000000)=True:=eq_true (by omega)
 have f4:(∃ g:List Value,List.replicate I.sup.length []=z1p I 0 []/\List.replicate I.sup.length (Value.slice none 0 0)=g)=True:=eq_true ⟨_,stpsK_zero I,rfl⟩
 simp only [f1,f2,f3,f4,true_and,and_true]
 intro vs0
 refine ⟨(0,_,_,vs0),⟨⟨Nat.zero_le _,LowI.begin hp⟩,rfl,rfl,rfl,rfl⟩,?_⟩
 rintro ⟨a,x,o,vs⟩ ⟨ha,hL⟩
 dsimp only at ha hL ⊢
 refine ⟨fun h1=>⟨by omega,by omega,fun y hy=>?_⟩,fun h1=>?_⟩
 ·have hal:a<I.arcs.length:=by omega
  have hk:=z1j hp hal
  have hey:z2z I a=y:=z27 hy
  have hxb:=hL.xb hp ha
  have l0:=hk.l0
  have l1:=hk.l1
  have hn:=hL.next hp hal
  rw [hey] at l0 l1 hn
  exact ⟨⟨⟨hp,by omega,by omega⟩,hL.over.lx,hL.over.lo,hxb.1,hxb.2,by omega,by omega⟩,(a+1,_,_,vs),⟨by dsimp only; omega,hn⟩,by dsimp only; omega,by rw [w64 (by omega) (by omega)]; dsimp only; omega,rfl,rfl,rfl⟩
 have ea:a=I.arcs.length:=by omega
 subst ea
 refine ⟨⟨by omega,by omega⟩,(0,x,o,vs),⟨Nat.zero_le _,rfl,rfl,rfl,rfl,rfl⟩,?_⟩
 rintro ⟨n,x',o',vs⟩ ⟨h2,h3,hn⟩
 dsimp only at h2 h3 hn ⊢
 subst h2 h3
 refine ⟨fun h4=>⟨piece_ok hp (by omega) (by omega),?_⟩,fun h4=>?_⟩
 rotate_left
 ·have en:n=I.sup.length:=by omega
  subst en
  exact ⟨(x',o',z1p I I.sup.length []),⟨hL,steps_ok hp⟩,fun _=>vs,rfl,rfl,rfl,rfl⟩
 have hn2:n<I.sup.length:=by omega
 have q0:z0n (z3y I) (z15 I) (n:Int) 0=z3t (z5c I n):=piece_is hn2 (by omega)
 have q1:z0n (z3y I) (z15 I) (n:Int) 1=z3t (z7j I n):=piece_is hn2 (by omega)
 have c0:(z5c I n).length <= 256:=Nat.le_trans (z9a I (2 * n) I.arcs.length) hs64.2
 have c1:(z7j I n).length <= 256:=Nat.le_trans (z9a I (2 * n+1) I.arcs.length) hs64.2
 refine ⟨(n,0,x',o',vs),⟨Nat.zero_le _,⟨rfl,rfl,by rw [q0,zi0],rfl⟩,q0,rfl,rfl,rfl,rfl⟩,?_⟩
 rintro ⟨n1,k,x1,o1,vs⟩ ⟨h5,h6,h7,hk⟩
 dsimp only at h5 h6 h7 hk ⊢
 subst h5 h6 h7
 have dl:∀ t,DK.len (.recs (MK.int IntKind.i64) [MK.bool] t)=t.length:=fun _=>rfl
 have hrl:∀ q:List Stp,q.length <= 600->∀ r,(z1p I n1 q)[n1]? = some r->r.length <= 600:=fun q hq r hr=>by
  rw [z6v hn2,if_neg (Nat.lt_irrefl _),if_pos rfl] at hr
  cases hr
  rw [List.length_map]; exact hq
 simp only [zi0,z6w,dl]
 refine ⟨fun h8=>⟨by omega,by omega,fun z hz=>?_⟩,fun h8=>?_⟩
 ·obtain ⟨b,hb,rfl⟩:=natI_get hz
  refine ⟨by omega,by omega,fun r hr=>?_⟩
  have hr2:=hrl _ (by simp [fwd]; omega) r hr
  have e1:fwd ((z5c I n1).take (k+1))=fwd ((z5c I n1).take k) ++ [(b,false)]:=by rw [z1b hb]; simp [fwd]
  have e2:(z1p I n1 (fwd ((z5c I n1).take k))).set n1 (r ++ [[(b:Int),bif false then 1 else 0]])=z1p I n1 (fwd ((z5c I n1).take (k+1))):=by rw [e1]; exact stpsK_set (b,false) hr
  repeat' first
   | exact ⟨by omega,by omega,by omega,fun u=>⟨(n1,k+1,x1,o1,_),⟨rfl,rfl,rfl,by dsimp only; omega⟩,by dsimp only; omega,⟨rfl,rfl,rfl,by rw [w64 (by omega) (by omega)]; dsimp only; omega⟩,rfl,rfl,rfl,e2,rfl⟩⟩
   | refine And.intro ?_ ?_
 have ek:k=(z5c I n1).length:=by omega
 subst ek
 refine ⟨piece_ok hp hn2 (by omega),(n1,0,x1,o1,vs),⟨Nat.zero_le _,⟨rfl,rfl,by rw [q1,zi0],rfl⟩,q1,rfl,rfl,?_,rfl⟩,?_⟩
 ·dsimp only
  rw [List.take_length]
  simp [bwd]
 rintro ⟨n2,k,x2,o2,vs⟩ ⟨h5,h6,h7,hk2⟩
 dsimp only at h5 h6 h7 hk2 ⊢
 subst h5 h6 h7
 refine ⟨fun h9=>⟨by omega,by omega,fun z hz=>?_⟩,fun h9=>?_⟩
 ·obtain ⟨b,hb,rfl⟩:=natI_get hz
  refine ⟨by omega,by omega,fun r hr=>?_⟩
  have hr2:=hrl _ (by simp [fwd,bwd]; omega) r hr
  have e1:fwd (z5c I n2) ++ bwd ((z7j I n2).take (k+1))=(fwd (z5c I n2) ++ bwd ((z7j I n2).take k)) ++ [(b,true)]:=by rw [z1b hb]; simp [bwd]
  have e2:(z1p I n2 (fwd (z5c I n2) ++ bwd ((z7j I n2).take k))).set n2 (r ++ [[(b:Int),bif true then 1 else 0]])=z1p I n2 (fwd (z5c I n2) ++ bwd ((z7j I n2).take (k+1))):=by rw [e1]; exact stpsK_set (b,true) hr
  repeat' first
   | exact ⟨by omega,by omega,by omega,fun u=>⟨(n2,k+1,x2,o2,_),⟨rfl,rfl,rfl,by dsimp only; omega⟩,by dsimp only; omega,⟨rfl,rfl,rfl,by rw [w64 (by omega) (by omega)]; dsimp only; omega⟩,rfl,rfl,rfl,e2,rfl⟩⟩
   | refine And.intro ?_ ?_
 have ek:k=(z7j I n2).length:=by omega
 subst ek
 refine ⟨(n2+1,x2,o2,vs),⟨rfl,rfl,by dsimp only; omega⟩,by dsimp only; omega,by rw [w64 (by omega) (by omega)]; dsimp only; omega,rfl,rfl,?_,rfl⟩
 dsimp only
 rw [List.take_length]
 exact stpsK_next I n2
theorem build20_ok:SpecOk Tryz.prog zjo true (z0l true zal) :=
 z1x z0r (show z1c Tryz.prog zjn from z00 zld (z00 New_ok (z00 out20_ok (z00 in20_ok (z05))))) (by kernel_rfl) mixedOrders Tryz.func59 rfl rfl (by kernel_rfl) (n:=1) (by decide +kernel) (I:=build20_IA) (fun _ _=>z06) (A:=build20_A)
  (fun args h r hr=>by
   unfold zal at hr
   split at hr
   ·rename_i ty0 I_s ty1 I_a; cases hr; refine ⟨rfl,fun hp=>?_⟩; have hE:=build20_E ⟨I_s,I_a⟩ ty0 ty1 hp; exact hE
   ·cases hr)
def Solve_r (I:Inst):FRel:={ pre:=z02 I=0->SmallI I,G:=(Cert) × (Int),post:=fun ⟨c,e⟩=>SolveP I c e,out:=fun ⟨c,e⟩=>{ pre:=True,res:=.tup [.agg [.int .i64 (c).kind,.row 2,.row 3,.row 4,.row 5],.int .u16 (e)],rows:=[.row 2 (.ints .i64 (c).flow),.row 2 (.ints .i64 (c).pot),.row 4 (.bools (c).side),.row 3 (.ints .i64 (c).cycle)],eff:=[] } }
def zhs:FR:=fun args h=>match args,h with
 | [.agg [.row 0,.row 1]],[(0,.row false ty0 (.ints .i64 I_s)),(1,.row false ty1 (.arcs I_a))]=>some (Solve_r ⟨I_s,I_a⟩)
 | _,_=>none
def Solve_an (I:Inst):List (Nat × Ann):=[]
def Solve_A:List SV->z0d->List (Nat × Ann):=fun _ _=>[]
def Solve_g:z0c:=[(Right_n,(true,z03 true zhr)),(zjo,(true,z0l true zal)),(fill20_n,(false,z0l false zdc)),(zmj,(true,z0l true zaz)),(cheap20_n,(false,z0l false zfg)),(price20_n,(true,z0l true zfv))]
abbrev Solve_n:Nat:=19
def Solve_I (I:Inst):List (Nat × z08):=[]
def Solve_IA:List SV->z0d->List (Nat × z08):=fun _ _=>[]
def Solve_E0 (I : Inst) (ty0 ty1 : TypeId) : Prop :=
      True /\
 ((z02 I != (0:Int))=true ->
 ∃ (g:Cert × Int),
 SolveP I g.1 g.2 /\
 ((((0:Int)=g.1.kind/\True/\True/\True/\True/\True)/\z02 I=g.2/\True)/\True)/\[]=g.1.flow/\[]=g.1.pot/\[]=g.1.side/\[]=g.1.cycle/\True) /\
 ((z02 I != (0:Int))=false ->
 z02 I=(0:Int) /\
 ∀ (g:List Int × List Int × Rows3),
 BuildP I g.1 g.2.1 g.2.2 ->
 ∀ (V:Nat->List Value),
 (z02 I=(0:Int)/\FillI I g.1 g.2.1/\AtOk I g.2.2) /\
 ∀ (g:List Int × List Int × List Bool × Bool),
 FillP I g.1 g.2.1 g.2.2.1 g.2.2.2 ->
 (g.2.2.2=true ->
 ∃ (g_1:Cert × Int),
 SolveP I g_1.1 g_1.2 /\
 ((((2:Int)=g_1.1.kind/\True/\True/\True/\True/\True)/\(0:Int)=g_1.2/\True)/\True) /\
 []=g_1.1.flow/\[]=g_1.1.pot/\g.2.2.1=g_1.1.side/\[]=g_1.1.cycle/\True) /\
 (g.2.2.2=false ->
 z02 I=(0:Int) /\
 ∀ (g_1:List Int × Bool),
 RoundP I g_1.1 g_1.2 ->
 (g_1.2=true ->
 ∃ (g_2:Cert × Int),
 SolveP I g_2.1 g_2.2 /\
 ((((3:Int)=g_2.1.kind/\True/\True/\True/\True/\True)/\(0:Int)=g_2.2/\True)/\True) /\
 g.1=g_2.1.flow/\[]=g_2.1.pot/\[]=g_2.1.side/\g_1.1=g_2.1.cycle/\True) /\
 (g_1.2=false ->
 z02 I=(0:Int) /\
 ∀ (g:List Int × List Int × Rows3),
 BuildP I g.1 g.2.1 g.2.2 ->
 ∀ (V:Nat->List Value),
 (z02 I=(0:Int) /\
 OverOf I g.1 g.2.1 /\
 (∀ (a:Nat),a<I.arcs.length->g.1.getD a (0:Int)=(z2z I a).low) /\
 GreatOk I g.2.1/\(∃ (π:Nat->Int),z90 I (Ql.endS I) π)/\∃ (y:List Int),A64 y/\z1w I y=(0:Int)) /\
 ∀ (g:List Int × List Int),
 CheapP I g.1 g.2 ->
 (z02 I=(0:Int) /\
 g.1.length=I.arcs.length /\
 XB g.1/\∃ (π:Nat->Int),z90 I (fun (s:Stp)=>Ql.endS I s || decide ((0:Int)<rmS I g.1 s)) π) /\
 ∀ (g_2:List Int),
 PriceP I g.1 g_2 ->
 ∃ (g_3:Cert × Int),
 SolveP I g_3.1 g_3.2 /\
 ((((1:Int)=g_3.1.kind/\True/\True/\True/\True/\True)/\(0:Int)=g_3.2/\True)/\True) /\
 g.1=g_3.1.flow/\g_2=g_3.1.pot/\[]=g_3.1.side/\[]=g_3.1.cycle/\True)))
theorem Solve_q (I:Inst) (ty0 ty1:TypeId):Solve_E0 I ty0 ty1=z6x TT Solve_g (Solve_I I) (Solve_an I) Tryz.f19 [.agg [.row 0,.row 1]] [(0,.row false ty0 (.ints .i64 I.sup)),(1,.row false ty1 (.arcs I.arcs))] (Solve_r I):=by kernel_rfl
theorem Solve_E (I:Inst) (ty0 ty1:TypeId) (hp:z02 I=0->SmallI I):FVcR TT Solve_g (Solve_I I) (Solve_an I) Tryz.f19 [.agg [.row 0,.row 1]] [(0,.row false ty0 (.ints .i64 I.sup)),(1,.row false ty1 (.arcs I.arcs))] (Solve_r I):=by
 refine FVcR.of (Solve_E0 I ty0 ty1) (Solve_q I ty0 ty1) ?_
 unfold Solve_E0
 simp only [eq_self,exists_const,forall_const,ne_eq,Int.toNat_natCast,zSS,z07]
 refine ⟨fun h=>⟨(⟨0,[],[],[],[]⟩,_),solve_bad h,⟨rfl,rfl⟩,rfl,rfl,rfl,rfl⟩,fun hr=>⟨hr,?_⟩⟩
 rintro ⟨x,o,t⟩ hB
 have hF:=build_fill hr hB
 refine ⟨⟨hr,hF,hB.at_⟩,?_⟩
 rintro ⟨x1,o1,m,f⟩ hf
 dsimp only at hf ⊢
 refine ⟨fun h=>?_,fun h=>⟨hr,?_⟩⟩
 ·subst h; exact ⟨(⟨2,[],[],m,[]⟩,0),solve_cut hr hf,⟨rfl,rfl⟩,rfl,rfl,rfl,rfl⟩
 subst h
 rintro ⟨l,f⟩ hl
 dsimp only at hl ⊢
 refine ⟨fun h=>?_,fun h=>⟨hr,?_⟩⟩
 ·subst h; exact ⟨(⟨3,x1,[],[],l⟩,0),solve_ray hr hf hl,⟨rfl,rfl⟩,rfl,rfl,rfl,rfl⟩
 subst h
 rintro ⟨x2,o2,t2⟩ hB2
 refine ⟨build_cheap hr (hp hr) hB2 (hl.no rfl).2 ⟨x1,fits_len hf,(hf.no rfl).2⟩,?_⟩
 rintro ⟨x3,o3⟩ hC
 exact ⟨⟨hr,(fitsF_zero.1 hC.fits).2.1,hC.yb.xb,hC.pot⟩,fun p hp=>⟨(⟨1,x3,p,[],[]⟩,0),solve_best hr hC hp,⟨rfl,rfl⟩,rfl,rfl,rfl,rfl⟩⟩
theorem Solve_ok:SpecOk Tryz.prog Solve_n true (z0l true zhs) :=
 z1x z0r (show z1c Tryz.prog Solve_g from z00 Right_ok (z00 build20_ok (z00 fill20_ok (z00 round20_ok (z00 cheap20_ok (z00 price20_ok (z05))))))) (by kernel_rfl) mixedOrders Tryz.func19 rfl rfl (by kernel_rfl) (n:=1) (by decide +kernel) (I:=Solve_IA) (fun _ _=>z06) (A:=Solve_A)
  (fun args h r hr=>by
   unfold zhs at hr
   split at hr
   ·rename_i ty0 I_s ty1 I_a; cases hr; refine ⟨rfl,fun hp=>?_⟩; have hE:=Solve_E ⟨I_s,I_a⟩ ty0 ty1 hp; exact hE
   ·cases hr)
def Kind_r (I:Inst):FRel:={ pre:=True,G:=(Int) × (Int),post:=fun ⟨k,e⟩=>KindQ I k e,out:=fun ⟨k,e⟩=>{ pre:=True,res:=.tup [.int .i64 (k),.int .u16 (e)],rows:=[],eff:=[] } }
def Kind_fs:FR:=fun args h=>match args,h with
 | [.agg [.row 0,.row 1]],[(0,.row false ty0 (.ints .i64 I_s)),(1,.row false ty1 (.arcs I_a))]=>some (Kind_r ⟨I_s,I_a⟩)
 | _,_=>none
def Kind_an (I:Inst):List (Nat × Ann):=[]
def Kind_A:List SV->z0d->List (Nat × Ann):=fun _ _=>[]
def Kind_g:z0c:=[(Right_n,(true,z03 true zhr)),(zjo,(true,z0l true zal)),(fill20_n,(false,z0l false zdc)),(zmj,(true,z0l true zaz))]
abbrev Kind_n:Nat:=25
def Kind_I (I:Inst):List (Nat × z08):=[]
def Kind_IA:List SV->z0d->List (Nat × z08):=fun _ _=>[]
def Kind_E0 (I : Inst) (ty0 ty1 : TypeId) : Prop :=
      True /\
 ((z02 I != (0:Int))=true->∃ (g:Int × Int),KindQ I g.1 g.2/\(((0:Int)=g.1/\z02 I=g.2/\True)/\True)/\True) /\
 ((z02 I != (0:Int))=false ->
 z02 I=(0:Int) /\
 ∀ (g:List Int × List Int × Rows3),
 BuildP I g.1 g.2.1 g.2.2 ->
 ∀ (V:Nat->List Value),
 (z02 I=(0:Int)/\FillI I g.1 g.2.1/\AtOk I g.2.2) /\
 ∀ (g:List Int × List Int × List Bool × Bool),
 FillP I g.1 g.2.1 g.2.2.1 g.2.2.2 ->
 (g.2.2.2=true->∃ (g:Int × Int),KindQ I g.1 g.2/\(((2:Int)=g.1/\(0:Int)=g.2/\True)/\True)/\True) /\
 (g.2.2.2=false ->
 z02 I=(0:Int) /\
 ∀ (g:List Int × Bool),
 RoundP I g.1 g.2 ->
 (g.2=true->∃ (g:Int × Int),KindQ I g.1 g.2/\(((3:Int)=g.1/\(0:Int)=g.2/\True)/\True)/\True) /\
 (g.2=false->∃ (g:Int × Int),KindQ I g.1 g.2/\(((1:Int)=g.1/\(0:Int)=g.2/\True)/\True)/\True)))
theorem Kind_q (I:Inst) (ty0 ty1:TypeId):Kind_E0 I ty0 ty1=z6x TT Kind_g (Kind_I I) (Kind_an I) Tryz.f25 [.agg [.row 0,.row 1]] [(0,.row false ty0 (.ints .i64 I.sup)),(1,.row false ty1 (.arcs I.arcs))] (Kind_r I):=by kernel_rfl
theorem Kind_E (I:Inst) (ty0 ty1:TypeId) (hp:True):FVcR TT Kind_g (Kind_I I) (Kind_an I) Tryz.f25 [.agg [.row 0,.row 1]] [(0,.row false ty0 (.ints .i64 I.sup)),(1,.row false ty1 (.arcs I.arcs))] (Kind_r I):=by
 refine FVcR.of (Kind_E0 I ty0 ty1) (Kind_q I ty0 ty1) ?_
 unfold Kind_E0
 simp only [eq_self,exists_const,forall_const,ne_eq,Int.toNat_natCast,zSS,z07]
 refine ⟨fun h=>⟨(0,_),kind_bad h,rfl,rfl⟩,fun hr=>⟨hr,?_⟩⟩
 rintro ⟨x,o,t⟩ hB
 have hF:=build_fill hr hB
 refine ⟨⟨hr,hF,hB.at_⟩,?_⟩
 rintro ⟨x1,o1,m,f⟩ hf
 dsimp only at hf ⊢
 refine ⟨fun h=>?_,fun h=>⟨hr,?_⟩⟩
 ·subst h; exact ⟨(2,0),kind_cut hr hf,rfl,rfl⟩
 subst h
 rintro ⟨l,f⟩ hl
 dsimp only at hl ⊢
 refine ⟨fun h=>?_,fun h=>?_⟩
 ·subst h; exact ⟨(3,0),kind_ray hr hf hl,rfl,rfl⟩
 ·subst h; exact ⟨(1,0),kind_best hr hf hl,rfl,rfl⟩
theorem Kind_ok:SpecOk Tryz.prog Kind_n true (z0l true Kind_fs) :=
 z1x z0r (show z1c Tryz.prog Kind_g from z00 Right_ok (z00 build20_ok (z00 fill20_ok (z00 round20_ok (z05))))) (by kernel_rfl) mixedOrders Tryz.func25 rfl rfl (by kernel_rfl) (n:=1) (by decide +kernel) (I:=Kind_IA) (fun _ _=>z06) (A:=Kind_A)
  (fun args h r hr=>by
   unfold Kind_fs at hr
   split at hr
   ·rename_i ty0 I_s ty1 I_a; cases hr; refine ⟨rfl,fun hp=>?_⟩; have hE:=Kind_E ⟨I_s,I_a⟩ ty0 ty1 hp; exact hE
   ·cases hr)
end Go.Proofs.YtggblkbecekbdaaGreat
end
section
namespace Go.Ql
open Go Go.Vc
def alikeArc (a b:Arc):Arc:={ a with src:=b.src,dst:=b.dst,cost:=b.cost }
def zd6 (a b:Arc) (s:List Int):List Int:=addAt (addAt (addAt (addAt s a.src.toNat (-a.low)) a.dst.toNat a.low) b.src.toNat a.low) b.dst.toNat (-a.low)
def z0j (I:Inst) (d:List Int):Nat->Inst
 | 0=>I
 | k+1=>if k<d.length/\0<d.getD k 0 % 3 then ⟨zd6 (I.arcs.getD k default) ((z0j I d k).arcs.getD (k / 2) default) (z0j I d k).sup,(z0j I d k).arcs.set k (alikeArc (I.arcs.getD k default) ((z0j I d k).arcs.getD (k / 2) default))⟩ else z0j I d k
def z6c (c d:List Int):Inst:=z0j (z09 c d) d (z09 c d).arcs.length
theorem alikeSup_len (a b:Arc) (s:List Int):(zd6 a b s).length=s.length:=by simp [zd6,z14]
theorem z52 (I:Inst) (d:List Int):∀ k,(z0j I d k).sup.length=I.sup.length/\(z0j I d k).arcs.length=I.arcs.length
 | 0=>⟨rfl,rfl⟩
 | k+1=>by
  have ih:=z52 I d k
  rw [z0j]
  split
  ·dsimp only; rw [alikeSup_len,List.length_set]; exact ih
  ·exact ih
theorem zf7 (I:Inst) (d:List Int):∀ k j,k <= j->(z0j I d k).arcs[j]? = I.arcs[j]?
 | 0,j,_=>rfl
 | k+1,j,h=>by
  rw [z0j]
  split
  ·dsimp only; rw [List.getElem?_set_ne (by omega)]; exact zf7 I d k j (by omega)
  ·exact zf7 I d k j (by omega)
theorem alikeArc_nice {m:Int} {a b:Arc} (ha:a.Nice m) (hb:b.Nice m):(alikeArc a b).Nice m :=
 ⟨hb.s0,hb.s1,hb.d0,hb.d1,ha.l0,ha.l1,ha.c0,ha.c1,hb.k0,hb.k1⟩
theorem z70 {I:Inst} {d:List Int} {m:Int} (h:∀ a ∈ I.arcs,a.Nice m):∀ k,k <= I.arcs.length->∀ a ∈ (z0j I d k).arcs,a.Nice m
 | 0,_=>h
 | k+1,hk=>fun a ha=>by
  have ih:=z70 (d:=d) h k (by omega)
  rw [z0j] at ha
  split at ha
  ·dsimp only at ha
   rcases List.mem_or_eq_of_mem_set ha with h1 | rfl
   ·exact ih a h1
   ·obtain ⟨b,hb⟩:∃ b,I.arcs[k]? = some b:=⟨_,List.getElem?_eq_getElem (by omega)⟩
    obtain ⟨q,hq⟩:∃ q,(z0j I d k).arcs[k / 2]? = some q:=⟨_,List.getElem?_eq_getElem (by rw [(z52 I d k).2]; omega)⟩
    rw [show I.arcs.getD k default=b by rw [List.getD_eq_getElem?_getD,hb]; rfl,show (z0j I d k).arcs.getD (k / 2) default=q by rw [List.getD_eq_getElem?_getD,hq]; rfl]
    exact alikeArc_nice (h b (List.mem_of_getElem? hb)) (ih q (List.mem_of_getElem? hq))
  ·exact ih a ha
theorem zbq {I:Inst} {d:List Int} {b0:Int} (h:∀ a ∈ I.arcs,a.Nice I.sup.length) (hw:Within b0 I.sup) (hb:0 <= b0):∀ k:Nat,k <= I.arcs.length->(z0j I d k).sup.sum=I.sup.sum/\Within (b0+8 * k) (z0j I d k).sup
 | 0,_=>⟨rfl,by simpa [z0j] using hw⟩
 | k+1,hk=>by
  obtain ⟨ih1,ih2⟩:=zbq (d:=d) h hw hb k (by omega)
  have hl:=(z52 I d k).1
  have hn:=z70 (d:=d) h k (by omega)
  rw [z0j]
  split
  ·obtain ⟨b,hb'⟩:∃ b,I.arcs[k]? = some b:=⟨_,List.getElem?_eq_getElem (by omega)⟩
   obtain ⟨q,hq⟩:∃ q,(z0j I d k).arcs[k / 2]? = some q:=⟨_,List.getElem?_eq_getElem (by rw [(z52 I d k).2]; omega)⟩
   rw [show I.arcs.getD k default=b by rw [List.getD_eq_getElem?_getD,hb']; rfl,show (z0j I d k).arcs.getD (k / 2) default=q by rw [List.getD_eq_getElem?_getD,hq]; rfl]
   have n1:=h b (List.mem_of_getElem? hb')
   have n2:=hn q (List.mem_of_getElem? hq)
   have a1:=n1.s0; have a2:=n1.s1; have a3:=n1.d0; have a4:=n1.d1; have a5:=n1.l0; have a6:=n1.l1
   have b1:=n2.s0; have b2:=n2.s1; have b3:=n2.d0; have b4:=n2.d1
   dsimp only
   unfold zd6
   refine ⟨?_,?_⟩
   ·rw [z26 _ _ _ (by simp only [z14]; omega),z26 _ _ _ (by simp only [z14]; omega),z26 _ _ _ (by simp only [z14]; omega),z26 _ _ _ (by omega),ih1]; omega
   ·have w1:=ih2.addAt (by omega) b.src.toNat (x:=-b.low) (y:=2) (by omega) (by omega)
    have w2:=w1.addAt (by omega) b.dst.toNat (x:=b.low) (y:=2) (by omega) (by omega)
    have w3:=w2.addAt (by omega) q.src.toNat (x:=b.low) (y:=2) (by omega) (by omega)
    have w4:=w3.addAt (by omega) q.dst.toNat (x:=-b.low) (y:=2) (by omega) (by omega)
    exact w4.more (by push_cast; omega)
  ·exact ⟨ih1,ih2.more (by push_cast; omega)⟩
theorem alikeF_all (c d:List Int):z02 (z6c c d)=0/\(z6c c d).sup.length=nOf d/\(z6c c d).arcs.length <= 18/\(∀ a ∈ (z6c c d).arcs,a.Nice (z6c c d).sup.length)/\Within 400 (z6c c d).sup:=by
 have hp:=z9l d
 have hq:=zku d
 have hs:=z7k c d
 have ha:=z65 c d
 have hn:=z5a c d
 have hw:=z4i c d
 have hz:=zdg c d
 have hl:=z52 (z09 c d) d (z09 c d).arcs.length
 have h1:=z70 (d:=d) hn _ (Nat.le_refl _)
 obtain ⟨h2,h3⟩:=zbq (d:=d) (I:=z09 c d) (by rw [hs]; exact hn) hw (by omega) _ (Nat.le_refl _)
 unfold z6c
 generalize z0j (z09 c d) d (z09 c d).arcs.length=J at *
 have h4:Within 400 J.sup:=h3.more (by omega)
 have h5:∀ a ∈ J.arcs,a.Nice J.sup.length:=fun a h=>(h1 a h).more (by omega)
 exact ⟨zi8 (by omega) (by omega) (fun a h=>(h5 a h).right) (fun x hx=>(h4.more (b':=4398046511104) (by omega)) x hx) (by omega),by omega,by omega,h5,h4⟩
end Go.Ql
end
