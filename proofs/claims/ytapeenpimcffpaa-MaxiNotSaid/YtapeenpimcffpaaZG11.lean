/- Part of the proof: Wrap3, WrapC. -/
import Derived.Test.YtapeenpimcffpaaZG1
import Derived.ProofKit
import Derived.OpenShut
import Derived.ChangeSame
import Derived.Deep.Slices
import Derived.Deep.Grids
import Derived.Test.YtapeenpimcffpaaZG10
import Derived.Test.YtapeenpimcffpaaRows
set_option linter.all false
set_option linter.unusedSimpArgs false
set_option linter.unusedVariables false
set_option maxRecDepth 100000
section
section
namespace Go.Ql
open Go Go.RowKit Go.ChangeShapes Go.WideShapes Go.ChangeAt Go.Deep
section
variable {H:Type} {enc:TypeId × Value->H} {P:Program}
theorem z97 {w:World} {a:Addr} {v:Value} (h:w.cell? a = some v):a = ⟨a.block,a.off,none⟩/\a.block < w.heap.size:=by
 refine ⟨?_,World.block_lt_of_cell? w a h⟩
 obtain ⟨b,o,s⟩:=a
 cases s with
 | none=>rfl
 | some s =>
  exfalso
  unfold World.cell? at h
  split at h <;> simp at h
theorem zcd (b o i:Nat):(⟨b,o,none⟩:Addr).add i = ⟨b,o + i,none⟩:=by
 unfold Addr.add
 split
 ·rename_i h; simp_all
 ·rfl
theorem dec_ints {W:World} {base:Nat} {r:Reach} {b0:Nat} {t e:TypeId} {k:IntKind} {v:Value} {d:DataW H} {p:List MemPlace} (ht:P.underlying t = some (.slice e)) (he:P.underlying e = some (.int k)) (hc:P.cellsOf e = 1)
  (hv:Value.okWide P W r b0 t v) (h:DataW.Trod enc P W base (fun _=>true) true t v d p) :
  ∃ A c xs,v = .slice A xs.length c/\(RowR (Value.int k) W W.heap.size A xs/\xs.length <= c)/\xs.length <= maxLen/\∀ x ∈ xs,(Lit.int k x).wf = true:=by
 obtain ⟨a0,len,cap,rfl⟩:=okWide_slice ht hv
 obtain ⟨fuel,hf⟩:=h
 rcases open_ints ht he hc hf with ⟨hcs,_⟩ | ⟨a,len',cap',zs,hcs,_,hl,hm,hz,_,hcell,hwz⟩
 ·simp [Value.cells] at hcs
  obtain ⟨rfl,rfl,rfl⟩:=hcs
  exact ⟨none,0,[],rfl,⟨RowR.nil,by simp⟩,by simp,by simp⟩
 ·simp [Value.cells] at hcs
  obtain ⟨rfl,rfl,rfl⟩:=hcs
  simp only [if_true] at hz
  have hlen:(zs.take len).length = len:=by simp; omega
  refine ⟨some a,cap,zs.take len,by rw [hlen],⟨fun h0=>?_,by omega⟩,by omega,fun x hx=>hwz x (List.mem_of_mem_take hx)⟩
  have h1:=hcell 0 (by omega)
  have hz0:a.add 0 = a:=by unfold Addr.add; simp
  rw [hz0] at h1
  obtain ⟨e1,e2⟩:=z97 h1
  refine ⟨a.block,a.off,by rw [<- e1],e2,fun i x hx=>?_⟩
  rw [List.getElem?_take] at hx
  split at hx
  ·have h2:=hcell i (by omega)
   rw [e1,zcd] at h2
   rw [h2]
   simp [List.getD,hx]
  ·cases hx
theorem z8m {W W':World} (hl:laidOutB P = true) (hb:Below W.heap.size W W'):∀ (ts:List TypeId) (vs:List Value) (ds:List (DataW H)) (ps:List MemPlace),(ts.all fun t=>P.readableRec t && decide (t < P.types.size)) = true ->
  (∀ x ∈ ps,x.block < W.heap.size)->DataW.TrodAll enc P W 0 (fun _=>true) true ts vs ds ps->∀ sp:Nat->Bool,(∀ x ∈ ps,sp x.block = true)->DataW.TrodAll enc P W' 0 sp true ts vs ds ps
 | [],vs,ds,ps,_,_,h,_,_=>by
  cases vs <;> cases ds <;> simp [DataW.TrodAll] at h ⊢
  exact h
 | t :: ts,vs,ds,ps,hr,hlt,h,sp,hsp=>by
  obtain ⟨v,vs',d,ds',p,q,rfl,rfl,rfl,h1,h2⟩:=trodAll_cons h
  simp only [List.all_cons,Bool.and_eq_true,decide_eq_true_eq] at hr
  refine ⟨p,q,?_,z8m hl hb ts vs' ds' q (by simpa using hr.2) (fun x hx=>hlt x (by simp [hx])) h2 sp (fun x hx=>hsp x (by simp [hx])),rfl⟩
  exact WideElems.Trod_stays hl hr.1.1 hr.1.2 h1 (fun x hx=>hb.same (hlt x (by simp [hx]))) (fun x hx=>hsp x (by simp [hx]))
theorem law_post {f:Func} {s:ChangeSpec} {W W':World} {args:Array Value} {ds gs:List (DataW H)} {before:List MemPlace} {tb:TypeId} (hl:laidOutB P = true)
  (hW:DataW.Whole enc P f.params.toList s.vars false W args.toList ds gs before) (hvars:s.vars = []) (hres:f.resultTypes = #[tb]) (htb:P.underlying tb = some .bool)
  (hr:(f.params.toList.all fun t=>P.readableRec t && decide (t < P.types.size)) = true)
  (hfn:s.fn H ds = { results:=[.lit (.bool true)],args:=ds }) (hb:Below W.heap.size W W') :
  s.post enc P f false true false false W args (.bool true) W':=by
 have hW':=hW
 have hlt:∀ p ∈ before,p.block < W.heap.size:=fun p hp=>hW.lt p hp
 obtain ⟨pa,pv,hA,hV,hps,hz,hn⟩:=hW
 rw [hvars] at hV
 obtain ⟨rfl,rfl⟩:=trodVars_none hV
 rw [List.append_nil] at hps
 subst hps
 have hargs:∀ sp:Nat->Bool,(∀ p ∈ before,sp p.block = true)->DataW.TrodAll enc P W' 0 sp true f.params.toList args.toList ds before:=fun sp hsp =>
  z8m hl hb _ _ _ _ hr hlt hA sp hsp
 have hres':∀ (b:Nat) (sp:Nat->Bool) (hd:Bool),DataW.TrodAll enc P W' b sp hd f.resultTypes.toList ((Value.bool true).resultList f.resultTypes.size) [.lit (.bool true)] []:=fun b sp hd=>by
  rw [hres]
  exact trodAll_cons_mk (shut_bool htb _) trodAll_mk0
 have hf2:s.fn H (ds ++ []) = { results:=[.lit (.bool true)],args:=ds }:=by rw [List.append_nil]; exact hfn
 have hvr:∀ sp:Nat->Bool,DataW.TrodVars enc P W' sp s.vars (s.fn H (ds ++ [])).vars []:=fun sp=>by rw [hvars,hf2]; rfl
 have hold:∀ p ∈ before,(fun b=>decide (b < W.heap.size)) p.block = true:=fun p hp=>by simpa using hlt p hp
 refine ⟨ds,[],before,[],before,[],hW',by rw [hf2]; exact hres' _ _ _,by rw [hf2]; exact hargs _ hold,hvr _,World.keptBut_mono (fun p hp=>⟨hp,?_⟩) (hb.frame (· ∈ before)),fun h=>by cases h⟩
 exact .inr (by simpa using hp)
end
end Go.Ql
end
section
namespace Go.Ql
open Go Go.RowKit
theorem wf1_u8 {n:Int} (h:(Lit.int .u8 n).wf = true):0 <= n/\n <= 255:=by simpa [Lit.wf,IntKind.min,IntKind.max,IntKind.signed,IntKind.bits] using h
theorem wf1_i64 {n:Int} (h:(Lit.int .i64 n).wf = true):-9223372036854775808 <= n/\n <= 9223372036854775807:=by simpa [Lit.wf,IntKind.min,IntKind.max,IntKind.signed,IntKind.bits] using h
def I64s (c:List Int):Prop:=∀ x ∈ c,-9223372036854775808 <= x/\x <= 9223372036854775807
theorem wf_u8 {c:List Int} (h:∀ x ∈ c,(Lit.int .u8 x).wf = true):Bytes c:=fun x hx=>wf1_u8 (h x hx)
theorem wf_i64 {c:List Int} (h:∀ x ∈ c,(Lit.int .i64 x).wf = true):I64s c:=fun x hx=>wf1_i64 (h x hx)
end Go.Ql
namespace Go.Proofs.Ytapeenpimcffpaa
open Go Go.RowKit Go.Ql
theorem own_knob:ownKnob Try.prog.godebug = none:=by kernel_rfl
theorem laid_out:laidOutB Try.prog = true:=by kernel_rfl
end Go.Proofs.Ytapeenpimcffpaa
end
section
namespace Go.Ql
open Go Go.RowKit Go.ChangeShapes Go.WideShapes Go.ChangeAt Go.Deep
section
variable {H:Type} {enc:TypeId × Value->H} {P:Program}
theorem z3z {W:World} {base:Nat} {t e:TypeId} {fuel n c:Nat} {A:Option Addr} {x:DataW H × List MemPlace} {sp:Nat->Bool} {hd:Bool} (ht:P.underlying t = some (.slice e)) (hb:1 <= P.bytesOf e)
  (h:DataW.trod enc P W base sp hd fuel t [.slice A n c] = some x) (hz:(x.1.weights P t).all (· <= reachBytes) = true):n <= 140737488351232:=by
 rcases DataW.trod_slice ht h with ⟨hcs,_⟩ | ⟨a,len,cap,elems,rest,m,_,hcs,rfl,_,_,_,hlen,_⟩
 ·simp at hcs; omega
 ·simp only [List.cons.injEq,Value.slice.injEq,and_true] at hcs
  obtain ⟨_,rfl,_⟩:=hcs
  simp only [DataW.weights,ht,List.all_cons,Bool.and_eq_true,decide_eq_true_eq,List.length_map,hlen] at hz
  have h1:=hz.1
  have h2:n <= n + rest.length:=Nat.le_add_right _ _
  have h3:(n + rest.length) * 1 <= (n + rest.length) * P.bytesOf e:=Nat.mul_le_mul_left _ hb
  unfold reachBytes at h1
  omega
theorem zen {W:World} {base:Nat} {t e:TypeId} {n c:Nat} {A:Option Addr} {d:DataW H} {p:List MemPlace} {sp:Nat->Bool} {hd:Bool} (ht:P.underlying t = some (.slice e)) (hb:1 <= P.bytesOf e)
  (h:DataW.Trod enc P W base sp hd t (.slice A n c) d p) (hz:(d.weights P t).all (· <= reachBytes) = true):n <= 140737488351232:=by
 obtain ⟨fuel,hf⟩:=h
 exact z3z ht hb hf hz
theorem z4a {t:TypeId} {ts vt:List TypeId} {d:DataW H} {ds gs:List (DataW H)} (h:(DataW.weightsEach P ((t :: ts) ++ vt) ((d :: ds) ++ gs)).all (· <= reachBytes) = true) :
  (d.weights P t).all (· <= reachBytes) = true/\(DataW.weightsEach P (ts ++ vt) (ds ++ gs)).all (· <= reachBytes) = true:=by
 simpa only [List.cons_append,DataW.weightsEach,List.all_append,Bool.and_eq_true] using h
theorem okWide_struct {W:World} {r:Reach} {b0:Nat} {t:TypeId} {fs:Array Field} {v:Value} (ht:P.underlying t = some (.struct fs)) (h:Value.okWide P W r b0 t v):∃ xs:Array Value,v = .agg xs:=by
 simp only [Value.okWide,ht] at h
 obtain ⟨cs,h1,_⟩:=h
 exact ⟨cs,h1⟩
theorem z4w {W:World} {base:Nat} {t e:TypeId} {k:IntKind} {fuel:Nat} {cs:List Value} {x:DataW H × List MemPlace} (ht:P.underlying t = some (.slice e)) (he:P.underlying e = some (.int k)) (hc:P.cellsOf e = 1)
  (h:DataW.trod enc P W base (fun _=>true) true fuel t cs = some x) :
  ∃ A c xs,cs = [.slice A xs.length c]/\(RowR (Value.int k) W W.heap.size A xs/\xs.length <= c)/\xs.length <= maxLen/\∀ x ∈ xs,(Lit.int k x).wf = true:=by
 rcases open_ints ht he hc h with ⟨hcs,_⟩ | ⟨a,len',cap',zs,hcs,_,hl,hm,hz,_,hcell,hwz⟩
 ·exact ⟨none,0,[],by simpa using hcs,⟨RowR.nil,by simp⟩,by simp,by simp⟩
 ·simp only [if_true] at hz
  have hlen:(zs.take len').length = len':=by simp; omega
  refine ⟨some a,cap',zs.take len',by rw [hlen]; exact hcs,⟨fun h0=>?_,by omega⟩,by omega,fun x hx=>hwz x (List.mem_of_mem_take hx)⟩
  have h1:=hcell 0 (by omega)
  have hz0:a.add 0 = a:=by unfold Addr.add; simp
  rw [hz0] at h1
  obtain ⟨e1,e2⟩:=z97 h1
  refine ⟨a.block,a.off,by rw [<- e1],e2,fun i x hx=>?_⟩
  rw [List.getElem?_take] at hx
  split at hx
  ·have h2:=hcell i (by omega)
   rw [e1,zcd] at h2
   rw [h2]
   simp [List.getD,hx]
  ·cases hx
end
end Go.Ql
namespace Go.Proofs.Ytapeenpimcffpaa
open Go Go.RowKit Go.Ql
end Go.Proofs.Ytapeenpimcffpaa
end
end
section
namespace Go.Ql
open Go Go.RowKit Go.ChangeShapes Go.WideShapes Go.ChangeAt Go.Deep
section
variable {H:Type} {P:Program} {enc:TypeId × Value->H}
theorem trod_struct5 {w:World} {base:Nat} {spare:Nat->Bool} {held:Bool} {t:TypeId} {f0 f1 f2 f3 f4:Field} {fuel:Nat} {cs:List Value} {x:DataW H × List MemPlace} (ht:P.underlying t = some (.struct #[f0,f1,f2,f3,f4])) (h:DataW.trod enc P w base spare held fuel t cs = some x) :
  ∃ y0 y1 y2 y3 y4 n,x = (.agg [y0.1,y1.1,y2.1,y3.1,y4.1],y0.2 ++ (y1.2 ++ (y2.2 ++ (y3.2 ++ y4.2))))/\cs.length = P.cellsOf t/\DataW.trod enc P w base spare held n f0.type ((cs.drop f0.offset).take (P.cellsOf f0.type)) = some y0 /\
   DataW.trod enc P w base spare held n f1.type ((cs.drop f1.offset).take (P.cellsOf f1.type)) = some y1/\DataW.trod enc P w base spare held n f2.type ((cs.drop f2.offset).take (P.cellsOf f2.type)) = some y2 /\
   DataW.trod enc P w base spare held n f3.type ((cs.drop f3.offset).take (P.cellsOf f3.type)) = some y3/\DataW.trod enc P w base spare held n f4.type ((cs.drop f4.offset).take (P.cellsOf f4.type)) = some y4:=by
 obtain ⟨xs,n,_,rfl,hl,hlen,hf⟩:=DataW.trod_struct ht h
 match xs,hlen with
 | [y0,y1,y2,y3,y4],_=>exact ⟨y0,y1,y2,y3,y4,n,by simp,hl,by simpa using hf 0 f0 rfl,by simpa using hf 1 f1 rfl,by simpa using hf 2 f2 rfl,by simpa using hf 3 f3 rfl,by simpa using hf 4 f4 rfl⟩
theorem dec_bools_cell {W:World} {base:Nat} {t e:TypeId} {fuel:Nat} {cs:List Value} {x:DataW H × List MemPlace} (ht:P.underlying t = some (.slice e)) (he:P.underlying e = some .bool) (hc:P.cellsOf e = 1)
  (h:DataW.trod enc P W base (fun _=>true) true fuel t cs = some x) :
  ∃ A c xs,cs = [.slice A xs.length c]/\(RowR Value.bool W W.heap.size A xs/\xs.length <= c)/\xs.length <= maxLen:=by
 rcases open_bools ht he hc h with ⟨hcs,_⟩ | ⟨a,len,cap',B,hcs,_,hl,hm,_,hcell⟩
 ·exact ⟨none,0,[],by simpa using hcs,⟨RowR.nil,by simp⟩,by simp⟩
 ·have hlen:((List.range len).map B).length = len:=by simp
  refine ⟨some a,cap',(List.range len).map B,by rw [hlen]; exact hcs,⟨fun h0=>?_,by omega⟩,by omega⟩
  have h1:=hcell 0 (by omega)
  have hz0:a.add 0 = a:=by unfold Addr.add; simp
  rw [hz0] at h1
  obtain ⟨e1,e2⟩:=z97 h1
  refine ⟨a.block,a.off,by rw [<- e1],e2,fun i x hx=>?_⟩
  rw [List.getElem?_map] at hx
  by_cases hi:i < len
  ·have h2:=hcell i (by omega)
   rw [e1,zcd] at h2
   rw [h2]
   rw [List.getElem?_range hi] at hx
   simp at hx
   rw [hx]
  ·rw [List.getElem?_eq_none (by simpa using hi)] at hx; cases hx
theorem dec_cert0 {W:World} {base:Nat} {r:Reach} {b0:Nat} {t:TypeId} {g0 g1 g2 g3 g4:Field} {v:Value} {d:DataW H} {p:List MemPlace} (ht:P.underlying t = some (.struct #[g0,g1,g2,g3,g4]))
  (hk:P.underlying g0.type = some (.int .i64)) {e1 e2 e3 e4:TypeId} (h1:P.underlying g1.type = some (.slice e1)) (h2:P.underlying g2.type = some (.slice e2)) (h3:P.underlying g3.type = some (.slice e3)) (h4:P.underlying g4.type = some (.slice e4))
  (i1:P.underlying e1 = some (.int .i64)) (i2:P.underlying e2 = some (.int .i64)) (i3:P.underlying e3 = some .bool) (i4:P.underlying e4 = some (.int .i64))
  (b1:1 <= P.bytesOf e1) (b2:1 <= P.bytesOf e2) (b3:1 <= P.bytesOf e3) (b4:1 <= P.bytesOf e4)
  (hg:[P.cellsOf g0.type,P.cellsOf g1.type,P.cellsOf g2.type,P.cellsOf g3.type,P.cellsOf g4.type,g0.offset,g1.offset,g2.offset,g3.offset,g4.offset,P.cellsOf t,P.cellsOf e1,P.cellsOf e2,P.cellsOf e3,P.cellsOf e4] = [1,1,1,1,1,0,1,2,3,4,5,1,1,1,1])
  (hv:Value.okWide P W r b0 t v) (h:DataW.Trod enc P W base (fun _=>true) true t v d p) :
  ∃ A1 c1 A2 c2 A3 c3 A4 c4,∃ (k:Int) (x1 x2:List Int) (x3:List Bool) (x4:List Int),v = .agg #[.int .i64 k,.slice A1 x1.length c1,.slice A2 x2.length c2,.slice A3 x3.length c3,.slice A4 x4.length c4] /\
   (RowR (Value.int .i64) W W.heap.size A1 x1/\x1.length <= c1)/\(RowR (Value.int .i64) W W.heap.size A2 x2/\x2.length <= c2)/\(RowR Value.bool W W.heap.size A3 x3/\x3.length <= c3)/\(RowR (Value.int .i64) W W.heap.size A4 x4/\x4.length <= c4) /\
   (I64s x1/\I64s x2/\I64s x4/\-9223372036854775808 <= k/\k <= 9223372036854775807)/\((d.weights P t).all (· <= reachBytes) = true->x1.length <= 140737488351232/\x2.length <= 140737488351232/\x3.length <= 140737488351232/\x4.length <= 140737488351232):=by
 simp only [List.cons.injEq,and_true] at hg
 obtain ⟨k0,k1,k2,k3,k4,o0,o1,o2,o3,o4,kt,l1,l2,l3,l4⟩:=hg
 obtain ⟨xs,rfl⟩:=okWide_struct ht hv
 obtain ⟨fuel,hf⟩:=h
 obtain ⟨y0,y1,y2,y3,y4,n,hy,hl,q0,q1,q2,q3,q4⟩:=trod_struct5 ht hf
 simp only [Value.cells] at hl q0 q1 q2 q3 q4
 rw [kt] at hl
 obtain ⟨l⟩:=xs
 match l,hl with
 | [u0,u1,u2,u3,u4],_ =>
  simp [o0,o1,o2,o3,o4,k0,k1,k2,k3,k4] at q0 q1 q2 q3 q4
  obtain ⟨A1,c1,s1,e1',R1,m1,w1⟩:=z4w h1 i1 l1 q1
  obtain ⟨A2,c2,s2,e2',R2,m2,w2⟩:=z4w h2 i2 l2 q2
  obtain ⟨A3,c3,s3,e3',R3,m3⟩:=dec_bools_cell h3 i3 l3 q3
  obtain ⟨A4,c4,s4,e4',R4,m4,w4⟩:=z4w h4 i4 l4 q4
  obtain ⟨k,e0',_,w0⟩:=DataW.trod_int hk q0
  simp only [List.cons.injEq,and_true] at e0' e1' e2' e3' e4'
  subst e0' e1' e2' e3' e4'
  refine ⟨A1,c1,A2,c2,A3,c3,A4,c4,k,s1,s2,s3,s4,rfl,R1,R2,R3,R4,⟨wf_i64 w1,wf_i64 w2,wf_i64 w4,wf1_i64 w0⟩,fun hz=>?_⟩
  simp only [Prod.mk.injEq] at hy
  obtain ⟨rfl,_⟩:=hy
  simp only [DataW.weights,ht,List.map_cons,List.map_nil,DataW.weightsEach,List.all_append,Bool.and_eq_true] at hz
  exact ⟨z3z h1 b1 q1 hz.2.1,z3z h2 b2 q2 hz.2.2.1,z3z h3 b3 q3 hz.2.2.2.1,z3z h4 b4 q4 hz.2.2.2.2.1⟩
end
end Go.Ql
namespace Go.Proofs.Ytapeenpimcffpaa
open Go Go.RowKit Go.Ql
theorem dec_cert {H:Type} {enc:TypeId × Value->H} {W:World} {base:Nat} {r:Reach} {b0:Nat} {v:Value} {d:DataW H} {p:List MemPlace} (hv:Value.okWide Try.prog W r b0 27 v)
  (h:DataW.Trod enc Try.prog W base (fun _=>true) true 27 v d p) :
  ∃ A1 c1 A2 c2 A3 c3 A4 c4,∃ (k:Int) (x1 x2:List Int) (x3:List Bool) (x4:List Int),v = .agg #[.int .i64 k,.slice A1 x1.length c1,.slice A2 x2.length c2,.slice A3 x3.length c3,.slice A4 x4.length c4] /\
   (RowR (Value.int .i64) W W.heap.size A1 x1/\x1.length <= c1)/\(RowR (Value.int .i64) W W.heap.size A2 x2/\x2.length <= c2)/\(RowR Value.bool W W.heap.size A3 x3/\x3.length <= c3)/\(RowR (Value.int .i64) W W.heap.size A4 x4/\x4.length <= c4) /\
   (I64s x1/\I64s x2/\I64s x4/\-9223372036854775808 <= k/\k <= 9223372036854775807)/\((d.weights Try.prog 27).all (· <= reachBytes) = true->x1.length <= 140737488351232/\x2.length <= 140737488351232/\x3.length <= 140737488351232/\x4.length <= 140737488351232) :=
 dec_cert0 Try.underlying27 Try.underlying3 Try.underlying23 Try.underlying23 Try.underlying24 Try.underlying25 Try.underlying2 Try.underlying2 Try.underlying4 Try.underlying3
  (of_decide_eq_true (by kernel_rfl)) (of_decide_eq_true (by kernel_rfl)) (of_decide_eq_true (by kernel_rfl)) (of_decide_eq_true (by kernel_rfl)) (by kernel_rfl) hv h
end Go.Proofs.Ytapeenpimcffpaa
end
