/- Part of the proof: Maxi5, Base, Wrap3. -/
import Derived.Test.YtapeenpimcffpaaGreatZG16
import Derived.Test.YtapeenpimcffpaaGreatZG1
import Derived.Test.YtapeenpimcffpaaGreatProg
import Derived.ProofKit
import Derived.OpenShut
import Derived.ChangeSame
import Derived.Deep.Slices
import Derived.Deep.Grids
import Derived.Test.YtapeenpimcffpaaGreatRows
set_option linter.all false
set_option linter.unusedSimpArgs false
set_option linter.unusedVariables false
set_option maxRecDepth 100000
section
namespace Go.Ql
open Go Go.Vc
def zh7 (n:Nat) (l:List Arc) (x:List Int) (k:Nat):List Int:=(List.range n).map (fun v=>z52 n l x k (v:Nat))
theorem netR_len (n:Nat) (l:List Arc) (x:List Int) (k:Nat):(zh7 n l x k).length=n:=by simp [zh7]
theorem netR_zero (n:Nat) (l:List Arc) (x:List Int):zh7 n l x 0=List.replicate n 0:=by
 unfold zh7
 apply List.ext_getElem?
 intro j
 by_cases h:j<n <;> simp [h,z52]
theorem zdm {n:Nat} {f:Nat->Int} {j:Nat} {y:Int} (h:((List.range n).map f)[j]? = some y):j<n/\y=f j:=by
 have hj:=(List.getElem?_eq_some_iff.1 h).1
 rw [List.length_map,List.length_range] at hj
 rw [List.getElem?_map,List.getElem?_range hj] at h
 exact ⟨hj,(Option.some.inj h).symm⟩
theorem netR_get {n:Nat} {l:List Arc} {x:List Int} {k j:Nat} {y:Int} (h:(zh7 n l x k)[j]? = some y):y=z52 n l x k (j:Nat):=(zdm h).2
theorem netR_step {n:Nat} {l:List Arc} {x:List Int} {k:Nat} {a:Arc} {f y y':Int} (ha:l[k]? = some a) (hf:x[k]? = some f) (hi:a.In n) (hy:(zh7 n l x k)[a.src.toNat]? = some y) (hy':((zh7 n l x k).set a.src.toNat (y+f))[a.dst.toNat]? = some y') :
  ((zh7 n l x k).set a.src.toNat (y+f)).set a.dst.toNat (y' - f)=zh7 n l x (k+1)/\y'=z52 n l x k a.dst+if a.src=a.dst then f else 0:=by
 obtain ⟨i1,i2,i3,i4⟩:=hi
 have ed:((a.dst.toNat:Nat):Int)=a.dst:=Int.toNat_of_nonneg i3
 have es:((a.src.toNat:Nat):Int)=a.src:=Int.toNat_of_nonneg i1
 have ey:=(zdm hy).2
 have hset:=@z1c
 unfold zh7 at hy' ⊢
 rw [z1c] at hy' ⊢
 have e':=(zdm hy').2
 have eq:(a.dst.toNat=a.src.toNat)=(a.src=a.dst):=propext (by omega)
 have ef:y'=z52 n l x k a.dst+if a.src=a.dst then f else 0:=by
  rw [e']
  simp only [eq]
  by_cases h:a.src=a.dst
  ·rw [if_pos h,if_pos h,ey,es,h]
  ·rw [if_neg h,if_neg h,ed,Int.add_zero]
 refine ⟨?_,ef⟩
 rw [z1c]
 refine List.map_congr_left fun v hv=>?_
 have ok:z2z n a=true:=by unfold z2z; simp; omega
 have ea:l.getD k default=a:=by rw [List.getD_eq_getElem?_getD,ha]; rfl
 have ex:x.getD k 0=f:=by rw [List.getD_eq_getElem?_getD,hf]; rfl
 simp only [z52]
 rw [ea,ex]
 unfold z4t
 rw [if_pos ok]
 have c1:(v=a.dst.toNat)=(a.dst=(v:Int)):=propext (by omega)
 have c2:(v=a.src.toNat)=(a.src=(v:Int)):=propext (by omega)
 simp only [c1,c2]
 by_cases h1:a.dst=(v:Int)
 ·rw [if_pos h1,if_pos h1,ef,h1]
  by_cases h2:a.src=(v:Int)
  ·rw [if_pos h2]; omega
  ·rw [if_neg h2]; omega
 ·rw [if_neg h1,if_neg h1]
  by_cases h2:a.src=(v:Int)
  ·rw [if_pos h2,if_pos h2,ey,es,h2]; omega
  ·rw [if_neg h2,if_neg h2]; omega
theorem netK_take {n:Int} {l:List Arc} {x:List Int} {v:Int} {m:Nat}:∀ k,k <= m->z52 n l (x.take m) k v=z52 n l x k v
 | 0,_=>rfl
 | k+1,h=>by
  simp only [z52]
  rw [netK_take k (by omega),List.getD_eq_getElem?_getD (l:=x.take m),List.getElem?_take,if_pos (by omega),<- List.getD_eq_getElem?_getD]
def wantP (p:ProbD) (f:Int) (v:Nat):Int:=if (v:Int)=p.t then -f else if (v:Int)=p.s then f else 0
structure FlowQ (p:ProbD) (x:List Int) (f:Int):Prop where
 l:x.length=p.inst.arcs.length
 b:∀ (j:Nat) (a:Arc) (y:Int),p.inst.arcs[j]? = some a->x[j]? = some y->0 <= y/\(a.cap=inf ∨ y <= a.cap)/\y <= 144115188075855872
 n:∀ v:Nat,v<p.inst.sup.length->z52 p.inst.sup.length p.inst.arcs x p.inst.arcs.length v=wantP p f v
 s:∀ (k:Nat) (v:Int),k <= 18->-5188146770730811392 <= z52 p.inst.sup.length p.inst.arcs x k v/\z52 p.inst.sup.length p.inst.arcs x k v <= 5188146770730811392
theorem FlowQ.step {p:ProbD} {x:List Int} {f0:Int} (hq:FlowQ p x f0) (hP:ProbOk p) {k:Nat} {a:Arc} {f y y':Int} (ha:p.inst.arcs[k]? = some a) (hf:x[k]? = some f) (hy:(zh7 p.inst.sup.length p.inst.arcs x k)[a.src.toNat]? = some y) (hy':((zh7 p.inst.sup.length p.inst.arcs x k).set a.src.toNat (IntKind.i64.wrap (y+f)))[a.dst.toNat]? = some y') :
  ((zh7 p.inst.sup.length p.inst.arcs x k).set a.src.toNat (IntKind.i64.wrap (y+f))).set a.dst.toNat (IntKind.i64.wrap (y' - f))=zh7 p.inst.sup.length p.inst.arcs x (k+1):=by
 have hk:=(List.getElem?_eq_some_iff.1 ha).1
 have hm:=hP.m
 have b1:=hq.b k a f ha hf
 have b2:=netR_get hy
 have b3:=hq.s k (a.src.toNat:Nat) (by omega)
 have b4:=hq.s k a.dst (by omega)
 rw [<- b2] at b3
 rw [w64 (x:=y+f) (by omega) (by omega)] at hy' ⊢
 obtain ⟨e1,e2⟩:=netR_step ha hf (zdo hP.fit.r a (List.mem_of_getElem? ha)) hy hy'
 rw [w64 (x:=y' - f) (by split at e2 <;> omega) (by split at e2 <;> omega)]
 exact e1
theorem solve_flow {p:ProbD} (hP:ProbOk p) {c:Cert} {e:Int} (hS:SolveP (ofI p) c e) (hG:z1t p c=true):FlowQ p (z1q p c) (z5v p c)/\z55 (ofI p) c=W (-z5v p c):=by
 have h0:=hP.e
 have hf:=hP.fit
 have hr:=z5m h0
 obtain ⟨g0,g1,g2⟩:=goodP_iff.1 hG
 have hgl:=GoodP.len ⟨g0,g1,g2⟩
 have hfit:=z65 (GoodP.slack ⟨g0,g1,g2⟩)
 rw [zh9 h0] at hS ⊢
 obtain ⟨-,-,hY,-⟩:=hS.ok hr
 have hx:=hY.a64
 have ev:z5v p c=c.flow.getD p.inst.arcs.length 0:=by unfold z5v; rw [if_pos hG]
 have ex:z1q p c=c.flow.take p.inst.arcs.length:=by unfold z1q; rw [if_pos hG]
 obtain ⟨-,-,hb,hn⟩:=(zd5 hx).1 hfit
 have n1:=nodeP_iff.1 hf.s; have n2:=nodeP_iff.1 hf.t; have n3:=hf.d
 refine ⟨⟨?_,?_,?_,?_⟩,?_⟩
 ·rw [ex,List.length_take]; omega
 ·intro j a y ha hy
  have hj:=(List.getElem?_eq_some_iff.1 ha).1
  rw [ex,List.getElem?_take,if_pos hj] at hy
  have h1:=of_fit h0 hx hfit j a ha
  have ey:c.flow.getD j 0=y:=by rw [List.getD_eq_getElem?_getD,hy]; rfl
  rw [ey] at h1
  unfold fitF at h1
  rw [Bool.and_eq_true,Bool.or_eq_true,decide_eq_true_eq,decide_eq_true_eq,decide_eq_true_eq] at h1
  have h2:=hY y (List.mem_of_getElem? hy)
  have h3:=(hf.bare.2 a (List.mem_of_getElem? ha)).1
  exact ⟨by omega,h1.2,h2.2⟩
 ·intro v hv
  have h1:=hn v hv
  rw [z9p] at h1
  simp only [z52] at h1
  have e2:(ofP p).sup=p.inst.sup:=rfl
  have e3:(ofP p).arcs=p.inst.arcs ++ [zb4 p]:=rfl
  rw [e2,e3,net_pre _ (Nat.le_refl _),zhw,hf.supD,<- ev] at h1
  rw [ex,netK_take _ (Nat.le_refl _)]
  have ok:z2z p.inst.sup.length (zb4 p)=true:=by unfold z2z zb4; simp; omega
  unfold z4t at h1
  rw [if_pos ok] at h1
  have e4:(zb4 p).src=p.t:=rfl
  have e5:(zb4 p).dst=p.s:=rfl
  rw [e4,e5] at h1
  unfold wantP
  by_cases q1:p.t=(v:Int)
  ·rw [if_pos q1.symm]; rw [if_pos q1,if_neg (fun q=>n3 (by omega))] at h1; omega
  ·rw [if_neg (fun q=>q1 q.symm)]; rw [if_neg q1] at h1
   by_cases q2:p.s=(v:Int)
   ·rw [if_pos q2.symm]; rw [if_pos q2] at h1; omega
   ·rw [if_neg (fun q=>q2 q.symm)]; rw [if_neg q2] at h1; omega
 ·intro k v hk
  have hm:∀ y ∈ z1q p c,-144115188075855872 <= y/\y <= 144115188075855872:=fun y hy=>hY y (List.mem_of_mem_take (by rw [<- ex]; exact hy))
  have:=zg4 (n:=p.inst.sup.length) (l:=p.inst.arcs) (x:=z1q p c) (v:=v) (B:=144115188075855872) (by omega) hm k
  omega
 ·unfold z55
  rw [if_pos g1,of_cost hf,<- ev]
end Go.Ql
end
section
namespace Go.Proofs.YtapeenpimcffpaaGreat
open Go Go.RowKit Go.Ql Go.Draw
end Go.Proofs.YtapeenpimcffpaaGreat
end
section
section
namespace Go.Ql
open Go Go.RowKit Go.ChangeShapes Go.WideShapes Go.ChangeAt Go.Deep
section
variable {H:Type} {enc:TypeId × Value->H} {P:Program}
theorem addr_plain {w:World} {a:Addr} {v:Value} (h:w.cell? a=some v):a=⟨a.block,a.off,none⟩/\a.block<w.heap.size:=by
 refine ⟨?_,World.block_lt_of_cell? w a h⟩
 obtain ⟨b,o,s⟩:=a
 cases s with
 | none=>rfl
 | some s =>
  exfalso
  unfold World.cell? at h
  split at h <;> simp at h
theorem add_plain (b o i:Nat):(⟨b,o,none⟩:Addr).add i=⟨b,o+i,none⟩:=by
 unfold Addr.add
 split
 ·rename_i h; simp_all
 ·rfl
theorem dec_ints {W:World} {base:Nat} {r:Reach} {b0:Nat} {t e:TypeId} {k:IntKind} {v:Value} {d:DataW H} {p:List MemPlace} (ht:P.underlying t=some (.slice e)) (he:P.underlying e=some (.int k)) (hc:P.cellsOf e=1)
  (hv:Value.okWide P W r b0 t v) (h:DataW.Trod enc P W base (fun _=>true) true t v d p) :
  ∃ A c xs,v = .slice A xs.length c/\(RowR (Value.int k) W W.heap.size A xs/\xs.length <= c)/\xs.length <= maxLen/\∀ x ∈ xs,(Lit.int k x).wf=true:=by
 obtain ⟨a0,len,cap,rfl⟩:=okWide_slice ht hv
 obtain ⟨fuel,hf⟩:=h
 rcases open_ints ht he hc hf with ⟨hcs,_⟩ | ⟨a,len',cap',zs,hcs,_,hl,hm,hz,_,hcell,hwz⟩
 ·simp [Value.cells] at hcs
  obtain ⟨rfl,rfl,rfl⟩:=hcs
  exact ⟨none,0,[],rfl,⟨RowR.nil,by simp⟩,by simp,by simp⟩
 ·simp [Value.cells] at hcs
  obtain ⟨rfl,rfl,rfl⟩:=hcs
  simp only [if_true] at hz
  have hlen:(zs.take len).length=len:=by simp; omega
  refine ⟨some a,cap,zs.take len,by rw [hlen],⟨fun h0=>?_,by omega⟩,by omega,fun x hx=>hwz x (List.mem_of_mem_take hx)⟩
  have h1:=hcell 0 (by omega)
  have hz0:a.add 0=a:=by unfold Addr.add; simp
  rw [hz0] at h1
  obtain ⟨e1,e2⟩:=addr_plain h1
  refine ⟨a.block,a.off,by rw [<- e1],e2,fun i x hx=>?_⟩
  rw [List.getElem?_take] at hx
  split at hx
  ·have h2:=hcell i (by omega)
   rw [e1,add_plain] at h2
   rw [h2]
   simp [List.getD,hx]
  ·cases hx
theorem zek {W W':World} (hl:laidOutB P=true) (hb:Below W.heap.size W W'):∀ (ts:List TypeId) (vs:List Value) (ds:List (DataW H)) (ps:List MemPlace),(ts.all fun t=>P.readableRec t && decide (t<P.types.size))=true ->
  (∀ x ∈ ps,x.block<W.heap.size)->DataW.TrodAll enc P W 0 (fun _=>true) true ts vs ds ps->∀ sp:Nat->Bool,(∀ x ∈ ps,sp x.block=true)->DataW.TrodAll enc P W' 0 sp true ts vs ds ps
 | [],vs,ds,ps,_,_,h,_,_=>by
  cases vs <;> cases ds <;> simp [DataW.TrodAll] at h ⊢
  exact h
 | t :: ts,vs,ds,ps,hr,hlt,h,sp,hsp=>by
  obtain ⟨v,vs',d,ds',p,q,rfl,rfl,rfl,h1,h2⟩:=trodAll_cons h
  simp only [List.all_cons,Bool.and_eq_true,decide_eq_true_eq] at hr
  refine ⟨p,q,?_,zek hl hb ts vs' ds' q (by simpa using hr.2) (fun x hx=>hlt x (by simp [hx])) h2 sp (fun x hx=>hsp x (by simp [hx])),rfl⟩
  exact WideElems.Trod_stays hl hr.1.1 hr.1.2 h1 (fun x hx=>hb.same (hlt x (by simp [hx]))) (fun x hx=>hsp x (by simp [hx]))
theorem law_post {f:Func} {s:ChangeSpec} {W W':World} {args:Array Value} {ds gs:List (DataW H)} {before:List MemPlace} {tb:TypeId} (hl:laidOutB P=true)
  (hW:DataW.Whole enc P f.params.toList s.vars false W args.toList ds gs before) (hvars:s.vars=[]) (hres:f.resultTypes = #[tb]) (htb:P.underlying tb=some .bool)
  (hr:(f.params.toList.all fun t=>P.readableRec t && decide (t<P.types.size))=true)
  (hfn:s.fn H ds = { results:=[.lit (.bool true)],args:=ds }) (hb:Below W.heap.size W W') :
  s.post enc P f false true false false W args (.bool true) W':=by
 have hW':=hW
 have hlt:∀ p ∈ before,p.block<W.heap.size:=fun p hp=>hW.lt p hp
 obtain ⟨pa,pv,hA,hV,hps,hz,hn⟩:=hW
 rw [hvars] at hV
 obtain ⟨rfl,rfl⟩:=trodVars_none hV
 rw [List.append_nil] at hps
 subst hps
 have hargs:∀ sp:Nat->Bool,(∀ p ∈ before,sp p.block=true)->DataW.TrodAll enc P W' 0 sp true f.params.toList args.toList ds before:=fun sp hsp =>
  zek hl hb _ _ _ _ hr hlt hA sp hsp
 have hres':∀ (b:Nat) (sp:Nat->Bool) (hd:Bool),DataW.TrodAll enc P W' b sp hd f.resultTypes.toList ((Value.bool true).resultList f.resultTypes.size) [.lit (.bool true)] []:=fun b sp hd=>by
  rw [hres]
  exact trodAll_cons_mk (shut_bool htb _) trodAll_mk0
 have hf2:s.fn H (ds ++ []) = { results:=[.lit (.bool true)],args:=ds }:=by rw [List.append_nil]; exact hfn
 have hvr:∀ sp:Nat->Bool,DataW.TrodVars enc P W' sp s.vars (s.fn H (ds ++ [])).vars []:=fun sp=>by rw [hvars,hf2]; rfl
 have hold:∀ p ∈ before,(fun b=>decide (b<W.heap.size)) p.block=true:=fun p hp=>by simpa using hlt p hp
 refine ⟨ds,[],before,[],before,[],hW',by rw [hf2]; exact hres' _ _ _,by rw [hf2]; exact hargs _ hold,hvr _,World.keptBut_mono (fun p hp=>⟨hp,?_⟩) (hb.frame (· ∈ before)),fun h=>by cases h⟩
 exact .inr (by simpa using hp)
end
end Go.Ql
end
section
namespace Go.Ql
open Go Go.RowKit
theorem wf1_u8 {n:Int} (h:(Lit.int .u8 n).wf=true):0 <= n/\n <= 255:=by simpa [Lit.wf,IntKind.min,IntKind.max,IntKind.signed,IntKind.bits] using h
theorem wf_u8 {c:List Int} (h:∀ x ∈ c,(Lit.int .u8 x).wf=true):Bytes c:=fun x hx=>wf1_u8 (h x hx)
end Go.Ql
namespace Go.Proofs.YtapeenpimcffpaaGreat
open Go Go.RowKit Go.Ql
theorem own_knob:ownKnob Tryz.prog.godebug=none:=by kernel_rfl
theorem laid_out:laidOutB Tryz.prog=true:=by kernel_rfl
end Go.Proofs.YtapeenpimcffpaaGreat
end
section
namespace Go.Ql
open Go Go.RowKit Go.ChangeShapes Go.WideShapes Go.ChangeAt Go.Deep
section
variable {H:Type} {enc:TypeId × Value->H} {P:Program}
theorem slice_small {W:World} {base:Nat} {t e:TypeId} {fuel n c:Nat} {A:Option Addr} {x:DataW H × List MemPlace} {sp:Nat->Bool} {hd:Bool} (ht:P.underlying t=some (.slice e)) (hb:1 <= P.bytesOf e)
  (h:DataW.trod enc P W base sp hd fuel t [.slice A n c]=some x) (hz:(x.1.weights P t).all (· <= reachBytes)=true):n <= 140737488351232:=by
 rcases DataW.trod_slice ht h with ⟨hcs,_⟩ | ⟨a,len,cap,elems,rest,m,_,hcs,rfl,_,_,_,hlen,_⟩
 ·simp at hcs; omega
 ·simp only [List.cons.injEq,Value.slice.injEq,and_true] at hcs
  obtain ⟨_,rfl,_⟩:=hcs
  simp only [DataW.weights,ht,List.all_cons,Bool.and_eq_true,decide_eq_true_eq,List.length_map,hlen] at hz
  have h1:=hz.1
  have h2:n <= n+rest.length:=Nat.le_add_right _ _
  have h3:(n+rest.length) * 1 <= (n+rest.length) * P.bytesOf e:=Nat.mul_le_mul_left _ hb
  unfold reachBytes at h1
  omega
theorem znj {W:World} {base:Nat} {t e:TypeId} {n c:Nat} {A:Option Addr} {d:DataW H} {p:List MemPlace} {sp:Nat->Bool} {hd:Bool} (ht:P.underlying t=some (.slice e)) (hb:1 <= P.bytesOf e)
  (h:DataW.Trod enc P W base sp hd t (.slice A n c) d p) (hz:(d.weights P t).all (· <= reachBytes)=true):n <= 140737488351232:=by
 obtain ⟨fuel,hf⟩:=h
 exact slice_small ht hb hf hz
theorem zhi {t:TypeId} {ts vt:List TypeId} {d:DataW H} {ds gs:List (DataW H)} (h:(DataW.weightsEach P ((t :: ts) ++ vt) ((d :: ds) ++ gs)).all (· <= reachBytes)=true) :
  (d.weights P t).all (· <= reachBytes)=true/\(DataW.weightsEach P (ts ++ vt) (ds ++ gs)).all (· <= reachBytes)=true:=by
 simpa only [List.cons_append,DataW.weightsEach,List.all_append,Bool.and_eq_true] using h
end
end Go.Ql
namespace Go.Proofs.YtapeenpimcffpaaGreat
open Go Go.RowKit Go.Ql
end Go.Proofs.YtapeenpimcffpaaGreat
end
end
