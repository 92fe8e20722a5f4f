/- Part of the proof: Maxi4, Base, Wrap3. -/
import Derived.Test.YtapeenpimcffpaaGreatZG15
import Derived.Test.YtapeenpimcffpaaGreatZG1
import Derived.Test.YtapeenpimcffpaaGreatProg
import Derived.ProofKit
import Derived.OpenShut
import Derived.ChangeSame
import Derived.Deep.Slices
import Derived.Deep.Grids
import Derived.Test.YtapeenpimcffpaaGreatRows
set_option linter.all false
set_option linter.unusedSimpArgs false
set_option linter.unusedVariables false
set_option maxRecDepth 100000
section
namespace Go.Ql
open Go Go.Vc
theorem zao {m:Int} {S:List Bool}:∀ (l:List Arc) (s u:Int),z0v m S l (s + u) = (z0v m S l s).map (fun t=>t + u)
 | [],s,u=>rfl
 | a :: l,s,u=>by
  rw [z14,z14]
  split
  ·split
   ·rfl
   ·rw [show s + u + a.cap = s + a.cap + u by omega,zao l]
  ·split
   ·rw [show s + u - a.low = s - a.low + u by omega,zao l]
   ·exact zao l s u
def wideA (a:Arc) (r:Int):Arc:={ a with cap:=a.cap + r }
theorem room_set {m:Int} {S:List Bool} {r:Int} (hr:0 <= r):∀ {l:List Arc} {k:Nat} {a:Arc},l[k]? = some a->a.cap ≠ inf->a.cap + r ≠ inf->∃ u,0 <= u/\u <= r/\∀ s,z0v m S (l.set k (wideA a r)) s = (z0v m S l s).map (fun t=>t + u)
 | [],k,a,h,_,_=>by simp at h
 | b :: l,0,a,h,h1,h2=>by
  simp at h
  subst h
  have eo:zah m S (wideA b r) = zah m S b:=rfl
  have ei:inA m S (wideA b r) = inA m S b:=rfl
  have el:(wideA b r).low = b.low:=rfl
  have ec:(wideA b r).cap = b.cap + r:=rfl
  by_cases ho:zah m S b = true
  ·refine ⟨r,hr,Int.le_refl _,fun s=>?_⟩
   rw [List.set_cons_zero,z14,z14,eo,if_pos ho,if_pos ho,ec,if_neg h2,if_neg h1,show s + (b.cap + r) = s + b.cap + r by omega,zao]
  ·refine ⟨0,Int.le_refl _,hr,fun s=>?_⟩
   rw [List.set_cons_zero,z14,z14,eo,ei,el,if_neg ho,if_neg ho]
   have:∀ o:Option Int,o.map (fun t=>t + 0) = o:=fun o=>by cases o <;> simp
   rw [this]
 | b :: l,k + 1,a,h,h1,h2=>by
  have h':l[k]? = some a:=by simpa using h
  obtain ⟨u,u1,u2,hu⟩:=room_set hr (l:=l) h' h1 h2
  refine ⟨u,u1,u2,fun s=>?_⟩
  rw [List.set_cons_succ,z14,z14]
  split
  ·split
   ·rfl
   ·exact hu _
  ·split
   ·exact hu _
   ·exact hu _
theorem OnP.to {p q:ProbD} {S:List Bool} (h:OnP p S) (hq:ofE q = 0) (h1:q.s = p.s) (h2:q.t = p.t) (h3:q.inst.sup.length = p.inst.sup.length):OnP q S:=⟨hq,by rw [h3]; exact h.l,by rw [h1]; exact h.s,by rw [h2]; exact h.t⟩
theorem more_max {p q:ProbD} {r:Int} (hp:ofE p = 0) (hq:ofE q = 0) (h1:q.s = p.s) (h2:q.t = p.t) (h3:q.inst.sup.length = p.inst.sup.length) (hr:∀ S,∃ u,0 <= u/\u <= r/\z2e q.inst S = (z2e p.inst S).map (fun t=>t + u))
  {b c:Cert} {e f:Int} (hb:SolveP (ofI p) b e) (hc:SolveP (ofI q) c f):z1c b/\z1c c/\z34 p b = z34 q c/\(z34 p b = true->z8w p b <= z8w q c/\z8w q c <= z8w p b + r/\0 <= z8w p b/\z8w p b <= 1125899906842624):=by
 obtain ⟨-,b1,b2⟩:=solve_max hp hb
 obtain ⟨-,c1,c2⟩:=solve_max hq hc
 refine ⟨b1,c1,?_⟩
 rcases b2 with ⟨-,b3,b4⟩ | ⟨-,b3,b4⟩ <;> rcases c2 with ⟨-,c3,c4⟩ | ⟨-,c3,c4⟩
 ·rw [b3,c3]
  refine ⟨rfl,fun _=>?_⟩
  obtain ⟨u,u1,u2,hu⟩:=hr (z5n p b)
  rw [b4.room] at hu
  have i1:z8w q c <= z8w p b + u:=c4.least _ _ (b4.on.to hq h1 h2 h3) hu
  obtain ⟨v,v1,v2,hv⟩:=hr (z5n q c)
  rw [c4.room] at hv
  cases e1:z2e p.inst (z5n q c) with
  | none=>rw [e1] at hv; cases hv
  | some t =>
   rw [e1] at hv
   have hv':z8w q c = t + v:=by simpa using hv
   have i2:=b4.least _ _ (c4.on.to hp h1.symm h2.symm h3.symm) e1
   have:=b4.few hp
   exact ⟨by omega,by omega,b4.pos,this⟩
 ·obtain ⟨u,u1,u2,hu⟩:=hr (z5n p b)
  rw [c4 _ (b4.on.to hq h1 h2 h3),b4.room] at hu
  cases hu
 ·obtain ⟨u,u1,u2,hu⟩:=hr (z5n q c)
  rw [c4.room,b4 _ (c4.on.to hp h1.symm h2.symm h3.symm)] at hu
  cases hu
 ·rw [b3,c3]; exact ⟨rfl,fun h=>by cases h⟩
def moreP (p:ProbD) (k:Nat) (a:Arc) (r:Int):ProbD:=⟨p.most,⟨p.inst.sup,p.inst.arcs.set k (wideA a r)⟩,p.s,p.t⟩
theorem moreP_ok {p:ProbD} (h:ProbOk p) {k:Nat} {a:Arc} (ha:p.inst.arcs[k]? = some a) {r:Int} (r0:0 <= r) (r1:r <= 255) (hc:a.cap ≠ inf):ofE (moreP p k a r) = 0/\SmallI (ofP (moreP p k a r)):=by
 have hf:=h.fit
 have ns:=nodeP_iff.1 hf.s; have nt:=nodeP_iff.1 hf.t
 have hb:=hf.bare
 have hq:=h.a a (List.mem_of_getElem? ha)
 have hm:∀ b ∈ p.inst.arcs.set k (wideA a r),b = wideA a r ∨ b ∈ p.inst.arcs:=fun b hb=>(List.mem_or_eq_of_mem_set hb).symm
 have c0:=hq.c0
 have c1:=hq.c1.resolve_right hc
 have l0:=(hb.2 a (List.mem_of_getElem? ha)).1
 have k0:=(hb.2 a (List.mem_of_getElem? ha)).2
 have hz:∀ b ∈ (moreP p k a r).inst.arcs,b.low = 0/\b.cost = 0:=fun b hb'=>by
  rcases hm b hb' with rfl | h'
  ·exact ⟨l0,k0⟩
  ·exact hb.2 b h'
 have hr:z04 (moreP p k a r).inst = 0:=by
  have hs:=z0c hf.r
  have hw:=z1e hf.r
  refine zhp hs.1 (by show (p.inst.arcs.set k _).length <= _; rw [List.length_set]; exact hs.2) (fun b hb'=>?_) (fun x hx=>hw.1 x hx) hw.2
  rcases hm b hb' with rfl | h'
  ·unfold z0q wideA
   have:=hq.s0; have:=hq.s1; have:=hq.d0; have:=hq.d1
   show (if ¬ (0 <= a.src/\a.src < (p.inst.sup.length:Int)) ∨ ¬ (0 <= a.dst/\a.dst < (p.inst.sup.length:Int)) then _ else _) = _
   rw [if_neg (by omega),if_neg (by dsimp only; omega),if_neg (by dsimp only; omega),if_neg (by dsimp only; omega)]
  ·exact zg2 hf.r h'
 refine ⟨ofE_zero.2 ⟨⟨hf.m,hr,bareF_iff.2 ⟨hb.1,hz⟩,hf.s,hf.t,hf.d⟩,by show (p.inst.arcs.set k _).length < _; rw [List.length_set]; have:=h.m; omega⟩,fun y hy=>?_,fun b hb'=>?_⟩
 ·rw [hb.1 y hy]; omega
 ·rcases List.mem_append.1 hb' with h' | h'
  ·rcases hm b h' with rfl | h''
   ·exact ⟨by show a.low <= _; omega,.inr (by show a.cap + r <= _; omega)⟩
   ·have hq':=h.a b h''
    have:=hq'.l1
    exact ⟨by omega,hq'.c1.symm.imp_right fun h=>by omega⟩
  ·rw [List.mem_singleton] at h'; subst h'
   exact ⟨by show (0:Int) <= _; omega,.inl rfl⟩
theorem more_room {p:ProbD} {k:Nat} {a:Arc} (ha:p.inst.arcs[k]? = some a) {r:Int} (r0:0 <= r) (hc:a.cap ≠ inf) (hc2:a.cap + r ≠ inf) (S:List Bool):∃ u,0 <= u/\u <= r/\z2e (moreP p k a r).inst S = (z2e p.inst S).map (fun t=>t + u):=by
 obtain ⟨u,u1,u2,hu⟩:=room_set (m:=(p.inst.sup.length:Int)) (S:=S) r0 ha hc hc2
 exact ⟨u,u1,u2,hu 0⟩
def turnP (p:ProbD):ProbD:=⟨p.most,⟨p.inst.sup,p.inst.arcs.map swapA⟩,p.t,p.s⟩
def coS (S:List Bool):List Bool:=S.map (fun b=>!b)
theorem coS_getD {S:List Bool} {v:Nat} (h:v < S.length):(coS S).getD v false = !S.getD v false:=by
 unfold coS
 rw [List.getD_eq_getElem?_getD,List.getElem?_map,List.getD_eq_getElem?_getD,List.getElem?_eq_getElem h]; rfl
theorem turn_ok {p:ProbD} (h:ProbOk p):ProbOk (turnP p):=by
 have hf:=h.fit
 have ns:=nodeP_iff.1 hf.s; have nt:=nodeP_iff.1 hf.t
 refine fit_ok hf.m h.n2 (by show (p.inst.arcs.map swapA).length <= _; rw [List.length_map]; exact h.m) (fun a ha=>?_) hf.bare.1 (fun a ha=>?_) nt.1 nt.2 ns.1 ns.2 (fun e=>hf.d e.symm)
 ·obtain ⟨b,hb,rfl⟩:=List.mem_map.1 ha
  have q:=h.a b hb
  exact ⟨q.d0,q.d1,q.s0,q.s1,q.l0,q.l1,q.c0,q.c1,q.k0,q.k1⟩
 ·obtain ⟨b,hb,rfl⟩:=List.mem_map.1 ha
  exact hf.bare.2 b hb
theorem OnP.turn {p:ProbD} (h:ProbOk p) {S:List Bool} (hS:OnP p S):OnP (turnP p) (coS S):=by
 have hf:=h.fit
 have ns:=nodeP_iff.1 hf.s; have nt:=nodeP_iff.1 hf.t
 have hl:=hS.l
 refine ⟨(turn_ok h).e,by unfold coS; rw [List.length_map]; exact hl,?_,?_⟩
 ·show (coS S).getD p.t.toNat false = true
  rw [coS_getD (by omega),hS.t]; rfl
 ·show (coS S).getD p.s.toNat false = false
  rw [coS_getD (by omega),hS.s]; rfl
end Go.Ql
end
section
namespace Go.Proofs.YtapeenpimcffpaaGreat
open Go Go.RowKit Go.Ql Go.Draw
end Go.Proofs.YtapeenpimcffpaaGreat
end
section
section
namespace Go.Ql
open Go Go.RowKit Go.ChangeShapes Go.WideShapes Go.ChangeAt Go.Deep
section
variable {H:Type} {enc:TypeId × Value->H} {P:Program}
theorem addr_plain {w:World} {a:Addr} {v:Value} (h:w.cell? a = some v):a = ⟨a.block,a.off,none⟩/\a.block < w.heap.size:=by
 refine ⟨?_,World.block_lt_of_cell? w a h⟩
 obtain ⟨b,o,s⟩:=a
 cases s with
 | none=>rfl
 | some s =>
  exfalso
  unfold World.cell? at h
  split at h <;> simp at h
theorem add_plain (b o i:Nat):(⟨b,o,none⟩:Addr).add i = ⟨b,o + i,none⟩:=by
 unfold Addr.add
 split
 ·rename_i h; simp_all
 ·rfl
theorem dec_ints {W:World} {base:Nat} {r:Reach} {b0:Nat} {t e:TypeId} {k:IntKind} {v:Value} {d:DataW H} {p:List MemPlace} (ht:P.underlying t = some (.slice e)) (he:P.underlying e = some (.int k)) (hc:P.cellsOf e = 1)
  (hv:Value.okWide P W r b0 t v) (h:DataW.Trod enc P W base (fun _=>true) true t v d p) :
  ∃ A c xs,v = .slice A xs.length c/\(RowR (Value.int k) W W.heap.size A xs/\xs.length <= c)/\xs.length <= maxLen/\∀ x ∈ xs,(Lit.int k x).wf = true:=by
 obtain ⟨a0,len,cap,rfl⟩:=okWide_slice ht hv
 obtain ⟨fuel,hf⟩:=h
 rcases open_ints ht he hc hf with ⟨hcs,_⟩ | ⟨a,len',cap',zs,hcs,_,hl,hm,hz,_,hcell,hwz⟩
 ·simp [Value.cells] at hcs
  obtain ⟨rfl,rfl,rfl⟩:=hcs
  exact ⟨none,0,[],rfl,⟨RowR.nil,by simp⟩,by simp,by simp⟩
 ·simp [Value.cells] at hcs
  obtain ⟨rfl,rfl,rfl⟩:=hcs
  simp only [if_true] at hz
  have hlen:(zs.take len).length = len:=by simp; omega
  refine ⟨some a,cap,zs.take len,by rw [hlen],⟨fun h0=>?_,by omega⟩,by omega,fun x hx=>hwz x (List.mem_of_mem_take hx)⟩
  have h1:=hcell 0 (by omega)
  have hz0:a.add 0 = a:=by unfold Addr.add; simp
  rw [hz0] at h1
  obtain ⟨e1,e2⟩:=addr_plain h1
  refine ⟨a.block,a.off,by rw [<- e1],e2,fun i x hx=>?_⟩
  rw [List.getElem?_take] at hx
  split at hx
  ·have h2:=hcell i (by omega)
   rw [e1,add_plain] at h2
   rw [h2]
   simp [List.getD,hx]
  ·cases hx
theorem ze5 {W W':World} (hl:laidOutB P = true) (hb:Below W.heap.size W W'):∀ (ts:List TypeId) (vs:List Value) (ds:List (DataW H)) (ps:List MemPlace),(ts.all fun t=>P.readableRec t && decide (t < P.types.size)) = true ->
  (∀ x ∈ ps,x.block < W.heap.size)->DataW.TrodAll enc P W 0 (fun _=>true) true ts vs ds ps->∀ sp:Nat->Bool,(∀ x ∈ ps,sp x.block = true)->DataW.TrodAll enc P W' 0 sp true ts vs ds ps
 | [],vs,ds,ps,_,_,h,_,_=>by
  cases vs <;> cases ds <;> simp [DataW.TrodAll] at h ⊢
  exact h
 | t :: ts,vs,ds,ps,hr,hlt,h,sp,hsp=>by
  obtain ⟨v,vs',d,ds',p,q,rfl,rfl,rfl,h1,h2⟩:=trodAll_cons h
  simp only [List.all_cons,Bool.and_eq_true,decide_eq_true_eq] at hr
  refine ⟨p,q,?_,ze5 hl hb ts vs' ds' q (by simpa using hr.2) (fun x hx=>hlt x (by simp [hx])) h2 sp (fun x hx=>hsp x (by simp [hx])),rfl⟩
  exact WideElems.Trod_stays hl hr.1.1 hr.1.2 h1 (fun x hx=>hb.same (hlt x (by simp [hx]))) (fun x hx=>hsp x (by simp [hx]))
theorem law_post {f:Func} {s:ChangeSpec} {W W':World} {args:Array Value} {ds gs:List (DataW H)} {before:List MemPlace} {tb:TypeId} (hl:laidOutB P = true)
  (hW:DataW.Whole enc P f.params.toList s.vars false W args.toList ds gs before) (hvars:s.vars = []) (hres:f.resultTypes = #[tb]) (htb:P.underlying tb = some .bool)
  (hr:(f.params.toList.all fun t=>P.readableRec t && decide (t < P.types.size)) = true)
  (hfn:s.fn H ds = { results:=[.lit (.bool true)],args:=ds }) (hb:Below W.heap.size W W') :
  s.post enc P f false true false false W args (.bool true) W':=by
 have hW':=hW
 have hlt:∀ p ∈ before,p.block < W.heap.size:=fun p hp=>hW.lt p hp
 obtain ⟨pa,pv,hA,hV,hps,hz,hn⟩:=hW
 rw [hvars] at hV
 obtain ⟨rfl,rfl⟩:=trodVars_none hV
 rw [List.append_nil] at hps
 subst hps
 have hargs:∀ sp:Nat->Bool,(∀ p ∈ before,sp p.block = true)->DataW.TrodAll enc P W' 0 sp true f.params.toList args.toList ds before:=fun sp hsp =>
  ze5 hl hb _ _ _ _ hr hlt hA sp hsp
 have hres':∀ (b:Nat) (sp:Nat->Bool) (hd:Bool),DataW.TrodAll enc P W' b sp hd f.resultTypes.toList ((Value.bool true).resultList f.resultTypes.size) [.lit (.bool true)] []:=fun b sp hd=>by
  rw [hres]
  exact trodAll_cons_mk (shut_bool htb _) trodAll_mk0
 have hf2:s.fn H (ds ++ []) = { results:=[.lit (.bool true)],args:=ds }:=by rw [List.append_nil]; exact hfn
 have hvr:∀ sp:Nat->Bool,DataW.TrodVars enc P W' sp s.vars (s.fn H (ds ++ [])).vars []:=fun sp=>by rw [hvars,hf2]; rfl
 have hold:∀ p ∈ before,(fun b=>decide (b < W.heap.size)) p.block = true:=fun p hp=>by simpa using hlt p hp
 refine ⟨ds,[],before,[],before,[],hW',by rw [hf2]; exact hres' _ _ _,by rw [hf2]; exact hargs _ hold,hvr _,World.keptBut_mono (fun p hp=>⟨hp,?_⟩) (hb.frame (· ∈ before)),fun h=>by cases h⟩
 exact .inr (by simpa using hp)
end
end Go.Ql
end
section
namespace Go.Ql
open Go Go.RowKit
theorem wf1_u8 {n:Int} (h:(Lit.int .u8 n).wf = true):0 <= n/\n <= 255:=by simpa [Lit.wf,IntKind.min,IntKind.max,IntKind.signed,IntKind.bits] using h
theorem wf_u8 {c:List Int} (h:∀ x ∈ c,(Lit.int .u8 x).wf = true):Bytes c:=fun x hx=>wf1_u8 (h x hx)
end Go.Ql
namespace Go.Proofs.YtapeenpimcffpaaGreat
open Go Go.RowKit Go.Ql
theorem own_knob:ownKnob Tryz.prog.godebug = none:=by kernel_rfl
theorem laid_out:laidOutB Tryz.prog = true:=by kernel_rfl
end Go.Proofs.YtapeenpimcffpaaGreat
end
section
namespace Go.Ql
open Go Go.RowKit Go.ChangeShapes Go.WideShapes Go.ChangeAt Go.Deep
section
variable {H:Type} {enc:TypeId × Value->H} {P:Program}
theorem slice_small {W:World} {base:Nat} {t e:TypeId} {fuel n c:Nat} {A:Option Addr} {x:DataW H × List MemPlace} {sp:Nat->Bool} {hd:Bool} (ht:P.underlying t = some (.slice e)) (hb:1 <= P.bytesOf e)
  (h:DataW.trod enc P W base sp hd fuel t [.slice A n c] = some x) (hz:(x.1.weights P t).all (· <= reachBytes) = true):n <= 140737488351232:=by
 rcases DataW.trod_slice ht h with ⟨hcs,_⟩ | ⟨a,len,cap,elems,rest,m,_,hcs,rfl,_,_,_,hlen,_⟩
 ·simp at hcs; omega
 ·simp only [List.cons.injEq,Value.slice.injEq,and_true] at hcs
  obtain ⟨_,rfl,_⟩:=hcs
  simp only [DataW.weights,ht,List.all_cons,Bool.and_eq_true,decide_eq_true_eq,List.length_map,hlen] at hz
  have h1:=hz.1
  have h2:n <= n + rest.length:=Nat.le_add_right _ _
  have h3:(n + rest.length) * 1 <= (n + rest.length) * P.bytesOf e:=Nat.mul_le_mul_left _ hb
  unfold reachBytes at h1
  omega
theorem zn0 {W:World} {base:Nat} {t e:TypeId} {n c:Nat} {A:Option Addr} {d:DataW H} {p:List MemPlace} {sp:Nat->Bool} {hd:Bool} (ht:P.underlying t = some (.slice e)) (hb:1 <= P.bytesOf e)
  (h:DataW.Trod enc P W base sp hd t (.slice A n c) d p) (hz:(d.weights P t).all (· <= reachBytes) = true):n <= 140737488351232:=by
 obtain ⟨fuel,hf⟩:=h
 exact slice_small ht hb hf hz
theorem z6x {t:TypeId} {ts vt:List TypeId} {d:DataW H} {ds gs:List (DataW H)} (h:(DataW.weightsEach P ((t :: ts) ++ vt) ((d :: ds) ++ gs)).all (· <= reachBytes) = true) :
  (d.weights P t).all (· <= reachBytes) = true/\(DataW.weightsEach P (ts ++ vt) (ds ++ gs)).all (· <= reachBytes) = true:=by
 simpa only [List.cons_append,DataW.weightsEach,List.all_append,Bool.and_eq_true] using h
end
end Go.Ql
namespace Go.Proofs.YtapeenpimcffpaaGreat
open Go Go.RowKit Go.Ql
end Go.Proofs.YtapeenpimcffpaaGreat
end
end
