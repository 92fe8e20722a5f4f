/- Part of the proof: Vc7. -/
import Derived.Test.YtggblkbecekbdaaGreatZG2
import Derived.ArgAppend
set_option linter.all false
set_option linter.unusedSimpArgs false
set_option linter.unusedVariables false
section
namespace Go.Vc
open Go Go.RowKit Go.Ql Go.Draw
theorem fold_set (off:Nat):∀ (vs:List Value) (k:Nat) (cells:Array Value),off+k+vs.length <= cells.size ->
  (vs.zipIdx k).foldl (fun cs (p:Value × Nat)=>cs.setIfInBounds (off+p.2) p.1) cells=(cells.toList.take (off+k) ++ vs ++ cells.toList.drop (off+k+vs.length)).toArray
 | [],k,cells,h=>by simp
 | v :: vs,k,cells,h=>by
  simp only [List.length_cons] at h
  rw [List.zipIdx_cons,List.foldl_cons,fold_set off vs (k+1) _ (by simp; omega)]
  apply Array.toList_inj.1
  simp only [Array.toList_setIfInBounds,List.length_cons]
  rw [show off+(k+1)=off+k+1 by omega,show off+k+(vs.length+1)=off+k+1+vs.length by omega]
  rw [List.drop_set_of_lt (by omega),List.take_set,List.set_eq_take_append_cons_drop]
  have hl:off+k<(cells.toList.take (off+k+1)).length:=by simp; omega
  rw [if_pos hl,List.take_take,Nat.min_eq_left (by omega),List.drop_of_length_le (l:=cells.toList.take (off+k+1)) (by simp; omega)]
  simp
theorem fold_set0 (off:Nat) (vs:Array Value) (cells:Array Value) (h:off+vs.size <= cells.size) :
  vs.zipIdx.foldl (fun cs (x:Value × Nat)=>match x with | (c,j)=>cs.setIfInBounds (off+j) c) cells=(cells.toList.take off ++ vs.toList ++ cells.toList.drop (off+vs.size)).toArray:=by
 have:=fold_set off vs.toList 0 cells (by simpa using h)
 rw [<- Array.foldl_toList,Array.toList_zipIdx]
 simpa using this
section
variable {P:Program} {T:Tys} {B:Defs} {w0:World} {S0:Foot} {N n0:Nat} {ρ0:Nat->Value} {ρ:Nat->Value} {s:St} {a:Act} {w:World}
theorem zk7 (hone:∀ k,(ρ k).oneCell'=true) {fs:List (Nat × Nat × Bool)}:∀ {parts:List (Nat × SV)} {cells cs:List SV},fillS fs cells parts=some cs ->
  Instr.fill (fun i=>(fs.map fun f=>(f.1,f.2.1))[i]?) (z0s ρ cells).toArray (parts.map fun p=>(p.1,p.2.toV ρ))=some (z0s ρ cs).toArray
 | [],cells,cs,h=>by cases h; rfl
 | (i,v) :: parts,cells,cs,h=>by
  unfold fillS at h
  split at h
  ·rename_i off n ag hf
   cases hb:(Nat.beq v.cells.length n && Nat.ble (off+n) cells.length && z2s v.cells) with
   | false=>rw [hb] at h; cases h
   | true =>
    rw [hb] at h
    simp only [cond_true] at h
    simp only [Bool.and_eq_true] at hb
    obtain ⟨⟨b1,b2⟩,b3⟩:=hb
    have b1:=z10 b1
    have b2:=z8y b2
    have hc:=z5l v b3 hone
    have hlen:(z0s ρ v.cells).length=n:=by rw [z0u,List.length_map,b1]
    have hlen2:(z0s ρ cells).length=cells.length:=by rw [z0u,List.length_map]
    have ih:=zk7 hone h
    simp only [List.map_cons,Instr.fill,List.getElem?_map,hf,Option.map_some]
    rw [hc]
    simp only [List.size_toArray,hlen,hlen2]
    rw [if_neg (by simp; omega)]
    rw [fold_set0 off _ _ (by simp [hlen,hlen2]; omega)]
    simp only [List.toList_toArray,List.size_toArray,hlen]
    have:(z0s ρ cells).take off ++ z0s ρ v.cells ++ (z0s ρ cells).drop (off+n)=z0s ρ (cells.take off ++ v.cells ++ cells.drop (off+n)):=by
     simp [z0u,List.map_take,List.map_drop]
    rw [this]
    simpa only [List.getElem?_map] using ih
  ·cases h
theorem fill_mono {p q:Nat->Option (Nat × Nat)} (h:∀ i x,p i=some x->q i=some x):∀ {parts:List (Nat × Value)} {cells r:Array Value},Instr.fill p cells parts=some r->Instr.fill q cells parts=some r
 | [],cells,r,hf=>hf
 | (i,v) :: parts,cells,r,hf=>by
  rw [Instr.fill] at hf ⊢
  cases hp:p i with
  | none=>rw [hp] at hf; cases hf
  | some x =>
   obtain ⟨off,sz⟩:=x
   rw [hp] at hf
   rw [h i _ hp]
   dsimp only at hf ⊢
   split
   ·rename_i hc; rw [if_pos hc] at hf; cases hf
   ·rename_i hc; rw [if_neg hc] at hf; exact fill_mono h hf
theorem offA_place {fs:List (Nat × Nat × Bool)} {m sz:Nat} (h:fs.map (fun f=>(f.1,f.2.1))=(List.range m).map fun j=>(j * sz+1000000,sz)) {i:Nat} {x:Nat × Nat} (hx:((offA fs).map fun f=>(f.1,f.2.1))[i]? = some x):some (i * sz,sz)=some x:=by
 have hat:∀ k f,fs[k]? = some f->f.1=k * sz+1000000/\f.2.1=sz:=fun k f hf=>by
  have e:(fs.map fun f=>(f.1,f.2.1))[k]? = some (f.1,f.2.1):=by rw [List.getElem?_map,hf]; rfl
  rw [h,List.getElem?_map] at e
  cases hr:(List.range m)[k]? with
  | none=>rw [hr] at e; cases e
  | some j =>
   obtain ⟨h1,h2⟩:=List.getElem?_eq_some_iff.1 hr
   rw [List.getElem_range] at h2
   subst h2
   rw [hr] at e
   simp only [Option.map_some,Option.some.injEq,Prod.mk.injEq] at e
   exact ⟨e.1.symm,e.2.symm⟩
 rw [List.getElem?_map] at hx
 unfold offA at hx
 cases hb:isArr fs with
 | true =>
  rw [hb] at hx
  simp only [cond_true,List.getElem?_map] at hx
  cases hf:fs[i]? with
  | none=>rw [hf] at hx; cases hx
  | some f =>
   rw [hf] at hx
   obtain ⟨a1,a2⟩:=hat i f hf
   simp only [Option.map_some,Option.some.injEq] at hx
   rw [<- hx,a1,a2]; simp
 | false =>
  rw [hb] at hx
  simp only [cond_false] at hx
  cases hf:fs[i]? with
  | none=>rw [hf] at hx; cases hx
  | some f =>
   obtain ⟨a1,a2⟩:=hat i f hf
   unfold isArr at hb
   rw [List.any_eq_false] at hb
   have:=hb f (List.mem_of_getElem? hf)
   exact absurd (Nat.ble_eq_true_of_le (by omega)) this
theorem build_sound (hT:z5w P T) {o:Oper} {ty:TypeId} {parts:Array (Nat × Operand)} {K:St->Prop} (ho:o.op = .build ty parts) {Γ:z0c} (h:z3h T Γ N o s K) (hs:Sym B w0 S0 N n0 ρ0 ρ s a w)
  {K':Act->World->Prop} {Q:Exit->Act->World->Prop} (hK:∀ s' ρ' a' w',Sym B w0 S0 N n0 ρ0 ρ' s' a' w'->K s'->K' a' w'):o.wp P a w K' Q:=by
 unfold z3h at h
 rw [ho] at h
 simp only at h
 split at h
 ·rename_i ti vs hti hv
  have hv:=z4m hs hv
  have ht:=hT _ _ hti
  cases hb:(s.kb && kbs s.nk vs && ti.agg) with
  | false=>rw [hb] at h; exact h.elim
  | true =>
   rw [hb] at h
   simp only [Bool.and_eq_true] at hb
   obtain ⟨⟨k1,k2⟩,k3⟩:=hb
   cases hz:zgx ti.zs s.nk with
   | mk cells hn =>
   obtain ⟨hh,n⟩:=hn
   rw [hz] at h
   simp only [cond_true] at h
   obtain ⟨z1,z2,z3,z4⟩:=z8x _ _ _ _ _ hz
   split at h
   ·rename_i cs hcs
    let ρ':Nat->Value:=fun k=>if k<s.nk then ρ k else .slice none 0 0
    have r1:∀ k,k<s.nk->ρ' k=ρ k:=fun k hk=>by simp [ρ',hk]
    have r2:∀ k,s.nk <= k->k<n->ρ' k = .slice none 0 0:=fun k h1 h2=>by simp only [ρ']; rw [if_neg (by omega)]
    have hone:∀ k,(ρ' k).oneCell'=true:=fun k=>by
     simp only [ρ']; split
     ·exact hs.hp.one k
     ·rfl
    have hs':Sym B w0 S0 N n0 ρ0 ρ' { tm:=s.tm,hp:=hh ++ s.hp,nk:=n } a w:=by
     refine hs.more k1 z1 (z4h w none) r1 hone (fun k e hl=>(z3 k e hl).1) (fun k e hl=>?_) (fun k e hl g hg=>?_) (fun k e k' e' hl hl' hne g hg=>?_)
     ·obtain ⟨a1,a2,t,rk,rfl⟩:=z3 k e hl
      rw [r2 k a1 a2]; exact ziu _ t rk
     ·obtain ⟨a1,a2,t,rk,rfl⟩:=z3 k e hl
      rw [r2 k a1 a2] at hg; exact absurd hg (z3j t rk g)
     ·obtain ⟨a1,a2,t,rk,rfl⟩:=z3 k e hl
      rw [r2 k a1 a2] at hg; exact absurd hg (z3j t rk g)
    have hpl:=ht.pl k3
    obtain ⟨i,hi,hsz,hzero⟩:=ht.parts
    have hfill:=zk7 hone hcs
    have hcells:(z0s ρ' cells).toArray=ti.zero.cells:=by rw [z2 ρ' r2,ht.zero_cells]
    rw [hcells] at hfill
    have hparts:((parts.toList.map (·.1)).zip vs).map (fun p=>(p.1,p.2.toV ρ'))=(parts.map fun (i,x)=>(i,a.eval x)).toList:=by
     have e1:z0s ρ' vs=(parts.toList.map (·.2)).map a.eval:=by rw [z1k r1 vs k2,<- hv]
     rw [z0u] at e1
     have e2:((parts.toList.map (·.1)).zip vs).map (fun p=>(p.1,p.2.toV ρ'))=(parts.toList.map (·.1)).zip (vs.map (SV.toV ρ')):=by
      rw [List.zip_map_right]; rfl
     rw [e2,e1]
     simp only [Array.toList_map]
     generalize parts.toList=l
     induction l with
     | nil=>rfl
     | cons p l ih=>simp only [List.map_cons,List.zip_cons_cons,ih]
    rw [hparts] at hfill
    have hbuilt:P.built ty (parts.map fun (i,x)=>(i,a.eval x)).toList=some (z0s ρ' cs).toArray:=by
     cases hu:P.underlying ty with
     | none=>rw [hu] at hpl; cases hpl
     | some d =>
      rw [hu] at hpl
      simp only [Option.map_some,Option.some.injEq] at hpl
      cases d <;> try (simp [zc2] at hpl; done)
      ·rename_i m e
       simp only [zc2] at hpl
       unfold Program.built
       cases hie:P.info? e with
       | none=>rw [hie] at hpl; cases hpl
       | some ie =>
        rw [hie] at hpl
        simp only [Option.map_some,Option.some.injEq] at hpl
        simp only [hi,hu,hzero,hie]
        refine fill_mono ?_ hfill
        intro j q hq
        exact offA_place hpl.symm hq
      ·rename_i fields
       have hna:offA ti.fs=ti.fs:=by
        unfold offA
        cases har:isArr ti.fs with
        | false=>rfl
        | true=>have:=ht.ar har; rw [hu] at this; simp [isArrD] at this
       rw [hna] at hfill
       simp only [zc2] at hpl
       unfold Program.built
       simp only [hi,hu,hzero,hpl]
       simpa using hfill
    refine z11 (v:=SV.toV ρ' (.agg cs)) (w':=w) ?_ (z0a h hs' hK)
    unfold execOp
    simp only [ho,Sem.run_bind,run_build w ty _ _ hbuilt,Result.andThen_ok,SV.toV]
    rfl
   ·exact h.elim
 ·exact h.elim
theorem valsS_one:∀ {ks:List MK} {vs:List SV} {a:List Int},valsS ks vs=some a->z2s vs=true
 | [],[],a,h=>rfl
 | [],_ :: _,a,h=>by cases h
 | _ :: _,[],a,h=>by cases h
 | k :: ks,v :: vs,a,h=>by
  simp only [valsS] at h
  split at h
  ·rename_i n hn
   split at h
   ·rename_i l hl
    simp only [z2s,valsS_one hl,Bool.and_true]
    cases k <;> cases v <;> first | rfl | (simp [valS,zb9] at hn)
   ·cases h
  ·cases h
theorem snoc_sound {r r':Row} {cs:List SV} (h:r.snoc cs=some r') (ρ:Nat->Value):r'.cells=r.cells ++ z0s ρ cs/\r'.len=r.len+1/\r'.width=r.width/\cs.length=r.width/\z2s cs=true:=by
 cases r with
 | ints k xs =>
  rcases cs with _ | ⟨c,_ | ⟨d,cs⟩⟩
  ·simp [Row.snoc] at h
  ·cases c <;> try (simp [Row.snoc] at h; done)
   rename_i k' n
   simp only [Row.snoc] at h
   cases hk:kEq k k' with
   | false=>rw [hk] at h; cases h
   | true =>
    rw [hk] at h
    have:=z5n hk
    subst this
    cases h
    simp [Row.cells,Row.len,Row.width,z0s,SV.toV,z2s,SV.one]
  ·simp [Row.snoc] at h
 | bools xs =>
  simp only [Row.snoc] at h
  split at h <;> first
   | (cases h; done)
   | (cases h; simp_all [Row.cells,Row.len,Row.width,z0s,SV.toV,z2s,SV.one]; done)
   | (exfalso; simp_all; done)
 | arcs xs =>
  simp only [Row.snoc] at h
  split at h <;> first
   | (cases h; done)
   | (cases h; simp_all [Row.cells,Row.len,Row.width,z0s,SV.toV,z2s,SV.one,Arc.cells]; done)
   | (exfalso; simp_all; done)
 | wides xs =>
  simp only [Row.snoc] at h
  split at h <;> first
   | (cases h; done)
   | (cases h; simp_all [Row.cells,Row.len,Row.width,z0s,SV.toV,z2s,SV.one,Wide.cells]; done)
   | (exfalso; simp_all; done)
 | recs k ks xs =>
  simp only [Row.snoc] at h
  split at h
  ·rename_i a ha
   cases h
   obtain ⟨e1,e2⟩:=zcr (ρ:=ρ) ha
   exact ⟨by simp [Row.cells,e1],by simp [Row.len],rfl,e2,valsS_one ha⟩
  ·cases h
theorem znj (ρ:Nat->Value):∀ {vs:List SV} {r r':Row},r.snocs vs=some r'->r'.cells=r.cells ++ vs.flatMap (fun v=>z0s ρ v.cells)/\r'.len=r.len+vs.length/\r'.width=r.width/\∀ v ∈ vs,v.cells.length=r.width/\z2s v.cells=true
 | [],r,r',h=>by
  simp only [Row.snocs,Option.some.injEq] at h; subst h; simp
 | v :: vs,r,r',h=>by
  simp only [Row.snocs] at h
  split at h
  ·rename_i r1 h1
   obtain ⟨a1,a2,a3,a4,a5⟩:=snoc_sound h1 ρ
   obtain ⟨b1,b2,b3,b4⟩:=znj ρ h
   refine ⟨by rw [b1,a1]; simp,by rw [b2,a2]; simp; omega,by rw [b3,a3],fun u hu=>?_⟩
   rcases List.mem_cons.1 hu with rfl | hu
   ·exact ⟨a4,a5⟩
   ·have:=b4 u hu; rw [a3] at this; exact this
  ·cases h
theorem zhv (size:Nat):∀ (vs:List Value) (k:Nat) (cells:Array Value),cells.size=(k+vs.length) * size->(∀ v ∈ vs,v.cells.size=size) ->
  Instr.fill (fun i=>some (i * size,size)) cells ((List.range' k vs.length).zip vs)=some (cells.toList.take (k * size) ++ vs.flatMap (fun v=>v.cells.toList)).toArray
 | [],k,cells,h,_=>by
  simp only [List.length_nil,List.range'_zero,List.zip_nil_left,Instr.fill,List.flatMap_nil,List.append_nil,Option.some.injEq]
  rw [List.take_of_length_le (by simp at h ⊢; omega)]
 | v :: vs,k,cells,h,hv=>by
  have hv0:=hv v (by simp)
  have hle:k * size+size <= cells.size:=by
   rw [h]
   have:(k+1) * size <= (k+(v :: vs).length) * size:=Nat.mul_le_mul_right _ (by simp)
   rw [Nat.add_mul] at this; omega
  rw [List.length_cons,List.range'_succ,List.zip_cons_cons]
  simp only [Instr.fill]
  rw [if_neg (by simp [hv0]; omega),fold_set0 _ _ _ (by rw [hv0]; exact hle)]
  rw [zhv size vs (k+1) _ (by rw [show k+1+vs.length=k+(v :: vs).length by simp; omega,<- h]; simp [hv0]; omega) (fun u hu=>hv u (by simp [hu]))]
  simp only [List.toList_toArray,List.flatMap_cons,Option.some.injEq]
  congr 1
  rw [<- List.append_assoc]
  congr 1
  rw [List.take_append,List.take_of_length_le (by simp [hv0]; rw [Nat.add_mul]; omega)]
  simp [hv0]
  rw [Nat.add_mul]
  omega
end
end Go.Vc
end
section
namespace Go.Vc
open Go Go.RowKit Go.Ql Go.Draw
section
variable {P:Program} {T:Tys} {B:Defs} {w0:World} {S0:Foot} {N n0:Nat} {ρ0:Nat->Value} {ρ:Nat->Value} {s:St} {a:Act} {w:World}
theorem z9n:∀ {a b:List Nat},z9m a b=true->a=b
 | [],[],_=>rfl
 | x :: l,y :: m,h=>by
  simp only [z9m,Bool.and_eq_true] at h
  rw [z10 h.1,z9n h.2]
 | [],_ :: _,h=>by cases h
 | _ :: _,[],h=>by cases h
theorem z5v (hT:z5w P T) {t:TypeId} {ti:TI} {e:TypeId} {rk:RK} {b:Nat} (hti:lk t T=some ti) (hsl:ti.sl=some (e,rk,b)) :
  P.underlying t=some (.slice e)/\b <= 128/\∃ i,P.info? e=some i/\i.zero=some rk.zero/\i.size=rk.width/\i.bytes=b:=by
 obtain ⟨h1,h2,h3⟩:=(hT _ _ hti).sl e rk b hsl
 cases hi:P.info? e with
 | none=>rw [hi] at h2; cases h2
 | some i =>
  rw [hi] at h2
  simp only [Option.map_some,Option.some.injEq,Prod.mk.injEq] at h2
  exact ⟨h1,h3,i,rfl,h2.1,h2.2.1,h2.2.2⟩
theorem zex (rk:RK):rk.zero.cells.size=rk.width:=by
 cases rk with
 | recs k ks=>show (recV (z81 k ks) []).toArray.size=_; simp [z3m,RK.width]
 | obj v vs=>show (fiveV v vs).toArray.size=_; simp [lenL_eq,RK.width]
 | _=>rfl
theorem zew (rk:RK):0<rk.width/\rk.width <= 5:=by
 cases rk with
 | obj v vs =>
  simp only [RK.width]
  rw [lenL_eq]; unfold fiveV; rw [List.length_take,List.length_cons]; omega
 | recs k ks=>exact five_len k ks
 | _=>simp [RK.width]
theorem ownsRow_new (w:World) (e:TypeId) (r:Row) (cs:List Value) (hcs:cs=r.cells) (hl:r.len <= maxLen) :
  (w.alloc (.cells cs.toArray e)).ownsRow 0 e r.width (.slice (some ⟨w.heap.size,0,none⟩) r.len r.len) r.len r.cells:=by
 subst hcs
 refine ⟨Row.cells_len r,.inr ⟨w.heap.size,r.len,_,rfl,Nat.zero_le _,heap_alloc_new w _,Nat.le_refl _,hl,by simp [Row.cells_len],?_⟩⟩
 rw [List.toList_toArray,List.take_of_length_le (by rw [Row.cells_len]; exact Nat.le_refl _)]
theorem Sym.newVec (hs:Sym B w0 S0 N n0 ρ0 ρ s a w) (hk:s.kb=true) {e:TypeId} {cs:List SV} (hcs:kbs s.nk cs=true) :
  ∃ ρ',Sym B w0 S0 N n0 ρ0 ρ' { tm:=s.tm,hp:=(s.nk,.vec e cs) :: s.hp,nk:=s.nk+1 } a (w.alloc (.cells (flatV (z0s ρ cs)).toArray e))/\SV.toV ρ' (.row s.nk) = .slice (some ⟨w.heap.size,0,none⟩) cs.length cs.length:=by
 have hl:∀ k d,lk k [(s.nk,Ent.vec e cs)]=some d->k=s.nk/\d = .vec e cs:=by
  intro k d hd
  rw [z0g] at hd
  split at hd
  ·rename_i e1; cases hd; exact ⟨e1,rfl⟩
  ·simp [lk] at hd
 have hρ:∀ k,k<s.nk->(fun j=>if j=s.nk then Value.slice (some ⟨w.heap.size,0,none⟩) cs.length cs.length else ρ j) k=ρ k:=fun k hk=>by simp; omega
 refine ⟨fun j=>if j=s.nk then .slice (some ⟨w.heap.size,0,none⟩) cs.length cs.length else ρ j,?_,by simp [SV.toV]⟩
 refine hs.more hk (Nat.le_succ _) (World.grownBy_alloc w _ none) (hn:=[(s.nk,Ent.vec e cs)]) hρ (fun k=>?_) (fun k d hd=>?_) (fun k d hd=>?_) (fun k d hd g hg=>?_) (fun k d k' d' hd hd' hne g hg=>?_)
 ·split
  ·rfl
  ·exact hs.hp.one k
 ·obtain ⟨rfl,rfl⟩:=hl k d hd; exact Nat.le_refl _
 ·obtain ⟨rfl,rfl⟩:=hl k d hd
  simp only [if_true]
  exact ⟨w.heap.size,rfl,by rw [z1k hρ cs hcs]; exact Has.new w e _⟩
 ·obtain ⟨rfl,rfl⟩:=hl k d hd
  simp only [if_true,Ent.touch,Value.ownBlock,Option.some.injEq] at hg
  omega
 ·obtain ⟨rfl,rfl⟩:=hl k d hd
  obtain ⟨rfl,_⟩:=hl k' d' hd'
  exact absurd rfl hne
theorem run_buildOnes (hT:z5w P T) {o:Oper} {ty e:TypeId} {len:Nat} {parts:Array (Nat × Operand)} (ho:o.op = .buildSlice ty len parts) {zs:List Z} {ag:Bool} {fs:List (Nat × Nat × Bool)} {rk:RK} {bt:Nat} {ik:Option IntKind} {eqs:List IntKind}
  (hti:lk ty T=some ⟨zs,ag,fs,some (e,rk,bt),ik,eqs⟩) (hrk:rk.width=1) {us:List Value} (hv:(parts.toList.map (·.2)).map a.eval=us) (k2:parts.toList.map (·.1)=List.range len) (k3:len <= 1000) (k4:0<len) (h1:∀ u ∈ us,u.oneCell'=true) (w:World) :
  (execOp a.eval o).run P w = .ok (.value (.slice (some ⟨w.heap.size,0,none⟩) len len)) (w.alloc (.cells us.toArray e)):=by
 obtain ⟨hu,hb64,i,hi,hz,hsz,hby⟩:=z5v hT hti rfl
 have hlen:parts.size=len:=by have:=congrArg List.length k2; simpa using this
 have hvl:us.length=len:=by
  have:=congrArg List.length hv
  simp at this; omega
 have hcell:∀ v ∈ us,v.cells.size=1:=fun v hv=>by rw [z3l (h1 v hv)]; rfl
 have hparts:(parts.map fun (i,x)=>(i,a.eval x)).toList=(List.range' 0 us.length).zip us:=by
  rw [hvl,<- List.range_eq_range',<- k2,<- hv]
  simp only [Array.toList_map]
  generalize parts.toList=l
  induction l with
  | nil=>rfl
  | cons p l ih=>simp only [List.map_cons,List.zip_cons_cons,ih]
 have hflat:us.flatMap (fun v=>v.cells.toList)=us:=by
  have:∀ l:List Value,(∀ v ∈ l,v.oneCell'=true)->l.flatMap (fun v=>v.cells.toList)=l:=by
   intro l
   induction l with
   | nil=>intro _; rfl
   | cons v l ih =>
    intro hl
    rw [List.flatMap_cons,ih (fun u hu=>hl u (by simp [hu])),z3l (hl v (by simp))]
    rfl
  exact this _ h1
 have hfill:∀ cells:Array Value,cells.size=len * 1->Instr.fill (fun i=>some (i * 1,1)) cells (parts.map fun (i,x)=>(i,a.eval x)).toList=some us.toArray:=by
  intro cells hc
  rw [hparts,zhv 1 us 0 cells (by rw [hc]; simp [hvl]) hcell,hflat]
  simp
 have hn:¬ (2 ^ 24<len * 1):=by omega
 have h0:¬ len * 1=0:=by omega
 have hf:=hfill ((Array.range (len * 1)).map (rk.zero.cells[· % rk.zero.cells.size]!)) (by simp)
 simp only [execOp,ho,Instr.buildSlice,Sem.run_bind,run_underlying hu,sizeOf,typeInfo,hi,hsz,hrk,newRow,Result.andThen_ok]
 simp [hsz,hrk,hn,h0,zeroValue,typeInfo,hi,hz]
 simp at hf
 rw [hf]
 simp [show ¬ 16777216<len by omega,show ¬ len=0 by omega]
theorem run_buildWide (hT:z5w P T) {o:Oper} {ty e:TypeId} {len:Nat} {parts:Array (Nat × Operand)} (ho:o.op = .buildSlice ty len parts) {zs:List Z} {ag:Bool} {fs:List (Nat × Nat × Bool)} {rk:RK} {bt:Nat} {ik:Option IntKind} {eqs:List IntKind}
  (hti:lk ty T=some ⟨zs,ag,fs,some (e,rk,bt),ik,eqs⟩) {us:List Value} (hv:(parts.toList.map (·.2)).map a.eval=us) (k2:parts.toList.map (·.1)=List.range len) (k3:len <= 1000) (k4:0<len) (h1:∀ u ∈ us,u.cells.size=rk.width) (w:World) :
  (execOp a.eval o).run P w = .ok (.value (.slice (some ⟨w.heap.size,0,none⟩) len len)) (w.alloc (.cells (flatV us).toArray e)):=by
 obtain ⟨hu,hb64,i,hi,hz,hsz,hby⟩:=z5v hT hti rfl
 have hwl:=zew rk
 have hlen:parts.size=len:=by have:=congrArg List.length k2; simpa using this
 have hvl:us.length=len:=by
  have:=congrArg List.length hv
  simp at this; omega
 have hparts:(parts.map fun (i,x)=>(i,a.eval x)).toList=(List.range' 0 us.length).zip us:=by
  rw [hvl,<- List.range_eq_range',<- k2,<- hv]
  simp only [Array.toList_map]
  generalize parts.toList=l
  induction l with
  | nil=>rfl
  | cons p l ih=>simp only [List.map_cons,List.zip_cons_cons,ih]
 have hfill:∀ cells:Array Value,cells.size=len * rk.width->Instr.fill (fun i=>some (i * rk.width,rk.width)) cells (parts.map fun (i,x)=>(i,a.eval x)).toList=some (flatV us).toArray:=by
  intro cells hc
  rw [hparts,zhv rk.width us 0 cells (by rw [hc]; simp [hvl]) h1]
  simp [flatV]
 have hmul:len * rk.width <= 1000 * 5:=Nat.mul_le_mul k3 hwl.2
 have hn:¬ (2 ^ 24<len * rk.width):=by omega
 have h0:¬ len * rk.width=0:=by
  have:=Nat.mul_pos k4 hwl.1
  omega
 have hf:=hfill ((Array.range (len * rk.width)).map (rk.zero.cells[· % rk.zero.cells.size]!)) (by simp)
 simp only [execOp,ho,Instr.buildSlice,Sem.run_bind,run_underlying hu,sizeOf,typeInfo,hi,hsz,newRow,Result.andThen_ok]
 simp [hsz,hn,h0,zeroValue,typeInfo,hi,hz]
 simp at hf
 rw [hf]
 simp
theorem zit {w:World} {v:Value} {t it:TypeId} {d:DK} {u:Value} {r:Row} (h1:w.ownsRow 0 t 1 v 1 [u]) (h2:d.rows=[r]) (h3:w.ownsRow 0 it r.width u r.len r.cells) (h4:∀ g,u.ownBlock=some g->v.ownBlock ≠ some g) (h5:u.oneCell'=true):DeepOwn w v t it d [u] none:=by
 have one:∀ i (u':Value),[u][i]? = some u'->i=0/\u'=u:=fun i u' h=>by
  have:=(List.getElem?_eq_some_iff.1 h).1
  simp only [List.length_cons,List.length_nil] at this
  have e:i=0:=by omega
  subst e
  simp at h; exact ⟨rfl,h.symm⟩
 refine ⟨h1,by rw [h2]; rfl,fun i r' u' h h' _=>?_,fun i j u' u'' h h' hne=>?_,fun u' h=>?_⟩
 ·obtain ⟨rfl,rfl⟩:=one i u' h'
  rw [h2] at h
  simp at h
  subst h
  exact ⟨h3,h4⟩
 ·have e1:=(one i u' h).1
  have e2:=(one j u'' h').1
  omega
 ·rw [List.mem_singleton.1 h]; exact h5
theorem deepLit_sound {e it:TypeId} {d:DK} {v:SV} {K:SV->St->Prop} (h:deepLit e it d v s K) (hs:Sym B w0 S0 N n0 ρ0 ρ s a w) (hk:s.kb=true) (hd:d.rows=[]) :
  (v.toV ρ).oneCell'=true/\∃ s' ρ',K (.row s.nk) s'/\Sym B w0 S0 N n0 ρ0 ρ' s' a (w.alloc (.cells #[v.toV ρ] e))/\SV.toV ρ' (.row s.nk) = .slice (some ⟨w.heap.size,0,none⟩) 1 1:=by
 have hgb:=World.grownBy_alloc w (.cells #[v.toV ρ] e) none
 have hrow:(w.alloc (.cells #[v.toV ρ] e)).ownsRow 0 e 1 (.slice (some ⟨w.heap.size,0,none⟩) 1 1) 1 [v.toV ρ] :=
  ⟨rfl,.inr ⟨w.heap.size,1,_,rfl,Nat.zero_le _,heap_alloc_new w _,Nat.le_refl _,by decide,rfl,rfl⟩⟩
 unfold deepLit at h
 split at h
 ·rename_i kr
  split at h
  ·rename_i it' r hlr
   split at h
   ·rename_i d' hd'
    cases hb:Nat.beq it it' with
    | false=>rw [hb] at h; exact h.elim
    | true =>
     rw [hb] at h
     simp only [cond_true] at h
     have hb:=z10 hb
     subst hb
     have hr:w.ownsRow 0 it r.width (ρ kr) r.len r.cells:=hs.hp.ent kr _ hlr
     have hkr:=(s.kb_hp hk hlr).1
     have hlt:∀ g,(ρ kr).ownBlock=some g->g<w.heap.size:=fun g hg=>(World.ownsRow.lt hr g hg).2
     have hdeep:DeepOwn (w.alloc (.cells #[ρ kr] e)) (.slice (some ⟨w.heap.size,0,none⟩) 1 1) e it d' [ρ kr] none:=by
      refine zit hrow (r:=r) (by rw [DK.snoc_sound hd',hd]; rfl) (zdo hr fun g hg=>hgb.block g (hlt g hg) (by simp)) (fun g hg h2=>?_) (hs.hp.one kr)
      have:=hlt g hg
      simp only [Value.ownBlock,Option.some.injEq] at h2
      omega
     refine ⟨hs.hp.one kr,_,fun j=>if j=s.nk then .slice (some ⟨w.heap.size,0,none⟩) 1 1 else ρ j,h (ρ kr),?_,by simp [SV.toV]⟩
     refine hs.regroup hk (U:=[kr]) (hn:=[(s.nk,.deep true e it d' [ρ kr] none)]) (row:=none) (fun k hk=>by rw [List.mem_singleton.1 hk]; exact ⟨_,hlr,rfl⟩) hgb (fun g h=>by cases h) (fun k hk=>by simp; omega) (fun k=>?_) (fun k e' hl'=>?_) (fun k e' hl'=>?_) (fun k e' hl' g hg=>?_) (fun k e' k' e'' hl1 hl2 hne ho g hg=>?_) (Nat.le_succ _)
     ·split
      ·rfl
      ·exact hs.hp.one k
     ·rw [z0g] at hl'
      split at hl'
      ·rename_i e2; cases hl'; exact .inl (by rw [z0g,if_pos e2])
      ·rename_i e2
       rw [zkn] at hl'
       split at hl'
       ·cases hl'
       ·rename_i e3; exact .inr ⟨by simp [e3],hl'⟩
     ·obtain ⟨rfl,rfl⟩:=z5z hl'
      simp only [if_true]
      exact hdeep
     ·obtain ⟨rfl,rfl⟩:=z5z hl'
      simp only [if_true] at hg
      rcases hg with hg | ⟨i,u,_,h2,h3⟩
      ·simp only [Value.ownBlock,Option.some.injEq] at hg
       exact .inr (.inl (by omega))
      ·have:=List.mem_of_getElem? h2
       rw [List.mem_singleton.1 this] at h3
       exact .inl ⟨kr,_,by simp,hlr,h3⟩
     ·obtain ⟨rfl,_⟩:=z5z hl1
      obtain ⟨rfl,_⟩:=z5z hl2
      exact absurd rfl hne
   ·exact h.elim
  ·exact h.elim
 ·rename_i u
  cases hu:zdh u with
  | false=>rw [hu] at h; exact h.elim
  | true =>
   rw [hu] at h
   simp only [cond_true] at h
   have hu:=isNil_eq hu
   subst hu
   refine ⟨rfl,?_⟩
   have hent:∀ ρ':Nat->Value,EntOk ρ' (w.alloc (.cells #[SV.toV ρ (.val (.slice none 0 0))] e)) (.slice (some ⟨w.heap.size,0,none⟩) 1 1) (.deep true e it (d.many 1) [.slice none 0 0] none):=fun ρ'=>by
    obtain ⟨r,hr,hr0⟩:∃ r,(d.many 1).rows=[r]/\r.len=0/\r.cells=[]:=by cases d <;> exact ⟨_,rfl,rfl,rfl⟩
    refine zit hrow hr ?_ (fun g hg=>by simp [Value.ownBlock] at hg) rfl
    rw [hr0.1,hr0.2]
    exact World.ownsRow_nil _ 0 it _
   have hnew:∀ g,Ent.touch (.deep true e it (d.many 1) [.slice none 0 0] none) (.slice (some ⟨w.heap.size,0,none⟩) 1 1) g->w.heap.size <= g:=fun g hg=>by
    rcases hg with hg | ⟨i,u,_,h2,h3⟩
    ·simp only [Value.ownBlock,Option.some.injEq] at hg; omega
    ·have:=List.mem_of_getElem? h2
     rw [List.mem_singleton.1 this] at h3
     simp [Value.ownBlock] at h3
   obtain ⟨ρ',h1,h2,h3⟩:=hs.newEnt hk hgb hent rfl hnew
   exact ⟨_,ρ',h,h1,by simp [SV.toV,h2]⟩
 ·exact h.elim
theorem wide_sound (hT:z5w P T) {o:Oper} {ty e:TypeId} {len:Nat} {parts:Array (Nat × Operand)} (ho:o.op = .buildSlice ty len parts) {zs:List Z} {ag:Bool} {fs:List (Nat × Nat × Bool)} {rk:RK} {bt:Nat} {ik:Option IntKind} {eqs:List IntKind}
  (hti:lk ty T=some ⟨zs,ag,fs,some (e,rk,bt),ik,eqs⟩) (hs:Sym B w0 S0 N n0 ρ0 ρ s a w) {vs:List SV} (hv:(parts.toList.map (·.2)).map a.eval=z0s ρ vs) (k2:parts.toList.map (·.1)=List.range len) (k3:len <= 1000) (k4:0<len) (k1:s.kb=true) (k5:kbs s.nk vs=true) (k6:allW rk.width vs=true)
  {K:St->Prop} (h:z1q N o.dst (.row s.nk) { tm:=s.tm,hp:=(s.nk,.vec e vs) :: s.hp,nk:=s.nk+1 } K)
  {K':Act->World->Prop} {Q:Exit->Act->World->Prop} (hK:∀ s' ρ' a' w',Sym B w0 S0 N n0 ρ0 ρ' s' a' w'->K s'->K' a' w'):o.wp P a w K' Q:=by
 have hvl:vs.length=len:=by
  have h1:=congrArg List.length hv
  have h2:=congrArg List.length k2
  simp [z0u] at h1 h2; omega
 obtain ⟨ρ',hs',hv'⟩:=hs.newVec k1 (e:=e) (cs:=vs) k5
 refine z11 ?_ (z0a h hs' hK)
 rw [hv',hvl]
 refine run_buildWide hT ho hti hv k2 k3 k4 (fun u hu=>?_) w
 rw [z0u] at hu
 obtain ⟨c,hc,rfl⟩:=List.mem_map.1 hu
 obtain ⟨c1,c2⟩:=zjb k6 c hc
 rw [z5l c c2 hs.hp.one]
 simp [z0u,c1]
theorem zhk (hT:z5w P T) {o:Oper} {ty:TypeId} {len:Nat} {parts:Array (Nat × Operand)} {K:St->Prop} (ho:o.op = .buildSlice ty len parts) {Γ:z0c} (h:z3h T Γ N o s K) (hs:Sym B w0 S0 N n0 ρ0 ρ s a w)
  {K':Act->World->Prop} {Q:Exit->Act->World->Prop} (hK:∀ s' ρ' a' w',Sym B w0 S0 N n0 ρ0 ρ' s' a' w'->K s'->K' a' w'):o.wp P a w K' Q:=by
 unfold z3h at h
 rw [ho] at h
 simp only at h
 split at h
 ·rename_i zs ag fs e rk bt ik eqs vs hti hv
  have hv:=z4m hs hv
  split at h
  ·rename_i r hr
   cases hb:(s.kb && z9m (parts.toList.map (·.1)) (List.range len) && Nat.ble len 1000) with
   | false=>rw [hb] at h; exact h.elim
   | true =>
    rw [hb] at h
    simp only [cond_true] at h
    simp only [Bool.and_eq_true] at hb
    obtain ⟨⟨k1,k2⟩,k3⟩:=hb
    have k2:=z9n k2
    have k3:=z8y k3
    obtain ⟨hu,hb64,i,hi,hz,hsz,hby⟩:=z5v hT hti rfl
    obtain ⟨c1,c2,c3,c4⟩:=znj ρ hr
    have hwl:=zew rk
    have hlen:parts.size=len:=by have:=congrArg List.length k2; simpa using this
    have hvl:vs.length=len:=by
     have:=congrArg List.length hv
     simp [z0u] at this; omega
    rw [empty_len,Nat.zero_add,hvl] at c2
    rw [zjz,List.nil_append] at c1
    rw [empty_width] at c3 c4
    have hcell:∀ v ∈ z0s ρ vs,v.cells.size=rk.width:=by
     intro v hv
     rw [z0u,List.mem_map] at hv
     obtain ⟨u,hu,rfl⟩:=hv
     have:=c4 u hu
     rw [z5l u this.2 hs.hp.one]
     simp [z0u,this.1]
    have hparts:(parts.map fun (i,x)=>(i,a.eval x)).toList=(List.range' 0 (z0s ρ vs).length).zip (z0s ρ vs):=by
     have e1:(z0s ρ vs).length=len:=by simp [z0u,hvl]
     rw [e1,<- List.range_eq_range',<- k2,<- hv]
     simp only [Array.toList_map]
     generalize parts.toList=l
     induction l with
     | nil=>rfl
     | cons p l ih=>simp only [List.map_cons,List.zip_cons_cons,ih]
    have hflat:(z0s ρ vs).flatMap (fun v=>v.cells.toList)=r.cells:=by
     rw [c1]
     have:∀ l:List SV,(∀ v ∈ l,z2s v.cells=true)->(z0s ρ l).flatMap (fun v=>v.cells.toList)=l.flatMap (fun v=>z0s ρ v.cells):=by
      intro l
      induction l with
      | nil=>intro _; rfl
      | cons v l ih =>
       intro hl
       rw [z0s,List.flatMap_cons,List.flatMap_cons,ih (fun u hu=>hl u (by simp [hu])),z5l v (hl v (by simp)) hs.hp.one]
     exact this vs fun v hv=>(c4 v hv).2
    have hfill:∀ cells:Array Value,cells.size=len * rk.width->Instr.fill (fun i=>some (i * rk.width,rk.width)) cells (parts.map fun (i,x)=>(i,a.eval x)).toList=some r.cells.toArray:=by
     intro cells hc
     rw [hparts,zhv rk.width (z0s ρ vs) 0 cells (by rw [hc]; simp [z0u,hvl]) hcell,hflat]
     simp
    have hmul:len * rk.width <= 1000 * 5:=Nat.mul_le_mul k3 hwl.2
    obtain ⟨ρ',hs',hv'⟩:=hs.newRow k1 (e:=e) (r:=r) (v:=.slice (some ⟨w.heap.size,0,none⟩) r.len r.len) (World.grownBy_alloc w (.cells r.cells.toArray e) none) (ownsRow_new w e r _ rfl (by rw [c2]; simp only [maxLen]; omega)) rfl (fun g hg=>by cases hg; exact Nat.le_refl _)
    refine z11 ?_ (z0a h hs' hK)
    rw [hv',c2]
    have hn:¬ (2 ^ 24<len * rk.width):=by omega
    by_cases h0:len * rk.width=0
    ·have hf:=hfill ((Array.range (len * rk.width)).map ((#[]:Array Value)[· % (#[]:Array Value).size]!)) (by simp)
     simp [execOp,ho,Instr.buildSlice,run_underlying hu,sizeOf,typeInfo,hi,hsz,h0,newRow]
     simp [h0] at hf
     rw [hf]
     simp
    ·have hf:=hfill ((Array.range (len * rk.width)).map (rk.zero.cells[· % rk.zero.cells.size]!)) (by simp)
     simp only [execOp,ho,Instr.buildSlice,Sem.run_bind,run_underlying hu,sizeOf,typeInfo,hi,hsz,newRow,Result.andThen_ok]
     simp [hsz,hn,h0,zeroValue,typeInfo,hi,hz]
     simp at hf
     rw [hf]
     simp
  ·split at h
   ·rename_i it rr d _ hin
    split at h
    ·rename_i v _ _
     cases hb:(s.kb && z9m (parts.toList.map (·.1)) (List.range len) && Nat.beq len 1) with
     | false=>rw [hb] at h; exact h.elim
     | true =>
      rw [hb] at h
      simp only [cond_true] at h
      simp only [Bool.and_eq_true] at hb
      obtain ⟨⟨k1,k2⟩,k3⟩:=hb
      have k2:=z9n k2
      have k3:=z10 k3
      subst k3
      obtain ⟨h1,s',ρ',h,hs',hv'⟩:=deepLit_sound h hs k1 (inner_rows hin)
      have hv1:(parts.toList.map (·.2)).map a.eval=[v.toV ρ]:=by rw [hv]; rfl
      refine z11 ?_ (z0a h hs' hK)
      rw [hv']
      exact run_buildOnes hT ho hti rfl hv1 k2 (by omega) (by omega) (by simp [h1]) w
    ·rename_i hne
     cases hb:((RK.slice it rr).isFn && s.kb && kbs s.nk vs && allW (RK.slice it rr).width vs && z9m (parts.toList.map (·.1)) (List.range len) && Nat.ble len 1000 && Nat.blt 0 len) with
     | false=>rw [hb] at h; exact h.elim
     | true =>
      rw [hb] at h
      simp only [cond_true] at h
      simp only [Bool.and_eq_true] at hb
      obtain ⟨⟨⟨⟨⟨⟨k0,k1⟩,k5⟩,k6⟩,k2⟩,k3⟩,k4⟩:=hb
      exact wide_sound hT ho hti hs hv (z9n k2) (z8y k3) (z1z k4) k1 k5 k6 h hK
   ·rename_i rk _ _ _ _
    cases hb:(rk.isFn && s.kb && kbs s.nk vs && allW rk.width vs && z9m (parts.toList.map (·.1)) (List.range len) && Nat.ble len 1000 && Nat.blt 0 len) with
    | false=>rw [hb] at h; exact h.elim
    | true =>
     rw [hb] at h
     simp only [cond_true] at h
     simp only [Bool.and_eq_true] at hb
     obtain ⟨⟨⟨⟨⟨⟨k0,k1⟩,k5⟩,k6⟩,k2⟩,k3⟩,k4⟩:=hb
     exact wide_sound hT ho hti hs hv (z9n k2) (z8y k3) (z1z k4) k1 k5 k6 h hK
 ·exact h.elim
theorem made_flat (z:Array Value) (hz:0<z.size) (n:Nat):(madeCells z (n * z.size)).toList=(List.replicate n ()).flatMap fun _=>z.toList:=by
 apply List.ext_getElem?
 intro j
 by_cases hj:j<n * z.size
 ·have hd:j / z.size<n:=Nat.div_lt_of_lt_mul (by rw [Nat.mul_comm]; exact hj)
  have hm:=Nat.mod_lt j hz
  have:=zhw (fun _:Unit=>z.toList) z.size (fun _=>by simp) (List.replicate n ()) (j / z.size) () (by simp [hd]) (j % z.size) hm
  rw [Nat.mul_comm,Nat.div_add_mod] at this
  rw [this]
  simp [madeCells,hj,hm]
 ·rw [List.getElem?_eq_none (by simp [madeCells]; omega),List.getElem?_eq_none]
  rw [List.length_flatMap]
  simp
  omega
theorem zfo (rk:RK) (hk:rk.isFn=false) (n:Nat):(rk.many n).cells=(List.replicate n ()).flatMap fun _=>rk.zero.cells.toList:=by
 cases rk with
 | int k=>simp only [RK.many,Row.cells,z76]; induction n with | zero=>rfl | succ n ih=>simp only [List.replicate_succ,List.flatMap_cons,ih]; rfl
 | bool=>simp only [RK.many,Row.cells,z76]; induction n with | zero=>rfl | succ n ih=>simp only [List.replicate_succ,List.flatMap_cons,ih]; rfl
 | arc=>simp only [RK.many,Row.cells]; induction n with | zero=>rfl | succ n ih=>simp only [List.replicate_succ,List.flatMap_cons,ih]; rfl
 | wide=>simp only [RK.many,Row.cells]; induction n with | zero=>rfl | succ n ih=>simp only [List.replicate_succ,List.flatMap_cons,ih]; rfl
 | fn=>cases hk
 | slice it r=>cases hk
 | obj v vs=>cases hk
 | recs k ks =>
  have e:∀ l:List MK,recV l (zs0 l)=recV l []:=by
   intro l
   induction l with
   | nil=>rfl
   | cons k l ih=>simp only [recV,zs0,List.headD_cons,List.tail_cons,List.headD_nil,List.tail_nil,ih]
  simp only [RK.many,Row.cells]
  induction n with
  | zero=>rfl
  | succ n ih=>simp only [List.replicate_succ,List.flatMap_cons,ih,e]; rfl
theorem zdi (rk:RK) (n:Nat):(rk.many n).len=n:=by cases rk <;> simp [RK.many,Row.len]
theorem z7n (rk:RK) (n:Nat):(rk.many n).width=rk.width:=by
 cases rk with
 | obj v vs=>exact obj_width v vs
 | _=>rfl
theorem zkq (hT:z5w P T) {o:Oper} {ty:TypeId} {l c:Operand} {K:St->Prop} (ho:o.op = .makeSlice ty l c) {Γ:z0c} (h:z3h T Γ N o s K) (hs:Sym B w0 S0 N n0 ρ0 ρ s a w)
  {K':Act->World->Prop} {Q:Exit->Act->World->Prop} (hK:∀ s' ρ' a' w',Sym B w0 S0 N n0 ρ0 ρ' s' a' w'->K s'->K' a' w'):o.wp P a w K' Q:=by
 unfold z3h at h
 rw [ho] at h
 simp only at h
 split at h
 ·rename_i zs ag fs e it rr bt ik eqs k n k' m hti h1 h2
  have h1:=z0i hs h1
  have h2:=z0i hs h2
  split at h
  ·rename_i d hin
   cases hb:s.kb with
   | false=>rw [hb] at h; exact h.elim
   | true =>
    rw [hb] at h
    simp only [cond_true] at h
    obtain ⟨⟨rfl,h0,hle⟩,h⟩:=h
    obtain ⟨hu,hb64,i,hi,hz,hsz,hby⟩:=z5v hT hti rfl
    have hbytes:(i.bytes:Int) * n <= 281474976710656:=by
     have:(i.bytes:Int) * n <= 128 * 1000000000:=Int.mul_le_mul (by rw [hby]; omega) hle h0 (by omega)
     omega
    have hrun:=run_make (P:=P) w ty e i (.slice none 0 0) hu hi hz k k' n n h0 (Int.le_refl _) hbytes (by omega)
    have hcs:madeCells (Value.slice none 0 0).cells (n.toNat * i.size)=(List.replicate n.toNat (Value.slice none 0 0)).toArray:=by
     apply Array.toList_inj.1
     have e1:i.size=(Value.slice none 0 0).cells.size:=by rw [hsz]; rfl
     rw [e1,made_flat _ (by decide)]
     generalize n.toNat=m
     induction m with
     | zero=>rfl
     | succ m ih=>simp only [List.replicate_succ,List.flatMap_cons,ih]; rfl
    rw [hcs] at hrun
    have hent:∀ ρ':Nat->Value,EntOk ρ' (w.alloc (.cells (List.replicate n.toNat (Value.slice none 0 0)).toArray e)) (.slice (some ⟨w.heap.size,0,none⟩) n.toNat n.toNat) (.deep true e it (d.many n.toNat) (List.replicate n.toNat (.slice none 0 0)) none):=fun ρ'=>by
     have hrows:∃ r:Row,(d.many n.toNat).rows=List.replicate n.toNat r/\r.len=0/\r.cells=[]:=by
      cases d with
      | ints k xs=>exact ⟨.ints k [],by simp [DK.many,DK.rows],rfl,rfl⟩
      | bools xs=>exact ⟨.bools [],by simp [DK.many,DK.rows],rfl,rfl⟩
      | recs k ks xs=>exact ⟨.recs k ks [],by simp [DK.many,DK.rows],rfl,rfl⟩
     obtain ⟨r,hr,hr1,hr2⟩:=hrows
     have hnil:∀ (i:Nat) (u:Value),(List.replicate n.toNat (Value.slice none 0 0))[i]? = some u->u = .slice none 0 0:=fun i u h=>(List.mem_replicate.1 (List.mem_of_getElem? h)).2
     refine ⟨⟨by simp,.inr ⟨w.heap.size,n.toNat,_,by simp,Nat.zero_le _,heap_alloc_new w _,by simp,by simp only [maxLen]; omega,by simp,by simp⟩⟩,by simp [hr],fun i r' u h h' _=>?_,fun i j u u' h h' _ _ _ g hg=>?_,fun u h=>?_⟩
     ·rw [hnil i u h']
      rw [hr] at h
      rw [(List.mem_replicate.1 (List.mem_of_getElem? h)).2,hr1,hr2]
      exact ⟨World.ownsRow_nil _ 0 it _,fun g hg=>by simp [Value.ownBlock] at hg⟩
     ·rw [hnil i u h] at hg; simp [Value.ownBlock] at hg
     ·rw [(List.mem_replicate.1 h).2]; rfl
    have hnew:∀ g,Ent.touch (.deep true e it (d.many n.toNat) (List.replicate n.toNat (.slice none 0 0)) none) (.slice (some ⟨w.heap.size,0,none⟩) n.toNat n.toNat) g->w.heap.size <= g:=fun g hg=>by
     rcases hg with hg | ⟨i,u,_,h2,h3⟩
     ·simp only [Value.ownBlock,Option.some.injEq] at hg; omega
     ·rw [(List.mem_replicate.1 (List.mem_of_getElem? h2)).2] at h3
      simp [Value.ownBlock] at h3
    obtain ⟨ρ',hs',hv',_⟩:=hs.newEnt hb (World.grownBy_alloc w (.cells (List.replicate n.toNat (Value.slice none 0 0)).toArray e) none) hent rfl hnew
    refine z11 ?_ (z0a h hs' hK)
    simp only [SV.toV] at h1 h2 ⊢
    rw [hv']
    simp [execOp,ho,h1,h2,hrun]
  ·exact h.elim
 ·rename_i zs ag fs e rk bt ik eqs k n k' m hnsl hti h1 h2
  have h1:=z0i hs h1
  have h2:=z0i hs h2
  cases hb0:(s.kb && !rk.isFn) with
  | false=>rw [hb0] at h; exact h.elim
  | true =>
   rw [hb0] at h
   simp only [cond_true] at h
   simp only [Bool.and_eq_true,Bool.not_eq_true'] at hb0
   obtain ⟨hb,hnf⟩:=hb0
   obtain ⟨hc0,h⟩:=h
   have hnm:0 <= n/\n <= m/\m <= 1000000000:=by
    cases hso:sameO l c with
    | true=>rw [hso] at hc0; simp only [cond_true] at hc0; omega
    | false=>rw [hso] at hc0; simp only [cond_false] at hc0; exact hc0
   obtain ⟨h0,hle0,hle⟩:=hnm
   obtain ⟨hu,hb64,i,hi,hz,hsz,hby⟩:=z5v hT hti rfl
   have hbytes:(i.bytes:Int) * m <= 281474976710656:=by
    have:(i.bytes:Int) * m <= 128 * 1000000000:=Int.mul_le_mul (by rw [hby]; omega) hle (by omega) (by omega)
    omega
   have hrun:=run_make (P:=P) w ty e i rk.zero hu hi hz k k' n m h0 hle0 hbytes (by omega)
   have hcs:madeCells rk.zero.cells (m.toNat * i.size)=(rk.many m.toNat).cells.toArray:=by
    apply Array.toList_inj.1
    rw [zfo rk hnf,hsz,<- zex rk]
    exact made_flat _ (by rw [zex]; exact (zew rk).1) _
   rw [hcs] at hrun
   have hle2:n.toNat <= m.toNat:=by omega
   have htake:(rk.many m.toNat).cells.take (n.toNat * rk.width)=(rk.many n.toNat).cells:=by
    have e1:=zfo rk hnf m.toNat
    have e2:=zfo rk hnf n.toNat
    obtain ⟨q,hq⟩:∃ q,m.toNat=n.toNat+q:=⟨m.toNat - n.toNat,by omega⟩
    rw [hq] at e1 ⊢
    rw [<- List.replicate_append_replicate,List.flatMap_append,<- e2] at e1
    rw [e1,List.take_append_of_le_length (by rw [Row.cells_len,zdi,z7n]; exact Nat.le_refl _)]
    exact List.take_of_length_le (by rw [Row.cells_len,zdi,z7n]; exact Nat.le_refl _)
   have hown:(w.alloc (.cells (rk.many m.toNat).cells.toArray e)).ownsRow 0 e (rk.many n.toNat).width (.slice (some ⟨w.heap.size,0,none⟩) n.toNat m.toNat) (rk.many n.toNat).len (rk.many n.toNat).cells:=by
    rw [zdi,z7n]
    refine ⟨by rw [Row.cells_len,zdi,z7n],.inr ⟨w.heap.size,m.toNat,_,rfl,Nat.zero_le _,heap_alloc_new w _,hle2,by simp only [maxLen]; omega,?_,?_⟩⟩
    ·rw [List.size_toArray,Row.cells_len,zdi,z7n]
    ·rw [List.toList_toArray]; exact htake
   obtain ⟨ρ',hs',hv'⟩:=hs.newRow hb (e:=e) (r:=rk.many n.toNat) (v:=.slice (some ⟨w.heap.size,0,none⟩) n.toNat m.toNat) (World.grownBy_alloc w _ none) hown rfl (fun g hg=>by cases hg; exact Nat.le_refl _)
   refine z11 ?_ (z0a h hs' hK)
   rw [hv']
   simp only [SV.toV] at h1 h2
   simp [execOp,ho,h1,h2,hrun]
 ·exact h.elim
theorem app_sound {r1 r2 r:Row} (h:r1.app r2=some r):r.cells=r1.cells ++ r2.cells/\r.len=r1.len+r2.len/\r.width=r1.width/\r2.width=r1.width:=by
 cases r1 <;> cases r2 <;> simp only [Row.app] at h <;> first
  | (cases h; done)
  | (cases h; simp [Row.cells,Row.len,Row.width]; done)
  | skip
 ·rename_i k xs k' ys
  cases hk:kEq k k' with
  | false=>rw [hk] at h; cases h
  | true =>
   rw [hk] at h
   have:=z5n hk
   subst this
   cases h
   simp [Row.cells,Row.len,Row.width]
 ·rename_i k ks xs k' ks' ys
  cases hk:z9k (k :: ks) (k' :: ks') with
  | false=>rw [hk] at h; cases h
  | true =>
   rw [hk] at h
   have:=z77 hk
   cases this
   cases h
   simp [Row.cells,Row.len,Row.width]
theorem cells_one (r:Row):∀ u ∈ r.cells,u.oneCell'=true:=by
 cases r with
 | ints k xs=>intro u hu; simp only [Row.cells,List.mem_map] at hu; obtain ⟨x,_,rfl⟩:=hu; rfl
 | bools xs=>intro u hu; simp only [Row.cells,List.mem_map] at hu; obtain ⟨x,_,rfl⟩:=hu; rfl
 | arcs xs=>intro u hu; simp only [Row.cells,List.mem_flatMap] at hu; obtain ⟨x,_,hu⟩:=hu; simp only [Arc.cells,List.mem_cons,List.not_mem_nil,or_false] at hu; rcases hu with rfl | rfl | rfl | rfl | rfl <;> rfl
 | wides xs=>intro u hu; simp only [Row.cells,List.mem_flatMap] at hu; obtain ⟨x,_,hu⟩:=hu; simp only [Wide.cells,List.mem_cons,List.not_mem_nil,or_false] at hu; rcases hu with rfl | rfl <;> rfl
 | recs k ks xs=>intro u hu; simp only [Row.cells,List.mem_flatMap] at hu; obtain ⟨x,_,hu⟩:=hu; exact recV_one _ _ u hu
theorem own_one {w:World} {b e size n:Nat} {v:Value} {xs:List Value} (h:w.ownsRow b e size v n xs):v.oneCell'=true:=by
 rcases h.2 with ⟨rfl,_⟩ | ⟨g,cap,cur,rfl,_⟩ <;> rfl
theorem grownBy_any {w w':World} (h:w.grownBy w' none) (row:Option Nat):w.grownBy w' row:=⟨h.os,h.tape,h.output,h.size,fun k hk _=>h.block k hk (by simp)⟩
theorem zbj (t ty e:TypeId) (i:TypeInfo) (z:Value) (size bytes:Nat) (ht:P.underlying t=some (.slice e)) (hi:P.info? e=some i) (hz:i.zero=some z)
  (hsize:i.size=size) (hby:i.bytes=bytes) (hzs:z.cells.size=size) (hsz:0<size) (v:Value) (n:Nat) (xs:List Value) (hown:w.ownsRow 0 e size v n xs)
  (A:Option Addr) (m c:Nat) (news:List Value) (hl:news.length=m * size) (hA:0<m->∃ b off,A=some ⟨b,off,none⟩/\∀ j u,news[j]? = some u->w.cell? ⟨b,off+j,none⟩=some u)
  (h1:∀ u ∈ news,u.oneCell'=true) (h63:n+m <= maxLen) (hbytes:(n+m) * bytes <= 140737488355328) :
  ∃ v' w',(Builtin.append_ #[t,t] ty #[v,.slice A m c]).run P w = .ok v' w'/\w'.ownsRow 0 e size v' (n+m) (xs ++ news)/\w.grownBy w' v.ownBlock/\∀ g,v'.ownBlock=some g->v.ownBlock=some g ∨ w.heap.size <= g:=by
 cases A with
 | some ad =>
  have hnews:∀ j u,news[j]? = some u->w.cell? (ad.add j)=some u:=by
   intro j u hj
   have hm:0<m:=by
    apply Nat.pos_of_ne_zero
    rintro rfl
    rw [Nat.zero_mul] at hl
    have:=(List.getElem?_eq_some_iff.1 hj).1
    omega
   obtain ⟨b,off,hA',hc⟩:=hA hm
   cases hA'
   rw [Addr.add_lit]; exact hc j u hj
  rcases hown.2 with ⟨rfl,rfl⟩ | ⟨g,cap,cur,rfl,hbg,hg,hnc,hcm,hcs,htake⟩
  ·have hx:xs=[]:=List.eq_nil_of_length_eq_zero (by simpa using hown.1)
   subst hx
   obtain ⟨v',w',r1,r2,r3,_⟩:=run_append_own (P:=P) w w.heap.size t ty e i z size bytes ht hi hz hsize hby hzs hsz (.slice none 0 0) 0 [] (World.ownsRow_nil w _ e size) ad m c news hl hnews h1 h63 hbytes (Nat.le_refl _)
   exact ⟨v',w',r1,zh9 r2 (Nat.zero_le _),r3,fun g hg=>.inr (r2.lt g hg).1⟩
  ·by_cases hroom:n+m <= cap
   ·obtain ⟨v',w',r1,r2,r3,_⟩:=run_append_own (P:=P) w 0 t ty e i z size bytes ht hi hz hsize hby hzs hsz _ n xs hown ad m c news hl hnews h1 h63 hbytes (Nat.zero_le _)
    have hr:=run_append_room (P:=P) w t ty e i ht hi g n cap cur hg ad m c news (by rw [hl,hsize]) hnews h1 hroom (by
     rw [hcs,hl,hsize,<- Nat.add_mul]; exact Nat.mul_le_mul_right _ hroom)
    rw [r1] at hr
    injection hr with e1 e2
    subst e1
    exact ⟨_,w',r1,r2,r3,fun g' hg'=>.inl hg'⟩
   ·obtain ⟨v',w',r1,r2,r3⟩:=run_append_arg_grows (P:=P) w t ty e i z size bytes ht hi hz hsize hby hzs hsz ⟨g,0,none⟩ n cap xs hown.1 (fun j u hj=>hown.cells rfl j u hj) ad m c news hl hnews (by omega) h63 hbytes
    exact ⟨v',w',r1,zh9 r2 (Nat.zero_le _),grownBy_any r3 _,fun g hg=>.inr (r2.lt g hg).1⟩
 | none =>
  have hm:m=0:=by
   apply Classical.byContradiction
   intro h
   obtain ⟨b,off,hA',_⟩:=hA (by omega)
   cases hA'
  subst hm
  have hn:news=[]:=List.eq_nil_of_length_eq_zero (by simpa using hl)
  subst hn
  refine ⟨v,w,?_,by simpa using hown,z4h w _,fun g hg=>.inl hg⟩
  rcases hown.2 with ⟨rfl,rfl⟩ | ⟨g,cap,cur,rfl,hbg,hg,hnc,hcm,hcs,htake⟩
  ·simp [Builtin.append_,run_underlying ht,sizeOf,typeInfo,hi,Builtin.lenOf,Builtin.firstCells]
  ·simp [Builtin.append_,run_underlying ht,sizeOf,typeInfo,hi,Builtin.lenOf,Builtin.firstCells,hnc,storeCells]
theorem appendS_sound (hT:z5w P T) {t:TypeId} {x y:SV} {K:SV->St->Prop} (h:appendS T s t x y K) (hs:Sym B w0 S0 N n0 ρ0 ρ s a w) (ty:TypeId) :
  ∃ v s' ρ' w',K v s'/\Sym B w0 S0 N n0 ρ0 ρ' s' a w'/\(Builtin.append_ #[t,t] ty #[x.toV ρ,y.toV ρ]).run P w = .ok (v.toV ρ') w':=by
 unfold appendS at h
 split at h
 ·rename_i zs ag fs e rk bt ik eqs kx ky hti
  split at h
  ·rename_i tx r1 o2 t2 r2 h1 h2
   split at h
   ·rename_i r hr
    cases hb:(s.kb && Nat.beq tx e && Nat.beq rk.width r1.width && !Nat.beq kx ky) with
    | false=>rw [hb] at h; exact h.elim
    | true =>
     rw [hb] at h
     simp only [cond_true] at h
     simp only [Bool.and_eq_true] at hb
     obtain ⟨⟨⟨k1,k2⟩,k3⟩,k4⟩:=hb
     have k2:=z10 k2
     have k3:=z10 k3
     subst k2
     obtain ⟨hle,h⟩:=h
     obtain ⟨hu,hb64,i,hi,hz,hsz,hby⟩:=z5v hT hti rfl
     obtain ⟨a1,a2,a3,a4⟩:=app_sound hr
     have e1:=hs.hp.ent kx _ h1
     obtain ⟨A,c,hv2,hlc2,hA⟩:=EntOk.reads (hs.hp.ent ky _ h2)
     have e1':w.ownsRow 0 tx r1.width (ρ kx) r1.len r1.cells:=e1
     rw [<- k3] at e1'
     obtain ⟨v',w',hrun,hown,hg,hblk⟩:=zbj (P:=P) (w:=w) t ty tx i rk.zero rk.width bt hu hi hz hsz hby (zex rk) (zew rk).1 (ρ kx) r1.len r1.cells e1' A r2.len c r2.cells (by rw [Row.cells_len,a4,k3]) hA (cells_one r2) (by simp only [maxLen]; omega)
      (Nat.le_trans (Nat.mul_le_mul hle hb64) (by decide))
     refine ⟨_,_,_,w',h,hs.move k1 h1 rfl hg (fun g hgg=>hgg) (own_one hown) (e':=.row true tx r) rfl ?_ (fun g hgg=>?_),?_⟩
     ·show w'.ownsRow 0 tx r.width v' r.len r.cells
      rw [a1,a2,a3,<- k3]; exact hown
     ·exact hblk g hgg
     ·simp only [SV.toV,if_true]
      rw [hv2]; exact hrun
   ·exact h.elim
  ·rename_i tx it d1 vs1 t2 it' d2 vs2 h1 h2
   split at h
   ·rename_i d hd
    cases hb:(s.kb && Nat.beq tx e && Nat.beq it it' && Nat.beq rk.width 1 && !Nat.beq kx ky) with
    | false=>rw [hb] at h; exact h.elim
    | true =>
     rw [hb] at h
     simp only [cond_true] at h
     simp only [Bool.and_eq_true,Bool.not_eq_true'] at hb
     obtain ⟨⟨⟨⟨k1,k2⟩,k3⟩,k4⟩,k5⟩:=hb
     have k2:=z10 k2
     have k3:=z10 k3
     have k4:=z10 k4
     have k5:=beq_ne k5
     subst k2; subst k3
     obtain ⟨hle,h⟩:=h
     obtain ⟨hu,hb64,i,hi,hz,hsz,hby⟩:=z5v hT hti rfl
     have e1:DeepOwn w (ρ kx) tx it d1 vs1 none:=hs.hp.ent kx _ h1
     have e2:DeepOwn w (ρ ky) t2 it d2 vs2 none:=hs.hp.ent ky _ h2
     have l1:vs1.length=d1.len:=by rw [<- e1.len,d1.rows_len]
     have l2:vs2.length=d2.len:=by rw [<- e2.len,d2.rows_len]
     obtain ⟨A,c,hv2,hlc2,hA⟩:=zar rfl e2.row
     obtain ⟨v',w',hrun,hown,hg,hblk⟩:=zbj (P:=P) (w:=w) t ty tx i rk.zero rk.width bt hu hi hz hsz hby (zex rk) (zew rk).1 (ρ kx) vs1.length vs1 (by rw [k4]; exact e1.row) A vs2.length c vs2 (by rw [k4]; simp) hA e2.one (by simp only [maxLen]; omega)
      (Nat.le_trans (Nat.mul_le_mul (show vs1.length+vs2.length <= 1000000000 by omega) hb64) (by decide))
     rw [k4] at hown
     have hsep:∀ g,Ent.touch (.deep true tx it d1 vs1 none) (ρ kx) g->¬ Ent.touch (.deep true t2 it d2 vs2 none) (ρ ky) g:=hs.hp.sep kx _ ky _ h1 h2 k5 rfl
     have hdr:=DK.app_sound hd
     have hget:∀ (j:Nat) (u:Value),(vs1 ++ vs2)[j]? = some u->vs1[j]? = some u ∨ (vs1.length <= j/\vs2[j - vs1.length]? = some u):=by
      intro j u h
      rcases Nat.lt_or_ge j vs1.length with hj | hj
      ·rw [List.getElem?_append_left hj] at h; exact .inl h
      ·rw [List.getElem?_append_right hj] at h; exact .inr ⟨hj,h⟩
     have hgetr:∀ (j:Nat) (r:Row),(d1.rows ++ d2.rows)[j]? = some r->(j<vs1.length/\d1.rows[j]? = some r) ∨ (vs1.length <= j/\d2.rows[j - vs1.length]? = some r):=by
      intro j r h
      rcases Nat.lt_or_ge j vs1.length with hj | hj
      ·rw [List.getElem?_append_left (by rw [e1.len]; exact hj)] at h; exact .inl ⟨hj,h⟩
      ·rw [List.getElem?_append_right (by rw [e1.len]; exact hj),e1.len] at h; exact .inr ⟨hj,h⟩
     have t1:∀ (j:Nat) (u:Value) g,vs1[j]? = some u->u.ownBlock=some g->Ent.touch (.deep true tx it d1 vs1 none) (ρ kx) g:=fun j u g h h'=>.inr ⟨j,u,by simp,h,h'⟩
     have t2':∀ (j:Nat) (u:Value) g,vs2[j]? = some u->u.ownBlock=some g->Ent.touch (.deep true t2 it d2 vs2 none) (ρ ky) g:=fun j u g h h'=>.inr ⟨j,u,by simp,h,h'⟩
     have old:∀ g,Ent.touch (.deep true tx it d1 vs1 none) (ρ kx) g ∨ Ent.touch (.deep true t2 it d2 vs2 none) (ρ ky) g->g<w.heap.size:=fun g h=>h.elim (fun h=>(hs.hp.ent kx _ h1).lt h) (fun h=>(hs.hp.ent ky _ h2).lt h)
     have keep:∀ (u:Value) (r:Row),w.ownsRow 0 it r.width u r.len r.cells->(∀ g,u.ownBlock=some g->(ρ kx).ownBlock ≠ some g)->w'.ownsRow 0 it r.width u r.len r.cells/\∀ g,u.ownBlock=some g->v'.ownBlock ≠ some g:=by
      intro u r hr hne
      have hlt:∀ g,u.ownBlock=some g->g<w.heap.size:=fun g hg=>(World.ownsRow.lt hr g hg).2
      refine ⟨zdo hr fun g hgu=>hg.block g (hlt g hgu) (fun e=>hne g hgu e.symm),fun g hgu hgv=>?_⟩
      rcases hblk g hgv with h | h
      ·exact hne g hgu h
      ·have:=hlt g hgu; omega
     have hdeep:DeepOwn w' v' tx it d (vs1 ++ vs2) none:=by
      refine ⟨by rw [List.length_append]; exact hown,by rw [hdr,List.length_append,List.length_append,e1.len,e2.len],fun j r u h h' _=>?_,fun j j' u u' h h' hne _ _ g hgu hgu'=>?_,fun u h=>(List.mem_append.1 h).elim (e1.one u) (e2.one u)⟩
      ·rw [hdr] at h
       rcases hget j u h' with h' | ⟨hj,h'⟩ <;> rcases hgetr j r h with ⟨hj2,h⟩ | ⟨hj2,h⟩
       ·exact keep u r (e1.at_ j r u h h' (by simp)).1 (e1.at_ j r u h h' (by simp)).2
       ·have:=(List.getElem?_eq_some_iff.1 h').1; omega
       ·omega
       ·exact keep u r (e2.at_ _ r u h h' (by simp)).1 (fun g hgu hgx=>hsep g (.inl hgx) (t2' _ u g h' hgu))
      ·rcases hget j u h with h | ⟨hj,h⟩ <;> rcases hget j' u' h' with h' | ⟨hj',h'⟩
       ·exact e1.apart j j' u u' h h' hne (by simp) (by simp) g hgu hgu'
       ·exact hsep g (t1 _ u g h hgu) (t2' _ u' g h' hgu')
       ·exact hsep g (t1 _ u' g h' hgu') (t2' _ u g h hgu)
       ·exact e2.apart _ _ u u' h h' (by omega) (by simp) (by simp) g hgu hgu'
     refine ⟨_,_,fun j=>if j=s.nk then v' else ρ j,w',h,?_,by simp only [SV.toV,if_true]; rw [hv2]; exact hrun⟩
     refine hs.regroup k1 (U:=[kx,ky]) (hn:=[(s.nk,.deep true tx it d (vs1 ++ vs2) none)]) (row:=(ρ kx).ownBlock) (fun k hk=>?_) hg (fun g hgx=>⟨kx,_,by simp,h1,.inl hgx⟩) (fun k hk=>by simp; omega) (fun k=>?_) (fun k e' hl'=>?_) (fun k e' hl'=>?_) (fun k e' hl' g hg=>?_) (fun k e' k' e'' hl1 hl2 hne ho g hg=>?_) (Nat.le_succ _)
     ·rcases List.mem_cons.1 hk with rfl | hk
      ·exact ⟨_,h1,rfl⟩
      ·rw [List.mem_singleton.1 hk]; exact ⟨_,h2,rfl⟩
     ·split
      ·exact own_one hown
      ·exact hs.hp.one k
     ·rw [z0g] at hl'
      split at hl'
      ·rename_i e2; cases hl'; exact .inl (by rw [z0g,if_pos e2])
      ·rename_i e2
       rw [zkn] at hl'
       split at hl'
       ·cases hl'
       ·rename_i e3
        rw [zkn] at hl'
        split at hl'
        ·cases hl'
        ·rename_i e4; exact .inr ⟨by simp [e3,e4],hl'⟩
     ·obtain ⟨rfl,rfl⟩:=z5z hl'
      simp only [if_true]
      exact hdeep
     ·obtain ⟨rfl,rfl⟩:=z5z hl'
      simp only [if_true] at hg
      rcases hg with hg | ⟨j,u,_,h3,h4⟩
      ·rcases hblk g hg with h | h
       ·exact .inl ⟨kx,_,by simp,h1,.inl h⟩
       ·exact .inr (.inl h)
      ·rcases hget j u h3 with h3 | ⟨_,h3⟩
       ·exact .inl ⟨kx,_,by simp,h1,t1 _ u g h3 h4⟩
       ·exact .inl ⟨ky,_,by simp,h2,t2' _ u g h3 h4⟩
     ·obtain ⟨rfl,_⟩:=z5z hl1
      obtain ⟨rfl,_⟩:=z5z hl2
      exact absurd rfl hne
   ·exact h.elim
  ·exact h.elim
 ·exact h.elim
end
end Go.Vc
end
section
namespace Go.Vc
open Go Go.RowKit Go.Ql Go.Draw
section
variable {P:Program} {T:Tys} {B:Defs} {w0:World} {S0:Foot} {N n0:Nat} {ρ0:Nat->Value} {ρ:Nat->Value} {s:St} {a:Act} {w:World}
theorem z4p {α:Type} (f:α->List Value) (n:Nat) (hf:∀ x,(f x).length=n):∀ (xs:List α) (h:Nat),(xs.take h).flatMap f=(xs.flatMap f).take (h * n)
 | [],h=>by simp
 | x :: xs,0=>by simp
 | x :: xs,h+1=>by
  rw [List.take_succ_cons,List.flatMap_cons,List.flatMap_cons,z4p f n hf xs h,List.take_append,hf,Nat.add_mul,Nat.one_mul,Nat.add_sub_cancel,List.take_of_length_le (l:=f x) (by rw [hf]; omega)]
theorem z4o {α:Type} (f:α->List Value) (n:Nat) (hf:∀ x,(f x).length=n):∀ (xs:List α) (h:Nat),(xs.drop h).flatMap f=(xs.flatMap f).drop (h * n)
 | [],h=>by simp
 | x :: xs,0=>by simp
 | x :: xs,h+1=>by
  rw [List.drop_succ_cons,List.flatMap_cons,z4o f n hf xs h,List.drop_append,hf,Nat.add_mul,Nat.one_mul,Nat.add_sub_cancel,List.drop_of_length_le (l:=f x) (by rw [hf]; omega),List.nil_append]
theorem sub_cells (r:Row) (l h:Nat):(r.sub l h).cells=(r.cells.take (h * r.width)).drop (l * r.width):=by
 cases r with
 | ints k xs=>simp only [Row.sub,Row.cells,Row.width,z76]; rw [z4o _ 1 (fun _=>rfl),z4p _ 1 (fun _=>rfl)]
 | bools xs=>simp only [Row.sub,Row.cells,Row.width,z76]; rw [z4o _ 1 (fun _=>rfl),z4p _ 1 (fun _=>rfl)]
 | arcs xs=>simp only [Row.sub,Row.cells,Row.width]; rw [z4o _ 5 (fun _=>rfl),z4p _ 5 (fun _=>rfl)]
 | wides xs=>simp only [Row.sub,Row.cells,Row.width]; rw [z4o _ 2 (fun _=>rfl),z4p _ 2 (fun _=>rfl)]
 | recs k ks xs=>simp only [Row.sub,Row.cells,Row.width]; rw [z4o _ _ (z3m (z81 k ks)),z4p _ _ (z3m (z81 k ks))]
theorem sub_len (r:Row) (l h:Nat):(r.sub l h).len=min h r.len - l:=by cases r <;> simp [Row.sub,Row.len]
theorem sub_width (r:Row) (l h:Nat):(r.sub l h).width=r.width:=by cases r <;> rfl
theorem over_sound {r1 r2 r:Row} (h:r1.over r2=some r):r.cells=r2.cells.take (r1.len * r1.width) ++ r1.cells.drop (r2.len * r1.width)/\r.len=r1.len/\r.width=r1.width/\r2.width=r1.width:=by
 cases r1 <;> cases r2 <;> simp only [Row.over] at h <;> first
  | (cases h; done)
  | skip
 ·rename_i k xs k' ys
  cases hk:kEq k k' with
  | false=>rw [hk] at h; cases h
  | true =>
   rw [hk] at h
   have:=z5n hk
   subst this
   cases h
   simp only [Row.cells,Row.len,Row.width,Nat.mul_one,List.map_append,List.map_take,List.map_drop,List.length_append,List.length_take,List.length_drop,and_true,true_and]
   omega
 ·rename_i xs ys
  cases h
  simp only [Row.cells,Row.len,Row.width,Nat.mul_one,List.map_append,List.map_take,List.map_drop,List.length_append,List.length_take,List.length_drop,and_true,true_and]
  omega
 ·rename_i xs ys
  cases h
  simp only [Row.cells,Row.len,Row.width,List.flatMap_append,List.length_append,List.length_take,List.length_drop,and_true]
  rw [z4p _ 5 (fun _=>rfl),z4o _ 5 (fun _=>rfl)]
  exact ⟨rfl,by omega⟩
 ·rename_i xs ys
  cases h
  simp only [Row.cells,Row.len,Row.width,List.flatMap_append,List.length_append,List.length_take,List.length_drop,and_true]
  rw [z4p _ 2 (fun _=>rfl),z4o _ 2 (fun _=>rfl)]
  exact ⟨rfl,by omega⟩
 ·rename_i k ks xs k' ks' ys
  cases hk:z9k (k :: ks) (k' :: ks') with
  | false=>rw [hk] at h; cases h
  | true =>
   rw [hk] at h
   have:=z77 hk
   cases this
   cases h
   simp only [Row.cells,Row.len,Row.width,List.flatMap_append,List.length_append,List.length_take,List.length_drop,and_true]
   rw [z4p _ _ (z3m (z81 k ks)),z4o _ _ (z3m (z81 k ks))]
   exact ⟨rfl,by omega⟩
theorem Sym.freeze (h:Sym B w0 S0 N n0 ρ0 ρ s a w) {k:Nat} {o:Bool} {t:TypeId} {r:Row} (hl:lk k s.hp=some (.row o t r)):Sym B w0 S0 N n0 ρ0 ρ { s with hp:=Vc.put k (.row false t r) s.hp } a w:=by
 have ht:∀ g,Ent.touch (.row false t r) (ρ k) g->Ent.touch (.row o t r) (ρ k) g:=fun g hg=>by cases o <;> first | exact hg | exact hg.2
 refine ⟨h.tm,h.size,h.defers,⟨h.hp.one,fun j d hj=>?_,fun j d j' d' hj hj' hne hod g htg=>?_⟩,h.fr,fun j d hj g htg=>?_,h.le,h.base⟩
 ·simp only [z51] at hj
  split at hj
  ·rename_i e; subst e; cases hj; exact (h.hp.ent j _ hl).reads
  ·exact h.hp.ent j d hj
 ·simp only [z51] at hj hj'
  split at hj
  ·cases hj; cases hod
  ·split at hj'
   ·rename_i e1 e2; subst e2; cases hj'
    intro hh
    exact h.hp.sep j d j' _ hj hl hne hod g htg (ht g hh)
   ·exact h.hp.sep j d j' d' hj hj' hne hod g htg
 ·simp only [z51] at hj
  split at hj
  ·rename_i e1; subst e1; cases hj
   have:=h.own j _ hl g (ht g htg)
   rcases this with h1 | ⟨_,h2⟩
   ·exact .inl h1
   ·exact .inr ⟨rfl,h2⟩
  ·exact h.own j d hj g htg
theorem Sym.alias (h:Sym B w0 S0 N n0 ρ0 ρ s a w) (hk:s.kb=true) {k:Nat} {t e:TypeId} {r r':Row} {v:Value} (hl:lk k s.hp=some (.row false t r)) (hone:v.oneCell'=true) (hR:ROk w v r')
  (ht:∀ g,0<r'.len->v.ownBlock=some g->0<r.len/\(ρ k).ownBlock=some g) :
  Sym B w0 S0 N n0 ρ0 (fun j=>if j=s.nk then v else ρ j) { tm:=s.tm,hp:=(s.nk,.row false e r') :: s.hp,nk:=s.nk+1 } a w:=by
 have hρ:∀ j,j<s.nk->(fun j=>if j=s.nk then v else ρ j) j=ρ j:=fun j hj=>by simp; omega
 have hold:∀ j d,lk j s.hp=some d->j ≠ s.nk:=fun j d hj=>by have:=(s.kb_hp hk hj).1; omega
 refine ⟨fun t v hv=>?_,h.size,h.defers,⟨fun j=>?_,fun j d hj=>?_,fun j d j' d' hj hj' hne hod g htg=>?_⟩,h.fr,fun j d hj g htg=>?_,Nat.le_succ_of_le h.le,fun k hk=>(hρ k (Nat.lt_of_lt_of_le hk h.le)).trans (h.base k hk)⟩
 ·rw [h.tm t v hv,z4x hρ v (s.kb_tm hk hv)]
 ·split
  ·exact hone
  ·exact h.hp.one j
 ·rw [z0g] at hj
  split at hj
  ·rename_i e1; subst e1; cases hj; simp only [if_true]; exact hR
  ·simp only [hold j d hj,if_false]
   exact (h.hp.ent j d hj).congr (s.kb_hp hk hj).2 hρ
 ·rw [z0g] at hj hj'
  split at hj
  ·cases hj; cases hod
  ·simp only [hold j d hj,if_false] at htg
   split at hj'
   ·rename_i e2; subst e2; cases hj'
    simp only [if_true]
    intro hh
    have:=ht g hh.1 hh.2
    by_cases hjk:j=k
    ·subst hjk; rw [hl] at hj; cases hj; cases hod
    ·exact h.hp.sep j d k _ hj hl hjk hod g htg this
   ·simp only [hold j' d' hj',if_false]
    exact h.hp.sep j d j' d' hj hj' hne hod g htg
 ·rw [z0g] at hj
  split at hj
  ·rename_i e1; subst e1; cases hj
   simp only [if_true] at htg
   exact h.own k _ hl g (ht g htg.1 htg.2)
  ·simp only [hold j d hj,if_false] at htg
   exact h.own j d hj g htg
theorem zjj (hs:Sym B w0 S0 N n0 ρ0 ρ s a w) {d n:Int} {o:Option Operand} (h:bnd s d o=some n):(o=none/\n=d) ∨ ∃ x k,o=some x/\a.eval x = .int k n:=by
 cases o with
 | none=>cases h; exact .inl ⟨rfl,rfl⟩
 | some x =>
  simp only [bnd] at h
  split at h
  ·rename_i k m hv
   cases h
   have:=z0i hs hv
   simp only [SV.toV] at this
   exact .inr ⟨x,k,rfl,this⟩
  ·cases h
theorem z1m {k:IntKind} {n:Int} {y:Nat} {code:BoundsCode} (h0:0 <= n) (h1:n <= y):(Instr.sliceBound (.int k n) y code).run P w = .ok n.toNat w:=by
 simp [Instr.sliceBound,asIntOf,h0,h1]
theorem run_slice {t e:TypeId} {i:TypeInfo} (hu:P.underlying t=some (.slice e)) (hi:P.info? e=some i) {A:Option Addr} {len cap:Nat} (hlc:len <= cap) {low high max:Option Value} {l h m:Int}
  (hl:(low=none/\l=0) ∨ ∃ k,low=some (.int k l)) (hh:(high=none/\h=len) ∨ ∃ k,high=some (.int k h)) (hm:(max=none/\m=len) ∨ ∃ k,max=some (.int k m)) (hhm:max.isSome=true->high.isSome=true)
  (h0:0 <= l) (h1:l <= h) (h2:h <= m) (h3:m <= len) :
  ∃ M:Nat,h.toNat <= M/\(max=none->M=cap)/\(Instr.slice t (.slice A len cap) low high max).run P w = .ok (.slice (if M=l.toNat then A else A.map (·.add (l.toNat * i.size))) (h.toNat - l.toNat) (M - l.toNat)) w:=by
 rcases hm with ⟨rfl,rfl⟩ | ⟨km,rfl⟩
 ·refine ⟨cap,by omega,fun _=>rfl,?_⟩
  rcases hh with ⟨rfl,rfl⟩ | ⟨kh,rfl⟩
  ·rcases hl with ⟨rfl,rfl⟩ | ⟨kl,rfl⟩
   ·simp [Instr.slice,run_underlying hu,Instr.sliceBounds,sizeOf,typeInfo,hi]
   ·simp [Instr.slice,run_underlying hu,Instr.sliceBounds,z1m h0 h1,sizeOf,typeInfo,hi]
  ·have b1:h <= ((cap:Nat):Int):=by omega
   have b0:0 <= h:=by omega
   rcases hl with ⟨rfl,rfl⟩ | ⟨kl,rfl⟩
   ·simp [Instr.slice,run_underlying hu,Instr.sliceBounds,z1m b0 b1,sizeOf,typeInfo,hi]
   ·have b2:l <= ((h.toNat:Nat):Int):=by omega
    simp [Instr.slice,run_underlying hu,Instr.sliceBounds,z1m b0 b1,z1m h0 b2,sizeOf,typeInfo,hi]
 ·refine ⟨m.toNat,by omega,(fun e=>by cases e),?_⟩
  have c1:m <= ((cap:Nat):Int):=by omega
  have c0:0 <= m:=by omega
  have b1:h <= ((m.toNat:Nat):Int):=by omega
  have b0:0 <= h:=by omega
  rcases hh with ⟨rfl,rfl⟩ | ⟨kh,rfl⟩
  ·cases hhm rfl
  ·rcases hl with ⟨rfl,rfl⟩ | ⟨kl,rfl⟩
   ·simp [Instr.slice,run_underlying hu,Instr.sliceBounds,z1m c0 c1,z1m b0 b1,sizeOf,typeInfo,hi]
   ·have b2:l <= ((h.toNat:Nat):Int):=by omega
    simp [Instr.slice,run_underlying hu,Instr.sliceBounds,z1m c0 c1,z1m b0 b1,z1m h0 b2,sizeOf,typeInfo,hi]
theorem sliceS_sound (hT:z5w P T) {t:TypeId} {x:SV} {low high max:Option Operand} {K:SV->St->Prop} (h:sliceS T s t x low high max K) (hs:Sym B w0 S0 N n0 ρ0 ρ s a w) :
  ∃ v s' ρ',K v s'/\Sym B w0 S0 N n0 ρ0 ρ' s' a w/\(Instr.sliceAt t (x.toV ρ) (low.map a.eval) (high.map a.eval) (max.map a.eval)).run P w = .ok (v.toV ρ') w:=by
 unfold sliceS at h
 split at h
 ·rename_i zs ag fs e rk bt ik eqs key hti
  split at h
  ·rename_i own tx r hl
   cases hb:(s.kb && Nat.beq rk.width r.width && Nat.blt key s.nk && (max.isNone || high.isSome)) with
   | false=>rw [hb] at h; exact h.elim
   | true =>
    rw [hb] at h
    simp only [cond_true] at h
    simp only [Bool.and_eq_true] at hb
    obtain ⟨⟨⟨k1,k2⟩,k3⟩,k4⟩:=hb
    have k2:=z10 k2
    split at h
    ·rename_i l hi m hlow hhigh hmax
     obtain ⟨⟨c0,c1,c2,c3⟩,h⟩:=h
     obtain ⟨hu,hb64,i,hie,hz,hsz,hby⟩:=z5v hT hti rfl
     obtain ⟨A,c,hv,hlc,hA⟩:=EntOk.reads (hs.hp.ent key _ hl)
     have q1:(low.map a.eval=none/\l=0) ∨ ∃ k,low.map a.eval=some (.int k l):=by
      rcases zjj hs hlow with ⟨rfl,rfl⟩ | ⟨x,k,rfl,hx⟩
      ·exact .inl ⟨rfl,rfl⟩
      ·exact .inr ⟨k,by simp [hx]⟩
     have q2:(high.map a.eval=none/\hi=r.len) ∨ ∃ k,high.map a.eval=some (.int k hi):=by
      rcases zjj hs hhigh with ⟨rfl,rfl⟩ | ⟨x,k,rfl,hx⟩
      ·exact .inl ⟨rfl,rfl⟩
      ·exact .inr ⟨k,by simp [hx]⟩
     have q3:(max.map a.eval=none/\m=r.len) ∨ ∃ k,max.map a.eval=some (.int k m):=by
      rcases zjj hs hmax with ⟨rfl,rfl⟩ | ⟨x,k,rfl,hx⟩
      ·exact .inl ⟨rfl,rfl⟩
      ·exact .inr ⟨k,by simp [hx]⟩
     obtain ⟨M,hM,hMc,hrun⟩:=run_slice (P:=P) (w:=w) hu hie (A:=A) hlc q1 q2 q3 (by
      intro h; cases max with
      | none=>simp at h
      | some y=>cases high with
       | none=>simp at k4
       | some z=>simp) c0 c1 c2 c3
     rw [hsz,k2] at hrun
     simp only [SV.toV]
     have hat:∀ X:Value,(Instr.sliceAt t X (low.map a.eval) (high.map a.eval) (max.map a.eval)).run P w=(Instr.slice t X (low.map a.eval) (high.map a.eval) (max.map a.eval)).run P w:=fun X=>by simp [Instr.sliceAt,run_underlying hu]
     rw [hv,hat,hrun]
     cases hd:(own && low.isNone && max.isNone && Nat.beq tx e) with
     | true =>
      rw [hd] at h
      simp only [cond_true] at h
      simp only [Bool.and_eq_true] at hd
      obtain ⟨⟨⟨d1,d2⟩,d3⟩,d4⟩:=hd
      have d4:=z10 d4
      subst d1; subst d4
      have hl0:l=0:=by
       cases low with
       | none=>cases hlow; rfl
       | some y=>cases d2
      subst hl0
      have hMc:=hMc (by cases max with | none=>rfl | some y=>cases d3)
      subst hMc
      have hadd:(if M=(0:Int).toNat then A else A.map (·.add ((0:Int).toNat * r.width)))=A:=by
       split
       ·rfl
       ·cases A with
        | none=>rfl
        | some ad=>simp [Addr.add]
      rw [hadd]
      have e1:w.ownsRow 0 tx r.width (ρ key) r.len r.cells:=hs.hp.ent key _ hl
      refine ⟨_,_,_,h,hs.move k1 hl rfl (row:=none) (z4h w none) (fun g hg=>by cases hg) (v':=.slice A hi.toNat M) rfl (e':=.row true tx (r.sub 0 hi.toNat)) rfl ?_ (fun g hg=>.inl ?_),?_⟩
      ·show w.ownsRow 0 tx _ _ _ _
       rw [sub_width,sub_len,sub_cells,show min hi.toNat r.len - 0=hi.toNat by omega,Nat.zero_mul,List.drop_zero]
       refine ⟨by rw [List.length_take,Row.cells_len]; have:hi.toNat * r.width <= r.len * r.width:=Nat.mul_le_mul_right _ (by omega); omega,?_⟩
       rw [hv] at e1
       rcases e1.2 with ⟨e2,e3⟩ | ⟨g,cap,cur,e2,hbg,hheap,hn,hc,hcs,htake⟩
       ·simp only [Value.slice.injEq] at e2
        obtain ⟨rfl,e5,rfl⟩:=e2
        left
        have:hi.toNat=0:=by omega
        rw [this]; exact ⟨rfl,rfl⟩
       ·simp only [Value.slice.injEq] at e2
        obtain ⟨rfl,e5,rfl⟩:=e2
        right
        refine ⟨g,M,cur,rfl,hbg,hheap,by omega,hc,hcs,?_⟩
        rw [<- htake,List.take_take,Nat.min_eq_left (Nat.mul_le_mul_right _ (by omega))]
      ·show (ρ key).ownBlock=some g
       rw [hv]
       cases A with
       | none=>exact hg
       | some ad=>exact hg
      ·simp [SV.toV]
     | false =>
      rw [hd] at h
      simp only [cond_false] at h
      have hs1:=hs.freeze hl
      have hl1:lk key (Vc.put key (.row false tx r) s.hp)=some (.row false tx r):=zko
      have hkb:({ s with hp:=Vc.put key (.row false tx r) s.hp }:St).kb=true:=by
       unfold St.kb at k1 ⊢
       simp only [Bool.and_eq_true] at k1 ⊢
       refine ⟨k1.1,?_⟩
       have:∀ hp:z0d,z31 s.nk hp=true->z31 s.nk (Vc.put key (.row false tx r) hp)=true:=by
        intro hp
        induction hp with
        | nil=>intro _; simp [Vc.put,z31,k3,Ent.kb]
        | cons p q ih =>
         obtain ⟨j,d⟩:=p
         intro hh
         simp only [z31,Bool.and_eq_true] at hh
         rw [put_cons]
         split
         ·simp [z31,k3,Ent.kb,hh.2]
         ·simp [z31,hh.1.1,hh.1.2,ih hh.2]
       exact this _ k1.2
      have hlen:(r.sub l.toNat hi.toNat).len=hi.toNat - l.toNat:=by rw [sub_len,Nat.min_eq_left (by omega)]
      have hpos:0<hi.toNat - l.toNat->∃ b off,A=some ⟨b,off,none⟩/\(if M=l.toNat then A else A.map (·.add (l.toNat * r.width)))=some ⟨b,off+l.toNat * r.width,none⟩:=by
       intro hp
       obtain ⟨b,off,rfl,_⟩:=hA (by omega)
       refine ⟨b,off,rfl,?_⟩
       rw [if_neg (by omega)]
       simp [Addr.add_lit]
      refine ⟨_,_,_,h,hs1.alias hkb (v:=.slice (if M=l.toNat then A else A.map (·.add (l.toNat * r.width))) (hi.toNat - l.toNat) (M - l.toNat)) (r':=r.sub l.toNat hi.toNat) hl1 rfl ?_ (fun g hg hg2=>?_),by simp [SV.toV]⟩
      ·refine ⟨_,_,by rw [hlen],by rw [hlen]; omega,fun hp=>?_⟩
       rw [hlen] at hp
       obtain ⟨b,off,rfl,e2⟩:=hpos hp
       refine ⟨b,_,e2,fun j u hu=>?_⟩
       obtain ⟨b',off',e3,hcell⟩:=hA (by omega)
       cases e3
       rw [sub_cells,List.getElem?_drop,List.getElem?_take] at hu
       split at hu
       ·have:=hcell _ _ hu
        rw [<- this]; congr 2; omega
       ·cases hu
      ·rw [hlen] at hg
       obtain ⟨b,off,rfl,e2⟩:=hpos hg
       rw [e2] at hg2
       refine ⟨by omega,?_⟩
       rw [hv]; exact hg2
    ·exact h.elim
  ·exact h.elim
 ·exact h.elim
theorem slice_sound (hT:z5w P T) {o:Oper} {ty:TypeId} {x:Operand} {low high max:Option Operand} {K:St->Prop} (ho:o.op = .slice ty x low high max) {Γ:z0c} (h:z3h T Γ N o s K) (hs:Sym B w0 S0 N n0 ρ0 ρ s a w)
  {K':Act->World->Prop} {Q:Exit->Act->World->Prop} (hK:∀ s' ρ' a' w',Sym B w0 S0 N n0 ρ0 ρ' s' a' w'->K s'->K' a' w'):o.wp P a w K' Q:=by
 unfold z3h at h
 rw [ho] at h
 simp only at h
 split at h
 ·rename_i v hv
  have he:=z0i hs hv
  obtain ⟨v',s',ρ',h,hs',hrun⟩:=sliceS_sound hT h hs
  refine z11 (w':=w) ?_ (z0a h hs' hK)
  simp [execOp,ho,he,hrun]
 ·exact h.elim
theorem copyS_sound (hT:z5w P T) {t t':TypeId} {x y:SV} {K:SV->St->Prop} (h:copyS T s t t' x y K) (hs:Sym B w0 S0 N n0 ρ0 ρ s a w) (ty:TypeId) :
  ∃ v s' w',K v s'/\Sym B w0 S0 N n0 ρ0 ρ s' a w'/\(Builtin.copy_ #[t,t'] ty #[x.toV ρ,y.toV ρ]).run P w = .ok (v.toV ρ) w':=by
 unfold copyS at h
 split at h
 ·rename_i zs ag fs e rk bt ik eqs _ _ _ _ _ _ kx ky hti _
  split at h
  ·rename_i tx r1 o2 t2 r2 h1 h2
   split at h
   ·rename_i r hr
    cases hb:(Nat.beq rk.width r1.width && !Nat.beq kx ky) with
    | false=>rw [hb] at h; exact h.elim
    | true =>
     rw [hb] at h
     simp only [cond_true] at h
     simp only [Bool.and_eq_true] at hb
     have k2:=z10 hb.1
     obtain ⟨hu,hb64,i,hi,hz,hsz,hby⟩:=z5v hT hti rfl
     obtain ⟨a1,a2,a3,a4⟩:=over_sound hr
     have e1:w.ownsRow 0 tx r1.width (ρ kx) r1.len r1.cells:=hs.hp.ent kx _ h1
     obtain ⟨A,c,hv2,hlc,hA⟩:=EntOk.reads (hs.hp.ent ky _ h2)
     have hlen2:(r2.cells.take (Nat.min r2.len r1.len * r1.width)).length=Nat.min r2.len r1.len * r1.width:=by
      rw [List.length_take,Row.cells_len,a4]
      exact Nat.min_eq_left (Nat.mul_le_mul_right _ (Nat.min_le_left _ _))
     have hfirst:∃ cs:Array Value,cs.toList=r2.cells.take (Nat.min r2.len r1.len * r1.width)/\(Builtin.firstCells i.size (Nat.min r2.len r1.len) (.slice A r2.len c)).run P w = .ok cs w:=by
      cases A with
      | none =>
       have:r2.len=0:=by
        apply Classical.byContradiction
        intro hne
        obtain ⟨b,off,e2,_⟩:=hA (by omega)
        cases e2
       refine ⟨#[],?_,by simp [Builtin.firstCells]⟩
       rw [this]
       simp
      | some ad =>
       refine ⟨(r2.cells.take (Nat.min r2.len r1.len * r1.width)).toArray,rfl,?_⟩
       have:=run_loadCells_list (P:=P) w ad (r2.cells.take (Nat.min r2.len r1.len * r1.width)) (fun j u hu=>by
        rw [List.getElem?_take] at hu
        split at hu
        ·have h0:0<r2.len:=by
          apply Nat.pos_of_ne_zero
          intro e0
          rename_i hj
          rw [e0] at hj
          simp at hj
         obtain ⟨b,off,e2,hc⟩:=hA h0
         cases e2
         rw [Addr.add_lit]; exact hc j u hu
        ·cases hu)
       rw [hlen2] at this
       simp only [Builtin.firstCells,hsz,k2]
       exact this
     obtain ⟨cs,hcs,hrun1⟩:=hfirst
     have hcells:r.cells=r2.cells.take (Nat.min r2.len r1.len * r1.width) ++ r1.cells.drop (Nat.min r2.len r1.len * r1.width):=by
      rw [a1]
      rcases Nat.le_total r2.len r1.len with hle | hle
      ·have em:Nat.min r2.len r1.len=r2.len:=Nat.min_eq_left hle
       rw [em,List.take_of_length_le (by rw [Row.cells_len,a4]; exact Nat.mul_le_mul_right _ hle),List.take_of_length_le (l:=r2.cells) (by rw [Row.cells_len,a4]; exact Nat.le_refl _)]
      ·have em:Nat.min r2.len r1.len=r1.len:=Nat.min_eq_right hle
       rw [em,List.drop_of_length_le (by rw [Row.cells_len]; exact Nat.mul_le_mul_right _ hle),List.drop_of_length_le (l:=r1.cells) (by rw [Row.cells_len]; exact Nat.le_refl _)]
     rcases e1.2 with ⟨e2,e3⟩ | ⟨g,cap,cur,e2,hbg,hheap,hn,hc,hcsz,htake⟩
     ·
      have em:Nat.min r2.len r1.len=0:=by rw [e3]; exact Nat.min_zero _
      rw [em] at h hrun1
      have hrr:r.cells=r1.cells:=by rw [hcells,em]; simp
      refine ⟨_,_,w,h,hs.turn0 h1 (e':=.row true tx r) rfl rfl (fun _=>Iff.rfl) ?_,?_⟩
      ·show w.ownsRow 0 tx _ _ _ _
       rw [hrr,a2,a3]; exact e1
      ·simp only [SV.toV]
       rw [e2,hv2]
       simp [Builtin.copy_,run_underlying hu,Builtin.lenOf,sizeOf,typeInfo,hi,hrun1,goInt]
     ·have hle:Nat.min r2.len r1.len * r1.width <= r1.len * r1.width:=Nat.mul_le_mul_right _ (Nat.min_le_right _ _)
      have hle2:r1.len * r1.width <= cap * r1.width:=Nat.mul_le_mul_right _ hn
      have hst:=run_storeCells_at P g 0 tx cs.toList 0 cur w hheap (by rw [hcs,hlen2,hcsz]; omega) (fun v hv=>by
       rw [hcs] at hv; exact cells_one r2 v (List.mem_of_mem_take hv))
      simp only [Nat.add_zero,Nat.zero_add,List.take_zero,List.nil_append] at hst
      refine ⟨_,_,w.setRow g (cs.toList ++ cur.toList.drop cs.toList.length).toArray,h,hs.turn h1 (e':=.row true tx r) rfl rfl (z5j w g _) (fun _=>Iff.rfl) (by rw [e2]; rfl) ?_,?_⟩
      ·refine ⟨by rw [Row.cells_len],.inr ⟨g,cap,_,by rw [e2,a2],hbg,setRow_heap w g _ _ tx (0,0) hheap,by rw [a2]; exact hn,hc,?_,?_⟩⟩
       ·rw [a3]
        simp only [List.size_toArray,List.length_append,List.length_drop,Array.length_toList,hcs,hlen2]
        rw [hcsz]; omega
       ·rw [a2,a3,hcells,<- htake,hcs]
        rw [List.take_append,List.take_of_length_le (by rw [hlen2]; exact hle),hlen2,List.drop_take]
      ·simp only [SV.toV]
       rw [e2,hv2]
       simp [Builtin.copy_,run_underlying hu,Builtin.lenOf,sizeOf,typeInfo,hi,hrun1,hst,goInt]
   ·exact h.elim
  ·exact h.elim
 ·exact h.elim
end
end Go.Vc
end
section
namespace Go.Vc
open Go Go.RowKit Go.Ql Go.Draw
section
variable {P:Program} {T:Tys} {B:Defs} {w0:World} {S0:Foot} {N n0:Nat} {ρ0:Nat->Value} {ρ:Nat->Value} {s:St} {a:Act} {w:World}
theorem zhz:∀ {a b:List IntKind},kksEq a b=true->a=b
 | [],[],_=>rfl
 | x :: l,y :: m,h=>by
  simp only [kksEq,Bool.and_eq_true] at h
  rw [z5n h.1,zhz h.2]
 | [],_ :: _,h=>by cases h
 | _ :: _,[],h=>by cases h
theorem keyS_sound {kk:List IntKind} {v:SV} {k:List Int} (h:keyS kk v=some k):v.toV ρ=zb6 kk k/\k.length=kk.length:=by
 unfold keyS at h
 split at h
 ·rename_i k0 k' n
  cases hk:kEq k0 k' with
  | false=>rw [hk] at h; cases h
  | true=>rw [hk] at h; have:=z5n hk; subst this; cases h; simp [SV.toV,zb6]
 ·rename_i k0 k1 ks l
  obtain ⟨h1,h2⟩:=z75 (ρ:=ρ) h
  exact ⟨by simp only [SV.toV,h1,zb6],h2⟩
 ·cases h
def mpos (k:List Int):List (List Int × Int)->Nat->Option (Nat × Int)
 | [],_=>none
 | (j,v) :: l,i=>if k=j then some (i,v) else mpos k l (i+1)
theorem mpos_get (k:List Int):∀ (m:List (List Int × Int)) (i:Nat),(mpos k m i).map (·.2)=mget m k
 | [],_=>rfl
 | (j,v) :: l,i=>by
  simp only [mpos,mget]
  split
  ·rfl
  ·exact mpos_get k l (i+1)
theorem mpos_put (k:List Int) (n:Int):∀ (m:List (List Int × Int)) (i:Nat),(∀ p v,mpos k m i=some (p,v)->i <= p/\m[p - i]? = some (k,v)/\mput m k n=m.set (p - i) (k,n))/\(mpos k m i=none->mput m k n=m ++ [(k,n)])
 | [],i=>⟨fun p v h=>by simp [mpos] at h,fun _=>by simp [mput]⟩
 | (j,u) :: l,i=>by
  have ih:=mpos_put k n l (i+1)
  simp only [mpos,mput]
  by_cases e:k=j
  ·subst e
   simp
  ·simp only [e,if_false]
   refine ⟨fun p v h=>?_,fun h=>by rw [ih.2 h]; rfl⟩
   obtain ⟨h1,h2,h3⟩:=ih.1 p v h
   have e2:p - i=(p - (i+1))+1:=by omega
   exact ⟨by omega,by rw [e2,List.getElem?_cons_succ]; exact h2,by rw [e2,List.set_cons_succ,h3]⟩
theorem zk8 (k:IntKind) (vk:MK) (x:Int):∀ (es:List MapEntry) (m:List (List Int × Int)) (i:Nat),es.map (fun e=>(e.key,e.val))=z6k [k] vk m->(∀ p ∈ m,p.1.length=1) ->
  Instr.findNow (.int k) (.int k x) es i=some ((mpos [x] m i).map fun q=>(q.1,vk.enc q.2))
 | [],m,i,h,_=>by
  cases m with
  | nil=>rfl
  | cons p m=>simp [z6k] at h
 | e :: es,m,i,h,hl=>by
  cases m with
  | nil=>simp [z6k] at h
  | cons p m =>
   obtain ⟨ks,v⟩:=p
   simp only [z6k,List.map_cons,List.cons.injEq,Prod.mk.injEq] at h
   have hks:=hl (ks,v) (by simp)
   match ks,hks with
   | [y],_ =>
    simp only [zb6,List.headD_cons] at h
    unfold Instr.findNow
    rw [h.1.1]
    simp only [Instr.sameNow,if_true]
    by_cases e:x=y
    ·subst e; simp [mpos,h.1.2]
    ·have e':(x == y)=false:=by simp [e]
     rw [e']
     simp only [mpos,List.cons.injEq,e,and_true,if_false]
     exact zk8 k vk x es m (i+1) h.2 (fun p hp=>hl p (by simp [hp]))
theorem zbd {key:TypeId} {kk:List IntKind} {vk:MK} {k:List Int} (hk2:∀ q,kk ≠ [q]) (hk:k.length=kk.length)
  (heq:∀ (a b:List Int) (w:World),a.length=kk.length->b.length=kk.length->(Op.equal key (.agg (z25 kk a)) (.agg (z25 kk b))).run P w = .ok (decide (a=b)) w) :
  ∀ (es:List MapEntry) (m:List (List Int × Int)) (i:Nat),es.map (fun e=>(e.key,e.val))=z6k kk vk m->(∀ p ∈ m,p.1.length=kk.length) ->
  (Instr.findAsking key (zb6 kk k) es i).run P w = .ok ((mpos k m i).map fun q=>(q.1,vk.enc q.2)) w
 | [],m,i,h,_=>by
  cases m with
  | nil=>simp [Instr.findAsking,mpos]
  | cons p m=>simp [z6k] at h
 | e :: es,m,i,h,hl=>by
  cases m with
  | nil=>simp [z6k] at h
  | cons p m =>
   obtain ⟨ks,v⟩:=p
   simp only [z6k,List.map_cons,List.cons.injEq,Prod.mk.injEq] at h
   have hks:=hl (ks,v) (by simp)
   have hkv:∀ c,zb6 kk c = .agg (z25 kk c):=fun c=>by
    unfold zb6
    split
    ·rename_i q; exact absurd rfl (hk2 q)
    ·rfl
   have ih:=zbd hk2 hk heq es m (i+1) h.2 (fun p hp=>hl p (by simp [hp]))
   unfold Instr.findAsking
   rw [h.1.1]
   simp only [hkv,Sem.run_bind,heq k ks w hk hks,Result.andThen_ok]
   by_cases e:k=ks
   ·subst e; simp [mpos,h.1.2]
   ·simp only [e,decide_false,Bool.false_eq_true,if_false,mpos]
    rw [hkv] at ih
    exact ih
theorem zmo {t:TypeId} {key:TypeId} {kk:List IntKind} {vk:MK} {k:List Int} {es:List MapEntry} {m:List (List Int × Int)}
  (hkey:(∃ q,kk=[q]/\P.underlying key=some (.int q)) ∨ ((∀ q,kk ≠ [q])/\(∃ fs,P.underlying key=some (.struct fs))/\(∀ (a:List Int) (b:Bool) (w:World),a.length=kk.length->(Instr.checkKey b 10000 key (.agg (z25 kk a))).run P w = .ok () w) /\
   ∀ (a b:List Int) (w:World),a.length=kk.length->b.length=kk.length->(Op.equal key (.agg (z25 kk a)) (.agg (z25 kk b))).run P w = .ok (decide (a=b)) w))
  (hk:k.length=kk.length) (h:es.map (fun e=>(e.key,e.val))=z6k kk vk m) (hl:∀ p ∈ m,p.1.length=kk.length) :
  (Instr.findKey key (zb6 kk k) es).run P w = .ok ((mpos k m 0).map fun q=>(q.1,vk.enc q.2)) w/\∀ b,(Instr.checkKey b 10000 key (zb6 kk k)).run P w = .ok () w:=by
 rcases hkey with ⟨q,rfl,hu⟩ | ⟨hk2,⟨fs,hu⟩,hck,heq⟩
 ·match k,hk with
  | [x],_ =>
   simp only [zb6,List.headD_cons]
   refine ⟨?_,fun b=>?_⟩
   ·simp [Instr.findKey,run_underlying hu,zk8 q vk x es m 0 h hl]
   ·show (Instr.checkKey b (9999+1) key (.int q x)).run P w=_
    rw [Instr.checkKey]
    simp [run_underlying hu]
 ·have hkv:zb6 kk k = .agg (z25 kk k):=by
   unfold zb6
   split
   ·rename_i q; exact absurd rfl (hk2 q)
   ·rfl
  refine ⟨?_,fun b=>by rw [hkv]; exact hck k b w hk⟩
  have hask:=zbd (P:=P) (w:=w) (vk:=vk) hk2 hk heq es m 0 h hl
  cases es with
  | nil =>
   cases m with
   | nil=>simp [Instr.findKey,run_underlying hu,Instr.findNow,mpos]
   | cons p m=>simp [z6k] at h
  | cons e es =>
   have hnow:Instr.findNow (.struct fs) (zb6 kk k) (e :: es) 0=none:=by
    unfold Instr.findNow
    rw [hkv]
    simp [Instr.sameNow]
   simp only [Instr.findKey,Sem.run_bind,run_underlying hu,Result.andThen_ok,hnow]
   exact hask
theorem mapTy (hT:z5w P T) {t:TypeId} {kk:List IntKind} {vk:MK} {fs:List (Nat × Nat × Bool)} {sl:Option (TypeId × RK × Nat)} {ik:Option IntKind} {eqs:List IntKind} (h:lk t T=some ⟨[.map kk vk],false,fs,sl,ik,eqs⟩):MapOk P t kk vk:=(hT _ _ h).mp kk vk [] rfl rfl
theorem makeMap_sound (hT:z5w P T) {o:Oper} {ty:TypeId} {K:St->Prop} (ho:o.op = .makeMap ty none) {Γ:z0c} (h:z3h T Γ N o s K) (hs:Sym B w0 S0 N n0 ρ0 ρ s a w)
  {K':Act->World->Prop} {Q:Exit->Act->World->Prop} (hK:∀ s' ρ' a' w',Sym B w0 S0 N n0 ρ0 ρ' s' a' w'->K s'->K' a' w'):o.wp P a w K' Q:=by
 unfold z3h at h
 rw [ho] at h
 simp only at h
 split at h
 ·rename_i kk vk fs sl ik eqs hti
  cases hb:s.kb with
  | false=>rw [hb] at h; exact h.elim
  | true =>
   rw [hb] at h
   simp only [cond_true] at h
   have hl:∀ k d,lk k [(s.nk,Ent.map kk vk [])]=some d->k=s.nk/\d = .map kk vk []:=by
    intro k d hd
    rw [z0g] at hd
    split at hd
    ·rename_i e1; cases hd; exact ⟨e1,rfl⟩
    ·simp [lk] at hd
   have hρ:∀ k,k<s.nk->(fun j=>if j=s.nk then Value.map (some w.heap.size) else ρ j) k=ρ k:=fun k hk=>by simp; omega
   have hs':Sym B w0 S0 N n0 ρ0 (fun j=>if j=s.nk then Value.map (some w.heap.size) else ρ j) { tm:=s.tm,hp:=(s.nk,.map kk vk []) :: s.hp,nk:=s.nk+1 } a (w.alloc (.map #[] 0)):=by
    refine hs.more hb (Nat.le_succ _) (World.grownBy_alloc w _ none) (hn:=[(s.nk,Ent.map kk vk [])]) hρ (fun k=>?_) (fun k d hd=>?_) (fun k d hd=>?_) (fun k d hd g hg=>?_) (fun k d k' d' hd hd' hne g hg=>?_)
    ·split
     ·rfl
     ·exact hs.hp.one k
    ·obtain ⟨rfl,rfl⟩:=hl k d hd; exact Nat.le_refl _
    ·obtain ⟨rfl,rfl⟩:=hl k d hd
     simp only [if_true]
     exact ⟨w.heap.size,#[],0,rfl,World.alloc_heap_new w _,rfl,fun _ h=>by cases h⟩
    ·obtain ⟨rfl,rfl⟩:=hl k d hd
     simp only [if_true,Ent.touch,Value.map.injEq,Option.some.injEq] at hg
     omega
    ·obtain ⟨rfl,rfl⟩:=hl k d hd
     obtain ⟨rfl,_⟩:=hl k' d' hd'
     exact absurd rfl hne
   refine z11 (w':=w.alloc (.map #[] 0)) ?_ (z0a h hs' hK)
   simp [execOp,ho,Instr.makeMap,SV.toV]
 ·exact h.elim
theorem fget_sound {k:List Int} {K:SV->Prop}:∀ {m:List (List Int × Int)},fget k K m->(∀ p ∈ m,0<p.2)->∃ v,K v/\∀ ρ:Nat->Value,v.toV ρ = .tuple #[MK.fn.enc ((mget m k).getD 0),.bool (mget m k).isSome]
 | [],h,_=>⟨_,h,fun ρ=>by simp [SV.toV,z0s,mget,MK.enc,fnV]⟩
 | (j,n) :: l,h,hp=>by
  by_cases e:k=j
  ·refine ⟨_,h.1 e,fun ρ=>?_⟩
   have h0:=hp (j,n) (by simp)
   simp only at h0
   simp [SV.toV,z0s,mget,MK.enc,fnV,e,show ¬ n=0 by omega]
  ·obtain ⟨v,h1,h2⟩:=fget_sound (h.2 e) (fun p hp'=>hp p (by simp [hp']))
   exact ⟨v,h1,fun ρ=>by rw [h2,mget,if_neg e]⟩
theorem lookup_sound (hT:z5w P T) {o:Oper} {ty:TypeId} {x i:Operand} {commaOk:Bool} {K:St->Prop} (ho:o.op = .lookup ty x i commaOk) {Γ:z0c} (h:z3h T Γ N o s K) (hs:Sym B w0 S0 N n0 ρ0 ρ s a w)
  {K':Act->World->Prop} {Q:Exit->Act->World->Prop} (hK:∀ s' ρ' a' w',Sym B w0 S0 N n0 ρ0 ρ' s' a' w'->K s'->K' a' w'):o.wp P a w K' Q:=by
 unfold z3h at h
 rw [ho] at h
 simp only at h
 split at h
 ·rename_i v u hv hu
  have hx:=z0i hs hv
  have hi:=z0i hs hu
  unfold lookS at h
  split at h
  ·rename_i kk vk fs sl ik eqs key hti
   split at h
   ·rename_i kk' vk' m k hl hk
    cases hb:(kksEq kk kk' && vk.eq vk') with
    | false=>rw [hb] at h; exact h.elim
    | true =>
     rw [hb] at h
     simp only [cond_true] at h
     simp only [Bool.and_eq_true] at hb
     have e1:=zhz hb.1
     have e2:=mkEq_eq hb.2
     subst e1; subst e2
     obtain ⟨kt,et,hm,hz,hkey⟩:=(mapTy hT hti).ty
     obtain ⟨g,es,clock,hg,hheap,hes,hlen⟩:=hs.hp.ent key _ hl
     obtain ⟨hkv,hkl⟩:=keyS_sound (ρ:=ρ) hk
     obtain ⟨hfind,hcheck⟩:=zmo (P:=P) (w:=w) (t:=ty) hkey hkl hes hlen
     have hgo:(getObj g).run P w = .ok (.map es clock) w:=by simp [getObj,Sem.run,hheap]
     have hzero:(zeroValue et).run P w = .ok (vk.enc 0) w:=by
      cases hie:P.info? et with
      | none=>rw [hie] at hz; cases hz
      | some ie=>rw [hie] at hz; simp at hz; simp [zeroValue,typeInfo,hie,hz]
     have hget:=mpos_get k m 0
     have hrun:(Instr.lookup ty (.map (some g)) (zb6 kk k) commaOk).run P w = .ok (if commaOk then .tuple #[vk.enc ((mget m k).getD 0),.bool (mget m k).isSome] else vk.enc ((mget m k).getD 0)) w:=by
      rw [<- hget]
      simp only [Instr.lookup,Sem.run_bind,run_underlying hm,Result.andThen_ok,hgo,Sem.run_pure,hcheck,hfind]
      cases mpos k m 0 with
      | none=>simp [hzero]
      | some q=>simp
     simp only [SV.toV] at hx
     rw [hg] at hx
     rw [hkv] at hi
     cases hfn:(isFnK vk && commaOk) with
     | true =>
      rw [hfn] at h
      simp only [cond_true,Bool.and_eq_true] at h hfn
      obtain ⟨hf,hc⟩:=hfn
      subst hc
      have hvk:vk = .fn:=by cases vk <;> first | rfl | cases hf
      subst hvk
      obtain ⟨v,h,hv⟩:=fget_sound h.2 h.1
      refine z11 (w':=w) ?_ (z0a h hs hK)
      simp only [execOp,ho,hx,hi,Sem.run_bind,hrun,Result.andThen_ok,if_true,hv]
      rfl
     | false =>
     rw [hfn] at h
     simp only [cond_false] at h
     cases commaOk with
     | true =>
      refine z11 (w':=w) ?_ (z0a h hs hK)
      simp only [execOp,ho,hx,hi,Sem.run_bind,hrun,Result.andThen_ok,if_true,SV.toV,z0s,sv_toV]
      rfl
     | false =>
      refine z11 (w':=w) ?_ (z0a h hs hK)
      simp only [execOp,ho,hx,hi,Sem.run_bind,hrun,Result.andThen_ok,Bool.false_eq_true,if_false,sv_toV]
      rfl
   ·exact h.elim
  ·exact h.elim
 ·exact h.elim
theorem zdy (n:Nat):∀ (kk:List IntKind) (c:List Int),((List.zipWith (fun k n=>Value.int k n) kk c).zip (List.zipWith (fun k n=>Value.int k n) kk c)).all (fun x=>Instr.sameBits n x.1 x.2)=true
 | [],_=>by simp
 | _ :: _,[]=>by simp
 | k :: kk,x :: c=>by
  simp only [List.zipWith_cons_cons,List.zip_cons_cons,List.all_cons,zdy n kk c,Bool.and_true]
  cases n <;> simp [Instr.sameBits]
theorem stays_key (kk:List IntKind) (k:List Int):(Instr.keyThatStays (zb6 kk k) (zb6 kk k)).run P w = .ok (zb6 kk k) w:=by
 have:Instr.sameBits 10000 (zb6 kk k) (zb6 kk k)=true:=by
  unfold zb6
  split
  ·simp [Instr.sameBits]
  ·show Instr.sameBits (9999+1) _ _=true
   have h:=zdy 9999 kk k
   simp only [Instr.sameBits,z25,beq_self_eq_true,Bool.true_and]
   simpa using h
 simp [Instr.keyThatStays,this]
theorem z9j (hT:z5w P T) {o:Oper} {ty:TypeId} {x i y:Operand} {K:St->Prop} (ho:o.op = .mapUpdate ty x i y ∨ o.op = .insert ty x i y) (h:(match ev s x,ev s i,ev s y,o.dst with
  | some v,some u,some z,none=>updS T s ty v u z K
  | _,_,_,_=>False)) (hs:Sym B w0 S0 N n0 ρ0 ρ s a w)
  {K':Act->World->Prop} {Q:Exit->Act->World->Prop} (hK:∀ s' ρ' a' w',Sym B w0 S0 N n0 ρ0 ρ' s' a' w'->K s'->K' a' w'):o.wp P a w K' Q:=by
 split at h
 ·rename_i v u z hv hu hz hdst
  have hx:=z0i hs hv
  have hi:=z0i hs hu
  have hy:=z0i hs hz
  unfold updS at h
  split at h
  ·rename_i kk vk fs sl ik eqs key hti
   split at h
   ·rename_i kk' vk' m k n hl hk hn
    cases hb:(kksEq kk kk' && vk.eq vk') with
    | false=>rw [hb] at h; exact h.elim
    | true =>
     rw [hb] at h
     simp only [cond_true] at h
     simp only [Bool.and_eq_true] at hb
     have e1:=zhz hb.1
     have e2:=mkEq_eq hb.2
     subst e1; subst e2
     obtain ⟨kt,et,hm,hz0,hkey⟩:=(mapTy hT hti).ty
     obtain ⟨g,es,clock,hg,hheap,hes,hlen⟩:=hs.hp.ent key _ hl
     obtain ⟨hkv,hkl⟩:=keyS_sound (ρ:=ρ) hk
     have hvv:=valS_sound (ρ:=ρ) hn
     obtain ⟨hfind,hcheck⟩:=zmo (P:=P) (w:=w) (t:=ty) hkey hkl hes hlen
     have hgo:(getObj g).run P w = .ok (.map es clock) w:=by simp [getObj,Sem.run,hheap]
     have hso:∀ ob,(setObj g ob).run P w = .ok () (w.putObj g ob):=fun ob=>by simp [setObj,Sem.run,hheap,World.putObj]
     have hp:=mpos_put k n m 0
     have hlen':∀ p ∈ mput m k n,p.1.length=kk.length:=by
      intro p hp'
      cases hq:mpos k m 0 with
      | none =>
       rw [hp.2 hq] at hp'
       rcases List.mem_append.1 hp' with h1 | h1
       ·exact hlen p h1
       ·simp at h1; subst h1; exact hkl
      | some q =>
       rw [(hp.1 q.1 q.2 hq).2.2] at hp'
       rcases List.mem_or_eq_of_mem_set hp' with h1 | h1
       ·exact hlen p h1
       ·subst h1; exact hkl
     simp only [SV.toV] at hx
     rw [hg] at hx
     rw [hkv] at hi
     rw [hvv] at hy
     have fin:∀ ob es' clock',ob = .map es' clock'->es'.toList.map (fun e=>(e.key,e.val))=z6k kk vk (mput m k n)->(Instr.mapUpdate ty (.map (some g)) (zb6 kk k) (vk.enc n)).run P w = .ok () (w.putObj g ob)->o.wp P a w K' Q:=by
      intro ob es' clock' hob hes' hrun
      have hex:(execOp a.eval o).run P w = .ok .skip (w.putObj g ob):=by
       rcases ho with ho | ho <;> (simp only [execOp,ho,hx,hi,hy,Sem.run_bind,hrun,Result.andThen_ok]; rfl)
      unfold Oper.wp
      rw [hex]
      simp only [Oper.upon,hdst,Act.put]
      refine hK _ ρ a _ (hs.turn (e':=.map kk vk (mput m k n)) hl rfl rfl (⟨rfl,rfl,rfl,by simp,fun k _ hne=>World.putObj_heap_other (fun e=>hne (by rw [e]))⟩:w.grownBy (w.putObj g ob) (some g)) (fun _=>Iff.rfl) hg ?_) h
      exact ⟨g,es',clock',hg,by rw [<- hob]; exact World.putObj_heap_same (Array.getElem?_eq_some_iff.1 hheap).1,hes',hlen'⟩
     cases hq:mpos k m 0 with
     | none =>
      refine fin _ (es.push { key:=zb6 kk k,val:=vk.enc n,born:=clock }) (clock+1) rfl ?_ ?_
      ·rw [hp.2 hq]
       simp only [Array.toList_push,List.map_append,hes,z6k,List.map_cons,List.map_nil]
      ·rw [hq] at hfind
       simp only [Option.map_none] at hfind
       simp only [Instr.mapUpdate,Sem.run_bind,run_underlying hm,Result.andThen_ok,hgo,hcheck,hfind,hso]
     | some q =>
      obtain ⟨q1,q2,q3⟩:=hp.1 q.1 q.2 hq
      simp only [Nat.sub_zero] at q2 q3
      have hei:∃ e,es[q.1]? = some e/\e.key=zb6 kk k:=by
       have h1:(es.toList.map (fun e=>(e.key,e.val)))[q.1]? = some (zb6 kk k,vk.enc q.2):=by
        rw [hes]; simp [z6k,q2]
       rw [List.getElem?_map] at h1
       cases h2:es.toList[q.1]? with
       | none=>rw [h2] at h1; cases h1
       | some e=>rw [h2] at h1; simp at h1; exact ⟨e,by simpa using h2,h1.1⟩
      obtain ⟨e,he,hek⟩:=hei
      refine fin _ (es.modify q.1 fun e=>{ e with key:=zb6 kk k,val:=vk.enc n }) clock rfl ?_ ?_
      ·rw [q3]
       have hmod:(es.modify q.1 fun e=>{ e with key:=zb6 kk k,val:=vk.enc n }).toList=es.toList.modify q.1 (fun e=>{ e with key:=zb6 kk k,val:=vk.enc n }):=by simp
       rw [hmod]
       have:(es.toList.modify q.1 (fun e=>{ e with key:=zb6 kk k,val:=vk.enc n })).map (fun e=>(e.key,e.val))=(es.toList.map (fun e=>(e.key,e.val))).set q.1 (zb6 kk k,vk.enc n):=by
        apply List.ext_getElem?
        intro j
        rw [List.getElem?_map,List.getElem?_modify,List.getElem?_set,List.getElem?_map]
        by_cases ej:q.1=j
        ·subst ej
         have hlt:q.1<es.toList.length:=by have:=(Array.getElem?_eq_some_iff.1 he).1; simpa using this
         have hlt2:q.1<es.size:=by simpa using hlt
         simp [he,hlt2]
        ·simp [ej]
       rw [this,hes]
       simp [z6k,List.map_set]
      ·rw [hq] at hfind
       simp only [Option.map_some] at hfind
       have hst:(Instr.keyThatStays (((es[q.1]?).map (·.key)).getD (zb6 kk k)) (zb6 kk k)).run P w = .ok (zb6 kk k) w:=by
        rw [he]; simp only [Option.map_some,Option.getD_some,hek]; exact stays_key kk k
       simp only [Instr.mapUpdate,Sem.run_bind,run_underlying hm,Result.andThen_ok,hgo,hcheck,hfind,hst,hso]
   ·exact h.elim
  ·exact h.elim
 ·exact h.elim
end
end Go.Vc
end
