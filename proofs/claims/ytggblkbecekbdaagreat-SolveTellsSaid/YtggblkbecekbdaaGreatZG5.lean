/- Part of the proof: Vc11, Ty, DA1, FA1, DA2. -/
import Derived.Test.YtggblkbecekbdaaGreatZG4
import Derived.Test.YtggblkbecekbdaaGreatProg
set_option linter.all false
set_option linter.unusedSimpArgs false
set_option linter.unusedVariables false
set_option maxRecDepth 1000000
section
section
namespace Go.Vc
open Go Go.RowKit Go.Ql Go.Draw
mutual
def canV (hp:z0d) (ro:Bool):Nat->SV->Nat->Option (SV × Nat × KM × z0d)
 | 0,_,_=>none
 | f+1,v,n=>match v with
  | .row key=>match lk key hp with
   | some (.row o t r)=>some (.row n,n+1,[(n,key)],[(n,.row (o && !ro) t r)])
   | some (.deep o t it d vs none)=>some (.row n,n+1,[(n,key)],[(n,.deep (o && !ro) t it d vs none)])
   | some (.deep false t it d vs h)=>some (.row n,n+1,[(n,key)],[(n,.deep false t it d vs h)])
   | _=>none
  | .ptr key w i fld=>match lk key hp with
   | some (.row o t r)=>some (.ptr n w i fld,n+1,[(n,key)],[(n,.row (o && !ro) t r)])
   | some (.box o t cells)=>match zhl hp ro f cells (n+1) with
    | some (cells',n',σ,h)=>some (.ptr n w i fld,n',(n,key) :: σ,(n,.box (o && !ro) t cells') :: h)
    | none=>none
   | _=>none
  | .agg l=>match zhl hp ro f l n with
   | some (l',n',σ,h)=>some (.agg l',n',σ,h)
   | none=>none
  | .tup l=>match zhl hp ro f l n with
   | some (l',n',σ,h)=>some (.tup l',n',σ,h)
   | none=>none
  | .fn g l=>match zhl hp ro f l n with
   | some (l',n',σ,h)=>some (.fn g l',n',σ,h)
   | none=>none
  | .mth g l=>match zhl hp ro f l n with
   | some (l',n',σ,h)=>some (.mth g l',n',σ,h)
   | none=>none
  | .tt=>some (.bool true,n,[],[])
  | .ff=>some (.bool false,n,[],[])
  | v=>some (v,n,[],[])
def zhl (hp:z0d) (ro:Bool):Nat->List SV->Nat->Option (List SV × Nat × KM × z0d)
 | 0,_,_=>none
 | f+1,l,n=>match l with
  | []=>some ([],n,[],[])
  | v :: l=>match canV hp ro f v n with
   | some (v',n',σ,h)=>match zhl hp ro f l n' with
    | some (l',n'',σ',h')=>some (v' :: l',n'',σ ++ σ',h ++ h')
    | none=>none
   | none=>none
end
structure CanOk (ρ:Nat->Value) (ro:Bool) (hp:z0d) (n n':Nat) (σ:KM) (h:z0d):Prop where
 le:n <= n'
 keys:∀ j k,(j,k) ∈ σ->n <= j/\j<n'
 nodup:(σ.map (·.1)).Nodup
 hkeys:(h.map (·.1)).Nodup
 full:∀ j,n <= j->j<n'->∃ e,(j,e) ∈ h
 pure:ro=true->∀ j e,(j,e) ∈ h->e.own=false
 ent:∀ j e,(j,e) ∈ h->∃ k d,(j,k) ∈ σ/\lk k hp=some d/\(e.own=true->d.own=true)/\(∀ v g,e.touch v g->d.touch v g) /\
  ∀ ρc:Nat->Value,(∀ i k,(i,k) ∈ σ->ρc i=ρ k)->∀ w v,EntOk ρ w v d->EntOk ρc w v e
section
variable {ρ:Nat->Value} {hp:z0d} {ro:Bool}
theorem CanOk.nil (n:Nat):CanOk ρ ro hp n n [] []:=⟨Nat.le_refl _,fun _ _ h=>by simp at h,by simp,by simp,fun _ _ _=>by omega,fun _ _ _ h=>by simp at h,fun _ _ h=>by simp at h⟩
theorem CanOk.append {n n' n'':Nat} {σ σ':KM} {h h':z0d} (a:CanOk ρ ro hp n n' σ h) (b:CanOk ρ ro hp n' n'' σ' h'):CanOk ρ ro hp n n'' (σ ++ σ') (h ++ h'):=by
 have a1:=a.le
 have b1:=b.le
 have hh:∀ j e,(j,e) ∈ h->n <= j/\j<n':=fun j e hj=>by
  obtain ⟨k,d,hk,_⟩:=a.ent j e hj; exact a.keys j k hk
 have hh':∀ j e,(j,e) ∈ h'->n' <= j/\j<n'':=fun j e hj=>by
  obtain ⟨k,d,hk,_⟩:=b.ent j e hj; exact b.keys j k hk
 refine ⟨by omega,fun j k hj=>?_,?_,?_,fun j hj hj'=>?_,fun hr j e hj=>(List.mem_append.1 hj).elim (a.pure hr j e) (b.pure hr j e),fun j e hj=>?_⟩
 ·rcases List.mem_append.1 hj with hj | hj
  ·have:=a.keys j k hj; omega
  ·have:=b.keys j k hj; omega
 ·rw [List.map_append,List.nodup_append]
  refine ⟨a.nodup,b.nodup,fun x hx y hy=>?_⟩
  obtain ⟨⟨x1,x2⟩,hx1,rfl⟩:=List.mem_map.1 hx
  obtain ⟨⟨y1,y2⟩,hy1,rfl⟩:=List.mem_map.1 hy
  have:=a.keys _ _ hx1
  have:=b.keys _ _ hy1
  dsimp only; omega
 ·rw [List.map_append,List.nodup_append]
  refine ⟨a.hkeys,b.hkeys,fun x hx y hy=>?_⟩
  obtain ⟨⟨x1,x2⟩,hx1,rfl⟩:=List.mem_map.1 hx
  obtain ⟨⟨y1,y2⟩,hy1,rfl⟩:=List.mem_map.1 hy
  have:=hh _ _ hx1
  have:=hh' _ _ hy1
  dsimp only; omega
 ·rcases Nat.lt_or_ge j n' with h1 | h1
  ·obtain ⟨e,he⟩:=a.full j hj h1; exact ⟨e,List.mem_append_left _ he⟩
  ·obtain ⟨e,he⟩:=b.full j h1 hj'; exact ⟨e,List.mem_append_right _ he⟩
 ·rcases List.mem_append.1 hj with hj | hj
  ·obtain ⟨k,d,h1,h2,h3,h4,h5⟩:=a.ent j e hj
   exact ⟨k,d,List.mem_append_left _ h1,h2,h3,h4,fun ρc hρ=>h5 ρc fun i k hi=>hρ i k (List.mem_append_left _ hi)⟩
  ·obtain ⟨k,d,h1,h2,h3,h4,h5⟩:=b.ent j e hj
   exact ⟨k,d,List.mem_append_right _ h1,h2,h3,h4,fun ρc hρ=>h5 ρc fun i k hi=>hρ i k (List.mem_append_right _ hi)⟩
theorem CanOk.row {n key:Nat} {o:Bool} {t:TypeId} {r:Row} (hl:lk key hp=some (.row o t r)):CanOk ρ ro hp n (n+1) [(n,key)] [(n,.row (o && !ro) t r)]:=by
 refine ⟨by omega,fun j k hj=>?_,by simp,by simp,fun j h1 h2=>⟨.row (o && !ro) t r,List.mem_singleton.2 (by rw [show j=n by omega])⟩,fun hr j e hj=>by simp only [List.mem_singleton,Prod.mk.injEq] at hj; rw [hj.2,hr]; simp [Ent.own],fun j e hj=>?_⟩
 ·simp only [List.mem_singleton,Prod.mk.injEq] at hj; omega
 ·simp only [List.mem_singleton,Prod.mk.injEq] at hj
  obtain ⟨rfl,rfl⟩:=hj
  refine ⟨key,_,by simp,hl,fun ho=>?_,fun v g ht=>?_,fun ρc _ w v he=>?_⟩
  ·simp only [Ent.own,Bool.and_eq_true] at ho ⊢; exact ho.1
  ·cases o
   ·exact ht
   ·cases ro
    ·exact ht
    ·exact ht.2
  ·cases o
   ·exact he
   ·cases ro
    ·exact he
    ·exact z8j he
theorem CanOk.deep {n key:Nat} {o o':Bool} {t it:TypeId} {d:DK} {vs:List Value} {hh:Option Nat} (hl:lk key hp=some (.deep o t it d vs hh)) (h1:o'=true->o=true/\ro=false) (h2:o=true->hh=none):CanOk ρ ro hp n (n+1) [(n,key)] [(n,.deep o' t it d vs hh)]:=by
 refine ⟨by omega,fun j k hj=>?_,by simp,by simp,fun j h1 h2=>⟨.deep o' t it d vs hh,List.mem_singleton.2 (by rw [show j=n by omega])⟩,fun hr j e hj=>?_,fun j e hj=>?_⟩
 ·simp only [List.mem_singleton,Prod.mk.injEq] at hj; omega
 ·simp only [List.mem_singleton,Prod.mk.injEq] at hj
  rw [hj.2]
  cases o' with
  | false=>rfl
  | true=>rw [(h1 rfl).2] at hr; cases hr
 ·simp only [List.mem_singleton,Prod.mk.injEq] at hj
  obtain ⟨rfl,rfl⟩:=hj
  refine ⟨key,_,by simp,hl,fun ho=>(h1 ho).1,fun v g ht=>?_,fun ρc _ w v he=>?_⟩
  ·cases o' with
   | true=>rw [(h1 rfl).1]; exact ht
   | false =>
    cases o with
    | false=>exact ht
    | true=>rw [h2 rfl] at ht ⊢; exact deep_touch ht
  ·cases o' with
   | true=>rw [(h1 rfl).1] at he; exact he
   | false =>
    cases o with
    | false=>exact he
    | true=>rw [h2 rfl] at he; exact DeepOwn.reads he
mutual
theorem canV_sound:∀ {f:Nat} {v v':SV} {n n':Nat} {σ:KM} {h:z0d},canV hp ro f v n=some (v',n',σ,h) ->
  CanOk ρ ro hp n n' σ h/\∀ ρc:Nat->Value,(∀ i k,(i,k) ∈ σ->ρc i=ρ k)->v'.toV ρc=v.toV ρ
 | 0,_,_,_,_,_,_,h=>by simp [canV] at h
 | f+1,v,v',n,n',σ,h,hh=>by
  cases v with
  | row key =>
   simp only [canV] at hh
   split at hh
   ·rename_i o t r hl
    cases hh
    exact ⟨.row hl,fun ρc hρ=>by simp only [SV.toV]; exact hρ _ _ (by simp)⟩
   ·rename_i o t it d vs hl
    cases hh
    exact ⟨.deep hl (fun h=>by simpa using h) (fun _=>rfl),fun ρc hρ=>by simp only [SV.toV]; exact hρ _ _ (by simp)⟩
   ·rename_i t it d vs h0 hl
    cases hh
    exact ⟨.deep hl (fun h=>by cases h) (fun h=>by cases h),fun ρc hρ=>by simp only [SV.toV]; exact hρ _ _ (by simp)⟩
   ·cases hh
  | ptr key w i fld =>
   simp only [canV] at hh
   split at hh
   ·rename_i o t r hl
    cases hh
    exact ⟨.row hl,fun ρc hρ=>by simp only [SV.toV]; rw [hρ _ key (by simp)]⟩
   ·rename_i o t cells hl
    split at hh
    ·rename_i cells' m σ' h' hc
     cases hh
     obtain ⟨c1,c2⟩:=z4c hc
     have hle:=c1.le
     refine ⟨⟨by omega,fun j k hj=>?_,?_,?_,fun j h1 h2=>?_,fun hr j e hj=>?_,fun j e hj=>?_⟩,fun ρc hρ=>by simp only [SV.toV]; rw [hρ _ key (by simp)]⟩
     ·rcases List.mem_cons.1 hj with hj | hj
      ·simp only [Prod.mk.injEq] at hj; omega
      ·have:=c1.keys j k hj; omega
     ·rw [List.map_cons,List.nodup_cons]
      refine ⟨fun hm=>?_,c1.nodup⟩
      obtain ⟨⟨x1,x2⟩,hx1,hx⟩:=List.mem_map.1 hm
      have:=c1.keys _ _ hx1
      simp only at hx; omega
     ·rw [List.map_cons,List.nodup_cons]
      refine ⟨fun hm=>?_,c1.hkeys⟩
      obtain ⟨⟨x1,x2⟩,hx1,hx⟩:=List.mem_map.1 hm
      obtain ⟨k,d,hk,_⟩:=c1.ent _ _ hx1
      have:=c1.keys _ _ hk
      simp only at hx; omega
     ·by_cases hj:j=n
      ·subst hj; exact ⟨_,List.mem_cons_self⟩
      ·obtain ⟨e,he⟩:=c1.full j (by omega) h2; exact ⟨e,List.mem_cons_of_mem _ he⟩
     ·rcases List.mem_cons.1 hj with hj | hj
      ·simp only [Prod.mk.injEq] at hj; rw [hj.2,hr]; simp [Ent.own]
      ·exact c1.pure hr j e hj
     ·rcases List.mem_cons.1 hj with hj | hj
      ·simp only [Prod.mk.injEq] at hj
       obtain ⟨rfl,rfl⟩:=hj
       refine ⟨key,_,by simp,hl,fun ho=>?_,fun v g ht=>ht,fun ρc hρ w v he=>?_⟩
       ·simp only [Ent.own,Bool.and_eq_true] at ho ⊢; exact ho.1
       ·obtain ⟨g,hg,hhas⟩:=he
        exact ⟨g,hg,by rw [c2 ρc fun i k hi=>hρ i k (by simp [hi])]; exact hhas⟩
      ·obtain ⟨k,d,h1,h2,h3,h4,h5⟩:=c1.ent j e hj
       exact ⟨k,d,by simp [h1],h2,h3,h4,fun ρc hρ=>h5 ρc fun i k hi=>hρ i k (by simp [hi])⟩
    ·cases hh
   ·cases hh
  | agg l =>
   simp only [canV] at hh
   split at hh
   ·rename_i l' m σ' h' hc
    cases hh
    obtain ⟨c1,c2⟩:=z4c hc
    exact ⟨c1,fun ρc hρ=>by simp only [SV.toV]; rw [c2 ρc hρ]⟩
   ·cases hh
  | tup l =>
   simp only [canV] at hh
   split at hh
   ·rename_i l' m σ' h' hc
    cases hh
    obtain ⟨c1,c2⟩:=z4c hc
    exact ⟨c1,fun ρc hρ=>by simp only [SV.toV]; rw [c2 ρc hρ]⟩
   ·cases hh
  | fn g l =>
   simp only [canV] at hh
   split at hh
   ·rename_i l' m σ' h' hc
    cases hh
    obtain ⟨c1,c2⟩:=z4c hc
    exact ⟨c1,fun ρc hρ=>by simp only [SV.toV]; rw [c2 ρc hρ]⟩
   ·cases hh
  | mth g l =>
   simp only [canV] at hh
   split at hh
   ·rename_i l' m σ' h' hc
    cases hh
    obtain ⟨c1,c2⟩:=z4c hc
    exact ⟨c1,fun ρc hρ=>by simp only [SV.toV]; rw [c2 ρc hρ]⟩
   ·cases hh
  | _=>simp only [canV] at hh; cases hh; exact ⟨.nil n,fun ρc _=>by simp only [SV.toV]⟩
theorem z4c:∀ {f:Nat} {l l':List SV} {n n':Nat} {σ:KM} {h:z0d},zhl hp ro f l n=some (l',n',σ,h) ->
  CanOk ρ ro hp n n' σ h/\∀ ρc:Nat->Value,(∀ i k,(i,k) ∈ σ->ρc i=ρ k)->z0s ρc l'=z0s ρ l
 | 0,_,_,_,_,_,_,h=>by simp [zhl] at h
 | f+1,[],l',n,n',σ,h,hh=>by
  simp only [zhl] at hh; cases hh; exact ⟨.nil n,fun _ _=>by simp [z0s]⟩
 | f+1,v :: l,l',n,n',σ,h,hh=>by
  simp only [zhl] at hh
  split at hh
  ·rename_i v' m σ1 h1 hv
   split at hh
   ·rename_i l1 m1 σ2 h2 hl
    cases hh
    obtain ⟨a1,a2⟩:=canV_sound hv
    obtain ⟨b1,b2⟩:=z4c hl
    exact ⟨a1.append b1,fun ρc hρ=>by
     simp only [z0s]
     rw [a2 ρc fun i k hi=>hρ i k (List.mem_append_left _ hi),b2 ρc fun i k hi=>hρ i k (List.mem_append_right _ hi)]⟩
   ·cases hh
  ·cases hh
end
end
def z2c (α:Type):Prop:=([]:List α)=[]
theorem z07 (α:Type):z2c α=True:=by simp [z2c]
theorem zSS:(∀ (p:Prop) [Decidable p],(decide p=true)=p)/\(∀ (p:Prop) [Decidable p],(decide p=false) ↔ ¬p)/\(∀ p:Prop,(p/\True)=p)/\(∀ p:Prop,(True/\p)=p)/\(∀ (α:Type) [BEq α] [LawfulBEq α] (a b:α),((a != b)=true) ↔ a ≠ b)/\(∀ (α:Type) [BEq α] [LawfulBEq α] (a b:α),((a != b)=false) ↔ a=b)/\(∀ b:Bool,((!b)=true)=(b=false))/\(∀ b:Bool,((!b)=false)=(b=true))/\(∀ (α:Type) [BEq α] [LawfulBEq α] (a b:α),((a == b)=true) ↔ a=b)/\(∀ (α:Type) [BEq α] [LawfulBEq α] (a b:α),((a == b)=false) ↔ ¬ a=b) :=
  ⟨fun p _=>by simp,fun p _=>by simp,fun p=>by simp,fun p=>by simp,fun α _ _ a b=>by simp,fun α _ _ a b=>by simp,fun b=>by simp,fun b=>by simp,fun α _ _ a b=>by simp,fun α _ _ a b=>by simp⟩
inductive New where
 | row (t:TypeId) (r:Row)
 | box (t:TypeId) (cs:List SV)
 | deep (t it:TypeId) (d:DK)
 | view (t:TypeId) (r:Row)
def New.ent (vs:List Value):New->Ent
 | .row t r=>.row true t r
 | .box t cs=>.box true t cs
 | .deep t it d=>.deep true t it d vs none
 | .view t r=>.row false t r
def New.isView:New->Bool
 | .view _ _=>true
 | _=>false
def z8f:List New->Bool
 | []=>false
 | x :: l=>x.isView || z8f l
def frozen (σ:KM) (hp:z0d):z0d->Bool
 | []=>true
 | (k,e) :: l=>(e.own || (match lk (z8h σ k) hp with | some d=>!d.own | none=>false)) && frozen σ hp l
def New.isDeep:New->Bool
 | .deep _ _ _=>true
 | _=>false
def z9h:List New->Bool
 | []=>false
 | x :: l=>x.isDeep || z9h l
def noV:Nat->List Value:=fun _=>[]
structure FRes where
 pre:Prop
 res:SV
 rows:List New
 eff:z0d:=[]
abbrev FS:=List SV->z0d->Option FRes
def z2l (V:Nat->List Value):Nat->Nat->List New->z0d
 | _,_,[]=>[]
 | i,n,x :: l=>(n,x.ent (V i)) :: z2l V (i+1) (n+1) l
mutual
def SV.ren (σ:KM) (m nk:Nat):SV->SV
 | .row k=>.row (bif Nat.blt k m then z8h σ k else k - m+nk)
 | .ptr k w i f=>.ptr (bif Nat.blt k m then z8h σ k else k - m+nk) w i f
 | .agg l=>.agg (rens σ m nk l)
 | .tup l=>.tup (rens σ m nk l)
 | .fn f l=>.fn f (rens σ m nk l)
 | .mth f l=>.mth f (rens σ m nk l)
 | v=>v
def rens (σ:KM) (m nk:Nat):List SV->List SV
 | []=>[]
 | s :: l=>s.ren σ m nk :: rens σ m nk l
end
def Ent.ren (σ:KM) (m nk:Nat):Ent->Ent
 | .box o t cs=>.box o t (rens σ m nk cs)
 | .vec t cs=>.vec t (rens σ m nk cs)
 | e=>e
def z3u (V:Nat->List Value) (σ:KM) (m nk:Nat):Nat->Nat->List New->z0d
 | _,_,[]=>[]
 | i,n,x :: l=>(n,(x.ent (V i)).ren σ m nk) :: z3u V σ m nk (i+1) (n+1) l
def effOf (σ:KM) (m nk:Nat):z0d->z0d->z0d
 | [],hp=>hp
 | (k,e) :: l,hp=>put (z8h σ k) (e.ren σ m nk) (effOf σ m nk l hp)
def zbv (eff:z0d):z0d->Bool
 | []=>true
 | (k,e) :: l=>(!e.own || (lk k eff).isSome) && zbv eff l
def z8b:z0d->Bool
 | []=>true
 | (k,_) :: l=>(lk k l).isNone && z8b l
def zbw (m:Nat) (h:z0d):z0d->Bool
 | []=>true
 | (k,e) :: l=>Nat.blt k m && e.own && (match lk k h with | some d=>d.own | none=>false) && zbw m h l
def zc0 (n:Nat):KM->Bool
 | []=>true
 | (_,k) :: l=>Nat.blt k n && zc0 n l
def z03 (ro:Bool) (fs:FS):Spec:=fun args hp nk K =>
 match zhl hp ro 64 args 0 with
 | none=>StuckAt 5 (args,hp)
 | some (args',m,σ,h)=>match fs args' h with
  | none=>StuckAt 6 (args',h)
  | some r=>bif Nat.beq m h.length && zdf σ h && zdj σ h && zbv r.eff h && z8b r.eff && zbw m h r.eff && zc0 nk σ && z31 nk hp && (bif z8f r.rows then frozen σ hp h else true) then
    r.pre/\(bif z9h r.rows then ∀ V:Nat->List Value,K (r.res.ren σ m nk) (z3u V σ m nk 0 nk r.rows ++ effOf σ m nk r.eff hp) (nk+r.rows.length)
     else K (r.res.ren σ m nk) (z3u noV σ m nk 0 nk r.rows ++ effOf σ m nk r.eff hp) (nk+r.rows.length))
   else StuckAt 7 (args',h,σ)
structure FRel where
 pre:Prop
 G:Type
 post:G->Prop
 out:G->FRes
abbrev FR:=List SV->z0d->Option FRel
def fsR (fs:FS):FR:=fun args h=>match fs args h with
 | some r=>some ⟨r.pre,Unit,fun _=>True,fun _=>r⟩
 | none=>none
def z0l (ro:Bool) (fs:FR):Spec:=fun args hp nk K =>
 match zhl hp ro 64 args 0 with
 | none=>StuckAt 5 (args,hp)
 | some (args',m,σ,h)=>match fs args' h with
  | none=>StuckAt 6 (args',h)
  | some R=>bif Nat.beq m h.length && zdf σ h && zdj σ h && zc0 nk σ && z31 nk hp then
    R.pre/\∀ g:R.G,R.post g->(bif zbv (R.out g).eff h && z8b (R.out g).eff && zbw m h (R.out g).eff && (bif z8f (R.out g).rows then frozen σ hp h else true) then
     (bif z9h (R.out g).rows then ∀ V:Nat->List Value,K ((R.out g).res.ren σ m nk) (z3u V σ m nk 0 nk (R.out g).rows ++ effOf σ m nk (R.out g).eff hp) (nk+(R.out g).rows.length)
      else K ((R.out g).res.ren σ m nk) (z3u noV σ m nk 0 nk (R.out g).rows ++ effOf σ m nk (R.out g).eff hp) (nk+(R.out g).rows.length))
     else StuckAt 7 (args',h,σ))
   else StuckAt 7 (args',h,σ)
def outS (m:Nat) (r:FRes) (v:SV) (s:St):Prop :=
 bif z9h r.rows then ∃ V:Nat->List Value,Sub m ⟨[(0,v)],s.hp,s.nk⟩ ⟨[(0,r.res)],z2l V 0 m r.rows ++ r.eff,m+r.rows.length⟩
 else Sub m ⟨[(0,v)],s.hp,s.nk⟩ ⟨[(0,r.res)],z2l noV 0 m r.rows ++ r.eff,m+r.rows.length⟩
theorem outS_ex {m:Nat} {r:FRes} {v:SV} {s:St} (h:outS m r v s):∃ V:Nat->List Value,Sub m ⟨[(0,v)],s.hp,s.nk⟩ ⟨[(0,r.res)],z2l V 0 m r.rows ++ r.eff,m+r.rows.length⟩:=by
 unfold outS at h
 cases hd:z9h r.rows with
 | true=>rw [hd] at h; exact h
 | false=>rw [hd] at h; exact ⟨_,h⟩
def z2r (T:Tys) (Γ:z0c) (I:List (Nat × z08)) (A:List (Nat × Ann)) (fn:Func) (args:List SV) (h:z0d) (r:FRes):Prop :=
 vcFun T Γ I A fn.ntmps fn.results.toList (fn.body.getD .skip) args h h.length fun v s=>outS h.length r v s
structure FVc (T:Tys) (Γ:z0c) (I:List (Nat × z08)) (A:List (Nat × Ann)) (fn:Func) (args:List SV) (h:z0d) (r:FRes):Prop where
 out:z2r T Γ I A fn args h r
theorem FVc.of {T:Tys} {Γ:z0c} {I:List (Nat × z08)} {A:List (Nat × Ann)} {fn:Func} {args:List SV} {h:z0d} {r:FRes} (E:Prop) (he:E=z2r T Γ I A fn args h r) (hE:E):FVc T Γ I A fn args h r:=⟨he ▸ hE⟩
def z6x (T:Tys) (Γ:z0c) (I:List (Nat × z08)) (A:List (Nat × Ann)) (fn:Func) (args:List SV) (h:z0d) (R:FRel):Prop :=
 vcFun T Γ I A fn.ntmps fn.results.toList (fn.body.getD .skip) args h h.length fun v s=>∃ g:R.G,R.post g/\outS h.length (R.out g) v s
structure FVcR (T:Tys) (Γ:z0c) (I:List (Nat × z08)) (A:List (Nat × Ann)) (fn:Func) (args:List SV) (h:z0d) (R:FRel):Prop where
 out:z6x T Γ I A fn args h R
theorem FVcR.of {T:Tys} {Γ:z0c} {I:List (Nat × z08)} {A:List (Nat × Ann)} {fn:Func} {args:List SV} {h:z0d} {R:FRel} (E:Prop) (he:E=z6x T Γ I A fn args h R) (hE:E):FVcR T Γ I A fn args h R:=⟨he ▸ hE⟩
def FunVc (T:Tys) (Γ:z0c) (I:List SV->z0d->List (Nat × z08)) (A:List SV->z0d->List (Nat × Ann)) (N:Nat) (res:List ResultVar) (c:Code) (fs:FS):Prop :=
 ∀ args h r m,fs args h=some r->r.pre->m=h.length->vcFun T Γ (I args h) (A args h) N res c args h m fun v s =>
  outS m r v s
section
variable {P:Program} {T:Tys} {Γ:z0c}
mutual
theorem ren_toV {σ:KM} {m nk:Nat} {ρ ρ' ρ'':Nat->Value} (h1:∀ k,k<m->ρ' (z8h σ k)=ρ'' k) (h2:∀ k,m <= k->ρ' (k - m+nk)=ρ'' k):∀ v:SV,(v.ren σ m nk).toV ρ'=v.toV ρ''
 | .int _ _=>by simp [SV.ren,SV.toV]
 | .tt=>by simp [SV.ren,SV.toV]
 | .ff=>by simp [SV.ren,SV.toV]
 | .bool _=>by simp [SV.ren,SV.toV]
 | .val _=>by simp [SV.ren,SV.toV]
 | .row k=>by
  simp only [SV.ren,SV.toV]
  cases hk:Nat.blt k m with
  | true=>exact h1 k (z1z hk)
  | false=>exact h2 k (Nat.le_of_not_lt fun h=>by rw [show Nat.blt k m=true by simpa [Nat.blt_eq] using h] at hk; cases hk)
 | .ptr k w i f=>by
  simp only [SV.ren,SV.toV]
  have:ρ' (bif Nat.blt k m then z8h σ k else k - m+nk)=ρ'' k:=by
   cases hk:Nat.blt k m with
   | true=>exact h1 k (z1z hk)
   | false=>exact h2 k (Nat.le_of_not_lt fun h=>by rw [show Nat.blt k m=true by simpa [Nat.blt_eq] using h] at hk; cases hk)
  rw [this]
 | .agg l=>by simp only [SV.ren,SV.toV]; rw [z6q (ρ:=ρ) h1 h2 l]
 | .tup l=>by simp only [SV.ren,SV.toV]; rw [z6q (ρ:=ρ) h1 h2 l]
 | .fn f l=>by simp only [SV.ren,SV.toV]; rw [z6q (ρ:=ρ) h1 h2 l]
 | .mth f l=>by simp only [SV.ren,SV.toV]; rw [z6q (ρ:=ρ) h1 h2 l]
theorem z6q {σ:KM} {m nk:Nat} {ρ ρ' ρ'':Nat->Value} (h1:∀ k,k<m->ρ' (z8h σ k)=ρ'' k) (h2:∀ k,m <= k->ρ' (k - m+nk)=ρ'' k):∀ l:List SV,z0s ρ' (rens σ m nk l)=z0s ρ'' l
 | []=>by simp [rens,z0s]
 | s :: l=>by simp only [rens,z0s]; rw [ren_toV (ρ:=ρ) h1 h2 s,z6q (ρ:=ρ) h1 h2 l]
end
theorem New.own (x:New) (vs:List Value):(x.ent vs).own = !x.isView:=by cases x <;> rfl
theorem hasView_of:∀ {l:List New} {i:Nat} {x:New},l[i]? = some x->x.isView=true->z8f l=true
 | [],i,x,h,_=>by simp at h
 | y :: l,0,x,h,hx=>by simp at h; subst h; simp [z8f,hx]
 | y :: l,i+1,x,h,hx=>by
  rw [List.getElem?_cons_succ] at h
  simp [z8f,hasView_of h hx]
theorem frozen_lk {σ:KM} {hp:z0d}:∀ {h:z0d},frozen σ hp h=true->∀ {k:Nat} {e:Ent},lk k h=some e->e.own=false->∃ d,lk (z8h σ k) hp=some d/\d.own=false
 | [],_,k,e,h,_=>by simp [lk] at h
 | (j,d) :: l,hh,k,e,h,ho=>by
  simp only [frozen,Bool.and_eq_true] at hh
  rw [z0g] at h
  split at h
  ·rename_i hk; subst hk; cases h
   have h1:=hh.1
   rw [ho] at h1
   simp only [Bool.false_or] at h1
   split at h1
   ·rename_i d hd; exact ⟨d,hd,by simpa using h1⟩
   ·cases h1
  ·exact frozen_lk hh.2 h ho
theorem zfq {V:Nat->List Value}:∀ {rows:List New} {i n k:Nat} {e:Ent},lk k (z2l V i n rows)=some e->n <= k/\k<n+rows.length/\∃ x,rows[k - n]? = some x/\e=x.ent (V (i+(k - n)))
 | [],i,n,k,e,h=>by simp [z2l,lk] at h
 | x :: l,i,n,k,e,h=>by
  rw [z2l,z0g] at h
  split at h
  ·rename_i hk; subst hk; cases h; exact ⟨Nat.le_refl _,by simp,x,by simp,by simp⟩
  ·rename_i hk
   obtain ⟨h1,h2,x',h3,h4⟩:=zfq h
   refine ⟨by omega,by simp; omega,x',?_,?_⟩
   ·rw [show k - n=(k - (n+1))+1 by omega,List.getElem?_cons_succ]; exact h3
   ·rw [h4,show i+1+(k - (n+1))=i+(k - n) by omega]
theorem newRens_lk {V:Nat->List Value} {σ:KM} {m nk:Nat}:∀ {rows:List New} {i n k:Nat} {e:Ent},lk k (z3u V σ m nk i n rows)=some e->n <= k/\k<n+rows.length/\∃ x,rows[k - n]? = some x/\e=(x.ent (V (i+(k - n)))).ren σ m nk
 | [],i,n,k,e,h=>by simp [z3u,lk] at h
 | x :: l,i,n,k,e,h=>by
  rw [z3u,z0g] at h
  split at h
  ·rename_i hk; subst hk; cases h; exact ⟨Nat.le_refl _,by simp,x,by simp,by simp⟩
  ·rename_i hk
   obtain ⟨h1,h2,x',h3,h4⟩:=newRens_lk h
   refine ⟨by omega,by simp; omega,x',?_,?_⟩
   ·rw [show k - n=(k - (n+1))+1 by omega,List.getElem?_cons_succ]; exact h3
   ·rw [h4,show i+1+(k - (n+1))=i+(k - n) by omega]
theorem newRows_at {V:Nat->List Value}:∀ {rows:List New} {i0 n i:Nat} {x:New},rows[i]? = some x->lk (n+i) (z2l V i0 n rows)=some (x.ent (V (i0+i)))
 | [],i0,n,i,x,h=>by simp at h
 | y :: l,i0,n,0,x,h=>by
  simp only [List.getElem?_cons_zero,Option.some.injEq] at h
  subst h
  rw [z2l,Nat.add_zero,z0g,if_pos rfl,Nat.add_zero]
 | y :: l,i0,n,i+1,x,h=>by
  rw [List.getElem?_cons_succ] at h
  rw [z2l,z0g,if_neg (by omega),show n+(i+1)=n+1+i by omega,show i0+(i+1)=i0+1+i by omega]
  exact newRows_at h
theorem zh7 {V V':Nat->List Value} {σ:KM} {m nk:Nat}:∀ {rows:List New} {i n:Nat},z9h rows=false->z3u V σ m nk i n rows=z3u V' σ m nk i n rows
 | [],_,_,_=>rfl
 | x :: l,i,n,h=>by
  simp only [z9h,Bool.or_eq_false_iff] at h
  rw [z3u,z3u,zh7 h.2]
  cases x with
  | deep t it d=>cases h.1
  | _=>rfl
theorem effOf_lk {σ:KM} {m nk:Nat} {hp:z0d}:∀ {eff:z0d} {k:Nat} {e:Ent},lk k (effOf σ m nk eff hp)=some e ->
  (∃ j d,(j,d) ∈ eff/\k=z8h σ j/\e=d.ren σ m nk) ∨ (lk k hp=some e/\∀ j d,(j,d) ∈ eff->k ≠ z8h σ j)
 | [],k,e,h=>.inr ⟨h,fun _ _ h=>by simp at h⟩
 | (j,d) :: l,k,e,h=>by
  rw [effOf,z51] at h
  split at h
  ·rename_i hk; cases h; exact .inl ⟨j,d,by simp,hk,rfl⟩
  ·rename_i hk
   rcases effOf_lk h with ⟨j',d',h1,h2,h3⟩ | ⟨h1,h2⟩
   ·exact .inl ⟨j',d',by simp [h1],h2,h3⟩
   ·refine .inr ⟨h1,fun j' d' hm=>?_⟩
    rcases List.mem_cons.1 hm with hm | hm
    ·cases hm; exact hk
    ·exact h2 j' d' hm
theorem zjy:∀ {h:z0d},z8b h=true->∀ {j:Nat} {d:Ent},(j,d) ∈ h->lk j h=some d
 | [],_,j,d,hm=>by simp at hm
 | (k,e) :: l,hh,j,d,hm=>by
  simp only [z8b,Bool.and_eq_true,Option.isNone_iff_eq_none] at hh
  rw [z0g]
  rcases List.mem_cons.1 hm with hm | hm
  ·cases hm; simp
  ·have:=zjy hh.2 hm
   split
   ·rename_i hk; subst hk; rw [hh.1] at this; cases this
   ·exact this
theorem zi1 {α:Type}:∀ {h:List (Nat × α)},(h.map (·.1)).Nodup->∀ {j:Nat} {d:α},(j,d) ∈ h->lk j h=some d
 | [],_,j,d,hm=>by simp at hm
 | (k,e) :: l,hh,j,d,hm=>by
  rw [List.map_cons,List.nodup_cons] at hh
  rw [z0g]
  rcases List.mem_cons.1 hm with hm' | hm'
  ·cases hm'; simp
  ·have:=zi1 hh.2 hm'
   rw [if_neg]
   ·exact this
   ·intro hjk; subst hjk; exact hh.1 (List.mem_map.2 ⟨_,hm',rfl⟩)
theorem covered_lk {eff:z0d}:∀ {h:z0d},zbv eff h=true->∀ {k:Nat} {e:Ent},lk k h=some e->e.own=true->∃ d,(k,d) ∈ eff
 | [],_,k,e,h=>by simp [lk] at h
 | (j,d) :: l,hh,k,e,h=>by
  intro ho
  simp only [zbv,Bool.and_eq_true] at hh
  rw [z0g] at h
  split at h
  ·rename_i hk; subst hk; cases h
   rw [ho] at hh
   simp only [Bool.not_true,Bool.false_or] at hh
   obtain ⟨y,hy⟩:=Option.isSome_iff_exists.1 hh.1
   exact ⟨y,z7m hy⟩
  ·exact covered_lk hh.2 h ho
theorem z6i {m:Nat} {h:z0d}:∀ {eff:z0d},zbw m h eff=true->∀ {k:Nat} {e:Ent},(k,e) ∈ eff->k<m/\e.own=true/\∃ d,lk k h=some d/\d.own=true
 | [],_,k,e,hm=>by simp at hm
 | (j,d) :: l,hh,k,e,hm=>by
  simp only [zbw,Bool.and_eq_true] at hh
  rcases List.mem_cons.1 hm with hm | hm
  ·cases hm
   refine ⟨z1z hh.1.1.1,hh.1.1.2,?_⟩
   have:=hh.1.2
   split at this
   ·rename_i d hd; exact ⟨d,hd,this⟩
   ·cases this
  ·exact z6i hh.2 hm
theorem zkx {n:Nat}:∀ {σ:KM},zc0 n σ=true->∀ {j k:Nat},(j,k) ∈ σ->k<n
 | [],_,j,k,hm=>by simp at hm
 | (i,x) :: l,hh,j,k,hm=>by
  simp only [zc0,Bool.and_eq_true] at hh
  rcases List.mem_cons.1 hm with hm | hm
  ·cases hm; exact z1z hh.1
  ·exact zkx hh.2 hm
theorem ren_own {σ:KM} {m nk:Nat} {d:Ent}:(d.ren σ m nk).own=d.own:=by cases d <;> rfl
theorem ren_touch {σ:KM} {m nk:Nat} {d:Ent} {v:Value} {g:Nat}:(d.ren σ m nk).touch v g ↔ d.touch v g:=by
 cases d with
 | box o t cs=>exact Iff.rfl
 | vec t cs=>exact Iff.rfl
 | _=>exact Iff.rfl
def Leaves (ρc:Nat->Value) (hc:z0d) (r:FRes) (w:World) (e:Ending) (w':World):Prop :=
 ∃ (V:Nat->List Value) (ρ2:Nat->Value),e = .returned (r.res.toV ρ2)/\HOk ρ2 (z2l V 0 hc.length r.rows ++ r.eff) w'/\Fr (zf2 ρc hc) w w' /\
  Inside (foot ρc hc) w ρ2 (z2l V 0 hc.length r.rows ++ r.eff)/\∀ k,k<hc.length->ρ2 k=ρc k
theorem zhf {ro:Bool} {fs:FR} {f:FuncId} (henter:∀ args w,(callFunc f args).run P w = .ok (.enter f args) w)
  (hcall:∀ args' hc (R:FRel) ρc w,fs args' hc=some R->R.pre->HOk ρc hc w->Calls P f (z0s ρc args').toArray w (fun e w'=>∃ g:R.G,R.post g/\Leaves ρc hc (R.out g) w e w')):SpecOk P f ro (z0l ro fs):=by
 refine .fn henter (fun ρ hp nk w args K hh h=>?_)
 unfold z0l at h
 split at h
 ·exact h.elim
 ·rename_i args' m σ hc hcan
  split at h
  ·exact h.elim
  ·rename_i R hr
   cases hb':(Nat.beq m hc.length && zdf σ hc && zdj σ hc && zc0 nk σ && z31 nk hp) with
   | false=>rw [hb'] at h; exact h.elim
   | true =>
    rw [hb'] at h
    simp only [cond_true] at h
    simp only [Bool.and_eq_true] at hb'
    obtain ⟨⟨⟨⟨b0,b1⟩,b2⟩,b6⟩,b7⟩:=hb'
    obtain ⟨hpre,hK⟩:=h
    have b0:=z10 b0
    obtain ⟨can,hvs⟩:=z4c (ρ:=ρ) hcan
    let ρc:Nat->Value:=fun k=>ρ (z8h σ k)
    have hρc:∀ i k,(i,k) ∈ σ->ρc i=ρ k:=fun i k hi=>by
     have:=zi1 can.nodup hi
     simp [ρc,z8h,this]
    have hkm:∀ i k,(i,k) ∈ σ->z8h σ i=k:=fun i k hi=>by
     have:=zi1 can.nodup hi
     simp [z8h,this]
    have hcH:HOk ρc hc w:=by
     refine ⟨fun k=>hh.one _,fun j e hj=>?_,fun j e j' e' hj hj' hne ho g ht=>?_⟩
     ·obtain ⟨k,d,h1,h2,h3,h4,h5⟩:=can.ent j e (z7m hj)
      have:=h5 ρc hρc w _ (hh.ent k d h2)
      rw [hρc j k h1]; exact this
     ·obtain ⟨k,d,h1,h2,h3,h4,h5⟩:=can.ent j e (z7m hj)
      obtain ⟨k',d',h1',h2',h3',h4',h5'⟩:=can.ent j' e' (z7m hj')
      intro ht'
      have hne':=zki b1 hj ho j' k' h1' (Ne.symm hne)
      rw [hkm j k h1] at hne'
      rw [hρc j k h1] at ht
      rw [hρc j' k' h1'] at ht'
      exact hh.sep k d k' d' h2 h2' (Ne.symm hne') (h3 ho) g (h4 _ _ ht) (h4' _ _ ht')
    have hcO:∀ g,zf2 ρc hc g->∃ j e k d,lk j hc=some e/\e.own=true/\(j,k) ∈ σ/\lk k hp=some d/\d.own=true/\d.touch (ρ k) g:=by
     rintro g ⟨j,e,hj,ho,ht⟩
     obtain ⟨k,d,h1,h2,h3,h4,h5⟩:=can.ent j e (z7m hj)
     rw [hρc j k h1] at ht
     exact ⟨j,e,k,d,hj,ho,h1,h2,h3 ho,h4 _ _ ht⟩
    have hcalls:=hcall args' hc R ρc w hr hpre hcH
    rw [<- hvs ρc hρc]
    refine hcalls.mono fun e w' he=>?_
    obtain ⟨gh,hpost,V,ρ2,rfl,hH2,hfr,hown2,hbase⟩:=he
    replace hK:=hK gh hpost
    generalize R.out gh=r at hH2 hown2 hK ⊢
    cases hb2:(zbv r.eff hc && z8b r.eff && zbw m hc r.eff && (bif z8f r.rows then frozen σ hp hc else true)) with
    | false=>rw [hb2] at hK; exact hK.elim
    | true =>
    rw [hb2] at hK
    simp only [cond_true] at hK
    simp only [Bool.and_eq_true] at hb2
    obtain ⟨⟨⟨b3,b4⟩,b5⟩,b8⟩:=hb2
    subst b0
    replace hK:K (r.res.ren σ hc.length nk) (z3u V σ hc.length nk 0 nk r.rows ++ effOf σ hc.length nk r.eff hp) (nk+r.rows.length):=by
     cases hdp:z9h r.rows with
     | true=>rw [hdp] at hK; exact hK V
     | false=>rw [hdp] at hK; rw [zh7 (V':=noV) hdp]; exact hK
    let ρn:Nat->Value:=fun k=>if k<nk then ρ k else ρ2 (k - nk+hc.length)
    have n1:∀ k,k<nk->ρn k=ρ k:=fun k hk=>by simp [ρn,hk]
    have n2:∀ k,hc.length <= k->ρn (k - hc.length+nk)=ρ2 k:=fun k hk=>by
     simp only [ρn]; rw [if_neg (by omega)]; congr 1; omega
    have hσ:∀ j k,(j,k) ∈ σ->k<nk:=fun j k hj=>zkx b6 hj
    have hmem:∀ j e,lk j hc=some e->(j,z8h σ j) ∈ σ:=fun j e hj=>zks b2 hj
    have hold:∀ k e,lk k hp=some e->k<nk:=fun k e hl=>(zaq b7 hl).1
    have hjlt:∀ j,j<hc.length->∃ e,lk j hc=some e:=fun j hj=>by
     obtain ⟨e,he⟩:=can.full j (Nat.zero_le _) hj
     exact ⟨e,zi1 can.hkeys he⟩
    have n3:∀ k,k<hc.length->ρn (z8h σ k)=ρ2 k:=fun k hk=>by
     obtain ⟨e,he⟩:=hjlt k hk
     rw [n1 _ (hσ _ _ (hmem k e he)),hbase k hk]
    have hcases:∀ k e,lk k (z3u V σ hc.length nk 0 nk r.rows ++ effOf σ hc.length nk r.eff hp)=some e ->
      (nk <= k/\ρn k=ρ2 (k - nk+hc.length)/\∃ x:Ent,lk (k - nk+hc.length) (z2l V 0 hc.length r.rows ++ r.eff)=some x/\e=x.ren σ hc.length nk) ∨
      (∃ j d,(j,d) ∈ r.eff/\k=z8h σ j/\k<nk/\e=d.ren σ hc.length nk/\lk j (z2l V 0 hc.length r.rows ++ r.eff)=some d/\ρn k=ρ2 j/\∃ d0,lk j hc=some d0/\d0.own=true) ∨
      (k<nk/\lk k hp=some e/\ρn k=ρ k/\∀ j d,(j,d) ∈ r.eff->k ≠ z8h σ j):=by
     intro k e hl
     rw [z6m] at hl
     cases hn:lk k (z3u V σ hc.length nk 0 nk r.rows) with
     | some e' =>
      rw [hn] at hl
      simp only [Option.some_or,Option.some.injEq] at hl
      subst hl
      obtain ⟨h1,h2,x,h3,rfl⟩:=newRens_lk hn
      refine .inl ⟨h1,by simp only [ρn]; rw [if_neg (by omega)],_,?_,rfl⟩
      rw [z6m,show k - nk+hc.length=hc.length+(k - nk) by omega,newRows_at h3]; rfl
     | none =>
      rw [hn] at hl
      simp only [Option.none_or] at hl
      rcases effOf_lk hl with ⟨j,d,h1,rfl,h3⟩ | ⟨h1,h2⟩
      ·obtain ⟨e1,e2,d0,e3,e4⟩:=z6i b5 h1
       refine .inr (.inl ⟨j,d,h1,rfl,hσ _ _ (hmem j d0 e3),h3,?_,n3 j e1,d0,e3,e4⟩)
       rw [z6m]
       have:lk j (z2l V 0 hc.length r.rows)=none:=by
        cases hx:lk j (z2l V 0 hc.length r.rows) with
        | none=>rfl
        | some y=>have:=(zfq hx).1; omega
       rw [this]
       exact zjy b4 h1
      ·exact .inr (.inr ⟨hold k e h1,h1,n1 k (hold k e h1),h2⟩)
    have hkeep:∀ k e,lk k hp=some e->(∀ j d,(j,d) ∈ r.eff->k ≠ z8h σ j)->∀ g,e.touch (ρ k) g->¬ zf2 ρc hc g:=by
     intro k e hl hne g ht hO
     obtain ⟨j,e',k',d,h1,h2,h3,h4,h5,h6⟩:=hcO g hO
     obtain ⟨d',hd'⟩:=covered_lk b3 h1 h2
     have:=hne j d' hd'
     rw [hkm j k' h3] at this
     exact hh.sep k' d k e h4 hl (Ne.symm this) h5 g h6 ht
    have hentC:∀ k d,lk k (z2l V 0 hc.length r.rows ++ r.eff)=some d->EntOk ρ2 w' (ρ2 k) d:=hH2.ent
    refine ⟨_,_,_,ρn,?_,hK,⟨fun k=>?_,fun k e hl=>?_,fun k e k' e' hl hl' hne ho g ht=>?_⟩,n1,by omega,⟨hfr.os,hfr.tape,hfr.output,hfr.size,fun g hg hO=>hfr.block g hg fun hO'=>hO ?_⟩,fun k e hl g ht=>?_,fun hr=>⟨hfr.size,fun k hk=>hfr.block k hk ?_⟩⟩
    ·rw [ren_toV (ρ:=ρ) n3 n2]
    ·simp only [ρn]; split
     ·exact hh.one k
     ·exact hH2.one _
    ·have hren:∀ (v:Value) (d:Ent),EntOk ρ2 w' v d->EntOk ρn w' v (d.ren σ hc.length nk):=by
      intro v d this
      cases d with
      | row o t rr=>cases o <;> exact this
      | loop st R=>exact this
      | map kk vk mm=>exact this
      | deep o t it dd vs hh=>cases o <;> exact this
      | vec t cells =>
       obtain ⟨g,hg,hhas⟩:=this
       refine ⟨g,?_,by rw [z6q (ρ:=ρ) n3 n2]; exact hhas⟩
       have hlen:(rens σ hc.length nk cells).length=cells.length:=by
        have:∀ l:List SV,(rens σ hc.length nk l).length=l.length:=by intro l; induction l with | nil=>rfl | cons x l ih=>simp [rens,ih]
        exact this cells
       rw [hlen]; exact hg
      | box o t cells =>
       obtain ⟨g,hg,hhas⟩:=this
       exact ⟨g,hg,by rw [z6q (ρ:=ρ) n3 n2]; exact hhas⟩
     rcases hcases k e hl with ⟨_,h3,x,h2,rfl⟩ | ⟨j,d,h1,h2,h3,rfl,h5,h6,_⟩ | ⟨h1,h2,h3,h4⟩
     ·rw [h3]; exact hren _ _ (hentC _ _ h2)
     ·rw [h6]; exact hren _ _ (hentC _ _ h5)
     ·rw [h3]
      have he:=hh.ent k e h2
      have hk':=he.keep (w':=w') fun g ht=>hfr.block g (he.lt ht) (hkeep k e h2 h4 g ht)
      exact hk'.congr (zaq b7 h2).2 n1
    ·have fresh:∀ k d,lk k (z2l V 0 hc.length r.rows ++ r.eff)=some d->d.own=true->∀ g,d.touch (ρ2 k) g->zf2 ρc hc g ∨ w.heap.size <= g:=fun k d h1 h2 g h3=>hown2.owned ⟨k,d,h1,h2,h3⟩
     have key:∀ k e,lk k (z3u V σ hc.length nk 0 nk r.rows ++ effOf σ hc.length nk r.eff hp)=some e->∀ g,e.touch (ρn k) g ->
       (∃ j d,lk j (z2l V 0 hc.length r.rows ++ r.eff)=some d/\d.own=e.own/\d.touch (ρ2 j) g/\(k=j - hc.length+nk/\hc.length <= j ∨ k=z8h σ j/\j<hc.length) ) ∨ (lk k hp=some e/\e.touch (ρ k) g/\¬ zf2 ρc hc g/\g<w.heap.size):=by
      intro k e hl g ht
      rcases hcases k e hl with ⟨h1,h3,x,h2,rfl⟩ | ⟨j,d,h1,h2,h3,rfl,h5,h6,d0,h7,h8⟩ | ⟨h1,h2,h3,h4⟩
      ·rw [h3] at ht; exact .inl ⟨_,_,h2,ren_own.symm,ren_touch.1 ht,.inl ⟨by omega,by omega⟩⟩
      ·rw [h6] at ht
       exact .inl ⟨j,d,h5,ren_own.symm,ren_touch.1 ht,.inr ⟨h2,(z6i b5 h1).1⟩⟩
      ·rw [h3] at ht; exact .inr ⟨h2,ht,hkeep k e h2 h4 g ht,(hh.ent k e h2).lt ht⟩
     intro ht'
     rcases key k e hl g ht with ⟨j,d,a1,a2,a3,a4⟩ | ⟨a1,a2,a3,a4⟩ <;> rcases key k' e' hl' g ht' with ⟨j',d',c1,c2,c3,c4⟩ | ⟨c1,c2,c3,c4⟩
     ·refine hH2.sep j d j' d' a1 c1 (fun e=>hne ?_) (a2.trans ho) g a3 c3
      subst e
      rcases a4 with ⟨p,q⟩ | ⟨p,q⟩ <;> rcases c4 with ⟨p',q'⟩ | ⟨p',q'⟩
      ·omega
      ·omega
      ·omega
      ·rw [p,p']
     ·rcases fresh j d a1 (a2.trans ho) g a3 with h | h
      ·exact c3 h
      ·omega
     ·rcases hown2 j' d' c1 g c3 with (h | h) | ⟨h,j0,e0,hj0,ho0,ht0⟩
      ·exact a3 h
      ·omega
      ·
       have hv:z8f r.rows=true:=by
        rw [z6m] at c1
        cases hn:lk j' (z2l V 0 hc.length r.rows) with
        | some y =>
         rw [hn] at c1
         simp only [Option.some_or,Option.some.injEq] at c1
         subst c1
         obtain ⟨_,_,x,h3,h4⟩:=zfq hn
         rw [h4,New.own] at h
         exact hasView_of h3 (by simpa using h)
        | none =>
         rw [hn] at c1
         simp only [Option.none_or] at c1
         have:=(z6i b5 (z7m c1)).2.1
         rw [h] at this; cases this
       rw [hv] at b8
       simp only [cond_true] at b8
       obtain ⟨k0,d0,h1,h2,h3,h4,h5⟩:=can.ent j0 e0 (z7m hj0)
       obtain ⟨d1,hd1,hd2⟩:=frozen_lk b8 hj0 ho0
       rw [hkm j0 k0 h1,h2] at hd1
       cases hd1
       rw [hρc j0 k0 h1] at ht0
       refine hh.sep k e k0 d0 a1 h2 (fun e1=>?_) ho g a2 (h4 _ _ ht0)
       subst e1
       rw [a1] at h2; cases h2
       rw [hd2] at ho; cases ho
     ·exact hh.sep k e k' e' a1 c1 hne ho g a2 c2
    ·obtain ⟨j,e',k',d,h1,h2,h3,h4,h5,h6⟩:=hcO g hO'
     exact ⟨k',d,h4,h5,h6⟩
    ·rcases hcases k e hl with ⟨h1,h3,x,h2,rfl⟩ | ⟨j,d,h1,h2,h3,rfl,h5,h6,d0,h7,h8⟩ | ⟨h1,h2,h3,h4⟩
     ·rw [h3] at ht
      rw [ren_own]
      rcases hown2 _ _ h2 g (ren_touch.1 ht) with (h | h) | ⟨h,j0,e0,hj0,ho0,ht0⟩
      ·obtain ⟨j,e',k',d,h1,h2,h3,h4,h5,h6⟩:=hcO g h
       exact .inl (.inl ⟨k',d,h4,h5,h6⟩)
      ·exact .inl (.inr h)
      ·obtain ⟨k0,d0,h1,h2,h3,h4,h5⟩:=can.ent j0 e0 (z7m hj0)
       rw [hρc j0 k0 h1] at ht0
       cases hd:d0.own with
       | true=>exact .inl (.inl ⟨k0,d0,h2,hd,h4 _ _ ht0⟩)
       | false=>exact .inr ⟨h,k0,d0,h2,hd,h4 _ _ ht0⟩
     ·rw [h6] at ht
      rcases hown2.owned ⟨_,_,h5,(z6i b5 h1).2.1,ren_touch.1 ht⟩ with h | h
      ·obtain ⟨j,e',k',d,h1,h2,h3,h4,h5,h6⟩:=hcO g h
       exact .inl (.inl ⟨k',d,h4,h5,h6⟩)
      ·exact .inl (.inr h)
     ·rw [h3] at ht
      exact foot_own ρ hp w k e h2 g ht
    ·rintro ⟨j,e,hj,ho,_⟩
     rw [can.pure hr j e (z7m hj)] at ho
     cases ho
theorem SpecOk.weaken {f:FuncId} {ro:Bool} {spec spec':Spec} (h:SpecOk P f ro spec') (hs:∀ args hp nk K,spec args hp nk K->spec' args hp nk K):SpecOk P f ro spec:=by
 cases h with
 | fn h1 h2=>exact .fn h1 fun ρ hp nk w args K hh h=>h2 ρ hp nk w args K hh (hs _ _ _ _ h)
 | ext h1=>exact .ext fun ρ hp nk w args K hh h=>h1 ρ hp nk w args K hh (hs _ _ _ _ h)
theorem specOf_R {ro:Bool} {fs:FS} {args:List SV} {hp:z0d} {nk:Nat} {K:SV->z0d->Nat->Prop} (h:z03 ro fs args hp nk K):z0l ro (fsR fs) args hp nk K:=by
 unfold z03 at h
 unfold z0l fsR
 split at h
 ·exact h.elim
 ·rename_i args' m σ hc hcan
  split at h
  ·exact h.elim
  ·rename_i r hr
   rw [hr]
   dsimp only
   cases hb':(Nat.beq m hc.length && zdf σ hc && zdj σ hc && zbv r.eff hc && z8b r.eff && zbw m hc r.eff && zc0 nk σ && z31 nk hp && (bif z8f r.rows then frozen σ hp hc else true)) with
   | false=>rw [hb'] at h; exact h.elim
   | true =>
    rw [hb'] at h
    simp only [cond_true] at h
    simp only [Bool.and_eq_true] at hb'
    obtain ⟨⟨⟨⟨⟨⟨⟨⟨b0,b1⟩,b2⟩,b3⟩,b4⟩,b5⟩,b6⟩,b7⟩,b8⟩:=hb'
    rw [b0,b1,b2,b6,b7]
    refine ⟨h.1,fun _ _=>?_⟩
    rw [b3,b4,b5,b8]
    exact h.2
theorem spec_ok_gen {ro:Bool} {fs:FS} {f:FuncId} (henter:∀ args w,(callFunc f args).run P w = .ok (.enter f args) w)
  (hcall:∀ args' hc r ρc w,fs args' hc=some r->r.pre->HOk ρc hc w->Calls P f (z0s ρc args').toArray w (Leaves ρc hc r w)):SpecOk P f ro (z03 ro fs):=by
 refine (zhf (ro:=ro) (fs:=fsR fs) henter fun args' hc R ρc w hR hpre hH=>?_).weaken fun _ _ _ _ h=>specOf_R h
 unfold fsR at hR
 split at hR
 ·rename_i r hr
  cases hR
  exact (hcall args' hc r ρc w hr hpre hH).mono fun e w' he=>⟨(),trivial,he⟩
 ·cases hR
theorem spec_ok {ro:Bool} {fs:FS} (hT:z5w P T) (hΓ:z1c P Γ) (hY:noY Γ=true) (hm:P.follows .mixedOrders=true) {I:List SV->z0d->List (Nat × z08)} (hI:∀ args h,IsOk P (I args h)) {A:List SV->z0d->List (Nat × Ann)} {f:FuncId} {fn:Func} {c:Code} (hf:P.funcs[f]? = some fn) (hb:fn.body=some c) (hd:z2h P Γ c=true)
  (henter:∀ args w,(callFunc f args).run P w = .ok (.enter f args) w) (hargs:∀ args h r,fs args h=some r->args.length <= fn.ntmps) (hvc:FunVc T Γ I A fn.ntmps fn.results.toList c fs):SpecOk P f ro (z03 ro fs):=by
 refine spec_ok_gen henter fun args' hc r ρc w hr hpre hcH=>?_
 have hcalls:=zdd hT hΓ hm hf hb hd (hargs _ _ _ hr) (hvc args' hc r hc.length hr hpre rfl) (ysOk_of hY) (hI _ _) hcH
 refine hcalls.mono fun e w' he=>?_
 obtain ⟨v,s,ρ',a',rfl,hsub,hs⟩:=he
 obtain ⟨V,hsub⟩:=outS_ex hsub
 have hs1:Sym ⟨false,[]⟩ w (foot ρc hc) 1 hc.length ρc ρ' ⟨[(0,v)],s.hp,s.nk⟩ { tmps:=#[v.toV ρ'],defers:=[] } w':=by
  refine ⟨fun t u hu=>?_,rfl,MarksOk.nil _ _ _,hs.hp,hs.fr,hs.own,hs.le,hs.base⟩
  rw [z0g] at hu
  split at hu
  ·rename_i e; subst e; cases hu; rfl
  ·simp [lk] at hu
 obtain ⟨ρ2,hs2⟩:=z7e hsub hs1
 have hres:v.toV ρ'=r.res.toV ρ2:=by
  have:=hs2.tm 0 r.res (by rw [z0g]; simp)
  simpa using this
 exact ⟨V,ρ2,by rw [hres],hs2.hp,hs.fr,hs2.own,hs2.base⟩
theorem z0b {ro:Bool} {fs:FS} (hT:z5w P T) (hΓ:z1c P Γ) (hY:noY Γ=true) (hm:P.follows .mixedOrders=true) {f:FuncId} {fn:Func} (hf:P.funcs[f]? = some fn) (hb:fn.body.isSome=true) (hn:(fn.name == "runtime.NumGoroutine")=false)
  (hd:z2h P Γ (fn.body.getD .skip)=true) {n:Nat} (hlen:n <= fn.ntmps) {I:List SV->z0d->List (Nat × z08)} (hI:∀ args h,IsOk P (I args h)) {A:List SV->z0d->List (Nat × Ann)}
  (hvc:∀ args h r,fs args h=some r->args.length=n/\(r.pre->FVc T Γ (I args h) (A args h) fn args h r)):SpecOk P f ro (z03 ro fs):=by
 obtain ⟨c,hc⟩:=Option.isSome_iff_exists.1 hb
 have hc':fn.body.getD .skip=c:=by rw [hc]; rfl
 refine spec_ok hT hΓ hY hm hI hf hc (by rw [<- hc']; exact hd) ?_ (fun args h r hr=>by rw [(hvc args h r hr).1]; exact hlen) (A:=A) ?_
 ·intro args w
  have hn':¬ fn.name = "runtime.NumGoroutine" := by simpa using hn
  simp [callFunc,hf,hn',hc]
 ·intro args h r m hr hp hm
  subst hm
  have:=((hvc args h r hr).2 hp).out
  unfold z2r at this
  rw [hc'] at this
  exact this
theorem z1x {ro:Bool} {fs:FR} (hT:z5w P T) (hΓ:z1c P Γ) (hY:noY Γ=true) (hm:P.follows .mixedOrders=true) {f:FuncId} {fn:Func} (hf:P.funcs[f]? = some fn) (hb:fn.body.isSome=true) (hn:(fn.name == "runtime.NumGoroutine")=false)
  (hd:z2h P Γ (fn.body.getD .skip)=true) {n:Nat} (hlen:n <= fn.ntmps) {I:List SV->z0d->List (Nat × z08)} (hI:∀ args h,IsOk P (I args h)) {A:List SV->z0d->List (Nat × Ann)}
  (hvc:∀ args h R,fs args h=some R->args.length=n/\(R.pre->FVcR T Γ (I args h) (A args h) fn args h R)):SpecOk P f ro (z0l ro fs):=by
 obtain ⟨c,hc⟩:=Option.isSome_iff_exists.1 hb
 have hc':fn.body.getD .skip=c:=by rw [hc]; rfl
 refine zhf (fun args w=>?_) fun args' hh R ρc w hr hpre hcH=>?_
 ·have hn':¬ fn.name = "runtime.NumGoroutine" := by simpa using hn
  simp [callFunc,hf,hn',hc]
 have hv:=hvc args' hh R hr
 have hq:=(hv.2 hpre).out
 unfold z6x at hq
 rw [hc'] at hq hd
 have hcalls:=zdd hT hΓ hm hf hc hd (by rw [hv.1]; exact hlen) hq (ysOk_of hY) (hI _ _) hcH
 refine hcalls.mono fun e w' he=>?_
 obtain ⟨v,s,ρ',a',rfl,⟨g,hpost,hsub⟩,hs⟩:=he
 refine ⟨g,hpost,?_⟩
 generalize R.out g=r at hsub ⊢
 obtain ⟨V,hsub⟩:=outS_ex hsub
 have hs1:Sym ⟨false,[]⟩ w (foot ρc hh) 1 hh.length ρc ρ' ⟨[(0,v)],s.hp,s.nk⟩ { tmps:=#[v.toV ρ'],defers:=[] } w':=by
  refine ⟨fun t u hu=>?_,rfl,MarksOk.nil _ _ _,hs.hp,hs.fr,hs.own,hs.le,hs.base⟩
  rw [z0g] at hu
  split at hu
  ·rename_i e; subst e; cases hu; rfl
  ·simp [lk] at hu
 obtain ⟨ρ2,hs2⟩:=z7e hsub hs1
 have hres:v.toV ρ'=r.res.toV ρ2:=by
  have:=hs2.tm 0 r.res (by rw [z0g]; simp)
  simpa using this
 exact ⟨V,ρ2,by rw [hres],hs2.hp,hs.fr,hs2.own,hs2.base⟩
theorem enter_gen {f:FuncId} {fn:Func} (hf:P.funcs[f]? = some fn) (hb:fn.body.isSome=true) (hn:(fn.name == "runtime.NumGoroutine")=false) (args:Array Value) (w:World):(callFunc f args).run P w = .ok (.enter f args) w:=by
 obtain ⟨c,hc⟩:=Option.isSome_iff_exists.1 hb
 have hn':¬ fn.name = "runtime.NumGoroutine" := by simpa using hn
 simp [callFunc,hf,hn',hc]
def z9i (T:Tys) (Γ:z0c) (A:List SV->z0d->Nat->List (Nat × Ann)) (fn:Func):Spec:=fun args hp nk K =>
 bif Nat.ble args.length fn.ntmps then vcFun T Γ [] (A args hp nk) fn.ntmps fn.results.toList (fn.body.getD .skip) args hp nk (fun v s=>K v s.hp s.nk) else False
theorem inl_ok (hT:z5w P T) (hΓ:z1c P Γ) (hY:noY Γ=true) (hm:P.follows .mixedOrders=true) {f:FuncId} {fn:Func} (hf:P.funcs[f]? = some fn) (hb:fn.body.isSome=true) (hn:(fn.name == "runtime.NumGoroutine")=false)
  (hd:z2h P Γ (fn.body.getD .skip)=true) (A:List SV->z0d->Nat->List (Nat × Ann)):SpecOk P f false (z9i T Γ A fn):=by
 obtain ⟨c,hc⟩:=Option.isSome_iff_exists.1 hb
 have hc':fn.body.getD .skip=c:=by rw [hc]; rfl
 refine .fn (fun args w=>?_) (fun ρ hp nk w args K hh h=>?_)
 ·have hn':¬ fn.name = "runtime.NumGoroutine" := by simpa using hn
  simp [callFunc,hf,hn',hc]
 ·unfold z9i at h
  cases hlen:Nat.ble args.length fn.ntmps with
  | false=>rw [hlen] at h; exact h.elim
  | true =>
   rw [hlen] at h
   simp only [cond_true] at h
   rw [hc'] at h hd
   refine (zdd hT hΓ hm hf hc hd (z8y hlen) h (ysOk_of hY) z06 hh).mono fun e w' he=>?_
   obtain ⟨v,s,ρ',a',rfl,hk,hs⟩:=he
   exact ⟨v,s.hp,s.nk,ρ',rfl,hk,hs.hp,hs.base,hs.le,hs.fr,hs.own,fun h=>by cases h⟩
theorem lk_last {u v:Nat} {x y:Bool × Spec} {l:z0c} (hn:lk u l=none) (h:lk u (l ++ [(v,x)])=some y):u=v/\x=y:=by
 rw [z6m,hn] at h
 simp only [Option.none_or] at h
 rw [z0g] at h
 split at h
 ·rename_i e; cases h; exact ⟨e,rfl⟩
 ·simp [lk] at h
theorem yid_inj {a b:Nat} (h:yid a=yid b):a=b:=by
 unfold yid at h
 exact Nat.add_right_cancel h
theorem pid_yid {g key:Nat} (hg:g<500000000):pid g ≠ yid key:=fun e=>by
 have h1:pid g<1000000000:=Nat.add_lt_add_right (n:=g) (m:=500000000) hg 500000000
 have h2:1000000000 <= yid key:=Nat.le_add_left _ _
 rw [e] at h1
 exact absurd h1 (Nat.not_lt.2 h2)
theorem yid_ne {g key:Nat} (hg:g<500000000):g ≠ yid key:=fun e=>by
 have h2:1000000000 <= yid key:=Nat.le_add_left _ _
 rw [<- e] at h2
 omega
theorem pid_le (f:Nat):500000000 <= pid f:=Nat.le_add_left _ _
theorem lk_first {u v:Nat} {x y:Bool × Spec} {l:z0c} (h:lk u (l ++ [(v,x)])=some y):lk u l=some y ∨ u=v:=by
 cases hl:lk u l with
 | some q=>rw [z6m,hl] at h; exact .inl h
 | none=>exact .inr (lk_last hl h).1
theorem gsOk_yid {key:Nat} {x:Bool × Spec} (hΓ:z1c P Γ):z1c P (Γ ++ [(yid key,x)]):=by
 refine ⟨fun g ro sp hg hl=>?_,fun g ro sp hg hl=>?_⟩
 ·rcases lk_first hl with h | h
  ·exact hΓ.1 g ro sp hg h
  ·exact absurd h (yid_ne hg)
 ·rcases lk_first hl with h | h
  ·exact hΓ.2 g ro sp hg h
  ·exact absurd h (pid_yid hg)
def inlI (T:Tys) (Γ:z0c) (A:List SV->z0d->Nat->List (Nat × Ann)) (fn:Func):z08:=fun key spec args hp nk K =>
 bif Nat.ble args.length fn.ntmps then vcFun T (Γ ++ [(yid key,(true,spec))]) [] (A args hp nk) fn.ntmps fn.results.toList (fn.body.getD .skip) args hp nk (fun v s=>K v s.hp s.nk) else False
theorem inlI_ok (hT:z5w P T) (hΓ:z1c P Γ) (hY:noY Γ=true) (hm:P.follows .mixedOrders=true) {f:FuncId} {fn:Func} (hf:P.funcs[f]? = some fn) (hb:fn.body.isSome=true) (hn:(fn.name == "runtime.NumGoroutine")=false)
  (hd:∀ key spec,z2h P (Γ ++ [(yid key,(true,spec))]) (fn.body.getD .skip)=true) (A:List SV->z0d->Nat->List (Nat × Ann)):ziv P f (inlI T Γ A fn):=by
 obtain ⟨c,hc⟩:=Option.isSome_iff_exists.1 hb
 have hc':fn.body.getD .skip=c:=by rw [hc]; rfl
 have hnone:∀ g,lk (yid g) Γ=none:=fun g=>by
  cases hl:lk (yid g) Γ with
  | none=>rfl
  | some p =>
   have:=List.all_eq_true.1 hY _ (z7m hl)
   have h3:g+1000000000<1000000000:=z1z this
   omega
 refine ⟨fun args w=>?_,fun key spec ρ hp nk w args K hh hk hYk h=>?_⟩
 ·have hn':¬ fn.name = "runtime.NumGoroutine" := by simpa using hn
  simp [callFunc,hf,hn',hc]
 ·unfold inlI at h
  cases hlen:Nat.ble args.length fn.ntmps with
  | false=>rw [hlen] at h; exact h.elim
  | true =>
   rw [hlen] at h
   simp only [cond_true] at h
   have hd':=hd key spec
   rw [hc'] at h hd'
   refine (zdd hT (Γ:=Γ ++ [(yid key,(true,spec))]) ?_ hm hf hc hd' (z8y hlen) h ?_ z06 hh).mono fun e w' he=>?_
   ·exact gsOk_yid hΓ
   ·intro key' ro sp hl
    obtain ⟨e1,e2⟩:=lk_last (hnone key') hl
    have:key'=key:=yid_inj e1
    subst this
    cases e2
    exact ⟨hk,hYk⟩
   ·obtain ⟨v,s,ρ',a',rfl,hk,hs⟩:=he
    exact ⟨v,s.hp,s.nk,ρ',rfl,hk,hs.hp,hs.base,hs.le,hs.fr,hs.own⟩
theorem z05:z1c P []:=⟨fun _ _ _ _ h=>by simp [lk] at h,fun _ _ _ _ h=>by simp [lk] at h⟩
theorem z00 {f:FuncId} {ro:Bool} {spec:Spec} {Γ:z0c} (h:SpecOk P f ro spec) (hΓ:z1c P Γ) (hf:Nat.blt f 500000000=true:=by rfl):z1c P ((f,(ro,spec)) :: Γ):=by
 have hf:=z1z hf
 refine ⟨fun g r s hg hl=>?_,fun g r s hg hl=>?_⟩
 ·rw [z0g] at hl
  split at hl
  ·rename_i e; subst e; cases hl; exact h
  ·exact hΓ.1 g r s hg hl
 ·rw [z0g] at hl
  split at hl
  ·rename_i e; have:=pid_le g; rw [e] at this; exact absurd hf (Nat.not_lt.2 this)
  ·exact hΓ.2 g r s hg hl
end
end Go.Vc
end
section
namespace Go.Ql
open Go Go.RowKit
theorem w64 {x:Int} (h1:-9223372036854775808 <= x) (h2:x <= 9223372036854775807):IntKind.i64.wrap x=x:=by
 rw [IntKind.wrap_i64]; omega
theorem wu8 {x:Int} (h1:0 <= x) (h2:x <= 255):IntKind.u8.wrap x=x:=by
 unfold IntKind.wrap; simp [IntKind.bits,IntKind.signed]; omega
theorem wu64 {x:Int} (h1:0 <= x) (h2:x <= 18446744073709551615):IntKind.u64.wrap x=x:=by
 unfold IntKind.wrap; simp [IntKind.bits,IntKind.signed]; omega
theorem z4a {a b:Int} (h:0 <= a):a.tmod b=a % b:=Int.tmod_eq_emod_of_nonneg h
theorem tdiv_pos {a b:Int} (h:0 <= a):a.tdiv b=a / b:=Int.tdiv_eq_ediv_of_nonneg h
theorem z3i {α:Type} {xs:List α} {k:Nat} {x:α} (h:xs[k]? = some x):xs.drop k=x :: xs.drop (k+1):=by
 obtain ⟨hk,rfl⟩:=List.getElem?_eq_some_iff.1 h
 exact List.drop_eq_getElem_cons hk
theorem z74 {α:Type} {xs:List α} {k:Nat} (h:xs.length <= k):xs.drop k=[]:=List.drop_of_length_le h
theorem z1b {α:Type} {xs:List α} {k:Nat} {x:α} (h:xs[k]? = some x):xs.take (k+1)=xs.take k ++ [x]:=by
 obtain ⟨hk,rfl⟩:=List.getElem?_eq_some_iff.1 h
 exact List.take_succ_eq_append_getElem hk
theorem get_lt {α:Type} {xs:List α} {k:Nat} {x:α} (h:xs[k]? = some x):k<xs.length:=(List.getElem?_eq_some_iff.1 h).1
end Go.Ql
end
section
namespace Go.Vc
open Go Go.RowKit Go.Ql Go.Draw
section
variable {P:Program} {ρ:Nat->Value} {W:World}
def RoAll (ρ:Nat->Value) (W:World):z0d->Prop
 | []=>True
 | (k,e) :: l=>(e.own=false/\EntOk ρ W (ρ k) e)/\RoAll ρ W l
theorem RoAll.lk:∀ {hp:z0d},RoAll ρ W hp->∀ {k:Nat} {e:Ent},lk k hp=some e->e.own=false/\EntOk ρ W (ρ k) e
 | [],_,k,e,h=>by simp [Vc.lk] at h
 | (j,d) :: l,hh,k,e,h=>by
  rw [z0g] at h
  split at h
  ·rename_i hk; subst hk; cases h; exact hh.1
  ·exact RoAll.lk hh.2 h
theorem law_calls {f:FuncId} {fs:FS} (hent:∀ args w,(callFunc f args).run P w = .ok (.enter f args) w) (h:SpecOk P f true (z03 true fs)) {args:List SV} {hp:z0d} (hone:∀ k,(ρ k).oneCell'=true) (hro:RoAll ρ W hp) (E:Prop) (hE:E)
  (he:E=z03 true fs args hp hp.length (fun res _ _=>res = .bool true)):Calls P f (z0s ρ args).toArray W fun e W'=>e = .returned (.bool true)/\Below W.heap.size W W':=by
 have hs:z03 true fs args hp hp.length (fun res _ _=>res = .bool true):=he ▸ hE
 have hh:HOk ρ hp W:=⟨hone,fun k e hl=>(hro.lk hl).2,fun k e k' e' hl hl' _ ho=>by rw [(hro.lk hl).1] at ho; cases ho⟩
 cases h with
 | ext y =>
  obtain ⟨v,hv,_⟩:=y ρ hp hp.length W args _ hh hs
  rw [hent] at hv
  cases hv
 | fn enter calls =>
 refine (calls ρ hp hp.length W args _ hh hs).mono fun e W' hx=>?_
 obtain ⟨res,hp',nk',ρ',rfl,rfl,_,_,_,hfr,_,hold⟩:=hx
 refine ⟨by simp [SV.toV],⟨hfr.os,hfr.tape,hfr.output,hfr.size,fun k hk=>?_⟩⟩
 exact (hold rfl).2 k hk
theorem ro_ints {A:Option Addr} {B c:Nat} {k:IntKind} {xs:List Int} (h:RowR (Value.int k) W B A xs/\xs.length <= c):ROk W (.slice A xs.length c) (.ints k xs):=by
 refine ⟨A,c,rfl,h.2,fun h0=>?_⟩
 obtain ⟨b,off,e,_,hc⟩:=h.1 h0
 refine ⟨b,off,e,fun j u hu=>?_⟩
 simp only [Row.cells,List.getElem?_map] at hu
 cases hx:xs[j]? with
 | none=>rw [hx] at hu; cases hu
 | some x=>rw [hx] at hu; cases hu; exact hc j x hx
theorem ro_arcs {A:Option Addr} {B c:Nat} {xs:List Arc} (h:ArcsR W B A xs/\xs.length <= c):ROk W (.slice A xs.length c) (.arcs xs):=by
 refine ⟨A,c,rfl,h.2,fun h0=>?_⟩
 obtain ⟨b,off,e,_,hc⟩:=h.1 h0
 refine ⟨b,off,e,fun j u hu=>?_⟩
 have hlen:(Row.arcs xs).cells.length=xs.length * 5:=Row.cells_len (.arcs xs)
 have hj:j<xs.length * 5:=by rw [<- hlen]; exact (List.getElem?_eq_some_iff.1 hu).1
 have hd:j / 5<xs.length:=by omega
 have hx:=List.getElem?_eq_getElem hd
 have hat:=hc (j / 5) _ hx
 have hfl:=zhw Arc.cells 5 (fun _=>rfl) xs (j / 5) _ hx (j % 5) (by omega)
 have hj2:j / 5 * 5+j % 5=j:=by omega
 rw [hj2] at hfl
 simp only [Row.cells] at hu
 rw [hu] at hfl
 obtain ⟨a0,a1,a2,a3,a4⟩:=hat
 have hm:j % 5=0 ∨ j % 5=1 ∨ j % 5=2 ∨ j % 5=3 ∨ j % 5=4:=by omega
 rcases hm with hm | hm | hm | hm | hm <;> rw [hm] at hfl <;> simp [Arc.cells] at hfl <;> subst hfl
 ·rw [<- a0]; congr 2; omega
 ·rw [<- a1]; congr 2; omega
 ·rw [<- a2]; congr 2; omega
 ·rw [<- a3]; congr 2; omega
 ·rw [<- a4]; congr 2; omega
end
end Go.Vc
end
end
section
namespace Go.Proofs.YtggblkbecekbdaaGreat
open Go Go.RowKit Go.Ql Go.Vc
theorem tsOk_nil (P:Program):z5w P []:=fun _ _ h=>by simp [lk] at h
theorem z01 {P:Program} {t:Nat} {ti:TI} {T:Tys} (h:TiOk P t ti) (hT:z5w P T):z5w P ((t,ti) :: T):=by
 intro t' ti' hl
 rw [z0g] at hl
 split at hl
 ·rename_i e; subst e; cases hl; exact h
 ·exact hT t' ti' hl
def ti_nf:TI:=⟨[.val .nilFunc],false,[],none,none,[]⟩
theorem z04 {t:TypeId} (h1:(Tryz.prog.info? t).map (fun i=>(i.size,i.zero))=some (ti_nf.zs.length,some ti_nf.zero)) (h2:(Tryz.prog.underlying t).map (fun d=>(aggD d,z4n Tryz.prog d))=some (ti_nf.agg,ti_nf.fs)):TiOk Tryz.prog t ti_nf:=⟨h1,h2,(fun e rk b h=>by cases h),(fun k h=>by cases h),by rfl,(.inr rfl),(fun h=>by cases h),(fun l h=>by cases h),(fun l h=>by cases h),(fun h=>absurd rfl h),(fun kk vk l h=>by cases h),(fun l h=>by cases h),(fun h=>absurd h (by decide))⟩
def ti_i32:TI:=⟨[.int .i32],false,[],none,some .i32,[]⟩
theorem ti_i32_ok {t:TypeId} (h1:(Tryz.prog.info? t).map (fun i=>(i.size,i.zero))=some (ti_i32.zs.length,some ti_i32.zero)) (h2:(Tryz.prog.underlying t).map (fun d=>(aggD d,z4n Tryz.prog d))=some (ti_i32.agg,ti_i32.fs)) (h3:Tryz.prog.underlying t=some (.int .i32)):TiOk Tryz.prog t ti_i32:=⟨h1,h2,(fun e rk b h=>by cases h),(fun k h=>by cases h; exact h3),by rfl,(.inr rfl),(fun h=>by cases h),(fun l h=>by cases h),(fun l h=>by cases h),(fun h=>absurd rfl h),(fun kk vk l h=>by cases h),(fun l h=>by cases h),(fun h=>absurd h (by decide))⟩
def ti_i64:TI:=⟨[.int .i64],false,[],none,some .i64,[]⟩
theorem ti_i64_ok {t:TypeId} (h1:(Tryz.prog.info? t).map (fun i=>(i.size,i.zero))=some (ti_i64.zs.length,some ti_i64.zero)) (h2:(Tryz.prog.underlying t).map (fun d=>(aggD d,z4n Tryz.prog d))=some (ti_i64.agg,ti_i64.fs)) (h3:Tryz.prog.underlying t=some (.int .i64)):TiOk Tryz.prog t ti_i64:=⟨h1,h2,(fun e rk b h=>by cases h),(fun k h=>by cases h; exact h3),by rfl,(.inr rfl),(fun h=>by cases h),(fun l h=>by cases h),(fun l h=>by cases h),(fun h=>absurd rfl h),(fun kk vk l h=>by cases h),(fun l h=>by cases h),(fun h=>absurd h (by decide))⟩
def ti_u16:TI:=⟨[.int .u16],false,[],none,some .u16,[]⟩
theorem ti_u16_ok {t:TypeId} (h1:(Tryz.prog.info? t).map (fun i=>(i.size,i.zero))=some (ti_u16.zs.length,some ti_u16.zero)) (h2:(Tryz.prog.underlying t).map (fun d=>(aggD d,z4n Tryz.prog d))=some (ti_u16.agg,ti_u16.fs)) (h3:Tryz.prog.underlying t=some (.int .u16)):TiOk Tryz.prog t ti_u16:=⟨h1,h2,(fun e rk b h=>by cases h),(fun k h=>by cases h; exact h3),by rfl,(.inr rfl),(fun h=>by cases h),(fun l h=>by cases h),(fun l h=>by cases h),(fun h=>absurd rfl h),(fun kk vk l h=>by cases h),(fun l h=>by cases h),(fun h=>absurd h (by decide))⟩
def ti_u32:TI:=⟨[.int .u32],false,[],none,some .u32,[]⟩
theorem ti_u32_ok {t:TypeId} (h1:(Tryz.prog.info? t).map (fun i=>(i.size,i.zero))=some (ti_u32.zs.length,some ti_u32.zero)) (h2:(Tryz.prog.underlying t).map (fun d=>(aggD d,z4n Tryz.prog d))=some (ti_u32.agg,ti_u32.fs)) (h3:Tryz.prog.underlying t=some (.int .u32)):TiOk Tryz.prog t ti_u32:=⟨h1,h2,(fun e rk b h=>by cases h),(fun k h=>by cases h; exact h3),by rfl,(.inr rfl),(fun h=>by cases h),(fun l h=>by cases h),(fun l h=>by cases h),(fun h=>absurd rfl h),(fun kk vk l h=>by cases h),(fun l h=>by cases h),(fun h=>absurd h (by decide))⟩
def ti_u64:TI:=⟨[.int .u64],false,[],none,some .u64,[]⟩
theorem ti_u64_ok {t:TypeId} (h1:(Tryz.prog.info? t).map (fun i=>(i.size,i.zero))=some (ti_u64.zs.length,some ti_u64.zero)) (h2:(Tryz.prog.underlying t).map (fun d=>(aggD d,z4n Tryz.prog d))=some (ti_u64.agg,ti_u64.fs)) (h3:Tryz.prog.underlying t=some (.int .u64)):TiOk Tryz.prog t ti_u64:=⟨h1,h2,(fun e rk b h=>by cases h),(fun k h=>by cases h; exact h3),by rfl,(.inr rfl),(fun h=>by cases h),(fun l h=>by cases h),(fun l h=>by cases h),(fun h=>absurd rfl h),(fun kk vk l h=>by cases h),(fun l h=>by cases h),(fun h=>absurd h (by decide))⟩
def ti_u8:TI:=⟨[.int .u8],false,[],none,some .u8,[]⟩
theorem ti_u8_ok {t:TypeId} (h1:(Tryz.prog.info? t).map (fun i=>(i.size,i.zero))=some (ti_u8.zs.length,some ti_u8.zero)) (h2:(Tryz.prog.underlying t).map (fun d=>(aggD d,z4n Tryz.prog d))=some (ti_u8.agg,ti_u8.fs)) (h3:Tryz.prog.underlying t=some (.int .u8)):TiOk Tryz.prog t ti_u8:=⟨h1,h2,(fun e rk b h=>by cases h),(fun k h=>by cases h; exact h3),by rfl,(.inr rfl),(fun h=>by cases h),(fun l h=>by cases h),(fun l h=>by cases h),(fun h=>absurd rfl h),(fun kk vk l h=>by cases h),(fun l h=>by cases h),(fun h=>absurd h (by decide))⟩
def ti25:TI:=⟨[.slice 2 (.int .i64),.slice 35 (.arc)],true,[(0,1,false),(1,1,false)],none,none,[]⟩
theorem ti25_ok:TiOk Tryz.prog 25 ti25:=⟨by kernel_rfl,by kernel_rfl,(fun e rk b h=>by cases h),(fun k h=>by cases h),by rfl,(.inl rfl),(fun _=>by kernel_rfl),(fun l h=>by cases h),(fun l h=>by cases h),(fun h=>absurd rfl h),(fun kk vk l h=>by cases h),(fun l h=>by cases h),(fun h=>absurd h (by decide))⟩
theorem eq35 (w:World):∀ a b:List Int,a.length=5->b.length=5->(Op.equal 35 (.agg (z25 [.i64,.i64,.i64,.i64,.i64] a)) (.agg (z25 [.i64,.i64,.i64,.i64,.i64] b))).run Tryz.prog w = .ok (decide (a=b)) w:=by
 intro a b ha hb
 match a,b,ha,hb with
 | [a0,a1,a2,a3,a4],[b0,b1,b2,b3,b4],_,_ =>
  show (Op.equalIn 10000 35 _ _).run Tryz.prog w=_
  by_cases e0:a0=b0
  ·by_cases e1:a1=b1
   ·by_cases e2:a2=b2
    ·by_cases e3:a3=b3
     ·by_cases e4:a4=b4
      ·subst e0 e1 e2 e3 e4
       simp [z25,go_sem]
      ·subst e0 e1 e2 e3; simp [z25,go_sem,e4]
     ·subst e0 e1 e2; simp [z25,go_sem,e3]
    ·subst e0 e1; simp [z25,go_sem,e2]
   ·subst e0; simp [z25,go_sem,e1]
  ·simp [z25,go_sem,e0]
def ti35:TI:=⟨[.int .i64,.int .i64,.int .i64,.int .i64,.int .i64],true,[(0,1,false),(1,1,false),(2,1,false),(3,1,false),(4,1,false)],none,none,[.i64,.i64,.i64,.i64,.i64]⟩
theorem ti35_ok:TiOk Tryz.prog 35 ti35:=⟨by kernel_rfl,by kernel_rfl,(fun e rk b h=>by cases h),(fun k h=>by cases h),by rfl,(.inl rfl),(fun _=>by kernel_rfl),(fun l h=>by cases h),(fun l h=>by cases h),(fun _=>⟨by kernel_rfl,fun a b w=>eq35 w a b⟩),(fun kk vk l h=>by cases h),(fun l h=>by cases h),(fun h=>absurd h (by decide))⟩
def ti39:TI:=⟨[.int .i64,.slice 2 (.int .i64),.slice 2 (.int .i64),.slice 4 (.bool),.slice 3 (.int .i64)],true,[(0,1,false),(1,1,false),(2,1,false),(3,1,false),(4,1,false)],none,none,[]⟩
theorem ti39_ok:TiOk Tryz.prog 39 ti39:=⟨by kernel_rfl,by kernel_rfl,(fun e rk b h=>by cases h),(fun k h=>by cases h),by rfl,(.inl rfl),(fun _=>by kernel_rfl),(fun l h=>by cases h),(fun l h=>by cases h),(fun h=>absurd rfl h),(fun kk vk l h=>by cases h),(fun l h=>by cases h),(fun h=>absurd h (by decide))⟩
theorem eq47 (w:World):∀ a b:List Int,a.length=2->b.length=2->(Op.equal 47 (.agg (z25 [.i64,.u64] a)) (.agg (z25 [.i64,.u64] b))).run Tryz.prog w = .ok (decide (a=b)) w:=by
 intro a b ha hb
 match a,b,ha,hb with
 | [a0,a1],[b0,b1],_,_ =>
  show (Op.equalIn 10000 47 _ _).run Tryz.prog w=_
  by_cases e0:a0=b0
  ·by_cases e1:a1=b1
   ·subst e0 e1
    simp [z25,go_sem]
   ·subst e0; simp [z25,go_sem,e1]
  ·simp [z25,go_sem,e0]
def ti47:TI:=⟨[.int .i64,.int .u64],true,[(0,1,false),(1,1,false)],none,none,[.i64,.u64]⟩
theorem ti47_ok:TiOk Tryz.prog 47 ti47:=⟨by kernel_rfl,by kernel_rfl,(fun e rk b h=>by cases h),(fun k h=>by cases h),by rfl,(.inl rfl),(fun _=>by kernel_rfl),(fun l h=>by cases h),(fun l h=>by cases h),(fun _=>⟨by kernel_rfl,fun a b w=>eq47 w a b⟩),(fun kk vk l h=>by cases h),(fun l h=>by cases h),(fun h=>absurd h (by decide))⟩
def ti93:TI:=⟨[.slice 47 (.wide),.val (.pointer none)],true,[(0,1,false),(1,1,false)],none,none,[]⟩
theorem ti93_ok:TiOk Tryz.prog 93 ti93:=⟨by kernel_rfl,by kernel_rfl,(fun e rk b h=>by cases h),(fun k h=>by cases h),by rfl,(.inl rfl),(fun _=>by kernel_rfl),(fun l h=>by cases h),(fun l h=>by cases h),(fun h=>absurd rfl h),(fun kk vk l h=>by cases h),(fun l h=>by cases h),(fun h=>absurd h (by decide))⟩
def ti109:TI:=⟨[.slice 2 (.int .i64),.slice 35 (.arc),.slice 2 (.int .i64),.slice 2 (.int .i64),.slice 149 (.slice 147 (.recs (.int .i64) [.bool]))],true,[(0,2,true),(2,1,false),(3,1,false),(4,1,false)],none,none,[]⟩
theorem ti109_ok:TiOk Tryz.prog 109 ti109:=⟨by kernel_rfl,by kernel_rfl,(fun e rk b h=>by cases h),(fun k h=>by cases h),by rfl,(.inl rfl),(fun _=>by kernel_rfl),(fun l h=>by cases h),(fun l h=>by cases h),(fun h=>absurd rfl h),(fun kk vk l h=>by cases h),(fun l h=>by cases h),(fun h=>absurd h (by decide))⟩
def ti121:TI:=⟨[.int .i64,.int .i64,.int .i64,.int .i64,.int .i64,.int .i64,.int .i64],true,[(0,5,true),(5,1,false),(6,1,false)],none,none,[]⟩
theorem ti121_ok:TiOk Tryz.prog 121 ti121:=⟨by kernel_rfl,by kernel_rfl,(fun e rk b h=>by cases h),(fun k h=>by cases h),by rfl,(.inl rfl),(fun _=>by kernel_rfl),(fun l h=>by cases h),(fun l h=>by cases h),(fun h=>absurd rfl h),(fun kk vk l h=>by cases h),(fun l h=>by cases h),(fun h=>absurd h (by decide))⟩
def ti137:TI:=⟨[.int .i64,.slice 35 (.arc),.slice 3 (.int .i64),.slice 3 (.int .i64)],true,[(0,1,false),(1,1,false),(2,1,false),(3,1,false)],none,none,[]⟩
theorem ti137_ok:TiOk Tryz.prog 137 ti137:=⟨by kernel_rfl,by kernel_rfl,(fun e rk b h=>by cases h),(fun k h=>by cases h),by rfl,(.inl rfl),(fun _=>by kernel_rfl),(fun l h=>by cases h),(fun l h=>by cases h),(fun h=>absurd rfl h),(fun kk vk l h=>by cases h),(fun l h=>by cases h),(fun h=>absurd h (by decide))⟩
def ti147:TI:=⟨[.int .i64,.bool],true,[(0,1,false),(1,1,false)],none,none,[]⟩
theorem ti147_ok:TiOk Tryz.prog 147 ti147:=⟨by kernel_rfl,by kernel_rfl,(fun e rk b h=>by cases h),(fun k h=>by cases h),by rfl,(.inl rfl),(fun _=>by kernel_rfl),(fun l h=>by cases h),(fun l h=>by cases h),(fun h=>absurd rfl h),(fun kk vk l h=>by cases h),(fun l h=>by cases h),(fun h=>absurd h (by decide))⟩
def ti152:TI:=⟨[.int .i64,.bool],true,[(0,1,false),(1,1,false)],none,none,[]⟩
theorem ti152_ok:TiOk Tryz.prog 152 ti152:=⟨by kernel_rfl,by kernel_rfl,(fun e rk b h=>by cases h),(fun k h=>by cases h),by rfl,(.inl rfl),(fun _=>by kernel_rfl),(fun l h=>by cases h),(fun l h=>by cases h),(fun h=>absurd rfl h),(fun kk vk l h=>by cases h),(fun l h=>by cases h),(fun h=>absurd h (by decide))⟩
def ti165:TI:=⟨[.int .i64,.bool,.bool],true,[(0,2,true),(2,1,false)],none,none,[]⟩
theorem ti165_ok:TiOk Tryz.prog 165 ti165:=⟨by kernel_rfl,by kernel_rfl,(fun e rk b h=>by cases h),(fun k h=>by cases h),by rfl,(.inl rfl),(fun _=>by kernel_rfl),(fun l h=>by cases h),(fun l h=>by cases h),(fun h=>absurd rfl h),(fun kk vk l h=>by cases h),(fun l h=>by cases h),(fun h=>absurd h (by decide))⟩
def ti172:TI:=⟨[.int .i64,.bool],true,[(0,1,false),(1,1,false)],none,none,[]⟩
theorem ti172_ok:TiOk Tryz.prog 172 ti172:=⟨by kernel_rfl,by kernel_rfl,(fun e rk b h=>by cases h),(fun k h=>by cases h),by rfl,(.inl rfl),(fun _=>by kernel_rfl),(fun l h=>by cases h),(fun l h=>by cases h),(fun h=>absurd rfl h),(fun kk vk l h=>by cases h),(fun l h=>by cases h),(fun h=>absurd h (by decide))⟩
def ti4:TI:=⟨[.bool],false,[],none,none,[]⟩
theorem ti4_ok:TiOk Tryz.prog 4 ti4:=⟨by kernel_rfl,by kernel_rfl,(fun e rk b h=>by cases h),(fun k h=>by cases h),by rfl,(.inr rfl),(fun h=>by cases h),(fun l _ _=>by kernel_rfl),(fun l h=>by cases h),(fun h=>absurd rfl h),(fun kk vk l h=>by cases h),(fun l h=>by cases h),(fun h=>absurd h (by decide))⟩
def ti15:TI:=⟨[.val (.pointer none)],false,[],none,none,[]⟩
theorem ti15_ok:TiOk Tryz.prog 15 ti15:=⟨by kernel_rfl,by kernel_rfl,(fun e rk b h=>by cases h),(fun k h=>by cases h),by rfl,(.inr rfl),(fun h=>by cases h),(fun l h=>by cases h),(fun l _ _=>by kernel_rfl),(fun h=>absurd rfl h),(fun kk vk l h=>by cases h),(fun l h=>by cases h),(fun h=>absurd h (by decide))⟩
def ti16:TI:=⟨[.val (.pointer none)],false,[],none,none,[]⟩
theorem ti16_ok:TiOk Tryz.prog 16 ti16:=⟨by kernel_rfl,by kernel_rfl,(fun e rk b h=>by cases h),(fun k h=>by cases h),by rfl,(.inr rfl),(fun h=>by cases h),(fun l h=>by cases h),(fun l _ _=>by kernel_rfl),(fun h=>absurd rfl h),(fun kk vk l h=>by cases h),(fun l h=>by cases h),(fun h=>absurd h (by decide))⟩
def ti17:TI:=⟨[.val (.pointer none)],false,[],none,none,[]⟩
theorem ti17_ok:TiOk Tryz.prog 17 ti17:=⟨by kernel_rfl,by kernel_rfl,(fun e rk b h=>by cases h),(fun k h=>by cases h),by rfl,(.inr rfl),(fun h=>by cases h),(fun l h=>by cases h),(fun l _ _=>by kernel_rfl),(fun h=>absurd rfl h),(fun kk vk l h=>by cases h),(fun l h=>by cases h),(fun h=>absurd h (by decide))⟩
def ti20:TI:=⟨[.val .nilIface],false,[],none,none,[]⟩
theorem ti20_ok:TiOk Tryz.prog 20 ti20:=⟨by kernel_rfl,by kernel_rfl,(fun e rk b h=>by cases h),(fun k h=>by cases h),by rfl,(.inr rfl),(fun h=>by cases h),(fun l h=>by cases h),(fun l h=>by cases h),(fun h=>absurd rfl h),(fun kk vk l h=>by cases h),(fun l _ _=>by kernel_rfl),(fun h=>absurd h (by decide))⟩
def ti22:TI:=⟨[.slice 2 (.int .i64)],false,[],some (2,.int .i64,8),none,[]⟩
theorem ti22_ok:TiOk Tryz.prog 22 ti22:=⟨by kernel_rfl,by kernel_rfl,(fun e rk b h=>by cases h; exact ⟨by kernel_rfl,by kernel_rfl,by decide⟩),(fun k h=>by cases h),by rfl,(.inr rfl),(fun h=>by cases h),(fun l h=>by cases h),(fun l h=>by cases h),(fun h=>absurd rfl h),(fun kk vk l h=>by cases h),(fun l h=>by cases h),(fun h=>absurd h (by decide))⟩
def ti23:TI:=⟨[.slice 35 (.arc)],false,[],some (35,.arc,40),none,[]⟩
theorem ti23_ok:TiOk Tryz.prog 23 ti23:=⟨by kernel_rfl,by kernel_rfl,(fun e rk b h=>by cases h; exact ⟨by kernel_rfl,by kernel_rfl,by decide⟩),(fun k h=>by cases h),by rfl,(.inr rfl),(fun h=>by cases h),(fun l h=>by cases h),(fun l h=>by cases h),(fun h=>absurd rfl h),(fun kk vk l h=>by cases h),(fun l h=>by cases h),(fun h=>absurd h (by decide))⟩
def ti26:TI:=⟨[.slice 5 (.int .u8)],false,[],some (5,.int .u8,1),none,[]⟩
theorem ti26_ok:TiOk Tryz.prog 26 ti26:=⟨by kernel_rfl,by kernel_rfl,(fun e rk b h=>by cases h; exact ⟨by kernel_rfl,by kernel_rfl,by decide⟩),(fun k h=>by cases h),by rfl,(.inr rfl),(fun h=>by cases h),(fun l h=>by cases h),(fun l h=>by cases h),(fun h=>absurd rfl h),(fun kk vk l h=>by cases h),(fun l h=>by cases h),(fun h=>absurd h (by decide))⟩
def ti36:TI:=⟨[.slice 4 (.bool)],false,[],some (4,.bool,1),none,[]⟩
theorem ti36_ok:TiOk Tryz.prog 36 ti36:=⟨by kernel_rfl,by kernel_rfl,(fun e rk b h=>by cases h; exact ⟨by kernel_rfl,by kernel_rfl,by decide⟩),(fun k h=>by cases h),by rfl,(.inr rfl),(fun h=>by cases h),(fun l h=>by cases h),(fun l h=>by cases h),(fun h=>absurd rfl h),(fun kk vk l h=>by cases h),(fun l h=>by cases h),(fun h=>absurd h (by decide))⟩
def ti37:TI:=⟨[.slice 3 (.int .i64)],false,[],some (3,.int .i64,8),none,[]⟩
theorem ti37_ok:TiOk Tryz.prog 37 ti37:=⟨by kernel_rfl,by kernel_rfl,(fun e rk b h=>by cases h; exact ⟨by kernel_rfl,by kernel_rfl,by decide⟩),(fun k h=>by cases h),by rfl,(.inr rfl),(fun h=>by cases h),(fun l h=>by cases h),(fun l h=>by cases h),(fun h=>absurd rfl h),(fun kk vk l h=>by cases h),(fun l h=>by cases h),(fun h=>absurd h (by decide))⟩
def ti41:TI:=⟨[.slice 47 (.wide)],false,[],some (47,.wide,16),none,[]⟩
theorem ti41_ok:TiOk Tryz.prog 41 ti41:=⟨by kernel_rfl,by kernel_rfl,(fun e rk b h=>by cases h; exact ⟨by kernel_rfl,by kernel_rfl,by decide⟩),(fun k h=>by cases h),by rfl,(.inr rfl),(fun h=>by cases h),(fun l h=>by cases h),(fun l h=>by cases h),(fun h=>absurd rfl h),(fun kk vk l h=>by cases h),(fun l h=>by cases h),(fun h=>absurd h (by decide))⟩
def ti79:TI:=⟨[.slice 22 (.slice 2 (.int .i64))],false,[],some (22,.slice 2 (.int .i64),24),none,[]⟩
theorem ti79_ok:TiOk Tryz.prog 79 ti79:=⟨by kernel_rfl,by kernel_rfl,(fun e rk b h=>by cases h; exact ⟨by kernel_rfl,by kernel_rfl,by decide⟩),(fun k h=>by cases h),by rfl,(.inr rfl),(fun h=>by cases h),(fun l h=>by cases h),(fun l h=>by cases h),(fun h=>absurd rfl h),(fun kk vk l h=>by cases h),(fun l h=>by cases h),(fun h=>absurd h (by decide))⟩
def ti89:TI:=⟨[.slice 47 (.wide)],false,[],some (47,.wide,16),none,[]⟩
theorem ti89_ok:TiOk Tryz.prog 89 ti89:=⟨by kernel_rfl,by kernel_rfl,(fun e rk b h=>by cases h; exact ⟨by kernel_rfl,by kernel_rfl,by decide⟩),(fun k h=>by cases h),by rfl,(.inr rfl),(fun h=>by cases h),(fun l h=>by cases h),(fun l h=>by cases h),(fun h=>absurd rfl h),(fun kk vk l h=>by cases h),(fun l h=>by cases h),(fun h=>absurd h (by decide))⟩
def ti90:TI:=⟨[.val (.pointer none)],false,[],none,none,[]⟩
theorem ti90_ok:TiOk Tryz.prog 90 ti90:=⟨by kernel_rfl,by kernel_rfl,(fun e rk b h=>by cases h),(fun k h=>by cases h),by rfl,(.inr rfl),(fun h=>by cases h),(fun l h=>by cases h),(fun l _ _=>by kernel_rfl),(fun h=>absurd rfl h),(fun kk vk l h=>by cases h),(fun l h=>by cases h),(fun h=>absurd h (by decide))⟩
def ti102:TI:=⟨[.val (.pointer none)],false,[],none,none,[]⟩
theorem ti102_ok:TiOk Tryz.prog 102 ti102:=⟨by kernel_rfl,by kernel_rfl,(fun e rk b h=>by cases h),(fun k h=>by cases h),by rfl,(.inr rfl),(fun h=>by cases h),(fun l h=>by cases h),(fun l _ _=>by kernel_rfl),(fun h=>absurd rfl h),(fun kk vk l h=>by cases h),(fun l h=>by cases h),(fun h=>absurd h (by decide))⟩
def ti107:TI:=⟨[.slice 149 (.slice 147 (.recs (.int .i64) [.bool]))],false,[],some (149,.slice 147 (.recs (.int .i64) [.bool]),24),none,[]⟩
theorem ti107_ok:TiOk Tryz.prog 107 ti107:=⟨by kernel_rfl,by kernel_rfl,(fun e rk b h=>by cases h; exact ⟨by kernel_rfl,by kernel_rfl,by decide⟩),(fun k h=>by cases h),by rfl,(.inr rfl),(fun h=>by cases h),(fun l h=>by cases h),(fun l h=>by cases h),(fun h=>absurd rfl h),(fun kk vk l h=>by cases h),(fun l h=>by cases h),(fun h=>absurd h (by decide))⟩
def ti116:TI:=⟨[.slice 28 .fn],false,[],some (28,.fn,8),none,[]⟩
theorem ti116_ok:TiOk Tryz.prog 116 ti116:=⟨by kernel_rfl,by kernel_rfl,(fun e rk b h=>by cases h; exact ⟨by kernel_rfl,by kernel_rfl,by decide⟩),(fun k h=>by cases h),by rfl,(.inr rfl),(fun h=>by cases h),(fun l h=>by cases h),(fun l h=>by cases h),(fun h=>absurd rfl h),(fun kk vk l h=>by cases h),(fun l h=>by cases h),(fun h=>absurd h (by decide))⟩
def ti128:TI:=⟨[.map [.i64] .fn],false,[],none,none,[]⟩
theorem ti128_ok:TiOk Tryz.prog 128 ti128:=⟨by kernel_rfl,by kernel_rfl,(fun e rk b h=>by cases h),(fun k h=>by cases h),by rfl,(.inr rfl),(fun h=>by cases h),(fun l h=>by cases h),(fun l h=>by cases h),(fun h=>absurd rfl h),(fun kk vk l h _=>by cases h; exact ⟨⟨3,81,by kernel_rfl,by kernel_rfl,.inl ⟨_,rfl,by kernel_rfl⟩⟩⟩),(fun l h=>by cases h),(fun h=>absurd h (by decide))⟩
def ti149:TI:=⟨[.slice 147 (.recs (.int .i64) [.bool])],false,[],some (147,.recs (.int .i64) [.bool],16),none,[]⟩
theorem ti149_ok:TiOk Tryz.prog 149 ti149:=⟨by kernel_rfl,by kernel_rfl,(fun e rk b h=>by cases h; exact ⟨by kernel_rfl,by kernel_rfl,by decide⟩),(fun k h=>by cases h),by rfl,(.inr rfl),(fun h=>by cases h),(fun l h=>by cases h),(fun l h=>by cases h),(fun h=>absurd rfl h),(fun kk vk l h=>by cases h),(fun l h=>by cases h),(fun h=>absurd h (by decide))⟩
def ti150:TI:=⟨[.slice 165 (.recs (.int .i64) [.bool,.bool])],false,[],some (165,.recs (.int .i64) [.bool,.bool],24),none,[]⟩
theorem ti150_ok:TiOk Tryz.prog 150 ti150:=⟨by kernel_rfl,by kernel_rfl,(fun e rk b h=>by cases h; exact ⟨by kernel_rfl,by kernel_rfl,by decide⟩),(fun k h=>by cases h),by rfl,(.inr rfl),(fun h=>by cases h),(fun l h=>by cases h),(fun l h=>by cases h),(fun h=>absurd rfl h),(fun kk vk l h=>by cases h),(fun l h=>by cases h),(fun h=>absurd h (by decide))⟩
def ti157:TI:=⟨[.slice 172 (.recs (.int .i64) [.bool])],false,[],some (172,.recs (.int .i64) [.bool],16),none,[]⟩
theorem ti157_ok:TiOk Tryz.prog 157 ti157:=⟨by kernel_rfl,by kernel_rfl,(fun e rk b h=>by cases h; exact ⟨by kernel_rfl,by kernel_rfl,by decide⟩),(fun k h=>by cases h),by rfl,(.inr rfl),(fun h=>by cases h),(fun l h=>by cases h),(fun l h=>by cases h),(fun h=>absurd rfl h),(fun kk vk l h=>by cases h),(fun l h=>by cases h),(fun h=>absurd h (by decide))⟩
def ti177:TI:=⟨[.map [.i64] .bool],false,[],none,none,[]⟩
theorem ti177_ok:TiOk Tryz.prog 177 ti177:=⟨by kernel_rfl,by kernel_rfl,(fun e rk b h=>by cases h),(fun k h=>by cases h),by rfl,(.inr rfl),(fun h=>by cases h),(fun l h=>by cases h),(fun l h=>by cases h),(fun h=>absurd rfl h),(fun kk vk l h _=>by cases h; exact ⟨⟨3,4,by kernel_rfl,by kernel_rfl,.inl ⟨_,rfl,by kernel_rfl⟩⟩⟩),(fun l h=>by cases h),(fun h=>absurd h (by decide))⟩
def ti197:TI:=⟨[.int .i64,.bool,.int .i64,.bool],true,[(1000000,2,true),(1000002,2,true)],none,none,[]⟩
theorem ti197_ok:TiOk Tryz.prog 197 ti197:=⟨by kernel_rfl,by kernel_rfl,(fun e rk b h=>by cases h),(fun k h=>by cases h),by rfl,(.inl rfl),(fun _=>by kernel_rfl),(fun l h=>by cases h),(fun l h=>by cases h),(fun h=>absurd rfl h),(fun kk vk l h=>by cases h),(fun l h=>by cases h),(fun _=>by kernel_rfl)⟩
def ti214:TI:=⟨[.val (.pointer none)],false,[],none,none,[]⟩
theorem ti214_ok:TiOk Tryz.prog 214 ti214:=⟨by kernel_rfl,by kernel_rfl,(fun e rk b h=>by cases h),(fun k h=>by cases h),by rfl,(.inr rfl),(fun h=>by cases h),(fun l h=>by cases h),(fun l _ _=>by kernel_rfl),(fun h=>absurd rfl h),(fun kk vk l h=>by cases h),(fun l h=>by cases h),(fun h=>absurd h (by decide))⟩
def TT:Tys:=[(1,ti_nf),(2,ti_i64),(3,ti_i64),(4,ti4),(5,ti_u8),(15,ti15),(16,ti16),(17,ti17),(20,ti20),(21,ti_i32),(22,ti22),(23,ti23),(25,ti25),(26,ti26),(27,ti_nf),(28,ti_nf),(29,ti_nf),(30,ti_nf),(31,ti_nf),(32,ti_nf),(33,ti_nf),(35,ti35),(36,ti36),(37,ti37),(39,ti39),(40,ti_nf),(41,ti41),(42,ti_nf),(44,ti_nf),(45,ti_u64),(47,ti47),(48,ti_nf),(49,ti_u16),(50,ti_u16),(52,ti_nf),(54,ti_nf),(55,ti_nf),(56,ti_nf),(57,ti_nf),(58,ti_nf),(60,ti_nf),(61,ti_nf),(63,ti_nf),(65,ti_nf),(66,ti_nf),(67,ti_nf),(68,ti_nf),(69,ti_nf),(70,ti_nf),(72,ti_nf),(73,ti_nf),(74,ti_nf),(75,ti_nf),(76,ti_nf),(77,ti_nf),(78,ti_nf),(79,ti79),(80,ti_nf),(81,ti_nf),(82,ti_nf),(83,ti_nf),(84,ti_nf),(85,ti_nf),(86,ti_nf),(87,ti_nf),(88,ti_nf),(89,ti89),(90,ti90),(91,ti_nf),(93,ti93),(94,ti_nf),(95,ti_nf),(96,ti_nf),(97,ti_nf),(98,ti_nf),(99,ti_nf),(100,ti_nf),(101,ti_nf),(102,ti102),(103,ti_nf),(105,ti_nf),(106,ti_nf),(107,ti107),(109,ti109),(110,ti_nf),(111,ti_nf),(112,ti_nf),(113,ti_nf),(114,ti_nf),(115,ti_nf),(116,ti116),(117,ti_nf),(118,ti_nf),(119,ti_nf),(121,ti121),(123,ti_nf),(124,ti_nf),(125,ti_nf),(126,ti_nf),(128,ti128),(129,ti_nf),(130,ti_u64),(131,ti_nf),(132,ti_nf),(133,ti_nf),(134,ti_nf),(135,ti_nf),(137,ti137),(139,ti_nf),(140,ti_nf),(141,ti_nf),(142,ti_nf),(143,ti_nf),(144,ti_nf),(145,ti_nf),(147,ti147),(148,ti_nf),(149,ti149),(150,ti150),(152,ti152),(154,ti_nf),(155,ti_nf),(156,ti_nf),(157,ti157),(159,ti_nf),(160,ti_nf),(161,ti_nf),(163,ti_nf),(165,ti165),(166,ti_nf),(167,ti_nf),(168,ti_nf),(169,ti_nf),(170,ti_nf),(172,ti172),(173,ti_nf),(175,ti_nf),(176,ti_nf),(177,ti177),(178,ti_nf),(179,ti_nf),(180,ti_nf),(181,ti_nf),(182,ti_nf),(183,ti_nf),(184,ti_nf),(185,ti_nf),(186,ti_nf),(187,ti_nf),(188,ti_nf),(189,ti_nf),(190,ti_nf),(191,ti_nf),(192,ti_nf),(193,ti_nf),(194,ti_nf),(195,ti_nf),(196,ti_nf),(197,ti197),(198,ti_nf),(199,ti_nf),(200,ti_nf),(201,ti_nf),(202,ti_nf),(203,ti_nf),(204,ti_nf),(210,ti_u32),(213,ti_nf),(214,ti214)]
theorem z0r:z5w Tryz.prog TT:=z01 (z04 (by kernel_rfl) (by kernel_rfl)) (z01 (ti_i64_ok (by kernel_rfl) (by kernel_rfl) (by kernel_rfl)) (z01 (ti_i64_ok (by kernel_rfl) (by kernel_rfl) (by kernel_rfl)) (z01 ti4_ok (z01 (ti_u8_ok (by kernel_rfl) (by kernel_rfl) (by kernel_rfl)) (z01 ti15_ok (z01 ti16_ok (z01 ti17_ok (z01 ti20_ok (z01 (ti_i32_ok (by kernel_rfl) (by kernel_rfl) (by kernel_rfl)) (z01 ti22_ok (z01 ti23_ok (z01 ti25_ok (z01 ti26_ok (z01 (z04 (by kernel_rfl) (by kernel_rfl)) (z01 (z04 (by kernel_rfl) (by kernel_rfl)) (z01 (z04 (by kernel_rfl) (by kernel_rfl)) (z01 (z04 (by kernel_rfl) (by kernel_rfl)) (z01 (z04 (by kernel_rfl) (by kernel_rfl)) (z01 (z04 (by kernel_rfl) (by kernel_rfl)) (z01 (z04 (by kernel_rfl) (by kernel_rfl)) (z01 ti35_ok (z01 ti36_ok (z01 ti37_ok (z01 ti39_ok (z01 (z04 (by kernel_rfl) (by kernel_rfl)) (z01 ti41_ok (z01 (z04 (by kernel_rfl) (by kernel_rfl)) (z01 (z04 (by kernel_rfl) (by kernel_rfl)) (z01 (ti_u64_ok (by kernel_rfl) (by kernel_rfl) (by kernel_rfl)) (z01 ti47_ok (z01 (z04 (by kernel_rfl) (by kernel_rfl)) (z01 (ti_u16_ok (by kernel_rfl) (by kernel_rfl) (by kernel_rfl)) (z01 (ti_u16_ok (by kernel_rfl) (by kernel_rfl) (by kernel_rfl)) (z01 (z04 (by kernel_rfl) (by kernel_rfl)) (z01 (z04 (by kernel_rfl) (by kernel_rfl)) (z01 (z04 (by kernel_rfl) (by kernel_rfl)) (z01 (z04 (by kernel_rfl) (by kernel_rfl)) (z01 (z04 (by kernel_rfl) (by kernel_rfl)) (z01 (z04 (by kernel_rfl) (by kernel_rfl)) (z01 (z04 (by kernel_rfl) (by kernel_rfl)) (z01 (z04 (by kernel_rfl) (by kernel_rfl)) (z01 (z04 (by kernel_rfl) (by kernel_rfl)) (z01 (z04 (by kernel_rfl) (by kernel_rfl)) (z01 (z04 (by kernel_rfl) (by kernel_rfl)) (z01 (z04 (by kernel_rfl) (by kernel_rfl)) (z01 (z04 (by kernel_rfl) (by kernel_rfl)) (z01 (z04 (by kernel_rfl) (by kernel_rfl)) (z01 (z04 (by kernel_rfl) (by kernel_rfl)) (z01 (z04 (by kernel_rfl) (by kernel_rfl)) (z01 (z04 (by kernel_rfl) (by kernel_rfl)) (z01 (z04 (by kernel_rfl) (by kernel_rfl)) (z01 (z04 (by kernel_rfl) (by kernel_rfl)) (z01 (z04 (by kernel_rfl) (by kernel_rfl)) (z01 (z04 (by kernel_rfl) (by kernel_rfl)) (z01 (z04 (by kernel_rfl) (by kernel_rfl)) (z01 ti79_ok (z01 (z04 (by kernel_rfl) (by kernel_rfl)) (z01 (z04 (by kernel_rfl) (by kernel_rfl)) (z01 (z04 (by kernel_rfl) (by kernel_rfl)) (z01 (z04 (by kernel_rfl) (by kernel_rfl)) (z01 (z04 (by kernel_rfl) (by kernel_rfl)) (z01 (z04 (by kernel_rfl) (by kernel_rfl)) (z01 (z04 (by kernel_rfl) (by kernel_rfl)) (z01 (z04 (by kernel_rfl) (by kernel_rfl)) (z01 (z04 (by kernel_rfl) (by kernel_rfl)) (z01 ti89_ok (z01 ti90_ok (z01 (z04 (by kernel_rfl) (by kernel_rfl)) (z01 ti93_ok (z01 (z04 (by kernel_rfl) (by kernel_rfl)) (z01 (z04 (by kernel_rfl) (by kernel_rfl)) (z01 (z04 (by kernel_rfl) (by kernel_rfl)) (z01 (z04 (by kernel_rfl) (by kernel_rfl)) (z01 (z04 (by kernel_rfl) (by kernel_rfl)) (z01 (z04 (by kernel_rfl) (by kernel_rfl)) (z01 (z04 (by kernel_rfl) (by kernel_rfl)) (z01 (z04 (by kernel_rfl) (by kernel_rfl)) (z01 ti102_ok (z01 (z04 (by kernel_rfl) (by kernel_rfl)) (z01 (z04 (by kernel_rfl) (by kernel_rfl)) (z01 (z04 (by kernel_rfl) (by kernel_rfl)) (z01 ti107_ok (z01 ti109_ok (z01 (z04 (by kernel_rfl) (by kernel_rfl)) (z01 (z04 (by kernel_rfl) (by kernel_rfl)) (z01 (z04 (by kernel_rfl) (by kernel_rfl)) (z01 (z04 (by kernel_rfl) (by kernel_rfl)) (z01 (z04 (by kernel_rfl) (by kernel_rfl)) (z01 (z04 (by kernel_rfl) (by kernel_rfl)) (z01 ti116_ok (z01 (z04 (by kernel_rfl) (by kernel_rfl)) (z01 (z04 (by kernel_rfl) (by kernel_rfl)) (z01 (z04 (by kernel_rfl) (by kernel_rfl)) (z01 ti121_ok (z01 (z04 (by kernel_rfl) (by kernel_rfl)) (z01 (z04 (by kernel_rfl) (by kernel_rfl)) (z01 (z04 (by kernel_rfl) (by kernel_rfl)) (z01 (z04 (by kernel_rfl) (by kernel_rfl)) (z01 ti128_ok (z01 (z04 (by kernel_rfl) (by kernel_rfl)) (z01 (ti_u64_ok (by kernel_rfl) (by kernel_rfl) (by kernel_rfl)) (z01 (z04 (by kernel_rfl) (by kernel_rfl)) (z01 (z04 (by kernel_rfl) (by kernel_rfl)) (z01 (z04 (by kernel_rfl) (by kernel_rfl)) (z01 (z04 (by kernel_rfl) (by kernel_rfl)) (z01 (z04 (by kernel_rfl) (by kernel_rfl)) (z01 ti137_ok (z01 (z04 (by kernel_rfl) (by kernel_rfl)) (z01 (z04 (by kernel_rfl) (by kernel_rfl)) (z01 (z04 (by kernel_rfl) (by kernel_rfl)) (z01 (z04 (by kernel_rfl) (by kernel_rfl)) (z01 (z04 (by kernel_rfl) (by kernel_rfl)) (z01 (z04 (by kernel_rfl) (by kernel_rfl)) (z01 (z04 (by kernel_rfl) (by kernel_rfl)) (z01 ti147_ok (z01 (z04 (by kernel_rfl) (by kernel_rfl)) (z01 ti149_ok (z01 ti150_ok (z01 ti152_ok (z01 (z04 (by kernel_rfl) (by kernel_rfl)) (z01 (z04 (by kernel_rfl) (by kernel_rfl)) (z01 (z04 (by kernel_rfl) (by kernel_rfl)) (z01 ti157_ok (z01 (z04 (by kernel_rfl) (by kernel_rfl)) (z01 (z04 (by kernel_rfl) (by kernel_rfl)) (z01 (z04 (by kernel_rfl) (by kernel_rfl)) (z01 (z04 (by kernel_rfl) (by kernel_rfl)) (z01 ti165_ok (z01 (z04 (by kernel_rfl) (by kernel_rfl)) (z01 (z04 (by kernel_rfl) (by kernel_rfl)) (z01 (z04 (by kernel_rfl) (by kernel_rfl)) (z01 (z04 (by kernel_rfl) (by kernel_rfl)) (z01 (z04 (by kernel_rfl) (by kernel_rfl)) (z01 ti172_ok (z01 (z04 (by kernel_rfl) (by kernel_rfl)) (z01 (z04 (by kernel_rfl) (by kernel_rfl)) (z01 (z04 (by kernel_rfl) (by kernel_rfl)) (z01 ti177_ok (z01 (z04 (by kernel_rfl) (by kernel_rfl)) (z01 (z04 (by kernel_rfl) (by kernel_rfl)) (z01 (z04 (by kernel_rfl) (by kernel_rfl)) (z01 (z04 (by kernel_rfl) (by kernel_rfl)) (z01 (z04 (by kernel_rfl) (by kernel_rfl)) (z01 (z04 (by kernel_rfl) (by kernel_rfl)) (z01 (z04 (by kernel_rfl) (by kernel_rfl)) (z01 (z04 (by kernel_rfl) (by kernel_rfl)) (z01 (z04 (by kernel_rfl) (by kernel_rfl)) (z01 (z04 (by kernel_rfl) (by kernel_rfl)) (z01 (z04 (by kernel_rfl) (by kernel_rfl)) (z01 (z04 (by kernel_rfl) (by kernel_rfl)) (z01 (z04 (by kernel_rfl) (by kernel_rfl)) (z01 (z04 (by kernel_rfl) (by kernel_rfl)) (z01 (z04 (by kernel_rfl) (by kernel_rfl)) (z01 (z04 (by kernel_rfl) (by kernel_rfl)) (z01 (z04 (by kernel_rfl) (by kernel_rfl)) (z01 (z04 (by kernel_rfl) (by kernel_rfl)) (z01 (z04 (by kernel_rfl) (by kernel_rfl)) (z01 ti197_ok (z01 (z04 (by kernel_rfl) (by kernel_rfl)) (z01 (z04 (by kernel_rfl) (by kernel_rfl)) (z01 (z04 (by kernel_rfl) (by kernel_rfl)) (z01 (z04 (by kernel_rfl) (by kernel_rfl)) (z01 (z04 (by kernel_rfl) (by kernel_rfl)) (z01 (z04 (by kernel_rfl) (by kernel_rfl)) (z01 (z04 (by kernel_rfl) (by kernel_rfl)) (z01 (ti_u32_ok (by kernel_rfl) (by kernel_rfl) (by kernel_rfl)) (z01 (z04 (by kernel_rfl) (by kernel_rfl)) (z01 ti214_ok (tsOk_nil _)))))))))))))))))))))))))))))))))))))))))))))))))))))))))))))))))))))))))))))))))))))))))))))))))))))))))))))))))))))))))))))))))))))))))))))))))))))))))))))))))))))))))
theorem mixedOrders:Tryz.prog.follows .mixedOrders=true:=by kernel_rfl
def isNode_r (n:Int) (m:Int):FRes:={ pre:=True,res:=.bool (decide (0 <= n) && decide (n<m)),rows:=[],eff:=[] }
def zkk:FS:=fun args h=>match args,h with
 | [.int .i64 n,.int .i64 m],[]=>some (isNode_r n m)
 | _,_=>none
def isNode_an (n:Int) (m:Int):List (Nat × Ann):=[]
def isNode_A:List SV->z0d->List (Nat × Ann):=fun _ _=>[]
def isNode_g:z0c:=[]
abbrev isNode_n:Nat:=148
def isNode_I (n:Int) (m:Int):List (Nat × z08):=[]
def isNode_IA:List SV->z0d->List (Nat × z08):=fun _ _=>[]
def zgc (x:Arc) (m:Int):FRes:={ pre:=True,res:=.int .u16 (z0f x m),rows:=[],eff:=[] }
def zcc:FS:=fun args h=>match args,h with
 | [.agg [.int .i64 x_0,.int .i64 x_1,.int .i64 x_2,.int .i64 x_3,.int .i64 x_4],.int .i64 m],[]=>some (zgc ⟨x_0,x_1,x_2,x_3,x_4⟩ m)
 | _,_=>none
def zmc (x:Arc) (m:Int):List (Nat × Ann):=[]
def rightArc_A:List SV->z0d->List (Nat × Ann):=fun _ _=>[]
def zgb:z0c:=[(isNode_n,(true,z03 true zkk))]
abbrev rightArc_n:Nat:=97
def rightArc_I (x:Arc) (m:Int):List (Nat × z08):=[]
def rightArc_IA:List SV->z0d->List (Nat × z08):=fun _ _=>[]
def CopyF1_r (n:Int):FRes:={ pre:=True,res:=.bool (true),rows:=[],eff:=[] }
def ziq:FS:=fun args h=>match args,h with
 | [.int .i64 n],[]=>some (CopyF1_r n)
 | _,_=>none
def CopyF1_an (n:Int):List (Nat × Ann):=[]
def CopyF1_A:List SV->z0d->List (Nat × Ann):=fun _ _=>[]
def CopyF1_g:z0c:=[]
abbrev CopyF1_n:Nat:=137
def CopyF1_I (n:Int):List (Nat × z08):=[]
def CopyF1_IA:List SV->z0d->List (Nat × z08):=fun _ _=>[]
def CopyF2_r (x:Arc):FRes:={ pre:=True,res:=.bool (true),rows:=[],eff:=[] }
def zis:FS:=fun args h=>match args,h with
 | [.agg [.int .i64 x_0,.int .i64 x_1,.int .i64 x_2,.int .i64 x_3,.int .i64 x_4]],[]=>some (CopyF2_r ⟨x_0,x_1,x_2,x_3,x_4⟩)
 | _,_=>none
def CopyF2_an (x:Arc):List (Nat × Ann):=[]
def CopyF2_A:List SV->z0d->List (Nat × Ann):=fun _ _=>[]
def CopyF2_g:z0c:=[]
abbrev CopyF2_n:Nat:=139
def CopyF2_I (x:Arc):List (Nat × z08):=[]
def CopyF2_IA:List SV->z0d->List (Nat × z08):=fun _ _=>[]
def zkj (n : Int) (m : Int) : Prop :=
      (decide (n ≥ (0:Int))=true->(decide (n<m)=(decide ((0:Int) <= n) && decide (n<m))/\True)/\True) /\
 (decide (n ≥ (0:Int))=false->(false=(decide ((0:Int) <= n) && decide (n<m))/\True)/\True)
theorem isNode_q (n:Int) (m:Int):zkj n m=z2r TT isNode_g (isNode_I n m) (isNode_an n m) Tryz.f148 [.int .i64 n,.int .i64 m] [] (isNode_r n m):=by kernel_rfl
theorem isNode_E (n:Int) (m:Int) (hp:True):FVc TT isNode_g (isNode_I n m) (isNode_an n m) Tryz.f148 [.int .i64 n,.int .i64 m] [] (isNode_r n m):=by
 refine FVc.of (zkj n m) (isNode_q n m) ?_
 unfold zkj
 simp; grind
theorem isNode_ok:SpecOk Tryz.prog isNode_n true (z03 true zkk) :=
 z0b z0r (show z1c Tryz.prog isNode_g from z05) (by kernel_rfl) mixedOrders Tryz.func148 rfl rfl (by kernel_rfl) (n:=2) (by decide +kernel) (I:=isNode_IA) (fun _ _=>z06) (A:=isNode_A)
  (fun args h r hr=>by
   unfold zkk at hr
   split at hr
   ·rename_i n m; cases hr; refine ⟨rfl,fun hp=>?_⟩; have hE:=isNode_E n m hp; exact hE
   ·cases hr)
def zcb (x : Arc) (m : Int) : Prop :=
      True /\
 ((!(decide ((0:Int) <= x.src) && decide (x.src<m)))=true->((21:Int)=z0f x m/\True)/\True) /\
 ((!(decide ((0:Int) <= x.src) && decide (x.src<m)))=false ->
 True /\
 ((!(decide ((0:Int) <= x.dst) && decide (x.dst<m)))=true->((21:Int)=z0f x m/\True)/\True) /\
 ((!(decide ((0:Int) <= x.dst) && decide (x.dst<m)))=false ->
 (decide (x.low<(0:Int))=true->((22:Int)=z0f x m/\True)/\True) /\
 (decide (x.low<(0:Int))=false ->
 (decide (x.low > (4398046511104:Int))=true->((22:Int)=z0f x m/\True)/\True) /\
 (decide (x.low > (4398046511104:Int))=false ->
 ((x.cap != (4611686018427387904:Int))=true ->
 (decide (x.cap<x.low)=true->((22:Int)=z0f x m/\True)/\True) /\
 (decide (x.cap<x.low)=false ->
 (decide (x.cap > (4398046511104:Int))=true->((22:Int)=z0f x m/\True)/\True) /\
 (decide (x.cap > (4398046511104:Int))=false ->
 (decide (x.cost<(-4398046511104:Int))=true->((23:Int)=z0f x m/\True)/\True) /\
 (decide (x.cost<(-4398046511104:Int))=false ->
 (decide (x.cost > (4398046511104:Int))=true->((23:Int)=z0f x m/\True)/\True) /\
 (decide (x.cost > (4398046511104:Int))=false->((0:Int)=z0f x m/\True)/\True))))) /\
 ((x.cap != (4611686018427387904:Int))=false ->
 (decide (x.cost<(-4398046511104:Int))=true->((23:Int)=z0f x m/\True)/\True) /\
 (decide (x.cost<(-4398046511104:Int))=false ->
 (decide (x.cost > (4398046511104:Int))=true->((23:Int)=z0f x m/\True)/\True) /\
 (decide (x.cost > (4398046511104:Int))=false->((0:Int)=z0f x m/\True)/\True)))))))
theorem rightArc_q (x:Arc) (m:Int):zcb x m=z2r TT zgb (rightArc_I x m) (zmc x m) Tryz.f97 [.agg (z7i x),.int .i64 m] [] (zgc x m):=by kernel_rfl
theorem rightArc_E (x:Arc) (m:Int) (hp:True):FVc TT zgb (rightArc_I x m) (zmc x m) Tryz.f97 [.agg (z7i x),.int .i64 m] [] (zgc x m):=by
 refine FVc.of (zcb x m) (rightArc_q x m) ?_
 unfold zcb
 simp; unfold z0f; grind
theorem rightArc_ok:SpecOk Tryz.prog rightArc_n true (z03 true zcc) :=
 z0b z0r (show z1c Tryz.prog zgb from z00 isNode_ok (z05)) (by kernel_rfl) mixedOrders Tryz.func97 rfl rfl (by kernel_rfl) (n:=2) (by decide +kernel) (I:=rightArc_IA) (fun _ _=>z06) (A:=rightArc_A)
  (fun args h r hr=>by
   unfold zcc at hr
   split at hr
   ·rename_i x_0 x_1 x_2 x_3 x_4 m; cases hr; refine ⟨rfl,fun hp=>?_⟩; have hE:=rightArc_E ⟨x_0,x_1,x_2,x_3,x_4⟩ m hp; exact hE
   ·cases hr)
def zio (n : Int) : Prop :=
   (true=true/\True)/\True
theorem CopyF1_q (n:Int):zio n=z2r TT CopyF1_g (CopyF1_I n) (CopyF1_an n) Tryz.f137 [.int .i64 n] [] (CopyF1_r n):=by kernel_rfl
theorem CopyF1_E (n:Int) (hp:True):FVc TT CopyF1_g (CopyF1_I n) (CopyF1_an n) Tryz.f137 [.int .i64 n] [] (CopyF1_r n):=by
 refine FVc.of (zio n) (CopyF1_q n) ?_
 unfold zio
 simp
theorem CopyF1_ok:SpecOk Tryz.prog CopyF1_n true (z03 true ziq) :=
 z0b z0r (show z1c Tryz.prog CopyF1_g from z05) (by kernel_rfl) mixedOrders Tryz.func137 rfl rfl (by kernel_rfl) (n:=1) (by decide +kernel) (I:=CopyF1_IA) (fun _ _=>z06) (A:=CopyF1_A)
  (fun args h r hr=>by
   unfold ziq at hr
   split at hr
   ·rename_i n; cases hr; refine ⟨rfl,fun hp=>?_⟩; have hE:=CopyF1_E n hp; exact hE
   ·cases hr)
def zir (x : Arc) : Prop :=
   (true=true/\True)/\True
theorem CopyF2_q (x:Arc):zir x=z2r TT CopyF2_g (CopyF2_I x) (CopyF2_an x) Tryz.f139 [.agg (z7i x)] [] (CopyF2_r x):=by kernel_rfl
theorem CopyF2_E (x:Arc) (hp:True):FVc TT CopyF2_g (CopyF2_I x) (CopyF2_an x) Tryz.f139 [.agg (z7i x)] [] (CopyF2_r x):=by
 refine FVc.of (zir x) (CopyF2_q x) ?_
 unfold zir
 simp
theorem CopyF2_ok:SpecOk Tryz.prog CopyF2_n true (z03 true zis) :=
 z0b z0r (show z1c Tryz.prog CopyF2_g from z05) (by kernel_rfl) mixedOrders Tryz.func139 rfl rfl (by kernel_rfl) (n:=1) (by decide +kernel) (I:=CopyF2_IA) (fun _ _=>z06) (A:=CopyF2_A)
  (fun args h r hr=>by
   unfold zis at hr
   split at hr
   ·rename_i x_0 x_1 x_2 x_3 x_4; cases hr; refine ⟨rfl,fun hp=>?_⟩; have hE:=CopyF2_E ⟨x_0,x_1,x_2,x_3,x_4⟩ hp; exact hE
   ·cases hr)
def Right_r (I:Inst):FRes:={ pre:=True,res:=.int .u16 (z02 I),rows:=[],eff:=[] }
def zhr:FS:=fun args h=>match args,h with
 | [.agg [.row 0,.row 1]],[(0,.row false ty0 (.ints .i64 I_s)),(1,.row false ty1 (.arcs I_a))]=>some (Right_r ⟨I_s,I_a⟩)
 | _,_=>none
def Right_an (I:Inst):List (Nat × Ann):=[(4,{ G:=(Nat),inv:=fun k=>⟨[(1,.ptr 2 0 0 0),(20,.row 1),(21,.int .i64 ↑I.arcs.length),(22,.int .i64 k)],[(2,.box true 25 [.row 0,.row 1]),(0,.row false 0 (.ints .i64 I.sup)),(1,.row false 0 (.arcs I.arcs))],3⟩,rel:=fun k0 k=>k <= I.arcs.length/\z16 I.sup.length (I.arcs.drop k)=z16 I.sup.length I.arcs,meas:=fun k=>I.arcs.length - k }),
 (12,{ G:=(Nat) × (Int),inv:=fun ⟨k,s⟩=>⟨[(6,.int .i64 s),(36,.row 0),(37,.int .i64 ↑I.sup.length),(38,.int .i64 k)],[(0,.row false 0 (.ints .i64 I.sup))],3⟩,rel:=fun ⟨k0,s0⟩ ⟨k,s⟩=>k <= I.sup.length/\z1o (I.sup.drop k) s=z1o I.sup 0/\-(4398046511104 * (k:Int)) <= s/\s <= 4398046511104 * (k:Int),meas:=fun ⟨k,s⟩=>I.sup.length - k })]
def Right_A:List SV->z0d->List (Nat × Ann):=fun args h=>match args,h with
 | [.agg [.row 0,.row 1]],[(0,.row false ty0 (.ints .i64 I_s)),(1,.row false ty1 (.arcs I_a))]=>Right_an ⟨I_s,I_a⟩
 | _,_=>[]
def Right_g:z0c:=[(rightArc_n,(true,z03 true zcc))]
abbrev Right_n:Nat:=58
def Right_I (I:Inst):List (Nat × z08):=[]
def Right_IA:List SV->z0d->List (Nat × z08):=fun _ _=>[]
def takeI_r (l:List Int):FRes:={ pre:=l.length <= 1000000000,res:=.row 1,rows:=[.row 2 (.ints .i64 (l))],eff:=[] }
def takeI_fs:FS:=fun args h=>match args,h with
 | [.row 0,.fn 137 []],[(0,.row false ty0 (.ints .i64 l))]=>some (takeI_r l)
 | _,_=>none
def takeI_an (l:List Int):List (Nat × Ann):=[(3,{ G:=(Nat),inv:=fun k=>⟨[(1,.fn 137 []),(5,.row 2),(8,.row 0),(9,.int .i64 ↑l.length),(10,.int .i64 k)],[(2,.row true 2 (.ints .i64 (l.take k))),(0,.row false 0 (.ints .i64 l))],3⟩,rel:=fun k0 k=>k <= l.length,meas:=fun k=>l.length - k })]
def takeI_A:List SV->z0d->List (Nat × Ann):=fun args h=>match args,h with
 | [.row 0,.fn 137 []],[(0,.row false ty0 (.ints .i64 l))]=>takeI_an l
 | _,_=>[]
def takeI_g:z0c:=[(CopyF1_n,(true,z03 true ziq))]
abbrev takeI_n:Nat:=136
def takeI_I (l:List Int):List (Nat × z08):=[]
def takeI_IA:List SV->z0d->List (Nat × z08):=fun _ _=>[]
def takeA_r (l:List Arc):FRes:={ pre:=l.length <= 1000000000,res:=.row 1,rows:=[.row 35 (.arcs (l))],eff:=[] }
def takeA_fs:FS:=fun args h=>match args,h with
 | [.row 0,.fn 139 []],[(0,.row false ty0 (.arcs l))]=>some (takeA_r l)
 | _,_=>none
def takeA_an (l:List Arc):List (Nat × Ann):=[(3,{ G:=(Nat),inv:=fun k=>⟨[(1,.fn 139 []),(5,.row 2),(8,.row 0),(9,.int .i64 ↑l.length),(10,.int .i64 k)],[(2,.row true 35 (.arcs (l.take k))),(0,.row false 0 (.arcs l))],3⟩,rel:=fun k0 k=>k <= l.length,meas:=fun k=>l.length - k })]
def takeA_A:List SV->z0d->List (Nat × Ann):=fun args h=>match args,h with
 | [.row 0,.fn 139 []],[(0,.row false ty0 (.arcs l))]=>takeA_an l
 | _,_=>[]
def takeA_g:z0c:=[(CopyF2_n,(true,z03 true zis))]
abbrev takeA_n:Nat:=138
def takeA_I (l:List Arc):List (Nat × z08):=[]
def takeA_IA:List SV->z0d->List (Nat × z08):=fun _ _=>[]
end Go.Proofs.YtggblkbecekbdaaGreat
end
