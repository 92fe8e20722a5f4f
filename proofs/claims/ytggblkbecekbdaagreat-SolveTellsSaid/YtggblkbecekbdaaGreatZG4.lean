/- Part of the proof: Vc9. -/
import Derived.Test.YtggblkbecekbdaaGreatZG3
import Derived.Scope
import Derived.RecoverIn
import Derived.TacticsIn
set_option linter.all false
set_option linter.unusedSimpArgs false
set_option linter.unusedVariables false
section
namespace Go.Vc
open Go Go.RowKit Go.Ql Go.Draw
def zf2 (ρ:Nat->Value) (hp:z0d) (g:Nat):Prop:=∃ k e,lk k hp=some e/\e.own=true/\e.touch (ρ k) g
def foot (ρ:Nat->Value) (hp:z0d):Foot:=⟨zf2 ρ hp,fun g=>∃ k e,lk k hp=some e/\e.own=false/\e.touch (ρ k) g⟩
def Inside (S:Foot) (w:World) (ρ:Nat->Value) (hp:z0d):Prop:=∀ k e,lk k hp=some e->∀ g,e.touch (ρ k) g->S.Ok w e.own g
theorem foot_own (ρ:Nat->Value) (hp:z0d) (w:World):Inside (foot ρ hp) w ρ hp:=fun k e hl g ht=>by
 cases ho:e.own with
 | true=>exact .inl (.inl ⟨k,e,hl,ho,ht⟩)
 | false=>exact .inr ⟨rfl,k,e,hl,ho,ht⟩
theorem Inside.owned {ρ ρ':Nat->Value} {hp hp':z0d} {w:World} (h:Inside (foot ρ hp) w ρ' hp') {g:Nat} (hg:zf2 ρ' hp' g):zf2 ρ hp g ∨ w.heap.size <= g:=by
 obtain ⟨k,e,hl,ho,ht⟩:=hg
 rcases h k e hl g ht with h1 | ⟨h1,_⟩
 ·exact h1
 ·rw [ho] at h1; cases h1
inductive SpecOk (P:Program) (f:FuncId) (ro:Bool) (spec:Spec):Prop
 | fn (enter:∀ args w,(callFunc f args).run P w = .ok (.enter f args) w)
  (calls:∀ ρ hp nk w args K,HOk ρ hp w->spec args hp nk K->Calls P f (z0s ρ args).toArray w fun e w' =>
  ∃ res hp' nk' ρ',e = .returned (res.toV ρ')/\K res hp' nk'/\HOk ρ' hp' w'/\(∀ k,k<nk->ρ' k=ρ k)/\nk <= nk'/\Fr (zf2 ρ hp) w w'/\Inside (foot ρ hp) w ρ' hp'/\(ro=true->Old w w'))
 | ext (yields:∀ ρ hp nk w args K,HOk ρ hp w->spec args hp nk K->∃ v:SV,(callFunc f (z0s ρ args).toArray).run P w = .ok (.value (v.toV ρ)) w/\K v hp nk)
def panV (t:TypeId):Value:=.iface t (.agg #[])
structure PanOk (P:Program) (f:FuncId) (spec:Spec):Prop where
 enter:∀ args w,(callFunc f args).run P w = .ok (.enter f args) w
 calls:∀ ρ hp nk w args K,HOk ρ hp w->spec args hp nk K->Calls P f (z0s ρ args).toArray w fun e w' =>
  ∃ res hp' nk' ρ',((∃ u,res = .tup [.tt,u]/\e = .returned (u.toV ρ')) ∨ ∃ t:TypeId,res = .tup [.ff,.int .i64 (t:Int)]/\e = .panicked [{ v:=panV t,recovered:=false }])/\K res hp' nk'/\HOk ρ' hp' w'/\(∀ k,k<nk->ρ' k=ρ k)/\nk <= nk'/\Fr (zf2 ρ hp) w w'/\Inside (foot ρ hp) w ρ' hp'
def z1c (P:Program) (Γ:z0c):Prop:=(∀ f ro spec,f<500000000->lk f Γ=some (ro,spec)->SpecOk P f ro spec)/\∀ f ro spec,f<500000000->lk (pid f) Γ=some (ro,spec)->PanOk P f spec
def Post (ρ:Nat->Value) (hp:z0d) (nk:Nat) (w:World) (K:SV->z0d->Nat->Prop) (e:Ending) (w':World):Prop :=
 ∃ res hp' nk' ρ',e = .returned (res.toV ρ')/\K res hp' nk'/\HOk ρ' hp' w'/\(∀ k,k<nk->ρ' k=ρ k)/\nk <= nk'/\Fr (zf2 ρ hp) w w'/\Inside (foot ρ hp) w ρ' hp'
def YOk (P:Program) (key n0:Nat) (ρ0:Nat->Value) (spec:Spec):Prop:=∀ ρ hp nk w args K,HOk ρ hp w->(∀ k,k<n0->ρ k=ρ0 k)->n0 <= nk->spec args hp nk K ->
 ∃ l fn tmps asg body,ρ key = .func (.yield l) #[] #[]/\(Instr.yield l (z0s ρ args).toArray).run P w = .ok (.round l fn tmps asg body) w/\∀ n,RoundIn (FW none) n P l fn tmps asg body w (Post ρ hp nk w K)
def YsOk (P:Program) (n0:Nat) (ρ0:Nat->Value) (Γ:z0c):Prop:=∀ key ro spec,lk (yid key) Γ=some (ro,spec)->key<n0/\YOk P key n0 ρ0 spec
def noY (Γ:z0c):Bool:=Γ.all fun p=>Nat.blt p.1 1000000000
theorem ysOk_of {P:Program} {n0:Nat} {ρ0:Nat->Value} {Γ:z0c} (h:noY Γ=true):YsOk P n0 ρ0 Γ:=by
 intro key ro spec hl
 have:=List.all_eq_true.1 h _ (z7m hl)
 have h3:key+1000000000<1000000000:=z1z this
 omega
section
variable {P:Program} {T:Tys} {Γ:z0c} {B:Defs} {w0:World} {S0:Foot} {N n0:Nat} {ρ0:Nat->Value} {ρ:Nat->Value} {s:St} {a:Act} {w:World}
theorem z7o:∀ {ts:List TypeId} {vs:List SV} {s:St} {ρ:Nat->Value} {K:List SV->St->Prop},nrms T ts vs s K->Sym B w0 S0 N n0 ρ0 ρ s a w ->
  ∃ vs' s' ρ',K vs' s'/\Sym B w0 S0 N n0 ρ0 ρ' s' a w/\z0s ρ' vs'=z0s ρ vs/\(∀ k,k<s.nk->ρ' k=ρ k)/\s.nk <= s'.nk
 | [],[],s,ρ,K,h,hs=>⟨[],s,ρ,h,hs,rfl,fun _ _=>rfl,Nat.le_refl _⟩
 | [],_ :: _,s,ρ,K,h,hs=>h.elim
 | _ :: _,[],s,ρ,K,h,hs=>h.elim
 | t :: ts,v :: vs,s,ρ,K,h,hs=>by
  simp only [nrms] at h
  cases hb:kbs s.nk vs with
  | false=>rw [hb] at h; exact h.elim
  | true =>
   rw [hb] at h
   simp only [cond_true] at h
   obtain ⟨v',s',ρ',h,hs',hv,hρ,hle⟩:=zdm h hs
   cases hb2:v'.kb s'.nk with
   | false=>rw [hb2] at h; exact h.elim
   | true =>
    rw [hb2] at h
    simp only [cond_true] at h
    obtain ⟨vs',s'',ρ'',h,hs'',hvs,hρ',hle'⟩:=z7o h hs'
    refine ⟨_,s'',ρ'',h,hs'',?_,fun k hk=>(hρ' k (by omega)).trans (hρ k hk),by omega⟩
    rw [z0s,z0s,z4x hρ' v' hb2,hv,hvs,z1k hρ vs hb]
theorem minS_sound (ρ:Nat->Value):∀ {l:List SV} {x v:SV},minS x l=some v->((z0s ρ l).foldlM Builtin.min2 (x.toV ρ)).run P w = .ok (v.toV ρ) w
 | [],x,v,h=>by
  unfold minS at h
  cases x <;> cases h <;> simp [z0s]
 | y :: l,x,v,h=>by
  cases x <;> cases y <;> try (simp [minS] at h; done)
  rename_i k p k' q
  simp only [minS] at h
  cases hk:kEq k k' with
  | false=>rw [hk] at h; cases h
  | true =>
   rw [hk] at h
   have:=z5n hk
   subst this
   have ih:=minS_sound ρ (l:=l) (x:=.int k (min p q)) h
   simp only [z0s,SV.toV,List.foldlM_cons,Builtin.min2]
   have e:(if q<p then q else p)=min p q:=by omega
   simp only [SV.toV] at ih
   simp [e,ih]
theorem maxS_sound (ρ:Nat->Value):∀ {l:List SV} {x v:SV},maxS x l=some v->((z0s ρ l).foldlM Builtin.max2 (x.toV ρ)).run P w = .ok (v.toV ρ) w
 | [],x,v,h=>by
  unfold maxS at h
  cases x <;> cases h <;> simp [z0s]
 | y :: l,x,v,h=>by
  cases x <;> cases y <;> try (simp [maxS] at h; done)
  rename_i k p k' q
  simp only [maxS] at h
  cases hk:kEq k k' with
  | false=>rw [hk] at h; cases h
  | true =>
   rw [hk] at h
   have:=z5n hk
   subst this
   have ih:=maxS_sound ρ (l:=l) (x:=.int k (max p q)) h
   simp only [z0s,SV.toV,List.foldlM_cons,Builtin.max2]
   have e:(if q > p then q else p)=max p q:=by omega
   simp only [SV.toV] at ih
   simp [e,ih]
theorem Sym.call (hs:Sym B w0 S0 N n0 ρ0 ρ s a w) (hk:s.kb=true) {ρ':Nat->Value} {hp':z0d} {nk':Nat} {w':World} (hh:HOk ρ' hp' w') (hρ:∀ k,k<s.nk->ρ' k=ρ k) (hle:s.nk <= nk')
  (hfr:Fr (zf2 ρ s.hp) w w') (hown:Inside (foot ρ s.hp) w ρ' hp'):Sym B w0 S0 N n0 ρ0 ρ' { tm:=s.tm,hp:=hp',nk:=nk' } a w':=by
 have hO:∀ g,zf2 ρ s.hp g->S0.o g ∨ w0.heap.size <= g:=fun g ⟨k,e,hl,ho,ht⟩=>hs.ownO hl ho ht
 have hD:∀ D:Nat,w.heap[D]? = some (Obj.deferred (some []))->w'.heap[D]? = w.heap[D]?:=fun D hD=>hfr.block D (Array.getElem?_eq_some_iff.1 hD).1 (fun ⟨k,e,hl,_,ht⟩=>(hs.hp.ent k e hl).kind ht _ hD)
 refine ⟨fun t v hv=>?_,hs.size,hs.defers.keep hD,hh,⟨hfr.os.trans hs.fr.os,hfr.tape.trans hs.fr.tape,hfr.output.trans hs.fr.output,Nat.le_trans hs.fr.size hfr.size,fun k hk hS=>?_⟩,fun k e hl g ht=>?_,Nat.le_trans hs.le hle,fun k hk=>(hρ k (Nat.lt_of_lt_of_le hk hs.le)).trans (hs.base k hk)⟩
 ·rw [hs.tm t v hv,z4x hρ v (s.kb_tm hk hv)]
 ·refine (hfr.block k (Nat.lt_of_lt_of_le hk hs.fr.size) (fun ho=>?_)).trans (hs.fr.block k hk hS)
  rcases hO k ho with h | h
  ·exact hS h
  ·omega
 ·rcases hown k e hl g ht with (h | h) | ⟨h1,k2,e2,hl2,ho2,ht2⟩
  ·exact .inl (hO g h)
  ·exact .inl (.inr (Nat.le_trans hs.fr.size h))
  ·have:=hs.own k2 e2 hl2 g ht2
   rw [ho2] at this
   rw [h1]; exact this
theorem zjq (hT:z5w P T) (hΓ:z1c P Γ) {o:Oper} {c:Call} {K:St->Prop} (ho:o.op = .call c) (h:z3h T Γ N o s K) (hs:Sym B w0 S0 N n0 ρ0 ρ s a w)
  {K':Act->World->Prop} {Q:Exit->Act->World->Prop} (hK':∀ s' ρ' a' w',Sym B w0 S0 N n0 ρ0 ρ' s' a' w'->K s'->(z2e Γ s o=true->Old w w')->K' a' w'):o.wp P a w K' Q:=by
 have hK:(∀ f,c.callee ≠ .value f)->∀ s' ρ' a' w',Sym B w0 S0 N n0 ρ0 ρ' s' a' w'->K s'->K' a' w':=fun hc s' ρ' a' w' h1 h2=>hK' s' ρ' a' w' h1 h2 (fun hp=>by
  unfold z2e at hp; rw [ho] at hp
  cases hcc:c.callee with
  | value f=>exact absurd hcc (hc f)
  | _=>simp only [hcc] at hp; cases hp)
 unfold z3h at h
 rw [ho] at h
 simp only at h
 unfold vcCall at h
 obtain ⟨callee,args,argTypes⟩:=c
 simp only at h
 have hargs:∀ vs,evs s args.toList=some vs->args.map a.eval=(z0s ρ vs).toArray:=fun vs hv=>by
  apply Array.toList_inj.1; rw [Array.toList_map,z4m hs hv]
 split at h
 ·
  split at h
  ·rename_i v t hv ht
   replace hv:=hargs _ hv
   have ht:argTypes = #[t]:=Array.toList_inj.1 ht
   subst ht
   unfold lenS at h
   split at h
   ·rename_i zs ag fs sl ik eqs key hti
    split at h
    ·rename_i own ty r hl
     obtain ⟨e,rk,b⟩:=sl
     obtain ⟨hu,_⟩:=z5v hT hti rfl
     obtain ⟨A,c,hv2,_,_⟩:=EntOk.reads (hs.hp.ent key _ hl)
     refine z11 (w':=w) ?_ (z0a h hs (hK (by simp)))
     simp only [z0s,SV.toV,hv2] at hv
     simp [execOp,ho,resolve,invoke,builtin,hv,Builtin.len_,run_underlying hu,SV.toV,goInt]
    ·rename_i ty cs hl
     obtain ⟨e,rk,b⟩:=sl
     obtain ⟨hu,_⟩:=z5v hT hti rfl
     obtain ⟨g,hv2,_⟩:=hs.hp.ent key _ hl
     refine z11 (w':=w) ?_ (z0a h hs (hK (by simp)))
     simp only [z0s,SV.toV,hv2] at hv
     simp [execOp,ho,resolve,invoke,builtin,hv,Builtin.len_,run_underlying hu,SV.toV,goInt]
    ·rename_i own t it d vs hole hl
     obtain ⟨e,rk,b⟩:=sl
     obtain ⟨hu,_⟩:=z5v hT hti rfl
     obtain ⟨A,c,hv2,_,_⟩:=deep_reads (hs.hp.ent key _ hl)
     refine z11 (w':=w) ?_ (z0a h hs (hK (by simp)))
     simp only [z0s,SV.toV,hv2] at hv
     simp [execOp,ho,resolve,invoke,builtin,hv,Builtin.len_,run_underlying hu,SV.toV,goInt]
    ·exact h.elim
   ·exact h.elim
  ·exact h.elim
 ·
  split at h
  ·rename_i x y t t' hv ht
   replace hv:=hargs _ hv
   have ht:argTypes = #[t,t']:=Array.toList_inj.1 ht
   subst ht
   cases hb:(Nat.beq t t' && y.kb s.nk) with
   | false=>rw [hb] at h; exact h.elim
   | true =>
    rw [hb] at h
    simp only [cond_true] at h
    simp only [Bool.and_eq_true] at hb
    have:=z10 hb.1
    subst this
    obtain ⟨x',s1,ρ1,h,hs1,hx1,hρ1,_⟩:=zdm h hs
    have hy1:y.toV ρ1=y.toV ρ:=z4x hρ1 y hb.2
    obtain ⟨v,s',ρ',w',h,hs',hrun⟩:=appendS_sound hT h hs1 o.type
    rw [hx1,hy1] at hrun
    refine z11 (w':=w') ?_ (z0a h hs' (hK (by simp)))
    simp only [z0s] at hv
    simp [execOp,ho,resolve,invoke,builtin,hv,hrun]
  ·exact h.elim
 ·
  split at h
  ·rename_i x y t t' hv ht
   replace hv:=hargs _ hv
   have ht:argTypes = #[t,t']:=Array.toList_inj.1 ht
   subst ht
   obtain ⟨v,s',w',h,hs',hrun⟩:=copyS_sound hT h hs o.type
   refine z11 (w':=w') ?_ (z0a h hs' (hK (by simp)))
   simp only [z0s] at hv
   simp [execOp,ho,resolve,invoke,builtin,hv,hrun]
  ·exact h.elim
 ·
  split at h
  ·rename_i x l hv
   replace hv:=hargs _ hv
   split at h
   ·rename_i v hm
    refine z11 (w':=w) ?_ (z0a h hs (hK (by simp)))
    have hr:=minS_sound (P:=P) (w:=w) ρ hm
    simp only [z0s] at hv
    simp [execOp,ho,resolve,invoke,builtin,hv,Builtin.min_,hr]
   ·exact h.elim
  ·exact h.elim
 ·
  split at h
  ·rename_i x l hv
   replace hv:=hargs _ hv
   split at h
   ·rename_i v hm
    refine z11 (w':=w) ?_ (z0a h hs (hK (by simp)))
    have hr:=maxS_sound (P:=P) (w:=w) ρ hm
    simp only [z0s] at hv
    simp [execOp,ho,resolve,invoke,builtin,hv,Builtin.max_,hr]
   ·exact h.elim
  ·exact h.elim
 ·
  split at h
  ·rename_i f0 g caps vs hf0 hv
   have hf:=z0i hs hf0
   replace hv:=hargs _ hv
   split at h
   ·rename_i ro spec hspec
    cases hb0:(Nat.blt g 500000000 && kbs s.nk caps) with
    | false=>rw [hb0] at h; exact h.elim
    | true =>
     rw [hb0] at h
     simp only [cond_true] at h
     simp only [Bool.and_eq_true] at hb0
     have hS:=hΓ.1 g ro spec (z1z hb0.1) hspec
     have hb:=hb0.2
     obtain ⟨vs',s',ρ',h,hs',hvs,hρ,hle⟩:=z7o h hs
     cases hb2:s'.kb with
     | false=>rw [hb2] at h; exact h.elim
     | true =>
      rw [hb2] at h
      simp only [cond_true] at h
      have e:(z0s ρ' (vs' ++ caps)).toArray=(z0s ρ vs).toArray ++ (z0s ρ caps).toArray:=by
       rw [z0u,List.map_append,<- z0u,<- z0u,hvs,z1k hρ caps hb]; simp
      have hrun:∀ (n:Next) , (callFunc g (z0s ρ' (vs' ++ caps)).toArray).run P w = .ok n w->(execOp a.eval o).run P w = .ok n w:=by
       intro n hn
       rw [e] at hn
       simp only [SV.toV] at hf
       simp [execOp,ho,resolve,hf,Deferred.ofValue,hv,invoke]
       simpa using hn
      cases hS with
      | fn enter calls =>
       have hcalls:=calls ρ' s'.hp s'.nk w _ _ hs'.hp h
       unfold Oper.wp
       rw [hrun _ (enter _ w),Oper.upon_enter]
       refine hcalls.mono fun e w' he=>?_
       obtain ⟨res,hp',nk',ρ'',rfl,hk,hh,hρ',hle',hfr,hown,hold⟩:=he
       have hpc:z2e Γ s o=true->Old w w':=fun hp=>by
        unfold z2e at hp; rw [ho] at hp; simp only [hf0,hspec] at hp
        exact hold hp
       have:=z0a (K':=fun a' w2=>w2=w'->K' a' w2) hk (hs'.call hb2 hh hρ' hle' hfr hown) (fun s2 ρ2 a2 w2 h1 h2 e=>hK' s2 ρ2 a2 w2 h1 h2 (fun hp=>e ▸ hpc hp))
       exact this rfl
      | ext yields =>
       obtain ⟨v,hr,hk⟩:=yields ρ' s'.hp s'.nk w _ _ hs'.hp h
       refine z11 (w':=w) (hrun _ hr) ?_
       have:=z0a (K':=fun a' w2=>w2=w->K' a' w2) hk hs' (fun s2 ρ2 a2 w2 h1 h2 e=>hK' s2 ρ2 a2 w2 h1 h2 (fun _=>e ▸ Old.refl _))
       exact this rfl
   ·exact h.elim
  ·rename_i f0 g caps vs hf0 hv
   have hf:=z0i hs hf0
   replace hv:=hargs _ hv
   split at h
   ·rename_i ro spec hspec
    cases hb0:(Nat.blt g 500000000 && kbs s.nk caps) with
    | false=>rw [hb0] at h; exact h.elim
    | true =>
     rw [hb0] at h
     simp only [cond_true] at h
     simp only [Bool.and_eq_true] at hb0
     have hS:=hΓ.1 g ro spec (z1z hb0.1) hspec
     have hb:=hb0.2
     obtain ⟨vs',s',ρ',h,hs',hvs,hρ,hle⟩:=z7o h hs
     cases hb2:s'.kb with
     | false=>rw [hb2] at h; exact h.elim
     | true =>
      rw [hb2] at h
      simp only [cond_true] at h
      have e:(z0s ρ' (caps ++ vs')).toArray=(z0s ρ caps).toArray ++ (z0s ρ vs).toArray:=by
       rw [z0u,List.map_append,<- z0u,<- z0u,hvs,z1k hρ caps hb]; simp
      have hrun:∀ (n:Next) , (callFunc g (z0s ρ' (caps ++ vs')).toArray).run P w = .ok n w->(execOp a.eval o).run P w = .ok n w:=by
       intro n hn
       rw [e] at hn
       simp only [SV.toV] at hf
       simp [execOp,ho,resolve,hf,Deferred.ofValue,hv,invoke]
       simpa using hn
      cases hS with
      | fn enter calls =>
       have hcalls:=calls ρ' s'.hp s'.nk w _ _ hs'.hp h
       unfold Oper.wp
       rw [hrun _ (enter _ w),Oper.upon_enter]
       refine hcalls.mono fun e w' he=>?_
       obtain ⟨res,hp',nk',ρ'',rfl,hk,hh,hρ',hle',hfr,hown,hold⟩:=he
       have hpc:z2e Γ s o=true->Old w w':=fun hp=>by
        unfold z2e at hp; rw [ho] at hp; simp only [hf0,hspec] at hp
        exact hold hp
       have:=z0a (K':=fun a' w2=>w2=w'->K' a' w2) hk (hs'.call hb2 hh hρ' hle' hfr hown) (fun s2 ρ2 a2 w2 h1 h2 e=>hK' s2 ρ2 a2 w2 h1 h2 (fun hp=>e ▸ hpc hp))
       exact this rfl
      | ext yields =>
       obtain ⟨v,hr,hk⟩:=yields ρ' s'.hp s'.nk w _ _ hs'.hp h
       refine z11 (w':=w) (hrun _ hr) ?_
       have:=z0a (K':=fun a' w2=>w2=w->K' a' w2) hk hs' (fun s2 ρ2 a2 w2 h1 h2 e=>hK' s2 ρ2 a2 w2 h1 h2 (fun _=>e ▸ Old.refl _))
       exact this rfl
   ·exact h.elim
  ·exact h.elim
 ·exact h.elim
theorem call_sound (hT:z5w P T) (hΓ:z1c P Γ) {o:Oper} {c:Call} {K:St->Prop} (ho:o.op = .call c) (h:z3h T Γ N o s K) (hs:Sym B w0 S0 N n0 ρ0 ρ s a w)
  {K':Act->World->Prop} {Q:Exit->Act->World->Prop} (hK:∀ s' ρ' a' w',Sym B w0 S0 N n0 ρ0 ρ' s' a' w'->K s'->K' a' w'):o.wp P a w K' Q :=
 zjq hT hΓ ho h hs fun s' ρ' a' w' h1 h2 _=>hK s' ρ' a' w' h1 h2
theorem vcOp_sound (hT:z5w P T) (hΓ:z1c P Γ) {o:Oper} {K:St->Prop} (h:z3h T Γ N o s K) (hs:Sym B w0 S0 N n0 ρ0 ρ s a w)
  {K':Act->World->Prop} {Q:Exit->Act->World->Prop} (hK:∀ s' ρ' a' w',Sym B w0 S0 N n0 ρ0 ρ' s' a' w'->K s'->K' a' w'):o.wp P a w K' Q:=by
 cases ho:o.op with
 | move x=>exact move_sound (.inl ho) (by unfold z3h at h; rw [ho] at h; exact h) hs hK
 | assign x=>exact move_sound (.inr ho) (by unfold z3h at h; rw [ho] at h; exact h) hs hK
 | pick c x y=>exact pick_sound ho h hs hK
 | alloc t=>exact alloc_sound hT ho h hs hK
 | box t x=>exact box_sound ho h hs hK
 | build t ps=>exact build_sound hT ho h hs hK
 | buildSlice t n ps=>exact zhk hT ho h hs hK
 | load t x=>exact load_sound hT ho h hs hK
 | store t x y=>exact store_sound hT ho h hs hK
 | nilCheck x=>exact nilCheck_sound ho h hs hK
 | binOp op t x y t'=>exact binOp_sound hT ho h hs hK
 | unOp op t x=>exact unOp_sound ho h hs hK
 | convert src dst x=>exact convert_sound hT ho h hs hK
 | makeFunc fn first caps =>
  cases fn with
  | func f=>exact makeFunc_sound ho h hs hK
  | _=>unfold z3h at h; rw [ho] at h; exact h.elim
 | makeSlice t l c=>exact zkq hT ho h hs hK
 | fieldAddr t x f=>exact zk4 hT ho h hs hK
 | field t x f=>exact field_sound hT ho h hs hK
 | indexAddr t x i=>exact zkh hT ho h hs hK
 | index t x i=>exact index_sound hT ho h hs hK
 | makeMap t r =>
  cases r with
  | none=>exact makeMap_sound hT ho h hs hK
  | some r=>unfold z3h at h; rw [ho] at h; exact h.elim
 | lookup t x i b=>exact lookup_sound hT ho h hs hK
 | mapUpdate t x i y=>unfold z3h at h; rw [ho] at h; exact z9j hT (.inl ho) h hs hK
 | insert t x i y=>unfold z3h at h; rw [ho] at h; exact z9j hT (.inr ho) h hs hK
 | slice t x low high max=>exact slice_sound hT ho h hs hK
 | extract x i=>exact extract_sound ho h hs hK
 | typeAssert x t u b=>exact zhq hT ho h hs hK
 | call c=>exact call_sound hT hΓ ho h hs hK
 | _=>unfold z3h at h; rw [ho] at h; exact h.elim
theorem z8v {o:Oper} (h:o.guard=none) (y:Nat->Option Bool):Region.wanted o y=true:=by simp [Region.wanted,h]
theorem zb5 {ops:List Oper} {j t:Nat} {b:Bool} (hd:dstAt ops j=some t) (ht:a.tmps[t]? = some (.bool b)):yielded ops.toArray a.tmps j=some b:=by
 unfold yielded
 have:((ops.toArray[j]?).bind (·.dst))=some t:=by simpa [dstAt] using hd
 rw [this]
 simp [ht]
theorem vcOp_nodefer {o:Oper} {K:St->Prop} (h:z3h T Γ N o s K) (c:Call):o.op ≠ .defer c:=by
 intro ho
 unfold z3h at h
 rw [ho] at h
 exact h.elim
theorem vcOpY_sound {rr:Option Nat} {nn:Nat} (hT:z5w P T) (hΓ:z1c P Γ) (hY:YsOk P n0 ρ0 Γ) {o:Oper} {K:St->Prop} (h:vcOpY T Γ N o s K) (hs:Sym B w0 S0 N n0 ρ0 ρ s a w)
  {K':Act->World->Prop} {Q:Exit->Act->World->Prop} (hK:∀ s' ρ' a' w',Sym B w0 S0 N n0 ρ0 ρ' s' a' w'->K s'->K' a' w'):o.wpIn (FW rr) nn P a w K' Q:=by
 have plain:z3h T Γ N o s K->o.wpIn (FW rr) nn P a w K' Q:=fun h=>opIn (vcOp_nodefer h) (vcOp_sound hT hΓ h hs hK)
 unfold vcOpY at h
 split at h
 ·rename_i c ho
  split at h
  ·rename_i f hc
   split at h
   ·rename_i key hf
    split at h
    ·rename_i ro spec vs hspec hv
     obtain ⟨vs',s',ρ',h,hs',hvs,hρ,hle⟩:=z7o h hs
     cases hb2:s'.kb with
     | false=>rw [hb2] at h; exact h.elim
     | true =>
      rw [hb2] at h
      simp only [cond_true] at h
      have hle0:=hs.le
      obtain ⟨hkn,hYk⟩:=hY key ro spec hspec
      obtain ⟨l,fn,tmps,asg,body,hk,hrun,hround⟩:=hYk ρ' s'.hp s'.nk w vs' _ hs'.hp (fun k hk=>hs'.base k hk) hs'.le h
      have hfe:=z0i hs hf
      simp only [SV.toV] at hfe
      have hargs:c.args.map a.eval=(z0s ρ' vs').toArray:=by
       apply Array.toList_inj.1; rw [Array.toList_map,z4m hs hv,hvs]
      have hρk:ρ key = .func (.yield l) #[] #[]:=by rw [<- hk,hs'.base key hkn,hs.base key hkn]
      have hex:(execOp a.eval o).run P w = .ok (.round l fn tmps asg body) w:=by
       rw [hρk] at hfe
       obtain ⟨callee,args,argTypes⟩:=c
       simp only at hc hargs
       subst hc
       simp [execOp,ho,resolve,hfe,Deferred.ofValue,invoke,hargs,hrun]
      refine ⟨fun _ _=>trivial,?_⟩
      rw [Oper.semAt_plain _ _ _ (by rw [ho]; intro c hc; cases hc),hex,Oper.uponIn_round]
      refine ⟨(fun hh=>by cases hh),RoundIn.mono (hround (nn - 1)) fun e w' he=>?_⟩
      obtain ⟨res,hp',nk',ρ'',rfl,hk,hh,hρ',hle',hfr,hown⟩:=he
      exact z0a hk (hs'.call hb2 hh hρ' hle' hfr hown) hK
    ·exact h.elim
   ·exact plain h
  ·exact plain h
 ·exact plain h
def PanQ (Q:Exit->Act->World->Prop):Exit->Act->World->Prop
 | .panic c,a,w=>Q (.panic c) a w
 | _,_,_=>False
theorem opInP {r:Option Nat} {n:Nat} {o:Oper} {a:Act} {w:World} {K:Act->World->Prop} {Q:Exit->Act->World->Prop} (hd:∀ c,o.op ≠ .defer c) (h:o.wp P a w K (PanQ Q)):o.wpIn (FW r) n P a w K Q:=by
  unfold Oper.wp at h
  unfold Oper.wpIn
  refine ⟨fun _ _=>trivial,?_⟩
  rw [Oper.semAt_plain _ _ _ hd]
  generalize (execOp a.eval o).run P w=res at *
  cases res with
  | halt x w'=>cases x <;> simp only [Oper.upon] at h <;> simp only [Oper.uponIn] <;> first
      | exact h
      | exact h.elim
  | ok m w' =>
    cases m <;> simp only [Oper.upon] at h <;> simp only [Oper.uponIn] <;> first
      | exact h
      | exact h.elim
      | exact ⟨(fun hh=>by cases hh),callsFW (Calls.mono h (fun e w'' he=>by cases e with | returned v=>exact he | panicked c=>exact he | outgrown=>obtain ⟨_,_,he⟩:=he; exact he.elim))⟩
      | (refine ⟨(fun hh => by cases hh), fun c cs _ => ?_⟩
         obtain ⟨v,w2,h1,h2⟩:=h c cs
         exact ⟨v,w2,h1,(stepsIn_wide (P:=P)).2 h2⟩)
theorem vcOpX_sound {rr:Option Nat} {nn:Nat} (hT:z5w P T) (hΓ:z1c P Γ) (hY:YsOk P n0 ρ0 Γ) {o:Oper} {X:TypeId->St->Prop} {K:St->Prop} (h:vcOpX T Γ N X o s K) (hs:Sym B w0 S0 N n0 ρ0 ρ s a w)
  {K':Act->World->Prop} {Q:Exit->Act->World->Prop} (hK:∀ s' ρ' a' w',Sym B w0 S0 N n0 ρ0 ρ' s' a' w'->K s'->K' a' w')
  (hX:∀ t s' ρ' a' w',Sym B w0 S0 N n0 ρ0 ρ' s' a' w'->X t s'->Q (.panic [{ v:=panV t,recovered:=false }]) a' w'):o.wpIn (FW rr) nn P a w K' Q:=by
 have plain:vcOpY T Γ N o s K->o.wpIn (FW rr) nn P a w K' Q:=fun h=>vcOpY_sound hT hΓ hY h hs hK
 unfold vcOpX at h
 split at h
 ·rename_i c ho
  split at h
  ·rename_i f hc
   split at h
   ·rename_i g caps hf0
    split at h
    ·rename_i ro spec vs hspec hv
     have hf:=z0i hs hf0
     cases hb0:(Nat.blt g 500000000 && kbs s.nk caps) with
     | false=>rw [hb0] at h; exact h.elim
     | true =>
      rw [hb0] at h
      simp only [cond_true] at h
      simp only [Bool.and_eq_true] at hb0
      obtain ⟨enter,calls⟩:=hΓ.2 g ro spec (z1z hb0.1) hspec
      have hb:=hb0.2
      obtain ⟨vs',s',ρ',h,hs',hvs,hρ,hle⟩:=z7o h hs
      cases hb2:s'.kb with
      | false=>rw [hb2] at h; exact h.elim
      | true =>
       rw [hb2] at h
       simp only [cond_true] at h
       have hv2:c.args.map a.eval=(z0s ρ vs).toArray:=by
        apply Array.toList_inj.1; rw [Array.toList_map,z4m hs hv]
       have e:(z0s ρ' (vs' ++ caps)).toArray=(z0s ρ vs).toArray ++ (z0s ρ caps).toArray:=by
        rw [z0u,List.map_append,<- z0u,<- z0u,hvs,z1k hρ caps hb]; simp
       have hrun:(execOp a.eval o).run P w = .ok (.enter g (z0s ρ' (vs' ++ caps)).toArray) w:=by
        have hn:=enter (z0s ρ' (vs' ++ caps)).toArray w
        rw [e] at hn ⊢
        obtain ⟨callee,args,argTypes⟩:=c
        simp only at hc hv2
        subst hc
        simp only [SV.toV] at hf
        simp [execOp,ho,resolve,hf,Deferred.ofValue,hv2,invoke]
        simpa using hn
       have hcalls:=calls ρ' s'.hp s'.nk w _ _ hs'.hp h
       refine opInP (fun c' hc'=>by rw [ho] at hc'; cases hc') ?_
       unfold Oper.wp
       rw [hrun,Oper.upon_enter]
       refine hcalls.mono fun e w' he=>?_
       obtain ⟨res,hp',nk',ρ'',hres,hk,hh,hρ',hle',hfr,hown⟩:=he
       have hs2:=hs'.call hb2 hh hρ' hle' hfr hown
       rcases hres with ⟨u,rfl,rfl⟩ | ⟨t,rfl,rfl⟩
       ·exact z0a hk hs2 hK
       ·have hk:X ((t:Int)).toNat _:=hk
        rw [Int.toNat_natCast] at hk
        exact hX t _ ρ'' a w' hs2 hk
    ·exact plain h
   ·exact plain h
  ·exact plain h
 ·exact plain h
theorem zaf {rr:Option Nat} {nn:Nat} (hT:z5w P T) (hΓ:z1c P Γ) (hY:YsOk P n0 ρ0 Γ) {ops:List Oper}:∀ {l:List Oper} {s:St} {ρ:Nat->Value} {a:Act} {w:World} {K:St->Prop} {X:TypeId->St->Prop} {Q:Exit->Act->World->Prop},z5s T Γ N X ops l s K->Sym B w0 S0 N n0 ρ0 ρ s a w ->
  (∀ s' ρ' a' w',Sym B w0 S0 N n0 ρ0 ρ' s' a' w'->K s'->Q .normal a' w')->(∀ t s' ρ' a' w',Sym B w0 S0 N n0 ρ0 ρ' s' a' w'->X t s'->Q (.panic [{ v:=panV t,recovered:=false }]) a' w')->wpListIn (FW rr) nn P ops.toArray Q l a w
 | [],s,ρ,a,w,K,X,Q,h,hs,hK,hX=>hK s ρ a w hs h
 | o :: l,s,ρ,a,w,K,X,Q,h,hs,hK,hX=>by
  have run:∀ {s ρ a w},vcOpX T Γ N X o s (fun s=>z5s T Γ N X ops l s K)->Sym B w0 S0 N n0 ρ0 ρ s a w->o.wpIn (FW rr) nn P a w (wpListIn (FW rr) nn P ops.toArray Q l) Q :=
   fun h hs=>vcOpX_sound hT hΓ hY h hs (fun s' ρ' a' w' hs' hk=>zaf hT hΓ hY hk hs' hK hX) hX
  have skip:∀ {s ρ a w},z5s T Γ N X ops l (z3s N o.dst s) K->Sym B w0 S0 N n0 ρ0 ρ s a w->(∀ f,o.about P w a.eval=some f->(FW rr).fn f)/\wpListIn (FW rr) nn P ops.toArray Q l (a.put o.dst undef) w :=
   fun h hs=>⟨fun _ _=>trivial,zaf hT hΓ hY h (hs.drop o.dst) hK hX⟩
  unfold z5s at h
  unfold wpListIn
  split at h
  ·rename_i hg
   rw [if_pos (z8v hg _)]
   exact run h hs
  ·rename_i j want hg
   split at h
   ·exact h.elim
   ·rename_i t hd
    have key:∀ (b:Bool) {s ρ},Sym B w0 S0 N n0 ρ0 ρ s a w->a.tmps[t]? = some (.bool b) ->
      (bif b == want then vcOpX T Γ N X o s (fun s=>z5s T Γ N X ops l s K) else z5s T Γ N X ops l (z3s N o.dst s) K) ->
      (if Region.wanted o (yielded ops.toArray a.tmps)=true then o.wpIn (FW rr) nn P a w (wpListIn (FW rr) nn P ops.toArray Q l) Q else (∀ f,o.about P w a.eval=some f->(FW rr).fn f)/\wpListIn (FW rr) nn P ops.toArray Q l (a.put o.dst undef) w):=by
     intro b s ρ hs hb hh
     have hy:=zb5 hd hb
     cases hbw:(b == want) with
     | true =>
      rw [hbw] at hh
      rw [if_pos (by simp only [Region.wanted,hg,hy]; simpa using hbw)]
      exact run hh hs
     | false =>
      rw [hbw] at hh
      rw [if_neg (by simp only [Region.wanted,hg,hy]; simpa using hbw)]
      exact skip hh hs
    split at h
    ·rename_i ht
     have hb:=hs.tm t _ ht
     simp only [SV.toV] at hb
     exact key true hs hb (by cases want <;> exact h)
    ·rename_i ht
     have hb:=hs.tm t _ ht
     simp only [SV.toV] at hb
     exact key false hs hb (by cases want <;> exact h)
    ·rename_i b ht
     have hb:=hs.tm t _ ht
     simp only [SV.toV] at hb
     have hst:∀ (v:SV),v.toV ρ = .bool b->Sym B w0 S0 N n0 ρ0 ρ { s with tm:=Vc.put t v s.tm } a w:=by
      intro v hv
      refine ⟨fun t' v' hv'=>?_,hs.size,hs.defers,hs.hp,hs.fr,hs.own,hs.le,hs.base⟩
      simp only [z51] at hv'
      split at hv'
      ·rename_i e; subst e; cases hv'; rw [hb,hv]
      ·exact hs.tm t' v' hv'
     cases b with
     | true=>exact key true (hst .tt (by simp [SV.toV])) hb (by have:=h.1 rfl; cases want <;> exact this)
     | false=>exact key false (hst .ff (by simp [SV.toV])) hb (by have:=h.2 rfl; cases want <;> exact this)
    ·rename_i ht
     have hb:=hs.tm t _ ht
     simp only [SV.toV,z0s] at hb
     have hy:yielded ops.toArray a.tmps j=none:=by
      unfold yielded
      have:((ops.toArray[j]?).bind (·.dst))=some t:=by simpa [dstAt] using hd
      rw [this]
      simp [hb]
     rw [if_neg (by simp [Region.wanted,hg,hy])]
     exact skip h hs
    ·exact h.elim
theorem vcOpF_sound (hT:z5w P T) (hΓ:z1c P Γ) {o:Oper} {fl:Bool} {K:St->Prop} (h:bif !fl || z2e Γ s o then z3h T Γ N o s K else StuckAt 8 o) (hs:Sym B w0 S0 N n0 ρ0 ρ s a w)
  {K':Act->World->Prop} {Q:Exit->Act->World->Prop} (hK:∀ s' ρ' a' w',Sym B w0 S0 N n0 ρ0 ρ' s' a' w'->K s'->(fl=true->Old w w')->K' a' w'):o.wp P a w K' Q:=by
 cases fl with
 | false=>exact vcOp_sound hT hΓ h hs fun s' ρ' a' w' h1 h2=>hK s' ρ' a' w' h1 h2 (by simp)
 | true =>
  cases hp:z2e Γ s o with
  | false=>rw [hp] at h; exact h.elim
  | true =>
   rw [hp] at h
   have h:z3h T Γ N o s K:=h
   cases ho:o.op with
   | call c=>exact zjq hT hΓ ho h hs fun s' ρ' a' w' h1 h2 h3=>hK s' ρ' a' w' h1 h2 fun _=>h3 hp
   | _=>unfold z2e at hp; rw [ho] at hp; cases hp
theorem stepO_sound (hT:z5w P T) (hΓ:z1c P Γ) {ops:List Oper} {i:Nat} {o:Oper} {fl:Bool} {K:St->Prop} (ho:ops[i]? = some o) (h:stepO T Γ N ops fl o s K) (hs:Sym B w0 S0 N n0 ρ0 ρ s a w)
  {K':Act->World->Prop} (hK:∀ s' ρ' a' w',Sym B w0 S0 N n0 ρ0 ρ' s' a' w'->K s'->K' a' w'):zi2 P ops.toArray i (fun a' w'=>(fl=true->Old w w')/\K' a' w') a w:=by
 unfold zi2 wpOp
 unfold stepO at h
 have ho':ops.toArray[i]? = some o:=by simpa using ho
 simp only [ho']
 have run:∀ {s ρ a w},(bif !fl || z2e Γ s o then z3h T Γ N o s K else StuckAt 8 o)->Sym B w0 S0 N n0 ρ0 ρ s a w->o.wp P a w (fun a' w'=>(fl=true->Old w w')/\K' a' w') Fls :=
  fun h hs=>vcOpF_sound hT hΓ h hs fun s' ρ' a' w' hs' hk ho=>⟨ho,hK s' ρ' a' w' hs' hk⟩
 have skip:∀ {s ρ a w},K (z3s N o.dst s)->Sym B w0 S0 N n0 ρ0 ρ s a w->(fl=true->Old w w)/\K' (a.put o.dst undef) w :=
  fun h hs=>⟨fun _=>Old.refl _,hK _ _ _ _ (hs.drop o.dst) h⟩
 split at h
 ·rename_i hg
  rw [if_pos (z8v hg _)]
  exact .inl (run h hs)
 ·rename_i j want hg
  split at h
  ·exact h.elim
  ·rename_i t hd
   have key:∀ (b:Bool) {s ρ},Sym B w0 S0 N n0 ρ0 ρ s a w->a.tmps[t]? = some (.bool b) ->
     (bif b == want then (bif !fl || z2e Γ s o then z3h T Γ N o s K else StuckAt 8 o) else K (z3s N o.dst s)) ->
     (if Region.wanted o (yielded ops.toArray a.tmps)=true then o.wp P a w (fun a' w'=>(fl=true->Old w w')/\K' a' w') Fls ∨ o.asks P a w/\LetsOut Fls else (fl=true->Old w w)/\K' (a.put o.dst undef) w):=by
    intro b s ρ hs hb hh
    have hy:=zb5 hd hb
    cases hbw:(b == want) with
    | true =>
     rw [hbw] at hh
     rw [if_pos (by simp only [Region.wanted,hg,hy]; simpa using hbw)]
     exact .inl (run hh hs)
    | false =>
     rw [hbw] at hh
     rw [if_neg (by simp only [Region.wanted,hg,hy]; simpa using hbw)]
     exact skip hh hs
   split at h
   ·rename_i ht
    have hb:=hs.tm t _ ht
    simp only [SV.toV] at hb
    exact key true hs hb (by cases want <;> exact h)
   ·rename_i ht
    have hb:=hs.tm t _ ht
    simp only [SV.toV] at hb
    exact key false hs hb (by cases want <;> exact h)
   ·rename_i b ht
    have hb:=hs.tm t _ ht
    simp only [SV.toV] at hb
    have hst:∀ (v:SV),v.toV ρ = .bool b->Sym B w0 S0 N n0 ρ0 ρ { s with tm:=Vc.put t v s.tm } a w:=by
     intro v hv
     refine ⟨fun t' v' hv'=>?_,hs.size,hs.defers,hs.hp,hs.fr,hs.own,hs.le,hs.base⟩
     simp only [z51] at hv'
     split at hv'
     ·rename_i e; subst e; cases hv'; rw [hb,hv]
     ·exact hs.tm t' v' hv'
    cases b with
    | true=>exact key true (hst .tt (by simp [SV.toV])) hb (by have:=h.1 rfl; cases want <;> exact this)
    | false=>exact key false (hst .ff (by simp [SV.toV])) hb (by have:=h.2 rfl; cases want <;> exact this)
   ·rename_i ht
    have hb:=hs.tm t _ ht
    simp only [SV.toV,z0s] at hb
    have hy:yielded ops.toArray a.tmps j=none:=by
     unfold yielded
     have:((ops.toArray[j]?).bind (·.dst))=some t:=by simpa [dstAt] using hd
     rw [this]
     simp [hb]
    rw [if_neg (by simp [Region.wanted,hg,hy])]
    exact skip h hs
   ·exact h.elim
theorem memN_iff {i:Nat}:∀ {l:List Nat},memN i l=true ↔ i ∈ l
 | []=>by simp [memN]
 | j :: l=>by
  simp only [memN,Bool.or_eq_true,List.mem_cons,memN_iff (l:=l)]
  constructor
  ·rintro (h | h)
   ·exact .inl (z10 h)
   ·exact .inr h
  ·rintro (h | h)
   ·subst h; exact .inl (Nat.beq_refl i)
   ·exact .inr h
theorem readyO_iff {done:List Nat} {o:Oper}:zmb done o=true ↔ ∀ e ∈ o.after,Region.binds .any e=true->e.on ∈ done:=by
 unfold zmb
 rw [List.all_eq_true]
 constructor
 ·intro h e he hb
  have:=h e (by simpa using he)
  simp only [hb,Bool.not_true,Bool.false_or] at this
  exact memN_iff.1 this
 ·intro h e he
  cases hb:Region.binds .any e with
  | false=>simp
  | true=>simp only [Bool.not_true,Bool.false_or]; exact memN_iff.2 (h e (by simpa using he) hb)
theorem rdyL_mem {done:List Nat}:∀ {l:List Oper} {k i:Nat} {o:Oper},(i,o) ∈ rdyL done l k ↔ k <= i/\l[i - k]? = some o/\i ∉ done/\zmb done o=true
 | [],k,i,o=>by simp [rdyL]
 | u :: l,k,i,o=>by
  have ih:=rdyL_mem (done:=done) (l:=l) (k:=k+1) (i:=i) (o:=o)
  have tail:(k+1 <= i/\l[i - (k+1)]? = some o/\i ∉ done/\zmb done o=true) ↔ (k <= i/\i ≠ k/\(u :: l)[i - k]? = some o/\i ∉ done/\zmb done o=true):=by
   constructor
   ·rintro ⟨h1,h2,h3⟩
    refine ⟨by omega,by omega,?_,h3⟩
    rw [show i - k=(i - (k+1))+1 by omega,List.getElem?_cons_succ]; exact h2
   ·rintro ⟨h1,h2,h3,h4⟩
    refine ⟨by omega,?_,h4⟩
    rw [show i - k=(i - (k+1))+1 by omega,List.getElem?_cons_succ] at h3; exact h3
  unfold rdyL
  cases hb:(!memN k done && zmb done u) with
  | true =>
   simp only [cond_true,List.mem_cons,Prod.mk.injEq,ih,tail]
   simp only [Bool.and_eq_true,Bool.not_eq_true'] at hb
   have hk:k ∉ done:=fun h=>by rw [memN_iff.2 h] at hb; cases hb.1
   constructor
   ·rintro (⟨rfl,rfl⟩ | ⟨h1,_,h2⟩)
    ·exact ⟨Nat.le_refl _,by simp,hk,hb.2⟩
    ·exact ⟨h1,h2⟩
   ·rintro ⟨h1,h2,h3⟩
    by_cases e:i=k
    ·subst e; simp at h2; exact .inl ⟨rfl,h2.symm⟩
    ·exact .inr ⟨h1,e,h2,h3⟩
  | false =>
   simp only [cond_false,ih,tail]
   constructor
   ·rintro ⟨h1,_,h2⟩; exact ⟨h1,h2⟩
   ·rintro ⟨h1,h2,h3,h4⟩
    refine ⟨h1,fun e=>?_,h2,h3,h4⟩
    subst e
    simp at h2
    subst h2
    rw [h4] at hb
    simp only [Bool.and_true,Bool.not_eq_false'] at hb
    exact h3 (memN_iff.1 hb)
theorem rdy_iff {ops:List Oper} {done:List Nat} {j:Nat}:Rdy ops.toArray done j ↔ ∃ o,(j,o) ∈ rdyL done ops 0:=by
 unfold Rdy
 constructor
 ·rintro ⟨h1,o,h2,h3⟩
  exact ⟨o,rdyL_mem.2 ⟨Nat.zero_le _,by simpa using h2,h1,readyO_iff.2 h3⟩⟩
 ·rintro ⟨o,h⟩
  obtain ⟨_,h2,h3,h4⟩:=rdyL_mem.1 h
  exact ⟨h3,o,by simpa using h2,readyO_iff.1 h4⟩
theorem zk9 {eag:Nat->Oper->Bool}:∀ {l:List (Nat × Oper)} {q:Nat × Oper},firstE eag l=some q->q ∈ l/\eag q.1 q.2=true
 | [],q,h=>by cases h
 | (i,o) :: l,q,h=>by
  unfold firstE at h
  cases hb:eag i o with
  | true=>rw [hb] at h; cases h; exact ⟨by simp,hb⟩
  | false=>rw [hb] at h; obtain ⟨h1,h2⟩:=zk9 h; exact ⟨by simp [h1],h2⟩
theorem allP_mem {α:Type} {f:α->Prop}:∀ {l:List α},allP f l->∀ x ∈ l,f x
 | [],_,x,hx=>by cases hx
 | [y],h,x,hx=>by simp at hx; subst hx; exact h
 | y :: z :: l,h,x,hx=>by
  rcases List.mem_cons.1 hx with rfl | hx
  ·exact h.1
  ·exact allP_mem h.2 x hx
theorem vcT_sound (hT:z5w P T) (hΓ:z1c P Γ) {ops:List Oper} {F:Act->World->Prop} {K:St->Prop} (hK:∀ s' ρ' a' w',Sym B w0 S0 N n0 ρ0 ρ' s' a' w'->K s'->F a' w'):∀ {n:Nat} {done:List Nat} {s:St} {ρ:Nat->Value} {a:Act} {w:World},vcT T Γ N ops n done s K->Sym B w0 S0 N n0 ρ0 ρ s a w ->
  wpC P ops.toArray (flAt Γ ops) (eagAt Γ ops) F n done a w
 | 0,done,s,ρ,a,w,h,hs=>by
  unfold vcT at h
  split at h
  ·rename_i hr
   exact ⟨fun j hj=>(by obtain ⟨o,ho⟩:=rdy_iff.1 hj; rw [hr] at ho; cases ho),hK _ _ _ _ hs h⟩
  ·exact h.elim
 | n+1,done,s,ρ,a,w,h,hs=>by
  have step:∀ q:Nat × Oper,q ∈ rdyL done ops 0->stepO T Γ N ops (flOf Γ q.2) q.2 s (fun s=>vcT T Γ N ops n (q.1 :: done) s K) ->
    zi2 P ops.toArray q.1 (fun a' w'=>(flAt Γ ops q.1=true->Old w w')/\wpC P ops.toArray (flAt Γ ops) (eagAt Γ ops) F n (q.1 :: done) a' w') a w:=by
   intro q hq hh
   have ho:ops[q.1]? = some q.2:=by have:=(rdyL_mem.1 hq).2.1; simpa using this
   have hfl:flAt Γ ops q.1=flOf Γ q.2:=by unfold flAt; rw [ho]
   rw [hfl]
   exact stepO_sound hT hΓ ho hh hs fun s' ρ' a' w' hs' hk=>vcT_sound hT hΓ hK hk hs'
  unfold vcT at h
  split at h
  ·rename_i hr
   exact .inr ⟨fun _=>hK _ _ _ _ hs h,fun j hj=>by obtain ⟨o,ho⟩:=rdy_iff.1 hj; rw [hr] at ho; cases ho⟩
  ·rename_i p l hr
   split at h
   ·rename_i q hf
    obtain ⟨h1,h2⟩:=zk9 hf
    rw [<- hr] at h1
    have ho:ops[q.1]? = some q.2:=by have:=(rdyL_mem.1 h1).2.1; simpa using this
    exact .inl ⟨q.1,by unfold eagAt; rw [ho]; exact h2,rdy_iff.2 ⟨q.2,h1⟩,step q h1 h⟩
   ·refine .inr ⟨fun h0=>absurd (rdy_iff.2 ⟨p.2,by rw [hr]; simp⟩) (h0 p.1),fun j hj=>?_⟩
    obtain ⟨o,ho⟩:=rdy_iff.1 hj
    have:=allP_mem h (j,o) (by rw [<- hr]; exact ho)
    exact step (j,o) ho this
theorem zbx {v:SV} (h:leafS v=true) (ρ:Nat->Value):z33 (v.toV ρ)=true:=by
 cases v <;> first | (cases h; done) | simp [SV.toV,z33]
theorem plainSV_sound {v:SV} (h:plainSV v=true) (ρ:Nat->Value):z3p (v.toV ρ)=true:=by
 cases v with
 | agg l =>
  simp only [plainSV] at h
  simp only [SV.toV,z3p,z0u]
  rw [List.all_eq_true] at h
  simp only [List.all_map,List.all_eq_true]
  exact fun x hx=>zbx (h x hx) ρ
 | _=>exact zdp (zbx (by simpa [plainSV] using h) ρ)
theorem ptrS_sound {v:SV} (h:ptrS v=true) (ρ:Nat->Value):ptrV (v.toV ρ)=true:=by
 cases v <;> first | (cases h; done) | (simp [SV.toV,ptrV]; done) | skip
 rename_i u
 simp only [ptrS] at h
 unfold zbe at h
 split at h
 ·simp [SV.toV,ptrV]
 ·cases h
theorem z62 {o:Oper} (hs:Sym B w0 S0 N n0 ρ0 ρ s a w) (h:zfs s o=true):(needs o).all (fun x=>zfp o (a.eval x))=true:=by
 unfold zfs at h
 rw [List.all_eq_true] at h ⊢
 intro x hx
 have:=h x hx
 split at this
 ·rename_i v hv
  rw [z0i hs hv]
  split at this
  ·rename_i c hc
   have e:zfp o=z33:=by unfold zfp; rw [hc]
   rw [e]; exact zbx this ρ
  ·rename_i c hc
   have e:zfp o=ptrV:=by unfold zfp; rw [hc]
   rw [e]; exact ptrS_sound this ρ
  ·rename_i hc hc2
   have e:zfp o=z3p:=by unfold zfp; cases ho:o.op <;> first | rfl | (exact absurd ho (hc _); done) | (exact absurd ho (hc2 _); done)
   rw [e]; exact plainSV_sound this ρ
 ·cases this
theorem zha {ops:List Oper} (hs:Sym B w0 S0 N n0 ρ0 ρ s a w):∀ {l:List Oper},plainS ops s l=true->l.all (fun o=>!Region.wanted o (yielded ops.toArray a.tmps) || (needs o).all fun x=>zfp o (a.eval x))=true
 | [],_=>rfl
 | o :: l,h=>by
  simp only [plainS,Bool.and_eq_true] at h
  rw [List.all_cons,zha hs h.2,Bool.and_true]
  have h1:=h.1
  split at h1
  ·rw [z62 hs h1]; simp
  ·rename_i j want hg
   split at h1
   ·rename_i hd
    have:yielded ops.toArray a.tmps j=none:=by
     unfold yielded
     have:((ops.toArray[j]?).bind (·.dst))=none:=by simpa [dstAt] using hd
     rw [this]; rfl
    simp [Region.wanted,hg,this]
   ·rename_i t hd
    split at h1
    ·rename_i ht
     have hb:=hs.tm t _ ht
     simp only [SV.toV] at hb
     have hy:=zb5 hd hb
     cases want with
     | true=>rw [z62 hs h1]; simp
     | false=>simp [Region.wanted,hg,hy]
    ·rename_i ht
     have hb:=hs.tm t _ ht
     simp only [SV.toV] at hb
     have hy:=zb5 hd hb
     cases want with
     | false=>rw [z62 hs h1]; simp
     | true=>simp [Region.wanted,hg,hy]
    ·rename_i ht
     have hb:=hs.tm t _ ht
     simp only [SV.toV,z0s] at hb
     have hy:yielded ops.toArray a.tmps j=none:=by
      unfold yielded
      have:((ops.toArray[j]?).bind (·.dst))=some t:=by simpa [dstAt] using hd
      rw [this]
      simp [hb]
     simp [Region.wanted,hg,hy]
    ·rw [z62 hs h1]; simp
end
end Go.Vc
end
section
namespace Go.Vc
open Go Go.RowKit Go.Ql Go.Draw
section
variable {P:Program} {T:Tys} {Γ:z0c} {B:Defs} {w0:World} {S0:Foot} {N n0:Nat} {ρ0:Nat->Value} {ρ:Nat->Value} {s:St} {a:Act} {w:World}
mutual
theorem subV_sound {σ:KM}:∀ {u v:SV},z1d σ u v->u.toV ρ=v.toV (fun k=>ρ (z8h σ k))
 | .int k n,.int k' n',h=>by
  simp only [z1d] at h
  cases hk:kEq k k' with
  | false=>rw [hk] at h; exact h.elim
  | true=>rw [hk] at h; have:=z5n hk; subst this; simp only [cond_true] at h; subst h; simp [SV.toV]
 | .tt,.tt,_=>by simp [SV.toV]
 | .ff,.ff,_=>by simp [SV.toV]
 | .bool b,.bool b',h=>by simp only [z1d] at h; subst h; simp [SV.toV]
 | .tt,.bool b',h=>by simp only [z1d] at h; subst h; simp [SV.toV]
 | .ff,.bool b',h=>by simp only [z1d] at h; subst h; simp [SV.toV]
 | .row k,.row k',h=>by
  simp only [z1d] at h
  cases hk:Nat.beq k (z8h σ k') with
  | false=>rw [hk] at h; exact h.elim
  | true=>have:=z10 hk; subst this; simp [SV.toV]
 | .ptr k w i f,.ptr k' w' i' f',h=>by
  simp only [z1d] at h
  cases hk:(Nat.beq k (z8h σ k') && Nat.beq w w' && Nat.beq f f') with
  | false=>rw [hk] at h; exact h.elim
  | true =>
   rw [hk] at h
   simp only [Bool.and_eq_true] at hk
   have h1:=z10 hk.1.1
   have h2:=z10 hk.1.2
   have h3:=z10 hk.2
   simp only [cond_true] at h
   subst h1; subst h2; subst h3; subst h
   simp [SV.toV]
 | .agg l,.agg l',h=>by simp only [z1d] at h; simp only [SV.toV,z3d h]
 | .tup l,.tup l',h=>by simp only [z1d] at h; simp only [SV.toV,z3d h]
 | .fn f l,.fn f' l',h=>by
  simp only [z1d] at h
  cases hk:Nat.beq f f' with
  | false=>rw [hk] at h; exact h.elim
  | true=>rw [hk] at h; have:=z10 hk; subst this; simp only [cond_true] at h; simp only [SV.toV,z3d h]
 | .val v,.val v',h=>by simp only [z1d] at h; subst h; simp [SV.toV]
 | .mth f l,.mth f' l',h=>by
  simp only [z1d] at h
  cases hk:Nat.beq f f' with
  | false=>rw [hk] at h; exact h.elim
  | true=>rw [hk] at h; have:=z10 hk; subst this; simp only [cond_true] at h; simp only [SV.toV,z3d h]
 | .int _ _,.mth _ _,h=>by simp [z1d] at h
 | .mth _ _,.int _ _,h=>by simp [z1d] at h
 | .tt,.mth _ _,h=>by simp [z1d] at h
 | .mth _ _,.tt,h=>by simp [z1d] at h
 | .ff,.mth _ _,h=>by simp [z1d] at h
 | .mth _ _,.ff,h=>by simp [z1d] at h
 | .bool _,.mth _ _,h=>by simp [z1d] at h
 | .mth _ _,.bool _,h=>by simp [z1d] at h
 | .row _,.mth _ _,h=>by simp [z1d] at h
 | .mth _ _,.row _,h=>by simp [z1d] at h
 | .ptr _ _ _ _,.mth _ _,h=>by simp [z1d] at h
 | .mth _ _,.ptr _ _ _ _,h=>by simp [z1d] at h
 | .agg _,.mth _ _,h=>by simp [z1d] at h
 | .mth _ _,.agg _,h=>by simp [z1d] at h
 | .tup _,.mth _ _,h=>by simp [z1d] at h
 | .mth _ _,.tup _,h=>by simp [z1d] at h
 | .fn _ _,.mth _ _,h=>by simp [z1d] at h
 | .mth _ _,.fn _ _,h=>by simp [z1d] at h
 | .val _,.mth _ _,h=>by simp [z1d] at h
 | .mth _ _,.val _,h=>by simp [z1d] at h
 | .int _ _,.tt,h=>by simp [z1d] at h
 | .int _ _,.ff,h=>by simp [z1d] at h
 | .int _ _,.bool _,h=>by simp [z1d] at h
 | .int _ _,.row _,h=>by simp [z1d] at h
 | .int _ _,.ptr _ _ _ _,h=>by simp [z1d] at h
 | .int _ _,.agg _,h=>by simp [z1d] at h
 | .int _ _,.tup _,h=>by simp [z1d] at h
 | .int _ _,.fn _ _,h=>by simp [z1d] at h
 | .int _ _,.val _,h=>by simp [z1d] at h
 | .tt,.int _ _,h=>by simp [z1d] at h
 | .tt,.ff,h=>by simp [z1d] at h
 | .tt,.row _,h=>by simp [z1d] at h
 | .tt,.ptr _ _ _ _,h=>by simp [z1d] at h
 | .tt,.agg _,h=>by simp [z1d] at h
 | .tt,.tup _,h=>by simp [z1d] at h
 | .tt,.fn _ _,h=>by simp [z1d] at h
 | .tt,.val _,h=>by simp [z1d] at h
 | .ff,.int _ _,h=>by simp [z1d] at h
 | .ff,.tt,h=>by simp [z1d] at h
 | .ff,.row _,h=>by simp [z1d] at h
 | .ff,.ptr _ _ _ _,h=>by simp [z1d] at h
 | .ff,.agg _,h=>by simp [z1d] at h
 | .ff,.tup _,h=>by simp [z1d] at h
 | .ff,.fn _ _,h=>by simp [z1d] at h
 | .ff,.val _,h=>by simp [z1d] at h
 | .bool _,.int _ _,h=>by simp [z1d] at h
 | .bool _,.tt,h=>by simp [z1d] at h
 | .bool _,.ff,h=>by simp [z1d] at h
 | .bool _,.row _,h=>by simp [z1d] at h
 | .bool _,.ptr _ _ _ _,h=>by simp [z1d] at h
 | .bool _,.agg _,h=>by simp [z1d] at h
 | .bool _,.tup _,h=>by simp [z1d] at h
 | .bool _,.fn _ _,h=>by simp [z1d] at h
 | .bool _,.val _,h=>by simp [z1d] at h
 | .row _,.int _ _,h=>by simp [z1d] at h
 | .row _,.tt,h=>by simp [z1d] at h
 | .row _,.ff,h=>by simp [z1d] at h
 | .row _,.bool _,h=>by simp [z1d] at h
 | .row _,.ptr _ _ _ _,h=>by simp [z1d] at h
 | .row _,.agg _,h=>by simp [z1d] at h
 | .row _,.tup _,h=>by simp [z1d] at h
 | .row _,.fn _ _,h=>by simp [z1d] at h
 | .row _,.val _,h=>by simp [z1d] at h
 | .ptr _ _ _ _,.int _ _,h=>by simp [z1d] at h
 | .ptr _ _ _ _,.tt,h=>by simp [z1d] at h
 | .ptr _ _ _ _,.ff,h=>by simp [z1d] at h
 | .ptr _ _ _ _,.bool _,h=>by simp [z1d] at h
 | .ptr _ _ _ _,.row _,h=>by simp [z1d] at h
 | .ptr _ _ _ _,.agg _,h=>by simp [z1d] at h
 | .ptr _ _ _ _,.tup _,h=>by simp [z1d] at h
 | .ptr _ _ _ _,.fn _ _,h=>by simp [z1d] at h
 | .ptr _ _ _ _,.val _,h=>by simp [z1d] at h
 | .agg _,.int _ _,h=>by simp [z1d] at h
 | .agg _,.tt,h=>by simp [z1d] at h
 | .agg _,.ff,h=>by simp [z1d] at h
 | .agg _,.bool _,h=>by simp [z1d] at h
 | .agg _,.row _,h=>by simp [z1d] at h
 | .agg _,.ptr _ _ _ _,h=>by simp [z1d] at h
 | .agg _,.tup _,h=>by simp [z1d] at h
 | .agg _,.fn _ _,h=>by simp [z1d] at h
 | .agg _,.val _,h=>by simp [z1d] at h
 | .tup _,.int _ _,h=>by simp [z1d] at h
 | .tup _,.tt,h=>by simp [z1d] at h
 | .tup _,.ff,h=>by simp [z1d] at h
 | .tup _,.bool _,h=>by simp [z1d] at h
 | .tup _,.row _,h=>by simp [z1d] at h
 | .tup _,.ptr _ _ _ _,h=>by simp [z1d] at h
 | .tup _,.agg _,h=>by simp [z1d] at h
 | .tup _,.fn _ _,h=>by simp [z1d] at h
 | .tup _,.val _,h=>by simp [z1d] at h
 | .fn _ _,.int _ _,h=>by simp [z1d] at h
 | .fn _ _,.tt,h=>by simp [z1d] at h
 | .fn _ _,.ff,h=>by simp [z1d] at h
 | .fn _ _,.bool _,h=>by simp [z1d] at h
 | .fn _ _,.row _,h=>by simp [z1d] at h
 | .fn _ _,.ptr _ _ _ _,h=>by simp [z1d] at h
 | .fn _ _,.agg _,h=>by simp [z1d] at h
 | .fn _ _,.tup _,h=>by simp [z1d] at h
 | .fn _ _,.val _,h=>by simp [z1d] at h
 | .val _,.int _ _,h=>by simp [z1d] at h
 | .val _,.tt,h=>by simp [z1d] at h
 | .val _,.ff,h=>by simp [z1d] at h
 | .val _,.bool _,h=>by simp [z1d] at h
 | .val _,.row _,h=>by simp [z1d] at h
 | .val _,.ptr _ _ _ _,h=>by simp [z1d] at h
 | .val _,.agg _,h=>by simp [z1d] at h
 | .val _,.tup _,h=>by simp [z1d] at h
 | .val _,.fn _ _,h=>by simp [z1d] at h
theorem z3d {σ:KM}:∀ {l m:List SV},zer σ l m->z0s ρ l=z0s (fun k=>ρ (z8h σ k)) m
 | [],[],_=>by simp [z0s]
 | x :: l,y :: m,h=>by simp only [zer] at h; simp only [z0s,subV_sound h.1,z3d h.2]
 | [],_ :: _,h=>by simp [zer] at h
 | _ :: _,[],h=>by simp [zer] at h
end
theorem subTm_lk {σ:KM} {tm:List (Nat × SV)}:∀ {l:List (Nat × SV)},subTm σ tm l->∀ {t:Nat} {v:SV},lk t l=some v->∃ u,lk t tm=some u/\z1d σ u v
 | [],_,t,v,h=>by simp [lk] at h
 | (i,x) :: l,hh,t,v,h=>by
  simp only [subTm] at hh
  split at hh
  ·rename_i u hu
   rw [z0g] at h
   split at h
   ·rename_i e; subst e; cases h; exact ⟨u,hu,hh.1⟩
   ·exact subTm_lk hh.2 h
  ·exact hh.elim
theorem zeq {σ:KM} {hp:z0d}:∀ {l:z0d},subHp σ hp l->∀ {k:Nat} {e:Ent},lk k l=some e->∃ d,lk (z8h σ k) hp=some d/\z80 σ d e
 | [],_,t,v,h=>by simp [lk] at h
 | (i,x) :: l,hh,t,v,h=>by
  simp only [subHp] at hh
  split at hh
  ·rename_i u hu
   rw [z0g] at h
   split at h
   ·rename_i e; subst e; cases h; exact ⟨u,hu,hh.1⟩
   ·exact zeq hh.2 h
  ·exact hh.elim
theorem subR_eq {r r':Row} (h:subR r r'):r=r':=by
 cases r <;> cases r' <;> simp only [subR] at h <;> first
  | (exact h.elim)
  | (rw [h]; done)
  | skip
 ·rename_i k xs k' ys
  cases hk:kEq k k' with
  | false=>rw [hk] at h; exact h.elim
  | true=>rw [hk] at h; have:=z5n hk; subst this; simp only [cond_true] at h; rw [h]
 ·rename_i k ks xs k' ks' ys
  cases hk:z9k (k :: ks) (k' :: ks') with
  | false=>rw [hk] at h; exact h.elim
  | true=>rw [hk] at h; have:=z77 hk; cases this; simp only [cond_true] at h; rw [h]
theorem subD_eq {r r':DK} (h:subD r r'):r=r':=by
 cases r <;> cases r' <;> simp only [subD] at h <;> first
  | (exact h.elim)
  | (rw [h]; done)
  | skip
 ·rename_i k xs k' ys
  cases hk:kEq k k' with
  | false=>rw [hk] at h; exact h.elim
  | true=>rw [hk] at h; have:=z5n hk; subst this; simp only [cond_true] at h; rw [h]
 ·rename_i k ks xs k' ks' ys
  cases hk:z9k (k :: ks) (k' :: ks') with
  | false=>rw [hk] at h; exact h.elim
  | true=>rw [hk] at h; have:=z77 hk; cases this; simp only [cond_true] at h; rw [h]
def SubDeep (d e:Ent):Prop:=∃ o o' t it t' it' d0 vs h h',d = .deep o t it d0 vs h/\e = .deep o' t' it' d0 vs h'/\((o=true/\o'=true/\t=t'/\it=it'/\h=h') ∨ (o=true/\o'=false/\h=none) ∨ (o=false/\o'=false))
theorem zgp {σ:KM} {d e:Ent} (h:z80 σ d e):(∃ t cs cs' o o',d = .box o t cs/\e = .box o' t cs'/\(o'=true->o=true)/\zer σ cs cs') ∨ (∃ t r o,d = .row true t r/\e = .row o t r) ∨ (∃ t t' r,d = .row false t r/\e = .row false t' r) ∨ (∃ st R,d = .loop st R/\e = .loop st R) ∨ (∃ t cs cs',d = .vec t cs/\e = .vec t cs'/\zer σ cs cs') ∨ (∃ kk vk m,d = .map kk vk m/\e = .map kk vk m) ∨ SubDeep d e:=by
 cases d with
 | box o t cs =>
  cases e with
  | box o' t' cs' =>
   cases o with
   | true =>
    simp only [z80] at h
    cases hk:Nat.beq t t' with
    | false=>rw [hk] at h; exact h.elim
    | true=>rw [hk] at h; have:=z10 hk; subst this; exact .inl ⟨t,cs,cs',_,_,rfl,rfl,fun _=>rfl,h⟩
   | false =>
    cases o' with
    | true=>simp [z80] at h
    | false =>
     simp only [z80] at h
     cases hk:Nat.beq t t' with
     | false=>rw [hk] at h; exact h.elim
     | true=>rw [hk] at h; have:=z10 hk; subst this; exact .inl ⟨t,cs,cs',_,_,rfl,rfl,fun h=>h,h⟩
  | row o t r=>cases o <;> simp [z80] at h
  | loop st R=>cases o <;> simp [z80] at h
  | vec t cs=>cases o <;> simp [z80] at h
  | map kk vk m=>cases o <;> simp [z80] at h
  | deep o' t' it d vs hh=>cases o <;> simp [z80] at h
 | deep o t it d vs hh =>
  cases e with
  | deep o' t' it' d' vs' hh' =>
   refine .inr (.inr (.inr (.inr (.inr (.inr ?_)))))
   cases o with
   | true =>
    cases o' with
    | true =>
     simp only [z80] at h
     cases hk:(Nat.beq t t' && Nat.beq it it') with
     | false=>rw [hk] at h; exact h.elim
     | true =>
      rw [hk] at h
      simp only [Bool.and_eq_true] at hk
      have e1:=z10 hk.1
      have e2:=z10 hk.2
      simp only [cond_true] at h
      obtain ⟨h1,h2,h3⟩:=h
      have h1:=subD_eq h1
      subst e1 e2 h1 h2 h3
      exact ⟨_,_,_,_,_,_,_,_,_,_,rfl,rfl,.inl ⟨rfl,rfl,rfl,rfl,rfl⟩⟩
    | false =>
     simp only [z80] at h
     obtain ⟨h1,h2,h3⟩:=h
     have h1:=subD_eq h1
     subst h1 h2 h3
     exact ⟨_,_,_,_,_,_,_,_,_,_,rfl,rfl,.inr (.inl ⟨rfl,rfl,rfl⟩)⟩
   | false =>
    cases o' with
    | true=>simp [z80] at h
    | false =>
     simp only [z80] at h
     obtain ⟨h1,h2⟩:=h
     have h1:=subD_eq h1
     subst h1 h2
     exact ⟨_,_,_,_,_,_,_,_,_,_,rfl,rfl,.inr (.inr ⟨rfl,rfl⟩)⟩
  | box o' t' cs'=>cases o <;> simp [z80] at h
  | row o' t' r=>cases o <;> simp [z80] at h
  | loop st R=>cases o <;> simp [z80] at h
  | vec t cs=>cases o <;> simp [z80] at h
  | map kk vk m=>cases o <;> simp [z80] at h
 | vec t cs =>
  cases e with
  | vec t' cs' =>
   simp only [z80] at h
   cases hk:Nat.beq t t' with
   | false=>rw [hk] at h; exact h.elim
   | true=>rw [hk] at h; have:=z10 hk; subst this; exact .inr (.inr (.inr (.inr (.inl ⟨t,cs,cs',rfl,rfl,h⟩))))
  | _=>simp [z80] at h
 | map kk vk m =>
  cases e with
  | map kk' vk' m' =>
   simp only [z80] at h
   cases hk:(kksEq kk kk' && vk.eq vk') with
   | false=>rw [hk] at h; exact h.elim
   | true =>
    rw [hk] at h
    simp only [Bool.and_eq_true] at hk
    have e1:=zhz hk.1
    have e2:=mkEq_eq hk.2
    simp only [cond_true] at h
    subst e1 e2 h
    exact .inr (.inr (.inr (.inr (.inr (.inl ⟨kk,vk,m,rfl,rfl⟩)))))
  | _=>simp [z80] at h
 | loop st R =>
  cases e with
  | box o' t' cs'=>simp [z80] at h
  | row o' t' r'=>simp [z80] at h
  | vec t cs=>simp [z80] at h
  | map kk vk m=>simp [z80] at h
  | deep o' t' it d vs hh=>simp [z80] at h
  | loop st' R' =>
   simp only [z80] at h
   cases hk:Nat.beq st st' with
   | false=>rw [hk] at h; exact h.elim
   | true=>rw [hk] at h; have:=z10 hk; subst this; simp only [cond_true] at h; subst h; exact .inr (.inr (.inr (.inl ⟨st,R,rfl,rfl⟩)))
 | row o t r =>
  cases e with
  | box o' t' cs'=>cases o <;> simp [z80] at h
  | row o' t' r' =>
   cases o with
   | true =>
    simp only [z80] at h
    cases hk:Nat.beq t t' with
    | false=>rw [hk] at h; exact h.elim
    | true=>rw [hk] at h; have:=z10 hk; subst this; simp only [cond_true] at h; have:=subR_eq h; subst this; exact .inr (.inl ⟨t,r,o',rfl,rfl⟩)
   | false =>
    cases o' with
    | true=>simp [z80] at h
    | false=>simp only [z80] at h; have:=subR_eq h; subst this; exact .inr (.inr (.inl ⟨t,t',r,rfl,rfl⟩))
  | loop st R=>cases o <;> simp [z80] at h
  | vec t cs=>cases o <;> simp [z80] at h
  | map kk vk m=>cases o <;> simp [z80] at h
  | deep o' t' it d vs hh=>cases o <;> simp [z80] at h
theorem subE_ok {σ:KM} {d e:Ent} {v:Value} (h:z80 σ d e) (hd:EntOk ρ w v d):EntOk (fun k=>ρ (z8h σ k)) w v e:=by
 rcases zgp h with ⟨t,cs,cs',o,o',rfl,rfl,_,hs⟩ | ⟨t,r,o,rfl,rfl⟩ | ⟨t,t',r,rfl,rfl⟩ | ⟨st,R,rfl,rfl⟩ | ⟨t,cs,cs',rfl,rfl,hs⟩ | ⟨kk,vk,m,rfl,rfl⟩ | ⟨o,o',t,it,t',it',d0,vs,h0,h1,rfl,rfl,hh⟩
 ·obtain ⟨g,hg,hh⟩:=hd
  exact ⟨g,hg,by rw [<- z3d hs]; exact hh⟩
 ·cases o
  ·exact z8j hd
  ·exact hd
 ·exact hd
 ·exact hd
 ·obtain ⟨g,hg,hh⟩:=hd
  have hlen:cs.length=cs'.length:=by
   have:=congrArg List.length (z3d (ρ:=ρ) hs)
   simpa [z0u] using this
  exact ⟨g,by rw [hg,hlen],by rw [<- z3d hs]; exact hh⟩
 ·exact hd
 ·rcases hh with ⟨rfl,rfl,rfl,rfl,rfl⟩ | ⟨rfl,rfl,rfl⟩ | ⟨rfl,rfl⟩
  ·exact hd
  ·exact DeepOwn.reads hd
  ·exact hd
theorem zgq {σ:KM} {d e:Ent} {v:Value} {g:Nat} (h:z80 σ d e) (ht:e.touch v g):d.touch v g:=by
 rcases zgp h with ⟨t,cs,cs',o,o',rfl,rfl,_,hs⟩ | ⟨t,r,o,rfl,rfl⟩ | ⟨t,t',r,rfl,rfl⟩ | ⟨st,R,rfl,rfl⟩ | ⟨t,cs,cs',rfl,rfl,hs⟩ | ⟨kk,vk,m,rfl,rfl⟩ | ⟨o,o',t,it,t',it',d0,vs,h0,h1,rfl,rfl,hh⟩
 ·exact ht
 ·cases o
  ·exact ht.2
  ·exact ht
 ·exact ht
 ·exact ht
 ·exact ht
 ·exact ht
 ·rcases hh with ⟨rfl,rfl,rfl,rfl,rfl⟩ | ⟨rfl,rfl,rfl⟩ | ⟨rfl,rfl⟩
  ·exact ht
  ·exact deep_touch ht
  ·exact ht
theorem subE_own {σ:KM} {d e:Ent} (h:z80 σ d e) (ho:e.own=true):d.own=true:=by
 rcases zgp h with ⟨t,cs,cs',o,o',rfl,rfl,hoo,hs⟩ | ⟨t,r,o,rfl,rfl⟩ | ⟨t,t',r,rfl,rfl⟩ | ⟨st,R,rfl,rfl⟩ | ⟨t,cs,cs',rfl,rfl,hs⟩ | ⟨kk,vk,m,rfl,rfl⟩ | ⟨o,o',t,it,t',it',d0,vs,h0,h1,rfl,rfl,hh⟩
 ·exact hoo ho
 ·rfl
 ·cases ho
 ·rfl
 ·rfl
 ·rfl
 ·rcases hh with ⟨rfl,rfl,rfl,rfl,rfl⟩ | ⟨rfl,rfl,rfl⟩ | ⟨rfl,rfl⟩
  ·rfl
  ·cases ho
  ·cases ho
theorem zks {σ:KM}:∀ {l:z0d},zdj σ l=true->∀ {k:Nat} {e:Ent},lk k l=some e->(k,z8h σ k) ∈ σ
 | [],_,t,v,h=>by simp [lk] at h
 | (i,x) :: l,hh,t,v,h=>by
  simp only [zdj,Bool.and_eq_true] at hh
  rw [z0g] at h
  split at h
  ·rename_i e; subst e
   obtain ⟨y,hy⟩:=Option.isSome_iff_exists.1 hh.1
   have:z8h σ t=y:=by simp [z8h,hy]
   rw [this]; exact z7m hy
  ·exact zks hh.2 h
theorem zki {σ:KM}:∀ {l:z0d},zdf σ l=true->∀ {k:Nat} {e:Ent},lk k l=some e->e.own=true->∀ j i,(j,i) ∈ σ->j ≠ k->i ≠ z8h σ k
 | [],_,t,v,h=>by simp [lk] at h
 | (i,x) :: l,hh,t,v,h=>by
  simp only [zdf,Bool.and_eq_true] at hh
  rw [z0g] at h
  split at h
  ·rename_i e; subst e; cases h
   intro ho j i hm hne
   rw [ho] at hh
   have:=List.all_eq_true.1 hh.1 (j,i) hm
   simp only [Bool.or_eq_true,Bool.not_eq_true'] at this
   rcases this with h1 | h1
   ·exact absurd (z10 h1) hne
   ·exact beq_ne h1
  ·exact zki hh.2 h
theorem z7e {s':St} (h:Sub n0 s s') (hs:Sym B w0 S0 N n0 ρ0 ρ s a w):∃ ρ',Sym B w0 S0 N n0 ρ0 ρ' s' a w:=by
 unfold Sub at h
 split at h
 ·exact h.elim
 ·split at h
  ·exact h.elim
  ·rename_i σ _ σ' _
   cases hb:(zdf σ' s'.hp && zdj σ' s'.hp && pinned n0 σ' && Nat.ble n0 s'.nk) with
   | false=>rw [hb] at h; exact h.elim
   | true =>
    rw [hb] at h
    simp only [cond_true] at h
    simp only [Bool.and_eq_true] at hb
    obtain ⟨⟨⟨b1,b2⟩,b3⟩,b4⟩:=hb
    obtain ⟨h1,h2⟩:=h
    refine ⟨fun k=>ρ (z8h σ' k),fun t v hv=>?_,hs.size,hs.defers,⟨fun k=>hs.hp.one _,fun k e hl=>?_,fun k e k' e' hl hl' hne ho g ht=>?_⟩,hs.fr,fun k e hl g ht=>?_,z8y b4,fun k hk=>?_⟩
    ·obtain ⟨u,hu,hsub⟩:=subTm_lk h1 hv
     rw [hs.tm t u hu,subV_sound hsub]
    ·obtain ⟨d,hd,hsub⟩:=zeq h2 hl
     exact subE_ok hsub (hs.hp.ent _ d hd)
    ·obtain ⟨d,hd,hsub⟩:=zeq h2 hl
     obtain ⟨d',hd',hsub'⟩:=zeq h2 hl'
     intro ht'
     have hne':=zki b1 hl ho k' _ (zks b2 hl') (Ne.symm hne)
     exact hs.hp.sep _ d _ d' hd hd' (Ne.symm hne') (subE_own hsub ho) g (zgq hsub ht) (zgq hsub' ht')
    ·obtain ⟨d,hd,hsub⟩:=zeq h2 hl
     rcases hs.own _ d hd g (zgq hsub ht) with h3 | ⟨h3,h4⟩
     ·exact .inl h3
     ·refine .inr ⟨?_,h4⟩
      cases ho:e.own with
      | false=>rfl
      | true=>have:=subE_own hsub ho; rw [h3] at this; cases this
    ·have:z8h σ' k=k:=by
      unfold z8h
      cases hl:lk k σ' with
      | none=>rfl
      | some y =>
       have:=List.all_eq_true.1 b3 _ (z7m hl)
       simp only [Bool.or_eq_true] at this
       rcases this with h | h
       ·have:=z8y h; omega
       ·exact (z10 h).symm
     show ρ (z8h σ' k)=ρ0 k
     rw [this]; exact hs.base k hk
theorem min_exists {p:Nat->Prop} (h:∃ n,p n):∃ n,p n/\∀ m,p m->n <= m:=by
 obtain ⟨n,hn⟩:=h
 induction n using Nat.strongRecOn with
 | _ n ih =>
  by_cases hm:∃ m,m<n/\p m
  ·obtain ⟨m,hlt,hp⟩:=hm; exact ih m hlt hp
  ·exact ⟨n,hn,fun m hp=>Nat.le_of_not_lt fun hlt=>hm ⟨m,hlt,hp⟩⟩
theorem znp {F:Fence} {nn:Nat} {c:Code} {Q:Exit->Act->World->Prop} {G:Type} (I:G->Act->World->Prop) (μ:G->Nat) {g:G} (h0:I g a w)
  (round:∀ g a w,I g a w->c.wpIn F nn P (Exit.then (fun a' w'=>∃ g',I g' a' w'/\μ g'<μ g) Q) a w):(Code.loop c).wpIn F nn P Q a w:=by
 classical
 let p:Act->World->Nat->Prop:=fun a w n=>∃ g,I g a w/\μ g=n
 let m:Act->World->Nat:=fun a w=>if h:∃ n,p a w n then Classical.choose (min_exists h) else 0
 have hm:∀ a w,(∃ n,p a w n)->p a w (m a w)/\∀ n,p a w n->m a w <= n:=by
  intro a w h
  simp only [m,dif_pos h]
  exact Classical.choose_spec (min_exists h)
 refine wpIn_loop (fun a w=>∃ g,I g a w) m ⟨g,h0⟩ fun a w ⟨g,hg⟩=>?_
 obtain ⟨⟨g1,hg1,e1⟩,_⟩:=hm a w ⟨_,g,hg,rfl⟩
 refine wpIn_mono (round g1 a w hg1) fun e a' w' hq=>?_
 cases e with
 | normal =>
  obtain ⟨g',hg',hlt⟩:=hq
  refine ⟨⟨g',hg'⟩,?_⟩
  have:=(hm a' w' ⟨_,g',hg',rfl⟩).2 _ ⟨g',hg',rfl⟩
  omega
 | _=>exact hq
mutual
theorem kb_mono {n m:Nat} (h:n <= m):∀ {v:SV},v.kb n=true->v.kb m=true
 | .row key,hk=>by simp only [SV.kb] at hk ⊢; have:=z1z hk; simp [Nat.blt_eq]; omega
 | .ptr key _ _ _,hk=>by simp only [SV.kb] at hk ⊢; have:=z1z hk; simp [Nat.blt_eq]; omega
 | .agg l,hk=>by simp only [SV.kb] at hk ⊢; exact z8g h hk
 | .tup l,hk=>by simp only [SV.kb] at hk ⊢; exact z8g h hk
 | .fn _ l,hk=>by simp only [SV.kb] at hk ⊢; exact z8g h hk
 | .mth _ l,hk=>by simp only [SV.kb] at hk ⊢; exact z8g h hk
 | .int _ _,_=>rfl
 | .tt,_=>rfl
 | .ff,_=>rfl
 | .bool _,_=>rfl
 | .val _,_=>rfl
theorem z8g {n m:Nat} (h:n <= m):∀ {l:List SV},kbs n l=true->kbs m l=true
 | [],_=>rfl
 | s :: l,hk=>by simp only [kbs,Bool.and_eq_true] at hk ⊢; exact ⟨kb_mono h hk.1,z8g h hk.2⟩
end
theorem zhi {n m:Nat} (h:n <= m):∀ {l:List (Nat × SV)},zcq n l=true->zcq m l=true
 | [],_=>rfl
 | (t,v) :: l,hk=>by simp only [zcq,Bool.and_eq_true] at hk ⊢; exact ⟨kb_mono h hk.1,zhi h hk.2⟩
theorem zh5 {n m:Nat} (h:n <= m):∀ {l:z0d},z31 n l=true->z31 m l=true
 | [],_=>rfl
 | (k,e) :: l,hk=>by
  simp only [z31,Bool.and_eq_true] at hk ⊢
  refine ⟨⟨by have:=z1z hk.1.1; simp [Nat.blt_eq]; omega,?_⟩,zh5 h hk.2⟩
  cases e with
  | box o t cs=>simp only [Ent.kb] at hk ⊢; exact z8g h hk.1.2
  | row o t r=>rfl
  | loop st R=>rfl
  | vec t cs=>simp only [Ent.kb] at hk ⊢; exact z8g h hk.1.2
  | map kk vk m=>rfl
  | deep o t it d vs hh=>rfl
def z6l (id:Nat):Exit:=if id<1000000 then .exit id else .panic [{ v:=panV (id - 1000000),recovered:=false }]
theorem zdb (next:Act->World->Prop) (Q:Exit->Act->World->Prop) (id:Nat) (a:Act) (w:World):Exit.then next Q (z6l id) a w=Q (z6l id) a w:=by
 unfold z6l; split <;> rfl
theorem exit_noGoto (Q:Exit->Act->World->Prop) (id:Nat) (a:Act) (w:World):Exit.noGoto Q (z6l id) a w=Q (z6l id) a w:=by
 unfold z6l; split <;> rfl
theorem exitOf_pan (t:Nat):z6l (t+1000000) = .panic [{ v:=panV t,recovered:=false }]:=by
 unfold z6l; rw [if_neg (by omega),Nat.add_sub_cancel]
theorem YsOk.mono {n0':Nat} {ρ1:Nat->Value} (h:YsOk P n0 ρ0 Γ) (hle:n0 <= n0') (hρ:∀ k,k<n0->ρ1 k=ρ0 k):YsOk P n0' ρ1 Γ:=fun key ro spec hl=>by
 obtain ⟨h1,h2⟩:=h key ro spec hl
 exact ⟨by omega,fun ρ hp nk w args K hH hb hn hs=>h2 ρ hp nk w args K hH (fun k hk=>(hb k (by omega)).trans (hρ k hk)) (by omega) hs⟩
def ziv (P:Program) (g:FuncId) (isp:z08):Prop:=(∀ args w,(callFunc g args).run P w = .ok (.enter g args) w) /\
 ∀ key spec ρ hp nk w args K,HOk ρ hp w->key<nk->YOk P key nk ρ spec->isp key spec args hp nk K->Calls P g (z0s ρ args).toArray w (Post ρ hp nk w K)
def IsOk (P:Program) (I:List (Nat × z08)):Prop:=∀ g isp,lk g I=some isp->ziv P g isp
theorem z06:IsOk P []:=fun _ _ h=>by simp [lk] at h
theorem isOk_cons {g:FuncId} {isp:z08} {I:List (Nat × z08)} (h:ziv P g isp) (hI:IsOk P I):IsOk P ((g,isp) :: I):=by
 intro f i hl
 rw [z0g] at hl
 split at hl
 ·rename_i e; subst e; cases hl; exact h
 ·exact hI f i hl
theorem zhb {ρ:Nat->Value}:∀ {ts:List Nat} {vs:List SV} {tm:List (Nat × SV)} {tmps:Array Value},(∀ t v,lk t tm=some v->tmps[t]? = some (v.toV ρ))->allBlt tmps.size ts=true->ts.length=vs.length ->
  (∀ t v,lk t (putAll ts vs tm)=some v->((ts.zip (z0s ρ vs)).foldl (fun tmps (x:Nat × Value)=>tmps.setIfInBounds x.1 x.2) tmps)[t]? = some (v.toV ρ))/\((ts.zip (z0s ρ vs)).foldl (fun tmps (x:Nat × Value)=>tmps.setIfInBounds x.1 x.2) tmps).size=tmps.size
 | [],[],tm,tmps,h,_,_=>⟨by simpa [putAll,z0s] using h,by simp [z0s]⟩
 | [],_ :: _,_,_,_,_,hl=>by simp at hl
 | _ :: _,[],_,_,_,_,hl=>by simp at hl
 | t :: ts,v :: vs,tm,tmps,h,hb,hl=>by
  simp only [allBlt,Bool.and_eq_true] at hb
  have hlt:=z1z hb.1
  have ih:=zhb (ρ:=ρ) (ts:=ts) (vs:=vs) (tm:=put t v tm) (tmps:=tmps.setIfInBounds t (v.toV ρ)) (fun t' v' hv'=>by
   rw [z51] at hv'
   rw [Array.getElem?_setIfInBounds]
   split at hv'
   ·rename_i e; subst e; cases hv'; rw [if_pos rfl,if_pos hlt]
   ·rename_i e; rw [if_neg (Ne.symm e)]; exact h t' v' hv') (by simpa using hb.2) (by simpa using hl)
  refine ⟨fun t' v' hv'=>?_,?_⟩
  ·simp only [z0s,List.zip_cons_cons,List.foldl_cons]
   exact ih.1 t' v' hv'
  ·simp only [z0s,List.zip_cons_cons,List.foldl_cons]
   rw [ih.2]; simp
theorem z5i (w:World) (l:Nat) (o:Obj):w.grownBy (w.putObj l o) (some l) :=
 ⟨rfl,rfl,rfl,by simp,fun k _ hne=>World.putObj_heap_other (fun e=>hne (by rw [e]))⟩
theorem Sym.loopTo (h:Sym B w0 S0 N n0 ρ0 ρ s a w) {k l st st':Nat} {R:Loop->Prop} {rec:Loop} (hl:lk k s.hp=some (.loop st R)) (hk:ρ k = .func (.yield l) #[] #[]) (hr:w.heap[l]? = some (.loop rec))
  (hR:R { rec with state:=.ready,pending:=none }):Sym B w0 S0 N n0 ρ0 ρ { s with hp:=Vc.put k (.loop st' R) s.hp } a (w.putObj l (.loop { rec with state:=stOf st',pending:=zl4 st' })):=by
 refine h.turn (e':=.loop st' R) hl rfl rfl (z5i w l _) (fun g=>Iff.rfl) hk ?_
 exact ⟨l,_,hk,World.putObj_heap_same (Array.getElem?_eq_some_iff.1 hr).1,rfl,rfl,hR⟩
theorem Sym.loopEnd (h:Sym B w0 S0 N n0 ρ0 ρ s a w) {k l st:Nat} {R:Loop->Prop} (hl:lk k s.hp=some (.loop st R)) (hk:ρ k = .func (.yield l) #[] #[]) (o:Obj) :
  Sym B w0 S0 N n0 ρ0 ρ { s with hp:=del k s.hp } a (w.putObj l o):=by
 have hold:∀ j d,lk j (del k s.hp)=some d->lk j s.hp=some d/\j ≠ k:=by
  intro j d hj
  rw [zkn] at hj
  split at hj
  ·cases hj
  ·rename_i hjk; exact ⟨hj,hjk⟩
 refine ⟨h.tm,h.size,h.defers.grown (z5i w l o) (fun g e=>by cases e; exact (h.hp.ent k _ hl).kind hk _),⟨h.hp.one,fun j d hj=>?_,fun j d j' d' hj hj' hne hod g htg=>?_⟩,h.fr.grown (z5i w l o) (fun g e=>by cases e; exact h.ownO hl rfl hk),fun j d hj g htg=>?_,h.le,h.base⟩
 ·obtain ⟨h1,h2⟩:=hold j d hj
  exact (h.hp.ent j d h1).keep fun g hgt=>World.putObj_heap_other (fun e=>h.hp.sep k _ j d hl h1 (Ne.symm h2) rfl l hk (e ▸ hgt))
 ·exact h.hp.sep j d j' d' (hold j d hj).1 (hold j' d' hj').1 hne hod g htg
 ·exact h.own j d (hold j d hj).1 g htg
def zin (P:Program) (T:Tys) (Γ:z0c) (N:Nat) (A:List (Nat × Ann)) (c:Code):Prop:=∀ {I:List (Nat × z08)} {B:Defs} {w0:World} {S0:Foot} {n0:Nat} {ρ0:Nat->Value} {rr:Option Nat} {nn:Nat},
  YsOk P n0 ρ0 Γ->IsOk P I->((rr=none/\B.ex=false) ∨ I=[])->∀ {s:St} {n r:St->Prop} {x:Nat->St->Prop},z2t T Γ N A c I n0 s n r x ->
  ∀ {ρ:Nat->Value} {a:Act} {w:World},Sym B w0 S0 N n0 ρ0 ρ s a w->∀ {Q:Exit->Act->World->Prop},(∀ s' ρ' a' w',Sym B w0 S0 N n0 ρ0 ρ' s' a' w'->n s'->Q .normal a' w') ->
  (∀ s' ρ' a' w',Sym B w0 S0 N n0 ρ0 ρ' s' a' w'->r s'->Q .ret a' w')->(∀ id s' ρ' a' w',Sym B w0 S0 N n0 ρ0 ρ' s' a' w'->x id s'->Q (z6l id) a' w')->c.wpIn (FW rr) nn P Q a w
theorem range_sound {A:List (Nat × Ann)} {f:Operand} {ps:Array Tmp} {asg b:Code} (ih1:zin P T Γ N A asg) (ih2:zin P T Γ N A b):zin P T Γ N A (.rangeFunc f ps asg b):=by
 intro I B w0 S0 n0 ρ0 rr nn hY hI hrr s n r x h ρ a w hs Q hn hr hx
 simp only [z2t] at h
 split at h
 ·rename_i g caps hev
  split at h
  ·rename_i isp hisp
   rcases hrr with ⟨rfl,hex⟩ | rfl
   ·cases hb:(s.kb && kbs s.nk caps && allBlt N ps.toList && Nat.blt g 1000000000) with
    | false=>rw [hb] at h; exact h.elim
    | true =>
     rw [hb] at h
     simp only [cond_true] at h
     simp only [Bool.and_eq_true] at hb
     obtain ⟨⟨⟨k1,k2⟩,k3⟩,_⟩:=hb
     have hge:=z0i hs hev
     simp only [SV.toV] at hge
     refine wpIn_rangeFunc fun fn hfn=>?_
     rw [FW_round]
     obtain ⟨rec0,hrec0⟩:∃ rec0:Loop,rec0 = { state:=.ready,pending:=none,fn,tmps:=a.tmps,params:=ps,assign:=asg,body:=b,defers:=w.heap.size }:=⟨_,rfl⟩
     obtain ⟨W1,hW1⟩:∃ W1,(w.alloc (.deferred (some []))).alloc (.loop rec0)=W1:=⟨_,rfl⟩
     have hL1:W1.heap[w.heap.size+1]? = some (.loop rec0):=by
      rw [<- hW1]; have:=World.alloc_heap_new (w.alloc (.deferred (some []))) (.loop rec0); rwa [World.size_alloc] at this
     have hg1:w.grownBy W1 none:=by
      rw [<- hW1]
      have g1:=World.grownBy_alloc w (.deferred (some [])) none
      have g2:=World.grownBy_alloc (w.alloc (.deferred (some []))) (.loop rec0) none
      exact ⟨g2.os.trans g1.os,g2.tape.trans g1.tape,g2.output.trans g1.output,Nat.le_trans g1.size g2.size,fun k hk hne=>(g2.block k (Nat.lt_of_lt_of_le hk g1.size) hne).trans (g1.block k hk hne)⟩
     have hD1:W1.heap[w.heap.size]? = some (.deferred (some [])):=by
      rw [<- hW1]
      have g2:=World.grownBy_alloc (w.alloc (.deferred (some []))) (.loop rec0) none
      exact (g2.block w.heap.size (by rw [World.size_alloc]; omega) (by simp)).trans (World.alloc_heap_new w _)
     have hsz1:W1.heap.size=w.heap.size+2:=by rw [<- hW1]; simp [World.size_alloc]
     let R:Loop->Prop:=fun rec=>rec=rec0
     let ρ1:Nat->Value:=fun j=>if j=s.nk then .func (.yield (w.heap.size+1)) #[] #[] else ρ j
     have hρ1:∀ k,k<s.nk->ρ1 k=ρ k:=fun k hk=>by simp only [ρ1]; rw [if_neg (by omega)]
     have hρn:ρ1 s.nk = .func (.yield (w.heap.size+1)) #[] #[]:=by simp [ρ1]
     have hlk1:∀ k d,lk k [(s.nk,Ent.loop 0 R)]=some d->k=s.nk/\d = .loop 0 R:=by
      intro k d hd
      rw [z0g] at hd
      split at hd
      ·rename_i e1; cases hd; exact ⟨e1,rfl⟩
      ·simp [lk] at hd
     have hs1:Sym B w0 S0 N n0 ρ0 ρ1 { tm:=s.tm,hp:=[(s.nk,Ent.loop 0 R)] ++ s.hp,nk:=s.nk+1 } a W1:=by
      refine hs.more k1 (Nat.le_succ _) hg1 hρ1 (fun k=>?_) (fun k d hd=>?_) (fun k d hd=>?_) (fun k d hd g hg=>?_) (fun k d k' d' hd hd' hne g hg=>?_)
      ·simp only [ρ1]; split
       ·rfl
       ·exact hs.hp.one k
      ·obtain ⟨rfl,rfl⟩:=hlk1 k d hd; exact Nat.le_refl _
      ·obtain ⟨rfl,rfl⟩:=hlk1 k d hd
       exact ⟨_,rec0,hρn,hL1,by rw [hrec0]; rfl,by rw [hrec0]; rfl,by simp only [R]; rw [hrec0]⟩
      ·obtain ⟨rfl,rfl⟩:=hlk1 k d hd
       simp only [Ent.touch,hρn,Value.func.injEq,Fn.yield.injEq,and_true] at hg
       omega
      ·obtain ⟨rfl,rfl⟩:=hlk1 k d hd
       obtain ⟨rfl,_⟩:=hlk1 k' d' hd'
       exact absurd rfl hne
     have kb1:({ tm:=s.tm,hp:=[(s.nk,Ent.loop 0 R)] ++ s.hp,nk:=s.nk+1 }:St).kb=true:=by
      unfold St.kb at k1 ⊢
      simp only [Bool.and_eq_true] at k1 ⊢
      refine ⟨zhi (Nat.le_succ _) k1.1,?_⟩
      simp only [List.cons_append,List.nil_append,z31,Ent.kb,Bool.and_true,Bool.and_eq_true]
      exact ⟨by simp [Nat.blt_eq],zh5 (Nat.le_succ _) k1.2⟩
     have h:=h R
     obtain ⟨henter,hcall⟩:=hI g isp hisp
     have hle0:=hs.le
     have hc:=hcall s.nk _ ρ1 _ (s.nk+1) W1 _ _ hs1.hp (Nat.lt_succ_self _) ?_ h
     ·
      have hargs:(z0s ρ1 (.row s.nk :: caps)).toArray = #[.func (.yield (w.heap.size+1)) #[] #[]] ++ (z0s ρ caps).toArray:=by
       simp only [z0s,SV.toV,hρn]
       rw [z1k hρ1 caps k2]
       simp
      rw [hargs] at hc
      refine ⟨w.heap.size+1,[{ target:=.collected w.heap.size,args:=#[] }],W1,{ target:=.fn (.func g) (z0s ρ caps).toArray,args:=#[.func (.yield (w.heap.size+1)) #[] #[]] },W1,g,
       #[.func (.yield (w.heap.size+1)) #[] #[]] ++ (z0s ρ caps).toArray,W1,?_,?_,?_,?_,?_,callsFW (r:=none) ?_⟩
      ·rw [<- hW1,hrec0]; exact run_enterLoop_outer _ _ _ _ _
      ·simp only [resolve,hge]
       simp [go_sem]
      ·exact fun _ _=>trivial
      ·simp [invoke,go_sem,henter]
      ·exact fun hh=>by simp [FW,Fence.wide] at hh
      ·refine hc.mono fun e W2 he=>?_
       obtain ⟨res,hp',nk',ρ',rfl,hk,hH,hρ',hle',hfr,hown⟩:=he
       have hs2:=hs1.call kb1 hH hρ' hle' hfr hown
       have hk2:ρ' s.nk = .func (.yield (w.heap.size+1)) #[] #[]:=(hρ' _ (Nat.lt_succ_self _)).trans hρn
       have hD2:W2.heap[w.heap.size]? = some (.deferred (some [])):=by
        refine (hfr.block w.heap.size (by omega) (fun ⟨k,e,hl,_,ht⟩=>(hs1.hp.ent k e hl).kind ht _ hD1)).trans hD1
       have fin:∀ st R',lk s.nk hp'=some (.loop st R')->st ≠ 1->∃ W4,(Instr.endLoop (w.heap.size+1)).run P W2 = .ok (zl4 st) W4 /\
         Sym B w0 S0 N n0 ρ0 ρ' ⟨s.tm,del s.nk hp',nk'⟩ { a with defers:=[{ target:=.collected w.heap.size,args:=#[] }] ++ a.defers } W4:=by
        intro st R' hl hst
        obtain ⟨l',rec',e1,hl',hstate,hpend,_⟩:=hH.ent s.nk _ hl
        rw [hk2] at e1
        simp only [Value.func.injEq,Fn.yield.injEq,and_true] at e1
        subst e1
        refine ⟨_,by rw [<- hpend]; exact run_endLoop hl' (by rw [hstate]; intro e; match st,hst with | 0,_=>cases e | 1,h=>exact h rfl | _+2,_=>cases e),?_⟩
        have hs3:=hs2.loopEnd hl hk2 (.loop { rec' with state:=.exhausted })
        refine ⟨hs3.tm,hs3.size,?_,hs3.hp,hs3.fr,hs3.own,hs3.le,hs3.base⟩
        obtain ⟨Ds,d1,d2,d3,_⟩:=hs3.defers
        refine ⟨w.heap.size :: Ds,?_,List.nodup_cons.2 ⟨fun hm=>?_,d2⟩,(fun D hD=>?_),fun h=>by rw [hex] at h; cases h⟩
        ·simp only [List.map_cons,List.cons_append,List.nil_append]; rw [<- d1]; rfl
        ·obtain ⟨Ds',e1,_,e3,_⟩:=hs.defers
         have:Ds'=Ds:=by
          have:=List.append_cancel_right (e1.symm.trans d1)
          exact (List.map_inj_right (fun a b (h:mark a=mark b)=>by simpa [mark] using h)).1 this
         subst this
         have:=(Array.getElem?_eq_some_iff.1 (e3 _ hm).2).1
         omega
        ·rcases List.mem_cons.1 hD with rfl | hD
         ·exact ⟨hs.fr.size,(World.putObj_heap_other (by omega)).trans hD2⟩
         ·exact d3 D hD
       split at hk
       ·rename_i R' hl
        obtain ⟨W4,h1,h2⟩:=fin _ _ hl (by omega)
        exact ⟨none,W4,h1,hn _ _ _ _ h2 hk⟩
       ·rename_i R' hl
        obtain ⟨W4,h1,h2⟩:=fin _ _ hl (by omega)
        exact ⟨some .ret,W4,h1,wpIn_ret (hr _ _ _ _ h2 hk)⟩
       ·rename_i st R' hl
        obtain ⟨W4,h1,h2⟩:=fin _ _ hl (by omega)
        cases hb5:Nat.blt st 1000000 with
        | false=>rw [hb5] at hk; exact hk.elim
        | true =>
        rw [hb5] at hk
        have h5:=hx _ _ _ _ _ h2 hk
        unfold z6l at h5
        rw [if_pos (z1z hb5)] at h5
        exact ⟨some (.exit st),W4,h1,wpIn_exit h5⟩
       ·exact hk.elim
     ·
      intro ρ2 hp2 nk2 W args K hH hbase hle hh
      have hk2:ρ2 s.nk = .func (.yield (w.heap.size+1)) #[] #[]:=(hbase _ (Nat.lt_succ_self _)).trans hρn
      split at hh
      ·rename_i R0 hl
       obtain ⟨hR0,hh⟩:=hh
       subst hR0
       cases hb:(Nat.beq args.length ps.size && kbs nk2 args && Nat.blt s.nk nk2) with
       | false=>rw [hb] at hh; exact hh.elim
       | true =>
        rw [hb] at hh
        simp only [cond_true] at hh
        simp only [Bool.and_eq_true] at hb
        obtain ⟨⟨b1,b2⟩,b3⟩:=hb
        have b1:=z10 b1
        obtain ⟨l',rec',e1,hl',hstate,hpend,hrr⟩:=hH.ent s.nk _ hl
        rw [hk2] at e1
        simp only [Value.func.injEq,Fn.yield.injEq,and_true] at e1
        subst e1
        have hrec:rec'=rec0:=by
         have:({ rec' with state:=.ready,pending:=none }:Loop)=rec0:=hrr
         rw [<- this]
         cases rec'
         simp only [stOf,zl4] at hstate hpend
         subst hstate hpend
         rfl
        subst hrec
        have hpar:rec'.params=ps:=by rw [hrec0]
        have htm:rec'.tmps=a.tmps:=by rw [hrec0]
        have hlen:(z0s ρ2 args).length=args.length:=by simp [z0u]
        refine ⟨w.heap.size+1,rec'.fn,_,rec'.assign,rec'.body,hk2,run_yield hl' (by rw [hpar]; simp [hlen,b1]),fun n=>?_⟩
        have hold:∀ k,k<s.nk->ρ2 k=ρ k:=fun k hk=>(hbase k (by omega)).trans (hρ1 k hk)
        have hpa:=zhb (ρ:=ρ2) (ts:=ps.toList) (vs:=args) (tm:=s.tm) (tmps:=a.tmps) (fun t v hv=>by rw [hs.tm t v hv,z4x hold v (s.kb_tm k1 hv)]) (by rw [hs.size]; exact k3) (by simp [b1])
        have hfold:(rec'.params.zip (z0s ρ2 args).toArray).foldl (fun tmps (t,a)=>tmps.setIfInBounds t a) rec'.tmps=(ps.toList.zip (z0s ρ2 args)).foldl (fun tmps (x:Nat × Value)=>tmps.setIfInBounds x.1 x.2) a.tmps:=by
         rw [hpar,htm,<- Array.foldl_toList,Array.toList_zip]
        rw [hfold]
        have hsr:Sym ⟨false,[]⟩ W (foot ρ2 hp2) N nk2 ρ2 ρ2 ⟨putAll ps.toList args s.tm,hp2,nk2⟩ { tmps:=(ps.toList.zip (z0s ρ2 args)).foldl (fun tmps (x:Nat × Value)=>tmps.setIfInBounds x.1 x.2) a.tmps,defers:=[] } W :=
         ⟨hpa.1,by rw [hpa.2]; exact hs.size,MarksOk.nil _ _ _,hH,Fr.refl _ _,foot_own _ _ _,Nat.le_refl _,fun _ _=>rfl⟩
        have hY2:YsOk P nk2 ρ2 Γ:=hY.mono (by omega) (fun k hk=>(hold k (by omega)).trans (hs.base k hk))
        have hfin:∀ (st:Nat) (v:SV) (jump:Option Code),st ≠ 1->stOf st=(if jump.isNone then .ready else .done)->zl4 st=jump->(∀ ρ',v.toV ρ' = .bool jump.isNone)->∀ s' ρ' a' w',Sym ⟨false,[]⟩ W (foot ρ2 hp2) N nk2 ρ2 ρ' s' a' w'->endS s.nk st v K s' ->
          ∃ u w5,(Instr.endRound (w.heap.size+1) jump).run P w' = .ok u w5/\Post ρ2 hp2 nk2 W K (.returned u) w5:=by
         intro st v jump hst1 hst hpe hv s' ρ' a' w' hs' hk
         unfold endS at hk
         split at hk
         ·rename_i R5 hl5
          have hk5:ρ' s.nk = .func (.yield (w.heap.size+1)) #[] #[]:=(hs'.base _ (z1z b3)).trans hk2
          obtain ⟨l5,rec5,e5,hl5',hst5,hpe5,hR5⟩:=hs'.hp.ent s.nk _ hl5
          rw [hk5] at e5
          simp only [Value.func.injEq,Fn.yield.injEq,and_true] at e5
          subst e5
          have hs5:=hs'.loopTo (st':=st) hl5 hk5 hl5' hR5
          rw [hst,hpe] at hs5
          refine ⟨_,_,run_endRound jump hl5',v,_,_,ρ',by rw [hv],hk,hs5.hp,hs5.base,hs5.le,hs5.fr,hs5.own⟩
         ·exact hk.elim
        refine roundIn_of_wpIn trivial ?_
        have hasg:rec'.assign=asg:=by rw [hrec0]
        have hbody:rec'.body=b:=by rw [hrec0]
        rw [hasg,hbody]
        refine ih1 (rr:=some (w.heap.size+1)) hY2 z06 (.inr rfl) hh hsr (fun s3 ρ3 a3 w3 hs3 hk=>?_) (fun _ _ _ _ _ hk=>hk.elim) (fun _ _ _ _ _ _ hk=>hk.elim)
        split at hk
        ·rename_i R3 hl3
         have hk3:ρ3 s.nk = .func (.yield (w.heap.size+1)) #[] #[]:=(hs3.base _ (z1z b3)).trans hk2
         obtain ⟨l3,rec3,e3,hl3',hst3,hpe3,hR3⟩:=hs3.hp.ent s.nk _ hl3
         rw [hk3] at e3
         simp only [Value.func.injEq,Fn.yield.injEq,and_true] at e3
         subst e3
         refine ⟨_,run_beginRound hl3' (by rw [hst3]; rfl),?_⟩
         have hs4:=hs3.loopTo (st':=1) hl3 hk3 hl3' hR3
         have e4:({ rec3 with state:=stOf 1,pending:=zl4 1 }:Loop) = { rec3 with state:=.busy }:=by
          cases rec3
          simp only [zl4] at hpe3 ⊢
          subst hpe3
          rfl
         rw [e4] at hs4
         exact ih2 (rr:=some (w.heap.size+1)) hY2 z06 (.inr rfl) hk hs4
          (fun s' ρ' a' w' hs' hk=>hfin 0 .tt none (by omega) rfl rfl (fun _=>by simp [SV.toV]) s' ρ' a' w' hs' hk)
          (fun s' ρ' a' w' hs' hk=>hfin 2 .ff (some .ret) (by omega) rfl rfl (fun _=>by simp [SV.toV]) s' ρ' a' w' hs' hk)
          (fun id s' ρ' a' w' hs' hk=>by
           cases hb5:Nat.blt id 1000000 with
           | false=>rw [hb5] at hk; exact hk.elim
           | true =>
            rw [hb5] at hk
            unfold z6l
            rw [if_pos (z1z hb5)]
            exact hfin (id+3) .ff (some (.exit id)) (by omega) rfl rfl (fun _=>by simp [SV.toV]) s' ρ' a' w' hs' hk)
        ·exact hk.elim
      ·exact hh.elim
   ·simp [lk] at hisp
  ·exact h.elim
 ·exact h.elim
theorem panTy_sound (hT:z5w P T) {ops:List Oper} {t:TypeId} {e1 e2:Tmp} (h:panTy T N ops=some (t,e1,e2)) (hs:Sym B w0 S0 N n0 ρ0 ρ s a w) {rr:Option Nat} {nn:Nat} {Q:Exit->Act->World->Prop}
  (hQ:∀ a',Sym B w0 S0 N n0 ρ0 ρ { s with tm:=Vc.put e2 (.val (.iface t (.agg #[]))) (Vc.put e1 (.agg []) s.tm) } a' w->Q (.panic [{ v:=panV t,recovered:=false }]) a' w):wpListIn (FW rr) nn P ops.toArray Q ops a w:=by
 unfold panTy at h
 split at h
 ·rename_i o1 o2 o3
  split at h
  ·rename_i tb ps tb' d d' f1 f2 ho1 ho2 ho3 g1 g2 g3 hd1 hd2
   split at h
   ·rename_i fs sl ik eqs hti
    cases hb:(ps.isEmpty && Nat.beq tb tb' && Nat.beq d f1 && Nat.beq d' f2 && Nat.blt f1 N && Nat.blt f2 N && !Nat.beq f1 f2) with
    | false=>rw [hb] at h; cases h
    | true =>
     rw [hb] at h
     simp only [cond_true,Option.some.injEq,Prod.mk.injEq] at h
     obtain ⟨rfl,rfl,rfl⟩:=h
     simp only [Bool.and_eq_true,Bool.not_eq_true'] at hb
     obtain ⟨⟨⟨⟨⟨⟨b1,b2⟩,b3⟩,b4⟩,b5⟩,b6⟩,b7⟩:=hb
     have b2:=z10 b2
     have b3:=z10 b3
     have b4:=z10 b4
     have b5:=z1z b5
     have b6:=z1z b6
     have b7:=beq_ne b7
     subst b2; subst b3; subst b4
     have hps:ps = #[]:=by simpa using b1
     subst hps
     have ht:=hT _ _ hti
     obtain ⟨i,hi,hsz,hzero⟩:=ht.parts
     have hpl:=ht.pl rfl
     have hund:∃ d,P.underlying tb=some d/\∀ ms,d ≠ .interface ms:=by
      obtain ⟨d,hd,hg,_⟩:=ht.undParts
      exact ⟨d,hd,fun ms e=>by subst e; simp [aggD] at hg⟩
     obtain ⟨d0,hd0,hni⟩:=hund
     have hbuilt:P.built tb (#[].map fun (i,x)=>(i,a.eval x)).toList=some #[]:=by
      rw [hd0] at hpl
      simp only [Option.map_some,Option.some.injEq] at hpl
      have hzc:i.zero=some (.agg #[]):=hzero
      cases d0 <;> try (simp [zc2] at hpl; done)
      ·rename_i m e
       simp only [zc2] at hpl
       unfold Program.built
       cases hie:P.info? e with
       | none=>rw [hie] at hpl; cases hpl
       | some ie =>
        simp only [hi,hd0,hzc,hie]
        simp [Instr.fill,Value.cells]
      ·rename_i fields
       simp only [zc2] at hpl
       unfold Program.built
       simp only [hi,hd0,hzc,hpl]
       simp [Instr.fill,Value.cells]
     have h1:(execOp a.eval o1).run P w = .ok (.value (SV.toV ρ (.agg []))) w:=by
      unfold execOp
      simp only [ho1,Sem.run_bind,run_build w tb _ _ hbuilt,Result.andThen_ok,SV.toV,z0s]
      rfl
     have hs1:=hs.put b5 (.agg [])
     have ht1:(a.put (some d) (SV.toV ρ (.agg []))).eval (.tmp d) = .agg #[]:=by
      have:=hs1.tm d (.agg []) (by simp only [z51,if_true])
      simp only [Act.eval,Array.getD_eq_getD_getElem?,this]
      simp [SV.toV,z0s]
     have h2:(execOp (a.put (some d) (SV.toV ρ (.agg []))).eval o2).run P w = .ok (.value (SV.toV ρ (.val (.iface tb (.agg #[]))))) w:=by
      generalize a.put (some d) (SV.toV ρ (.agg []))=a1 at ht1
      cases d0 <;> first | exact absurd rfl (hni _) | simp [execOp,ho2,ht1,Instr.makeInterface,run_underlying hd0,SV.toV]
     have hs2:=hs1.put b6 (.val (.iface tb (.agg #[])))
     have ht2:((a.put (some d) (SV.toV ρ (.agg []))).put (some d') (SV.toV ρ (.val (.iface tb (.agg #[]))))).eval (.tmp d') = .iface tb (.agg #[]):=by
      have:=hs2.tm d' (.val (.iface tb (.agg #[]))) (by simp only [z51,if_true])
      simp only [Act.eval,Array.getD_eq_getD_getElem?,this]
      simp [SV.toV]
     have step:∀ (o:Oper) (l:List Oper) (a:Act) (v:Value),o.guard=none->(∀ c,o.op ≠ .defer c)->(execOp a.eval o).run P w = .ok (.value v) w->wpListIn (FW rr) nn P [o1,o2,o3].toArray Q l (a.put o.dst v) w->wpListIn (FW rr) nn P [o1,o2,o3].toArray Q (o :: l) a w:=by
      intro o l a v hg hnd hr hl
      unfold wpListIn
      rw [if_pos (z8v hg _)]
      exact opIn hnd (z11 hr hl)
     refine step o1 _ a _ g1 (fun c hc=>by rw [ho1] at hc; cases hc) h1 ?_
     rw [hd1]
     refine step o2 _ _ _ g2 (fun c hc=>by rw [ho2] at hc; cases hc) h2 ?_
     rw [hd2]
     unfold wpListIn
     rw [if_pos (z8v g3 _)]
     refine opInP (fun c hc=>by rw [ho3] at hc; cases hc) ?_
     unfold Oper.wp
     have h3:(execOp ((a.put (some d) (SV.toV ρ (.agg []))).put (some d') (SV.toV ρ (.val (.iface tb (.agg #[]))))).eval o3).run P w = .halt (.panic (.iface tb (.agg #[]))) w:=by
      generalize (a.put (some d) (SV.toV ρ (.agg []))).put (some d') (SV.toV ρ (.val (.iface tb (.agg #[]))))=a2 at ht2
      simp [execOp,ho3,ht2,Instr.panic]
     rw [h3,Oper.upon_panic]
     exact hQ _ hs2
   ·cases h
  ·cases h
 ·cases h
theorem vcCode_sound (hT:z5w P T) (hΓ:z1c P Γ) (hm:P.follows .mixedOrders=true) {A:List (Nat × Ann)}:∀ {c:Code},z2h P Γ c=true->∀ {I:List (Nat × z08)} {B:Defs} {w0:World} {S0:Foot} {n0:Nat} {ρ0:Nat->Value} {rr:Option Nat} {nn:Nat},
  YsOk P n0 ρ0 Γ->IsOk P I->((rr=none/\B.ex=false) ∨ I=[])->∀ {s:St} {n r:St->Prop} {x:Nat->St->Prop},z2t T Γ N A c I n0 s n r x ->
  ∀ {ρ:Nat->Value} {a:Act} {w:World},Sym B w0 S0 N n0 ρ0 ρ s a w->∀ {Q:Exit->Act->World->Prop},(∀ s' ρ' a' w',Sym B w0 S0 N n0 ρ0 ρ' s' a' w'->n s'->Q .normal a' w') ->
  (∀ s' ρ' a' w',Sym B w0 S0 N n0 ρ0 ρ' s' a' w'->r s'->Q .ret a' w')->(∀ id s' ρ' a' w',Sym B w0 S0 N n0 ρ0 ρ' s' a' w'->x id s'->Q (z6l id) a' w')->c.wpIn (FW rr) nn P Q a w:=by
 intro c
 induction c with
 | skip=>intro _ I B w0 S0 n0 ρ0 rr nn hY hI hrr s n r x h ρ a w hs Q hn hr hx; exact wpIn_skip (hn _ _ _ _ hs h)
 | label l=>intro _ I B w0 S0 n0 ρ0 rr nn hY hI hrr s n r x h ρ a w hs Q hn hr hx; exact wpIn_label (hn _ _ _ _ hs h)
 | ret=>intro _ I B w0 S0 n0 ρ0 rr nn hY hI hrr s n r x h ρ a w hs Q hn hr hx; exact wpIn_ret (hr _ _ _ _ hs h)
 | exit id =>
  intro _ I B w0 S0 n0 ρ0 rr nn hY hI hrr s n r x h ρ a w hs Q hn hr hx
  simp only [z2t] at h
  cases hb:Nat.blt id 1000000 with
  | false=>rw [hb] at h; exact h.elim
  | true =>
   rw [hb] at h
   have:=hx id _ _ _ _ hs h
   unfold z6l at this
   rw [if_pos (z1z hb)] at this
   exact wpIn_exit this
 | seq c1 c2 ih1 ih2 =>
  intro hd I B w0 S0 n0 ρ0 rr nn hY hI hrr s n r x h ρ a w hs Q hn hr hx
  simp only [z2h,Bool.and_eq_true] at hd
  simp only [z2t] at h
  split at h
  ·exact wpIn_seq (ih1 hd.1 hY hI hrr h hs (fun s' ρ' a' w' hs' hk=>ih2 hd.2 hY hI hrr hk hs' hn hr hx) hr (fun id s' ρ' a' w' hs' hk=>by rw [zdb]; exact hx id s' ρ' a' w' hs' hk))
  ·rename_i ann _
   cases hl:ann.link with
   | true =>
    rw [hl] at h
    obtain ⟨Q',h1,h2⟩:=h
    refine wpIn_seq (ih1 hd.1 hY hI hrr h1 hs (fun s' ρ' a' w' hs' hk=>?_) hr (fun id s' ρ' a' w' hs' hk=>by rw [zdb]; exact hx id s' ρ' a' w' hs' hk))
    obtain ⟨g,⟨hg,hq⟩,hsub⟩:=hk
    obtain ⟨ρ2,hs2⟩:=z7e hsub hs'
    exact ih2 hd.2 hY hI hrr (h2 g hg hq) hs2 hn hr hx
   | false =>
    rw [hl] at h
    simp only [cond_false] at h
    refine wpIn_seq (ih1 hd.1 hY hI hrr h.1 hs (fun s' ρ' a' w' hs' hk=>?_) hr (fun id s' ρ' a' w' hs' hk=>by rw [zdb]; exact hx id s' ρ' a' w' hs' hk))
    obtain ⟨g,hg,hsub⟩:=hk
    obtain ⟨ρ2,hs2⟩:=z7e hsub hs'
    exact ih2 hd.2 hY hI hrr (h.2 g hg) hs2 hn hr hx
 | cond c c1 c2 ih1 ih2 =>
  intro hd I B w0 S0 n0 ρ0 rr nn hY hI hrr s n r x h ρ a w hs Q hn hr hx
  simp only [z2h,Bool.and_eq_true] at hd
  simp only [z2t] at h
  split at h
  ·rename_i hv
   have he:=z0i hs hv
   simp only [SV.toV] at he
   exact wpIn_cond_true he (ih1 hd.1 hY hI hrr h hs hn hr hx)
  ·rename_i hv
   have he:=z0i hs hv
   simp only [SV.toV] at he
   exact wpIn_cond_false he (ih2 hd.2 hY hI hrr h hs hn hr hx)
  ·rename_i p hv
   have he:=z0i hs hv
   simp only [SV.toV] at he
   exact wpIn_cond_split he (fun hp=>ih1 hd.1 hY hI hrr (h.1 hp) hs hn hr hx) (fun hp=>ih2 hd.2 hY hI hrr (h.2 hp) hs hn hr hx)
  ·exact h.elim
 | block id b ih =>
  intro hd I B w0 S0 n0 ρ0 rr nn hY hI hrr s n r x h ρ a w hs Q hn hr hx
  simp only [z2t] at h
  cases hbl:Nat.blt id 1000000 with
  | false=>rw [hbl] at h; exact h.elim
  | true =>
  rw [hbl] at h
  simp only [cond_true] at h
  have hbl:=z1z hbl
  refine wpIn_block (ih hd hY hI hrr h hs hn hr fun id' s' ρ' a' w' hs' hk=>?_)
  cases hb:Nat.beq id' id with
  | true =>
   rw [hb] at hk
   have e1:=z10 hb
   unfold z6l
   rw [if_pos (by omega)]
   simp only [Exit.inBlock]
   rw [if_pos e1]; exact hn _ _ _ _ hs' hk
  | false =>
   rw [hb] at hk
   have:=hx _ _ _ _ _ hs' hk
   unfold z6l at this ⊢
   split
   ·rename_i hlt
    rw [if_pos hlt] at this
    simp only [Exit.inBlock]
    rw [if_neg (beq_ne hb)]; exact this
   ·rename_i hlt
    rw [if_neg hlt] at this
    exact this
 | loop b ih =>
  intro hd I B w0 S0 n0 ρ0 rr nn hY hI hrr s n r x h ρ a w hs Q hn hr hx
  simp only [z2t] at h
  split at h
  ·rename_i ann hann
   obtain ⟨g,⟨hp,hsub⟩,hround⟩:=h
   refine znp (G:=ann.G) (fun g' a w=>ann.rel g g'/\∃ ρ',Sym B w0 S0 N n0 ρ0 ρ' (ann.inv g') a w) ann.meas (g:=g) ⟨hp,z7e hsub hs⟩ ?_
   rintro g a w ⟨hp,ρ',hs'⟩
   refine ih hd hY hI hrr (hround g hp) hs' (fun s' ρ'' a' w' hs'' hk=>?_) hr (fun id s' ρ' a' w' hs' hk=>by rw [zdb]; exact hx id s' ρ' a' w' hs' hk)
   obtain ⟨g',hp',hlt,hsub'⟩:=hk
   exact ⟨g',⟨hp',z7e hsub' hs''⟩,hlt⟩
  ·exact h.elim
 | region id ops draw =>
  intro hd I B w0 S0 n0 ρ0 rr nn hY hI hrr s n r x h ρ a w hs Q hn hr hx
  have hops:ops=ops.toList.toArray:=by simp
  cases draw with
  | false =>
   simp only [z2t] at h
   rw [hops]
   refine wpIn_region_lit ?_
   simp only [cond_false] at h
   split at h
   ·rename_i t e1 e2 hp
    exact panTy_sound hT hp hs fun a' hs'=>by have:=hx _ _ _ _ _ hs' h; rwa [exitOf_pan] at this
   ·exact zaf hT hΓ hY h hs hn (fun t s' ρ' a' w' hs' hk=>by have:=hx _ _ _ _ _ hs' hk; rwa [exitOf_pan] at this)
  | true =>
   simp only [z2t] at h
   simp only [z2h,regionOk,Bool.and_eq_true,Bool.not_true,Bool.false_or] at hd
   rw [hops]
   refine tree_specIn (fl:=flAt Γ ops.toList) (eag:=eagAt Γ ops.toList) (fun i o c ho hc=>?_) hd.2.1 (fun q hq=>?_) hm ?_
   ·have:=List.all_eq_true.1 hd.1 o (List.mem_of_getElem? (by simpa using ho))
    rw [hc] at this
    cases this
   ·have hlt:q<ops.toList.length:=by
     rcases Nat.lt_or_ge q ops.toList.length with h | h
     ·exact h
     ·unfold eagAt at hq; rw [List.getElem?_eq_none h] at hq; cases hq
    have:=List.all_eq_true.1 hd.2.2 q (List.mem_range.2 hlt)
    simpa [hq] using this
   ·have hs':Sym B w0 S0 N n0 ρ0 ρ s a w.drew:=⟨hs.tm,hs.size,hs.defers.keep fun _ _=>rfl,⟨hs.hp.one,fun k e hl=>(hs.hp.ent k e hl).keep fun g _=>rfl,hs.hp.sep⟩,⟨hs.fr.os,hs.fr.tape,hs.fr.output,hs.fr.size,hs.fr.block⟩,hs.own,hs.le,hs.base⟩
    have hsz:ops.toList.toArray.size=ops.toList.length:=by simp
    rw [hsz]
    refine vcT_sound hT hΓ (fun s' ρ' a' w' hs'' hk=>?_) h hs'
    cases hp:plainS ops.toList s' ops.toList with
    | false=>rw [hp] at hk; exact hk.elim
    | true =>
     rw [hp] at hk
     refine ⟨plainEnd_of ?_,hn s' ρ' a' w' hs'' hk⟩
     have:=zha hs'' hp
     unfold plainB
     simpa using this
 | scope b ih =>
  intro hd I B w0 S0 n0 ρ0 rr nn hY hI hrr s n r x h ρ a w hs Q hn hr hx
  exact zcv (ih hd hY hI hrr h hs hn hr (fun id s' ρ' a' w' hs' hk=>by rw [exit_noGoto]; exact hx id s' ρ' a' w' hs' hk))
 | goto l=>intro _ I B w0 S0 n0 ρ0 rr nn hY hI hrr s n r x h; exact h.elim
 | refuse y=>intro _ I B w0 S0 n0 ρ0 rr nn hY hI hrr s n r x h; exact h.elim
 | rangeFunc f ps asg b ih1 ih2 =>
  intro hd
  simp only [z2h,Bool.and_eq_true] at hd
  exact range_sound (fun {_ _ _ _ _ _ _}=>ih1 hd.1) (fun {_ _ _ _ _ _ _}=>ih2 hd.2)
theorem argTm_lk:∀ {args:List SV} {i t:Nat} {v:SV},lk t (argTm i args)=some v->i <= t/\args[t - i]? = some v
 | [],i,t,v,h=>by simp [argTm,lk] at h
 | u :: l,i,t,v,h=>by
  rw [argTm,z0g] at h
  split at h
  ·rename_i e; subst e; cases h; simp
  ·rename_i e
   obtain ⟨h1,h2⟩:=argTm_lk h
   refine ⟨by omega,?_⟩
   rw [show t - i=(t - (i+1))+1 by omega,List.getElem?_cons_succ]
   exact h2
def resF (tmps:Array Value) (r:ResultVar):Sem Value:=match r with | .tmp t=>pure (tmps.getD t undef) | .cell p t=>do loadVar t (<- asAddr (tmps.getD p undef))
theorem zkr {tmps:Array Value} {r:ResultVar} {l:List ResultVar} {v:Value} {vs:List Value} (h1:(resF tmps r).run P w = .ok v w) (h2:(l.mapM (resF tmps):Sem (List Value)).run P w = .ok vs w) :
  ((r :: l).mapM (resF tmps):Sem (List Value)).run P w = .ok (v :: vs) w:=by
 rw [List.mapM_cons]
 simp only [Sem.run_bind,h1,h2,Result.andThen_ok]
 rfl
theorem zav (hT:z5w P T) (hs:Sym B w0 S0 N n0 ρ0 ρ s a w):∀ {l:List ResultVar} {K:List SV->Prop},resS T s l K->∃ vs,K vs /\
  (l.mapM (resF a.tmps):Sem (List Value)).run P w = .ok (z0s ρ vs) w
 | [],K,h=>⟨[],h,by simp [z0s]⟩
 | .tmp t :: l,K,h=>by
  simp only [resS] at h
  split at h
  ·rename_i v hv
   obtain ⟨vs,hk,hr⟩:=zav hT hs h
   refine ⟨_,hk,?_⟩
   have:=hs.tm t v hv
   exact zkr (by simp [resF,Array.getD_eq_getD_getElem?,this]) hr
  ·exact h.elim
 | .cell t ty :: l,K,h=>by
  simp only [resS] at h
  split at h
  ·rename_i key wd idx fld ti hv hti
   have ht:=hT _ _ hti
   have hp:=hs.tm t _ hv
   simp only [SV.toV] at hp
   obtain ⟨cs,h,hlen,hc⟩:=rd_sound h hs.hp
   cases hg:ti.agg with
   | true =>
    rw [hg] at h
    simp only [cond_true] at h
    have hl:=run_loadCells_list (P:=P) w ⟨(z3x (ρ key)).block,(z3x (ρ key)).off+(idx * wd+fld),none⟩ (z0s ρ cs) (fun j v hj=>by
     rw [z0u,List.getElem?_map] at hj
     cases hu:cs[j]? with
     | none=>rw [hu] at hj; cases hj
     | some u =>
      rw [hu] at hj; cases hj
      rw [Addr.add_lit]
      exact hc j u hu)
    rw [show (z0s ρ cs).length=ti.zs.length by rw [z0u,List.length_map,hlen]] at hl
    obtain ⟨vs,hk,hr⟩:=zav hT hs h
    refine ⟨_,hk,?_⟩
    exact zkr (by simp [resF,Array.getD_eq_getD_getElem?,hp,asAddr,loadVar,ht.run_isAgg,hg,ht.run_size,hl,SV.toV]) hr
   | false =>
    rw [hg] at h
    simp only [cond_false] at h
    cases cs with
    | nil=>exact h.elim
    | cons c cs =>
     cases cs with
     | cons _ _=>exact h.elim
     | nil =>
      obtain ⟨vs,hk,hr⟩:=zav hT hs h
      refine ⟨_,hk,?_⟩
      have:=hc 0 c rfl
      simp only [Nat.add_zero] at this
      exact zkr (by simp [resF,Array.getD_eq_getD_getElem?,hp,asAddr,loadVar,ht.run_isAgg,hg,run_load,this]) hr
  ·exact h.elim
theorem results_sound {fn:Func} {vs:List SV} (hr:(fn.results.toList.mapM (resF a.tmps):Sem (List Value)).run P w = .ok (z0s ρ vs) w) :
    (results fn a.tmps).run P w = .ok ((zkz vs).toV ρ) w:=by
  have hres:results fn a.tmps=(do let vs <- fn.results.mapM (resF a.tmps); pure (if h:vs.size=1 then vs[0] else .tuple vs)):=rfl
  rw [hres,Array.mapM_eq_mapM_toList]
  simp only [Sem.run_bind]
  have e:(List.toArray <$> (fn.results.toList.mapM (resF a.tmps):Sem (List Value))).run P w = .ok (z0s ρ vs).toArray w:=by
    simp [hr]
  rw [e]
  simp only [Result.andThen_ok]
  match vs with
  | []=>simp [z0s,zkz,SV.toV]
  | [v]=>simp [z0s,zkz]
  | v :: u :: l=>simp [z0s,zkz,SV.toV]
theorem Sym.markEnd (h:Sym B w0 S0 N n0 ρ0 ρ s a w) {D:Nat} {Ds:List Nat} (hd:a.defers=(D :: Ds).map mark ++ B.ds):(Instr.takeDeferred D).run P w = .ok [] (w.putObj D (.deferred none))/\Sym B w0 S0 N n0 ρ0 ρ s { a with defers:=Ds.map mark ++ B.ds } (w.putObj D (.deferred none)):=by
 obtain ⟨Ds',e1,e2,e3,e4⟩:=h.defers
 have:Ds'=D :: Ds:=(List.map_inj_right (fun a b (h:mark a=mark b)=>by simpa [mark] using h)).1 (List.append_cancel_right (e1.symm.trans hd))
 subst this
 have hD:=e3 D (by simp)
 refine ⟨run_takeDeferred hD.2,h.tm,h.size,⟨Ds,rfl,(List.nodup_cons.1 e2).2,(fun D' hD'=>⟨(e3 D' (by simp [hD'])).1,?_⟩),fun h=>by have:=e4 h; cases this⟩,⟨h.hp.one,fun k e hl=>(h.hp.ent k e hl).keep fun g ht=>World.putObj_heap_other (fun e1=>(h.hp.ent k e hl).kind ht _ (e1 ▸ hD.2)),h.hp.sep⟩,h.fr.grown (z5i w D _) (fun g e=>by cases e; exact .inr hD.1),h.own,h.le,h.base⟩
 refine (World.putObj_heap_other (fun e=>?_)).trans (e3 D' (by simp [hD'])).2
 subst e
 exact (List.nodup_cons.1 e2).1 hD'
theorem zh6 {fn:Func} {R:Ending->World->Prop} {u:FrameMode} (hu:u ≠ .run):∀ {Ds:List Nat} {a:Act} {w:World},a.defers=Ds.map mark ++ B.ds->Sym B w0 S0 N n0 ρ0 ρ s a w ->
  (∀ a' w',a'.tmps=a.tmps->Sym B w0 S0 N n0 ρ0 ρ s a' w'->LeavesInM (FW none) 0 P fn a.tmps R B.ds u w')->LeavesInM (FW none) 0 P fn a.tmps R a.defers u w
 | [],a,w,hd,hs,hfin=>by
  rw [hd]
  exact hfin a w rfl hs
 | D :: Ds,a,w,hd,hs,hfin=>by
  obtain ⟨h1,h2⟩:=hs.markEnd (P:=P) hd
  rw [hd]
  refine ⟨hu,.inl ⟨D,_,rfl,h1,?_⟩⟩
  exact zh6 hu (a:={ a with defers:=Ds.map mark ++ B.ds }) rfl h2 hfin
theorem zdd (hT:z5w P T) (hΓ:z1c P Γ) (hm:P.follows .mixedOrders=true) {I:List (Nat × z08)} {A:List (Nat × Ann)} {f:FuncId} {fn:Func} {c:Code} (hf:P.funcs[f]? = some fn) (hb:fn.body=some c) (hd:z2h P Γ c=true)
  {args:List SV} (hargs:args.length <= fn.ntmps) {hp:z0d} {nk:Nat} {R:SV->St->Prop} (h:vcFun T Γ I A fn.ntmps fn.results.toList c args hp nk R) {ρ:Nat->Value} {w:World} (hY:YsOk P nk ρ Γ) (hI:IsOk P I) (hh:HOk ρ hp w) :
  Calls P f (z0s ρ args).toArray w fun e w'=>∃ v s ρ' a',e = .returned (v.toV ρ')/\R v s/\Sym ⟨false,[]⟩ w (foot ρ hp) fn.ntmps nk ρ ρ' s a' w':=by
 refine calls_of_FW (r:=none) (n:=0) (callsIn_of_wp_marks hf hb trivial ?_ rfl)
 have hlen:(z0s ρ args).length=args.length:=by simp [z0u]
 have hs:Sym ⟨false,[]⟩ w (foot ρ hp) fn.ntmps nk ρ ρ ⟨argTm 0 args,hp,nk⟩ { tmps:=(z0s ρ args).toArray ++ Array.replicate (fn.ntmps - (z0s ρ args).toArray.size) undef,defers:=[] } w:=by
  refine ⟨fun t v hv=>?_,by simp [hlen]; omega,MarksOk.nil _ _ _,hh,Fr.refl _ _,foot_own _ _ _,Nat.le_refl _,fun _ _=>rfl⟩
  obtain ⟨_,h2⟩:=argTm_lk hv
  simp only [Nat.sub_zero] at h2
  have hlt:t<args.length:=(List.getElem?_eq_some_iff.1 h2).1
  rw [Array.getElem?_append_left (by simp [hlen,hlt])]
  simp [z0u,h2]
 have fin:∀ s' ρ' a' w',Sym ⟨false,[]⟩ w (foot ρ hp) fn.ntmps nk ρ ρ' s' a' w'->resS T s' fn.results.toList (fun vs=>R (zkz vs) s')->LeavesInM (FW none) 0 P fn a'.tmps (fun e w'=>∃ v s ρ' a',e = .returned (v.toV ρ')/\R v s/\Sym ⟨false,[]⟩ w (foot ρ hp) fn.ntmps nk ρ ρ' s a' w') a'.defers .returning w':=by
  intro s' ρ' a' w' hs' hk
  obtain ⟨Ds,e1,_,_,_⟩:=hs'.defers
  refine zh6 (by simp) e1 hs' fun a2 w2 ht hs2=>?_
  obtain ⟨vs,hk,hr⟩:=zav hT hs2 hk
  rw [<- ht]
  exact ⟨_,results_sound hr,_,s',ρ',a2,rfl,hk,hs2⟩
 unfold vcFun at h
 exact vcCode_sound hT hΓ hm hd hY hI (.inl ⟨rfl,rfl⟩) h hs (fun s' ρ' a' w' hs' hk=>fin s' ρ' a' w' hs' hk) (fun s' ρ' a' w' hs' hk=>fin s' ρ' a' w' hs' hk) (fun _ _ _ _ _ _ hk=>hk.elim)
end
end Go.Vc
end
