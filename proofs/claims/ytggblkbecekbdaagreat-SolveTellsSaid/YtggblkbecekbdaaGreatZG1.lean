/- Part of the proof: Tree, Spec. -/
import Derived.WalkKit
import Derived.OrdersHeld
import Derived.KernelRfl
import Derived.RangeFuncLeaves
import Derived.OrdersIn
import Derived.OwnWalkIn
import Derived.WalkLawsBesides
import Derived.Lib.Hide
import Derived.Maps.AppendAt
import Derived.Deep.AppendLies
set_option linter.all false
set_option linter.unusedSimpArgs false
set_option linter.unusedVariables false
section
section
namespace Go.Draw
open Go
section trees
variable (P:Program)
def Halts {α:Type}:Sem α->Prop
 | .pure _=>False
 | .load _ _ k=>∀ v,Halts (k v)
 | .store _ _ _ k=>Halts k
 | .new _ k=>∀ r,Halts (k r)
 | .shape _ k=>∀ s,Halts (k s)
 | .freeze _ _ k=>Halts k
 | .frozen _ k=>∀ b,Halts (k b)
 | .getObj _ k=>∀ o,Halts (k o)
 | .setObj _ _ k=>Halts k
 | .choose _ k=>∀ n,Halts (k n)
 | .sys _ k=>∀ r,Halts (k r)
 | .program k=>Halts (k P)
 | .mark _ k=>Halts k
 | .halt _=>True
def Qt (ld:Bool) {α:Type}:Sem α->Prop
 | .pure _=>True
 | .load _ _ k=>ld=true/\∀ v,Qt ld (k v)
 | .getObj _ k=>ld=true/\∀ o,Qt ld (k o)
 | .program k=>Qt ld (k P)
 | .halt _=>True
 | .choose _ k=>∀ n,Halts P (k n)
 | .new _ k=>∀ r,Halts P (k r)
 | _=>False
def Nt {α:Type}:Sem α->Prop
 | .pure _=>True
 | .new _ k=>∀ r,Nt (k r)
 | .choose _ k=>∀ n,Nt (k n)
 | .mark _ k=>Nt k
 | .program k=>Nt (k P)
 | .halt _=>True
 | _=>False
end trees
def Old (w w2:World):Prop:=w.heap.size <= w2.heap.size/\∀ k,k<w.heap.size->w2.heap[k]? = w.heap[k]?
theorem Old.refl (w:World):Old w w:=⟨Nat.le_refl _,fun _ _=>rfl⟩
theorem Old.trans {a b c:World} (h:Old a b) (k:Old b c):Old a c :=
 ⟨Nat.le_trans h.1 k.1,fun i hi=>(k.2 i (Nat.lt_of_lt_of_le hi h.1)).trans (h.2 i hi)⟩
section
variable {P:Program}
theorem Halts.no {α:Type} (e:Sem α) (h:Halts P e) (w:World) (v:α) (w':World):e.run P w ≠ .ok v w':=by
 induction e generalizing w with
 | pure a=>exact absurd h (by simp [Halts])
 | load m a k ih =>
  simp only [Sem.run]
  split
  ·exact ih _ (h _) _
  ·split
   ·exact ih _ (h _) _
   ·simp
 | store m a u k ih =>
  cases u <;> simp only [Sem.run] <;> (repeat' split) <;> first | (exact ih h _) | simp
 | new o k ih=>exact ih _ (h _) _
 | shape r k ih=>exact ih _ (h _) _
 | freeze a n k ih=>exact ih h _
 | frozen a k ih=>exact ih _ (h _) _
 | getObj r k ih =>
  simp only [Sem.run]
  split <;> first | exact ih _ (h _) _ | simp
 | setObj r o k ih =>
  simp only [Sem.run]
  split <;> first | exact ih h _ | simp
 | choose q k ih =>
  simp only [Sem.run]
  split <;> exact ih _ (h _) _
 | sys c k ih=>exact ih _ (h _) _
 | program k ih=>exact ih _ h _
 | mark m k ih=>exact ih h _
 | halt x=>simp [Sem.run]
theorem Halts.bind {α β:Type} (e:Sem α) (f:α->Sem β) (h:Halts P e):Halts P (e.bind f):=by
 induction e with
 | pure a=>exact absurd h (by simp [Halts])
 | load m a k ih=>exact fun v=>ih v (h v)
 | store m a u k ih=>exact ih h
 | new o k ih=>exact fun r=>ih r (h r)
 | shape r k ih=>exact fun r=>ih r (h r)
 | freeze a n k ih=>exact ih h
 | frozen a k ih=>exact fun r=>ih r (h r)
 | getObj r k ih=>exact fun r=>ih r (h r)
 | setObj r o k ih=>exact ih h
 | choose q k ih=>exact fun r=>ih r (h r)
 | sys c k ih=>exact fun r=>ih r (h r)
 | program k ih=>exact ih P h
 | mark m k ih=>exact ih h
 | halt x=>trivial
theorem Qt.bind {α β:Type} {ld:Bool} (e:Sem α) (f:α->Sem β) (h:Qt P ld e) (hf:∀ a,Qt P ld (f a)):Qt P ld (e.bind f):=by
 induction e with
 | pure a=>exact hf a
 | load m a k ih=>exact ⟨h.1,fun v=>ih v (h.2 v)⟩
 | getObj r k ih=>exact ⟨h.1,fun v=>ih v (h.2 v)⟩
 | program k ih=>exact ih P h
 | halt x=>trivial
 | choose q k ih=>exact fun n=>Halts.bind _ _ (h n)
 | new o k ih=>exact fun n=>Halts.bind _ _ (h n)
 | store m a u k ih=>exact absurd h (by simp [Qt])
 | shape r k ih=>exact absurd h (by simp [Qt])
 | freeze a n k ih=>exact absurd h (by simp [Qt])
 | frozen a k ih=>exact absurd h (by simp [Qt])
 | setObj r o k ih=>exact absurd h (by simp [Qt])
 | sys c k ih=>exact absurd h (by simp [Qt])
 | mark m k ih=>exact absurd h (by simp [Qt])
theorem Nt.bind {α β:Type} (e:Sem α) (f:α->Sem β) (h:Nt P e) (hf:∀ a,Nt P (f a)):Nt P (e.bind f):=by
 induction e with
 | pure a=>exact hf a
 | new o k ih=>exact fun r=>ih r (h r)
 | choose q k ih=>exact fun r=>ih r (h r)
 | mark m k ih=>exact ih h
 | program k ih=>exact ih P h
 | halt x=>trivial
 | load m a k ih=>exact absurd h (by simp [Nt])
 | getObj r k ih=>exact absurd h (by simp [Nt])
 | store m a u k ih=>exact absurd h (by simp [Nt])
 | shape r k ih=>exact absurd h (by simp [Nt])
 | freeze a n k ih=>exact absurd h (by simp [Nt])
 | frozen a k ih=>exact absurd h (by simp [Nt])
 | setObj r o k ih=>exact absurd h (by simp [Nt])
 | sys c k ih=>exact absurd h (by simp [Nt])
theorem z47 {w:World} {k:Nat} {o:Obj} (h:w.heap[k]? = some o):k<w.heap.size:=(Array.getElem?_eq_some_iff.1 h).1
theorem farLoad_old {w w2:World} (ho:Old w w2) {a:Addr} {b:Bool} {r:Value × List Addr} (h:w.farLoad P a b = .ok r):w2.farLoad P a b = .ok r:=by
 unfold World.farLoad at *
 cases hb:w.heap[a.block]? with
 | none=>rw [hb] at h; simp at h
 | some o =>
  have e:=ho.2 a.block (z47 hb)
  rw [e]
  rw [hb] at h ⊢
  cases o <;> simp only at h ⊢ <;> first | (simp at h; done) | skip
  rename_i at_ u
  cases hc:w.heap[at_.block]? with
  | none =>
   exfalso
   have hs:∀ r,w.seen P at_ u a b ≠ .ok r:=by
    intro r hh
    unfold World.seen at hh
    rw [hc] at hh
    cases h1:plainCell P P.depth u a.off <;> simp only [h1,bind,Except.bind,pure,Except.pure] at hh
    ·split at hh <;> simp [throw,throwThe,MonadExceptOf.throw] at hh
    ·rename_i like
     cases h2:like.bytes? <;> simp only [h2,Option.map_none,Option.map_some] at hh
     ·split at hh <;> simp [throw,throwThe,MonadExceptOf.throw] at hh
     ·cases h3:byteOfCell P P.depth u a.off <;> simp only [h3] at hh <;> split at hh <;> simp [throw,throwThe,MonadExceptOf.throw] at hh
   have:∀ r,w.viewLoad P at_ u a b ≠ .ok r:=by
    intro r hh
    unfold World.viewLoad at hh
    cases hq:w.seen P at_ u a b with
    | ok r=>exact hs r hq
    | error x=>rw [hq] at hh; simp [bind,Except.bind] at hh
   cases hv:w.viewLoad P at_ u a b with
   | ok r=>exact this r hv
   | error s=>rw [hv] at h; simp at h
  | some o2 =>
   have e2:=ho.2 at_.block (z47 hc)
   have:w2.viewLoad P at_ u a b=w.viewLoad P at_ u a b:=by
    unfold World.viewLoad World.seen
    rw [e2]
   rw [this]; exact h
theorem Qt.run {α:Type} {ld:Bool} (e:Sem α) (h:Qt P ld e) (w:World) (v:α) (w':World) (hr:e.run P w = .ok v w') :
  w'=w/\∀ w2,(ld=true->Old w w2)->e.run P w2 = .ok v w2:=by
 induction e with
 | pure a =>
  simp only [Sem.run,Result.ok.injEq] at hr ⊢
  obtain ⟨rfl,rfl⟩:=hr
  exact ⟨rfl,fun w2 _=>⟨rfl,trivial⟩⟩
 | load m a k ih =>
  simp only [Sem.run] at hr ⊢
  cases hc:w.cell? a with
  | some u =>
   rw [hc] at hr
   obtain ⟨e1,e2⟩:=ih u (h.2 u) hr
   refine ⟨e1,fun w2 ho=>?_⟩
   have hb:a.block<w.heap.size:=World.block_lt_of_cell? w a hc
   have:w2.cell? a=some u:=(World.cell?_of_block ((ho h.1).2 a.block hb)).trans hc
   rw [this]
   exact e2 w2 ho
  | none =>
   rw [hc] at hr
   simp only at hr
   cases hf:w.farLoad P a (m == .atomic) with
   | error x=>rw [hf] at hr; simp at hr
   | ok r =>
    rw [hf] at hr
    obtain ⟨e1,e2⟩:=ih r.1 (h.2 _) hr
    refine ⟨e1,fun w2 ho=>?_⟩
    have hfar:=farLoad_old (ho h.1) hf
    have hcell:w2.cell? a=none:=by
     have hb:a.block<w.heap.size:=by
      unfold World.farLoad at hf
      cases hb:w.heap[a.block]? with
      | none=>rw [hb] at hf; simp at hf
      | some o=>exact z47 hb
     exact (World.cell?_of_block ((ho h.1).2 a.block hb)).trans hc
    rw [hcell]
    simp only [hfar]
    exact e2 w2 ho
 | getObj r k ih =>
  simp only [Sem.run] at hr ⊢
  cases hb:w.heap[r]? with
  | none=>rw [hb] at hr; simp at hr
  | some o =>
   rw [hb] at hr
   cases o <;> simp only at hr <;> first | (simp at hr; done) | skip
   all_goals
    obtain ⟨e1,e2⟩:=ih _ (h.2 _) hr
    refine ⟨e1,fun w2 ho=>?_⟩
    rw [(ho h.1).2 r (z47 hb),hb]
    exact e2 w2 ho
 | program k ih=>exact ih P h hr
 | halt x=>simp [Sem.run] at hr
 | choose q k ih =>
  simp only [Sem.run] at hr
  exfalso
  split at hr
  ·exact Halts.no _ (h _) _ _ _ hr
  ·exact Halts.no _ (h _) _ _ _ hr
 | new o k ih=>exact absurd hr (Halts.no _ (h _) _ _ _)
 | store m a u k ih=>exact absurd h (by simp [Qt])
 | shape r k ih=>exact absurd h (by simp [Qt])
 | freeze a n k ih=>exact absurd h (by simp [Qt])
 | frozen a k ih=>exact absurd h (by simp [Qt])
 | setObj r o k ih=>exact absurd h (by simp [Qt])
 | sys c k ih=>exact absurd h (by simp [Qt])
 | mark m k ih=>exact absurd h (by simp [Qt])
theorem Nt.run {α:Type} (e:Sem α) (h:Nt P e) (w:World) (v:α) (w':World) (hr:e.run P w = .ok v w'):Old w w':=by
 induction e generalizing w with
 | pure a =>
  simp only [Sem.run,Result.ok.injEq] at hr
  rw [<- hr.2]; exact Old.refl _
 | new o k ih =>
  refine Old.trans ?_ (ih _ (h _) _ hr)
  refine ⟨by simp,fun k hk=>?_⟩
  simp only [Array.getElem?_push]
  rw [if_neg (by omega)]
 | choose q k ih =>
  simp only [Sem.run] at hr
  split at hr
  ·exact ih _ (h _) _ hr
  ·have:=ih _ (h _) _ hr
   exact ⟨this.1,this.2⟩
 | mark m k ih=>exact ih h _ hr
 | program k ih=>exact ih P h _ hr
 | halt x=>simp [Sem.run] at hr
 | load m a k ih=>exact absurd h (by simp [Nt])
 | getObj r k ih=>exact absurd h (by simp [Nt])
 | store m a u k ih=>exact absurd h (by simp [Nt])
 | shape r k ih=>exact absurd h (by simp [Nt])
 | freeze a n k ih=>exact absurd h (by simp [Nt])
 | frozen a k ih=>exact absurd h (by simp [Nt])
 | setObj r o k ih=>exact absurd h (by simp [Nt])
 | sys c k ih=>exact absurd h (by simp [Nt])
end
end Go.Draw
end
section
namespace Go.Draw
open Go
section
variable {P:Program} {ld:Bool}
theorem z0h {α β:Type} {e:Sem α} {f:α->Sem β} (h:Qt P ld e) (hf:∀ a,Qt P ld (f a)):Qt P ld (e >>= f):=Qt.bind e f h hf
theorem z0o {α:Type} (a:α):Qt P ld (pure a:Sem α):=trivial
theorem z0z {α:Type} (s:String):Qt P ld (stuck s:Sem α):=trivial
theorem z0w {α:Type} (s:Unsupported):Qt P ld (unsupported s:Sem α):=trivial
theorem z1a (t:TypeId):Qt P ld (underlying t):=by
 unfold underlying; exact z0h (e:=program) trivial fun p=>by split <;> trivial
theorem zlh (t:TypeId):Qt P ld (typeInfo t):=by
 unfold typeInfo; exact z0h (e:=program) trivial fun p=>by split <;> trivial
theorem z2x (t:TypeId):Qt P ld (sizeOf t):=by
 unfold sizeOf; exact z0h (zlh t) fun _=>trivial
theorem qt_zeroValue (t:TypeId):Qt P ld (zeroValue t):=by
 unfold zeroValue; exact z0h (zlh t) fun _=>by split <;> trivial
theorem qt_isAgg (t:TypeId):Qt P ld (isAgg t):=by
 unfold isAgg; exact z0h (z1a t) fun _=>by split <;> trivial
theorem z5d (v:Value):Qt P ld (asIntOf v):=by unfold asIntOf; split <;> trivial
theorem qt_asBool (v:Value):Qt P ld (asBool v):=by unfold asBool; split <;> trivial
theorem zas (v:Value):Qt P ld (asAgg v):=by unfold asAgg; split <;> trivial
theorem z3a (v:Value):Qt P ld (Instr.sureAddr v):=by unfold Instr.sureAddr; split <;> trivial
theorem z39 {α:Type} (e:RuntimeError) (he:∀ a b c d,e ≠ .typeAssertion a b c d) (hp:e ≠ .panicNil):Qt P ld (runtimePanic e:Sem α):=by
 unfold runtimePanic
 refine z0h (e:=program) trivial fun p=>?_
 cases e <;> first | trivial | (exact absurd rfl (he _ _ _ _)) | (exact absurd rfl hp)
theorem halts_bounds {α:Type} (x y:Int) (s:Bool) (c:BoundsCode):Halts P (runtimePanic (.bounds x y s c):Sem α):=trivial
theorem z2d {α:Type} (k:IntKind) (x y:Int) (c:BoundsCode):Qt P ld (boundsPanic k x y c:Sem α):=by
 unfold boundsPanic
 split
 ·intro n; exact halts_bounds _ _ _ _
 ·exact z0h (z0o _) fun _=>z39 _ (by simp) (by simp)
theorem z7p (v:Value):Qt P ld (asAddr v):=by
 unfold asAddr
 split
 ·trivial
 ·exact z39 _ (by simp) (by simp)
 ·trivial
theorem z9x (t:TypeId) (cs:Array Value) (off:Nat):Qt P ld (part t cs off):=by
 unfold part
 refine z0h (qt_isAgg t) fun b=>?_
 split
 ·exact z0h (z2x t) fun _=>trivial
 ·split <;> trivial
theorem qt_load (a:Addr) (m:Mode):Qt P true (load a m):=⟨rfl,fun _=>trivial⟩
theorem z8z (a:Addr):∀ (n i:Nat) (acc:Array Value),Qt P true (loadCellsFrom a i n acc)
 | 0,_,_=>trivial
 | n+1,i,acc=>z0h (qt_load _ _) fun v=>z8z a n (i+1) (acc.push v)
theorem qt_loadVar (t:TypeId) (a:Addr):Qt P true (loadVar t a):=by
 unfold loadVar
 refine z0h (qt_isAgg t) fun b=>?_
 split
 ·exact z0h (z2x t) fun n=>z0h (z8z a n 0 #[]) fun _=>trivial
 ·exact qt_load _ _
theorem qt_indexAt (t:TypeId) (x i:Value):Qt P ld (Instr.indexAt t x i):=by
 unfold Instr.indexAt
 repeat' (first | exact z0o _ | exact z0z _ | exact z0w _ | exact z5d _ | exact z1a _ | exact z2x _ | exact z3a _ | exact z7p _ | exact zas _ | exact z9x _ _ _ | exact z2d _ _ _ _ | (refine z0h ?_ ?_) | (intro _) | split | (dsimp only))
theorem qt_sliceBound (x:Value) (y:Nat) (c:BoundsCode):Qt P ld (Instr.sliceBound x y c):=by
 unfold Instr.sliceBound
 refine z0h (z5d x) fun ki=>?_
 obtain ⟨k,n⟩:=ki
 dsimp only
 split
 ·trivial
 ·exact z2d _ _ _ _
theorem zbi (b:Bool) (l c:Nat) (x y z:Option Value):Qt P ld (Instr.sliceBounds b l c x y z):=by
 unfold Instr.sliceBounds
 repeat' (first | exact z0o _ | exact z0z _ | exact z0w _ | exact z5d _ | exact z1a _ | exact z2x _ | exact z3a _ | exact z7p _ | exact zas _ | exact z9x _ _ _ | exact z2d _ _ _ _ | exact qt_sliceBound _ _ _ | (refine z0h ?_ ?_) | (intro _) | split | (dsimp only))
theorem qt_slice (t:TypeId) (x:Value) (l h m:Option Value):Qt P ld (Instr.slice t x l h m):=by
 unfold Instr.slice
 repeat' (first | exact z0o _ | exact z0z _ | exact z0w _ | exact z5d _ | exact z1a _ | exact z2x _ | exact z3a _ | exact z7p _ | exact zas _ | exact z9x _ _ _ | exact z2d _ _ _ _ | exact zbi _ _ _ _ _ _ | (refine z0h ?_ ?_) | (intro _) | split | (dsimp only))
theorem qt_sliceAt (t:TypeId) (x:Value) (l h m:Option Value):Qt P ld (Instr.sliceAt t x l h m):=by
 unfold Instr.sliceAt
 repeat' (first | exact z0o _ | exact z0z _ | exact z0w _ | exact z5d _ | exact z1a _ | exact z2x _ | exact z3a _ | exact z7p _ | exact zas _ | exact z9x _ _ _ | exact z2d _ _ _ _ | exact zbi _ _ _ _ _ _ | exact qt_slice _ _ _ _ _ | (refine z0h ?_ ?_) | (intro _) | split | (dsimp only))
theorem qt_index (t:TypeId) (x i:Value):Qt P ld (Instr.index t x i):=by
 unfold Instr.index
 repeat' (first | exact z0o _ | exact z0z _ | exact z0w _ | exact z5d _ | exact z1a _ | exact z2x _ | exact z3a _ | exact z7p _ | exact zas _ | exact z9x _ _ _ | exact z2d _ _ _ _ | (refine z0h ?_ ?_) | (intro _) | split | (dsimp only))
theorem qt_field (t:TypeId) (x:Value) (f:Nat):Qt P ld (Instr.field t x f):=by
 unfold Instr.field
 repeat' (first | exact z0o _ | exact z0z _ | exact z0w _ | exact z5d _ | exact z1a _ | exact z2x _ | exact z3a _ | exact z7p _ | exact zas _ | exact z9x _ _ _ | exact z2d _ _ _ _ | (refine z0h ?_ ?_) | (intro _) | split | (dsimp only))
def fieldOk (P:Program) (s:TypeId) (i:Nat):Bool :=
 match P.underlying s with
 | some (.struct fs)=>match fs[i]? with
  | some f=>match P.info? f.type with
   | some t=>t.size != 0
   | none=>true
  | none=>true
 | _=>true
theorem qt_fieldAt (s:TypeId) (x:Value) (f:Nat) (h:fieldOk P s f=true):Qt P ld (Instr.fieldAt s x f):=by
 unfold Instr.fieldAt underlying
 show Qt P ld (Sem.program _)
 show Qt P ld _
 simp only [Qt]
 show Qt P ld (Sem.bind (match P.underlying s with | some d=>_ | none=>_) _)
 unfold fieldOk at h
 cases hu:P.underlying s with
 | none=>trivial
 | some d =>
  rw [hu] at h
  show Qt P ld (match d with | .struct fields=>_ | _=>_)
  cases d <;> first | trivial | skip
  rename_i fs
  dsimp only at h ⊢
  cases hf:fs[f]? with
  | none=>trivial
  | some fd =>
   rw [hf] at h
   dsimp only at h ⊢
   refine z0h (z3a _) fun a=>z0h ?_ fun _=>trivial
   unfold fieldPlace sizeOf typeInfo
   show Qt P ld (Sem.bind (Sem.bind (match P.info? fd.type with | some i=>_ | none=>_) _) _)
   cases hi:P.info? fd.type with
   | none=>trivial
   | some i =>
    rw [hi] at h
    show Qt P ld (if i.size=0 then _ else _)
    have:i.size ≠ 0:=by simpa using h
    rw [if_neg this]
    trivial
theorem zds {α β:Type} (l:List α) (b:β) (f:α->β->Sem (ForInStep β)) (h:∀ a b,Qt P ld (f a b)):Qt P ld (forIn l b f):=by
 induction l generalizing b with
 | nil=>exact z0o _
 | cons a l ih =>
  rw [List.forIn_cons]
  refine z0h (h a b) fun s=>?_
  cases s with
  | done b=>exact z0o _
  | yield b=>exact ih b
theorem zbg {α β:Type} (l:Array α) (b:β) (f:α->β->Sem (ForInStep β)) (h:∀ a b,Qt P ld (f a b)):Qt P ld (forIn l b f):=by
 rw [<- Array.forIn_toList]
 exact zds _ _ _ h
theorem zbh {β:Type} (r:Std.Legacy.Range) (b:β) (f:Nat->β->Sem (ForInStep β)) (h:∀ a b,Qt P ld (f a b)):Qt P ld (forIn r b f):=by
 rw [Std.Legacy.Range.forIn_eq_forIn_range']
 exact zds _ _ _ h
theorem qt_mapM_list {α β:Type} (l:List α) (f:α->Sem β) (h:∀ a,Qt P ld (f a)):Qt P ld (l.mapM f):=by
 have:∀ (l:List α) (acc:List β),Qt P ld (List.mapM.loop f l acc):=by
  intro l
  induction l with
  | nil=>intro acc; exact z0o _
  | cons a l ih=>intro acc; exact z0h (h a) fun b=>ih _
 exact this l []
def z33:Value->Bool
 | .int .. | .bool _ | .string _ | .nilIface | .slice .. | .nilFunc=>true
 | _=>false
def z3p:Value->Bool
 | .agg cs=>cs.toList.all z33
 | v=>z33 v
theorem zdp {v:Value} (h:z33 v=true):z3p v=true:=by cases v <;> simp_all [z3p,z33]
end
end Go.Draw
end
section
namespace Go.Draw
open Go
section
variable {P:Program} {ld:Bool}
def Rv {α:Type} (R:α->Prop):Sem α->Prop
 | .pure a=>R a
 | .load _ _ k=>∀ v,Rv R (k v)
 | .store _ _ _ k=>Rv R k
 | .new _ k=>∀ r,Rv R (k r)
 | .shape _ k=>∀ s,Rv R (k s)
 | .freeze _ _ k=>Rv R k
 | .frozen _ k=>∀ b,Rv R (k b)
 | .getObj _ k=>∀ o,Rv R (k o)
 | .setObj _ _ k=>Rv R k
 | .choose _ k=>∀ n,Rv R (k n)
 | .sys _ k=>∀ r,Rv R (k r)
 | .program k=>∀ p,Rv R (k p)
 | .mark _ k=>Rv R k
 | .halt _=>True
theorem zce {α:Type} (e:Sem α):Rv (fun _=>True) e:=by
 induction e with
 | pure a=>trivial
 | load m a k ih=>exact fun v=>ih v
 | store m a u k ih=>exact ih
 | new o k ih=>exact fun r=>ih r
 | shape r k ih=>exact fun r=>ih r
 | freeze a n k ih=>exact ih
 | frozen a k ih=>exact fun r=>ih r
 | getObj r k ih=>exact fun r=>ih r
 | setObj r o k ih=>exact ih
 | choose q k ih=>exact fun r=>ih r
 | sys c k ih=>exact fun r=>ih r
 | program k ih=>exact fun r=>ih r
 | mark m k ih=>exact ih
 | halt x=>trivial
theorem zcd {α β:Type} {R:α->Prop} {S:β->Prop} (e:Sem α) (f:α->Sem β) (h:Rv R e) (hf:∀ a,R a->Rv S (f a)):Rv S (e.bind f):=by
 induction e with
 | pure a=>exact hf a h
 | load m a k ih=>exact fun v=>ih v (h v)
 | store m a u k ih=>exact ih h
 | new o k ih=>exact fun r=>ih r (h r)
 | shape r k ih=>exact fun r=>ih r (h r)
 | freeze a n k ih=>exact ih h
 | frozen a k ih=>exact fun r=>ih r (h r)
 | getObj r k ih=>exact fun r=>ih r (h r)
 | setObj r o k ih=>exact ih h
 | choose q k ih=>exact fun r=>ih r (h r)
 | sys c k ih=>exact fun r=>ih r (h r)
 | program k ih=>exact fun r=>ih r (h r)
 | mark m k ih=>exact ih h
 | halt x=>trivial
theorem qt_bindR {α β:Type} {R:α->Prop} {e:Sem α} {f:α->Sem β} (h:Qt P ld e) (hr:Rv R e) (hf:∀ a,R a->Qt P ld (f a)):Qt P ld (e >>= f):=by
 show Qt P ld (e.bind f)
 induction e with
 | pure a=>exact hf a hr
 | load m a k ih=>exact ⟨h.1,fun v=>ih v (h.2 v) (hr v)⟩
 | getObj r k ih=>exact ⟨h.1,fun v=>ih v (h.2 v) (hr v)⟩
 | program k ih=>exact ih P h (hr P)
 | halt x=>trivial
 | choose q k ih=>exact fun n=>Halts.bind _ _ (h n)
 | new o k ih=>exact fun n=>Halts.bind _ _ (h n)
 | store m a u k ih=>exact absurd h (by simp [Qt])
 | shape r k ih=>exact absurd h (by simp [Qt])
 | freeze a n k ih=>exact absurd h (by simp [Qt])
 | frozen a k ih=>exact absurd h (by simp [Qt])
 | setObj r o k ih=>exact absurd h (by simp [Qt])
 | sys c k ih=>exact absurd h (by simp [Qt])
 | mark m k ih=>exact absurd h (by simp [Qt])
theorem rv_part {t:TypeId} {cs:Array Value} {off:Nat} (h:cs.toList.all z33=true):Rv (fun v=>z3p v=true) (part t cs off):=by
 unfold part
 refine zcd _ _ (zce _) fun b _=>?_
 cases b
 ·simp only [Bool.false_eq_true,if_false]
  split
  ·rename_i u hc
   exact zdp (List.all_eq_true.1 h u (by simpa using Array.mem_of_getElem? hc))
  ·trivial
 ·simp only [if_true]
  refine zcd _ _ (zce _) fun n _=>?_
  show z3p _=true
  simp only [z3p,List.all_eq_true] at h ⊢
  intro x hx
  refine h x ?_
  have hx':x ∈ List.take n (List.drop off cs.toList):=by simpa using hx
  exact List.mem_of_mem_drop (List.mem_of_mem_take hx')
theorem zi5 {β:Type} {t:TypeId} {cs:Array Value} {off:Nat} {f:Value->Sem β} (h:cs.toList.all z33=true) (hf:∀ v,z3p v=true->Qt P ld (f v)):Qt P ld (part t cs off >>= f) :=
 qt_bindR (z9x _ _ _) (rv_part h) hf
theorem zat:∀ (d:Nat) (t:TypeId) (x y:Value),z3p x=true->z3p y=true->Qt P ld (Op.equalIn d t x y)
  | 0,_,_,_,_,_=>trivial
  | d+1,t,x,y,hx,hy=>by
    unfold Op.equalIn
    refine z0h (z1a t) fun desc=>?_
    split <;> first
      | exact z0o _
      | exact z0z _
      | exact z0w _
      | (simp [z3p,z33] at hx; done)
      | (simp [z3p,z33] at hy; done)
      | (split <;> first | exact z0o _ | exact z0z _; done)
      | skip
    ·
      have hx':∀ (cs:Array Value),z3p (.agg cs)=true->cs.toList.all z33=true:=fun _ h=>h
      have hx1:=hx' _ hx
      have hy1:=hx' _ hy
      refine z0h (e:=program) trivial fun p=>?_
      have body:∀ (fields:Array Field) (xs ys:Array Value),xs.toList.all z33=true->ys.toList.all z33=true->∀ (f:Field) (acc:Option Bool × Unit),Qt P ld
          (do if f.name ≠ "_" then
                if !(<- Op.equalIn d f.type (<- part f.type xs f.offset) (<- part f.type ys f.offset)) then pure (ForInStep.done (some false,())) else pure (ForInStep.yield (none,()))
              else pure (ForInStep.yield (none,())):Sem (ForInStep (Option Bool × Unit))):=by
        intro fields xs ys hxs hys f acc
        split
        · refine zi5 hxs fun v hv=>zi5 hys fun u hu=>z0h (zat d _ v u hv hu) fun b=>?_
          split <;> exact z0o _
        · exact z0o _
      repeat' (first | exact z0o _ | exact z0z _ | exact z0w _ | (refine zbg _ _ _ fun f acc=>?_) | (refine zi5 (by assumption) fun v hv=>?_) | (refine z0h (zat d _ _ _ (by assumption) (by assumption)) fun b=>?_) | (refine z0h ?_ ?_) | (intro _) | split | (dsimp only))
    · have hx':∀ (cs:Array Value),z3p (.agg cs)=true->cs.toList.all z33=true:=fun _ h=>h
      have hx1:=hx' _ hx
      have hy1:=hx' _ hy
      repeat' (first | exact z0o _ | exact z0z _ | exact z0w _ | exact z2x _ | (refine zbh _ _ _ fun f acc=>?_) | (refine zi5 (by assumption) fun v hv=>?_) | (refine z0h (zat d _ _ _ (by assumption) (by assumption)) fun b=>?_) | (refine z0h ?_ ?_) | (intro _) | split | (dsimp only))
theorem zhc:∀ (d:Nat) (t:TypeId) (x y:Value),Qt P ld (Op.eqGuardIn d t x y)
 | 0,_,_,_=>trivial
 | d+1,t,x,y=>by
  unfold Op.eqGuardIn
  refine z0h (z1a t) fun desc=>?_
  repeat' (first | exact z0o _ | exact z0z _ | exact z0w _ | exact z2x _ | exact z9x _ _ _ | exact zhc d _ _ _ | (refine zbg _ _ _ fun f acc=>?_) | (refine zbh _ _ _ fun f acc=>?_) | (refine z0h ?_ ?_) | (intro _) | split | (dsimp only))
theorem qt_eqGuard (op:BinOp) (t:TypeId) (x y:Operand) (a b:Value):Qt P ld (eqGuard op t x y a b):=by
 unfold eqGuard
 have hg:∀ (f:Bool->Sem Unit),(∀ b,Qt P ld (f b))->Qt P ld (Op.eqGuardIn Op.maxDepth t a b >>= f):=fun f hf=>z0h (zhc _ _ _ _) hf
 generalize Op.maxDepth=dd at *
 repeat' (first | exact z0o _ | exact z0z _ | exact z0w _ | (refine hg _ ?_) | (refine z0h (e:=program) trivial ?_) | (intro _) | split | (dsimp only))
theorem qt_stringOp (op:BinOp) (x y:ByteArray):Qt P ld (Op.stringOp op x y):=by
 unfold Op.stringOp
 dsimp only
 repeat' (first | exact z0o _ | exact z0z _ | exact z0w _ | split)
theorem qt_shift (op:BinOp) (k:IntKind) (x:Int) (yk:IntKind) (y:Int):Qt P ld (Op.shift op k x yk y):=by
 unfold Op.shift
 by_cases h:y<0
 ·rw [if_pos h]; exact z39 _ (by simp) (by simp)
 ·rw [if_neg h]; dsimp only; split <;> first | exact z0o _ | exact z0z _
theorem qt_intDiv (op:BinOp) (k:IntKind) (x y:Int):Qt P ld (Op.intDiv op k x y):=by
 unfold Op.intDiv
 by_cases h:y=0
 ·rw [if_pos h]; exact z39 _ (by simp) (by simp)
 ·rw [if_neg h]; split <;> first | exact z0o _ | exact z0z _
theorem qt_binOp (op:BinOp) (t:TypeId) (x y:Value) (hx:z3p x=true) (hy:z3p y=true):Qt P ld (binOp op t x y):=by
 unfold binOp
 split <;> first
  | (with_reducible exact z0z _)
  | (with_reducible exact z0w _)
  | (with_reducible exact qt_stringOp _ _ _)
  | exact z0h (zat _ _ _ _ hx hy) fun _=>z0o _
  | (simp [z3p,z33] at hx; done)
  | (simp [z3p,z33] at hy; done)
  | exact qt_shift _ _ _ _ _
  | skip
 ·split
  ·exact z0z _
  ·split
   all_goals first
    | (unfold Op.intArith; split <;> first | exact z0o _ | exact z0z _; done)
    | (unfold Op.intCmp; split <;> first | exact z0o _ | exact z0z _; done)
    | (with_reducible exact qt_intDiv _ _ _ _)
    | (unfold Op.intBits; dsimp only; exact z0o _)
theorem qt_unary (op:UnOp) (x:Value):Qt P ld (Op.unary op x):=by
 unfold Op.unary
 split <;> first | exact z0o _ | exact z0z _ | exact z0w _
theorem qt_extract (x:Value) (i:Nat):Qt P ld (Instr.extract x i):=by
 unfold Instr.extract
 repeat' (first | exact z0o _ | exact z0z _ | split)
theorem zho (t:TypeId) (x:Value):Qt P ld (Instr.makeInterface t x):=by
 unfold Instr.makeInterface
 refine z0h (z1a t) fun d=>?_
 split <;> first | exact z0o _ | exact z0z _
theorem qt_len (ts:Array TypeId) (t:TypeId) (args:Array Value):Qt P true (Builtin.len_ ts t args):=by
 unfold Builtin.len_
 repeat' (first | exact z0o _ | exact z0z _ | exact z1a _ | (refine z0h (e:=getObj _) ⟨rfl,fun _=>trivial⟩ ?_) | (refine z0h ?_ ?_) | (intro _) | split | (dsimp only))
def lenOk (P:Program) (t:TypeId):Bool :=
 match P.underlying t with
 | some .string | some (.array ..) | some (.slice _)=>true
 | _=>false
theorem qt_len_plain (ts:Array TypeId) (t:TypeId) (args:Array Value) (h:(match ts[0]? with | some t=>lenOk P t | none=>true)=true):Qt P ld (Builtin.len_ ts t args):=by
 unfold Builtin.len_
 cases h0:ts[0]? with
 | none=>exact z0z _
 | some t0 =>
  rw [h0] at h
  cases h1:args[0]? with
  | none=>exact z0z _
  | some x =>
   have key:∀ (k:TypeDesc->Sem Value),(∀ d,P.underlying t0=some d->Qt P ld (k d))->Qt P ld (underlying t0 >>= k):=by
    intro k hk
    unfold underlying
    show Qt P ld (Sem.bind (match P.underlying t0 with | some d=>pure d | none=>stuck "no such type") k)
    cases hu:P.underlying t0 with
    | none=>trivial
    | some d=>exact hk d hu
   refine key _ fun d hu=>?_
   have h':lenOk P t0=true:=h
   unfold lenOk at h'
   rw [hu] at h'
   cases d <;> simp only [Bool.false_eq_true] at h'
   all_goals cases x <;> first | exact z0o _ | exact z0z _ | trivial
theorem z7d (g:Value->Value->Sem Value) (hg:∀ x y,z33 x=true->z33 y=true->Qt P ld (g x y)/\Rv (fun v=>z33 v=true) (g x y)) :
  ∀ (l:List Value) (x:Value),z33 x=true->(∀ v ∈ l,z33 v=true)->Qt P ld (l.foldlM g x)
 | [],x,_,_=>z0o _
 | y :: l,x,hx,hl=>by
  rw [List.foldlM_cons]
  have h1:=hg x y hx (hl y (by simp))
  exact qt_bindR h1.1 h1.2 fun v hv=>z7d g hg l v hv fun u hu=>hl u (by simp [hu])
theorem qt_min2 (x y:Value) (hx:z33 x=true) (hy:z33 y=true):Qt P ld (Builtin.min2 x y)/\Rv (fun v=>z33 v=true) (Builtin.min2 x y):=by
 unfold Builtin.min2
 split <;> first
  | exact ⟨trivial,rfl⟩
  | exact ⟨trivial,trivial⟩
  | (simp [z33] at hx; done)
  | (simp [z33] at hy; done)
  | skip
theorem qt_max2 (x y:Value) (hx:z33 x=true) (hy:z33 y=true):Qt P ld (Builtin.max2 x y)/\Rv (fun v=>z33 v=true) (Builtin.max2 x y):=by
 unfold Builtin.max2
 split <;> first
  | exact ⟨trivial,rfl⟩
  | exact ⟨trivial,trivial⟩
  | (simp [z33] at hx; done)
  | (simp [z33] at hy; done)
  | skip
theorem qt_build (t:TypeId) (parts:Array (Nat × Value)):Qt P ld (Instr.build t parts):=by
  unfold Instr.build
  have hm:∀ (fs:Array Field),Qt P ld (fs.mapM fun f=>do pure (f.offset,<- sizeOf f.type)):=by
    intro fs
    rw [Array.mapM_eq_mapM_toList]
    exact z0h (qt_mapM_list _ _ fun f=>z0h (z2x _) fun _=>z0o _) fun _=>z0o _
  refine z0h (qt_zeroValue t) fun z=>z0h (z1a t) fun d=>?_
  split
  · refine z0h (hm _) fun _=>?_
    split <;> first | exact z0o _ | exact z0z _
  · refine z0h (z2x _) fun _=>?_
    split <;> first | exact z0o _ | exact z0z _
  · exact z0z _
end
end Go.Draw
end
section
namespace Go.Draw
open Go
section
variable {P:Program} {ld:Bool}
def isIntT (P:Program) (t:TypeId):Bool:=match P.underlying t with | some (.int _)=>true | _=>false
def z1g (P:Program) (o:Oper):Option Bool :=
 match o.op with
 | .move _ | .assign _ | .pick .. | .build .. | .makeFunc .. | .makeInterface .. | .extract .. | .unOp .. | .field .. | .indexAddr .. | .index .. | .slice .. | .binOp ..=>some false
 | .fieldAddr s _ f=>if fieldOk P s f then some false else none
 | .load ..=>some true
 | .nilCheck _=>some false
 | .convert src dst _=>if isIntT P src && isIntT P dst then some false else none
 | .call { callee:=.builtin .len,argTypes,.. }=>if (match argTypes[0]? with | some t=>lenOk P t | none=>true) then some false else some true
 | .call { callee:=.builtin .min,.. } | .call { callee:=.builtin .max,.. }=>some false
 | _=>none
def needs (o:Oper):List Operand :=
 match o.op with
 | .binOp _ _ x y _=>[x,y]
 | .convert _ _ x=>[x]
 | .nilCheck x=>[x]
 | .call { callee:=.builtin .min,args,.. } | .call { callee:=.builtin .max,args,.. }=>args.toList
 | _=>[]
def z9o (o:Oper):Bool :=
 match o.op with
 | .alloc _ | .box .. | .buildSlice .. | .makeSlice .. | .makeMap ..=>true
 | _=>false
def ptrV:Value->Bool
 | .pointer _=>true
 | .func (.func _) _ _=>true
 | _=>false
def zfp (o:Oper):Value->Bool :=
 match o.op with
 | .call _=>z33
 | .nilCheck _=>ptrV
 | _=>z3p
theorem qt_convert (src dst:TypeId) (x:Value) (h:(isIntT P src && isIntT P dst)=true) (hx:z3p x=true):Qt P ld (convert src dst x):=by
 simp only [Bool.and_eq_true] at h
 obtain ⟨h1,h2⟩:=h
 unfold convert
 have key:∀ (t:TypeId) (k:TypeDesc->Sem Value),isIntT P t=true->(∀ kd,Qt P ld (k (.int kd)))->Qt P ld (underlying t >>= k):=by
  intro t k ht hk
  unfold underlying
  show Qt P ld (Sem.bind (match P.underlying t with | some d=>pure d | none=>stuck "no such type") k)
  unfold isIntT at ht
  cases hu:P.underlying t with
  | none=>trivial
  | some d =>
   rw [hu] at ht
   cases d <;> simp only [Bool.false_eq_true] at ht
   exact hk _
 refine key _ _ h1 fun k1=>key _ _ h2 fun k2=>?_
 cases x <;> first | (simp [z3p,z33] at hx; done) | exact z0o _ | exact z0w _ | trivial
theorem qt_execOp (o:Oper) (ρ:Operand->Value) (h:z1g P o=some ld) (hn:∀ x ∈ needs o,zfp o (ρ x)=true):Qt P ld (execOp ρ o):=by
 obtain ⟨dst,op,type,pos,after,guard⟩:=o
 unfold z1g at h
 unfold needs zfp at hn
 unfold execOp
 cases op <;> simp only [reduceCtorEq,Option.some.injEq] at h hn ⊢
 case move=>trivial
 case assign=>trivial
 case pick=>exact z0h (qt_asBool _) fun _=>z0o _
 case build=>exact z0h (qt_build _ _) fun _=>z0o _
 case makeFunc=>trivial
 case makeInterface=>exact z0h (zho _ _) fun _=>z0o _
 case extract=>exact z0h (qt_extract _ _) fun _=>z0o _
 case unOp=>exact z0h (qt_unary _ _) fun _=>z0o _
 case field=>exact z0h (qt_field _ _ _) fun _=>z0o _
 case indexAddr=>exact z0h (qt_indexAt _ _ _) fun _=>z0o _
 case index=>exact z0h (qt_index _ _ _) fun _=>z0o _
 case slice=>exact z0h (qt_sliceAt _ _ _ _ _) fun _=>z0o _
 case binOp op t x y yt=>exact z0h (z0h (qt_eqGuard _ _ _ _ _ _) fun _=>qt_binOp _ _ _ _ (hn x (by simp)) (hn y (by simp))) fun _=>z0o _
 case fieldAddr s x f =>
  split at h
  ·exact z0h (qt_fieldAt _ _ _ (by assumption)) fun _=>z0o _
  ·cases h
 case load =>
  subst h
  exact z0h (z0h (z3a _) fun _=>qt_loadVar _ _) fun _=>z0o _
 case nilCheck x =>
  have hx:=hn x (by simp)
  revert hx
  cases hv:ρ x <;> intro hx <;> first | (simp [ptrV] at hx; done) | skip
  case pointer q=>cases q <;> first | exact z39 _ (by simp) (by simp) | exact z0o _
  case func fn a b=>cases fn <;> first | (simp [ptrV] at hx; done) | exact z0o _
 case convert src dst x =>
  split at h
  ·exact z0h (qt_convert _ _ _ (by assumption) (hn x (by simp))) fun _=>z0o _
  ·cases h
 case call c =>
  obtain ⟨callee,args,argTypes⟩:=c
  cases callee with
  | value f=>simp at h
  | invoke r m=>simp at h
  | builtin b =>
   cases b <;> simp only [reduceCtorEq] at h hn
   case len =>
    show Qt P ld (Builtin.len_ argTypes type (args.map ρ) >>= fun x=>pure (Next.value x))
    by_cases hl:(match argTypes[0]? with | some t=>lenOk P t | none=>true)=true
    ·exact z0h (qt_len_plain _ _ _ hl) fun _=>z0o _
    ·rw [if_neg hl] at h
     cases h
     exact z0h (qt_len _ _ _) fun _=>z0o _
   case max =>
    show Qt P ld (Builtin.max_ argTypes type (args.map ρ) >>= fun x=>pure (Next.value x))
    refine z0h ?_ fun _=>z0o _
    unfold Builtin.max_
    have hl:∀ v ∈ (args.map ρ).toList,z33 v=true:=by
     intro v hv
     simp only [Array.toList_map,List.mem_map] at hv
     obtain ⟨x,hx,rfl⟩:=hv
     exact hn x hx
    split
    ·exact z0z _
    ·rename_i x rest e
     rw [e] at hl
     exact z7d _ qt_max2 _ _ (hl x (by simp)) fun v hv=>hl v (by simp [hv])
   case min =>
    show Qt P ld (Builtin.min_ argTypes type (args.map ρ) >>= fun x=>pure (Next.value x))
    refine z0h ?_ fun _=>z0o _
    unfold Builtin.min_
    have hl:∀ v ∈ (args.map ρ).toList,z33 v=true:=by
     intro v hv
     simp only [Array.toList_map,List.mem_map] at hv
     obtain ⟨x,hx,rfl⟩:=hv
     exact hn x hx
    split
    ·exact z0z _
    ·rename_i x rest e
     rw [e] at hl
     exact z7d _ qt_min2 _ _ (hl x (by simp)) fun v hv=>hl v (by simp [hv])
def zhy (n:Next):Prop:=∃ v,n = .value v
theorem zdx (s:Sem Value):Rv zhy (s >>= fun x=>pure (Next.value x)):=zcd _ _ (zce _) fun v _=>⟨v,rfl⟩
theorem rv_execOp (o:Oper) (ρ:Operand->Value) (h:z1g P o=some ld):Rv zhy (execOp ρ o):=by
 obtain ⟨dst,op,type,pos,after,guard⟩:=o
 unfold z1g at h
 unfold execOp
 cases op <;> simp only [reduceCtorEq] at h ⊢ <;> first
  | exact zdx _
  | exact ⟨_,rfl⟩
  | skip
 case pick=>exact zcd _ _ (zce _) fun v _=>⟨_,rfl⟩
 case nilCheck x =>
  have rt:Rv zhy (runtimePanic .nilDeref:Sem Next):=fun p=>trivial
  split
  all_goals first | exact rt | exact ⟨_,rfl⟩ | skip
  split
  ·exact rt
  ·refine zcd _ _ (zce _) fun p _=>zcd _ _ (zce _) fun r _=>?_
   split
   ·exact zcd _ _ (R:=fun _=>True) (zce _) fun _ _=>⟨_,rfl⟩
   ·exact ⟨_,rfl⟩
  ·exact ⟨_,rfl⟩
 case call c =>
  obtain ⟨callee,args,argTypes⟩:=c
  cases callee with
  | value f=>simp at h
  | invoke r m=>simp at h
  | builtin b =>
   cases b <;> simp only [reduceCtorEq] at h
   case len=>exact zdx (Builtin.len_ argTypes type (args.map ρ))
   case max=>exact zdx (Builtin.max_ argTypes type (args.map ρ))
   case min=>exact zdx (Builtin.min_ argTypes type (args.map ρ))
theorem Rv.run {α:Type} {R:α->Prop} (e:Sem α) (h:Rv R e) (w:World) (v:α) (w':World) (hr:e.run P w = .ok v w'):R v:=by
  induction e generalizing w with
  | pure a =>
    simp only [Sem.run,Result.ok.injEq] at hr
    rw [<- hr.1]; exact h
  | load m a k ih =>
    simp only [Sem.run] at hr
    split at hr
    · exact ih _ (h _) _ hr
    · split at hr
      · exact ih _ (h _) _ hr
      · cases hr
  | store m a u k ih =>
    cases u <;> simp only [Sem.run] at hr <;> first
      | (cases hr; done)
      | (split at hr
         · split at hr
           · cases hr
           · exact ih h _ hr
         · split at hr
           · exact ih h _ hr
           · cases hr)
  | new o k ih=>exact ih _ (h _) _ hr
  | shape r k ih=>exact ih _ (h _) _ hr
  | freeze a n k ih=>exact ih h _ hr
  | frozen a k ih=>exact ih _ (h _) _ hr
  | getObj r k ih =>
    simp only [Sem.run] at hr
    split at hr <;> first | (cases hr; done) | exact ih _ (h _) _ hr
  | setObj r o k ih =>
    simp only [Sem.run] at hr
    split at hr <;> first | (cases hr; done) | exact ih h _ hr
  | choose q k ih =>
    simp only [Sem.run] at hr
    split at hr <;> exact ih _ (h _) _ hr
  | sys c k ih=>exact ih _ (h _) _ hr
  | program k ih=>exact ih _ (h _) _ hr
  | mark m k ih=>exact ih h _ hr
  | halt x=>simp [Sem.run] at hr
theorem z37 {α β:Type} {e:Sem α} {f:α->Sem β} (h:Nt P e) (hf:∀ a,Nt P (f a)):Nt P (e >>= f):=Nt.bind e f h hf
theorem z7b {α:Type} (a:α):Nt P (pure a:Sem α):=trivial
theorem nt_stuck {α:Type} (s:String):Nt P (stuck s:Sem α):=trivial
theorem z7c {α:Type} (s:Unsupported):Nt P (unsupported s:Sem α):=trivial
theorem z8i (t:TypeId):Nt P (underlying t):=by
 unfold underlying; exact z37 (e:=program) trivial fun p=>by split <;> trivial
theorem zc1 (t:TypeId):Nt P (typeInfo t):=by
 unfold typeInfo; exact z37 (e:=program) trivial fun p=>by split <;> trivial
theorem nt_sizeOf (t:TypeId):Nt P (sizeOf t):=z37 (zc1 t) fun _=>trivial
theorem z9p (t:TypeId):Nt P (zeroValue t):=z37 (zc1 t) fun _=>by split <;> trivial
theorem nt_asInt (v:Value):Nt P (asInt v):=z37 (by unfold asIntOf; split <;> trivial) fun _=>trivial
theorem zdn (e:TypeId) (c:Array Value):Nt P (newRow e c):=z37 (e:=newObj _) (fun _=>trivial) fun _=>trivial
theorem zky {α:Type} (s:String):Nt P (runtimePanic (.error s):Sem α):=trivial
theorem nt_askRoom (n:Nat):Nt P (askRoom n):=by unfold askRoom; split <;> trivial
theorem nt_choose (q:Question):Nt P (choose q):=fun _=>trivial
theorem nt_execOp (o:Oper) (ρ:Operand->Value) (h:z9o o=true):Nt P (execOp ρ o):=by
 obtain ⟨dst,op,type,pos,after,guard⟩:=o
 unfold z9o at h
 unfold execOp
 cases op <;> simp only [Bool.false_eq_true] at h ⊢
 case alloc e=>exact z37 (z37 (z9p e) fun z=>z37 (zdn _ _) fun _=>z7b _) fun _=>z7b _
 case box e x=>exact z37 (z37 (zdn _ _) fun _=>z7b _) fun _=>z7b _
 case buildSlice t n ps =>
  refine z37 ?_ fun _=>z7b _
  unfold Instr.buildSlice
  repeat' (first | exact z7b _ | exact nt_stuck _ | exact z7c _ | exact z8i _ | exact nt_sizeOf _ | exact z9p _ | exact zdn _ _ | (refine z37 ?_ ?_) | (intro _) | split | (dsimp only))
 case makeMap t r =>
  refine z37 ?_ fun _=>z7b _
  unfold Instr.makeMap
  repeat' (first | exact z7b _ | exact nt_stuck _ | exact z7c _ | exact z8i _ | exact nt_asInt _ | exact (fun _=>trivial:Nt P (newObj _)) | (refine z37 ?_ ?_) | (intro _) | split | (dsimp only))
 case makeSlice t l c =>
  refine z37 ?_ fun _=>z7b _
  unfold Instr.makeSlice
  repeat' (first | exact z7b _ | exact nt_stuck _ | exact z7c _ | exact z8i _ | exact nt_sizeOf _ | exact zc1 _ | exact z9p _ | exact nt_asInt _ | exact nt_askRoom _ | exact nt_choose _ | exact zky _ | exact zdn _ _ | (refine z37 ?_ ?_) | (intro _) | split | (dsimp only))
end
end Go.Draw
end
section
namespace Go.Draw
open Go
def Fls:Exit->Act->World->Prop:=fun _ _ _=>False
theorem z4j:¬ LetsOut Fls:=fun ⟨_,_,h⟩=>h
section
variable {P:Program} {ops:Array Oper}
def zi2 (P:Program) (ops:Array Oper) (i:Nat) (K:Act->World->Prop) (a:Act) (w:World):Prop:=wpOp P ops Fls i K a w
theorem z38 {i:Nat} {a:Act} {w:World} {K K':Act->World->Prop} (h:∀ a w,K a w->K' a w) (hh:zi2 P ops i K a w):zi2 P ops i K' a w:=wpOp_mono h hh
def wpL (P:Program) (ops:Array Oper) (F:Act->World->Prop):List (Nat × Bool)->Act->World->Prop
 | [],a,w=>F a w
 | (i,c) :: rest,a,w=>zi2 P ops i (fun a' w'=>(c=true->Old w w')/\wpL P ops F rest a' w') a w
theorem wp_some {o:Oper} {a:Act} {w:World} {K:Act->World->Prop} (h:o.wp P a w K Fls):∃ a' w' v d,K a' w'/\a'=({ a with defers:=d }:Act).put o.dst v:=by
 unfold Oper.wp at h
 generalize (execOp a.eval o).run P w=r at *
 cases r with
 | halt x w'=>cases x <;> simp only [Oper.upon] at h <;> exact h.elim
 | ok n w' =>
  cases n <;> simp only [Oper.upon] at h
  case value v=>exact ⟨_,_,v,a.defers,h,rfl⟩
  case skip=>exact ⟨_,_,undef,a.defers,h,rfl⟩
  case defer d=>exact ⟨_,_,undef,d :: a.defers,h,rfl⟩
  case enter f args =>
   obtain ⟨e,w'',fr,hR,_⟩:=h []
   cases e with
   | returned v=>exact ⟨_,_,v,a.defers,hR,rfl⟩
   | panicked c=>exact hR.elim
   | outgrown=>exact (z4j hR).elim
  case row row args =>
   obtain ⟨v,w'',hR,_⟩:=h default []
   exact ⟨_,_,v,a.defers,hR,rfl⟩
theorem zl0 {i:Nat} {a:Act} {w:World} {K:Act->World->Prop} (h:zi2 P ops i K a w) :
  ∃ a' w' v d,K a' w'/\a'=({ a with defers:=d }:Act).put ((ops[i]?).bind (·.dst)) v:=by
 unfold zi2 wpOp at h
 cases ho:ops[i]? with
 | none=>simp only [ho] at h; exact ⟨a,w,undef,a.defers,h,rfl⟩
 | some o =>
  simp only [ho] at h
  split at h
  ·rcases h with h | ⟨_,h⟩
   ·exact wp_some h
   ·exact (z4j h).elim
  ·exact ⟨_,_,undef,a.defers,h,rfl⟩
def z98 (ops:Array Oper) (l:List Nat) (x:Operand):Prop:=∀ t,x = .tmp t->∀ i ∈ l,(ops[i]?).bind (·.dst) ≠ some t
theorem zbc {a:Act} {dst:Option Tmp} {v:Value} {d:List Deferred} {x:Operand} (h:∀ t,x = .tmp t->dst ≠ some t):(({ a with defers:=d }:Act).put dst v).eval x=a.eval x:=by
 rw [Act.eval_put (fun t ht hx=>h t hx ht)]
 cases x <;> rfl
theorem wpL_end {F:Act->World->Prop}:∀ (l:List (Nat × Bool)) (a:Act) (w:World),wpL P ops F l a w ->
  ∃ a' w',F a' w'/\∀ x,z98 ops (l.map (·.1)) x->a'.eval x=a.eval x
 | [],a,w,h=>⟨a,w,h,fun _ _=>rfl⟩
 | (i,c) :: l,a,w,h=>by
  obtain ⟨a1,w1,v,d,h1,e1⟩:=zl0 h
  obtain ⟨a2,w2,h2,e2⟩:=wpL_end l a1 w1 h1.2
  refine ⟨a2,w2,h2,fun x hx=>?_⟩
  rw [e2 x (fun t ht j hj=>hx t ht j (by simp [hj])),e1]
  exact zbc fun t ht=>hx t ht i (by simp)
def z78 (ops:Array Oper) (a:Act):Prop:=∀ o ∈ ops.toList,Region.wanted o (yielded ops a.tmps)=true->∀ x ∈ needs o,zfp o (a.eval x)=true
def guardAt (ops:Array Oper) (o:Oper):List Tmp :=
 match o.guard with
 | none=>[]
 | some (g,_)=>match (ops[g]?).bind (·.dst) with
  | none=>[]
  | some t=>[t]
def zfm (ops:Array Oper) (o:Oper):List Operand:=needs o ++ ((guardAt ops o).map Operand.tmp)
theorem zhj (a:Act) (g:Nat):yielded ops a.tmps g=(match (ops[g]?).bind (·.dst) with | none=>none | some t=>match a.eval (.tmp t) with | .bool b=>some b | _=>none):=by
 unfold yielded
 cases ht:(ops[g]?).bind (·.dst) with
 | none=>rfl
 | some t =>
  simp only [Option.bind_some,Act.eval]
  cases hc:a.tmps[t]? with
  | none=>simp [hc,undef]
  | some v=>simp only [Array.getD_eq_getD_getElem?,hc,Option.getD_some]; cases v <;> rfl
theorem wanted_congr {o:Oper} {a a':Act} (h:∀ t ∈ guardAt ops o,a'.eval (.tmp t)=a.eval (.tmp t)) :
  Region.wanted o (yielded ops a'.tmps)=Region.wanted o (yielded ops a.tmps):=by
 unfold Region.wanted
 cases hg:o.guard with
 | none=>rfl
 | some gw =>
  obtain ⟨g,want⟩:=gw
  have hy:yielded ops a'.tmps g=yielded ops a.tmps g:=by
   rw [zhj,zhj]
   cases ht:(ops[g]?).bind (·.dst) with
   | none=>rfl
   | some t =>
    have:=h t (by simp [guardAt,hg,ht])
    simp only [this]
  simp only [hy]
theorem quiet_head {F:Act->World->Prop} {ld:Bool} {q:Nat} {c:Bool} {r:List (Nat × Bool)} {oq:Oper} {a:Act} {w:World}
  (hq:ops[q]? = some oq) (hk:z1g P oq=some ld) (hF:∀ a' w',F a' w'->∃ a2,z78 ops a2/\∀ x ∈ zfm ops oq,a2.eval x=a'.eval x)
  (hun:∀ x ∈ zfm ops oq,z98 ops (q :: r.map (·.1)) x) (h:wpL P ops F ((q,c) :: r) a w) :
  ∃ v,(Region.wanted oq (yielded ops a.tmps)=true->(execOp a.eval oq).run P w = .ok (.value v) w/\Qt P ld (execOp a.eval oq)) /\
   (Region.wanted oq (yielded ops a.tmps)=false->v=undef)/\wpL P ops F r (a.put oq.dst v) w:=by
 unfold wpL zi2 wpOp at h
 simp only [hq] at h
 by_cases hw:Region.wanted oq (yielded ops a.tmps)=true
 ·simp only [hw,if_true] at h
  rcases h with h | ⟨_,h⟩
  ·unfold Oper.wp at h
   cases hr:(execOp a.eval oq).run P w with
   | halt x w'=>rw [hr] at h; cases x <;> simp only [Oper.upon] at h <;> exact h.elim
   | ok n w' =>
    obtain ⟨v,rfl⟩:=Rv.run _ (rv_execOp oq a.eval hk) _ _ _ hr
    rw [hr] at h
    simp only [Oper.upon] at h
    obtain ⟨a3,w2,hF2,he⟩:=wpL_end r _ _ h.2
    obtain ⟨a2,hp,he2⟩:=hF _ _ hF2
    have he':∀ x ∈ zfm ops oq,a2.eval x=a.eval x:=fun x hx=>by
     rw [he2 x hx,he x (fun t ht j hj=>hun x hx t ht j (by simp [hj]))]
     exact Act.eval_put (fun d hd e=>hun x hx d e q (by simp) (by simp [hq,hd]))
    have hw2:Region.wanted oq (yielded ops a2.tmps)=true:=by
     rw [wanted_congr (fun t ht=>he' (.tmp t) (by simp [zfm,ht]))]; exact hw
    have hn:∀ x ∈ needs oq,zfp oq (a.eval x)=true:=fun x hx=>by
     rw [<- he' x (by simp [zfm,hx])]
     exact hp oq (by simpa using Array.mem_of_getElem? hq) hw2 x hx
    have hQ:=qt_execOp oq a.eval hk hn
    obtain ⟨rfl,hst⟩:=Qt.run _ hQ _ _ _ hr
    exact ⟨v,fun _=>⟨rfl,hQ⟩,(fun h0=>by rw [hw] at h0; cases h0),h.2⟩
  ·exact (z4j h).elim
 ·simp only [hw] at h
  exact ⟨undef,fun h0=>absurd h0 hw,fun _=>rfl,h.2⟩
theorem quiet_do {K:Act->World->Prop} {q:Nat} {oq:Oper} {v:Value} {a:Act} {w:World} (hq:ops[q]? = some oq)
  (h1:Region.wanted oq (yielded ops a.tmps)=true->(execOp a.eval oq).run P w = .ok (.value v) w)
  (h0:Region.wanted oq (yielded ops a.tmps)=false->v=undef) (hK:K (a.put oq.dst v) w):zi2 P ops q K a w:=by
 unfold zi2 wpOp
 simp only [hq]
 by_cases hw:Region.wanted oq (yielded ops a.tmps)=true
 ·simp only [hw,if_true]
  refine .inl ?_
  unfold Oper.wp
  rw [h1 hw]
  exact hK
 ·simp only [hw]
  rw [h0 (by simpa using hw)] at hK
  exact hK
theorem opWp_old {j:Nat} {oj:Oper} {K:Act->World->Prop} {a:Act} {w:World} (hj:ops[j]? = some oj) (hn:z9o oj=true) (h:zi2 P ops j K a w) :
  zi2 P ops j (fun a' w'=>Old w w'/\K a' w') a w:=by
 unfold zi2 wpOp at *
 simp only [hj] at *
 split
 ·rename_i hw
  simp only [hw,if_true] at h
  rcases h with h | ⟨_,h⟩
  ·refine .inl ?_
   unfold Oper.wp at *
   cases hr:(execOp a.eval oj).run P w with
   | halt x w'=>rw [hr] at h; cases x <;> simp only [Oper.upon] at h <;> exact h.elim
   | ok n w' =>
    have ho:=Nt.run _ (nt_execOp oj a.eval hn) _ _ _ hr
    rw [hr] at h
    have hval:∃ v,n = .value v:=by
     have:Rv zhy (execOp a.eval oj):=by
      unfold z9o at hn
      unfold execOp
      cases hop:oj.op <;> simp only [hop,Bool.false_eq_true] at hn ⊢ <;> exact zdx _
     exact Rv.run _ this _ _ _ hr
    obtain ⟨v,rfl⟩:=hval
    exact ⟨ho,h⟩
  ·exact (z4j h).elim
 ·rename_i hw
  simp only [hw] at h
  exact ⟨Old.refl _,h⟩
theorem zfn {oj om:Oper} {a:Act} {u:Value} {d:List Deferred} (hap:oj.apart ops om=true) (hs:∀ cs b,oj.op ≠ .select cs b) :
  execOp (({ a with defers:=d }:Act).put om.dst u).eval oj=execOp a.eval oj/\Region.wanted oj (yielded ops (({ a with defers:=d }:Act).put om.dst u).tmps)=Region.wanted oj (yielded ops a.tmps):=by
 obtain ⟨h1,h2,h3⟩:=Oper.apart_spec hap
 have e0:({ a with defers:=d }:Act).eval=a.eval:=by funext x; cases x <;> rfl
 exact ⟨by rw [execOp_put oj hs _ om.dst u h3,e0],by rw [wanted_put oj _ om.dst u h3]⟩
theorem opWp_pull {m:Nat} {om oj:Oper} {v:Value} {K:Act->World->Prop} {a:Act} {w:World} (hm:ops[m]? = some om) (hap:oj.apart ops om=true)
  (hs:∀ cs b,om.op ≠ .select cs b) (h:zi2 P ops m K (a.put oj.dst v) w):zi2 P ops m (fun a' w'=>(∃ u d,a'=({ a with defers:=d }:Act).put om.dst u)/\K (a'.put oj.dst v) w') a w:=by
 obtain ⟨h1,h2,h3⟩:=Oper.apart_spec hap
 unfold zi2 wpOp at *
 simp only [hm] at *
 rw [wanted_put om a oj.dst v h1] at h
 split
 ·rename_i hw
  simp only [hw,if_true] at h
  rcases h with h | ⟨_,h⟩
  ·refine .inl ?_
   unfold Oper.wp at *
   rw [execOp_put om hs a oj.dst v h1] at h
   generalize (execOp a.eval om).run P w=r at *
   cases r with
   | halt x w'=>cases x <;> simp only [Oper.upon] at h <;> exact h.elim
   | ok n w' =>
    cases n <;> simp only [Oper.upon] at h ⊢
    case value u=>exact ⟨⟨u,a.defers,rfl⟩,by rw [<- Act.put_comm a v u h2]; exact h⟩
    case skip=>exact ⟨⟨undef,a.defers,rfl⟩,by rw [<- Act.put_comm a v undef h2]; exact h⟩
    case defer d=>exact ⟨⟨undef,d :: a.defers,rfl⟩,by rw [<- Act.put_comm _ v undef h2,<- Act.put_defers]; exact h⟩
    case enter f args =>
     refine Calls.mono h fun e w'' he=>?_
     cases e with
     | returned u=>exact ⟨⟨u,a.defers,rfl⟩,by rw [<- Act.put_comm a v u h2]; exact he⟩
     | panicked c=>exact he.elim
     | outgrown=>exact (z4j he).elim
    case row row args=>exact Rows.mono h fun u w'' he=>⟨⟨u,a.defers,rfl⟩,by rw [<- Act.put_comm a v u h2]; exact he⟩
  ·exact (z4j h).elim
 ·rename_i hw
  simp only [hw] at h
  exact ⟨⟨undef,a.defers,rfl⟩,by rw [<- Act.put_comm a v undef h2]; exact h⟩
theorem swapA {F:Act->World->Prop} {ld:Bool} {q j:Nat} {cq cj:Bool} {r:List (Nat × Bool)} {oq oj:Oper} {a:Act} {w:World}
  (hq:ops[q]? = some oq) (hj:ops[j]? = some oj) (hk:z1g P oq=some ld) (hF:∀ a' w',F a' w'->∃ a2,z78 ops a2/\∀ x ∈ zfm ops oq,a2.eval x=a'.eval x)
  (hFj:(∃ l,z1g P oj=some l)->∀ a' w',F a' w'->∃ a2,z78 ops a2/\∀ x ∈ zfm ops oj,a2.eval x=a'.eval x)
  (hun:∀ x ∈ zfm ops oq,z98 ops (q :: ((j,cj) :: r).map (·.1)) x) (hap:oq.apart ops oj=true)
  (hsq:∀ cs b,oq.op ≠ .select cs b) (hsj:∀ cs b,oj.op ≠ .select cs b)
  (hst:ld=true->cj=true ∨ z9o oj=true ∨ ∃ l,z1g P oj=some l)
  (hunj:(∃ l,z1g P oj=some l)->∀ x ∈ zfm ops oj,z98 ops (j :: r.map (·.1)) x)
  (h:wpL P ops F ((q,cq) :: (j,cj) :: r) a w):wpL P ops F ((j,cj) :: (q,cq) :: r) a w:=by
 obtain ⟨v,hv1,hv0,hrest⟩:=quiet_head hq hk hF hun h
 have hold:zi2 P ops j (fun a' w'=>(ld=true->Old w w')/\(cj=true->Old w w')/\wpL P ops F r a' w') (a.put oq.dst v) w:=by
  cases ld with
  | false=>exact z38 (fun a' w' h=>⟨fun h=>(by cases h),h⟩) hrest
  | true =>
   rcases hst rfl with hc | hn | ⟨l,hl⟩
   ·exact z38 (fun a' w' h=>⟨fun _=>h.1 hc,h⟩) hrest
   ·exact z38 (fun a' w' h=>⟨fun _=>h.1,h.2⟩) (opWp_old hj hn hrest)
   ·obtain ⟨u,hu1,hu0,hu⟩:=quiet_head hj hl (hFj ⟨l,hl⟩) (hunj ⟨l,hl⟩) hrest
    exact quiet_do hj (fun hw=>(hu1 hw).1) hu0 ⟨fun _=>Old.refl _,fun _=>Old.refl _,hu⟩
 refine z38 (fun a' w' hh=>?_) (opWp_pull hj hap hsj hold)
 obtain ⟨⟨u,d,rfl⟩,hl,hc,hw'⟩:=hh
 refine ⟨hc,?_⟩
 obtain ⟨e1,e2⟩:=zfn (a:=a) (u:=u) (d:=d) hap hsq
 refine quiet_do hq (v:=v) (fun hw=>?_) (fun hw=>hv0 (by rw [<- e2]; exact hw)) ⟨fun _=>Old.refl _,hw'⟩
 rw [e1]
 obtain ⟨hr,hQt⟩:=hv1 (by rw [<- e2]; exact hw)
 exact (Qt.run _ hQt _ _ _ hr).2 w' hl
end
end Go.Draw
end
section
namespace Go.Draw
open Go
section
variable {P:Program} {ops:Array Oper}
def ancs (ops:Array Oper):Array (List Nat) :=
 ops.foldl (init:=#[]) fun acc o=>acc.push ((o.after.toList.filter (Region.binds .any)).flatMap fun e=>e.on :: acc.getD e.on []).eraseDups
def opOk (P:Program) (ops:Array Oper) (A:Array (List Nat)) (i:Nat):Bool :=
 match ops[i]? with
 | none=>true
 | some o =>
  (match o.op with | .select ..=>false | _=>true) &&
  !(A.getD i []).contains i &&
  o.after.toList.all (fun e=>!Region.binds .any e || (e.on<ops.size && (A.getD i []).contains e.on)) &&
  (A.getD i []).all (fun x=>o.after.toList.any fun e=>Region.binds .any e && (e.on == x || (A.getD e.on []).contains x)) &&
  (List.range ops.size).all (fun j=>j == i || (A.getD i []).contains j || (A.getD j []).contains i || match ops[j]? with | some oj=>o.apart ops oj | none=>true) &&
  ((z1g P o).isNone || (zfm ops o).all fun x=>match x with
   | .tmp t=>(List.range ops.size).all fun j=>(ops[j]?).bind (·.dst) != some t || (A.getD i []).contains j
   | _=>true)
structure Static (P:Program) (ops:Array Oper) (A:Array (List Nat)):Prop where
 sel:∀ (i:Nat) (o:Oper) (cs:Array SelectCase) (b:Bool),ops[i]? = some o->o.op ≠ .select cs b
 irr:∀ i o,ops[i]? = some o->i ∉ A.getD i []
 edge:∀ i o,ops[i]? = some o->∀ e ∈ o.after,Region.binds .any e=true->e.on<ops.size/\e.on ∈ A.getD i []
 clos:∀ i o,ops[i]? = some o->∀ x ∈ A.getD i [],∃ e ∈ o.after,Region.binds .any e=true/\(e.on=x ∨ x ∈ A.getD e.on [])
 apart:∀ i j oi oj,ops[i]? = some oi->ops[j]? = some oj->i ≠ j->j ∉ A.getD i []->i ∉ A.getD j []->oi.apart ops oj=true
 unw:∀ i o,ops[i]? = some o->(∃ l,z1g P o=some l)->∀ x ∈ zfm ops o,∀ t,x = .tmp t->∀ j,(ops[j]?).bind (·.dst)=some t->j ∈ A.getD i []
theorem static_of {A:Array (List Nat)} (h:(List.range ops.size).all (opOk P ops A)=true):Static P ops A:=by
 have key:∀ i o,ops[i]? = some o->opOk P ops A i=true:=fun i o ho =>
  List.all_eq_true.1 h i (List.mem_range.2 (Array.getElem?_eq_some_iff.1 ho).1)
 have unf:∀ i o,ops[i]? = some o->_:=fun i o ho=>by
  have:=key i o ho
  unfold opOk at this
  rw [ho] at this
  simp only [Bool.and_eq_true] at this
  exact this
 constructor
 ·intro i o cs b ho heq
  have:=(unf i o ho).1.1.1.1.1
  rw [heq] at this
  cases this
 ·intro i o ho hc
  have:=(unf i o ho).1.1.1.1.2
  simp [List.contains_iff_mem.2 hc] at this
  exact absurd hc (by simpa using this)
 ·intro i o ho e he hb
  have:=List.all_eq_true.1 (unf i o ho).1.1.1.2 e (by simpa using he)
  simpa [hb] using this
 ·intro i o ho x hx
  have:=List.all_eq_true.1 (unf i o ho).1.1.2 x hx
  obtain ⟨e,he,hh⟩:=List.any_eq_true.1 this
  simp only [Bool.and_eq_true,Bool.or_eq_true,beq_iff_eq,List.contains_iff_mem] at hh
  exact ⟨e,by simpa using he,hh⟩
 ·intro i j oi oj hi hj hne h1 h2
  have:=List.all_eq_true.1 (unf i oi hi).1.2 j (List.mem_range.2 (Array.getElem?_eq_some_iff.1 hj).1)
  simp only [hj,Bool.or_eq_true,beq_iff_eq,List.contains_iff_mem] at this
  rcases this with ((h | h) | h) | h
  ·exact absurd h.symm hne
  ·exact absurd h h1
  ·exact absurd h h2
  ·exact h
 ·intro i o ho ⟨l,hl⟩ x hx t ht j hj
  have:=(unf i o ho).2
  simp only [hl,Option.isNone_some,Bool.false_or] at this
  have:=List.all_eq_true.1 this x hx
  subst ht
  simp only at this
  have hlt:j<ops.size:=by
   rcases Nat.lt_or_ge j ops.size with h | h
   ·exact h
   ·rw [Array.getElem?_eq_none h] at hj; cases hj
  have:=List.all_eq_true.1 this j (List.mem_range.2 hlt)
  simpa [hj] using this
def Rdy (ops:Array Oper) (done:List Nat) (j:Nat):Prop:=j ∉ done/\∃ o,ops[j]? = some o/\∀ e ∈ o.after,Region.binds .any e=true->e.on ∈ done
theorem Rdy.congr {d d':List Nat} (h:∀ x,x ∈ d ↔ x ∈ d') {j:Nat}:Rdy ops d j ↔ Rdy ops d' j:=by
 unfold Rdy
 simp only [h]
def wpT (P:Program) (ops:Array Oper) (fl:Nat->Bool) (F:Act->World->Prop):Nat->List Nat->Act->World->Prop
 | 0,done,a,w=>(∀ j,¬ Rdy ops done j)/\F a w
 | n+1,done,a,w=>((∀ j,¬ Rdy ops done j)->F a w)/\∀ j,Rdy ops done j->zi2 P ops j (fun a' w'=>(fl j=true->Old w w')/\wpT P ops fl F n (j :: done) a' w') a w
def wpC (P:Program) (ops:Array Oper) (fl eag:Nat->Bool) (F:Act->World->Prop):Nat->List Nat->Act->World->Prop
 | 0,done,a,w=>(∀ j,¬ Rdy ops done j)/\F a w
 | n+1,done,a,w =>
  (∃ q,eag q=true/\Rdy ops done q/\zi2 P ops q (fun a' w'=>(fl q=true->Old w w')/\wpC P ops fl eag F n (q :: done) a' w') a w) ∨
  (((∀ j,¬ Rdy ops done j)->F a w)/\∀ j,Rdy ops done j->zi2 P ops j (fun a' w'=>(fl j=true->Old w w')/\wpC P ops fl eag F n (j :: done) a' w') a w)
variable {fl:Nat->Bool} {F:Act->World->Prop} {A:Array (List Nat)}
theorem wpT_congr:∀ {n:Nat} {d d':List Nat} {a:Act} {w:World},(∀ x,x ∈ d ↔ x ∈ d')->wpT P ops fl F n d a w->wpT P ops fl F n d' a w
 | 0,d,d',a,w,h,hh=>⟨fun j hj=>hh.1 j ((Rdy.congr h).2 hj),hh.2⟩
 | n+1,d,d',a,w,h,hh=>⟨fun h0=>hh.1 fun j hj=>h0 j ((Rdy.congr h).1 hj),fun j hj =>
   z38 (fun a' w' hk=>⟨hk.1,wpT_congr (fun x=>by simp only [List.mem_cons,h]) hk.2⟩) (hh.2 j ((Rdy.congr h).2 hj))⟩
theorem wpT_end:∀ {n:Nat} {d:List Nat} {a:Act} {w:World},wpT P ops fl F n d a w ->
  ∃ a' w',F a' w'/\∀ x,(∀ t,x = .tmp t->∀ i,i ∉ d->(ops[i]?).bind (·.dst) ≠ some t)->a'.eval x=a.eval x
 | 0,d,a,w,h=>⟨a,w,h.2,fun _ _=>rfl⟩
 | n+1,d,a,w,h=>by
  by_cases h0:∀ j,¬ Rdy ops d j
  ·exact ⟨a,w,h.1 h0,fun _ _=>rfl⟩
  ·obtain ⟨j,hj⟩:=Classical.not_forall.1 h0
   have hj:=Classical.not_not.1 hj
   obtain ⟨a1,w1,v,df,h1,e1⟩:=zl0 (h.2 j hj)
   obtain ⟨a2,w2,h2,e2⟩:=wpT_end h1.2
   refine ⟨a2,w2,h2,fun x hx=>?_⟩
   rw [e2 x (fun t ht i hi=>hx t ht i (fun h=>hi (by simp [h]))),e1]
   exact zbc fun t ht=>hx t ht j hj.1
def Clo (A:Array (List Nat)) (done:List Nat):Prop:=∀ p ∈ done,∀ x ∈ A.getD p [],x ∈ done
theorem rdy_anc (hS:Static P ops A) {d:List Nat} (hI:Clo A d) {j:Nat} (hj:Rdy ops d j):∀ x ∈ A.getD j [],x ∈ d:=by
 obtain ⟨_,o,ho,hall⟩:=hj
 intro x hx
 obtain ⟨e,he,hb,h⟩:=hS.clos j o ho x hx
 rcases h with rfl | h
 ·exact hall e he hb
 ·exact hI e.on (hall e he hb) x h
theorem clo_cons (hS:Static P ops A) {d:List Nat} (hI:Clo A d) {j:Nat} (hj:Rdy ops d j):Clo A (j :: d):=by
 intro p hp x hx
 rcases List.mem_cons.1 hp with rfl | hp
 ·exact List.mem_cons_of_mem _ (rdy_anc hS hI hj x hx)
 ·exact List.mem_cons_of_mem _ (hI p hp x hx)
theorem rdy_cons {d:List Nat} {j q:Nat} (hj:Rdy ops d j) (hne:j ≠ q):Rdy ops (q :: d) j:=by
 obtain ⟨h1,o,ho,h2⟩:=hj
 exact ⟨by simp [h1,hne],o,ho,fun e he hb=>List.mem_cons_of_mem _ (h2 e he hb)⟩
def EagOk (P:Program) (ops:Array Oper) (A:Array (List Nat)) (fl:Nat->Bool) (q:Nat):Prop :=
 ∃ oq ld,ops[q]? = some oq/\z1g P oq=some ld/\(ld=true->∀ j oj,ops[j]? = some oj->j ≠ q->j ∉ A.getD q []->q ∉ A.getD j []->fl j=true ∨ z9o oj=true ∨ ∃ l,z1g P oj=some l)
theorem wpT_first (hS:Static P ops A) (hF:∀ a' w',F a' w'->z78 ops a') {q:Nat} (hq:EagOk P ops A fl q):∀ {n:Nat} {d:List Nat} {a:Act} {w:World},Clo A d->Rdy ops d q ->
  zi2 P ops q (fun a' w'=>(fl q=true->Old w w')/\wpT P ops fl F n (q :: d) a' w') a w->wpT P ops fl F (n+1) d a w:=by
 intro n
 induction n with
 | zero =>
  intro d a w hI hr h
  refine ⟨fun h0=>absurd hr (h0 q),fun j hj=>?_⟩
  by_cases hjq:j=q
  ·subst hjq; exact h
  ·obtain ⟨a1,w1,_,_,h1,_⟩:=zl0 h
   exact absurd (rdy_cons hj hjq) (h1.2.1 j)
 | succ n ih =>
  intro d a w hI hr h
  refine ⟨fun h0=>absurd hr (h0 q),fun j hj=>?_⟩
  by_cases hjq:j=q
  ·subst hjq; exact h
  ·obtain ⟨oq,ld,hoq,hk,hld⟩:=hq
   obtain ⟨_,oj,hoj,_⟩:=hj
   have hj:Rdy ops d j:=⟨‹_›,oj,hoj,‹_›⟩
   have aq:=rdy_anc hS hI hr
   have aj:=rdy_anc hS hI hj
   have nq:j ∉ A.getD q []:=fun h=>hj.1 (aq j h)
   have nj:q ∉ A.getD j []:=fun h=>hr.1 (aj q h)
   have hend:∀ (x:Nat) (ox:Oper),ops[x]? = some ox->(∃ l,z1g P ox=some l)->(∀ y ∈ A.getD x [],y ∈ d)->∀ a' w',wpT P ops fl F n (j :: q :: d) a' w'->∃ a2,z78 ops a2/\∀ u ∈ zfm ops ox,a2.eval u=a'.eval u:=by
    intro x ox hox hkx hax a' w' hw
    obtain ⟨a2,w2,h2,e2⟩:=wpT_end hw
    refine ⟨a2,hF _ _ h2,fun u hu=>e2 u fun t ht i hi hd=>hi ?_⟩
    simp [hax i (hS.unw x ox hox hkx u hu t ht i hd)]
   have hunw:∀ (x:Nat) (ox:Oper),ops[x]? = some ox->(∃ l,z1g P ox=some l)->(∀ y ∈ A.getD x [],y ∈ d)->∀ l:List Nat,(∀ i ∈ l,i ∉ d)->∀ u ∈ zfm ops ox,z98 ops l u:=by
    intro x ox hox hkx hax l hl u hu t ht i hi hd
    exact hl i hi (hax i (hS.unw x ox hox hkx u hu t ht i hd))
   have h1:wpL P ops (wpT P ops fl F n (j :: q :: d)) [(q,fl q),(j,fl j)] a w :=
    z38 (fun a' w' hk=>⟨hk.1,hk.2.2 j (rdy_cons hj hjq)⟩) h
   have h2:=swapA hoq hoj hk (hend q oq hoq ⟨ld,hk⟩ aq) (fun hkj=>hend j oj hoj hkj aj) (hunw q oq hoq ⟨ld,hk⟩ aq _ (fun i hi=>by
     simp only [List.map_cons,List.map_nil,List.mem_cons,List.not_mem_nil,or_false] at hi
     rcases hi with rfl | rfl
     ·exact hr.1
     ·exact hj.1)) (hS.apart q j oq oj hoq hoj (Ne.symm hjq) nq nj) (fun cs b=>hS.sel q oq cs b hoq) (fun cs b=>hS.sel j oj cs b hoj)
     (fun h=>hld h j oj hoj hjq nq nj) (fun hkj=>hunw j oj hoj hkj aj _ (fun i hi=>by
     simp only [List.map_nil,List.mem_cons,List.not_mem_nil,or_false] at hi
     subst hi; exact hj.1)) h1
   refine z38 (fun a' w' hk'=>⟨hk'.1,?_⟩) h2
   refine ih (clo_cons hS hI hj) (rdy_cons hr (Ne.symm hjq)) (z38 (fun a2 w2 hk2=>⟨hk2.1,?_⟩) hk'.2)
   exact wpT_congr (fun x=>by simp only [List.mem_cons]; constructor <;> (rintro (h | h | h) <;> simp [h])) hk2.2
theorem zgv (hS:Static P ops A) (hF:∀ a' w',F a' w'->z78 ops a') {eag:Nat->Bool} (he:∀ q,eag q=true->EagOk P ops A fl q):∀ {n:Nat} {d:List Nat} {a:Act} {w:World},Clo A d ->
  wpC P ops fl eag F n d a w->wpT P ops fl F n d a w
 | 0,_,_,_,_,h=>h
 | n+1,d,a,w,hI,h=>by
  rcases h with ⟨q,h1,h2,h3⟩ | h
  ·exact wpT_first hS hF (he q h1) hI h2 (z38 (fun a' w' hk=>⟨hk.1,zgv hS hF he (clo_cons hS hI h2) hk.2⟩) h3)
  ·exact ⟨h.1,fun j hj=>z38 (fun a' w' hk=>⟨hk.1,zgv hS hF he (clo_cons hS hI hj) hk.2⟩) (h.2 j hj)⟩
def eager (P:Program) (ops:Array Oper) (A:Array (List Nat)) (fl:Nat->Bool) (q:Nat):Bool :=
 match ops[q]? with
 | none=>false
 | some oq=>match z1g P oq with
  | none=>false
  | some false=>true
  | some true=>(List.range ops.size).all fun j=>j == q || (A.getD q []).contains j || (A.getD j []).contains q || fl j || match ops[j]? with | some oj=>z9o oj || (z1g P oj).isSome | none=>true
theorem eager_ok {q:Nat} (h:eager P ops A fl q=true):EagOk P ops A fl q:=by
 unfold eager at h
 cases ho:ops[q]? with
 | none=>rw [ho] at h; cases h
 | some oq =>
  rw [ho] at h
  simp only at h
  cases hk:z1g P oq with
  | none=>rw [hk] at h; cases h
  | some ld =>
   refine ⟨oq,ld,ho,hk,fun hl j oj hj hne h1 h2=>?_⟩
   subst hl
   rw [hk] at h
   have:=List.all_eq_true.1 h j (List.mem_range.2 (Array.getElem?_eq_some_iff.1 hj).1)
   simp only [hj,Bool.or_eq_true,beq_iff_eq,List.contains_iff_mem] at this
   rcases this with (((h | h) | h) | h) | h
   ·exact absurd h hne
   ·exact absurd h h1
   ·exact absurd h h2
   ·exact .inl h
   ·rcases h with h | h
    ·exact .inr (.inl h)
    ·exact .inr (.inr (by cases hq:z1g P oj with | none=>rw [hq] at h; cases h | some l=>exact ⟨l,rfl⟩))
def treeOkA (P:Program) (ops:Array Oper) (A:Array (List Nat)):Bool:=(List.range ops.size).all (opOk P ops A)
def treeOk (P:Program) (ops:Array Oper):Bool:=treeOkA P ops (ancs ops)
def plainB (ops:Array Oper) (a:Act):Bool:=ops.toList.all fun o=>!Region.wanted o (yielded ops a.tmps) || (needs o).all fun x=>zfp o (a.eval x)
theorem plainEnd_of {a:Act} (h:plainB ops a=true):z78 ops a:=by
 intro o ho hw x hx
 have:=List.all_eq_true.1 h o ho
 simp only [hw,Bool.not_true,Bool.false_or] at this
 exact List.all_eq_true.1 this x hx
end
end Go.Draw
end
section
namespace Go.Draw
open Go
def FW (r:Option Nat):Fence:={ Fence.wide with round:=r }
theorem FW_round (r:Option Nat):(FW r).round=r:=rfl
theorem callsFW {P:Program} {r:Option Nat} {n:Nat} {f:FuncId} {args:Array Value} {w:World} {R:Ending->World->Prop} (h:Calls P f args w R):CallsIn (FW r) n P f args w R :=
 (callsIn_wide (n:=n)).2 h
theorem calls_of_FW {P:Program} {r:Option Nat} {n:Nat} {f:FuncId} {args:Array Value} {w:World} {R:Ending->World->Prop} (h:CallsIn (FW r) n P f args w R):Calls P f args w R :=
 (callsIn_wide (n:=n)).1 h
section
variable {P:Program} {ops:Array Oper} {r:Option Nat} {n:Nat}
theorem opIn {o:Oper} {a:Act} {w:World} {K:Act->World->Prop} {Q:Exit->Act->World->Prop} (hd:∀ c,o.op ≠ .defer c) (h:o.wp P a w K Fls):o.wpIn (FW r) n P a w K Q:=by
  unfold Oper.wp at h
  unfold Oper.wpIn
  refine ⟨fun _ _=>trivial,?_⟩
  rw [Oper.semAt_plain _ _ _ hd]
  generalize (execOp a.eval o).run P w=res at *
  cases res with
  | halt x w'=>cases x <;> simp only [Oper.upon] at h <;> exact h.elim
  | ok m w' =>
    cases m <;> simp only [Oper.upon] at h <;> simp only [Oper.uponIn] <;> first
      | exact h
      | exact h.elim
      | exact ⟨(fun hh=>by cases hh),callsFW (Calls.mono h (fun e w'' he=>by cases e with | returned v=>exact he | panicked c=>exact he.elim | outgrown=>exact (z4j he).elim))⟩
      | (refine ⟨(fun hh => by cases hh), fun c cs _ => ?_⟩
         obtain ⟨v,w2,h1,h2⟩:=h c cs
         exact ⟨v,w2,h1,(stepsIn_wide (P:=P)).2 h2⟩)
theorem wpOpIn_of_opWp {i:Nat} {a:Act} {w:World} {K:Act->World->Prop} {Q:Exit->Act->World->Prop} (hd:∀ o c,ops[i]? = some o->o.op ≠ .defer c) (h:zi2 P ops i K a w):wpOpIn (FW r) n P ops Q i K a w:=by
 unfold zi2 wpOp at h
 unfold wpOpIn
 cases ho:ops[i]? with
 | none=>simpa [ho] using h
 | some o =>
  simp only [ho] at h ⊢
  split
  ·rename_i hw
   simp only [hw,if_true] at h
   rcases h with h | ⟨_,h⟩
   ·exact opIn (hd o · ho) h
   ·exact (z4j h).elim
  ·rename_i hw
   simp only [hw] at h
   exact ⟨fun _ _=>trivial,h⟩
theorem wpAnyIn_of_wpT {fl:Nat->Bool} {F:Act->World->Prop} {Q:Exit->Act->World->Prop} (hd:∀ (i:Nat) o c,ops[i]? = some o->o.op ≠ .defer c) (hF:∀ a' w',F a' w'->Q .normal a' w'):∀ {k:Nat} {d:List Nat} {listed:Array Bool} {a:Act} {w:World},listed.size=ops.size ->
  (∀ i,i<ops.size->(listed.getD i true=true ↔ i ∈ d))->(∀ o ∈ ops,∀ e ∈ o.after,Region.binds .any e=true->e.on<ops.size)->wpT P ops fl F k d a w->wpAnyIn (FW r) n P .any ops Q k listed a w:=by
 have hr:∀ {d:List Nat} {listed:Array Bool},listed.size=ops.size->(∀ i,i<ops.size->(listed.getD i true=true ↔ i ∈ d))->(∀ o ∈ ops,∀ e ∈ o.after,Region.binds .any e=true->e.on<ops.size) ->
   ∀ j,j ∈ Region.ready .any ops listed ↔ Rdy ops d j:=by
  intro d listed hsz hl hb j
  rw [mem_ready]
  unfold Rdy
  constructor
  ·rintro ⟨h1,o,ho,h2⟩
   have hj:=(Array.getElem?_eq_some_iff.1 ho).1
   refine ⟨fun h=>?_,o,ho,fun e he hbe=>?_⟩
   ·rw [(hl j hj).2 h] at h1; cases h1
   ·have he':=hb o (Array.mem_of_getElem? ho) e he hbe
    refine (hl _ he').1 ?_
    have:=h2 e he hbe
    have hlt:e.on<listed.size:=by omega
    simp only [Array.getD,hlt,dite_true] at this ⊢
    exact this
  ·rintro ⟨h1,o,ho,h2⟩
   have hj:=(Array.getElem?_eq_some_iff.1 ho).1
   refine ⟨?_,o,ho,fun e he hbe=>?_⟩
   ·cases hc:listed.getD j true with
    | false=>rfl
    | true=>exact absurd ((hl j hj).1 hc) h1
   ·have he':=hb o (Array.mem_of_getElem? ho) e he hbe
    have:=(hl _ he').2 (h2 e he hbe)
    have hlt:e.on<listed.size:=by omega
    simp only [Array.getD,hlt,dite_true] at this ⊢
    exact this
 intro k
 induction k with
 | zero =>
  intro d listed a w hsz hl hb h
  refine ⟨List.eq_nil_iff_forall_not_mem.2 fun j hj=>h.1 j ((hr hsz hl hb j).1 hj),hF _ _ h.2⟩
 | succ k ih =>
  intro d listed a w hsz hl hb h
  refine ⟨fun h0=>hF _ _ (h.1 fun j hj=>?_),fun j hj=>?_⟩
  ·have:=(hr hsz hl hb j).2 hj
   rw [h0] at this; cases this
  ·have hj':=(hr hsz hl hb j).1 hj
   refine wpOpIn_of_opWp (fun o c=>hd j o c) (z38 (fun a' w' hk=>ih (by simpa using hsz) (fun i hi=>?_) hb hk.2) (h.2 j hj'))
   have hjlt:j<ops.size:=(Array.getElem?_eq_some_iff.1 hj'.2.choose_spec.1).1
   by_cases hij:j=i
   ·subst hij
    have:j<listed.size:=by omega
    simp [this]
   ·rw [getD_set_ne true hij,hl i hi]
    simp [Ne.symm hij]
theorem tree_specIn {fl:Nat->Bool} (hd:∀ (i:Nat) o c,ops[i]? = some o->o.op ≠ .defer c) (h:treeOk P ops=true) {eag:Nat->Bool} (he:∀ q,eag q=true->eager P ops (ancs ops) fl q=true) {Q:Exit->Act->World->Prop} {id:Nat} {a:Act} {w:World} (hm:P.follows .mixedOrders=true)
  (hw:wpC P ops fl eag (fun a' w'=>z78 ops a'/\Q .normal a' w') ops.size [] a { w with drawn:=w.drawn+1 }):(Code.region id ops true).wpIn (FW r) n P Q a w:=by
 have hS:Static P ops (ancs ops):=static_of h
 refine wpIn_region_any hm ?_
 refine wpAnyIn_of_wpT hd (fl:=fl) (d:=[]) (fun a' w' hh=>hh.2) (by simp) (fun i hi=>by simp [hi]) (fun o ho e he hb=>?_) (zgv hS (fun _ _ h=>h.1) (fun q hq=>eager_ok (he q hq)) (fun p hp=>by cases hp) hw)
 obtain ⟨i,hi,rfl⟩:=Array.mem_iff_getElem.1 ho
 exact (hS.edge i _ (Array.getElem?_eq_getElem hi) e he hb).1
end
section
variable {P:Program} {b:Frame} {a:Act} {k:List Item} {cs:List Frame} {w:World} {Q:Exit->Act->World->Prop} {F:Fence} {n:Nat}
theorem z5g {c:Code}:step P (lone (b.atR a (.code (.scope c) :: k)) cs w) = .next (lone (b.atR a (.code c :: .inScope c :: k)) cs w) :=
 step_lone_go (by simp [stepG,stepG.exec,Frame.atR])
theorem stepR_inScope {c:Code}:step P (lone (b.atR a (.inScope c :: k)) cs w) = .next (lone (b.atR a k) cs w) :=
 step_lone_go (by simp [stepG,stepG.exec,Frame.atR])
theorem zcv {c:Code} (h:c.wpIn F n P (Exit.noGoto Q) a w):(Code.scope c).wpIn F n P Q a w:=by
 intro b k cs hro hb hr
 have h0:(lone (b.atR a (.code (.scope c) :: k)) cs w).fenced P F:=fenced_calm hb hr rfl
 obtain ⟨e,a₁,w₁,hq,harr⟩:=h b (.inScope c :: k) cs hro hb hr
 cases e with
 | normal=>exact ⟨.normal,a₁,w₁,hq,.head h0 z5g (StepsIn.trans harr (.one (fenced_calm hb hr rfl) stepR_inScope))⟩
 | exit id =>
  have hx:exitTo id (.inScope c :: k)=exitTo id k:=by simp [exitTo]
  exact ⟨.exit id,a₁,w₁,hq,fun k' hk=>.head h0 z5g (harr.1 k' (by rw [hx]; exact hk)),fun hr' hk=>let ⟨k₁,h1,h2⟩:=harr.2 hr' (by rw [hx]; exact hk); ⟨k₁,h1,.head h0 z5g h2⟩⟩
 | goto l=>exact hq.elim
 | ret=>exact ⟨_,a₁,w₁,hq,.of_steps (.one h0 z5g) harr⟩
 | panic ch=>exact ⟨_,a₁,w₁,hq,.of_steps (.one h0 z5g) harr⟩
 | outgrown=>exact ⟨_,a₁,w₁,hq,.of_steps (.one h0 z5g) harr⟩
end
end Go.Draw
end
end
section
section
namespace Go.Ql
open Go Go.RowKit
def RowR {α:Type} (enc:α->Value) (w:World) (B:Nat) (A:Option Addr) (xs:List α):Prop :=
 0<xs.length->∃ b off,A=some ⟨b,off,none⟩/\b<B/\∀ i x,xs[i]? = some x->w.cell? ⟨b,off+i,none⟩=some (enc x)
theorem RowR.at_ {α:Type} {enc:α->Value} {w:World} {B:Nat} {A:Option Addr} {xs:List α} (h:RowR enc w B A xs) {k:Nat} (hk:k<xs.length) :
  ∃ b off,A=some ⟨b,off,none⟩/\b<B/\w.cell? ⟨b,off+k,none⟩=some (enc xs[k]):=by
 obtain ⟨b,off,e,hb,hc⟩:=h (by omega)
 exact ⟨b,off,e,hb,hc k _ (List.getElem?_eq_getElem hk)⟩
theorem RowR.keep {α:Type} {enc:α->Value} {w w':World} {B B':Nat} {A:Option Addr} {xs:List α} (h:RowR enc w B A xs) (hb:Below B' w w') (hB:B <= B'):RowR enc w' B A xs:=by
 intro hn
 obtain ⟨b,off,e,hlt,hc⟩:=h hn
 exact ⟨b,off,e,hlt,fun i x hx=>(hb.cell (p:=⟨b,off+i,none⟩) (Nat.lt_of_lt_of_le hlt hB)).trans (hc i x hx)⟩
theorem RowR.more {α:Type} {enc:α->Value} {w:World} {B B':Nat} {A:Option Addr} {xs:List α} (h:RowR enc w B A xs) (hB:B <= B'):RowR enc w B' A xs:=by
 intro hn
 obtain ⟨b,off,e,hlt,hc⟩:=h hn
 exact ⟨b,off,e,by omega,hc⟩
theorem RowR.nil {α:Type} {enc:α->Value} {w:World} {B:Nat} {A:Option Addr}:RowR enc w B A ([]:List α):=fun h=>absurd h (by simp)
def Has (w:World) (g:Nat) (t:TypeId) (cs:Array Value):Prop:=w.heap[g]? = some (.cells cs t (0,0))
section
variable {w w':World} {g:Nat} {t:TypeId} {cs:Array Value}
theorem Has.lt (h:Has w g t cs):g<w.heap.size:=(Array.getElem?_eq_some_iff.1 h).1
theorem Has.cell (h:Has w g t cs) (i:Nat):w.cell? ⟨g,i,none⟩=cs[i]?:=cell_of_row w g i cs t (0,0) h
theorem Has.new (w:World) (t:TypeId) (cs:Array Value):Has (w.alloc (.cells cs t)) w.heap.size t cs:=heap_alloc_new w _
theorem Has.drew (h:Has w g t cs):Has w.drew g t cs:=h
theorem Has.alloc (h:Has w g t cs) (o:Obj):Has (w.alloc o) g t cs:=((World.grownBy_alloc w o none).block g h.lt (by simp)).trans h
theorem Has.set (h:Has w g t cs) (i:Nat) (u:Value):Has (w.setCell ⟨g,i,none⟩ u) g t (cs.setIfInBounds i u):=by
 unfold Has at h ⊢
 simp [World.setCell,Array.getElem?_modify,h]
theorem heap_set_other (w:World) (p:Addr) (u:Value) (g:Nat) (hp:g ≠ p.block):(w.setCell p u).heap[g]? = w.heap[g]?:=by
 simp only [World.setCell,Array.getElem?_modify]
 rw [if_neg (fun e=>hp e.symm)]
theorem Has.grown {row:Option Nat} (h:Has w g t cs) (hb:w.grownBy w' row) (hg:some g ≠ row):Has w' g t cs:=(hb.block g h.lt hg).trans h
end
theorem zh9 {w:World} {b b' e size n:Nat} {v:Value} {xs:List Value} (h:w.ownsRow b e size v n xs) (hb:b' <= b):w.ownsRow b' e size v n xs:=by
 refine ⟨h.1,h.2.imp id ?_⟩
 rintro ⟨g,cap,cur,hv,hg,rest⟩
 exact ⟨g,cap,cur,hv,by omega,rest⟩
structure FrB (B:Nat) (S:List Nat) (a w:World):Prop where
 os:w.os=a.os
 tape:w.tape=a.tape
 output:w.output=a.output
 size:a.heap.size <= w.heap.size
 block:∀ k,k<B->k ∉ S->w.heap[k]? = a.heap[k]?
section
variable {B:Nat} {S:List Nat} {a w w':World}
theorem FrB.refl (B:Nat) (S:List Nat) (a:World):FrB B S a a:=⟨rfl,rfl,rfl,Nat.le_refl _,fun _ _ _=>rfl⟩
theorem FrB.drew (h:FrB B S a w):FrB B S a w.drew:=⟨h.os,h.tape,h.output,h.size,h.block⟩
theorem FrB.alloc (h:FrB B S a w) (hB:B <= w.heap.size) (o:Obj):FrB B S a (w.alloc o) :=
 ⟨h.os,h.tape,h.output,Nat.le_trans h.size (by simp),fun k hk hs=>((World.grownBy_alloc w o none).block k (by omega) (by simp)).trans (h.block k hk hs)⟩
theorem FrB.set (h:FrB B S a w) {p:Addr} (hp:p.block ∈ S ∨ B <= p.block) (u:Value):FrB B S a (w.setCell p u) :=
 ⟨h.os,h.tape,h.output,by simpa [World.setCell] using h.size,fun k hk hs=>(heap_set_other w p u k (by rintro rfl; rcases hp with hp | hp; exact hs hp; omega)).trans (h.block k hk hs)⟩
theorem FrB.grown (h:FrB B S a w) {row:Option Nat} (hg:w.grownBy w' row) (hB:B <= w.heap.size) (hr:∀ g,row=some g->B <= g ∨ g ∈ S):FrB B S a w' :=
 ⟨hg.os.trans h.os,hg.tape.trans h.tape,hg.output.trans h.output,Nat.le_trans h.size hg.size,fun k hk hs=>(hg.block k (by omega) (fun e=>by rcases hr k e.symm with h | h; omega; exact hs h)).trans (h.block k hk hs)⟩
end
end Go.Ql
end
section
namespace Go.Ql
open Go Go.RowKit
structure Arc where
 src:Int
 dst:Int
 low:Int
 cap:Int
 cost:Int
deriving DecidableEq
structure Inst where
 sup:List Int
 arcs:List Arc
deriving DecidableEq
def i64 (n:Int):Value:=.int .i64 n
def u8 (n:Int):Value:=.int .u8 n
def Arc.val (a:Arc):Value:=.agg #[.int .i64 a.src,.int .i64 a.dst,.int .i64 a.low,.int .i64 a.cap,.int .i64 a.cost]
def Arc.cells (a:Arc):List Value:=[.int .i64 a.src,.int .i64 a.dst,.int .i64 a.low,.int .i64 a.cap,.int .i64 a.cost]
def ArcAt (w:World) (b o:Nat) (a:Arc):Prop :=
 w.cell? ⟨b,o,none⟩=some (.int .i64 a.src)/\w.cell? ⟨b,o+1,none⟩=some (.int .i64 a.dst) /\
 w.cell? ⟨b,o+2,none⟩=some (.int .i64 a.low)/\w.cell? ⟨b,o+3,none⟩=some (.int .i64 a.cap) /\
 w.cell? ⟨b,o+4,none⟩=some (.int .i64 a.cost)
def ArcsR (w:World) (B:Nat) (A:Option Addr) (xs:List Arc):Prop :=
 0<xs.length->∃ b off,A=some ⟨b,off,none⟩/\b<B/\∀ i x,xs[i]? = some x->ArcAt w b (off+i * 5) x
theorem ArcsR.at_ {w:World} {B:Nat} {A:Option Addr} {xs:List Arc} (h:ArcsR w B A xs) {k:Nat} (hk:k<xs.length) :
  ∃ b off,A=some ⟨b,off,none⟩/\b<B/\ArcAt w b (off+k * 5) xs[k]:=by
 obtain ⟨b,off,e,hb,hc⟩:=h (by omega)
 exact ⟨b,off,e,hb,hc k _ (List.getElem?_eq_getElem hk)⟩
theorem ArcAt.keep {w w':World} {B b o:Nat} {a:Arc} (h:ArcAt w b o a) (hb:Below B w w') (hB:b<B):ArcAt w' b o a:=by
 have hh:∀ o,w'.cell? ⟨b,o,none⟩=w.cell? ⟨b,o,none⟩:=fun o=>hb.cell (p:=⟨b,o,none⟩) hB
 unfold ArcAt at *
 rw [hh,hh,hh,hh,hh]
 exact h
theorem ArcsR.keep {w w':World} {B B':Nat} {A:Option Addr} {xs:List Arc} (h:ArcsR w B A xs) (hb:Below B' w w') (hB:B <= B'):ArcsR w' B A xs:=by
 intro hn
 obtain ⟨b,off,e,hlt,hc⟩:=h hn
 exact ⟨b,off,e,hlt,fun i x hx=>(hc i x hx).keep hb (by omega)⟩
theorem ArcsR.more {w:World} {B B':Nat} {A:Option Addr} {xs:List Arc} (h:ArcsR w B A xs) (hB:B <= B'):ArcsR w B' A xs:=by
 intro hn
 obtain ⟨b,off,e,hlt,hc⟩:=h hn
 exact ⟨b,off,e,by omega,hc⟩
theorem ArcsR.nil {w:World} {B:Nat} {A:Option Addr}:ArcsR w B A []:=fun h=>absurd h (by simp)
def InstR (w:World) (B:Nat) (v:Value) (I:Inst):Prop :=
 ∃ A c A' c',v = .agg #[.slice A I.sup.length c,.slice A' I.arcs.length c']/\RowR i64 w B A I.sup/\ArcsR w B A' I.arcs
theorem InstR.keep {w w':World} {B B':Nat} {v:Value} {I:Inst} (h:InstR w B v I) (hb:Below B' w w') (hB:B <= B'):InstR w' B v I:=by
 obtain ⟨A,c,A',c',e,h1,h2⟩:=h
 exact ⟨A,c,A',c',e,h1.keep hb hB,h2.keep hb hB⟩
theorem InstR.more {w:World} {B B':Nat} {v:Value} {I:Inst} (h:InstR w B v I) (hB:B <= B'):InstR w B' v I:=by
 obtain ⟨A,c,A',c',e,h1,h2⟩:=h
 exact ⟨A,c,A',c',e,h1.more hB,h2.more hB⟩
def z0f (a:Arc) (n:Int):Int :=
 if ¬ (0 <= a.src/\a.src<n) ∨ ¬ (0 <= a.dst/\a.dst<n) then 21
 else if a.low<0 ∨ 4398046511104<a.low then 22
 else if a.cap ≠ 4611686018427387904/\(a.cap<a.low ∨ 4398046511104<a.cap) then 22
 else if a.cost < -4398046511104 ∨ 4398046511104<a.cost then 23
 else 0
def z16 (n:Int):List Arc->Int
 | []=>0
 | a :: r=>if z0f a n=0 then z16 n r else z0f a n
def z1o:List Int->Int->Int
 | [],s=>if s=0 then 0 else 25
 | x :: r,s=>if x < -4398046511104 ∨ 4398046511104<x then 24 else z1o r (s+x)
def z02 (I:Inst):Int :=
 if 64<I.sup.length ∨ 256<I.arcs.length then 20
 else if z16 I.sup.length I.arcs=0 then z1o I.sup 0 else z16 I.sup.length I.arcs
instance:Inhabited Arc:=⟨⟨0,0,0,0,0⟩⟩
def arcOf (x0 x1 x2 x3 many:Int):Arc :=
 if x3 % 8=0 then ⟨x0 % many,x0 / 16 % many,x1 % 3,4611686018427387904,x2 % 21 - 8⟩
 else if x3 % 8=1 then ⟨x0 % many,x0 / 16 % many,0,x1 % 3+x1 / 3 % 6,x2 % 21 - 8⟩
 else if x3 % 8=2 then ⟨x0 % many,x0 / 16 % many,x1 % 3,x1 % 3+x1 / 3 % 6,0⟩
 else ⟨x0 % many,x0 / 16 % many,x1 % 3,x1 % 3+x1 / 3 % 6,x2 % 21 - 8⟩
def z5x (c:List Int) (many:Int):Nat->Nat->List Arc
 | 0,_=>[]
 | f+1,k=>if k+3<c.length then arcOf (c.getD k 0) (c.getD (k+1) 0) (c.getD (k+2) 0) (c.getD (k+3) 0) many :: z5x c many f (k+4) else []
def z24 (c:List Int) (many:Int):List Arc:=z5x c many 18 0
theorem arcsGo_len (c:List Int) (many:Int):∀ f k,(z5x c many f k).length <= f
 | 0,_=>by simp [z5x]
 | f+1,k=>by
  unfold z5x
  split
  ·have:=arcsGo_len c many f (k+4); simp; omega
  ·simp
def addAt (s:List Int) (k:Nat) (x:Int):List Int:=s.set k (s.getD k 0+x)
def zb7 (d:List Int) (k:Nat) (a:Arc):Int:=if k+1<d.length then min (a.low+d.getD (k+1) 0 % 4) a.cap else a.low
def zcp (d:List Int):List Arc->Nat->List Int->List Int
 | [],_,s=>s
 | a :: l,k,s=>zcp d l (k+1) (addAt (addAt s a.src.toNat (zb7 d k a)) a.dst.toNat (-(zb7 d k a)))
def nOf (d:List Int):Nat:=if 0<d.length then 1+(d.getD 0 0 % 7).toNat else 1
def sup1 (c d:List Int):List Int:=zcp d (z24 c (nOf d)) 0 (List.replicate (nOf d) 0)
def z09 (c d:List Int):Inst :=
  { sup:=if 1<d.length/\d.getD (d.length - 1) 0 % 5=0 then addAt (addAt (sup1 c d) 0 (d.getD 1 0 % 3)) (nOf d - 1) (-(d.getD 1 0 % 3)) else sup1 c d
    arcs:=z24 c (nOf d) }
def Bytes (c:List Int):Prop:=∀ x ∈ c,0 <= x/\x <= 255
theorem Bytes.getD {c:List Int} (h:Bytes c) (k:Nat):0 <= c.getD k 0/\c.getD k 0 <= 255:=by
 by_cases hk:k<c.length
 ·have:=h _ (List.getElem_mem hk)
  simpa [List.getD,hk] using this
 ·simp [List.getD,hk]
theorem z14 (s:List Int) (k:Nat) (x:Int):(addAt s k x).length=s.length:=by simp [addAt]
theorem supGo_len (d:List Int):∀ (l:List Arc) (k:Nat) (s:List Int),(zcp d l k s).length=s.length
 | [],_,_=>rfl
 | a :: l,k,s=>by rw [zcp,supGo_len d l,z14,z14]
theorem z9l (d:List Int):1 <= nOf d:=by unfold nOf; split <;> omega
theorem zku (d:List Int):nOf d <= 7:=by
 unfold nOf; split <;> omega
theorem sup1_len (c d:List Int):(sup1 c d).length=nOf d:=by simp [sup1,supGo_len]
theorem z7k (c d:List Int):(z09 c d).sup.length=nOf d:=by
 unfold z09; dsimp only; split <;> simp [z14,sup1_len]
theorem zjg (c:List Int) (many:Int):(z24 c many).length <= 18:=arcsGo_len _ _ _ _
structure Arc.Nice (many:Int) (a:Arc):Prop where
 s0:0 <= a.src
 s1:a.src<many
 d0:0 <= a.dst
 d1:a.dst<many
 l0:0 <= a.low
 l1:a.low <= 2
 c0:a.low <= a.cap
 c1:a.cap <= 7 ∨ a.cap=4611686018427387904
 k0:-8 <= a.cost
 k1:a.cost <= 12
theorem arcOf_nice (x0 x1 x2 x3 many:Int) (hm:1 <= many):(arcOf x0 x1 x2 x3 many).Nice many:=by
 have a1:=Int.emod_nonneg x0 (b:=many) (by omega)
 have a2:=Int.emod_lt_of_pos x0 (show 0<many by omega)
 have a3:=Int.emod_nonneg (x0 / 16) (b:=many) (by omega)
 have a4:=Int.emod_lt_of_pos (x0 / 16) (show 0<many by omega)
 unfold arcOf
 split
 ·constructor <;> dsimp only <;> first | assumption | omega
 ·split
  ·constructor <;> dsimp only <;> first | assumption | omega
  ·split
   ·constructor <;> dsimp only <;> first | assumption | omega
   ·constructor <;> dsimp only <;> first | assumption | omega
theorem zjh (c:List Int) (many:Int) (hm:1 <= many):∀ f k,∀ a ∈ z5x c many f k,a.Nice many
 | 0,_=>by simp [z5x]
 | f+1,k=>by
  unfold z5x
  split
  ·intro a ha
   cases ha with
   | head=>exact arcOf_nice _ _ _ _ _ hm
   | tail _ h=>exact zjh c many hm f (k+4) a h
  ·simp
theorem zai (c:List Int) (many:Int) (hm:1 <= many):∀ a ∈ z24 c many,a.Nice many:=zjh c many hm 18 0
theorem useOf_ok {d:List Int} {k:Nat} {a:Arc} {m:Int} (h:a.Nice m):0 <= zb7 d k a/\zb7 d k a <= 5:=by
 have:=h.l0; have:=h.l1; have:=h.c0
 unfold zb7; split <;> omega
def Within (b:Int) (s:List Int):Prop:=∀ x ∈ s,-b <= x/\x <= b
theorem Within.getD {b:Int} {s:List Int} (h:Within b s) (hb:0 <= b) (k:Nat):-b <= s.getD k 0/\s.getD k 0 <= b:=by
 by_cases hk:k<s.length
 ·have:=h _ (List.getElem_mem hk)
  simpa [List.getD,hk] using this
 ·simp [List.getD,hk]; omega
theorem Within.addAt {b x y:Int} {s:List Int} (h:Within b s) (hb:0 <= b) (k:Nat) (hx:-y <= x) (hy:x <= y):Within (b+y) (addAt s k x):=by
 intro z hz
 have hg:=h.getD hb k
 rcases List.mem_or_eq_of_mem_set hz with hz | rfl
 ·have:=h z hz; omega
 ·omega
theorem Within.more {b b':Int} {s:List Int} (h:Within b s) (hb:b <= b'):Within b' s:=fun x hx=>by have:=h x hx; omega
theorem zhh {m:Int} (d:List Int):∀ (l:List Arc) (k:Nat) (s:List Int) (b:Int),0 <= b->Within b s->(∀ a ∈ l,a.Nice m)->Within (b+10 * l.length) (zcp d l k s)
 | [],_,s,b,_,h,_=>by simpa [zcp] using h
 | a :: l,k,s,b,hb,h,hn=>by
  have hu:=useOf_ok (d:=d) (k:=k) (hn a (by simp))
  have h1:=(h.addAt hb a.src.toNat (y:=5) (by omega) hu.2).addAt (by omega) a.dst.toNat (x:=-(zb7 d k a)) (y:=5) (by omega) (by omega)
  have:=zhh d l (k+1) _ _ (by omega) h1 (fun a ha=>hn a (by simp [ha]))
  rw [zcp]
  refine this.more ?_
  simp only [List.length_cons]; omega
theorem z4i (c d:List Int):Within 184 (z09 c d).sup:=by
 have h0:Within 0 (List.replicate (nOf d) 0):=fun x hx=>by simp [List.mem_replicate] at hx; omega
 have h1:=zhh d (z24 c (nOf d)) 0 _ 0 (by omega) h0 (zai c _ (by have:=z9l d; omega))
 have hl:=zjg c (nOf d)
 have h2:Within 180 (sup1 c d):=h1.more (by omega)
 unfold z09
 dsimp only
 split
 ·have hm:0 <= d.getD 1 0 % 3/\d.getD 1 0 % 3 <= 2:=by omega
  exact ((h2.addAt (by omega) 0 (y:=2) (by omega) hm.2).addAt (by omega) _ (y:=2) (by omega) (by omega)).more (by omega)
 ·exact h2.more (by omega)
theorem z5a (c d:List Int):∀ a ∈ (z09 c d).arcs,a.Nice (nOf d):=zai c _ (by have:=z9l d; omega)
theorem z65 (c d:List Int):(z09 c d).arcs.length <= 18:=zjg _ _
end Go.Ql
end
end
