/- Part of the proof: Vc1. -/
import Derived.Test.YtggblkbecekbdaaGreatZG1
import Derived.Laws.MakeOwn
import Derived.RangeFuncRecord
set_option linter.all false
set_option linter.unusedSimpArgs false
set_option linter.unusedVariables false
section
namespace Go.Ql
structure Wide where
 hi:Int
 lo:Int
deriving DecidableEq
end Go.Ql
namespace Go.Vc
open Go Go.RowKit Go.Ql Go.Draw
inductive SV where
 | int (k:IntKind) (n:Int)
 | tt
 | ff
 | bool (b:Bool)
 | row (key:Nat)
 | ptr (key w idx fld:Nat)
 | agg (l:List SV)
 | tup (l:List SV)
 | fn (f:FuncId) (caps:List SV)
 | val (v:Value)
 | mth (f:FuncId) (first:List SV)
def z3x:Value->Addr
 | .pointer (some a)=>a
 | .slice (some a) _ _=>a
 | _=>⟨0,0,none⟩
mutual
def SV.toV (ρ:Nat->Value):SV->Value
 | .int k n=>.int k n
 | .tt=>.bool true
 | .ff=>.bool false
 | .bool b=>.bool b
 | .row key=>ρ key
 | .ptr key w idx fld=>.pointer (some ⟨(z3x (ρ key)).block,(z3x (ρ key)).off+(idx * w+fld),none⟩)
 | .agg l=>.agg (z0s ρ l).toArray
 | .tup l=>.tuple (z0s ρ l).toArray
 | .fn f caps=>.func (.func f) #[] (z0s ρ caps).toArray
 | .val v=>v
 | .mth f first=>.func (.func f) (z0s ρ first).toArray #[]
def z0s (ρ:Nat->Value):List SV->List Value
 | []=>[]
 | s :: l=>s.toV ρ :: z0s ρ l
end
mutual
def SV.kb (n:Nat):SV->Bool
 | .row key=>Nat.blt key n
 | .ptr key _ _ _=>Nat.blt key n
 | .agg l=>kbs n l
 | .tup l=>kbs n l
 | .fn _ caps=>kbs n caps
 | .mth _ l=>kbs n l
 | _=>true
def kbs (n:Nat):List SV->Bool
 | []=>true
 | s :: l=>s.kb n && kbs n l
end
def SV.one:SV->Bool
 | .agg _=>false
 | .tup _=>false
 | .val v=>v.oneCell'
 | _=>true
def SV.cells:SV->List SV
 | .agg l=>l
 | s=>[s]
def kEq (a b:IntKind):Bool:=decide (a=b)
inductive MK where
 | bool
 | int (k:IntKind)
 | fn
def fnV (n:Int):Value:=if n=0 then .nilFunc else .func (.func (n.toNat - 1)) #[] #[]
def MK.enc:MK->Int->Value
 | .bool,n=>.bool (n == 1)
 | .int k,n=>.int k n
 | .fn,n=>fnV n
def MK.sv:MK->Int->SV
 | .bool,n=>.bool (n == 1)
 | .int k,n=>.int k n
 | .fn,n=>.val (fnV n)
def MK.eq:MK->MK->Bool
 | .bool,.bool=>true
 | .int k,.int k'=>kEq k k'
 | .fn,.fn=>true
 | _,_=>false
def z9k:List MK->List MK->Bool
 | [],[]=>true
 | a :: l,b :: m=>a.eq b && z9k l m
 | _,_=>false
def recS:List MK->List Int->List SV
 | [],_=>[]
 | k :: ks,x=>k.sv (x.headD 0) :: recS ks x.tail
def recV:List MK->List Int->List Value
 | [],_=>[]
 | k :: ks,x=>k.enc (x.headD 0) :: recV ks x.tail
def z81 (k:MK) (ks:List MK):List MK:=(k :: ks).take 5
def lenL {α:Type}:List α->Nat
 | []=>0
 | _ :: l=>lenL l+1
def zs0 {α:Type}:List α->List Int
 | []=>[]
 | _ :: l=>0 :: zs0 l
inductive RK where
 | int (k:IntKind)
 | bool
 | arc
 | wide
 | fn
 | recs (k:MK) (ks:List MK)
 | slice (it:TypeId) (r:RK)
 | obj (v:Value) (vs:List Value)
def fiveV (v:Value) (vs:List Value):List Value:=(v :: vs).take 5
def zjl:List Value->List MK
 | []=>[]
 | _ :: l=>.bool :: zjl l
def RK.width:RK->Nat
 | .int _=>1
 | .bool=>1
 | .arc=>5
 | .wide=>2
 | .fn=>1
 | .recs k ks=>lenL (z81 k ks)
 | .slice _ _=>1
 | .obj v vs=>lenL (fiveV v vs)
def RK.isFn:RK->Bool
 | .obj _ _=>true
 | .fn=>true
 | .slice _ _=>true
 | _=>false
def RK.zero:RK->Value
 | .int k=>.int k 0
 | .bool=>.bool false
 | .arc=>.agg #[.int .i64 0,.int .i64 0,.int .i64 0,.int .i64 0,.int .i64 0]
 | .wide=>.agg #[.int .i64 0,.int .u64 0]
 | .fn=>.nilFunc
 | .recs k ks=>.agg (recV (z81 k ks) []).toArray
 | .slice _ _=>.slice none 0 0
 | .obj v vs=>.agg (fiveV v vs).toArray
def z7i (x:Arc):List SV:=[.int .i64 x.src,.int .i64 x.dst,.int .i64 x.low,.int .i64 x.cap,.int .i64 x.cost]
def z0v (x:Wide):List SV:=[.int .i64 x.hi,.int .u64 x.lo]
def Wide.cells (x:Wide):List Value:=[.int .i64 x.hi,.int .u64 x.lo]
inductive Row where
 | ints (k:IntKind) (xs:List Int)
 | bools (xs:List Bool)
 | arcs (xs:List Arc)
 | wides (xs:List Wide)
 | recs (k:MK) (ks:List MK) (xs:List (List Int))
def Row.len:Row->Nat
 | .ints _ xs=>xs.length
 | .bools xs=>xs.length
 | .arcs xs=>xs.length
 | .wides xs=>xs.length
 | .recs _ _ xs=>xs.length
def Row.width:Row->Nat
 | .ints _ _=>1
 | .bools _=>1
 | .arcs _=>5
 | .wides _=>2
 | .recs k ks _=>lenL (z81 k ks)
def Row.cells:Row->List Value
 | .ints k xs=>xs.map (.int k ·)
 | .bools xs=>xs.map .bool
 | .arcs xs=>xs.flatMap Arc.cells
 | .wides xs=>xs.flatMap Wide.cells
 | .recs k ks xs=>xs.flatMap (recV (z81 k ks))
def RK.empty:RK->Row
 | .int k=>.ints k []
 | .bool=>.bools []
 | .arc=>.arcs []
 | .wide=>.wides []
 | .fn=>.ints .i64 []
 | .recs k ks=>.recs k ks []
 | .slice _ _=>.ints .i64 []
 | .obj _ vs=>.recs .bool (zjl vs) []
def RK.many (n:Nat):RK->Row
 | .int k=>.ints k (List.replicate n 0)
 | .bool=>.bools (List.replicate n false)
 | .arc=>.arcs (List.replicate n ⟨0,0,0,0,0⟩)
 | .wide=>.wides (List.replicate n ⟨0,0⟩)
 | .fn=>.ints .i64 (List.replicate n 0)
 | .recs k ks=>.recs k ks (List.replicate n (zs0 (z81 k ks)))
 | .slice _ _=>.ints .i64 (List.replicate n 0)
 | .obj _ vs=>.recs .bool (zjl vs) (List.replicate n (zs0 (z81 .bool (zjl vs))))
def Row.get (r:Row) (i:Nat) (K:List SV->Prop):Prop :=
 match r with
 | .ints k xs=>i<xs.length/\∀ x,xs[i]? = some x->K [.int k x]
 | .bools xs=>i<xs.length/\∀ x,xs[i]? = some x->K [.bool x]
 | .arcs xs=>i<xs.length/\∀ x,xs[i]? = some x->K (z7i x)
 | .wides xs=>i<xs.length/\∀ x,xs[i]? = some x->K (z0v x)
 | .recs k ks xs=>i<xs.length/\∀ x,xs[i]? = some x->K (recS (z81 k ks) x)
def zb9:SV->Option Bool
 | .tt=>some true
 | .ff=>some false
 | .bool b=>some b
 | _=>none
def valS (vk:MK) (v:SV):Option Int:=match vk,v with
 | .bool,v=>match zb9 v with
  | some b=>some (bif b then 1 else 0)
  | none=>none
 | .int k,.int k' n=>bif kEq k k' then some n else none
 | .fn,.fn g []=>some ((g:Int)+1)
 | _,_=>none
def valsS:List MK->List SV->Option (List Int)
 | [],[]=>some []
 | k :: ks,v :: vs=>match valS k v with
  | some n=>match valsS ks vs with
   | some l=>some (n :: l)
   | none=>none
  | none=>none
 | _,_=>none
def Row.set (r:Row) (i fld:Nat) (vs:List SV) (K:Row->Prop):Prop :=
 match r with
 | .ints k xs=>match fld,vs with
  | 0,[.int k' n]=>bif kEq k k' then i<xs.length/\K (.ints k (xs.set i n)) else False
  | _,_=>False
 | .bools xs=>match fld,vs with
  | 0,[.tt]=>i<xs.length/\K (.bools (xs.set i true))
  | 0,[.ff]=>i<xs.length/\K (.bools (xs.set i false))
  | 0,[.bool b]=>i<xs.length/\K (.bools (xs.set i b))
  | _,_=>False
 | .arcs xs=>match fld,vs with
  | 0,[.int .i64 a,.int .i64 b,.int .i64 c,.int .i64 d,.int .i64 e]=>i<xs.length/\K (.arcs (xs.set i ⟨a,b,c,d,e⟩))
  | 0,[.int .i64 n]=>i<xs.length/\∀ x,xs[i]? = some x->K (.arcs (xs.set i { x with src:=n }))
  | 1,[.int .i64 n]=>i<xs.length/\∀ x,xs[i]? = some x->K (.arcs (xs.set i { x with dst:=n }))
  | 2,[.int .i64 n]=>i<xs.length/\∀ x,xs[i]? = some x->K (.arcs (xs.set i { x with low:=n }))
  | 3,[.int .i64 n]=>i<xs.length/\∀ x,xs[i]? = some x->K (.arcs (xs.set i { x with cap:=n }))
  | 4,[.int .i64 n]=>i<xs.length/\∀ x,xs[i]? = some x->K (.arcs (xs.set i { x with cost:=n }))
  | _,_=>False
 | .wides xs=>match fld,vs with
  | 0,[.int .i64 a,.int .u64 b]=>i<xs.length/\K (.wides (xs.set i ⟨a,b⟩))
  | _,_=>False
 | .recs k ks xs=>match fld,valsS (z81 k ks) vs with
  | 0,some a=>i<xs.length/\K (.recs k ks (xs.set i a))
  | _,_=>False
def Row.app:Row->Row->Option Row
 | .ints k xs,.ints k' ys=>bif kEq k k' then some (.ints k (xs ++ ys)) else none
 | .bools xs,.bools ys=>some (.bools (xs ++ ys))
 | .arcs xs,.arcs ys=>some (.arcs (xs ++ ys))
 | .wides xs,.wides ys=>some (.wides (xs ++ ys))
 | .recs k ks xs,.recs k' ks' ys=>bif z9k (k :: ks) (k' :: ks') then some (.recs k ks (xs ++ ys)) else none
 | _,_=>none
def Row.snoc:Row->List SV->Option Row
 | .ints k xs,[.int k' n]=>bif kEq k k' then some (.ints k (xs ++ [n])) else none
 | .bools xs,[.tt]=>some (.bools (xs ++ [true]))
 | .bools xs,[.ff]=>some (.bools (xs ++ [false]))
 | .bools xs,[.bool b]=>some (.bools (xs ++ [b]))
 | .arcs xs,[.int .i64 a,.int .i64 b,.int .i64 c,.int .i64 d,.int .i64 e]=>some (.arcs (xs ++ [⟨a,b,c,d,e⟩]))
 | .wides xs,[.int .i64 a,.int .u64 b]=>some (.wides (xs ++ [⟨a,b⟩]))
 | .recs k ks xs,vs=>match valsS (z81 k ks) vs with
  | some a=>some (.recs k ks (xs ++ [a]))
  | none=>none
 | _,_=>none
def Row.snocs:Row->List SV->Option Row
 | r,[]=>some r
 | r,v :: l=>match r.snoc v.cells with
  | some r'=>r'.snocs l
  | none=>none
def Row.sub (l h:Nat):Row->Row
 | .ints k xs=>.ints k ((xs.take h).drop l)
 | .bools xs=>.bools ((xs.take h).drop l)
 | .arcs xs=>.arcs ((xs.take h).drop l)
 | .wides xs=>.wides ((xs.take h).drop l)
 | .recs k ks xs=>.recs k ks ((xs.take h).drop l)
def Row.over:Row->Row->Option Row
 | .ints k xs,.ints k' ys=>bif kEq k k' then some (.ints k (ys.take xs.length ++ xs.drop ys.length)) else none
 | .bools xs,.bools ys=>some (.bools (ys.take xs.length ++ xs.drop ys.length))
 | .arcs xs,.arcs ys=>some (.arcs (ys.take xs.length ++ xs.drop ys.length))
 | .wides xs,.wides ys=>some (.wides (ys.take xs.length ++ xs.drop ys.length))
 | .recs k ks xs,.recs k' ks' ys=>bif z9k (k :: ks) (k' :: ks') then some (.recs k ks (ys.take xs.length ++ xs.drop ys.length)) else none
 | _,_=>none
inductive DK where
 | ints (k:IntKind) (xss:List (List Int))
 | bools (xss:List (List Bool))
 | recs (k:MK) (ks:List MK) (xss:List (List (List Int)))
def DK.rows:DK->List Row
 | .ints k xss=>xss.map (.ints k ·)
 | .bools xss=>xss.map .bools
 | .recs k ks xss=>xss.map (.recs k ks ·)
def DK.len:DK->Nat
 | .ints _ xss=>xss.length
 | .bools xss=>xss.length
 | .recs _ _ xss=>xss.length
def DK.width:DK->Nat
 | .ints _ _=>1
 | .bools _=>1
 | .recs k ks _=>lenL (z81 k ks)
def DK.get (d:DK) (i:Nat) (K:Row->Prop):Prop :=
 match d with
 | .ints k xss=>i<xss.length/\∀ x,xss[i]? = some x->K (.ints k x)
 | .bools xss=>i<xss.length/\∀ x,xss[i]? = some x->K (.bools x)
 | .recs k ks xss=>i<xss.length/\∀ x,xss[i]? = some x->K (.recs k ks x)
def DK.set (d:DK) (i:Nat) (r:Row) (K:DK->Prop):Prop :=
 match d,r with
 | .ints k xss,.ints k' x=>bif kEq k k' then i<xss.length/\K (.ints k (xss.set i x)) else False
 | .bools xss,.bools x=>i<xss.length/\K (.bools (xss.set i x))
 | .recs k ks xss,.recs k' ks' x=>bif z9k (k :: ks) (k' :: ks') then i<xss.length/\K (.recs k ks (xss.set i x)) else False
 | _,_=>False
def DK.app:DK->DK->Option DK
 | .ints k xss,.ints k' yss=>bif kEq k k' then some (.ints k (xss ++ yss)) else none
 | .bools xss,.bools yss=>some (.bools (xss ++ yss))
 | .recs k ks xss,.recs k' ks' yss=>bif z9k (k :: ks) (k' :: ks') then some (.recs k ks (xss ++ yss)) else none
 | _,_=>none
def DK.snoc:DK->Row->Option DK
 | .ints k xss,.ints k' x=>bif kEq k k' then some (.ints k (xss ++ [x])) else none
 | .bools xss,.bools x=>some (.bools (xss ++ [x]))
 | .recs k ks xss,.recs k' ks' x=>bif z9k (k :: ks) (k' :: ks') then some (.recs k ks (xss ++ [x])) else none
 | _,_=>none
def RK.inner:RK->Option DK
 | .slice _ (.int k)=>some (.ints k [])
 | .slice _ .bool=>some (.bools [])
 | .slice _ (.recs k ks)=>some (.recs k ks [])
 | _=>none
def DK.many (n:Nat):DK->DK
 | .ints k _=>.ints k (List.replicate n [])
 | .bools _=>.bools (List.replicate n [])
 | .recs k ks _=>.recs k ks (List.replicate n [])
def kksEq:List IntKind->List IntKind->Bool
 | [],[]=>true
 | a :: l,b :: m=>kEq a b && kksEq l m
 | _,_=>false
def mget (m:List (List Int × Int)) (k:List Int):Option Int:=match m with
 | []=>none
 | (j,v) :: l=>if k=j then some v else mget l k
def mput (m:List (List Int × Int)) (k:List Int) (v:Int):List (List Int × Int):=match m with
 | []=>[(k,v)]
 | (j,u) :: l=>if k=j then (k,v) :: l else (j,u) :: mput l k v
inductive Ent where
 | box (own:Bool) (ty:TypeId) (cells:List SV)
 | row (own:Bool) (ty:TypeId) (r:Row)
 | loop (st:Nat) (R:Loop->Prop)
 | vec (ty:TypeId) (cs:List SV)
 | map (kk:List IntKind) (vk:MK) (m:List (List Int × Int))
 | deep (own:Bool) (ty it:TypeId) (d:DK) (vs:List Value) (hole:Option Nat)
def RK.ent (e:TypeId) (rk:RK):Ent:=match rk.inner with
 | some d=>match rk with
  | .slice it _=>.deep true e it d [] none
  | _=>.row true e rk.empty
 | none=>.row true e rk.empty
abbrev z0d:=List (Nat × Ent)
structure St where
 tm:List (Nat × SV)
 hp:z0d
 nk:Nat
universe u
def lk {α:Type u} (k:Nat):List (Nat × α)->Option α
 | []=>none
 | (j,x) :: l=>bif Nat.beq k j then some x else lk k l
def put {α:Type u} (k:Nat) (x:α):List (Nat × α)->List (Nat × α)
 | []=>[(k,x)]
 | (j,y) :: l=>bif Nat.beq k j then (k,x) :: l else (j,y) :: put k x l
def del {α:Type u} (k:Nat):List (Nat × α)->List (Nat × α)
 | []=>[]
 | (j,y) :: l=>bif Nat.beq k j then del k l else (j,y) :: del k l
def Ent.kb (n:Nat):Ent->Bool
 | .box _ _ cells=>kbs n cells
 | .row _ _ _=>true
 | .loop _ _=>true
 | .vec _ cs=>kbs n cs
 | .map _ _ _=>true
 | .deep _ _ _ _ _ _=>true
def zcq (n:Nat):List (Nat × SV)->Bool
 | []=>true
 | (_,v) :: l=>v.kb n && zcq n l
def z31 (n:Nat):z0d->Bool
 | []=>true
 | (k,e) :: l=>Nat.blt k n && e.kb n && z31 n l
def St.kb (s:St):Bool:=zcq s.nk s.tm && z31 s.nk s.hp
inductive Z where
 | int (k:IntKind)
 | bool
 | slice (e:TypeId) (rk:RK)
 | val (v:Value)
 | map (kk:List IntKind) (vk:MK)
def Z.v:Z->Value
 | .int k=>.int k 0
 | .bool=>.bool false
 | .slice _ _=>.slice none 0 0
 | .val v=>v
 | .map _ _=>.map none
structure TI where
 zs:List Z
 agg:Bool
 fs:List (Nat × Nat × Bool)
 sl:Option (TypeId × RK × Nat)
 ik:Option IntKind
 eqs:List IntKind
abbrev Tys:=List (Nat × TI)
def TI.zero (t:TI):Value:=bif t.agg then .agg (t.zs.map Z.v).toArray else (t.zs.map Z.v).headD undef
def aggD:TypeDesc->Bool
 | .struct _=>true
 | .array _ _=>true
 | _=>false
def z4n (P:Program):TypeDesc->List (Nat × Nat × Bool)
 | .struct fs=>fs.toList.map fun f=>(f.offset,((P.underlying f.type).bind fun _=>(P.info? f.type).map (·.size)).getD 0,((P.underlying f.type).map aggD).getD false)
 | .array n e=>(List.range n).map fun j=>(j * ((P.info? e).map (·.size)).getD 0+1000000,((P.underlying e).bind fun _=>(P.info? e).map (·.size)).getD 0,((P.underlying e).map aggD).getD false)
 | _=>[]
def isArrD:TypeDesc->Bool
 | .array _ _=>true
 | _=>false
def isArr (fs:List (Nat × Nat × Bool)):Bool:=fs.any fun f=>Nat.ble 1000000 f.1
def offA (fs:List (Nat × Nat × Bool)):List (Nat × Nat × Bool):=bif isArr fs then fs.map fun f=>(f.1 - 1000000,f.2) else fs
def zc2 (P:Program):TypeDesc->Option (List (Nat × Nat))
 | .struct fields=>fields.toList.mapM (fun f=>(P.info? f.type).map fun i=>(f.offset,i.size))
 | .array n e=>(P.info? e).map fun i=>(List.range n).map fun j=>(j * i.size+1000000,i.size)
 | _=>none
def isPtrD:TypeDesc->Bool
 | .pointer _=>true
 | _=>false
def z25 (ks:List IntKind) (a:List Int):Array Value:=(List.zipWith (fun k n=>Value.int k n) ks a).toArray
structure MapOk (P:Program) (t:TypeId) (kk:List IntKind) (vk:MK):Prop where
  ty:∃ key elem,P.underlying t=some (.map key elem)/\(P.info? elem).map (fun i=>i.zero)=some (some (vk.enc 0)) /\
    ((∃ k,kk=[k]/\P.underlying key=some (.int k)) ∨
     ((∀ k,kk ≠ [k])/\(∃ fs,P.underlying key=some (.struct fs))/\(∀ (a:List Int) (b:Bool) (w:World),a.length=kk.length->(Instr.checkKey b 10000 key (.agg (z25 kk a))).run P w = .ok () w) /\
      ∀ (a b:List Int) (w:World),a.length=kk.length->b.length=kk.length->(Op.equal key (.agg (z25 kk a)) (.agg (z25 kk b))).run P w = .ok (decide (a=b)) w))
def isIfaceD:TypeDesc->Bool
 | .interface _=>true
 | _=>false
structure TiOk (P:Program) (t:TypeId) (ti:TI):Prop where
 info:(P.info? t).map (fun i=>(i.size,i.zero))=some (ti.zs.length,some ti.zero)
 und:(P.underlying t).map (fun d=>(aggD d,z4n P d))=some (ti.agg,ti.fs)
 sl:∀ e rk b,ti.sl=some (e,rk,b)->P.underlying t=some (.slice e)/\(P.info? e).map (fun i=>(i.zero,i.size,i.bytes))=some (some rk.zero,rk.width,b)/\b <= 128
 ik:∀ k,ti.ik=some k->P.underlying t=some (.int k)
 ones:ti.zs.all (fun z=>z.v.oneCell')=true
 sing:ti.agg=true ∨ ti.zs.length=1
 pl:ti.agg=true->(P.underlying t).map (fun d=>zc2 P d)=some (some (ti.fs.map fun f=>(f.1,f.2.1)))
 bl:∀ l,ti.zs = .bool :: l->ti.agg=false->P.underlying t=some .bool
 pt:∀ l,ti.zs = .val (.pointer none) :: l->ti.agg=false->(P.underlying t).map isPtrD=some true
 eq:ti.eqs ≠ []->P.eqGuardType P.depth t=false/\∀ (a b:List Int) (w:World),a.length=ti.eqs.length->b.length=ti.eqs.length ->
  (Op.equal t (.agg (z25 ti.eqs a)) (.agg (z25 ti.eqs b))).run P w = .ok (decide (a=b)) w
 mp:∀ kk vk l,ti.zs = .map kk vk :: l->ti.agg=false->MapOk P t kk vk
 ifc:∀ l,ti.zs = .val .nilIface :: l->ti.agg=false->(P.underlying t).map isIfaceD=some true
 ar:isArr ti.fs=true->(P.underlying t).map isArrD=some true
def z5w (P:Program) (T:Tys):Prop:=∀ t ti,lk t T=some ti->TiOk P t ti
def zgx:List Z->Nat->List SV × z0d × Nat
 | [],nk=>([],[],nk)
 | z :: l,nk=>match z with
  | .int k=>match zgx l nk with | (c,h,n)=>(.int k 0 :: c,h,n)
  | .bool=>match zgx l nk with | (c,h,n)=>(.ff :: c,h,n)
  | .slice e rk=>match zgx l (nk+1) with | (c,h,n)=>(.row nk :: c,(nk,rk.ent e) :: h,n)
  | .val v=>match zgx l nk with | (c,h,n)=>(.val v :: c,h,n)
  | .map _ _=>match zgx l nk with | (c,h,n)=>(.val (.map none) :: c,h,n)
def vecGet (idx:Nat) (K:SV->Prop):List SV->Nat->Prop
 | [],_=>True
 | [c],j=>idx=j->K c
 | c :: d :: l,j=>(idx=j->K c)/\vecGet idx K (d :: l) (j+1)
def z2s:List SV->Bool
 | []=>true
 | s :: l=>s.one && z2s l
def allW (w:Nat):List SV->Bool
 | []=>true
 | c :: l=>Nat.beq c.cells.length w && z2s c.cells && allW w l
def rd (hp:z0d) (key w idx fld n:Nat) (K:List SV->Prop):Prop :=
 match lk key hp with
 | some (.box _ _ cells)=>match w with
  | 0=>bif Nat.ble (fld+n) cells.length then K ((cells.drop fld).take n) else False
  | _+1=>False
 | some (.row _ _ r)=>bif Nat.beq w r.width then r.get idx fun cs=>bif Nat.ble (fld+n) cs.length then K ((cs.drop fld).take n) else False else False
 | some (.vec _ cs)=>bif allW w cs && Nat.ble (fld+n) w then idx<cs.length/\vecGet idx (fun c=>K ((c.cells.drop fld).take n)) cs 0 else False
 | some (.loop _ _)=>False
 | some (.map _ _ _)=>False
 | some (.deep _ _ _ _ _ _)=>False
 | none=>False
def wr (hp:z0d) (key w idx fld:Nat) (vs:List SV) (K:z0d->Prop):Prop :=
 match lk key hp with
 | some (.box true t cells)=>match w with
  | 0=>bif Nat.ble (fld+vs.length) cells.length && z2s vs then K (put key (.box true t (cells.take fld ++ vs ++ cells.drop (fld+vs.length))) hp) else False
  | _+1=>False
 | some (.row true t r)=>bif Nat.beq w r.width then r.set idx fld vs fun r'=>K (put key (.row true t r') hp) else False
 | _=>False
def ofConst:Value->SV
 | .int k n=>.int k n
 | .bool true=>.tt
 | .bool false=>.ff
 | v=>.val v
def ev (s:St):Operand->Option SV
 | .tmp t=>lk t s.tm
 | .const v=>some (ofConst v)
 | .func f=>some (.fn f [])
 | .global _=>none
def evs (s:St):List Operand->Option (List SV)
 | []=>some []
 | x :: l=>match ev s x,evs s l with
  | some v,some vs=>some (v :: vs)
  | _,_=>none
def zdh:Value->Bool
 | .slice none 0 0=>true
 | _=>false
def nrm (T:Tys) (ty:TypeId) (v:SV) (s:St) (K:SV->St->Prop):Prop :=
 match v with
 | .val u=>bif zdh u then
   match lk ty T with
   | some ⟨_,_,_,some (e,rk,_),_,_⟩=>bif s.kb then K (.row s.nk) { s with hp:=(s.nk,rk.ent e) :: s.hp,nk:=s.nk+1 } else False
   | _=>False
  else K v s
 | v=>K v s
def nrms (T:Tys):List TypeId->List SV->St->(List SV->St->Prop)->Prop
 | t :: ts,v :: vs,s,K=>bif kbs s.nk vs then nrm T t v s fun v' s'=>bif v'.kb s'.nk then nrms T ts vs s' fun vs' s''=>K (v' :: vs') s'' else False else False
 | [],[],s,K=>K [] s
 | _,_,_,_=>False
def z1q (N:Nat) (dst:Option Tmp) (v:SV) (s:St) (K:St->Prop):Prop :=
 match dst with
 | none=>K s
 | some d=>bif Nat.blt d N then K { s with tm:=put d v s.tm } else False
def intsOf:List IntKind->List SV->Option (List Int)
 | [],[]=>some []
 | k :: ks,.int k' n :: l=>bif kEq k k' then match intsOf ks l with
   | some r=>some (n :: r)
   | none=>none
  else none
 | _,_=>none
def andS (k:IntKind) (a b:Int):Int:=k.wrap ((BitVec.ofInt k.bits a &&& BitVec.ofInt k.bits b).toNat:Int)
def notS (k:IntKind) (n:Int):Int:=k.wrap ((BitVec.ofInt k.bits (if k.signed then -1 else k.max) ^^^ BitVec.ofInt k.bits n).toNat:Int)
def arith (op:BinOp) (k:IntKind) (a b:Int) (K:SV->Prop):Prop :=
 match op with
 | .add=>K (.int k (k.wrap (a+b)))
 | .sub=>K (.int k (k.wrap (a - b)))
 | .mul=>K (.int k (k.wrap (a * b)))
 | .quo=>b ≠ 0/\K (.int k (k.wrap (a.tdiv b)))
 | .rem=>b ≠ 0/\K (.int k (a.tmod b))
 | .and=>K (.int k (andS k a b))
 | .eql=>K (.bool (a == b))
 | .neq=>K (.bool (a != b))
 | .lss=>K (.bool (decide (a<b)))
 | .leq=>K (.bool (decide (a <= b)))
 | .gtr=>K (.bool (decide (a > b)))
 | .geq=>K (.bool (decide (a ≥ b)))
 | _=>False
def shiftS (op:BinOp) (k:IntKind) (a b:Int) (K:SV->Prop):Prop :=
 match op with
 | .shr=>0 <= b/\K (.int k (a.fdiv (2 ^ min b.toNat k.bits)))
 | .shl=>0 <= b/\K (.int k (k.wrap (a * 2 ^ min b.toNat k.bits)))
 | _=>False
def isShift:BinOp->Bool
 | .shl=>true
 | .shr=>true
 | _=>false
def eqS (op:BinOp) (b:Bool) (K:SV->Prop):Prop :=
 match op with
 | .eql=>K (.bool b)
 | .neq=>K (.bool (!b))
 | _=>False
def zbe:Value->Bool
 | .pointer none=>true
 | _=>false
def isNilI:Value->Bool
 | .nilIface=>true
 | _=>false
def zhx (T:Tys) (t:TypeId):Bool:=match lk t T with
 | some ⟨[.val .nilIface],false,_,_,_,_⟩=>true
 | _=>false
def isPtrT (T:Tys) (t:TypeId):Bool:=match lk t T with
 | some ⟨[.val (.pointer none)],false,_,_,_,_⟩=>true
 | _=>false
def isConstO:Operand->Bool
 | .const _=>true
 | _=>false
def binS (T:Tys) (cst:Bool) (op:BinOp) (t:TypeId) (x y:SV) (K:SV->Prop):Prop :=
 match x,y with
 | .int k a,.int k' b=>bif isShift op then shiftS op k a b K else bif kEq k k' then arith op k a b K else False
 | .agg l,.agg l'=>match lk t T with
  | some ti=>match ti.eqs with
   | []=>False
   | k :: ks=>match intsOf (k :: ks) l,intsOf (k :: ks) l' with
    | some a,some b=>eqS op (decide (a=b)) K
    | _,_=>False
  | none=>False
 | .ptr _ _ _ _,.val v=>bif zbe v && isPtrT T t then eqS op false K else False
 | .val u,.val v=>bif zbe u && zbe v && isPtrT T t then eqS op true K else bif isNilI v && zhx T t then (match u with
  | .iface _ _=>(match op with
   | .eql=>K .ff
   | .neq=>K .tt
   | _=>False)
  | .nilIface=>bif cst then (match op with
   | .eql=>K .tt
   | .neq=>K .ff
   | _=>False) else False
  | _=>False) else False
 | x,y=>match zb9 x,zb9 y,lk t T with
  | some a,some b,some ⟨[.bool],false,_,_,_,_⟩=>eqS op (a == b) K
  | _,_,_=>False
def unS (op:UnOp) (x:SV) (K:SV->Prop):Prop :=
 match op,x with
 | .neg,.int k n=>K (.int k (k.wrap (0 - n)))
 | .xor,.int k n=>K (.int k (notS k n))
 | .not,.tt=>K .ff
 | .not,.ff=>K .tt
 | .not,.bool b=>K (.bool (!b))
 | _,_=>False
def minS:SV->List SV->Option SV
 | v,[]=>some v
 | .int k x,.int k' y :: l=>bif kEq k k' then minS (.int k (min x y)) l else none
 | _,_=>none
def maxS:SV->List SV->Option SV
 | v,[]=>some v
 | .int k x,.int k' y :: l=>bif kEq k k' then maxS (.int k (max x y)) l else none
 | _,_=>none
def fillS (fs:List (Nat × Nat × Bool)):List SV->List (Nat × SV)->Option (List SV)
 | cells,[]=>some cells
 | cells,(i,v) :: l=>match fs[i]? with
  | some (off,n,_)=>bif Nat.beq v.cells.length n && Nat.ble (off+n) cells.length && z2s v.cells then fillS fs (cells.take off ++ v.cells ++ cells.drop (off+n)) l else none
  | none=>none
inductive StuckAt {α:Type} (why:Nat) (x:α):Prop
theorem StuckAt.elim {α:Type} {why:Nat} {x:α} {p:Prop} (h:StuckAt why x):p:=nomatch h
abbrev Spec:=List SV->z0d->Nat->(SV->z0d->Nat->Prop)->Prop
abbrev z0c:=List (Nat × (Bool × Spec))
end Go.Vc
end
section
namespace Go.Vc
open Go Go.RowKit Go.Ql Go.Draw
def z9m:List Nat->List Nat->Bool
 | [],[]=>true
 | a :: l,b :: m=>Nat.beq a b && z9m l m
 | _,_=>false
def lenS (T:Tys) (s:St) (t:TypeId) (v:SV) (K:SV->Prop):Prop :=
 match lk t T,v with
 | some ⟨_,_,_,some _,_,_⟩,.row key=>match lk key s.hp with
  | some (.row _ _ r)=>K (.int .i64 (r.len:Int))
  | some (.vec _ cs)=>K (.int .i64 (cs.length:Int))
  | some (.deep _ _ _ d _ _)=>K (.int .i64 (d.len:Int))
  | _=>False
 | _,_=>False
def appendS (T:Tys) (s:St) (t:TypeId) (x y:SV) (K:SV->St->Prop):Prop :=
 match lk t T,x,y with
 | some ⟨_,_,_,some (e,rk,_),_,_⟩,.row kx,.row ky=>match lk kx s.hp,lk ky s.hp with
  | some (.row true tx r1),some (.row _ _ r2)=>match r1.app r2 with
   | some r=>bif s.kb && Nat.beq tx e && Nat.beq rk.width r1.width && !Nat.beq kx ky then
     (r1.len+r2.len <= 1000000000)/\K (.row s.nk) { tm:=s.tm,hp:=(s.nk,.row true e r) :: del kx s.hp,nk:=s.nk+1 }
    else False
   | none=>False
  | some (.deep true tx it d1 vs1 none),some (.deep true _ it' d2 vs2 none)=>match d1.app d2 with
   | some d=>bif s.kb && Nat.beq tx e && Nat.beq it it' && Nat.beq rk.width 1 && !Nat.beq kx ky then
     (d1.len+d2.len <= 1000000000)/\K (.row s.nk) { tm:=s.tm,hp:=(s.nk,.deep true e it d (vs1 ++ vs2) none) :: del ky (del kx s.hp),nk:=s.nk+1 }
    else False
   | none=>False
  | _,_=>False
 | _,_,_=>False
def bnd (s:St) (d:Int):Option Operand->Option Int
 | none=>some d
 | some x=>match ev s x with
  | some (.int _ n)=>some n
  | _=>none
def sliceS (T:Tys) (s:St) (t:TypeId) (x:SV) (low high max:Option Operand) (K:SV->St->Prop):Prop :=
 match lk t T,x with
 | some ⟨_,_,_,some (e,rk,_),_,_⟩,.row key=>match lk key s.hp with
  | some (.row own tx r)=>bif s.kb && Nat.beq rk.width r.width && Nat.blt key s.nk && (max.isNone || high.isSome) then match bnd s 0 low,bnd s r.len high,bnd s r.len max with
    | some l,some h,some m=>(0 <= l/\l <= h/\h <= m/\m <= (r.len:Int))/\(bif own && low.isNone && max.isNone && Nat.beq tx e
      then K (.row s.nk) { tm:=s.tm,hp:=(s.nk,.row true e (r.sub 0 h.toNat)) :: del key s.hp,nk:=s.nk+1 }
      else K (.row s.nk) { tm:=s.tm,hp:=(s.nk,.row false e (r.sub l.toNat h.toNat)) :: put key (.row false tx r) s.hp,nk:=s.nk+1 })
    | _,_,_=>False
   else False
  | _=>False
 | _,_=>False
def copyS (T:Tys) (s:St) (t t':TypeId) (x y:SV) (K:SV->St->Prop):Prop :=
 match lk t T,lk t' T,x,y with
 | some ⟨_,_,_,some (e,rk,_),_,_⟩,some ⟨_,_,_,some _,_,_⟩,.row kx,.row ky=>match lk kx s.hp,lk ky s.hp with
  | some (.row true tx r1),some (.row _ _ r2)=>match r1.over r2 with
   | some r=>bif Nat.beq rk.width r1.width && !Nat.beq kx ky then
     K (.int .i64 (Nat.min r2.len r1.len:Nat)) { s with hp:=put kx (.row true tx r) s.hp }
    else False
   | none=>False
  | _,_=>False
 | _,_,_,_=>False
def keyS (kk:List IntKind) (v:SV):Option (List Int):=match kk,v with
 | [k],.int k' n=>bif kEq k k' then some [n] else none
 | k :: k' :: ks,.agg l=>intsOf (k :: k' :: ks) l
 | _,_=>none
def fget (k:List Int) (K:SV->Prop):List (List Int × Int)->Prop
 | []=>K (.tup [.val .nilFunc,.ff])
 | (j,n) :: l=>(k=j->K (.tup [.fn (n.toNat - 1) [],.tt]))/\(k ≠ j->fget k K l)
def isFnK:MK->Bool
 | .fn=>true
 | _=>false
def lookS (T:Tys) (s:St) (t:TypeId) (x i:SV) (commaOk:Bool) (K:SV->Prop):Prop :=
 match lk t T,x with
 | some ⟨[.map kk vk],false,_,_,_,_⟩,.row key=>match lk key s.hp,keyS kk i with
  | some (.map kk' vk' m),some k=>bif kksEq kk kk' && vk.eq vk' then
    (bif isFnK vk && commaOk then (∀ p ∈ m,0<p.2)/\fget k K m else bif commaOk then K (.tup [vk.sv ((mget m k).getD 0),.bool (mget m k).isSome]) else K (vk.sv ((mget m k).getD 0)))
   else False
  | _,_=>False
 | _,_=>False
def updS (T:Tys) (s:St) (t:TypeId) (x i v:SV) (K:St->Prop):Prop :=
 match lk t T,x with
 | some ⟨[.map kk vk],false,_,_,_,_⟩,.row key=>match lk key s.hp,keyS kk i,valS vk v with
  | some (.map kk' vk' m),some k,some n=>bif kksEq kk kk' && vk.eq vk' then K { s with hp:=put key (.map kk' vk' (mput m k n)) s.hp } else False
  | _,_,_=>False
 | _,_=>False
def deepLit (e it:TypeId) (d:DK) (v:SV) (s:St) (K:SV->St->Prop):Prop:=match v with
 | .row kr=>match lk kr s.hp with
  | some (.row true it' r)=>match d.snoc r with
   | some d'=>bif Nat.beq it it' then ∀ u:Value,K (.row s.nk) { tm:=s.tm,hp:=(s.nk,.deep true e it d' [u] none) :: del kr s.hp,nk:=s.nk+1 } else False
   | none=>False
  | _=>False
 | .val u=>bif zdh u then K (.row s.nk) { tm:=s.tm,hp:=(s.nk,.deep true e it (d.many 1) [.slice none 0 0] none) :: s.hp,nk:=s.nk+1 } else False
 | _=>False
def idx1 (l:List SV) (K:SV->Prop):Nat × Nat × Bool->Prop
 | (off,n+1,true)=>bif Nat.ble (off - 1000000+(n+1)) l.length then K (.agg ((l.drop (off - 1000000)).take (n+1))) else False
 | (off,_+1,false)=>match l[off - 1000000]? with
  | some v=>K v
  | none=>False
 | _=>False
def idxS (l:List SV) (idx:Nat) (K:SV->Prop):List (Nat × Nat × Bool)->Nat->Prop
 | [],_=>True
 | [f],j=>idx=j->idx1 l K f
 | f :: g :: fs,j=>(idx=j->idx1 l K f)/\idxS l idx K (g :: fs) (j+1)
def sameO:Operand->Operand->Bool
 | .tmp a,.tmp b=>Nat.beq a b
 | .const _,.const _=>true
 | _,_=>false
def vcCall (T:Tys) (Γ:z0c) (N:Nat) (o:Oper) (c:Call) (s:St) (K:St->Prop):Prop :=
 match c.callee with
 | .builtin .len=>match evs s c.args.toList,c.argTypes.toList with
  | some [v],[t]=>lenS T s t v fun v=>z1q N o.dst v s K
  | _,_=>False
 | .builtin .append=>match evs s c.args.toList,c.argTypes.toList with
  | some [x,y],[t,t']=>bif Nat.beq t t' && y.kb s.nk then nrm T t x s fun x s=>appendS T s t x y fun v s=>z1q N o.dst v s K else False
  | _,_=>False
 | .builtin .copy=>match evs s c.args.toList,c.argTypes.toList with
  | some [x,y],[t,t']=>copyS T s t t' x y fun v s=>z1q N o.dst v s K
  | _,_=>False
 | .builtin .min=>match evs s c.args.toList with
  | some (x :: l)=>match minS x l with
   | some v=>z1q N o.dst v s K
   | none=>False
  | _=>False
 | .builtin .max=>match evs s c.args.toList with
  | some (x :: l)=>match maxS x l with
   | some v=>z1q N o.dst v s K
   | none=>False
  | _=>False
 | .value f=>match ev s f,evs s c.args.toList with
  | some (.fn g caps),some vs=>match lk g Γ with
   | some (_,spec)=>bif Nat.blt g 500000000 && kbs s.nk caps then nrms T c.argTypes.toList vs s fun vs s=>bif s.kb then spec (vs ++ caps) s.hp s.nk fun res hp nk=>z1q N o.dst res { tm:=s.tm,hp:=hp,nk:=nk } K else StuckAt 1 (vs,s) else StuckAt 2 s
   | none=>StuckAt 3 (g,vs)
  | some (.mth g caps),some vs=>match lk g Γ with
   | some (_,spec)=>bif Nat.blt g 500000000 && kbs s.nk caps then nrms T c.argTypes.toList vs s fun vs s=>bif s.kb then spec (caps ++ vs) s.hp s.nk fun res hp nk=>z1q N o.dst res { tm:=s.tm,hp:=hp,nk:=nk } K else StuckAt 1 (vs,s) else StuckAt 2 s
   | none=>StuckAt 3 (g,vs)
  | _,_=>False
 | _=>False
def z3h (T:Tys) (Γ:z0c) (N:Nat) (o:Oper) (s:St) (K:St->Prop):Prop :=
 match o.op with
 | .move x=>match ev s x with
  | some v=>nrm T o.type v s fun v s=>z1q N o.dst v s K
  | none=>False
 | .assign x=>match ev s x with
  | some v=>nrm T o.type v s fun v s=>z1q N o.dst v s K
  | none=>False
 | .pick c x y=>match ev s c with
  | some .tt=>match ev s x with
   | some v=>z1q N o.dst v s K
   | none=>False
  | some .ff=>match ev s y with
   | some v=>z1q N o.dst v s K
   | none=>False
  | some (.bool b)=>match ev s x,ev s y with
   | some v,some u=>match zb9 v,zb9 u with
    | some p,some q=>z1q N o.dst (.bool (bif b then p else q)) s K
    | _,_=>False
   | _,_=>False
  | _=>False
 | .alloc ty=>match lk ty T with
  | some ti=>bif s.kb then match zgx ti.zs s.nk with
    | (cells,h,n)=>z1q N o.dst (.ptr n 0 0 0) { tm:=s.tm,hp:=(n,.box true ty cells) :: (h ++ s.hp),nk:=n+1 } K
   else False
  | none=>False
 | .box ty x=>match ev s x with
  | some v=>bif s.kb && z2s v.cells && kbs s.nk v.cells then z1q N o.dst (.ptr s.nk 0 0 0) { tm:=s.tm,hp:=(s.nk,.box true ty v.cells) :: s.hp,nk:=s.nk+1 } K else False
  | none=>False
 | .build ty parts=>match lk ty T,evs s (parts.toList.map (·.2)) with
  | some ti,some vs=>bif s.kb && kbs s.nk vs && ti.agg then match zgx ti.zs s.nk with
    | (cells,h,n)=>match fillS (offA ti.fs) cells ((parts.toList.map (·.1)).zip vs) with
     | some cs=>z1q N o.dst (.agg cs) { tm:=s.tm,hp:=h ++ s.hp,nk:=n } K
     | none=>False
   else False
  | _,_=>False
 | .buildSlice ty len parts=>match lk ty T,evs s (parts.toList.map (·.2)) with
  | some ⟨_,_,_,some (e,rk,_),_,_⟩,some vs=>match rk.empty.snocs vs with
   | some r=>bif s.kb && z9m (parts.toList.map (·.1)) (List.range len) && Nat.ble len 1000 then
     z1q N o.dst (.row s.nk) { tm:=s.tm,hp:=(s.nk,.row true e r) :: s.hp,nk:=s.nk+1 } K
    else False
   | none=>match rk,rk.inner with
    | .slice it _,some d=>(match vs with
     | [v]=>bif s.kb && z9m (parts.toList.map (·.1)) (List.range len) && Nat.beq len 1 then deepLit e it d v s fun v s=>z1q N o.dst v s K else False
     | _=>bif rk.isFn && s.kb && kbs s.nk vs && allW rk.width vs && z9m (parts.toList.map (·.1)) (List.range len) && Nat.ble len 1000 && Nat.blt 0 len then
     z1q N o.dst (.row s.nk) { tm:=s.tm,hp:=(s.nk,.vec e vs) :: s.hp,nk:=s.nk+1 } K
    else False)
    | _,_=>bif rk.isFn && s.kb && kbs s.nk vs && allW rk.width vs && z9m (parts.toList.map (·.1)) (List.range len) && Nat.ble len 1000 && Nat.blt 0 len then
     z1q N o.dst (.row s.nk) { tm:=s.tm,hp:=(s.nk,.vec e vs) :: s.hp,nk:=s.nk+1 } K
    else False
  | _,_=>False
 | .load ty x=>match ev s x,lk ty T with
  | some (.ptr key w idx fld),some ti=>match lk key s.hp with
   | some (.deep true t it d vs none)=>bif Nat.beq w 1 && Nat.beq fld 0 && Nat.beq ti.zs.length 1 && !ti.agg && s.kb then
     d.get idx fun r=>z1q N o.dst (.row s.nk) { tm:=s.tm,hp:=(s.nk,.row true it r) :: put key (.deep true t it d vs (some idx)) s.hp,nk:=s.nk+1 } K
    else False
   | some (.deep false _ _ d _ _)=>bif Nat.beq w 1 && Nat.beq fld 0 && Nat.beq ti.zs.length 1 && !ti.agg && s.kb then
     d.get idx fun r=>z1q N o.dst (.row s.nk) { tm:=s.tm,hp:=(s.nk,.row false 0 r) :: s.hp,nk:=s.nk+1 } K
    else False
   | _=>rd s.hp key w idx fld ti.zs.length fun cs =>
    bif ti.agg then z1q N o.dst (.agg cs) s K else match cs with
     | [c]=>z1q N o.dst c s K
     | _=>False
  | _,_=>False
 | .store ty x y=>match ev s x,ev s y,lk ty T,o.dst with
  | some (.ptr key w idx fld),some v,some ti,none=>bif Nat.blt key s.nk then nrm T ty v s fun v s =>
    bif Nat.beq v.cells.length ti.zs.length then (match lk key s.hp with
     | some (.deep true t it d vs hole)=>(match v with
      | .row kr=>match lk kr s.hp with
       | some (.row true it' r)=>bif Nat.beq it it' && Nat.beq w 1 && Nat.beq fld 0 && s.kb && !Nat.beq kr key then
         (match hole with
         | none=>True
         | some i=>i=idx)/\d.set idx r fun d'=>∀ u:Value,K { tm:=s.tm,hp:=put key (.deep true t it d' (vs.set idx u) none) (del kr s.hp),nk:=s.nk }
        else False
       | _=>False
      | _=>False)
     | _=>wr s.hp key w idx fld v.cells fun hp=>K { tm:=s.tm,hp:=hp,nk:=s.nk }) else False else False
  | _,_,_,_=>False
 | .nilCheck x=>match ev s x with
  | some (.ptr key w idx fld)=>z1q N o.dst (.ptr key w idx fld) s K
  | some (.fn f caps)=>z1q N o.dst (.fn f caps) s K
  | _=>False
 | .binOp op t x y _=>match ev s x,ev s y with
  | some (.row key),some (.val u)=>match lk key s.hp,lk t T with
   | some (.row _ _ r),some ⟨_,_,_,some _,_,_⟩=>bif zdh u then ∀ b:Bool,(0<r.len->b=false)->eqS op b fun v=>z1q N o.dst v s K else False
   | _,_=>False
  | some a,some b=>binS T (isConstO y) op t a b fun v=>z1q N o.dst v s K
  | _,_=>False
 | .unOp op _ x=>match ev s x with
  | some a=>unS op a fun v=>z1q N o.dst v s K
  | none=>False
 | .convert src dst x=>match ev s x,lk src T,lk dst T with
  | some (.int _ n),some _,some ⟨_,_,_,_,some k,_⟩=>z1q N o.dst (.int k (k.wrap n)) s K
  | _,_,_=>False
 | .makeFunc (.func f) first caps=>match first.toList,evs s caps.toList with
  | [],some vs=>z1q N o.dst (.fn f vs) s K
  | x :: l,some []=>match evs s (x :: l) with
   | some us=>z1q N o.dst (.mth f us) s K
   | none=>False
  | _,_=>False
 | .makeSlice ty l c=>match lk ty T,ev s l,ev s c with
  | some ⟨_,_,_,some (e,.slice it r,_),_,_⟩,some (.int _ n),some (.int _ m)=>match (RK.slice it r).inner with
   | some d=>bif s.kb then (n=m/\0 <= n/\n <= 1000000000)/\z1q N o.dst (.row s.nk) { tm:=s.tm,hp:=(s.nk,.deep true e it (d.many n.toNat) (List.replicate n.toNat (.slice none 0 0)) none) :: s.hp,nk:=s.nk+1 } K else False
   | none=>False
  | some ⟨_,_,_,some (e,rk,_),_,_⟩,some (.int _ n),some (.int _ m)=>bif s.kb && !rk.isFn then
    (bif sameO l c then n=m/\0 <= n/\n <= 1000000000 else 0 <= n/\n <= m/\m <= 1000000000)/\z1q N o.dst (.row s.nk) { tm:=s.tm,hp:=(s.nk,.row true e (rk.many n.toNat)) :: s.hp,nk:=s.nk+1 } K
   else False
  | _,_,_=>False
 | .fieldAddr ty x f=>match ev s x,lk ty T with
  | some (.ptr key w idx fld),some ti=>match ti.agg,ti.fs[f]? with
   | true,some (off,_+1,_)=>bif Nat.blt off 1000000 then z1q N o.dst (.ptr key w idx (fld+off)) s K else False
   | _,_=>False
  | _,_=>False
 | .field ty x f=>match ev s x,lk ty T with
  | some (.agg l),some ti=>match ti.agg,ti.fs[f]? with
   | true,some (off,n+1,true)=>bif Nat.ble (off+(n+1)) l.length && Nat.blt off 1000000 then z1q N o.dst (.agg ((l.drop off).take (n+1))) s K else False
   | true,some (off,_+1,false)=>match l[off]? with
    | some v=>bif Nat.blt off 1000000 then z1q N o.dst v s K else False
    | none=>False
   | _,_=>False
  | _,_=>False
 | .indexAddr ty x i=>match ev s x,ev s i,lk ty T with
  | some (.row key),some (.int _ i),some ⟨_,_,_,some (_,rk,_),_,_⟩=>match lk key s.hp with
   | some (.row _ _ r)=>bif Nat.beq rk.width r.width then (0 <= i/\i<(r.len:Int))/\z1q N o.dst (.ptr key rk.width i.toNat 0) s K else False
   | some (.vec _ cs)=>bif allW rk.width cs then (0 <= i/\i<(cs.length:Int))/\z1q N o.dst (.ptr key rk.width i.toNat 0) s K else False
   | some (.deep _ _ _ d _ _)=>bif Nat.beq rk.width 1 then (0 <= i/\i<(d.len:Int))/\z1q N o.dst (.ptr key 1 i.toNat 0) s K else False
   | _=>False
  | _,_,_=>False
 | .index ty x i=>match ev s x,ev s i,lk ty T with
  | some (.agg l),some (.int _ i),some ti=>bif isArr ti.fs then (0 <= i/\i<(ti.fs.length:Int))/\idxS l i.toNat (fun v=>z1q N o.dst v s K) ti.fs 0 else False
  | _,_,_=>False
 | .makeMap ty none=>match lk ty T with
  | some ⟨[.map kk vk],false,_,_,_,_⟩=>bif s.kb then z1q N o.dst (.row s.nk) { tm:=s.tm,hp:=(s.nk,.map kk vk []) :: s.hp,nk:=s.nk+1 } K else False
  | _=>False
 | .lookup ty x i commaOk=>match ev s x,ev s i with
  | some v,some u=>lookS T s ty v u commaOk fun v=>z1q N o.dst v s K
  | _,_=>False
 | .mapUpdate ty x i y=>match ev s x,ev s i,ev s y,o.dst with
  | some v,some u,some z,none=>updS T s ty v u z K
  | _,_,_,_=>False
 | .insert ty x i y=>match ev s x,ev s i,ev s y,o.dst with
  | some v,some u,some z,none=>updS T s ty v u z K
  | _,_,_,_=>False
 | .slice ty x low high max=>match ev s x with
  | some v=>sliceS T s ty v low high max fun v s=>z1q N o.dst v s K
  | none=>False
 | .typeAssert x _ t commaOk=>match ev s x,lk t T with
  | some (.val (.iface t' (.agg cs))),some ⟨[],true,_,_,_,_⟩=>bif Nat.beq t' t && commaOk && cs.isEmpty then z1q N o.dst (.tup [.agg [],.tt]) s K else False
  | _,_=>False
 | .extract x i=>match ev s x with
  | some (.tup l)=>match l[i]? with
   | some v=>z1q N o.dst v s K
   | none=>False
  | _=>False
 | .call c=>vcCall T Γ N o c s K
 | _=>StuckAt 4 o
def yid (k:Nat):Nat:=k+1000000000
def vcOpY (T:Tys) (Γ:z0c) (N:Nat) (o:Oper) (s:St) (K:St->Prop):Prop :=
 match o.op with
 | .call c=>match c.callee with
  | .value f=>match ev s f with
   | some (.row key)=>match lk (yid key) Γ,evs s c.args.toList with
    | some (_,spec),some vs=>nrms T c.argTypes.toList vs s fun vs s=>bif s.kb then spec vs s.hp s.nk fun res hp nk=>z1q N o.dst res { tm:=s.tm,hp:=hp,nk:=nk } K else StuckAt 1 (vs,s)
    | _,_=>StuckAt 3 key
   | _=>z3h T Γ N o s K
  | _=>z3h T Γ N o s K
 | _=>z3h T Γ N o s K
def pid (f:Nat):Nat:=f+500000000
def vcOpX (T:Tys) (Γ:z0c) (N:Nat) (X:TypeId->St->Prop) (o:Oper) (s:St) (K:St->Prop):Prop :=
 match o.op with
 | .call c=>match c.callee with
  | .value f=>match ev s f with
   | some (.fn g caps)=>match lk (pid g) Γ,evs s c.args.toList with
    | some (_,spec),some vs=>bif Nat.blt g 500000000 && kbs s.nk caps then nrms T c.argTypes.toList vs s fun vs s=>bif s.kb then spec (vs ++ caps) s.hp s.nk fun res hp nk=>(match res with
     | .tup [.tt,u]=>z1q N o.dst u { tm:=s.tm,hp:=hp,nk:=nk } K
     | .tup [.ff,.int .i64 t]=>X t.toNat { tm:=s.tm,hp:=hp,nk:=nk }
     | _=>False) else StuckAt 1 (vs,s) else StuckAt 2 s
    | _,_=>vcOpY T Γ N o s K
   | _=>vcOpY T Γ N o s K
  | _=>vcOpY T Γ N o s K
 | _=>vcOpY T Γ N o s K
def panTy (T:Tys) (N:Nat):List Oper->Option (TypeId × Tmp × Tmp)
 | [o1,o2,o3]=>match o1.op,o2.op,o3.op,o1.guard,o2.guard,o3.guard,o1.dst,o2.dst with
  | .build t ps,.makeInterface t' (.tmp d),.panic (.tmp d'),none,none,none,some e1,some e2=>match lk t T with
   | some ⟨[],true,_,_,_,_⟩=>bif ps.isEmpty && Nat.beq t t' && Nat.beq d e1 && Nat.beq d' e2 && Nat.blt e1 N && Nat.blt e2 N && !Nat.beq e1 e2 then some (t,e1,e2) else none
   | _=>none
  | _,_,_,_,_,_,_,_=>none
 | _=>none
def z3s (N:Nat) (dst:Option Tmp) (s:St):St :=
 match dst with
 | none=>s
 | some d=>bif Nat.blt d N then { s with tm:=put d (.tup []) s.tm } else { s with tm:=del d s.tm }
def dstAt (ops:List Oper) (j:Nat):Option Tmp:=(ops[j]?).bind (·.dst)
def z5s (T:Tys) (Γ:z0c) (N:Nat) (X:TypeId->St->Prop) (ops:List Oper):List Oper->St->(St->Prop)->Prop
 | [],s,K=>K s
 | o :: l,s,K=>match o.guard with
  | none=>vcOpX T Γ N X o s fun s=>z5s T Γ N X ops l s K
  | some (j,want)=>match dstAt ops j with
   | none=>False
   | some t=>match lk t s.tm with
    | some .tt=>bif want then vcOpX T Γ N X o s fun s=>z5s T Γ N X ops l s K else z5s T Γ N X ops l (z3s N o.dst s) K
    | some .ff=>bif want then z5s T Γ N X ops l (z3s N o.dst s) K else vcOpX T Γ N X o s fun s=>z5s T Γ N X ops l s K
    | some (.bool b) =>
     (b=true->(bif want then vcOpX T Γ N X o { s with tm:=put t .tt s.tm } fun s=>z5s T Γ N X ops l s K else z5s T Γ N X ops l (z3s N o.dst { s with tm:=put t .tt s.tm }) K)) /\
     (b=false->(bif want then z5s T Γ N X ops l (z3s N o.dst { s with tm:=put t .ff s.tm }) K else vcOpX T Γ N X o { s with tm:=put t .ff s.tm } fun s=>z5s T Γ N X ops l s K))
    | some (.tup [])=>z5s T Γ N X ops l (z3s N o.dst s) K
    | _=>False
def z2e (Γ:z0c) (s:St) (o:Oper):Bool :=
 match o.op with
 | .call c=>match c.callee with
  | .value f=>match ev s f with
   | some (.fn g _)=>match lk g Γ with
    | some (ro,_)=>ro
    | none=>false
   | some (.mth g _)=>match lk g Γ with
    | some (ro,_)=>ro
    | none=>false
   | _=>false
  | _=>false
 | _=>false
def isQuiet (o:Oper):Bool :=
 match o.op with
 | .move _ | .assign _ | .pick .. | .build .. | .makeFunc .. | .makeInterface .. | .extract .. | .unOp .. | .field .. | .indexAddr .. | .index .. | .slice .. | .binOp .. | .fieldAddr .. | .load .. | .convert .. | .nilCheck _=>true
 | .call { callee:=.builtin .len,.. } | .call { callee:=.builtin .min,.. } | .call { callee:=.builtin .max,.. }=>true
 | _=>false
def isLoad (o:Oper):Bool :=
 match o.op with
 | .load ..=>true
 | _=>false
def allRo:z0c->Bool
 | []=>true
 | (_,(ro,_)) :: l=>ro && allRo l
def flOf (Γ:z0c) (o:Oper):Bool :=
 match o.op with
 | .call c=>match c.callee with
  | .value (.func g)=>match lk g Γ with
   | some (ro,_)=>ro
   | none=>false
  | .value _=>allRo Γ
  | _=>false
 | _=>false
def memN (i:Nat):List Nat->Bool
 | []=>false
 | j :: l=>Nat.beq i j || memN i l
def zmb (done:List Nat) (o:Oper):Bool:=o.after.toList.all fun e=>!Region.binds .any e || memN e.on done
def rdyL (done:List Nat):List Oper->Nat->List (Nat × Oper)
 | [],_=>[]
 | o :: l,i=>bif !memN i done && zmb done o then (i,o) :: rdyL done l (i+1) else rdyL done l (i+1)
def writersO (Γ:z0c):List Oper->Nat->List Nat
 | [],_=>[]
 | o :: l,i=>bif isQuiet o || z9o o || flOf Γ o then writersO Γ l (i+1) else i :: writersO Γ l (i+1)
def eagO (Γ:z0c) (ops:List Oper) (q:Nat) (o:Oper):Bool :=
 isQuiet o && (!isLoad o || (writersO Γ ops 0).all fun j=>memN q ((ancs ops.toArray).getD j []) || memN j ((ancs ops.toArray).getD q []))
def firstE (eag:Nat->Oper->Bool):List (Nat × Oper)->Option (Nat × Oper)
 | []=>none
 | (i,o) :: l=>bif eag i o then some (i,o) else firstE eag l
def stepO (T:Tys) (Γ:z0c) (N:Nat) (ops:List Oper) (fl:Bool) (o:Oper) (s:St) (K:St->Prop):Prop :=
 match o.guard with
 | none=>bif !fl || z2e Γ s o then z3h T Γ N o s K else StuckAt 8 o
 | some (j,want)=>match dstAt ops j with
  | none=>False
  | some t=>match lk t s.tm with
   | some .tt=>bif want then (bif !fl || z2e Γ s o then z3h T Γ N o s K else StuckAt 8 o) else K (z3s N o.dst s)
   | some .ff=>bif want then K (z3s N o.dst s) else (bif !fl || z2e Γ s o then z3h T Γ N o s K else StuckAt 8 o)
   | some (.bool b) =>
    (b=true->(bif want then (bif !fl || z2e Γ { s with tm:=put t .tt s.tm } o then z3h T Γ N o { s with tm:=put t .tt s.tm } K else StuckAt 8 o) else K (z3s N o.dst { s with tm:=put t .tt s.tm }))) /\
    (b=false->(bif want then K (z3s N o.dst { s with tm:=put t .ff s.tm }) else (bif !fl || z2e Γ { s with tm:=put t .ff s.tm } o then z3h T Γ N o { s with tm:=put t .ff s.tm } K else StuckAt 8 o)))
   | some (.tup [])=>K (z3s N o.dst s)
   | _=>False
def allP {α:Type} (f:α->Prop):List α->Prop
 | []=>True
 | [x]=>f x
 | x :: y :: l=>f x/\allP f (y :: l)
def vcT (T:Tys) (Γ:z0c) (N:Nat) (ops:List Oper):Nat->List Nat->St->(St->Prop)->Prop
 | 0,done,s,K=>match rdyL done ops 0 with
  | []=>K s
  | _ :: _=>False
 | f+1,done,s,K=>match rdyL done ops 0 with
  | []=>K s
  | p :: l=>match firstE (eagO Γ ops) (p :: l) with
   | some q=>stepO T Γ N ops (flOf Γ q.2) q.2 s fun s=>vcT T Γ N ops f (q.1 :: done) s K
   | none=>allP (fun q=>stepO T Γ N ops (flOf Γ q.2) q.2 s fun s=>vcT T Γ N ops f (q.1 :: done) s K) (p :: l)
def leafS:SV->Bool
 | .int _ _=>true
 | .tt=>true
 | .ff=>true
 | .bool _=>true
 | _=>false
def plainSV:SV->Bool
 | .agg l=>l.all leafS
 | s=>leafS s
def ptrS:SV->Bool
 | .ptr _ _ _ _=>true
 | .fn _ _=>true
 | .val v=>zbe v
 | _=>false
def zfs (s:St) (o:Oper):Bool:=(needs o).all fun x=>match ev s x with
 | some v=>match o.op with
  | .call _=>leafS v
  | .nilCheck _=>ptrS v
  | _=>plainSV v
 | none=>false
def plainS (ops:List Oper) (s:St):List Oper->Bool
 | []=>true
 | o :: l=>(match o.guard with
  | none=>zfs s o
  | some (j,want)=>match dstAt ops j with
   | none=>true
   | some t=>match lk t s.tm with
    | some .tt=>bif want then zfs s o else true
    | some .ff=>bif want then true else zfs s o
    | some (.tup [])=>true
    | _=>zfs s o) && plainS ops s l
structure Ann where
 G:Type
 inv:G->St
 rel:G->G->Prop
 meas:G->Nat
 link:Bool:=false
def z8h (σ:List (Nat × Nat)) (k:Nat):Nat:=(lk k σ).getD k
abbrev KM:=List (Nat × Nat)
mutual
def matchK (σ:KM):SV->SV->Option KM
 | .row k,.row k'=>addK σ k' k
 | .ptr k _ _ _,.ptr k' _ _ _=>addK σ k' k
 | .agg l,.agg l'=>zby σ l l'
 | .tup l,.tup l'=>zby σ l l'
 | .fn _ l,.fn _ l'=>zby σ l l'
 | .mth _ l,.mth _ l'=>zby σ l l'
 | _,_=>some σ
def zby (σ:KM):List SV->List SV->Option KM
 | a :: l,b :: m=>match matchK σ a b with
  | some σ'=>zby σ' l m
  | none=>none
 | [],[]=>some σ
 | _,_=>none
def addK (σ:KM) (k' k:Nat):Option KM:=match lk k' σ with
 | some j=>bif Nat.beq j k then some σ else none
 | none=>some ((k',k) :: σ)
end
def matchTm (tm:List (Nat × SV)):KM->List (Nat × SV)->Option KM
 | σ,[]=>some σ
 | σ,(t,v) :: l=>match lk t tm with
  | some u=>match matchK σ u v with
   | some σ'=>matchTm tm σ' l
   | none=>none
  | none=>none
def idK (σ:KM) (k:Nat):KM:=match lk k σ with
 | some _=>σ
 | none=>(k,k) :: σ
def matchHp (hp:z0d):KM->z0d->Option KM
 | σ,[]=>some σ
 | σ,(k,e) :: l=>match lk (z8h σ k) hp,e with
  | some (.box _ _ cs),.box _ _ cs'=>match zby (idK σ k) cs cs' with
   | some σ'=>matchHp hp σ' l
   | none=>none
  | some (.vec _ cs),.vec _ cs'=>match zby (idK σ k) cs cs' with
   | some σ'=>matchHp hp σ' l
   | none=>none
  | some _,_=>matchHp hp (idK σ k) l
  | none,_=>none
mutual
def z1d (σ:KM):SV->SV->Prop
 | .int k n,.int k' n'=>bif kEq k k' then n=n' else False
 | .tt,.tt=>True
 | .ff,.ff=>True
 | .bool b,.bool b'=>b=b'
 | .tt,.bool b'=>true=b'
 | .ff,.bool b'=>false=b'
 | .row k,.row k'=>bif Nat.beq k (z8h σ k') then True else False
 | .ptr k w i f,.ptr k' w' i' f'=>bif Nat.beq k (z8h σ k') && Nat.beq w w' && Nat.beq f f' then i=i' else False
 | .agg l,.agg l'=>zer σ l l'
 | .tup l,.tup l'=>zer σ l l'
 | .fn f l,.fn f' l'=>bif Nat.beq f f' then zer σ l l' else False
 | .mth f l,.mth f' l'=>bif Nat.beq f f' then zer σ l l' else False
 | .val v,.val v'=>v=v'
 | _,_=>False
def zer (σ:KM):List SV->List SV->Prop
 | [],[]=>True
 | a :: l,b :: m=>z1d σ a b/\zer σ l m
 | _,_=>False
end
def subR:Row->Row->Prop
 | .ints k xs,.ints k' ys=>bif kEq k k' then xs=ys else False
 | .bools xs,.bools ys=>xs=ys
 | .arcs xs,.arcs ys=>xs=ys
 | .wides xs,.wides ys=>xs=ys
 | .recs k ks xs,.recs k' ks' ys=>bif z9k (k :: ks) (k' :: ks') then xs=ys else False
 | _,_=>False
def subD:DK->DK->Prop
 | .ints k xs,.ints k' ys=>bif kEq k k' then xs=ys else False
 | .bools xs,.bools ys=>xs=ys
 | .recs k ks xs,.recs k' ks' ys=>bif z9k (k :: ks) (k' :: ks') then xs=ys else False
 | _,_=>False
def z80 (σ:KM):Ent->Ent->Prop
 | .box true t cs,.box _ t' cs'=>bif Nat.beq t t' then zer σ cs cs' else False
 | .box false t cs,.box false t' cs'=>bif Nat.beq t t' then zer σ cs cs' else False
 | .row true t r,.row _ t' r'=>bif Nat.beq t t' then subR r r' else False
 | .row false _ r,.row false _ r'=>subR r r'
 | .loop st R,.loop st' R'=>bif Nat.beq st st' then R=R' else False
 | .vec t cs,.vec t' cs'=>bif Nat.beq t t' then zer σ cs cs' else False
 | .map kk vk m,.map kk' vk' m'=>bif kksEq kk kk' && vk.eq vk' then m=m' else False
 | .deep true t it d vs h,.deep true t' it' d' vs' h'=>bif Nat.beq t t' && Nat.beq it it' then subD d d'/\vs=vs'/\h=h' else False
 | .deep true _ _ d vs h,.deep false _ _ d' vs' _=>subD d d'/\vs=vs'/\h=none
 | .deep false _ _ d vs _,.deep false _ _ d' vs' _=>subD d d'/\vs=vs'
 | _,_=>False
def subTm (σ:KM) (tm:List (Nat × SV)):List (Nat × SV)->Prop
 | []=>True
 | (t,v) :: l=>match lk t tm with
  | some u=>z1d σ u v/\subTm σ tm l
  | none=>False
def subHp (σ:KM) (hp:z0d):z0d->Prop
 | []=>True
 | (k,e) :: l=>match lk (z8h σ k) hp with
  | some d=>z80 σ d e/\subHp σ hp l
  | none=>False
def Ent.own:Ent->Bool
 | .box o _ _=>o
 | .row o _ _=>o
 | .loop _ _=>true
 | .vec _ _=>true
 | .map _ _ _=>true
 | .deep o _ _ _ _ _=>o
def zdf (σ:KM):z0d->Bool
 | []=>true
 | (k,e) :: l=>(bif e.own then σ.all (fun p=>Nat.beq p.1 k || !Nat.beq p.2 (z8h σ k)) else true) && zdf σ l
def zdj (σ:KM):z0d->Bool
 | []=>true
 | (k,_) :: l=>(lk k σ).isSome && zdj σ l
def pinned (n0:Nat) (σ:KM):Bool:=σ.all fun p=>Nat.ble n0 p.1 || Nat.beq p.1 p.2
def Sub (n0:Nat) (s s':St):Prop :=
 match matchTm s.tm [] s'.tm with
 | none=>False
 | some σ=>match matchHp s.hp σ s'.hp with
  | none=>False
  | some σ'=>bif zdf σ' s'.hp && zdj σ' s'.hp && pinned n0 σ' && Nat.ble n0 s'.nk then subTm σ' s.tm s'.tm/\subHp σ' s.hp s'.hp else False
def z4d:Code->Nat
 | .region id _ _=>id
 | .seq a _=>z4d a
 | .block _ b=>z4d b
 | .loop b=>z4d b
 | .scope b=>z4d b
 | _=>0
abbrev z08:=Nat->Spec->Spec
def putAll:List Tmp->List SV->List (Nat × SV)->List (Nat × SV)
 | t :: ts,v :: vs,tm=>putAll ts vs (put t v tm)
 | _,_,tm=>tm
def allBlt (N:Nat):List Nat->Bool
 | []=>true
 | t :: l=>Nat.blt t N && allBlt N l
def endS (k st:Nat) (v:SV) (K:SV->z0d->Nat->Prop) (s:St):Prop :=
 match lk k s.hp with
 | some (.loop 1 R)=>K v (put k (.loop st R) s.hp) s.nk
 | _=>False
def z2t (T:Tys) (Γ:z0c) (N:Nat) (A:List (Nat × Ann)):Code->List (Nat × z08)->Nat->St->(St->Prop)->(St->Prop)->(Nat->St->Prop)->Prop
 | .skip,_,_,s,n,_,_=>n s
 | .region _ ops draw,_,_,s,n,_,x=>bif draw then vcT T Γ N ops.toList ops.toList.length [] s fun s'=>bif plainS ops.toList s' ops.toList then n s' else False else match panTy T N ops.toList with
  | some (t,e1,e2)=>x (t+1000000) { s with tm:=put e2 (.val (.iface t (.agg #[]))) (put e1 (.agg []) s.tm) }
  | none=>z5s T Γ N (fun t s=>x (t+1000000) s) ops.toList ops.toList s n
 | .seq a b,I,n0,s,n,r,x=>match lk (z4d b+1000000) A with
  | none=>z2t T Γ N A a I n0 s (fun s=>z2t T Γ N A b I n0 s n r x) r x
  | some ann=>bif ann.link then ∃ Q:ann.G->Prop,z2t T Γ N A a I n0 s (fun s=>∃ g,(ann.rel g g/\Q g)/\Sub n0 s (ann.inv g)) r x/\∀ g,ann.rel g g->Q g->z2t T Γ N A b I n0 (ann.inv g) n r x
   else z2t T Γ N A a I n0 s (fun s=>∃ g,ann.rel g g/\Sub n0 s (ann.inv g)) r x/\∀ g,ann.rel g g->z2t T Γ N A b I n0 (ann.inv g) n r x
 | .cond c a b,I,n0,s,n,r,x=>match ev s c with
  | some .tt=>z2t T Γ N A a I n0 s n r x
  | some .ff=>z2t T Γ N A b I n0 s n r x
  | some (.bool p)=>(p=true->z2t T Γ N A a I n0 s n r x)/\(p=false->z2t T Γ N A b I n0 s n r x)
  | _=>False
 | .block id b,I,n0,s,n,r,x=>bif Nat.blt id 1000000 then z2t T Γ N A b I n0 s n r fun j s=>bif Nat.beq j id then n s else x j s else False
 | .loop b,I,n0,s,_,r,x=>match lk (z4d b) A with
  | some ann=>∃ g0,(ann.rel g0 g0/\Sub n0 s (ann.inv g0)) /\
    ∀ g,ann.rel g0 g->z2t T Γ N A b I n0 (ann.inv g) (fun s'=>∃ g',ann.rel g0 g'/\ann.meas g'<ann.meas g/\Sub n0 s' (ann.inv g')) r x
  | none=>StuckAt (z4d b) s
 | .exit id,_,_,s,_,_,x=>bif Nat.blt id 1000000 then x id s else False
 | .ret,_,_,s,_,r,_=>r s
 | .scope b,I,n0,s,n,r,x=>z2t T Γ N A b I n0 s n r x
 | .label _,_,_,s,n,_,_=>n s
 | .rangeFunc f ps asg b,I,_,s,n,r,x=>match ev s f with
  | some (.fn g caps)=>match lk g I with
   | some isp=>bif s.kb && kbs s.nk caps && allBlt N ps.toList && Nat.blt g 1000000000 then
     ∀ R:Loop->Prop,isp s.nk (fun args hp nk K=>match lk s.nk hp with
      | some (.loop 0 R0)=>R0=R/\(bif Nat.beq args.length ps.size && kbs nk args && Nat.blt s.nk nk then
       z2t T Γ N A asg [] nk ⟨putAll ps.toList args s.tm,hp,nk⟩
        (fun s1=>match lk s.nk s1.hp with
         | some (.loop 0 R')=>z2t T Γ N A b [] nk { s1 with hp:=put s.nk (.loop 1 R') s1.hp } (endS s.nk 0 .tt K) (endS s.nk 2 .ff K) (fun id s1=>bif Nat.blt id 1000000 then endS s.nk (id+3) .ff K s1 else False)
         | _=>False) (fun _=>False) (fun _ _=>False)
       else False)
      | _=>False)
      (.row s.nk :: caps) ((s.nk,.loop 0 R) :: s.hp) (s.nk+1) (fun _ hp nk=>match lk s.nk hp with
       | some (.loop 0 _)=>n ⟨s.tm,del s.nk hp,nk⟩
       | some (.loop 2 _)=>r ⟨s.tm,del s.nk hp,nk⟩
       | some (.loop (st+3) _)=>bif Nat.blt st 1000000 then x st ⟨s.tm,del s.nk hp,nk⟩ else False
       | _=>False)
    else StuckAt 12 g
   | none=>StuckAt 9 g
  | _=>StuckAt 10 f
 | _,_,_,_,_,_,_=>False
def argTm:Nat->List SV->List (Nat × SV)
 | _,[]=>[]
 | i,v :: l=>(i,v) :: argTm (i+1) l
def resS (T:Tys) (s:St):List ResultVar->(List SV->Prop)->Prop
 | [],K=>K []
 | .tmp t :: l,K=>match lk t s.tm with
  | some v=>resS T s l fun vs=>K (v :: vs)
  | none=>False
 | .cell t ty :: l,K=>match lk t s.tm,lk ty T with
  | some (.ptr key w idx fld),some ti=>rd s.hp key w idx fld ti.zs.length fun cs =>
    bif ti.agg then resS T s l fun vs=>K (.agg cs :: vs) else match cs with
     | [c]=>resS T s l fun vs=>K (c :: vs)
     | _=>False
  | _,_=>False
def zkz:List SV->SV
 | [v]=>v
 | l=>.tup l
def vcFun (T:Tys) (Γ:z0c) (I:List (Nat × z08)) (A:List (Nat × Ann)) (N:Nat) (res:List ResultVar) (c:Code) (args:List SV) (hp:z0d) (nk:Nat) (R:SV->St->Prop):Prop :=
 z2t T Γ N A c I nk ⟨argTm 0 args,hp,nk⟩ (fun s=>resS T s res fun vs=>R (zkz vs) s) (fun s=>resS T s res fun vs=>R (zkz vs) s) (fun _ _=>False)
def flAt (Γ:z0c) (ops:List Oper) (i:Nat):Bool:=match ops[i]? with
 | some o=>flOf Γ o
 | none=>false
def eagAt (Γ:z0c) (ops:List Oper) (i:Nat):Bool:=match ops[i]? with
 | some o=>eagO Γ ops i o
 | none=>false
def regionOk (P:Program) (Γ:z0c) (ops:List Oper):Bool :=
 treeOk P ops.toArray && (List.range ops.length).all fun q=>!eagAt Γ ops q || eager P ops.toArray (ancs ops.toArray) (flAt Γ ops) q
def noDefer (ops:List Oper):Bool:=ops.all fun o=>match o.op with
 | .defer _=>false
 | _=>true
def z2h (P:Program) (Γ:z0c):Code->Bool
 | .region _ ops draw=>noDefer ops.toList && (!draw || regionOk P Γ ops.toList)
 | .rangeFunc _ _ a b=>z2h P Γ a && z2h P Γ b
 | .seq a b=>z2h P Γ a && z2h P Γ b
 | .cond _ a b=>z2h P Γ a && z2h P Γ b
 | .block _ b=>z2h P Γ b
 | .loop b=>z2h P Γ b
 | .scope b=>z2h P Γ b
 | _=>true
section
universe v
variable {α:Type v} {k j:Nat} {x:α} {l m:List (Nat × α)}
theorem z0g:lk k ((j,x) :: l)=if k=j then some x else lk k l:=by
 show (bif Nat.beq k j then some x else lk k l)=_
 by_cases h:k=j
 ·subst h; simp
 ·have:Nat.beq k j=false:=Bool.eq_false_iff.2 fun e=>h (Nat.eq_of_beq_eq_true e)
  simp [this,h]
theorem put_cons (y:α):put k x ((j,y) :: l)=if k=j then (k,x) :: l else (j,y) :: put k x l:=by
 show (bif Nat.beq k j then (k,x) :: l else (j,y) :: put k x l)=_
 by_cases h:k=j
 ·subst h; simp
 ·have:Nat.beq k j=false:=Bool.eq_false_iff.2 fun e=>h (Nat.eq_of_beq_eq_true e)
  simp [this,h]
theorem del_cons (y:α):del k ((j,y) :: l)=if k=j then del k l else (j,y) :: del k l:=by
 show (bif Nat.beq k j then del k l else (j,y) :: del k l)=_
 by_cases h:k=j
 ·subst h; simp
 ·have:Nat.beq k j=false:=Bool.eq_false_iff.2 fun e=>h (Nat.eq_of_beq_eq_true e)
  simp [this,h]
theorem zko:lk k (put k x l)=some x:=by
 induction l with
 | nil=>show lk k ((k,x) :: [])=_; rw [z0g]; simp
 | cons p l ih =>
  obtain ⟨j,y⟩:=p
  rw [put_cons]
  split
  ·rw [z0g]; simp
  ·rename_i h; rw [z0g,if_neg h]; exact ih
theorem lk_put_ne (h:j ≠ k):lk j (put k x l)=lk j l:=by
 induction l with
 | nil=>show lk j ((k,x) :: [])=_; rw [z0g,if_neg h]
 | cons p l ih =>
  obtain ⟨i,y⟩:=p
  rw [put_cons]
  split
  ·rename_i e; subst e; rw [z0g,z0g,if_neg h,if_neg h]
  ·rw [z0g,z0g,ih]
theorem z51:lk j (put k x l)=if j=k then some x else lk j l:=by
 by_cases h:j=k
 ·subst h; simp [zko]
 ·rw [lk_put_ne h,if_neg h]
theorem zkn:lk j (del k l)=if j=k then none else lk j l:=by
 induction l with
 | nil=>simp [del,lk]
 | cons p l ih =>
  obtain ⟨i,y⟩:=p
  rw [del_cons]
  split
  ·rename_i e; subst e
   rw [ih,z0g]
   by_cases h:j=k <;> simp [h]
  ·rename_i e
   rw [z0g,z0g,ih]
   by_cases h:j=i
   ·subst h; simp [Ne.symm e]
   ·simp [h]
theorem z6m:lk k (l ++ m)=(lk k l).or (lk k m):=by
 induction l with
 | nil=>simp [lk]
 | cons p l ih =>
  obtain ⟨i,y⟩:=p
  rw [List.cons_append,z0g,z0g,ih]
  split <;> simp
theorem z7m (h:lk k l=some x):(k,x) ∈ l:=by
 induction l with
 | nil=>simp [lk] at h
 | cons p l ih =>
  obtain ⟨i,y⟩:=p
  rw [z0g] at h
  split at h
  ·rename_i e; subst e; simp at h; subst h; simp
  ·simp [ih h]
end
theorem z10 {a b:Nat} (h:Nat.beq a b=true):a=b:=Nat.eq_of_beq_eq_true h
theorem beq_ne {a b:Nat} (h:Nat.beq a b=false):a ≠ b:=Nat.ne_of_beq_eq_false h
theorem z1z {a b:Nat} (h:Nat.blt a b=true):a<b:=by simpa [Nat.blt_eq] using h
theorem z8y {a b:Nat} (h:Nat.ble a b=true):a <= b:=Nat.le_of_ble_eq_true h
theorem z5n {a b:IntKind} (h:kEq a b=true):a=b:=of_decide_eq_true h
theorem z0u (ρ:Nat->Value):∀ l,z0s ρ l=l.map (SV.toV ρ)
 | []=>by simp [z0s]
 | s :: l=>by simp [z0s,z0u ρ l]
mutual
theorem z4x {ρ ρ':Nat->Value} {n:Nat} (h:∀ k,k<n->ρ' k=ρ k):∀ s:SV,s.kb n=true->s.toV ρ'=s.toV ρ
 | .int _ _,_=>by simp [SV.toV]
 | .tt,_=>by simp [SV.toV]
 | .ff,_=>by simp [SV.toV]
 | .bool _,_=>by simp [SV.toV]
 | .row key,hk=>by simp only [SV.kb] at hk; simp only [SV.toV]; exact h _ (z1z hk)
 | .ptr key _ _ _,hk=>by simp only [SV.kb] at hk; simp only [SV.toV]; rw [h _ (z1z hk)]
 | .agg l,hk=>by simp only [SV.kb] at hk; simp only [SV.toV]; rw [z1k h l hk]
 | .tup l,hk=>by simp only [SV.kb] at hk; simp only [SV.toV]; rw [z1k h l hk]
 | .fn _ l,hk=>by simp only [SV.kb] at hk; simp only [SV.toV]; rw [z1k h l hk]
 | .mth _ l,hk=>by simp only [SV.kb] at hk; simp only [SV.toV]; rw [z1k h l hk]
 | .val _,_=>by simp [SV.toV]
theorem z1k {ρ ρ':Nat->Value} {n:Nat} (h:∀ k,k<n->ρ' k=ρ k):∀ l:List SV,kbs n l=true->z0s ρ' l=z0s ρ l
 | [],_=>by simp [z0s]
 | s :: l,hk=>by
  simp only [kbs,Bool.and_eq_true] at hk
  simp only [z0s]
  rw [z4x h s hk.1,z1k h l hk.2]
end
theorem z3m:∀ (ks:List MK) (x:List Int),(recV ks x).length=lenL ks
 | [],_=>rfl
 | _ :: ks,x=>by simp only [recV,List.length_cons,z3m ks,lenL]
theorem lenL_eq {α:Type}:∀ l:List α,lenL l=l.length
 | []=>rfl
 | _ :: l=>by simp only [lenL,List.length_cons,lenL_eq l]
theorem five_len (k:MK) (ks:List MK):0<lenL (z81 k ks)/\lenL (z81 k ks) <= 5:=by
 rw [lenL_eq]; unfold z81; rw [List.length_take,List.length_cons]; omega
theorem mkEq_eq {a b:MK} (h:a.eq b=true):a=b:=by
 cases a <;> cases b <;> first | rfl | cases h | (simp only [MK.eq] at h; rw [of_decide_eq_true h])
theorem z77:∀ {a b:List MK},z9k a b=true->a=b
 | [],[],_=>rfl
 | [],_ :: _,h=>by cases h
 | _ :: _,[],h=>by cases h
 | a :: l,b :: m,h=>by
  simp only [z9k,Bool.and_eq_true] at h
  rw [mkEq_eq h.1,z77 h.2]
theorem Row.cells_len (r:Row):r.cells.length=r.len * r.width:=by
 cases r with
 | recs k ks xs =>
  simp only [Row.cells,Row.len,Row.width]
  induction xs with
  | nil=>simp
  | cons x xs ih=>rw [List.flatMap_cons,List.length_append,ih,z3m,List.length_cons,Nat.add_mul]; omega
 | ints k xs=>simp [Row.cells,Row.len,Row.width]
 | bools xs=>simp [Row.cells,Row.len,Row.width]
 | arcs xs =>
  simp only [Row.cells,Row.len,Row.width]
  induction xs with
  | nil=>simp
  | cons x xs ih=>rw [List.flatMap_cons,List.length_append,ih]; simp [Arc.cells]; omega
 | wides xs =>
  simp only [Row.cells,Row.len,Row.width]
  induction xs with
  | nil=>simp
  | cons x xs ih=>rw [List.flatMap_cons,List.length_append,ih]; simp [Wide.cells]; omega
def ROk (w:World) (v:Value) (r:Row):Prop :=
 ∃ A c,v = .slice A r.len c/\r.len <= c/\(0<r.len->∃ b off,A=some ⟨b,off,none⟩/\∀ j u,r.cells[j]? = some u->w.cell? ⟨b,off+j,none⟩=some u)
def ROkV (w:World) (v:Value) (n:Nat) (vs:List Value):Prop :=
 ∃ A c,v = .slice A n c/\n <= c/\(0<n->∃ b off,A=some ⟨b,off,none⟩/\∀ j u,vs[j]? = some u->w.cell? ⟨b,off+j,none⟩=some u)
def Ent.touch:Ent->Value->Nat->Prop
 | .box _ _ _,v,g=>v = .pointer (some ⟨g,0,none⟩)
 | .row true _ _,v,g=>v.ownBlock=some g
 | .row false _ r,v,g=>0<r.len/\v.ownBlock=some g
 | .loop _ _,v,g=>v = .func (.yield g) #[] #[]
 | .vec _ _,v,g=>v.ownBlock=some g
 | .map _ _ _,v,g=>v = .map (some g)
 | .deep true _ _ _ vs hole,v,g=>v.ownBlock=some g ∨ ∃ (i:Nat) (u:Value),hole ≠ some i/\vs[i]? = some u/\u.ownBlock=some g
 | .deep false _ _ d vs _,v,g=>(0<d.rows.length/\v.ownBlock=some g) ∨ ∃ (i:Nat) (r:Row) (u:Value),d.rows[i]? = some r/\0<r.len/\vs[i]? = some u/\u.ownBlock=some g
def zb6 (kk:List IntKind) (a:List Int):Value:=match kk with
 | [k]=>.int k (a.headD 0)
 | _=>.agg (z25 kk a)
def z6k (kk:List IntKind) (vk:MK) (m:List (List Int × Int)):List (Value × Value):=m.map fun p=>(zb6 kk p.1,vk.enc p.2)
def stOf:Nat->LoopState
 | 0=>.ready
 | 1=>.busy
 | _+2=>.done
def zl4:Nat->Option Code
 | 0=>none
 | 1=>none
 | 2=>some .ret
 | id+3=>some (.exit id)
structure DeepOwn (w:World) (v:Value) (t it:TypeId) (d:DK) (vs:List Value) (hole:Option Nat):Prop where
 row:w.ownsRow 0 t 1 v vs.length vs
 len:d.rows.length=vs.length
 at_:∀ (i:Nat) (r:Row) (u:Value),d.rows[i]? = some r->vs[i]? = some u->hole ≠ some i->w.ownsRow 0 it r.width u r.len r.cells/\∀ g,u.ownBlock=some g->v.ownBlock ≠ some g
 apart:∀ (i j:Nat) (u u':Value),vs[i]? = some u->vs[j]? = some u'->i ≠ j->hole ≠ some i->hole ≠ some j->∀ g,u.ownBlock=some g->u'.ownBlock ≠ some g
 one:∀ u ∈ vs,u.oneCell'=true
structure DeepRead (w:World) (v:Value) (d:DK) (vs:List Value):Prop where
 row:ROkV w v d.rows.length vs
 len:d.rows.length=vs.length
 at_:∀ (i:Nat) (r:Row) (u:Value),d.rows[i]? = some r->vs[i]? = some u->ROk w u r
def flatV (us:List Value):List Value:=us.flatMap fun v=>v.cells.toList
def EntOk (ρ:Nat->Value) (w:World) (v:Value):Ent->Prop
 | .box _ t cells=>∃ g,v = .pointer (some ⟨g,0,none⟩)/\Has w g t (z0s ρ cells).toArray
 | .row true t r=>w.ownsRow 0 t r.width v r.len r.cells
 | .row false _ r=>ROk w v r
 | .vec t cs=>∃ g,v = .slice (some ⟨g,0,none⟩) cs.length cs.length/\Has w g t (flatV (z0s ρ cs)).toArray
 | .map kk vk m=>∃ g es clock,v = .map (some g)/\w.heap[g]? = some (.map es clock)/\es.toList.map (fun e=>(e.key,e.val))=z6k kk vk m/\∀ p ∈ m,p.1.length=kk.length
 | .deep true t it d vs hole=>DeepOwn w v t it d vs hole
 | .deep false _ _ d vs _=>DeepRead w v d vs
 | .loop st R=>∃ l rec,v = .func (.yield l) #[] #[]/\w.heap[l]? = some (.loop rec)/\rec.state=stOf st/\rec.pending=zl4 st/\R { rec with state:=.ready,pending:=none }
theorem z8j {w:World} {t:TypeId} {v:Value} {r:Row} (h:w.ownsRow 0 t r.width v r.len r.cells):ROk w v r:=by
 rcases h.2 with ⟨rfl,h0⟩ | ⟨g,cap,cur,rfl,_,hg,hn,hc,hsz,htake⟩
 ·exact ⟨none,0,by rw [h0],by omega,fun h=>by omega⟩
 ·refine ⟨some ⟨g,0,none⟩,cap,rfl,hn,fun _=>⟨g,0,rfl,fun j u hu=>?_⟩⟩
  rw [Nat.zero_add,cell_of_row w g j cur t (0,0) hg]
  rw [<- htake,List.getElem?_take] at hu
  split at hu
  ·simpa using hu
  ·cases hu
theorem EntOk.reads {ρ:Nat->Value} {w:World} {v:Value} {o:Bool} {t:TypeId} {r:Row} (h:EntOk ρ w v (.row o t r)):ROk w v r:=by
 cases o
 ·exact h
 ·exact z8j h
theorem ROk.touched {w:World} {v:Value} {r:Row} (h:ROk w v r) (hr:0<r.len) (hw:0<r.width):∃ g,v.ownBlock=some g/\g<w.heap.size:=by
 obtain ⟨A,c,rfl,_,hA⟩:=h
 obtain ⟨b,off,rfl,hc⟩:=hA hr
 have hl:0<r.cells.length:=by rw [Row.cells_len]; exact Nat.mul_pos hr hw
 exact ⟨b,rfl,World.block_lt_of_cell? w _ (hc 0 _ (List.getElem?_eq_getElem hl))⟩
theorem Row.width_pos (r:Row):0<r.width:=by
 cases r with
 | recs k ks xs=>exact (five_len k ks).1
 | _=>simp [Row.width]
theorem zar {w:World} {t:TypeId} {v:Value} {n:Nat} {vs:List Value} (hn:n=vs.length) (h:w.ownsRow 0 t 1 v n vs):ROkV w v n vs:=by
 rcases h.2 with ⟨rfl,h0⟩ | ⟨g,cap,cur,rfl,_,hg,hn',hc,hsz,htake⟩
 ·exact ⟨none,0,by rw [h0],by omega,fun h=>by omega⟩
 ·refine ⟨some ⟨g,0,none⟩,cap,rfl,hn',fun _=>⟨g,0,rfl,fun j u hu=>?_⟩⟩
  rw [Nat.zero_add,cell_of_row w g j cur t (0,0) hg]
  rw [<- htake,List.getElem?_take] at hu
  split at hu
  ·simpa using hu
  ·cases hu
theorem ROkV.touched {w:World} {v:Value} {n:Nat} {vs:List Value} (h:ROkV w v n vs) (hn:0<n) (hl:n=vs.length):∃ g,v.ownBlock=some g/\g<w.heap.size:=by
 obtain ⟨A,c,rfl,_,hA⟩:=h
 obtain ⟨b,off,rfl,hc⟩:=hA hn
 exact ⟨b,rfl,World.block_lt_of_cell? w _ (hc 0 _ (List.getElem?_eq_getElem (by omega)))⟩
theorem own_kind {w:World} {t size n:Nat} {v:Value} {vs:List Value} (h:w.ownsRow 0 t size v n vs) {g:Nat} (hg:v.ownBlock=some g) (ds:Option (List Deferred)):w.heap[g]? ≠ some (.deferred ds):=by
 intro hd
 rcases h.2 with ⟨rfl,_⟩ | ⟨g',cap,cur,rfl,_,hh,_⟩
 ·simp [Value.ownBlock] at hg
 ·simp only [Value.ownBlock,Option.some.injEq] at hg
  subst hg
  rw [hd] at hh
  cases hh
theorem cell_kind {w:World} {b o:Nat} {u:Value} (h:w.cell? ⟨b,o,none⟩=some u) (ds:Option (List Deferred)):w.heap[b]? ≠ some (.deferred ds):=by
 intro hd
 simp [World.cell?,hd] at h
theorem ROk.kind {w:World} {v:Value} {r:Row} (h:ROk w v r) (h0:0<r.len) {g:Nat} (hg:v.ownBlock=some g) (ds:Option (List Deferred)):w.heap[g]? ≠ some (.deferred ds):=by
 obtain ⟨A,c,rfl,_,hA⟩:=h
 obtain ⟨b,off,rfl,hc⟩:=hA h0
 have hl:0<r.cells.length:=by rw [Row.cells_len]; exact Nat.mul_pos h0 r.width_pos
 have:=cell_kind (hc 0 _ (List.getElem?_eq_getElem hl)) ds
 simp only [Value.ownBlock,Option.some.injEq] at hg
 subst hg
 exact this
theorem ROk.keep {w w':World} {v:Value} {r:Row} (h:ROk w v r) (hb:∀ g,0<r.len->v.ownBlock=some g->w'.heap[g]? = w.heap[g]?):ROk w' v r:=by
 obtain ⟨A,c,rfl,hlc,hA⟩:=h
 refine ⟨A,c,rfl,hlc,fun hr=>?_⟩
 obtain ⟨b,off,rfl,hc⟩:=hA hr
 refine ⟨b,off,rfl,fun j u hu=>?_⟩
 rw [<- hc j u hu]
 exact World.cell?_of_block (hb b hr rfl)
theorem zdo {w w':World} {b e size n:Nat} {v:Value} {xs:List Value} (h:w.ownsRow b e size v n xs) (hk:∀ g,v.ownBlock=some g->w'.heap[g]? = w.heap[g]?):w'.ownsRow b e size v n xs:=by
 refine ⟨h.1,h.2.imp id ?_⟩
 rintro ⟨g,cap,cur,rfl,hg,hh,rest⟩
 exact ⟨g,cap,cur,rfl,hg,(hk g (by simp [Value.ownBlock])).trans hh,rest⟩
theorem DeepOwn.get {w:World} {v:Value} {t it:TypeId} {d:DK} {vs:List Value} {hole:Option Nat} (h:DeepOwn w v t it d vs hole) {i:Nat} {u:Value} (hu:vs[i]? = some u):∃ r,d.rows[i]? = some r:=by
 have hi:=(List.getElem?_eq_some_iff.1 hu).1
 exact ⟨_,List.getElem?_eq_getElem (by rw [h.len]; exact hi)⟩
theorem DeepOwn.keep {w w':World} {v:Value} {t it:TypeId} {d:DK} {vs:List Value} {hole:Option Nat} (h:DeepOwn w v t it d vs hole)
  (hb:∀ g,Ent.touch (.deep true t it d vs hole) v g->w'.heap[g]? = w.heap[g]?):DeepOwn w' v t it d vs hole :=
 ⟨zdo h.row fun g hg=>hb g (.inl hg),h.len,fun i r u hr hu hh=>⟨zdo (h.at_ i r u hr hu hh).1 fun g hg=>hb g (.inr ⟨i,u,hh,hu,hg⟩),(h.at_ i r u hr hu hh).2⟩,h.apart,h.one⟩
theorem DeepRead.keep {w w':World} {v:Value} {t it:TypeId} {d:DK} {vs:List Value} {hole:Option Nat} (h:DeepRead w v d vs)
  (hb:∀ g,Ent.touch (.deep false t it d vs hole) v g->w'.heap[g]? = w.heap[g]?):DeepRead w' v d vs:=by
 refine ⟨?_,h.len,fun i r u hr hu=>(h.at_ i r u hr hu).keep fun g h0 hg=>hb g (.inr ⟨i,r,u,hr,h0,hu,hg⟩)⟩
 obtain ⟨A,c,rfl,hlc,hA⟩:=h.row
 refine ⟨A,c,rfl,hlc,fun hr=>?_⟩
 obtain ⟨b,off,rfl,hc⟩:=hA hr
 refine ⟨b,off,rfl,fun j u hu=>?_⟩
 rw [<- hc j u hu]
 exact World.cell?_of_block (hb b (.inl ⟨hr,rfl⟩))
theorem DeepOwn.reads {w:World} {v:Value} {t it:TypeId} {d:DK} {vs:List Value} (h:DeepOwn w v t it d vs none):DeepRead w v d vs :=
 ⟨zar h.len (h.len ▸ h.row),h.len,fun i r u hr hu=>z8j (h.at_ i r u hr hu (by simp)).1⟩
theorem deep_touch {v:Value} {t it t' it':TypeId} {d:DK} {vs:List Value} {h:Option Nat} {g:Nat} (ht:Ent.touch (.deep false t it d vs h) v g):Ent.touch (.deep true t' it' d vs none) v g:=by
 rcases ht with ⟨_,h⟩ | ⟨i,r,u,_,_,h2,h3⟩
 ·exact .inl h
 ·exact .inr ⟨i,u,by simp,h2,h3⟩
theorem EntOk.lt {ρ:Nat->Value} {w:World} {v:Value} {e:Ent} (h:EntOk ρ w v e) {g:Nat} (hg:e.touch v g):g<w.heap.size:=by
 cases e with
 | box o t cells =>
  obtain ⟨g',rfl,hh⟩:=h
  simp only [Ent.touch,Value.pointer.injEq,Option.some.injEq,Addr.mk.injEq] at hg
  rw [<- hg.1]; exact hh.lt
 | row o t r =>
  cases o
  ·obtain ⟨g',h1,h2⟩:=ROk.touched h hg.1 r.width_pos
   rw [hg.2] at h1
   cases h1; exact h2
  ·exact (World.ownsRow.lt h g hg).2
 | loop st R =>
  obtain ⟨l,rec,rfl,hl,_⟩:=h
  simp only [Ent.touch,Value.func.injEq,Fn.yield.injEq,and_true] at hg
  subst hg
  exact (Array.getElem?_eq_some_iff.1 hl).1
 | vec t cs =>
  obtain ⟨g',rfl,hh⟩:=h
  simp only [Ent.touch,Value.ownBlock,Option.some.injEq] at hg
  subst hg
  exact hh.lt
 | map kk vk m =>
  obtain ⟨g',es,clock,rfl,hh,_⟩:=h
  simp only [Ent.touch,Value.map.injEq,Option.some.injEq] at hg
  subst hg
  exact (Array.getElem?_eq_some_iff.1 hh).1
 | deep o t it d vs hole =>
  cases o
  ·rcases hg with ⟨h0,hg⟩ | ⟨i,r,u,h1,h2,h3,h4⟩
   ·obtain ⟨g',h1,h2⟩:=ROkV.touched h.row h0 h.len
    rw [hg] at h1; cases h1; exact h2
   ·obtain ⟨g',h5,h6⟩:=ROk.touched (h.at_ i r u h1 h3) h2 r.width_pos
    rw [h4] at h5; cases h5; exact h6
  ·rcases hg with hg | ⟨i,u,h1,h2,h3⟩
   ·exact (World.ownsRow.lt h.row g hg).2
   ·obtain ⟨r,hr⟩:=h.get h2
    exact (World.ownsRow.lt (h.at_ i r u hr h2 h1).1 g h3).2
theorem EntOk.kind {ρ:Nat->Value} {w:World} {v:Value} {e:Ent} (h:EntOk ρ w v e) {g:Nat} (hg:e.touch v g) (ds:Option (List Deferred)):w.heap[g]? ≠ some (.deferred ds):=by
 intro hd
 cases e with
 | box o t cells =>
  obtain ⟨g',rfl,hh⟩:=h
  simp only [Ent.touch,Value.pointer.injEq,Option.some.injEq,Addr.mk.injEq] at hg
  rw [<- hg.1] at hd
  unfold Has at hh
  rw [hd] at hh
  cases hh
 | row o t r =>
  cases o
  ·obtain ⟨A,c,rfl,_,hA⟩:=h
   obtain ⟨h0,hb⟩:=hg
   obtain ⟨b,off,rfl,hc⟩:=hA h0
   have hl:0<r.cells.length:=by rw [Row.cells_len]; exact Nat.mul_pos h0 r.width_pos
   have:=hc 0 _ (List.getElem?_eq_getElem hl)
   simp only [Value.ownBlock,Option.some.injEq] at hb
   subst hb
   simp [World.cell?,hd] at this
  ·rcases h.2 with ⟨rfl,_⟩ | ⟨g',cap,cur,rfl,_,hh,_⟩
   ·simp [Ent.touch,Value.ownBlock] at hg
   ·simp only [Ent.touch,Value.ownBlock,Option.some.injEq] at hg
    subst hg
    rw [hd] at hh
    cases hh
 | loop st R =>
  obtain ⟨l,rec,rfl,hl,_⟩:=h
  simp only [Ent.touch,Value.func.injEq,Fn.yield.injEq,and_true] at hg
  subst hg
  rw [hd] at hl
  cases hl
 | vec t cs =>
  obtain ⟨g',rfl,hh⟩:=h
  simp only [Ent.touch,Value.ownBlock,Option.some.injEq] at hg
  subst hg
  unfold Has at hh
  rw [hd] at hh
  cases hh
 | map kk vk m =>
  obtain ⟨g',es,clock,rfl,hh,_⟩:=h
  simp only [Ent.touch,Value.map.injEq,Option.some.injEq] at hg
  subst hg
  rw [hd] at hh
  cases hh
 | deep o t it d vs hole =>
  cases o
  ·rcases hg with ⟨h0,hg⟩ | ⟨i,r,u,h1,h2,h3,h4⟩
   ·obtain ⟨A,c,rfl,_,hA⟩:=h.row
    obtain ⟨b,off,rfl,hc⟩:=hA h0
    simp only [Value.ownBlock,Option.some.injEq] at hg
    subst hg
    exact cell_kind (hc 0 _ (List.getElem?_eq_getElem (by have:=h.len; omega))) ds hd
   ·exact (h.at_ i r u h1 h3).kind h2 h4 ds hd
  ·rcases hg with hg | ⟨i,u,h1,h2,h3⟩
   ·exact own_kind h.row hg ds hd
   ·obtain ⟨r,hr⟩:=h.get h2
    exact own_kind (h.at_ i r u hr h2 h1).1 h3 ds hd
theorem EntOk.keep {ρ:Nat->Value} {w w':World} {v:Value} {e:Ent} (h:EntOk ρ w v e) (hb:∀ g,e.touch v g->w'.heap[g]? = w.heap[g]?):EntOk ρ w' v e:=by
 cases e with
 | box o t cells =>
  obtain ⟨g,rfl,hh⟩:=h
  exact ⟨g,rfl,(hb g rfl).trans hh⟩
 | row o t r =>
  cases o
  ·obtain ⟨A,c,rfl,hlc,hA⟩:=h
   refine ⟨A,c,rfl,hlc,fun hr=>?_⟩
   obtain ⟨b,off,rfl,hc⟩:=hA hr
   refine ⟨b,off,rfl,fun j u hu=>?_⟩
   rw [<- hc j u hu]
   exact World.cell?_of_block (hb b ⟨hr,rfl⟩)
  ·exact ownsRow_keep' h hb
 | loop st R =>
  obtain ⟨l,rec,rfl,hl,rest⟩:=h
  exact ⟨l,rec,rfl,(hb l rfl).trans hl,rest⟩
 | vec t cs =>
  obtain ⟨g,rfl,hh⟩:=h
  exact ⟨g,rfl,(hb g rfl).trans hh⟩
 | map kk vk m =>
  obtain ⟨g,es,clock,rfl,hh,rest⟩:=h
  exact ⟨g,es,clock,rfl,(hb g rfl).trans hh,rest⟩
 | deep o t it d vs hole =>
  cases o
  ·exact DeepRead.keep (t:=t) (it:=it) (hole:=hole) h hb
  ·exact DeepOwn.keep h hb
 where
 ownsRow_keep' {w w':World} {b e size n:Nat} {v:Value} {xs:List Value} (h:w.ownsRow b e size v n xs) (hk:∀ g,v.ownBlock=some g->w'.heap[g]? = w.heap[g]?):w'.ownsRow b e size v n xs:=by
  refine ⟨h.1,h.2.imp id ?_⟩
  rintro ⟨g,cap,cur,rfl,hg,hh,rest⟩
  exact ⟨g,cap,cur,rfl,hg,(hk g (by simp [Value.ownBlock])).trans hh,rest⟩
theorem EntOk.congr {ρ ρ':Nat->Value} {w:World} {v:Value} {e:Ent} {n:Nat} (h:EntOk ρ w v e) (hk:e.kb n=true) (hρ:∀ k,k<n->ρ' k=ρ k):EntOk ρ' w v e:=by
 cases e with
 | box o t cells =>
  obtain ⟨g,rfl,hh⟩:=h
  simp only [Ent.kb] at hk
  exact ⟨g,rfl,by rw [z1k hρ cells hk]; exact hh⟩
 | row o t r=>cases o <;> exact h
 | loop st R=>exact h
 | vec t cs =>
  obtain ⟨g,rfl,hh⟩:=h
  simp only [Ent.kb] at hk
  exact ⟨g,rfl,by rw [z1k hρ cs hk]; exact hh⟩
 | map kk vk m=>exact h
 | deep o t it d vs hole=>cases o <;> exact h
structure HOk (ρ:Nat->Value) (hp:z0d) (w:World):Prop where
 one:∀ k,(ρ k).oneCell'=true
 ent:∀ k e,lk k hp=some e->EntOk ρ w (ρ k) e
 sep:∀ k e k' e',lk k hp=some e->lk k' hp=some e'->k ≠ k'->e.own=true->∀ g,e.touch (ρ k) g->¬ e'.touch (ρ k') g
structure Fr (S:Nat->Prop) (w0 w:World):Prop where
 os:w.os=w0.os
 tape:w.tape=w0.tape
 output:w.output=w0.output
 size:w0.heap.size <= w.heap.size
 block:∀ k,k<w0.heap.size->¬ S k->w.heap[k]? = w0.heap[k]?
theorem Fr.refl (S:Nat->Prop) (w:World):Fr S w w:=⟨rfl,rfl,rfl,Nat.le_refl _,fun _ _ _=>rfl⟩
theorem Fr.grown {S:Nat->Prop} {w0 w w':World} {row:Option Nat} (h:Fr S w0 w) (hg:w.grownBy w' row) (hr:∀ g,row=some g->S g ∨ w0.heap.size <= g):Fr S w0 w' :=
 ⟨hg.os.trans h.os,hg.tape.trans h.tape,hg.output.trans h.output,Nat.le_trans h.size hg.size,fun k hk hs=>by
  refine (hg.block k (Nat.lt_of_lt_of_le hk h.size) ?_).trans (h.block k hk hs)
  intro e
  rcases hr k e.symm with h | h
  ·exact hs h
  ·omega⟩
def mark (D:Nat):Deferred:={ target:=.collected D,args:=#[] }
structure Defs where
 ex:Bool
 ds:List Deferred
def MarksOk (B:Defs) (w0 w:World) (ds:List Deferred):Prop:=∃ Ds:List Nat,ds=Ds.map mark ++ B.ds/\Ds.Nodup/\(∀ D ∈ Ds,w0.heap.size <= D/\w.heap[D]? = some (.deferred (some [])))/\(B.ex=true->Ds=[])
theorem MarksOk.nil (B:Defs) (w0 w:World):MarksOk B w0 w B.ds:=⟨[],rfl,List.nodup_nil,(fun _ h=>by cases h),fun _=>rfl⟩
theorem MarksOk.keep {B:Defs} {w0 w w':World} {ds:List Deferred} (h:MarksOk B w0 w ds) (hk:∀ D:Nat,w.heap[D]? = some (Obj.deferred (some []))->w'.heap[D]? = w.heap[D]?):MarksOk B w0 w' ds:=by
 obtain ⟨Ds,h1,h2,h3,h4⟩:=h
 exact ⟨Ds,h1,h2,(fun D hD=>⟨(h3 D hD).1,(hk D (h3 D hD).2).trans (h3 D hD).2⟩),h4⟩
theorem MarksOk.grown {B:Defs} {w0 w w':World} {ds:List Deferred} {row:Option Nat} (h:MarksOk B w0 w ds) (hg:w.grownBy w' row) (hr:∀ g,row=some g->w.heap[g]? ≠ some (.deferred (some []))):MarksOk B w0 w' ds :=
 h.keep fun D hD=>hg.block D (Array.getElem?_eq_some_iff.1 hD).1 (fun e=>hr D e.symm hD)
structure Foot where
 o:Nat->Prop
 v:Nat->Prop
def Foot.Ok (S:Foot) (w0:World) (own:Bool) (g:Nat):Prop:=(S.o g ∨ w0.heap.size <= g) ∨ (own=false/\S.v g)
structure Sym (B:Defs) (w0:World) (S0:Foot) (N n0:Nat) (ρ0 ρ:Nat->Value) (s:St) (a:Act) (w:World):Prop where
 tm:∀ t v,lk t s.tm=some v->a.tmps[t]? = some (v.toV ρ)
 size:a.tmps.size=N
 defers:MarksOk B w0 w a.defers
 hp:HOk ρ s.hp w
 fr:Fr S0.o w0 w
 own:∀ k e,lk k s.hp=some e->∀ g,e.touch (ρ k) g->S0.Ok w0 e.own g
 le:n0 <= s.nk
 base:∀ k,k<n0->ρ k=ρ0 k
section
variable {B:Defs} {w0:World} {S0:Foot} {N n0:Nat} {ρ0:Nat->Value} {ρ:Nat->Value} {s:St} {a:Act} {w:World}
theorem Sym.ownO (h:Sym B w0 S0 N n0 ρ0 ρ s a w) {k:Nat} {e:Ent} (hl:lk k s.hp=some e) (ho:e.own=true) {g:Nat} (ht:e.touch (ρ k) g):S0.o g ∨ w0.heap.size <= g:=by
 rcases h.own k e hl g ht with h1 | ⟨h1,_⟩
 ·exact h1
 ·rw [ho] at h1; cases h1
theorem tmBelow_lk {n:Nat}:∀ {l:List (Nat × SV)},zcq n l=true->∀ {t:Nat} {v:SV},lk t l=some v->v.kb n=true
 | [],_,t,v,h=>by simp [lk] at h
 | (i,u) :: l,hb,t,v,h=>by
  simp only [zcq,Bool.and_eq_true] at hb
  rw [z0g] at h
  split at h
  ·cases h; exact hb.1
  ·exact tmBelow_lk hb.2 h
theorem zaq {n:Nat}:∀ {l:z0d},z31 n l=true->∀ {k:Nat} {e:Ent},lk k l=some e->k<n/\e.kb n=true
 | [],_,t,v,h=>by simp [lk] at h
 | (i,u) :: l,hb,t,v,h=>by
  simp only [z31,Bool.and_eq_true] at hb
  rw [z0g] at h
  split at h
  ·rename_i e; subst e; cases h; exact ⟨z1z hb.1.1,hb.1.2⟩
  ·exact zaq hb.2 h
theorem St.kb_tm (h:s.kb=true) {t:Nat} {v:SV} (hl:lk t s.tm=some v):v.kb s.nk=true:=by
 simp only [St.kb,Bool.and_eq_true] at h; exact tmBelow_lk h.1 hl
theorem St.kb_hp (h:s.kb=true) {k:Nat} {e:Ent} (hl:lk k s.hp=some e):k<s.nk/\e.kb s.nk=true:=by
 simp only [St.kb,Bool.and_eq_true] at h; exact zaq h.2 hl
theorem Sym.put (h:Sym B w0 S0 N n0 ρ0 ρ s a w) {d:Nat} (hd:d<N) (v:SV):Sym B w0 S0 N n0 ρ0 ρ { s with tm:=put d v s.tm } (a.put (some d) (v.toV ρ)) w:=by
 refine ⟨fun t u hu=>?_,by simp [Act.put,h.size],h.defers,h.hp,h.fr,h.own,h.le,h.base⟩
 simp only [Act.put]
 simp only [z51] at hu
 rw [Array.getElem?_setIfInBounds]
 split at hu
 ·rename_i e; subst e; cases hu; rw [if_pos rfl,if_pos (by rw [h.size]; exact hd)]
 ·rename_i e
  rw [if_neg (Ne.symm e)]; exact h.tm t u hu
theorem Sym.drop (h:Sym B w0 S0 N n0 ρ0 ρ s a w) (dst:Option Tmp):Sym B w0 S0 N n0 ρ0 ρ (z3s N dst s) (a.put dst undef) w:=by
 cases dst with
 | none=>exact h
 | some d =>
  simp only [z3s]
  cases hd:Nat.blt d N with
  | true =>
   have:=h.put (z1z hd) (.tup [])
   simpa [SV.toV,z0s,undef] using this
  | false =>
   refine ⟨fun t u hu=>?_,by simp [Act.put,h.size],h.defers,h.hp,h.fr,h.own,h.le,h.base⟩
   simp only [cond_false,zkn] at hu
   split at hu
   ·cases hu
   ·rename_i e
    simp only [Act.put,Array.getElem?_setIfInBounds]
    rw [if_neg (Ne.symm e)]; exact h.tm t u hu
theorem z0a {dst:Option Tmp} {v:SV} {K:St->Prop} (h:z1q N dst v s K) (hs:Sym B w0 S0 N n0 ρ0 ρ s a w) {K':Act->World->Prop}
  (hK:∀ s' ρ' a' w',Sym B w0 S0 N n0 ρ0 ρ' s' a' w'->K s'->K' a' w'):K' (a.put dst (v.toV ρ)) w:=by
 cases dst with
 | none=>exact hK s ρ a w hs h
 | some d =>
  simp only [z1q] at h
  cases hd:Nat.blt d N with
  | false=>rw [hd] at h; exact h.elim
  | true=>rw [hd] at h; exact hK _ ρ _ w (hs.put (z1z hd) v) h
theorem HOk.grown {hp:z0d} {w':World} (h:HOk ρ hp w) (hg:w.grownBy w' none):HOk ρ hp w' :=
 ⟨h.one,fun k e hl=>(h.ent k e hl).keep fun g ht=>hg.block g ((h.ent k e hl).lt ht) (by simp),h.sep⟩
theorem Sym.more (h:Sym B w0 S0 N n0 ρ0 ρ s a w) (hk:s.kb=true) {ρ':Nat->Value} {w':World} {hn:z0d} {n:Nat} (hnk:s.nk <= n) (hg:w.grownBy w' none)
  (hρ:∀ k,k<s.nk->ρ' k=ρ k) (hone:∀ k,(ρ' k).oneCell'=true) (hkeys:∀ k e,lk k hn=some e->s.nk <= k)
  (hent:∀ k e,lk k hn=some e->EntOk ρ' w' (ρ' k) e) (hnew:∀ k e,lk k hn=some e->∀ g,e.touch (ρ' k) g->w.heap.size <= g)
  (hsep:∀ k e k' e',lk k hn=some e->lk k' hn=some e'->k ≠ k'->∀ g,e.touch (ρ' k) g->¬ e'.touch (ρ' k') g) :
  Sym B w0 S0 N n0 ρ0 ρ' { tm:=s.tm,hp:=hn ++ s.hp,nk:=n } a w':=by
 have hold:∀ k e,lk k s.hp=some e->ρ' k=ρ k:=fun k e hl=>hρ k (s.kb_hp hk hl).1
 have hsp:∀ k e,lk k (hn ++ s.hp)=some e->lk k hn=some e ∨ (lk k hn=none/\lk k s.hp=some e):=by
  intro k e hl
  rw [z6m] at hl
  cases hn':lk k hn with
  | none=>rw [hn'] at hl; exact .inr ⟨rfl,hl⟩
  | some e'=>rw [hn'] at hl; exact .inl hl
 refine ⟨fun t v hv=>?_,h.size,h.defers.grown hg (by simp),⟨hone,fun k e hl=>?_,fun k e k' e' hl hl' hne ho g ht=>?_⟩,h.fr.grown hg (by simp),fun k e hl g ht=>?_,Nat.le_trans h.le hnk,fun k hk=>(hρ k (Nat.lt_of_lt_of_le hk h.le)).trans (h.base k hk)⟩
 ·rw [h.tm t v hv,z4x hρ v (s.kb_tm hk hv)]
 ·rcases hsp k e hl with hl | ⟨_,hl⟩
  ·exact hent k e hl
  ·have h1:=h.hp.ent k e hl
   rw [hold k e hl]
   exact (h1.keep fun g ht=>hg.block g (h1.lt ht) (by simp)).congr (s.kb_hp hk hl).2 hρ
 ·rcases hsp k e hl with hl | ⟨_,hl⟩ <;> rcases hsp k' e' hl' with hl' | ⟨_,hl'⟩
  ·exact hsep k e k' e' hl hl' hne g ht
  ·intro ht'
   have:=hnew k e hl g ht
   rw [hold k' e' hl'] at ht'
   have:=(h.hp.ent k' e' hl').lt ht'
   omega
  ·intro ht'
   have:=hnew k' e' hl' g ht'
   rw [hold k e hl] at ht
   have:=(h.hp.ent k e hl).lt ht
   omega
  ·intro ht'
   rw [hold k e hl] at ht
   rw [hold k' e' hl'] at ht'
   exact h.hp.sep k e k' e' hl hl' hne ho g ht ht'
 ·rcases hsp k e hl with hl | ⟨_,hl⟩
  ·exact .inl (.inr (Nat.le_trans h.fr.size (hnew k e hl g ht)))
  ·rw [hold k e hl] at ht
   exact h.own k e hl g ht
theorem Sym.turn (h:Sym B w0 S0 N n0 ρ0 ρ s a w) {k:Nat} {e e':Ent} {w':World} {g0:Nat} (hl:lk k s.hp=some e) (ho:e.own=true) (ho':e'.own=true) (hg:w.grownBy w' (some g0))
  (ht:∀ g,e'.touch (ρ k) g ↔ e.touch (ρ k) g) (hg0:e.touch (ρ k) g0) (hent:EntOk ρ w' (ρ k) e') :
  Sym B w0 S0 N n0 ρ0 ρ { s with hp:=Vc.put k e' s.hp } a w':=by
 refine ⟨h.tm,h.size,h.defers.grown hg (fun g e=>by cases e; exact (h.hp.ent k _ hl).kind hg0 _),⟨h.hp.one,fun j d hj=>?_,fun j d j' d' hj hj' hne hod g htg=>?_⟩,h.fr.grown hg (fun g hgg=>?_),fun j d hj g htg=>?_,h.le,h.base⟩
 ·simp only [z51] at hj
  split at hj
  ·rename_i e; subst e; cases hj; exact hent
  ·rename_i hjk
   exact (h.hp.ent j d hj).keep fun g hgt=>hg.block g ((h.hp.ent j d hj).lt hgt) (fun e=>by
    cases e
    exact h.hp.sep k _ j d hl hj (Ne.symm hjk) ho g0 hg0 hgt)
 ·simp only [z51] at hj hj'
  split at hj <;> split at hj'
  ·rename_i e1 e2; exact absurd (e1.trans e2.symm) hne
  ·rename_i e1 e2; subst e1; cases hj
   exact h.hp.sep j e j' d' hl hj' hne ho g ((ht g).1 htg)
  ·rename_i e1 e2; subst e2; cases hj'
   intro hh
   exact h.hp.sep j d j' e hj hl hne hod g htg ((ht g).1 hh)
  ·exact h.hp.sep j d j' d' hj hj' hne hod g htg
 ·cases hgg; exact h.ownO hl ho hg0
 ·simp only [z51] at hj
  split at hj
  ·rename_i e1; subst e1; cases hj
   exact .inl (h.ownO hl ho ((ht g).1 htg))
  ·exact h.own j d hj g htg
theorem Sym.turn0 (h:Sym B w0 S0 N n0 ρ0 ρ s a w) {k:Nat} {e e':Ent} (hl:lk k s.hp=some e) (ho:e.own=true) (ho':e'.own=true)
  (ht:∀ g,e'.touch (ρ k) g ↔ e.touch (ρ k) g) (hent:EntOk ρ w (ρ k) e') :
  Sym B w0 S0 N n0 ρ0 ρ { s with hp:=Vc.put k e' s.hp } a w:=by
 refine ⟨h.tm,h.size,h.defers,⟨h.hp.one,fun j d hj=>?_,fun j d j' d' hj hj' hne hod g htg=>?_⟩,h.fr,fun j d hj g htg=>?_,h.le,h.base⟩
 ·simp only [z51] at hj
  split at hj
  ·rename_i e; subst e; cases hj; exact hent
  ·exact h.hp.ent j d hj
 ·simp only [z51] at hj hj'
  split at hj <;> split at hj'
  ·rename_i e1 e2; exact absurd (e1.trans e2.symm) hne
  ·rename_i e1 e2; subst e1; cases hj
   exact h.hp.sep j e j' d' hl hj' hne ho g ((ht g).1 htg)
  ·rename_i e1 e2; subst e2; cases hj'
   intro hh
   exact h.hp.sep j d j' e hj hl hne hod g htg ((ht g).1 hh)
  ·exact h.hp.sep j d j' d' hj hj' hne hod g htg
 ·simp only [z51] at hj
  split at hj
  ·rename_i e1; subst e1; cases hj
   exact .inl (h.ownO hl ho ((ht g).1 htg))
  ·exact h.own j d hj g htg
theorem Sym.regroup (h:Sym B w0 S0 N n0 ρ0 ρ s a w) (hk:s.kb=true) {U:List Nat} {hn hp':z0d} {ρ':Nat->Value} {w':World} {row:Option Nat} {n:Nat} (hU:∀ k ∈ U,∃ e,lk k s.hp=some e/\e.own=true)
  (hg:w.grownBy w' row) (hrow:∀ g,row=some g->∃ k e,k ∈ U/\lk k s.hp=some e/\e.touch (ρ k) g) (hρ:∀ k,k<s.nk->ρ' k=ρ k) (hone:∀ k,(ρ' k).oneCell'=true)
  (hsp:∀ k e,lk k hp'=some e->lk k hn=some e ∨ (k ∉ U/\lk k s.hp=some e)) (hent:∀ k e,lk k hn=some e->EntOk ρ' w' (ρ' k) e)
  (htouch:∀ k e,lk k hn=some e->∀ g,e.touch (ρ' k) g->(∃ j d,j ∈ U/\lk j s.hp=some d/\d.touch (ρ j) g) ∨ w.heap.size <= g ∨ (e.own=false/\∃ j d,lk j s.hp=some d/\d.own=false/\d.touch (ρ j) g))
  (hsep:∀ k e k' e',lk k hn=some e->lk k' hn=some e'->k ≠ k'->e.own=true->∀ g,e.touch (ρ' k) g->¬ e'.touch (ρ' k') g) (hle:s.nk <= n) :
  Sym B w0 S0 N n0 ρ0 ρ' { tm:=s.tm,hp:=hp',nk:=n } a w':=by
 have hold:∀ k e,lk k s.hp=some e->ρ' k=ρ k:=fun k e hl=>hρ k (s.kb_hp hk hl).1
 have hUne:∀ g,row=some g->w.heap[g]? ≠ some (.deferred (some [])):=fun g e1=>by
  obtain ⟨k,e,_,hl,ht⟩:=hrow g e1
  exact (h.hp.ent k e hl).kind ht _
 refine ⟨fun t v hv=>?_,h.size,h.defers.grown hg hUne,⟨hone,fun k e hl=>?_,fun k e k' e' hl hl' hne ho g ht=>?_⟩,h.fr.grown hg (fun g e1=>?_),fun k e hl g ht=>?_,Nat.le_trans h.le hle,fun k hk=>(hρ k (Nat.lt_of_lt_of_le hk h.le)).trans (h.base k hk)⟩
 ·rw [h.tm t v hv,z4x hρ v (s.kb_tm hk hv)]
 ·rcases hsp k e hl with hl | ⟨hkU,hl⟩
  ·exact hent k e hl
  ·have h1:=h.hp.ent k e hl
   rw [hold k e hl]
   refine (h1.keep fun g ht=>hg.block g (h1.lt ht) fun e1=>?_).congr (s.kb_hp hk hl).2 hρ
   obtain ⟨j,d,hj,hlj,htj⟩:=hrow g e1.symm
   obtain ⟨d',hd',hod⟩:=hU j hj
   rw [hlj] at hd'; cases hd'
   exact h.hp.sep j d k e hlj hl (fun e=>hkU (e ▸ hj)) hod g htj ht
 ·have key:∀ k e,(k ∉ U/\lk k s.hp=some e)->∀ k' e',lk k' hn=some e'->e.own=true ∨ e'.own=true->∀ g,e.touch (ρ k) g->¬ e'.touch (ρ' k') g:=by
   rintro k e ⟨hkU,hl⟩ k' e' hl' ho g ht ht'
   rcases htouch k' e' hl' g ht' with ⟨j,d,hj,hlj,htj⟩ | h1 | ⟨h1,j,d,hlj,hod,htj⟩
   ·obtain ⟨d',hd',hod⟩:=hU j hj
    rw [hlj] at hd'; cases hd'
    exact h.hp.sep j d k e hlj hl (fun e=>hkU (e ▸ hj)) hod g htj ht
   ·have:=(h.hp.ent k e hl).lt ht; omega
   ·have ho:e.own=true:=ho.resolve_right (by simp [h1])
    refine h.hp.sep k e j d hl hlj (fun e1=>?_) ho g ht htj
    subst e1
    rw [hl] at hlj; cases hlj
    rw [hod] at ho; cases ho
  rcases hsp k e hl with hl | hl <;> rcases hsp k' e' hl' with hl' | hl'
  ·exact hsep k e k' e' hl hl' hne ho g ht
  ·intro ht'
   rw [hold k' e' hl'.2] at ht'
   exact key k' e' hl' k e hl (.inr ho) g ht' ht
  ·rw [hold k e hl.2] at ht
   exact key k e hl k' e' hl' (.inl ho) g ht
  ·rw [hold k e hl.2] at ht
   rw [hold k' e' hl'.2]
   exact h.hp.sep k e k' e' hl.2 hl'.2 hne ho g ht
 ·obtain ⟨j,d,hj,hlj,htj⟩:=hrow g e1
  obtain ⟨d',hd',hod⟩:=hU j hj
  rw [hlj] at hd'; cases hd'
  exact h.ownO hlj hod htj
 ·rcases hsp k e hl with hl | ⟨_,hl⟩
  ·rcases htouch k e hl g ht with ⟨j,d,hj,hlj,htj⟩ | h1 | ⟨h1,j,d,hlj,hod,htj⟩
   ·obtain ⟨d',hd',hod⟩:=hU j hj
    rw [hlj] at hd'; cases hd'
    exact .inl (h.ownO hlj hod htj)
   ·exact .inl (.inr (Nat.le_trans h.fr.size h1))
   ·have:=h.own j d hlj g htj
    rw [hod] at this
    rw [h1]; exact this
  ·rw [hold k e hl] at ht
   exact h.own k e hl g ht
theorem Sym.move (h:Sym B w0 S0 N n0 ρ0 ρ s a w) (hk:s.kb=true) {k:Nat} {e e':Ent} {w':World} {v':Value} (hl:lk k s.hp=some e) (ho:e.own=true) {row:Option Nat} (hg:w.grownBy w' row)
  (hrow:∀ g,row=some g->e.touch (ρ k) g) (hone:v'.oneCell'=true) (hkb:e'.kb s.nk=true) (hent:EntOk ρ w' v' e') (htouch:∀ g,e'.touch v' g->e.touch (ρ k) g ∨ w.heap.size <= g) :
  Sym B w0 S0 N n0 ρ0 (fun j=>if j=s.nk then v' else ρ j) { tm:=s.tm,hp:=(s.nk,e') :: del k s.hp,nk:=s.nk+1 } a w':=by
 have hρ:∀ j,j<s.nk->(fun j=>if j=s.nk then v' else ρ j) j=ρ j:=fun j hj=>by simp; omega
 have hold:∀ j d,lk j (del k s.hp)=some d->lk j s.hp=some d/\j ≠ k/\j ≠ s.nk:=by
  intro j d hj
  rw [zkn] at hj
  split at hj
  ·cases hj
  ·rename_i hjk
   exact ⟨hj,hjk,by have:=(s.kb_hp hk hj).1; omega⟩
 refine ⟨fun t v hv=>?_,h.size,h.defers.grown hg (fun g e1=>(h.hp.ent k _ hl).kind (hrow g e1) _),⟨fun j=>?_,fun j d hj=>?_,fun j d j' d' hj hj' hne hod g htg=>?_⟩,h.fr.grown hg (fun g hgg=>?_),fun j d hj g htg=>?_,Nat.le_succ_of_le h.le,fun k hk=>(hρ k (Nat.lt_of_lt_of_le hk h.le)).trans (h.base k hk)⟩
 ·rw [h.tm t v hv,z4x hρ v (s.kb_tm hk hv)]
 ·split
  ·exact hone
  ·exact h.hp.one j
 ·rw [z0g] at hj
  split at hj
  ·rename_i e1; subst e1; cases hj
   simp only [if_true]
   exact hent.congr hkb hρ
  ·obtain ⟨h1,h2,h3⟩:=hold j d hj
   simp only [h3,if_false]
   exact ((h.hp.ent j d h1).keep fun g hgt=>hg.block g ((h.hp.ent j d h1).lt hgt) (fun e1=>h.hp.sep k e j d hl h1 (Ne.symm h2) ho g (hrow g e1.symm) hgt)).congr (s.kb_hp hk h1).2 hρ
 ·rw [z0g] at hj hj'
  split at hj <;> split at hj'
  ·rename_i e1 e2; exact absurd (e1.trans e2.symm) hne
  ·rename_i e1 e2; subst e1; cases hj
   obtain ⟨h1,h2,h3⟩:=hold j' d' hj'
   simp only [if_true] at htg
   simp only [h3,if_false]
   rcases htouch g htg with ht | ht
   ·exact h.hp.sep k e j' d' hl h1 (Ne.symm h2) ho g ht
   ·intro hh; have:=(h.hp.ent j' d' h1).lt hh; omega
  ·rename_i e1 e2; subst e2; cases hj'
   obtain ⟨h1,h2,h3⟩:=hold j d hj
   simp only [h3,if_false] at htg
   simp only [if_true]
   intro hh
   rcases htouch g hh with ht | ht
   ·exact h.hp.sep k e j d hl h1 (Ne.symm h2) ho g ht htg
   ·have:=(h.hp.ent j d h1).lt htg; omega
  ·obtain ⟨h1,h2,h3⟩:=hold j d hj
   obtain ⟨h1',h2',h3'⟩:=hold j' d' hj'
   simp only [h3,if_false] at htg
   simp only [h3',if_false]
   exact h.hp.sep j d j' d' h1 h1' hne hod g htg
 ·exact h.ownO hl ho (hrow g hgg)
 ·rw [z0g] at hj
  split at hj
  ·rename_i e1; subst e1; cases hj
   simp only [if_true] at htg
   rcases htouch g htg with ht | ht
   ·exact .inl (h.ownO hl ho ht)
   ·exact .inl (.inr (Nat.le_trans h.fr.size ht))
  ·obtain ⟨h1,h2,h3⟩:=hold j d hj
   simp only [h3,if_false] at htg
   exact h.own j d h1 g htg
end
end Go.Vc
end
section
namespace Go.Vc
open Go Go.RowKit Go.Ql Go.Draw
section
variable {P:Program} {T:Tys} {B:Defs} {w0:World} {S0:Foot} {N n0:Nat} {ρ0:Nat->Value} {ρ:Nat->Value} {s:St} {a:Act} {w:World}
theorem TiOk.parts {t:TypeId} {ti:TI} (h:TiOk P t ti):∃ i,P.info? t=some i/\i.size=ti.zs.length/\i.zero=some ti.zero:=by
 have:=h.info
 cases hi:P.info? t with
 | none=>rw [hi] at this; cases this
 | some i =>
  rw [hi] at this
  simp only [Option.map_some,Option.some.injEq,Prod.mk.injEq] at this
  exact ⟨i,rfl,this.1,this.2⟩
theorem TiOk.undParts {t:TypeId} {ti:TI} (h:TiOk P t ti):∃ d,P.underlying t=some d/\aggD d=ti.agg/\z4n P d=ti.fs:=by
 have:=h.und
 cases hi:P.underlying t with
 | none=>rw [hi] at this; cases this
 | some i =>
  rw [hi] at this
  simp only [Option.map_some,Option.some.injEq,Prod.mk.injEq] at this
  exact ⟨i,rfl,this.1,this.2⟩
theorem TiOk.run_size {t:TypeId} {ti:TI} (h:TiOk P t ti) (w:World):(sizeOf t).run P w = .ok ti.zs.length w:=by
 obtain ⟨i,hi,hs,_⟩:=h.parts
 simp [sizeOf,typeInfo,hi,hs]
theorem TiOk.run_zero {t:TypeId} {ti:TI} (h:TiOk P t ti) (w:World):(zeroValue t).run P w = .ok ti.zero w:=by
 obtain ⟨i,hi,_,hz⟩:=h.parts
 simp [zeroValue,typeInfo,hi,hz]
theorem run_isAgg {t:TypeId} {d:TypeDesc} (h:P.underlying t=some d) (w:World):(isAgg t).run P w = .ok (aggD d) w:=by
 simp only [isAgg,Sem.run_bind,run_underlying h]
 cases d <;> rfl
theorem TiOk.run_isAgg {t:TypeId} {ti:TI} (h:TiOk P t ti) (w:World):(isAgg t).run P w = .ok ti.agg w:=by
 obtain ⟨d,hd,ha,_⟩:=h.undParts
 rw [Vc.run_isAgg hd,ha]
theorem z3l {v:Value} (h:v.oneCell'=true):v.cells = #[v]:=by cases v <;> first | rfl | simp [Value.oneCell'] at h
theorem TiOk.zero_cells {t:TypeId} {ti:TI} (h:TiOk P t ti):ti.zero.cells=(ti.zs.map Z.v).toArray:=by
 have h1:=h.ones
 have h2:=h.sing
 unfold TI.zero
 cases hg:ti.agg with
 | true=>rfl
 | false =>
  rw [hg] at h2
  simp only [Bool.false_eq_true,false_or] at h2
  match hz:ti.zs,h2 with
  | [z],_ =>
   rw [hz] at h1
   simp only [List.all_cons,List.all_nil,Bool.and_true] at h1
   exact z3l h1
theorem ofConst_toV (v:Value):(ofConst v).toV ρ=v:=by
 unfold ofConst
 split <;> simp [SV.toV]
theorem z0i (hs:Sym B w0 S0 N n0 ρ0 ρ s a w) {x:Operand} {v:SV} (h:ev s x=some v):a.eval x=v.toV ρ:=by
 cases x with
 | tmp t =>
  have:=hs.tm t v h
  simp [Act.eval,Array.getD_eq_getD_getElem?,this]
 | const u=>cases h; exact (ofConst_toV u).symm
 | global g=>cases h
 | func f=>cases h; simp [Act.eval,SV.toV,z0s]
theorem z4m (hs:Sym B w0 S0 N n0 ρ0 ρ s a w):∀ {l:List Operand} {vs:List SV},evs s l=some vs->l.map a.eval=z0s ρ vs
 | [],vs,h=>by cases h; simp [z0s]
 | x :: l,vs,h=>by
  unfold evs at h
  split at h
  ·rename_i v us h1 h2
   cases h
   simp only [List.map_cons,z0s,z0i hs h1,z4m hs h2]
  ·cases h
theorem z11 {o:Oper} {v:Value} {w':World} {K':Act->World->Prop} {Q:Exit->Act->World->Prop} (h:(execOp a.eval o).run P w = .ok (.value v) w') (hK:K' (a.put o.dst v) w'):o.wp P a w K' Q:=by
 unfold Oper.wp; rw [h]; exact hK
theorem z4h (w:World) (row:Option Nat):w.grownBy w row:=⟨rfl,rfl,rfl,Nat.le_refl _,fun _ _ _=>rfl⟩
theorem isNil_eq {u:Value} (h:zdh u=true):u = .slice none 0 0:=by
 unfold zdh at h; split at h <;> first | rfl | cases h
theorem empty_len (rk:RK):rk.empty.len=0:=by cases rk <;> rfl
theorem zjz (rk:RK):rk.empty.cells=[]:=by cases rk <;> rfl
theorem zjm:∀ (n:Nat) (l:List Value),lenL ((zjl l).take n)=lenL (l.take n)
 | 0,_=>by simp [lenL]
 | _+1,[]=>rfl
 | n+1,_ :: l=>by simp only [zjl,List.take_succ_cons,lenL,zjm n l]
theorem obj_width (v:Value) (vs:List Value):lenL (z81 .bool (zjl vs))=lenL (fiveV v vs):=by
 unfold z81 fiveV
 simp only [List.take_succ_cons,lenL,zjm]
theorem empty_width (rk:RK):rk.empty.width=rk.width:=by
 cases rk with
 | obj v vs=>exact obj_width v vs
 | _=>rfl
theorem EntOk_nil0 (w:World) (e:TypeId) (rk:RK):EntOk ρ w (.slice none 0 0) (.row true e rk.empty):=by
 show w.ownsRow 0 e _ _ _ _
 rw [empty_len,zjz]
 exact World.ownsRow_nil w 0 e _
theorem inner_rows {rk:RK} {d:DK} (h:rk.inner=some d):d.rows=[]:=by
 unfold RK.inner at h
 split at h <;> first | (cases h; rfl) | cases h
theorem DeepOwn_nil (w:World) (t it:TypeId) {d:DK} (hd:d.rows=[]):DeepOwn w (.slice none 0 0) t it d [] none :=
 ⟨World.ownsRow_nil w 0 t _,by rw [hd]; rfl,fun i r u h=>by rw [hd] at h; simp at h,fun i j u u' h=>by simp at h,fun u h=>by simp at h⟩
theorem ziu (w:World) (e:TypeId) (rk:RK):EntOk ρ w (.slice none 0 0) (rk.ent e):=by
 unfold RK.ent
 split
 ·rename_i d hd
  split
  ·exact DeepOwn_nil w _ _ (inner_rows hd)
  ·exact EntOk_nil0 w e _
 ·exact EntOk_nil0 w e rk
theorem z3j (e:TypeId) (rk:RK) (g:Nat):¬ (rk.ent e).touch (.slice none 0 0) g:=by
 unfold RK.ent
 intro h
 split at h
 ·split at h
  ·rcases h with h | ⟨i,u,_,h,_⟩
   ·simp [Value.ownBlock] at h
   ·simp at h
  ·simp [Ent.touch,Value.ownBlock] at h
 ·simp [Ent.touch,Value.ownBlock] at h
theorem Sym.newEnt (hs:Sym B w0 S0 N n0 ρ0 ρ s a w) (hk:s.kb=true) {d:Ent} {v:Value} {w':World} (hg:w.grownBy w' none) (hent:∀ ρ':Nat->Value,EntOk ρ' w' v d) (hone:v.oneCell'=true)
  (hnew:∀ g,d.touch v g->w.heap.size <= g) :
  ∃ ρ',Sym B w0 S0 N n0 ρ0 ρ' { tm:=s.tm,hp:=(s.nk,d) :: s.hp,nk:=s.nk+1 } a w'/\ρ' s.nk=v/\∀ k,k<s.nk->ρ' k=ρ k:=by
 have hl:∀ k d',lk k [(s.nk,d)]=some d'->k=s.nk/\d'=d:=by
  intro k d' hd
  rw [z0g] at hd
  split at hd
  ·rename_i e1; cases hd; exact ⟨e1,rfl⟩
  ·simp [lk] at hd
 refine ⟨fun j=>if j=s.nk then v else ρ j,?_,by simp,fun k hk=>by simp; omega⟩
 refine hs.more hk (Nat.le_succ _) hg (hn:=[(s.nk,d)]) (fun k hk=>by simp; omega) (fun k=>?_) (fun k d hd=>?_) (fun k d hd=>?_) (fun k d hd g hg=>?_) (fun k d k' d' hd hd' hne g hg=>?_)
 ·split
  ·exact hone
  ·exact hs.hp.one k
 ·obtain ⟨rfl,rfl⟩:=hl k d hd; exact Nat.le_refl _
 ·obtain ⟨rfl,rfl⟩:=hl k d hd; simp only [if_true]; exact hent _
 ·obtain ⟨rfl,rfl⟩:=hl k d hd
  simp only [if_true] at hg
  exact hnew g hg
 ·obtain ⟨rfl,rfl⟩:=hl k d hd
  obtain ⟨rfl,_⟩:=hl k' d' hd'
  exact absurd rfl hne
theorem zdm {ty:TypeId} {v:SV} {K:SV->St->Prop} (h:nrm T ty v s K) (hs:Sym B w0 S0 N n0 ρ0 ρ s a w) :
  ∃ v' s' ρ',K v' s'/\Sym B w0 S0 N n0 ρ0 ρ' s' a w/\v'.toV ρ'=v.toV ρ/\(∀ k,k<s.nk->ρ' k=ρ k)/\s.nk <= s'.nk:=by
 unfold nrm at h
 split at h
 ·rename_i u
  cases hu:zdh u with
  | false=>rw [hu] at h; exact ⟨_,s,ρ,h,hs,rfl,fun _ _=>rfl,Nat.le_refl _⟩
  | true =>
   rw [hu] at h
   simp only [cond_true] at h
   split at h
   ·rename_i e rk _ _ _ _
    cases hk:s.kb with
    | false=>rw [hk] at h; exact h.elim
    | true =>
     rw [hk] at h
     obtain ⟨ρ',h1,h2,h3⟩:=hs.newEnt hk (z4h w none) (fun ρ'=>ziu w e rk) rfl (fun g hg=>absurd hg (z3j e rk g))
     exact ⟨_,_,ρ',h,h1,by simp [SV.toV,isNil_eq hu,h2],h3,by simp⟩
   ·exact h.elim
 ·exact ⟨_,s,ρ,h,hs,rfl,fun _ _=>rfl,Nat.le_refl _⟩
theorem z8x:∀ (zs:List Z) (nk:Nat) (cells:List SV) (h:z0d) (n:Nat),zgx zs nk=(cells,h,n) ->
  nk <= n/\(∀ ρ:Nat->Value,(∀ k,nk <= k->k<n->ρ k = .slice none 0 0)->z0s ρ cells=zs.map Z.v)/\(∀ k e,lk k h=some e->nk <= k/\k<n/\∃ t rk,e=RK.ent t rk)/\kbs n cells=true
 | [],nk,cells,h,n,hz=>by
  cases hz
  exact ⟨Nat.le_refl _,fun _ _=>by simp [z0s],fun k e hl=>by simp [lk] at hl,rfl⟩
 | z :: l,nk,cells,h,n,hz=>by
  have plain:∀ (v:SV) (u:Value) (c:List SV),(∀ ρ,v.toV ρ=u)->(∀ m,v.kb m=true)->zgx l nk=(c,h,n)->cells=v :: c->Z.v z=u->nk <= n/\(∀ ρ:Nat->Value,(∀ k,nk <= k->k<n->ρ k = .slice none 0 0)->z0s ρ cells=(z :: l).map Z.v)/\(∀ k e,lk k h=some e->nk <= k/\k<n/\∃ t rk,e=RK.ent t rk)/\kbs n cells=true:=by
   intro v u c hv hkv hc he hu
   obtain ⟨h1,h2,h3,h4⟩:=z8x l nk c h n hc
   subst he
   refine ⟨h1,fun ρ hρ=>?_,h3,by simp [kbs,hkv,h4]⟩
   simp [z0s,hv,h2 ρ hρ,hu]
  cases hzl:zgx l nk with
  | mk c hn =>
  obtain ⟨h',n'⟩:=hn
  unfold zgx at hz
  cases z with
  | int k=>rw [hzl] at hz; cases hz; exact plain (.int k 0) _ _ (fun _=>by simp only [SV.toV]; rfl) (fun _=>rfl) hzl rfl rfl
  | bool=>rw [hzl] at hz; cases hz; exact plain .ff _ _ (fun _=>by simp only [SV.toV]; rfl) (fun _=>rfl) hzl rfl rfl
  | map kk vk=>rw [hzl] at hz; cases hz; exact plain (.val (.map none)) (.map none) _ (fun _=>by simp only [SV.toV]) (fun _=>rfl) hzl rfl rfl
  | val v=>rw [hzl] at hz; cases hz; exact plain (.val v) v _ (fun _=>by simp only [SV.toV]) (fun _=>rfl) hzl rfl rfl
  | slice e rk =>
   simp only [Prod.mk.injEq] at hz
   obtain ⟨rfl,rfl,rfl⟩:=hz
   obtain ⟨h1,h2,h3,h4⟩:=z8x l (nk+1) _ _ _ rfl
   refine ⟨by omega,fun ρ hρ=>?_,fun k e hl=>?_,?_⟩
   ·rw [z0s,h2 ρ (fun k hk hk'=>hρ k (by omega) hk')]
    simp [SV.toV,hρ nk (Nat.le_refl _) (by omega),Z.v]
   ·rw [z0g] at hl
    split at hl
    ·rename_i e1; subst e1; cases hl; exact ⟨Nat.le_refl _,by omega,_,_,rfl⟩
    ·obtain ⟨a1,a2,a3⟩:=h3 k e hl; exact ⟨by omega,a2,a3⟩
   ·simp only [kbs,SV.kb,Bool.and_eq_true]
    exact ⟨by simp [Nat.blt_eq]; omega,h4⟩
theorem move_sound {o:Oper} {x:Operand} {K:St->Prop} (ho:o.op = .move x ∨ o.op = .assign x) (h:(match ev s x with | some v=>nrm T o.type v s fun v s=>z1q N o.dst v s K | none=>False)) (hs:Sym B w0 S0 N n0 ρ0 ρ s a w)
  {K':Act->World->Prop} {Q:Exit->Act->World->Prop} (hK:∀ s' ρ' a' w',Sym B w0 S0 N n0 ρ0 ρ' s' a' w'->K s'->K' a' w'):o.wp P a w K' Q:=by
 split at h
 ·rename_i v hv
  obtain ⟨v',s',ρ',hk,hs',hv',_⟩:=zdm h hs
  have he:=z0i hs hv
  refine z11 (v:=v'.toV ρ') (w':=w) ?_ (z0a hk hs' hK)
  rw [hv',<- he]
  rcases ho with ho | ho <;> simp [execOp,ho]
 ·exact h.elim
theorem zjk {v:SV} {b:Bool} (h:zb9 v=some b):v.toV ρ = .bool b:=by
 cases v <;> simp [zb9] at h <;> subst h <;> simp [SV.toV]
theorem pick_sound {o:Oper} {c x y:Operand} {K:St->Prop} (ho:o.op = .pick c x y) {Γ:z0c} (h:z3h T Γ N o s K) (hs:Sym B w0 S0 N n0 ρ0 ρ s a w)
  {K':Act->World->Prop} {Q:Exit->Act->World->Prop} (hK:∀ s' ρ' a' w',Sym B w0 S0 N n0 ρ0 ρ' s' a' w'->K s'->K' a' w'):o.wp P a w K' Q:=by
 unfold z3h at h
 rw [ho] at h
 simp only at h
 split at h
 ·rename_i hc
  split at h
  ·rename_i v hv
   refine z11 (v:=v.toV ρ) (w':=w) ?_ (z0a h hs hK)
   simp [execOp,ho,z0i hs hc,z0i hs hv,SV.toV,asBool]
  ·exact h.elim
 ·rename_i hc
  split at h
  ·rename_i v hv
   refine z11 (v:=v.toV ρ) (w':=w) ?_ (z0a h hs hK)
   simp [execOp,ho,z0i hs hc,z0i hs hv,SV.toV,asBool]
  ·exact h.elim
 ·rename_i b hc
  split at h
  ·rename_i v u hv hu
   split at h
   ·rename_i p q hp hq
    refine z11 (v:=SV.toV ρ (.bool (bif b then p else q))) (w':=w) ?_ (z0a h hs hK)
    have e1:=z0i hs hv
    have e2:=z0i hs hu
    rw [zjk hp] at e1
    rw [zjk hq] at e2
    cases b <;> simp [execOp,ho,z0i hs hc,e1,e2,SV.toV,asBool]
   ·exact h.elim
  ·exact h.elim
 ·exact h.elim
theorem Sym.newBlock (hs:Sym B w0 S0 N n0 ρ0 ρ s a w) (hk:s.kb=true) {cells:List SV} {h:z0d} {n:Nat} {ty:TypeId} (hn:s.nk <= n)
  (hh:∀ k e,lk k h=some e->s.nk <= k/\k<n/\∃ t rk,e=RK.ent t rk) (hkb:kbs n cells=true) {cs:Array Value}
  (hcs:∀ ρ':Nat->Value,(∀ k,k<s.nk->ρ' k=ρ k)->(∀ k,s.nk <= k->k<n->ρ' k = .slice none 0 0)->(z0s ρ' cells).toArray=cs) :
  ∃ ρ',Sym B w0 S0 N n0 ρ0 ρ' { tm:=s.tm,hp:=(n,.box true ty cells) :: (h ++ s.hp),nk:=n+1 } a (w.alloc (.cells cs ty))/\SV.toV ρ' (.ptr n 0 0 0) = .pointer (some ⟨w.heap.size,0,none⟩):=by
 let ρ':Nat->Value:=fun k=>if k<s.nk then ρ k else if k<n then .slice none 0 0 else .pointer (some ⟨w.heap.size,0,none⟩)
 have r1:∀ k,k<s.nk->ρ' k=ρ k:=fun k hk=>by simp [ρ',hk]
 have r2:∀ k,s.nk <= k->k<n->ρ' k = .slice none 0 0:=fun k h1 h2=>by simp only [ρ']; rw [if_neg (by omega),if_pos h2]
 have r3:ρ' n = .pointer (some ⟨w.heap.size,0,none⟩):=by simp only [ρ']; rw [if_neg (by omega),if_neg (by omega)]
 have hsp:∀ k e,lk k ((n,Ent.box true ty cells) :: h)=some e->(k=n/\e = .box true ty cells) ∨ (s.nk <= k/\k<n/\∃ t rk,e=RK.ent t rk):=by
  intro k e hl
  rw [z0g] at hl
  split at hl
  ·rename_i e1; cases hl; exact .inl ⟨e1,rfl⟩
  ·exact .inr (hh k e hl)
 refine ⟨ρ',?_,by simp [SV.toV,r3,z3x]⟩
 have:=hs.more (ρ':=ρ') (w':=w.alloc (.cells cs ty)) (hn:=(n,Ent.box true ty cells) :: h) (n:=n+1) hk (by omega) (World.grownBy_alloc w _ none) r1 (fun k=>?_) (fun k e hl=>?_) (fun k e hl=>?_) (fun k e hl g hg=>?_) (fun k e k' e' hl hl' hne g hg=>?_)
 ·simpa using this
 ·simp only [ρ']
  split
  ·exact hs.hp.one k
  ·split <;> rfl
 ·rcases hsp k e hl with ⟨rfl,_⟩ | ⟨h1,_⟩
  ·exact hn
  ·exact h1
 ·rcases hsp k e hl with ⟨rfl,rfl⟩ | ⟨h1,h2,t,rk,rfl⟩
  ·rw [r3]
   exact ⟨w.heap.size,rfl,by rw [hcs ρ' r1 r2]; exact Has.new w ty cs⟩
  ·rw [r2 k h1 h2]; exact ziu _ t rk
 ·rcases hsp k e hl with ⟨rfl,rfl⟩ | ⟨h1,h2,t,rk,rfl⟩
  ·rw [r3] at hg
   simp only [Ent.touch,Value.pointer.injEq,Option.some.injEq,Addr.mk.injEq] at hg
   omega
  ·rw [r2 k h1 h2] at hg; exact absurd hg (z3j t rk g)
 ·rcases hsp k e hl with ⟨rfl,rfl⟩ | ⟨h1,h2,t,rk,rfl⟩
  ·rcases hsp k' e' hl' with ⟨rfl,rfl⟩ | ⟨h1,h2,t,rk,rfl⟩
   ·exact absurd rfl hne
   ·rw [r2 k' h1 h2]; exact z3j t rk g
  ·rw [r2 k h1 h2] at hg; exact absurd hg (z3j t rk g)
theorem Sym.newRow (hs:Sym B w0 S0 N n0 ρ0 ρ s a w) (hk:s.kb=true) {e:TypeId} {r:Row} {v:Value} {w':World} (hg:w.grownBy w' none) (hown:w'.ownsRow 0 e r.width v r.len r.cells) (hone:v.oneCell'=true)
  (hnew:∀ g,v.ownBlock=some g->w.heap.size <= g) :
  ∃ ρ',Sym B w0 S0 N n0 ρ0 ρ' { tm:=s.tm,hp:=(s.nk,.row true e r) :: s.hp,nk:=s.nk+1 } a w'/\SV.toV ρ' (.row s.nk)=v:=by
 have hl:∀ k d,lk k [(s.nk,Ent.row true e r)]=some d->k=s.nk/\d = .row true e r:=by
  intro k d hd
  rw [z0g] at hd
  split at hd
  ·rename_i e1; cases hd; exact ⟨e1,rfl⟩
  ·simp [lk] at hd
 refine ⟨fun j=>if j=s.nk then v else ρ j,?_,by simp [SV.toV]⟩
 refine hs.more hk (Nat.le_succ _) hg (hn:=[(s.nk,Ent.row true e r)]) (fun k hk=>by simp; omega) (fun k=>?_) (fun k d hd=>?_) (fun k d hd=>?_) (fun k d hd g hg=>?_) (fun k d k' d' hd hd' hne g hg=>?_)
 ·split
  ·exact hone
  ·exact hs.hp.one k
 ·obtain ⟨rfl,rfl⟩:=hl k d hd; exact Nat.le_refl _
 ·obtain ⟨rfl,rfl⟩:=hl k d hd; simp only [if_true]; exact hown
 ·obtain ⟨rfl,rfl⟩:=hl k d hd
  simp only [if_true,Ent.touch] at hg
  exact hnew g hg
 ·obtain ⟨rfl,rfl⟩:=hl k d hd
  obtain ⟨rfl,_⟩:=hl k' d' hd'
  exact absurd rfl hne
theorem alloc_sound {o:Oper} {ty:TypeId} {K:St->Prop} (hT:z5w P T) (ho:o.op = .alloc ty) {Γ:z0c} (h:z3h T Γ N o s K) (hs:Sym B w0 S0 N n0 ρ0 ρ s a w)
  {K':Act->World->Prop} {Q:Exit->Act->World->Prop} (hK:∀ s' ρ' a' w',Sym B w0 S0 N n0 ρ0 ρ' s' a' w'->K s'->K' a' w'):o.wp P a w K' Q:=by
 unfold z3h at h
 rw [ho] at h
 simp only at h
 split at h
 ·rename_i ti hti
  cases hk:s.kb with
  | false=>rw [hk] at h; exact h.elim
  | true =>
   rw [hk] at h
   cases hz:zgx ti.zs s.nk with
   | mk cells hn =>
   obtain ⟨hh,n⟩:=hn
   rw [hz] at h
   simp only [cond_true] at h
   obtain ⟨z1,z2,z3,z4⟩:=z8x _ _ _ _ _ hz
   have ht:=hT ty ti hti
   obtain ⟨ρ',hs',hv⟩:=hs.newBlock hk (ty:=ty) (cs:=ti.zero.cells) z1 z3 z4 (fun ρ' _ h2=>by rw [z2 ρ' h2,ht.zero_cells])
   refine z11 (w':=w.alloc (.cells ti.zero.cells ty)) ?_ (z0a h hs' hK)
   rw [hv]
   simp [execOp,ho,Instr.alloc,ht.run_zero,newVar,newRow]
 ·exact h.elim
theorem z5l (v:SV) (h:z2s v.cells=true) (hone:∀ k,(ρ k).oneCell'=true):(v.toV ρ).cells=(z0s ρ v.cells).toArray:=by
 cases v with
 | agg l=>simp [SV.toV,SV.cells,Value.cells]
 | tup l=>simp [SV.cells,z2s,SV.one] at h
 | row k=>simp only [SV.toV,SV.cells,z0s]; exact z3l (hone k)
 | val u =>
  simp only [SV.cells,z2s,SV.one,Bool.and_true] at h
  simp only [SV.toV,SV.cells,z0s]; exact z3l h
 | _=>simp [SV.toV,SV.cells,z0s,Value.cells]
theorem one_toV {v:SV} (h:v.one=true) (hone:∀ k,(ρ k).oneCell'=true):(v.toV ρ).oneCell'=true:=by
 cases v with
 | agg l=>simp [SV.one] at h
 | tup l=>simp [SV.one] at h
 | row k=>exact hone k
 | val u=>exact h
 | _=>simp [SV.toV,Value.oneCell']
theorem zbr (hone:∀ k,(ρ k).oneCell'=true):∀ {l:List SV},z2s l=true->∀ u ∈ z0s ρ l,u.oneCell'=true
 | [],_,u,hu=>by simp [z0s] at hu
 | s :: l,h,u,hu=>by
  simp only [z2s,Bool.and_eq_true] at h
  simp only [z0s,List.mem_cons] at hu
  rcases hu with rfl | hu
  ·exact one_toV h.1 hone
  ·exact zbr hone h.2 u hu
theorem box_sound {o:Oper} {ty:TypeId} {x:Operand} {K:St->Prop} (ho:o.op = .box ty x) {Γ:z0c} (h:z3h T Γ N o s K) (hs:Sym B w0 S0 N n0 ρ0 ρ s a w)
  {K':Act->World->Prop} {Q:Exit->Act->World->Prop} (hK:∀ s' ρ' a' w',Sym B w0 S0 N n0 ρ0 ρ' s' a' w'->K s'->K' a' w'):o.wp P a w K' Q:=by
 unfold z3h at h
 rw [ho] at h
 simp only at h
 split at h
 ·rename_i v hv
  cases hk:(s.kb && z2s v.cells && kbs s.nk v.cells) with
  | false=>rw [hk] at h; exact h.elim
  | true =>
   rw [hk] at h
   simp only [cond_true] at h
   simp only [Bool.and_eq_true] at hk
   obtain ⟨⟨k1,k2⟩,k3⟩:=hk
   obtain ⟨ρ',hs',hv'⟩:=hs.newBlock k1 (ty:=ty) (cs:=(v.toV ρ).cells) (h:=[]) (Nat.le_refl _) (fun k e hl=>by simp [lk] at hl) k3 (fun ρ' h1 _=>by rw [z1k h1 _ k3,z5l v k2 hs.hp.one])
   refine z11 (w':=w.alloc (.cells (v.toV ρ).cells ty)) ?_ (z0a h hs' hK)
   rw [hv']
   simp [execOp,ho,Instr.box,newVar,newRow,z0i hs hv]
 ·exact h.elim
end
end Go.Vc
end
section
namespace Go.Vc
open Go Go.RowKit Go.Ql Go.Draw
theorem zhw {α:Type} (f:α->List Value) (n:Nat) (hf:∀ x,(f x).length=n):∀ (xs:List α) (i:Nat) (x:α),xs[i]? = some x->∀ j,j<n->(xs.flatMap f)[i * n+j]? = (f x)[j]?
 | [],i,x,h,j,_=>by simp at h
 | y :: xs,0,x,h,j,hj=>by
  simp at h
  subst h
  rw [List.flatMap_cons,Nat.zero_mul,Nat.zero_add,List.getElem?_append_left (by rw [hf]; exact hj)]
 | y :: xs,i+1,x,h,j,hj=>by
  rw [List.flatMap_cons,List.getElem?_append_right (by rw [hf,Nat.add_mul]; omega)]
  have:(i+1) * n+j - (f y).length=i * n+j:=by rw [hf,Nat.add_mul]; omega
  rw [this]
  exact zhw f n hf xs i x (by simpa using h) j hj
theorem flat_split {α:Type} (f:α->List Value) (n:Nat) (hf:∀ x,(f x).length=n):∀ (xs:List α) (i:Nat) (x:α),xs[i]? = some x ->
  ∃ A B,xs.flatMap f=A ++ f x ++ B/\A.length=i * n/\∀ y,(xs.set i y).flatMap f=A ++ f y ++ B
 | [],i,x,h=>by simp at h
 | y :: xs,0,x,h=>by
  simp at h
  subst h
  exact ⟨[],xs.flatMap f,by simp,by simp,fun z=>by simp⟩
 | y :: xs,i+1,x,h=>by
  obtain ⟨A,B,h1,h2,h3⟩:=flat_split f n hf xs i x (by simpa using h)
  exact ⟨f y ++ A,B,by rw [List.flatMap_cons,h1]; simp,by rw [List.length_append,hf,h2,Nat.add_mul]; omega,fun z=>by rw [List.set_cons_succ,List.flatMap_cons,h3]; simp⟩
theorem splice (A F B vs:List Value) (fld:Nat) (h:fld+vs.length <= F.length) :
  A ++ (F.take fld ++ vs ++ F.drop (fld+vs.length)) ++ B=(A ++ F ++ B).take (A.length+fld) ++ vs ++ (A ++ F ++ B).drop (A.length+fld+vs.length):=by
 have e1:(A ++ F ++ B).take (A.length+fld)=A ++ F.take fld:=by
  rw [List.append_assoc,List.take_append,List.take_of_length_le (by omega),List.take_append]
  simp only [Nat.add_sub_cancel_left]
  rw [show fld - F.length=0 by omega]; simp
 have e2:(A ++ F ++ B).drop (A.length+fld+vs.length)=F.drop (fld+vs.length) ++ B:=by
  rw [List.append_assoc,List.drop_append,List.drop_of_length_le (by omega),List.drop_append]
  rw [show A.length+fld+vs.length - A.length=fld+vs.length by omega,show fld+vs.length - F.length=0 by omega]; simp
 rw [e1,e2]; simp
theorem z76 {α:Type} (f:α->Value) (xs:List α):xs.map f=xs.flatMap fun x=>[f x]:=by
 induction xs with
 | nil=>rfl
 | cons x xs ih=>rw [List.map_cons,List.flatMap_cons,ih]; rfl
section
variable {ρ:Nat->Value} {w:World}
theorem z13 {α:Type} {xs:List α} {i:Nat} (h:i<xs.length):∃ x,xs[i]? = some x:=⟨xs[i],List.getElem?_eq_getElem h⟩
theorem zde {α:Type} {f:α->List Value} {enc:α->List SV} {n:Nat} {xs:List α} {i:Nat} {x:α} (hf:∀ x,(f x).length=n) (he:∀ x,z0s ρ (enc x)=f x) (hx:xs[i]? = some x) :
  (enc x).length=n/\∀ j u,(enc x)[j]? = some u->(xs.flatMap f)[i * n+j]? = some (u.toV ρ):=by
 have hl:(enc x).length=n:=by rw [<- hf x,<- he x,z0u,List.length_map]
 refine ⟨hl,fun j u hu=>?_⟩
 have hj:j<n:=by rw [<- hl]; exact (List.getElem?_eq_some_iff.1 hu).1
 rw [zhw f n hf xs i x hx j hj,<- he x,z0u,List.getElem?_map,hu]
 rfl
theorem zfa {v:SV} {b:Bool} (h:zb9 v=some b):v.toV ρ = .bool b:=by
 cases v <;> simp [zb9] at h <;> subst h <;> simp [SV.toV]
theorem sv_toV (vk:MK) (n:Int):(vk.sv n).toV ρ=vk.enc n:=by cases vk <;> simp [MK.sv,MK.enc,SV.toV]
theorem recS_toV:∀ (ks:List MK) (x:List Int),z0s ρ (recS ks x)=recV ks x
 | [],_=>rfl
 | k :: ks,x=>by simp only [recS,recV,z0s,sv_toV,recS_toV ks]
theorem valS_sound {vk:MK} {v:SV} {n:Int} (h:valS vk v=some n):v.toV ρ=vk.enc n:=by
 cases vk with
 | bool =>
  simp only [valS] at h
  split at h
  ·rename_i b hb
   cases h
   rw [zfa hb]
   cases b <;> rfl
  ·cases h
 | int k =>
  cases v with
  | int k' m =>
   simp only [valS] at h
   cases hk:kEq k k' with
   | false=>rw [hk] at h; cases h
   | true =>
    rw [hk] at h
    cases h
    rw [z5n hk]
    simp [SV.toV,MK.enc]
  | _=>simp [valS] at h
 | fn =>
  cases v with
  | fn g caps =>
   cases caps with
   | nil =>
    simp only [valS,Option.some.injEq] at h
    subst h
    simp only [SV.toV,z0s,MK.enc,fnV]
    rw [if_neg (by omega),show ((g:Int)+1).toNat - 1=g by omega]
   | cons _ _=>simp [valS] at h
  | _=>simp [valS] at h
theorem zcr:∀ {ks:List MK} {vs:List SV} {a:List Int},valsS ks vs=some a->z0s ρ vs=recV ks a/\vs.length=lenL ks
 | [],[],a,h=>by cases h; exact ⟨rfl,rfl⟩
 | [],_ :: _,a,h=>by cases h
 | _ :: _,[],a,h=>by cases h
 | k :: ks,v :: vs,a,h=>by
  simp only [valsS] at h
  split at h
  ·rename_i n hn
   split at h
   ·rename_i l hl
    cases h
    obtain ⟨h1,h2⟩:=zcr hl
    exact ⟨by simp only [z0s,recV,List.headD_cons,List.tail_cons,valS_sound hn,h1],by simp only [List.length_cons,h2,lenL]⟩
   ·cases h
  ·cases h
theorem enc_one (k:MK) (n:Int):(k.enc n).oneCell'=true:=by
 cases k with
 | fn=>show (fnV n).oneCell'=true; unfold fnV; split <;> rfl
 | _=>rfl
theorem recV_one:∀ (ks:List MK) (x:List Int),∀ u ∈ recV ks x,u.oneCell'=true
 | [],_,u,h=>by simp [recV] at h
 | k :: ks,x,u,h=>by
  rcases List.mem_cons.1 h with h | h
  ·rw [h]; exact enc_one _ _
  ·exact recV_one ks _ u h
theorem Row.get_sound {r:Row} {i:Nat} {K:List SV->Prop} (h:r.get i K) (ρ:Nat->Value):∃ cs,K cs/\i<r.len/\cs.length=r.width/\∀ j u,cs[j]? = some u->r.cells[i * r.width+j]? = some (u.toV ρ):=by
 cases r with
 | ints k xs =>
  obtain ⟨hi,hk⟩:=h
  obtain ⟨x,hx⟩:=z13 hi
  have:=zde (ρ:=ρ) (f:=fun x=>[Value.int k x]) (enc:=fun x=>[SV.int k x]) (n:=1) (fun _=>rfl) (fun _=>by simp [z0s,SV.toV]) hx
  refine ⟨_,hk x hx,hi,this.1,fun j u hu=>?_⟩
  simp only [Row.cells,Row.width,z76]
  exact this.2 j u hu
 | bools xs =>
  obtain ⟨hi,hk⟩:=h
  obtain ⟨x,hx⟩:=z13 hi
  have:=zde (ρ:=ρ) (f:=fun x=>[Value.bool x]) (enc:=fun x=>[SV.bool x]) (n:=1) (fun _=>rfl) (fun _=>by simp [z0s,SV.toV]) hx
  refine ⟨_,hk x hx,hi,this.1,fun j u hu=>?_⟩
  simp only [Row.cells,Row.width,z76]
  exact this.2 j u hu
 | arcs xs =>
  obtain ⟨hi,hk⟩:=h
  obtain ⟨x,hx⟩:=z13 hi
  have:=zde (ρ:=ρ) (f:=Arc.cells) (enc:=z7i) (n:=5) (fun _=>rfl) (fun _=>by simp [z7i,Arc.cells,z0s,SV.toV]) hx
  exact ⟨_,hk x hx,hi,this.1,fun j u hu=>this.2 j u hu⟩
 | wides xs =>
  obtain ⟨hi,hk⟩:=h
  obtain ⟨x,hx⟩:=z13 hi
  have:=zde (ρ:=ρ) (f:=Wide.cells) (enc:=z0v) (n:=2) (fun _=>rfl) (fun _=>by simp [z0v,Wide.cells,z0s,SV.toV]) hx
  exact ⟨_,hk x hx,hi,this.1,fun j u hu=>this.2 j u hu⟩
 | recs k ks xs =>
  obtain ⟨hi,hk⟩:=h
  obtain ⟨x,hx⟩:=z13 hi
  have:=zde (ρ:=ρ) (f:=recV (z81 k ks)) (enc:=recS (z81 k ks)) (n:=lenL (z81 k ks)) (fun x=>z3m _ x) (fun x=>recS_toV _ x) hx
  exact ⟨_,hk x hx,hi,this.1,fun j u hu=>this.2 j u hu⟩
def SetOk (ρ:Nat->Value) (r:Row) (i fld:Nat) (vs:List SV) (r':Row):Prop :=
 i<r.len/\r'.len=r.len/\r'.width=r.width/\fld+vs.length <= r.width/\r'.cells=r.cells.take (i * r.width+fld) ++ z0s ρ vs ++ r.cells.drop (i * r.width+fld+vs.length)/\∀ u ∈ z0s ρ vs,u.oneCell'=true
theorem ze2 {α:Type} {f:α->List Value} {n:Nat} {xs:List α} {i fld:Nat} {x y:α} {vs:List Value} (hf:∀ x,(f x).length=n) (hx:xs[i]? = some x) (hl:fld+vs.length <= n)
  (hy:f y=(f x).take fld ++ vs ++ (f x).drop (fld+vs.length)):(xs.set i y).flatMap f=(xs.flatMap f).take (i * n+fld) ++ vs ++ (xs.flatMap f).drop (i * n+fld+vs.length):=by
 obtain ⟨A,B,h1,h2,h3⟩:=flat_split f n hf xs i x hx
 rw [h3,hy,h1,<- h2]
 exact splice A (f x) B vs fld (by rw [hf]; exact hl)
theorem Row.set_sound {r:Row} {i fld:Nat} {vs:List SV} {K:Row->Prop} (h:r.set i fld vs K) (ρ:Nat->Value):∃ r',K r'/\SetOk ρ r i fld vs r':=by
 cases r with
 | ints k xs =>
  simp only [Row.set] at h
  split at h
  ·rename_i k' n
   cases hk:kEq k k' with
   | false=>rw [hk] at h; exact h.elim
   | true =>
    rw [hk] at h
    simp only [cond_true] at h
    have:=z5n hk
    subst this
    obtain ⟨hi,h⟩:=h
    obtain ⟨x,hx⟩:=z13 hi
    refine ⟨_,h,hi,by simp [Row.len],rfl,by simp [Row.width],?_,by simp [z0s,SV.toV,Value.oneCell']⟩
    simp only [Row.cells,z76,Row.width]
    have:=ze2 (f:=fun x=>[Value.int k x]) (n:=1) (xs:=xs) (i:=i) (fld:=0) (x:=x) (y:=n) (vs:=[Value.int k n]) (fun _=>rfl) hx (by simp) (by simp)
    simpa [z0s,SV.toV] using this
  ·exact h.elim
 | bools xs =>
  have key:∀ (b:Bool) (v:SV),(∀ ρ,v.toV ρ = .bool b)->(i<xs.length/\K (.bools (xs.set i b)))->∃ r',K r'/\SetOk ρ (.bools xs) i 0 [v] r':=by
   intro b v hv h
   obtain ⟨hi,h⟩:=h
   obtain ⟨x,hx⟩:=z13 hi
   refine ⟨_,h,hi,by simp [Row.len],rfl,by simp [Row.width],?_,by simp [z0s,hv,Value.oneCell']⟩
   simp only [Row.cells,z76,Row.width]
   have:=ze2 (f:=fun x=>[Value.bool x]) (n:=1) (xs:=xs) (i:=i) (fld:=0) (x:=x) (y:=b) (vs:=[Value.bool b]) (fun _=>rfl) hx (by simp) (by simp)
   simpa [z0s,hv] using this
  simp only [Row.set] at h
  split at h
  ·exact key true .tt (fun _=>by simp [SV.toV]) h
  ·exact key false .ff (fun _=>by simp [SV.toV]) h
  ·exact key _ (.bool _) (fun _=>by simp [SV.toV]) h
  ·exact h.elim
 | arcs xs =>
  have key:∀ (y:Arc->Arc) (fld:Nat) (vs:List SV),fld+vs.length <= 5->(∀ x,(y x).cells=x.cells.take fld ++ z0s ρ vs ++ x.cells.drop (fld+vs.length))->(∀ u ∈ z0s ρ vs,u.oneCell'=true) ->
    (i<xs.length/\∀ x,xs[i]? = some x->K (.arcs (xs.set i (y x))))->∃ r',K r'/\SetOk ρ (.arcs xs) i fld vs r':=by
   intro y fld vs hl hy h1 h
   obtain ⟨hi,h⟩:=h
   obtain ⟨x,hx⟩:=z13 hi
   refine ⟨_,h x hx,hi,by simp [Row.len],rfl,hl,?_,h1⟩
   have hlen:(z0s ρ vs).length=vs.length:=by simp [z0u]
   have:=ze2 (f:=Arc.cells) (n:=5) (xs:=xs) (i:=i) (fld:=fld) (x:=x) (y:=y x) (vs:=z0s ρ vs) (fun _=>rfl) hx (by rw [hlen]; exact hl) (by rw [hlen]; exact hy x)
   rw [hlen] at this
   exact this
  simp only [Row.set] at h
  split at h
  ·exact key (fun _=>⟨_,_,_,_,_⟩) 0 _ (by simp) (fun x=>by simp [z0s,SV.toV,Arc.cells]) (by simp [z0s,SV.toV,Value.oneCell']) ⟨h.1,fun _ _=>h.2⟩
  ·exact key (fun x=>{ x with src:=_ }) 0 _ (by simp) (fun x=>by simp [z0s,SV.toV,Arc.cells]) (by simp [z0s,SV.toV,Value.oneCell']) h
  ·exact key (fun x=>{ x with dst:=_ }) 1 _ (by simp) (fun x=>by simp [z0s,SV.toV,Arc.cells]) (by simp [z0s,SV.toV,Value.oneCell']) h
  ·exact key (fun x=>{ x with low:=_ }) 2 _ (by simp) (fun x=>by simp [z0s,SV.toV,Arc.cells]) (by simp [z0s,SV.toV,Value.oneCell']) h
  ·exact key (fun x=>{ x with cap:=_ }) 3 _ (by simp) (fun x=>by simp [z0s,SV.toV,Arc.cells]) (by simp [z0s,SV.toV,Value.oneCell']) h
  ·exact key (fun x=>{ x with cost:=_ }) 4 _ (by simp) (fun x=>by simp [z0s,SV.toV,Arc.cells]) (by simp [z0s,SV.toV,Value.oneCell']) h
  ·exact h.elim
 | wides xs =>
  simp only [Row.set] at h
  split at h
  ·obtain ⟨hi,h⟩:=h
   obtain ⟨x,hx⟩:=z13 hi
   refine ⟨_,h,hi,by simp [Row.len],rfl,by simp [Row.width],?_,by simp [z0s,SV.toV,Value.oneCell']⟩
   simp only [Row.cells,Row.width]
   rename_i n m
   have:=ze2 (f:=Wide.cells) (n:=2) (xs:=xs) (i:=i) (fld:=0) (x:=x) (y:=⟨n,m⟩) (vs:=[Value.int .i64 n,Value.int .u64 m]) (fun _=>rfl) hx (by simp) (by simp [Wide.cells])
   simpa [z0s,SV.toV] using this
  ·exact h.elim
 | recs k ks xs =>
  simp only [Row.set] at h
  split at h
  ·rename_i a ha
   obtain ⟨hi,h⟩:=h
   obtain ⟨x,hx⟩:=z13 hi
   obtain ⟨e1,e2⟩:=zcr (ρ:=ρ) ha
   have hl:(recV (z81 k ks) a).length=vs.length:=by rw [z3m,e2]
   refine ⟨_,h,hi,by simp [Row.len],rfl,by simp only [Row.width,e2]; omega,?_,by rw [e1]; exact recV_one _ _⟩
   simp only [Row.cells,Row.width,e1,<- hl]
   exact ze2 (f:=recV (z81 k ks)) (n:=lenL (z81 k ks)) (xs:=xs) (i:=i) (fld:=0) (x:=x) (y:=a) (vs:=recV (z81 k ks) a) (fun x=>z3m _ x) hx (by rw [z3m]; omega) (by rw [z3m]; simp [List.drop_of_length_le,z3m])
  ·exact h.elim
theorem zjb {wd:Nat}:∀ {l:List SV},allW wd l=true->∀ c ∈ l,c.cells.length=wd/\z2s c.cells=true
 | [],_,c,hc=>by simp at hc
 | d :: l,h,c,hc=>by
  simp only [allW,Bool.and_eq_true] at h
  rcases List.mem_cons.1 hc with rfl | hc
  ·exact ⟨z10 h.1.1,h.1.2⟩
  ·exact zjb h.2 c hc
theorem z8d (hone:∀ k,(ρ k).oneCell'=true) {wd:Nat}:∀ {l:List SV},allW wd l=true->flatV (z0s ρ l)=l.flatMap fun c=>z0s ρ c.cells
 | [],_=>rfl
 | c :: l,h=>by
  have hc:=zjb h c (by simp)
  simp only [allW,Bool.and_eq_true] at h
  have ih:=z8d hone h.2
  unfold flatV at ih ⊢
  rw [z0s,List.flatMap_cons,List.flatMap_cons,ih,z5l c hc.2 hone]
theorem flat_at {wd:Nat} (hone:∀ k,(ρ k).oneCell'=true):∀ {l:List SV} {i j:Nat} {c u:SV},allW wd l=true->l[i]? = some c->c.cells[j]? = some u->(flatV (z0s ρ l))[i * wd+j]? = some (u.toV ρ)
 | [],i,j,c,u,_,hc,_=>by simp at hc
 | d :: l,0,j,c,u,h,hc,hu=>by
  simp at hc; subst hc
  rw [z8d hone h,List.flatMap_cons,Nat.zero_mul,Nat.zero_add,List.getElem?_append_left (by rw [z0u,List.length_map]; exact (List.getElem?_eq_some_iff.1 hu).1),z0u,List.getElem?_map,hu]; rfl
 | d :: l,i+1,j,c,u,h,hc,hu=>by
  have hd:=(zjb h d (by simp)).1
  have h2:=h
  simp only [allW,Bool.and_eq_true] at h2
  have ih:=flat_at hone h2.2 (i:=i) (by simpa using hc) hu
  rw [z8d hone h2.2] at ih
  rw [z8d hone h,List.flatMap_cons,List.getElem?_append_right (by rw [z0u,List.length_map,hd,Nat.add_mul]; omega),z0u,List.length_map,hd,show (i+1) * wd+j - wd=i * wd+j by rw [Nat.add_mul]; omega]
  exact ih
theorem vecGet_at {idx:Nat} {K:SV->Prop}:∀ {l:List SV} {j0:Nat},vecGet idx K l j0->∀ (j:Nat) (hj:idx - j0<l.length),j0 <= idx->K l[idx - j0]
 | [],j0,h,j,hj,_=>by simp at hj
 | [c],j0,h,j,hj,hle=>by
  have e:idx=j0:=by simp at hj; omega
  subst e
  simpa using h rfl
 | c :: d :: l,j0,h,j,hj,hle=>by
  by_cases e:idx=j0
  ·subst e; simpa using h.1 rfl
  ·have hlt:idx - (j0+1)<(d :: l).length:=by simp at hj ⊢; omega
   have:=vecGet_at h.2 j hlt (by omega)
   have e2:idx - j0=(idx - (j0+1))+1:=by omega
   simpa [e2] using this
theorem rd_sound {hp:z0d} {key wd idx fld n:Nat} {K:List SV->Prop} (h:rd hp key wd idx fld n K) (hh:HOk ρ hp w) :
  ∃ cs,K cs/\cs.length=n/\∀ j u,cs[j]? = some u->w.cell? ⟨(z3x (ρ key)).block,(z3x (ρ key)).off+(idx * wd+fld)+j,none⟩=some (u.toV ρ):=by
 unfold rd at h
 split at h
 ·rename_i t cells hl
  split at h
  ·cases hb:Nat.ble (fld+n) cells.length with
   | false=>rw [hb] at h; exact h.elim
   | true =>
    rw [hb] at h
    simp only [cond_true] at h
    have hb:=z8y hb
    refine ⟨_,h,by simp; omega,fun j u hu=>?_⟩
    obtain ⟨g,hg,hhas⟩:=hh.ent key _ hl
    rw [List.getElem?_take] at hu
    split at hu
    ·rw [List.getElem?_drop] at hu
     rw [hg]
     simp only [z3x,Nat.mul_zero,Nat.zero_add]
     rw [hhas.cell,List.getElem?_toArray,z0u,List.getElem?_map,hu]
     rfl
    ·cases hu
  ·exact h.elim
 ·rename_i o t r hl
  cases hb:Nat.beq wd r.width with
  | false=>rw [hb] at h; exact h.elim
  | true =>
   rw [hb] at h
   simp only [cond_true] at h
   have hb:=z10 hb
   subst hb
   obtain ⟨cs,h,hi,hlen,hc⟩:=Row.get_sound h ρ
   cases hb:Nat.ble (fld+n) cs.length with
   | false=>rw [hb] at h; exact h.elim
   | true =>
    rw [hb] at h
    simp only [cond_true] at h
    have hb:=z8y hb
    refine ⟨_,h,by simp; omega,fun j u hu=>?_⟩
    obtain ⟨A,c,hv,hlc,hA⟩:=EntOk.reads (hh.ent key _ hl)
    obtain ⟨b,off,rfl,hcell⟩:=hA (by omega)
    rw [List.getElem?_take] at hu
    split at hu
    ·rw [List.getElem?_drop] at hu
     rw [hv]
     simp only [z3x]
     have:=hcell _ _ (hc _ _ hu)
     rw [<- this]
     congr 2
     omega
    ·cases hu
 ·rename_i t cs hl
  cases hb:(allW wd cs && Nat.ble (fld+n) wd) with
  | false=>rw [hb] at h; exact h.elim
  | true =>
   rw [hb] at h
   simp only [cond_true] at h
   simp only [Bool.and_eq_true] at hb
   have b2:=z8y hb.2
   obtain ⟨g,hg,hhas⟩:=hh.ent key _ hl
   have hc:cs[idx]? = some cs[idx]:=List.getElem?_eq_getElem h.1
   have hw:=(zjb hb.1 _ (List.mem_of_getElem? hc)).1
   refine ⟨_,vecGet_at h.2 0 (by omega) (Nat.zero_le _),by simp only [Nat.sub_zero]; rw [List.length_take,List.length_drop,hw]; omega,fun j u hu=>?_⟩
   simp only [Nat.sub_zero] at hu
   rw [List.getElem?_take] at hu
   split at hu
   ·rw [List.getElem?_drop] at hu
    rw [hg]
    simp only [z3x,Nat.zero_add]
    rw [hhas.cell,List.getElem?_toArray,Nat.add_assoc]
    exact flat_at hh.one hb.1 hc hu
   ·cases hu
 ·exact h.elim
 ·exact h.elim
 ·exact h.elim
 ·exact h.elim
end
section
variable {P:Program} {T:Tys} {B:Defs} {w0:World} {S0:Foot} {N n0:Nat} {ρ0:Nat->Value} {ρ:Nat->Value} {s:St} {a:Act} {w:World}
theorem z5j (w:World) (g:Nat) (cs:Array Value):w.grownBy (w.setRow g cs) (some g) :=
 ⟨rfl,rfl,rfl,by simp,fun k _ hne=>setRow_other w g k cs (fun e=>hne (by rw [e]))⟩
theorem DK.rows_len (d:DK):d.rows.length=d.len:=by cases d <;> simp [DK.rows,DK.len]
theorem DK.get_sound {d:DK} {i:Nat} {K:Row->Prop} (h:d.get i K):∃ r,d.rows[i]? = some r/\K r:=by
 cases d <;> obtain ⟨hi,hk⟩:=h <;> obtain ⟨x,hx⟩:=z13 hi <;> exact ⟨_,by simp [DK.rows,hx],hk x hx⟩
theorem DK.set_sound {d:DK} {i:Nat} {r:Row} {K:DK->Prop} (h:d.set i r K):∃ d',d'.rows=d.rows.set i r/\i<d.rows.length/\K d':=by
 cases d <;> cases r <;> simp only [DK.set] at h <;> first | exact h.elim | skip
 ·rename_i k xs k' x
  cases hk:kEq k k' with
  | false=>rw [hk] at h; exact h.elim
  | true =>
   rw [hk] at h
   have:=z5n hk
   subst this
   exact ⟨_,by simp [DK.rows,List.map_set],by simpa [DK.rows] using h.1,h.2⟩
 ·exact ⟨_,by simp [DK.rows,List.map_set],by simpa [DK.rows] using h.1,h.2⟩
 ·rename_i k ks xs k' ks' x
  cases hk:z9k (k :: ks) (k' :: ks') with
  | false=>rw [hk] at h; exact h.elim
  | true =>
   rw [hk] at h
   have:=z77 hk
   cases this
   exact ⟨_,by simp [DK.rows,List.map_set],by simpa [DK.rows] using h.1,h.2⟩
theorem DK.app_sound {d1 d2 d:DK} (h:d1.app d2=some d):d.rows=d1.rows ++ d2.rows:=by
 cases d1 <;> cases d2 <;> simp only [DK.app] at h <;> first | cases h; done | skip
 ·rename_i k xs k' ys
  cases hk:kEq k k' with
  | false=>rw [hk] at h; cases h
  | true =>
   rw [hk] at h
   have:=z5n hk
   subst this
   cases h; simp [DK.rows]
 ·cases h; simp [DK.rows]
 ·rename_i k ks xs k' ks' ys
  cases hk:z9k (k :: ks) (k' :: ks') with
  | false=>rw [hk] at h; cases h
  | true =>
   rw [hk] at h
   have:=z77 hk
   cases this
   cases h; simp [DK.rows]
theorem DK.snoc_sound {d d':DK} {r:Row} (h:d.snoc r=some d'):d'.rows=d.rows ++ [r]:=by
 cases d <;> cases r <;> simp only [DK.snoc] at h <;> first | cases h; done | skip
 ·rename_i k xs k' ys
  cases hk:kEq k k' with
  | false=>rw [hk] at h; cases h
  | true =>
   rw [hk] at h
   have:=z5n hk
   subst this
   cases h; simp [DK.rows]
 ·cases h; simp [DK.rows]
 ·rename_i k ks xs k' ks' ys
  cases hk:z9k (k :: ks) (k' :: ks') with
  | false=>rw [hk] at h; cases h
  | true =>
   rw [hk] at h
   have:=z77 hk
   cases this
   cases h; simp [DK.rows]
theorem z5z {k j:Nat} {d e:Ent} (h:lk j [(k,d)]=some e):j=k/\e=d:=by
 rw [z0g] at h
 split at h
 ·rename_i e1; cases h; exact ⟨e1,rfl⟩
 ·simp [lk] at h
theorem lk_two {k k' j:Nat} {d d' e:Ent} (h:lk j [(k,d),(k',d')]=some e):(j=k/\e=d) ∨ (j ≠ k/\j=k'/\e=d'):=by
 rw [z0g] at h
 split at h
 ·rename_i e1; cases h; exact .inl ⟨e1,rfl⟩
 ·rename_i e1; obtain ⟨h1,h2⟩:=z5z h; exact .inr ⟨e1,h1,h2⟩
theorem Sym.takeInner (hs:Sym B w0 S0 N n0 ρ0 ρ s a w) (hk:s.kb=true) {key:Nat} {t it:TypeId} {d:DK} {vs:List Value} (hl:lk key s.hp=some (.deep true t it d vs none)) {i:Nat} {r:Row} {u:Value} (hr:d.rows[i]? = some r) (hu:vs[i]? = some u) :
  ∃ ρ',Sym B w0 S0 N n0 ρ0 ρ' { tm:=s.tm,hp:=(s.nk,.row true it r) :: Vc.put key (.deep true t it d vs (some i)) s.hp,nk:=s.nk+1 } a w/\ρ' s.nk=u:=by
 have hd:DeepOwn w (ρ key) t it d vs none:=hs.hp.ent key _ hl
 have hkey:=(s.kb_hp hk hl).1
 obtain ⟨hown,hne⟩:=hd.at_ i r u hr hu (by simp)
 have e1:(if key=s.nk then u else ρ key)=ρ key:=by rw [if_neg]; omega
 refine ⟨fun j=>if j=s.nk then u else ρ j,?_,by simp⟩
 refine hs.regroup hk (U:=[key]) (hn:=[(s.nk,.row true it r),(key,.deep true t it d vs (some i))]) (row:=none) (fun k hk=>by rw [List.mem_singleton.1 hk]; exact ⟨_,hl,rfl⟩) (z4h w none) (fun g h=>by cases h)
  (fun k hk=>by simp; omega) (fun k=>?_) (fun k e hl'=>?_) (fun k e hl'=>?_) (fun k e hl' g hg=>.inl ⟨key,_,by simp,hl,?_⟩) (fun k e k' e' hl1 hl2 hne' ho g hg=>?_) (Nat.le_succ _)
 ·split
  ·exact hd.one u (List.mem_of_getElem? hu)
  ·exact hs.hp.one k
 ·rw [z0g] at hl'
  split at hl'
  ·rename_i e2; cases hl'; exact .inl (by rw [z0g,if_pos e2])
  ·rename_i e2
   rw [z51] at hl'
   split at hl'
   ·rename_i e3; cases hl'; exact .inl (by rw [z0g,if_neg e2,z0g,if_pos e3])
   ·rename_i e3; exact .inr ⟨by simp [e3],hl'⟩
 ·rcases lk_two hl' with ⟨rfl,rfl⟩ | ⟨_,rfl,rfl⟩
  ·simp only [if_true]; exact hown
  ·rw [e1]; exact ⟨hd.row,hd.len,fun i' r' u' h1 h2 h3=>hd.at_ i' r' u' h1 h2 (by simp),fun i' j' u' u'' h1 h2 h3 _ _=>hd.apart i' j' u' u'' h1 h2 h3 (by simp) (by simp),hd.one⟩
 ·rcases lk_two hl' with ⟨rfl,rfl⟩ | ⟨_,rfl,rfl⟩
  ·simp only [if_true,Ent.touch] at hg; exact .inr ⟨i,u,by simp,hu,hg⟩
  ·rw [e1] at hg
   rcases hg with hg | ⟨i',u',_,h2,h3⟩
   ·exact .inl hg
   ·exact .inr ⟨i',u',by simp,h2,h3⟩
 ·have key1:∀ g,Ent.touch (.row true it r) u g->¬ Ent.touch (.deep true t it d vs (some i)) (ρ key) g:=by
   intro g hg hg'
   rcases hg' with hg' | ⟨i',u',h1,h2,h3⟩
   ·exact hne g hg hg'
   ·exact hd.apart i i' u u' hu h2 (fun e=>h1 (by rw [e])) (by simp) (by simp) g hg h3
  rcases lk_two hl1 with ⟨rfl,rfl⟩ | ⟨_,rfl,rfl⟩ <;> rcases lk_two hl2 with ⟨rfl,rfl⟩ | ⟨_,rfl,rfl⟩
  ·exact absurd rfl hne'
  ·rw [e1]; simp only [if_true] at hg; exact key1 g hg
  ·rw [e1] at hg; simp only [if_true]; exact fun hg'=>key1 g hg' hg
  ·exact absurd rfl hne'
theorem Sym.viewInner (hs:Sym B w0 S0 N n0 ρ0 ρ s a w) (hk:s.kb=true) {key:Nat} {t it:TypeId} {d:DK} {vs:List Value} {hole:Option Nat} (hl:lk key s.hp=some (.deep false t it d vs hole)) {i:Nat} {r:Row} {u:Value} (hr:d.rows[i]? = some r) (hu:vs[i]? = some u) :
  ∃ ρ',Sym B w0 S0 N n0 ρ0 ρ' { tm:=s.tm,hp:=(s.nk,.row false 0 r) :: s.hp,nk:=s.nk+1 } a w/\ρ' s.nk=u:=by
 have hd:DeepRead w (ρ key) d vs:=hs.hp.ent key _ hl
 have hrr:=hd.at_ i r u hr hu
 refine ⟨fun j=>if j=s.nk then u else ρ j,?_,by simp⟩
 refine hs.regroup hk (U:=[]) (hn:=[(s.nk,.row false 0 r)]) (row:=none) (fun k hk=>by simp at hk) (z4h w none) (fun g h=>by cases h)
  (fun k hk=>by simp; omega) (fun k=>?_) (fun k e hl'=>?_) (fun k e hl'=>?_) (fun k e hl' g hg=>?_) (fun k e k' e' hl1 hl2 hne' ho g hg=>?_) (Nat.le_succ _)
 ·split
  ·obtain ⟨A,c,rfl,_⟩:=hrr; rfl
  ·exact hs.hp.one k
 ·rw [z0g] at hl'
  split at hl'
  ·rename_i e2; cases hl'; exact .inl (by rw [z0g,if_pos e2])
  ·exact .inr ⟨by simp,hl'⟩
 ·obtain ⟨rfl,rfl⟩:=z5z hl'
  simp only [if_true]; exact hrr
 ·obtain ⟨rfl,rfl⟩:=z5z hl'
  simp only [if_true,Ent.touch] at hg
  exact .inr (.inr ⟨rfl,key,_,hl,rfl,.inr ⟨i,r,u,hr,hg.1,hu,hg.2⟩⟩)
 ·obtain ⟨rfl,rfl⟩:=z5z hl1
  cases ho
theorem deep_reads {v:Value} {own:Bool} {t it:TypeId} {d:DK} {vs:List Value} {hole:Option Nat} (h:EntOk ρ w v (.deep own t it d vs hole)):ROkV w v d.len vs:=by
 rw [<- d.rows_len]
 cases own
 ·exact h.row
 ·have h:DeepOwn w v t it d vs hole:=h
  exact zar h.len (h.len ▸ h.row)
theorem drop_mid {α:Type} {l:List α} {i n:Nat} (h:i <= n):l.drop i=(l.take n).drop i ++ l.drop n:=by
 have e:=congrArg (List.drop i) (List.take_append_drop n l)
 rw [List.drop_append] at e
 rw [<- e]
 congr 1
 rw [List.length_take]
 rcases Nat.le_total n l.length with h2 | h2
 ·rw [Nat.min_eq_left h2,show i - n=0 by omega,List.drop_zero]
 ·rw [List.drop_of_length_le h2,List.drop_nil]
theorem Sym.putInner (hs:Sym B w0 S0 N n0 ρ0 ρ s a w) (hk:s.kb=true) {key kr:Nat} {t it:TypeId} {d d':DK} {vs:List Value} {hole:Option Nat} {r:Row} {i:Nat} (hl:lk key s.hp=some (.deep true t it d vs hole)) (hlr:lk kr s.hp=some (.row true it r)) (hne:kr ≠ key)
  (hhole:hole=none ∨ hole=some i) (hi:i<vs.length) (hd':d'.rows=d.rows.set i r) {g cap:Nat} {cur:Array Value} (hg:ρ key = .slice (some ⟨g,0,none⟩) vs.length cap) (hheap:w.heap[g]? = some (.cells cur t (0,0))) (hn:vs.length <= cap) (hsz:cur.size=cap) (hc:cap <= maxLen)
  (htake:cur.toList.take vs.length=vs) :
  Sym B w0 S0 N n0 ρ0 ρ { tm:=s.tm,hp:=Vc.put key (.deep true t it d' (vs.set i (ρ kr)) none) (del kr s.hp),nk:=s.nk } a (w.setRow g (cur.toList.take i ++ [ρ kr] ++ cur.toList.drop (i+1)).toArray):=by
 have hd:DeepOwn w (ρ key) t it d vs hole:=hs.hp.ent key _ hl
 have hr:w.ownsRow 0 it r.width (ρ kr) r.len r.cells:=hs.hp.ent kr _ hlr
 have hbg:(ρ key).ownBlock=some g:=by rw [hg]; rfl
 have hsep:∀ g',Ent.touch (.deep true t it d vs hole) (ρ key) g'->(ρ kr).ownBlock ≠ some g':=fun g' h1 h2=>hs.hp.sep key _ kr _ hl hlr (Ne.symm hne) rfl g' h1 h2
 have hh:∀ j,j ≠ i->hole ≠ some j:=fun j hj e=>by
  rcases hhole with h | h
  ·rw [h] at e; cases e
  ·rw [h] at e; cases e; exact hj rfl
 have hset:∀ j u',(vs.set i (ρ kr))[j]? = some u'->(j=i/\u'=ρ kr) ∨ (j ≠ i/\vs[j]? = some u'):=by
  intro j u' h
  by_cases hj:j=i
  ·subst hj
   rw [List.getElem?_set_self hi] at h
   cases h; exact .inl ⟨rfl,rfl⟩
  ·rw [List.getElem?_set_ne (Ne.symm hj)] at h
   exact .inr ⟨hj,h⟩
 have hgb:=z5j w g (cur.toList.take i ++ [ρ kr] ++ cur.toList.drop (i+1)).toArray
 have hkeep:∀ (u':Value) (r':Row),w.ownsRow 0 it r'.width u' r'.len r'.cells->u'.ownBlock ≠ some g->(w.setRow g (cur.toList.take i ++ [ρ kr] ++ cur.toList.drop (i+1)).toArray).ownsRow 0 it r'.width u' r'.len r'.cells:=fun u' r' h1 h2 =>
  zdo h1 fun g' hg'=>hgb.block g' (World.ownsRow.lt h1 g' hg').2 (fun e=>by cases e; exact h2 hg')
 refine hs.regroup hk (U:=[key,kr]) (hn:=[(key,.deep true t it d' (vs.set i (ρ kr)) none)]) (row:=some g) (fun k hk=>?_) hgb (fun g' e=>⟨key,_,by simp,hl,by cases e; exact .inl hbg⟩) (fun _ _=>rfl) hs.hp.one (fun k e hl'=>?_) (fun k e hl'=>?_) (fun k e hl' g' hg'=>?_) (fun k e k' e' hl1 hl2 hne' ho g hg=>?_) (Nat.le_refl _)
 ·rcases List.mem_cons.1 hk with rfl | hk
  ·exact ⟨_,hl,rfl⟩
  ·rw [List.mem_singleton.1 hk]; exact ⟨_,hlr,rfl⟩
 ·rw [z51] at hl'
  split at hl'
  ·rename_i e1; cases hl'; exact .inl (by rw [z0g,if_pos e1])
  ·rename_i e1
   rw [zkn] at hl'
   split at hl'
   ·cases hl'
   ·rename_i e2; exact .inr ⟨by simp [e1,e2],hl'⟩
 ·obtain ⟨rfl,rfl⟩:=z5z hl'
  have hlen:(vs.set i (ρ kr)).length=vs.length:=List.length_set
  refine ⟨⟨by rw [hlen]; simp,.inr ⟨g,cap,_,by rw [hg,hlen],Nat.zero_le _,setRow_heap w g _ _ t (0,0) hheap,by rw [hlen]; exact hn,hc,?_,?_⟩⟩,by rw [hd',List.length_set,hlen,hd.len],fun j r' u' h1 h2 _=>?_,fun j j' u' u'' h1 h2 hjj _ _ g' h3 h4=>?_,fun u' hu'=>?_⟩
  ·simp only [Nat.mul_one,List.size_toArray,List.length_append,List.length_take,List.length_drop,Array.length_toList,List.length_cons,List.length_nil]
   omega
  ·have e1:cur.toList.drop (i+1)=(cur.toList.take vs.length).drop (i+1) ++ cur.toList.drop vs.length:=drop_mid (by omega)
   have e2:cur.toList.take i=vs.take i:=by rw [<- htake,List.take_take,Nat.min_eq_left (by omega)]
   rw [hlen,e1,htake,e2,List.set_eq_take_append_cons_drop,if_pos hi,Nat.mul_one]
   rw [<- List.append_assoc,List.take_append_of_le_length (by simp; omega),List.take_of_length_le (by simp; omega)]
   simp
  ·rcases hset j u' h2 with ⟨rfl,rfl⟩ | ⟨hj,h2⟩
   ·rw [hd',List.getElem?_set_self (by rw [hd.len]; exact hi)] at h1
    cases h1
    exact ⟨hkeep _ _ hr (fun e=>hsep g (.inl hbg) e),fun g' h5 h6=>hsep g' (.inl h6) h5⟩
   ·rw [hd',List.getElem?_set_ne (Ne.symm hj)] at h1
    obtain ⟨h5,h6⟩:=hd.at_ j r' u' h1 h2 (hh j hj)
    exact ⟨hkeep _ _ h5 (fun e=>h6 g e hbg),h6⟩
  ·rcases hset j u' h1 with ⟨ej,eu⟩ | ⟨hj,h5⟩ <;> rcases hset j' u'' h2 with ⟨ej',eu'⟩ | ⟨hj',h6⟩
   ·exact hjj (ej.trans ej'.symm)
   ·rw [eu] at h3; exact hsep g' (.inr ⟨j',u'',hh j' hj',h6,h4⟩) h3
   ·rw [eu'] at h4; exact hsep g' (.inr ⟨j,u',hh j hj,h5,h3⟩) h4
   ·exact hd.apart j j' u' u'' h5 h6 hjj (hh j hj) (hh j' hj') g' h3 h4
  ·obtain ⟨j,hj⟩:=List.mem_iff_getElem?.1 hu'
   rcases hset j u' hj with ⟨_,rfl⟩ | ⟨_,hj⟩
   ·exact hs.hp.one kr
   ·exact hd.one u' (List.mem_of_getElem? hj)
 ·obtain ⟨rfl,rfl⟩:=z5z hl'
  rcases hg' with hg' | ⟨j,u',_,h2,h3⟩
  ·exact .inl ⟨k,_,by simp,hl,.inl hg'⟩
  ·rcases hset j u' h2 with ⟨rfl,rfl⟩ | ⟨hj,h2⟩
   ·exact .inl ⟨kr,_,by simp,hlr,h3⟩
   ·exact .inl ⟨k,_,by simp,hl,.inr ⟨j,u',hh j hj,h2,h3⟩⟩
 ·obtain ⟨rfl,_⟩:=z5z hl1
  obtain ⟨rfl,_⟩:=z5z hl2
  exact absurd rfl hne'
theorem load_sound {o:Oper} {ty:TypeId} {x:Operand} {K:St->Prop} (hT:z5w P T) (ho:o.op = .load ty x) {Γ:z0c} (h:z3h T Γ N o s K) (hs:Sym B w0 S0 N n0 ρ0 ρ s a w)
  {K':Act->World->Prop} {Q:Exit->Act->World->Prop} (hK:∀ s' ρ' a' w',Sym B w0 S0 N n0 ρ0 ρ' s' a' w'->K s'->K' a' w'):o.wp P a w K' Q:=by
 unfold z3h at h
 rw [ho] at h
 simp only at h
 split at h
 ·rename_i key wd idx fld ti hv hti
  have ht:=hT _ _ hti
  have he:=z0i hs hv
  simp only [SV.toV] at he
  have inner:∀ {u:Value} {ρ':Nat->Value} {s':St},ti.agg=false->w.cell? ⟨(z3x (ρ key)).block,(z3x (ρ key)).off+idx,none⟩=some u->wd=1->fld=0->Sym B w0 S0 N n0 ρ0 ρ' s' a w->ρ' s.nk=u->z1q N o.dst (.row s.nk) s' K->o.wp P a w K' Q:=by
   intro u ρ' s' hg hc h1 h2 hs' hu hk
   refine z11 (v:=SV.toV ρ' (.row s.nk)) (w':=w) ?_ (z0a hk hs' hK)
   subst h1; subst h2
   simp only [Nat.mul_one,Nat.add_zero] at he
   simp [execOp,ho,he,Instr.loadAt,Instr.sureAddr,loadVar,ht.run_isAgg,hg,run_load,hc,SV.toV,hu]
  split at h
  ·rename_i t it d vs hl
   cases hb:(Nat.beq wd 1 && Nat.beq fld 0 && Nat.beq ti.zs.length 1 && !ti.agg && s.kb) with
   | false=>rw [hb] at h; exact h.elim
   | true =>
    rw [hb] at h
    simp only [cond_true] at h
    simp only [Bool.and_eq_true,Bool.not_eq_true'] at hb
    obtain ⟨⟨⟨⟨b1,b2⟩,b3⟩,b4⟩,b5⟩:=hb
    obtain ⟨r,hr,h⟩:=DK.get_sound h
    have hd:DeepOwn w (ρ key) t it d vs none:=hs.hp.ent key _ hl
    obtain ⟨u,hu⟩:=z13 (show idx<vs.length by rw [<- hd.len]; exact (List.getElem?_eq_some_iff.1 hr).1)
    obtain ⟨ρ',hs',hu'⟩:=hs.takeInner b5 hl hr hu
    refine inner b4 ?_ (z10 b1) (z10 b2) hs' hu' h
    obtain ⟨A,c,hv',hlc,hA⟩:=zar rfl hd.row
    obtain ⟨b,off,rfl,hcell⟩:=hA (by have:=(List.getElem?_eq_some_iff.1 hu).1; omega)
    rw [hv']; exact hcell _ _ hu
  ·rename_i t it d vs hole hl
   cases hb:(Nat.beq wd 1 && Nat.beq fld 0 && Nat.beq ti.zs.length 1 && !ti.agg && s.kb) with
   | false=>rw [hb] at h; exact h.elim
   | true =>
    rw [hb] at h
    simp only [cond_true] at h
    simp only [Bool.and_eq_true,Bool.not_eq_true'] at hb
    obtain ⟨⟨⟨⟨b1,b2⟩,b3⟩,b4⟩,b5⟩:=hb
    obtain ⟨r,hr,h⟩:=DK.get_sound h
    have hd:DeepRead w (ρ key) d vs:=hs.hp.ent key _ hl
    obtain ⟨u,hu⟩:=z13 (show idx<vs.length by rw [<- hd.len]; exact (List.getElem?_eq_some_iff.1 hr).1)
    obtain ⟨ρ',hs',hu'⟩:=hs.viewInner b5 hl hr hu
    refine inner b4 ?_ (z10 b1) (z10 b2) hs' hu' h
    obtain ⟨A,c,hv',hlc,hA⟩:=hd.row
    obtain ⟨b,off,rfl,hcell⟩:=hA (by have:=(List.getElem?_eq_some_iff.1 hr).1; omega)
    rw [hv']; exact hcell _ _ hu
  obtain ⟨cs,h,hlen,hc⟩:=rd_sound h hs.hp
  cases hg:ti.agg with
  | true =>
   rw [hg] at h
   simp only [cond_true] at h
   have hl:=run_loadCells_list (P:=P) w ⟨(z3x (ρ key)).block,(z3x (ρ key)).off+(idx * wd+fld),none⟩ (z0s ρ cs) (fun j v hj=>by
    rw [z0u,List.getElem?_map] at hj
    cases hu:cs[j]? with
    | none=>rw [hu] at hj; cases hj
    | some u =>
     rw [hu] at hj; cases hj
     rw [Addr.add_lit]
     exact hc j u hu)
   rw [show (z0s ρ cs).length=ti.zs.length by rw [z0u,List.length_map,hlen]] at hl
   refine z11 (v:=SV.toV ρ (.agg cs)) (w':=w) ?_ (z0a h hs hK)
   simp [execOp,ho,he,Instr.loadAt,Instr.sureAddr,loadVar,ht.run_isAgg,hg,ht.run_size,hl,SV.toV]
  | false =>
   rw [hg] at h
   simp only [cond_false] at h
   cases cs with
   | nil=>exact h.elim
   | cons c cs =>
    cases cs with
    | cons _ _=>exact h.elim
    | nil =>
     refine z11 (v:=SV.toV ρ c) (w':=w) ?_ (z0a h hs hK)
     have:=hc 0 c rfl
     simp only [Nat.add_zero] at this
     simp [execOp,ho,he,Instr.loadAt,Instr.sureAddr,loadVar,ht.run_isAgg,hg,run_load,this]
 ·exact h.elim
theorem za6 {ty:TypeId} {ti:TI} (ht:TiOk P ty ti) {v:Value} {vs:List Value} (hv:v.cells=vs.toArray) (hl:vs.length=ti.zs.length) {g off:Nat} {cur:Array Value} {t:TypeId}
  (hg:w.heap[g]? = some (.cells cur t (0,0))) (hfit:off+vs.length <= cur.size) (h1:∀ u ∈ vs,u.oneCell'=true) :
  (storeVar ty ⟨g,off,none⟩ v).run P w = .ok () (w.setRow g (cur.toList.take off ++ vs ++ cur.toList.drop (off+vs.length)).toArray):=by
 have hst:=run_storeCells_at P g off t vs 0 cur w hg (by simpa using hfit) h1
 simp only [Nat.add_zero] at hst
 simp [storeVar,ht.run_size,hv,hl,hst]
theorem store_sound {o:Oper} {ty:TypeId} {x y:Operand} {K:St->Prop} (hT:z5w P T) (ho:o.op = .store ty x y) {Γ:z0c} (h:z3h T Γ N o s K) (hs:Sym B w0 S0 N n0 ρ0 ρ s a w)
  {K':Act->World->Prop} {Q:Exit->Act->World->Prop} (hK:∀ s' ρ' a' w',Sym B w0 S0 N n0 ρ0 ρ' s' a' w'->K s'->K' a' w'):o.wp P a w K' Q:=by
 unfold z3h at h
 rw [ho] at h
 simp only at h
 split at h
 ·rename_i key wd idx fld v ti hx hy hti hdst
  have ht:=hT _ _ hti
  have hx':=z0i hs hx
  have hy':=z0i hs hy
  cases hkey:Nat.blt key s.nk with
  | false=>rw [hkey] at h; exact h.elim
  | true =>
   rw [hkey] at h
   simp only [cond_true] at h
   have hkey:=z1z hkey
   obtain ⟨v',s',ρ',h2,hs',hv',hρ,_⟩:=zdm h hs
   clear h
   have h:=h2
   clear h2
   rw [<- hv'] at hy'
   simp only [SV.toV] at hx'
   rw [<- hρ key hkey] at hx'
   cases hlen:Nat.beq v'.cells.length ti.zs.length with
   | false=>rw [hlen] at h; exact h.elim
   | true =>
    rw [hlen] at h
    have hlen:=z10 hlen
    simp only [cond_true] at h
    have fin:∀ w',(storeVar ty ⟨(z3x (ρ' key)).block,(z3x (ρ' key)).off+(idx * wd+fld),none⟩ (v'.toV ρ')).run P w = .ok () w'->K' a w'->o.wp P a w K' Q:=by
     intro w' hrun hk
     unfold Oper.wp
     have:(execOp a.eval o).run P w = .ok .skip w':=by
      simp [execOp,ho,hx',hy',Instr.storeAt,Instr.sureAddr,hrun]
     rw [this]
     simp only [Oper.upon,hdst,Act.put]
     exact hk
    split at h
    ·rename_i t it d vs hole hl
     split at h
     ·rename_i kr _
      split at h
      ·rename_i it' r hlr
       cases hb:(Nat.beq it it' && Nat.beq wd 1 && Nat.beq fld 0 && s'.kb && !Nat.beq kr key) with
       | false=>rw [hb] at h; exact h.elim
       | true =>
        rw [hb] at h
        simp only [cond_true] at h
        simp only [Bool.and_eq_true,Bool.not_eq_true'] at hb
        obtain ⟨⟨⟨⟨b1,b2⟩,b3⟩,b4⟩,b5⟩:=hb
        have b1:=z10 b1
        have b2:=z10 b2
        have b3:=z10 b3
        subst b1; subst b2; subst b3
        obtain ⟨hhole,h⟩:=h
        obtain ⟨d',hd',hi,h⟩:=DK.set_sound h
        have hd:DeepOwn w (ρ' key) t it d vs hole:=hs'.hp.ent key _ hl
        rw [hd.len] at hi
        have hhole:hole=none ∨ hole=some idx:=by
         cases hole with
         | none=>exact .inl rfl
         | some j=>exact .inr (by rw [show j=idx from hhole])
        rcases hd.row.2 with ⟨_,h0⟩ | ⟨g,cap,cur,hg,hbg,hheap,hn,hc,hsz,htake⟩
        ·omega
        ·simp only [Nat.mul_one] at hsz htake
         have hvl:(SV.row kr).cells.length=1:=rfl
         rw [hvl] at hlen
         have hrun:=za6 (P:=P) ht (z3l (hs'.hp.one kr)) (vs:=[ρ' kr]) hlen (g:=g) (off:=0+(idx * 1+0)) hheap (by simp [hsz]; omega) (by simp [hs'.hp.one kr])
         refine fin _ (by rw [hg]; exact hrun) (hK _ ρ' a _ ?_ (h (ρ' kr)))
         have:=hs'.putInner b4 hl hlr (beq_ne b5) hhole hi hd' hg hheap hn hsz hc htake
         simpa using this
      ·exact h.elim
     ·exact h.elim
    unfold wr at h
    split at h
    ·rename_i t cells hl
     split at h
     ·cases hb:(Nat.ble (fld+v'.cells.length) cells.length && z2s v'.cells) with
      | false=>rw [hb] at h; exact h.elim
      | true =>
       rw [hb] at h
       simp only [cond_true] at h
       simp only [Bool.and_eq_true] at hb
       have hfit:=z8y hb.1
       obtain ⟨g,hg,hhas⟩:=hs'.hp.ent key _ hl
       have hcs:=z5l v' hb.2 hs'.hp.one
       have hvl:(z0s ρ' v'.cells).length=v'.cells.length:=by simp [z0u]
       have hrun:=za6 (P:=P) ht hcs (by rw [hvl,hlen]) (g:=g) (off:=0+(idx * 0+fld)) hhas (by rw [hvl]; simp [z0u]; omega) (zbr hs'.hp.one hb.2)
       refine fin _ (by rw [hg]; exact hrun) (hK _ ρ' a _ (hs'.turn (e':=.box true t (cells.take fld ++ v'.cells ++ cells.drop (fld+v'.cells.length))) hl rfl rfl (z5j w g _) (fun _=>Iff.rfl) hg ?_) h)
       refine ⟨g,hg,?_⟩
       refine (setRow_heap w g _ _ t (0,0) hhas).trans ?_
       simp only [hvl,Nat.mul_zero,Nat.zero_add]
       congr 2
       simp [z0u,List.map_take,List.map_drop]
     ·exact h.elim
    ·rename_i t r hl
     cases hb:Nat.beq wd r.width with
     | false=>rw [hb] at h; exact h.elim
     | true =>
      rw [hb] at h
      have hb:=z10 hb
      subst hb
      try simp only [cond_true] at h
      obtain ⟨r',h,hi,hl',hw',hfit,hcells,hones⟩:=Row.set_sound h ρ'
      have hent:=hs'.hp.ent key _ hl
      have hallone:z2s v'.cells=true:=by
       have:∀ l:List SV,(∀ u ∈ z0s ρ' l,u.oneCell'=true)->z2s l=true:=by
        intro l
        induction l with
        | nil=>intro _; rfl
        | cons s l ih =>
         intro hh
         simp only [z2s,Bool.and_eq_true]
         refine ⟨?_,ih fun u hu=>hh u (by simp [z0s,hu])⟩
         have:=hh (s.toV ρ') (by simp [z0s])
         cases s <;> first | rfl | (exact this) | (simp [SV.toV,Value.oneCell'] at this)
       exact this _ hones
      have hcs:=z5l v' hallone hs'.hp.one
      have hvl:(z0s ρ' v'.cells).length=v'.cells.length:=by simp [z0u]
      rcases hent.2 with ⟨_,h0⟩ | ⟨g,cap,cur,hg,hbg,hheap,hn,hc,hsz,htake⟩
      ·omega
      ·have hmul:(idx+1) * r.width <= r.len * r.width:=Nat.mul_le_mul_right _ hi
       have hmul2:r.len * r.width <= cap * r.width:=Nat.mul_le_mul_right _ hn
       rw [Nat.add_mul] at hmul
       have hrun:=za6 (P:=P) ht hcs (by rw [hvl,hlen]) (g:=g) (off:=0+(idx * r.width+fld)) hheap (by rw [hvl,hsz]; omega) (zbr hs'.hp.one hallone)
       refine fin _ (by rw [hg]; exact hrun) (hK _ ρ' a _ (hs'.turn (e':=.row true t r') hl rfl rfl (z5j w g _) (fun _=>Iff.rfl) (by rw [hg]; rfl) ?_) h)
       refine ⟨by rw [Row.cells_len],.inr ⟨g,cap,_,by rw [hg,hl'],hbg,setRow_heap w g _ _ t (0,0) hheap,by rw [hl']; exact hn,hc,?_,?_⟩⟩
       ·rw [hw',<- hsz]
        simp only [List.size_toArray,List.length_append,List.length_take,List.length_drop,Array.length_toList,hvl]
        rw [hsz]; omega
       ·rw [hl',hw',hcells,<- htake]
        simp only [Nat.zero_add,hvl]
        have e0:(z0s ρ' v'.cells).length=v'.cells.length:=hvl
        rw [List.take_append,List.take_append]
        simp only [List.length_append,List.length_take,Array.length_toList,e0,hsz]
        rw [List.take_take,List.take_take,List.take_of_length_le (l:=z0s ρ' v'.cells) (by rw [e0]; omega),Nat.min_eq_right (by omega),Nat.min_eq_left (by omega)]
        congr 1
        ·rw [Nat.min_eq_left (by omega)]
        ·rw [List.drop_take]
    ·exact h.elim
 ·exact h.elim
end
end Go.Vc
end
section
namespace Go.Vc
open Go Go.RowKit Go.Ql Go.Draw
section
variable {P:Program} {T:Tys} {B:Defs} {w0:World} {S0:Foot} {N n0:Nat} {ρ0:Nat->Value} {ρ:Nat->Value} {s:St} {a:Act} {w:World}
theorem nilCheck_sound {o:Oper} {x:Operand} {K:St->Prop} (ho:o.op = .nilCheck x) {Γ:z0c} (h:z3h T Γ N o s K) (hs:Sym B w0 S0 N n0 ρ0 ρ s a w)
  {K':Act->World->Prop} {Q:Exit->Act->World->Prop} (hK:∀ s' ρ' a' w',Sym B w0 S0 N n0 ρ0 ρ' s' a' w'->K s'->K' a' w'):o.wp P a w K' Q:=by
 unfold z3h at h
 rw [ho] at h
 simp only at h
 split at h
 ·rename_i hv
  have he:=z0i hs hv
  simp only [SV.toV] at he
  refine z11 (w':=w) ?_ (z0a h hs hK)
  simp [execOp,ho,he,SV.toV]
 ·rename_i hv
  have he:=z0i hs hv
  simp only [SV.toV] at he
  refine z11 (w':=w) ?_ (z0a h hs hK)
  simp [execOp,ho,he,SV.toV]
 ·exact h.elim
theorem arith_sound {op:BinOp} {k:IntKind} {p q:Int} {t:TypeId} {K:SV->Prop} (h:arith op k p q K) (hsh:isShift op=false) (ρ:Nat->Value) (w:World):∃ v,K v/\(binOp op t (.int k p) (.int k q)).run P w = .ok (v.toV ρ) w:=by
 cases op <;> first
  | (exact h.elim)
  | (cases hsh; done)
  | (refine ⟨_,h,?_⟩; simp [binOp,Op.intArith,Op.intCmp,SV.toV]; done)
  | (refine ⟨_,h,?_⟩; simp [binOp,Op.intBits,andS,SV.toV]; done)
  | (exact ⟨_,h.2,by simp [binOp,Op.intDiv,h.1,SV.toV]⟩)
theorem shift_sound {op:BinOp} {k k':IntKind} {p q:Int} {t:TypeId} {K:SV->Prop} (h:shiftS op k p q K) (ρ:Nat->Value) (w:World):∃ v,K v/\(binOp op t (.int k p) (.int k' q)).run P w = .ok (v.toV ρ) w:=by
 cases op <;> first
  | (exact h.elim)
  | (refine ⟨_,h.2,?_⟩; simp [binOp,Op.shift,show ¬ q<0 by have:=h.1; omega,SV.toV])
theorem zk1 (op:BinOp) (t:TypeId) (x y:Operand) (k k':IntKind) (p q:Int) (w:World):(eqGuard op t x y (.int k p) (.int k' q)).run P w = .ok () w:=by
 unfold eqGuard; cases op <;> simp
theorem eqGuard_bool (op:BinOp) (t:TypeId) (x y:Operand) (p q:Bool) (w:World):(eqGuard op t x y (.bool p) (.bool q)).run P w = .ok () w:=by
 unfold eqGuard; cases op <;> simp
theorem eqGuard_agg (op:BinOp) (t:TypeId) (x y:Operand) (p q:Array Value) (w:World) (h:P.eqGuardType P.depth t=false):(eqGuard op t x y (.agg p) (.agg q)).run P w = .ok () w:=by
 unfold eqGuard; cases op <;> simp [h]
theorem z75:∀ {ks:List IntKind} {l:List SV} {r:List Int},intsOf ks l=some r->(z0s ρ l).toArray=z25 ks r/\r.length=ks.length
 | [],[],r,h=>by cases h; exact ⟨by simp [z0s,z25],rfl⟩
 | k :: ks,.int k' n :: l,r,h=>by
  unfold intsOf at h
  cases hk:kEq k k' with
  | false=>rw [hk] at h; cases h
  | true =>
   rw [hk] at h
   simp only [cond_true] at h
   have:=z5n hk
   subst this
   split at h
   ·rename_i r' hr
    cases h
    obtain ⟨h1,h2⟩:=z75 hr
    refine ⟨?_,by simp [h2]⟩
    unfold z25 at h1 ⊢
    simp only [z0s,SV.toV,List.zipWith_cons_cons]
    have h1':z0s ρ l=List.zipWith (fun k n=>Value.int k n) ks r':=by
     have:=congrArg Array.toList h1
     simpa using this
    rw [h1']
   ·cases h
 | [],_ :: _,r,h=>by cases h
 | _ :: _,[],r,h=>by cases h
 | _ :: _,.tt :: _,r,h=>by cases h
 | _ :: _,.ff :: _,r,h=>by cases h
 | _ :: _,.bool _ :: _,r,h=>by cases h
 | _ :: _,.row _ :: _,r,h=>by cases h
 | _ :: _,.ptr _ _ _ _ :: _,r,h=>by cases h
 | _ :: _,.agg _ :: _,r,h=>by cases h
 | _ :: _,.tup _ :: _,r,h=>by cases h
 | _ :: _,.fn _ _ :: _,r,h=>by cases h
 | _ :: _,.val _ :: _,r,h=>by cases h
theorem z9f {op:BinOp} {b:Bool} {K:SV->Prop} (h:eqS op b K) {t:TypeId} {x y:Value} (hxy:∀ k n,x ≠ .int k n) (hx2:∀ n,x ≠ .string n) (hx3:∀ k n,x ≠ .float k n) (hx4:∀ k n m,x ≠ .complex k n m) (he:(Op.equal t x y).run P w = .ok b w) (ρ:Nat->Value) :
    ∃ v,K v/\(binOp op t x y).run P w = .ok (v.toV ρ) w:=by
  cases op <;> first
    | (exact h.elim)
    | skip
  · refine ⟨_,h,?_⟩
    have:binOp .eql t x y=(do pure (.bool (<- Op.equal t x y))):=by
      unfold binOp
      cases x <;> first | rfl | (exact absurd rfl (hxy _ _)) | (exact absurd rfl (hx2 _)) | (exact absurd rfl (hx3 _ _)) | (exact absurd rfl (hx4 _ _ _))
    rw [this]
    simp [he,SV.toV]
  · refine ⟨_,h,?_⟩
    have:binOp .neq t x y=(do pure (.bool (!(<- Op.equal t x y)))):=by
      unfold binOp
      cases x <;> first | rfl | (exact absurd rfl (hxy _ _)) | (exact absurd rfl (hx2 _)) | (exact absurd rfl (hx3 _ _)) | (exact absurd rfl (hx4 _ _ _))
    rw [this]
    simp [he,SV.toV]
theorem nilP_eq {v:Value} (h:zbe v=true):v = .pointer none:=by
 unfold zbe at h
 split at h
 ·rfl
 ·cases h
theorem ptrT_sound (hT:z5w P T) {t:TypeId} (h:isPtrT T t=true):∃ d,P.underlying t=some (.pointer d):=by
 unfold isPtrT at h
 split at h
 ·rename_i fs sl ik eqs hti
  have:=(hT _ _ hti).pt [] rfl rfl
  cases hu:P.underlying t with
  | none=>rw [hu] at this; cases this
  | some d =>
   rw [hu] at this
   cases d <;> simp [isPtrD] at this
   exact ⟨_,rfl⟩
 ·cases h
theorem nilI_eq {v:Value} (h:isNilI v=true):v = .nilIface:=by
 cases v <;> first | rfl | cases h
theorem ifaceT_sound (hT:z5w P T) {t:TypeId} (h:zhx T t=true):∃ ms,P.underlying t=some (.interface ms):=by
 unfold zhx at h
 split at h
 ·rename_i fs sl ik eqs hti
  have:=(hT _ _ hti).ifc [] rfl rfl
  cases hu:P.underlying t with
  | none=>rw [hu] at this; cases this
  | some d =>
   rw [hu] at this
   cases d <;> simp [isIfaceD] at this
   exact ⟨_,rfl⟩
 ·cases h
theorem zhq (hT:z5w P T) {o:Oper} {x:Operand} {t1 t:TypeId} {c:Bool} {K:St->Prop} (ho:o.op = .typeAssert x t1 t c) {Γ:z0c} (h:z3h T Γ N o s K) (hs:Sym B w0 S0 N n0 ρ0 ρ s a w)
  {K':Act->World->Prop} {Q:Exit->Act->World->Prop} (hK:∀ s' ρ' a' w',Sym B w0 S0 N n0 ρ0 ρ' s' a' w'->K s'->K' a' w'):o.wp P a w K' Q:=by
 unfold z3h at h
 rw [ho] at h
 simp only at h
 split at h
 ·rename_i t' cs fs sl ik eqs hx hti
  cases hb:(Nat.beq t' t && c && cs.isEmpty) with
  | false=>rw [hb] at h; exact h.elim
  | true =>
   rw [hb] at h
   simp only [cond_true] at h
   simp only [Bool.and_eq_true] at hb
   obtain ⟨⟨b1,b2⟩,b3⟩:=hb
   have b1:=z10 b1
   subst b1; subst b2
   have hcs:cs = #[]:=by simpa using b3
   subst hcs
   obtain ⟨d,hd,hg,_⟩:=(hT _ _ hti).undParts
   have he:=z0i hs hx
   simp only [SV.toV] at he
   refine z11 (v:=SV.toV ρ (.tup [.agg [],.tt])) (w':=w) ?_ (z0a h hs hK)
   simp only [aggD] at hg
   cases d <;> simp [aggD] at hg <;> simp [execOp,ho,he,Instr.typeAssert,run_underlying hd,SV.toV,z0s]
 ·exact h.elim
theorem binS_sound (hT:z5w P T) {cst:Bool} {op:BinOp} {t:TypeId} {x y:SV} {K:SV->Prop} (h:binS T cst op t x y K) (ox oy:Operand) (hcst:cst=true->isConstO oy=true) (ρ:Nat->Value) (w:World) :
  ∃ v,K v/\(eqGuard op t ox oy (x.toV ρ) (y.toV ρ)).run P w = .ok () w/\(binOp op t (x.toV ρ) (y.toV ρ)).run P w = .ok (v.toV ρ) w:=by
 unfold binS at h
 split at h
 ·rename_i k p k' q
  simp only [SV.toV]
  cases hsh:isShift op with
  | true =>
   rw [hsh] at h
   obtain ⟨v,hv,hr⟩:=shift_sound (P:=P) (t:=t) (k':=k') h ρ w
   exact ⟨v,hv,zk1 ..,hr⟩
  | false =>
   rw [hsh] at h
   simp only [cond_false] at h
   cases hk:kEq k k' with
   | false=>rw [hk] at h; exact h.elim
   | true =>
    rw [hk] at h
    have:=z5n hk
    subst this
    obtain ⟨v,hv,hr⟩:=arith_sound (P:=P) (t:=t) h hsh ρ w
    exact ⟨v,hv,zk1 ..,hr⟩
 ·rename_i l l'
  split at h
  ·rename_i ti hti
   split at h
   ·exact h.elim
   ·rename_i k ks hks
    split at h
    ·rename_i p q hp hq
     obtain ⟨hg,heq⟩:=(hT _ _ hti).eq (by rw [hks]; simp)
     rw [hks] at heq
     obtain ⟨e1,l1⟩:=z75 (ρ:=ρ) hp
     obtain ⟨e2,l2⟩:=z75 (ρ:=ρ) hq
     simp only [SV.toV,e1,e2]
     obtain ⟨v,hv,hr⟩:=z9f (P:=P) (t:=t) (w:=w) h (by simp) (by simp) (by simp) (by simp) (heq p q w l1 l2) ρ
     exact ⟨v,hv,eqGuard_agg _ _ _ _ _ _ _ hg,hr⟩
    ·exact h.elim
  ·exact h.elim
 ·rename_i kk ww ii ff v
  cases hb:(zbe v && isPtrT T t) with
  | false=>rw [hb] at h; exact h.elim
  | true =>
   rw [hb] at h
   simp only [Bool.and_eq_true] at hb
   obtain ⟨d,hd⟩:=ptrT_sound hT hb.2
   have hv:=nilP_eq hb.1
   subst hv
   simp only [SV.toV]
   obtain ⟨v,hv,hr⟩:=z9f (P:=P) (t:=t) (w:=w) (x:=.pointer (some ⟨(z3x (ρ kk)).block,(z3x (ρ kk)).off+(ii * ww+ff),none⟩)) (y:=.pointer none) h (by simp) (by simp) (by simp) (by simp) (by show (Op.equalIn (9999+1) t _ _).run P w=_; rw [Op.equalIn]; simp [run_underlying hd]) ρ
   exact ⟨v,hv,by unfold eqGuard; cases op <;> simp,hr⟩
 ·rename_i u v
  cases hb:(zbe u && zbe v && isPtrT T t) with
  | false =>
   rw [hb] at h
   simp only [cond_false] at h
   cases hi:(isNilI v && zhx T t) with
   | false=>rw [hi] at h; exact h.elim
   | true =>
    rw [hi] at h
    simp only [cond_true] at h
    simp only [Bool.and_eq_true] at hi
    obtain ⟨ms,hd⟩:=ifaceT_sound hT hi.2
    have hv:=nilI_eq hi.1
    subst hv
    split at h
    ·rename_i ti vi
     have heq:(Op.equal t (.iface ti vi) .nilIface).run P w = .ok false w:=by
      show (Op.equalIn (9999+1) t _ _).run P w=_
      rw [Op.equalIn]; simp [run_underlying hd]
     split at h
     ·refine ⟨_,h,by simp only [SV.toV]; unfold eqGuard; simp,?_⟩
      simp only [SV.toV]
      unfold binOp
      simp [heq]
     ·refine ⟨_,h,by simp only [SV.toV]; unfold eqGuard; simp,?_⟩
      simp only [SV.toV]
      unfold binOp
      simp [heq]
     ·exact h.elim
    ·cases hc:cst with
     | false=>rw [hc] at h; exact h.elim
     | true =>
      rw [hc] at h
      simp only [cond_true] at h
      have hoy:=hcst hc
      obtain ⟨cv,rfl⟩:∃ cv,oy = .const cv:=by cases oy <;> first | exact ⟨_,rfl⟩ | cases hoy
      have heq:(Op.equal t .nilIface .nilIface).run P w = .ok true w:=by
       show (Op.equalIn (9999+1) t _ _).run P w=_
       rw [Op.equalIn]; simp [run_underlying hd]
      split at h
      ·refine ⟨_,h,by simp only [SV.toV]; unfold eqGuard; simp,?_⟩
       simp only [SV.toV]
       unfold binOp
       simp [heq]
      ·refine ⟨_,h,by simp only [SV.toV]; unfold eqGuard; simp,?_⟩
       simp only [SV.toV]
       unfold binOp
       simp [heq]
      ·exact h.elim
    ·exact h.elim
  | true =>
   rw [hb] at h
   simp only [Bool.and_eq_true] at hb
   obtain ⟨d,hd⟩:=ptrT_sound hT hb.2
   have hu:=nilP_eq hb.1.1
   have hv:=nilP_eq hb.1.2
   subst hu hv
   simp only [SV.toV]
   obtain ⟨v,hv,hr⟩:=z9f (P:=P) (t:=t) (w:=w) (x:=.pointer none) (y:=.pointer none) h (by simp) (by simp) (by simp) (by simp) (by show (Op.equalIn (9999+1) t _ _).run P w=_; rw [Op.equalIn]; simp [run_underlying hd]) ρ
   exact ⟨v,hv,by unfold eqGuard; cases op <;> simp,hr⟩
 ·split at h
  ·rename_i p q fs sl ik eqs hp hq hti
   rw [zfa hp,zfa hq]
   have hu:=(hT _ _ hti).bl [] rfl rfl
   obtain ⟨v,hv,hr⟩:=z9f (P:=P) (t:=t) (w:=w) (x:=.bool p) (y:=.bool q) h (by simp) (by simp) (by simp) (by simp) (by show (Op.equalIn (9999+1) t _ _).run P w=_; rw [Op.equalIn]; simp [run_underlying hu]) ρ
   exact ⟨v,hv,eqGuard_bool ..,hr⟩
  ·exact h.elim
theorem binOp_sound (hT:z5w P T) {o:Oper} {op:BinOp} {t t':TypeId} {x y:Operand} {K:St->Prop} (ho:o.op = .binOp op t x y t') {Γ:z0c} (h:z3h T Γ N o s K) (hs:Sym B w0 S0 N n0 ρ0 ρ s a w)
  {K':Act->World->Prop} {Q:Exit->Act->World->Prop} (hK:∀ s' ρ' a' w',Sym B w0 S0 N n0 ρ0 ρ' s' a' w'->K s'->K' a' w'):o.wp P a w K' Q:=by
 unfold z3h at h
 rw [ho] at h
 simp only at h
 split at h
 ·rename_i key u hp hq
  split at h
  ·rename_i own ty r zs ag fs sl ik eqs hl hti
   cases hu:zdh u with
   | false=>rw [hu] at h; exact h.elim
   | true =>
    rw [hu] at h
    simp only [cond_true] at h
    have hnil:u = .slice none 0 0:=by
     unfold zdh at hu
     split at hu
     ·rfl
     ·cases hu
    subst hnil
    obtain ⟨A,c,hv,hlc,hA⟩:=(hs.hp.ent _ _ hl).reads
    obtain ⟨e,rk,b⟩:=sl
    have hsl:=((hT _ _ hti).sl _ _ _ rfl).1
    have hb:0<r.len->A.isNone=false:=fun h0=>by
     obtain ⟨b,off,rfl,_⟩:=hA h0; rfl
    obtain ⟨v,h,hr⟩:=z9f (P:=P) (t:=t) (w:=w) (x:=.slice A r.len c) (y:=.slice none 0 0) (h A.isNone hb) (by simp) (by simp) (by simp) (by simp) (by show (Op.equalIn (9999+1) t _ _).run P w=_; rw [Op.equalIn]; cases A <;> simp [run_underlying hsl]) ρ
    refine z11 (w':=w) ?_ (z0a h hs hK)
    have e1:=z0i hs hp
    have e2:=z0i hs hq
    simp only [SV.toV] at e1 e2
    rw [hv] at e1
    have hg:(eqGuard op t x y (.slice A r.len c) (.slice none 0 0)).run P w = .ok () w:=by unfold eqGuard; cases op <;> simp
    simp [execOp,ho,e1,e2,hg,hr]
  ·exact h.elim
 ·rename_i p q _ hp hq
  obtain ⟨v,h,hg,hr⟩:=binS_sound hT h x y (fun h=>h) ρ w
  refine z11 (w':=w) ?_ (z0a h hs hK)
  simp [execOp,ho,z0i hs hp,z0i hs hq,hg,hr]
 ·exact h.elim
theorem unOp_sound {o:Oper} {op:UnOp} {t:TypeId} {x:Operand} {K:St->Prop} (ho:o.op = .unOp op t x) {Γ:z0c} (h:z3h T Γ N o s K) (hs:Sym B w0 S0 N n0 ρ0 ρ s a w)
  {K':Act->World->Prop} {Q:Exit->Act->World->Prop} (hK:∀ s' ρ' a' w',Sym B w0 S0 N n0 ρ0 ρ' s' a' w'->K s'->K' a' w'):o.wp P a w K' Q:=by
 unfold z3h at h
 rw [ho] at h
 simp only at h
 split at h
 ·rename_i v hv
  have he:=z0i hs hv
  unfold unS at h
  split at h
  all_goals first
   | (exact h.elim)
   | (refine z11 (w':=w) ?_ (z0a h hs hK); simp [execOp,ho,he,SV.toV,Op.unary,Op.intArith,Op.intBits,notS])
 ·exact h.elim
theorem convert_sound (hT:z5w P T) {o:Oper} {src dst:TypeId} {x:Operand} {K:St->Prop} (ho:o.op = .convert src dst x) {Γ:z0c} (h:z3h T Γ N o s K) (hs:Sym B w0 S0 N n0 ρ0 ρ s a w)
  {K':Act->World->Prop} {Q:Exit->Act->World->Prop} (hK:∀ s' ρ' a' w',Sym B w0 S0 N n0 ρ0 ρ' s' a' w'->K s'->K' a' w'):o.wp P a w K' Q:=by
 unfold z3h at h
 rw [ho] at h
 simp only at h
 split at h
 ·rename_i k0 n t1 zs ag fs sl k eqs hv h1 h2
  have he:=z0i hs hv
  obtain ⟨d,hd,_⟩:=(hT _ _ h1).undParts
  have hu:=(hT _ _ h2).ik k rfl
  refine z11 (w':=w) ?_ (z0a h hs hK)
  simp only [SV.toV] at he
  simp [execOp,ho,he,SV.toV,convert,run_underlying hd,run_underlying hu,Conv.intToInt]
 ·exact h.elim
theorem makeFunc_sound {o:Oper} {f:FuncId} {first caps:Array Operand} {K:St->Prop} (ho:o.op = .makeFunc (.func f) first caps) {Γ:z0c} (h:z3h T Γ N o s K) (hs:Sym B w0 S0 N n0 ρ0 ρ s a w)
  {K':Act->World->Prop} {Q:Exit->Act->World->Prop} (hK:∀ s' ρ' a' w',Sym B w0 S0 N n0 ρ0 ρ' s' a' w'->K s'->K' a' w'):o.wp P a w K' Q:=by
 unfold z3h at h
 rw [ho] at h
 simp only at h
 split at h
 ·rename_i vs hf hv
  have he:=z4m hs hv
  have hf':first = #[]:=by simpa using hf
  refine z11 (w':=w) ?_ (z0a h hs hK)
  subst hf'
  have hc:caps.map a.eval=(z0s ρ vs).toArray:=by apply Array.toList_inj.1; rw [Array.toList_map,he]
  simp [execOp,ho,SV.toV,Instr.makeFunc,hc]
 ·rename_i x l hf hv
  have he:=z4m hs hv
  split at h
  ·rename_i us hu
   have he2:=z4m hs hu
   rw [<- hf] at he2
   refine z11 (w':=w) ?_ (z0a h hs hK)
   have hc:caps.map a.eval = #[]:=by apply Array.toList_inj.1; rw [Array.toList_map,he]; simp [z0s]
   have hc2:first.map a.eval=(z0s ρ us).toArray:=by apply Array.toList_inj.1; rw [Array.toList_map,he2]
   simp [execOp,ho,SV.toV,Instr.makeFunc,hc,hc2]
  ·exact h.elim
 ·exact h.elim
theorem field_of {t:TypeId} {ti:TI} (ht:TiOk P t ti) (hg:ti.agg=true) {f off n:Nat} {ag:Bool} (hf:ti.fs[f]? = some (off,n,ag)) (hlt:Nat.blt off 1000000=true) :
  ∃ fields fd,P.underlying t=some (.struct fields)/\fields[f]? = some fd/\fd.offset=off/\((P.underlying fd.type).bind fun _=>(P.info? fd.type).map (·.size)).getD 0=n/\((P.underlying fd.type).map aggD).getD false=ag:=by
 obtain ⟨d,hd,ha,hfs⟩:=ht.undParts
 rw [<- hfs] at hf
 cases d with
 | struct fields =>
  simp only [z4n,List.getElem?_map] at hf
  cases hfd:fields.toList[f]? with
  | none=>rw [hfd] at hf; cases hf
  | some fd =>
   rw [hfd] at hf
   simp only [Option.map_some,Option.some.injEq,Prod.mk.injEq] at hf
   exact ⟨fields,fd,hd,by simpa using hfd,hf.1,hf.2.1,hf.2.2⟩
 | array n e =>
  simp only [z4n,List.getElem?_map] at hf
  cases hr:(List.range n)[f]? with
  | none=>rw [hr] at hf; cases hf
  | some j =>
   rw [hr] at hf
   simp only [Option.map_some,Option.some.injEq,Prod.mk.injEq] at hf
   have:=z1z hlt
   omega
 | _=>simp [z4n] at hf
theorem place_of {t:TypeId} {ti:TI} (ht:TiOk P t ti) (hg:isArr ti.fs=true):∃ m e,P.underlying t=some (.array m e)/\ti.fs.length=m/\∀ (f off n:Nat) (ag:Bool),ti.fs[f]? = some (off,n,ag) ->
  off=f * ((P.info? e).map (·.size)).getD 0+1000000/\((P.underlying e).bind fun _=>(P.info? e).map (·.size)).getD 0=n/\((P.underlying e).map aggD).getD false=ag:=by
 obtain ⟨d,hd,ha,hfs⟩:=ht.undParts
 have har:=ht.ar hg
 rw [hd] at har
 cases d with
 | array m e =>
  refine ⟨m,e,hd,by rw [<- hfs]; simp [z4n],fun f off n ag hf=>?_⟩
  rw [<- hfs] at hf
  simp only [z4n,List.getElem?_map] at hf
  cases hr:(List.range m)[f]? with
  | none=>rw [hr] at hf; cases hf
  | some j =>
   obtain ⟨h1,h2⟩:=List.getElem?_eq_some_iff.1 hr
   rw [List.getElem_range] at h2
   subst h2
   rw [hr] at hf
   simp only [Option.map_some,Option.some.injEq,Prod.mk.injEq] at hf
   exact ⟨hf.1.symm,hf.2.1,hf.2.2⟩
 | _=>simp [isArrD] at har
theorem size_of {t:TypeId} {n:Nat} (hn:((P.underlying t).bind fun _=>(P.info? t).map (·.size)).getD 0=n+1):∃ i d,P.info? t=some i/\P.underlying t=some d/\i.size=n+1:=by
 cases hu:P.underlying t with
 | none=>rw [hu] at hn; simp at hn
 | some d =>
  rw [hu] at hn
  cases hi:P.info? t with
  | none=>rw [hi] at hn; simp at hn
  | some i =>
   rw [hi] at hn
   exact ⟨i,d,rfl,rfl,by simpa using hn⟩
theorem zk4 (hT:z5w P T) {o:Oper} {ty:TypeId} {x:Operand} {f:Nat} {K:St->Prop} (ho:o.op = .fieldAddr ty x f) {Γ:z0c} (h:z3h T Γ N o s K) (hs:Sym B w0 S0 N n0 ρ0 ρ s a w)
  {K':Act->World->Prop} {Q:Exit->Act->World->Prop} (hK:∀ s' ρ' a' w',Sym B w0 S0 N n0 ρ0 ρ' s' a' w'->K s'->K' a' w'):o.wp P a w K' Q:=by
 unfold z3h at h
 rw [ho] at h
 simp only at h
 split at h
 ·rename_i key wd idx fld ti hv hti
  have he:=z0i hs hv
  split at h
  ·rename_i off n ag hg hf
   cases hlt:Nat.blt off 1000000 with
   | false=>rw [hlt] at h; exact h.elim
   | true =>
   rw [hlt] at h
   obtain ⟨fields,fd,hu,hfd,hoff,hn,_⟩:=field_of (hT _ _ hti) hg hf hlt
   refine z11 (w':=w) ?_ (z0a h hs hK)
   simp only [SV.toV] at he
   obtain ⟨i,d,hi,hd,hn⟩:=size_of hn
   simp [execOp,ho,he,SV.toV,Instr.fieldAt,run_underlying hu,hfd,Instr.sureAddr,fieldPlace,hoff,sizeOf,typeInfo,hi,hn,Addr.add_lit,Nat.add_assoc]
  ·exact h.elim
 ·exact h.elim
theorem zi9 {t:TypeId} {cs:Array Value} {off n:Nat} {ag:Bool} (hn:((P.underlying t).bind fun _=>(P.info? t).map (·.size)).getD 0=n+1) (ha:((P.underlying t).map aggD).getD false=ag) (w:World) :
  (part t cs off).run P w=if ag then .ok (.agg (cs.extract off (off+(n+1)))) w else match cs[off]? with | some v=>.ok v w | none=>.halt (.stuck "part: no such cell") w:=by
 obtain ⟨i,d,hi,hu,hn⟩:=size_of hn
 rw [hu] at ha
 simp only [Option.map_some,Option.getD_some] at ha
 subst ha
 cases hd:aggD d with
 | true=>simp [part,run_isAgg hu,hd,sizeOf,typeInfo,hi,hn]
 | false =>
  simp only [part,Sem.run_bind,run_isAgg hu,hd,Result.andThen]
  cases hc:cs[off]? <;> simp [hc,stuck]
theorem field_sound (hT:z5w P T) {o:Oper} {ty:TypeId} {x:Operand} {f:Nat} {K:St->Prop} (ho:o.op = .field ty x f) {Γ:z0c} (h:z3h T Γ N o s K) (hs:Sym B w0 S0 N n0 ρ0 ρ s a w)
  {K':Act->World->Prop} {Q:Exit->Act->World->Prop} (hK:∀ s' ρ' a' w',Sym B w0 S0 N n0 ρ0 ρ' s' a' w'->K s'->K' a' w'):o.wp P a w K' Q:=by
 unfold z3h at h
 rw [ho] at h
 simp only at h
 split at h
 ·rename_i l ti hv hti
  have he:=z0i hs hv
  simp only [SV.toV] at he
  split at h
  ·rename_i off n hg hf
   cases hb:(Nat.ble (off+(n+1)) l.length && Nat.blt off 1000000) with
   | false=>rw [hb] at h; exact h.elim
   | true =>
    rw [hb] at h
    rw [Bool.and_eq_true] at hb
    obtain ⟨fields,fd,hu,hfd,hoff,hn,ha⟩:=field_of (hT _ _ hti) hg hf hb.2
    refine z11 (w':=w) ?_ (z0a h hs hK)
    simp [execOp,ho,he,SV.toV,Instr.field,run_underlying hu,hfd,asAgg,zi9 hn ha,hoff,z0u,List.map_take,List.map_drop,List.extract_eq_take_drop]
  ·rename_i off n hg hf
   split at h
   ·rename_i v hv
    cases hlt:Nat.blt off 1000000 with
    | false=>rw [hlt] at h; exact h.elim
    | true =>
    rw [hlt] at h
    obtain ⟨fields,fd,hu,hfd,hoff,hn,ha⟩:=field_of (hT _ _ hti) hg hf hlt
    refine z11 (w':=w) ?_ (z0a h hs hK)
    simp [execOp,ho,he,Instr.field,run_underlying hu,hfd,asAgg,zi9 hn ha,hoff,z0u,hv]
   ·exact h.elim
  ·exact h.elim
 ·exact h.elim
theorem idxS_at {l:List SV} {idx:Nat} {K:SV->Prop}:∀ {fs:List (Nat × Nat × Bool)} {j:Nat},idxS l idx K fs j->∀ f,j <= idx->fs[idx - j]? = some f->idx1 l K f
 | [],j,h,f,hj,hf=>by simp at hf
 | [g],j,h,f,hj,hf=>by
  have:idx - j=0:=by
   have:=(List.getElem?_eq_some_iff.1 hf).1
   simp at this; omega
  rw [this] at hf
  simp at hf
  subst hf
  exact h (by omega)
 | g :: g2 :: fs,j,h,f,hj,hf=>by
  obtain ⟨h1,h2⟩:=h
  by_cases e:idx=j
  ·subst e
   rw [Nat.sub_self] at hf
   simp at hf
   subst hf
   exact h1 rfl
  ·refine idxS_at h2 f (by omega) ?_
   rw [show idx - j=(idx - (j+1))+1 by omega,List.getElem?_cons_succ] at hf
   exact hf
theorem index_sound (hT:z5w P T) {o:Oper} {ty:TypeId} {x i:Operand} {K:St->Prop} (ho:o.op = .index ty x i) {Γ:z0c} (h:z3h T Γ N o s K) (hs:Sym B w0 S0 N n0 ρ0 ρ s a w)
  {K':Act->World->Prop} {Q:Exit->Act->World->Prop} (hK:∀ s' ρ' a' w',Sym B w0 S0 N n0 ρ0 ρ' s' a' w'->K s'->K' a' w'):o.wp P a w K' Q:=by
 unfold z3h at h
 rw [ho] at h
 simp only at h
 split at h
 ·rename_i l k n ti hx hi hti
  have hx:=z0i hs hx
  have hi:=z0i hs hi
  simp only [SV.toV] at hx hi
  cases hb:isArr ti.fs with
  | false=>rw [hb] at h; exact h.elim
  | true =>
   rw [hb] at h
   simp only [cond_true] at h
   obtain ⟨⟨h0,h1⟩,h2⟩:=h
   obtain ⟨m,e,hu,hm,hat⟩:=place_of (hT _ _ hti) hb
   obtain ⟨⟨off,sz,ag⟩,hf⟩:∃ f,ti.fs[n.toNat]? = some f:=⟨_,List.getElem?_eq_getElem (by omega)⟩
   have h3:=idxS_at h2 _ (Nat.zero_le _) (by rw [Nat.sub_zero]; exact hf)
   obtain ⟨a1,a2,a3⟩:=hat _ _ _ _ hf
   have hin:0 <= n/\n<(m:Int):=⟨h0,by omega⟩
   cases sz with
   | zero=>cases ag <;> exact h3.elim
   | succ sz =>
    obtain ⟨ie,de,hie,hde,hsz⟩:=size_of a2
    have hoff:off - 1000000=n.toNat * ie.size:=by rw [hie] at a1; simp at a1; omega
    cases ag with
    | true =>
     simp only [idx1] at h3
     cases hbl:Nat.ble (off - 1000000+(sz+1)) l.length with
     | false=>rw [hbl] at h3; exact h3.elim
     | true =>
      rw [hbl] at h3
      refine z11 (w':=w) ?_ (z0a h3 hs hK)
      rw [hoff]
      simp [execOp,ho,hx,hi,SV.toV,Instr.index,asIntOf,run_underlying hu,hin,sizeOf,typeInfo,hie,zi9 a2 a3,z0u,List.map_take,List.map_drop,List.extract_eq_take_drop]
    | false =>
     simp only [idx1] at h3
     split at h3
     ·rename_i v hv
      refine z11 (w':=w) ?_ (z0a h3 hs hK)
      rw [hoff] at hv
      simp [execOp,ho,hx,hi,Instr.index,asIntOf,run_underlying hu,hin,sizeOf,typeInfo,hie,zi9 a2 a3,z0u,hv]
     ·exact h3.elim
 ·exact h.elim
theorem zkh (hT:z5w P T) {o:Oper} {ty:TypeId} {x i:Operand} {K:St->Prop} (ho:o.op = .indexAddr ty x i) {Γ:z0c} (h:z3h T Γ N o s K) (hs:Sym B w0 S0 N n0 ρ0 ρ s a w)
  {K':Act->World->Prop} {Q:Exit->Act->World->Prop} (hK:∀ s' ρ' a' w',Sym B w0 S0 N n0 ρ0 ρ' s' a' w'->K s'->K' a' w'):o.wp P a w K' Q:=by
 unfold z3h at h
 rw [ho] at h
 simp only at h
 split at h
 ·rename_i key k n zs ag fs e rk by_ ik eqs hx hi hti
  have hx:=z0i hs hx
  have hi:=z0i hs hi
  split at h
  ·rename_i own t r hl
   cases hb:Nat.beq rk.width r.width with
   | false=>rw [hb] at h; exact h.elim
   | true =>
    rw [hb] at h
    simp only [cond_true] at h
    obtain ⟨⟨h0,h1⟩,h⟩:=h
    obtain ⟨hu,hinfo,_⟩:=(hT _ _ hti).sl e rk by_ rfl
    cases hie:P.info? e with
    | none=>rw [hie] at hinfo; cases hinfo
    | some ie =>
     rw [hie] at hinfo
     simp only [Option.map_some,Option.some.injEq,Prod.mk.injEq] at hinfo
     obtain ⟨A,c,hv,hlc,hA⟩:=EntOk.reads (hs.hp.ent key _ hl)
     obtain ⟨b,off,rfl,_⟩:=hA (by omega)
     refine z11 (w':=w) ?_ (z0a h hs hK)
     simp only [SV.toV] at hx hi
     rw [hv] at hx
     simp [execOp,ho,hx,hi,SV.toV,Instr.indexAt,asIntOf,run_underlying hu,h0,h1,sizeOf,typeInfo,hie,hinfo.2.1,hv,z3x,Addr.add_lit]
  ·rename_i t cs hl
   cases hb:allW rk.width cs with
   | false=>rw [hb] at h; exact h.elim
   | true =>
    rw [hb] at h
    simp only [cond_true] at h
    obtain ⟨⟨h0,h1⟩,h⟩:=h
    obtain ⟨hu,hinfo,_⟩:=(hT _ _ hti).sl e rk by_ rfl
    cases hie:P.info? e with
    | none=>rw [hie] at hinfo; cases hinfo
    | some ie =>
     rw [hie] at hinfo
     simp only [Option.map_some,Option.some.injEq,Prod.mk.injEq] at hinfo
     obtain ⟨g,hg,hhas⟩:=hs.hp.ent key _ hl
     refine z11 (w':=w) ?_ (z0a h hs hK)
     simp only [SV.toV] at hx hi
     rw [hg] at hx
     simp [execOp,ho,hx,hi,SV.toV,Instr.indexAt,asIntOf,run_underlying hu,h0,h1,sizeOf,typeInfo,hie,hinfo.2.1,hg,z3x,Addr.add_lit]
  ·rename_i own t it d vs hole hl
   cases hb:Nat.beq rk.width 1 with
   | false=>rw [hb] at h; exact h.elim
   | true =>
    rw [hb] at h
    simp only [cond_true] at h
    have hb:=z10 hb
    obtain ⟨⟨h0,h1⟩,h⟩:=h
    obtain ⟨hu,hinfo,_⟩:=(hT _ _ hti).sl e rk by_ rfl
    cases hie:P.info? e with
    | none=>rw [hie] at hinfo; cases hinfo
    | some ie =>
     rw [hie] at hinfo
     simp only [Option.map_some,Option.some.injEq,Prod.mk.injEq] at hinfo
     obtain ⟨A,c,hv,hlc,hA⟩:=deep_reads (hs.hp.ent key _ hl)
     obtain ⟨b,off,rfl,_⟩:=hA (by omega)
     refine z11 (w':=w) ?_ (z0a h hs hK)
     simp only [SV.toV] at hx hi
     rw [hv] at hx
     simp [execOp,ho,hx,hi,SV.toV,Instr.indexAt,asIntOf,run_underlying hu,h0,h1,sizeOf,typeInfo,hie,hinfo.2.1,hv,z3x,Addr.add_lit,hb]
  ·exact h.elim
 ·exact h.elim
theorem extract_sound {o:Oper} {x:Operand} {i:Nat} {K:St->Prop} (ho:o.op = .extract x i) {Γ:z0c} (h:z3h T Γ N o s K) (hs:Sym B w0 S0 N n0 ρ0 ρ s a w)
  {K':Act->World->Prop} {Q:Exit->Act->World->Prop} (hK:∀ s' ρ' a' w',Sym B w0 S0 N n0 ρ0 ρ' s' a' w'->K s'->K' a' w'):o.wp P a w K' Q:=by
 unfold z3h at h
 rw [ho] at h
 simp only at h
 split at h
 ·rename_i l hv
  have he:=z0i hs hv
  simp only [SV.toV] at he
  split at h
  ·rename_i v hv
   refine z11 (w':=w) ?_ (z0a h hs hK)
   simp [execOp,ho,he,Instr.extract,z0u,hv]
  ·exact h.elim
 ·exact h.elim
end
end Go.Vc
end
