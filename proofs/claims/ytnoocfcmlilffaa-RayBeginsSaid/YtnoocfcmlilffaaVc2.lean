/-
  THE SYMBOLIC EXECUTOR: operations, regions, code. No program in sight.
-/
import Derived.Test.YtnoocfcmlilffaaVc1
set_option linter.all false
set_option linter.unusedSimpArgs false
set_option linter.unusedVariables false
namespace Go.Vc
open Go Go.RowKit Go.Ql Go.Draw

def natsEq : List Nat → List Nat → Bool
  | [], [] => true
  | a :: l, b :: m => Nat.beq a b && natsEq l m
  | _, _ => false

def lenS (T : Tys) (s : St) (t : TypeId) (v : SV) (K : SV → Prop) : Prop :=
  match lk t T, v with
  | some ⟨_, _, _, some _, _, _⟩, .row key => match lk key s.hp with
    | some (.row _ _ r) => K (.int .i64 (r.len : Int))
    | some (.vec _ cs) => K (.int .i64 (cs.length : Int))
    | _ => False
  | _, _ => False

def appendS (T : Tys) (s : St) (t : TypeId) (x y : SV) (K : SV → St → Prop) : Prop :=
  match lk t T, x, y with
  | some ⟨_, _, _, some (e, rk, _), _, _⟩, .row kx, .row ky => match lk kx s.hp, lk ky s.hp with
    | some (.row true tx r1), some (.row _ _ r2) => match r1.app r2 with
      | some r => bif s.kb && Nat.beq tx e && Nat.beq rk.width r1.width && !Nat.beq kx ky then
          (r1.len + r2.len ≤ 1000000000) ∧ K (.row s.nk) { tm := s.tm, hp := (s.nk, .row true e r) :: del kx s.hp, nk := s.nk + 1 }
        else False
      | none => False
    | _, _ => False
  | _, _, _ => False

/-- the bound of a slice expression -/
def bnd (s : St) (d : Int) : Option Operand → Option Int
  | none => some d
  | some x => match ev s x with
    | some (.int _ n) => some n
    | _ => none
def sliceS (T : Tys) (s : St) (t : TypeId) (x : SV) (low high max : Option Operand) (K : SV → St → Prop) : Prop :=
  match lk t T, x with
  | some ⟨_, _, _, some (e, rk, _), _, _⟩, .row key => match lk key s.hp with
    | some (.row own tx r) => bif s.kb && Nat.beq rk.width r.width && Nat.blt key s.nk && (max.isNone || high.isSome) then match bnd s 0 low, bnd s r.len high, bnd s r.len max with
        | some l, some h, some m => (0 ≤ l ∧ l ≤ h ∧ h ≤ m ∧ m ≤ (r.len : Int)) ∧ (bif own && low.isNone && max.isNone && Nat.beq tx e
            then K (.row s.nk) { tm := s.tm, hp := (s.nk, .row true e (r.sub 0 h.toNat)) :: del key s.hp, nk := s.nk + 1 }
            else K (.row s.nk) { tm := s.tm, hp := (s.nk, .row false e (r.sub l.toNat h.toNat)) :: put key (.row false tx r) s.hp, nk := s.nk + 1 })
        | _, _, _ => False
      else False
    | _ => False
  | _, _ => False
def copyS (T : Tys) (s : St) (t t' : TypeId) (x y : SV) (K : SV → St → Prop) : Prop :=
  match lk t T, lk t' T, x, y with
  | some ⟨_, _, _, some (e, rk, _), _, _⟩, some ⟨_, _, _, some _, _, _⟩, .row kx, .row ky => match lk kx s.hp, lk ky s.hp with
    | some (.row true tx r1), some (.row _ _ r2) => match r1.over r2 with
      | some r => bif Nat.beq rk.width r1.width && !Nat.beq kx ky then
          K (.int .i64 (Nat.min r2.len r1.len : Nat)) { s with hp := put kx (.row true tx r) s.hp }
        else False
      | none => False
    | _, _ => False
  | _, _, _, _ => False

/-- a map's key -/
def keyS (kk : List IntKind) (v : SV) : Option (List Int) := match kk, v with
  | [k], .int k' n => bif kEq k k' then some [n] else none
  | k :: k' :: ks, .agg l => intsOf (k :: k' :: ks) l
  | _, _ => none
def valS (vk : MK) (v : SV) : Option Int := match vk, v with
  | .bool, v => match boolOf v with
    | some b => some (bif b then 1 else 0)
    | none => none
  | .int k, .int k' n => bif kEq k k' then some n else none
  | _, _ => none
def lookS (T : Tys) (s : St) (t : TypeId) (x i : SV) (commaOk : Bool) (K : SV → Prop) : Prop :=
  match lk t T, x with
  | some ⟨[.map kk vk], false, _, _, _, _⟩, .row key => match lk key s.hp, keyS kk i with
    | some (.map kk' vk' m), some k => bif kksEq kk kk' && vk.eq vk' then
        (bif commaOk then K (.tup [vk.sv ((mget m k).getD 0), .bool (mget m k).isSome]) else K (vk.sv ((mget m k).getD 0)))
      else False
    | _, _ => False
  | _, _ => False
def updS (T : Tys) (s : St) (t : TypeId) (x i v : SV) (K : St → Prop) : Prop :=
  match lk t T, x with
  | some ⟨[.map kk vk], false, _, _, _, _⟩, .row key => match lk key s.hp, keyS kk i, valS vk v with
    | some (.map kk' vk' m), some k, some n => bif kksEq kk kk' && vk.eq vk' then K { s with hp := put key (.map kk' vk' (mput m k n)) s.hp } else False
    | _, _, _ => False
  | _, _ => False

def vcCall (T : Tys) (Γ : Specs) (N : Nat) (o : Oper) (c : Call) (s : St) (K : St → Prop) : Prop :=
  match c.callee with
  | .builtin .len => match evs s c.args.toList, c.argTypes.toList with
    | some [v], [t] => lenS T s t v fun v => toDst N o.dst v s K
    | _, _ => False
  | .builtin .append => match evs s c.args.toList, c.argTypes.toList with
    | some [x, y], [t, t'] => bif Nat.beq t t' then appendS T s t x y fun v s => toDst N o.dst v s K else False
    | _, _ => False
  | .builtin .copy => match evs s c.args.toList, c.argTypes.toList with
    | some [x, y], [t, t'] => copyS T s t t' x y fun v s => toDst N o.dst v s K
    | _, _ => False
  | .builtin .min => match evs s c.args.toList with
    | some (x :: l) => match minS x l with
      | some v => toDst N o.dst v s K
      | none => False
    | _ => False
  | .builtin .max => match evs s c.args.toList with
    | some (x :: l) => match maxS x l with
      | some v => toDst N o.dst v s K
      | none => False
    | _ => False
  | .value f => match ev s f, evs s c.args.toList with
    | some (.fn g caps), some vs => match lk g Γ with
      | some (_, spec) => bif Nat.blt g 1000000000 && kbs s.nk caps then nrms T c.argTypes.toList vs s fun vs s => bif s.kb then spec (vs ++ caps) s.hp s.nk fun res hp nk => toDst N o.dst res { tm := s.tm, hp := hp, nk := nk } K else StuckAt 1 (vs, s) else StuckAt 2 s
      | none => StuckAt 3 (g, vs)
    | _, _ => False
  | _ => False

def vcOp (T : Tys) (Γ : Specs) (N : Nat) (o : Oper) (s : St) (K : St → Prop) : Prop :=
  match o.op with
  | .move x => match ev s x with
    | some v => nrm T o.type v s fun v s => toDst N o.dst v s K
    | none => False
  | .assign x => match ev s x with
    | some v => nrm T o.type v s fun v s => toDst N o.dst v s K
    | none => False
  | .pick c x y => match ev s c with
    | some .tt => match ev s x with
      | some v => toDst N o.dst v s K
      | none => False
    | some .ff => match ev s y with
      | some v => toDst N o.dst v s K
      | none => False
    | some (.bool b) => match ev s x, ev s y with
      | some v, some u => match boolOf v, boolOf u with
        | some p, some q => toDst N o.dst (.bool (bif b then p else q)) s K
        | _, _ => False
      | _, _ => False
    | _ => False
  | .alloc ty => match lk ty T with
    | some ti => bif s.kb then match zeros ti.zs s.nk with
        | (cells, h, n) => toDst N o.dst (.ptr n 0 0 0) { tm := s.tm, hp := (n, .box true ty cells) :: (h ++ s.hp), nk := n + 1 } K
      else False
    | none => False
  | .box ty x => match ev s x with
    | some v => bif s.kb && allOne v.cells && kbs s.nk v.cells then toDst N o.dst (.ptr s.nk 0 0 0) { tm := s.tm, hp := (s.nk, .box true ty v.cells) :: s.hp, nk := s.nk + 1 } K else False
    | none => False
  | .build ty parts => match lk ty T, evs s (parts.toList.map (·.2)) with
    | some ti, some vs => bif s.kb && kbs s.nk vs && ti.agg && !ti.fs.isEmpty then match zeros ti.zs s.nk with
        | (cells, h, n) => match fillS ti.fs cells ((parts.toList.map (·.1)).zip vs) with
          | some cs => toDst N o.dst (.agg cs) { tm := s.tm, hp := h ++ s.hp, nk := n } K
          | none => False
      else False
    | _, _ => False
  | .buildSlice ty len parts => match lk ty T, evs s (parts.toList.map (·.2)) with
    | some ⟨_, _, _, some (e, rk, _), _, _⟩, some vs => match rk.empty.snocs vs with
      | some r => bif s.kb && natsEq (parts.toList.map (·.1)) (List.range len) && Nat.ble len 1000 then
          toDst N o.dst (.row s.nk) { tm := s.tm, hp := (s.nk, .row true e r) :: s.hp, nk := s.nk + 1 } K
        else False
      | none => bif rk.isFn && s.kb && kbs s.nk vs && allOne vs && natsEq (parts.toList.map (·.1)) (List.range len) && Nat.ble len 1000 && Nat.blt 0 len then
          toDst N o.dst (.row s.nk) { tm := s.tm, hp := (s.nk, .vec e vs) :: s.hp, nk := s.nk + 1 } K
        else False
    | _, _ => False
  | .load ty x => match ev s x, lk ty T with
    | some (.ptr key w idx fld), some ti => rd s.hp key w idx fld ti.zs.length fun cs =>
        bif ti.agg then toDst N o.dst (.agg cs) s K else match cs with
          | [c] => toDst N o.dst c s K
          | _ => False
    | _, _ => False
  | .store ty x y => match ev s x, ev s y, lk ty T, o.dst with
    | some (.ptr key w idx fld), some v, some ti, none => bif Nat.blt key s.nk then nrm T ty v s fun v s =>
        bif Nat.beq v.cells.length ti.zs.length then wr s.hp key w idx fld v.cells fun hp => K { tm := s.tm, hp := hp, nk := s.nk } else False else False
    | _, _, _, _ => False
  | .nilCheck x => match ev s x with
    | some (.ptr key w idx fld) => toDst N o.dst (.ptr key w idx fld) s K
    | some (.fn f caps) => toDst N o.dst (.fn f caps) s K
    | _ => False
  | .binOp op t x y _ => match ev s x, ev s y with
    | some (.row key), some (.val u) => match lk key s.hp, lk t T with
      | some (.row _ _ r), some ⟨_, _, _, some _, _, _⟩ => bif isNilV u then ∀ b : Bool, (0 < r.len → b = false) → eqS op b fun v => toDst N o.dst v s K else False
      | _, _ => False
    | some a, some b => binS T op t a b fun v => toDst N o.dst v s K
    | _, _ => False
  | .unOp op _ x => match ev s x with
    | some a => unS op a fun v => toDst N o.dst v s K
    | none => False
  | .convert src dst x => match ev s x, lk src T, lk dst T with
    | some (.int _ n), some _, some ⟨_, _, _, _, some k, _⟩ => toDst N o.dst (.int k (k.wrap n)) s K
    | _, _, _ => False
  | .makeFunc (.func f) first caps => match first.toList, evs s caps.toList with
    | [], some vs => toDst N o.dst (.fn f vs) s K
    | _, _ => False
  | .makeSlice ty l c => match lk ty T, ev s l, ev s c with
    | some ⟨_, _, _, some (e, rk, _), _, _⟩, some (.int _ n), some (.int _ m) => bif s.kb && !rk.isFn then
        (n = m ∧ 0 ≤ n ∧ n ≤ 1000000000) ∧ toDst N o.dst (.row s.nk) { tm := s.tm, hp := (s.nk, .row true e (rk.many n.toNat)) :: s.hp, nk := s.nk + 1 } K
      else False
    | _, _, _ => False
  | .fieldAddr ty x f => match ev s x, lk ty T with
    | some (.ptr key w idx fld), some ti => match ti.agg, ti.fs[f]? with
      | true, some (off, _ + 1, _) => toDst N o.dst (.ptr key w idx (fld + off)) s K
      | _, _ => False
    | _, _ => False
  | .field ty x f => match ev s x, lk ty T with
    | some (.agg l), some ti => match ti.agg, ti.fs[f]? with
      | true, some (off, n + 1, true) => bif Nat.ble (off + (n + 1)) l.length then toDst N o.dst (.agg ((l.drop off).take (n + 1))) s K else False
      | true, some (off, _ + 1, false) => match l[off]? with
        | some v => toDst N o.dst v s K
        | none => False
      | _, _ => False
    | _, _ => False
  | .indexAddr ty x i => match ev s x, ev s i, lk ty T with
    | some (.row key), some (.int _ i), some ⟨_, _, _, some (_, rk, _), _, _⟩ => match lk key s.hp with
      | some (.row _ _ r) => bif Nat.beq rk.width r.width then (0 ≤ i ∧ i < (r.len : Int)) ∧ toDst N o.dst (.ptr key rk.width i.toNat 0) s K else False
      | some (.vec _ cs) => bif Nat.beq rk.width 1 then (0 ≤ i ∧ i < (cs.length : Int)) ∧ toDst N o.dst (.ptr key 1 i.toNat 0) s K else False
      | _ => False
    | _, _, _ => False
  | .makeMap ty none => match lk ty T with
    | some ⟨[.map kk vk], false, _, _, _, _⟩ => bif s.kb then toDst N o.dst (.row s.nk) { tm := s.tm, hp := (s.nk, .map kk vk []) :: s.hp, nk := s.nk + 1 } K else False
    | _ => False
  | .lookup ty x i commaOk => match ev s x, ev s i with
    | some v, some u => lookS T s ty v u commaOk fun v => toDst N o.dst v s K
    | _, _ => False
  | .mapUpdate ty x i y => match ev s x, ev s i, ev s y, o.dst with
    | some v, some u, some z, none => updS T s ty v u z K
    | _, _, _, _ => False
  | .slice ty x low high max => match ev s x with
    | some v => sliceS T s ty v low high max fun v s => toDst N o.dst v s K
    | none => False
  | .extract x i => match ev s x with
    | some (.tup l) => match l[i]? with
      | some v => toDst N o.dst v s K
      | none => False
    | _ => False
  | .call c => vcCall T Γ N o c s K
  | _ => StuckAt 4 o

/-! ### rounds of a range over a function -/
def yid (k : Nat) : Nat := k + 1000000000
def vcOpY (T : Tys) (Γ : Specs) (N : Nat) (o : Oper) (s : St) (K : St → Prop) : Prop :=
  match o.op with
  | .call c => match c.callee with
    | .value f => match ev s f with
      | some (.row key) => match lk (yid key) Γ, evs s c.args.toList with
        | some (_, spec), some vs => nrms T c.argTypes.toList vs s fun vs s => bif s.kb then spec vs s.hp s.nk fun res hp nk => toDst N o.dst res { tm := s.tm, hp := hp, nk := nk } K else StuckAt 1 (vs, s)
        | _, _ => StuckAt 3 key
      | _ => vcOp T Γ N o s K
    | _ => vcOp T Γ N o s K
  | _ => vcOp T Γ N o s K

/-! ### regions -/
def dropDst (N : Nat) (dst : Option Tmp) (s : St) : St :=
  match dst with
  | none => s
  | some d => bif Nat.blt d N then { s with tm := put d (.tup []) s.tm } else { s with tm := del d s.tm }
def dstAt (ops : List Oper) (j : Nat) : Option Tmp := (ops[j]?).bind (·.dst)

def vcList (T : Tys) (Γ : Specs) (N : Nat) (ops : List Oper) : List Oper → St → (St → Prop) → Prop
  | [], s, K => K s
  | o :: l, s, K => match o.guard with
    | none => vcOpY T Γ N o s fun s => vcList T Γ N ops l s K
    | some (j, want) => match dstAt ops j with
      | none => False
      | some t => match lk t s.tm with
        | some .tt => bif want then vcOpY T Γ N o s fun s => vcList T Γ N ops l s K else vcList T Γ N ops l (dropDst N o.dst s) K
        | some .ff => bif want then vcList T Γ N ops l (dropDst N o.dst s) K else vcOpY T Γ N o s fun s => vcList T Γ N ops l s K
        | some (.bool b) =>
          (b = true → (bif want then vcOpY T Γ N o { s with tm := put t .tt s.tm } fun s => vcList T Γ N ops l s K else vcList T Γ N ops l (dropDst N o.dst { s with tm := put t .tt s.tm }) K)) ∧
          (b = false → (bif want then vcList T Γ N ops l (dropDst N o.dst { s with tm := put t .ff s.tm }) K else vcOpY T Γ N o { s with tm := put t .ff s.tm } fun s => vcList T Γ N ops l s K))
        | some (.tup []) => vcList T Γ N ops l (dropDst N o.dst s) K
        | _ => False

/-- a call that leaves all memory that was there as it was -/
def pureCall (Γ : Specs) (s : St) (o : Oper) : Bool :=
  match o.op with
  | .call c => match c.callee with
    | .value f => match ev s f with
      | some (.fn g _) => match lk g Γ with
        | some (ro, _) => ro
        | none => false
      | _ => false
    | _ => false
  | _ => false
/-! ### regions that draw their order: a tree -/
def isQuiet (o : Oper) : Bool :=
  match o.op with
  | .move _ | .assign _ | .pick .. | .build .. | .makeFunc .. | .makeInterface .. | .extract .. | .unOp .. | .field .. | .indexAddr .. | .index .. | .slice .. | .binOp .. | .fieldAddr .. | .load .. | .convert .. | .nilCheck _ => true
  | .call { callee := .builtin .len, .. } | .call { callee := .builtin .min, .. } | .call { callee := .builtin .max, .. } => true
  | _ => false
def isLoad (o : Oper) : Bool :=
  match o.op with
  | .load .. => true
  | _ => false
def allRo : Specs → Bool
  | [] => true
  | (_, (ro, _)) :: l => ro && allRo l
/-- calls that leave all memory that was there as it was -/
def flOf (Γ : Specs) (o : Oper) : Bool :=
  match o.op with
  | .call c => match c.callee with
    | .value (.func g) => match lk g Γ with
      | some (ro, _) => ro
      | none => false
    | .value _ => allRo Γ
    | _ => false
  | _ => false
def memN (i : Nat) : List Nat → Bool
  | [] => false
  | j :: l => Nat.beq i j || memN i l
def readyO (done : List Nat) (o : Oper) : Bool := o.after.toList.all fun e => !Region.binds .any e || memN e.on done
def rdyL (done : List Nat) : List Oper → Nat → List (Nat × Oper)
  | [], _ => []
  | o :: l, i => bif !memN i done && readyO done o then (i, o) :: rdyL done l (i + 1) else rdyL done l (i + 1)
def writersO (Γ : Specs) : List Oper → Nat → List Nat
  | [], _ => []
  | o :: l, i => bif isQuiet o || newKind o || flOf Γ o then writersO Γ l (i + 1) else i :: writersO Γ l (i + 1)
def eagO (Γ : Specs) (ops : List Oper) (q : Nat) (o : Oper) : Bool :=
  isQuiet o && (!isLoad o || (writersO Γ ops 0).all fun j => memN q ((ancs ops.toArray).getD j []) || memN j ((ancs ops.toArray).getD q []))
def firstE (eag : Nat → Oper → Bool) : List (Nat × Oper) → Option (Nat × Oper)
  | [] => none
  | (i, o) :: l => bif eag i o then some (i, o) else firstE eag l
def stepO (T : Tys) (Γ : Specs) (N : Nat) (ops : List Oper) (fl : Bool) (o : Oper) (s : St) (K : St → Prop) : Prop :=
  match o.guard with
  | none => bif !fl || pureCall Γ s o then vcOp T Γ N o s K else StuckAt 8 o
  | some (j, want) => match dstAt ops j with
    | none => False
    | some t => match lk t s.tm with
      | some .tt => bif want then (bif !fl || pureCall Γ s o then vcOp T Γ N o s K else StuckAt 8 o) else K (dropDst N o.dst s)
      | some .ff => bif want then K (dropDst N o.dst s) else (bif !fl || pureCall Γ s o then vcOp T Γ N o s K else StuckAt 8 o)
      | some (.bool b) =>
        (b = true → (bif want then (bif !fl || pureCall Γ { s with tm := put t .tt s.tm } o then vcOp T Γ N o { s with tm := put t .tt s.tm } K else StuckAt 8 o) else K (dropDst N o.dst { s with tm := put t .tt s.tm }))) ∧
        (b = false → (bif want then K (dropDst N o.dst { s with tm := put t .ff s.tm }) else (bif !fl || pureCall Γ { s with tm := put t .ff s.tm } o then vcOp T Γ N o { s with tm := put t .ff s.tm } K else StuckAt 8 o)))
      | some (.tup []) => K (dropDst N o.dst s)
      | _ => False
def allP {α : Type} (f : α → Prop) : List α → Prop
  | [] => True
  | [x] => f x
  | x :: y :: l => f x ∧ allP f (y :: l)
def vcT (T : Tys) (Γ : Specs) (N : Nat) (ops : List Oper) : Nat → List Nat → St → (St → Prop) → Prop
  | 0, done, s, K => match rdyL done ops 0 with
    | [] => K s
    | _ :: _ => False
  | f + 1, done, s, K => match rdyL done ops 0 with
    | [] => K s
    | p :: l => match firstE (eagO Γ ops) (p :: l) with
      | some q => stepO T Γ N ops (flOf Γ q.2) q.2 s fun s => vcT T Γ N ops f (q.1 :: done) s K
      | none => allP (fun q => stepO T Γ N ops (flOf Γ q.2) q.2 s fun s => vcT T Γ N ops f (q.1 :: done) s K) (p :: l)

/-- operands of comparisons and sums are plain at the region's end -/
def leafS : SV → Bool
  | .int _ _ => true
  | .tt => true
  | .ff => true
  | .bool _ => true
  | _ => false
def plainSV : SV → Bool
  | .agg l => l.all leafS
  | s => leafS s
def ptrS : SV → Bool
  | .ptr _ _ _ _ => true
  | .fn _ _ => true
  | .val v => isNilP v
  | _ => false
def plainOp (s : St) (o : Oper) : Bool := (needs o).all fun x => match ev s x with
  | some v => match o.op with
    | .call _ => leafS v
    | .nilCheck _ => ptrS v
    | _ => plainSV v
  | none => false
def plainS (ops : List Oper) (s : St) : List Oper → Bool
  | [] => true
  | o :: l => (match o.guard with
    | none => plainOp s o
    | some (j, want) => match dstAt ops j with
      | none => true
      | some t => match lk t s.tm with
        | some .tt => bif want then plainOp s o else true
        | some .ff => bif want then true else plainOp s o
        | some (.tup []) => true
        | _ => plainOp s o) && plainS ops s l

/-! ### loops -/
/-- a loop's relation: so it stands at the head, for some ghost; it gets less -/
structure Ann where
  G : Type
  inv : G → St
  rel : G → G → Prop
  meas : G → Nat

/-- one state says all that another one says, its keys read by a list -/
def kmap (σ : List (Nat × Nat)) (k : Nat) : Nat := (lk k σ).getD k
abbrev KM := List (Nat × Nat)

mutual
def matchK (σ : KM) : SV → SV → Option KM
  | .row k, .row k' => addK σ k' k
  | .ptr k _ _ _, .ptr k' _ _ _ => addK σ k' k
  | .agg l, .agg l' => matchKs σ l l'
  | .tup l, .tup l' => matchKs σ l l'
  | .fn _ l, .fn _ l' => matchKs σ l l'
  | _, _ => some σ
def matchKs (σ : KM) : List SV → List SV → Option KM
  | a :: l, b :: m => match matchK σ a b with
    | some σ' => matchKs σ' l m
    | none => none
  | [], [] => some σ
  | _, _ => none
def addK (σ : KM) (k' k : Nat) : Option KM := match lk k' σ with
  | some j => bif Nat.beq j k then some σ else none
  | none => some ((k', k) :: σ)
end
def matchTm (tm : List (Nat × SV)) : KM → List (Nat × SV) → Option KM
  | σ, [] => some σ
  | σ, (t, v) :: l => match lk t tm with
    | some u => match matchK σ u v with
      | some σ' => matchTm tm σ' l
      | none => none
    | none => none
def idK (σ : KM) (k : Nat) : KM := match lk k σ with
  | some _ => σ
  | none => (k, k) :: σ
def matchHp (hp : Heap) : KM → Heap → Option KM
  | σ, [] => some σ
  | σ, (k, e) :: l => match lk (kmap σ k) hp, e with
    | some (.box _ _ cs), .box _ _ cs' => match matchKs (idK σ k) cs cs' with
      | some σ' => matchHp hp σ' l
      | none => none
    | some (.vec _ cs), .vec _ cs' => match matchKs (idK σ k) cs cs' with
      | some σ' => matchHp hp σ' l
      | none => none
    | some _, _ => matchHp hp (idK σ k) l
    | none, _ => none

mutual
def subV (σ : KM) : SV → SV → Prop
  | .int k n, .int k' n' => bif kEq k k' then n = n' else False
  | .tt, .tt => True
  | .ff, .ff => True
  | .bool b, .bool b' => b = b'
  | .tt, .bool b' => true = b'
  | .ff, .bool b' => false = b'
  | .row k, .row k' => bif Nat.beq k (kmap σ k') then True else False
  | .ptr k w i f, .ptr k' w' i' f' => bif Nat.beq k (kmap σ k') && Nat.beq w w' && Nat.beq f f' then i = i' else False
  | .agg l, .agg l' => subVs σ l l'
  | .tup l, .tup l' => subVs σ l l'
  | .fn f l, .fn f' l' => bif Nat.beq f f' then subVs σ l l' else False
  | .val v, .val v' => v = v'
  | _, _ => False
def subVs (σ : KM) : List SV → List SV → Prop
  | [], [] => True
  | a :: l, b :: m => subV σ a b ∧ subVs σ l m
  | _, _ => False
end
def subR : Row → Row → Prop
  | .ints k xs, .ints k' ys => bif kEq k k' then xs = ys else False
  | .bools xs, .bools ys => xs = ys
  | .arcs xs, .arcs ys => xs = ys
  | .wides xs, .wides ys => xs = ys
  | _, _ => False
def subE (σ : KM) : Ent → Ent → Prop
  | .box true t cs, .box _ t' cs' => bif Nat.beq t t' then subVs σ cs cs' else False
  | .box false t cs, .box false t' cs' => bif Nat.beq t t' then subVs σ cs cs' else False
  | .row true t r, .row _ t' r' => bif Nat.beq t t' then subR r r' else False
  | .row false _ r, .row false _ r' => subR r r'
  | .loop st R, .loop st' R' => bif Nat.beq st st' then R = R' else False
  | .vec t cs, .vec t' cs' => bif Nat.beq t t' then subVs σ cs cs' else False
  | .map kk vk m, .map kk' vk' m' => bif kksEq kk kk' && vk.eq vk' then m = m' else False
  | _, _ => False
def subTm (σ : KM) (tm : List (Nat × SV)) : List (Nat × SV) → Prop
  | [] => True
  | (t, v) :: l => match lk t tm with
    | some u => subV σ u v ∧ subTm σ tm l
    | none => False
def subHp (σ : KM) (hp : Heap) : Heap → Prop
  | [] => True
  | (k, e) :: l => match lk (kmap σ k) hp with
    | some d => subE σ d e ∧ subHp σ hp l
    | none => False
def Ent.own : Ent → Bool
  | .box o _ _ => o
  | .row o _ _ => o
  | .loop _ _ => true
  | .vec _ _ => true
  | .map _ _ _ => true
def injOwn (σ : KM) : Heap → Bool
  | [] => true
  | (k, e) :: l => (bif e.own then σ.all (fun p => Nat.beq p.1 k || !Nat.beq p.2 (kmap σ k)) else true) && injOwn σ l
def mapped (σ : KM) : Heap → Bool
  | [] => true
  | (k, _) :: l => (lk k σ).isSome && mapped σ l
def pinned (n0 : Nat) (σ : KM) : Bool := σ.all fun p => Nat.ble n0 p.1 || Nat.beq p.1 p.2
def Sub (n0 : Nat) (s s' : St) : Prop :=
  match matchTm s.tm [] s'.tm with
  | none => False
  | some σ => match matchHp s.hp σ s'.hp with
    | none => False
    | some σ' => bif injOwn σ' s'.hp && mapped σ' s'.hp && pinned n0 σ' && Nat.ble n0 s'.nk then subTm σ' s.tm s'.tm ∧ subHp σ' s.hp s'.hp else False

/-! ### code -/
def firstRegion : Code → Nat
  | .region id _ _ => id
  | .seq a _ => firstRegion a
  | .block _ b => firstRegion b
  | .loop b => firstRegion b
  | .scope b => firstRegion b
  | _ => 0

/-- what a function that is ranged over asks for: the key of yield; what yield asks for -/
abbrev ISpec := Nat → Spec → Spec
def putAll : List Tmp → List SV → List (Nat × SV) → List (Nat × SV)
  | t :: ts, v :: vs, tm => putAll ts vs (put t v tm)
  | _, _, tm => tm
def allBlt (N : Nat) : List Nat → Bool
  | [] => true
  | t :: l => Nat.blt t N && allBlt N l
/-- what the record of a loop says at a round's end -/
def endS (k st : Nat) (v : SV) (K : SV → Heap → Nat → Prop) (s : St) : Prop :=
  match lk k s.hp with
  | some (.loop 1 R) => K v (put k (.loop st R) s.hp) s.nk
  | _ => False
def vcCode (T : Tys) (Γ : Specs) (N : Nat) (A : List (Nat × Ann)) : Code → List (Nat × ISpec) → Nat → St → (St → Prop) → (St → Prop) → (Nat → St → Prop) → Prop
  | .skip, _, _, s, n, _, _ => n s
  | .region _ ops draw, _, _, s, n, _, _ => bif draw then vcT T Γ N ops.toList ops.toList.length [] s fun s' => bif plainS ops.toList s' ops.toList then n s' else False else vcList T Γ N ops.toList ops.toList s n
  | .seq a b, I, n0, s, n, r, x => match lk (firstRegion b + 1000000) A with
    | none => vcCode T Γ N A a I n0 s (fun s => vcCode T Γ N A b I n0 s n r x) r x
    | some ann => vcCode T Γ N A a I n0 s (fun s => ∃ g, ann.rel g g ∧ Sub n0 s (ann.inv g)) r x ∧ ∀ g, ann.rel g g → vcCode T Γ N A b I n0 (ann.inv g) n r x
  | .cond c a b, I, n0, s, n, r, x => match ev s c with
    | some .tt => vcCode T Γ N A a I n0 s n r x
    | some .ff => vcCode T Γ N A b I n0 s n r x
    | some (.bool p) => (p = true → vcCode T Γ N A a I n0 s n r x) ∧ (p = false → vcCode T Γ N A b I n0 s n r x)
    | _ => False
  | .block id b, I, n0, s, n, r, x => vcCode T Γ N A b I n0 s n r fun j s => bif Nat.beq j id then n s else x j s
  | .loop b, I, n0, s, _, r, x => match lk (firstRegion b) A with
    | some ann => ∃ g0, (ann.rel g0 g0 ∧ Sub n0 s (ann.inv g0)) ∧
        ∀ g, ann.rel g0 g → vcCode T Γ N A b I n0 (ann.inv g) (fun s' => ∃ g', ann.rel g0 g' ∧ ann.meas g' < ann.meas g ∧ Sub n0 s' (ann.inv g')) r x
    | none => StuckAt (firstRegion b) s
  | .exit id, _, _, s, _, _, x => x id s
  | .ret, _, _, s, _, r, _ => r s
  | .scope b, I, n0, s, n, r, x => vcCode T Γ N A b I n0 s n r x
  | .label _, _, _, s, n, _, _ => n s
  | .rangeFunc f ps asg b, I, _, s, n, r, x => match ev s f with
    | some (.fn g caps) => match lk g I with
      | some isp => bif s.kb && kbs s.nk caps && allBlt N ps.toList && Nat.blt g 1000000000 then
          ∀ R : Loop → Prop, isp s.nk (fun args hp nk K => match lk s.nk hp with
            | some (.loop 0 R0) => R0 = R ∧ (bif Nat.beq args.length ps.size && kbs nk args && Nat.blt s.nk nk then
              vcCode T Γ N A asg [] nk ⟨putAll ps.toList args s.tm, hp, nk⟩
                (fun s1 => match lk s.nk s1.hp with
                  | some (.loop 0 R') => vcCode T Γ N A b [] nk { s1 with hp := put s.nk (.loop 1 R') s1.hp } (endS s.nk 0 .tt K) (endS s.nk 2 .ff K) (fun id => endS s.nk (id + 3) .ff K)
                  | _ => False) (fun _ => False) (fun _ _ => False)
              else False)
            | _ => False)
            (.row s.nk :: caps) ((s.nk, .loop 0 R) :: s.hp) (s.nk + 1) (fun _ hp nk => match lk s.nk hp with
              | some (.loop 0 _) => n ⟨s.tm, del s.nk hp, nk⟩
              | some (.loop 2 _) => r ⟨s.tm, del s.nk hp, nk⟩
              | some (.loop (st + 3) _) => x st ⟨s.tm, del s.nk hp, nk⟩
              | _ => False)
        else StuckAt 12 g
      | none => StuckAt 9 g
    | _ => StuckAt 10 f
  | _, _, _, _, _, _, _ => False


/-! ### functions -/
def argTm : Nat → List SV → List (Nat × SV)
  | _, [] => []
  | i, v :: l => (i, v) :: argTm (i + 1) l
def resS (T : Tys) (s : St) : List ResultVar → (List SV → Prop) → Prop
  | [], K => K []
  | .tmp t :: l, K => match lk t s.tm with
    | some v => resS T s l fun vs => K (v :: vs)
    | none => False
  | .cell t ty :: l, K => match lk t s.tm, lk ty T with
    | some (.ptr key w idx fld), some ti => rd s.hp key w idx fld ti.zs.length fun cs =>
        bif ti.agg then resS T s l fun vs => K (.agg cs :: vs) else match cs with
          | [c] => resS T s l fun vs => K (c :: vs)
          | _ => False
    | _, _ => False
def oneRes : List SV → SV
  | [v] => v
  | l => .tup l
def vcFun (T : Tys) (Γ : Specs) (I : List (Nat × ISpec)) (A : List (Nat × Ann)) (N : Nat) (res : List ResultVar) (c : Code) (args : List SV) (hp : Heap) (nk : Nat) (R : SV → St → Prop) : Prop :=
  vcCode T Γ N A c I nk ⟨argTm 0 args, hp, nk⟩ (fun s => resS T s res fun vs => R (oneRes vs) s) (fun s => resS T s res fun vs => R (oneRes vs) s) (fun _ _ => False)
def flAt (Γ : Specs) (ops : List Oper) (i : Nat) : Bool := match ops[i]? with
  | some o => flOf Γ o
  | none => false
def eagAt (Γ : Specs) (ops : List Oper) (i : Nat) : Bool := match ops[i]? with
  | some o => eagO Γ ops i o
  | none => false
def regionOk (P : Program) (Γ : Specs) (ops : List Oper) : Bool :=
  treeOk P ops.toArray && (List.range ops.length).all fun q => !eagAt Γ ops q || eager P ops.toArray (ancs ops.toArray) (flAt Γ ops) q
def noDefer (ops : List Oper) : Bool := ops.all fun o => match o.op with
  | .defer _ => false
  | _ => true
def drawsOk (P : Program) (Γ : Specs) : Code → Bool
  | .region _ ops draw => noDefer ops.toList && (!draw || regionOk P Γ ops.toList)
  | .rangeFunc _ _ a b => drawsOk P Γ a && drawsOk P Γ b
  | .seq a b => drawsOk P Γ a && drawsOk P Γ b
  | .cond _ a b => drawsOk P Γ a && drawsOk P Γ b
  | .block _ b => drawsOk P Γ b
  | .loop b => drawsOk P Γ b
  | .scope b => drawsOk P Γ b
  | _ => true
end Go.Vc
