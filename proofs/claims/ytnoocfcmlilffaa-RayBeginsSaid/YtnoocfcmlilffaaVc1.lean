/-
  A SYMBOLIC EXECUTOR: what a function's code asks for, as one plain proposition. Definitions. No program in sight.
-/
import Derived.Test.YtnoocfcmlilffaaSpec
import Derived.Laws.MakeOwn
set_option linter.all false
set_option linter.unusedSimpArgs false
set_option linter.unusedVariables false
namespace Go.Ql
structure Wide where
  hi : Int
  lo : Int
deriving DecidableEq
end Go.Ql
namespace Go.Vc
open Go Go.RowKit Go.Ql Go.Draw

/-- symbolic values; a key stands for a block or a slice of which a heap tells -/
inductive SV where
  | int (k : IntKind) (n : Int)
  | tt
  | ff
  | bool (b : Bool)
  | row (key : Nat)
  | ptr (key w idx fld : Nat)
  | agg (l : List SV)
  | tup (l : List SV)
  | fn (f : FuncId) (caps : List SV)
  | val (v : Value)

def addrOf : Value → Addr
  | .pointer (some a) => a
  | .slice (some a) _ _ => a
  | _ => ⟨0, 0, none⟩

mutual
def SV.toV (ρ : Nat → Value) : SV → Value
  | .int k n => .int k n
  | .tt => .bool true
  | .ff => .bool false
  | .bool b => .bool b
  | .row key => ρ key
  | .ptr key w idx fld => .pointer (some ⟨(addrOf (ρ key)).block, (addrOf (ρ key)).off + (idx * w + fld), none⟩)
  | .agg l => .agg (toVs ρ l).toArray
  | .tup l => .tuple (toVs ρ l).toArray
  | .fn f caps => .func (.func f) #[] (toVs ρ caps).toArray
  | .val v => v
def toVs (ρ : Nat → Value) : List SV → List Value
  | [] => []
  | s :: l => s.toV ρ :: toVs ρ l
end

mutual
/-- all keys are less than n -/
def SV.kb (n : Nat) : SV → Bool
  | .row key => Nat.blt key n
  | .ptr key _ _ _ => Nat.blt key n
  | .agg l => kbs n l
  | .tup l => kbs n l
  | .fn _ caps => kbs n caps
  | _ => true
def kbs (n : Nat) : List SV → Bool
  | [] => true
  | s :: l => s.kb n && kbs n l
end

/-- the value of one cell -/
def SV.one : SV → Bool
  | .agg _ => false
  | .tup _ => false
  | .val v => v.oneCell'
  | _ => true

def SV.cells : SV → List SV
  | .agg l => l
  | s => [s]

/-- what a row's elements are -/
inductive RK where
  | int (k : IntKind)
  | bool
  | arc
  | wide
  | fn
def RK.width : RK → Nat
  | .int _ => 1
  | .bool => 1
  | .arc => 5
  | .wide => 2
  | .fn => 1
def RK.isFn : RK → Bool
  | .fn => true
  | _ => false
def RK.zero : RK → Value
  | .int k => .int k 0
  | .bool => .bool false
  | .arc => .agg #[.int .i64 0, .int .i64 0, .int .i64 0, .int .i64 0, .int .i64 0]
  | .wide => .agg #[.int .i64 0, .int .u64 0]
  | .fn => .nilFunc

def encArc (x : Arc) : List SV := [.int .i64 x.src, .int .i64 x.dst, .int .i64 x.low, .int .i64 x.cap, .int .i64 x.cost]
def encWide (x : Wide) : List SV := [.int .i64 x.hi, .int .u64 x.lo]
def Wide.cells (x : Wide) : List Value := [.int .i64 x.hi, .int .u64 x.lo]

inductive Row where
  | ints (k : IntKind) (xs : List Int)
  | bools (xs : List Bool)
  | arcs (xs : List Arc)
  | wides (xs : List Wide)
def Row.len : Row → Nat
  | .ints _ xs => xs.length
  | .bools xs => xs.length
  | .arcs xs => xs.length
  | .wides xs => xs.length
def Row.width : Row → Nat
  | .ints _ _ => 1
  | .bools _ => 1
  | .arcs _ => 5
  | .wides _ => 2
def Row.cells : Row → List Value
  | .ints k xs => xs.map (.int k ·)
  | .bools xs => xs.map .bool
  | .arcs xs => xs.flatMap Arc.cells
  | .wides xs => xs.flatMap Wide.cells
def RK.empty : RK → Row
  | .int k => .ints k []
  | .bool => .bools []
  | .arc => .arcs []
  | .wide => .wides []
  | .fn => .ints .i64 []
def RK.many (n : Nat) : RK → Row
  | .int k => .ints k (List.replicate n 0)
  | .bool => .bools (List.replicate n false)
  | .arc => .arcs (List.replicate n ⟨0, 0, 0, 0, 0⟩)
  | .wide => .wides (List.replicate n ⟨0, 0⟩)
  | .fn => .ints .i64 (List.replicate n 0)

/-- the cells of one element -/
def Row.get (r : Row) (i : Nat) (K : List SV → Prop) : Prop :=
  match r with
  | .ints k xs => i < xs.length ∧ ∀ x, xs[i]? = some x → K [.int k x]
  | .bools xs => i < xs.length ∧ ∀ x, xs[i]? = some x → K [.bool x]
  | .arcs xs => i < xs.length ∧ ∀ x, xs[i]? = some x → K (encArc x)
  | .wides xs => i < xs.length ∧ ∀ x, xs[i]? = some x → K (encWide x)

def kEq (a b : IntKind) : Bool := decide (a = b)

/-- one element with some of its cells others -/
def Row.set (r : Row) (i fld : Nat) (vs : List SV) (K : Row → Prop) : Prop :=
  match r with
  | .ints k xs => match fld, vs with
    | 0, [.int k' n] => bif kEq k k' then i < xs.length ∧ K (.ints k (xs.set i n)) else False
    | _, _ => False
  | .bools xs => match fld, vs with
    | 0, [.tt] => i < xs.length ∧ K (.bools (xs.set i true))
    | 0, [.ff] => i < xs.length ∧ K (.bools (xs.set i false))
    | 0, [.bool b] => i < xs.length ∧ K (.bools (xs.set i b))
    | _, _ => False
  | .arcs xs => match fld, vs with
    | 0, [.int .i64 a, .int .i64 b, .int .i64 c, .int .i64 d, .int .i64 e] => i < xs.length ∧ K (.arcs (xs.set i ⟨a, b, c, d, e⟩))
    | 0, [.int .i64 n] => i < xs.length ∧ ∀ x, xs[i]? = some x → K (.arcs (xs.set i { x with src := n }))
    | 1, [.int .i64 n] => i < xs.length ∧ ∀ x, xs[i]? = some x → K (.arcs (xs.set i { x with dst := n }))
    | 2, [.int .i64 n] => i < xs.length ∧ ∀ x, xs[i]? = some x → K (.arcs (xs.set i { x with low := n }))
    | 3, [.int .i64 n] => i < xs.length ∧ ∀ x, xs[i]? = some x → K (.arcs (xs.set i { x with cap := n }))
    | 4, [.int .i64 n] => i < xs.length ∧ ∀ x, xs[i]? = some x → K (.arcs (xs.set i { x with cost := n }))
    | _, _ => False
  | .wides xs => match fld, vs with
    | 0, [.int .i64 a, .int .u64 b] => i < xs.length ∧ K (.wides (xs.set i ⟨a, b⟩))
    | _, _ => False

def Row.app : Row → Row → Option Row
  | .ints k xs, .ints k' ys => bif kEq k k' then some (.ints k (xs ++ ys)) else none
  | .bools xs, .bools ys => some (.bools (xs ++ ys))
  | .arcs xs, .arcs ys => some (.arcs (xs ++ ys))
  | .wides xs, .wides ys => some (.wides (xs ++ ys))
  | _, _ => none

/-- a row of elements that are given, in order -/
def Row.snoc : Row → List SV → Option Row
  | .ints k xs, [.int k' n] => bif kEq k k' then some (.ints k (xs ++ [n])) else none
  | .bools xs, [.tt] => some (.bools (xs ++ [true]))
  | .bools xs, [.ff] => some (.bools (xs ++ [false]))
  | .bools xs, [.bool b] => some (.bools (xs ++ [b]))
  | .arcs xs, [.int .i64 a, .int .i64 b, .int .i64 c, .int .i64 d, .int .i64 e] => some (.arcs (xs ++ [⟨a, b, c, d, e⟩]))
  | .wides xs, [.int .i64 a, .int .u64 b] => some (.wides (xs ++ [⟨a, b⟩]))
  | _, _ => none
def Row.snocs : Row → List SV → Option Row
  | r, [] => some r
  | r, v :: l => match r.snoc v.cells with
    | some r' => r'.snocs l
    | none => none

/-- a part of a row -/
def Row.sub (l h : Nat) : Row → Row
  | .ints k xs => .ints k ((xs.take h).drop l)
  | .bools xs => .bools ((xs.take h).drop l)
  | .arcs xs => .arcs ((xs.take h).drop l)
  | .wides xs => .wides ((xs.take h).drop l)
/-- the first elements of one laid over those of another -/
def Row.over : Row → Row → Option Row
  | .ints k xs, .ints k' ys => bif kEq k k' then some (.ints k (ys.take xs.length ++ xs.drop ys.length)) else none
  | .bools xs, .bools ys => some (.bools (ys.take xs.length ++ xs.drop ys.length))
  | .arcs xs, .arcs ys => some (.arcs (ys.take xs.length ++ xs.drop ys.length))
  | .wides xs, .wides ys => some (.wides (ys.take xs.length ++ xs.drop ys.length))
  | _, _ => none

/-- what a map's values are -/
inductive MK where
  | bool
  | int (k : IntKind)
def MK.enc : MK → Int → Value
  | .bool, n => .bool (n == 1)
  | .int k, n => .int k n
def MK.sv : MK → Int → SV
  | .bool, n => .bool (n == 1)
  | .int k, n => .int k n
def MK.eq : MK → MK → Bool
  | .bool, .bool => true
  | .int k, .int k' => kEq k k'
  | _, _ => false
def kksEq : List IntKind → List IntKind → Bool
  | [], [] => true
  | a :: l, b :: m => kEq a b && kksEq l m
  | _, _ => false
/-- a map's data: keys in the order in which they came -/
def mget (m : List (List Int × Int)) (k : List Int) : Option Int := match m with
  | [] => none
  | (j, v) :: l => if k = j then some v else mget l k
def mput (m : List (List Int × Int)) (k : List Int) (v : Int) : List (List Int × Int) := match m with
  | [] => [(k, v)]
  | (j, u) :: l => if k = j then (k, v) :: l else (j, u) :: mput l k v
/-- what a key stands for -/
inductive Ent where
  | box (own : Bool) (ty : TypeId) (cells : List SV)
  | row (own : Bool) (ty : TypeId) (r : Row)
  | loop (st : Nat) (R : Loop → Prop)
  | vec (ty : TypeId) (cs : List SV)
  | map (kk : List IntKind) (vk : MK) (m : List (List Int × Int))
abbrev Heap := List (Nat × Ent)
structure St where
  tm : List (Nat × SV)
  hp : Heap
  nk : Nat

universe u
def lk {α : Type u} (k : Nat) : List (Nat × α) → Option α
  | [] => none
  | (j, x) :: l => bif Nat.beq k j then some x else lk k l
def put {α : Type u} (k : Nat) (x : α) : List (Nat × α) → List (Nat × α)
  | [] => [(k, x)]
  | (j, y) :: l => bif Nat.beq k j then (k, x) :: l else (j, y) :: put k x l
def del {α : Type u} (k : Nat) : List (Nat × α) → List (Nat × α)
  | [] => []
  | (j, y) :: l => bif Nat.beq k j then del k l else (j, y) :: del k l

def Ent.kb (n : Nat) : Ent → Bool
  | .box _ _ cells => kbs n cells
  | .row _ _ _ => true
  | .loop _ _ => true
  | .vec _ cs => kbs n cs
  | .map _ _ _ => true
def tmBelow (n : Nat) : List (Nat × SV) → Bool
  | [] => true
  | (_, v) :: l => v.kb n && tmBelow n l
def hpBelow (n : Nat) : Heap → Bool
  | [] => true
  | (k, e) :: l => Nat.blt k n && e.kb n && hpBelow n l
def St.kb (s : St) : Bool := tmBelow s.nk s.tm && hpBelow s.nk s.hp

/-! ### types -/
inductive Z where
  | int (k : IntKind)
  | bool
  | slice (e : TypeId) (rk : RK)
  | val (v : Value)
  | map (kk : List IntKind) (vk : MK)
def Z.v : Z → Value
  | .int k => .int k 0
  | .bool => .bool false
  | .slice _ _ => .slice none 0 0
  | .val v => v
  | .map _ _ => .map none
structure TI where
  zs : List Z
  agg : Bool
  fs : List (Nat × Nat × Bool)
  sl : Option (TypeId × RK × Nat)
  ik : Option IntKind
  eqs : List IntKind
abbrev Tys := List (Nat × TI)
def TI.zero (t : TI) : Value := bif t.agg then .agg (t.zs.map Z.v).toArray else (t.zs.map Z.v).headD undef
def aggD : TypeDesc → Bool
  | .struct _ => true
  | .array _ _ => true
  | _ => false
def fieldsD (P : Program) : TypeDesc → List (Nat × Nat × Bool)
  | .struct fs => fs.toList.map fun f => (f.offset, ((P.underlying f.type).bind fun _ => (P.info? f.type).map (·.size)).getD 0, ((P.underlying f.type).map aggD).getD false)
  | _ => []
def placesD (P : Program) : TypeDesc → Option (List (Nat × Nat))
  | .struct fields => fields.toList.mapM (fun f => (P.info? f.type).map fun i => (f.offset, i.size))
  | _ => none
def isPtrD : TypeDesc → Bool
  | .pointer _ => true
  | _ => false
def mkInts (ks : List IntKind) (a : List Int) : Array Value := (List.zipWith (fun k n => Value.int k n) ks a).toArray
/-- how a map's type is met -/
structure MapOk (P : Program) (t : TypeId) (kk : List IntKind) (vk : MK) : Prop where
  ty : ∃ key elem, P.underlying t = some (.map key elem) ∧ (P.info? elem).map (fun i => i.zero) = some (some (vk.enc 0)) ∧
    ((∃ k, kk = [k] ∧ P.underlying key = some (.int k)) ∨
     ((∀ k, kk ≠ [k]) ∧ (∃ fs, P.underlying key = some (.struct fs)) ∧ (∀ (a : List Int) (b : Bool) (w : World), a.length = kk.length → (Instr.checkKey b 10000 key (.agg (mkInts kk a))).run P w = .ok () w) ∧
      ∀ (a b : List Int) (w : World), a.length = kk.length → b.length = kk.length → (Op.equal key (.agg (mkInts kk a)) (.agg (mkInts kk b))).run P w = .ok (decide (a = b)) w))
structure TiOk (P : Program) (t : TypeId) (ti : TI) : Prop where
  info : (P.info? t).map (fun i => (i.size, i.zero)) = some (ti.zs.length, some ti.zero)
  und : (P.underlying t).map (fun d => (aggD d, fieldsD P d)) = some (ti.agg, ti.fs)
  sl : ∀ e rk b, ti.sl = some (e, rk, b) → P.underlying t = some (.slice e) ∧ (P.info? e).map (fun i => (i.zero, i.size, i.bytes)) = some (some rk.zero, rk.width, b) ∧ b ≤ 64
  ik : ∀ k, ti.ik = some k → P.underlying t = some (.int k)
  ones : ti.zs.all (fun z => z.v.oneCell') = true
  sing : ti.agg = true ∨ ti.zs.length = 1
  pl : ti.fs ≠ [] → (P.underlying t).map (fun d => placesD P d) = some (some (ti.fs.map fun f => (f.1, f.2.1)))
  bl : ∀ l, ti.zs = .bool :: l → ti.agg = false → P.underlying t = some .bool
  pt : ∀ l, ti.zs = .val (.pointer none) :: l → ti.agg = false → (P.underlying t).map isPtrD = some true
  eq : ti.eqs ≠ [] → P.eqGuardType P.depth t = false ∧ ∀ (a b : List Int) (w : World), a.length = ti.eqs.length → b.length = ti.eqs.length →
    (Op.equal t (.agg (mkInts ti.eqs a)) (.agg (mkInts ti.eqs b))).run P w = .ok (decide (a = b)) w
  mp : ∀ kk vk l, ti.zs = .map kk vk :: l → ti.agg = false → MapOk P t kk vk
def TsOk (P : Program) (T : Tys) : Prop := ∀ t ti, lk t T = some ti → TiOk P t ti

/-- zero cells: nil slices are rows of their own, with nothing in them -/
def zeros : List Z → Nat → List SV × Heap × Nat
  | [], nk => ([], [], nk)
  | z :: l, nk => match z with
    | .int k => match zeros l nk with | (c, h, n) => (.int k 0 :: c, h, n)
    | .bool => match zeros l nk with | (c, h, n) => (.ff :: c, h, n)
    | .slice e rk => match zeros l (nk + 1) with | (c, h, n) => (.row nk :: c, (nk, .row true e rk.empty) :: h, n)
    | .val v => match zeros l nk with | (c, h, n) => (.val v :: c, h, n)
    | .map _ _ => match zeros l nk with | (c, h, n) => (.val (.map none) :: c, h, n)

/-- a cell by its number: each number by itself -/
def vecGet (idx : Nat) (K : List SV → Prop) : List SV → Nat → Prop
  | [], _ => True
  | [c], j => idx = j → K [c]
  | c :: d :: l, j => (idx = j → K [c]) ∧ vecGet idx K (d :: l) (j + 1)
/-! ### reading and writing -/
def rd (hp : Heap) (key w idx fld n : Nat) (K : List SV → Prop) : Prop :=
  match lk key hp with
  | some (.box _ _ cells) => match w with
    | 0 => bif Nat.ble (fld + n) cells.length then K ((cells.drop fld).take n) else False
    | _ + 1 => False
  | some (.row _ _ r) => bif Nat.beq w r.width then r.get idx fun cs => bif Nat.ble (fld + n) cs.length then K ((cs.drop fld).take n) else False else False
  | some (.vec _ cs) => bif Nat.beq w 1 && Nat.beq fld 0 && Nat.beq n 1 then idx < cs.length ∧ vecGet idx K cs 0 else False
  | some (.loop _ _) => False
  | some (.map _ _ _) => False
  | none => False

def allOne : List SV → Bool
  | [] => true
  | s :: l => s.one && allOne l

def wr (hp : Heap) (key w idx fld : Nat) (vs : List SV) (K : Heap → Prop) : Prop :=
  match lk key hp with
  | some (.box true t cells) => match w with
    | 0 => bif Nat.ble (fld + vs.length) cells.length && allOne vs then K (put key (.box true t (cells.take fld ++ vs ++ cells.drop (fld + vs.length))) hp) else False
    | _ + 1 => False
  | some (.row true t r) => bif Nat.beq w r.width then r.set idx fld vs fun r' => K (put key (.row true t r') hp) else False
  | _ => False

/-! ### operands -/
def ofConst : Value → SV
  | .int k n => .int k n
  | .bool true => .tt
  | .bool false => .ff
  | v => .val v
def ev (s : St) : Operand → Option SV
  | .tmp t => lk t s.tm
  | .const v => some (ofConst v)
  | .func f => some (.fn f [])
  | .global _ => none
def evs (s : St) : List Operand → Option (List SV)
  | [] => some []
  | x :: l => match ev s x, evs s l with
    | some v, some vs => some (v :: vs)
    | _, _ => none

/-- nil slices among values become rows -/
def isNilV : Value → Bool
  | .slice none 0 0 => true
  | _ => false
def nrm (T : Tys) (ty : TypeId) (v : SV) (s : St) (K : SV → St → Prop) : Prop :=
  match v with
  | .val u => bif isNilV u then
      match lk ty T with
      | some ⟨_, _, _, some (e, rk, _), _, _⟩ => bif s.kb then K (.row s.nk) { s with hp := (s.nk, .row true e rk.empty) :: s.hp, nk := s.nk + 1 } else False
      | _ => False
    else K v s
  | v => K v s
def nrms (T : Tys) : List TypeId → List SV → St → (List SV → St → Prop) → Prop
  | t :: ts, v :: vs, s, K => bif kbs s.nk vs then nrm T t v s fun v' s' => bif v'.kb s'.nk then nrms T ts vs s' fun vs' s'' => K (v' :: vs') s'' else False else False
  | [], [], s, K => K [] s
  | _, _, _, _ => False

def toDst (N : Nat) (dst : Option Tmp) (v : SV) (s : St) (K : St → Prop) : Prop :=
  match dst with
  | none => K s
  | some d => bif Nat.blt d N then K { s with tm := put d v s.tm } else False

/-! ### sums and comparisons -/
def boolOf : SV → Option Bool
  | .tt => some true
  | .ff => some false
  | .bool b => some b
  | _ => none
def intsOf : List IntKind → List SV → Option (List Int)
  | [], [] => some []
  | k :: ks, .int k' n :: l => bif kEq k k' then match intsOf ks l with
      | some r => some (n :: r)
      | none => none
    else none
  | _, _ => none
/-- bit by bit -/
def andS (k : IntKind) (a b : Int) : Int := k.wrap ((BitVec.ofInt k.bits a &&& BitVec.ofInt k.bits b).toNat : Int)
def notS (k : IntKind) (n : Int) : Int := k.wrap ((BitVec.ofInt k.bits (if k.signed then -1 else k.max) ^^^ BitVec.ofInt k.bits n).toNat : Int)
def arith (op : BinOp) (k : IntKind) (a b : Int) (K : SV → Prop) : Prop :=
  match op with
  | .add => K (.int k (k.wrap (a + b)))
  | .sub => K (.int k (k.wrap (a - b)))
  | .mul => K (.int k (k.wrap (a * b)))
  | .quo => b ≠ 0 ∧ K (.int k (k.wrap (a.tdiv b)))
  | .rem => b ≠ 0 ∧ K (.int k (a.tmod b))
  | .and => K (.int k (andS k a b))
  | .eql => K (.bool (a == b))
  | .neq => K (.bool (a != b))
  | .lss => K (.bool (decide (a < b)))
  | .leq => K (.bool (decide (a ≤ b)))
  | .gtr => K (.bool (decide (a > b)))
  | .geq => K (.bool (decide (a ≥ b)))
  | _ => False
def shiftS (op : BinOp) (k : IntKind) (a b : Int) (K : SV → Prop) : Prop :=
  match op with
  | .shr => 0 ≤ b ∧ K (.int k (a.fdiv (2 ^ min b.toNat k.bits)))
  | .shl => 0 ≤ b ∧ K (.int k (k.wrap (a * 2 ^ min b.toNat k.bits)))
  | _ => False
def isShift : BinOp → Bool
  | .shl => true
  | .shr => true
  | _ => false
def isBits : BinOp → Bool
  | .and => true
  | .or => true
  | .xor => true
  | .andNot => true
  | _ => false
def eqS (op : BinOp) (b : Bool) (K : SV → Prop) : Prop :=
  match op with
  | .eql => K (.bool b)
  | .neq => K (.bool (!b))
  | _ => False
def isNilP : Value → Bool
  | .pointer none => true
  | _ => false
def isPtrT (T : Tys) (t : TypeId) : Bool := match lk t T with
  | some ⟨[.val (.pointer none)], false, _, _, _, _⟩ => true
  | _ => false
def binS (T : Tys) (op : BinOp) (t : TypeId) (x y : SV) (K : SV → Prop) : Prop :=
  match x, y with
  | .int k a, .int k' b => bif isShift op then shiftS op k a b K else bif kEq k k' then arith op k a b K else False
  | .agg l, .agg l' => match lk t T with
    | some ti => match ti.eqs with
      | [] => False
      | k :: ks => match intsOf (k :: ks) l, intsOf (k :: ks) l' with
        | some a, some b => eqS op (decide (a = b)) K
        | _, _ => False
    | none => False
  | .ptr _ _ _ _, .val v => bif isNilP v && isPtrT T t then eqS op false K else False
  | .val u, .val v => bif isNilP u && isNilP v && isPtrT T t then eqS op true K else False
  | x, y => match boolOf x, boolOf y, lk t T with
    | some a, some b, some ⟨[.bool], false, _, _, _, _⟩ => eqS op (a == b) K
    | _, _, _ => False
def unS (op : UnOp) (x : SV) (K : SV → Prop) : Prop :=
  match op, x with
  | .neg, .int k n => K (.int k (k.wrap (0 - n)))
  | .xor, .int k n => K (.int k (notS k n))
  | .not, .tt => K .ff
  | .not, .ff => K .tt
  | .not, .bool b => K (.bool (!b))
  | _, _ => False
def minS : SV → List SV → Option SV
  | v, [] => some v
  | .int k x, .int k' y :: l => bif kEq k k' then minS (.int k (min x y)) l else none
  | _, _ => none
def maxS : SV → List SV → Option SV
  | v, [] => some v
  | .int k x, .int k' y :: l => bif kEq k k' then maxS (.int k (max x y)) l else none
  | _, _ => none

/-- parts laid into cells -/
def fillS (fs : List (Nat × Nat × Bool)) : List SV → List (Nat × SV) → Option (List SV)
  | cells, [] => some cells
  | cells, (i, v) :: l => match fs[i]? with
    | some (off, n, _) => bif Nat.beq v.cells.length n && Nat.ble (off + n) cells.length && allOne v.cells then fillS fs (cells.take off ++ v.cells ++ cells.drop (off + n)) l else none
    | none => none

/-- nothing is so: where the executor stops, and at what -/
inductive StuckAt {α : Type} (why : Nat) (x : α) : Prop
theorem StuckAt.elim {α : Type} {why : Nat} {x : α} {p : Prop} (h : StuckAt why x) : p := nomatch h

/-! ### calls -/
/-- what a call of a function asks for, and leaves -/
abbrev Spec := List SV → Heap → Nat → (SV → Heap → Nat → Prop) → Prop
abbrev Specs := List (Nat × (Bool × Spec))

end Go.Vc
