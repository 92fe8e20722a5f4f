/-
  SIDES, PLAINLY: what the package cut computes. No program in sight.
-/
import Derived.Test.YtnoocfcmlilffaaFlow
set_option linter.all false
set_option linter.unusedSimpArgs false
set_option linter.unusedVariables false
namespace Go.Ql
open Go Go.RowKit

def onF (side : List Bool) (n : Int) : Bool := decide (0 ≤ n) && side.getD n.toNat false
def isN (m : Int) (n : Int) : Bool := decide (0 ≤ n) && decide (n < m)
/-- an arc goes out of a side -/
def outA (m : Int) (side : List Bool) (a : Arc) : Bool := isN m a.src && isN m a.dst && onF side a.src && !onF side a.dst
def inA (m : Int) (side : List Bool) (a : Arc) : Bool := isN m a.src && isN m a.dst && onF side a.dst && !onF side a.src
def roomAcc (m : Int) (side : List Bool) : List Arc → Int → Option Int
  | [], s => some s
  | a :: l, s => if outA m side a then (if a.cap = inf then none else roomAcc m side l (s + a.cap)) else if inA m side a then roomAcc m side l (s - a.low) else roomAcc m side l s
def roomC (I : Inst) (side : List Bool) : Option Int := roomAcc I.sup.length side I.arcs 0
def roomW (o : Option Int) : Wide := match o with
  | some s => W s
  | none => ⟨0, 0⟩
def needK (side : List Bool) (l : List Int) : Nat → Int
  | 0 => 0
  | k + 1 => needK side l k + (if side.getD k false then l.getD k 0 else 0)
def needF (I : Inst) (side : List Bool) : Int := needK side I.sup I.sup.length
def provesF (I : Inst) (side : List Bool) : Int :=
  if rightF I ≠ 0 then rightF I else if side.length ≠ I.sup.length then 30 else match roomC I side with
    | none => 34
    | some s => if wcmp (W (needF I side)) (W s) ≤ 0 then 34 else 0
def otherF (side : List Bool) (n : Nat) : List Bool := (List.range n).map fun k => !side.getD k false
/-- a side as long as there are nodes -/
def wholeF (e : List Int) (n : Nat) : List Bool := marksF e n ++ List.replicate (n - (marksF e n).length) false
theorem onF_nat (side : List Bool) (k : Nat) : onF side (k : Int) = side.getD k false := by simp [onF]
theorem otherF_snoc (side : List Bool) (n : Nat) : otherF side (n + 1) = otherF side n ++ [!side.getD n false] := by simp [otherF, List.range_succ]
theorem otherF_len (side : List Bool) (n : Nat) : (otherF side n).length = n := by simp [otherF]
theorem roomAcc_cons (m : Int) (side : List Bool) (a : Arc) (l : List Arc) (s : Int) : roomAcc m side (a :: l) s = if outA m side a then (if a.cap = inf then none else roomAcc m side l (s + a.cap)) else if inA m side a then roomAcc m side l (s - a.low) else roomAcc m side l s := rfl
theorem provesF_small (I : Inst) (side : List Bool) : 0 ≤ provesF I side ∧ provesF I side ≤ 65535 := by
  have h := rightF_small' I
  unfold provesF
  split
  · omega
  · split
    · omega
    · split
      · omega
      · split <;> omega
end Go.Ql
