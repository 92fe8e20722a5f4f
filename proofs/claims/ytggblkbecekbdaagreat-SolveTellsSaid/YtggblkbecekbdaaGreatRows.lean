/-
  No cell of these rows narrows 'for every input' (looked for: loops, veiled, ifaces, maps, wideKeys, modest, calm, conditions, laid).
  DERIVED. THE GIVEN ROWS OF THIS SEAT. 5 by the template 'for every input the law returns true; each argument reads behind the call as it read before'; 0 by the template 'total and deterministic' (their statements: YtggblkbecekbdaaGreatTotals.lean).
  GIVEN WITH THE SEED: the statements are not yours to turn. If you find one false, say at which input.
  Laid BY PROGRAM, IN A SANDBOX (cutbox-rows.mjs): the forced cells as the released guide's own fill.sh prints them over the translation 9365e43559eb7cf7… (all of the seat's roots in one cut). By AI agents, Wed Nov 11 2026. No macro, syntax, notation, axiom, sorry.
-/
import Derived.Test.YtggblkbecekbdaaGreatChecked
import GoSem.Claim
import GoSem.ClaimJoined
import GoSem.ClaimMapViews
import Derived.JoinedTies
import Derived.KernelRfl
namespace Go.Proofs.YtggblkbecekbdaaGreat
/- THE CELL 'sum', in the pinned program and in every row, IS THE sha256 OF THE DUMP (.gsa) THAT YtggblkbecekbdaaGreatProg.lean LOADS. Nothing in Lean hashes anything: it is a label: what it is worth is what the hold of that sum in a sandbox is worth. -/
noncomputable def Tryz.pinned : Pinned := { name := "ytggblkbecekbdaagreat", sum := "9365e43559eb7cf7b3a7b994d844802749e1666d30967f50f19ba73da85c3f75", checked := Tryz.checked }
namespace Rows
def none {H : Type} : Left H := { results := [], args := [] }

/-- 'quittancelaw20.SolveTells': WHATEVER THE INPUT: true; the input reads as it did. -/
def solveTellsSpec : ChangeSpec := { name := "solveTells", fn := fun _ => fun
  | [d1, d2, d3, d4, d5] => { results := [.lit (.bool true)], args := [d1, d2, d3, d4, d5] }
  | _ => none }
def solveTellsRow : OpenClaim := { program := "ytggblkbecekbdaagreat", sum := "9365e43559eb7cf7b3a7b994d844802749e1666d30967f50f19ba73da85c3f75", func := "quittance/quittancelaw20.SolveTells", spec := "solveTells", inPlace := ["math/bits.Sub64", "math/bits.Add64"], unfollowed := true, recurses := true, apart := false }
def SolveTellsSaid : Prop := solveTellsRow.holds Tryz.pinned (OpenSpec.ofChange solveTellsSpec)

/-- ITS FALSE NEIGHBOUR: 'it returns false'. Refute it at one input. -/
def solveTellsWrong : ChangeSpec := { name := "solveTells", fn := fun _ => fun
  | [d1, d2, d3, d4, d5] => { results := [.lit (.bool false)], args := [d1, d2, d3, d4, d5] }
  | _ => none }
def SolveTellsWrongFalsely : Prop := solveTellsRow.holds Tryz.pinned (OpenSpec.ofChange solveTellsWrong)

/-- 'quittancelaw20.SolveMade': WHATEVER THE INPUT: true; the input reads as it did. -/
def solveMadeSpec : ChangeSpec := { name := "solveMade", fn := fun _ => fun
  | [d1, d2, d3, d4] => { results := [.lit (.bool true)], args := [d1, d2, d3, d4] }
  | _ => none }
def solveMadeRow : OpenClaim := { program := "ytggblkbecekbdaagreat", sum := "9365e43559eb7cf7b3a7b994d844802749e1666d30967f50f19ba73da85c3f75", func := "quittance/quittancelaw20.SolveMade", spec := "solveMade", inPlace := ["math/bits.Add64", "math/bits.Sub64"], unfollowed := true, recurses := true, apart := false }
def SolveMadeSaid : Prop := solveMadeRow.holds Tryz.pinned (OpenSpec.ofChange solveMadeSpec)

/-- ITS FALSE NEIGHBOUR: 'it returns false'. Refute it at one input. -/
def solveMadeWrong : ChangeSpec := { name := "solveMade", fn := fun _ => fun
  | [d1, d2, d3, d4] => { results := [.lit (.bool false)], args := [d1, d2, d3, d4] }
  | _ => none }
def SolveMadeWrongFalsely : Prop := solveMadeRow.holds Tryz.pinned (OpenSpec.ofChange solveMadeWrong)

/-- 'quittancelaw20.SolveRounds': WHATEVER THE INPUT: true; the input reads as it did. -/
def solveRoundsSpec : ChangeSpec := { name := "solveRounds", fn := fun _ => fun
  | [d1, d2, d3] => { results := [.lit (.bool true)], args := [d1, d2, d3] }
  | _ => none }
def solveRoundsRow : OpenClaim := { program := "ytggblkbecekbdaagreat", sum := "9365e43559eb7cf7b3a7b994d844802749e1666d30967f50f19ba73da85c3f75", func := "quittance/quittancelaw20.SolveRounds", spec := "solveRounds", inPlace := ["math/bits.Add64", "math/bits.Sub64"], unfollowed := true, recurses := true, apart := false }
def SolveRoundsSaid : Prop := solveRoundsRow.holds Tryz.pinned (OpenSpec.ofChange solveRoundsSpec)

/-- ITS FALSE NEIGHBOUR: 'it returns false'. Refute it at one input. -/
def solveRoundsWrong : ChangeSpec := { name := "solveRounds", fn := fun _ => fun
  | [d1, d2, d3] => { results := [.lit (.bool false)], args := [d1, d2, d3] }
  | _ => none }
def SolveRoundsWrongFalsely : Prop := solveRoundsRow.holds Tryz.pinned (OpenSpec.ofChange solveRoundsWrong)

/-- 'quittancelaw20.SolveFits': WHATEVER THE INPUT: true; the input reads as it did. -/
def solveFitsSpec : ChangeSpec := { name := "solveFits", fn := fun _ => fun
  | [d1, d2, d3, d4, d5] => { results := [.lit (.bool true)], args := [d1, d2, d3, d4, d5] }
  | _ => none }
def solveFitsRow : OpenClaim := { program := "ytggblkbecekbdaagreat", sum := "9365e43559eb7cf7b3a7b994d844802749e1666d30967f50f19ba73da85c3f75", func := "quittance/quittancelaw20.SolveFits", spec := "solveFits", inPlace := ["math/bits.Add64", "math/bits.Sub64"], unfollowed := true, recurses := true, apart := false }
def SolveFitsSaid : Prop := solveFitsRow.holds Tryz.pinned (OpenSpec.ofChange solveFitsSpec)

/-- ITS FALSE NEIGHBOUR: 'it returns false'. Refute it at one input. -/
def solveFitsWrong : ChangeSpec := { name := "solveFits", fn := fun _ => fun
  | [d1, d2, d3, d4, d5] => { results := [.lit (.bool false)], args := [d1, d2, d3, d4, d5] }
  | _ => none }
def SolveFitsWrongFalsely : Prop := solveFitsRow.holds Tryz.pinned (OpenSpec.ofChange solveFitsWrong)

/-- 'quittancelaw20.SolveBest': WHATEVER THE INPUT: true; the input reads as it did. -/
def solveBestSpec : ChangeSpec := { name := "solveBest", fn := fun _ => fun
  | [d1, d2, d3, d4, d5, d6] => { results := [.lit (.bool true)], args := [d1, d2, d3, d4, d5, d6] }
  | _ => none }
def solveBestRow : OpenClaim := { program := "ytggblkbecekbdaagreat", sum := "9365e43559eb7cf7b3a7b994d844802749e1666d30967f50f19ba73da85c3f75", func := "quittance/quittancelaw20.SolveBest", spec := "solveBest", inPlace := ["math/bits.Sub64", "math/bits.Add64"], unfollowed := true, recurses := true, apart := false }
def SolveBestSaid : Prop := solveBestRow.holds Tryz.pinned (OpenSpec.ofChange solveBestSpec)

/-- ITS FALSE NEIGHBOUR: 'it returns false'. Refute it at one input. -/
def solveBestWrong : ChangeSpec := { name := "solveBest", fn := fun _ => fun
  | [d1, d2, d3, d4, d5, d6] => { results := [.lit (.bool false)], args := [d1, d2, d3, d4, d5, d6] }
  | _ => none }
def SolveBestWrongFalsely : Prop := solveBestRow.holds Tryz.pinned (OpenSpec.ofChange solveBestWrong)

/- THE SECOND FORM. 'bulk': how many values and letters a reading holds, each counted each time it is reached (what is shared counts as often as it is met; a slice's spare places count too). A statement '..UptoSaid' is the law's where the arguments, and the package variables that the reading takes, are together of bulk at most 1048576: NARROWER than '..Said'. Prove '..Said' where nothing that the law and all that it calls make is longer than what came in: it says more and counts as full. Else prove '..UptoSaid'. A law counts once. -/
mutual
def uptoBulk {H : Type} : DataW H → Nat
  | .lit (.string bytes) => bytes.length + 1
  | .lit _ => 1
  | .nil => 1
  | .ptr d => uptoBulk d + 1
  | .slice elems spare => uptoBulkAll elems + uptoBulkAll spare + 1
  | .agg parts => uptoBulkAll parts + 1
  | .iface _ d => uptoBulk d + 1
  | .map entries => uptoBulkEntries entries + 1
  | .held _ => 1
def uptoBulkAll {H : Type} : List (DataW H) → Nat
  | [] => 0
  | d :: r => uptoBulk d + uptoBulkAll r
def uptoBulkEntries {H : Type} : List (Lit × DataW H) → Nat
  | [] => 0
  | x :: r => uptoBulkEntry x + uptoBulkEntries r
def uptoBulkEntry {H : Type} : Lit × DataW H → Nat
  | (.string bytes, d) => bytes.length + uptoBulk d + 1
  | (_, d) => uptoBulk d + 1
 end
def uptoSmall : (H : Type) → List (DataW H) → Bool := fun _ ds => decide (uptoBulkAll ds ≤ 1048576)
def OpenSpec.upto (s : _root_.Go.ChangeSpec) : _root_.Go.OpenSpec := { _root_.Go.OpenSpec.ofChange s with cond := some uptoSmall }

/-- 'quittancelaw20.SolveTells', WHERE WHAT IT READS IS OF BULK AT MOST 1048576: true; the input reads as it did. -/
def solveTellsUptoRow : OpenClaim := { program := "ytggblkbecekbdaagreat", sum := "9365e43559eb7cf7b3a7b994d844802749e1666d30967f50f19ba73da85c3f75", func := "quittance/quittancelaw20.SolveTells", spec := "solveTells", inPlace := ["math/bits.Sub64", "math/bits.Add64"], unfollowed := true, recurses := true, apart := false, narrowed := true }
def SolveTellsUptoSaid : Prop := solveTellsUptoRow.holds Tryz.pinned (OpenSpec.upto solveTellsSpec)

/-- 'quittancelaw20.SolveMade', WHERE WHAT IT READS IS OF BULK AT MOST 1048576: true; the input reads as it did. -/
def solveMadeUptoRow : OpenClaim := { program := "ytggblkbecekbdaagreat", sum := "9365e43559eb7cf7b3a7b994d844802749e1666d30967f50f19ba73da85c3f75", func := "quittance/quittancelaw20.SolveMade", spec := "solveMade", inPlace := ["math/bits.Add64", "math/bits.Sub64"], unfollowed := true, recurses := true, apart := false, narrowed := true }
def SolveMadeUptoSaid : Prop := solveMadeUptoRow.holds Tryz.pinned (OpenSpec.upto solveMadeSpec)

/-- 'quittancelaw20.SolveRounds', WHERE WHAT IT READS IS OF BULK AT MOST 1048576: true; the input reads as it did. -/
def solveRoundsUptoRow : OpenClaim := { program := "ytggblkbecekbdaagreat", sum := "9365e43559eb7cf7b3a7b994d844802749e1666d30967f50f19ba73da85c3f75", func := "quittance/quittancelaw20.SolveRounds", spec := "solveRounds", inPlace := ["math/bits.Add64", "math/bits.Sub64"], unfollowed := true, recurses := true, apart := false, narrowed := true }
def SolveRoundsUptoSaid : Prop := solveRoundsUptoRow.holds Tryz.pinned (OpenSpec.upto solveRoundsSpec)

/-- 'quittancelaw20.SolveFits', WHERE WHAT IT READS IS OF BULK AT MOST 1048576: true; the input reads as it did. -/
def solveFitsUptoRow : OpenClaim := { program := "ytggblkbecekbdaagreat", sum := "9365e43559eb7cf7b3a7b994d844802749e1666d30967f50f19ba73da85c3f75", func := "quittance/quittancelaw20.SolveFits", spec := "solveFits", inPlace := ["math/bits.Add64", "math/bits.Sub64"], unfollowed := true, recurses := true, apart := false, narrowed := true }
def SolveFitsUptoSaid : Prop := solveFitsUptoRow.holds Tryz.pinned (OpenSpec.upto solveFitsSpec)

/-- 'quittancelaw20.SolveBest', WHERE WHAT IT READS IS OF BULK AT MOST 1048576: true; the input reads as it did. -/
def solveBestUptoRow : OpenClaim := { program := "ytggblkbecekbdaagreat", sum := "9365e43559eb7cf7b3a7b994d844802749e1666d30967f50f19ba73da85c3f75", func := "quittance/quittancelaw20.SolveBest", spec := "solveBest", inPlace := ["math/bits.Sub64", "math/bits.Add64"], unfollowed := true, recurses := true, apart := false, narrowed := true }
def SolveBestUptoSaid : Prop := solveBestUptoRow.holds Tryz.pinned (OpenSpec.upto solveBestSpec)

end Rows
end Go.Proofs.YtggblkbecekbdaaGreat
