/-
  No cell of these rows narrows 'for every input' (looked for: loops, veiled, ifaces, maps, wideKeys, modest, calm, conditions, laid).
  DERIVED. THE GIVEN ROWS OF THIS SEAT. 5 by the template 'for every input the law returns true; each argument reads behind the call as it read before'; 0 by the template 'total and deterministic' (their statements: YtapeenpimcffpaaGreatTotals.lean).
  GIVEN WITH THE SEED: the statements are not yours to turn. If you find one false, say at which input.
  Laid BY PROGRAM, IN A SANDBOX (cutbox-rows.mjs): the forced cells as the released guide's own fill.sh prints them over the translation 2abe82efcda918d5… (all of the seat's roots in one cut). By AI agents, Wed Nov 11 2026. No macro, syntax, notation, axiom, sorry.
-/
import Derived.Test.YtapeenpimcffpaaGreatChecked
import GoSem.Claim
import GoSem.ClaimJoined
import GoSem.ClaimMapViews
import Derived.JoinedTies
import Derived.KernelRfl
namespace Go.Proofs.YtapeenpimcffpaaGreat
/- THE CELL 'sum', in the pinned program and in every row, IS THE sha256 OF THE DUMP (.gsa) THAT YtapeenpimcffpaaGreatProg.lean LOADS. Nothing in Lean hashes anything: it is a label: what it is worth is what the hold of that sum in a sandbox is worth. -/
noncomputable def Tryz.pinned : Pinned := { name := "ytapeenpimcffpaagreat", sum := "2abe82efcda918d5ae5440cab2eb0b66fa1197373d1aa138c980bd6f374ea2b8", checked := Tryz.checked }
namespace Rows
def none {H : Type} : Left H := { results := [], args := [] }

/-- 'quittancelaw21.MaxiAsks': WHATEVER THE INPUT: true; the input reads as it did. -/
def maxiAsksSpec : ChangeSpec := { name := "maxiAsks", fn := fun _ => fun
  | [d1, d2, d3, d4, d5, d6, d7] => { results := [.lit (.bool true)], args := [d1, d2, d3, d4, d5, d6, d7] }
  | _ => none }
def maxiAsksRow : OpenClaim := { program := "ytapeenpimcffpaagreat", sum := "2abe82efcda918d5ae5440cab2eb0b66fa1197373d1aa138c980bd6f374ea2b8", func := "quittance/quittancelaw21.MaxiAsks", spec := "maxiAsks", inPlace := ["math/bits.Add64", "math/bits.Sub64"], unfollowed := true, recurses := true, apart := false }
def MaxiAsksSaid : Prop := maxiAsksRow.holds Tryz.pinned (OpenSpec.ofChange maxiAsksSpec)

/-- ITS FALSE NEIGHBOUR: 'it returns false'. Refute it at one input. -/
def maxiAsksWrong : ChangeSpec := { name := "maxiAsks", fn := fun _ => fun
  | [d1, d2, d3, d4, d5, d6, d7] => { results := [.lit (.bool false)], args := [d1, d2, d3, d4, d5, d6, d7] }
  | _ => none }
def MaxiAsksWrongFalsely : Prop := maxiAsksRow.holds Tryz.pinned (OpenSpec.ofChange maxiAsksWrong)

/-- 'quittancelaw21.MaxiCut': WHATEVER THE INPUT: true; the input reads as it did. -/
def maxiCutSpec : ChangeSpec := { name := "maxiCut", fn := fun _ => fun
  | [d1, d2, d3] => { results := [.lit (.bool true)], args := [d1, d2, d3] }
  | _ => none }
def maxiCutRow : OpenClaim := { program := "ytapeenpimcffpaagreat", sum := "2abe82efcda918d5ae5440cab2eb0b66fa1197373d1aa138c980bd6f374ea2b8", func := "quittance/quittancelaw21.MaxiCut", spec := "maxiCut", inPlace := ["math/bits.Add64", "math/bits.Sub64"], unfollowed := true, recurses := true, apart := false }
def MaxiCutSaid : Prop := maxiCutRow.holds Tryz.pinned (OpenSpec.ofChange maxiCutSpec)

/-- ITS FALSE NEIGHBOUR: 'it returns false'. Refute it at one input. -/
def maxiCutWrong : ChangeSpec := { name := "maxiCut", fn := fun _ => fun
  | [d1, d2, d3] => { results := [.lit (.bool false)], args := [d1, d2, d3] }
  | _ => none }
def MaxiCutWrongFalsely : Prop := maxiCutRow.holds Tryz.pinned (OpenSpec.ofChange maxiCutWrong)

/-- 'quittancelaw21.MaxiTurned': WHATEVER THE INPUT: true; the input reads as it did. -/
def maxiTurnedSpec : ChangeSpec := { name := "maxiTurned", fn := fun _ => fun
  | [d1, d2] => { results := [.lit (.bool true)], args := [d1, d2] }
  | _ => none }
def maxiTurnedRow : OpenClaim := { program := "ytapeenpimcffpaagreat", sum := "2abe82efcda918d5ae5440cab2eb0b66fa1197373d1aa138c980bd6f374ea2b8", func := "quittance/quittancelaw21.MaxiTurned", spec := "maxiTurned", inPlace := ["math/bits.Add64", "math/bits.Sub64"], unfollowed := true, recurses := true, apart := false }
def MaxiTurnedSaid : Prop := maxiTurnedRow.holds Tryz.pinned (OpenSpec.ofChange maxiTurnedSpec)

/-- ITS FALSE NEIGHBOUR: 'it returns false'. Refute it at one input. -/
def maxiTurnedWrong : ChangeSpec := { name := "maxiTurned", fn := fun _ => fun
  | [d1, d2] => { results := [.lit (.bool false)], args := [d1, d2] }
  | _ => none }
def MaxiTurnedWrongFalsely : Prop := maxiTurnedRow.holds Tryz.pinned (OpenSpec.ofChange maxiTurnedWrong)

/-- 'quittancelaw21.MaxiMore': WHATEVER THE INPUT: true; the input reads as it did. -/
def maxiMoreSpec : ChangeSpec := { name := "maxiMore", fn := fun _ => fun
  | [d1, d2, d3, d4] => { results := [.lit (.bool true)], args := [d1, d2, d3, d4] }
  | _ => none }
def maxiMoreRow : OpenClaim := { program := "ytapeenpimcffpaagreat", sum := "2abe82efcda918d5ae5440cab2eb0b66fa1197373d1aa138c980bd6f374ea2b8", func := "quittance/quittancelaw21.MaxiMore", spec := "maxiMore", inPlace := ["math/bits.Add64", "math/bits.Sub64"], unfollowed := true, recurses := true, apart := false }
def MaxiMoreSaid : Prop := maxiMoreRow.holds Tryz.pinned (OpenSpec.ofChange maxiMoreSpec)

/-- ITS FALSE NEIGHBOUR: 'it returns false'. Refute it at one input. -/
def maxiMoreWrong : ChangeSpec := { name := "maxiMore", fn := fun _ => fun
  | [d1, d2, d3, d4] => { results := [.lit (.bool false)], args := [d1, d2, d3, d4] }
  | _ => none }
def MaxiMoreWrongFalsely : Prop := maxiMoreRow.holds Tryz.pinned (OpenSpec.ofChange maxiMoreWrong)

/-- 'quittancelaw21.MaxiFlow': WHATEVER THE INPUT: true; the input reads as it did. -/
def maxiFlowSpec : ChangeSpec := { name := "maxiFlow", fn := fun _ => fun
  | [d1, d2] => { results := [.lit (.bool true)], args := [d1, d2] }
  | _ => none }
def maxiFlowRow : OpenClaim := { program := "ytapeenpimcffpaagreat", sum := "2abe82efcda918d5ae5440cab2eb0b66fa1197373d1aa138c980bd6f374ea2b8", func := "quittance/quittancelaw21.MaxiFlow", spec := "maxiFlow", inPlace := ["math/bits.Add64", "math/bits.Sub64"], unfollowed := true, recurses := true, apart := false }
def MaxiFlowSaid : Prop := maxiFlowRow.holds Tryz.pinned (OpenSpec.ofChange maxiFlowSpec)

/-- ITS FALSE NEIGHBOUR: 'it returns false'. Refute it at one input. -/
def maxiFlowWrong : ChangeSpec := { name := "maxiFlow", fn := fun _ => fun
  | [d1, d2] => { results := [.lit (.bool false)], args := [d1, d2] }
  | _ => none }
def MaxiFlowWrongFalsely : Prop := maxiFlowRow.holds Tryz.pinned (OpenSpec.ofChange maxiFlowWrong)

/- THE SECOND FORM. 'bulk': how many values and letters a reading holds, each counted each time it is reached (what is shared counts as often as it is met; a slice's spare places count too). A statement '..UptoSaid' is the law's where the arguments, and the package variables that the reading takes, are together of bulk at most 1048576: NARROWER than '..Said'. Prove '..Said' where nothing that the law and all that it calls make is longer than what came in: it says more and counts as full. Else prove '..UptoSaid'. A law counts once. -/
mutual
def uptoBulk {H : Type} : DataW H → Nat
  | .lit (.string bytes) => bytes.length + 1
  | .lit _ => 1
  | .nil => 1
  | .ptr d => uptoBulk d + 1
  | .slice elems spare => uptoBulkAll elems + uptoBulkAll spare + 1
  | .agg parts => uptoBulkAll parts + 1
  | .iface _ d => uptoBulk d + 1
  | .map entries => uptoBulkEntries entries + 1
  | .held _ => 1
def uptoBulkAll {H : Type} : List (DataW H) → Nat
  | [] => 0
  | d :: r => uptoBulk d + uptoBulkAll r
def uptoBulkEntries {H : Type} : List (Lit × DataW H) → Nat
  | [] => 0
  | x :: r => uptoBulkEntry x + uptoBulkEntries r
def uptoBulkEntry {H : Type} : Lit × DataW H → Nat
  | (.string bytes, d) => bytes.length + uptoBulk d + 1
  | (_, d) => uptoBulk d + 1
 end
def uptoSmall : (H : Type) → List (DataW H) → Bool := fun _ ds => decide (uptoBulkAll ds ≤ 1048576)
def OpenSpec.upto (s : _root_.Go.ChangeSpec) : _root_.Go.OpenSpec := { _root_.Go.OpenSpec.ofChange s with cond := some uptoSmall }

/-- 'quittancelaw21.MaxiAsks', WHERE WHAT IT READS IS OF BULK AT MOST 1048576: true; the input reads as it did. -/
def maxiAsksUptoRow : OpenClaim := { program := "ytapeenpimcffpaagreat", sum := "2abe82efcda918d5ae5440cab2eb0b66fa1197373d1aa138c980bd6f374ea2b8", func := "quittance/quittancelaw21.MaxiAsks", spec := "maxiAsks", inPlace := ["math/bits.Add64", "math/bits.Sub64"], unfollowed := true, recurses := true, apart := false, narrowed := true }
def MaxiAsksUptoSaid : Prop := maxiAsksUptoRow.holds Tryz.pinned (OpenSpec.upto maxiAsksSpec)

/-- 'quittancelaw21.MaxiCut', WHERE WHAT IT READS IS OF BULK AT MOST 1048576: true; the input reads as it did. -/
def maxiCutUptoRow : OpenClaim := { program := "ytapeenpimcffpaagreat", sum := "2abe82efcda918d5ae5440cab2eb0b66fa1197373d1aa138c980bd6f374ea2b8", func := "quittance/quittancelaw21.MaxiCut", spec := "maxiCut", inPlace := ["math/bits.Add64", "math/bits.Sub64"], unfollowed := true, recurses := true, apart := false, narrowed := true }
def MaxiCutUptoSaid : Prop := maxiCutUptoRow.holds Tryz.pinned (OpenSpec.upto maxiCutSpec)

/-- 'quittancelaw21.MaxiTurned', WHERE WHAT IT READS IS OF BULK AT MOST 1048576: true; the input reads as it did. -/
def maxiTurnedUptoRow : OpenClaim := { program := "ytapeenpimcffpaagreat", sum := "2abe82efcda918d5ae5440cab2eb0b66fa1197373d1aa138c980bd6f374ea2b8", func := "quittance/quittancelaw21.MaxiTurned", spec := "maxiTurned", inPlace := ["math/bits.Add64", "math/bits.Sub64"], unfollowed := true, recurses := true, apart := false, narrowed := true }
def MaxiTurnedUptoSaid : Prop := maxiTurnedUptoRow.holds Tryz.pinned (OpenSpec.upto maxiTurnedSpec)

/-- 'quittancelaw21.MaxiMore', WHERE WHAT IT READS IS OF BULK AT MOST 1048576: true; the input reads as it did. -/
def maxiMoreUptoRow : OpenClaim := { program := "ytapeenpimcffpaagreat", sum := "2abe82efcda918d5ae5440cab2eb0b66fa1197373d1aa138c980bd6f374ea2b8", func := "quittance/quittancelaw21.MaxiMore", spec := "maxiMore", inPlace := ["math/bits.Add64", "math/bits.Sub64"], unfollowed := true, recurses := true, apart := false, narrowed := true }
def MaxiMoreUptoSaid : Prop := maxiMoreUptoRow.holds Tryz.pinned (OpenSpec.upto maxiMoreSpec)

/-- 'quittancelaw21.MaxiFlow', WHERE WHAT IT READS IS OF BULK AT MOST 1048576: true; the input reads as it did. -/
def maxiFlowUptoRow : OpenClaim := { program := "ytapeenpimcffpaagreat", sum := "2abe82efcda918d5ae5440cab2eb0b66fa1197373d1aa138c980bd6f374ea2b8", func := "quittance/quittancelaw21.MaxiFlow", spec := "maxiFlow", inPlace := ["math/bits.Add64", "math/bits.Sub64"], unfollowed := true, recurses := true, apart := false, narrowed := true }
def MaxiFlowUptoSaid : Prop := maxiFlowUptoRow.holds Tryz.pinned (OpenSpec.upto maxiFlowSpec)

end Rows
end Go.Proofs.YtapeenpimcffpaaGreat
