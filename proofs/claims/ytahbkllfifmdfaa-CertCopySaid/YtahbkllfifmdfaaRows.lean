/-
  No cell of these rows narrows 'for every input' (looked for: loops, veiled, ifaces, maps, wideKeys, modest, calm, conditions, laid).
  DERIVED. THE GIVEN ROWS OF THIS SEAT. 11 by the template 'for every input the law returns true; each argument reads behind the call as it read before'; 0 by the template 'total and deterministic' (their statements: YtahbkllfifmdfaaTotals.lean).
  GIVEN WITH THE SEED: the statements are not yours to turn. If you find one false, say at which input.
  Laid BY PROGRAM, IN A SANDBOX (cutbox-rows.mjs): the forced cells as the released guide's own fill.sh prints them over the translation f8d5b3b791290eee… (all of the seat's roots in one cut). By AI agents, Wed Nov 11 2026. No macro, syntax, notation, axiom, sorry.
-/
import Derived.Test.YtahbkllfifmdfaaChecked
import GoSem.Claim
import GoSem.ClaimJoined
import GoSem.ClaimMapViews
import Derived.JoinedTies
import Derived.KernelRfl
namespace Go.Proofs.Ytahbkllfifmdfaa
/- THE CELL 'sum', in the pinned program and in every row, IS THE sha256 OF THE DUMP (.gsa) THAT YtahbkllfifmdfaaProg.lean LOADS. Nothing in Lean hashes anything: it is a label: what it is worth is what the hold of that sum in a sandbox is worth. -/
noncomputable def Try.pinned : Pinned := { name := "ytahbkllfifmdfaa", sum := "f8d5b3b791290eee66cde0a2e38ce9231e69647d0058b5193087108942f6afe1", checked := Try.checked }
namespace Rows
def none {H : Type} : Left H := { results := [], args := [] }

/-- 'quittancelaw15.TrimOver': WHATEVER THE INPUT: true; the input reads as it did. -/
def trimOverSpec : ChangeSpec := { name := "trimOver", fn := fun _ => fun
  | [d1, d2, d3] => { results := [.lit (.bool true)], args := [d1, d2, d3] }
  | _ => none }
def trimOverRow : OpenClaim := { program := "ytahbkllfifmdfaa", sum := "f8d5b3b791290eee66cde0a2e38ce9231e69647d0058b5193087108942f6afe1", func := "quittance/quittancelaw15.TrimOver", spec := "trimOver", inPlace := ["math/bits.Sub64", "math/bits.Add64"], unfollowed := true, recurses := true, apart := false }
def TrimOverSaid : Prop := trimOverRow.holds Try.pinned (OpenSpec.ofChange trimOverSpec)

/-- ITS FALSE NEIGHBOUR: 'it returns false'. Refute it at one input. -/
def trimOverWrong : ChangeSpec := { name := "trimOver", fn := fun _ => fun
  | [d1, d2, d3] => { results := [.lit (.bool false)], args := [d1, d2, d3] }
  | _ => none }
def TrimOverWrongFalsely : Prop := trimOverRow.holds Try.pinned (OpenSpec.ofChange trimOverWrong)

/-- 'quittancelaw15.TrimGone': WHATEVER THE INPUT: true; the input reads as it did. -/
def trimGoneSpec : ChangeSpec := { name := "trimGone", fn := fun _ => fun
  | [d1, d2, d3] => { results := [.lit (.bool true)], args := [d1, d2, d3] }
  | _ => none }
def trimGoneRow : OpenClaim := { program := "ytahbkllfifmdfaa", sum := "f8d5b3b791290eee66cde0a2e38ce9231e69647d0058b5193087108942f6afe1", func := "quittance/quittancelaw15.TrimGone", spec := "trimGone", inPlace := ["math/bits.Sub64", "math/bits.Add64"], unfollowed := true, recurses := true, apart := false }
def TrimGoneSaid : Prop := trimGoneRow.holds Try.pinned (OpenSpec.ofChange trimGoneSpec)

/-- ITS FALSE NEIGHBOUR: 'it returns false'. Refute it at one input. -/
def trimGoneWrong : ChangeSpec := { name := "trimGone", fn := fun _ => fun
  | [d1, d2, d3] => { results := [.lit (.bool false)], args := [d1, d2, d3] }
  | _ => none }
def TrimGoneWrongFalsely : Prop := trimGoneRow.holds Try.pinned (OpenSpec.ofChange trimGoneWrong)

/-- 'quittancelaw15.TrimDoes': WHATEVER THE INPUT: true; the input reads as it did. -/
def trimDoesSpec : ChangeSpec := { name := "trimDoes", fn := fun _ => fun
  | [d1, d2, d3, d4, d5] => { results := [.lit (.bool true)], args := [d1, d2, d3, d4, d5] }
  | _ => none }
def trimDoesRow : OpenClaim := { program := "ytahbkllfifmdfaa", sum := "f8d5b3b791290eee66cde0a2e38ce9231e69647d0058b5193087108942f6afe1", func := "quittance/quittancelaw15.TrimDoes", spec := "trimDoes", inPlace := ["math/bits.Sub64", "math/bits.Add64"], unfollowed := true, recurses := true, apart := false }
def TrimDoesSaid : Prop := trimDoesRow.holds Try.pinned (OpenSpec.ofChange trimDoesSpec)

/-- ITS FALSE NEIGHBOUR: 'it returns false'. Refute it at one input. -/
def trimDoesWrong : ChangeSpec := { name := "trimDoes", fn := fun _ => fun
  | [d1, d2, d3, d4, d5] => { results := [.lit (.bool false)], args := [d1, d2, d3, d4, d5] }
  | _ => none }
def TrimDoesWrongFalsely : Prop := trimDoesRow.holds Try.pinned (OpenSpec.ofChange trimDoesWrong)

/-- 'quittancelaw15.TrimGreat': WHATEVER THE INPUT: true; the input reads as it did. -/
def trimGreatSpec : ChangeSpec := { name := "trimGreat", fn := fun _ => fun
  | [d1, d2, d3, d4, d5, d6, d7] => { results := [.lit (.bool true)], args := [d1, d2, d3, d4, d5, d6, d7] }
  | _ => none }
def trimGreatRow : OpenClaim := { program := "ytahbkllfifmdfaa", sum := "f8d5b3b791290eee66cde0a2e38ce9231e69647d0058b5193087108942f6afe1", func := "quittance/quittancelaw15.TrimGreat", spec := "trimGreat", inPlace := ["math/bits.Sub64", "math/bits.Add64"], unfollowed := true, recurses := true, apart := false }
def TrimGreatSaid : Prop := trimGreatRow.holds Try.pinned (OpenSpec.ofChange trimGreatSpec)

/-- ITS FALSE NEIGHBOUR: 'it returns false'. Refute it at one input. -/
def trimGreatWrong : ChangeSpec := { name := "trimGreat", fn := fun _ => fun
  | [d1, d2, d3, d4, d5, d6, d7] => { results := [.lit (.bool false)], args := [d1, d2, d3, d4, d5, d6, d7] }
  | _ => none }
def TrimGreatWrongFalsely : Prop := trimGreatRow.holds Try.pinned (OpenSpec.ofChange trimGreatWrong)

/-- 'quittancelaw15.TrimStill': WHATEVER THE INPUT: true; the input reads as it did. -/
def trimStillSpec : ChangeSpec := { name := "trimStill", fn := fun _ => fun
  | [d1, d2, d3, d4] => { results := [.lit (.bool true)], args := [d1, d2, d3, d4] }
  | _ => none }
def trimStillRow : OpenClaim := { program := "ytahbkllfifmdfaa", sum := "f8d5b3b791290eee66cde0a2e38ce9231e69647d0058b5193087108942f6afe1", func := "quittance/quittancelaw15.TrimStill", spec := "trimStill", inPlace := ["math/bits.Sub64", "math/bits.Add64"], unfollowed := true, recurses := true, apart := false }
def TrimStillSaid : Prop := trimStillRow.holds Try.pinned (OpenSpec.ofChange trimStillSpec)

/-- ITS FALSE NEIGHBOUR: 'it returns false'. Refute it at one input. -/
def trimStillWrong : ChangeSpec := { name := "trimStill", fn := fun _ => fun
  | [d1, d2, d3, d4] => { results := [.lit (.bool false)], args := [d1, d2, d3, d4] }
  | _ => none }
def TrimStillWrongFalsely : Prop := trimStillRow.holds Try.pinned (OpenSpec.ofChange trimStillWrong)

/-- 'quittancelaw15.TrimSides': WHATEVER THE INPUT: true; the input reads as it did. -/
def trimSidesSpec : ChangeSpec := { name := "trimSides", fn := fun _ => fun
  | [d1, d2, d3, d4, d5] => { results := [.lit (.bool true)], args := [d1, d2, d3, d4, d5] }
  | _ => none }
def trimSidesRow : OpenClaim := { program := "ytahbkllfifmdfaa", sum := "f8d5b3b791290eee66cde0a2e38ce9231e69647d0058b5193087108942f6afe1", func := "quittance/quittancelaw15.TrimSides", spec := "trimSides", inPlace := ["math/bits.Sub64", "math/bits.Add64"], unfollowed := true, recurses := true, apart := false }
def TrimSidesSaid : Prop := trimSidesRow.holds Try.pinned (OpenSpec.ofChange trimSidesSpec)

/-- ITS FALSE NEIGHBOUR: 'it returns false'. Refute it at one input. -/
def trimSidesWrong : ChangeSpec := { name := "trimSides", fn := fun _ => fun
  | [d1, d2, d3, d4, d5] => { results := [.lit (.bool false)], args := [d1, d2, d3, d4, d5] }
  | _ => none }
def TrimSidesWrongFalsely : Prop := trimSidesRow.holds Try.pinned (OpenSpec.ofChange trimSidesWrong)

/-- 'quittancelaw15.TrimFlows': WHATEVER THE INPUT: true; the input reads as it did. -/
def trimFlowsSpec : ChangeSpec := { name := "trimFlows", fn := fun _ => fun
  | [d1, d2, d3, d4, d5] => { results := [.lit (.bool true)], args := [d1, d2, d3, d4, d5] }
  | _ => none }
def trimFlowsRow : OpenClaim := { program := "ytahbkllfifmdfaa", sum := "f8d5b3b791290eee66cde0a2e38ce9231e69647d0058b5193087108942f6afe1", func := "quittance/quittancelaw15.TrimFlows", spec := "trimFlows", inPlace := ["math/bits.Sub64", "math/bits.Add64"], unfollowed := true, recurses := true, apart := false }
def TrimFlowsSaid : Prop := trimFlowsRow.holds Try.pinned (OpenSpec.ofChange trimFlowsSpec)

/-- ITS FALSE NEIGHBOUR: 'it returns false'. Refute it at one input. -/
def trimFlowsWrong : ChangeSpec := { name := "trimFlows", fn := fun _ => fun
  | [d1, d2, d3, d4, d5] => { results := [.lit (.bool false)], args := [d1, d2, d3, d4, d5] }
  | _ => none }
def TrimFlowsWrongFalsely : Prop := trimFlowsRow.holds Try.pinned (OpenSpec.ofChange trimFlowsWrong)

/-- 'quittancelaw15.TrimLoops': WHATEVER THE INPUT: true; the input reads as it did. -/
def trimLoopsSpec : ChangeSpec := { name := "trimLoops", fn := fun _ => fun
  | [d1, d2, d3, d4] => { results := [.lit (.bool true)], args := [d1, d2, d3, d4] }
  | _ => none }
def trimLoopsRow : OpenClaim := { program := "ytahbkllfifmdfaa", sum := "f8d5b3b791290eee66cde0a2e38ce9231e69647d0058b5193087108942f6afe1", func := "quittance/quittancelaw15.TrimLoops", spec := "trimLoops", inPlace := ["math/bits.Sub64", "math/bits.Add64"], unfollowed := true, recurses := true, apart := false }
def TrimLoopsSaid : Prop := trimLoopsRow.holds Try.pinned (OpenSpec.ofChange trimLoopsSpec)

/-- ITS FALSE NEIGHBOUR: 'it returns false'. Refute it at one input. -/
def trimLoopsWrong : ChangeSpec := { name := "trimLoops", fn := fun _ => fun
  | [d1, d2, d3, d4] => { results := [.lit (.bool false)], args := [d1, d2, d3, d4] }
  | _ => none }
def TrimLoopsWrongFalsely : Prop := trimLoopsRow.holds Try.pinned (OpenSpec.ofChange trimLoopsWrong)

/-- 'quittancelaw13.CertCopy': WHATEVER THE INPUT: true; the input reads as it did. -/
def certCopySpec : ChangeSpec := { name := "certCopy", fn := fun _ => fun
  | [d] => { results := [.lit (.bool true)], args := [d] }
  | _ => none }
def certCopyRow : OpenClaim := { program := "ytahbkllfifmdfaa", sum := "f8d5b3b791290eee66cde0a2e38ce9231e69647d0058b5193087108942f6afe1", func := "quittance/quittancelaw13.CertCopy", spec := "certCopy", inPlace := ["math/bits.Sub64", "math/bits.Add64"], unfollowed := true, recurses := true, apart := false }
def CertCopySaid : Prop := certCopyRow.holds Try.pinned (OpenSpec.ofChange certCopySpec)

/-- ITS FALSE NEIGHBOUR: 'it returns false'. Refute it at one input. -/
def certCopyWrong : ChangeSpec := { name := "certCopy", fn := fun _ => fun
  | [d] => { results := [.lit (.bool false)], args := [d] }
  | _ => none }
def CertCopyWrongFalsely : Prop := certCopyRow.holds Try.pinned (OpenSpec.ofChange certCopyWrong)

/-- 'quittancelaw13.CertLong': WHATEVER THE INPUT: true; the input reads as it did. -/
def certLongSpec : ChangeSpec := { name := "certLong", fn := fun _ => fun
  | [d1, d2, d3, d4, d5] => { results := [.lit (.bool true)], args := [d1, d2, d3, d4, d5] }
  | _ => none }
def certLongRow : OpenClaim := { program := "ytahbkllfifmdfaa", sum := "f8d5b3b791290eee66cde0a2e38ce9231e69647d0058b5193087108942f6afe1", func := "quittance/quittancelaw13.CertLong", spec := "certLong", inPlace := ["math/bits.Add64", "math/bits.Sub64"], unfollowed := true, recurses := true, apart := false }
def CertLongSaid : Prop := certLongRow.holds Try.pinned (OpenSpec.ofChange certLongSpec)

/-- ITS FALSE NEIGHBOUR: 'it returns false'. Refute it at one input. -/
def certLongWrong : ChangeSpec := { name := "certLong", fn := fun _ => fun
  | [d1, d2, d3, d4, d5] => { results := [.lit (.bool false)], args := [d1, d2, d3, d4, d5] }
  | _ => none }
def CertLongWrongFalsely : Prop := certLongRow.holds Try.pinned (OpenSpec.ofChange certLongWrong)

/-- 'quittancelaw13.CertRay': WHATEVER THE INPUT: true; the input reads as it did. -/
def certRaySpec : ChangeSpec := { name := "certRay", fn := fun _ => fun
  | [d1, d2, d3] => { results := [.lit (.bool true)], args := [d1, d2, d3] }
  | _ => none }
def certRayRow : OpenClaim := { program := "ytahbkllfifmdfaa", sum := "f8d5b3b791290eee66cde0a2e38ce9231e69647d0058b5193087108942f6afe1", func := "quittance/quittancelaw13.CertRay", spec := "certRay", inPlace := ["math/bits.Add64", "math/bits.Sub64"], unfollowed := true, recurses := true, apart := false }
def CertRaySaid : Prop := certRayRow.holds Try.pinned (OpenSpec.ofChange certRaySpec)

/-- ITS FALSE NEIGHBOUR: 'it returns false'. Refute it at one input. -/
def certRayWrong : ChangeSpec := { name := "certRay", fn := fun _ => fun
  | [d1, d2, d3] => { results := [.lit (.bool false)], args := [d1, d2, d3] }
  | _ => none }
def CertRayWrongFalsely : Prop := certRayRow.holds Try.pinned (OpenSpec.ofChange certRayWrong)

/- THE SECOND FORM. 'bulk': how many values and letters a reading holds, each counted each time it is reached (what is shared counts as often as it is met; a slice's spare places count too). A statement '..UptoSaid' is the law's where the arguments, and the package variables that the reading takes, are together of bulk at most 1048576: NARROWER than '..Said'. Prove '..Said' where nothing that the law and all that it calls make is longer than what came in: it says more and counts as full. Else prove '..UptoSaid'. A law counts once. -/
mutual
def uptoBulk {H : Type} : DataW H → Nat
  | .lit (.string bytes) => bytes.length + 1
  | .lit _ => 1
  | .nil => 1
  | .ptr d => uptoBulk d + 1
  | .slice elems spare => uptoBulkAll elems + uptoBulkAll spare + 1
  | .agg parts => uptoBulkAll parts + 1
  | .iface _ d => uptoBulk d + 1
  | .map entries => uptoBulkEntries entries + 1
  | .held _ => 1
def uptoBulkAll {H : Type} : List (DataW H) → Nat
  | [] => 0
  | d :: r => uptoBulk d + uptoBulkAll r
def uptoBulkEntries {H : Type} : List (Lit × DataW H) → Nat
  | [] => 0
  | x :: r => uptoBulkEntry x + uptoBulkEntries r
def uptoBulkEntry {H : Type} : Lit × DataW H → Nat
  | (.string bytes, d) => bytes.length + uptoBulk d + 1
  | (_, d) => uptoBulk d + 1
 end
def uptoSmall : (H : Type) → List (DataW H) → Bool := fun _ ds => decide (uptoBulkAll ds ≤ 1048576)
def OpenSpec.upto (s : _root_.Go.ChangeSpec) : _root_.Go.OpenSpec := { _root_.Go.OpenSpec.ofChange s with cond := some uptoSmall }

/-- 'quittancelaw15.TrimOver', WHERE WHAT IT READS IS OF BULK AT MOST 1048576: true; the input reads as it did. -/
def trimOverUptoRow : OpenClaim := { program := "ytahbkllfifmdfaa", sum := "f8d5b3b791290eee66cde0a2e38ce9231e69647d0058b5193087108942f6afe1", func := "quittance/quittancelaw15.TrimOver", spec := "trimOver", inPlace := ["math/bits.Sub64", "math/bits.Add64"], unfollowed := true, recurses := true, apart := false, narrowed := true }
def TrimOverUptoSaid : Prop := trimOverUptoRow.holds Try.pinned (OpenSpec.upto trimOverSpec)

/-- 'quittancelaw15.TrimGone', WHERE WHAT IT READS IS OF BULK AT MOST 1048576: true; the input reads as it did. -/
def trimGoneUptoRow : OpenClaim := { program := "ytahbkllfifmdfaa", sum := "f8d5b3b791290eee66cde0a2e38ce9231e69647d0058b5193087108942f6afe1", func := "quittance/quittancelaw15.TrimGone", spec := "trimGone", inPlace := ["math/bits.Sub64", "math/bits.Add64"], unfollowed := true, recurses := true, apart := false, narrowed := true }
def TrimGoneUptoSaid : Prop := trimGoneUptoRow.holds Try.pinned (OpenSpec.upto trimGoneSpec)

/-- 'quittancelaw15.TrimDoes', WHERE WHAT IT READS IS OF BULK AT MOST 1048576: true; the input reads as it did. -/
def trimDoesUptoRow : OpenClaim := { program := "ytahbkllfifmdfaa", sum := "f8d5b3b791290eee66cde0a2e38ce9231e69647d0058b5193087108942f6afe1", func := "quittance/quittancelaw15.TrimDoes", spec := "trimDoes", inPlace := ["math/bits.Sub64", "math/bits.Add64"], unfollowed := true, recurses := true, apart := false, narrowed := true }
def TrimDoesUptoSaid : Prop := trimDoesUptoRow.holds Try.pinned (OpenSpec.upto trimDoesSpec)

/-- 'quittancelaw15.TrimGreat', WHERE WHAT IT READS IS OF BULK AT MOST 1048576: true; the input reads as it did. -/
def trimGreatUptoRow : OpenClaim := { program := "ytahbkllfifmdfaa", sum := "f8d5b3b791290eee66cde0a2e38ce9231e69647d0058b5193087108942f6afe1", func := "quittance/quittancelaw15.TrimGreat", spec := "trimGreat", inPlace := ["math/bits.Sub64", "math/bits.Add64"], unfollowed := true, recurses := true, apart := false, narrowed := true }
def TrimGreatUptoSaid : Prop := trimGreatUptoRow.holds Try.pinned (OpenSpec.upto trimGreatSpec)

/-- 'quittancelaw15.TrimStill', WHERE WHAT IT READS IS OF BULK AT MOST 1048576: true; the input reads as it did. -/
def trimStillUptoRow : OpenClaim := { program := "ytahbkllfifmdfaa", sum := "f8d5b3b791290eee66cde0a2e38ce9231e69647d0058b5193087108942f6afe1", func := "quittance/quittancelaw15.TrimStill", spec := "trimStill", inPlace := ["math/bits.Sub64", "math/bits.Add64"], unfollowed := true, recurses := true, apart := false, narrowed := true }
def TrimStillUptoSaid : Prop := trimStillUptoRow.holds Try.pinned (OpenSpec.upto trimStillSpec)

/-- 'quittancelaw15.TrimSides', WHERE WHAT IT READS IS OF BULK AT MOST 1048576: true; the input reads as it did. -/
def trimSidesUptoRow : OpenClaim := { program := "ytahbkllfifmdfaa", sum := "f8d5b3b791290eee66cde0a2e38ce9231e69647d0058b5193087108942f6afe1", func := "quittance/quittancelaw15.TrimSides", spec := "trimSides", inPlace := ["math/bits.Sub64", "math/bits.Add64"], unfollowed := true, recurses := true, apart := false, narrowed := true }
def TrimSidesUptoSaid : Prop := trimSidesUptoRow.holds Try.pinned (OpenSpec.upto trimSidesSpec)

/-- 'quittancelaw15.TrimFlows', WHERE WHAT IT READS IS OF BULK AT MOST 1048576: true; the input reads as it did. -/
def trimFlowsUptoRow : OpenClaim := { program := "ytahbkllfifmdfaa", sum := "f8d5b3b791290eee66cde0a2e38ce9231e69647d0058b5193087108942f6afe1", func := "quittance/quittancelaw15.TrimFlows", spec := "trimFlows", inPlace := ["math/bits.Sub64", "math/bits.Add64"], unfollowed := true, recurses := true, apart := false, narrowed := true }
def TrimFlowsUptoSaid : Prop := trimFlowsUptoRow.holds Try.pinned (OpenSpec.upto trimFlowsSpec)

/-- 'quittancelaw15.TrimLoops', WHERE WHAT IT READS IS OF BULK AT MOST 1048576: true; the input reads as it did. -/
def trimLoopsUptoRow : OpenClaim := { program := "ytahbkllfifmdfaa", sum := "f8d5b3b791290eee66cde0a2e38ce9231e69647d0058b5193087108942f6afe1", func := "quittance/quittancelaw15.TrimLoops", spec := "trimLoops", inPlace := ["math/bits.Sub64", "math/bits.Add64"], unfollowed := true, recurses := true, apart := false, narrowed := true }
def TrimLoopsUptoSaid : Prop := trimLoopsUptoRow.holds Try.pinned (OpenSpec.upto trimLoopsSpec)

/-- 'quittancelaw13.CertCopy', WHERE WHAT IT READS IS OF BULK AT MOST 1048576: true; the input reads as it did. -/
def certCopyUptoRow : OpenClaim := { program := "ytahbkllfifmdfaa", sum := "f8d5b3b791290eee66cde0a2e38ce9231e69647d0058b5193087108942f6afe1", func := "quittance/quittancelaw13.CertCopy", spec := "certCopy", inPlace := ["math/bits.Sub64", "math/bits.Add64"], unfollowed := true, recurses := true, apart := false, narrowed := true }
def CertCopyUptoSaid : Prop := certCopyUptoRow.holds Try.pinned (OpenSpec.upto certCopySpec)

/-- 'quittancelaw13.CertLong', WHERE WHAT IT READS IS OF BULK AT MOST 1048576: true; the input reads as it did. -/
def certLongUptoRow : OpenClaim := { program := "ytahbkllfifmdfaa", sum := "f8d5b3b791290eee66cde0a2e38ce9231e69647d0058b5193087108942f6afe1", func := "quittance/quittancelaw13.CertLong", spec := "certLong", inPlace := ["math/bits.Add64", "math/bits.Sub64"], unfollowed := true, recurses := true, apart := false, narrowed := true }
def CertLongUptoSaid : Prop := certLongUptoRow.holds Try.pinned (OpenSpec.upto certLongSpec)

/-- 'quittancelaw13.CertRay', WHERE WHAT IT READS IS OF BULK AT MOST 1048576: true; the input reads as it did. -/
def certRayUptoRow : OpenClaim := { program := "ytahbkllfifmdfaa", sum := "f8d5b3b791290eee66cde0a2e38ce9231e69647d0058b5193087108942f6afe1", func := "quittance/quittancelaw13.CertRay", spec := "certRay", inPlace := ["math/bits.Add64", "math/bits.Sub64"], unfollowed := true, recurses := true, apart := false, narrowed := true }
def CertRayUptoSaid : Prop := certRayUptoRow.holds Try.pinned (OpenSpec.upto certRaySpec)

end Rows
end Go.Proofs.Ytahbkllfifmdfaa
