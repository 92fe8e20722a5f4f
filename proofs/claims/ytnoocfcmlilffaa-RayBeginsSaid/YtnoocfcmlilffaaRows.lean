/-
  No cell of these rows narrows 'for every input' (looked for: loops, veiled, ifaces, maps, wideKeys, modest, calm, conditions, laid).
  DERIVED. THE GIVEN ROWS OF THIS SEAT. 12 by the template 'for every input the law returns true; each argument reads behind the call as it read before'; 0 by the template 'total and deterministic' (their statements: YtnoocfcmlilffaaTotals.lean).
  GIVEN WITH THE SEED: the statements are not yours to turn. If you find one false, say at which input.
  Laid BY PROGRAM, IN A SANDBOX (cutbox-rows.mjs): the forced cells as the released guide's own fill.sh prints them over the translation bb6da670aa72af2d… (all of the seat's roots in one cut). By AI agents, Wed Nov 11 2026. No macro, syntax, notation, axiom, sorry.
-/
import Derived.Test.YtnoocfcmlilffaaChecked
import GoSem.Claim
import GoSem.ClaimJoined
import GoSem.ClaimMapViews
import Derived.JoinedTies
import Derived.KernelRfl
namespace Go.Proofs.Ytnoocfcmlilffaa
/- THE CELL 'sum', in the pinned program and in every row, IS THE sha256 OF THE DUMP (.gsa) THAT YtnoocfcmlilffaaProg.lean LOADS. Nothing in Lean hashes anything: it is a label: what it is worth is what the hold of that sum in a sandbox is worth. -/
noncomputable def Try.pinned : Pinned := { name := "ytnoocfcmlilffaa", sum := "bb6da670aa72af2dd822a99dc74ab79b34d06055558ced82c2792ef39fa3474a", checked := Try.checked }
namespace Rows
def none {H : Type} : Left H := { results := [], args := [] }

/-- 'quittancelaw12.RayBegins': WHATEVER THE INPUT: true; the input reads as it did. -/
def rayBeginsSpec : ChangeSpec := { name := "rayBegins", fn := fun _ => fun
  | [d1, d2, d3] => { results := [.lit (.bool true)], args := [d1, d2, d3] }
  | _ => none }
def rayBeginsRow : OpenClaim := { program := "ytnoocfcmlilffaa", sum := "bb6da670aa72af2dd822a99dc74ab79b34d06055558ced82c2792ef39fa3474a", func := "quittance/quittancelaw12.RayBegins", spec := "rayBegins", inPlace := ["math/bits.Add64"], unfollowed := true, recurses := true, apart := false }
def RayBeginsSaid : Prop := rayBeginsRow.holds Try.pinned (OpenSpec.ofChange rayBeginsSpec)

/-- ITS FALSE NEIGHBOUR: 'it returns false'. Refute it at one input. -/
def rayBeginsWrong : ChangeSpec := { name := "rayBegins", fn := fun _ => fun
  | [d1, d2, d3] => { results := [.lit (.bool false)], args := [d1, d2, d3] }
  | _ => none }
def RayBeginsWrongFalsely : Prop := rayBeginsRow.holds Try.pinned (OpenSpec.ofChange rayBeginsWrong)

/-- 'quittancelaw10.CutRoom': WHATEVER THE INPUT: true; the input reads as it did. -/
def cutRoomSpec : ChangeSpec := { name := "cutRoom", fn := fun _ => fun
  | [d1, d2, d3, d4, d5, d6, d7] => { results := [.lit (.bool true)], args := [d1, d2, d3, d4, d5, d6, d7] }
  | _ => none }
def cutRoomRow : OpenClaim := { program := "ytnoocfcmlilffaa", sum := "bb6da670aa72af2dd822a99dc74ab79b34d06055558ced82c2792ef39fa3474a", func := "quittance/quittancelaw10.CutRoom", spec := "cutRoom", inPlace := ["math/bits.Sub64", "math/bits.Add64"], unfollowed := true, recurses := true, apart := false }
def CutRoomSaid : Prop := cutRoomRow.holds Try.pinned (OpenSpec.ofChange cutRoomSpec)

/-- ITS FALSE NEIGHBOUR: 'it returns false'. Refute it at one input. -/
def cutRoomWrong : ChangeSpec := { name := "cutRoom", fn := fun _ => fun
  | [d1, d2, d3, d4, d5, d6, d7] => { results := [.lit (.bool false)], args := [d1, d2, d3, d4, d5, d6, d7] }
  | _ => none }
def CutRoomWrongFalsely : Prop := cutRoomRow.holds Try.pinned (OpenSpec.ofChange cutRoomWrong)

/-- 'quittancelaw10.CutAsks': WHATEVER THE INPUT: true; the input reads as it did. -/
def cutAsksSpec : ChangeSpec := { name := "cutAsks", fn := fun _ => fun
  | [d1, d2, d3, d4, d5, d6] => { results := [.lit (.bool true)], args := [d1, d2, d3, d4, d5, d6] }
  | _ => none }
def cutAsksRow : OpenClaim := { program := "ytnoocfcmlilffaa", sum := "bb6da670aa72af2dd822a99dc74ab79b34d06055558ced82c2792ef39fa3474a", func := "quittance/quittancelaw10.CutAsks", spec := "cutAsks", inPlace := ["math/bits.Sub64", "math/bits.Add64"], unfollowed := true, recurses := true, apart := false }
def CutAsksSaid : Prop := cutAsksRow.holds Try.pinned (OpenSpec.ofChange cutAsksSpec)

/-- ITS FALSE NEIGHBOUR: 'it returns false'. Refute it at one input. -/
def cutAsksWrong : ChangeSpec := { name := "cutAsks", fn := fun _ => fun
  | [d1, d2, d3, d4, d5, d6] => { results := [.lit (.bool false)], args := [d1, d2, d3, d4, d5, d6] }
  | _ => none }
def CutAsksWrongFalsely : Prop := cutAsksRow.holds Try.pinned (OpenSpec.ofChange cutAsksWrong)

/-- 'quittancelaw10.CutSides': WHATEVER THE INPUT: true; the input reads as it did. -/
def cutSidesSpec : ChangeSpec := { name := "cutSides", fn := fun _ => fun
  | [d1, d2, d3] => { results := [.lit (.bool true)], args := [d1, d2, d3] }
  | _ => none }
def cutSidesRow : OpenClaim := { program := "ytnoocfcmlilffaa", sum := "bb6da670aa72af2dd822a99dc74ab79b34d06055558ced82c2792ef39fa3474a", func := "quittance/quittancelaw10.CutSides", spec := "cutSides", inPlace := ["math/bits.Sub64", "math/bits.Add64"], unfollowed := true, recurses := true, apart := false }
def CutSidesSaid : Prop := cutSidesRow.holds Try.pinned (OpenSpec.ofChange cutSidesSpec)

/-- ITS FALSE NEIGHBOUR: 'it returns false'. Refute it at one input. -/
def cutSidesWrong : ChangeSpec := { name := "cutSides", fn := fun _ => fun
  | [d1, d2, d3] => { results := [.lit (.bool false)], args := [d1, d2, d3] }
  | _ => none }
def CutSidesWrongFalsely : Prop := cutSidesRow.holds Try.pinned (OpenSpec.ofChange cutSidesWrong)

/-- 'quittancelaw12.RayAsks': WHATEVER THE INPUT: true; the input reads as it did. -/
def rayAsksSpec : ChangeSpec := { name := "rayAsks", fn := fun _ => fun
  | [d1, d2, d3, d4, d5, d6, d7] => { results := [.lit (.bool true)], args := [d1, d2, d3, d4, d5, d6, d7] }
  | _ => none }
def rayAsksRow : OpenClaim := { program := "ytnoocfcmlilffaa", sum := "bb6da670aa72af2dd822a99dc74ab79b34d06055558ced82c2792ef39fa3474a", func := "quittance/quittancelaw12.RayAsks", spec := "rayAsks", inPlace := ["math/bits.Add64"], unfollowed := true, recurses := true, apart := false }
def RayAsksSaid : Prop := rayAsksRow.holds Try.pinned (OpenSpec.ofChange rayAsksSpec)

/-- ITS FALSE NEIGHBOUR: 'it returns false'. Refute it at one input. -/
def rayAsksWrong : ChangeSpec := { name := "rayAsks", fn := fun _ => fun
  | [d1, d2, d3, d4, d5, d6, d7] => { results := [.lit (.bool false)], args := [d1, d2, d3, d4, d5, d6, d7] }
  | _ => none }
def RayAsksWrongFalsely : Prop := rayAsksRow.holds Try.pinned (OpenSpec.ofChange rayAsksWrong)

/-- 'quittancelaw12.RayNothing': WHATEVER THE INPUT: true; the input reads as it did. -/
def rayNothingSpec : ChangeSpec := { name := "rayNothing", fn := fun _ => fun
  | [d1, d2, d3, d4, d5] => { results := [.lit (.bool true)], args := [d1, d2, d3, d4, d5] }
  | _ => none }
def rayNothingRow : OpenClaim := { program := "ytnoocfcmlilffaa", sum := "bb6da670aa72af2dd822a99dc74ab79b34d06055558ced82c2792ef39fa3474a", func := "quittance/quittancelaw12.RayNothing", spec := "rayNothing", inPlace := ["math/bits.Add64"], unfollowed := true, recurses := true, apart := false }
def RayNothingSaid : Prop := rayNothingRow.holds Try.pinned (OpenSpec.ofChange rayNothingSpec)

/-- ITS FALSE NEIGHBOUR: 'it returns false'. Refute it at one input. -/
def rayNothingWrong : ChangeSpec := { name := "rayNothing", fn := fun _ => fun
  | [d1, d2, d3, d4, d5] => { results := [.lit (.bool false)], args := [d1, d2, d3, d4, d5] }
  | _ => none }
def RayNothingWrongFalsely : Prop := rayNothingRow.holds Try.pinned (OpenSpec.ofChange rayNothingWrong)

/-- 'quittancelaw09.FlowAsks': WHATEVER THE INPUT: true; the input reads as it did. -/
def flowAsksSpec : ChangeSpec := { name := "flowAsks", fn := fun _ => fun
  | [d1, d2, d3, d4, d5, d6] => { results := [.lit (.bool true)], args := [d1, d2, d3, d4, d5, d6] }
  | _ => none }
def flowAsksRow : OpenClaim := { program := "ytnoocfcmlilffaa", sum := "bb6da670aa72af2dd822a99dc74ab79b34d06055558ced82c2792ef39fa3474a", func := "quittance/quittancelaw09.FlowAsks", spec := "flowAsks", inPlace := ["math/bits.Add64", "math/bits.Sub64"], unfollowed := true, recurses := true, apart := false }
def FlowAsksSaid : Prop := flowAsksRow.holds Try.pinned (OpenSpec.ofChange flowAsksSpec)

/-- ITS FALSE NEIGHBOUR: 'it returns false'. Refute it at one input. -/
def flowAsksWrong : ChangeSpec := { name := "flowAsks", fn := fun _ => fun
  | [d1, d2, d3, d4, d5, d6] => { results := [.lit (.bool false)], args := [d1, d2, d3, d4, d5, d6] }
  | _ => none }
def FlowAsksWrongFalsely : Prop := flowAsksRow.holds Try.pinned (OpenSpec.ofChange flowAsksWrong)

/-- 'quittancelaw09.FlowSums': WHATEVER THE INPUT: true; the input reads as it did. -/
def flowSumsSpec : ChangeSpec := { name := "flowSums", fn := fun _ => fun
  | [d1, d2, d3, d4] => { results := [.lit (.bool true)], args := [d1, d2, d3, d4] }
  | _ => none }
def flowSumsRow : OpenClaim := { program := "ytnoocfcmlilffaa", sum := "bb6da670aa72af2dd822a99dc74ab79b34d06055558ced82c2792ef39fa3474a", func := "quittance/quittancelaw09.FlowSums", spec := "flowSums", inPlace := ["math/bits.Add64", "math/bits.Sub64"], unfollowed := true, recurses := true, apart := false }
def FlowSumsSaid : Prop := flowSumsRow.holds Try.pinned (OpenSpec.ofChange flowSumsSpec)

/-- ITS FALSE NEIGHBOUR: 'it returns false'. Refute it at one input. -/
def flowSumsWrong : ChangeSpec := { name := "flowSums", fn := fun _ => fun
  | [d1, d2, d3, d4] => { results := [.lit (.bool false)], args := [d1, d2, d3, d4] }
  | _ => none }
def FlowSumsWrongFalsely : Prop := flowSumsRow.holds Try.pinned (OpenSpec.ofChange flowSumsWrong)

/-- 'quittancelaw09.FlowFits': WHATEVER THE INPUT: true; the input reads as it did. -/
def flowFitsSpec : ChangeSpec := { name := "flowFits", fn := fun _ => fun
  | [d1, d2, d3] => { results := [.lit (.bool true)], args := [d1, d2, d3] }
  | _ => none }
def flowFitsRow : OpenClaim := { program := "ytnoocfcmlilffaa", sum := "bb6da670aa72af2dd822a99dc74ab79b34d06055558ced82c2792ef39fa3474a", func := "quittance/quittancelaw09.FlowFits", spec := "flowFits", inPlace := ["math/bits.Add64", "math/bits.Sub64"], unfollowed := true, recurses := true, apart := false }
def FlowFitsSaid : Prop := flowFitsRow.holds Try.pinned (OpenSpec.ofChange flowFitsSpec)

/-- ITS FALSE NEIGHBOUR: 'it returns false'. Refute it at one input. -/
def flowFitsWrong : ChangeSpec := { name := "flowFits", fn := fun _ => fun
  | [d1, d2, d3] => { results := [.lit (.bool false)], args := [d1, d2, d3] }
  | _ => none }
def FlowFitsWrongFalsely : Prop := flowFitsRow.holds Try.pinned (OpenSpec.ofChange flowFitsWrong)

/-- 'quittancelaw09.FlowRound': WHATEVER THE INPUT: true; the input reads as it did. -/
def flowRoundSpec : ChangeSpec := { name := "flowRound", fn := fun _ => fun
  | [d1, d2, d3, d4, d5] => { results := [.lit (.bool true)], args := [d1, d2, d3, d4, d5] }
  | _ => none }
def flowRoundRow : OpenClaim := { program := "ytnoocfcmlilffaa", sum := "bb6da670aa72af2dd822a99dc74ab79b34d06055558ced82c2792ef39fa3474a", func := "quittance/quittancelaw09.FlowRound", spec := "flowRound", inPlace := ["math/bits.Add64", "math/bits.Sub64"], unfollowed := true, recurses := true, apart := false }
def FlowRoundSaid : Prop := flowRoundRow.holds Try.pinned (OpenSpec.ofChange flowRoundSpec)

/-- ITS FALSE NEIGHBOUR: 'it returns false'. Refute it at one input. -/
def flowRoundWrong : ChangeSpec := { name := "flowRound", fn := fun _ => fun
  | [d1, d2, d3, d4, d5] => { results := [.lit (.bool false)], args := [d1, d2, d3, d4, d5] }
  | _ => none }
def FlowRoundWrongFalsely : Prop := flowRoundRow.holds Try.pinned (OpenSpec.ofChange flowRoundWrong)

/-- 'quittancelaw09.FlowMade': WHATEVER THE INPUT: true; the input reads as it did. -/
def flowMadeSpec : ChangeSpec := { name := "flowMade", fn := fun _ => fun
  | [d1, d2, d3] => { results := [.lit (.bool true)], args := [d1, d2, d3] }
  | _ => none }
def flowMadeRow : OpenClaim := { program := "ytnoocfcmlilffaa", sum := "bb6da670aa72af2dd822a99dc74ab79b34d06055558ced82c2792ef39fa3474a", func := "quittance/quittancelaw09.FlowMade", spec := "flowMade", inPlace := ["math/bits.Add64", "math/bits.Sub64"], unfollowed := true, recurses := true, apart := false }
def FlowMadeSaid : Prop := flowMadeRow.holds Try.pinned (OpenSpec.ofChange flowMadeSpec)

/-- ITS FALSE NEIGHBOUR: 'it returns false'. Refute it at one input. -/
def flowMadeWrong : ChangeSpec := { name := "flowMade", fn := fun _ => fun
  | [d1, d2, d3] => { results := [.lit (.bool false)], args := [d1, d2, d3] }
  | _ => none }
def FlowMadeWrongFalsely : Prop := flowMadeRow.holds Try.pinned (OpenSpec.ofChange flowMadeWrong)

/-- 'quittancelaw10.CutSafe': WHATEVER THE INPUT: true; the input reads as it did. -/
def cutSafeSpec : ChangeSpec := { name := "cutSafe", fn := fun _ => fun
  | [d1, d2, d3, d4, d5] => { results := [.lit (.bool true)], args := [d1, d2, d3, d4, d5] }
  | _ => none }
def cutSafeRow : OpenClaim := { program := "ytnoocfcmlilffaa", sum := "bb6da670aa72af2dd822a99dc74ab79b34d06055558ced82c2792ef39fa3474a", func := "quittance/quittancelaw10.CutSafe", spec := "cutSafe", inPlace := ["math/bits.Sub64", "math/bits.Add64"], unfollowed := true, recurses := true, apart := false }
def CutSafeSaid : Prop := cutSafeRow.holds Try.pinned (OpenSpec.ofChange cutSafeSpec)

/-- ITS FALSE NEIGHBOUR: 'it returns false'. Refute it at one input. -/
def cutSafeWrong : ChangeSpec := { name := "cutSafe", fn := fun _ => fun
  | [d1, d2, d3, d4, d5] => { results := [.lit (.bool false)], args := [d1, d2, d3, d4, d5] }
  | _ => none }
def CutSafeWrongFalsely : Prop := cutSafeRow.holds Try.pinned (OpenSpec.ofChange cutSafeWrong)

/- THE SECOND FORM. 'bulk': how many values and letters a reading holds, each counted each time it is reached (what is shared counts as often as it is met; a slice's spare places count too). A statement '..UptoSaid' is the law's where the arguments, and the package variables that the reading takes, are together of bulk at most 1048576: NARROWER than '..Said'. Prove '..Said' where nothing that the law and all that it calls make is longer than what came in: it says more and counts as full. Else prove '..UptoSaid'. A law counts once. -/
mutual
def uptoBulk {H : Type} : DataW H → Nat
  | .lit (.string bytes) => bytes.length + 1
  | .lit _ => 1
  | .nil => 1
  | .ptr d => uptoBulk d + 1
  | .slice elems spare => uptoBulkAll elems + uptoBulkAll spare + 1
  | .agg parts => uptoBulkAll parts + 1
  | .iface _ d => uptoBulk d + 1
  | .map entries => uptoBulkEntries entries + 1
  | .held _ => 1
def uptoBulkAll {H : Type} : List (DataW H) → Nat
  | [] => 0
  | d :: r => uptoBulk d + uptoBulkAll r
def uptoBulkEntries {H : Type} : List (Lit × DataW H) → Nat
  | [] => 0
  | x :: r => uptoBulkEntry x + uptoBulkEntries r
def uptoBulkEntry {H : Type} : Lit × DataW H → Nat
  | (.string bytes, d) => bytes.length + uptoBulk d + 1
  | (_, d) => uptoBulk d + 1
 end
def uptoSmall : (H : Type) → List (DataW H) → Bool := fun _ ds => decide (uptoBulkAll ds ≤ 1048576)
def OpenSpec.upto (s : _root_.Go.ChangeSpec) : _root_.Go.OpenSpec := { _root_.Go.OpenSpec.ofChange s with cond := some uptoSmall }

/-- 'quittancelaw12.RayBegins', WHERE WHAT IT READS IS OF BULK AT MOST 1048576: true; the input reads as it did. -/
def rayBeginsUptoRow : OpenClaim := { program := "ytnoocfcmlilffaa", sum := "bb6da670aa72af2dd822a99dc74ab79b34d06055558ced82c2792ef39fa3474a", func := "quittance/quittancelaw12.RayBegins", spec := "rayBegins", inPlace := ["math/bits.Add64"], unfollowed := true, recurses := true, apart := false, narrowed := true }
def RayBeginsUptoSaid : Prop := rayBeginsUptoRow.holds Try.pinned (OpenSpec.upto rayBeginsSpec)

/-- 'quittancelaw10.CutRoom', WHERE WHAT IT READS IS OF BULK AT MOST 1048576: true; the input reads as it did. -/
def cutRoomUptoRow : OpenClaim := { program := "ytnoocfcmlilffaa", sum := "bb6da670aa72af2dd822a99dc74ab79b34d06055558ced82c2792ef39fa3474a", func := "quittance/quittancelaw10.CutRoom", spec := "cutRoom", inPlace := ["math/bits.Sub64", "math/bits.Add64"], unfollowed := true, recurses := true, apart := false, narrowed := true }
def CutRoomUptoSaid : Prop := cutRoomUptoRow.holds Try.pinned (OpenSpec.upto cutRoomSpec)

/-- 'quittancelaw10.CutAsks', WHERE WHAT IT READS IS OF BULK AT MOST 1048576: true; the input reads as it did. -/
def cutAsksUptoRow : OpenClaim := { program := "ytnoocfcmlilffaa", sum := "bb6da670aa72af2dd822a99dc74ab79b34d06055558ced82c2792ef39fa3474a", func := "quittance/quittancelaw10.CutAsks", spec := "cutAsks", inPlace := ["math/bits.Sub64", "math/bits.Add64"], unfollowed := true, recurses := true, apart := false, narrowed := true }
def CutAsksUptoSaid : Prop := cutAsksUptoRow.holds Try.pinned (OpenSpec.upto cutAsksSpec)

/-- 'quittancelaw10.CutSides', WHERE WHAT IT READS IS OF BULK AT MOST 1048576: true; the input reads as it did. -/
def cutSidesUptoRow : OpenClaim := { program := "ytnoocfcmlilffaa", sum := "bb6da670aa72af2dd822a99dc74ab79b34d06055558ced82c2792ef39fa3474a", func := "quittance/quittancelaw10.CutSides", spec := "cutSides", inPlace := ["math/bits.Sub64", "math/bits.Add64"], unfollowed := true, recurses := true, apart := false, narrowed := true }
def CutSidesUptoSaid : Prop := cutSidesUptoRow.holds Try.pinned (OpenSpec.upto cutSidesSpec)

/-- 'quittancelaw12.RayAsks', WHERE WHAT IT READS IS OF BULK AT MOST 1048576: true; the input reads as it did. -/
def rayAsksUptoRow : OpenClaim := { program := "ytnoocfcmlilffaa", sum := "bb6da670aa72af2dd822a99dc74ab79b34d06055558ced82c2792ef39fa3474a", func := "quittance/quittancelaw12.RayAsks", spec := "rayAsks", inPlace := ["math/bits.Add64"], unfollowed := true, recurses := true, apart := false, narrowed := true }
def RayAsksUptoSaid : Prop := rayAsksUptoRow.holds Try.pinned (OpenSpec.upto rayAsksSpec)

/-- 'quittancelaw12.RayNothing', WHERE WHAT IT READS IS OF BULK AT MOST 1048576: true; the input reads as it did. -/
def rayNothingUptoRow : OpenClaim := { program := "ytnoocfcmlilffaa", sum := "bb6da670aa72af2dd822a99dc74ab79b34d06055558ced82c2792ef39fa3474a", func := "quittance/quittancelaw12.RayNothing", spec := "rayNothing", inPlace := ["math/bits.Add64"], unfollowed := true, recurses := true, apart := false, narrowed := true }
def RayNothingUptoSaid : Prop := rayNothingUptoRow.holds Try.pinned (OpenSpec.upto rayNothingSpec)

/-- 'quittancelaw09.FlowAsks', WHERE WHAT IT READS IS OF BULK AT MOST 1048576: true; the input reads as it did. -/
def flowAsksUptoRow : OpenClaim := { program := "ytnoocfcmlilffaa", sum := "bb6da670aa72af2dd822a99dc74ab79b34d06055558ced82c2792ef39fa3474a", func := "quittance/quittancelaw09.FlowAsks", spec := "flowAsks", inPlace := ["math/bits.Add64", "math/bits.Sub64"], unfollowed := true, recurses := true, apart := false, narrowed := true }
def FlowAsksUptoSaid : Prop := flowAsksUptoRow.holds Try.pinned (OpenSpec.upto flowAsksSpec)

/-- 'quittancelaw09.FlowSums', WHERE WHAT IT READS IS OF BULK AT MOST 1048576: true; the input reads as it did. -/
def flowSumsUptoRow : OpenClaim := { program := "ytnoocfcmlilffaa", sum := "bb6da670aa72af2dd822a99dc74ab79b34d06055558ced82c2792ef39fa3474a", func := "quittance/quittancelaw09.FlowSums", spec := "flowSums", inPlace := ["math/bits.Add64", "math/bits.Sub64"], unfollowed := true, recurses := true, apart := false, narrowed := true }
def FlowSumsUptoSaid : Prop := flowSumsUptoRow.holds Try.pinned (OpenSpec.upto flowSumsSpec)

/-- 'quittancelaw09.FlowFits', WHERE WHAT IT READS IS OF BULK AT MOST 1048576: true; the input reads as it did. -/
def flowFitsUptoRow : OpenClaim := { program := "ytnoocfcmlilffaa", sum := "bb6da670aa72af2dd822a99dc74ab79b34d06055558ced82c2792ef39fa3474a", func := "quittance/quittancelaw09.FlowFits", spec := "flowFits", inPlace := ["math/bits.Add64", "math/bits.Sub64"], unfollowed := true, recurses := true, apart := false, narrowed := true }
def FlowFitsUptoSaid : Prop := flowFitsUptoRow.holds Try.pinned (OpenSpec.upto flowFitsSpec)

/-- 'quittancelaw09.FlowRound', WHERE WHAT IT READS IS OF BULK AT MOST 1048576: true; the input reads as it did. -/
def flowRoundUptoRow : OpenClaim := { program := "ytnoocfcmlilffaa", sum := "bb6da670aa72af2dd822a99dc74ab79b34d06055558ced82c2792ef39fa3474a", func := "quittance/quittancelaw09.FlowRound", spec := "flowRound", inPlace := ["math/bits.Add64", "math/bits.Sub64"], unfollowed := true, recurses := true, apart := false, narrowed := true }
def FlowRoundUptoSaid : Prop := flowRoundUptoRow.holds Try.pinned (OpenSpec.upto flowRoundSpec)

/-- 'quittancelaw09.FlowMade', WHERE WHAT IT READS IS OF BULK AT MOST 1048576: true; the input reads as it did. -/
def flowMadeUptoRow : OpenClaim := { program := "ytnoocfcmlilffaa", sum := "bb6da670aa72af2dd822a99dc74ab79b34d06055558ced82c2792ef39fa3474a", func := "quittance/quittancelaw09.FlowMade", spec := "flowMade", inPlace := ["math/bits.Add64", "math/bits.Sub64"], unfollowed := true, recurses := true, apart := false, narrowed := true }
def FlowMadeUptoSaid : Prop := flowMadeUptoRow.holds Try.pinned (OpenSpec.upto flowMadeSpec)

/-- 'quittancelaw10.CutSafe', WHERE WHAT IT READS IS OF BULK AT MOST 1048576: true; the input reads as it did. -/
def cutSafeUptoRow : OpenClaim := { program := "ytnoocfcmlilffaa", sum := "bb6da670aa72af2dd822a99dc74ab79b34d06055558ced82c2792ef39fa3474a", func := "quittance/quittancelaw10.CutSafe", spec := "cutSafe", inPlace := ["math/bits.Sub64", "math/bits.Add64"], unfollowed := true, recurses := true, apart := false, narrowed := true }
def CutSafeUptoSaid : Prop := cutSafeUptoRow.holds Try.pinned (OpenSpec.upto cutSafeSpec)

end Rows
end Go.Proofs.Ytnoocfcmlilffaa
