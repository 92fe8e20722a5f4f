/-
  No cell of these rows narrows 'for every input' (looked for: loops, veiled, ifaces, maps, wideKeys, modest, calm, conditions, laid).
  DERIVED. THE GIVEN ROWS OF THIS SEAT. 12 by the template 'for every input the law returns true; each argument reads behind the call as it read before'; 0 by the template 'total and deterministic' (their statements: YtnjcklhgdpgllaaTotals.lean).
  GIVEN WITH THE SEED: the statements are not yours to turn. If you find one false, say at which input.
  Laid BY PROGRAM, IN A SANDBOX (cutbox-rows.mjs): the forced cells as the released guide's own fill.sh prints them over the translation aeb122b6f81261f8… (all of the seat's roots in one cut). By AI agents, Wed Nov 11 2026. No macro, syntax, notation, axiom, sorry.
-/
import Derived.Test.YtnjcklhgdpgllaaChecked
import GoSem.Claim
import GoSem.ClaimJoined
import GoSem.ClaimMapViews
import Derived.JoinedTies
import Derived.KernelRfl
namespace Go.Proofs.Ytnjcklhgdpgllaa
/- THE CELL 'sum', in the pinned program and in every row, IS THE sha256 OF THE DUMP (.gsa) THAT YtnjcklhgdpgllaaProg.lean LOADS. Nothing in Lean hashes anything: it is a label: what it is worth is what the hold of that sum in a sandbox is worth. -/
noncomputable def Try.pinned : Pinned := { name := "ytnjcklhgdpgllaa", sum := "aeb122b6f81261f8363f923f25013c9d7bbaa0230c0e076c2287300875184275", checked := Try.checked }
namespace Rows
def none {H : Type} : Left H := { results := [], args := [] }

/-- 'quittancelaw11.PriceRound': WHATEVER THE INPUT: true; the input reads as it did. -/
def priceRoundSpec : ChangeSpec := { name := "priceRound", fn := fun _ => fun
  | [d1, d2, d3] => { results := [.lit (.bool true)], args := [d1, d2, d3] }
  | _ => none }
def priceRoundRow : OpenClaim := { program := "ytnjcklhgdpgllaa", sum := "aeb122b6f81261f8363f923f25013c9d7bbaa0230c0e076c2287300875184275", func := "quittance/quittancelaw11.PriceRound", spec := "priceRound", inPlace := ["math/bits.Sub64", "math/bits.Add64"], unfollowed := true, recurses := true, plainKeys := false, apart := false }
def PriceRoundSaid : Prop := priceRoundRow.holds Try.pinned (OpenSpec.ofChange priceRoundSpec)

/-- ITS FALSE NEIGHBOUR: 'it returns false'. Refute it at one input. -/
def priceRoundWrong : ChangeSpec := { name := "priceRound", fn := fun _ => fun
  | [d1, d2, d3] => { results := [.lit (.bool false)], args := [d1, d2, d3] }
  | _ => none }
def PriceRoundWrongFalsely : Prop := priceRoundRow.holds Try.pinned (OpenSpec.ofChange priceRoundWrong)

/-- 'quittancelaw11.PriceBound': WHATEVER THE INPUT: true; the input reads as it did. -/
def priceBoundSpec : ChangeSpec := { name := "priceBound", fn := fun _ => fun
  | [d1, d2, d3, d4, d5] => { results := [.lit (.bool true)], args := [d1, d2, d3, d4, d5] }
  | _ => none }
def priceBoundRow : OpenClaim := { program := "ytnjcklhgdpgllaa", sum := "aeb122b6f81261f8363f923f25013c9d7bbaa0230c0e076c2287300875184275", func := "quittance/quittancelaw11.PriceBound", spec := "priceBound", inPlace := ["math/bits.Sub64", "math/bits.Add64"], unfollowed := true, recurses := true, plainKeys := false, apart := false }
def PriceBoundSaid : Prop := priceBoundRow.holds Try.pinned (OpenSpec.ofChange priceBoundSpec)

/-- ITS FALSE NEIGHBOUR: 'it returns false'. Refute it at one input. -/
def priceBoundWrong : ChangeSpec := { name := "priceBound", fn := fun _ => fun
  | [d1, d2, d3, d4, d5] => { results := [.lit (.bool false)], args := [d1, d2, d3, d4, d5] }
  | _ => none }
def PriceBoundWrongFalsely : Prop := priceBoundRow.holds Try.pinned (OpenSpec.ofChange priceBoundWrong)

/-- 'quittancelaw11.PriceBest': WHATEVER THE INPUT: true; the input reads as it did. -/
def priceBestSpec : ChangeSpec := { name := "priceBest", fn := fun _ => fun
  | [d1, d2, d3, d4, d5] => { results := [.lit (.bool true)], args := [d1, d2, d3, d4, d5] }
  | _ => none }
def priceBestRow : OpenClaim := { program := "ytnjcklhgdpgllaa", sum := "aeb122b6f81261f8363f923f25013c9d7bbaa0230c0e076c2287300875184275", func := "quittance/quittancelaw11.PriceBest", spec := "priceBest", inPlace := ["math/bits.Sub64", "math/bits.Add64"], unfollowed := true, recurses := true, plainKeys := false, apart := false }
def PriceBestSaid : Prop := priceBestRow.holds Try.pinned (OpenSpec.ofChange priceBestSpec)

/-- ITS FALSE NEIGHBOUR: 'it returns false'. Refute it at one input. -/
def priceBestWrong : ChangeSpec := { name := "priceBest", fn := fun _ => fun
  | [d1, d2, d3, d4, d5] => { results := [.lit (.bool false)], args := [d1, d2, d3, d4, d5] }
  | _ => none }
def PriceBestWrongFalsely : Prop := priceBestRow.holds Try.pinned (OpenSpec.ofChange priceBestWrong)

/-- 'quittancelaw11.PriceAsks': WHATEVER THE INPUT: true; the input reads as it did. -/
def priceAsksSpec : ChangeSpec := { name := "priceAsks", fn := fun _ => fun
  | [d1, d2, d3, d4, d5, d6, d7, d8] => { results := [.lit (.bool true)], args := [d1, d2, d3, d4, d5, d6, d7, d8] }
  | _ => none }
def priceAsksRow : OpenClaim := { program := "ytnjcklhgdpgllaa", sum := "aeb122b6f81261f8363f923f25013c9d7bbaa0230c0e076c2287300875184275", func := "quittance/quittancelaw11.PriceAsks", spec := "priceAsks", inPlace := ["math/bits.Sub64", "math/bits.Add64"], unfollowed := true, recurses := true, plainKeys := false, apart := false }
def PriceAsksSaid : Prop := priceAsksRow.holds Try.pinned (OpenSpec.ofChange priceAsksSpec)

/-- ITS FALSE NEIGHBOUR: 'it returns false'. Refute it at one input. -/
def priceAsksWrong : ChangeSpec := { name := "priceAsks", fn := fun _ => fun
  | [d1, d2, d3, d4, d5, d6, d7, d8] => { results := [.lit (.bool false)], args := [d1, d2, d3, d4, d5, d6, d7, d8] }
  | _ => none }
def PriceAsksWrongFalsely : Prop := priceAsksRow.holds Try.pinned (OpenSpec.ofChange priceAsksWrong)

/-- 'quittancelaw11.PriceShift': WHATEVER THE INPUT: true; the input reads as it did. -/
def priceShiftSpec : ChangeSpec := { name := "priceShift", fn := fun _ => fun
  | [d1, d2, d3, d4, d5] => { results := [.lit (.bool true)], args := [d1, d2, d3, d4, d5] }
  | _ => none }
def priceShiftRow : OpenClaim := { program := "ytnjcklhgdpgllaa", sum := "aeb122b6f81261f8363f923f25013c9d7bbaa0230c0e076c2287300875184275", func := "quittance/quittancelaw11.PriceShift", spec := "priceShift", inPlace := ["math/bits.Sub64", "math/bits.Add64"], unfollowed := true, recurses := true, plainKeys := false, apart := false }
def PriceShiftSaid : Prop := priceShiftRow.holds Try.pinned (OpenSpec.ofChange priceShiftSpec)

/-- ITS FALSE NEIGHBOUR: 'it returns false'. Refute it at one input. -/
def priceShiftWrong : ChangeSpec := { name := "priceShift", fn := fun _ => fun
  | [d1, d2, d3, d4, d5] => { results := [.lit (.bool false)], args := [d1, d2, d3, d4, d5] }
  | _ => none }
def PriceShiftWrongFalsely : Prop := priceShiftRow.holds Try.pinned (OpenSpec.ofChange priceShiftWrong)

/-- 'quittancelaw12.RayGrows': WHATEVER THE INPUT: true; the input reads as it did. -/
def rayGrowsSpec : ChangeSpec := { name := "rayGrows", fn := fun _ => fun
  | [d1, d2, d3] => { results := [.lit (.bool true)], args := [d1, d2, d3] }
  | _ => none }
def rayGrowsRow : OpenClaim := { program := "ytnjcklhgdpgllaa", sum := "aeb122b6f81261f8363f923f25013c9d7bbaa0230c0e076c2287300875184275", func := "quittance/quittancelaw12.RayGrows", spec := "rayGrows", inPlace := ["math/bits.Add64", "math/bits.Sub64"], unfollowed := true, recurses := true, plainKeys := false, apart := false }
def RayGrowsSaid : Prop := rayGrowsRow.holds Try.pinned (OpenSpec.ofChange rayGrowsSpec)

/-- ITS FALSE NEIGHBOUR: 'it returns false'. Refute it at one input. -/
def rayGrowsWrong : ChangeSpec := { name := "rayGrows", fn := fun _ => fun
  | [d1, d2, d3] => { results := [.lit (.bool false)], args := [d1, d2, d3] }
  | _ => none }
def RayGrowsWrongFalsely : Prop := rayGrowsRow.holds Try.pinned (OpenSpec.ofChange rayGrowsWrong)

/-- 'quittancelaw16.TwinDoes': WHATEVER THE INPUT: true; the input reads as it did. -/
def twinDoesSpec : ChangeSpec := { name := "twinDoes", fn := fun _ => fun
  | [d1, d2, d3, d4, d5] => { results := [.lit (.bool true)], args := [d1, d2, d3, d4, d5] }
  | _ => none }
def twinDoesRow : OpenClaim := { program := "ytnjcklhgdpgllaa", sum := "aeb122b6f81261f8363f923f25013c9d7bbaa0230c0e076c2287300875184275", func := "quittance/quittancelaw16.TwinDoes", spec := "twinDoes", unfollowed := true, recurses := true, plainKeys := false, apart := false }
def TwinDoesSaid : Prop := twinDoesRow.holds Try.pinned (OpenSpec.ofChange twinDoesSpec)

/-- ITS FALSE NEIGHBOUR: 'it returns false'. Refute it at one input. -/
def twinDoesWrong : ChangeSpec := { name := "twinDoes", fn := fun _ => fun
  | [d1, d2, d3, d4, d5] => { results := [.lit (.bool false)], args := [d1, d2, d3, d4, d5] }
  | _ => none }
def TwinDoesWrongFalsely : Prop := twinDoesRow.holds Try.pinned (OpenSpec.ofChange twinDoesWrong)

/-- 'quittancelaw16.TwinSpreads': WHATEVER THE INPUT: true; the input reads as it did. -/
def twinSpreadsSpec : ChangeSpec := { name := "twinSpreads", fn := fun _ => fun
  | [d1, d2, d3, d4, d5, d6] => { results := [.lit (.bool true)], args := [d1, d2, d3, d4, d5, d6] }
  | _ => none }
def twinSpreadsRow : OpenClaim := { program := "ytnjcklhgdpgllaa", sum := "aeb122b6f81261f8363f923f25013c9d7bbaa0230c0e076c2287300875184275", func := "quittance/quittancelaw16.TwinSpreads", spec := "twinSpreads", unfollowed := true, recurses := true, plainKeys := false, apart := false }
def TwinSpreadsSaid : Prop := twinSpreadsRow.holds Try.pinned (OpenSpec.ofChange twinSpreadsSpec)

/-- ITS FALSE NEIGHBOUR: 'it returns false'. Refute it at one input. -/
def twinSpreadsWrong : ChangeSpec := { name := "twinSpreads", fn := fun _ => fun
  | [d1, d2, d3, d4, d5, d6] => { results := [.lit (.bool false)], args := [d1, d2, d3, d4, d5, d6] }
  | _ => none }
def TwinSpreadsWrongFalsely : Prop := twinSpreadsRow.holds Try.pinned (OpenSpec.ofChange twinSpreadsWrong)

/-- 'quittancelaw16.TwinSums': WHATEVER THE INPUT: true; the input reads as it did. -/
def twinSumsSpec : ChangeSpec := { name := "twinSums", fn := fun _ => fun
  | [d1, d2, d3, d4] => { results := [.lit (.bool true)], args := [d1, d2, d3, d4] }
  | _ => none }
def twinSumsRow : OpenClaim := { program := "ytnjcklhgdpgllaa", sum := "aeb122b6f81261f8363f923f25013c9d7bbaa0230c0e076c2287300875184275", func := "quittance/quittancelaw16.TwinSums", spec := "twinSums", unfollowed := true, recurses := true, plainKeys := false, apart := false }
def TwinSumsSaid : Prop := twinSumsRow.holds Try.pinned (OpenSpec.ofChange twinSumsSpec)

/-- ITS FALSE NEIGHBOUR: 'it returns false'. Refute it at one input. -/
def twinSumsWrong : ChangeSpec := { name := "twinSums", fn := fun _ => fun
  | [d1, d2, d3, d4] => { results := [.lit (.bool false)], args := [d1, d2, d3, d4] }
  | _ => none }
def TwinSumsWrongFalsely : Prop := twinSumsRow.holds Try.pinned (OpenSpec.ofChange twinSumsWrong)

/-- 'quittancelaw16.TwinOnce': WHATEVER THE INPUT: true; the input reads as it did. -/
def twinOnceSpec : ChangeSpec := { name := "twinOnce", fn := fun _ => fun
  | [d1, d2] => { results := [.lit (.bool true)], args := [d1, d2] }
  | _ => none }
def twinOnceRow : OpenClaim := { program := "ytnjcklhgdpgllaa", sum := "aeb122b6f81261f8363f923f25013c9d7bbaa0230c0e076c2287300875184275", func := "quittance/quittancelaw16.TwinOnce", spec := "twinOnce", unfollowed := true, recurses := true, plainKeys := false, apart := false }
def TwinOnceSaid : Prop := twinOnceRow.holds Try.pinned (OpenSpec.ofChange twinOnceSpec)

/-- ITS FALSE NEIGHBOUR: 'it returns false'. Refute it at one input. -/
def twinOnceWrong : ChangeSpec := { name := "twinOnce", fn := fun _ => fun
  | [d1, d2] => { results := [.lit (.bool false)], args := [d1, d2] }
  | _ => none }
def TwinOnceWrongFalsely : Prop := twinOnceRow.holds Try.pinned (OpenSpec.ofChange twinOnceWrong)

/-- 'quittancelaw16.TwinSides': WHATEVER THE INPUT: true; the input reads as it did. -/
def twinSidesSpec : ChangeSpec := { name := "twinSides", fn := fun _ => fun
  | [d1, d2, d3] => { results := [.lit (.bool true)], args := [d1, d2, d3] }
  | _ => none }
def twinSidesRow : OpenClaim := { program := "ytnjcklhgdpgllaa", sum := "aeb122b6f81261f8363f923f25013c9d7bbaa0230c0e076c2287300875184275", func := "quittance/quittancelaw16.TwinSides", spec := "twinSides", inPlace := ["math/bits.Sub64", "math/bits.Add64"], unfollowed := true, recurses := true, plainKeys := false, apart := false }
def TwinSidesSaid : Prop := twinSidesRow.holds Try.pinned (OpenSpec.ofChange twinSidesSpec)

/-- ITS FALSE NEIGHBOUR: 'it returns false'. Refute it at one input. -/
def twinSidesWrong : ChangeSpec := { name := "twinSides", fn := fun _ => fun
  | [d1, d2, d3] => { results := [.lit (.bool false)], args := [d1, d2, d3] }
  | _ => none }
def TwinSidesWrongFalsely : Prop := twinSidesRow.holds Try.pinned (OpenSpec.ofChange twinSidesWrong)

/-- 'quittancelaw16.TwinFlows': WHATEVER THE INPUT: true; the input reads as it did. -/
def twinFlowsSpec : ChangeSpec := { name := "twinFlows", fn := fun _ => fun
  | [d1, d2, d3] => { results := [.lit (.bool true)], args := [d1, d2, d3] }
  | _ => none }
def twinFlowsRow : OpenClaim := { program := "ytnjcklhgdpgllaa", sum := "aeb122b6f81261f8363f923f25013c9d7bbaa0230c0e076c2287300875184275", func := "quittance/quittancelaw16.TwinFlows", spec := "twinFlows", inPlace := ["math/bits.Add64", "math/bits.Sub64"], unfollowed := true, recurses := true, plainKeys := false, apart := false }
def TwinFlowsSaid : Prop := twinFlowsRow.holds Try.pinned (OpenSpec.ofChange twinFlowsSpec)

/-- ITS FALSE NEIGHBOUR: 'it returns false'. Refute it at one input. -/
def twinFlowsWrong : ChangeSpec := { name := "twinFlows", fn := fun _ => fun
  | [d1, d2, d3] => { results := [.lit (.bool false)], args := [d1, d2, d3] }
  | _ => none }
def TwinFlowsWrongFalsely : Prop := twinFlowsRow.holds Try.pinned (OpenSpec.ofChange twinFlowsWrong)

/- THE SECOND FORM. 'bulk': how many values and letters a reading holds, each counted each time it is reached (what is shared counts as often as it is met; a slice's spare places count too). A statement '..UptoSaid' is the law's where the arguments, and the package variables that the reading takes, are together of bulk at most 1048576: NARROWER than '..Said'. Prove '..Said' where nothing that the law and all that it calls make is longer than what came in: it says more and counts as full. Else prove '..UptoSaid'. A law counts once. -/
mutual
def uptoBulk {H : Type} : DataW H → Nat
  | .lit (.string bytes) => bytes.length + 1
  | .lit _ => 1
  | .nil => 1
  | .ptr d => uptoBulk d + 1
  | .slice elems spare => uptoBulkAll elems + uptoBulkAll spare + 1
  | .agg parts => uptoBulkAll parts + 1
  | .iface _ d => uptoBulk d + 1
  | .map entries => uptoBulkEntries entries + 1
  | .held _ => 1
def uptoBulkAll {H : Type} : List (DataW H) → Nat
  | [] => 0
  | d :: r => uptoBulk d + uptoBulkAll r
def uptoBulkEntries {H : Type} : List (Lit × DataW H) → Nat
  | [] => 0
  | x :: r => uptoBulkEntry x + uptoBulkEntries r
def uptoBulkEntry {H : Type} : Lit × DataW H → Nat
  | (.string bytes, d) => bytes.length + uptoBulk d + 1
  | (_, d) => uptoBulk d + 1
 end
def uptoSmall : (H : Type) → List (DataW H) → Bool := fun _ ds => decide (uptoBulkAll ds ≤ 1048576)
def OpenSpec.upto (s : _root_.Go.ChangeSpec) : _root_.Go.OpenSpec := { _root_.Go.OpenSpec.ofChange s with cond := some uptoSmall }

/-- 'quittancelaw11.PriceRound', WHERE WHAT IT READS IS OF BULK AT MOST 1048576: true; the input reads as it did. -/
def priceRoundUptoRow : OpenClaim := { program := "ytnjcklhgdpgllaa", sum := "aeb122b6f81261f8363f923f25013c9d7bbaa0230c0e076c2287300875184275", func := "quittance/quittancelaw11.PriceRound", spec := "priceRound", inPlace := ["math/bits.Sub64", "math/bits.Add64"], unfollowed := true, recurses := true, plainKeys := false, apart := false, narrowed := true }
def PriceRoundUptoSaid : Prop := priceRoundUptoRow.holds Try.pinned (OpenSpec.upto priceRoundSpec)

/-- 'quittancelaw11.PriceBound', WHERE WHAT IT READS IS OF BULK AT MOST 1048576: true; the input reads as it did. -/
def priceBoundUptoRow : OpenClaim := { program := "ytnjcklhgdpgllaa", sum := "aeb122b6f81261f8363f923f25013c9d7bbaa0230c0e076c2287300875184275", func := "quittance/quittancelaw11.PriceBound", spec := "priceBound", inPlace := ["math/bits.Sub64", "math/bits.Add64"], unfollowed := true, recurses := true, plainKeys := false, apart := false, narrowed := true }
def PriceBoundUptoSaid : Prop := priceBoundUptoRow.holds Try.pinned (OpenSpec.upto priceBoundSpec)

/-- 'quittancelaw11.PriceBest', WHERE WHAT IT READS IS OF BULK AT MOST 1048576: true; the input reads as it did. -/
def priceBestUptoRow : OpenClaim := { program := "ytnjcklhgdpgllaa", sum := "aeb122b6f81261f8363f923f25013c9d7bbaa0230c0e076c2287300875184275", func := "quittance/quittancelaw11.PriceBest", spec := "priceBest", inPlace := ["math/bits.Sub64", "math/bits.Add64"], unfollowed := true, recurses := true, plainKeys := false, apart := false, narrowed := true }
def PriceBestUptoSaid : Prop := priceBestUptoRow.holds Try.pinned (OpenSpec.upto priceBestSpec)

/-- 'quittancelaw11.PriceAsks', WHERE WHAT IT READS IS OF BULK AT MOST 1048576: true; the input reads as it did. -/
def priceAsksUptoRow : OpenClaim := { program := "ytnjcklhgdpgllaa", sum := "aeb122b6f81261f8363f923f25013c9d7bbaa0230c0e076c2287300875184275", func := "quittance/quittancelaw11.PriceAsks", spec := "priceAsks", inPlace := ["math/bits.Sub64", "math/bits.Add64"], unfollowed := true, recurses := true, plainKeys := false, apart := false, narrowed := true }
def PriceAsksUptoSaid : Prop := priceAsksUptoRow.holds Try.pinned (OpenSpec.upto priceAsksSpec)

/-- 'quittancelaw11.PriceShift', WHERE WHAT IT READS IS OF BULK AT MOST 1048576: true; the input reads as it did. -/
def priceShiftUptoRow : OpenClaim := { program := "ytnjcklhgdpgllaa", sum := "aeb122b6f81261f8363f923f25013c9d7bbaa0230c0e076c2287300875184275", func := "quittance/quittancelaw11.PriceShift", spec := "priceShift", inPlace := ["math/bits.Sub64", "math/bits.Add64"], unfollowed := true, recurses := true, plainKeys := false, apart := false, narrowed := true }
def PriceShiftUptoSaid : Prop := priceShiftUptoRow.holds Try.pinned (OpenSpec.upto priceShiftSpec)

/-- 'quittancelaw12.RayGrows', WHERE WHAT IT READS IS OF BULK AT MOST 1048576: true; the input reads as it did. -/
def rayGrowsUptoRow : OpenClaim := { program := "ytnjcklhgdpgllaa", sum := "aeb122b6f81261f8363f923f25013c9d7bbaa0230c0e076c2287300875184275", func := "quittance/quittancelaw12.RayGrows", spec := "rayGrows", inPlace := ["math/bits.Add64", "math/bits.Sub64"], unfollowed := true, recurses := true, plainKeys := false, apart := false, narrowed := true }
def RayGrowsUptoSaid : Prop := rayGrowsUptoRow.holds Try.pinned (OpenSpec.upto rayGrowsSpec)

/-- 'quittancelaw16.TwinDoes', WHERE WHAT IT READS IS OF BULK AT MOST 1048576: true; the input reads as it did. -/
def twinDoesUptoRow : OpenClaim := { program := "ytnjcklhgdpgllaa", sum := "aeb122b6f81261f8363f923f25013c9d7bbaa0230c0e076c2287300875184275", func := "quittance/quittancelaw16.TwinDoes", spec := "twinDoes", unfollowed := true, recurses := true, plainKeys := false, apart := false, narrowed := true }
def TwinDoesUptoSaid : Prop := twinDoesUptoRow.holds Try.pinned (OpenSpec.upto twinDoesSpec)

/-- 'quittancelaw16.TwinSpreads', WHERE WHAT IT READS IS OF BULK AT MOST 1048576: true; the input reads as it did. -/
def twinSpreadsUptoRow : OpenClaim := { program := "ytnjcklhgdpgllaa", sum := "aeb122b6f81261f8363f923f25013c9d7bbaa0230c0e076c2287300875184275", func := "quittance/quittancelaw16.TwinSpreads", spec := "twinSpreads", unfollowed := true, recurses := true, plainKeys := false, apart := false, narrowed := true }
def TwinSpreadsUptoSaid : Prop := twinSpreadsUptoRow.holds Try.pinned (OpenSpec.upto twinSpreadsSpec)

/-- 'quittancelaw16.TwinSums', WHERE WHAT IT READS IS OF BULK AT MOST 1048576: true; the input reads as it did. -/
def twinSumsUptoRow : OpenClaim := { program := "ytnjcklhgdpgllaa", sum := "aeb122b6f81261f8363f923f25013c9d7bbaa0230c0e076c2287300875184275", func := "quittance/quittancelaw16.TwinSums", spec := "twinSums", unfollowed := true, recurses := true, plainKeys := false, apart := false, narrowed := true }
def TwinSumsUptoSaid : Prop := twinSumsUptoRow.holds Try.pinned (OpenSpec.upto twinSumsSpec)

/-- 'quittancelaw16.TwinOnce', WHERE WHAT IT READS IS OF BULK AT MOST 1048576: true; the input reads as it did. -/
def twinOnceUptoRow : OpenClaim := { program := "ytnjcklhgdpgllaa", sum := "aeb122b6f81261f8363f923f25013c9d7bbaa0230c0e076c2287300875184275", func := "quittance/quittancelaw16.TwinOnce", spec := "twinOnce", unfollowed := true, recurses := true, plainKeys := false, apart := false, narrowed := true }
def TwinOnceUptoSaid : Prop := twinOnceUptoRow.holds Try.pinned (OpenSpec.upto twinOnceSpec)

/-- 'quittancelaw16.TwinSides', WHERE WHAT IT READS IS OF BULK AT MOST 1048576: true; the input reads as it did. -/
def twinSidesUptoRow : OpenClaim := { program := "ytnjcklhgdpgllaa", sum := "aeb122b6f81261f8363f923f25013c9d7bbaa0230c0e076c2287300875184275", func := "quittance/quittancelaw16.TwinSides", spec := "twinSides", inPlace := ["math/bits.Sub64", "math/bits.Add64"], unfollowed := true, recurses := true, plainKeys := false, apart := false, narrowed := true }
def TwinSidesUptoSaid : Prop := twinSidesUptoRow.holds Try.pinned (OpenSpec.upto twinSidesSpec)

/-- 'quittancelaw16.TwinFlows', WHERE WHAT IT READS IS OF BULK AT MOST 1048576: true; the input reads as it did. -/
def twinFlowsUptoRow : OpenClaim := { program := "ytnjcklhgdpgllaa", sum := "aeb122b6f81261f8363f923f25013c9d7bbaa0230c0e076c2287300875184275", func := "quittance/quittancelaw16.TwinFlows", spec := "twinFlows", inPlace := ["math/bits.Add64", "math/bits.Sub64"], unfollowed := true, recurses := true, plainKeys := false, apart := false, narrowed := true }
def TwinFlowsUptoSaid : Prop := twinFlowsUptoRow.holds Try.pinned (OpenSpec.upto twinFlowsSpec)

end Rows
end Go.Proofs.Ytnjcklhgdpgllaa
