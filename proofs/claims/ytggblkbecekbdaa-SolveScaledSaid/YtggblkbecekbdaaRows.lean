/-
  No cell of these rows narrows 'for every input' (looked for: loops, veiled, ifaces, maps, wideKeys, modest, calm, conditions, laid).
  DERIVED. THE GIVEN ROWS OF THIS SEAT. 7 by the template 'for every input the law returns true; each argument reads behind the call as it read before'; 0 by the template 'total and deterministic' (their statements: YtggblkbecekbdaaTotals.lean).
  GIVEN WITH THE SEED: the statements are not yours to turn. If you find one false, say at which input.
  Laid BY PROGRAM, IN A SANDBOX (cutbox-rows.mjs): the forced cells as the released guide's own fill.sh prints them over the translation c0f8918aec4430e9… (all of the seat's roots in one cut). By AI agents, Wed Nov 11 2026. No macro, syntax, notation, axiom, sorry.
-/
import Derived.Test.YtggblkbecekbdaaChecked
import GoSem.Claim
import GoSem.ClaimJoined
import GoSem.ClaimMapViews
import Derived.JoinedTies
import Derived.KernelRfl
namespace Go.Proofs.Ytggblkbecekbdaa
/- THE CELL 'sum', in the pinned program and in every row, IS THE sha256 OF THE DUMP (.gsa) THAT YtggblkbecekbdaaProg.lean LOADS. Nothing in Lean hashes anything: it is a label: what it is worth is what the hold of that sum in a sandbox is worth. -/
noncomputable def Try.pinned : Pinned := { name := "ytggblkbecekbdaa", sum := "c0f8918aec4430e93004ea79011d7e0b43974d186f978d6a91fde2377fa7fe2a", checked := Try.checked }
namespace Rows
def none {H : Type} : Left H := { results := [], args := [] }

/-- 'quittancelaw13.CertOne': WHATEVER THE INPUT: true; the input reads as it did. -/
def certOneSpec : ChangeSpec := { name := "certOne", fn := fun _ => fun
  | [d1, d2, d3, d4, d5, d6, d7, d8] => { results := [.lit (.bool true)], args := [d1, d2, d3, d4, d5, d6, d7, d8] }
  | _ => none }
def certOneRow : OpenClaim := { program := "ytggblkbecekbdaa", sum := "c0f8918aec4430e93004ea79011d7e0b43974d186f978d6a91fde2377fa7fe2a", func := "quittance/quittancelaw13.CertOne", spec := "certOne", inPlace := ["math/bits.Sub64", "math/bits.Add64"], unfollowed := true, recurses := true, apart := false }
def CertOneSaid : Prop := certOneRow.holds Try.pinned (OpenSpec.ofChange certOneSpec)

/-- ITS FALSE NEIGHBOUR: 'it returns false'. Refute it at one input. -/
def certOneWrong : ChangeSpec := { name := "certOne", fn := fun _ => fun
  | [d1, d2, d3, d4, d5, d6, d7, d8] => { results := [.lit (.bool false)], args := [d1, d2, d3, d4, d5, d6, d7, d8] }
  | _ => none }
def CertOneWrongFalsely : Prop := certOneRow.holds Try.pinned (OpenSpec.ofChange certOneWrong)

/-- 'quittancelaw13.CertMade': WHATEVER THE INPUT: true; the input reads as it did. -/
def certMadeSpec : ChangeSpec := { name := "certMade", fn := fun _ => fun
  | [d1, d2, d3, d4] => { results := [.lit (.bool true)], args := [d1, d2, d3, d4] }
  | _ => none }
def certMadeRow : OpenClaim := { program := "ytggblkbecekbdaa", sum := "c0f8918aec4430e93004ea79011d7e0b43974d186f978d6a91fde2377fa7fe2a", func := "quittance/quittancelaw13.CertMade", spec := "certMade", inPlace := ["math/bits.Sub64", "math/bits.Add64"], unfollowed := true, recurses := true, apart := false }
def CertMadeSaid : Prop := certMadeRow.holds Try.pinned (OpenSpec.ofChange certMadeSpec)

/-- ITS FALSE NEIGHBOUR: 'it returns false'. Refute it at one input. -/
def certMadeWrong : ChangeSpec := { name := "certMade", fn := fun _ => fun
  | [d1, d2, d3, d4] => { results := [.lit (.bool false)], args := [d1, d2, d3, d4] }
  | _ => none }
def CertMadeWrongFalsely : Prop := certMadeRow.holds Try.pinned (OpenSpec.ofChange certMadeWrong)

/-- 'quittancelaw20.SolveTurned': WHATEVER THE INPUT: true; the input reads as it did. -/
def solveTurnedSpec : ChangeSpec := { name := "solveTurned", fn := fun _ => fun
  | [d1, d2, d3] => { results := [.lit (.bool true)], args := [d1, d2, d3] }
  | _ => none }
def solveTurnedRow : OpenClaim := { program := "ytggblkbecekbdaa", sum := "c0f8918aec4430e93004ea79011d7e0b43974d186f978d6a91fde2377fa7fe2a", func := "quittance/quittancelaw20.SolveTurned", spec := "solveTurned", inPlace := ["math/bits.Sub64", "math/bits.Add64"], unfollowed := true, recurses := true, apart := false }
def SolveTurnedSaid : Prop := solveTurnedRow.holds Try.pinned (OpenSpec.ofChange solveTurnedSpec)

/-- ITS FALSE NEIGHBOUR: 'it returns false'. Refute it at one input. -/
def solveTurnedWrong : ChangeSpec := { name := "solveTurned", fn := fun _ => fun
  | [d1, d2, d3] => { results := [.lit (.bool false)], args := [d1, d2, d3] }
  | _ => none }
def SolveTurnedWrongFalsely : Prop := solveTurnedRow.holds Try.pinned (OpenSpec.ofChange solveTurnedWrong)

/-- 'quittancelaw20.SolvePriced': WHATEVER THE INPUT: true; the input reads as it did. -/
def solvePricedSpec : ChangeSpec := { name := "solvePriced", fn := fun _ => fun
  | [d1, d2, d3, d4] => { results := [.lit (.bool true)], args := [d1, d2, d3, d4] }
  | _ => none }
def solvePricedRow : OpenClaim := { program := "ytggblkbecekbdaa", sum := "c0f8918aec4430e93004ea79011d7e0b43974d186f978d6a91fde2377fa7fe2a", func := "quittance/quittancelaw20.SolvePriced", spec := "solvePriced", inPlace := ["math/bits.Sub64", "math/bits.Add64"], unfollowed := true, recurses := true, apart := false }
def SolvePricedSaid : Prop := solvePricedRow.holds Try.pinned (OpenSpec.ofChange solvePricedSpec)

/-- ITS FALSE NEIGHBOUR: 'it returns false'. Refute it at one input. -/
def solvePricedWrong : ChangeSpec := { name := "solvePriced", fn := fun _ => fun
  | [d1, d2, d3, d4] => { results := [.lit (.bool false)], args := [d1, d2, d3, d4] }
  | _ => none }
def SolvePricedWrongFalsely : Prop := solvePricedRow.holds Try.pinned (OpenSpec.ofChange solvePricedWrong)

/-- 'quittancelaw20.SolveParted': WHATEVER THE INPUT: true; the input reads as it did. -/
def solvePartedSpec : ChangeSpec := { name := "solveParted", fn := fun _ => fun
  | [d1, d2, d3, d4, d5] => { results := [.lit (.bool true)], args := [d1, d2, d3, d4, d5] }
  | _ => none }
def solvePartedRow : OpenClaim := { program := "ytggblkbecekbdaa", sum := "c0f8918aec4430e93004ea79011d7e0b43974d186f978d6a91fde2377fa7fe2a", func := "quittance/quittancelaw20.SolveParted", spec := "solveParted", inPlace := ["math/bits.Sub64", "math/bits.Add64"], unfollowed := true, recurses := true, apart := false }
def SolvePartedSaid : Prop := solvePartedRow.holds Try.pinned (OpenSpec.ofChange solvePartedSpec)

/-- ITS FALSE NEIGHBOUR: 'it returns false'. Refute it at one input. -/
def solvePartedWrong : ChangeSpec := { name := "solveParted", fn := fun _ => fun
  | [d1, d2, d3, d4, d5] => { results := [.lit (.bool false)], args := [d1, d2, d3, d4, d5] }
  | _ => none }
def SolvePartedWrongFalsely : Prop := solvePartedRow.holds Try.pinned (OpenSpec.ofChange solvePartedWrong)

/-- 'quittancelaw20.SolveScaled': WHATEVER THE INPUT: true; the input reads as it did. -/
def solveScaledSpec : ChangeSpec := { name := "solveScaled", fn := fun _ => fun
  | [d1, d2, d3, d4, d5] => { results := [.lit (.bool true)], args := [d1, d2, d3, d4, d5] }
  | _ => none }
def solveScaledRow : OpenClaim := { program := "ytggblkbecekbdaa", sum := "c0f8918aec4430e93004ea79011d7e0b43974d186f978d6a91fde2377fa7fe2a", func := "quittance/quittancelaw20.SolveScaled", spec := "solveScaled", inPlace := ["math/bits.Sub64", "math/bits.Add64"], unfollowed := true, recurses := true, apart := false }
def SolveScaledSaid : Prop := solveScaledRow.holds Try.pinned (OpenSpec.ofChange solveScaledSpec)

/-- ITS FALSE NEIGHBOUR: 'it returns false'. Refute it at one input. -/
def solveScaledWrong : ChangeSpec := { name := "solveScaled", fn := fun _ => fun
  | [d1, d2, d3, d4, d5] => { results := [.lit (.bool false)], args := [d1, d2, d3, d4, d5] }
  | _ => none }
def SolveScaledWrongFalsely : Prop := solveScaledRow.holds Try.pinned (OpenSpec.ofChange solveScaledWrong)

/-- 'quittancelaw20.SolveMore': WHATEVER THE INPUT: true; the input reads as it did. -/
def solveMoreSpec : ChangeSpec := { name := "solveMore", fn := fun _ => fun
  | [d1, d2, d3, d4, d5, d6, d7] => { results := [.lit (.bool true)], args := [d1, d2, d3, d4, d5, d6, d7] }
  | _ => none }
def solveMoreRow : OpenClaim := { program := "ytggblkbecekbdaa", sum := "c0f8918aec4430e93004ea79011d7e0b43974d186f978d6a91fde2377fa7fe2a", func := "quittance/quittancelaw20.SolveMore", spec := "solveMore", inPlace := ["math/bits.Sub64", "math/bits.Add64"], unfollowed := true, recurses := true, apart := false }
def SolveMoreSaid : Prop := solveMoreRow.holds Try.pinned (OpenSpec.ofChange solveMoreSpec)

/-- ITS FALSE NEIGHBOUR: 'it returns false'. Refute it at one input. -/
def solveMoreWrong : ChangeSpec := { name := "solveMore", fn := fun _ => fun
  | [d1, d2, d3, d4, d5, d6, d7] => { results := [.lit (.bool false)], args := [d1, d2, d3, d4, d5, d6, d7] }
  | _ => none }
def SolveMoreWrongFalsely : Prop := solveMoreRow.holds Try.pinned (OpenSpec.ofChange solveMoreWrong)

/- THE SECOND FORM. 'bulk': how many values and letters a reading holds, each counted each time it is reached (what is shared counts as often as it is met; a slice's spare places count too). A statement '..UptoSaid' is the law's where the arguments, and the package variables that the reading takes, are together of bulk at most 1048576: NARROWER than '..Said'. Prove '..Said' where nothing that the law and all that it calls make is longer than what came in: it says more and counts as full. Else prove '..UptoSaid'. A law counts once. -/
mutual
def uptoBulk {H : Type} : DataW H → Nat
  | .lit (.string bytes) => bytes.length + 1
  | .lit _ => 1
  | .nil => 1
  | .ptr d => uptoBulk d + 1
  | .slice elems spare => uptoBulkAll elems + uptoBulkAll spare + 1
  | .agg parts => uptoBulkAll parts + 1
  | .iface _ d => uptoBulk d + 1
  | .map entries => uptoBulkEntries entries + 1
  | .held _ => 1
def uptoBulkAll {H : Type} : List (DataW H) → Nat
  | [] => 0
  | d :: r => uptoBulk d + uptoBulkAll r
def uptoBulkEntries {H : Type} : List (Lit × DataW H) → Nat
  | [] => 0
  | x :: r => uptoBulkEntry x + uptoBulkEntries r
def uptoBulkEntry {H : Type} : Lit × DataW H → Nat
  | (.string bytes, d) => bytes.length + uptoBulk d + 1
  | (_, d) => uptoBulk d + 1
 end
def uptoSmall : (H : Type) → List (DataW H) → Bool := fun _ ds => decide (uptoBulkAll ds ≤ 1048576)
def OpenSpec.upto (s : _root_.Go.ChangeSpec) : _root_.Go.OpenSpec := { _root_.Go.OpenSpec.ofChange s with cond := some uptoSmall }

/-- 'quittancelaw13.CertOne', WHERE WHAT IT READS IS OF BULK AT MOST 1048576: true; the input reads as it did. -/
def certOneUptoRow : OpenClaim := { program := "ytggblkbecekbdaa", sum := "c0f8918aec4430e93004ea79011d7e0b43974d186f978d6a91fde2377fa7fe2a", func := "quittance/quittancelaw13.CertOne", spec := "certOne", inPlace := ["math/bits.Sub64", "math/bits.Add64"], unfollowed := true, recurses := true, apart := false, narrowed := true }
def CertOneUptoSaid : Prop := certOneUptoRow.holds Try.pinned (OpenSpec.upto certOneSpec)

/-- 'quittancelaw13.CertMade', WHERE WHAT IT READS IS OF BULK AT MOST 1048576: true; the input reads as it did. -/
def certMadeUptoRow : OpenClaim := { program := "ytggblkbecekbdaa", sum := "c0f8918aec4430e93004ea79011d7e0b43974d186f978d6a91fde2377fa7fe2a", func := "quittance/quittancelaw13.CertMade", spec := "certMade", inPlace := ["math/bits.Sub64", "math/bits.Add64"], unfollowed := true, recurses := true, apart := false, narrowed := true }
def CertMadeUptoSaid : Prop := certMadeUptoRow.holds Try.pinned (OpenSpec.upto certMadeSpec)

/-- 'quittancelaw20.SolveTurned', WHERE WHAT IT READS IS OF BULK AT MOST 1048576: true; the input reads as it did. -/
def solveTurnedUptoRow : OpenClaim := { program := "ytggblkbecekbdaa", sum := "c0f8918aec4430e93004ea79011d7e0b43974d186f978d6a91fde2377fa7fe2a", func := "quittance/quittancelaw20.SolveTurned", spec := "solveTurned", inPlace := ["math/bits.Sub64", "math/bits.Add64"], unfollowed := true, recurses := true, apart := false, narrowed := true }
def SolveTurnedUptoSaid : Prop := solveTurnedUptoRow.holds Try.pinned (OpenSpec.upto solveTurnedSpec)

/-- 'quittancelaw20.SolvePriced', WHERE WHAT IT READS IS OF BULK AT MOST 1048576: true; the input reads as it did. -/
def solvePricedUptoRow : OpenClaim := { program := "ytggblkbecekbdaa", sum := "c0f8918aec4430e93004ea79011d7e0b43974d186f978d6a91fde2377fa7fe2a", func := "quittance/quittancelaw20.SolvePriced", spec := "solvePriced", inPlace := ["math/bits.Sub64", "math/bits.Add64"], unfollowed := true, recurses := true, apart := false, narrowed := true }
def SolvePricedUptoSaid : Prop := solvePricedUptoRow.holds Try.pinned (OpenSpec.upto solvePricedSpec)

/-- 'quittancelaw20.SolveParted', WHERE WHAT IT READS IS OF BULK AT MOST 1048576: true; the input reads as it did. -/
def solvePartedUptoRow : OpenClaim := { program := "ytggblkbecekbdaa", sum := "c0f8918aec4430e93004ea79011d7e0b43974d186f978d6a91fde2377fa7fe2a", func := "quittance/quittancelaw20.SolveParted", spec := "solveParted", inPlace := ["math/bits.Sub64", "math/bits.Add64"], unfollowed := true, recurses := true, apart := false, narrowed := true }
def SolvePartedUptoSaid : Prop := solvePartedUptoRow.holds Try.pinned (OpenSpec.upto solvePartedSpec)

/-- 'quittancelaw20.SolveScaled', WHERE WHAT IT READS IS OF BULK AT MOST 1048576: true; the input reads as it did. -/
def solveScaledUptoRow : OpenClaim := { program := "ytggblkbecekbdaa", sum := "c0f8918aec4430e93004ea79011d7e0b43974d186f978d6a91fde2377fa7fe2a", func := "quittance/quittancelaw20.SolveScaled", spec := "solveScaled", inPlace := ["math/bits.Sub64", "math/bits.Add64"], unfollowed := true, recurses := true, apart := false, narrowed := true }
def SolveScaledUptoSaid : Prop := solveScaledUptoRow.holds Try.pinned (OpenSpec.upto solveScaledSpec)

/-- 'quittancelaw20.SolveMore', WHERE WHAT IT READS IS OF BULK AT MOST 1048576: true; the input reads as it did. -/
def solveMoreUptoRow : OpenClaim := { program := "ytggblkbecekbdaa", sum := "c0f8918aec4430e93004ea79011d7e0b43974d186f978d6a91fde2377fa7fe2a", func := "quittance/quittancelaw20.SolveMore", spec := "solveMore", inPlace := ["math/bits.Sub64", "math/bits.Add64"], unfollowed := true, recurses := true, apart := false, narrowed := true }
def SolveMoreUptoSaid : Prop := solveMoreUptoRow.holds Try.pinned (OpenSpec.upto solveMoreSpec)

end Rows
end Go.Proofs.Ytggblkbecekbdaa
