/- Part of the proof, FS12. -/
import Derived.Test.YtahbkllfifmdfaaGreatZFR12
import Derived.Test.YtahbkllfifmdfaaGreatZDS12
import Derived.Test.YtahbkllfifmdfaaGreatZVc11
set_option linter.unusedVariables false
set_option linter.all false
set_option linter.unusedSimpArgs false
set_option maxRecDepth 100000
namespace Go.Proofs.YtahbkllfifmdfaaGreat
open Go Go.RowKit Go.Ql Go.Vc
abbrev Round_a0 (c : List Int) (d : List Int) (g : Nat) (g' : Nat) := (True ∧
 True ∧
 (0 : Nat) = (0 : Nat) ∧
 (0 : Nat) = (0 : Nat) ∧
 (↑(roundM c (instF c d).sup.length) : Int) = (↑(roundM c (instF c d).sup.length) : Int) ∧
 True ∧ IntKind.i64.wrap ((↑g : Int) + (1 : Int)) = (↑g' : Int) ∧ True)
abbrev Round_a1 (x_1 : Int) (g : Nat) (c : List Int) (d : List Int) (x : Int) := ((x_1.tmod (8 : Int) == (0 : Int)) = true →
 (((↑g : Int) == (0 : Int)) = true →
 (roundLs (instF c d).arcs.length g).length + (1 : Nat) ≤ (1000000000 : Nat) ∧
 ((instF c d).arcs ++ roundAs c d (roundM c (instF c d).sup.length) g).length + (1 : Nat) ≤ (1000000000 : Nat) ∧
 ∃ (g' : Nat),
 g' ≤ roundM c (instF c d).sup.length ∧
 roundM c (instF c d).sup.length - g' < roundM c (instF c d).sup.length - g ∧
 (Round_a0 c d g g') ∧
 roundLs (instF c d).arcs.length g ++
 [(↑((instF c d).arcs ++ roundAs c d (roundM c (instF c d).sup.length) g).length : Int)] =
 roundLs (instF c d).arcs.length g' ∧
 (True ∧ True ∧ True) ∧
 (instF c d).sup = (instF c d).sup ∧
 (instF c d).arcs ++ roundAs c d (roundM c (instF c d).sup.length) g ++
 [{ src := (↑g : Int), dst := (IntKind.i64.wrap ((↑g : Int) + (1 : Int))).tmod (↑(roundM c (instF c d).sup.length) : Int), low := (0 : Int), cap := (5 : Int), cost := IntKind.i64.wrap (IntKind.i64.wrap (x.tmod (9 : Int)) - (6 : Int)) : Arc }] =
 (instF c d).arcs ++ roundAs c d (roundM c (instF c d).sup.length) g' ∧
 (True ∧ True ∧ True) ∧ nilEq Int ∧ nilEq Arc ∧ c = c ∧ d = d ∧ True) ∧
 (((↑g : Int) == (0 : Int)) = false →
 (roundLs (instF c d).arcs.length g).length + (1 : Nat) ≤ (1000000000 : Nat) ∧
 ((instF c d).arcs ++ roundAs c d (roundM c (instF c d).sup.length) g).length + (1 : Nat) ≤ (1000000000 : Nat) ∧
 ∃ (g' : Nat),
 g' ≤ roundM c (instF c d).sup.length ∧
 roundM c (instF c d).sup.length - g' < roundM c (instF c d).sup.length - g ∧
 (Round_a0 c d g g') ∧
 roundLs (instF c d).arcs.length g ++
 [(↑((instF c d).arcs ++ roundAs c d (roundM c (instF c d).sup.length) g).length : Int)] =
 roundLs (instF c d).arcs.length g' ∧
 (True ∧ True ∧ True) ∧
 (instF c d).sup = (instF c d).sup ∧
 (instF c d).arcs ++ roundAs c d (roundM c (instF c d).sup.length) g ++
 [{ src := (↑g : Int), dst := (IntKind.i64.wrap ((↑g : Int) + (1 : Int))).tmod (↑(roundM c (instF c d).sup.length) : Int), low := (0 : Int), cap := (4611686018427387904 : Int), cost := IntKind.i64.wrap (IntKind.i64.wrap (x.tmod (9 : Int)) - (6 : Int)) : Arc }] =
 (instF c d).arcs ++ roundAs c d (roundM c (instF c d).sup.length) g' ∧
 (True ∧ True ∧ True) ∧ nilEq Int ∧ nilEq Arc ∧ c = c ∧ d = d ∧ True))
abbrev Round_a2 (x : Int) (g : Nat) (c : List Int) (d : List Int) := ((x.tmod (8 : Int) == (0 : Int)) = true →
 (((↑g : Int) == (0 : Int)) = true →
 (roundLs (instF c d).arcs.length g).length + (1 : Nat) ≤ (1000000000 : Nat) ∧
 ((instF c d).arcs ++ roundAs c d (roundM c (instF c d).sup.length) g).length + (1 : Nat) ≤ (1000000000 : Nat) ∧
 ∃ (g' : Nat),
 g' ≤ roundM c (instF c d).sup.length ∧
 roundM c (instF c d).sup.length - g' < roundM c (instF c d).sup.length - g ∧
 (Round_a0 c d g g') ∧
 roundLs (instF c d).arcs.length g ++
 [(↑((instF c d).arcs ++ roundAs c d (roundM c (instF c d).sup.length) g).length : Int)] =
 roundLs (instF c d).arcs.length g' ∧
 (True ∧ True ∧ True) ∧
 (instF c d).sup = (instF c d).sup ∧
 (instF c d).arcs ++ roundAs c d (roundM c (instF c d).sup.length) g ++
 [{ src := (↑g : Int), dst := (IntKind.i64.wrap ((↑g : Int) + (1 : Int))).tmod (↑(roundM c (instF c d).sup.length) : Int), low := (0 : Int), cap := (5 : Int), cost := (0 : Int) : Arc }] =
 (instF c d).arcs ++ roundAs c d (roundM c (instF c d).sup.length) g' ∧
 (True ∧ True ∧ True) ∧ nilEq Int ∧ nilEq Arc ∧ c = c ∧ d = d ∧ True) ∧
 (((↑g : Int) == (0 : Int)) = false →
 (roundLs (instF c d).arcs.length g).length + (1 : Nat) ≤ (1000000000 : Nat) ∧
 ((instF c d).arcs ++ roundAs c d (roundM c (instF c d).sup.length) g).length + (1 : Nat) ≤ (1000000000 : Nat) ∧
 ∃ (g' : Nat),
 g' ≤ roundM c (instF c d).sup.length ∧
 roundM c (instF c d).sup.length - g' < roundM c (instF c d).sup.length - g ∧
 (Round_a0 c d g g') ∧
 roundLs (instF c d).arcs.length g ++
 [(↑((instF c d).arcs ++ roundAs c d (roundM c (instF c d).sup.length) g).length : Int)] =
 roundLs (instF c d).arcs.length g' ∧
 (True ∧ True ∧ True) ∧
 (instF c d).sup = (instF c d).sup ∧
 (instF c d).arcs ++ roundAs c d (roundM c (instF c d).sup.length) g ++
 [{ src := (↑g : Int), dst := (IntKind.i64.wrap ((↑g : Int) + (1 : Int))).tmod (↑(roundM c (instF c d).sup.length) : Int), low := (0 : Int), cap := (4611686018427387904 : Int), cost := (0 : Int) : Arc }] =
 (instF c d).arcs ++ roundAs c d (roundM c (instF c d).sup.length) g' ∧
 (True ∧ True ∧ True) ∧ nilEq Int ∧ nilEq Arc ∧ c = c ∧ d = d ∧ True))
abbrev Round_a3 (x_1 : Int) (c : List Int) (d : List Int) (g : Nat) (x : Int) := ((x_1.tmod (8 : Int) == (0 : Int)) = false →
 (roundLs (instF c d).arcs.length g).length + (1 : Nat) ≤ (1000000000 : Nat) ∧
 ((instF c d).arcs ++ roundAs c d (roundM c (instF c d).sup.length) g).length + (1 : Nat) ≤ (1000000000 : Nat) ∧
 ∃ (g' : Nat),
 g' ≤ roundM c (instF c d).sup.length ∧
 roundM c (instF c d).sup.length - g' < roundM c (instF c d).sup.length - g ∧
 (Round_a0 c d g g') ∧
 roundLs (instF c d).arcs.length g ++
 [(↑((instF c d).arcs ++ roundAs c d (roundM c (instF c d).sup.length) g).length : Int)] =
 roundLs (instF c d).arcs.length g' ∧
 (True ∧ True ∧ True) ∧
 (instF c d).sup = (instF c d).sup ∧
 (instF c d).arcs ++ roundAs c d (roundM c (instF c d).sup.length) g ++
 [{ src := (↑g : Int), dst := (IntKind.i64.wrap ((↑g : Int) + (1 : Int))).tmod (↑(roundM c (instF c d).sup.length) : Int), low := (0 : Int), cap := (4611686018427387904 : Int), cost := IntKind.i64.wrap (IntKind.i64.wrap (x.tmod (9 : Int)) - (6 : Int)) : Arc }] =
 (instF c d).arcs ++ roundAs c d (roundM c (instF c d).sup.length) g' ∧
 (True ∧ True ∧ True) ∧ nilEq Int ∧ nilEq Arc ∧ c = c ∧ d = d ∧ True)
abbrev Round_a4 (c : List Int) (d : List Int) (g : Nat) := (decide ((↑c.length : Int) > (1 : Int)) = false →
 (roundLs (instF c d).arcs.length g).length + (1 : Nat) ≤ (1000000000 : Nat) ∧
 ((instF c d).arcs ++ roundAs c d (roundM c (instF c d).sup.length) g).length + (1 : Nat) ≤ (1000000000 : Nat) ∧
 ∃ (g' : Nat),
 g' ≤ roundM c (instF c d).sup.length ∧
 roundM c (instF c d).sup.length - g' < roundM c (instF c d).sup.length - g ∧
 (Round_a0 c d g g') ∧
 roundLs (instF c d).arcs.length g ++ [(↑((instF c d).arcs ++ roundAs c d (roundM c (instF c d).sup.length) g).length : Int)] =
 roundLs (instF c d).arcs.length g' ∧
 (True ∧ True ∧ True) ∧
 (instF c d).sup = (instF c d).sup ∧
 (instF c d).arcs ++ roundAs c d (roundM c (instF c d).sup.length) g ++
 [{ src := (↑g : Int), dst := (IntKind.i64.wrap ((↑g : Int) + (1 : Int))).tmod (↑(roundM c (instF c d).sup.length) : Int), low := (0 : Int), cap := (4611686018427387904 : Int), cost := (0 : Int) : Arc }] =
 (instF c d).arcs ++ roundAs c d (roundM c (instF c d).sup.length) g' ∧
 (True ∧ True ∧ True) ∧ nilEq Int ∧ nilEq Arc ∧ c = c ∧ d = d ∧ True)
abbrev Round_a5 (c : List Int) (d : List Int) := (↑(roundM c (instF c d).sup.length) : Int)
abbrev Round_a6 (c : List Int) (d : List Int) (g : Nat) := ((instF c d).arcs ++ roundAs c d (roundM c (instF c d).sup.length) g)
abbrev Round_a7 (g : Nat) (c : List Int) (d : List Int) := (decide ((↑g : Int) < (Round_a5 c d)) = false →
 (((True ∧ True ∧ True) ∧ True ∧ True) ∧ True) ∧
 (instF c d).sup = (roundI c d).sup ∧
 (instF c d).arcs ++ roundAs c d (roundM c (instF c d).sup.length) g = (roundI c d).arcs ∧ roundLs (instF c d).arcs.length g = roundL c d ∧ True)
abbrev Round_a8 (c : List Int) := ((0 : Int) ≤ (1 : Int) ∧ (1 : Int) < (↑c.length : Int))
def Round_E0 (c : List Int) (d : List Int) (ty0 ty1 : TypeId) : Prop :=
      (Bytes c ∧ Bytes d ∧ c.length ≤ maxLen ∧ d.length ≤ maxLen) ∧
 (decide ((↑c.length : Int) > (0 : Int)) = true →
 ((0 : Int) ≤ (0 : Int) ∧ (0 : Int) < (↑c.length : Int)) ∧
 Int.toNat (0 : Int) < c.length ∧
 ∀ (x : Int),
 c[Int.toNat (0 : Int)]? = some x →
 (↑(instF c d).sup.length : Int) ≠ (0 : Int) ∧
 ∃ (g0 : Nat),
 (g0 ≤ roundM c (instF c d).sup.length ∧
 (True ∧
 True ∧
 (0 : Nat) = (0 : Nat) ∧
 (0 : Nat) = (0 : Nat) ∧
 IntKind.i64.wrap ((1 : Int) + (IntKind.i64.wrap x).tmod (↑(instF c d).sup.length : Int)) = (Round_a5 c d) ∧
 True ∧ (0 : Int) = (↑g0 : Int) ∧ True) ∧
 [] = roundLs (instF c d).arcs.length g0 ∧
 (True ∧ True ∧ True) ∧
 (instF c d).sup = (instF c d).sup ∧
 (instF c d).arcs = (instF c d).arcs ++ roundAs c d (roundM c (instF c d).sup.length) g0 ∧
 (True ∧ True ∧ True) ∧ nilEq Int ∧ nilEq Arc ∧ c = c ∧ d = d ∧ True) ∧
 ∀ (g : Nat),
 g ≤ roundM c (instF c d).sup.length →
 (decide ((↑g : Int) < (Round_a5 c d)) = true →
 (decide ((↑g : Int) < (↑d.length : Int)) = true →
 ((0 : Int) ≤ (↑g : Int) ∧ (↑g : Int) < (↑d.length : Int)) ∧
 (↑g : Int).toNat < d.length ∧
 ∀ (x : Int),
 d[(↑g : Int).toNat]? = some x →
 (9 : Int) ≠ (0 : Int) ∧
 (Round_a5 c d) ≠ (0 : Int) ∧
 (decide ((↑c.length : Int) > (1 : Int)) = true →
 (Round_a8 c) ∧
 Int.toNat (1 : Int) < c.length ∧
 ∀ (x_1 : Int),
 c[Int.toNat (1 : Int)]? = some x_1 →
 (8 : Int) ≠ (0 : Int) ∧
 (Round_a1 x_1 g c d x) ∧
 (Round_a3 x_1 c d g x)) ∧
 (decide ((↑c.length : Int) > (1 : Int)) = false →
 (roundLs (instF c d).arcs.length g).length + (1 : Nat) ≤ (1000000000 : Nat) ∧
 (Round_a6 c d g).length + (1 : Nat) ≤ (1000000000 : Nat) ∧
 ∃ (g' : Nat),
 g' ≤ roundM c (instF c d).sup.length ∧
 roundM c (instF c d).sup.length - g' < roundM c (instF c d).sup.length - g ∧
 (Round_a0 c d g g') ∧
 roundLs (instF c d).arcs.length g ++
 [(↑(Round_a6 c d g).length : Int)] =
 roundLs (instF c d).arcs.length g' ∧
 (True ∧ True ∧ True) ∧
 (instF c d).sup = (instF c d).sup ∧
 (instF c d).arcs ++ roundAs c d (roundM c (instF c d).sup.length) g ++
 [{ src := (↑g : Int), dst := (IntKind.i64.wrap ((↑g : Int) + (1 : Int))).tmod (Round_a5 c d), low := (0 : Int), cap := (4611686018427387904 : Int), cost := IntKind.i64.wrap (IntKind.i64.wrap (x.tmod (9 : Int)) - (6 : Int)) : Arc }] =
 (instF c d).arcs ++ roundAs c d (roundM c (instF c d).sup.length) g' ∧
 (True ∧ True ∧ True) ∧ nilEq Int ∧ nilEq Arc ∧ c = c ∧ d = d ∧ True)) ∧
 (decide ((↑g : Int) < (↑d.length : Int)) = false →
 (Round_a5 c d) ≠ (0 : Int) ∧
 (decide ((↑c.length : Int) > (1 : Int)) = true →
 (Round_a8 c) ∧
 Int.toNat (1 : Int) < c.length ∧
 ∀ (x : Int),
 c[Int.toNat (1 : Int)]? = some x →
 (8 : Int) ≠ (0 : Int) ∧
 (Round_a2 x g c d) ∧
 ((x.tmod (8 : Int) == (0 : Int)) = false →
 (roundLs (instF c d).arcs.length g).length + (1 : Nat) ≤ (1000000000 : Nat) ∧
 (Round_a6 c d g).length + (1 : Nat) ≤ (1000000000 : Nat) ∧
 ∃ (g' : Nat),
 g' ≤ roundM c (instF c d).sup.length ∧
 roundM c (instF c d).sup.length - g' < roundM c (instF c d).sup.length - g ∧
 (Round_a0 c d g g') ∧
 roundLs (instF c d).arcs.length g ++
 [(↑(Round_a6 c d g).length : Int)] =
 roundLs (instF c d).arcs.length g' ∧
 (True ∧ True ∧ True) ∧
 (instF c d).sup = (instF c d).sup ∧
 (instF c d).arcs ++ roundAs c d (roundM c (instF c d).sup.length) g ++
 [{ src := (↑g : Int), dst := (IntKind.i64.wrap ((↑g : Int) + (1 : Int))).tmod (Round_a5 c d), low := (0 : Int), cap := (4611686018427387904 : Int), cost := (0 : Int) : Arc }] =
 (instF c d).arcs ++ roundAs c d (roundM c (instF c d).sup.length) g' ∧
 (True ∧ True ∧ True) ∧ nilEq Int ∧ nilEq Arc ∧ c = c ∧ d = d ∧ True)) ∧
 (Round_a4 c d g))) ∧
 (Round_a7 g c d)) ∧
 (decide ((↑c.length : Int) > (0 : Int)) = false →
 ∃ (g0 : Nat),
 (g0 ≤ roundM c (instF c d).sup.length ∧
 (True ∧ True ∧ (0 : Nat) = (0 : Nat) ∧ (0 : Nat) = (0 : Nat) ∧ (1 : Int) = (Round_a5 c d) ∧ True ∧ (0 : Int) = (↑g0 : Int) ∧ True) ∧
 [] = roundLs (instF c d).arcs.length g0 ∧
 (True ∧ True ∧ True) ∧
 (instF c d).sup = (instF c d).sup ∧
 (instF c d).arcs = (instF c d).arcs ++ roundAs c d (roundM c (instF c d).sup.length) g0 ∧ (True ∧ True ∧ True) ∧ nilEq Int ∧ nilEq Arc ∧ c = c ∧ d = d ∧ True) ∧
 ∀ (g : Nat),
 g ≤ roundM c (instF c d).sup.length →
 (decide ((↑g : Int) < (Round_a5 c d)) = true →
 (decide ((↑g : Int) < (↑d.length : Int)) = true →
 ((0 : Int) ≤ (↑g : Int) ∧ (↑g : Int) < (↑d.length : Int)) ∧
 (↑g : Int).toNat < d.length ∧
 ∀ (x : Int),
 d[(↑g : Int).toNat]? = some x →
 (9 : Int) ≠ (0 : Int) ∧
 (Round_a5 c d) ≠ (0 : Int) ∧
 (decide ((↑c.length : Int) > (1 : Int)) = true →
 (Round_a8 c) ∧
 Int.toNat (1 : Int) < c.length ∧
 ∀ (x_1 : Int),
 c[Int.toNat (1 : Int)]? = some x_1 →
 (8 : Int) ≠ (0 : Int) ∧
 (Round_a1 x_1 g c d x) ∧
 (Round_a3 x_1 c d g x)) ∧
 (decide ((↑c.length : Int) > (1 : Int)) = false →
 (roundLs (instF c d).arcs.length g).length + (1 : Nat) ≤ (1000000000 : Nat) ∧
 (Round_a6 c d g).length + (1 : Nat) ≤ (1000000000 : Nat) ∧
 ∃ (g' : Nat),
 g' ≤ roundM c (instF c d).sup.length ∧
 roundM c (instF c d).sup.length - g' < roundM c (instF c d).sup.length - g ∧
 (Round_a0 c d g g') ∧
 roundLs (instF c d).arcs.length g ++ [(↑(Round_a6 c d g).length : Int)] =
 roundLs (instF c d).arcs.length g' ∧
 (True ∧ True ∧ True) ∧
 (instF c d).sup = (instF c d).sup ∧
 (instF c d).arcs ++ roundAs c d (roundM c (instF c d).sup.length) g ++
 [{ src := (↑g : Int), dst := (IntKind.i64.wrap ((↑g : Int) + (1 : Int))).tmod (Round_a5 c d), low := (0 : Int), cap := (4611686018427387904 : Int), cost := IntKind.i64.wrap (IntKind.i64.wrap (x.tmod (9 : Int)) - (6 : Int)) : Arc }] =
 (instF c d).arcs ++ roundAs c d (roundM c (instF c d).sup.length) g' ∧
 (True ∧ True ∧ True) ∧ nilEq Int ∧ nilEq Arc ∧ c = c ∧ d = d ∧ True)) ∧
 (decide ((↑g : Int) < (↑d.length : Int)) = false →
 (Round_a5 c d) ≠ (0 : Int) ∧
 (decide ((↑c.length : Int) > (1 : Int)) = true →
 (Round_a8 c) ∧
 Int.toNat (1 : Int) < c.length ∧
 ∀ (x : Int),
 c[Int.toNat (1 : Int)]? = some x →
 (8 : Int) ≠ (0 : Int) ∧
 (Round_a2 x g c d) ∧
 ((x.tmod (8 : Int) == (0 : Int)) = false →
 (roundLs (instF c d).arcs.length g).length + (1 : Nat) ≤ (1000000000 : Nat) ∧
 (Round_a6 c d g).length + (1 : Nat) ≤ (1000000000 : Nat) ∧
 ∃ (g' : Nat),
 g' ≤ roundM c (instF c d).sup.length ∧
 roundM c (instF c d).sup.length - g' < roundM c (instF c d).sup.length - g ∧
 (Round_a0 c d g g') ∧
 roundLs (instF c d).arcs.length g ++ [(↑(Round_a6 c d g).length : Int)] =
 roundLs (instF c d).arcs.length g' ∧
 (True ∧ True ∧ True) ∧
 (instF c d).sup = (instF c d).sup ∧
 (instF c d).arcs ++ roundAs c d (roundM c (instF c d).sup.length) g ++
 [{ src := (↑g : Int), dst := (IntKind.i64.wrap ((↑g : Int) + (1 : Int))).tmod (Round_a5 c d), low := (0 : Int), cap := (4611686018427387904 : Int), cost := (0 : Int) : Arc }] =
 (instF c d).arcs ++ roundAs c d (roundM c (instF c d).sup.length) g' ∧
 (True ∧ True ∧ True) ∧ nilEq Int ∧ nilEq Arc ∧ c = c ∧ d = d ∧ True)) ∧
 (Round_a4 c d g))) ∧
 (Round_a7 g c d))
theorem Round_q (c : List Int) (d : List Int) (ty0 ty1 : TypeId) : Round_E0 c d ty0 ty1 = FVcP TT Round_g (Round_I c d) (Round_an c d) Tryz.f9 [.row 0, .row 1] [(0, .row false ty0 (.ints .u8 c)), (1, .row false ty1 (.ints .u8 d))] (Round_r c d) := by kernel_rfl
theorem Round_E (c : List Int) (d : List Int) (ty0 ty1 : TypeId) (hp : Bytes c ∧ Bytes d ∧ c.length ≤ maxLen ∧ d.length ≤ maxLen) : FVc TT Round_g (Round_I c d) (Round_an c d) Tryz.f9 [.row 0, .row 1] [(0, .row false ty0 (.ints .u8 c)), (1, .row false ty1 (.ints .u8 d))] (Round_r c d) := by
  refine FVc.of (Round_E0 c d ty0 ty1) (Round_q c d ty0 ty1) ?_
  unfold Round_E0
  delta Round_a8 Round_a7 Round_a6 Round_a5 Round_a4 Round_a3 Round_a2 Round_a1 Round_a0
  obtain ⟨p1, p2, p3, p4⟩ := hp
  have l1 := instF_sup c d
  have l2 := nOf_pos d
  have l3 := nOf_le d
  have l4 := instF_arcs c d
  have hM1 := roundM_pos c (instF c d).sup.length
  have hM2 := roundM_le c (show 0 < (instF c d).sup.length by omega)
  have e0 : c.length = 0 → roundM c (instF c d).sup.length = 1 := fun h => by unfold roundM; rw [if_pos h]
  have e1 : ∀ x, c[(0 : Int).toNat]? = some x → IntKind.i64.wrap (1 + (IntKind.i64.wrap x).tmod ((instF c d).sup.length : Int)) = (roundM c (instF c d).sup.length : Int) := fun x hx => by
    have hx' : c[0]? = some x := by simpa using hx
    have hb := p1 x (List.mem_of_getElem? hx')
    have hc : ¬ c.length = 0 := fun h => by rw [List.getElem?_eq_none (by omega)] at hx'; cases hx'
    have hd : c.getD 0 0 = x := by simp [List.getD, hx']
    have m0 := Int.emod_nonneg x (b := ((instF c d).sup.length : Int)) (by omega)
    have m1 := Int.emod_lt_of_pos x (show (0 : Int) < (instF c d).sup.length by omega)
    unfold roundM
    rw [if_neg hc, hd, w64 (x := x) (by omega) (by omega), tmod_pos (by omega), w64 (by omega) (by omega)]
    have : ((x.toNat % (instF c d).sup.length : Nat) : Int) = x % ((instF c d).sup.length : Int) := by rw [Int.natCast_emod, Int.toNat_of_nonneg hb.1]
    omega
  have wk : ∀ g : Nat, g < roundM c (instF c d).sup.length → IntKind.i64.wrap ((g : Int) + 1) = ((g + 1 : Nat) : Int) := fun g hg => by rw [w64 (by omega) (by omega)]; omega
  have e2 : roundL c d = roundLs (instF c d).arcs.length (roundM c (instF c d).sup.length) := rfl
  have e3 : (roundI c d).arcs = (instF c d).arcs ++ roundAs c d (roundM c (instF c d).sup.length) (roundM c (instF c d).sup.length) := rfl
  have e4 : (roundI c d).sup = (instF c d).sup := rfl
  generalize hM : roundM c (instF c d).sup.length = M at *
  simp only [eq_self, exists_const, forall_const, decide_eq_true_eq, decide_eq_false_iff_not, and_true, true_and, bne_iff_ne, ne_eq, bne_eq_false_iff_eq, Int.toNat_natCast, Bool.not_eq_true', Bool.not_eq_false', beq_iff_eq, beq_eq_false_iff_ne, nilEq_true]
  have step : ∀ (g : Nat) (cap cost : Int), g < M → cap = roundP c g → cost = roundC d g → (roundLs (instF c d).arcs.length g).length + 1 ≤ 1000000000 ∧ ((instF c d).arcs ++ roundAs c d M g).length + 1 ≤ 1000000000 ∧ ∃ g' : Nat, g' ≤ M ∧ M - g' < M - g ∧ IntKind.i64.wrap ((g : Int) + 1) = (g' : Int) ∧ roundLs (instF c d).arcs.length g ++ [(((instF c d).arcs ++ roundAs c d M g).length : Int)] = roundLs (instF c d).arcs.length g' ∧ (instF c d).arcs ++ roundAs c d M g ++ [(⟨(g : Int), (IntKind.i64.wrap ((g : Int) + 1)).tmod (M : Int), 0, cap, cost⟩ : Arc)] = (instF c d).arcs ++ roundAs c d M g' := fun g cap cost hg h1 h2 => by
    rw [List.length_append, roundAs_len, roundLs_len]
    refine ⟨by omega, by omega, g + 1, by omega, by omega, wk g hg, (roundLs_snoc _ _).symm, ?_⟩
    rw [roundAs_snoc, List.append_assoc, wk g hg, h1, h2, tmod_pos (by omega)]
    unfold roundA
    rw [Int.natCast_emod]
  have hP5 : ∀ (g : Nat) (y : Int), c[(1 : Int).toNat]? = some y → y.tmod 8 = 0 → (g : Int) = 0 → (5 : Int) = roundP c g := fun g y hy h1 h2 => by
    have hy' : c[1]? = some y := by simpa using hy
    have hb := p1 y (List.mem_of_getElem? hy')
    have hd : c.getD 1 0 = y := by simp [List.getD, hy']
    have hc : 1 < c.length := by
      rcases Nat.lt_or_ge 1 c.length with h | h
      · exact h
      · rw [List.getElem?_eq_none h] at hy'; cases hy'
    rw [tmod_pos hb.1] at h1
    unfold roundP
    rw [hd, if_pos ⟨hc, h1, by omega⟩]
  have hP6 : ∀ (g : Nat) (y : Int), c[(1 : Int).toNat]? = some y → ¬ (y.tmod 8 = 0 ∧ (g : Int) = 0) → (4611686018427387904 : Int) = roundP c g := fun g y hy h1 => by
    have hy' : c[1]? = some y := by simpa using hy
    have hb := p1 y (List.mem_of_getElem? hy')
    have hd : c.getD 1 0 = y := by simp [List.getD, hy']
    rw [tmod_pos hb.1] at h1
    unfold roundP
    rw [hd, if_neg (fun h => h1 ⟨h.2.1, by omega⟩)]
    rfl
  have hP7 : ∀ g : Nat, ¬ (c.length : Int) > 1 → (4611686018427387904 : Int) = roundP c g := fun g h1 => by
    unfold roundP
    rw [if_neg (fun h => h1 (by omega))]
    rfl
  have hC1 : ∀ (g : Nat) (x : Int), d[g]? = some x → IntKind.i64.wrap (IntKind.i64.wrap (x.tmod 9) - 6) = roundC d g := fun g x hx => by
    have hb := p2 x (List.mem_of_getElem? hx)
    have hd : d.getD g 0 = x := by simp [List.getD, hx]
    have hl : g < d.length := by
      rcases Nat.lt_or_ge g d.length with h | h
      · exact h
      · rw [List.getElem?_eq_none h] at hx; cases hx
    unfold roundC
    rw [if_pos hl, hd, tmod_pos hb.1, w64 (x := x % 9) (by omega) (by omega), w64 (by omega) (by omega)]
  have hC2 : ∀ g : Nat, ¬ (g : Int) < (d.length : Int) → (0 : Int) = roundC d g := fun g h => by
    unfold roundC
    rw [if_neg (by omega)]
  refine ⟨⟨p1, p2, p3, p4⟩, fun h => ⟨by omega, by omega, fun x hx => ⟨by omega, 0, ⟨by omega, ⟨e1 x hx, rfl⟩, rfl, by simp [roundAs]⟩, ?_⟩⟩, fun h => ⟨0, ⟨by omega, ⟨by have := e0 (by omega); omega, rfl⟩, rfl, by simp [roundAs]⟩, ?_⟩⟩
  all_goals
    intro g hg
    refine ⟨fun h1 => ⟨fun h2 => ⟨by omega, by omega, fun x hx => ⟨by decide, by omega, fun h3 => ⟨by omega, by omega, fun y hy => ⟨by decide, fun h4 => ⟨fun h5 => step g _ _ (by omega) (hP5 g y hy h4 h5) (hC1 g x hx), fun h5 => step g _ _ (by omega) (hP6 g y hy (fun h => h5 h.2)) (hC1 g x hx)⟩, fun h4 => step g _ _ (by omega) (hP6 g y hy (fun h => h4 h.1)) (hC1 g x hx)⟩⟩, fun h3 => step g _ _ (by omega) (hP7 g h3) (hC1 g x hx)⟩⟩,
      fun h2 => ⟨by omega, fun h3 => ⟨by omega, by omega, fun y hy => ⟨by decide, fun h4 => ⟨fun h5 => step g _ _ (by omega) (hP5 g y hy h4 h5) (hC2 g h2), fun h5 => step g _ _ (by omega) (hP6 g y hy (fun h => h5 h.2)) (hC2 g h2)⟩, fun h4 => step g _ _ (by omega) (hP6 g y hy (fun h => h4 h.1)) (hC2 g h2)⟩⟩, fun h3 => step g _ _ (by omega) (hP7 g h3) (hC2 g h2)⟩⟩, fun h1 => ?_⟩
    have : g = M := by omega
    subst this
    simp [e2, e3, e4]
theorem Round_ok : SpecOk Tryz.prog Round_n true (specOf true Round_fs) :=
  spec_ok' TT_ok (show GsOk Tryz.prog Round_g from gsOk_cons Inst_ok (gsOk_nil)) (by kernel_rfl) mixedOrders Tryz.func9 rfl rfl (by kernel_rfl) (n := 2) (by decide +kernel) (I := Round_IA) (fun _ _ => isOk_nil) (A := Round_A)
    (fun args h r hr => by
      unfold Round_fs at hr
      split at hr
      · rename_i ty0 c ty1 d; cases hr; refine ⟨rfl, fun hp => ?_⟩; have hE := Round_E c d ty0 ty1 hp; exact hE
      · cases hr)
end Go.Proofs.YtahbkllfifmdfaaGreat
