/-
  CONTRACTS, PROVED: known12, Round.
-/
import Derived.Test.YtnjcklhgdpgllaaFR12
import Derived.Test.YtnjcklhgdpgllaaDS12
import Derived.Test.YtnjcklhgdpgllaaVc11
set_option linter.unusedVariables false
set_option linter.all false
set_option linter.unusedSimpArgs false
set_option maxRecDepth 100000
namespace Go.Proofs.Ytnjcklhgdpgllaa
open Go Go.RowKit Go.Ql Go.Vc

def known12_E0 : Prop :=
      ((2 : Int) = (2 : Int) ∧ (0 : Int) ≤ (2 : Int) ∧ (2 : Int) ≤ (1000000000 : Int)) ∧
 ((2 : Nat) ≤ (140737488351232 : Nat) ∧
 A64c
 [{ src := (0 : Int), dst := (1 : Int), low := (0 : Int), cap := (4611686018427387904 : Int), cost := (-3 : Int) : Arc },
 { src := (1 : Int), dst := (0 : Int), low := (0 : Int), cap := (4611686018427387904 : Int), cost := (2 : Int) : Arc }]) ∧
 ((turnsF
 { sup := List.replicate (Int.toNat (2 : Int)) (0 : Int), arcs := [{ src := (0 : Int), dst := (1 : Int), low := (0 : Int), cap := (4611686018427387904 : Int), cost := (-3 : Int) : Arc }, { src := (1 : Int), dst := (0 : Int), low := (0 : Int), cap := (4611686018427387904 : Int), cost := (2 : Int) : Arc }] : Inst }
 [(0 : Int), (1 : Int)] ==
 (0 : Int)) =
 true →
 ((2 : Nat) ≤ (140737488351232 : Nat) ∧
 A64c
 [{ src := (0 : Int), dst := (1 : Int), low := (0 : Int), cap := (4611686018427387904 : Int), cost := (-3 : Int) : Arc },
 { src := (1 : Int), dst := (0 : Int), low := (0 : Int), cap := (4611686018427387904 : Int), cost := (2 : Int) : Arc }]) ∧
 ((turnsF
 { sup := List.replicate (Int.toNat (2 : Int)) (0 : Int), arcs := [{ src := (0 : Int), dst := (1 : Int), low := (0 : Int), cap := (4611686018427387904 : Int), cost := (-3 : Int) : Arc }, { src := (1 : Int), dst := (0 : Int), low := (0 : Int), cap := (4611686018427387904 : Int), cost := (2 : Int) : Arc }] : Inst }
 [(1 : Int), (0 : Int)] ==
 (0 : Int)) =
 true →
 ((1 : Nat) ≤ (140737488351232 : Nat) ∧
 A64c
 [{ src := (0 : Int), dst := (1 : Int), low := (0 : Int), cap := (4611686018427387904 : Int), cost := (-3 : Int) : Arc },
 { src := (1 : Int), dst := (0 : Int), low := (0 : Int), cap := (4611686018427387904 : Int), cost := (2 : Int) : Arc }]) ∧
 ((turnsF
 { sup := List.replicate (Int.toNat (2 : Int)) (0 : Int), arcs := [{ src := (0 : Int), dst := (1 : Int), low := (0 : Int), cap := (4611686018427387904 : Int), cost := (-3 : Int) : Arc }, { src := (1 : Int), dst := (0 : Int), low := (0 : Int), cap := (4611686018427387904 : Int), cost := (2 : Int) : Arc }] : Inst }
 [(0 : Int)] ==
 (35 : Int)) =
 true →
 ((0 : Nat) ≤ (140737488351232 : Nat) ∧
 A64c
 [{ src := (0 : Int), dst := (1 : Int), low := (0 : Int), cap := (4611686018427387904 : Int), cost := (-3 : Int) : Arc },
 { src := (1 : Int), dst := (0 : Int), low := (0 : Int), cap := (4611686018427387904 : Int), cost := (2 : Int) : Arc }]) ∧
 ((turnsF
 { sup := List.replicate (Int.toNat (2 : Int)) (0 : Int), arcs := [{ src := (0 : Int), dst := (1 : Int), low := (0 : Int), cap := (4611686018427387904 : Int), cost := (-3 : Int) : Arc }, { src := (1 : Int), dst := (0 : Int), low := (0 : Int), cap := (4611686018427387904 : Int), cost := (2 : Int) : Arc }] : Inst }
 [] ==
 (30 : Int)) =
 true →
 (A64c
 [{ src := (0 : Int), dst := (1 : Int), low := (0 : Int), cap := (4611686018427387904 : Int), cost := (-3 : Int) : Arc },
 { src := (1 : Int), dst := (0 : Int), low := (0 : Int), cap := (4611686018427387904 : Int), cost := (2 : Int) : Arc }] ∧
 (2 : Nat) ≤ (140737488351232 : Nat)) ∧
 I64 (-1 : Int) ∧
 (decide
 ([(W
 (rayS
 { sup := List.replicate (Int.toNat (2 : Int)) (0 : Int), arcs := [{ src := (0 : Int), dst := (1 : Int), low := (0 : Int), cap := (4611686018427387904 : Int), cost := (-3 : Int) : Arc }, { src := (1 : Int), dst := (0 : Int), low := (0 : Int), cap := (4611686018427387904 : Int), cost := (2 : Int) : Arc }] : Inst }
 [(0 : Int), (1 : Int)])).hi,
 (W
 (rayS
 { sup := List.replicate (Int.toNat (2 : Int)) (0 : Int), arcs := [{ src := (0 : Int), dst := (1 : Int), low := (0 : Int), cap := (4611686018427387904 : Int), cost := (-3 : Int) : Arc }, { src := (1 : Int), dst := (0 : Int), low := (0 : Int), cap := (4611686018427387904 : Int), cost := (2 : Int) : Arc }] : Inst }
 [(0 : Int), (1 : Int)])).lo] =
 [(W (-1 : Int)).hi, (W (-1 : Int)).lo]) =
 true ∧
 True) ∧
 True) ∧
 ((turnsF
 { sup := List.replicate (Int.toNat (2 : Int)) (0 : Int), arcs := [{ src := (0 : Int), dst := (1 : Int), low := (0 : Int), cap := (4611686018427387904 : Int), cost := (-3 : Int) : Arc }, { src := (1 : Int), dst := (0 : Int), low := (0 : Int), cap := (4611686018427387904 : Int), cost := (2 : Int) : Arc }] : Inst }
 [] ==
 (30 : Int)) =
 false →
 (false = true ∧ True) ∧ True)) ∧
 ((turnsF
 { sup := List.replicate (Int.toNat (2 : Int)) (0 : Int), arcs := [{ src := (0 : Int), dst := (1 : Int), low := (0 : Int), cap := (4611686018427387904 : Int), cost := (-3 : Int) : Arc }, { src := (1 : Int), dst := (0 : Int), low := (0 : Int), cap := (4611686018427387904 : Int), cost := (2 : Int) : Arc }] : Inst }
 [(0 : Int)] ==
 (35 : Int)) =
 false →
 (false = true ∧ True) ∧ True)) ∧
 ((turnsF
 { sup := List.replicate (Int.toNat (2 : Int)) (0 : Int), arcs := [{ src := (0 : Int), dst := (1 : Int), low := (0 : Int), cap := (4611686018427387904 : Int), cost := (-3 : Int) : Arc }, { src := (1 : Int), dst := (0 : Int), low := (0 : Int), cap := (4611686018427387904 : Int), cost := (2 : Int) : Arc }] : Inst }
 [(1 : Int), (0 : Int)] ==
 (0 : Int)) =
 false →
 (false = true ∧ True) ∧ True)) ∧
 ((turnsF
 { sup := List.replicate (Int.toNat (2 : Int)) (0 : Int), arcs := [{ src := (0 : Int), dst := (1 : Int), low := (0 : Int), cap := (4611686018427387904 : Int), cost := (-3 : Int) : Arc }, { src := (1 : Int), dst := (0 : Int), low := (0 : Int), cap := (4611686018427387904 : Int), cost := (2 : Int) : Arc }] : Inst }
 [(0 : Int), (1 : Int)] ==
 (0 : Int)) =
 false →
 (false = true ∧ True) ∧ True)
theorem known12_q : known12_E0 = FVcP TT known12_g (known12_I) (known12_an) Try.f37 [] [] (known12_r) := by kernel_rfl
theorem known12_E (hp : True) : FVc TT known12_g (known12_I) (known12_an) Try.f37 [] [] (known12_r) := by
  refine FVc.of (known12_E0) (known12_q) ?_
  unfold known12_E0
  have k1 : turnsF ⟨[0, 0], [⟨0, 1, 0, inf, -3⟩, ⟨1, 0, 0, inf, 2⟩]⟩ [0, 1] = 0 := by decide
  have k2 : turnsF ⟨[0, 0], [⟨0, 1, 0, inf, -3⟩, ⟨1, 0, 0, inf, 2⟩]⟩ [1, 0] = 0 := by decide
  have k3 : turnsF ⟨[0, 0], [⟨0, 1, 0, inf, -3⟩, ⟨1, 0, 0, inf, 2⟩]⟩ [0] = 35 := by decide
  have k4 : turnsF ⟨[0, 0], [⟨0, 1, 0, inf, -3⟩, ⟨1, 0, 0, inf, 2⟩]⟩ [] = 30 := by decide
  have k5 : rayS ⟨[0, 0], [⟨0, 1, 0, inf, -3⟩, ⟨1, 0, 0, inf, 2⟩]⟩ [0, 1] = -1 := by decide
  have a1 : A64c [⟨0, 1, 0, inf, -3⟩, ⟨1, 0, 0, inf, 2⟩] := by simp [A64c, I64]
  have i1 : I64 (-1) := by simp [I64]
  unfold inf at *
  simp [k1, k2, k3, k4, k5, a1, i1]

theorem known12_ok : SpecOk Try.prog known12_n true (specOf true known12_fs) :=
  spec_ok' TT_ok (show GsOk Try.prog known12_g from gsOk_cons Turns_ok (gsOk_cons Sum12_ok (gsOk_cons Of_ok (gsOk_nil)))) (by kernel_rfl) mixedOrders Try.func37 rfl rfl (by kernel_rfl) (n := 0) (by decide +kernel) (I := known12_IA) (fun _ _ => isOk_nil) (A := known12_A)
    (fun args h r hr => by
      unfold known12_fs at hr
      split at hr
      · cases hr; refine ⟨rfl, fun hp => ?_⟩; have hE := known12_E  hp; exact hE
      · cases hr)

def Round_E0 (c : List Int) (d : List Int) (ty0 ty1 : TypeId) : Prop :=
      (Bytes c ∧ Bytes d ∧ c.length ≤ maxLen ∧ d.length ≤ maxLen) ∧
 (decide ((↑c.length : Int) > (0 : Int)) = true →
 ((0 : Int) ≤ (0 : Int) ∧ (0 : Int) < (↑c.length : Int)) ∧
 Int.toNat (0 : Int) < c.length ∧
 ∀ (x : Int),
 c[Int.toNat (0 : Int)]? = some x →
 (↑(instF c d).sup.length : Int) ≠ (0 : Int) ∧
 ∃ (g0 : Nat),
 (g0 ≤ roundM c (instF c d).sup.length ∧
 (True ∧
 True ∧
 (0 : Nat) = (0 : Nat) ∧
 (0 : Nat) = (0 : Nat) ∧
 IntKind.i64.wrap ((1 : Int) + (IntKind.i64.wrap x).tmod (↑(instF c d).sup.length : Int)) = (↑(roundM c (instF c d).sup.length) : Int) ∧
 True ∧ (0 : Int) = (↑g0 : Int) ∧ True) ∧
 [] = roundLs (instF c d).arcs.length g0 ∧
 (True ∧ True ∧ True) ∧
 (instF c d).sup = (instF c d).sup ∧
 (instF c d).arcs = (instF c d).arcs ++ roundAs c d (roundM c (instF c d).sup.length) g0 ∧
 (True ∧ True ∧ True) ∧ nilEq Int ∧ nilEq Arc ∧ c = c ∧ d = d ∧ True) ∧
 ∀ (g : Nat),
 g ≤ roundM c (instF c d).sup.length →
 (decide ((↑g : Int) < (↑(roundM c (instF c d).sup.length) : Int)) = true →
 (decide ((↑g : Int) < (↑d.length : Int)) = true →
 ((0 : Int) ≤ (↑g : Int) ∧ (↑g : Int) < (↑d.length : Int)) ∧
 (↑g : Int).toNat < d.length ∧
 ∀ (x : Int),
 d[(↑g : Int).toNat]? = some x →
 (9 : Int) ≠ (0 : Int) ∧
 (↑(roundM c (instF c d).sup.length) : Int) ≠ (0 : Int) ∧
 (decide ((↑c.length : Int) > (1 : Int)) = true →
 ((0 : Int) ≤ (1 : Int) ∧ (1 : Int) < (↑c.length : Int)) ∧
 Int.toNat (1 : Int) < c.length ∧
 ∀ (x_1 : Int),
 c[Int.toNat (1 : Int)]? = some x_1 →
 (8 : Int) ≠ (0 : Int) ∧
 ((x_1.tmod (8 : Int) == (0 : Int)) = true →
 (((↑g : Int) == (0 : Int)) = true →
 (roundLs (instF c d).arcs.length g).length + (1 : Nat) ≤ (1000000000 : Nat) ∧
 ((instF c d).arcs ++ roundAs c d (roundM c (instF c d).sup.length) g).length + (1 : Nat) ≤ (1000000000 : Nat) ∧
 ∃ (g' : Nat),
 g' ≤ roundM c (instF c d).sup.length ∧
 roundM c (instF c d).sup.length - g' < roundM c (instF c d).sup.length - g ∧
 (True ∧
 True ∧
 (0 : Nat) = (0 : Nat) ∧
 (0 : Nat) = (0 : Nat) ∧
 (↑(roundM c (instF c d).sup.length) : Int) = (↑(roundM c (instF c d).sup.length) : Int) ∧
 True ∧ IntKind.i64.wrap ((↑g : Int) + (1 : Int)) = (↑g' : Int) ∧ True) ∧
 roundLs (instF c d).arcs.length g ++
 [(↑((instF c d).arcs ++ roundAs c d (roundM c (instF c d).sup.length) g).length : Int)] =
 roundLs (instF c d).arcs.length g' ∧
 (True ∧ True ∧ True) ∧
 (instF c d).sup = (instF c d).sup ∧
 (instF c d).arcs ++ roundAs c d (roundM c (instF c d).sup.length) g ++
 [{ src := (↑g : Int), dst := (IntKind.i64.wrap ((↑g : Int) + (1 : Int))).tmod (↑(roundM c (instF c d).sup.length) : Int), low := (0 : Int), cap := (5 : Int), cost := IntKind.i64.wrap (IntKind.i64.wrap (x.tmod (9 : Int)) - (6 : Int)) : Arc }] =
 (instF c d).arcs ++ roundAs c d (roundM c (instF c d).sup.length) g' ∧
 (True ∧ True ∧ True) ∧ nilEq Int ∧ nilEq Arc ∧ c = c ∧ d = d ∧ True) ∧
 (((↑g : Int) == (0 : Int)) = false →
 (roundLs (instF c d).arcs.length g).length + (1 : Nat) ≤ (1000000000 : Nat) ∧
 ((instF c d).arcs ++ roundAs c d (roundM c (instF c d).sup.length) g).length + (1 : Nat) ≤ (1000000000 : Nat) ∧
 ∃ (g' : Nat),
 g' ≤ roundM c (instF c d).sup.length ∧
 roundM c (instF c d).sup.length - g' < roundM c (instF c d).sup.length - g ∧
 (True ∧
 True ∧
 (0 : Nat) = (0 : Nat) ∧
 (0 : Nat) = (0 : Nat) ∧
 (↑(roundM c (instF c d).sup.length) : Int) = (↑(roundM c (instF c d).sup.length) : Int) ∧
 True ∧ IntKind.i64.wrap ((↑g : Int) + (1 : Int)) = (↑g' : Int) ∧ True) ∧
 roundLs (instF c d).arcs.length g ++
 [(↑((instF c d).arcs ++ roundAs c d (roundM c (instF c d).sup.length) g).length : Int)] =
 roundLs (instF c d).arcs.length g' ∧
 (True ∧ True ∧ True) ∧
 (instF c d).sup = (instF c d).sup ∧
 (instF c d).arcs ++ roundAs c d (roundM c (instF c d).sup.length) g ++
 [{ src := (↑g : Int), dst := (IntKind.i64.wrap ((↑g : Int) + (1 : Int))).tmod (↑(roundM c (instF c d).sup.length) : Int), low := (0 : Int), cap := (4611686018427387904 : Int), cost := IntKind.i64.wrap (IntKind.i64.wrap (x.tmod (9 : Int)) - (6 : Int)) : Arc }] =
 (instF c d).arcs ++ roundAs c d (roundM c (instF c d).sup.length) g' ∧
 (True ∧ True ∧ True) ∧ nilEq Int ∧ nilEq Arc ∧ c = c ∧ d = d ∧ True)) ∧
 ((x_1.tmod (8 : Int) == (0 : Int)) = false →
 (roundLs (instF c d).arcs.length g).length + (1 : Nat) ≤ (1000000000 : Nat) ∧
 ((instF c d).arcs ++ roundAs c d (roundM c (instF c d).sup.length) g).length + (1 : Nat) ≤ (1000000000 : Nat) ∧
 ∃ (g' : Nat),
 g' ≤ roundM c (instF c d).sup.length ∧
 roundM c (instF c d).sup.length - g' < roundM c (instF c d).sup.length - g ∧
 (True ∧
 True ∧
 (0 : Nat) = (0 : Nat) ∧
 (0 : Nat) = (0 : Nat) ∧
 (↑(roundM c (instF c d).sup.length) : Int) = (↑(roundM c (instF c d).sup.length) : Int) ∧
 True ∧ IntKind.i64.wrap ((↑g : Int) + (1 : Int)) = (↑g' : Int) ∧ True) ∧
 roundLs (instF c d).arcs.length g ++
 [(↑((instF c d).arcs ++ roundAs c d (roundM c (instF c d).sup.length) g).length : Int)] =
 roundLs (instF c d).arcs.length g' ∧
 (True ∧ True ∧ True) ∧
 (instF c d).sup = (instF c d).sup ∧
 (instF c d).arcs ++ roundAs c d (roundM c (instF c d).sup.length) g ++
 [{ src := (↑g : Int), dst := (IntKind.i64.wrap ((↑g : Int) + (1 : Int))).tmod (↑(roundM c (instF c d).sup.length) : Int), low := (0 : Int), cap := (4611686018427387904 : Int), cost := IntKind.i64.wrap (IntKind.i64.wrap (x.tmod (9 : Int)) - (6 : Int)) : Arc }] =
 (instF c d).arcs ++ roundAs c d (roundM c (instF c d).sup.length) g' ∧
 (True ∧ True ∧ True) ∧ nilEq Int ∧ nilEq Arc ∧ c = c ∧ d = d ∧ True)) ∧
 (decide ((↑c.length : Int) > (1 : Int)) = false →
 (roundLs (instF c d).arcs.length g).length + (1 : Nat) ≤ (1000000000 : Nat) ∧
 ((instF c d).arcs ++ roundAs c d (roundM c (instF c d).sup.length) g).length + (1 : Nat) ≤ (1000000000 : Nat) ∧
 ∃ (g' : Nat),
 g' ≤ roundM c (instF c d).sup.length ∧
 roundM c (instF c d).sup.length - g' < roundM c (instF c d).sup.length - g ∧
 (True ∧
 True ∧
 (0 : Nat) = (0 : Nat) ∧
 (0 : Nat) = (0 : Nat) ∧
 (↑(roundM c (instF c d).sup.length) : Int) = (↑(roundM c (instF c d).sup.length) : Int) ∧
 True ∧ IntKind.i64.wrap ((↑g : Int) + (1 : Int)) = (↑g' : Int) ∧ True) ∧
 roundLs (instF c d).arcs.length g ++
 [(↑((instF c d).arcs ++ roundAs c d (roundM c (instF c d).sup.length) g).length : Int)] =
 roundLs (instF c d).arcs.length g' ∧
 (True ∧ True ∧ True) ∧
 (instF c d).sup = (instF c d).sup ∧
 (instF c d).arcs ++ roundAs c d (roundM c (instF c d).sup.length) g ++
 [{ src := (↑g : Int), dst := (IntKind.i64.wrap ((↑g : Int) + (1 : Int))).tmod (↑(roundM c (instF c d).sup.length) : Int), low := (0 : Int), cap := (4611686018427387904 : Int), cost := IntKind.i64.wrap (IntKind.i64.wrap (x.tmod (9 : Int)) - (6 : Int)) : Arc }] =
 (instF c d).arcs ++ roundAs c d (roundM c (instF c d).sup.length) g' ∧
 (True ∧ True ∧ True) ∧ nilEq Int ∧ nilEq Arc ∧ c = c ∧ d = d ∧ True)) ∧
 (decide ((↑g : Int) < (↑d.length : Int)) = false →
 (↑(roundM c (instF c d).sup.length) : Int) ≠ (0 : Int) ∧
 (decide ((↑c.length : Int) > (1 : Int)) = true →
 ((0 : Int) ≤ (1 : Int) ∧ (1 : Int) < (↑c.length : Int)) ∧
 Int.toNat (1 : Int) < c.length ∧
 ∀ (x : Int),
 c[Int.toNat (1 : Int)]? = some x →
 (8 : Int) ≠ (0 : Int) ∧
 ((x.tmod (8 : Int) == (0 : Int)) = true →
 (((↑g : Int) == (0 : Int)) = true →
 (roundLs (instF c d).arcs.length g).length + (1 : Nat) ≤ (1000000000 : Nat) ∧
 ((instF c d).arcs ++ roundAs c d (roundM c (instF c d).sup.length) g).length + (1 : Nat) ≤ (1000000000 : Nat) ∧
 ∃ (g' : Nat),
 g' ≤ roundM c (instF c d).sup.length ∧
 roundM c (instF c d).sup.length - g' < roundM c (instF c d).sup.length - g ∧
 (True ∧
 True ∧
 (0 : Nat) = (0 : Nat) ∧
 (0 : Nat) = (0 : Nat) ∧
 (↑(roundM c (instF c d).sup.length) : Int) = (↑(roundM c (instF c d).sup.length) : Int) ∧
 True ∧ IntKind.i64.wrap ((↑g : Int) + (1 : Int)) = (↑g' : Int) ∧ True) ∧
 roundLs (instF c d).arcs.length g ++
 [(↑((instF c d).arcs ++ roundAs c d (roundM c (instF c d).sup.length) g).length : Int)] =
 roundLs (instF c d).arcs.length g' ∧
 (True ∧ True ∧ True) ∧
 (instF c d).sup = (instF c d).sup ∧
 (instF c d).arcs ++ roundAs c d (roundM c (instF c d).sup.length) g ++
 [{ src := (↑g : Int), dst := (IntKind.i64.wrap ((↑g : Int) + (1 : Int))).tmod (↑(roundM c (instF c d).sup.length) : Int), low := (0 : Int), cap := (5 : Int), cost := (0 : Int) : Arc }] =
 (instF c d).arcs ++ roundAs c d (roundM c (instF c d).sup.length) g' ∧
 (True ∧ True ∧ True) ∧ nilEq Int ∧ nilEq Arc ∧ c = c ∧ d = d ∧ True) ∧
 (((↑g : Int) == (0 : Int)) = false →
 (roundLs (instF c d).arcs.length g).length + (1 : Nat) ≤ (1000000000 : Nat) ∧
 ((instF c d).arcs ++ roundAs c d (roundM c (instF c d).sup.length) g).length + (1 : Nat) ≤ (1000000000 : Nat) ∧
 ∃ (g' : Nat),
 g' ≤ roundM c (instF c d).sup.length ∧
 roundM c (instF c d).sup.length - g' < roundM c (instF c d).sup.length - g ∧
 (True ∧
 True ∧
 (0 : Nat) = (0 : Nat) ∧
 (0 : Nat) = (0 : Nat) ∧
 (↑(roundM c (instF c d).sup.length) : Int) = (↑(roundM c (instF c d).sup.length) : Int) ∧
 True ∧ IntKind.i64.wrap ((↑g : Int) + (1 : Int)) = (↑g' : Int) ∧ True) ∧
 roundLs (instF c d).arcs.length g ++
 [(↑((instF c d).arcs ++ roundAs c d (roundM c (instF c d).sup.length) g).length : Int)] =
 roundLs (instF c d).arcs.length g' ∧
 (True ∧ True ∧ True) ∧
 (instF c d).sup = (instF c d).sup ∧
 (instF c d).arcs ++ roundAs c d (roundM c (instF c d).sup.length) g ++
 [{ src := (↑g : Int), dst := (IntKind.i64.wrap ((↑g : Int) + (1 : Int))).tmod (↑(roundM c (instF c d).sup.length) : Int), low := (0 : Int), cap := (4611686018427387904 : Int), cost := (0 : Int) : Arc }] =
 (instF c d).arcs ++ roundAs c d (roundM c (instF c d).sup.length) g' ∧
 (True ∧ True ∧ True) ∧ nilEq Int ∧ nilEq Arc ∧ c = c ∧ d = d ∧ True)) ∧
 ((x.tmod (8 : Int) == (0 : Int)) = false →
 (roundLs (instF c d).arcs.length g).length + (1 : Nat) ≤ (1000000000 : Nat) ∧
 ((instF c d).arcs ++ roundAs c d (roundM c (instF c d).sup.length) g).length + (1 : Nat) ≤ (1000000000 : Nat) ∧
 ∃ (g' : Nat),
 g' ≤ roundM c (instF c d).sup.length ∧
 roundM c (instF c d).sup.length - g' < roundM c (instF c d).sup.length - g ∧
 (True ∧
 True ∧
 (0 : Nat) = (0 : Nat) ∧
 (0 : Nat) = (0 : Nat) ∧
 (↑(roundM c (instF c d).sup.length) : Int) = (↑(roundM c (instF c d).sup.length) : Int) ∧
 True ∧ IntKind.i64.wrap ((↑g : Int) + (1 : Int)) = (↑g' : Int) ∧ True) ∧
 roundLs (instF c d).arcs.length g ++
 [(↑((instF c d).arcs ++ roundAs c d (roundM c (instF c d).sup.length) g).length : Int)] =
 roundLs (instF c d).arcs.length g' ∧
 (True ∧ True ∧ True) ∧
 (instF c d).sup = (instF c d).sup ∧
 (instF c d).arcs ++ roundAs c d (roundM c (instF c d).sup.length) g ++
 [{ src := (↑g : Int), dst := (IntKind.i64.wrap ((↑g : Int) + (1 : Int))).tmod (↑(roundM c (instF c d).sup.length) : Int), low := (0 : Int), cap := (4611686018427387904 : Int), cost := (0 : Int) : Arc }] =
 (instF c d).arcs ++ roundAs c d (roundM c (instF c d).sup.length) g' ∧
 (True ∧ True ∧ True) ∧ nilEq Int ∧ nilEq Arc ∧ c = c ∧ d = d ∧ True)) ∧
 (decide ((↑c.length : Int) > (1 : Int)) = false →
 (roundLs (instF c d).arcs.length g).length + (1 : Nat) ≤ (1000000000 : Nat) ∧
 ((instF c d).arcs ++ roundAs c d (roundM c (instF c d).sup.length) g).length + (1 : Nat) ≤ (1000000000 : Nat) ∧
 ∃ (g' : Nat),
 g' ≤ roundM c (instF c d).sup.length ∧
 roundM c (instF c d).sup.length - g' < roundM c (instF c d).sup.length - g ∧
 (True ∧
 True ∧
 (0 : Nat) = (0 : Nat) ∧
 (0 : Nat) = (0 : Nat) ∧
 (↑(roundM c (instF c d).sup.length) : Int) = (↑(roundM c (instF c d).sup.length) : Int) ∧
 True ∧ IntKind.i64.wrap ((↑g : Int) + (1 : Int)) = (↑g' : Int) ∧ True) ∧
 roundLs (instF c d).arcs.length g ++ [(↑((instF c d).arcs ++ roundAs c d (roundM c (instF c d).sup.length) g).length : Int)] =
 roundLs (instF c d).arcs.length g' ∧
 (True ∧ True ∧ True) ∧
 (instF c d).sup = (instF c d).sup ∧
 (instF c d).arcs ++ roundAs c d (roundM c (instF c d).sup.length) g ++
 [{ src := (↑g : Int), dst := (IntKind.i64.wrap ((↑g : Int) + (1 : Int))).tmod (↑(roundM c (instF c d).sup.length) : Int), low := (0 : Int), cap := (4611686018427387904 : Int), cost := (0 : Int) : Arc }] =
 (instF c d).arcs ++ roundAs c d (roundM c (instF c d).sup.length) g' ∧
 (True ∧ True ∧ True) ∧ nilEq Int ∧ nilEq Arc ∧ c = c ∧ d = d ∧ True))) ∧
 (decide ((↑g : Int) < (↑(roundM c (instF c d).sup.length) : Int)) = false →
 (((True ∧ True ∧ True) ∧ True ∧ True) ∧ True) ∧
 (instF c d).sup = (roundI c d).sup ∧
 (instF c d).arcs ++ roundAs c d (roundM c (instF c d).sup.length) g = (roundI c d).arcs ∧ roundLs (instF c d).arcs.length g = roundL c d ∧ True)) ∧
 (decide ((↑c.length : Int) > (0 : Int)) = false →
 ∃ (g0 : Nat),
 (g0 ≤ roundM c (instF c d).sup.length ∧
 (True ∧ True ∧ (0 : Nat) = (0 : Nat) ∧ (0 : Nat) = (0 : Nat) ∧ (1 : Int) = (↑(roundM c (instF c d).sup.length) : Int) ∧ True ∧ (0 : Int) = (↑g0 : Int) ∧ True) ∧
 [] = roundLs (instF c d).arcs.length g0 ∧
 (True ∧ True ∧ True) ∧
 (instF c d).sup = (instF c d).sup ∧
 (instF c d).arcs = (instF c d).arcs ++ roundAs c d (roundM c (instF c d).sup.length) g0 ∧ (True ∧ True ∧ True) ∧ nilEq Int ∧ nilEq Arc ∧ c = c ∧ d = d ∧ True) ∧
 ∀ (g : Nat),
 g ≤ roundM c (instF c d).sup.length →
 (decide ((↑g : Int) < (↑(roundM c (instF c d).sup.length) : Int)) = true →
 (decide ((↑g : Int) < (↑d.length : Int)) = true →
 ((0 : Int) ≤ (↑g : Int) ∧ (↑g : Int) < (↑d.length : Int)) ∧
 (↑g : Int).toNat < d.length ∧
 ∀ (x : Int),
 d[(↑g : Int).toNat]? = some x →
 (9 : Int) ≠ (0 : Int) ∧
 (↑(roundM c (instF c d).sup.length) : Int) ≠ (0 : Int) ∧
 (decide ((↑c.length : Int) > (1 : Int)) = true →
 ((0 : Int) ≤ (1 : Int) ∧ (1 : Int) < (↑c.length : Int)) ∧
 Int.toNat (1 : Int) < c.length ∧
 ∀ (x_1 : Int),
 c[Int.toNat (1 : Int)]? = some x_1 →
 (8 : Int) ≠ (0 : Int) ∧
 ((x_1.tmod (8 : Int) == (0 : Int)) = true →
 (((↑g : Int) == (0 : Int)) = true →
 (roundLs (instF c d).arcs.length g).length + (1 : Nat) ≤ (1000000000 : Nat) ∧
 ((instF c d).arcs ++ roundAs c d (roundM c (instF c d).sup.length) g).length + (1 : Nat) ≤ (1000000000 : Nat) ∧
 ∃ (g' : Nat),
 g' ≤ roundM c (instF c d).sup.length ∧
 roundM c (instF c d).sup.length - g' < roundM c (instF c d).sup.length - g ∧
 (True ∧
 True ∧
 (0 : Nat) = (0 : Nat) ∧
 (0 : Nat) = (0 : Nat) ∧
 (↑(roundM c (instF c d).sup.length) : Int) = (↑(roundM c (instF c d).sup.length) : Int) ∧
 True ∧ IntKind.i64.wrap ((↑g : Int) + (1 : Int)) = (↑g' : Int) ∧ True) ∧
 roundLs (instF c d).arcs.length g ++
 [(↑((instF c d).arcs ++ roundAs c d (roundM c (instF c d).sup.length) g).length : Int)] =
 roundLs (instF c d).arcs.length g' ∧
 (True ∧ True ∧ True) ∧
 (instF c d).sup = (instF c d).sup ∧
 (instF c d).arcs ++ roundAs c d (roundM c (instF c d).sup.length) g ++
 [{ src := (↑g : Int), dst := (IntKind.i64.wrap ((↑g : Int) + (1 : Int))).tmod (↑(roundM c (instF c d).sup.length) : Int), low := (0 : Int), cap := (5 : Int), cost := IntKind.i64.wrap (IntKind.i64.wrap (x.tmod (9 : Int)) - (6 : Int)) : Arc }] =
 (instF c d).arcs ++ roundAs c d (roundM c (instF c d).sup.length) g' ∧
 (True ∧ True ∧ True) ∧ nilEq Int ∧ nilEq Arc ∧ c = c ∧ d = d ∧ True) ∧
 (((↑g : Int) == (0 : Int)) = false →
 (roundLs (instF c d).arcs.length g).length + (1 : Nat) ≤ (1000000000 : Nat) ∧
 ((instF c d).arcs ++ roundAs c d (roundM c (instF c d).sup.length) g).length + (1 : Nat) ≤ (1000000000 : Nat) ∧
 ∃ (g' : Nat),
 g' ≤ roundM c (instF c d).sup.length ∧
 roundM c (instF c d).sup.length - g' < roundM c (instF c d).sup.length - g ∧
 (True ∧
 True ∧
 (0 : Nat) = (0 : Nat) ∧
 (0 : Nat) = (0 : Nat) ∧
 (↑(roundM c (instF c d).sup.length) : Int) = (↑(roundM c (instF c d).sup.length) : Int) ∧
 True ∧ IntKind.i64.wrap ((↑g : Int) + (1 : Int)) = (↑g' : Int) ∧ True) ∧
 roundLs (instF c d).arcs.length g ++
 [(↑((instF c d).arcs ++ roundAs c d (roundM c (instF c d).sup.length) g).length : Int)] =
 roundLs (instF c d).arcs.length g' ∧
 (True ∧ True ∧ True) ∧
 (instF c d).sup = (instF c d).sup ∧
 (instF c d).arcs ++ roundAs c d (roundM c (instF c d).sup.length) g ++
 [{ src := (↑g : Int), dst := (IntKind.i64.wrap ((↑g : Int) + (1 : Int))).tmod (↑(roundM c (instF c d).sup.length) : Int), low := (0 : Int), cap := (4611686018427387904 : Int), cost := IntKind.i64.wrap (IntKind.i64.wrap (x.tmod (9 : Int)) - (6 : Int)) : Arc }] =
 (instF c d).arcs ++ roundAs c d (roundM c (instF c d).sup.length) g' ∧
 (True ∧ True ∧ True) ∧ nilEq Int ∧ nilEq Arc ∧ c = c ∧ d = d ∧ True)) ∧
 ((x_1.tmod (8 : Int) == (0 : Int)) = false →
 (roundLs (instF c d).arcs.length g).length + (1 : Nat) ≤ (1000000000 : Nat) ∧
 ((instF c d).arcs ++ roundAs c d (roundM c (instF c d).sup.length) g).length + (1 : Nat) ≤ (1000000000 : Nat) ∧
 ∃ (g' : Nat),
 g' ≤ roundM c (instF c d).sup.length ∧
 roundM c (instF c d).sup.length - g' < roundM c (instF c d).sup.length - g ∧
 (True ∧
 True ∧
 (0 : Nat) = (0 : Nat) ∧
 (0 : Nat) = (0 : Nat) ∧
 (↑(roundM c (instF c d).sup.length) : Int) = (↑(roundM c (instF c d).sup.length) : Int) ∧
 True ∧ IntKind.i64.wrap ((↑g : Int) + (1 : Int)) = (↑g' : Int) ∧ True) ∧
 roundLs (instF c d).arcs.length g ++
 [(↑((instF c d).arcs ++ roundAs c d (roundM c (instF c d).sup.length) g).length : Int)] =
 roundLs (instF c d).arcs.length g' ∧
 (True ∧ True ∧ True) ∧
 (instF c d).sup = (instF c d).sup ∧
 (instF c d).arcs ++ roundAs c d (roundM c (instF c d).sup.length) g ++
 [{ src := (↑g : Int), dst := (IntKind.i64.wrap ((↑g : Int) + (1 : Int))).tmod (↑(roundM c (instF c d).sup.length) : Int), low := (0 : Int), cap := (4611686018427387904 : Int), cost := IntKind.i64.wrap (IntKind.i64.wrap (x.tmod (9 : Int)) - (6 : Int)) : Arc }] =
 (instF c d).arcs ++ roundAs c d (roundM c (instF c d).sup.length) g' ∧
 (True ∧ True ∧ True) ∧ nilEq Int ∧ nilEq Arc ∧ c = c ∧ d = d ∧ True)) ∧
 (decide ((↑c.length : Int) > (1 : Int)) = false →
 (roundLs (instF c d).arcs.length g).length + (1 : Nat) ≤ (1000000000 : Nat) ∧
 ((instF c d).arcs ++ roundAs c d (roundM c (instF c d).sup.length) g).length + (1 : Nat) ≤ (1000000000 : Nat) ∧
 ∃ (g' : Nat),
 g' ≤ roundM c (instF c d).sup.length ∧
 roundM c (instF c d).sup.length - g' < roundM c (instF c d).sup.length - g ∧
 (True ∧
 True ∧
 (0 : Nat) = (0 : Nat) ∧
 (0 : Nat) = (0 : Nat) ∧
 (↑(roundM c (instF c d).sup.length) : Int) = (↑(roundM c (instF c d).sup.length) : Int) ∧
 True ∧ IntKind.i64.wrap ((↑g : Int) + (1 : Int)) = (↑g' : Int) ∧ True) ∧
 roundLs (instF c d).arcs.length g ++ [(↑((instF c d).arcs ++ roundAs c d (roundM c (instF c d).sup.length) g).length : Int)] =
 roundLs (instF c d).arcs.length g' ∧
 (True ∧ True ∧ True) ∧
 (instF c d).sup = (instF c d).sup ∧
 (instF c d).arcs ++ roundAs c d (roundM c (instF c d).sup.length) g ++
 [{ src := (↑g : Int), dst := (IntKind.i64.wrap ((↑g : Int) + (1 : Int))).tmod (↑(roundM c (instF c d).sup.length) : Int), low := (0 : Int), cap := (4611686018427387904 : Int), cost := IntKind.i64.wrap (IntKind.i64.wrap (x.tmod (9 : Int)) - (6 : Int)) : Arc }] =
 (instF c d).arcs ++ roundAs c d (roundM c (instF c d).sup.length) g' ∧
 (True ∧ True ∧ True) ∧ nilEq Int ∧ nilEq Arc ∧ c = c ∧ d = d ∧ True)) ∧
 (decide ((↑g : Int) < (↑d.length : Int)) = false →
 (↑(roundM c (instF c d).sup.length) : Int) ≠ (0 : Int) ∧
 (decide ((↑c.length : Int) > (1 : Int)) = true →
 ((0 : Int) ≤ (1 : Int) ∧ (1 : Int) < (↑c.length : Int)) ∧
 Int.toNat (1 : Int) < c.length ∧
 ∀ (x : Int),
 c[Int.toNat (1 : Int)]? = some x →
 (8 : Int) ≠ (0 : Int) ∧
 ((x.tmod (8 : Int) == (0 : Int)) = true →
 (((↑g : Int) == (0 : Int)) = true →
 (roundLs (instF c d).arcs.length g).length + (1 : Nat) ≤ (1000000000 : Nat) ∧
 ((instF c d).arcs ++ roundAs c d (roundM c (instF c d).sup.length) g).length + (1 : Nat) ≤ (1000000000 : Nat) ∧
 ∃ (g' : Nat),
 g' ≤ roundM c (instF c d).sup.length ∧
 roundM c (instF c d).sup.length - g' < roundM c (instF c d).sup.length - g ∧
 (True ∧
 True ∧
 (0 : Nat) = (0 : Nat) ∧
 (0 : Nat) = (0 : Nat) ∧
 (↑(roundM c (instF c d).sup.length) : Int) = (↑(roundM c (instF c d).sup.length) : Int) ∧
 True ∧ IntKind.i64.wrap ((↑g : Int) + (1 : Int)) = (↑g' : Int) ∧ True) ∧
 roundLs (instF c d).arcs.length g ++
 [(↑((instF c d).arcs ++ roundAs c d (roundM c (instF c d).sup.length) g).length : Int)] =
 roundLs (instF c d).arcs.length g' ∧
 (True ∧ True ∧ True) ∧
 (instF c d).sup = (instF c d).sup ∧
 (instF c d).arcs ++ roundAs c d (roundM c (instF c d).sup.length) g ++
 [{ src := (↑g : Int), dst := (IntKind.i64.wrap ((↑g : Int) + (1 : Int))).tmod (↑(roundM c (instF c d).sup.length) : Int), low := (0 : Int), cap := (5 : Int), cost := (0 : Int) : Arc }] =
 (instF c d).arcs ++ roundAs c d (roundM c (instF c d).sup.length) g' ∧
 (True ∧ True ∧ True) ∧ nilEq Int ∧ nilEq Arc ∧ c = c ∧ d = d ∧ True) ∧
 (((↑g : Int) == (0 : Int)) = false →
 (roundLs (instF c d).arcs.length g).length + (1 : Nat) ≤ (1000000000 : Nat) ∧
 ((instF c d).arcs ++ roundAs c d (roundM c (instF c d).sup.length) g).length + (1 : Nat) ≤ (1000000000 : Nat) ∧
 ∃ (g' : Nat),
 g' ≤ roundM c (instF c d).sup.length ∧
 roundM c (instF c d).sup.length - g' < roundM c (instF c d).sup.length - g ∧
 (True ∧
 True ∧
 (0 : Nat) = (0 : Nat) ∧
 (0 : Nat) = (0 : Nat) ∧
 (↑(roundM c (instF c d).sup.length) : Int) = (↑(roundM c (instF c d).sup.length) : Int) ∧
 True ∧ IntKind.i64.wrap ((↑g : Int) + (1 : Int)) = (↑g' : Int) ∧ True) ∧
 roundLs (instF c d).arcs.length g ++
 [(↑((instF c d).arcs ++ roundAs c d (roundM c (instF c d).sup.length) g).length : Int)] =
 roundLs (instF c d).arcs.length g' ∧
 (True ∧ True ∧ True) ∧
 (instF c d).sup = (instF c d).sup ∧
 (instF c d).arcs ++ roundAs c d (roundM c (instF c d).sup.length) g ++
 [{ src := (↑g : Int), dst := (IntKind.i64.wrap ((↑g : Int) + (1 : Int))).tmod (↑(roundM c (instF c d).sup.length) : Int), low := (0 : Int), cap := (4611686018427387904 : Int), cost := (0 : Int) : Arc }] =
 (instF c d).arcs ++ roundAs c d (roundM c (instF c d).sup.length) g' ∧
 (True ∧ True ∧ True) ∧ nilEq Int ∧ nilEq Arc ∧ c = c ∧ d = d ∧ True)) ∧
 ((x.tmod (8 : Int) == (0 : Int)) = false →
 (roundLs (instF c d).arcs.length g).length + (1 : Nat) ≤ (1000000000 : Nat) ∧
 ((instF c d).arcs ++ roundAs c d (roundM c (instF c d).sup.length) g).length + (1 : Nat) ≤ (1000000000 : Nat) ∧
 ∃ (g' : Nat),
 g' ≤ roundM c (instF c d).sup.length ∧
 roundM c (instF c d).sup.length - g' < roundM c (instF c d).sup.length - g ∧
 (True ∧
 True ∧
 (0 : Nat) = (0 : Nat) ∧
 (0 : Nat) = (0 : Nat) ∧
 (↑(roundM c (instF c d).sup.length) : Int) = (↑(roundM c (instF c d).sup.length) : Int) ∧
 True ∧ IntKind.i64.wrap ((↑g : Int) + (1 : Int)) = (↑g' : Int) ∧ True) ∧
 roundLs (instF c d).arcs.length g ++ [(↑((instF c d).arcs ++ roundAs c d (roundM c (instF c d).sup.length) g).length : Int)] =
 roundLs (instF c d).arcs.length g' ∧
 (True ∧ True ∧ True) ∧
 (instF c d).sup = (instF c d).sup ∧
 (instF c d).arcs ++ roundAs c d (roundM c (instF c d).sup.length) g ++
 [{ src := (↑g : Int), dst := (IntKind.i64.wrap ((↑g : Int) + (1 : Int))).tmod (↑(roundM c (instF c d).sup.length) : Int), low := (0 : Int), cap := (4611686018427387904 : Int), cost := (0 : Int) : Arc }] =
 (instF c d).arcs ++ roundAs c d (roundM c (instF c d).sup.length) g' ∧
 (True ∧ True ∧ True) ∧ nilEq Int ∧ nilEq Arc ∧ c = c ∧ d = d ∧ True)) ∧
 (decide ((↑c.length : Int) > (1 : Int)) = false →
 (roundLs (instF c d).arcs.length g).length + (1 : Nat) ≤ (1000000000 : Nat) ∧
 ((instF c d).arcs ++ roundAs c d (roundM c (instF c d).sup.length) g).length + (1 : Nat) ≤ (1000000000 : Nat) ∧
 ∃ (g' : Nat),
 g' ≤ roundM c (instF c d).sup.length ∧
 roundM c (instF c d).sup.length - g' < roundM c (instF c d).sup.length - g ∧
 (True ∧
 True ∧
 (0 : Nat) = (0 : Nat) ∧
 (0 : Nat) = (0 : Nat) ∧
 (↑(roundM c (instF c d).sup.length) : Int) = (↑(roundM c (instF c d).sup.length) : Int) ∧
 True ∧ IntKind.i64.wrap ((↑g : Int) + (1 : Int)) = (↑g' : Int) ∧ True) ∧
 roundLs (instF c d).arcs.length g ++ [(↑((instF c d).arcs ++ roundAs c d (roundM c (instF c d).sup.length) g).length : Int)] =
 roundLs (instF c d).arcs.length g' ∧
 (True ∧ True ∧ True) ∧
 (instF c d).sup = (instF c d).sup ∧
 (instF c d).arcs ++ roundAs c d (roundM c (instF c d).sup.length) g ++
 [{ src := (↑g : Int), dst := (IntKind.i64.wrap ((↑g : Int) + (1 : Int))).tmod (↑(roundM c (instF c d).sup.length) : Int), low := (0 : Int), cap := (4611686018427387904 : Int), cost := (0 : Int) : Arc }] =
 (instF c d).arcs ++ roundAs c d (roundM c (instF c d).sup.length) g' ∧
 (True ∧ True ∧ True) ∧ nilEq Int ∧ nilEq Arc ∧ c = c ∧ d = d ∧ True))) ∧
 (decide ((↑g : Int) < (↑(roundM c (instF c d).sup.length) : Int)) = false →
 (((True ∧ True ∧ True) ∧ True ∧ True) ∧ True) ∧
 (instF c d).sup = (roundI c d).sup ∧
 (instF c d).arcs ++ roundAs c d (roundM c (instF c d).sup.length) g = (roundI c d).arcs ∧ roundLs (instF c d).arcs.length g = roundL c d ∧ True))
theorem Round_q (c : List Int) (d : List Int) (ty0 ty1 : TypeId) : Round_E0 c d ty0 ty1 = FVcP TT Round_g (Round_I c d) (Round_an c d) Try.f35 [.row 0, .row 1] [(0, .row false ty0 (.ints .u8 c)), (1, .row false ty1 (.ints .u8 d))] (Round_r c d) := by kernel_rfl
theorem Round_E (c : List Int) (d : List Int) (ty0 ty1 : TypeId) (hp : Bytes c ∧ Bytes d ∧ c.length ≤ maxLen ∧ d.length ≤ maxLen) : FVc TT Round_g (Round_I c d) (Round_an c d) Try.f35 [.row 0, .row 1] [(0, .row false ty0 (.ints .u8 c)), (1, .row false ty1 (.ints .u8 d))] (Round_r c d) := by
  refine FVc.of (Round_E0 c d ty0 ty1) (Round_q c d ty0 ty1) ?_
  unfold Round_E0
  obtain ⟨p1, p2, p3, p4⟩ := hp
  have l1 := instF_sup c d
  have l2 := nOf_pos d
  have l3 := nOf_le d
  have l4 := instF_arcs c d
  have hM1 := roundM_pos c (instF c d).sup.length
  have hM2 := roundM_le c (show 0 < (instF c d).sup.length by omega)
  have e0 : c.length = 0 → roundM c (instF c d).sup.length = 1 := fun h => by unfold roundM; rw [if_pos h]
  have e1 : ∀ x, c[(0 : Int).toNat]? = some x → IntKind.i64.wrap (1 + (IntKind.i64.wrap x).tmod ((instF c d).sup.length : Int)) = (roundM c (instF c d).sup.length : Int) := fun x hx => by
    have hx' : c[0]? = some x := by simpa using hx
    have hb := p1 x (List.mem_of_getElem? hx')
    have hc : ¬ c.length = 0 := fun h => by rw [List.getElem?_eq_none (by omega)] at hx'; cases hx'
    have hd : c.getD 0 0 = x := by simp [List.getD, hx']
    have m0 := Int.emod_nonneg x (b := ((instF c d).sup.length : Int)) (by omega)
    have m1 := Int.emod_lt_of_pos x (show (0 : Int) < (instF c d).sup.length by omega)
    unfold roundM
    rw [if_neg hc, hd, w64 (x := x) (by omega) (by omega), tmod_pos (by omega), w64 (by omega) (by omega)]
    have : ((x.toNat % (instF c d).sup.length : Nat) : Int) = x % ((instF c d).sup.length : Int) := by rw [Int.natCast_emod, Int.toNat_of_nonneg hb.1]
    omega
  have wk : ∀ g : Nat, g < roundM c (instF c d).sup.length → IntKind.i64.wrap ((g : Int) + 1) = ((g + 1 : Nat) : Int) := fun g hg => by rw [w64 (by omega) (by omega)]; omega
  have e2 : roundL c d = roundLs (instF c d).arcs.length (roundM c (instF c d).sup.length) := rfl
  have e3 : (roundI c d).arcs = (instF c d).arcs ++ roundAs c d (roundM c (instF c d).sup.length) (roundM c (instF c d).sup.length) := rfl
  have e4 : (roundI c d).sup = (instF c d).sup := rfl
  generalize hM : roundM c (instF c d).sup.length = M at *
  simp only [eq_self, exists_const, forall_const, decide_eq_true_eq, decide_eq_false_iff_not, and_true, true_and, bne_iff_ne, ne_eq, bne_eq_false_iff_eq, Int.toNat_natCast, Bool.not_eq_true', Bool.not_eq_false', beq_iff_eq, beq_eq_false_iff_ne, nilEq_true]
  have step : ∀ (g : Nat) (cap cost : Int), g < M → cap = roundP c g → cost = roundC d g → (roundLs (instF c d).arcs.length g).length + 1 ≤ 1000000000 ∧ ((instF c d).arcs ++ roundAs c d M g).length + 1 ≤ 1000000000 ∧ ∃ g' : Nat, g' ≤ M ∧ M - g' < M - g ∧ IntKind.i64.wrap ((g : Int) + 1) = (g' : Int) ∧ roundLs (instF c d).arcs.length g ++ [(((instF c d).arcs ++ roundAs c d M g).length : Int)] = roundLs (instF c d).arcs.length g' ∧ (instF c d).arcs ++ roundAs c d M g ++ [(⟨(g : Int), (IntKind.i64.wrap ((g : Int) + 1)).tmod (M : Int), 0, cap, cost⟩ : Arc)] = (instF c d).arcs ++ roundAs c d M g' := fun g cap cost hg h1 h2 => by
    rw [List.length_append, roundAs_len, roundLs_len]
    refine ⟨by omega, by omega, g + 1, by omega, by omega, wk g hg, (roundLs_snoc _ _).symm, ?_⟩
    rw [roundAs_snoc, List.append_assoc, wk g hg, h1, h2, tmod_pos (by omega)]
    unfold roundA
    rw [Int.natCast_emod]
  have hP5 : ∀ (g : Nat) (y : Int), c[(1 : Int).toNat]? = some y → y.tmod 8 = 0 → (g : Int) = 0 → (5 : Int) = roundP c g := fun g y hy h1 h2 => by
    have hy' : c[1]? = some y := by simpa using hy
    have hb := p1 y (List.mem_of_getElem? hy')
    have hd : c.getD 1 0 = y := by simp [List.getD, hy']
    have hc : 1 < c.length := by
      rcases Nat.lt_or_ge 1 c.length with h | h
      · exact h
      · rw [List.getElem?_eq_none h] at hy'; cases hy'
    rw [tmod_pos hb.1] at h1
    unfold roundP
    rw [hd, if_pos ⟨hc, h1, by omega⟩]
  have hP6 : ∀ (g : Nat) (y : Int), c[(1 : Int).toNat]? = some y → ¬ (y.tmod 8 = 0 ∧ (g : Int) = 0) → (4611686018427387904 : Int) = roundP c g := fun g y hy h1 => by
    have hy' : c[1]? = some y := by simpa using hy
    have hb := p1 y (List.mem_of_getElem? hy')
    have hd : c.getD 1 0 = y := by simp [List.getD, hy']
    rw [tmod_pos hb.1] at h1
    unfold roundP
    rw [hd, if_neg (fun h => h1 ⟨h.2.1, by omega⟩)]
    rfl
  have hP7 : ∀ g : Nat, ¬ (c.length : Int) > 1 → (4611686018427387904 : Int) = roundP c g := fun g h1 => by
    unfold roundP
    rw [if_neg (fun h => h1 (by omega))]
    rfl
  have hC1 : ∀ (g : Nat) (x : Int), d[g]? = some x → IntKind.i64.wrap (IntKind.i64.wrap (x.tmod 9) - 6) = roundC d g := fun g x hx => by
    have hb := p2 x (List.mem_of_getElem? hx)
    have hd : d.getD g 0 = x := by simp [List.getD, hx]
    have hl : g < d.length := by
      rcases Nat.lt_or_ge g d.length with h | h
      · exact h
      · rw [List.getElem?_eq_none h] at hx; cases hx
    unfold roundC
    rw [if_pos hl, hd, tmod_pos hb.1, w64 (x := x % 9) (by omega) (by omega), w64 (by omega) (by omega)]
  have hC2 : ∀ g : Nat, ¬ (g : Int) < (d.length : Int) → (0 : Int) = roundC d g := fun g h => by
    unfold roundC
    rw [if_neg (by omega)]
  refine ⟨⟨p1, p2, p3, p4⟩, fun h => ⟨by omega, by omega, fun x hx => ⟨by omega, 0, ⟨by omega, ⟨e1 x hx, rfl⟩, rfl, by simp [roundAs]⟩, ?_⟩⟩, fun h => ⟨0, ⟨by omega, ⟨by have := e0 (by omega); omega, rfl⟩, rfl, by simp [roundAs]⟩, ?_⟩⟩
  all_goals
    intro g hg
    refine ⟨fun h1 => ⟨fun h2 => ⟨by omega, by omega, fun x hx => ⟨by decide, by omega, fun h3 => ⟨by omega, by omega, fun y hy => ⟨by decide, fun h4 => ⟨fun h5 => step g _ _ (by omega) (hP5 g y hy h4 h5) (hC1 g x hx), fun h5 => step g _ _ (by omega) (hP6 g y hy (fun h => h5 h.2)) (hC1 g x hx)⟩, fun h4 => step g _ _ (by omega) (hP6 g y hy (fun h => h4 h.1)) (hC1 g x hx)⟩⟩, fun h3 => step g _ _ (by omega) (hP7 g h3) (hC1 g x hx)⟩⟩,
      fun h2 => ⟨by omega, fun h3 => ⟨by omega, by omega, fun y hy => ⟨by decide, fun h4 => ⟨fun h5 => step g _ _ (by omega) (hP5 g y hy h4 h5) (hC2 g h2), fun h5 => step g _ _ (by omega) (hP6 g y hy (fun h => h5 h.2)) (hC2 g h2)⟩, fun h4 => step g _ _ (by omega) (hP6 g y hy (fun h => h4 h.1)) (hC2 g h2)⟩⟩, fun h3 => step g _ _ (by omega) (hP7 g h3) (hC2 g h2)⟩⟩, fun h1 => ?_⟩
    have : g = M := by omega
    subst this
    simp [e2, e3, e4]

theorem Round_ok : SpecOk Try.prog Round_n true (specOf true Round_fs) :=
  spec_ok' TT_ok (show GsOk Try.prog Round_g from gsOk_cons Inst_ok (gsOk_nil)) (by kernel_rfl) mixedOrders Try.func35 rfl rfl (by kernel_rfl) (n := 2) (by decide +kernel) (I := Round_IA) (fun _ _ => isOk_nil) (A := Round_A)
    (fun args h r hr => by
      unfold Round_fs at hr
      split at hr
      · rename_i ty0 c ty1 d; cases hr; refine ⟨rfl, fun hp => ?_⟩; have hE := Round_E c d ty0 ty1 hp; exact hE
      · cases hr)

end Go.Proofs.Ytnjcklhgdpgllaa
