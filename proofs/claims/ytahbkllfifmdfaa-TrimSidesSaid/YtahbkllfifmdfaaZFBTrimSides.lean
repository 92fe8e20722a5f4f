/- Part of the proof, FBTrimSides. -/
import Derived.Test.YtahbkllfifmdfaaZFV15
import Derived.Test.YtahbkllfifmdfaaZFC10
import Derived.Test.YtahbkllfifmdfaaZDBTrimSides
import Derived.Test.YtahbkllfifmdfaaZVc11
set_option linter.unusedVariables false
set_option linter.all false
set_option linter.unusedSimpArgs false
set_option maxRecDepth 100000
namespace Go.Proofs.Ytahbkllfifmdfaa
open Go Go.RowKit Go.Ql Go.Vc
theorem roomW_ok (o : Option Int) : (roomW o).ok := by
  cases o with
  | none => exact ok_zero
  | some s => exact W_ok s
theorem right_64 {I : Inst} (h : rightF I = 0) : A64a I.arcs ∧ A64 I.sup ∧ I.sup.length ≤ 64 ∧ I.arcs.length ≤ 256 := by
  refine ⟨fun a ha => ?_, fun x hx => ?_, (right_small h).1, (right_small h).2⟩
  · have := rightF_arc h ha; unfold I64; omega
  · have := (right_within h).1 x hx; unfold I64; omega
theorem passK_right {k : Int} {I : Inst} (h : (passK k I).2 = 0) : rightF (passK k I).1.inst = 0 := by
  obtain ⟨hr, ⟨h1, h2⟩ | ⟨h1, h2, h3⟩⟩ := passK_cases h
  · rw [h2]; exact hr
  · rw [h3]; exact h2
abbrev TrimSides_a0 (c : List Int) (d : List Int) (e : List Int) (f : List Int) := (List.take (List.replicate (↑(oddF c d e).sup.length : Int).toNat false).length
 (marksF f (↑(List.replicate (↑(oddF c d e).sup.length : Int).toNat false).length : Int).toNat) ++
 List.drop (marksF f (↑(List.replicate (↑(oddF c d e).sup.length : Int).toNat false).length : Int).toNat).length
 (List.replicate (↑(oddF c d e).sup.length : Int).toNat false))
abbrev TrimSides_a1 (c : List Int) (d : List Int) (e : List Int) (f : List Int) (k : Int) := (true = true →
 (((roomC (oddF c d e)
 (TrimSides_a0 c d e f)).isSome ==
 (roomC (passK (k.tmod (3 : Int)) (oddF c d e)).fst.inst
 (TrimSides_a0 c d e f)).isSome) =
 true →
 ((!(roomC (oddF c d e)
 (TrimSides_a0 c d e f)).isSome) =
 true →
 (true = true ∧ True) ∧ True) ∧
 ((!(roomC (oddF c d e)
 (TrimSides_a0 c d e f)).isSome) =
 false →
 (decide
 ([(wminus
 (roomW
 (roomC (oddF c d e)
 (List.take (List.replicate (↑(oddF c d e).sup.length : Int).toNat false).length
 (marksF f (↑(List.replicate (↑(oddF c d e).sup.length : Int).toNat false).length : Int).toNat) ++
 List.drop
 (marksF f (↑(List.replicate (↑(oddF c d e).sup.length : Int).toNat false).length : Int).toNat).length
 (List.replicate (↑(oddF c d e).sup.length : Int).toNat false))))
 (W
 (needF (oddF c d e)
 (List.take (List.replicate (↑(oddF c d e).sup.length : Int).toNat false).length
 (marksF f (↑(List.replicate (↑(oddF c d e).sup.length : Int).toNat false).length : Int).toNat) ++
 List.drop
 (marksF f (↑(List.replicate (↑(oddF c d e).sup.length : Int).toNat false).length : Int).toNat).length
 (List.replicate (↑(oddF c d e).sup.length : Int).toNat false))))).hi,
 (wminus
 (roomW
 (roomC (oddF c d e)
 (List.take (List.replicate (↑(oddF c d e).sup.length : Int).toNat false).length
 (marksF f (↑(List.replicate (↑(oddF c d e).sup.length : Int).toNat false).length : Int).toNat) ++
 List.drop
 (marksF f (↑(List.replicate (↑(oddF c d e).sup.length : Int).toNat false).length : Int).toNat).length
 (List.replicate (↑(oddF c d e).sup.length : Int).toNat false))))
 (W
 (needF (oddF c d e)
 (List.take (List.replicate (↑(oddF c d e).sup.length : Int).toNat false).length
 (marksF f (↑(List.replicate (↑(oddF c d e).sup.length : Int).toNat false).length : Int).toNat) ++
 List.drop
 (marksF f (↑(List.replicate (↑(oddF c d e).sup.length : Int).toNat false).length : Int).toNat).length
 (List.replicate (↑(oddF c d e).sup.length : Int).toNat false))))).lo] =
 [(wminus
 (roomW
 (roomC (passK (k.tmod (3 : Int)) (oddF c d e)).fst.inst
 (List.take (List.replicate (↑(oddF c d e).sup.length : Int).toNat false).length
 (marksF f (↑(List.replicate (↑(oddF c d e).sup.length : Int).toNat false).length : Int).toNat) ++
 List.drop
 (marksF f (↑(List.replicate (↑(oddF c d e).sup.length : Int).toNat false).length : Int).toNat).length
 (List.replicate (↑(oddF c d e).sup.length : Int).toNat false))))
 (W
 (needF (passK (k.tmod (3 : Int)) (oddF c d e)).fst.inst
 (List.take (List.replicate (↑(oddF c d e).sup.length : Int).toNat false).length
 (marksF f (↑(List.replicate (↑(oddF c d e).sup.length : Int).toNat false).length : Int).toNat) ++
 List.drop
 (marksF f (↑(List.replicate (↑(oddF c d e).sup.length : Int).toNat false).length : Int).toNat).length
 (List.replicate (↑(oddF c d e).sup.length : Int).toNat false))))).hi,
 (wminus
 (roomW
 (roomC (passK (k.tmod (3 : Int)) (oddF c d e)).fst.inst
 (List.take (List.replicate (↑(oddF c d e).sup.length : Int).toNat false).length
 (marksF f (↑(List.replicate (↑(oddF c d e).sup.length : Int).toNat false).length : Int).toNat) ++
 List.drop
 (marksF f (↑(List.replicate (↑(oddF c d e).sup.length : Int).toNat false).length : Int).toNat).length
 (List.replicate (↑(oddF c d e).sup.length : Int).toNat false))))
 (W
 (needF (passK (k.tmod (3 : Int)) (oddF c d e)).fst.inst
 (List.take (List.replicate (↑(oddF c d e).sup.length : Int).toNat false).length
 (marksF f (↑(List.replicate (↑(oddF c d e).sup.length : Int).toNat false).length : Int).toNat) ++
 List.drop
 (marksF f (↑(List.replicate (↑(oddF c d e).sup.length : Int).toNat false).length : Int).toNat).length
 (List.replicate (↑(oddF c d e).sup.length : Int).toNat false))))).lo]) =
 true ∧
 True) ∧
 True)) ∧
 (((roomC (oddF c d e)
 (TrimSides_a0 c d e f)).isSome ==
 (roomC (passK (k.tmod (3 : Int)) (oddF c d e)).fst.inst
 (TrimSides_a0 c d e f)).isSome) =
 false →
 (false = true ∧ True) ∧ True))
abbrev TrimSides_a2 (c : List Int) (d : List Int) (e : List Int) (f : List Int) (k : Int) := (true = true →
 (((roomC (oddF c d e)
 (TrimSides_a0 c d e f)).isSome ==
 (roomC (passK (k.tmod (3 : Int)) (oddF c d e)).fst.inst
 (TrimSides_a0 c d e f)).isSome) =
 true →
 ((!(roomC (oddF c d e)
 (TrimSides_a0 c d e f)).isSome) =
 true →
 (true = true ∧ True) ∧ True) ∧
 ((!(roomC (oddF c d e)
 (TrimSides_a0 c d e f)).isSome) =
 false →
 (decide
 ([(wminus
 (roomW
 (roomC (oddF c d e)
 (TrimSides_a0 c d e f)))
 (W
 (needF (oddF c d e)
 (TrimSides_a0 c d e f)))).hi,
 (wminus
 (roomW
 (roomC (oddF c d e)
 (TrimSides_a0 c d e f)))
 (W
 (needF (oddF c d e)
 (TrimSides_a0 c d e f)))).lo] =
 [(wminus
 (roomW
 (roomC (passK (k.tmod (3 : Int)) (oddF c d e)).fst.inst
 (TrimSides_a0 c d e f)))
 (W
 (needF (passK (k.tmod (3 : Int)) (oddF c d e)).fst.inst
 (TrimSides_a0 c d e f)))).hi,
 (wminus
 (roomW
 (roomC (passK (k.tmod (3 : Int)) (oddF c d e)).fst.inst
 (TrimSides_a0 c d e f)))
 (W
 (needF (passK (k.tmod (3 : Int)) (oddF c d e)).fst.inst
 (TrimSides_a0 c d e f)))).lo]) =
 true ∧
 True) ∧
 True)) ∧
 (((roomC (oddF c d e)
 (TrimSides_a0 c d e f)).isSome ==
 (roomC (passK (k.tmod (3 : Int)) (oddF c d e)).fst.inst
 (TrimSides_a0 c d e f)).isSome) =
 false →
 (false = true ∧ True) ∧ True))
abbrev TrimSides_a3 (k : Int) (c : List Int) (d : List Int) (e : List Int) (f : List Int) := ((roomW
 (roomC (passK (k.tmod (3 : Int)) (oddF c d e)).fst.inst
 (TrimSides_a0 c d e f))).ok ∧
 (W
 (needF (passK (k.tmod (3 : Int)) (oddF c d e)).fst.inst
 (TrimSides_a0 c d e f))).ok)
abbrev TrimSides_a4 (k : Int) (c : List Int) (d : List Int) (e : List Int) := (A64 (passK (k.tmod (3 : Int)) (oddF c d e)).fst.inst.sup ∧ (passK (k.tmod (3 : Int)) (oddF c d e)).fst.inst.sup.length ≤ (140737488351232 : Nat))
abbrev TrimSides_a5 := (true = false → (false = true ∧ True) ∧ True)
abbrev TrimSides_a6 (c : List Int) (d : List Int) (e : List Int) (f : List Int) := ((roomW
 (roomC (oddF c d e)
 (TrimSides_a0 c d e f))).ok ∧
 (W
 (needF (oddF c d e)
 (TrimSides_a0 c d e f))).ok)
def TrimSides_E0 (k : Int) (c : List Int) (d : List Int) (e : List Int) (f : List Int) (ty0 ty1 ty2 ty3 : TypeId) : Prop :=
      (Bytes c ∧ Bytes d ∧ c.length ≤ maxLen ∧ d.length ≤ maxLen ∧ Bytes e ∧ e.length ≤ maxLen) ∧
 (3 : Int) ≠ (0 : Int) ∧
 ((0 : Int) ≤ k.tmod (3 : Int) ∧ k.tmod (3 : Int) ≤ (255 : Int) ∧ (oddF c d e).sup.length ≤ (1000000 : Nat) ∧ (oddF c d e).arcs.length ≤ (1000000 : Nat)) ∧
 ((↑(oddF c d e).sup.length : Int) = (↑(oddF c d e).sup.length : Int) ∧ (0 : Int) ≤ (↑(oddF c d e).sup.length : Int) ∧ (↑(oddF c d e).sup.length : Int) ≤ (1000000000 : Int)) ∧
 (Bytes f ∧ (↑(List.replicate (↑(oddF c d e).sup.length : Int).toNat false).length : Int) ≤ (1000000 : Int)) ∧
 (((passK (k.tmod (3 : Int)) (oddF c d e)).snd != (0 : Int)) = true → True ∧ (true = true ∧ True) ∧ True) ∧
 (((passK (k.tmod (3 : Int)) (oddF c d e)).snd != (0 : Int)) = false →
 (A64a (oddF c d e).arcs ∧ (oddF c d e).arcs.length ≤ (140737488351232 : Nat)) ∧
 (A64a (passK (k.tmod (3 : Int)) (oddF c d e)).fst.inst.arcs ∧ (passK (k.tmod (3 : Int)) (oddF c d e)).fst.inst.arcs.length ≤ (140737488351232 : Nat)) ∧
 ((A64 (oddF c d e).sup ∧ (oddF c d e).sup.length ≤ (140737488351232 : Nat)) ∧
 ((TrimSides_a6 c d e f) ∧
 ((TrimSides_a4 k c d e) ∧
 ((TrimSides_a3 k c d e f) ∧
 True ∧
 (TrimSides_a1 c d e f k) ∧
 (TrimSides_a5)) ∧
 (TrimSides_a3 k c d e f) ∧
 True ∧
 (TrimSides_a1 c d e f k) ∧
 (TrimSides_a5)) ∧
 (TrimSides_a4 k c d e) ∧
 (TrimSides_a3 k c d e f) ∧
 True ∧
 (TrimSides_a2 c d e f k) ∧
 (TrimSides_a5)) ∧
 (TrimSides_a6 c d e f) ∧
 ((TrimSides_a4 k c d e) ∧
 ((TrimSides_a3 k c d e f) ∧
 True ∧
 (TrimSides_a1 c d e f k) ∧
 (TrimSides_a5)) ∧
 (TrimSides_a3 k c d e f) ∧
 True ∧
 (TrimSides_a1 c d e f k) ∧
 (TrimSides_a5)) ∧
 (TrimSides_a4 k c d e) ∧
 (TrimSides_a3 k c d e f) ∧
 True ∧
 (TrimSides_a2 c d e f k) ∧
 (TrimSides_a5)) ∧
 (A64 (oddF c d e).sup ∧ (oddF c d e).sup.length ≤ (140737488351232 : Nat)) ∧
 (TrimSides_a6 c d e f) ∧
 ((TrimSides_a4 k c d e) ∧
 ((TrimSides_a3 k c d e f) ∧
 True ∧
 (TrimSides_a2 c d e f k) ∧
 (TrimSides_a5)) ∧
 (TrimSides_a3 k c d e f) ∧
 True ∧
 (TrimSides_a2 c d e f k) ∧
 (TrimSides_a5)) ∧
 (TrimSides_a4 k c d e) ∧
 (TrimSides_a3 k c d e f) ∧
 True ∧
 (TrimSides_a2 c d e f k) ∧
 (TrimSides_a5))
theorem TrimSides_q (k : Int) (c : List Int) (d : List Int) (e : List Int) (f : List Int) (ty0 ty1 ty2 ty3 : TypeId) : TrimSides_E0 k c d e f ty0 ty1 ty2 ty3 = FVcP TT TrimSides_g (TrimSides_I k c d e f) (TrimSides_an k c d e f) Try.f8 [.int .u8 k, .row 0, .row 1, .row 2, .row 3] [(0, .row false ty0 (.ints .u8 c)), (1, .row false ty1 (.ints .u8 d)), (2, .row false ty2 (.ints .u8 e)), (3, .row false ty3 (.ints .u8 f))] (TrimSides_r k c d e f) := by kernel_rfl
theorem TrimSides_E (k : Int) (c : List Int) (d : List Int) (e : List Int) (f : List Int) (ty0 ty1 ty2 ty3 : TypeId) (hp : 0 ≤ k ∧ k ≤ 255 ∧ Bytes c ∧ Bytes d ∧ c.length ≤ maxLen ∧ d.length ≤ maxLen ∧ Bytes e ∧ e.length ≤ maxLen ∧ Bytes f ∧ f.length ≤ maxLen) : FVc TT TrimSides_g (TrimSides_I k c d e f) (TrimSides_an k c d e f) Try.f8 [.int .u8 k, .row 0, .row 1, .row 2, .row 3] [(0, .row false ty0 (.ints .u8 c)), (1, .row false ty1 (.ints .u8 d)), (2, .row false ty2 (.ints .u8 e)), (3, .row false ty3 (.ints .u8 f))] (TrimSides_r k c d e f) := by
  refine FVc.of (TrimSides_E0 k c d e f ty0 ty1 ty2 ty3) (TrimSides_q k c d e f ty0 ty1 ty2 ty3) ?_
  unfold TrimSides_E0
  delta TrimSides_a6 TrimSides_a5 TrimSides_a4 TrimSides_a3 TrimSides_a2 TrimSides_a1 TrimSides_a0
  obtain ⟨k0, k1, b1, b2, b3, b4, b5, b6, b7, b8⟩ := hp
  obtain ⟨o1, o2, o3, o4, o5, o6⟩ := oddF_all c d e
  refine ⟨⟨b1, b2, b3, b4, b5, b6⟩, by omega, ?_⟩
  generalize oddF c d e = I at *
  have km : k.tmod 3 = k % 3 := Int.tmod_eq_emod_of_nonneg k0
  rw [km]
  generalize (List.take _ _ ++ List.drop _ _ : List Bool) = sd
  simp only [List.length_replicate]
  refine ⟨by omega, ⟨trivial, by omega, by omega⟩, ⟨b7, by omega⟩, ?_⟩
  by_cases h : (passK (k % 3) I).2 = 0
  · obtain ⟨l1, l2⟩ := lackK (show ¬ k % 3 % 4 = 3 by omega) h sd
    obtain ⟨a1, a2, a3, a4⟩ := right_64 o1
    obtain ⟨c1, c2, c3, c4⟩ := right_64 (passK_right h)
    generalize (passK (k % 3) I).1.inst = J at *
    have n1 : I.sup.length ≤ 140737488351232 := by omega
    have n2 : I.arcs.length ≤ 140737488351232 := by omega
    have n3 : J.sup.length ≤ 140737488351232 := by omega
    have n4 : J.arcs.length ≤ 140737488351232 := by omega
    have e : (roomC I sd).isSome = true → wminus (roomW (roomC I sd)) (W (needF I sd)) = wminus (roomW (roomC J sd)) (W (needF J sd)) := fun hs => by
      obtain ⟨v, hv⟩ := Option.isSome_iff_exists.1 hs
      rw [l1] at hs
      obtain ⟨w, hw⟩ := Option.isSome_iff_exists.1 hs
      rw [hv, hw]
      simp only [roomW, wminus_W]
      rw [l2 v w hv hw]
    rw [← l1]
    cases hs : (roomC I sd).isSome with
    | false => simp [h, roomW_ok, W_ok, a1, a2, c1, c2, n1, n2, n3, n4]
    | true => rw [e hs]; simp [h, roomW_ok, W_ok, a1, a2, c1, c2, n1, n2, n3, n4]
  · simp [h]
theorem TrimSides_ok : SpecOk Try.prog TrimSides_n true (specOf true TrimSides_fs) :=
  spec_ok' TT_ok (show GsOk Try.prog TrimSides_g from gsOk_cons Odd_ok (gsOk_cons pass15_ok (gsOk_cons known15_ok (gsOk_cons Marks_ok (gsOk_cons CRoom_ok (gsOk_cons Need_ok (gsOk_cons Minus_ok (gsOk_nil)))))))) (by kernel_rfl) mixedOrders Try.func8 rfl rfl (by kernel_rfl) (n := 5) (by decide +kernel) (I := TrimSides_IA) (fun _ _ => isOk_nil) (A := TrimSides_A)
    (fun args h r hr => by
      unfold TrimSides_fs at hr
      split at hr
      · rename_i k ty0 c ty1 d ty2 e ty3 f; cases hr; refine ⟨rfl, fun hp => ?_⟩; have hE := TrimSides_E k c d e f ty0 ty1 ty2 ty3 hp; exact hE
      · cases hr)
end Go.Proofs.Ytahbkllfifmdfaa
