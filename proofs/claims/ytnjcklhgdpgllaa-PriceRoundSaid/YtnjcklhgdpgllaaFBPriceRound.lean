/-
  CONTRACTS, PROVED: PriceRound.
-/
import Derived.Test.YtnjcklhgdpgllaaFQ11
import Derived.Test.YtnjcklhgdpgllaaDBPriceRound
import Derived.Test.YtnjcklhgdpgllaaVc11
set_option linter.unusedVariables false
set_option linter.all false
set_option linter.unusedSimpArgs false
set_option maxRecDepth 100000
namespace Go.Proofs.Ytnjcklhgdpgllaa
open Go Go.RowKit Go.Ql Go.Vc

def PriceRound_E0 (n : Int) (pot : List Int) (c : List Int) (ty0 ty1 : TypeId) : Prop :=
      (9 : Int) ≠ (0 : Int) ∧
 (IntKind.i64.wrap ((1 : Int) + IntKind.i64.wrap (n.tmod (9 : Int))) = IntKind.i64.wrap ((1 : Int) + IntKind.i64.wrap (n.tmod (9 : Int))) ∧
 (0 : Int) ≤ IntKind.i64.wrap ((1 : Int) + IntKind.i64.wrap (n.tmod (9 : Int))) ∧ IntKind.i64.wrap ((1 : Int) + IntKind.i64.wrap (n.tmod (9 : Int))) ≤ (1000000000 : Int)) ∧
 (decide ((↑pot.length : Int) > (40 : Int)) = true → True ∧ (true = true ∧ True) ∧ True) ∧
 (decide ((↑pot.length : Int) > (40 : Int)) = false →
 ∃ (g0 : Nat),
 (g0 ≤ mR n ∧
 (True ∧
 True ∧
 IntKind.i64.wrap ((1 : Int) + IntKind.i64.wrap (n.tmod (9 : Int))) = (↑(mR n) : Int) ∧
 (0 : Nat) = (0 : Nat) ∧ (0 : Nat) = (0 : Nat) ∧ (0 : Nat) = (0 : Nat) ∧ (0 : Int) = (↑g0 : Int) ∧ True) ∧
 ((0 : Int) = (W (sumTo (costR c) g0)).hi ∧ (0 : Int) = (W (sumTo (costR c) g0)).lo ∧ True) ∧
 ((0 : Int) = (0 : Int) ∧ (0 : Int) = (0 : Int) ∧ True) ∧
 (True ∧ True ∧ True) ∧
 [] = arcsR c (mR n) g0 ∧
 List.replicate (IntKind.i64.wrap ((1 : Int) + IntKind.i64.wrap (n.tmod (9 : Int)))).toNat (0 : Int) = List.replicate (mR n) (0 : Int) ∧
 pot = pot ∧ c = c ∧ True) ∧
 ∀ (g : Nat),
 g ≤ mR n →
 (decide ((↑g : Int) < (↑(mR n) : Int)) = true →
 (decide ((↑g : Int) < (↑c.length : Int)) = true →
 ((0 : Int) ≤ (↑g : Int) ∧ (↑g : Int) < (↑c.length : Int)) ∧
 (↑g : Int).toNat < c.length ∧
 ∀ (x : Int),
 c[(↑g : Int).toNat]? = some x →
 (↑(mR n) : Int) ≠ (0 : Int) ∧
 (arcsR c (mR n) g).length + (1 : Nat) ≤ (1000000000 : Nat) ∧
 I64 (IntKind.i64.wrap (IntKind.i64.wrap x - (100 : Int))) ∧
 ((W (sumTo (costR c) g)).ok ∧ (W (IntKind.i64.wrap (IntKind.i64.wrap x - (100 : Int)))).ok) ∧
 ∃ (g' : Nat),
 g' ≤ mR n ∧
 mR n - g' < mR n - g ∧
 (True ∧
 True ∧
 (↑(mR n) : Int) = (↑(mR n) : Int) ∧
 (0 : Nat) = (0 : Nat) ∧
 (0 : Nat) = (0 : Nat) ∧ (0 : Nat) = (0 : Nat) ∧ IntKind.i64.wrap ((↑g : Int) + (1 : Int)) = (↑g' : Int) ∧ True) ∧
 ((wplus (W (sumTo (costR c) g)) (W (IntKind.i64.wrap (IntKind.i64.wrap x - (100 : Int))))).hi = (W (sumTo (costR c) g')).hi ∧
 (wplus (W (sumTo (costR c) g)) (W (IntKind.i64.wrap (IntKind.i64.wrap x - (100 : Int))))).lo = (W (sumTo (costR c) g')).lo ∧
 True) ∧
 ((0 : Int) = (0 : Int) ∧ (0 : Int) = (0 : Int) ∧ True) ∧
 (True ∧ True ∧ True) ∧
 arcsR c (mR n) g ++
 [{ src := (↑g : Int), dst := (IntKind.i64.wrap ((↑g : Int) + (1 : Int))).tmod (↑(mR n) : Int), low := (0 : Int), cap := (1 : Int), cost := IntKind.i64.wrap (IntKind.i64.wrap x - (100 : Int)) : Arc }] =
 arcsR c (mR n) g' ∧
 List.replicate (mR n) (0 : Int) = List.replicate (mR n) (0 : Int) ∧ pot = pot ∧ c = c ∧ True) ∧
 (decide ((↑g : Int) < (↑c.length : Int)) = false →
 (↑(mR n) : Int) ≠ (0 : Int) ∧
 (arcsR c (mR n) g).length + (1 : Nat) ≤ (1000000000 : Nat) ∧
 I64 (↑g : Int) ∧
 ((W (sumTo (costR c) g)).ok ∧ (W (↑g : Int)).ok) ∧
 ∃ (g' : Nat),
 g' ≤ mR n ∧
 mR n - g' < mR n - g ∧
 (True ∧
 True ∧
 (↑(mR n) : Int) = (↑(mR n) : Int) ∧
 (0 : Nat) = (0 : Nat) ∧
 (0 : Nat) = (0 : Nat) ∧ (0 : Nat) = (0 : Nat) ∧ IntKind.i64.wrap ((↑g : Int) + (1 : Int)) = (↑g' : Int) ∧ True) ∧
 ((wplus (W (sumTo (costR c) g)) (W (↑g : Int))).hi = (W (sumTo (costR c) g')).hi ∧
 (wplus (W (sumTo (costR c) g)) (W (↑g : Int))).lo = (W (sumTo (costR c) g')).lo ∧ True) ∧
 ((0 : Int) = (0 : Int) ∧ (0 : Int) = (0 : Int) ∧ True) ∧
 (True ∧ True ∧ True) ∧
 arcsR c (mR n) g ++
 [{ src := (↑g : Int), dst := (IntKind.i64.wrap ((↑g : Int) + (1 : Int))).tmod (↑(mR n) : Int), low := (0 : Int), cap := (1 : Int), cost := (↑g : Int) : Arc }] =
 arcsR c (mR n) g' ∧
 List.replicate (mR n) (0 : Int) = List.replicate (mR n) (0 : Int) ∧ pot = pot ∧ c = c ∧ True)) ∧
 (decide ((↑g : Int) < (↑(mR n) : Int)) = false →
 ∃ (g0 : Nat),
 (g0 ≤ mR n ∧
 (True ∧ (↑(mR n) : Int) = (↑(mR n) : Int) ∧ (0 : Nat) = (0 : Nat) ∧ (0 : Nat) = (0 : Nat) ∧ (0 : Nat) = (0 : Nat) ∧ (0 : Int) = (↑g0 : Int) ∧ True) ∧
 ((W (sumTo (costR c) g)).hi = (W (sumTo (costR c) (mR n))).hi ∧ (W (sumTo (costR c) g)).lo = (W (sumTo (costR c) (mR n))).lo ∧ True) ∧
 ((0 : Int) = (W (sumTo (fun (j : Nat) => redF (instR c (mR n)) pot (↑j : Int)) g0)).hi ∧
 (0 : Int) = (W (sumTo (fun (j : Nat) => redF (instR c (mR n)) pot (↑j : Int)) g0)).lo ∧ True) ∧
 (True ∧ True ∧ True) ∧
 arcsR c (mR n) g = arcsR c (mR n) (mR n) ∧ List.replicate (mR n) (0 : Int) = List.replicate (mR n) (0 : Int) ∧ pot = pot ∧ True) ∧
 ∀ (g : Nat),
 g ≤ mR n →
 (decide ((↑g : Int) < (↑(mR n) : Int)) = true →
 (A64 pot ∧ A64c (arcsR c (mR n) (mR n))) ∧
 ((W (sumTo (fun (j : Nat) => redF (instR c (mR n)) pot (↑j : Int)) g)).ok ∧
 (W (redF { sup := List.replicate (mR n) (0 : Int), arcs := arcsR c (mR n) (mR n) : Inst } pot (↑g : Int))).ok) ∧
 ∃ (g' : Nat),
 g' ≤ mR n ∧
 mR n - g' < mR n - g ∧
 (True ∧
 (↑(mR n) : Int) = (↑(mR n) : Int) ∧
 (0 : Nat) = (0 : Nat) ∧
 (0 : Nat) = (0 : Nat) ∧ (0 : Nat) = (0 : Nat) ∧ IntKind.i64.wrap ((↑g : Int) + (1 : Int)) = (↑g' : Int) ∧ True) ∧
 ((W (sumTo (costR c) (mR n))).hi = (W (sumTo (costR c) (mR n))).hi ∧
 (W (sumTo (costR c) (mR n))).lo = (W (sumTo (costR c) (mR n))).lo ∧ True) ∧
 ((wplus (W (sumTo (fun (j : Nat) => redF (instR c (mR n)) pot (↑j : Int)) g))
 (W (redF { sup := List.replicate (mR n) (0 : Int), arcs := arcsR c (mR n) (mR n) : Inst } pot (↑g : Int)))).hi =
 (W (sumTo (fun (j : Nat) => redF (instR c (mR n)) pot (↑j : Int)) g')).hi ∧
 (wplus (W (sumTo (fun (j : Nat) => redF (instR c (mR n)) pot (↑j : Int)) g))
 (W (redF { sup := List.replicate (mR n) (0 : Int), arcs := arcsR c (mR n) (mR n) : Inst } pot (↑g : Int)))).lo =
 (W (sumTo (fun (j : Nat) => redF (instR c (mR n)) pot (↑j : Int)) g')).lo ∧
 True) ∧
 (True ∧ True ∧ True) ∧
 arcsR c (mR n) (mR n) = arcsR c (mR n) (mR n) ∧
 List.replicate (mR n) (0 : Int) = List.replicate (mR n) (0 : Int) ∧ pot = pot ∧ True) ∧
 (decide ((↑g : Int) < (↑(mR n) : Int)) = false →
 True ∧
 (true = true →
 (decide
 ([(W (sumTo (fun (j : Nat) => redF (instR c (mR n)) pot (↑j : Int)) g)).hi,
 (W (sumTo (fun (j : Nat) => redF (instR c (mR n)) pot (↑j : Int)) g)).lo] =
 [(W (sumTo (costR c) (mR n))).hi, (W (sumTo (costR c) (mR n))).lo]) =
 true ∧
 True) ∧
 True) ∧
 (true = false → (false = true ∧ True) ∧ True))))
theorem PriceRound_q (n : Int) (pot : List Int) (c : List Int) (ty0 ty1 : TypeId) : PriceRound_E0 n pot c ty0 ty1 = FVcP TT PriceRound_g (PriceRound_I n pot c) (PriceRound_an n pot c) Try.f3 [.int .u8 n, .row 0, .row 1] [(0, .row false ty0 (.ints .i64 pot)), (1, .row false ty1 (.ints .u8 c))] (PriceRound_r n pot c) := by kernel_rfl
theorem PriceRound_E (n : Int) (pot : List Int) (c : List Int) (ty0 ty1 : TypeId) (hp : 0 ≤ n ∧ n ≤ 255 ∧ A64 pot ∧ Bytes c ∧ c.length ≤ maxLen) : FVc TT PriceRound_g (PriceRound_I n pot c) (PriceRound_an n pot c) Try.f3 [.int .u8 n, .row 0, .row 1] [(0, .row false ty0 (.ints .i64 pot)), (1, .row false ty1 (.ints .u8 c))] (PriceRound_r n pot c) := by
  refine FVc.of (PriceRound_E0 n pot c ty0 ty1) (PriceRound_q n pot c ty0 ty1) ?_
  unfold PriceRound_E0
  obtain ⟨p1, p2, p3, p4, p5⟩ := hp
  simp only [eq_self, exists_const, forall_const, decide_eq_true_eq, decide_eq_false_iff_not, and_true, true_and, bne_iff_ne, ne_eq, bne_eq_false_iff_eq, Int.toNat_natCast, Bool.not_eq_true', Bool.not_eq_false', beq_iff_eq, beq_eq_false_iff_ne, nilEq_true]
  simp only [false_implies, reduceCtorEq, Bool.not_true, Bool.true_eq_false, Bool.false_eq_true, implies_true, and_true, true_and]
  have hm : 1 ≤ mR n ∧ mR n ≤ 9 := by unfold mR; omega
  have wm : IntKind.i64.wrap (1 + IntKind.i64.wrap (n.tmod 9)) = (mR n : Int) := by
    rw [tmod_pos p1, w64 (x := n % 9) (by omega) (by omega), w64 (by omega) (by omega)]; unfold mR; omega
  rw [wm]
  generalize mR n = m at *
  have hcb : ∀ k : Nat, k < m → -100 ≤ costR c k ∧ costR c k ≤ 155 := fun k hk => by
    unfold costR
    split
    · rename_i h
      have hb := p4 (c.getD k 0) (by rw [List.getD_eq_getElem?_getD, List.getElem?_eq_getElem h]; exact List.getElem_mem h)
      omega
    · omega
  have hal : ∀ k, (arcsR c m k).length = k := fun k => by simp [arcsR]
  have has : ∀ k, arcsR c m (k + 1) = arcsR c m k ++ [arcR c m k] := fun k => by simp [arcsR, List.range_succ]
  have nxt : ∀ (g : Nat) (v : Int), g < m → v = costR c g → arcsR c m g ++ [⟨(g : Int), (IntKind.i64.wrap ((g : Int) + 1)).tmod (m : Int), 0, 1, v⟩] = arcsR c m (g + 1) := fun g v hg hv => by
    rw [has, hv, w64 (by omega) (by omega), tmod_pos (by omega)]
    unfold arcR
    norm_cast
  have e0 : W 0 = ⟨0, 0⟩ := W_zero
  refine ⟨by decide, by omega, fun h0 => ⟨0, ⟨by omega, ⟨rfl, rfl⟩, by simp [sumTo, e0], by simp [arcsR], by simp⟩, fun g hg => ⟨fun h1 => ⟨fun h2 => ⟨by omega, by omega, fun x hx => ?_⟩, fun h2 => ?_⟩, fun h1 => ?_⟩⟩⟩
  · have hb := p4 x (List.mem_of_getElem? hx)
    have hd : c.getD g 0 = x := by simp [List.getD, hx]
    have hv : IntKind.i64.wrap (IntKind.i64.wrap x - 100) = costR c g := by
      rw [w64 (x := x) (by omega) (by omega), w64 (by omega) (by omega)]; unfold costR; rw [if_pos (by omega), hd]
    rw [hv, wplus_W]
    refine ⟨by omega, by rw [hal]; omega, by have := hcb g (by omega); unfold I64; omega, ⟨W_ok _, W_ok _⟩, g + 1, by omega, by omega, by rw [w64 (by omega) (by omega)]; omega, ?_, nxt g _ (by omega) rfl⟩
    rw [sumTo]; exact ⟨rfl, rfl⟩
  · have hv : (g : Int) = costR c g := by unfold costR; rw [if_neg (by omega)]
    refine ⟨by omega, by rw [hal]; omega, by unfold I64; omega, ⟨W_ok _, W_ok _⟩, g + 1, by omega, by omega, by rw [w64 (by omega) (by omega)]; omega, ?_, nxt g _ (by omega) hv⟩
    rw [wplus_W, sumTo, ← hv]; exact ⟨rfl, rfl⟩
  · have hge : g = m := by omega
    subst hge
    have hc : A64c (arcsR c g g) := fun a ha => by
      unfold arcsR at ha
      obtain ⟨k, hk, rfl⟩ := List.mem_map.1 ha
      have := hcb k (List.mem_range.1 hk)
      show I64 (costR c k)
      unfold I64; omega
    refine ⟨0, ⟨by omega, rfl, ⟨rfl, rfl⟩, by simp [sumTo, e0], rfl⟩, fun j hj => ⟨fun h2 => ⟨⟨p3, hc⟩, ⟨W_ok _, W_ok _⟩, j + 1, by omega, by omega, by rw [w64 (by omega) (by omega)]; omega, ?_⟩, fun h2 => ?_⟩⟩
    · rw [wplus_W, sumTo]; exact ⟨rfl, rfl⟩
    · have hje : j = g := by omega
      subst hje
      have hr : ∀ k, k < j → redF (instR c j) pot (k : Int) = costR c k + ((fun t => pot.getD t 0) ((k + 1) % j) - (fun t => pot.getD t 0) k) := fun k hk => by
        have hk2 : (k + 1) % j < j := Nat.mod_lt _ (by omega)
        have hg2 : (instR c j).arcs[k]? = some (arcR c j k) := by
          unfold instR arcsR
          rw [List.getElem?_map, List.getElem?_range hk]; rfl
        have hs : (instR c j).sup.length = j := by simp [instR]
        have ho : okArc (instR c j).sup.length (arcR c j k) = true := okArc_iff.2 (by rw [hs]; unfold arcR; dsimp only; omega)
        rw [redF_at hg2 ho]
        unfold redP redA potR arcR
        dsimp only
        rw [if_pos (by omega), if_pos (by omega), Int.toNat_natCast, Int.toNat_natCast]
        omega
      rw [sumTo_congr hr, sumTo_add, round_zero (fun t => pot.getD t 0) j (Nat.le_refl _) (by omega), Nat.mod_self]
      simp

theorem PriceRound_ok : SpecOk Try.prog PriceRound_n true (specOf true PriceRound_fs) :=
  spec_ok' TT_ok (show GsOk Try.prog PriceRound_g from gsOk_cons known11_ok (gsOk_cons Plus_ok (gsOk_cons Of_ok (gsOk_cons Reduced_ok (gsOk_nil))))) (by kernel_rfl) mixedOrders Try.func3 rfl rfl (by kernel_rfl) (n := 3) (by decide +kernel) (I := PriceRound_IA) (fun _ _ => isOk_nil) (A := PriceRound_A)
    (fun args h r hr => by
      unfold PriceRound_fs at hr
      split at hr
      · rename_i n ty0 pot ty1 c; cases hr; refine ⟨rfl, fun hp => ?_⟩; have hE := PriceRound_E n pot c ty0 ty1 hp; exact hE
      · cases hr)

end Go.Proofs.Ytnjcklhgdpgllaa
