/- SolveTurned: the law is true for every input: the given statement, with no condition of its own. -/
import Derived.Test.YtggblkbecekbdaaZG14
import Derived.Test.YtggblkbecekbdaaZG11
import Derived.Test.YtggblkbecekbdaaZG5
set_option linter.all false
set_option linter.unusedSimpArgs false
set_option linter.unusedVariables false
set_option maxRecDepth 1000000
section
namespace Go.Proofs.Ytggblkbecekbdaa
open Go Go.RowKit Go.Ql Go.Vc
def z4q (p : List Int) (d : List Int) (k : Int) : FRes := { pre := Bytes p /\ Bytes d /\ p.length <= maxLen /\ d.length <= maxLen /\ 0 <= k /\ k <= 255, res := .bool (true), rows := [], eff := [] }
def zbc : FS := fun args h => match args, h with
 | [.row 0, .row 1, .int .u8 k], [(0, .row false ty0 (.ints .u8 p)), (1, .row false ty1 (.ints .u8 d))] => some (z4q p d k)
 | _, _ => none
def z7c (p : List Int) (d : List Int) (k : Int) : List (Nat × Ann) := [(4, { G := (Nat), inv := fun v => ⟨[(7, .ptr 6 0 0 0), (8, .ptr 11 0 0 0), (9, .int .i64 v)], [(11, .box true 30 [.row 7, .row 8]), (7, .row true 2 (.ints .i64 (z3j (fun y => -y) (z03 p d k).sup v))), (8, .row true 50 (.arcs (z03 p d k).arcs)), (6, .box true 30 [.row 2, .row 3]), (2, .row true 2 (.ints .i64 (z03 p d k).sup)), (3, .row true 50 (.arcs (z03 p d k).arcs))], 12⟩, rel := fun v0 v => v <= (z03 p d k).sup.length, meas := fun v => (z03 p d k).sup.length - v }),
 (8, { G := (Nat), inv := fun a => ⟨[(7, .ptr 6 0 0 0), (8, .ptr 11 0 0 0), (10, .int .i64 a)], [(11, .box true 30 [.row 7, .row 8]), (7, .row true 2 (.ints .i64 ((z47 (z03 p d k)).sup))), (8, .row true 50 (.arcs (z3j z6x (z03 p d k).arcs a))), (6, .box true 30 [.row 2, .row 3]), (2, .row true 2 (.ints .i64 (z03 p d k).sup)), (3, .row true 50 (.arcs (z03 p d k).arcs))], 12⟩, rel := fun a0 a => a <= (z03 p d k).arcs.length, meas := fun a => (z03 p d k).arcs.length - a })]
def SolveTurned_A : List SV -> z0j -> List (Nat × Ann) := fun args h => match args, h with
 | [.row 0, .row 1, .int .u8 k], [(0, .row false ty0 (.ints .u8 p)), (1, .row false ty1 (.ints .u8 d))] => z7c p d k
 | _, _ => []
def z86 : z0c := [(zjj, (true, z05 true zap)), (Small_n, (true, z05 true zh3)), (zm3, (true, z0t true zb4))]
abbrev SolveTurned_n : Nat := 5
def zcu (p : List Int) (d : List Int) (k : Int) : List (Nat × z0a) := []
def SolveTurned_IA : List SV -> z0j -> List (Nat × z0a) := fun _ _ => []
end Go.Proofs.Ytggblkbecekbdaa
end
section
namespace Go.Proofs.Ytggblkbecekbdaa
open Go Go.RowKit Go.Ql Go.Vc
abbrev z3z (p : List Int) (d : List Int) (k : Int) (g : Nat) (x : Arc) (x_1 : Arc) := ((z3j z6x (z03 p d k).arcs g).set (↑g : Int).toNat { src := x.dst, dst := x_1.dst, low := x_1.low, cap := x_1.cap, cost := x_1.cost : Arc })
abbrev z40 (p : List Int) (d : List Int) (k : Int) := ((True /\ (True /\ True)) /\ ((z03 p d k).sup = (z03 p d k).sup /\ ((z03 p d k).arcs = (z03 p d k).arcs /\ True)))
abbrev z1o (p : List Int) (d : List Int) (k : Int) (g : Nat) := (z3j (fun (y : Int) => -y) (z03 p d k).sup g)
def z7b (p : List Int) (d : List Int) (k : Int) (ty0 ty1 : TypeId) : Prop :=
   (Bytes p /\ (Bytes d /\ (p.length <= maxLen /\ (d.length <= maxLen /\ ((0 : Int) <= k /\ (k <= (255 : Int))))))) /\ (Bytes p /\ (Bytes d /\ (p.length <= maxLen /\ (d.length <= maxLen /\ ((0 : Int) <= k /\ (k <= (255 : Int))))))) /\ ∃ (g0 : Nat), (g0 <= (z03 p d k).sup.length /\ ((0 = 0 /\ (0 = 0 /\ ((0 : Int) = ↑g0 /\ True))) /\ ((True /\ (True /\ True)) /\ ((z03 p d k).sup = z3j (fun (y : Int) => -y) (z03 p d k).sup g0 /\ ((z03 p d k).arcs = (z03 p d k).arcs /\ (z40 p d k)))))) /\ ∀ (g : Nat), g <= (z03 p d k).sup.length -> (decide ((↑g : Int) < ↑(z1o p d k g).length) = true -> ((0 : Int) <= ↑g /\ ((↑g : Int) < ↑(z1o p d k g).length)) /\ ((↑g : Int).toNat < (z1o p d k g).length /\ (∀ (x : Int), (z1o p d k g)[(↑g : Int).toNat]? = some x -> ((0 : Int) <= ↑g /\ ((↑g : Int) < ↑(z1o p d k g).length)) /\ ((↑g : Int).toNat < (z1o p d k g).length /\ (∃ (g' : Nat), g' <= (z03 p d k).sup.length /\ ((z03 p d k).sup.length - g' < (z03 p d k).sup.length - g /\ ((0 = 0 /\ (0 = 0 /\ (IntKind.i64.wrap ((↑g : Int) + (1 : Int)) = (↑g' : Int) /\ True))) /\ ((True /\ (True /\ True)) /\ ((z1o p d k g).set (↑g : Int).toNat (IntKind.i64.wrap ((0 : Int) - x)) = z3j (fun (y : Int) => -y) (z03 p d k).sup g' /\ ((z03 p d k).arcs = (z03 p d k).arcs /\ (z40 p d k))))))))))) /\ (decide ((↑g : Int) < ↑(z1o p d k g).length) = false -> ∃ (g0 : Nat), (g0 <= (z03 p d k).arcs.length /\ ((0 = 0 /\ (0 = 0 /\ ((0 : Int) = ↑g0 /\ True))) /\ ((True /\ (True /\ True)) /\ (z3j (fun (y : Int) => -y) (z03 p d k).sup g = (z47 (z03 p d k)).sup /\ ((z03 p d k).arcs = z3j z6x (z03 p d k).arcs g0 /\ (z40 p d k)))))) /\ ∀ (g : Nat), g <= (z03 p d k).arcs.length -> (decide ((↑g : Int) < ↑(z3j z6x (z03 p d k).arcs g).length) = true -> ((0 : Int) <= ↑g /\ ((↑g : Int) < ↑(z03 p d k).arcs.length)) /\ ((↑g : Int).toNat < (z03 p d k).arcs.length /\ (∀ (x : Arc), (z03 p d k).arcs[(↑g : Int).toNat]? = some x -> ((0 : Int) <= ↑g /\ ((↑g : Int) < ↑(z3j z6x (z03 p d k).arcs g).length)) /\ ((↑g : Int).toNat < (z3j z6x (z03 p d k).arcs g).length /\ (∀ (x_1 : Arc), (z3j z6x (z03 p d k).arcs g)[(↑g : Int).toNat]? = some x_1 -> ((0 : Int) <= ↑g /\ ((↑g : Int) < ↑(z03 p d k).arcs.length)) /\ ((↑g : Int).toNat < (z03 p d k).arcs.length /\ (∀ (x_2 : Arc), (z03 p d k).arcs[(↑g : Int).toNat]? = some x_2 -> ((0 : Int) <= ↑g /\ ((↑g : Int) < ↑(z3z p d k g x x_1).length)) /\ ((↑g : Int).toNat < (z3z p d k g x x_1).length /\ (∀ (x_3 : Arc), (z3z p d k g x x_1)[(↑g : Int).toNat]? = some x_3 -> ∃ (g' : Nat), g' <= (z03 p d k).arcs.length /\ ((z03 p d k).arcs.length - g' < (z03 p d k).arcs.length - g /\ ((0 = 0 /\ (0 = 0 /\ (IntKind.i64.wrap ((↑g : Int) + (1 : Int)) = (↑g' : Int) /\ True))) /\ ((True /\ (True /\ True)) /\ ((z47 (z03 p d k)).sup = (z47 (z03 p d k)).sup /\ ((z3z p d k g x x_1).set (↑g : Int).toNat { src := x_3.src, dst := x_2.src, low := x_3.low, cap := x_3.cap, cost := x_3.cost : Arc } = z3j z6x (z03 p d k).arcs g' /\ (z40 p d k))))))))))))))) /\ (decide ((↑g : Int) < ↑(z3j z6x (z03 p d k).arcs g).length) = false -> (z02 (z03 p d k) = (0 : Int) /\ (SmallI (z03 p d k))) /\ (∀ (g_1 : Wide × Int), ValueP (z03 p d k) g_1.1 g_1.2 -> (z02 { sup := (z47 (z03 p d k)).sup, arcs := z3j z6x (z03 p d k).arcs g : Inst } = (0 : Int) /\ (SmallI { sup := (z47 (z03 p d k)).sup, arcs := z3j z6x (z03 p d k).arcs g : Inst })) /\ (∀ (g_2 : Wide × Int), ValueP { sup := (z47 (z03 p d k)).sup, arcs := z3j z6x (z03 p d k).arcs g : Inst } g_2.1 g_2.2 -> True /\ ((true = true -> ((g_1.2 == g_2.2) = true -> (decide (g_1.2 > (0 : Int)) = true -> (decide ([g_1.1.hi, g_1.1.lo] = [g_2.1.hi, g_2.1.lo]) = true /\ True) /\ True) /\ (decide (g_1.2 > (0 : Int)) = false -> (false = true /\ True) /\ True)) /\ ((g_1.2 == g_2.2) = false -> (false = true /\ True) /\ True)) /\ (true = false -> (false = true /\ True) /\ True))))))
theorem SolveTurned_q (p : List Int) (d : List Int) (k : Int) (ty0 ty1 : TypeId) : z7b p d k ty0 ty1 = z48 TT z86 (zcu p d k) (z7c p d k) Try.f5 [.row 0, .row 1, .int .u8 k] [(0, .row false ty0 (.ints .u8 p)), (1, .row false ty1 (.ints .u8 d))] (z4q p d k) := by kernel_rfl
theorem SolveTurned_E (p : List Int) (d : List Int) (k : Int) (ty0 ty1 : TypeId) (hp : Bytes p /\ Bytes d /\ p.length <= maxLen /\ d.length <= maxLen /\ 0 <= k /\ k <= 255) : FVc TT z86 (zcu p d k) (z7c p d k) Try.f5 [.row 0, .row 1, .int .u8 k] [(0, .row false ty0 (.ints .u8 p)), (1, .row false ty1 (.ints .u8 d))] (z4q p d k) := by
 refine FVc.of (z7b p d k ty0 ty1) (SolveTurned_q p d k ty0 ty1) ?_
 unfold z7b
 delta z1o z40 z3z
 simp only [eq_self, exists_const, forall_const, decide_eq_true_eq, decide_eq_false_iff_not, and_true, true_and, bne_iff_ne, ne_eq, bne_eq_false_iff_eq, Int.toNat_natCast, Bool.not_eq_true', Bool.not_eq_false', beq_iff_eq, beq_eq_false_iff_ne, z09]
 obtain ⟨p1, p2, p3, p4, k0, k1⟩ := hp
 obtain ⟨hF, hn, hm, -⟩ := small_few p d k
 generalize z03 p d k = I at *
 have n2 := hF.n2
 have hm2 := hF.m
 simp only [ze7, List.length_set]
 refine ⟨⟨p1, p2, p3, p4, k0, k1⟩, ⟨p1, p2, p3, p4, k0, k1⟩, 0, ⟨Nat.zero_le _, rfl, (zg4 _ _).symm⟩, fun v hv => ⟨fun h1 => ⟨by omega, by omega, fun x hx => ⟨by omega, by omega, v + 1, by omega, by omega, by rw [w64 (by omega) (by omega)]; omega, ?_⟩⟩, fun h1 => ?_⟩⟩
 ·have hx2 := zlw hx
  have := hF.sup x (List.mem_of_getElem? hx2)
  exact zlx hx2 (by rw [w64 (by omega) (by omega)]; omega)
 refine ⟨0, ⟨Nat.zero_le _, rfl, zlv _ _ (by omega), (zg4 _ _).symm⟩, fun a ha => ⟨fun h2 => ⟨by omega, by omega, fun x hx => ⟨by omega, by omega, fun y hy => ⟨by omega, by omega, fun z hz => ⟨by omega, by omega, fun u hu => ⟨a + 1, by omega, by omega, by rw [w64 (by omega) (by omega)]; omega, ?_⟩⟩⟩⟩⟩, fun h2 => ?_⟩⟩
 ·have hy2 := zlw hy
  rw [hx] at hy2 hz
  cases hy2
  cases hz
  rw [List.getElem?_set_self (by rw [ze7]; omega)] at hu
  cases hu
  rw [List.set_set]
  exact zlx hx rfl
 rw [zlv _ _ (show I.arcs.length <= a by omega)]
 refine ⟨⟨hF.right, hF.small⟩, ?_⟩
 rintro ⟨v, i⟩ hv
 refine ⟨⟨(zec hF).right, (zec hF).small⟩, ?_⟩
 rintro ⟨w, j⟩ hw
 obtain ⟨e1, e2, e3⟩ := turned_law hF hv hw
 subst e1 e3
 exact ⟨⟨fun _ => ⟨fun _ => rfl, fun h => absurd e2 h⟩, fun h => absurd rfl h⟩, fun h => by cases h⟩
theorem SolveTurned_ok : SpecOk Try.prog SolveTurned_n true (z05 true zbc) :=
 z0b z0w (show z1s Try.prog z86 from z01 known20_ok (z01 Small_ok (z01 value20_ok (z06)))) (by kernel_rfl) mixedOrders Try.func5 rfl rfl (by kernel_rfl) (n := 3) (by decide +kernel) (I := SolveTurned_IA) (fun _ _ => z07) (A := SolveTurned_A)
  (fun args h r hr => by
   unfold zbc at hr
   split at hr
   ·rename_i k ty0 p ty1 d; cases hr; refine ⟨rfl, fun hp => ?_⟩; have hE := SolveTurned_E p d k ty0 ty1 hp; exact hE
   ·cases hr)
end Go.Proofs.Ytggblkbecekbdaa
end
section
namespace Go.Proofs.Ytggblkbecekbdaa
open Go Go.RowKit Go.ChangeShapes Go.WideShapes Go.ChangeAt Go.Deep Go.Ql Go.Vc
theorem zb8 (H : Type) (enc : TypeId × Value -> H) (W : World) (base : Nat) (args : Array Value) (ds gs : List (DataW H)) (before : List MemPlace)
  (hval : ∀ (j : Nat) t v, Try.f5.params[j]? = some t -> args[j]? = some v -> Value.okWide Try.prog W .any base t v)
  (hW : DataW.Whole enc Try.prog Try.f5.params.toList Rows.solveTurnedSpec.vars false W args.toList ds gs before)
  (hz : (DataW.weightsEach Try.prog (Try.f5.params.toList ++ Rows.solveTurnedSpec.plain.varTypes Try.prog) (ds ++ gs)).all (· <= reachBytes) = true) :
  Calls Try.prog 5 args W fun e W' => ∃ v, e = .returned v /\ Rows.solveTurnedSpec.post enc Try.prog Try.f5 false true false false W args v W' := by
 have hW' := hW
 obtain ⟨p, q, hA0, hV, rfl, hfz, hnd⟩ := hW
 have hA : DataW.TrodAll enc Try.prog W 0 (fun _ => true) true Try.f5.params.toList args.toList ds p := hA0
 rw [Try.params5] at hA hval hz
 obtain ⟨v0, vs0, d0, ds0, p0, q0, hargs, rfl, rfl, h0, r0⟩ := trodAll_cons hA
 obtain ⟨v1, vs1, d1, ds1, p1, q1, rfl, rfl, rfl, h1, r1⟩ := trodAll_cons r0
 obtain ⟨v2, vs2, d2, ds2, p2, q2, rfl, rfl, rfl, h2, r2⟩ := trodAll_cons r1
 obtain ⟨rfl, rfl, rfl⟩ := trodAll_nil r2
 obtain rfl : args = #[v0, v1, v2] := by cases args; simp_all
 obtain ⟨z0, hz⟩ := z3l hz
 obtain ⟨z1, hz⟩ := z3l hz
 obtain ⟨z2, hz⟩ := z3l hz
 obtain ⟨A0, c0, x0, rfl, hR0, hm0, hw0⟩ := zcz Try.underlying22 Try.underlying5 (by kernel_rfl) (hval 0 22 v0 rfl rfl) h0
 have hb0 := wf_u8 hw0
 have hs0 := z6t Try.underlying22 (of_decide_eq_true (by kernel_rfl)) h0 z0
 obtain ⟨A1, c1, x1, rfl, hR1, hm1, hw1⟩ := zcz Try.underlying22 Try.underlying5 (by kernel_rfl) (hval 1 22 v1 rfl rfl) h1
 have hb1 := wf_u8 hw1
 have hs1 := z6t Try.underlying22 (of_decide_eq_true (by kernel_rfl)) h1 z1
 obtain ⟨x2, rfl, rfl, rfl, wn2⟩ := open_int Try.underlying5 (hval 2 5 v2 rfl rfl) h2
 have hb2 := wf1_u8 wn2
 have hpre : (z4q x0 x1 x2).pre := ⟨hb0, hb1, hm0, hm1, hb2.1, hb2.2⟩
 have hc := law_calls (enter_gen Try.func5 rfl rfl) SolveTurned_ok (ρ := fun k => if k = 0 then .slice A0 x0.length c0 else if k = 1 then .slice A1 x1.length c1 else .int .i64 0) (W := W) (args := [.row 0, .row 1, .int .u8 x2]) (hp := [(0, .row false 0 (.ints .u8 x0)), (1, .row false 0 (.ints .u8 x1))]) (fun k => by (repeat' split) <;> rfl) ⟨⟨rfl, zkw hR0⟩, ⟨⟨rfl, zkw hR1⟩, trivial⟩⟩ ((z4q x0 x1 x2).pre /\ SV.bool true = .bool true) ⟨hpre, rfl⟩ (by kernel_rfl)
 simp only [z0p, SV.toV] at hc
 refine Calls.mono (show Calls Try.prog 5 #[_, _, _] W _ from hc) fun e W' hx => ?_
 obtain ⟨rfl, hb⟩ := hx
 exact ⟨_, rfl, law_post laid_out hW' rfl (by kernel_rfl) Try.underlying4 (by kernel_rfl) rfl hb⟩
theorem ze2 (os : Os) (started : os.Started) (H : Type) (enc : TypeId × Value -> H) :
  ReturnsInHanded {} Try.checked os 5 .any (Rows.solveTurnedSpec.pre6 enc Try.prog Try.f5 Rows.solveTurnedRow.domain false) (Rows.solveTurnedSpec.post enc Try.prog Try.f5 false true false false) := by
 refine returnsInHanded_of_change_sized (C := Try.checked) own_knob started (by kernel_rfl) Try.func5
  (ChangeSpec.witness6 (enc := enc) (C := Try.checked) false ⟨#[], #[.slice none 0 0, .slice none 0 0, .int .u8 0], []⟩ 8 (by kernel_rfl) (by kernel_rfl) (by kernel_rfl) (by kernel_rfl)) ?_
 intro W base args ds gs before hval0 hW hcnd hz _
 exact zb8 H enc W base args ds gs before hval0 hW hz
theorem solveTurned_holds : Rows.SolveTurnedSaid :=
 OpenClaim.holds_of_wide 5 Try.f5 rfl rfl rfl rfl rfl rfl rfl ⟨rfl, rfl, rfl, rfl, rfl⟩ rfl rfl rfl rfl rfl (by kernel_rfl) Try.func5 (by kernel_rfl)
  (of_decide_eq_true (by kernel_rfl)) (by unfold Func.isWrapper; first | (rw [if_pos (by decide +kernel)]; kernel_rfl) | (rw [if_neg (by decide +kernel)]; exact ⟨rfl, rfl⟩))
  (fun os started H enc _ => ze2 os started H enc)
end Go.Proofs.Ytggblkbecekbdaa
end
