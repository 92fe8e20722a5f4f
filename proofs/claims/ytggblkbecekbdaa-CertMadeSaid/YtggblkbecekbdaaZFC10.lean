/- Part of the proof, FC10. -/
import Derived.Test.YtggblkbecekbdaaZFB9
import Derived.Test.YtggblkbecekbdaaZDC10
import Derived.Test.YtggblkbecekbdaaZVc11
set_option linter.unusedVariables false
set_option linter.all false
set_option linter.unusedSimpArgs false
set_option maxRecDepth 100000
namespace Go.Proofs.Ytggblkbecekbdaa
open Go Go.RowKit Go.Ql Go.Vc
def on_E0 (side : List Bool) (n : Int) (ty0 : TypeId) : Prop :=
      (decide (n ≥ (0 : Int)) = true →
 (decide (n < (↑side.length : Int)) = true →
 ((0 : Int) ≤ n ∧ n < (↑side.length : Int)) ∧ n.toNat < side.length ∧ ∀ (x : Bool), side[n.toNat]? = some x → (x = onF side n ∧ True) ∧ True) ∧
 (decide (n < (↑side.length : Int)) = false → (false = onF side n ∧ True) ∧ True)) ∧
 (decide (n ≥ (0 : Int)) = false → (false = onF side n ∧ True) ∧ True)
theorem on_q (side : List Bool) (n : Int) (ty0 : TypeId) : on_E0 side n ty0 = FVcP TT on_g (on_I side n) (on_an side n) Try.f126 [.row 0, .int .i64 n] [(0, .row false ty0 (.bools side))] (on_r side n) := by kernel_rfl
theorem on_E (side : List Bool) (n : Int) (ty0 : TypeId) (hp : True) : FVc TT on_g (on_I side n) (on_an side n) Try.f126 [.row 0, .int .i64 n] [(0, .row false ty0 (.bools side))] (on_r side n) := by
  refine FVc.of (on_E0 side n ty0) (on_q side n ty0) ?_
  unfold on_E0
  simp only [eq_self, exists_const, forall_const, decide_eq_true_eq, decide_eq_false_iff_not, and_true, true_and, bne_iff_ne, ne_eq, bne_eq_false_iff_eq, Int.toNat_natCast, Bool.not_eq_true', Bool.not_eq_false', beq_iff_eq, beq_eq_false_iff_ne, nilEq_true]
  refine ⟨fun h => ⟨fun h2 => ⟨by omega, by omega, fun x hx => ?_⟩, fun h2 => ?_⟩, fun h => ?_⟩
  · unfold onF; simp [List.getD, hx]; omega
  · unfold onF; simp [List.getD, List.getElem?_eq_none (show side.length ≤ n.toNat by omega)]
  · unfold onF; simp; omega
theorem on_ok : SpecOk Try.prog on_n true (specOf true on_fs) :=
  spec_ok' TT_ok (show GsOk Try.prog on_g from gsOk_nil) (by kernel_rfl) mixedOrders Try.func126 rfl rfl (by kernel_rfl) (n := 2) (by decide +kernel) (I := on_IA) (fun _ _ => isOk_nil) (A := on_A)
    (fun args h r hr => by
      unfold on_fs at hr
      split at hr
      · rename_i n ty0 side; cases hr; refine ⟨rfl, fun hp => ?_⟩; have hE := on_E side n ty0 hp; exact hE
      · cases hr)
def over1_E0 (n : Int) (I : Inst) (ty1 ty2 : TypeId) : Prop :=
      (decide (n ≥ (0 : Int)) = true → (decide (n < (↑I.sup.length : Int)) = isN (↑I.sup.length : Int) n ∧ True) ∧ True) ∧
 (decide (n ≥ (0 : Int)) = false → (false = isN (↑I.sup.length : Int) n ∧ True) ∧ True)
theorem over1_q (n : Int) (I : Inst) (ty1 ty2 : TypeId) : over1_E0 n I ty1 ty2 = FVcP TT over1_g (over1_I n I) (over1_an n I) Try.f142 [.int .i64 n, .ptr 0 0 0 0] [(0, .box false 30 [.row 1, .row 2]), (1, .row false ty1 (.ints .i64 I.sup)), (2, .row false ty2 (.arcs I.arcs))] (over1_r n I) := by kernel_rfl
theorem over1_E (n : Int) (I : Inst) (ty1 ty2 : TypeId) (hp : True) : FVc TT over1_g (over1_I n I) (over1_an n I) Try.f142 [.int .i64 n, .ptr 0 0 0 0] [(0, .box false 30 [.row 1, .row 2]), (1, .row false ty1 (.ints .i64 I.sup)), (2, .row false ty2 (.arcs I.arcs))] (over1_r n I) := by
  refine FVc.of (over1_E0 n I ty1 ty2) (over1_q n I ty1 ty2) ?_
  unfold over1_E0
  simp only [eq_self, exists_const, forall_const, decide_eq_true_eq, decide_eq_false_iff_not, and_true, true_and, bne_iff_ne, ne_eq, bne_eq_false_iff_eq, Int.toNat_natCast, Bool.not_eq_true', Bool.not_eq_false', beq_iff_eq, beq_eq_false_iff_ne, nilEq_true]
  refine ⟨fun h => ?_, fun h => ?_⟩
  · unfold isN; simp [show 0 ≤ n by omega]
  · unfold isN; simp [show ¬ 0 ≤ n by omega]
theorem over1_ok : SpecOk Try.prog over1_n true (specOf true over1_fs) :=
  spec_ok' TT_ok (show GsOk Try.prog over1_g from gsOk_nil) (by kernel_rfl) mixedOrders Try.func142 rfl rfl (by kernel_rfl) (n := 2) (by decide +kernel) (I := over1_IA) (fun _ _ => isOk_nil) (A := over1_A)
    (fun args h r hr => by
      unfold over1_fs at hr
      split at hr
      · rename_i n ty1 I_s ty2 I_a; cases hr; refine ⟨rfl, fun hp => ?_⟩; have hE := over1_E n ⟨I_s, I_a⟩ ty1 ty2 hp; exact hE
      · cases hr)
theorem over_ok : SpecOk Try.prog over_n false over_spec :=
  inl_ok TT_ok (show GsOk Try.prog over_g from gsOk_nil) (by kernel_rfl) mixedOrders Try.func125 rfl rfl (by kernel_rfl) _
abbrev CRoom_a0 (x : Arc) (g : Nat × Int) (I : Inst) (side : List Bool) (R : Loop → Prop) := ((x.cap == (4611686018427387904 : Int)) = false →
 I64 x.cap ∧
 ((W g.snd).ok ∧ (W x.cap).ok) ∧
 ∃ (g' : Nat × Int),
 (g'.fst ≤ I.arcs.length ∧ roomAcc (↑I.sup.length : Int) side (List.drop g'.fst I.arcs) g'.snd = roomC I side) ∧
 I.arcs.length - g'.fst < I.arcs.length - g.fst ∧
 (True ∧
 (0 : Nat) = (0 : Nat) ∧
 (0 : Nat) = (0 : Nat) ∧
 (0 : Nat) = (0 : Nat) ∧
 True ∧
 (↑I.arcs.length : Int) = (↑I.arcs.length : Int) ∧
 IntKind.i64.wrap ((↑g.fst : Int) + (1 : Int)) = (↑g'.fst : Int) ∧ True) ∧
 R = R ∧
 (((0 : Nat) = (0 : Nat) ∧ True) ∧ True) ∧
 (True ∧ True) ∧
 (True ∧ True ∧ True) ∧
 ((wplus (W g.snd) (W x.cap)).hi = (W g'.snd).hi ∧
 (wplus (W g.snd) (W x.cap)).lo = (W g'.snd).lo ∧ True) ∧
 (True ∧ True) ∧
 ((0 : Int) = (0 : Int) ∧ (0 : Int) = (0 : Int) ∧ True) ∧
 (True ∧ True ∧ True) ∧ I.sup = I.sup ∧ I.arcs = I.arcs ∧ side = side ∧ True)
abbrev CRoom_a1 (I : Inst) (g : Nat × Int) (g' : Nat × Int) := (True ∧
 (0 : Nat) = (0 : Nat) ∧
 (0 : Nat) = (0 : Nat) ∧
 (0 : Nat) = (0 : Nat) ∧
 True ∧
 (↑I.arcs.length : Int) = (↑I.arcs.length : Int) ∧
 IntKind.i64.wrap ((↑g.fst : Int) + (1 : Int)) = (↑g'.fst : Int) ∧ True)
abbrev CRoom_a2 (g' : Nat × Int) (I : Inst) (side : List Bool) := (g'.fst ≤ I.arcs.length ∧ roomAcc (↑I.sup.length : Int) side (List.drop g'.fst I.arcs) g'.snd = roomC I side)
abbrev CRoom_a3 := ((0 : Int) = (0 : Int) ∧ (0 : Int) = (0 : Int) ∧ True)
abbrev CRoom_a4 (I : Inst) (g : Nat × Int) (g' : Nat × Int) := (True ∧
 (0 : Nat) = (0 : Nat) ∧
 (0 : Nat) = (0 : Nat) ∧
 (0 : Nat) = (0 : Nat) ∧
 True ∧ (↑I.arcs.length : Int) = (↑I.arcs.length : Int) ∧ IntKind.i64.wrap ((↑g.fst : Int) + (1 : Int)) = (↑g'.fst : Int) ∧ True)
abbrev CRoom_a5 (x : Arc) (I : Inst) (side : List Bool) := ((x.cap == (4611686018427387904 : Int)) = true →
 ((((0 : Int) = (roomW (roomC I side)).hi ∧ (0 : Int) = (roomW (roomC I side)).lo ∧ True) ∧
 false = (roomC I side).isSome ∧ True) ∧
 True) ∧
 True)
def CRoom_E0 (I : Inst) (side : List Bool) (ty0 ty1 ty2 : TypeId) : Prop :=
      ∀ (R : Loop → Prop),
 ∃ (g0 : Nat × Int),
 ((g0.fst ≤ I.arcs.length ∧ roomAcc (↑I.sup.length : Int) side (List.drop g0.fst I.arcs) g0.snd = roomC I side) ∧
 (True ∧
 (0 : Nat) = (0 : Nat) ∧ (0 : Nat) = (0 : Nat) ∧ (0 : Nat) = (0 : Nat) ∧ True ∧ (↑I.arcs.length : Int) = (↑I.arcs.length : Int) ∧ (0 : Int) = (↑g0.fst : Int) ∧ True) ∧
 R = R ∧
 (((0 : Nat) = (0 : Nat) ∧ True) ∧ True) ∧
 (True ∧ True) ∧
 (True ∧ True ∧ True) ∧
 ((0 : Int) = (W g0.snd).hi ∧ (0 : Int) = (W g0.snd).lo ∧ True) ∧
 (True ∧ True) ∧ (CRoom_a3) ∧ (True ∧ True ∧ True) ∧ I.sup = I.sup ∧ I.arcs = I.arcs ∧ side = side ∧ True) ∧
 ∀ (g : Nat × Int),
 g.fst ≤ I.arcs.length ∧ roomAcc (↑I.sup.length : Int) side (List.drop g.fst I.arcs) g.snd = roomC I side →
 (decide ((↑g.fst : Int) < (↑I.arcs.length : Int)) = true →
 ((0 : Int) ≤ (↑g.fst : Int) ∧ (↑g.fst : Int) < (↑I.arcs.length : Int)) ∧
 (↑g.fst : Int).toNat < I.arcs.length ∧
 ∀ (x : Arc),
 I.arcs[(↑g.fst : Int).toNat]? = some x →
 True ∧
 ((!isN (↑I.sup.length : Int) x.src) = true →
 ∃ (g' : Nat × Int),
 (CRoom_a2 g' I side) ∧
 I.arcs.length - g'.fst < I.arcs.length - g.fst ∧
 (CRoom_a4 I g g') ∧
 R = R ∧
 (((0 : Nat) = (0 : Nat) ∧ True) ∧ True) ∧
 (True ∧ True) ∧
 (True ∧ True ∧ True) ∧
 ((W g.snd).hi = (W g'.snd).hi ∧ (W g.snd).lo = (W g'.snd).lo ∧ True) ∧
 (True ∧ True) ∧
 (CRoom_a3) ∧
 (True ∧ True ∧ True) ∧ I.sup = I.sup ∧ I.arcs = I.arcs ∧ side = side ∧ True) ∧
 ((!isN (↑I.sup.length : Int) x.src) = false →
 True ∧
 ((!isN (↑I.sup.length : Int) x.dst) = true →
 ∃ (g' : Nat × Int),
 (CRoom_a2 g' I side) ∧
 I.arcs.length - g'.fst < I.arcs.length - g.fst ∧
 (CRoom_a4 I g g') ∧
 R = R ∧
 (((0 : Nat) = (0 : Nat) ∧ True) ∧ True) ∧
 (True ∧ True) ∧
 (True ∧ True ∧ True) ∧
 ((W g.snd).hi = (W g'.snd).hi ∧ (W g.snd).lo = (W g'.snd).lo ∧ True) ∧
 (True ∧ True) ∧
 (CRoom_a3) ∧
 (True ∧ True ∧ True) ∧ I.sup = I.sup ∧ I.arcs = I.arcs ∧ side = side ∧ True) ∧
 ((!isN (↑I.sup.length : Int) x.dst) = false →
 True ∧
 True ∧
 ((onF side x.src == onF side x.dst) = true →
 ∃ (g' : Nat × Int),
 (CRoom_a2 g' I side) ∧
 I.arcs.length - g'.fst < I.arcs.length - g.fst ∧
 (CRoom_a1 I g g') ∧
 R = R ∧
 (((0 : Nat) = (0 : Nat) ∧ True) ∧ True) ∧
 (True ∧ True) ∧
 (True ∧ True ∧ True) ∧
 ((W g.snd).hi = (W g'.snd).hi ∧ (W g.snd).lo = (W g'.snd).lo ∧ True) ∧
 (True ∧ True) ∧
 (CRoom_a3) ∧
 (True ∧ True ∧ True) ∧ I.sup = I.sup ∧ I.arcs = I.arcs ∧ side = side ∧ True) ∧
 ((onF side x.src == onF side x.dst) = false →
 True ∧
 (onF side x.src = true →
 R = R ∧
 (((1 : Int) == (-1 : Int)) = true →
 I64 x.low ∧
 ((W g.snd).ok ∧ (W x.low).ok) ∧
 ∃ (g' : Nat × Int),
 (CRoom_a2 g' I side) ∧
 I.arcs.length - g'.fst < I.arcs.length - g.fst ∧
 (CRoom_a1 I g g') ∧
 R = R ∧
 (((0 : Nat) = (0 : Nat) ∧ True) ∧ True) ∧
 (True ∧ True) ∧
 (True ∧ True ∧ True) ∧
 ((wminus (W g.snd) (W x.low)).hi = (W g'.snd).hi ∧
 (wminus (W g.snd) (W x.low)).lo = (W g'.snd).lo ∧ True) ∧
 (True ∧ True) ∧
 (CRoom_a3) ∧
 (True ∧ True ∧ True) ∧ I.sup = I.sup ∧ I.arcs = I.arcs ∧ side = side ∧ True) ∧
 (((1 : Int) == (-1 : Int)) = false →
 (CRoom_a5 x I side) ∧
 (CRoom_a0 x g I side R))) ∧
 (onF side x.src = false →
 R = R ∧
 (((-1 : Int) == (-1 : Int)) = true →
 I64 x.low ∧
 ((W g.snd).ok ∧ (W x.low).ok) ∧
 ∃ (g' : Nat × Int),
 (CRoom_a2 g' I side) ∧
 I.arcs.length - g'.fst < I.arcs.length - g.fst ∧
 (CRoom_a1 I g g') ∧
 R = R ∧
 (((0 : Nat) = (0 : Nat) ∧ True) ∧ True) ∧
 (True ∧ True) ∧
 (True ∧ True ∧ True) ∧
 ((wminus (W g.snd) (W x.low)).hi = (W g'.snd).hi ∧
 (wminus (W g.snd) (W x.low)).lo = (W g'.snd).lo ∧ True) ∧
 (True ∧ True) ∧
 (CRoom_a3) ∧
 (True ∧ True ∧ True) ∧ I.sup = I.sup ∧ I.arcs = I.arcs ∧ side = side ∧ True) ∧
 (((-1 : Int) == (-1 : Int)) = false →
 (CRoom_a5 x I side) ∧
 (CRoom_a0 x g I side R))))))) ∧
 (decide ((↑g.fst : Int) < (↑I.arcs.length : Int)) = false →
 ((((W g.snd).hi = (roomW (roomC I side)).hi ∧ (W g.snd).lo = (roomW (roomC I side)).lo ∧ True) ∧ true = (roomC I side).isSome ∧ True) ∧ True) ∧ True)
theorem CRoom_q (I : Inst) (side : List Bool) (ty0 ty1 ty2 : TypeId) : CRoom_E0 I side ty0 ty1 ty2 = FVcP TT CRoom_g (CRoom_I I side) (CRoom_an I side) Try.f97 [.agg [.row 0, .row 1], .row 2] [(0, .row false ty0 (.ints .i64 I.sup)), (1, .row false ty1 (.arcs I.arcs)), (2, .row false ty2 (.bools side))] (CRoom_r I side) := by kernel_rfl
theorem CRoom_E (I : Inst) (side : List Bool) (ty0 ty1 ty2 : TypeId) (hp : A64a I.arcs ∧ I.arcs.length ≤ 140737488351232) : FVc TT CRoom_g (CRoom_I I side) (CRoom_an I side) Try.f97 [.agg [.row 0, .row 1], .row 2] [(0, .row false ty0 (.ints .i64 I.sup)), (1, .row false ty1 (.arcs I.arcs)), (2, .row false ty2 (.bools side))] (CRoom_r I side) := by
  refine FVc.of (CRoom_E0 I side ty0 ty1 ty2) (CRoom_q I side ty0 ty1 ty2) ?_
  unfold CRoom_E0
  delta CRoom_a5 CRoom_a4 CRoom_a3 CRoom_a2 CRoom_a1 CRoom_a0
  obtain ⟨p1, p2⟩ := hp
  simp only [eq_self, exists_const, forall_const, decide_eq_true_eq, decide_eq_false_iff_not, and_true, true_and, bne_iff_ne, ne_eq, bne_eq_false_iff_eq, Int.toNat_natCast, Bool.not_eq_true', Bool.not_eq_false', beq_iff_eq, beq_eq_false_iff_ne, nilEq_true]
  refine ⟨(0, 0), ⟨⟨Nat.zero_le _, rfl⟩, rfl, by decide, by decide⟩, fun g hg => ⟨fun h1 => ⟨by omega, by omega, fun x hx => ?_⟩, fun h1 => ?_⟩⟩
  · obtain ⟨g1, g2⟩ := hg
    rw [drop_get hx, roomAcc_cons] at g2
    have hm := p1 x (List.mem_of_getElem? hx)
    have wk : IntKind.i64.wrap ((g.1 : Int) + 1) = ((g.1 + 1 : Nat) : Int) := by rw [w64 (by omega) (by omega)]; omega
    refine ⟨fun h2 => ⟨(g.1 + 1, g.2), ⟨by dsimp only; omega, ?_⟩, by dsimp only; omega, wk, rfl, rfl⟩, fun h2 => ⟨fun h3 => ⟨(g.1 + 1, g.2), ⟨by dsimp only; omega, ?_⟩, by dsimp only; omega, wk, rfl, rfl⟩,
      fun h3 => ⟨fun h4 => ⟨(g.1 + 1, g.2), ⟨by dsimp only; omega, ?_⟩, by dsimp only; omega, wk, rfl, rfl⟩, fun h4 => ⟨fun h5 => ⟨fun h => by omega, fun _ => ⟨fun h6 => ?_, fun h6 => ⟨hm.2, ⟨W_ok _, W_ok _⟩, (g.1 + 1, g.2 + x.cap), ⟨by dsimp only; omega, ?_⟩, by dsimp only; omega, wk, by rw [wplus_W], by rw [wplus_W]⟩⟩⟩,
        fun h5 => ⟨⟨hm.1, ⟨W_ok _, W_ok _⟩, (g.1 + 1, g.2 - x.low), ⟨by dsimp only; omega, ?_⟩, by dsimp only; omega, wk, by rw [wminus_W], by rw [wminus_W]⟩, fun h => absurd trivial h⟩⟩⟩⟩⟩
    · simpa [outA, inA, h2] using g2
    · simpa [outA, inA, h2, h3] using g2
    · simpa [outA, inA, h2, h3, h4] using g2
    · have h7 : onF side x.dst = false := by cases h : onF side x.dst <;> simp_all
      have : roomC I side = none := by rw [← g2]; simp [outA, h2, h3, h5, h7, inf, h6]
      rw [this]
      exact ⟨⟨rfl, rfl⟩, rfl⟩
    · have h7 : onF side x.dst = false := by cases h : onF side x.dst <;> simp_all
      simpa [outA, inA, h2, h3, h5, h7, inf, h6] using g2
    · have h7 : onF side x.dst = true := by cases h : onF side x.dst <;> simp_all
      simpa [outA, inA, h2, h3, h5, h7] using g2
  · obtain ⟨g1, g2⟩ := hg
    rw [drop_end (by omega)] at g2
    rw [← g2]
    exact ⟨⟨rfl, rfl⟩, rfl⟩
theorem CRoom_i0_ok (I : Inst) (side : List Bool) : ISpecOk Try.prog 143 (CRoom_i0 I side) :=
  inlI_ok TT_ok (show GsOk Try.prog CRoom_i0g from gsOk_cons over1_ok (gsOk_cons on_ok (gsOk_nil))) (by kernel_rfl) mixedOrders Try.func143 rfl rfl (fun key spec => by kernel_rfl) _
theorem CRoom_ok : SpecOk Try.prog CRoom_n true (specOf true CRoom_fs) :=
  spec_ok' TT_ok (show GsOk Try.prog CRoom_g from gsOk_cons over_ok (gsOk_cons Minus_ok (gsOk_cons Of_ok (gsOk_cons Plus_ok (gsOk_nil))))) (by kernel_rfl) mixedOrders Try.func97 rfl rfl (by kernel_rfl) (n := 2) (by decide +kernel) (I := CRoom_IA) (fun args h => by
      unfold CRoom_IA
      split
      · exact isOk_cons (CRoom_i0_ok _ _) (isOk_nil)
      · exact isOk_nil) (A := CRoom_A)
    (fun args h r hr => by
      unfold CRoom_fs at hr
      split at hr
      · rename_i ty0 I_s ty1 I_a ty2 side; cases hr; refine ⟨rfl, fun hp => ?_⟩; have hE := CRoom_E ⟨I_s, I_a⟩ side ty0 ty1 ty2 hp; exact hE
      · cases hr)
def Need_E0 (I : Inst) (side : List Bool) (ty0 ty1 ty2 : TypeId) : Prop :=
      ∃ (g0 : Nat),
 (g0 ≤ I.sup.length ∧
 (True ∧ (0 : Nat) = (0 : Nat) ∧ (0 : Nat) = (0 : Nat) ∧ True ∧ (↑I.sup.length : Int) = (↑I.sup.length : Int) ∧ (0 : Int) = (↑g0 : Int) ∧ True) ∧
 ((0 : Int) = (W (needK side I.sup g0)).hi ∧ (0 : Int) = (W (needK side I.sup g0)).lo ∧ True) ∧
 ((0 : Int) = (0 : Int) ∧ (0 : Int) = (0 : Int) ∧ True) ∧ I.sup = I.sup ∧ side = side ∧ True) ∧
 ∀ (g : Nat),
 g ≤ I.sup.length →
 (decide ((↑g : Int) < (↑I.sup.length : Int)) = true →
 ((0 : Int) ≤ (↑g : Int) ∧ (↑g : Int) < (↑I.sup.length : Int)) ∧
 (↑g : Int).toNat < I.sup.length ∧
 ∀ (x : Int),
 I.sup[(↑g : Int).toNat]? = some x →
 True ∧
 (onF side (↑g : Int) = true →
 I64 x ∧
 ((W (needK side I.sup g)).ok ∧ (W x).ok) ∧
 ∃ (g' : Nat),
 g' ≤ I.sup.length ∧
 I.sup.length - g' < I.sup.length - g ∧
 (True ∧
 (0 : Nat) = (0 : Nat) ∧
 (0 : Nat) = (0 : Nat) ∧
 True ∧ (↑I.sup.length : Int) = (↑I.sup.length : Int) ∧ IntKind.i64.wrap ((↑g : Int) + (1 : Int)) = (↑g' : Int) ∧ True) ∧
 ((wplus (W (needK side I.sup g)) (W x)).hi = (W (needK side I.sup g')).hi ∧
 (wplus (W (needK side I.sup g)) (W x)).lo = (W (needK side I.sup g')).lo ∧ True) ∧
 ((0 : Int) = (0 : Int) ∧ (0 : Int) = (0 : Int) ∧ True) ∧ I.sup = I.sup ∧ side = side ∧ True) ∧
 (onF side (↑g : Int) = false →
 ∃ (g' : Nat),
 g' ≤ I.sup.length ∧
 I.sup.length - g' < I.sup.length - g ∧
 (True ∧
 (0 : Nat) = (0 : Nat) ∧
 (0 : Nat) = (0 : Nat) ∧
 True ∧ (↑I.sup.length : Int) = (↑I.sup.length : Int) ∧ IntKind.i64.wrap ((↑g : Int) + (1 : Int)) = (↑g' : Int) ∧ True) ∧
 ((W (needK side I.sup g)).hi = (W (needK side I.sup g')).hi ∧ (W (needK side I.sup g)).lo = (W (needK side I.sup g')).lo ∧ True) ∧
 ((0 : Int) = (0 : Int) ∧ (0 : Int) = (0 : Int) ∧ True) ∧ I.sup = I.sup ∧ side = side ∧ True)) ∧
 (decide ((↑g : Int) < (↑I.sup.length : Int)) = false →
 (((W (needK side I.sup g)).hi = (W (needF I side)).hi ∧ (W (needK side I.sup g)).lo = (W (needF I side)).lo ∧ True) ∧ True) ∧ True)
theorem Need_q (I : Inst) (side : List Bool) (ty0 ty1 ty2 : TypeId) : Need_E0 I side ty0 ty1 ty2 = FVcP TT Need_g (Need_I I side) (Need_an I side) Try.f98 [.agg [.row 0, .row 1], .row 2] [(0, .row false ty0 (.ints .i64 I.sup)), (1, .row false ty1 (.arcs I.arcs)), (2, .row false ty2 (.bools side))] (Need_r I side) := by kernel_rfl
theorem Need_E (I : Inst) (side : List Bool) (ty0 ty1 ty2 : TypeId) (hp : A64 I.sup ∧ I.sup.length ≤ 140737488351232) : FVc TT Need_g (Need_I I side) (Need_an I side) Try.f98 [.agg [.row 0, .row 1], .row 2] [(0, .row false ty0 (.ints .i64 I.sup)), (1, .row false ty1 (.arcs I.arcs)), (2, .row false ty2 (.bools side))] (Need_r I side) := by
  refine FVc.of (Need_E0 I side ty0 ty1 ty2) (Need_q I side ty0 ty1 ty2) ?_
  unfold Need_E0
  obtain ⟨p1, p2⟩ := hp
  simp only [eq_self, exists_const, forall_const, decide_eq_true_eq, decide_eq_false_iff_not, and_true, true_and, bne_iff_ne, ne_eq, bne_eq_false_iff_eq, Int.toNat_natCast, Bool.not_eq_true', Bool.not_eq_false', beq_iff_eq, beq_eq_false_iff_ne, nilEq_true]
  refine ⟨0, ⟨Nat.zero_le _, rfl, by simp only [needK]; decide, by simp only [needK]; decide⟩, fun g hg => ⟨fun h1 => ⟨by omega, by omega, fun x hx => ?_⟩, fun h1 => ?_⟩⟩
  · have hm := p1 x (List.mem_of_getElem? hx)
    have wk : IntKind.i64.wrap ((g : Int) + 1) = ((g + 1 : Nat) : Int) := by rw [w64 (by omega) (by omega)]; omega
    have hd : I.sup.getD g 0 = x := by simp [List.getD, hx]
    refine ⟨fun h2 => ⟨hm, ⟨W_ok _, W_ok _⟩, g + 1, by omega, by omega, wk, ?_, ?_⟩, fun h2 => ⟨g + 1, by omega, by omega, wk, ?_, ?_⟩⟩
    all_goals (rw [onF_nat] at h2; simp only [needK, hd, h2, if_true, if_false, wplus_W, Int.add_zero, Bool.false_eq_true])
  · have : g = I.sup.length := by omega
    subst this
    exact ⟨rfl, rfl⟩
theorem Need_ok : SpecOk Try.prog Need_n true (specOf true Need_fs) :=
  spec_ok' TT_ok (show GsOk Try.prog Need_g from gsOk_cons on_ok (gsOk_cons Plus_ok (gsOk_cons Of_ok (gsOk_nil)))) (by kernel_rfl) mixedOrders Try.func98 rfl rfl (by kernel_rfl) (n := 2) (by decide +kernel) (I := Need_IA) (fun _ _ => isOk_nil) (A := Need_A)
    (fun args h r hr => by
      unfold Need_fs at hr
      split at hr
      · rename_i ty0 I_s ty1 I_a ty2 side; cases hr; refine ⟨rfl, fun hp => ?_⟩; have hE := Need_E ⟨I_s, I_a⟩ side ty0 ty1 ty2 hp; exact hE
      · cases hr)
def Proves_E0 (I : Inst) (side : List Bool) (ty0 ty1 ty2 : TypeId) : Prop :=
      True ∧
 ((rightF I != (0 : Int)) = true → (rightF I = provesF I side ∧ True) ∧ True) ∧
 ((rightF I != (0 : Int)) = false →
 (((↑side.length : Int) != (↑I.sup.length : Int)) = true → ((30 : Int) = provesF I side ∧ True) ∧ True) ∧
 (((↑side.length : Int) != (↑I.sup.length : Int)) = false →
 (A64a I.arcs ∧ I.arcs.length ≤ (140737488351232 : Nat)) ∧
 ((!(roomC I side).isSome) = true → ((34 : Int) = provesF I side ∧ True) ∧ True) ∧
 ((!(roomC I side).isSome) = false →
 (A64 I.sup ∧ I.sup.length ≤ (140737488351232 : Nat)) ∧
 ((W (needF I side)).ok ∧ (roomW (roomC I side)).ok) ∧
 (decide (wcmp (W (needF I side)) (roomW (roomC I side)) ≤ (0 : Int)) = true → ((34 : Int) = provesF I side ∧ True) ∧ True) ∧
 (decide (wcmp (W (needF I side)) (roomW (roomC I side)) ≤ (0 : Int)) = false → ((0 : Int) = provesF I side ∧ True) ∧ True))))
theorem Proves_q (I : Inst) (side : List Bool) (ty0 ty1 ty2 : TypeId) : Proves_E0 I side ty0 ty1 ty2 = FVcP TT Proves_g (Proves_I I side) (Proves_an I side) Try.f57 [.agg [.row 0, .row 1], .row 2] [(0, .row false ty0 (.ints .i64 I.sup)), (1, .row false ty1 (.arcs I.arcs)), (2, .row false ty2 (.bools side))] (Proves_r I side) := by kernel_rfl
theorem Proves_E (I : Inst) (side : List Bool) (ty0 ty1 ty2 : TypeId) (hp : A64a I.arcs ∧ I.arcs.length ≤ 140737488351232 ∧ A64 I.sup ∧ I.sup.length ≤ 140737488351232) : FVc TT Proves_g (Proves_I I side) (Proves_an I side) Try.f57 [.agg [.row 0, .row 1], .row 2] [(0, .row false ty0 (.ints .i64 I.sup)), (1, .row false ty1 (.arcs I.arcs)), (2, .row false ty2 (.bools side))] (Proves_r I side) := by
  refine FVc.of (Proves_E0 I side ty0 ty1 ty2) (Proves_q I side ty0 ty1 ty2) ?_
  unfold Proves_E0
  obtain ⟨p1, p2, p3, p4⟩ := hp
  simp only [eq_self, exists_const, forall_const, decide_eq_true_eq, decide_eq_false_iff_not, and_true, true_and, bne_iff_ne, ne_eq, bne_eq_false_iff_eq, Int.toNat_natCast, Bool.not_eq_true', Bool.not_eq_false', beq_iff_eq, beq_eq_false_iff_ne, nilEq_true]
  unfold provesF
  refine ⟨fun h => ?_, fun h => ⟨fun h2 => ?_, fun h2 => ⟨⟨p1, p2⟩, fun h3 => ?_, fun h3 => ?_⟩⟩⟩
  · simp [h]
  · simp [h, show side.length ≠ I.sup.length by omega]
  · simp only [h, ne_eq, not_true, if_false, show side.length = I.sup.length by omega]
    cases hr : roomC I side with
    | none => simp
    | some s => rw [hr] at h3; cases h3
  · cases hr : roomC I side with
    | none => rw [hr] at h3; cases h3
    | some s =>
      simp only [h, ne_eq, not_true, if_false, show side.length = I.sup.length by omega, roomW]
      refine ⟨⟨p3, p4⟩, ⟨W_ok _, W_ok _⟩, fun h4 => ?_, fun h4 => ?_⟩
      · simp [h4]
      · simp [h4]
theorem Proves_ok : SpecOk Try.prog Proves_n true (specOf true Proves_fs) :=
  spec_ok' TT_ok (show GsOk Try.prog Proves_g from gsOk_cons Right_ok (gsOk_cons CRoom_ok (gsOk_cons Need_ok (gsOk_cons Compare_ok (gsOk_nil))))) (by kernel_rfl) mixedOrders Try.func57 rfl rfl (by kernel_rfl) (n := 2) (by decide +kernel) (I := Proves_IA) (fun _ _ => isOk_nil) (A := Proves_A)
    (fun args h r hr => by
      unfold Proves_fs at hr
      split at hr
      · rename_i ty0 I_s ty1 I_a ty2 side; cases hr; refine ⟨rfl, fun hp => ?_⟩; have hE := Proves_E ⟨I_s, I_a⟩ side ty0 ty1 ty2 hp; exact hE
      · cases hr)
end Go.Proofs.Ytggblkbecekbdaa
