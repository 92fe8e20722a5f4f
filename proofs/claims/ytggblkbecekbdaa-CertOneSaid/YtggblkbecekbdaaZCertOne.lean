/- Part of the proof, CertOne. -/
import Derived.Test.YtggblkbecekbdaaZCert
set_option linter.all false
set_option linter.unusedSimpArgs false
set_option linter.unusedVariables false
namespace Go.Ql
open Go Go.Vc
theorem check_zero {I : Inst} {c : Cert} (h : checkF I c = 0) : rightF I = 0 ∧ plainF c = true ∧ (c.kind = 1 ∧ slackF I c.flow c.pot = 0 ∨ c.kind = 2 ∧ provesF I c.side = 0 ∨ c.kind = 3 ∧ fitsF I c.flow = 0 ∧ turnsF I c.cycle = 0) := by
  unfold checkF at h
  by_cases h1 : rightF I = 0
  · rw [if_neg (fun h2 => h2 h1)] at h
    cases hp : plainF c with
    | false => rw [hp] at h; simp at h
    | true =>
      rw [hp] at h
      simp only [Bool.true_eq_false, if_false] at h
      refine ⟨h1, rfl, ?_⟩
      rcases plainF_kind hp with hk | hk | hk
      · left; rw [if_pos hk] at h; exact ⟨hk, h⟩
      · right; left; rw [if_neg (by omega), if_pos hk] at h; exact ⟨hk, h⟩
      · right; right
        rw [if_neg (by omega), if_neg (by omega)] at h
        refine ⟨hk, ?_⟩
        by_cases hf : fitsF I c.flow = 0
        · rw [if_neg (fun h2 => h2 hf)] at h; exact ⟨hf, h⟩
        · rw [if_pos hf] at h; exact absurd h hf
  · rw [if_pos h1] at h; exact absurd h h1
theorem slack_zero {I : Inst} {x pot : List Int} (h : slackF I x pot = 0) : fitsF I x = 0 ∧ pot.length = I.sup.length ∧ ∀ k, k < I.arcs.length → slackK I x pot k = true := by
  unfold slackF at h
  by_cases h1 : fitsF I x = 0
  · rw [if_neg (fun h2 => h2 h1)] at h
    by_cases h2 : pot.length = I.sup.length
    · rw [if_neg (fun h3 => h3 h2)] at h
      refine ⟨h1, h2, fun k hk => ?_⟩
      split at h
      · rename_i h3; exact List.all_eq_true.1 h3 k (List.mem_range.2 hk)
      · omega
    · rw [if_pos h2] at h; omega
  · rw [if_pos h1] at h; exact absurd h h1
theorem turns_zero {I : Inst} {l : List Int} (h : turnsF I l = 0) : rightF I = 0 ∧ 0 < l.length ∧ l.length ≤ I.arcs.length ∧ c1F I l = true ∧ c2F l = true ∧ c3F I l = true ∧ c4F I l = true ∧ c5F I l = true := by
  unfold turnsF at h
  by_cases h1 : rightF I = 0
  · rw [if_neg (fun h2 => h2 h1)] at h
    by_cases h2 : l.length = 0 ∨ I.arcs.length < l.length
    · rw [if_pos h2] at h; omega
    · rw [if_neg h2] at h
      split at h
      · rename_i h3
        simp only [Bool.and_eq_true] at h3
        exact ⟨h1, by omega, by omega, h3.1.1.1.1, h3.1.1.1.2, h3.1.1.2, h3.1.2, h3.2⟩
      · omega
  · rw [if_pos h1] at h; exact absurd h h1
theorem potR_I64 {pot : List Int} (h : A64 pot) (n : Int) : I64 (potR pot n) := by
  unfold potR
  split
  · exact h.getD _
  · unfold I64; omega
theorem redP_I128 {I : Inst} {pot : List Int} (hr : rightF I = 0) (hp : A64 pot) {a : Arc} (ha : a ∈ I.arcs) : I128 (redP pot a) := by
  have h1 := potR_I64 hp a.src
  have h2 := potR_I64 hp a.dst
  have h3 := rightF_arc hr ha
  unfold redP redA I128
  unfold I64 at h1 h2
  omega
theorem rayK_bd {I : Inst} (hr : rightF I = 0) (l : List Int) : ∀ k : Nat, -(4398046511104 * (k : Int)) ≤ rayK I l k ∧ rayK I l k ≤ 4398046511104 * (k : Int)
  | 0 => by simp [rayK]
  | k + 1 => by
    have ih := rayK_bd hr l k
    have hd : -4398046511104 ≤ rayD I (l.getD k 0) ∧ rayD I (l.getD k 0) ≤ 4398046511104 := by
      unfold rayD
      split
      · rename_i h
        obtain ⟨h1, h2⟩ := isArcF_iff.1 h
        obtain ⟨a, ha⟩ : ∃ a, I.arcs[(l.getD k 0).toNat]? = some a := ⟨_, List.getElem?_eq_getElem (by omega)⟩
        rw [arcAt_get ha]
        have := rightF_arc hr (List.mem_of_getElem? ha)
        omega
      · omega
    rw [rayK]
    push_cast
    omega
theorem no_both {I : Inst} {x pot l : List Int} (hp : A64 pot) (hs : slackF I x pot = 0) (ht : turnsF I l = 0) : False := by
  obtain ⟨hr, hl0, hl1, c1, c2, c3, c4, c5⟩ := turns_zero ht
  obtain ⟨hf, hpl, hk⟩ := slack_zero hs
  have hrs := right_small hr
  let P : Nat → Int := fun k => potR pot (arcAt I (l.getD k 0)).src
  have step : ∀ k, k < l.length → 0 ≤ rayD I (l.getD k 0) - P k + P ((k + 1) % l.length) := fun k hkl => by
    have hx : l[k]? = some (l.getD k 0) := by rw [List.getD_eq_getElem?_getD, List.getElem?_eq_getElem hkl]; rfl
    have hm := List.mem_of_getElem? hx
    generalize hy : l.getD k 0 = y at *
    have h1 := List.all_eq_true.1 c1 y hm
    obtain ⟨y0, y1⟩ := isArcF_iff.1 h1
    obtain ⟨a, ha⟩ : ∃ a, I.arcs[y.toNat]? = some a := ⟨_, List.getElem?_eq_getElem (by omega)⟩
    have hma := List.mem_of_getElem? ha
    have hat := arcAt_get (x := y) ha
    have hcap : a.cap = inf := by
      have := List.all_eq_true.1 c4 y hm
      rw [hat] at this
      exact of_decide_eq_true this
    have hlink : (arcAt I y).dst = (arcAt I (l.getD ((k + 1) % l.length) 0)).src := by
      have := List.all_eq_true.1 c3 k (List.mem_range.2 hkl)
      unfold linkF at this
      rw [hy] at this
      exact of_decide_eq_true this
    have hsk := hk y.toNat (by omega)
    unfold slackK at hsk
    rw [redF_at ha (rightF_arc hr hma).1, show I.arcs.getD y.toNat default = a by rw [List.getD_eq_getElem?_getD, ha]; rfl] at hsk
    have h2 : ¬ sgn (redP pot a) < 0 := fun h3 => by
      unfold slackA at hsk
      simp [h3, hcap] at hsk
    have h3 : 0 ≤ redP pot a := by
      apply Classical.byContradiction
      intro h4
      exact h2 ((sgn_neg (redP_I128 hr hp hma)).2 (by omega))
    unfold redP redA at h3
    have e1 : rayD I y = a.cost := by unfold rayD; rw [h1, hat]; rfl
    have e2 : P k = potR pot a.src := by show potR pot (arcAt I (l.getD k 0)).src = _; rw [hy, hat]
    have e3 : P ((k + 1) % l.length) = potR pot a.dst := by show potR pot (arcAt I (l.getD ((k + 1) % l.length) 0)).src = _; rw [← hlink, hat]
    rw [e1, e2, e3]
    exact h3
  have sums : ∀ t, t ≤ l.length → 0 ≤ rayK I l t + sumTo (fun k => P ((k + 1) % l.length) - P k) t := fun t => by
    induction t with
    | zero => intro _; simp [rayK, sumTo]
    | succ t ih =>
      intro h
      have h1 := ih (by omega)
      have h2 := step t (by omega)
      rw [rayK, sumTo]
      omega
  have h1 := sums l.length (Nat.le_refl _)
  rw [round_zero P l.length (Nat.le_refl _) hl0, Nat.mod_self] at h1
  have h2 := rayK_bd hr l l.length
  unfold c5F rayS at c5
  have h3 := of_decide_eq_true c5
  rw [wcmp_W (by unfold I128; omega) (by unfold I128; omega)] at h3
  have h4 : ¬ rayK I l l.length < 0 := by omega
  rw [if_neg h4] at h3
  split at h3 <;> omega
theorem cost_one {I : Inst} {x y p q : List Int} (hx : A64 x) (hy : A64 y) (hp : A64 p) (hq : A64 q) (h1 : slackF I x p = 0) (h2 : slackF I y q = 0) : costF I x = costF I y := by
  obtain ⟨f1, -, -⟩ := slack_zero h1
  obtain ⟨f2, -, -⟩ := slack_zero h2
  have hr := (fitsF_iff.1 f1).1
  have a := slack_best hy hx hp h1 f2
  have b := slack_best hx hy hq h2 f1
  rw [wcmp_W (cost_I128 hr hx) (cost_I128 hr hy)] at a
  rw [wcmp_W (cost_I128 hr hy) (cost_I128 hr hx)] at b
  split at a <;> split at b <;> (try split at a) <;> (try split at b) <;> omega
theorem cert_one {I : Inst} {x y : Cert} (hx : CertOk x) (hy : CertOk y) (h1 : checkF I x = 0) (h2 : checkF I y = 0) : x.kind = y.kind ∧ valueW I x = valueW I y := by
  obtain ⟨hr, -, k1⟩ := check_zero h1
  obtain ⟨-, -, k2⟩ := check_zero h2
  have hrs := right_small hr
  have hw := (right_within hr).1
  have none_ : ∀ {s : List Bool} {f : List Int}, A64 f → provesF I s = 0 → fitsF I f = 0 → False := fun hf h3 h4 => proves_none (by omega) (by omega) hf hw h3 h4
  rcases k1 with ⟨a1, b1⟩ | ⟨a1, b1⟩ | ⟨a1, b1, d1⟩ <;> rcases k2 with ⟨a2, b2⟩ | ⟨a2, b2⟩ | ⟨a2, b2, d2⟩
  · refine ⟨by omega, ?_⟩
    unfold valueW; rw [if_pos a1, if_pos a2, cost_one hx.1 hy.1 hx.2.1 hy.2.1 b1 b2]
  · exact (none_ hx.1 b2 (slack_zero b1).1).elim
  · exact (no_both hx.2.1 b1 d2).elim
  · exact (none_ hy.1 b1 (slack_zero b2).1).elim
  · refine ⟨by omega, ?_⟩
    unfold valueW; rw [if_neg (by omega), if_neg (by omega)]
  · exact (none_ hy.1 b1 b2).elim
  · exact (no_both hy.2.1 b2 d1).elim
  · exact (none_ hx.1 b2 b1).elim
  · refine ⟨by omega, ?_⟩
    unfold valueW; rw [if_neg (by omega), if_neg (by omega)]
end Go.Ql
