/- SolvePriced: the law is true for every input: the given statement, with no condition of its own. -/
import Derived.Test.YtggblkbecekbdaaZG15
import Derived.Test.YtggblkbecekbdaaZG14
import Derived.Test.YtggblkbecekbdaaZG12
import Derived.Test.YtggblkbecekbdaaZG5
set_option linter.all false
set_option linter.unusedSimpArgs false
set_option linter.unusedVariables false
set_option maxRecDepth 1000000
section
namespace Go.Ql
open Go Go.Vc
def z55 (p : List Int) (a : Arc) : Arc := { a with cost := a.cost - p.getD a.src.toNat 0 + p.getD a.dst.toNat 0 }
def z2m (p : List Int) (I : Inst) : Inst := ⟨I.sup, I.arcs.map (z55 p)⟩
def zin (p s : List Int) : Nat -> Int
 | 0 => 0
 | k + 1 => zin p s k + p.getD k 0 * s.getD k 0
theorem dotK_sum (p s : List Int) : ∀ k, zin p s k = z1m (fun v => s.getD v 0 * p.getD v 0) k
 | 0 => rfl
 | k + 1 => by rw [zin, z1m, dotK_sum p s k, Int.mul_comm]
theorem dotK_bd {p s : List Int} (hp : ∀ k, -16 <= p.getD k 0 /\ p.getD k 0 <= 16) (hs : ∀ k, -200 <= s.getD k 0 /\ s.getD k 0 <= 200) : ∀ k : Nat, -(3200 * (k : Int)) <= zin p s k /\ zin p s k <= 3200 * (k : Int)
 | 0 => by simp [zin]
 | k + 1 => by
  have ih := dotK_bd hp hs k
  have h1 := hp k
  have h2 := hs k
  have h3 : -3200 <= p.getD k 0 * s.getD k 0 /\ p.getD k 0 * s.getD k 0 <= 3200 := by
   generalize p.getD k 0 = x at *
   generalize s.getD k 0 = y at *
   have a1 : 0 <= (16 - x) * (200 - y) := Int.mul_nonneg (by omega) (by omega)
   have a2 : 0 <= (16 - x) * (200 + y) := Int.mul_nonneg (by omega) (by omega)
   have a3 : 0 <= (16 + x) * (200 - y) := Int.mul_nonneg (by omega) (by omega)
   have a4 : 0 <= (16 + x) * (200 + y) := Int.mul_nonneg (by omega) (by omega)
   simp only [Int.sub_mul, Int.add_mul, Int.mul_sub, Int.mul_add] at a1 a2 a3 a4
   omega
  rw [zin]
  have e : ((k + 1 : Nat) : Int) = k + 1 := by omega
  rw [e]; omega
theorem zau {n : Nat} {l : List Arc} (p x : List Int) (ho : ∀ a ∈ l, z2l n a = true) : ∀ k, k <= l.length -> z1n (l.map (z55 p)) x k = z1n l x k - potK l x p k
 | 0, _ => rfl
 | k + 1, h => by
  have hm : l.getD k default ∈ l := by rw [List.getD_eq_getElem?_getD, List.getElem?_eq_getElem (show k < l.length by omega)]; exact List.getElem_mem _
  obtain ⟨o1, o2, o3, o4⟩ := okArc_iff.1 (ho _ hm)
  rw [z1n, z1n, zau p x ho k (by omega), z11 (by omega), potK]
  have e1 : zmr p (l.getD k default).src = p.getD (l.getD k default).src.toNat 0 := by unfold zmr; rw [if_pos o1]
  have e2 : zmr p (l.getD k default).dst = p.getD (l.getD k default).dst.toNat 0 := by unfold zmr; rw [if_pos o3]
  rw [e1, e2]
  have e3 : (z55 p (l.getD k default)).cost = (l.getD k default).cost - p.getD (l.getD k default).src.toNat 0 + p.getD (l.getD k default).dst.toNat 0 := rfl
  rw [e3]
  generalize p.getD (l.getD k default).src.toNat 0 = u
  generalize p.getD (l.getD k default).dst.toNat 0 = v
  rw [Int.add_mul, Int.sub_mul, Int.mul_sub, Int.mul_comm (x.getD k 0) u, Int.mul_comm (x.getD k 0) v]
  omega
theorem zhh {I : Inst} (h : FewI I) (hn : ∀ a ∈ I.arcs, -100 <= a.cost /\ a.cost <= 100) {p : List Int} (hp : ∀ k, -16 <= p.getD k 0 /\ p.getD k 0 <= 16) : FewI (z2m p I) := by
 refine ⟨h.n1, h.n2, by simpa [z2m] using h.m, fun a ha => ?_, h.sup, h.sum⟩
 obtain ⟨b, hb, rfl⟩ := List.mem_map.1 ha
 have := h.arc b hb
 have h1 := hn b hb
 have h2 := hp b.src.toNat
 have h3 := hp b.dst.toNat
 exact ⟨this.s0, this.s1, this.d0, this.d1, this.l0, this.l1, this.c, by show -2000 <= b.cost - _ + _; omega, by show b.cost - _ + _ <= 2000; omega⟩
theorem netK_map {f : Arc -> Arc} (hf : ∀ a, (f a).src = a.src /\ (f a).dst = a.dst) (n : Int) (l : List Arc) (x : List Int) (v : Int) : ∀ k, k <= l.length -> z2d n (l.map f) x k v = z2d n l x k v
 | 0, _ => rfl
 | k + 1, h => by
  rw [z2d, z2d, netK_map hf n l x v k (by omega), z11 (by omega)]
  unfold z3q z2l
  rw [(hf _).1, (hf _).2]
theorem zmv {I : Inst} (h : FewI I) (hn : ∀ a ∈ I.arcs, -100 <= a.cost /\ a.cost <= 100) {p : List Int} (hp : ∀ k, -16 <= p.getD k 0 /\ p.getD k 0 <= 16) {x : List Int} (hx : A64 x) : (z1g I x = 0 ↔ z1g (z2m p I) x = 0) /\ (z1g I x = 0 -> z3v I x = z3v (z2m p I) x + zin p I.sup I.sup.length) := by
 have hl : (z2m p I).arcs.length = I.arcs.length := by simp [z2m]
 have hb : Betw I x ↔ Betw (z2m p I) x := by
  unfold Betw
  rw [hl]
  refine ⟨fun hh a ha => ?_, fun hh a ha => ?_⟩
  ·have e : z18 (z2m p I) a = z55 p (z18 I a) := z11 ha
   rw [e]; exact hh a ha
  ·have e : z18 (z2m p I) a = z55 p (z18 I a) := z11 ha
   have := hh a ha
   rw [e] at this; exact this
 have hk : ∀ v : Int, z2d (z2m p I).sup.length (z2m p I).arcs x (z2m p I).arcs.length v = z2d I.sup.length I.arcs x I.arcs.length v := fun v => by
  rw [hl]; exact netK_map (f := z55 p) (fun _ => ⟨rfl, rfl⟩) _ _ _ _ _ (Nat.le_refl _)
 refine ⟨?_, fun hf => ?_⟩
 ·rw [z34 hx, z34 hx, <- hb, hl]
  refine and_congr ⟨fun _ => (zhh h hn hp).right, fun _ => h.right⟩ (and_congr Iff.rfl (and_congr Iff.rfl ?_))
  refine ⟨fun hh v hv => ?_, fun hh v hv => ?_⟩
  ·rw [<- hl, hk]; exact hh v hv
  ·rw [<- hk, hl]; exact hh v hv
 ·obtain ⟨hr, hxl, -, hnet⟩ := (z34 hx).1 hf
  have ho : ∀ a ∈ I.arcs, z2l I.sup.length a = true := fun a ha => (z1u hr ha).1
  unfold z3v
  rw [hl]
  show _ = z1n (I.arcs.map (z55 p)) x I.arcs.length + _
  rw [zau p x ho _ (Nat.le_refl _), <- net_pot x p ho _ (Nat.le_refl _), dotK_sum]
  have : z1m (fun v : Nat => z2d I.sup.length I.arcs x I.arcs.length v * p.getD v 0) I.sup.length = z1m (fun v => I.sup.getD v 0 * p.getD v 0) I.sup.length := z16 fun v hv => by rw [hnet v hv]
  rw [this]; omega
theorem priced_ray {I : Inst} {p l : List Int} (h1 : 1 <= l.length) (c1 : ∀ a ∈ l, 0 <= a /\ a < I.arcs.length) (c3 : ∀ k, k < l.length -> (z2p I (l.getD k 0)).dst = (z2p I (l.getD ((k + 1) % l.length) 0)).src) : rayS (z2m p I) l = rayS I l := by
 have hl : (z2m p I).arcs.length = I.arcs.length := by simp [z2m]
 have hk : ∀ t, t <= l.length -> rayK (z2m p I) l t = rayK I l t + z1m (fun k => p.getD (z2p I (l.getD ((k + 1) % l.length) 0)).src.toNat 0 - p.getD (z2p I (l.getD k 0)).src.toNat 0) t := fun t => by
  induction t with
  | zero => intro _; simp [rayK, z1m]
  | succ t ih =>
   intro ht
   have hm : l.getD t 0 ∈ l := by rw [List.getD_eq_getElem?_getD, List.getElem?_eq_getElem (show t < l.length by omega)]; exact List.getElem_mem _
   obtain ⟨q1, q2⟩ := c1 _ hm
   have e1 : zd8 I (l.getD t 0) = true := isArcF_iff.2 ⟨q1, q2⟩
   have e2 : zd8 (z2m p I) (l.getD t 0) = true := isArcF_iff.2 ⟨q1, by rw [hl]; exact q2⟩
   have e3 : z2p (z2m p I) (l.getD t 0) = z55 p (z2p I (l.getD t 0)) := z11 (by omega)
   rw [rayK, rayK, z1m, ih (by omega)]
   unfold zjy
   rw [if_pos e1, if_pos e2, e3, <- c3 t (by omega)]
   show _ + ((z2p I (l.getD t 0)).cost - _ + _) = _
   omega
 unfold rayS
 rw [hk _ (Nat.le_refl _), zi2 (fun k => p.getD (z2p I (l.getD k 0)).src.toNat 0) l.length (Nat.le_refl _) (by omega), Nat.mod_self]
 omega
theorem ziy {I : Inst} (h : FewI I) (hn : ∀ a ∈ I.arcs, -100 <= a.cost /\ a.cost <= 100) {p : List Int} (hp : ∀ k, -16 <= p.getD k 0 /\ p.getD k 0 <= 16) {l : List Int} : z46 I l = 0 ↔ z46 (z2m p I) l = 0 := by
 have hl : (z2m p I).arcs.length = I.arcs.length := by simp [z2m]
 have hat : ∀ a : Int, 0 <= a /\ a < I.arcs.length -> z2p (z2m p I) a = z55 p (z2p I a) := fun a ha => z11 (by omega)
 have hm : ∀ k, k < l.length -> l.getD k 0 ∈ l := fun k hk => by rw [List.getD_eq_getElem?_getD, List.getElem?_eq_getElem hk]; exact List.getElem_mem _
 have hmod : ∀ k, k < l.length -> (k + 1) % l.length < l.length := fun k hk => Nat.mod_lt _ (by omega)
 rw [turns_char, turns_char, hl]
 constructor
 ·rintro ⟨-, h1, h2, c1, c2, c3, c4, c5⟩
  refine ⟨(zhh h hn hp).right, h1, h2, c1, c2, fun k hk => ?_, fun a ha => ?_, by rw [priced_ray h1 c1 c3]; exact c5⟩
  ·rw [hat _ (c1 _ (hm k hk)), hat _ (c1 _ (hm _ (hmod k hk)))]; exact c3 k hk
  ·rw [hat _ (c1 a ha)]; exact c4 a ha
 ·rintro ⟨-, h1, h2, c1, c2, c3, c4, c5⟩
  have c3' : ∀ k, k < l.length -> (z2p I (l.getD k 0)).dst = (z2p I (l.getD ((k + 1) % l.length) 0)).src := fun k hk => by
   have := c3 k hk
   rw [hat _ (c1 _ (hm k hk)), hat _ (c1 _ (hm _ (hmod k hk)))] at this; exact this
  refine ⟨h.right, h1, h2, c1, c2, c3', fun a ha => ?_, by rw [priced_ray h1 c1 c3'] at c5; exact c5⟩
  have := c4 a ha
  rw [hat _ (c1 a ha)] at this; exact this
theorem priced_law {I : Inst} (h : FewI I) (hn : ∀ a ∈ I.arcs, -100 <= a.cost /\ a.cost <= 100) {p : List Int} (hp : ∀ k, -16 <= p.getD k 0 /\ p.getD k 0 <= 16) {v w : Wide} {i j : Int} (h1 : ValueP I v i) (h2 : ValueP (z2m p I) w j) : i = j /\ 0 < i /\ (i = 1 -> ∃ t, w = W t /\ v = W (t + zin p I.sup I.sup.length)) := by
 obtain ⟨e1, e2, e3, -⟩ := value_map h1 h2 (fun x hx => (zmv h hn hp hx).1) (fun x hx => (zmv h hn hp hx).2) ⟨fun ⟨l, hl, hh⟩ => ⟨l, (ziy h hn hp).1 hl, hh⟩, fun ⟨l, hl, hh⟩ => ⟨l, (ziy h hn hp).2 hl, hh⟩⟩
 exact ⟨e1, e2, e3⟩
end Go.Ql
end
section
namespace Go.Proofs.Ytggblkbecekbdaa
open Go Go.RowKit Go.Ql Go.Vc
def z59 (p : List Int) (d : List Int) (e : List Int) (k : Int) : FRes := { pre := Bytes p /\ Bytes d /\ p.length <= maxLen /\ d.length <= maxLen /\ Bytes e /\ e.length <= maxLen /\ 0 <= k /\ k <= 255, res := .bool (true), rows := [], eff := [] }
def zd0 : FS := fun args h => match args, h with
 | [.row 0, .row 1, .row 2, .int .u8 k], [(0, .row false ty0 (.ints .u8 p)), (1, .row false ty1 (.ints .u8 d)), (2, .row false ty2 (.ints .u8 e))] => some (z59 p d e k)
 | _, _ => none
def z8a (p : List Int) (d : List Int) (e : List Int) (k : Int) : List (Nat × Ann) := [(6, { G := (Nat), inv := fun v => ⟨[(9, .ptr 7 0 0 0), (10, .ptr 12 0 0 0), (11, .row 13), (12, .int .i64 (zin (z57 e (z00 p d k).sup.length) (z00 p d k).sup v)), (13, .int .i64 v)], [(13, .row true 2 (.ints .i64 (z57 e (z00 p d k).sup.length))), (12, .box true 30 [.row 8, .row 9]), (8, .row true 2 (.ints .i64 (z00 p d k).sup)), (9, .row true 50 (.arcs (z00 p d k).arcs)), (7, .box true 30 [.row 3, .row 4]), (3, .row true 2 (.ints .i64 (z00 p d k).sup)), (4, .row true 50 (.arcs (z00 p d k).arcs))], 14⟩, rel := fun v0 v => v <= (z00 p d k).sup.length, meas := fun v => (z00 p d k).sup.length - v }),
 (10, { G := (Nat), inv := fun a => ⟨[(9, .ptr 7 0 0 0), (10, .ptr 12 0 0 0), (11, .row 13), (12, .int .i64 (zin (z57 e (z00 p d k).sup.length) (z00 p d k).sup (z00 p d k).sup.length)), (14, .int .i64 a)], [(13, .row true 2 (.ints .i64 (z57 e (z00 p d k).sup.length))), (12, .box true 30 [.row 8, .row 9]), (8, .row true 2 (.ints .i64 (z00 p d k).sup)), (9, .row true 50 (.arcs (z1k (z55 (z57 e (z00 p d k).sup.length)) (z00 p d k).arcs a))), (7, .box true 30 [.row 3, .row 4]), (3, .row true 2 (.ints .i64 (z00 p d k).sup)), (4, .row true 50 (.arcs (z00 p d k).arcs))], 14⟩, rel := fun a0 a => a <= (z00 p d k).arcs.length, meas := fun a => (z00 p d k).arcs.length - a })]
def SolvePriced_A : List SV -> z0f -> List (Nat × Ann) := fun args h => match args, h with
 | [.row 0, .row 1, .row 2, .int .u8 k], [(0, .row false ty0 (.ints .u8 p)), (1, .row false ty1 (.ints .u8 d)), (2, .row false ty2 (.ints .u8 e))] => z8a p d e k
 | _, _ => []
def z9d : z0d := [(z8s, (true, z04 true z5z)), (zgr, (true, z04 true z9b)), (Pot_n, (true, z04 true Pot_fs)), (Plus_n, (true, z04 true zkn)), (Of_n, (true, z04 true Of_fs)), (zc1, (true, z0u true z6z))]
abbrev SolvePriced_n : Nat := 6
def zeo (p : List Int) (d : List Int) (e : List Int) (k : Int) : List (Nat × z0a) := []
def SolvePriced_IA : List SV -> z0f -> List (Nat × z0a) := fun _ _ => []
end Go.Proofs.Ytggblkbecekbdaa
end
section
namespace Go.Proofs.Ytggblkbecekbdaa
open Go Go.RowKit Go.Ql Go.Vc
abbrev z1q (e : List Int) (p : List Int) (d : List Int) (k : Int) (g : Nat) := (z1k (z55 (z57 e (z00 p d k).sup.length)) (z00 p d k).arcs g)
abbrev z4j (p : List Int) (d : List Int) (k : Int) := ((True /\ (True /\ True)) /\ ((z00 p d k).sup = (z00 p d k).sup /\ ((z00 p d k).arcs = (z00 p d k).arcs /\ True)))
abbrev z4k (e : List Int) (p : List Int) (d : List Int) (k : Int) := (zin (z57 e (z00 p d k).sup.length) (z00 p d k).sup (z00 p d k).sup.length)
def z89 (p : List Int) (d : List Int) (e : List Int) (k : Int) (ty0 ty1 ty2 : TypeId) : Prop :=
   (Bytes p /\ (Bytes d /\ (p.length <= maxLen /\ (d.length <= maxLen /\ ((0 : Int) <= k /\ (k <= (255 : Int))))))) /\ (Bytes p /\ (Bytes d /\ (p.length <= maxLen /\ (d.length <= maxLen /\ ((0 : Int) <= k /\ (k <= (255 : Int))))))) /\ (Bytes e /\ (e.length <= maxLen /\ ((0 : Int) <= ↑(z00 p d k).sup.length /\ ((↑(z00 p d k).sup.length : Int) <= 1000000)))) /\ ∃ (g0 : Nat), (g0 <= (z00 p d k).sup.length /\ ((0 = 0 /\ (0 = 0 /\ (True /\ ((0 : Int) = zin (z57 e (z00 p d k).sup.length) (z00 p d k).sup g0 /\ ((0 : Int) = ↑g0 /\ True))))) /\ (z57 e (↑(z00 p d k).sup.length : Int).toNat = z57 e (z00 p d k).sup.length /\ ((True /\ (True /\ True)) /\ ((z00 p d k).sup = (z00 p d k).sup /\ ((z00 p d k).arcs = (z00 p d k).arcs /\ (z4j p d k))))))) /\ ∀ (g : Nat), g <= (z00 p d k).sup.length -> (decide ((↑g : Int) < ↑(z00 p d k).sup.length) = true -> ((0 : Int) <= ↑g /\ ((↑g : Int) < ↑(z57 e (z00 p d k).sup.length).length)) /\ ((↑g : Int).toNat < (z57 e (z00 p d k).sup.length).length /\ (∀ (x : Int), (z57 e (z00 p d k).sup.length)[(↑g : Int).toNat]? = some x -> ((0 : Int) <= ↑g /\ ((↑g : Int) < ↑(z00 p d k).sup.length)) /\ ((↑g : Int).toNat < (z00 p d k).sup.length /\ (∀ (x_1 : Int), (z00 p d k).sup[(↑g : Int).toNat]? = some x_1 -> ∃ (g' : Nat), g' <= (z00 p d k).sup.length /\ ((z00 p d k).sup.length - g' < (z00 p d k).sup.length - g /\ ((0 = 0 /\ (0 = 0 /\ (True /\ (IntKind.i64.wrap (zin (z57 e (z00 p d k).sup.length) (z00 p d k).sup g + IntKind.i64.wrap (x * x_1)) = zin (z57 e (z00 p d k).sup.length) (z00 p d k).sup g' /\ (IntKind.i64.wrap ((↑g : Int) + (1 : Int)) = (↑g' : Int) /\ True))))) /\ (z57 e (z00 p d k).sup.length = z57 e (z00 p d k).sup.length /\ ((True /\ (True /\ True)) /\ ((z00 p d k).sup = (z00 p d k).sup /\ ((z00 p d k).arcs = (z00 p d k).arcs /\ (z4j p d k)))))))))))) /\ (decide ((↑g : Int) < ↑(z00 p d k).sup.length) = false -> ∃ (g0 : Nat), (g0 <= (z00 p d k).arcs.length /\ ((0 = 0 /\ (0 = 0 /\ (True /\ (zin (z57 e (z00 p d k).sup.length) (z00 p d k).sup g = zin (z57 e (z00 p d k).sup.length) (z00 p d k).sup (z00 p d k).sup.length /\ ((0 : Int) = ↑g0 /\ True))))) /\ (z57 e (z00 p d k).sup.length = z57 e (z00 p d k).sup.length /\ ((True /\ (True /\ True)) /\ ((z00 p d k).sup = (z00 p d k).sup /\ ((z00 p d k).arcs = z1k (z55 (z57 e (z00 p d k).sup.length)) (z00 p d k).arcs g0 /\ (z4j p d k))))))) /\ ∀ (g : Nat), g <= (z00 p d k).arcs.length -> (decide ((↑g : Int) < ↑(z1q e p d k g).length) = true -> ((0 : Int) <= ↑g /\ ((↑g : Int) < ↑(z1q e p d k g).length)) /\ ((↑g : Int).toNat < (z1q e p d k g).length /\ (∀ (x : Arc), (z1q e p d k g)[(↑g : Int).toNat]? = some x -> ((0 : Int) <= x.src /\ (x.src < (↑(z57 e (z00 p d k).sup.length).length : Int))) /\ (x.src.toNat < (z57 e (z00 p d k).sup.length).length /\ (∀ (x_1 : Int), (z57 e (z00 p d k).sup.length)[x.src.toNat]? = some x_1 -> ((0 : Int) <= x.dst /\ (x.dst < (↑(z57 e (z00 p d k).sup.length).length : Int))) /\ (x.dst.toNat < (z57 e (z00 p d k).sup.length).length /\ (∀ (x_2 : Int), (z57 e (z00 p d k).sup.length)[x.dst.toNat]? = some x_2 -> ((0 : Int) <= ↑g /\ ((↑g : Int) < ↑(z1q e p d k g).length)) /\ ((↑g : Int).toNat < (z1q e p d k g).length /\ (∀ (x_3 : Arc), (z1q e p d k g)[(↑g : Int).toNat]? = some x_3 -> ∃ (g' : Nat), g' <= (z00 p d k).arcs.length /\ ((z00 p d k).arcs.length - g' < (z00 p d k).arcs.length - g /\ ((0 = 0 /\ (0 = 0 /\ (True /\ (zin (z57 e (z00 p d k).sup.length) (z00 p d k).sup (z00 p d k).sup.length = zin (z57 e (z00 p d k).sup.length) (z00 p d k).sup (z00 p d k).sup.length /\ (IntKind.i64.wrap ((↑g : Int) + (1 : Int)) = (↑g' : Int) /\ True))))) /\ (z57 e (z00 p d k).sup.length = z57 e (z00 p d k).sup.length /\ ((True /\ (True /\ True)) /\ ((z00 p d k).sup = (z00 p d k).sup /\ ((z1q e p d k g).set (↑g : Int).toNat { src := x_3.src, dst := x_3.dst, low := x_3.low, cap := x_3.cap, cost := IntKind.i64.wrap (IntKind.i64.wrap (x.cost - x_1) + x_2) : Arc } = z1k (z55 (z57 e (z00 p d k).sup.length)) (z00 p d k).arcs g' /\ (z4j p d k)))))))))))))))) /\ (decide ((↑g : Int) < ↑(z1q e p d k g).length) = false -> (z03 (z00 p d k) = (0 : Int) /\ (SmallI (z00 p d k))) /\ (∀ (g_1 : Wide × Int), ValueP (z00 p d k) g_1.1 g_1.2 -> (z03 { sup := (z00 p d k).sup, arcs := z1k (z55 (z57 e (z00 p d k).sup.length)) (z00 p d k).arcs g : Inst } = (0 : Int) /\ (SmallI { sup := (z00 p d k).sup, arcs := z1k (z55 (z57 e (z00 p d k).sup.length)) (z00 p d k).arcs g : Inst })) /\ (∀ (g_2 : Wide × Int), ValueP { sup := (z00 p d k).sup, arcs := z1k (z55 (z57 e (z00 p d k).sup.length)) (z00 p d k).arcs g : Inst } g_2.1 g_2.2 -> True /\ ((true = true -> ((g_1.2 == g_2.2) = true -> (decide (g_1.2 > (0 : Int)) = true -> ((g_1.2 != (1 : Int)) = true -> (true = true /\ True) /\ True) /\ ((g_1.2 != (1 : Int)) = false -> I64 (z4k e p d k) /\ ((g_2.1.ok /\ ((W (z4k e p d k)).ok)) /\ ((decide ([g_1.1.hi, g_1.1.lo] = [(z3m g_2.1 (W (z4k e p d k))).hi, (z3m g_2.1 (W (z4k e p d k))).lo]) = true /\ True) /\ True)))) /\ (decide (g_1.2 > (0 : Int)) = false -> (false = true /\ True) /\ True)) /\ ((g_1.2 == g_2.2) = false -> (false = true /\ True) /\ True)) /\ (true = false -> (false = true /\ True) /\ True))))))
theorem SolvePriced_q (p : List Int) (d : List Int) (e : List Int) (k : Int) (ty0 ty1 ty2 : TypeId) : z89 p d e k ty0 ty1 ty2 = z3p TT z9d (zeo p d e k) (z8a p d e k) Try.f6 [.row 0, .row 1, .row 2, .int .u8 k] [(0, .row false ty0 (.ints .u8 p)), (1, .row false ty1 (.ints .u8 d)), (2, .row false ty2 (.ints .u8 e))] (z59 p d e k) := by kernel_rfl
theorem SolvePriced_E (p : List Int) (d : List Int) (e : List Int) (k : Int) (ty0 ty1 ty2 : TypeId) (hp : Bytes p /\ Bytes d /\ p.length <= maxLen /\ d.length <= maxLen /\ Bytes e /\ e.length <= maxLen /\ 0 <= k /\ k <= 255) : FVc TT z9d (zeo p d e k) (z8a p d e k) Try.f6 [.row 0, .row 1, .row 2, .int .u8 k] [(0, .row false ty0 (.ints .u8 p)), (1, .row false ty1 (.ints .u8 d)), (2, .row false ty2 (.ints .u8 e))] (z59 p d e k) := by
 refine FVc.of (z89 p d e k ty0 ty1 ty2) (SolvePriced_q p d e k ty0 ty1 ty2) ?_
 unfold z89
 delta z4k z4j z1q
 simp only [eq_self, exists_const, forall_const, decide_eq_true_eq, decide_eq_false_iff_not, and_true, true_and, bne_iff_ne, ne_eq, bne_eq_false_iff_eq, Int.toNat_natCast, Bool.not_eq_true', Bool.not_eq_false', beq_iff_eq, beq_eq_false_iff_ne, z09]
 obtain ⟨p1, p2, p3, p4, p5, p6, k0, k1⟩ := hp
 obtain ⟨hF, hn, hm, n7, n1, hw, hN⟩ := z96 p d k
 have hPl : (z57 e (z00 p d k).sup.length).length = (z00 p d k).sup.length := by simp [z57]
 have hPm : ∀ y ∈ z57 e (z00 p d k).sup.length, -8 <= y /\ y <= 16 := fun y hy => by
  unfold z57 at hy
  rw [List.mem_map] at hy
  obtain ⟨k, _, rfl⟩ := hy
  unfold potE
  split <;> omega
 have hPb : ∀ j, -16 <= (z57 e (z00 p d k).sup.length).getD j 0 /\ (z57 e (z00 p d k).sup.length).getD j 0 <= 16 := fun j => by
  rw [List.getD_eq_getElem?_getD]
  cases hj : (z57 e (z00 p d k).sup.length)[j]? with
  | none => exact ⟨by decide, by decide⟩
  | some u => have := hPm u (List.mem_of_getElem? hj); exact ⟨by show -16 <= u; omega, by show u <= 16; omega⟩
 generalize z57 e (z00 p d k).sup.length = P at *
 generalize z00 p d k = I at *
 have hsb : ∀ j, -200 <= I.sup.getD j 0 /\ I.sup.getD j 0 <= 200 := fun j => hw.getD (by omega) j
 have hdb := dotK_bd hPb hsb
 have hcs : ∀ a ∈ I.arcs, -100 <= a.cost /\ a.cost <= 100 := fun a ha => by have := (hN a ha).k0; have := (hN a ha).k1; omega
 have n2 := hF.n2
 have hm2 := hF.m
 simp only [z97, List.length_set]
 refine ⟨⟨p1, p2, p3, p4, k0, k1⟩, ⟨p1, p2, p3, p4, k0, k1⟩, ⟨p5, p6, by omega, by omega⟩, 0, ⟨Nat.zero_le _, rfl, rfl⟩, fun v hv => ⟨fun h1 => ⟨by omega, by omega, fun x hx => ⟨by omega, by omega, fun y hy => ⟨v + 1, by omega, by omega, ?_, by rw [w64 (by omega) (by omega)]; omega⟩⟩⟩, fun h1 => ?_⟩⟩
 ·have ex : P.getD v 0 = x := by rw [List.getD_eq_getElem?_getD, hx]; rfl
  have ey : I.sup.getD v 0 = y := by rw [List.getD_eq_getElem?_getD, hy]; rfl
  have d1 := hdb v
  have d2 := hdb (v + 1)
  rw [zin, ex, ey] at d2
  have e1 : ((v + 1 : Nat) : Int) = v + 1 := by omega
  rw [e1] at d2
  rw [w64 (x := x * y) (by omega) (by omega), w64 (by omega) (by omega), zin, ex, ey]
 have ev : v = I.sup.length := by omega
 subst ev
 refine ⟨0, ⟨Nat.zero_le _, ⟨rfl, rfl⟩, (z98 _ _).symm⟩, fun a ha => ⟨fun h2 => ⟨by omega, by omega, fun x hx => ?_⟩, fun h2 => ?_⟩⟩
 ·have hx2 := zbv hx
  have hxa := hF.arc x (List.mem_of_getElem? hx2)
  have := hxa.s0; have := hxa.s1; have := hxa.d0; have := hxa.d1
  have hc := hcs x (List.mem_of_getElem? hx2)
  refine ⟨by omega, by omega, fun u hu => ⟨by omega, by omega, fun t ht => ⟨by omega, by omega, fun z hz => ⟨a + 1, by omega, by omega, by rw [w64 (by omega) (by omega)]; omega, ?_⟩⟩⟩⟩
  rw [hx] at hz
  cases hz
  have eu : P.getD x.src.toNat 0 = u := by rw [List.getD_eq_getElem?_getD, hu]; rfl
  have et : P.getD x.dst.toNat 0 = t := by rw [List.getD_eq_getElem?_getD, ht]; rfl
  have bu := hPb x.src.toNat
  have bt := hPb x.dst.toNat
  rw [eu] at bu
  rw [et] at bt
  refine zbw hx2 ?_
  unfold z55
  rw [eu, et, w64 (x := x.cost - u) (by omega) (by omega), w64 (by omega) (by omega)]
 rw [zbu _ _ (show I.arcs.length <= a by omega)]
 have hF2 := zhh hF hcs hPb
 refine ⟨⟨hF.right, hF.small⟩, ?_⟩
 rintro ⟨v, i⟩ hv
 refine ⟨⟨hF2.right, hF2.small⟩, ?_⟩
 rintro ⟨w, j⟩ hw2
 obtain ⟨e1, e2, e3⟩ := priced_law hF hcs hPb hv hw2
 subst e1
 have hd := hdb I.sup.length
 dsimp only at e2 e3 ⊢
 refine ⟨⟨fun _ => ⟨fun _ => ⟨fun _ => trivial, fun h => ?_⟩, fun h => absurd e2 h⟩, fun h => absurd rfl h⟩, fun h => by cases h⟩
 obtain ⟨t, rfl, rfl⟩ := e3 h
 refine ⟨by unfold I64; omega, ⟨zjh _, zjh _⟩, ?_⟩
 rw [zih]
theorem SolvePriced_ok : SpecOk Try.prog SolvePriced_n true (z04 true zd0) :=
 z0b z0v (show z1w Try.prog z9d from z02 z8t (z02 zem (z02 Pot_ok (z02 Plus_ok (z02 Of_ok (z02 zcq (z06))))))) (by kernel_rfl) mixedOrders Try.func6 rfl rfl (by kernel_rfl) (n := 4) (by decide +kernel) (I := SolvePriced_IA) (fun _ _ => z07) (A := SolvePriced_A)
  (fun args h r hr => by
   unfold zd0 at hr
   split at hr
   ·rename_i k ty0 p ty1 d ty2 e; cases hr; refine ⟨rfl, fun hp => ?_⟩; have hE := SolvePriced_E p d e k ty0 ty1 ty2 hp; exact hE
   ·cases hr)
end Go.Proofs.Ytggblkbecekbdaa
end
section
namespace Go.Proofs.Ytggblkbecekbdaa
open Go Go.RowKit Go.ChangeShapes Go.WideShapes Go.ChangeAt Go.Deep Go.Ql Go.Vc
theorem zcu (H : Type) (enc : TypeId × Value -> H) (W : World) (base : Nat) (args : Array Value) (ds gs : List (DataW H)) (before : List MemPlace)
  (hval : ∀ (j : Nat) t v, Try.f6.params[j]? = some t -> args[j]? = some v -> Value.okWide Try.prog W .any base t v)
  (hW : DataW.Whole enc Try.prog Try.f6.params.toList Rows.solvePricedSpec.vars false W args.toList ds gs before)
  (hz : (DataW.weightsEach Try.prog (Try.f6.params.toList ++ Rows.solvePricedSpec.plain.varTypes Try.prog) (ds ++ gs)).all (· <= reachBytes) = true) :
  Calls Try.prog 6 args W fun e W' => ∃ v, e = .returned v /\ Rows.solvePricedSpec.post enc Try.prog Try.f6 false true false false W args v W' := by
 have hW' := hW
 obtain ⟨p, q, hA0, hV, rfl, hfz, hnd⟩ := hW
 have hA : DataW.TrodAll enc Try.prog W 0 (fun _ => true) true Try.f6.params.toList args.toList ds p := hA0
 rw [Try.params6] at hA hval hz
 obtain ⟨v0, vs0, d0, ds0, p0, q0, hargs, rfl, rfl, h0, r0⟩ := trodAll_cons hA
 obtain ⟨v1, vs1, d1, ds1, p1, q1, rfl, rfl, rfl, h1, r1⟩ := trodAll_cons r0
 obtain ⟨v2, vs2, d2, ds2, p2, q2, rfl, rfl, rfl, h2, r2⟩ := trodAll_cons r1
 obtain ⟨v3, vs3, d3, ds3, p3, q3, rfl, rfl, rfl, h3, r3⟩ := trodAll_cons r2
 obtain ⟨rfl, rfl, rfl⟩ := trodAll_nil r3
 obtain rfl : args = #[v0, v1, v2, v3] := by cases args; simp_all
 obtain ⟨z0, hz⟩ := z0m hz
 obtain ⟨z1, hz⟩ := z0m hz
 obtain ⟨z2, hz⟩ := z0m hz
 obtain ⟨z3, hz⟩ := z0m hz
 obtain ⟨A0, c0, x0, rfl, hR0, hm0, hw0⟩ := z3n Try.underlying22 Try.underlying5 (by kernel_rfl) (hval 0 22 v0 rfl rfl) h0
 have hb0 := zgi hw0
 have hs0 := z1t Try.underlying22 (of_decide_eq_true (by kernel_rfl)) h0 z0
 obtain ⟨A1, c1, x1, rfl, hR1, hm1, hw1⟩ := z3n Try.underlying22 Try.underlying5 (by kernel_rfl) (hval 1 22 v1 rfl rfl) h1
 have hb1 := zgi hw1
 have hs1 := z1t Try.underlying22 (of_decide_eq_true (by kernel_rfl)) h1 z1
 obtain ⟨A2, c2, x2, rfl, hR2, hm2, hw2⟩ := z3n Try.underlying22 Try.underlying5 (by kernel_rfl) (hval 2 22 v2 rfl rfl) h2
 have hb2 := zgi hw2
 have hs2 := z1t Try.underlying22 (of_decide_eq_true (by kernel_rfl)) h2 z2
 obtain ⟨x3, rfl, rfl, rfl, wn3⟩ := open_int Try.underlying5 (hval 3 5 v3 rfl rfl) h3
 have hb3 := zde wn3
 have hpre : (z59 x0 x1 x2 x3).pre := ⟨hb0, hb1, hm0, hm1, hb2, hm2, hb3.1, hb3.2⟩
 have hc := zb1 (zaw Try.func6 rfl rfl) SolvePriced_ok (ρ := fun k => if k = 0 then .slice A0 x0.length c0 else if k = 1 then .slice A1 x1.length c1 else if k = 2 then .slice A2 x2.length c2 else .int .i64 0) (W := W) (args := [.row 0, .row 1, .row 2, .int .u8 x3]) (hp := [(0, .row false 0 (.ints .u8 x0)), (1, .row false 0 (.ints .u8 x1)), (2, .row false 0 (.ints .u8 x2))]) (fun k => by (repeat' split) <;> rfl) ⟨⟨rfl, z5k hR0⟩, ⟨⟨rfl, z5k hR1⟩, ⟨⟨rfl, z5k hR2⟩, trivial⟩⟩⟩ ((z59 x0 x1 x2 x3).pre /\ SV.bool true = .bool true) ⟨hpre, rfl⟩ (by kernel_rfl)
 simp only [z0q, SV.toV] at hc
 refine Calls.mono (show Calls Try.prog 6 #[_, _, _, _] W _ from hc) fun e W' hx => ?_
 obtain ⟨rfl, hb⟩ := hx
 exact ⟨_, rfl, zf2 zf1 hW' rfl (by kernel_rfl) Try.underlying4 (by kernel_rfl) rfl hb⟩
theorem zg3 (os : Os) (started : os.Started) (H : Type) (enc : TypeId × Value -> H) :
  ReturnsInHanded {} Try.checked os 6 .any (Rows.solvePricedSpec.pre6 enc Try.prog Try.f6 Rows.solvePricedRow.domain false) (Rows.solvePricedSpec.post enc Try.prog Try.f6 false true false false) := by
 refine returnsInHanded_of_change_sized (C := Try.checked) zfa started (by kernel_rfl) Try.func6
  (ChangeSpec.witness6 (enc := enc) (C := Try.checked) false ⟨#[], #[.slice none 0 0, .slice none 0 0, .slice none 0 0, .int .u8 0], []⟩ 8 (by kernel_rfl) (by kernel_rfl) (by kernel_rfl) (by kernel_rfl)) ?_
 intro W base args ds gs before hval0 hW hcnd hz _
 exact zcu H enc W base args ds gs before hval0 hW hz
theorem solvePriced_holds : Rows.SolvePricedSaid :=
 OpenClaim.holds_of_wide 6 Try.f6 rfl rfl rfl rfl rfl rfl rfl ⟨rfl, rfl, rfl, rfl, rfl⟩ rfl rfl rfl rfl rfl (by kernel_rfl) Try.func6 (by kernel_rfl)
  (of_decide_eq_true (by kernel_rfl)) (by unfold Func.isWrapper; first | (rw [if_pos (by decide +kernel)]; kernel_rfl) | (rw [if_neg (by decide +kernel)]; exact ⟨rfl, rfl⟩))
  (fun os started H enc _ => zg3 os started H enc)
end Go.Proofs.Ytggblkbecekbdaa
end
