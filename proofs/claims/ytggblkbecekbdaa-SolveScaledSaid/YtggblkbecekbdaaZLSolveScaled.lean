/- SolveScaled: the law is true for every input: the given statement, with no condition of its own. -/
import Derived.Test.YtggblkbecekbdaaZG15
import Derived.Test.YtggblkbecekbdaaZG6
import Derived.Test.YtggblkbecekbdaaZG12
import Derived.Test.YtggblkbecekbdaaZG5
import Derived.Test.YtggblkbecekbdaaZG7
set_option linter.all false
set_option linter.unusedSimpArgs false
set_option linter.unusedVariables false
set_option maxRecDepth 1000000
section
namespace Go.Ql
open Go Go.Vc
def z55 (p:List Int) (a:Arc):Arc:={ a with cost:=a.cost - p.getD a.src.toNat 0 + p.getD a.dst.toNat 0 }
def z2m (p:List Int) (I:Inst):Inst:=⟨I.sup,I.arcs.map (z55 p)⟩
def zin (p s:List Int):Nat->Int
 | 0=>0
 | k + 1=>zin p s k + p.getD k 0 * s.getD k 0
theorem dotK_sum (p s:List Int):∀ k,zin p s k = z1m (fun v=>s.getD v 0 * p.getD v 0) k
 | 0=>rfl
 | k + 1=>by rw [zin,z1m,dotK_sum p s k,Int.mul_comm]
theorem dotK_bd {p s:List Int} (hp:∀ k,-16 <= p.getD k 0/\p.getD k 0 <= 16) (hs:∀ k,-200 <= s.getD k 0/\s.getD k 0 <= 200):∀ k:Nat,-(3200 * (k:Int)) <= zin p s k/\zin p s k <= 3200 * (k:Int)
 | 0=>by simp [zin]
 | k + 1=>by
  have ih:=dotK_bd hp hs k
  have h1:=hp k
  have h2:=hs k
  have h3:-3200 <= p.getD k 0 * s.getD k 0/\p.getD k 0 * s.getD k 0 <= 3200:=by
   generalize p.getD k 0 = x at *
   generalize s.getD k 0 = y at *
   have a1:0 <= (16 - x) * (200 - y):=Int.mul_nonneg (by omega) (by omega)
   have a2:0 <= (16 - x) * (200 + y):=Int.mul_nonneg (by omega) (by omega)
   have a3:0 <= (16 + x) * (200 - y):=Int.mul_nonneg (by omega) (by omega)
   have a4:0 <= (16 + x) * (200 + y):=Int.mul_nonneg (by omega) (by omega)
   simp only [Int.sub_mul,Int.add_mul,Int.mul_sub,Int.mul_add] at a1 a2 a3 a4
   omega
  rw [zin]
  have e:((k + 1:Nat):Int) = k + 1:=by omega
  rw [e]; omega
theorem zau {n:Nat} {l:List Arc} (p x:List Int) (ho:∀ a ∈ l,z2l n a = true):∀ k,k <= l.length->z1n (l.map (z55 p)) x k = z1n l x k - potK l x p k
 | 0,_=>rfl
 | k + 1,h=>by
  have hm:l.getD k default ∈ l:=by rw [List.getD_eq_getElem?_getD,List.getElem?_eq_getElem (show k < l.length by omega)]; exact List.getElem_mem _
  obtain ⟨o1,o2,o3,o4⟩:=okArc_iff.1 (ho _ hm)
  rw [z1n,z1n,zau p x ho k (by omega),z11 (by omega),potK]
  have e1:zmr p (l.getD k default).src = p.getD (l.getD k default).src.toNat 0:=by unfold zmr; rw [if_pos o1]
  have e2:zmr p (l.getD k default).dst = p.getD (l.getD k default).dst.toNat 0:=by unfold zmr; rw [if_pos o3]
  rw [e1,e2]
  have e3:(z55 p (l.getD k default)).cost = (l.getD k default).cost - p.getD (l.getD k default).src.toNat 0 + p.getD (l.getD k default).dst.toNat 0:=rfl
  rw [e3]
  generalize p.getD (l.getD k default).src.toNat 0 = u
  generalize p.getD (l.getD k default).dst.toNat 0 = v
  rw [Int.add_mul,Int.sub_mul,Int.mul_sub,Int.mul_comm (x.getD k 0) u,Int.mul_comm (x.getD k 0) v]
  omega
theorem zhh {I:Inst} (h:FewI I) (hn:∀ a ∈ I.arcs,-100 <= a.cost/\a.cost <= 100) {p:List Int} (hp:∀ k,-16 <= p.getD k 0/\p.getD k 0 <= 16):FewI (z2m p I):=by
 refine ⟨h.n1,h.n2,by simpa [z2m] using h.m,fun a ha=>?_,h.sup,h.sum⟩
 obtain ⟨b,hb,rfl⟩:=List.mem_map.1 ha
 have:=h.arc b hb
 have h1:=hn b hb
 have h2:=hp b.src.toNat
 have h3:=hp b.dst.toNat
 exact ⟨this.s0,this.s1,this.d0,this.d1,this.l0,this.l1,this.c,by show -2000 <= b.cost - _ + _; omega,by show b.cost - _ + _ <= 2000; omega⟩
theorem netK_map {f:Arc->Arc} (hf:∀ a,(f a).src = a.src/\(f a).dst = a.dst) (n:Int) (l:List Arc) (x:List Int) (v:Int):∀ k,k <= l.length->z2d n (l.map f) x k v = z2d n l x k v
 | 0,_=>rfl
 | k + 1,h=>by
  rw [z2d,z2d,netK_map hf n l x v k (by omega),z11 (by omega)]
  unfold z3q z2l
  rw [(hf _).1,(hf _).2]
theorem zmv {I:Inst} (h:FewI I) (hn:∀ a ∈ I.arcs,-100 <= a.cost/\a.cost <= 100) {p:List Int} (hp:∀ k,-16 <= p.getD k 0/\p.getD k 0 <= 16) {x:List Int} (hx:A64 x):(z1g I x = 0 ↔ z1g (z2m p I) x = 0)/\(z1g I x = 0->z3v I x = z3v (z2m p I) x + zin p I.sup I.sup.length):=by
 have hl:(z2m p I).arcs.length = I.arcs.length:=by simp [z2m]
 have hb:Betw I x ↔ Betw (z2m p I) x:=by
  unfold Betw
  rw [hl]
  refine ⟨fun hh a ha=>?_,fun hh a ha=>?_⟩
  ·have e:z18 (z2m p I) a = z55 p (z18 I a):=z11 ha
   rw [e]; exact hh a ha
  ·have e:z18 (z2m p I) a = z55 p (z18 I a):=z11 ha
   have:=hh a ha
   rw [e] at this; exact this
 have hk:∀ v:Int,z2d (z2m p I).sup.length (z2m p I).arcs x (z2m p I).arcs.length v = z2d I.sup.length I.arcs x I.arcs.length v:=fun v=>by
  rw [hl]; exact netK_map (f:=z55 p) (fun _=>⟨rfl,rfl⟩) _ _ _ _ _ (Nat.le_refl _)
 refine ⟨?_,fun hf=>?_⟩
 ·rw [z34 hx,z34 hx,<- hb,hl]
  refine and_congr ⟨fun _=>(zhh h hn hp).right,fun _=>h.right⟩ (and_congr Iff.rfl (and_congr Iff.rfl ?_))
  refine ⟨fun hh v hv=>?_,fun hh v hv=>?_⟩
  ·rw [<- hl,hk]; exact hh v hv
  ·rw [<- hk,hl]; exact hh v hv
 ·obtain ⟨hr,hxl,-,hnet⟩:=(z34 hx).1 hf
  have ho:∀ a ∈ I.arcs,z2l I.sup.length a = true:=fun a ha=>(z1u hr ha).1
  unfold z3v
  rw [hl]
  show _ = z1n (I.arcs.map (z55 p)) x I.arcs.length + _
  rw [zau p x ho _ (Nat.le_refl _),<- net_pot x p ho _ (Nat.le_refl _),dotK_sum]
  have:z1m (fun v:Nat=>z2d I.sup.length I.arcs x I.arcs.length v * p.getD v 0) I.sup.length = z1m (fun v=>I.sup.getD v 0 * p.getD v 0) I.sup.length:=z16 fun v hv=>by rw [hnet v hv]
  rw [this]; omega
theorem priced_ray {I:Inst} {p l:List Int} (h1:1 <= l.length) (c1:∀ a ∈ l,0 <= a/\a < I.arcs.length) (c3:∀ k,k < l.length->(z2p I (l.getD k 0)).dst = (z2p I (l.getD ((k + 1) % l.length) 0)).src):rayS (z2m p I) l = rayS I l:=by
 have hl:(z2m p I).arcs.length = I.arcs.length:=by simp [z2m]
 have hk:∀ t,t <= l.length->rayK (z2m p I) l t = rayK I l t + z1m (fun k=>p.getD (z2p I (l.getD ((k + 1) % l.length) 0)).src.toNat 0 - p.getD (z2p I (l.getD k 0)).src.toNat 0) t:=fun t=>by
  induction t with
  | zero=>intro _; simp [rayK,z1m]
  | succ t ih =>
   intro ht
   have hm:l.getD t 0 ∈ l:=by rw [List.getD_eq_getElem?_getD,List.getElem?_eq_getElem (show t < l.length by omega)]; exact List.getElem_mem _
   obtain ⟨q1,q2⟩:=c1 _ hm
   have e1:zd8 I (l.getD t 0) = true:=isArcF_iff.2 ⟨q1,q2⟩
   have e2:zd8 (z2m p I) (l.getD t 0) = true:=isArcF_iff.2 ⟨q1,by rw [hl]; exact q2⟩
   have e3:z2p (z2m p I) (l.getD t 0) = z55 p (z2p I (l.getD t 0)):=z11 (by omega)
   rw [rayK,rayK,z1m,ih (by omega)]
   unfold zjy
   rw [if_pos e1,if_pos e2,e3,<- c3 t (by omega)]
   show _ + ((z2p I (l.getD t 0)).cost - _ + _) = _
   omega
 unfold rayS
 rw [hk _ (Nat.le_refl _),zi2 (fun k=>p.getD (z2p I (l.getD k 0)).src.toNat 0) l.length (Nat.le_refl _) (by omega),Nat.mod_self]
 omega
theorem ziy {I:Inst} (h:FewI I) (hn:∀ a ∈ I.arcs,-100 <= a.cost/\a.cost <= 100) {p:List Int} (hp:∀ k,-16 <= p.getD k 0/\p.getD k 0 <= 16) {l:List Int}:z46 I l = 0 ↔ z46 (z2m p I) l = 0:=by
 have hl:(z2m p I).arcs.length = I.arcs.length:=by simp [z2m]
 have hat:∀ a:Int,0 <= a/\a < I.arcs.length->z2p (z2m p I) a = z55 p (z2p I a):=fun a ha=>z11 (by omega)
 have hm:∀ k,k < l.length->l.getD k 0 ∈ l:=fun k hk=>by rw [List.getD_eq_getElem?_getD,List.getElem?_eq_getElem hk]; exact List.getElem_mem _
 have hmod:∀ k,k < l.length->(k + 1) % l.length < l.length:=fun k hk=>Nat.mod_lt _ (by omega)
 rw [turns_char,turns_char,hl]
 constructor
 ·rintro ⟨-,h1,h2,c1,c2,c3,c4,c5⟩
  refine ⟨(zhh h hn hp).right,h1,h2,c1,c2,fun k hk=>?_,fun a ha=>?_,by rw [priced_ray h1 c1 c3]; exact c5⟩
  ·rw [hat _ (c1 _ (hm k hk)),hat _ (c1 _ (hm _ (hmod k hk)))]; exact c3 k hk
  ·rw [hat _ (c1 a ha)]; exact c4 a ha
 ·rintro ⟨-,h1,h2,c1,c2,c3,c4,c5⟩
  have c3':∀ k,k < l.length->(z2p I (l.getD k 0)).dst = (z2p I (l.getD ((k + 1) % l.length) 0)).src:=fun k hk=>by
   have:=c3 k hk
   rw [hat _ (c1 _ (hm k hk)),hat _ (c1 _ (hm _ (hmod k hk)))] at this; exact this
  refine ⟨h.right,h1,h2,c1,c2,c3',fun a ha=>?_,by rw [priced_ray h1 c1 c3'] at c5; exact c5⟩
  have:=c4 a ha
  rw [hat _ (c1 a ha)] at this; exact this
theorem priced_law {I:Inst} (h:FewI I) (hn:∀ a ∈ I.arcs,-100 <= a.cost/\a.cost <= 100) {p:List Int} (hp:∀ k,-16 <= p.getD k 0/\p.getD k 0 <= 16) {v w:Wide} {i j:Int} (h1:ValueP I v i) (h2:ValueP (z2m p I) w j):i = j/\0 < i/\(i = 1->∃ t,w = W t/\v = W (t + zin p I.sup I.sup.length)):=by
 obtain ⟨e1,e2,e3,-⟩:=value_map h1 h2 (fun x hx=>(zmv h hn hp hx).1) (fun x hx=>(zmv h hn hp hx).2) ⟨fun ⟨l,hl,hh⟩=>⟨l,(ziy h hn hp).1 hl,hh⟩,fun ⟨l,hl,hh⟩=>⟨l,(ziy h hn hp).2 hl,hh⟩⟩
 exact ⟨e1,e2,e3⟩
end Go.Ql
end
section
namespace Go.Ql
open Go Go.Vc
def zhv (I:Inst) (p:List Int) (c:Nat):Int:=(z18 I c).cost - p.getD (z18 I c).src.toNat 0 + p.getD (z18 I c).dst.toNat 0
theorem slackA_iff {r x:Int} {a:Arc} (h:zac r):z6k r x a = true ↔ (0 < r->x = a.low)/\(r < 0->x = a.cap/\a.cap ≠ inf):=by
 have e1:decide (0 < sgn r) = decide (0 < r):=decide_eq_decide.2 (sgn_pos h)
 have e2:decide (sgn r < 0) = decide (r < 0):=decide_eq_decide.2 (sgn_neg h)
 unfold z6k
 rw [e1,e2]
 by_cases h1:0 < r
 ·have h2:¬ r < 0:=by omega
  by_cases h3:x = a.low <;> simp [h1,h2,h3]
 ·by_cases h2:r < 0
  ·by_cases h3:x = a.cap <;> by_cases h4:a.cap = inf <;> simp [h1,h2,h3,h4]
  ·simp [h1,h2]
theorem z69 {I:Inst} {x p:List Int} (hp:A64 p):z1f I x p = 0 ↔ z1g I x = 0/\p.length = I.sup.length/\∀ c,c < I.arcs.length->(0 < zhv I p c->x.getD c 0 = (z18 I c).low)/\(zhv I p c < 0->x.getD c 0 = (z18 I c).cap/\(z18 I c).cap ≠ inf):=by
 have hk:z1g I x = 0->∀ c,c < I.arcs.length->(z44 I x p c = true ↔ (0 < zhv I p c->x.getD c 0 = (z18 I c).low)/\(zhv I p c < 0->x.getD c 0 = (z18 I c).cap/\(z18 I c).cap ≠ inf)):=fun hf c hc=>by
  obtain ⟨hr,-⟩:=fitsF_zero.1 hf
  obtain ⟨hget,hm⟩:=z48 hc
  have ok:=z1x hr hc
  have k0:=ok.k0; have k1:=ok.k1; have s0:=ok.s0; have d0:=ok.d0
  have e:redF I p c = zhv I p c:=by
   rw [redF_at hget (z1u hr hm).1]
   unfold redP redA zmr zhv
   rw [if_pos s0,if_pos d0]
  have b1:=hp.at (z18 I c).src.toNat
  have b2:=hp.at (z18 I c).dst.toNat
  unfold z44
  rw [e]
  exact slackA_iff (by unfold zhv zac; omega)
 unfold z1f
 constructor
 ·intro h
  split at h
  ·rename_i hn; exact absurd h hn
  ·rename_i hf
   have hf:=Classical.byContradiction hf
   split at h
   ·cases h
   ·rename_i hl
    split at h
    ·rename_i ha
     exact ⟨hf,Classical.byContradiction hl,fun c hc=>(hk hf c hc).1 (List.all_eq_true.1 ha c (List.mem_range.2 hc))⟩
    ·cases h
 ·rintro ⟨hf,hl,ha⟩
  rw [if_neg (fun h=>h hf),if_neg (fun h=>h hl),if_pos]
  exact List.all_eq_true.2 fun c hc=>(hk hf c (List.mem_range.1 hc)).2 (ha c (List.mem_range.1 hc))
theorem proves_char {I:Inst} {S:List Bool}:z5h I S = 0 ↔ z03 I = 0/\S.length = I.sup.length/\∃ t,roomC I S = some t/\t < zf5 I S:=by
 unfold z5h
 constructor
 ·intro h
  split at h
  ·rename_i hn; exact absurd h hn
  ·rename_i hr
   have hr:=Classical.byContradiction hr
   have hs:=z0c hr
   split at h
   ·cases h
   ·rename_i hl
    cases hc:roomC I S with
    | none=>rw [hc] at h; cases h
    | some t =>
     rw [hc] at h
     dsimp only at h
     refine ⟨hr,Classical.byContradiction hl,t,rfl,?_⟩
     split at h
     ·cases h
     ·rename_i hle
      apply Int.lt_of_not_ge
      intro hge
      exact hle ((zji hr (by omega) (by omega) (z1v hr).1 hc (zf5 I S) rfl).2 hge)
 ·rintro ⟨hr,hl,t,ht,hlt⟩
  have hs:=z0c hr
  rw [if_neg (fun h=>h hr),if_neg (fun h=>h hl),ht]
  dsimp only
  rw [if_neg]
  intro hle
  have:=(zji hr (by omega) (by omega) (z1v hr).1 ht (zf5 I S) rfl).1 hle
  omega
def scA (a b:Int) (q:Arc):Arc:=⟨q.src,q.dst,a * q.low,if q.cap = inf then q.cap else a * q.cap,b * q.cost⟩
def z1p (a b:Int) (I:Inst):Inst:=⟨I.sup.map (a * ·),I.arcs.map (scA a b)⟩
theorem sum_mul (a:Int):∀ s:List Int,(s.map (a * ·)).sum = a * s.sum
 | []=>by simp
 | y :: s=>by rw [List.map_cons,List.sum_cons,List.sum_cons,sum_mul a s,Int.mul_add]
theorem ziu {a x y:Int} (ha:0 <= a) (h:x <= y):a * x <= a * y:=Int.mul_le_mul_of_nonneg_left h ha
theorem zb4 {a x B:Int} (ha:1 <= a) (ha7:a <= 7) (h0:-B <= x) (h1:x <= B) (hB:0 <= B):-(7 * B) <= a * x/\a * x <= 7 * B:=by
 have e1:=ziu (a:=a) (by omega) h0
 have e2:=ziu (a:=a) (by omega) h1
 have e3:a * B <= 7 * B:=Int.mul_le_mul_of_nonneg_right ha7 hB
 rw [Int.mul_neg] at e1
 omega
theorem scale_few {I:Inst} (h:FewI I) {n:Int} (hN:∀ q ∈ I.arcs,q.Nice n) (hw:Within 200 I.sup) {a b:Int} (ha:1 <= a) (ha7:a <= 7) (hb:1 <= b) (hb7:b <= 7):FewI (z1p a b I):=by
 refine ⟨by simpa [z1p] using h.n1,by simpa [z1p] using h.n2,by simpa [z1p] using h.m,fun q hq=>?_,fun y hy=>?_,by unfold z1p; dsimp only; rw [sum_mul,h.sum,Int.mul_zero]⟩
 ·obtain ⟨r,hr,rfl⟩:=List.mem_map.1 hq
  have q1:=h.arc r hr
  have q2:=hN r hr
  have l0:=q2.l0; have l1:=q2.l1; have c0:=q2.c0; have c1:=q2.c1; have k0:=q2.k0; have k1:=q2.k1
  have hi:inf = 4611686018427387904:=rfl
  have m1:=zb4 (x:=r.low) (B:=2) ha ha7 (by omega) (by omega) (by omega)
  have m2:=zb4 (x:=r.cost) (B:=12) hb hb7 (by omega) (by omega) (by omega)
  have m3:=ziu (a:=a) (by omega) l0
  have m4:=ziu (a:=a) (by omega) c0
  rw [Int.mul_zero] at m3
  have hl:(z1p a b I).sup.length = I.sup.length:=by simp [z1p]
  rw [hl]
  refine ⟨q1.s0,q1.s1,q1.d0,q1.d1,m3,by show a * r.low <= 500; omega,?_,by show -2000 <= b * r.cost; omega,by show b * r.cost <= 2000; omega⟩
  show (if r.cap = inf then r.cap else a * r.cap) = inf ∨ a * r.low <= (if r.cap = inf then r.cap else a * r.cap)/\(if r.cap = inf then r.cap else a * r.cap) <= 2000
  by_cases hc:r.cap = inf
  ·rw [if_pos hc]; exact .inl hc
  ·rw [if_neg hc]
   have hc7:r.cap <= 7:=c1.resolve_right (fun e=>hc e)
   have m5:=zb4 (x:=r.cap) (B:=7) ha ha7 (by omega) (by omega) (by omega)
   exact .inr ⟨m4,by omega⟩
 ·obtain ⟨z,hz,rfl⟩:=List.mem_map.1 hy
  have h1:=hw z hz
  have:=zb4 (x:=z) (B:=200) ha ha7 h1.1 h1.2 (by omega)
  omega
theorem z7w (a:Int) (x:List Int) (k:Nat):(x.map (a * ·)).getD k 0 = a * x.getD k 0:=by
 rw [List.getD_eq_getElem?_getD,List.getElem?_map,List.getD_eq_getElem?_getD]
 cases x[k]? with
 | none=>simp
 | some y=>rfl
theorem netK_scale (a b n:Int) (l:List Arc) (x:List Int) (v:Int):∀ k,k <= l.length->z2d n (l.map (scA a b)) (x.map (a * ·)) k v = a * z2d n l x k v
 | 0,_=>by simp [z2d]
 | k + 1,h=>by
  rw [z2d,z2d,netK_scale a b n l x v k (by omega),z11 (by omega),z7w,Int.mul_add]
  congr 1
  unfold z3q
  have e:z2l n (scA a b (l.getD k default)) = z2l n (l.getD k default):=rfl
  rw [e]
  show (if _ then (if (l.getD k default).src = v then _ else _) - (if (l.getD k default).dst = v then _ else _) else _) = _
  split
  ·rw [Int.mul_sub]
   congr 1 <;> split <;> simp
  ·simp
theorem zlc (a b:Int) (l:List Arc) (x:List Int):∀ k,k <= l.length->z1n (l.map (scA a b)) (x.map (a * ·)) k = a * b * z1n l x k
 | 0,_=>by simp [z1n]
 | k + 1,h=>by
  rw [z1n,z1n,zlc a b l x k (by omega),z11 (by omega),z7w,Int.mul_add]
  congr 1
  show b * (l.getD k default).cost * (a * x.getD k 0) = _
  simp only [Int.mul_assoc,Int.mul_left_comm,Int.mul_comm]
theorem scale_fits {I:Inst} {a b:Int} (hJ:FewI (z1p a b I)) (ha:1 <= a) {x:List Int} (hx:A64 x) (hax:A64 (x.map (a * ·))) (hf:z1g I x = 0):z1g (z1p a b I) (x.map (a * ·)) = 0:=by
 obtain ⟨hr,hl,hb,hn⟩:=(z34 hx).1 hf
 have hlen:(z1p a b I).arcs.length = I.arcs.length:=by simp [z1p]
 refine (z34 hax).2 ⟨hJ.right,by rw [hlen]; simpa using hl,fun c hc=>?_,fun v hv=>?_⟩
 ·have hc2:c < I.arcs.length:=by rw [<- hlen]; exact hc
  have e:z18 (z1p a b I) c = scA a b (z18 I c):=z11 hc2
  obtain ⟨b1,b2⟩:=hb c hc2
  rw [e,z7w]
  refine ⟨ziu (by omega) b1,?_⟩
  show (if (z18 I c).cap = inf then (z18 I c).cap else a * (z18 I c).cap) = inf ∨ _ <= (if (z18 I c).cap = inf then (z18 I c).cap else a * (z18 I c).cap)
  by_cases h:(z18 I c).cap = inf
  ·rw [if_pos h]; exact .inl h
  ·rw [if_neg h]; exact .inr (ziu (by omega) (b2.resolve_left h))
 ·have hv2:v < I.sup.length:=by simpa [z1p] using hv
  rw [hlen]
  show z2d ((I.sup.map (a * ·)).length) (I.arcs.map (scA a b)) _ _ _ = (I.sup.map (a * ·)).getD v 0
  rw [List.length_map,netK_scale a b _ _ _ _ _ (Nat.le_refl _),hn v hv2,z7w]
theorem scale_slack {I:Inst} {n:Int} (hN:∀ q ∈ I.arcs,q.Nice n) {a b:Int} (hJ:FewI (z1p a b I)) (ha:1 <= a) (ha7:a <= 7) (hb:1 <= b) {x p:List Int} (hx:A64 x) (hp:A64 p) (hax:A64 (x.map (a * ·))) (hbp:A64 (p.map (b * ·))) (hs:z1f I x p = 0):z1f (z1p a b I) (x.map (a * ·)) (p.map (b * ·)) = 0:=by
 obtain ⟨hf,hl,hc⟩:=(z69 hp).1 hs
 have hlen:(z1p a b I).arcs.length = I.arcs.length:=by simp [z1p]
 refine (z69 hbp).2 ⟨scale_fits hJ ha hx hax hf,by simpa [z1p] using hl,fun c hcl=>?_⟩
 have hc2:c < I.arcs.length:=by rw [<- hlen]; exact hcl
 have e:z18 (z1p a b I) c = scA a b (z18 I c):=z11 hc2
 have er:zhv (z1p a b I) (p.map (b * ·)) c = b * zhv I p c:=by
  unfold zhv
  rw [e,z7w,z7w]
  show b * (z18 I c).cost - b * p.getD (z18 I c).src.toNat 0 + b * p.getD (z18 I c).dst.toNat 0 = _
  rw [Int.mul_add,Int.mul_sub]
 obtain ⟨h1,h2⟩:=hc c hc2
 rw [er,e,z7w]
 refine ⟨fun h=>?_,fun h=>?_⟩
 ·have:0 < zhv I p c:=by
   apply Int.lt_of_not_ge; intro hge
   have:=ziu (a:=b) (by omega) hge
   rw [Int.mul_zero] at this; omega
  rw [h1 this]; rfl
 ·have:zhv I p c < 0:=by
   apply Int.lt_of_not_ge; intro hge
   have:=ziu (a:=b) (by omega) hge
   rw [Int.mul_zero] at this; omega
  obtain ⟨q1,q2⟩:=h2 this
  have hq:=hN _ (z48 hc2).2
  have c1:=hq.c1.resolve_right (fun e=>q2 e)
  have c0:=hq.c0; have l0:=hq.l0
  have m5:=zb4 (x:=(z18 I c).cap) (B:=7) ha ha7 (by omega) (by omega) (by omega)
  have hi:inf = 4611686018427387904:=rfl
  show _ = (if (z18 I c).cap = inf then (z18 I c).cap else a * (z18 I c).cap)/\(if (z18 I c).cap = inf then (z18 I c).cap else a * (z18 I c).cap) ≠ inf
  rw [if_neg q2,q1]
  exact ⟨rfl,by omega⟩
theorem room_scale {a b n:Int} {m:Int} {S:List Bool} (ha:1 <= a) (ha7:a <= 7):∀ (l:List Arc),(∀ q ∈ l,q.Nice n)->∀ s t,z1z m S l s = some t->z1z m S (l.map (scA a b)) (a * s) = some (a * t)
 | [],_,s,t,h=>by simp only [z1z,Option.some.injEq] at h; subst h; rfl
 | q :: l,hN,s,t,h=>by
  have hq:=hN q (by simp)
  have ih:=room_scale (b:=b) (m:=m) (S:=S) ha ha7 l (fun r hr=>hN r (by simp [hr]))
  rw [z1z] at h
  rw [List.map_cons,z1z]
  have e1:zjs m S (scA a b q) = zjs m S q:=rfl
  have e2:inA m S (scA a b q) = inA m S q:=rfl
  rw [e1,e2]
  split at h
  ·rename_i ho
   rw [if_pos ho]
   split at h
   ·cases h
   ·rename_i hc
    have c1:=hq.c1.resolve_right (fun e=>hc e)
    have c0:=hq.c0; have l0:=hq.l0
    have m5:=zb4 (x:=q.cap) (B:=7) ha ha7 (by omega) (by omega) (by omega)
    have hi:inf = 4611686018427387904:=rfl
    have ec:(scA a b q).cap = a * q.cap:=by show (if q.cap = inf then q.cap else a * q.cap) = _; rw [if_neg hc]
    rw [ec,if_neg (by omega),<- Int.mul_add]
    exact ih _ _ h
  ·rename_i ho
   rw [if_neg ho]
   split at h
   ·rename_i hin
    rw [if_pos hin]
    have el:(scA a b q).low = a * q.low:=rfl
    rw [el,<- Int.mul_sub]
    exact ih _ _ h
   ·rename_i hin
    rw [if_neg hin]
    exact ih _ _ h
theorem need_scale (a:Int) (S:List Bool) (s:List Int):∀ k,zf6 S (s.map (a * ·)) k = a * zf6 S s k
 | 0=>by simp [zf6]
 | k + 1=>by
  rw [zf6,zf6,need_scale a S s k,z7w,Int.mul_add]
  congr 1
  split <;> simp
theorem scale_proves {I:Inst} {n:Int} (hN:∀ q ∈ I.arcs,q.Nice n) {a b:Int} (hJ:FewI (z1p a b I)) (ha:1 <= a) (ha7:a <= 7) {S:List Bool} (hs:z5h I S = 0):z5h (z1p a b I) S = 0:=by
 obtain ⟨hr,hl,t,ht,hlt⟩:=proves_char.1 hs
 refine proves_char.2 ⟨hJ.right,by simpa [z1p] using hl,a * t,?_,?_⟩
 ·have:=room_scale (b:=b) (m:=(I.sup.length:Int)) (S:=S) ha ha7 I.arcs hN 0 t ht
  rw [Int.mul_zero] at this
  unfold roomC z1p
  dsimp only
  rw [List.length_map]; exact this
 ·have e:zf5 (z1p a b I) S = a * zf5 I S:=by
   unfold zf5 z1p
   dsimp only
   rw [List.length_map,need_scale]
  rw [e]
  exact Int.mul_lt_mul_of_pos_left hlt (by omega)
theorem scale_turns {I:Inst} {a b:Int} (hJ:FewI (z1p a b I)) (hb:1 <= b) {l:List Int} (h:z46 I l = 0):z46 (z1p a b I) l = 0:=by
 have hl:(z1p a b I).arcs.length = I.arcs.length:=by simp [z1p]
 obtain ⟨-,h1,h2,c1,c2,c3,c4,c5⟩:=turns_char.1 h
 have hat:∀ q:Int,0 <= q/\q < I.arcs.length->z2p (z1p a b I) q = scA a b (z2p I q):=fun q hq=>z11 (by omega)
 have hm:∀ k,k < l.length->l.getD k 0 ∈ l:=fun k hk=>by rw [List.getD_eq_getElem?_getD,List.getElem?_eq_getElem hk]; exact List.getElem_mem _
 have hmod:∀ k,k < l.length->(k + 1) % l.length < l.length:=fun k hk=>Nat.mod_lt _ (by omega)
 refine turns_char.2 ⟨hJ.right,h1,by rw [hl]; exact h2,fun q hq=>by rw [hl]; exact c1 q hq,c2,fun k hk=>?_,fun q hq=>?_,?_⟩
 ·rw [hat _ (c1 _ (hm k hk)),hat _ (c1 _ (hm _ (hmod k hk)))]; exact c3 k hk
 ·rw [hat _ (c1 q hq)]
  show (if (z2p I q).cap = inf then (z2p I q).cap else a * (z2p I q).cap) = inf
  rw [if_pos (c4 q hq)]; exact c4 q hq
 ·have e:rayS (z1p a b I) l = b * rayS I l:=by
   rw [z5j,z5j,<- sum_mul,List.map_map]
   congr 1
   refine List.map_congr_left fun q hq=>?_
   have hq1:=c1 q hq
   show zjy (z1p a b I) q = b * zjy I q
   unfold zjy
   rw [if_pos (isArcF_iff.2 ⟨hq1.1,by rw [hl]; exact hq1.2⟩),if_pos (isArcF_iff.2 hq1),hat q hq1]
   rfl
  rw [e]
  have:=Int.mul_lt_mul_of_pos_left c5 (show 0 < b by omega)
  rwa [Int.mul_zero] at this
theorem abs_mul {A B x y:Int} (hx0:-A <= x) (hx1:x <= A) (hy0:-B <= y) (hy1:y <= B):-(A * B) <= x * y/\x * y <= A * B:=by
 have a1:0 <= (A - x) * (B - y):=Int.mul_nonneg (by omega) (by omega)
 have a2:0 <= (A - x) * (B + y):=Int.mul_nonneg (by omega) (by omega)
 have a3:0 <= (A + x) * (B - y):=Int.mul_nonneg (by omega) (by omega)
 have a4:0 <= (A + x) * (B + y):=Int.mul_nonneg (by omega) (by omega)
 simp only [Int.sub_mul,Int.add_mul,Int.mul_sub,Int.mul_add] at a1 a2 a3 a4
 omega
theorem dotK_few {A B:Int} {p s:List Int} (hp:∀ k,-A <= p.getD k 0/\p.getD k 0 <= A) (hs:∀ k,-B <= s.getD k 0/\s.getD k 0 <= B):∀ k:Nat,-(A * B * (k:Int)) <= zin p s k/\zin p s k <= A * B * (k:Int)
 | 0=>by simp [zin]
 | k + 1=>by
  have ih:=dotK_few hp hs k
  have h3:=abs_mul (hp k).1 (hp k).2 (hs k).1 (hs k).2
  rw [zin,Int.natCast_succ,Int.mul_add,Int.mul_one]
  omega
theorem best_few {I:Inst} (h:FewI I) {n:Int} (hN:∀ q ∈ I.arcs,q.Nice n) (hw:Within 200 I.sup) {x p:List Int} (hx:A64 x) (hpA:A64 p) (hs:z1f I x p = 0) (hp:∀ k,-393216 <= p.getD k 0/\p.getD k 0 <= 393216):-1099511627776 <= z3v I x/\z3v I x <= 1099511627776:=by
 obtain ⟨hf,hl,hc⟩:=(z69 hpA).1 hs
 obtain ⟨hr,hxl,-,hnet⟩:=(z34 hx).1 hf
 have ho:∀ a ∈ I.arcs,z2l I.sup.length a = true:=fun a ha=>(z1u hr ha).1
 have e:=zau p x ho I.arcs.length (Nat.le_refl _)
 rw [<- net_pot x p ho _ (Nat.le_refl _)] at e
 have e2:z1m (fun v:Nat=>z2d I.sup.length I.arcs x I.arcs.length v * p.getD v 0) I.sup.length = zin p I.sup I.sup.length:=by
  rw [dotK_sum]; exact z16 fun v hv=>by rw [hnet v hv]
 rw [e2] at e
 have hd:=dotK_few hp (fun k=>hw.getD (by omega) k) I.sup.length
 have hk:∀ k,k <= I.arcs.length->-(5505108 * (k:Int)) <= z1n (I.arcs.map (z55 p)) x k/\z1n (I.arcs.map (z55 p)) x k <= 5505108 * (k:Int):=fun k=>by
  induction k with
  | zero=>intro _; simp [z1n]
  | succ k ih =>
   intro hk
   have ih:=ih (by omega)
   have hkl:k < I.arcs.length:=by omega
   rw [z1n,z11 hkl]
   have er:(z55 p (I.arcs.getD k default)).cost = zhv I p k:=rfl
   rw [er]
   have hq:=hN _ (z48 hkl).2
   have l0:=hq.l0; have l1:=hq.l1; have c0:=hq.c0; have c1:=hq.c1; have k0:=hq.k0; have k1:=hq.k1
   have p1:=hp (z18 I k).src.toNat
   have p2:=hp (z18 I k).dst.toNat
   have hrb:-786444 <= zhv I p k/\zhv I p k <= 786444:=by unfold zhv; omega
   obtain ⟨h1,h2⟩:=hc k hkl
   have ht:-5505108 <= zhv I p k * x.getD k 0/\zhv I p k * x.getD k 0 <= 5505108:=by
    by_cases hp0:0 < zhv I p k
    ·rw [h1 hp0]
     have:=abs_mul (A:=786444) (B:=7) hrb.1 hrb.2 (show -7 <= (z18 I k).low by omega) (by omega)
     omega
    ·by_cases hn0:zhv I p k < 0
     ·obtain ⟨q1,q2⟩:=h2 hn0
      have c7:=c1.resolve_right (fun e=>q2 e)
      rw [q1]
      have:=abs_mul (A:=786444) (B:=7) hrb.1 hrb.2 (show -7 <= (z18 I k).cap by omega) (by omega)
      omega
     ·have:zhv I p k = 0:=by omega
      rw [this]; simp
   have e:((k + 1:Nat):Int) = k + 1:=by omega
   rw [e]; omega
 have hk:=hk _ (Nat.le_refl _)
 have:=h.n2; have:=h.m
 unfold z3v
 omega
theorem scaled_law {I:Inst} (h:FewI I) {n:Int} (hN:∀ q ∈ I.arcs,q.Nice n) (hw:Within 200 I.sup) {a b:Int} (ha:1 <= a) (ha7:a <= 7) (hb:1 <= b) (hb7:b <= 7) {v w:Wide} {i j:Int} (h1:ValueP I v i) (h2:ValueP (z1p a b I) w j) :
  i = j/\0 < i/\∃ t,I64 t/\v = W t/\w = W (a * b * t):=by
 have hJ:=scale_few h hN hw ha ha7 hb hb7
 have hi:=h1.pos.2
 obtain ⟨c,hc,hch,hcx,hcp,hcC⟩:=h1.yb
 obtain ⟨ei,ev⟩:=h1.one hc hch
 obtain ⟨hr,hpl,hk⟩:=z31 hch
 have hs:=z0c hr
 have hmul:∀ {a:Int} {x:List Int},1 <= a->a <= 7->YB x->A64 (x.map (a * ·)):=fun ha ha7 hx y hy=>by
  obtain ⟨z,hz,rfl⟩:=List.mem_map.1 hy
  have h1:=hx z hz
  have:=zb4 (x:=z) (B:=144115188075855872) ha ha7 h1.1 h1.2 (by omega)
  unfold I64; omega
 have hC12:∀ s,okS I s->-12 <= csS I s/\csS I s <= 12:=fun s hs=>by
  have hq:=hN _ (z48 hs).2
  have k0:=hq.k0; have k1:=hq.k1
  unfold csS
  split <;> omega
 obtain ⟨w1,w2,w3,w4,w5,w6⟩:=hc
 rcases hk with ⟨k,hs1⟩ | ⟨k,hs1⟩ | ⟨k,hs1,hs2⟩
 ·have hb2:=best_few h hN hw hcx.a64 hcp.a64 hs1 (fun k=>by have:=hcC 12 (by omega) hC12 k; omega)
  have hsl:=scale_slack hN hJ ha ha7 hb hcx.a64 hcp.a64 (hmul ha ha7 hcx) (hmul hb hb7 hcp) hs1
  have hck:z25 (z1p a b I) ⟨1,c.flow.map (a * ·),c.pot.map (b * ·),[],[]⟩ = 0:=by
   unfold z25 z3b
   simp [hJ.right,hsl]
  obtain ⟨ej,ew⟩:=h2.one (c:=⟨1,c.flow.map (a * ·),c.pot.map (b * ·),[],[]⟩) ⟨hmul ha ha7 hcx,hmul hb hb7 hcp,by simpa using w3,by simpa using w4,by simp,by simp⟩ hck
  refine ⟨by rw [ei,ej,k],by omega,z3v I c.flow,by unfold I64; omega,by rw [ev]; unfold z28; rw [if_pos k],?_⟩
  rw [ew]
  unfold z28
  rw [if_pos rfl]
  congr 1
  unfold z3v z1p
  dsimp only
  rw [List.length_map,zlc a b _ _ _ (Nat.le_refl _)]
 ·have hck:z25 (z1p a b I) ⟨2,[],[],c.side,[]⟩ = 0:=by
   unfold z25 z3b
   simp [hJ.right,scale_proves hN hJ ha ha7 hs1]
  obtain ⟨ej,ew⟩:=h2.one (c:=⟨2,[],[],c.side,[]⟩) ⟨YB.nil.a64,YB.nil.a64,by simp,by simp,w5,by simp⟩ hck
  refine ⟨by rw [ei,ej,k],by omega,0,by unfold I64; omega,by rw [h1.none (by omega),W_zero],?_⟩
  rw [Int.mul_zero,W_zero]
  exact h2.none (by rw [ej]; dsimp only; omega)
 ·have hck:z25 (z1p a b I) ⟨3,c.flow.map (a * ·),[],[],c.cycle⟩ = 0:=by
   unfold z25 z3b
   simp [hJ.right,scale_fits hJ ha hcx.a64 (hmul ha ha7 hcx) hs1,scale_turns hJ hb hs2]
  obtain ⟨ej,ew⟩:=h2.one (c:=⟨3,c.flow.map (a * ·),[],[],c.cycle⟩) ⟨hmul ha ha7 hcx,YB.nil.a64,by simpa using w3,by simp,by simp,w6⟩ hck
  refine ⟨by rw [ei,ej,k],by omega,0,by unfold I64; omega,by rw [h1.none (by omega),W_zero],?_⟩
  rw [Int.mul_zero,W_zero]
  exact h2.none (by rw [ej]; dsimp only; omega)
end Go.Ql
end
section
namespace Go.Proofs.Ytggblkbecekbdaa
open Go Go.RowKit Go.Ql Go.Vc
def z5a (p:List Int) (d:List Int) (k:Int) (m:Int) (n:Int):FRes:={ pre:=Bytes p/\Bytes d/\p.length <= maxLen/\d.length <= maxLen/\0 <= k/\k <= 255/\0 <= m/\m <= 255/\0 <= n/\n <= 255,res:=.bool (true),rows:=[],eff:=[] }
def zd1:FS:=fun args h=>match args,h with
 | [.row 0,.row 1,.int .u8 k,.int .u8 m,.int .u8 n],[(0,.row false ty0 (.ints .u8 p)),(1,.row false ty1 (.ints .u8 d))]=>some (z5a p d k m n)
 | _,_=>none
def z8c (p:List Int) (d:List Int) (k:Int) (m:Int) (n:Int):List (Nat × Ann):=[(6,{ G:=(Nat),inv:=fun v=>⟨[(11,.ptr 6 0 0 0),(12,.ptr 11 0 0 0),(13,.int .i64 (1 + m % 7)),(14,.int .i64 (1 + n % 7)),(15,.int .i64 v)],[(11,.box true 30 [.row 7,.row 8]),(7,.row true 2 (.ints .i64 (z1k ((1 + m % 7) * ·) (z00 p d k).sup v))),(8,.row true 50 (.arcs (z00 p d k).arcs)),(6,.box true 30 [.row 2,.row 3]),(2,.row true 2 (.ints .i64 (z00 p d k).sup)),(3,.row true 50 (.arcs (z00 p d k).arcs))],12⟩,rel:=fun v0 v=>v <= (z00 p d k).sup.length,meas:=fun v=>(z00 p d k).sup.length - v }),
 (10,{ G:=(Nat),inv:=fun x=>⟨[(11,.ptr 6 0 0 0),(12,.ptr 11 0 0 0),(13,.int .i64 (1 + m % 7)),(14,.int .i64 (1 + n % 7)),(16,.int .i64 x)],[(11,.box true 30 [.row 7,.row 8]),(7,.row true 2 (.ints .i64 (z1p (1 + m % 7) (1 + n % 7) (z00 p d k)).sup)),(8,.row true 50 (.arcs (z1k (scA (1 + m % 7) (1 + n % 7)) (z00 p d k).arcs x))),(6,.box true 30 [.row 2,.row 3]),(2,.row true 2 (.ints .i64 (z00 p d k).sup)),(3,.row true 50 (.arcs (z00 p d k).arcs))],12⟩,rel:=fun x0 x=>x <= (z00 p d k).arcs.length,meas:=fun x=>(z00 p d k).arcs.length - x })]
def SolveScaled_A:List SV->z0f->List (Nat × Ann):=fun args h=>match args,h with
 | [.row 0,.row 1,.int .u8 k,.int .u8 m,.int .u8 n],[(0,.row false ty0 (.ints .u8 p)),(1,.row false ty1 (.ints .u8 d))]=>z8c p d k m n
 | _,_=>[]
def z9e:z0d:=[(z8s,(true,z04 true z5z)),(zgr,(true,z04 true z9b)),(Back_n,(true,z04 true Back_fs)),(Times_n,(true,z04 true zjf)),(zc1,(true,z0u true z6z))]
abbrev SolveScaled_n:Nat:=8
def zep (p:List Int) (d:List Int) (k:Int) (m:Int) (n:Int):List (Nat × z0a):=[]
def SolveScaled_IA:List SV->z0f->List (Nat × z0a):=fun _ _=>[]
end Go.Proofs.Ytggblkbecekbdaa
end
section
namespace Go.Proofs.Ytggblkbecekbdaa
open Go Go.RowKit Go.Ql Go.Vc
abbrev z0r (m:Int) (n:Int) (p:List Int) (d:List Int) (k:Int) (g:Nat) (x_1:Arc) (x:Arc):=((z1k (scA ((1:Int) + m % (7:Int)) ((1:Int) + n % (7:Int))) (z00 p d k).arcs g).set (↑g:Int).toNat { src:=x_1.src,dst:=x_1.dst,low:=IntKind.i64.wrap (((1:Int) + m % (7:Int)) * x.low),cap:=x_1.cap,cost:=x_1.cost:Arc })
abbrev z2i (m:Int) (n:Int) (p:List Int) (d:List Int) (k:Int) (g:Nat) (x_1:Arc) (x:Arc) (x_4:Arc) (x_3:Arc):=((z0r m n p d k g x_1 x).set (↑g:Int).toNat { src:=x_4.src,dst:=x_4.dst,low:=x_4.low,cap:=IntKind.i64.wrap (((1:Int) + m % (7:Int)) * x_3.cap),cost:=x_4.cost:Arc })
abbrev z0y (m:Int) (n:Int):=(scA ((1:Int) + m % (7:Int)) ((1:Int) + n % (7:Int)))
abbrev z3j (p:List Int) (d:List Int) (k:Int):=((True/\(True/\True))/\((z00 p d k).sup = (z00 p d k).sup/\((z00 p d k).arcs = (z00 p d k).arcs/\True)))
abbrev z1e (m:Int):=(fun (x:Int)=>((1:Int) + m % (7:Int)) * x)
abbrev z22 (m:Int) (n:Int) (p:List Int) (d:List Int) (k:Int):=(z1p ((1:Int) + m % (7:Int)) ((1:Int) + n % (7:Int)) (z00 p d k))
abbrev z6c (m:Int) (n:Int) (g:Nat) (g':Nat):=(0 = 0/\(0 = 0/\((1:Int) + m % (7:Int) = (1:Int) + m % (7:Int)/\((1:Int) + n % (7:Int) = (1:Int) + n % (7:Int)/\(IntKind.i64.wrap ((↑g:Int) + (1:Int)) = (↑g':Int)/\True)))))
def z8b (p : List Int) (d : List Int) (k : Int) (m : Int) (n : Int) (ty0 ty1 : TypeId) : Prop :=
   (Bytes p/\(Bytes d/\(p.length <= maxLen/\(d.length <= maxLen/\((0:Int) <= k/\(k <= (255:Int)))))))/\(Bytes p/\(Bytes d/\(p.length <= maxLen/\(d.length <= maxLen/\((0:Int) <= k/\(k <= (255:Int)))))))/\(7:Int) ≠ (0:Int)/\(7:Int) ≠ (0:Int)/\∃ (g0:Nat),(g0 <= (z00 p d k).sup.length/\((0 = 0/\(0 = 0/\(IntKind.i64.wrap ((1:Int) + IntKind.i64.wrap (m.tmod (7:Int))) = (1:Int) + m % (7:Int)/\(IntKind.i64.wrap ((1:Int) + IntKind.i64.wrap (n.tmod (7:Int))) = (1:Int) + n % (7:Int)/\((0:Int) = ↑g0/\True)))))/\((True/\(True/\True))/\((z00 p d k).sup = z1k (z1e m) (z00 p d k).sup g0/\((z00 p d k).arcs = (z00 p d k).arcs/\(z3j p d k))))))/\∀ (g:Nat),g <= (z00 p d k).sup.length->(decide ((↑g:Int) < ↑(z1k (z1e m) (z00 p d k).sup g).length) = true->((0:Int) <= ↑g/\((↑g:Int) < ↑(z1k (z1e m) (z00 p d k).sup g).length))/\((↑g:Int).toNat < (z1k (z1e m) (z00 p d k).sup g).length/\(∀ (x:Int),(z1k (z1e m) (z00 p d k).sup g)[(↑g:Int).toNat]? = some x->((0:Int) <= ↑g/\((↑g:Int) < ↑(z1k (z1e m) (z00 p d k).sup g).length))/\((↑g:Int).toNat < (z1k (z1e m) (z00 p d k).sup g).length/\(∃ (g':Nat),g' <= (z00 p d k).sup.length/\((z00 p d k).sup.length - g' < (z00 p d k).sup.length - g/\((z6c m n g g')/\((True/\(True/\True))/\((z1k (z1e m) (z00 p d k).sup g).set (↑g:Int).toNat (IntKind.i64.wrap (((1:Int) + m % (7:Int)) * x)) = z1k (z1e m) (z00 p d k).sup g'/\((z00 p d k).arcs = (z00 p d k).arcs/\(z3j p d k)))))))))))/\(decide ((↑g:Int) < ↑(z1k (z1e m) (z00 p d k).sup g).length) = false->∃ (g0:Nat),(g0 <= (z00 p d k).arcs.length/\((0 = 0/\(0 = 0/\((1:Int) + m % (7:Int) = (1:Int) + m % (7:Int)/\((1:Int) + n % (7:Int) = (1:Int) + n % (7:Int)/\((0:Int) = ↑g0/\True)))))/\((True/\(True/\True))/\(z1k (z1e m) (z00 p d k).sup g = (z22 m n p d k).sup/\((z00 p d k).arcs = z1k (z0y m n) (z00 p d k).arcs g0/\(z3j p d k))))))/\∀ (g:Nat),g <= (z00 p d k).arcs.length->(decide ((↑g:Int) < ↑(z1k (z0y m n) (z00 p d k).arcs g).length) = true->((0:Int) <= ↑g/\((↑g:Int) < ↑(z1k (z0y m n) (z00 p d k).arcs g).length))/\(↑g:Int).toNat < (z1k (z0y m n) (z00 p d k).arcs g).length/\∀ (x:Arc),(z1k (z0y m n) (z00 p d k).arcs g)[(↑g:Int).toNat]? = some x->((0:Int) <= ↑g/\((↑g:Int) < ↑(z1k (z0y m n) (z00 p d k).arcs g).length))/\(↑g:Int).toNat < (z1k (z0y m n) (z00 p d k).arcs g).length/\∀ (x_1:Arc),(z1k (z0y m n) (z00 p d k).arcs g)[(↑g:Int).toNat]? = some x_1->((0:Int) <= ↑g/\((↑g:Int) < ↑(z0r m n p d k g x_1 x).length))/\(↑g:Int).toNat < (z0r m n p d k g x_1 x).length/\∀ (x_2:Arc),(z0r m n p d k g x_1 x)[(↑g:Int).toNat]? = some x_2->((x_2.cap != (4611686018427387904:Int)) = true->((0:Int) <= ↑g/\((↑g:Int) < ↑(z0r m n p d k g x_1 x).length))/\(↑g:Int).toNat < (z0r m n p d k g x_1 x).length/\∀ (x_3:Arc),(z0r m n p d k g x_1 x)[(↑g:Int).toNat]? = some x_3->((0:Int) <= ↑g/\((↑g:Int) < ↑(z0r m n p d k g x_1 x).length))/\(↑g:Int).toNat < (z0r m n p d k g x_1 x).length/\∀ (x_4:Arc),(z0r m n p d k g x_1 x)[(↑g:Int).toNat]? = some x_4->((0:Int) <= ↑g/\((↑g:Int) < ↑(z2i m n p d k g x_1 x x_4 x_3).length))/\(↑g:Int).toNat < (z2i m n p d k g x_1 x x_4 x_3).length/\∀ (x_5:Arc),(z2i m n p d k g x_1 x x_4 x_3)[(↑g:Int).toNat]? = some x_5->((0:Int) <= ↑g/\((↑g:Int) < ↑(z2i m n p d k g x_1 x x_4 x_3).length))/\((↑g:Int).toNat < (z2i m n p d k g x_1 x x_4 x_3).length/\(∀ (x_6:Arc),(z2i m n p d k g x_1 x x_4 x_3)[(↑g:Int).toNat]? = some x_6->∃ (g':Nat),g' <= (z00 p d k).arcs.length/\((z00 p d k).arcs.length - g' < (z00 p d k).arcs.length - g/\((z6c m n g g')/\((True/\(True/\True))/\((z22 m n p d k).sup = (z22 m n p d k).sup/\((z2i m n p d k g x_1 x x_4 x_3).set (↑g:Int).toNat { src:=x_6.src,dst:=x_6.dst,low:=x_6.low,cap:=x_6.cap,cost:=IntKind.i64.wrap (((1:Int) + n % (7:Int)) * x_5.cost):Arc } = z1k (z0y m n) (z00 p d k).arcs g'/\(z3j p d k)))))))))/\((x_2.cap != (4611686018427387904:Int)) = false->((0:Int) <= ↑g/\((↑g:Int) < ↑(z0r m n p d k g x_1 x).length))/\(↑g:Int).toNat < (z0r m n p d k g x_1 x).length/\(∀ (x_3:Arc),(z0r m n p d k g x_1 x)[(↑g:Int).toNat]? = some x_3->((0:Int) <= ↑g/\((↑g:Int) < ↑(z0r m n p d k g x_1 x).length))/\((↑g:Int).toNat < (z0r m n p d k g x_1 x).length/\(∀ (x_4:Arc),(z0r m n p d k g x_1 x)[(↑g:Int).toNat]? = some x_4->∃ (g':Nat),g' <= (z00 p d k).arcs.length/\((z00 p d k).arcs.length - g' < (z00 p d k).arcs.length - g/\((z6c m n g g')/\((True/\(True/\True))/\((z22 m n p d k).sup = (z22 m n p d k).sup/\((z0r m n p d k g x_1 x).set (↑g:Int).toNat { src:=x_4.src,dst:=x_4.dst,low:=x_4.low,cap:=x_4.cap,cost:=IntKind.i64.wrap (((1:Int) + n % (7:Int)) * x_3.cost):Arc } = z1k (z0y m n) (z00 p d k).arcs g'/\(z3j p d k)))))))))))/\(decide ((↑g:Int) < ↑(z1k (z0y m n) (z00 p d k).arcs g).length) = false->(z03 (z00 p d k) = (0:Int)/\(SmallI (z00 p d k)))/\(∀ (g_1:Wide × Int),ValueP (z00 p d k) g_1.1 g_1.2->(z03 { sup:=(z22 m n p d k).sup,arcs:=z1k (z0y m n) (z00 p d k).arcs g:Inst } = (0:Int)/\(SmallI { sup:=(z22 m n p d k).sup,arcs:=z1k (z0y m n) (z00 p d k).arcs g:Inst }))/\(∀ (g_2:Wide × Int),ValueP { sup:=(z22 m n p d k).sup,arcs:=z1k (z0y m n) (z00 p d k).arcs g:Inst } g_2.1 g_2.2->g_1.1.ok/\(True/\((true = true->((g_1.2 == g_2.2) = true->(decide (g_1.2 > (0:Int)) = true->(I64 (if I64 g_1.1.v then g_1.1.v else (0:Int))/\(I64 (IntKind.i64.wrap (((1:Int) + m % (7:Int)) * ((1:Int) + n % (7:Int))))))/\((decide ([g_2.1.hi,g_2.1.lo] = [(W ((if I64 g_1.1.v then g_1.1.v else (0:Int)) * IntKind.i64.wrap (((1:Int) + m % (7:Int)) * ((1:Int) + n % (7:Int))))).hi,(W ((if I64 g_1.1.v then g_1.1.v else (0:Int)) * IntKind.i64.wrap (((1:Int) + m % (7:Int)) * ((1:Int) + n % (7:Int))))).lo]) = true/\True)/\True))/\(decide (g_1.2 > (0:Int)) = false->(false = true/\True)/\True))/\((g_1.2 == g_2.2) = false->(false = true/\True)/\True))/\(true = false->(false = true/\True)/\True)))))))
theorem SolveScaled_q (p:List Int) (d:List Int) (k:Int) (m:Int) (n:Int) (ty0 ty1:TypeId):z8b p d k m n ty0 ty1 = z3p TT z9e (zep p d k m n) (z8c p d k m n) Try.f8 [.row 0,.row 1,.int .u8 k,.int .u8 m,.int .u8 n] [(0,.row false ty0 (.ints .u8 p)),(1,.row false ty1 (.ints .u8 d))] (z5a p d k m n):=by kernel_rfl
theorem SolveScaled_E (p:List Int) (d:List Int) (k:Int) (m:Int) (n:Int) (ty0 ty1:TypeId) (hp:Bytes p/\Bytes d/\p.length <= maxLen/\d.length <= maxLen/\0 <= k/\k <= 255/\0 <= m/\m <= 255/\0 <= n/\n <= 255):FVc TT z9e (zep p d k m n) (z8c p d k m n) Try.f8 [.row 0,.row 1,.int .u8 k,.int .u8 m,.int .u8 n] [(0,.row false ty0 (.ints .u8 p)),(1,.row false ty1 (.ints .u8 d))] (z5a p d k m n):=by
 refine FVc.of (z8b p d k m n ty0 ty1) (SolveScaled_q p d k m n ty0 ty1) ?_
 unfold z8b
 delta z6c z22 z1e z3j z0y z2i z0r
 simp only [eq_self,exists_const,forall_const,decide_eq_true_eq,decide_eq_false_iff_not,and_true,true_and,bne_iff_ne,ne_eq,bne_eq_false_iff_eq,Int.toNat_natCast,Bool.not_eq_true',Bool.not_eq_false',beq_iff_eq,beq_eq_false_iff_ne,z09]
 obtain ⟨p1,p2,p3,p4,k0,k1,m0,m1,n0,n1⟩:=hp
 obtain ⟨hF,hn,hm,n7,nn1,hw,hN⟩:=z96 p d k
 have em:IntKind.i64.wrap (1 + IntKind.i64.wrap (m.tmod 7)) = 1 + m % 7:=by rw [Int.tmod_eq_emod_of_nonneg m0,w64 (x:=m % 7) (by omega) (by omega),w64 (by omega) (by omega)]
 have en:IntKind.i64.wrap (1 + IntKind.i64.wrap (n.tmod 7)) = 1 + n % 7:=by rw [Int.tmod_eq_emod_of_nonneg n0,w64 (x:=n % 7) (by omega) (by omega),w64 (by omega) (by omega)]
 rw [em,en]
 have ha:1 <= 1 + m % 7:=by omega
 have ha7:1 + m % 7 <= 7:=by omega
 have hb:1 <= 1 + n % 7:=by omega
 have hb7:1 + n % 7 <= 7:=by omega
 generalize 1 + m % 7 = a at *
 generalize 1 + n % 7 = b at *
 generalize z00 p d k = I at *
 have n2:=hF.n2
 have hm2:=hF.m
 have hi:inf = 4611686018427387904:=rfl
 simp only [z97,List.length_set]
 refine ⟨⟨p1,p2,p3,p4,k0,k1⟩,⟨p1,p2,p3,p4,k0,k1⟩,by decide,by decide,0,⟨Nat.zero_le _,⟨trivial,trivial,rfl⟩,(z98 _ _).symm⟩,fun v hv=>⟨fun h1=>⟨by omega,by omega,fun x hx=>⟨by omega,by omega,v + 1,by omega,by omega,by rw [w64 (by omega) (by omega)]; omega,?_⟩⟩,fun h1=>?_⟩⟩
 ·have hx2:=zbv hx
  have hxw:=hw x (List.mem_of_getElem? hx2)
  have:=zb4 (x:=x) (B:=200) ha ha7 hxw.1 hxw.2 (by omega)
  exact zbw hx2 (w64 (by omega) (by omega))
 refine ⟨0,⟨Nat.zero_le _,rfl,zbu _ _ (by omega),(z98 _ _).symm⟩,fun c hc=>⟨fun h2=>⟨by omega,by omega,fun x hx=>?_⟩,fun h2=>?_⟩⟩
 ·have hx2:=zbv hx
  have hq:=hN x (List.mem_of_getElem? hx2)
  have l0:=hq.l0
  have l1:=hq.l1
  have c0:=hq.c0
  have c1:=hq.c1
  have q0:=hq.k0
  have q1:=hq.k1
  have b1:=zb4 (x:=x.low) (B:=2) ha ha7 (by omega) (by omega) (by omega)
  have b2:=zb4 (x:=x.cost) (B:=12) hb hb7 (by omega) (by omega) (by omega)
  have w1:IntKind.i64.wrap (a * x.low) = a * x.low:=w64 (by omega) (by omega)
  have w2:IntKind.i64.wrap (b * x.cost) = b * x.cost:=w64 (by omega) (by omega)
  have hS:∀ y:Arc,((z1k (scA a b) I.arcs c).set c y)[c]? = some y:=fun y=>by rw [List.getElem?_set_self (by rw [z97]; omega)]
  have key:∀ y:Arc,y = scA a b x->∃ g',g' <= I.arcs.length/\I.arcs.length - g' < I.arcs.length - c/\IntKind.i64.wrap ((c:Int) + 1) = (g':Int)/\(z1k (scA a b) I.arcs c).set c y = z1k (scA a b) I.arcs g':=fun y hy=>⟨c + 1,by omega,by omega,by rw [w64 (by omega) (by omega)]; omega,zbw hx2 hy⟩
  simp only [hx,hS,Option.some.injEq,forall_eq',List.set_set,w1,w2]
  have z1:((0:Int) <= (c:Int)/\(c:Int) < (I.arcs.length:Int)):=by omega
  have z2:c < I.arcs.length:=by omega
  refine ⟨z1,z2,z1,z2,fun hcap=>?_,fun hcap=>?_⟩
  ·have c7:x.cap <= 7:=c1.resolve_right hcap
   have b3:=zb4 (x:=x.cap) (B:=7) ha ha7 (by omega) (by omega) (by omega)
   have w3:IntKind.i64.wrap (a * x.cap) = a * x.cap:=w64 (by omega) (by omega)
   rw [w3]
   refine ⟨z1,z2,z1,z2,z1,z2,z1,z2,?_⟩
   refine key _ ?_
   unfold scA
   rw [if_neg (show ¬ x.cap = inf from hcap)]
  ·refine ⟨z1,z2,z1,z2,?_⟩
   refine key _ ?_
   unfold scA
   rw [if_pos (show x.cap = inf from hcap)]
 rw [zbu _ _ (show I.arcs.length <= c by omega)]
 have hJ:=scale_few hF hN hw ha ha7 hb hb7
 refine ⟨⟨hF.right,hF.small⟩,?_⟩
 rintro ⟨v,i⟩ hv
 refine ⟨⟨hJ.right,hJ.small⟩,?_⟩
 rintro ⟨w,j⟩ hw2
 obtain ⟨e1,e2,t,ht,rfl,rfl⟩:=scaled_law hF hN hw ha ha7 hb hb7 hv hw2
 subst e1
 have hI128:zac t:=by unfold I64 at ht; unfold zac; omega
 have hab:=abs_mul (A:=7) (B:=7) (x:=a) (y:=b) (by omega) (by omega) (by omega) (by omega)
 have wab:IntKind.i64.wrap (a * b) = a * b:=w64 (by omega) (by omega)
 have evt:(W t).v = t:=v_of hI128
 dsimp only at e2 ⊢
 rw [evt,if_pos ht,wab,Int.mul_comm t]
 exact ⟨zjh _,⟨fun _=>⟨fun _=>⟨⟨ht,by unfold I64; omega⟩,rfl⟩,fun h=>absurd e2 h⟩,fun h=>absurd rfl h⟩,fun h=>by cases h⟩
theorem SolveScaled_ok:SpecOk Try.prog SolveScaled_n true (z04 true zd1) :=
 z0b z0v (show z1w Try.prog z9e from z02 z8t (z02 zem (z02 Back_ok (z02 Times_ok (z02 zcq (z06)))))) (by kernel_rfl) mixedOrders Try.func8 rfl rfl (by kernel_rfl) (n:=5) (by decide +kernel) (I:=SolveScaled_IA) (fun _ _=>z07) (A:=SolveScaled_A)
  (fun args h r hr=>by
   unfold zd1 at hr
   split at hr
   ·rename_i k m n ty0 p ty1 d; cases hr; refine ⟨rfl,fun hp=>?_⟩; have hE:=SolveScaled_E p d k m n ty0 ty1 hp; exact hE
   ·cases hr)
end Go.Proofs.Ytggblkbecekbdaa
end
section
namespace Go.Proofs.Ytggblkbecekbdaa
open Go Go.RowKit Go.ChangeShapes Go.WideShapes Go.ChangeAt Go.Deep Go.Ql Go.Vc
theorem zcv (H:Type) (enc:TypeId × Value->H) (W:World) (base:Nat) (args:Array Value) (ds gs:List (DataW H)) (before:List MemPlace)
  (hval:∀ (j:Nat) t v,Try.f8.params[j]? = some t->args[j]? = some v->Value.okWide Try.prog W .any base t v)
  (hW:DataW.Whole enc Try.prog Try.f8.params.toList Rows.solveScaledSpec.vars false W args.toList ds gs before)
  (hz:(DataW.weightsEach Try.prog (Try.f8.params.toList ++ Rows.solveScaledSpec.plain.varTypes Try.prog) (ds ++ gs)).all (· <= reachBytes) = true) :
  Calls Try.prog 8 args W fun e W'=>∃ v,e = .returned v/\Rows.solveScaledSpec.post enc Try.prog Try.f8 false true false false W args v W':=by
 have hW':=hW
 obtain ⟨p,q,hA0,hV,rfl,hfz,hnd⟩:=hW
 have hA:DataW.TrodAll enc Try.prog W 0 (fun _=>true) true Try.f8.params.toList args.toList ds p:=hA0
 rw [Try.params8] at hA hval hz
 obtain ⟨v0,vs0,d0,ds0,p0,q0,hargs,rfl,rfl,h0,r0⟩:=trodAll_cons hA
 obtain ⟨v1,vs1,d1,ds1,p1,q1,rfl,rfl,rfl,h1,r1⟩:=trodAll_cons r0
 obtain ⟨v2,vs2,d2,ds2,p2,q2,rfl,rfl,rfl,h2,r2⟩:=trodAll_cons r1
 obtain ⟨v3,vs3,d3,ds3,p3,q3,rfl,rfl,rfl,h3,r3⟩:=trodAll_cons r2
 obtain ⟨v4,vs4,d4,ds4,p4,q4,rfl,rfl,rfl,h4,r4⟩:=trodAll_cons r3
 obtain ⟨rfl,rfl,rfl⟩:=trodAll_nil r4
 obtain rfl:args = #[v0,v1,v2,v3,v4]:=by cases args; simp_all
 obtain ⟨z0,hz⟩:=z0m hz
 obtain ⟨z1,hz⟩:=z0m hz
 obtain ⟨z2,hz⟩:=z0m hz
 obtain ⟨z3,hz⟩:=z0m hz
 obtain ⟨z4,hz⟩:=z0m hz
 obtain ⟨A0,c0,x0,rfl,hR0,hm0,hw0⟩:=z3n Try.underlying22 Try.underlying5 (by kernel_rfl) (hval 0 22 v0 rfl rfl) h0
 have hb0:=zgi hw0
 have hs0:=z1t Try.underlying22 (of_decide_eq_true (by kernel_rfl)) h0 z0
 obtain ⟨A1,c1,x1,rfl,hR1,hm1,hw1⟩:=z3n Try.underlying22 Try.underlying5 (by kernel_rfl) (hval 1 22 v1 rfl rfl) h1
 have hb1:=zgi hw1
 have hs1:=z1t Try.underlying22 (of_decide_eq_true (by kernel_rfl)) h1 z1
 obtain ⟨x2,rfl,rfl,rfl,wn2⟩:=open_int Try.underlying5 (hval 2 5 v2 rfl rfl) h2
 have hb2:=zde wn2
 obtain ⟨x3,rfl,rfl,rfl,wn3⟩:=open_int Try.underlying5 (hval 3 5 v3 rfl rfl) h3
 have hb3:=zde wn3
 obtain ⟨x4,rfl,rfl,rfl,wn4⟩:=open_int Try.underlying5 (hval 4 5 v4 rfl rfl) h4
 have hb4:=zde wn4
 have hpre:(z5a x0 x1 x2 x3 x4).pre:=⟨hb0,hb1,hm0,hm1,hb2.1,hb2.2,hb3.1,hb3.2,hb4.1,hb4.2⟩
 have hc:=zb1 (zaw Try.func8 rfl rfl) SolveScaled_ok (ρ:=fun k=>if k = 0 then .slice A0 x0.length c0 else if k = 1 then .slice A1 x1.length c1 else .int .i64 0) (W:=W) (args:=[.row 0,.row 1,.int .u8 x2,.int .u8 x3,.int .u8 x4]) (hp:=[(0,.row false 0 (.ints .u8 x0)),(1,.row false 0 (.ints .u8 x1))]) (fun k=>by (repeat' split) <;> rfl) ⟨⟨rfl,z5k hR0⟩,⟨⟨rfl,z5k hR1⟩,trivial⟩⟩ ((z5a x0 x1 x2 x3 x4).pre/\SV.bool true = .bool true) ⟨hpre,rfl⟩ (by kernel_rfl)
 simp only [z0q,SV.toV] at hc
 refine Calls.mono (show Calls Try.prog 8 #[_,_,_,_,_] W _ from hc) fun e W' hx=>?_
 obtain ⟨rfl,hb⟩:=hx
 exact ⟨_,rfl,zf2 zf1 hW' rfl (by kernel_rfl) Try.underlying4 (by kernel_rfl) rfl hb⟩
theorem zg4 (os:Os) (started:os.Started) (H:Type) (enc:TypeId × Value->H) :
  ReturnsInHanded {} Try.checked os 8 .any (Rows.solveScaledSpec.pre6 enc Try.prog Try.f8 Rows.solveScaledRow.domain false) (Rows.solveScaledSpec.post enc Try.prog Try.f8 false true false false):=by
 refine returnsInHanded_of_change_sized (C:=Try.checked) zfa started (by kernel_rfl) Try.func8
  (ChangeSpec.witness6 (enc:=enc) (C:=Try.checked) false ⟨#[],#[.slice none 0 0,.slice none 0 0,.int .u8 0,.int .u8 0,.int .u8 0],[]⟩ 8 (by kernel_rfl) (by kernel_rfl) (by kernel_rfl) (by kernel_rfl)) ?_
 intro W base args ds gs before hval0 hW hcnd hz _
 exact zcv H enc W base args ds gs before hval0 hW hz
theorem solveScaled_holds:Rows.SolveScaledSaid :=
 OpenClaim.holds_of_wide 8 Try.f8 rfl rfl rfl rfl rfl rfl rfl ⟨rfl,rfl,rfl,rfl,rfl⟩ rfl rfl rfl rfl rfl (by kernel_rfl) Try.func8 (by kernel_rfl)
  (of_decide_eq_true (by kernel_rfl)) (by unfold Func.isWrapper; first | (rw [if_pos (by decide +kernel)]; kernel_rfl) | (rw [if_neg (by decide +kernel)]; exact ⟨rfl,rfl⟩))
  (fun os started H enc _=>zg4 os started H enc)
end Go.Proofs.Ytggblkbecekbdaa
end
