/- SolveParted: the law is true for every input: the given statement, with no condition of its own. -/
import Derived.Test.YtggblkbecekbdaaZG15
import Derived.Test.YtggblkbecekbdaaZG6
import Derived.Test.YtggblkbecekbdaaZG12
import Derived.Test.YtggblkbecekbdaaZG5
import Derived.Test.YtggblkbecekbdaaZG7
set_option linter.all false
set_option linter.unusedSimpArgs false
set_option linter.unusedVariables false
set_option maxRecDepth 1000000
section
namespace Go.Ql
open Go Go.Vc
def z55 (p:List Int) (a:Arc):Arc:={ a with cost:=a.cost - p.getD a.src.toNat 0 + p.getD a.dst.toNat 0 }
def z2m (p:List Int) (I:Inst):Inst:=⟨I.sup,I.arcs.map (z55 p)⟩
def zin (p s:List Int):Nat->Int
 | 0=>0
 | k + 1=>zin p s k + p.getD k 0 * s.getD k 0
theorem dotK_sum (p s:List Int):∀ k,zin p s k = z1m (fun v=>s.getD v 0 * p.getD v 0) k
 | 0=>rfl
 | k + 1=>by rw [zin,z1m,dotK_sum p s k,Int.mul_comm]
theorem dotK_bd {p s:List Int} (hp:∀ k,-16 <= p.getD k 0/\p.getD k 0 <= 16) (hs:∀ k,-200 <= s.getD k 0/\s.getD k 0 <= 200):∀ k:Nat,-(3200 * (k:Int)) <= zin p s k/\zin p s k <= 3200 * (k:Int)
 | 0=>by simp [zin]
 | k + 1=>by
  have ih:=dotK_bd hp hs k
  have h1:=hp k
  have h2:=hs k
  have h3:-3200 <= p.getD k 0 * s.getD k 0/\p.getD k 0 * s.getD k 0 <= 3200:=by
   generalize p.getD k 0 = x at *
   generalize s.getD k 0 = y at *
   have a1:0 <= (16 - x) * (200 - y):=Int.mul_nonneg (by omega) (by omega)
   have a2:0 <= (16 - x) * (200 + y):=Int.mul_nonneg (by omega) (by omega)
   have a3:0 <= (16 + x) * (200 - y):=Int.mul_nonneg (by omega) (by omega)
   have a4:0 <= (16 + x) * (200 + y):=Int.mul_nonneg (by omega) (by omega)
   simp only [Int.sub_mul,Int.add_mul,Int.mul_sub,Int.mul_add] at a1 a2 a3 a4
   omega
  rw [zin]
  have e:((k + 1:Nat):Int) = k + 1:=by omega
  rw [e]; omega
theorem zau {n:Nat} {l:List Arc} (p x:List Int) (ho:∀ a ∈ l,z2l n a = true):∀ k,k <= l.length->z1n (l.map (z55 p)) x k = z1n l x k - potK l x p k
 | 0,_=>rfl
 | k + 1,h=>by
  have hm:l.getD k default ∈ l:=by rw [List.getD_eq_getElem?_getD,List.getElem?_eq_getElem (show k < l.length by omega)]; exact List.getElem_mem _
  obtain ⟨o1,o2,o3,o4⟩:=okArc_iff.1 (ho _ hm)
  rw [z1n,z1n,zau p x ho k (by omega),z11 (by omega),potK]
  have e1:zmr p (l.getD k default).src = p.getD (l.getD k default).src.toNat 0:=by unfold zmr; rw [if_pos o1]
  have e2:zmr p (l.getD k default).dst = p.getD (l.getD k default).dst.toNat 0:=by unfold zmr; rw [if_pos o3]
  rw [e1,e2]
  have e3:(z55 p (l.getD k default)).cost = (l.getD k default).cost - p.getD (l.getD k default).src.toNat 0 + p.getD (l.getD k default).dst.toNat 0:=rfl
  rw [e3]
  generalize p.getD (l.getD k default).src.toNat 0 = u
  generalize p.getD (l.getD k default).dst.toNat 0 = v
  rw [Int.add_mul,Int.sub_mul,Int.mul_sub,Int.mul_comm (x.getD k 0) u,Int.mul_comm (x.getD k 0) v]
  omega
theorem zhh {I:Inst} (h:FewI I) (hn:∀ a ∈ I.arcs,-100 <= a.cost/\a.cost <= 100) {p:List Int} (hp:∀ k,-16 <= p.getD k 0/\p.getD k 0 <= 16):FewI (z2m p I):=by
 refine ⟨h.n1,h.n2,by simpa [z2m] using h.m,fun a ha=>?_,h.sup,h.sum⟩
 obtain ⟨b,hb,rfl⟩:=List.mem_map.1 ha
 have:=h.arc b hb
 have h1:=hn b hb
 have h2:=hp b.src.toNat
 have h3:=hp b.dst.toNat
 exact ⟨this.s0,this.s1,this.d0,this.d1,this.l0,this.l1,this.c,by show -2000 <= b.cost - _ + _; omega,by show b.cost - _ + _ <= 2000; omega⟩
theorem netK_map {f:Arc->Arc} (hf:∀ a,(f a).src = a.src/\(f a).dst = a.dst) (n:Int) (l:List Arc) (x:List Int) (v:Int):∀ k,k <= l.length->z2d n (l.map f) x k v = z2d n l x k v
 | 0,_=>rfl
 | k + 1,h=>by
  rw [z2d,z2d,netK_map hf n l x v k (by omega),z11 (by omega)]
  unfold z3q z2l
  rw [(hf _).1,(hf _).2]
theorem zmv {I:Inst} (h:FewI I) (hn:∀ a ∈ I.arcs,-100 <= a.cost/\a.cost <= 100) {p:List Int} (hp:∀ k,-16 <= p.getD k 0/\p.getD k 0 <= 16) {x:List Int} (hx:A64 x):(z1g I x = 0 ↔ z1g (z2m p I) x = 0)/\(z1g I x = 0->z3v I x = z3v (z2m p I) x + zin p I.sup I.sup.length):=by
 have hl:(z2m p I).arcs.length = I.arcs.length:=by simp [z2m]
 have hb:Betw I x ↔ Betw (z2m p I) x:=by
  unfold Betw
  rw [hl]
  refine ⟨fun hh a ha=>?_,fun hh a ha=>?_⟩
  ·have e:z18 (z2m p I) a = z55 p (z18 I a):=z11 ha
   rw [e]; exact hh a ha
  ·have e:z18 (z2m p I) a = z55 p (z18 I a):=z11 ha
   have:=hh a ha
   rw [e] at this; exact this
 have hk:∀ v:Int,z2d (z2m p I).sup.length (z2m p I).arcs x (z2m p I).arcs.length v = z2d I.sup.length I.arcs x I.arcs.length v:=fun v=>by
  rw [hl]; exact netK_map (f:=z55 p) (fun _=>⟨rfl,rfl⟩) _ _ _ _ _ (Nat.le_refl _)
 refine ⟨?_,fun hf=>?_⟩
 ·rw [z34 hx,z34 hx,<- hb,hl]
  refine and_congr ⟨fun _=>(zhh h hn hp).right,fun _=>h.right⟩ (and_congr Iff.rfl (and_congr Iff.rfl ?_))
  refine ⟨fun hh v hv=>?_,fun hh v hv=>?_⟩
  ·rw [<- hl,hk]; exact hh v hv
  ·rw [<- hk,hl]; exact hh v hv
 ·obtain ⟨hr,hxl,-,hnet⟩:=(z34 hx).1 hf
  have ho:∀ a ∈ I.arcs,z2l I.sup.length a = true:=fun a ha=>(z1u hr ha).1
  unfold z3v
  rw [hl]
  show _ = z1n (I.arcs.map (z55 p)) x I.arcs.length + _
  rw [zau p x ho _ (Nat.le_refl _),<- net_pot x p ho _ (Nat.le_refl _),dotK_sum]
  have:z1m (fun v:Nat=>z2d I.sup.length I.arcs x I.arcs.length v * p.getD v 0) I.sup.length = z1m (fun v=>I.sup.getD v 0 * p.getD v 0) I.sup.length:=z16 fun v hv=>by rw [hnet v hv]
  rw [this]; omega
theorem priced_ray {I:Inst} {p l:List Int} (h1:1 <= l.length) (c1:∀ a ∈ l,0 <= a/\a < I.arcs.length) (c3:∀ k,k < l.length->(z2p I (l.getD k 0)).dst = (z2p I (l.getD ((k + 1) % l.length) 0)).src):rayS (z2m p I) l = rayS I l:=by
 have hl:(z2m p I).arcs.length = I.arcs.length:=by simp [z2m]
 have hk:∀ t,t <= l.length->rayK (z2m p I) l t = rayK I l t + z1m (fun k=>p.getD (z2p I (l.getD ((k + 1) % l.length) 0)).src.toNat 0 - p.getD (z2p I (l.getD k 0)).src.toNat 0) t:=fun t=>by
  induction t with
  | zero=>intro _; simp [rayK,z1m]
  | succ t ih =>
   intro ht
   have hm:l.getD t 0 ∈ l:=by rw [List.getD_eq_getElem?_getD,List.getElem?_eq_getElem (show t < l.length by omega)]; exact List.getElem_mem _
   obtain ⟨q1,q2⟩:=c1 _ hm
   have e1:zd8 I (l.getD t 0) = true:=isArcF_iff.2 ⟨q1,q2⟩
   have e2:zd8 (z2m p I) (l.getD t 0) = true:=isArcF_iff.2 ⟨q1,by rw [hl]; exact q2⟩
   have e3:z2p (z2m p I) (l.getD t 0) = z55 p (z2p I (l.getD t 0)):=z11 (by omega)
   rw [rayK,rayK,z1m,ih (by omega)]
   unfold zjy
   rw [if_pos e1,if_pos e2,e3,<- c3 t (by omega)]
   show _ + ((z2p I (l.getD t 0)).cost - _ + _) = _
   omega
 unfold rayS
 rw [hk _ (Nat.le_refl _),zi2 (fun k=>p.getD (z2p I (l.getD k 0)).src.toNat 0) l.length (Nat.le_refl _) (by omega),Nat.mod_self]
 omega
theorem ziy {I:Inst} (h:FewI I) (hn:∀ a ∈ I.arcs,-100 <= a.cost/\a.cost <= 100) {p:List Int} (hp:∀ k,-16 <= p.getD k 0/\p.getD k 0 <= 16) {l:List Int}:z46 I l = 0 ↔ z46 (z2m p I) l = 0:=by
 have hl:(z2m p I).arcs.length = I.arcs.length:=by simp [z2m]
 have hat:∀ a:Int,0 <= a/\a < I.arcs.length->z2p (z2m p I) a = z55 p (z2p I a):=fun a ha=>z11 (by omega)
 have hm:∀ k,k < l.length->l.getD k 0 ∈ l:=fun k hk=>by rw [List.getD_eq_getElem?_getD,List.getElem?_eq_getElem hk]; exact List.getElem_mem _
 have hmod:∀ k,k < l.length->(k + 1) % l.length < l.length:=fun k hk=>Nat.mod_lt _ (by omega)
 rw [turns_char,turns_char,hl]
 constructor
 ·rintro ⟨-,h1,h2,c1,c2,c3,c4,c5⟩
  refine ⟨(zhh h hn hp).right,h1,h2,c1,c2,fun k hk=>?_,fun a ha=>?_,by rw [priced_ray h1 c1 c3]; exact c5⟩
  ·rw [hat _ (c1 _ (hm k hk)),hat _ (c1 _ (hm _ (hmod k hk)))]; exact c3 k hk
  ·rw [hat _ (c1 a ha)]; exact c4 a ha
 ·rintro ⟨-,h1,h2,c1,c2,c3,c4,c5⟩
  have c3':∀ k,k < l.length->(z2p I (l.getD k 0)).dst = (z2p I (l.getD ((k + 1) % l.length) 0)).src:=fun k hk=>by
   have:=c3 k hk
   rw [hat _ (c1 _ (hm k hk)),hat _ (c1 _ (hm _ (hmod k hk)))] at this; exact this
  refine ⟨h.right,h1,h2,c1,c2,c3',fun a ha=>?_,by rw [priced_ray h1 c1 c3'] at c5; exact c5⟩
  have:=c4 a ha
  rw [hat _ (c1 a ha)] at this; exact this
theorem priced_law {I:Inst} (h:FewI I) (hn:∀ a ∈ I.arcs,-100 <= a.cost/\a.cost <= 100) {p:List Int} (hp:∀ k,-16 <= p.getD k 0/\p.getD k 0 <= 16) {v w:Wide} {i j:Int} (h1:ValueP I v i) (h2:ValueP (z2m p I) w j):i = j/\0 < i/\(i = 1->∃ t,w = W t/\v = W (t + zin p I.sup I.sup.length)):=by
 obtain ⟨e1,e2,e3,-⟩:=value_map h1 h2 (fun x hx=>(zmv h hn hp hx).1) (fun x hx=>(zmv h hn hp hx).2) ⟨fun ⟨l,hl,hh⟩=>⟨l,(ziy h hn hp).1 hl,hh⟩,fun ⟨l,hl,hh⟩=>⟨l,(ziy h hn hp).2 hl,hh⟩⟩
 exact ⟨e1,e2,e3⟩
end Go.Ql
end
section
namespace Go.Ql
open Go Go.Vc
def zhv (I:Inst) (p:List Int) (c:Nat):Int:=(z18 I c).cost - p.getD (z18 I c).src.toNat 0 + p.getD (z18 I c).dst.toNat 0
theorem slackA_iff {r x:Int} {a:Arc} (h:zac r):z6k r x a = true ↔ (0 < r->x = a.low)/\(r < 0->x = a.cap/\a.cap ≠ inf):=by
 have e1:decide (0 < sgn r) = decide (0 < r):=decide_eq_decide.2 (sgn_pos h)
 have e2:decide (sgn r < 0) = decide (r < 0):=decide_eq_decide.2 (sgn_neg h)
 unfold z6k
 rw [e1,e2]
 by_cases h1:0 < r
 ·have h2:¬ r < 0:=by omega
  by_cases h3:x = a.low <;> simp [h1,h2,h3]
 ·by_cases h2:r < 0
  ·by_cases h3:x = a.cap <;> by_cases h4:a.cap = inf <;> simp [h1,h2,h3,h4]
  ·simp [h1,h2]
theorem z69 {I:Inst} {x p:List Int} (hp:A64 p):z1f I x p = 0 ↔ z1g I x = 0/\p.length = I.sup.length/\∀ c,c < I.arcs.length->(0 < zhv I p c->x.getD c 0 = (z18 I c).low)/\(zhv I p c < 0->x.getD c 0 = (z18 I c).cap/\(z18 I c).cap ≠ inf):=by
 have hk:z1g I x = 0->∀ c,c < I.arcs.length->(z44 I x p c = true ↔ (0 < zhv I p c->x.getD c 0 = (z18 I c).low)/\(zhv I p c < 0->x.getD c 0 = (z18 I c).cap/\(z18 I c).cap ≠ inf)):=fun hf c hc=>by
  obtain ⟨hr,-⟩:=fitsF_zero.1 hf
  obtain ⟨hget,hm⟩:=z48 hc
  have ok:=z1x hr hc
  have k0:=ok.k0; have k1:=ok.k1; have s0:=ok.s0; have d0:=ok.d0
  have e:redF I p c = zhv I p c:=by
   rw [redF_at hget (z1u hr hm).1]
   unfold redP redA zmr zhv
   rw [if_pos s0,if_pos d0]
  have b1:=hp.at (z18 I c).src.toNat
  have b2:=hp.at (z18 I c).dst.toNat
  unfold z44
  rw [e]
  exact slackA_iff (by unfold zhv zac; omega)
 unfold z1f
 constructor
 ·intro h
  split at h
  ·rename_i hn; exact absurd h hn
  ·rename_i hf
   have hf:=Classical.byContradiction hf
   split at h
   ·cases h
   ·rename_i hl
    split at h
    ·rename_i ha
     exact ⟨hf,Classical.byContradiction hl,fun c hc=>(hk hf c hc).1 (List.all_eq_true.1 ha c (List.mem_range.2 hc))⟩
    ·cases h
 ·rintro ⟨hf,hl,ha⟩
  rw [if_neg (fun h=>h hf),if_neg (fun h=>h hl),if_pos]
  exact List.all_eq_true.2 fun c hc=>(hk hf c (List.mem_range.1 hc)).2 (ha c (List.mem_range.1 hc))
theorem proves_char {I:Inst} {S:List Bool}:z5h I S = 0 ↔ z03 I = 0/\S.length = I.sup.length/\∃ t,roomC I S = some t/\t < zf5 I S:=by
 unfold z5h
 constructor
 ·intro h
  split at h
  ·rename_i hn; exact absurd h hn
  ·rename_i hr
   have hr:=Classical.byContradiction hr
   have hs:=z0c hr
   split at h
   ·cases h
   ·rename_i hl
    cases hc:roomC I S with
    | none=>rw [hc] at h; cases h
    | some t =>
     rw [hc] at h
     dsimp only at h
     refine ⟨hr,Classical.byContradiction hl,t,rfl,?_⟩
     split at h
     ·cases h
     ·rename_i hle
      apply Int.lt_of_not_ge
      intro hge
      exact hle ((zji hr (by omega) (by omega) (z1v hr).1 hc (zf5 I S) rfl).2 hge)
 ·rintro ⟨hr,hl,t,ht,hlt⟩
  have hs:=z0c hr
  rw [if_neg (fun h=>h hr),if_neg (fun h=>h hl),ht]
  dsimp only
  rw [if_neg]
  intro hle
  have:=(zji hr (by omega) (by omega) (z1v hr).1 ht (zf5 I S) rfl).1 hle
  omega
def scA (a b:Int) (q:Arc):Arc:=⟨q.src,q.dst,a * q.low,if q.cap = inf then q.cap else a * q.cap,b * q.cost⟩
def z1p (a b:Int) (I:Inst):Inst:=⟨I.sup.map (a * ·),I.arcs.map (scA a b)⟩
theorem sum_mul (a:Int):∀ s:List Int,(s.map (a * ·)).sum = a * s.sum
 | []=>by simp
 | y :: s=>by rw [List.map_cons,List.sum_cons,List.sum_cons,sum_mul a s,Int.mul_add]
theorem ziu {a x y:Int} (ha:0 <= a) (h:x <= y):a * x <= a * y:=Int.mul_le_mul_of_nonneg_left h ha
theorem zb4 {a x B:Int} (ha:1 <= a) (ha7:a <= 7) (h0:-B <= x) (h1:x <= B) (hB:0 <= B):-(7 * B) <= a * x/\a * x <= 7 * B:=by
 have e1:=ziu (a:=a) (by omega) h0
 have e2:=ziu (a:=a) (by omega) h1
 have e3:a * B <= 7 * B:=Int.mul_le_mul_of_nonneg_right ha7 hB
 rw [Int.mul_neg] at e1
 omega
theorem scale_few {I:Inst} (h:FewI I) {n:Int} (hN:∀ q ∈ I.arcs,q.Nice n) (hw:Within 200 I.sup) {a b:Int} (ha:1 <= a) (ha7:a <= 7) (hb:1 <= b) (hb7:b <= 7):FewI (z1p a b I):=by
 refine ⟨by simpa [z1p] using h.n1,by simpa [z1p] using h.n2,by simpa [z1p] using h.m,fun q hq=>?_,fun y hy=>?_,by unfold z1p; dsimp only; rw [sum_mul,h.sum,Int.mul_zero]⟩
 ·obtain ⟨r,hr,rfl⟩:=List.mem_map.1 hq
  have q1:=h.arc r hr
  have q2:=hN r hr
  have l0:=q2.l0; have l1:=q2.l1; have c0:=q2.c0; have c1:=q2.c1; have k0:=q2.k0; have k1:=q2.k1
  have hi:inf = 4611686018427387904:=rfl
  have m1:=zb4 (x:=r.low) (B:=2) ha ha7 (by omega) (by omega) (by omega)
  have m2:=zb4 (x:=r.cost) (B:=12) hb hb7 (by omega) (by omega) (by omega)
  have m3:=ziu (a:=a) (by omega) l0
  have m4:=ziu (a:=a) (by omega) c0
  rw [Int.mul_zero] at m3
  have hl:(z1p a b I).sup.length = I.sup.length:=by simp [z1p]
  rw [hl]
  refine ⟨q1.s0,q1.s1,q1.d0,q1.d1,m3,by show a * r.low <= 500; omega,?_,by show -2000 <= b * r.cost; omega,by show b * r.cost <= 2000; omega⟩
  show (if r.cap = inf then r.cap else a * r.cap) = inf ∨ a * r.low <= (if r.cap = inf then r.cap else a * r.cap)/\(if r.cap = inf then r.cap else a * r.cap) <= 2000
  by_cases hc:r.cap = inf
  ·rw [if_pos hc]; exact .inl hc
  ·rw [if_neg hc]
   have hc7:r.cap <= 7:=c1.resolve_right (fun e=>hc e)
   have m5:=zb4 (x:=r.cap) (B:=7) ha ha7 (by omega) (by omega) (by omega)
   exact .inr ⟨m4,by omega⟩
 ·obtain ⟨z,hz,rfl⟩:=List.mem_map.1 hy
  have h1:=hw z hz
  have:=zb4 (x:=z) (B:=200) ha ha7 h1.1 h1.2 (by omega)
  omega
theorem z7w (a:Int) (x:List Int) (k:Nat):(x.map (a * ·)).getD k 0 = a * x.getD k 0:=by
 rw [List.getD_eq_getElem?_getD,List.getElem?_map,List.getD_eq_getElem?_getD]
 cases x[k]? with
 | none=>simp
 | some y=>rfl
theorem netK_scale (a b n:Int) (l:List Arc) (x:List Int) (v:Int):∀ k,k <= l.length->z2d n (l.map (scA a b)) (x.map (a * ·)) k v = a * z2d n l x k v
 | 0,_=>by simp [z2d]
 | k + 1,h=>by
  rw [z2d,z2d,netK_scale a b n l x v k (by omega),z11 (by omega),z7w,Int.mul_add]
  congr 1
  unfold z3q
  have e:z2l n (scA a b (l.getD k default)) = z2l n (l.getD k default):=rfl
  rw [e]
  show (if _ then (if (l.getD k default).src = v then _ else _) - (if (l.getD k default).dst = v then _ else _) else _) = _
  split
  ·rw [Int.mul_sub]
   congr 1 <;> split <;> simp
  ·simp
theorem zlc (a b:Int) (l:List Arc) (x:List Int):∀ k,k <= l.length->z1n (l.map (scA a b)) (x.map (a * ·)) k = a * b * z1n l x k
 | 0,_=>by simp [z1n]
 | k + 1,h=>by
  rw [z1n,z1n,zlc a b l x k (by omega),z11 (by omega),z7w,Int.mul_add]
  congr 1
  show b * (l.getD k default).cost * (a * x.getD k 0) = _
  simp only [Int.mul_assoc,Int.mul_left_comm,Int.mul_comm]
theorem scale_fits {I:Inst} {a b:Int} (hJ:FewI (z1p a b I)) (ha:1 <= a) {x:List Int} (hx:A64 x) (hax:A64 (x.map (a * ·))) (hf:z1g I x = 0):z1g (z1p a b I) (x.map (a * ·)) = 0:=by
 obtain ⟨hr,hl,hb,hn⟩:=(z34 hx).1 hf
 have hlen:(z1p a b I).arcs.length = I.arcs.length:=by simp [z1p]
 refine (z34 hax).2 ⟨hJ.right,by rw [hlen]; simpa using hl,fun c hc=>?_,fun v hv=>?_⟩
 ·have hc2:c < I.arcs.length:=by rw [<- hlen]; exact hc
  have e:z18 (z1p a b I) c = scA a b (z18 I c):=z11 hc2
  obtain ⟨b1,b2⟩:=hb c hc2
  rw [e,z7w]
  refine ⟨ziu (by omega) b1,?_⟩
  show (if (z18 I c).cap = inf then (z18 I c).cap else a * (z18 I c).cap) = inf ∨ _ <= (if (z18 I c).cap = inf then (z18 I c).cap else a * (z18 I c).cap)
  by_cases h:(z18 I c).cap = inf
  ·rw [if_pos h]; exact .inl h
  ·rw [if_neg h]; exact .inr (ziu (by omega) (b2.resolve_left h))
 ·have hv2:v < I.sup.length:=by simpa [z1p] using hv
  rw [hlen]
  show z2d ((I.sup.map (a * ·)).length) (I.arcs.map (scA a b)) _ _ _ = (I.sup.map (a * ·)).getD v 0
  rw [List.length_map,netK_scale a b _ _ _ _ _ (Nat.le_refl _),hn v hv2,z7w]
theorem scale_slack {I:Inst} {n:Int} (hN:∀ q ∈ I.arcs,q.Nice n) {a b:Int} (hJ:FewI (z1p a b I)) (ha:1 <= a) (ha7:a <= 7) (hb:1 <= b) {x p:List Int} (hx:A64 x) (hp:A64 p) (hax:A64 (x.map (a * ·))) (hbp:A64 (p.map (b * ·))) (hs:z1f I x p = 0):z1f (z1p a b I) (x.map (a * ·)) (p.map (b * ·)) = 0:=by
 obtain ⟨hf,hl,hc⟩:=(z69 hp).1 hs
 have hlen:(z1p a b I).arcs.length = I.arcs.length:=by simp [z1p]
 refine (z69 hbp).2 ⟨scale_fits hJ ha hx hax hf,by simpa [z1p] using hl,fun c hcl=>?_⟩
 have hc2:c < I.arcs.length:=by rw [<- hlen]; exact hcl
 have e:z18 (z1p a b I) c = scA a b (z18 I c):=z11 hc2
 have er:zhv (z1p a b I) (p.map (b * ·)) c = b * zhv I p c:=by
  unfold zhv
  rw [e,z7w,z7w]
  show b * (z18 I c).cost - b * p.getD (z18 I c).src.toNat 0 + b * p.getD (z18 I c).dst.toNat 0 = _
  rw [Int.mul_add,Int.mul_sub]
 obtain ⟨h1,h2⟩:=hc c hc2
 rw [er,e,z7w]
 refine ⟨fun h=>?_,fun h=>?_⟩
 ·have:0 < zhv I p c:=by
   apply Int.lt_of_not_ge; intro hge
   have:=ziu (a:=b) (by omega) hge
   rw [Int.mul_zero] at this; omega
  rw [h1 this]; rfl
 ·have:zhv I p c < 0:=by
   apply Int.lt_of_not_ge; intro hge
   have:=ziu (a:=b) (by omega) hge
   rw [Int.mul_zero] at this; omega
  obtain ⟨q1,q2⟩:=h2 this
  have hq:=hN _ (z48 hc2).2
  have c1:=hq.c1.resolve_right (fun e=>q2 e)
  have c0:=hq.c0; have l0:=hq.l0
  have m5:=zb4 (x:=(z18 I c).cap) (B:=7) ha ha7 (by omega) (by omega) (by omega)
  have hi:inf = 4611686018427387904:=rfl
  show _ = (if (z18 I c).cap = inf then (z18 I c).cap else a * (z18 I c).cap)/\(if (z18 I c).cap = inf then (z18 I c).cap else a * (z18 I c).cap) ≠ inf
  rw [if_neg q2,q1]
  exact ⟨rfl,by omega⟩
theorem room_scale {a b n:Int} {m:Int} {S:List Bool} (ha:1 <= a) (ha7:a <= 7):∀ (l:List Arc),(∀ q ∈ l,q.Nice n)->∀ s t,z1z m S l s = some t->z1z m S (l.map (scA a b)) (a * s) = some (a * t)
 | [],_,s,t,h=>by simp only [z1z,Option.some.injEq] at h; subst h; rfl
 | q :: l,hN,s,t,h=>by
  have hq:=hN q (by simp)
  have ih:=room_scale (b:=b) (m:=m) (S:=S) ha ha7 l (fun r hr=>hN r (by simp [hr]))
  rw [z1z] at h
  rw [List.map_cons,z1z]
  have e1:zjs m S (scA a b q) = zjs m S q:=rfl
  have e2:inA m S (scA a b q) = inA m S q:=rfl
  rw [e1,e2]
  split at h
  ·rename_i ho
   rw [if_pos ho]
   split at h
   ·cases h
   ·rename_i hc
    have c1:=hq.c1.resolve_right (fun e=>hc e)
    have c0:=hq.c0; have l0:=hq.l0
    have m5:=zb4 (x:=q.cap) (B:=7) ha ha7 (by omega) (by omega) (by omega)
    have hi:inf = 4611686018427387904:=rfl
    have ec:(scA a b q).cap = a * q.cap:=by show (if q.cap = inf then q.cap else a * q.cap) = _; rw [if_neg hc]
    rw [ec,if_neg (by omega),<- Int.mul_add]
    exact ih _ _ h
  ·rename_i ho
   rw [if_neg ho]
   split at h
   ·rename_i hin
    rw [if_pos hin]
    have el:(scA a b q).low = a * q.low:=rfl
    rw [el,<- Int.mul_sub]
    exact ih _ _ h
   ·rename_i hin
    rw [if_neg hin]
    exact ih _ _ h
theorem need_scale (a:Int) (S:List Bool) (s:List Int):∀ k,zf6 S (s.map (a * ·)) k = a * zf6 S s k
 | 0=>by simp [zf6]
 | k + 1=>by
  rw [zf6,zf6,need_scale a S s k,z7w,Int.mul_add]
  congr 1
  split <;> simp
theorem scale_proves {I:Inst} {n:Int} (hN:∀ q ∈ I.arcs,q.Nice n) {a b:Int} (hJ:FewI (z1p a b I)) (ha:1 <= a) (ha7:a <= 7) {S:List Bool} (hs:z5h I S = 0):z5h (z1p a b I) S = 0:=by
 obtain ⟨hr,hl,t,ht,hlt⟩:=proves_char.1 hs
 refine proves_char.2 ⟨hJ.right,by simpa [z1p] using hl,a * t,?_,?_⟩
 ·have:=room_scale (b:=b) (m:=(I.sup.length:Int)) (S:=S) ha ha7 I.arcs hN 0 t ht
  rw [Int.mul_zero] at this
  unfold roomC z1p
  dsimp only
  rw [List.length_map]; exact this
 ·have e:zf5 (z1p a b I) S = a * zf5 I S:=by
   unfold zf5 z1p
   dsimp only
   rw [List.length_map,need_scale]
  rw [e]
  exact Int.mul_lt_mul_of_pos_left hlt (by omega)
theorem scale_turns {I:Inst} {a b:Int} (hJ:FewI (z1p a b I)) (hb:1 <= b) {l:List Int} (h:z46 I l = 0):z46 (z1p a b I) l = 0:=by
 have hl:(z1p a b I).arcs.length = I.arcs.length:=by simp [z1p]
 obtain ⟨-,h1,h2,c1,c2,c3,c4,c5⟩:=turns_char.1 h
 have hat:∀ q:Int,0 <= q/\q < I.arcs.length->z2p (z1p a b I) q = scA a b (z2p I q):=fun q hq=>z11 (by omega)
 have hm:∀ k,k < l.length->l.getD k 0 ∈ l:=fun k hk=>by rw [List.getD_eq_getElem?_getD,List.getElem?_eq_getElem hk]; exact List.getElem_mem _
 have hmod:∀ k,k < l.length->(k + 1) % l.length < l.length:=fun k hk=>Nat.mod_lt _ (by omega)
 refine turns_char.2 ⟨hJ.right,h1,by rw [hl]; exact h2,fun q hq=>by rw [hl]; exact c1 q hq,c2,fun k hk=>?_,fun q hq=>?_,?_⟩
 ·rw [hat _ (c1 _ (hm k hk)),hat _ (c1 _ (hm _ (hmod k hk)))]; exact c3 k hk
 ·rw [hat _ (c1 q hq)]
  show (if (z2p I q).cap = inf then (z2p I q).cap else a * (z2p I q).cap) = inf
  rw [if_pos (c4 q hq)]; exact c4 q hq
 ·have e:rayS (z1p a b I) l = b * rayS I l:=by
   rw [z5j,z5j,<- sum_mul,List.map_map]
   congr 1
   refine List.map_congr_left fun q hq=>?_
   have hq1:=c1 q hq
   show zjy (z1p a b I) q = b * zjy I q
   unfold zjy
   rw [if_pos (isArcF_iff.2 ⟨hq1.1,by rw [hl]; exact hq1.2⟩),if_pos (isArcF_iff.2 hq1),hat q hq1]
   rfl
  rw [e]
  have:=Int.mul_lt_mul_of_pos_left c5 (show 0 < b by omega)
  rwa [Int.mul_zero] at this
theorem abs_mul {A B x y:Int} (hx0:-A <= x) (hx1:x <= A) (hy0:-B <= y) (hy1:y <= B):-(A * B) <= x * y/\x * y <= A * B:=by
 have a1:0 <= (A - x) * (B - y):=Int.mul_nonneg (by omega) (by omega)
 have a2:0 <= (A - x) * (B + y):=Int.mul_nonneg (by omega) (by omega)
 have a3:0 <= (A + x) * (B - y):=Int.mul_nonneg (by omega) (by omega)
 have a4:0 <= (A + x) * (B + y):=Int.mul_nonneg (by omega) (by omega)
 simp only [Int.sub_mul,Int.add_mul,Int.mul_sub,Int.mul_add] at a1 a2 a3 a4
 omega
theorem dotK_few {A B:Int} {p s:List Int} (hp:∀ k,-A <= p.getD k 0/\p.getD k 0 <= A) (hs:∀ k,-B <= s.getD k 0/\s.getD k 0 <= B):∀ k:Nat,-(A * B * (k:Int)) <= zin p s k/\zin p s k <= A * B * (k:Int)
 | 0=>by simp [zin]
 | k + 1=>by
  have ih:=dotK_few hp hs k
  have h3:=abs_mul (hp k).1 (hp k).2 (hs k).1 (hs k).2
  rw [zin,Int.natCast_succ,Int.mul_add,Int.mul_one]
  omega
theorem best_few {I:Inst} (h:FewI I) {n:Int} (hN:∀ q ∈ I.arcs,q.Nice n) (hw:Within 200 I.sup) {x p:List Int} (hx:A64 x) (hpA:A64 p) (hs:z1f I x p = 0) (hp:∀ k,-393216 <= p.getD k 0/\p.getD k 0 <= 393216):-1099511627776 <= z3v I x/\z3v I x <= 1099511627776:=by
 obtain ⟨hf,hl,hc⟩:=(z69 hpA).1 hs
 obtain ⟨hr,hxl,-,hnet⟩:=(z34 hx).1 hf
 have ho:∀ a ∈ I.arcs,z2l I.sup.length a = true:=fun a ha=>(z1u hr ha).1
 have e:=zau p x ho I.arcs.length (Nat.le_refl _)
 rw [<- net_pot x p ho _ (Nat.le_refl _)] at e
 have e2:z1m (fun v:Nat=>z2d I.sup.length I.arcs x I.arcs.length v * p.getD v 0) I.sup.length = zin p I.sup I.sup.length:=by
  rw [dotK_sum]; exact z16 fun v hv=>by rw [hnet v hv]
 rw [e2] at e
 have hd:=dotK_few hp (fun k=>hw.getD (by omega) k) I.sup.length
 have hk:∀ k,k <= I.arcs.length->-(5505108 * (k:Int)) <= z1n (I.arcs.map (z55 p)) x k/\z1n (I.arcs.map (z55 p)) x k <= 5505108 * (k:Int):=fun k=>by
  induction k with
  | zero=>intro _; simp [z1n]
  | succ k ih =>
   intro hk
   have ih:=ih (by omega)
   have hkl:k < I.arcs.length:=by omega
   rw [z1n,z11 hkl]
   have er:(z55 p (I.arcs.getD k default)).cost = zhv I p k:=rfl
   rw [er]
   have hq:=hN _ (z48 hkl).2
   have l0:=hq.l0; have l1:=hq.l1; have c0:=hq.c0; have c1:=hq.c1; have k0:=hq.k0; have k1:=hq.k1
   have p1:=hp (z18 I k).src.toNat
   have p2:=hp (z18 I k).dst.toNat
   have hrb:-786444 <= zhv I p k/\zhv I p k <= 786444:=by unfold zhv; omega
   obtain ⟨h1,h2⟩:=hc k hkl
   have ht:-5505108 <= zhv I p k * x.getD k 0/\zhv I p k * x.getD k 0 <= 5505108:=by
    by_cases hp0:0 < zhv I p k
    ·rw [h1 hp0]
     have:=abs_mul (A:=786444) (B:=7) hrb.1 hrb.2 (show -7 <= (z18 I k).low by omega) (by omega)
     omega
    ·by_cases hn0:zhv I p k < 0
     ·obtain ⟨q1,q2⟩:=h2 hn0
      have c7:=c1.resolve_right (fun e=>q2 e)
      rw [q1]
      have:=abs_mul (A:=786444) (B:=7) hrb.1 hrb.2 (show -7 <= (z18 I k).cap by omega) (by omega)
      omega
     ·have:zhv I p k = 0:=by omega
      rw [this]; simp
   have e:((k + 1:Nat):Int) = k + 1:=by omega
   rw [e]; omega
 have hk:=hk _ (Nat.le_refl _)
 have:=h.n2; have:=h.m
 unfold z3v
 omega
theorem scaled_law {I:Inst} (h:FewI I) {n:Int} (hN:∀ q ∈ I.arcs,q.Nice n) (hw:Within 200 I.sup) {a b:Int} (ha:1 <= a) (ha7:a <= 7) (hb:1 <= b) (hb7:b <= 7) {v w:Wide} {i j:Int} (h1:ValueP I v i) (h2:ValueP (z1p a b I) w j) :
  i = j/\0 < i/\∃ t,I64 t/\v = W t/\w = W (a * b * t):=by
 have hJ:=scale_few h hN hw ha ha7 hb hb7
 have hi:=h1.pos.2
 obtain ⟨c,hc,hch,hcx,hcp,hcC⟩:=h1.yb
 obtain ⟨ei,ev⟩:=h1.one hc hch
 obtain ⟨hr,hpl,hk⟩:=z31 hch
 have hs:=z0c hr
 have hmul:∀ {a:Int} {x:List Int},1 <= a->a <= 7->YB x->A64 (x.map (a * ·)):=fun ha ha7 hx y hy=>by
  obtain ⟨z,hz,rfl⟩:=List.mem_map.1 hy
  have h1:=hx z hz
  have:=zb4 (x:=z) (B:=144115188075855872) ha ha7 h1.1 h1.2 (by omega)
  unfold I64; omega
 have hC12:∀ s,okS I s->-12 <= csS I s/\csS I s <= 12:=fun s hs=>by
  have hq:=hN _ (z48 hs).2
  have k0:=hq.k0; have k1:=hq.k1
  unfold csS
  split <;> omega
 obtain ⟨w1,w2,w3,w4,w5,w6⟩:=hc
 rcases hk with ⟨k,hs1⟩ | ⟨k,hs1⟩ | ⟨k,hs1,hs2⟩
 ·have hb2:=best_few h hN hw hcx.a64 hcp.a64 hs1 (fun k=>by have:=hcC 12 (by omega) hC12 k; omega)
  have hsl:=scale_slack hN hJ ha ha7 hb hcx.a64 hcp.a64 (hmul ha ha7 hcx) (hmul hb hb7 hcp) hs1
  have hck:z25 (z1p a b I) ⟨1,c.flow.map (a * ·),c.pot.map (b * ·),[],[]⟩ = 0:=by
   unfold z25 z3b
   simp [hJ.right,hsl]
  obtain ⟨ej,ew⟩:=h2.one (c:=⟨1,c.flow.map (a * ·),c.pot.map (b * ·),[],[]⟩) ⟨hmul ha ha7 hcx,hmul hb hb7 hcp,by simpa using w3,by simpa using w4,by simp,by simp⟩ hck
  refine ⟨by rw [ei,ej,k],by omega,z3v I c.flow,by unfold I64; omega,by rw [ev]; unfold z28; rw [if_pos k],?_⟩
  rw [ew]
  unfold z28
  rw [if_pos rfl]
  congr 1
  unfold z3v z1p
  dsimp only
  rw [List.length_map,zlc a b _ _ _ (Nat.le_refl _)]
 ·have hck:z25 (z1p a b I) ⟨2,[],[],c.side,[]⟩ = 0:=by
   unfold z25 z3b
   simp [hJ.right,scale_proves hN hJ ha ha7 hs1]
  obtain ⟨ej,ew⟩:=h2.one (c:=⟨2,[],[],c.side,[]⟩) ⟨YB.nil.a64,YB.nil.a64,by simp,by simp,w5,by simp⟩ hck
  refine ⟨by rw [ei,ej,k],by omega,0,by unfold I64; omega,by rw [h1.none (by omega),W_zero],?_⟩
  rw [Int.mul_zero,W_zero]
  exact h2.none (by rw [ej]; dsimp only; omega)
 ·have hck:z25 (z1p a b I) ⟨3,c.flow.map (a * ·),[],[],c.cycle⟩ = 0:=by
   unfold z25 z3b
   simp [hJ.right,scale_fits hJ ha hcx.a64 (hmul ha ha7 hcx) hs1,scale_turns hJ hb hs2]
  obtain ⟨ej,ew⟩:=h2.one (c:=⟨3,c.flow.map (a * ·),[],[],c.cycle⟩) ⟨hmul ha ha7 hcx,YB.nil.a64,by simpa using w3,by simp,by simp,w6⟩ hck
  refine ⟨by rw [ei,ej,k],by omega,0,by unfold I64; omega,by rw [h1.none (by omega),W_zero],?_⟩
  rw [Int.mul_zero,W_zero]
  exact h2.none (by rw [ej]; dsimp only; omega)
end Go.Ql
end
section
namespace Go.Ql
open Go Go.Vc
def shA (n:Int) (a:Arc):Arc:=⟨a.src + n,a.dst + n,a.low,a.cap,a.cost⟩
def z29 (I J:Inst):Inst:=⟨I.sup ++ J.sup,I.arcs ++ J.arcs.map (shA I.sup.length)⟩
section
variable {I J:Inst}
theorem part_few (hI:FewI I) (hJ:FewI J) (n1:I.sup.length <= 7) (n2:J.sup.length <= 7) (m1:I.arcs.length <= 18) (m2:J.arcs.length <= 18):FewI (z29 I J):=by
 have hl:(z29 I J).sup.length = I.sup.length + J.sup.length:=by simp [z29]
 refine ⟨by have:=hI.n1; omega,by omega,by simp [z29]; omega,fun a ha=>?_,fun y hy=>?_,by unfold z29; dsimp only; rw [List.sum_append,hI.sum,hJ.sum]; rfl⟩
 ·rw [hl]
  rcases List.mem_append.1 ha with ha | ha
  ·have h:=hI.arc a ha
   have s1:=h.s1; have d1:=h.d1
   exact ⟨h.s0,by omega,h.d0,by omega,h.l0,h.l1,h.c,h.k0,h.k1⟩
  ·obtain ⟨b,hb,rfl⟩:=List.mem_map.1 ha
   have h:=hJ.arc b hb
   have s0:=h.s0; have s1:=h.s1; have d0:=h.d0; have d1:=h.d1
   exact ⟨by show 0 <= b.src + _; omega,by show b.src + _ < _; omega,by show 0 <= b.dst + _; omega,by show b.dst + _ < _; omega,h.l0,h.l1,h.c,h.k0,h.k1⟩
 ·rcases List.mem_append.1 hy with hy | hy
  ·exact hI.sup y hy
  ·exact hJ.sup y hy
theorem z81:(z29 I J).arcs.length = I.arcs.length + J.arcs.length:=by simp [z29]
theorem part_n:(z29 I J).sup.length = I.sup.length + J.sup.length:=by simp [z29]
theorem part_l {c:Nat} (h:c < I.arcs.length):(z29 I J).arcs.getD c default = I.arcs.getD c default:=by
 unfold z29
 dsimp only
 rw [List.getD_eq_getElem?_getD,List.getElem?_append_left h,List.getD_eq_getElem?_getD]
theorem part_r {c:Nat} (h:c < J.arcs.length):(z29 I J).arcs.getD (I.arcs.length + c) default = shA I.sup.length (J.arcs.getD c default):=by
 unfold z29
 dsimp only
 rw [List.getD_eq_getElem?_getD,List.getElem?_append_right (by omega),show I.arcs.length + c - I.arcs.length = c by omega,<- List.getD_eq_getElem?_getD,z11 h]
theorem part_sl {v:Nat} (h:v < I.sup.length):(z29 I J).sup.getD v 0 = I.sup.getD v 0:=by
 unfold z29
 dsimp only
 rw [List.getD_eq_getElem?_getD,List.getElem?_append_left h,List.getD_eq_getElem?_getD]
theorem part_sr (v:Nat):(z29 I J).sup.getD (I.sup.length + v) 0 = J.sup.getD v 0:=by
 unfold z29
 dsimp only
 rw [List.getD_eq_getElem?_getD,List.getElem?_append_right (by omega),show I.sup.length + v - I.sup.length = v by omega,<- List.getD_eq_getElem?_getD]
theorem zk2 {z:List Int} {m c:Nat} (h:c < m):(z.take m).getD c 0 = z.getD c 0:=by
 rw [List.getD_eq_getElem?_getD,List.getElem?_take,if_pos h,List.getD_eq_getElem?_getD]
theorem zjj {z:List Int} {m c:Nat}:(z.drop m).getD c 0 = z.getD (m + c) 0:=by
 rw [List.getD_eq_getElem?_getD,List.getElem?_drop,List.getD_eq_getElem?_getD]
theorem part_ok (hI:FewI I) (hJ:FewI J):(∀ c,c < I.arcs.length->z2l (z29 I J).sup.length (I.arcs.getD c default) = true/\z2l I.sup.length (I.arcs.getD c default) = true)/\∀ c,c < J.arcs.length->z2l (z29 I J).sup.length (shA I.sup.length (J.arcs.getD c default)) = true/\z2l J.sup.length (J.arcs.getD c default) = true:=by
 rw [part_n]
 refine ⟨fun c hc=>?_,fun c hc=>?_⟩
 ·have h:=hI.arc _ (z48 hc).2
  have s0:=h.s0; have s1:=h.s1; have d0:=h.d0; have d1:=h.d1
  exact ⟨okArc_iff.2 ⟨s0,by show (z18 I c).src < _; omega,d0,by show (z18 I c).dst < _; omega⟩,okArc_iff.2 ⟨s0,s1,d0,d1⟩⟩
 ·have h:=hJ.arc _ (z48 hc).2
  have s0:=h.s0; have s1:=h.s1; have d0:=h.d0; have d1:=h.d1
  exact ⟨okArc_iff.2 ⟨by show 0 <= (z18 J c).src + _; omega,by show (z18 J c).src + _ < _; omega,by show 0 <= (z18 J c).dst + _; omega,by show (z18 J c).dst + _ < _; omega⟩,okArc_iff.2 ⟨s0,s1,d0,d1⟩⟩
theorem part_net1 (hI:FewI I) (hJ:FewI J) (z:List Int) (v:Int):∀ k,k <= I.arcs.length->z2d (z29 I J).sup.length (z29 I J).arcs z k v = if v < I.sup.length then z2d I.sup.length I.arcs (z.take I.arcs.length) k v else 0
 | 0,_=>by simp [z2d]
 | k + 1,h=>by
  rw [z2d,part_net1 hI hJ z v k (by omega),part_l (by omega),z2d,zk2 (by omega)]
  obtain ⟨o1,o2⟩:=(part_ok hI hJ).1 k (by omega)
  obtain ⟨-,q1,-,q2⟩:=okArc_iff.1 o2
  unfold z3q
  rw [o1,o2,if_pos rfl]
  by_cases hv:v < I.sup.length
  ·rw [if_pos hv,if_pos hv]
  ·rw [if_neg hv,if_neg hv,if_neg (by omega),if_neg (by omega)]; rfl
theorem part_net2 (hI:FewI I) (hJ:FewI J) (z:List Int) (v:Int):∀ k,k <= J.arcs.length->z2d (z29 I J).sup.length (z29 I J).arcs z (I.arcs.length + k) v = z2d (z29 I J).sup.length (z29 I J).arcs z I.arcs.length v + if v < I.sup.length then 0 else z2d J.sup.length J.arcs (z.drop I.arcs.length) k (v - I.sup.length)
 | 0,_=>by simp [z2d]
 | k + 1,h=>by
  rw [<- Nat.add_assoc,z2d,part_net2 hI hJ z v k (by omega),part_r (by omega),Int.add_assoc]
  congr 1
  obtain ⟨o1,o2⟩:=(part_ok hI hJ).2 k (by omega)
  obtain ⟨q1,-,q2,-⟩:=okArc_iff.1 o2
  rw [z2d,zjj]
  unfold z3q
  rw [o1,o2,if_pos rfl,if_pos rfl]
  show _ + ((if (J.arcs.getD k default).src + _ = v then _ else _) - (if (J.arcs.getD k default).dst + _ = v then _ else _)) = _
  by_cases hv:v < I.sup.length
  ·rw [if_pos hv,if_pos hv,if_neg (by omega),if_neg (by omega)]; rfl
  ·rw [if_neg hv,if_neg hv]
   congr 1
   have e1:((J.arcs.getD k default).src + (I.sup.length:Int) = v) = ((J.arcs.getD k default).src = v - I.sup.length):=propext (by omega)
   have e2:((J.arcs.getD k default).dst + (I.sup.length:Int) = v) = ((J.arcs.getD k default).dst = v - I.sup.length):=propext (by omega)
   simp only [e1,e2]
theorem part_cost (z:List Int):∀ k,k <= J.arcs.length->z1n (z29 I J).arcs z (I.arcs.length + k) = z1n I.arcs (z.take I.arcs.length) I.arcs.length + z1n J.arcs (z.drop I.arcs.length) k
 | 0,_=>by
  have:∀ k,k <= I.arcs.length->z1n (z29 I J).arcs z k = z1n I.arcs (z.take I.arcs.length) k:=fun k=>by
   induction k with
   | zero=>intro _; rfl
   | succ k ih=>intro h; rw [z1n,z1n,ih (by omega),part_l (by omega),zk2 (by omega)]
  simp only [Nat.add_zero,z1n,Int.add_zero]
  exact this _ (Nat.le_refl _)
 | k + 1,h=>by
  rw [<- Nat.add_assoc,z1n,part_cost z k (by omega),part_r (by omega),z1n,zjj]
  show _ + (J.arcs.getD k default).cost * _ = _
  omega
theorem zml (hI:FewI I) (hJ:FewI J) (hP:FewI (z29 I J)) {z:List Int} (hz:A64 z) (hl:z.length = I.arcs.length + J.arcs.length):z1g (z29 I J) z = 0 ↔ z1g I (z.take I.arcs.length) = 0/\z1g J (z.drop I.arcs.length) = 0:=by
 have h1:A64 (z.take I.arcs.length):=fun y hy=>hz y (List.mem_of_mem_take hy)
 have h2:A64 (z.drop I.arcs.length):=fun y hy=>hz y (List.mem_of_mem_drop hy)
 have hnet:∀ v:Int,z2d (z29 I J).sup.length (z29 I J).arcs z (z29 I J).arcs.length v = (if v < I.sup.length then z2d I.sup.length I.arcs (z.take I.arcs.length) I.arcs.length v else 0) + if v < I.sup.length then 0 else z2d J.sup.length J.arcs (z.drop I.arcs.length) J.arcs.length (v - I.sup.length):=fun v=>by
  rw [z81,part_net2 hI hJ z v _ (Nat.le_refl _),part_net1 hI hJ z v _ (Nat.le_refl _)]
 rw [z34 hz,z34 h1,z34 h2]
 constructor
 ·rintro ⟨-,-,hb,hn⟩
  refine ⟨⟨hI.right,by rw [List.length_take]; omega,fun c hc=>?_,fun v hv=>?_⟩,⟨hJ.right,by rw [List.length_drop]; omega,fun c hc=>?_,fun v hv=>?_⟩⟩
  ·have:=hb c (by rw [z81]; omega)
   rw [zk2 hc]
   unfold z18 at this
   rw [part_l hc] at this; exact this
  ·have:=hn v (by rw [part_n]; omega)
   rw [hnet,if_pos (by omega),if_pos (by omega),Int.add_zero,part_sl hv] at this
   exact this
  ·have:=hb (I.arcs.length + c) (by rw [z81]; omega)
   rw [zjj]
   unfold z18 at this
   rw [part_r hc] at this; exact this
  ·have:=hn (I.sup.length + v) (by rw [part_n]; omega)
   rw [hnet,if_neg (by omega),if_neg (by omega),Int.zero_add,part_sr] at this
   rw [<- this]
   congr 1
   omega
 ·rintro ⟨⟨-,l1,b1,n1⟩,⟨-,l2,b2,n2⟩⟩
  refine ⟨hP.right,by rw [z81]; exact hl,fun c hc=>?_,fun v hv=>?_⟩
  ·rw [z81] at hc
   unfold z18
   by_cases h:c < I.arcs.length
   ·have:=b1 c h
    rw [zk2 h] at this
    rw [part_l h]; exact this
   ·have:=b2 (c - I.arcs.length) (by omega)
    rw [zjj,show I.arcs.length + (c - I.arcs.length) = c by omega] at this
    have e:=part_r (I:=I) (J:=J) (c:=c - I.arcs.length) (by omega)
    rw [show I.arcs.length + (c - I.arcs.length) = c by omega] at e
    rw [e]; exact this
  ·rw [part_n] at hv
   rw [hnet]
   by_cases h:v < I.sup.length
   ·rw [if_pos (by omega),if_pos (by omega),Int.add_zero,part_sl h]; exact n1 v h
   ·rw [if_neg (by omega),if_neg (by omega),Int.zero_add]
    have:=n2 (v - I.sup.length) (by omega)
    have e:=part_sr (I:=I) (J:=J) (v - I.sup.length)
    rw [show I.sup.length + (v - I.sup.length) = v by omega] at e
    rw [e,<- this]
    congr 1
    omega
theorem app_take {x y:List Int} {m:Nat} (h:x.length = m):(x ++ y).take m = x/\(x ++ y).drop m = y:=by
 subst h
 exact ⟨by simp,by simp⟩
theorem zdl {x y:List Int} (hx:A64 x) (hy:A64 y):A64 (x ++ y):=fun z hz=>(List.mem_append.1 hz).elim (hx z) (hy z)
theorem part_feas (hI:FewI I) (hJ:FewI J) (hP:FewI (z29 I J)):FeasQ (z29 I J) ↔ FeasQ I/\FeasQ J:=by
 constructor
 ·rintro ⟨z,hz,hf⟩
  have hl:=(fitsF_zero.1 hf).2.1
  rw [z81] at hl
  obtain ⟨q1,q2⟩:=(zml hI hJ hP hz hl).1 hf
  exact ⟨⟨_,fun y hy=>hz y (List.mem_of_mem_take hy),q1⟩,⟨_,fun y hy=>hz y (List.mem_of_mem_drop hy),q2⟩⟩
 ·rintro ⟨⟨x,hx,hxf⟩,⟨y,hy,hyf⟩⟩
  have l1:=(fitsF_zero.1 hxf).2.1
  have l2:=(fitsF_zero.1 hyf).2.1
  obtain ⟨e1,e2⟩:=app_take (y:=y) l1
  exact ⟨x ++ y,zdl hx hy,(zml hI hJ hP (zdl hx hy) (by rw [List.length_append]; omega)).2 ⟨by rw [e1]; exact hxf,by rw [e2]; exact hyf⟩⟩
theorem part_turns1 (hI:FewI I) (hP:FewI (z29 I J)) {l:List Int} (h:z46 I l = 0):z46 (z29 I J) l = 0:=by
 obtain ⟨-,h1,h2,c1,c2,c3,c4,c5⟩:=turns_char.1 h
 have hat:∀ a:Int,0 <= a/\a < I.arcs.length->z2p (z29 I J) a = z2p I a:=fun a ha=>part_l (by omega)
 have hm:∀ k,k < l.length->l.getD k 0 ∈ l:=fun k hk=>by rw [List.getD_eq_getElem?_getD,List.getElem?_eq_getElem hk]; exact List.getElem_mem _
 have hmod:∀ k,k < l.length->(k + 1) % l.length < l.length:=fun k hk=>Nat.mod_lt _ (by omega)
 refine turns_char.2 ⟨hP.right,h1,by rw [z81]; omega,fun a ha=>by rw [z81]; have:=c1 a ha; omega,c2,fun k hk=>?_,fun a ha=>?_,?_⟩
 ·rw [hat _ (c1 _ (hm k hk)),hat _ (c1 _ (hm _ (hmod k hk)))]; exact c3 k hk
 ·rw [hat _ (c1 a ha)]; exact c4 a ha
 ·have e:rayS (z29 I J) l = rayS I l:=by
   rw [z5j,z5j]
   congr 1
   refine List.map_congr_left fun a ha=>?_
   have ha1:=c1 a ha
   unfold zjy
   rw [if_pos (isArcF_iff.2 ⟨ha1.1,by rw [z81]; omega⟩),if_pos (isArcF_iff.2 ha1),hat a ha1]
  rw [e]; exact c5
theorem part_turns2 (hJ:FewI J) (hP:FewI (z29 I J)) {l:List Int} (h:z46 J l = 0):z46 (z29 I J) (l.map (· + (I.arcs.length:Int))) = 0:=by
 obtain ⟨-,h1,h2,c1,c2,c3,c4,c5⟩:=turns_char.1 h
 have hat:∀ a:Int,0 <= a/\a < J.arcs.length->z2p (z29 I J) (a + I.arcs.length) = shA I.sup.length (z2p J a):=fun a ha=>by
  unfold z2p
  rw [show (a + (I.arcs.length:Int)).toNat = I.arcs.length + a.toNat by omega]
  exact part_r (by omega)
 have hm:∀ k,k < l.length->l.getD k 0 ∈ l:=fun k hk=>by rw [List.getD_eq_getElem?_getD,List.getElem?_eq_getElem hk]; exact List.getElem_mem _
 have hmod:∀ k,k < l.length->(k + 1) % l.length < l.length:=fun k hk=>Nat.mod_lt _ (by omega)
 have hg:∀ k,k < l.length->(l.map (· + (I.arcs.length:Int))).getD k 0 = l.getD k 0 + I.arcs.length:=fun k hk=>zio (f:=(· + (I.arcs.length:Int))) hk
 refine turns_char.2 ⟨hP.right,by simpa using h1,by rw [z81,List.length_map]; omega,fun a ha=>?_,?_,fun k hk=>?_,fun a ha=>?_,?_⟩
 ·obtain ⟨b,hb,rfl⟩:=List.mem_map.1 ha
  have:=c1 b hb
  rw [z81]; omega
 ·unfold List.Nodup
  rw [List.pairwise_map]
  exact List.Pairwise.imp (fun h=>by omega) c2
 ·rw [List.length_map] at hk ⊢
  rw [hg k hk,hg _ (hmod k hk),hat _ (c1 _ (hm k hk)),hat _ (c1 _ (hm _ (hmod k hk)))]
  show (z2p J _).dst + _ = (z2p J _).src + _
  rw [c3 k hk]
 ·obtain ⟨b,hb,rfl⟩:=List.mem_map.1 ha
  rw [hat _ (c1 b hb)]; exact c4 b hb
 ·have e:rayS (z29 I J) (l.map (· + (I.arcs.length:Int))) = rayS J l:=by
   rw [z5j,z5j,List.map_map]
   congr 1
   refine List.map_congr_left fun a ha=>?_
   have ha1:=c1 a ha
   show zjy (z29 I J) (a + I.arcs.length) = zjy J a
   unfold zjy
   rw [if_pos (isArcF_iff.2 ⟨by omega,by rw [z81]; omega⟩),if_pos (isArcF_iff.2 ha1),hat a ha1]
   rfl
  rw [e]; exact c5
theorem part_slack (hI:FewI I) (hJ:FewI J) (hP:FewI (z29 I J)) {x y p q:List Int} (hx:A64 x) (hy:A64 y) (hp:A64 p) (hq:A64 q) (h1:z1f I x p = 0) (h2:z1f J y q = 0):z1f (z29 I J) (x ++ y) (p ++ q) = 0:=by
 obtain ⟨f1,l1,c1⟩:=(z69 hp).1 h1
 obtain ⟨f2,l2,c2⟩:=(z69 hq).1 h2
 have lx:=(fitsF_zero.1 f1).2.1
 have ly:=(fitsF_zero.1 f2).2.1
 obtain ⟨e1,e2⟩:=app_take (y:=y) lx
 refine (z69 (zdl hp hq)).2 ⟨(zml hI hJ hP (zdl hx hy) (by rw [List.length_append]; omega)).2 ⟨by rw [e1]; exact f1,by rw [e2]; exact f2⟩,by rw [part_n,List.length_append]; omega,fun c hc=>?_⟩
 rw [z81] at hc
 have pl:∀ v:Nat,v < I.sup.length->(p ++ q).getD v 0 = p.getD v 0:=fun v hv=>by rw [List.getD_eq_getElem?_getD,List.getElem?_append_left (by omega),List.getD_eq_getElem?_getD]
 have pr:∀ v:Nat,(p ++ q).getD (I.sup.length + v) 0 = q.getD v 0:=fun v=>by rw [List.getD_eq_getElem?_getD,List.getElem?_append_right (by omega),l1,show I.sup.length + v - I.sup.length = v by omega,<- List.getD_eq_getElem?_getD]
 by_cases h:c < I.arcs.length
 ·have ok:=hI.arc _ (z48 h).2
  have s0:=ok.s0; have s1:=ok.s1; have d0:=ok.d0; have d1:=ok.d1
  have ea:z18 (z29 I J) c = z18 I c:=part_l h
  have ex:(x ++ y).getD c 0 = x.getD c 0:=by rw [List.getD_eq_getElem?_getD,List.getElem?_append_left (by omega),List.getD_eq_getElem?_getD]
  have er:zhv (z29 I J) (p ++ q) c = zhv I p c:=by
   unfold zhv
   rw [ea,pl _ (by omega),pl _ (by omega)]
  rw [er,ea,ex]; exact c1 c h
 ·obtain ⟨j,rfl⟩:∃ j,c = I.arcs.length + j:=⟨c - I.arcs.length,by omega⟩
  have hj:j < J.arcs.length:=by omega
  have ok:=hJ.arc _ (z48 hj).2
  have s0:=ok.s0; have d0:=ok.d0
  have ea:z18 (z29 I J) (I.arcs.length + j) = shA I.sup.length (z18 J j):=part_r hj
  have ex:(x ++ y).getD (I.arcs.length + j) 0 = y.getD j 0:=by rw [List.getD_eq_getElem?_getD,List.getElem?_append_right (by omega),lx,show I.arcs.length + j - I.arcs.length = j by omega,<- List.getD_eq_getElem?_getD]
  have er:zhv (z29 I J) (p ++ q) (I.arcs.length + j) = zhv J q j:=by
   unfold zhv
   rw [ea]
   show (z18 J j).cost - (p ++ q).getD ((z18 J j).src + (I.sup.length:Int)).toNat 0 + (p ++ q).getD ((z18 J j).dst + (I.sup.length:Int)).toNat 0 = _
   rw [show ((z18 J j).src + (I.sup.length:Int)).toNat = I.sup.length + (z18 J j).src.toNat by omega,show ((z18 J j).dst + (I.sup.length:Int)).toNat = I.sup.length + (z18 J j).dst.toNat by omega,pr,pr]
  rw [er,ea,ex]; exact c2 j hj
theorem parted_law (hI:FewI I) (hJ:FewI J) (hP:FewI (z29 I J)) {u v w:Wide} {i j k:Int} (h1:ValueP I u i) (h2:ValueP J v j) (h3:ValueP (z29 I J) w k) :
  k = (if i = 2 ∨ j = 2 then 2 else if i = 3 ∨ j = 3 then 3 else 1)/\(k = 1->w = z3m u v):=by
 have p1:=h1.pos.2
 have p2:=h2.pos.2
 have p3:=h3.pos.2
 have hf:=part_feas hI hJ hP
 by_cases hc:i = 2 ∨ j = 2
 ·rw [if_pos hc]
  have:k = 2:=h3.cut_iff.2 fun hq=>by
   obtain ⟨q1,q2⟩:=hf.1 hq
   rcases hc with hc | hc
   ·exact h1.cut hc q1
   ·exact h2.cut hc q2
  exact ⟨this,fun h=>by omega⟩
 ·rw [if_neg hc]
  have hk2:k ≠ 2:=fun e=>h3.cut e (hf.2 ⟨h1.feas (fun e=>hc (.inl e)),h2.feas (fun e=>hc (.inr e))⟩)
  by_cases hr:i = 3 ∨ j = 3
  ·rw [if_pos hr]
   have:k = 3:=(h3.neg hk2).2 (by
    rcases hr with hr | hr
    ·obtain ⟨l,hl,hll⟩:=(h1.neg (by omega)).1 hr
     exact ⟨l,part_turns1 hI hP hl,hll⟩
    ·obtain ⟨l,hl,hll⟩:=(h2.neg (by omega)).1 hr
     exact ⟨_,part_turns2 hJ hP hl,by simpa using hll⟩)
   exact ⟨this,fun h=>by omega⟩
  ·rw [if_neg hr]
   obtain ⟨c,q1,q2,rfl,rfl⟩:=h1.ex
   obtain ⟨d,r1,r2,rfl,rfl⟩:=h2.ex
   obtain ⟨-,-,k1⟩:=z31 q2
   obtain ⟨-,-,k2⟩:=z31 r2
   have hs1:z1f I c.flow c.pot = 0:=by
    rcases k1 with ⟨-,a⟩ | ⟨a,-⟩ | ⟨a,-,-⟩
    ·exact a
    ·omega
    ·omega
   have hs2:z1f J d.flow d.pot = 0:=by
    rcases k2 with ⟨-,a⟩ | ⟨a,-⟩ | ⟨a,-,-⟩
    ·exact a
    ·omega
    ·omega
   have hsl:=part_slack hI hJ hP q1.1 r1.1 q1.2.1 r1.2.1 hs1 hs2
   have lx:=(fitsF_zero.1 (z6v hs1)).2.1
   have ly:=(fitsF_zero.1 (z6v hs2)).2.1
   have lz:=(z69 (zdl q1.2.1 r1.2.1)).1 hsl
   have sI:=z0c hI.right
   have sJ:=z0c hJ.right
   have sP:=z0c hP.right
   have hck:z25 (z29 I J) ⟨1,c.flow ++ d.flow,c.pot ++ d.pot,[],[]⟩ = 0:=by
    unfold z25 z3b
    simp [hP.right,hsl]
   obtain ⟨ek,ew⟩:=h3.one (c:=⟨1,c.flow ++ d.flow,c.pot ++ d.pot,[],[]⟩) ⟨zdl q1.1 r1.1,zdl q1.2.1 r1.2.1,by dsimp only; rw [List.length_append]; omega,by dsimp only; rw [lz.2.1]; omega,by simp,by simp⟩ hck
   refine ⟨ek,fun _=>?_⟩
   obtain ⟨e1,e2⟩:=app_take (y:=d.flow) lx
   rw [ew]
   unfold z28
   rw [if_pos rfl,if_pos (by omega),if_pos (by omega),zih]
   congr 1
   unfold z3v
   dsimp only
   rw [z81,part_cost _ _ (Nat.le_refl _),e1,e2]
end
end Go.Ql
end
section
namespace Go.Proofs.Ytggblkbecekbdaa
open Go Go.RowKit Go.Ql Go.Vc
def z58 (p:List Int) (d:List Int) (e:List Int) (f:List Int) (k:Int):FRes:={ pre:=Bytes p/\Bytes d/\p.length <= maxLen/\d.length <= maxLen/\Bytes e/\Bytes f/\e.length <= maxLen/\f.length <= maxLen/\0 <= k/\k <= 255,res:=.bool (true),rows:=[],eff:=[] }
def zcz:FS:=fun args h=>match args,h with
 | [.row 0,.row 1,.row 2,.row 3,.int .u8 k],[(0,.row false ty0 (.ints .u8 p)),(1,.row false ty1 (.ints .u8 d)),(2,.row false ty2 (.ints .u8 e)),(3,.row false ty3 (.ints .u8 f))]=>some (z58 p d e f k)
 | _,_=>none
def z88 (p:List Int) (d:List Int) (e:List Int) (f:List Int) (k:Int):List (Nat × Ann):=[(9,{ G:=(Nat),inv:=fun a=>⟨[(11,.ptr 8 0 0 0),(12,.ptr 13 0 0 0),(13,.int .i64 ((z00 p d k).sup.length:Int)),(14,.ptr 18 0 0 0),(15,.int .i64 a)],[(8,.box true 30 [.row 4,.row 5]),(13,.box true 30 [.row 9,.row 10]),(18,.box true 30 [.row 20,.row 21]),(4,.row true 2 (.ints .i64 (z00 p d k).sup)),(5,.row true 50 (.arcs (z00 p d k).arcs)),(9,.row true 2 (.ints .i64 (z00 e f k).sup)),(10,.row true 50 (.arcs (z00 e f k).arcs)),(20,.row true 2 (.ints .i64 ((z00 p d k).sup ++ (z00 e f k).sup))),(21,.row true 50 (.arcs ((z00 p d k).arcs ++ ((z00 e f k).arcs.take a).map (shA (z00 p d k).sup.length))))],22⟩,rel:=fun a0 a=>a <= (z00 e f k).arcs.length,meas:=fun a=>(z00 e f k).arcs.length - a })]
def SolveParted_A:List SV->z0f->List (Nat × Ann):=fun args h=>match args,h with
 | [.row 0,.row 1,.row 2,.row 3,.int .u8 k],[(0,.row false ty0 (.ints .u8 p)),(1,.row false ty1 (.ints .u8 d)),(2,.row false ty2 (.ints .u8 e)),(3,.row false ty3 (.ints .u8 f))]=>z88 p d e f k
 | _,_=>[]
def z9c:z0d:=[(z8s,(true,z04 true z5z)),(zgr,(true,z04 true z9b)),(Plus_n,(true,z04 true zkn)),(zc1,(true,z0u true z6z))]
abbrev SolveParted_n:Nat:=7
def zen (p:List Int) (d:List Int) (e:List Int) (f:List Int) (k:Int):List (Nat × z0a):=[]
def SolveParted_IA:List SV->z0f->List (Nat × z0a):=fun _ _=>[]
end Go.Proofs.Ytggblkbecekbdaa
end
section
namespace Go.Proofs.Ytggblkbecekbdaa
open Go Go.RowKit Go.Ql Go.Vc
abbrev z3i (g_3:Wide × Int) (g_1:Wide × Int) (g_2:Wide × Int):=((true = true->((g_3.2 == (2:Int)) = true->((g_3.2 != (1:Int)) = true->(true = true/\True)/\True)/\((g_3.2 != (1:Int)) = false->(g_1.1.ok/\(g_2.1.ok))/\((decide ([g_3.1.hi,g_3.1.lo] = [(z3m g_1.1 g_2.1).hi,(z3m g_1.1 g_2.1).lo]) = true/\True)/\True)))/\((g_3.2 == (2:Int)) = false->(false = true/\True)/\True))/\(true = false->(false = true/\True)/\True))
abbrev z87 (g_1:Wide × Int) (g_2:Wide × Int) (g_3:Wide × Int):=((g_1.2 == (2:Int)) = false->((g_2.2 == (2:Int)) = true->True/\(z3i g_3 g_1 g_2))/\((g_2.2 == (2:Int)) = false->True/\((true = true->((g_3.2 == (3:Int)) = true->((g_3.2 != (1:Int)) = true->(true = true/\True)/\True)/\((g_3.2 != (1:Int)) = false->(g_1.1.ok/\(g_2.1.ok))/\((decide ([g_3.1.hi,g_3.1.lo] = [(z3m g_1.1 g_2.1).hi,(z3m g_1.1 g_2.1).lo]) = true/\True)/\True)))/\((g_3.2 == (3:Int)) = false->(false = true/\True)/\True))/\(true = false->(false = true/\True)/\True))))
def z86 (p : List Int) (d : List Int) (e : List Int) (f : List Int) (k : Int) (ty0 ty1 ty2 ty3 : TypeId) : Prop :=
   (Bytes p/\(Bytes d/\(p.length <= maxLen/\(d.length <= maxLen/\((0:Int) <= k/\(k <= (255:Int)))))))/\(Bytes e/\(Bytes f/\(e.length <= maxLen/\(f.length <= maxLen/\((0:Int) <= k/\(k <= (255:Int)))))))/\(0:Nat) + (z00 p d k).sup.length <= (1000000000:Nat)/\(z00 p d k).sup.length + (z00 e f k).sup.length <= (1000000000:Nat)/\(0:Nat) + (z00 p d k).arcs.length <= (1000000000:Nat)/\∃ (g0:Nat),(g0 <= (z00 e f k).arcs.length/\((0 = 0/\(0 = 0/\((↑(z00 p d k).sup.length:Int) = ↑(z00 p d k).sup.length/\(0 = 0/\((0:Int) = ↑g0/\True)))))/\((True/\(True/\True))/\((True/\(True/\True))/\((True/\(True/\True))/\((z00 p d k).sup = (z00 p d k).sup/\((z00 p d k).arcs = (z00 p d k).arcs/\((z00 e f k).sup = (z00 e f k).sup/\((z00 e f k).arcs = (z00 e f k).arcs/\((z00 p d k).sup ++ (z00 e f k).sup = (z00 p d k).sup ++ (z00 e f k).sup/\((z00 p d k).arcs = (z00 p d k).arcs ++ List.map (shA (↑(z00 p d k).sup.length:Int)) (List.take g0 (z00 e f k).arcs)/\True)))))))))))/\∀ (g:Nat),g <= (z00 e f k).arcs.length->(decide ((↑g:Int) < ↑(z00 e f k).arcs.length) = true->((0:Int) <= ↑g/\((↑g:Int) < ↑(z00 e f k).arcs.length))/\((↑g:Int).toNat < (z00 e f k).arcs.length/\(∀ (x:Arc),(z00 e f k).arcs[(↑g:Int).toNat]? = some x->((z00 p d k).arcs ++ List.map (shA (↑(z00 p d k).sup.length:Int)) (List.take g (z00 e f k).arcs)).length + (1:Nat) <= 1000000000/\(∃ (g':Nat),g' <= (z00 e f k).arcs.length/\((z00 e f k).arcs.length - g' < (z00 e f k).arcs.length - g/\((0 = 0/\(0 = 0/\((↑(z00 p d k).sup.length:Int) = ↑(z00 p d k).sup.length/\(0 = 0/\(IntKind.i64.wrap ((↑g:Int) + (1:Int)) = (↑g':Int)/\True)))))/\((True/\(True/\True))/\((True/\(True/\True))/\((True/\(True/\True))/\((z00 p d k).sup = (z00 p d k).sup/\((z00 p d k).arcs = (z00 p d k).arcs/\((z00 e f k).sup = (z00 e f k).sup/\((z00 e f k).arcs = (z00 e f k).arcs/\((z00 p d k).sup ++ (z00 e f k).sup = (z00 p d k).sup ++ (z00 e f k).sup/\((z00 p d k).arcs ++ List.map (shA (↑(z00 p d k).sup.length:Int)) (List.take g (z00 e f k).arcs) ++ [{ src:=IntKind.i64.wrap (x.src + (↑(z00 p d k).sup.length:Int)),dst:=IntKind.i64.wrap (x.dst + (↑(z00 p d k).sup.length:Int)),low:=x.low,cap:=x.cap,cost:=x.cost:Arc }] = (z00 p d k).arcs ++ List.map (shA (↑(z00 p d k).sup.length:Int)) (List.take g' (z00 e f k).arcs)/\True)))))))))))))))/\(decide ((↑g:Int) < ↑(z00 e f k).arcs.length) = false->(z03 (z00 p d k) = (0:Int)/\(SmallI (z00 p d k)))/\∀ (g_1:Wide × Int),ValueP (z00 p d k) g_1.1 g_1.2->(z03 (z00 e f k) = (0:Int)/\(SmallI (z00 e f k)))/\∀ (g_2:Wide × Int),ValueP (z00 e f k) g_2.1 g_2.2->(z03 { sup:=(z00 p d k).sup ++ (z00 e f k).sup,arcs:=(z00 p d k).arcs ++ List.map (shA (↑(z00 p d k).sup.length:Int)) (List.take g (z00 e f k).arcs):Inst } = (0:Int)/\(SmallI { sup:=(z00 p d k).sup ++ (z00 e f k).sup,arcs:=(z00 p d k).arcs ++ List.map (shA (↑(z00 p d k).sup.length:Int)) (List.take g (z00 e f k).arcs):Inst }))/\∀ (g_3:Wide × Int),ValueP { sup:=(z00 p d k).sup ++ (z00 e f k).sup,arcs:=(z00 p d k).arcs ++ List.map (shA (↑(z00 p d k).sup.length:Int)) (List.take g (z00 e f k).arcs):Inst } g_3.1 g_3.2->((g_1.2 == (3:Int)) = true->((g_1.2 == (2:Int)) = true->True/\(z3i g_3 g_1 g_2))/\(z87 g_1 g_2 g_3))/\((g_1.2 == (3:Int)) = false->((g_2.2 == (3:Int)) = true->((g_1.2 == (2:Int)) = true->True/\(z3i g_3 g_1 g_2))/\(z87 g_1 g_2 g_3))/\((g_2.2 == (3:Int)) = false->((g_1.2 == (2:Int)) = true->True/\(z3i g_3 g_1 g_2))/\((g_1.2 == (2:Int)) = false->((g_2.2 == (2:Int)) = true->True/\(z3i g_3 g_1 g_2))/\((g_2.2 == (2:Int)) = false->True/\((true = true->((g_3.2 == (1:Int)) = true->((g_3.2 != (1:Int)) = true->(true = true/\True)/\True)/\((g_3.2 != (1:Int)) = false->(g_1.1.ok/\(g_2.1.ok))/\((decide ([g_3.1.hi,g_3.1.lo] = [(z3m g_1.1 g_2.1).hi,(z3m g_1.1 g_2.1).lo]) = true/\True)/\True)))/\((g_3.2 == (1:Int)) = false->(false = true/\True)/\True))/\(true = false->(false = true/\True)/\True)))))))
theorem SolveParted_q (p:List Int) (d:List Int) (e:List Int) (f:List Int) (k:Int) (ty0 ty1 ty2 ty3:TypeId):z86 p d e f k ty0 ty1 ty2 ty3 = z3p TT z9c (zen p d e f k) (z88 p d e f k) Try.f7 [.row 0,.row 1,.row 2,.row 3,.int .u8 k] [(0,.row false ty0 (.ints .u8 p)),(1,.row false ty1 (.ints .u8 d)),(2,.row false ty2 (.ints .u8 e)),(3,.row false ty3 (.ints .u8 f))] (z58 p d e f k):=by kernel_rfl
theorem SolveParted_E (p:List Int) (d:List Int) (e:List Int) (f:List Int) (k:Int) (ty0 ty1 ty2 ty3:TypeId) (hp:Bytes p/\Bytes d/\p.length <= maxLen/\d.length <= maxLen/\Bytes e/\Bytes f/\e.length <= maxLen/\f.length <= maxLen/\0 <= k/\k <= 255):FVc TT z9c (zen p d e f k) (z88 p d e f k) Try.f7 [.row 0,.row 1,.row 2,.row 3,.int .u8 k] [(0,.row false ty0 (.ints .u8 p)),(1,.row false ty1 (.ints .u8 d)),(2,.row false ty2 (.ints .u8 e)),(3,.row false ty3 (.ints .u8 f))] (z58 p d e f k):=by
 refine FVc.of (z86 p d e f k ty0 ty1 ty2 ty3) (SolveParted_q p d e f k ty0 ty1 ty2 ty3) ?_
 unfold z86
 delta z87 z3i
 simp only [eq_self,exists_const,forall_const,decide_eq_true_eq,decide_eq_false_iff_not,and_true,true_and,bne_iff_ne,ne_eq,bne_eq_false_iff_eq,Int.toNat_natCast,Bool.not_eq_true',Bool.not_eq_false',beq_iff_eq,beq_eq_false_iff_ne,z09]
 obtain ⟨p1,p2,p3,p4,q1,q2,q3,q4,k0,k1⟩:=hp
 obtain ⟨hI,hn,hm,n7,nn1,-,hN⟩:=z96 p d k
 obtain ⟨hJ,gn,gm,m7,mm1,-,gN⟩:=z96 e f k
 generalize z00 p d k = I at *
 generalize z00 e f k = J at *
 have hP:=part_few hI hJ (by omega) (by omega) hm gm
 simp only [List.length_append,List.length_map,List.length_take]
 refine ⟨⟨p1,p2,p3,p4,k0,k1⟩,⟨q1,q2,q3,q4,k0,k1⟩,by omega,by omega,by omega,0,⟨Nat.zero_le _,rfl,by simp⟩,fun g hg=>⟨fun h1=>⟨by omega,by omega,fun x hx=>?_⟩,fun h1=>?_⟩⟩
 ·have hj:=hJ.arc x (List.mem_of_getElem? hx)
  have s0:=hj.s0; have s1:=hj.s1; have d0:=hj.d0; have d1:=hj.d1
  refine ⟨by omega,g + 1,by omega,by omega,by rw [w64 (by omega) (by omega)]; omega,?_⟩
  rw [z2h hx,List.map_append,<- List.append_assoc,w64 (x:=x.src + (I.sup.length:Int)) (by omega) (by omega),w64 (x:=x.dst + (I.sup.length:Int)) (by omega) (by omega)]
  rfl
 rw [List.take_of_length_le (show J.arcs.length <= g by omega)]
 refine ⟨⟨hI.right,hI.small⟩,?_⟩
 rintro ⟨u,i⟩ hu
 refine ⟨⟨hJ.right,hJ.small⟩,?_⟩
 rintro ⟨v,j⟩ hv
 refine ⟨⟨hP.right,hP.small⟩,?_⟩
 rintro ⟨w,l⟩ hw
 obtain ⟨e1,e2⟩:=parted_law hI hJ hP hu hv hw
 have ok:∀ {K:Inst} {z:Wide} {t:Int},ValueP K z t->z.ok:=fun h=>by
  obtain ⟨c,-,-,-,rfl⟩:=h.ex
  unfold z28
  split
  ·exact zjh _
  ·exact W_zero ▸ zjh 0
 have ou:=ok hu
 have ov:=ok hv
 have pi:=hu.pos.2
 have pj:=hv.pos.2
 dsimp only at e1 e2 ou ov pi pj ⊢
 have hc:(i = 2 ∨ j = 2)/\l = 2 ∨ ¬ (i = 2 ∨ j = 2)/\(i = 3 ∨ j = 3)/\l = 3 ∨ ¬ (i = 2 ∨ j = 2)/\¬ (i = 3 ∨ j = 3)/\l = 1:=by
  by_cases h2:i = 2 ∨ j = 2
  ·rw [if_pos h2] at e1; exact .inl ⟨h2,e1⟩
  ·rw [if_neg h2] at e1
   by_cases h3:i = 3 ∨ j = 3
   ·rw [if_pos h3] at e1; exact .inr (.inl ⟨h2,h3,e1⟩)
   ·rw [if_neg h3] at e1; exact .inr (.inr ⟨h2,h3,e1⟩)
 have fin:l = 1->(u.ok/\v.ok)/\[w.hi,w.lo] = [(z3m u v).hi,(z3m u v).lo]:=fun h=>⟨⟨ou,ov⟩,by rw [e2 h]⟩
 clear e1 e2
 repeat' first
  | exact fin (by assumption)
  | exact trivial
  | apply And.intro
  | intro h
  | exact absurd (show true = false by assumption) Bool.noConfusion
  | (exfalso; omega)
theorem SolveParted_ok:SpecOk Try.prog SolveParted_n true (z04 true zcz) :=
 z0b z0v (show z1w Try.prog z9c from z02 z8t (z02 zem (z02 Plus_ok (z02 zcq (z06))))) (by kernel_rfl) mixedOrders Try.func7 rfl rfl (by kernel_rfl) (n:=5) (by decide +kernel) (I:=SolveParted_IA) (fun _ _=>z07) (A:=SolveParted_A)
  (fun args h r hr=>by
   unfold zcz at hr
   split at hr
   ·rename_i k ty0 p ty1 d ty2 e ty3 f; cases hr; refine ⟨rfl,fun hp=>?_⟩; have hE:=SolveParted_E p d e f k ty0 ty1 ty2 ty3 hp; exact hE
   ·cases hr)
end Go.Proofs.Ytggblkbecekbdaa
end
section
namespace Go.Proofs.Ytggblkbecekbdaa
open Go Go.RowKit Go.ChangeShapes Go.WideShapes Go.ChangeAt Go.Deep Go.Ql Go.Vc
theorem zct (H:Type) (enc:TypeId × Value->H) (W:World) (base:Nat) (args:Array Value) (ds gs:List (DataW H)) (before:List MemPlace)
  (hval:∀ (j:Nat) t v,Try.f7.params[j]? = some t->args[j]? = some v->Value.okWide Try.prog W .any base t v)
  (hW:DataW.Whole enc Try.prog Try.f7.params.toList Rows.solvePartedSpec.vars false W args.toList ds gs before)
  (hz:(DataW.weightsEach Try.prog (Try.f7.params.toList ++ Rows.solvePartedSpec.plain.varTypes Try.prog) (ds ++ gs)).all (· <= reachBytes) = true) :
  Calls Try.prog 7 args W fun e W'=>∃ v,e = .returned v/\Rows.solvePartedSpec.post enc Try.prog Try.f7 false true false false W args v W':=by
 have hW':=hW
 obtain ⟨p,q,hA0,hV,rfl,hfz,hnd⟩:=hW
 have hA:DataW.TrodAll enc Try.prog W 0 (fun _=>true) true Try.f7.params.toList args.toList ds p:=hA0
 rw [Try.params7] at hA hval hz
 obtain ⟨v0,vs0,d0,ds0,p0,q0,hargs,rfl,rfl,h0,r0⟩:=trodAll_cons hA
 obtain ⟨v1,vs1,d1,ds1,p1,q1,rfl,rfl,rfl,h1,r1⟩:=trodAll_cons r0
 obtain ⟨v2,vs2,d2,ds2,p2,q2,rfl,rfl,rfl,h2,r2⟩:=trodAll_cons r1
 obtain ⟨v3,vs3,d3,ds3,p3,q3,rfl,rfl,rfl,h3,r3⟩:=trodAll_cons r2
 obtain ⟨v4,vs4,d4,ds4,p4,q4,rfl,rfl,rfl,h4,r4⟩:=trodAll_cons r3
 obtain ⟨rfl,rfl,rfl⟩:=trodAll_nil r4
 obtain rfl:args = #[v0,v1,v2,v3,v4]:=by cases args; simp_all
 obtain ⟨z0,hz⟩:=z0m hz
 obtain ⟨z1,hz⟩:=z0m hz
 obtain ⟨z2,hz⟩:=z0m hz
 obtain ⟨z3,hz⟩:=z0m hz
 obtain ⟨z4,hz⟩:=z0m hz
 obtain ⟨A0,c0,x0,rfl,hR0,hm0,hw0⟩:=z3n Try.underlying22 Try.underlying5 (by kernel_rfl) (hval 0 22 v0 rfl rfl) h0
 have hb0:=zgi hw0
 have hs0:=z1t Try.underlying22 (of_decide_eq_true (by kernel_rfl)) h0 z0
 obtain ⟨A1,c1,x1,rfl,hR1,hm1,hw1⟩:=z3n Try.underlying22 Try.underlying5 (by kernel_rfl) (hval 1 22 v1 rfl rfl) h1
 have hb1:=zgi hw1
 have hs1:=z1t Try.underlying22 (of_decide_eq_true (by kernel_rfl)) h1 z1
 obtain ⟨A2,c2,x2,rfl,hR2,hm2,hw2⟩:=z3n Try.underlying22 Try.underlying5 (by kernel_rfl) (hval 2 22 v2 rfl rfl) h2
 have hb2:=zgi hw2
 have hs2:=z1t Try.underlying22 (of_decide_eq_true (by kernel_rfl)) h2 z2
 obtain ⟨A3,c3,x3,rfl,hR3,hm3,hw3⟩:=z3n Try.underlying22 Try.underlying5 (by kernel_rfl) (hval 3 22 v3 rfl rfl) h3
 have hb3:=zgi hw3
 have hs3:=z1t Try.underlying22 (of_decide_eq_true (by kernel_rfl)) h3 z3
 obtain ⟨x4,rfl,rfl,rfl,wn4⟩:=open_int Try.underlying5 (hval 4 5 v4 rfl rfl) h4
 have hb4:=zde wn4
 have hpre:(z58 x0 x1 x2 x3 x4).pre:=⟨hb0,hb1,hm0,hm1,hb2,hb3,hm2,hm3,hb4.1,hb4.2⟩
 have hc:=zb1 (zaw Try.func7 rfl rfl) SolveParted_ok (ρ:=fun k=>if k = 0 then .slice A0 x0.length c0 else if k = 1 then .slice A1 x1.length c1 else if k = 2 then .slice A2 x2.length c2 else if k = 3 then .slice A3 x3.length c3 else .int .i64 0) (W:=W) (args:=[.row 0,.row 1,.row 2,.row 3,.int .u8 x4]) (hp:=[(0,.row false 0 (.ints .u8 x0)),(1,.row false 0 (.ints .u8 x1)),(2,.row false 0 (.ints .u8 x2)),(3,.row false 0 (.ints .u8 x3))]) (fun k=>by (repeat' split) <;> rfl) ⟨⟨rfl,z5k hR0⟩,⟨⟨rfl,z5k hR1⟩,⟨⟨rfl,z5k hR2⟩,⟨⟨rfl,z5k hR3⟩,trivial⟩⟩⟩⟩ ((z58 x0 x1 x2 x3 x4).pre/\SV.bool true = .bool true) ⟨hpre,rfl⟩ (by kernel_rfl)
 simp only [z0q,SV.toV] at hc
 refine Calls.mono (show Calls Try.prog 7 #[_,_,_,_,_] W _ from hc) fun e W' hx=>?_
 obtain ⟨rfl,hb⟩:=hx
 exact ⟨_,rfl,zf2 zf1 hW' rfl (by kernel_rfl) Try.underlying4 (by kernel_rfl) rfl hb⟩
theorem zg2 (os:Os) (started:os.Started) (H:Type) (enc:TypeId × Value->H) :
  ReturnsInHanded {} Try.checked os 7 .any (Rows.solvePartedSpec.pre6 enc Try.prog Try.f7 Rows.solvePartedRow.domain false) (Rows.solvePartedSpec.post enc Try.prog Try.f7 false true false false):=by
 refine returnsInHanded_of_change_sized (C:=Try.checked) zfa started (by kernel_rfl) Try.func7
  (ChangeSpec.witness6 (enc:=enc) (C:=Try.checked) false ⟨#[],#[.slice none 0 0,.slice none 0 0,.slice none 0 0,.slice none 0 0,.int .u8 0],[]⟩ 8 (by kernel_rfl) (by kernel_rfl) (by kernel_rfl) (by kernel_rfl)) ?_
 intro W base args ds gs before hval0 hW hcnd hz _
 exact zct H enc W base args ds gs before hval0 hW hz
theorem solveParted_holds:Rows.SolvePartedSaid :=
 OpenClaim.holds_of_wide 7 Try.f7 rfl rfl rfl rfl rfl rfl rfl ⟨rfl,rfl,rfl,rfl,rfl⟩ rfl rfl rfl rfl rfl (by kernel_rfl) Try.func7 (by kernel_rfl)
  (of_decide_eq_true (by kernel_rfl)) (by unfold Func.isWrapper; first | (rw [if_pos (by decide +kernel)]; kernel_rfl) | (rw [if_neg (by decide +kernel)]; exact ⟨rfl,rfl⟩))
  (fun os started H enc _=>zg2 os started H enc)
end Go.Proofs.Ytggblkbecekbdaa
end
