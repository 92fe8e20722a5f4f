/- SolveMore: the law is true for every input: the given statement, with no condition of its own. -/
import Derived.Test.YtggblkbecekbdaaZG15
import Derived.Test.YtggblkbecekbdaaZG6
import Derived.Test.YtggblkbecekbdaaZG14
import Derived.Test.YtggblkbecekbdaaZG12
import Derived.Test.YtggblkbecekbdaaZG5
import Derived.Test.YtggblkbecekbdaaZG7
set_option linter.all false
set_option linter.unusedSimpArgs false
set_option linter.unusedVariables false
set_option maxRecDepth 1000000
section
namespace Go.Ql
open Go Go.Vc
def z55 (p:List Int) (a:Arc):Arc:={ a with cost:=a.cost - p.getD a.src.toNat 0 + p.getD a.dst.toNat 0 }
def z2m (p:List Int) (I:Inst):Inst:=⟨I.sup,I.arcs.map (z55 p)⟩
def zin (p s:List Int):Nat->Int
 | 0=>0
 | k + 1=>zin p s k + p.getD k 0 * s.getD k 0
theorem dotK_sum (p s:List Int):∀ k,zin p s k = z1m (fun v=>s.getD v 0 * p.getD v 0) k
 | 0=>rfl
 | k + 1=>by rw [zin,z1m,dotK_sum p s k,Int.mul_comm]
theorem dotK_bd {p s:List Int} (hp:∀ k,-16 <= p.getD k 0/\p.getD k 0 <= 16) (hs:∀ k,-200 <= s.getD k 0/\s.getD k 0 <= 200):∀ k:Nat,-(3200 * (k:Int)) <= zin p s k/\zin p s k <= 3200 * (k:Int)
 | 0=>by simp [zin]
 | k + 1=>by
  have ih:=dotK_bd hp hs k
  have h1:=hp k
  have h2:=hs k
  have h3:-3200 <= p.getD k 0 * s.getD k 0/\p.getD k 0 * s.getD k 0 <= 3200:=by
   generalize p.getD k 0 = x at *
   generalize s.getD k 0 = y at *
   have a1:0 <= (16 - x) * (200 - y):=Int.mul_nonneg (by omega) (by omega)
   have a2:0 <= (16 - x) * (200 + y):=Int.mul_nonneg (by omega) (by omega)
   have a3:0 <= (16 + x) * (200 - y):=Int.mul_nonneg (by omega) (by omega)
   have a4:0 <= (16 + x) * (200 + y):=Int.mul_nonneg (by omega) (by omega)
   simp only [Int.sub_mul,Int.add_mul,Int.mul_sub,Int.mul_add] at a1 a2 a3 a4
   omega
  rw [zin]
  have e:((k + 1:Nat):Int) = k + 1:=by omega
  rw [e]; omega
theorem zau {n:Nat} {l:List Arc} (p x:List Int) (ho:∀ a ∈ l,z2l n a = true):∀ k,k <= l.length->z1n (l.map (z55 p)) x k = z1n l x k - potK l x p k
 | 0,_=>rfl
 | k + 1,h=>by
  have hm:l.getD k default ∈ l:=by rw [List.getD_eq_getElem?_getD,List.getElem?_eq_getElem (show k < l.length by omega)]; exact List.getElem_mem _
  obtain ⟨o1,o2,o3,o4⟩:=okArc_iff.1 (ho _ hm)
  rw [z1n,z1n,zau p x ho k (by omega),z11 (by omega),potK]
  have e1:zmr p (l.getD k default).src = p.getD (l.getD k default).src.toNat 0:=by unfold zmr; rw [if_pos o1]
  have e2:zmr p (l.getD k default).dst = p.getD (l.getD k default).dst.toNat 0:=by unfold zmr; rw [if_pos o3]
  rw [e1,e2]
  have e3:(z55 p (l.getD k default)).cost = (l.getD k default).cost - p.getD (l.getD k default).src.toNat 0 + p.getD (l.getD k default).dst.toNat 0:=rfl
  rw [e3]
  generalize p.getD (l.getD k default).src.toNat 0 = u
  generalize p.getD (l.getD k default).dst.toNat 0 = v
  rw [Int.add_mul,Int.sub_mul,Int.mul_sub,Int.mul_comm (x.getD k 0) u,Int.mul_comm (x.getD k 0) v]
  omega
theorem zhh {I:Inst} (h:FewI I) (hn:∀ a ∈ I.arcs,-100 <= a.cost/\a.cost <= 100) {p:List Int} (hp:∀ k,-16 <= p.getD k 0/\p.getD k 0 <= 16):FewI (z2m p I):=by
 refine ⟨h.n1,h.n2,by simpa [z2m] using h.m,fun a ha=>?_,h.sup,h.sum⟩
 obtain ⟨b,hb,rfl⟩:=List.mem_map.1 ha
 have:=h.arc b hb
 have h1:=hn b hb
 have h2:=hp b.src.toNat
 have h3:=hp b.dst.toNat
 exact ⟨this.s0,this.s1,this.d0,this.d1,this.l0,this.l1,this.c,by show -2000 <= b.cost - _ + _; omega,by show b.cost - _ + _ <= 2000; omega⟩
theorem netK_map {f:Arc->Arc} (hf:∀ a,(f a).src = a.src/\(f a).dst = a.dst) (n:Int) (l:List Arc) (x:List Int) (v:Int):∀ k,k <= l.length->z2d n (l.map f) x k v = z2d n l x k v
 | 0,_=>rfl
 | k + 1,h=>by
  rw [z2d,z2d,netK_map hf n l x v k (by omega),z11 (by omega)]
  unfold z3q z2l
  rw [(hf _).1,(hf _).2]
theorem zmv {I:Inst} (h:FewI I) (hn:∀ a ∈ I.arcs,-100 <= a.cost/\a.cost <= 100) {p:List Int} (hp:∀ k,-16 <= p.getD k 0/\p.getD k 0 <= 16) {x:List Int} (hx:A64 x):(z1g I x = 0 ↔ z1g (z2m p I) x = 0)/\(z1g I x = 0->z3v I x = z3v (z2m p I) x + zin p I.sup I.sup.length):=by
 have hl:(z2m p I).arcs.length = I.arcs.length:=by simp [z2m]
 have hb:Betw I x ↔ Betw (z2m p I) x:=by
  unfold Betw
  rw [hl]
  refine ⟨fun hh a ha=>?_,fun hh a ha=>?_⟩
  ·have e:z18 (z2m p I) a = z55 p (z18 I a):=z11 ha
   rw [e]; exact hh a ha
  ·have e:z18 (z2m p I) a = z55 p (z18 I a):=z11 ha
   have:=hh a ha
   rw [e] at this; exact this
 have hk:∀ v:Int,z2d (z2m p I).sup.length (z2m p I).arcs x (z2m p I).arcs.length v = z2d I.sup.length I.arcs x I.arcs.length v:=fun v=>by
  rw [hl]; exact netK_map (f:=z55 p) (fun _=>⟨rfl,rfl⟩) _ _ _ _ _ (Nat.le_refl _)
 refine ⟨?_,fun hf=>?_⟩
 ·rw [z34 hx,z34 hx,<- hb,hl]
  refine and_congr ⟨fun _=>(zhh h hn hp).right,fun _=>h.right⟩ (and_congr Iff.rfl (and_congr Iff.rfl ?_))
  refine ⟨fun hh v hv=>?_,fun hh v hv=>?_⟩
  ·rw [<- hl,hk]; exact hh v hv
  ·rw [<- hk,hl]; exact hh v hv
 ·obtain ⟨hr,hxl,-,hnet⟩:=(z34 hx).1 hf
  have ho:∀ a ∈ I.arcs,z2l I.sup.length a = true:=fun a ha=>(z1u hr ha).1
  unfold z3v
  rw [hl]
  show _ = z1n (I.arcs.map (z55 p)) x I.arcs.length + _
  rw [zau p x ho _ (Nat.le_refl _),<- net_pot x p ho _ (Nat.le_refl _),dotK_sum]
  have:z1m (fun v:Nat=>z2d I.sup.length I.arcs x I.arcs.length v * p.getD v 0) I.sup.length = z1m (fun v=>I.sup.getD v 0 * p.getD v 0) I.sup.length:=z16 fun v hv=>by rw [hnet v hv]
  rw [this]; omega
theorem priced_ray {I:Inst} {p l:List Int} (h1:1 <= l.length) (c1:∀ a ∈ l,0 <= a/\a < I.arcs.length) (c3:∀ k,k < l.length->(z2p I (l.getD k 0)).dst = (z2p I (l.getD ((k + 1) % l.length) 0)).src):rayS (z2m p I) l = rayS I l:=by
 have hl:(z2m p I).arcs.length = I.arcs.length:=by simp [z2m]
 have hk:∀ t,t <= l.length->rayK (z2m p I) l t = rayK I l t + z1m (fun k=>p.getD (z2p I (l.getD ((k + 1) % l.length) 0)).src.toNat 0 - p.getD (z2p I (l.getD k 0)).src.toNat 0) t:=fun t=>by
  induction t with
  | zero=>intro _; simp [rayK,z1m]
  | succ t ih =>
   intro ht
   have hm:l.getD t 0 ∈ l:=by rw [List.getD_eq_getElem?_getD,List.getElem?_eq_getElem (show t < l.length by omega)]; exact List.getElem_mem _
   obtain ⟨q1,q2⟩:=c1 _ hm
   have e1:zd8 I (l.getD t 0) = true:=isArcF_iff.2 ⟨q1,q2⟩
   have e2:zd8 (z2m p I) (l.getD t 0) = true:=isArcF_iff.2 ⟨q1,by rw [hl]; exact q2⟩
   have e3:z2p (z2m p I) (l.getD t 0) = z55 p (z2p I (l.getD t 0)):=z11 (by omega)
   rw [rayK,rayK,z1m,ih (by omega)]
   unfold zjy
   rw [if_pos e1,if_pos e2,e3,<- c3 t (by omega)]
   show _ + ((z2p I (l.getD t 0)).cost - _ + _) = _
   omega
 unfold rayS
 rw [hk _ (Nat.le_refl _),zi2 (fun k=>p.getD (z2p I (l.getD k 0)).src.toNat 0) l.length (Nat.le_refl _) (by omega),Nat.mod_self]
 omega
theorem ziy {I:Inst} (h:FewI I) (hn:∀ a ∈ I.arcs,-100 <= a.cost/\a.cost <= 100) {p:List Int} (hp:∀ k,-16 <= p.getD k 0/\p.getD k 0 <= 16) {l:List Int}:z46 I l = 0 ↔ z46 (z2m p I) l = 0:=by
 have hl:(z2m p I).arcs.length = I.arcs.length:=by simp [z2m]
 have hat:∀ a:Int,0 <= a/\a < I.arcs.length->z2p (z2m p I) a = z55 p (z2p I a):=fun a ha=>z11 (by omega)
 have hm:∀ k,k < l.length->l.getD k 0 ∈ l:=fun k hk=>by rw [List.getD_eq_getElem?_getD,List.getElem?_eq_getElem hk]; exact List.getElem_mem _
 have hmod:∀ k,k < l.length->(k + 1) % l.length < l.length:=fun k hk=>Nat.mod_lt _ (by omega)
 rw [turns_char,turns_char,hl]
 constructor
 ·rintro ⟨-,h1,h2,c1,c2,c3,c4,c5⟩
  refine ⟨(zhh h hn hp).right,h1,h2,c1,c2,fun k hk=>?_,fun a ha=>?_,by rw [priced_ray h1 c1 c3]; exact c5⟩
  ·rw [hat _ (c1 _ (hm k hk)),hat _ (c1 _ (hm _ (hmod k hk)))]; exact c3 k hk
  ·rw [hat _ (c1 a ha)]; exact c4 a ha
 ·rintro ⟨-,h1,h2,c1,c2,c3,c4,c5⟩
  have c3':∀ k,k < l.length->(z2p I (l.getD k 0)).dst = (z2p I (l.getD ((k + 1) % l.length) 0)).src:=fun k hk=>by
   have:=c3 k hk
   rw [hat _ (c1 _ (hm k hk)),hat _ (c1 _ (hm _ (hmod k hk)))] at this; exact this
  refine ⟨h.right,h1,h2,c1,c2,c3',fun a ha=>?_,by rw [priced_ray h1 c1 c3'] at c5; exact c5⟩
  have:=c4 a ha
  rw [hat _ (c1 a ha)] at this; exact this
theorem priced_law {I:Inst} (h:FewI I) (hn:∀ a ∈ I.arcs,-100 <= a.cost/\a.cost <= 100) {p:List Int} (hp:∀ k,-16 <= p.getD k 0/\p.getD k 0 <= 16) {v w:Wide} {i j:Int} (h1:ValueP I v i) (h2:ValueP (z2m p I) w j):i = j/\0 < i/\(i = 1->∃ t,w = W t/\v = W (t + zin p I.sup I.sup.length)):=by
 obtain ⟨e1,e2,e3,-⟩:=value_map h1 h2 (fun x hx=>(zmv h hn hp hx).1) (fun x hx=>(zmv h hn hp hx).2) ⟨fun ⟨l,hl,hh⟩=>⟨l,(ziy h hn hp).1 hl,hh⟩,fun ⟨l,hl,hh⟩=>⟨l,(ziy h hn hp).2 hl,hh⟩⟩
 exact ⟨e1,e2,e3⟩
end Go.Ql
end
section
namespace Go.Ql
open Go Go.Vc
def zhv (I:Inst) (p:List Int) (c:Nat):Int:=(z18 I c).cost - p.getD (z18 I c).src.toNat 0 + p.getD (z18 I c).dst.toNat 0
theorem slackA_iff {r x:Int} {a:Arc} (h:zac r):z6k r x a = true ↔ (0 < r->x = a.low)/\(r < 0->x = a.cap/\a.cap ≠ inf):=by
 have e1:decide (0 < sgn r) = decide (0 < r):=decide_eq_decide.2 (sgn_pos h)
 have e2:decide (sgn r < 0) = decide (r < 0):=decide_eq_decide.2 (sgn_neg h)
 unfold z6k
 rw [e1,e2]
 by_cases h1:0 < r
 ·have h2:¬ r < 0:=by omega
  by_cases h3:x = a.low <;> simp [h1,h2,h3]
 ·by_cases h2:r < 0
  ·by_cases h3:x = a.cap <;> by_cases h4:a.cap = inf <;> simp [h1,h2,h3,h4]
  ·simp [h1,h2]
theorem z69 {I:Inst} {x p:List Int} (hp:A64 p):z1f I x p = 0 ↔ z1g I x = 0/\p.length = I.sup.length/\∀ c,c < I.arcs.length->(0 < zhv I p c->x.getD c 0 = (z18 I c).low)/\(zhv I p c < 0->x.getD c 0 = (z18 I c).cap/\(z18 I c).cap ≠ inf):=by
 have hk:z1g I x = 0->∀ c,c < I.arcs.length->(z44 I x p c = true ↔ (0 < zhv I p c->x.getD c 0 = (z18 I c).low)/\(zhv I p c < 0->x.getD c 0 = (z18 I c).cap/\(z18 I c).cap ≠ inf)):=fun hf c hc=>by
  obtain ⟨hr,-⟩:=fitsF_zero.1 hf
  obtain ⟨hget,hm⟩:=z48 hc
  have ok:=z1x hr hc
  have k0:=ok.k0; have k1:=ok.k1; have s0:=ok.s0; have d0:=ok.d0
  have e:redF I p c = zhv I p c:=by
   rw [redF_at hget (z1u hr hm).1]
   unfold redP redA zmr zhv
   rw [if_pos s0,if_pos d0]
  have b1:=hp.at (z18 I c).src.toNat
  have b2:=hp.at (z18 I c).dst.toNat
  unfold z44
  rw [e]
  exact slackA_iff (by unfold zhv zac; omega)
 unfold z1f
 constructor
 ·intro h
  split at h
  ·rename_i hn; exact absurd h hn
  ·rename_i hf
   have hf:=Classical.byContradiction hf
   split at h
   ·cases h
   ·rename_i hl
    split at h
    ·rename_i ha
     exact ⟨hf,Classical.byContradiction hl,fun c hc=>(hk hf c hc).1 (List.all_eq_true.1 ha c (List.mem_range.2 hc))⟩
    ·cases h
 ·rintro ⟨hf,hl,ha⟩
  rw [if_neg (fun h=>h hf),if_neg (fun h=>h hl),if_pos]
  exact List.all_eq_true.2 fun c hc=>(hk hf c (List.mem_range.1 hc)).2 (ha c (List.mem_range.1 hc))
theorem proves_char {I:Inst} {S:List Bool}:z5h I S = 0 ↔ z03 I = 0/\S.length = I.sup.length/\∃ t,roomC I S = some t/\t < zf5 I S:=by
 unfold z5h
 constructor
 ·intro h
  split at h
  ·rename_i hn; exact absurd h hn
  ·rename_i hr
   have hr:=Classical.byContradiction hr
   have hs:=z0c hr
   split at h
   ·cases h
   ·rename_i hl
    cases hc:roomC I S with
    | none=>rw [hc] at h; cases h
    | some t =>
     rw [hc] at h
     dsimp only at h
     refine ⟨hr,Classical.byContradiction hl,t,rfl,?_⟩
     split at h
     ·cases h
     ·rename_i hle
      apply Int.lt_of_not_ge
      intro hge
      exact hle ((zji hr (by omega) (by omega) (z1v hr).1 hc (zf5 I S) rfl).2 hge)
 ·rintro ⟨hr,hl,t,ht,hlt⟩
  have hs:=z0c hr
  rw [if_neg (fun h=>h hr),if_neg (fun h=>h hl),ht]
  dsimp only
  rw [if_neg]
  intro hle
  have:=(zji hr (by omega) (by omega) (z1v hr).1 ht (zf5 I S) rfl).1 hle
  omega
def scA (a b:Int) (q:Arc):Arc:=⟨q.src,q.dst,a * q.low,if q.cap = inf then q.cap else a * q.cap,b * q.cost⟩
def z1p (a b:Int) (I:Inst):Inst:=⟨I.sup.map (a * ·),I.arcs.map (scA a b)⟩
theorem sum_mul (a:Int):∀ s:List Int,(s.map (a * ·)).sum = a * s.sum
 | []=>by simp
 | y :: s=>by rw [List.map_cons,List.sum_cons,List.sum_cons,sum_mul a s,Int.mul_add]
theorem ziu {a x y:Int} (ha:0 <= a) (h:x <= y):a * x <= a * y:=Int.mul_le_mul_of_nonneg_left h ha
theorem zb4 {a x B:Int} (ha:1 <= a) (ha7:a <= 7) (h0:-B <= x) (h1:x <= B) (hB:0 <= B):-(7 * B) <= a * x/\a * x <= 7 * B:=by
 have e1:=ziu (a:=a) (by omega) h0
 have e2:=ziu (a:=a) (by omega) h1
 have e3:a * B <= 7 * B:=Int.mul_le_mul_of_nonneg_right ha7 hB
 rw [Int.mul_neg] at e1
 omega
theorem scale_few {I:Inst} (h:FewI I) {n:Int} (hN:∀ q ∈ I.arcs,q.Nice n) (hw:Within 200 I.sup) {a b:Int} (ha:1 <= a) (ha7:a <= 7) (hb:1 <= b) (hb7:b <= 7):FewI (z1p a b I):=by
 refine ⟨by simpa [z1p] using h.n1,by simpa [z1p] using h.n2,by simpa [z1p] using h.m,fun q hq=>?_,fun y hy=>?_,by unfold z1p; dsimp only; rw [sum_mul,h.sum,Int.mul_zero]⟩
 ·obtain ⟨r,hr,rfl⟩:=List.mem_map.1 hq
  have q1:=h.arc r hr
  have q2:=hN r hr
  have l0:=q2.l0; have l1:=q2.l1; have c0:=q2.c0; have c1:=q2.c1; have k0:=q2.k0; have k1:=q2.k1
  have hi:inf = 4611686018427387904:=rfl
  have m1:=zb4 (x:=r.low) (B:=2) ha ha7 (by omega) (by omega) (by omega)
  have m2:=zb4 (x:=r.cost) (B:=12) hb hb7 (by omega) (by omega) (by omega)
  have m3:=ziu (a:=a) (by omega) l0
  have m4:=ziu (a:=a) (by omega) c0
  rw [Int.mul_zero] at m3
  have hl:(z1p a b I).sup.length = I.sup.length:=by simp [z1p]
  rw [hl]
  refine ⟨q1.s0,q1.s1,q1.d0,q1.d1,m3,by show a * r.low <= 500; omega,?_,by show -2000 <= b * r.cost; omega,by show b * r.cost <= 2000; omega⟩
  show (if r.cap = inf then r.cap else a * r.cap) = inf ∨ a * r.low <= (if r.cap = inf then r.cap else a * r.cap)/\(if r.cap = inf then r.cap else a * r.cap) <= 2000
  by_cases hc:r.cap = inf
  ·rw [if_pos hc]; exact .inl hc
  ·rw [if_neg hc]
   have hc7:r.cap <= 7:=c1.resolve_right (fun e=>hc e)
   have m5:=zb4 (x:=r.cap) (B:=7) ha ha7 (by omega) (by omega) (by omega)
   exact .inr ⟨m4,by omega⟩
 ·obtain ⟨z,hz,rfl⟩:=List.mem_map.1 hy
  have h1:=hw z hz
  have:=zb4 (x:=z) (B:=200) ha ha7 h1.1 h1.2 (by omega)
  omega
theorem z7w (a:Int) (x:List Int) (k:Nat):(x.map (a * ·)).getD k 0 = a * x.getD k 0:=by
 rw [List.getD_eq_getElem?_getD,List.getElem?_map,List.getD_eq_getElem?_getD]
 cases x[k]? with
 | none=>simp
 | some y=>rfl
theorem netK_scale (a b n:Int) (l:List Arc) (x:List Int) (v:Int):∀ k,k <= l.length->z2d n (l.map (scA a b)) (x.map (a * ·)) k v = a * z2d n l x k v
 | 0,_=>by simp [z2d]
 | k + 1,h=>by
  rw [z2d,z2d,netK_scale a b n l x v k (by omega),z11 (by omega),z7w,Int.mul_add]
  congr 1
  unfold z3q
  have e:z2l n (scA a b (l.getD k default)) = z2l n (l.getD k default):=rfl
  rw [e]
  show (if _ then (if (l.getD k default).src = v then _ else _) - (if (l.getD k default).dst = v then _ else _) else _) = _
  split
  ·rw [Int.mul_sub]
   congr 1 <;> split <;> simp
  ·simp
theorem zlc (a b:Int) (l:List Arc) (x:List Int):∀ k,k <= l.length->z1n (l.map (scA a b)) (x.map (a * ·)) k = a * b * z1n l x k
 | 0,_=>by simp [z1n]
 | k + 1,h=>by
  rw [z1n,z1n,zlc a b l x k (by omega),z11 (by omega),z7w,Int.mul_add]
  congr 1
  show b * (l.getD k default).cost * (a * x.getD k 0) = _
  simp only [Int.mul_assoc,Int.mul_left_comm,Int.mul_comm]
theorem scale_fits {I:Inst} {a b:Int} (hJ:FewI (z1p a b I)) (ha:1 <= a) {x:List Int} (hx:A64 x) (hax:A64 (x.map (a * ·))) (hf:z1g I x = 0):z1g (z1p a b I) (x.map (a * ·)) = 0:=by
 obtain ⟨hr,hl,hb,hn⟩:=(z34 hx).1 hf
 have hlen:(z1p a b I).arcs.length = I.arcs.length:=by simp [z1p]
 refine (z34 hax).2 ⟨hJ.right,by rw [hlen]; simpa using hl,fun c hc=>?_,fun v hv=>?_⟩
 ·have hc2:c < I.arcs.length:=by rw [<- hlen]; exact hc
  have e:z18 (z1p a b I) c = scA a b (z18 I c):=z11 hc2
  obtain ⟨b1,b2⟩:=hb c hc2
  rw [e,z7w]
  refine ⟨ziu (by omega) b1,?_⟩
  show (if (z18 I c).cap = inf then (z18 I c).cap else a * (z18 I c).cap) = inf ∨ _ <= (if (z18 I c).cap = inf then (z18 I c).cap else a * (z18 I c).cap)
  by_cases h:(z18 I c).cap = inf
  ·rw [if_pos h]; exact .inl h
  ·rw [if_neg h]; exact .inr (ziu (by omega) (b2.resolve_left h))
 ·have hv2:v < I.sup.length:=by simpa [z1p] using hv
  rw [hlen]
  show z2d ((I.sup.map (a * ·)).length) (I.arcs.map (scA a b)) _ _ _ = (I.sup.map (a * ·)).getD v 0
  rw [List.length_map,netK_scale a b _ _ _ _ _ (Nat.le_refl _),hn v hv2,z7w]
theorem scale_slack {I:Inst} {n:Int} (hN:∀ q ∈ I.arcs,q.Nice n) {a b:Int} (hJ:FewI (z1p a b I)) (ha:1 <= a) (ha7:a <= 7) (hb:1 <= b) {x p:List Int} (hx:A64 x) (hp:A64 p) (hax:A64 (x.map (a * ·))) (hbp:A64 (p.map (b * ·))) (hs:z1f I x p = 0):z1f (z1p a b I) (x.map (a * ·)) (p.map (b * ·)) = 0:=by
 obtain ⟨hf,hl,hc⟩:=(z69 hp).1 hs
 have hlen:(z1p a b I).arcs.length = I.arcs.length:=by simp [z1p]
 refine (z69 hbp).2 ⟨scale_fits hJ ha hx hax hf,by simpa [z1p] using hl,fun c hcl=>?_⟩
 have hc2:c < I.arcs.length:=by rw [<- hlen]; exact hcl
 have e:z18 (z1p a b I) c = scA a b (z18 I c):=z11 hc2
 have er:zhv (z1p a b I) (p.map (b * ·)) c = b * zhv I p c:=by
  unfold zhv
  rw [e,z7w,z7w]
  show b * (z18 I c).cost - b * p.getD (z18 I c).src.toNat 0 + b * p.getD (z18 I c).dst.toNat 0 = _
  rw [Int.mul_add,Int.mul_sub]
 obtain ⟨h1,h2⟩:=hc c hc2
 rw [er,e,z7w]
 refine ⟨fun h=>?_,fun h=>?_⟩
 ·have:0 < zhv I p c:=by
   apply Int.lt_of_not_ge; intro hge
   have:=ziu (a:=b) (by omega) hge
   rw [Int.mul_zero] at this; omega
  rw [h1 this]; rfl
 ·have:zhv I p c < 0:=by
   apply Int.lt_of_not_ge; intro hge
   have:=ziu (a:=b) (by omega) hge
   rw [Int.mul_zero] at this; omega
  obtain ⟨q1,q2⟩:=h2 this
  have hq:=hN _ (z48 hc2).2
  have c1:=hq.c1.resolve_right (fun e=>q2 e)
  have c0:=hq.c0; have l0:=hq.l0
  have m5:=zb4 (x:=(z18 I c).cap) (B:=7) ha ha7 (by omega) (by omega) (by omega)
  have hi:inf = 4611686018427387904:=rfl
  show _ = (if (z18 I c).cap = inf then (z18 I c).cap else a * (z18 I c).cap)/\(if (z18 I c).cap = inf then (z18 I c).cap else a * (z18 I c).cap) ≠ inf
  rw [if_neg q2,q1]
  exact ⟨rfl,by omega⟩
theorem room_scale {a b n:Int} {m:Int} {S:List Bool} (ha:1 <= a) (ha7:a <= 7):∀ (l:List Arc),(∀ q ∈ l,q.Nice n)->∀ s t,z1z m S l s = some t->z1z m S (l.map (scA a b)) (a * s) = some (a * t)
 | [],_,s,t,h=>by simp only [z1z,Option.some.injEq] at h; subst h; rfl
 | q :: l,hN,s,t,h=>by
  have hq:=hN q (by simp)
  have ih:=room_scale (b:=b) (m:=m) (S:=S) ha ha7 l (fun r hr=>hN r (by simp [hr]))
  rw [z1z] at h
  rw [List.map_cons,z1z]
  have e1:zjs m S (scA a b q) = zjs m S q:=rfl
  have e2:inA m S (scA a b q) = inA m S q:=rfl
  rw [e1,e2]
  split at h
  ·rename_i ho
   rw [if_pos ho]
   split at h
   ·cases h
   ·rename_i hc
    have c1:=hq.c1.resolve_right (fun e=>hc e)
    have c0:=hq.c0; have l0:=hq.l0
    have m5:=zb4 (x:=q.cap) (B:=7) ha ha7 (by omega) (by omega) (by omega)
    have hi:inf = 4611686018427387904:=rfl
    have ec:(scA a b q).cap = a * q.cap:=by show (if q.cap = inf then q.cap else a * q.cap) = _; rw [if_neg hc]
    rw [ec,if_neg (by omega),<- Int.mul_add]
    exact ih _ _ h
  ·rename_i ho
   rw [if_neg ho]
   split at h
   ·rename_i hin
    rw [if_pos hin]
    have el:(scA a b q).low = a * q.low:=rfl
    rw [el,<- Int.mul_sub]
    exact ih _ _ h
   ·rename_i hin
    rw [if_neg hin]
    exact ih _ _ h
theorem need_scale (a:Int) (S:List Bool) (s:List Int):∀ k,zf6 S (s.map (a * ·)) k = a * zf6 S s k
 | 0=>by simp [zf6]
 | k + 1=>by
  rw [zf6,zf6,need_scale a S s k,z7w,Int.mul_add]
  congr 1
  split <;> simp
theorem scale_proves {I:Inst} {n:Int} (hN:∀ q ∈ I.arcs,q.Nice n) {a b:Int} (hJ:FewI (z1p a b I)) (ha:1 <= a) (ha7:a <= 7) {S:List Bool} (hs:z5h I S = 0):z5h (z1p a b I) S = 0:=by
 obtain ⟨hr,hl,t,ht,hlt⟩:=proves_char.1 hs
 refine proves_char.2 ⟨hJ.right,by simpa [z1p] using hl,a * t,?_,?_⟩
 ·have:=room_scale (b:=b) (m:=(I.sup.length:Int)) (S:=S) ha ha7 I.arcs hN 0 t ht
  rw [Int.mul_zero] at this
  unfold roomC z1p
  dsimp only
  rw [List.length_map]; exact this
 ·have e:zf5 (z1p a b I) S = a * zf5 I S:=by
   unfold zf5 z1p
   dsimp only
   rw [List.length_map,need_scale]
  rw [e]
  exact Int.mul_lt_mul_of_pos_left hlt (by omega)
theorem scale_turns {I:Inst} {a b:Int} (hJ:FewI (z1p a b I)) (hb:1 <= b) {l:List Int} (h:z46 I l = 0):z46 (z1p a b I) l = 0:=by
 have hl:(z1p a b I).arcs.length = I.arcs.length:=by simp [z1p]
 obtain ⟨-,h1,h2,c1,c2,c3,c4,c5⟩:=turns_char.1 h
 have hat:∀ q:Int,0 <= q/\q < I.arcs.length->z2p (z1p a b I) q = scA a b (z2p I q):=fun q hq=>z11 (by omega)
 have hm:∀ k,k < l.length->l.getD k 0 ∈ l:=fun k hk=>by rw [List.getD_eq_getElem?_getD,List.getElem?_eq_getElem hk]; exact List.getElem_mem _
 have hmod:∀ k,k < l.length->(k + 1) % l.length < l.length:=fun k hk=>Nat.mod_lt _ (by omega)
 refine turns_char.2 ⟨hJ.right,h1,by rw [hl]; exact h2,fun q hq=>by rw [hl]; exact c1 q hq,c2,fun k hk=>?_,fun q hq=>?_,?_⟩
 ·rw [hat _ (c1 _ (hm k hk)),hat _ (c1 _ (hm _ (hmod k hk)))]; exact c3 k hk
 ·rw [hat _ (c1 q hq)]
  show (if (z2p I q).cap = inf then (z2p I q).cap else a * (z2p I q).cap) = inf
  rw [if_pos (c4 q hq)]; exact c4 q hq
 ·have e:rayS (z1p a b I) l = b * rayS I l:=by
   rw [z5j,z5j,<- sum_mul,List.map_map]
   congr 1
   refine List.map_congr_left fun q hq=>?_
   have hq1:=c1 q hq
   show zjy (z1p a b I) q = b * zjy I q
   unfold zjy
   rw [if_pos (isArcF_iff.2 ⟨hq1.1,by rw [hl]; exact hq1.2⟩),if_pos (isArcF_iff.2 hq1),hat q hq1]
   rfl
  rw [e]
  have:=Int.mul_lt_mul_of_pos_left c5 (show 0 < b by omega)
  rwa [Int.mul_zero] at this
theorem abs_mul {A B x y:Int} (hx0:-A <= x) (hx1:x <= A) (hy0:-B <= y) (hy1:y <= B):-(A * B) <= x * y/\x * y <= A * B:=by
 have a1:0 <= (A - x) * (B - y):=Int.mul_nonneg (by omega) (by omega)
 have a2:0 <= (A - x) * (B + y):=Int.mul_nonneg (by omega) (by omega)
 have a3:0 <= (A + x) * (B - y):=Int.mul_nonneg (by omega) (by omega)
 have a4:0 <= (A + x) * (B + y):=Int.mul_nonneg (by omega) (by omega)
 simp only [Int.sub_mul,Int.add_mul,Int.mul_sub,Int.mul_add] at a1 a2 a3 a4
 omega
theorem dotK_few {A B:Int} {p s:List Int} (hp:∀ k,-A <= p.getD k 0/\p.getD k 0 <= A) (hs:∀ k,-B <= s.getD k 0/\s.getD k 0 <= B):∀ k:Nat,-(A * B * (k:Int)) <= zin p s k/\zin p s k <= A * B * (k:Int)
 | 0=>by simp [zin]
 | k + 1=>by
  have ih:=dotK_few hp hs k
  have h3:=abs_mul (hp k).1 (hp k).2 (hs k).1 (hs k).2
  rw [zin,Int.natCast_succ,Int.mul_add,Int.mul_one]
  omega
theorem best_few {I:Inst} (h:FewI I) {n:Int} (hN:∀ q ∈ I.arcs,q.Nice n) (hw:Within 200 I.sup) {x p:List Int} (hx:A64 x) (hpA:A64 p) (hs:z1f I x p = 0) (hp:∀ k,-393216 <= p.getD k 0/\p.getD k 0 <= 393216):-1099511627776 <= z3v I x/\z3v I x <= 1099511627776:=by
 obtain ⟨hf,hl,hc⟩:=(z69 hpA).1 hs
 obtain ⟨hr,hxl,-,hnet⟩:=(z34 hx).1 hf
 have ho:∀ a ∈ I.arcs,z2l I.sup.length a = true:=fun a ha=>(z1u hr ha).1
 have e:=zau p x ho I.arcs.length (Nat.le_refl _)
 rw [<- net_pot x p ho _ (Nat.le_refl _)] at e
 have e2:z1m (fun v:Nat=>z2d I.sup.length I.arcs x I.arcs.length v * p.getD v 0) I.sup.length = zin p I.sup I.sup.length:=by
  rw [dotK_sum]; exact z16 fun v hv=>by rw [hnet v hv]
 rw [e2] at e
 have hd:=dotK_few hp (fun k=>hw.getD (by omega) k) I.sup.length
 have hk:∀ k,k <= I.arcs.length->-(5505108 * (k:Int)) <= z1n (I.arcs.map (z55 p)) x k/\z1n (I.arcs.map (z55 p)) x k <= 5505108 * (k:Int):=fun k=>by
  induction k with
  | zero=>intro _; simp [z1n]
  | succ k ih =>
   intro hk
   have ih:=ih (by omega)
   have hkl:k < I.arcs.length:=by omega
   rw [z1n,z11 hkl]
   have er:(z55 p (I.arcs.getD k default)).cost = zhv I p k:=rfl
   rw [er]
   have hq:=hN _ (z48 hkl).2
   have l0:=hq.l0; have l1:=hq.l1; have c0:=hq.c0; have c1:=hq.c1; have k0:=hq.k0; have k1:=hq.k1
   have p1:=hp (z18 I k).src.toNat
   have p2:=hp (z18 I k).dst.toNat
   have hrb:-786444 <= zhv I p k/\zhv I p k <= 786444:=by unfold zhv; omega
   obtain ⟨h1,h2⟩:=hc k hkl
   have ht:-5505108 <= zhv I p k * x.getD k 0/\zhv I p k * x.getD k 0 <= 5505108:=by
    by_cases hp0:0 < zhv I p k
    ·rw [h1 hp0]
     have:=abs_mul (A:=786444) (B:=7) hrb.1 hrb.2 (show -7 <= (z18 I k).low by omega) (by omega)
     omega
    ·by_cases hn0:zhv I p k < 0
     ·obtain ⟨q1,q2⟩:=h2 hn0
      have c7:=c1.resolve_right (fun e=>q2 e)
      rw [q1]
      have:=abs_mul (A:=786444) (B:=7) hrb.1 hrb.2 (show -7 <= (z18 I k).cap by omega) (by omega)
      omega
     ·have:zhv I p k = 0:=by omega
      rw [this]; simp
   have e:((k + 1:Nat):Int) = k + 1:=by omega
   rw [e]; omega
 have hk:=hk _ (Nat.le_refl _)
 have:=h.n2; have:=h.m
 unfold z3v
 omega
theorem scaled_law {I:Inst} (h:FewI I) {n:Int} (hN:∀ q ∈ I.arcs,q.Nice n) (hw:Within 200 I.sup) {a b:Int} (ha:1 <= a) (ha7:a <= 7) (hb:1 <= b) (hb7:b <= 7) {v w:Wide} {i j:Int} (h1:ValueP I v i) (h2:ValueP (z1p a b I) w j) :
  i = j/\0 < i/\∃ t,I64 t/\v = W t/\w = W (a * b * t):=by
 have hJ:=scale_few h hN hw ha ha7 hb hb7
 have hi:=h1.pos.2
 obtain ⟨c,hc,hch,hcx,hcp,hcC⟩:=h1.yb
 obtain ⟨ei,ev⟩:=h1.one hc hch
 obtain ⟨hr,hpl,hk⟩:=z31 hch
 have hs:=z0c hr
 have hmul:∀ {a:Int} {x:List Int},1 <= a->a <= 7->YB x->A64 (x.map (a * ·)):=fun ha ha7 hx y hy=>by
  obtain ⟨z,hz,rfl⟩:=List.mem_map.1 hy
  have h1:=hx z hz
  have:=zb4 (x:=z) (B:=144115188075855872) ha ha7 h1.1 h1.2 (by omega)
  unfold I64; omega
 have hC12:∀ s,okS I s->-12 <= csS I s/\csS I s <= 12:=fun s hs=>by
  have hq:=hN _ (z48 hs).2
  have k0:=hq.k0; have k1:=hq.k1
  unfold csS
  split <;> omega
 obtain ⟨w1,w2,w3,w4,w5,w6⟩:=hc
 rcases hk with ⟨k,hs1⟩ | ⟨k,hs1⟩ | ⟨k,hs1,hs2⟩
 ·have hb2:=best_few h hN hw hcx.a64 hcp.a64 hs1 (fun k=>by have:=hcC 12 (by omega) hC12 k; omega)
  have hsl:=scale_slack hN hJ ha ha7 hb hcx.a64 hcp.a64 (hmul ha ha7 hcx) (hmul hb hb7 hcp) hs1
  have hck:z25 (z1p a b I) ⟨1,c.flow.map (a * ·),c.pot.map (b * ·),[],[]⟩ = 0:=by
   unfold z25 z3b
   simp [hJ.right,hsl]
  obtain ⟨ej,ew⟩:=h2.one (c:=⟨1,c.flow.map (a * ·),c.pot.map (b * ·),[],[]⟩) ⟨hmul ha ha7 hcx,hmul hb hb7 hcp,by simpa using w3,by simpa using w4,by simp,by simp⟩ hck
  refine ⟨by rw [ei,ej,k],by omega,z3v I c.flow,by unfold I64; omega,by rw [ev]; unfold z28; rw [if_pos k],?_⟩
  rw [ew]
  unfold z28
  rw [if_pos rfl]
  congr 1
  unfold z3v z1p
  dsimp only
  rw [List.length_map,zlc a b _ _ _ (Nat.le_refl _)]
 ·have hck:z25 (z1p a b I) ⟨2,[],[],c.side,[]⟩ = 0:=by
   unfold z25 z3b
   simp [hJ.right,scale_proves hN hJ ha ha7 hs1]
  obtain ⟨ej,ew⟩:=h2.one (c:=⟨2,[],[],c.side,[]⟩) ⟨YB.nil.a64,YB.nil.a64,by simp,by simp,w5,by simp⟩ hck
  refine ⟨by rw [ei,ej,k],by omega,0,by unfold I64; omega,by rw [h1.none (by omega),W_zero],?_⟩
  rw [Int.mul_zero,W_zero]
  exact h2.none (by rw [ej]; dsimp only; omega)
 ·have hck:z25 (z1p a b I) ⟨3,c.flow.map (a * ·),[],[],c.cycle⟩ = 0:=by
   unfold z25 z3b
   simp [hJ.right,scale_fits hJ ha hcx.a64 (hmul ha ha7 hcx) hs1,scale_turns hJ hb hs2]
  obtain ⟨ej,ew⟩:=h2.one (c:=⟨3,c.flow.map (a * ·),[],[],c.cycle⟩) ⟨hmul ha ha7 hcx,YB.nil.a64,by simpa using w3,by simp,by simp,w6⟩ hck
  refine ⟨by rw [ei,ej,k],by omega,0,by unfold I64; omega,by rw [h1.none (by omega),W_zero],?_⟩
  rw [Int.mul_zero,W_zero]
  exact h2.none (by rw [ej]; dsimp only; omega)
end Go.Ql
end
section
namespace Go.Ql
open Go Go.Vc
def widA (e:List Int) (c:Nat) (a:Arc):Arc:=if c < e.length/\a.cap ≠ inf then { a with cap:=a.cap + e.getD c 0 % 3 } else a
def z7p (e:List Int) (l:List Arc) (k:Nat):List Arc:=(List.range l.length).map fun c=>if c < k then widA e c (l.getD c default) else l.getD c default
def z7q (e:List Int) (q:Arc) (I:Inst):Inst:=⟨I.sup,z7p e I.arcs I.arcs.length ++ [q]⟩
theorem z4d (e:List Int) (l:List Arc) (k:Nat):(z7p e l k).length = l.length:=by simp [z7p]
theorem z85 {e:List Int} {l:List Arc} {k c:Nat} (h:c < l.length):(z7p e l k)[c]? = some (if c < k then widA e c (l.getD c default) else l.getD c default):=by
 unfold z7p; rw [List.getElem?_map,List.getElem?_range h]; rfl
theorem getD_arc {l:List Arc} {c:Nat} {y:Arc} (h:l[c]? = some y):l.getD c default = y:=by rw [List.getD_eq_getElem?_getD,h]; rfl
theorem widS_zero (e:List Int) (l:List Arc):z7p e l 0 = l:=by
 refine List.ext_getElem? fun t=>?_
 by_cases h:t < l.length
 ·rw [z85 h,if_neg (Nat.not_lt_zero _),List.getD_eq_getElem?_getD,List.getElem?_eq_getElem h]; rfl
 ·rw [List.getElem?_eq_none (by rw [z4d]; omega),List.getElem?_eq_none (by omega)]
theorem widS_at {e:List Int} {l:List Arc} {k:Nat} {y:Arc} (h:(z7p e l k)[k]? = some y):l[k]? = some y:=by
 have hk:=(List.getElem?_eq_some_iff.1 h).1
 rw [z4d] at hk
 rw [z85 hk,if_neg (Nat.lt_irrefl _),List.getD_eq_getElem?_getD,List.getElem?_eq_getElem hk] at h
 rw [List.getElem?_eq_getElem hk]; exact h
theorem widS_set {e:List Int} {l:List Arc} {k:Nat} {y z:Arc} (h:l[k]? = some y) (hz:z = widA e k y):(z7p e l k).set k z = z7p e l (k + 1):=by
 have hk:=(List.getElem?_eq_some_iff.1 h).1
 refine List.ext_getElem? fun t=>?_
 rw [List.getElem?_set,z4d]
 by_cases ht:t < l.length
 ·rw [z85 (k:=k + 1) ht]
  by_cases e1:k = t
  ·subst e1; rw [if_pos rfl,if_pos hk,if_pos (Nat.lt_succ_self _),getD_arc h,hz]
  ·rw [if_neg e1,z85 ht]
   by_cases h2:t < k
   ·rw [if_pos h2,if_pos (by omega)]
   ·rw [if_neg h2,if_neg (by omega)]
 ·rw [if_neg (by omega),List.getElem?_eq_none (by rw [z4d]; omega),List.getElem?_eq_none (by rw [z4d]; omega)]
theorem widS_same {e:List Int} {l:List Arc} {k:Nat} {y:Arc} (h:l[k]? = some y) (hz:y = widA e k y):z7p e l k = z7p e l (k + 1):=by
 have hk:=(List.getElem?_eq_some_iff.1 h).1
 have:=widS_set (e:=e) h hz
 rw [<- this]
 refine List.ext_getElem? fun t=>?_
 rw [List.getElem?_set,z4d]
 by_cases e1:k = t
 ·subst e1; rw [if_pos rfl,if_pos hk,z85 hk,if_neg (Nat.lt_irrefl _),getD_arc h]
 ·rw [if_neg e1]
theorem widS_stop {e:List Int} {l:List Arc} {k:Nat} (h:e.length <= k) (hk:k <= l.length):z7p e l k = z7p e l l.length:=by
 refine List.ext_getElem? fun t=>?_
 by_cases ht:t < l.length
 ·rw [z85 ht,z85 ht,if_pos ht]
  by_cases h2:t < k
  ·rw [if_pos h2]
  ·rw [if_neg h2]
   unfold widA
   rw [if_neg (by omega)]
 ·rw [List.getElem?_eq_none (by rw [z4d]; omega),List.getElem?_eq_none (by rw [z4d]; omega)]
theorem z6m (e:List Int) (c:Nat) (a:Arc):(widA e c a).src = a.src/\(widA e c a).dst = a.dst/\(widA e c a).low = a.low/\(widA e c a).cost = a.cost/\(a.cap = inf->(widA e c a).cap = inf)/\(a.cap ≠ inf->a.cap <= (widA e c a).cap/\(widA e c a).cap <= a.cap + 2):=by
 unfold widA
 split
 ·rename_i h
  exact ⟨rfl,rfl,rfl,rfl,fun hi=>absurd hi h.2,fun _=>⟨by show a.cap <= a.cap + _; omega,by show a.cap + _ <= _; omega⟩⟩
 ·exact ⟨rfl,rfl,rfl,rfl,id,fun _=>⟨Int.le_refl _,by omega⟩⟩
section
variable {I:Inst} {e:List Int} {q:Arc}
theorem z80:(z7q e q I).arcs.length = I.arcs.length + 1:=by simp [z7q,z4d]
theorem more_at {c:Nat} (h:c < I.arcs.length):(z7q e q I).arcs.getD c default = widA e c (I.arcs.getD c default):=by
 unfold z7q
 dsimp only
 rw [List.getD_eq_getElem?_getD,List.getElem?_append_left (by rw [z4d]; exact h),z85 h,if_pos h]; rfl
theorem more_last:(z7q e q I).arcs.getD I.arcs.length default = q:=by
 unfold z7q
 dsimp only
 rw [List.getD_eq_getElem?_getD,List.getElem?_append_right (by rw [z4d]; exact Nat.le_refl _),z4d,Nat.sub_self]; rfl
theorem more_few (h:FewI I) (hm:I.arcs.length <= 18) {n:Int} (hN:∀ q ∈ I.arcs,q.Nice n) (hq:ArcFew I.sup.length q):FewI (z7q e q I):=by
 refine ⟨h.n1,h.n2,by rw [z80]; omega,fun a ha=>?_,h.sup,h.sum⟩
 unfold z7q at ha
 dsimp only at ha
 rcases List.mem_append.1 ha with ha | ha
 ·obtain ⟨c,hc,rfl⟩:=List.mem_map.1 ha
  have hc:=List.mem_range.1 hc
  rw [if_pos hc]
  have hm:=(z48 hc).2
  have h1:=h.arc _ hm
  have h2:=hN _ hm
  obtain ⟨w1,w2,w3,w4,w5,w6⟩:=z6m e c (z18 I c)
  have hi:inf = 4611686018427387904:=rfl
  show ArcFew I.sup.length (widA e c (z18 I c))
  refine ⟨by rw [w1]; exact h1.s0,by rw [w1]; exact h1.s1,by rw [w2]; exact h1.d0,by rw [w2]; exact h1.d1,by rw [w3]; exact h1.l0,by rw [w3]; exact h1.l1,?_,by rw [w4]; exact h1.k0,by rw [w4]; exact h1.k1⟩
  by_cases hc:(z18 I c).cap = inf
  ·exact .inl (w5 hc)
  ·have c7:=h2.c1.resolve_right (fun e=>hc e)
   have c0:=h2.c0
   have:=w6 hc
   rw [w3]
   exact .inr ⟨by omega,by omega⟩
 ·simp at ha; subst ha; exact hq
theorem netK_more (n:Int) (x:List Int) (v:Int):∀ k,k <= I.arcs.length->k <= x.length->z2d n (z7q e q I).arcs (x ++ [0]) k v = z2d n I.arcs x k v
 | 0,_,_=>rfl
 | k + 1,h,hx=>by
  have ex:(x ++ [0]).getD k 0 = x.getD k 0:=by rw [List.getD_eq_getElem?_getD,List.getElem?_append_left (by omega),List.getD_eq_getElem?_getD]
  rw [z2d,z2d,netK_more n x v k (by omega) (by omega),more_at (by omega),ex]
  obtain ⟨w1,w2,-⟩:=z6m e k (I.arcs.getD k default)
  unfold z3q z2l
  rw [w1,w2]
theorem costK_more (x:List Int):∀ k,k <= I.arcs.length->k <= x.length->z1n (z7q e q I).arcs (x ++ [0]) k = z1n I.arcs x k
 | 0,_,_=>rfl
 | k + 1,h,hx=>by
  have ex:(x ++ [0]).getD k 0 = x.getD k 0:=by rw [List.getD_eq_getElem?_getD,List.getElem?_append_left (by omega),List.getD_eq_getElem?_getD]
  rw [z1n,z1n,costK_more x k (by omega) (by omega),more_at (by omega),ex,(z6m e k _).2.2.2.1]
theorem more_fits (hJ:FewI (z7q e q I)) (hq0:q.low = 0) (hq3:q.cap = 3) {x:List Int} (hx:A64 x) (hf:z1g I x = 0):A64 (x ++ [0])/\z1g (z7q e q I) (x ++ [0]) = 0/\z3v (z7q e q I) (x ++ [0]) = z3v I x:=by
 obtain ⟨hr,hl,hb,hn⟩:=(z34 hx).1 hf
 have hA:A64 (x ++ [0]):=fun y hy=>by
  rcases List.mem_append.1 hy with hy | hy
  ·exact hx y hy
  ·simp at hy; subst hy; unfold I64; omega
 have e0:(x ++ [0]).getD I.arcs.length 0 = 0:=by rw [List.getD_eq_getElem?_getD,List.getElem?_append_right (by omega),hl,Nat.sub_self]; rfl
 refine ⟨hA,(z34 hA).2 ⟨hJ.right,by rw [z80]; simp [hl],fun c hc=>?_,fun v hv=>?_⟩,?_⟩
 ·rw [z80] at hc
  by_cases h:c < I.arcs.length
  ·have e1:z18 (z7q e q I) c = widA e c (z18 I c):=more_at h
   have ex:(x ++ [0]).getD c 0 = x.getD c 0:=by rw [List.getD_eq_getElem?_getD,List.getElem?_append_left (by omega),List.getD_eq_getElem?_getD]
   obtain ⟨w1,w2,w3,w4,w5,w6⟩:=z6m e c (z18 I c)
   obtain ⟨b1,b2⟩:=hb c h
   rw [e1,ex,w3]
   refine ⟨b1,?_⟩
   by_cases hc:(z18 I c).cap = inf
   ·exact .inl (w5 hc)
   ·have:=w6 hc
    have:=b2.resolve_left hc
    exact .inr (by omega)
  ·have ec:c = I.arcs.length:=by omega
   subst ec
   have e1:z18 (z7q e q I) I.arcs.length = q:=more_last
   rw [e1,e0,hq0,hq3]
   exact ⟨by omega,.inr (by omega)⟩
 ·rw [z80]
  rw [z2d,netK_more _ _ _ _ (Nat.le_refl _) (by omega),e0]
  have:z3q (z7q e q I).sup.length ((z7q e q I).arcs.getD I.arcs.length default) 0 v = 0:=by unfold z3q; split <;> simp
  rw [this,Int.add_zero]
  exact hn v hv
 ·unfold z3v
  rw [z80,z1n,costK_more _ _ (Nat.le_refl _) (by omega),e0,Int.mul_zero,Int.add_zero]
theorem more_turns (h:FewI I) (hJ:FewI (z7q e q I)) {l:List Int} (ht:z46 I l = 0):z46 (z7q e q I) l = 0:=by
 obtain ⟨-,h1,h2,c1,c2,c3,c4,c5⟩:=turns_char.1 ht
 have hat:∀ a:Int,0 <= a/\a < I.arcs.length->z2p (z7q e q I) a = widA e a.toNat (z2p I a):=fun a ha=>more_at (by omega)
 have hm:∀ k,k < l.length->l.getD k 0 ∈ l:=fun k hk=>by rw [List.getD_eq_getElem?_getD,List.getElem?_eq_getElem hk]; exact List.getElem_mem _
 have hmod:∀ k,k < l.length->(k + 1) % l.length < l.length:=fun k hk=>Nat.mod_lt _ (by omega)
 refine turns_char.2 ⟨hJ.right,h1,by rw [z80]; omega,fun a ha=>by rw [z80]; have:=c1 a ha; omega,c2,fun k hk=>?_,fun a ha=>?_,?_⟩
 ·rw [hat _ (c1 _ (hm k hk)),hat _ (c1 _ (hm _ (hmod k hk))),(z6m _ _ _).2.1,(z6m _ _ _).1]; exact c3 k hk
 ·rw [hat _ (c1 a ha)]; exact (z6m _ _ _).2.2.2.2.1 (c4 a ha)
 ·have e:rayS (z7q e q I) l = rayS I l:=by
   rw [z5j,z5j]
   congr 1
   refine List.map_congr_left fun a ha=>?_
   have ha1:=c1 a ha
   unfold zjy
   rw [if_pos (isArcF_iff.2 ⟨ha1.1,by rw [z80]; omega⟩),if_pos (isArcF_iff.2 ha1),hat a ha1,(z6m _ _ _).2.2.2.1]
  rw [e]; exact c5
theorem more_law (h:FewI I) (hm:I.arcs.length <= 18) {n:Int} (hN:∀ q ∈ I.arcs,q.Nice n) (hq:ArcFew I.sup.length q) (hq0:q.low = 0) (hq3:q.cap = 3) {v w:Wide} {i j:Int} (h1:ValueP I v i) (h2:ValueP (z7q e q I) w j) :
  (i = 2 ∨ j ≠ 2)/\(i = 3->j = 3)/\(i = 1->j = 1->zje w v <= 0):=by
 have hJ:=more_few (e:=e) h hm hN hq
 have c1:i ≠ 2->j ≠ 2:=fun hi hj=>by
  obtain ⟨x,hx,hf⟩:=h1.feas hi
  obtain ⟨q1,q2,-⟩:=more_fits hJ hq0 hq3 hx hf
  exact h2.cut hj ⟨_,q1,q2⟩
 refine ⟨by by_cases hi:i = 2; exact .inl hi; exact .inr (c1 hi),fun hi=>?_,fun hi hj=>?_⟩
 ·obtain ⟨l,hl,hll⟩:=(h1.neg (by omega)).1 hi
  exact (h2.neg (c1 (by omega))).2 ⟨l,more_turns h hJ hl,hll⟩
 ·obtain ⟨x,hx,hxf,rfl,-⟩:=h1.best hi
  obtain ⟨y,hy,hyf,rfl,hyb⟩:=h2.best hj
  obtain ⟨q1,q2,q3⟩:=more_fits hJ hq0 hq3 hx hxf
  have:=hyb _ q1 q2
  rw [za8 (z4o hJ.right hy) (z4o h.right hx)]
  split
  ·decide
  ·rw [if_neg (by omega)]; decide
end
end Go.Ql
end
section
namespace Go.Proofs.Ytggblkbecekbdaa
open Go Go.RowKit Go.Ql Go.Vc
def z70 (p:List Int) (d:List Int) (e:List Int) (k:Int) (u:Int) (v:Int) (c:Int):FRes:={ pre:=Bytes p/\Bytes d/\p.length <= maxLen/\d.length <= maxLen/\Bytes e/\e.length <= maxLen/\0 <= k/\k <= 255/\0 <= u/\u <= 255/\0 <= v/\v <= 255/\-128 <= c/\c <= 127,res:=.bool (true),rows:=[],eff:=[] }
def zik:FS:=fun args h=>match args,h with
 | [.row 0,.row 1,.row 2,.int .u8 k,.int .u8 u,.int .u8 v,.int .i8 c],[(0,.row false ty0 (.ints .u8 p)),(1,.row false ty1 (.ints .u8 d)),(2,.row false ty2 (.ints .u8 e))]=>some (z70 p d e k u v c)
 | _,_=>none
def zam (p:List Int) (d:List Int) (e:List Int) (k:Int) (u:Int) (v:Int) (c:Int):List (Nat × Ann):=[(6,{ G:=(Nat),inv:=fun a=>⟨[(2,.row 2),(4,.int .u8 u),(5,.int .u8 v),(6,.int IntKind.i8 c),(15,.ptr 7 0 0 0),(16,.int .i64 (↑(z00 p d k).sup.length:Int)),(17,.ptr 12 0 0 0),(18,.int .i64 a)],[(13,.row true 50 (.arcs (z7p e (z00 p d k).arcs a))),(12,.box true 30 [.row 3,.row 13]),(7,.box true 30 [.row 3,.row 4]),(3,.row true 2 (.ints .i64 (z00 p d k).sup)),(4,.row true 50 (.arcs (z00 p d k).arcs)),(2,.row false 0 (.ints .u8 e))],14⟩,rel:=fun a0 a=>a <= (z00 p d k).arcs.length/\a <= e.length,meas:=fun a=>(z00 p d k).arcs.length - a })]
def SolveMore_A:List SV->z0f->List (Nat × Ann):=fun args h=>match args,h with
 | [.row 0,.row 1,.row 2,.int .u8 k,.int .u8 u,.int .u8 v,.int .i8 c],[(0,.row false ty0 (.ints .u8 p)),(1,.row false ty1 (.ints .u8 d)),(2,.row false ty2 (.ints .u8 e))]=>zam p d e k u v c
 | _,_=>[]
def zdj:z0d:=[(z8s,(true,z04 true z5z)),(zgr,(true,z04 true z9b)),(Compare_n,(true,z04 true zgn)),(zjg,(true,z04 true zao)),(Solve_n,(true,z0u true zer))]
abbrev SolveMore_n:Nat:=9
def zko (p:List Int) (d:List Int) (e:List Int) (k:Int) (u:Int) (v:Int) (c:Int):List (Nat × z0a):=[]
def SolveMore_IA:List SV->z0f->List (Nat × z0a):=fun _ _=>[]
end Go.Proofs.Ytggblkbecekbdaa
end
section
namespace Go.Proofs.Ytggblkbecekbdaa
open Go Go.RowKit Go.Ql Go.Vc
abbrev z6f (g_1:Cert × Int) (g_2:Cert × Int) (p:List Int) (d:List Int) (k:Int) (e:List Int) (g:Nat) (u:Int) (v:Int) (c:Int):=((!decide (g_1.1.kind = (1:Int))) = false->((!decide (g_2.1.kind = (1:Int))) = true->(true = true/\True)/\True)/\((!decide (g_2.1.kind = (1:Int))) = false->((z28 { sup:=(z00 p d k).sup,arcs:=z7p e (z00 p d k).arcs g ++ [{ src:=(IntKind.i64.wrap u).tmod (↑(z00 p d k).sup.length:Int),dst:=(IntKind.i64.wrap v).tmod (↑(z00 p d k).sup.length:Int),low:=(0:Int),cap:=(3:Int),cost:=IntKind.i64.wrap c:Arc }]:Inst } { kind:=g_2.1.kind,flow:=g_2.1.flow,pot:=g_2.1.pot,side:=g_2.1.side,cycle:=g_2.1.cycle:Cert }).ok/\((z28 (z00 p d k) { kind:=g_1.1.kind,flow:=g_1.1.flow,pot:=g_1.1.pot,side:=g_1.1.side,cycle:=g_1.1.cycle:Cert }).ok))/\((decide (zje (z28 { sup:=(z00 p d k).sup,arcs:=z7p e (z00 p d k).arcs g ++ [{ src:=(IntKind.i64.wrap u).tmod (↑(z00 p d k).sup.length:Int),dst:=(IntKind.i64.wrap v).tmod (↑(z00 p d k).sup.length:Int),low:=(0:Int),cap:=(3:Int),cost:=IntKind.i64.wrap c:Arc }]:Inst } { kind:=g_2.1.kind,flow:=g_2.1.flow,pot:=g_2.1.pot,side:=g_2.1.side,cycle:=g_2.1.cycle:Cert }) (z28 (z00 p d k) { kind:=g_1.1.kind,flow:=g_1.1.flow,pot:=g_1.1.pot,side:=g_1.1.side,cycle:=g_1.1.cycle:Cert }) <= (0:Int)) = true/\True)/\True)))
abbrev zaj (g_1:Cert × Int) (g_2:Cert × Int) (p:List Int) (d:List Int) (k:Int) (e:List Int) (g:Nat) (u:Int) (v:Int) (c:Int):=((g_1.2 != (0:Int)) = false->((g_2.2 != (0:Int)) = true->(false = true/\True)/\True)/\((g_2.2 != (0:Int)) = false->True/\(true = true->((g_1.1.kind == (2:Int)) = true->((g_1.1.kind != (3:Int)) = true->((!decide (g_1.1.kind = (1:Int))) = true->(true = true/\True)/\True)/\(z6f g_1 g_2 p d k e g u v c))/\((g_1.1.kind != (3:Int)) = false->((g_2.1.kind == (3:Int)) = true->((!decide (g_1.1.kind = (1:Int))) = true->(true = true/\True)/\True)/\(z6f g_1 g_2 p d k e g u v c))/\((g_2.1.kind == (3:Int)) = false->(false = true/\True)/\True)))/\((g_1.1.kind == (2:Int)) = false->((g_2.1.kind != (2:Int)) = true->((g_1.1.kind != (3:Int)) = true->((!decide (g_1.1.kind = (1:Int))) = true->(true = true/\True)/\True)/\(z6f g_1 g_2 p d k e g u v c))/\((g_1.1.kind != (3:Int)) = false->((g_2.1.kind == (3:Int)) = true->((!decide (g_1.1.kind = (1:Int))) = true->(true = true/\True)/\True)/\(z6f g_1 g_2 p d k e g u v c))/\((g_2.1.kind == (3:Int)) = false->(false = true/\True)/\True)))/\((g_2.1.kind != (2:Int)) = false->(false = true/\True)/\True)))/\(true = false->(false = true/\True)/\True)))
abbrev zak (p:List Int) (d:List Int) (k:Int) (e:List Int) (g:Nat) (u:Int) (v:Int) (c:Int):=(z03 { sup:=(z00 p d k).sup,arcs:=z7p e (z00 p d k).arcs g ++ [{ src:=(IntKind.i64.wrap u).tmod (↑(z00 p d k).sup.length:Int),dst:=(IntKind.i64.wrap v).tmod (↑(z00 p d k).sup.length:Int),low:=(0:Int),cap:=(3:Int),cost:=IntKind.i64.wrap c:Arc }]:Inst } = (0:Int)->SmallI { sup:=(z00 p d k).sup,arcs:=z7p e (z00 p d k).arcs g ++ [{ src:=(IntKind.i64.wrap u).tmod (↑(z00 p d k).sup.length:Int),dst:=(IntKind.i64.wrap v).tmod (↑(z00 p d k).sup.length:Int),low:=(0:Int),cap:=(3:Int),cost:=IntKind.i64.wrap c:Arc }]:Inst })
abbrev zal (g_2:Cert × Int) (p:List Int) (d:List Int) (k:Int) (e:List Int) (g:Nat) (u:Int) (v:Int) (c:Int):=(z5r { kind:=g_2.1.kind,flow:=g_2.1.flow,pot:=g_2.1.pot,side:=g_2.1.side,cycle:=g_2.1.cycle:Cert }/\(zae { sup:=(z00 p d k).sup,arcs:=z7p e (z00 p d k).arcs g ++ [{ src:=(IntKind.i64.wrap u).tmod (↑(z00 p d k).sup.length:Int),dst:=(IntKind.i64.wrap v).tmod (↑(z00 p d k).sup.length:Int),low:=(0:Int),cap:=(3:Int),cost:=IntKind.i64.wrap c:Arc }]:Inst }))
abbrev z7s (p:List Int) (d:List Int) (k:Int) (e:List Int):=((True/\(True/\True))/\((True/\(True/\True))/\((z00 p d k).sup = (z00 p d k).sup/\((z00 p d k).arcs = (z00 p d k).arcs/\(e = e/\True)))))
def zai (p : List Int) (d : List Int) (e : List Int) (k : Int) (u : Int) (v : Int) (c : Int) (ty0 ty1 ty2 : TypeId) : Prop :=
   (Bytes p/\(Bytes d/\(p.length <= maxLen/\(d.length <= maxLen/\((0:Int) <= k/\(k <= (255:Int)))))))/\(0:Nat) + (z00 p d k).arcs.length <= (1000000000:Nat)/\∃ (g0:Nat),((g0 <= (z00 p d k).arcs.length/\(g0 <= e.length))/\((True/\(u = u/\(v = v/\(c = c/\(0 = 0/\((↑(z00 p d k).sup.length:Int) = ↑(z00 p d k).sup.length/\(0 = 0/\((0:Int) = ↑g0/\True))))))))/\((z00 p d k).arcs = z7p e (z00 p d k).arcs g0/\(z7s p d k e))))/\∀ (g:Nat),g <= (z00 p d k).arcs.length/\g <= e.length->(decide ((↑g:Int) < ↑(z7p e (z00 p d k).arcs g).length) = true->(decide ((↑g:Int) < ↑e.length) = true->((0:Int) <= ↑g/\((↑g:Int) < ↑(z7p e (z00 p d k).arcs g).length))/\((↑g:Int).toNat < (z7p e (z00 p d k).arcs g).length/\(∀ (x:Arc),(z7p e (z00 p d k).arcs g)[(↑g:Int).toNat]? = some x->((x.cap != (4611686018427387904:Int)) = true->((0:Int) <= ↑g/\((↑g:Int) < ↑(z7p e (z00 p d k).arcs g).length))/\((↑g:Int).toNat < (z7p e (z00 p d k).arcs g).length/\(∀ (x:Arc),(z7p e (z00 p d k).arcs g)[(↑g:Int).toNat]? = some x->((0:Int) <= ↑g/\((↑g:Int) < ↑e.length))/\((↑g:Int).toNat < e.length/\(∀ (x_1:Int),e[(↑g:Int).toNat]? = some x_1->(3:Int) ≠ (0:Int)/\(((0:Int) <= ↑g/\((↑g:Int) < ↑(z7p e (z00 p d k).arcs g).length))/\((↑g:Int).toNat < (z7p e (z00 p d k).arcs g).length/\(∀ (x_2:Arc),(z7p e (z00 p d k).arcs g)[(↑g:Int).toNat]? = some x_2->∃ (g':Nat),(g' <= (z00 p d k).arcs.length/\(g' <= e.length))/\((z00 p d k).arcs.length - g' < (z00 p d k).arcs.length - g/\((True/\(u = u/\(v = v/\(c = c/\(0 = 0/\((↑(z00 p d k).sup.length:Int) = ↑(z00 p d k).sup.length/\(0 = 0/\(IntKind.i64.wrap ((↑g:Int) + (1:Int)) = (↑g':Int)/\True))))))))/\((z7p e (z00 p d k).arcs g).set (↑g:Int).toNat { src:=x_2.src,dst:=x_2.dst,low:=x_2.low,cap:=IntKind.i64.wrap (x.cap + IntKind.i64.wrap (x_1.tmod (3:Int))),cost:=x_2.cost:Arc } = z7p e (z00 p d k).arcs g'/\(z7s p d k e))))))))))))/\((x.cap != (4611686018427387904:Int)) = false->∃ (g':Nat),(g' <= (z00 p d k).arcs.length/\(g' <= e.length))/\((z00 p d k).arcs.length - g' < (z00 p d k).arcs.length - g/\((True/\(u = u/\(v = v/\(c = c/\(0 = 0/\((↑(z00 p d k).sup.length:Int) = ↑(z00 p d k).sup.length/\(0 = 0/\(IntKind.i64.wrap ((↑g:Int) + (1:Int)) = (↑g':Int)/\True))))))))/\(z7p e (z00 p d k).arcs g = z7p e (z00 p d k).arcs g'/\(z7s p d k e))))))))/\(decide ((↑g:Int) < ↑e.length) = false->(↑(z00 p d k).sup.length:Int) ≠ (0:Int)/\(↑(z00 p d k).sup.length:Int) ≠ (0:Int)/\(z7p e (z00 p d k).arcs g).length + (1:Nat) <= 1000000000/\(z03 (z00 p d k) = (0:Int)->SmallI (z00 p d k))/\∀ (g_1:Cert × Int),SolveP (z00 p d k) g_1.1 g_1.2->(zak p d k e g u v c)/\∀ (g_2:Cert × Int),SolveP { sup:=(z00 p d k).sup,arcs:=z7p e (z00 p d k).arcs g ++ [{ src:=(IntKind.i64.wrap u).tmod (↑(z00 p d k).sup.length:Int),dst:=(IntKind.i64.wrap v).tmod (↑(z00 p d k).sup.length:Int),low:=(0:Int),cap:=(3:Int),cost:=IntKind.i64.wrap c:Arc }]:Inst } g_2.1 g_2.2->(z5r { kind:=g_1.1.kind,flow:=g_1.1.flow,pot:=g_1.1.pot,side:=g_1.1.side,cycle:=g_1.1.cycle:Cert }/\(zae (z00 p d k)))/\(zal g_2 p d k e g u v c)/\((g_1.2 != (0:Int)) = true->(false = true/\True)/\True)/\(zaj g_1 g_2 p d k e g u v c)))/\(decide ((↑g:Int) < ↑(z7p e (z00 p d k).arcs g).length) = false->(↑(z00 p d k).sup.length:Int) ≠ (0:Int)/\(↑(z00 p d k).sup.length:Int) ≠ (0:Int)/\(z7p e (z00 p d k).arcs g).length + (1:Nat) <= 1000000000/\(z03 (z00 p d k) = (0:Int)->SmallI (z00 p d k))/\∀ (g_1:Cert × Int),SolveP (z00 p d k) g_1.1 g_1.2->(zak p d k e g u v c)/\∀ (g_2:Cert × Int),SolveP { sup:=(z00 p d k).sup,arcs:=z7p e (z00 p d k).arcs g ++ [{ src:=(IntKind.i64.wrap u).tmod (↑(z00 p d k).sup.length:Int),dst:=(IntKind.i64.wrap v).tmod (↑(z00 p d k).sup.length:Int),low:=(0:Int),cap:=(3:Int),cost:=IntKind.i64.wrap c:Arc }]:Inst } g_2.1 g_2.2->(z5r { kind:=g_1.1.kind,flow:=g_1.1.flow,pot:=g_1.1.pot,side:=g_1.1.side,cycle:=g_1.1.cycle:Cert }/\(zae (z00 p d k)))/\(zal g_2 p d k e g u v c)/\((g_1.2 != (0:Int)) = true->(false = true/\True)/\True)/\(zaj g_1 g_2 p d k e g u v c))
theorem SolveMore_q (p:List Int) (d:List Int) (e:List Int) (k:Int) (u:Int) (v:Int) (c:Int) (ty0 ty1 ty2:TypeId):zai p d e k u v c ty0 ty1 ty2 = z3p TT zdj (zko p d e k u v c) (zam p d e k u v c) Try.f9 [.row 0,.row 1,.row 2,.int .u8 k,.int .u8 u,.int .u8 v,.int .i8 c] [(0,.row false ty0 (.ints .u8 p)),(1,.row false ty1 (.ints .u8 d)),(2,.row false ty2 (.ints .u8 e))] (z70 p d e k u v c):=by kernel_rfl
theorem SolveMore_E (p:List Int) (d:List Int) (e:List Int) (k:Int) (u:Int) (v:Int) (c:Int) (ty0 ty1 ty2:TypeId) (hp:Bytes p/\Bytes d/\p.length <= maxLen/\d.length <= maxLen/\Bytes e/\e.length <= maxLen/\0 <= k/\k <= 255/\0 <= u/\u <= 255/\0 <= v/\v <= 255/\-128 <= c/\c <= 127):FVc TT zdj (zko p d e k u v c) (zam p d e k u v c) Try.f9 [.row 0,.row 1,.row 2,.int .u8 k,.int .u8 u,.int .u8 v,.int .i8 c] [(0,.row false ty0 (.ints .u8 p)),(1,.row false ty1 (.ints .u8 d)),(2,.row false ty2 (.ints .u8 e))] (z70 p d e k u v c):=by
 refine FVc.of (zai p d e k u v c ty0 ty1 ty2) (SolveMore_q p d e k u v c ty0 ty1 ty2) ?_
 unfold zai
 delta z7s zal zak zaj z6f
 simp only [eq_self,exists_const,forall_const,decide_eq_true_eq,decide_eq_false_iff_not,and_true,true_and,bne_iff_ne,ne_eq,bne_eq_false_iff_eq,Int.toNat_natCast,Bool.not_eq_true',Bool.not_eq_false',beq_iff_eq,beq_eq_false_iff_ne,z09]
 obtain ⟨p1,p2,p3,p4,p5,p6,k0,k1,u0,u1,v0,v1,c0,c1⟩:=hp
 obtain ⟨hF,hn,hm,n7,nn1,hw,hN⟩:=z96 p d k
 generalize z00 p d k = I at *
 have n2:=hF.n2
 have hm2:=hF.m
 have hi:inf = 4611686018427387904:=rfl
 have hmod:∀ x:Int,0 <= x->x <= 255->0 <= (IntKind.i64.wrap x).tmod (I.sup.length:Int)/\(IntKind.i64.wrap x).tmod (I.sup.length:Int) < I.sup.length:=fun x h0 h1=>by
  rw [w64 (by omega) (by omega),Int.tmod_eq_emod_of_nonneg h0]
  exact ⟨Int.emod_nonneg _ (by omega),Int.emod_lt_of_pos _ (by omega)⟩
 have hu:=hmod u u0 u1
 have hv:=hmod v v0 v1
 have hcw:IntKind.i64.wrap c = c:=w64 (by omega) (by omega)
 rw [hcw]
 have hq:ArcFew I.sup.length ⟨(IntKind.i64.wrap u).tmod I.sup.length,(IntKind.i64.wrap v).tmod I.sup.length,0,3,c⟩:=⟨hu.1,hu.2,hv.1,hv.2,by show (0:Int) <= 0; omega,by show (0:Int) <= 500; omega,.inr ⟨by show (0:Int) <= 3; omega,by show (3:Int) <= 2000; omega⟩,by show -2000 <= c; omega,by show c <= 2000; omega⟩
 generalize hQ:(⟨(IntKind.i64.wrap u).tmod I.sup.length,(IntKind.i64.wrap v).tmod I.sup.length,0,3,c⟩:Arc) = q at *
 have hq0:q.low = 0:=by rw [<- hQ]
 have hq3:q.cap = 3:=by rw [<- hQ]
 have hJ:FewI ⟨I.sup,z7p e I.arcs I.arcs.length ++ [q]⟩:=more_few (e:=e) hF hm hN hq
 have hlaw:∀ {v w:Wide} {i j:Int},ValueP I v i->ValueP ⟨I.sup,z7p e I.arcs I.arcs.length ++ [q]⟩ w j->(i = 2 ∨ j ≠ 2)/\(i = 3->j = 3)/\(i = 1->j = 1->zje w v <= 0):=fun h1 h2=>more_law (e:=e) hF hm hN hq hq0 hq3 h1 h2
 have vok:∀ (K:Inst) (c:Cert),(z28 K c).ok:=fun K c=>by unfold z28; split; exact zjh _; exact W_zero ▸ zjh 0
 have hstop:∀ g,g <= I.arcs.length->(e.length <= g ∨ I.arcs.length <= g)->z7p e I.arcs g = z7p e I.arcs I.arcs.length:=fun g hg h=>by
  rcases h with h | h
  ·exact widS_stop h hg
  ·rw [show g = I.arcs.length by omega]
 simp only [z4d,List.length_set]
 refine ⟨⟨p1,p2,p3,p4,k0,k1⟩,by omega,0,⟨⟨Nat.zero_le _,Nat.zero_le _⟩,rfl,(widS_zero _ _).symm⟩,fun g hg=>?_⟩
 refine ⟨fun h1=>⟨fun h2=>⟨by omega,by omega,fun x hx=>?_⟩,fun h2=>?_⟩,fun h1=>?_⟩
 ·have hx2:=widS_at hx
  have hqn:=hN x (List.mem_of_getElem? hx2)
  have l0:=hqn.l0
  have q0:=hqn.c0
  have q1:=hqn.c1
  have key:∀ l:List Arc,l = z7p e I.arcs (g + 1)->∃ g',(g' <= I.arcs.length/\g' <= e.length)/\I.arcs.length - g' < I.arcs.length - g/\IntKind.i64.wrap ((g:Int) + 1) = (g':Int)/\l = z7p e I.arcs g':=fun l hl=>⟨g + 1,⟨by omega,by omega⟩,by omega,by rw [w64 (by omega) (by omega)]; omega,hl⟩
  simp only [hx,Option.some.injEq,forall_eq']
  refine ⟨fun hc=>⟨by omega,by omega,by omega,by omega,fun y hy=>⟨by decide,by omega,by omega,key _ ?_⟩⟩,fun hc=>key _ ?_⟩
  ·have hyb:=p5 y (List.mem_of_getElem? hy)
   have c7:x.cap <= 7:=q1.resolve_right hc
   refine widS_set hx2 ?_
   have ey:e.getD g 0 = y:=by rw [List.getD_eq_getElem?_getD,hy]; rfl
   unfold widA
   rw [if_pos ⟨by omega,hc⟩,ey,Int.tmod_eq_emod_of_nonneg (by omega),w64 (x:=y % 3) (by omega) (by omega),w64 (by omega) (by omega)]
  ·refine widS_same hx2 ?_
   unfold widA
   rw [if_neg (fun h=>h.2 hc)]
 all_goals
  rw [hstop g hg.1 (by omega)]
  refine ⟨by omega,by omega,by omega,fun _=>hF.small,?_⟩
  rintro ⟨a,ea⟩ hA
  refine ⟨fun _=>hJ.small,?_⟩
  rintro ⟨b,eb⟩ hB
  have va:=value_of hF.right hA
  have vb:=value_of hJ.right hB
  have ha:=(hA.ok hF.right).1
  have hb:=(hB.ok hJ.right).1
  have ca:=(zg6 hF.right hA).1
  have cb:=(zg6 hJ.right hB).1
  obtain ⟨l1,l2,l3⟩:=hlaw va vb
  have oa:=vok I a
  have ob:=vok ⟨I.sup,z7p e I.arcs I.arcs.length ++ [q]⟩ b
  dsimp only at ha hb ca cb l1 l2 l3 ⊢
  refine ⟨⟨ca,inst_ok hF.right⟩,⟨cb,inst_ok hJ.right⟩,fun h=>absurd ha h,fun _=>⟨fun h=>absurd hb h,fun _=>?_⟩⟩
  repeat' first
   | exact ⟨⟨ob,oa⟩,l3 (by assumption) (by assumption)⟩
   | exact trivial
   | apply And.intro
   | intro h
   | exact absurd (show true = false by assumption) Bool.noConfusion
   | (exfalso; omega)
theorem SolveMore_ok:SpecOk Try.prog SolveMore_n true (z04 true zik) :=
 z0b z0v (show z1w Try.prog zdj from z02 z8t (z02 zem (z02 Compare_ok (z02 zkq (z02 Solve_ok (z06)))))) (by kernel_rfl) mixedOrders Try.func9 rfl rfl (by kernel_rfl) (n:=7) (by decide +kernel) (I:=SolveMore_IA) (fun _ _=>z07) (A:=SolveMore_A)
  (fun args h r hr=>by
   unfold zik at hr
   split at hr
   ·rename_i k u v c ty0 p ty1 d ty2 e; cases hr; refine ⟨rfl,fun hp=>?_⟩; have hE:=SolveMore_E p d e k u v c ty0 ty1 ty2 hp; exact hE
   ·cases hr)
end Go.Proofs.Ytggblkbecekbdaa
end
section
namespace Go.Proofs.Ytggblkbecekbdaa
open Go Go.RowKit Go.ChangeShapes Go.WideShapes Go.ChangeAt Go.Deep Go.Ql Go.Vc
set_option maxHeartbeats 2000000 in
theorem zg1 (H:Type) (enc:TypeId × Value->H) (W:World) (base:Nat) (args:Array Value) (ds gs:List (DataW H)) (before:List MemPlace)
  (hval:∀ (j:Nat) t v,Try.f9.params[j]? = some t->args[j]? = some v->Value.okWide Try.prog W .any base t v)
  (hW:DataW.Whole enc Try.prog Try.f9.params.toList Rows.solveMoreSpec.vars false W args.toList ds gs before)
  (hz:(DataW.weightsEach Try.prog (Try.f9.params.toList ++ Rows.solveMoreSpec.plain.varTypes Try.prog) (ds ++ gs)).all (· <= reachBytes) = true) :
  Calls Try.prog 9 args W fun e W'=>∃ v,e = .returned v/\Rows.solveMoreSpec.post enc Try.prog Try.f9 false true false false W args v W':=by
 have hW':=hW
 obtain ⟨p,q,hA0,hV,rfl,hfz,hnd⟩:=hW
 have hA:DataW.TrodAll enc Try.prog W 0 (fun _=>true) true Try.f9.params.toList args.toList ds p:=hA0
 rw [Try.params9] at hA hval hz
 obtain ⟨v0,vs0,d0,ds0,p0,q0,hargs,rfl,rfl,h0,r0⟩:=trodAll_cons hA
 obtain ⟨v1,vs1,d1,ds1,p1,q1,rfl,rfl,rfl,h1,r1⟩:=trodAll_cons r0
 obtain ⟨v2,vs2,d2,ds2,p2,q2,rfl,rfl,rfl,h2,r2⟩:=trodAll_cons r1
 obtain ⟨v3,vs3,d3,ds3,p3,q3,rfl,rfl,rfl,h3,r3⟩:=trodAll_cons r2
 obtain ⟨v4,vs4,d4,ds4,p4,q4,rfl,rfl,rfl,h4,r4⟩:=trodAll_cons r3
 obtain ⟨v5,vs5,d5,ds5,p5,q5,rfl,rfl,rfl,h5,r5⟩:=trodAll_cons r4
 obtain ⟨v6,vs6,d6,ds6,p6,q6,rfl,rfl,rfl,h6,r6⟩:=trodAll_cons r5
 obtain ⟨rfl,rfl,rfl⟩:=trodAll_nil r6
 obtain rfl:args = #[v0,v1,v2,v3,v4,v5,v6]:=by cases args; simp_all
 obtain ⟨z0,hz⟩:=z0m hz
 obtain ⟨z1,hz⟩:=z0m hz
 obtain ⟨z2,hz⟩:=z0m hz
 obtain ⟨z3,hz⟩:=z0m hz
 obtain ⟨z4,hz⟩:=z0m hz
 obtain ⟨z5,hz⟩:=z0m hz
 obtain ⟨z6,hz⟩:=z0m hz
 obtain ⟨A0,c0,x0,rfl,hR0,hm0,hw0⟩:=z3n Try.underlying22 Try.underlying5 (by kernel_rfl) (hval 0 22 v0 rfl rfl) h0
 have hb0:=zgi hw0
 have hs0:=z1t Try.underlying22 (of_decide_eq_true (by kernel_rfl)) h0 z0
 obtain ⟨A1,c1,x1,rfl,hR1,hm1,hw1⟩:=z3n Try.underlying22 Try.underlying5 (by kernel_rfl) (hval 1 22 v1 rfl rfl) h1
 have hb1:=zgi hw1
 have hs1:=z1t Try.underlying22 (of_decide_eq_true (by kernel_rfl)) h1 z1
 obtain ⟨A2,c2,x2,rfl,hR2,hm2,hw2⟩:=z3n Try.underlying22 Try.underlying5 (by kernel_rfl) (hval 2 22 v2 rfl rfl) h2
 have hb2:=zgi hw2
 have hs2:=z1t Try.underlying22 (of_decide_eq_true (by kernel_rfl)) h2 z2
 obtain ⟨x3,rfl,rfl,rfl,wn3⟩:=open_int Try.underlying5 (hval 3 5 v3 rfl rfl) h3
 have hb3:=zde wn3
 obtain ⟨x4,rfl,rfl,rfl,wn4⟩:=open_int Try.underlying5 (hval 4 5 v4 rfl rfl) h4
 have hb4:=zde wn4
 obtain ⟨x5,rfl,rfl,rfl,wn5⟩:=open_int Try.underlying5 (hval 5 5 v5 rfl rfl) h5
 have hb5:=zde wn5
 obtain ⟨x6,rfl,rfl,rfl,wn6⟩:=open_int Try.underlying65 (hval 6 65 v6 rfl rfl) h6
 have hb6:=wf1_i8 wn6
 have hpre:(z70 x0 x1 x2 x3 x4 x5 x6).pre:=⟨hb0,hb1,hm0,hm1,hb2,hm2,hb3.1,hb3.2,hb4.1,hb4.2,hb5.1,hb5.2,hb6.1,hb6.2⟩
 have hc:=zb1 (zaw Try.func9 rfl rfl) SolveMore_ok (ρ:=fun k=>if k = 0 then .slice A0 x0.length c0 else if k = 1 then .slice A1 x1.length c1 else if k = 2 then .slice A2 x2.length c2 else .int .i64 0) (W:=W) (args:=[.row 0,.row 1,.row 2,.int .u8 x3,.int .u8 x4,.int .u8 x5,.int .i8 x6]) (hp:=[(0,.row false 0 (.ints .u8 x0)),(1,.row false 0 (.ints .u8 x1)),(2,.row false 0 (.ints .u8 x2))]) (fun k=>by (repeat' split) <;> rfl) ⟨⟨rfl,z5k hR0⟩,⟨⟨rfl,z5k hR1⟩,⟨⟨rfl,z5k hR2⟩,trivial⟩⟩⟩ ((z70 x0 x1 x2 x3 x4 x5 x6).pre/\SV.bool true = .bool true) ⟨hpre,rfl⟩ (by kernel_rfl)
 simp only [z0q,SV.toV] at hc
 refine Calls.mono (show Calls Try.prog 9 #[_,_,_,_,_,_,_] W _ from hc) fun e W' hx=>?_
 obtain ⟨rfl,hb⟩:=hx
 exact ⟨_,rfl,zf2 zf1 hW' rfl (by kernel_rfl) Try.underlying4 (by kernel_rfl) rfl hb⟩
theorem zjc (os:Os) (started:os.Started) (H:Type) (enc:TypeId × Value->H) :
  ReturnsInHanded {} Try.checked os 9 .any (Rows.solveMoreSpec.pre6 enc Try.prog Try.f9 Rows.solveMoreRow.domain false) (Rows.solveMoreSpec.post enc Try.prog Try.f9 false true false false):=by
 refine returnsInHanded_of_change_sized (C:=Try.checked) zfa started (by kernel_rfl) Try.func9
  (ChangeSpec.witness6 (enc:=enc) (C:=Try.checked) false ⟨#[],#[.slice none 0 0,.slice none 0 0,.slice none 0 0,.int .u8 0,.int .u8 0,.int .u8 0,.int .i8 0],[]⟩ 8 (by kernel_rfl) (by kernel_rfl) (by kernel_rfl) (by kernel_rfl)) ?_
 intro W base args ds gs before hval0 hW hcnd hz _
 exact zg1 H enc W base args ds gs before hval0 hW hz
theorem solveMore_holds:Rows.SolveMoreSaid :=
 OpenClaim.holds_of_wide 9 Try.f9 rfl rfl rfl rfl rfl rfl rfl ⟨rfl,rfl,rfl,rfl,rfl⟩ rfl rfl rfl rfl rfl (by kernel_rfl) Try.func9 (by kernel_rfl)
  (of_decide_eq_true (by kernel_rfl)) (by unfold Func.isWrapper; first | (rw [if_pos (by decide +kernel)]; kernel_rfl) | (rw [if_neg (by decide +kernel)]; exact ⟨rfl,rfl⟩))
  (fun os started H enc _=>zjc os started H enc)
end Go.Proofs.Ytggblkbecekbdaa
end
