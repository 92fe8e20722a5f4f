/- Part of the proof: FN1, DRf, FRf, DB9. -/
import Derived.Test.YtggblkbecekbdaaZG6
import Derived.Test.YtggblkbecekbdaaZG5
import Derived.Laws.Externs
set_option linter.unusedVariables false
set_option linter.all false
set_option linter.unusedSimpArgs false
set_option maxRecDepth 1000000
section
namespace Go.Proofs.Ytggblkbecekbdaa
open Go Go.RowKit Go.Ql Go.Vc
theorem Add64_ok:SpecOk Try.prog Add64_n true zgl:=by
 refine .ext fun ρ hp nk w args K hh h=>?_
 unfold zgl at h
 split at h
 ·obtain ⟨⟨h1,h2,h3,h4⟩,hk⟩:=h
  refine ⟨_,?_,hk⟩
  simp only [z0q,SV.toV]
  rw [run_callFunc_extern Try.func43 (by kernel_rfl) (by kernel_rfl) (by kernel_rfl) (e:=add64Entry) (by kernel_rfl),run_add64 _ _ _ h1 h2 h3 h4]
  simp only [Result.andThen]
 ·exact h.elim
theorem run_sub64 {P:Program} (x y b:Nat) (hb:b <= 1) (w:World) :
  ((Extern.MathBitsCarry.rows[1]).2 #[.int .u64 x,.int .u64 y,.int .u64 b]).run P w =
   .ok (.tuple #[.int .u64 (((x + 18446744073709551616 - y - b) % 18446744073709551616:Nat):Int),.int .u64 ((if x < y + b then 1 else 0:Nat):Int)]) w:=by
 have:b = 0 ∨ b = 1:=by omega
 rcases this with rfl | rfl <;> rfl
theorem Sub64_ok:SpecOk Try.prog Sub64_n true zgs:=by
 refine .ext fun ρ hp nk w args K hh h=>?_
 unfold zgs at h
 split at h
 ·rename_i x y c
  obtain ⟨⟨h1,h2,h3,h4,h5⟩,hk⟩:=h
  obtain ⟨X,rfl⟩:=Int.eq_ofNat_of_zero_le h1
  obtain ⟨Y,rfl⟩:=Int.eq_ofNat_of_zero_le h2
  obtain ⟨B,rfl⟩:=Int.eq_ofNat_of_zero_le h4
  refine ⟨_,?_,hk⟩
  simp only [z0q,SV.toV]
  rw [run_callFunc_extern Try.func76 (by kernel_rfl) (by kernel_rfl) (by kernel_rfl) (e:=(Extern.MathBitsCarry.rows[1]).2) (by kernel_rfl),run_sub64 X Y B (by omega)]
  simp only [Result.andThen]
  have e1:(((X + 18446744073709551616 - Y - B) % 18446744073709551616:Nat):Int) = ((X:Int) - Y - B) % 18446744073709551616:=by omega
  have e2:((if X < Y + B then 1 else 0:Nat):Int) = if (X:Int) < Y + B then 1 else 0:=by split <;> split <;> omega
  rw [e1,e2]
 ·exact h.elim
def Mul64_E0 (x : Int) (y : Int) : Prop :=
      (0:Int) <= (32:Int) /\
 (0:Int) <= (32:Int) /\
 (0:Int) <= (32:Int) /\
 (0:Int) <= (32:Int) /\
 (0:Int) <= (32:Int) /\
 ((IntKind.u64.wrap
 (IntKind.u64.wrap
 (IntKind.u64.wrap (x.fdiv ((2:Int) ^ min (Int.toNat (32:Int)) IntKind.u64.bits) * y.fdiv ((2:Int) ^ min (Int.toNat (32:Int)) IntKind.u64.bits)) +
 (IntKind.u64.wrap
 (IntKind.u64.wrap (x.fdiv ((2:Int) ^ min (Int.toNat (32:Int)) IntKind.u64.bits) * andS IntKind.u64 y (4294967295:Int)) +
 (IntKind.u64.wrap (andS IntKind.u64 x (4294967295:Int) * andS IntKind.u64 y (4294967295:Int))).fdiv
 ((2:Int) ^ min (Int.toNat (32:Int)) IntKind.u64.bits))).fdiv
 ((2:Int) ^ min (Int.toNat (32:Int)) IntKind.u64.bits)) +
 (IntKind.u64.wrap
 (andS IntKind.u64
 (IntKind.u64.wrap
 (IntKind.u64.wrap (x.fdiv ((2:Int) ^ min (Int.toNat (32:Int)) IntKind.u64.bits) * andS IntKind.u64 y (4294967295:Int)) +
 (IntKind.u64.wrap (andS IntKind.u64 x (4294967295:Int) * andS IntKind.u64 y (4294967295:Int))).fdiv
 ((2:Int) ^ min (Int.toNat (32:Int)) IntKind.u64.bits)))
 (4294967295:Int) +
 IntKind.u64.wrap (andS IntKind.u64 x (4294967295:Int) * y.fdiv ((2:Int) ^ min (Int.toNat (32:Int)) IntKind.u64.bits)))).fdiv
 ((2:Int) ^ min (Int.toNat (32:Int)) IntKind.u64.bits)) =
 x * y / (18446744073709551616:Int) /\
 IntKind.u64.wrap (x * y) = x * y % (18446744073709551616:Int)/\True) /\
 True) /\
 True
theorem Mul64_q (x:Int) (y:Int):Mul64_E0 x y = z3p TT Mul64_g (Mul64_I x y) (Mul64_an x y) Try.f44 [.int .u64 x,.int .u64 y] [] (Mul64_r x y):=by kernel_rfl
theorem Mul64_E (x:Int) (y:Int) (hp:U64 x/\U64 y):FVc TT Mul64_g (Mul64_I x y) (Mul64_an x y) Try.f44 [.int .u64 x,.int .u64 y] [] (Mul64_r x y):=by
 refine FVc.of (Mul64_E0 x y) (Mul64_q x y) ?_
 unfold Mul64_E0
 simp only [eq_self,exists_const,forall_const,decide_eq_true_eq,decide_eq_false_iff_not,and_true,true_and,bne_iff_ne,ne_eq,bne_eq_false_iff_eq,Int.toNat_natCast,Bool.not_eq_true',Bool.not_eq_false',beq_iff_eq,beq_eq_false_iff_ne]
 obtain ⟨⟨x1,x2⟩,y1,y2⟩:=hp
 have e:(2:Int) ^ min (Int.toNat 32) IntKind.u64.bits = 4294967296:=by decide
 rw [e]
 simp only [Int.fdiv_eq_ediv_of_nonneg _ (show (0:Int) <= 4294967296 by decide),and_low x1 x2,and_low y1 y2]
 refine ⟨by omega,by omega,by omega,by omega,by omega,?_,za3 _⟩
 obtain ⟨a,ha⟩:∃ a,a = x / 4294967296:=⟨_,rfl⟩
 obtain ⟨b,hb⟩:∃ b,b = x % 4294967296:=⟨_,rfl⟩
 obtain ⟨c,hc⟩:∃ c,c = y / 4294967296:=⟨_,rfl⟩
 obtain ⟨d,hd⟩:∃ d,d = y % 4294967296:=⟨_,rfl⟩
 rw [<- ha,<- hb,<- hc,<- hd]
 have hx:x = a * 4294967296 + b:=by omega
 have hy:y = c * 4294967296 + d:=by omega
 have hxy:x * y = a * c * 18446744073709551616 + (a * d + b * c) * 4294967296 + b * d:=by
  rw [hx,hy]
  grind
 have bd:∀ p q:Int,0 <= p->p <= 4294967295->0 <= q->q <= 4294967295->0 <= p * q/\p * q <= 18446744065119617025:=fun p q h1 h2 h3 h4=>by
  have:=zmc (a:=p) (b:=q) (A:=4294967295) (B:=4294967295) (by omega) (by omega) (by omega) (by omega) (by omega) (by omega)
  exact ⟨Int.mul_nonneg h1 h3,by omega⟩
 have q1:=bd a c (by omega) (by omega) (by omega) (by omega)
 have q2:=bd a d (by omega) (by omega) (by omega) (by omega)
 have q3:=bd b c (by omega) (by omega) (by omega) (by omega)
 have q4:=bd b d (by omega) (by omega) (by omega) (by omega)
 rw [hxy]
 generalize a * c = ac at *
 generalize a * d = ad at *
 generalize b * c = bc at *
 generalize b * d = bdd at *
 rw [wu64 q4.1 (by omega),wu64 q2.1 (by omega),wu64 (x:=ad + bdd / 4294967296) (by omega) (by omega),wu64 q1.1 (by omega),wu64 q3.1 (by omega),and_low (by omega) (by omega)]
 rw [wu64 (x:=(ad + bdd / 4294967296) % 4294967296 + bc) (by omega) (by omega)]
 rw [wu64 (x:=ac + (ad + bdd / 4294967296) / 4294967296) (by omega) (by omega)]
 rw [wu64 (by omega) (by omega)]
 omega
theorem Mul64_ok:SpecOk Try.prog Mul64_n true (z04 true Mul64_fs) :=
 z0b z0v (show z1w Try.prog Mul64_g from z06) (by kernel_rfl) mixedOrders Try.func44 rfl rfl (by kernel_rfl) (n:=2) (by decide +kernel) (I:=Mul64_IA) (fun _ _=>z07) (A:=Mul64_A)
  (fun args h r hr=>by
   unfold Mul64_fs at hr
   split at hr
   ·rename_i x y; cases hr; refine ⟨rfl,fun hp=>?_⟩; have hE:=Mul64_E x y hp; exact hE
   ·cases hr)
def size_E0 (n : Int) : Prop :=
      (decide (n < (0:Int)) = true->((IntKind.u64.wrap ((0:Int) - IntKind.u64.wrap n) = if n < (0:Int) then -n else n)/\True)/\True) /\
 (decide (n < (0:Int)) = false->((IntKind.u64.wrap n = if n < (0:Int) then -n else n)/\True)/\True)
theorem size_q (n:Int):size_E0 n = z3p TT size_g (size_I n) (size_an n) Try.f45 [.int .i64 n] [] (size_r n):=by kernel_rfl
theorem size_E (n:Int) (hp:I64 n):FVc TT size_g (size_I n) (size_an n) Try.f45 [.int .i64 n] [] (size_r n):=by
 refine FVc.of (size_E0 n) (size_q n) ?_
 unfold size_E0
 simp only [eq_self,exists_const,forall_const,decide_eq_true_eq,decide_eq_false_iff_not,and_true,true_and,bne_iff_ne,ne_eq,bne_eq_false_iff_eq,Int.toNat_natCast,Bool.not_eq_true',Bool.not_eq_false',beq_iff_eq,beq_eq_false_iff_ne]
 unfold I64 at hp
 simp only [za3]
 refine ⟨fun h=>?_,fun h=>?_⟩
 ·rw [if_pos h]; omega
 ·rw [if_neg h]; omega
theorem size_ok:SpecOk Try.prog size_n true (z04 true size_fs) :=
 z0b z0v (show z1w Try.prog size_g from z06) (by kernel_rfl) mixedOrders Try.func45 rfl rfl (by kernel_rfl) (n:=1) (by decide +kernel) (I:=size_IA) (fun _ _=>z07) (A:=size_A)
  (fun args h r hr=>by
   unfold size_fs at hr
   split at hr
   ·rename_i n; cases hr; refine ⟨rfl,fun hp=>?_⟩; have hE:=size_E n hp; exact hE
   ·cases hr)
def Of_E0 (n : Int) : Prop :=
   (0:Int) <= (63:Int)/\((n.fdiv ((2:Int) ^ min (Int.toNat (63:Int)) IntKind.i64.bits) = (W n).hi/\IntKind.u64.wrap n = (W n).lo/\True)/\True)/\True
theorem Of_q (n:Int):Of_E0 n = z3p TT Of_g (Of_I n) (Of_an n) Try.f26 [.int .i64 n] [] (Of_r n):=by kernel_rfl
theorem Of_E (n:Int) (hp:I64 n):FVc TT Of_g (Of_I n) (Of_an n) Try.f26 [.int .i64 n] [] (Of_r n):=by
 refine FVc.of (Of_E0 n) (Of_q n) ?_
 unfold Of_E0
 simp only [eq_self,exists_const,forall_const,decide_eq_true_eq,decide_eq_false_iff_not,and_true,true_and,bne_iff_ne,ne_eq,bne_eq_false_iff_eq,Int.toNat_natCast,Bool.not_eq_true',Bool.not_eq_false',beq_iff_eq,beq_eq_false_iff_ne]
 unfold I64 at hp
 have e:(2:Int) ^ min (Int.toNat 63) IntKind.i64.bits = 9223372036854775808:=by decide
 rw [e,Int.fdiv_eq_ediv_of_nonneg _ (show (0:Int) <= 9223372036854775808 by decide)]
 simp only [za3,W,and_true]
 omega
theorem Of_ok:SpecOk Try.prog Of_n true (z04 true Of_fs) :=
 z0b z0v (show z1w Try.prog Of_g from z06) (by kernel_rfl) mixedOrders Try.func26 rfl rfl (by kernel_rfl) (n:=1) (by decide +kernel) (I:=Of_IA) (fun _ _=>z07) (A:=Of_A)
  (fun args h r hr=>by
   unfold Of_fs at hr
   split at hr
   ·rename_i n; cases hr; refine ⟨rfl,fun hp=>?_⟩; have hE:=Of_E n hp; exact hE
   ·cases hr)
def Plus_E0 (a : Wide) (b : Wide) : Prop :=
      ((0:Int) <= a.lo/\(0:Int) <= b.lo/\(0:Int) <= (0:Int)/\(0:Int) <= (1:Int)) /\
 ((0:Int) <= IntKind.u64.wrap a.hi /\
 (0:Int) <= IntKind.u64.wrap b.hi /\
 (0:Int) <= (a.lo + b.lo + (0:Int)) / (18446744073709551616:Int)/\(a.lo + b.lo + (0:Int)) / (18446744073709551616:Int) <= (1:Int)) /\
 ((IntKind.i64.wrap ((IntKind.u64.wrap a.hi + IntKind.u64.wrap b.hi + (a.lo + b.lo + (0:Int)) / (18446744073709551616:Int)) % (18446744073709551616:Int)) =
 (z3m a b).hi /\
 (a.lo + b.lo + (0:Int)) % (18446744073709551616:Int) = (z3m a b).lo/\True) /\
 True) /\
 True
theorem Plus_q (a:Wide) (b:Wide):Plus_E0 a b = z3p TT Plus_g (Plus_I a b) (Plus_an a b) Try.f25 [.agg (z0w a),.agg (z0w b)] [] (Plus_r a b):=by kernel_rfl
theorem Plus_E (a:Wide) (b:Wide) (hp:a.ok/\b.ok):FVc TT Plus_g (Plus_I a b) (Plus_an a b) Try.f25 [.agg (z0w a),.agg (z0w b)] [] (Plus_r a b):=by
 refine FVc.of (Plus_E0 a b) (Plus_q a b) ?_
 unfold Plus_E0
 simp only [eq_self,exists_const,forall_const,decide_eq_true_eq,decide_eq_false_iff_not,and_true,true_and,bne_iff_ne,ne_eq,bne_eq_false_iff_eq,Int.toNat_natCast,Bool.not_eq_true',Bool.not_eq_false',beq_iff_eq,beq_eq_false_iff_ne]
 obtain ⟨⟨⟨a1,a2⟩,a3,a4⟩,⟨b1,b2⟩,b3,b4⟩:=hp
 simp only [za3,zek,z3m,W,Wide.v]
 omega
theorem Plus_ok:SpecOk Try.prog Plus_n true (z04 true zkn) :=
 z0b z0v (show z1w Try.prog Plus_g from z02 Add64_ok (z06)) (by kernel_rfl) mixedOrders Try.func25 rfl rfl (by kernel_rfl) (n:=2) (by decide +kernel) (I:=Plus_IA) (fun _ _=>z07) (A:=Plus_A)
  (fun args h r hr=>by
   unfold zkn at hr
   split at hr
   ·rename_i a_0 a_1 b_0 b_1; cases hr; refine ⟨rfl,fun hp=>?_⟩; have hE:=Plus_E ⟨a_0,a_1⟩ ⟨b_0,b_1⟩ hp; exact hE
   ·cases hr)
def Minus_E0 (a : Wide) (b : Wide) : Prop :=
      ((0:Int) <= a.lo/\(0:Int) <= b.lo/\b.lo <= (18446744073709551615:Int)/\(0:Int) <= (0:Int)/\(0:Int) <= (1:Int)) /\
 ((0:Int) <= IntKind.u64.wrap a.hi /\
 (0:Int) <= IntKind.u64.wrap b.hi /\
 IntKind.u64.wrap b.hi <= (18446744073709551615:Int) /\
 ((0:Int) <= if a.lo < b.lo + (0:Int) then (1:Int) else (0:Int))/\(if a.lo < b.lo + (0:Int) then (1:Int) else (0:Int)) <= (1:Int)) /\
 ((IntKind.i64.wrap ((IntKind.u64.wrap a.hi - IntKind.u64.wrap b.hi - if a.lo < b.lo + (0:Int) then (1:Int) else (0:Int)) % (18446744073709551616:Int)) =
 (z5q a b).hi /\
 (a.lo - b.lo - (0:Int)) % (18446744073709551616:Int) = (z5q a b).lo/\True) /\
 True) /\
 True
theorem Minus_q (a:Wide) (b:Wide):Minus_E0 a b = z3p TT Minus_g (Minus_I a b) (Minus_an a b) Try.f46 [.agg (z0w a),.agg (z0w b)] [] (Minus_r a b):=by kernel_rfl
theorem Minus_E (a:Wide) (b:Wide) (hp:a.ok/\b.ok):FVc TT Minus_g (Minus_I a b) (Minus_an a b) Try.f46 [.agg (z0w a),.agg (z0w b)] [] (Minus_r a b):=by
 refine FVc.of (Minus_E0 a b) (Minus_q a b) ?_
 unfold Minus_E0
 simp only [eq_self,exists_const,forall_const,decide_eq_true_eq,decide_eq_false_iff_not,and_true,true_and,bne_iff_ne,ne_eq,bne_eq_false_iff_eq,Int.toNat_natCast,Bool.not_eq_true',Bool.not_eq_false',beq_iff_eq,beq_eq_false_iff_ne]
 obtain ⟨⟨⟨a1,a2⟩,a3,a4⟩,⟨b1,b2⟩,b3,b4⟩:=hp
 simp only [za3,zek,z5q,W,Wide.v]
 split <;> omega
theorem Minus_ok:SpecOk Try.prog Minus_n true (z04 true Minus_fs) :=
 z0b z0v (show z1w Try.prog Minus_g from z02 Sub64_ok (z06)) (by kernel_rfl) mixedOrders Try.func46 rfl rfl (by kernel_rfl) (n:=2) (by decide +kernel) (I:=Minus_IA) (fun _ _=>z07) (A:=Minus_A)
  (fun args h r hr=>by
   unfold Minus_fs at hr
   split at hr
   ·rename_i a_0 a_1 b_0 b_1; cases hr; refine ⟨rfl,fun hp=>?_⟩; have hE:=Minus_E ⟨a_0,a_1⟩ ⟨b_0,b_1⟩ hp; exact hE
   ·cases hr)
def Times_E0 (a : Int) (b : Int) : Prop :=
      I64 a /\
 I64 b /\
 (U64 (if a < (0:Int) then -a else a)/\U64 (if b < (0:Int) then -b else b)) /\
 ((!decide (a < (0:Int)) == decide (b < (0:Int))) = true ->
 ({ hi:=(0:Int),lo:=(0:Int):Wide }.ok /\
 { hi:=IntKind.i64.wrap (((if a < (0:Int) then -a else a) * if b < (0:Int) then -b else b) / (18446744073709551616:Int)),lo:=((if a < (0:Int) then -a else a) * if b < (0:Int) then -b else b) % (18446744073709551616:Int):Wide }.ok) /\
 (((z5q { hi:=(0:Int),lo:=(0:Int):Wide }
 { hi:=IntKind.i64.wrap (((if a < (0:Int) then -a else a) * if b < (0:Int) then -b else b) / (18446744073709551616:Int)),lo:=((if a < (0:Int) then -a else a) * if b < (0:Int) then -b else b) % (18446744073709551616:Int):Wide }).hi =
 (W (a * b)).hi /\
 (z5q { hi:=(0:Int),lo:=(0:Int):Wide }
 { hi:=IntKind.i64.wrap (((if a < (0:Int) then -a else a) * if b < (0:Int) then -b else b) / (18446744073709551616:Int)),lo:=((if a < (0:Int) then -a else a) * if b < (0:Int) then -b else b) % (18446744073709551616:Int):Wide }).lo =
 (W (a * b)).lo /\
 True) /\
 True) /\
 True) /\
 ((!decide (a < (0:Int)) == decide (b < (0:Int))) = false ->
 ((IntKind.i64.wrap (((if a < (0:Int) then -a else a) * if b < (0:Int) then -b else b) / (18446744073709551616:Int)) = (W (a * b)).hi /\
 ((if a < (0:Int) then -a else a) * if b < (0:Int) then -b else b) % (18446744073709551616:Int) = (W (a * b)).lo/\True) /\
 True) /\
 True)
theorem Times_q (a:Int) (b:Int):Times_E0 a b = z3p TT Times_g (Times_I a b) (Times_an a b) Try.f27 [.int .i64 a,.int .i64 b] [] (Times_r a b):=by kernel_rfl
theorem Times_E (a:Int) (b:Int) (hp:I64 a/\I64 b):FVc TT Times_g (Times_I a b) (Times_an a b) Try.f27 [.int .i64 a,.int .i64 b] [] (Times_r a b):=by
 refine FVc.of (Times_E0 a b) (Times_q a b) ?_
 unfold Times_E0
 simp only [eq_self,exists_const,forall_const,decide_eq_true_eq,decide_eq_false_iff_not,and_true,true_and,bne_iff_ne,ne_eq,bne_eq_false_iff_eq,Int.toNat_natCast,Bool.not_eq_true',Bool.not_eq_false',beq_iff_eq,beq_eq_false_iff_ne]
 have h1:=hp.1
 have h2:=hp.2
 unfold I64 at h1 h2
 have ua:U64 (if a < 0 then -a else a):=by unfold U64; split <;> omega
 have ub:U64 (if b < 0 then -b else b):=by unfold U64; split <;> omega
 have hm:(if a < 0 then -a else a) * (if b < 0 then -b else b) = if decide (a < 0) = decide (b < 0) then a * b else -(a * b):=by
  by_cases c1:a < 0 <;> by_cases c2:b < 0 <;> simp [c1,c2,Int.neg_mul,Int.mul_neg]
 have hb:=zmc (a:=a) (b:=b) (A:=9223372036854775808) (B:=9223372036854775808) (by omega) (by omega) (by omega) (by omega) (by omega) (by omega)
 rw [hm]
 refine ⟨hp.1,hp.2,⟨ua,ub⟩,fun h=>?_,fun h=>?_⟩
 ·rw [if_neg h]
  have h0:0 <= -(a * b):=by
   have:=Int.mul_nonneg ua.1 ub.1
   rw [hm,if_neg h] at this; exact this
  generalize a * b = p at *
  have e:(⟨IntKind.i64.wrap (-p / 18446744073709551616),-p % 18446744073709551616⟩:Wide) = W (-p):=by
   unfold W; rw [zek]
  have e0:(⟨0,0⟩:Wide) = W 0:=W_zero.symm
  rw [e,e0,wminus_W]
  refine ⟨⟨zjh _,zjh _⟩,?_⟩
  rw [show (0:Int) - -p = p by omega]
  exact ⟨rfl,rfl⟩
 ·rw [if_pos h,zek]
  exact ⟨rfl,rfl⟩
theorem Times_ok:SpecOk Try.prog Times_n true (z04 true zjf) :=
 z0b z0v (show z1w Try.prog Times_g from z02 size_ok (z02 Mul64_ok (z02 Minus_ok (z06)))) (by kernel_rfl) mixedOrders Try.func27 rfl rfl (by kernel_rfl) (n:=2) (by decide +kernel) (I:=Times_IA) (fun _ _=>z07) (A:=Times_A)
  (fun args h r hr=>by
   unfold zjf at hr
   split at hr
   ·rename_i a b; cases hr; refine ⟨rfl,fun hp=>?_⟩; have hE:=Times_E a b hp; exact hE
   ·cases hr)
def nan1_E0 (n : Int) : Prop :=
   ((n != n) = false/\True)/\True
theorem nan1_q (n:Int):nan1_E0 n = z3p TT nan1_g (nan1_I n) (nan1_an n) Try.f61 [.int .i64 n] [] (nan1_r n):=by kernel_rfl
theorem nan1_E (n:Int) (hp:True):FVc TT nan1_g (nan1_I n) (nan1_an n) Try.f61 [.int .i64 n] [] (nan1_r n):=by
 refine FVc.of (nan1_E0 n) (nan1_q n) ?_
 unfold nan1_E0
 simp
theorem nan1_ok:SpecOk Try.prog nan1_n true (z04 true nan1_fs) :=
 z0b z0v (show z1w Try.prog nan1_g from z06) (by kernel_rfl) mixedOrders Try.func61 rfl rfl (by kernel_rfl) (n:=1) (by decide +kernel) (I:=nan1_IA) (fun _ _=>z07) (A:=nan1_A)
  (fun args h r hr=>by
   unfold nan1_fs at hr
   split at hr
   ·rename_i n; cases hr; refine ⟨rfl,fun hp=>?_⟩; have hE:=nan1_E n hp; exact hE
   ·cases hr)
def nan2_E0 (n : Int) : Prop :=
   ((n != n) = false/\True)/\True
theorem nan2_q (n:Int):nan2_E0 n = z3p TT nan2_g (nan2_I n) (nan2_an n) Try.f62 [.int .u64 n] [] (nan2_r n):=by kernel_rfl
theorem nan2_E (n:Int) (hp:True):FVc TT nan2_g (nan2_I n) (nan2_an n) Try.f62 [.int .u64 n] [] (nan2_r n):=by
 refine FVc.of (nan2_E0 n) (nan2_q n) ?_
 unfold nan2_E0
 simp
theorem nan2_ok:SpecOk Try.prog nan2_n true (z04 true nan2_fs) :=
 z0b z0v (show z1w Try.prog nan2_g from z06) (by kernel_rfl) mixedOrders Try.func62 rfl rfl (by kernel_rfl) (n:=1) (by decide +kernel) (I:=nan2_IA) (fun _ _=>z07) (A:=nan2_A)
  (fun args h r hr=>by
   unfold nan2_fs at hr
   split at hr
   ·rename_i n; cases hr; refine ⟨rfl,fun hp=>?_⟩; have hE:=nan2_E n hp; exact hE
   ·cases hr)
def cmp1_E0 (a : Int) (b : Int) : Prop :=
      True /\
 True /\
 (false = true ->
 (false = true->(((0:Int) = if a < b then (-1:Int) else if b < a then (1:Int) else (0:Int))/\True)/\True) /\
 (false = false->(((-1:Int) = if a < b then (-1:Int) else if b < a then (1:Int) else (0:Int))/\True)/\True)) /\
 (false = false ->
 (false = true->(((1:Int) = if a < b then (-1:Int) else if b < a then (1:Int) else (0:Int))/\True)/\True) /\
 (false = false ->
 (decide (a < b) = true->(((-1:Int) = if a < b then (-1:Int) else if b < a then (1:Int) else (0:Int))/\True)/\True) /\
 (decide (a < b) = false ->
 (decide (a > b) = true->(((1:Int) = if a < b then (-1:Int) else if b < a then (1:Int) else (0:Int))/\True)/\True) /\
 (decide (a > b) = false->(((0:Int) = if a < b then (-1:Int) else if b < a then (1:Int) else (0:Int))/\True)/\True))))
theorem cmp1_q (a:Int) (b:Int):cmp1_E0 a b = z3p TT cmp1_g (cmp1_I a b) (cmp1_an a b) Try.f35 [.int .i64 a,.int .i64 b] [] (cmp1_r a b):=by kernel_rfl
theorem cmp1_E (a:Int) (b:Int) (hp:True):FVc TT cmp1_g (cmp1_I a b) (cmp1_an a b) Try.f35 [.int .i64 a,.int .i64 b] [] (cmp1_r a b):=by
 refine FVc.of (cmp1_E0 a b) (cmp1_q a b) ?_
 unfold cmp1_E0
 simp
 grind
theorem cmp1_ok:SpecOk Try.prog cmp1_n true (z04 true cmp1_fs) :=
 z0b z0v (show z1w Try.prog cmp1_g from z02 nan1_ok (z06)) (by kernel_rfl) mixedOrders Try.func35 rfl rfl (by kernel_rfl) (n:=2) (by decide +kernel) (I:=cmp1_IA) (fun _ _=>z07) (A:=cmp1_A)
  (fun args h r hr=>by
   unfold cmp1_fs at hr
   split at hr
   ·rename_i a b; cases hr; refine ⟨rfl,fun hp=>?_⟩; have hE:=cmp1_E a b hp; exact hE
   ·cases hr)
def cmp2_E0 (a : Int) (b : Int) : Prop :=
      True /\
 True /\
 (false = true ->
 (false = true->(((0:Int) = if a < b then (-1:Int) else if b < a then (1:Int) else (0:Int))/\True)/\True) /\
 (false = false->(((-1:Int) = if a < b then (-1:Int) else if b < a then (1:Int) else (0:Int))/\True)/\True)) /\
 (false = false ->
 (false = true->(((1:Int) = if a < b then (-1:Int) else if b < a then (1:Int) else (0:Int))/\True)/\True) /\
 (false = false ->
 (decide (a < b) = true->(((-1:Int) = if a < b then (-1:Int) else if b < a then (1:Int) else (0:Int))/\True)/\True) /\
 (decide (a < b) = false ->
 (decide (a > b) = true->(((1:Int) = if a < b then (-1:Int) else if b < a then (1:Int) else (0:Int))/\True)/\True) /\
 (decide (a > b) = false->(((0:Int) = if a < b then (-1:Int) else if b < a then (1:Int) else (0:Int))/\True)/\True))))
theorem cmp2_q (a:Int) (b:Int):cmp2_E0 a b = z3p TT cmp2_g (cmp2_I a b) (cmp2_an a b) Try.f36 [.int .u64 a,.int .u64 b] [] (cmp2_r a b):=by kernel_rfl
theorem cmp2_E (a:Int) (b:Int) (hp:True):FVc TT cmp2_g (cmp2_I a b) (cmp2_an a b) Try.f36 [.int .u64 a,.int .u64 b] [] (cmp2_r a b):=by
 refine FVc.of (cmp2_E0 a b) (cmp2_q a b) ?_
 unfold cmp2_E0
 simp
 grind
theorem cmp2_ok:SpecOk Try.prog cmp2_n true (z04 true cmp2_fs) :=
 z0b z0v (show z1w Try.prog cmp2_g from z02 nan2_ok (z06)) (by kernel_rfl) mixedOrders Try.func36 rfl rfl (by kernel_rfl) (n:=2) (by decide +kernel) (I:=cmp2_IA) (fun _ _=>z07) (A:=cmp2_A)
  (fun args h r hr=>by
   unfold cmp2_fs at hr
   split at hr
   ·rename_i a b; cases hr; refine ⟨rfl,fun hp=>?_⟩; have hE:=cmp2_E a b hp; exact hE
   ·cases hr)
def zgm (a : Wide) (b : Wide) : Prop :=
      ((a.hi != b.hi) = true->True/\((if a.hi < b.hi then (-1:Int) else if b.hi < a.hi then (1:Int) else (0:Int)) = zje a b/\True)/\True) /\
 ((a.hi != b.hi) = false->True/\((if a.lo < b.lo then (-1:Int) else if b.lo < a.lo then (1:Int) else (0:Int)) = zje a b/\True)/\True)
theorem Compare_q (a:Wide) (b:Wide):zgm a b = z3p TT zkb (Compare_I a b) (Compare_an a b) Try.f18 [.agg (z0w a),.agg (z0w b)] [] (zkc a b):=by kernel_rfl
theorem Compare_E (a:Wide) (b:Wide) (hp:a.ok/\b.ok):FVc TT zkb (Compare_I a b) (Compare_an a b) Try.f18 [.agg (z0w a),.agg (z0w b)] [] (zkc a b):=by
 refine FVc.of (zgm a b) (Compare_q a b) ?_
 unfold zgm
 simp only [eq_self,exists_const,forall_const,decide_eq_true_eq,decide_eq_false_iff_not,and_true,true_and,bne_iff_ne,ne_eq,bne_eq_false_iff_eq,Int.toNat_natCast,Bool.not_eq_true',Bool.not_eq_false',beq_iff_eq,beq_eq_false_iff_ne]
 obtain ⟨⟨⟨a1,a2⟩,a3,a4⟩,⟨b1,b2⟩,b3,b4⟩:=hp
 unfold zje Wide.v
 refine ⟨fun h=>?_,fun h=>?_⟩ <;> (repeat' split) <;> omega
theorem Compare_ok:SpecOk Try.prog Compare_n true (z04 true zgn) :=
 z0b z0v (show z1w Try.prog zkb from z02 cmp1_ok (z02 cmp2_ok (z06))) (by kernel_rfl) mixedOrders Try.func18 rfl rfl (by kernel_rfl) (n:=2) (by decide +kernel) (I:=Compare_IA) (fun _ _=>z07) (A:=Compare_A)
  (fun args h r hr=>by
   unfold zgn at hr
   split at hr
   ·rename_i a_0 a_1 b_0 b_1; cases hr; refine ⟨rfl,fun hp=>?_⟩; have hE:=Compare_E ⟨a_0,a_1⟩ ⟨b_0,b_1⟩ hp; exact hE
   ·cases hr)
def Back_E0 (a : Wide) : Prop :=
      I64 (IntKind.i64.wrap a.lo) /\
 ((!decide ([(W (IntKind.i64.wrap a.lo)).hi,(W (IntKind.i64.wrap a.lo)).lo] = [a.hi,a.lo])) = true ->
 ((((0:Int) = if I64 a.v then a.v else (0:Int))/\false = decide (I64 a.v)/\True)/\True)/\True) /\
 ((!decide ([(W (IntKind.i64.wrap a.lo)).hi,(W (IntKind.i64.wrap a.lo)).lo] = [a.hi,a.lo])) = false ->
 (((IntKind.i64.wrap a.lo = if I64 a.v then a.v else (0:Int))/\true = decide (I64 a.v)/\True)/\True)/\True)
theorem Back_q (a:Wide):Back_E0 a = z3p TT Back_g (Back_I a) (Back_an a) Try.f21 [.agg (z0w a)] [] (Back_r a):=by kernel_rfl
theorem Back_E (a:Wide) (hp:a.ok):FVc TT Back_g (Back_I a) (Back_an a) Try.f21 [.agg (z0w a)] [] (Back_r a):=by
 refine FVc.of (Back_E0 a) (Back_q a) ?_
 unfold Back_E0
 simp only [eq_self,exists_const,forall_const,decide_eq_true_eq,decide_eq_false_iff_not,and_true,true_and,bne_iff_ne,ne_eq,bne_eq_false_iff_eq,Int.toNat_natCast,Bool.not_eq_true',Bool.not_eq_false',beq_iff_eq,beq_eq_false_iff_ne]
 have hi:=v_I128 hp
 obtain ⟨⟨a1,a2⟩,a3,a4⟩:=hp
 obtain ⟨ah,al⟩:=a
 dsimp only at a1 a2 a3 a4
 simp only [zek,W,Wide.v,List.cons.injEq,and_true]
 have hd:I64 (ah * 18446744073709551616 + al) ↔ ((((al + 9223372036854775808) % 18446744073709551616 - 9223372036854775808) / 18446744073709551616 + 9223372036854775808) % 18446744073709551616 - 9223372036854775808 = ah/\((al + 9223372036854775808) % 18446744073709551616 - 9223372036854775808) % 18446744073709551616 = al):=by
  unfold I64; omega
 refine ⟨by unfold I64; omega,fun h=>?_,fun h=>?_⟩
 ·have:=mt hd.1 h
  simp [this]
 ·have h2:=hd.2 h
  simp only [h2,decide_true,and_true,if_true]
  unfold I64 at h2
  omega
theorem Back_ok:SpecOk Try.prog Back_n true (z04 true Back_fs) :=
 z0b z0v (show z1w Try.prog Back_g from z02 Of_ok (z06)) (by kernel_rfl) mixedOrders Try.func21 rfl rfl (by kernel_rfl) (n:=1) (by decide +kernel) (I:=Back_IA) (fun _ _=>z07) (A:=Back_A)
  (fun args h r hr=>by
   unfold Back_fs at hr
   split at hr
   ·rename_i a_0 a_1; cases hr; refine ⟨rfl,fun hp=>?_⟩; have hE:=Back_E ⟨a_0,a_1⟩ hp; exact hE
   ·cases hr)
def rOf_E0 (n : Int) : Prop :=
      (decide (n < (0:Int)) = true->(((-1:Int) = (W n).hi/\IntKind.u64.wrap n = (W n).lo/\True)/\True)/\True) /\
 (decide (n < (0:Int)) = false->(((0:Int) = (W n).hi/\IntKind.u64.wrap n = (W n).lo/\True)/\True)/\True)
theorem rOf_q (n:Int):rOf_E0 n = z3p TT rOf_g (rOf_I n) (rOf_an n) Try.f114 [.int .i64 n] [] (rOf_r n):=by kernel_rfl
theorem rOf_E (n:Int) (hp:I64 n):FVc TT rOf_g (rOf_I n) (rOf_an n) Try.f114 [.int .i64 n] [] (rOf_r n):=by
 refine FVc.of (rOf_E0 n) (rOf_q n) ?_
 unfold rOf_E0
 simp only [eq_self,exists_const,forall_const,decide_eq_true_eq,decide_eq_false_iff_not,and_true,true_and,bne_iff_ne,ne_eq,bne_eq_false_iff_eq,Int.toNat_natCast,Bool.not_eq_true',Bool.not_eq_false',beq_iff_eq,beq_eq_false_iff_ne]
 unfold I64 at hp
 simp only [za3,W,and_true]
 omega
theorem rOf_ok:SpecOk Try.prog rOf_n true (z04 true rOf_fs) :=
 z0b z0v (show z1w Try.prog rOf_g from z06) (by kernel_rfl) mixedOrders Try.func114 rfl rfl (by kernel_rfl) (n:=1) (by decide +kernel) (I:=rOf_IA) (fun _ _=>z07) (A:=rOf_A)
  (fun args h r hr=>by
   unfold rOf_fs at hr
   split at hr
   ·rename_i n; cases hr; refine ⟨rfl,fun hp=>?_⟩; have hE:=rOf_E n hp; exact hE
   ·cases hr)
def rPlus_E0 (a : Wide) (b : Wide) : Prop :=
      (decide (IntKind.u64.wrap (a.lo + b.lo) < a.lo) = true ->
 ((IntKind.i64.wrap (IntKind.i64.wrap (a.hi + b.hi) + (1:Int)) = (z3m a b).hi/\IntKind.u64.wrap (a.lo + b.lo) = (z3m a b).lo/\True)/\True)/\True) /\
 (decide (IntKind.u64.wrap (a.lo + b.lo) < a.lo) = false ->
 ((IntKind.i64.wrap (a.hi + b.hi) = (z3m a b).hi/\IntKind.u64.wrap (a.lo + b.lo) = (z3m a b).lo/\True)/\True)/\True)
theorem rPlus_q (a:Wide) (b:Wide):rPlus_E0 a b = z3p TT rPlus_g (rPlus_I a b) (rPlus_an a b) Try.f137 [.agg (z0w a),.agg (z0w b)] [] (rPlus_r a b):=by kernel_rfl
theorem rPlus_E (a:Wide) (b:Wide) (hp:a.ok/\b.ok):FVc TT rPlus_g (rPlus_I a b) (rPlus_an a b) Try.f137 [.agg (z0w a),.agg (z0w b)] [] (rPlus_r a b):=by
 refine FVc.of (rPlus_E0 a b) (rPlus_q a b) ?_
 unfold rPlus_E0
 simp only [eq_self,exists_const,forall_const,decide_eq_true_eq,decide_eq_false_iff_not,and_true,true_and,bne_iff_ne,ne_eq,bne_eq_false_iff_eq,Int.toNat_natCast,Bool.not_eq_true',Bool.not_eq_false',beq_iff_eq,beq_eq_false_iff_ne]
 obtain ⟨⟨⟨a1,a2⟩,a3,a4⟩,⟨b1,b2⟩,b3,b4⟩:=hp
 simp only [za3,zek,z3m,W,Wide.v]
 omega
theorem zjx:SpecOk Try.prog zna true (z04 true zcg) :=
 z0b z0v (show z1w Try.prog rPlus_g from z06) (by kernel_rfl) mixedOrders Try.func137 rfl rfl (by kernel_rfl) (n:=2) (by decide +kernel) (I:=rPlus_IA) (fun _ _=>z07) (A:=rPlus_A)
  (fun args h r hr=>by
   unfold zcg at hr
   split at hr
   ·rename_i a_0 a_1 b_0 b_1; cases hr; refine ⟨rfl,fun hp=>?_⟩; have hE:=rPlus_E ⟨a_0,a_1⟩ ⟨b_0,b_1⟩ hp; exact hE
   ·cases hr)
def rLess_E0 (a : Wide) : Prop :=
      ({ hi:=notS IntKind.i64 a.hi,lo:=notS IntKind.u64 a.lo:Wide }.ok/\{ hi:=(0:Int),lo:=(1:Int):Wide }.ok) /\
 (((z3m { hi:=notS IntKind.i64 a.hi,lo:=notS IntKind.u64 a.lo:Wide } { hi:=(0:Int),lo:=(1:Int):Wide }).hi = (W (-a.v)).hi /\
 (z3m { hi:=notS IntKind.i64 a.hi,lo:=notS IntKind.u64 a.lo:Wide } { hi:=(0:Int),lo:=(1:Int):Wide }).lo = (W (-a.v)).lo/\True) /\
 True) /\
 True
theorem rLess_q (a:Wide):rLess_E0 a = z3p TT rLess_g (rLess_I a) (rLess_an a) Try.f145 [.agg (z0w a)] [] (rLess_r a):=by kernel_rfl
theorem rLess_E (a:Wide) (hp:a.ok):FVc TT rLess_g (rLess_I a) (rLess_an a) Try.f145 [.agg (z0w a)] [] (rLess_r a):=by
 refine FVc.of (rLess_E0 a) (rLess_q a) ?_
 unfold rLess_E0
 simp only [eq_self,exists_const,forall_const,decide_eq_true_eq,decide_eq_false_iff_not,and_true,true_and,bne_iff_ne,ne_eq,bne_eq_false_iff_eq,Int.toNat_natCast,Bool.not_eq_true',Bool.not_eq_false',beq_iff_eq,beq_eq_false_iff_ne]
 have h1:=not_i64 hp.1
 have h2:=not_u64 hp.2
 obtain ⟨⟨a1,a2⟩,a3,a4⟩:=hp
 simp only [h1,h2]
 simp only [z3m,W,Wide.v,Wide.ok,I64,U64]
 omega
theorem rLess_ok:SpecOk Try.prog rLess_n true (z04 true rLess_fs) :=
 z0b z0v (show z1w Try.prog rLess_g from z02 zjx (z06)) (by kernel_rfl) mixedOrders Try.func145 rfl rfl (by kernel_rfl) (n:=1) (by decide +kernel) (I:=rLess_IA) (fun _ _=>z07) (A:=rLess_A)
  (fun args h r hr=>by
   unfold rLess_fs at hr
   split at hr
   ·rename_i a_0 a_1; cases hr; refine ⟨rfl,fun hp=>?_⟩; have hE:=rLess_E ⟨a_0,a_1⟩ hp; exact hE
   ·cases hr)
def zn7 (a : Wide) (b : Wide) : Prop :=
   b.ok/\(a.ok/\(W (-b.v)).ok)/\(((z3m a (W (-b.v))).hi = (z5q a b).hi/\(z3m a (W (-b.v))).lo = (z5q a b).lo/\True)/\True)/\True
theorem rMinus_q (a:Wide) (b:Wide):zn7 a b = z3p TT rMinus_g (rMinus_I a b) (rMinus_an a b) Try.f135 [.agg (z0w a),.agg (z0w b)] [] (rMinus_r a b):=by kernel_rfl
theorem rMinus_E (a:Wide) (b:Wide) (hp:a.ok/\b.ok):FVc TT rMinus_g (rMinus_I a b) (rMinus_an a b) Try.f135 [.agg (z0w a),.agg (z0w b)] [] (rMinus_r a b):=by
 refine FVc.of (zn7 a b) (rMinus_q a b) ?_
 unfold zn7
 simp only [eq_self,exists_const,forall_const,decide_eq_true_eq,decide_eq_false_iff_not,and_true,true_and,bne_iff_ne,ne_eq,bne_eq_false_iff_eq,Int.toNat_natCast,Bool.not_eq_true',Bool.not_eq_false',beq_iff_eq,beq_eq_false_iff_ne]
 have e:z3m a (W (-b.v)) = z5q a b:=by
  conv=>lhs; rw [<- W_v hp.1]
  rw [zih]
  unfold z5q
  congr 1
 rw [e]
 exact ⟨hp.2,⟨hp.1,zjh _⟩,rfl,rfl⟩
theorem rMinus_ok:SpecOk Try.prog rMinus_n true (z04 true zff) :=
 z0b z0v (show z1w Try.prog rMinus_g from z02 zjx (z02 rLess_ok (z06))) (by kernel_rfl) mixedOrders Try.func135 rfl rfl (by kernel_rfl) (n:=2) (by decide +kernel) (I:=rMinus_IA) (fun _ _=>z07) (A:=rMinus_A)
  (fun args h r hr=>by
   unfold zff at hr
   split at hr
   ·rename_i a_0 a_1 b_0 b_1; cases hr; refine ⟨rfl,fun hp=>?_⟩; have hE:=rMinus_E ⟨a_0,a_1⟩ ⟨b_0,b_1⟩ hp; exact hE
   ·cases hr)
def zdx (a : Wide) (b : Wide) : Prop :=
      ((a.hi != b.hi) = true->(decide (a.hi < b.hi) = true->((-1:Int) = zje a b/\True)/\True)/\(decide (a.hi < b.hi) = false->((1:Int) = zje a b/\True)/\True)) /\
 ((a.hi != b.hi) = false ->
 ((a.lo != b.lo) = true->(decide (a.lo < b.lo) = true->((-1:Int) = zje a b/\True)/\True)/\(decide (a.lo < b.lo) = false->((1:Int) = zje a b/\True)/\True)) /\
 ((a.lo != b.lo) = false->((0:Int) = zje a b/\True)/\True))
theorem rCompare_q (a:Wide) (b:Wide):zdx a b = z3p TT zhn (rCompare_I a b) (zn6 a b) Try.f108 [.agg (z0w a),.agg (z0w b)] [] (zho a b):=by kernel_rfl
theorem rCompare_E (a:Wide) (b:Wide) (hp:a.ok/\b.ok):FVc TT zhn (rCompare_I a b) (zn6 a b) Try.f108 [.agg (z0w a),.agg (z0w b)] [] (zho a b):=by
 refine FVc.of (zdx a b) (rCompare_q a b) ?_
 unfold zdx
 simp only [eq_self,exists_const,forall_const,decide_eq_true_eq,decide_eq_false_iff_not,and_true,true_and,bne_iff_ne,ne_eq,bne_eq_false_iff_eq,Int.toNat_natCast,Bool.not_eq_true',Bool.not_eq_false',beq_iff_eq,beq_eq_false_iff_ne]
 obtain ⟨⟨⟨a1,a2⟩,a3,a4⟩,⟨b1,b2⟩,b3,b4⟩:=hp
 unfold zje Wide.v
 refine ⟨fun h=>⟨fun h2=>?_,fun h2=>?_⟩,fun h=>⟨fun h2=>⟨fun h3=>?_,fun h3=>?_⟩,fun h2=>?_⟩⟩ <;> (repeat' split) <;> omega
theorem rCompare_ok:SpecOk Try.prog rCompare_n true (z04 true zdy) :=
 z0b z0v (show z1w Try.prog zhn from z06) (by kernel_rfl) mixedOrders Try.func108 rfl rfl (by kernel_rfl) (n:=2) (by decide +kernel) (I:=rCompare_IA) (fun _ _=>z07) (A:=rCompare_A)
  (fun args h r hr=>by
   unfold zdy at hr
   split at hr
   ·rename_i a_0 a_1 b_0 b_1; cases hr; refine ⟨rfl,fun hp=>?_⟩; have hE:=rCompare_E ⟨a_0,a_1⟩ ⟨b_0,b_1⟩ hp; exact hE
   ·cases hr)
end Go.Proofs.Ytggblkbecekbdaa
end
section
namespace Go.Proofs.Ytggblkbecekbdaa
open Go Go.RowKit Go.Ql Go.Vc
def rfit_r (I:Inst) (a:Int):FRes:={ pre:=True,res:=.bool (gOk I.sup.length I.arcs a),rows:=[],eff:=[] }
def rfit_fs:FS:=fun args h=>match args,h with
 | [.agg [.row 0,.row 1],.int .i64 a],[(0,.row false ty0 (.ints .i64 I_s)),(1,.row false ty1 (.arcs I_a))]=>some (rfit_r ⟨I_s,I_a⟩ a)
 | _,_=>none
def rfit_an (I:Inst) (a:Int):List (Nat × Ann):=[]
def rfit_A:List SV->z0f->List (Nat × Ann):=fun _ _=>[]
def rfit_g:z0d:=[]
abbrev rfit_n:Nat:=144
def rfit_I (I:Inst) (a:Int):List (Nat × z0a):=[]
def rfit_IA:List SV->z0f->List (Nat × z0a):=fun _ _=>[]
end Go.Proofs.Ytggblkbecekbdaa
end
section
namespace Go.Proofs.Ytggblkbecekbdaa
open Go Go.RowKit Go.Ql Go.Vc
def rfit_E0 (I : Inst) (a : Int) (ty0 ty1 : TypeId) : Prop :=
      (decide (a < (0:Int)) = true->(false = gOk (↑I.sup.length:Int) I.arcs a/\True)/\True) /\
 (decide (a < (0:Int)) = false ->
 (decide (a ≥ (↑I.arcs.length:Int)) = true->(false = gOk (↑I.sup.length:Int) I.arcs a/\True)/\True) /\
 (decide (a ≥ (↑I.arcs.length:Int)) = false ->
 ((0:Int) <= a/\a < (↑I.arcs.length:Int)) /\
 a.toNat < I.arcs.length /\
 ∀ (x:Arc),
 I.arcs[a.toNat]? = some x ->
 (decide (x.src ≥ (0:Int)) = true ->
 (decide (x.src < (↑I.sup.length:Int)) = true ->
 (decide (x.dst ≥ (0:Int)) = true->(decide (x.dst < (↑I.sup.length:Int)) = gOk (↑I.sup.length:Int) I.arcs a/\True)/\True) /\
 (decide (x.dst ≥ (0:Int)) = false->(false = gOk (↑I.sup.length:Int) I.arcs a/\True)/\True)) /\
 (decide (x.src < (↑I.sup.length:Int)) = false->(false = gOk (↑I.sup.length:Int) I.arcs a/\True)/\True)) /\
 (decide (x.src ≥ (0:Int)) = false->(false = gOk (↑I.sup.length:Int) I.arcs a/\True)/\True)))
theorem rfit_q (I:Inst) (a:Int) (ty0 ty1:TypeId):rfit_E0 I a ty0 ty1 = z3p TT rfit_g (rfit_I I a) (rfit_an I a) Try.f144 [.agg [.row 0,.row 1],.int .i64 a] [(0,.row false ty0 (.ints .i64 I.sup)),(1,.row false ty1 (.arcs I.arcs))] (rfit_r I a):=by kernel_rfl
theorem rfit_E (I:Inst) (a:Int) (ty0 ty1:TypeId) (hp:True):FVc TT rfit_g (rfit_I I a) (rfit_an I a) Try.f144 [.agg [.row 0,.row 1],.int .i64 a] [(0,.row false ty0 (.ints .i64 I.sup)),(1,.row false ty1 (.arcs I.arcs))] (rfit_r I a):=by
 refine FVc.of (rfit_E0 I a ty0 ty1) (rfit_q I a ty0 ty1) ?_
 unfold rfit_E0
 simp only [eq_self,exists_const,forall_const,decide_eq_true_eq,decide_eq_false_iff_not,and_true,true_and,bne_iff_ne,ne_eq,bne_eq_false_iff_eq,Int.toNat_natCast,Bool.not_eq_true',Bool.not_eq_false',beq_iff_eq,beq_eq_false_iff_ne,z09]
 refine ⟨fun h=>(zlx (.inl h)).symm,fun h=>⟨fun h2=>(zlx (.inr h2)).symm,fun h2=>⟨by omega,by omega,fun x hx=>?_⟩⟩⟩
 rw [zlw (by omega) hx]
 unfold z2l
 refine ⟨fun h3=>⟨fun h4=>⟨fun h5=>?_,fun h5=>?_⟩,fun h4=>?_⟩,fun h3=>?_⟩
 ·simp [show 0 <= x.src from h3,h4,show 0 <= x.dst from h5]
 ·simp; omega
 ·simp; omega
 ·simp; omega
theorem rfit_ok:SpecOk Try.prog rfit_n true (z04 true rfit_fs) :=
 z0b z0v (show z1w Try.prog rfit_g from z06) (by kernel_rfl) mixedOrders Try.func144 rfl rfl (by kernel_rfl) (n:=2) (by decide +kernel) (I:=rfit_IA) (fun _ _=>z07) (A:=rfit_A)
  (fun args h r hr=>by
   unfold rfit_fs at hr
   split at hr
   ·rename_i a ty0 I_s ty1 I_a; cases hr; refine ⟨rfl,fun hp=>?_⟩; have hE:=rfit_E ⟨I_s,I_a⟩ a ty0 ty1 hp; exact hE
   ·cases hr)
end Go.Proofs.Ytggblkbecekbdaa
end
section
namespace Go.Proofs.Ytggblkbecekbdaa
open Go Go.RowKit Go.Ql Go.Vc
def has_r (g_n:Int) (g_l:List Arc) (g_i:List Int) (g_s:List Int) (a:Int):FRes:={ pre:=True,res:=.bool (decide (0 <= a) && decide (a < g_n)),rows:=[],eff:=[] }
def has_fs:FS:=fun args h=>match args,h with
 | [.ptr 0 0 0 0,.int .i64 a],[(0,.box false ty0 [.int .i64 g_n,.row 1,.row 2,.row 3]),(1,.row false ty1 (.arcs g_l)),(2,.row false ty2 (.ints .i64 g_i)),(3,.row false ty3 (.ints .i64 g_s))]=>some (has_r g_n g_l g_i g_s a)
 | _,_=>none
def has_an (g_n:Int) (g_l:List Arc) (g_i:List Int) (g_s:List Int) (a:Int):List (Nat × Ann):=[]
def has_A:List SV->z0f->List (Nat × Ann):=fun _ _=>[]
def has_g:z0d:=[]
abbrev has_n:Nat:=105
def has_I (g_n:Int) (g_l:List Arc) (g_i:List Int) (g_s:List Int) (a:Int):List (Nat × z0a):=[]
def has_IA:List SV->z0f->List (Nat × z0a):=fun _ _=>[]
def GArc_r (g_n:Int) (g_l:List Arc) (g_i:List Int) (g_s:List Int) (a:Int):FRes:={ pre:=True,res:=.tup [.agg (z8m (z2v g_n g_l a)),.bool (gOk g_n g_l a)],rows:=[],eff:=[] }
def GArc_fs:FS:=fun args h=>match args,h with
 | [.ptr 0 0 0 0,.int .i64 a],[(0,.box false ty0 [.int .i64 g_n,.row 1,.row 2,.row 3]),(1,.row false ty1 (.arcs g_l)),(2,.row false ty2 (.ints .i64 g_i)),(3,.row false ty3 (.ints .i64 g_s))]=>some (GArc_r g_n g_l g_i g_s a)
 | _,_=>none
def GArc_an (g_n:Int) (g_l:List Arc) (g_i:List Int) (g_s:List Int) (a:Int):List (Nat × Ann):=[]
def GArc_A:List SV->z0f->List (Nat × Ann):=fun _ _=>[]
def GArc_g:z0d:=[(has_n,(true,z04 true has_fs))]
abbrev GArc_n:Nat:=65
def GArc_I (g_n:Int) (g_l:List Arc) (g_i:List Int) (g_s:List Int) (a:Int):List (Nat × z0a):=[]
def GArc_IA:List SV->z0f->List (Nat × z0a):=fun _ _=>[]
def CloneI_r (l:List Int):FRes:={ pre:=l.length <= 1000000000,res:=.row 1,rows:=[.row 3 (.ints .i64 (l))],eff:=[] }
def zk9:FS:=fun args h=>match args,h with
 | [.row 0],[(0,.row false ty0 (.ints .i64 l))]=>some (CloneI_r l)
 | _,_=>none
def CloneI_an (l:List Int):List (Nat × Ann):=[]
def CloneI_A:List SV->z0f->List (Nat × Ann):=fun _ _=>[]
def CloneI_g:z0d:=[]
abbrev CloneI_n:Nat:=66
def CloneI_I (l:List Int):List (Nat × z0a):=[]
def CloneI_IA:List SV->z0f->List (Nat × z0a):=fun _ _=>[]
abbrev put_n:Nat:=67
def put_g:z0d:=[]
def put_spec:Vc.Spec:=zb0 TT put_g (fun _ _ _=>[]) Try.f67
def New_r (I:Inst):FRes:={ pre:=I.sup.length <= 10000/\I.arcs.length <= 10000,res:=.ptr 2 0 0 0,rows:=[.box 117 [.int .i64 I.sup.length,.row 3,.row 4,.row 5],.row 50 (.arcs I.arcs),.row 3 (.ints .i64 (z4p I)),.row 3 (.ints .i64 (z1i I))],eff:=[] }
def New_fs:FS:=fun args h=>match args,h with
 | [.agg [.row 0,.row 1]],[(0,.row false ty0 (.ints .i64 I_s)),(1,.row false ty1 (.arcs I_a))]=>some (New_r ⟨I_s,I_a⟩)
 | _,_=>none
def New_an (I:Inst):List (Nat × Ann):=[(1000002,{ G:=Unit,inv:=fun _=>⟨[(3,.ptr 9 0 0 0)],[(9,.box true 85 [.ptr 8 0 0 0]),(8,.box true 117 [.int .i64 (↑I.sup.length:Int),.row 4,.row 6,.row 7]),(6,.row true 3 (.ints .i64 [])),(7,.row true 3 (.ints .i64 [])),(4,.row true 50 (.arcs I.arcs))],10⟩,rel:=fun _ _=>True,meas:=fun _=>0 }),
 (4,{ G:=(Nat),inv:=fun k=>⟨[(3,.ptr 9 0 0 0),(35,.int .i64 (↑I.arcs.length:Int)),(36,.int .i64 k)],[(10,.row true 3 (.ints .i64 (S1 I k))),(9,.box true 85 [.ptr 8 0 0 0]),(8,.box true 117 [.int .i64 (↑I.sup.length:Int),.row 4,.row 6,.row 10]),(6,.row true 3 (.ints .i64 [])),(4,.row true 50 (.arcs I.arcs))],11⟩,rel:=fun k0 k=>k <= I.arcs.length,meas:=fun k=>I.arcs.length - k }),
 (12,{ G:=(Nat),inv:=fun k=>⟨[(3,.ptr 9 0 0 0),(77,.int .i64 (2 * I.sup.length:Nat)),(78,.int .i64 k)],[(10,.row true 3 (.ints .i64 (S2 I k))),(9,.box true 85 [.ptr 8 0 0 0]),(8,.box true 117 [.int .i64 (↑I.sup.length:Int),.row 4,.row 6,.row 10]),(6,.row true 3 (.ints .i64 [])),(4,.row true 50 (.arcs I.arcs))],11⟩,rel:=fun k0 k=>k <= 2 * I.sup.length,meas:=fun k=>2 * I.sup.length - k }),
 (20,{ G:=(Nat),inv:=fun k=>⟨[(3,.ptr 9 0 0 0),(9,.fn 67 [.ptr 9 0 0 0,.ptr 14 0 0 0]),(124,.int .i64 (↑I.arcs.length:Int)),(125,.int .i64 k)],[(14,.box true 25 [.row 12]),(12,.row true 3 (.ints .i64 (N3 I k))),(11,.row true 3 (.ints .i64 (L3 I k))),(10,.row true 3 (.ints .i64 (z1i I))),(9,.box true 85 [.ptr 8 0 0 0]),(8,.box true 117 [.int .i64 (↑I.sup.length:Int),.row 4,.row 11,.row 10]),(4,.row true 50 (.arcs I.arcs))],15⟩,rel:=fun k0 k=>k <= I.arcs.length,meas:=fun k=>I.arcs.length - k })]
def New_A:List SV->z0f->List (Nat × Ann):=fun args h=>match args,h with
 | [.agg [.row 0,.row 1]],[(0,.row false ty0 (.ints .i64 I_s)),(1,.row false ty1 (.arcs I_a))]=>New_an ⟨I_s,I_a⟩
 | _,_=>[]
def New_g:z0d:=[(Copy_n,(true,z04 true Copy_fs)),(GArc_n,(true,z04 true GArc_fs)),(CloneI_n,(true,z04 true zk9)),(put_n,(false,put_spec))]
abbrev New_n:Nat:=39
def New_I (I:Inst):List (Nat × z0a):=[]
def New_IA:List SV->z0f->List (Nat × z0a):=fun _ _=>[]
def along_r (x:List Int) (a:Int):FRes:={ pre:=0 <= a,res:=.int .i64 (x.getD a.toNat 0),rows:=[],eff:=[] }
def along_fs:FS:=fun args h=>match args,h with
 | [.row 0,.int .i64 a],[(0,.row false ty0 (.ints .i64 x))]=>some (along_r x a)
 | _,_=>none
def along_an (x:List Int) (a:Int):List (Nat × Ann):=[]
def along_A:List SV->z0f->List (Nat × Ann):=fun _ _=>[]
def along_g:z0d:=[]
abbrev along_n:Nat:=41
def along_I (x:List Int) (a:Int):List (Nat × z0a):=[]
def along_IA:List SV->z0f->List (Nat × z0a):=fun _ _=>[]
def Cost_r (I:Inst) (x:List Int):FRes:={ pre:=A64 x/\A64c I.arcs/\I.arcs.length <= 1000000,res:=.agg (z0w (W (z3v I x))),rows:=[],eff:=[] }
def Cost_fs:FS:=fun args h=>match args,h with
 | [.agg [.row 0,.row 1],.row 2],[(0,.row false ty0 (.ints .i64 I_s)),(1,.row false ty1 (.arcs I_a)),(2,.row false ty2 (.ints .i64 x))]=>some (Cost_r ⟨I_s,I_a⟩ x)
 | _,_=>none
def Cost_an (I:Inst) (x:List Int):List (Nat × Ann):=[(3,{ G:=(Nat),inv:=fun k=>⟨[(1,.row 2),(4,.ptr 4 0 0 0),(5,.ptr 5 0 0 0),(9,.row 1),(10,.int .i64 (↑I.arcs.length:Int)),(11,.int .i64 k)],[(5,.box true 41 (z0w (W (z1n I.arcs x k)))),(4,.box true 41 [.int .i64 (0:Int),.int .u64 (0:Int)]),(1,.row false 0 (.arcs I.arcs)),(2,.row false 0 (.ints .i64 x))],6⟩,rel:=fun k0 k=>k <= I.arcs.length,meas:=fun k=>I.arcs.length - k })]
def Cost_A:List SV->z0f->List (Nat × Ann):=fun args h=>match args,h with
 | [.agg [.row 0,.row 1],.row 2],[(0,.row false ty0 (.ints .i64 I_s)),(1,.row false ty1 (.arcs I_a)),(2,.row false ty2 (.ints .i64 x))]=>Cost_an ⟨I_s,I_a⟩ x
 | _,_=>[]
def Cost_g:z0d:=[(along_n,(true,z04 true along_fs)),(Times_n,(true,z04 true zjf)),(Plus_n,(true,z04 true zkn))]
abbrev Cost_n:Nat:=34
def Cost_I (I:Inst) (x:List Int):List (Nat × z0a):=[]
def Cost_IA:List SV->z0f->List (Nat × z0a):=fun _ _=>[]
def rArc_r (I:Inst) (a:Int):FRes:={ pre:=True,res:=.tup [.agg (z8m (z2v I.sup.length I.arcs a)),.bool (gOk I.sup.length I.arcs a)],rows:=[],eff:=[] }
def rArc_fs:FS:=fun args h=>match args,h with
 | [.agg [.row 0,.row 1],.int .i64 a],[(0,.row false ty0 (.ints .i64 I_s)),(1,.row false ty1 (.arcs I_a))]=>some (rArc_r ⟨I_s,I_a⟩ a)
 | _,_=>none
def rArc_an (I:Inst) (a:Int):List (Nat × Ann):=[]
def rArc_A:List SV->z0f->List (Nat × Ann):=fun _ _=>[]
def rArc_g:z0d:=[(rfit_n,(true,z04 true rfit_fs))]
abbrev rArc_n:Nat:=134
def rArc_I (I:Inst) (a:Int):List (Nat × z0a):=[]
def rArc_IA:List SV->z0f->List (Nat × z0a):=fun _ _=>[]
def At_r (x:List Int) (a:Int):FRes:={ pre:=True,res:=.int .i64 (if 0 <= a then x.getD a.toNat 0 else 0),rows:=[],eff:=[] }
def At_fs:FS:=fun args h=>match args,h with
 | [.row 0,.int .i64 a],[(0,.row false ty0 (.ints .i64 x))]=>some (At_r x a)
 | _,_=>none
def At_an (x:List Int) (a:Int):List (Nat × Ann):=[]
def At_A:List SV->z0f->List (Nat × Ann):=fun _ _=>[]
def At_g:z0d:=[]
abbrev At_n:Nat:=136
def At_I (x:List Int) (a:Int):List (Nat × z0a):=[]
def At_IA:List SV->z0f->List (Nat × z0a):=fun _ _=>[]
def rNet_r (I:Inst) (x:List Int):FRes:={ pre:=A64 x/\I.sup.length <= 10000/\I.arcs.length <= 10000,res:=.row 3,rows:=[.row 41 (.wides (zaa I x))],eff:=[] }
def rNet_fs:FS:=fun args h=>match args,h with
 | [.agg [.row 0,.row 1],.row 2],[(0,.row false ty0 (.ints .i64 I_s)),(1,.row false ty1 (.arcs I_a)),(2,.row false ty2 (.ints .i64 x))]=>some (rNet_r ⟨I_s,I_a⟩ x)
 | _,_=>none
def rNet_an (I:Inst) (x:List Int):List (Nat × Ann):=[(3,{ G:=(Nat),inv:=fun v=>⟨[(1,.row 2),(2,.ptr 3 0 0 0),(5,.row 5),(6,.int .i64 v)],[(5,.row true 41 (.wides ((zaa I x).take v))),(3,.box true 30 [.row 0,.row 1]),(0,.row false 0 (.ints .i64 I.sup)),(1,.row false 0 (.arcs I.arcs)),(2,.row false 0 (.ints .i64 x))],6⟩,rel:=fun v0 v=>v <= I.sup.length,meas:=fun v=>I.sup.length - v }),
 (7,{ G:=(Nat) × (Nat),inv:=fun ⟨v,k⟩=>⟨[(1,.row 2),(2,.ptr 3 0 0 0),(5,.row 5),(6,.int .i64 v),(7,.ptr 6 0 0 0),(8,.int .i64 k)],[(6,.box true 41 (z0w (W (z2d I.sup.length I.arcs x k v)))),(5,.row true 41 (.wides ((zaa I x).take v))),(3,.box true 30 [.row 0,.row 1]),(0,.row false 0 (.ints .i64 I.sup)),(1,.row false 0 (.arcs I.arcs)),(2,.row false 0 (.ints .i64 x))],7⟩,rel:=fun ⟨v0,k0⟩ ⟨v,k⟩=>v < I.sup.length/\v = v0/\k <= I.arcs.length,meas:=fun ⟨v,k⟩=>I.arcs.length - k })]
def rNet_A:List SV->z0f->List (Nat × Ann):=fun args h=>match args,h with
 | [.agg [.row 0,.row 1],.row 2],[(0,.row false ty0 (.ints .i64 I_s)),(1,.row false ty1 (.arcs I_a)),(2,.row false ty2 (.ints .i64 x))]=>rNet_an ⟨I_s,I_a⟩ x
 | _,_=>[]
def rNet_g:z0d:=[(rArc_n,(true,z04 true rArc_fs)),(rOf_n,(true,z04 true rOf_fs)),(zna,(true,z04 true zcg)),(rMinus_n,(true,z04 true zff)),(At_n,(true,z04 true At_fs))]
abbrev rNet_n:Nat:=113
def rNet_I (I:Inst) (x:List Int):List (Nat × z0a):=[]
def rNet_IA:List SV->z0f->List (Nat × z0a):=fun _ _=>[]
def zn3 (x:Arc) (n:Int):FRes:={ pre:=True,res:=.bool (fitF x n),rows:=[],eff:=[] }
def zhk:FS:=fun args h=>match args,h with
 | [.agg [.int .i64 x_0,.int .i64 x_1,.int .i64 x_2,.int .i64 x_3,.int .i64 x_4],.int .i64 n],[]=>some (zn3 ⟨x_0,x_1,x_2,x_3,x_4⟩ n)
 | _,_=>none
def rBounds_an (x:Arc) (n:Int):List (Nat × Ann):=[]
def rBounds_A:List SV->z0f->List (Nat × Ann):=fun _ _=>[]
def zn2:z0d:=[]
abbrev rBounds_n:Nat:=112
def rBounds_I (x:Arc) (n:Int):List (Nat × z0a):=[]
def rBounds_IA:List SV->z0f->List (Nat × z0a):=fun _ _=>[]
def rFits_r (I:Inst) (x:List Int):FRes:={ pre:=I.sup.length <= 10000/\I.arcs.length <= 10000/\A64 x/\A64 I.sup,res:=.int .i64 (z1g I x),rows:=[],eff:=[] }
def zjw:FS:=fun args h=>match args,h with
 | [.agg [.row 0,.row 1],.row 2],[(0,.row false ty0 (.ints .i64 I_s)),(1,.row false ty1 (.arcs I_a)),(2,.row false ty2 (.ints .i64 x))]=>some (rFits_r ⟨I_s,I_a⟩ x)
 | _,_=>none
def rFits_an (I:Inst) (x:List Int):List (Nat × Ann):=[(7,{ G:=(Nat),inv:=fun k=>⟨[(1,.row 2),(2,.ptr 3 0 0 0),(6,.int .i64 k)],[(3,.box true 30 [.row 0,.row 1]),(0,.row false 0 (.ints .i64 I.sup)),(1,.row false 0 (.arcs I.arcs)),(2,.row false 0 (.ints .i64 x))],4⟩,rel:=fun k0 k=>k <= I.arcs.length/\z33 (I.arcs.drop k) (x.drop k) = z33 I.arcs x,meas:=fun k=>I.arcs.length - k }),
 (13,{ G:=(Nat),inv:=fun k=>⟨[(2,.ptr 3 0 0 0),(7,.row 4),(8,.int .i64 k)],[(4,.row true 41 (.wides (zaa I x))),(3,.box true 30 [.row 0,.row 1]),(0,.row false 0 (.ints .i64 I.sup)),(1,.row false 0 (.arcs I.arcs))],5⟩,rel:=fun k0 k=>k <= I.sup.length/\∀ v,v < k->W (z2d I.sup.length I.arcs x I.arcs.length v) = W (I.sup.getD v 0),meas:=fun k=>I.sup.length - k })]
def rFits_A:List SV->z0f->List (Nat × Ann):=fun args h=>match args,h with
 | [.agg [.row 0,.row 1],.row 2],[(0,.row false ty0 (.ints .i64 I_s)),(1,.row false ty1 (.arcs I_a)),(2,.row false ty2 (.ints .i64 x))]=>rFits_an ⟨I_s,I_a⟩ x
 | _,_=>[]
def rFits_g:z0d:=[(rRight_n,(true,z04 true zfg)),(rBounds_n,(true,z04 true zhk)),(rNet_n,(true,z04 true rNet_fs)),(rOf_n,(true,z04 true rOf_fs))]
abbrev rFits_n:Nat:=74
def rFits_I (I:Inst) (x:List Int):List (Nat × z0a):=[]
def rFits_IA:List SV->z0f->List (Nat × z0a):=fun _ _=>[]
end Go.Proofs.Ytggblkbecekbdaa
end
