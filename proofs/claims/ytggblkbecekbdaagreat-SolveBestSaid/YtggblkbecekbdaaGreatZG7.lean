/- Part of the proof: FN1, DRf, FRf, DB9. -/
import Derived.Test.YtggblkbecekbdaaGreatZG6
import Derived.Test.YtggblkbecekbdaaGreatZG5
import Derived.Laws.Externs
set_option linter.unusedVariables false
set_option linter.all false
set_option linter.unusedSimpArgs false
set_option maxRecDepth 1000000
section
namespace Go.Proofs.YtggblkbecekbdaaGreat
open Go Go.RowKit Go.Ql Go.Vc
theorem Add64_ok:SpecOk Tryz.prog Add64_n true zem:=by
 refine .ext fun ρ hp nk w args K hh h=>?_
 unfold zem at h
 split at h
 ·obtain ⟨⟨h1,h2,h3,h4⟩,hk⟩:=h
  refine ⟨_,?_,hk⟩
  simp only [z0q,SV.toV]
  rw [run_callFunc_extern Tryz.func118 (by kernel_rfl) (by kernel_rfl) (by kernel_rfl) (e:=add64Entry) (by kernel_rfl),run_add64 _ _ _ h1 h2 h3 h4]
  simp only [Result.andThen]
 ·exact h.elim
theorem run_sub64 {P:Program} (x y b:Nat) (hb:b <= 1) (w:World) :
  ((Extern.MathBitsCarry.rows[1]).2 #[.int .u64 x,.int .u64 y,.int .u64 b]).run P w =
   .ok (.tuple #[.int .u64 (((x+18446744073709551616 - y - b) % 18446744073709551616:Nat):Int),.int .u64 ((if x<y+b then 1 else 0:Nat):Int)]) w:=by
 have:b=0 ∨ b=1:=by omega
 rcases this with rfl | rfl <;> rfl
theorem Sub64_ok:SpecOk Tryz.prog Sub64_n true zev:=by
 refine .ext fun ρ hp nk w args K hh h=>?_
 unfold zev at h
 split at h
 ·rename_i x y c
  obtain ⟨⟨h1,h2,h3,h4,h5⟩,hk⟩:=h
  obtain ⟨X,rfl⟩:=Int.eq_ofNat_of_zero_le h1
  obtain ⟨Y,rfl⟩:=Int.eq_ofNat_of_zero_le h2
  obtain ⟨B,rfl⟩:=Int.eq_ofNat_of_zero_le h4
  refine ⟨_,?_,hk⟩
  simp only [z0q,SV.toV]
  rw [run_callFunc_extern Tryz.func117 (by kernel_rfl) (by kernel_rfl) (by kernel_rfl) (e:=(Extern.MathBitsCarry.rows[1]).2) (by kernel_rfl),run_sub64 X Y B (by omega)]
  simp only [Result.andThen]
  have e1:(((X+18446744073709551616 - Y - B) % 18446744073709551616:Nat):Int)=((X:Int) - Y - B) % 18446744073709551616:=by omega
  have e2:((if X<Y+B then 1 else 0:Nat):Int)=if (X:Int)<Y+B then 1 else 0:=by split <;> split <;> omega
  rw [e1,e2]
 ·exact h.elim
def Mul64_E0 (x : Int) (y : Int) : Prop :=
      (0:Int) <= (32:Int) /\
 (0:Int) <= (32:Int) /\
 (0:Int) <= (32:Int) /\
 (0:Int) <= (32:Int) /\
 (0:Int) <= (32:Int) /\
 ((IntKind.u64.wrap
 (IntKind.u64.wrap
 (IntKind.u64.wrap (x.fdiv ((2:Int) ^ min (Int.toNat (32:Int)) IntKind.u64.bits) * y.fdiv ((2:Int) ^ min (Int.toNat (32:Int)) IntKind.u64.bits)) +
 (IntKind.u64.wrap
 (IntKind.u64.wrap (x.fdiv ((2:Int) ^ min (Int.toNat (32:Int)) IntKind.u64.bits) * andS IntKind.u64 y (4294967295:Int)) +
 (IntKind.u64.wrap (andS IntKind.u64 x (4294967295:Int) * andS IntKind.u64 y (4294967295:Int))).fdiv
 ((2:Int) ^ min (Int.toNat (32:Int)) IntKind.u64.bits))).fdiv
 ((2:Int) ^ min (Int.toNat (32:Int)) IntKind.u64.bits)) +
 (IntKind.u64.wrap
 (andS IntKind.u64
 (IntKind.u64.wrap
 (IntKind.u64.wrap (x.fdiv ((2:Int) ^ min (Int.toNat (32:Int)) IntKind.u64.bits) * andS IntKind.u64 y (4294967295:Int)) +
 (IntKind.u64.wrap (andS IntKind.u64 x (4294967295:Int) * andS IntKind.u64 y (4294967295:Int))).fdiv
 ((2:Int) ^ min (Int.toNat (32:Int)) IntKind.u64.bits)))
 (4294967295:Int) +
 IntKind.u64.wrap (andS IntKind.u64 x (4294967295:Int) * y.fdiv ((2:Int) ^ min (Int.toNat (32:Int)) IntKind.u64.bits)))).fdiv
 ((2:Int) ^ min (Int.toNat (32:Int)) IntKind.u64.bits)) =
 x * y / (18446744073709551616:Int) /\
 IntKind.u64.wrap (x * y)=x * y % (18446744073709551616:Int)/\True) /\
 True) /\
 True
theorem Mul64_q (x:Int) (y:Int):Mul64_E0 x y=z23 TT Mul64_g (Mul64_I x y) (Mul64_an x y) Tryz.f129 [.int .u64 x,.int .u64 y] [] (Mul64_r x y):=by kernel_rfl
theorem Mul64_E (x:Int) (y:Int) (hp:U64 x/\U64 y):FVc TT Mul64_g (Mul64_I x y) (Mul64_an x y) Tryz.f129 [.int .u64 x,.int .u64 y] [] (Mul64_r x y):=by
 refine FVc.of (Mul64_E0 x y) (Mul64_q x y) ?_
 unfold Mul64_E0
 simp only [eq_self,exists_const,forall_const,ne_eq,Int.toNat_natCast,zSS]
 obtain ⟨⟨x1,x2⟩,y1,y2⟩:=hp
 have e:(2:Int) ^ min (Int.toNat 32) IntKind.u64.bits=4294967296:=by decide
 rw [e]
 simp only [Int.fdiv_eq_ediv_of_nonneg _ (show (0:Int) <= 4294967296 by decide),and_low x1 x2,and_low y1 y2]
 refine ⟨by omega,by omega,by omega,by omega,by omega,?_,z8o _⟩
 obtain ⟨a,ha⟩:∃ a,a=x / 4294967296:=⟨_,rfl⟩
 obtain ⟨b,hb⟩:∃ b,b=x % 4294967296:=⟨_,rfl⟩
 obtain ⟨c,hc⟩:∃ c,c=y / 4294967296:=⟨_,rfl⟩
 obtain ⟨d,hd⟩:∃ d,d=y % 4294967296:=⟨_,rfl⟩
 rw [<- ha,<- hb,<- hc,<- hd]
 have hx:x=a * 4294967296+b:=by omega
 have hy:y=c * 4294967296+d:=by omega
 have hxy:x * y=a * c * 18446744073709551616+(a * d+b * c) * 4294967296+b * d:=by
  rw [hx,hy]
  grind
 have bd:∀ p q:Int,0 <= p->p <= 4294967295->0 <= q->q <= 4294967295->0 <= p * q/\p * q <= 18446744065119617025:=fun p q h1 h2 h3 h4=>by
  have:=zlc (a:=p) (b:=q) (A:=4294967295) (B:=4294967295) (by omega) (by omega) (by omega) (by omega) (by omega) (by omega)
  exact ⟨Int.mul_nonneg h1 h3,by omega⟩
 have q1:=bd a c (by omega) (by omega) (by omega) (by omega)
 have q2:=bd a d (by omega) (by omega) (by omega) (by omega)
 have q3:=bd b c (by omega) (by omega) (by omega) (by omega)
 have q4:=bd b d (by omega) (by omega) (by omega) (by omega)
 rw [hxy]
 generalize a * c=ac at *
 generalize a * d=ad at *
 generalize b * c=bc at *
 generalize b * d=bdd at *
 rw [wu64 q4.1 (by omega),wu64 q2.1 (by omega),wu64 (x:=ad+bdd / 4294967296) (by omega) (by omega),wu64 q1.1 (by omega),wu64 q3.1 (by omega),and_low (by omega) (by omega)]
 rw [wu64 (x:=(ad+bdd / 4294967296) % 4294967296+bc) (by omega) (by omega)]
 rw [wu64 (x:=ac+(ad+bdd / 4294967296) / 4294967296) (by omega) (by omega)]
 rw [wu64 (by omega) (by omega)]
 omega
theorem Mul64_ok:SpecOk Tryz.prog Mul64_n true (z02 true Mul64_fs) :=
 z09 z0i (show z15 Tryz.prog Mul64_g from z03) (by kernel_rfl) mixedOrders Tryz.func129 rfl rfl (by kernel_rfl) (n:=2) (by decide +kernel) (I:=Mul64_IA) (fun _ _=>z07) (A:=Mul64_A)
  (fun args h r hr=>by
   unfold Mul64_fs at hr
   split at hr
   ·rename_i x y; cases hr; refine ⟨rfl,fun hp=>?_⟩; have hE:=Mul64_E x y hp; exact hE
   ·cases hr)
def size_E0 (n : Int) : Prop :=
      (decide (n<(0:Int))=true->((IntKind.u64.wrap ((0:Int) - IntKind.u64.wrap n)=if n<(0:Int) then -n else n)/\True)/\True) /\
 (decide (n<(0:Int))=false->((IntKind.u64.wrap n=if n<(0:Int) then -n else n)/\True)/\True)
theorem size_q (n:Int):size_E0 n=z23 TT size_g (size_I n) (size_an n) Tryz.f130 [.int .i64 n] [] (size_r n):=by kernel_rfl
theorem size_E (n:Int) (hp:I64 n):FVc TT size_g (size_I n) (size_an n) Tryz.f130 [.int .i64 n] [] (size_r n):=by
 refine FVc.of (size_E0 n) (size_q n) ?_
 unfold size_E0
 simp only [eq_self,exists_const,forall_const,ne_eq,Int.toNat_natCast,zSS]
 unfold I64 at hp
 simp only [z8o]
 refine ⟨fun h=>?_,fun h=>?_⟩
 ·rw [if_pos h]; omega
 ·rw [if_neg h]; omega
theorem size_ok:SpecOk Tryz.prog size_n true (z02 true size_fs) :=
 z09 z0i (show z15 Tryz.prog size_g from z03) (by kernel_rfl) mixedOrders Tryz.func130 rfl rfl (by kernel_rfl) (n:=1) (by decide +kernel) (I:=size_IA) (fun _ _=>z07) (A:=size_A)
  (fun args h r hr=>by
   unfold size_fs at hr
   split at hr
   ·rename_i n; cases hr; refine ⟨rfl,fun hp=>?_⟩; have hE:=size_E n hp; exact hE
   ·cases hr)
def Of_E0 (n : Int) : Prop :=
   (0:Int) <= (63:Int)/\((n.fdiv ((2:Int) ^ min (Int.toNat (63:Int)) IntKind.i64.bits)=(W n).hi/\IntKind.u64.wrap n=(W n).lo/\True)/\True)/\True
theorem Of_q (n:Int):Of_E0 n=z23 TT Of_g (Of_I n) (Of_an n) Tryz.f42 [.int .i64 n] [] (Of_r n):=by kernel_rfl
theorem Of_E (n:Int) (hp:I64 n):FVc TT Of_g (Of_I n) (Of_an n) Tryz.f42 [.int .i64 n] [] (Of_r n):=by
 refine FVc.of (Of_E0 n) (Of_q n) ?_
 unfold Of_E0
 simp only [eq_self,exists_const,forall_const,ne_eq,Int.toNat_natCast,zSS]
 unfold I64 at hp
 have e:(2:Int) ^ min (Int.toNat 63) IntKind.i64.bits=9223372036854775808:=by decide
 rw [e,Int.fdiv_eq_ediv_of_nonneg _ (show (0:Int) <= 9223372036854775808 by decide)]
 simp only [z8o,W,and_true]
 omega
theorem Of_ok:SpecOk Tryz.prog Of_n true (z02 true zhe) :=
 z09 z0i (show z15 Tryz.prog Of_g from z03) (by kernel_rfl) mixedOrders Tryz.func42 rfl rfl (by kernel_rfl) (n:=1) (by decide +kernel) (I:=Of_IA) (fun _ _=>z07) (A:=Of_A)
  (fun args h r hr=>by
   unfold zhe at hr
   split at hr
   ·rename_i n; cases hr; refine ⟨rfl,fun hp=>?_⟩; have hE:=Of_E n hp; exact hE
   ·cases hr)
def Plus_E0 (a : Wide) (b : Wide) : Prop :=
      ((0:Int) <= a.lo/\(0:Int) <= b.lo/\(0:Int) <= (0:Int)/\(0:Int) <= (1:Int)) /\
 ((0:Int) <= IntKind.u64.wrap a.hi /\
 (0:Int) <= IntKind.u64.wrap b.hi /\
 (0:Int) <= (a.lo+b.lo+(0:Int)) / (18446744073709551616:Int)/\(a.lo+b.lo+(0:Int)) / (18446744073709551616:Int) <= (1:Int)) /\
 ((IntKind.i64.wrap ((IntKind.u64.wrap a.hi+IntKind.u64.wrap b.hi+(a.lo+b.lo+(0:Int)) / (18446744073709551616:Int)) % (18446744073709551616:Int)) =
 (z3a a b).hi /\
 (a.lo+b.lo+(0:Int)) % (18446744073709551616:Int)=(z3a a b).lo/\True) /\
 True) /\
 True
theorem Plus_q (a:Wide) (b:Wide):Plus_E0 a b=z23 TT Plus_g (Plus_I a b) (Plus_an a b) Tryz.f66 [.agg (z0s a),.agg (z0s b)] [] (Plus_r a b):=by kernel_rfl
theorem Plus_E (a:Wide) (b:Wide) (hp:a.ok/\b.ok):FVc TT Plus_g (Plus_I a b) (Plus_an a b) Tryz.f66 [.agg (z0s a),.agg (z0s b)] [] (Plus_r a b):=by
 refine FVc.of (Plus_E0 a b) (Plus_q a b) ?_
 unfold Plus_E0
 simp only [eq_self,exists_const,forall_const,ne_eq,Int.toNat_natCast,zSS]
 obtain ⟨⟨⟨a1,a2⟩,a3,a4⟩,⟨b1,b2⟩,b3,b4⟩:=hp
 simp only [z8o,zgr,z3a,W,Wide.v]
 omega
theorem zet:SpecOk Tryz.prog zj2 true (z02 true z8y) :=
 z09 z0i (show z15 Tryz.prog Plus_g from z00 Add64_ok (z03)) (by kernel_rfl) mixedOrders Tryz.func66 rfl rfl (by kernel_rfl) (n:=2) (by decide +kernel) (I:=Plus_IA) (fun _ _=>z07) (A:=Plus_A)
  (fun args h r hr=>by
   unfold z8y at hr
   split at hr
   ·rename_i a_0 a_1 b_0 b_1; cases hr; refine ⟨rfl,fun hp=>?_⟩; have hE:=Plus_E ⟨a_0,a_1⟩ ⟨b_0,b_1⟩ hp; exact hE
   ·cases hr)
def Minus_E0 (a : Wide) (b : Wide) : Prop :=
      ((0:Int) <= a.lo/\(0:Int) <= b.lo/\b.lo <= (18446744073709551615:Int)/\(0:Int) <= (0:Int)/\(0:Int) <= (1:Int)) /\
 ((0:Int) <= IntKind.u64.wrap a.hi /\
 (0:Int) <= IntKind.u64.wrap b.hi /\
 IntKind.u64.wrap b.hi <= (18446744073709551615:Int) /\
 ((0:Int) <= if a.lo<b.lo+(0:Int) then (1:Int) else (0:Int))/\(if a.lo<b.lo+(0:Int) then (1:Int) else (0:Int)) <= (1:Int)) /\
 ((IntKind.i64.wrap ((IntKind.u64.wrap a.hi - IntKind.u64.wrap b.hi - if a.lo<b.lo+(0:Int) then (1:Int) else (0:Int)) % (18446744073709551616:Int)) =
 (z30 a b).hi /\
 (a.lo - b.lo - (0:Int)) % (18446744073709551616:Int)=(z30 a b).lo/\True) /\
 True) /\
 True
theorem Minus_q (a:Wide) (b:Wide):Minus_E0 a b=z23 TT Minus_g (Minus_I a b) (Minus_an a b) Tryz.f65 [.agg (z0s a),.agg (z0s b)] [] (Minus_r a b):=by kernel_rfl
theorem Minus_E (a:Wide) (b:Wide) (hp:a.ok/\b.ok):FVc TT Minus_g (Minus_I a b) (Minus_an a b) Tryz.f65 [.agg (z0s a),.agg (z0s b)] [] (Minus_r a b):=by
 refine FVc.of (Minus_E0 a b) (Minus_q a b) ?_
 unfold Minus_E0
 simp only [eq_self,exists_const,forall_const,ne_eq,Int.toNat_natCast,zSS]
 obtain ⟨⟨⟨a1,a2⟩,a3,a4⟩,⟨b1,b2⟩,b3,b4⟩:=hp
 simp only [z8o,zgr,z30,W,Wide.v]
 split <;> omega
theorem zho:SpecOk Tryz.prog ziv true (z02 true za6) :=
 z09 z0i (show z15 Tryz.prog Minus_g from z00 Sub64_ok (z03)) (by kernel_rfl) mixedOrders Tryz.func65 rfl rfl (by kernel_rfl) (n:=2) (by decide +kernel) (I:=Minus_IA) (fun _ _=>z07) (A:=Minus_A)
  (fun args h r hr=>by
   unfold za6 at hr
   split at hr
   ·rename_i a_0 a_1 b_0 b_1; cases hr; refine ⟨rfl,fun hp=>?_⟩; have hE:=Minus_E ⟨a_0,a_1⟩ ⟨b_0,b_1⟩ hp; exact hE
   ·cases hr)
def Times_E0 (a : Int) (b : Int) : Prop :=
      I64 a /\
 I64 b /\
 (U64 (if a<(0:Int) then -a else a)/\U64 (if b<(0:Int) then -b else b)) /\
 ((!decide (a<(0:Int)) == decide (b<(0:Int)))=true ->
 ({ hi:=(0:Int),lo:=(0:Int):Wide }.ok /\
 { hi:=IntKind.i64.wrap (((if a<(0:Int) then -a else a) * if b<(0:Int) then -b else b) / (18446744073709551616:Int)),lo:=((if a<(0:Int) then -a else a) * if b<(0:Int) then -b else b) % (18446744073709551616:Int):Wide }.ok) /\
 (((z30 { hi:=(0:Int),lo:=(0:Int):Wide }
 { hi:=IntKind.i64.wrap (((if a<(0:Int) then -a else a) * if b<(0:Int) then -b else b) / (18446744073709551616:Int)),lo:=((if a<(0:Int) then -a else a) * if b<(0:Int) then -b else b) % (18446744073709551616:Int):Wide }).hi =
 (W (a * b)).hi /\
 (z30 { hi:=(0:Int),lo:=(0:Int):Wide }
 { hi:=IntKind.i64.wrap (((if a<(0:Int) then -a else a) * if b<(0:Int) then -b else b) / (18446744073709551616:Int)),lo:=((if a<(0:Int) then -a else a) * if b<(0:Int) then -b else b) % (18446744073709551616:Int):Wide }).lo =
 (W (a * b)).lo /\
 True) /\
 True) /\
 True) /\
 ((!decide (a<(0:Int)) == decide (b<(0:Int)))=false ->
 ((IntKind.i64.wrap (((if a<(0:Int) then -a else a) * if b<(0:Int) then -b else b) / (18446744073709551616:Int))=(W (a * b)).hi /\
 ((if a<(0:Int) then -a else a) * if b<(0:Int) then -b else b) % (18446744073709551616:Int)=(W (a * b)).lo/\True) /\
 True) /\
 True)
theorem Times_q (a:Int) (b:Int):Times_E0 a b=z23 TT Times_g (Times_I a b) (Times_an a b) Tryz.f75 [.int .i64 a,.int .i64 b] [] (Times_r a b):=by kernel_rfl
theorem Times_E (a:Int) (b:Int) (hp:I64 a/\I64 b):FVc TT Times_g (Times_I a b) (Times_an a b) Tryz.f75 [.int .i64 a,.int .i64 b] [] (Times_r a b):=by
 refine FVc.of (Times_E0 a b) (Times_q a b) ?_
 unfold Times_E0
 simp only [eq_self,exists_const,forall_const,ne_eq,Int.toNat_natCast,zSS]
 have h1:=hp.1
 have h2:=hp.2
 unfold I64 at h1 h2
 have ua:U64 (if a<0 then -a else a):=by unfold U64; split <;> omega
 have ub:U64 (if b<0 then -b else b):=by unfold U64; split <;> omega
 have hm:(if a<0 then -a else a) * (if b<0 then -b else b)=if decide (a<0)=decide (b<0) then a * b else -(a * b):=by
  by_cases c1:a<0 <;> by_cases c2:b<0 <;> simp [c1,c2,Int.neg_mul,Int.mul_neg]
 have hb:=zlc (a:=a) (b:=b) (A:=9223372036854775808) (B:=9223372036854775808) (by omega) (by omega) (by omega) (by omega) (by omega) (by omega)
 rw [hm]
 refine ⟨hp.1,hp.2,⟨ua,ub⟩,fun h=>?_,fun h=>?_⟩
 ·rw [if_neg h]
  have h0:0 <= -(a * b):=by
   have:=Int.mul_nonneg ua.1 ub.1
   rw [hm,if_neg h] at this; exact this
  generalize a * b=p at *
  have e:(⟨IntKind.i64.wrap (-p / 18446744073709551616),-p % 18446744073709551616⟩:Wide)=W (-p):=by
   unfold W; rw [zgr]
  have e0:(⟨0,0⟩:Wide)=W 0:=W_zero.symm
  rw [e,e0,z8m]
  refine ⟨⟨z78 _,z78 _⟩,?_⟩
  rw [show (0:Int) - -p=p by omega]
  exact ⟨rfl,rfl⟩
 ·rw [if_pos h,zgr]
  exact ⟨rfl,rfl⟩
theorem Times_ok:SpecOk Tryz.prog Times_n true (z02 true Times_fs) :=
 z09 z0i (show z15 Tryz.prog Times_g from z00 size_ok (z00 Mul64_ok (z00 zho (z03)))) (by kernel_rfl) mixedOrders Tryz.func75 rfl rfl (by kernel_rfl) (n:=2) (by decide +kernel) (I:=Times_IA) (fun _ _=>z07) (A:=Times_A)
  (fun args h r hr=>by
   unfold Times_fs at hr
   split at hr
   ·rename_i a b; cases hr; refine ⟨rfl,fun hp=>?_⟩; have hE:=Times_E a b hp; exact hE
   ·cases hr)
def nan1_E0 (n : Int) : Prop :=
   ((n != n)=false/\True)/\True
theorem nan1_q (n:Int):nan1_E0 n=z23 TT nan1_g (nan1_I n) (nan1_an n) Tryz.f126 [.int .i64 n] [] (nan1_r n):=by kernel_rfl
theorem nan1_E (n:Int) (hp:True):FVc TT nan1_g (nan1_I n) (nan1_an n) Tryz.f126 [.int .i64 n] [] (nan1_r n):=by
 refine FVc.of (nan1_E0 n) (nan1_q n) ?_
 unfold nan1_E0
 simp
theorem nan1_ok:SpecOk Tryz.prog nan1_n true (z02 true nan1_fs) :=
 z09 z0i (show z15 Tryz.prog nan1_g from z03) (by kernel_rfl) mixedOrders Tryz.func126 rfl rfl (by kernel_rfl) (n:=1) (by decide +kernel) (I:=nan1_IA) (fun _ _=>z07) (A:=nan1_A)
  (fun args h r hr=>by
   unfold nan1_fs at hr
   split at hr
   ·rename_i n; cases hr; refine ⟨rfl,fun hp=>?_⟩; have hE:=nan1_E n hp; exact hE
   ·cases hr)
def nan2_E0 (n : Int) : Prop :=
   ((n != n)=false/\True)/\True
theorem nan2_q (n:Int):nan2_E0 n=z23 TT nan2_g (nan2_I n) (nan2_an n) Tryz.f127 [.int .u64 n] [] (nan2_r n):=by kernel_rfl
theorem nan2_E (n:Int) (hp:True):FVc TT nan2_g (nan2_I n) (nan2_an n) Tryz.f127 [.int .u64 n] [] (nan2_r n):=by
 refine FVc.of (nan2_E0 n) (nan2_q n) ?_
 unfold nan2_E0
 simp
theorem nan2_ok:SpecOk Tryz.prog nan2_n true (z02 true nan2_fs) :=
 z09 z0i (show z15 Tryz.prog nan2_g from z03) (by kernel_rfl) mixedOrders Tryz.func127 rfl rfl (by kernel_rfl) (n:=1) (by decide +kernel) (I:=nan2_IA) (fun _ _=>z07) (A:=nan2_A)
  (fun args h r hr=>by
   unfold nan2_fs at hr
   split at hr
   ·rename_i n; cases hr; refine ⟨rfl,fun hp=>?_⟩; have hE:=nan2_E n hp; exact hE
   ·cases hr)
def cmp1_E0 (a : Int) (b : Int) : Prop :=
      True /\
 True /\
 (false=true ->
 (false=true->(((0:Int)=if a<b then (-1:Int) else if b<a then (1:Int) else (0:Int))/\True)/\True) /\
 (false=false->(((-1:Int)=if a<b then (-1:Int) else if b<a then (1:Int) else (0:Int))/\True)/\True)) /\
 (false=false ->
 (false=true->(((1:Int)=if a<b then (-1:Int) else if b<a then (1:Int) else (0:Int))/\True)/\True) /\
 (false=false ->
 (decide (a<b)=true->(((-1:Int)=if a<b then (-1:Int) else if b<a then (1:Int) else (0:Int))/\True)/\True) /\
 (decide (a<b)=false ->
 (decide (a > b)=true->(((1:Int)=if a<b then (-1:Int) else if b<a then (1:Int) else (0:Int))/\True)/\True) /\
 (decide (a > b)=false->(((0:Int)=if a<b then (-1:Int) else if b<a then (1:Int) else (0:Int))/\True)/\True))))
theorem cmp1_q (a:Int) (b:Int):cmp1_E0 a b=z23 TT cmp1_g (cmp1_I a b) (cmp1_an a b) Tryz.f70 [.int .i64 a,.int .i64 b] [] (cmp1_r a b):=by kernel_rfl
theorem cmp1_E (a:Int) (b:Int) (hp:True):FVc TT cmp1_g (cmp1_I a b) (cmp1_an a b) Tryz.f70 [.int .i64 a,.int .i64 b] [] (cmp1_r a b):=by
 refine FVc.of (cmp1_E0 a b) (cmp1_q a b) ?_
 unfold cmp1_E0
 simp
 grind
theorem cmp1_ok:SpecOk Tryz.prog cmp1_n true (z02 true cmp1_fs) :=
 z09 z0i (show z15 Tryz.prog cmp1_g from z00 nan1_ok (z03)) (by kernel_rfl) mixedOrders Tryz.func70 rfl rfl (by kernel_rfl) (n:=2) (by decide +kernel) (I:=cmp1_IA) (fun _ _=>z07) (A:=cmp1_A)
  (fun args h r hr=>by
   unfold cmp1_fs at hr
   split at hr
   ·rename_i a b; cases hr; refine ⟨rfl,fun hp=>?_⟩; have hE:=cmp1_E a b hp; exact hE
   ·cases hr)
def cmp2_E0 (a : Int) (b : Int) : Prop :=
      True /\
 True /\
 (false=true ->
 (false=true->(((0:Int)=if a<b then (-1:Int) else if b<a then (1:Int) else (0:Int))/\True)/\True) /\
 (false=false->(((-1:Int)=if a<b then (-1:Int) else if b<a then (1:Int) else (0:Int))/\True)/\True)) /\
 (false=false ->
 (false=true->(((1:Int)=if a<b then (-1:Int) else if b<a then (1:Int) else (0:Int))/\True)/\True) /\
 (false=false ->
 (decide (a<b)=true->(((-1:Int)=if a<b then (-1:Int) else if b<a then (1:Int) else (0:Int))/\True)/\True) /\
 (decide (a<b)=false ->
 (decide (a > b)=true->(((1:Int)=if a<b then (-1:Int) else if b<a then (1:Int) else (0:Int))/\True)/\True) /\
 (decide (a > b)=false->(((0:Int)=if a<b then (-1:Int) else if b<a then (1:Int) else (0:Int))/\True)/\True))))
theorem cmp2_q (a:Int) (b:Int):cmp2_E0 a b=z23 TT cmp2_g (cmp2_I a b) (cmp2_an a b) Tryz.f71 [.int .u64 a,.int .u64 b] [] (cmp2_r a b):=by kernel_rfl
theorem cmp2_E (a:Int) (b:Int) (hp:True):FVc TT cmp2_g (cmp2_I a b) (cmp2_an a b) Tryz.f71 [.int .u64 a,.int .u64 b] [] (cmp2_r a b):=by
 refine FVc.of (cmp2_E0 a b) (cmp2_q a b) ?_
 unfold cmp2_E0
 simp
 grind
theorem cmp2_ok:SpecOk Tryz.prog cmp2_n true (z02 true cmp2_fs) :=
 z09 z0i (show z15 Tryz.prog cmp2_g from z00 nan2_ok (z03)) (by kernel_rfl) mixedOrders Tryz.func71 rfl rfl (by kernel_rfl) (n:=2) (by decide +kernel) (I:=cmp2_IA) (fun _ _=>z07) (A:=cmp2_A)
  (fun args h r hr=>by
   unfold cmp2_fs at hr
   split at hr
   ·rename_i a b; cases hr; refine ⟨rfl,fun hp=>?_⟩; have hE:=cmp2_E a b hp; exact hE
   ·cases hr)
def zen (a : Wide) (b : Wide) : Prop :=
      ((a.hi != b.hi)=true->True/\((if a.hi<b.hi then (-1:Int) else if b.hi<a.hi then (1:Int) else (0:Int))=z8u a b/\True)/\True) /\
 ((a.hi != b.hi)=false->True/\((if a.lo<b.lo then (-1:Int) else if b.lo<a.lo then (1:Int) else (0:Int))=z8u a b/\True)/\True)
theorem Compare_q (a:Wide) (b:Wide):zen a b=z23 TT zik (Compare_I a b) (Compare_an a b) Tryz.f30 [.agg (z0s a),.agg (z0s b)] [] (zil a b):=by kernel_rfl
theorem Compare_E (a:Wide) (b:Wide) (hp:a.ok/\b.ok):FVc TT zik (Compare_I a b) (Compare_an a b) Tryz.f30 [.agg (z0s a),.agg (z0s b)] [] (zil a b):=by
 refine FVc.of (zen a b) (Compare_q a b) ?_
 unfold zen
 simp only [eq_self,exists_const,forall_const,ne_eq,Int.toNat_natCast,zSS]
 obtain ⟨⟨⟨a1,a2⟩,a3,a4⟩,⟨b1,b2⟩,b3,b4⟩:=hp
 unfold z8u Wide.v
 refine ⟨fun h=>?_,fun h=>?_⟩ <;> (repeat' split) <;> omega
theorem za5:SpecOk Tryz.prog z8v true (z02 true z64) :=
 z09 z0i (show z15 Tryz.prog zik from z00 cmp1_ok (z00 cmp2_ok (z03))) (by kernel_rfl) mixedOrders Tryz.func30 rfl rfl (by kernel_rfl) (n:=2) (by decide +kernel) (I:=Compare_IA) (fun _ _=>z07) (A:=Compare_A)
  (fun args h r hr=>by
   unfold z64 at hr
   split at hr
   ·rename_i a_0 a_1 b_0 b_1; cases hr; refine ⟨rfl,fun hp=>?_⟩; have hE:=Compare_E ⟨a_0,a_1⟩ ⟨b_0,b_1⟩ hp; exact hE
   ·cases hr)
def rOf_E0 (n : Int) : Prop :=
      (decide (n<(0:Int))=true->(((-1:Int)=(W n).hi/\IntKind.u64.wrap n=(W n).lo/\True)/\True)/\True) /\
 (decide (n<(0:Int))=false->(((0:Int)=(W n).hi/\IntKind.u64.wrap n=(W n).lo/\True)/\True)/\True)
theorem rOf_q (n:Int):rOf_E0 n=z23 TT rOf_g (rOf_I n) (rOf_an n) Tryz.f94 [.int .i64 n] [] (rOf_r n):=by kernel_rfl
theorem rOf_E (n:Int) (hp:I64 n):FVc TT rOf_g (rOf_I n) (rOf_an n) Tryz.f94 [.int .i64 n] [] (rOf_r n):=by
 refine FVc.of (rOf_E0 n) (rOf_q n) ?_
 unfold rOf_E0
 simp only [eq_self,exists_const,forall_const,ne_eq,Int.toNat_natCast,zSS]
 unfold I64 at hp
 simp only [z8o,W,and_true]
 omega
theorem rOf_ok:SpecOk Tryz.prog rOf_n true (z02 true rOf_fs) :=
 z09 z0i (show z15 Tryz.prog rOf_g from z03) (by kernel_rfl) mixedOrders Tryz.func94 rfl rfl (by kernel_rfl) (n:=1) (by decide +kernel) (I:=rOf_IA) (fun _ _=>z07) (A:=rOf_A)
  (fun args h r hr=>by
   unfold rOf_fs at hr
   split at hr
   ·rename_i n; cases hr; refine ⟨rfl,fun hp=>?_⟩; have hE:=rOf_E n hp; exact hE
   ·cases hr)
def rPlus_E0 (a : Wide) (b : Wide) : Prop :=
      (decide (IntKind.u64.wrap (a.lo+b.lo)<a.lo)=true ->
 ((IntKind.i64.wrap (IntKind.i64.wrap (a.hi+b.hi)+(1:Int))=(z3a a b).hi/\IntKind.u64.wrap (a.lo+b.lo)=(z3a a b).lo/\True)/\True)/\True) /\
 (decide (IntKind.u64.wrap (a.lo+b.lo)<a.lo)=false ->
 ((IntKind.i64.wrap (a.hi+b.hi)=(z3a a b).hi/\IntKind.u64.wrap (a.lo+b.lo)=(z3a a b).lo/\True)/\True)/\True)
theorem rPlus_q (a:Wide) (b:Wide):rPlus_E0 a b=z23 TT rPlus_g (rPlus_I a b) (rPlus_an a b) Tryz.f144 [.agg (z0s a),.agg (z0s b)] [] (rPlus_r a b):=by kernel_rfl
theorem rPlus_E (a:Wide) (b:Wide) (hp:a.ok/\b.ok):FVc TT rPlus_g (rPlus_I a b) (rPlus_an a b) Tryz.f144 [.agg (z0s a),.agg (z0s b)] [] (rPlus_r a b):=by
 refine FVc.of (rPlus_E0 a b) (rPlus_q a b) ?_
 unfold rPlus_E0
 simp only [eq_self,exists_const,forall_const,ne_eq,Int.toNat_natCast,zSS]
 obtain ⟨⟨⟨a1,a2⟩,a3,a4⟩,⟨b1,b2⟩,b3,b4⟩:=hp
 simp only [z8o,zgr,z3a,W,Wide.v]
 omega
theorem zi7:SpecOk Tryz.prog zm6 true (z02 true zan) :=
 z09 z0i (show z15 Tryz.prog rPlus_g from z03) (by kernel_rfl) mixedOrders Tryz.func144 rfl rfl (by kernel_rfl) (n:=2) (by decide +kernel) (I:=rPlus_IA) (fun _ _=>z07) (A:=rPlus_A)
  (fun args h r hr=>by
   unfold zan at hr
   split at hr
   ·rename_i a_0 a_1 b_0 b_1; cases hr; refine ⟨rfl,fun hp=>?_⟩; have hE:=rPlus_E ⟨a_0,a_1⟩ ⟨b_0,b_1⟩ hp; exact hE
   ·cases hr)
def rLess_E0 (a : Wide) : Prop :=
      ({ hi:=notS IntKind.i64 a.hi,lo:=notS IntKind.u64 a.lo:Wide }.ok/\{ hi:=(0:Int),lo:=(1:Int):Wide }.ok) /\
 (((z3a { hi:=notS IntKind.i64 a.hi,lo:=notS IntKind.u64 a.lo:Wide } { hi:=(0:Int),lo:=(1:Int):Wide }).hi=(W (-a.v)).hi /\
 (z3a { hi:=notS IntKind.i64 a.hi,lo:=notS IntKind.u64 a.lo:Wide } { hi:=(0:Int),lo:=(1:Int):Wide }).lo=(W (-a.v)).lo/\True) /\
 True) /\
 True
theorem rLess_q (a:Wide):rLess_E0 a=z23 TT rLess_g (rLess_I a) (rLess_an a) Tryz.f159 [.agg (z0s a)] [] (rLess_r a):=by kernel_rfl
theorem rLess_E (a:Wide) (hp:a.ok):FVc TT rLess_g (rLess_I a) (rLess_an a) Tryz.f159 [.agg (z0s a)] [] (rLess_r a):=by
 refine FVc.of (rLess_E0 a) (rLess_q a) ?_
 unfold rLess_E0
 simp only [eq_self,exists_const,forall_const,ne_eq,Int.toNat_natCast,zSS]
 have h1:=not_i64 hp.1
 have h2:=not_u64 hp.2
 obtain ⟨⟨a1,a2⟩,a3,a4⟩:=hp
 simp only [h1,h2]
 simp only [z3a,W,Wide.v,Wide.ok,I64,U64]
 omega
theorem rLess_ok:SpecOk Tryz.prog rLess_n true (z02 true rLess_fs) :=
 z09 z0i (show z15 Tryz.prog rLess_g from z00 zi7 (z03)) (by kernel_rfl) mixedOrders Tryz.func159 rfl rfl (by kernel_rfl) (n:=1) (by decide +kernel) (I:=rLess_IA) (fun _ _=>z07) (A:=rLess_A)
  (fun args h r hr=>by
   unfold rLess_fs at hr
   split at hr
   ·rename_i a_0 a_1; cases hr; refine ⟨rfl,fun hp=>?_⟩; have hE:=rLess_E ⟨a_0,a_1⟩ hp; exact hE
   ·cases hr)
def zm3 (a : Wide) (b : Wide) : Prop :=
   b.ok/\(a.ok/\(W (-b.v)).ok)/\(((z3a a (W (-b.v))).hi=(z30 a b).hi/\(z3a a (W (-b.v))).lo=(z30 a b).lo/\True)/\True)/\True
theorem rMinus_q (a:Wide) (b:Wide):zm3 a b=z23 TT rMinus_g (rMinus_I a b) (rMinus_an a b) Tryz.f142 [.agg (z0s a),.agg (z0s b)] [] (rMinus_r a b):=by kernel_rfl
theorem rMinus_E (a:Wide) (b:Wide) (hp:a.ok/\b.ok):FVc TT rMinus_g (rMinus_I a b) (rMinus_an a b) Tryz.f142 [.agg (z0s a),.agg (z0s b)] [] (rMinus_r a b):=by
 refine FVc.of (zm3 a b) (rMinus_q a b) ?_
 unfold zm3
 simp only [eq_self,exists_const,forall_const,ne_eq,Int.toNat_natCast,zSS]
 have e:z3a a (W (-b.v))=z30 a b:=by
  conv=>lhs; rw [<- W_v hp.1]
  rw [z8n]
  unfold z30
  congr 1
 rw [e]
 exact ⟨hp.2,⟨hp.1,z78 _⟩,rfl,rfl⟩
theorem rMinus_ok:SpecOk Tryz.prog rMinus_n true (z02 true zdd) :=
 z09 z0i (show z15 Tryz.prog rMinus_g from z00 zi7 (z00 rLess_ok (z03))) (by kernel_rfl) mixedOrders Tryz.func142 rfl rfl (by kernel_rfl) (n:=2) (by decide +kernel) (I:=rMinus_IA) (fun _ _=>z07) (A:=rMinus_A)
  (fun args h r hr=>by
   unfold zdd at hr
   split at hr
   ·rename_i a_0 a_1 b_0 b_1; cases hr; refine ⟨rfl,fun hp=>?_⟩; have hE:=rMinus_E ⟨a_0,a_1⟩ ⟨b_0,b_1⟩ hp; exact hE
   ·cases hr)
def zby (a : Wide) (b : Wide) : Prop :=
      ((a.hi != b.hi)=true->(decide (a.hi<b.hi)=true->((-1:Int)=z8u a b/\True)/\True)/\(decide (a.hi<b.hi)=false->((1:Int)=z8u a b/\True)/\True)) /\
 ((a.hi != b.hi)=false ->
 ((a.lo != b.lo)=true->(decide (a.lo<b.lo)=true->((-1:Int)=z8u a b/\True)/\True)/\(decide (a.lo<b.lo)=false->((1:Int)=z8u a b/\True)/\True)) /\
 ((a.lo != b.lo)=false->((0:Int)=z8u a b/\True)/\True))
theorem rCompare_q (a:Wide) (b:Wide):zby a b=z23 TT zg0 (rCompare_I a b) (zm2 a b) Tryz.f88 [.agg (z0s a),.agg (z0s b)] [] (zg1 a b):=by kernel_rfl
theorem rCompare_E (a:Wide) (b:Wide) (hp:a.ok/\b.ok):FVc TT zg0 (rCompare_I a b) (zm2 a b) Tryz.f88 [.agg (z0s a),.agg (z0s b)] [] (zg1 a b):=by
 refine FVc.of (zby a b) (rCompare_q a b) ?_
 unfold zby
 simp only [eq_self,exists_const,forall_const,ne_eq,Int.toNat_natCast,zSS]
 obtain ⟨⟨⟨a1,a2⟩,a3,a4⟩,⟨b1,b2⟩,b3,b4⟩:=hp
 unfold z8u Wide.v
 refine ⟨fun h=>⟨fun h2=>?_,fun h2=>?_⟩,fun h=>⟨fun h2=>⟨fun h3=>?_,fun h3=>?_⟩,fun h2=>?_⟩⟩ <;> (repeat' split) <;> omega
theorem rCompare_ok:SpecOk Tryz.prog rCompare_n true (z02 true zbz) :=
 z09 z0i (show z15 Tryz.prog zg0 from z03) (by kernel_rfl) mixedOrders Tryz.func88 rfl rfl (by kernel_rfl) (n:=2) (by decide +kernel) (I:=rCompare_IA) (fun _ _=>z07) (A:=rCompare_A)
  (fun args h r hr=>by
   unfold zbz at hr
   split at hr
   ·rename_i a_0 a_1 b_0 b_1; cases hr; refine ⟨rfl,fun hp=>?_⟩; have hE:=rCompare_E ⟨a_0,a_1⟩ ⟨b_0,b_1⟩ hp; exact hE
   ·cases hr)
end Go.Proofs.YtggblkbecekbdaaGreat
end
section
namespace Go.Proofs.YtggblkbecekbdaaGreat
open Go Go.RowKit Go.Ql Go.Vc
def rfit_r (I:Inst) (a:Int):FRes:={ pre:=True,res:=.bool (gOk I.sup.length I.arcs a),rows:=[],eff:=[] }
def rfit_fs:FS:=fun args h=>match args,h with
 | [.agg [.row 0,.row 1],.int .i64 a],[(0,.row false ty0 (.ints .i64 I_s)),(1,.row false ty1 (.arcs I_a))]=>some (rfit_r ⟨I_s,I_a⟩ a)
 | _,_=>none
def rfit_an (I:Inst) (a:Int):List (Nat × Ann):=[]
def rfit_A:List SV->z0d->List (Nat × Ann):=fun _ _=>[]
def rfit_g:z0c:=[]
abbrev rfit_n:Nat:=158
def rfit_I (I:Inst) (a:Int):List (Nat × z0a):=[]
def rfit_IA:List SV->z0d->List (Nat × z0a):=fun _ _=>[]
def rfit_E0 (I : Inst) (a : Int) (ty0 ty1 : TypeId) : Prop :=
      (decide (a<(0:Int))=true->(false=gOk (↑I.sup.length:Int) I.arcs a/\True)/\True) /\
 (decide (a<(0:Int))=false ->
 (decide (a ≥ (↑I.arcs.length:Int))=true->(false=gOk (↑I.sup.length:Int) I.arcs a/\True)/\True) /\
 (decide (a ≥ (↑I.arcs.length:Int))=false ->
 ((0:Int) <= a/\a<(↑I.arcs.length:Int)) /\
 a.toNat<I.arcs.length /\
 ∀ (x:Arc),
 I.arcs[a.toNat]? = some x ->
 (decide (x.src ≥ (0:Int))=true ->
 (decide (x.src<(↑I.sup.length:Int))=true ->
 (decide (x.dst ≥ (0:Int))=true->(decide (x.dst<(↑I.sup.length:Int))=gOk (↑I.sup.length:Int) I.arcs a/\True)/\True) /\
 (decide (x.dst ≥ (0:Int))=false->(false=gOk (↑I.sup.length:Int) I.arcs a/\True)/\True)) /\
 (decide (x.src<(↑I.sup.length:Int))=false->(false=gOk (↑I.sup.length:Int) I.arcs a/\True)/\True)) /\
 (decide (x.src ≥ (0:Int))=false->(false=gOk (↑I.sup.length:Int) I.arcs a/\True)/\True)))
theorem rfit_q (I:Inst) (a:Int) (ty0 ty1:TypeId):rfit_E0 I a ty0 ty1=z23 TT rfit_g (rfit_I I a) (rfit_an I a) Tryz.f158 [.agg [.row 0,.row 1],.int .i64 a] [(0,.row false ty0 (.ints .i64 I.sup)),(1,.row false ty1 (.arcs I.arcs))] (rfit_r I a):=by kernel_rfl
theorem rfit_E (I:Inst) (a:Int) (ty0 ty1:TypeId) (hp:True):FVc TT rfit_g (rfit_I I a) (rfit_an I a) Tryz.f158 [.agg [.row 0,.row 1],.int .i64 a] [(0,.row false ty0 (.ints .i64 I.sup)),(1,.row false ty1 (.arcs I.arcs))] (rfit_r I a):=by
 refine FVc.of (rfit_E0 I a ty0 ty1) (rfit_q I a ty0 ty1) ?_
 unfold rfit_E0
 simp only [eq_self,exists_const,forall_const,ne_eq,Int.toNat_natCast,zSS,z08]
 refine ⟨fun h=>(zbp (.inl h)).symm,fun h=>⟨fun h2=>(zbp (.inr h2)).symm,fun h2=>⟨by omega,by omega,fun x hx=>?_⟩⟩⟩
 rw [zb7 (by omega) hx]
 unfold z34
 refine ⟨fun h3=>⟨fun h4=>⟨fun h5=>?_,fun h5=>?_⟩,fun h4=>?_⟩,fun h3=>?_⟩
 ·simp [show 0 <= x.src from h3,h4,show 0 <= x.dst from h5]
 ·simp; omega
 ·simp; omega
 ·simp; omega
theorem rfit_ok:SpecOk Tryz.prog rfit_n true (z02 true rfit_fs) :=
 z09 z0i (show z15 Tryz.prog rfit_g from z03) (by kernel_rfl) mixedOrders Tryz.func158 rfl rfl (by kernel_rfl) (n:=2) (by decide +kernel) (I:=rfit_IA) (fun _ _=>z07) (A:=rfit_A)
  (fun args h r hr=>by
   unfold rfit_fs at hr
   split at hr
   ·rename_i a ty0 I_s ty1 I_a; cases hr; refine ⟨rfl,fun hp=>?_⟩; have hE:=rfit_E ⟨I_s,I_a⟩ a ty0 ty1 hp; exact hE
   ·cases hr)
def has_r (g_n:Int) (g_l:List Arc) (g_i:List Int) (g_s:List Int) (a:Int):FRes:={ pre:=True,res:=.bool (decide (0 <= a) && decide (a<g_n)),rows:=[],eff:=[] }
def has_fs:FS:=fun args h=>match args,h with
 | [.ptr 0 0 0 0,.int .i64 a],[(0,.box false ty0 [.int .i64 g_n,.row 1,.row 2,.row 3]),(1,.row false ty1 (.arcs g_l)),(2,.row false ty2 (.ints .i64 g_i)),(3,.row false ty3 (.ints .i64 g_s))]=>some (has_r g_n g_l g_i g_s a)
 | _,_=>none
def has_an (g_n:Int) (g_l:List Arc) (g_i:List Int) (g_s:List Int) (a:Int):List (Nat × Ann):=[]
def has_A:List SV->z0d->List (Nat × Ann):=fun _ _=>[]
def has_g:z0c:=[]
abbrev has_n:Nat:=140
def has_I (g_n:Int) (g_l:List Arc) (g_i:List Int) (g_s:List Int) (a:Int):List (Nat × z0a):=[]
def has_IA:List SV->z0d->List (Nat × z0a):=fun _ _=>[]
def GArc_r (g_n:Int) (g_l:List Arc) (g_i:List Int) (g_s:List Int) (a:Int):FRes:={ pre:=True,res:=.tup [.agg (z6f (z2c g_n g_l a)),.bool (gOk g_n g_l a)],rows:=[],eff:=[] }
def GArc_fs:FS:=fun args h=>match args,h with
 | [.ptr 0 0 0 0,.int .i64 a],[(0,.box false ty0 [.int .i64 g_n,.row 1,.row 2,.row 3]),(1,.row false ty1 (.arcs g_l)),(2,.row false ty2 (.ints .i64 g_i)),(3,.row false ty3 (.ints .i64 g_s))]=>some (GArc_r g_n g_l g_i g_s a)
 | _,_=>none
def GArc_an (g_n:Int) (g_l:List Arc) (g_i:List Int) (g_s:List Int) (a:Int):List (Nat × Ann):=[]
def GArc_A:List SV->z0d->List (Nat × Ann):=fun _ _=>[]
def GArc_g:z0c:=[(has_n,(true,z02 true has_fs))]
abbrev GArc_n:Nat:=83
def GArc_I (g_n:Int) (g_l:List Arc) (g_i:List Int) (g_s:List Int) (a:Int):List (Nat × z0a):=[]
def GArc_IA:List SV->z0d->List (Nat × z0a):=fun _ _=>[]
def CloneI_r (l:List Int):FRes:={ pre:=l.length <= 1000000000,res:=.row 1,rows:=[.row 3 (.ints .i64 (l))],eff:=[] }
def zii:FS:=fun args h=>match args,h with
 | [.row 0],[(0,.row false ty0 (.ints .i64 l))]=>some (CloneI_r l)
 | _,_=>none
def CloneI_an (l:List Int):List (Nat × Ann):=[]
def CloneI_A:List SV->z0d->List (Nat × Ann):=fun _ _=>[]
def CloneI_g:z0c:=[]
abbrev CloneI_n:Nat:=84
def CloneI_I (l:List Int):List (Nat × z0a):=[]
def CloneI_IA:List SV->z0d->List (Nat × z0a):=fun _ _=>[]
abbrev put_n:Nat:=85
def put_g:z0c:=[]
def put_spec:Vc.Spec:=z4f TT put_g (fun _ _ _=>[]) Tryz.f85
def New_r (I:Inst):FRes:={ pre:=I.sup.length <= 10000/\I.arcs.length <= 10000,res:=.ptr 2 0 0 0,rows:=[.box 137 [.int .i64 I.sup.length,.row 3,.row 4,.row 5],.row 35 (.arcs I.arcs),.row 3 (.ints .i64 (z2j I)),.row 3 (.ints .i64 (z11 I))],eff:=[] }
def New_fs:FS:=fun args h=>match args,h with
 | [.agg [.row 0,.row 1]],[(0,.row false ty0 (.ints .i64 I_s)),(1,.row false ty1 (.arcs I_a))]=>some (New_r ⟨I_s,I_a⟩)
 | _,_=>none
def New_an (I:Inst):List (Nat × Ann):=[(1000002,{ G:=Unit,inv:=fun _=>⟨[(3,.ptr 9 0 0 0)],[(9,.box true 90 [.ptr 8 0 0 0]),(8,.box true 137 [.int .i64 (↑I.sup.length:Int),.row 4,.row 6,.row 7]),(6,.row true 3 (.ints .i64 [])),(7,.row true 3 (.ints .i64 [])),(4,.row true 35 (.arcs I.arcs))],10⟩,rel:=fun _ _=>True,meas:=fun _=>0 }),
 (4,{ G:=(Nat),inv:=fun k=>⟨[(3,.ptr 9 0 0 0),(35,.int .i64 (↑I.arcs.length:Int)),(36,.int .i64 k)],[(10,.row true 3 (.ints .i64 (S1 I k))),(9,.box true 90 [.ptr 8 0 0 0]),(8,.box true 137 [.int .i64 (↑I.sup.length:Int),.row 4,.row 6,.row 10]),(6,.row true 3 (.ints .i64 [])),(4,.row true 35 (.arcs I.arcs))],11⟩,rel:=fun k0 k=>k <= I.arcs.length,meas:=fun k=>I.arcs.length - k }),
 (12,{ G:=(Nat),inv:=fun k=>⟨[(3,.ptr 9 0 0 0),(77,.int .i64 (2 * I.sup.length:Nat)),(78,.int .i64 k)],[(10,.row true 3 (.ints .i64 (S2 I k))),(9,.box true 90 [.ptr 8 0 0 0]),(8,.box true 137 [.int .i64 (↑I.sup.length:Int),.row 4,.row 6,.row 10]),(6,.row true 3 (.ints .i64 [])),(4,.row true 35 (.arcs I.arcs))],11⟩,rel:=fun k0 k=>k <= 2 * I.sup.length,meas:=fun k=>2 * I.sup.length - k }),
 (20,{ G:=(Nat),inv:=fun k=>⟨[(3,.ptr 9 0 0 0),(9,.fn 85 [.ptr 9 0 0 0,.ptr 14 0 0 0]),(124,.int .i64 (↑I.arcs.length:Int)),(125,.int .i64 k)],[(14,.box true 37 [.row 12]),(12,.row true 3 (.ints .i64 (N3 I k))),(11,.row true 3 (.ints .i64 (L3 I k))),(10,.row true 3 (.ints .i64 (z11 I))),(9,.box true 90 [.ptr 8 0 0 0]),(8,.box true 137 [.int .i64 (↑I.sup.length:Int),.row 4,.row 11,.row 10]),(4,.row true 35 (.arcs I.arcs))],15⟩,rel:=fun k0 k=>k <= I.arcs.length,meas:=fun k=>I.arcs.length - k })]
def New_A:List SV->z0d->List (Nat × Ann):=fun args h=>match args,h with
 | [.agg [.row 0,.row 1]],[(0,.row false ty0 (.ints .i64 I_s)),(1,.row false ty1 (.arcs I_a))]=>New_an ⟨I_s,I_a⟩
 | _,_=>[]
def New_g:z0c:=[(Copy_n,(true,z02 true Copy_fs)),(GArc_n,(true,z02 true GArc_fs)),(CloneI_n,(true,z02 true zii)),(put_n,(false,put_spec))]
abbrev New_n:Nat:=50
def New_I (I:Inst):List (Nat × z0a):=[]
def New_IA:List SV->z0d->List (Nat × z0a):=fun _ _=>[]
def along_r (x:List Int) (a:Int):FRes:={ pre:=0 <= a,res:=.int .i64 (x.getD a.toNat 0),rows:=[],eff:=[] }
def zhq:FS:=fun args h=>match args,h with
 | [.row 0,.int .i64 a],[(0,.row false ty0 (.ints .i64 x))]=>some (along_r x a)
 | _,_=>none
def along_an (x:List Int) (a:Int):List (Nat × Ann):=[]
def along_A:List SV->z0d->List (Nat × Ann):=fun _ _=>[]
def along_g:z0c:=[]
abbrev along_n:Nat:=52
def along_I (x:List Int) (a:Int):List (Nat × z0a):=[]
def along_IA:List SV->z0d->List (Nat × z0a):=fun _ _=>[]
def fit_r (x:Arc) (n:Int):FRes:={ pre:=True,res:=.bool (zhu x n),rows:=[],eff:=[] }
def fit_fs:FS:=fun args h=>match args,h with
 | [.agg [.int .i64 x_0,.int .i64 x_1,.int .i64 x_2,.int .i64 x_3,.int .i64 x_4],.int .i64 n],[]=>some (fit_r ⟨x_0,x_1,x_2,x_3,x_4⟩ n)
 | _,_=>none
def fit_an (x:Arc) (n:Int):List (Nat × Ann):=[]
def fit_A:List SV->z0d->List (Nat × Ann):=fun _ _=>[]
def fit_g:z0c:=[]
abbrev fit_n:Nat:=74
def fit_I (x:Arc) (n:Int):List (Nat × z0a):=[]
def fit_IA:List SV->z0d->List (Nat × z0a):=fun _ _=>[]
abbrev more_n:Nat:=86
def more_g:z0c:=[(Of_n,(true,z02 true zhe)),(zj2,(true,z02 true z8y))]
def more_spec:Vc.Spec:=z4f TT more_g (fun _ _ _=>[]) Tryz.f86
abbrev less_n:Nat:=87
def less_g:z0c:=[(Of_n,(true,z02 true zhe)),(ziv,(true,z02 true za6))]
def less_spec:Vc.Spec:=z4f TT less_g (fun _ _ _=>[]) Tryz.f87
abbrev flows_n:Nat:=51
def flows_g:z0c:=[(GArc_n,(true,z02 true GArc_fs)),(more_n,(false,more_spec)),(less_n,(false,less_spec))]
def flows_spec:Vc.Spec:=z4f TT flows_g (fun _ _ _=>[]) Tryz.f51
def Net_r (I:Inst) (x:List Int):FRes:={ pre:=I.sup.length <= 10000/\I.arcs.length <= 10000/\A64 x,res:=.row 3,rows:=[.row 47 (.wides (z5i I x))],eff:=[] }
def Net_fs:FS:=fun args h=>match args,h with
 | [.agg [.row 0,.row 1],.row 2],[(0,.row false ty0 (.ints .i64 I_s)),(1,.row false ty1 (.arcs I_a)),(2,.row false ty2 (.ints .i64 x))]=>some (Net_r ⟨I_s,I_a⟩ x)
 | _,_=>none
def Net_an (I:Inst) (x:List Int):List (Nat × Ann):=[(1000002,{ G:=Unit,inv:=fun _=>⟨[(1,.row 2),(2,.ptr 3 0 0 0),(5,.ptr 12 0 0 0)],[(12,.box true 93 [.row 5,.ptr 6 0 0 0]),(6,.box true 137 [.int .i64 (↑I.sup.length:Int),.row 7,.row 8,.row 9]),(7,.row true 35 (.arcs I.arcs)),(8,.row true 3 (.ints .i64 (z2j I))),(9,.row true 3 (.ints .i64 (z11 I))),(5,.row true 47 (.wides (List.replicate (↑I.sup.length:Int).toNat { hi:=(0:Int),lo:=(0:Int):Wide }))),(3,.box true 25 [.row 0,.row 1]),(0,.row false 0 (.ints .i64 I.sup)),(1,.row false 0 (.arcs I.arcs)),(2,.row false 0 (.ints .i64 x))],13⟩,rel:=fun _ _=>True,meas:=fun _=>0 }),
 (3,{ G:=(Nat),inv:=fun k=>⟨[(1,.row 2),(5,.ptr 12 0 0 0),(16,.int .i64 (↑I.arcs.length:Int)),(17,.int .i64 k)],[(12,.box true 93 [.row 5,.ptr 6 0 0 0]),(6,.box true 137 [.int .i64 (↑I.sup.length:Int),.row 7,.row 8,.row 9]),(7,.row true 35 (.arcs I.arcs)),(8,.row true 3 (.ints .i64 (z2j I))),(9,.row true 3 (.ints .i64 (z11 I))),(5,.row true 47 (.wides (z61 I x k))),(2,.row false 0 (.ints .i64 x))],13⟩,rel:=fun k0 k=>k <= I.arcs.length,meas:=fun k=>I.arcs.length - k })]
def Net_A:List SV->z0d->List (Nat × Ann):=fun args h=>match args,h with
 | [.agg [.row 0,.row 1],.row 2],[(0,.row false ty0 (.ints .i64 I_s)),(1,.row false ty1 (.arcs I_a)),(2,.row false ty2 (.ints .i64 x))]=>Net_an ⟨I_s,I_a⟩ x
 | _,_=>[]
def Net_g:z0c:=[(New_n,(true,z02 true New_fs)),(along_n,(true,z02 true zhq)),(flows_n,(false,flows_spec))]
abbrev Net_n:Nat:=16
def Net_I (I:Inst) (x:List Int):List (Nat × z0a):=[]
def Net_IA:List SV->z0d->List (Nat × z0a):=fun _ _=>[]
def Cost_r (I:Inst) (x:List Int):FRes:={ pre:=A64 x/\zcm I.arcs/\I.arcs.length <= 1000000,res:=.agg (z0s (W (z41 I x))),rows:=[],eff:=[] }
def Cost_fs:FS:=fun args h=>match args,h with
 | [.agg [.row 0,.row 1],.row 2],[(0,.row false ty0 (.ints .i64 I_s)),(1,.row false ty1 (.arcs I_a)),(2,.row false ty2 (.ints .i64 x))]=>some (Cost_r ⟨I_s,I_a⟩ x)
 | _,_=>none
def Cost_an (I:Inst) (x:List Int):List (Nat × Ann):=[(3,{ G:=(Nat),inv:=fun k=>⟨[(1,.row 2),(4,.ptr 4 0 0 0),(5,.ptr 5 0 0 0),(9,.row 1),(10,.int .i64 (↑I.arcs.length:Int)),(11,.int .i64 k)],[(5,.box true 47 (z0s (W (z50 I.arcs x k)))),(4,.box true 47 [.int .i64 (0:Int),.int .u64 (0:Int)]),(1,.row false 0 (.arcs I.arcs)),(2,.row false 0 (.ints .i64 x))],6⟩,rel:=fun k0 k=>k <= I.arcs.length,meas:=fun k=>I.arcs.length - k })]
def Cost_A:List SV->z0d->List (Nat × Ann):=fun args h=>match args,h with
 | [.agg [.row 0,.row 1],.row 2],[(0,.row false ty0 (.ints .i64 I_s)),(1,.row false ty1 (.arcs I_a)),(2,.row false ty2 (.ints .i64 x))]=>Cost_an ⟨I_s,I_a⟩ x
 | _,_=>[]
def Cost_g:z0c:=[(along_n,(true,z02 true zhq)),(Times_n,(true,z02 true Times_fs)),(zj2,(true,z02 true z8y))]
abbrev Cost_n:Nat:=38
def Cost_I (I:Inst) (x:List Int):List (Nat × z0a):=[]
def Cost_IA:List SV->z0d->List (Nat × z0a):=fun _ _=>[]
def Fits_r (I:Inst) (x:List Int):FRes:={ pre:=I.sup.length <= 10000/\I.arcs.length <= 10000/\A64 x/\A64 I.sup,res:=.int .u16 (z0v I x),rows:=[],eff:=[] }
def zit:FS:=fun args h=>match args,h with
 | [.agg [.row 0,.row 1],.row 2],[(0,.row false ty0 (.ints .i64 I_s)),(1,.row false ty1 (.arcs I_a)),(2,.row false ty2 (.ints .i64 x))]=>some (Fits_r ⟨I_s,I_a⟩ x)
 | _,_=>none
def Fits_an (I:Inst) (x:List Int):List (Nat × Ann):=[(7,{ G:=(Nat),inv:=fun k=>⟨[(1,.row 2),(2,.ptr 3 0 0 0),(22,.row 1),(23,.int .i64 (↑I.arcs.length:Int)),(24,.int .i64 k)],[(3,.box true 25 [.row 0,.row 1]),(0,.row false 0 (.ints .i64 I.sup)),(1,.row false 0 (.arcs I.arcs)),(2,.row false 0 (.ints .i64 x))],4⟩,rel:=fun k0 k=>k <= I.arcs.length/\z1h (I.arcs.drop k) (x.drop k)=z1h I.arcs x,meas:=fun k=>I.arcs.length - k }),
 (13,{ G:=(Nat),inv:=fun k=>⟨[(2,.ptr 3 0 0 0),(39,.row 4),(40,.int .i64 (↑(z5i I x).length:Int)),(41,.int .i64 k)],[(4,.row true 47 (.wides (z5i I x))),(3,.box true 25 [.row 0,.row 1]),(0,.row false 0 (.ints .i64 I.sup)),(1,.row false 0 (.arcs I.arcs))],5⟩,rel:=fun k0 k=>k <= I.sup.length/\∀ v,v<k->W (z3b I.sup.length I.arcs x I.arcs.length v)=W (I.sup.getD v 0),meas:=fun k=>I.sup.length - k })]
def Fits_A:List SV->z0d->List (Nat × Ann):=fun args h=>match args,h with
 | [.agg [.row 0,.row 1],.row 2],[(0,.row false ty0 (.ints .i64 I_s)),(1,.row false ty1 (.arcs I_a)),(2,.row false ty2 (.ints .i64 x))]=>Fits_an ⟨I_s,I_a⟩ x
 | _,_=>[]
def Fits_g:z0c:=[(zeu,(true,z02 true z7u)),(fit_n,(true,z02 true fit_fs)),(Net_n,(true,z02 true Net_fs)),(Of_n,(true,z02 true zhe))]
abbrev Fits_n:Nat:=33
def Fits_I (I:Inst) (x:List Int):List (Nat × z0a):=[]
def Fits_IA:List SV->z0d->List (Nat × z0a):=fun _ _=>[]
def rArc_r (I:Inst) (a:Int):FRes:={ pre:=True,res:=.tup [.agg (z6f (z2c I.sup.length I.arcs a)),.bool (gOk I.sup.length I.arcs a)],rows:=[],eff:=[] }
def rArc_fs:FS:=fun args h=>match args,h with
 | [.agg [.row 0,.row 1],.int .i64 a],[(0,.row false ty0 (.ints .i64 I_s)),(1,.row false ty1 (.arcs I_a))]=>some (rArc_r ⟨I_s,I_a⟩ a)
 | _,_=>none
def rArc_an (I:Inst) (a:Int):List (Nat × Ann):=[]
def rArc_A:List SV->z0d->List (Nat × Ann):=fun _ _=>[]
def rArc_g:z0c:=[(rfit_n,(true,z02 true rfit_fs))]
abbrev rArc_n:Nat:=141
def rArc_I (I:Inst) (a:Int):List (Nat × z0a):=[]
def rArc_IA:List SV->z0d->List (Nat × z0a):=fun _ _=>[]
def At_r (x:List Int) (a:Int):FRes:={ pre:=True,res:=.int .i64 (if 0 <= a then x.getD a.toNat 0 else 0),rows:=[],eff:=[] }
def At_fs:FS:=fun args h=>match args,h with
 | [.row 0,.int .i64 a],[(0,.row false ty0 (.ints .i64 x))]=>some (At_r x a)
 | _,_=>none
def At_an (x:List Int) (a:Int):List (Nat × Ann):=[]
def At_A:List SV->z0d->List (Nat × Ann):=fun _ _=>[]
def At_g:z0c:=[]
abbrev At_n:Nat:=143
def At_I (x:List Int) (a:Int):List (Nat × z0a):=[]
def At_IA:List SV->z0d->List (Nat × z0a):=fun _ _=>[]
def rNet_r (I:Inst) (x:List Int):FRes:={ pre:=A64 x/\I.sup.length <= 10000/\I.arcs.length <= 10000,res:=.row 3,rows:=[.row 47 (.wides (z5i I x))],eff:=[] }
def rNet_fs:FS:=fun args h=>match args,h with
 | [.agg [.row 0,.row 1],.row 2],[(0,.row false ty0 (.ints .i64 I_s)),(1,.row false ty1 (.arcs I_a)),(2,.row false ty2 (.ints .i64 x))]=>some (rNet_r ⟨I_s,I_a⟩ x)
 | _,_=>none
def rNet_an (I:Inst) (x:List Int):List (Nat × Ann):=[(3,{ G:=(Nat),inv:=fun v=>⟨[(1,.row 2),(2,.ptr 3 0 0 0),(5,.row 5),(6,.int .i64 v)],[(5,.row true 47 (.wides ((z5i I x).take v))),(3,.box true 25 [.row 0,.row 1]),(0,.row false 0 (.ints .i64 I.sup)),(1,.row false 0 (.arcs I.arcs)),(2,.row false 0 (.ints .i64 x))],6⟩,rel:=fun v0 v=>v <= I.sup.length,meas:=fun v=>I.sup.length - v }),
 (7,{ G:=(Nat) × (Nat),inv:=fun ⟨v,k⟩=>⟨[(1,.row 2),(2,.ptr 3 0 0 0),(5,.row 5),(6,.int .i64 v),(7,.ptr 6 0 0 0),(8,.int .i64 k)],[(6,.box true 47 (z0s (W (z3b I.sup.length I.arcs x k v)))),(5,.row true 47 (.wides ((z5i I x).take v))),(3,.box true 25 [.row 0,.row 1]),(0,.row false 0 (.ints .i64 I.sup)),(1,.row false 0 (.arcs I.arcs)),(2,.row false 0 (.ints .i64 x))],7⟩,rel:=fun ⟨v0,k0⟩ ⟨v,k⟩=>v<I.sup.length/\v=v0/\k <= I.arcs.length,meas:=fun ⟨v,k⟩=>I.arcs.length - k })]
def rNet_A:List SV->z0d->List (Nat × Ann):=fun args h=>match args,h with
 | [.agg [.row 0,.row 1],.row 2],[(0,.row false ty0 (.ints .i64 I_s)),(1,.row false ty1 (.arcs I_a)),(2,.row false ty2 (.ints .i64 x))]=>rNet_an ⟨I_s,I_a⟩ x
 | _,_=>[]
def rNet_g:z0c:=[(rArc_n,(true,z02 true rArc_fs)),(rOf_n,(true,z02 true rOf_fs)),(zm6,(true,z02 true zan)),(rMinus_n,(true,z02 true zdd)),(At_n,(true,z02 true At_fs))]
abbrev rNet_n:Nat:=93
def rNet_I (I:Inst) (x:List Int):List (Nat × z0a):=[]
def rNet_IA:List SV->z0d->List (Nat × z0a):=fun _ _=>[]
def zlz (x:Arc) (n:Int):FRes:={ pre:=True,res:=.bool (zhu x n),rows:=[],eff:=[] }
def zfx:FS:=fun args h=>match args,h with
 | [.agg [.int .i64 x_0,.int .i64 x_1,.int .i64 x_2,.int .i64 x_3,.int .i64 x_4],.int .i64 n],[]=>some (zlz ⟨x_0,x_1,x_2,x_3,x_4⟩ n)
 | _,_=>none
def rBounds_an (x:Arc) (n:Int):List (Nat × Ann):=[]
def rBounds_A:List SV->z0d->List (Nat × Ann):=fun _ _=>[]
def zly:z0c:=[]
abbrev rBounds_n:Nat:=92
def rBounds_I (x:Arc) (n:Int):List (Nat × z0a):=[]
def rBounds_IA:List SV->z0d->List (Nat × z0a):=fun _ _=>[]
def rFits_r (I:Inst) (x:List Int):FRes:={ pre:=I.sup.length <= 10000/\I.arcs.length <= 10000/\A64 x/\A64 I.sup,res:=.int .i64 (z0v I x),rows:=[],eff:=[] }
def zi6:FS:=fun args h=>match args,h with
 | [.agg [.row 0,.row 1],.row 2],[(0,.row false ty0 (.ints .i64 I_s)),(1,.row false ty1 (.arcs I_a)),(2,.row false ty2 (.ints .i64 x))]=>some (rFits_r ⟨I_s,I_a⟩ x)
 | _,_=>none
def rFits_an (I:Inst) (x:List Int):List (Nat × Ann):=[(7,{ G:=(Nat),inv:=fun k=>⟨[(1,.row 2),(2,.ptr 3 0 0 0),(6,.int .i64 k)],[(3,.box true 25 [.row 0,.row 1]),(0,.row false 0 (.ints .i64 I.sup)),(1,.row false 0 (.arcs I.arcs)),(2,.row false 0 (.ints .i64 x))],4⟩,rel:=fun k0 k=>k <= I.arcs.length/\z1h (I.arcs.drop k) (x.drop k)=z1h I.arcs x,meas:=fun k=>I.arcs.length - k }),
 (13,{ G:=(Nat),inv:=fun k=>⟨[(2,.ptr 3 0 0 0),(7,.row 4),(8,.int .i64 k)],[(4,.row true 47 (.wides (z5i I x))),(3,.box true 25 [.row 0,.row 1]),(0,.row false 0 (.ints .i64 I.sup)),(1,.row false 0 (.arcs I.arcs))],5⟩,rel:=fun k0 k=>k <= I.sup.length/\∀ v,v<k->W (z3b I.sup.length I.arcs x I.arcs.length v)=W (I.sup.getD v 0),meas:=fun k=>I.sup.length - k })]
def rFits_A:List SV->z0d->List (Nat × Ann):=fun args h=>match args,h with
 | [.agg [.row 0,.row 1],.row 2],[(0,.row false ty0 (.ints .i64 I_s)),(1,.row false ty1 (.arcs I_a)),(2,.row false ty2 (.ints .i64 x))]=>rFits_an ⟨I_s,I_a⟩ x
 | _,_=>[]
def rFits_g:z0c:=[(rRight_n,(true,z02 true zde)),(rBounds_n,(true,z02 true zfx)),(rNet_n,(true,z02 true rNet_fs)),(rOf_n,(true,z02 true rOf_fs))]
abbrev rFits_n:Nat:=56
def rFits_I (I:Inst) (x:List Int):List (Nat × z0a):=[]
def rFits_IA:List SV->z0d->List (Nat × z0a):=fun _ _=>[]
def Flow_r (I:Inst) (d:List Int):FRes:={ pre:=Bytes d/\I.arcs.length <= 1000000/\L42 I.arcs,res:=.row 3,rows:=[.row 2 (.ints .i64 (z0w I d))],eff:=[] }
def Flow_fs:FS:=fun args h=>match args,h with
 | [.agg [.row 0,.row 1],.row 2],[(0,.row false ty0 (.ints .i64 I_s)),(1,.row false ty1 (.arcs I_a)),(2,.row false ty2 (.ints .u8 d))]=>some (Flow_r ⟨I_s,I_a⟩ d)
 | _,_=>none
def Flow_an (I:Inst) (d:List Int):List (Nat × Ann):=[(3,{ G:=(Nat),inv:=fun k=>⟨[(1,.row 2),(2,.ptr 3 0 0 0),(5,.row 5),(6,.int .i64 k)],[(5,.row true 2 (.ints .i64 ((z0w I d).take k))),(3,.box true 25 [.row 0,.row 1]),(0,.row false 0 (.ints .i64 I.sup)),(1,.row false 0 (.arcs I.arcs)),(2,.row false 0 (.ints .u8 d))],6⟩,rel:=fun k0 k=>k <= I.arcs.length,meas:=fun k=>I.arcs.length - k })]
def Flow_A:List SV->z0d->List (Nat × Ann):=fun args h=>match args,h with
 | [.agg [.row 0,.row 1],.row 2],[(0,.row false ty0 (.ints .i64 I_s)),(1,.row false ty1 (.arcs I_a)),(2,.row false ty2 (.ints .u8 d))]=>Flow_an ⟨I_s,I_a⟩ d
 | _,_=>[]
def Flow_g:z0c:=[]
abbrev Flow_n:Nat:=37
def Flow_I (I:Inst) (d:List Int):List (Nat × z0a):=[]
def Flow_IA:List SV->z0d->List (Nat × z0a):=fun _ _=>[]
end Go.Proofs.YtggblkbecekbdaaGreat
end
