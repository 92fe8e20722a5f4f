/- Part of the proof: DN1, FN1, DRf, FRf, DB9. -/
import Derived.Test.YtapeenpimcffpaaGreatZG6
import Derived.Test.YtapeenpimcffpaaGreatZG5
import Derived.Laws.Externs
set_option linter.all false
set_option linter.unusedSimpArgs false
set_option linter.unusedVariables false
set_option maxRecDepth 1000000
section
namespace Go.Proofs.YtapeenpimcffpaaGreat
open Go Go.RowKit Go.Ql Go.Vc
abbrev Add64_n:Nat:=96
def zao:Vc.Spec:=fun args hp nk K=>match args with
 | [.int .u64 x,.int .u64 y,.int .u64 c]=>(0 <= x/\0 <= y/\0 <= c/\c <= 1)/\K (.tup [.int .u64 ((x + y + c) % 18446744073709551616),.int .u64 ((x + y + c) / 18446744073709551616)]) hp nk
 | _=>False
abbrev Sub64_n:Nat:=59
def zb2:Vc.Spec:=fun args hp nk K=>match args with
 | [.int .u64 x,.int .u64 y,.int .u64 c]=>(0 <= x/\0 <= y/\y <= 18446744073709551615/\0 <= c/\c <= 1)/\K (.tup [.int .u64 ((x - y - c) % 18446744073709551616),.int .u64 (if x < y + c then 1 else 0)]) hp nk
 | _=>False
def Of_r (n:Int):FRes:={ pre:=I64 n,res:=.agg (z0l (W n)),rows:=[],eff:=[] }
def zaw:FS:=fun args h=>match args,h with
 | [.int .i64 n],[]=>some (Of_r n)
 | _,_=>none
def Of_an (n:Int):List (Nat × Ann):=[]
def Of_A:List SV->z0c->List (Nat × Ann):=fun _ _=>[]
def Of_g:z0b:=[]
abbrev Of_n:Nat:=24
def Of_I (n:Int):List (Nat × z08):=[]
def Of_IA:List SV->z0c->List (Nat × z08):=fun _ _=>[]
def Plus_r (a:Wide) (b:Wide):FRes:={ pre:=a.ok/\b.ok,res:=.agg (z0l (z27 a b)),rows:=[],eff:=[] }
def z6i:FS:=fun args h=>match args,h with
 | [.agg [.int .i64 a_0,.int .u64 a_1],.agg [.int .i64 b_0,.int .u64 b_1]],[]=>some (Plus_r ⟨a_0,a_1⟩ ⟨b_0,b_1⟩)
 | _,_=>none
def Plus_an (a:Wide) (b:Wide):List (Nat × Ann):=[]
def Plus_A:List SV->z0c->List (Nat × Ann):=fun _ _=>[]
def Plus_g:z0b:=[(Add64_n,(true,zao))]
abbrev zf6:Nat:=49
def Plus_I (a:Wide) (b:Wide):List (Nat × z08):=[]
def Plus_IA:List SV->z0c->List (Nat × z08):=fun _ _=>[]
def Minus_r (a:Wide) (b:Wide):FRes:={ pre:=a.ok/\b.ok,res:=.agg (z0l (z2c a b)),rows:=[],eff:=[] }
def z9k:FS:=fun args h=>match args,h with
 | [.agg [.int .i64 a_0,.int .u64 a_1],.agg [.int .i64 b_0,.int .u64 b_1]],[]=>some (Minus_r ⟨a_0,a_1⟩ ⟨b_0,b_1⟩)
 | _,_=>none
def Minus_an (a:Wide) (b:Wide):List (Nat × Ann):=[]
def Minus_A:List SV->z0c->List (Nat × Ann):=fun _ _=>[]
def Minus_g:z0b:=[(Sub64_n,(true,zb2))]
abbrev Minus_n:Nat:=28
def Minus_I (a:Wide) (b:Wide):List (Nat × z08):=[]
def Minus_IA:List SV->z0c->List (Nat × z08):=fun _ _=>[]
def nan1_r (n:Int):FRes:={ pre:=True,res:=.bool (false),rows:=[],eff:=[] }
def nan1_fs:FS:=fun args h=>match args,h with
 | [.int .i64 n],[]=>some (nan1_r n)
 | _,_=>none
def nan1_an (n:Int):List (Nat × Ann):=[]
def nan1_A:List SV->z0c->List (Nat × Ann):=fun _ _=>[]
def nan1_g:z0b:=[]
abbrev nan1_n:Nat:=98
def nan1_I (n:Int):List (Nat × z08):=[]
def nan1_IA:List SV->z0c->List (Nat × z08):=fun _ _=>[]
def nan2_r (n:Int):FRes:={ pre:=True,res:=.bool (false),rows:=[],eff:=[] }
def nan2_fs:FS:=fun args h=>match args,h with
 | [.int .u64 n],[]=>some (nan2_r n)
 | _,_=>none
def nan2_an (n:Int):List (Nat × Ann):=[]
def nan2_A:List SV->z0c->List (Nat × Ann):=fun _ _=>[]
def nan2_g:z0b:=[]
abbrev nan2_n:Nat:=99
def nan2_I (n:Int):List (Nat × z08):=[]
def nan2_IA:List SV->z0c->List (Nat × z08):=fun _ _=>[]
def cmp1_r (a:Int) (b:Int):FRes:={ pre:=True,res:=.int .i64 (if a < b then -1 else if b < a then 1 else 0),rows:=[],eff:=[] }
def cmp1_fs:FS:=fun args h=>match args,h with
 | [.int .i64 a,.int .i64 b],[]=>some (cmp1_r a b)
 | _,_=>none
def cmp1_an (a:Int) (b:Int):List (Nat × Ann):=[]
def cmp1_A:List SV->z0c->List (Nat × Ann):=fun _ _=>[]
def cmp1_g:z0b:=[(nan1_n,(true,z02 true nan1_fs))]
abbrev cmp1_n:Nat:=54
def cmp1_I (a:Int) (b:Int):List (Nat × z08):=[]
def cmp1_IA:List SV->z0c->List (Nat × z08):=fun _ _=>[]
def cmp2_r (a:Int) (b:Int):FRes:={ pre:=True,res:=.int .i64 (if a < b then -1 else if b < a then 1 else 0),rows:=[],eff:=[] }
def cmp2_fs:FS:=fun args h=>match args,h with
 | [.int .u64 a,.int .u64 b],[]=>some (cmp2_r a b)
 | _,_=>none
def cmp2_an (a:Int) (b:Int):List (Nat × Ann):=[]
def cmp2_A:List SV->z0c->List (Nat × Ann):=fun _ _=>[]
def cmp2_g:z0b:=[(nan2_n,(true,z02 true nan2_fs))]
abbrev cmp2_n:Nat:=55
def cmp2_I (a:Int) (b:Int):List (Nat × z08):=[]
def cmp2_IA:List SV->z0c->List (Nat × z08):=fun _ _=>[]
def zek (a:Wide) (b:Wide):FRes:={ pre:=a.ok/\b.ok,res:=.int .i64 (zdd a b),rows:=[],eff:=[] }
def z5d:FS:=fun args h=>match args,h with
 | [.agg [.int .i64 a_0,.int .u64 a_1],.agg [.int .i64 b_0,.int .u64 b_1]],[]=>some (zek ⟨a_0,a_1⟩ ⟨b_0,b_1⟩)
 | _,_=>none
def Compare_an (a:Wide) (b:Wide):List (Nat × Ann):=[]
def Compare_A:List SV->z0c->List (Nat × Ann):=fun _ _=>[]
def zej:z0b:=[(cmp1_n,(true,z02 true cmp1_fs)),(cmp2_n,(true,z02 true cmp2_fs))]
abbrev z9i:Nat:=25
def Compare_I (a:Wide) (b:Wide):List (Nat × z08):=[]
def Compare_IA:List SV->z0c->List (Nat × z08):=fun _ _=>[]
def rOf_r (n:Int):FRes:={ pre:=I64 n,res:=.agg (z0l (W n)),rows:=[],eff:=[] }
def rOf_fs:FS:=fun args h=>match args,h with
 | [.int .i64 n],[]=>some (rOf_r n)
 | _,_=>none
def rOf_an (n:Int):List (Nat × Ann):=[]
def rOf_A:List SV->z0c->List (Nat × Ann):=fun _ _=>[]
def rOf_g:z0b:=[]
abbrev rOf_n:Nat:=64
def rOf_I (n:Int):List (Nat × z08):=[]
def rOf_IA:List SV->z0c->List (Nat × z08):=fun _ _=>[]
def rPlus_r (a:Wide) (b:Wide):FRes:={ pre:=a.ok/\b.ok,res:=.agg (z0l (z27 a b)),rows:=[],eff:=[] }
def z67:FS:=fun args h=>match args,h with
 | [.agg [.int .i64 a_0,.int .u64 a_1],.agg [.int .i64 b_0,.int .u64 b_1]],[]=>some (rPlus_r ⟨a_0,a_1⟩ ⟨b_0,b_1⟩)
 | _,_=>none
def rPlus_an (a:Wide) (b:Wide):List (Nat × Ann):=[]
def rPlus_A:List SV->z0c->List (Nat × Ann):=fun _ _=>[]
def rPlus_g:z0b:=[]
abbrev zcb:Nat:=63
def rPlus_I (a:Wide) (b:Wide):List (Nat × z08):=[]
def rPlus_IA:List SV->z0c->List (Nat × z08):=fun _ _=>[]
def rLess_r (a:Wide):FRes:={ pre:=a.ok,res:=.agg (z0l (W (-a.v))),rows:=[],eff:=[] }
def rLess_fs:FS:=fun args h=>match args,h with
 | [.agg [.int .i64 a_0,.int .u64 a_1]],[]=>some (rLess_r ⟨a_0,a_1⟩)
 | _,_=>none
def rLess_an (a:Wide):List (Nat × Ann):=[]
def rLess_A:List SV->z0c->List (Nat × Ann):=fun _ _=>[]
def rLess_g:z0b:=[(zcb,(true,z02 true z67))]
abbrev rLess_n:Nat:=170
def rLess_I (a:Wide):List (Nat × z08):=[]
def rLess_IA:List SV->z0c->List (Nat × z08):=fun _ _=>[]
def rMinus_r (a:Wide) (b:Wide):FRes:={ pre:=a.ok/\b.ok,res:=.agg (z0l (z2c a b)),rows:=[],eff:=[] }
def za8:FS:=fun args h=>match args,h with
 | [.agg [.int .i64 a_0,.int .u64 a_1],.agg [.int .i64 b_0,.int .u64 b_1]],[]=>some (rMinus_r ⟨a_0,a_1⟩ ⟨b_0,b_1⟩)
 | _,_=>none
def rMinus_an (a:Wide) (b:Wide):List (Nat × Ann):=[]
def rMinus_A:List SV->z0c->List (Nat × Ann):=fun _ _=>[]
def rMinus_g:z0b:=[(zcb,(true,z02 true z67)),(rLess_n,(true,z02 true rLess_fs))]
abbrev rMinus_n:Nat:=151
def rMinus_I (a:Wide) (b:Wide):List (Nat × z08):=[]
def rMinus_IA:List SV->z0c->List (Nat × z08):=fun _ _=>[]
def zc3 (a:Wide) (b:Wide):FRes:={ pre:=a.ok/\b.ok,res:=.int .i64 (zdd a b),rows:=[],eff:=[] }
def z8t:FS:=fun args h=>match args,h with
 | [.agg [.int .i64 a_0,.int .u64 a_1],.agg [.int .i64 b_0,.int .u64 b_1]],[]=>some (zc3 ⟨a_0,a_1⟩ ⟨b_0,b_1⟩)
 | _,_=>none
def zhw (a:Wide) (b:Wide):List (Nat × Ann):=[]
def rCompare_A:List SV->z0c->List (Nat × Ann):=fun _ _=>[]
def zc2:z0b:=[]
abbrev rCompare_n:Nat:=135
def rCompare_I (a:Wide) (b:Wide):List (Nat × z08):=[]
def rCompare_IA:List SV->z0c->List (Nat × z08):=fun _ _=>[]
end Go.Proofs.YtapeenpimcffpaaGreat
end
section
namespace Go.Proofs.YtapeenpimcffpaaGreat
open Go Go.RowKit Go.Ql Go.Vc
theorem Add64_ok:SpecOk Tryz.prog Add64_n true zao:=by
 refine .ext fun ρ hp nk w args K hh h=>?_
 unfold zao at h
 split at h
 ·obtain ⟨⟨h1,h2,h3,h4⟩,hk⟩:=h
  refine ⟨_,?_,hk⟩
  simp only [z0k,SV.toV]
  rw [run_callFunc_extern Tryz.func96 (by kernel_rfl) (by kernel_rfl) (by kernel_rfl) (e:=add64Entry) (by kernel_rfl),run_add64 _ _ _ h1 h2 h3 h4]
  simp only [Result.andThen]
 ·exact h.elim
theorem run_sub64 {P:Program} (x y b:Nat) (hb:b <= 1) (w:World) :
  ((Extern.MathBitsCarry.rows[1]).2 #[.int .u64 x,.int .u64 y,.int .u64 b]).run P w =
   .ok (.tuple #[.int .u64 (((x + 18446744073709551616 - y - b) % 18446744073709551616:Nat):Int),.int .u64 ((if x < y + b then 1 else 0:Nat):Int)]) w:=by
 have:b = 0 ∨ b = 1:=by omega
 rcases this with rfl | rfl <;> rfl
theorem Sub64_ok:SpecOk Tryz.prog Sub64_n true zb2:=by
 refine .ext fun ρ hp nk w args K hh h=>?_
 unfold zb2 at h
 split at h
 ·rename_i x y c
  obtain ⟨⟨h1,h2,h3,h4,h5⟩,hk⟩:=h
  obtain ⟨X,rfl⟩:=Int.eq_ofNat_of_zero_le h1
  obtain ⟨Y,rfl⟩:=Int.eq_ofNat_of_zero_le h2
  obtain ⟨B,rfl⟩:=Int.eq_ofNat_of_zero_le h4
  refine ⟨_,?_,hk⟩
  simp only [z0k,SV.toV]
  rw [run_callFunc_extern Tryz.func59 (by kernel_rfl) (by kernel_rfl) (by kernel_rfl) (e:=(Extern.MathBitsCarry.rows[1]).2) (by kernel_rfl),run_sub64 X Y B (by omega)]
  simp only [Result.andThen]
  have e1:(((X + 18446744073709551616 - Y - B) % 18446744073709551616:Nat):Int) = ((X:Int) - Y - B) % 18446744073709551616:=by omega
  have e2:((if X < Y + B then 1 else 0:Nat):Int) = if (X:Int) < Y + B then 1 else 0:=by split <;> split <;> omega
  rw [e1,e2]
 ·exact h.elim
def Of_E0 (n : Int) : Prop :=
   (0:Int) <= (63:Int)/\((n.fdiv ((2:Int) ^ min (Int.toNat (63:Int)) IntKind.i64.bits) = (W n).hi/\IntKind.u64.wrap n = (W n).lo/\True)/\True)/\True
theorem Of_q (n:Int):Of_E0 n = z1f TT Of_g (Of_I n) (Of_an n) Tryz.f24 [.int .i64 n] [] (Of_r n):=by kernel_rfl
theorem Of_E (n:Int) (hp:I64 n):FVc TT Of_g (Of_I n) (Of_an n) Tryz.f24 [.int .i64 n] [] (Of_r n):=by
 refine FVc.of (Of_E0 n) (Of_q n) ?_
 unfold Of_E0
 simp only [eq_self,exists_const,forall_const,decide_eq_true_eq,decide_eq_false_iff_not,and_true,true_and,bne_iff_ne,ne_eq,bne_eq_false_iff_eq,Int.toNat_natCast,Bool.not_eq_true',Bool.not_eq_false',beq_iff_eq,beq_eq_false_iff_ne]
 unfold I64 at hp
 have e:(2:Int) ^ min (Int.toNat 63) IntKind.i64.bits = 9223372036854775808:=by decide
 rw [e,Int.fdiv_eq_ediv_of_nonneg _ (show (0:Int) <= 9223372036854775808 by decide)]
 simp only [zcu,W,and_true]
 omega
theorem zf3:SpecOk Tryz.prog Of_n true (z02 true zaw) :=
 z06 z0g (show z10 Tryz.prog Of_g from z04) (by kernel_rfl) mixedOrders Tryz.func24 rfl rfl (by kernel_rfl) (n:=1) (by decide +kernel) (I:=Of_IA) (fun _ _=>z05) (A:=Of_A)
  (fun args h r hr=>by
   unfold zaw at hr
   split at hr
   ·rename_i n; cases hr; refine ⟨rfl,fun hp=>?_⟩; have hE:=Of_E n hp; exact hE
   ·cases hr)
def Plus_E0 (a : Wide) (b : Wide) : Prop :=
      ((0:Int) <= a.lo/\(0:Int) <= b.lo/\(0:Int) <= (0:Int)/\(0:Int) <= (1:Int)) /\
 ((0:Int) <= IntKind.u64.wrap a.hi /\
 (0:Int) <= IntKind.u64.wrap b.hi /\
 (0:Int) <= (a.lo + b.lo + (0:Int)) / (18446744073709551616:Int)/\(a.lo + b.lo + (0:Int)) / (18446744073709551616:Int) <= (1:Int)) /\
 ((IntKind.i64.wrap ((IntKind.u64.wrap a.hi + IntKind.u64.wrap b.hi + (a.lo + b.lo + (0:Int)) / (18446744073709551616:Int)) % (18446744073709551616:Int)) =
 (z27 a b).hi /\
 (a.lo + b.lo + (0:Int)) % (18446744073709551616:Int) = (z27 a b).lo/\True) /\
 True) /\
 True
theorem Plus_q (a:Wide) (b:Wide):Plus_E0 a b = z1f TT Plus_g (Plus_I a b) (Plus_an a b) Tryz.f49 [.agg (z0l a),.agg (z0l b)] [] (Plus_r a b):=by kernel_rfl
theorem Plus_E (a:Wide) (b:Wide) (hp:a.ok/\b.ok):FVc TT Plus_g (Plus_I a b) (Plus_an a b) Tryz.f49 [.agg (z0l a),.agg (z0l b)] [] (Plus_r a b):=by
 refine FVc.of (Plus_E0 a b) (Plus_q a b) ?_
 unfold Plus_E0
 simp only [eq_self,exists_const,forall_const,decide_eq_true_eq,decide_eq_false_iff_not,and_true,true_and,bne_iff_ne,ne_eq,bne_eq_false_iff_eq,Int.toNat_natCast,Bool.not_eq_true',Bool.not_eq_false',beq_iff_eq,beq_eq_false_iff_ne]
 obtain ⟨⟨⟨a1,a2⟩,a3,a4⟩,⟨b1,b2⟩,b3,b4⟩:=hp
 simp only [zcu,wrapI64,z27,W,Wide.v]
 omega
theorem zb0:SpecOk Tryz.prog zf6 true (z02 true z6i) :=
 z06 z0g (show z10 Tryz.prog Plus_g from z00 Add64_ok (z04)) (by kernel_rfl) mixedOrders Tryz.func49 rfl rfl (by kernel_rfl) (n:=2) (by decide +kernel) (I:=Plus_IA) (fun _ _=>z05) (A:=Plus_A)
  (fun args h r hr=>by
   unfold z6i at hr
   split at hr
   ·rename_i a_0 a_1 b_0 b_1; cases hr; refine ⟨rfl,fun hp=>?_⟩; have hE:=Plus_E ⟨a_0,a_1⟩ ⟨b_0,b_1⟩ hp; exact hE
   ·cases hr)
def Minus_E0 (a : Wide) (b : Wide) : Prop :=
      ((0:Int) <= a.lo/\(0:Int) <= b.lo/\b.lo <= (18446744073709551615:Int)/\(0:Int) <= (0:Int)/\(0:Int) <= (1:Int)) /\
 ((0:Int) <= IntKind.u64.wrap a.hi /\
 (0:Int) <= IntKind.u64.wrap b.hi /\
 IntKind.u64.wrap b.hi <= (18446744073709551615:Int) /\
 ((0:Int) <= if a.lo < b.lo + (0:Int) then (1:Int) else (0:Int))/\(if a.lo < b.lo + (0:Int) then (1:Int) else (0:Int)) <= (1:Int)) /\
 ((IntKind.i64.wrap ((IntKind.u64.wrap a.hi - IntKind.u64.wrap b.hi - if a.lo < b.lo + (0:Int) then (1:Int) else (0:Int)) % (18446744073709551616:Int)) =
 (z2c a b).hi /\
 (a.lo - b.lo - (0:Int)) % (18446744073709551616:Int) = (z2c a b).lo/\True) /\
 True) /\
 True
theorem Minus_q (a:Wide) (b:Wide):Minus_E0 a b = z1f TT Minus_g (Minus_I a b) (Minus_an a b) Tryz.f28 [.agg (z0l a),.agg (z0l b)] [] (Minus_r a b):=by kernel_rfl
theorem Minus_E (a:Wide) (b:Wide) (hp:a.ok/\b.ok):FVc TT Minus_g (Minus_I a b) (Minus_an a b) Tryz.f28 [.agg (z0l a),.agg (z0l b)] [] (Minus_r a b):=by
 refine FVc.of (Minus_E0 a b) (Minus_q a b) ?_
 unfold Minus_E0
 simp only [eq_self,exists_const,forall_const,decide_eq_true_eq,decide_eq_false_iff_not,and_true,true_and,bne_iff_ne,ne_eq,bne_eq_false_iff_eq,Int.toNat_natCast,Bool.not_eq_true',Bool.not_eq_false',beq_iff_eq,beq_eq_false_iff_ne]
 obtain ⟨⟨⟨a1,a2⟩,a3,a4⟩,⟨b1,b2⟩,b3,b4⟩:=hp
 simp only [zcu,wrapI64,z2c,W,Wide.v]
 split <;> omega
theorem Minus_ok:SpecOk Tryz.prog Minus_n true (z02 true z9k) :=
 z06 z0g (show z10 Tryz.prog Minus_g from z00 Sub64_ok (z04)) (by kernel_rfl) mixedOrders Tryz.func28 rfl rfl (by kernel_rfl) (n:=2) (by decide +kernel) (I:=Minus_IA) (fun _ _=>z05) (A:=Minus_A)
  (fun args h r hr=>by
   unfold z9k at hr
   split at hr
   ·rename_i a_0 a_1 b_0 b_1; cases hr; refine ⟨rfl,fun hp=>?_⟩; have hE:=Minus_E ⟨a_0,a_1⟩ ⟨b_0,b_1⟩ hp; exact hE
   ·cases hr)
def nan1_E0 (n : Int) : Prop :=
   ((n != n) = false/\True)/\True
theorem nan1_q (n:Int):nan1_E0 n = z1f TT nan1_g (nan1_I n) (nan1_an n) Tryz.f98 [.int .i64 n] [] (nan1_r n):=by kernel_rfl
theorem nan1_E (n:Int) (hp:True):FVc TT nan1_g (nan1_I n) (nan1_an n) Tryz.f98 [.int .i64 n] [] (nan1_r n):=by
 refine FVc.of (nan1_E0 n) (nan1_q n) ?_
 unfold nan1_E0
 simp
theorem nan1_ok:SpecOk Tryz.prog nan1_n true (z02 true nan1_fs) :=
 z06 z0g (show z10 Tryz.prog nan1_g from z04) (by kernel_rfl) mixedOrders Tryz.func98 rfl rfl (by kernel_rfl) (n:=1) (by decide +kernel) (I:=nan1_IA) (fun _ _=>z05) (A:=nan1_A)
  (fun args h r hr=>by
   unfold nan1_fs at hr
   split at hr
   ·rename_i n; cases hr; refine ⟨rfl,fun hp=>?_⟩; have hE:=nan1_E n hp; exact hE
   ·cases hr)
def nan2_E0 (n : Int) : Prop :=
   ((n != n) = false/\True)/\True
theorem nan2_q (n:Int):nan2_E0 n = z1f TT nan2_g (nan2_I n) (nan2_an n) Tryz.f99 [.int .u64 n] [] (nan2_r n):=by kernel_rfl
theorem nan2_E (n:Int) (hp:True):FVc TT nan2_g (nan2_I n) (nan2_an n) Tryz.f99 [.int .u64 n] [] (nan2_r n):=by
 refine FVc.of (nan2_E0 n) (nan2_q n) ?_
 unfold nan2_E0
 simp
theorem nan2_ok:SpecOk Tryz.prog nan2_n true (z02 true nan2_fs) :=
 z06 z0g (show z10 Tryz.prog nan2_g from z04) (by kernel_rfl) mixedOrders Tryz.func99 rfl rfl (by kernel_rfl) (n:=1) (by decide +kernel) (I:=nan2_IA) (fun _ _=>z05) (A:=nan2_A)
  (fun args h r hr=>by
   unfold nan2_fs at hr
   split at hr
   ·rename_i n; cases hr; refine ⟨rfl,fun hp=>?_⟩; have hE:=nan2_E n hp; exact hE
   ·cases hr)
def cmp1_E0 (a : Int) (b : Int) : Prop :=
      True /\
 True /\
 (false = true ->
 (false = true->(((0:Int) = if a < b then (-1:Int) else if b < a then (1:Int) else (0:Int))/\True)/\True) /\
 (false = false->(((-1:Int) = if a < b then (-1:Int) else if b < a then (1:Int) else (0:Int))/\True)/\True)) /\
 (false = false ->
 (false = true->(((1:Int) = if a < b then (-1:Int) else if b < a then (1:Int) else (0:Int))/\True)/\True) /\
 (false = false ->
 (decide (a < b) = true->(((-1:Int) = if a < b then (-1:Int) else if b < a then (1:Int) else (0:Int))/\True)/\True) /\
 (decide (a < b) = false ->
 (decide (a > b) = true->(((1:Int) = if a < b then (-1:Int) else if b < a then (1:Int) else (0:Int))/\True)/\True) /\
 (decide (a > b) = false->(((0:Int) = if a < b then (-1:Int) else if b < a then (1:Int) else (0:Int))/\True)/\True))))
theorem cmp1_q (a:Int) (b:Int):cmp1_E0 a b = z1f TT cmp1_g (cmp1_I a b) (cmp1_an a b) Tryz.f54 [.int .i64 a,.int .i64 b] [] (cmp1_r a b):=by kernel_rfl
theorem cmp1_E (a:Int) (b:Int) (hp:True):FVc TT cmp1_g (cmp1_I a b) (cmp1_an a b) Tryz.f54 [.int .i64 a,.int .i64 b] [] (cmp1_r a b):=by
 refine FVc.of (cmp1_E0 a b) (cmp1_q a b) ?_
 unfold cmp1_E0
 simp
 grind
theorem cmp1_ok:SpecOk Tryz.prog cmp1_n true (z02 true cmp1_fs) :=
 z06 z0g (show z10 Tryz.prog cmp1_g from z00 nan1_ok (z04)) (by kernel_rfl) mixedOrders Tryz.func54 rfl rfl (by kernel_rfl) (n:=2) (by decide +kernel) (I:=cmp1_IA) (fun _ _=>z05) (A:=cmp1_A)
  (fun args h r hr=>by
   unfold cmp1_fs at hr
   split at hr
   ·rename_i a b; cases hr; refine ⟨rfl,fun hp=>?_⟩; have hE:=cmp1_E a b hp; exact hE
   ·cases hr)
def cmp2_E0 (a : Int) (b : Int) : Prop :=
      True /\
 True /\
 (false = true ->
 (false = true->(((0:Int) = if a < b then (-1:Int) else if b < a then (1:Int) else (0:Int))/\True)/\True) /\
 (false = false->(((-1:Int) = if a < b then (-1:Int) else if b < a then (1:Int) else (0:Int))/\True)/\True)) /\
 (false = false ->
 (false = true->(((1:Int) = if a < b then (-1:Int) else if b < a then (1:Int) else (0:Int))/\True)/\True) /\
 (false = false ->
 (decide (a < b) = true->(((-1:Int) = if a < b then (-1:Int) else if b < a then (1:Int) else (0:Int))/\True)/\True) /\
 (decide (a < b) = false ->
 (decide (a > b) = true->(((1:Int) = if a < b then (-1:Int) else if b < a then (1:Int) else (0:Int))/\True)/\True) /\
 (decide (a > b) = false->(((0:Int) = if a < b then (-1:Int) else if b < a then (1:Int) else (0:Int))/\True)/\True))))
theorem cmp2_q (a:Int) (b:Int):cmp2_E0 a b = z1f TT cmp2_g (cmp2_I a b) (cmp2_an a b) Tryz.f55 [.int .u64 a,.int .u64 b] [] (cmp2_r a b):=by kernel_rfl
theorem cmp2_E (a:Int) (b:Int) (hp:True):FVc TT cmp2_g (cmp2_I a b) (cmp2_an a b) Tryz.f55 [.int .u64 a,.int .u64 b] [] (cmp2_r a b):=by
 refine FVc.of (cmp2_E0 a b) (cmp2_q a b) ?_
 unfold cmp2_E0
 simp
 grind
theorem cmp2_ok:SpecOk Tryz.prog cmp2_n true (z02 true cmp2_fs) :=
 z06 z0g (show z10 Tryz.prog cmp2_g from z00 nan2_ok (z04)) (by kernel_rfl) mixedOrders Tryz.func55 rfl rfl (by kernel_rfl) (n:=2) (by decide +kernel) (I:=cmp2_IA) (fun _ _=>z05) (A:=cmp2_A)
  (fun args h r hr=>by
   unfold cmp2_fs at hr
   split at hr
   ·rename_i a b; cases hr; refine ⟨rfl,fun hp=>?_⟩; have hE:=cmp2_E a b hp; exact hE
   ·cases hr)
def zap (a : Wide) (b : Wide) : Prop :=
      ((a.hi != b.hi) = true->True/\((if a.hi < b.hi then (-1:Int) else if b.hi < a.hi then (1:Int) else (0:Int)) = zdd a b/\True)/\True) /\
 ((a.hi != b.hi) = false->True/\((if a.lo < b.lo then (-1:Int) else if b.lo < a.lo then (1:Int) else (0:Int)) = zdd a b/\True)/\True)
theorem Compare_q (a:Wide) (b:Wide):zap a b = z1f TT zej (Compare_I a b) (Compare_an a b) Tryz.f25 [.agg (z0l a),.agg (z0l b)] [] (zek a b):=by kernel_rfl
theorem Compare_E (a:Wide) (b:Wide) (hp:a.ok/\b.ok):FVc TT zej (Compare_I a b) (Compare_an a b) Tryz.f25 [.agg (z0l a),.agg (z0l b)] [] (zek a b):=by
 refine FVc.of (zap a b) (Compare_q a b) ?_
 unfold zap
 simp only [eq_self,exists_const,forall_const,decide_eq_true_eq,decide_eq_false_iff_not,and_true,true_and,bne_iff_ne,ne_eq,bne_eq_false_iff_eq,Int.toNat_natCast,Bool.not_eq_true',Bool.not_eq_false',beq_iff_eq,beq_eq_false_iff_ne]
 obtain ⟨⟨⟨a1,a2⟩,a3,a4⟩,⟨b1,b2⟩,b3,b4⟩:=hp
 unfold zdd Wide.v
 refine ⟨fun h=>?_,fun h=>?_⟩ <;> (repeat' split) <;> omega
theorem zaq:SpecOk Tryz.prog z9i true (z02 true z5d) :=
 z06 z0g (show z10 Tryz.prog zej from z00 cmp1_ok (z00 cmp2_ok (z04))) (by kernel_rfl) mixedOrders Tryz.func25 rfl rfl (by kernel_rfl) (n:=2) (by decide +kernel) (I:=Compare_IA) (fun _ _=>z05) (A:=Compare_A)
  (fun args h r hr=>by
   unfold z5d at hr
   split at hr
   ·rename_i a_0 a_1 b_0 b_1; cases hr; refine ⟨rfl,fun hp=>?_⟩; have hE:=Compare_E ⟨a_0,a_1⟩ ⟨b_0,b_1⟩ hp; exact hE
   ·cases hr)
def rOf_E0 (n : Int) : Prop :=
      (decide (n < (0:Int)) = true->(((-1:Int) = (W n).hi/\IntKind.u64.wrap n = (W n).lo/\True)/\True)/\True) /\
 (decide (n < (0:Int)) = false->(((0:Int) = (W n).hi/\IntKind.u64.wrap n = (W n).lo/\True)/\True)/\True)
theorem rOf_q (n:Int):rOf_E0 n = z1f TT rOf_g (rOf_I n) (rOf_an n) Tryz.f64 [.int .i64 n] [] (rOf_r n):=by kernel_rfl
theorem rOf_E (n:Int) (hp:I64 n):FVc TT rOf_g (rOf_I n) (rOf_an n) Tryz.f64 [.int .i64 n] [] (rOf_r n):=by
 refine FVc.of (rOf_E0 n) (rOf_q n) ?_
 unfold rOf_E0
 simp only [eq_self,exists_const,forall_const,decide_eq_true_eq,decide_eq_false_iff_not,and_true,true_and,bne_iff_ne,ne_eq,bne_eq_false_iff_eq,Int.toNat_natCast,Bool.not_eq_true',Bool.not_eq_false',beq_iff_eq,beq_eq_false_iff_ne]
 unfold I64 at hp
 simp only [zcu,W,and_true]
 omega
theorem rOf_ok:SpecOk Tryz.prog rOf_n true (z02 true rOf_fs) :=
 z06 z0g (show z10 Tryz.prog rOf_g from z04) (by kernel_rfl) mixedOrders Tryz.func64 rfl rfl (by kernel_rfl) (n:=1) (by decide +kernel) (I:=rOf_IA) (fun _ _=>z05) (A:=rOf_A)
  (fun args h r hr=>by
   unfold rOf_fs at hr
   split at hr
   ·rename_i n; cases hr; refine ⟨rfl,fun hp=>?_⟩; have hE:=rOf_E n hp; exact hE
   ·cases hr)
def rPlus_E0 (a : Wide) (b : Wide) : Prop :=
      (decide (IntKind.u64.wrap (a.lo + b.lo) < a.lo) = true ->
 ((IntKind.i64.wrap (IntKind.i64.wrap (a.hi + b.hi) + (1:Int)) = (z27 a b).hi/\IntKind.u64.wrap (a.lo + b.lo) = (z27 a b).lo/\True)/\True)/\True) /\
 (decide (IntKind.u64.wrap (a.lo + b.lo) < a.lo) = false ->
 ((IntKind.i64.wrap (a.hi + b.hi) = (z27 a b).hi/\IntKind.u64.wrap (a.lo + b.lo) = (z27 a b).lo/\True)/\True)/\True)
theorem rPlus_q (a:Wide) (b:Wide):rPlus_E0 a b = z1f TT rPlus_g (rPlus_I a b) (rPlus_an a b) Tryz.f63 [.agg (z0l a),.agg (z0l b)] [] (rPlus_r a b):=by kernel_rfl
theorem rPlus_E (a:Wide) (b:Wide) (hp:a.ok/\b.ok):FVc TT rPlus_g (rPlus_I a b) (rPlus_an a b) Tryz.f63 [.agg (z0l a),.agg (z0l b)] [] (rPlus_r a b):=by
 refine FVc.of (rPlus_E0 a b) (rPlus_q a b) ?_
 unfold rPlus_E0
 simp only [eq_self,exists_const,forall_const,decide_eq_true_eq,decide_eq_false_iff_not,and_true,true_and,bne_iff_ne,ne_eq,bne_eq_false_iff_eq,Int.toNat_natCast,Bool.not_eq_true',Bool.not_eq_false',beq_iff_eq,beq_eq_false_iff_ne]
 obtain ⟨⟨⟨a1,a2⟩,a3,a4⟩,⟨b1,b2⟩,b3,b4⟩:=hp
 simp only [zcu,wrapI64,z27,W,Wide.v]
 omega
theorem za9:SpecOk Tryz.prog zcb true (z02 true z67) :=
 z06 z0g (show z10 Tryz.prog rPlus_g from z04) (by kernel_rfl) mixedOrders Tryz.func63 rfl rfl (by kernel_rfl) (n:=2) (by decide +kernel) (I:=rPlus_IA) (fun _ _=>z05) (A:=rPlus_A)
  (fun args h r hr=>by
   unfold z67 at hr
   split at hr
   ·rename_i a_0 a_1 b_0 b_1; cases hr; refine ⟨rfl,fun hp=>?_⟩; have hE:=rPlus_E ⟨a_0,a_1⟩ ⟨b_0,b_1⟩ hp; exact hE
   ·cases hr)
def rLess_E0 (a : Wide) : Prop :=
      ({ hi:=notS IntKind.i64 a.hi,lo:=notS IntKind.u64 a.lo:Wide }.ok/\{ hi:=(0:Int),lo:=(1:Int):Wide }.ok) /\
 (((z27 { hi:=notS IntKind.i64 a.hi,lo:=notS IntKind.u64 a.lo:Wide } { hi:=(0:Int),lo:=(1:Int):Wide }).hi = (W (-a.v)).hi /\
 (z27 { hi:=notS IntKind.i64 a.hi,lo:=notS IntKind.u64 a.lo:Wide } { hi:=(0:Int),lo:=(1:Int):Wide }).lo = (W (-a.v)).lo/\True) /\
 True) /\
 True
theorem rLess_q (a:Wide):rLess_E0 a = z1f TT rLess_g (rLess_I a) (rLess_an a) Tryz.f170 [.agg (z0l a)] [] (rLess_r a):=by kernel_rfl
theorem rLess_E (a:Wide) (hp:a.ok):FVc TT rLess_g (rLess_I a) (rLess_an a) Tryz.f170 [.agg (z0l a)] [] (rLess_r a):=by
 refine FVc.of (rLess_E0 a) (rLess_q a) ?_
 unfold rLess_E0
 simp only [eq_self,exists_const,forall_const,decide_eq_true_eq,decide_eq_false_iff_not,and_true,true_and,bne_iff_ne,ne_eq,bne_eq_false_iff_eq,Int.toNat_natCast,Bool.not_eq_true',Bool.not_eq_false',beq_iff_eq,beq_eq_false_iff_ne]
 have h1:=not_i64 hp.1
 have h2:=not_u64 hp.2
 obtain ⟨⟨a1,a2⟩,a3,a4⟩:=hp
 simp only [h1,h2]
 simp only [z27,W,Wide.v,Wide.ok,I64,U64]
 omega
theorem rLess_ok:SpecOk Tryz.prog rLess_n true (z02 true rLess_fs) :=
 z06 z0g (show z10 Tryz.prog rLess_g from z00 za9 (z04)) (by kernel_rfl) mixedOrders Tryz.func170 rfl rfl (by kernel_rfl) (n:=1) (by decide +kernel) (I:=rLess_IA) (fun _ _=>z05) (A:=rLess_A)
  (fun args h r hr=>by
   unfold rLess_fs at hr
   split at hr
   ·rename_i a_0 a_1; cases hr; refine ⟨rfl,fun hp=>?_⟩; have hE:=rLess_E ⟨a_0,a_1⟩ hp; exact hE
   ·cases hr)
def zi1 (a : Wide) (b : Wide) : Prop :=
   b.ok/\(a.ok/\(W (-b.v)).ok)/\(((z27 a (W (-b.v))).hi = (z2c a b).hi/\(z27 a (W (-b.v))).lo = (z2c a b).lo/\True)/\True)/\True
theorem rMinus_q (a:Wide) (b:Wide):zi1 a b = z1f TT rMinus_g (rMinus_I a b) (rMinus_an a b) Tryz.f151 [.agg (z0l a),.agg (z0l b)] [] (rMinus_r a b):=by kernel_rfl
theorem rMinus_E (a:Wide) (b:Wide) (hp:a.ok/\b.ok):FVc TT rMinus_g (rMinus_I a b) (rMinus_an a b) Tryz.f151 [.agg (z0l a),.agg (z0l b)] [] (rMinus_r a b):=by
 refine FVc.of (zi1 a b) (rMinus_q a b) ?_
 unfold zi1
 simp only [eq_self,exists_const,forall_const,decide_eq_true_eq,decide_eq_false_iff_not,and_true,true_and,bne_iff_ne,ne_eq,bne_eq_false_iff_eq,Int.toNat_natCast,Bool.not_eq_true',Bool.not_eq_false',beq_iff_eq,beq_eq_false_iff_ne]
 have e:z27 a (W (-b.v)) = z2c a b:=by
  conv=>lhs; rw [<- W_v hp.1]
  rw [z45]
  unfold z2c
  congr 1
 rw [e]
 exact ⟨hp.2,⟨hp.1,z6e _⟩,rfl,rfl⟩
theorem rMinus_ok:SpecOk Tryz.prog rMinus_n true (z02 true za8) :=
 z06 z0g (show z10 Tryz.prog rMinus_g from z00 za9 (z00 rLess_ok (z04))) (by kernel_rfl) mixedOrders Tryz.func151 rfl rfl (by kernel_rfl) (n:=2) (by decide +kernel) (I:=rMinus_IA) (fun _ _=>z05) (A:=rMinus_A)
  (fun args h r hr=>by
   unfold za8 at hr
   split at hr
   ·rename_i a_0 a_1 b_0 b_1; cases hr; refine ⟨rfl,fun hp=>?_⟩; have hE:=rMinus_E ⟨a_0,a_1⟩ ⟨b_0,b_1⟩ hp; exact hE
   ·cases hr)
def z8s (a : Wide) (b : Wide) : Prop :=
      ((a.hi != b.hi) = true->(decide (a.hi < b.hi) = true->((-1:Int) = zdd a b/\True)/\True)/\(decide (a.hi < b.hi) = false->((1:Int) = zdd a b/\True)/\True)) /\
 ((a.hi != b.hi) = false ->
 ((a.lo != b.lo) = true->(decide (a.lo < b.lo) = true->((-1:Int) = zdd a b/\True)/\True)/\(decide (a.lo < b.lo) = false->((1:Int) = zdd a b/\True)/\True)) /\
 ((a.lo != b.lo) = false->((0:Int) = zdd a b/\True)/\True))
theorem rCompare_q (a:Wide) (b:Wide):z8s a b = z1f TT zc2 (rCompare_I a b) (zhw a b) Tryz.f135 [.agg (z0l a),.agg (z0l b)] [] (zc3 a b):=by kernel_rfl
theorem rCompare_E (a:Wide) (b:Wide) (hp:a.ok/\b.ok):FVc TT zc2 (rCompare_I a b) (zhw a b) Tryz.f135 [.agg (z0l a),.agg (z0l b)] [] (zc3 a b):=by
 refine FVc.of (z8s a b) (rCompare_q a b) ?_
 unfold z8s
 simp only [eq_self,exists_const,forall_const,decide_eq_true_eq,decide_eq_false_iff_not,and_true,true_and,bne_iff_ne,ne_eq,bne_eq_false_iff_eq,Int.toNat_natCast,Bool.not_eq_true',Bool.not_eq_false',beq_iff_eq,beq_eq_false_iff_ne]
 obtain ⟨⟨⟨a1,a2⟩,a3,a4⟩,⟨b1,b2⟩,b3,b4⟩:=hp
 unfold zdd Wide.v
 refine ⟨fun h=>⟨fun h2=>?_,fun h2=>?_⟩,fun h=>⟨fun h2=>⟨fun h3=>?_,fun h3=>?_⟩,fun h2=>?_⟩⟩ <;> (repeat' split) <;> omega
theorem rCompare_ok:SpecOk Tryz.prog rCompare_n true (z02 true z8t) :=
 z06 z0g (show z10 Tryz.prog zc2 from z04) (by kernel_rfl) mixedOrders Tryz.func135 rfl rfl (by kernel_rfl) (n:=2) (by decide +kernel) (I:=rCompare_IA) (fun _ _=>z05) (A:=rCompare_A)
  (fun args h r hr=>by
   unfold z8t at hr
   split at hr
   ·rename_i a_0 a_1 b_0 b_1; cases hr; refine ⟨rfl,fun hp=>?_⟩; have hE:=rCompare_E ⟨a_0,a_1⟩ ⟨b_0,b_1⟩ hp; exact hE
   ·cases hr)
end Go.Proofs.YtapeenpimcffpaaGreat
end
section
namespace Go.Proofs.YtapeenpimcffpaaGreat
open Go Go.RowKit Go.Ql Go.Vc
def rfit_r (I:Inst) (a:Int):FRes:={ pre:=True,res:=.bool (gOk I.sup.length I.arcs a),rows:=[],eff:=[] }
def rfit_fs:FS:=fun args h=>match args,h with
 | [.agg [.row 0,.row 1],.int .i64 a],[(0,.row false ty0 (.ints .i64 I_s)),(1,.row false ty1 (.arcs I_a))]=>some (rfit_r ⟨I_s,I_a⟩ a)
 | _,_=>none
def rfit_an (I:Inst) (a:Int):List (Nat × Ann):=[]
def rfit_A:List SV->z0c->List (Nat × Ann):=fun _ _=>[]
def rfit_g:z0b:=[]
abbrev rfit_n:Nat:=169
def rfit_I (I:Inst) (a:Int):List (Nat × z08):=[]
def rfit_IA:List SV->z0c->List (Nat × z08):=fun _ _=>[]
end Go.Proofs.YtapeenpimcffpaaGreat
end
section
namespace Go.Proofs.YtapeenpimcffpaaGreat
open Go Go.RowKit Go.Ql Go.Vc
def rfit_E0 (I : Inst) (a : Int) (ty0 ty1 : TypeId) : Prop :=
      (decide (a < (0:Int)) = true->(false = gOk (↑I.sup.length:Int) I.arcs a/\True)/\True) /\
 (decide (a < (0:Int)) = false ->
 (decide (a ≥ (↑I.arcs.length:Int)) = true->(false = gOk (↑I.sup.length:Int) I.arcs a/\True)/\True) /\
 (decide (a ≥ (↑I.arcs.length:Int)) = false ->
 ((0:Int) <= a/\a < (↑I.arcs.length:Int)) /\
 a.toNat < I.arcs.length /\
 ∀ (x:Arc),
 I.arcs[a.toNat]? = some x ->
 (decide (x.src ≥ (0:Int)) = true ->
 (decide (x.src < (↑I.sup.length:Int)) = true ->
 (decide (x.dst ≥ (0:Int)) = true->(decide (x.dst < (↑I.sup.length:Int)) = gOk (↑I.sup.length:Int) I.arcs a/\True)/\True) /\
 (decide (x.dst ≥ (0:Int)) = false->(false = gOk (↑I.sup.length:Int) I.arcs a/\True)/\True)) /\
 (decide (x.src < (↑I.sup.length:Int)) = false->(false = gOk (↑I.sup.length:Int) I.arcs a/\True)/\True)) /\
 (decide (x.src ≥ (0:Int)) = false->(false = gOk (↑I.sup.length:Int) I.arcs a/\True)/\True)))
theorem rfit_q (I:Inst) (a:Int) (ty0 ty1:TypeId):rfit_E0 I a ty0 ty1 = z1f TT rfit_g (rfit_I I a) (rfit_an I a) Tryz.f169 [.agg [.row 0,.row 1],.int .i64 a] [(0,.row false ty0 (.ints .i64 I.sup)),(1,.row false ty1 (.arcs I.arcs))] (rfit_r I a):=by kernel_rfl
theorem rfit_E (I:Inst) (a:Int) (ty0 ty1:TypeId) (hp:True):FVc TT rfit_g (rfit_I I a) (rfit_an I a) Tryz.f169 [.agg [.row 0,.row 1],.int .i64 a] [(0,.row false ty0 (.ints .i64 I.sup)),(1,.row false ty1 (.arcs I.arcs))] (rfit_r I a):=by
 refine FVc.of (rfit_E0 I a ty0 ty1) (rfit_q I a ty0 ty1) ?_
 unfold rfit_E0
 simp only [eq_self,exists_const,forall_const,decide_eq_true_eq,decide_eq_false_iff_not,and_true,true_and,bne_iff_ne,ne_eq,bne_eq_false_iff_eq,Int.toNat_natCast,Bool.not_eq_true',Bool.not_eq_false',beq_iff_eq,beq_eq_false_iff_ne,z07]
 refine ⟨fun h=>(z8l (.inl h)).symm,fun h=>⟨fun h2=>(z8l (.inr h2)).symm,fun h2=>⟨by omega,by omega,fun x hx=>?_⟩⟩⟩
 rw [z7z (by omega) hx]
 unfold z25
 refine ⟨fun h3=>⟨fun h4=>⟨fun h5=>?_,fun h5=>?_⟩,fun h4=>?_⟩,fun h3=>?_⟩
 ·simp [show 0 <= x.src from h3,h4,show 0 <= x.dst from h5]
 ·simp; omega
 ·simp; omega
 ·simp; omega
theorem rfit_ok:SpecOk Tryz.prog rfit_n true (z02 true rfit_fs) :=
 z06 z0g (show z10 Tryz.prog rfit_g from z04) (by kernel_rfl) mixedOrders Tryz.func169 rfl rfl (by kernel_rfl) (n:=2) (by decide +kernel) (I:=rfit_IA) (fun _ _=>z05) (A:=rfit_A)
  (fun args h r hr=>by
   unfold rfit_fs at hr
   split at hr
   ·rename_i a ty0 I_s ty1 I_a; cases hr; refine ⟨rfl,fun hp=>?_⟩; have hE:=rfit_E ⟨I_s,I_a⟩ a ty0 ty1 hp; exact hE
   ·cases hr)
end Go.Proofs.YtapeenpimcffpaaGreat
end
section
namespace Go.Proofs.YtapeenpimcffpaaGreat
open Go Go.RowKit Go.Ql Go.Vc
def has_r (g_n:Int) (g_l:List Arc) (g_i:List Int) (g_s:List Int) (a:Int):FRes:={ pre:=True,res:=.bool (decide (0 <= a) && decide (a < g_n)),rows:=[],eff:=[] }
def has_fs:FS:=fun args h=>match args,h with
 | [.ptr 0 0 0 0,.int .i64 a],[(0,.box false ty0 [.int .i64 g_n,.row 1,.row 2,.row 3]),(1,.row false ty1 (.arcs g_l)),(2,.row false ty2 (.ints .i64 g_i)),(3,.row false ty3 (.ints .i64 g_s))]=>some (has_r g_n g_l g_i g_s a)
 | _,_=>none
def has_an (g_n:Int) (g_l:List Arc) (g_i:List Int) (g_s:List Int) (a:Int):List (Nat × Ann):=[]
def has_A:List SV->z0c->List (Nat × Ann):=fun _ _=>[]
def has_g:z0b:=[]
abbrev has_n:Nat:=125
def has_I (g_n:Int) (g_l:List Arc) (g_i:List Int) (g_s:List Int) (a:Int):List (Nat × z08):=[]
def has_IA:List SV->z0c->List (Nat × z08):=fun _ _=>[]
def GArc_r (g_n:Int) (g_l:List Arc) (g_i:List Int) (g_s:List Int) (a:Int):FRes:={ pre:=True,res:=.tup [.agg (z4n (z1o g_n g_l a)),.bool (gOk g_n g_l a)],rows:=[],eff:=[] }
def GArc_fs:FS:=fun args h=>match args,h with
 | [.ptr 0 0 0 0,.int .i64 a],[(0,.box false ty0 [.int .i64 g_n,.row 1,.row 2,.row 3]),(1,.row false ty1 (.arcs g_l)),(2,.row false ty2 (.ints .i64 g_i)),(3,.row false ty3 (.ints .i64 g_s))]=>some (GArc_r g_n g_l g_i g_s a)
 | _,_=>none
def GArc_an (g_n:Int) (g_l:List Arc) (g_i:List Int) (g_s:List Int) (a:Int):List (Nat × Ann):=[]
def GArc_A:List SV->z0c->List (Nat × Ann):=fun _ _=>[]
def GArc_g:z0b:=[(has_n,(true,z02 true has_fs))]
abbrev GArc_n:Nat:=106
def GArc_I (g_n:Int) (g_l:List Arc) (g_i:List Int) (g_s:List Int) (a:Int):List (Nat × z08):=[]
def GArc_IA:List SV->z0c->List (Nat × z08):=fun _ _=>[]
def CloneI_r (l:List Int):FRes:={ pre:=l.length <= 1000000000,res:=.row 1,rows:=[.row 3 (.ints .i64 (l))],eff:=[] }
def zeh:FS:=fun args h=>match args,h with
 | [.row 0],[(0,.row false ty0 (.ints .i64 l))]=>some (CloneI_r l)
 | _,_=>none
def CloneI_an (l:List Int):List (Nat × Ann):=[]
def CloneI_A:List SV->z0c->List (Nat × Ann):=fun _ _=>[]
def CloneI_g:z0b:=[]
abbrev CloneI_n:Nat:=107
def CloneI_I (l:List Int):List (Nat × z08):=[]
def CloneI_IA:List SV->z0c->List (Nat × z08):=fun _ _=>[]
abbrev put_n:Nat:=108
def put_g:z0b:=[]
def put_spec:Vc.Spec:=z2h TT put_g (fun _ _ _=>[]) Tryz.f108
def New_r (I:Inst):FRes:={ pre:=I.sup.length <= 10000/\I.arcs.length <= 10000,res:=.ptr 2 0 0 0,rows:=[.box 149 [.int .i64 I.sup.length,.row 3,.row 4,.row 5],.row 65 (.arcs I.arcs),.row 3 (.ints .i64 (z9v I)),.row 3 (.ints .i64 (z1v I))],eff:=[] }
def New_fs:FS:=fun args h=>match args,h with
 | [.agg [.row 0,.row 1]],[(0,.row false ty0 (.ints .i64 I_s)),(1,.row false ty1 (.arcs I_a))]=>some (New_r ⟨I_s,I_a⟩)
 | _,_=>none
def New_an (I:Inst):List (Nat × Ann):=[(1000002,{ G:=Unit,inv:=fun _=>⟨[(3,.ptr 9 0 0 0)],[(9,.box true 114 [.ptr 8 0 0 0]),(8,.box true 149 [.int .i64 (↑I.sup.length:Int),.row 4,.row 6,.row 7]),(6,.row true 3 (.ints .i64 [])),(7,.row true 3 (.ints .i64 [])),(4,.row true 65 (.arcs I.arcs))],10⟩,rel:=fun _ _=>True,meas:=fun _=>0 }),
 (4,{ G:=(Nat),inv:=fun k=>⟨[(3,.ptr 9 0 0 0),(35,.int .i64 (↑I.arcs.length:Int)),(36,.int .i64 k)],[(10,.row true 3 (.ints .i64 (S1 I k))),(9,.box true 114 [.ptr 8 0 0 0]),(8,.box true 149 [.int .i64 (↑I.sup.length:Int),.row 4,.row 6,.row 10]),(6,.row true 3 (.ints .i64 [])),(4,.row true 65 (.arcs I.arcs))],11⟩,rel:=fun k0 k=>k <= I.arcs.length,meas:=fun k=>I.arcs.length - k }),
 (12,{ G:=(Nat),inv:=fun k=>⟨[(3,.ptr 9 0 0 0),(77,.int .i64 (2 * I.sup.length:Nat)),(78,.int .i64 k)],[(10,.row true 3 (.ints .i64 (S2 I k))),(9,.box true 114 [.ptr 8 0 0 0]),(8,.box true 149 [.int .i64 (↑I.sup.length:Int),.row 4,.row 6,.row 10]),(6,.row true 3 (.ints .i64 [])),(4,.row true 65 (.arcs I.arcs))],11⟩,rel:=fun k0 k=>k <= 2 * I.sup.length,meas:=fun k=>2 * I.sup.length - k }),
 (20,{ G:=(Nat),inv:=fun k=>⟨[(3,.ptr 9 0 0 0),(9,.fn 108 [.ptr 9 0 0 0,.ptr 14 0 0 0]),(124,.int .i64 (↑I.arcs.length:Int)),(125,.int .i64 k)],[(14,.box true 29 [.row 12]),(12,.row true 3 (.ints .i64 (N3 I k))),(11,.row true 3 (.ints .i64 (L3 I k))),(10,.row true 3 (.ints .i64 (z1v I))),(9,.box true 114 [.ptr 8 0 0 0]),(8,.box true 149 [.int .i64 (↑I.sup.length:Int),.row 4,.row 11,.row 10]),(4,.row true 65 (.arcs I.arcs))],15⟩,rel:=fun k0 k=>k <= I.arcs.length,meas:=fun k=>I.arcs.length - k })]
def New_A:List SV->z0c->List (Nat × Ann):=fun args h=>match args,h with
 | [.agg [.row 0,.row 1]],[(0,.row false ty0 (.ints .i64 I_s)),(1,.row false ty1 (.arcs I_a))]=>New_an ⟨I_s,I_a⟩
 | _,_=>[]
def New_g:z0b:=[(Copy_n,(true,z02 true Copy_fs)),(GArc_n,(true,z02 true GArc_fs)),(CloneI_n,(true,z02 true zeh)),(put_n,(false,put_spec))]
abbrev New_n:Nat:=79
def New_I (I:Inst):List (Nat × z08):=[]
def New_IA:List SV->z0c->List (Nat × z08):=fun _ _=>[]
def along_r (x:List Int) (a:Int):FRes:={ pre:=0 <= a,res:=.int .i64 (x.getD a.toNat 0),rows:=[],eff:=[] }
def along_fs:FS:=fun args h=>match args,h with
 | [.row 0,.int .i64 a],[(0,.row false ty0 (.ints .i64 x))]=>some (along_r x a)
 | _,_=>none
def along_an (x:List Int) (a:Int):List (Nat × Ann):=[]
def along_A:List SV->z0c->List (Nat × Ann):=fun _ _=>[]
def along_g:z0b:=[]
abbrev along_n:Nat:=101
def along_I (x:List Int) (a:Int):List (Nat × z08):=[]
def along_IA:List SV->z0c->List (Nat × z08):=fun _ _=>[]
def fit_r (x:Arc) (n:Int):FRes:={ pre:=True,res:=.bool (fitF x n),rows:=[],eff:=[] }
def fit_fs:FS:=fun args h=>match args,h with
 | [.agg [.int .i64 x_0,.int .i64 x_1,.int .i64 x_2,.int .i64 x_3,.int .i64 x_4],.int .i64 n],[]=>some (fit_r ⟨x_0,x_1,x_2,x_3,x_4⟩ n)
 | _,_=>none
def fit_an (x:Arc) (n:Int):List (Nat × Ann):=[]
def fit_A:List SV->z0c->List (Nat × Ann):=fun _ _=>[]
def fit_g:z0b:=[]
abbrev fit_n:Nat:=147
def fit_I (x:Arc) (n:Int):List (Nat × z08):=[]
def fit_IA:List SV->z0c->List (Nat × z08):=fun _ _=>[]
abbrev more_n:Nat:=175
def more_g:z0b:=[(Of_n,(true,z02 true zaw)),(zf6,(true,z02 true z6i))]
def more_spec:Vc.Spec:=z2h TT more_g (fun _ _ _=>[]) Tryz.f175
abbrev less_n:Nat:=176
def less_g:z0b:=[(Of_n,(true,z02 true zaw)),(Minus_n,(true,z02 true z9k))]
def less_spec:Vc.Spec:=z2h TT less_g (fun _ _ _=>[]) Tryz.f176
abbrev flows_n:Nat:=161
def flows_g:z0b:=[(GArc_n,(true,z02 true GArc_fs)),(more_n,(false,more_spec)),(less_n,(false,less_spec))]
def flows_spec:Vc.Spec:=z2h TT flows_g (fun _ _ _=>[]) Tryz.f161
def Net_r (I:Inst) (x:List Int):FRes:={ pre:=I.sup.length <= 10000/\I.arcs.length <= 10000/\A64 x,res:=.row 3,rows:=[.row 54 (.wides (z3s I x))],eff:=[] }
def Net_fs:FS:=fun args h=>match args,h with
 | [.agg [.row 0,.row 1],.row 2],[(0,.row false ty0 (.ints .i64 I_s)),(1,.row false ty1 (.arcs I_a)),(2,.row false ty2 (.ints .i64 x))]=>some (Net_r ⟨I_s,I_a⟩ x)
 | _,_=>none
def Net_an (I:Inst) (x:List Int):List (Nat × Ann):=[(1000002,{ G:=Unit,inv:=fun _=>⟨[(1,.row 2),(2,.ptr 3 0 0 0),(5,.ptr 12 0 0 0)],[(12,.box true 205 [.row 5,.ptr 6 0 0 0]),(6,.box true 149 [.int .i64 (↑I.sup.length:Int),.row 7,.row 8,.row 9]),(7,.row true 65 (.arcs I.arcs)),(8,.row true 3 (.ints .i64 (z9v I))),(9,.row true 3 (.ints .i64 (z1v I))),(5,.row true 54 (.wides (List.replicate (↑I.sup.length:Int).toNat { hi:=(0:Int),lo:=(0:Int):Wide }))),(3,.box true 25 [.row 0,.row 1]),(0,.row false 0 (.ints .i64 I.sup)),(1,.row false 0 (.arcs I.arcs)),(2,.row false 0 (.ints .i64 x))],13⟩,rel:=fun _ _=>True,meas:=fun _=>0 }),
 (3,{ G:=(Nat),inv:=fun k=>⟨[(1,.row 2),(5,.ptr 12 0 0 0),(16,.int .i64 (↑I.arcs.length:Int)),(17,.int .i64 k)],[(12,.box true 205 [.row 5,.ptr 6 0 0 0]),(6,.box true 149 [.int .i64 (↑I.sup.length:Int),.row 7,.row 8,.row 9]),(7,.row true 65 (.arcs I.arcs)),(8,.row true 3 (.ints .i64 (z9v I))),(9,.row true 3 (.ints .i64 (z1v I))),(5,.row true 54 (.wides (z4b I x k))),(2,.row false 0 (.ints .i64 x))],13⟩,rel:=fun k0 k=>k <= I.arcs.length,meas:=fun k=>I.arcs.length - k })]
def Net_A:List SV->z0c->List (Nat × Ann):=fun args h=>match args,h with
 | [.agg [.row 0,.row 1],.row 2],[(0,.row false ty0 (.ints .i64 I_s)),(1,.row false ty1 (.arcs I_a)),(2,.row false ty2 (.ints .i64 x))]=>Net_an ⟨I_s,I_a⟩ x
 | _,_=>[]
def Net_g:z0b:=[(New_n,(true,z02 true New_fs)),(along_n,(true,z02 true along_fs)),(flows_n,(false,flows_spec))]
abbrev Net_n:Nat:=148
def Net_I (I:Inst) (x:List Int):List (Nat × z08):=[]
def Net_IA:List SV->z0c->List (Nat × z08):=fun _ _=>[]
def Fits_r (I:Inst) (x:List Int):FRes:={ pre:=I.sup.length <= 10000/\I.arcs.length <= 10000/\A64 x/\A64 I.sup,res:=.int .u16 (z0v I x),rows:=[],eff:=[] }
def Fits_fs:FS:=fun args h=>match args,h with
 | [.agg [.row 0,.row 1],.row 2],[(0,.row false ty0 (.ints .i64 I_s)),(1,.row false ty1 (.arcs I_a)),(2,.row false ty2 (.ints .i64 x))]=>some (Fits_r ⟨I_s,I_a⟩ x)
 | _,_=>none
def Fits_an (I:Inst) (x:List Int):List (Nat × Ann):=[(7,{ G:=(Nat),inv:=fun k=>⟨[(1,.row 2),(2,.ptr 3 0 0 0),(22,.row 1),(23,.int .i64 (↑I.arcs.length:Int)),(24,.int .i64 k)],[(3,.box true 25 [.row 0,.row 1]),(0,.row false 0 (.ints .i64 I.sup)),(1,.row false 0 (.arcs I.arcs)),(2,.row false 0 (.ints .i64 x))],4⟩,rel:=fun k0 k=>k <= I.arcs.length/\z18 (I.arcs.drop k) (x.drop k) = z18 I.arcs x,meas:=fun k=>I.arcs.length - k }),
 (13,{ G:=(Nat),inv:=fun k=>⟨[(2,.ptr 3 0 0 0),(39,.row 4),(40,.int .i64 (↑(z3s I x).length:Int)),(41,.int .i64 k)],[(4,.row true 54 (.wides (z3s I x))),(3,.box true 25 [.row 0,.row 1]),(0,.row false 0 (.ints .i64 I.sup)),(1,.row false 0 (.arcs I.arcs))],5⟩,rel:=fun k0 k=>k <= I.sup.length/\∀ v,v < k->W (z2v I.sup.length I.arcs x I.arcs.length v) = W (I.sup.getD v 0),meas:=fun k=>I.sup.length - k })]
def Fits_A:List SV->z0c->List (Nat × Ann):=fun args h=>match args,h with
 | [.agg [.row 0,.row 1],.row 2],[(0,.row false ty0 (.ints .i64 I_s)),(1,.row false ty1 (.arcs I_a)),(2,.row false ty2 (.ints .i64 x))]=>Fits_an ⟨I_s,I_a⟩ x
 | _,_=>[]
def Fits_g:z0b:=[(zb1,(true,z02 true z5r)),(fit_n,(true,z02 true fit_fs)),(Net_n,(true,z02 true Net_fs)),(Of_n,(true,z02 true zaw))]
abbrev Fits_n:Nat:=133
def Fits_I (I:Inst) (x:List Int):List (Nat × z08):=[]
def Fits_IA:List SV->z0c->List (Nat × z08):=fun _ _=>[]
def rArc_r (I:Inst) (a:Int):FRes:={ pre:=True,res:=.tup [.agg (z4n (z1o I.sup.length I.arcs a)),.bool (gOk I.sup.length I.arcs a)],rows:=[],eff:=[] }
def rArc_fs:FS:=fun args h=>match args,h with
 | [.agg [.row 0,.row 1],.int .i64 a],[(0,.row false ty0 (.ints .i64 I_s)),(1,.row false ty1 (.arcs I_a))]=>some (rArc_r ⟨I_s,I_a⟩ a)
 | _,_=>none
def rArc_an (I:Inst) (a:Int):List (Nat × Ann):=[]
def rArc_A:List SV->z0c->List (Nat × Ann):=fun _ _=>[]
def rArc_g:z0b:=[(rfit_n,(true,z02 true rfit_fs))]
abbrev rArc_n:Nat:=150
def rArc_I (I:Inst) (a:Int):List (Nat × z08):=[]
def rArc_IA:List SV->z0c->List (Nat × z08):=fun _ _=>[]
def At_r (x:List Int) (a:Int):FRes:={ pre:=True,res:=.int .i64 (if 0 <= a then x.getD a.toNat 0 else 0),rows:=[],eff:=[] }
def At_fs:FS:=fun args h=>match args,h with
 | [.row 0,.int .i64 a],[(0,.row false ty0 (.ints .i64 x))]=>some (At_r x a)
 | _,_=>none
def At_an (x:List Int) (a:Int):List (Nat × Ann):=[]
def At_A:List SV->z0c->List (Nat × Ann):=fun _ _=>[]
def At_g:z0b:=[]
abbrev At_n:Nat:=152
def At_I (x:List Int) (a:Int):List (Nat × z08):=[]
def At_IA:List SV->z0c->List (Nat × z08):=fun _ _=>[]
def rNet_r (I:Inst) (x:List Int):FRes:={ pre:=A64 x/\I.sup.length <= 10000/\I.arcs.length <= 10000,res:=.row 3,rows:=[.row 54 (.wides (z3s I x))],eff:=[] }
def rNet_fs:FS:=fun args h=>match args,h with
 | [.agg [.row 0,.row 1],.row 2],[(0,.row false ty0 (.ints .i64 I_s)),(1,.row false ty1 (.arcs I_a)),(2,.row false ty2 (.ints .i64 x))]=>some (rNet_r ⟨I_s,I_a⟩ x)
 | _,_=>none
def rNet_an (I:Inst) (x:List Int):List (Nat × Ann):=[(3,{ G:=(Nat),inv:=fun v=>⟨[(1,.row 2),(2,.ptr 3 0 0 0),(5,.row 5),(6,.int .i64 v)],[(5,.row true 54 (.wides ((z3s I x).take v))),(3,.box true 25 [.row 0,.row 1]),(0,.row false 0 (.ints .i64 I.sup)),(1,.row false 0 (.arcs I.arcs)),(2,.row false 0 (.ints .i64 x))],6⟩,rel:=fun v0 v=>v <= I.sup.length,meas:=fun v=>I.sup.length - v }),
 (7,{ G:=(Nat) × (Nat),inv:=fun ⟨v,k⟩=>⟨[(1,.row 2),(2,.ptr 3 0 0 0),(5,.row 5),(6,.int .i64 v),(7,.ptr 6 0 0 0),(8,.int .i64 k)],[(6,.box true 54 (z0l (W (z2v I.sup.length I.arcs x k v)))),(5,.row true 54 (.wides ((z3s I x).take v))),(3,.box true 25 [.row 0,.row 1]),(0,.row false 0 (.ints .i64 I.sup)),(1,.row false 0 (.arcs I.arcs)),(2,.row false 0 (.ints .i64 x))],7⟩,rel:=fun ⟨v0,k0⟩ ⟨v,k⟩=>v < I.sup.length/\v = v0/\k <= I.arcs.length,meas:=fun ⟨v,k⟩=>I.arcs.length - k })]
def rNet_A:List SV->z0c->List (Nat × Ann):=fun args h=>match args,h with
 | [.agg [.row 0,.row 1],.row 2],[(0,.row false ty0 (.ints .i64 I_s)),(1,.row false ty1 (.arcs I_a)),(2,.row false ty2 (.ints .i64 x))]=>rNet_an ⟨I_s,I_a⟩ x
 | _,_=>[]
def rNet_g:z0b:=[(rArc_n,(true,z02 true rArc_fs)),(rOf_n,(true,z02 true rOf_fs)),(zcb,(true,z02 true z67)),(rMinus_n,(true,z02 true za8)),(At_n,(true,z02 true At_fs))]
abbrev rNet_n:Nat:=140
def rNet_I (I:Inst) (x:List Int):List (Nat × z08):=[]
def rNet_IA:List SV->z0c->List (Nat × z08):=fun _ _=>[]
def zht (x:Arc) (n:Int):FRes:={ pre:=True,res:=.bool (fitF x n),rows:=[],eff:=[] }
def zbz:FS:=fun args h=>match args,h with
 | [.agg [.int .i64 x_0,.int .i64 x_1,.int .i64 x_2,.int .i64 x_3,.int .i64 x_4],.int .i64 n],[]=>some (zht ⟨x_0,x_1,x_2,x_3,x_4⟩ n)
 | _,_=>none
def rBounds_an (x:Arc) (n:Int):List (Nat × Ann):=[]
def rBounds_A:List SV->z0c->List (Nat × Ann):=fun _ _=>[]
def zhs:z0b:=[]
abbrev rBounds_n:Nat:=139
def rBounds_I (x:Arc) (n:Int):List (Nat × z08):=[]
def rBounds_IA:List SV->z0c->List (Nat × z08):=fun _ _=>[]
def rFits_r (I:Inst) (x:List Int):FRes:={ pre:=I.sup.length <= 10000/\I.arcs.length <= 10000/\A64 x/\A64 I.sup,res:=.int .i64 (z0v I x),rows:=[],eff:=[] }
def zdz:FS:=fun args h=>match args,h with
 | [.agg [.row 0,.row 1],.row 2],[(0,.row false ty0 (.ints .i64 I_s)),(1,.row false ty1 (.arcs I_a)),(2,.row false ty2 (.ints .i64 x))]=>some (rFits_r ⟨I_s,I_a⟩ x)
 | _,_=>none
def rFits_an (I:Inst) (x:List Int):List (Nat × Ann):=[(7,{ G:=(Nat),inv:=fun k=>⟨[(1,.row 2),(2,.ptr 3 0 0 0),(6,.int .i64 k)],[(3,.box true 25 [.row 0,.row 1]),(0,.row false 0 (.ints .i64 I.sup)),(1,.row false 0 (.arcs I.arcs)),(2,.row false 0 (.ints .i64 x))],4⟩,rel:=fun k0 k=>k <= I.arcs.length/\z18 (I.arcs.drop k) (x.drop k) = z18 I.arcs x,meas:=fun k=>I.arcs.length - k }),
 (13,{ G:=(Nat),inv:=fun k=>⟨[(2,.ptr 3 0 0 0),(7,.row 4),(8,.int .i64 k)],[(4,.row true 54 (.wides (z3s I x))),(3,.box true 25 [.row 0,.row 1]),(0,.row false 0 (.ints .i64 I.sup)),(1,.row false 0 (.arcs I.arcs))],5⟩,rel:=fun k0 k=>k <= I.sup.length/\∀ v,v < k->W (z2v I.sup.length I.arcs x I.arcs.length v) = W (I.sup.getD v 0),meas:=fun k=>I.sup.length - k })]
def rFits_A:List SV->z0c->List (Nat × Ann):=fun args h=>match args,h with
 | [.agg [.row 0,.row 1],.row 2],[(0,.row false ty0 (.ints .i64 I_s)),(1,.row false ty1 (.arcs I_a)),(2,.row false ty2 (.ints .i64 x))]=>rFits_an ⟨I_s,I_a⟩ x
 | _,_=>[]
def rFits_g:z0b:=[(ze1,(true,z02 true z6y)),(rBounds_n,(true,z02 true zbz)),(rNet_n,(true,z02 true rNet_fs)),(rOf_n,(true,z02 true rOf_fs))]
abbrev rFits_n:Nat:=123
def rFits_I (I:Inst) (x:List Int):List (Nat × z08):=[]
def rFits_IA:List SV->z0c->List (Nat × z08):=fun _ _=>[]
def Flow_r (I:Inst) (d:List Int):FRes:={ pre:=Bytes d/\I.arcs.length <= 1000000/\L42 I.arcs,res:=.row 3,rows:=[.row 2 (.ints .i64 (z1d I d))],eff:=[] }
def Flow_fs:FS:=fun args h=>match args,h with
 | [.agg [.row 0,.row 1],.row 2],[(0,.row false ty0 (.ints .i64 I_s)),(1,.row false ty1 (.arcs I_a)),(2,.row false ty2 (.ints .u8 d))]=>some (Flow_r ⟨I_s,I_a⟩ d)
 | _,_=>none
def Flow_an (I:Inst) (d:List Int):List (Nat × Ann):=[(3,{ G:=(Nat),inv:=fun k=>⟨[(1,.row 2),(2,.ptr 3 0 0 0),(5,.row 5),(6,.int .i64 k)],[(5,.row true 2 (.ints .i64 ((z1d I d).take k))),(3,.box true 25 [.row 0,.row 1]),(0,.row false 0 (.ints .i64 I.sup)),(1,.row false 0 (.arcs I.arcs)),(2,.row false 0 (.ints .u8 d))],6⟩,rel:=fun k0 k=>k <= I.arcs.length,meas:=fun k=>I.arcs.length - k })]
def Flow_A:List SV->z0c->List (Nat × Ann):=fun args h=>match args,h with
 | [.agg [.row 0,.row 1],.row 2],[(0,.row false ty0 (.ints .i64 I_s)),(1,.row false ty1 (.arcs I_a)),(2,.row false ty2 (.ints .u8 d))]=>Flow_an ⟨I_s,I_a⟩ d
 | _,_=>[]
def Flow_g:z0b:=[]
abbrev Flow_n:Nat:=39
def Flow_I (I:Inst) (d:List Int):List (Nat × z08):=[]
def Flow_IA:List SV->z0c->List (Nat × z08):=fun _ _=>[]
end Go.Proofs.YtapeenpimcffpaaGreat
end
