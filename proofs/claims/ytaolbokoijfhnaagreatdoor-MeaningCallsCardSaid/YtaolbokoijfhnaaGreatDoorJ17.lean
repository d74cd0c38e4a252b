/- Part 17 of MeaningCalls. -/
import Derived.Test.YtaolbokoijfhnaaGreatDoorJ16
set_option linter.all false
namespace Go.AM.K
section
theorem N0 (f:Nat->Nat->Nat) (g:Bool->Bool->Bool) (h:∀a b i,(f a b).testBit i=g (a.testBit i) (b.testBit i)) (X Y i:Nat):
  f X Y%2^(i+1)=f X Y%2^i+(g (decide (X/2^i%2=1)) (decide (Y/2^i%2=1))).toNat*2^i:=by
 have j:=h X Y i
 rw [Nat.testBit_eq_decide_div_mod_eq,Nat.testBit_eq_decide_div_mod_eq,Nat.testBit_eq_decide_div_mod_eq]at j
 rw [<-j,Nat.mod_pow_succ,Nat.mul_comm]
 congr 1
 have:f X Y/2^i%2=0∨f X Y/2^i%2=1:=by omega
 rcases this with h|h<;>rw [h]<;>rfl
def Ys (o:Int) (p q:Nat):Nat:=if o=18 then max p q else if o=19 then (p+q)%2 else p*q
def En (o:Int) (X Y:Nat):Nat:=if o=18 then X|||Y else if o=19 then X^^^Y else X&&&Y
theorem XR (o:Int) (X Y i:Nat):En o X Y%2^(i+1)=En o X Y%2^i+Ys o (X/2^i%2) (Y/2^i%2)*2^i:=by
 have q:X/2^i%2=0∨X/2^i%2=1:=by omega
 have j:Y/2^i%2=0∨Y/2^i%2=1:=by omega
 unfold En Ys
 split
 ·rw [N0 (·|||·) (·||·) (fun a b i=>Nat.testBit_or a b i)]
  congr 2
  rcases q with h|h<;>rcases j with g|g<;>rw [h,g]<;>rfl
 ·split
  ·rw [N0 (·^^^·) (fun a b=>xor a b) (fun a b i=>Nat.testBit_xor a b i)]
   congr 2
   rcases q with h|h<;>rcases j with g|g<;>rw [h,g]<;>rfl
  ·rw [N0 (·&&&·) (·&&·) (fun a b i=>Nat.testBit_and a b i)]
   congr 2
   rcases q with h|h<;>rcases j with g|g<;>rw [h,g]<;>rfl
theorem L7 {o:Int} {X Y:Nat} (q:X<2^32) (j:Y<2^32):En o X Y<2^32:=by
 unfold En
 split
 ·exact Nat.or_lt_two_pow q j
 ·split
  ·exact Nat.xor_lt_two_pow q j
  ·exact Nat.and_lt_two_pow _ j
theorem AdU {o:Int} {p q:Nat} (j:p<=1) (v:q<=1):Ys o p q<=1:=by
 unfold Ys
 split
 ·omega
 ·split
  ·omega
  ·have:p*q<=1*1:=Nat.mul_le_mul j v
   omega
abbrev CR (x:Int):Int:=IntKind.wrap .i32 x
abbrev BX (x:Int):Int:=IntKind.wrap .i64 x
abbrev wu (x:Int):Int:=IntKind.wrap .i32 (IntKind.wrap .u32 (IntKind.wrap .u64 x))
abbrev GM (x:Int):Prop:= -2147483648<=x/\x<=2147483647
theorem P9 (x:Int):CR x=if x%4294967296>=2147483648 then x%4294967296-4294967296 else x%4294967296:=by
 have q:(2:Int)^(IntKind.bits .i32)=4294967296:=rfl
 have j:(2:Int)^(IntKind.bits .i32-1)=2147483648:=rfl
 unfold CR IntKind.wrap
 simp only [q,j,IntKind.signed,Bool.true_and,decide_eq_true_eq]
theorem YH {x y:Int} (h:x%4294967296=y%4294967296):CR x=CR y:=by rw [P9,P9,h]
theorem E5 (x:Int):GM (CR x):=by
 rw [P9]
 split<;>constructor<;>omega
theorem YF (x:Int):IntKind.wrap .u32 x=x%4294967296:=by
 have j:(2:Int)^(IntKind.bits .u32)=4294967296:=rfl
 unfold IntKind.wrap
 simp only [j,IntKind.signed,Bool.false_and,Bool.false_eq_true,if_false]
theorem YE (x:Int):IntKind.wrap .u64 x=x%18446744073709551616:=by
 have j:(2:Int)^(IntKind.bits .u64)=18446744073709551616:=rfl
 unfold IntKind.wrap
 simp only [j,IntKind.signed,Bool.false_and,Bool.false_eq_true,if_false]
theorem E4 (x:Int):wu x=CR x:=by
 show CR _=_
 rw [YE,YF]
 exact YH om
theorem Cq (x:Int):CR (BX x)=CR x:=by
 have q:(2:Int)^(IntKind.bits .i64)=18446744073709551616:=rfl
 have j:(2:Int)^(IntKind.bits .i64-1)=9223372036854775808:=rfl
 refine YH ?_
 unfold BX IntKind.wrap
 simp only [q,j,IntKind.signed,Bool.true_and,decide_eq_true_eq]
 split<;>omega
theorem AZ {x:Int} (h:GM x):BX x=x:=GV om
theorem Kb {x:Int} (h:GM x):CR x=x:=YG h
theorem Amk (b:Int):0<=bits .and .i32 b 31/\bits .and .i32 b 31=b%32:=by
 have h:=HM .and .i32 b 31 (.inl rfl)
 rw [<-h]
 have j:Fg b 4294967296=(b%4294967296).toNat:=by
  have:=L6 b 4294967296 (by decide)
  omega
 have e:Nz .and .i32 b 31=back .i32 (Nat.land (Fg b 4294967296) 31):=rfl
 have v:Nat.land (Fg b 4294967296) 31=Fg b 4294967296%32:=Nat.and_two_pow_sub_one_eq_mod (Fg b 4294967296) 5
 rw [e,v]
 have q:back .i32 (Fg b 4294967296%32)=((Fg b 4294967296%32:Nat):Int):=by
  unfold back
  have:Nat.ble (modulus .i32) (Fg b 4294967296%32+Fg b 4294967296%32)=false:=by
   have:Fg b 4294967296%32<32:=Nat.mod_lt _ (by decide)
   have e:modulus .i32=4294967296:=rfl
   rw [e]
   cases hh:Nat.ble 4294967296 (Fg b 4294967296%32+Fg b 4294967296%32)with
   |false=>rfl
   |true=>have:=Nat.le_of_ble_eq_true hh;omega
  rw [this,Bool.and_false];rfl
 rw [q,j]
 constructor<;>omega
def R9 (a b:Int):Int:=
 if b=0 then 0 else if Ai .rem .i64 (Ai .shl .i64 (BX a) 16) (BX b)=0 then CR (Ai .quo .i64 (Ai .shl .i64 (BX a) 16) (BX b))
 else if (BX b<0)=(Ai .rem .i64 (Ai .shl .i64 (BX a) 16) (BX b)<0)then CR (Ai .quo .i64 (Ai .shl .i64 (BX a) 16) (BX b))else CR (Ai .sub .i64 (Ai .quo .i64 (Ai .shl .i64 (BX a) 16) (BX b)) 1)
def Ce (o a b:Int):Int:=
 if o=10 then Ai .add .i32 a b else if o=11 then Ai .sub .i32 a b else if o=12 then Ai .mul .i32 a b
 else if o=13 then (if b=0 then 0 else CR (Ai .quo .i64 (BX a) (BX b)))else if o=14 then (if b=0 then a else CR (Ai .rem .i64 (BX a) (BX b)))
 else if o=15 then CR (Ai .shr .i64 (Ai .mul .i64 (BX a) (BX b)) 16)else if o=16 then R9 a b
 else if o=17 then Ai .and .i32 a b else if o=18 then Ai .or .i32 a b else if o=19 then Ai .xor .i32 a b
 else if o=20 then Ai .shl .i32 a (Ai .and .i32 b 31)else if o=21 then Ai .shr .i32 a (Ai .and .i32 b 31)
 else if o=22 then (if b<a then b else a)else if o=23 then (if a<b then b else a)
 else if o=24 then (if a=b then 1 else 0)else if o=25 then (if a=b then 0 else 1)else if o=26 then (if a<b then 1 else 0)else if o=27 then (if a<=b then 1 else 0)
 else if o=28 then (if b<a then 1 else 0)else (if b<=a then 1 else 0)
def uoV (o a:Int):Int:=
 if o=1 then Ai .sub .i32 0 a else if o=2 then Ai .xor .i32 (-1) a else if o=3 then (if 0<=a then a else Ai .sub .i32 0 a)
 else if o=4 then Ai .shl .i32 a 16 else Ai .shr .i32 a 16
def AN (o a b:Int):Int:=
 if o=10 then CR (a+b)else if o=11 then CR (a-b)else if o=12 then CR (a*b)
 else if o=13 then (if b=0 then 0 else CR (a.tdiv b))else if o=14 then (if b=0 then CR a else CR (a-b*a.tdiv b))
 else if o=17∨o=18∨o=19 then CR (En o (a%4294967296).toNat (b%4294967296).toNat)
 else if o=20 then CR (a*2^(b%32).toNat)else if o=21 then CR (a/2^(b%32).toNat)
 else if o=22 then CR (if b<a then b else a)else CR (if a<b then b else a)
def Aeh (o a:Int):Int:=
 if o=1 then CR (-a)else if o=2 then CR (-a-1)else if o=3 then CR (if a< -a then -a else a)else CR (a*65536)
theorem N3 {m:Nat} (h:m<4294967296):back .i32 m=CR (m:Int):=(FY .i32 (m:Int) m (by
 have e:(2:Int)^(IntKind.bits .i32)=4294967296:=rfl
 rw [e];omega) h).symm
theorem FM (a:Int):Fg a 4294967296=(a%4294967296).toNat:=by
 have:=L6 a 4294967296 (by decide)
 omega
theorem Et {a b:Int}:bits .and .i32 a b=CR (En 17 (a%4294967296).toNat (b%4294967296).toNat)/\bits .or .i32 a b=CR (En 18 (a%4294967296).toNat (b%4294967296).toNat)/\bits .xor .i32 a b=CR (En 19 (a%4294967296).toNat (b%4294967296).toNat):=by
 have ha:(a%4294967296).toNat<2^32:=by omega
 have hb:(b%4294967296).toNat<2^32:=by omega
 refine ⟨?_,?_,?_⟩
 ·rw [<-HM .and .i32 a b (.inl rfl),<-N3 (L7 ha hb),<-FM,<-FM];rfl
 ·rw [<-HM .or .i32 a b (.inr (.inl rfl)),<-N3 (L7 ha hb),<-FM,<-FM];rfl
 ·rw [<-HM .xor .i32 a b (.inr (.inr (.inl rfl))),<-N3 (L7 ha hb),<-FM,<-FM];rfl
theorem Aa7 {a d:Int} (h:GM a) (hd:1<=d):GM (a/d):=by
 have q:a/d*d<=a:=Int.ediv_mul_le a om
 have j:a<(a/d+1)*d:=Int.lt_ediv_add_one_mul_self a om
 have v:(a/d+1)*d=a/d*d+d:=by rw [Int.add_mul,Int.one_mul]
 rcases Int.lt_or_le a 0 with hn|hn
 ·have:a/d<0:=Int.ediv_neg_of_neg_of_pos hn om
  refine ⟨?_,by omega⟩
  rcases Int.lt_or_le (a/d) a with hc|hc
  ·have:a/d*d<=a/d*1:=Int.mul_le_mul_of_nonpos_left om hd
   have:(a/d+1)*d<=(a/d+1)*1:=Int.mul_le_mul_of_nonpos_left om hd
   omega
  ·omega
 ·have:0<=a/d:=Int.ediv_nonneg hn om
  have:a/d<=a:=Int.ediv_le_self d hn
  constructor<;>omega
theorem p32 (n:Nat) (h:n<=32):1<=(2:Int)^n/\(2:Int)^n<=4294967296:=by
 have q:2^n<=2^32:=Nat.pow_le_pow_right (by decide) h
 have j:1<=2^n:=Nat.one_le_two_pow
 have e:((2^n:Nat):Int)=(2:Int)^n:=by push_cast;rfl
 omega
theorem AfQ {a n:Int} (q:0<=n) (j:n<32):Ai .shl .i32 a n=CR (a*2^n.toNat):=by
 show CR (a*2^min n.toNat 32)=_
 rw [Nat.min_eq_left om]
theorem Ur {a n:Int} (q:0<=n) (j:n<32):Ai .shr .i32 a n=a/2^n.toNat:=by
 show Int.fdiv a (2^min n.toNat 32)=_
 rw [Nat.min_eq_left om]
 exact Int.fdiv_eq_ediv_of_nonneg _ (by have:=(p32 n.toNat om).1;omega)
theorem RK (b:Int):Ai .and .i32 b 31=b%32:=(Amk b).2
abbrev Ov (o:Int):Prop:=o=10∨o=11∨o=12∨o=13∨o=14∨o=17∨o=18∨o=19∨o=20∨o=21∨o=22∨o=23
theorem An {o a b:Int} (ha:GM a) (hb:GM b) (j:Ov o):Ce o a b=AN o a b:=by
 rcases j with rfl|rfl|rfl|rfl|rfl|rfl|rfl|rfl|rfl|rfl|rfl|rfl
 ·rfl
 ·rfl
 ·rfl
 ·show (if b=0 then 0 else CR (Ai .quo .i64 (BX a) (BX b)))=if b=0 then 0 else CR (a.tdiv b)
  rw [AZ ha,AZ hb]
  split
  ·rfl
  ·exact Cq _
 ·show (if b=0 then a else CR (Ai .rem .i64 (BX a) (BX b)))=if b=0 then CR a else CR (a-b*a.tdiv b)
  rw [AZ ha,AZ hb,Kb ha]
  split
  ·rfl
  ·show CR (a.tmod b)=_
   rw [Int.tmod_def]
 ·exact Et.1
 ·exact Et.2.1
 ·exact Et.2.2
 ·show Ai .shl .i32 a (Ai .and .i32 b 31)=CR (a*2^(b%32).toNat)
  rw [RK,AfQ om om]
 ·show Ai .shr .i32 a (Ai .and .i32 b 31)=CR (a/2^(b%32).toNat)
  rw [RK,Ur om om,Kb (Aa7 ha (p32 _ om).1)]
 ·show (if b<a then b else a)=CR (if b<a then b else a)
  split
  ·exact (Kb hb).symm
  ·exact (Kb ha).symm
 ·show (if a<b then b else a)=CR (if a<b then b else a)
  split
  ·exact (Kb hb).symm
  ·exact (Kb ha).symm
theorem b01 {x:Int} (h:x=0∨x=1):GM x:=by rcases h with rfl|rfl<;>decide
theorem AkG {p:Prop} [Decidable p]:(if p then (1:Int)else 0)=0∨(if p then (1:Int)else 0)=1:=by split<;>simp
theorem AkF {p:Prop} [Decidable p]:(if p then (0:Int)else 1)=0∨(if p then (0:Int)else 1)=1:=by split<;>simp
theorem Ty {o a b:Int} (j:24<=o):Ce o a b=0∨Ce o a b=1:=by
 unfold Ce
 iterate 14 rw [if_neg om]
 repeat' (first|exact AkG|exact AkF|split)
theorem Yt {o a b:Int} (j:o=17∨o=18∨o=19) (ha:a=0∨a=1) (hb:b=0∨b=1):Ce o a b=0∨Ce o a b=1:=by
 rcases j with rfl|rfl|rfl<;>rcases ha with rfl|rfl<;>rcases hb with rfl|rfl<;>decide
theorem Ah2 (a b:Int):GM (R9 a b):=by
 unfold R9
 repeat' split
 all_goals first|exact E5 _|decide
theorem A0 {o a b:Int} (ha:GM a) (hb:GM b) (j:10<=o):GM (Ce o a b):=by
 by_cases h24:24<=o
 ·exact b01 (Ty h24)
 ·have:o=10∨o=11∨o=12∨o=13∨o=14∨o=15∨o=16∨o=17∨o=18∨o=19∨o=20∨o=21∨o=22∨o=23:=by omega
  rcases this with rfl|rfl|rfl|rfl|rfl|rfl|rfl|rfl|rfl|rfl|rfl|rfl|rfl|rfl
  ·exact E5 _
  ·exact E5 _
  ·exact E5 _
  ·show GM (if b=0 then 0 else CR _)
   split
   ·decide
   ·exact E5 _
  ·show GM (if b=0 then a else CR _)
   split
   ·exact ha
   ·exact E5 _
  ·exact E5 _
  ·exact Ah2 a b
  ·rw [show Ce 17 a b=_ from Et.1];exact E5 _
  ·rw [show Ce 18 a b=_ from Et.2.1];exact E5 _
  ·rw [show Ce 19 a b=_ from Et.2.2];exact E5 _
  ·exact E5 _
  ·show GM (Ai .shr .i32 a (Ai .and .i32 b 31))
   rw [RK,Ur om om]
   exact Aa7 ha (p32 _ om).1
  ·show GM (if b<a then b else a)
   split
   ·exact hb
   ·exact ha
  ·show GM (if a<b then b else a)
   split
   ·exact hb
   ·exact ha
theorem AnK {o a:Int} (ha:GM a) (j:1<=o/\o<=5):GM (uoV o a):=by
 have:o=1∨o=2∨o=3∨o=4∨o=5:=by omega
 rcases this with rfl|rfl|rfl|rfl|rfl
 ·exact E5 _
 ·rw [show uoV 2 a=_ from Et.2.2];exact E5 _
 ·show GM (if 0<=a then a else CR _)
  split
  ·exact ha
  ·exact E5 _
 ·exact E5 _
 ·show GM (Ai .shr .i32 a 16)
  rw [Ur (by decide) (by decide)]
  exact Aa7 ha (by decide)
theorem v1 {x y:Int} (h:x=y):((0,⟨[x],[],[],[]⟩):Out)=(0,⟨[y],[],[],[]⟩):=by rw [h]
theorem Abe {o i:Int} (j:0<=i) (h:o=2^i.toNat):2*o=2^(i+1).toNat:=by
 rw [h,show (i+1).toNat=i.toNat+1 by omega,Int.pow_succ,Int.mul_comm]
theorem shn {b:Int} (h:GM b):Ai .rem .i64 (Ai .add .i64 (Ai .rem .i64 (BX b) 32) 32) 32=b%32:=by
 rw [AZ h]
 show Int.tmod (BX (Int.tmod b 32+32)) 32=_
 have q:Int.tmod b 32=b-32*Int.tdiv b 32:=Int.tmod_def b 32
 have j:=Int.tmod_lt_of_pos b (show (0:Int)<32 by decide)
 have v: -32<Int.tmod b 32:=Int.lt_tmod_of_pos b (by decide)
 rw [AZ (by constructor<;>omega),Int.tmod_eq_emod_of_nonneg om]
 omega
section
variable {a b:Int} (ha:GM a) (hb:GM b)
include ha
theorem u1:wu (Ai .sub .i64 0 (BX a))=Aeh 1 a:=by
 rw [E4,AZ ha];show CR (BX (0-a))=CR (-a);rw [Cq,Int.zero_sub]
theorem u2:wu (Ai .sub .i64 (Ai .sub .i64 0 (BX a)) 1)=Aeh 2 a:=by
 rw [E4,AZ ha];show CR (BX (BX (0-a)-1))=CR (-a-1)
 rw [Cq,show BX (0-a)=0-a from GV om,Int.zero_sub]
include hb
theorem q10:wu (Ai .add .i64 (BX a) (BX b))=AN 10 a b:=by
 rw [E4,AZ ha,AZ hb];exact Cq _
theorem q11:wu (Ai .sub .i64 (BX a) (BX b))=AN 11 a b:=by
 rw [E4,AZ ha,AZ hb];exact Cq _
theorem q12:wu (Ai .mul .i64 (BX a) (BX b))=AN 12 a b:=by
 rw [E4,AZ ha,AZ hb];exact Cq _
theorem Aox (t:BX b=0):0=AN 13 a b:=by
 rw [AZ hb]at t;exact (if_pos t).symm
theorem Aow (t:¬BX b=0):wu (Ai .quo .i64 (BX a) (BX b))=AN 13 a b:=by
 rw [AZ hb]at t
 rw [E4,AZ ha,AZ hb];exact (Cq _).trans (if_neg t).symm
theorem Aov (t:BX b=0):wu (Ai .sub .i64 (BX a) 0)=AN 14 a b:=by
 rw [AZ hb]at t
 rw [E4,AZ ha];show CR (BX (a-0))=if b=0 then CR a else _
 rw [Cq,Int.sub_zero,if_pos t]
theorem Aou (t:¬BX b=0):wu (Ai .sub .i64 (BX a) (Ai .mul .i64 (BX b) (Ai .quo .i64 (BX a) (BX b))))=AN 14 a b:=by
 rw [AZ hb]at t
 rw [E4,AZ ha,AZ hb];show CR (BX (a-BX (b*BX (a.tdiv b))))=if b=0 then CR a else CR (a-b*a.tdiv b)
 have x:(a.tdiv b).natAbs<=a.natAbs:=by rw [Int.natAbs_tdiv];exact Nat.div_le_self _ _
 have j:BX (a.tdiv b)=a.tdiv b:=GV om
 have z:b*a.tdiv b=a-a.tmod b:=by rw [Int.tmod_def];omega
 have v:(a.tmod b).natAbs<=a.natAbs:=by rw [Int.natAbs_tmod];exact Nat.mod_le _ _
 have q:BX (b*a.tdiv b)=b*a.tdiv b:=GV om
 rw [Cq,j,q,if_neg t]
theorem q20:wu (Ai .mul .i64 (BX a) (2^(Ai .rem .i64 (Ai .add .i64 (Ai .rem .i64 (BX b) 32) 32) 32).toNat))=AN 20 a b:=by
 rw [E4,AZ ha,shn hb];exact Cq _
theorem q21 {n:Nat} (j:n<=32):BX (a.tdiv (2^n))=a.tdiv (2^n)/\a/2^n=if a.tmod (2^n)<0 then a.tdiv (2^n)-1 else a.tdiv (2^n):=by
 have q:=p32 n j
 have x:(a.tdiv (2^n)).natAbs<=a.natAbs:=by rw [Int.natAbs_tdiv];exact Nat.div_le_self _ _
 refine ⟨GV om,?_⟩
 generalize (2:Int)^n=d at*
 have A:a.tmod d=a-d*a.tdiv d:=Int.tmod_def a d
 have v:=Int.tmod_lt_of_pos a (show 0<d by omega)
 have z: -d<a.tmod d:=Int.lt_tmod_of_pos a om
 split
 ·refine Int.ediv_eq_iff_of_pos om|>.2 ?_
  rw [Int.sub_mul,Int.mul_comm (a.tdiv d) d]
  constructor<;>omega
 ·refine Int.ediv_eq_iff_of_pos om|>.2 ?_
  rw [Int.mul_comm (a.tdiv d) d]
  constructor<;>omega
abbrev shP (b:Int):Int:=2^(Ai .rem .i64 (Ai .add .i64 (Ai .rem .i64 (BX b) 32) 32) 32).toNat
theorem Aot (t:Ai .rem .i64 (BX a) (shP b)<0):wu (Ai .sub .i64 (Ai .quo .i64 (BX a) (shP b)) 1)=AN 21 a b:=by
 have e:shP b=2^(b%32).toNat:=by show (2:Int)^_=_;rw [shn hb]
 rw [e,AZ ha]at t
 rw [E4,AZ ha,e]
 obtain ⟨j,q⟩:=q21 ha hb (n:=(b%32).toNat) om
 show CR (BX (BX (a.tdiv (2^(b%32).toNat))-1))=CR (a/2^(b%32).toNat)
 rw [Cq,j,q,if_pos (show a.tmod (2^(b%32).toNat)<0 from t)]
theorem Aos (t:¬Ai .rem .i64 (BX a) (shP b)<0):wu (Ai .quo .i64 (BX a) (shP b))=AN 21 a b:=by
 have e:shP b=2^(b%32).toNat:=by show (2:Int)^_=_;rw [shn hb]
 rw [e,AZ ha]at t
 rw [E4,AZ ha,e]
 obtain ⟨q,j⟩:=q21 ha hb (n:=(b%32).toNat) om
 show CR (BX (a.tdiv (2^(b%32).toNat)))=CR (a/2^(b%32).toNat)
 rw [Cq,j,if_neg (show¬a.tmod (2^(b%32).toNat)<0 from t)]
theorem Aor (t:BX b<BX a):wu (BX b)=AN 22 a b:=by
 rw [AZ ha,AZ hb]at t
 rw [E4,Cq];show CR b=CR (if b<a then b else a);rw [if_pos t]
theorem Aoq (t:¬BX b<BX a):wu (BX a)=AN 22 a b:=by
 rw [AZ ha,AZ hb]at t
 rw [E4,Cq];show CR a=CR (if b<a then b else a);rw [if_neg t]
theorem Aop (t:BX a<BX b):wu (BX b)=AN 23 a b:=by
 rw [AZ ha,AZ hb]at t
 rw [E4,Cq];show CR b=CR (if a<b then b else a);rw [if_pos t]
theorem Aoo (t:¬BX a<BX b):wu (BX a)=AN 23 a b:=by
 rw [AZ ha,AZ hb]at t
 rw [E4,Cq];show CR a=CR (if a<b then b else a);rw [if_neg t]
end
theorem bq {X n:Nat} (v:X<2^32) (x:n<=32):Ai .rem .i64 (Ai .quo .i64 (X:Int) (2^n)) 2=((X/2^n%2:Nat):Int):=by
 show Int.tmod (BX (Int.tdiv (X:Int) (2^n))) 2=_
 have e:((2^n:Nat):Int)=(2:Int)^n:=by push_cast;rfl
 have j:X/2^n<=X:=Nat.div_le_self _ _
 rw [<-e,Int.tdiv_eq_ediv_of_nonneg om,<-Int.natCast_ediv]
 generalize X/2^n=q at*
 rw [show BX (q:Int)=(q:Int)from GV om,Int.tmod_eq_emod_of_nonneg om]
 omega
theorem Amg {o:Int} {X Y n r:Nat} {s p:Int} (C:n<32) (hs:s=((En o X Y%2^n:Nat):Int)) (q:p=(r:Int)) (hb:r=Ys o (X/2^n%2) (Y/2^n%2)):Ai .add .i64 s (Ai .mul .i64 p (2^n))=((En o X Y%2^(n+1):Nat):Int):=by
 have j:r<=1:=by rw [hb];exact AdU om om
 have B:=p32 n om
 have e:((2^n:Nat):Int)=(2:Int)^n:=by push_cast;rfl
 have z:En o X Y%2^n<2^n:=Nat.mod_lt _ (Nat.two_pow_pos n)
 have v:(r:Int)*2^n=((r*2^n:Nat):Int):=by push_cast;rfl
 have A:r*2^n<=1*2^n:=Nat.mul_le_mul_right _ j
 show BX (s+BX (p*2^n))=_
 rw [q,v,show BX ((r*2^n:Nat):Int)=((r*2^n:Nat):Int)from GV om,hs,XR,<-hb,show∀x y:Nat,((x+y:Nat):Int)=(x:Int)+(y:Int)from fun x y=>by push_cast;rfl]
 exact GV om
theorem HV {trees:Nat->Tree} {Q:Out->Prop} {t e:Tree} {v:Aj} {i:Nat} {j:Int} (x:Int) (q:W trees Q e v) (hc:¬x=j:=by decide) (z:v.n.getD i 0=x:=by rfl):W trees Q (.B6 i j t e) v:=NN x j q hc z
theorem nz0 {b:Int} (hb:GM b) (h:¬b=0):¬BX b=0:=by rw [AZ hb];exact h
theorem nz1 {b:Int}:0<=Ai .and .i32 b 31:=by rw [RK];omega
theorem nz {b:Int} (_:GM b) {p:Prop} (h:p:=by first|exact nz0 (by assumption) (by assumption) |exact nz1|exact Int.ne_of_gt (Int.pow_pos (by decide))):p:=h
theorem GG {p:Prop} (h:p:=by split<;>first|rfl|(exfalso;omega)):p:=h
end
end Go.AM.K
namespace Go.Proofs.YtaolbokoijfhnaaGreatDoor.Am
section
set_option maxHeartbeats 4000000
set_option maxRecDepth 100000
open Go.AM Go.AM.K
def Amz (N:Nat):Prop:=∀(op a b:Int) (q:10<=op/\op<=29) (ha:GM a) (hb:GM b),Ok trees N ⟨[op,a,b],[],[],[]⟩ fun j=>(j=(0,(⟨[(Ce op a b)],[],[],[]⟩:Aj)))
theorem Pw:Amz 196:=by
 intro op a b ho ha hb
 have:op=10∨op=11∨op=12∨op=13∨op=14∨op=15∨op=16∨op=17∨op=18∨op=19∨op=20∨op=21∨op=22∨op=23∨op=24∨op=25∨op=26∨op=27∨op=28∨op=29:=om;rcases this with rfl|rfl|rfl|rfl|rfl|rfl|rfl|rfl|rfl|rfl|rfl|rfl|rfl|rfl|rfl|rfl|rfl|rfl|rfl|rfl
 ·refine .of (t:=Dm) rfl ?_
  conv=>arg 3;reduce
  refine Bg 10 10 ?_
  refine eq b 0 (fun t1=>?_) (fun t1=>?_) rfl rfl
  ·exact Ah ⟨[(Ai .add .i32 a b)],[],[],[]⟩ (rfl) rfl
  refine AB (IntKind.wrap .i64 b) 0 ?_ (nz hb) rfl rfl
  exact Ah ⟨[(Ai .add .i32 a b)],[],[],[]⟩ (rfl) rfl
 ·refine .of (t:=Dm) rfl ?_
  conv=>arg 3;reduce
  repeat refine HV 11 ?_
  refine Bg 11 11 ?_
  refine eq b 0 (fun t2=>?_) (fun t2=>?_) rfl rfl
  ·exact Ah ⟨[(Ai .sub .i32 a b)],[],[],[]⟩ (rfl) rfl
  refine AB (IntKind.wrap .i64 b) 0 ?_ (nz hb) rfl rfl
  exact Ah ⟨[(Ai .sub .i32 a b)],[],[],[]⟩ (rfl) rfl
 ·refine .of (t:=Dm) rfl ?_
  conv=>arg 3;reduce
  repeat refine HV 12 ?_
  refine Bg 12 12 ?_
  refine eq b 0 (fun t3=>?_) (fun t3=>?_) rfl rfl
  ·exact Ah ⟨[(Ai .mul .i32 a b)],[],[],[]⟩ (rfl) rfl
  refine AB (IntKind.wrap .i64 b) 0 ?_ (nz hb) rfl rfl
  exact Ah ⟨[(Ai .mul .i32 a b)],[],[],[]⟩ (rfl) rfl
 ·refine .of (t:=Dm) rfl ?_
  conv=>arg 3;reduce
  repeat refine HV 13 ?_
  refine Bg 13 13 ?_
  refine eq b 0 (fun t4=>?_) (fun t4=>?_) rfl rfl
  ·exact Ah ⟨[0],[],[],[]⟩ ((v1 (show _=(if b=0 then _ else _)from GG))) rfl
  refine AB (IntKind.wrap .i64 b) 0 ?_ (nz hb) rfl rfl
  exact Ah ⟨[(IntKind.wrap .i32 (Ai .quo .i64 (IntKind.wrap .i64 a) (IntKind.wrap .i64 b)))],[],[],[]⟩ ((v1 (show _=(if b=0 then _ else _)from GG))) rfl
 ·refine .of (t:=Dm) rfl ?_
  conv=>arg 3;reduce
  repeat refine HV 14 ?_
  refine Bg 14 14 ?_
  refine eq b 0 (fun t5=>?_) (fun t5=>?_) rfl rfl
  ·exact Ah ⟨[a],[],[],[]⟩ ((v1 (show _=(if b=0 then _ else _)from GG))) rfl
  refine AB (IntKind.wrap .i64 b) 0 ?_ (nz hb) rfl rfl
  exact Ah ⟨[(IntKind.wrap .i32 (Ai .rem .i64 (IntKind.wrap .i64 a) (IntKind.wrap .i64 b)))],[],[],[]⟩ ((v1 (show _=(if b=0 then _ else _)from GG))) rfl
 ·refine .of (t:=Dm) rfl ?_
  conv=>arg 3;reduce
  repeat refine HV 15 ?_
  refine Bg 15 15 ?_
  refine eq b 0 (fun t6=>?_) (fun t6=>?_) rfl rfl
  ·exact Ah ⟨[(IntKind.wrap .i32 (Ai .shr .i64 (Ai .mul .i64 (IntKind.wrap .i64 a) (IntKind.wrap .i64 b)) 16))],[],[],[]⟩ (rfl) rfl
  refine AB (IntKind.wrap .i64 b) 0 ?_ (nz hb) rfl rfl
  exact Ah ⟨[(IntKind.wrap .i32 (Ai .shr .i64 (Ai .mul .i64 (IntKind.wrap .i64 a) (IntKind.wrap .i64 b)) 16))],[],[],[]⟩ (rfl) rfl
 ·refine .of (t:=Dm) rfl ?_
  conv=>arg 3;reduce
  repeat refine HV 16 ?_
  refine Bg 16 16 ?_
  refine eq b 0 (fun t7=>?_) (fun t7=>?_) rfl rfl
  ·exact Ah ⟨[0],[],[],[]⟩ ((by simp [Ce,R9, *])) rfl
  refine AB (IntKind.wrap .i64 b) 0 ?_ (nz hb) rfl rfl
  refine ne (Ai .rem .i64 (Ai .shl .i64 (IntKind.wrap .i64 a) 16) (IntKind.wrap .i64 b)) 0 (fun t8=>?_) (fun t8=>?_) rfl rfl
  ·refine lt (IntKind.wrap .i64 b) 0 (fun t9=>?_) (fun t9=>?_) rfl rfl
   ·refine lt (Ai .rem .i64 (Ai .shl .i64 (IntKind.wrap .i64 a) 16) (IntKind.wrap .i64 b)) 0 (fun z=>?_) (fun z=>?_) rfl rfl
    ·exact Ah ⟨[(IntKind.wrap .i32 (Ai .quo .i64 (Ai .shl .i64 (IntKind.wrap .i64 a) 16) (IntKind.wrap .i64 b)))],[],[],[]⟩ ((by simp [Ce,R9, *])) rfl
    exact Ah ⟨[(IntKind.wrap .i32 (Ai .sub .i64 (Ai .quo .i64 (Ai .shl .i64 (IntKind.wrap .i64 a) 16) (IntKind.wrap .i64 b)) 1))],[],[],[]⟩ ((by simp [Ce,R9, *])) rfl
   refine lt (Ai .rem .i64 (Ai .shl .i64 (IntKind.wrap .i64 a) 16) (IntKind.wrap .i64 b)) 0 (fun ac=>?_) (fun ac=>?_) rfl rfl
   ·exact Ah ⟨[(IntKind.wrap .i32 (Ai .sub .i64 (Ai .quo .i64 (Ai .shl .i64 (IntKind.wrap .i64 a) 16) (IntKind.wrap .i64 b)) 1))],[],[],[]⟩ ((by simp [Ce,R9, *])) rfl
   exact Ah ⟨[(IntKind.wrap .i32 (Ai .quo .i64 (Ai .shl .i64 (IntKind.wrap .i64 a) 16) (IntKind.wrap .i64 b)))],[],[],[]⟩ ((by simp [Ce,R9, *])) rfl
  exact Ah ⟨[(IntKind.wrap .i32 (Ai .quo .i64 (Ai .shl .i64 (IntKind.wrap .i64 a) 16) (IntKind.wrap .i64 b)))],[],[],[]⟩ ((by simp [Ce,R9, *])) rfl
 ·refine .of (t:=Dm) rfl ?_
  conv=>arg 3;reduce
  repeat refine HV 17 ?_
  refine Bg 17 17 ?_
  refine eq b 0 (fun aa=>?_) (fun aa=>?_) rfl rfl
  ·exact Ah ⟨[(Ai .and .i32 a b)],[],[],[]⟩ (rfl) rfl
  refine AB (IntKind.wrap .i64 b) 0 ?_ (nz hb) rfl rfl
  exact Ah ⟨[(Ai .and .i32 a b)],[],[],[]⟩ (rfl) rfl
 ·refine .of (t:=Dm) rfl ?_
  conv=>arg 3;reduce
  repeat refine HV 18 ?_
  refine Bg 18 18 ?_
  refine eq b 0 (fun Q=>?_) (fun Q=>?_) rfl rfl
  ·exact Ah ⟨[(Ai .or .i32 a b)],[],[],[]⟩ (rfl) rfl
  refine AB (IntKind.wrap .i64 b) 0 ?_ (nz hb) rfl rfl
  exact Ah ⟨[(Ai .or .i32 a b)],[],[],[]⟩ (rfl) rfl
 ·refine .of (t:=Dm) rfl ?_
  conv=>arg 3;reduce
  repeat refine HV 19 ?_
  refine Bg 19 19 ?_
  refine eq b 0 (fun Y=>?_) (fun Y=>?_) rfl rfl
  ·exact Ah ⟨[(Ai .xor .i32 a b)],[],[],[]⟩ (rfl) rfl
  refine AB (IntKind.wrap .i64 b) 0 ?_ (nz hb) rfl rfl
  exact Ah ⟨[(Ai .xor .i32 a b)],[],[],[]⟩ (rfl) rfl
 ·refine .of (t:=Dm) rfl ?_
  conv=>arg 3;reduce
  repeat refine HV 20 ?_
  refine Bg 20 20 ?_
  refine eq b 0 (fun O=>?_) (fun O=>?_) rfl rfl
  ·refine Dv (Ai .and .i32 b 31) 0 ?_ (nz hb) rfl rfl
   exact Ah ⟨[(Ai .shl .i32 a (Ai .and .i32 b 31))],[],[],[]⟩ (rfl) rfl
  refine AB (IntKind.wrap .i64 b) 0 ?_ (nz hb) rfl rfl
  refine Dv (Ai .and .i32 b 31) 0 ?_ (nz hb) rfl rfl
  exact Ah ⟨[(Ai .shl .i32 a (Ai .and .i32 b 31))],[],[],[]⟩ (rfl) rfl
 ·refine .of (t:=Dm) rfl ?_
  conv=>arg 3;reduce
  repeat refine HV 21 ?_
  refine Bg 21 21 ?_
  refine eq b 0 (fun x=>?_) (fun x=>?_) rfl rfl
  ·refine Dv (Ai .and .i32 b 31) 0 ?_ (nz hb) rfl rfl
   exact Ah ⟨[(Ai .shr .i32 a (Ai .and .i32 b 31))],[],[],[]⟩ (rfl) rfl
  refine AB (IntKind.wrap .i64 b) 0 ?_ (nz hb) rfl rfl
  refine Dv (Ai .and .i32 b 31) 0 ?_ (nz hb) rfl rfl
  exact Ah ⟨[(Ai .shr .i32 a (Ai .and .i32 b 31))],[],[],[]⟩ (rfl) rfl
 ·refine .of (t:=Dm) rfl ?_
  conv=>arg 3;reduce
  repeat refine HV 22 ?_
  refine Bg 22 22 ?_
  refine eq b 0 (fun C=>?_) (fun C=>?_) rfl rfl
  ·refine lt b a (fun ae=>?_) (fun ae=>?_) rfl rfl
   ·exact Ah ⟨[b],[],[],[]⟩ ((v1 (show _=(if b<a then _ else _)from GG))) rfl
   exact Ah ⟨[a],[],[],[]⟩ ((v1 (show _=(if b<a then _ else _)from GG))) rfl
  refine AB (IntKind.wrap .i64 b) 0 ?_ (nz hb) rfl rfl
  refine lt b a (fun V=>?_) (fun V=>?_) rfl rfl
  ·exact Ah ⟨[b],[],[],[]⟩ ((v1 (show _=(if b<a then _ else _)from GG))) rfl
  exact Ah ⟨[a],[],[],[]⟩ ((v1 (show _=(if b<a then _ else _)from GG))) rfl
 ·refine .of (t:=Dm) rfl ?_
  conv=>arg 3;reduce
  repeat refine HV 23 ?_
  refine Bg 23 23 ?_
  refine eq b 0 (fun R=>?_) (fun R=>?_) rfl rfl
  ·refine lt a b (fun N=>?_) (fun N=>?_) rfl rfl
   ·exact Ah ⟨[b],[],[],[]⟩ ((v1 (show _=(if a<b then _ else _)from GG))) rfl
   exact Ah ⟨[a],[],[],[]⟩ ((v1 (show _=(if a<b then _ else _)from GG))) rfl
  refine AB (IntKind.wrap .i64 b) 0 ?_ (nz hb) rfl rfl
  refine lt a b (fun X=>?_) (fun X=>?_) rfl rfl
  ·exact Ah ⟨[b],[],[],[]⟩ ((v1 (show _=(if a<b then _ else _)from GG))) rfl
  exact Ah ⟨[a],[],[],[]⟩ ((v1 (show _=(if a<b then _ else _)from GG))) rfl
 ·refine .of (t:=Dm) rfl ?_
  conv=>arg 3;reduce
  repeat refine HV 24 ?_
  refine Bg 24 24 ?_
  refine eq b 0 (fun af=>?_) (fun af=>?_) rfl rfl
  ·refine eq a b (fun Z=>?_) (fun Z=>?_) rfl rfl
   ·exact Ah ⟨[1],[],[],[]⟩ ((v1 (show _=(if a=b then _ else _)from GG))) rfl
   exact Ah ⟨[0],[],[],[]⟩ ((v1 (show _=(if a=b then _ else _)from GG))) rfl
  refine AB (IntKind.wrap .i64 b) 0 ?_ (nz hb) rfl rfl
  refine eq a b (fun j=>?_) (fun j=>?_) rfl rfl
  ·exact Ah ⟨[1],[],[],[]⟩ ((v1 (show _=(if a=b then _ else _)from GG))) rfl
  exact Ah ⟨[0],[],[],[]⟩ ((v1 (show _=(if a=b then _ else _)from GG))) rfl
 ·refine .of (t:=Dm) rfl ?_
  conv=>arg 3;reduce
  repeat refine HV 25 ?_
  refine Bg 25 25 ?_
  refine eq b 0 (fun A=>?_) (fun A=>?_) rfl rfl
  ·refine ne a b (fun ag=>?_) (fun ag=>?_) rfl rfl
   ·exact Ah ⟨[1],[],[],[]⟩ ((v1 (show _=(if a=b then _ else _)from GG))) rfl
   exact Ah ⟨[0],[],[],[]⟩ ((v1 (show _=(if a=b then _ else _)from GG))) rfl
  refine AB (IntKind.wrap .i64 b) 0 ?_ (nz hb) rfl rfl
  refine ne a b (fun ad=>?_) (fun ad=>?_) rfl rfl
  ·exact Ah ⟨[1],[],[],[]⟩ ((v1 (show _=(if a=b then _ else _)from GG))) rfl
  exact Ah ⟨[0],[],[],[]⟩ ((v1 (show _=(if a=b then _ else _)from GG))) rfl
 ·refine .of (t:=Dm) rfl ?_
  conv=>arg 3;reduce
  repeat refine HV 26 ?_
  refine Bg 26 26 ?_
  refine eq b 0 (fun U=>?_) (fun U=>?_) rfl rfl
  ·refine lt a b (fun P=>?_) (fun P=>?_) rfl rfl
   ·exact Ah ⟨[1],[],[],[]⟩ ((v1 (show _=(if a<b then _ else _)from GG))) rfl
   exact Ah ⟨[0],[],[],[]⟩ ((v1 (show _=(if a<b then _ else _)from GG))) rfl
  refine AB (IntKind.wrap .i64 b) 0 ?_ (nz hb) rfl rfl
  refine lt a b (fun L=>?_) (fun L=>?_) rfl rfl
  ·exact Ah ⟨[1],[],[],[]⟩ ((v1 (show _=(if a<b then _ else _)from GG))) rfl
  exact Ah ⟨[0],[],[],[]⟩ ((v1 (show _=(if a<b then _ else _)from GG))) rfl
 ·refine .of (t:=Dm) rfl ?_
  conv=>arg 3;reduce
  repeat refine HV 27 ?_
  refine Bg 27 27 ?_
  refine eq b 0 (fun J=>?_) (fun J=>?_) rfl rfl
  ·refine le a b (fun M=>?_) (fun M=>?_) rfl rfl
   ·exact Ah ⟨[1],[],[],[]⟩ ((v1 (show _=(if a<=b then _ else _)from GG))) rfl
   exact Ah ⟨[0],[],[],[]⟩ ((v1 (show _=(if a<=b then _ else _)from GG))) rfl
  refine AB (IntKind.wrap .i64 b) 0 ?_ (nz hb) rfl rfl
  refine le a b (fun I=>?_) (fun I=>?_) rfl rfl
  ·exact Ah ⟨[1],[],[],[]⟩ ((v1 (show _=(if a<=b then _ else _)from GG))) rfl
  exact Ah ⟨[0],[],[],[]⟩ ((v1 (show _=(if a<=b then _ else _)from GG))) rfl
 ·refine .of (t:=Dm) rfl ?_
  conv=>arg 3;reduce
  repeat refine HV 28 ?_
  refine Bg 28 28 ?_
  refine eq b 0 (fun B=>?_) (fun B=>?_) rfl rfl
  ·refine gt a b (fun ah=>?_) (fun ah=>?_) rfl rfl
   ·exact Ah ⟨[1],[],[],[]⟩ ((v1 (show _=(if b<a then _ else _)from GG))) rfl
   exact Ah ⟨[0],[],[],[]⟩ ((v1 (show _=(if b<a then _ else _)from GG))) rfl
  refine AB (IntKind.wrap .i64 b) 0 ?_ (nz hb) rfl rfl
  refine gt a b (fun ab=>?_) (fun ab=>?_) rfl rfl
  ·exact Ah ⟨[1],[],[],[]⟩ ((v1 (show _=(if b<a then _ else _)from GG))) rfl
  exact Ah ⟨[0],[],[],[]⟩ ((v1 (show _=(if b<a then _ else _)from GG))) rfl
 ·refine .of (t:=Dm) rfl ?_
  conv=>arg 3;reduce
  repeat refine HV 29 ?_
  refine Bg 29 29 ?_
  refine eq b 0 (fun H=>?_) (fun H=>?_) rfl rfl
  ·refine ge a b (fun v=>?_) (fun v=>?_) rfl rfl
   ·exact Ah ⟨[1],[],[],[]⟩ ((v1 (show _=(if b<=a then _ else _)from GG))) rfl
   exact Ah ⟨[0],[],[],[]⟩ ((v1 (show _=(if b<=a then _ else _)from GG))) rfl
  refine AB (IntKind.wrap .i64 b) 0 ?_ (nz hb) rfl rfl
  refine ge a b (fun q=>?_) (fun q=>?_) rfl rfl
  ·exact Ah ⟨[1],[],[],[]⟩ ((v1 (show _=(if b<=a then _ else _)from GG))) rfl
  exact Ah ⟨[0],[],[],[]⟩ ((v1 (show _=(if b<=a then _ else _)from GG))) rfl
def Am0 (N:Nat):Prop:=∀(op a:Int) (q:1<=op/\op<=5) (ha:GM a),Ok trees N ⟨[op,a],[],[],[]⟩ fun j=>(j=(0,(⟨[(uoV op a)],[],[],[]⟩:Aj)))
theorem Ae1:Am0 195:=by
 intro op a q ha
 have:op=1∨op=2∨op=3∨op=4∨op=5:=om;rcases this with rfl|rfl|rfl|rfl|rfl
 ·refine .of (t:=LQ) rfl ?_
  conv=>arg 3;reduce
  refine Bg 1 1 ?_
  exact Ah ⟨[(Ai .sub .i32 0 a)],[],[],[]⟩ (rfl) rfl
 ·refine .of (t:=LQ) rfl ?_
  conv=>arg 3;reduce
  repeat refine HV 2 ?_
  refine Bg 2 2 ?_
  exact Ah ⟨[(Ai .xor .i32 (-1) a)],[],[],[]⟩ (rfl) rfl
 ·refine .of (t:=LQ) rfl ?_
  conv=>arg 3;reduce
  repeat refine HV 3 ?_
  refine Bg 3 3 ?_
  refine ge a 0 (fun j=>?_) (fun j=>?_) rfl rfl
  ·exact Ah ⟨[a],[],[],[]⟩ ((v1 (show _=(if 0<=a then _ else _)from GG))) rfl
  exact Ah ⟨[(Ai .sub .i32 0 a)],[],[],[]⟩ ((v1 (show _=(if 0<=a then _ else _)from GG))) rfl
 ·refine .of (t:=LQ) rfl ?_
  conv=>arg 3;reduce
  repeat refine HV 4 ?_
  refine Bg 4 4 ?_
  exact Ah ⟨[(Ai .shl .i32 a 16)],[],[],[]⟩ (rfl) rfl
 ·refine .of (t:=LQ) rfl ?_
  conv=>arg 3;reduce
  repeat refine HV 5 ?_
  refine Bg 5 5 ?_
  exact Ah ⟨[(Ai .shr .i32 a 16)],[],[],[]⟩ (rfl) rfl
def Anr (N n:Nat):Prop:=∀(w o i:Int) (q:o=2^i.toNat) (h:0<=i/\i<=w/\w<=32/\(w-i).toNat<n),Ok trees N ⟨[w,o,i],[],[],[]⟩ fun j=>(j=(0,(⟨[(2^w.toNat)],[],[],[]⟩:Aj)))
def Amw (N:Nat):Prop:=∀(w o i:Int) (q:o=2^i.toNat) (h:0<=i/\i<=w/\w<=32:=by exact kn),Ok trees N ⟨[w,o,i],[],[],[]⟩ fun j=>(j=(0,(⟨[(2^w.toNat)],[],[],[]⟩:Aj)))
theorem AiG (n:Nat):Anr 201 n:=by
 induction n with
 |zero=>intro w o i j h;exact absurd h.2.2.2 (Nat.not_lt_zero _)
 |succ n ih=>
 intro w o i j h
 have q:=p32 i.toNat om;rw [<-j]at q
 refine .of (t:=YV) rfl ?_
 conv=>arg 3;reduce
 refine lt i w (fun v=>?_) fun v=>?_
 ·obtain ⟨_,rfl,x⟩:=ih w (2*o) (i+1) (Abe om j) kn
  refine ch x ?_
  exact Ah ⟨[(2^w.toNat)],[],[],[]⟩ ((by first|rfl|(have e:i=w:=om;subst e;rw [j])))
 exact Ah ⟨[o],[],[],[]⟩ ((by first|rfl|(have e:i=w:=om;subst e;rw [j])))
theorem Alv:Amw 201:=fun w o i j h=>AiG ((w-i).toNat+1) w o i j ⟨h.1,h.2.1,h.2.2,Nat.lt_succ_self _⟩
def Amx (N:Nat):Prop:=∀(w:Int) (q:0<=w/\w<=32),Ok trees N ⟨[w],[],[],[]⟩ fun j=>(j=(0,(⟨[(2^w.toNat)],[],[],[]⟩:Aj)))
theorem Xb:Amx 200:=by
 intro w q
 refine .of (t:=YW) rfl ?_
 conv=>arg 3;reduce
 obtain ⟨_,rfl,j⟩:=Alv w 1 0 rfl
 refine ch j ?_
 exact Ah ⟨[(2^w.toNat)],[],[],[]⟩ (rfl)
theorem Ae0 {o:Int} (J:o=17∨o=18∨o=19) {X Y:Nat} (A:X<2^32) (C:Y<2^32):∀(m:Nat) (i s:Int),0<=i->i<=32->(32-i).toNat<=m->s=((En o X Y%2^i.toNat:Nat):Int)->Ok trees 203 ⟨[o,X,Y,s,i],[],[],[]⟩ fun B=>B=(0,⟨[((En o X Y:Nat):Int)],[],[],[]⟩)
 |m,i,s,h0,z,hm,hs=>by
  refine .of (t:=YU) rfl ?_
  conv=>arg 3;reduce
  by_cases hi:i<32
  ·obtain ⟨m,rfl⟩:∃M,m=M+1:=⟨m-1,by omega⟩
   refine CF i 32 ?_
   obtain ⟨_,rfl,G⟩:=Xb i ⟨h0,z⟩
   refine ch G ?_
   have I:=p32 i.toNat om
   have N:i.toNat<32:=by omega
   refine AB (2^i.toNat) 0 ?_
   have ex:=bq A (n:=i.toNat) om
   have q:=bq C (n:=i.toNat) om
   have key:∀(p:Int) (r:Nat),p=(r:Int)->r=Ys o (X/2^i.toNat%2) (Y/2^i.toNat%2)->Ok trees 203 ⟨[o,X,Y,Ai .add .i64 s (Ai .mul .i64 p (2^i.toNat)),i+1],[],[],[]⟩ fun B=>B=(0,⟨[((En o X Y:Nat):Int)],[],[],[]⟩):=fun p r I L=>
    Ae0 J A C m (i+1) _ om om om (by rw [show (i+1).toNat=i.toNat+1 by omega];exact Amg N hs I L)
   have v:∀ρ:Env,ρ.val 4=i->(ST.bin .add .i64 (.var 4) (.lit 1)).den ρ=i+1:=fun ρ h=>da (AkT h) rfl om
   rcases J with rfl|rfl|rfl
   ·refine AB 17 18 ?_
    refine AB 17 19 ?_
    obtain ⟨_,rfl,j⟩:=key _ ((X/2^i.toNat%2)*(Y/2^i.toNat%2)) (show Ai .mul .i64 (Ai .rem .i64 (Ai .quo .i64 (X:Int) (2^i.toNat)) 2) (Ai .rem .i64 (Ai .quo .i64 (Y:Int) (2^i.toNat)) 2)=_ by
     rw [ex,q];show BX _=_;rw [<-Int.natCast_mul]
     have z:X/2^i.toNat%2<=1:=by omega
     have H:Y/2^i.toNat%2<=1:=by omega
     have:=Nat.mul_le_mul z H
     exact GV om) rfl
    refine ch j ?_ (vmk (B5 rfl (B5 rfl (B5 rfl (B5 rfl (B5 (v _ rfl) R8))))) rfl rfl rfl)
    exact Ah ⟨[((En 17 X Y:Nat):Int)],[],[],[]⟩ rfl
   ·refine Bw 18 18 ?_
    refine lt (Ai .rem .i64 (Ai .quo .i64 (X:Int) (2^i.toNat)) 2) (Ai .rem .i64 (Ai .quo .i64 (Y:Int) (2^i.toNat)) 2) (fun t=>?_) (fun t=>?_) rfl rfl
    ·refine AB 18 19 ?_
     rw [ex,q]at t
     obtain ⟨_,rfl,j⟩:=key _ (Y/2^i.toNat%2) q (by show _=max _ _;omega)
     refine ch j ?_ (vmk (B5 rfl (B5 rfl (B5 rfl (B5 rfl (B5 (v _ rfl) R8))))) rfl rfl rfl)
     exact Ah ⟨[((En 18 X Y:Nat):Int)],[],[],[]⟩ rfl
    ·refine AB 18 19 ?_
     rw [ex,q]at t
     obtain ⟨_,rfl,j⟩:=key _ (X/2^i.toNat%2) ex (by show _=max _ _;omega)
     refine ch j ?_ (vmk (B5 rfl (B5 rfl (B5 rfl (B5 rfl (B5 (v _ rfl) R8))))) rfl rfl rfl)
     exact Ah ⟨[((En 18 X Y:Nat):Int)],[],[],[]⟩ rfl
   ·refine AB 19 18 ?_
    refine Bw 19 19 ?_
    obtain ⟨_,rfl,j⟩:=key _ ((X/2^i.toNat%2+Y/2^i.toNat%2)%2) (show Ai .rem .i64 (Ai .add .i64 (Ai .rem .i64 (Ai .quo .i64 (X:Int) (2^i.toNat)) 2) (Ai .rem .i64 (Ai .quo .i64 (Y:Int) (2^i.toNat)) 2)) 2=_ by
     rw [ex,q];show Int.tmod (BX _) 2=_
     have z:X/2^i.toNat%2<=1:=by omega
     have H:Y/2^i.toNat%2<=1:=by omega
     generalize X/2^i.toNat%2=x at*
     generalize Y/2^i.toNat%2=y at*
     rw [show BX ((x:Int)+(y:Int))=(x:Int)+(y:Int)from GV om,Int.tmod_eq_emod_of_nonneg om]
     omega) rfl
    refine ch j ?_ (vmk (B5 rfl (B5 rfl (B5 rfl (B5 rfl (B5 (v _ rfl) R8))))) rfl rfl rfl)
    exact Ah ⟨[((En 19 X Y:Nat):Int)],[],[],[]⟩ rfl
  ·have e:i=32:=by omega
   subst e
   refine JY 32 32 ?_
   have hl:En o X Y%2^(32:Int).toNat=En o X Y:=Nat.mod_eq_of_lt (L7 A C)
   rw [hl]at hs
   exact Ah ⟨[s],[],[],[]⟩ (v1 hs)
theorem Acr (o a b:Int) (B:o=17∨o=18∨o=19) (ha:GM a) (hb:GM b):Ok trees 199 ⟨[o,a,b],[],[],[]⟩ fun C=>C=(0,⟨[AN o a b],[],[],[]⟩):=by
 refine .of (t:=YX) rfl ?_
 conv=>arg 3;reduce
 obtain ⟨_,rfl,G⟩:=Xb 32 ⟨by decide,by decide⟩
 refine ch G ?_
 obtain ⟨_,rfl,q⟩:=Ae0 B (X:=(a%4294967296).toNat) (Y:=(b%4294967296).toNat) om om 32 0 0 (by decide) (by decide) (by decide) (by simp [Nat.mod_one])
 have v:wu ((En o (a%4294967296).toNat (b%4294967296).toNat:Nat):Int)=AN o a b:=by
  rw [E4]
  rcases B with rfl|rfl|rfl<;>rfl
 have z:∀x:Int,GM x->¬x<0->Ai .add .i64 (BX x) (Ai .mul .i64 (2^(32:Int).toNat) 0)=((x%4294967296).toNat:Int):=fun x h t=>by
  rw [AZ h];show BX (x+BX (4294967296*0))=_
  rw [show BX (4294967296*0)=0 from rfl,show BX (x+0)=x+0 from GV om];omega
 have A:∀x:Int,GM x->x<0->Ai .add .i64 (BX x) (Ai .mul .i64 (2^(32:Int).toNat) 1)=((x%4294967296).toNat:Int):=fun x h t=>by
  rw [AZ h];show BX (x+BX (4294967296*1))=_
  rw [show BX (4294967296*1)=4294967296 from rfl,show BX (x+4294967296)=x+4294967296 from GV om];omega
 refine lt a 0 (fun j=>?_) (fun j=>?_)
 ·refine lt b 0 (fun tb=>?_) (fun tb=>?_)
  ·refine ch q ?_ (vmk (B5 rfl (B5 (A a ha j) (B5 (A b hb tb) (B5 rfl (B5 rfl R8))))) rfl rfl rfl)
   exact Ah ⟨[wu ((En o (a%4294967296).toNat (b%4294967296).toNat:Nat):Int)],[],[],[]⟩ (v1 v) rfl
  ·refine ch q ?_ (vmk (B5 rfl (B5 (A a ha j) (B5 (z b hb tb) (B5 rfl (B5 rfl R8))))) rfl rfl rfl)
   exact Ah ⟨[wu ((En o (a%4294967296).toNat (b%4294967296).toNat:Nat):Int)],[],[],[]⟩ (v1 v) rfl
 ·refine lt b 0 (fun tb=>?_) (fun tb=>?_)
  ·refine ch q ?_ (vmk (B5 rfl (B5 (z a ha j) (B5 (A b hb tb) (B5 rfl (B5 rfl R8))))) rfl rfl rfl)
   exact Ah ⟨[wu ((En o (a%4294967296).toNat (b%4294967296).toNat:Nat):Int)],[],[],[]⟩ (v1 v) rfl
  ·refine ch q ?_ (vmk (B5 rfl (B5 (z a ha j) (B5 (z b hb tb) (B5 rfl (B5 rfl R8))))) rfl rfl rfl)
   exact Ah ⟨[wu ((En o (a%4294967296).toNat (b%4294967296).toNat:Nat):Int)],[],[],[]⟩ (v1 v) rfl
def Amy (N:Nat):Prop:=∀(op a b:Int) (q:Ov op) (ha:GM a) (hb:GM b),Ok trees N ⟨[op,a,b],[],[],[]⟩ fun j=>(j=(0,(⟨[(AN op a b)],[],[],[]⟩:Aj)))
theorem CP:Amy 198:=by
 intro op a b v ha hb
 rcases v with rfl|rfl|rfl|rfl|rfl|rfl|rfl|rfl|rfl|rfl|rfl|rfl
 ·refine .of (t:=Fi) rfl ?_
  conv=>arg 3;reduce
  refine Bg 10 10 ?_
  exact Ah ⟨[(IntKind.wrap .i32 (IntKind.wrap .u32 (IntKind.wrap .u64 (Ai .add .i64 (IntKind.wrap .i64 a) (IntKind.wrap .i64 b)))))],[],[],[]⟩ ((v1 (q10 ha hb))) rfl
 ·refine .of (t:=Fi) rfl ?_
  conv=>arg 3;reduce
  repeat refine HV 11 ?_
  refine Bg 11 11 ?_
  exact Ah ⟨[(IntKind.wrap .i32 (IntKind.wrap .u32 (IntKind.wrap .u64 (Ai .sub .i64 (IntKind.wrap .i64 a) (IntKind.wrap .i64 b)))))],[],[],[]⟩ ((v1 (q11 ha hb))) rfl
 ·refine .of (t:=Fi) rfl ?_
  conv=>arg 3;reduce
  repeat refine HV 12 ?_
  refine Bg 12 12 ?_
  exact Ah ⟨[(IntKind.wrap .i32 (IntKind.wrap .u32 (IntKind.wrap .u64 (Ai .mul .i64 (IntKind.wrap .i64 a) (IntKind.wrap .i64 b)))))],[],[],[]⟩ ((v1 (q12 ha hb))) rfl
 ·refine .of (t:=Fi) rfl ?_
  conv=>arg 3;reduce
  repeat refine HV 13 ?_
  refine Bg 13 13 ?_
  refine eq (IntKind.wrap .i64 b) 0 (fun x=>?_) (fun x=>?_) rfl rfl
  ·exact Ah ⟨[0],[],[],[]⟩ ((v1 (Aox ha hb asm))) rfl
  exact Ah ⟨[(IntKind.wrap .i32 (IntKind.wrap .u32 (IntKind.wrap .u64 (Ai .quo .i64 (IntKind.wrap .i64 a) (IntKind.wrap .i64 b)))))],[],[],[]⟩ ((v1 (Aow ha hb asm))) rfl
 ·refine .of (t:=Fi) rfl ?_
  conv=>arg 3;reduce
  repeat refine HV 14 ?_
  refine Bg 14 14 ?_
  refine eq (IntKind.wrap .i64 b) 0 (fun q=>?_) (fun q=>?_) rfl rfl
  ·exact Ah ⟨[(IntKind.wrap .i32 (IntKind.wrap .u32 (IntKind.wrap .u64 (Ai .sub .i64 (IntKind.wrap .i64 a) 0))))],[],[],[]⟩ ((v1 (Aov ha hb asm))) rfl
  exact Ah ⟨[(IntKind.wrap .i32 (IntKind.wrap .u32 (IntKind.wrap .u64 (Ai .sub .i64 (IntKind.wrap .i64 a) (Ai .mul .i64 (IntKind.wrap .i64 b) (Ai .quo .i64 (IntKind.wrap .i64 a) (IntKind.wrap .i64 b)))))))],[],[],[]⟩ ((v1 (Aou ha hb asm))) rfl
 ·refine .of (t:=Fi) rfl ?_
  conv=>arg 3;reduce
  repeat refine HV 17 ?_
  refine Bg 17 17 ?_
  obtain ⟨_,rfl,J⟩:=Acr 17 a b (by decide) ha hb
  refine ch J ?_ rfl
  exact Ah ⟨[(AN 17 a b)],[],[],[]⟩ ((v1 (rfl))) rfl
 ·refine .of (t:=Fi) rfl ?_
  conv=>arg 3;reduce
  repeat refine HV 18 ?_
  refine Bg 18 18 ?_
  obtain ⟨_,rfl,B⟩:=Acr 18 a b (by decide) ha hb
  refine ch B ?_ rfl
  exact Ah ⟨[(AN 18 a b)],[],[],[]⟩ ((v1 (rfl))) rfl
 ·refine .of (t:=Fi) rfl ?_
  conv=>arg 3;reduce
  repeat refine HV 19 ?_
  refine Bg 19 19 ?_
  obtain ⟨_,rfl,z⟩:=Acr 19 a b (by decide) ha hb
  refine ch z ?_ rfl
  exact Ah ⟨[(AN 19 a b)],[],[],[]⟩ ((v1 (rfl))) rfl
 ·refine .of (t:=Fi) rfl ?_
  conv=>arg 3;reduce
  repeat refine HV 20 ?_
  refine Bg 20 20 ?_
  obtain ⟨_,rfl,C⟩:=Xb (Ai .rem .i64 (Ai .add .i64 (Ai .rem .i64 (IntKind.wrap .i64 b) 32) 32) 32) (by rw [shn hb];omega)
  refine ch C ?_ rfl
  exact Ah ⟨[(IntKind.wrap .i32 (IntKind.wrap .u32 (IntKind.wrap .u64 (Ai .mul .i64 (IntKind.wrap .i64 a) (2^(Ai .rem .i64 (Ai .add .i64 (Ai .rem .i64 (IntKind.wrap .i64 b) 32) 32) 32).toNat)))))],[],[],[]⟩ ((v1 (q20 ha hb))) rfl
 ·refine .of (t:=Fi) rfl ?_
  conv=>arg 3;reduce
  repeat refine HV 21 ?_
  refine Bg 21 21 ?_
  obtain ⟨_,rfl,I⟩:=Xb (Ai .rem .i64 (Ai .add .i64 (Ai .rem .i64 (IntKind.wrap .i64 b) 32) 32) 32) (by rw [shn hb];omega)
  refine ch I ?_ rfl
  refine AB (2^(Ai .rem .i64 (Ai .add .i64 (Ai .rem .i64 (IntKind.wrap .i64 b) 32) 32) 32).toNat) 0 ?_ (nz hb) rfl rfl
  refine lt (Ai .rem .i64 (IntKind.wrap .i64 a) (2^(Ai .rem .i64 (Ai .add .i64 (Ai .rem .i64 (IntKind.wrap .i64 b) 32) 32) 32).toNat)) 0 (fun A=>?_) (fun A=>?_) rfl rfl
  ·exact Ah ⟨[(IntKind.wrap .i32 (IntKind.wrap .u32 (IntKind.wrap .u64 (Ai .sub .i64 (Ai .quo .i64 (IntKind.wrap .i64 a) (2^(Ai .rem .i64 (Ai .add .i64 (Ai .rem .i64 (IntKind.wrap .i64 b) 32) 32) 32).toNat)) 1))))],[],[],[]⟩ ((v1 (Aot ha hb asm))) rfl
  exact Ah ⟨[(IntKind.wrap .i32 (IntKind.wrap .u32 (IntKind.wrap .u64 (Ai .quo .i64 (IntKind.wrap .i64 a) (2^(Ai .rem .i64 (Ai .add .i64 (Ai .rem .i64 (IntKind.wrap .i64 b) 32) 32) 32).toNat)))))],[],[],[]⟩ ((v1 (Aos ha hb asm))) rfl
 ·refine .of (t:=Fi) rfl ?_
  conv=>arg 3;reduce
  repeat refine HV 22 ?_
  refine Bg 22 22 ?_
  refine lt (IntKind.wrap .i64 b) (IntKind.wrap .i64 a) (fun H=>?_) (fun H=>?_) rfl rfl
  ·exact Ah ⟨[(IntKind.wrap .i32 (IntKind.wrap .u32 (IntKind.wrap .u64 (IntKind.wrap .i64 b))))],[],[],[]⟩ ((v1 (Aor ha hb asm))) rfl
  exact Ah ⟨[(IntKind.wrap .i32 (IntKind.wrap .u32 (IntKind.wrap .u64 (IntKind.wrap .i64 a))))],[],[],[]⟩ ((v1 (Aoq ha hb asm))) rfl
 ·refine .of (t:=Fi) rfl ?_
  conv=>arg 3;reduce
  repeat refine HV 23 ?_
  refine Bg 23 23 ?_
  refine lt (IntKind.wrap .i64 a) (IntKind.wrap .i64 b) (fun j=>?_) (fun j=>?_) rfl rfl
  ·exact Ah ⟨[(IntKind.wrap .i32 (IntKind.wrap .u32 (IntKind.wrap .u64 (IntKind.wrap .i64 b))))],[],[],[]⟩ ((v1 (Aop ha hb asm))) rfl
  exact Ah ⟨[(IntKind.wrap .i32 (IntKind.wrap .u32 (IntKind.wrap .u64 (IntKind.wrap .i64 a))))],[],[],[]⟩ ((v1 (Aoo ha hb asm))) rfl
end
end Go.Proofs.YtaolbokoijfhnaaGreatDoor.Am
namespace Go.AM.K
section
abbrev CT (t:Int) (e:E):Prop:=TR (fun _ _=>False) t e
theorem CT.any {Δ:Rl} {t:Int} {e:E} (h:CT t e):TR Δ t e:=by
 induction h with
 |num h1 h2 h3 h4 h5=>exact .num h1 h2 h3 h4 h5
 |id h1 h2=>exact .id h1 h2
 |var _ _ _ _ h=>exact h.elim
 |un h1 _ ih=>exact .un h1 ih
 |bin h1 _ _ ih1 ih2=>exact .bin h1 ih1 ih2
 |cond _ _ _ ih1 ih2 ih3=>exact .cond ih1 ih2 ih3
 |load _ _ _ h _ _=>exact h.elim
 |call h _ _ _ _=>exact h.elim
 |ca0 h _ _=>exact (h [] (0,0,0)).elim
 |ca1 h _ _ _ _=>exact (h [] (0,0,0)).elim
def Al (Δ:Rl) (e:E):Prop:=∀u,TR Δ u e->CT u e
theorem Al.mk {Δ:Rl} {k o ty v:Int} {s:List Nat} {a:List E} (j:¬k=2) (z:¬k=7) (q:¬k=8) (h:∀e∈a,Al Δ e):Al Δ (.node k o ty v s a):=fun u x=>by
 cases x with
 |num h1 j h3 h4 h5=>exact .num h1 j h3 h4 h5
 |id h1 j=>exact .id h1 j
 |var=>exact absurd rfl j
 |un h1 g=>exact .un h1 (h _ (by simp) _ g)
 |bin h1 g1 g2=>exact .bin h1 (h _ (by simp) _ g1) (h _ (by simp) _ g2)
 |cond g1 g2 g3=>exact .cond (h _ (by simp) _ g1) (h _ (by simp) _ g2) (h _ (by simp) _ g3)
 |load=>exact absurd rfl z
 |call=>exact absurd rfl q
 |ca0=>exact absurd rfl q
 |ca1=>exact absurd rfl q
def Xq (Δ:Rl) (a:List E) (j:Int):Prop:=∀e∈a.drop j.toNat,Al Δ e
theorem Xq.nil {Δ:Rl} {a:List E} {j:Int} (h:((E.Ab a).length:Int)<=j):Xq Δ a j:=fun e q=>by
 rw [E.A7]at h
 rw [List.drop_eq_nil_of_le om]at q;cases q
theorem Xq.step {Δ:Rl} {a:List E} {j:Int} {e:E} (B:0<=j) (z:a[j.toNat]?=some e) (h:Al Δ e) (g:Xq Δ a (j+1)):Xq Δ a j:=fun x q=>by
 obtain ⟨v,A⟩:=List.getElem?_eq_some_iff.1 z
 rw [List.drop_eq_getElem_cons v]at q
 rcases List.mem_cons.1 q with rfl|q
 ·rw [A];exact h
 ·exact g x (by rw [show (j+1).toNat=j.toNat+1 by omega];exact q)
theorem Xq.all {Δ:Rl} {a:List E} (h:Xq Δ a 0):∀e∈a,Al Δ e:=h
theorem TL.Ao6 {Δ:Rl} {a:List E} (h:TL Δ a) (j:Int) (q:0<=j) (z:j<((E.Ab a).length:Int)):∃(k o t v:Int) (s:List Nat) (b:List E) (u:Int),
  (E.Ab a)[j.toNat]?=some [.int .i64 k,.int .i64 o,.int .i64 t,.str s,.int .i32 v,.list 6 (E.Ab b)]/\TR Δ u (.node k o t v s b)/\(E.node k o t v s b).high<=E.BA a/\a[j.toNat]?=some (.node k o t v s b):=by
 obtain ⟨k,o,t,v,s,b,g1,g2⟩:=E.get a j q z
 obtain ⟨u,x⟩:=h _ (List.mem_of_getElem? g2)
 exact ⟨k,o,t,v,s,b,u,g1,x,E.J9 g2,g2⟩
def EOW (Δ:Rl) (e:E):Prop:=e=E0∨∃t,TR Δ t e
theorem EOR.w {Δ:Rl} {e:E} (h:EOR Δ e):EOW Δ e:=h.imp id fun h=>h.1
theorem EOW.pos {Δ:Rl} {k o ty v:Int} {s:List Nat} {a:List E} (h:EOW Δ (.node k o ty v s a)) (j:¬k=0):∃t,TR Δ t (.node k o ty v s a):=by
 rcases h with h|h
 ·cases h;exact absurd rfl j
 ·exact h
theorem EOW.zero {k o ty v:Int} {s:List Nat} {a:List E} {Δ:Rl} (h:EOW Δ (.node k o ty v s a)) (j:k=0):(E.node k o ty v s a).nodes=0:=by
 rcases h with h|⟨t,h⟩
 ·rw [h];rfl
 ·have:=h.kind;omega
mutual
def E.tb:E->Bool
 |.node k o t _ _ a=>if k=1 then decide (t=3)else if k=4 then decide (o=2)&&(E.tbL a).headD false else if k=5 then decide (24<=o) ||decide (17<=o/\o<=19)&&(E.tbL a).headD false else if k=6 then (E.tbL a).getD 1 false else false
def E.tbL:List E->List Bool
 |[]=>[]
 |e::l=>E.tb e::E.tbL l
end
def idV (id o:Int):Int:=if o=1 then id else if o=2 then id%4 else if o=3 then id/4 else if o=4 then 4 else if o=5 then 4 else if o=6 then id%4%2 else id%4/2
mutual
def E.val (id:Int):E->Int
 |.node k o _ v _ a=>if k=1 then v else if k=3 then idV id o
  else if k=4 then (if o=2/\(E.tbL a).headD false=true then bits .xor .i32 ((E.LH id a).headD 0) 1 else uoV o ((E.LH id a).headD 0))
  else if k=5 then Ce o ((E.LH id a).headD 0) ((E.LH id a).getD 1 0)
  else if (E.LH id a).headD 0≠0 then (E.LH id a).getD 1 0 else (E.LH id a).getD 2 0
def E.LH (id:Int):List E->List Int
 |[]=>[]
 |e::l=>E.val id e::E.LH id l
end
section
variable {id o t v:Int} {x y z:E}
theorem PA:(E.node 1 o t v [] []).val id=v:=by rw [E.val,if_pos rfl]
theorem YJ:(E.node 3 o 0 0 [] []).val id=idV id o:=by rw [E.val,if_neg (by decide),if_pos rfl]
theorem I5:(E.node 4 o 0 0 [] [x]).val id=if o=2/\x.tb=true then bits .xor .i32 (x.val id) 1 else uoV o (x.val id):=by
 rw [E.val,if_neg (by decide),if_neg (by decide),if_pos rfl];simp only [E.LH,E.tbL];rfl
theorem PB:(E.node 5 o 0 0 [] [x,y]).val id=Ce o (x.val id) (y.val id):=by
 rw [E.val,if_neg (by decide),if_neg (by decide),if_neg (by decide),if_pos rfl];simp only [E.LH];rfl
theorem GW:(E.node 6 0 0 0 [] [x,y,z]).val id=if x.val id≠0 then y.val id else z.val id:=by
 rw [E.val,if_neg (by decide),if_neg (by decide),if_neg (by decide),if_neg (by decide)];simp only [E.LH];rfl
theorem CT.tb {t:Int} {e:E} (h:CT t e):(e.tb=true↔t=3):=by
 induction h with
 |num h1 h2 h3 h4 h5=>rw [E.tb,if_pos rfl];simp
 |id h1 h2=>rw [E.tb,if_neg (by decide),if_neg (by decide),if_neg (by decide),if_neg (by decide)];simp
 |var _ _ _ _ h=>exact h.elim
 |@un o w u a h1 _ ih=>
  rw [E.tb,if_neg (by decide),if_pos rfl]
  simp only [E.tbL,List.headD_cons,aT,decide_eq_true_eq,ih]
  unfold Xo at h1;omega
 |@bin o w u a b h1 _ _ ih1 ih2=>
  rw [E.tb,if_neg (by decide),if_neg (by decide),if_pos rfl]
  simp only [E.tbL,List.headD_cons,Bool.or_eq_true,aT,decide_eq_true_eq,ih1]
  unfold FC at h1;omega
 |cond _ _ _ ih1 ih2 ih3=>
  rw [E.tb,if_neg (by decide),if_neg (by decide),if_neg (by decide),if_pos rfl]
  simp only [E.tbL];exact ih2
 |load _ _ _ h _ _=>exact h.elim
 |call h _ _ _ _=>exact h.elim
 |ca0 h _ _=>exact (h [] (0,0,0)).elim
 |ca1 h _ _ _ _=>exact (h [] (0,0,0)).elim
theorem AeL {x:Int}:GM (bits .xor .i32 x 1):=by rw [Et.2.2];exact E5 _
theorem AeK {x:Int} (h:x=0∨x=1):bits .xor .i32 x 1=0∨bits .xor .i32 x 1=1:=by rcases h with rfl|rfl<;>decide
theorem CT.val {t:Int} {e:E} (h:CT t e) (x:0<=id/\id<=3):GM (e.val id)/\(t=3->e.val id=0∨e.val id=1):=by
 induction h with
 |num h1 h2 h3 h4 h5=>rw [PA];exact ⟨by constructor<;>omega,h3⟩
 |@id o h1 h2=>
  rw [YJ]
  refine ⟨?_,fun h=>by omega⟩
  unfold idV
  repeat' split
  all_goals constructor<;>omega
 |var _ _ _ _ h=>exact h.elim
 |@un o w u a h1 g ih=>
  rw [I5]
  have q:=h1.X2
  refine ⟨?_,fun v=>?_⟩
  ·split
   ·exact AeL
   ·exact AnK ih.1 ⟨q.1,q.2.1⟩
  ·have j:o=2/\w=3:=by unfold Xo at h1;omega
   rw [if_pos ⟨j.1,(CT.tb g).2 j.2⟩]
   exact AeK (ih.2 j.2)
 |@bin o w u a b h1 _ _ ih1 ih2=>
  rw [PB]
  have q:=h1.X2
  refine ⟨A0 ih1.1 ih2.1 q.1,fun v=>?_⟩
  by_cases h24:24<=o
  ·exact Ty h24
  ·have j:(o=17∨o=18∨o=19)/\w=3:=by unfold FC at h1;omega
   exact Yt j.1 (ih1.2 j.2) (ih2.2 j.2)
 |cond _ _ _ ih1 ih2 ih3=>
  rw [GW]
  split
  ·exact ih2
  ·exact ih3
 |load _ _ _ h _ _=>exact h.elim
 |call h _ _ _ _=>exact h.elim
 |ca0 h _ _=>exact (h [] (0,0,0)).elim
 |ca1 h _ _ _ _=>exact (h [] (0,0,0)).elim
end
theorem HP {x y t:Int} (h:x=y):((0,⟨[x,t],[],[],[]⟩):Out)=(0,⟨[y,t],[],[],[]⟩):=by rw [h]
theorem Pa {p:Prop} (h:p:=by rw [YJ];unfold idV;(repeat' split)<;>first|rfl|(exfalso;omega)):p:=h
def FW (t k o y v:Int) (s:List Nat) (A:List Row):Prop:=∃a:List E,A=E.Ab a/\CT t (.node k o y v s a)/\(E.node k o y v s a).nodes<=13/\(E.node k o y v s a).high<=5
theorem FW.mk {Δ:Rl} {t u k o y v:Int} {s:List Nat} {a:List E} (h:Al Δ (.node k o y v s a)) (j:TR Δ u (.node k o y v s a)) (e:u=t) (hs:(E.node k o y v s a).high<=5/\(E.node k o y v s a).nodes<=13):FW t k o y v s (E.Ab a):=by
 subst e;exact ⟨a,rfl,h _ j,hs.2,hs.1⟩
theorem FW.num {t v:Int} (q:t=1∨t=3) (j:v=0∨v=1):FW t 1 0 t v [] []:=
 ⟨[],rfl,.num om om (fun _=>j) (fun h=>by omega) om,Nat.le_trans (show (E.node 1 0 t v [] []).nodes<=1 from Nat.le_refl _) (by decide),Nat.le_trans (show (E.node 1 0 t v [] []).high<=1 from Nat.le_refl _) (by decide)⟩
def VS:S->Prop
 |.node k _ t _ _ x _ _ _=>k=1->(∃Γ:Ctx,T Γ t x)/\x.high<=5/\x.nodes<=13
def VL (l:List S):Prop:=∀s∈l,VS s
theorem VL.of {lo q:Int} {Γ v:Ctx}:∀{l:List S},LOm lo q Γ l v->VL l
 |[],_=>fun s hs=>by cases hs
 |s::l,.cons h g=>fun x j=>by
  rcases List.mem_cons.1 j with rfl|j
  ·cases h with
   |var _ _ _ _ _ h5 h6=>exact fun _=>⟨⟨_,h5⟩,h6.1,h6.2 rfl⟩
   |esc h1 _=>exact fun h=>by subst h;rcases h1 with h1|h1<;>cases h1
   |bar h1=>exact fun h=>by subst h;rcases h1 with h1|h1<;>cases h1
   |_=>exact fun h=>by cases h
  ·exact VL.of g x j
theorem VL.get {l:List S} (j:Int) (h:VL l) (Q:0<=j) (P:j<((S.Ab l).length:Int)):∃(k o t b:Int) (nm:List Nat) (J M H z:Int) (v:List Nat) (q:List E) (yk A C B:Int) (x:List Nat) (L:List E) (I el:List S),
  (S.Ab l)[j.toNat]?=some [.int .i64 k,.int .i64 o,.int .i64 t,.int .i64 b,.str nm,.int .i64 J,.int .i64 M,.int .i64 H,.str v,.int .i32 z,.list 6 (E.Ab q),.int .i64 yk,.int .i64 A,.int .i64 C,.str x,.int .i32 B,.list 6 (E.Ab L),.list 19 (S.Ab I),.list 19 (S.Ab el)]/\
  VS (.node k o t b nm (.node J M H z v q) (.node yk A C B x L) I el):=by
 rw [S.A7]at P
 have O:j.toNat<l.length:=by omega
 have N:=h _ (List.getElem_mem O)
 generalize he:l[j.toNat]=s at N
 obtain ⟨k,o,t,b,nm,⟨J,M,H,z,v,q⟩,⟨yk,A,C,B,x,L⟩,I,el⟩:=s
 exact ⟨k,o,t,b,nm,J,M,H,z,v,q,yk,A,C,B,x,L,I,el,by rw [S.EW,List.getElem?_eq_getElem O,he];rfl,N⟩
def stE (nm:List Nat) (i:Int) (e:E):S:=.node 3 0 0 0 nm (.node 1 0 1 i [] []) e [] []
def Q6:List Ae:=[⟨[97],1,1,8⟩,⟨[102],1,2,8⟩]
def plΓ:Ctx:=(Ctx.Iq (fun _=>none) [97] (0,1,0)).Iq [102] (0,2,1)
theorem Jy {s:List Nat} (j:¬s=[97]) (q:¬s=[102]):plΓ s=none:=by
 unfold plΓ
 rw [Cu q,Cu j]
theorem plC:Ck plΓ ((Ay Q6).length:Int) ((A5 []).length:Int) (Ay Q6) (A5 []) (am Q6++pm []++fm []):=by
 refine ⟨AfT [[97],[102]] (fun s hs=>?_) (fun s hs=>?_) (by decide),rfl,rfl,fun s t i h=>?_,fun i h=>?_⟩
 ·simp only [List.mem_cons,List.not_mem_nil,or_false]at hs
  rcases hs with rfl|rfl<;>rfl
 ·simp only [List.mem_cons,List.not_mem_nil,or_false,not_or]at hs
  exact Jy hs.1 hs.2
 ·by_cases h1:s=[102]
  ·subst h1
   have e:plΓ [102]=some (0,2,1):=rfl
   rw [e]at h
   simp only [oI,Prod.mk.injEq,true_and]at h
   obtain ⟨rfl,rfl⟩:=h
   exact ⟨by decide,by decide,_,_,_,rfl,fun h=>by omega⟩
  ·by_cases h2:s=[97]
   ·subst h2
    have e:plΓ [97]=some (0,1,0):=rfl
    rw [e]at h
    simp only [oI,Prod.mk.injEq,true_and]at h
    obtain ⟨rfl,rfl⟩:=h
    exact ⟨by decide,by decide,_,_,_,rfl,fun _=>by decide⟩
   ·rw [Jy h2 h1]at h;cases h
 ·have e:plΓ [104]=none:=rfl
  rw [e]at h;cases h
theorem AfV:YB Q6:=.of (by decide)
theorem AfW:Y5 [] Q6:=FR (by rfl)
theorem AfU:FrP (am Q6) []:=FR (by rfl)
theorem Ak3 {α:Type} {p:Prop} {j:Int} {f:α} (h:([]:List α)[j.toNat]?=some f):p:=by simp at h
abbrev S13 (e:E):Prop:=e.nodes<=13/\e.high<=5
abbrev Ak2 (v:Int):E:=.node 1 0 1 v [] []
theorem Cp.parts {Γ:Ctx} {R:List Row} (h:Cp Γ R):∃l,R=S.Ab l/\VL l/\PL l/\S.Ad l<=680/\R.length<=680:=by
 obtain ⟨v,n,⟨l,rfl,j,q,_⟩,z⟩:=h
 have x:=S.len l
 rw [S.A7]
 exact ⟨l,rfl,VL.of j,j.loose.pl,by omega,by omega⟩
theorem Bz.body {g sub:Int} {j P q R:List Row} (h:Bz g sub j P q R):∃l,R=S.Ab l/\VL l/\PL l/\S.Ad l<=680/\R.length<=680:=by
 obtain ⟨_,_,_,_,_,h|⟨_,_,_,_,_,_,_,_,_,h⟩⟩:=h
 ·exact h.2.parts
 ·exact h.parts
theorem AhT {o:Int} (h:Ov o):FC o 1 1:=by unfold FC;unfold Ov at h;omega
attribute [irreducible] E.val
end
section
abbrev vE (s:List Nat):E:=.node 2 0 0 0 s []
abbrev caE (a b:E):E:=.node 8 0 0 0 [104] [a,b]
def caB (o:Int):List S:=[.node 1 0 1 0 [122] (vE [113]) E0 [] [],.node 2 0 0 0 [122] (.node 5 o 0 0 [] [vE [112],vE [122]]) E0 [] []]
def NI (o:Int):Fe:=⟨[104],[⟨[112],1⟩,⟨[113],1⟩],1,caB o,2,0,0,[122],0,[]⟩
def caL (a b:E):List S:=[.node 1 0 1 0 [118] (Ak2 7) E0 [] [],stE [97] 0 a,stE [97] 1 b,stE [97] 2 (caE a b),stE [97] 3 (caE (caE a b) (caE a b)),stE [97] 4 (vE [118])]
def caΓ:Ctx:=plΓ.Iq [104] (1,1,0)
def Ah4:Ctx:=caΓ.Iq [118] (3,1,0)
def cfΓ:Ctx:=(plΓ.Iq [112] (2,1,0)).Iq [113] (2,1,0)
def AdP:Ctx:=cfΓ.Iq [122] (3,1,0)
theorem Jm {Γ:Ctx} {nm:List Nat} {i t j:Int} {e:E} (x:Nm nm) (q:0<=j/\j<=4) (v:Γ nm=some (0,t,j)) (h:T Γ t e) (hs:e.high<=9) (z:0<=i/\i<=9):Fc 0 0 Γ (stE nm i e) Γ:=
 .store x q.1 q.2 v (.num (by decide) (by decide) (fun h=>by cases h) (fun h=>by cases h) om) h ⟨Nat.le_trans (show (E.node 1 0 1 i [] []).high<=1 from Nat.le_refl _) (by decide),fun h=>by cases h⟩ ⟨hs,fun h=>by cases h⟩
theorem WJ {k o t v:Int} {s:List Nat} {a b:E}:(E.node k o t v s [a,b]).high=1+max a.high b.high:=by rw [E.high];simp only [E.BA];omega
theorem Abx {k o t v:Int} {s:List Nat} {a b:E} (h:¬k=0):(E.node k o t v s [a,b]).nodes=1+a.nodes+b.nodes:=by rw [E.nodes,if_neg h];simp only [E.Ad];omega
theorem Pb {k o t v:Int} {s:List Nat}:(E.node k o t v s []).high=1:=by rw [E.high];rfl
theorem Aby {k o t v:Int} {s:List Nat} (h:¬k=0):(E.node k o t v s []).nodes=1:=by rw [E.nodes,if_neg h];rfl
theorem V4 {o:Int} (j:FC o 1 1):EK 0 1 cfΓ (caB o) AdP:=
 .cons (.var (by decide) (fun h=>by cases h) rfl (by decide) (by decide) (.var (k:=2) (i:=0) (by decide) (.inl rfl) (by decide) (by decide) rfl) ⟨by rw [Pb];decide,fun h=>by cases h⟩)
  (.cons (.set (t:=1) (i:=0) (by decide) rfl (.bin j (.var (k:=2) (i:=0) (by decide) (.inl rfl) (by decide) (by decide) rfl) (.var (k:=3) (i:=0) (by decide) (.inr rfl) (by decide) (by decide) rfl)) ⟨by rw [WJ,Pb,Pb];decide,fun h=>by cases h⟩) .nil)
section
variable {a b:E}
theorem Ah6 (ha:CT 1 a) (hb:CT 1 b) (x:S13 a) (z:S13 b):EK 0 0 caΓ (caL a b) Ah4:=by
 have j:Ah4 [97]=some (0,1,0):=rfl
 have q:(0:Int)<=0/\(0:Int)<=4:=by decide
 have v:Nm [97]:=by decide
 have B:=x.2;have A:=z.2
 have hc:T Ah4 1 (caE a b):=.call (i:=0) rfl ha.any hb.any
 exact .cons (.var (by decide) (fun h=>by cases h) rfl (by decide) (by decide) (.num (by decide) (by decide) (fun h=>by cases h) (fun h=>by cases h) (by decide)) ⟨by rw [Pb];decide,fun h=>by cases h⟩)
  (.cons (Jm v q j ha.any om (by decide)) (.cons (Jm v q j hb.any om (by decide)) (.cons (Jm v q j hc (by rw [WJ];omega) (by decide))
   (.cons (Jm v q j (.call (i:=0) rfl hc hc) (by rw [WJ,WJ];omega) (by decide)) (.cons (Jm v q j (.var (k:=3) (i:=0) (by decide) (.inr rfl) (by decide) (by decide) rfl) (by rw [Pb];decide) (by decide)) .nil)))))
theorem Ah5 (x:S13 a) (z:S13 b):S.Ad (caL a b)<=1600/\S.Az (caL a b)<=10:=by
 have n1:∀{i v:Int} {s:List Nat},(E.node i 0 1 v s []).nodes<=1:=fun {i v s}=>by by_cases h:i=0<;>simp [E.nodes,E.Ad,h]
 have n2:∀i:Int,(E.node 1 0 1 i [] []).nodes=1:=fun _=>rfl
 have n3:(Ak2 7).nodes=1:=rfl
 have q:(vE [118]).nodes=1:=rfl
 have j:E0.nodes=0:=rfl
 have B:=x.1;have A:=z.1
 simp only [caL,stE,S.Ad,S.nodes,S.Az,S.deep,n2,n3,q,j,Abx (show¬(8:Int)=0 by decide)]
 omega
end
theorem Aco {s:List Nat} (j:¬s=[97]) (v:¬s=[102]) (q:¬s=[112]) (x:¬s=[113]):cfΓ s=none:=by
 unfold cfΓ
 rw [Cu x,Cu q];exact Jy j v
theorem Acq {s:List Nat} (j:¬s=[97]) (q:¬s=[102]) (v:¬s=[104]):caΓ s=none:=by
 unfold caΓ
 rw [Cu v];exact Jy j q
theorem Abg {s:List Nat} {t i:Int} (h:plΓ s=some (0,t,i)):0<=i/\i<((Ay Q6).length:Int)/\∃(nm:List Nat) (sp ln:Int),(Ay Q6)[i.toNat]?=some [.str nm,.int .i64 sp,.int .i64 t,.int .i64 ln]/\(i=0∨i=2->sp≠3):=plC.ar s t i h
theorem TC {Γ:Ctx} {n s:List Nat} {k t u i j:Int} (q:k≠0) (v:Γ s=some (0,t,i)->plΓ s=some (0,t,i)) (h:Γ.Iq n (k,u,j) s=some (0,t,i)):plΓ s=some (0,t,i):=by
 by_cases e:s=n
 ·subst e
  rw [FD]at h
  simp only [oI,Prod.mk.injEq]at h
  exact absurd h.1 q
 ·rw [Cu e]at h;exact v h
theorem ckF {o:Int}:Ck cfΓ ((Ay Q6).length:Int) ((A5 [NI o]).length:Int) (Ay Q6) (A5 [NI o]) (am Q6++fm ([NI o].take 0)++pm (NI o).ps):=by
 refine ⟨AfT [[97],[102],[112],[113]] (fun s hs=>?_) (fun s hs=>?_) (fun e j=>?_),rfl,rfl,fun s t i h=>Abg (TC (by decide) (TC (by decide) id) h),fun i h=>?_⟩
 ·simp only [List.mem_cons,List.not_mem_nil,or_false]at hs
  rcases hs with rfl|rfl|rfl|rfl<;>rfl
 ·simp only [List.mem_cons,List.not_mem_nil,or_false,not_or]at hs
  exact Aco hs.1 hs.2.1 hs.2.2.1 hs.2.2.2
 ·have:(am Q6++fm ([NI o].take 0)++pm (NI o).ps).map (·.1)=[[97],[102],[112],[113]]:=rfl
  rw [<-this];exact List.mem_map_of_mem j
 ·have e:cfΓ [104]=none:=rfl
  rw [e]at h;cases h
theorem ckB {o:Int}:Ck caΓ ((Ay Q6).length:Int) ((A5 [NI o]).length:Int) (Ay Q6) (A5 [NI o]) (am Q6++pm []++fm [NI o]):=by
 refine ⟨AfT [[97],[102],[104]] (fun s hs=>?_) (fun s hs=>?_) (fun e j=>?_),rfl,rfl,fun s t i h=>Abg (TC (by decide) id h),fun i h=>?_⟩
 ·simp only [List.mem_cons,List.not_mem_nil,or_false]at hs
  rcases hs with rfl|rfl|rfl<;>rfl
 ·simp only [List.mem_cons,List.not_mem_nil,or_false,not_or]at hs
  exact Acq hs.1 hs.2.1 hs.2.2
 ·have:(am Q6++pm []++fm [NI o]).map (·.1)=[[97],[102],[104]]:=rfl
  rw [<-this];exact List.mem_map_of_mem j
 ·have e:caΓ [104]=some (1,1,0):=rfl
  rw [e]at h
  simp only [oI,Prod.mk.injEq,true_and]at h
  subst h
  exact ⟨by decide,by rw [OD];exact (by decide:(0:Int)<1),[112],[113],S.Ab (caB o),2,0,0,0,[122],[],rfl⟩
theorem Abl {α:Type} {p:α->Prop} {x:α} (q:p x) {j:Int} {f:α} (h:([x]:List α)[j.toNat]?=some f):p f:=by
 have:=List.mem_of_getElem? h
 simp only [List.mem_cons,List.not_mem_nil,or_false]at this
 subst this;exact q
theorem Alb {o:Int} (j:FC o 1 1):YA [NI o]:=fun _ _ h=>Abl (p:=FnP) (x:=NI o) ⟨show Nm [104] by decide,show (1:Int)<=1/\(1:Int)<=3 by decide,.of (show∀a∈([⟨[112],1⟩,⟨[113],1⟩]:List Pe),Nm a.nm/\1<=a.ty/\a.ty<=3 by decide),show (2:Nat)<=2 by decide,(V4 j).pl,⟨fun s z=>AdP s=some z,1,.var (k:=3) (i:=0) (show Nm [122] by decide) (.inr rfl) (by decide) (by decide) rfl⟩,
 (by simp only [NI,caB,S.Az,S.deep];decide),(by simp only [NI,caB,S.Ad,S.nodes,Abx (show¬(5:Int)=0 by decide),Aby (show¬(2:Int)=0 by decide),show E0.nodes=0 from rfl];decide),(by rw [show (NI o).a=[]from rfl,show (NI o).k=2 from rfl,Aby (by decide)];decide),(by rw [show (NI o).a=[]from rfl,Pb];decide)⟩ h
theorem Ala {o:Int} (q:FC o 1 1):FsU [NI o]:=fun _ _ h=>Abl (p:=fun f=>∃(j:Int) (Γ v:Ctx),EK j 1 Γ f.fb v) ⟨0,cfΓ,AdP,V4 q⟩ h
theorem Alc {o:Int} (v:FC o 1 1):FsG Q6 [NI o]:=fun j f z h=>by
 have q:j.toNat<1:=(List.getElem?_eq_some_iff.1 h).1
 have q:j=0:=by omega
 subst q
 have hf:some (NI o)=some f:=h
 simp only [oI]at hf
 subst hf
 exact ⟨cfΓ,AdP,fun j x h=>by simp at h,FR (by rfl),ckF,V4 v,.var (k:=3) (i:=0) (show Nm [122] by decide) (.inr rfl) (show (1:Int)<=1 by decide) (show (1:Int)<=3 by decide) rfl⟩
theorem Ah7 {o:Int}:FrF (am Q6++pm []) [NI o]:=FR (by rfl)
end
end Go.AM.K
namespace Go.Proofs.YtaolbokoijfhnaaGreatDoor.Am
section
set_option maxHeartbeats 4000000
set_option maxRecDepth 100000
open Go.AM Go.AM.K
def AcT (N n:Nat):Prop:=∀{Δ:Rl} {t:Int} {a:List E} (k o:Int) (ty v ln:Int) (s:List Nat) (A:Rs) (q:TR Δ t (.node k o ty v s a)) (x:A=E.Ab a) (h:ln=A.length/\(E.node k o ty v s a).high<n),Ok trees N ⟨[k,o,ty,v,ln],[s],[A],[]⟩ fun j=>(j=(0,v0))∨(j=(1,v0)/\(Al Δ (.node k o ty v s a)))
def Am6 (N:Nat):Prop:=∀{Δ:Rl} {t:Int} {a:List E} (k o:Int) (ty v ln:Int) (s:List Nat) (A:Rs) (q:TR Δ t (.node k o ty v s a)) (x:A=E.Ab a) (h:ln=A.length:=by exact kn),Ok trees N ⟨[k,o,ty,v,ln],[s],[A],[]⟩ fun j=>(j=(0,v0))∨(j=(1,v0)/\(Al Δ (.node k o ty v s a)))
def Anu (x N:Nat) (m n:Nat):Prop:=∀{Δ:Rl} {a:List E} (j k:Int) (o ty:Int) (v ln:Int) (s:List Nat) (A:Rs) (B:TL Δ a) (z:A=E.Ab a) (h:ln=A.length/\ln<=1000/\0<=j/\E.BA a<m/\(ln-j).toNat<n),Ok trees N ⟨[j,k,o,ty,v,ln],[s],[A],[]⟩ fun q=>(q=(0,v0))∨(q=(1,v0)/\(Xq Δ a j))
def Am5 (q N:Nat):Prop:=∀{m:Nat} (z:AcT q m) {Δ:Rl} {a:List E} (j k:Int) (o ty:Int) (v ln:Int) (s:List Nat) (A:Rs) (C:TL Δ a) (B:A=E.Ab a) (h:ln=A.length/\ln<=1000/\0<=j/\E.BA a<m:=by exact kn),Ok trees N ⟨[j,k,o,ty,v,ln],[s],[A],[]⟩ fun x=>(x=(0,v0))∨(x=(1,v0)/\(Xq Δ a j))
theorem AiL {m:Nat} (x:AcT 183 m) (n:Nat):Anu 183 184 m n:=by
 induction n with
 |zero=>intro Δ a j k o ty v ln s A q z h;exact absurd h.2.2.2.2 (Nat.not_lt_zero _)
 |succ n ih=>
 intro Δ a j k o ty v ln s A q z h
 subst z
 refine .of (t:=Zc) rfl ?_
 conv=>arg 3;reduce
 refine lt j ln (fun U=>?_) fun U=>?_
 ·refine Dv j 0 ?_
  obtain ⟨M,N,P,L,O,B,Y,C,I,X,V⟩:=q.Ao6 j om om
  refine el C ?_
  obtain ⟨_,(rfl|⟨rfl,R⟩),J⟩:=x M N P L ((E.Ab B).length:Int) O (E.Ab B) I rfl kn
  ·refine ch J ?_
   exact Ah v0 (.inl rfl)
  refine cm J ?_
  refine ch J ?_
  obtain ⟨_,(rfl|⟨rfl,Q⟩),H⟩:=ih (j+1) k o ty v ln s (E.Ab a) q rfl kn
  ·refine ch H ?_
   exact Ah v0 (.inl rfl)
  refine cm H ?_
  refine ch H ?_
  exact Ah v0 (.inr ((⟨rfl,(by first|exact Xq.nil om|exact Xq.step om asm asm asm)⟩)))
 exact Ah v0 (.inr ((⟨rfl,(by first|exact Xq.nil om|exact Xq.step om asm asm asm)⟩)))
theorem Alz:Am5 183 184:=fun {m} hC183 {Δ} {a} j k o ty v ln s A hTL hLa h=>AiL @hC183 ((ln-j).toNat+1) j k o ty v ln s A hTL hLa ⟨h.1,h.2.1,h.2.2.1,h.2.2.2,Nat.lt_succ_self _⟩
theorem AiM (n:Nat):AcT 183 n:=by
 induction n with
 |zero=>intro Δ t a k o ty v ln s A j x h;exact absurd h.2 (Nat.not_lt_zero _)
 |succ n ih=>
 intro Δ t a k o ty v ln s A j x h
 subst x;have ⟨I,L,J⟩:=j.kind;have O:=j.nodes;have P:=Fu (k:=k) (o:=o) (ty:=ty) (v:=v) (s:=s) (a:=a);have hl:=TR.len j.args;have M:=E.A7 a;have N:E.Ad (a.drop (0:Int).toNat)=E.Ad a:=rfl
 refine .of (t:=Zd) rfl ?_
 conv=>arg 3;reduce
 refine eq k 2 (fun H=>?_) fun H=>?_
 ·exact Ah v0 (.inl rfl)
 refine eq k 7 (fun B=>?_) fun B=>?_
 ·exact Ah v0 (.inl rfl)
 refine eq k 8 (fun C=>?_) fun C=>?_
 ·exact Ah v0 (.inl rfl)
 obtain ⟨_,(rfl|⟨rfl,z⟩),q⟩:=Alz @ih 0 k o ty v ln s (E.Ab a) j.args rfl
 ·refine ch q ?_
  exact Ah v0 (.inl rfl)
 refine cm q ?_
 refine ch q ?_
 exact Ah v0 (.inr ((⟨rfl,(Al.mk asm asm asm (Xq.all asm))⟩)))
theorem Al0:Am6 183:=fun {Δ} {t} {a} k o ty v ln s A hT hA h=>AiM ((E.node k o ty v s a).high+1) k o ty v ln s A hT hA ⟨h,Nat.lt_succ_self _⟩
def AcR (N n:Nat):Prop:=∀{Δ:Rl} {a:List E} (k o:Int) (ty v ln:Int) (s:List Nat) (A:Rs) (q:EOW Δ (.node k o ty v s a)) (x:A=E.Ab a) (h:ln=A.length/\(E.node k o ty v s a).nodes<=100000/\(E.node k o ty v s a).high<n),Ok trees N ⟨[k,o,ty,v,ln],[s],[A],[]⟩ fun j=>(∃(r:Int),j=(0,(⟨[r],[],[],[]⟩:Aj))/\(r=(E.node k o ty v s a).nodes))
def Am2 (N:Nat):Prop:=∀{Δ:Rl} {a:List E} (k o:Int) (ty v ln:Int) (s:List Nat) (A:Rs) (q:EOW Δ (.node k o ty v s a)) (x:A=E.Ab a) (h:ln=A.length/\(E.node k o ty v s a).nodes<=100000:=by exact kn),Ok trees N ⟨[k,o,ty,v,ln],[s],[A],[]⟩ fun j=>(∃(r:Int),j=(0,(⟨[r],[],[],[]⟩:Aj))/\(r=(E.node k o ty v s a).nodes))
def Ans (z N:Nat) (m n:Nat):Prop:=∀{Δ:Rl} {a:List E} (q j:Int) (k o:Int) (ty v ln:Int) (s:List Nat) (A:Rs) (H:TL Δ a) (C:A=E.Ab a) (h:ln=A.length/\ln<=1000/\0<=j/\0<=q/\q+E.Ad (a.drop j.toNat)<=100000/\E.BA a<m/\(ln-j).toNat<n),Ok trees N ⟨[q,j,k,o,ty,v,ln],[s],[A],[]⟩ fun B=>(∃(x:Int),B=(0,(⟨[x],[],[],[]⟩:Aj))/\(x=q+E.Ad (a.drop j.toNat)))
def Am1 (z N:Nat):Prop:=∀{m:Nat} (B:AcR z m) {Δ:Rl} {a:List E} (q j:Int) (k o:Int) (ty v ln:Int) (s:List Nat) (A:Rs) (I:TL Δ a) (H:A=E.Ab a) (h:ln=A.length/\ln<=1000/\0<=j/\0<=q/\q+E.Ad (a.drop j.toNat)<=100000/\E.BA a<m:=by exact kn),Ok trees N ⟨[q,j,k,o,ty,v,ln],[s],[A],[]⟩ fun C=>(∃(x:Int),C=(0,(⟨[x],[],[],[]⟩:Aj))/\(x=q+E.Ad (a.drop j.toNat)))
theorem AiH {m:Nat} (x:AcR 187 m) (n:Nat):Ans 187 188 m n:=by
 induction n with
 |zero=>intro Δ a I j k o ty v ln s A q z h;exact absurd h.2.2.2.2.2.2 (Nat.not_lt_zero _)
 |succ n ih=>
 intro Δ a I j k o ty v ln s A q z h
 subst z;have hz:=JN (a:=a) (j:=j)
 refine .of (t:=YY) rfl ?_
 conv=>arg 3;reduce
 refine lt j ln (fun Z=>?_) fun Z=>?_
 ·refine Dv j 0 ?_
  obtain ⟨P,L,Q,O,M,B,ac,C,H,aa,R,V⟩:=q.get j om om
  refine el C ?_
  obtain ⟨_,⟨N,rfl,U⟩,Y⟩:=x P L Q O ((E.Ab B).length:Int) M (E.Ab B) (.inr ⟨_,H⟩) rfl kn
  refine ch Y ?_
  obtain ⟨_,⟨J,rfl,ab⟩,X⟩:=ih (I+N) (j+1) k o ty v ln s (E.Ab a) q rfl kn
  refine ch X ?_
  exact Ah ⟨[J],[],[],[]⟩ (⟨_,rfl,kn⟩)
 exact Ah ⟨[I],[],[],[]⟩ (⟨_,rfl,kn⟩)
theorem Alw:Am1 187 188:=fun {m} hC187 {Δ} {a} nn j k o ty v ln s A hTL hLa h=>AiH @hC187 ((ln-j).toNat+1) nn j k o ty v ln s A hTL hLa ⟨h.1,h.2.1,h.2.2.1,h.2.2.2.1,h.2.2.2.2.1,h.2.2.2.2.2,Nat.lt_succ_self _⟩
theorem AiI (n:Nat):AcR 187 n:=by
 induction n with
 |zero=>intro Δ a k o ty v ln s A j z h;exact absurd h.2.2 (Nat.not_lt_zero _)
 |succ n ih=>
 intro Δ a k o ty v ln s A j z h
 subst z
 refine .of (t:=YZ) rfl ?_
 conv=>arg 3;reduce
 refine eq k 0 (fun B=>?_) fun B=>?_
 ·exact Ah ⟨[0],[],[],[]⟩ (⟨_,rfl,(by first|(have:=j.zero asm;omega) |omega)⟩)
 obtain ⟨t,q⟩:=j.pos asm;have ⟨I,L,J⟩:=q.kind;have O:=q.nodes;have P:=Fu (k:=k) (o:=o) (ty:=ty) (v:=v) (s:=s) (a:=a);have hl:=TR.len q.args;have M:=E.A7 a;have N:E.Ad (a.drop (0:Int).toNat)=E.Ad a:=rfl
 obtain ⟨_,⟨x,rfl,H⟩,C⟩:=Alw @ih 1 0 k o ty v ln s (E.Ab a) q.args rfl
 refine ch C ?_
 exact Ah ⟨[x],[],[],[]⟩ (⟨_,rfl,(by first|(have:=j.zero asm;omega) |omega)⟩)
theorem Ae2:Am2 187:=fun {Δ} {a} k o ty v ln s A hE hA h=>AiI ((E.node k o ty v s a).high+1) k o ty v ln s A hE hA ⟨h.1,h.2,Nat.lt_succ_self _⟩
def AcS (N n:Nat):Prop:=∀{l:List S} (ln:Int) (L:Rs) (v:PL l) (q:L=S.Ab l) (h:ln=L.length/\S.Ad l<=100000/\S.Az l<n),Ok trees N ⟨[ln],[],[L],[]⟩ fun j=>(∃(r:Int),j=(0,(⟨[r],[],[],[]⟩:Aj))/\(r=S.Ad l))
def Am4 (N:Nat):Prop:=∀{l:List S} (ln:Int) (L:Rs) (v:PL l) (q:L=S.Ab l) (h:ln=L.length/\S.Ad l<=100000:=by exact kn),Ok trees N ⟨[ln],[],[L],[]⟩ fun j=>(∃(r:Int),j=(0,(⟨[r],[],[],[]⟩:Aj))/\(r=S.Ad l))
def Ant (z N:Nat) (m n:Nat):Prop:=∀{l:List S} (ln q j:Int) (L:Rs) (B:PL (l.drop j.toNat)) (A:L=S.Ab l) (h:ln=L.length/\ln<=200000/\0<=j/\0<=q/\q+S.Ad (l.drop j.toNat)<=100000/\S.Az (l.drop j.toNat)<=m/\(ln-j).toNat<n),Ok trees N ⟨[ln,q,j],[],[L],[]⟩ fun x=>(∃(v:Int),x=(0,(⟨[v],[],[],[]⟩:Aj))/\(v=q+S.Ad (l.drop j.toNat)))
def Am3 (x N:Nat):Prop:=∀{m:Nat} (z:AcS x m) {l:List S} (ln q j:Int) (L:Rs) (C:PL (l.drop j.toNat)) (B:L=S.Ab l) (h:ln=L.length/\ln<=200000/\0<=j/\0<=q/\q+S.Ad (l.drop j.toNat)<=100000/\S.Az (l.drop j.toNat)<=m:=by exact kn),Ok trees N ⟨[ln,q,j],[],[L],[]⟩ fun A=>(∃(v:Int),A=(0,(⟨[v],[],[],[]⟩:Aj))/\(v=q+S.Ad (l.drop j.toNat)))
theorem AiJ {m:Nat} (q:AcS 185 m) (n:Nat):Ant 185 186 m n:=by
 induction n with
 |zero=>intro l ln O j L hO C h;exact absurd h.2.2.2.2.2.2 (Nat.not_lt_zero _)
 |succ n ih=>
 intro l ln O j L hO C h
 subst C;have hz:=Bf (l:=l) (j:=j)
 refine .of (t:=Za) rfl ?_
 conv=>arg 3;reduce
 refine lt j ln (fun t1=>?_) fun t1=>?_
 ·refine Dv j 0 ?_
  obtain ⟨aD,aC,aF,aE,aB,R,X,Z,H,U,v,Q,P,N,J,V,z,B,A,I,Y,ao,ai,ax⟩:=PL.get j hO om om
  refine el I ?_
  obtain ⟨ay,x,an,ah⟩:=Y.parts;have af:=(x _ (List.mem_cons_self)).w;have ae:=(x _ (List.mem_cons_of_mem _ List.mem_cons_self)).w
  obtain ⟨_,⟨ab,rfl,ag⟩,G3⟩:=Ae2 R X Z H ((E.Ab v).length:Int) U (E.Ab v) asm rfl
  refine ch G3 ?_
  obtain ⟨_,⟨ad,rfl,az⟩,G4⟩:=Ae2 Q P N J ((E.Ab z).length:Int) V (E.Ab z) asm rfl
  refine ch G4 ?_
  obtain ⟨_,⟨aa,rfl,aw⟩,G5⟩:=q ((S.Ab B).length:Int) (S.Ab B) asm rfl kn
  refine ch G5 ?_
  obtain ⟨_,⟨RQ,rfl,aq⟩,G6⟩:=q ((S.Ab A).length:Int) (S.Ab A) asm rfl kn
  refine ch G6 ?_
  obtain ⟨_,⟨M,rfl,aA⟩,G7⟩:=ih ln (O+((((1+ab)+ad)+aa)+RQ)) (j+1) (S.Ab l) asm rfl kn
  refine ch G7 ?_
  exact Ah ⟨[M],[],[],[]⟩ (⟨_,rfl,kn⟩)
 exact Ah ⟨[O],[],[],[]⟩ (⟨_,rfl,kn⟩)
theorem Alx:Am3 185 186:=fun {m} hC185 {l} ln nn j L hO hLs h=>AiJ @hC185 ((ln-j).toNat+1) ln nn j L hO hLs ⟨h.1,h.2.1,h.2.2.1,h.2.2.2.1,h.2.2.2.2.1,h.2.2.2.2.2,Nat.lt_succ_self _⟩
theorem AiK (n:Nat):AcS 185 n:=by
 induction n with
 |zero=>intro l ln L v j h;exact absurd h.2.2 (Nat.not_lt_zero _)
 |succ n ih=>
 intro l ln L v j h
 subst j;have A:=S.len l;have B:=S.A7 l;have C:S.Ad (l.drop (0:Int).toNat)=S.Ad l:=rfl;have H:S.Az (l.drop (0:Int).toNat)=S.Az l:=rfl
 refine .of (t:=Zb) rfl ?_
 conv=>arg 3;reduce
 obtain ⟨_,⟨q,rfl,z⟩,x⟩:=Alx @ih ln 0 0 (S.Ab l) v rfl
 refine ch x ?_
 exact Ah ⟨[q],[],[],[]⟩ (⟨_,rfl,om⟩)
theorem Aly:Am4 185:=fun {l} ln L hO hLs h=>AiK (S.Az l+1) ln L hO hLs ⟨h.1,h.2,Nat.lt_succ_self _⟩
def Anv (N n:Nat):Prop:=∀{l:List S} (t j:Int) (g sub:Int) (M pl:Int) (fl q:Int) (O X:Int) (U V:Int) (H:List Nat) (Q P:Rs) (L R:Rs) (Y:R=S.Ab l) (hV:VL l) (h:q=R.length/\q<=1000/\0<=j/\(q-j).toNat<n),Ok trees N ⟨[t,j,g,sub,M,pl,fl,q,O,X,U,V],[H],[Q,P,L,R],[]⟩ fun C=>(C=(0,v0))∨(∃(J B I A v:Int),∃(z:List Nat),∃(x:Rs),C=(1,(⟨[J,B,I,A,v],[z],[x],[]⟩:Aj))/\(FW t J B I A z x)/\(v=x.length))
def Am7 (N:Nat):Prop:=∀{l:List S} (t j:Int) (g sub:Int) (M pl:Int) (fl x:Int) (O X:Int) (U V:Int) (H:List Nat) (Q P:Rs) (L R:Rs) (Y:R=S.Ab l) (hV:VL l) (h:x=R.length/\x<=1000/\0<=j:=by exact kn),Ok trees N ⟨[t,j,g,sub,M,pl,fl,x,O,X,U,V],[H],[Q,P,L,R],[]⟩ fun C=>(C=(0,v0))∨(∃(J B I A q:Int),∃(z:List Nat),∃(v:Rs),C=(1,(⟨[J,B,I,A,q],[z],[v],[]⟩:Aj))/\(FW t J B I A z v)/\(q=v.length))
theorem AiN (n:Nat):Anv 182 n:=by
 induction n with
 |zero=>intro l t j g sub X pl fl J N M V L z Z P U R aa hV h;exact absurd h.2.2.2 (Nat.not_lt_zero _)
 |succ n ih=>
 intro l t j g sub X pl fl J N M V L z Z P U R aa hV h
 subst aa
 refine .of (t:=Ze) rfl ?_
 conv=>arg 3;reduce
 refine lt j J (fun t1=>?_) fun t1=>?_
 ·refine Dv j 0 ?_
  obtain ⟨aE,a1,aF,a2,aX,B,I,C,A,H,q,aP,a0,aV,aU,aY,aW,aZ,aQ,au,aA⟩:=VL.get j hV om om
  refine el au ?_
  refine eq aE 1 (fun t3=>?_) fun t3=>?_
  ·refine eq aF t (fun t4=>?_) fun t4=>?_
   ·obtain ⟨⟨Γ_,v⟩,x⟩:=aA om
    obtain ⟨_,(rfl|⟨rfl,aH⟩),G5⟩:=Al0 B I C A ((E.Ab q).length:Int) H (E.Ab q) v rfl
    ·refine ch G5 ?_
     obtain ⟨_,(rfl|⟨ac,ai,aC,av,Q,ag,aB,rfl,aK,aJ⟩),G6⟩:=ih t (j+1) g sub X pl fl J N M V L z Z P U (S.Ab l) rfl hV kn
     ·refine ch G6 ?_
      exact Ah v0 (.inl rfl)
     refine cm G6 ?_
     refine ch G6 ?_
     exact Ah ⟨[ac,ai,aC,av,Q],[ag],[aB],[]⟩ (.inr ((⟨_,_,_,_,_,_,_,rfl,(by first|assumption|exact FW.mk asm v om x),kn⟩)))
    refine cm G5 ?_
    refine ch G5 ?_
    exact Ah ⟨[B,I,C,A,((E.Ab q).length:Int)],[H],[(E.Ab q)],[]⟩ (.inr ((⟨_,_,_,_,_,_,_,rfl,(by first|assumption|exact FW.mk asm v om x),kn⟩)))
   obtain ⟨_,(rfl|⟨ax,ap,ay,ad,O,aq,ab,rfl,aI,aL⟩),G7⟩:=ih t (j+1) g sub X pl fl J N M V L z Z P U (S.Ab l) rfl hV kn
   ·refine ch G7 ?_
    exact Ah v0 (.inl rfl)
   refine cm G7 ?_
   refine ch G7 ?_
   exact Ah ⟨[ax,ap,ay,ad,O],[aq],[ab],[]⟩ (.inr ((⟨_,_,_,_,_,_,_,rfl,(by first|assumption|exact FW.mk asm v om x),kn⟩)))
  obtain ⟨_,(rfl|⟨aj,az,ao,aD,Y,ak,aw,rfl,aG,aM⟩),G8⟩:=ih t (j+1) g sub X pl fl J N M V L z Z P U (S.Ab l) rfl hV kn
  ·refine ch G8 ?_
   exact Ah v0 (.inl rfl)
  refine cm G8 ?_
  refine ch G8 ?_
  exact Ah ⟨[aj,az,ao,aD,Y],[ak],[aw],[]⟩ (.inr ((⟨_,_,_,_,_,_,_,rfl,(by first|assumption|exact FW.mk asm v om x),kn⟩)))
 exact Ah v0 (.inl rfl)
theorem Al1:Am7 182:=fun {l} t j g sub al pl fl rl z0 z1 z2 z4 knm Ar P Fs R hLs hV h=>AiN ((rl-j).toNat+1) t j g sub al pl fl rl z0 z1 z2 z4 knm Ar P Fs R hLs hV ⟨h.1,h.2.1,h.2.2,Nat.lt_succ_self _⟩
def Am8 (N:Nat):Prop:=∀{l:List S} (g sub:Int) (J pl:Int) (fl v t:Int) (B:List Nat) (M P:Rs) (I R:Rs) (O:R=S.Ab l) (hV:VL l) (Q:PL l) (h:v=R.length/\v<=1000/\(t=1∨t=3)/\S.Ad l<=100000:=by exact kn),Ok trees N ⟨[g,sub,J,pl,fl,v,t],[B],[M,P,I,R],[]⟩ fun L=>(∃(H A C z j:Int),∃(x:List Nat),∃(q:Rs),L=(0,(⟨[H,A,C,z,j],[x],[q],[]⟩:Aj))/\(FW t H A C z x q)/\(j=q.length))
theorem Ae3:Am8 181:=by
 intro l g sub U pl fl H t J X P O R L hV Y h
 subst L
 refine .of (t:=Zf) rfl ?_
 conv=>arg 3;reduce
 obtain ⟨_,(rfl|⟨v,x,z,q,j,A,B,rfl,N,M⟩),C⟩:=Al1 t 0 g sub U pl fl H 0 0 0 0 J X P O (S.Ab l) rfl hV
 ·refine ch C ?_
  obtain ⟨_,⟨I,rfl,V⟩,Q⟩:=Aly H (S.Ab l) Y rfl
  refine ch Q ?_
  refine de [] ?_
  refine ll 0 [] ?_
  exact Ah ⟨[1,0,t,(I%2),0],[[]],[[]],[]⟩ (⟨_,_,_,_,_,_,_,rfl,(by first|assumption|exact FW.num om om),kn⟩)
 refine cm C ?_
 refine ch C ?_
 exact Ah ⟨[v,x,z,q,j],[A],[B],[]⟩ (⟨_,_,_,_,_,_,_,rfl,(by first|assumption|exact FW.num om om),kn⟩)
end
end Go.Proofs.YtaolbokoijfhnaaGreatDoor.Am
