/- Part 19 of MeaningExpressions. -/
import Derived.Test.YtaolbokoijfhnaaGreatDoorH17
import Derived.Test.YtaolbokoijfhnaaGreatDoorH18
set_option linter.all false
namespace Go.AM.K
section
theorem NG (f:Nat->Nat->Nat) (g:Bool->Bool->Bool) (h:∀a b i,(f a b).testBit i=g (a.testBit i) (b.testBit i)) (X Y i:Nat):
  f X Y%2^(i+1)=f X Y%2^i+(g (decide (X/2^i%2=1)) (decide (Y/2^i%2=1))).toNat*2^i:=by
 have j:=h X Y i
 rw [Nat.testBit_eq_decide_div_mod_eq,Nat.testBit_eq_decide_div_mod_eq,Nat.testBit_eq_decide_div_mod_eq]at j
 rw [<-j,Nat.mod_pow_succ,Nat.mul_comm]
 congr 1
 have:f X Y/2^i%2=0∨f X Y/2^i%2=1:=by omega
 rcases this with h|h<;>rw [h]<;>rfl
def YN (o:Int) (p q:Nat):Nat:=if o=18 then max p q else if o=19 then (p+q)%2 else p*q
def DX (o:Int) (X Y:Nat):Nat:=if o=18 then X|||Y else if o=19 then X^^^Y else X&&&Y
theorem Yw (o:Int) (X Y i:Nat):DX o X Y%2^(i+1)=DX o X Y%2^i+YN o (X/2^i%2) (Y/2^i%2)*2^i:=by
 have q:X/2^i%2=0∨X/2^i%2=1:=by omega
 have j:Y/2^i%2=0∨Y/2^i%2=1:=by omega
 unfold DX YN
 split
 ·rw [NG (·|||·) (·||·) (fun a b i=>Nat.testBit_or a b i)]
  congr 2
  rcases q with h|h<;>rcases j with g|g<;>rw [h,g]<;>rfl
 ·split
  ·rw [NG (·^^^·) (fun a b=>xor a b) (fun a b i=>Nat.testBit_xor a b i)]
   congr 2
   rcases q with h|h<;>rcases j with g|g<;>rw [h,g]<;>rfl
  ·rw [NG (·&&&·) (·&&·) (fun a b i=>Nat.testBit_and a b i)]
   congr 2
   rcases q with h|h<;>rcases j with g|g<;>rw [h,g]<;>rfl
theorem LJ {o:Int} {X Y:Nat} (q:X<2^32) (j:Y<2^32):DX o X Y<2^32:=by
 unfold DX
 split
 ·exact Nat.or_lt_two_pow q j
 ·split
  ·exact Nat.xor_lt_two_pow q j
  ·exact Nat.and_lt_two_pow _ j
theorem Ae7 {o:Int} {p q:Nat} (j:p<=1) (v:q<=1):YN o p q<=1:=by
 unfold YN
 split
 ·omega
 ·split
  ·omega
  ·have:p*q<=1*1:=Nat.mul_le_mul j v
   omega
abbrev Cz (x:Int):Int:=IntKind.wrap .i32 x
abbrev BK (x:Int):Int:=IntKind.wrap .i64 x
abbrev wu (x:Int):Int:=IntKind.wrap .i32 (IntKind.wrap .u32 (IntKind.wrap .u64 x))
abbrev GJ (x:Int):Prop:= -2147483648<=x/\x<=2147483647
theorem PN (x:Int):Cz x=if x%4294967296>=2147483648 then x%4294967296-4294967296 else x%4294967296:=by
 have q:(2:Int)^(IntKind.bits .i32)=4294967296:=rfl
 have j:(2:Int)^(IntKind.bits .i32-1)=2147483648:=rfl
 unfold Cz IntKind.wrap
 simp only [q,j,IntKind.signed,Bool.true_and,decide_eq_true_eq]
theorem Ud {x y:Int} (h:x%4294967296=y%4294967296):Cz x=Cz y:=by rw [PN,PN,h]
theorem EB (x:Int):GJ (Cz x):=by
 rw [PN]
 split<;>constructor<;>omega
theorem Zj (x:Int):IntKind.wrap .u32 x=x%4294967296:=by
 have j:(2:Int)^(IntKind.bits .u32)=4294967296:=rfl
 unfold IntKind.wrap
 simp only [j,IntKind.signed,Bool.false_and,Bool.false_eq_true,if_false]
theorem Zi (x:Int):IntKind.wrap .u64 x=x%18446744073709551616:=by
 have j:(2:Int)^(IntKind.bits .u64)=18446744073709551616:=rfl
 unfold IntKind.wrap
 simp only [j,IntKind.signed,Bool.false_and,Bool.false_eq_true,if_false]
theorem DH (x:Int):wu x=Cz x:=by
 show Cz _=_
 rw [Zi,Zj]
 exact Ud om
theorem Cf (x:Int):Cz (BK x)=Cz x:=by
 have q:(2:Int)^(IntKind.bits .i64)=18446744073709551616:=rfl
 have j:(2:Int)^(IntKind.bits .i64-1)=9223372036854775808:=rfl
 refine Ud ?_
 unfold BK IntKind.wrap
 simp only [q,j,IntKind.signed,Bool.true_and,decide_eq_true_eq]
 split<;>omega
theorem AT {x:Int} (h:GJ x):BK x=x:=Gd om
theorem IF {x:Int} (h:GJ x):Cz x=x:=Zk h
theorem AmM (b:Int):0<=bits .and .i32 b 31/\bits .and .i32 b 31=b%32:=by
 have h:=HW .and .i32 b 31 (.inl rfl)
 rw [<-h]
 have j:Fo b 4294967296=(b%4294967296).toNat:=by
  have:=LI b 4294967296 (by decide)
  omega
 have e:NF .and .i32 b 31=back .i32 (Nat.land (Fo b 4294967296) 31):=rfl
 have v:Nat.land (Fo b 4294967296) 31=Fo b 4294967296%32:=Nat.and_two_pow_sub_one_eq_mod (Fo b 4294967296) 5
 rw [e,v]
 have q:back .i32 (Fo b 4294967296%32)=((Fo b 4294967296%32:Nat):Int):=by
  unfold back
  have:Nat.ble (modulus .i32) (Fo b 4294967296%32+Fo b 4294967296%32)=false:=by
   have:Fo b 4294967296%32<32:=Nat.mod_lt _ (by decide)
   have e:modulus .i32=4294967296:=rfl
   rw [e]
   cases hh:Nat.ble 4294967296 (Fo b 4294967296%32+Fo b 4294967296%32)with
   |false=>rfl
   |true=>have:=Nat.le_of_ble_eq_true hh;omega
  rw [this,Bool.and_false];rfl
 rw [q,j]
 constructor<;>omega
def RS (a b:Int):Int:=
 if b=0 then 0 else if Ag .rem .i64 (Ag .shl .i64 (BK a) 16) (BK b)=0 then Cz (Ag .quo .i64 (Ag .shl .i64 (BK a) 16) (BK b))
 else if (BK b<0)=(Ag .rem .i64 (Ag .shl .i64 (BK a) 16) (BK b)<0)then Cz (Ag .quo .i64 (Ag .shl .i64 (BK a) 16) (BK b))else Cz (Ag .sub .i64 (Ag .quo .i64 (Ag .shl .i64 (BK a) 16) (BK b)) 1)
def Oe (o a b:Int):Int:=
 if o=10 then Ag .add .i32 a b else if o=11 then Ag .sub .i32 a b else if o=12 then Ag .mul .i32 a b
 else if o=13 then (if b=0 then 0 else Cz (Ag .quo .i64 (BK a) (BK b)))else if o=14 then (if b=0 then a else Cz (Ag .rem .i64 (BK a) (BK b)))
 else if o=15 then Cz (Ag .shr .i64 (Ag .mul .i64 (BK a) (BK b)) 16)else if o=16 then RS a b
 else if o=17 then Ag .and .i32 a b else if o=18 then Ag .or .i32 a b else if o=19 then Ag .xor .i32 a b
 else if o=20 then Ag .shl .i32 a (Ag .and .i32 b 31)else if o=21 then Ag .shr .i32 a (Ag .and .i32 b 31)
 else if o=22 then (if b<a then b else a)else if o=23 then (if a<b then b else a)
 else if o=24 then (if a=b then 1 else 0)else if o=25 then (if a=b then 0 else 1)else if o=26 then (if a<b then 1 else 0)else if o=27 then (if a<=b then 1 else 0)
 else if o=28 then (if b<a then 1 else 0)else (if b<=a then 1 else 0)
def Zd (o a:Int):Int:=
 if o=1 then Ag .sub .i32 0 a else if o=2 then Ag .xor .i32 (-1) a else if o=3 then (if 0<=a then a else Ag .sub .i32 0 a)
 else if o=4 then Ag .shl .i32 a 16 else Ag .shr .i32 a 16
def EF (o a b:Int):Int:=
 if o=10 then Cz (a+b)else if o=11 then Cz (a-b)else if o=12 then Cz (a*b)
 else if o=13 then (if b=0 then 0 else Cz (a.tdiv b))else if o=14 then (if b=0 then Cz a else Cz (a-b*a.tdiv b))
 else if o=17∨o=18∨o=19 then Cz (DX o (a%4294967296).toNat (b%4294967296).toNat)
 else if o=20 then Cz (a*2^(b%32).toNat)else if o=21 then Cz (a/2^(b%32).toNat)
 else if o=22 then Cz (if b<a then b else a)else Cz (if a<b then b else a)
def GL (o a:Int):Int:=
 if o=1 then Cz (-a)else if o=2 then Cz (-a-1)else if o=3 then Cz (if a< -a then -a else a)else Cz (a*65536)
theorem NJ {m:Nat} (h:m<4294967296):back .i32 m=Cz (m:Int):=(Gc .i32 (m:Int) m (by
 have e:(2:Int)^(IntKind.bits .i32)=4294967296:=rfl
 rw [e];omega) h).symm
theorem FU (a:Int):Fo a 4294967296=(a%4294967296).toNat:=by
 have:=LI a 4294967296 (by decide)
 omega
theorem DS {a b:Int}:bits .and .i32 a b=Cz (DX 17 (a%4294967296).toNat (b%4294967296).toNat)/\bits .or .i32 a b=Cz (DX 18 (a%4294967296).toNat (b%4294967296).toNat)/\bits .xor .i32 a b=Cz (DX 19 (a%4294967296).toNat (b%4294967296).toNat):=by
 have ha:(a%4294967296).toNat<2^32:=by omega
 have hb:(b%4294967296).toNat<2^32:=by omega
 refine ⟨?_,?_,?_⟩
 ·rw [<-HW .and .i32 a b (.inl rfl),<-NJ (LJ ha hb),<-FU,<-FU];rfl
 ·rw [<-HW .or .i32 a b (.inr (.inl rfl)),<-NJ (LJ ha hb),<-FU,<-FU];rfl
 ·rw [<-HW .xor .i32 a b (.inr (.inr (.inl rfl))),<-NJ (LJ ha hb),<-FU,<-FU];rfl
theorem Abd {a d:Int} (h:GJ a) (hd:1<=d):GJ (a/d):=by
 have q:a/d*d<=a:=Int.ediv_mul_le a om
 have j:a<(a/d+1)*d:=Int.lt_ediv_add_one_mul_self a om
 have v:(a/d+1)*d=a/d*d+d:=by rw [Int.add_mul,Int.one_mul]
 rcases Int.lt_or_le a 0 with hn|hn
 ·have:a/d<0:=Int.ediv_neg_of_neg_of_pos hn om
  refine ⟨?_,by omega⟩
  rcases Int.lt_or_le (a/d) a with hc|hc
  ·have:a/d*d<=a/d*1:=Int.mul_le_mul_of_nonpos_left om hd
   have:(a/d+1)*d<=(a/d+1)*1:=Int.mul_le_mul_of_nonpos_left om hd
   omega
  ·omega
 ·have:0<=a/d:=Int.ediv_nonneg hn om
  have:a/d<=a:=Int.ediv_le_self d hn
  constructor<;>omega
theorem p32 (n:Nat) (h:n<=32):1<=(2:Int)^n/\(2:Int)^n<=4294967296:=by
 have q:2^n<=2^32:=Nat.pow_le_pow_right (by decide) h
 have j:1<=2^n:=Nat.one_le_two_pow
 have e:((2^n:Nat):Int)=(2:Int)^n:=by push_cast;rfl
 omega
theorem Ag4 {a n:Int} (q:0<=n) (j:n<32):Ag .shl .i32 a n=Cz (a*2^n.toNat):=by
 show Cz (a*2^min n.toNat 32)=_
 rw [Nat.min_eq_left om]
theorem UB {a n:Int} (q:0<=n) (j:n<32):Ag .shr .i32 a n=a/2^n.toNat:=by
 show Int.fdiv a (2^min n.toNat 32)=_
 rw [Nat.min_eq_left om]
 exact Int.fdiv_eq_ediv_of_nonneg _ (by have:=(p32 n.toNat om).1;omega)
theorem Sc (b:Int):Ag .and .i32 b 31=b%32:=(AmM b).2
abbrev YU (o:Int):Prop:=o=10∨o=11∨o=12∨o=13∨o=14∨o=17∨o=18∨o=19∨o=20∨o=21∨o=22∨o=23
theorem Ae8 {o a b:Int} (ha:GJ a) (hb:GJ b) (j:YU o):Oe o a b=EF o a b:=by
 rcases j with rfl|rfl|rfl|rfl|rfl|rfl|rfl|rfl|rfl|rfl|rfl|rfl
 ·rfl
 ·rfl
 ·rfl
 ·show (if b=0 then 0 else Cz (Ag .quo .i64 (BK a) (BK b)))=if b=0 then 0 else Cz (a.tdiv b)
  rw [AT ha,AT hb]
  split
  ·rfl
  ·exact Cf _
 ·show (if b=0 then a else Cz (Ag .rem .i64 (BK a) (BK b)))=if b=0 then Cz a else Cz (a-b*a.tdiv b)
  rw [AT ha,AT hb,IF ha]
  split
  ·rfl
  ·show Cz (a.tmod b)=_
   rw [Int.tmod_def]
 ·exact DS.1
 ·exact DS.2.1
 ·exact DS.2.2
 ·show Ag .shl .i32 a (Ag .and .i32 b 31)=Cz (a*2^(b%32).toNat)
  rw [Sc,Ag4 om om]
 ·show Ag .shr .i32 a (Ag .and .i32 b 31)=Cz (a/2^(b%32).toNat)
  rw [Sc,UB om om,IF (Abd ha (p32 _ om).1)]
 ·show (if b<a then b else a)=Cz (if b<a then b else a)
  split
  ·exact (IF hb).symm
  ·exact (IF ha).symm
 ·show (if a<b then b else a)=Cz (if a<b then b else a)
  split
  ·exact (IF hb).symm
  ·exact (IF ha).symm
theorem b01 {x:Int} (h:x=0∨x=1):GJ x:=by rcases h with rfl|rfl<;>decide
theorem Alv {p:Prop} [Decidable p]:(if p then (1:Int)else 0)=0∨(if p then (1:Int)else 0)=1:=by split<;>simp
theorem Alu {p:Prop} [Decidable p]:(if p then (0:Int)else 1)=0∨(if p then (0:Int)else 1)=1:=by split<;>simp
theorem TP {o a b:Int} (j:24<=o):Oe o a b=0∨Oe o a b=1:=by
 unfold Oe
 iterate 14 rw [if_neg om]
 repeat' (first|exact Alv|exact Alu|split)
theorem YO {o a b:Int} (j:o=17∨o=18∨o=19) (ha:a=0∨a=1) (hb:b=0∨b=1):Oe o a b=0∨Oe o a b=1:=by
 rcases j with rfl|rfl|rfl<;>rcases ha with rfl|rfl<;>rcases hb with rfl|rfl<;>decide
theorem Aio (a b:Int):GJ (RS a b):=by
 unfold RS
 repeat' split
 all_goals first|exact EB _|decide
theorem AmI {o a b:Int} (ha:GJ a) (hb:GJ b) (j:10<=o):GJ (Oe o a b):=by
 by_cases h24:24<=o
 ·exact b01 (TP h24)
 ·have:o=10∨o=11∨o=12∨o=13∨o=14∨o=15∨o=16∨o=17∨o=18∨o=19∨o=20∨o=21∨o=22∨o=23:=by omega
  rcases this with rfl|rfl|rfl|rfl|rfl|rfl|rfl|rfl|rfl|rfl|rfl|rfl|rfl|rfl
  ·exact EB _
  ·exact EB _
  ·exact EB _
  ·show GJ (if b=0 then 0 else Cz _)
   split
   ·decide
   ·exact EB _
  ·show GJ (if b=0 then a else Cz _)
   split
   ·exact ha
   ·exact EB _
  ·exact EB _
  ·exact Aio a b
  ·rw [show Oe 17 a b=_ from DS.1];exact EB _
  ·rw [show Oe 18 a b=_ from DS.2.1];exact EB _
  ·rw [show Oe 19 a b=_ from DS.2.2];exact EB _
  ·exact EB _
  ·show GJ (Ag .shr .i32 a (Ag .and .i32 b 31))
   rw [Sc,UB om om]
   exact Abd ha (p32 _ om).1
  ·show GJ (if b<a then b else a)
   split
   ·exact hb
   ·exact ha
  ·show GJ (if a<b then b else a)
   split
   ·exact hb
   ·exact ha
theorem Ao2 {o a:Int} (ha:GJ a) (j:1<=o/\o<=5):GJ (Zd o a):=by
 have:o=1∨o=2∨o=3∨o=4∨o=5:=by omega
 rcases this with rfl|rfl|rfl|rfl|rfl
 ·exact EB _
 ·rw [show Zd 2 a=_ from DS.2.2];exact EB _
 ·show GJ (if 0<=a then a else Cz _)
  split
  ·exact ha
  ·exact EB _
 ·exact EB _
 ·show GJ (Ag .shr .i32 a 16)
  rw [UB (by decide) (by decide)]
  exact Abd ha (by decide)
theorem Af5 {o a:Int} (ha:GJ a) (q:o=1∨o=2∨o=3∨o=4):Zd o a=GL o a:=by
 rcases q with rfl|rfl|rfl|rfl
 ·show Cz (0-a)=Cz (-a)
  rw [Int.zero_sub]
 ·show bits .xor .i32 (-1) a=Cz (-a-1)
  rw [DS.2.2]
  refine Ud ?_
  have e:DX 19 ((-1:Int)%4294967296).toNat (a%4294967296).toNat=4294967295-(a%4294967296).toNat:=by
   have j:((-1:Int)%4294967296).toNat=4294967295:=by decide
   have v:∀x y:Nat,DX 19 x y=x^^^y:=fun _ _=>rfl
   have h:=BitVec.toNat_not (x:=BitVec.ofNat 32 (a%4294967296).toNat)
   rw [<-BitVec.allOnes_xor,BitVec.toNat_xor,BitVec.toNat_ofNat,Nat.mod_eq_of_lt om,BitVec.toNat_allOnes]at h
   have z:(2:Nat)^32-1=4294967295:=by decide
   rw [z]at h
   rw [j,v]
   exact h
  rw [e]
  omega
 ·show (if 0<=a then a else Cz (0-a))=Cz (if a< -a then -a else a)
  by_cases h:0<=a
  ·rw [if_pos h,if_neg om,IF ha]
  ·rw [if_neg h,if_pos om,Int.zero_sub]
 ·rfl
theorem v1 {x y:Int} (h:x=y):((0,⟨[x],[],[],[]⟩):Out)=(0,⟨[y],[],[],[]⟩):=by rw [h]
theorem Ab9 {o i:Int} (j:0<=i) (h:o=2^i.toNat):2*o=2^(i+1).toNat:=by
 rw [h,show (i+1).toNat=i.toNat+1 by omega,Int.pow_succ,Int.mul_comm]
theorem shn {b:Int} (h:GJ b):Ag .rem .i64 (Ag .add .i64 (Ag .rem .i64 (BK b) 32) 32) 32=b%32:=by
 rw [AT h]
 show Int.tmod (BK (Int.tmod b 32+32)) 32=_
 have q:Int.tmod b 32=b-32*Int.tdiv b 32:=Int.tmod_def b 32
 have j:=Int.tmod_lt_of_pos b (show (0:Int)<32 by decide)
 have v: -32<Int.tmod b 32:=Int.lt_tmod_of_pos b (by decide)
 rw [AT (by constructor<;>omega),Int.tmod_eq_emod_of_nonneg om]
 omega
section
variable {a b:Int} (ha:GJ a) (hb:GJ b)
include ha
theorem u1:wu (Ag .sub .i64 0 (BK a))=GL 1 a:=by
 rw [DH,AT ha];show Cz (BK (0-a))=Cz (-a);rw [Cf,Int.zero_sub]
theorem u2:wu (Ag .sub .i64 (Ag .sub .i64 0 (BK a)) 1)=GL 2 a:=by
 rw [DH,AT ha];show Cz (BK (BK (0-a)-1))=Cz (-a-1)
 rw [Cf,show BK (0-a)=0-a from Gd om,Int.zero_sub]
theorem u3a (t:BK a<Ag .sub .i64 0 (BK a)):wu (Ag .sub .i64 0 (BK a))=GL 3 a:=by
 rw [AT ha,show Ag .sub .i64 0 a= -a from by show BK (0-a)=_;rw [show BK (0-a)=0-a from Gd om,Int.zero_sub]]at t
 rw [DH,AT ha];show Cz (BK (0-a))=Cz (if a< -a then -a else a);rw [Cf,Int.zero_sub,if_pos t]
theorem u3b (t:¬BK a<Ag .sub .i64 0 (BK a)):wu (BK a)=GL 3 a:=by
 rw [AT ha,show Ag .sub .i64 0 a= -a from by show BK (0-a)=_;rw [show BK (0-a)=0-a from Gd om,Int.zero_sub]]at t
 rw [DH,AT ha];show Cz a=Cz (if a< -a then -a else a);rw [if_neg t]
theorem u4:wu (Ag .mul .i64 (BK a) 65536)=GL 4 a:=by
 rw [DH,AT ha];show Cz (BK (a*65536))=Cz (a*65536);rw [Cf]
include hb
theorem q10:wu (Ag .add .i64 (BK a) (BK b))=EF 10 a b:=by
 rw [DH,AT ha,AT hb];exact Cf _
theorem q11:wu (Ag .sub .i64 (BK a) (BK b))=EF 11 a b:=by
 rw [DH,AT ha,AT hb];exact Cf _
theorem q12:wu (Ag .mul .i64 (BK a) (BK b))=EF 12 a b:=by
 rw [DH,AT ha,AT hb];exact Cf _
theorem Apg (t:BK b=0):0=EF 13 a b:=by
 rw [AT hb]at t;exact (if_pos t).symm
theorem Apf (t:¬BK b=0):wu (Ag .quo .i64 (BK a) (BK b))=EF 13 a b:=by
 rw [AT hb]at t
 rw [DH,AT ha,AT hb];exact (Cf _).trans (if_neg t).symm
theorem Ape (t:BK b=0):wu (Ag .sub .i64 (BK a) 0)=EF 14 a b:=by
 rw [AT hb]at t
 rw [DH,AT ha];show Cz (BK (a-0))=if b=0 then Cz a else _
 rw [Cf,Int.sub_zero,if_pos t]
theorem Apd (t:¬BK b=0):wu (Ag .sub .i64 (BK a) (Ag .mul .i64 (BK b) (Ag .quo .i64 (BK a) (BK b))))=EF 14 a b:=by
 rw [AT hb]at t
 rw [DH,AT ha,AT hb];show Cz (BK (a-BK (b*BK (a.tdiv b))))=if b=0 then Cz a else Cz (a-b*a.tdiv b)
 have x:(a.tdiv b).natAbs<=a.natAbs:=by rw [Int.natAbs_tdiv];exact Nat.div_le_self _ _
 have j:BK (a.tdiv b)=a.tdiv b:=Gd om
 have z:b*a.tdiv b=a-a.tmod b:=by rw [Int.tmod_def];omega
 have v:(a.tmod b).natAbs<=a.natAbs:=by rw [Int.natAbs_tmod];exact Nat.mod_le _ _
 have q:BK (b*a.tdiv b)=b*a.tdiv b:=Gd om
 rw [Cf,j,q,if_neg t]
theorem q20:wu (Ag .mul .i64 (BK a) (2^(Ag .rem .i64 (Ag .add .i64 (Ag .rem .i64 (BK b) 32) 32) 32).toNat))=EF 20 a b:=by
 rw [DH,AT ha,shn hb];exact Cf _
theorem q21 {n:Nat} (j:n<=32):BK (a.tdiv (2^n))=a.tdiv (2^n)/\a/2^n=if a.tmod (2^n)<0 then a.tdiv (2^n)-1 else a.tdiv (2^n):=by
 have q:=p32 n j
 have x:(a.tdiv (2^n)).natAbs<=a.natAbs:=by rw [Int.natAbs_tdiv];exact Nat.div_le_self _ _
 refine ⟨Gd om,?_⟩
 generalize (2:Int)^n=d at*
 have A:a.tmod d=a-d*a.tdiv d:=Int.tmod_def a d
 have v:=Int.tmod_lt_of_pos a (show 0<d by omega)
 have z: -d<a.tmod d:=Int.lt_tmod_of_pos a om
 split
 ·refine Int.ediv_eq_iff_of_pos om|>.2 ?_
  rw [Int.sub_mul,Int.mul_comm (a.tdiv d) d]
  constructor<;>omega
 ·refine Int.ediv_eq_iff_of_pos om|>.2 ?_
  rw [Int.mul_comm (a.tdiv d) d]
  constructor<;>omega
abbrev shP (b:Int):Int:=2^(Ag .rem .i64 (Ag .add .i64 (Ag .rem .i64 (BK b) 32) 32) 32).toNat
theorem Apc (t:Ag .rem .i64 (BK a) (shP b)<0):wu (Ag .sub .i64 (Ag .quo .i64 (BK a) (shP b)) 1)=EF 21 a b:=by
 have e:shP b=2^(b%32).toNat:=by show (2:Int)^_=_;rw [shn hb]
 rw [e,AT ha]at t
 rw [DH,AT ha,e]
 obtain ⟨j,q⟩:=q21 ha hb (n:=(b%32).toNat) om
 show Cz (BK (BK (a.tdiv (2^(b%32).toNat))-1))=Cz (a/2^(b%32).toNat)
 rw [Cf,j,q,if_pos (show a.tmod (2^(b%32).toNat)<0 from t)]
theorem Apb (t:¬Ag .rem .i64 (BK a) (shP b)<0):wu (Ag .quo .i64 (BK a) (shP b))=EF 21 a b:=by
 have e:shP b=2^(b%32).toNat:=by show (2:Int)^_=_;rw [shn hb]
 rw [e,AT ha]at t
 rw [DH,AT ha,e]
 obtain ⟨q,j⟩:=q21 ha hb (n:=(b%32).toNat) om
 show Cz (BK (a.tdiv (2^(b%32).toNat)))=Cz (a/2^(b%32).toNat)
 rw [Cf,j,if_neg (show¬a.tmod (2^(b%32).toNat)<0 from t)]
theorem Apa (t:BK b<BK a):wu (BK b)=EF 22 a b:=by
 rw [AT ha,AT hb]at t
 rw [DH,Cf];show Cz b=Cz (if b<a then b else a);rw [if_pos t]
theorem AoZ (t:¬BK b<BK a):wu (BK a)=EF 22 a b:=by
 rw [AT ha,AT hb]at t
 rw [DH,Cf];show Cz a=Cz (if b<a then b else a);rw [if_neg t]
theorem AoY (t:BK a<BK b):wu (BK b)=EF 23 a b:=by
 rw [AT ha,AT hb]at t
 rw [DH,Cf];show Cz b=Cz (if a<b then b else a);rw [if_pos t]
theorem AoX (t:¬BK a<BK b):wu (BK a)=EF 23 a b:=by
 rw [AT ha,AT hb]at t
 rw [DH,Cf];show Cz a=Cz (if a<b then b else a);rw [if_neg t]
end
theorem bq {X n:Nat} (v:X<2^32) (x:n<=32):Ag .rem .i64 (Ag .quo .i64 (X:Int) (2^n)) 2=((X/2^n%2:Nat):Int):=by
 show Int.tmod (BK (Int.tdiv (X:Int) (2^n))) 2=_
 have e:((2^n:Nat):Int)=(2:Int)^n:=by push_cast;rfl
 have j:X/2^n<=X:=Nat.div_le_self _ _
 rw [<-e,Int.tdiv_eq_ediv_of_nonneg om,<-Int.natCast_ediv]
 generalize X/2^n=q at*
 rw [show BK (q:Int)=(q:Int)from Gd om,Int.tmod_eq_emod_of_nonneg om]
 omega
theorem AmH {o:Int} {X Y n r:Nat} {s p:Int} (C:n<32) (hs:s=((DX o X Y%2^n:Nat):Int)) (q:p=(r:Int)) (hb:r=YN o (X/2^n%2) (Y/2^n%2)):Ag .add .i64 s (Ag .mul .i64 p (2^n))=((DX o X Y%2^(n+1):Nat):Int):=by
 have j:r<=1:=by rw [hb];exact Ae7 om om
 have B:=p32 n om
 have e:((2^n:Nat):Int)=(2:Int)^n:=by push_cast;rfl
 have z:DX o X Y%2^n<2^n:=Nat.mod_lt _ (Nat.two_pow_pos n)
 have v:(r:Int)*2^n=((r*2^n:Nat):Int):=by push_cast;rfl
 have A:r*2^n<=1*2^n:=Nat.mul_le_mul_right _ j
 show BK (s+BK (p*2^n))=_
 rw [q,v,show BK ((r*2^n:Nat):Int)=((r*2^n:Nat):Int)from Gd om,hs,Yw,<-hb,show∀x y:Nat,((x+y:Nat):Int)=(x:Int)+(y:Int)from fun x y=>by push_cast;rfl]
 exact Gd om
theorem GW {trees:Nat->Tree} {Q:Out->Prop} {t e:Tree} {v:Aj} {i:Nat} {j:Int} (x:Int) (q:W trees Q e v) (hc:¬x=j:=by decide) (z:v.n.getD i 0=x:=by rfl):W trees Q (.B9 i j t e) v:=NZ x j q hc z
theorem nz0 {b:Int} (hb:GJ b) (h:¬b=0):¬BK b=0:=by rw [AT hb];exact h
theorem nz1 {b:Int}:0<=Ag .and .i32 b 31:=by rw [Sc];omega
theorem nz {b:Int} (_:GJ b) {p:Prop} (h:p:=by first|exact nz0 (by assumption) (by assumption) |exact nz1|exact Int.ne_of_gt (Int.pow_pos (by decide))):p:=h
theorem GQ {p:Prop} (h:p:=by split<;>first|rfl|(exfalso;omega)):p:=h
end
section
abbrev CT (t:Int) (e:E):Prop:=TR (fun _ _=>False) t e
theorem CT.any {Δ:Rl} {t:Int} {e:E} (h:CT t e):TR Δ t e:=by
 induction h with
 |num h1 h2 h3 h4 h5=>exact .num h1 h2 h3 h4 h5
 |id h1 h2=>exact .id h1 h2
 |var _ _ _ _ h=>exact h.elim
 |un h1 _ ih=>exact .un h1 ih
 |bin h1 _ _ ih1 ih2=>exact .bin h1 ih1 ih2
 |cond _ _ _ ih1 ih2 ih3=>exact .cond ih1 ih2 ih3
 |load _ _ _ h _ _=>exact h.elim
 |call h _ _ _ _=>exact h.elim
 |ca0 h _ _=>exact (h [] (0,0,0)).elim
 |ca1 h _ _ _ _=>exact (h [] (0,0,0)).elim
def Al (Δ:Rl) (e:E):Prop:=∀u,TR Δ u e->CT u e
theorem Al.mk {Δ:Rl} {k o ty v:Int} {s:List Nat} {a:List E} (j:¬k=2) (z:¬k=7) (q:¬k=8) (h:∀e∈a,Al Δ e):Al Δ (.node k o ty v s a):=fun u x=>by
 cases x with
 |num h1 j h3 h4 h5=>exact .num h1 j h3 h4 h5
 |id h1 j=>exact .id h1 j
 |var=>exact absurd rfl j
 |un h1 g=>exact .un h1 (h _ (by simp) _ g)
 |bin h1 g1 g2=>exact .bin h1 (h _ (by simp) _ g1) (h _ (by simp) _ g2)
 |cond g1 g2 g3=>exact .cond (h _ (by simp) _ g1) (h _ (by simp) _ g2) (h _ (by simp) _ g3)
 |load=>exact absurd rfl z
 |call=>exact absurd rfl q
 |ca0=>exact absurd rfl q
 |ca1=>exact absurd rfl q
def X8 (Δ:Rl) (a:List E) (j:Int):Prop:=∀e∈a.drop j.toNat,Al Δ e
theorem X8.nil {Δ:Rl} {a:List E} {j:Int} (h:((E.Ab a).length:Int)<=j):X8 Δ a j:=fun e q=>by
 rw [E.AA]at h
 rw [List.drop_eq_nil_of_le om]at q;cases q
theorem X8.step {Δ:Rl} {a:List E} {j:Int} {e:E} (B:0<=j) (z:a[j.toNat]?=some e) (h:Al Δ e) (g:X8 Δ a (j+1)):X8 Δ a j:=fun x q=>by
 obtain ⟨v,A⟩:=List.getElem?_eq_some_iff.1 z
 rw [List.drop_eq_getElem_cons v]at q
 rcases List.mem_cons.1 q with rfl|q
 ·rw [A];exact h
 ·exact g x (by rw [show (j+1).toNat=j.toNat+1 by omega];exact q)
theorem X8.all {Δ:Rl} {a:List E} (h:X8 Δ a 0):∀e∈a,Al Δ e:=h
theorem TL.Apq {Δ:Rl} {a:List E} (h:TL Δ a) (j:Int) (q:0<=j) (z:j<((E.Ab a).length:Int)):∃(k o t v:Int) (s:List Nat) (b:List E) (u:Int),
  (E.Ab a)[j.toNat]?=some [.int .i64 k,.int .i64 o,.int .i64 t,.str s,.int .i32 v,.list 6 (E.Ab b)]/\TR Δ u (.node k o t v s b)/\(E.node k o t v s b).high<=E.Bu a/\a[j.toNat]?=some (.node k o t v s b):=by
 obtain ⟨k,o,t,v,s,b,g1,g2⟩:=E.get a j q z
 obtain ⟨u,x⟩:=h _ (List.mem_of_getElem? g2)
 exact ⟨k,o,t,v,s,b,u,g1,x,E.JJ g2,g2⟩
def EOW (Δ:Rl) (e:E):Prop:=e=E0∨∃t,TR Δ t e
theorem EOR.w {Δ:Rl} {e:E} (h:EOR Δ e):EOW Δ e:=h.imp id fun h=>h.1
theorem EOW.pos {Δ:Rl} {k o ty v:Int} {s:List Nat} {a:List E} (h:EOW Δ (.node k o ty v s a)) (j:¬k=0):∃t,TR Δ t (.node k o ty v s a):=by
 rcases h with h|h
 ·cases h;exact absurd rfl j
 ·exact h
theorem EOW.zero {k o ty v:Int} {s:List Nat} {a:List E} {Δ:Rl} (h:EOW Δ (.node k o ty v s a)) (j:k=0):(E.node k o ty v s a).nodes=0:=by
 rcases h with h|⟨t,h⟩
 ·rw [h];rfl
 ·have:=h.kind;omega
mutual
def E.tb:E->Bool
 |.node k o t _ _ a=>if k=1 then decide (t=3)else if k=4 then decide (o=2)&&(E.tbL a).headD false else if k=5 then decide (24<=o) ||decide (17<=o/\o<=19)&&(E.tbL a).headD false else if k=6 then (E.tbL a).getD 1 false else false
def E.tbL:List E->List Bool
 |[]=>[]
 |e::l=>E.tb e::E.tbL l
end
def idV (id o:Int):Int:=if o=1 then id else if o=2 then id%4 else if o=3 then id/4 else if o=4 then 4 else if o=5 then 4 else if o=6 then id%4%2 else id%4/2
mutual
def E.val (id:Int):E->Int
 |.node k o _ v _ a=>if k=1 then v else if k=3 then idV id o
  else if k=4 then (if o=2/\(E.tbL a).headD false=true then bits .xor .i32 ((E.LU id a).headD 0) 1 else Zd o ((E.LU id a).headD 0))
  else if k=5 then Oe o ((E.LU id a).headD 0) ((E.LU id a).getD 1 0)
  else if (E.LU id a).headD 0≠0 then (E.LU id a).getD 1 0 else (E.LU id a).getD 2 0
def E.LU (id:Int):List E->List Int
 |[]=>[]
 |e::l=>E.val id e::E.LU id l
end
section
variable {id o t v:Int} {x y z:E}
theorem Ge:(E.node 1 o t v [] []).val id=v:=by rw [E.val,if_pos rfl]
theorem Zm:(E.node 3 o 0 0 [] []).val id=idV id o:=by rw [E.val,if_neg (by decide),if_pos rfl]
theorem FD:(E.node 4 o 0 0 [] [x]).val id=if o=2/\x.tb=true then bits .xor .i32 (x.val id) 1 else Zd o (x.val id):=by
 rw [E.val,if_neg (by decide),if_neg (by decide),if_pos rfl];simp only [E.LU,E.tbL];rfl
theorem LG:(E.node 5 o 0 0 [] [x,y]).val id=Oe o (x.val id) (y.val id):=by
 rw [E.val,if_neg (by decide),if_neg (by decide),if_neg (by decide),if_pos rfl];simp only [E.LU];rfl
theorem C8:(E.node 6 0 0 0 [] [x,y,z]).val id=if x.val id≠0 then y.val id else z.val id:=by
 rw [E.val,if_neg (by decide),if_neg (by decide),if_neg (by decide),if_neg (by decide)];simp only [E.LU];rfl
theorem CT.tb {t:Int} {e:E} (h:CT t e):(e.tb=true↔t=3):=by
 induction h with
 |num h1 h2 h3 h4 h5=>rw [E.tb,if_pos rfl];simp
 |id h1 h2=>rw [E.tb,if_neg (by decide),if_neg (by decide),if_neg (by decide),if_neg (by decide)];simp
 |var _ _ _ _ h=>exact h.elim
 |@un o w u a h1 _ ih=>
  rw [E.tb,if_neg (by decide),if_pos rfl]
  simp only [E.tbL,List.headD_cons,aT,decide_eq_true_eq,ih]
  unfold Sk at h1;omega
 |@bin o w u a b h1 _ _ ih1 ih2=>
  rw [E.tb,if_neg (by decide),if_neg (by decide),if_pos rfl]
  simp only [E.tbL,List.headD_cons,Bool.or_eq_true,aT,decide_eq_true_eq,ih1]
  unfold HZ at h1;omega
 |cond _ _ _ ih1 ih2 ih3=>
  rw [E.tb,if_neg (by decide),if_neg (by decide),if_neg (by decide),if_pos rfl]
  simp only [E.tbL];exact ih2
 |load _ _ _ h _ _=>exact h.elim
 |call h _ _ _ _=>exact h.elim
 |ca0 h _ _=>exact (h [] (0,0,0)).elim
 |ca1 h _ _ _ _=>exact (h [] (0,0,0)).elim
theorem Af0 {x:Int}:GJ (bits .xor .i32 x 1):=by rw [DS.2.2];exact EB _
theorem Afz {x:Int} (h:x=0∨x=1):bits .xor .i32 x 1=0∨bits .xor .i32 x 1=1:=by rcases h with rfl|rfl<;>decide
theorem CT.val {t:Int} {e:E} (h:CT t e) (v:0<=id/\id<=3):GJ (e.val id)/\(t=3->e.val id=0∨e.val id=1):=by
 induction h with
 |num h1 h2 h3 h4 h5=>rw [Ge];exact ⟨by constructor<;>omega,h3⟩
 |@id o h1 h2=>
  rw [Zm]
  refine ⟨?_,fun h=>by omega⟩
  unfold idV
  repeat' split
  all_goals constructor<;>omega
 |var _ _ _ _ h=>exact h.elim
 |@un o w u a h1 g ih=>
  rw [FD]
  have j:=h1.XJ
  refine ⟨?_,fun q=>?_⟩
  ·split
   ·exact Af0
   ·exact Ao2 ih.1 ⟨j.1,j.2.1⟩
  ·have e1:o=2/\w=3:=by unfold Sk at h1;omega
   rw [if_pos ⟨e1.1,(CT.tb g).2 e1.2⟩]
   exact Afz (ih.2 e1.2)
 |@bin o w u a b h1 _ _ ih1 ih2=>
  rw [LG]
  have j:=h1.XJ
  refine ⟨AmI ih1.1 ih2.1 j.1,fun q=>?_⟩
  by_cases h24:24<=o
  ·exact TP h24
  ·have e1:(o=17∨o=18∨o=19)/\w=3:=by unfold HZ at h1;omega
   exact YO e1.1 (ih1.2 e1.2) (ih2.2 e1.2)
 |cond _ _ _ ih1 ih2 ih3=>
  rw [C8]
  split
  ·exact ih2
  ·exact ih3
 |load _ _ _ h _ _=>exact h.elim
 |call h _ _ _ _=>exact h.elim
 |ca0 h _ _=>exact (h [] (0,0,0)).elim
 |ca1 h _ _ _ _=>exact (h [] (0,0,0)).elim
end
theorem Ia {x y t:Int} (h:x=y):((0,⟨[x,t],[],[],[]⟩):Out)=(0,⟨[y,t],[],[],[]⟩):=by rw [h]
theorem Pk {p:Prop} (h:p:=by rw [Zm];unfold idV;(repeat' split)<;>first|rfl|(exfalso;omega)):p:=h
def ED (t k o y v:Int) (s:List Nat) (A:List Row):Prop:=∃a:List E,A=E.Ab a/\CT t (.node k o y v s a)/\(E.node k o y v s a).nodes<=13/\(E.node k o y v s a).high<=5
theorem ED.mk {Δ:Rl} {t u k o y v:Int} {s:List Nat} {a:List E} (h:Al Δ (.node k o y v s a)) (j:TR Δ u (.node k o y v s a)) (e:u=t) (hs:(E.node k o y v s a).high<=5/\(E.node k o y v s a).nodes<=13):ED t k o y v s (E.Ab a):=by
 subst e;exact ⟨a,rfl,h _ j,hs.2,hs.1⟩
theorem ED.num {t v:Int} (q:t=1∨t=3) (j:v=0∨v=1):ED t 1 0 t v [] []:=
 ⟨[],rfl,.num om om (fun _=>j) (fun h=>by omega) om,Nat.le_trans (show (E.node 1 0 t v [] []).nodes<=1 from Nat.le_refl _) (by decide),Nat.le_trans (show (E.node 1 0 t v [] []).high<=1 from Nat.le_refl _) (by decide)⟩
def VS:S->Prop
 |.node k _ t _ _ x _ _ _=>k=1->(∃Γ:Ctx,T Γ t x)/\x.high<=5/\x.nodes<=13
def VL (l:List S):Prop:=∀s∈l,VS s
theorem VL.of {lo q:Int} {Γ v:Ctx}:∀{l:List S},LOm lo q Γ l v->VL l
 |[],_=>fun s hs=>by cases hs
 |s::l,.cons h g=>fun x j=>by
  rcases List.mem_cons.1 j with rfl|j
  ·cases h with
   |var _ _ _ _ _ h5 h6=>exact fun _=>⟨⟨_,h5⟩,h6.1,h6.2 rfl⟩
   |esc h1 _=>exact fun h=>by subst h;rcases h1 with h1|h1<;>cases h1
   |bar h1=>exact fun h=>by subst h;rcases h1 with h1|h1<;>cases h1
   |_=>exact fun h=>by cases h
  ·exact VL.of g x j
theorem VL.get {l:List S} (j:Int) (h:VL l) (Q:0<=j) (P:j<((S.Ab l).length:Int)):∃(k o t b:Int) (nm:List Nat) (J M H z:Int) (v:List Nat) (q:List E) (yk A C B:Int) (x:List Nat) (L:List E) (I el:List S),
  (S.Ab l)[j.toNat]?=some [.int .i64 k,.int .i64 o,.int .i64 t,.int .i64 b,.str nm,.int .i64 J,.int .i64 M,.int .i64 H,.str v,.int .i32 z,.list 6 (E.Ab q),.int .i64 yk,.int .i64 A,.int .i64 C,.str x,.int .i32 B,.list 6 (E.Ab L),.list 19 (S.Ab I),.list 19 (S.Ab el)]/\
  VS (.node k o t b nm (.node J M H z v q) (.node yk A C B x L) I el):=by
 rw [S.AA]at P
 have O:j.toNat<l.length:=by omega
 have N:=h _ (List.getElem_mem O)
 generalize he:l[j.toNat]=s at N
 obtain ⟨k,o,t,b,nm,⟨J,M,H,z,v,q⟩,⟨yk,A,C,B,x,L⟩,I,el⟩:=s
 exact ⟨k,o,t,b,nm,J,M,H,z,v,q,yk,A,C,B,x,L,I,el,by rw [S.Fc,List.getElem?_eq_getElem O,he];rfl,N⟩
def Sz (e:E):Prop:=e.nodes<=45/\e.high<=9
def stE (nm:List Nat) (i:Int) (e:E):S:=.node 3 0 0 0 nm (.node 1 0 1 i [] []) e [] []
def plL (e0 e1 e2 e3 e4 e5 e6 e7:E):List S:=[stE [97] 0 e0,stE [97] 1 e1,stE [97] 2 e2,stE [97] 3 e3,stE [97] 4 e4,stE [97] 5 e5,stE [102] 0 e6,stE [97] 6 e7]
def plA:List Ae:=[⟨[97],1,1,8⟩,⟨[102],1,2,8⟩]
def XQ:Ctx:=(Ctx.Ld (fun _=>none) [97] (0,1,0)).Ld [102] (0,2,1)
theorem Hs {nm:List Nat} {i t j:Int} {e:E} (x:Nm nm) (q:0<=j/\j<=4) (v:XQ nm=some (0,t,j)) (h:CT t e) (hs:Sz e) (hi:0<=i/\i<=9):Fk 0 0 XQ (stE nm i e) XQ:=
 .store x q.1 q.2 v (.num (by decide) (by decide) (fun h=>by cases h) (fun h=>by cases h) om) h.any ⟨Nat.le_trans (show (E.node 1 0 1 i [] []).high<=1 from Nat.le_refl _) (by decide),fun h=>by cases h⟩ ⟨hs.2,fun h=>by cases h⟩
section
variable {e0 e1 e2 e3 e4 e5 e6 e7:E}
theorem Ag9 (B:CT 1 e0) (J:CT 1 e1) (A:CT 1 e2) (Q:CT 1 e3) (I:CT 1 e4) (M:CT 1 e5) (R:CT 2 e6) (L:CT 1 e7) (N:Sz e0) (P:Sz e1) (H:Sz e2) (U:Sz e3) (z:Sz e4) (V:Sz e5) (v:Sz e6) (C:Sz e7):
  Fm 0 0 XQ (plL e0 e1 e2 e3 e4 e5 e6 e7) XQ:=by
 have ha:Nm [97]:=by decide
 have hf:Nm [102]:=by decide
 have j:XQ [97]=some (0,1,0):=rfl
 have O:XQ [102]=some (0,2,1):=rfl
 have q:(0:Int)<=0/\(0:Int)<=4:=by decide
 have x:(0:Int)<=1/\(1:Int)<=4:=by decide
 exact .cons (Hs ha q j B N (by decide)) (.cons (Hs ha q j J P (by decide)) (.cons (Hs ha q j A H (by decide)) (.cons (Hs ha q j Q U (by decide)) (.cons (Hs ha q j I z (by decide)) (.cons (Hs ha q j M V (by decide)) (.cons (Hs hf x O R v (by decide)) (.cons (Hs ha q j L C (by decide)) .nil)))))))
theorem Ag8 (B:Sz e0) (v:Sz e1) (A:Sz e2) (z:Sz e3) (q:Sz e4) (C:Sz e5) (j:Sz e6) (x:Sz e7):S.Ad (plL e0 e1 e2 e3 e4 e5 e6 e7)<=1600/\S.Az (plL e0 e1 e2 e3 e4 e5 e6 e7)<=10:=by
 have n1:∀i:Int,(E.node 1 0 1 i [] []).nodes=1:=fun _=>rfl
 unfold Sz at*
 simp only [plL,stE,S.Ad,S.nodes,S.Az,S.deep,n1]
 omega
end
theorem SR {s:List Nat} (j:¬s=[97]) (q:¬s=[102]):XQ s=none:=by
 unfold XQ
 rw [DY q,DY j]
theorem plC:Ck XQ ((Ay plA).length:Int) ((A8 []).length:Int) (Ay plA) (A8 []) (am plA++pm []++fm []):=by
 refine ⟨Ao6 [[97],[102]] (fun s hs=>?_) (fun s hs=>?_) (by decide),rfl,rfl,fun s t i h=>?_,fun i h=>?_⟩
 ·simp only [List.mem_cons,List.not_mem_nil,or_false]at hs
  rcases hs with rfl|rfl<;>rfl
 ·simp only [List.mem_cons,List.not_mem_nil,or_false,not_or]at hs
  exact SR hs.1 hs.2
 ·by_cases h1:s=[102]
  ·subst h1
   have e:XQ [102]=some (0,2,1):=rfl
   rw [e]at h
   simp only [oI,Prod.mk.injEq,true_and]at h
   obtain ⟨rfl,rfl⟩:=h
   exact ⟨by decide,by decide,_,_,_,rfl,fun h=>by omega⟩
  ·by_cases h2:s=[97]
   ·subst h2
    have e:XQ [97]=some (0,1,0):=rfl
    rw [e]at h
    simp only [oI,Prod.mk.injEq,true_and]at h
    obtain ⟨rfl,rfl⟩:=h
    exact ⟨by decide,by decide,_,_,_,rfl,fun _=>by decide⟩
   ·rw [SR h2 h1]at h;cases h
 ·have e:XQ [104]=none:=rfl
  rw [e]at h;cases h
theorem AgB:Zf plA:=.of (by decide)
theorem AgC:Za [] plA:=It (by rfl)
theorem Ag7:FrP (am plA) []:=It (by rfl)
theorem AgA:FrF (am plA++pm []) []:=It (by rfl)
theorem WU {α:Type} {p:Prop} {j:Int} {f:α} (h:([]:List α)[j.toNat]?=some f):p:=by simp at h
abbrev Wb (e:E):Prop:=e.nodes<=13/\e.high<=5
theorem Sz.a {e:E} (h:Wb e):Sz e:=⟨by have:=h.1;omega,by have:=h.2;omega⟩
theorem JA {k o t v:Int} {s:List Nat} {a:List E} (j:¬k=0):(E.node k o t v s a).nodes=1+E.Ad a:=by rw [E.nodes,if_neg j]
section
variable {x y z:E} {o:Int}
theorem Sz.un (h:Wb x):Sz (.node 4 o 0 0 [] [x]):=by
 have e1:=JA (k:=4) (o:=o) (t:=0) (v:=0) (s:=[]) (a:=[x]) (by decide)
 have e2:(E.node 4 o 0 0 [] [x]).high=1+E.Bu [x]:=Dx
 have:=h.1;have:=h.2
 simp only [E.Ad,E.Bu]at e1 e2
 exact ⟨by omega,by omega⟩
theorem Sz.bin (h:Wb x) (g:Wb y):Sz (.node 5 o 0 0 [] [x,y]):=by
 have e1:=JA (k:=5) (o:=o) (t:=0) (v:=0) (s:=[]) (a:=[x,y]) (by decide)
 have e2:(E.node 5 o 0 0 [] [x,y]).high=1+E.Bu [x,y]:=Dx
 have:=h.1;have:=h.2;have:=g.1;have:=g.2
 simp only [E.Ad,E.Bu]at e1 e2
 exact ⟨by omega,by omega⟩
theorem Sz.cond (j:z.nodes<=14/\z.high<=6) (h:Wb x) (g:Wb y):Sz (.node 6 0 0 0 [] [z,x,y]):=by
 have e1:=JA (k:=6) (o:=0) (t:=0) (v:=0) (s:=[]) (a:=[z,x,y]) (by decide)
 have e2:(E.node 6 0 0 0 [] [z,x,y]).high=1+E.Bu [z,x,y]:=Dx
 have:=h.1;have:=h.2;have:=g.1;have:=g.2;have:=j.1;have:=j.2
 simp only [E.Ad,E.Bu]at e1 e2
 exact ⟨by omega,by omega⟩
theorem Sz.not (h:Wb x):(E.node 4 2 0 0 [] [x]).nodes<=14/\(E.node 4 2 0 0 [] [x]).high<=6:=by
 have e1:=JA (k:=4) (o:=2) (t:=0) (v:=0) (s:=[]) (a:=[x]) (by decide)
 have e2:(E.node 4 2 0 0 [] [x]).high=1+E.Bu [x]:=Dx
 have:=h.1;have:=h.2
 simp only [E.Ad,E.Bu]at e1 e2
 exact ⟨by omega,by omega⟩
theorem Sz.up (h:Wb x):x.nodes<=14/\x.high<=6:=⟨by have:=h.1;omega,by have:=h.2;omega⟩
end
abbrev IU (v:Int):E:=.node 1 0 1 v [] []
theorem Wb.num {v:Int}:Wb (IU v):=⟨Nat.le_trans (show (IU v).nodes<=1 from Nat.le_refl _) (by decide),Nat.le_trans (show (IU v).high<=1 from Nat.le_refl _) (by decide)⟩
theorem CT.IU {v:Int} (h:0<=v/\v<=9):CT 1 (K.IU v):=.num (by decide) (by decide) (fun h=>by cases h) (fun h=>by cases h) om
section
variable {x y z:E} {i:Int} (hi:0<=i/\i<=3)
include hi
theorem Ael {o:Int} (v:CT 1 x) (q:CT 1 y) (j:YU o):(E.node 5 o 0 0 [] [x,y]).val i=EF o (x.val i) (y.val i):=by
 rw [LG];exact Ae8 (CT.val v hi).1 (CT.val q hi).1 j
theorem Acs {o:Int} (j:CT 1 x) (q:o=1∨o=2∨o=3∨o=4):(E.node 4 o 0 0 [] [x]).val i=GL o (x.val i):=by
 rw [FD,if_neg (fun h=>by have:=(CT.tb j).1 h.2;omega)];exact Af5 (CT.val j hi).1 q
omit hi in
theorem Aia:(E.node 6 0 0 0 [] [z,IU 1,IU 0]).val i=0∨(E.node 6 0 0 0 [] [z,IU 1,IU 0]).val i=1:=by
 rw [C8];split
 ·exact .inr Ge
 ·exact .inl Ge
theorem AhY (j:CT 3 z) (h:(E.node 6 0 0 0 [] [z,IU 1,IU 0]).val i=1):(E.node 6 0 0 0 [] [z,x,y]).val i=x.val i/\(E.node 6 0 0 0 [] [.node 4 2 0 0 [] [z],x,y]).val i=y.val i:=by
 rw [C8]at h
 have hc:z.val i≠0:=fun hc=>by rw [if_neg om,Ge]at h;omega
 have q:z.val i=1:=by have:=(CT.val j hi).2 rfl;omega
 refine ⟨by rw [C8,if_pos hc],?_⟩
 rw [C8,FD,show (if (2:Int)=2/\z.tb=true then bits .xor .i32 (E.val i z) 1 else Zd 2 (E.val i z))=bits .xor .i32 (E.val i z) 1 from if_pos ⟨rfl,(CT.tb j).2 rfl⟩,q,if_neg (by decide)]
theorem AhZ (q:CT 3 z) (h:¬(E.node 6 0 0 0 [] [z,IU 1,IU 0]).val i=1):(E.node 6 0 0 0 [] [z,x,y]).val i=y.val i/\(E.node 6 0 0 0 [] [.node 4 2 0 0 [] [z],x,y]).val i=x.val i:=by
 rw [C8]at h
 have hc:¬z.val i≠0:=fun hc=>by rw [if_pos hc,Ge]at h;omega
 have j:z.val i=0:=by omega
 refine ⟨by rw [C8,if_neg hc],?_⟩
 rw [C8,FD,show (if (2:Int)=2/\z.tb=true then bits .xor .i32 (E.val i z) 1 else Zd 2 (E.val i z))=bits .xor .i32 (E.val i z) 1 from if_pos ⟨rfl,(CT.tb q).2 rfl⟩,j,if_pos (by decide)]
end
theorem Cr.parts {Γ:Ctx} {R:List Row} (h:Cr Γ R):∃l,R=S.Ab l/\VL l/\PL l/\S.Ad l<=680/\R.length<=680:=by
 obtain ⟨v,n,⟨l,rfl,j,q,_⟩,z⟩:=h
 have x:=S.len l
 rw [S.AA]
 exact ⟨l,rfl,VL.of j,j.loose.pl,by omega,by omega⟩
theorem B5.body {g sub:Int} {j P q R:List Row} (h:B5 g sub j P q R):∃l,R=S.Ab l/\VL l/\PL l/\S.Ad l<=680/\R.length<=680:=by
 obtain ⟨_,_,_,_,_,h|⟨_,_,_,_,_,_,_,_,_,h⟩⟩:=h
 ·exact h.2.parts
 ·exact h.parts
theorem Ai9 {o:Int} (h:YU o):HZ o 1 1:=by unfold HZ;unfold YU at h;omega
theorem AmP {o:Int} (h:o=1∨o=2∨o=3):Sk o 1 1:=by unfold Sk;omega
attribute [irreducible] E.val
end
end Go.AM.K
namespace Go.Proofs.YtaolbokoijfhnaaGreatDoor.Am
section
set_option maxHeartbeats 4000000
set_option maxRecDepth 100000
open Go.AM Go.AM.K
def Ad5 (N n:Nat):Prop:=∀{Δ:Rl} {t:Int} {a:List E} (k o:Int) (ty v ln:Int) (s:List Nat) (A:Rs) (q:TR Δ t (.node k o ty v s a)) (x:A=E.Ab a) (h:ln=A.length/\(E.node k o ty v s a).high<n),Ok trees N ⟨[k,o,ty,v,ln],[s],[A],[]⟩ fun j=>(j=(0,v0))∨(j=(1,v0)/\(Al Δ (.node k o ty v s a)))
def Ano (N:Nat):Prop:=∀{Δ:Rl} {t:Int} {a:List E} (k o:Int) (ty v ln:Int) (s:List Nat) (A:Rs) (q:TR Δ t (.node k o ty v s a)) (x:A=E.Ab a) (h:ln=A.length:=by exact kn),Ok trees N ⟨[k,o,ty,v,ln],[s],[A],[]⟩ fun j=>(j=(0,v0))∨(j=(1,v0)/\(Al Δ (.node k o ty v s a)))
def Aod (x N:Nat) (m n:Nat):Prop:=∀{Δ:Rl} {a:List E} (j k:Int) (o ty:Int) (v ln:Int) (s:List Nat) (A:Rs) (B:TL Δ a) (z:A=E.Ab a) (h:ln=A.length/\ln<=1000/\0<=j/\E.Bu a<m/\(ln-j).toNat<n),Ok trees N ⟨[j,k,o,ty,v,ln],[s],[A],[]⟩ fun q=>(q=(0,v0))∨(q=(1,v0)/\(X8 Δ a j))
def Ann (q N:Nat):Prop:=∀{m:Nat} (z:Ad5 q m) {Δ:Rl} {a:List E} (j k:Int) (o ty:Int) (v ln:Int) (s:List Nat) (A:Rs) (C:TL Δ a) (B:A=E.Ab a) (h:ln=A.length/\ln<=1000/\0<=j/\E.Bu a<m:=by exact kn),Ok trees N ⟨[j,k,o,ty,v,ln],[s],[A],[]⟩ fun x=>(x=(0,v0))∨(x=(1,v0)/\(X8 Δ a j))
theorem Aj1 {m:Nat} (x:Ad5 183 m) (n:Nat):Aod 183 184 m n:=by
 induction n with
 |zero=>intro Δ a j k o ty v ln s A q z h;exact absurd h.2.2.2.2 (Nat.not_lt_zero _)
 |succ n ih=>
 intro Δ a j k o ty v ln s A q z h
 subst z
 refine .of (t:=Z8) rfl ?_
 conv=>arg 3;reduce
 refine lt j ln (fun U=>?_) fun U=>?_
 ·refine Dy j 0 ?_
  obtain ⟨M,N,P,L,O,B,Y,C,I,X,V⟩:=q.Apq j om om
  refine el C ?_
  obtain ⟨_,(rfl|⟨rfl,R⟩),J⟩:=x M N P L ((E.Ab B).length:Int) O (E.Ab B) I rfl kn
  ·refine ch J ?_
   exact Ai v0 (.inl rfl)
  refine cm J ?_
  refine ch J ?_
  obtain ⟨_,(rfl|⟨rfl,Q⟩),H⟩:=ih (j+1) k o ty v ln s (E.Ab a) q rfl kn
  ·refine ch H ?_
   exact Ai v0 (.inl rfl)
  refine cm H ?_
  refine ch H ?_
  exact Ai v0 (.inr ((⟨rfl,(by first|exact X8.nil om|exact X8.step om asm asm asm)⟩)))
 exact Ai v0 (.inr ((⟨rfl,(by first|exact X8.nil om|exact X8.step om asm asm asm)⟩)))
theorem Ama:Ann 183 184:=fun {m} hC183 {Δ} {a} j k o ty v ln s A hTL hLa h=>Aj1 @hC183 ((ln-j).toNat+1) j k o ty v ln s A hTL hLa ⟨h.1,h.2.1,h.2.2.1,h.2.2.2,Nat.lt_succ_self _⟩
theorem Aj2 (n:Nat):Ad5 183 n:=by
 induction n with
 |zero=>intro Δ t a k o ty v ln s A j x h;exact absurd h.2 (Nat.not_lt_zero _)
 |succ n ih=>
 intro Δ t a k o ty v ln s A j x h
 subst x;have ⟨I,L,J⟩:=j.kind;have O:=j.nodes;have P:=Dx (k:=k) (o:=o) (ty:=ty) (v:=v) (s:=s) (a:=a);have hl:=TR.len j.args;have M:=E.AA a;have N:E.Ad (a.drop (0:Int).toNat)=E.Ad a:=rfl
 refine .of (t:=Z9) rfl ?_
 conv=>arg 3;reduce
 refine eq k 2 (fun H=>?_) fun H=>?_
 ·exact Ai v0 (.inl rfl)
 refine eq k 7 (fun B=>?_) fun B=>?_
 ·exact Ai v0 (.inl rfl)
 refine eq k 8 (fun C=>?_) fun C=>?_
 ·exact Ai v0 (.inl rfl)
 obtain ⟨_,(rfl|⟨rfl,z⟩),q⟩:=Ama @ih 0 k o ty v ln s (E.Ab a) j.args rfl
 ·refine ch q ?_
  exact Ai v0 (.inl rfl)
 refine cm q ?_
 refine ch q ?_
 exact Ai v0 (.inr ((⟨rfl,(Al.mk asm asm asm (X8.all asm))⟩)))
theorem Amb:Ano 183:=fun {Δ} {t} {a} k o ty v ln s A hT hA h=>Aj2 ((E.node k o ty v s a).high+1) k o ty v ln s A hT hA ⟨h,Nat.lt_succ_self _⟩
def Ad3 (N n:Nat):Prop:=∀{Δ:Rl} {a:List E} (k o:Int) (ty v ln:Int) (s:List Nat) (A:Rs) (q:EOW Δ (.node k o ty v s a)) (x:A=E.Ab a) (h:ln=A.length/\(E.node k o ty v s a).nodes<=100000/\(E.node k o ty v s a).high<n),Ok trees N ⟨[k,o,ty,v,ln],[s],[A],[]⟩ fun j=>(∃(r:Int),j=(0,(⟨[r],[],[],[]⟩:Aj))/\(r=(E.node k o ty v s a).nodes))
def Ank (N:Nat):Prop:=∀{Δ:Rl} {a:List E} (k o:Int) (ty v ln:Int) (s:List Nat) (A:Rs) (q:EOW Δ (.node k o ty v s a)) (x:A=E.Ab a) (h:ln=A.length/\(E.node k o ty v s a).nodes<=100000:=by exact kn),Ok trees N ⟨[k,o,ty,v,ln],[s],[A],[]⟩ fun j=>(∃(r:Int),j=(0,(⟨[r],[],[],[]⟩:Aj))/\(r=(E.node k o ty v s a).nodes))
def Aob (z N:Nat) (m n:Nat):Prop:=∀{Δ:Rl} {a:List E} (q j:Int) (k o:Int) (ty v ln:Int) (s:List Nat) (A:Rs) (H:TL Δ a) (C:A=E.Ab a) (h:ln=A.length/\ln<=1000/\0<=j/\0<=q/\q+E.Ad (a.drop j.toNat)<=100000/\E.Bu a<m/\(ln-j).toNat<n),Ok trees N ⟨[q,j,k,o,ty,v,ln],[s],[A],[]⟩ fun B=>(∃(x:Int),B=(0,(⟨[x],[],[],[]⟩:Aj))/\(x=q+E.Ad (a.drop j.toNat)))
def Anj (z N:Nat):Prop:=∀{m:Nat} (B:Ad3 z m) {Δ:Rl} {a:List E} (q j:Int) (k o:Int) (ty v ln:Int) (s:List Nat) (A:Rs) (I:TL Δ a) (H:A=E.Ab a) (h:ln=A.length/\ln<=1000/\0<=j/\0<=q/\q+E.Ad (a.drop j.toNat)<=100000/\E.Bu a<m:=by exact kn),Ok trees N ⟨[q,j,k,o,ty,v,ln],[s],[A],[]⟩ fun C=>(∃(x:Int),C=(0,(⟨[x],[],[],[]⟩:Aj))/\(x=q+E.Ad (a.drop j.toNat)))
theorem Ajx {m:Nat} (x:Ad3 187 m) (n:Nat):Aob 187 188 m n:=by
 induction n with
 |zero=>intro Δ a I j k o ty v ln s A q z h;exact absurd h.2.2.2.2.2.2 (Nat.not_lt_zero _)
 |succ n ih=>
 intro Δ a I j k o ty v ln s A q z h
 subst z;have hz:=JX (a:=a) (j:=j)
 refine .of (t:=Z4) rfl ?_
 conv=>arg 3;reduce
 refine lt j ln (fun Z=>?_) fun Z=>?_
 ·refine Dy j 0 ?_
  obtain ⟨P,L,Q,O,M,B,ac,C,H,aa,R,V⟩:=q.get j om om
  refine el C ?_
  obtain ⟨_,⟨N,rfl,U⟩,Y⟩:=x P L Q O ((E.Ab B).length:Int) M (E.Ab B) (.inr ⟨_,H⟩) rfl kn
  refine ch Y ?_
  obtain ⟨_,⟨J,rfl,ab⟩,X⟩:=ih (I+N) (j+1) k o ty v ln s (E.Ab a) q rfl kn
  refine ch X ?_
  exact Ai ⟨[J],[],[],[]⟩ (⟨_,rfl,kn⟩)
 exact Ai ⟨[I],[],[],[]⟩ (⟨_,rfl,kn⟩)
theorem AlX:Anj 187 188:=fun {m} hC187 {Δ} {a} nn j k o ty v ln s A hTL hLa h=>Ajx @hC187 ((ln-j).toNat+1) nn j k o ty v ln s A hTL hLa ⟨h.1,h.2.1,h.2.2.1,h.2.2.2.1,h.2.2.2.2.1,h.2.2.2.2.2,Nat.lt_succ_self _⟩
theorem Ajy (n:Nat):Ad3 187 n:=by
 induction n with
 |zero=>intro Δ a k o ty v ln s A j z h;exact absurd h.2.2 (Nat.not_lt_zero _)
 |succ n ih=>
 intro Δ a k o ty v ln s A j z h
 subst z
 refine .of (t:=Z5) rfl ?_
 conv=>arg 3;reduce
 refine eq k 0 (fun B=>?_) fun B=>?_
 ·exact Ai ⟨[0],[],[],[]⟩ (⟨_,rfl,(by first|(have:=j.zero asm;omega) |omega)⟩)
 obtain ⟨t,q⟩:=j.pos asm;have ⟨I,L,J⟩:=q.kind;have O:=q.nodes;have P:=Dx (k:=k) (o:=o) (ty:=ty) (v:=v) (s:=s) (a:=a);have hl:=TR.len q.args;have M:=E.AA a;have N:E.Ad (a.drop (0:Int).toNat)=E.Ad a:=rfl
 obtain ⟨_,⟨x,rfl,H⟩,C⟩:=AlX @ih 1 0 k o ty v ln s (E.Ab a) q.args rfl
 refine ch C ?_
 exact Ai ⟨[x],[],[],[]⟩ (⟨_,rfl,(by first|(have:=j.zero asm;omega) |omega)⟩)
theorem Afi:Ank 187:=fun {Δ} {a} k o ty v ln s A hE hA h=>Ajy ((E.node k o ty v s a).high+1) k o ty v ln s A hE hA ⟨h.1,h.2,Nat.lt_succ_self _⟩
def Ad4 (N n:Nat):Prop:=∀{l:List S} (ln:Int) (L:Rs) (v:PL l) (q:L=S.Ab l) (h:ln=L.length/\S.Ad l<=100000/\S.Az l<n),Ok trees N ⟨[ln],[],[L],[]⟩ fun j=>(∃(r:Int),j=(0,(⟨[r],[],[],[]⟩:Aj))/\(r=S.Ad l))
def Anm (N:Nat):Prop:=∀{l:List S} (ln:Int) (L:Rs) (v:PL l) (q:L=S.Ab l) (h:ln=L.length/\S.Ad l<=100000:=by exact kn),Ok trees N ⟨[ln],[],[L],[]⟩ fun j=>(∃(r:Int),j=(0,(⟨[r],[],[],[]⟩:Aj))/\(r=S.Ad l))
def Aoc (z N:Nat) (m n:Nat):Prop:=∀{l:List S} (ln q j:Int) (L:Rs) (B:PL (l.drop j.toNat)) (A:L=S.Ab l) (h:ln=L.length/\ln<=200000/\0<=j/\0<=q/\q+S.Ad (l.drop j.toNat)<=100000/\S.Az (l.drop j.toNat)<=m/\(ln-j).toNat<n),Ok trees N ⟨[ln,q,j],[],[L],[]⟩ fun x=>(∃(v:Int),x=(0,(⟨[v],[],[],[]⟩:Aj))/\(v=q+S.Ad (l.drop j.toNat)))
def Anl (x N:Nat):Prop:=∀{m:Nat} (z:Ad4 x m) {l:List S} (ln q j:Int) (L:Rs) (C:PL (l.drop j.toNat)) (B:L=S.Ab l) (h:ln=L.length/\ln<=200000/\0<=j/\0<=q/\q+S.Ad (l.drop j.toNat)<=100000/\S.Az (l.drop j.toNat)<=m:=by exact kn),Ok trees N ⟨[ln,q,j],[],[L],[]⟩ fun A=>(∃(v:Int),A=(0,(⟨[v],[],[],[]⟩:Aj))/\(v=q+S.Ad (l.drop j.toNat)))
theorem Ajz {m:Nat} (q:Ad4 185 m) (n:Nat):Aoc 185 186 m n:=by
 induction n with
 |zero=>intro l ln O j L hO C h;exact absurd h.2.2.2.2.2.2 (Nat.not_lt_zero _)
 |succ n ih=>
 intro l ln O j L hO C h
 subst C;have hz:=Bh (l:=l) (j:=j)
 refine .of (t:=Z6) rfl ?_
 conv=>arg 3;reduce
 refine lt j ln (fun t1=>?_) fun t1=>?_
 ·refine Dy j 0 ?_
  obtain ⟨aD,aC,aF,aE,aB,R,X,Z,H,U,v,Q,P,N,J,V,z,B,A,I,Y,ao,ai,ax⟩:=PL.get j hO om om
  refine el I ?_
  obtain ⟨ay,x,an,ah⟩:=Y.parts;have af:=(x _ (List.mem_cons_self)).w;have ae:=(x _ (List.mem_cons_of_mem _ List.mem_cons_self)).w
  obtain ⟨_,⟨ab,rfl,ag⟩,G3⟩:=Afi R X Z H ((E.Ab v).length:Int) U (E.Ab v) asm rfl
  refine ch G3 ?_
  obtain ⟨_,⟨ad,rfl,az⟩,G4⟩:=Afi Q P N J ((E.Ab z).length:Int) V (E.Ab z) asm rfl
  refine ch G4 ?_
  obtain ⟨_,⟨aa,rfl,aw⟩,G5⟩:=q ((S.Ab B).length:Int) (S.Ab B) asm rfl kn
  refine ch G5 ?_
  obtain ⟨_,⟨Si,rfl,aq⟩,G6⟩:=q ((S.Ab A).length:Int) (S.Ab A) asm rfl kn
  refine ch G6 ?_
  obtain ⟨_,⟨M,rfl,aA⟩,G7⟩:=ih ln (O+((((1+ab)+ad)+aa)+Si)) (j+1) (S.Ab l) asm rfl kn
  refine ch G7 ?_
  exact Ai ⟨[M],[],[],[]⟩ (⟨_,rfl,kn⟩)
 exact Ai ⟨[O],[],[],[]⟩ (⟨_,rfl,kn⟩)
theorem AlY:Anl 185 186:=fun {m} hC185 {l} ln nn j L hO hLs h=>Ajz @hC185 ((ln-j).toNat+1) ln nn j L hO hLs ⟨h.1,h.2.1,h.2.2.1,h.2.2.2.1,h.2.2.2.2.1,h.2.2.2.2.2,Nat.lt_succ_self _⟩
theorem Aj0 (n:Nat):Ad4 185 n:=by
 induction n with
 |zero=>intro l ln L v j h;exact absurd h.2.2 (Nat.not_lt_zero _)
 |succ n ih=>
 intro l ln L v j h
 subst j;have A:=S.len l;have B:=S.AA l;have C:S.Ad (l.drop (0:Int).toNat)=S.Ad l:=rfl;have H:S.Az (l.drop (0:Int).toNat)=S.Az l:=rfl
 refine .of (t:=Z7) rfl ?_
 conv=>arg 3;reduce
 obtain ⟨_,⟨q,rfl,z⟩,x⟩:=AlY @ih ln 0 0 (S.Ab l) v rfl
 refine ch x ?_
 exact Ai ⟨[q],[],[],[]⟩ (⟨_,rfl,om⟩)
theorem AlZ:Anm 185:=fun {l} ln L hO hLs h=>Aj0 (S.Az l+1) ln L hO hLs ⟨h.1,h.2,Nat.lt_succ_self _⟩
def Aoe (N n:Nat):Prop:=∀{l:List S} (t j:Int) (g sub:Int) (M pl:Int) (fl q:Int) (O X:Int) (U V:Int) (H:List Nat) (Q P:Rs) (L R:Rs) (Y:R=S.Ab l) (hV:VL l) (h:q=R.length/\q<=1000/\0<=j/\(q-j).toNat<n),Ok trees N ⟨[t,j,g,sub,M,pl,fl,q,O,X,U,V],[H],[Q,P,L,R],[]⟩ fun C=>(C=(0,v0))∨(∃(J B I A v:Int),∃(z:List Nat),∃(x:Rs),C=(1,(⟨[J,B,I,A,v],[z],[x],[]⟩:Aj))/\(ED t J B I A z x)/\(v=x.length))
def Anp (N:Nat):Prop:=∀{l:List S} (t j:Int) (g sub:Int) (M pl:Int) (fl x:Int) (O X:Int) (U V:Int) (H:List Nat) (Q P:Rs) (L R:Rs) (Y:R=S.Ab l) (hV:VL l) (h:x=R.length/\x<=1000/\0<=j:=by exact kn),Ok trees N ⟨[t,j,g,sub,M,pl,fl,x,O,X,U,V],[H],[Q,P,L,R],[]⟩ fun C=>(C=(0,v0))∨(∃(J B I A q:Int),∃(z:List Nat),∃(v:Rs),C=(1,(⟨[J,B,I,A,q],[z],[v],[]⟩:Aj))/\(ED t J B I A z v)/\(q=v.length))
theorem Aj3 (n:Nat):Aoe 182 n:=by
 induction n with
 |zero=>intro l t j g sub X pl fl J N M V L z Z P U R aa hV h;exact absurd h.2.2.2 (Nat.not_lt_zero _)
 |succ n ih=>
 intro l t j g sub X pl fl J N M V L z Z P U R aa hV h
 subst aa
 refine .of (t:=ZA) rfl ?_
 conv=>arg 3;reduce
 refine lt j J (fun t1=>?_) fun t1=>?_
 ·refine Dy j 0 ?_
  obtain ⟨aE,a1,aF,a2,aX,B,I,C,A,H,q,aP,a0,aV,aU,aY,aW,aZ,aQ,au,aA⟩:=VL.get j hV om om
  refine el au ?_
  refine eq aE 1 (fun t3=>?_) fun t3=>?_
  ·refine eq aF t (fun t4=>?_) fun t4=>?_
   ·obtain ⟨⟨Γ_,v⟩,x⟩:=aA om
    obtain ⟨_,(rfl|⟨rfl,aH⟩),G5⟩:=Amb B I C A ((E.Ab q).length:Int) H (E.Ab q) v rfl
    ·refine ch G5 ?_
     obtain ⟨_,(rfl|⟨ac,ai,aC,av,Q,ag,aB,rfl,aK,aJ⟩),G6⟩:=ih t (j+1) g sub X pl fl J N M V L z Z P U (S.Ab l) rfl hV kn
     ·refine ch G6 ?_
      exact Ai v0 (.inl rfl)
     refine cm G6 ?_
     refine ch G6 ?_
     exact Ai ⟨[ac,ai,aC,av,Q],[ag],[aB],[]⟩ (.inr ((⟨_,_,_,_,_,_,_,rfl,(by first|assumption|exact ED.mk asm v om x),kn⟩)))
    refine cm G5 ?_
    refine ch G5 ?_
    exact Ai ⟨[B,I,C,A,((E.Ab q).length:Int)],[H],[(E.Ab q)],[]⟩ (.inr ((⟨_,_,_,_,_,_,_,rfl,(by first|assumption|exact ED.mk asm v om x),kn⟩)))
   obtain ⟨_,(rfl|⟨ax,ap,ay,ad,O,aq,ab,rfl,aI,aL⟩),G7⟩:=ih t (j+1) g sub X pl fl J N M V L z Z P U (S.Ab l) rfl hV kn
   ·refine ch G7 ?_
    exact Ai v0 (.inl rfl)
   refine cm G7 ?_
   refine ch G7 ?_
   exact Ai ⟨[ax,ap,ay,ad,O],[aq],[ab],[]⟩ (.inr ((⟨_,_,_,_,_,_,_,rfl,(by first|assumption|exact ED.mk asm v om x),kn⟩)))
  obtain ⟨_,(rfl|⟨aj,az,ao,aD,Y,ak,aw,rfl,aG,aM⟩),G8⟩:=ih t (j+1) g sub X pl fl J N M V L z Z P U (S.Ab l) rfl hV kn
  ·refine ch G8 ?_
   exact Ai v0 (.inl rfl)
  refine cm G8 ?_
  refine ch G8 ?_
  exact Ai ⟨[aj,az,ao,aD,Y],[ak],[aw],[]⟩ (.inr ((⟨_,_,_,_,_,_,_,rfl,(by first|assumption|exact ED.mk asm v om x),kn⟩)))
 exact Ai v0 (.inl rfl)
theorem Amc:Anp 182:=fun {l} t j g sub al pl fl rl z0 z1 z2 z4 knm Ar P Fs R hLs hV h=>Aj3 ((rl-j).toNat+1) t j g sub al pl fl rl z0 z1 z2 z4 knm Ar P Fs R hLs hV ⟨h.1,h.2.1,h.2.2,Nat.lt_succ_self _⟩
def Anq (N:Nat):Prop:=∀{l:List S} (g sub:Int) (J pl:Int) (fl v t:Int) (B:List Nat) (M P:Rs) (I R:Rs) (O:R=S.Ab l) (hV:VL l) (Q:PL l) (h:v=R.length/\v<=1000/\(t=1∨t=3)/\S.Ad l<=100000:=by exact kn),Ok trees N ⟨[g,sub,J,pl,fl,v,t],[B],[M,P,I,R],[]⟩ fun L=>(∃(H A C z j:Int),∃(x:List Nat),∃(q:Rs),L=(0,(⟨[H,A,C,z,j],[x],[q],[]⟩:Aj))/\(ED t H A C z x q)/\(j=q.length))
theorem AcS:Anq 181:=by
 intro l g sub U pl fl H t J X P O R L hV Y h
 subst L
 refine .of (t:=ZB) rfl ?_
 conv=>arg 3;reduce
 obtain ⟨_,(rfl|⟨v,x,z,q,j,A,B,rfl,N,M⟩),C⟩:=Amc t 0 g sub U pl fl H 0 0 0 0 J X P O (S.Ab l) rfl hV
 ·refine ch C ?_
  obtain ⟨_,⟨I,rfl,V⟩,Q⟩:=AlZ H (S.Ab l) Y rfl
  refine ch Q ?_
  refine de [] ?_
  refine ll 0 [] ?_
  exact Ai ⟨[1,0,t,(I%2),0],[[]],[[]],[]⟩ (⟨_,_,_,_,_,_,_,rfl,(by first|assumption|exact ED.num om om),kn⟩)
 refine cm C ?_
 refine ch C ?_
 exact Ai ⟨[v,x,z,q,j],[A],[B],[]⟩ (⟨_,_,_,_,_,_,_,rfl,(by first|assumption|exact ED.num om om),kn⟩)
def Ani (N:Nat):Prop:=∀(M z:Int) (O B:Int) (A x:Int) (X I:Int) (v1 Q:Int) (J U:Int) (V C R:Int) (L H P:List Nat) (q j v:Rs) (h:A=q.length/\Q=j.length/\R=v.length:=by exact kn),Ok trees N ⟨[M,z,O,B,A,x,X,I,v1,Q,J,U,V,C,R],[L,H,P],[q,j,v],[]⟩ fun Y=>(Y=(0,(⟨[3],[],[[Be M z O B L q,Be x X I v1 H j,Be J U V C P v]],[]⟩:Aj)))
theorem AcR:Ani 189:=by
 intro B L C z R x J A v1 U O I Q M V P N H q j v h
 refine .of (t:=Z3) rfl ?_
 conv=>arg 3;reduce
 refine ll R q ?_
 refine ll U j ?_
 refine ll V v ?_
 refine de [[PV.int .i64 B,.int .i64 L,.int .i64 C,.str P,.int .i32 z,.list 6 q],[.int .i64 x,.int .i64 J,.int .i64 A,.str N,.int .i32 v1,.list 6 j],[.int .i64 O,.int .i64 I,.int .i64 Q,.str H,.int .i32 M,.list 6 v]] ?_
 refine ll 3 [[PV.int .i64 B,.int .i64 L,.int .i64 C,.str P,.int .i32 z,.list 6 q],[.int .i64 x,.int .i64 J,.int .i64 A,.str N,.int .i32 v1,.list 6 j],[.int .i64 O,.int .i64 I,.int .i64 Q,.str H,.int .i32 M,.list 6 v]] ?_
 refine fr ?_
 exact Ai ⟨[3],[],[[[PV.int .i64 B,.int .i64 L,.int .i64 C,.str P,.int .i32 z,.list 6 q],[.int .i64 x,.int .i64 J,.int .i64 A,.str N,.int .i32 v1,.list 6 j],[.int .i64 O,.int .i64 I,.int .i64 Q,.str H,.int .i32 M,.list 6 v]]],[]⟩ (rfl)
def Ang (N:Nat):Prop:=∀(op k1:Int) (L H:Int) (v1 z:Int) (v I:Int) (J B A:Int) (C x:List Nat) (j q:Rs) (h:z=j.length/\A=q.length:=by exact kn),Ok trees N ⟨[op,k1,L,H,v1,z,v,I,J,B,A],[C,x],[j,q],[]⟩ fun M=>(M=(0,(⟨[2],[],[[Be k1 L H v1 C j,Be v I J B x q]],[]⟩:Aj)))
theorem AlW:Ang 191:=by
 intro op v J C v1 L x H I A M B z j q h
 refine .of (t:=Z1) rfl ?_
 conv=>arg 3;reduce
 refine ll L j ?_
 refine ll M q ?_
 refine de [[PV.int .i64 v,.int .i64 J,.int .i64 C,.str B,.int .i32 v1,.list 6 j],[.int .i64 x,.int .i64 H,.int .i64 I,.str z,.int .i32 A,.list 6 q]] ?_
 refine ll 2 [[PV.int .i64 v,.int .i64 J,.int .i64 C,.str B,.int .i32 v1,.list 6 j],[.int .i64 x,.int .i64 H,.int .i64 I,.str z,.int .i32 A,.list 6 q]] ?_
 refine fr ?_
 exact Ai ⟨[2],[],[[[PV.int .i64 v,.int .i64 J,.int .i64 C,.str B,.int .i32 v1,.list 6 j],[.int .i64 x,.int .i64 H,.int .i64 I,.str z,.int .i32 A,.list 6 q]]],[]⟩ (rfl)
def Anh (N:Nat):Prop:=∀(i k:Int) (o y:Int) (v ln:Int) (nm s:List Nat) (A:Rs),Ok trees N ⟨[i,k,o,y,v,ln],[nm,s],[A],[]⟩ fun j=>(j=(0,v0))
theorem PB:Anh 190:=by
 intro i k o y v ln nm s A
 refine .of (t:=Z2) rfl ?_
 conv=>arg 3;reduce
 exact Ai v0 (rfl)
def Anf (N:Nat):Prop:=∀(i k:Int) (o y:Int) (v q:Int) (B A:Int) (v1 x:Int) (nm s z:List Nat) (j:Rs) (h:x=j.length:=by exact kn),Ok trees N ⟨[i,k,o,y,v,q,B,A,v1,x],[nm,s,z],[j],[]⟩ fun C=>(C=(1,(⟨[1],[],[[Be q B A v1 z j]],[]⟩:Aj)))
theorem Afh:Anf 192:=by
 intro i k o y v q A z v1 B nm s x j h
 refine .of (t:=Z0) rfl ?_
 conv=>arg 3;reduce
 refine ll B j ?_
 refine de [[PV.int .i64 q,.int .i64 A,.int .i64 z,.str x,.int .i32 v1,.list 6 j]] ?_
 refine ll 1 [[PV.int .i64 q,.int .i64 A,.int .i64 z,.str x,.int .i32 v1,.list 6 j]] ?_
 refine fr ?_
 exact Ai ⟨[1],[],[[[PV.int .i64 q,.int .i64 A,.int .i64 z,.str x,.int .i32 v1,.list 6 j]]],[]⟩ (rfl)
def Ana (N:Nat):Prop:=∀(op a b:Int) (q:10<=op/\op<=29) (ha:GJ a) (hb:GJ b),Ok trees N ⟨[op,a,b],[],[],[]⟩ fun j=>(j=(0,(⟨[(Oe op a b)],[],[],[]⟩:Aj)))
theorem Aff:Ana 196:=by
 intro op a b ho ha hb
 have:op=10∨op=11∨op=12∨op=13∨op=14∨op=15∨op=16∨op=17∨op=18∨op=19∨op=20∨op=21∨op=22∨op=23∨op=24∨op=25∨op=26∨op=27∨op=28∨op=29:=om;rcases this with rfl|rfl|rfl|rfl|rfl|rfl|rfl|rfl|rfl|rfl|rfl|rfl|rfl|rfl|rfl|rfl|rfl|rfl|rfl|rfl
 ·refine .of (t:=Dn) rfl ?_
  conv=>arg 3;reduce
  refine AL 10 10 ?_
  refine eq b 0 (fun t1=>?_) (fun t1=>?_) rfl rfl
  ·exact Ai ⟨[(Ag .add .i32 a b)],[],[],[]⟩ (rfl) rfl
  refine AE (IntKind.wrap .i64 b) 0 ?_ (nz hb) rfl rfl
  exact Ai ⟨[(Ag .add .i32 a b)],[],[],[]⟩ (rfl) rfl
 ·refine .of (t:=Dn) rfl ?_
  conv=>arg 3;reduce
  repeat refine GW 11 ?_
  refine AL 11 11 ?_
  refine eq b 0 (fun t2=>?_) (fun t2=>?_) rfl rfl
  ·exact Ai ⟨[(Ag .sub .i32 a b)],[],[],[]⟩ (rfl) rfl
  refine AE (IntKind.wrap .i64 b) 0 ?_ (nz hb) rfl rfl
  exact Ai ⟨[(Ag .sub .i32 a b)],[],[],[]⟩ (rfl) rfl
 ·refine .of (t:=Dn) rfl ?_
  conv=>arg 3;reduce
  repeat refine GW 12 ?_
  refine AL 12 12 ?_
  refine eq b 0 (fun t3=>?_) (fun t3=>?_) rfl rfl
  ·exact Ai ⟨[(Ag .mul .i32 a b)],[],[],[]⟩ (rfl) rfl
  refine AE (IntKind.wrap .i64 b) 0 ?_ (nz hb) rfl rfl
  exact Ai ⟨[(Ag .mul .i32 a b)],[],[],[]⟩ (rfl) rfl
 ·refine .of (t:=Dn) rfl ?_
  conv=>arg 3;reduce
  repeat refine GW 13 ?_
  refine AL 13 13 ?_
  refine eq b 0 (fun t4=>?_) (fun t4=>?_) rfl rfl
  ·exact Ai ⟨[0],[],[],[]⟩ ((v1 (show _=(if b=0 then _ else _)from GQ))) rfl
  refine AE (IntKind.wrap .i64 b) 0 ?_ (nz hb) rfl rfl
  exact Ai ⟨[(IntKind.wrap .i32 (Ag .quo .i64 (IntKind.wrap .i64 a) (IntKind.wrap .i64 b)))],[],[],[]⟩ ((v1 (show _=(if b=0 then _ else _)from GQ))) rfl
 ·refine .of (t:=Dn) rfl ?_
  conv=>arg 3;reduce
  repeat refine GW 14 ?_
  refine AL 14 14 ?_
  refine eq b 0 (fun t5=>?_) (fun t5=>?_) rfl rfl
  ·exact Ai ⟨[a],[],[],[]⟩ ((v1 (show _=(if b=0 then _ else _)from GQ))) rfl
  refine AE (IntKind.wrap .i64 b) 0 ?_ (nz hb) rfl rfl
  exact Ai ⟨[(IntKind.wrap .i32 (Ag .rem .i64 (IntKind.wrap .i64 a) (IntKind.wrap .i64 b)))],[],[],[]⟩ ((v1 (show _=(if b=0 then _ else _)from GQ))) rfl
 ·refine .of (t:=Dn) rfl ?_
  conv=>arg 3;reduce
  repeat refine GW 15 ?_
  refine AL 15 15 ?_
  refine eq b 0 (fun t6=>?_) (fun t6=>?_) rfl rfl
  ·exact Ai ⟨[(IntKind.wrap .i32 (Ag .shr .i64 (Ag .mul .i64 (IntKind.wrap .i64 a) (IntKind.wrap .i64 b)) 16))],[],[],[]⟩ (rfl) rfl
  refine AE (IntKind.wrap .i64 b) 0 ?_ (nz hb) rfl rfl
  exact Ai ⟨[(IntKind.wrap .i32 (Ag .shr .i64 (Ag .mul .i64 (IntKind.wrap .i64 a) (IntKind.wrap .i64 b)) 16))],[],[],[]⟩ (rfl) rfl
 ·refine .of (t:=Dn) rfl ?_
  conv=>arg 3;reduce
  repeat refine GW 16 ?_
  refine AL 16 16 ?_
  refine eq b 0 (fun t7=>?_) (fun t7=>?_) rfl rfl
  ·exact Ai ⟨[0],[],[],[]⟩ ((by simp [Oe,RS, *])) rfl
  refine AE (IntKind.wrap .i64 b) 0 ?_ (nz hb) rfl rfl
  refine ne (Ag .rem .i64 (Ag .shl .i64 (IntKind.wrap .i64 a) 16) (IntKind.wrap .i64 b)) 0 (fun t8=>?_) (fun t8=>?_) rfl rfl
  ·refine lt (IntKind.wrap .i64 b) 0 (fun t9=>?_) (fun t9=>?_) rfl rfl
   ·refine lt (Ag .rem .i64 (Ag .shl .i64 (IntKind.wrap .i64 a) 16) (IntKind.wrap .i64 b)) 0 (fun z=>?_) (fun z=>?_) rfl rfl
    ·exact Ai ⟨[(IntKind.wrap .i32 (Ag .quo .i64 (Ag .shl .i64 (IntKind.wrap .i64 a) 16) (IntKind.wrap .i64 b)))],[],[],[]⟩ ((by simp [Oe,RS, *])) rfl
    exact Ai ⟨[(IntKind.wrap .i32 (Ag .sub .i64 (Ag .quo .i64 (Ag .shl .i64 (IntKind.wrap .i64 a) 16) (IntKind.wrap .i64 b)) 1))],[],[],[]⟩ ((by simp [Oe,RS, *])) rfl
   refine lt (Ag .rem .i64 (Ag .shl .i64 (IntKind.wrap .i64 a) 16) (IntKind.wrap .i64 b)) 0 (fun ac=>?_) (fun ac=>?_) rfl rfl
   ·exact Ai ⟨[(IntKind.wrap .i32 (Ag .sub .i64 (Ag .quo .i64 (Ag .shl .i64 (IntKind.wrap .i64 a) 16) (IntKind.wrap .i64 b)) 1))],[],[],[]⟩ ((by simp [Oe,RS, *])) rfl
   exact Ai ⟨[(IntKind.wrap .i32 (Ag .quo .i64 (Ag .shl .i64 (IntKind.wrap .i64 a) 16) (IntKind.wrap .i64 b)))],[],[],[]⟩ ((by simp [Oe,RS, *])) rfl
  exact Ai ⟨[(IntKind.wrap .i32 (Ag .quo .i64 (Ag .shl .i64 (IntKind.wrap .i64 a) 16) (IntKind.wrap .i64 b)))],[],[],[]⟩ ((by simp [Oe,RS, *])) rfl
 ·refine .of (t:=Dn) rfl ?_
  conv=>arg 3;reduce
  repeat refine GW 17 ?_
  refine AL 17 17 ?_
  refine eq b 0 (fun aa=>?_) (fun aa=>?_) rfl rfl
  ·exact Ai ⟨[(Ag .and .i32 a b)],[],[],[]⟩ (rfl) rfl
  refine AE (IntKind.wrap .i64 b) 0 ?_ (nz hb) rfl rfl
  exact Ai ⟨[(Ag .and .i32 a b)],[],[],[]⟩ (rfl) rfl
 ·refine .of (t:=Dn) rfl ?_
  conv=>arg 3;reduce
  repeat refine GW 18 ?_
  refine AL 18 18 ?_
  refine eq b 0 (fun Q=>?_) (fun Q=>?_) rfl rfl
  ·exact Ai ⟨[(Ag .or .i32 a b)],[],[],[]⟩ (rfl) rfl
  refine AE (IntKind.wrap .i64 b) 0 ?_ (nz hb) rfl rfl
  exact Ai ⟨[(Ag .or .i32 a b)],[],[],[]⟩ (rfl) rfl
 ·refine .of (t:=Dn) rfl ?_
  conv=>arg 3;reduce
  repeat refine GW 19 ?_
  refine AL 19 19 ?_
  refine eq b 0 (fun Y=>?_) (fun Y=>?_) rfl rfl
  ·exact Ai ⟨[(Ag .xor .i32 a b)],[],[],[]⟩ (rfl) rfl
  refine AE (IntKind.wrap .i64 b) 0 ?_ (nz hb) rfl rfl
  exact Ai ⟨[(Ag .xor .i32 a b)],[],[],[]⟩ (rfl) rfl
 ·refine .of (t:=Dn) rfl ?_
  conv=>arg 3;reduce
  repeat refine GW 20 ?_
  refine AL 20 20 ?_
  refine eq b 0 (fun O=>?_) (fun O=>?_) rfl rfl
  ·refine Dy (Ag .and .i32 b 31) 0 ?_ (nz hb) rfl rfl
   exact Ai ⟨[(Ag .shl .i32 a (Ag .and .i32 b 31))],[],[],[]⟩ (rfl) rfl
  refine AE (IntKind.wrap .i64 b) 0 ?_ (nz hb) rfl rfl
  refine Dy (Ag .and .i32 b 31) 0 ?_ (nz hb) rfl rfl
  exact Ai ⟨[(Ag .shl .i32 a (Ag .and .i32 b 31))],[],[],[]⟩ (rfl) rfl
 ·refine .of (t:=Dn) rfl ?_
  conv=>arg 3;reduce
  repeat refine GW 21 ?_
  refine AL 21 21 ?_
  refine eq b 0 (fun x=>?_) (fun x=>?_) rfl rfl
  ·refine Dy (Ag .and .i32 b 31) 0 ?_ (nz hb) rfl rfl
   exact Ai ⟨[(Ag .shr .i32 a (Ag .and .i32 b 31))],[],[],[]⟩ (rfl) rfl
  refine AE (IntKind.wrap .i64 b) 0 ?_ (nz hb) rfl rfl
  refine Dy (Ag .and .i32 b 31) 0 ?_ (nz hb) rfl rfl
  exact Ai ⟨[(Ag .shr .i32 a (Ag .and .i32 b 31))],[],[],[]⟩ (rfl) rfl
 ·refine .of (t:=Dn) rfl ?_
  conv=>arg 3;reduce
  repeat refine GW 22 ?_
  refine AL 22 22 ?_
  refine eq b 0 (fun C=>?_) (fun C=>?_) rfl rfl
  ·refine lt b a (fun ae=>?_) (fun ae=>?_) rfl rfl
   ·exact Ai ⟨[b],[],[],[]⟩ ((v1 (show _=(if b<a then _ else _)from GQ))) rfl
   exact Ai ⟨[a],[],[],[]⟩ ((v1 (show _=(if b<a then _ else _)from GQ))) rfl
  refine AE (IntKind.wrap .i64 b) 0 ?_ (nz hb) rfl rfl
  refine lt b a (fun V=>?_) (fun V=>?_) rfl rfl
  ·exact Ai ⟨[b],[],[],[]⟩ ((v1 (show _=(if b<a then _ else _)from GQ))) rfl
  exact Ai ⟨[a],[],[],[]⟩ ((v1 (show _=(if b<a then _ else _)from GQ))) rfl
 ·refine .of (t:=Dn) rfl ?_
  conv=>arg 3;reduce
  repeat refine GW 23 ?_
  refine AL 23 23 ?_
  refine eq b 0 (fun R=>?_) (fun R=>?_) rfl rfl
  ·refine lt a b (fun N=>?_) (fun N=>?_) rfl rfl
   ·exact Ai ⟨[b],[],[],[]⟩ ((v1 (show _=(if a<b then _ else _)from GQ))) rfl
   exact Ai ⟨[a],[],[],[]⟩ ((v1 (show _=(if a<b then _ else _)from GQ))) rfl
  refine AE (IntKind.wrap .i64 b) 0 ?_ (nz hb) rfl rfl
  refine lt a b (fun X=>?_) (fun X=>?_) rfl rfl
  ·exact Ai ⟨[b],[],[],[]⟩ ((v1 (show _=(if a<b then _ else _)from GQ))) rfl
  exact Ai ⟨[a],[],[],[]⟩ ((v1 (show _=(if a<b then _ else _)from GQ))) rfl
 ·refine .of (t:=Dn) rfl ?_
  conv=>arg 3;reduce
  repeat refine GW 24 ?_
  refine AL 24 24 ?_
  refine eq b 0 (fun af=>?_) (fun af=>?_) rfl rfl
  ·refine eq a b (fun Z=>?_) (fun Z=>?_) rfl rfl
   ·exact Ai ⟨[1],[],[],[]⟩ ((v1 (show _=(if a=b then _ else _)from GQ))) rfl
   exact Ai ⟨[0],[],[],[]⟩ ((v1 (show _=(if a=b then _ else _)from GQ))) rfl
  refine AE (IntKind.wrap .i64 b) 0 ?_ (nz hb) rfl rfl
  refine eq a b (fun j=>?_) (fun j=>?_) rfl rfl
  ·exact Ai ⟨[1],[],[],[]⟩ ((v1 (show _=(if a=b then _ else _)from GQ))) rfl
  exact Ai ⟨[0],[],[],[]⟩ ((v1 (show _=(if a=b then _ else _)from GQ))) rfl
 ·refine .of (t:=Dn) rfl ?_
  conv=>arg 3;reduce
  repeat refine GW 25 ?_
  refine AL 25 25 ?_
  refine eq b 0 (fun A=>?_) (fun A=>?_) rfl rfl
  ·refine ne a b (fun ag=>?_) (fun ag=>?_) rfl rfl
   ·exact Ai ⟨[1],[],[],[]⟩ ((v1 (show _=(if a=b then _ else _)from GQ))) rfl
   exact Ai ⟨[0],[],[],[]⟩ ((v1 (show _=(if a=b then _ else _)from GQ))) rfl
  refine AE (IntKind.wrap .i64 b) 0 ?_ (nz hb) rfl rfl
  refine ne a b (fun ad=>?_) (fun ad=>?_) rfl rfl
  ·exact Ai ⟨[1],[],[],[]⟩ ((v1 (show _=(if a=b then _ else _)from GQ))) rfl
  exact Ai ⟨[0],[],[],[]⟩ ((v1 (show _=(if a=b then _ else _)from GQ))) rfl
 ·refine .of (t:=Dn) rfl ?_
  conv=>arg 3;reduce
  repeat refine GW 26 ?_
  refine AL 26 26 ?_
  refine eq b 0 (fun U=>?_) (fun U=>?_) rfl rfl
  ·refine lt a b (fun P=>?_) (fun P=>?_) rfl rfl
   ·exact Ai ⟨[1],[],[],[]⟩ ((v1 (show _=(if a<b then _ else _)from GQ))) rfl
   exact Ai ⟨[0],[],[],[]⟩ ((v1 (show _=(if a<b then _ else _)from GQ))) rfl
  refine AE (IntKind.wrap .i64 b) 0 ?_ (nz hb) rfl rfl
  refine lt a b (fun L=>?_) (fun L=>?_) rfl rfl
  ·exact Ai ⟨[1],[],[],[]⟩ ((v1 (show _=(if a<b then _ else _)from GQ))) rfl
  exact Ai ⟨[0],[],[],[]⟩ ((v1 (show _=(if a<b then _ else _)from GQ))) rfl
 ·refine .of (t:=Dn) rfl ?_
  conv=>arg 3;reduce
  repeat refine GW 27 ?_
  refine AL 27 27 ?_
  refine eq b 0 (fun J=>?_) (fun J=>?_) rfl rfl
  ·refine le a b (fun M=>?_) (fun M=>?_) rfl rfl
   ·exact Ai ⟨[1],[],[],[]⟩ ((v1 (show _=(if a<=b then _ else _)from GQ))) rfl
   exact Ai ⟨[0],[],[],[]⟩ ((v1 (show _=(if a<=b then _ else _)from GQ))) rfl
  refine AE (IntKind.wrap .i64 b) 0 ?_ (nz hb) rfl rfl
  refine le a b (fun I=>?_) (fun I=>?_) rfl rfl
  ·exact Ai ⟨[1],[],[],[]⟩ ((v1 (show _=(if a<=b then _ else _)from GQ))) rfl
  exact Ai ⟨[0],[],[],[]⟩ ((v1 (show _=(if a<=b then _ else _)from GQ))) rfl
 ·refine .of (t:=Dn) rfl ?_
  conv=>arg 3;reduce
  repeat refine GW 28 ?_
  refine AL 28 28 ?_
  refine eq b 0 (fun B=>?_) (fun B=>?_) rfl rfl
  ·refine gt a b (fun ah=>?_) (fun ah=>?_) rfl rfl
   ·exact Ai ⟨[1],[],[],[]⟩ ((v1 (show _=(if b<a then _ else _)from GQ))) rfl
   exact Ai ⟨[0],[],[],[]⟩ ((v1 (show _=(if b<a then _ else _)from GQ))) rfl
  refine AE (IntKind.wrap .i64 b) 0 ?_ (nz hb) rfl rfl
  refine gt a b (fun ab=>?_) (fun ab=>?_) rfl rfl
  ·exact Ai ⟨[1],[],[],[]⟩ ((v1 (show _=(if b<a then _ else _)from GQ))) rfl
  exact Ai ⟨[0],[],[],[]⟩ ((v1 (show _=(if b<a then _ else _)from GQ))) rfl
 ·refine .of (t:=Dn) rfl ?_
  conv=>arg 3;reduce
  repeat refine GW 29 ?_
  refine AL 29 29 ?_
  refine eq b 0 (fun H=>?_) (fun H=>?_) rfl rfl
  ·refine ge a b (fun v=>?_) (fun v=>?_) rfl rfl
   ·exact Ai ⟨[1],[],[],[]⟩ ((v1 (show _=(if b<=a then _ else _)from GQ))) rfl
   exact Ai ⟨[0],[],[],[]⟩ ((v1 (show _=(if b<=a then _ else _)from GQ))) rfl
  refine AE (IntKind.wrap .i64 b) 0 ?_ (nz hb) rfl rfl
  refine ge a b (fun q=>?_) (fun q=>?_) rfl rfl
  ·exact Ai ⟨[1],[],[],[]⟩ ((v1 (show _=(if b<=a then _ else _)from GQ))) rfl
  exact Ai ⟨[0],[],[],[]⟩ ((v1 (show _=(if b<=a then _ else _)from GQ))) rfl
def Anb (N:Nat):Prop:=∀(op a:Int) (q:1<=op/\op<=5) (ha:GJ a),Ok trees N ⟨[op,a],[],[],[]⟩ fun j=>(j=(0,(⟨[(Zd op a)],[],[],[]⟩:Aj)))
theorem Afg:Anb 195:=by
 intro op a q ha
 have:op=1∨op=2∨op=3∨op=4∨op=5:=om;rcases this with rfl|rfl|rfl|rfl|rfl
 ·refine .of (t:=Mb) rfl ?_
  conv=>arg 3;reduce
  refine AL 1 1 ?_
  exact Ai ⟨[(Ag .sub .i32 0 a)],[],[],[]⟩ (rfl) rfl
 ·refine .of (t:=Mb) rfl ?_
  conv=>arg 3;reduce
  repeat refine GW 2 ?_
  refine AL 2 2 ?_
  exact Ai ⟨[(Ag .xor .i32 (-1) a)],[],[],[]⟩ (rfl) rfl
 ·refine .of (t:=Mb) rfl ?_
  conv=>arg 3;reduce
  repeat refine GW 3 ?_
  refine AL 3 3 ?_
  refine ge a 0 (fun j=>?_) (fun j=>?_) rfl rfl
  ·exact Ai ⟨[a],[],[],[]⟩ ((v1 (show _=(if 0<=a then _ else _)from GQ))) rfl
  exact Ai ⟨[(Ag .sub .i32 0 a)],[],[],[]⟩ ((v1 (show _=(if 0<=a then _ else _)from GQ))) rfl
 ·refine .of (t:=Mb) rfl ?_
  conv=>arg 3;reduce
  repeat refine GW 4 ?_
  refine AL 4 4 ?_
  exact Ai ⟨[(Ag .shl .i32 a 16)],[],[],[]⟩ (rfl) rfl
 ·refine .of (t:=Mb) rfl ?_
  conv=>arg 3;reduce
  repeat refine GW 5 ?_
  refine AL 5 5 ?_
  exact Ai ⟨[(Ag .shr .i32 a 16)],[],[],[]⟩ (rfl) rfl
def AmV (N:Nat):Prop:=∀(op a:Int) (q:op=1∨op=2∨op=3∨op=4) (ha:GJ a),Ok trees N ⟨[op,a],[],[],[]⟩ fun j=>(j=(0,(⟨[(GL op a)],[],[],[]⟩:Aj)))
theorem Xs:AmV 202:=by
 intro op a j ha
 rcases j with rfl|rfl|rfl|rfl
 ·refine .of (t:=OB) rfl ?_
  conv=>arg 3;reduce
  refine AL 1 1 ?_
  exact Ai ⟨[(IntKind.wrap .i32 (IntKind.wrap .u32 (IntKind.wrap .u64 (Ag .sub .i64 0 (IntKind.wrap .i64 a)))))],[],[],[]⟩ ((v1 (u1 ha))) rfl
 ·refine .of (t:=OB) rfl ?_
  conv=>arg 3;reduce
  repeat refine GW 2 ?_
  refine AL 2 2 ?_
  exact Ai ⟨[(IntKind.wrap .i32 (IntKind.wrap .u32 (IntKind.wrap .u64 (Ag .sub .i64 (Ag .sub .i64 0 (IntKind.wrap .i64 a)) 1))))],[],[],[]⟩ ((v1 (u2 ha))) rfl
 ·refine .of (t:=OB) rfl ?_
  conv=>arg 3;reduce
  repeat refine GW 3 ?_
  refine AL 3 3 ?_
  refine lt (IntKind.wrap .i64 a) (Ag .sub .i64 0 (IntKind.wrap .i64 a)) (fun q=>?_) (fun q=>?_) rfl rfl
  ·exact Ai ⟨[(IntKind.wrap .i32 (IntKind.wrap .u32 (IntKind.wrap .u64 (Ag .sub .i64 0 (IntKind.wrap .i64 a)))))],[],[],[]⟩ ((v1 (u3a ha asm))) rfl
  exact Ai ⟨[(IntKind.wrap .i32 (IntKind.wrap .u32 (IntKind.wrap .u64 (IntKind.wrap .i64 a))))],[],[],[]⟩ ((v1 (u3b ha asm))) rfl
 ·refine .of (t:=OB) rfl ?_
  conv=>arg 3;reduce
  repeat refine GW 4 ?_
  refine AL 4 4 ?_
  exact Ai ⟨[(IntKind.wrap .i32 (IntKind.wrap .u32 (IntKind.wrap .u64 (Ag .mul .i64 (IntKind.wrap .i64 a) 65536))))],[],[],[]⟩ ((v1 (u4 ha))) rfl
def AnY (N n:Nat):Prop:=∀(w o i:Int) (q:o=2^i.toNat) (h:0<=i/\i<=w/\w<=32/\(w-i).toNat<n),Ok trees N ⟨[w,o,i],[],[],[]⟩ fun j=>(j=(0,(⟨[(2^w.toNat)],[],[],[]⟩:Aj)))
def AmW (N:Nat):Prop:=∀(w o i:Int) (q:o=2^i.toNat) (h:0<=i/\i<=w/\w<=32:=by exact kn),Ok trees N ⟨[w,o,i],[],[],[]⟩ fun j=>(j=(0,(⟨[(2^w.toNat)],[],[],[]⟩:Aj)))
theorem Aju (n:Nat):AnY 201 n:=by
 induction n with
 |zero=>intro w o i j h;exact absurd h.2.2.2 (Nat.not_lt_zero _)
 |succ n ih=>
 intro w o i j h
 have q:=p32 i.toNat om;rw [<-j]at q
 refine .of (t:=Zw) rfl ?_
 conv=>arg 3;reduce
 refine lt i w (fun v=>?_) fun v=>?_
 ·obtain ⟨_,rfl,x⟩:=ih w (2*o) (i+1) (Ab9 om j) kn
  refine ch x ?_
  exact Ai ⟨[(2^w.toNat)],[],[],[]⟩ ((by first|rfl|(have e:i=w:=om;subst e;rw [j])))
 exact Ai ⟨[o],[],[],[]⟩ ((by first|rfl|(have e:i=w:=om;subst e;rw [j])))
theorem AlT:AmW 201:=fun w o i j h=>Aju ((w-i).toNat+1) w o i j ⟨h.1,h.2.1,h.2.2,Nat.lt_succ_self _⟩
def AmX (N:Nat):Prop:=∀(w:Int) (q:0<=w/\w<=32),Ok trees N ⟨[w],[],[],[]⟩ fun j=>(j=(0,(⟨[(2^w.toNat)],[],[],[]⟩:Aj)))
theorem Xt:AmX 200:=by
 intro w q
 refine .of (t:=Zx) rfl ?_
 conv=>arg 3;reduce
 obtain ⟨_,rfl,j⟩:=AlT w 1 0 rfl
 refine ch j ?_
 exact Ai ⟨[(2^w.toNat)],[],[],[]⟩ (rfl)
theorem Afd {o:Int} (J:o=17∨o=18∨o=19) {X Y:Nat} (A:X<2^32) (C:Y<2^32):∀(m:Nat) (i s:Int),0<=i->i<=32->(32-i).toNat<=m->s=((DX o X Y%2^i.toNat:Nat):Int)->Ok trees 203 ⟨[o,X,Y,s,i],[],[],[]⟩ fun B=>B=(0,⟨[((DX o X Y:Nat):Int)],[],[],[]⟩)
 |m,i,s,h0,z,hm,hs=>by
  refine .of (t:=Zv) rfl ?_
  conv=>arg 3;reduce
  by_cases hi:i<32
  ·obtain ⟨m,rfl⟩:∃M,m=M+1:=⟨m-1,by omega⟩
   refine CJ i 32 ?_
   obtain ⟨_,rfl,G⟩:=Xt i ⟨h0,z⟩
   refine ch G ?_
   have I:=p32 i.toNat om
   have N:i.toNat<32:=by omega
   refine AE (2^i.toNat) 0 ?_
   have ex:=bq A (n:=i.toNat) om
   have q:=bq C (n:=i.toNat) om
   have key:∀(p:Int) (r:Nat),p=(r:Int)->r=YN o (X/2^i.toNat%2) (Y/2^i.toNat%2)->Ok trees 203 ⟨[o,X,Y,Ag .add .i64 s (Ag .mul .i64 p (2^i.toNat)),i+1],[],[],[]⟩ fun B=>B=(0,⟨[((DX o X Y:Nat):Int)],[],[],[]⟩):=fun p r I L=>
    Afd J A C m (i+1) _ om om om (by rw [show (i+1).toNat=i.toNat+1 by omega];exact AmH N hs I L)
   have v:∀ρ:Env,ρ.val 4=i->(ST.bin .add .i64 (.var 4) (.lit 1)).den ρ=i+1:=fun ρ h=>da (Al8 h) rfl om
   rcases J with rfl|rfl|rfl
   ·refine AE 17 18 ?_
    refine AE 17 19 ?_
    obtain ⟨_,rfl,j⟩:=key _ ((X/2^i.toNat%2)*(Y/2^i.toNat%2)) (show Ag .mul .i64 (Ag .rem .i64 (Ag .quo .i64 (X:Int) (2^i.toNat)) 2) (Ag .rem .i64 (Ag .quo .i64 (Y:Int) (2^i.toNat)) 2)=_ by
     rw [ex,q];show BK _=_;rw [<-Int.natCast_mul]
     have z:X/2^i.toNat%2<=1:=by omega
     have H:Y/2^i.toNat%2<=1:=by omega
     have:=Nat.mul_le_mul z H
     exact Gd om) rfl
    refine ch j ?_ (vmk (B8 rfl (B8 rfl (B8 rfl (B8 rfl (B8 (v _ rfl) RR))))) rfl rfl rfl)
    exact Ai ⟨[((DX 17 X Y:Nat):Int)],[],[],[]⟩ rfl
   ·refine B4 18 18 ?_
    refine lt (Ag .rem .i64 (Ag .quo .i64 (X:Int) (2^i.toNat)) 2) (Ag .rem .i64 (Ag .quo .i64 (Y:Int) (2^i.toNat)) 2) (fun t=>?_) (fun t=>?_) rfl rfl
    ·refine AE 18 19 ?_
     rw [ex,q]at t
     obtain ⟨_,rfl,j⟩:=key _ (Y/2^i.toNat%2) q (by show _=max _ _;omega)
     refine ch j ?_ (vmk (B8 rfl (B8 rfl (B8 rfl (B8 rfl (B8 (v _ rfl) RR))))) rfl rfl rfl)
     exact Ai ⟨[((DX 18 X Y:Nat):Int)],[],[],[]⟩ rfl
    ·refine AE 18 19 ?_
     rw [ex,q]at t
     obtain ⟨_,rfl,j⟩:=key _ (X/2^i.toNat%2) ex (by show _=max _ _;omega)
     refine ch j ?_ (vmk (B8 rfl (B8 rfl (B8 rfl (B8 rfl (B8 (v _ rfl) RR))))) rfl rfl rfl)
     exact Ai ⟨[((DX 18 X Y:Nat):Int)],[],[],[]⟩ rfl
   ·refine AE 19 18 ?_
    refine B4 19 19 ?_
    obtain ⟨_,rfl,j⟩:=key _ ((X/2^i.toNat%2+Y/2^i.toNat%2)%2) (show Ag .rem .i64 (Ag .add .i64 (Ag .rem .i64 (Ag .quo .i64 (X:Int) (2^i.toNat)) 2) (Ag .rem .i64 (Ag .quo .i64 (Y:Int) (2^i.toNat)) 2)) 2=_ by
     rw [ex,q];show Int.tmod (BK _) 2=_
     have z:X/2^i.toNat%2<=1:=by omega
     have H:Y/2^i.toNat%2<=1:=by omega
     generalize X/2^i.toNat%2=x at*
     generalize Y/2^i.toNat%2=y at*
     rw [show BK ((x:Int)+(y:Int))=(x:Int)+(y:Int)from Gd om,Int.tmod_eq_emod_of_nonneg om]
     omega) rfl
    refine ch j ?_ (vmk (B8 rfl (B8 rfl (B8 rfl (B8 rfl (B8 (v _ rfl) RR))))) rfl rfl rfl)
    exact Ai ⟨[((DX 19 X Y:Nat):Int)],[],[],[]⟩ rfl
  ·have e:i=32:=by omega
   subst e
   refine Ki 32 32 ?_
   have hl:DX o X Y%2^(32:Int).toNat=DX o X Y:=Nat.mod_eq_of_lt (LJ A C)
   rw [hl]at hs
   exact Ai ⟨[s],[],[],[]⟩ (v1 hs)
theorem AcQ (o a b:Int) (B:o=17∨o=18∨o=19) (ha:GJ a) (hb:GJ b):Ok trees 199 ⟨[o,a,b],[],[],[]⟩ fun C=>C=(0,⟨[EF o a b],[],[],[]⟩):=by
 refine .of (t:=Zy) rfl ?_
 conv=>arg 3;reduce
 obtain ⟨_,rfl,G⟩:=Xt 32 ⟨by decide,by decide⟩
 refine ch G ?_
 obtain ⟨_,rfl,q⟩:=Afd B (X:=(a%4294967296).toNat) (Y:=(b%4294967296).toNat) om om 32 0 0 (by decide) (by decide) (by decide) (by simp [Nat.mod_one])
 have v:wu ((DX o (a%4294967296).toNat (b%4294967296).toNat:Nat):Int)=EF o a b:=by
  rw [DH]
  rcases B with rfl|rfl|rfl<;>rfl
 have z:∀x:Int,GJ x->¬x<0->Ag .add .i64 (BK x) (Ag .mul .i64 (2^(32:Int).toNat) 0)=((x%4294967296).toNat:Int):=fun x h t=>by
  rw [AT h];show BK (x+BK (4294967296*0))=_
  rw [show BK (4294967296*0)=0 from rfl,show BK (x+0)=x+0 from Gd om];omega
 have A:∀x:Int,GJ x->x<0->Ag .add .i64 (BK x) (Ag .mul .i64 (2^(32:Int).toNat) 1)=((x%4294967296).toNat:Int):=fun x h t=>by
  rw [AT h];show BK (x+BK (4294967296*1))=_
  rw [show BK (4294967296*1)=4294967296 from rfl,show BK (x+4294967296)=x+4294967296 from Gd om];omega
 refine lt a 0 (fun j=>?_) (fun j=>?_)
 ·refine lt b 0 (fun tb=>?_) (fun tb=>?_)
  ·refine ch q ?_ (vmk (B8 rfl (B8 (A a ha j) (B8 (A b hb tb) (B8 rfl (B8 rfl RR))))) rfl rfl rfl)
   exact Ai ⟨[wu ((DX o (a%4294967296).toNat (b%4294967296).toNat:Nat):Int)],[],[],[]⟩ (v1 v) rfl
  ·refine ch q ?_ (vmk (B8 rfl (B8 (A a ha j) (B8 (z b hb tb) (B8 rfl (B8 rfl RR))))) rfl rfl rfl)
   exact Ai ⟨[wu ((DX o (a%4294967296).toNat (b%4294967296).toNat:Nat):Int)],[],[],[]⟩ (v1 v) rfl
 ·refine lt b 0 (fun tb=>?_) (fun tb=>?_)
  ·refine ch q ?_ (vmk (B8 rfl (B8 (z a ha j) (B8 (A b hb tb) (B8 rfl (B8 rfl RR))))) rfl rfl rfl)
   exact Ai ⟨[wu ((DX o (a%4294967296).toNat (b%4294967296).toNat:Nat):Int)],[],[],[]⟩ (v1 v) rfl
  ·refine ch q ?_ (vmk (B8 rfl (B8 (z a ha j) (B8 (z b hb tb) (B8 rfl (B8 rfl RR))))) rfl rfl rfl)
   exact Ai ⟨[wu ((DX o (a%4294967296).toNat (b%4294967296).toNat:Nat):Int)],[],[],[]⟩ (v1 v) rfl
def AmY (N:Nat):Prop:=∀(op a b:Int) (q:YU op) (ha:GJ a) (hb:GJ b),Ok trees N ⟨[op,a,b],[],[],[]⟩ fun j=>(j=(0,(⟨[(EF op a b)],[],[],[]⟩:Aj)))
theorem Afe:AmY 198:=by
 intro op a b v ha hb
 rcases v with rfl|rfl|rfl|rfl|rfl|rfl|rfl|rfl|rfl|rfl|rfl|rfl
 ·refine .of (t:=Fq) rfl ?_
  conv=>arg 3;reduce
  refine AL 10 10 ?_
  exact Ai ⟨[(IntKind.wrap .i32 (IntKind.wrap .u32 (IntKind.wrap .u64 (Ag .add .i64 (IntKind.wrap .i64 a) (IntKind.wrap .i64 b)))))],[],[],[]⟩ ((v1 (q10 ha hb))) rfl
 ·refine .of (t:=Fq) rfl ?_
  conv=>arg 3;reduce
  repeat refine GW 11 ?_
  refine AL 11 11 ?_
  exact Ai ⟨[(IntKind.wrap .i32 (IntKind.wrap .u32 (IntKind.wrap .u64 (Ag .sub .i64 (IntKind.wrap .i64 a) (IntKind.wrap .i64 b)))))],[],[],[]⟩ ((v1 (q11 ha hb))) rfl
 ·refine .of (t:=Fq) rfl ?_
  conv=>arg 3;reduce
  repeat refine GW 12 ?_
  refine AL 12 12 ?_
  exact Ai ⟨[(IntKind.wrap .i32 (IntKind.wrap .u32 (IntKind.wrap .u64 (Ag .mul .i64 (IntKind.wrap .i64 a) (IntKind.wrap .i64 b)))))],[],[],[]⟩ ((v1 (q12 ha hb))) rfl
 ·refine .of (t:=Fq) rfl ?_
  conv=>arg 3;reduce
  repeat refine GW 13 ?_
  refine AL 13 13 ?_
  refine eq (IntKind.wrap .i64 b) 0 (fun x=>?_) (fun x=>?_) rfl rfl
  ·exact Ai ⟨[0],[],[],[]⟩ ((v1 (Apg ha hb asm))) rfl
  exact Ai ⟨[(IntKind.wrap .i32 (IntKind.wrap .u32 (IntKind.wrap .u64 (Ag .quo .i64 (IntKind.wrap .i64 a) (IntKind.wrap .i64 b)))))],[],[],[]⟩ ((v1 (Apf ha hb asm))) rfl
 ·refine .of (t:=Fq) rfl ?_
  conv=>arg 3;reduce
  repeat refine GW 14 ?_
  refine AL 14 14 ?_
  refine eq (IntKind.wrap .i64 b) 0 (fun q=>?_) (fun q=>?_) rfl rfl
  ·exact Ai ⟨[(IntKind.wrap .i32 (IntKind.wrap .u32 (IntKind.wrap .u64 (Ag .sub .i64 (IntKind.wrap .i64 a) 0))))],[],[],[]⟩ ((v1 (Ape ha hb asm))) rfl
  exact Ai ⟨[(IntKind.wrap .i32 (IntKind.wrap .u32 (IntKind.wrap .u64 (Ag .sub .i64 (IntKind.wrap .i64 a) (Ag .mul .i64 (IntKind.wrap .i64 b) (Ag .quo .i64 (IntKind.wrap .i64 a) (IntKind.wrap .i64 b)))))))],[],[],[]⟩ ((v1 (Apd ha hb asm))) rfl
 ·refine .of (t:=Fq) rfl ?_
  conv=>arg 3;reduce
  repeat refine GW 17 ?_
  refine AL 17 17 ?_
  obtain ⟨_,rfl,J⟩:=AcQ 17 a b (by decide) ha hb
  refine ch J ?_ rfl
  exact Ai ⟨[(EF 17 a b)],[],[],[]⟩ ((v1 (rfl))) rfl
 ·refine .of (t:=Fq) rfl ?_
  conv=>arg 3;reduce
  repeat refine GW 18 ?_
  refine AL 18 18 ?_
  obtain ⟨_,rfl,B⟩:=AcQ 18 a b (by decide) ha hb
  refine ch B ?_ rfl
  exact Ai ⟨[(EF 18 a b)],[],[],[]⟩ ((v1 (rfl))) rfl
 ·refine .of (t:=Fq) rfl ?_
  conv=>arg 3;reduce
  repeat refine GW 19 ?_
  refine AL 19 19 ?_
  obtain ⟨_,rfl,z⟩:=AcQ 19 a b (by decide) ha hb
  refine ch z ?_ rfl
  exact Ai ⟨[(EF 19 a b)],[],[],[]⟩ ((v1 (rfl))) rfl
 ·refine .of (t:=Fq) rfl ?_
  conv=>arg 3;reduce
  repeat refine GW 20 ?_
  refine AL 20 20 ?_
  obtain ⟨_,rfl,C⟩:=Xt (Ag .rem .i64 (Ag .add .i64 (Ag .rem .i64 (IntKind.wrap .i64 b) 32) 32) 32) (by rw [shn hb];omega)
  refine ch C ?_ rfl
  exact Ai ⟨[(IntKind.wrap .i32 (IntKind.wrap .u32 (IntKind.wrap .u64 (Ag .mul .i64 (IntKind.wrap .i64 a) (2^(Ag .rem .i64 (Ag .add .i64 (Ag .rem .i64 (IntKind.wrap .i64 b) 32) 32) 32).toNat)))))],[],[],[]⟩ ((v1 (q20 ha hb))) rfl
 ·refine .of (t:=Fq) rfl ?_
  conv=>arg 3;reduce
  repeat refine GW 21 ?_
  refine AL 21 21 ?_
  obtain ⟨_,rfl,I⟩:=Xt (Ag .rem .i64 (Ag .add .i64 (Ag .rem .i64 (IntKind.wrap .i64 b) 32) 32) 32) (by rw [shn hb];omega)
  refine ch I ?_ rfl
  refine AE (2^(Ag .rem .i64 (Ag .add .i64 (Ag .rem .i64 (IntKind.wrap .i64 b) 32) 32) 32).toNat) 0 ?_ (nz hb) rfl rfl
  refine lt (Ag .rem .i64 (IntKind.wrap .i64 a) (2^(Ag .rem .i64 (Ag .add .i64 (Ag .rem .i64 (IntKind.wrap .i64 b) 32) 32) 32).toNat)) 0 (fun A=>?_) (fun A=>?_) rfl rfl
  ·exact Ai ⟨[(IntKind.wrap .i32 (IntKind.wrap .u32 (IntKind.wrap .u64 (Ag .sub .i64 (Ag .quo .i64 (IntKind.wrap .i64 a) (2^(Ag .rem .i64 (Ag .add .i64 (Ag .rem .i64 (IntKind.wrap .i64 b) 32) 32) 32).toNat)) 1))))],[],[],[]⟩ ((v1 (Apc ha hb asm))) rfl
  exact Ai ⟨[(IntKind.wrap .i32 (IntKind.wrap .u32 (IntKind.wrap .u64 (Ag .quo .i64 (IntKind.wrap .i64 a) (2^(Ag .rem .i64 (Ag .add .i64 (Ag .rem .i64 (IntKind.wrap .i64 b) 32) 32) 32).toNat)))))],[],[],[]⟩ ((v1 (Apb ha hb asm))) rfl
 ·refine .of (t:=Fq) rfl ?_
  conv=>arg 3;reduce
  repeat refine GW 22 ?_
  refine AL 22 22 ?_
  refine lt (IntKind.wrap .i64 b) (IntKind.wrap .i64 a) (fun H=>?_) (fun H=>?_) rfl rfl
  ·exact Ai ⟨[(IntKind.wrap .i32 (IntKind.wrap .u32 (IntKind.wrap .u64 (IntKind.wrap .i64 b))))],[],[],[]⟩ ((v1 (Apa ha hb asm))) rfl
  exact Ai ⟨[(IntKind.wrap .i32 (IntKind.wrap .u32 (IntKind.wrap .u64 (IntKind.wrap .i64 a))))],[],[],[]⟩ ((v1 (AoZ ha hb asm))) rfl
 ·refine .of (t:=Fq) rfl ?_
  conv=>arg 3;reduce
  repeat refine GW 23 ?_
  refine AL 23 23 ?_
  refine lt (IntKind.wrap .i64 a) (IntKind.wrap .i64 b) (fun j=>?_) (fun j=>?_) rfl rfl
  ·exact Ai ⟨[(IntKind.wrap .i32 (IntKind.wrap .u32 (IntKind.wrap .u64 (IntKind.wrap .i64 b))))],[],[],[]⟩ ((v1 (AoY ha hb asm))) rfl
  exact Ai ⟨[(IntKind.wrap .i32 (IntKind.wrap .u32 (IntKind.wrap .u64 (IntKind.wrap .i64 a))))],[],[],[]⟩ ((v1 (AoX ha hb asm))) rfl
def Aoa (N n:Nat):Prop:=∀(t:Int) (a:List E) (k o:Int) (ty v:Int) (ln g:Int) (sub al:Int) (L j:Int) (id wa:Int) (O wv:Int) (U st:Int) (sl sn:Int) (sv Q:Int) (Y m1:Int) (m2 m3:Int) (m4 m5:Int) (J V:Int) (m8 M:Int) (z C:Int) (x H:Int) (B q:Int) (s I X:List Nat) (A Ar:Rs) (R Z:Rs) (hT:CT t (.node k o ty v s a)) (hA:A=E.Ab a) (h:ln=A.length/\g=4/\sub=2/\j=1/\0<=id/\id<=3/\(E.node k o ty v s a).high<n),Ok trees N ⟨[k,o,ty,v,ln,g,sub,al,L,j,id,wa,O,wv,U,st,sl,sn,sv,Q,Y,m1,m2,m3,m4,m5,J,V,m8,M,z,C,x,H,B,q],[s,I,X],[A,Ar,R,Z],[]⟩ fun P=>(P=(0,(⟨[((E.node k o ty v s a).val id),t],[],[],[]⟩:Aj)))
def Anc (N:Nat):Prop:=∀(t:Int) (a:List E) (k o:Int) (ty v:Int) (ln g:Int) (sub al:Int) (L j:Int) (id wa:Int) (O wv:Int) (U st:Int) (sl sn:Int) (sv Q:Int) (Y m1:Int) (m2 m3:Int) (m4 m5:Int) (J V:Int) (m8 M:Int) (z C:Int) (x H:Int) (B q:Int) (s I X:List Nat) (A Ar:Rs) (R Z:Rs) (hT:CT t (.node k o ty v s a)) (hA:A=E.Ab a) (h:ln=A.length/\g=4/\sub=2/\j=1/\0<=id/\id<=3:=by exact kn),Ok trees N ⟨[k,o,ty,v,ln,g,sub,al,L,j,id,wa,O,wv,U,st,sl,sn,sv,Q,Y,m1,m2,m3,m4,m5,J,V,m8,M,z,C,x,H,B,q],[s,I,X],[A,Ar,R,Z],[]⟩ fun P=>(P=(0,(⟨[((E.node k o ty v s a).val id),t],[],[],[]⟩:Aj)))
theorem Ajw (n:Nat):Aoa 194 n:=by
 induction n with
 |zero=>intro t a k o ty v ln g sub al bl lg id wa wo wv wx st sl sn sv sr m0 m1 m2 m3 m4 m5 m6 m7 m8 m9 V Q P Y X U s R tg A Ar Bd Sl hT hA h;exact absurd h.2.2.2.2.2.2 (Nat.not_lt_zero _)
 |succ n ih=>
 intro t a k o ty v ln g sub al bl lg id wa wo wv wx st sl sn sv sr m0 m1 m2 m3 m4 m5 m6 m7 m8 m9 V Q P Y X U s R tg A Ar Bd Sl hT hA h
 subst hA;obtain ⟨aF,rfl,rfl,rfl,aD,aE,bc⟩:=h;have I:ln=(a.length:Int):=(by rw [E.AA]at aF;exact aF);have e2:=Dx (k:=k) (o:=o) (ty:=ty) (v:=v) (s:=s) (a:=a)
 rcases (TR.inv hT)with hv|hv|hv|hv|hv|hv|hv|hv|hv|hv
 ·obtain ⟨rfl,rfl,rfl,rfl,rfl,r1,r2,r3,r4,r5,r6⟩:=hv;simp only [lC,lN]at I;have e3:E.Ad []=0:=rfl
  refine .of (t:=Mc) rfl ?_
  conv=>arg 3;reduce
  refine AL 1 1 ?_
  refine AL ln 0 ?_
  first|exact Ai ⟨[v,ty],[],[],[]⟩ ((Ia Ge.symm)) |(exfalso;omega)
 ·obtain ⟨rfl,rfl,rfl,rfl,rfl,rfl,r1,r2⟩:=hv;simp only [lC,lN]at I;have e3:E.Ad []=0:=rfl
  refine .of (t:=Mc) rfl ?_
  conv=>arg 3;reduce
  refine NZ 3 1 ?_
  refine AL 3 3 ?_
  refine AL ln 0 ?_
  refine lt id 0 (fun q=>?_) fun q=>?_
  ·first|exact Ai ⟨[0,1],[],[],[]⟩ ((Ia Pk)) |(exfalso;omega)
  refine ge id (1*4) (fun J=>?_) fun J=>?_
  ·first|exact Ai ⟨[0,1],[],[],[]⟩ ((Ia Pk)) |(exfalso;omega)
  refine AE 4 0 ?_
  refine eq o 1 (fun t3=>?_) fun t3=>?_
  ·first|exact Ai ⟨[id,1],[],[],[]⟩ ((Ia Pk)) |(exfalso;omega)
  refine eq o 2 (fun t4=>?_) fun t4=>?_
  ·first|exact Ai ⟨[(id%4),1],[],[],[]⟩ ((Ia Pk)) |(exfalso;omega)
  refine eq o 3 (fun t5=>?_) fun t5=>?_
  ·first|exact Ai ⟨[(id/4),1],[],[],[]⟩ ((Ia Pk)) |(exfalso;omega)
  refine eq o 4 (fun t6=>?_) fun t6=>?_
  ·first|exact Ai ⟨[(1*4),1],[],[],[]⟩ ((Ia Pk)) |(exfalso;omega)
  refine eq o 5 (fun t7=>?_) fun t7=>?_
  ·first|exact Ai ⟨[4,1],[],[],[]⟩ ((Ia Pk)) |(exfalso;omega)
  refine eq o 6 (fun t8=>?_) fun t8=>?_
  ·refine AE 2 0 ?_
   first|exact Ai ⟨[((id%4)%2),1],[],[],[]⟩ ((Ia Pk)) |(exfalso;omega)
  refine eq o 7 (fun t9=>?_) fun t9=>?_
  ·refine AE 2 0 ?_
   first|exact Ai ⟨[((id%4)/2),1],[],[],[]⟩ ((Ia Pk)) |(exfalso;omega)
  first|exact Ai ⟨[0,1],[],[],[]⟩ ((Ia Pk)) |(exfalso;omega)
 ·obtain ⟨rfl,rfl,rfl,rfl,rfl,hs,kk,ii,hk,r1,r2,Z⟩:=hv;simp only [lC,lN]at I;have e3:E.Ad []=0:=rfl;exact Z.elim
 ·obtain ⟨rfl,rfl,rfl,rfl,C,H,q,v1,B,j,w,rfl,hu,h1⟩:=hv;simp only [lC,lN]at I;have e3:=n1 (x:=.node C H q v1 B j);have e4:=g1 (x:=.node C H q v1 B j)
  refine .of (t:=Mc) rfl ?_
  conv=>arg 3;reduce
  refine NZ 4 1 ?_
  refine NZ 4 3 ?_
  refine AL 4 4 ?_
  refine AL ln 1 ?_
  refine el (j':=0) rfl ?_
  obtain ⟨_,rfl,aW⟩:=ih w j C H q v1 ((E.Ab j).length:Int) 4 2 al bl 1 id wa wo wv wx st sl sn sv sr m0 m1 m2 m3 m4 m5 m6 m7 m8 m9 V Q P Y X U B R tg (E.Ab j) Ar Bd Sl asm rfl kn
  refine ch aW ?_
  obtain ⟨_,rfl,aU⟩:=Xv t o w hu
  refine ch aU ?_
  obtain ⟨_,rfl,a0⟩:=Afg o ((E.node C H q v1 B j).val id) (by have:=hu.XJ;omega) ((CT.val h1 ⟨aD,aE⟩).1)
  refine ch a0 ?_
  refine eq o 2 (fun aP=>?_) fun aP=>?_
  ·refine eq w 3 (fun a2=>?_) fun a2=>?_
   ·first|exact Ai ⟨[(bits .xor .i32 ((E.node C H q v1 B j).val id) 1),t],[],[],[]⟩ ((Ia (by rw [FD,if_pos ⟨by assumption,(CT.tb h1).2 asm⟩]))) |(exfalso;omega)
   first|exact Ai ⟨[(Zd o ((E.node C H q v1 B j).val id)),t],[],[],[]⟩ ((Ia (by rw [FD,if_neg (fun h=>absurd ((CT.tb h1).1 h.2) asm)]))) |(exfalso;omega)
  first|exact Ai ⟨[(Zd o ((E.node C H q v1 B j).val id)),t],[],[],[]⟩ ((Ia (by rw [FD,if_neg (fun h=>absurd h.1 asm)]))) |(exfalso;omega)
 ·obtain ⟨rfl,rfl,rfl,rfl,C,H,q,v1,B,j,M,O,J,L,N,b2,w,rfl,hu,h1,h2⟩:=hv;simp only [lC,lN]at I;have e3:=n2 (x:=.node C H q v1 B j) (y:=.node M O J L N b2);have e4:=g2 (x:=.node C H q v1 B j) (y:=.node M O J L N b2)
  refine .of (t:=Mc) rfl ?_
  conv=>arg 3;reduce
  refine NZ 5 1 ?_
  refine NZ 5 3 ?_
  refine NZ 5 4 ?_
  refine AL 5 5 ?_
  refine AL ln 2 ?_
  refine el (j':=0) rfl ?_
  obtain ⟨_,rfl,a1⟩:=ih w j C H q v1 ((E.Ab j).length:Int) 4 2 al bl 1 id wa wo wv wx st sl sn sv sr m0 m1 m2 m3 m4 m5 m6 m7 m8 m9 V Q P Y X U B R tg (E.Ab j) Ar Bd Sl asm rfl kn
  refine ch a1 ?_
  refine el (j':=1) rfl ?_
  obtain ⟨_,rfl,aY⟩:=ih w b2 M O J L ((E.Ab b2).length:Int) 4 2 al bl 1 id wa wo wv wx st sl sn sv sr m0 m1 m2 m3 m4 m5 m6 m7 m8 m9 V Q P Y X U N R tg (E.Ab b2) Ar Bd Sl asm rfl kn
  refine ch aY ?_
  obtain ⟨_,rfl,aR⟩:=TO t o w w hu rfl
  refine ch aR ?_
  obtain ⟨_,rfl,aV⟩:=Aff o ((E.node C H q v1 B j).val id) ((E.node M O J L N b2).val id) (by have:=hu.XJ;omega) ((CT.val h1 ⟨aD,aE⟩).1) ((CT.val h2 ⟨aD,aE⟩).1)
  refine ch aV ?_
  first|exact Ai ⟨[(Oe o ((E.node C H q v1 B j).val id) ((E.node M O J L N b2).val id)),t],[],[],[]⟩ ((Ia LG.symm)) |(exfalso;omega)
 ·obtain ⟨rfl,rfl,rfl,rfl,rfl,C,H,q,v1,B,j,M,O,J,L,N,b2,k3,o3,t3,v3,s3,b3,rfl,h1,h2,h3⟩:=hv;simp only [lC,lN]at I;have e3:=n3 (x:=.node C H q v1 B j) (y:=.node M O J L N b2) (z:=.node k3 o3 t3 v3 s3 b3);have e4:=g3 (x:=.node C H q v1 B j) (y:=.node M O J L N b2) (z:=.node k3 o3 t3 v3 s3 b3)
  refine .of (t:=Mc) rfl ?_
  conv=>arg 3;reduce
  refine NZ 6 1 ?_
  refine NZ 6 3 ?_
  refine NZ 6 4 ?_
  refine NZ 6 5 ?_
  refine AL 6 6 ?_
  refine AL ln 3 ?_
  refine el (j':=0) rfl ?_
  obtain ⟨_,rfl,a3⟩:=ih 3 j C H q v1 ((E.Ab j).length:Int) 4 2 al bl 1 id wa wo wv wx st sl sn sv sr m0 m1 m2 m3 m4 m5 m6 m7 m8 m9 V Q P Y X U B R tg (E.Ab j) Ar Bd Sl asm rfl kn
  refine ch a3 ?_
  refine el (j':=1) rfl ?_
  obtain ⟨_,rfl,aO⟩:=ih t b2 M O J L ((E.Ab b2).length:Int) 4 2 al bl 1 id wa wo wv wx st sl sn sv sr m0 m1 m2 m3 m4 m5 m6 m7 m8 m9 V Q P Y X U N R tg (E.Ab b2) Ar Bd Sl asm rfl kn
  refine ch aO ?_
  refine el (j':=2) rfl ?_
  obtain ⟨_,rfl,aN⟩:=ih t b3 k3 o3 t3 v3 ((E.Ab b3).length:Int) 4 2 al bl 1 id wa wo wv wx st sl sn sv sr m0 m1 m2 m3 m4 m5 m6 m7 m8 m9 V Q P Y X U s3 R tg (E.Ab b3) Ar Bd Sl asm rfl kn
  refine ch aN ?_
  refine ne ((E.node C H q v1 B j).val id) 0 (fun aQ=>?_) fun aQ=>?_
  ·first|exact Ai ⟨[((E.node M O J L N b2).val id),t],[],[],[]⟩ ((Ia (by rw [C8,if_pos asm]))) |(exfalso;omega)
  first|exact Ai ⟨[((E.node k3 o3 t3 v3 s3 b3).val id),t],[],[],[]⟩ ((Ia (by rw [C8,if_neg asm]))) |(exfalso;omega)
 ·obtain ⟨rfl,rfl,rfl,rfl,hs,C,H,q,v1,B,j,ii,rfl,r1,r2,Z,h1⟩:=hv;simp only [lC,lN]at I;have e3:=n1 (x:=.node C H q v1 B j);have e4:=g1 (x:=.node C H q v1 B j);exact Z.elim
 ·obtain ⟨rfl,rfl,rfl,rfl,rfl,C,H,q,v1,B,j,M,O,J,L,N,b2,ii,rfl,rfl,Z,h1,h2⟩:=hv;simp only [lC,lN]at I;have e3:=n2 (x:=.node C H q v1 B j) (y:=.node M O J L N b2);have e4:=g2 (x:=.node C H q v1 B j) (y:=.node M O J L N b2);exact Z.elim
 ·obtain ⟨rfl,rfl,rfl,rfl,rfl,hs,⟨r1,r2⟩,Z⟩:=hv;simp only [lC,lN]at I;have e3:E.Ad []=0:=rfl;exact (Z [] (0,0,0)).elim
 ·obtain ⟨rfl,rfl,rfl,rfl,hs,C,H,q,v1,B,j,rfl,⟨r1,r2⟩,Z,h1⟩:=hv;simp only [lC,lN]at I;have e3:=n1 (x:=.node C H q v1 B j);have e4:=g1 (x:=.node C H q v1 B j);exact (Z [] (0,0,0)).elim
theorem AlU:Anc 194:=fun t a k o ty v ln g sub al J L id wa N wv R st sl sn sv P Y m1 m2 m3 m4 m5 I V m8 M x B q C z j s H X A Ar Q Z O U h=>Ajw ((E.node k o ty v s a).high+1) t a k o ty v ln g sub al J L id wa N wv R st sl sn sv P Y m1 m2 m3 m4 m5 I V m8 M x B q C z j s H X A Ar Q Z O U ⟨h.1,h.2.1,h.2.2.1,h.2.2.2.1,h.2.2.2.2.1,h.2.2.2.2.2,Nat.lt_succ_self _⟩
def AnZ (N n:Nat):Prop:=∀(t:Int) (a:List E) (k o:Int) (ty v:Int) (ln g:Int) (sub al:Int) (M j:Int) (id wa:Int) (P wv:Int) (V x:Int) (st sl:Int) (sn sv:Int) (R Z:Int) (m1 m2:Int) (m3 m4:Int) (m5 L:Int) (X m8:Int) (O B:Int) (H z:Int) (I C q:Int) (s J Y:List Nat) (A Ar:Rs) (U Sl Ev:Rs) (hT:CT t (.node k o ty v s a)) (hA:A=E.Ab a) (h:ln=A.length/\g=4/\sub=2/\j=1/\0<=id/\id<=3/\(E.node k o ty v s a).high<n),Ok trees N ⟨[k,o,ty,v,ln,g,sub,al,M,j,id,wa,P,wv,V,x,st,sl,sn,sv,R,Z,m1,m2,m3,m4,m5,L,X,m8,O,B,H,z,I,C,q],[s,J,Y],[A,Ar,U,Sl,Ev],[]⟩ fun Q=>(Q=(0,(⟨[((E.node k o ty v s a).val id),t],[],[],[]⟩:Aj)))
def AmZ (N:Nat):Prop:=∀(t:Int) (a:List E) (k o:Int) (ty v:Int) (ln g:Int) (sub al:Int) (M j:Int) (id wa:Int) (P wv:Int) (V x:Int) (st sl:Int) (sn sv:Int) (R Z:Int) (m1 m2:Int) (m3 m4:Int) (m5 L:Int) (X m8:Int) (O B:Int) (H z:Int) (I C q:Int) (s J Y:List Nat) (A Ar:Rs) (U Sl Ev:Rs) (hT:CT t (.node k o ty v s a)) (hA:A=E.Ab a) (h:ln=A.length/\g=4/\sub=2/\j=1/\0<=id/\id<=3:=by exact kn),Ok trees N ⟨[k,o,ty,v,ln,g,sub,al,M,j,id,wa,P,wv,V,x,st,sl,sn,sv,R,Z,m1,m2,m3,m4,m5,L,X,m8,O,B,H,z,I,C,q],[s,J,Y],[A,Ar,U,Sl,Ev],[]⟩ fun Q=>(Q=(0,(⟨[((E.node k o ty v s a).val id),t],[],[],[]⟩:Aj)))
theorem Ajv (n:Nat):AnZ 197 n:=by
 induction n with
 |zero=>intro t a k o ty v ln g sub al bl lg id wa wo wv wx V st sl sn sv sr m0 m1 m2 m3 m4 m5 m6 m7 m8 m9 X Q P Z Y U s R tg A Ar Bd Sl Ev hT hA h;exact absurd h.2.2.2.2.2.2 (Nat.not_lt_zero _)
 |succ n ih=>
 intro t a k o ty v ln g sub al bl lg id wa wo wv wx V st sl sn sv sr m0 m1 m2 m3 m4 m5 m6 m7 m8 m9 X Q P Z Y U s R tg A Ar Bd Sl Ev hT hA h
 subst hA;obtain ⟨aH,rfl,rfl,rfl,aF,aG,bf⟩:=h;have I:ln=(a.length:Int):=(by rw [E.AA]at aH;exact aH);have e2:=Dx (k:=k) (o:=o) (ty:=ty) (v:=v) (s:=s) (a:=a)
 rcases (TR.inv hT)with hv|hv|hv|hv|hv|hv|hv|hv|hv|hv
 ·obtain ⟨rfl,rfl,rfl,rfl,rfl,r1,r2,r3,r4,r5,r6⟩:=hv;simp only [lC,lN]at I;have e3:E.Ad []=0:=rfl
  refine .of (t:=Ma) rfl ?_
  conv=>arg 3;reduce
  refine AL 1 1 ?_
  refine AL ln 0 ?_
  first|exact Ai ⟨[v,ty],[],[],[]⟩ ((Ia Ge.symm)) |(exfalso;omega)
 ·obtain ⟨rfl,rfl,rfl,rfl,rfl,rfl,r1,r2⟩:=hv;simp only [lC,lN]at I;have e3:E.Ad []=0:=rfl
  refine .of (t:=Ma) rfl ?_
  conv=>arg 3;reduce
  refine NZ 3 1 ?_
  refine AL 3 3 ?_
  refine AL ln 0 ?_
  refine lt id 0 (fun q=>?_) fun q=>?_
  ·first|exact Ai ⟨[0,1],[],[],[]⟩ ((Ia Pk)) |(exfalso;omega)
  refine ge id (1*4) (fun J=>?_) fun J=>?_
  ·first|exact Ai ⟨[0,1],[],[],[]⟩ ((Ia Pk)) |(exfalso;omega)
  refine AE 4 0 ?_
  refine eq o 1 (fun t3=>?_) fun t3=>?_
  ·first|exact Ai ⟨[id,1],[],[],[]⟩ ((Ia Pk)) |(exfalso;omega)
  refine eq o 2 (fun t4=>?_) fun t4=>?_
  ·first|exact Ai ⟨[(id%4),1],[],[],[]⟩ ((Ia Pk)) |(exfalso;omega)
  refine eq o 3 (fun t5=>?_) fun t5=>?_
  ·first|exact Ai ⟨[(id/4),1],[],[],[]⟩ ((Ia Pk)) |(exfalso;omega)
  refine eq o 4 (fun t6=>?_) fun t6=>?_
  ·first|exact Ai ⟨[(1*4),1],[],[],[]⟩ ((Ia Pk)) |(exfalso;omega)
  refine eq o 5 (fun t7=>?_) fun t7=>?_
  ·first|exact Ai ⟨[4,1],[],[],[]⟩ ((Ia Pk)) |(exfalso;omega)
  refine eq o 6 (fun t8=>?_) fun t8=>?_
  ·refine AE 2 0 ?_
   first|exact Ai ⟨[((id%4)%2),1],[],[],[]⟩ ((Ia Pk)) |(exfalso;omega)
  refine eq o 7 (fun t9=>?_) fun t9=>?_
  ·refine AE 2 0 ?_
   first|exact Ai ⟨[((id%4)/2),1],[],[],[]⟩ ((Ia Pk)) |(exfalso;omega)
  first|exact Ai ⟨[0,1],[],[],[]⟩ ((Ia Pk)) |(exfalso;omega)
 ·obtain ⟨rfl,rfl,rfl,rfl,rfl,hs,kk,ii,hk,r1,r2,hg⟩:=hv;simp only [lC,lN]at I;have e3:E.Ad []=0:=rfl;exact hg.elim
 ·obtain ⟨rfl,rfl,rfl,rfl,C,H,q,v1,B,j,w,rfl,hu,h1⟩:=hv;simp only [lC,lN]at I;have e3:=n1 (x:=.node C H q v1 B j);have e4:=g1 (x:=.node C H q v1 B j)
  refine .of (t:=Ma) rfl ?_
  conv=>arg 3;reduce
  refine NZ 4 1 ?_
  refine NZ 4 3 ?_
  refine AL 4 4 ?_
  refine AL ln 1 ?_
  refine el (j':=0) rfl ?_
  obtain ⟨_,rfl,aY⟩:=ih w j C H q v1 ((E.Ab j).length:Int) 4 2 al bl 1 id wa wo wv wx V st sl sn sv sr m0 m1 m2 m3 m4 m5 m6 m7 m8 m9 X Q P Z Y U B R tg (E.Ab j) Ar Bd Sl Ev asm rfl kn
  refine ch aY ?_
  obtain ⟨_,rfl,aW⟩:=Xv t o w hu
  refine ch aW ?_
  obtain ⟨_,rfl,a2⟩:=Afg o ((E.node C H q v1 B j).val id) (by have:=hu.XJ;omega) ((CT.val h1 ⟨aF,aG⟩).1)
  refine ch a2 ?_
  refine eq o 2 (fun aR=>?_) fun aR=>?_
  ·refine eq w 3 (fun a4=>?_) fun a4=>?_
   ·first|exact Ai ⟨[(bits .xor .i32 ((E.node C H q v1 B j).val id) 1),t],[],[],[]⟩ ((Ia (by rw [FD,if_pos ⟨by assumption,(CT.tb h1).2 asm⟩]))) |(exfalso;omega)
   first|exact Ai ⟨[(Zd o ((E.node C H q v1 B j).val id)),t],[],[],[]⟩ ((Ia (by rw [FD,if_neg (fun h=>absurd ((CT.tb h1).1 h.2) asm)]))) |(exfalso;omega)
  first|exact Ai ⟨[(Zd o ((E.node C H q v1 B j).val id)),t],[],[],[]⟩ ((Ia (by rw [FD,if_neg (fun h=>absurd h.1 asm)]))) |(exfalso;omega)
 ·obtain ⟨rfl,rfl,rfl,rfl,C,H,q,v1,B,j,M,O,J,L,N,b2,w,rfl,hu,h1,h2⟩:=hv;simp only [lC,lN]at I;have e3:=n2 (x:=.node C H q v1 B j) (y:=.node M O J L N b2);have e4:=g2 (x:=.node C H q v1 B j) (y:=.node M O J L N b2)
  refine .of (t:=Ma) rfl ?_
  conv=>arg 3;reduce
  refine NZ 5 1 ?_
  refine NZ 5 3 ?_
  refine NZ 5 4 ?_
  refine AL 5 5 ?_
  refine AL ln 2 ?_
  refine el (j':=0) rfl ?_
  obtain ⟨_,rfl,a3⟩:=ih w j C H q v1 ((E.Ab j).length:Int) 4 2 al bl 1 id wa wo wv wx V st sl sn sv sr m0 m1 m2 m3 m4 m5 m6 m7 m8 m9 X Q P Z Y U B R tg (E.Ab j) Ar Bd Sl Ev asm rfl kn
  refine ch a3 ?_
  refine el (j':=1) rfl ?_
  obtain ⟨_,rfl,a0⟩:=ih w b2 M O J L ((E.Ab b2).length:Int) 4 2 al bl 1 id wa wo wv wx V st sl sn sv sr m0 m1 m2 m3 m4 m5 m6 m7 m8 m9 X Q P Z Y U N R tg (E.Ab b2) Ar Bd Sl Ev asm rfl kn
  refine ch a0 ?_
  obtain ⟨_,rfl,aV⟩:=TO t o w w hu rfl
  refine ch aV ?_
  obtain ⟨_,rfl,aX⟩:=Aff o ((E.node C H q v1 B j).val id) ((E.node M O J L N b2).val id) (by have:=hu.XJ;omega) ((CT.val h1 ⟨aF,aG⟩).1) ((CT.val h2 ⟨aF,aG⟩).1)
  refine ch aX ?_
  first|exact Ai ⟨[(Oe o ((E.node C H q v1 B j).val id) ((E.node M O J L N b2).val id)),t],[],[],[]⟩ ((Ia LG.symm)) |(exfalso;omega)
 ·obtain ⟨rfl,rfl,rfl,rfl,rfl,C,H,q,v1,B,j,M,O,J,L,N,b2,k3,o3,t3,v3,s3,b3,rfl,h1,h2,h3⟩:=hv;simp only [lC,lN]at I;have e3:=n3 (x:=.node C H q v1 B j) (y:=.node M O J L N b2) (z:=.node k3 o3 t3 v3 s3 b3);have e4:=g3 (x:=.node C H q v1 B j) (y:=.node M O J L N b2) (z:=.node k3 o3 t3 v3 s3 b3)
  refine .of (t:=Ma) rfl ?_
  conv=>arg 3;reduce
  refine NZ 6 1 ?_
  refine NZ 6 3 ?_
  refine NZ 6 4 ?_
  refine NZ 6 5 ?_
  refine AL 6 6 ?_
  refine AL ln 3 ?_
  refine el (j':=0) rfl ?_
  obtain ⟨_,rfl,a5⟩:=ih 3 j C H q v1 ((E.Ab j).length:Int) 4 2 al bl 1 id wa wo wv wx V st sl sn sv sr m0 m1 m2 m3 m4 m5 m6 m7 m8 m9 X Q P Z Y U B R tg (E.Ab j) Ar Bd Sl Ev asm rfl kn
  refine ch a5 ?_
  refine el (j':=1) rfl ?_
  obtain ⟨_,rfl,aQ⟩:=ih t b2 M O J L ((E.Ab b2).length:Int) 4 2 al bl 1 id wa wo wv wx V st sl sn sv sr m0 m1 m2 m3 m4 m5 m6 m7 m8 m9 X Q P Z Y U N R tg (E.Ab b2) Ar Bd Sl Ev asm rfl kn
  refine ch aQ ?_
  refine el (j':=2) rfl ?_
  obtain ⟨_,rfl,aP⟩:=ih t b3 k3 o3 t3 v3 ((E.Ab b3).length:Int) 4 2 al bl 1 id wa wo wv wx V st sl sn sv sr m0 m1 m2 m3 m4 m5 m6 m7 m8 m9 X Q P Z Y U s3 R tg (E.Ab b3) Ar Bd Sl Ev asm rfl kn
  refine ch aP ?_
  refine ne ((E.node C H q v1 B j).val id) 0 (fun aU=>?_) fun aU=>?_
  ·first|exact Ai ⟨[((E.node M O J L N b2).val id),t],[],[],[]⟩ ((Ia (by rw [C8,if_pos asm]))) |(exfalso;omega)
  first|exact Ai ⟨[((E.node k3 o3 t3 v3 s3 b3).val id),t],[],[],[]⟩ ((Ia (by rw [C8,if_neg asm]))) |(exfalso;omega)
 ·obtain ⟨rfl,rfl,rfl,rfl,hs,C,H,q,v1,B,j,ii,rfl,r1,r2,hg,h1⟩:=hv;simp only [lC,lN]at I;have e3:=n1 (x:=.node C H q v1 B j);have e4:=g1 (x:=.node C H q v1 B j);exact hg.elim
 ·obtain ⟨rfl,rfl,rfl,rfl,rfl,C,H,q,v1,B,j,M,O,J,L,N,b2,ii,rfl,rfl,hg,h1,h2⟩:=hv;simp only [lC,lN]at I;have e3:=n2 (x:=.node C H q v1 B j) (y:=.node M O J L N b2);have e4:=g2 (x:=.node C H q v1 B j) (y:=.node M O J L N b2);exact hg.elim
 ·obtain ⟨rfl,rfl,rfl,rfl,rfl,hs,⟨r1,r2⟩,hg⟩:=hv;simp only [lC,lN]at I;have e3:E.Ad []=0:=rfl;exact (hg [] (0,0,0)).elim
 ·obtain ⟨rfl,rfl,rfl,rfl,hs,C,H,q,v1,B,j,rfl,⟨r1,r2⟩,hg,h1⟩:=hv;simp only [lC,lN]at I;have e3:=n1 (x:=.node C H q v1 B j);have e4:=g1 (x:=.node C H q v1 B j);exact (hg [] (0,0,0)).elim
theorem N9:AmZ 197:=fun t a k o ty v ln g sub al L M id wa O wv U q st sl sn sv Q Z m1 m2 m3 m4 m5 J X m8 N z C x H B j s I Y A Ar R Sl Ev P V h=>Ajv ((E.node k o ty v s a).high+1) t a k o ty v ln g sub al L M id wa O wv U q st sl sn sv Q Z m1 m2 m3 m4 m5 J X m8 N z C x H B j s I Y A Ar R Sl Ev P V ⟨h.1,h.2.1,h.2.2.1,h.2.2.2.1,h.2.2.2.2.1,h.2.2.2.2.2,Nat.lt_succ_self _⟩
end
end Go.Proofs.YtaolbokoijfhnaaGreatDoor.Am
