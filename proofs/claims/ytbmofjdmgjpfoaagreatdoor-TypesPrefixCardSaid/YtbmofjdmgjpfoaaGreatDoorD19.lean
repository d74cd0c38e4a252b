/- Part 19 of the proof of TypesPrefix. -/
import Derived.Test.YtbmofjdmgjpfoaaGreatDoorD11
import Derived.Test.YtbmofjdmgjpfoaaGreatDoorD12
import Derived.Test.YtbmofjdmgjpfoaaGreatDoorD13
import Derived.Test.YtbmofjdmgjpfoaaGreatDoorD14
import Derived.Test.YtbmofjdmgjpfoaaGreatDoorD18
set_option linter.all false
section
set_option maxHeartbeats 4000000
set_option maxRecDepth 100000
namespace Go.Proofs.YtbmofjdmgjpfoaaGreatDoor.Am
open Go.AM Go.AM.K
def Ak2 (N n:Nat):Prop:=∀(ok g:Int) (len j:Int) (g1 D:Int) (v p1:Int) (P U:Int) (g2 M:Int) (a2 x:Int) (A u X:Int) (O R:List Nat) (L y:Rs) (C k:Rs) (z J:Rs) (Q H o:Rs) (d:Mp) (Z:L=A4) (hm:d=Di j) (h:g=5∧len=5∧0≤j∧j≤5∧(5-j).toNat<n),Ok trees N ⟨[ok,g,len,j,g1,D,v,p1,P,U,g2,M,a2,x,A,u,X],[O,R],[L,y,C,k,z,J,Q,H,o],[d]⟩ fun q=>(∃(c:Mp),q=(0,(⟨[],[],[],[c]⟩:Ah))∧(c=Di 5))
def Akj (N:Nat):Prop:=∀(ok g:Int) (len j:Int) (g1 D:Int) (v p1:Int) (P U:Int) (g2 M:Int) (a2 x:Int) (A u X:Int) (O R:List Nat) (L y:Rs) (C k:Rs) (z J:Rs) (Q H o:Rs) (d:Mp) (Z:L=A4) (hm:d=Di j) (h:g=5∧len=5∧0≤j∧j≤5:=by exact kn),Ok trees N ⟨[ok,g,len,j,g1,D,v,p1,P,U,g2,M,a2,x,A,u,X],[O,R],[L,y,C,k,z,J,Q,H,o],[d]⟩ fun q=>(∃(c:Mp),q=(0,(⟨[],[],[],[c]⟩:Ah))∧(c=Di 5))
theorem AgQ (n:Nat):Ak2 106 n:=by
 induction n with
 |zero=>intro ok Z len j g1 x k p1 z P g2 N a2 o J H D O C L q v d u M A y g R Q c h;exact absurd h.2.2.2.2 (Nat.not_lt_zero _)
 |succ n ih=>
 intro ok Z len j g1 x k p1 z P g2 N a2 o J H D O C L q v d u M A y g R Q c h
 subst Q;have ⟨h1,h2,am,ak,al⟩:=h;subst h1;subst h2
 rcases (by omega:j=0∨j=1∨j=2∨j=3∨j=4∨j=5)with rfl|rfl|rfl|rfl|rfl|rfl
 ·subst c
  refine .of (t:=F3) rfl ?_
  unfold F3
  refine BD 0 5 ?_
  refine CJ 0 0 ?_
  refine BD 0 5 ?_
  refine el (j':=0) rfl ?_
  refine lm rfl ?_
  refine up [.int .i64 0,.int .i64 1,.int .i64 0] ?_
  obtain ⟨_,⟨ac,rfl,rfl⟩,G1⟩:=ih ok 5 5 (0+1) g1 x k p1 z P g2 N a2 o J H D O C A4 q v d u M A y g (Bn (Di 0) [97] [.int .i64 0,.int .i64 1,.int .i64 0]) rfl rfl kn
  refine ch G1 ?_
  exact Aj ⟨[],[],[],[(Di 5)]⟩ (⟨_,rfl,rfl⟩)
 ·subst c
  refine .of (t:=F3) rfl ?_
  unfold F3
  refine BD 1 5 ?_
  refine CJ 1 0 ?_
  refine BD 1 5 ?_
  refine el (j':=1) rfl ?_
  refine lm rfl ?_
  refine up [.int .i64 0,.int .i64 2,.int .i64 1] ?_
  obtain ⟨_,⟨U,rfl,rfl⟩,G2⟩:=ih ok 5 5 (1+1) g1 x k p1 z P g2 N a2 o J H D O C A4 q v d u M A y g (Bn (Di 1) [102] [.int .i64 0,.int .i64 2,.int .i64 1]) rfl rfl kn
  refine ch G2 ?_
  exact Aj ⟨[],[],[],[(Di 5)]⟩ (⟨_,rfl,rfl⟩)
 ·subst c
  refine .of (t:=F3) rfl ?_
  unfold F3
  refine BD 2 5 ?_
  refine CJ 2 0 ?_
  refine BD 2 5 ?_
  refine el (j':=2) rfl ?_
  refine lm rfl ?_
  refine up [.int .i64 0,.int .i64 1,.int .i64 2] ?_
  obtain ⟨_,⟨ab,rfl,rfl⟩,G3⟩:=ih ok 5 5 (2+1) g1 x k p1 z P g2 N a2 o J H D O C A4 q v d u M A y g (Bn (Di 2) [115] [.int .i64 0,.int .i64 1,.int .i64 2]) rfl rfl kn
  refine ch G3 ?_
  exact Aj ⟨[],[],[],[(Di 5)]⟩ (⟨_,rfl,rfl⟩)
 ·subst c
  refine .of (t:=F3) rfl ?_
  unfold F3
  refine BD 3 5 ?_
  refine CJ 3 0 ?_
  refine BD 3 5 ?_
  refine el (j':=3) rfl ?_
  refine lm rfl ?_
  refine up [.int .i64 0,.int .i64 1,.int .i64 3] ?_
  obtain ⟨_,⟨aa,rfl,rfl⟩,X⟩:=ih ok 5 5 (3+1) g1 x k p1 z P g2 N a2 o J H D O C A4 q v d u M A y g (Bn (Di 3) [112] [.int .i64 0,.int .i64 1,.int .i64 3]) rfl rfl kn
  refine ch X ?_
  exact Aj ⟨[],[],[],[(Di 5)]⟩ (⟨_,rfl,rfl⟩)
 ·subst c
  refine .of (t:=F3) rfl ?_
  unfold F3
  refine BD 4 5 ?_
  refine CJ 4 0 ?_
  refine BD 4 5 ?_
  refine el (j':=4) rfl ?_
  refine lm rfl ?_
  refine up [.int .i64 0,.int .i64 3,.int .i64 4] ?_
  obtain ⟨_,⟨ae,rfl,rfl⟩,G5⟩:=ih ok 5 5 (4+1) g1 x k p1 z P g2 N a2 o J H D O C A4 q v d u M A y g (Bn (Di 4) [98] [.int .i64 0,.int .i64 3,.int .i64 4]) rfl rfl kn
  refine ch G5 ?_
  exact Aj ⟨[],[],[],[(Di 5)]⟩ (⟨_,rfl,rfl⟩)
 ·subst c
  refine .of (t:=F3) rfl ?_
  unfold F3
  refine En 5 5 ?_
  exact Aj ⟨[],[],[],[(Di 5)]⟩ (⟨_,rfl,rfl⟩)
theorem Ajv:Akj 106:=fun ok D len j g1 x k p1 C U g2 Q a2 o O N M R J L q v c u P H y g d z A h=>AgQ ((5-j).toNat+1) ok D len j g1 x k p1 C U g2 Q a2 o O N M R J L q v c u P H y g d z A ⟨h.1,h.2.1,h.2.2.1,h.2.2.2,Nat.lt_succ_self _⟩
def Ak1 (N n:Nat):Prop:=∀(ok g:Int) (len j:Int) (g1 D:Int) (v p1:Int) (P U:Int) (g2 M:Int) (a2 x:Int) (A u X:Int) (O R:List Nat) (L y:Rs) (C k:Rs) (z J:Rs) (Q H o:Rs) (d:Mp) (Z:L=Au) (hm:d=EA j) (h:g=3∧len=3∧0≤j∧j≤3∧(3-j).toNat<n),Ok trees N ⟨[ok,g,len,j,g1,D,v,p1,P,U,g2,M,a2,x,A,u,X],[O,R],[L,y,C,k,z,J,Q,H,o],[d]⟩ fun q=>(∃(c:Mp),q=(0,(⟨[],[],[],[c]⟩:Ah))∧(c=EA 3))
def Aki (N:Nat):Prop:=∀(ok g:Int) (len j:Int) (g1 D:Int) (v p1:Int) (P U:Int) (g2 M:Int) (a2 x:Int) (A u X:Int) (O R:List Nat) (L y:Rs) (C k:Rs) (z J:Rs) (Q H o:Rs) (d:Mp) (Z:L=Au) (hm:d=EA j) (h:g=3∧len=3∧0≤j∧j≤3:=by exact kn),Ok trees N ⟨[ok,g,len,j,g1,D,v,p1,P,U,g2,M,a2,x,A,u,X],[O,R],[L,y,C,k,z,J,Q,H,o],[d]⟩ fun q=>(∃(c:Mp),q=(0,(⟨[],[],[],[c]⟩:Ah))∧(c=EA 3))
theorem AgP (n:Nat):Ak1 107 n:=by
 induction n with
 |zero=>intro ok X len j g1 x k p1 z P g2 N a2 o J H D O C L q v d u M A y g R Q c h;exact absurd h.2.2.2.2 (Nat.not_lt_zero _)
 |succ n ih=>
 intro ok X len j g1 x k p1 z P g2 N a2 o J H D O C L q v d u M A y g R Q c h
 subst Q;have ⟨h1,h2,ai,ag,ah⟩:=h;subst h1;subst h2
 rcases (by omega:j=0∨j=1∨j=2∨j=3)with rfl|rfl|rfl|rfl
 ·subst c
  refine .of (t:=I2) rfl ?_
  unfold I2
  refine BD 0 3 ?_
  refine CJ 0 0 ?_
  refine BD 0 3 ?_
  refine el (j':=0) rfl ?_
  refine lm rfl ?_
  refine up [.int .i64 2,.int .i64 1,.int .i64 0] ?_
  obtain ⟨_,⟨aa,rfl,rfl⟩,G1⟩:=ih ok 3 3 (0+1) g1 x k p1 z P g2 N a2 o J H D O C Au q v d u M A y g (Bn (EA 0) [110] [.int .i64 2,.int .i64 1,.int .i64 0]) rfl rfl kn
  refine ch G1 ?_
  exact Aj ⟨[],[],[],[(EA 3)]⟩ (⟨_,rfl,rfl⟩)
 ·subst c
  refine .of (t:=I2) rfl ?_
  unfold I2
  refine BD 1 3 ?_
  refine CJ 1 0 ?_
  refine BD 1 3 ?_
  refine el (j':=1) rfl ?_
  refine lm rfl ?_
  refine up [.int .i64 2,.int .i64 2,.int .i64 0] ?_
  obtain ⟨_,⟨U,rfl,rfl⟩,G2⟩:=ih ok 3 3 (1+1) g1 x k p1 z P g2 N a2 o J H D O C Au q v d u M A y g (Bn (EA 1) [116] [.int .i64 2,.int .i64 2,.int .i64 0]) rfl rfl kn
  refine ch G2 ?_
  exact Aj ⟨[],[],[],[(EA 3)]⟩ (⟨_,rfl,rfl⟩)
 ·subst c
  refine .of (t:=I2) rfl ?_
  unfold I2
  refine BD 2 3 ?_
  refine CJ 2 0 ?_
  refine BD 2 3 ?_
  refine el (j':=2) rfl ?_
  refine lm rfl ?_
  refine up [.int .i64 2,.int .i64 3,.int .i64 0] ?_
  obtain ⟨_,⟨Z,rfl,rfl⟩,G3⟩:=ih ok 3 3 (2+1) g1 x k p1 z P g2 N a2 o J H D O C Au q v d u M A y g (Bn (EA 2) [99] [.int .i64 2,.int .i64 3,.int .i64 0]) rfl rfl kn
  refine ch G3 ?_
  exact Aj ⟨[],[],[],[(EA 3)]⟩ (⟨_,rfl,rfl⟩)
 ·subst c
  refine .of (t:=I2) rfl ?_
  unfold I2
  refine En 3 3 ?_
  exact Aj ⟨[],[],[],[(EA 3)]⟩ (⟨_,rfl,rfl⟩)
theorem Aju:Aki 107:=fun ok D len j g1 x k p1 C U g2 Q a2 o O N M R J L q v c u P H y g d z A h=>AgP ((3-j).toNat+1) ok D len j g1 x k p1 C U g2 Q a2 o O N M R J L q v c u P H y g d z A ⟨h.1,h.2.1,h.2.2.1,h.2.2.2,Nat.lt_succ_self _⟩
def Ak0 (N n:Nat):Prop:=∀(ok d:Int) (len j:Int) (g2 H:Int) (a2 x:Int) (z v O:Int) (M:List Nat) (L D:Rs) (J C q:Rs) (g:Mp) (P:L=[]∨∃F k o y w s A,L=[hrow AH F k o y s w A]) (Q:(j=0∧g=EA 3)∨(j=1∧g=LN)) (h:d=L.length∧len=d∧0≤j∧j≤d∧(d-j).toNat<n),Ok trees N ⟨[ok,d,len,j,g2,H,a2,x,z,v,O],[M],[L,D,J,C,q],[g]⟩ fun u=>(∃(c:Mp),u=(0,(⟨[],[],[],[c]⟩:Ah))∧((L=[]∧c=EA 3)∨(L≠[]∧c=LN)))
def Akh (N:Nat):Prop:=∀(ok d:Int) (len j:Int) (g2 H:Int) (a2 x:Int) (z v O:Int) (M:List Nat) (L D:Rs) (J C q:Rs) (g:Mp) (P:L=[]∨∃F k o y w s A,L=[hrow AH F k o y s w A]) (Q:(j=0∧g=EA 3)∨(j=1∧g=LN)) (h:d=L.length∧len=d∧0≤j∧j≤d:=by exact kn),Ok trees N ⟨[ok,d,len,j,g2,H,a2,x,z,v,O],[M],[L,D,J,C,q],[g]⟩ fun u=>(∃(c:Mp),u=(0,(⟨[],[],[],[c]⟩:Ah))∧((L=[]∧c=EA 3)∨(L≠[]∧c=LN)))
theorem AgO (n:Nat):Ak0 108 n:=by
 induction n with
 |zero=>intro ok P len j g2 M a2 g H D C z L J x q d N u v h;exact absurd h.2.2.2.2 (Nat.not_lt_zero _)
 |succ n ih=>
 intro ok P len j g2 M a2 g H D C z L J x q d N u v h
 rcases u with rfl|⟨F,k,o,y,w,s,A,rfl⟩<;>simp only [lC,lN]at h<;>rcases v with ⟨rfl,rfl⟩|⟨rfl,rfl⟩
 ·obtain ⟨rfl,rfl,_⟩:=h
  refine .of (t:=Ld) rfl ?_
  unfold Ld
  refine En 0 0 ?_
  exact Aj ⟨[],[],[],[(EA 3)]⟩ (⟨_,rfl,(by first|exact .inl ⟨rfl,rfl⟩|exact .inr ⟨by simp,rfl⟩|assumption)⟩)
 ·exfalso;omega
 ·obtain ⟨rfl,rfl,_⟩:=h
  refine .of (t:=Ld) rfl ?_
  unfold Ld
  refine BD 0 1 ?_
  refine CJ 0 0 ?_
  refine BD 0 1 ?_
  refine el (j':=0) rfl ?_
  refine lm rfl ?_
  refine up [.int .i64 1,.int .i64 1,.int .i64 0] ?_
  obtain ⟨_,⟨c,rfl,O⟩,Q⟩:=ih ok 1 1 (0+1) g2 M a2 g H D C z [hrow AH F k o y s w A] J x q d (Bn (EA 3) [104] [.int .i64 1,.int .i64 1,.int .i64 0]) (.inr ⟨_,_,_,_,_,_,_,rfl⟩) (.inr ⟨rfl,rfl⟩) kn
  refine ch Q ?_
  exact Aj ⟨[],[],[],[c]⟩ (⟨_,rfl,(by first|exact .inl ⟨rfl,rfl⟩|exact .inr ⟨by simp,rfl⟩|assumption)⟩)
 ·obtain ⟨rfl,rfl,_⟩:=h
  refine .of (t:=Ld) rfl ?_
  unfold Ld
  refine En 1 1 ?_
  exact Aj ⟨[],[],[],[LN]⟩ (⟨_,rfl,(by first|exact .inl ⟨rfl,rfl⟩|exact .inr ⟨by simp,rfl⟩|assumption)⟩)
theorem Ajt:Akh 108:=fun ok c len j g2 D a2 k A z y x L C v o g d q u h=>AgO ((c-j).toNat+1) ok c len j g2 D a2 k A z y x L C v o g d q u ⟨h.1,h.2.1,h.2.2.1,h.2.2.2,Nat.lt_succ_self _⟩
def Akk (N:Nat):Prop:=∀(g sub:Int) (q pl:Int) (fl v:Int) (j:List Nat) (u P:Rs) (c R:Rs) (z:u=A4) (C:P=Au) (D:c=[]∨∃F k o y w s A,c=[hrow AH F k o y s w A]) (h:q=5∧pl=3∧fl=c.length:=by exact kn),Ok trees N ⟨[g,sub,q,pl,fl,v],[j],[u,P,c,R],[]⟩ fun x=>(∃(d:Mp),x=(0,(⟨[g,sub,q,pl,fl,v],[j],[u,P,c,R],[d]⟩:Ah))∧((c=[]∧d=EA 3)∨(c≠[]∧d=LN)))
theorem Aed:Akk 105:=by
 intro g sub H pl fl j c J P d R o y A h
 subst o;subst y;obtain ⟨rfl,rfl,D⟩:=h
 refine .of (t:=Wb) rfl ?_
 unfold Wb
 refine md [] ?_
 obtain ⟨_,⟨C,rfl,rfl⟩,x⟩:=Ajv 1 5 5 0 g sub 5 3 fl j g sub 5 3 fl j 0 c c A4 A4 Au d R A4 Au d R [] rfl rfl
 refine ch x ?_
 obtain ⟨_,⟨v,rfl,rfl⟩,u⟩:=Aju 1 3 3 0 g sub 5 3 fl j g sub 5 3 fl j 0 c c Au A4 Au d R A4 Au d R (Di 5) rfl rfl
 refine ch u ?_
 obtain ⟨_,⟨k,rfl,q⟩,z⟩:=Ajt 1 fl fl 0 g sub 5 3 fl j 0 c d A4 Au d R (EA 3) A (.inl ⟨rfl,rfl⟩)
 refine ch z ?_
 exact Aj ⟨[g,sub,5,3,fl,j],[c],[A4,Au,d,R],[k]⟩ (⟨_,rfl,‹_›⟩)
def Ak3 (N n:Nat):Prop:=∀(c len j:Int) (L:Rs) (g:L=A4) (h:c=5∧len=5∧0≤j∧j≤5∧(5-j).toNat<n),Ok trees N ⟨[c,len,j],[],[L],[]⟩ fun d=>(d=(1,v0))
def Akl (N:Nat):Prop:=∀(c len j:Int) (L:Rs) (g:L=A4) (h:c=5∧len=5∧0≤j∧j≤5:=by exact kn),Ok trees N ⟨[c,len,j],[],[L],[]⟩ fun d=>(d=(1,v0))
theorem AgR (n:Nat):Ak3 104 n:=by
 induction n with
 |zero=>intro x len j L k h;exact absurd h.2.2.2.2 (Nat.not_lt_zero _)
 |succ n ih=>
 intro x len j L k h
 subst k;have ⟨v,u,z,A,y⟩:=h;subst v;subst u
 rcases (by omega:j=0∨j=1∨j=2∨j=3∨j=4∨j=5)with rfl|rfl|rfl|rfl|rfl|rfl
 ·refine .of (t:=F4) rfl ?_
  unfold F4
  refine BD 0 5 ?_
  refine CJ 0 0 ?_
  refine BD 0 5 ?_
  refine el (j':=0) rfl ?_
  refine En 8 1 ?_
  refine SJ 8 4096 ?_
  obtain ⟨_,rfl,d⟩:=ih 5 5 (0+1) A4 rfl kn
  refine cm d ?_
  refine ch d ?_
  exact Aj v0 (rfl)
 ·refine .of (t:=F4) rfl ?_
  unfold F4
  refine BD 1 5 ?_
  refine CJ 1 0 ?_
  refine BD 1 5 ?_
  refine el (j':=1) rfl ?_
  refine En 4 1 ?_
  refine SJ 4 4096 ?_
  obtain ⟨_,rfl,c⟩:=ih 5 5 (1+1) A4 rfl kn
  refine cm c ?_
  refine ch c ?_
  exact Aj v0 (rfl)
 ·refine .of (t:=F4) rfl ?_
  unfold F4
  refine BD 2 5 ?_
  refine CJ 2 0 ?_
  refine BD 2 5 ?_
  refine el (j':=2) rfl ?_
  refine En 8 1 ?_
  refine SJ 8 4096 ?_
  obtain ⟨_,rfl,g⟩:=ih 5 5 (2+1) A4 rfl kn
  refine cm g ?_
  refine ch g ?_
  exact Aj v0 (rfl)
 ·refine .of (t:=F4) rfl ?_
  unfold F4
  refine BD 3 5 ?_
  refine CJ 3 0 ?_
  refine BD 3 5 ?_
  refine el (j':=3) rfl ?_
  refine En 4 1 ?_
  refine SJ 4 4096 ?_
  obtain ⟨_,rfl,o⟩:=ih 5 5 (3+1) A4 rfl kn
  refine cm o ?_
  refine ch o ?_
  exact Aj v0 (rfl)
 ·refine .of (t:=F4) rfl ?_
  unfold F4
  refine BD 4 5 ?_
  refine CJ 4 0 ?_
  refine BD 4 5 ?_
  refine el (j':=4) rfl ?_
  refine En 4 1 ?_
  refine SJ 4 4096 ?_
  obtain ⟨_,rfl,q⟩:=ih 5 5 (4+1) A4 rfl kn
  refine cm q ?_
  refine ch q ?_
  exact Aj v0 (rfl)
 ·refine .of (t:=F4) rfl ?_
  unfold F4
  refine En 5 5 ?_
  exact Aj v0 (rfl)
theorem Xr:Akl 104:=fun d len j L c h=>AgR ((5-j).toNat+1) d len j L c ⟨h.1,h.2.1,h.2.2.1,h.2.2.2,Nat.lt_succ_self _⟩
end Go.Proofs.YtbmofjdmgjpfoaaGreatDoor.Am
end
section
set_option maxHeartbeats 4000000
set_option maxRecDepth 100000
namespace Go.Proofs.YtbmofjdmgjpfoaaGreatDoor.Am
open Go.AM Go.AM.K
def Akm (N:Nat):Prop:=∀(g sub:Int) (j pl:Int) (fl q:Int) (d:List Nat) (c P:Rs) (k R:Rs) (u:c=A4) (hs:Cz g sub) (h:j=5∧(g=4∨g=1∨g=2∨g=8∨g=6):=by exact kn),Ok trees N ⟨[g,sub,j,pl,fl,q],[d],[c,P,k,R],[]⟩ fun o=>(o=(1,v0))
theorem Aee:Akm 103:=by
 intro g sub Z pl fl rl U Ar P Fs R j hs h
 subst j;obtain ⟨rfl,hg⟩:=h;obtain ⟨u,X⟩:=hs
 rcases u with rfl|rfl|rfl|rfl
 ·refine .of (t:=I3) rfl ?_
  unfold I3
  refine lt g 1 (fun M=>?_) fun M=>?_
  ·exact dead
  refine gt g 256 (fun N=>?_) fun N=>?_
  ·exact dead
  refine En 1 1 ?_
  refine SJ 1 32 ?_
  refine BY 0 0 ?_ (by decide) (Adt (x:=1) (y:=(1-1)) dn dn (by decide))
  refine AQ 1 0 ?_
  refine ne (g%1) 0 (fun J=>?_) fun J=>?_
  ·exact dead
  obtain ⟨_,rfl,o⟩:=Xr 5 5 0 A4 rfl
  refine cm o ?_
  refine ch o ?_
  exact Aj v0 (rfl)
 ·refine .of (t:=I3) rfl ?_
  unfold I3
  refine lt g 1 (fun O=>?_) fun O=>?_
  ·exact dead
  refine gt g 256 (fun H=>?_) fun H=>?_
  ·exact dead
  refine En 2 1 ?_
  refine SJ 2 32 ?_
  refine BY 0 0 ?_ (by decide) (Adt (x:=2) (y:=(2-1)) dn dn (by decide))
  refine AQ 2 0 ?_
  refine ne (g%2) 0 (fun Q=>?_) fun Q=>?_
  ·exact dead
  obtain ⟨_,rfl,C⟩:=Xr 5 5 0 A4 rfl
  refine cm C ?_
  refine ch C ?_
  exact Aj v0 (rfl)
 ·refine .of (t:=I3) rfl ?_
  unfold I3
  refine lt g 1 (fun D=>?_) fun D=>?_
  ·exact dead
  refine gt g 256 (fun A=>?_) fun A=>?_
  ·exact dead
  refine En 4 1 ?_
  refine SJ 4 32 ?_
  refine BY 0 0 ?_ (by decide) (Adt (x:=4) (y:=(4-1)) dn dn (by decide))
  refine AQ 4 0 ?_
  refine ne (g%4) 0 (fun v=>?_) fun v=>?_
  ·exact dead
  obtain ⟨_,rfl,d⟩:=Xr 5 5 0 A4 rfl
  refine cm d ?_
  refine ch d ?_
  exact Aj v0 (rfl)
 ·refine .of (t:=I3) rfl ?_
  unfold I3
  refine lt g 1 (fun q=>?_) fun q=>?_
  ·exact dead
  refine gt g 256 (fun k=>?_) fun k=>?_
  ·exact dead
  refine En 8 1 ?_
  refine SJ 8 32 ?_
  refine BY 0 0 ?_ (by decide) (Adt (x:=8) (y:=(8-1)) dn dn (by decide))
  refine AQ 8 0 ?_
  refine ne (g%8) 0 (fun z=>?_) fun z=>?_
  ·exact dead
  obtain ⟨_,rfl,c⟩:=Xr 5 5 0 A4 rfl
  refine cm c ?_
  refine ch c ?_
  exact Aj v0 (rfl)
def Akz (N n:Nat):Prop:=∀(k c:Int) (j g:Int) (sub q:Int) (pl fl:Int) (Q g2:Int) (J a2:Int) (A C:Int) (z U:Int) (o O:List Nat) (u P:Rs) (d R:Rs) (H M:Rs) (D x:Rs) (v:Mp) (X:u=A4) (Z:GR d) (h:(j=0∨j=1)∧k=0∧c=d.length∧fl=c∧j≤c∧q=5∧(c-j).toNat<n),Ok trees N ⟨[k,c,j,g,sub,q,pl,fl,Q,g2,J,a2,A,C,z,U],[o,O],[u,P,d,R,H,M,D,x],[v]⟩ fun y=>(y=(0,(⟨[0],[],[],[]⟩:Ah)))
def Akg (N:Nat):Prop:=∀(k c:Int) (j g:Int) (sub q:Int) (pl fl:Int) (Q g2:Int) (J a2:Int) (A C:Int) (z U:Int) (o O:List Nat) (u P:Rs) (d R:Rs) (H M:Rs) (D x:Rs) (v:Mp) (X:u=A4) (Z:GR d) (h:(j=0∨j=1)∧k=0∧c=d.length∧fl=c∧j≤c∧q=5:=by exact kn),Ok trees N ⟨[k,c,j,g,sub,q,pl,fl,Q,g2,J,a2,A,C,z,U],[o,O],[u,P,d,R,H,M,D,x],[v]⟩ fun y=>(y=(0,(⟨[0],[],[],[]⟩:Ah)))
theorem AgN (n:Nat):Akz 109 n:=by
 induction n with
 |zero=>intro X nf j g sub Z pl fl o g2 U a2 v J H C d A k P Fs R O z y u q c x h;exact absurd h.2.2.2.2.2.2 (Nat.not_lt_zero _)
 |succ n ih=>
 intro X nf j g sub Z pl fl o g2 U a2 v J H C d A k P Fs R O z y u q c x h
 rcases x with rfl|⟨fb,fa,Γe,rk,ro,ry,rw,rs,rfl,hO,hT,hd,hn,hrn,hrh⟩<;>simp only [lC,lN]at h<;>rcases h.1 with rfl|rfl
 ·obtain ⟨_,rfl,rfl,rfl,_,rfl,_⟩:=h;skip
  refine .of (t:=Lc) rfl ?_
  unfold Lc
  refine En 0 0 ?_
  exact Aj ⟨[0],[],[],[]⟩ (rfl)
 ·exfalso;omega
 ·obtain ⟨_,rfl,rfl,rfl,_,rfl,_⟩:=h;have Q:(AH.length:Int)=2:=rfl;have M:=S.len fb;have N:=S.A7 fb;have D:=E.A7 fa;have hk:=hT.kind
  refine .of (t:=Lc) rfl ?_
  unfold Lc
  refine BD 0 1 ?_
  refine BI 0 0 ?_
  obtain ⟨_,rfl,G1⟩:=Ajs g sub 5 pl 1 o 0 d k P [hrow AH (S.Ab fb) rk ro ry rs rw (E.Ab fa)] R c rfl hO hT
  refine ch G1 ?_
  obtain ⟨_,rfl,G2⟩:=ih 0 1 (0+1) g sub 5 pl 1 o g2 U a2 v J H C d A k P [hrow AH (S.Ab fb) rk ro ry rs rw (E.Ab fa)] R O z y u q c (.inr ⟨_,_,_,_,_,_,_,_,rfl,hO,hT,hd,hn,hrn,hrh⟩) kn
  refine ch G2 ?_
  exact Aj ⟨[0],[],[],[]⟩ (rfl)
 ·obtain ⟨_,rfl,rfl,rfl,_,rfl,_⟩:=h;have Q:(AH.length:Int)=2:=rfl;have M:=S.len fb;have N:=S.A7 fb;have D:=E.A7 fa;have hk:=hT.kind
  refine .of (t:=Lc) rfl ?_
  unfold Lc
  refine En 1 1 ?_
  exact Aj ⟨[0],[],[],[]⟩ (rfl)
theorem Aec:Akg 109:=fun o d j g sub y pl fl U g2 Q a2 v N M H k D A P J R O C z u q c x h=>AgN ((d-j).toNat+1) o d j g sub y pl fl U g2 Q a2 v N M H k D A P J R O C z u q c x ⟨h.1,h.2.1,h.2.2.1,h.2.2.2.1,h.2.2.2.2.1,h.2.2.2.2.2,Nat.lt_succ_self _⟩
def Ano (N n:Nat):Prop:=∀(d len:Int) (j g:Int) (sub u:Int) (pl fl:Int) (x k:Int) (o:List Nat) (L v:Rs) (P y R:Rs) (z:GR L) (h:(j=0∨j=1)∧d=L.length∧len=d∧j≤d∧0≤k∧k+180*(1-j)≤180∧(d-j).toNat<n),Ok trees N ⟨[d,len,j,g,sub,u,pl,fl,x,k],[o],[L,v,P,y,R],[]⟩ fun q=>(∃(c:Int),q=(0,(⟨[c],[],[],[]⟩:Ah))∧(0≤c)∧(c≤180))
def AmQ (N:Nat):Prop:=∀(d len:Int) (j g:Int) (sub u:Int) (pl fl:Int) (x k:Int) (o:List Nat) (L v:Rs) (P y R:Rs) (z:GR L) (h:(j=0∨j=1)∧d=L.length∧len=d∧j≤d∧0≤k∧k+180*(1-j)≤180:=by exact kn),Ok trees N ⟨[d,len,j,g,sub,u,pl,fl,x,k],[o],[L,v,P,y,R],[]⟩ fun q=>(∃(c:Int),q=(0,(⟨[c],[],[],[]⟩:Ah))∧(0≤c)∧(c≤180))
theorem Alc (n:Nat):Ano 51 n:=by
 induction n with
 |zero=>intro Q len j g sub y pl fl J c k L z P M R x h;exact absurd h.2.2.2.2.2.2 (Nat.not_lt_zero _)
 |succ n ih=>
 intro Q len j g sub y pl fl J c k L z P M R x h
 rcases x with rfl|⟨fb,fa,Γe,rk,ro,ry,rw,rs,rfl,hO,hT,hd,hn,hrn,hrh⟩<;>simp only [lC,lN]at h<;>rcases h.1 with rfl|rfl
 ·obtain ⟨_,rfl,rfl,_,o,d,_⟩:=h;skip
  refine .of (t:=RN) rfl ?_
  unfold RN
  refine En 0 0 ?_
  exact Aj ⟨[c],[],[],[]⟩ (⟨_,rfl,kn,kn⟩)
 ·exfalso;omega
 ·obtain ⟨_,rfl,rfl,_,o,d,_⟩:=h;have H:(AH.length:Int)=2:=rfl;have C:=S.len fb;have D:=S.A7 fb;have A:=E.A7 fa;have O:=hT.kind
  refine .of (t:=RN) rfl ?_
  unfold RN
  refine BD 0 1 ?_
  refine CJ 0 0 ?_
  refine BD 0 1 ?_
  refine el (j':=0) rfl ?_
  refine SJ (AH.length:Int) 8 ?_
  obtain ⟨_,⟨u,rfl,N⟩,G1⟩:=AiU ((S.Ab fb).length:Int) 1 c (S.Ab fb) hO.pl rfl
  refine ch G1 ?_
  obtain ⟨_,⟨v,rfl,ac⟩,Z⟩:=AiT rk ro ry rw ((E.Ab fa).length:Int) 1 u rs (E.Ab fa) hT rfl
  refine ch Z ?_
  obtain ⟨_,⟨q,rfl,X,U⟩,G3⟩:=ih 1 1 (0+1) g sub y pl fl J v k [hrow AH (S.Ab fb) rk ro ry rs rw (E.Ab fa)] z P M R (.inr ⟨_,_,_,_,_,_,_,_,rfl,hO,hT,hd,hn,hrn,hrh⟩) kn
  refine ch G3 ?_
  exact Aj ⟨[q],[],[],[]⟩ (⟨_,rfl,kn,kn⟩)
 ·obtain ⟨_,rfl,rfl,_,o,d,_⟩:=h;have H:(AH.length:Int)=2:=rfl;have C:=S.len fb;have D:=S.A7 fb;have A:=E.A7 fa;have O:=hT.kind
  refine .of (t:=RN) rfl ?_
  unfold RN
  refine En 1 1 ?_
  exact Aj ⟨[c],[],[],[]⟩ (⟨_,rfl,kn,kn⟩)
theorem AlK:AmQ 51:=fun c len j g sub x pl fl v u d L k P o R q h=>Alc ((c-j).toNat+1) c len j g sub x pl fl v u d L k P o R q ⟨h.1,h.2.1,h.2.2.1,h.2.2.2.1,h.2.2.2.2.1,h.2.2.2.2.2,Nat.lt_succ_self _⟩
def AmR (N:Nat):Prop:=∀{l:List S} (g sub:Int) (k pl:Int) (fl d:Int) (j:List Nat) (o P:Rs) (c R:Rs) (x:GR c) (v:R=S.Ab l) (u:PL l) (h:k=5∧pl=3∧fl=c.length∧fl≤1∧d=R.length∧S.Ae l≤1600∧S.Ax l≤10:=by exact kn),Ok trees N ⟨[g,sub,k,pl,fl,d],[j],[o,P,c,R],[]⟩ fun q=>(q=(0,v0))
theorem AlL:AmR 50:=by
 intro l g sub o pl fl q k D P u R z v j h
 subst v;have M:=S.len l;have N:=S.A7 l
 refine .of (t:=Ac6) rfl ?_
 unfold Ac6
 refine SJ o 8 ?_
 refine SJ pl 8 ?_
 refine SJ fl 8 ?_
 obtain ⟨_,⟨c,rfl,x,C⟩,A⟩:=AlK fl fl 0 g sub o pl fl q 0 k u D P u (S.Ab l) z
 refine ch A ?_
 obtain ⟨_,⟨d,rfl,H⟩,y⟩:=AiU q 1 c (S.Ab l) j rfl
 refine ch y ?_
 refine le d 2000 (fun J=>?_) fun J=>?_
 ·exact Aj v0 (rfl)
 exact dead
end Go.Proofs.YtbmofjdmgjpfoaaGreatDoor.Am
end
section
set_option maxHeartbeats 40000000
set_option maxRecDepth 100000
namespace Go.Proofs.YtbmofjdmgjpfoaaGreatDoor.Am
open Go.AM Go.AM.K
def Ang (N n:Nat):Prop:=∀(q len:Int) (j g:Int) (sub u:Int) (pl fl:Int) (x d:Int) (o:List Nat) (L v:Rs) (P y R:Rs) (z:L=A4) (h:q=5∧len=5∧0≤j∧j≤5∧0≤d∧d+200*(5-j)≤900000∧(5-j).toNat<n),Ok trees N ⟨[q,len,j,g,sub,u,pl,fl,x,d],[o],[L,v,P,y,R],[]⟩ fun k=>(k=(0,v0))∨(∃(c:Int),k=(1,(⟨[c],[],[],[]⟩:Ah))∧(c≤d+200*(5-j))∧(d≤c))
def Am9 (N:Nat):Prop:=∀(q len:Int) (j g:Int) (sub u:Int) (pl fl:Int) (x d:Int) (o:List Nat) (L v:Rs) (P y R:Rs) (z:L=A4) (h:q=5∧len=5∧0≤j∧j≤5∧0≤d∧d+200*(5-j)≤900000:=by exact kn),Ok trees N ⟨[q,len,j,g,sub,u,pl,fl,x,d],[o],[L,v,P,y,R],[]⟩ fun k=>(k=(0,v0))∨(∃(c:Int),k=(1,(⟨[c],[],[],[]⟩:Ah))∧(c≤d+200*(5-j))∧(d≤c))
theorem AkT (n:Nat):Ang 78 n:=by
 induction n with
 |zero=>intro ln len j g sub k pl fl q c d L o P u R N h;exact absurd h.2.2.2.2.2.2 (Nat.not_lt_zero _)
 |succ n ih=>
 intro ln len j g sub k pl fl q c d L o P u R N h
 subst N;have ⟨h1,h2,av,ao,au,ap,aq⟩:=h;subst h1;subst h2
 rcases (by omega:j=0∨j=1∨j=2∨j=3∨j=4∨j=5)with rfl|rfl|rfl|rfl|rfl|rfl
 ·refine .of (t:=Jy) rfl ?_
  unfold Jy
  refine BD 0 5 ?_
  refine CJ 0 0 ?_
  refine BD 0 5 ?_
  refine el (j':=0) rfl ?_
  refine En (1-1) 0 ?_
  refine Jc (1-1) 3 ?_
  refine BI (1-1) 0 ?_
  refine bu c ?_
  refine bu (c+6) ?_
  refine nv ⟨[5,5,0,g,sub,k,pl,fl,q,c,1,1,8,(c+6),((c+6)+1)],[d,[97]],[A4,o,P,u,R],[]⟩ ?_
  obtain ⟨_,rfl,G1⟩:=FR [97] (by decide)
  refine ch G1 ?_
  refine sl [97] ?_
  refine bu ((c+6)+1) ?_
  refine bu (((c+6)+1)+64) ?_
  refine nv ⟨[5,5,0,g,sub,k,pl,fl,q,c,1,1,8,(c+6),((c+6)+1),([97].length:Int),(((c+6)+1)+64),((((c+6)+1)+64)+1)],[d,[97]],[A4,o,P,u,R],[]⟩ ?_
  refine En (1-1) 0 ?_
  refine Jc (1-1) 3 ?_
  refine BI (1-1) 0 ?_
  refine bu ((((c+6)+1)+64)+1) ?_
  refine CJ 8 (-9223372036854775808) ?_
  refine FA 8 9223372036854775807 ?_
  refine bu (((((c+6)+1)+64)+1)+3) ?_
  refine nv ⟨[5,5,0,g,sub,k,pl,fl,q,c,1,1,8,(c+6),((c+6)+1),([97].length:Int),(((c+6)+1)+64),((((c+6)+1)+64)+1),(((((c+6)+1)+64)+1)+3),((((((c+6)+1)+64)+1)+3)+1)],[d,[97]],[A4,o,P,u,R],[]⟩ ?_
  refine bu ((((((c+6)+1)+64)+1)+3)+1) ?_
  refine bu (((((((c+6)+1)+64)+1)+3)+1)+21) ?_
  refine nv ⟨[5,5,0,g,sub,k,pl,fl,q,c,1,1,8,(c+6),((c+6)+1),([97].length:Int),(((c+6)+1)+64),((((c+6)+1)+64)+1),(((((c+6)+1)+64)+1)+3),((((((c+6)+1)+64)+1)+3)+1),(((((((c+6)+1)+64)+1)+3)+1)+21),((((((((c+6)+1)+64)+1)+3)+1)+21)+1)],[d,[97]],[A4,o,P,u,R],[]⟩ ?_
  obtain ⟨_,(rfl|⟨y,rfl,ab,ad⟩),H⟩:=ih 5 5 (0+1) g sub k pl fl q ((((((((c+6)+1)+64)+1)+3)+1)+21)+1) d A4 o P u R rfl kn
  ·refine ch H ?_
   exact Aj ⟨[((((((((c+6)+1)+64)+1)+3)+1)+21)+1)],[],[],[]⟩ (.inr ((⟨_,rfl,kn,kn⟩)))
  refine cm H ?_
  refine ch H ?_
  exact Aj ⟨[y],[],[],[]⟩ (.inr ((⟨_,rfl,kn,kn⟩)))
 ·refine .of (t:=Jy) rfl ?_
  unfold Jy
  refine BD 1 5 ?_
  refine CJ 1 0 ?_
  refine BD 1 5 ?_
  refine el (j':=1) rfl ?_
  refine En (1-1) 0 ?_
  refine Jc (1-1) 3 ?_
  refine BI (1-1) 0 ?_
  refine bu c ?_
  refine bu (c+6) ?_
  refine nv ⟨[5,5,1,g,sub,k,pl,fl,q,c,1,2,4,(c+6),((c+6)+1)],[d,[102]],[A4,o,P,u,R],[]⟩ ?_
  obtain ⟨_,rfl,G3⟩:=FR [102] (by decide)
  refine ch G3 ?_
  refine sl [102] ?_
  refine bu ((c+6)+1) ?_
  refine bu (((c+6)+1)+64) ?_
  refine nv ⟨[5,5,1,g,sub,k,pl,fl,q,c,1,2,4,(c+6),((c+6)+1),([102].length:Int),(((c+6)+1)+64),((((c+6)+1)+64)+1)],[d,[102]],[A4,o,P,u,R],[]⟩ ?_
  refine En (2-1) 0 ?_
  refine Jc (2-1) 3 ?_
  refine AQ (2-1) 0 ?_
  refine BI (2-1) 1 ?_
  refine bu ((((c+6)+1)+64)+1) ?_
  refine CJ 4 (-9223372036854775808) ?_
  refine FA 4 9223372036854775807 ?_
  refine bu (((((c+6)+1)+64)+1)+3) ?_
  refine nv ⟨[5,5,1,g,sub,k,pl,fl,q,c,1,2,4,(c+6),((c+6)+1),([102].length:Int),(((c+6)+1)+64),((((c+6)+1)+64)+1),(((((c+6)+1)+64)+1)+3),((((((c+6)+1)+64)+1)+3)+1)],[d,[102]],[A4,o,P,u,R],[]⟩ ?_
  refine bu ((((((c+6)+1)+64)+1)+3)+1) ?_
  refine bu (((((((c+6)+1)+64)+1)+3)+1)+21) ?_
  refine nv ⟨[5,5,1,g,sub,k,pl,fl,q,c,1,2,4,(c+6),((c+6)+1),([102].length:Int),(((c+6)+1)+64),((((c+6)+1)+64)+1),(((((c+6)+1)+64)+1)+3),((((((c+6)+1)+64)+1)+3)+1),(((((((c+6)+1)+64)+1)+3)+1)+21),((((((((c+6)+1)+64)+1)+3)+1)+21)+1)],[d,[102]],[A4,o,P,u,R],[]⟩ ?_
  obtain ⟨_,(rfl|⟨C,rfl,aa,X⟩),D⟩:=ih 5 5 (1+1) g sub k pl fl q ((((((((c+6)+1)+64)+1)+3)+1)+21)+1) d A4 o P u R rfl kn
  ·refine ch D ?_
   exact Aj ⟨[((((((((c+6)+1)+64)+1)+3)+1)+21)+1)],[],[],[]⟩ (.inr ((⟨_,rfl,kn,kn⟩)))
  refine cm D ?_
  refine ch D ?_
  exact Aj ⟨[C],[],[],[]⟩ (.inr ((⟨_,rfl,kn,kn⟩)))
 ·refine .of (t:=Jy) rfl ?_
  unfold Jy
  refine BD 2 5 ?_
  refine CJ 2 0 ?_
  refine BD 2 5 ?_
  refine el (j':=2) rfl ?_
  refine En (2-1) 0 ?_
  refine Jc (2-1) 3 ?_
  refine AQ (2-1) 0 ?_
  refine BI (2-1) 1 ?_
  refine bu c ?_
  refine bu (c+6) ?_
  refine nv ⟨[5,5,2,g,sub,k,pl,fl,q,c,2,1,8,(c+6),((c+6)+1)],[d,[115]],[A4,o,P,u,R],[]⟩ ?_
  obtain ⟨_,rfl,G5⟩:=FR [115] (by decide)
  refine ch G5 ?_
  refine sl [115] ?_
  refine bu ((c+6)+1) ?_
  refine bu (((c+6)+1)+64) ?_
  refine nv ⟨[5,5,2,g,sub,k,pl,fl,q,c,2,1,8,(c+6),((c+6)+1),([115].length:Int),(((c+6)+1)+64),((((c+6)+1)+64)+1)],[d,[115]],[A4,o,P,u,R],[]⟩ ?_
  refine En (1-1) 0 ?_
  refine Jc (1-1) 3 ?_
  refine BI (1-1) 0 ?_
  refine bu ((((c+6)+1)+64)+1) ?_
  refine CJ 8 (-9223372036854775808) ?_
  refine FA 8 9223372036854775807 ?_
  refine bu (((((c+6)+1)+64)+1)+3) ?_
  refine nv ⟨[5,5,2,g,sub,k,pl,fl,q,c,2,1,8,(c+6),((c+6)+1),([115].length:Int),(((c+6)+1)+64),((((c+6)+1)+64)+1),(((((c+6)+1)+64)+1)+3),((((((c+6)+1)+64)+1)+3)+1)],[d,[115]],[A4,o,P,u,R],[]⟩ ?_
  refine bu ((((((c+6)+1)+64)+1)+3)+1) ?_
  refine bu (((((((c+6)+1)+64)+1)+3)+1)+21) ?_
  refine nv ⟨[5,5,2,g,sub,k,pl,fl,q,c,2,1,8,(c+6),((c+6)+1),([115].length:Int),(((c+6)+1)+64),((((c+6)+1)+64)+1),(((((c+6)+1)+64)+1)+3),((((((c+6)+1)+64)+1)+3)+1),(((((((c+6)+1)+64)+1)+3)+1)+21),((((((((c+6)+1)+64)+1)+3)+1)+21)+1)],[d,[115]],[A4,o,P,u,R],[]⟩ ?_
  obtain ⟨_,(rfl|⟨z,rfl,U,Z⟩),J⟩:=ih 5 5 (2+1) g sub k pl fl q ((((((((c+6)+1)+64)+1)+3)+1)+21)+1) d A4 o P u R rfl kn
  ·refine ch J ?_
   exact Aj ⟨[((((((((c+6)+1)+64)+1)+3)+1)+21)+1)],[],[],[]⟩ (.inr ((⟨_,rfl,kn,kn⟩)))
  refine cm J ?_
  refine ch J ?_
  exact Aj ⟨[z],[],[],[]⟩ (.inr ((⟨_,rfl,kn,kn⟩)))
 ·refine .of (t:=Jy) rfl ?_
  unfold Jy
  refine BD 3 5 ?_
  refine CJ 3 0 ?_
  refine BD 3 5 ?_
  refine el (j':=3) rfl ?_
  refine En (3-1) 0 ?_
  refine Jc (3-1) 3 ?_
  refine AQ (3-1) 0 ?_
  refine AQ (3-1) 1 ?_
  refine BI (3-1) 2 ?_
  refine bu c ?_
  refine bu (c+7) ?_
  refine nv ⟨[5,5,3,g,sub,k,pl,fl,q,c,3,1,4,(c+7),((c+7)+1)],[d,[112]],[A4,o,P,u,R],[]⟩ ?_
  obtain ⟨_,rfl,G7⟩:=FR [112] (by decide)
  refine ch G7 ?_
  refine sl [112] ?_
  refine bu ((c+7)+1) ?_
  refine bu (((c+7)+1)+64) ?_
  refine nv ⟨[5,5,3,g,sub,k,pl,fl,q,c,3,1,4,(c+7),((c+7)+1),([112].length:Int),(((c+7)+1)+64),((((c+7)+1)+64)+1)],[d,[112]],[A4,o,P,u,R],[]⟩ ?_
  refine En (1-1) 0 ?_
  refine Jc (1-1) 3 ?_
  refine BI (1-1) 0 ?_
  refine bu ((((c+7)+1)+64)+1) ?_
  refine CJ 4 (-9223372036854775808) ?_
  refine FA 4 9223372036854775807 ?_
  refine bu (((((c+7)+1)+64)+1)+3) ?_
  refine nv ⟨[5,5,3,g,sub,k,pl,fl,q,c,3,1,4,(c+7),((c+7)+1),([112].length:Int),(((c+7)+1)+64),((((c+7)+1)+64)+1),(((((c+7)+1)+64)+1)+3),((((((c+7)+1)+64)+1)+3)+1)],[d,[112]],[A4,o,P,u,R],[]⟩ ?_
  refine bu ((((((c+7)+1)+64)+1)+3)+1) ?_
  refine bu (((((((c+7)+1)+64)+1)+3)+1)+21) ?_
  refine nv ⟨[5,5,3,g,sub,k,pl,fl,q,c,3,1,4,(c+7),((c+7)+1),([112].length:Int),(((c+7)+1)+64),((((c+7)+1)+64)+1),(((((c+7)+1)+64)+1)+3),((((((c+7)+1)+64)+1)+3)+1),(((((((c+7)+1)+64)+1)+3)+1)+21),((((((((c+7)+1)+64)+1)+3)+1)+21)+1)],[d,[112]],[A4,o,P,u,R],[]⟩ ?_
  obtain ⟨_,(rfl|⟨A,rfl,ac,ae⟩),M⟩:=ih 5 5 (3+1) g sub k pl fl q ((((((((c+7)+1)+64)+1)+3)+1)+21)+1) d A4 o P u R rfl kn
  ·refine ch M ?_
   exact Aj ⟨[((((((((c+7)+1)+64)+1)+3)+1)+21)+1)],[],[],[]⟩ (.inr ((⟨_,rfl,kn,kn⟩)))
  refine cm M ?_
  refine ch M ?_
  exact Aj ⟨[A],[],[],[]⟩ (.inr ((⟨_,rfl,kn,kn⟩)))
 ·refine .of (t:=Jy) rfl ?_
  unfold Jy
  refine BD 4 5 ?_
  refine CJ 4 0 ?_
  refine BD 4 5 ?_
  refine el (j':=4) rfl ?_
  refine En (2-1) 0 ?_
  refine Jc (2-1) 3 ?_
  refine AQ (2-1) 0 ?_
  refine BI (2-1) 1 ?_
  refine bu c ?_
  refine bu (c+6) ?_
  refine nv ⟨[5,5,4,g,sub,k,pl,fl,q,c,2,3,4,(c+6),((c+6)+1)],[d,[98]],[A4,o,P,u,R],[]⟩ ?_
  obtain ⟨_,rfl,G9⟩:=FR [98] (by decide)
  refine ch G9 ?_
  refine sl [98] ?_
  refine bu ((c+6)+1) ?_
  refine bu (((c+6)+1)+64) ?_
  refine nv ⟨[5,5,4,g,sub,k,pl,fl,q,c,2,3,4,(c+6),((c+6)+1),([98].length:Int),(((c+6)+1)+64),((((c+6)+1)+64)+1)],[d,[98]],[A4,o,P,u,R],[]⟩ ?_
  refine En (3-1) 0 ?_
  refine Jc (3-1) 3 ?_
  refine AQ (3-1) 0 ?_
  refine AQ (3-1) 1 ?_
  refine BI (3-1) 2 ?_
  refine bu ((((c+6)+1)+64)+1) ?_
  refine CJ 4 (-9223372036854775808) ?_
  refine FA 4 9223372036854775807 ?_
  refine bu (((((c+6)+1)+64)+1)+4) ?_
  refine nv ⟨[5,5,4,g,sub,k,pl,fl,q,c,2,3,4,(c+6),((c+6)+1),([98].length:Int),(((c+6)+1)+64),((((c+6)+1)+64)+1),(((((c+6)+1)+64)+1)+4),((((((c+6)+1)+64)+1)+4)+1)],[d,[98]],[A4,o,P,u,R],[]⟩ ?_
  refine bu ((((((c+6)+1)+64)+1)+4)+1) ?_
  refine bu (((((((c+6)+1)+64)+1)+4)+1)+21) ?_
  refine nv ⟨[5,5,4,g,sub,k,pl,fl,q,c,2,3,4,(c+6),((c+6)+1),([98].length:Int),(((c+6)+1)+64),((((c+6)+1)+64)+1),(((((c+6)+1)+64)+1)+4),((((((c+6)+1)+64)+1)+4)+1),(((((((c+6)+1)+64)+1)+4)+1)+21),((((((((c+6)+1)+64)+1)+4)+1)+21)+1)],[d,[98]],[A4,o,P,u,R],[]⟩ ?_
  obtain ⟨_,(rfl|⟨v,rfl,Q,O⟩),x⟩:=ih 5 5 (4+1) g sub k pl fl q ((((((((c+6)+1)+64)+1)+4)+1)+21)+1) d A4 o P u R rfl kn
  ·refine ch x ?_
   exact Aj ⟨[((((((((c+6)+1)+64)+1)+4)+1)+21)+1)],[],[],[]⟩ (.inr ((⟨_,rfl,kn,kn⟩)))
  refine cm x ?_
  refine ch x ?_
  exact Aj ⟨[v],[],[],[]⟩ (.inr ((⟨_,rfl,kn,kn⟩)))
 ·refine .of (t:=Jy) rfl ?_
  unfold Jy
  refine En 5 5 ?_
  exact Aj v0 (.inl rfl)
theorem AlC:Am9 78:=fun q len j g sub x pl fl v u c L k P o R d h=>AkT ((5-j).toNat+1) q len j g sub x pl fl v u c L k P o R d ⟨h.1,h.2.1,h.2.2.1,h.2.2.2.1,h.2.2.2.2.1,h.2.2.2.2.2,Nat.lt_succ_self _⟩
end Go.Proofs.YtbmofjdmgjpfoaaGreatDoor.Am
end
section
set_option maxHeartbeats 40000000
set_option maxRecDepth 100000
namespace Go.Proofs.YtbmofjdmgjpfoaaGreatDoor.Am
open Go.AM Go.AM.K
def Ak4 (N n:Nat):Prop:=∀(q len:Int) (j p1:Int) (o k:Int) (J z:Int) (D x:Int) (y d:Int) (v u:List Nat) (L A:Rs) (C H:Rs) (M:L=AH) (h:q=2∧len=2∧0≤j∧j≤2∧0≤d∧d+200*(2-j)≤900000∧(2-j).toNat<n),Ok trees N ⟨[q,len,j,p1,o,k,J,z,D,x,y,d],[v,u],[L,A,C,H],[]⟩ fun g=>(g=(0,v0))∨(∃(c:Int),g=(1,(⟨[c],[],[],[]⟩:Ah))∧(c≤d+200*(2-j))∧(d≤c))
def Akn (N:Nat):Prop:=∀(q len:Int) (j p1:Int) (o k:Int) (J z:Int) (D x:Int) (y d:Int) (v u:List Nat) (L A:Rs) (C H:Rs) (M:L=AH) (h:q=2∧len=2∧0≤j∧j≤2∧0≤d∧d+200*(2-j)≤900000:=by exact kn),Ok trees N ⟨[q,len,j,p1,o,k,J,z,D,x,y,d],[v,u],[L,A,C,H],[]⟩ fun g=>(g=(0,v0))∨(∃(c:Int),g=(1,(⟨[c],[],[],[]⟩:Ah))∧(c≤d+200*(2-j))∧(d≤c))
theorem AgS (n:Nat):Ak4 102 n:=by
 induction n with
 |zero=>intro U len j p1 k g A u y q C c o d L v x z N h;exact absurd h.2.2.2.2.2.2 (Nat.not_lt_zero _)
 |succ n ih=>
 intro U len j p1 k g A u y q C c o d L v x z N h
 subst N;have ⟨h1,h2,ag,ac,af,ad,ae⟩:=h;subst h1;subst h2
 rcases (by omega:j=0∨j=1∨j=2)with rfl|rfl|rfl
 ·refine .of (t:=Lf) rfl ?_
  unfold Lf
  refine BD 0 2 ?_
  refine CJ 0 0 ?_
  refine BD 0 2 ?_
  refine el (j':=0) rfl ?_
  refine SJ 0 0 ?_
  obtain ⟨_,rfl,X⟩:=FR [120] (by decide)
  refine ch X ?_
  refine sl [120] ?_
  refine bu c ?_
  refine bu (c+64) ?_
  refine nv ⟨[2,2,0,p1,k,g,A,u,y,q,C,c,1,([120].length:Int),(c+64),((c+64)+1)],[o,d,[120]],[AH,v,x,z],[]⟩ ?_
  refine En (1-1) 0 ?_
  refine Jc (1-1) 3 ?_
  refine BI (1-1) 0 ?_
  refine bu ((c+64)+1) ?_
  obtain ⟨_,(rfl|⟨D,rfl,Q,R⟩),M⟩:=ih 2 2 (0+1) p1 k g A u y q C (((c+64)+1)+3) o d AH v x z rfl kn
  ·refine ch M ?_
   exact Aj ⟨[(((c+64)+1)+3)],[],[],[]⟩ (.inr ((⟨_,rfl,kn,kn⟩)))
  refine cm M ?_
  refine ch M ?_
  exact Aj ⟨[D],[],[],[]⟩ (.inr ((⟨_,rfl,kn,kn⟩)))
 ·refine .of (t:=Lf) rfl ?_
  unfold Lf
  refine BD 1 2 ?_
  refine CJ 1 0 ?_
  refine BD 1 2 ?_
  refine el (j':=1) rfl ?_
  refine gtY 1 0 ?_
  refine bu c ?_
  refine nv ⟨[2,2,1,p1,k,g,A,u,y,q,C,c,1,(c+2)],[o,d,[121]],[AH,v,x,z],[]⟩ ?_
  obtain ⟨_,rfl,Z⟩:=FR [121] (by decide)
  refine ch Z ?_
  refine sl [121] ?_
  refine bu (c+2) ?_
  refine bu ((c+2)+64) ?_
  refine nv ⟨[2,2,1,p1,k,g,A,u,y,q,C,c,1,(c+2),([121].length:Int),((c+2)+64),(((c+2)+64)+1)],[o,d,[121]],[AH,v,x,z],[]⟩ ?_
  refine En (1-1) 0 ?_
  refine Jc (1-1) 3 ?_
  refine BI (1-1) 0 ?_
  refine bu (((c+2)+64)+1) ?_
  obtain ⟨_,(rfl|⟨H,rfl,P,O⟩),J⟩:=ih 2 2 (1+1) p1 k g A u y q C ((((c+2)+64)+1)+3) o d AH v x z rfl kn
  ·refine ch J ?_
   exact Aj ⟨[((((c+2)+64)+1)+3)],[],[],[]⟩ (.inr ((⟨_,rfl,kn,kn⟩)))
  refine cm J ?_
  refine ch J ?_
  exact Aj ⟨[H],[],[],[]⟩ (.inr ((⟨_,rfl,kn,kn⟩)))
 ·refine .of (t:=Lf) rfl ?_
  unfold Lf
  refine En 2 2 ?_
  exact Aj v0 (.inl rfl)
theorem Ajw:Akn 102:=fun u len j p1 g d D x A o H v k c L y z C q h=>AgS ((2-j).toNat+1) u len j p1 g d D x A o H v k c L y z C q ⟨h.1,h.2.1,h.2.2.1,h.2.2.2.1,h.2.2.2.2.1,h.2.2.2.2.2,Nat.lt_succ_self _⟩
def Anf (N n:Nat):Prop:=∀(q len:Int) (j g:Int) (sub u:Int) (pl fl:Int) (x d:Int) (o:List Nat) (L v:Rs) (P y R:Rs) (z:L=Au) (h:q=3∧len=3∧0≤j∧j≤3∧0≤d∧d+200*(3-j)≤900000∧(3-j).toNat<n),Ok trees N ⟨[q,len,j,g,sub,u,pl,fl,x,d],[o],[L,v,P,y,R],[]⟩ fun k=>(k=(0,v0))∨(∃(c:Int),k=(1,(⟨[c],[],[],[]⟩:Ah))∧(c≤d+200*(3-j))∧(d≤c))
def Am8 (N:Nat):Prop:=∀(q len:Int) (j g:Int) (sub u:Int) (pl fl:Int) (x d:Int) (o:List Nat) (L v:Rs) (P y R:Rs) (z:L=Au) (h:q=3∧len=3∧0≤j∧j≤3∧0≤d∧d+200*(3-j)≤900000:=by exact kn),Ok trees N ⟨[q,len,j,g,sub,u,pl,fl,x,d],[o],[L,v,P,y,R],[]⟩ fun k=>(k=(0,v0))∨(∃(c:Int),k=(1,(⟨[c],[],[],[]⟩:Ah))∧(c≤d+200*(3-j))∧(d≤c))
theorem AkS (n:Nat):Anf 79 n:=by
 induction n with
 |zero=>intro U len j g sub k pl fl q c d L o P u R D h;exact absurd h.2.2.2.2.2.2 (Nat.not_lt_zero _)
 |succ n ih=>
 intro U len j g sub k pl fl q c d L o P u R D h
 subst D;have ⟨h1,h2,ah,ad,ag,ae,af⟩:=h;subst h1;subst h2
 rcases (by omega:j=0∨j=1∨j=2∨j=3)with rfl|rfl|rfl|rfl
 ·refine .of (t:=Ob) rfl ?_
  unfold Ob
  refine BD 0 3 ?_
  refine CJ 0 0 ?_
  refine BD 0 3 ?_
  refine el (j':=0) rfl ?_
  refine bu c ?_
  refine nv ⟨[3,3,0,g,sub,k,pl,fl,q,c,1,(c+6)],[d,[110]],[Au,o,P,u,R],[]⟩ ?_
  obtain ⟨_,rfl,Z⟩:=FR [110] (by decide)
  refine ch Z ?_
  refine sl [110] ?_
  refine bu (c+6) ?_
  refine bu ((c+6)+64) ?_
  refine nv ⟨[3,3,0,g,sub,k,pl,fl,q,c,1,(c+6),([110].length:Int),((c+6)+64),(((c+6)+64)+1)],[d,[110]],[Au,o,P,u,R],[]⟩ ?_
  refine En (1-1) 0 ?_
  refine Jc (1-1) 3 ?_
  refine BI (1-1) 0 ?_
  refine bu (((c+6)+64)+1) ?_
  refine bu ((((c+6)+64)+1)+3) ?_
  refine nv ⟨[3,3,0,g,sub,k,pl,fl,q,c,1,(c+6),([110].length:Int),((c+6)+64),(((c+6)+64)+1),((((c+6)+64)+1)+3),(((((c+6)+64)+1)+3)+1)],[d,[110]],[Au,o,P,u,R],[]⟩ ?_
  obtain ⟨_,(rfl|⟨v,rfl,O,Q⟩),A⟩:=ih 3 3 (0+1) g sub k pl fl q (((((c+6)+64)+1)+3)+1) d Au o P u R rfl kn
  ·refine ch A ?_
   exact Aj ⟨[(((((c+6)+64)+1)+3)+1)],[],[],[]⟩ (.inr ((⟨_,rfl,kn,kn⟩)))
  refine cm A ?_
  refine ch A ?_
  exact Aj ⟨[v],[],[],[]⟩ (.inr ((⟨_,rfl,kn,kn⟩)))
 ·refine .of (t:=Ob) rfl ?_
  unfold Ob
  refine BD 1 3 ?_
  refine CJ 1 0 ?_
  refine BD 1 3 ?_
  refine el (j':=1) rfl ?_
  refine bu c ?_
  obtain ⟨_,rfl,G3⟩:=FR [116] (by decide)
  refine ch G3 ?_
  refine sl [116] ?_
  refine bu (c+6) ?_
  refine nv ⟨[3,3,1,g,sub,k,pl,fl,q,c,2,(c+6),([116].length:Int),((c+6)+64)],[d,[116]],[Au,o,P,u,R],[]⟩ ?_
  refine bu ((c+6)+64) ?_
  refine En (2-1) 0 ?_
  refine Jc (2-1) 3 ?_
  refine AQ (2-1) 0 ?_
  refine BI (2-1) 1 ?_
  refine bu (((c+6)+64)+1) ?_
  refine nv ⟨[3,3,1,g,sub,k,pl,fl,q,c,2,(c+6),([116].length:Int),((c+6)+64),(((c+6)+64)+1),((((c+6)+64)+1)+3)],[d,[116]],[Au,o,P,u,R],[]⟩ ?_
  refine bu ((((c+6)+64)+1)+3) ?_
  obtain ⟨_,(rfl|⟨y,rfl,N,J⟩),z⟩:=ih 3 3 (1+1) g sub k pl fl q (((((c+6)+64)+1)+3)+1) d Au o P u R rfl kn
  ·refine ch z ?_
   exact Aj ⟨[(((((c+6)+64)+1)+3)+1)],[],[],[]⟩ (.inr ((⟨_,rfl,kn,kn⟩)))
  refine cm z ?_
  refine ch z ?_
  exact Aj ⟨[y],[],[],[]⟩ (.inr ((⟨_,rfl,kn,kn⟩)))
 ·refine .of (t:=Ob) rfl ?_
  unfold Ob
  refine BD 2 3 ?_
  refine CJ 2 0 ?_
  refine BD 2 3 ?_
  refine el (j':=2) rfl ?_
  refine bu c ?_
  refine nv ⟨[3,3,2,g,sub,k,pl,fl,q,c,3,(c+6)],[d,[99]],[Au,o,P,u,R],[]⟩ ?_
  obtain ⟨_,rfl,X⟩:=FR [99] (by decide)
  refine ch X ?_
  refine sl [99] ?_
  refine bu (c+6) ?_
  refine bu ((c+6)+64) ?_
  refine nv ⟨[3,3,2,g,sub,k,pl,fl,q,c,3,(c+6),([99].length:Int),((c+6)+64),(((c+6)+64)+1)],[d,[99]],[Au,o,P,u,R],[]⟩ ?_
  refine En (3-1) 0 ?_
  refine Jc (3-1) 3 ?_
  refine AQ (3-1) 0 ?_
  refine AQ (3-1) 1 ?_
  refine BI (3-1) 2 ?_
  refine bu (((c+6)+64)+1) ?_
  refine bu ((((c+6)+64)+1)+4) ?_
  refine nv ⟨[3,3,2,g,sub,k,pl,fl,q,c,3,(c+6),([99].length:Int),((c+6)+64),(((c+6)+64)+1),((((c+6)+64)+1)+4),(((((c+6)+64)+1)+4)+1)],[d,[99]],[Au,o,P,u,R],[]⟩ ?_
  obtain ⟨_,(rfl|⟨x,rfl,H,M⟩),C⟩:=ih 3 3 (2+1) g sub k pl fl q (((((c+6)+64)+1)+4)+1) d Au o P u R rfl kn
  ·refine ch C ?_
   exact Aj ⟨[(((((c+6)+64)+1)+4)+1)],[],[],[]⟩ (.inr ((⟨_,rfl,kn,kn⟩)))
  refine cm C ?_
  refine ch C ?_
  exact Aj ⟨[x],[],[],[]⟩ (.inr ((⟨_,rfl,kn,kn⟩)))
 ·refine .of (t:=Ob) rfl ?_
  unfold Ob
  refine En 3 3 ?_
  exact Aj v0 (.inl rfl)
theorem AiM:Am8 79:=fun q len j g sub x pl fl v u c L k P o R d h=>AkS ((3-j).toNat+1) q len j g sub x pl fl v u c L k P o R d ⟨h.1,h.2.1,h.2.2.1,h.2.2.2.1,h.2.2.2.2.1,h.2.2.2.2.2,Nat.lt_succ_self _⟩
end Go.Proofs.YtbmofjdmgjpfoaaGreatDoor.Am
end
section
set_option maxHeartbeats 40000000
set_option maxRecDepth 100000
namespace Go.Proofs.YtbmofjdmgjpfoaaGreatDoor.Am
open Go.AM Go.AM.K
def Ako (N:Nat):Prop:=∀{k:List S} {q:List E} {M:Ctx} (x z:Int) (y v:Int) (o u:Int) (j H g:Int) (A c:List Nat) (J C D:Rs) (U:J=AH) (R:A=[104]) (hB:C=S.Ab k) (X:D=E.Ab q) (Q:C8 0 1 fΓ k M) (P:T M 1 (.node v o u j c q)) (h:x=2∧z=1∧y=C.length∧H=D.length∧0≤g∧g≤100000∧S.Ax k≤2∧S.Ae k≤160∧(E.node v o u j c q).nodes≤13∧(E.node v o u j c q).high≤5:=by exact kn),Ok trees N ⟨[x,z,y,v,o,u,j,H,g],[A,c],[J,C,D],[]⟩ fun O=>(∃(d:Int),O=(0,(⟨[d],[],[],[]⟩:Ah))∧(d≤g+70000)∧(g≤d))
theorem Ajx:Ako 101:=by
 intro o q Γe aD aE j x u v k y c aH g FP FB RA hF hn hB hA Q M h
 subst hF;subst hn;subst hB;subst hA;obtain ⟨rfl,rfl,ax,av,aC,aA,hd,aB,az,ay⟩:=h;have aF:=S.len o;have aG:=S.A7 o;have aw:([32,32]:List Nat).length=2:=rfl
 refine .of (t:=Wc) rfl ?_
 unfold Wc
 refine bu c ?_
 obtain ⟨_,rfl,G1⟩:=FR [104] (by decide)
 refine ch G1 ?_
 refine sl [104] ?_
 refine bu (c+5) ?_
 refine nv ⟨[2,1,j,x,u,v,k,y,c,(c+5),([104].length:Int),((c+5)+64)],[[104],g],[AH,(S.Ab o),(E.Ab q)],[]⟩ ?_
 refine bu ((c+5)+64) ?_
 obtain ⟨_,(rfl|⟨d,rfl,aa,ab⟩),N⟩:=Ajw 2 2 0 2 1 j x u v k y (((c+5)+64)+1) [104] g AH AH (S.Ab o) (E.Ab q) rfl
 ·refine ch N ?_
  refine nv ⟨[2,1,j,x,u,v,k,y,c,(c+5),([104].length:Int),((c+5)+64),(((c+5)+64)+1)],[[104],g],[AH,(S.Ab o),(E.Ab q)],[]⟩ ?_
  refine bu (((c+5)+64)+1) ?_
  refine nv ⟨[2,1,j,x,u,v,k,y,c,(c+5),([104].length:Int),((c+5)+64),(((c+5)+64)+1),((((c+5)+64)+1)+2)],[[104],g],[AH,(S.Ab o),(E.Ab q)],[]⟩ ?_
  refine En (1-1) 0 ?_
  refine Jc (1-1) 3 ?_
  refine BI (1-1) 0 ?_
  refine bu ((((c+5)+64)+1)+2) ?_
  refine bu (((((c+5)+64)+1)+2)+3) ?_
  refine nv ⟨[2,1,j,x,u,v,k,y,c,(c+5),([104].length:Int),((c+5)+64),(((c+5)+64)+1),((((c+5)+64)+1)+2),(((((c+5)+64)+1)+2)+3),((((((c+5)+64)+1)+2)+3)+3)],[[104],g],[AH,(S.Ab o),(E.Ab q)],[]⟩ ?_
  obtain ⟨_,(rfl|⟨A,rfl,U,X⟩),O⟩:=AfA (RB.of (n:=1000) @O4) j ((((((c+5)+64)+1)+2)+3)+3) [32,32] (S.Ab o) Q.pl rfl
  ·refine ch O ?_
   refine nv ⟨[2,1,j,x,u,v,k,y,c,(c+5),([104].length:Int),((c+5)+64),(((c+5)+64)+1),((((c+5)+64)+1)+2),(((((c+5)+64)+1)+2)+3),((((((c+5)+64)+1)+2)+3)+3)],[[104],g],[AH,(S.Ab o),(E.Ab q)],[]⟩ ?_
   refine bu ((((((c+5)+64)+1)+2)+3)+3) ?_
   obtain ⟨_,⟨D,rfl,ai,ae⟩,G4⟩:=EH x u v k y (((((((c+5)+64)+1)+2)+3)+3)+9) g (E.Ab q) M rfl
   refine ch G4 ?_
   refine nv ⟨[2,1,j,x,u,v,k,y,c,(c+5),([104].length:Int),((c+5)+64),(((c+5)+64)+1),((((c+5)+64)+1)+2),(((((c+5)+64)+1)+2)+3),((((((c+5)+64)+1)+2)+3)+3),(((((((c+5)+64)+1)+2)+3)+3)+9),D],[[104],g],[AH,(S.Ab o),(E.Ab q)],[]⟩ ?_
   refine bu D ?_
   refine nv ⟨[2,1,j,x,u,v,k,y,c,(c+5),([104].length:Int),((c+5)+64),(((c+5)+64)+1),((((c+5)+64)+1)+2),(((((c+5)+64)+1)+2)+3),((((((c+5)+64)+1)+2)+3)+3),(((((((c+5)+64)+1)+2)+3)+3)+9),D,(D+3)],[[104],g],[AH,(S.Ab o),(E.Ab q)],[]⟩ ?_
   exact Aj ⟨[(D+3)],[],[],[]⟩ (⟨_,rfl,kn,kn⟩)
  refine cm O ?_
  refine ch O ?_
  refine nv ⟨[2,1,j,x,u,v,k,y,c,(c+5),([104].length:Int),((c+5)+64),(((c+5)+64)+1),((((c+5)+64)+1)+2),(((((c+5)+64)+1)+2)+3),((((((c+5)+64)+1)+2)+3)+3),A],[[104],g],[AH,(S.Ab o),(E.Ab q)],[]⟩ ?_
  refine bu A ?_
  obtain ⟨_,⟨C,rfl,au,ac⟩,G5⟩:=EH x u v k y (A+9) g (E.Ab q) M rfl
  refine ch G5 ?_
  refine nv ⟨[2,1,j,x,u,v,k,y,c,(c+5),([104].length:Int),((c+5)+64),(((c+5)+64)+1),((((c+5)+64)+1)+2),(((((c+5)+64)+1)+2)+3),((((((c+5)+64)+1)+2)+3)+3),A,(A+9),C],[[104],g],[AH,(S.Ab o),(E.Ab q)],[]⟩ ?_
  refine bu C ?_
  refine nv ⟨[2,1,j,x,u,v,k,y,c,(c+5),([104].length:Int),((c+5)+64),(((c+5)+64)+1),((((c+5)+64)+1)+2),(((((c+5)+64)+1)+2)+3),((((((c+5)+64)+1)+2)+3)+3),A,(A+9),C,(C+3)],[[104],g],[AH,(S.Ab o),(E.Ab q)],[]⟩ ?_
  exact Aj ⟨[(C+3)],[],[],[]⟩ (⟨_,rfl,kn,kn⟩)
 refine cm N ?_
 refine ch N ?_
 refine nv ⟨[2,1,j,x,u,v,k,y,c,(c+5),([104].length:Int),((c+5)+64),(((c+5)+64)+1),d],[[104],g],[AH,(S.Ab o),(E.Ab q)],[]⟩ ?_
 refine bu d ?_
 refine En (1-1) 0 ?_
 refine Jc (1-1) 3 ?_
 refine BI (1-1) 0 ?_
 refine bu (d+2) ?_
 refine nv ⟨[2,1,j,x,u,v,k,y,c,(c+5),([104].length:Int),((c+5)+64),(((c+5)+64)+1),d,(d+2),((d+2)+3)],[[104],g],[AH,(S.Ab o),(E.Ab q)],[]⟩ ?_
 refine bu ((d+2)+3) ?_
 obtain ⟨_,(rfl|⟨z,rfl,R,Z⟩),P⟩:=AfA (RB.of (n:=1000) @O4) j (((d+2)+3)+3) [32,32] (S.Ab o) Q.pl rfl
 ·refine ch P ?_
  refine nv ⟨[2,1,j,x,u,v,k,y,c,(c+5),([104].length:Int),((c+5)+64),(((c+5)+64)+1),d,(d+2),((d+2)+3),(((d+2)+3)+3)],[[104],g],[AH,(S.Ab o),(E.Ab q)],[]⟩ ?_
  refine bu (((d+2)+3)+3) ?_
  refine nv ⟨[2,1,j,x,u,v,k,y,c,(c+5),([104].length:Int),((c+5)+64),(((c+5)+64)+1),d,(d+2),((d+2)+3),(((d+2)+3)+3),((((d+2)+3)+3)+9)],[[104],g],[AH,(S.Ab o),(E.Ab q)],[]⟩ ?_
  obtain ⟨_,⟨J,rfl,ap,ao⟩,G7⟩:=EH x u v k y ((((d+2)+3)+3)+9) g (E.Ab q) M rfl
  refine ch G7 ?_
  refine nv ⟨[2,1,j,x,u,v,k,y,c,(c+5),([104].length:Int),((c+5)+64),(((c+5)+64)+1),d,(d+2),((d+2)+3),(((d+2)+3)+3),((((d+2)+3)+3)+9),J],[[104],g],[AH,(S.Ab o),(E.Ab q)],[]⟩ ?_
  refine bu J ?_
  exact Aj ⟨[(J+3)],[],[],[]⟩ (⟨_,rfl,kn,kn⟩)
 refine cm P ?_
 refine ch P ?_
 refine nv ⟨[2,1,j,x,u,v,k,y,c,(c+5),([104].length:Int),((c+5)+64),(((c+5)+64)+1),d,(d+2),((d+2)+3),(((d+2)+3)+3),z],[[104],g],[AH,(S.Ab o),(E.Ab q)],[]⟩ ?_
 refine bu z ?_
 refine nv ⟨[2,1,j,x,u,v,k,y,c,(c+5),([104].length:Int),((c+5)+64),(((c+5)+64)+1),d,(d+2),((d+2)+3),(((d+2)+3)+3),z,(z+9)],[[104],g],[AH,(S.Ab o),(E.Ab q)],[]⟩ ?_
 obtain ⟨_,⟨H,rfl,aj,ah⟩,G8⟩:=EH x u v k y (z+9) g (E.Ab q) M rfl
 refine ch G8 ?_
 refine nv ⟨[2,1,j,x,u,v,k,y,c,(c+5),([104].length:Int),((c+5)+64),(((c+5)+64)+1),d,(d+2),((d+2)+3),(((d+2)+3)+3),z,(z+9),H],[[104],g],[AH,(S.Ab o),(E.Ab q)],[]⟩ ?_
 refine bu H ?_
 exact Aj ⟨[(H+3)],[],[],[]⟩ (⟨_,rfl,kn,kn⟩)
def Ane (N n:Nat):Prop:=∀(d len:Int) (j g:Int) (sub u:Int) (pl fl:Int) (x k:Int) (q:List Nat) (L v:Rs) (P y R:Rs) (z:GR L) (h:(j=0∨j=1)∧d=L.length∧len=d∧j≤d∧0≤k∧k+80000*(1-j)≤90000∧(d-j).toNat<n),Ok trees N ⟨[d,len,j,g,sub,u,pl,fl,x,k],[q],[L,v,P,y,R],[]⟩ fun o=>(o=(0,v0))∨(∃(c:Int),o=(1,(⟨[c],[],[],[]⟩:Ah))∧(c≤90000)∧(k≤c))
def Am7 (N:Nat):Prop:=∀(d len:Int) (j g:Int) (sub u:Int) (pl fl:Int) (x k:Int) (q:List Nat) (L v:Rs) (P y R:Rs) (z:GR L) (h:(j=0∨j=1)∧d=L.length∧len=d∧j≤d∧0≤k∧k+80000*(1-j)≤90000:=by exact kn),Ok trees N ⟨[d,len,j,g,sub,u,pl,fl,x,k],[q],[L,v,P,y,R],[]⟩ fun o=>(o=(0,v0))∨(∃(c:Int),o=(1,(⟨[c],[],[],[]⟩:Ah))∧(c≤90000)∧(k≤c))
theorem AkR (n:Nat):Ane 80 n:=by
 induction n with
 |zero=>intro X len j g sub x pl fl M A q L y P N R v h;exact absurd h.2.2.2.2.2.2 (Nat.not_lt_zero _)
 |succ n ih=>
 intro X len j g sub x pl fl M A q L y P N R v h
 rcases v with rfl|⟨fb,fa,Γe,rk,ro,ry,rw,rs,rfl,hO,hT,hd,hn,hrn,hrh⟩<;>simp only [lC,lN]at h<;>rcases h.1 with rfl|rfl
 ·obtain ⟨_,rfl,rfl,_,o,k,_⟩:=h;skip
  refine .of (t:=RM) rfl ?_
  unfold RM
  refine En 0 0 ?_
  exact Aj v0 (.inl rfl)
 ·exfalso;omega
 ·obtain ⟨_,rfl,rfl,_,o,k,_⟩:=h;have J:(AH.length:Int)=2:=rfl;have D:=S.len fb;have H:=S.A7 fb;have z:=E.A7 fa;have U:=hT.kind
  refine .of (t:=RM) rfl ?_
  unfold RM
  refine BD 0 1 ?_
  refine CJ 0 0 ?_
  refine BD 0 1 ?_
  refine el (j':=0) rfl ?_
  obtain ⟨_,rfl,C⟩:=AlB ((S.Ab fb).length:Int) (S.Ab fb) hO rfl
  refine cm C ?_
  refine ch C ?_
  obtain ⟨_,⟨c,rfl,ab,Z⟩,G2⟩:=Ajx (AH.length:Int) 1 ((S.Ab fb).length:Int) rk ro ry rw ((E.Ab fa).length:Int) A [104] rs AH (S.Ab fb) (E.Ab fa) rfl rfl rfl rfl hO hT
  refine ch G2 ?_
  obtain ⟨_,(rfl|⟨d,rfl,O,Q⟩),u⟩:=ih 1 1 (0+1) g sub x pl fl M c q [hrow AH (S.Ab fb) rk ro ry rs rw (E.Ab fa)] y P N R (.inr ⟨_,_,_,_,_,_,_,_,rfl,hO,hT,hd,hn,hrn,hrh⟩) kn
  ·refine ch u ?_
   exact Aj ⟨[c],[],[],[]⟩ (.inr ((⟨_,rfl,kn,kn⟩)))
  refine cm u ?_
  refine ch u ?_
  exact Aj ⟨[d],[],[],[]⟩ (.inr ((⟨_,rfl,kn,kn⟩)))
 ·obtain ⟨_,rfl,rfl,_,o,k,_⟩:=h;have J:(AH.length:Int)=2:=rfl;have D:=S.len fb;have H:=S.A7 fb;have z:=E.A7 fa;have U:=hT.kind
  refine .of (t:=RM) rfl ?_
  unfold RM
  refine En 1 1 ?_
  exact Aj v0 (.inl rfl)
theorem Ad1:Am7 80:=fun c len j g sub x pl fl v u d L k P o R q h=>AkR ((c-j).toNat+1) c len j g sub x pl fl v u d L k P o R q ⟨h.1,h.2.1,h.2.2.1,h.2.2.2.1,h.2.2.2.2.1,h.2.2.2.2.2,Nat.lt_succ_self _⟩
end Go.Proofs.YtbmofjdmgjpfoaaGreatDoor.Am
end
section
set_option maxHeartbeats 4000000
set_option maxRecDepth 100000
namespace Go.Proofs.YtbmofjdmgjpfoaaGreatDoor.Am
open Go.AM Go.AM.K
def AmS (N:Nat):Prop:=∀{l:List S} (g sub:Int) (j pl:Int) (fl o:Int) (c:List Nat) (k P:Rs) (d R:Rs) (x:c=[107]) (u:k=A4) (A:P=Au) (z:GR d) (y:R=S.Ab l) (v:PL l) (h:j=5∧pl=3∧fl=d.length∧fl≤1∧o=R.length∧S.Ae l≤1600∧S.Ax l≤10∧(g=4∨g=1∨g=2∨g=8∨g=6)∧0≤sub∧sub≤32:=by exact kn),Ok trees N ⟨[g,sub,j,pl,fl,o],[c],[k,P,d,R],[]⟩ fun q=>(q=(1,v0))
theorem AlN:AmS 49:=by
 intro l g sub k pl fl c a3 o P j R ah ap hP y q d h
 have a5:=S.len l;have a6:=S.A7 l;have a4:([]:List Nat).length=0:=rfl;subst ah
 refine .of (t:=Ac7) rfl ?_
 unfold Ac7
 obtain ⟨_,rfl,G1⟩:=AlL g sub k pl fl c [107] o P j R y q d
 refine ch G1 ?_
 obtain ⟨_,rfl,G2⟩:=FR [107] (by decide)
 refine ch G2 ?_
 refine sl [107] ?_
 refine CJ g (-9223372036854775808) ?_
 refine FA g 9223372036854775807 ?_
 refine CJ sub (-9223372036854775808) ?_
 refine FA sub 9223372036854775807 ?_
 obtain ⟨_,(rfl|⟨u,rfl,az,aL⟩),G3⟩:=AlC k k 0 g sub k pl fl c 126 [107] o o P j R ap
 ·refine ch G3 ?_
  obtain ⟨_,(rfl|⟨x,rfl,aD,aB⟩),G4⟩:=AiM pl pl 0 g sub k pl fl c 126 [107] P o P j R hP
  ·refine ch G4 ?_
   obtain ⟨_,(rfl|⟨M,rfl,aC,aK⟩),G5⟩:=Ad1 fl fl 0 g sub k pl fl c 126 [107] j o P j R y
   ·refine ch G5 ?_
    obtain ⟨_,⟨Z,rfl,aW,aY⟩,G6⟩:=O4 c 126 [] R d q
    refine ch G6 ?_
    refine bu Z ?_
    exact Aj v0 (rfl)
   refine cm G5 ?_
   refine ch G5 ?_
   obtain ⟨_,⟨aa,rfl,a0,aZ⟩,G7⟩:=O4 c M [] R d q
   refine ch G7 ?_
   refine bu aa ?_
   exact Aj v0 (rfl)
  refine cm G4 ?_
  refine ch G4 ?_
  obtain ⟨_,(rfl|⟨N,rfl,aF,aP⟩),G8⟩:=Ad1 fl fl 0 g sub k pl fl c x [107] j o P j R y
  ·refine ch G8 ?_
   obtain ⟨_,⟨ab,rfl,aR,a1⟩,G9⟩:=O4 c x [] R d q
   refine ch G9 ?_
   refine bu ab ?_
   exact Aj v0 (rfl)
  refine cm G8 ?_
  refine ch G8 ?_
  obtain ⟨_,⟨U,rfl,aJ,aM⟩,aw⟩:=O4 c N [] R d q
  refine ch aw ?_
  refine bu U ?_
  exact Aj v0 (rfl)
 refine cm G3 ?_
 refine ch G3 ?_
 obtain ⟨_,(rfl|⟨v,rfl,ax,ai⟩),z⟩:=AiM pl pl 0 g sub k pl fl c u [107] P o P j R hP
 ·refine ch z ?_
  obtain ⟨_,(rfl|⟨A,rfl,an,ao⟩),H⟩:=Ad1 fl fl 0 g sub k pl fl c u [107] j o P j R y
  ·refine ch H ?_
   obtain ⟨_,⟨O,rfl,aO,aG⟩,av⟩:=O4 c u [] R d q
   refine ch av ?_
   refine bu O ?_
   exact Aj v0 (rfl)
  refine cm H ?_
  refine ch H ?_
  obtain ⟨_,⟨X,rfl,aN,aI⟩,ak⟩:=O4 c A [] R d q
  refine ch ak ?_
  refine bu X ?_
  exact Aj v0 (rfl)
 refine cm z ?_
 refine ch z ?_
 obtain ⟨_,(rfl|⟨D,rfl,am,ag⟩),C⟩:=Ad1 fl fl 0 g sub k pl fl c v [107] j o P j R y
 ·refine ch C ?_
  obtain ⟨_,⟨J,rfl,aE,ay⟩,au⟩:=O4 c v [] R d q
  refine ch au ?_
  refine bu J ?_
  exact Aj v0 (rfl)
 refine cm C ?_
 refine ch C ?_
 obtain ⟨_,⟨Q,rfl,aA,aH⟩,aj⟩:=O4 c D [] R d q
 refine ch aj ?_
 refine bu Q ?_
 exact Aj v0 (rfl)
def AmT (N:Nat):Prop:=∀{l:List S} (g sub:Int) (j pl:Int) (fl o:Int) (c:List Nat) (k P:Rs) (d R:Rs) (x:c=[107]) (u:k=A4) (A:P=Au) (z:GR d) (y:R=S.Ab l) (v:PL l) (h:j=5∧pl=3∧fl=d.length∧fl≤1∧o=R.length∧S.Ae l≤1600∧S.Ax l≤10∧(g=4∨g=1∨g=2∨g=8∨g=6)∧0≤sub∧sub≤32:=by exact kn),Ok trees N ⟨[g,sub,j,pl,fl,o],[c],[k,P,d,R],[]⟩ fun q=>(q=(1,v0))
theorem AiV:AmT 48:=by
 intro l g sub u pl fl z k x P A R j c v q y d h
 refine .of (t:=Ac8) rfl ?_
 unfold Ac8
 obtain ⟨_,rfl,o⟩:=AlN g sub u pl fl z k x P A R j c v q y d
 refine cm o ?_
 refine ch o ?_
 exact Aj v0 (rfl)
def AfQ (N:Nat):Prop:=∀{u z:Ctx} {l:List S} (g sub:Int) (o pl:Int) (fl q:Int) (d:List Nat) (j P:Rs) (c R:Rs) (D:d=[107]) (A:j=A4) (M:P=Au) (J:GR c) (H:R=S.Ab l) (C:C8 0 0 u l z) (hs:Cz g sub) (O:∀k,((c=[]∧k=EA 3)∨(c≠[]∧k=LN))→Ck u 5 fl j c k) (h:o=5∧pl=3∧fl=c.length∧fl≤1∧q=R.length∧S.Ae l≤1600∧S.Ax l≤10∧(g=4∨g=1∨g=2∨g=8∨g=6)∧0≤sub∧sub≤32:=by exact kn),Ok trees N ⟨[g,sub,o,pl,fl,q],[d],[j,P,c,R],[]⟩ fun y=>(∃(v:Int),∃(x:Mp),y=(1,(⟨[0,g,sub,o,pl,fl,q,v],[d],[j,P,c,R],[x]⟩:Ah)))
theorem AfC:AfQ 46:=by
 intro Z Γz l g sub k pl fl d c o P j R z u y v A x hs H h
 have U:=S.len l;have X:=S.A7 l;have hj:GR j:=v
 refine .of (t:=X6) rfl ?_
 unfold X6
 obtain ⟨_,rfl,D⟩:=AiV g sub k pl fl d c o P j R z u y v A x.pl
 refine cm D ?_
 refine ch D ?_
 obtain ⟨_,rfl,C⟩:=Aee g sub k pl fl d c o P j R u hs
 refine cm C ?_
 refine ch C ?_
 obtain ⟨_,⟨q,rfl,N⟩,Q⟩:=Aed g sub k pl fl d c o P j R u y v.list
 refine ch Q ?_
 obtain ⟨_,rfl,J⟩:=Aec 0 fl 0 g sub k pl fl d g sub k pl fl d 0 c c o P j R o P j R q u v
 refine ch J ?_
 refine BI 0 0 ?_
 obtain ⟨_,⟨M,rfl,rfl⟩,O⟩:=P9 d g sub k pl fl d 0 c R o P j R q (by obtain ⟨rfl,_⟩:=h;exact H _ ‹_›) x A
 refine ch O ?_
 exact Aj ⟨[0,g,sub,k,pl,fl,d,0],[c],[o,P,j,R],[q]⟩ (⟨_,_,rfl⟩)
def AfR (N:Nat):Prop:=∀{o x:Ctx} {l:List S} (g sub:Int) (q pl:Int) (fl u:Int) (d:List Nat) (k P:Rs) (c R:Rs) (A:d=[107]) (y:k=A4) (H:P=Au) (D:GR c) (C:R=S.Ab l) (z:C8 0 0 o l x) (hs:Cz g sub) (J:∀j,((c=[]∧j=EA 3)∨(c≠[]∧j=LN))→Ck o 5 fl k c j) (h:q=5∧pl=3∧fl=c.length∧fl≤1∧u=R.length∧S.Ae l≤1600∧S.Ax l≤10∧(g=4∨g=1∨g=2∨g=8∨g=6)∧0≤sub∧sub≤32:=by exact kn),Ok trees N ⟨[g,sub,q,pl,fl,u],[d],[k,P,c,R],[]⟩ fun v=>(v=(0,(⟨[0],[],[],[]⟩:Ah)))
theorem AfD:AfR 44:=by
 intro J M l g sub u pl fl D k x P H R j c v q A d hs y h
 refine .of (t:=X7) rfl ?_
 unfold X7
 obtain ⟨_,⟨C,z,rfl⟩,o⟩:=AfC g sub u pl fl D k x P H R j c v q A d hs y
 refine cm o ?_
 refine ch o ?_
 exact Aj ⟨[0],[],[],[]⟩ (rfl)
end Go.Proofs.YtbmofjdmgjpfoaaGreatDoor.Am
end
section
set_option maxHeartbeats 4000000
namespace Go.Proofs.YtbmofjdmgjpfoaaGreatDoor.Am
open Go.AM Go.AM.K
end Go.Proofs.YtbmofjdmgjpfoaaGreatDoor.Am
end
section
set_option maxHeartbeats 4000000
set_option maxRecDepth 100000
namespace Go.Proofs.YtbmofjdmgjpfoaaGreatDoor.Am
open Go.AM Go.AM.K
namespace V
def AfQ (N:Nat):Prop:=∀{u:Ctx} {l:List S} (g sub:Int) (o pl:Int) (fl q:Int) (d:List Nat) (j P:Rs) (c R:Rs) (C:d=[107]) (z:j=A4) (J:P=Au) (H:GR c) (D:R=S.Ab l) (A:PL l) (hB:DF 0 0 u l) (hs:Cz g sub) (M:∀k,((c=[]∧k=EA 3)∨(c≠[]∧k=LN))→Ck u 5 fl j c k) (h:o=5∧pl=3∧fl=c.length∧fl≤1∧q=R.length∧S.Ae l≤1600∧S.Ax l≤10∧(g=4∨g=1∨g=2∨g=8∨g=6)∧0≤sub∧sub≤32:=by exact kn),Ok trees N ⟨[g,sub,o,pl,fl,q],[d],[j,P,c,R],[]⟩ fun y=>(∃(v:Int),∃(x:Mp),y=(1,(⟨[30,g,sub,o,pl,fl,q,v],[d],[j,P,c,R],[x]⟩:Ah)))
theorem AfC:AfQ 46:=by
 intro Z l g sub j pl fl d c k P q R z u y v A x hB hs H h
 have U:=S.len l;have X:=S.A7 l
 refine .of (t:=X6) rfl ?_
 unfold X6
 obtain ⟨_,rfl,D⟩:=AiV g sub j pl fl d c k P q R z u y v A x
 refine cm D ?_
 refine ch D ?_
 obtain ⟨_,rfl,C⟩:=Aee g sub j pl fl d c k P q R u hs
 refine cm C ?_
 refine ch C ?_
 obtain ⟨_,⟨o,rfl,N⟩,Q⟩:=Aed g sub j pl fl d c k P q R u y v.list
 refine ch Q ?_
 obtain ⟨_,rfl,J⟩:=Aec 0 fl 0 g sub j pl fl d g sub j pl fl d 0 c c k P q R k P q R o u v
 refine ch J ?_
 refine BI 0 0 ?_
 obtain ⟨_,⟨M,rfl,rfl⟩,O⟩:=P9 d g sub j pl fl d 0 c R k P q R o (by obtain ⟨rfl,_⟩:=h;exact H _ ‹_›) hB A
 refine ch O ?_
 exact Aj ⟨[30,g,sub,j,pl,fl,d,0],[c],[k,P,q,R],[o]⟩ (⟨_,_,rfl⟩)
def AfR (N:Nat):Prop:=∀{o:Ctx} {l:List S} (g sub:Int) (q pl:Int) (fl u:Int) (d:List Nat) (k P:Rs) (c R:Rs) (z:d=[107]) (x:k=A4) (D:P=Au) (C:GR c) (A:R=S.Ab l) (y:PL l) (hB:DF 0 0 o l) (hs:Cz g sub) (H:∀j,((c=[]∧j=EA 3)∨(c≠[]∧j=LN))→Ck o 5 fl k c j) (h:q=5∧pl=3∧fl=c.length∧fl≤1∧u=R.length∧S.Ae l≤1600∧S.Ax l≤10∧(g=4∨g=1∨g=2∨g=8∨g=6)∧0≤sub∧sub≤32:=by exact kn),Ok trees N ⟨[g,sub,q,pl,fl,u],[d],[k,P,c,R],[]⟩ fun v=>(v=(0,(⟨[30],[],[],[]⟩:Ah)))
theorem AfD:AfR 44:=by
 intro J l g sub u pl fl D k x P H R j c v q A d hB hs y h
 refine .of (t:=X7) rfl ?_
 unfold X7
 obtain ⟨_,⟨C,z,rfl⟩,o⟩:=AfC g sub u pl fl D k x P H R j c v q A d hB hs y
 refine cm o ?_
 refine ch o ?_
 exact Aj ⟨[30],[],[],[]⟩ (rfl)
end V
end Go.Proofs.YtbmofjdmgjpfoaaGreatDoor.Am
end
section
set_option maxHeartbeats 4000000
set_option maxRecDepth 100000
namespace Go.Proofs.YtbmofjdmgjpfoaaGreatDoor.Am
open Go.AM Go.AM.K
theorem Ald (n:Nat):∀{l:List S} (j:Int),PL (l.drop j.toNat)→0≤j∧(l.length:Int)≤200000∧((l.length:Int)-j).toNat<n→Ok trees 47 ⟨[(l.length:Int),j],[],[S.Ab l],[]⟩ fun g=>
  (∃s r,g=(0,(⟨[],[s],[],[]⟩:Ah))∧FV (l.drop j.toNat)=s::r∧Nm s)∨(g=(1,v0)∧FV (l.drop j.toNat)=[]):=by
 induction n with
 |zero=>intro l j _ h;exact absurd h.2.2 (Nat.not_lt_zero _)
 |succ n ih=>
  intro l j y h
  refine .of (t:=Ac9) rfl ?_
  unfold Ac9
  refine lt j (l.length:Int) (fun u=>?_) fun u=>?_
  ·refine CJ j 0 ?_
   obtain ⟨k,o,t,b,nm,U,X,H,M,J,P,yk,O,D,Q,R,C,N,A,hg,q,x,v⟩:=PL.Alu j y h.1 u
   refine el hg ?_
   refine eq k 1 (fun c=>?_) fun c=>?_
   ·exact Aj ⟨[],[nm],[],[]⟩ (.inl ⟨_,_,rfl,(x c).2,(x c).1⟩)
   obtain ⟨_,(⟨s,r,rfl,d,z⟩|⟨rfl,d⟩),G⟩:=ih (j+1) q ⟨by omega,by omega,by omega⟩
   ·refine ch G ?_
    exact Aj ⟨[],[s],[],[]⟩ (.inl ⟨_,_,rfl,(v c).trans d,z⟩)
   ·refine cm G ?_
    refine ch G ?_
    exact Aj v0 (.inr ⟨rfl,(v c).trans d⟩)
  ·exact Aj v0 (.inr ⟨rfl,by rw [List.drop_eq_nil_of_le om];rfl⟩)
theorem AiW {l:List S} (g:PL l) (k:(l.length:Int)≤200000):Ok trees 45 ⟨[(l.length:Int)],[],[S.Ab l],[]⟩ fun j=>∃s,j=(0,(⟨[],[s],[],[]⟩:Ah))∧((s=[]∧FV l=[])∨∃r,FV l=s::r∧Nm s):=by
 refine .of (t:=AcA) rfl ?_
 unfold AcA
 obtain ⟨_,(⟨s,r,rfl,c,d⟩|⟨rfl,c⟩),G⟩:=Ald (l.length+1) (l:=l) 0 g ⟨by omega,k,by omega⟩
 ·refine ch G ?_
  exact Aj ⟨[],[s],[],[]⟩ ⟨_,rfl,.inr ⟨r,c,d⟩⟩
 ·refine cm G ?_
  refine ch G ?_
  exact Aj ⟨[],[[]],[],[]⟩ ⟨_,rfl,.inl ⟨rfl,c⟩⟩
structure Mk (g sub:Int) (Ar P Fs:Rs) (b:List S) (Γ Γ':Ctx):Prop where
 ar:Ar=A4
 pa:P=Au
 hg:g=4∨g=1∨g=2∨g=8∨g=6
 hs:Cz g sub
 fs:GR Fs
 fl:Fs.length≤1
 ok:C8 0 0 Γ b Γ'
 ck:∀mp,((Fs=[]∧mp=EA 3)∨(Fs≠[]∧mp=LN))→Ck Γ 5 (Fs.length:Int) Ar Fs mp
 nodes:S.Ae b≤680
 deep:S.Ax b≤4
 len:(b.length:Int)≤680
theorem B9.mk' {g sub:Int} {Ar P Fs R:Rs} (h:B9 g sub Ar P Fs R):0<R.length∧∃b Γ Γ',R=S.Ab b∧Mk g sub Ar P Fs b Γ Γ'∧(Γ=bΓ 0∨Γ=bΓ 1):=by
 obtain ⟨rfl,rfl,j,hg,hs,h⟩:=h
 refine ⟨j,?_⟩
 rcases h with ⟨rfl,Γ',l,⟨b,rfl,h1,h2,h3⟩,hl⟩|⟨F,k,o,y,w,s,A,rfl,hf,Γ',l,⟨b,rfl,h1,h2,h3⟩,hl⟩
 ·have:=S.len b
  refine ⟨b,_,_,rfl,⟨rfl,rfl,hg,hs,.inl rfl,by simp,h1,fun d c=>?_,by omega,by omega,by omega⟩,.inl rfl⟩
  rcases c with ⟨_,rfl⟩|⟨hx,_⟩
  ·exact Ck.To rfl
  ·exact absurd rfl hx
 ·have:=S.len b
  refine ⟨b,_,_,rfl,⟨rfl,rfl,hg,hs,.mk hf,by simp,h1,fun d c=>?_,by omega,by omega,by omega⟩,.inr rfl⟩
  rcases c with ⟨hx,_⟩|⟨_,rfl⟩
  ·cases hx
  ·exact Ck.Aj0
section
variable {g sub:Int} {Ar P Fs:Rs} {b:List S} {Γ Γ':Ctx}
theorem Mk.good (h:Mk g sub Ar P Fs b Γ Γ') {c:List S} {j:Ctx} (hc:C8 0 0 Γ c j) (o:S.Ae c≤1600) (hd:S.Ax c≤10):Ok trees 44 ⟨[g,sub,5,3,(Fs.length:Int),((S.Ab c).length:Int)],[[107]],[Ar,P,Fs,S.Ab c],[]⟩ fun k=>k=(0,(⟨[0],[],[],[]⟩:Ah)):=by
 have d:0≤sub∧sub≤32:=by have:=h.hs.1;omega
 have hf:(Fs.length:Int)≤1:=by have:=h.fl;omega
 exact AfD g sub 5 3 (Fs.length:Int) ((S.Ab c).length:Int) [107] Ar P Fs (S.Ab c) rfl h.ar h.pa h.fs rfl hc h.hs h.ck ⟨rfl,rfl,rfl,hf,rfl,by omega,by omega,h.hg,d.1,d.2⟩
theorem Mk.dup (h:Mk g sub Ar P Fs b Γ Γ') {c:List S} (k:PL c) (hc:DF 0 0 Γ c) (o:S.Ae c≤1600) (hd:S.Ax c≤10):Ok trees 44 ⟨[g,sub,5,3,(Fs.length:Int),((S.Ab c).length:Int)],[[107]],[Ar,P,Fs,S.Ab c],[]⟩ fun j=>j=(0,(⟨[30],[],[],[]⟩:Ah)):=by
 have d:0≤sub∧sub≤32:=by have:=h.hs.1;omega
 have hf:(Fs.length:Int)≤1:=by have:=h.fl;omega
 exact V.AfD g sub 5 3 (Fs.length:Int) ((S.Ab c).length:Int) [107] Ar P Fs (S.Ab c) rfl h.ar h.pa h.fs rfl k hc h.hs h.ck ⟨rfl,rfl,rfl,hf,rfl,by omega,by omega,h.hg,d.1,d.2⟩
end
def again (b:List S):S:=.node 5 0 0 0 [] (.node 1 0 3 1 [] []) E0 b []
theorem Aej {Γ:Ctx}:T Γ 3 (.node 1 0 3 1 [] []):=.num (by decide) (by decide) (fun _=>.inr rfl) (fun h=>absurd h (by decide)) (by decide)
theorem Aad {x n:Int} {B:Rs} (hB:Dw B) (hl:x=B.length) (h:x≤140737488355328) (A:0≤n∧n≤255):Ok trees 2 ⟨[x,n],[],[B],[]⟩ fun Q=>Q=(1,v0):=by
 refine .of (t:=t_2) rfl ?_
 unfold t_2
 obtain ⟨_,⟨g,sub,X,pl,fl,rl,Ar,P,Fs,R,rfl,hk,ha,U,hf,Z⟩,G⟩:=c_4 hB hl h
 refine ch G ?_
 obtain ⟨af,b,Γ,Γ',rfl,c,_⟩:=B9.mk' hk
 have M:X=5:=by rw [ha,c.ar];rfl
 have J:pl=3:=by rw [U,c.pa];rfl
 have d:=S.A7 b
 have N:=c.len
 subst M;subst J;subst hf;subst Z
 refine AQ ((S.Ab b).length+1:Int) 0 ?_
 have j:0≤n%((S.Ab b).length+1:Int):=Int.emod_nonneg _ om
 have D:n%((S.Ab b).length+1:Int)<(S.Ab b).length+1:=Int.emod_lt_of_pos _ om
 generalize hm:n%((S.Ab b).length+1:Int)=m at j D
 have k:S.Ab (b.take m.toNat)=(S.Ab b).take m.toNat:=S.P4 b m.toNat
 have H:((S.Ab (b.take m.toNat)).length:Int)=m:=by rw [k,lT'];omega
 refine de (S.Ab (b.take m.toNat)) ?_ (Fi (by rw [k];exact pt m (S.Ab b) (hx:=⟨j,by omega⟩) (h:=by subst hm;exact dn)))
 refine gtY ((S.Ab b).length:Int) 0 ?_ om
 refine de (S.Ab b) ?_ (Fi rfl)
 refine FA ((S.Ab b).length:Int) 1048576 ?_ om
 refine ll ((S.Ab b).length:Int) (S.Ab b) ?_
 refine de (S.Ab b++[Be 5 0 0 0 [] 1 0 3 [] 1 [] 0 0 0 [] 0 [] (S.Ab b) []]) ?_ (BG (pw ((S.Ab b).length:Int) (S.Ab b)) pe)
 have ha:S.Ab b++[Be 5 0 0 0 [] 1 0 3 [] 1 [] 0 0 0 [] 0 [] (S.Ab b) []]=S.Ab (b++[again b]):=by rw [S.Ny];rfl
 have ab:((S.Ab (b++[again b])).length:Int)=(S.Ab b).length+1:=by rw [S.A7,d];simp
 rw [ha]
 refine FA ((S.Ab (b++[again b])).length:Int) 1048576 ?_ om
 refine fr ?_
 have ac:S.Ae (b++[again b])=2*S.Ae b+2:=by rw [S.IV];simp only [again,S.Ae,S.nodes,E.nodes,E.Ae,Eh];simp [E.Ae,E.nodes];omega
 have ae:S.Ax (b++[again b])≤5:=by rw [S.KN];have:=c.deep;simp only [again,S.Ax,S.deep];omega
 have ad:=c.nodes
 obtain ⟨Γt,z⟩:=c.ok.take m.toNat
 obtain ⟨_,rfl,o⟩:=c.good z (by have:=S.MH b m.toNat;omega) (by have:=S.P8 b m.toNat;have:=c.deep;omega)
 rw [H]at o
 by_cases ht:FV b=[]
 ·have O:Γ'=Γ:=c.ok.none ht
  subst O
  have q:C8 0 0 Γ' (b++[again b]) Γ':=c.ok.snoc (.ife Aej (by decide) c.ok .nil)
  obtain ⟨_,rfl,u⟩:=c.good q om om
  refine ch u ?_
  refine AQ 0 1 ?_
  refine ch o ?_ (hv:=by subst hm;exact vn)
  refine BI 0 0 ?_
  obtain ⟨_,⟨s,rfl,hs|⟨r,hs,_⟩⟩,y⟩:=AiW c.ok.pl om
  ·obtain ⟨rfl,_⟩:=hs
   refine ch y ?_ (hv:=by rw [d];exact vn)
   refine seY [] [] ?_
   refine BI 0 0 ?_
   exact Aj v0 rfl
  ·rw [ht]at hs;cases hs
 ·have v:DF 0 0 Γ (b++[again b]):=DF.after c.ok (.head (.thn Aej (c.ok.Agk ht)))
  have C:PL (b++[again b]):=by
   have:Dv 0 0 Γ (again b) Γ:=.ife Aej (by decide) c.ok .nil
   exact c.ok.pl.app (.cons (Dv.ps _ this) .nil)
  obtain ⟨_,rfl,u⟩:=c.dup C v om om
  refine ch u ?_
  refine AQ 30 1 ?_
  refine ch o ?_ (hv:=by subst hm;exact vn)
  refine BI 0 0 ?_
  obtain ⟨_,⟨s,rfl,hs|⟨r,hs,A⟩⟩,y⟩:=AiW c.ok.pl om
  ·exact absurd hs.2 ht
  ·refine ch y ?_ (hv:=by rw [d];exact vn)
   refine seN s [] ?_ A.ne
   refine AQ 30 0 ?_
   exact Aj v0 rfl
end Go.Proofs.YtbmofjdmgjpfoaaGreatDoor.Am
end
