/- Part 20 of the proof of TypesRenames. -/
import Derived.Test.YtbmofjdmgjpfoaaGreatDoorE11
import Derived.Test.YtbmofjdmgjpfoaaGreatDoorE12
import Derived.Test.YtbmofjdmgjpfoaaGreatDoorE13
import Derived.Test.YtbmofjdmgjpfoaaGreatDoorE14
import Derived.Test.YtbmofjdmgjpfoaaGreatDoorE18
import Derived.Test.YtbmofjdmgjpfoaaGreatDoorE19
set_option linter.all false
section
set_option maxHeartbeats 4000000
set_option maxRecDepth 100000
namespace Go.Proofs.YtbmofjdmgjpfoaaGreatDoor.Am
open Go.AM Go.AM.K
def AnD (N n:Nat):Prop:=∀(ok d:Int) (len j:Int) (g1 C:Int) (P p1:Int) (D Z:Int) (g2 k:Int) (a2 O:Int) (J r2 z:Int) (A y:List Nat) (L o:Rs) (M x:Rs) (U u:Rs) (R X H:Rs) (g:Mp) (hL:L=Ax) (hm:g=Dl j) (h:d=5∧len=5∧0≤j∧j≤5∧(5-j).toNat<n),Ok trees N ⟨[ok,d,len,j,g1,C,P,p1,D,Z,g2,k,a2,O,J,r2,z],[A,y],[L,o,M,x,U,u,R,X,H],[g]⟩ fun Q=>(∃(c:Mp),Q=(0,(⟨[],[],[],[c]⟩:Ah))∧(c=Dl 5))
def Ant (N:Nat):Prop:=∀(ok d:Int) (len j:Int) (g1 C:Int) (P p1:Int) (D Z:Int) (g2 k:Int) (a2 O:Int) (J r2 z:Int) (A y:List Nat) (L o:Rs) (M x:Rs) (U u:Rs) (R X H:Rs) (g:Mp) (hL:L=Ax) (hm:g=Dl j) (h:d=5∧len=5∧0≤j∧j≤5:=by exact kn),Ok trees N ⟨[ok,d,len,j,g1,C,P,p1,D,Z,g2,k,a2,O,J,r2,z],[A,y],[L,o,M,x,U,u,R,X,H],[g]⟩ fun Q=>(∃(c:Mp),Q=(0,(⟨[],[],[],[c]⟩:Ah))∧(c=Dl 5))
theorem AjM (n:Nat):AnD 106 n:=by
 induction n with
 |zero=>intro ok ln len j g1 J O p1 o z g2 A a2 N x R D H k L C M g P d y Q u Z U c h;exact absurd h.2.2.2.2 (Nat.not_lt_zero _)
 |succ n ih=>
 intro ok ln len j g1 J O p1 o z g2 A a2 N x R D H k L C M g P d y Q u Z U c h
 subst U;have ⟨h1,h2,am,ao,an⟩:=h;subst h1;subst h2
 rcases (by omega:j=0∨j=1∨j=2∨j=3∨j=4∨j=5)with rfl|rfl|rfl|rfl|rfl|rfl
 ·subst c
  refine .of (t:=FE) rfl ?_
  unfold FE
  refine B9 0 5 ?_
  refine CG 0 0 ?_
  refine B9 0 5 ?_
  refine el (j':=0) rfl ?_
  refine lm rfl ?_
  refine up [.int .i64 0,.int .i64 1,.int .i64 0] ?_
  obtain ⟨_,⟨af,rfl,rfl⟩,G1⟩:=ih ok 5 5 (0+1) g1 J O p1 o z g2 A a2 N x R D H k Ax C M g P d y Q u (Bj (Dl 0) [97] [.int .i64 0,.int .i64 1,.int .i64 0]) rfl rfl kn
  refine ch G1 ?_
  exact Ai ⟨[],[],[],[(Dl 5)]⟩ (⟨_,rfl,rfl⟩)
 ·subst c
  refine .of (t:=FE) rfl ?_
  unfold FE
  refine B9 1 5 ?_
  refine CG 1 0 ?_
  refine B9 1 5 ?_
  refine el (j':=1) rfl ?_
  refine lm rfl ?_
  refine up [.int .i64 0,.int .i64 2,.int .i64 1] ?_
  obtain ⟨_,⟨ah,rfl,rfl⟩,G2⟩:=ih ok 5 5 (1+1) g1 J O p1 o z g2 A a2 N x R D H k Ax C M g P d y Q u (Bj (Dl 1) [102] [.int .i64 0,.int .i64 2,.int .i64 1]) rfl rfl kn
  refine ch G2 ?_
  exact Ai ⟨[],[],[],[(Dl 5)]⟩ (⟨_,rfl,rfl⟩)
 ·subst c
  refine .of (t:=FE) rfl ?_
  unfold FE
  refine B9 2 5 ?_
  refine CG 2 0 ?_
  refine B9 2 5 ?_
  refine el (j':=2) rfl ?_
  refine lm rfl ?_
  refine up [.int .i64 0,.int .i64 1,.int .i64 2] ?_
  obtain ⟨_,⟨ai,rfl,rfl⟩,G3⟩:=ih ok 5 5 (2+1) g1 J O p1 o z g2 A a2 N x R D H k Ax C M g P d y Q u (Bj (Dl 2) [115] [.int .i64 0,.int .i64 1,.int .i64 2]) rfl rfl kn
  refine ch G3 ?_
  exact Ai ⟨[],[],[],[(Dl 5)]⟩ (⟨_,rfl,rfl⟩)
 ·subst c
  refine .of (t:=FE) rfl ?_
  unfold FE
  refine B9 3 5 ?_
  refine CG 3 0 ?_
  refine B9 3 5 ?_
  refine el (j':=3) rfl ?_
  refine lm rfl ?_
  refine up [.int .i64 0,.int .i64 1,.int .i64 3] ?_
  obtain ⟨_,⟨X,rfl,rfl⟩,G4⟩:=ih ok 5 5 (3+1) g1 J O p1 o z g2 A a2 N x R D H k Ax C M g P d y Q u (Bj (Dl 3) [112] [.int .i64 0,.int .i64 1,.int .i64 3]) rfl rfl kn
  refine ch G4 ?_
  exact Ai ⟨[],[],[],[(Dl 5)]⟩ (⟨_,rfl,rfl⟩)
 ·subst c
  refine .of (t:=FE) rfl ?_
  unfold FE
  refine B9 4 5 ?_
  refine CG 4 0 ?_
  refine B9 4 5 ?_
  refine el (j':=4) rfl ?_
  refine lm rfl ?_
  refine up [.int .i64 0,.int .i64 3,.int .i64 4] ?_
  obtain ⟨_,⟨ad,rfl,rfl⟩,G5⟩:=ih ok 5 5 (4+1) g1 J O p1 o z g2 A a2 N x R D H k Ax C M g P d y Q u (Bj (Dl 4) [98] [.int .i64 0,.int .i64 3,.int .i64 4]) rfl rfl kn
  refine ch G5 ?_
  exact Ai ⟨[],[],[],[(Dl 5)]⟩ (⟨_,rfl,rfl⟩)
 ·subst c
  refine .of (t:=FE) rfl ?_
  unfold FE
  refine Ek 5 5 ?_
  exact Ai ⟨[],[],[],[(Dl 5)]⟩ (⟨_,rfl,rfl⟩)
theorem Am5:Ant 106:=fun ok H len j g1 N R p1 o A g2 C a2 Q x Z J M k L D P d U c z X u g y O h=>AjM ((5-j).toNat+1) ok H len j g1 N R p1 o A g2 C a2 Q x Z J M k L D P d U c z X u g y O ⟨h.1,h.2.1,h.2.2.1,h.2.2.2,Nat.lt_succ_self _⟩
def AnC (N n:Nat):Prop:=∀(ok d:Int) (len j:Int) (g1 C:Int) (P p1:Int) (D Z:Int) (g2 k:Int) (a2 O:Int) (J r2 z:Int) (A y:List Nat) (L o:Rs) (M x:Rs) (U u:Rs) (R X H:Rs) (g:Mp) (hL:L=As) (hm:g=EE j) (h:d=3∧len=3∧0≤j∧j≤3∧(3-j).toNat<n),Ok trees N ⟨[ok,d,len,j,g1,C,P,p1,D,Z,g2,k,a2,O,J,r2,z],[A,y],[L,o,M,x,U,u,R,X,H],[g]⟩ fun Q=>(∃(c:Mp),Q=(0,(⟨[],[],[],[c]⟩:Ah))∧(c=EE 3))
def Ans (N:Nat):Prop:=∀(ok d:Int) (len j:Int) (g1 C:Int) (P p1:Int) (D Z:Int) (g2 k:Int) (a2 O:Int) (J r2 z:Int) (A y:List Nat) (L o:Rs) (M x:Rs) (U u:Rs) (R X H:Rs) (g:Mp) (hL:L=As) (hm:g=EE j) (h:d=3∧len=3∧0≤j∧j≤3:=by exact kn),Ok trees N ⟨[ok,d,len,j,g1,C,P,p1,D,Z,g2,k,a2,O,J,r2,z],[A,y],[L,o,M,x,U,u,R,X,H],[g]⟩ fun Q=>(∃(c:Mp),Q=(0,(⟨[],[],[],[c]⟩:Ah))∧(c=EE 3))
theorem AjL (n:Nat):AnC 107 n:=by
 induction n with
 |zero=>intro ok ln len j g1 J O p1 o z g2 A a2 N x R D H k L C M g P d y Q u X U c h;exact absurd h.2.2.2.2 (Nat.not_lt_zero _)
 |succ n ih=>
 intro ok ln len j g1 J O p1 o z g2 A a2 N x R D H k L C M g P d y Q u X U c h
 subst U;have ⟨h1,Z,ai,ak,aj⟩:=h;subst h1;subst Z
 rcases (by omega:j=0∨j=1∨j=2∨j=3)with rfl|rfl|rfl|rfl
 ·subst c
  refine .of (t:=II) rfl ?_
  unfold II
  refine B9 0 3 ?_
  refine CG 0 0 ?_
  refine B9 0 3 ?_
  refine el (j':=0) rfl ?_
  refine lm rfl ?_
  refine up [.int .i64 2,.int .i64 1,.int .i64 0] ?_
  obtain ⟨_,⟨ac,rfl,rfl⟩,G1⟩:=ih ok 3 3 (0+1) g1 J O p1 o z g2 A a2 N x R D H k As C M g P d y Q u (Bj (EE 0) [110] [.int .i64 2,.int .i64 1,.int .i64 0]) rfl rfl kn
  refine ch G1 ?_
  exact Ai ⟨[],[],[],[(EE 3)]⟩ (⟨_,rfl,rfl⟩)
 ·subst c
  refine .of (t:=II) rfl ?_
  unfold II
  refine B9 1 3 ?_
  refine CG 1 0 ?_
  refine B9 1 3 ?_
  refine el (j':=1) rfl ?_
  refine lm rfl ?_
  refine up [.int .i64 2,.int .i64 2,.int .i64 0] ?_
  obtain ⟨_,⟨ae,rfl,rfl⟩,G2⟩:=ih ok 3 3 (1+1) g1 J O p1 o z g2 A a2 N x R D H k As C M g P d y Q u (Bj (EE 1) [116] [.int .i64 2,.int .i64 2,.int .i64 0]) rfl rfl kn
  refine ch G2 ?_
  exact Ai ⟨[],[],[],[(EE 3)]⟩ (⟨_,rfl,rfl⟩)
 ·subst c
  refine .of (t:=II) rfl ?_
  unfold II
  refine B9 2 3 ?_
  refine CG 2 0 ?_
  refine B9 2 3 ?_
  refine el (j':=2) rfl ?_
  refine lm rfl ?_
  refine up [.int .i64 2,.int .i64 3,.int .i64 0] ?_
  obtain ⟨_,⟨af,rfl,rfl⟩,G3⟩:=ih ok 3 3 (2+1) g1 J O p1 o z g2 A a2 N x R D H k As C M g P d y Q u (Bj (EE 2) [99] [.int .i64 2,.int .i64 3,.int .i64 0]) rfl rfl kn
  refine ch G3 ?_
  exact Ai ⟨[],[],[],[(EE 3)]⟩ (⟨_,rfl,rfl⟩)
 ·subst c
  refine .of (t:=II) rfl ?_
  unfold II
  refine Ek 3 3 ?_
  exact Ai ⟨[],[],[],[(EE 3)]⟩ (⟨_,rfl,rfl⟩)
theorem Am4:Ans 107:=fun ok H len j g1 N R p1 o A g2 C a2 Q x Z J M k L D P d U c z X u g y O h=>AjL ((3-j).toNat+1) ok H len j g1 N R p1 o A g2 C a2 Q x Z J M k L D P d U c z X u g y O ⟨h.1,h.2.1,h.2.2.1,h.2.2.2,Nat.lt_succ_self _⟩
def AnB (N n:Nat):Prop:=∀(ok c:Int) (len j:Int) (g2 u:Int) (a2 J:Int) (H Q C:Int) (z:List Nat) (L x:Rs) (O P D:Rs) (g:Mp) (U:L=[]∨∃F k o y w s A,L=[hrow AD F k o y s w A]) (R:(j=0∧g=EE 3)∨(j=1∧g=Mn)) (h:c=L.length∧len=c∧0≤j∧j≤c∧(c-j).toNat<n),Ok trees N ⟨[ok,c,len,j,g2,u,a2,J,H,Q,C],[z],[L,x,O,P,D],[g]⟩ fun M=>(∃(d:Mp),M=(0,(⟨[],[],[],[d]⟩:Ah))∧((L=[]∧d=EE 3)∨(L≠[]∧d=Mn)))
def Anr (N:Nat):Prop:=∀(ok d:Int) (len j:Int) (g2 u:Int) (a2 J:Int) (H Q C:Int) (z:List Nat) (L x:Rs) (P O D:Rs) (g:Mp) (U:L=[]∨∃F k o y w s A,L=[hrow AD F k o y s w A]) (R:(j=0∧g=EE 3)∨(j=1∧g=Mn)) (h:d=L.length∧len=d∧0≤j∧j≤d:=by exact kn),Ok trees N ⟨[ok,d,len,j,g2,u,a2,J,H,Q,C],[z],[L,x,P,O,D],[g]⟩ fun M=>(∃(c:Mp),M=(0,(⟨[],[],[],[c]⟩:Ah))∧((L=[]∧c=EE 3)∨(L≠[]∧c=Mn)))
theorem AjK (n:Nat):AnB 108 n:=by
 induction n with
 |zero=>intro ok R len j g2 D a2 M x O H g L d C N u P z J h;exact absurd h.2.2.2.2 (Nat.not_lt_zero _)
 |succ n ih=>
 intro ok R len j g2 D a2 M x O H g L d C N u P z J h
 rcases z with rfl|⟨F,k,o,y,w,s,A,rfl⟩<;>simp only [lC,lN]at h<;>rcases J with ⟨rfl,rfl⟩|⟨rfl,rfl⟩
 ·obtain ⟨rfl,rfl,_⟩:=h
  refine .of (t:=Lz) rfl ?_
  unfold Lz
  refine Ek 0 0 ?_
  exact Ai ⟨[],[],[],[(EE 3)]⟩ (⟨_,rfl,(by first|exact .inl ⟨rfl,rfl⟩|exact .inr ⟨by simp,rfl⟩|assumption)⟩)
 ·exfalso;omega
 ·obtain ⟨rfl,rfl,_⟩:=h
  refine .of (t:=Lz) rfl ?_
  unfold Lz
  refine B9 0 1 ?_
  refine CG 0 0 ?_
  refine B9 0 1 ?_
  refine el (j':=0) rfl ?_
  refine lm rfl ?_
  refine up [.int .i64 1,.int .i64 1,.int .i64 0] ?_
  obtain ⟨_,⟨c,rfl,Q⟩,U⟩:=ih ok 1 1 (0+1) g2 D a2 M x O H g [hrow AD F k o y s w A] d C N u (Bj (EE 3) [104] [.int .i64 1,.int .i64 1,.int .i64 0]) (.inr ⟨_,_,_,_,_,_,_,rfl⟩) (.inr ⟨rfl,rfl⟩) kn
  refine ch U ?_
  exact Ai ⟨[],[],[],[c]⟩ (⟨_,rfl,(by first|exact .inl ⟨rfl,rfl⟩|exact .inr ⟨by simp,rfl⟩|assumption)⟩)
 ·obtain ⟨rfl,rfl,_⟩:=h
  refine .of (t:=Lz) rfl ?_
  unfold Lz
  refine Ek 1 1 ?_
  exact Ai ⟨[],[],[],[Mn]⟩ (⟨_,rfl,(by first|exact .inl ⟨rfl,rfl⟩|exact .inr ⟨by simp,rfl⟩|assumption)⟩)
theorem Am3:Anr 108:=fun ok c len j g2 z a2 D u J A k L d y H o g x C h=>AjK ((c-j).toNat+1) ok c len j g2 z a2 D u J A k L d y H o g x C ⟨h.1,h.2.1,h.2.2.1,h.2.2.2,Nat.lt_succ_self _⟩
def Anu (N:Nat):Prop:=∀(g sub:Int) (u pl:Int) (fl z:Int) (j:List Nat) (x P:Rs) (c R:Rs) (D:x=Ax) (J:P=As) (H:c=[]∨∃F k o y w s A,c=[hrow AD F k o y s w A]) (h:u=5∧pl=3∧fl=c.length:=by exact kn),Ok trees N ⟨[g,sub,u,pl,fl,z],[j],[x,P,c,R],[]⟩ fun C=>(∃(d:Mp),C=(0,(⟨[g,sub,u,pl,fl,z],[j],[x,P,c,R],[d]⟩:Ah))∧((c=[]∧d=EE 3)∨(c≠[]∧d=Mn)))
theorem AgP:Anu 105:=by
 intro g sub M pl fl j c N P d R o y A h
 subst o;subst y;obtain ⟨rfl,rfl,J⟩:=h
 refine .of (t:=Xf) rfl ?_
 unfold Xf
 refine md [] ?_
 obtain ⟨_,⟨H,rfl,rfl⟩,D⟩:=Am5 1 5 5 0 g sub 5 3 fl j g sub 5 3 fl j 0 c c Ax Ax As d R Ax As d R [] rfl rfl
 refine ch D ?_
 obtain ⟨_,⟨u,rfl,rfl⟩,z⟩:=Am4 1 3 3 0 g sub 5 3 fl j g sub 5 3 fl j 0 c c As Ax As d R Ax As d R (Dl 5) rfl rfl
 refine ch z ?_
 obtain ⟨_,⟨k,rfl,x⟩,C⟩:=Am3 1 fl fl 0 g sub 5 3 fl j 0 c d Ax As d R (EE 3) A (.inl ⟨rfl,rfl⟩)
 refine ch C ?_
 exact Ai ⟨[g,sub,5,3,fl,j],[c],[Ax,As,d,R],[k]⟩ (⟨_,rfl,‹_›⟩)
def AnE (N n:Nat):Prop:=∀(c len j:Int) (L:Rs) (g:L=Ax) (h:c=5∧len=5∧0≤j∧j≤5∧(5-j).toNat<n),Ok trees N ⟨[c,len,j],[],[L],[]⟩ fun d=>(d=(1,v0))
def Anv (N:Nat):Prop:=∀(c len j:Int) (L:Rs) (g:L=Ax) (h:c=5∧len=5∧0≤j∧j≤5:=by exact kn),Ok trees N ⟨[c,len,j],[],[L],[]⟩ fun d=>(d=(1,v0))
theorem AjN (n:Nat):AnE 104 n:=by
 induction n with
 |zero=>intro x len j L k h;exact absurd h.2.2.2.2 (Nat.not_lt_zero _)
 |succ n ih=>
 intro x len j L k h
 subst k;have ⟨z,y,A,D,C⟩:=h;subst z;subst y
 rcases (by omega:j=0∨j=1∨j=2∨j=3∨j=4∨j=5)with rfl|rfl|rfl|rfl|rfl|rfl
 ·refine .of (t:=FG) rfl ?_
  unfold FG
  refine B9 0 5 ?_
  refine CG 0 0 ?_
  refine B9 0 5 ?_
  refine el (j':=0) rfl ?_
  refine Ek 8 1 ?_
  refine T5 8 4096 ?_
  obtain ⟨_,rfl,u⟩:=ih 5 5 (0+1) Ax rfl kn
  refine cm u ?_
  refine ch u ?_
  exact Ai v0 (rfl)
 ·refine .of (t:=FG) rfl ?_
  unfold FG
  refine B9 1 5 ?_
  refine CG 1 0 ?_
  refine B9 1 5 ?_
  refine el (j':=1) rfl ?_
  refine Ek 4 1 ?_
  refine T5 4 4096 ?_
  obtain ⟨_,rfl,c⟩:=ih 5 5 (1+1) Ax rfl kn
  refine cm c ?_
  refine ch c ?_
  exact Ai v0 (rfl)
 ·refine .of (t:=FG) rfl ?_
  unfold FG
  refine B9 2 5 ?_
  refine CG 2 0 ?_
  refine B9 2 5 ?_
  refine el (j':=2) rfl ?_
  refine Ek 8 1 ?_
  refine T5 8 4096 ?_
  obtain ⟨_,rfl,o⟩:=ih 5 5 (2+1) Ax rfl kn
  refine cm o ?_
  refine ch o ?_
  exact Ai v0 (rfl)
 ·refine .of (t:=FG) rfl ?_
  unfold FG
  refine B9 3 5 ?_
  refine CG 3 0 ?_
  refine B9 3 5 ?_
  refine el (j':=3) rfl ?_
  refine Ek 4 1 ?_
  refine T5 4 4096 ?_
  obtain ⟨_,rfl,g⟩:=ih 5 5 (3+1) Ax rfl kn
  refine cm g ?_
  refine ch g ?_
  exact Ai v0 (rfl)
 ·refine .of (t:=FG) rfl ?_
  unfold FG
  refine B9 4 5 ?_
  refine CG 4 0 ?_
  refine B9 4 5 ?_
  refine el (j':=4) rfl ?_
  refine Ek 4 1 ?_
  refine T5 4 4096 ?_
  obtain ⟨_,rfl,d⟩:=ih 5 5 (4+1) Ax rfl kn
  refine cm d ?_
  refine ch d ?_
  exact Ai v0 (rfl)
 ·refine .of (t:=FG) rfl ?_
  unfold FG
  refine Ek 5 5 ?_
  exact Ai v0 (rfl)
theorem Ys:Anv 104:=fun c len j L d h=>AjN ((5-j).toNat+1) c len j L d ⟨h.1,h.2.1,h.2.2.1,h.2.2.2,Nat.lt_succ_self _⟩
end Go.Proofs.YtbmofjdmgjpfoaaGreatDoor.Am
end
section
set_option maxHeartbeats 4000000
set_option maxRecDepth 100000
namespace Go.Proofs.YtbmofjdmgjpfoaaGreatDoor.Am
open Go.AM Go.AM.K
def Anw (N:Nat):Prop:=∀(g sub:Int) (c pl:Int) (fl o:Int) (d:List Nat) (j P:Rs) (u R:Rs) (x:j=Ax) (hs:C1 g sub) (h:c=5∧(g=4∨g=1∨g=2∨g=8∨g=6):=by exact kn),Ok trees N ⟨[g,sub,c,pl,fl,o],[d],[j,P,u,R],[]⟩ fun k=>(k=(1,v0))
theorem AgQ:Anw 103:=by
 intro g sub al pl fl rl aa Ar P Fs R u hs h
 subst u;obtain ⟨rfl,hg⟩:=h;obtain ⟨k,Z⟩:=hs
 rcases k with rfl|rfl|rfl|rfl
 ·refine .of (t:=IJ) rfl ?_
  unfold IJ
  refine lt g 1 (fun M=>?_) fun M=>?_
  ·exact dead
  refine gt g 256 (fun U=>?_) fun U=>?_
  ·exact dead
  refine Ek 1 1 ?_
  refine T5 1 32 ?_
  refine BW 0 0 ?_ (by decide) (AeV (x:=1) (y:=(1-1)) dn dn (by decide))
  refine AN 1 0 ?_
  refine ne (g%1) 0 (fun Q=>?_) fun Q=>?_
  ·exact dead
  obtain ⟨_,rfl,z⟩:=Ys 5 5 0 Ax rfl
  refine cm z ?_
  refine ch z ?_
  exact Ai v0 (rfl)
 ·refine .of (t:=IJ) rfl ?_
  unfold IJ
  refine lt g 1 (fun X=>?_) fun X=>?_
  ·exact dead
  refine gt g 256 (fun O=>?_) fun O=>?_
  ·exact dead
  refine Ek 2 1 ?_
  refine T5 2 32 ?_
  refine BW 0 0 ?_ (by decide) (AeV (x:=2) (y:=(2-1)) dn dn (by decide))
  refine AN 2 0 ?_
  refine ne (g%2) 0 (fun N=>?_) fun N=>?_
  ·exact dead
  obtain ⟨_,rfl,A⟩:=Ys 5 5 0 Ax rfl
  refine cm A ?_
  refine ch A ?_
  exact Ai v0 (rfl)
 ·refine .of (t:=IJ) rfl ?_
  unfold IJ
  refine lt g 1 (fun J=>?_) fun J=>?_
  ·exact dead
  refine gt g 256 (fun o=>?_) fun o=>?_
  ·exact dead
  refine Ek 4 1 ?_
  refine T5 4 32 ?_
  refine BW 0 0 ?_ (by decide) (AeV (x:=4) (y:=(4-1)) dn dn (by decide))
  refine AN 4 0 ?_
  refine ne (g%4) 0 (fun H=>?_) fun H=>?_
  ·exact dead
  obtain ⟨_,rfl,c⟩:=Ys 5 5 0 Ax rfl
  refine cm c ?_
  refine ch c ?_
  exact Ai v0 (rfl)
 ·refine .of (t:=IJ) rfl ?_
  unfold IJ
  refine lt g 1 (fun j=>?_) fun j=>?_
  ·exact dead
  refine gt g 256 (fun C=>?_) fun C=>?_
  ·exact dead
  refine Ek 8 1 ?_
  refine T5 8 32 ?_
  refine BW 0 0 ?_ (by decide) (AeV (x:=8) (y:=(8-1)) dn dn (by decide))
  refine AN 8 0 ?_
  refine ne (g%8) 0 (fun D=>?_) fun D=>?_
  ·exact dead
  obtain ⟨_,rfl,d⟩:=Ys 5 5 0 Ax rfl
  refine cm d ?_
  refine ch d ?_
  exact Ai v0 (rfl)
def AnA (N n:Nat):Prop:=∀(u c:Int) (j g:Int) (sub k:Int) (pl fl:Int) (H g2:Int) (y a2:Int) (O M:Int) (Z D:Int) (x C:List Nat) (o P:Rs) (d R:Rs) (z U:Rs) (X J:Rs) (A:Mp) (aa:o=Ax) (hK:Hh d) (h:(j=0∨j=1)∧u=0∧c=d.length∧fl=c∧j≤c∧k=5∧(c-j).toNat<n),Ok trees N ⟨[u,c,j,g,sub,k,pl,fl,H,g2,y,a2,O,M,Z,D],[x,C],[o,P,d,R,z,U,X,J],[A]⟩ fun Q=>(Q=(0,(⟨[0],[],[],[]⟩:Ah)))
def Anq (N:Nat):Prop:=∀(u c:Int) (j g:Int) (sub k:Int) (pl fl:Int) (H g2:Int) (y a2:Int) (O M:Int) (Z D:Int) (x C:List Nat) (o P:Rs) (d R:Rs) (z U:Rs) (X J:Rs) (A:Mp) (aa:o=Ax) (hK:Hh d) (h:(j=0∨j=1)∧u=0∧c=d.length∧fl=c∧j≤c∧k=5:=by exact kn),Ok trees N ⟨[u,c,j,g,sub,k,pl,fl,H,g2,y,a2,O,M,Z,D],[x,C],[o,P,d,R,z,U,X,J],[A]⟩ fun Q=>(Q=(0,(⟨[0],[],[],[]⟩:Ah)))
theorem AjJ (n:Nat):AnA 109 n:=by
 induction n with
 |zero=>intro e0 nf j g sub al pl fl k g2 N a2 Q D Z O d y o P Fs R u M U A x c C h;exact absurd h.2.2.2.2.2.2 (Nat.not_lt_zero _)
 |succ n ih=>
 intro e0 nf j g sub al pl fl k g2 N a2 Q D Z O d y o P Fs R u M U A x c C h
 rcases C with rfl|⟨fb,fa,Γe,rk,ro,ry,rw,rs,rfl,hO,hT,hd,hn,hrn,hrh⟩<;>simp only [lC,lN]at h<;>rcases h.1 with rfl|rfl
 ·obtain ⟨_,rfl,rfl,rfl,_,rfl,_⟩:=h;skip
  refine .of (t:=Ly) rfl ?_
  unfold Ly
  refine Ek 0 0 ?_
  exact Ai ⟨[0],[],[],[]⟩ (rfl)
 ·exfalso;omega
 ·obtain ⟨_,rfl,rfl,rfl,_,rfl,_⟩:=h;have J:(AD.length:Int)=2:=rfl;have H:=S.len fb;have z:=S.Az fb;have X:=E.Az fa;have hk:=hT.kind
  refine .of (t:=Ly) rfl ?_
  unfold Ly
  refine B9 0 1 ?_
  refine BF 0 0 ?_
  obtain ⟨_,rfl,G1⟩:=Am2 g sub 5 pl 1 k 0 d o P [hrow AD (S.Ab fb) rk ro ry rs rw (E.Ab fa)] R c rfl hO hT
  refine ch G1 ?_
  obtain ⟨_,rfl,G2⟩:=ih 0 1 (0+1) g sub 5 pl 1 k g2 N a2 Q D Z O d y o P [hrow AD (S.Ab fb) rk ro ry rs rw (E.Ab fa)] R u M U A x c (.inr ⟨_,_,_,_,_,_,_,_,rfl,hO,hT,hd,hn,hrn,hrh⟩) kn
  refine ch G2 ?_
  exact Ai ⟨[0],[],[],[]⟩ (rfl)
 ·obtain ⟨_,rfl,rfl,rfl,_,rfl,_⟩:=h;have J:(AD.length:Int)=2:=rfl;have H:=S.len fb;have z:=S.Az fb;have X:=E.Az fa;have hk:=hT.kind
  refine .of (t:=Ly) rfl ?_
  unfold Ly
  refine Ek 1 1 ?_
  exact Ai ⟨[0],[],[],[]⟩ (rfl)
theorem AgO:Anq 109:=fun Q k j g sub o pl fl z g2 M a2 U D Z O d y N P J R u H X A x c C h=>AjJ ((k-j).toNat+1) Q k j g sub o pl fl z g2 M a2 U D Z O d y N P J R u H X A x c C ⟨h.1,h.2.1,h.2.2.1,h.2.2.2.1,h.2.2.2.2.1,h.2.2.2.2.2,Nat.lt_succ_self _⟩
def AqL (N n:Nat):Prop:=∀(c len:Int) (j g:Int) (sub u:Int) (pl fl:Int) (y k:Int) (o:List Nat) (L x:Rs) (P A R:Rs) (C:Hh L) (h:(j=0∨j=1)∧c=L.length∧len=c∧j≤c∧0≤k∧k+180*(1-j)≤180∧(c-j).toNat<n),Ok trees N ⟨[c,len,j,g,sub,u,pl,fl,y,k],[o],[L,x,P,A,R],[]⟩ fun z=>(∃(d:Int),z=(0,(⟨[d],[],[],[]⟩:Ah))∧(0≤d)∧(d≤180))
def Aqv (N:Nat):Prop:=∀(d len:Int) (j g:Int) (sub u:Int) (pl fl:Int) (y k:Int) (o:List Nat) (L x:Rs) (P A R:Rs) (C:Hh L) (h:(j=0∨j=1)∧d=L.length∧len=d∧j≤d∧0≤k∧k+180*(1-j)≤180:=by exact kn),Ok trees N ⟨[d,len,j,g,sub,u,pl,fl,y,k],[o],[L,x,P,A,R],[]⟩ fun z=>(∃(c:Int),z=(0,(⟨[c],[],[],[]⟩:Ah))∧(0≤c)∧(c≤180))
theorem Aor (n:Nat):AqL 51 n:=by
 induction n with
 |zero=>intro ln len j g sub z pl fl C c k L N P M R D h;exact absurd h.2.2.2.2.2.2 (Nat.not_lt_zero _)
 |succ n ih=>
 intro ln len j g sub z pl fl C c k L N P M R D h
 rcases D with rfl|⟨fb,fa,Γe,rk,ro,ry,rw,rs,rfl,hO,hT,hd,hn,hrn,hrh⟩<;>simp only [lC,lN]at h<;>rcases h.1 with rfl|rfl
 ·obtain ⟨_,rfl,rfl,_,d,o,_⟩:=h;skip
  refine .of (t:=SA) rfl ?_
  unfold SA
  refine Ek 0 0 ?_
  exact Ai ⟨[c],[],[],[]⟩ (⟨_,rfl,kn,kn⟩)
 ·exfalso;omega
 ·obtain ⟨_,rfl,rfl,_,d,o,_⟩:=h;have J:(AD.length:Int)=2:=rfl;have H:=S.len fb;have A:=S.Az fb;have O:=E.Az fa;have hk:=hT.kind
  refine .of (t:=SA) rfl ?_
  unfold SA
  refine B9 0 1 ?_
  refine CG 0 0 ?_
  refine B9 0 1 ?_
  refine el (j':=0) rfl ?_
  refine T5 (AD.length:Int) 8 ?_
  obtain ⟨_,⟨u,rfl,U⟩,G1⟩:=Amf ((S.Ab fb).length:Int) 1 c (S.Ab fb) hO.pl rfl
  refine ch G1 ?_
  obtain ⟨_,⟨y,rfl,ac⟩,G2⟩:=Ame rk ro ry rw ((E.Ab fa).length:Int) 1 u rs (E.Ab fa) hT rfl
  refine ch G2 ?_
  obtain ⟨_,⟨x,rfl,Q,Z⟩,X⟩:=ih 1 1 (0+1) g sub z pl fl C y k [hrow AD (S.Ab fb) rk ro ry rs rw (E.Ab fa)] N P M R (.inr ⟨_,_,_,_,_,_,_,_,rfl,hO,hT,hd,hn,hrn,hrh⟩) kn
  refine ch X ?_
  exact Ai ⟨[x],[],[],[]⟩ (⟨_,rfl,kn,kn⟩)
 ·obtain ⟨_,rfl,rfl,_,d,o,_⟩:=h;have J:(AD.length:Int)=2:=rfl;have H:=S.len fb;have A:=S.Az fb;have O:=E.Az fa;have hk:=hT.kind
  refine .of (t:=SA) rfl ?_
  unfold SA
  refine Ek 1 1 ?_
  exact Ai ⟨[c],[],[],[]⟩ (⟨_,rfl,kn,kn⟩)
theorem Ape:Aqv 51:=fun c len j g sub k pl fl x o d L u P z R y h=>Aor ((c-j).toNat+1) c len j g sub k pl fl x o d L u P z R y ⟨h.1,h.2.1,h.2.2.1,h.2.2.2.1,h.2.2.2.2.1,h.2.2.2.2.2,Nat.lt_succ_self _⟩
def Aqw (N:Nat):Prop:=∀{l:List S} (g sub:Int) (d pl:Int) (fl k:Int) (j:List Nat) (o P:Rs) (c R:Rs) (z:Hh c) (y:R=S.Ab l) (x:PL l) (h:d=5∧pl=3∧fl=c.length∧fl≤1∧k=R.length∧S.Ae l≤1600∧S.Au l≤10:=by exact kn),Ok trees N ⟨[g,sub,d,pl,fl,k],[j],[o,P,c,R],[]⟩ fun u=>(u=(0,v0))
theorem Apf:Aqw 50:=by
 intro l g sub j pl fl k o y P x R D J u h
 subst J;have Q:=S.len l;have O:=S.Az l
 refine .of (t:=Aef) rfl ?_
 unfold Aef
 refine T5 j 8 ?_
 refine T5 pl 8 ?_
 refine T5 fl 8 ?_
 obtain ⟨_,⟨c,rfl,A,N⟩,M⟩:=Ape fl fl 0 g sub j pl fl k 0 o x y P x (S.Ab l) D
 refine ch M ?_
 obtain ⟨_,⟨d,rfl,z⟩,H⟩:=Amf k 1 c (S.Ab l) u rfl
 refine ch H ?_
 refine le d 2000 (fun C=>?_) fun C=>?_
 ·exact Ai v0 (rfl)
 exact dead
end Go.Proofs.YtbmofjdmgjpfoaaGreatDoor.Am
end
section
set_option maxHeartbeats 40000000
set_option maxRecDepth 100000
namespace Go.Proofs.YtbmofjdmgjpfoaaGreatDoor.Am
open Go.AM Go.AM.K
def AqB (N n:Nat):Prop:=∀(k len:Int) (j g:Int) (sub x:Int) (pl fl:Int) (z d:Int) (o:List Nat) (L y:Rs) (P A R:Rs) (C:L=Ax) (h:k=5∧len=5∧0≤j∧j≤5∧0≤d∧d+200*(5-j)≤900000∧(5-j).toNat<n),Ok trees N ⟨[k,len,j,g,sub,x,pl,fl,z,d],[o],[L,y,P,A,R],[]⟩ fun u=>(u=(0,v0))∨(∃(c:Int),u=(1,(⟨[c],[],[],[]⟩:Ah))∧(c≤d+200*(5-j))∧(d≤c))
def ApW (N:Nat):Prop:=∀(k len:Int) (j g:Int) (sub x:Int) (pl fl:Int) (z d:Int) (o:List Nat) (L y:Rs) (P A R:Rs) (C:L=Ax) (h:k=5∧len=5∧0≤j∧j≤5∧0≤d∧d+200*(5-j)≤900000:=by exact kn),Ok trees N ⟨[k,len,j,g,sub,x,pl,fl,z,d],[o],[L,y,P,A,R],[]⟩ fun u=>(u=(0,v0))∨(∃(c:Int),u=(1,(⟨[c],[],[],[]⟩:Ah))∧(c≤d+200*(5-j))∧(d≤c))
theorem Aoe (n:Nat):AqB 78 n:=by
 induction n with
 |zero=>intro ln len j g sub k pl fl o c d L x P u R U h;exact absurd h.2.2.2.2.2.2 (Nat.not_lt_zero _)
 |succ n ih=>
 intro ln len j g sub k pl fl o c d L x P u R U h
 subst U;have ⟨h1,h2,au,ax,av,aq,aw⟩:=h;subst h1;subst h2
 rcases (by omega:j=0∨j=1∨j=2∨j=3∨j=4∨j=5)with rfl|rfl|rfl|rfl|rfl|rfl
 ·refine .of (t:=JE) rfl ?_
  unfold JE
  refine B9 0 5 ?_
  refine CG 0 0 ?_
  refine B9 0 5 ?_
  refine el (j':=0) rfl ?_
  refine Ek (1-1) 0 ?_
  refine Jt (1-1) 3 ?_
  refine BF (1-1) 0 ?_
  refine bu c ?_
  refine bu (c+6) ?_
  refine nv ⟨[5,5,0,g,sub,k,pl,fl,o,c,1,1,8,(c+6),((c+6)+1)],[d,[97]],[Ax,x,P,u,R],[]⟩ ?_
  obtain ⟨_,rfl,G1⟩:=Ge [97] (by decide)
  refine ch G1 ?_
  refine sl [97] ?_
  refine bu ((c+6)+1) ?_
  refine bu (((c+6)+1)+64) ?_
  refine nv ⟨[5,5,0,g,sub,k,pl,fl,o,c,1,1,8,(c+6),((c+6)+1),([97].length:Int),(((c+6)+1)+64),((((c+6)+1)+64)+1)],[d,[97]],[Ax,x,P,u,R],[]⟩ ?_
  refine Ek (1-1) 0 ?_
  refine Jt (1-1) 3 ?_
  refine BF (1-1) 0 ?_
  refine bu ((((c+6)+1)+64)+1) ?_
  refine CG 8 (-9223372036854775808) ?_
  refine FM 8 9223372036854775807 ?_
  refine bu (((((c+6)+1)+64)+1)+3) ?_
  refine nv ⟨[5,5,0,g,sub,k,pl,fl,o,c,1,1,8,(c+6),((c+6)+1),([97].length:Int),(((c+6)+1)+64),((((c+6)+1)+64)+1),(((((c+6)+1)+64)+1)+3),((((((c+6)+1)+64)+1)+3)+1)],[d,[97]],[Ax,x,P,u,R],[]⟩ ?_
  refine bu ((((((c+6)+1)+64)+1)+3)+1) ?_
  refine bu (((((((c+6)+1)+64)+1)+3)+1)+21) ?_
  refine nv ⟨[5,5,0,g,sub,k,pl,fl,o,c,1,1,8,(c+6),((c+6)+1),([97].length:Int),(((c+6)+1)+64),((((c+6)+1)+64)+1),(((((c+6)+1)+64)+1)+3),((((((c+6)+1)+64)+1)+3)+1),(((((((c+6)+1)+64)+1)+3)+1)+21),((((((((c+6)+1)+64)+1)+3)+1)+21)+1)],[d,[97]],[Ax,x,P,u,R],[]⟩ ?_
  obtain ⟨_,(rfl|⟨D,rfl,ac,Z⟩),O⟩:=ih 5 5 (0+1) g sub k pl fl o ((((((((c+6)+1)+64)+1)+3)+1)+21)+1) d Ax x P u R rfl kn
  ·refine ch O ?_
   exact Ai ⟨[((((((((c+6)+1)+64)+1)+3)+1)+21)+1)],[],[],[]⟩ (.inr ((⟨_,rfl,kn,kn⟩)))
  refine cm O ?_
  refine ch O ?_
  exact Ai ⟨[D],[],[],[]⟩ (.inr ((⟨_,rfl,kn,kn⟩)))
 ·refine .of (t:=JE) rfl ?_
  unfold JE
  refine B9 1 5 ?_
  refine CG 1 0 ?_
  refine B9 1 5 ?_
  refine el (j':=1) rfl ?_
  refine Ek (1-1) 0 ?_
  refine Jt (1-1) 3 ?_
  refine BF (1-1) 0 ?_
  refine bu c ?_
  refine bu (c+6) ?_
  refine nv ⟨[5,5,1,g,sub,k,pl,fl,o,c,1,2,4,(c+6),((c+6)+1)],[d,[102]],[Ax,x,P,u,R],[]⟩ ?_
  obtain ⟨_,rfl,G3⟩:=Ge [102] (by decide)
  refine ch G3 ?_
  refine sl [102] ?_
  refine bu ((c+6)+1) ?_
  refine bu (((c+6)+1)+64) ?_
  refine nv ⟨[5,5,1,g,sub,k,pl,fl,o,c,1,2,4,(c+6),((c+6)+1),([102].length:Int),(((c+6)+1)+64),((((c+6)+1)+64)+1)],[d,[102]],[Ax,x,P,u,R],[]⟩ ?_
  refine Ek (2-1) 0 ?_
  refine Jt (2-1) 3 ?_
  refine AN (2-1) 0 ?_
  refine BF (2-1) 1 ?_
  refine bu ((((c+6)+1)+64)+1) ?_
  refine CG 4 (-9223372036854775808) ?_
  refine FM 4 9223372036854775807 ?_
  refine bu (((((c+6)+1)+64)+1)+3) ?_
  refine nv ⟨[5,5,1,g,sub,k,pl,fl,o,c,1,2,4,(c+6),((c+6)+1),([102].length:Int),(((c+6)+1)+64),((((c+6)+1)+64)+1),(((((c+6)+1)+64)+1)+3),((((((c+6)+1)+64)+1)+3)+1)],[d,[102]],[Ax,x,P,u,R],[]⟩ ?_
  refine bu ((((((c+6)+1)+64)+1)+3)+1) ?_
  refine bu (((((((c+6)+1)+64)+1)+3)+1)+21) ?_
  refine nv ⟨[5,5,1,g,sub,k,pl,fl,o,c,1,2,4,(c+6),((c+6)+1),([102].length:Int),(((c+6)+1)+64),((((c+6)+1)+64)+1),(((((c+6)+1)+64)+1)+3),((((((c+6)+1)+64)+1)+3)+1),(((((((c+6)+1)+64)+1)+3)+1)+21),((((((((c+6)+1)+64)+1)+3)+1)+21)+1)],[d,[102]],[Ax,x,P,u,R],[]⟩ ?_
  obtain ⟨_,(rfl|⟨C,rfl,ab,af⟩),M⟩:=ih 5 5 (1+1) g sub k pl fl o ((((((((c+6)+1)+64)+1)+3)+1)+21)+1) d Ax x P u R rfl kn
  ·refine ch M ?_
   exact Ai ⟨[((((((((c+6)+1)+64)+1)+3)+1)+21)+1)],[],[],[]⟩ (.inr ((⟨_,rfl,kn,kn⟩)))
  refine cm M ?_
  refine ch M ?_
  exact Ai ⟨[C],[],[],[]⟩ (.inr ((⟨_,rfl,kn,kn⟩)))
 ·refine .of (t:=JE) rfl ?_
  unfold JE
  refine B9 2 5 ?_
  refine CG 2 0 ?_
  refine B9 2 5 ?_
  refine el (j':=2) rfl ?_
  refine Ek (2-1) 0 ?_
  refine Jt (2-1) 3 ?_
  refine AN (2-1) 0 ?_
  refine BF (2-1) 1 ?_
  refine bu c ?_
  refine bu (c+6) ?_
  refine nv ⟨[5,5,2,g,sub,k,pl,fl,o,c,2,1,8,(c+6),((c+6)+1)],[d,[115]],[Ax,x,P,u,R],[]⟩ ?_
  obtain ⟨_,rfl,G5⟩:=Ge [115] (by decide)
  refine ch G5 ?_
  refine sl [115] ?_
  refine bu ((c+6)+1) ?_
  refine bu (((c+6)+1)+64) ?_
  refine nv ⟨[5,5,2,g,sub,k,pl,fl,o,c,2,1,8,(c+6),((c+6)+1),([115].length:Int),(((c+6)+1)+64),((((c+6)+1)+64)+1)],[d,[115]],[Ax,x,P,u,R],[]⟩ ?_
  refine Ek (1-1) 0 ?_
  refine Jt (1-1) 3 ?_
  refine BF (1-1) 0 ?_
  refine bu ((((c+6)+1)+64)+1) ?_
  refine CG 8 (-9223372036854775808) ?_
  refine FM 8 9223372036854775807 ?_
  refine bu (((((c+6)+1)+64)+1)+3) ?_
  refine nv ⟨[5,5,2,g,sub,k,pl,fl,o,c,2,1,8,(c+6),((c+6)+1),([115].length:Int),(((c+6)+1)+64),((((c+6)+1)+64)+1),(((((c+6)+1)+64)+1)+3),((((((c+6)+1)+64)+1)+3)+1)],[d,[115]],[Ax,x,P,u,R],[]⟩ ?_
  refine bu ((((((c+6)+1)+64)+1)+3)+1) ?_
  refine bu (((((((c+6)+1)+64)+1)+3)+1)+21) ?_
  refine nv ⟨[5,5,2,g,sub,k,pl,fl,o,c,2,1,8,(c+6),((c+6)+1),([115].length:Int),(((c+6)+1)+64),((((c+6)+1)+64)+1),(((((c+6)+1)+64)+1)+3),((((((c+6)+1)+64)+1)+3)+1),(((((((c+6)+1)+64)+1)+3)+1)+21),((((((((c+6)+1)+64)+1)+3)+1)+21)+1)],[d,[115]],[Ax,x,P,u,R],[]⟩ ?_
  obtain ⟨_,(rfl|⟨A,rfl,ad,ae⟩),J⟩:=ih 5 5 (2+1) g sub k pl fl o ((((((((c+6)+1)+64)+1)+3)+1)+21)+1) d Ax x P u R rfl kn
  ·refine ch J ?_
   exact Ai ⟨[((((((((c+6)+1)+64)+1)+3)+1)+21)+1)],[],[],[]⟩ (.inr ((⟨_,rfl,kn,kn⟩)))
  refine cm J ?_
  refine ch J ?_
  exact Ai ⟨[A],[],[],[]⟩ (.inr ((⟨_,rfl,kn,kn⟩)))
 ·refine .of (t:=JE) rfl ?_
  unfold JE
  refine B9 3 5 ?_
  refine CG 3 0 ?_
  refine B9 3 5 ?_
  refine el (j':=3) rfl ?_
  refine Ek (3-1) 0 ?_
  refine Jt (3-1) 3 ?_
  refine AN (3-1) 0 ?_
  refine AN (3-1) 1 ?_
  refine BF (3-1) 2 ?_
  refine bu c ?_
  refine bu (c+7) ?_
  refine nv ⟨[5,5,3,g,sub,k,pl,fl,o,c,3,1,4,(c+7),((c+7)+1)],[d,[112]],[Ax,x,P,u,R],[]⟩ ?_
  obtain ⟨_,rfl,G7⟩:=Ge [112] (by decide)
  refine ch G7 ?_
  refine sl [112] ?_
  refine bu ((c+7)+1) ?_
  refine bu (((c+7)+1)+64) ?_
  refine nv ⟨[5,5,3,g,sub,k,pl,fl,o,c,3,1,4,(c+7),((c+7)+1),([112].length:Int),(((c+7)+1)+64),((((c+7)+1)+64)+1)],[d,[112]],[Ax,x,P,u,R],[]⟩ ?_
  refine Ek (1-1) 0 ?_
  refine Jt (1-1) 3 ?_
  refine BF (1-1) 0 ?_
  refine bu ((((c+7)+1)+64)+1) ?_
  refine CG 4 (-9223372036854775808) ?_
  refine FM 4 9223372036854775807 ?_
  refine bu (((((c+7)+1)+64)+1)+3) ?_
  refine nv ⟨[5,5,3,g,sub,k,pl,fl,o,c,3,1,4,(c+7),((c+7)+1),([112].length:Int),(((c+7)+1)+64),((((c+7)+1)+64)+1),(((((c+7)+1)+64)+1)+3),((((((c+7)+1)+64)+1)+3)+1)],[d,[112]],[Ax,x,P,u,R],[]⟩ ?_
  refine bu ((((((c+7)+1)+64)+1)+3)+1) ?_
  refine bu (((((((c+7)+1)+64)+1)+3)+1)+21) ?_
  refine nv ⟨[5,5,3,g,sub,k,pl,fl,o,c,3,1,4,(c+7),((c+7)+1),([112].length:Int),(((c+7)+1)+64),((((c+7)+1)+64)+1),(((((c+7)+1)+64)+1)+3),((((((c+7)+1)+64)+1)+3)+1),(((((((c+7)+1)+64)+1)+3)+1)+21),((((((((c+7)+1)+64)+1)+3)+1)+21)+1)],[d,[112]],[Ax,x,P,u,R],[]⟩ ?_
  obtain ⟨_,(rfl|⟨H,rfl,ag,aa⟩),N⟩:=ih 5 5 (3+1) g sub k pl fl o ((((((((c+7)+1)+64)+1)+3)+1)+21)+1) d Ax x P u R rfl kn
  ·refine ch N ?_
   exact Ai ⟨[((((((((c+7)+1)+64)+1)+3)+1)+21)+1)],[],[],[]⟩ (.inr ((⟨_,rfl,kn,kn⟩)))
  refine cm N ?_
  refine ch N ?_
  exact Ai ⟨[H],[],[],[]⟩ (.inr ((⟨_,rfl,kn,kn⟩)))
 ·refine .of (t:=JE) rfl ?_
  unfold JE
  refine B9 4 5 ?_
  refine CG 4 0 ?_
  refine B9 4 5 ?_
  refine el (j':=4) rfl ?_
  refine Ek (2-1) 0 ?_
  refine Jt (2-1) 3 ?_
  refine AN (2-1) 0 ?_
  refine BF (2-1) 1 ?_
  refine bu c ?_
  refine bu (c+6) ?_
  refine nv ⟨[5,5,4,g,sub,k,pl,fl,o,c,2,3,4,(c+6),((c+6)+1)],[d,[98]],[Ax,x,P,u,R],[]⟩ ?_
  obtain ⟨_,rfl,G9⟩:=Ge [98] (by decide)
  refine ch G9 ?_
  refine sl [98] ?_
  refine bu ((c+6)+1) ?_
  refine bu (((c+6)+1)+64) ?_
  refine nv ⟨[5,5,4,g,sub,k,pl,fl,o,c,2,3,4,(c+6),((c+6)+1),([98].length:Int),(((c+6)+1)+64),((((c+6)+1)+64)+1)],[d,[98]],[Ax,x,P,u,R],[]⟩ ?_
  refine Ek (3-1) 0 ?_
  refine Jt (3-1) 3 ?_
  refine AN (3-1) 0 ?_
  refine AN (3-1) 1 ?_
  refine BF (3-1) 2 ?_
  refine bu ((((c+6)+1)+64)+1) ?_
  refine CG 4 (-9223372036854775808) ?_
  refine FM 4 9223372036854775807 ?_
  refine bu (((((c+6)+1)+64)+1)+4) ?_
  refine nv ⟨[5,5,4,g,sub,k,pl,fl,o,c,2,3,4,(c+6),((c+6)+1),([98].length:Int),(((c+6)+1)+64),((((c+6)+1)+64)+1),(((((c+6)+1)+64)+1)+4),((((((c+6)+1)+64)+1)+4)+1)],[d,[98]],[Ax,x,P,u,R],[]⟩ ?_
  refine bu ((((((c+6)+1)+64)+1)+4)+1) ?_
  refine bu (((((((c+6)+1)+64)+1)+4)+1)+21) ?_
  refine nv ⟨[5,5,4,g,sub,k,pl,fl,o,c,2,3,4,(c+6),((c+6)+1),([98].length:Int),(((c+6)+1)+64),((((c+6)+1)+64)+1),(((((c+6)+1)+64)+1)+4),((((((c+6)+1)+64)+1)+4)+1),(((((((c+6)+1)+64)+1)+4)+1)+21),((((((((c+6)+1)+64)+1)+4)+1)+21)+1)],[d,[98]],[Ax,x,P,u,R],[]⟩ ?_
  obtain ⟨_,(rfl|⟨z,rfl,X,Q⟩),y⟩:=ih 5 5 (4+1) g sub k pl fl o ((((((((c+6)+1)+64)+1)+4)+1)+21)+1) d Ax x P u R rfl kn
  ·refine ch y ?_
   exact Ai ⟨[((((((((c+6)+1)+64)+1)+4)+1)+21)+1)],[],[],[]⟩ (.inr ((⟨_,rfl,kn,kn⟩)))
  refine cm y ?_
  refine ch y ?_
  exact Ai ⟨[z],[],[],[]⟩ (.inr ((⟨_,rfl,kn,kn⟩)))
 ·refine .of (t:=JE) rfl ?_
  unfold JE
  refine Ek 5 5 ?_
  exact Ai v0 (.inl rfl)
theorem AoQ:ApW 78:=fun k len j g sub d pl fl x y c L u P z R o h=>Aoe ((5-j).toNat+1) k len j g sub d pl fl x y c L u P z R o ⟨h.1,h.2.1,h.2.2.1,h.2.2.2.1,h.2.2.2.2.1,h.2.2.2.2.2,Nat.lt_succ_self _⟩
end Go.Proofs.YtbmofjdmgjpfoaaGreatDoor.Am
end
section
set_option maxHeartbeats 40000000
set_option maxRecDepth 100000
namespace Go.Proofs.YtbmofjdmgjpfoaaGreatDoor.Am
open Go.AM Go.AM.K
def AnF (N n:Nat):Prop:=∀(g len:Int) (j p1:Int) (k u:Int) (J A:Int) (z M:Int) (D d:Int) (o x:List Nat) (L H:Rs) (O C:Rs) (P:L=AD) (h:g=2∧len=2∧0≤j∧j≤2∧0≤d∧d+200*(2-j)≤900000∧(2-j).toNat<n),Ok trees N ⟨[g,len,j,p1,k,u,J,A,z,M,D,d],[o,x],[L,H,O,C],[]⟩ fun y=>(y=(0,v0))∨(∃(c:Int),y=(1,(⟨[c],[],[],[]⟩:Ah))∧(c≤d+200*(2-j))∧(d≤c))
def Anx (N:Nat):Prop:=∀(g len:Int) (j p1:Int) (k u:Int) (J A:Int) (z M:Int) (D d:Int) (o x:List Nat) (L H:Rs) (O C:Rs) (P:L=AD) (h:g=2∧len=2∧0≤j∧j≤2∧0≤d∧d+200*(2-j)≤900000:=by exact kn),Ok trees N ⟨[g,len,j,p1,k,u,J,A,z,M,D,d],[o,x],[L,H,O,C],[]⟩ fun y=>(y=(0,v0))∨(∃(c:Int),y=(1,(⟨[c],[],[],[]⟩:Ah))∧(c≤d+200*(2-j))∧(d≤c))
theorem AjO (n:Nat):AnF 102 n:=by
 induction n with
 |zero=>intro ln len j p1 d k z A u D y c g o L C H x P h;exact absurd h.2.2.2.2.2.2 (Nat.not_lt_zero _)
 |succ n ih=>
 intro ln len j p1 d k z A u D y c g o L C H x P h
 subst P;have ⟨h1,Z,af,ai,ag,ae,ah⟩:=h;subst h1;subst Z
 rcases (by omega:j=0∨j=1∨j=2)with rfl|rfl|rfl
 ·refine .of (t:=LA) rfl ?_
  unfold LA
  refine B9 0 2 ?_
  refine CG 0 0 ?_
  refine B9 0 2 ?_
  refine el (j':=0) rfl ?_
  refine T5 0 0 ?_
  obtain ⟨_,rfl,G1⟩:=Ge [120] (by decide)
  refine ch G1 ?_
  refine sl [120] ?_
  refine bu c ?_
  refine bu (c+64) ?_
  refine nv ⟨[2,2,0,p1,d,k,z,A,u,D,y,c,1,([120].length:Int),(c+64),((c+64)+1)],[g,o,[120]],[AD,C,H,x],[]⟩ ?_
  refine Ek (1-1) 0 ?_
  refine Jt (1-1) 3 ?_
  refine BF (1-1) 0 ?_
  refine bu ((c+64)+1) ?_
  obtain ⟨_,(rfl|⟨M,rfl,U,Q⟩),O⟩:=ih 2 2 (0+1) p1 d k z A u D y (((c+64)+1)+3) g o AD C H x rfl kn
  ·refine ch O ?_
   exact Ai ⟨[(((c+64)+1)+3)],[],[],[]⟩ (.inr ((⟨_,rfl,kn,kn⟩)))
  refine cm O ?_
  refine ch O ?_
  exact Ai ⟨[M],[],[],[]⟩ (.inr ((⟨_,rfl,kn,kn⟩)))
 ·refine .of (t:=LA) rfl ?_
  unfold LA
  refine B9 1 2 ?_
  refine CG 1 0 ?_
  refine B9 1 2 ?_
  refine el (j':=1) rfl ?_
  refine gtY 1 0 ?_
  refine bu c ?_
  refine nv ⟨[2,2,1,p1,d,k,z,A,u,D,y,c,1,(c+2)],[g,o,[121]],[AD,C,H,x],[]⟩ ?_
  obtain ⟨_,rfl,G3⟩:=Ge [121] (by decide)
  refine ch G3 ?_
  refine sl [121] ?_
  refine bu (c+2) ?_
  refine bu ((c+2)+64) ?_
  refine nv ⟨[2,2,1,p1,d,k,z,A,u,D,y,c,1,(c+2),([121].length:Int),((c+2)+64),(((c+2)+64)+1)],[g,o,[121]],[AD,C,H,x],[]⟩ ?_
  refine Ek (1-1) 0 ?_
  refine Jt (1-1) 3 ?_
  refine BF (1-1) 0 ?_
  refine bu (((c+2)+64)+1) ?_
  obtain ⟨_,(rfl|⟨J,rfl,R,X⟩),N⟩:=ih 2 2 (1+1) p1 d k z A u D y ((((c+2)+64)+1)+3) g o AD C H x rfl kn
  ·refine ch N ?_
   exact Ai ⟨[((((c+2)+64)+1)+3)],[],[],[]⟩ (.inr ((⟨_,rfl,kn,kn⟩)))
  refine cm N ?_
  refine ch N ?_
  exact Ai ⟨[J],[],[],[]⟩ (.inr ((⟨_,rfl,kn,kn⟩)))
 ·refine .of (t:=LA) rfl ?_
  unfold LA
  refine Ek 2 2 ?_
  exact Ai v0 (.inl rfl)
theorem Am6:Anx 102:=fun A len j p1 c g y C o H x J d k L D M u z h=>AjO ((2-j).toNat+1) A len j p1 c g y C o H x J d k L D M u z ⟨h.1,h.2.1,h.2.2.1,h.2.2.2.1,h.2.2.2.2.1,h.2.2.2.2.2,Nat.lt_succ_self _⟩
def AqA (N n:Nat):Prop:=∀(k len:Int) (j g:Int) (sub x:Int) (pl fl:Int) (z d:Int) (o:List Nat) (L y:Rs) (P A R:Rs) (C:L=As) (h:k=3∧len=3∧0≤j∧j≤3∧0≤d∧d+200*(3-j)≤900000∧(3-j).toNat<n),Ok trees N ⟨[k,len,j,g,sub,x,pl,fl,z,d],[o],[L,y,P,A,R],[]⟩ fun u=>(u=(0,v0))∨(∃(c:Int),u=(1,(⟨[c],[],[],[]⟩:Ah))∧(c≤d+200*(3-j))∧(d≤c))
def ApV (N:Nat):Prop:=∀(k len:Int) (j g:Int) (sub x:Int) (pl fl:Int) (z d:Int) (o:List Nat) (L y:Rs) (P A R:Rs) (C:L=As) (h:k=3∧len=3∧0≤j∧j≤3∧0≤d∧d+200*(3-j)≤900000:=by exact kn),Ok trees N ⟨[k,len,j,g,sub,x,pl,fl,z,d],[o],[L,y,P,A,R],[]⟩ fun u=>(u=(0,v0))∨(∃(c:Int),u=(1,(⟨[c],[],[],[]⟩:Ah))∧(c≤d+200*(3-j))∧(d≤c))
theorem Aod (n:Nat):AqA 79 n:=by
 induction n with
 |zero=>intro ln len j g sub k pl fl o c d L x P u R J h;exact absurd h.2.2.2.2.2.2 (Nat.not_lt_zero _)
 |succ n ih=>
 intro ln len j g sub k pl fl o c d L x P u R J h
 subst J;have ⟨h1,Z,ag,aj,ah,af,ai⟩:=h;subst h1;subst Z
 rcases (by omega:j=0∨j=1∨j=2∨j=3)with rfl|rfl|rfl|rfl
 ·refine .of (t:=O0) rfl ?_
  unfold O0
  refine B9 0 3 ?_
  refine CG 0 0 ?_
  refine B9 0 3 ?_
  refine el (j':=0) rfl ?_
  refine bu c ?_
  refine nv ⟨[3,3,0,g,sub,k,pl,fl,o,c,1,(c+6)],[d,[110]],[As,x,P,u,R],[]⟩ ?_
  obtain ⟨_,rfl,G1⟩:=Ge [110] (by decide)
  refine ch G1 ?_
  refine sl [110] ?_
  refine bu (c+6) ?_
  refine bu ((c+6)+64) ?_
  refine nv ⟨[3,3,0,g,sub,k,pl,fl,o,c,1,(c+6),([110].length:Int),((c+6)+64),(((c+6)+64)+1)],[d,[110]],[As,x,P,u,R],[]⟩ ?_
  refine Ek (1-1) 0 ?_
  refine Jt (1-1) 3 ?_
  refine BF (1-1) 0 ?_
  refine bu (((c+6)+64)+1) ?_
  refine bu ((((c+6)+64)+1)+3) ?_
  refine nv ⟨[3,3,0,g,sub,k,pl,fl,o,c,1,(c+6),([110].length:Int),((c+6)+64),(((c+6)+64)+1),((((c+6)+64)+1)+3),(((((c+6)+64)+1)+3)+1)],[d,[110]],[As,x,P,u,R],[]⟩ ?_
  obtain ⟨_,(rfl|⟨A,rfl,O,M⟩),H⟩:=ih 3 3 (0+1) g sub k pl fl o (((((c+6)+64)+1)+3)+1) d As x P u R rfl kn
  ·refine ch H ?_
   exact Ai ⟨[(((((c+6)+64)+1)+3)+1)],[],[],[]⟩ (.inr ((⟨_,rfl,kn,kn⟩)))
  refine cm H ?_
  refine ch H ?_
  exact Ai ⟨[A],[],[],[]⟩ (.inr ((⟨_,rfl,kn,kn⟩)))
 ·refine .of (t:=O0) rfl ?_
  unfold O0
  refine B9 1 3 ?_
  refine CG 1 0 ?_
  refine B9 1 3 ?_
  refine el (j':=1) rfl ?_
  refine bu c ?_
  obtain ⟨_,rfl,G3⟩:=Ge [116] (by decide)
  refine ch G3 ?_
  refine sl [116] ?_
  refine bu (c+6) ?_
  refine nv ⟨[3,3,1,g,sub,k,pl,fl,o,c,2,(c+6),([116].length:Int),((c+6)+64)],[d,[116]],[As,x,P,u,R],[]⟩ ?_
  refine bu ((c+6)+64) ?_
  refine Ek (2-1) 0 ?_
  refine Jt (2-1) 3 ?_
  refine AN (2-1) 0 ?_
  refine BF (2-1) 1 ?_
  refine bu (((c+6)+64)+1) ?_
  refine nv ⟨[3,3,1,g,sub,k,pl,fl,o,c,2,(c+6),([116].length:Int),((c+6)+64),(((c+6)+64)+1),((((c+6)+64)+1)+3)],[d,[116]],[As,x,P,u,R],[]⟩ ?_
  refine bu ((((c+6)+64)+1)+3) ?_
  obtain ⟨_,(rfl|⟨z,rfl,N,X⟩),D⟩:=ih 3 3 (1+1) g sub k pl fl o (((((c+6)+64)+1)+3)+1) d As x P u R rfl kn
  ·refine ch D ?_
   exact Ai ⟨[(((((c+6)+64)+1)+3)+1)],[],[],[]⟩ (.inr ((⟨_,rfl,kn,kn⟩)))
  refine cm D ?_
  refine ch D ?_
  exact Ai ⟨[z],[],[],[]⟩ (.inr ((⟨_,rfl,kn,kn⟩)))
 ·refine .of (t:=O0) rfl ?_
  unfold O0
  refine B9 2 3 ?_
  refine CG 2 0 ?_
  refine B9 2 3 ?_
  refine el (j':=2) rfl ?_
  refine bu c ?_
  refine nv ⟨[3,3,2,g,sub,k,pl,fl,o,c,3,(c+6)],[d,[99]],[As,x,P,u,R],[]⟩ ?_
  obtain ⟨_,rfl,G5⟩:=Ge [99] (by decide)
  refine ch G5 ?_
  refine sl [99] ?_
  refine bu (c+6) ?_
  refine bu ((c+6)+64) ?_
  refine nv ⟨[3,3,2,g,sub,k,pl,fl,o,c,3,(c+6),([99].length:Int),((c+6)+64),(((c+6)+64)+1)],[d,[99]],[As,x,P,u,R],[]⟩ ?_
  refine Ek (3-1) 0 ?_
  refine Jt (3-1) 3 ?_
  refine AN (3-1) 0 ?_
  refine AN (3-1) 1 ?_
  refine BF (3-1) 2 ?_
  refine bu (((c+6)+64)+1) ?_
  refine bu ((((c+6)+64)+1)+4) ?_
  refine nv ⟨[3,3,2,g,sub,k,pl,fl,o,c,3,(c+6),([99].length:Int),((c+6)+64),(((c+6)+64)+1),((((c+6)+64)+1)+4),(((((c+6)+64)+1)+4)+1)],[d,[99]],[As,x,P,u,R],[]⟩ ?_
  obtain ⟨_,(rfl|⟨y,rfl,Q,U⟩),C⟩:=ih 3 3 (2+1) g sub k pl fl o (((((c+6)+64)+1)+4)+1) d As x P u R rfl kn
  ·refine ch C ?_
   exact Ai ⟨[(((((c+6)+64)+1)+4)+1)],[],[],[]⟩ (.inr ((⟨_,rfl,kn,kn⟩)))
  refine cm C ?_
  refine ch C ?_
  exact Ai ⟨[y],[],[],[]⟩ (.inr ((⟨_,rfl,kn,kn⟩)))
 ·refine .of (t:=O0) rfl ?_
  unfold O0
  refine Ek 3 3 ?_
  exact Ai v0 (.inl rfl)
theorem AlW:ApV 79:=fun k len j g sub d pl fl x y c L u P z R o h=>Aod ((3-j).toNat+1) k len j g sub d pl fl x y c L u P z R o ⟨h.1,h.2.1,h.2.2.1,h.2.2.2.1,h.2.2.2.2.1,h.2.2.2.2.2,Nat.lt_succ_self _⟩
end Go.Proofs.YtbmofjdmgjpfoaaGreatDoor.Am
end
section
set_option maxHeartbeats 40000000
set_option maxRecDepth 100000
namespace Go.Proofs.YtbmofjdmgjpfoaaGreatDoor.Am
open Go.AM Go.AM.K
def Anz (N:Nat):Prop:=∀{x:List S} {y:List E} {M:Ctx} (D z:Int) (C o:Int) (k j:Int) (u O g:Int) (A c:List Nat) (P J H:Rs) (X:P=AD) (hn:A=[104]) (hB:J=S.Ab x) (R:H=E.Ab y) (U:DG 0 1 fΓ x M) (Z:T M 1 (.node o k j u c y)) (h:D=2∧z=1∧C=J.length∧O=H.length∧0≤g∧g≤100000∧S.Au x≤2∧S.Ae x≤160∧(E.node o k j u c y).nodes≤13∧(E.node o k j u c y).high≤5:=by exact kn),Ok trees N ⟨[D,z,C,o,k,j,u,O,g],[A,c],[P,J,H],[]⟩ fun Q=>(∃(d:Int),Q=(0,(⟨[d],[],[],[]⟩:Ah))∧(d≤g+70000)∧(g≤d))
theorem Am7:Anz 101:=by
 intro x A Γe aH az j u y k z o c aA g FP FB RA hF hn hB hA U O h
 subst hF;subst hn;subst hB;subst hA;obtain ⟨rfl,rfl,aB,ay,aI,aC,hd,aJ,aG,aE⟩:=h;have aF:=S.len x;have aD:=S.Az x;have ax:([32,32]:List Nat).length=2:=rfl
 refine .of (t:=Xg) rfl ?_
 unfold Xg
 refine bu c ?_
 obtain ⟨_,rfl,G1⟩:=Ge [104] (by decide)
 refine ch G1 ?_
 refine sl [104] ?_
 refine bu (c+5) ?_
 refine nv ⟨[2,1,j,u,y,k,z,o,c,(c+5),([104].length:Int),((c+5)+64)],[[104],g],[AD,(S.Ab x),(E.Ab A)],[]⟩ ?_
 refine bu ((c+5)+64) ?_
 obtain ⟨_,(rfl|⟨d,rfl,aa,Z⟩),R⟩:=Am6 2 2 0 2 1 j u y k z o (((c+5)+64)+1) [104] g AD AD (S.Ab x) (E.Ab A) rfl
 ·refine ch R ?_
  refine nv ⟨[2,1,j,u,y,k,z,o,c,(c+5),([104].length:Int),((c+5)+64),(((c+5)+64)+1)],[[104],g],[AD,(S.Ab x),(E.Ab A)],[]⟩ ?_
  refine bu (((c+5)+64)+1) ?_
  refine nv ⟨[2,1,j,u,y,k,z,o,c,(c+5),([104].length:Int),((c+5)+64),(((c+5)+64)+1),((((c+5)+64)+1)+2)],[[104],g],[AD,(S.Ab x),(E.Ab A)],[]⟩ ?_
  refine Ek (1-1) 0 ?_
  refine Jt (1-1) 3 ?_
  refine BF (1-1) 0 ?_
  refine bu ((((c+5)+64)+1)+2) ?_
  refine bu (((((c+5)+64)+1)+2)+3) ?_
  refine nv ⟨[2,1,j,u,y,k,z,o,c,(c+5),([104].length:Int),((c+5)+64),(((c+5)+64)+1),((((c+5)+64)+1)+2),(((((c+5)+64)+1)+2)+3),((((((c+5)+64)+1)+2)+3)+3)],[[104],g],[AD,(S.Ab x),(E.Ab A)],[]⟩ ?_
  obtain ⟨_,(rfl|⟨D,rfl,ac,X⟩),Q⟩:=Ai6 (Sn.of (n:=1000) @OP) j ((((((c+5)+64)+1)+2)+3)+3) [32,32] (S.Ab x) U.pl rfl
  ·refine ch Q ?_
   refine nv ⟨[2,1,j,u,y,k,z,o,c,(c+5),([104].length:Int),((c+5)+64),(((c+5)+64)+1),((((c+5)+64)+1)+2),(((((c+5)+64)+1)+2)+3),((((((c+5)+64)+1)+2)+3)+3)],[[104],g],[AD,(S.Ab x),(E.Ab A)],[]⟩ ?_
   refine bu ((((((c+5)+64)+1)+2)+3)+3) ?_
   obtain ⟨_,⟨J,rfl,al,ah⟩,G4⟩:=EM u y k z o (((((((c+5)+64)+1)+2)+3)+3)+9) g (E.Ab A) O rfl
   refine ch G4 ?_
   refine nv ⟨[2,1,j,u,y,k,z,o,c,(c+5),([104].length:Int),((c+5)+64),(((c+5)+64)+1),((((c+5)+64)+1)+2),(((((c+5)+64)+1)+2)+3),((((((c+5)+64)+1)+2)+3)+3),(((((((c+5)+64)+1)+2)+3)+3)+9),J],[[104],g],[AD,(S.Ab x),(E.Ab A)],[]⟩ ?_
   refine bu J ?_
   refine nv ⟨[2,1,j,u,y,k,z,o,c,(c+5),([104].length:Int),((c+5)+64),(((c+5)+64)+1),((((c+5)+64)+1)+2),(((((c+5)+64)+1)+2)+3),((((((c+5)+64)+1)+2)+3)+3),(((((((c+5)+64)+1)+2)+3)+3)+9),J,(J+3)],[[104],g],[AD,(S.Ab x),(E.Ab A)],[]⟩ ?_
   exact Ai ⟨[(J+3)],[],[],[]⟩ (⟨_,rfl,kn,kn⟩)
  refine cm Q ?_
  refine ch Q ?_
  refine nv ⟨[2,1,j,u,y,k,z,o,c,(c+5),([104].length:Int),((c+5)+64),(((c+5)+64)+1),((((c+5)+64)+1)+2),(((((c+5)+64)+1)+2)+3),((((((c+5)+64)+1)+2)+3)+3),D],[[104],g],[AD,(S.Ab x),(E.Ab A)],[]⟩ ?_
  refine bu D ?_
  obtain ⟨_,⟨H,rfl,aj,an⟩,G5⟩:=EM u y k z o (D+9) g (E.Ab A) O rfl
  refine ch G5 ?_
  refine nv ⟨[2,1,j,u,y,k,z,o,c,(c+5),([104].length:Int),((c+5)+64),(((c+5)+64)+1),((((c+5)+64)+1)+2),(((((c+5)+64)+1)+2)+3),((((((c+5)+64)+1)+2)+3)+3),D,(D+9),H],[[104],g],[AD,(S.Ab x),(E.Ab A)],[]⟩ ?_
  refine bu H ?_
  refine nv ⟨[2,1,j,u,y,k,z,o,c,(c+5),([104].length:Int),((c+5)+64),(((c+5)+64)+1),((((c+5)+64)+1)+2),(((((c+5)+64)+1)+2)+3),((((((c+5)+64)+1)+2)+3)+3),D,(D+9),H,(H+3)],[[104],g],[AD,(S.Ab x),(E.Ab A)],[]⟩ ?_
  exact Ai ⟨[(H+3)],[],[],[]⟩ (⟨_,rfl,kn,kn⟩)
 refine cm R ?_
 refine ch R ?_
 refine nv ⟨[2,1,j,u,y,k,z,o,c,(c+5),([104].length:Int),((c+5)+64),(((c+5)+64)+1),d],[[104],g],[AD,(S.Ab x),(E.Ab A)],[]⟩ ?_
 refine bu d ?_
 refine Ek (1-1) 0 ?_
 refine Jt (1-1) 3 ?_
 refine BF (1-1) 0 ?_
 refine bu (d+2) ?_
 refine nv ⟨[2,1,j,u,y,k,z,o,c,(c+5),([104].length:Int),((c+5)+64),(((c+5)+64)+1),d,(d+2),((d+2)+3)],[[104],g],[AD,(S.Ab x),(E.Ab A)],[]⟩ ?_
 refine bu ((d+2)+3) ?_
 obtain ⟨_,(rfl|⟨C,rfl,ab,ad⟩),P⟩:=Ai6 (Sn.of (n:=1000) @OP) j (((d+2)+3)+3) [32,32] (S.Ab x) U.pl rfl
 ·refine ch P ?_
  refine nv ⟨[2,1,j,u,y,k,z,o,c,(c+5),([104].length:Int),((c+5)+64),(((c+5)+64)+1),d,(d+2),((d+2)+3),(((d+2)+3)+3)],[[104],g],[AD,(S.Ab x),(E.Ab A)],[]⟩ ?_
  refine bu (((d+2)+3)+3) ?_
  refine nv ⟨[2,1,j,u,y,k,z,o,c,(c+5),([104].length:Int),((c+5)+64),(((c+5)+64)+1),d,(d+2),((d+2)+3),(((d+2)+3)+3),((((d+2)+3)+3)+9)],[[104],g],[AD,(S.Ab x),(E.Ab A)],[]⟩ ?_
  obtain ⟨_,⟨M,rfl,af,am⟩,G7⟩:=EM u y k z o ((((d+2)+3)+3)+9) g (E.Ab A) O rfl
  refine ch G7 ?_
  refine nv ⟨[2,1,j,u,y,k,z,o,c,(c+5),([104].length:Int),((c+5)+64),(((c+5)+64)+1),d,(d+2),((d+2)+3),(((d+2)+3)+3),((((d+2)+3)+3)+9),M],[[104],g],[AD,(S.Ab x),(E.Ab A)],[]⟩ ?_
  refine bu M ?_
  exact Ai ⟨[(M+3)],[],[],[]⟩ (⟨_,rfl,kn,kn⟩)
 refine cm P ?_
 refine ch P ?_
 refine nv ⟨[2,1,j,u,y,k,z,o,c,(c+5),([104].length:Int),((c+5)+64),(((c+5)+64)+1),d,(d+2),((d+2)+3),(((d+2)+3)+3),C],[[104],g],[AD,(S.Ab x),(E.Ab A)],[]⟩ ?_
 refine bu C ?_
 refine nv ⟨[2,1,j,u,y,k,z,o,c,(c+5),([104].length:Int),((c+5)+64),(((c+5)+64)+1),d,(d+2),((d+2)+3),(((d+2)+3)+3),C,(C+9)],[[104],g],[AD,(S.Ab x),(E.Ab A)],[]⟩ ?_
 obtain ⟨_,⟨N,rfl,ao,ae⟩,G8⟩:=EM u y k z o (C+9) g (E.Ab A) O rfl
 refine ch G8 ?_
 refine nv ⟨[2,1,j,u,y,k,z,o,c,(c+5),([104].length:Int),((c+5)+64),(((c+5)+64)+1),d,(d+2),((d+2)+3),(((d+2)+3)+3),C,(C+9),N],[[104],g],[AD,(S.Ab x),(E.Ab A)],[]⟩ ?_
 refine bu N ?_
 exact Ai ⟨[(N+3)],[],[],[]⟩ (⟨_,rfl,kn,kn⟩)
def Aq9 (N n:Nat):Prop:=∀(c len:Int) (j g:Int) (sub x:Int) (pl fl:Int) (z k:Int) (o:List Nat) (L y:Rs) (P A R:Rs) (C:Hh L) (h:(j=0∨j=1)∧c=L.length∧len=c∧j≤c∧0≤k∧k+80000*(1-j)≤90000∧(c-j).toNat<n),Ok trees N ⟨[c,len,j,g,sub,x,pl,fl,z,k],[o],[L,y,P,A,R],[]⟩ fun u=>(u=(0,v0))∨(∃(d:Int),u=(1,(⟨[d],[],[],[]⟩:Ah))∧(d≤90000)∧(k≤d))
def ApU (N:Nat):Prop:=∀(d len:Int) (j g:Int) (sub x:Int) (pl fl:Int) (z k:Int) (o:List Nat) (L y:Rs) (P A R:Rs) (C:Hh L) (h:(j=0∨j=1)∧d=L.length∧len=d∧j≤d∧0≤k∧k+80000*(1-j)≤90000:=by exact kn),Ok trees N ⟨[d,len,j,g,sub,x,pl,fl,z,k],[o],[L,y,P,A,R],[]⟩ fun u=>(u=(0,v0))∨(∃(c:Int),u=(1,(⟨[c],[],[],[]⟩:Ah))∧(c≤90000)∧(k≤c))
theorem Aoc (n:Nat):Aq9 80 n:=by
 induction n with
 |zero=>intro ln len j g sub y pl fl A N o L M P J R C h;exact absurd h.2.2.2.2.2.2 (Nat.not_lt_zero _)
 |succ n ih=>
 intro ln len j g sub y pl fl A N o L M P J R C h
 rcases C with rfl|⟨fb,fa,Γe,rk,ro,ry,rw,rs,rfl,hO,hT,hd,hn,hrn,hrh⟩<;>simp only [lC,lN]at h<;>rcases h.1 with rfl|rfl
 ·obtain ⟨_,rfl,rfl,_,u,k,_⟩:=h;skip
  refine .of (t:=Sz) rfl ?_
  unfold Sz
  refine Ek 0 0 ?_
  exact Ai v0 (.inl rfl)
 ·exfalso;omega
 ·obtain ⟨_,rfl,rfl,_,u,k,_⟩:=h;have H:(AD.length:Int)=2:=rfl;have D:=S.len fb;have z:=S.Az fb;have Q:=E.Az fa;have Z:=hT.kind
  refine .of (t:=Sz) rfl ?_
  unfold Sz
  refine B9 0 1 ?_
  refine CG 0 0 ?_
  refine B9 0 1 ?_
  refine el (j':=0) rfl ?_
  obtain ⟨_,rfl,O⟩:=AoP ((S.Ab fb).length:Int) (S.Ab fb) hO rfl
  refine cm O ?_
  refine ch O ?_
  obtain ⟨_,⟨c,rfl,ab,ac⟩,G2⟩:=Am7 (AD.length:Int) 1 ((S.Ab fb).length:Int) rk ro ry rw ((E.Ab fa).length:Int) N [104] rs AD (S.Ab fb) (E.Ab fa) rfl rfl rfl rfl hO hT
  refine ch G2 ?_
  obtain ⟨_,(rfl|⟨d,rfl,X,U⟩),x⟩:=ih 1 1 (0+1) g sub y pl fl A c o [hrow AD (S.Ab fb) rk ro ry rs rw (E.Ab fa)] M P J R (.inr ⟨_,_,_,_,_,_,_,_,rfl,hO,hT,hd,hn,hrn,hrh⟩) kn
  ·refine ch x ?_
   exact Ai ⟨[c],[],[],[]⟩ (.inr ((⟨_,rfl,kn,kn⟩)))
  refine cm x ?_
  refine ch x ?_
  exact Ai ⟨[d],[],[],[]⟩ (.inr ((⟨_,rfl,kn,kn⟩)))
 ·obtain ⟨_,rfl,rfl,_,u,k,_⟩:=h;have H:(AD.length:Int)=2:=rfl;have D:=S.len fb;have z:=S.Az fb;have Q:=E.Az fa;have Z:=hT.kind
  refine .of (t:=Sz) rfl ?_
  unfold Sz
  refine Ek 1 1 ?_
  exact Ai v0 (.inl rfl)
theorem Afd:ApU 80:=fun c len j g sub k pl fl u x d L o P z R y h=>Aoc ((c-j).toNat+1) c len j g sub k pl fl u x d L o P z R y ⟨h.1,h.2.1,h.2.2.1,h.2.2.2.1,h.2.2.2.2.1,h.2.2.2.2.2,Nat.lt_succ_self _⟩
end Go.Proofs.YtbmofjdmgjpfoaaGreatDoor.Am
end
section
set_option maxHeartbeats 4000000
set_option maxRecDepth 100000
namespace Go.Proofs.YtbmofjdmgjpfoaaGreatDoor.Am
open Go.AM Go.AM.K
def Aqx (N:Nat):Prop:=∀{l:List S} (g sub:Int) (j pl:Int) (fl o:Int) (c:List Nat) (k P:Rs) (d R:Rs) (x:c=[107]) (y:k=Ax) (C:P=As) (A:Hh d) (D:R=S.Ab l) (z:PL l) (h:j=5∧pl=3∧fl=d.length∧fl≤1∧o=R.length∧S.Ae l≤1600∧S.Au l≤10∧(g=4∨g=1∨g=2∨g=8∨g=6)∧0≤sub∧sub≤32:=by exact kn),Ok trees N ⟨[g,sub,j,pl,fl,o],[c],[k,P,d,R],[]⟩ fun u=>(u=(1,v0))
theorem Aph:Aqx 49:=by
 intro l g sub k pl fl c a7 x P j R aj ak hP A u d h
 have a8:=S.len l;have a6:=S.Az l;have a5:([]:List Nat).length=0:=rfl;subst aj
 refine .of (t:=Aeg) rfl ?_
 unfold Aeg
 obtain ⟨_,rfl,G1⟩:=Apf g sub k pl fl c [107] x P j R A u d
 refine ch G1 ?_
 obtain ⟨_,rfl,G2⟩:=Ge [107] (by decide)
 refine ch G2 ?_
 refine sl [107] ?_
 refine CG g (-9223372036854775808) ?_
 refine FM g 9223372036854775807 ?_
 refine CG sub (-9223372036854775808) ?_
 refine FM sub 9223372036854775807 ?_
 obtain ⟨_,(rfl|⟨o,rfl,aO,aA⟩),G3⟩:=AoQ k k 0 g sub k pl fl c 126 [107] x x P j R ak
 ·refine ch G3 ?_
  obtain ⟨_,(rfl|⟨z,rfl,aN,aK⟩),G4⟩:=AlW pl pl 0 g sub k pl fl c 126 [107] P x P j R hP
  ·refine ch G4 ?_
   obtain ⟨_,(rfl|⟨O,rfl,aJ,aD⟩),G5⟩:=Afd fl fl 0 g sub k pl fl c 126 [107] j x P j R A
   ·refine ch G5 ?_
    obtain ⟨_,⟨ac,rfl,a4,aY⟩,G6⟩:=OP c 126 [] R d u
    refine ch G6 ?_
    refine bu ac ?_
    exact Ai v0 (rfl)
   refine cm G5 ?_
   refine ch G5 ?_
   obtain ⟨_,⟨ad,rfl,a1,a2⟩,G7⟩:=OP c O [] R d u
   refine ch G7 ?_
   refine bu ad ?_
   exact Ai v0 (rfl)
  refine cm G4 ?_
  refine ch G4 ?_
  obtain ⟨_,(rfl|⟨Z,rfl,aR,aB⟩),G8⟩:=Afd fl fl 0 g sub k pl fl c z [107] j x P j R A
  ·refine ch G8 ?_
   obtain ⟨_,⟨af,rfl,a0,aU⟩,G9⟩:=OP c z [] R d u
   refine ch G9 ?_
   refine bu af ?_
   exact Ai v0 (rfl)
  refine cm G8 ?_
  refine ch G8 ?_
  obtain ⟨_,⟨X,rfl,aL,aG⟩,aw⟩:=OP c Z [] R d u
  refine ch aw ?_
  refine bu X ?_
  exact Ai v0 (rfl)
 refine cm G3 ?_
 refine ch G3 ?_
 obtain ⟨_,(rfl|⟨y,rfl,ap,av⟩),M⟩:=AlW pl pl 0 g sub k pl fl c o [107] P x P j R hP
 ·refine ch M ?_
  obtain ⟨_,(rfl|⟨D,rfl,am,an⟩),C⟩:=Afd fl fl 0 g sub k pl fl c o [107] j x P j R A
  ·refine ch C ?_
   obtain ⟨_,⟨aa,rfl,aF,aP⟩,az⟩:=OP c o [] R d u
   refine ch az ?_
   refine bu aa ?_
   exact Ai v0 (rfl)
  refine cm C ?_
  refine ch C ?_
  obtain ⟨_,⟨N,rfl,aI,aM⟩,ax⟩:=OP c D [] R d u
  refine ch ax ?_
  refine bu N ?_
  exact Ai v0 (rfl)
 refine cm M ?_
 refine ch M ?_
 obtain ⟨_,(rfl|⟨H,rfl,ai,ay⟩),J⟩:=Afd fl fl 0 g sub k pl fl c y [107] j x P j R A
 ·refine ch J ?_
  obtain ⟨_,⟨Q,rfl,aE,aC⟩,aq⟩:=OP c y [] R d u
  refine ch aq ?_
  refine bu Q ?_
  exact Ai v0 (rfl)
 refine cm J ?_
 refine ch J ?_
 obtain ⟨_,⟨U,rfl,aQ,aH⟩,au⟩:=OP c H [] R d u
 refine ch au ?_
 refine bu U ?_
 exact Ai v0 (rfl)
def Aqy (N:Nat):Prop:=∀{l:List S} (g sub:Int) (j pl:Int) (fl o:Int) (c:List Nat) (k P:Rs) (d R:Rs) (x:c=[107]) (y:k=Ax) (C:P=As) (A:Hh d) (D:R=S.Ab l) (z:PL l) (h:j=5∧pl=3∧fl=d.length∧fl≤1∧o=R.length∧S.Ae l≤1600∧S.Au l≤10∧(g=4∨g=1∨g=2∨g=8∨g=6)∧0≤sub∧sub≤32:=by exact kn),Ok trees N ⟨[g,sub,j,pl,fl,o],[c],[k,P,d,R],[]⟩ fun u=>(u=(1,v0))
theorem Amg:Aqy 48:=by
 intro l g sub u pl fl x j C P A R c d D y z o h
 refine .of (t:=Aeh) rfl ?_
 unfold Aeh
 obtain ⟨_,rfl,k⟩:=Aph g sub u pl fl x j C P A R c d D y z o
 refine cm k ?_
 refine ch k ?_
 exact Ai v0 (rfl)
def AiN (N:Nat):Prop:=∀{z A:Ctx} {l:List S} (g sub:Int) (k pl:Int) (fl u:Int) (d:List Nat) (j P:Rs) (c R:Rs) (D:d=[107]) (H:j=Ax) (M:P=As) (O:Hh c) (U:R=S.Ab l) (J:DG 0 0 z l A) (hs:C1 g sub) (Q:∀o,((c=[]∧o=EE 3)∨(c≠[]∧o=Mn))→Ck z 5 fl j c o) (h:k=5∧pl=3∧fl=c.length∧fl≤1∧u=R.length∧S.Ae l≤1600∧S.Au l≤10∧(g=4∨g=1∨g=2∨g=8∨g=6)∧0≤sub∧sub≤32:=by exact kn),Ok trees N ⟨[g,sub,k,pl,fl,u],[d],[j,P,c,R],[]⟩ fun C=>(∃(x:Int),∃(y:Mp),C=(1,(⟨[0,g,sub,k,pl,fl,u,x],[d],[j,P,c,R],[y]⟩:Ah)))
theorem Ai8:AiN 46:=by
 intro Γb Γz l g sub k pl fl d c o P j R A x D y C z hs Q h
 have aa:=S.len l;have Z:=S.Az l;have hj:Hh j:=y
 refine .of (t:=Y8) rfl ?_
 unfold Y8
 obtain ⟨_,rfl,J⟩:=Amg g sub k pl fl d c o P j R A x D y C z.pl
 refine cm J ?_
 refine ch J ?_
 obtain ⟨_,rfl,H⟩:=AgQ g sub k pl fl d c o P j R x hs
 refine cm H ?_
 refine ch H ?_
 obtain ⟨_,⟨u,rfl,M⟩,U⟩:=AgP g sub k pl fl d c o P j R x D y.list
 refine ch U ?_
 obtain ⟨_,rfl,N⟩:=AgO 0 fl 0 g sub k pl fl d g sub k pl fl d 0 c c o P j R o P j R u x y
 refine ch N ?_
 refine BF 0 0 ?_
 obtain ⟨_,⟨O,rfl,rfl⟩,X⟩:=Qg d g sub k pl fl d 0 c R o P j R u (by obtain ⟨rfl,_⟩:=h;exact Q _ ‹_›) z C
 refine ch X ?_
 exact Ai ⟨[0,g,sub,k,pl,fl,d,0],[c],[o,P,j,R],[u]⟩ (⟨_,_,rfl⟩)
def AiO (N:Nat):Prop:=∀{x y:Ctx} {l:List S} (g sub:Int) (o pl:Int) (fl u:Int) (d:List Nat) (j P:Rs) (c R:Rs) (A:d=[107]) (C:j=Ax) (H:P=As) (J:Hh c) (O:R=S.Ab l) (D:DG 0 0 x l y) (hs:C1 g sub) (M:∀k,((c=[]∧k=EE 3)∨(c≠[]∧k=Mn))→Ck x 5 fl j c k) (h:o=5∧pl=3∧fl=c.length∧fl≤1∧u=R.length∧S.Ae l≤1600∧S.Au l≤10∧(g=4∨g=1∨g=2∨g=8∨g=6)∧0≤sub∧sub≤32:=by exact kn),Ok trees N ⟨[g,sub,o,pl,fl,u],[d],[j,P,c,R],[]⟩ fun z=>(z=(0,(⟨[0],[],[],[]⟩:Ah)))
theorem Ai9:AiO 44:=by
 intro O N l g sub u pl fl x j J P H R c d M y A o hs z h
 refine .of (t:=Y9) rfl ?_
 unfold Y9
 obtain ⟨_,⟨D,C,rfl⟩,k⟩:=Ai8 g sub u pl fl x j J P H R c d M y A o hs z
 refine cm k ?_
 refine ch k ?_
 exact Ai ⟨[0],[],[],[]⟩ (rfl)
end Go.Proofs.YtbmofjdmgjpfoaaGreatDoor.Am
end
section
set_option maxHeartbeats 4000000
namespace Go.Proofs.YtbmofjdmgjpfoaaGreatDoor.Am
open Go.AM Go.AM.K
end Go.Proofs.YtbmofjdmgjpfoaaGreatDoor.Am
end
section
set_option maxHeartbeats 4000000
set_option maxRecDepth 100000
namespace Go.Proofs.YtbmofjdmgjpfoaaGreatDoor.Am
open Go.AM Go.AM.K
namespace V
def AiN (N:Nat):Prop:=∀{z:Ctx} {l:List S} (g sub:Int) (k pl:Int) (fl u:Int) (d:List Nat) (j P:Rs) (c R:Rs) (D:d=[107]) (H:j=Ax) (M:P=As) (J:Hh c) (Q:R=S.Ab l) (C:PL l) (hB:EW 0 0 z l) (hs:C1 g sub) (O:∀o,((c=[]∧o=EE 3)∨(c≠[]∧o=Mn))→Ck z 5 fl j c o) (h:k=5∧pl=3∧fl=c.length∧fl≤1∧u=R.length∧S.Ae l≤1600∧S.Au l≤10∧(g=4∨g=1∨g=2∨g=8∨g=6)∧0≤sub∧sub≤32:=by exact kn),Ok trees N ⟨[g,sub,k,pl,fl,u],[d],[j,P,c,R],[]⟩ fun A=>(∃(x:Int),∃(y:Mp),A=(1,(⟨[30,g,sub,k,pl,fl,u,x],[d],[j,P,c,R],[y]⟩:Ah)))
theorem Ai8:AiN 46:=by
 intro Γb l g sub j pl fl d c o P k R A x D y C z hB hs Q h
 have aa:=S.len l;have Z:=S.Az l
 refine .of (t:=Y8) rfl ?_
 unfold Y8
 obtain ⟨_,rfl,J⟩:=Amg g sub j pl fl d c o P k R A x D y C z
 refine cm J ?_
 refine ch J ?_
 obtain ⟨_,rfl,H⟩:=AgQ g sub j pl fl d c o P k R x hs
 refine cm H ?_
 refine ch H ?_
 obtain ⟨_,⟨u,rfl,M⟩,U⟩:=AgP g sub j pl fl d c o P k R x D y.list
 refine ch U ?_
 obtain ⟨_,rfl,N⟩:=AgO 0 fl 0 g sub j pl fl d g sub j pl fl d 0 c c o P k R o P k R u x y
 refine ch N ?_
 refine BF 0 0 ?_
 obtain ⟨_,⟨O,rfl,rfl⟩,X⟩:=Qg d g sub j pl fl d 0 c R o P k R u (by obtain ⟨rfl,_⟩:=h;exact Q _ ‹_›) hB C
 refine ch X ?_
 exact Ai ⟨[30,g,sub,j,pl,fl,d,0],[c],[o,P,k,R],[u]⟩ (⟨_,_,rfl⟩)
def AiO (N:Nat):Prop:=∀{x:Ctx} {l:List S} (g sub:Int) (o pl:Int) (fl u:Int) (d:List Nat) (j P:Rs) (c R:Rs) (A:d=[107]) (C:j=Ax) (H:P=As) (D:Hh c) (M:R=S.Ab l) (z:PL l) (hB:EW 0 0 x l) (hs:C1 g sub) (J:∀k,((c=[]∧k=EE 3)∨(c≠[]∧k=Mn))→Ck x 5 fl j c k) (h:o=5∧pl=3∧fl=c.length∧fl≤1∧u=R.length∧S.Ae l≤1600∧S.Au l≤10∧(g=4∨g=1∨g=2∨g=8∨g=6)∧0≤sub∧sub≤32:=by exact kn),Ok trees N ⟨[g,sub,o,pl,fl,u],[d],[j,P,c,R],[]⟩ fun y=>(y=(0,(⟨[30],[],[],[]⟩:Ah)))
theorem Ai9:AiO 44:=by
 intro N l g sub u pl fl x k J P H R d j M y A c hB hs z h
 refine .of (t:=Y9) rfl ?_
 unfold Y9
 obtain ⟨_,⟨D,C,rfl⟩,o⟩:=Ai8 g sub u pl fl x k J P H R d j M y A c hB hs z
 refine cm o ?_
 refine ch o ?_
 exact Ai ⟨[30],[],[],[]⟩ (rfl)
end V
end Go.Proofs.YtbmofjdmgjpfoaaGreatDoor.Am
end
section
set_option maxHeartbeats 4000000
set_option maxRecDepth 100000
namespace Go.Proofs.YtbmofjdmgjpfoaaGreatDoor.Am
open Go.AM Go.AM.K
theorem Aos (n:Nat):∀{l:List S} (j:Int),PL (l.drop j.toNat)→0≤j∧(l.length:Int)≤200000∧((l.length:Int)-j).toNat<n→Ok trees 47 ⟨[(l.length:Int),j],[],[S.Ab l],[]⟩ fun y=>
  (∃s r,y=(0,(⟨[],[s],[],[]⟩:Ah))∧Jd (l.drop j.toNat)=s::r∧Nm s)∨(y=(1,v0)∧Jd (l.drop j.toNat)=[]):=by
 induction n with
 |zero=>intro l j _ h;exact absurd h.2.2 (Nat.not_lt_zero _)
 |succ n ih=>
  intro l j C h
  refine .of (t:=Aei) rfl ?_
  unfold Aei
  refine lt j (l.length:Int) (fun u=>?_) fun u=>?_
  ·refine CG j 0 ?_
   obtain ⟨k,o,t,b,nm,N,U,xt,J,Q,O,yk,M,Z,P,H,X,R,D,hg,z,x,g⟩:=PL.Ao8 j C h.1 u
   refine el hg ?_
   refine eq k 1 (fun c=>?_) fun c=>?_
   ·exact Ai ⟨[],[nm],[],[]⟩ (.inl ⟨_,_,rfl,(x c).2,(x c).1⟩)
   obtain ⟨_,(⟨s,r,rfl,d,A⟩|⟨rfl,d⟩),G⟩:=ih (j+1) z ⟨by omega,by omega,by omega⟩
   ·refine ch G ?_
    exact Ai ⟨[],[s],[],[]⟩ (.inl ⟨_,_,rfl,(g c).trans d,A⟩)
   ·refine cm G ?_
    refine ch G ?_
    exact Ai v0 (.inr ⟨rfl,(g c).trans d⟩)
  ·exact Ai v0 (.inr ⟨rfl,by rw [List.drop_eq_nil_of_le om];rfl⟩)
theorem Api {l:List S} (k:PL l) (j:(l.length:Int)≤200000):Ok trees 45 ⟨[(l.length:Int)],[],[S.Ab l],[]⟩ fun g=>∃s,g=(0,(⟨[],[s],[],[]⟩:Ah))∧((s=[]∧Jd l=[])∨∃r,Jd l=s::r∧Nm s):=by
 refine .of (t:=Aej) rfl ?_
 unfold Aej
 obtain ⟨_,(⟨s,r,rfl,c,d⟩|⟨rfl,c⟩),G⟩:=Aos (l.length+1) (l:=l) 0 k ⟨by omega,j,by omega⟩
 ·refine ch G ?_
  exact Ai ⟨[],[s],[],[]⟩ ⟨_,rfl,.inr ⟨r,c,d⟩⟩
 ·refine cm G ?_
  refine ch G ?_
  exact Ai ⟨[],[[]],[],[]⟩ ⟨_,rfl,.inl ⟨rfl,c⟩⟩
structure Mk (g sub:Int) (Ar P Fs:Rs) (b:List S) (Γ Γ':Ctx):Prop where
 ar:Ar=Ax
 pa:P=As
 hg:g=4∨g=1∨g=2∨g=8∨g=6
 hs:C1 g sub
 fs:Hh Fs
 fl:Fs.length≤1
 ok:DG 0 0 Γ b Γ'
 om:Uo 0 0 Γ b Γ'
 ck:∀mp,((Fs=[]∧mp=EE 3)∨(Fs≠[]∧mp=Mn))→Ck Γ 5 (Fs.length:Int) Ar Fs mp
 nodes:S.Ae b≤680
 deep:S.Au b≤4
 len:(b.length:Int)≤680
theorem B7.mk' {g sub:Int} {Ar P Fs R:Rs} (h:B7 g sub Ar P Fs R):0<R.length∧∃b Γ Γ',R=S.Ab b∧Mk g sub Ar P Fs b Γ Γ'∧(Γ=bΓ 0∨Γ=bΓ 1):=by
 obtain ⟨rfl,rfl,d,hg,hs,h⟩:=h
 refine ⟨d,?_⟩
 rcases h with ⟨rfl,Γ',l,⟨b,rfl,h1,h2,h3⟩,hl⟩|⟨F,k,o,y,w,s,A,rfl,hf,Γ',l,⟨b,rfl,h1,h2,h3⟩,hl⟩
 ·have:=S.len b
  refine ⟨b,_,_,rfl,⟨rfl,rfl,hg,hs,.inl rfl,by simp,h1.loose,h1,fun j c=>?_,by omega,by omega,by omega⟩,.inl rfl⟩
  rcases c with ⟨_,rfl⟩|⟨hx,_⟩
  ·exact Ck.Ud rfl
  ·exact absurd rfl hx
 ·have:=S.len b
  refine ⟨b,_,_,rfl,⟨rfl,rfl,hg,hs,.mk hf,by simp,h1.loose,h1,fun j c=>?_,by omega,by omega,by omega⟩,.inr rfl⟩
  rcases c with ⟨hx,_⟩|⟨_,rfl⟩
  ·cases hx
  ·exact Ck.AmA
section
variable {g sub:Int} {Ar P Fs:Rs} {b:List S} {Γ Γ':Ctx}
theorem Mk.good (h:Mk g sub Ar P Fs b Γ Γ') {c:List S} {j:Ctx} (hc:DG 0 0 Γ c j) (o:S.Ae c≤1600) (hd:S.Au c≤10):Ok trees 44 ⟨[g,sub,5,3,(Fs.length:Int),((S.Ab c).length:Int)],[[107]],[Ar,P,Fs,S.Ab c],[]⟩ fun k=>k=(0,(⟨[0],[],[],[]⟩:Ah)):=by
 have d:0≤sub∧sub≤32:=by have:=h.hs.1;omega
 have hf:(Fs.length:Int)≤1:=by have:=h.fl;omega
 exact Ai9 g sub 5 3 (Fs.length:Int) ((S.Ab c).length:Int) [107] Ar P Fs (S.Ab c) rfl h.ar h.pa h.fs rfl hc h.hs h.ck ⟨rfl,rfl,rfl,hf,rfl,by omega,by omega,h.hg,d.1,d.2⟩
theorem Mk.dup (h:Mk g sub Ar P Fs b Γ Γ') {c:List S} (k:PL c) (hc:EW 0 0 Γ c) (o:S.Ae c≤1600) (hd:S.Au c≤10):Ok trees 44 ⟨[g,sub,5,3,(Fs.length:Int),((S.Ab c).length:Int)],[[107]],[Ar,P,Fs,S.Ab c],[]⟩ fun j=>j=(0,(⟨[30],[],[],[]⟩:Ah)):=by
 have d:0≤sub∧sub≤32:=by have:=h.hs.1;omega
 have hf:(Fs.length:Int)≤1:=by have:=h.fl;omega
 exact V.Ai9 g sub 5 3 (Fs.length:Int) ((S.Ab c).length:Int) [107] Ar P Fs (S.Ab c) rfl h.ar h.pa h.fs rfl k hc h.hs h.ck ⟨rfl,rfl,rfl,hf,rfl,by omega,by omega,h.hg,d.1,d.2⟩
end
def again (b:List S):S:=.node 5 0 0 0 [] (.node 1 0 3 1 [] []) E0 b []
end Go.Proofs.YtbmofjdmgjpfoaaGreatDoor.Am
end
section
set_option maxHeartbeats 4000000
set_option maxRecDepth 100000
namespace Go.Proofs.YtbmofjdmgjpfoaaGreatDoor.Am
open Go.AM Go.AM.K
theorem Ap4 {c:Int}:bΓ c [97]=some (0,1,0):=by
 unfold bΓ
 split<;>rfl
theorem Aez {C:Int} {B:Rs} (hB:Dy B) (hl:C=B.length) (h:C≤140737488355328):Ok trees 1 ⟨[C],[],[B],[]⟩ fun zz=>zz=(0,v0):=by
 refine .of (t:=t_1) rfl ?_
 unfold t_1
 obtain ⟨_,⟨g,sub,X,pl,fl,rl,Ar,P,Fs,R,rfl,hk,ha,hp,hf,hr⟩,G⟩:=c_4 hB hl h
 refine ch G ?_
 obtain ⟨aj,b,Γ,Γ',rfl,d,H⟩:=B7.mk' hk
 have N:X=5:=by rw [ha,d.ar];rfl
 have D:pl=3:=by rw [hp,d.pa];rfl
 have y:=S.Az b
 have U:=d.len
 have O:=d.ar
 subst O;subst N;subst D;subst hf;subst hr
 have k:=d.ok.pl
 have am:=d.nodes
 have ak:=d.deep
 have x:=PL.sm b k om
 obtain ⟨_,⟨s,rfl,hs|⟨r,hs,hn⟩⟩,J⟩:=Api k om
 ·obtain ⟨rfl,_⟩:=hs
  refine ch J ?_ (hv:=by rw [y];exact vn)
  refine seY [] [] ?_
  exact Ai v0 rfl
 refine ch J ?_ (hv:=by rw [y];exact vn)
 refine seN s [] ?_ hn.ne
 obtain ⟨u,z,j⟩:=d.ok.OV s (by rw [hs];exact List.mem_cons_self)
 have A:Γ [113,113,57]=none:=by rcases H with rfl|rfl<;>exact AiG
 have M:Γ [97]=some (0,1,0):=by rcases H with rfl|rfl<;>exact Ap4
 have Z:=(Uo.weak (z:=(3,1,0)) P3 A d.om).2
 have Q:s≠[113,113,57]:=fun e=>by subst e;rw [Z]at j;cases j
 have o:=(Uo.Cc (f:=s) (t:=[113,113,57]) ⟨(fun z j=>by rw [u]at j;cases j),A⟩ (by decide) P3 Q d.om).1
 rw [Aj7 u A]at o
 obtain ⟨_,⟨n1,R1,rfl,rfl,rfl⟩,G1⟩:=Amc b ((S.Ab b).length:Int) s [113,113,57] (S.Ab b) rfl x om
 refine ch G1 ?_
 refine gtY 5 0 ?_
 refine B9 0 5 ?_
 refine el (j':=0) rfl ?_
 obtain ⟨_,⟨n2,R2,rfl,rfl,rfl⟩,G2⟩:=Amc b ((S.Ab b).length:Int) s [97] (S.Ab b) rfl x om
 refine ch G2 ?_
 rcases DG.UY u M d.ok with ⟨_,hx,_⟩|hbad
 ·rw [j]at hx;cases hx
 obtain ⟨_,rfl,Gb⟩:=d.dup (c:=S.AK s [97] b) (PL.Cc (by decide) b k) hbad (by rw [S.Dg];omega) (by rw [S.Gq];omega)
 refine ch Gb ?_
 refine BW 30 30 ?_
 obtain ⟨_,rfl,Gg⟩:=d.good o (by rw [S.Dg];omega) (by rw [S.Gq];omega)
 refine ch Gg ?_
 refine BF 0 0 ?_
 exact Ai v0 rfl
end Go.Proofs.YtbmofjdmgjpfoaaGreatDoor.Am
end
