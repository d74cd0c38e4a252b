/- Part 19 of the proof of TypesAccepts. -/
import Derived.Test.YtbmofjdmgjpfoaaGreatDoorC11
import Derived.Test.YtbmofjdmgjpfoaaGreatDoorC12
import Derived.Test.YtbmofjdmgjpfoaaGreatDoorC13
import Derived.Test.YtbmofjdmgjpfoaaGreatDoorC14
import Derived.Test.YtbmofjdmgjpfoaaGreatDoorC18
set_option linter.all false
section
set_option maxHeartbeats 4000000
set_option maxRecDepth 100000
namespace Go.Proofs.YtbmofjdmgjpfoaaGreatDoor.Am
open Go.AM Go.AM.K
def Akh (N n:Nat):Prop:=∀(ok g:Int) (len j:Int) (g1 Z:Int) (u p1:Int) (x D:Int) (g2 R:Int) (a2 U:Int) (H Q J:Int) (A v:List Nat) (L o:Rs) (M k:Rs) (z P:Rs) (q y C:Rs) (d:Mp) (hL:L=A0) (hm:d=Dl j) (h:g=5∧len=5∧0≤j∧j≤5∧(5-j).toNat<n),Ok trees N ⟨[ok,g,len,j,g1,Z,u,p1,x,D,g2,R,a2,U,H,Q,J],[A,v],[L,o,M,k,z,P,q,y,C],[d]⟩ fun O=>(∃(c:Mp),O=(0,(⟨[],[],[],[c]⟩:Ah))∧(c=Dl 5))
def AjO (N:Nat):Prop:=∀(ok g:Int) (len j:Int) (g1 q:Int) (u p1:Int) (y J:Int) (g2 R:Int) (a2 U:Int) (H Z M:Int) (C x:List Nat) (L o:Rs) (O k:Rs) (A Q:Rs) (v z D:Rs) (d:Mp) (hL:L=A0) (hm:d=Dl j) (h:g=5∧len=5∧0≤j∧j≤5:=by exact kn),Ok trees N ⟨[ok,g,len,j,g1,q,u,p1,y,J,g2,R,a2,U,H,Z,M],[C,x],[L,o,O,k,A,Q,v,z,D],[d]⟩ fun P=>(∃(c:Mp),P=(0,(⟨[],[],[],[c]⟩:Ah))∧(c=Dl 5))
theorem Ag9 (n:Nat):Akh 106 n:=by
 induction n with
 |zero=>intro ok ln len j g1 g H p1 o M g2 y a2 z u P O x k L d N C A v D J q mp Q c h;exact absurd h.2.2.2.2 (Nat.not_lt_zero _)
 |succ n ih=>
 intro ok ln len j g1 g H p1 o M g2 y a2 z u P O x k L d N C A v D J q mp Q c h
 subst Q;have ⟨h1,Z,al,an,am⟩:=h;subst h1;subst Z
 rcases (by omega:j=0∨j=1∨j=2∨j=3∨j=4∨j=5)with rfl|rfl|rfl|rfl|rfl|rfl
 ·subst c
  refine .of (t:=Fy) rfl ?_
  unfold Fy
  refine BD 0 5 ?_
  refine CX 0 0 ?_
  refine BD 0 5 ?_
  refine el (j':=0) rfl ?_
  refine lm rfl ?_
  refine up [.int .i64 0,.int .i64 1,.int .i64 0] ?_
  obtain ⟨_,⟨R,rfl,rfl⟩,G1⟩:=ih ok 5 5 (0+1) g1 g H p1 o M g2 y a2 z u P O x k A0 d N C A v D J q (Bn (Dl 0) [97] [.int .i64 0,.int .i64 1,.int .i64 0]) rfl rfl kn
  refine ch G1 ?_
  exact Aj ⟨[],[],[],[(Dl 5)]⟩ (⟨_,rfl,rfl⟩)
 ·subst c
  refine .of (t:=Fy) rfl ?_
  unfold Fy
  refine BD 1 5 ?_
  refine CX 1 0 ?_
  refine BD 1 5 ?_
  refine el (j':=1) rfl ?_
  refine lm rfl ?_
  refine up [.int .i64 0,.int .i64 2,.int .i64 1] ?_
  obtain ⟨_,⟨U,rfl,rfl⟩,G2⟩:=ih ok 5 5 (1+1) g1 g H p1 o M g2 y a2 z u P O x k A0 d N C A v D J q (Bn (Dl 1) [102] [.int .i64 0,.int .i64 2,.int .i64 1]) rfl rfl kn
  refine ch G2 ?_
  exact Aj ⟨[],[],[],[(Dl 5)]⟩ (⟨_,rfl,rfl⟩)
 ·subst c
  refine .of (t:=Fy) rfl ?_
  unfold Fy
  refine BD 2 5 ?_
  refine CX 2 0 ?_
  refine BD 2 5 ?_
  refine el (j':=2) rfl ?_
  refine lm rfl ?_
  refine up [.int .i64 0,.int .i64 1,.int .i64 2] ?_
  obtain ⟨_,⟨af,rfl,rfl⟩,G3⟩:=ih ok 5 5 (2+1) g1 g H p1 o M g2 y a2 z u P O x k A0 d N C A v D J q (Bn (Dl 2) [115] [.int .i64 0,.int .i64 1,.int .i64 2]) rfl rfl kn
  refine ch G3 ?_
  exact Aj ⟨[],[],[],[(Dl 5)]⟩ (⟨_,rfl,rfl⟩)
 ·subst c
  refine .of (t:=Fy) rfl ?_
  unfold Fy
  refine BD 3 5 ?_
  refine CX 3 0 ?_
  refine BD 3 5 ?_
  refine el (j':=3) rfl ?_
  refine lm rfl ?_
  refine up [.int .i64 0,.int .i64 1,.int .i64 3] ?_
  obtain ⟨_,⟨ac,rfl,rfl⟩,G4⟩:=ih ok 5 5 (3+1) g1 g H p1 o M g2 y a2 z u P O x k A0 d N C A v D J q (Bn (Dl 3) [112] [.int .i64 0,.int .i64 1,.int .i64 3]) rfl rfl kn
  refine ch G4 ?_
  exact Aj ⟨[],[],[],[(Dl 5)]⟩ (⟨_,rfl,rfl⟩)
 ·subst c
  refine .of (t:=Fy) rfl ?_
  unfold Fy
  refine BD 4 5 ?_
  refine CX 4 0 ?_
  refine BD 4 5 ?_
  refine el (j':=4) rfl ?_
  refine lm rfl ?_
  refine up [.int .i64 0,.int .i64 3,.int .i64 4] ?_
  obtain ⟨_,⟨ak,rfl,rfl⟩,G5⟩:=ih ok 5 5 (4+1) g1 g H p1 o M g2 y a2 z u P O x k A0 d N C A v D J q (Bn (Dl 4) [98] [.int .i64 0,.int .i64 3,.int .i64 4]) rfl rfl kn
  refine ch G5 ?_
  exact Aj ⟨[],[],[],[(Dl 5)]⟩ (⟨_,rfl,rfl⟩)
 ·subst c
  refine .of (t:=Fy) rfl ?_
  unfold Fy
  refine En 5 5 ?_
  exact Aj ⟨[],[],[],[(Dl 5)]⟩ (⟨_,rfl,rfl⟩)
theorem Aja:AjO 106:=fun ok v len j g1 g M p1 o P g2 z a2 A u U R y k L c Q H C x J N q O d D h=>Ag9 ((5-j).toNat+1) ok v len j g1 g M p1 o P g2 z a2 A u U R y k L c Q H C x J N q O d D ⟨h.1,h.2.1,h.2.2.1,h.2.2.2,Nat.lt_succ_self _⟩
def Akg (N n:Nat):Prop:=∀(ok g:Int) (len j:Int) (g1 Z:Int) (u p1:Int) (x D:Int) (g2 R:Int) (a2 U:Int) (H Q J:Int) (A v:List Nat) (L o:Rs) (M k:Rs) (z P:Rs) (q y C:Rs) (d:Mp) (hL:L=As) (hm:d=EI j) (h:g=3∧len=3∧0≤j∧j≤3∧(3-j).toNat<n),Ok trees N ⟨[ok,g,len,j,g1,Z,u,p1,x,D,g2,R,a2,U,H,Q,J],[A,v],[L,o,M,k,z,P,q,y,C],[d]⟩ fun O=>(∃(c:Mp),O=(0,(⟨[],[],[],[c]⟩:Ah))∧(c=EI 3))
def AjN (N:Nat):Prop:=∀(ok g:Int) (len j:Int) (g1 q:Int) (u p1:Int) (y J:Int) (g2 R:Int) (a2 U:Int) (H Z M:Int) (C x:List Nat) (L o:Rs) (O k:Rs) (A Q:Rs) (v z D:Rs) (d:Mp) (hL:L=As) (hm:d=EI j) (h:g=3∧len=3∧0≤j∧j≤3:=by exact kn),Ok trees N ⟨[ok,g,len,j,g1,q,u,p1,y,J,g2,R,a2,U,H,Z,M],[C,x],[L,o,O,k,A,Q,v,z,D],[d]⟩ fun P=>(∃(c:Mp),P=(0,(⟨[],[],[],[c]⟩:Ah))∧(c=EI 3))
theorem Ag8 (n:Nat):Akg 107 n:=by
 induction n with
 |zero=>intro ok ln len j g1 g H p1 o M g2 y a2 z u P O x k L d N C A v D J q mp Q c h;exact absurd h.2.2.2.2 (Nat.not_lt_zero _)
 |succ n ih=>
 intro ok ln len j g1 g H p1 o M g2 y a2 z u P O x k L d N C A v D J q mp Q c h
 subst Q;have ⟨h1,Z,ah,aj,ai⟩:=h;subst h1;subst Z
 rcases (by omega:j=0∨j=1∨j=2∨j=3)with rfl|rfl|rfl|rfl
 ·subst c
  refine .of (t:=Iy) rfl ?_
  unfold Iy
  refine BD 0 3 ?_
  refine CX 0 0 ?_
  refine BD 0 3 ?_
  refine el (j':=0) rfl ?_
  refine lm rfl ?_
  refine up [.int .i64 2,.int .i64 1,.int .i64 0] ?_
  obtain ⟨_,⟨R,rfl,rfl⟩,G1⟩:=ih ok 3 3 (0+1) g1 g H p1 o M g2 y a2 z u P O x k As d N C A v D J q (Bn (EI 0) [110] [.int .i64 2,.int .i64 1,.int .i64 0]) rfl rfl kn
  refine ch G1 ?_
  exact Aj ⟨[],[],[],[(EI 3)]⟩ (⟨_,rfl,rfl⟩)
 ·subst c
  refine .of (t:=Iy) rfl ?_
  unfold Iy
  refine BD 1 3 ?_
  refine CX 1 0 ?_
  refine BD 1 3 ?_
  refine el (j':=1) rfl ?_
  refine lm rfl ?_
  refine up [.int .i64 2,.int .i64 2,.int .i64 0] ?_
  obtain ⟨_,⟨U,rfl,rfl⟩,G2⟩:=ih ok 3 3 (1+1) g1 g H p1 o M g2 y a2 z u P O x k As d N C A v D J q (Bn (EI 1) [116] [.int .i64 2,.int .i64 2,.int .i64 0]) rfl rfl kn
  refine ch G2 ?_
  exact Aj ⟨[],[],[],[(EI 3)]⟩ (⟨_,rfl,rfl⟩)
 ·subst c
  refine .of (t:=Iy) rfl ?_
  unfold Iy
  refine BD 2 3 ?_
  refine CX 2 0 ?_
  refine BD 2 3 ?_
  refine el (j':=2) rfl ?_
  refine lm rfl ?_
  refine up [.int .i64 2,.int .i64 3,.int .i64 0] ?_
  obtain ⟨_,⟨ad,rfl,rfl⟩,G3⟩:=ih ok 3 3 (2+1) g1 g H p1 o M g2 y a2 z u P O x k As d N C A v D J q (Bn (EI 2) [99] [.int .i64 2,.int .i64 3,.int .i64 0]) rfl rfl kn
  refine ch G3 ?_
  exact Aj ⟨[],[],[],[(EI 3)]⟩ (⟨_,rfl,rfl⟩)
 ·subst c
  refine .of (t:=Iy) rfl ?_
  unfold Iy
  refine En 3 3 ?_
  exact Aj ⟨[],[],[],[(EI 3)]⟩ (⟨_,rfl,rfl⟩)
theorem AiZ:AjN 107:=fun ok v len j g1 g M p1 o P g2 z a2 A u U R y k L c Q H C x J N q O d D h=>Ag8 ((3-j).toNat+1) ok v len j g1 g M p1 o P g2 z a2 A u U R y k L c Q H C x J N q O d D ⟨h.1,h.2.1,h.2.2.1,h.2.2.2,Nat.lt_succ_self _⟩
def Akf (N n:Nat):Prop:=∀(ok d:Int) (len j:Int) (g2 J:Int) (a2 M:Int) (z O C:Int) (u:List Nat) (L H:Rs) (q v x:Rs) (g:Mp) (P:L=[]∨∃F k o y w s A,L=[hrow AF F k o y s w A]) (Q:(j=0∧g=EI 3)∨(j=1∧g=MP)) (h:d=L.length∧len=d∧0≤j∧j≤d∧(d-j).toNat<n),Ok trees N ⟨[ok,d,len,j,g2,J,a2,M,z,O,C],[u],[L,H,q,v,x],[g]⟩ fun D=>(∃(c:Mp),D=(0,(⟨[],[],[],[c]⟩:Ah))∧((L=[]∧c=EI 3)∨(L≠[]∧c=MP)))
def AjM (N:Nat):Prop:=∀(ok d:Int) (len j:Int) (g2 J:Int) (a2 M:Int) (z O C:Int) (u:List Nat) (L H:Rs) (q v x:Rs) (g:Mp) (P:L=[]∨∃F k o y w s A,L=[hrow AF F k o y s w A]) (Q:(j=0∧g=EI 3)∨(j=1∧g=MP)) (h:d=L.length∧len=d∧0≤j∧j≤d:=by exact kn),Ok trees N ⟨[ok,d,len,j,g2,J,a2,M,z,O,C],[u],[L,H,q,v,x],[g]⟩ fun D=>(∃(c:Mp),D=(0,(⟨[],[],[],[c]⟩:Ah))∧((L=[]∧c=EI 3)∨(L≠[]∧c=MP)))
theorem Ag7 (n:Nat):Akf 108 n:=by
 induction n with
 |zero=>intro ok O len j g2 x a2 z u M J g L v D H q Q d C h;exact absurd h.2.2.2.2 (Nat.not_lt_zero _)
 |succ n ih=>
 intro ok O len j g2 x a2 z u M J g L v D H q Q d C h
 rcases d with rfl|⟨F,k,o,y,w,s,A,rfl⟩<;>simp only [lC,lN]at h<;>rcases C with ⟨rfl,rfl⟩|⟨rfl,rfl⟩
 ·obtain ⟨rfl,rfl,_⟩:=h
  refine .of (t:=KT) rfl ?_
  unfold KT
  refine En 0 0 ?_
  exact Aj ⟨[],[],[],[(EI 3)]⟩ (⟨_,rfl,(by first|exact .inl ⟨rfl,rfl⟩|exact .inr ⟨by simp,rfl⟩|assumption)⟩)
 ·exfalso;omega
 ·obtain ⟨rfl,rfl,_⟩:=h
  refine .of (t:=KT) rfl ?_
  unfold KT
  refine BD 0 1 ?_
  refine CX 0 0 ?_
  refine BD 0 1 ?_
  refine el (j':=0) rfl ?_
  refine lm rfl ?_
  refine up [.int .i64 1,.int .i64 1,.int .i64 0] ?_
  obtain ⟨_,⟨c,rfl,P⟩,N⟩:=ih ok 1 1 (0+1) g2 x a2 z u M J g [hrow AF F k o y s w A] v D H q (Bn (EI 3) [104] [.int .i64 1,.int .i64 1,.int .i64 0]) (.inr ⟨_,_,_,_,_,_,_,rfl⟩) (.inr ⟨rfl,rfl⟩) kn
  refine ch N ?_
  exact Aj ⟨[],[],[],[c]⟩ (⟨_,rfl,(by first|exact .inl ⟨rfl,rfl⟩|exact .inr ⟨by simp,rfl⟩|assumption)⟩)
 ·obtain ⟨rfl,rfl,_⟩:=h
  refine .of (t:=KT) rfl ?_
  unfold KT
  refine En 1 1 ?_
  exact Aj ⟨[],[],[],[MP]⟩ (⟨_,rfl,(by first|exact .inl ⟨rfl,rfl⟩|exact .inr ⟨by simp,rfl⟩|assumption)⟩)
theorem AiY:AjM 108:=fun ok c len j g2 u a2 v o D C g L q y z k A d x h=>Ag7 ((c-j).toNat+1) ok c len j g2 u a2 v o D C g L q y z k A d x ⟨h.1,h.2.1,h.2.2.1,h.2.2.2,Nat.lt_succ_self _⟩
def AjP (N:Nat):Prop:=∀(g sub:Int) (v pl:Int) (u x:Int) (j:List Nat) (q P:Rs) (c R:Rs) (C:q=A0) (H:P=As) (D:c=[]∨∃F k o y w s A,c=[hrow AF F k o y s w A]) (h:v=5∧pl=3∧u=c.length:=by exact kn),Ok trees N ⟨[g,sub,v,pl,u,x],[j],[q,P,c,R],[]⟩ fun z=>(∃(d:Mp),z=(0,(⟨[g,sub,v,pl,u,x],[j],[q,P,c,R],[d]⟩:Ah))∧((c=[]∧d=EI 3)∨(c≠[]∧d=MP)))
theorem AdI:AjP 105:=by
 intro g sub M pl d k c J P j R q C y h
 subst q;subst C;obtain ⟨rfl,rfl,H⟩:=h
 refine .of (t:=VN) rfl ?_
 unfold VN
 refine md [] ?_
 obtain ⟨_,⟨u,rfl,rfl⟩,A⟩:=Aja 1 5 5 0 g sub 5 3 d k g sub 5 3 d k 0 c c A0 A0 As j R A0 As j R [] rfl rfl
 refine ch A ?_
 obtain ⟨_,⟨v,rfl,rfl⟩,z⟩:=AiZ 1 3 3 0 g sub 5 3 d k g sub 5 3 d k 0 c c As A0 As j R A0 As j R (Dl 5) rfl rfl
 refine ch z ?_
 obtain ⟨_,⟨o,rfl,x⟩,D⟩:=AiY 1 d d 0 g sub 5 3 d k 0 c j A0 As j R (EI 3) y (.inl ⟨rfl,rfl⟩)
 refine ch D ?_
 exact Aj ⟨[g,sub,5,3,d,k],[c],[A0,As,j,R],[o]⟩ (⟨_,rfl,‹_›⟩)
def Aki (N n:Nat):Prop:=∀(c len j:Int) (L:Rs) (g:L=A0) (h:c=5∧len=5∧0≤j∧j≤5∧(5-j).toNat<n),Ok trees N ⟨[c,len,j],[],[L],[]⟩ fun d=>(d=(1,v0))
def AjQ (N:Nat):Prop:=∀(c len j:Int) (L:Rs) (g:L=A0) (h:c=5∧len=5∧0≤j∧j≤5:=by exact kn),Ok trees N ⟨[c,len,j],[],[L],[]⟩ fun d=>(d=(1,v0))
theorem AgA (n:Nat):Aki 104 n:=by
 induction n with
 |zero=>intro v len j L c h;exact absurd h.2.2.2.2 (Nat.not_lt_zero _)
 |succ n ih=>
 intro v len j L c h
 subst c;have ⟨x,u,y,z,A⟩:=h;subst x;subst u
 rcases (by omega:j=0∨j=1∨j=2∨j=3∨j=4∨j=5)with rfl|rfl|rfl|rfl|rfl|rfl
 ·refine .of (t:=Fz) rfl ?_
  unfold Fz
  refine BD 0 5 ?_
  refine CX 0 0 ?_
  refine BD 0 5 ?_
  refine el (j':=0) rfl ?_
  refine En 8 1 ?_
  refine Ss 8 4096 ?_
  obtain ⟨_,rfl,g⟩:=ih 5 5 (0+1) A0 rfl kn
  refine cm g ?_
  refine ch g ?_
  exact Aj v0 (rfl)
 ·refine .of (t:=Fz) rfl ?_
  unfold Fz
  refine BD 1 5 ?_
  refine CX 1 0 ?_
  refine BD 1 5 ?_
  refine el (j':=1) rfl ?_
  refine En 4 1 ?_
  refine Ss 4 4096 ?_
  obtain ⟨_,rfl,d⟩:=ih 5 5 (1+1) A0 rfl kn
  refine cm d ?_
  refine ch d ?_
  exact Aj v0 (rfl)
 ·refine .of (t:=Fz) rfl ?_
  unfold Fz
  refine BD 2 5 ?_
  refine CX 2 0 ?_
  refine BD 2 5 ?_
  refine el (j':=2) rfl ?_
  refine En 8 1 ?_
  refine Ss 8 4096 ?_
  obtain ⟨_,rfl,q⟩:=ih 5 5 (2+1) A0 rfl kn
  refine cm q ?_
  refine ch q ?_
  exact Aj v0 (rfl)
 ·refine .of (t:=Fz) rfl ?_
  unfold Fz
  refine BD 3 5 ?_
  refine CX 3 0 ?_
  refine BD 3 5 ?_
  refine el (j':=3) rfl ?_
  refine En 4 1 ?_
  refine Ss 4 4096 ?_
  obtain ⟨_,rfl,k⟩:=ih 5 5 (3+1) A0 rfl kn
  refine cm k ?_
  refine ch k ?_
  exact Aj v0 (rfl)
 ·refine .of (t:=Fz) rfl ?_
  unfold Fz
  refine BD 4 5 ?_
  refine CX 4 0 ?_
  refine BD 4 5 ?_
  refine el (j':=4) rfl ?_
  refine En 4 1 ?_
  refine Ss 4 4096 ?_
  obtain ⟨_,rfl,o⟩:=ih 5 5 (4+1) A0 rfl kn
  refine cm o ?_
  refine ch o ?_
  exact Aj v0 (rfl)
 ·refine .of (t:=Fz) rfl ?_
  unfold Fz
  refine En 5 5 ?_
  exact Aj v0 (rfl)
theorem Xb:AjQ 104:=fun d len j L c h=>AgA ((5-j).toNat+1) d len j L c ⟨h.1,h.2.1,h.2.2.1,h.2.2.2,Nat.lt_succ_self _⟩
end Go.Proofs.YtbmofjdmgjpfoaaGreatDoor.Am
end
section
set_option maxHeartbeats 4000000
set_option maxRecDepth 100000
namespace Go.Proofs.YtbmofjdmgjpfoaaGreatDoor.Am
open Go.AM Go.AM.K
def AjR (N:Nat):Prop:=∀(g sub:Int) (j pl:Int) (k q:Int) (d:List Nat) (c P:Rs) (u R:Rs) (v:c=A0) (hs:C4 g sub) (h:j=5∧(g=4∨g=1∨g=2∨g=8∨g=6):=by exact kn),Ok trees N ⟨[g,sub,j,pl,k,q],[d],[c,P,u,R],[]⟩ fun o=>(o=(1,v0))
theorem AdJ:AjR 103:=by
 intro g sub al pl fl rl U Ar P Fs R v hs h
 subst v;obtain ⟨rfl,hg⟩:=h;obtain ⟨z,Z⟩:=hs
 rcases z with rfl|rfl|rfl|rfl
 ·refine .of (t:=Iz) rfl ?_
  unfold Iz
  refine lt g 1 (fun O=>?_) fun O=>?_
  ·exact dead
  refine gt g 256 (fun N=>?_) fun N=>?_
  ·exact dead
  refine En 1 1 ?_
  refine Ss 1 32 ?_
  refine Cc 0 0 ?_ (by decide) (AcT (x:=1) (y:=(1-1)) dn dn (by decide))
  refine AT 1 0 ?_
  refine ne (g%1) 0 (fun D=>?_) fun D=>?_
  ·exact dead
  obtain ⟨_,rfl,o⟩:=Xb 5 5 0 A0 rfl
  refine cm o ?_
  refine ch o ?_
  exact Aj v0 (rfl)
 ·refine .of (t:=Iz) rfl ?_
  unfold Iz
  refine lt g 1 (fun J=>?_) fun J=>?_
  ·exact dead
  refine gt g 256 (fun Q=>?_) fun Q=>?_
  ·exact dead
  refine En 2 1 ?_
  refine Ss 2 32 ?_
  refine Cc 0 0 ?_ (by decide) (AcT (x:=2) (y:=(2-1)) dn dn (by decide))
  refine AT 2 0 ?_
  refine ne (g%2) 0 (fun M=>?_) fun M=>?_
  ·exact dead
  obtain ⟨_,rfl,A⟩:=Xb 5 5 0 A0 rfl
  refine cm A ?_
  refine ch A ?_
  exact Aj v0 (rfl)
 ·refine .of (t:=Iz) rfl ?_
  unfold Iz
  refine lt g 1 (fun H=>?_) fun H=>?_
  ·exact dead
  refine gt g 256 (fun C=>?_) fun C=>?_
  ·exact dead
  refine En 4 1 ?_
  refine Ss 4 32 ?_
  refine Cc 0 0 ?_ (by decide) (AcT (x:=4) (y:=(4-1)) dn dn (by decide))
  refine AT 4 0 ?_
  refine ne (g%4) 0 (fun j=>?_) fun j=>?_
  ·exact dead
  obtain ⟨_,rfl,d⟩:=Xb 5 5 0 A0 rfl
  refine cm d ?_
  refine ch d ?_
  exact Aj v0 (rfl)
 ·refine .of (t:=Iz) rfl ?_
  unfold Iz
  refine lt g 1 (fun q=>?_) fun q=>?_
  ·exact dead
  refine gt g 256 (fun k=>?_) fun k=>?_
  ·exact dead
  refine En 8 1 ?_
  refine Ss 8 32 ?_
  refine Cc 0 0 ?_ (by decide) (AcT (x:=8) (y:=(8-1)) dn dn (by decide))
  refine AT 8 0 ?_
  refine ne (g%8) 0 (fun u=>?_) fun u=>?_
  ·exact dead
  obtain ⟨_,rfl,c⟩:=Xb 5 5 0 A0 rfl
  refine cm c ?_
  refine ch c ?_
  exact Aj v0 (rfl)
def Ake (N n:Nat):Prop:=∀(u c:Int) (j g:Int) (sub v:Int) (pl q:Int) (y g2:Int) (Q a2:Int) (U H:Int) (Z O:Int) (o z:List Nat) (k P:Rs) (d R:Rs) (M x:Rs) (A D:Rs) (C:Mp) (aa:k=A0) (hK:Hg d) (h:(j=0∨j=1)∧u=0∧c=d.length∧q=c∧j≤c∧v=5∧(c-j).toNat<n),Ok trees N ⟨[u,c,j,g,sub,v,pl,q,y,g2,Q,a2,U,H,Z,O],[o,z],[k,P,d,R,M,x,A,D],[C]⟩ fun J=>(J=(0,(⟨[0],[],[],[]⟩:Ah)))
def AjL (N:Nat):Prop:=∀(u c:Int) (j g:Int) (sub v:Int) (pl q:Int) (y g2:Int) (Q a2:Int) (U H:Int) (Z O:Int) (o z:List Nat) (k P:Rs) (d R:Rs) (M x:Rs) (A D:Rs) (C:Mp) (aa:k=A0) (hK:Hg d) (h:(j=0∨j=1)∧u=0∧c=d.length∧q=c∧j≤c∧v=5:=by exact kn),Ok trees N ⟨[u,c,j,g,sub,v,pl,q,y,g2,Q,a2,U,H,Z,O],[o,z],[k,P,d,R,M,x,A,D],[C]⟩ fun J=>(J=(0,(⟨[0],[],[],[]⟩:Ah)))
theorem Ag6 (n:Nat):Ake 109 n:=by
 induction n with
 |zero=>intro e0 nf j g sub al pl fl k g2 y a2 z v U Q c q o P Fs R x D H u J d N h;exact absurd h.2.2.2.2.2.2 (Nat.not_lt_zero _)
 |succ n ih=>
 intro e0 nf j g sub al pl fl k g2 y a2 z v U Q c q o P Fs R x D H u J d N h
 rcases N with rfl|⟨fb,fa,Γe,rk,ro,ry,rw,rs,rfl,hO,hT,hd,hn,hrn,hrh⟩<;>simp only [lC,lN]at h<;>rcases h.1 with rfl|rfl
 ·obtain ⟨_,rfl,rfl,rfl,_,rfl,_⟩:=h;skip
  refine .of (t:=KS) rfl ?_
  unfold KS
  refine En 0 0 ?_
  exact Aj ⟨[0],[],[],[]⟩ (rfl)
 ·exfalso;omega
 ·obtain ⟨_,rfl,rfl,rfl,_,rfl,_⟩:=h;have A:(AF.length:Int)=2:=rfl;have O:=S.len fb;have M:=S.A7 fb;have C:=E.A7 fa;have hk:=hT.kind
  refine .of (t:=KS) rfl ?_
  unfold KS
  refine BD 0 1 ?_
  refine BL 0 0 ?_
  obtain ⟨_,rfl,G1⟩:=AiX g sub 5 pl 1 k 0 c o P [hrow AF (S.Ac fb) rk ro ry rs rw (E.Ac fa)] R d rfl hO hT
  refine ch G1 ?_
  obtain ⟨_,rfl,Z⟩:=ih 0 1 (0+1) g sub 5 pl 1 k g2 y a2 z v U Q c q o P [hrow AF (S.Ac fb) rk ro ry rs rw (E.Ac fa)] R x D H u J d (.inr ⟨_,_,_,_,_,_,_,_,rfl,hO,hT,hd,hn,hrn,hrh⟩) kn
  refine ch Z ?_
  exact Aj ⟨[0],[],[],[]⟩ (rfl)
 ·obtain ⟨_,rfl,rfl,rfl,_,rfl,_⟩:=h;have A:(AF.length:Int)=2:=rfl;have O:=S.len fb;have M:=S.A7 fb;have C:=E.A7 fa;have hk:=hT.kind
  refine .of (t:=KS) rfl ?_
  unfold KS
  refine En 1 1 ?_
  exact Aj ⟨[0],[],[],[]⟩ (rfl)
theorem AdH:AjL 109:=fun N k j g sub Q pl M o g2 A a2 C y Z U c u q P v R z D H x J d O h=>Ag6 ((k-j).toNat+1) N k j g sub Q pl M o g2 A a2 C y Z U c u q P v R z D H x J d O ⟨h.1,h.2.1,h.2.2.1,h.2.2.2.1,h.2.2.2.2.1,h.2.2.2.2.2,Nat.lt_succ_self _⟩
def AmS (N n:Nat):Prop:=∀(c len:Int) (j g:Int) (sub z:Int) (pl x:Int) (q k:Int) (o:List Nat) (L u:Rs) (P v R:Rs) (A:Hg L) (h:(j=0∨j=1)∧c=L.length∧len=c∧j≤c∧0≤k∧k+180*(1-j)≤180∧(c-j).toNat<n),Ok trees N ⟨[c,len,j,g,sub,z,pl,x,q,k],[o],[L,u,P,v,R],[]⟩ fun y=>(∃(d:Int),y=(0,(⟨[d],[],[],[]⟩:Ah))∧(0≤d)∧(d≤180))
def Am5 (N:Nat):Prop:=∀(d len:Int) (j g:Int) (sub z:Int) (pl x:Int) (q k:Int) (o:List Nat) (L u:Rs) (P v R:Rs) (A:Hg L) (h:(j=0∨j=1)∧d=L.length∧len=d∧j≤d∧0≤k∧k+180*(1-j)≤180:=by exact kn),Ok trees N ⟨[d,len,j,g,sub,z,pl,x,q,k],[o],[L,u,P,v,R],[]⟩ fun y=>(∃(c:Int),y=(0,(⟨[c],[],[],[]⟩:Ah))∧(0≤c)∧(c≤180))
theorem AkI (n:Nat):AmS 51 n:=by
 induction n with
 |zero=>intro U len j g sub N pl H x c k L y P z R J h;exact absurd h.2.2.2.2.2.2 (Nat.not_lt_zero _)
 |succ n ih=>
 intro U len j g sub N pl H x c k L y P z R J h
 rcases J with rfl|⟨fb,fa,Γe,rk,ro,ry,rw,rs,rfl,hO,hT,hd,hn,hrn,hrh⟩<;>simp only [lC,lN]at h<;>rcases h.1 with rfl|rfl
 ·obtain ⟨_,rfl,rfl,_,o,d,_⟩:=h;skip
  refine .of (t:=R6) rfl ?_
  unfold R6
  refine En 0 0 ?_
  exact Aj ⟨[c],[],[],[]⟩ (⟨_,rfl,kn,kn⟩)
 ·exfalso;omega
 ·obtain ⟨_,rfl,rfl,_,o,d,_⟩:=h;have A:(AF.length:Int)=2:=rfl;have M:=S.len fb;have D:=S.A7 fb;have C:=E.A7 fa;have hk:=hT.kind
  refine .of (t:=R6) rfl ?_
  unfold R6
  refine BD 0 1 ?_
  refine CX 0 0 ?_
  refine BD 0 1 ?_
  refine el (j':=0) rfl ?_
  refine Ss (AF.length:Int) 8 ?_
  obtain ⟨_,⟨u,rfl,ac⟩,Q⟩:=AiA ((S.Ac fb).length:Int) 1 c (S.Ac fb) hO rfl
  refine ch Q ?_
  obtain ⟨_,⟨q,rfl,Z⟩,O⟩:=Ai9 rk ro ry rw ((E.Ac fa).length:Int) 1 u rs (E.Ac fa) hT rfl
  refine ch O ?_
  obtain ⟨_,⟨v,rfl,ab,aa⟩,G3⟩:=ih 1 1 (0+1) g sub N pl H x q k [hrow AF (S.Ac fb) rk ro ry rs rw (E.Ac fa)] y P z R (.inr ⟨_,_,_,_,_,_,_,_,rfl,hO,hT,hd,hn,hrn,hrh⟩) kn
  refine ch G3 ?_
  exact Aj ⟨[v],[],[],[]⟩ (⟨_,rfl,kn,kn⟩)
 ·obtain ⟨_,rfl,rfl,_,o,d,_⟩:=h;have A:(AF.length:Int)=2:=rfl;have M:=S.len fb;have D:=S.A7 fb;have C:=E.A7 fa;have hk:=hT.kind
  refine .of (t:=R6) rfl ?_
  unfold R6
  refine En 1 1 ?_
  exact Aj ⟨[c],[],[],[]⟩ (⟨_,rfl,kn,kn⟩)
theorem Alz:Am5 51:=fun d len j g sub x pl k u q c L v P y R o h=>AkI ((d-j).toNat+1) d len j g sub x pl k u q c L v P y R o ⟨h.1,h.2.1,h.2.2.1,h.2.2.2.1,h.2.2.2.2.1,h.2.2.2.2.2,Nat.lt_succ_self _⟩
def Am6 (N:Nat):Prop:=∀{q u:Ctx} {l:List S} (g sub:Int) (o pl:Int) (d j:Int) (k:List Nat) (v P:Rs) (c R:Rs) (A:Hg c) (z:R=S.Ac l) (y:CE 0 0 q l u) (h:o=5∧pl=3∧d=c.length∧d≤1∧j=R.length∧S.Ag l≤1600∧S.A4 l≤10:=by exact kn),Ok trees N ⟨[g,sub,o,pl,d,j],[k],[v,P,c,R],[]⟩ fun x=>(x=(0,v0))
theorem Al0:Am6 50:=by
 intro Q U l g sub v pl c k q A P o R J y u h
 subst y;have O:=S.len l;have N:=S.A7 l
 refine .of (t:=Aci) rfl ?_
 unfold Aci
 refine Ss v 8 ?_
 refine Ss pl 8 ?_
 refine Ss c 8 ?_
 obtain ⟨_,⟨j,rfl,H,M⟩,C⟩:=Alz c c 0 g sub v pl c k 0 q o A P o (S.Ac l) J
 refine ch C ?_
 obtain ⟨_,⟨d,rfl,D⟩,z⟩:=AiA k 1 j (S.Ac l) u rfl
 refine ch z ?_
 refine le d 2000 (fun x=>?_) fun x=>?_
 ·exact Aj v0 (rfl)
 exact dead
end Go.Proofs.YtbmofjdmgjpfoaaGreatDoor.Am
end
section
set_option maxHeartbeats 40000000
set_option maxRecDepth 100000
namespace Go.Proofs.YtbmofjdmgjpfoaaGreatDoor.Am
open Go.AM Go.AM.K
def AmK (N n:Nat):Prop:=∀(o len:Int) (j g:Int) (sub z:Int) (pl y:Int) (u c:Int) (k:List Nat) (L v:Rs) (P x R:Rs) (A:L=A0) (h:o=5∧len=5∧0≤j∧j≤5∧0≤c∧c+200*(5-j)≤900000∧(5-j).toNat<n),Ok trees N ⟨[o,len,j,g,sub,z,pl,y,u,c],[k],[L,v,P,x,R],[]⟩ fun q=>(q=(0,v0))∨(∃(d:Int),q=(1,(⟨[d],[],[],[]⟩:Ah))∧(d≤c+200*(5-j))∧(c≤d))
def Amo (N:Nat):Prop:=∀(o len:Int) (j g:Int) (sub z:Int) (pl y:Int) (u c:Int) (k:List Nat) (L v:Rs) (P x R:Rs) (A:L=A0) (h:o=5∧len=5∧0≤j∧j≤5∧0≤c∧c+200*(5-j)≤900000:=by exact kn),Ok trees N ⟨[o,len,j,g,sub,z,pl,y,u,c],[k],[L,v,P,x,R],[]⟩ fun q=>(q=(0,v0))∨(∃(d:Int),q=(1,(⟨[d],[],[],[]⟩:Ah))∧(d≤c+200*(5-j))∧(c≤d))
theorem Ak9 (n:Nat):AmK 78 n:=by
 induction n with
 |zero=>intro ln len j g sub v pl u k c d L o P q R O h;exact absurd h.2.2.2.2.2.2 (Nat.not_lt_zero _)
 |succ n ih=>
 intro ln len j g sub v pl u k c d L o P q R O h
 subst O;have ⟨h1,h2,aq,ax,au,aw,av⟩:=h;subst h1;subst h2
 rcases (by omega:j=0∨j=1∨j=2∨j=3∨j=4∨j=5)with rfl|rfl|rfl|rfl|rfl|rfl
 ·refine .of (t:=Jv) rfl ?_
  unfold Jv
  refine BD 0 5 ?_
  refine CX 0 0 ?_
  refine BD 0 5 ?_
  refine el (j':=0) rfl ?_
  refine En (1-1) 0 ?_
  refine IZ (1-1) 3 ?_
  refine BL (1-1) 0 ?_
  refine bu c ?_
  refine bu (c+6) ?_
  refine nv ⟨[5,5,0,g,sub,v,pl,u,k,c,1,1,8,(c+6),((c+6)+1)],[d,[97]],[A0,o,P,q,R],[]⟩ ?_
  obtain ⟨_,rfl,G1⟩:=FQ [97] (by decide)
  refine ch G1 ?_
  refine sl [97] ?_
  refine bu ((c+6)+1) ?_
  refine bu (((c+6)+1)+64) ?_
  refine nv ⟨[5,5,0,g,sub,v,pl,u,k,c,1,1,8,(c+6),((c+6)+1),([97].length:Int),(((c+6)+1)+64),((((c+6)+1)+64)+1)],[d,[97]],[A0,o,P,q,R],[]⟩ ?_
  refine En (1-1) 0 ?_
  refine IZ (1-1) 3 ?_
  refine BL (1-1) 0 ?_
  refine bu ((((c+6)+1)+64)+1) ?_
  refine CX 8 (-9223372036854775808) ?_
  refine F8 8 9223372036854775807 ?_
  refine bu (((((c+6)+1)+64)+1)+3) ?_
  refine nv ⟨[5,5,0,g,sub,v,pl,u,k,c,1,1,8,(c+6),((c+6)+1),([97].length:Int),(((c+6)+1)+64),((((c+6)+1)+64)+1),(((((c+6)+1)+64)+1)+3),((((((c+6)+1)+64)+1)+3)+1)],[d,[97]],[A0,o,P,q,R],[]⟩ ?_
  refine bu ((((((c+6)+1)+64)+1)+3)+1) ?_
  refine bu (((((((c+6)+1)+64)+1)+3)+1)+21) ?_
  refine nv ⟨[5,5,0,g,sub,v,pl,u,k,c,1,1,8,(c+6),((c+6)+1),([97].length:Int),(((c+6)+1)+64),((((c+6)+1)+64)+1),(((((c+6)+1)+64)+1)+3),((((((c+6)+1)+64)+1)+3)+1),(((((((c+6)+1)+64)+1)+3)+1)+21),((((((((c+6)+1)+64)+1)+3)+1)+21)+1)],[d,[97]],[A0,o,P,q,R],[]⟩ ?_
  obtain ⟨_,(rfl|⟨A,rfl,af,aa⟩),H⟩:=ih 5 5 (0+1) g sub v pl u k ((((((((c+6)+1)+64)+1)+3)+1)+21)+1) d A0 o P q R rfl kn
  ·refine ch H ?_
   exact Aj ⟨[((((((((c+6)+1)+64)+1)+3)+1)+21)+1)],[],[],[]⟩ (.inr ((⟨_,rfl,kn,kn⟩)))
  refine cm H ?_
  refine ch H ?_
  exact Aj ⟨[A],[],[],[]⟩ (.inr ((⟨_,rfl,kn,kn⟩)))
 ·refine .of (t:=Jv) rfl ?_
  unfold Jv
  refine BD 1 5 ?_
  refine CX 1 0 ?_
  refine BD 1 5 ?_
  refine el (j':=1) rfl ?_
  refine En (1-1) 0 ?_
  refine IZ (1-1) 3 ?_
  refine BL (1-1) 0 ?_
  refine bu c ?_
  refine bu (c+6) ?_
  refine nv ⟨[5,5,1,g,sub,v,pl,u,k,c,1,2,4,(c+6),((c+6)+1)],[d,[102]],[A0,o,P,q,R],[]⟩ ?_
  obtain ⟨_,rfl,G3⟩:=FQ [102] (by decide)
  refine ch G3 ?_
  refine sl [102] ?_
  refine bu ((c+6)+1) ?_
  refine bu (((c+6)+1)+64) ?_
  refine nv ⟨[5,5,1,g,sub,v,pl,u,k,c,1,2,4,(c+6),((c+6)+1),([102].length:Int),(((c+6)+1)+64),((((c+6)+1)+64)+1)],[d,[102]],[A0,o,P,q,R],[]⟩ ?_
  refine En (2-1) 0 ?_
  refine IZ (2-1) 3 ?_
  refine AT (2-1) 0 ?_
  refine BL (2-1) 1 ?_
  refine bu ((((c+6)+1)+64)+1) ?_
  refine CX 4 (-9223372036854775808) ?_
  refine F8 4 9223372036854775807 ?_
  refine bu (((((c+6)+1)+64)+1)+3) ?_
  refine nv ⟨[5,5,1,g,sub,v,pl,u,k,c,1,2,4,(c+6),((c+6)+1),([102].length:Int),(((c+6)+1)+64),((((c+6)+1)+64)+1),(((((c+6)+1)+64)+1)+3),((((((c+6)+1)+64)+1)+3)+1)],[d,[102]],[A0,o,P,q,R],[]⟩ ?_
  refine bu ((((((c+6)+1)+64)+1)+3)+1) ?_
  refine bu (((((((c+6)+1)+64)+1)+3)+1)+21) ?_
  refine nv ⟨[5,5,1,g,sub,v,pl,u,k,c,1,2,4,(c+6),((c+6)+1),([102].length:Int),(((c+6)+1)+64),((((c+6)+1)+64)+1),(((((c+6)+1)+64)+1)+3),((((((c+6)+1)+64)+1)+3)+1),(((((((c+6)+1)+64)+1)+3)+1)+21),((((((((c+6)+1)+64)+1)+3)+1)+21)+1)],[d,[102]],[A0,o,P,q,R],[]⟩ ?_
  obtain ⟨_,(rfl|⟨z,rfl,ac,Z⟩),J⟩:=ih 5 5 (1+1) g sub v pl u k ((((((((c+6)+1)+64)+1)+3)+1)+21)+1) d A0 o P q R rfl kn
  ·refine ch J ?_
   exact Aj ⟨[((((((((c+6)+1)+64)+1)+3)+1)+21)+1)],[],[],[]⟩ (.inr ((⟨_,rfl,kn,kn⟩)))
  refine cm J ?_
  refine ch J ?_
  exact Aj ⟨[z],[],[],[]⟩ (.inr ((⟨_,rfl,kn,kn⟩)))
 ·refine .of (t:=Jv) rfl ?_
  unfold Jv
  refine BD 2 5 ?_
  refine CX 2 0 ?_
  refine BD 2 5 ?_
  refine el (j':=2) rfl ?_
  refine En (2-1) 0 ?_
  refine IZ (2-1) 3 ?_
  refine AT (2-1) 0 ?_
  refine BL (2-1) 1 ?_
  refine bu c ?_
  refine bu (c+6) ?_
  refine nv ⟨[5,5,2,g,sub,v,pl,u,k,c,2,1,8,(c+6),((c+6)+1)],[d,[115]],[A0,o,P,q,R],[]⟩ ?_
  obtain ⟨_,rfl,G5⟩:=FQ [115] (by decide)
  refine ch G5 ?_
  refine sl [115] ?_
  refine bu ((c+6)+1) ?_
  refine bu (((c+6)+1)+64) ?_
  refine nv ⟨[5,5,2,g,sub,v,pl,u,k,c,2,1,8,(c+6),((c+6)+1),([115].length:Int),(((c+6)+1)+64),((((c+6)+1)+64)+1)],[d,[115]],[A0,o,P,q,R],[]⟩ ?_
  refine En (1-1) 0 ?_
  refine IZ (1-1) 3 ?_
  refine BL (1-1) 0 ?_
  refine bu ((((c+6)+1)+64)+1) ?_
  refine CX 8 (-9223372036854775808) ?_
  refine F8 8 9223372036854775807 ?_
  refine bu (((((c+6)+1)+64)+1)+3) ?_
  refine nv ⟨[5,5,2,g,sub,v,pl,u,k,c,2,1,8,(c+6),((c+6)+1),([115].length:Int),(((c+6)+1)+64),((((c+6)+1)+64)+1),(((((c+6)+1)+64)+1)+3),((((((c+6)+1)+64)+1)+3)+1)],[d,[115]],[A0,o,P,q,R],[]⟩ ?_
  refine bu ((((((c+6)+1)+64)+1)+3)+1) ?_
  refine bu (((((((c+6)+1)+64)+1)+3)+1)+21) ?_
  refine nv ⟨[5,5,2,g,sub,v,pl,u,k,c,2,1,8,(c+6),((c+6)+1),([115].length:Int),(((c+6)+1)+64),((((c+6)+1)+64)+1),(((((c+6)+1)+64)+1)+3),((((((c+6)+1)+64)+1)+3)+1),(((((((c+6)+1)+64)+1)+3)+1)+21),((((((((c+6)+1)+64)+1)+3)+1)+21)+1)],[d,[115]],[A0,o,P,q,R],[]⟩ ?_
  obtain ⟨_,(rfl|⟨C,rfl,ab,ae⟩),M⟩:=ih 5 5 (2+1) g sub v pl u k ((((((((c+6)+1)+64)+1)+3)+1)+21)+1) d A0 o P q R rfl kn
  ·refine ch M ?_
   exact Aj ⟨[((((((((c+6)+1)+64)+1)+3)+1)+21)+1)],[],[],[]⟩ (.inr ((⟨_,rfl,kn,kn⟩)))
  refine cm M ?_
  refine ch M ?_
  exact Aj ⟨[C],[],[],[]⟩ (.inr ((⟨_,rfl,kn,kn⟩)))
 ·refine .of (t:=Jv) rfl ?_
  unfold Jv
  refine BD 3 5 ?_
  refine CX 3 0 ?_
  refine BD 3 5 ?_
  refine el (j':=3) rfl ?_
  refine En (3-1) 0 ?_
  refine IZ (3-1) 3 ?_
  refine AT (3-1) 0 ?_
  refine AT (3-1) 1 ?_
  refine BL (3-1) 2 ?_
  refine bu c ?_
  refine bu (c+7) ?_
  refine nv ⟨[5,5,3,g,sub,v,pl,u,k,c,3,1,4,(c+7),((c+7)+1)],[d,[112]],[A0,o,P,q,R],[]⟩ ?_
  obtain ⟨_,rfl,G7⟩:=FQ [112] (by decide)
  refine ch G7 ?_
  refine sl [112] ?_
  refine bu ((c+7)+1) ?_
  refine bu (((c+7)+1)+64) ?_
  refine nv ⟨[5,5,3,g,sub,v,pl,u,k,c,3,1,4,(c+7),((c+7)+1),([112].length:Int),(((c+7)+1)+64),((((c+7)+1)+64)+1)],[d,[112]],[A0,o,P,q,R],[]⟩ ?_
  refine En (1-1) 0 ?_
  refine IZ (1-1) 3 ?_
  refine BL (1-1) 0 ?_
  refine bu ((((c+7)+1)+64)+1) ?_
  refine CX 4 (-9223372036854775808) ?_
  refine F8 4 9223372036854775807 ?_
  refine bu (((((c+7)+1)+64)+1)+3) ?_
  refine nv ⟨[5,5,3,g,sub,v,pl,u,k,c,3,1,4,(c+7),((c+7)+1),([112].length:Int),(((c+7)+1)+64),((((c+7)+1)+64)+1),(((((c+7)+1)+64)+1)+3),((((((c+7)+1)+64)+1)+3)+1)],[d,[112]],[A0,o,P,q,R],[]⟩ ?_
  refine bu ((((((c+7)+1)+64)+1)+3)+1) ?_
  refine bu (((((((c+7)+1)+64)+1)+3)+1)+21) ?_
  refine nv ⟨[5,5,3,g,sub,v,pl,u,k,c,3,1,4,(c+7),((c+7)+1),([112].length:Int),(((c+7)+1)+64),((((c+7)+1)+64)+1),(((((c+7)+1)+64)+1)+3),((((((c+7)+1)+64)+1)+3)+1),(((((((c+7)+1)+64)+1)+3)+1)+21),((((((((c+7)+1)+64)+1)+3)+1)+21)+1)],[d,[112]],[A0,o,P,q,R],[]⟩ ?_
  obtain ⟨_,(rfl|⟨D,rfl,ag,ad⟩),N⟩:=ih 5 5 (3+1) g sub v pl u k ((((((((c+7)+1)+64)+1)+3)+1)+21)+1) d A0 o P q R rfl kn
  ·refine ch N ?_
   exact Aj ⟨[((((((((c+7)+1)+64)+1)+3)+1)+21)+1)],[],[],[]⟩ (.inr ((⟨_,rfl,kn,kn⟩)))
  refine cm N ?_
  refine ch N ?_
  exact Aj ⟨[D],[],[],[]⟩ (.inr ((⟨_,rfl,kn,kn⟩)))
 ·refine .of (t:=Jv) rfl ?_
  unfold Jv
  refine BD 4 5 ?_
  refine CX 4 0 ?_
  refine BD 4 5 ?_
  refine el (j':=4) rfl ?_
  refine En (2-1) 0 ?_
  refine IZ (2-1) 3 ?_
  refine AT (2-1) 0 ?_
  refine BL (2-1) 1 ?_
  refine bu c ?_
  refine bu (c+6) ?_
  refine nv ⟨[5,5,4,g,sub,v,pl,u,k,c,2,3,4,(c+6),((c+6)+1)],[d,[98]],[A0,o,P,q,R],[]⟩ ?_
  obtain ⟨_,rfl,G9⟩:=FQ [98] (by decide)
  refine ch G9 ?_
  refine sl [98] ?_
  refine bu ((c+6)+1) ?_
  refine bu (((c+6)+1)+64) ?_
  refine nv ⟨[5,5,4,g,sub,v,pl,u,k,c,2,3,4,(c+6),((c+6)+1),([98].length:Int),(((c+6)+1)+64),((((c+6)+1)+64)+1)],[d,[98]],[A0,o,P,q,R],[]⟩ ?_
  refine En (3-1) 0 ?_
  refine IZ (3-1) 3 ?_
  refine AT (3-1) 0 ?_
  refine AT (3-1) 1 ?_
  refine BL (3-1) 2 ?_
  refine bu ((((c+6)+1)+64)+1) ?_
  refine CX 4 (-9223372036854775808) ?_
  refine F8 4 9223372036854775807 ?_
  refine bu (((((c+6)+1)+64)+1)+4) ?_
  refine nv ⟨[5,5,4,g,sub,v,pl,u,k,c,2,3,4,(c+6),((c+6)+1),([98].length:Int),(((c+6)+1)+64),((((c+6)+1)+64)+1),(((((c+6)+1)+64)+1)+4),((((((c+6)+1)+64)+1)+4)+1)],[d,[98]],[A0,o,P,q,R],[]⟩ ?_
  refine bu ((((((c+6)+1)+64)+1)+4)+1) ?_
  refine bu (((((((c+6)+1)+64)+1)+4)+1)+21) ?_
  refine nv ⟨[5,5,4,g,sub,v,pl,u,k,c,2,3,4,(c+6),((c+6)+1),([98].length:Int),(((c+6)+1)+64),((((c+6)+1)+64)+1),(((((c+6)+1)+64)+1)+4),((((((c+6)+1)+64)+1)+4)+1),(((((((c+6)+1)+64)+1)+4)+1)+21),((((((((c+6)+1)+64)+1)+4)+1)+21)+1)],[d,[98]],[A0,o,P,q,R],[]⟩ ?_
  obtain ⟨_,(rfl|⟨y,rfl,U,Q⟩),x⟩:=ih 5 5 (4+1) g sub v pl u k ((((((((c+6)+1)+64)+1)+4)+1)+21)+1) d A0 o P q R rfl kn
  ·refine ch x ?_
   exact Aj ⟨[((((((((c+6)+1)+64)+1)+4)+1)+21)+1)],[],[],[]⟩ (.inr ((⟨_,rfl,kn,kn⟩)))
  refine cm x ?_
  refine ch x ?_
  exact Aj ⟨[y],[],[],[]⟩ (.inr ((⟨_,rfl,kn,kn⟩)))
 ·refine .of (t:=Jv) rfl ?_
  unfold Jv
  refine En 5 5 ?_
  exact Aj v0 (.inl rfl)
theorem Alq:Amo 78:=fun y len j g sub v pl d o u c L q P x R k h=>Ak9 ((5-j).toNat+1) y len j g sub v pl d o u c L q P x R k ⟨h.1,h.2.1,h.2.2.1,h.2.2.2.1,h.2.2.2.2.1,h.2.2.2.2.2,Nat.lt_succ_self _⟩
end Go.Proofs.YtbmofjdmgjpfoaaGreatDoor.Am
end
section
set_option maxHeartbeats 40000000
set_option maxRecDepth 100000
namespace Go.Proofs.YtbmofjdmgjpfoaaGreatDoor.Am
open Go.AM Go.AM.K
def Akj (N n:Nat):Prop:=∀(q len:Int) (j p1:Int) (k u:Int) (A C:Int) (H J:Int) (z c:Int) (o g:List Nat) (L D:Rs) (x y:Rs) (M:L=AF) (h:q=2∧len=2∧0≤j∧j≤2∧0≤c∧c+200*(2-j)≤900000∧(2-j).toNat<n),Ok trees N ⟨[q,len,j,p1,k,u,A,C,H,J,z,c],[o,g],[L,D,x,y],[]⟩ fun v=>(v=(0,v0))∨(∃(d:Int),v=(1,(⟨[d],[],[],[]⟩:Ah))∧(d≤c+200*(2-j))∧(c≤d))
def AjS (N:Nat):Prop:=∀(q len:Int) (j p1:Int) (k u:Int) (A C:Int) (H J:Int) (z c:Int) (o g:List Nat) (L D:Rs) (x y:Rs) (M:L=AF) (h:q=2∧len=2∧0≤j∧j≤2∧0≤c∧c+200*(2-j)≤900000:=by exact kn),Ok trees N ⟨[q,len,j,p1,k,u,A,C,H,J,z,c],[o,g],[L,D,x,y],[]⟩ fun v=>(v=(0,v0))∨(∃(d:Int),v=(1,(⟨[d],[],[],[]⟩:Ah))∧(d≤c+200*(2-j))∧(c≤d))
theorem AgB (n:Nat):Akj 102 n:=by
 induction n with
 |zero=>intro ln len j p1 o g y z v C u c d k L A q x N h;exact absurd h.2.2.2.2.2.2 (Nat.not_lt_zero _)
 |succ n ih=>
 intro ln len j p1 o g y z v C u c d k L A q x N h
 subst N;have ⟨h1,U,ad,ah,ae,ag,af⟩:=h;subst h1;subst U
 rcases (by omega:j=0∨j=1∨j=2)with rfl|rfl|rfl
 ·refine .of (t:=KU) rfl ?_
  unfold KU
  refine BD 0 2 ?_
  refine CX 0 0 ?_
  refine BD 0 2 ?_
  refine el (j':=0) rfl ?_
  refine Ss 0 0 ?_
  obtain ⟨_,rfl,Z⟩:=FQ [120] (by decide)
  refine ch Z ?_
  refine sl [120] ?_
  refine bu c ?_
  refine bu (c+64) ?_
  refine nv ⟨[2,2,0,p1,o,g,y,z,v,C,u,c,1,([120].length:Int),(c+64),((c+64)+1)],[d,k,[120]],[AF,A,q,x],[]⟩ ?_
  refine En (1-1) 0 ?_
  refine IZ (1-1) 3 ?_
  refine BL (1-1) 0 ?_
  refine bu ((c+64)+1) ?_
  obtain ⟨_,(rfl|⟨H,rfl,R,P⟩),J⟩:=ih 2 2 (0+1) p1 o g y z v C u (((c+64)+1)+3) d k AF A q x rfl kn
  ·refine ch J ?_
   exact Aj ⟨[(((c+64)+1)+3)],[],[],[]⟩ (.inr ((⟨_,rfl,kn,kn⟩)))
  refine cm J ?_
  refine ch J ?_
  exact Aj ⟨[H],[],[],[]⟩ (.inr ((⟨_,rfl,kn,kn⟩)))
 ·refine .of (t:=KU) rfl ?_
  unfold KU
  refine BD 1 2 ?_
  refine CX 1 0 ?_
  refine BD 1 2 ?_
  refine el (j':=1) rfl ?_
  refine gtY 1 0 ?_
  refine bu c ?_
  refine nv ⟨[2,2,1,p1,o,g,y,z,v,C,u,c,1,(c+2)],[d,k,[121]],[AF,A,q,x],[]⟩ ?_
  obtain ⟨_,rfl,G3⟩:=FQ [121] (by decide)
  refine ch G3 ?_
  refine sl [121] ?_
  refine bu (c+2) ?_
  refine bu ((c+2)+64) ?_
  refine nv ⟨[2,2,1,p1,o,g,y,z,v,C,u,c,1,(c+2),([121].length:Int),((c+2)+64),(((c+2)+64)+1)],[d,k,[121]],[AF,A,q,x],[]⟩ ?_
  refine En (1-1) 0 ?_
  refine IZ (1-1) 3 ?_
  refine BL (1-1) 0 ?_
  refine bu (((c+2)+64)+1) ?_
  obtain ⟨_,(rfl|⟨D,rfl,Q,O⟩),M⟩:=ih 2 2 (1+1) p1 o g y z v C u ((((c+2)+64)+1)+3) d k AF A q x rfl kn
  ·refine ch M ?_
   exact Aj ⟨[((((c+2)+64)+1)+3)],[],[],[]⟩ (.inr ((⟨_,rfl,kn,kn⟩)))
  refine cm M ?_
  refine ch M ?_
  exact Aj ⟨[D],[],[],[]⟩ (.inr ((⟨_,rfl,kn,kn⟩)))
 ·refine .of (t:=KU) rfl ?_
  unfold KU
  refine En 2 2 ?_
  exact Aj v0 (.inl rfl)
theorem Ajb:AjS 102:=fun x len j p1 k d A C y H u v c g L D o z q h=>AgB ((2-j).toNat+1) x len j p1 k d A C y H u v c g L D o z q ⟨h.1,h.2.1,h.2.2.1,h.2.2.2.1,h.2.2.2.2.1,h.2.2.2.2.2,Nat.lt_succ_self _⟩
def AmJ (N n:Nat):Prop:=∀(o len:Int) (j g:Int) (sub z:Int) (pl y:Int) (u c:Int) (k:List Nat) (L v:Rs) (P x R:Rs) (A:L=As) (h:o=3∧len=3∧0≤j∧j≤3∧0≤c∧c+200*(3-j)≤900000∧(3-j).toNat<n),Ok trees N ⟨[o,len,j,g,sub,z,pl,y,u,c],[k],[L,v,P,x,R],[]⟩ fun q=>(q=(0,v0))∨(∃(d:Int),q=(1,(⟨[d],[],[],[]⟩:Ah))∧(d≤c+200*(3-j))∧(c≤d))
def Amn (N:Nat):Prop:=∀(o len:Int) (j g:Int) (sub z:Int) (pl y:Int) (u c:Int) (k:List Nat) (L v:Rs) (P x R:Rs) (A:L=As) (h:o=3∧len=3∧0≤j∧j≤3∧0≤c∧c+200*(3-j)≤900000:=by exact kn),Ok trees N ⟨[o,len,j,g,sub,z,pl,y,u,c],[k],[L,v,P,x,R],[]⟩ fun q=>(q=(0,v0))∨(∃(d:Int),q=(1,(⟨[d],[],[],[]⟩:Ah))∧(d≤c+200*(3-j))∧(c≤d))
theorem Ak8 (n:Nat):AmJ 79 n:=by
 induction n with
 |zero=>intro ln len j g sub v pl u k c d L o P q R H h;exact absurd h.2.2.2.2.2.2 (Nat.not_lt_zero _)
 |succ n ih=>
 intro ln len j g sub v pl u k c d L o P q R H h
 subst H;have ⟨h1,Z,af,aj,ag,ai,ah⟩:=h;subst h1;subst Z
 rcases (by omega:j=0∨j=1∨j=2∨j=3)with rfl|rfl|rfl|rfl
 ·refine .of (t:=NQ) rfl ?_
  unfold NQ
  refine BD 0 3 ?_
  refine CX 0 0 ?_
  refine BD 0 3 ?_
  refine el (j':=0) rfl ?_
  refine bu c ?_
  refine nv ⟨[3,3,0,g,sub,v,pl,u,k,c,1,(c+6)],[d,[110]],[As,o,P,q,R],[]⟩ ?_
  obtain ⟨_,rfl,G1⟩:=FQ [110] (by decide)
  refine ch G1 ?_
  refine sl [110] ?_
  refine bu (c+6) ?_
  refine bu ((c+6)+64) ?_
  refine nv ⟨[3,3,0,g,sub,v,pl,u,k,c,1,(c+6),([110].length:Int),((c+6)+64),(((c+6)+64)+1)],[d,[110]],[As,o,P,q,R],[]⟩ ?_
  refine En (1-1) 0 ?_
  refine IZ (1-1) 3 ?_
  refine BL (1-1) 0 ?_
  refine bu (((c+6)+64)+1) ?_
  refine bu ((((c+6)+64)+1)+3) ?_
  refine nv ⟨[3,3,0,g,sub,v,pl,u,k,c,1,(c+6),([110].length:Int),((c+6)+64),(((c+6)+64)+1),((((c+6)+64)+1)+3),(((((c+6)+64)+1)+3)+1)],[d,[110]],[As,o,P,q,R],[]⟩ ?_
  obtain ⟨_,(rfl|⟨y,rfl,U,M⟩),A⟩:=ih 3 3 (0+1) g sub v pl u k (((((c+6)+64)+1)+3)+1) d As o P q R rfl kn
  ·refine ch A ?_
   exact Aj ⟨[(((((c+6)+64)+1)+3)+1)],[],[],[]⟩ (.inr ((⟨_,rfl,kn,kn⟩)))
  refine cm A ?_
  refine ch A ?_
  exact Aj ⟨[y],[],[],[]⟩ (.inr ((⟨_,rfl,kn,kn⟩)))
 ·refine .of (t:=NQ) rfl ?_
  unfold NQ
  refine BD 1 3 ?_
  refine CX 1 0 ?_
  refine BD 1 3 ?_
  refine el (j':=1) rfl ?_
  refine bu c ?_
  obtain ⟨_,rfl,G3⟩:=FQ [116] (by decide)
  refine ch G3 ?_
  refine sl [116] ?_
  refine bu (c+6) ?_
  refine nv ⟨[3,3,1,g,sub,v,pl,u,k,c,2,(c+6),([116].length:Int),((c+6)+64)],[d,[116]],[As,o,P,q,R],[]⟩ ?_
  refine bu ((c+6)+64) ?_
  refine En (2-1) 0 ?_
  refine IZ (2-1) 3 ?_
  refine AT (2-1) 0 ?_
  refine BL (2-1) 1 ?_
  refine bu (((c+6)+64)+1) ?_
  refine nv ⟨[3,3,1,g,sub,v,pl,u,k,c,2,(c+6),([116].length:Int),((c+6)+64),(((c+6)+64)+1),((((c+6)+64)+1)+3)],[d,[116]],[As,o,P,q,R],[]⟩ ?_
  refine bu ((((c+6)+64)+1)+3) ?_
  obtain ⟨_,(rfl|⟨x,rfl,O,J⟩),C⟩:=ih 3 3 (1+1) g sub v pl u k (((((c+6)+64)+1)+3)+1) d As o P q R rfl kn
  ·refine ch C ?_
   exact Aj ⟨[(((((c+6)+64)+1)+3)+1)],[],[],[]⟩ (.inr ((⟨_,rfl,kn,kn⟩)))
  refine cm C ?_
  refine ch C ?_
  exact Aj ⟨[x],[],[],[]⟩ (.inr ((⟨_,rfl,kn,kn⟩)))
 ·refine .of (t:=NQ) rfl ?_
  unfold NQ
  refine BD 2 3 ?_
  refine CX 2 0 ?_
  refine BD 2 3 ?_
  refine el (j':=2) rfl ?_
  refine bu c ?_
  refine nv ⟨[3,3,2,g,sub,v,pl,u,k,c,3,(c+6)],[d,[99]],[As,o,P,q,R],[]⟩ ?_
  obtain ⟨_,rfl,G5⟩:=FQ [99] (by decide)
  refine ch G5 ?_
  refine sl [99] ?_
  refine bu (c+6) ?_
  refine bu ((c+6)+64) ?_
  refine nv ⟨[3,3,2,g,sub,v,pl,u,k,c,3,(c+6),([99].length:Int),((c+6)+64),(((c+6)+64)+1)],[d,[99]],[As,o,P,q,R],[]⟩ ?_
  refine En (3-1) 0 ?_
  refine IZ (3-1) 3 ?_
  refine AT (3-1) 0 ?_
  refine AT (3-1) 1 ?_
  refine BL (3-1) 2 ?_
  refine bu (((c+6)+64)+1) ?_
  refine bu ((((c+6)+64)+1)+4) ?_
  refine nv ⟨[3,3,2,g,sub,v,pl,u,k,c,3,(c+6),([99].length:Int),((c+6)+64),(((c+6)+64)+1),((((c+6)+64)+1)+4),(((((c+6)+64)+1)+4)+1)],[d,[99]],[As,o,P,q,R],[]⟩ ?_
  obtain ⟨_,(rfl|⟨z,rfl,N,Q⟩),D⟩:=ih 3 3 (2+1) g sub v pl u k (((((c+6)+64)+1)+4)+1) d As o P q R rfl kn
  ·refine ch D ?_
   exact Aj ⟨[(((((c+6)+64)+1)+4)+1)],[],[],[]⟩ (.inr ((⟨_,rfl,kn,kn⟩)))
  refine cm D ?_
  refine ch D ?_
  exact Aj ⟨[z],[],[],[]⟩ (.inr ((⟨_,rfl,kn,kn⟩)))
 ·refine .of (t:=NQ) rfl ?_
  unfold NQ
  refine En 3 3 ?_
  exact Aj v0 (.inl rfl)
theorem Ai2:Amn 79:=fun y len j g sub v pl d o u c L q P x R k h=>Ak8 ((3-j).toNat+1) y len j g sub v pl d o u c L q P x R k ⟨h.1,h.2.1,h.2.2.1,h.2.2.2.1,h.2.2.2.2.1,h.2.2.2.2.2,Nat.lt_succ_self _⟩
end Go.Proofs.YtbmofjdmgjpfoaaGreatDoor.Am
end
section
set_option maxHeartbeats 40000000
set_option maxRecDepth 100000
namespace Go.Proofs.YtbmofjdmgjpfoaaGreatDoor.Am
open Go.AM Go.AM.K
def AjT (N:Nat):Prop:=∀{j:List S} {v:List E} {H:Ctx} (x y:Int) (A k:Int) (o q:Int) (u J d:Int) (z c:List Nat) (M C D:Rs) (P:M=AF) (U:z=[104]) (hB:C=S.Ac j) (Q:D=E.Ac v) (Z:CE 0 1 fΓ j H) (R:T H 1 (.node k o q u c v)) (h:x=2∧y=1∧A=C.length∧J=D.length∧0≤d∧d≤100000∧S.A4 j≤2∧S.Ag j≤160∧(E.node k o q u c v).nodes≤13∧(E.node k o q u c v).high≤5:=by exact kn),Ok trees N ⟨[x,y,A,k,o,q,u,J,d],[z,c],[M,C,D],[]⟩ fun O=>(∃(g:Int),O=(0,(⟨[g],[],[],[]⟩:Ah))∧(g≤d+70000)∧(d≤g))
theorem Ajc:AjT 101:=by
 intro o y Γe aw aE j u v q x k c aC g FP FB RA hF hn hB hA Q M h
 subst hF;subst hn;subst hB;subst hA;obtain ⟨rfl,rfl,ax,aH,aB,aG,hd,aA,aD,ay⟩:=h;have aI:=S.len o;have aF:=S.A7 o;have az:([32,32]:List Nat).length=2:=rfl
 refine .of (t:=VO) rfl ?_
 unfold VO
 refine bu c ?_
 obtain ⟨_,rfl,G1⟩:=FQ [104] (by decide)
 refine ch G1 ?_
 refine sl [104] ?_
 refine bu (c+5) ?_
 refine nv ⟨[2,1,j,u,v,q,x,k,c,(c+5),([104].length:Int),((c+5)+64)],[[104],g],[AF,(S.Ac o),(E.Ac y)],[]⟩ ?_
 refine bu ((c+5)+64) ?_
 obtain ⟨_,(rfl|⟨d,rfl,ab,U⟩),N⟩:=Ajb 2 2 0 2 1 j u v q x k (((c+5)+64)+1) [104] g AF AF (S.Ac o) (E.Ac y) rfl
 ·refine ch N ?_
  refine nv ⟨[2,1,j,u,v,q,x,k,c,(c+5),([104].length:Int),((c+5)+64),(((c+5)+64)+1)],[[104],g],[AF,(S.Ac o),(E.Ac y)],[]⟩ ?_
  refine bu (((c+5)+64)+1) ?_
  refine nv ⟨[2,1,j,u,v,q,x,k,c,(c+5),([104].length:Int),((c+5)+64),(((c+5)+64)+1),((((c+5)+64)+1)+2)],[[104],g],[AF,(S.Ac o),(E.Ac y)],[]⟩ ?_
  refine En (1-1) 0 ?_
  refine IZ (1-1) 3 ?_
  refine BL (1-1) 0 ?_
  refine bu ((((c+5)+64)+1)+2) ?_
  refine bu (((((c+5)+64)+1)+2)+3) ?_
  refine nv ⟨[2,1,j,u,v,q,x,k,c,(c+5),([104].length:Int),((c+5)+64),(((c+5)+64)+1),((((c+5)+64)+1)+2),(((((c+5)+64)+1)+2)+3),((((((c+5)+64)+1)+2)+3)+3)],[[104],g],[AF,(S.Ac o),(E.Ac y)],[]⟩ ?_
  obtain ⟨_,(rfl|⟨A,rfl,R,ac⟩),P⟩:=Aft (Rq.of (n:=1000) @Ot) j ((((((c+5)+64)+1)+2)+3)+3) [32,32] (S.Ac o) Q rfl
  ·refine ch P ?_
   refine nv ⟨[2,1,j,u,v,q,x,k,c,(c+5),([104].length:Int),((c+5)+64),(((c+5)+64)+1),((((c+5)+64)+1)+2),(((((c+5)+64)+1)+2)+3),((((((c+5)+64)+1)+2)+3)+3)],[[104],g],[AF,(S.Ac o),(E.Ac y)],[]⟩ ?_
   refine bu ((((((c+5)+64)+1)+2)+3)+3) ?_
   obtain ⟨_,⟨C,rfl,ae,an⟩,G4⟩:=EE u v q x k (((((((c+5)+64)+1)+2)+3)+3)+9) g (E.Ac y) M rfl
   refine ch G4 ?_
   refine nv ⟨[2,1,j,u,v,q,x,k,c,(c+5),([104].length:Int),((c+5)+64),(((c+5)+64)+1),((((c+5)+64)+1)+2),(((((c+5)+64)+1)+2)+3),((((((c+5)+64)+1)+2)+3)+3),(((((((c+5)+64)+1)+2)+3)+3)+9),C],[[104],g],[AF,(S.Ac o),(E.Ac y)],[]⟩ ?_
   refine bu C ?_
   refine nv ⟨[2,1,j,u,v,q,x,k,c,(c+5),([104].length:Int),((c+5)+64),(((c+5)+64)+1),((((c+5)+64)+1)+2),(((((c+5)+64)+1)+2)+3),((((((c+5)+64)+1)+2)+3)+3),(((((((c+5)+64)+1)+2)+3)+3)+9),C,(C+3)],[[104],g],[AF,(S.Ac o),(E.Ac y)],[]⟩ ?_
   exact Aj ⟨[(C+3)],[],[],[]⟩ (⟨_,rfl,kn,kn⟩)
  refine cm P ?_
  refine ch P ?_
  refine nv ⟨[2,1,j,u,v,q,x,k,c,(c+5),([104].length:Int),((c+5)+64),(((c+5)+64)+1),((((c+5)+64)+1)+2),(((((c+5)+64)+1)+2)+3),((((((c+5)+64)+1)+2)+3)+3),A],[[104],g],[AF,(S.Ac o),(E.Ac y)],[]⟩ ?_
  refine bu A ?_
  obtain ⟨_,⟨D,rfl,ao,ag⟩,G5⟩:=EE u v q x k (A+9) g (E.Ac y) M rfl
  refine ch G5 ?_
  refine nv ⟨[2,1,j,u,v,q,x,k,c,(c+5),([104].length:Int),((c+5)+64),(((c+5)+64)+1),((((c+5)+64)+1)+2),(((((c+5)+64)+1)+2)+3),((((((c+5)+64)+1)+2)+3)+3),A,(A+9),D],[[104],g],[AF,(S.Ac o),(E.Ac y)],[]⟩ ?_
  refine bu D ?_
  refine nv ⟨[2,1,j,u,v,q,x,k,c,(c+5),([104].length:Int),((c+5)+64),(((c+5)+64)+1),((((c+5)+64)+1)+2),(((((c+5)+64)+1)+2)+3),((((((c+5)+64)+1)+2)+3)+3),A,(A+9),D,(D+3)],[[104],g],[AF,(S.Ac o),(E.Ac y)],[]⟩ ?_
  exact Aj ⟨[(D+3)],[],[],[]⟩ (⟨_,rfl,kn,kn⟩)
 refine cm N ?_
 refine ch N ?_
 refine nv ⟨[2,1,j,u,v,q,x,k,c,(c+5),([104].length:Int),((c+5)+64),(((c+5)+64)+1),d],[[104],g],[AF,(S.Ac o),(E.Ac y)],[]⟩ ?_
 refine bu d ?_
 refine En (1-1) 0 ?_
 refine IZ (1-1) 3 ?_
 refine BL (1-1) 0 ?_
 refine bu (d+2) ?_
 refine nv ⟨[2,1,j,u,v,q,x,k,c,(c+5),([104].length:Int),((c+5)+64),(((c+5)+64)+1),d,(d+2),((d+2)+3)],[[104],g],[AF,(S.Ac o),(E.Ac y)],[]⟩ ?_
 refine bu ((d+2)+3) ?_
 obtain ⟨_,(rfl|⟨z,rfl,Z,aa⟩),O⟩:=Aft (Rq.of (n:=1000) @Ot) j (((d+2)+3)+3) [32,32] (S.Ac o) Q rfl
 ·refine ch O ?_
  refine nv ⟨[2,1,j,u,v,q,x,k,c,(c+5),([104].length:Int),((c+5)+64),(((c+5)+64)+1),d,(d+2),((d+2)+3),(((d+2)+3)+3)],[[104],g],[AF,(S.Ac o),(E.Ac y)],[]⟩ ?_
  refine bu (((d+2)+3)+3) ?_
  refine nv ⟨[2,1,j,u,v,q,x,k,c,(c+5),([104].length:Int),((c+5)+64),(((c+5)+64)+1),d,(d+2),((d+2)+3),(((d+2)+3)+3),((((d+2)+3)+3)+9)],[[104],g],[AF,(S.Ac o),(E.Ac y)],[]⟩ ?_
  obtain ⟨_,⟨H,rfl,av,am⟩,G7⟩:=EE u v q x k ((((d+2)+3)+3)+9) g (E.Ac y) M rfl
  refine ch G7 ?_
  refine nv ⟨[2,1,j,u,v,q,x,k,c,(c+5),([104].length:Int),((c+5)+64),(((c+5)+64)+1),d,(d+2),((d+2)+3),(((d+2)+3)+3),((((d+2)+3)+3)+9),H],[[104],g],[AF,(S.Ac o),(E.Ac y)],[]⟩ ?_
  refine bu H ?_
  exact Aj ⟨[(H+3)],[],[],[]⟩ (⟨_,rfl,kn,kn⟩)
 refine cm O ?_
 refine ch O ?_
 refine nv ⟨[2,1,j,u,v,q,x,k,c,(c+5),([104].length:Int),((c+5)+64),(((c+5)+64)+1),d,(d+2),((d+2)+3),(((d+2)+3)+3),z],[[104],g],[AF,(S.Ac o),(E.Ac y)],[]⟩ ?_
 refine bu z ?_
 refine nv ⟨[2,1,j,u,v,q,x,k,c,(c+5),([104].length:Int),((c+5)+64),(((c+5)+64)+1),d,(d+2),((d+2)+3),(((d+2)+3)+3),z,(z+9)],[[104],g],[AF,(S.Ac o),(E.Ac y)],[]⟩ ?_
 obtain ⟨_,⟨J,rfl,ap,aj⟩,G8⟩:=EE u v q x k (z+9) g (E.Ac y) M rfl
 refine ch G8 ?_
 refine nv ⟨[2,1,j,u,v,q,x,k,c,(c+5),([104].length:Int),((c+5)+64),(((c+5)+64)+1),d,(d+2),((d+2)+3),(((d+2)+3)+3),z,(z+9),J],[[104],g],[AF,(S.Ac o),(E.Ac y)],[]⟩ ?_
 refine bu J ?_
 exact Aj ⟨[(J+3)],[],[],[]⟩ (⟨_,rfl,kn,kn⟩)
def AmI (N n:Nat):Prop:=∀(c len:Int) (j g:Int) (sub z:Int) (pl y:Int) (u k:Int) (o:List Nat) (L v:Rs) (P x R:Rs) (A:Hg L) (h:(j=0∨j=1)∧c=L.length∧len=c∧j≤c∧0≤k∧k+80000*(1-j)≤90000∧(c-j).toNat<n),Ok trees N ⟨[c,len,j,g,sub,z,pl,y,u,k],[o],[L,v,P,x,R],[]⟩ fun q=>(q=(0,v0))∨(∃(d:Int),q=(1,(⟨[d],[],[],[]⟩:Ah))∧(d≤90000)∧(k≤d))
def Amm (N:Nat):Prop:=∀(k len:Int) (j g:Int) (sub z:Int) (pl y:Int) (u d:Int) (o:List Nat) (L v:Rs) (P x R:Rs) (A:Hg L) (h:(j=0∨j=1)∧k=L.length∧len=k∧j≤k∧0≤d∧d+80000*(1-j)≤90000:=by exact kn),Ok trees N ⟨[k,len,j,g,sub,z,pl,y,u,d],[o],[L,v,P,x,R],[]⟩ fun q=>(q=(0,v0))∨(∃(c:Int),q=(1,(⟨[c],[],[],[]⟩:Ah))∧(c≤90000)∧(d≤c))
theorem Ak7 (n:Nat):AmI 80 n:=by
 induction n with
 |zero=>intro ln len j g sub O pl J v z k L x P y R M h;exact absurd h.2.2.2.2.2.2 (Nat.not_lt_zero _)
 |succ n ih=>
 intro ln len j g sub O pl J v z k L x P y R M h
 rcases M with rfl|⟨fb,fa,Γe,rk,ro,ry,rw,rs,rfl,hO,hT,hd,hn,hrn,hrh⟩<;>simp only [lC,lN]at h<;>rcases h.1 with rfl|rfl
 ·obtain ⟨_,rfl,rfl,_,o,q,_⟩:=h;skip
  refine .of (t:=R5) rfl ?_
  unfold R5
  refine En 0 0 ?_
  exact Aj v0 (.inl rfl)
 ·exfalso;omega
 ·obtain ⟨_,rfl,rfl,_,o,q,_⟩:=h;have C:(AF.length:Int)=2:=rfl;have N:=S.len fb;have H:=S.A7 fb;have D:=E.A7 fa;have hk:=hT.kind
  refine .of (t:=R5) rfl ?_
  unfold R5
  refine BD 0 1 ?_
  refine CX 0 0 ?_
  refine BD 0 1 ?_
  refine el (j':=0) rfl ?_
  obtain ⟨_,rfl,A⟩:=Alp ((S.Ac fb).length:Int) (S.Ac fb) hO rfl
  refine cm A ?_
  refine ch A ?_
  obtain ⟨_,⟨c,rfl,ac,Z⟩,G2⟩:=Ajc (AF.length:Int) 1 ((S.Ac fb).length:Int) rk ro ry rw ((E.Ac fa).length:Int) z [104] rs AF (S.Ac fb) (E.Ac fa) rfl rfl rfl rfl hO hT
  refine ch G2 ?_
  obtain ⟨_,(rfl|⟨d,rfl,Q,U⟩),u⟩:=ih 1 1 (0+1) g sub O pl J v c k [hrow AF (S.Ac fb) rk ro ry rs rw (E.Ac fa)] x P y R (.inr ⟨_,_,_,_,_,_,_,_,rfl,hO,hT,hd,hn,hrn,hrh⟩) kn
  ·refine ch u ?_
   exact Aj ⟨[c],[],[],[]⟩ (.inr ((⟨_,rfl,kn,kn⟩)))
  refine cm u ?_
  refine ch u ?_
  exact Aj ⟨[d],[],[],[]⟩ (.inr ((⟨_,rfl,kn,kn⟩)))
 ·obtain ⟨_,rfl,rfl,_,o,q,_⟩:=h;have C:(AF.length:Int)=2:=rfl;have N:=S.len fb;have H:=S.A7 fb;have D:=E.A7 fa;have hk:=hT.kind
  refine .of (t:=R5) rfl ?_
  unfold R5
  refine En 1 1 ?_
  exact Aj v0 (.inl rfl)
theorem Adb:Amm 80:=fun d len j g sub x pl k q v c L u P y R o h=>Ak7 ((d-j).toNat+1) d len j g sub x pl k q v c L u P y R o ⟨h.1,h.2.1,h.2.2.1,h.2.2.2.1,h.2.2.2.2.1,h.2.2.2.2.2,Nat.lt_succ_self _⟩
end Go.Proofs.YtbmofjdmgjpfoaaGreatDoor.Am
end
section
set_option maxHeartbeats 4000000
set_option maxRecDepth 100000
namespace Go.Proofs.YtbmofjdmgjpfoaaGreatDoor.Am
open Go.AM Go.AM.K
def Am7 (N:Nat):Prop:=∀{u v:Ctx} {l:List S} (g sub:Int) (q pl:Int) (j k:Int) (c:List Nat) (o P:Rs) (d R:Rs) (y:c=[107]) (z:o=A0) (D:P=As) (H:Hg d) (C:R=S.Ac l) (A:CE 0 0 u l v) (h:q=5∧pl=3∧j=d.length∧j≤1∧k=R.length∧S.Ag l≤1600∧S.A4 l≤10∧(g=4∨g=1∨g=2∨g=8∨g=6)∧0≤sub∧sub≤32:=by exact kn),Ok trees N ⟨[g,sub,q,pl,j,k],[c],[o,P,d,R],[]⟩ fun x=>(x=(1,v0))
theorem Al2:Am7 49:=by
 intro Γb Γz l g sub o pl d c a7 v P k R ao ay hP J u j h
 have a8:=S.len l;have a6:=S.A7 l;have a5:([]:List Nat).length=0:=rfl;subst ao
 refine .of (t:=Acj) rfl ?_
 unfold Acj
 obtain ⟨_,rfl,G1⟩:=Al0 g sub o pl d c [107] v P k R J u j
 refine ch G1 ?_
 obtain ⟨_,rfl,G2⟩:=FQ [107] (by decide)
 refine ch G2 ?_
 refine sl [107] ?_
 refine CX g (-9223372036854775808) ?_
 refine F8 g 9223372036854775807 ?_
 refine CX sub (-9223372036854775808) ?_
 refine F8 sub 9223372036854775807 ?_
 obtain ⟨_,(rfl|⟨q,rfl,aA,aP⟩),G3⟩:=Alq o o 0 g sub o pl d c 126 [107] v v P k R ay
 ·refine ch G3 ?_
  obtain ⟨_,(rfl|⟨y,rfl,aM,aG⟩),G4⟩:=Ai2 pl pl 0 g sub o pl d c 126 [107] P v P k R hP
  ·refine ch G4 ?_
   obtain ⟨_,(rfl|⟨N,rfl,aO,aR⟩),G5⟩:=Adb d d 0 g sub o pl d c 126 [107] k v P k R J
   ·refine ch G5 ?_
    obtain ⟨_,⟨ab,rfl,aY,aZ⟩,G6⟩:=Ot c 126 [] R j u
    refine ch G6 ?_
    refine bu ab ?_
    exact Aj v0 (rfl)
   refine cm G5 ?_
   refine ch G5 ?_
   obtain ⟨_,⟨ac,rfl,a0,aX⟩,G7⟩:=Ot c N [] R j u
   refine ch G7 ?_
   refine bu ac ?_
   exact Aj v0 (rfl)
  refine cm G4 ?_
  refine ch G4 ?_
  obtain ⟨_,(rfl|⟨aa,rfl,aE,aD⟩),G8⟩:=Adb d d 0 g sub o pl d c y [107] k v P k R J
  ·refine ch G8 ?_
   obtain ⟨_,⟨ag,rfl,a4,a3⟩,G9⟩:=Ot c y [] R j u
   refine ch G9 ?_
   refine bu ag ?_
   exact Aj v0 (rfl)
  refine cm G8 ?_
  refine ch G8 ?_
  obtain ⟨_,⟨O,rfl,aB,aN⟩,ap⟩:=Ot c aa [] R j u
  refine ch ap ?_
  refine bu O ?_
  exact Aj v0 (rfl)
 refine cm G3 ?_
 refine ch G3 ?_
 obtain ⟨_,(rfl|⟨x,rfl,az,ax⟩),H⟩:=Ai2 pl pl 0 g sub o pl d c q [107] P v P k R hP
 ·refine ch H ?_
  obtain ⟨_,(rfl|⟨A,rfl,aw,aq⟩),C⟩:=Adb d d 0 g sub o pl d c q [107] k v P k R J
  ·refine ch C ?_
   obtain ⟨_,⟨M,rfl,aI,aQ⟩,an⟩:=Ot c q [] R j u
   refine ch an ?_
   refine bu M ?_
   exact Aj v0 (rfl)
  refine cm C ?_
  refine ch C ?_
  obtain ⟨_,⟨Q,rfl,aL,aH⟩,ai⟩:=Ot c A [] R j u
  refine ch ai ?_
  refine bu Q ?_
  exact Aj v0 (rfl)
 refine cm H ?_
 refine ch H ?_
 obtain ⟨_,(rfl|⟨z,rfl,av,au⟩),D⟩:=Adb d d 0 g sub o pl d c x [107] k v P k R J
 ·refine ch D ?_
  obtain ⟨_,⟨U,rfl,aC,aK⟩,aj⟩:=Ot c x [] R j u
  refine ch aj ?_
  refine bu U ?_
  exact Aj v0 (rfl)
 refine cm D ?_
 refine ch D ?_
 obtain ⟨_,⟨Z,rfl,aF,aJ⟩,ak⟩:=Ot c z [] R j u
 refine ch ak ?_
 refine bu Z ?_
 exact Aj v0 (rfl)
def Am8 (N:Nat):Prop:=∀{u v:Ctx} {l:List S} (g sub:Int) (q pl:Int) (j k:Int) (c:List Nat) (o P:Rs) (d R:Rs) (y:c=[107]) (z:o=A0) (D:P=As) (H:Hg d) (C:R=S.Ac l) (A:CE 0 0 u l v) (h:q=5∧pl=3∧j=d.length∧j≤1∧k=R.length∧S.Ag l≤1600∧S.A4 l≤10∧(g=4∨g=1∨g=2∨g=8∨g=6)∧0≤sub∧sub≤32:=by exact kn),Ok trees N ⟨[g,sub,q,pl,j,k],[c],[o,P,d,R],[]⟩ fun x=>(x=(1,v0))
theorem AiB:Am8 48:=by
 intro D H l g sub C pl z u c v P x R d k y A q o h
 refine .of (t:=Ack) rfl ?_
 unfold Ack
 obtain ⟨_,rfl,j⟩:=Al2 g sub C pl z u c v P x R d k y A q o
 refine cm j ?_
 refine ch j ?_
 exact Aj v0 (rfl)
def Af8 (N:Nat):Prop:=∀{v z:Ctx} {l:List S} (g sub:Int) (u pl:Int) (j o:Int) (d:List Nat) (k P:Rs) (c R:Rs) (C:d=[107]) (D:k=A0) (O:P=As) (Q:Hg c) (J:R=S.Ac l) (H:CE 0 0 v l z) (hs:C4 g sub) (M:∀q,((c=[]∧q=EI 3)∨(c≠[]∧q=MP))→Ck v 5 j k c q) (h:u=5∧pl=3∧j=c.length∧j≤1∧o=R.length∧S.Ag l≤1600∧S.A4 l≤10∧(g=4∨g=1∨g=2∨g=8∨g=6)∧0≤sub∧sub≤32:=by exact kn),Ok trees N ⟨[g,sub,u,pl,j,o],[d],[k,P,c,R],[]⟩ fun A=>(∃(y:Int),∃(x:Mp),A=(1,(⟨[0,g,sub,u,pl,j,o,y],[d],[k,P,c,R],[x]⟩:Ah)))
theorem Afv:Af8 46:=by
 intro Γb Γz l g sub u pl k d c o P j R C v H x z y hs J h
 have aa:=S.len l;have Z:=S.A7 l;have hj:Hg j:=x
 refine .of (t:=Xp) rfl ?_
 unfold Xp
 obtain ⟨_,rfl,D⟩:=AiB g sub u pl k d c o P j R C v H x z y
 refine cm D ?_
 refine ch D ?_
 obtain ⟨_,rfl,A⟩:=AdJ g sub u pl k d c o P j R v hs
 refine cm A ?_
 refine ch A ?_
 obtain ⟨_,⟨q,rfl,N⟩,U⟩:=AdI g sub u pl k d c o P j R v H x.list
 refine ch U ?_
 obtain ⟨_,rfl,M⟩:=AdH 0 k 0 g sub u pl k d g sub u pl k d 0 c c o P j R o P j R q v x
 refine ch M ?_
 refine BL 0 0 ?_
 obtain ⟨_,⟨O,rfl,rfl⟩,Q⟩:=SX d g sub u pl k d 0 c R o P j R q (by obtain ⟨rfl,_⟩:=h;exact J _ ‹_›) y z
 refine ch Q ?_
 exact Aj ⟨[0,g,sub,u,pl,k,d,0],[c],[o,P,j,R],[q]⟩ (⟨_,_,rfl⟩)
def Af9 (N:Nat):Prop:=∀{q x:Ctx} {l:List S} (g sub:Int) (v pl:Int) (d u:Int) (j:List Nat) (k P:Rs) (c R:Rs) (z:j=[107]) (A:k=A0) (J:P=As) (M:Hg c) (D:R=S.Ac l) (C:CE 0 0 q l x) (hs:C4 g sub) (H:∀o,((c=[]∧o=EI 3)∨(c≠[]∧o=MP))→Ck q 5 d k c o) (h:v=5∧pl=3∧d=c.length∧d≤1∧u=R.length∧S.Ag l≤1600∧S.A4 l≤10∧(g=4∨g=1∨g=2∨g=8∨g=6)∧0≤sub∧sub≤32:=by exact kn),Ok trees N ⟨[g,sub,v,pl,d,u],[j],[k,P,c,R],[]⟩ fun y=>(y=(0,(⟨[0],[],[],[]⟩:Ah)))
theorem AaJ:Af9 44:=by
 intro M N l g sub J pl D v c x P y R d k A H u o hs z h
 refine .of (t:=Xq) rfl ?_
 unfold Xq
 obtain ⟨_,⟨C,q,rfl⟩,j⟩:=Afv g sub J pl D v c x P y R d k A H u o hs z
 refine cm j ?_
 refine ch j ?_
 exact Aj ⟨[0],[],[],[]⟩ (rfl)
end Go.Proofs.YtbmofjdmgjpfoaaGreatDoor.Am
end
section
set_option maxHeartbeats 4000000
namespace Go.Proofs.YtbmofjdmgjpfoaaGreatDoor.Am
open Go.AM Go.AM.K
theorem UO {g sub:Int} {q P j R:Rs} (h:B3 g sub q P j R):Ok trees 44 ⟨[g,sub,5,3,(j.length:Int),(R.length:Int)],[[107]],[q,P,j,R],[]⟩ fun x=>x=(0,(⟨[0],[],[],[]⟩:Ah)):=by
 obtain ⟨rfl,rfl,z,u,hs,h⟩:=h
 have c:0≤sub∧sub≤32:=by have:=hs.1;omega
 rcases h with ⟨rfl,Γ',l,⟨b,rfl,h1,h2,h3⟩,hl⟩|⟨F,k,o,y,w,s,A,rfl,hf,Γ',l,⟨b,rfl,h1,h2,h3⟩,hl⟩
 ·refine AaJ g sub 5 3 (([]:Rs).length:Int) ((S.Ac b).length:Int) [107] A0 As [] (S.Ac b) rfl rfl rfl (.inl rfl) rfl h1 hs (fun v d=>?_) ⟨rfl,rfl,rfl,by decide,rfl,by omega,by omega,u,c.1,c.2⟩
  rcases d with ⟨_,rfl⟩|⟨hx,_⟩
  ·exact Ck.Pu rfl
  ·exact absurd rfl hx
 ·refine AaJ g sub 5 3 (([hrow AF F k o y s w A]:Rs).length:Int) ((S.Ac b).length:Int) [107] A0 As [hrow AF F k o y s w A] (S.Ac b) rfl rfl rfl (.mk hf) rfl h1 hs (fun v d=>?_) ⟨rfl,rfl,rfl,by simp,rfl,by omega,by omega,u,c.1,c.2⟩
  rcases d with ⟨hx,_⟩|⟨_,rfl⟩
  ·cases hx
  ·exact Ck.AdK
end Go.Proofs.YtbmofjdmgjpfoaaGreatDoor.Am
end
section
set_option maxHeartbeats 4000000
set_option maxRecDepth 100000
namespace Go.Proofs.YtbmofjdmgjpfoaaGreatDoor.Am
open Go.AM Go.AM.K
namespace X
def Af8 (N:Nat):Prop:=∀{v x:Ctx} {A D:Ctx} {l:List S} (g sub:Int) (u pl:Int) (j o:Int) (d:List Nat) (k P:Rs) (c R:Rs) (J:d=[107]) (M:k=A0) (hP:P=As) (hK:Hg c) (Q:R=S.Ac (l++[Dx])) (H:CE 0 0 A (l++[Dx]) D) (O:CE 0 0 v l x) (Z:x [113,113,57]=none) (hs:C4 g sub) (U:∀q,((c=[]∧q=EI 3)∨(c≠[]∧q=MP))→Ck v 5 j k c q) (h:u=5∧pl=3∧j=c.length∧j≤1∧o=R.length∧S.Ag (l++[Dx])≤1600∧S.A4 (l++[Dx])≤10∧S.Ag l≤1600∧S.A4 l≤10∧(g=4∨g=1∨g=2∨g=8∨g=6)∧0≤sub∧sub≤32:=by exact kn),Ok trees N ⟨[g,sub,u,pl,j,o],[d],[k,P,c,R],[]⟩ fun C=>(∃(y:Int),∃(z:Mp),C=(1,(⟨[30,g,sub,u,pl,j,o,y],[d],[k,P,c,R],[z]⟩:Ah)))
theorem Afv:Af8 46:=by
 intro Γb Γz Γx Γy l g sub u pl j d c k P o R C v H y x z J N hs M h
 have ae:=S.len l;have ac:=S.A7 l;have ab:=Rf (l:=l)
 refine .of (t:=Xp) rfl ?_
 unfold Xp
 obtain ⟨_,rfl,D⟩:=AiB g sub u pl j d c k P o R C v H y x z
 refine cm D ?_
 refine ch D ?_
 obtain ⟨_,rfl,A⟩:=AdJ g sub u pl j d c k P o R v hs
 refine cm A ?_
 refine ch A ?_
 obtain ⟨_,⟨q,rfl,Q⟩,G3⟩:=AdI g sub u pl j d c k P o R v H y.list
 refine ch G3 ?_
 obtain ⟨_,rfl,O⟩:=AdH 0 j 0 g sub u pl j d g sub u pl j d 0 c c k P o R k P o R q v y
 refine ch O ?_
 refine BL 0 0 ?_
 have ad:(R.length:Int)=l.length+1:=(by rw [x];exact Rf)
 obtain ⟨_,⟨U,rfl,rfl⟩,Z⟩:=SX d g sub u pl j d 0 c R k P o R q (by obtain ⟨rfl,_⟩:=h;exact M _ ‹_›) N x J
 refine ch Z ?_
 exact Aj ⟨[30,g,sub,u,pl,j,d,0],[c],[k,P,o,R],[q]⟩ (⟨_,_,rfl⟩)
def Af9 (N:Nat):Prop:=∀{q u:Ctx} {y A:Ctx} {l:List S} (g sub:Int) (x pl:Int) (d v:Int) (j:List Nat) (k P:Rs) (c R:Rs) (D:j=[107]) (H:k=A0) (U:P=As) (Z:Hg c) (M:R=S.Ac (l++[Dx])) (C:CE 0 0 y (l++[Dx]) A) (J:CE 0 0 q l u) (Q:u [113,113,57]=none) (hs:C4 g sub) (O:∀o,((c=[]∧o=EI 3)∨(c≠[]∧o=MP))→Ck q 5 d k c o) (h:x=5∧pl=3∧d=c.length∧d≤1∧v=R.length∧S.Ag (l++[Dx])≤1600∧S.A4 (l++[Dx])≤10∧S.Ag l≤1600∧S.A4 l≤10∧(g=4∨g=1∨g=2∨g=8∨g=6)∧0≤sub∧sub≤32:=by exact kn),Ok trees N ⟨[g,sub,x,pl,d,v],[j],[k,P,c,R],[]⟩ fun z=>(z=(0,(⟨[30],[],[],[]⟩:Ah)))
theorem AaJ:Af9 44:=by
 intro O Q U Z l g sub N pl J x d y P z R j o D M v c q C hs A h
 refine .of (t:=Xq) rfl ?_
 unfold Xq
 obtain ⟨_,⟨H,u,rfl⟩,k⟩:=Afv g sub N pl J x d y P z R j o D M v c q C hs A
 refine cm k ?_
 refine ch k ?_
 exact Aj ⟨[30],[],[],[]⟩ (rfl)
end X
end Go.Proofs.YtbmofjdmgjpfoaaGreatDoor.Am
end
section
set_option maxHeartbeats 4000000
namespace Go.Proofs.YtbmofjdmgjpfoaaGreatDoor.Am
open Go.AM Go.AM.K
abbrev N5:Row:=Bh 2 0 0 0 [113,113,57] 1 0 1 [] 1 [] 0 0 0 [] 0 [] [] []
theorem B3.len {g sub:Int} {c P j R:Rs} (h:B3 g sub c P j R):c=A0∧P=As∧0<R.length∧R.length≤1280:=by
 obtain ⟨rfl,rfl,d,q,hs,h⟩:=h
 refine ⟨rfl,rfl,d,?_⟩
 rcases h with ⟨rfl,Γ',l,⟨b,rfl,h1,h2,h3⟩,hl⟩|⟨F,k,o,y,w,s,A,rfl,hf,Γ',l,⟨b,rfl,h1,h2,h3⟩,hl⟩<;>
 ·have:=S.len b
  rw [S.A7];omega
theorem Yc {g sub:Int} {x P q R:Rs} (h:B3 g sub x P q R):Ok trees 44 ⟨[g,sub,5,3,(q.length:Int),((R++[N5]).length:Int)],[[107]],[x,P,q,R++[N5]],[]⟩ fun H=>H=(0,(⟨[30],[],[],[]⟩:Ah)):=by
 obtain ⟨rfl,rfl,J,z,hs,h⟩:=h
 have c:0≤sub∧sub≤32:=by have:=hs.1;omega
 have hb:(Dx.nodes:Int)=2:=rfl
 have hd:(Dx.deep:Int)=1:=rfl
 have v:∀b:List S,S.Ac b++[N5]=S.Ac (b++[Dx]):=fun b=>by rw [S.HP];rfl
 have n1:∀b:List S,S.Ag (b++[Dx])=S.Ag b+2:=fun b=>by rw [S.IS];rfl
 have C:∀b:List S,S.A4 (b++[Dx])=max (S.A4 b) 1:=fun b=>by rw [S.KH];rfl
 rcases h with ⟨rfl,Γ',l,⟨b,rfl,h1,h2,h3⟩,hl⟩|⟨F,k,o,y,w,s,A,rfl,hf,Γ',l,⟨b,rfl,h1,h2,h3⟩,hl⟩
 ·rw [v b]
  obtain ⟨d,u⟩:=h1.bad AaN
  refine X.AaJ g sub 5 3 (([]:Rs).length:Int) ((S.Ac (b++[Dx])).length:Int) [107] A0 As [] (S.Ac (b++[Dx])) rfl rfl rfl (.inl rfl) rfl d h1 u hs (fun D j=>?_) ⟨rfl,rfl,rfl,by decide,rfl,by rw [n1];omega,by rw [C];omega,by omega,by omega,z,c.1,c.2⟩
  rcases j with ⟨_,rfl⟩|⟨d,_⟩
  ·exact Ck.Pu rfl
  ·exact absurd rfl d
 ·rw [v b]
  obtain ⟨d,u⟩:=h1.bad AaN
  refine X.AaJ g sub 5 3 (([hrow AF F k o y s w A]:Rs).length:Int) ((S.Ac (b++[Dx])).length:Int) [107] A0 As [hrow AF F k o y s w A] (S.Ac (b++[Dx])) rfl rfl rfl (.mk hf) rfl d h1 u hs (fun D j=>?_) ⟨rfl,rfl,rfl,by simp,rfl,by rw [n1];omega,by rw [C];omega,by omega,by omega,z,c.1,c.2⟩
  rcases j with ⟨d,_⟩|⟨_,rfl⟩
  ·cases d
  ·exact Ck.AdK
theorem Adj {d:Int} {B:Rs} (hB:Dz B) (hl:d=B.length) (h:d≤140737488355328):Ok trees 0 ⟨[d],[],[B],[]⟩ fun y=>y=(1,v0):=by
 refine .of (t:=t_0) rfl ?_
 unfold t_0
 obtain ⟨_,⟨g,sub,A,pl,N,H,J,P,M,R,rfl,c,ha,u,hf,x⟩,G⟩:=c_4 hB hl h
 refine ch G ?_
 obtain ⟨o,v,D,C⟩:=B3.len c
 have k:A=5:=by rw [ha,o];rfl
 have j:pl=3:=by rw [u,v];rfl
 subst k;subst j;subst hf;subst x
 refine gtY (R.length:Int) 0 ?_ (by omega)
 refine de R ?_ (FL rfl)
 refine F8 (R.length:Int) 1048576 ?_ (by omega)
 refine de (R++[N5]) ?_ (BG (pw (R.length:Int) R) pe)
 refine F8 ((R++[N5]).length:Int) 1048576 ?_ (by simp only [lA,lC,lN];omega)
 obtain ⟨_,rfl,q⟩:=UO c
 refine ch q ?_
 refine BL 0 0 ?_
 refine fr ?_
 obtain ⟨_,rfl,z⟩:=Yc c
 refine ch z ?_
 refine BL 30 30 ?_
 exact Aj v0 rfl
end Go.Proofs.YtbmofjdmgjpfoaaGreatDoor.Am
end
