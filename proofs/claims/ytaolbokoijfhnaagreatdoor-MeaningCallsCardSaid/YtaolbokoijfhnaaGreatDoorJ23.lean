/- Part 23 of MeaningCalls. -/
import Derived.Test.YtaolbokoijfhnaaGreatDoorJ16
import Derived.Test.YtaolbokoijfhnaaGreatDoorJ21
set_option linter.all false
namespace Go.Proofs.YtaolbokoijfhnaaGreatDoor.Am
section
set_option maxHeartbeats 4000000
set_option maxRecDepth 100000
open Go.AM Go.AM.K
def ApA (N:Nat):Prop:=∀(k o:Int) (t b:Int) (M R:Int) (J P:Int) (Q yk:Int) (A B:Int) (z v:Int) (j q C:Int) (nm H x:List Nat) (X Y:Rs) (I L:Rs) (U:x=[]) (h:o=0/\b=0/\yk=0/\A=0/\B=0/\z=0/\v=0/\j=0/\q=0:=by exact kn),Ok trees N ⟨[k,o,t,b,M,R,J,P,Q,yk,A,B,z,v,j,q,C],[nm,H,x],[X,Y,I,L],[]⟩ fun O=>(O=(0,v0))
theorem AoI:ApA 88:=by
 intro k o t b N Q M O P yk z A x B j q L nm H v X Y I J C h
 refine .of (t:=Afd) rfl ?_
 conv=>arg 3;reduce
 refine Bg o 0 ?_
 refine Bg b 0 ?_
 refine Bg yk 0 ?_
 refine Bg z 0 ?_
 refine Bg A 0 ?_
 refine Xv v ?_
 refine Bg x 0 ?_
 refine Bg B 0 ?_
 refine Bg j 0 ?_
 refine Bg q 0 ?_
 exact Ah v0 (rfl)
def Ap9 (N:Nat):Prop:=∀(k o:Int) (t b:Int) (M R:Int) (J P:Int) (Q yk:Int) (A B:Int) (z v:Int) (j q C:Int) (nm H x:List Nat) (X Y:Rs) (I L:Rs) (U:x=[]) (h:o=0/\t=0/\b=0/\yk=0/\A=0/\B=0/\z=0/\v=0/\j=0/\q=0:=by exact kn),Ok trees N ⟨[k,o,t,b,M,R,J,P,Q,yk,A,B,z,v,j,q,C],[nm,H,x],[X,Y,I,L],[]⟩ fun O=>(O=(0,v0))
theorem AoH:Ap9 89:=by
 intro k o t b N Q M O P yk z A x B j q L nm H v X Y I J C h
 refine .of (t:=Afc) rfl ?_
 conv=>arg 3;reduce
 refine Bg o 0 ?_
 refine Bg t 0 ?_
 refine Bg b 0 ?_
 refine Bg yk 0 ?_
 refine Bg z 0 ?_
 refine Bg A 0 ?_
 refine Xv v ?_
 refine Bg x 0 ?_
 refine Bg B 0 ?_
 refine Bg j 0 ?_
 refine Bg q 0 ?_
 exact Ah v0 (rfl)
def Ap8 (N:Nat):Prop:=∀(k o:Int) (t b:Int) (L Q:Int) (C O:Int) (P yk:Int) (J R:Int) (I z:Int) (j q v:Int) (nm x B:List Nat) (X Y:Rs) (A H:Rs) (h:o=0/\t=0/\b=0/\j=0/\q=0:=by exact kn),Ok trees N ⟨[k,o,t,b,L,Q,C,O,P,yk,J,R,I,z,j,q,v],[nm,x,B],[X,Y,A,H],[]⟩ fun M=>(M=(0,v0))
theorem AoG:Ap8 90:=by
 intro k o t b M P L N O yk C H B J j q I nm v z X Y x A h
 refine .of (t:=Afb) rfl ?_
 conv=>arg 3;reduce
 refine Bg o 0 ?_
 refine Bg t 0 ?_
 refine Bg b 0 ?_
 refine Bg j 0 ?_
 refine Bg q 0 ?_
 exact Ah v0 (rfl)
def Ap7 (N:Nat):Prop:=∀(k o:Int) (t b:Int) (M R:Int) (J P:Int) (Q yk:Int) (A B:Int) (z q:Int) (j x C:Int) (nm H v:List Nat) (X Y:Rs) (I L:Rs) (V:nm=[]) (U:v=[]) (h:o=0/\t=0/\b=0/\yk=0/\A=0/\B=0/\z=0/\q=0:=by exact kn),Ok trees N ⟨[k,o,t,b,M,R,J,P,Q,yk,A,B,z,q,j,x,C],[nm,H,v],[X,Y,I,L],[]⟩ fun O=>(O=(0,v0))
theorem AoF:Ap7 91:=by
 intro k o t b O R N P Q yk v x q z A C M nm I j X Y J L H B h
 refine .of (t:=Afa) rfl ?_
 conv=>arg 3;reduce
 refine Bg o 0 ?_
 refine Bg t 0 ?_
 refine Bg b 0 ?_
 refine Xv nm ?_
 refine Bg yk 0 ?_
 refine Bg v 0 ?_
 refine Bg x 0 ?_
 refine Xv j ?_
 refine Bg q 0 ?_
 refine Bg z 0 ?_
 exact Ah v0 (rfl)
def Ap6 (N:Nat):Prop:=∀(k o:Int) (t b:Int) (M R:Int) (J P:Int) (Q yk:Int) (A B:Int) (z v:Int) (q j C:Int) (nm H x:List Nat) (X Y:Rs) (I L:Rs) (V:nm=[]) (U:x=[]) (h:o=0/\t=0/\yk=0/\A=0/\B=0/\z=0/\v=0/\j=0:=by exact kn),Ok trees N ⟨[k,o,t,b,M,R,J,P,Q,yk,A,B,z,v,q,j,C],[nm,H,x],[X,Y,I,L],[]⟩ fun O=>(O=(0,v0))
theorem AoE:Ap6 92:=by
 intro k o t b O R N P Q yk x z v A B j M nm I q X Y J L H C h
 refine .of (t:=AeZ) rfl ?_
 conv=>arg 3;reduce
 refine Bg o 0 ?_
 refine Bg t 0 ?_
 refine Xv nm ?_
 refine Bg yk 0 ?_
 refine Bg x 0 ?_
 refine Bg z 0 ?_
 refine Xv q ?_
 refine Bg v 0 ?_
 refine Bg A 0 ?_
 refine Bg j 0 ?_
 exact Ah v0 (rfl)
def Ap5 (N:Nat):Prop:=∀(k o:Int) (t b:Int) (H L:Int) (A I:Int) (J yk:Int) (C M:Int) (B x:Int) (j q O:Int) (nm v z:List Nat) (X Y:Rs) (P Q:Rs) (Z:nm=[]) (V:v=[]) (U:z=[]) (h:o=0/\t=0/\b=0/\H=0/\L=0/\A=0/\I=0/\J=0/\yk=0/\C=0/\M=0/\B=0/\x=0/\j=0/\q=0:=by exact kn),Ok trees N ⟨[k,o,t,b,H,L,A,I,J,yk,C,M,B,x,j,q,O],[nm,v,z],[X,Y,P,Q],[]⟩ fun R=>(R=(0,v0))
theorem AdS:Ap5 93:=by
 intro k o t b I M H J L yk A B z C j q U nm v x X Y Q R P O N h
 refine .of (t:=AeY) rfl ?_
 conv=>arg 3;reduce
 refine Bg o 0 ?_
 refine Bg t 0 ?_
 refine Bg b 0 ?_
 refine Xv nm ?_
 refine Bg I 0 ?_
 refine Bg M 0 ?_
 refine Bg H 0 ?_
 refine Xv v ?_
 refine Bg J 0 ?_
 refine Bg L 0 ?_
 refine Bg yk 0 ?_
 refine Bg A 0 ?_
 refine Bg B 0 ?_
 refine Xv x ?_
 refine Bg z 0 ?_
 refine Bg C 0 ?_
 refine Bg j 0 ?_
 refine Bg q 0 ?_
 exact Ah v0 (rfl)
def Ap4 (N:Nat):Prop:=∀(k o:Int) (t b:Int) (H L:Int) (A I:Int) (J yk:Int) (C M:Int) (B x:Int) (j q O:Int) (nm v z:List Nat) (X Y:Rs) (P Q:Rs) (Z:nm=[]) (V:v=[]) (U:z=[]) (h:t=0/\b=0/\H=0/\L=0/\A=0/\I=0/\J=0/\yk=0/\C=0/\M=0/\B=0/\x=0/\j=0/\q=0:=by exact kn),Ok trees N ⟨[k,o,t,b,H,L,A,I,J,yk,C,M,B,x,j,q,O],[nm,v,z],[X,Y,P,Q],[]⟩ fun R=>(R=(0,v0))
theorem AoD:Ap4 94:=by
 intro k o t b I M H J L yk A B z C j q U nm v x X Y Q R P O N h
 refine .of (t:=AeX) rfl ?_
 conv=>arg 3;reduce
 refine Bg t 0 ?_
 refine Bg b 0 ?_
 refine Xv nm ?_
 refine Bg I 0 ?_
 refine Bg M 0 ?_
 refine Bg H 0 ?_
 refine Xv v ?_
 refine Bg J 0 ?_
 refine Bg L 0 ?_
 refine Bg yk 0 ?_
 refine Bg A 0 ?_
 refine Bg B 0 ?_
 refine Xv x ?_
 refine Bg z 0 ?_
 refine Bg C 0 ?_
 refine Bg j 0 ?_
 refine Bg q 0 ?_
 exact Ah v0 (rfl)
def Ap3 (N:Nat):Prop:=∀(k o:Int) (t b:Int) (L Q:Int) (C O:Int) (P yk:Int) (J R:Int) (I z:Int) (j q v:Int) (nm x B:List Nat) (X Y:Rs) (A H:Rs) (h:t=0/\b=0/\j=0/\q=0:=by exact kn),Ok trees N ⟨[k,o,t,b,L,Q,C,O,P,yk,J,R,I,z,j,q,v],[nm,x,B],[X,Y,A,H],[]⟩ fun M=>(M=(0,v0))
theorem Alf:Ap3 95:=by
 intro k o t b M P L N O yk C H B J j q I nm v z X Y x A h
 refine .of (t:=AeW) rfl ?_
 conv=>arg 3;reduce
 refine Bg t 0 ?_
 refine Bg b 0 ?_
 refine Bg j 0 ?_
 refine Bg q 0 ?_
 exact Ah v0 (rfl)
def Ap2 (N:Nat):Prop:=∀(k o:Int) (t b:Int) (M R:Int) (J P:Int) (Q yk:Int) (A B:Int) (z v:Int) (j q C:Int) (nm H x:List Nat) (X Y:Rs) (I L:Rs) (U:x=[]) (h:t=0/\b=0/\yk=0/\A=0/\B=0/\z=0/\v=0/\j=0/\q=0:=by exact kn),Ok trees N ⟨[k,o,t,b,M,R,J,P,Q,yk,A,B,z,v,j,q,C],[nm,H,x],[X,Y,I,L],[]⟩ fun O=>(O=(0,v0))
theorem AoC:Ap2 96:=by
 intro k o t b N Q M O P yk z A x B j q L nm H v X Y I J C h
 refine .of (t:=AeV) rfl ?_
 conv=>arg 3;reduce
 refine Bg t 0 ?_
 refine Bg b 0 ?_
 refine Bg yk 0 ?_
 refine Bg z 0 ?_
 refine Bg A 0 ?_
 refine Xv v ?_
 refine Bg x 0 ?_
 refine Bg B 0 ?_
 refine Bg j 0 ?_
 refine Bg q 0 ?_
 exact Ah v0 (rfl)
def KQ (N n:Nat):Prop:=∀{l:List S} (ln j:Int) (v:List Nat) (L:Rs) (A:PL l) (z:L=S.Ab l) (h:ln=L.length/\ln<=200000/\0<=j/\j+400*S.Ad l<=999680/\v.length+2*(S.Az l+1)<=62/\S.Az l<n),Ok trees N ⟨[ln,j],[v],[L],[]⟩ fun x=>(∃(q:Int),x=(0,(⟨[q],[],[],[]⟩:Aj))/\(q<=j+67+400*S.Ad l)/\(j<=q))
def Amr (N:Nat):Prop:=∀{l:List S} (ln j:Int) (v:List Nat) (L:Rs) (A:PL l) (z:L=S.Ab l) (h:ln=L.length/\ln<=200000/\0<=j/\j+400*S.Ad l<=999680/\v.length+2*(S.Az l+1)<=62:=by exact kn),Ok trees N ⟨[ln,j],[v],[L],[]⟩ fun x=>(∃(q:Int),x=(0,(⟨[q],[],[],[]⟩:Aj))/\(q<=j+67+400*S.Ad l)/\(j<=q))
theorem KQ.of {N n:Nat} (H:Amr N):KQ N n:=fun {l} ln sz ind L hO hLs h=>H ln sz ind L hO hLs (by have:=h;omega)
def ApB (Z N:Nat):Prop:=∀{m:Nat} (ac:KQ Z m) {z O:List E} {j el:List S} (k o:Int) (t b:Int) (L P:Int) (J M:Int) (xl yk:Int) (H I:Int) (C yl:Int) (Q R v:Int) (nm A:List Nat) (B q:List Nat) (X Y:Rs) (U V:Rs) (hS:PS (.node k o t b nm (.node L P J M A z) (.node yk H I C B O) j el)) (hX:X=E.Ab z) (hY:Y=E.Ab O) (hB:U=S.Ab j) (hE:V=S.Ab el) (h:xl=X.length/\yl=Y.length/\Q=U.length/\R=V.length/\0<=v/\v+400*(1+(E.node L P J M A z).nodes+(E.node yk H I C B O).nodes+S.Ad j+S.Ad el)<=1000000/\q.length+2*(S.Az j+1)<=62/\q.length+2*(S.Az el+1)<=62/\S.Az j<m/\S.Az el<m:=by exact kn),Ok trees N ⟨[k,o,t,b,L,P,J,M,xl,yk,H,I,C,yl,Q,R,v],[nm,A,B,q],[X,Y,U,V],[]⟩ fun zz=>(∃(x:Int),zz=(0,(⟨[x],[],[],[]⟩:Aj))/\(x+66<=v+400*(1+(E.node L P J M A z).nodes+(E.node yk H I C B O).nodes+S.Ad j+S.Ad el))/\(v<=x))
theorem AoJ:ApB 84 87:=by
 intro m aj v U bo el k o t b J C H L A yk yo yt Z I N O j nm B yn aq X Y Bo El hS hX hY hB hE h
 subst hX;subst hY;subst hB;subst hE;have dZ:=S.len bo;have d0:=S.len el;have dW:=S.A7 bo;have dX:=S.A7 el;have V:=h;simp only [E.A7,S.A7]at V
 obtain ⟨⟨Δ,M⟩,dY,dU⟩:=hS.inv;rcases M with M|M|M|M|M|M|⟨rfl|rfl,M⟩|⟨rfl|rfl,M⟩|M|M|M
 ·obtain ⟨rfl,rfl,rfl,z,rfl,rfl,Q,r1,r2,R,_⟩:=M;obtain ⟨rfl,rfl,rfl,rfl,rfl,rfl⟩:=z;have ez:(E.node 0 0 0 0 [] []).nodes=0:=rfl;have es:S.Ad []=0:=rfl;have ai:=Q.len;simp only [lN]at V
  refine .of (t:=I8) rfl ?_
  conv=>arg 3;reduce
  refine Bw 1 1 ?_
  obtain ⟨_,rfl,G1⟩:=AoI 1 0 t 0 J C H L A 0 0 0 0 I N O j nm B [] (E.Ab v) (E.Ab []) (S.Ab []) (S.Ab []) rfl
  refine ch G1 ?_
  refine bu j 4 ?_
  obtain ⟨_,rfl,G2⟩:=Gz nm Q
  refine ch G2 ?_
  refine sl nm ?_
  refine bu (j+4) 64 ?_
  refine bu ((j+4)+64) 1 ?_
  refine JY (t-1) 0 ?_
  refine LA (t-1) 3 ?_
  refine eq (t-1) 0 (fun t3=>?_) fun t3=>?_
  ·refine bu (((j+4)+64)+1) 3 ?_
   refine bu ((((j+4)+64)+1)+3) 3 ?_
   obtain ⟨_,⟨aR,rfl,du,dv⟩,G4⟩:=Dk J C H L A (((((j+4)+64)+1)+3)+3) B (E.Ab v) asm rfl
   refine ch G4 ?_
   exact Ah ⟨[aR],[],[],[]⟩ (⟨_,rfl,kn,kn⟩)
  refine eq (t-1) 1 (fun t5=>?_) fun t5=>?_
  ·refine bu (((j+4)+64)+1) 3 ?_
   refine bu ((((j+4)+64)+1)+3) 3 ?_
   obtain ⟨_,⟨aQ,rfl,dD,dz⟩,G6⟩:=Dk J C H L A (((((j+4)+64)+1)+3)+3) B (E.Ab v) asm rfl
   refine ch G6 ?_
   exact Ah ⟨[aQ],[],[],[]⟩ (⟨_,rfl,kn,kn⟩)
  refine Bw (t-1) 2 ?_
  refine bu (((j+4)+64)+1) 4 ?_
  refine bu ((((j+4)+64)+1)+4) 3 ?_
  obtain ⟨_,⟨aU,rfl,dH,dF⟩,G7⟩:=Dk J C H L A (((((j+4)+64)+1)+4)+3) B (E.Ab v) asm rfl
  refine ch G7 ?_
  exact Ah ⟨[aU],[],[],[]⟩ (⟨_,rfl,kn,kn⟩)
 ·obtain ⟨rfl,rfl,rfl,rfl,z,rfl,rfl,Q,u,R,_⟩:=M;obtain ⟨rfl,rfl,rfl,rfl,rfl,rfl⟩:=z;have ez:(E.node 0 0 0 0 [] []).nodes=0:=rfl;have es:S.Ad []=0:=rfl;have ai:=Q.len;simp only [lN]at V
  refine .of (t:=I8) rfl ?_
  conv=>arg 3;reduce
  refine AB 2 1 ?_
  refine Bw 2 2 ?_
  obtain ⟨_,rfl,G8⟩:=AoH 2 0 0 0 J C H L A 0 0 0 0 I N O j nm B [] (E.Ab v) (E.Ab []) (S.Ab []) (S.Ab []) rfl
  refine ch G8 ?_
  obtain ⟨_,rfl,G9⟩:=Gz nm Q
  refine ch G9 ?_
  refine sl nm ?_
  refine bu j 64 ?_
  refine bu (j+64) 3 ?_
  obtain ⟨_,⟨aN,rfl,cJ,cv⟩,b5⟩:=Dk J C H L A ((j+64)+3) B (E.Ab v) asm rfl
  refine ch b5 ?_
  exact Ah ⟨[aN],[],[],[]⟩ (⟨_,rfl,kn,kn⟩)
 ·obtain ⟨rfl,rfl,rfl,rfl,rfl,rfl,Q,u,R,hy,_,_⟩:=M;have ez:(E.node 0 0 0 0 [] []).nodes=0:=rfl;have es:S.Ad []=0:=rfl;have ai:=Q.len;simp only [lN]at V
  refine .of (t:=I8) rfl ?_
  conv=>arg 3;reduce
  refine AB 3 1 ?_
  refine AB 3 2 ?_
  refine Bw 3 3 ?_
  obtain ⟨_,rfl,bf⟩:=AoG 3 0 0 0 J C H L A yk yo yt Z I N O j nm B yn (E.Ab v) (E.Ab U) (S.Ab []) (S.Ab [])
  refine ch bf ?_
  obtain ⟨_,rfl,cf⟩:=Gz nm Q
  refine ch cf ?_
  refine sl nm ?_
  refine bu j 64 ?_
  refine bu (j+64) 1 ?_
  obtain ⟨_,⟨ah,rfl,db,cV⟩,bw⟩:=Dk J C H L A ((j+64)+1) B (E.Ab v) asm rfl
  refine ch bw ?_
  refine bu ah 1 ?_
  refine bu (ah+1) 3 ?_
  obtain ⟨_,⟨aI,rfl,cO,c3⟩,cp⟩:=Dk yk yo yt Z I ((ah+1)+3) yn (E.Ab U) asm rfl
  refine ch cp ?_
  exact Ah ⟨[aI],[],[],[]⟩ (⟨_,rfl,kn,kn⟩)
 ·obtain ⟨rfl,rfl,rfl,rfl,rfl,Q,ho,R,hy,_,_⟩:=M;have ez:(E.node 0 0 0 0 [] []).nodes=0:=rfl;have es:S.Ad []=0:=rfl;have ai:=Q.len;simp only [lN]at V
  refine .of (t:=I8) rfl ?_
  conv=>arg 3;reduce
  refine AB 4 1 ?_
  refine AB 4 2 ?_
  refine AB 4 3 ?_
  refine AB 4 5 ?_
  refine AB 4 6 ?_
  refine AB 4 7 ?_
  refine AB 4 8 ?_
  refine AB 4 9 ?_
  refine AB 4 10 ?_
  refine AB 4 11 ?_
  refine Bw 4 4 ?_
  obtain ⟨_,rfl,bC⟩:=Alf 4 o 0 0 J C H L A yk yo yt Z I N O j nm B yn (E.Ab v) (E.Ab U) (S.Ab []) (S.Ab [])
  refine ch bC ?_
  refine bu j 7 ?_
  obtain ⟨_,rfl,bx⟩:=Gz nm Q
  refine ch bx ?_
  refine sl nm ?_
  refine bu (j+7) 64 ?_
  refine bu ((j+7)+64) 1 ?_
  obtain ⟨_,⟨q,rfl,cA,cQ⟩,bc⟩:=Dk J C H L A (((j+7)+64)+1) B (E.Ab v) asm rfl
  refine ch bc ?_
  refine bu q 1 ?_
  refine bu (q+1) 1 ?_
  refine eq o 10 (fun cj=>?_) fun cj=>?_
  ·refine bu ((q+1)+1) 3 ?_
   refine bu (((q+1)+1)+3) 1 ?_
   obtain ⟨_,⟨aL,rfl,c8,cE⟩,bE⟩:=Dk yk yo yt Z I ((((q+1)+1)+3)+1) yn (E.Ab U) asm rfl
   refine ch bE ?_
   exact Ah ⟨[aL],[],[],[]⟩ (⟨_,rfl,kn,kn⟩)
  refine eq o 22 (fun cd=>?_) fun cd=>?_
  ·refine bu ((q+1)+1) 3 ?_
   refine bu (((q+1)+1)+3) 1 ?_
   obtain ⟨_,⟨aH,rfl,c7,dd⟩,a2⟩:=Dk yk yo yt Z I ((((q+1)+1)+3)+1) yn (E.Ab U) asm rfl
   refine ch a2 ?_
   exact Ah ⟨[aH],[],[],[]⟩ (⟨_,rfl,kn,kn⟩)
  refine eq o 23 (fun bU=>?_) fun bU=>?_
  ·refine bu ((q+1)+1) 3 ?_
   refine bu (((q+1)+1)+3) 1 ?_
   obtain ⟨_,⟨aG,rfl,cX,cP⟩,aX⟩:=Dk yk yo yt Z I ((((q+1)+1)+3)+1) yn (E.Ab U) asm rfl
   refine ch aX ?_
   exact Ah ⟨[aG],[],[],[]⟩ (⟨_,rfl,kn,kn⟩)
  refine eq o 17 (fun a9=>?_) fun a9=>?_
  ·refine bu ((q+1)+1) 3 ?_
   refine bu (((q+1)+1)+3) 1 ?_
   obtain ⟨_,⟨aK,rfl,c4,cu⟩,ba⟩:=Dk yk yo yt Z I ((((q+1)+1)+3)+1) yn (E.Ab U) asm rfl
   refine ch ba ?_
   exact Ah ⟨[aK],[],[],[]⟩ (⟨_,rfl,kn,kn⟩)
  refine eq o 18 (fun aZ=>?_) fun aZ=>?_
  ·refine bu ((q+1)+1) 2 ?_
   refine bu (((q+1)+1)+2) 1 ?_
   obtain ⟨_,⟨aD,rfl,cx,cy⟩,bg⟩:=Dk yk yo yt Z I ((((q+1)+1)+2)+1) yn (E.Ab U) asm rfl
   refine ch bg ?_
   exact Ah ⟨[aD],[],[],[]⟩ (⟨_,rfl,kn,kn⟩)
  refine Bw o 19 ?_
  refine bu ((q+1)+1) 3 ?_
  refine bu (((q+1)+1)+3) 1 ?_
  obtain ⟨_,⟨aC,rfl,c5,cH⟩,bv⟩:=Dk yk yo yt Z I ((((q+1)+1)+3)+1) yn (E.Ab U) asm rfl
  refine ch bv ?_
  exact Ah ⟨[aC],[],[],[]⟩ (⟨_,rfl,kn,kn⟩)
 ·obtain ⟨rfl,rfl,rfl,rfl,rfl,z,R,_⟩:=M;obtain ⟨rfl,rfl,rfl,rfl,rfl,rfl⟩:=z;have ez:(E.node 0 0 0 0 [] []).nodes=0:=rfl;have es:S.Ad []=0:=rfl;simp only [lN]at V
  refine .of (t:=I8) rfl ?_
  conv=>arg 3;reduce
  refine AB 5 1 ?_
  refine AB 5 2 ?_
  refine AB 5 3 ?_
  refine Bw 5 5 ?_
  obtain ⟨_,rfl,aY⟩:=AoF 5 0 0 0 J C H L A 0 0 0 0 I N O j [] B [] (E.Ab v) (E.Ab []) (S.Ab bo) (S.Ab el) rfl rfl
  refine ch aY ?_
  refine bu j 3 ?_
  obtain ⟨_,⟨ak,rfl,dc,c1⟩,bp⟩:=Dk J C H L A (j+3) B (E.Ab v) asm rfl
  refine ch bp ?_
  refine bu ak 1 ?_
  obtain ⟨_,⟨ag,rfl,cU,cB⟩,bj⟩:=aj N (ak+1) aq (S.Ab bo) asm rfl kn
  refine ch bj ?_
  refine gt O 0 (fun bP=>?_) fun bP=>?_
  ·refine bu ag 6 ?_
   obtain ⟨_,⟨aA,rfl,cN,cR⟩,b0⟩:=aj O (ag+6) aq (S.Ab el) asm rfl kn
   refine ch b0 ?_
   exact Ah ⟨[aA],[],[],[]⟩ (⟨_,rfl,kn,kn⟩)
  exact Ah ⟨[ag],[],[],[]⟩ (⟨_,rfl,kn,kn⟩)
 ·obtain ⟨rfl,rfl,rfl,rfl,z,rfl,R,_,b1,b2⟩:=M;obtain ⟨rfl,rfl,rfl,rfl,rfl,rfl⟩:=z;have ez:(E.node 0 0 0 0 [] []).nodes=0:=rfl;have es:S.Ad []=0:=rfl;simp only [lN]at V
  refine .of (t:=I8) rfl ?_
  conv=>arg 3;reduce
  refine AB 6 1 ?_
  refine AB 6 2 ?_
  refine AB 6 3 ?_
  refine AB 6 5 ?_
  refine Bw 6 6 ?_
  obtain ⟨_,rfl,bK⟩:=AoE 6 0 0 b J C H L A 0 0 0 0 I N O j [] B [] (E.Ab v) (E.Ab []) (S.Ab bo) (S.Ab []) rfl rfl
  refine ch bK ?_
  refine bu j 6 ?_
  obtain ⟨_,⟨af,rfl,dh,cS⟩,bR⟩:=Dk J C H L A (j+6) B (E.Ab v) asm rfl
  refine ch bR ?_
  refine Dv b (-9223372036854775808) ?_
  refine E6 b 9223372036854775807 ?_
  refine bu af 6 ?_
  refine bu (af+6) 21 ?_
  refine bu ((af+6)+21) 1 ?_
  obtain ⟨_,⟨aJ,rfl,cY,c6⟩,bm⟩:=aj N (((af+6)+21)+1) aq (S.Ab bo) asm rfl kn
  refine ch bm ?_
  exact Ah ⟨[aJ],[],[],[]⟩ (⟨_,rfl,kn,kn⟩)
 ·obtain ⟨rfl,rfl,rfl,rfl,P,z,rfl,rfl⟩:=M;obtain ⟨rfl,rfl,rfl,rfl,rfl,rfl⟩:=z;obtain ⟨rfl,rfl,rfl,rfl,rfl,rfl⟩:=P;have ez:(E.node 0 0 0 0 [] []).nodes=0:=rfl;have es:S.Ad []=0:=rfl;simp only [lN]at V
  refine .of (t:=I8) rfl ?_
  conv=>arg 3;reduce
  refine AB 7 1 ?_
  refine AB 7 2 ?_
  refine AB 7 3 ?_
  refine AB 7 5 ?_
  refine AB 7 6 ?_
  refine Bw 7 7 ?_
  obtain ⟨_,rfl,b7⟩:=AdS 7 0 0 0 0 0 0 0 A 0 0 0 0 I N O j [] [] [] (E.Ab []) (E.Ab []) (S.Ab []) (S.Ab []) rfl rfl rfl
  refine ch b7 ?_
  refine JY (7-7) 0 ?_
  refine LA (7-7) 4 ?_
  refine Bw (7-7) 0 ?_
  refine bu j 5 ?_
  exact Ah ⟨[(j+5)],[],[],[]⟩ (⟨_,rfl,kn,kn⟩)
 ·obtain ⟨rfl,rfl,rfl,rfl,P,z,rfl,rfl⟩:=M;obtain ⟨rfl,rfl,rfl,rfl,rfl,rfl⟩:=z;obtain ⟨rfl,rfl,rfl,rfl,rfl,rfl⟩:=P;have ez:(E.node 0 0 0 0 [] []).nodes=0:=rfl;have es:S.Ad []=0:=rfl;simp only [lN]at V
  refine .of (t:=I8) rfl ?_
  conv=>arg 3;reduce
  refine AB 8 1 ?_
  refine AB 8 2 ?_
  refine AB 8 3 ?_
  refine AB 8 5 ?_
  refine AB 8 6 ?_
  refine AB 8 7 ?_
  refine Bw 8 8 ?_
  obtain ⟨_,rfl,bh⟩:=AdS 8 0 0 0 0 0 0 0 A 0 0 0 0 I N O j [] [] [] (E.Ab []) (E.Ab []) (S.Ab []) (S.Ab []) rfl rfl rfl
  refine ch bh ?_
  refine JY (8-7) 0 ?_
  refine LA (8-7) 4 ?_
  refine AB (8-7) 0 ?_
  refine Bw (8-7) 1 ?_
  refine bu j 8 ?_
  exact Ah ⟨[(j+8)],[],[],[]⟩ (⟨_,rfl,kn,kn⟩)
 ·obtain ⟨rfl,rfl,rfl,rfl,P,z,rfl,rfl⟩:=M;obtain ⟨rfl,rfl,rfl,rfl,rfl,rfl⟩:=z;obtain ⟨rfl,rfl,rfl,rfl,rfl,rfl⟩:=P;have ez:(E.node 0 0 0 0 [] []).nodes=0:=rfl;have es:S.Ad []=0:=rfl;simp only [lN]at V
  refine .of (t:=I8) rfl ?_
  conv=>arg 3;reduce
  refine AB 9 1 ?_
  refine AB 9 2 ?_
  refine AB 9 3 ?_
  refine AB 9 5 ?_
  refine AB 9 6 ?_
  refine AB 9 7 ?_
  refine AB 9 8 ?_
  refine Bw 9 9 ?_
  obtain ⟨_,rfl,bS⟩:=AdS 9 0 0 0 0 0 0 0 A 0 0 0 0 I N O j [] [] [] (E.Ab []) (E.Ab []) (S.Ab []) (S.Ab []) rfl rfl rfl
  refine ch bS ?_
  refine JY (9-7) 0 ?_
  refine LA (9-7) 4 ?_
  refine AB (9-7) 0 ?_
  refine AB (9-7) 1 ?_
  refine Bw (9-7) 2 ?_
  refine bu j 6 ?_
  exact Ah ⟨[(j+6)],[],[],[]⟩ (⟨_,rfl,kn,kn⟩)
 ·obtain ⟨rfl,rfl,rfl,rfl,P,z,rfl,rfl⟩:=M;obtain ⟨rfl,rfl,rfl,rfl,rfl,rfl⟩:=z;obtain ⟨rfl,rfl,rfl,rfl,rfl,rfl⟩:=P;have ez:(E.node 0 0 0 0 [] []).nodes=0:=rfl;have es:S.Ad []=0:=rfl;simp only [lN]at V
  refine .of (t:=I8) rfl ?_
  conv=>arg 3;reduce
  refine AB 10 1 ?_
  refine AB 10 2 ?_
  refine AB 10 3 ?_
  refine AB 10 5 ?_
  refine AB 10 6 ?_
  refine AB 10 7 ?_
  refine AB 10 8 ?_
  refine AB 10 9 ?_
  refine Bw 10 10 ?_
  obtain ⟨_,rfl,bT⟩:=AdS 10 0 0 0 0 0 0 0 A 0 0 0 0 I N O j [] [] [] (E.Ab []) (E.Ab []) (S.Ab []) (S.Ab []) rfl rfl rfl
  refine ch bT ?_
  refine JY (10-7) 0 ?_
  refine LA (10-7) 4 ?_
  refine AB (10-7) 0 ?_
  refine AB (10-7) 1 ?_
  refine AB (10-7) 2 ?_
  refine Bw (10-7) 3 ?_
  refine bu j 7 ?_
  exact Ah ⟨[(j+7)],[],[],[]⟩ (⟨_,rfl,kn,kn⟩)
 ·obtain ⟨rfl,ho,rfl,rfl,rfl,P,z,rfl,rfl⟩:=M;obtain ⟨rfl,rfl,rfl,rfl,rfl,rfl⟩:=z;obtain ⟨rfl,rfl,rfl,rfl,rfl,rfl⟩:=P;have ez:(E.node 0 0 0 0 [] []).nodes=0:=rfl;have es:S.Ad []=0:=rfl;simp only [lN]at V
  refine .of (t:=I8) rfl ?_
  conv=>arg 3;reduce
  refine AB 11 1 ?_
  refine AB 11 2 ?_
  refine AB 11 3 ?_
  refine AB 11 5 ?_
  refine AB 11 6 ?_
  refine AB 11 7 ?_
  refine AB 11 8 ?_
  refine AB 11 9 ?_
  refine AB 11 10 ?_
  refine Bw 11 11 ?_
  obtain ⟨_,rfl,bz⟩:=AoD 11 o 0 0 0 0 0 0 A 0 0 0 0 I N O j [] [] [] (E.Ab []) (E.Ab []) (S.Ab []) (S.Ab []) rfl rfl rfl
  refine ch bz ?_
  refine bu j 6 ?_
  refine JY (o-1) 0 ?_
  refine LA (o-1) 2 ?_
  refine eq (o-1) 0 (fun bF=>?_) fun bF=>?_
  ·refine bu (j+6) 5 ?_
   exact Ah ⟨[((j+6)+5)],[],[],[]⟩ (⟨_,rfl,kn,kn⟩)
  refine Bw (o-1) 1 ?_
  refine bu (j+6) 6 ?_
  exact Ah ⟨[((j+6)+6)],[],[],[]⟩ (⟨_,rfl,kn,kn⟩)
 ·obtain ⟨rfl,rfl,rfl,z,rfl,rfl,Q,u,w,ho,R,_⟩:=M;obtain ⟨rfl,rfl,rfl,rfl,rfl,rfl⟩:=z;have ez:(E.node 0 0 0 0 [] []).nodes=0:=rfl;have es:S.Ad []=0:=rfl;have ai:=Q.len;have e1:=n1 (x:=.node J C H L B v);have e4:=g1 (x:=.node J C H L B v);simp only [lN]at V
  refine .of (t:=I8) rfl ?_
  conv=>arg 3;reduce
  refine AB 12 1 ?_
  refine AB 12 2 ?_
  refine AB 12 3 ?_
  refine AB 12 5 ?_
  refine AB 12 6 ?_
  refine AB 12 7 ?_
  refine AB 12 8 ?_
  refine AB 12 9 ?_
  refine AB 12 10 ?_
  refine AB 12 11 ?_
  refine AB 12 4 ?_
  refine Bw 12 12 ?_
  refine AB o 4 ?_
  obtain ⟨_,rfl,bn⟩:=AoC 12 o 0 0 J C H L A 0 0 0 0 I N O j nm B [] (E.Ab v) (E.Ab []) (S.Ab []) (S.Ab []) rfl
  refine ch bn ?_
  obtain ⟨_,rfl,bJ⟩:=Gz nm Q
  refine ch bJ ?_
  refine sl nm ?_
  refine bu j 64 ?_
  refine bu (j+64) 3 ?_
  refine JY (o-1) 0 ?_
  refine LA (o-1) 6 ?_
  refine eq (o-1) 0 (fun bl=>?_) fun bl=>?_
  ·refine bu ((j+64)+3) 6 ?_
   refine neY o 4 ?_
   refine ll A (E.Ab v) ?_
   refine ll I (E.Ab []) ?_
   refine dL [[.int .i64 J,.int .i64 C,.int .i64 H,.str B,.int .i32 L,.list 6 (E.Ab v)],[.int .i64 0,.int .i64 0,.int .i64 0,.str [],.int .i32 0,.list 6 (E.Ab [])]] (fun an bb=>?_)
   have bX:=cL bb;try simp only [lA,lC,lN,lT']at bX
   refine ll 2 an ?_
   refine fr ?_
   refine dL (an.take (1:Int).toNat) (fun bD b6=>?_) (Gf (pt 1 an))
   have bG:=cL b6;try simp only [lA,lC,lN,lT']at bG
   obtain ⟨_,⟨aF,rfl,cD,cI⟩,a7⟩:=HL (KO.of (n:=10) @Dk) 1 (((j+64)+3)+6) bD R.tl1 (by subst_vars;rfl)
   refine ch a7 ?_
   exact Ah ⟨[aF],[],[],[]⟩ (⟨_,rfl,kn,kn⟩)
  refine eq (o-1) 1 (fun a3=>?_) fun a3=>?_
  ·refine bu ((j+64)+3) 3 ?_
   refine neY o 4 ?_
   refine ll A (E.Ab v) ?_
   refine ll I (E.Ab []) ?_
   refine dL [[.int .i64 J,.int .i64 C,.int .i64 H,.str B,.int .i32 L,.list 6 (E.Ab v)],[.int .i64 0,.int .i64 0,.int .i64 0,.str [],.int .i32 0,.list 6 (E.Ab [])]] (fun au bH=>?_)
   have cg:=cL bH;try simp only [lA,lC,lN,lT']at cg
   refine ll 2 au ?_
   refine fr ?_
   refine dL (au.take (1:Int).toNat) (fun bQ bA=>?_) (Gf (pt 1 au))
   have a6:=cL bA;try simp only [lA,lC,lN,lT']at a6
   obtain ⟨_,⟨az,rfl,cC,cK⟩,bV⟩:=HL (KO.of (n:=10) @Dk) 1 (((j+64)+3)+3) bQ R.tl1 (by subst_vars;rfl)
   refine ch bV ?_
   exact Ah ⟨[az],[],[],[]⟩ (⟨_,rfl,kn,kn⟩)
  refine eq (o-1) 2 (fun b4=>?_) fun b4=>?_
  ·refine bu ((j+64)+3) 3 ?_
   refine neY o 4 ?_
   refine ll A (E.Ab v) ?_
   refine ll I (E.Ab []) ?_
   refine dL [[.int .i64 J,.int .i64 C,.int .i64 H,.str B,.int .i32 L,.list 6 (E.Ab v)],[.int .i64 0,.int .i64 0,.int .i64 0,.str [],.int .i32 0,.list 6 (E.Ab [])]] (fun ao cc=>?_)
   have cb:=cL cc;try simp only [lA,lC,lN,lT']at cb
   refine ll 2 ao ?_
   refine fr ?_
   refine dL (ao.take (1:Int).toNat) (fun ce be=>?_) (Gf (pt 1 ao))
   have a1:=cL be;try simp only [lA,lC,lN,lT']at a1
   obtain ⟨_,⟨ay,rfl,cW,cw⟩,a5⟩:=HL (KO.of (n:=10) @Dk) 1 (((j+64)+3)+3) ce R.tl1 (by subst_vars;rfl)
   refine ch a5 ?_
   exact Ah ⟨[ay],[],[],[]⟩ (⟨_,rfl,kn,kn⟩)
  refine eq (o-1) 3 (fun br=>?_) fun br=>?_
  ·refine bu ((j+64)+3) 7 ?_
   refine neY o 4 ?_
   refine ll A (E.Ab v) ?_
   refine ll I (E.Ab []) ?_
   refine dL [[.int .i64 J,.int .i64 C,.int .i64 H,.str B,.int .i32 L,.list 6 (E.Ab v)],[.int .i64 0,.int .i64 0,.int .i64 0,.str [],.int .i32 0,.list 6 (E.Ab [])]] (fun ap b3=>?_)
   have bM:=cL b3;try simp only [lA,lC,lN,lT']at bM
   refine ll 2 ap ?_
   refine fr ?_
   refine dL (ap.take (1:Int).toNat) (fun aW b8=>?_) (Gf (pt 1 ap))
   have bk:=cL b8;try simp only [lA,lC,lN,lT']at bk
   obtain ⟨_,⟨aB,rfl,cM,c2⟩,ci⟩:=HL (KO.of (n:=10) @Dk) 1 (((j+64)+3)+7) aW R.tl1 (by subst_vars;rfl)
   refine ch ci ?_
   exact Ah ⟨[aB],[],[],[]⟩ (⟨_,rfl,kn,kn⟩)
  refine eq (o-1) 4 (fun bO=>?_) fun bO=>?_
  ·refine bu ((j+64)+3) 4 ?_
   refine neY o 4 ?_
   refine ll A (E.Ab v) ?_
   refine ll I (E.Ab []) ?_
   refine dL [[.int .i64 J,.int .i64 C,.int .i64 H,.str B,.int .i32 L,.list 6 (E.Ab v)],[.int .i64 0,.int .i64 0,.int .i64 0,.str [],.int .i32 0,.list 6 (E.Ab [])]] (fun av bN=>?_)
   have cq:=cL bN;try simp only [lA,lC,lN,lT']at cq
   refine ll 2 av ?_
   refine fr ?_
   refine dL (av.take (1:Int).toNat) (fun a0 co=>?_) (Gf (pt 1 av))
   have b9:=cL co;try simp only [lA,lC,lN,lT']at b9
   obtain ⟨_,⟨aM,rfl,cT,cz⟩,bI⟩:=HL (KO.of (n:=10) @Dk) 1 (((j+64)+3)+4) a0 R.tl1 (by subst_vars;rfl)
   refine ch bI ?_
   exact Ah ⟨[aM],[],[],[]⟩ (⟨_,rfl,kn,kn⟩)
  refine Bw (o-1) 5 ?_
  refine bu ((j+64)+3) 3 ?_
  refine neY o 4 ?_
  refine ll A (E.Ab v) ?_
  refine ll I (E.Ab []) ?_
  refine dL [[.int .i64 J,.int .i64 C,.int .i64 H,.str B,.int .i32 L,.list 6 (E.Ab v)],[.int .i64 0,.int .i64 0,.int .i64 0,.str [],.int .i32 0,.list 6 (E.Ab [])]] (fun aw cr=>?_)
  have bW:=cL cr;try simp only [lA,lC,lN,lT']at bW
  refine ll 2 aw ?_
  refine fr ?_
  refine dL (aw.take (1:Int).toNat) (fun bt bZ=>?_) (Gf (pt 1 aw))
  have bY:=cL bZ;try simp only [lA,lC,lN,lT']at bY
  obtain ⟨_,⟨ax,rfl,cZ,cG⟩,bL⟩:=HL (KO.of (n:=10) @Dk) 1 (((j+64)+3)+3) bt R.tl1 (by subst_vars;rfl)
  refine ch bL ?_
  exact Ah ⟨[ax],[],[],[]⟩ (⟨_,rfl,kn,kn⟩)
 ·obtain ⟨rfl,rfl,rfl,rfl,rfl,rfl,Q,u,R,hy,_,_⟩:=M;have ez:(E.node 0 0 0 0 [] []).nodes=0:=rfl;have es:S.Ad []=0:=rfl;have ai:=Q.len;have e1:=n2 (x:=.node J C H L B v) (y:=.node yk yo yt Z yn U);have e4:=g2 (x:=.node J C H L B v) (y:=.node yk yo yt Z yn U);simp only [lN]at V
  refine .of (t:=I8) rfl ?_
  conv=>arg 3;reduce
  refine AB 12 1 ?_
  refine AB 12 2 ?_
  refine AB 12 3 ?_
  refine AB 12 5 ?_
  refine AB 12 6 ?_
  refine AB 12 7 ?_
  refine AB 12 8 ?_
  refine AB 12 9 ?_
  refine AB 12 10 ?_
  refine AB 12 11 ?_
  refine AB 12 4 ?_
  refine Bw 12 12 ?_
  refine Bw 4 4 ?_
  obtain ⟨_,rfl,a8⟩:=Alf 12 4 0 0 J C H L A yk yo yt Z I N O j nm B yn (E.Ab v) (E.Ab U) (S.Ab []) (S.Ab [])
  refine ch a8 ?_
  obtain ⟨_,rfl,aV⟩:=Gz nm Q
  refine ch aV ?_
  refine sl nm ?_
  refine bu j 64 ?_
  refine bu (j+64) 3 ?_
  refine JY (4-1) 0 ?_
  refine LA (4-1) 6 ?_
  refine AB (4-1) 0 ?_
  refine AB (4-1) 1 ?_
  refine AB (4-1) 2 ?_
  refine Bw (4-1) 3 ?_
  refine bu ((j+64)+3) 7 ?_
  refine BJ 4 4 ?_
  refine ll A (E.Ab v) ?_
  refine ll I (E.Ab U) ?_
  refine dL [[.int .i64 J,.int .i64 C,.int .i64 H,.str B,.int .i32 L,.list 6 (E.Ab v)],[.int .i64 yk,.int .i64 yo,.int .i64 yt,.str yn,.int .i32 Z,.list 6 (E.Ab U)]] (fun aO ct=>?_)
  have bi:=cL ct;try simp only [lA,lC,lN,lT']at bi
  refine ll 2 aO ?_
  refine fr ?_
  obtain ⟨_,⟨aE,rfl,c9,cF⟩,bB⟩:=HL (KO.of (n:=10) @Dk) 2 (((j+64)+3)+7) aO (R.tl2 hy) (by subst_vars;rfl)
  refine ch bB ?_
  exact Ah ⟨[aE],[],[],[]⟩ (⟨_,rfl,kn,kn⟩)
def Aqq (A N:Nat) (m n:Nat):Prop:=∀{l:List S} (ln len:Int) (j q:Int) (x:List Nat) (L:Rs) (C:PL (l.drop j.toNat)) (B:L=S.Ab l) (h:ln=L.length/\ln<=200000/\len=ln/\0<=j/\0<=q/\q+400*S.Ad (l.drop j.toNat)<=999682/\x.length+2*S.Az (l.drop j.toNat)<=62/\S.Az (l.drop j.toNat)<=m/\(len-j).toNat<n),Ok trees N ⟨[ln,len,j,q],[x],[L],[]⟩ fun z=>(z=(0,v0))∨(∃(v:Int),z=(1,(⟨[v],[],[],[]⟩:Aj))/\(v<=q+400*S.Ad (l.drop j.toNat))/\(q<=v))
def ApC (A N:Nat):Prop:=∀{m:Nat} (B:KQ A m) {l:List S} (ln len:Int) (j q:Int) (x:List Nat) (L:Rs) (H:PL (l.drop j.toNat)) (C:L=S.Ab l) (h:ln=L.length/\ln<=200000/\len=ln/\0<=j/\0<=q/\q+400*S.Ad (l.drop j.toNat)<=999682/\x.length+2*S.Az (l.drop j.toNat)<=62/\S.Az (l.drop j.toNat)<=m:=by exact kn),Ok trees N ⟨[ln,len,j,q],[x],[L],[]⟩ fun z=>(z=(0,v0))∨(∃(v:Int),z=(1,(⟨[v],[],[],[]⟩:Aj))/\(v<=q+400*S.Ad (l.drop j.toNat))/\(q<=v))
theorem AnS {m:Nat} (J:KQ 84 m) (n:Nat):Aqq 84 86 m n:=by
 induction n with
 |zero=>intro l ln len j Q v L hO H h;exact absurd h.2.2.2.2.2.2.2.2 (Nat.not_lt_zero _)
 |succ n ih=>
 intro l ln len j Q v L hO H h
 subst H
 refine .of (t:=Afe) rfl ?_
 conv=>arg 3;reduce
 refine lt j len (fun t1=>?_) fun t1=>?_
 ·refine Dv j 0 ?_
  refine CF j ln ?_
  obtain ⟨af,ad,ah,ag,ac,V,Z,ab,I,X,x,R,U,P,O,Y,z,B,A,N,aa,ap,al,au⟩:=PL.get j hO om om
  refine el N ?_
  refine sl v ?_
  refine bu Q 64 ?_
  obtain ⟨_,⟨q,rfl,ak,an⟩,G3⟩:=AoJ @J af ad ah ag V Z ab I ((E.Ab x).length:Int) R U P O ((E.Ab z).length:Int) ((S.Ab B).length:Int) ((S.Ab A).length:Int) (Q+64) ac X Y v (E.Ab x) (E.Ab z) (S.Ab B) (S.Ab A) aa rfl rfl rfl rfl
  refine ch G3 ?_
  refine bu q 1 ?_
  obtain ⟨_,(rfl|⟨C,rfl,ai,aj⟩),M⟩:=ih ln len (j+1) (q+1) v (S.Ab l) asm rfl kn
  ·refine ch M ?_
   exact Ah ⟨[(q+1)],[],[],[]⟩ (.inr ((⟨_,rfl,kn,kn⟩)))
  refine cm M ?_
  refine ch M ?_
  exact Ah ⟨[C],[],[],[]⟩ (.inr ((⟨_,rfl,kn,kn⟩)))
 exact Ah v0 (.inl rfl)
theorem AoK:ApC 84 86:=fun {m} hC84 {l} ln len j sz ind L hO hLs h=>AnS @hC84 ((len-j).toNat+1) ln len j sz ind L hO hLs ⟨h.1,h.2.1,h.2.2.1,h.2.2.2.1,h.2.2.2.2.1,h.2.2.2.2.2.1,h.2.2.2.2.2.2.1,h.2.2.2.2.2.2.2,Nat.lt_succ_self _⟩
def ApD (z N:Nat):Prop:=∀{m:Nat} (A:KQ z m) {l:List S} (ln j:Int) (v:List Nat) (L:Rs) (C:PL l) (B:L=S.Ab l) (h:ln=L.length/\ln<=200000/\0<=j/\j+400*S.Ad l<=999682/\v.length+2*S.Az l<=62/\S.Az l<=m:=by exact kn),Ok trees N ⟨[ln,j],[v],[L],[]⟩ fun x=>(x=(0,v0))∨(∃(q:Int),x=(1,(⟨[q],[],[],[]⟩:Aj))/\(q<=j+400*S.Ad l)/\(j<=q))
theorem V5:ApD 84 85:=by
 intro m v l ln C x L H z h
 subst z;have I:S.Az (l.drop (0:Int).toNat)=S.Az l:=rfl;have J:S.Ad (l.drop (0:Int).toNat)=S.Ad l:=rfl
 refine .of (t:=Aff) rfl ?_
 conv=>arg 3;reduce
 obtain ⟨_,(rfl|⟨j,rfl,B,A⟩),q⟩:=AoK @v ln ln 0 C x (S.Ab l) H rfl
 ·refine ch q ?_
  exact Ah v0 (.inl rfl)
 refine cm q ?_
 refine ch q ?_
 exact Ah ⟨[j],[],[],[]⟩ (.inr ((⟨_,rfl,kn,kn⟩)))
theorem AnT (n:Nat):KQ 84 n:=by
 induction n with
 |zero=>intro l ln v j L A x h;exact absurd h.2.2.2.2.2 (Nat.not_lt_zero _)
 |succ n ih=>
 intro l ln v j L A x h
 have H:(j++[32,32]).length=j.length+2:=by simp
 refine .of (t:=Afg) rfl ?_
 conv=>arg 3;reduce
 refine bu v 2 ?_
 refine ca j [32,32] ?_
 obtain ⟨_,(rfl|⟨q,rfl,C,B⟩),z⟩:=V5 @ih ln (v+2) (j++[32,32]) L A x
 ·refine ch z ?_
  refine sl j ?_
  refine bu (v+2) 64 ?_
  refine bu ((v+2)+64) 1 ?_
  exact Ah ⟨[(((v+2)+64)+1)],[],[],[]⟩ (⟨_,rfl,kn,kn⟩)
 refine cm z ?_
 refine ch z ?_
 refine sl j ?_
 refine bu q 64 ?_
 refine bu (q+64) 1 ?_
 exact Ah ⟨[((q+64)+1)],[],[],[]⟩ (⟨_,rfl,kn,kn⟩)
theorem JQ:Amr 84:=fun {l} ln sz ind L hO hLs h=>AnT (S.Az l+1) ln sz ind L hO hLs ⟨h.1,h.2.1,h.2.2.1,h.2.2.2.1,h.2.2.2.2,Nat.lt_succ_self _⟩
end
end Go.Proofs.YtaolbokoijfhnaaGreatDoor.Am
