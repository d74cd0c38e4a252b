/- Part 24 of TypesFunctions. -/
import Derived.Test.YtbmofjdmgjpfoaaGreatDoorF17
set_option linter.all false
namespace Go.Proofs.YtbmofjdmgjpfoaaGreatDoor.Am
section
set_option maxHeartbeats 4000000
set_option maxRecDepth 100000
open Go.AM Go.AM.K
def Tw (N:Nat):Prop:=∀{v:Int} {B:Rs} (hB:Dl B) (hl:v=B.length) (pos x:Int) (count left:Int) (call q:Int) (V:Rs) (h:0<=pos/\pos<=1000000:=by exact kn),Ok trees N ⟨[v,pos,x,count,left,call,q],[],[B,V],[]⟩ fun z=>(∃(r j:Int),z=(0,(⟨[r,j],[],[],[]⟩:Aj))/\(j=pos+1)/\(0<=r)/\(r<=255))
theorem X8 {d q:Nat} (A:trees q=T_8 d):Tw q:=by
 intro v B hB hl pos I count left call z V h
 refine .of (t:=T_8 d) A ?_
 conv=>arg 3;delta T_8;conv=>arg 3;reduce
 conv=>arg 3;reduce
 refine gt (pos+1) v (fun t1=>?_) fun t1=>?_
 ·exact Ag ⟨[0,(pos+1)],[],[],[]⟩ (⟨_,_,rfl,kn,kn,kn⟩)
 refine CO ((pos+1)-1) 0 ?_
 refine B8 ((pos+1)-1) v ?_
 obtain ⟨x,j,C,H⟩:=Pt hB ((pos+1)-1) om om
 refine el j ?_
 exact Ag ⟨[x,(pos+1)],[],[],[]⟩ (⟨_,_,rfl,kn,kn,kn⟩)
theorem Ln:Tw 8:=@X8 1 8 rfl
theorem XS:Tw 9:=@X8 0 9 rfl
def AmH (N:Nat) (Γ:Ctx) (f A:Int) (x count:Int) (left call loads:Int) (B V:Rs) (n:Nat):Prop:=∀(t j pos:Int) (h:0<=j/\j<=x/\(x-j).toNat<n),Ok trees N ⟨[t,j,A,pos,x,count,left,call,loads],[],[B,V],[]⟩ fun z=>(z=(0,v0))∨(∃(q:Int),∃(v:Rs),z=(1,(⟨[q],[],[v],[]⟩:Aj))/\(HL Γ t v)/\(q=v.length)/\(v.length<=40)/\(0<q))
def Ah2 (N:Nat):Prop:=∀{Γ:Ctx} {f A:Int} {x count:Int} {left call loads:Int} {B V:Rs} (C:NP Γ f A x count left call loads B V) (t j pos:Int) (h:0<=j/\j<=x:=by exact kn),Ok trees N ⟨[t,j,A,pos,x,count,left,call,loads],[],[B,V],[]⟩ fun z=>(z=(0,v0))∨(∃(q:Int),∃(v:Rs),z=(1,(⟨[q],[],[v],[]⟩:Aj))/\(HL Γ t v)/\(q=v.length)/\(v.length<=40)/\(0<q))
def Ad7 (N:Nat):Prop:=∀{Γ:Ctx} {f z:Int} {q count:Int} {left call loads:Int} {B V:Rs} (A:NP Γ f z q count left call loads B V) (t pos:Int) (h:0<=pos/\pos<=1000000:=by exact kn),Ok trees N ⟨[t,z,pos,q,count,left,call,loads],[],[B,V],[]⟩ fun x=>(x=(0,v0))∨(∃(j:Int),∃(v:List Nat),x=(1,(⟨[j],[v],[],[]⟩:Aj))/\(Px Γ t v)/\(j=pos+1))
theorem Adg {d C J v:Nat} (R:trees C=AbS d J v) (Y:Tw J) (N:Ah2 v):Ad7 C:=by
 intro Γ f bl vl count left call z B V M t pos h
 have ⟨hB,hl,hvl,GN,hV,hb,hc,hd⟩:=M
 refine .of (t:=AbS d J v) R ?_
 conv=>arg 3;delta AbS;conv=>arg 3;reduce
 conv=>arg 3;reduce
 obtain ⟨_,(rfl|⟨j,ae,rfl,x,Q,P,O⟩),H⟩:=N M t 0 pos
 ·refine ch H ?_
  exact Ag v0 (.inl rfl)
 refine cm H ?_
 refine ch H ?_
 refine eq j 0 (fun U=>?_) fun U=>?_
 ·exact Ag v0 (.inl rfl)
 obtain ⟨_,⟨q,A,rfl,Z,ad,X⟩,G3⟩:=Y hB hl pos vl count left call z V
 refine ch G3 ?_
 have m4:=Int.emod_nonneg q (show j≠0 by omega);have af:=Int.emod_lt_of_pos q (show 0<j by omega)
 refine CO (q%j) 0 ?_
 refine B8 (q%j) j ?_
 obtain ⟨L,I,ac⟩:=x (q%j) om om
 refine el I ?_
 exact Ag ⟨[A],[L],[],[]⟩ (.inr ((⟨_,_,rfl,fin,kn⟩)))
def Ye (N:Nat):Prop:=∀{Γ:Ctx} {f J:Int} {x count:Int} {left call loads:Int} {B V:Rs} (M:NP Γ f J x count left call loads B V) (t pos:Int) (h:1<=t/\t<=3/\0<=pos/\pos+2<=1000000:=by exact kn),Ok trees N ⟨[t,J,pos,x,count,left,call,loads],[],[B,V],[]⟩ fun L=>(∃(A H I C q j:Int),∃(z:List Nat),∃(v:Rs),L=(0,(⟨[A,H,I,C,q,j],[z],[v],[]⟩:Aj))/\(CN Γ t 1 A H I C z v)/\(q=v.length)/\(pos<=j)/\(j<=pos+2))
theorem Abj {d A C x:Nat} (P:trees A=AbW d C x) (R:Tw C) (J:Ad7 x):Ye A:=by
 intro Γ f bl vl count left call z B V L t pos h
 have ⟨hB,hl,hvl,GN,hV,hb,hc,hd⟩:=L
 refine .of (t:=AbW d C x) P ?_
 conv=>arg 3;delta AbW;conv=>arg 3;reduce
 conv=>arg 3;reduce
 obtain ⟨_,⟨j,v,rfl,ab,af,ae⟩,U⟩:=R hB hl pos vl count left call z V
 refine ch U ?_
 obtain ⟨_,(rfl|⟨q,H,rfl,M,N⟩),I⟩:=J L t v
 ·refine ch I ?_
  refine eq t 1 (fun X=>?_) fun X=>?_
  ·refine eq (j%4) 1 (fun O=>?_) fun O=>?_
   ·refine de [] ?_
    refine ll 0 [] ?_
    exact Ag ⟨[3,(1+((j/4)%7)),0,0,0,v],[[]],[[]],[]⟩ (⟨_,_,_,_,_,_,_,_,rfl,fin,kn,kn,kn⟩)
   refine de [] ?_
   refine ll 0 [] ?_
   exact Ag ⟨[1,0,t,((j%16)-4),0,v],[[]],[[]],[]⟩ (⟨_,_,_,_,_,_,_,_,rfl,fin,kn,kn,kn⟩)
  refine eq t 2 (fun Z=>?_) fun Z=>?_
  ·refine de [] ?_
   refine ll 0 [] ?_
   exact Ag ⟨[1,0,t,((j*16384)-100000),0,v],[[]],[[]],[]⟩ (⟨_,_,_,_,_,_,_,_,rfl,fin,kn,kn,kn⟩)
  refine de [] ?_
  refine ll 0 [] ?_
  exact Ag ⟨[1,0,t,((j/4)%2),0,v],[[]],[[]],[]⟩ (⟨_,_,_,_,_,_,_,_,rfl,fin,kn,kn,kn⟩)
 refine cm I ?_
 refine ch I ?_
 refine eq (j%2) 0 (fun Y=>?_) fun Y=>?_
 ·refine de [] ?_
  refine ll 0 [] ?_
  exact Ag ⟨[2,0,0,0,0,q],[H],[[]],[]⟩ (⟨_,_,_,_,_,_,_,_,rfl,fin,kn,kn,kn⟩)
 refine eq t 1 (fun t7=>?_) fun t7=>?_
 ·refine eq (j%4) 1 (fun t8=>?_) fun t8=>?_
  ·refine de [] ?_
   refine ll 0 [] ?_
   exact Ag ⟨[3,(1+((j/4)%7)),0,0,0,q],[[]],[[]],[]⟩ (⟨_,_,_,_,_,_,_,_,rfl,fin,kn,kn,kn⟩)
  refine de [] ?_
  refine ll 0 [] ?_
  exact Ag ⟨[1,0,t,((j%16)-4),0,q],[[]],[[]],[]⟩ (⟨_,_,_,_,_,_,_,_,rfl,fin,kn,kn,kn⟩)
 refine eq t 2 (fun Q=>?_) fun Q=>?_
 ·refine de [] ?_
  refine ll 0 [] ?_
  exact Ag ⟨[1,0,t,((j*16384)-100000),0,q],[[]],[[]],[]⟩ (⟨_,_,_,_,_,_,_,_,rfl,fin,kn,kn,kn⟩)
 refine de [] ?_
 refine ll 0 [] ?_
 exact Ag ⟨[1,0,t,((j/4)%2),0,q],[[]],[[]],[]⟩ (⟨_,_,_,_,_,_,_,_,rfl,fin,kn,kn,kn⟩)
def IY (N:Nat) (Γ:Ctx) (f L:Int) (I count:Int) (left call loads:Int) (B V:Rs) (n:Nat):Prop:=∀(t depth pos:Int) (h:1<=t/\t<=3/\depth<=3/\0<=pos/\pos+G depth<=1000000/\depth.toNat<n),Ok trees N ⟨[t,depth,L,pos,I,count,left,call,loads],[],[B,V],[]⟩ fun J=>(∃(z C H A q j:Int),∃(x:List Nat),∃(v:Rs),J=(0,(⟨[z,C,H,A,q,j],[x],[v],[]⟩:Aj))/\(CN Γ t depth z C H A x v)/\(q=v.length)/\(pos<=j)/\(j<=pos+G depth))
def RD (N:Nat):Prop:=∀{Γ:Ctx} {f J:Int} {x count:Int} {left call loads:Int} {B V:Rs} (M:NP Γ f J x count left call loads B V) (t depth pos:Int) (h:1<=t/\t<=3/\depth<=3/\0<=pos/\pos+G depth<=1000000:=by exact kn),Ok trees N ⟨[t,depth,J,pos,x,count,left,call,loads],[],[B,V],[]⟩ fun L=>(∃(A H I C q j:Int),∃(z:List Nat),∃(v:Rs),L=(0,(⟨[A,H,I,C,q,j],[z],[v],[]⟩:Aj))/\(CN Γ t depth A H I C z v)/\(q=v.length)/\(pos<=j)/\(j<=pos+G depth))
theorem IY.of {N:Nat} {Γ:Ctx} {f q:Int} {j count:Int} {left call loads:Int} {B V:Rs} (v:NP Γ f q j count left call loads B V) {n:Nat} (H:RD N):IY N Γ f q j count left call loads B V n:=fun t depth pos h=>H v t depth pos (by have:=h;omega)
def V3 (C N:Nat):Prop:=∀{m:Nat} {Γ:Ctx} {f A:Int} {v count:Int} {left call loads:Int} {B V:Rs} (J:NP Γ f A v count left call loads B V) (I:IY C Γ f A v count left call loads B V m) (z depth pos:Int) (h:(z=4∨z=8)/\depth<=3/\¬depth<=1/\depth.toNat<=m/\0<=pos/\pos+G (depth-1)<=1000000:=by exact kn),Ok trees N ⟨[z,depth,A,pos,v,count,left,call,loads],[],[B,V],[]⟩ fun H=>(∃(q j:Int),∃(x:Rs),H=(0,(⟨[q,j],[],[x],[]⟩:Aj))/\(Idx Γ depth x)/\(q=x.length)/\(pos<=j)/\(j<=pos+G (depth-1)))
theorem Ob {d v j:Nat} (O:trees v=AbX d j):V3 j v:=by
 intro m Γ f bl vl count left call N B V Q z R depth pos h
 have ⟨hB,hl,hvl,GN,hV,hb,hc,hd⟩:=Q;have ae:=GI depth;have ad:=KI depth om;have ac:=GI (depth-1)
 refine .of (t:=AbX d j) O ?_
 conv=>arg 3;delta AbX;conv=>arg 3;reduce
 conv=>arg 3;reduce
 obtain ⟨_,⟨M,I,H,L,A,q,J,x,rfl,U,Y,Z,aa⟩,P⟩:=z 1 (depth-1) pos kn
 refine ch P ?_
 refine ll A x ?_
 refine dL [[.int .i64 M,.int .i64 I,.int .i64 H,.str J,.int .i32 L,.list 6 x],[.int .i64 1,.int .i64 0,.int .i64 1,.str [],.int .i32 (R-1),.list 6 []]] (fun C e2=>?_)
 have X:=cL e2;try simp only [lA,lC,lN,lT']at X
 refine ll 2 C ?_
 refine fr ?_
 exact Ag ⟨[2,q],[],[C],[]⟩ (⟨_,_,_,rfl,fin,kn,kn,kn⟩)
def Yd (I N:Nat):Prop:=∀{m:Nat} {Γ:Ctx} {f H:Int} {z count:Int} {left call loads:Int} {B V:Rs} (M:NP Γ f H z count left call loads B V) (L:IY I Γ f H z count left call loads B V m) (C depth pos:Int) (v:List Nat) (h:(C=4∨C=8)/\depth<=3/\¬depth<=1/\depth.toNat<=m/\0<=pos/\pos+G (depth-1)<=1000000:=by exact kn),Ok trees N ⟨[C,depth,H,pos,z,count,left,call,loads],[v],[B,V],[]⟩ fun J=>(∃(x j:Int),∃(q:List Nat),∃(A:Rs),J=(0,(⟨[x,j],[q],[A],[]⟩:Aj))/\(Tv Γ depth A)/\(q=v)/\(x=A.length)/\(pos<=j)/\(j<=pos+G (depth-1)))
theorem Akc {d z v j:Nat} (N:trees z=AbR d j) (L:V3 v j):Yd v z:=by
 intro m Γ f bl vl count left call M B V I A P depth pos H h
 have ⟨hB,hl,hvl,GN,hV,hb,hc,hd⟩:=I;have ac:=GI depth;have ab:=KI depth om;have aa:=GI (depth-1)
 refine .of (t:=AbR d j) N ?_
 conv=>arg 3;delta AbR;conv=>arg 3;reduce
 conv=>arg 3;reduce
 obtain ⟨_,⟨C,q,x,rfl,Q,X,U,Y⟩,O⟩:=L I @A P depth pos
 refine ch O ?_
 refine ll C x ?_
 refine dL [[.int .i64 5,.int .i64 17,.int .i64 0,.str [],.int .i32 0,.list 6 x]] (fun J Z=>?_)
 have R:=cL Z;try simp only [lA,lC,lN,lT']at R
 refine ll 1 J ?_
 refine fr ?_
 exact Ag ⟨[1,q],[H],[J],[]⟩ (⟨_,_,_,_,rfl,fin,kn,kn,kn,kn⟩)
def Ack (J N:Nat):Prop:=∀{m:Nat} {Γ:Ctx} {f z:Int} {v count:Int} {left call loads:Int} {B V:Rs} (P:NP Γ f z v count left call loads B V) (O:IY J Γ f z v count left call loads B V m) (k depth pos:Int) (h:0<=k/\k<=60/\depth<=3/\¬depth<=1/\depth.toNat<=m/\0<=pos/\pos+G depth<=1000001:=by exact kn),Ok trees N ⟨[k,depth,z,pos,v,count,left,call,loads],[],[B,V],[]⟩ fun M=>(∃(C I L H q j:Int),∃(A:List Nat),∃(x:Rs),M=(0,(⟨[C,I,L,H,q,j],[A],[x],[]⟩:Aj))/\(CN Γ 1 depth C I L H A x)/\(q=x.length)/\(pos<=j)/\(j+1<=pos+G depth))
theorem Ake {d aY ah N8 aH aI:Nat} (hT:trees aY=AbV d N8 ah aH aI) (h8:Tw N8) (a5:Ye aH) (Y:Yd ah aI):Ack ah aY:=by
 intro m Γ f bl vl count left call R B V hM A k depth pos h
 have ⟨hB,hl,hvl,GN,hV,hb,hc,hd⟩:=hM;have eK:=GI depth;have eM:=KI depth om;have eL:=GI (depth-1)
 refine .of (t:=AbV d N8 ah aH aI) hT ?_
 conv=>arg 3;delta AbV;conv=>arg 3;reduce
 conv=>arg 3;reduce
 refine lt (k%18) 12 (fun t1=>?_) fun t1=>?_
 ·obtain ⟨_,⟨N,I,P,C,x,aP,J,q,rfl,eF,ep,er,eG⟩,G2⟩:=A 1 (depth-1) pos kn
  refine ch G2 ?_
  obtain ⟨_,⟨M,O,L,Q,z,v,H,j,rfl,ew,et,eo,eJ⟩,G3⟩:=A 1 (depth-1) aP kn
  refine ch G3 ?_
  refine eq (k%18) 0 (fun t4=>?_) fun t4=>?_
  ·refine ll x q ?_
   refine ll z j ?_
   refine dL [[.int .i64 N,.int .i64 I,.int .i64 P,.str J,.int .i32 C,.list 6 q],[.int .i64 M,.int .i64 O,.int .i64 L,.str H,.int .i32 Q,.list 6 j]] (fun W5 e5=>?_)
   have f5:=cL e5;try simp only [lA,lC,lN,lT']at f5
   refine ll 2 W5 ?_
   refine fr ?_
   exact Ag ⟨[5,10,0,0,2,v],[[]],[W5],[]⟩ (⟨_,_,_,_,_,_,_,_,rfl,fin,kn,kn,kn⟩)
  refine eq (k%18) 1 (fun t6=>?_) fun t6=>?_
  ·refine ll x q ?_
   refine ll z j ?_
   refine dL [[.int .i64 N,.int .i64 I,.int .i64 P,.str J,.int .i32 C,.list 6 q],[.int .i64 M,.int .i64 O,.int .i64 L,.str H,.int .i32 Q,.list 6 j]] (fun W7 e7=>?_)
   have f7:=cL e7;try simp only [lA,lC,lN,lT']at f7
   refine ll 2 W7 ?_
   refine fr ?_
   exact Ag ⟨[5,11,0,0,2,v],[[]],[W7],[]⟩ (⟨_,_,_,_,_,_,_,_,rfl,fin,kn,kn,kn⟩)
  refine eq (k%18) 2 (fun t8=>?_) fun t8=>?_
  ·refine ll x q ?_
   refine ll z j ?_
   refine dL [[.int .i64 N,.int .i64 I,.int .i64 P,.str J,.int .i32 C,.list 6 q],[.int .i64 M,.int .i64 O,.int .i64 L,.str H,.int .i32 Q,.list 6 j]] (fun W9 e9=>?_)
   have f9:=cL e9;try simp only [lA,lC,lN,lT']at f9
   refine ll 2 W9 ?_
   refine fr ?_
   exact Ag ⟨[5,12,0,0,2,v],[[]],[W9],[]⟩ (⟨_,_,_,_,_,_,_,_,rfl,fin,kn,kn,kn⟩)
  refine eq (k%18) 3 (fun cu=>?_) fun cu=>?_
  ·refine ll x q ?_
   refine ll z j ?_
   refine dL [[.int .i64 N,.int .i64 I,.int .i64 P,.str J,.int .i32 C,.list 6 q],[.int .i64 M,.int .i64 O,.int .i64 L,.str H,.int .i32 Q,.list 6 j]] (fun a1 cU=>?_)
   have cG:=cL cU;try simp only [lA,lC,lN,lT']at cG
   refine ll 2 a1 ?_
   refine fr ?_
   exact Ag ⟨[5,13,0,0,2,v],[[]],[a1],[]⟩ (⟨_,_,_,_,_,_,_,_,rfl,fin,kn,kn,kn⟩)
  refine eq (k%18) 4 (fun cw=>?_) fun cw=>?_
  ·refine ll x q ?_
   refine ll z j ?_
   refine dL [[.int .i64 N,.int .i64 I,.int .i64 P,.str J,.int .i32 C,.list 6 q],[.int .i64 M,.int .i64 O,.int .i64 L,.str H,.int .i32 Q,.list 6 j]] (fun a3 ci=>?_)
   have cH:=cL ci;try simp only [lA,lC,lN,lT']at cH
   refine ll 2 a3 ?_
   refine fr ?_
   exact Ag ⟨[5,14,0,0,2,v],[[]],[a3],[]⟩ (⟨_,_,_,_,_,_,_,_,rfl,fin,kn,kn,kn⟩)
  refine eq (k%18) 5 (fun cf=>?_) fun cf=>?_
  ·refine ll x q ?_
   refine ll z j ?_
   refine dL [[.int .i64 N,.int .i64 I,.int .i64 P,.str J,.int .i32 C,.list 6 q],[.int .i64 M,.int .i64 O,.int .i64 L,.str H,.int .i32 Q,.list 6 j]] (fun aX b4=>?_)
   have bS:=cL b4;try simp only [lA,lC,lN,lT']at bS
   refine ll 2 aX ?_
   refine fr ?_
   exact Ag ⟨[5,17,0,0,2,v],[[]],[aX],[]⟩ (⟨_,_,_,_,_,_,_,_,rfl,fin,kn,kn,kn⟩)
  refine eq (k%18) 6 (fun bT=>?_) fun bT=>?_
  ·refine ll x q ?_
   refine ll z j ?_
   refine dL [[.int .i64 N,.int .i64 I,.int .i64 P,.str J,.int .i32 C,.list 6 q],[.int .i64 M,.int .i64 O,.int .i64 L,.str H,.int .i32 Q,.list 6 j]] (fun bb c1=>?_)
   have cE:=cL c1;try simp only [lA,lC,lN,lT']at cE
   refine ll 2 bb ?_
   refine fr ?_
   exact Ag ⟨[5,18,0,0,2,v],[[]],[bb],[]⟩ (⟨_,_,_,_,_,_,_,_,rfl,fin,kn,kn,kn⟩)
  refine eq (k%18) 7 (fun cS=>?_) fun cS=>?_
  ·refine ll x q ?_
   refine ll z j ?_
   refine dL [[.int .i64 N,.int .i64 I,.int .i64 P,.str J,.int .i32 C,.list 6 q],[.int .i64 M,.int .i64 O,.int .i64 L,.str H,.int .i32 Q,.list 6 j]] (fun ba cd=>?_)
   have cJ:=cL cd;try simp only [lA,lC,lN,lT']at cJ
   refine ll 2 ba ?_
   refine fr ?_
   exact Ag ⟨[5,19,0,0,2,v],[[]],[ba],[]⟩ (⟨_,_,_,_,_,_,_,_,rfl,fin,kn,kn,kn⟩)
  refine eq (k%18) 8 (fun bU=>?_) fun bU=>?_
  ·refine ll x q ?_
   refine ll z j ?_
   refine dL [[.int .i64 N,.int .i64 I,.int .i64 P,.str J,.int .i32 C,.list 6 q],[.int .i64 M,.int .i64 O,.int .i64 L,.str H,.int .i32 Q,.list 6 j]] (fun a4 cC=>?_)
   have ct:=cL cC;try simp only [lA,lC,lN,lT']at ct
   refine ll 2 a4 ?_
   refine fr ?_
   exact Ag ⟨[5,20,0,0,2,v],[[]],[a4],[]⟩ (⟨_,_,_,_,_,_,_,_,rfl,fin,kn,kn,kn⟩)
  refine eq (k%18) 9 (fun co=>?_) fun co=>?_
  ·refine ll x q ?_
   refine ll z j ?_
   refine dL [[.int .i64 N,.int .i64 I,.int .i64 P,.str J,.int .i32 C,.list 6 q],[.int .i64 M,.int .i64 O,.int .i64 L,.str H,.int .i32 Q,.list 6 j]] (fun a6 cV=>?_)
   have cO:=cL cV;try simp only [lA,lC,lN,lT']at cO
   refine ll 2 a6 ?_
   refine fr ?_
   exact Ag ⟨[5,21,0,0,2,v],[[]],[a6],[]⟩ (⟨_,_,_,_,_,_,_,_,rfl,fin,kn,kn,kn⟩)
  refine eq (k%18) 10 (fun bW=>?_) fun bW=>?_
  ·refine ll x q ?_
   refine ll z j ?_
   refine dL [[.int .i64 N,.int .i64 I,.int .i64 P,.str J,.int .i32 C,.list 6 q],[.int .i64 M,.int .i64 O,.int .i64 L,.str H,.int .i32 Q,.list 6 j]] (fun a2 b5=>?_)
   have cP:=cL b5;try simp only [lA,lC,lN,lT']at cP
   refine ll 2 a2 ?_
   refine fr ?_
   exact Ag ⟨[5,22,0,0,2,v],[[]],[a2],[]⟩ (⟨_,_,_,_,_,_,_,_,rfl,fin,kn,kn,kn⟩)
  refine AH (k%18) 11 ?_
  refine ll x q ?_
  refine ll z j ?_
  refine dL [[.int .i64 N,.int .i64 I,.int .i64 P,.str J,.int .i32 C,.list 6 q],[.int .i64 M,.int .i64 O,.int .i64 L,.str H,.int .i32 Q,.list 6 j]] (fun a0 cc=>?_)
  have cW:=cL cc;try simp only [lA,lC,lN,lT']at cW
  refine ll 2 a0 ?_
  refine fr ?_
  exact Ag ⟨[5,23,0,0,2,v],[[]],[a0],[]⟩ (⟨_,_,_,_,_,_,_,_,rfl,fin,kn,kn,kn⟩)
 refine eq (k%18) 12 (fun cz=>?_) fun cz=>?_
 ·obtain ⟨_,⟨Adh,bj,bg,br,aM,ax,bH,aC,rfl,c8,dN,db,dl⟩,cR⟩:=A 2 (depth-1) pos kn
  refine ch cR ?_
  refine ll aM aC ?_
  refine dL [[.int .i64 Adh,.int .i64 bj,.int .i64 bg,.str bH,.int .i32 br,.list 6 aC]] (fun a7 cy=>?_)
  have bZ:=cL cy;try simp only [lA,lC,lN,lT']at bZ
  refine ll 1 a7 ?_
  refine fr ?_
  exact Ag ⟨[4,5,0,0,1,ax],[[]],[a7],[]⟩ (⟨_,_,_,_,_,_,_,_,rfl,fin,kn,kn,kn⟩)
 refine eq (k%18) 13 (fun cb=>?_) fun cb=>?_
 ·obtain ⟨_,⟨ad,aF,rfl,ef,ee,c4⟩,cA⟩:=h8 hB hl pos vl count left call R V
  refine ch cA ?_
  obtain ⟨_,⟨ag,ac,ae,ab,Z,X,af,U,rfl,dG,dZ,dj,d9⟩,cx⟩:=A 1 (depth-1) aF kn
  refine ch cx ?_
  refine eq (ad%3) 0 (fun b2=>?_) fun b2=>?_
  ·refine ll Z U ?_
   refine dL [[.int .i64 ag,.int .i64 ac,.int .i64 ae,.str af,.int .i32 ab,.list 6 U]] (fun a8 b8=>?_)
   have cQ:=cL b8;try simp only [lA,lC,lN,lT']at cQ
   refine ll 1 a8 ?_
   refine fr ?_
   exact Ag ⟨[4,1,0,0,1,X],[[]],[a8],[]⟩ (⟨_,_,_,_,_,_,_,_,rfl,fin,kn,kn,kn⟩)
  refine eq (ad%3) 1 (fun b7=>?_) fun b7=>?_
  ·refine ll Z U ?_
   refine dL [[.int .i64 ag,.int .i64 ac,.int .i64 ae,.str af,.int .i32 ab,.list 6 U]] (fun aZ cX=>?_)
   have bV:=cL cX;try simp only [lA,lC,lN,lT']at bV
   refine ll 1 aZ ?_
   refine fr ?_
   exact Ag ⟨[4,2,0,0,1,X],[[]],[aZ],[]⟩ (⟨_,_,_,_,_,_,_,_,rfl,fin,kn,kn,kn⟩)
  refine AH (ad%3) 2 ?_
  refine ll Z U ?_
  refine dL [[.int .i64 ag,.int .i64 ac,.int .i64 ae,.str af,.int .i32 ab,.list 6 U]] (fun a9 cT=>?_)
  have cF:=cL cT;try simp only [lA,lC,lN,lT']at cF
  refine ll 1 a9 ?_
  refine fr ?_
  exact Ag ⟨[4,3,0,0,1,X],[[]],[a9],[]⟩ (⟨_,_,_,_,_,_,_,_,rfl,fin,kn,kn,kn⟩)
 refine eq (k%18) 14 (fun bX=>?_) fun bX=>?_
 ·refine sn call 0 (fun cK=>?_) fun cK=>?_
  ·refine sn R 0 (fun cY=>?_) fun cY=>?_
   ·obtain ⟨_,⟨bI,bP,bB,bk,aO,aw,bn,bF,rfl,du,c6,c2,eb⟩,cr⟩:=a5 hM 1 pos
    refine ch cr ?_
    exact Ag ⟨[bI,bP,bB,bk,aO,aw],[bn],[bF],[]⟩ (⟨_,_,_,_,_,_,_,_,rfl,fin,kn,kn,kn⟩)
   refine AL R 1 ?_
   refine eq (k%3) 0 (fun cZ=>?_) fun cZ=>?_
   ·obtain ⟨_,⟨aW,aD,ak,bz,rfl,d5,dY,di,d3,c5⟩,cp⟩:=Y hM @A 4 depth pos [112]
    refine ch cp ?_
    exact Ag ⟨[7,0,0,0,aW,aD],[ak],[bz],[]⟩ (⟨_,_,_,_,_,_,_,_,rfl,fin,kn,kn,kn⟩)
   refine eq (k%2) 0 (fun cj=>?_) fun cj=>?_
   ·obtain ⟨_,⟨aN,au,ao,bE,rfl,dJ,dz,dW,d7,dv⟩,cM⟩:=Y hM @A 8 depth pos [97]
    refine ch cM ?_
    exact Ag ⟨[7,0,0,0,aN,au],[ao],[bE],[]⟩ (⟨_,_,_,_,_,_,_,_,rfl,fin,kn,kn,kn⟩)
   refine AH (k%2) 1 ?_
   obtain ⟨_,⟨aU,ay,ai,bh,rfl,eh,eg,dx,d2,d1⟩,cD⟩:=Y hM @A 8 depth pos [115]
   refine ch cD ?_
   exact Ag ⟨[7,0,0,0,aU,ay],[ai],[bh],[]⟩ (⟨_,_,_,_,_,_,_,_,rfl,fin,kn,kn,kn⟩)
  refine AL call 1 ?_
  obtain ⟨_,⟨bM,bO,bx,bo,aL,az,bJ,aG,rfl,d6,dF,dy,dh⟩,cB⟩:=A 1 (depth-1) pos kn
  refine ch cB ?_
  obtain ⟨_,⟨bD,bN,bw,bA,aQ,ap,bL,aq,rfl,dX,dC,c3,ec⟩,b1⟩:=A 1 (depth-1) az kn
  refine ch b1 ?_
  refine ll aL aG ?_
  refine ll aQ aq ?_
  refine dL [[.int .i64 bM,.int .i64 bO,.int .i64 bx,.str bJ,.int .i32 bo,.list 6 aG],[.int .i64 bD,.int .i64 bN,.int .i64 bw,.str bL,.int .i32 bA,.list 6 aq]] (fun bc cI=>?_)
  have b6:=cL cI;try simp only [lA,lC,lN,lT']at b6
  refine ll 2 bc ?_
  refine fr ?_
  exact Ag ⟨[8,0,0,0,2,ap],[[104]],[bc],[]⟩ (⟨_,_,_,_,_,_,_,_,rfl,fin,kn,kn,kn⟩)
 refine sn R 0 (fun cq=>?_) fun cq=>?_
 ·obtain ⟨_,⟨bm,bt,be,bq,aV,aA,bK,bG,rfl,d4,ea,dU,dM⟩,cN⟩:=a5 hM 1 pos
  refine ch cN ?_
  exact Ag ⟨[bm,bt,be,bq,aV,aA],[bK],[bG],[]⟩ (⟨_,_,_,_,_,_,_,_,rfl,fin,kn,kn,kn⟩)
 refine AL R 1 ?_
 refine eq (k%3) 0 (fun b3=>?_) fun b3=>?_
 ·obtain ⟨_,⟨aJ,av,an,bQ,rfl,ed,dE,ei,dc,dw⟩,cv⟩:=Y hM @A 4 depth pos [112]
  refine ch cv ?_
  exact Ag ⟨[7,0,0,0,aJ,av],[an],[bQ],[]⟩ (⟨_,_,_,_,_,_,_,_,rfl,fin,kn,kn,kn⟩)
 refine eq (k%2) 0 (fun bR=>?_) fun bR=>?_
 ·obtain ⟨_,⟨aK,aB,aj,bi,rfl,dt,dR,c7,c9,dH⟩,cg⟩:=Y hM @A 8 depth pos [97]
  refine ch cg ?_
  exact Ag ⟨[7,0,0,0,aK,aB],[aj],[bi],[]⟩ (⟨_,_,_,_,_,_,_,_,rfl,fin,kn,kn,kn⟩)
 refine AH (k%2) 1 ?_
 obtain ⟨_,⟨aR,aE,al,bv,rfl,dd,d0,dD,ej,dk⟩,ce⟩:=Y hM @A 8 depth pos [115]
 refine ch ce ?_
 exact Ag ⟨[7,0,0,0,aR,aE],[al],[bv],[]⟩ (⟨_,_,_,_,_,_,_,_,rfl,fin,kn,kn,kn⟩)
def Acj (I N:Nat):Prop:=∀{m:Nat} {Γ:Ctx} {f z:Int} {v count:Int} {left call loads:Int} {B V:Rs} (M:NP Γ f z v count left call loads B V) (L:IY I Γ f z v count left call loads B V m) (k depth pos:Int) (h:0<=k/\k<=60/\depth<=3/\¬depth<=1/\depth.toNat<=m/\0<=pos/\pos+G depth<=1000001:=by exact kn),Ok trees N ⟨[k,depth,z,pos,v,count,left,call,loads],[],[B,V],[]⟩ fun J=>(∃(C H q j:Int),∃(A:List Nat),∃(x:Rs),J=(0,(⟨[C,H,q,j],[A],[x],[]⟩:Aj))/\(CN Γ 2 depth C H 0 0 A x)/\(q=x.length)/\(pos<=j)/\(j+1<=pos+G depth))
theorem Adh {d aJ aa N8 ay:Nat} (hT:trees aJ=AbU d N8 aa ay) (h8:Tw N8) (a3:Yd aa ay):Acj aa aJ:=by
 intro m Γ f bl vl count left call R B V hM A k depth pos h
 have ⟨hB,hl,hvl,GN,hV,hb,hc,hd⟩:=hM;have cj:=GI depth;have cp:=KI depth om;have co:=GI (depth-1)
 refine .of (t:=AbU d N8 aa ay) hT ?_
 conv=>arg 3;delta AbU;conv=>arg 3;reduce
 conv=>arg 3;reduce
 refine lt (k%9) 6 (fun t1=>?_) fun t1=>?_
 ·obtain ⟨_,⟨N,I,P,C,x,aA,J,q,rfl,cd,b1,b2,ce⟩,G2⟩:=A 2 (depth-1) pos kn
  refine ch G2 ?_
  obtain ⟨_,⟨M,O,L,Q,z,v,H,j,rfl,b5,b3,b0,ci⟩,G3⟩:=A 2 (depth-1) aA kn
  refine ch G3 ?_
  refine eq (k%9) 0 (fun t4=>?_) fun t4=>?_
  ·refine ll x q ?_
   refine ll z j ?_
   refine dL [[.int .i64 N,.int .i64 I,.int .i64 P,.str J,.int .i32 C,.list 6 q],[.int .i64 M,.int .i64 O,.int .i64 L,.str H,.int .i32 Q,.list 6 j]] (fun W5 e5=>?_)
   have f5:=cL e5;try simp only [lA,lC,lN,lT']at f5
   refine ll 2 W5 ?_
   refine fr ?_
   exact Ag ⟨[5,10,2,v],[[]],[W5],[]⟩ (⟨_,_,_,_,_,_,rfl,fin,kn,kn,kn⟩)
  refine eq (k%9) 1 (fun t6=>?_) fun t6=>?_
  ·refine ll x q ?_
   refine ll z j ?_
   refine dL [[.int .i64 N,.int .i64 I,.int .i64 P,.str J,.int .i32 C,.list 6 q],[.int .i64 M,.int .i64 O,.int .i64 L,.str H,.int .i32 Q,.list 6 j]] (fun W7 e7=>?_)
   have f7:=cL e7;try simp only [lA,lC,lN,lT']at f7
   refine ll 2 W7 ?_
   refine fr ?_
   exact Ag ⟨[5,11,2,v],[[]],[W7],[]⟩ (⟨_,_,_,_,_,_,rfl,fin,kn,kn,kn⟩)
  refine eq (k%9) 2 (fun t8=>?_) fun t8=>?_
  ·refine ll x q ?_
   refine ll z j ?_
   refine dL [[.int .i64 N,.int .i64 I,.int .i64 P,.str J,.int .i32 C,.list 6 q],[.int .i64 M,.int .i64 O,.int .i64 L,.str H,.int .i32 Q,.list 6 j]] (fun W9 e9=>?_)
   have f9:=cL e9;try simp only [lA,lC,lN,lT']at f9
   refine ll 2 W9 ?_
   refine fr ?_
   exact Ag ⟨[5,15,2,v],[[]],[W9],[]⟩ (⟨_,_,_,_,_,_,rfl,fin,kn,kn,kn⟩)
  refine eq (k%9) 3 (fun ba=>?_) fun ba=>?_
  ·refine ll x q ?_
   refine ll z j ?_
   refine dL [[.int .i64 N,.int .i64 I,.int .i64 P,.str J,.int .i32 C,.list 6 q],[.int .i64 M,.int .i64 O,.int .i64 L,.str H,.int .i32 Q,.list 6 j]] (fun aD bo=>?_)
   have bh:=cL bo;try simp only [lA,lC,lN,lT']at bh
   refine ll 2 aD ?_
   refine fr ?_
   exact Ag ⟨[5,16,2,v],[[]],[aD],[]⟩ (⟨_,_,_,_,_,_,rfl,fin,kn,kn,kn⟩)
  refine eq (k%9) 4 (fun bb=>?_) fun bb=>?_
  ·refine ll x q ?_
   refine ll z j ?_
   refine dL [[.int .i64 N,.int .i64 I,.int .i64 P,.str J,.int .i32 C,.list 6 q],[.int .i64 M,.int .i64 O,.int .i64 L,.str H,.int .i32 Q,.list 6 j]] (fun aF a6=>?_)
   have bi:=cL a6;try simp only [lA,lC,lN,lT']at bi
   refine ll 2 aF ?_
   refine fr ?_
   exact Ag ⟨[5,22,2,v],[[]],[aF],[]⟩ (⟨_,_,_,_,_,_,rfl,fin,kn,kn,kn⟩)
  refine AH (k%9) 5 ?_
  refine ll x q ?_
  refine ll z j ?_
  refine dL [[.int .i64 N,.int .i64 I,.int .i64 P,.str J,.int .i32 C,.list 6 q],[.int .i64 M,.int .i64 O,.int .i64 L,.str H,.int .i32 Q,.list 6 j]] (fun aE a9=>?_)
  have bw:=cL a9;try simp only [lA,lC,lN,lT']at bw
  refine ll 2 aE ?_
  refine fr ?_
  exact Ag ⟨[5,23,2,v],[[]],[aE],[]⟩ (⟨_,_,_,_,_,_,rfl,fin,kn,kn,kn⟩)
 refine eq (k%9) 6 (fun a5=>?_) fun a5=>?_
 ·obtain ⟨_,⟨Kw,aP,aM,aL,aB,ag,aQ,an,rfl,bO,bN,bW,bS⟩,aZ⟩:=A 1 (depth-1) pos kn
  refine ch aZ ?_
  refine ll aB an ?_
  refine dL [[.int .i64 Kw,.int .i64 aP,.int .i64 aM,.str aQ,.int .i32 aL,.list 6 an]] (fun aK bz=>?_)
  have bg:=cL bz;try simp only [lA,lC,lN,lT']at bg
  refine ll 1 aK ?_
  refine fr ?_
  exact Ag ⟨[4,4,1,ag],[[]],[aK],[]⟩ (⟨_,_,_,_,_,_,rfl,fin,kn,kn,kn⟩)
 refine eq (k%9) 7 (fun bn=>?_) fun bn=>?_
 ·obtain ⟨_,⟨ak,af,rfl,bB,bA,bC⟩,bj⟩:=h8 hB hl pos vl count left call R V
  refine ch bj ?_
  obtain ⟨_,⟨aq,ax,aj,ap,ac,Z,au,U,rfl,bQ,bP,bR,bF⟩,a7⟩:=A 2 (depth-1) af kn
  refine ch a7 ?_
  refine eq (ak%2) 0 (fun bv=>?_) fun bv=>?_
  ·refine ll ac U ?_
   refine dL [[.int .i64 aq,.int .i64 ax,.int .i64 aj,.str au,.int .i32 ap,.list 6 U]] (fun aG aV=>?_)
   have a8:=cL aV;try simp only [lA,lC,lN,lT']at a8
   refine ll 1 aG ?_
   refine fr ?_
   exact Ag ⟨[4,1,1,Z],[[]],[aG],[]⟩ (⟨_,_,_,_,_,_,rfl,fin,kn,kn,kn⟩)
  refine AH (ak%2) 1 ?_
  refine ll ac U ?_
  refine dL [[.int .i64 aq,.int .i64 ax,.int .i64 aj,.str au,.int .i32 ap,.list 6 U]] (fun aH br=>?_)
  have bk:=cL br;try simp only [lA,lC,lN,lT']at bk
  refine ll 1 aH ?_
  refine fr ?_
  exact Ag ⟨[4,3,1,Z],[[]],[aH],[]⟩ (⟨_,_,_,_,_,_,rfl,fin,kn,kn,kn⟩)
 refine sn R 0 (fun aU=>?_) fun aU=>?_
 ·obtain ⟨_,⟨ao,al,rfl,bM,bG,bJ⟩,bm⟩:=h8 hB hl pos vl count left call 0 V
  refine ch bm ?_
  obtain ⟨_,⟨Abj,ae,ai,ah,ab,Y,aw,X,rfl,bU,bL,bD,bV⟩,a0⟩:=A 2 (depth-1) al kn
  refine ch a0 ?_
  refine eq (ao%2) 0 (fun be=>?_) fun be=>?_
  ·refine ll ab X ?_
   refine dL [[.int .i64 Abj,.int .i64 ae,.int .i64 ai,.str aw,.int .i32 ah,.list 6 X]] (fun aC bt=>?_)
   have aR:=cL bt;try simp only [lA,lC,lN,lT']at aR
   refine ll 1 aC ?_
   refine fr ?_
   exact Ag ⟨[4,1,1,Y],[[]],[aC],[]⟩ (⟨_,_,_,_,_,_,rfl,fin,kn,kn,kn⟩)
  refine AH (ao%2) 1 ?_
  refine ll ab X ?_
  refine dL [[.int .i64 Abj,.int .i64 ae,.int .i64 ai,.str aw,.int .i32 ah,.list 6 X]] (fun aI bc=>?_)
  have aX:=cL bc;try simp only [lA,lC,lN,lT']at aX
  refine ll 1 aI ?_
  refine fr ?_
  exact Ag ⟨[4,3,1,Y],[[]],[aI],[]⟩ (⟨_,_,_,_,_,_,rfl,fin,kn,kn,kn⟩)
 refine AL R 1 ?_
 obtain ⟨_,⟨az,av,ad,aN,rfl,bK,bI,bH,bE,bT⟩,bx⟩:=a3 hM @A 4 depth pos [102]
 refine ch bx ?_
 exact Ag ⟨[7,0,az,av],[ad],[aN],[]⟩ (⟨_,_,_,_,_,_,rfl,fin,kn,kn,kn⟩)
def Aci (I N:Nat):Prop:=∀{m:Nat} {Γ:Ctx} {f z:Int} {v count:Int} {left call loads:Int} {B V:Rs} (M:NP Γ f z v count left call loads B V) (L:IY I Γ f z v count left call loads B V m) (k depth pos:Int) (h:0<=k/\k<=60/\depth<=3/\¬depth<=1/\depth.toNat<=m/\0<=pos/\pos+G depth<=1000001:=by exact kn),Ok trees N ⟨[k,depth,z,pos,v,count,left,call,loads],[],[B,V],[]⟩ fun J=>(∃(C H q j:Int),∃(A:List Nat),∃(x:Rs),J=(0,(⟨[C,H,q,j],[A],[x],[]⟩:Aj))/\(CN Γ 3 depth C H 0 0 A x)/\(q=x.length)/\(pos<=j)/\(j+1<=pos+G depth))
theorem Akd {d aM an N8 az:Nat} (hT:trees aM=AbT d N8 an az) (h8:Tw N8) (bx:Yd an az):Aci an aM:=by
 intro m Γ f bl vl count left call I B V hM C k depth pos h
 have ⟨hB,hl,hvl,GN,hV,hb,hc,hd⟩:=hM;have cQ:=GI depth;have cS:=KI depth om;have cR:=GI (depth-1)
 refine .of (t:=AbT d N8 an az) hT ?_
 conv=>arg 3;delta AbT;conv=>arg 3;reduce
 conv=>arg 3;reduce
 refine lt (k%9) 4 (fun t1=>?_) fun t1=>?_
 ·obtain ⟨_,⟨aQ,aC,rfl,cJ,cw,cx⟩,G2⟩:=h8 hB hl pos vl count left call I V
  refine ch G2 ?_
  obtain ⟨_,⟨ae,aD,rfl,cB,cy,cu⟩,G3⟩:=h8 hB hl aC vl count left call I V
  refine ch G3 ?_
  obtain ⟨_,⟨al,ad,af,ai,M,aA,ag,v,rfl,cz,cF,cq,cv⟩,G4⟩:=C (1+(aQ%2)) (depth-1) aD kn
  refine ch G4 ?_
  obtain ⟨_,⟨ak,aj,ab,ac,L,A,ah,x,rfl,cK,cD,cP,cI⟩,G5⟩:=C (1+(aQ%2)) (depth-1) aA kn
  refine ch G5 ?_
  refine eq (ae%6) 0 (fun t6=>?_) fun t6=>?_
  ·refine ll M v ?_
   refine ll L x ?_
   refine dL [[.int .i64 al,.int .i64 ad,.int .i64 af,.str ag,.int .i32 ai,.list 6 v],[.int .i64 ak,.int .i64 aj,.int .i64 ab,.str ah,.int .i32 ac,.list 6 x]] (fun W7 e7=>?_)
   have f7:=cL e7;try simp only [lA,lC,lN,lT']at f7
   refine ll 2 W7 ?_
   refine fr ?_
   exact Ag ⟨[5,24,2,A],[[]],[W7],[]⟩ (⟨_,_,_,_,_,_,rfl,fin,kn,kn,kn⟩)
  refine eq (ae%6) 1 (fun t8=>?_) fun t8=>?_
  ·refine ll M v ?_
   refine ll L x ?_
   refine dL [[.int .i64 al,.int .i64 ad,.int .i64 af,.str ag,.int .i32 ai,.list 6 v],[.int .i64 ak,.int .i64 aj,.int .i64 ab,.str ah,.int .i32 ac,.list 6 x]] (fun W9 e9=>?_)
   have f9:=cL e9;try simp only [lA,lC,lN,lT']at f9
   refine ll 2 W9 ?_
   refine fr ?_
   exact Ag ⟨[5,25,2,A],[[]],[W9],[]⟩ (⟨_,_,_,_,_,_,rfl,fin,kn,kn,kn⟩)
  refine eq (ae%6) 2 (fun bE=>?_) fun bE=>?_
  ·refine ll M v ?_
   refine ll L x ?_
   refine dL [[.int .i64 al,.int .i64 ad,.int .i64 af,.str ag,.int .i32 ai,.list 6 v],[.int .i64 ak,.int .i64 aj,.int .i64 ab,.str ah,.int .i32 ac,.list 6 x]] (fun aK bP=>?_)
   have bL:=cL bP;try simp only [lA,lC,lN,lT']at bL
   refine ll 2 aK ?_
   refine fr ?_
   exact Ag ⟨[5,26,2,A],[[]],[aK],[]⟩ (⟨_,_,_,_,_,_,rfl,fin,kn,kn,kn⟩)
  refine eq (ae%6) 3 (fun bG=>?_) fun bG=>?_
  ·refine ll M v ?_
   refine ll L x ?_
   refine dL [[.int .i64 al,.int .i64 ad,.int .i64 af,.str ag,.int .i32 ai,.list 6 v],[.int .i64 ak,.int .i64 aj,.int .i64 ab,.str ah,.int .i32 ac,.list 6 x]] (fun aN bA=>?_)
   have bM:=cL bA;try simp only [lA,lC,lN,lT']at bM
   refine ll 2 aN ?_
   refine fr ?_
   exact Ag ⟨[5,27,2,A],[[]],[aN],[]⟩ (⟨_,_,_,_,_,_,rfl,fin,kn,kn,kn⟩)
  refine eq (ae%6) 4 (fun bw=>?_) fun bw=>?_
  ·refine ll M v ?_
   refine ll L x ?_
   refine dL [[.int .i64 al,.int .i64 ad,.int .i64 af,.str ag,.int .i32 ai,.list 6 v],[.int .i64 ak,.int .i64 aj,.int .i64 ab,.str ah,.int .i32 ac,.list 6 x]] (fun aG bj=>?_)
   have a8:=cL bj;try simp only [lA,lC,lN,lT']at a8
   refine ll 2 aG ?_
   refine fr ?_
   exact Ag ⟨[5,28,2,A],[[]],[aG],[]⟩ (⟨_,_,_,_,_,_,rfl,fin,kn,kn,kn⟩)
  refine AH (ae%6) 5 ?_
  refine ll M v ?_
  refine ll L x ?_
  refine dL [[.int .i64 al,.int .i64 ad,.int .i64 af,.str ag,.int .i32 ai,.list 6 v],[.int .i64 ak,.int .i64 aj,.int .i64 ab,.str ah,.int .i32 ac,.list 6 x]] (fun aR bv=>?_)
  have bN:=cL bv;try simp only [lA,lC,lN,lT']at bN
  refine ll 2 aR ?_
  refine fr ?_
  exact Ag ⟨[5,29,2,A],[[]],[aR],[]⟩ (⟨_,_,_,_,_,_,rfl,fin,kn,kn,kn⟩)
 refine lt (k%9) 6 (fun bQ=>?_) fun bQ=>?_
 ·obtain ⟨_,⟨Q,av,rfl,bW,bX,cf⟩,bF⟩:=h8 hB hl pos vl count left call I V
  refine ch bF ?_
  obtain ⟨_,⟨Ob,aa,R,X,H,ap,P,j,rfl,bY,bV,bZ,cd⟩,bO⟩:=C 3 (depth-1) av kn
  refine ch bO ?_
  obtain ⟨_,⟨U,Z,N,O,J,z,Y,q,rfl,b9,b8,cc,b3⟩,bB⟩:=C 3 (depth-1) ap kn
  refine ch bB ?_
  refine eq (Q%5) 0 (fun bS=>?_) fun bS=>?_
  ·refine ll H j ?_
   refine ll J q ?_
   refine dL [[.int .i64 Ob,.int .i64 aa,.int .i64 R,.str P,.int .i32 X,.list 6 j],[.int .i64 U,.int .i64 Z,.int .i64 N,.str Y,.int .i32 O,.list 6 q]] (fun aO ba=>?_)
   have bC:=cL ba;try simp only [lA,lC,lN,lT']at bC
   refine ll 2 aO ?_
   refine fr ?_
   exact Ag ⟨[5,17,2,z],[[]],[aO],[]⟩ (⟨_,_,_,_,_,_,rfl,fin,kn,kn,kn⟩)
  refine eq (Q%5) 1 (fun bU=>?_) fun bU=>?_
  ·refine ll H j ?_
   refine ll J q ?_
   refine dL [[.int .i64 Ob,.int .i64 aa,.int .i64 R,.str P,.int .i32 X,.list 6 j],[.int .i64 U,.int .i64 Z,.int .i64 N,.str Y,.int .i32 O,.list 6 q]] (fun aU bg=>?_)
   have bH:=cL bg;try simp only [lA,lC,lN,lT']at bH
   refine ll 2 aU ?_
   refine fr ?_
   exact Ag ⟨[5,18,2,z],[[]],[aU],[]⟩ (⟨_,_,_,_,_,_,rfl,fin,kn,kn,kn⟩)
  refine eq (Q%5) 2 (fun bD=>?_) fun bD=>?_
  ·refine ll H j ?_
   refine ll J q ?_
   refine dL [[.int .i64 Ob,.int .i64 aa,.int .i64 R,.str P,.int .i32 X,.list 6 j],[.int .i64 U,.int .i64 Z,.int .i64 N,.str Y,.int .i32 O,.list 6 q]] (fun aJ bt=>?_)
   have bT:=cL bt;try simp only [lA,lC,lN,lT']at bT
   refine ll 2 aJ ?_
   refine fr ?_
   exact Ag ⟨[5,19,2,z],[[]],[aJ],[]⟩ (⟨_,_,_,_,_,_,rfl,fin,kn,kn,kn⟩)
  refine eq (Q%5) 3 (fun bK=>?_) fun bK=>?_
  ·refine ll H j ?_
   refine ll J q ?_
   refine dL [[.int .i64 Ob,.int .i64 aa,.int .i64 R,.str P,.int .i32 X,.list 6 j],[.int .i64 U,.int .i64 Z,.int .i64 N,.str Y,.int .i32 O,.list 6 q]] (fun aI bR=>?_)
   have a9:=cL bR;try simp only [lA,lC,lN,lT']at a9
   refine ll 2 aI ?_
   refine fr ?_
   exact Ag ⟨[5,24,2,z],[[]],[aI],[]⟩ (⟨_,_,_,_,_,_,rfl,fin,kn,kn,kn⟩)
  refine AH (Q%5) 4 ?_
  refine ll H j ?_
  refine ll J q ?_
  refine dL [[.int .i64 Ob,.int .i64 aa,.int .i64 R,.str P,.int .i32 X,.list 6 j],[.int .i64 U,.int .i64 Z,.int .i64 N,.str Y,.int .i32 O,.list 6 q]] (fun aP bI=>?_)
  have be:=cL bI;try simp only [lA,lC,lN,lT']at be
  refine ll 2 aP ?_
  refine fr ?_
  exact Ag ⟨[5,25,2,z],[[]],[aP],[]⟩ (⟨_,_,_,_,_,_,rfl,fin,kn,kn,kn⟩)
 refine lt (k%9) 8 (fun bq=>?_) fun bq=>?_
 ·obtain ⟨_,⟨aV,a2,aW,aX,aE,ay,a0,aw,rfl,ci,cg,b0,b7⟩,bJ⟩:=C 3 (depth-1) pos kn
  refine ch bJ ?_
  refine ll aE aw ?_
  refine dL [[.int .i64 aV,.int .i64 a2,.int .i64 aW,.str a0,.int .i32 aX,.list 6 aw]] (fun aL bm=>?_)
  have bo:=cL bm;try simp only [lA,lC,lN,lT']at bo
  refine ll 1 aL ?_
  refine fr ?_
  exact Ag ⟨[4,2,1,ay],[[]],[aL],[]⟩ (⟨_,_,_,_,_,_,rfl,fin,kn,kn,kn⟩)
 refine sn I 0 (fun bi=>?_) fun bi=>?_
 ·obtain ⟨_,⟨Adg,aY,a5,a6,aB,au,a7,ax,rfl,co,cb,b6,ce⟩,bc⟩:=C 3 (depth-1) pos kn
  refine ch bc ?_
  refine ll aB ax ?_
  refine dL [[.int .i64 Adg,.int .i64 aY,.int .i64 a5,.str a7,.int .i32 a6,.list 6 ax]] (fun aH bh=>?_)
  have bz:=cL bh;try simp only [lA,lC,lN,lT']at bz
  refine ll 1 aH ?_
  refine fr ?_
  exact Ag ⟨[4,2,1,au],[[]],[aH],[]⟩ (⟨_,_,_,_,_,_,rfl,fin,kn,kn,kn⟩)
 refine AL I 1 ?_
 obtain ⟨_,⟨aF,aq,ao,aZ,rfl,b1,b2,b4,cj,b5⟩,bk⟩:=bx hM @C 4 depth pos [98]
 refine ch bk ?_
 exact Ag ⟨[7,0,aF,aq],[ao],[aZ],[]⟩ (⟨_,_,_,_,_,_,rfl,fin,kn,kn,kn⟩)
theorem AnA {d q N8 L A H C:Nat} (hT:trees q=XX d N8 q L A H C) (h8:Tw N8) (aa:Ye L) (ba:Ack q A) (a2:Acj q H) (a1:Aci q C) {Γ:Ctx} {f bl:Int} {vl count:Int} {left call loads:Int} {B V:Rs} (x:NP Γ f bl vl count left call loads B V) (n:Nat):IY q Γ f bl vl count left call loads B V n:=by
 induction n with
 |zero=>intro t depth pos h;exact absurd h.2.2.2.2.2 (Nat.not_lt_zero _)
 |succ n ih=>
 intro t depth pos h
 have ⟨hB,hl,hvl,GN,hV,hb,hc,hd⟩:=x;have b4:=GI depth;have b6:=KI depth om;have b5:=GI (depth-1)
 refine .of (t:=XX d N8 q L A H C) hT ?_
 conv=>arg 3;delta XX;conv=>arg 3;reduce
 conv=>arg 3;reduce
 obtain ⟨_,⟨v,j,rfl,bz,bF,bT⟩,G1⟩:=h8 hB hl pos vl count left call loads V
 refine ch G1 ?_
 refine le depth 1 (fun t2=>?_) fun t2=>?_
 ·obtain ⟨_,⟨a5,aN,aG,bc,an,U,aD,aY,rfl,bJ,bD,bS,bO⟩,G3⟩:=aa x t j
  refine ch G3 ?_
  exact Ag ⟨[a5,aN,aG,bc,an,U],[aD],[aY],[]⟩ (⟨_,_,_,_,_,_,_,_,rfl,fin,kn,kn,kn⟩)
 refine eq (v%5) 0 (fun t4=>?_) fun t4=>?_
 ·obtain ⟨_,⟨aL,aK,aA,aB,ad,P,aE,a7,rfl,b3,bY,bN,b1⟩,G5⟩:=aa x t j
  refine ch G5 ?_
  exact Ag ⟨[aL,aK,aA,aB,ad,P],[aE],[a7],[]⟩ (⟨_,_,_,_,_,_,_,_,rfl,fin,kn,kn,kn⟩)
 refine eq (v%5) 1 (fun t6=>?_) fun t6=>?_
 ·obtain ⟨_,⟨aM,bb,a3,aR,al,Q,aW,Y,rfl,bW,bw,bV,bQ⟩,G7⟩:=ih 3 (depth-1) j kn
  refine ch G7 ?_
  obtain ⟨_,⟨X8,aV,a4,aF,au,R,a8,ac,rfl,bX,bA,bM,bK⟩,G8⟩:=ih t (depth-1) Q kn
  refine ch G8 ?_
  obtain ⟨_,⟨aQ,aO,aU,aH,af,N,aZ,ab,rfl,bL,bE,bC,b2⟩,G9⟩:=ih t (depth-1) R kn
  refine ch G9 ?_
  refine ll al Y ?_
  refine ll au ac ?_
  refine ll af ab ?_
  refine dL [[.int .i64 aM,.int .i64 bb,.int .i64 a3,.str aW,.int .i32 aR,.list 6 Y],[.int .i64 X8,.int .i64 aV,.int .i64 a4,.str a8,.int .i32 aF,.list 6 ac],[.int .i64 aQ,.int .i64 aO,.int .i64 aU,.str aZ,.int .i32 aH,.list 6 ab]] (fun Z aC=>?_)
  have a6:=cL aC;try simp only [lA,lC,lN,lT']at a6
  refine ll 3 Z ?_
  refine fr ?_
  exact Ag ⟨[6,0,0,0,3,N],[[]],[Z],[]⟩ (⟨_,_,_,_,_,_,_,_,rfl,fin,kn,kn,kn⟩)
 refine eq t 1 (fun aX=>?_) fun aX=>?_
 ·obtain ⟨_,⟨U9,ah,ag,aq,X,z,ap,aw,rfl,be,bt,bg,bk⟩,aI⟩:=ba x @ih (v/5) depth j
  refine ch aI ?_
  exact Ag ⟨[U9,ah,ag,aq,X,z],[ap],[aw],[]⟩ (⟨_,_,_,_,_,_,_,_,rfl,fin,kn,kn,kn⟩)
 refine eq t 2 (fun aJ=>?_) fun aJ=>?_
 ·obtain ⟨_,⟨ak,aj,M,J,ai,ax,rfl,bq,br,bo,bm⟩,a9⟩:=a2 x @ih (v/5) depth j
  refine ch a9 ?_
  exact Ag ⟨[ak,aj,0,0,M,J],[ai],[ax],[]⟩ (⟨_,_,_,_,_,_,_,_,rfl,fin,kn,kn,kn⟩)
 obtain ⟨_,⟨Adj,ae,O,I,ao,az,rfl,bi,bn,bj,bh⟩,aP⟩:=a1 x @ih (v/5) depth j
 refine ch aP ?_
 exact Ag ⟨[Adj,ae,0,0,O,I],[ao],[az],[]⟩ (⟨_,_,_,_,_,_,_,_,rfl,fin,kn,kn,kn⟩)
theorem Kw {d j A z v q x:Nat} (L:trees j=XX d A j z v q x) (M:Tw A) (C:Ye z) (H:Ack j v) (J:Acj j q) (I:Aci j x):RD j:=fun {Γ} {f} {bl} {vl} {count} {left} {call} {loads} {B} {V} hM t depth pos h=>AnA L @M @C @H @J @I hM (depth.toNat+1) t depth pos ⟨h.1,h.2.1,h.2.2.1,h.2.2.2.1,h.2.2.2.2,Nat.lt_succ_self _⟩
def Apz (N:Nat) (Γ:Ctx) (f A:Int) (x count:Int) (left call loads:Int) (B V:Rs) (n:Nat):Prop:=∀(t ln:Int) (j pos:Int) (L:Rs) (C:HL Γ t L) (h:0<=j/\j<=x/\ln=L.length/\L.length<=j/\0<ln/\(x-j).toNat<n),Ok trees N ⟨[t,ln,j,A,pos,x,count,left,call,loads],[],[B,L,V],[]⟩ fun z=>(z=(0,v0))∨(∃(q:Int),∃(v:Rs),z=(1,(⟨[q],[],[v],[]⟩:Aj))/\(HL Γ t v)/\(q=v.length)/\(v.length<=40)/\(0<q))
def Ape (N:Nat):Prop:=∀{Γ:Ctx} {f A:Int} {x count:Int} {left call loads:Int} {B V:Rs} (C:NP Γ f A x count left call loads B V) (t ln:Int) (j pos:Int) (L:Rs) (H:HL Γ t L) (h:0<=j/\j<=x/\ln=L.length/\L.length<=j/\0<ln:=by exact kn),Ok trees N ⟨[t,ln,j,A,pos,x,count,left,call,loads],[],[B,L,V],[]⟩ fun z=>(z=(0,v0))∨(∃(q:Int),∃(v:Rs),z=(1,(⟨[q],[],[v],[]⟩:Aj))/\(HL Γ t v)/\(q=v.length)/\(v.length<=40)/\(0<q))
theorem Xr {Γ:Ctx} {f N:Int} {J count:Int} {left call loads:Int} {B V:Rs} (hM:NP Γ f N J count left call loads B V) (n:Nat):Apz 40 Γ f N J count left call loads B V n:=by
 induction n with
 |zero=>intro t ln j pos L hL h;exact absurd h.2.2.2.2.2 (Nat.not_lt_zero _)
 |succ n ih=>
 intro t ln j pos L hL h
 have ⟨hB,hl,hvl,GN,hV,hb,hc,hd⟩:=hM
 refine .of (t:=Afh) rfl ?_
 conv=>arg 3;reduce
 refine lt j J (fun t1=>?_) fun t1=>?_
 ·refine CO j 0 ?_
  obtain ⟨A,t_1,M,ae,ai,ah,aa⟩:=hV j om om
  refine el M ?_
  refine eq t_1 t (fun t3=>?_) fun t3=>?_
  ·refine dL (L++[[PV.str A]]) (fun q e4=>?_) (Bq (pw ln L) pe)
   have f4:=cL e4;try simp only [lA,lC,lN,lT']at f4
   refine Er (q.length:Int) 1048576 ?_
   obtain ⟨_,(rfl|⟨v,I,rfl,P,O,Y,X⟩),C⟩:=ih t (q.length:Int) (j+1) pos q (by exact fin) kn
   ·refine ch C ?_
    exact Ag ⟨[(q.length:Int)],[],[q],[]⟩ (.inr ((⟨_,_,rfl,fin,kn,kn,kn⟩)))
   refine cm C ?_
   refine ch C ?_
   exact Ag ⟨[v],[],[I],[]⟩ (.inr ((⟨_,_,rfl,fin,kn,kn,kn⟩)))
  obtain ⟨_,(rfl|⟨x,z,rfl,U,Z,R,Q⟩),H⟩:=ih t ln (j+1) pos L (by exact fin) kn
  ·refine ch H ?_
   exact Ag v0 (.inl rfl)
  refine cm H ?_
  refine ch H ?_
  exact Ag ⟨[x],[],[z],[]⟩ (.inr ((⟨_,_,rfl,fin,kn,kn,kn⟩)))
 exact Ag v0 (.inl rfl)
theorem Aoo:Ape 40:=fun {Γ} {f} {bl} {vl} {count} {left} {call} {loads} {B} {V} hM t ln j pos L hL h=>Xr hM ((vl-j).toNat+1) t ln j pos L hL ⟨h.1,h.2.1,h.2.2.1,h.2.2.2.1,h.2.2.2.2,Nat.lt_succ_self _⟩
theorem An9 {Γ:Ctx} {f N:Int} {J count:Int} {left call loads:Int} {B V:Rs} (M:NP Γ f N J count left call loads B V) (n:Nat):AmH 38 Γ f N J count left call loads B V n:=by
 induction n with
 |zero=>intro t j pos h;exact absurd h.2.2 (Nat.not_lt_zero _)
 |succ n ih=>
 intro t j pos h
 have ⟨hB,hl,hvl,GN,hV,hb,hc,hd⟩:=M
 refine .of (t:=Afj) rfl ?_
 conv=>arg 3;reduce
 refine lt j J (fun t1=>?_) fun t1=>?_
 ·refine CO j 0 ?_
  obtain ⟨z,t_1,L,ac,ag,af,aa⟩:=hV j om om
  refine el L ?_
  refine eq t_1 t (fun t3=>?_) fun t3=>?_
  ·refine dL [[.str z]] (fun I e4=>?_)
   have f4:=cL e4;try simp only [lA,lC,lN,lT']at f4
   refine ll 1 I ?_
   obtain ⟨_,(rfl|⟨q,H,rfl,P,O,Y,X⟩),A⟩:=Aoo M t 1 (j+1) pos I (by exact fin)
   ·refine ch A ?_
    exact Ag ⟨[1],[],[I],[]⟩ (.inr ((⟨_,_,rfl,fin,kn,kn,kn⟩)))
   refine cm A ?_
   refine ch A ?_
   exact Ag ⟨[q],[],[H],[]⟩ (.inr ((⟨_,_,rfl,fin,kn,kn,kn⟩)))
  obtain ⟨_,(rfl|⟨v,x,rfl,U,Z,R,Q⟩),C⟩:=ih t (j+1) pos kn
  ·refine ch C ?_
   exact Ag v0 (.inl rfl)
  refine cm C ?_
  refine ch C ?_
  exact Ag ⟨[v],[],[x],[]⟩ (.inr ((⟨_,_,rfl,fin,kn,kn,kn⟩)))
 exact Ag v0 (.inl rfl)
theorem Aoq:Ah2 38:=fun {Γ} {f} {bl} {vl} {count} {left} {call} {loads} {B} {V} hM t j pos h=>An9 hM ((vl-j).toNat+1) t j pos ⟨h.1,h.2,Nat.lt_succ_self _⟩
def Apy (N:Nat) (Γ:Ctx) (f A:Int) (x count:Int) (left call loads:Int) (B V:Rs) (n:Nat):Prop:=∀(t ln:Int) (j pos:Int) (L:Rs) (C:HL Γ t L) (h:0<=j/\j<=x/\ln=L.length/\L.length<=j/\0<ln/\(x-j).toNat<n),Ok trees N ⟨[t,ln,j,A,pos,x,count,left,call,loads],[],[B,V,L],[]⟩ fun z=>(z=(0,v0))∨(∃(q:Int),∃(v:Rs),z=(1,(⟨[q],[],[v],[]⟩:Aj))/\(HL Γ t v)/\(q=v.length)/\(v.length<=40)/\(0<q))
def Apd (N:Nat):Prop:=∀{Γ:Ctx} {f A:Int} {x count:Int} {left call loads:Int} {B V:Rs} (C:NP Γ f A x count left call loads B V) (t ln:Int) (j pos:Int) (L:Rs) (H:HL Γ t L) (h:0<=j/\j<=x/\ln=L.length/\L.length<=j/\0<ln:=by exact kn),Ok trees N ⟨[t,ln,j,A,pos,x,count,left,call,loads],[],[B,V,L],[]⟩ fun z=>(z=(0,v0))∨(∃(q:Int),∃(v:Rs),z=(1,(⟨[q],[],[v],[]⟩:Aj))/\(HL Γ t v)/\(q=v.length)/\(v.length<=40)/\(0<q))
theorem An7 {Γ:Ctx} {f N:Int} {J count:Int} {left call loads:Int} {B V:Rs} (hM:NP Γ f N J count left call loads B V) (n:Nat):Apy 41 Γ f N J count left call loads B V n:=by
 induction n with
 |zero=>intro t ln j pos L hL h;exact absurd h.2.2.2.2.2 (Nat.not_lt_zero _)
 |succ n ih=>
 intro t ln j pos L hL h
 have ⟨hB,hl,hvl,GN,hV,hb,hc,hd⟩:=hM
 refine .of (t:=Afg) rfl ?_
 conv=>arg 3;reduce
 refine lt j J (fun t1=>?_) fun t1=>?_
 ·refine CO j 0 ?_
  obtain ⟨A,t_1,M,ae,ai,ah,aa⟩:=hV j om om
  refine el M ?_
  refine eq t_1 t (fun t3=>?_) fun t3=>?_
  ·refine dL (L++[[PV.str A]]) (fun q e4=>?_) (Bq (pw ln L) pe)
   have f4:=cL e4;try simp only [lA,lC,lN,lT']at f4
   refine Er (q.length:Int) 1048576 ?_
   obtain ⟨_,(rfl|⟨v,I,rfl,P,O,Y,X⟩),C⟩:=ih t (q.length:Int) (j+1) pos q (by exact fin) kn
   ·refine ch C ?_
    exact Ag ⟨[(q.length:Int)],[],[q],[]⟩ (.inr ((⟨_,_,rfl,fin,kn,kn,kn⟩)))
   refine cm C ?_
   refine ch C ?_
   exact Ag ⟨[v],[],[I],[]⟩ (.inr ((⟨_,_,rfl,fin,kn,kn,kn⟩)))
  obtain ⟨_,(rfl|⟨x,z,rfl,U,Z,R,Q⟩),H⟩:=ih t ln (j+1) pos L (by exact fin) kn
  ·refine ch H ?_
   exact Ag v0 (.inl rfl)
  refine cm H ?_
  refine ch H ?_
  exact Ag ⟨[x],[],[z],[]⟩ (.inr ((⟨_,_,rfl,fin,kn,kn,kn⟩)))
 exact Ag v0 (.inl rfl)
theorem Aon:Apd 41:=fun {Γ} {f} {bl} {vl} {count} {left} {call} {loads} {B} {V} hM t ln j pos L hL h=>An7 hM ((vl-j).toNat+1) t ln j pos L hL ⟨h.1,h.2.1,h.2.2.1,h.2.2.2.1,h.2.2.2.2,Nat.lt_succ_self _⟩
theorem An8 {Γ:Ctx} {f N:Int} {J count:Int} {left call loads:Int} {B V:Rs} (M:NP Γ f N J count left call loads B V) (n:Nat):AmH 39 Γ f N J count left call loads B V n:=by
 induction n with
 |zero=>intro t j pos h;exact absurd h.2.2 (Nat.not_lt_zero _)
 |succ n ih=>
 intro t j pos h
 have ⟨hB,hl,hvl,GN,hV,hb,hc,hd⟩:=M
 refine .of (t:=Afi) rfl ?_
 conv=>arg 3;reduce
 refine lt j J (fun t1=>?_) fun t1=>?_
 ·refine CO j 0 ?_
  obtain ⟨z,t_1,L,ac,ag,af,aa⟩:=hV j om om
  refine el L ?_
  refine eq t_1 t (fun t3=>?_) fun t3=>?_
  ·refine dL [[.str z]] (fun I e4=>?_)
   have f4:=cL e4;try simp only [lA,lC,lN,lT']at f4
   refine ll 1 I ?_
   obtain ⟨_,(rfl|⟨q,H,rfl,P,O,Y,X⟩),A⟩:=Aon M t 1 (j+1) pos I (by exact fin)
   ·refine ch A ?_
    exact Ag ⟨[1],[],[I],[]⟩ (.inr ((⟨_,_,rfl,fin,kn,kn,kn⟩)))
   refine cm A ?_
   refine ch A ?_
   exact Ag ⟨[q],[],[H],[]⟩ (.inr ((⟨_,_,rfl,fin,kn,kn,kn⟩)))
  obtain ⟨_,(rfl|⟨v,x,rfl,U,Z,R,Q⟩),C⟩:=ih t (j+1) pos kn
  ·refine ch C ?_
   exact Ag v0 (.inl rfl)
  refine cm C ?_
  refine ch C ?_
  exact Ag ⟨[v],[],[x],[]⟩ (.inr ((⟨_,_,rfl,fin,kn,kn,kn⟩)))
 exact Ag v0 (.inl rfl)
theorem Aop:Ah2 39:=fun {Γ} {f} {bl} {vl} {count} {left} {call} {loads} {B} {V} hM t j pos h=>An8 hM ((vl-j).toNat+1) t j pos ⟨h.1,h.2,Nat.lt_succ_self _⟩
theorem Aos:Ad7 34:=@Adg 1 34 8 38 rfl @Ln @Aoq
theorem Aor:Ad7 36:=@Adg 0 36 9 39 rfl @XS @Aop
theorem AkG:Ye 26:=@Abj 1 26 8 34 rfl @Ln @Aos
theorem AkF:Ye 30:=@Abj 0 30 9 36 rfl @XS @Aor
theorem Ahn:V3 16 19:=@Ob 1 19 16 rfl
theorem Ahl:V3 22 25:=@Ob 0 25 22 rfl
theorem Ahk:Yd 16 35:=@Akc 1 35 16 19 rfl @Ahn
theorem Ahj:Yd 22 37:=@Akc 0 37 22 25 rfl @Ahl
theorem Aoy:Ack 16 27:=@Ake 1 27 16 8 26 35 rfl @Ln @AkG @Ahk
theorem Aov:Ack 22 31:=@Ake 0 31 22 9 30 37 rfl @XS @AkF @Ahj
theorem Aox:Acj 16 28:=@Adh 1 28 16 8 35 rfl @Ln @Ahk
theorem Aou:Acj 22 32:=@Adh 0 32 22 9 37 rfl @XS @Ahj
theorem Aow:Aci 16 29:=@Akd 1 29 16 8 35 rfl @Ln @Ahk
theorem Aot:Aci 22 33:=@Akd 0 33 22 9 37 rfl @XS @Ahj
theorem IS:RD 16:=@Kw 1 16 8 26 27 28 29 rfl @Ln @AkG @Aoy @Aox @Aow
theorem Vq:RD 22:=@Kw 0 22 9 30 31 32 33 rfl @XS @AkF @Aov @Aou @Aot
def AoT (N:Nat):Prop:=∀(n:Int) (h:0<=n/\n<24:=by exact kn),Ok trees N ⟨[n],[],[],[]⟩ fun q=>(∃(j:List Nat),q=(0,(⟨[],[j],[],[]⟩:Aj))/\([118]++j=vn n.toNat)/\(j.length<=2))
theorem Ak9:AoT 60:=by
 intro n h
 refine .of (t:=AeU) rfl ?_
 conv=>arg 3;reduce
 refine sn n 0 (fun t1=>?_) fun t1=>?_
 ·exact Ag ⟨[],[[48]],[],[]⟩ (⟨_,rfl,(by first|(subst_vars;rfl) |(rw [show n=23 by omega];rfl)),(by simp)⟩)
 refine sn n 1 (fun Q=>?_) fun Q=>?_
 ·exact Ag ⟨[],[[49]],[],[]⟩ (⟨_,rfl,(by first|(subst_vars;rfl) |(rw [show n=23 by omega];rfl)),(by simp)⟩)
 refine sn n 2 (fun R=>?_) fun R=>?_
 ·exact Ag ⟨[],[[50]],[],[]⟩ (⟨_,rfl,(by first|(subst_vars;rfl) |(rw [show n=23 by omega];rfl)),(by simp)⟩)
 refine sn n 3 (fun O=>?_) fun O=>?_
 ·exact Ag ⟨[],[[51]],[],[]⟩ (⟨_,rfl,(by first|(subst_vars;rfl) |(rw [show n=23 by omega];rfl)),(by simp)⟩)
 refine sn n 4 (fun V=>?_) fun V=>?_
 ·exact Ag ⟨[],[[52]],[],[]⟩ (⟨_,rfl,(by first|(subst_vars;rfl) |(rw [show n=23 by omega];rfl)),(by simp)⟩)
 refine sn n 5 (fun U=>?_) fun U=>?_
 ·exact Ag ⟨[],[[53]],[],[]⟩ (⟨_,rfl,(by first|(subst_vars;rfl) |(rw [show n=23 by omega];rfl)),(by simp)⟩)
 refine sn n 6 (fun X=>?_) fun X=>?_
 ·exact Ag ⟨[],[[54]],[],[]⟩ (⟨_,rfl,(by first|(subst_vars;rfl) |(rw [show n=23 by omega];rfl)),(by simp)⟩)
 refine sn n 7 (fun Y=>?_) fun Y=>?_
 ·exact Ag ⟨[],[[55]],[],[]⟩ (⟨_,rfl,(by first|(subst_vars;rfl) |(rw [show n=23 by omega];rfl)),(by simp)⟩)
 refine sn n 8 (fun P=>?_) fun P=>?_
 ·exact Ag ⟨[],[[56]],[],[]⟩ (⟨_,rfl,(by first|(subst_vars;rfl) |(rw [show n=23 by omega];rfl)),(by simp)⟩)
 refine sn n 9 (fun q=>?_) fun q=>?_
 ·exact Ag ⟨[],[[57]],[],[]⟩ (⟨_,rfl,(by first|(subst_vars;rfl) |(rw [show n=23 by omega];rfl)),(by simp)⟩)
 refine sn n 10 (fun I=>?_) fun I=>?_
 ·exact Ag ⟨[],[[49,48]],[],[]⟩ (⟨_,rfl,(by first|(subst_vars;rfl) |(rw [show n=23 by omega];rfl)),(by simp)⟩)
 refine sn n 11 (fun x=>?_) fun x=>?_
 ·exact Ag ⟨[],[[49,49]],[],[]⟩ (⟨_,rfl,(by first|(subst_vars;rfl) |(rw [show n=23 by omega];rfl)),(by simp)⟩)
 refine sn n 12 (fun C=>?_) fun C=>?_
 ·exact Ag ⟨[],[[49,50]],[],[]⟩ (⟨_,rfl,(by first|(subst_vars;rfl) |(rw [show n=23 by omega];rfl)),(by simp)⟩)
 refine sn n 13 (fun L=>?_) fun L=>?_
 ·exact Ag ⟨[],[[49,51]],[],[]⟩ (⟨_,rfl,(by first|(subst_vars;rfl) |(rw [show n=23 by omega];rfl)),(by simp)⟩)
 refine sn n 14 (fun M=>?_) fun M=>?_
 ·exact Ag ⟨[],[[49,52]],[],[]⟩ (⟨_,rfl,(by first|(subst_vars;rfl) |(rw [show n=23 by omega];rfl)),(by simp)⟩)
 refine sn n 15 (fun z=>?_) fun z=>?_
 ·exact Ag ⟨[],[[49,53]],[],[]⟩ (⟨_,rfl,(by first|(subst_vars;rfl) |(rw [show n=23 by omega];rfl)),(by simp)⟩)
 refine sn n 16 (fun B=>?_) fun B=>?_
 ·exact Ag ⟨[],[[49,54]],[],[]⟩ (⟨_,rfl,(by first|(subst_vars;rfl) |(rw [show n=23 by omega];rfl)),(by simp)⟩)
 refine sn n 17 (fun v=>?_) fun v=>?_
 ·exact Ag ⟨[],[[49,55]],[],[]⟩ (⟨_,rfl,(by first|(subst_vars;rfl) |(rw [show n=23 by omega];rfl)),(by simp)⟩)
 refine sn n 18 (fun j=>?_) fun j=>?_
 ·exact Ag ⟨[],[[49,56]],[],[]⟩ (⟨_,rfl,(by first|(subst_vars;rfl) |(rw [show n=23 by omega];rfl)),(by simp)⟩)
 refine sn n 19 (fun A=>?_) fun A=>?_
 ·exact Ag ⟨[],[[49,57]],[],[]⟩ (⟨_,rfl,(by first|(subst_vars;rfl) |(rw [show n=23 by omega];rfl)),(by simp)⟩)
 refine sn n 20 (fun H=>?_) fun H=>?_
 ·exact Ag ⟨[],[[50,48]],[],[]⟩ (⟨_,rfl,(by first|(subst_vars;rfl) |(rw [show n=23 by omega];rfl)),(by simp)⟩)
 refine sn n 21 (fun N=>?_) fun N=>?_
 ·exact Ag ⟨[],[[50,49]],[],[]⟩ (⟨_,rfl,(by first|(subst_vars;rfl) |(rw [show n=23 by omega];rfl)),(by simp)⟩)
 refine sn n 22 (fun J=>?_) fun J=>?_
 ·exact Ag ⟨[],[[50,50]],[],[]⟩ (⟨_,rfl,(by first|(subst_vars;rfl) |(rw [show n=23 by omega];rfl)),(by simp)⟩)
 refine AL n 23 ?_
 exact Ag ⟨[],[[50,51]],[],[]⟩ (⟨_,rfl,(by first|(subst_vars;rfl) |(rw [show n=23 by omega];rfl)),(by simp)⟩)
def Yf (E:Bool) (N:Nat):Prop:=∀{Γ:Ctx} {f K M:Int} (lo pu:Int) (D I:Int) (pos z:Int) (count left:Int) (call q:Int) (B V:Rs) (X:MS E Γ f K M I pos z count left call q B V) (h:1<=D/\count+left+1<=K/\pos+300*left+200<=M:=by exact kn),Ok trees N ⟨[I,pos,z,count,left,call,q],[],[B,V],[]⟩ fun U=>(∃(Q:Ctx),∃(t' L O P w' A v x j:Int),∃(R J:List Nat),∃(C H:Rs),U=(0,(⟨[t',L,O,P,w',A,0,0,0,v,x,j],[R,J],[C,[],[],[],H],[]⟩:Aj))/\(MS false Q f K M I v x j left call q B H)/\(DU lo pu D Γ Q (left+1) left (AT 1 0 t' 0 R L O P J w' C 0 0 0 [] 0 [] [] []))/\(Ext z V H)/\(count<=j)/\(z<=x)/\(v<=pos+100)/\(A=C.length))
def Acn (E:Bool) (N:Nat):Prop:=∀{Γ:Ctx} {K M:Int} (lo pu:Int) (D f:Int) (O pos:Int) (z count:Int) (left call loads:Int) (B V:Rs) (U:MS E Γ f K M O pos z count left call loads B V) (h:1<=D/\count+left+1<=K/\pos+300*left+200<=M:=by exact kn),Ok trees N ⟨[f,O,pos,z,count,left,call,loads],[],[B,V],[]⟩ fun Q=>(∃(C H J w' v j:Int),∃(L A:List Nat),∃(x:Rs),Q=(0,(⟨[C,H,J,w',v,0,0,0,j],[L,A],[x,[],[],[]],[]⟩:Aj))/\(MS E Γ f K M O j z count left call loads B V)/\(DU lo pu D Γ Γ (left+1) left (AT 2 0 0 0 L C H J A w' x 0 0 0 [] 0 [] [] []))/\(j<=pos+100)/\(v=x.length))∨(∃(R:Ctx),∃(t' C H J w' v j I q:Int),∃(L A:List Nat),∃(x P:Rs),Q=(1,(⟨[t',C,H,J,w',v,0,0,0,j,I,q],[L,A],[x,[],[],[],P],[]⟩:Aj))/\(MS false R f K M O j I q left call loads B P)/\(DU lo pu D Γ R (left+1) left (AT 1 0 t' 0 L C H J A w' x 0 0 0 [] 0 [] [] []))/\(Ext z V P)/\(count<=q)/\(z<=I)/\(j<=pos+100)/\(v=x.length))
theorem Adj {E:Bool} {d L O z A:Nat} (hT:trees L=Aca d O z A) (h8:Tw O) (ap:Yf E z) (aa:RD A):Acn E L:=by
 intro Γ K M lo pu D f bl pos j count left call v B V J h
 have ⟨hm,a5,a1,a9,a7,ba,a6,be,a8,a2,bb⟩:=J;have ⟨hB,hl,hvl,GN,hV,hb,hc,hd⟩:=hm;have bg:G 3=40:=rfl;have a4:G 2=12:=rfl;have a3:G (3-1)=12:=rfl
 refine .of (t:=Aca d O z A) hT ?_
 conv=>arg 3;delta Aca;conv=>arg 3;reduce
 conv=>arg 3;reduce
 refine le j f (fun t1=>?_) fun t1=>?_
 ·obtain ⟨_,⟨ab,t_2,ac,an,al,ao,N,C,Q,x,au,aq,ah,ad,rfl,U,aP,aQ,aO,aB,ax,aA⟩,G2⟩:=ap lo pu D bl pos j count left call v B V (MS.mv J)
  refine ch G2 ?_
  have ⟨_,_,aU,aE,a0,aI,aD,aX,_,_,_⟩:=U
  exact Ag ⟨[t_2,ac,an,al,ao,N,0,0,0,C,Q,x],[au,aq],[ah,[],[],[],ad],[]⟩ (.inr ((⟨ab,_,_,_,_,_,_,_,_,_,_,_,_,_,rfl,asm,A5,A5,kn,kn,kn,kn⟩)))
 obtain ⟨_,⟨q,I,rfl,ay,aV,aG⟩,G3⟩:=h8 hB hl pos j count left call v V
 refine ch G3 ?_
 refine Az (j-f) 0 ?_
 have m4:=Int.emod_nonneg q (show (j-f)≠0 by omega);have bc:=Int.emod_lt_of_pos q (show 0<(j-f) by omega)
 refine CO (f+(q%(j-f))) 0 ?_
 refine B8 (f+(q%(j-f))) j ?_
 obtain ⟨X,Xf,R,Y,Z,aM,aJ⟩:=hV (f+(q%(j-f))) om om
 refine el R ?_
 have aR:=Z om;obtain ⟨_,_,_,aW⟩:=Y
 obtain ⟨_,⟨ak,af,aj,ag,P,H,ai,ae,rfl,aw,aY,aN,aK⟩,G6⟩:=aa (J.Fc count left) Xf 3 I
 refine ch G6 ?_
 refine de [] ?_
 refine ll 0 [] ?_
 exact Ag ⟨[ak,af,aj,ag,P,0,0,0,H],[X,ai],[ae,[],[],[]],[]⟩ (.inl (⟨_,_,_,_,_,_,_,_,_,rfl,(MS.mv J),A5,kn,kn⟩))
def Acm (E:Bool) (N:Nat):Prop:=∀{Γ:Ctx} {f K M:Int} (lo pu:Int) (D H:Int) (pos z:Int) (count left:Int) (call j:Int) (B V:Rs) (U:MS E Γ f K M H pos z count left call j B V) (h:1<=D/\pos+300*left+200<=M/\pu=0:=by exact kn),Ok trees N ⟨[H,pos,z,count,left,call,j],[],[B,V],[]⟩ fun R=>(∃(v J O L Q x q:Int),∃(P I:List Nat),∃(A C:Rs),R=(0,(⟨[v,J,O,L,Q,x,0,0,q],[P,I],[A,C,[],[]],[]⟩:Aj))/\(MS E Γ f K M H q z count left call j B V)/\(DU lo pu D Γ Γ (left+1) left (AT 3 0 0 0 P 5 17 0 [] 0 A J O L I Q C [] []))/\(q<=pos+100)/\(v=A.length)/\(x=C.length))
theorem Akf {E:Bool} {d ah N8 A O:Nat} (hT:trees ah=AbZ d N8 A O) (h8:Tw N8) (q:RD A) (x:V3 A O):Acm E ah:=by
 intro Γ f K M lo pu D bl pos vl count left call R B V j h
 have ⟨hm,cG,cx,cA,cy,cI,cH,cB,cz,cD,cJ⟩:=j;have ⟨hB,hl,hvl,GN,hV,hb,hc,hd⟩:=hm;have cC:G 3=40:=rfl;have cF:G 2=12:=rfl;have cE:G (3-1)=12:=rfl
 refine .of (t:=AbZ d N8 A O) hT ?_
 conv=>arg 3;delta AbZ;conv=>arg 3;reduce
 conv=>arg 3;reduce
 obtain ⟨_,⟨z,v,rfl,bW,b9,b8⟩,G1⟩:=h8 hB hl pos vl count left call R V
 refine ch G1 ?_
 refine eq (z%6) 0 (fun t2=>?_) fun t2=>?_
 ·obtain ⟨_,⟨aN,ad,aX,rfl,cd,b5,bZ,cw⟩,G3⟩:=x (j.Fc count left) (IY.of (j.Fc count left) (n:=10) @q) 8 3 v
  refine ch G3 ?_
  obtain ⟨_,⟨bb,aU,a0,a5,aP,U,a1,a8,rfl,cc,cj,bT,b0⟩,G4⟩:=q (j.Fc count left) 1 3 ad
  refine ch G4 ?_
  refine de [] ?_
  refine ll 0 [] ?_
  exact Ag ⟨[aN,bb,aU,a0,a5,aP,0,0,U],[[97],a1],[aX,a8,[],[]],[]⟩ (⟨_,_,_,_,_,_,_,_,_,_,_,rfl,(MS.mv j),A5,kn,kn,kn⟩)
 refine eq (z%6) 1 (fun t5=>?_) fun t5=>?_
 ·obtain ⟨_,⟨al,ac,aZ,rfl,bS,b7,cu,cr⟩,G6⟩:=x (j.Fc count left) (IY.of (j.Fc count left) (n:=10) @q) 8 3 v
  refine ch G6 ?_
  obtain ⟨_,⟨ba,be,a4,bi,aF,Q,aR,aW,rfl,cg,bU,cf,bX⟩,G7⟩:=q (j.Fc count left) 1 3 ac
  refine ch G7 ?_
  refine de [] ?_
  refine ll 0 [] ?_
  exact Ag ⟨[al,ba,be,a4,bi,aF,0,0,Q],[[97],aR],[aZ,aW,[],[]],[]⟩ (⟨_,_,_,_,_,_,_,_,_,_,_,rfl,(MS.mv j),A5,kn,kn,kn⟩)
 refine eq (z%6) 2 (fun t8=>?_) fun t8=>?_
 ·obtain ⟨_,⟨ax,aa,bc,rfl,cq,b6,b4,ct⟩,G9⟩:=x (j.Fc count left) (IY.of (j.Fc count left) (n:=10) @q) 8 3 v
  refine ch G9 ?_
  obtain ⟨_,⟨ak,aL,aI,ai,X,I,aq,ay,rfl,bt,bH,bB,bo⟩,bg⟩:=q (j.Fc count left) 1 3 aa
  refine ch bg ?_
  refine de [] ?_
  refine ll 0 [] ?_
  exact Ag ⟨[ax,ak,aL,aI,ai,X,0,0,I],[[115],aq],[bc,ay,[],[]],[]⟩ (⟨_,_,_,_,_,_,_,_,_,_,_,rfl,(MS.mv j),A5,kn,kn,kn⟩)
 refine eq (z%6) 3 (fun aV=>?_) fun aV=>?_
 ·obtain ⟨_,⟨af,P,aB,rfl,bn,bJ,bC,bI⟩,a7⟩:=x (j.Fc count left) (IY.of (j.Fc count left) (n:=10) @q) 4 3 v
  refine ch a7 ?_
  obtain ⟨_,⟨aA,aH,an,aE,ab,H,au,ap,rfl,bv,bz,bE,bm⟩,a9⟩:=q (j.Fc count left) 2 3 P
  refine ch a9 ?_
  refine de [] ?_
  refine ll 0 [] ?_
  exact Ag ⟨[af,aA,aH,an,aE,ab,0,0,H],[[102],au],[aB,ap,[],[]],[]⟩ (⟨_,_,_,_,_,_,_,_,_,_,_,rfl,(MS.mv j),A5,kn,kn,kn⟩)
 refine eq (z%6) 4 (fun a2=>?_) fun a2=>?_
 ·obtain ⟨_,⟨ag,N,aK,rfl,bF,bM,bG,bD⟩,bh⟩:=x (j.Fc count left) (IY.of (j.Fc count left) (n:=10) @q) 4 3 v
  refine ch bh ?_
  obtain ⟨_,⟨Kw,aM,aw,av,ae,C,aQ,az,rfl,bA,bw,bN,bK⟩,aY⟩:=q (j.Fc count left) 1 3 N
  refine ch aY ?_
  refine de [] ?_
  refine ll 0 [] ?_
  exact Ag ⟨[ag,Kw,aM,aw,av,ae,0,0,C],[[112],aQ],[aK,az,[],[]],[]⟩ (⟨_,_,_,_,_,_,_,_,_,_,_,rfl,(MS.mv j),A5,kn,kn,kn⟩)
 refine AH (z%6) 5 ?_
 obtain ⟨_,⟨Z,J,aJ,rfl,bP,br,bO,bq⟩,a3⟩:=x (j.Fc count left) (IY.of (j.Fc count left) (n:=10) @q) 4 3 v
 refine ch a3 ?_
 obtain ⟨_,⟨Adi,aG,aO,aj,Y,L,aC,ao,rfl,bj,bk,bL,bx⟩,a6⟩:=q (j.Fc count left) 3 3 J
 refine ch a6 ?_
 refine de [] ?_
 refine ll 0 [] ?_
 exact Ag ⟨[Z,Adi,aG,aO,aj,Y,0,0,L],[[98],aC],[aJ,ao,[],[]],[]⟩ (⟨_,_,_,_,_,_,_,_,_,_,_,rfl,(MS.mv j),A5,kn,kn,kn⟩)
def Acl (E:Bool) (N:Nat):Prop:=∀{Γ:Ctx} {K M:Int} (lo pu:Int) (D f:Int) (O pos:Int) (C count:Int) (left call loads:Int) (B V:Rs) (hM:MS E Γ f K M O pos C count left call loads B V) (h:1<=D/\count+left+1<=K/\pos+300*left+200<=M/\pu=0:=by exact kn),Ok trees N ⟨[f,O,pos,C,count,left,call,loads],[],[B,V],[]⟩ fun Y=>(∃(P I z J w' v X o2 y2 w2 Q j:Int),∃(L H s2:List Nat),∃(x U:Rs),Y=(0,(⟨[P,I,z,J,w',v,X,o2,y2,w2,Q,0,0,j],[L,H,s2],[x,U,[],[]],[]⟩:Aj))/\(MS E Γ f K M O j C count left call loads B V)/\(DU lo pu D Γ Γ (left+1) left (AT 12 P 0 0 L I z J H w' x X o2 y2 s2 w2 U [] []))/\(j<=pos+100)/\(v=x.length)/\(Q=U.length))∨(∃(Z:Ctx),∃(t' I z J w' v j A q:Int),∃(L H:List Nat),∃(x R:Rs),Y=(1,(⟨[t',I,z,J,w',v,0,0,0,j,A,q],[L,H],[x,[],[],[],R],[]⟩:Aj))/\(MS false Z f K M O j A q left call loads B R)/\(DU lo pu D Γ Z (left+1) left (AT 1 0 t' 0 L I z J H w' x 0 0 0 [] 0 [] [] []))/\(Ext C V R)/\(count<=q)/\(C<=A)/\(j<=pos+100)/\(v=x.length))
theorem Adi {E:Bool} {d aI N8 aa ah:Nat} (hT:trees aI=AbY d N8 aa ah) (U:Tw N8) (bj:Yf E aa) (A:RD ah):Acl E aI:=by
 intro Γ K M lo pu D f bl pos x count left call j B V v h
 have ⟨hm,dh,c4,c7,c5,dj,di,c8,c6,db,dk⟩:=v;have ⟨hB,hl,hvl,GN,hV,hb,hc,hd⟩:=hm;have c9:G 3=40:=rfl;have dd:G 2=12:=rfl;have dc:G (3-1)=12:=rfl
 refine .of (t:=AbY d N8 aa ah) hT ?_
 conv=>arg 3;delta AbY;conv=>arg 3;reduce
 conv=>arg 3;reduce
 refine le x f (fun t1=>?_) fun t1=>?_
 ·obtain ⟨_,⟨bv,t_2,bw,bg,bI,bJ,aW,aG,aL,R,bM,bk,bC,bx,rfl,a5,cB,cD,cZ,cu,cN,cr⟩,G2⟩:=bj lo pu D bl pos x count left call j B V (MS.mv v)
  refine ch G2 ?_
  have ⟨_,_,c1,cw,cK,cV,cT,cJ,_,_,_⟩:=a5
  exact Ag ⟨[t_2,bw,bg,bI,bJ,aW,0,0,0,aG,aL,R],[bM,bk],[bC,[],[],[],bx],[]⟩ (.inr ((⟨bv,_,_,_,_,_,_,_,_,_,_,_,_,_,rfl,asm,A5,A5,kn,kn,kn,kn⟩)))
 obtain ⟨_,⟨C,L,rfl,cO,cG,cx⟩,G3⟩:=U hB hl pos x count left call j V
 refine ch G3 ?_
 refine Az (x-f) 0 ?_
 have m4:=Int.emod_nonneg C (show (x-f)≠0 by omega);have dl:=Int.emod_lt_of_pos C (show 0<(x-f) by omega)
 refine CO (f+(C%(x-f))) 0 ?_
 refine B8 (f+(C%(x-f))) x ?_
 obtain ⟨q,Xf,a2,a8,aV,cA,cW⟩:=hV (f+(C%(x-f))) om om
 refine el a2 ?_
 have cF:=aV om;obtain ⟨_,_,_,cH⟩:=a8
 refine eq Xf 3 (fun t6=>?_) fun t6=>?_
 ·obtain ⟨_,⟨bz,aE,rfl,cQ,ct,cP⟩,G7⟩:=U hB hl L x count left call j V
  refine ch G7 ?_
  obtain ⟨_,⟨X8,ba,bm,bi,aN,aF,bA,bK,rfl,cR,cy,c2,cS⟩,G8⟩:=A (v.Fc count left) 3 3 aE
  refine ch G8 ?_
  refine de [] ?_
  refine ll 0 [] ?_
  exact Ag ⟨[(2+(bz%2)),X8,ba,bm,bi,aN,0,0,0,0,0,0,0,aF],[q,bA,[]],[bK,[],[],[]],[]⟩ (.inl (⟨_,_,_,_,_,_,_,_,_,_,_,_,_,_,_,_,_,rfl,(MS.mv v),A5,kn,kn,kn⟩))
 obtain ⟨_,⟨Q,z,rfl,cX,cI,cE⟩,G9⟩:=U hB hl L x count left call j V
 refine ch G9 ?_
 refine eq (Q%4) 0 (fun bo=>?_) fun bo=>?_
 ·obtain ⟨_,⟨al,ab,rfl,bO,bV,bS⟩,bH⟩:=U hB hl z x count left call j V
  refine ch bH ?_
  obtain ⟨_,⟨U9,ai,ag,ad,O,J,Y,ao,rfl,bU,cd,b5,cc⟩,br⟩:=A (v.Fc count left) Xf 3 ab
  refine ch br ?_
  refine eq (al%2) 0 (fun bt=>?_) fun bt=>?_
  ·refine de [] ?_
   refine ll 0 [] ?_
   exact Ag ⟨[5,U9,ai,ag,ad,O,0,0,0,0,0,0,0,J],[q,Y,[]],[ao,[],[],[]],[]⟩ (.inl (⟨_,_,_,_,_,_,_,_,_,_,_,_,_,_,_,_,_,rfl,(MS.mv v),A5,kn,kn,kn⟩))
  refine AH (al%2) 1 ?_
  refine de [] ?_
  refine ll 0 [] ?_
  exact Ag ⟨[6,U9,ai,ag,ad,O,0,0,0,0,0,0,0,J],[q,Y,[]],[ao,[],[],[]],[]⟩ (.inl (⟨_,_,_,_,_,_,_,_,_,_,_,_,_,_,_,_,_,rfl,(MS.mv v),A5,kn,kn,kn⟩))
 refine eq (Q%4) 1 (fun be=>?_) fun be=>?_
 ·obtain ⟨_,⟨aw,aq,rfl,b8,cj,b9⟩,bL⟩:=U hB hl z x count left call j V
  refine ch bL ?_
  obtain ⟨_,⟨Kw,aA,af,ae,N,H,aB,an,rfl,b3,b0,co,cf⟩,bb⟩:=A (v.Fc count left) Xf 3 aq
  refine ch bb ?_
  refine eq (aw%2) 0 (fun bE=>?_) fun bE=>?_
  ·refine de [] ?_
   refine ll 0 [] ?_
   exact Ag ⟨[5,Kw,aA,af,ae,N,0,0,0,0,0,0,0,H],[q,aB,[]],[an,[],[],[]],[]⟩ (.inl (⟨_,_,_,_,_,_,_,_,_,_,_,_,_,_,_,_,_,rfl,(MS.mv v),A5,kn,kn,kn⟩))
  refine AH (aw%2) 1 ?_
  refine de [] ?_
  refine ll 0 [] ?_
  exact Ag ⟨[6,Kw,aA,af,ae,N,0,0,0,0,0,0,0,H],[q,aB,[]],[an,[],[],[]],[]⟩ (.inl (⟨_,_,_,_,_,_,_,_,_,_,_,_,_,_,_,_,_,rfl,(MS.mv v),A5,kn,kn,kn⟩))
 refine eq (Q%4) 2 (fun bD=>?_) fun bD=>?_
 ·obtain ⟨_,⟨Ob,a9,aY,a1,aC,X,aU,a4,rfl,bP,bN,bQ,cg⟩,bB⟩:=A (v.Fc count left) Xf 2 z
  refine ch bB ?_
  obtain ⟨_,⟨a0,a6,aK,aR,aH,az,a3,a7,rfl,cb,b4,ce,bT⟩,bh⟩:=A (v.Fc count left) 1 2 X
  refine ch bh ?_
  refine de [] ?_
  refine ll 0 [] ?_
  exact Ag ⟨[4,Ob,a9,aY,a1,aC,a0,a6,aK,aR,aH,0,0,az],[q,aU,a3],[a4,a7,[],[]],[]⟩ (.inl (⟨_,_,_,_,_,_,_,_,_,_,_,_,_,_,_,_,_,rfl,(MS.mv v),A5,kn,kn,kn⟩))
 refine AH (Q%4) 3 ?_
 refine eq Xf 1 (fun bG=>?_) fun bG=>?_
 ·obtain ⟨_,⟨aM,aO,aQ,aZ,aD,ay,aP,aJ,rfl,cp,bR,bX,b6⟩,bF⟩:=A (v.Fc count left) 3 3 z
  refine ch bF ?_
  refine de [] ?_
  refine ll 0 [] ?_
  exact Ag ⟨[1,aM,aO,aQ,aZ,aD,0,0,0,0,0,0,0,ay],[q,aP,[]],[aJ,[],[],[]],[]⟩ (.inl (⟨_,_,_,_,_,_,_,_,_,_,_,_,_,_,_,_,_,rfl,(MS.mv v),A5,kn,kn,kn⟩))
 obtain ⟨_,⟨ap,Z,rfl,bW,b7,bY⟩,bc⟩:=U hB hl z x count left call j V
 refine ch bc ?_
 obtain ⟨_,⟨au,ak,ac,av,P,I,ax,aj,rfl,bZ,b2,ci,b1⟩,bq⟩:=A (v.Fc count left) Xf 3 Z
 refine ch bq ?_
 refine eq (ap%2) 0 (fun bn=>?_) fun bn=>?_
 ·refine de [] ?_
  refine ll 0 [] ?_
  exact Ag ⟨[5,au,ak,ac,av,P,0,0,0,0,0,0,0,I],[q,ax,[]],[aj,[],[],[]],[]⟩ (.inl (⟨_,_,_,_,_,_,_,_,_,_,_,_,_,_,_,_,_,rfl,(MS.mv v),A5,kn,kn,kn⟩))
 refine AH (ap%2) 1 ?_
 refine de [] ?_
 refine ll 0 [] ?_
 exact Ag ⟨[6,au,ak,ac,av,P,0,0,0,0,0,0,0,I],[q,ax,[]],[aj,[],[],[]],[]⟩ (.inl (⟨_,_,_,_,_,_,_,_,_,_,_,_,_,_,_,_,_,rfl,(MS.mv v),A5,kn,kn,kn⟩))
def FX (E:Bool) (N n:Nat):Prop:=∀{Γ:Ctx} {K M:Int} (f depth:Int) (P loop:Int) (pure bl:Int) (pos U:Int) (count left:Int) (call q:Int) (B V:Rs) (hM:MS E Γ f K M bl pos U count left call q B V) (h:0<=depth/\depth<=2/\1<=left/\(pure=0∨pure=1)/\(loop=0∨loop=1)/\(P=0∨P=1)/\depth.toNat<n),Ok trees N ⟨[f,depth,P,loop,pure,bl,pos,U,count,left,call,q],[],[B,V],[]⟩ fun zz=>(∃(Y o' J xk Z R L H yk yo yt yw I X el j left':Int),∃(n' Q yn:List Nat),∃(A C x z:Rs),zz=(0,(⟨[Y,o',J,xk,Z,R,L,H,yk,yo,yt,yw,I,X,el,j,left'],[n',Q,yn],[A,C,x,z],[]⟩:Aj))/\(MS E Γ f K M bl j U count left' call q B V)/\(DU loop pure (depth+1) Γ Γ left left' (AT Y o' 0 J n' xk Z R Q L A yk yo yt yn yw C x z))/\(j+300*left'<=pos+300*left)/\(H=A.length)/\(I=C.length)/\(X=x.length)/\(el=z.length)/\(left'+1<=left))∨(∃(Γ':Ctx),∃(Y t' J xk Z R L H I X el j O v left':Int),∃(n' Q:List Nat),∃(A C x z V':Rs),zz=(1,(⟨[Y,t',J,xk,Z,R,L,H,I,X,el,j,O,v,left'],[n',Q],[A,C,x,z,V'],[]⟩:Aj))/\(MS false Γ' f K M bl j O v left' call q B V')/\(DU loop pure (depth+1) Γ Γ' left left' (AT Y 0 t' J n' xk Z R Q L A 0 0 0 [] 0 C x z))/\(Ext U V V')/\(count<=v)/\(U<=O)/\(j+300*left'<=pos+300*left)/\(H=A.length)/\(I=C.length)/\(X=x.length)/\(el=z.length)/\(left'+1<=left))
def Ad8 (E:Bool) (N:Nat):Prop:=∀{Γ:Ctx} {K M:Int} (f depth:Int) (P loop:Int) (pure bl:Int) (pos U:Int) (count left:Int) (call q:Int) (B V:Rs) (hM:MS E Γ f K M bl pos U count left call q B V) (h:0<=depth/\depth<=2/\1<=left/\(pure=0∨pure=1)/\(loop=0∨loop=1)/\(P=0∨P=1):=by exact kn),Ok trees N ⟨[f,depth,P,loop,pure,bl,pos,U,count,left,call,q],[],[B,V],[]⟩ fun zz=>(∃(Y o' J xk Z R L H yk yo yt yw I X el j left':Int),∃(n' Q yn:List Nat),∃(A C x z:Rs),zz=(0,(⟨[Y,o',J,xk,Z,R,L,H,yk,yo,yt,yw,I,X,el,j,left'],[n',Q,yn],[A,C,x,z],[]⟩:Aj))/\(MS E Γ f K M bl j U count left' call q B V)/\(DU loop pure (depth+1) Γ Γ left left' (AT Y o' 0 J n' xk Z R Q L A yk yo yt yn yw C x z))/\(j+300*left'<=pos+300*left)/\(H=A.length)/\(I=C.length)/\(X=x.length)/\(el=z.length)/\(left'+1<=left))∨(∃(Γ':Ctx),∃(Y t' J xk Z R L H I X el j O v left':Int),∃(n' Q:List Nat),∃(A C x z V':Rs),zz=(1,(⟨[Y,t',J,xk,Z,R,L,H,I,X,el,j,O,v,left'],[n',Q],[A,C,x,z,V'],[]⟩:Aj))/\(MS false Γ' f K M bl j O v left' call q B V')/\(DU loop pure (depth+1) Γ Γ' left left' (AT Y 0 t' J n' xk Z R Q L A 0 0 0 [] 0 C x z))/\(Ext U V V')/\(count<=v)/\(U<=O)/\(j+300*left'<=pos+300*left)/\(H=A.length)/\(I=C.length)/\(X=x.length)/\(el=z.length)/\(left'+1<=left))
theorem FX.of {E:Bool} {N n:Nat} (H:Ad8 E N):FX E N n:=fun {Γ} {K} {M} f depth top loop pure bl pos vl count left call loads B V hM h=>H f depth top loop pure bl pos vl count left call loads B V hM (by have:=h;omega)
def Yc (E:Bool) (I N:Nat):Prop:=∀{m:Nat} (J:FX E I m) {Γ:Ctx} {K M:Int} (f depth:Int) (loop pure:Int) (A pos:Int) (x count:Int) (left call loads:Int) (B V:Rs) (L:MS E Γ f K M A pos x count left call loads B V) (h:0<=depth/\depth<=2/\(pure=0∨pure=1)/\(loop=0∨loop=1)/\depth.toNat<m/\pos+300*left+10<=M:=by exact kn),Ok trees N ⟨[f,depth,loop,pure,A,pos,x,count,left,call,loads],[],[B,V],[]⟩ fun H=>(∃(z j left':Int),∃(v:Rs),H=(0,(⟨[z,j,left'],[],[v],[]⟩:Aj))/\(MS E Γ f K M A j x count left' call loads B V)/\(Iw loop pure (depth+1) Γ left left' v)/\(z=v.length)/\(left'<=left)/\(j+300*left'<=pos+300*left+1))∨(∃(z j q left':Int),∃(v C:Rs),H=(1,(⟨[z,j,x,q,left'],[],[v,C],[]⟩:Aj))/\(MS false Γ f K M A j x q left' call loads B C)/\(Iw loop pure (depth+1) Γ left left' v)/\(Ext x V C)/\(count<=q)/\(z=v.length)/\(left'<=left)/\(j+300*left'<=pos+300*left+1))
theorem AnB {E:Bool} {d bc a9 N8 bK cJ a7 cx bO cY bL ao an:Nat} (hT:trees bc=XZ d N8 bK cJ a7 cx bO cY bL ao an) (h8:Tw N8) (g0:Yf E bK) (aF:Acn E cJ) (ba:RD a7) (ab:Acm E cx) (i1:Acl E bO) (hZ:V3 a7 cY) (cF:Yc E bc bL) (fK:Tw ao) (dv:Yc false a9 an) (hx:∀n,FX E bc n->FX false a9 n) (n:Nat):FX E bc n:=by
 induction n with
 |zero=>intro Γ K M f depth aw loop pure U pos C count left call j B V x h;exact absurd h.2.2.2.2.2.2 (Nat.not_lt_zero _)
 |succ n ih=>
 intro Γ K M f depth aw loop pure U pos C count left call j B V x h
 have ⟨hm,nY,nS,n0,nV,n4,nQ,nT,nZ,nX,nR⟩:=x;have ⟨hB,hl,hvl,GN,hV,hb,hc,hd⟩:=hm;have nW:G 3=40:=rfl;have nP:G 2=12:=rfl;have nU:G (3-1)=12:=rfl
 refine .of (t:=XZ d N8 bK cJ a7 cx bO cY bL ao an) hT ?_
 conv=>arg 3;delta XZ;conv=>arg 3;reduce
 conv=>arg 3;reduce
 obtain ⟨_,⟨X,q,rfl,nB,nk,nw⟩,G1⟩:=h8 hB hl pos C count (left-1) call j V
 refine ch G1 ?_
 refine eq (X%14) 0 (fun t2=>?_) fun t2=>?_
 ·obtain ⟨_,⟨iH,t_3,ig,ht,jl,gN,f8,fH,gf,bz,h7,gQ,jQ,kd,rfl,cy,nj,nK,ns,nD,np,nL⟩,G3⟩:=g0 loop pure (depth+1) U q C count (left-1) call j B V (MS.mv x)
  refine ch G3 ?_
  have ⟨_,_,ny,nG,nM,nI,nn,nh,_,_,_⟩:=cy
  exact Ag ⟨[1,t_3,0,ig,ht,jl,gN,f8,0,0,0,fH,gf,bz,(left-1)],[h7,gQ],[jQ,[],[],[],kd],[]⟩ (.inr ((⟨iH,_,_,_,_,_,_,_,_,_,_,_,_,_,_,_,_,_,_,_,_,_,_,rfl,(MS.mv cy),A5,A5,kn,kn,kn,kn,kn,kn,kn,kn⟩)))
 refine lt (X%14) 4 (fun t4=>?_) fun t4=>?_
 ·obtain ⟨_,(⟨gx,gw,fV,gd,ft,cv,gr,gn,gm,rfl,be,lo,mT,kZ⟩|⟨gy,f4,ga,gh,f7,fZ,e0,b2,d7,a2,fY,gj,f6,fW,rfl,bg,mp,mS,m0,mR,kS,kN⟩),G5⟩:=aF loop pure (depth+1) f U q C count (left-1) call j B V (MS.mv x)
  ·refine ch G5 ?_
   have ⟨_,_,lq,m7,lV,mC,lv,kW,_,_,_⟩:=be
   exact Ag ⟨[2,0,0,gx,gw,fV,gd,ft,0,0,0,0,0,0,0,cv,(left-1)],[gr,gn,[]],[gm,[],[],[]],[]⟩ (.inl (⟨_,_,_,_,_,_,_,_,_,_,_,_,_,_,_,_,_,_,_,_,_,_,_,_,rfl,(MS.mv be),A5,kn,kn,kn,kn,kn,kn⟩))
  refine cm G5 ?_
  refine ch G5 ?_
  have ⟨_,_,mg,lK,lW,lN,k6,kU,_,_,_⟩:=bg
  exact Ag ⟨[1,f4,0,ga,gh,f7,fZ,e0,0,0,0,b2,d7,a2,(left-1)],[fY,gj],[f6,[],[],[],fW],[]⟩ (.inr ((⟨gy,_,_,_,_,_,_,_,_,_,_,_,_,_,_,_,_,_,_,_,_,_,_,rfl,(MS.mv bg),A5,A5,kn,kn,kn,kn,kn,kn,kn,kn⟩)))
 refine eq (X%14) 4 (fun t6=>?_) fun t6=>?_
 ·refine gt depth 0 (fun t7=>?_) fun t7=>?_
  ·obtain ⟨_,⟨X8,af,ac,ae,Z,fy,ad,ag,rfl,nx,ni,nr,nl⟩,G8⟩:=ba (x.Fc count (left-1)) 3 3 q
   refine ch G8 ?_
   obtain ⟨_,(⟨ak,cf,Y,aZ,rfl,al,kO,kR,mV,lk⟩|⟨ai,b6,R,aa,a0,ah,rfl,aj,lQ,lL,lc,mU,mJ,lw⟩),G9⟩:=cF @ih f (depth-1) loop pure U fy C count (left-1) call j B V (MS.mv x)
   ·refine ch G9 ?_
    have ⟨_,_,lF,mz,la,mH,k9,mQ,_,_,_⟩:=al
    obtain ⟨_,⟨f2,aD,rfl,lG,mw,lJ⟩,jC⟩:=h8 hB hl cf C count Y call j V
    refine ch jC ?_
    refine eq (f2%2) 0 (fun hW=>?_) fun hW=>?_
    ·obtain ⟨_,(⟨cQ,bE,a3,e9,rfl,aH,gR,h3,hk,hr⟩|⟨cT,bo,aA,aW,eG,c7,rfl,aU,jN,i0,g8,kE,hL,jH⟩),bR⟩:=cF @ih f (depth-1) loop pure U aD C count Y call j B V (MS.mv al)
     ·refine ch bR ?_
      have ⟨_,_,hv,g6,hu,il,iF,g9,_,_,_⟩:=aH
      refine de [] ?_
      refine ll 0 [] ?_
      exact Ag ⟨[5,0,0,X8,af,ac,ae,Z,0,0,0,0,0,ak,cQ,bE,a3],[[],ad,[]],[ag,[],aZ,e9],[]⟩ (.inl (⟨_,_,_,_,_,_,_,_,_,_,_,_,_,_,_,_,_,_,_,_,_,_,_,_,rfl,(MS.mv aH),A5,kn,kn,kn,kn,kn,kn⟩))
     refine cm bR ?_
     refine ch bR ?_
     have ⟨_,_,iE,iK,kw,hC,gH,jU,_,_,_⟩:=aU
     refine de [] ?_
     refine ll 0 [] ?_
     exact Ag ⟨[5,0,0,X8,af,ac,ae,Z,0,ak,cT,bo,C,aA,aW],[[],ad],[ag,[],aZ,eG,c7],[]⟩ (.inr ((⟨Γ,_,_,_,_,_,_,_,_,_,_,_,_,_,_,_,_,_,_,_,_,_,_,rfl,(MS.mv aU),A5,A5,kn,kn,kn,kn,kn,kn,kn,kn⟩)))
    refine de [] ?_
    refine ll 0 [] ?_
    exact Ag ⟨[5,0,0,X8,af,ac,ae,Z,0,0,0,0,0,ak,0,aD,Y],[[],ad,[]],[ag,[],aZ,[]],[]⟩ (.inl (⟨_,_,_,_,_,_,_,_,_,_,_,_,_,_,_,_,_,_,_,_,_,_,_,_,rfl,(MS.mv al),A5,kn,kn,kn,kn,kn,kn⟩))
   refine cm G9 ?_
   refine ch G9 ?_
   have ⟨_,_,m8,my,lR,lH,lA,ld,_,_,_⟩:=aj
   obtain ⟨_,⟨gb,aM,rfl,mn,lI,lM⟩,js⟩:=fK hB hl b6 C R aa call j ah
   refine ch js ?_
   refine eq (gb%2) 0 (fun je=>?_) fun je=>?_
   ·obtain ⟨_,(⟨bZ,bw,aX,eQ,rfl,aN,hh,ii,jb,iw⟩|⟨b9,bn,az,aY,d5,fN,rfl,aQ,gD,kG,hi,iW,kq,j5⟩),cC⟩:=dv (hx _ @ih) f (depth-1) loop pure U aM C R aa call j B ah (MS.mv aj)
    ·refine ch cC ?_
     have ⟨_,_,iL,hJ,jP,jS,jA,iM,_,_,_⟩:=aN
     refine de [] ?_
     refine ll 0 [] ?_
     exact Ag ⟨[5,0,0,X8,af,ac,ae,Z,0,ai,bZ,bw,C,R,aX],[[],ad],[ag,[],a0,eQ,ah],[]⟩ (.inr ((⟨Γ,_,_,_,_,_,_,_,_,_,_,_,_,_,_,_,_,_,_,_,_,_,_,rfl,(MS.mv aN),A5,A5,kn,kn,kn,kn,kn,kn,kn,kn⟩)))
    refine cm cC ?_
    refine ch cC ?_
    have ⟨_,_,kf,i8,jd,jD,km,iD,_,_,_⟩:=aQ
    refine de [] ?_
    refine ll 0 [] ?_
    exact Ag ⟨[5,0,0,X8,af,ac,ae,Z,0,ai,b9,bn,C,az,aY],[[],ad],[ag,[],a0,d5,fN],[]⟩ (.inr ((⟨Γ,_,_,_,_,_,_,_,_,_,_,_,_,_,_,_,_,_,_,_,_,_,_,rfl,(MS.mv aQ),A5,A5,kn,kn,kn,kn,kn,kn,kn,kn⟩)))
   refine de [] ?_
   refine ll 0 [] ?_
   exact Ag ⟨[5,0,0,X8,af,ac,ae,Z,0,ai,0,aM,C,R,aa],[[],ad],[ag,[],a0,[],ah],[]⟩ (.inr ((⟨Γ,_,_,_,_,_,_,_,_,_,_,_,_,_,_,_,_,_,_,_,_,_,_,rfl,(MS.mv aj),A5,A5,kn,kn,kn,kn,kn,kn,kn,kn⟩)))
  refine sn pure 0 (fun iY=>?_) fun iY=>?_
  ·obtain ⟨_,⟨dx,eP,dG,eR,fO,cO,cM,f1,dd,gB,dl,rfl,bh,mL,mB,me,lj⟩,ji⟩:=ab loop pure (depth+1) U q C count (left-1) call j B V (MS.mv x)
   refine ch ji ?_
   have ⟨_,_,lr,ng,k7,kL,l6,mD,_,_,_⟩:=bh
   exact Ag ⟨[3,0,0,5,17,0,0,dx,eP,dG,eR,fO,cO,0,0,cM,(left-1)],[f1,[],dd],[gB,dl,[],[]],[]⟩ (.inl (⟨_,_,_,_,_,_,_,_,_,_,_,_,_,_,_,_,_,_,_,_,_,_,_,_,rfl,(MS.mv bh),A5,kn,kn,kn,kn,kn,kn⟩))
  refine AL pure 1 ?_
  obtain ⟨_,(⟨eL,fI,fu,di,cj,bt,eT,c9,fA,rfl,aI,kx,j2,hR⟩|⟨eB,eD,dc,fe,c4,eF,cW,bB,ci,aG,fz,dz,e3,eb,rfl,ap,iT,jY,jZ,ju,ki,jK⟩),bP⟩:=aF loop pure (depth+1) f U q C count (left-1) call j B V (MS.mv x)
  ·refine ch bP ?_
   have ⟨_,_,g7,kj,jx,hj,iJ,gM,_,_,_⟩:=aI
   exact Ag ⟨[2,0,0,eL,fI,fu,di,cj,0,0,0,0,0,0,0,bt,(left-1)],[eT,c9,[]],[fA,[],[],[]],[]⟩ (.inl (⟨_,_,_,_,_,_,_,_,_,_,_,_,_,_,_,_,_,_,_,_,_,_,_,_,rfl,(MS.mv aI),A5,kn,kn,kn,kn,kn,kn⟩))
  refine cm bP ?_
  refine ch bP ?_
  have ⟨_,_,jf,h2,jz,j7,j3,gS,_,_,_⟩:=ap
  exact Ag ⟨[1,eD,0,dc,fe,c4,eF,cW,0,0,0,bB,ci,aG,(left-1)],[fz,dz],[e3,[],[],[],eb],[]⟩ (.inr ((⟨eB,_,_,_,_,_,_,_,_,_,_,_,_,_,_,_,_,_,_,_,_,_,_,rfl,(MS.mv ap),A5,A5,kn,kn,kn,kn,kn,kn,kn,kn⟩)))
 refine eq (X%14) 5 (fun kt=>?_) fun kt=>?_
 ·refine gt depth 0 (fun hQ=>?_) fun hQ=>?_
  ·obtain ⟨_,⟨cE,cg,b3,cI,bb,ce,cu,cD,rfl,mm,lb,nc,mh⟩,jR⟩:=ba (x.Fc count (left-1)) 3 3 q
   refine ch jR ?_
   obtain ⟨_,⟨cL,bU,rfl,lZ,l7,lE⟩,jB⟩:=h8 hB hl ce C count (left-1) call j V
   refine ch jB ?_
   obtain ⟨_,(⟨cw,bC,a4,fg,rfl,aL,hz,kB,jk,hK⟩|⟨bQ,bm,aB,a5,eV,ee,rfl,aq,hG,jt,gU,kH,kF,jV⟩),b8⟩:=cF @ih f (depth-1) 1 pure U bU C count (left-1) call j B V (MS.mv x)
   ·refine ch b8 ?_
    have ⟨_,_,kl,jr,jg,i9,gL,hp,_,_,_⟩:=aL
    refine de [] ?_
    refine ll 0 [] ?_
    exact Ag ⟨[6,0,(1+(cL%4)),cE,cg,b3,cI,bb,0,0,0,0,0,cw,0,bC,a4],[[],cu,[]],[cD,[],fg,[]],[]⟩ (.inl (⟨_,_,_,_,_,_,_,_,_,_,_,_,_,_,_,_,_,_,_,_,_,_,_,_,rfl,(MS.mv aL),A5,kn,kn,kn,kn,kn,kn⟩))
   refine cm b8 ?_
   refine ch b8 ?_
   have ⟨_,_,gO,j4,hy,kv,ko,iy,_,_,_⟩:=aq
   refine de [] ?_
   refine ll 0 [] ?_
   exact Ag ⟨[6,0,(1+(cL%4)),cE,cg,b3,cI,bb,0,bQ,0,bm,C,aB,a5],[[],cu],[cD,[],eV,[],ee],[]⟩ (.inr ((⟨Γ,_,_,_,_,_,_,_,_,_,_,_,_,_,_,_,_,_,_,_,_,_,_,rfl,(MS.mv aq),A5,A5,kn,kn,kn,kn,kn,kn,kn,kn⟩)))
  refine sn pure 0 (fun gE=>?_) fun gE=>?_
  ·obtain ⟨_,⟨e7,eh,eo,dJ,ej,bM,cd,f9,fj,fX,fh,rfl,bi,mI,lD,lS,nb⟩,iB⟩:=ab loop pure (depth+1) U q C count (left-1) call j B V (MS.mv x)
   refine ch iB ?_
   have ⟨_,_,lB,mE,mo,ma,kY,lX,_,_,_⟩:=bi
   exact Ag ⟨[3,0,0,5,17,0,0,e7,eh,eo,dJ,ej,bM,0,0,cd,(left-1)],[f9,[],fj],[fX,fh,[],[]],[]⟩ (.inl (⟨_,_,_,_,_,_,_,_,_,_,_,_,_,_,_,_,_,_,_,_,_,_,_,_,rfl,(MS.mv bi),A5,kn,kn,kn,kn,kn,kn⟩))
  refine AL pure 1 ?_
  obtain ⟨_,(⟨d2,fd,c8,d3,cc,bv,ec,eX,eI,rfl,aC,hP,h4,hO⟩|⟨fM,e2,d6,fD,dC,ek,cp,bq,cR,aO,em,fv,fi,eW,rfl,aV,jj,ic,hF,ky,gW,h1⟩),bJ⟩:=aF loop pure (depth+1) f U q C count (left-1) call j B V (MS.mv x)
  ·refine ch bJ ?_
   have ⟨_,_,jG,hq,hE,iI,ie,jh,_,_,_⟩:=aC
   exact Ag ⟨[2,0,0,d2,fd,c8,d3,cc,0,0,0,0,0,0,0,bv,(left-1)],[ec,eX,[]],[eI,[],[],[]],[]⟩ (.inl (⟨_,_,_,_,_,_,_,_,_,_,_,_,_,_,_,_,_,_,_,_,_,_,_,_,rfl,(MS.mv aC),A5,kn,kn,kn,kn,kn,kn⟩))
  refine cm bJ ?_
  refine ch bJ ?_
  have ⟨_,_,hD,kA,kC,j6,kz,kJ,_,_,_⟩:=aV
  exact Ag ⟨[1,e2,0,d6,fD,dC,ek,cp,0,0,0,bq,cR,aO,(left-1)],[em,fv],[fi,[],[],[],eW],[]⟩ (.inr ((⟨fM,_,_,_,_,_,_,_,_,_,_,_,_,_,_,_,_,_,_,_,_,_,_,rfl,(MS.mv aV),A5,A5,kn,kn,kn,kn,kn,kn,kn,kn⟩)))
 refine eq (X%14) 6 (fun jo=>?_) fun jo=>?_
 ·refine sn loop 0 (fun jI=>?_) fun jI=>?_
  ·refine sn pure 0 (fun kb=>?_) fun kb=>?_
   ·obtain ⟨_,⟨eO,fB,fR,dH,db,b4,cX,gz,eC,gs,eN,rfl,a8,mj,kT,kQ,m9⟩,kI⟩:=ab loop pure (depth+1) U q C count (left-1) call j B V (MS.mv x)
    refine ch kI ?_
    have ⟨_,_,kX,l5,mr,kK,mN,lY,_,_,_⟩:=a8
    exact Ag ⟨[3,0,0,5,17,0,0,eO,fB,fR,dH,db,b4,0,0,cX,(left-1)],[gz,[],eC],[gs,eN,[],[]],[]⟩ (.inl (⟨_,_,_,_,_,_,_,_,_,_,_,_,_,_,_,_,_,_,_,_,_,_,_,_,rfl,(MS.mv a8),A5,kn,kn,kn,kn,kn,kn⟩))
   refine AL pure 1 ?_
   obtain ⟨_,(⟨ey,ef,dE,c5,cK,bD,dX,fE,fS,rfl,aK,jy,iP,i3⟩|⟨fU,eU,fQ,dD,fw,dh,b0,bG,ct,aP,ep,d1,fL,et,rfl,aJ,jF,hn,iC,gJ,hA,gP⟩),cA⟩:=aF loop pure (depth+1) f U q C count (left-1) call j B V (MS.mv x)
   ·refine ch cA ?_
    have ⟨_,_,ix,h0,iV,gI,hH,iZ,_,_,_⟩:=aK
    exact Ag ⟨[2,0,0,ey,ef,dE,c5,cK,0,0,0,0,0,0,0,bD,(left-1)],[dX,fE,[]],[fS,[],[],[]],[]⟩ (.inl (⟨_,_,_,_,_,_,_,_,_,_,_,_,_,_,_,_,_,_,_,_,_,_,_,_,rfl,(MS.mv aK),A5,kn,kn,kn,kn,kn,kn⟩))
   refine cm cA ?_
   refine ch cA ?_
   have ⟨_,_,jW,j0,ja,iA,iQ,jT,_,_,_⟩:=aJ
   exact Ag ⟨[1,eU,0,fQ,dD,fw,dh,b0,0,0,0,bG,ct,aP,(left-1)],[ep,d1],[fL,[],[],[],et],[]⟩ (.inr ((⟨fU,_,_,_,_,_,_,_,_,_,_,_,_,_,_,_,_,_,_,_,_,_,_,rfl,(MS.mv aJ),A5,A5,kn,kn,kn,kn,kn,kn,kn,kn⟩)))
  refine AL loop 1 ?_
  obtain ⟨_,⟨gk,cU,rfl,mX,lP,ml⟩,io⟩:=h8 hB hl q C count (left-1) call j V
  refine ch io ?_
  refine de [] ?_
  refine ll 0 [] ?_
  exact Ag ⟨[(7+(gk%2)),0,0,0,0,0,0,0,0,0,0,0,0,0,0,cU,(left-1)],[[],[],[]],[[],[],[],[]],[]⟩ (.inl (⟨_,_,_,_,_,_,_,_,_,_,_,_,_,_,_,_,_,_,_,_,_,_,_,_,rfl,(MS.mv x),A5,kn,kn,kn,kn,kn,kn⟩))
 refine sn pure 0 (fun i2=>?_) fun i2=>?_
 ·refine eq (X%14) 7 (fun hN=>?_) fun hN=>?_
  ·refine sn aw 0 (fun hY=>?_) fun hY=>?_
   ·obtain ⟨_,⟨dN,ff,eS,dk,eY,cV,cb,gg,eM,gp,dj,rfl,a6,mb,ly,mA,kV⟩,hX⟩:=ab loop pure (depth+1) U q C count (left-1) call j B V (MS.mv x)
    refine ch hX ?_
    have ⟨_,_,lx,mZ,l8,lz,mY,k8,_,_,_⟩:=a6
    exact Ag ⟨[3,0,0,5,17,0,0,dN,ff,eS,dk,eY,cV,0,0,cb,(left-1)],[gg,[],eM],[gp,dj,[],[]],[]⟩ (.inl (⟨_,_,_,_,_,_,_,_,_,_,_,_,_,_,_,_,_,_,_,_,_,_,_,_,rfl,(MS.mv a6),A5,kn,kn,kn,kn,kn,kn⟩))
   refine AL aw 1 ?_
   refine de [] ?_
   refine ll 0 [] ?_
   exact Ag ⟨[10,0,0,0,0,0,0,0,0,0,0,0,0,0,0,q,(left-1)],[[],[],[]],[[],[],[],[]],[]⟩ (.inl (⟨_,_,_,_,_,_,_,_,_,_,_,_,_,_,_,_,_,_,_,_,_,_,_,_,rfl,(MS.mv x),A5,kn,kn,kn,kn,kn,kn⟩))
  refine eq (X%14) 8 (fun iu=>?_) fun iu=>?_
  ·refine sn aw 0 (fun gG=>?_) fun gG=>?_
   ·obtain ⟨_,⟨d4,fa,c2,c3,dy,cB,cN,gi,fq,f5,ew,rfl,bk,mW,mP,lf,l1⟩,hU⟩:=ab loop pure (depth+1) U q C count (left-1) call j B V (MS.mv x)
    refine ch hU ?_
    have ⟨_,_,kM,mF,mt,l2,lT,mO,_,_,_⟩:=bk
    exact Ag ⟨[3,0,0,5,17,0,0,d4,fa,c2,c3,dy,cB,0,0,cN,(left-1)],[gi,[],fq],[f5,ew,[],[]],[]⟩ (.inl (⟨_,_,_,_,_,_,_,_,_,_,_,_,_,_,_,_,_,_,_,_,_,_,_,_,rfl,(MS.mv bk),A5,kn,kn,kn,kn,kn,kn⟩))
   refine AL aw 1 ?_
   obtain ⟨_,(⟨b5,dF,e4,en,fF,cz,cP,b7,bX,bI,bA,bF,dU,e1,cr,eE,bV,rfl,av,kD,h5,gZ,jn⟩|⟨dR,ei,eH,d9,dM,ea,b1,bH,cH,ay,dw,fG,eu,eg,rfl,au,jL,jX,jM,i4,kh,gY⟩),bY⟩:=i1 loop pure (depth+1) f U q C count (left-1) call j B V (MS.mv x)
   ·refine ch bY ?_
    have ⟨_,_,j1,g5,j8,hw,gF,gV,_,_,_⟩:=av
    exact Ag ⟨[12,b5,0,dF,e4,en,fF,cz,cP,b7,bX,bI,bA,0,0,bF,(left-1)],[dU,e1,cr],[eE,bV,[],[]],[]⟩ (.inl (⟨_,_,_,_,_,_,_,_,_,_,_,_,_,_,_,_,_,_,_,_,_,_,_,_,rfl,(MS.mv av),A5,kn,kn,kn,kn,kn,kn⟩))
   refine cm bY ?_
   refine ch bY ?_
   have ⟨_,_,iX,g4,kc,jJ,gX,jE,_,_,_⟩:=au
   exact Ag ⟨[1,ei,0,eH,d9,dM,ea,b1,0,0,0,bH,cH,ay,(left-1)],[dw,fG],[eu,[],[],[],eg],[]⟩ (.inr ((⟨dR,_,_,_,_,_,_,_,_,_,_,_,_,_,_,_,_,_,_,_,_,_,_,rfl,(MS.mv au),A5,A5,kn,kn,kn,kn,kn,kn,kn,kn⟩)))
  refine eq (X%14) 9 (fun jO=>?_) fun jO=>?_
  ·obtain ⟨_,⟨A,cZ,N,rfl,k2,k5,mc,l9⟩,hI⟩:=hZ (x.Fc count (left-1)) (IY.of (x.Fc count (left-1)) (n:=10) @ba) 8 3 q
   refine ch hI ?_
   obtain ⟨_,⟨AcQ,bS,rfl,lU,mu,mK⟩,j9⟩:=h8 hB hl cZ C count (left-1) call j V
   refine ch j9 ?_
   obtain ⟨_,⟨L,bW,rfl,l4,mq,lC⟩,iU⟩:=h8 hB hl bS C count (left-1) call j V
   refine ch iU ?_
   obtain ⟨_,⟨H,P,O,J,z,v,Q,I,rfl,ms,k3,lO,lp⟩,jv⟩:=ba (x.Fc count (left-1)) 1 3 bW
   refine ch jv ?_
   refine eq (AcQ%2) 0 (fun i6=>?_) fun i6=>?_
   ·refine eq (L%6) 0 (fun ke=>?_) fun ke=>?_
    ·refine de [] ?_
     refine ll 0 [] ?_
     exact Ag ⟨[4,10,0,5,17,0,0,A,H,P,O,J,z,0,0,v,(left-1)],[[97],[],Q],[N,I,[],[]],[]⟩ (.inl (⟨_,_,_,_,_,_,_,_,_,_,_,_,_,_,_,_,_,_,_,_,_,_,_,_,rfl,(MS.mv x),A5,kn,kn,kn,kn,kn,kn⟩))
    refine eq (L%6) 1 (fun iq=>?_) fun iq=>?_
    ·refine de [] ?_
     refine ll 0 [] ?_
     exact Ag ⟨[4,22,0,5,17,0,0,A,H,P,O,J,z,0,0,v,(left-1)],[[97],[],Q],[N,I,[],[]],[]⟩ (.inl (⟨_,_,_,_,_,_,_,_,_,_,_,_,_,_,_,_,_,_,_,_,_,_,_,_,rfl,(MS.mv x),A5,kn,kn,kn,kn,kn,kn⟩))
    refine eq (L%6) 2 (fun ir=>?_) fun ir=>?_
    ·refine de [] ?_
     refine ll 0 [] ?_
     exact Ag ⟨[4,23,0,5,17,0,0,A,H,P,O,J,z,0,0,v,(left-1)],[[97],[],Q],[N,I,[],[]],[]⟩ (.inl (⟨_,_,_,_,_,_,_,_,_,_,_,_,_,_,_,_,_,_,_,_,_,_,_,_,rfl,(MS.mv x),A5,kn,kn,kn,kn,kn,kn⟩))
    refine eq (L%6) 3 (fun ka=>?_) fun ka=>?_
    ·refine de [] ?_
     refine ll 0 [] ?_
     exact Ag ⟨[4,17,0,5,17,0,0,A,H,P,O,J,z,0,0,v,(left-1)],[[97],[],Q],[N,I,[],[]],[]⟩ (.inl (⟨_,_,_,_,_,_,_,_,_,_,_,_,_,_,_,_,_,_,_,_,_,_,_,_,rfl,(MS.mv x),A5,kn,kn,kn,kn,kn,kn⟩))
    refine eq (L%6) 4 (fun i5=>?_) fun i5=>?_
    ·refine de [] ?_
     refine ll 0 [] ?_
     exact Ag ⟨[4,18,0,5,17,0,0,A,H,P,O,J,z,0,0,v,(left-1)],[[97],[],Q],[N,I,[],[]],[]⟩ (.inl (⟨_,_,_,_,_,_,_,_,_,_,_,_,_,_,_,_,_,_,_,_,_,_,_,_,rfl,(MS.mv x),A5,kn,kn,kn,kn,kn,kn⟩))
    refine AH (L%6) 5 ?_
    refine de [] ?_
    refine ll 0 [] ?_
    exact Ag ⟨[4,19,0,5,17,0,0,A,H,P,O,J,z,0,0,v,(left-1)],[[97],[],Q],[N,I,[],[]],[]⟩ (.inl (⟨_,_,_,_,_,_,_,_,_,_,_,_,_,_,_,_,_,_,_,_,_,_,_,_,rfl,(MS.mv x),A5,kn,kn,kn,kn,kn,kn⟩))
   refine AH (AcQ%2) 1 ?_
   refine eq (L%6) 0 (fun gK=>?_) fun gK=>?_
   ·refine de [] ?_
    refine ll 0 [] ?_
    exact Ag ⟨[4,10,0,5,17,0,0,A,H,P,O,J,z,0,0,v,(left-1)],[[115],[],Q],[N,I,[],[]],[]⟩ (.inl (⟨_,_,_,_,_,_,_,_,_,_,_,_,_,_,_,_,_,_,_,_,_,_,_,_,rfl,(MS.mv x),A5,kn,kn,kn,kn,kn,kn⟩))
   refine eq (L%6) 1 (fun iR=>?_) fun iR=>?_
   ·refine de [] ?_
    refine ll 0 [] ?_
    exact Ag ⟨[4,22,0,5,17,0,0,A,H,P,O,J,z,0,0,v,(left-1)],[[115],[],Q],[N,I,[],[]],[]⟩ (.inl (⟨_,_,_,_,_,_,_,_,_,_,_,_,_,_,_,_,_,_,_,_,_,_,_,_,rfl,(MS.mv x),A5,kn,kn,kn,kn,kn,kn⟩))
   refine eq (L%6) 2 (fun gC=>?_) fun gC=>?_
   ·refine de [] ?_
    refine ll 0 [] ?_
    exact Ag ⟨[4,23,0,5,17,0,0,A,H,P,O,J,z,0,0,v,(left-1)],[[115],[],Q],[N,I,[],[]],[]⟩ (.inl (⟨_,_,_,_,_,_,_,_,_,_,_,_,_,_,_,_,_,_,_,_,_,_,_,_,rfl,(MS.mv x),A5,kn,kn,kn,kn,kn,kn⟩))
   refine eq (L%6) 3 (fun he=>?_) fun he=>?_
   ·refine de [] ?_
    refine ll 0 [] ?_
    exact Ag ⟨[4,17,0,5,17,0,0,A,H,P,O,J,z,0,0,v,(left-1)],[[115],[],Q],[N,I,[],[]],[]⟩ (.inl (⟨_,_,_,_,_,_,_,_,_,_,_,_,_,_,_,_,_,_,_,_,_,_,_,_,rfl,(MS.mv x),A5,kn,kn,kn,kn,kn,kn⟩))
   refine eq (L%6) 4 (fun gT=>?_) fun gT=>?_
   ·refine de [] ?_
    refine ll 0 [] ?_
    exact Ag ⟨[4,18,0,5,17,0,0,A,H,P,O,J,z,0,0,v,(left-1)],[[115],[],Q],[N,I,[],[]],[]⟩ (.inl (⟨_,_,_,_,_,_,_,_,_,_,_,_,_,_,_,_,_,_,_,_,_,_,_,_,rfl,(MS.mv x),A5,kn,kn,kn,kn,kn,kn⟩))
   refine AH (L%6) 5 ?_
   refine de [] ?_
   refine ll 0 [] ?_
   exact Ag ⟨[4,19,0,5,17,0,0,A,H,P,O,J,z,0,0,v,(left-1)],[[115],[],Q],[N,I,[],[]],[]⟩ (.inl (⟨_,_,_,_,_,_,_,_,_,_,_,_,_,_,_,_,_,_,_,_,_,_,_,_,rfl,(MS.mv x),A5,kn,kn,kn,kn,kn,kn⟩))
  refine eq (X%14) 10 (fun iz=>?_) fun iz=>?_
  ·obtain ⟨_,⟨gl,bT,rfl,lg,mf,mx⟩,jc⟩:=h8 hB hl q C count (left-1) call j V
   refine ch jc ?_
   refine de [] ?_
   refine ll 0 [] ?_
   exact Ag ⟨[11,(1+(gl%2)),0,0,0,0,0,0,0,0,0,0,0,0,0,bT,(left-1)],[[],[],[]],[[],[],[],[]],[]⟩ (.inl (⟨_,_,_,_,_,_,_,_,_,_,_,_,_,_,_,_,_,_,_,_,_,_,_,_,rfl,(MS.mv x),A5,kn,kn,kn,kn,kn,kn⟩))
  obtain ⟨_,⟨dZ,fk,ez,es,c6,c1,cS,gv,er,gu,fC,rfl,bj,nf,k4,lu,m6⟩,hS⟩:=ab loop pure (depth+1) U q C count (left-1) call j B V (MS.mv x)
  refine ch hS ?_
  have ⟨_,_,kP,mM,l3,na,mG,mi,_,_,_⟩:=bj
  exact Ag ⟨[3,0,0,5,17,0,0,dZ,fk,ez,es,c6,c1,0,0,cS,(left-1)],[gv,[],er],[gu,fC,[],[]],[]⟩ (.inl (⟨_,_,_,_,_,_,_,_,_,_,_,_,_,_,_,_,_,_,_,_,_,_,_,_,rfl,(MS.mv bj),A5,kn,kn,kn,kn,kn,kn⟩))
 refine AL pure 1 ?_
 obtain ⟨_,(⟨eA,e8,dY,e6,bN,bx,dW,eK,dt,rfl,aR,iv,kp,jm⟩|⟨e5,du,ed,d0,eJ,fP,cq,br,cG,aE,fT,fJ,fo,eZ,rfl,ax,jq,h6,ik,kg,ku,ip⟩),co⟩:=aF loop pure (depth+1) f U q C count (left-1) call j B V (MS.mv x)
 ·refine ch co ?_
  have ⟨_,_,im,ia,ib,ij,i7,kr,_,_,_⟩:=aR
  exact Ag ⟨[2,0,0,eA,e8,dY,e6,bN,0,0,0,0,0,0,0,bx,(left-1)],[dW,eK,[]],[dt,[],[],[]],[]⟩ (.inl (⟨_,_,_,_,_,_,_,_,_,_,_,_,_,_,_,_,_,_,_,_,_,_,_,_,rfl,(MS.mv aR),A5,kn,kn,kn,kn,kn,kn⟩))
 refine cm co ?_
 refine ch co ?_
 have ⟨_,_,ho,jp,iG,h9,iO,jw,_,_,_⟩:=ax
 exact Ag ⟨[1,du,0,ed,d0,eJ,fP,cq,0,0,0,br,cG,aE,(left-1)],[fT,fJ],[fo,[],[],[],eZ],[]⟩ (.inr ((⟨e5,_,_,_,_,_,_,_,_,_,_,_,_,_,_,_,_,_,_,_,_,_,_,rfl,(MS.mv ax),A5,A5,kn,kn,kn,kn,kn,kn,kn,kn⟩)))
theorem U9 {E:Bool} {d v x Y J N z H O I L j q:Nat} (hT:trees v=XZ d Y J N z H O I L j q) (h8:Tw Y) (Z:Yf E J) (aa:Acn E N) (R:RD z) (U:Acm E H) (P:Acl E O) (X:V3 z I) (Q:Yc E v L) (A:Tw j) (C:Yc false x q) (hx:∀n,FX E v n->FX false x n):Ad8 E v:=fun {Γ} {K} {M} f depth top loop pure bl pos vl count left call loads B V hM h=>AnB hT @h8 @Z @aa @R @U @P @X @Q @A @C hx (depth.toNat+1) f depth top loop pure bl pos vl count left call loads B V hM ⟨h.1,h.2.1,h.2.2.1,h.2.2.2.1,h.2.2.2.2.1,h.2.2.2.2.2,Nat.lt_succ_self _⟩
theorem Aho:Yf false 14:=by
 intro Γ f K M lo pu D bl pos I count left call v B V x h
 have ⟨R,aw,ak,ap,ay,aq,ax,az,an,al,av⟩:=x;have ⟨hB,hl,hvl,GN,hV,hb,hc,hd⟩:=R;have aA:G 3=40:=rfl;have au:G 2=12:=rfl;have ao:G (3-1)=12:=rfl
 refine .of (t:=Afl) rfl ?_
 conv=>arg 3;reduce
 obtain ⟨_,⟨j,A,rfl,af,aj,ai⟩,U⟩:=Ln hB hl pos I count left call v V
 refine ch U ?_
 obtain ⟨_,⟨L,O,N,Q,C,z,P,J,rfl,Y,aa,ab,Z⟩,G2⟩:=IS (x.Fc count left) (1+(j%3)) 3 A
 refine ch G2 ?_
 obtain ⟨_,⟨q,rfl,X,ae⟩,G3⟩:=Ak9 count
 refine ch G3 ?_
 refine ca [118] q ?_
 refine dL (V.take I.toNat++[[PV.str ([118]++q),.int .i64 (1+(j%3))]]) (fun H e4=>?_) (Bq (pt I V) pe)
 have f4:=cL e4;try simp only [lA,lC,lN,lT']at f4
 refine Er (H.length:Int) 1048576 ?_
 refine de [] ?_
 refine ll 0 [] ?_
 exact Ag ⟨[(1+(j%3)),L,O,N,Q,C,0,0,0,z,(H.length:Int),(count+1)],[([118]++q),P],[J,[],[],[],H],[]⟩ (⟨(Γ.E9 ([118]++q) (3,(1+(j%3)),0)),_,_,_,_,_,_,_,_,_,_,_,_,_,rfl,(by subst_vars;exact MS.more x asm om om om),(DU.decl (d:=3) x asm asm om),(by subst_vars;exact Ext.more om),kn,om,kn,kn⟩)
theorem Ahm:Yf true 20:=by
 intro Γ f K M lo pu D bl pos vl count left call v B V x h
 have ⟨R,aw,al,aq,ay,au,ax,az,ao,an,J⟩:=x;have ⟨hB,hl,hvl,GN,hV,hb,hc,hd⟩:=R;have aA:G 3=40:=rfl;have av:G 2=12:=rfl;have ap:G (3-1)=12:=rfl;have aB:=J rfl
 refine .of (t:=Afk) rfl ?_
 conv=>arg 3;reduce
 obtain ⟨_,⟨j,A,rfl,ag,ak,aj⟩,U⟩:=XS hB hl pos vl count left call v V
 refine ch U ?_
 obtain ⟨_,⟨L,O,N,Q,C,z,P,I,rfl,Y,aa,ac,Z⟩,G2⟩:=Vq (x.Fc count left) (1+(j%3)) 3 A
 refine ch G2 ?_
 obtain ⟨_,⟨q,rfl,X,af⟩,G3⟩:=Ak9 count
 refine ch G3 ?_
 refine ca [118] q ?_
 refine dL (V++[[PV.str ([118]++q),.int .i64 (1+(j%3))]]) (fun H e4=>?_) (Bq rfl pe)
 have f4:=cL e4;try simp only [lA,lC,lN,lT']at f4
 refine Er (H.length:Int) 1048576 ?_
 refine de [] ?_
 refine ll 0 [] ?_
 exact Ag ⟨[(1+(j%3)),L,O,N,Q,C,0,0,0,z,(H.length:Int),(count+1)],[([118]++q),P],[I,[],[],[],H],[]⟩ (⟨(Γ.E9 ([118]++q) (3,(1+(j%3)),0)),_,_,_,_,_,_,_,_,_,_,_,_,_,rfl,(by subst_vars;exact MS.AaU x asm om om om),(DU.decl (d:=3) x asm asm om),(by subst_vars;exact Ext.AaU om),kn,om,kn,kn⟩)
theorem Ao3:Acn false 15:=@Adj false 1 15 8 14 16 rfl @Ln @Aho @IS
theorem Ao1:Acn true 21:=@Adj true 0 21 9 20 22 rfl @XS @Ahm @Vq
theorem Ov:Acm false 17:=@Akf false 1 17 8 16 19 rfl @Ln @IS @Ahn
theorem Ao0:Acm true 23:=@Akf true 0 23 9 22 25 rfl @XS @Vq @Ahl
theorem Ao2:Acl false 18:=@Adi false 1 18 8 14 16 rfl @Ln @Aho @IS
theorem Aoz:Acl true 24:=@Adi true 0 24 9 20 22 rfl @XS @Ahm @Vq
end
end Go.Proofs.YtbmofjdmgjpfoaaGreatDoor.Am
