/- Part 26 of MeaningCalls. -/
import Derived.Test.YtaolbokoijfhnaaGreatDoorJ16
set_option linter.all false
namespace Go.Proofs.YtaolbokoijfhnaaGreatDoor.Am
section
set_option maxHeartbeats 4000000
set_option maxRecDepth 100000
open Go.AM Go.AM.K
def T9 (N:Nat):Prop:=∀{v:Int} {B:Rs} (hB:BV B) (hl:v=B.length) (pos z:Int) (count left:Int) (call q:Int) (V:Rs) (h:0<=pos/\pos<=1000000:=by exact kn),Ok trees N ⟨[v,pos,z,count,left,call,q],[],[B,V],[]⟩ fun x=>(∃(r j:Int),x=(0,(⟨[r,j],[],[],[]⟩:Aj))/\(j=pos+1)/\(0<=r)/\(r<=255))
theorem XX {d x:Nat} (H:trees x=T_8 d):T9 x:=by
 intro v B hB hl pos J count left call z V h
 refine .of (t:=T_8 d) H ?_
 conv=>arg 3;delta T_8;conv=>arg 3;reduce
 conv=>arg 3;reduce
 refine gt (pos+1) v (fun A=>?_) fun A=>?_
 ·exact Ah ⟨[0,(pos+1)],[],[],[]⟩ (⟨_,_,rfl,kn,kn,kn⟩)
 refine Dv ((pos+1)-1) 0 ?_
 refine CF ((pos+1)-1) v ?_
 obtain ⟨q,j,I,C⟩:=Pz hB ((pos+1)-1) om om
 refine el j ?_
 exact Ah ⟨[q,(pos+1)],[],[],[]⟩ (⟨_,_,rfl,kn,kn,kn⟩)
theorem Lr:T9 8:=@XX 1 8 rfl
theorem Yr:T9 9:=@XX 0 9 rfl
def Ano (N:Nat) (Γ:Ctx) (f A:Int) (x count:Int) (left call loads:Int) (B V:Rs) (n:Nat):Prop:=∀(t j pos:Int) (h:0<=j/\j<=x/\(x-j).toNat<n),Ok trees N ⟨[t,j,A,pos,x,count,left,call,loads],[],[B,V],[]⟩ fun z=>(z=(0,v0))∨(∃(q:Int),∃(v:Rs),z=(1,(⟨[q],[],[v],[]⟩:Aj))/\(HO Γ t v)/\(q=v.length)/\(v.length<=40)/\(0<q))
def AhL (N:Nat):Prop:=∀{Γ:Ctx} {f A:Int} {x count:Int} {left call loads:Int} {B V:Rs} (C:NL Γ f A x count left call loads B V) (t j pos:Int) (h:0<=j/\j<=x:=by exact kn),Ok trees N ⟨[t,j,A,pos,x,count,left,call,loads],[],[B,V],[]⟩ fun z=>(z=(0,v0))∨(∃(q:Int),∃(v:Rs),z=(1,(⟨[q],[],[v],[]⟩:Aj))/\(HO Γ t v)/\(q=v.length)/\(v.length<=40)/\(0<q))
def Aec (N:Nat):Prop:=∀{Γ:Ctx} {f z:Int} {x count:Int} {left call loads:Int} {B V:Rs} (A:NL Γ f z x count left call loads B V) (t pos:Int) (h:0<=pos/\pos<=1000000:=by exact kn),Ok trees N ⟨[t,z,pos,x,count,left,call,loads],[],[B,V],[]⟩ fun q=>(q=(0,v0))∨(∃(j:Int),∃(v:List Nat),q=(1,(⟨[j],[v],[],[]⟩:Aj))/\(P4 Γ t v)/\(j=pos+1))
theorem Ad8 {d C I v:Nat} (X:trees C=Ac3 d I v) (h8:T9 I) (N:AhL v):Aec C:=by
 intro Γ f bl vl count left call x B V M t pos h
 have ⟨hB,hl,hvl,GP,hV,hb,hc,hd⟩:=M
 refine .of (t:=Ac3 d I v) X ?_
 conv=>arg 3;delta Ac3;conv=>arg 3;reduce
 conv=>arg 3;reduce
 obtain ⟨_,(rfl|⟨j,ac,rfl,A,P,Q,O⟩),J⟩:=N M t 0 pos
 ·refine ch J ?_
  exact Ah v0 (.inl rfl)
 refine cm J ?_
 refine ch J ?_
 refine eq j 0 (fun R=>?_) fun R=>?_
 ·exact Ah v0 (.inl rfl)
 obtain ⟨_,⟨q,z,rfl,U,Y,ae⟩,G3⟩:=h8 hB hl pos vl count left call x V
 refine ch G3 ?_
 have m4:=Int.emod_nonneg q (show j≠0 by omega);have af:=Int.emod_lt_of_pos q (show 0<j by omega)
 refine Dv (q%j) 0 ?_
 refine CF (q%j) j ?_
 obtain ⟨H,L,Z⟩:=A (q%j) om om
 refine el L ?_
 exact Ah ⟨[z],[H],[],[]⟩ (.inr ((⟨_,_,rfl,fin,kn⟩)))
def Y2 (N:Nat):Prop:=∀{Γ:Ctx} {f H:Int} {A count:Int} {left call loads:Int} {B V:Rs} (M:NL Γ f H A count left call loads B V) (t pos:Int) (h:1<=t/\t<=3/\0<=pos/\pos+2<=1000000:=by exact kn),Ok trees N ⟨[t,H,pos,A,count,left,call,loads],[],[B,V],[]⟩ fun L=>(∃(J C I z q j:Int),∃(x:List Nat),∃(v:Rs),L=(0,(⟨[J,C,I,z,q,j],[x],[v],[]⟩:Aj))/\(CQ Γ t 1 J C I z x v)/\(q=v.length)/\(pos<=j)/\(j<=pos+2))
theorem AbH {d A H x:Nat} (X:trees A=Ac7 d H x) (h8:T9 H) (L:Aec x):Y2 A:=by
 intro Γ f bl vl count left call z B V J t pos h
 have ⟨hB,hl,hvl,GP,hV,hb,hc,hd⟩:=J
 refine .of (t:=Ac7 d H x) X ?_
 conv=>arg 3;delta Ac7;conv=>arg 3;reduce
 conv=>arg 3;reduce
 obtain ⟨_,⟨j,v,rfl,Y,Z,ae⟩,G1⟩:=h8 hB hl pos vl count left call z V
 refine ch G1 ?_
 obtain ⟨_,(rfl|⟨q,I,rfl,M,N⟩),C⟩:=L J t v
 ·refine ch C ?_
  refine eq t 1 (fun O=>?_) fun O=>?_
  ·refine eq (j%4) 1 (fun P=>?_) fun P=>?_
   ·refine de [] ?_
    refine ll 0 [] ?_
    exact Ah ⟨[3,(1+((j/4)%7)),0,0,0,v],[[]],[[]],[]⟩ (⟨_,_,_,_,_,_,_,_,rfl,fin,kn,kn,kn⟩)
   refine de [] ?_
   refine ll 0 [] ?_
   exact Ah ⟨[1,0,t,((j%16)-4),0,v],[[]],[[]],[]⟩ (⟨_,_,_,_,_,_,_,_,rfl,fin,kn,kn,kn⟩)
  refine eq t 2 (fun t5=>?_) fun t5=>?_
  ·refine de [] ?_
   refine ll 0 [] ?_
   exact Ah ⟨[1,0,t,((j*16384)-100000),0,v],[[]],[[]],[]⟩ (⟨_,_,_,_,_,_,_,_,rfl,fin,kn,kn,kn⟩)
  refine de [] ?_
  refine ll 0 [] ?_
  exact Ah ⟨[1,0,t,((j/4)%2),0,v],[[]],[[]],[]⟩ (⟨_,_,_,_,_,_,_,_,rfl,fin,kn,kn,kn⟩)
 refine cm C ?_
 refine ch C ?_
 refine eq (j%2) 0 (fun R=>?_) fun R=>?_
 ·refine de [] ?_
  refine ll 0 [] ?_
  exact Ah ⟨[2,0,0,0,0,q],[I],[[]],[]⟩ (⟨_,_,_,_,_,_,_,_,rfl,fin,kn,kn,kn⟩)
 refine eq t 1 (fun Q=>?_) fun Q=>?_
 ·refine eq (j%4) 1 (fun t8=>?_) fun t8=>?_
  ·refine de [] ?_
   refine ll 0 [] ?_
   exact Ah ⟨[3,(1+((j/4)%7)),0,0,0,q],[[]],[[]],[]⟩ (⟨_,_,_,_,_,_,_,_,rfl,fin,kn,kn,kn⟩)
  refine de [] ?_
  refine ll 0 [] ?_
  exact Ah ⟨[1,0,t,((j%16)-4),0,q],[[]],[[]],[]⟩ (⟨_,_,_,_,_,_,_,_,rfl,fin,kn,kn,kn⟩)
 refine eq t 2 (fun U=>?_) fun U=>?_
 ·refine de [] ?_
  refine ll 0 [] ?_
  exact Ah ⟨[1,0,t,((j*16384)-100000),0,q],[[]],[[]],[]⟩ (⟨_,_,_,_,_,_,_,_,rfl,fin,kn,kn,kn⟩)
 refine de [] ?_
 refine ll 0 [] ?_
 exact Ah ⟨[1,0,t,((j/4)%2),0,q],[[]],[[]],[]⟩ (⟨_,_,_,_,_,_,_,_,rfl,fin,kn,kn,kn⟩)
def Jd (N:Nat) (Γ:Ctx) (f J:Int) (I count:Int) (left call loads:Int) (B V:Rs) (n:Nat):Prop:=∀(t depth pos:Int) (h:1<=t/\t<=3/\depth<=3/\0<=pos/\pos+G depth<=1000000/\depth.toNat<n),Ok trees N ⟨[t,depth,J,pos,I,count,left,call,loads],[],[B,V],[]⟩ fun L=>(∃(H A C z q j:Int),∃(x:List Nat),∃(v:Rs),L=(0,(⟨[H,A,C,z,q,j],[x],[v],[]⟩:Aj))/\(CQ Γ t depth H A C z x v)/\(q=v.length)/\(pos<=j)/\(j<=pos+G depth))
def RN (N:Nat):Prop:=∀{Γ:Ctx} {f H:Int} {A count:Int} {left call loads:Int} {B V:Rs} (M:NL Γ f H A count left call loads B V) (t depth pos:Int) (h:1<=t/\t<=3/\depth<=3/\0<=pos/\pos+G depth<=1000000:=by exact kn),Ok trees N ⟨[t,depth,H,pos,A,count,left,call,loads],[],[B,V],[]⟩ fun L=>(∃(J C I z q j:Int),∃(x:List Nat),∃(v:Rs),L=(0,(⟨[J,C,I,z,q,j],[x],[v],[]⟩:Aj))/\(CQ Γ t depth J C I z x v)/\(q=v.length)/\(pos<=j)/\(j<=pos+G depth))
theorem Jd.of {N:Nat} {Γ:Ctx} {f q:Int} {j count:Int} {left call loads:Int} {B V:Rs} (v:NL Γ f q j count left call loads B V) {n:Nat} (H:RN N):Jd N Γ f q j count left call loads B V n:=fun t depth pos h=>H v t depth pos (by have:=h;omega)
def VH (C N:Nat):Prop:=∀{m:Nat} {Γ:Ctx} {f x:Int} {v count:Int} {left call loads:Int} {B V:Rs} (J:NL Γ f x v count left call loads B V) (H:Jd C Γ f x v count left call loads B V m) (z depth pos:Int) (h:(z=4∨z=8)/\depth<=3/\¬depth<=1/\depth.toNat<=m/\0<=pos/\pos+G (depth-1)<=1000000:=by exact kn),Ok trees N ⟨[z,depth,x,pos,v,count,left,call,loads],[],[B,V],[]⟩ fun I=>(∃(q j:Int),∃(A:Rs),I=(0,(⟨[q,j],[],[A],[]⟩:Aj))/\(Idx Γ depth A)/\(q=A.length)/\(pos<=j)/\(j<=pos+G (depth-1)))
theorem NX {d v j:Nat} (Q:trees v=Ac8 d j):VH j v:=by
 intro m Γ f bl vl count left call N B V P z X depth pos h
 have ⟨hB,hl,hvl,GP,hV,hb,hc,hd⟩:=P;have ae:=GJ depth;have ad:=KL depth om;have ac:=GJ (depth-1)
 refine .of (t:=Ac8 d j) Q ?_
 conv=>arg 3;delta Ac8;conv=>arg 3;reduce
 conv=>arg 3;reduce
 obtain ⟨_,⟨J,C,M,I,A,q,H,x,rfl,R,U,ab,O⟩,G1⟩:=z 1 (depth-1) pos kn
 refine ch G1 ?_
 refine ll A x ?_
 refine dL [[.int .i64 J,.int .i64 C,.int .i64 M,.str H,.int .i32 I,.list 6 x],[.int .i64 1,.int .i64 0,.int .i64 1,.str [],.int .i32 (X-1),.list 6 []]] (fun L Y=>?_)
 have Z:=cL Y;try simp only [lA,lC,lN,lT']at Z
 refine ll 2 L ?_
 refine fr ?_
 exact Ah ⟨[2,q],[],[L],[]⟩ (⟨_,_,_,rfl,fin,kn,kn,kn⟩)
def Y1 (I N:Nat):Prop:=∀{m:Nat} {Γ:Ctx} {f A:Int} {z count:Int} {left call loads:Int} {B V:Rs} (M:NL Γ f A z count left call loads B V) (J:Jd I Γ f A z count left call loads B V m) (C depth pos:Int) (v:List Nat) (h:(C=4∨C=8)/\depth<=3/\¬depth<=1/\depth.toNat<=m/\0<=pos/\pos+G (depth-1)<=1000000:=by exact kn),Ok trees N ⟨[C,depth,A,pos,z,count,left,call,loads],[v],[B,V],[]⟩ fun L=>(∃(x j:Int),∃(q:List Nat),∃(H:Rs),L=(0,(⟨[x,j],[q],[H],[]⟩:Aj))/\(T7 Γ depth H)/\(q=v)/\(x=H.length)/\(pos<=j)/\(j<=pos+G (depth-1)))
theorem AkB {d z v j:Nat} (O:trees z=Ac2 d j) (I:VH v j):Y1 v z:=by
 intro m Γ f bl vl count left call M B V J A R depth pos C h
 have ⟨hB,hl,hvl,GP,hV,hb,hc,hd⟩:=J;have ac:=GJ depth;have ab:=KL depth om;have aa:=GJ (depth-1)
 refine .of (t:=Ac2 d j) O ?_
 conv=>arg 3;delta Ac2;conv=>arg 3;reduce
 conv=>arg 3;reduce
 obtain ⟨_,⟨H,q,x,rfl,P,Q,Z,N⟩,Y⟩:=I J @A R depth pos
 refine ch Y ?_
 refine ll H x ?_
 refine dL [[.int .i64 5,.int .i64 17,.int .i64 0,.str [],.int .i32 0,.list 6 x]] (fun L U=>?_)
 have X:=cL U;try simp only [lA,lC,lN,lT']at X
 refine ll 1 L ?_
 refine fr ?_
 exact Ah ⟨[1,q],[C],[L],[]⟩ (⟨_,_,_,_,rfl,fin,kn,kn,kn,kn⟩)
def AcI (A N:Nat):Prop:=∀{m:Nat} {Γ:Ctx} {f x:Int} {v count:Int} {left call loads:Int} {B V:Rs} (P:NL Γ f x v count left call loads B V) (M:Jd A Γ f x v count left call loads B V m) (k depth pos:Int) (h:0<=k/\k<=60/\depth<=3/\¬depth<=1/\depth.toNat<=m/\0<=pos/\pos+G depth<=1000001:=by exact kn),Ok trees N ⟨[k,depth,x,pos,v,count,left,call,loads],[],[B,V],[]⟩ fun O=>(∃(L I J H q j:Int),∃(C:List Nat),∃(z:Rs),O=(0,(⟨[L,I,J,H,q,j],[C],[z],[]⟩:Aj))/\(CQ Γ 1 depth L I J H C z)/\(q=z.length)/\(pos<=j)/\(j+1<=pos+G depth))
theorem AkD {d a3 ag N8 aB ay:Nat} (hT:trees a3=Ac6 d N8 ag aB ay) (h8:T9 N8) (aX:Y2 aB) (ah:Y1 ag ay):AcI ag a3:=by
 intro m Γ f bl vl count left call R B V hM A k depth pos h
 have ⟨hB,hl,hvl,GP,hV,hb,hc,hd⟩:=hM;have en:=GJ depth;have em:=KL depth om;have ek:=GJ (depth-1)
 refine .of (t:=Ac6 d N8 ag aB ay) hT ?_
 conv=>arg 3;delta Ac6;conv=>arg 3;reduce
 conv=>arg 3;reduce
 refine lt (k%18) 12 (fun t1=>?_) fun t1=>?_
 ·obtain ⟨_,⟨H,N,L,J,z,aM,O,j,rfl,d3,d5,d0,ei⟩,G2⟩:=A 1 (depth-1) pos kn
  refine ch G2 ?_
  obtain ⟨_,⟨C,Q,P,I,x,v,M,q,rfl,dW,eb,eg,eh⟩,G3⟩:=A 1 (depth-1) aM kn
  refine ch G3 ?_
  refine eq (k%18) 0 (fun t4=>?_) fun t4=>?_
  ·refine ll z j ?_
   refine ll x q ?_
   refine dL [[.int .i64 H,.int .i64 N,.int .i64 L,.str O,.int .i32 J,.list 6 j],[.int .i64 C,.int .i64 Q,.int .i64 P,.str M,.int .i32 I,.list 6 q]] (fun W5 e5=>?_)
   have f5:=cL e5;try simp only [lA,lC,lN,lT']at f5
   refine ll 2 W5 ?_
   refine fr ?_
   exact Ah ⟨[5,10,0,0,2,v],[[]],[W5],[]⟩ (⟨_,_,_,_,_,_,_,_,rfl,fin,kn,kn,kn⟩)
  refine eq (k%18) 1 (fun t6=>?_) fun t6=>?_
  ·refine ll z j ?_
   refine ll x q ?_
   refine dL [[.int .i64 H,.int .i64 N,.int .i64 L,.str O,.int .i32 J,.list 6 j],[.int .i64 C,.int .i64 Q,.int .i64 P,.str M,.int .i32 I,.list 6 q]] (fun W7 e7=>?_)
   have f7:=cL e7;try simp only [lA,lC,lN,lT']at f7
   refine ll 2 W7 ?_
   refine fr ?_
   exact Ah ⟨[5,11,0,0,2,v],[[]],[W7],[]⟩ (⟨_,_,_,_,_,_,_,_,rfl,fin,kn,kn,kn⟩)
  refine eq (k%18) 2 (fun t8=>?_) fun t8=>?_
  ·refine ll z j ?_
   refine ll x q ?_
   refine dL [[.int .i64 H,.int .i64 N,.int .i64 L,.str O,.int .i32 J,.list 6 j],[.int .i64 C,.int .i64 Q,.int .i64 P,.str M,.int .i32 I,.list 6 q]] (fun W9 e9=>?_)
   have f9:=cL e9;try simp only [lA,lC,lN,lT']at f9
   refine ll 2 W9 ?_
   refine fr ?_
   exact Ah ⟨[5,12,0,0,2,v],[[]],[W9],[]⟩ (⟨_,_,_,_,_,_,_,_,rfl,fin,kn,kn,kn⟩)
  refine eq (k%18) 3 (fun b3=>?_) fun b3=>?_
  ·refine ll z j ?_
   refine ll x q ?_
   refine dL [[.int .i64 H,.int .i64 N,.int .i64 L,.str O,.int .i32 J,.list 6 j],[.int .i64 C,.int .i64 Q,.int .i64 P,.str M,.int .i32 I,.list 6 q]] (fun aY cx=>?_)
   have bV:=cL cx;try simp only [lA,lC,lN,lT']at bV
   refine ll 2 aY ?_
   refine fr ?_
   exact Ah ⟨[5,13,0,0,2,v],[[]],[aY],[]⟩ (⟨_,_,_,_,_,_,_,_,rfl,fin,kn,kn,kn⟩)
  refine eq (k%18) 4 (fun cr=>?_) fun cr=>?_
  ·refine ll z j ?_
   refine ll x q ?_
   refine dL [[.int .i64 H,.int .i64 N,.int .i64 L,.str O,.int .i32 J,.list 6 j],[.int .i64 C,.int .i64 Q,.int .i64 P,.str M,.int .i32 I,.list 6 q]] (fun aR bP=>?_)
   have cN:=cL bP;try simp only [lA,lC,lN,lT']at cN
   refine ll 2 aR ?_
   refine fr ?_
   exact Ah ⟨[5,14,0,0,2,v],[[]],[aR],[]⟩ (⟨_,_,_,_,_,_,_,_,rfl,fin,kn,kn,kn⟩)
  refine eq (k%18) 5 (fun cF=>?_) fun cF=>?_
  ·refine ll z j ?_
   refine ll x q ?_
   refine dL [[.int .i64 H,.int .i64 N,.int .i64 L,.str O,.int .i32 J,.list 6 j],[.int .i64 C,.int .i64 Q,.int .i64 P,.str M,.int .i32 I,.list 6 q]] (fun a5 bM=>?_)
   have b5:=cL bM;try simp only [lA,lC,lN,lT']at b5
   refine ll 2 a5 ?_
   refine fr ?_
   exact Ah ⟨[5,17,0,0,2,v],[[]],[a5],[]⟩ (⟨_,_,_,_,_,_,_,_,rfl,fin,kn,kn,kn⟩)
  refine eq (k%18) 6 (fun bL=>?_) fun bL=>?_
  ·refine ll z j ?_
   refine ll x q ?_
   refine dL [[.int .i64 H,.int .i64 N,.int .i64 L,.str O,.int .i32 J,.list 6 j],[.int .i64 C,.int .i64 Q,.int .i64 P,.str M,.int .i32 I,.list 6 q]] (fun aZ cK=>?_)
   have bT:=cL cK;try simp only [lA,lC,lN,lT']at bT
   refine ll 2 aZ ?_
   refine fr ?_
   exact Ah ⟨[5,18,0,0,2,v],[[]],[aZ],[]⟩ (⟨_,_,_,_,_,_,_,_,rfl,fin,kn,kn,kn⟩)
  refine eq (k%18) 7 (fun cI=>?_) fun cI=>?_
  ·refine ll z j ?_
   refine ll x q ?_
   refine dL [[.int .i64 H,.int .i64 N,.int .i64 L,.str O,.int .i32 J,.list 6 j],[.int .i64 C,.int .i64 Q,.int .i64 P,.str M,.int .i32 I,.list 6 q]] (fun a4 ct=>?_)
   have cw:=cL ct;try simp only [lA,lC,lN,lT']at cw
   refine ll 2 a4 ?_
   refine fr ?_
   exact Ah ⟨[5,19,0,0,2,v],[[]],[a4],[]⟩ (⟨_,_,_,_,_,_,_,_,rfl,fin,kn,kn,kn⟩)
  refine eq (k%18) 8 (fun cD=>?_) fun cD=>?_
  ·refine ll z j ?_
   refine ll x q ?_
   refine dL [[.int .i64 H,.int .i64 N,.int .i64 L,.str O,.int .i32 J,.list 6 j],[.int .i64 C,.int .i64 Q,.int .i64 P,.str M,.int .i32 I,.list 6 q]] (fun aU cb=>?_)
   have bJ:=cL cb;try simp only [lA,lC,lN,lT']at bJ
   refine ll 2 aU ?_
   refine fr ?_
   exact Ah ⟨[5,20,0,0,2,v],[[]],[aU],[]⟩ (⟨_,_,_,_,_,_,_,_,rfl,fin,kn,kn,kn⟩)
  refine eq (k%18) 9 (fun cp=>?_) fun cp=>?_
  ·refine ll z j ?_
   refine ll x q ?_
   refine dL [[.int .i64 H,.int .i64 N,.int .i64 L,.str O,.int .i32 J,.list 6 j],[.int .i64 C,.int .i64 Q,.int .i64 P,.str M,.int .i32 I,.list 6 q]] (fun aV b8=>?_)
   have bY:=cL b8;try simp only [lA,lC,lN,lT']at bY
   refine ll 2 aV ?_
   refine fr ?_
   exact Ah ⟨[5,21,0,0,2,v],[[]],[aV],[]⟩ (⟨_,_,_,_,_,_,_,_,rfl,fin,kn,kn,kn⟩)
  refine eq (k%18) 10 (fun bU=>?_) fun bU=>?_
  ·refine ll z j ?_
   refine ll x q ?_
   refine dL [[.int .i64 H,.int .i64 N,.int .i64 L,.str O,.int .i32 J,.list 6 j],[.int .i64 C,.int .i64 Q,.int .i64 P,.str M,.int .i32 I,.list 6 q]] (fun a0 cM=>?_)
   have cg:=cL cM;try simp only [lA,lC,lN,lT']at cg
   refine ll 2 a0 ?_
   refine fr ?_
   exact Ah ⟨[5,22,0,0,2,v],[[]],[a0],[]⟩ (⟨_,_,_,_,_,_,_,_,rfl,fin,kn,kn,kn⟩)
  refine Bw (k%18) 11 ?_
  refine ll z j ?_
  refine ll x q ?_
  refine dL [[.int .i64 H,.int .i64 N,.int .i64 L,.str O,.int .i32 J,.list 6 j],[.int .i64 C,.int .i64 Q,.int .i64 P,.str M,.int .i32 I,.list 6 q]] (fun a2 cG=>?_)
  have co:=cL cG;try simp only [lA,lC,lN,lT']at co
  refine ll 2 a2 ?_
  refine fr ?_
  exact Ah ⟨[5,23,0,0,2,v],[[]],[a2],[]⟩ (⟨_,_,_,_,_,_,_,_,rfl,fin,kn,kn,kn⟩)
 refine eq (k%18) 12 (fun bW=>?_) fun bW=>?_
 ·obtain ⟨_,⟨Ad9,bh,bb,bi,aO,ap,bC,aw,rfl,dC,cY,c3,dl⟩,b4⟩:=A 2 (depth-1) pos kn
  refine ch b4 ?_
  refine ll aO aw ?_
  refine dL [[.int .i64 Ad9,.int .i64 bh,.int .i64 bb,.str bC,.int .i32 bi,.list 6 aw]] (fun a6 bS=>?_)
  have bX:=cL bS;try simp only [lA,lC,lN,lT']at bX
  refine ll 1 a6 ?_
  refine fr ?_
  exact Ah ⟨[4,5,0,0,1,ap],[[]],[a6],[]⟩ (⟨_,_,_,_,_,_,_,_,rfl,fin,kn,kn,kn⟩)
 refine eq (k%18) 13 (fun cB=>?_) fun cB=>?_
 ·obtain ⟨_,⟨ae,av,rfl,du,cS,cV⟩,bZ⟩:=h8 hB hl pos vl count left call R V
  refine ch bZ ?_
  obtain ⟨_,⟨Z,af,aa,ad,Y,X,ac,U,rfl,dy,dH,c9,dR⟩,cv⟩:=A 1 (depth-1) av kn
  refine ch cv ?_
  refine eq (ae%3) 0 (fun bN=>?_) fun bN=>?_
  ·refine ll Y U ?_
   refine dL [[.int .i64 Z,.int .i64 af,.int .i64 aa,.str ac,.int .i32 ad,.list 6 U]] (fun aP bO=>?_)
   have cc:=cL bO;try simp only [lA,lC,lN,lT']at cc
   refine ll 1 aP ?_
   refine fr ?_
   exact Ah ⟨[4,1,0,0,1,X],[[]],[aP],[]⟩ (⟨_,_,_,_,_,_,_,_,rfl,fin,kn,kn,kn⟩)
  refine eq (ae%3) 1 (fun cf=>?_) fun cf=>?_
  ·refine ll Y U ?_
   refine dL [[.int .i64 Z,.int .i64 af,.int .i64 aa,.str ac,.int .i32 ad,.list 6 U]] (fun a1 cA=>?_)
   have bR:=cL cA;try simp only [lA,lC,lN,lT']at bR
   refine ll 1 a1 ?_
   refine fr ?_
   exact Ah ⟨[4,2,0,0,1,X],[[]],[a1],[]⟩ (⟨_,_,_,_,_,_,_,_,rfl,fin,kn,kn,kn⟩)
  refine Bw (ae%3) 2 ?_
  refine ll Y U ?_
  refine dL [[.int .i64 Z,.int .i64 af,.int .i64 aa,.str ac,.int .i32 ad,.list 6 U]] (fun aQ cH=>?_)
  have bQ:=cL cH;try simp only [lA,lC,lN,lT']at bQ
  refine ll 1 aQ ?_
  refine fr ?_
  exact Ah ⟨[4,3,0,0,1,X],[[]],[aQ],[]⟩ (⟨_,_,_,_,_,_,_,_,rfl,fin,kn,kn,kn⟩)
 refine eq (k%18) 14 (fun ci=>?_) fun ci=>?_
 ·refine sn call 0 (fun cz=>?_) fun cz=>?_
  ·refine sn R 0 (fun b0=>?_) fun b0=>?_
   ·obtain ⟨_,⟨a8,bH,bw,bv,aK,au,bB,a9,rfl,dc,dj,dM,cO⟩,b6⟩:=aX hM 1 pos
    refine ch b6 ?_
    exact Ah ⟨[a8,bH,bw,bv,aK,au],[bB],[a9],[]⟩ (⟨_,_,_,_,_,_,_,_,rfl,fin,kn,kn,kn⟩)
   refine Bg R 1 ?_
   refine AB (k%3) 0 ?_
   refine Bw (k%2) 0 ?_
   obtain ⟨_,⟨aJ,ax,ai,br,rfl,dx,dt,dN,db,dJ⟩,cj⟩:=ah hM @A 8 depth pos [97]
   refine ch cj ?_
   exact Ah ⟨[7,0,0,0,aJ,ax],[ai],[br],[]⟩ (⟨_,_,_,_,_,_,_,_,rfl,fin,kn,kn,kn⟩)
  refine Bg call 1 ?_
  obtain ⟨_,⟨bD,bt,a7,bn,aH,aq,bo,aD,rfl,di,cQ,dG,c7⟩,b1⟩:=A 1 (depth-1) pos kn
  refine ch b1 ?_
  obtain ⟨_,⟨bz,bp,bc,ba,aL,ao,be,aC,rfl,cR,c6,c8,cP⟩,cd⟩:=A 1 (depth-1) aq kn
  refine ch cd ?_
  refine ll aH aD ?_
  refine ll aL aC ?_
  refine dL [[.int .i64 bD,.int .i64 bt,.int .i64 a7,.str bo,.int .i32 bn,.list 6 aD],[.int .i64 bz,.int .i64 bp,.int .i64 bc,.str be,.int .i32 ba,.list 6 aC]] (fun aW bK=>?_)
  have cC:=cL bK;try simp only [lA,lC,lN,lT']at cC
  refine ll 2 aW ?_
  refine fr ?_
  exact Ah ⟨[8,0,0,0,2,ao],[[104]],[aW],[]⟩ (⟨_,_,_,_,_,_,_,_,rfl,fin,kn,kn,kn⟩)
 refine sn R 0 (fun cu=>?_) fun cu=>?_
 ·obtain ⟨_,⟨bm,bE,bA,bf,aN,az,bk,bj,rfl,dE,dD,dk,dF⟩,cy⟩:=aX hM 1 pos
  refine ch cy ?_
  exact Ah ⟨[bm,bE,bA,bf,aN,az],[bk],[bj],[]⟩ (⟨_,_,_,_,_,_,_,_,rfl,fin,kn,kn,kn⟩)
 refine Bg R 1 ?_
 refine eq (k%3) 0 (fun b7=>?_) fun b7=>?_
 ·obtain ⟨_,⟨aF,an,aj,bg,rfl,c4,cX,dw,dv,dd⟩,b2⟩:=ah hM @A 4 depth pos [112]
  refine ch b2 ?_
  exact Ah ⟨[7,0,0,0,aF,an],[aj],[bg],[]⟩ (⟨_,_,_,_,_,_,_,_,rfl,fin,kn,kn,kn⟩)
 refine eq (k%2) 0 (fun cJ=>?_) fun cJ=>?_
 ·obtain ⟨_,⟨aG,aA,ak,bG,rfl,cT,c2,dU,cZ,cW⟩,bI⟩:=ah hM @A 8 depth pos [97]
  refine ch bI ?_
  exact Ah ⟨[7,0,0,0,aG,aA],[ak],[bG],[]⟩ (⟨_,_,_,_,_,_,_,_,rfl,fin,kn,kn,kn⟩)
 refine Bw (k%2) 1 ?_
 obtain ⟨_,⟨aI,aE,al,bx,rfl,cU,c5,dh,dz,c1⟩,cq⟩:=ah hM @A 8 depth pos [115]
 refine ch cq ?_
 exact Ah ⟨[7,0,0,0,aI,aE],[al],[bx],[]⟩ (⟨_,_,_,_,_,_,_,_,rfl,fin,kn,kn,kn⟩)
def AcH (A N:Nat):Prop:=∀{m:Nat} {Γ:Ctx} {f x:Int} {v count:Int} {left call loads:Int} {B V:Rs} (M:NL Γ f x v count left call loads B V) (J:Jd A Γ f x v count left call loads B V m) (k depth pos:Int) (h:0<=k/\k<=60/\depth<=3/\¬depth<=1/\depth.toNat<=m/\0<=pos/\pos+G depth<=1000001:=by exact kn),Ok trees N ⟨[k,depth,x,pos,v,count,left,call,loads],[],[B,V],[]⟩ fun L=>(∃(I H q j:Int),∃(C:List Nat),∃(z:Rs),L=(0,(⟨[I,H,q,j],[C],[z],[]⟩:Aj))/\(CQ Γ 2 depth I H 0 0 C z)/\(q=z.length)/\(pos<=j)/\(j+1<=pos+G depth))
theorem Ad9 {d aJ aa N8 al:Nat} (hT:trees aJ=Ac5 d N8 aa al) (h8:T9 N8) (bo:Y1 aa al):AcH aa aJ:=by
 intro m Γ f bl vl count left call R B V hM x k depth pos h
 have ⟨hB,hl,hvl,GP,hV,hb,hc,hd⟩:=hM;have cp:=GJ depth;have co:=KL depth om;have cj:=GJ (depth-1)
 refine .of (t:=Ac5 d N8 aa al) hT ?_
 conv=>arg 3;delta Ac5;conv=>arg 3;reduce
 conv=>arg 3;reduce
 refine lt (k%9) 6 (fun t1=>?_) fun t1=>?_
 ·obtain ⟨_,⟨H,N,L,J,A,aB,O,j,rfl,b2,b4,bZ,cg⟩,G2⟩:=x 2 (depth-1) pos kn
  refine ch G2 ?_
  obtain ⟨_,⟨C,Q,P,I,z,v,M,q,rfl,bW,b9,ce,cf⟩,G3⟩:=x 2 (depth-1) aB kn
  refine ch G3 ?_
  refine eq (k%9) 0 (fun t4=>?_) fun t4=>?_
  ·refine ll A j ?_
   refine ll z q ?_
   refine dL [[.int .i64 H,.int .i64 N,.int .i64 L,.str O,.int .i32 J,.list 6 j],[.int .i64 C,.int .i64 Q,.int .i64 P,.str M,.int .i32 I,.list 6 q]] (fun W5 e5=>?_)
   have f5:=cL e5;try simp only [lA,lC,lN,lT']at f5
   refine ll 2 W5 ?_
   refine fr ?_
   exact Ah ⟨[5,10,2,v],[[]],[W5],[]⟩ (⟨_,_,_,_,_,_,rfl,fin,kn,kn,kn⟩)
  refine eq (k%9) 1 (fun t6=>?_) fun t6=>?_
  ·refine ll A j ?_
   refine ll z q ?_
   refine dL [[.int .i64 H,.int .i64 N,.int .i64 L,.str O,.int .i32 J,.list 6 j],[.int .i64 C,.int .i64 Q,.int .i64 P,.str M,.int .i32 I,.list 6 q]] (fun W7 e7=>?_)
   have f7:=cL e7;try simp only [lA,lC,lN,lT']at f7
   refine ll 2 W7 ?_
   refine fr ?_
   exact Ah ⟨[5,11,2,v],[[]],[W7],[]⟩ (⟨_,_,_,_,_,_,rfl,fin,kn,kn,kn⟩)
  refine eq (k%9) 2 (fun t8=>?_) fun t8=>?_
  ·refine ll A j ?_
   refine ll z q ?_
   refine dL [[.int .i64 H,.int .i64 N,.int .i64 L,.str O,.int .i32 J,.list 6 j],[.int .i64 C,.int .i64 Q,.int .i64 P,.str M,.int .i32 I,.list 6 q]] (fun W9 e9=>?_)
   have f9:=cL e9;try simp only [lA,lC,lN,lT']at f9
   refine ll 2 W9 ?_
   refine fr ?_
   exact Ah ⟨[5,15,2,v],[[]],[W9],[]⟩ (⟨_,_,_,_,_,_,rfl,fin,kn,kn,kn⟩)
  refine eq (k%9) 3 (fun a6=>?_) fun a6=>?_
  ·refine ll A j ?_
   refine ll z q ?_
   refine dL [[.int .i64 H,.int .i64 N,.int .i64 L,.str O,.int .i32 J,.list 6 j],[.int .i64 C,.int .i64 Q,.int .i64 P,.str M,.int .i32 I,.list 6 q]] (fun aG bp=>?_)
   have a0:=cL bp;try simp only [lA,lC,lN,lT']at a0
   refine ll 2 aG ?_
   refine fr ?_
   exact Ah ⟨[5,16,2,v],[[]],[aG],[]⟩ (⟨_,_,_,_,_,_,rfl,fin,kn,kn,kn⟩)
  refine eq (k%9) 4 (fun bm=>?_) fun bm=>?_
  ·refine ll A j ?_
   refine ll z q ?_
   refine dL [[.int .i64 H,.int .i64 N,.int .i64 L,.str O,.int .i32 J,.list 6 j],[.int .i64 C,.int .i64 Q,.int .i64 P,.str M,.int .i32 I,.list 6 q]] (fun aD aR=>?_)
   have bx:=cL aR;try simp only [lA,lC,lN,lT']at bx
   refine ll 2 aD ?_
   refine fr ?_
   exact Ah ⟨[5,22,2,v],[[]],[aD],[]⟩ (⟨_,_,_,_,_,_,rfl,fin,kn,kn,kn⟩)
  refine Bw (k%9) 5 ?_
  refine ll A j ?_
  refine ll z q ?_
  refine dL [[.int .i64 H,.int .i64 N,.int .i64 L,.str O,.int .i32 J,.list 6 j],[.int .i64 C,.int .i64 Q,.int .i64 P,.str M,.int .i32 I,.list 6 q]] (fun aF bg=>?_)
  have bh:=cL bg;try simp only [lA,lC,lN,lT']at bh
  refine ll 2 aF ?_
  refine fr ?_
  exact Ah ⟨[5,23,2,v],[[]],[aF],[]⟩ (⟨_,_,_,_,_,_,rfl,fin,kn,kn,kn⟩)
 refine eq (k%9) 6 (fun bj=>?_) fun bj=>?_
 ·obtain ⟨_,⟨Kz,aQ,aL,aN,aA,ay,aM,an,rfl,bC,bM,bI,bF⟩,a8⟩:=x 1 (depth-1) pos kn
  refine ch a8 ?_
  refine ll aA an ?_
  refine dL [[.int .i64 Kz,.int .i64 aQ,.int .i64 aL,.str aM,.int .i32 aN,.list 6 an]] (fun aH bw=>?_)
  have aW:=cL bw;try simp only [lA,lC,lN,lT']at aW
  refine ll 1 aH ?_
  refine fr ?_
  exact Ah ⟨[4,4,1,ay],[[]],[aH],[]⟩ (⟨_,_,_,_,_,_,rfl,fin,kn,kn,kn⟩)
 refine eq (k%9) 7 (fun bv=>?_) fun bv=>?_
 ·obtain ⟨_,⟨aq,aw,rfl,bT,bE,bD⟩,a9⟩:=h8 hB hl pos vl count left call R V
  refine ch a9 ?_
  obtain ⟨_,⟨ae,ax,ai,ap,ab,Y,aj,U,rfl,bz,bL,bJ,bP⟩,aU⟩:=x 2 (depth-1) aw kn
  refine ch aU ?_
  refine eq (aq%2) 0 (fun br=>?_) fun br=>?_
  ·refine ll ab U ?_
   refine dL [[.int .i64 ae,.int .i64 ax,.int .i64 ai,.str aj,.int .i32 ap,.list 6 U]] (fun aI a7=>?_)
   have bi:=cL a7;try simp only [lA,lC,lN,lT']at bi
   refine ll 1 aI ?_
   refine fr ?_
   exact Ah ⟨[4,1,1,Y],[[]],[aI],[]⟩ (⟨_,_,_,_,_,_,rfl,fin,kn,kn,kn⟩)
  refine Bw (aq%2) 1 ?_
  refine ll ab U ?_
  refine dL [[.int .i64 ae,.int .i64 ax,.int .i64 ai,.str aj,.int .i32 ap,.list 6 U]] (fun aE ba=>?_)
  have a4:=cL ba;try simp only [lA,lC,lN,lT']at a4
  refine ll 1 aE ?_
  refine fr ?_
  exact Ah ⟨[4,3,1,Y],[[]],[aE],[]⟩ (⟨_,_,_,_,_,_,rfl,fin,kn,kn,kn⟩)
 refine sn R 0 (fun aX=>?_) fun aX=>?_
 ·obtain ⟨_,⟨av,ag,rfl,bQ,bB,bS⟩,aZ⟩:=h8 hB hl pos vl count left call 0 V
  refine ch aZ ?_
  obtain ⟨_,⟨AbH,ah,af,ao,ac,Z,ak,X,rfl,bK,bH,bA,bR⟩,bc⟩:=x 2 (depth-1) ag kn
  refine ch bc ?_
  refine eq (av%2) 0 (fun a2=>?_) fun a2=>?_
  ·refine ll ac X ?_
   refine dL [[.int .i64 AbH,.int .i64 ah,.int .i64 af,.str ak,.int .i32 ao,.list 6 X]] (fun aC a1=>?_)
   have bn:=cL a1;try simp only [lA,lC,lN,lT']at bn
   refine ll 1 aC ?_
   refine fr ?_
   exact Ah ⟨[4,1,1,Z],[[]],[aC],[]⟩ (⟨_,_,_,_,_,_,rfl,fin,kn,kn,kn⟩)
  refine Bw (av%2) 1 ?_
  refine ll ac X ?_
  refine dL [[.int .i64 AbH,.int .i64 ah,.int .i64 af,.str ak,.int .i32 ao,.list 6 X]] (fun aK aV=>?_)
  have a3:=cL aV;try simp only [lA,lC,lN,lT']at a3
  refine ll 1 aK ?_
  refine fr ?_
  exact Ah ⟨[4,3,1,Z],[[]],[aK],[]⟩ (⟨_,_,_,_,_,_,rfl,fin,kn,kn,kn⟩)
 refine Bg R 1 ?_
 obtain ⟨_,⟨az,au,ad,aP,rfl,bV,bO,bU,bG,bN⟩,a5⟩:=bo hM @x 4 depth pos [102]
 refine ch a5 ?_
 exact Ah ⟨[7,0,az,au],[ad],[aP],[]⟩ (⟨_,_,_,_,_,_,rfl,fin,kn,kn,kn⟩)
def AcG (A N:Nat):Prop:=∀{m:Nat} {Γ:Ctx} {f x:Int} {v count:Int} {left call loads:Int} {B V:Rs} (M:NL Γ f x v count left call loads B V) (J:Jd A Γ f x v count left call loads B V m) (k depth pos:Int) (h:0<=k/\k<=60/\depth<=3/\¬depth<=1/\depth.toNat<=m/\0<=pos/\pos+G depth<=1000001:=by exact kn),Ok trees N ⟨[k,depth,x,pos,v,count,left,call,loads],[],[B,V],[]⟩ fun L=>(∃(I H q j:Int),∃(C:List Nat),∃(z:Rs),L=(0,(⟨[I,H,q,j],[C],[z],[]⟩:Aj))/\(CQ Γ 3 depth I H 0 0 C z)/\(q=z.length)/\(pos<=j)/\(j+1<=pos+G depth))
theorem AkC {d aJ an N8 av:Nat} (hT:trees aJ=Ac4 d N8 an av) (h8:T9 N8) (bJ:Y1 an av):AcG an aJ:=by
 intro m Γ f bl vl count left call H B V hM C k depth pos h
 have ⟨hB,hl,hvl,GP,hV,hb,hc,hd⟩:=hM;have cS:=GJ depth;have cR:=KL depth om;have cQ:=GJ (depth-1)
 refine .of (t:=Ac4 d N8 an av) hT ?_
 conv=>arg 3;delta Ac4;conv=>arg 3;reduce
 conv=>arg 3;reduce
 refine lt (k%9) 4 (fun t1=>?_) fun t1=>?_
 ·obtain ⟨_,⟨aQ,aC,rfl,cB,cE,cw⟩,G2⟩:=h8 hB hl pos vl count left call H V
  refine ch G2 ?_
  obtain ⟨_,⟨aj,aA,rfl,co,cH,cM⟩,G3⟩:=h8 hB hl aC vl count left call H V
  refine ch G3 ?_
  obtain ⟨_,⟨ah,ae,al,ai,M,aD,ab,x,rfl,cu,cv,cD,cN⟩,G4⟩:=C (1+(aQ%2)) (depth-1) aA kn
  refine ch G4 ?_
  obtain ⟨_,⟨ad,af,ac,ak,L,A,ag,v,rfl,ct,cz,cP,cK⟩,G5⟩:=C (1+(aQ%2)) (depth-1) aD kn
  refine ch G5 ?_
  refine eq (aj%6) 0 (fun t6=>?_) fun t6=>?_
  ·refine ll M x ?_
   refine ll L v ?_
   refine dL [[.int .i64 ah,.int .i64 ae,.int .i64 al,.str ab,.int .i32 ai,.list 6 x],[.int .i64 ad,.int .i64 af,.int .i64 ac,.str ag,.int .i32 ak,.list 6 v]] (fun W7 e7=>?_)
   have f7:=cL e7;try simp only [lA,lC,lN,lT']at f7
   refine ll 2 W7 ?_
   refine fr ?_
   exact Ah ⟨[5,24,2,A],[[]],[W7],[]⟩ (⟨_,_,_,_,_,_,rfl,fin,kn,kn,kn⟩)
  refine eq (aj%6) 1 (fun t8=>?_) fun t8=>?_
  ·refine ll M x ?_
   refine ll L v ?_
   refine dL [[.int .i64 ah,.int .i64 ae,.int .i64 al,.str ab,.int .i32 ai,.list 6 x],[.int .i64 ad,.int .i64 af,.int .i64 ac,.str ag,.int .i32 ak,.list 6 v]] (fun W9 e9=>?_)
   have f9:=cL e9;try simp only [lA,lC,lN,lT']at f9
   refine ll 2 W9 ?_
   refine fr ?_
   exact Ah ⟨[5,25,2,A],[[]],[W9],[]⟩ (⟨_,_,_,_,_,_,rfl,fin,kn,kn,kn⟩)
  refine eq (aj%6) 2 (fun bp=>?_) fun bp=>?_
  ·refine ll M x ?_
   refine ll L v ?_
   refine dL [[.int .i64 ah,.int .i64 ae,.int .i64 al,.str ab,.int .i32 ai,.list 6 x],[.int .i64 ad,.int .i64 af,.int .i64 ac,.str ag,.int .i32 ak,.list 6 v]] (fun aM bK=>?_)
   have bg:=cL bK;try simp only [lA,lC,lN,lT']at bg
   refine ll 2 aM ?_
   refine fr ?_
   exact Ah ⟨[5,26,2,A],[[]],[aM],[]⟩ (⟨_,_,_,_,_,_,rfl,fin,kn,kn,kn⟩)
  refine eq (aj%6) 3 (fun bG=>?_) fun bG=>?_
  ·refine ll M x ?_
   refine ll L v ?_
   refine dL [[.int .i64 ah,.int .i64 ae,.int .i64 al,.str ab,.int .i32 ai,.list 6 x],[.int .i64 ad,.int .i64 af,.int .i64 ac,.str ag,.int .i32 ak,.list 6 v]] (fun aK bc=>?_)
   have bT:=cL bc;try simp only [lA,lC,lN,lT']at bT
   refine ll 2 aK ?_
   refine fr ?_
   exact Ah ⟨[5,27,2,A],[[]],[aK],[]⟩ (⟨_,_,_,_,_,_,rfl,fin,kn,kn,kn⟩)
  refine eq (aj%6) 4 (fun bQ=>?_) fun bQ=>?_
  ·refine ll M x ?_
   refine ll L v ?_
   refine dL [[.int .i64 ah,.int .i64 ae,.int .i64 al,.str ab,.int .i32 ai,.list 6 x],[.int .i64 ad,.int .i64 af,.int .i64 ac,.str ag,.int .i32 ak,.list 6 v]] (fun aR ba=>?_)
   have bw:=cL ba;try simp only [lA,lC,lN,lT']at bw
   refine ll 2 aR ?_
   refine fr ?_
   exact Ah ⟨[5,28,2,A],[[]],[aR],[]⟩ (⟨_,_,_,_,_,_,rfl,fin,kn,kn,kn⟩)
  refine Bw (aj%6) 5 ?_
  refine ll M x ?_
  refine ll L v ?_
  refine dL [[.int .i64 ah,.int .i64 ae,.int .i64 al,.str ab,.int .i32 ai,.list 6 x],[.int .i64 ad,.int .i64 af,.int .i64 ac,.str ag,.int .i32 ak,.list 6 v]] (fun aN bt=>?_)
  have a9:=cL bt;try simp only [lA,lC,lN,lT']at a9
  refine ll 2 aN ?_
  refine fr ?_
  exact Ah ⟨[5,29,2,A],[[]],[aN],[]⟩ (⟨_,_,_,_,_,_,rfl,fin,kn,kn,kn⟩)
 refine lt (k%9) 6 (fun br=>?_) fun br=>?_
 ·obtain ⟨_,⟨R,aw,rfl,ci,cg,cf⟩,bm⟩:=h8 hB hl pos vl count left call H V
  refine ch bm ?_
  obtain ⟨_,⟨NX,O,Y,X,I,ay,P,j,rfl,ce,b1,b0,cc⟩,bx⟩:=C 3 (depth-1) aw kn
  refine ch bx ?_
  obtain ⟨_,⟨N,aa,Q,Z,J,z,U,q,rfl,bU,b6,b5,cb⟩,be⟩:=C 3 (depth-1) ay kn
  refine ch be ?_
  refine eq (R%5) 0 (fun bM=>?_) fun bM=>?_
  ·refine ll I j ?_
   refine ll J q ?_
   refine dL [[.int .i64 NX,.int .i64 O,.int .i64 Y,.str P,.int .i32 X,.list 6 j],[.int .i64 N,.int .i64 aa,.int .i64 Q,.str U,.int .i32 Z,.list 6 q]] (fun aP bv=>?_)
   have bD:=cL bv;try simp only [lA,lC,lN,lT']at bD
   refine ll 2 aP ?_
   refine fr ?_
   exact Ah ⟨[5,17,2,z],[[]],[aP],[]⟩ (⟨_,_,_,_,_,_,rfl,fin,kn,kn,kn⟩)
  refine eq (R%5) 1 (fun bS=>?_) fun bS=>?_
  ·refine ll I j ?_
   refine ll J q ?_
   refine dL [[.int .i64 NX,.int .i64 O,.int .i64 Y,.str P,.int .i32 X,.list 6 j],[.int .i64 N,.int .i64 aa,.int .i64 Q,.str U,.int .i32 Z,.list 6 q]] (fun aL bB=>?_)
   have bi:=cL bB;try simp only [lA,lC,lN,lT']at bi
   refine ll 2 aL ?_
   refine fr ?_
   exact Ah ⟨[5,18,2,z],[[]],[aL],[]⟩ (⟨_,_,_,_,_,_,rfl,fin,kn,kn,kn⟩)
  refine eq (R%5) 2 (fun a8=>?_) fun a8=>?_
  ·refine ll I j ?_
   refine ll J q ?_
   refine dL [[.int .i64 NX,.int .i64 O,.int .i64 Y,.str P,.int .i32 X,.list 6 j],[.int .i64 N,.int .i64 aa,.int .i64 Q,.str U,.int .i32 Z,.list 6 q]] (fun aO bR=>?_)
   have bE:=cL bR;try simp only [lA,lC,lN,lT']at bE
   refine ll 2 aO ?_
   refine fr ?_
   exact Ah ⟨[5,19,2,z],[[]],[aO],[]⟩ (⟨_,_,_,_,_,_,rfl,fin,kn,kn,kn⟩)
  refine eq (R%5) 3 (fun bj=>?_) fun bj=>?_
  ·refine ll I j ?_
   refine ll J q ?_
   refine dL [[.int .i64 NX,.int .i64 O,.int .i64 Y,.str P,.int .i32 X,.list 6 j],[.int .i64 N,.int .i64 aa,.int .i64 Q,.str U,.int .i32 Z,.list 6 q]] (fun aH bh=>?_)
   have bH:=cL bh;try simp only [lA,lC,lN,lT']at bH
   refine ll 2 aH ?_
   refine fr ?_
   exact Ah ⟨[5,24,2,z],[[]],[aH],[]⟩ (⟨_,_,_,_,_,_,rfl,fin,kn,kn,kn⟩)
  refine Bw (R%5) 4 ?_
  refine ll I j ?_
  refine ll J q ?_
  refine dL [[.int .i64 NX,.int .i64 O,.int .i64 Y,.str P,.int .i32 X,.list 6 j],[.int .i64 N,.int .i64 aa,.int .i64 Q,.str U,.int .i32 Z,.list 6 q]] (fun aU bf=>?_)
  have bk:=cL bf;try simp only [lA,lC,lN,lT']at bk
  refine ll 2 aU ?_
  refine fr ?_
  exact Ah ⟨[5,25,2,z],[[]],[aU],[]⟩ (⟨_,_,_,_,_,_,rfl,fin,kn,kn,kn⟩)
 refine lt (k%9) 8 (fun bN=>?_) fun bN=>?_
 ·obtain ⟨_,⟨aV,aY,a3,a4,aB,au,a5,az,rfl,b7,bY,b2,bZ⟩,bn⟩:=C 3 (depth-1) pos kn
  refine ch bn ?_
  refine ll aB az ?_
  refine dL [[.int .i64 aV,.int .i64 aY,.int .i64 a3,.str a5,.int .i32 a4,.list 6 az]] (fun aI bI=>?_)
  have bL:=cL bI;try simp only [lA,lC,lN,lT']at bL
  refine ll 1 aI ?_
  refine fr ?_
  exact Ah ⟨[4,2,1,au],[[]],[aI],[]⟩ (⟨_,_,_,_,_,_,rfl,fin,kn,kn,kn⟩)
 refine sn H 0 (fun bb=>?_) fun bb=>?_
 ·obtain ⟨_,⟨Ad8,aW,a0,a1,aE,ax,a6,aq,rfl,cj,bW,b4,b8⟩,bA⟩:=C 3 (depth-1) pos kn
  refine ch bA ?_
  refine ll aE aq ?_
  refine dL [[.int .i64 Ad8,.int .i64 aW,.int .i64 a0,.str a6,.int .i32 a1,.list 6 aq]] (fun aG bO=>?_)
  have bF:=cL bO;try simp only [lA,lC,lN,lT']at bF
  refine ll 1 aG ?_
  refine fr ?_
  exact Ah ⟨[4,2,1,ax],[[]],[aG],[]⟩ (⟨_,_,_,_,_,_,rfl,fin,kn,kn,kn⟩)
 refine Bg H 1 ?_
 obtain ⟨_,⟨aF,ap,ao,a2,rfl,b9,cd,bX,bV,b3⟩,bo⟩:=bJ hM @C 4 depth pos [98]
 refine ch bo ?_
 exact Ah ⟨[7,0,aF,ap],[ao],[a2],[]⟩ (⟨_,_,_,_,_,_,rfl,fin,kn,kn,kn⟩)
theorem Aom {d q N8 I J L H:Nat} (hT:trees q=Yw d N8 q I J L H) (h8:T9 N8) (aa:Y2 I) (aB:AcI q J) (aL:AcH q L) (aF:AcG q H) {Γ:Ctx} {f bl:Int} {vl count:Int} {left call loads:Int} {B V:Rs} (x:NL Γ f bl vl count left call loads B V) (n:Nat):Jd q Γ f bl vl count left call loads B V n:=by
 induction n with
 |zero=>intro t depth pos h;exact absurd h.2.2.2.2.2 (Nat.not_lt_zero _)
 |succ n ih=>
 intro t depth pos h
 have ⟨hB,hl,hvl,GP,hV,hb,hc,hd⟩:=x;have b5:=GJ depth;have b4:=KL depth om;have b3:=GJ (depth-1)
 refine .of (t:=Yw d N8 q I J L H) hT ?_
 conv=>arg 3;delta Yw;conv=>arg 3;reduce
 conv=>arg 3;reduce
 obtain ⟨_,⟨v,j,rfl,bJ,bK,bH⟩,G1⟩:=h8 hB hl pos vl count left call loads V
 refine ch G1 ?_
 refine le depth 1 (fun t2=>?_) fun t2=>?_
 ·obtain ⟨_,⟨aC,a8,aR,a2,aj,Q,a6,aH,rfl,bO,bY,b0,b2⟩,G3⟩:=aa x t j
  refine ch G3 ?_
  exact Ah ⟨[aC,a8,aR,a2,aj,Q],[a6],[aH],[]⟩ (⟨_,_,_,_,_,_,_,_,rfl,fin,kn,kn,kn⟩)
 refine eq (v%5) 0 (fun t4=>?_) fun t4=>?_
 ·obtain ⟨_,⟨aZ,a0,aX,bb,ak,M,a1,a3,rfl,bS,bV,bN,bG⟩,G5⟩:=aa x t j
  refine ch G5 ?_
  exact Ah ⟨[aZ,a0,aX,bb,ak,M],[a1],[a3],[]⟩ (⟨_,_,_,_,_,_,_,_,rfl,fin,kn,kn,kn⟩)
 refine eq (v%5) 1 (fun t6=>?_) fun t6=>?_
 ·obtain ⟨_,⟨a9,aA,a4,aN,af,N,aD,Z,rfl,bI,bF,bw,bL⟩,G7⟩:=ih 3 (depth-1) j kn
  refine ch G7 ?_
  obtain ⟨_,⟨XX,aE,aJ,aK,az,X,a5,ab,rfl,bD,bx,bt,bA⟩,G8⟩:=ih t (depth-1) N kn
  refine ch G8 ?_
  obtain ⟨_,⟨aP,a7,ba,aI,ay,O,aY,Y,rfl,bv,bX,bM,bQ⟩,G9⟩:=ih t (depth-1) X kn
  refine ch G9 ?_
  refine ll af Z ?_
  refine ll az ab ?_
  refine ll ay Y ?_
  refine dL [[.int .i64 a9,.int .i64 aA,.int .i64 a4,.str aD,.int .i32 aN,.list 6 Z],[.int .i64 XX,.int .i64 aE,.int .i64 aJ,.str a5,.int .i32 aK,.list 6 ab],[.int .i64 aP,.int .i64 a7,.int .i64 ba,.str aY,.int .i32 aI,.list 6 Y]] (fun ac aM=>?_)
  have aQ:=cL aM;try simp only [lA,lC,lN,lT']at aQ
  refine ll 3 ac ?_
  refine fr ?_
  exact Ah ⟨[6,0,0,0,3,O],[[]],[ac],[]⟩ (⟨_,_,_,_,_,_,_,_,rfl,fin,kn,kn,kn⟩)
 refine eq t 1 (fun aW=>?_) fun aW=>?_
 ·obtain ⟨_,⟨UN,ax,ag,ao,U,A,av,ah,rfl,bg,br,bi,bp⟩,aU⟩:=aB x @ih (v/5) depth j
  refine ch aU ?_
  exact Ah ⟨[UN,ax,ag,ao,U,A],[av],[ah],[]⟩ (⟨_,_,_,_,_,_,_,_,rfl,fin,kn,kn,kn⟩)
 refine eq t 2 (fun aV=>?_) fun aV=>?_
 ·obtain ⟨_,⟨aq,ae,P,z,ai,an,rfl,bh,bj,bo,bn⟩,bc⟩:=aL x @ih (v/5) depth j
  refine ch bc ?_
  exact Ah ⟨[aq,ae,0,0,P,z],[ai],[an],[]⟩ (⟨_,_,_,_,_,_,_,_,rfl,fin,kn,kn,kn⟩)
 obtain ⟨_,⟨AdB,al,R,C,aw,au,rfl,bk,bf,be,bm⟩,aG⟩:=aF x @ih (v/5) depth j
 refine ch aG ?_
 exact Ah ⟨[AdB,al,0,0,R,C],[aw],[au],[]⟩ (⟨_,_,_,_,_,_,_,_,rfl,fin,kn,kn,kn⟩)
theorem Kz {d j A z q v x:Nat} (M:trees j=Yw d A j z q v x) (L:T9 A) (C:Y2 z) (I:AcI j q) (J:AcH j v) (H:AcG j x):RN j:=fun {Γ} {f} {bl} {vl} {count} {left} {call} {loads} {B} {V} hM t depth pos h=>Aom M @L @C @I @J @H hM (depth.toNat+1) t depth pos ⟨h.1,h.2.1,h.2.2.1,h.2.2.2.1,h.2.2.2.2,Nat.lt_succ_self _⟩
def Aq6 (N:Nat) (Γ:Ctx) (f A:Int) (x count:Int) (left call loads:Int) (B V:Rs) (n:Nat):Prop:=∀(t ln:Int) (j pos:Int) (L:Rs) (C:HO Γ t L) (h:0<=j/\j<=x/\ln=L.length/\L.length<=j/\0<ln/\(x-j).toNat<n),Ok trees N ⟨[t,ln,j,A,pos,x,count,left,call,loads],[],[B,L,V],[]⟩ fun z=>(z=(0,v0))∨(∃(q:Int),∃(v:Rs),z=(1,(⟨[q],[],[v],[]⟩:Aj))/\(HO Γ t v)/\(q=v.length)/\(v.length<=40)/\(0<q))
def Aqj (N:Nat):Prop:=∀{Γ:Ctx} {f z:Int} {x count:Int} {left call loads:Int} {B V:Rs} (C:NL Γ f z x count left call loads B V) (t ln:Int) (j pos:Int) (L:Rs) (H:HO Γ t L) (h:0<=j/\j<=x/\ln=L.length/\L.length<=j/\0<ln:=by exact kn),Ok trees N ⟨[t,ln,j,z,pos,x,count,left,call,loads],[],[B,L,V],[]⟩ fun A=>(A=(0,v0))∨(∃(q:Int),∃(v:Rs),A=(1,(⟨[q],[],[v],[]⟩:Aj))/\(HO Γ t v)/\(q=v.length)/\(v.length<=40)/\(0<q))
theorem X7 {Γ:Ctx} {f N:Int} {I count:Int} {left call loads:Int} {B V:Rs} (hM:NL Γ f N I count left call loads B V) (n:Nat):Aq6 40 Γ f N I count left call loads B V n:=by
 induction n with
 |zero=>intro t ln j pos L hL h;exact absurd h.2.2.2.2.2 (Nat.not_lt_zero _)
 |succ n ih=>
 intro t ln j pos L hL h
 have ⟨hB,hl,hvl,GP,hV,hb,hc,hd⟩:=hM
 refine .of (t:=AfD) rfl ?_
 conv=>arg 3;reduce
 refine lt j I (fun t1=>?_) fun t1=>?_
 ·refine Dv j 0 ?_
  obtain ⟨M,O,z,ad,ag,ah,ak⟩:=hV j om om
  refine el z ?_
  refine eq O t (fun t3=>?_) fun t3=>?_
  ·refine dL (L++[[PV.str M]]) (fun q e4=>?_) (Bq (pw ln L) pe)
   have f4:=cL e4;try simp only [lA,lC,lN,lT']at f4
   refine E6 (q.length:Int) 1048576 ?_
   obtain ⟨_,(rfl|⟨x,J,rfl,X,aa,P,Y⟩),H⟩:=ih t (q.length:Int) (j+1) pos q (by exact fin) kn
   ·refine ch H ?_
    exact Ah ⟨[(q.length:Int)],[],[q],[]⟩ (.inr ((⟨_,_,rfl,fin,kn,kn,kn⟩)))
   refine cm H ?_
   refine ch H ?_
   exact Ah ⟨[x],[],[J],[]⟩ (.inr ((⟨_,_,rfl,fin,kn,kn,kn⟩)))
  obtain ⟨_,(rfl|⟨v,A,rfl,U,R,Z,Q⟩),C⟩:=ih t ln (j+1) pos L (by exact fin) kn
  ·refine ch C ?_
   exact Ah v0 (.inl rfl)
  refine cm C ?_
  refine ch C ?_
  exact Ah ⟨[v],[],[A],[]⟩ (.inr ((⟨_,_,rfl,fin,kn,kn,kn⟩)))
 exact Ah v0 (.inl rfl)
theorem Apf:Aqj 40:=fun {Γ} {f} {bl} {vl} {count} {left} {call} {loads} {B} {V} hM t ln j pos L hL h=>X7 hM ((vl-j).toNat+1) t ln j pos L hL ⟨h.1,h.2.1,h.2.2.1,h.2.2.2.1,h.2.2.2.2,Nat.lt_succ_self _⟩
theorem Aol {Γ:Ctx} {f N:Int} {H count:Int} {left call loads:Int} {B V:Rs} (M:NL Γ f N H count left call loads B V) (n:Nat):Ano 38 Γ f N H count left call loads B V n:=by
 induction n with
 |zero=>intro t j pos h;exact absurd h.2.2 (Nat.not_lt_zero _)
 |succ n ih=>
 intro t j pos h
 have ⟨hB,hl,hvl,GP,hV,hb,hc,hd⟩:=M
 refine .of (t:=AfF) rfl ?_
 conv=>arg 3;reduce
 refine lt j H (fun t1=>?_) fun t1=>?_
 ·refine Dv j 0 ?_
  obtain ⟨L,O,x,ac,ae,af,ai⟩:=hV j om om
  refine el x ?_
  refine eq O t (fun t3=>?_) fun t3=>?_
  ·refine dL [[.str L]] (fun I e4=>?_)
   have f4:=cL e4;try simp only [lA,lC,lN,lT']at f4
   refine ll 1 I ?_
   obtain ⟨_,(rfl|⟨v,J,rfl,X,aa,P,Y⟩),C⟩:=Apf M t 1 (j+1) pos I (by exact fin)
   ·refine ch C ?_
    exact Ah ⟨[1],[],[I],[]⟩ (.inr ((⟨_,_,rfl,fin,kn,kn,kn⟩)))
   refine cm C ?_
   refine ch C ?_
   exact Ah ⟨[v],[],[J],[]⟩ (.inr ((⟨_,_,rfl,fin,kn,kn,kn⟩)))
  obtain ⟨_,(rfl|⟨q,z,rfl,U,R,Z,Q⟩),A⟩:=ih t (j+1) pos kn
  ·refine ch A ?_
   exact Ah v0 (.inl rfl)
  refine cm A ?_
  refine ch A ?_
  exact Ah ⟨[q],[],[z],[]⟩ (.inr ((⟨_,_,rfl,fin,kn,kn,kn⟩)))
 exact Ah v0 (.inl rfl)
theorem Aph:AhL 38:=fun {Γ} {f} {bl} {vl} {count} {left} {call} {loads} {B} {V} hM t j pos h=>Aol hM ((vl-j).toNat+1) t j pos ⟨h.1,h.2,Nat.lt_succ_self _⟩
def Aq5 (N:Nat) (Γ:Ctx) (f A:Int) (x count:Int) (left call loads:Int) (B V:Rs) (n:Nat):Prop:=∀(t ln:Int) (j pos:Int) (L:Rs) (C:HO Γ t L) (h:0<=j/\j<=x/\ln=L.length/\L.length<=j/\0<ln/\(x-j).toNat<n),Ok trees N ⟨[t,ln,j,A,pos,x,count,left,call,loads],[],[B,V,L],[]⟩ fun z=>(z=(0,v0))∨(∃(q:Int),∃(v:Rs),z=(1,(⟨[q],[],[v],[]⟩:Aj))/\(HO Γ t v)/\(q=v.length)/\(v.length<=40)/\(0<q))
def Aqi (N:Nat):Prop:=∀{Γ:Ctx} {f z:Int} {x count:Int} {left call loads:Int} {B V:Rs} (C:NL Γ f z x count left call loads B V) (t ln:Int) (j pos:Int) (L:Rs) (H:HO Γ t L) (h:0<=j/\j<=x/\ln=L.length/\L.length<=j/\0<ln:=by exact kn),Ok trees N ⟨[t,ln,j,z,pos,x,count,left,call,loads],[],[B,V,L],[]⟩ fun A=>(A=(0,v0))∨(∃(q:Int),∃(v:Rs),A=(1,(⟨[q],[],[v],[]⟩:Aj))/\(HO Γ t v)/\(q=v.length)/\(v.length<=40)/\(0<q))
theorem Aoj {Γ:Ctx} {f N:Int} {I count:Int} {left call loads:Int} {B V:Rs} (hM:NL Γ f N I count left call loads B V) (n:Nat):Aq5 41 Γ f N I count left call loads B V n:=by
 induction n with
 |zero=>intro t ln j pos L hL h;exact absurd h.2.2.2.2.2 (Nat.not_lt_zero _)
 |succ n ih=>
 intro t ln j pos L hL h
 have ⟨hB,hl,hvl,GP,hV,hb,hc,hd⟩:=hM
 refine .of (t:=AfC) rfl ?_
 conv=>arg 3;reduce
 refine lt j I (fun t1=>?_) fun t1=>?_
 ·refine Dv j 0 ?_
  obtain ⟨M,O,z,ad,ag,ah,ak⟩:=hV j om om
  refine el z ?_
  refine eq O t (fun t3=>?_) fun t3=>?_
  ·refine dL (L++[[PV.str M]]) (fun q e4=>?_) (Bq (pw ln L) pe)
   have f4:=cL e4;try simp only [lA,lC,lN,lT']at f4
   refine E6 (q.length:Int) 1048576 ?_
   obtain ⟨_,(rfl|⟨x,J,rfl,X,aa,P,Y⟩),H⟩:=ih t (q.length:Int) (j+1) pos q (by exact fin) kn
   ·refine ch H ?_
    exact Ah ⟨[(q.length:Int)],[],[q],[]⟩ (.inr ((⟨_,_,rfl,fin,kn,kn,kn⟩)))
   refine cm H ?_
   refine ch H ?_
   exact Ah ⟨[x],[],[J],[]⟩ (.inr ((⟨_,_,rfl,fin,kn,kn,kn⟩)))
  obtain ⟨_,(rfl|⟨v,A,rfl,U,R,Z,Q⟩),C⟩:=ih t ln (j+1) pos L (by exact fin) kn
  ·refine ch C ?_
   exact Ah v0 (.inl rfl)
  refine cm C ?_
  refine ch C ?_
  exact Ah ⟨[v],[],[A],[]⟩ (.inr ((⟨_,_,rfl,fin,kn,kn,kn⟩)))
 exact Ah v0 (.inl rfl)
theorem Ape:Aqi 41:=fun {Γ} {f} {bl} {vl} {count} {left} {call} {loads} {B} {V} hM t ln j pos L hL h=>Aoj hM ((vl-j).toNat+1) t ln j pos L hL ⟨h.1,h.2.1,h.2.2.1,h.2.2.2.1,h.2.2.2.2,Nat.lt_succ_self _⟩
theorem Aok {Γ:Ctx} {f N:Int} {H count:Int} {left call loads:Int} {B V:Rs} (M:NL Γ f N H count left call loads B V) (n:Nat):Ano 39 Γ f N H count left call loads B V n:=by
 induction n with
 |zero=>intro t j pos h;exact absurd h.2.2 (Nat.not_lt_zero _)
 |succ n ih=>
 intro t j pos h
 have ⟨hB,hl,hvl,GP,hV,hb,hc,hd⟩:=M
 refine .of (t:=AfE) rfl ?_
 conv=>arg 3;reduce
 refine lt j H (fun t1=>?_) fun t1=>?_
 ·refine Dv j 0 ?_
  obtain ⟨L,O,x,ac,ae,af,ai⟩:=hV j om om
  refine el x ?_
  refine eq O t (fun t3=>?_) fun t3=>?_
  ·refine dL [[.str L]] (fun I e4=>?_)
   have f4:=cL e4;try simp only [lA,lC,lN,lT']at f4
   refine ll 1 I ?_
   obtain ⟨_,(rfl|⟨v,J,rfl,X,aa,P,Y⟩),C⟩:=Ape M t 1 (j+1) pos I (by exact fin)
   ·refine ch C ?_
    exact Ah ⟨[1],[],[I],[]⟩ (.inr ((⟨_,_,rfl,fin,kn,kn,kn⟩)))
   refine cm C ?_
   refine ch C ?_
   exact Ah ⟨[v],[],[J],[]⟩ (.inr ((⟨_,_,rfl,fin,kn,kn,kn⟩)))
  obtain ⟨_,(rfl|⟨q,z,rfl,U,R,Z,Q⟩),A⟩:=ih t (j+1) pos kn
  ·refine ch A ?_
   exact Ah v0 (.inl rfl)
  refine cm A ?_
  refine ch A ?_
  exact Ah ⟨[q],[],[z],[]⟩ (.inr ((⟨_,_,rfl,fin,kn,kn,kn⟩)))
 exact Ah v0 (.inl rfl)
theorem Apg:AhL 39:=fun {Γ} {f} {bl} {vl} {count} {left} {call} {loads} {B} {V} hM t j pos h=>Aok hM ((vl-j).toNat+1) t j pos ⟨h.1,h.2,Nat.lt_succ_self _⟩
theorem Apj:Aec 34:=@Ad8 1 34 8 38 rfl @Lr @Aph
theorem Api:Aec 36:=@Ad8 0 36 9 39 rfl @Yr @Apg
theorem Alr:Y2 26:=@AbH 1 26 8 34 rfl @Lr @Apj
theorem Alq:Y2 30:=@AbH 0 30 9 36 rfl @Yr @Api
theorem AhD:VH 16 19:=@NX 1 19 16 rfl
theorem AhB:VH 22 25:=@NX 0 25 22 rfl
theorem AhA:Y1 16 35:=@AkB 1 35 16 19 rfl @AhD
theorem Ah9:Y1 22 37:=@AkB 0 37 22 25 rfl @AhB
theorem Apq:AcI 16 27:=@AkD 1 27 16 8 26 35 rfl @Lr @Alr @AhA
theorem Apm:AcI 22 31:=@AkD 0 31 22 9 30 37 rfl @Yr @Alq @Ah9
theorem Apo:AcH 16 28:=@Ad9 1 28 16 8 35 rfl @Lr @AhA
theorem Apl:AcH 22 32:=@Ad9 0 32 22 9 37 rfl @Yr @Ah9
theorem Apn:AcG 16 29:=@AkC 1 29 16 8 35 rfl @Lr @AhA
theorem Apk:AcG 22 33:=@AkC 0 33 22 9 37 rfl @Yr @Ah9
theorem IZ:RN 16:=@Kz 1 16 8 26 27 28 29 rfl @Lr @Alr @Apq @Apo @Apn
theorem V7:RN 22:=@Kz 0 22 9 30 31 32 33 rfl @Yr @Alq @Apm @Apl @Apk
def ApU (N:Nat):Prop:=∀(n:Int) (h:0<=n/\n<24:=by exact kn),Ok trees N ⟨[n],[],[],[]⟩ fun q=>(∃(j:List Nat),q=(0,(⟨[],[j],[],[]⟩:Aj))/\([118]++j=vn n.toNat)/\(j.length<=2))
theorem All:ApU 60:=by
 intro n h
 refine .of (t:=Afw) rfl ?_
 conv=>arg 3;reduce
 refine sn n 0 (fun X=>?_) fun X=>?_
 ·exact Ah ⟨[],[[48]],[],[]⟩ (⟨_,rfl,(by first|(subst_vars;rfl) |(rw [show n=23 by omega];rfl)),(by simp)⟩)
 refine sn n 1 (fun O=>?_) fun O=>?_
 ·exact Ah ⟨[],[[49]],[],[]⟩ (⟨_,rfl,(by first|(subst_vars;rfl) |(rw [show n=23 by omega];rfl)),(by simp)⟩)
 refine sn n 2 (fun P=>?_) fun P=>?_
 ·exact Ah ⟨[],[[50]],[],[]⟩ (⟨_,rfl,(by first|(subst_vars;rfl) |(rw [show n=23 by omega];rfl)),(by simp)⟩)
 refine sn n 3 (fun Q=>?_) fun Q=>?_
 ·exact Ah ⟨[],[[51]],[],[]⟩ (⟨_,rfl,(by first|(subst_vars;rfl) |(rw [show n=23 by omega];rfl)),(by simp)⟩)
 refine sn n 4 (fun Z=>?_) fun Z=>?_
 ·exact Ah ⟨[],[[52]],[],[]⟩ (⟨_,rfl,(by first|(subst_vars;rfl) |(rw [show n=23 by omega];rfl)),(by simp)⟩)
 refine sn n 5 (fun U=>?_) fun U=>?_
 ·exact Ah ⟨[],[[53]],[],[]⟩ (⟨_,rfl,(by first|(subst_vars;rfl) |(rw [show n=23 by omega];rfl)),(by simp)⟩)
 refine sn n 6 (fun R=>?_) fun R=>?_
 ·exact Ah ⟨[],[[54]],[],[]⟩ (⟨_,rfl,(by first|(subst_vars;rfl) |(rw [show n=23 by omega];rfl)),(by simp)⟩)
 refine sn n 7 (fun Y=>?_) fun Y=>?_
 ·exact Ah ⟨[],[[55]],[],[]⟩ (⟨_,rfl,(by first|(subst_vars;rfl) |(rw [show n=23 by omega];rfl)),(by simp)⟩)
 refine sn n 8 (fun V=>?_) fun V=>?_
 ·exact Ah ⟨[],[[56]],[],[]⟩ (⟨_,rfl,(by first|(subst_vars;rfl) |(rw [show n=23 by omega];rfl)),(by simp)⟩)
 refine sn n 9 (fun q=>?_) fun q=>?_
 ·exact Ah ⟨[],[[57]],[],[]⟩ (⟨_,rfl,(by first|(subst_vars;rfl) |(rw [show n=23 by omega];rfl)),(by simp)⟩)
 refine sn n 10 (fun L=>?_) fun L=>?_
 ·exact Ah ⟨[],[[49,48]],[],[]⟩ (⟨_,rfl,(by first|(subst_vars;rfl) |(rw [show n=23 by omega];rfl)),(by simp)⟩)
 refine sn n 11 (fun J=>?_) fun J=>?_
 ·exact Ah ⟨[],[[49,49]],[],[]⟩ (⟨_,rfl,(by first|(subst_vars;rfl) |(rw [show n=23 by omega];rfl)),(by simp)⟩)
 refine sn n 12 (fun A=>?_) fun A=>?_
 ·exact Ah ⟨[],[[49,50]],[],[]⟩ (⟨_,rfl,(by first|(subst_vars;rfl) |(rw [show n=23 by omega];rfl)),(by simp)⟩)
 refine sn n 13 (fun I=>?_) fun I=>?_
 ·exact Ah ⟨[],[[49,51]],[],[]⟩ (⟨_,rfl,(by first|(subst_vars;rfl) |(rw [show n=23 by omega];rfl)),(by simp)⟩)
 refine sn n 14 (fun z=>?_) fun z=>?_
 ·exact Ah ⟨[],[[49,52]],[],[]⟩ (⟨_,rfl,(by first|(subst_vars;rfl) |(rw [show n=23 by omega];rfl)),(by simp)⟩)
 refine sn n 15 (fun j=>?_) fun j=>?_
 ·exact Ah ⟨[],[[49,53]],[],[]⟩ (⟨_,rfl,(by first|(subst_vars;rfl) |(rw [show n=23 by omega];rfl)),(by simp)⟩)
 refine sn n 16 (fun v=>?_) fun v=>?_
 ·exact Ah ⟨[],[[49,54]],[],[]⟩ (⟨_,rfl,(by first|(subst_vars;rfl) |(rw [show n=23 by omega];rfl)),(by simp)⟩)
 refine sn n 17 (fun M=>?_) fun M=>?_
 ·exact Ah ⟨[],[[49,55]],[],[]⟩ (⟨_,rfl,(by first|(subst_vars;rfl) |(rw [show n=23 by omega];rfl)),(by simp)⟩)
 refine sn n 18 (fun C=>?_) fun C=>?_
 ·exact Ah ⟨[],[[49,56]],[],[]⟩ (⟨_,rfl,(by first|(subst_vars;rfl) |(rw [show n=23 by omega];rfl)),(by simp)⟩)
 refine sn n 19 (fun B=>?_) fun B=>?_
 ·exact Ah ⟨[],[[49,57]],[],[]⟩ (⟨_,rfl,(by first|(subst_vars;rfl) |(rw [show n=23 by omega];rfl)),(by simp)⟩)
 refine sn n 20 (fun x=>?_) fun x=>?_
 ·exact Ah ⟨[],[[50,48]],[],[]⟩ (⟨_,rfl,(by first|(subst_vars;rfl) |(rw [show n=23 by omega];rfl)),(by simp)⟩)
 refine sn n 21 (fun H=>?_) fun H=>?_
 ·exact Ah ⟨[],[[50,49]],[],[]⟩ (⟨_,rfl,(by first|(subst_vars;rfl) |(rw [show n=23 by omega];rfl)),(by simp)⟩)
 refine sn n 22 (fun N=>?_) fun N=>?_
 ·exact Ah ⟨[],[[50,50]],[],[]⟩ (⟨_,rfl,(by first|(subst_vars;rfl) |(rw [show n=23 by omega];rfl)),(by simp)⟩)
 refine Bg n 23 ?_
 exact Ah ⟨[],[[50,51]],[],[]⟩ (⟨_,rfl,(by first|(subst_vars;rfl) |(rw [show n=23 by omega];rfl)),(by simp)⟩)
def Y3 (E:Bool) (N:Nat):Prop:=∀{Γ:Ctx} {f K M:Int} (lo U:Int) (D I:Int) (pos z:Int) (count left:Int) (call q:Int) (B V:Rs) (Y:MS E Γ f K M I pos z count left call q B V) (h:1<=D/\count+left+1<=K/\pos+300*left+200<=M:=by exact kn),Ok trees N ⟨[I,pos,z,count,left,call,q],[],[B,V],[]⟩ fun X=>(∃(P:Ctx),∃(t' R O Q w' A v x j:Int),∃(J L:List Nat),∃(H C:Rs),X=(0,(⟨[t',R,O,Q,w',A,0,0,0,v,x,j],[J,L],[H,[],[],[],C],[]⟩:Aj))/\(MS false P f K M I v x j left call q B C)/\(DR lo U D Γ P (left+1) left (AQ 1 0 t' 0 J R O Q L w' H 0 0 0 [] 0 [] [] []))/\(Ext z V C)/\(count<=j)/\(z<=x)/\(v<=pos+100)/\(A=H.length))
def AcL (E:Bool) (N:Nat):Prop:=∀{Γ:Ctx} {K M:Int} (lo Q:Int) (D f:Int) (O pos:Int) (C count:Int) (left call loads:Int) (B V:Rs) (X:MS E Γ f K M O pos C count left call loads B V) (h:1<=D/\count+left+1<=K/\pos+300*left+200<=M:=by exact kn),Ok trees N ⟨[f,O,pos,C,count,left,call,loads],[],[B,V],[]⟩ fun R=>(∃(L I J w' v j:Int),∃(z A:List Nat),∃(x:Rs),R=(0,(⟨[L,I,J,w',v,0,0,0,j],[z,A],[x,[],[],[]],[]⟩:Aj))/\(MS E Γ f K M O j C count left call loads B V)/\(DR lo Q D Γ Γ (left+1) left (AQ 2 0 0 0 z L I J A w' x 0 0 0 [] 0 [] [] []))/\(j<=pos+100)/\(v=x.length))∨(∃(U:Ctx),∃(t' L I J w' v j H q:Int),∃(z A:List Nat),∃(x P:Rs),R=(1,(⟨[t',L,I,J,w',v,0,0,0,j,H,q],[z,A],[x,[],[],[],P],[]⟩:Aj))/\(MS false U f K M O j H q left call loads B P)/\(DR lo Q D Γ U (left+1) left (AQ 1 0 t' 0 z L I J A w' x 0 0 0 [] 0 [] [] []))/\(Ext C V P)/\(count<=q)/\(C<=H)/\(j<=pos+100)/\(v=x.length))
theorem AdB {E:Bool} {d L Y A z:Nat} (hT:trees L=AcB d Y A z) (h8:T9 Y) (aa:Y3 E A) (ad:RN z):AcL E L:=by
 intro Γ K M lo pu D f bl pos j count left call v B V C h
 have ⟨hm,a9,a4,bh,a5,a6,bf,a8,bc,a7,bg⟩:=C;have ⟨hB,hl,hvl,GP,hV,hb,hc,hd⟩:=hm;have bb:G 3=40:=rfl;have be:G 2=12:=rfl;have ba:G (3-1)=12:=rfl
 refine .of (t:=AcB d Y A z) hT ?_
 conv=>arg 3;delta AcB;conv=>arg 3;reduce
 conv=>arg 3;reduce
 refine le j f (fun t1=>?_) fun t1=>?_
 ·obtain ⟨_,⟨ap,ai,ae,ag,ac,an,Q,I,P,x,af,al,aj,aq,rfl,X,a3,aM,aX,aN,aC,aV⟩,G2⟩:=aa lo pu D bl pos j count left call v B V (MS.mv C)
  refine ch G2 ?_
  have ⟨_,_,aA,a1,ax,aw,aU,aP,_,_,_⟩:=X
  exact Ah ⟨[ai,ae,ag,ac,an,Q,0,0,0,I,P,x],[af,al],[aj,[],[],[],aq],[]⟩ (.inr ((⟨ap,_,_,_,_,_,_,_,_,_,_,_,_,_,rfl,asm,A9,A9,kn,kn,kn,kn⟩)))
 obtain ⟨_,⟨q,H,rfl,ay,aD,aL⟩,G3⟩:=h8 hB hl pos j count left call v V
 refine ch G3 ?_
 refine AB (j-f) 0 ?_
 have m4:=Int.emod_nonneg q (show (j-f)≠0 by omega);have bi:=Int.emod_lt_of_pos q (show 0<(j-f) by omega)
 refine Dv (f+(q%(j-f))) 0 ?_
 refine CF (f+(q%(j-f))) j ?_
 obtain ⟨R,Xs,Z,U,N,aK,aZ⟩:=hV (f+(q%(j-f))) om om
 refine el Z ?_
 have aI:=N om;obtain ⟨_,_,_,az⟩:=U
 obtain ⟨_,⟨ak,au,ab,ao,O,J,ah,av,rfl,aF,a2,aO,aQ⟩,G6⟩:=ad (C.Fh count left) Xs 3 H
 refine ch G6 ?_
 refine de [] ?_
 refine ll 0 [] ?_
 exact Ah ⟨[ak,au,ab,ao,O,0,0,0,J],[R,ah],[av,[],[],[]],[]⟩ (.inl (⟨_,_,_,_,_,_,_,_,_,rfl,(MS.mv C),A9,kn,kn⟩))
def AcK (E:Bool) (N:Nat):Prop:=∀{Γ:Ctx} {f K M:Int} (lo J:Int) (D A:Int) (pos z:Int) (count left:Int) (call j:Int) (B V:Rs) (X:MS E Γ f K M A pos z count left call j B V) (h:1<=D/\pos+300*left+200<=M/\J=0:=by exact kn),Ok trees N ⟨[A,pos,z,count,left,call,j],[],[B,V],[]⟩ fun U=>(∃(v L O R Q x q:Int),∃(I P:List Nat),∃(H C:Rs),U=(0,(⟨[v,L,O,R,Q,x,0,0,q],[I,P],[H,C,[],[]],[]⟩:Aj))/\(MS E Γ f K M A q z count left call j B V)/\(DR lo J D Γ Γ (left+1) left (AQ 3 0 0 0 I 5 17 0 [] 0 H L O R P Q C [] []))/\(q<=pos+100)/\(v=H.length)/\(x=C.length))
theorem AkE {E:Bool} {d ah N8 A J:Nat} (hT:trees ah=AcA d N8 A J) (h8:T9 N8) (q:RN A) (x:VH A J):AcK E ah:=by
 intro Γ f K M lo pu D bl pos vl count left call X B V j h
 have ⟨hm,cC,cz,cI,cw,cA,cG,cB,cE,cx,cH⟩:=j;have ⟨hB,hl,hvl,GP,hV,hb,hc,hd⟩:=hm;have cy:G 3=40:=rfl;have cF:G 2=12:=rfl;have cD:G (3-1)=12:=rfl
 refine .of (t:=AcA d N8 A J) hT ?_
 conv=>arg 3;delta AcA;conv=>arg 3;reduce
 conv=>arg 3;reduce
 obtain ⟨_,⟨z,v,rfl,cq,cr,cf⟩,G1⟩:=h8 hB hl pos vl count left call X V
 refine ch G1 ?_
 refine eq (z%6) 0 (fun t2=>?_) fun t2=>?_
 ·obtain ⟨_,⟨ay,Q,a4,rfl,bP,b8,ci,cp⟩,G3⟩:=x (j.Fh count left) (Jd.of (j.Fh count left) (n:=10) @q) 8 3 v
  refine ch G3 ?_
  obtain ⟨_,⟨a6,a0,bh,ba,aM,af,aV,bf,rfl,bW,bX,b6,co⟩,G4⟩:=q (j.Fh count left) 1 3 Q
  refine ch G4 ?_
  refine de [] ?_
  refine ll 0 [] ?_
  exact Ah ⟨[ay,a6,a0,bh,ba,aM,0,0,af],[[97],aV],[a4,bf,[],[]],[]⟩ (⟨_,_,_,_,_,_,_,_,_,_,_,rfl,(MS.mv j),A9,kn,kn,kn⟩)
 refine eq (z%6) 1 (fun t5=>?_) fun t5=>?_
 ·obtain ⟨_,⟨ao,ag,bg,rfl,cc,b7,bY,bZ⟩,G6⟩:=x (j.Fh count left) (Jd.of (j.Fh count left) (n:=10) @q) 8 3 v
  refine ch G6 ?_
  obtain ⟨_,⟨bc,aR,a5,a7,aq,R,aW,aU,rfl,cg,ce,b2,ct⟩,G7⟩:=q (j.Fh count left) 1 3 ag
  refine ch G7 ?_
  refine de [] ?_
  refine ll 0 [] ?_
  exact Ah ⟨[ao,bc,aR,a5,a7,aq,0,0,R],[[97],aW],[bg,aU,[],[]],[]⟩ (⟨_,_,_,_,_,_,_,_,_,_,_,rfl,(MS.mv j),A9,kn,kn,kn⟩)
 refine eq (z%6) 2 (fun t8=>?_) fun t8=>?_
 ·obtain ⟨_,⟨aJ,ad,a8,rfl,bS,b4,cu,bQ⟩,G9⟩:=x (j.Fh count left) (Jd.of (j.Fh count left) (n:=10) @q) 8 3 v
  refine ch G9 ?_
  obtain ⟨_,⟨ap,aK,ai,ax,ab,I,aN,az,rfl,bt,bk,bE,bO⟩,a9⟩:=q (j.Fh count left) 1 3 ad
  refine ch a9 ?_
  refine de [] ?_
  refine ll 0 [] ?_
  exact Ah ⟨[aJ,ap,aK,ai,ax,ab,0,0,I],[[115],aN],[a8,az,[],[]],[]⟩ (⟨_,_,_,_,_,_,_,_,_,_,_,rfl,(MS.mv j),A9,kn,kn,kn⟩)
 refine eq (z%6) 3 (fun aY=>?_) fun aY=>?_
 ·obtain ⟨_,⟨Y,P,au,rfl,br,bM,bF,bB⟩,bb⟩:=x (j.Fh count left) (Jd.of (j.Fh count left) (n:=10) @q) 4 3 v
  refine ch bb ?_
  obtain ⟨_,⟨aI,aA,an,al,ac,N,aE,aF,rfl,bJ,bC,bw,bI⟩,a1⟩:=q (j.Fh count left) 2 3 P
  refine ch a1 ?_
  refine de [] ?_
  refine ll 0 [] ?_
  exact Ah ⟨[Y,aI,aA,an,al,ac,0,0,N],[[102],aE],[au,aF,[],[]],[]⟩ (⟨_,_,_,_,_,_,_,_,_,_,_,rfl,(MS.mv j),A9,kn,kn,kn⟩)
 refine eq (z%6) 4 (fun be=>?_) fun be=>?_
 ·obtain ⟨_,⟨U,C,ak,rfl,bG,bm,bi,bH⟩,a3⟩:=x (j.Fh count left) (Jd.of (j.Fh count left) (n:=10) @q) 4 3 v
  refine ch a3 ?_
  obtain ⟨_,⟨Kz,aQ,av,aD,aa,O,aB,aG,rfl,bo,bA,bv,bp⟩,a2⟩:=q (j.Fh count left) 1 3 C
  refine ch a2 ?_
  refine de [] ?_
  refine ll 0 [] ?_
  exact Ah ⟨[U,Kz,aQ,av,aD,aa,0,0,O],[[112],aB],[ak,aG,[],[]],[]⟩ (⟨_,_,_,_,_,_,_,_,_,_,_,rfl,(MS.mv j),A9,kn,kn,kn⟩)
 refine Bw (z%6) 5 ?_
 obtain ⟨_,⟨Z,H,aH,rfl,bn,bz,bj,bx⟩,aX⟩:=x (j.Fh count left) (Jd.of (j.Fh count left) (n:=10) @q) 4 3 v
 refine ch aX ?_
 obtain ⟨_,⟨AdA,aL,aw,aO,ae,L,aj,aC,rfl,bN,bL,bK,bD⟩,aZ⟩:=q (j.Fh count left) 3 3 H
 refine ch aZ ?_
 refine de [] ?_
 refine ll 0 [] ?_
 exact Ah ⟨[Z,AdA,aL,aw,aO,ae,0,0,L],[[98],aj],[aH,aC,[],[]],[]⟩ (⟨_,_,_,_,_,_,_,_,_,_,_,rfl,(MS.mv j),A9,kn,kn,kn⟩)
def AcJ (E:Bool) (N:Nat):Prop:=∀{Γ:Ctx} {K M:Int} (lo U:Int) (D f:Int) (O pos:Int) (J count:Int) (left call loads:Int) (B V:Rs) (hM:MS E Γ f K M O pos J count left call loads B V) (h:1<=D/\count+left+1<=K/\pos+300*left+200<=M/\U=0:=by exact kn),Ok trees N ⟨[f,O,pos,J,count,left,call,loads],[],[B,V],[]⟩ fun Y=>(∃(P I L H w' v k2 o2 y2 w2 Q j:Int),∃(z A Z:List Nat),∃(x X:Rs),Y=(0,(⟨[P,I,L,H,w',v,k2,o2,y2,w2,Q,0,0,j],[z,A,Z],[x,X,[],[]],[]⟩:Aj))/\(MS E Γ f K M O j J count left call loads B V)/\(DR lo U D Γ Γ (left+1) left (AQ 12 P 0 0 z I L H A w' x k2 o2 y2 Z w2 X [] []))/\(j<=pos+100)/\(v=x.length)/\(Q=X.length))∨(∃(Γ':Ctx),∃(t' I L H w' v j C q:Int),∃(z A:List Nat),∃(x R:Rs),Y=(1,(⟨[t',I,L,H,w',v,0,0,0,j,C,q],[z,A],[x,[],[],[],R],[]⟩:Aj))/\(MS false Γ' f K M O j C q left call loads B R)/\(DR lo U D Γ Γ' (left+1) left (AQ 1 0 t' 0 z I L H A w' x 0 0 0 [] 0 [] [] []))/\(Ext J V R)/\(count<=q)/\(J<=C)/\(j<=pos+100)/\(v=x.length))
theorem AdA {E:Bool} {d aI N8 az aa:Nat} (hT:trees aI=Ac9 d N8 az aa) (U:T9 N8) (bc:Y3 E az) (A:RN aa):AcJ E aI:=by
 intro Γ K M lo pu D f bl pos x count left call j B V v h
 have ⟨hm,dh,db,du,c6,dc,dl,dd,dj,c7,dt⟩:=v;have ⟨hB,hl,hvl,GP,hV,hb,hc,hd⟩:=hm;have c8:G 3=40:=rfl;have dk:G 2=12:=rfl;have di:G (3-1)=12:=rfl
 refine .of (t:=Ac9 d N8 az aa) hT ?_
 conv=>arg 3;delta Ac9;conv=>arg 3;reduce
 conv=>arg 3;reduce
 refine le x f (fun t1=>?_) fun t1=>?_
 ·obtain ⟨_,⟨bI,bD,bg,bC,bx,bn,a3,aE,aL,R,bB,bF,bh,bL,rfl,aV,cH,cy,c1,cz,ct,cB⟩,G2⟩:=bc lo pu D bl pos x count left call j B V (MS.mv v)
  refine ch G2 ?_
  have ⟨_,_,cM,c4,cJ,cI,cA,cY,_,_,_⟩:=aV
  exact Ah ⟨[bD,bg,bC,bx,bn,a3,0,0,0,aE,aL,R],[bB,bF],[bh,[],[],[],bL],[]⟩ (.inr ((⟨bI,_,_,_,_,_,_,_,_,_,_,_,_,_,rfl,asm,A9,A9,kn,kn,kn,kn⟩)))
 obtain ⟨_,⟨H,L,rfl,cq,cN,cX⟩,G3⟩:=U hB hl pos x count left call j V
 refine ch G3 ?_
 refine AB (x-f) 0 ?_
 have m4:=Int.emod_nonneg H (show (x-f)≠0 by omega);have c9:=Int.emod_lt_of_pos H (show 0<(x-f) by omega)
 refine Dv (f+(H%(x-f))) 0 ?_
 refine CF (f+(H%(x-f))) x ?_
 obtain ⟨q,Xs,a9,a5,aJ,cT,c3⟩:=hV (f+(H%(x-f))) om om
 refine el a9 ?_
 have cv:=aJ om;obtain ⟨_,_,_,cK⟩:=a5
 refine eq Xs 3 (fun t6=>?_) fun t6=>?_
 ·obtain ⟨_,⟨bi,aC,rfl,cW,cV,cD⟩,G7⟩:=U hB hl L x count left call j V
  refine ch G7 ?_
  obtain ⟨_,⟨XX,bp,bv,bw,a4,aG,bz,bA,rfl,cQ,cE,cu,cL⟩,G8⟩:=A (v.Fh count left) 3 3 aC
  refine ch G8 ?_
  refine de [] ?_
  refine ll 0 [] ?_
  exact Ah ⟨[(2+(bi%2)),XX,bp,bv,bw,a4,0,0,0,0,0,0,0,aG],[q,bz,[]],[bA,[],[],[]],[]⟩ (.inl (⟨_,_,_,_,_,_,_,_,_,_,_,_,_,_,_,_,_,rfl,(MS.mv v),A9,kn,kn,kn⟩))
 obtain ⟨_,⟨N,z,rfl,cw,cF,c5⟩,G9⟩:=U hB hl L x count left call j V
 refine ch G9 ?_
 refine eq (N%4) 0 (fun bk=>?_) fun bk=>?_
 ·obtain ⟨_,⟨X,af,rfl,ce,ci,cf⟩,bj⟩:=U hB hl z x count left call j V
  refine ch bj ?_
  obtain ⟨_,⟨UN,al,ab,ay,P,J,Y,ac,rfl,bW,cg,b7,b5⟩,bH⟩:=A (v.Fh count left) Xs 3 af
  refine ch bH ?_
  refine eq (X%2) 0 (fun bf=>?_) fun bf=>?_
  ·refine de [] ?_
   refine ll 0 [] ?_
   exact Ah ⟨[5,UN,al,ab,ay,P,0,0,0,0,0,0,0,J],[q,Y,[]],[ac,[],[],[]],[]⟩ (.inl (⟨_,_,_,_,_,_,_,_,_,_,_,_,_,_,_,_,_,rfl,(MS.mv v),A9,kn,kn,kn⟩))
  refine Bw (X%2) 1 ?_
  refine de [] ?_
  refine ll 0 [] ?_
  exact Ah ⟨[6,UN,al,ab,ay,P,0,0,0,0,0,0,0,J],[q,Y,[]],[ac,[],[],[]],[]⟩ (.inl (⟨_,_,_,_,_,_,_,_,_,_,_,_,_,_,_,_,_,rfl,(MS.mv v),A9,kn,kn,kn⟩))
 refine eq (N%4) 1 (fun bK=>?_) fun bK=>?_
 ·obtain ⟨_,⟨ao,ad,rfl,b8,bP,bO⟩,br⟩:=U hB hl z x count left call j V
  refine ch br ?_
  obtain ⟨_,⟨Kz,aA,ae,ak,Q,I,ai,an,rfl,bS,b4,bY,bV⟩,bo⟩:=A (v.Fh count left) Xs 3 ad
  refine ch bo ?_
  refine eq (ao%2) 0 (fun bm=>?_) fun bm=>?_
  ·refine de [] ?_
   refine ll 0 [] ?_
   exact Ah ⟨[5,Kz,aA,ae,ak,Q,0,0,0,0,0,0,0,I],[q,ai,[]],[an,[],[],[]],[]⟩ (.inl (⟨_,_,_,_,_,_,_,_,_,_,_,_,_,_,_,_,_,rfl,(MS.mv v),A9,kn,kn,kn⟩))
  refine Bw (ao%2) 1 ?_
  refine de [] ?_
  refine ll 0 [] ?_
  exact Ah ⟨[6,Kz,aA,ae,ak,Q,0,0,0,0,0,0,0,I],[q,ai,[]],[an,[],[],[]],[]⟩ (.inl (⟨_,_,_,_,_,_,_,_,_,_,_,_,_,_,_,_,_,rfl,(MS.mv v),A9,kn,kn,kn⟩))
 refine eq (N%4) 2 (fun bM=>?_) fun bM=>?_
 ·obtain ⟨_,⟨NX,aM,a0,aX,aD,ax,aN,aU,rfl,cd,bU,bT,cb⟩,bt⟩:=A (v.Fh count left) Xs 2 z
  refine ch bt ?_
  obtain ⟨_,⟨aK,a6,aQ,a2,aH,av,aW,aY,rfl,bN,b1,bZ,b9⟩,be⟩:=A (v.Fh count left) 1 2 ax
  refine ch be ?_
  refine de [] ?_
  refine ll 0 [] ?_
  exact Ah ⟨[4,NX,aM,a0,aX,aD,aK,a6,aQ,a2,aH,0,0,av],[q,aN,aW],[aU,aY,[],[]],[]⟩ (.inl (⟨_,_,_,_,_,_,_,_,_,_,_,_,_,_,_,_,_,rfl,(MS.mv v),A9,kn,kn,kn⟩))
 refine Bw (N%4) 3 ?_
 refine eq Xs 1 (fun bG=>?_) fun bG=>?_
 ·obtain ⟨_,⟨a8,aZ,aP,a1,aF,Z,aO,aR,rfl,bR,cc,bQ,b3⟩,bJ⟩:=A (v.Fh count left) 3 3 z
  refine ch bJ ?_
  refine de [] ?_
  refine ll 0 [] ?_
  exact Ah ⟨[1,a8,aZ,aP,a1,aF,0,0,0,0,0,0,0,Z],[q,aO,[]],[aR,[],[],[]],[]⟩ (.inl (⟨_,_,_,_,_,_,_,_,_,_,_,_,_,_,_,_,_,rfl,(MS.mv v),A9,kn,kn,kn⟩))
 obtain ⟨_,⟨aj,au,rfl,b6,b2,bX⟩,ba⟩:=U hB hl z x count left call j V
 refine ch ba ?_
 obtain ⟨_,⟨ah,ap,aw,ag,O,C,aB,aq,rfl,co,cp,b0,cj⟩,bE⟩:=A (v.Fh count left) Xs 3 au
 refine ch bE ?_
 refine eq (aj%2) 0 (fun bb=>?_) fun bb=>?_
 ·refine de [] ?_
  refine ll 0 [] ?_
  exact Ah ⟨[5,ah,ap,aw,ag,O,0,0,0,0,0,0,0,C],[q,aB,[]],[aq,[],[],[]],[]⟩ (.inl (⟨_,_,_,_,_,_,_,_,_,_,_,_,_,_,_,_,_,rfl,(MS.mv v),A9,kn,kn,kn⟩))
 refine Bw (aj%2) 1 ?_
 refine de [] ?_
 refine ll 0 [] ?_
 exact Ah ⟨[6,ah,ap,aw,ag,O,0,0,0,0,0,0,0,C],[q,aB,[]],[aq,[],[],[]],[]⟩ (.inl (⟨_,_,_,_,_,_,_,_,_,_,_,_,_,_,_,_,_,rfl,(MS.mv v),A9,kn,kn,kn⟩))
def FX (E:Bool) (N n:Nat):Prop:=∀{Γ:Ctx} {K M:Int} (f depth:Int) (P loop:Int) (pure bl:Int) (pos U:Int) (count left:Int) (call q:Int) (B V:Rs) (hM:MS E Γ f K M bl pos U count left call q B V) (h:0<=depth/\depth<=2/\1<=left/\(pure=0∨pure=1)/\(loop=0∨loop=1)/\(P=0∨P=1)/\depth.toNat<n),Ok trees N ⟨[f,depth,P,loop,pure,bl,pos,U,count,left,call,q],[],[B,V],[]⟩ fun zz=>(∃(Q o' J Y xo X Z xl yk yo yt yw R L el j left':Int),∃(H I yn:List Nat),∃(z C x A:Rs),zz=(0,(⟨[Q,o',J,Y,xo,X,Z,xl,yk,yo,yt,yw,R,L,el,j,left'],[H,I,yn],[z,C,x,A],[]⟩:Aj))/\(MS E Γ f K M bl j U count left' call q B V)/\(DR loop pure (depth+1) Γ Γ left left' (AQ Q o' 0 J H Y xo X I Z z yk yo yt yn yw C x A))/\(j+300*left'<=pos+300*left)/\(xl=z.length)/\(R=C.length)/\(L=x.length)/\(el=A.length)/\(left'+1<=left))∨(∃(Γ':Ctx),∃(Q t' J Y xo X Z xl R L el j O v left':Int),∃(H I:List Nat),∃(z C x A V':Rs),zz=(1,(⟨[Q,t',J,Y,xo,X,Z,xl,R,L,el,j,O,v,left'],[H,I],[z,C,x,A,V'],[]⟩:Aj))/\(MS false Γ' f K M bl j O v left' call q B V')/\(DR loop pure (depth+1) Γ Γ' left left' (AQ Q 0 t' J H Y xo X I Z z 0 0 0 [] 0 C x A))/\(Ext U V V')/\(count<=v)/\(U<=O)/\(j+300*left'<=pos+300*left)/\(xl=z.length)/\(R=C.length)/\(L=x.length)/\(el=A.length)/\(left'+1<=left))
def Aed (E:Bool) (N:Nat):Prop:=∀{Γ:Ctx} {K M:Int} (f depth:Int) (P loop:Int) (pure bl:Int) (pos U:Int) (count left:Int) (call q:Int) (B V:Rs) (hM:MS E Γ f K M bl pos U count left call q B V) (h:0<=depth/\depth<=2/\1<=left/\(pure=0∨pure=1)/\(loop=0∨loop=1)/\(P=0∨P=1):=by exact kn),Ok trees N ⟨[f,depth,P,loop,pure,bl,pos,U,count,left,call,q],[],[B,V],[]⟩ fun zz=>(∃(Q o' J Y xo X Z xl yk yo yt yw R L el j left':Int),∃(H I yn:List Nat),∃(z C x A:Rs),zz=(0,(⟨[Q,o',J,Y,xo,X,Z,xl,yk,yo,yt,yw,R,L,el,j,left'],[H,I,yn],[z,C,x,A],[]⟩:Aj))/\(MS E Γ f K M bl j U count left' call q B V)/\(DR loop pure (depth+1) Γ Γ left left' (AQ Q o' 0 J H Y xo X I Z z yk yo yt yn yw C x A))/\(j+300*left'<=pos+300*left)/\(xl=z.length)/\(R=C.length)/\(L=x.length)/\(el=A.length)/\(left'+1<=left))∨(∃(Γ':Ctx),∃(Q t' J Y xo X Z xl R L el j O v left':Int),∃(H I:List Nat),∃(z C x A V':Rs),zz=(1,(⟨[Q,t',J,Y,xo,X,Z,xl,R,L,el,j,O,v,left'],[H,I],[z,C,x,A,V'],[]⟩:Aj))/\(MS false Γ' f K M bl j O v left' call q B V')/\(DR loop pure (depth+1) Γ Γ' left left' (AQ Q 0 t' J H Y xo X I Z z 0 0 0 [] 0 C x A))/\(Ext U V V')/\(count<=v)/\(U<=O)/\(j+300*left'<=pos+300*left)/\(xl=z.length)/\(R=C.length)/\(L=x.length)/\(el=A.length)/\(left'+1<=left))
theorem FX.of {E:Bool} {N n:Nat} (H:Aed E N):FX E N n:=fun {Γ} {K} {M} f depth top loop pure bl pos vl count left call loads B V hM h=>H f depth top loop pure bl pos vl count left call loads B V hM (by have:=h;omega)
def Yz (E:Bool) (H N:Nat):Prop:=∀{m:Nat} (J:FX E H m) {Γ:Ctx} {K M:Int} (f depth:Int) (loop pure:Int) (A pos:Int) (x count:Int) (left call loads:Int) (B V:Rs) (L:MS E Γ f K M A pos x count left call loads B V) (h:0<=depth/\depth<=2/\(pure=0∨pure=1)/\(loop=0∨loop=1)/\depth.toNat<m/\pos+300*left+10<=M:=by exact kn),Ok trees N ⟨[f,depth,loop,pure,A,pos,x,count,left,call,loads],[],[B,V],[]⟩ fun I=>(∃(z j left':Int),∃(v:Rs),I=(0,(⟨[z,j,left'],[],[v],[]⟩:Aj))/\(MS E Γ f K M A j x count left' call loads B V)/\(I3 loop pure (depth+1) Γ left left' v)/\(z=v.length)/\(left'<=left)/\(j+300*left'<=pos+300*left+1))∨(∃(z j q left':Int),∃(v C:Rs),I=(1,(⟨[z,j,x,q,left'],[],[v,C],[]⟩:Aj))/\(MS false Γ f K M A j x q left' call loads B C)/\(I3 loop pure (depth+1) Γ left left' v)/\(Ext x V C)/\(count<=q)/\(z=v.length)/\(left'<=left)/\(j+300*left'<=pos+300*left+1))
theorem Aon {E:Bool} {d bb a6 N8 cO cG a7 bX b4 bV cR an ak:Nat} (hT:trees bb=Yx d N8 cO cG a7 bX b4 bV cR an ak) (h8:T9 N8) (iL:Y3 E cO) (au:AcL E cG) (bi:RN a7) (af:AcK E bX) (kl:AcJ E b4) (j6:VH a7 bV) (bS:Yz E bb cR) (e0:T9 an) (e1:Yz false a6 ak) (hx:∀n,FX E bb n->FX false a6 n) (n:Nat):FX E bb n:=by
 induction n with
 |zero=>intro Γ K M f depth av loop pure U pos C count left call j B V x h;exact absurd h.2.2.2.2.2.2 (Nat.not_lt_zero _)
 |succ n ih=>
 intro Γ K M f depth av loop pure U pos C count left call j B V x h
 have ⟨hm,nO,nM,nY,nX,nR,nU,nN,nP,nQ,nV⟩:=x;have ⟨hB,hl,hvl,GP,hV,hb,hc,hd⟩:=hm;have nW:G 3=40:=rfl;have nT:G 2=12:=rfl;have nS:G (3-1)=12:=rfl
 refine .of (t:=Yx d N8 cO cG a7 bX b4 bV cR an ak) hT ?_
 conv=>arg 3;delta Yx;conv=>arg 3;reduce
 conv=>arg 3;reduce
 obtain ⟨_,⟨X,q,rfl,nn,nF,nl⟩,G1⟩:=h8 hB hl pos C count (left-1) call j V
 refine ch G1 ?_
 refine eq (X%14) 0 (fun t2=>?_) fun t2=>?_
 ·obtain ⟨_,⟨ho,ia,iT,iB,jy,kq,gn,eb,gm,bD,jH,im,gY,ij,rfl,cQ,nI,ny,nB,np,nx,nJ⟩,G3⟩:=iL loop pure (depth+1) U q C count (left-1) call j B V (MS.mv x)
  refine ch G3 ?_
  have ⟨_,_,nq,nH,nL,nw,nA,ng,_,_,_⟩:=cQ
  exact Ah ⟨[1,ia,0,iT,iB,jy,kq,gn,0,0,0,eb,gm,bD,(left-1)],[jH,im],[gY,[],[],[],ij],[]⟩ (.inr ((⟨ho,_,_,_,_,_,_,_,_,_,_,_,_,_,_,_,_,_,_,_,_,_,_,rfl,(MS.mv cQ),A9,A9,kn,kn,kn,kn,kn,kn,kn,kn⟩)))
 refine lt (X%14) 4 (fun t4=>?_) fun t4=>?_
 ·obtain ⟨_,(⟨gg,gf,gy,f9,dN,cY,gu,f4,gb,rfl,ba,lu,m0,mW⟩|⟨gq,fX,gw,gl,gp,gk,eA,cS,e5,a3,gh,f3,fW,fY,rfl,bj,lZ,mz,lR,lG,k2,lM⟩),G5⟩:=au loop pure (depth+1) f U q C count (left-1) call j B V (MS.mv x)
  ·refine ch G5 ?_
   have ⟨_,_,lz,mZ,mb,k5,mU,mD,_,_,_⟩:=ba
   exact Ah ⟨[2,0,0,gg,gf,gy,f9,dN,0,0,0,0,0,0,0,cY,(left-1)],[gu,f4,[]],[gb,[],[],[]],[]⟩ (.inl (⟨_,_,_,_,_,_,_,_,_,_,_,_,_,_,_,_,_,_,_,_,_,_,_,_,rfl,(MS.mv ba),A9,kn,kn,kn,kn,kn,kn⟩))
  refine cm G5 ?_
  refine ch G5 ?_
  have ⟨_,_,k7,mu,mS,kV,mw,k0,_,_,_⟩:=bj
  exact Ah ⟨[1,fX,0,gw,gl,gp,gk,eA,0,0,0,cS,e5,a3,(left-1)],[gh,f3],[fW,[],[],[],fY],[]⟩ (.inr ((⟨gq,_,_,_,_,_,_,_,_,_,_,_,_,_,_,_,_,_,_,_,_,_,_,rfl,(MS.mv bj),A9,A9,kn,kn,kn,kn,kn,kn,kn,kn⟩)))
 refine eq (X%14) 4 (fun t6=>?_) fun t6=>?_
 ·refine gt depth 0 (fun t7=>?_) fun t7=>?_
  ·obtain ⟨_,⟨XX,ad,ae,ab,aa,ez,ac,ag,rfl,nE,nD,nc,ni⟩,G8⟩:=bi (x.Fh count (left-1)) 3 3 q
   refine ch G8 ?_
   obtain ⟨_,(⟨aj,cC,Y,a5,rfl,ai,lk,kP,mE,lJ⟩|⟨al,bR,R,Z,a1,ah,rfl,ao,l6,lN,kS,mt,mQ,na⟩),G9⟩:=bS @ih f (depth-1) loop pure U ez C count (left-1) call j B V (MS.mv x)
   ·refine ch G9 ?_
    have ⟨_,_,m8,lp,mC,mJ,lK,mI,_,_,_⟩:=ai
    obtain ⟨_,⟨f1,aD,rfl,kQ,my,mi⟩,jw⟩:=h8 hB hl cC C count Y call j V
    refine ch jw ?_
    refine eq (f1%2) 0 (fun jU=>?_) fun jU=>?_
    ·obtain ⟨_,(⟨cA,bt,aX,dX,rfl,ap,hN,ig,jO,jf⟩|⟨cx,bo,aM,a4,ed,es,rfl,aK,hP,iy,jh,hW,jA,ik⟩),cN⟩:=bS @ih f (depth-1) loop pure U aD C count Y call j B V (MS.mv ai)
     ·refine ch cN ?_
      have ⟨_,_,gJ,ki,gT,jV,j2,gF,_,_,_⟩:=ap
      refine de [] ?_
      refine ll 0 [] ?_
      exact Ah ⟨[5,0,0,XX,ad,ae,ab,aa,0,0,0,0,0,aj,cA,bt,aX],[[],ac,[]],[ag,[],a5,dX],[]⟩ (.inl (⟨_,_,_,_,_,_,_,_,_,_,_,_,_,_,_,_,_,_,_,_,_,_,_,_,rfl,(MS.mv ap),A9,kn,kn,kn,kn,kn,kn⟩))
     refine cm cN ?_
     refine ch cN ?_
     have ⟨_,_,kv,gI,hJ,h9,hX,gR,_,_,_⟩:=aK
     refine de [] ?_
     refine ll 0 [] ?_
     exact Ah ⟨[5,0,0,XX,ad,ae,ab,aa,0,aj,cx,bo,C,aM,a4],[[],ac],[ag,[],a5,ed,es],[]⟩ (.inr ((⟨Γ,_,_,_,_,_,_,_,_,_,_,_,_,_,_,_,_,_,_,_,_,_,_,rfl,(MS.mv aK),A9,A9,kn,kn,kn,kn,kn,kn,kn,kn⟩)))
    refine de [] ?_
    refine ll 0 [] ?_
    exact Ah ⟨[5,0,0,XX,ad,ae,ab,aa,0,0,0,0,0,aj,0,aD,Y],[[],ac,[]],[ag,[],a5,[]],[]⟩ (.inl (⟨_,_,_,_,_,_,_,_,_,_,_,_,_,_,_,_,_,_,_,_,_,_,_,_,rfl,(MS.mv ai),A9,kn,kn,kn,kn,kn,kn⟩))
   refine cm G9 ?_
   refine ch G9 ?_
   have ⟨_,_,kT,mx,mf,lU,lb,lc,_,_,_⟩:=ao
   obtain ⟨_,⟨f7,aV,rfl,k9,mh,mL⟩,gS⟩:=e0 hB hl bR C R Z call j ah
   refine ch gS ?_
   refine eq (f7%2) 0 (fun iE=>?_) fun iE=>?_
   ·obtain ⟨_,(⟨b0,bA,aW,c6,rfl,aQ,gE,jD,jC,ky⟩|⟨b3,bB,aC,aZ,ff,ec,rfl,aB,hs,jQ,iI,jt,gZ,ie⟩),bQ⟩:=e1 (hx _ @ih) f (depth-1) loop pure U aV C R Z call j B ah (MS.mv ao)
    ·refine ch bQ ?_
     have ⟨_,_,jL,ic,kz,hu,ii,kg,_,_,_⟩:=aQ
     refine de [] ?_
     refine ll 0 [] ?_
     exact Ah ⟨[5,0,0,XX,ad,ae,ab,aa,0,al,b0,bA,C,R,aW],[[],ac],[ag,[],a1,c6,ah],[]⟩ (.inr ((⟨Γ,_,_,_,_,_,_,_,_,_,_,_,_,_,_,_,_,_,_,_,_,_,_,rfl,(MS.mv aQ),A9,A9,kn,kn,kn,kn,kn,kn,kn,kn⟩)))
    refine cm bQ ?_
    refine ch bQ ?_
    have ⟨_,_,hD,jZ,jo,iV,j8,h4,_,_,_⟩:=aB
    refine de [] ?_
    refine ll 0 [] ?_
    exact Ah ⟨[5,0,0,XX,ad,ae,ab,aa,0,al,b3,bB,C,aC,aZ],[[],ac],[ag,[],a1,ff,ec],[]⟩ (.inr ((⟨Γ,_,_,_,_,_,_,_,_,_,_,_,_,_,_,_,_,_,_,_,_,_,_,rfl,(MS.mv aB),A9,A9,kn,kn,kn,kn,kn,kn,kn,kn⟩)))
   refine de [] ?_
   refine ll 0 [] ?_
   exact Ah ⟨[5,0,0,XX,ad,ae,ab,aa,0,al,0,aV,C,R,Z],[[],ac],[ag,[],a1,[],ah],[]⟩ (.inr ((⟨Γ,_,_,_,_,_,_,_,_,_,_,_,_,_,_,_,_,_,_,_,_,_,_,rfl,(MS.mv ao),A9,A9,kn,kn,kn,kn,kn,kn,kn,kn⟩)))
  refine sn pure 0 (fun jJ=>?_) fun jJ=>?_
  ·obtain ⟨_,⟨dj,d5,fM,eI,e6,b9,ce,gx,eO,gd,dR,rfl,bf,kY,kI,mM,mK⟩,jS⟩:=af loop pure (depth+1) U q C count (left-1) call j B V (MS.mv x)
   refine ch jS ?_
   have ⟨_,_,kU,mB,lX,ms,mP,k3,_,_,_⟩:=bf
   exact Ah ⟨[3,0,0,5,17,0,0,dj,d5,fM,eI,e6,b9,0,0,ce,(left-1)],[gx,[],eO],[gd,dR,[],[]],[]⟩ (.inl (⟨_,_,_,_,_,_,_,_,_,_,_,_,_,_,_,_,_,_,_,_,_,_,_,_,rfl,(MS.mv bf),A9,kn,kn,kn,kn,kn,kn⟩))
  refine Bg pure 1 ?_
  obtain ⟨_,(⟨fA,fE,eH,fD,b8,bF,fo,dC,ep,rfl,aI,kd,iD,i5⟩|⟨fd,e7,e9,fB,dM,c3,cK,bn,bT,aE,er,fI,fS,e8,rfl,aJ,hK,il,jn,jz,g9,iQ⟩),cV⟩:=au loop pure (depth+1) f U q C count (left-1) call j B V (MS.mv x)
  ·refine ch cV ?_
   have ⟨_,_,iu,jN,hz,jK,g6,kG,_,_,_⟩:=aI
   exact Ah ⟨[2,0,0,fA,fE,eH,fD,b8,0,0,0,0,0,0,0,bF,(left-1)],[fo,dC,[]],[ep,[],[],[]],[]⟩ (.inl (⟨_,_,_,_,_,_,_,_,_,_,_,_,_,_,_,_,_,_,_,_,_,_,_,_,rfl,(MS.mv aI),A9,kn,kn,kn,kn,kn,kn⟩))
  refine cm cV ?_
  refine ch cV ?_
  have ⟨_,_,ib,jI,iA,i8,h1,ja,_,_,_⟩:=aJ
  exact Ah ⟨[1,e7,0,e9,fB,dM,c3,cK,0,0,0,bn,bT,aE,(left-1)],[er,fI],[fS,[],[],[],e8],[]⟩ (.inr ((⟨fd,_,_,_,_,_,_,_,_,_,_,_,_,_,_,_,_,_,_,_,_,_,_,rfl,(MS.mv aJ),A9,A9,kn,kn,kn,kn,kn,kn,kn,kn⟩)))
 refine eq (X%14) 5 (fun kc=>?_) fun kc=>?_
 ·refine gt depth 0 (fun kA=>?_) fun kA=>?_
  ·obtain ⟨_,⟨cX,ci,bI,b1,bg,cH,cW,b5,rfl,mY,la,mO,mA⟩,iW⟩:=bi (x.Fh count (left-1)) 3 3 q
   refine ch iW ?_
   obtain ⟨_,⟨cZ,bJ,rfl,kN,lL,lg⟩,hr⟩:=h8 hB hl cH C count (left-1) call j V
   refine ch hr ?_
   obtain ⟨_,(⟨cb,bC,aY,eV,rfl,aL,jd,jY,iz,jr⟩|⟨bK,bp,aA,a2,dw,dZ,rfl,aO,iF,jR,kB,i7,h3,hk⟩),cu⟩:=bS @ih f (depth-1) 1 pure U bJ C count (left-1) call j B V (MS.mv x)
   ·refine ch cu ?_
    have ⟨_,_,jW,gL,iX,gN,g5,jj,_,_,_⟩:=aL
    refine de [] ?_
    refine ll 0 [] ?_
    exact Ah ⟨[6,0,(1+(cZ%4)),cX,ci,bI,b1,bg,0,0,0,0,0,cb,0,bC,aY],[[],cW,[]],[b5,[],eV,[]],[]⟩ (.inl (⟨_,_,_,_,_,_,_,_,_,_,_,_,_,_,_,_,_,_,_,_,_,_,_,_,rfl,(MS.mv aL),A9,kn,kn,kn,kn,kn,kn⟩))
   refine cm cu ?_
   refine ch cu ?_
   have ⟨_,_,iP,g8,jl,jv,i2,jq,_,_,_⟩:=aO
   refine de [] ?_
   refine ll 0 [] ?_
   exact Ah ⟨[6,0,(1+(cZ%4)),cX,ci,bI,b1,bg,0,bK,0,bp,C,aA,a2],[[],cW],[b5,[],dw,[],dZ],[]⟩ (.inr ((⟨Γ,_,_,_,_,_,_,_,_,_,_,_,_,_,_,_,_,_,_,_,_,_,_,rfl,(MS.mv aO),A9,A9,kn,kn,kn,kn,kn,kn,kn,kn⟩)))
  refine sn pure 0 (fun hG=>?_) fun hG=>?_
  ·obtain ⟨_,⟨fF,ey,ei,fe,d6,bH,bP,fV,fK,f5,dk,rfl,be,kK,mX,lw,k4⟩,iY⟩:=af loop pure (depth+1) U q C count (left-1) call j B V (MS.mv x)
   refine ch iY ?_
   have ⟨_,_,mg,lq,mF,lf,ld,kX,_,_,_⟩:=be
   exact Ah ⟨[3,0,0,5,17,0,0,fF,ey,ei,fe,d6,bH,0,0,bP,(left-1)],[fV,[],fK],[f5,dk,[],[]],[]⟩ (.inl (⟨_,_,_,_,_,_,_,_,_,_,_,_,_,_,_,_,_,_,_,_,_,_,_,_,rfl,(MS.mv be),A9,kn,kn,kn,kn,kn,kn⟩))
  refine Bg pure 1 ?_
  obtain ⟨_,(⟨du,c5,e3,dz,cM,bm,db,fu,eW,rfl,aR,kt,hn,iG⟩|⟨dd,ew,d9,eJ,ej,eC,cF,bG,cU,aF,dv,eX,eK,e4,rfl,aq,hv,h2,ir,g7,hg,km⟩),cE⟩:=au loop pure (depth+1) f U q C count (left-1) call j B V (MS.mv x)
  ·refine ch cE ?_
   have ⟨_,_,hC,hU,gP,ku,j7,gW,_,_,_⟩:=aR
   exact Ah ⟨[2,0,0,du,c5,e3,dz,cM,0,0,0,0,0,0,0,bm,(left-1)],[db,fu,[]],[eW,[],[],[]],[]⟩ (.inl (⟨_,_,_,_,_,_,_,_,_,_,_,_,_,_,_,_,_,_,_,_,_,_,_,_,rfl,(MS.mv aR),A9,kn,kn,kn,kn,kn,kn⟩))
  refine cm cE ?_
  refine ch cE ?_
  have ⟨_,_,j3,js,g0,h5,gO,kw,_,_,_⟩:=aq
  exact Ah ⟨[1,ew,0,d9,eJ,ej,eC,cF,0,0,0,bG,cU,aF,(left-1)],[dv,eX],[eK,[],[],[],e4],[]⟩ (.inr ((⟨dd,_,_,_,_,_,_,_,_,_,_,_,_,_,_,_,_,_,_,_,_,_,_,rfl,(MS.mv aq),A9,A9,kn,kn,kn,kn,kn,kn,kn,kn⟩)))
 refine eq (X%14) 6 (fun i1=>?_) fun i1=>?_
 ·refine sn loop 0 (fun kh=>?_) fun kh=>?_
  ·refine sn pure 0 (fun gV=>?_) fun gV=>?_
   ·obtain ⟨_,⟨dG,eP,c4,fg,dl,cz,cI,f2,eF,gA,et,rfl,bh,mm,k8,ly,me⟩,i9⟩:=af loop pure (depth+1) U q C count (left-1) call j B V (MS.mv x)
    refine ch i9 ?_
    have ⟨_,_,lO,kM,l9,l2,kJ,nb,_,_,_⟩:=bh
    exact Ah ⟨[3,0,0,5,17,0,0,dG,eP,c4,fg,dl,cz,0,0,cI,(left-1)],[f2,[],eF],[gA,et,[],[]],[]⟩ (.inl (⟨_,_,_,_,_,_,_,_,_,_,_,_,_,_,_,_,_,_,_,_,_,_,_,_,rfl,(MS.mv bh),A9,kn,kn,kn,kn,kn,kn⟩))
   refine Bg pure 1 ?_
   obtain ⟨_,(⟨ea,fk,fH,fJ,cj,bz,fv,eQ,d2,rfl,aH,kj,jM,jp⟩|⟨eY,dJ,ek,fR,dF,fN,bM,bw,co,aU,dx,eh,dc,e2,rfl,az,he,gG,hw,j4,gH,jP⟩),bO⟩:=au loop pure (depth+1) f U q C count (left-1) call j B V (MS.mv x)
   ·refine ch bO ?_
    have ⟨_,_,gU,jc,hh,hO,jm,iv,_,_,_⟩:=aH
    exact Ah ⟨[2,0,0,ea,fk,fH,fJ,cj,0,0,0,0,0,0,0,bz,(left-1)],[fv,eQ,[]],[d2,[],[],[]],[]⟩ (.inl (⟨_,_,_,_,_,_,_,_,_,_,_,_,_,_,_,_,_,_,_,_,_,_,_,_,rfl,(MS.mv aH),A9,kn,kn,kn,kn,kn,kn⟩))
   refine cm bO ?_
   refine ch bO ?_
   have ⟨_,_,hA,ke,jG,jx,i0,jX,_,_,_⟩:=az
   exact Ah ⟨[1,dJ,0,ek,fR,dF,fN,bM,0,0,0,bw,co,aU,(left-1)],[dx,eh],[dc,[],[],[],e2],[]⟩ (.inr ((⟨eY,_,_,_,_,_,_,_,_,_,_,_,_,_,_,_,_,_,_,_,_,_,_,rfl,(MS.mv az),A9,A9,kn,kn,kn,kn,kn,kn,kn,kn⟩)))
  refine Bg loop 1 ?_
  obtain ⟨_,⟨fU,bW,rfl,k1,mr,mN⟩,kf⟩:=h8 hB hl q C count (left-1) call j V
  refine ch kf ?_
  refine de [] ?_
  refine ll 0 [] ?_
  exact Ah ⟨[(7+(fU%2)),0,0,0,0,0,0,0,0,0,0,0,0,0,0,bW,(left-1)],[[],[],[]],[[],[],[],[]],[]⟩ (.inl (⟨_,_,_,_,_,_,_,_,_,_,_,_,_,_,_,_,_,_,_,_,_,_,_,_,rfl,(MS.mv x),A9,kn,kn,kn,kn,kn,kn⟩))
 refine sn pure 0 (fun iU=>?_) fun iU=>?_
 ·refine eq (X%14) 7 (fun hq=>?_) fun hq=>?_
  ·refine sn av 0 (fun jk=>?_) fun jk=>?_
   ·obtain ⟨_,⟨d4,eT,eZ,di,eG,cv,cy,gj,fy,gz,en,rfl,bc,mo,lY,lT,mG⟩,hQ⟩:=af loop pure (depth+1) U q C count (left-1) call j B V (MS.mv x)
    refine ch hQ ?_
    have ⟨_,_,mT,lv,mV,k6,mH,lA,_,_,_⟩:=bc
    exact Ah ⟨[3,0,0,5,17,0,0,d4,eT,eZ,di,eG,cv,0,0,cy,(left-1)],[gj,[],fy],[gz,en,[],[]],[]⟩ (.inl (⟨_,_,_,_,_,_,_,_,_,_,_,_,_,_,_,_,_,_,_,_,_,_,_,_,rfl,(MS.mv bc),A9,kn,kn,kn,kn,kn,kn⟩))
   refine Bg av 1 ?_
   refine de [] ?_
   refine ll 0 [] ?_
   exact Ah ⟨[10,0,0,0,0,0,0,0,0,0,0,0,0,0,0,q,(left-1)],[[],[],[]],[[],[],[],[]],[]⟩ (.inl (⟨_,_,_,_,_,_,_,_,_,_,_,_,_,_,_,_,_,_,_,_,_,_,_,_,rfl,(MS.mv x),A9,kn,kn,kn,kn,kn,kn⟩))
  refine eq (X%14) 8 (fun kC=>?_) fun kC=>?_
  ·refine sn av 0 (fun j9=>?_) fun j9=>?_
   ·obtain ⟨_,⟨dt,dH,ef,c1,d1,cg,cp,gv,fi,gr,eo,rfl,a8,lI,mj,m9,lE⟩,io⟩:=af loop pure (depth+1) U q C count (left-1) call j B V (MS.mv x)
    refine ch io ?_
    have ⟨_,_,ml,mn,lD,kW,kR,mp,_,_,_⟩:=a8
    exact Ah ⟨[3,0,0,5,17,0,0,dt,dH,ef,c1,d1,cg,0,0,cp,(left-1)],[gv,[],fi],[gr,eo,[],[]],[]⟩ (.inl (⟨_,_,_,_,_,_,_,_,_,_,_,_,_,_,_,_,_,_,_,_,_,_,_,_,rfl,(MS.mv a8),A9,kn,kn,kn,kn,kn,kn⟩))
   refine Bg av 1 ?_
   obtain ⟨_,(⟨b7,c8,dU,d0,eg,cB,bU,bL,cd,cJ,bE,bk,fP,d3,ct,fa,bY,rfl,aw,gB,kH,j5,hF⟩|⟨eB,fT,eU,fw,dY,c2,cr,bx,cT,ax,c7,dh,dE,fj,rfl,ay,jB,gC,jE,kD,hZ,ko⟩),cf⟩:=kl loop pure (depth+1) f U q C count (left-1) call j B V (MS.mv x)
   ·refine ch cf ?_
    have ⟨_,_,jT,kp,iw,i6,hp,jF,_,_,_⟩:=aw
    exact Ah ⟨[12,b7,0,c8,dU,d0,eg,cB,bU,bL,cd,cJ,bE,0,0,bk,(left-1)],[fP,d3,ct],[fa,bY,[],[]],[]⟩ (.inl (⟨_,_,_,_,_,_,_,_,_,_,_,_,_,_,_,_,_,_,_,_,_,_,_,_,rfl,(MS.mv aw),A9,kn,kn,kn,kn,kn,kn⟩))
   refine cm cf ?_
   refine ch cf ?_
   have ⟨_,_,kr,iZ,kF,hI,h0,hL,_,_,_⟩:=ay
   exact Ah ⟨[1,fT,0,eU,fw,dY,c2,cr,0,0,0,bx,cT,ax,(left-1)],[c7,dh],[dE,[],[],[],fj],[]⟩ (.inr ((⟨eB,_,_,_,_,_,_,_,_,_,_,_,_,_,_,_,_,_,_,_,_,_,_,rfl,(MS.mv ay),A9,A9,kn,kn,kn,kn,kn,kn,kn,kn⟩)))
  refine eq (X%14) 9 (fun hH=>?_) fun hH=>?_
  ·obtain ⟨_,⟨A,cD,H,rfl,lH,lF,lQ,lC⟩,ka⟩:=j6 (x.Fh count (left-1)) (Jd.of (x.Fh count (left-1)) (n:=10) @bi) 8 3 q
   refine ch ka ?_
   obtain ⟨_,⟨Adt,bN,rfl,mc,lV,mq⟩,hR⟩:=h8 hB hl cD C count (left-1) call j V
   refine ch hR ?_
   obtain ⟨_,⟨O,cw,rfl,lj,l5,l8⟩,g4⟩:=h8 hB hl bN C count (left-1) call j V
   refine ch g4 ?_
   obtain ⟨_,⟨I,J,Q,P,z,v,N,L,rfl,kL,l4,l1,kZ⟩,kb⟩:=bi (x.Fh count (left-1)) 1 3 cw
   refine ch kb ?_
   refine eq (Adt%2) 0 (fun ip=>?_) fun ip=>?_
   ·refine eq (O%6) 0 (fun kE=>?_) fun kE=>?_
    ·refine de [] ?_
     refine ll 0 [] ?_
     exact Ah ⟨[4,10,0,5,17,0,0,A,I,J,Q,P,z,0,0,v,(left-1)],[[97],[],N],[H,L,[],[]],[]⟩ (.inl (⟨_,_,_,_,_,_,_,_,_,_,_,_,_,_,_,_,_,_,_,_,_,_,_,_,rfl,(MS.mv x),A9,kn,kn,kn,kn,kn,kn⟩))
    refine eq (O%6) 1 (fun gX=>?_) fun gX=>?_
    ·refine de [] ?_
     refine ll 0 [] ?_
     exact Ah ⟨[4,22,0,5,17,0,0,A,I,J,Q,P,z,0,0,v,(left-1)],[[97],[],N],[H,L,[],[]],[]⟩ (.inl (⟨_,_,_,_,_,_,_,_,_,_,_,_,_,_,_,_,_,_,_,_,_,_,_,_,rfl,(MS.mv x),A9,kn,kn,kn,kn,kn,kn⟩))
    refine eq (O%6) 2 (fun hE=>?_) fun hE=>?_
    ·refine de [] ?_
     refine ll 0 [] ?_
     exact Ah ⟨[4,23,0,5,17,0,0,A,I,J,Q,P,z,0,0,v,(left-1)],[[97],[],N],[H,L,[],[]],[]⟩ (.inl (⟨_,_,_,_,_,_,_,_,_,_,_,_,_,_,_,_,_,_,_,_,_,_,_,_,rfl,(MS.mv x),A9,kn,kn,kn,kn,kn,kn⟩))
    refine eq (O%6) 3 (fun ht=>?_) fun ht=>?_
    ·refine de [] ?_
     refine ll 0 [] ?_
     exact Ah ⟨[4,17,0,5,17,0,0,A,I,J,Q,P,z,0,0,v,(left-1)],[[97],[],N],[H,L,[],[]],[]⟩ (.inl (⟨_,_,_,_,_,_,_,_,_,_,_,_,_,_,_,_,_,_,_,_,_,_,_,_,rfl,(MS.mv x),A9,kn,kn,kn,kn,kn,kn⟩))
    refine eq (O%6) 4 (fun gD=>?_) fun gD=>?_
    ·refine de [] ?_
     refine ll 0 [] ?_
     exact Ah ⟨[4,18,0,5,17,0,0,A,I,J,Q,P,z,0,0,v,(left-1)],[[97],[],N],[H,L,[],[]],[]⟩ (.inl (⟨_,_,_,_,_,_,_,_,_,_,_,_,_,_,_,_,_,_,_,_,_,_,_,_,rfl,(MS.mv x),A9,kn,kn,kn,kn,kn,kn⟩))
    refine Bw (O%6) 5 ?_
    refine de [] ?_
    refine ll 0 [] ?_
    exact Ah ⟨[4,19,0,5,17,0,0,A,I,J,Q,P,z,0,0,v,(left-1)],[[97],[],N],[H,L,[],[]],[]⟩ (.inl (⟨_,_,_,_,_,_,_,_,_,_,_,_,_,_,_,_,_,_,_,_,_,_,_,_,rfl,(MS.mv x),A9,kn,kn,kn,kn,kn,kn⟩))
   refine Bw (Adt%2) 1 ?_
   refine eq (O%6) 0 (fun iH=>?_) fun iH=>?_
   ·refine de [] ?_
    refine ll 0 [] ?_
    exact Ah ⟨[4,10,0,5,17,0,0,A,I,J,Q,P,z,0,0,v,(left-1)],[[115],[],N],[H,L,[],[]],[]⟩ (.inl (⟨_,_,_,_,_,_,_,_,_,_,_,_,_,_,_,_,_,_,_,_,_,_,_,_,rfl,(MS.mv x),A9,kn,kn,kn,kn,kn,kn⟩))
   refine eq (O%6) 1 (fun hj=>?_) fun hj=>?_
   ·refine de [] ?_
    refine ll 0 [] ?_
    exact Ah ⟨[4,22,0,5,17,0,0,A,I,J,Q,P,z,0,0,v,(left-1)],[[115],[],N],[H,L,[],[]],[]⟩ (.inl (⟨_,_,_,_,_,_,_,_,_,_,_,_,_,_,_,_,_,_,_,_,_,_,_,_,rfl,(MS.mv x),A9,kn,kn,kn,kn,kn,kn⟩))
   refine eq (O%6) 2 (fun iR=>?_) fun iR=>?_
   ·refine de [] ?_
    refine ll 0 [] ?_
    exact Ah ⟨[4,23,0,5,17,0,0,A,I,J,Q,P,z,0,0,v,(left-1)],[[115],[],N],[H,L,[],[]],[]⟩ (.inl (⟨_,_,_,_,_,_,_,_,_,_,_,_,_,_,_,_,_,_,_,_,_,_,_,_,rfl,(MS.mv x),A9,kn,kn,kn,kn,kn,kn⟩))
   refine eq (O%6) 3 (fun j1=>?_) fun j1=>?_
   ·refine de [] ?_
    refine ll 0 [] ?_
    exact Ah ⟨[4,17,0,5,17,0,0,A,I,J,Q,P,z,0,0,v,(left-1)],[[115],[],N],[H,L,[],[]],[]⟩ (.inl (⟨_,_,_,_,_,_,_,_,_,_,_,_,_,_,_,_,_,_,_,_,_,_,_,_,rfl,(MS.mv x),A9,kn,kn,kn,kn,kn,kn⟩))
   refine eq (O%6) 4 (fun kx=>?_) fun kx=>?_
   ·refine de [] ?_
    refine ll 0 [] ?_
    exact Ah ⟨[4,18,0,5,17,0,0,A,I,J,Q,P,z,0,0,v,(left-1)],[[115],[],N],[H,L,[],[]],[]⟩ (.inl (⟨_,_,_,_,_,_,_,_,_,_,_,_,_,_,_,_,_,_,_,_,_,_,_,_,rfl,(MS.mv x),A9,kn,kn,kn,kn,kn,kn⟩))
   refine Bw (O%6) 5 ?_
   refine de [] ?_
   refine ll 0 [] ?_
   exact Ah ⟨[4,19,0,5,17,0,0,A,I,J,Q,P,z,0,0,v,(left-1)],[[115],[],N],[H,L,[],[]],[]⟩ (.inl (⟨_,_,_,_,_,_,_,_,_,_,_,_,_,_,_,_,_,_,_,_,_,_,_,_,rfl,(MS.mv x),A9,kn,kn,kn,kn,kn,kn⟩))
  refine eq (X%14) 10 (fun jb=>?_) fun jb=>?_
  ·obtain ⟨_,⟨fZ,cq,rfl,l3,lP,l7⟩,iq⟩:=h8 hB hl q C count (left-1) call j V
   refine ch iq ?_
   refine de [] ?_
   refine ll 0 [] ?_
   exact Ah ⟨[11,(1+(fZ%2)),0,0,0,0,0,0,0,0,0,0,0,0,0,cq,(left-1)],[[],[],[]],[[],[],[],[]],[]⟩ (.inl (⟨_,_,_,_,_,_,_,_,_,_,_,_,_,_,_,_,_,_,_,_,_,_,_,_,rfl,(MS.mv x),A9,kn,kn,kn,kn,kn,kn⟩))
  obtain ⟨_,⟨d7,c9,dW,ft,fh,cL,cc,gi,fL,f8,dy,rfl,a9,mR,lr,lB,lx⟩,ix⟩:=af loop pure (depth+1) U q C count (left-1) call j B V (MS.mv x)
  refine ch ix ?_
  have ⟨_,_,kO,lS,lW,m7,m6,ma,_,_,_⟩:=a9
  exact Ah ⟨[3,0,0,5,17,0,0,d7,c9,dW,ft,fh,cL,0,0,cc,(left-1)],[gi,[],fL],[f8,dy,[],[]],[]⟩ (.inl (⟨_,_,_,_,_,_,_,_,_,_,_,_,_,_,_,_,_,_,_,_,_,_,_,_,rfl,(MS.mv a9),A9,kn,kn,kn,kn,kn,kn⟩))
 refine Bg pure 1 ?_
 obtain ⟨_,(⟨fQ,fq,eN,eu,cP,br,eD,fG,eE,rfl,aN,j0,i4,iM⟩|⟨fO,eS,eM,em,fz,ee,bZ,bv,b2,aG,eR,fC,dD,eL,rfl,aP,iK,gK,jg,je,hS,hi⟩),b6⟩:=au loop pure (depth+1) f U q C count (left-1) call j B V (MS.mv x)
 ·refine ch b6 ?_
  have ⟨_,_,hy,iC,iO,iJ,hY,h6,_,_,_⟩:=aN
  exact Ah ⟨[2,0,0,fQ,fq,eN,eu,cP,0,0,0,0,0,0,0,br,(left-1)],[eD,fG,[]],[eE,[],[],[]],[]⟩ (.inl (⟨_,_,_,_,_,_,_,_,_,_,_,_,_,_,_,_,_,_,_,_,_,_,_,_,rfl,(MS.mv aN),A9,kn,kn,kn,kn,kn,kn⟩))
 refine cm b6 ?_
 refine ch b6 ?_
 have ⟨_,_,h7,gM,ji,gQ,ju,i3,_,_,_⟩:=aP
 exact Ah ⟨[1,eS,0,eM,em,fz,ee,bZ,0,0,0,bv,b2,aG,(left-1)],[eR,fC],[dD,[],[],[],eL],[]⟩ (.inr ((⟨fO,_,_,_,_,_,_,_,_,_,_,_,_,_,_,_,_,_,_,_,_,_,_,rfl,(MS.mv aP),A9,A9,kn,kn,kn,kn,kn,kn,kn,kn⟩)))
theorem UN {E:Bool} {d j q X L H z O N I J v x:Nat} (hT:trees j=Yx d X L H z O N I J v x) (h8:T9 X) (Q:Y3 E L) (Z:AcL E H) (U:RN z) (R:AcK E O) (aa:AcJ E N) (P:VH z I) (Y:Yz E j J) (A:T9 v) (C:Yz false q x) (hx:∀n,FX E j n->FX false q n):Aed E j:=fun {Γ} {K} {M} f depth top loop pure bl pos vl count left call loads B V hM h=>Aon hT @h8 @Q @Z @U @R @aa @P @Y @A @C hx (depth.toNat+1) f depth top loop pure bl pos vl count left call loads B V hM ⟨h.1,h.2.1,h.2.2.1,h.2.2.2.1,h.2.2.2.2.1,h.2.2.2.2.2,Nat.lt_succ_self _⟩
theorem AhE:Y3 false 14:=by
 intro Γ f K M lo pu D bl pos C count left call v B V x h
 have ⟨hm,al,an,aA,ao,ap,ay,ak,aw,au,az⟩:=x;have ⟨hB,hl,hvl,GP,hV,hb,hc,hd⟩:=hm;have av:G 3=40:=rfl;have ax:G 2=12:=rfl;have aq:G (3-1)=12:=rfl
 refine .of (t:=AfH) rfl ?_
 conv=>arg 3;reduce
 obtain ⟨_,⟨j,z,rfl,X,Y,ag⟩,G1⟩:=Lr hB hl pos C count left call v V
 refine ch G1 ?_
 obtain ⟨_,⟨L,N,J,Q,I,A,P,O,rfl,ac,ai,aj,Z⟩,G2⟩:=IZ (x.Fh count left) (1+(j%3)) 3 z
 refine ch G2 ?_
 obtain ⟨_,⟨q,rfl,R,U⟩,G3⟩:=All count
 refine ch G3 ?_
 refine ca [118] q ?_
 refine dL (V.take C.toNat++[[PV.str ([118]++q),.int .i64 (1+(j%3))]]) (fun H e4=>?_) (Bq (pt C V) pe)
 have f4:=cL e4;try simp only [lA,lC,lN,lT']at f4
 refine E6 (H.length:Int) 1048576 ?_
 refine de [] ?_
 refine ll 0 [] ?_
 exact Ah ⟨[(1+(j%3)),L,N,J,Q,I,0,0,0,A,(H.length:Int),(count+1)],[([118]++q),P],[O,[],[],[],H],[]⟩ (⟨(Γ.Iq ([118]++q) (3,(1+(j%3)),0)),_,_,_,_,_,_,_,_,_,_,_,_,_,rfl,(by subst_vars;exact MS.more x asm om om om),(DR.decl (d:=3) x asm asm om),(by subst_vars;exact Ext.more om),kn,om,kn,kn⟩)
theorem AhC:Y3 true 20:=by
 intro Γ f K M lo pu D bl pos vl count left call v B V x h
 have ⟨hm,an,ao,aB,ap,aq,aA,al,ay,av,L⟩:=x;have ⟨hB,hl,hvl,GP,hV,hb,hc,hd⟩:=hm;have aw:G 3=40:=rfl;have az:G 2=12:=rfl;have au:G (3-1)=12:=rfl;have ax:=L rfl
 refine .of (t:=AfG) rfl ?_
 conv=>arg 3;reduce
 obtain ⟨_,⟨j,z,rfl,X,Y,ah⟩,G1⟩:=Yr hB hl pos vl count left call v V
 refine ch G1 ?_
 obtain ⟨_,⟨J,N,I,Q,H,A,P,O,rfl,ac,aj,ak,Z⟩,G2⟩:=V7 (x.Fh count left) (1+(j%3)) 3 z
 refine ch G2 ?_
 obtain ⟨_,⟨q,rfl,R,U⟩,G3⟩:=All count
 refine ch G3 ?_
 refine ca [118] q ?_
 refine dL (V++[[PV.str ([118]++q),.int .i64 (1+(j%3))]]) (fun C e4=>?_) (Bq rfl pe)
 have f4:=cL e4;try simp only [lA,lC,lN,lT']at f4
 refine E6 (C.length:Int) 1048576 ?_
 refine de [] ?_
 refine ll 0 [] ?_
 exact Ah ⟨[(1+(j%3)),J,N,I,Q,H,0,0,0,A,(C.length:Int),(count+1)],[([118]++q),P],[O,[],[],[],C],[]⟩ (⟨(Γ.Iq ([118]++q) (3,(1+(j%3)),0)),_,_,_,_,_,_,_,_,_,_,_,_,_,rfl,(by subst_vars;exact MS.Ab1 x asm om om om),(DR.decl (d:=3) x asm asm om),(by subst_vars;exact Ext.Ab1 om),kn,om,kn,kn⟩)
theorem Apv:AcL false 15:=@AdB false 1 15 8 14 16 rfl @Lr @AhE @IZ
theorem Apt:AcL true 21:=@AdB true 0 21 9 20 22 rfl @Yr @AhC @V7
theorem Oo:AcK false 17:=@AkE false 1 17 8 16 19 rfl @Lr @IZ @AhD
theorem Aps:AcK true 23:=@AkE true 0 23 9 22 25 rfl @Yr @V7 @AhB
theorem Apu:AcJ false 18:=@AdA false 1 18 8 14 16 rfl @Lr @AhE @IZ
theorem Apr:AcJ true 24:=@AdA true 0 24 9 20 22 rfl @Yr @AhC @V7
end
end Go.Proofs.YtaolbokoijfhnaaGreatDoor.Am
