/- Part 15 of the proof of TypesRenames. -/
import Derived.Test.YtbmofjdmgjpfoaaGreatDoorE11
set_option linter.all false
section
set_option maxHeartbeats 4000000
set_option maxRecDepth 100000
namespace Go.Proofs.YtbmofjdmgjpfoaaGreatDoor.Am
open Go.AM Go.AM.K
def Up (N:Nat):Prop:=∀{g:Int} {B:Rs} (hB:Dy B) (hl:g=B.length) (pos j:Int) (count left:Int) (call d:Int) (V:Rs) (h:0≤pos∧pos≤1000000:=by exact kn),Ok trees N ⟨[g,pos,j,count,left,call,d],[],[B,V],[]⟩ fun k=>(∃(r c:Int),k=(0,(⟨[r,c],[],[],[]⟩:Ah))∧(c=pos+1)∧(0≤r)∧(r≤255))
theorem Zd {d k:Nat} (x:trees k=T_8 d):Up k:=by
 intro g B hB hl pos A count left call o V h
 refine .of (t:=T_8 d) x ?_
 unfold T_8
 refine gt (pos+1) g (fun u=>?_) fun u=>?_
 ·exact Ai ⟨[0,(pos+1)],[],[],[]⟩ (⟨_,_,rfl,kn,kn,kn⟩)
 refine CG ((pos+1)-1) 0 ?_
 refine B9 ((pos+1)-1) g ?_
 obtain ⟨j,c,z,y⟩:=Qh hB ((pos+1)-1) om om
 refine el c ?_
 exact Ai ⟨[j,(pos+1)],[],[],[]⟩ (⟨_,_,rfl,kn,kn,kn⟩)
theorem Ma:Up 8:=@Zd 1 8 rfl
theorem Zx:Up 9:=@Zd 0 9 rfl
def An1 (N:Nat) (Γ:Ctx) (f o:Int) (g count:Int) (left call loads:Int) (B V:Rs) (n:Nat):Prop:=∀(t j pos:Int) (h:0≤j∧j≤g∧(g-j).toNat<n),Ok trees N ⟨[t,j,o,pos,g,count,left,call,loads],[],[B,V],[]⟩ fun k=>(k=(0,v0))∨(∃(c:Int),∃(d:Rs),k=(1,(⟨[c],[],[d],[]⟩:Ah))∧(Ip Γ t d)∧(c=d.length)∧(d.length≤40)∧(0<c))
def AiP (N:Nat):Prop:=∀{Γ:Ctx} {f k:Int} {g count:Int} {left call loads:Int} {B V:Rs} (u:Ox Γ f k g count left call loads B V) (t j pos:Int) (h:0≤j∧j≤g:=by exact kn),Ok trees N ⟨[t,j,k,pos,g,count,left,call,loads],[],[B,V],[]⟩ fun o=>(o=(0,v0))∨(∃(c:Int),∃(d:Rs),o=(1,(⟨[c],[],[d],[]⟩:Ah))∧(Ip Γ t d)∧(c=d.length)∧(d.length≤40)∧(0<c))
def Afl (N:Nat):Prop:=∀{Γ:Ctx} {f d:Int} {j count:Int} {left call loads:Int} {B V:Rs} (o:Ox Γ f d j count left call loads B V) (t pos:Int) (h:0≤pos∧pos≤1000000:=by exact kn),Ok trees N ⟨[t,d,pos,j,count,left,call,loads],[],[B,V],[]⟩ fun k=>(k=(0,v0))∨(∃(c:Int),∃(g:List Nat),k=(1,(⟨[c],[g],[],[]⟩:Ah))∧(Ql Γ t g)∧(c=pos+1))
theorem AeJ {d x y j:Nat} (Z:trees x=AcS d y j) (R:Up y) (H:AiP j):Afl x:=by
 intro Γ f bl U count left call u B V D t pos h
 have ⟨hB,hl,hvl,H6,hV,hb,hc,hd⟩:=D
 refine .of (t:=AcS d y j) Z ?_
 unfold AcS
 obtain ⟨_,(rfl|⟨c,aa,rfl,o,M,N,J⟩),A⟩:=H D t 0 pos
 ·refine ch A ?_
  exact Ai v0 (.inl rfl)
 refine cm A ?_
 refine ch A ?_
 refine eq c 0 (fun t2=>?_) fun t2=>?_
 ·exact Ai v0 (.inl rfl)
 obtain ⟨_,⟨g,k,rfl,O,ab,P⟩,X⟩:=R hB hl pos U count left call u V
 refine ch X ?_
 have m4:=Int.emod_nonneg g (show c≠0 by omega);have ad:=Int.emod_lt_of_pos g (show 0<c by omega)
 refine CG (g%c) 0 ?_
 refine B9 (g%c) c ?_
 obtain ⟨z,C,Q⟩:=o (g%c) om om
 refine el C ?_
 exact Ai ⟨[k],[z],[],[]⟩ (.inr ((⟨_,_,rfl,fin,kn⟩)))
def ZA (N:Nat):Prop:=∀{Γ:Ctx} {f k:Int} {z count:Int} {left call loads:Int} {B V:Rs} (C:Ox Γ f k z count left call loads B V) (t pos:Int) (h:1≤t∧t≤3∧0≤pos∧pos+2≤1000000:=by exact kn),Ok trees N ⟨[t,k,pos,z,count,left,call,loads],[],[B,V],[]⟩ fun A=>(∃(u j y x d c:Int),∃(o:List Nat),∃(g:Rs),A=(0,(⟨[u,j,y,x,d,c],[o],[g],[]⟩:Ah))∧(Dc Γ t 1 u j y x o g)∧(d=g.length)∧(pos≤c)∧(c≤pos+2))
theorem Acf {d u x k:Nat} (P:trees u=AcW d x k) (N:Up x) (C:Afl k):ZA u:=by
 intro Γ f bl O count left call o B V A t pos h
 have ⟨hB,hl,hvl,H6,hV,hb,hc,hd⟩:=A
 refine .of (t:=AcW d x k) P ?_
 unfold AcW
 obtain ⟨_,⟨c,j,rfl,M,Q,ac⟩,G1⟩:=N hB hl pos O count left call o V
 refine ch G1 ?_
 obtain ⟨_,(rfl|⟨g,y,rfl,H,D⟩),z⟩:=C A t j
 ·refine ch z ?_
  refine eq t 1 (fun X=>?_) fun X=>?_
  ·refine eq (c%4) 1 (fun Z=>?_) fun Z=>?_
   ·refine de [] ?_
    refine ll 0 [] ?_
    exact Ai ⟨[3,(1+((c/4)%7)),0,0,0,j],[[]],[[]],[]⟩ (⟨_,_,_,_,_,_,_,_,rfl,fin,kn,kn,kn⟩)
   refine de [] ?_
   refine ll 0 [] ?_
   exact Ai ⟨[1,0,t,((c%16)-4),0,j],[[]],[[]],[]⟩ (⟨_,_,_,_,_,_,_,_,rfl,fin,kn,kn,kn⟩)
  refine eq t 2 (fun t5=>?_) fun t5=>?_
  ·refine de [] ?_
   refine ll 0 [] ?_
   exact Ai ⟨[1,0,t,((c*16384)-100000),0,j],[[]],[[]],[]⟩ (⟨_,_,_,_,_,_,_,_,rfl,fin,kn,kn,kn⟩)
  refine de [] ?_
  refine ll 0 [] ?_
  exact Ai ⟨[1,0,t,((c/4)%2),0,j],[[]],[[]],[]⟩ (⟨_,_,_,_,_,_,_,_,rfl,fin,kn,kn,kn⟩)
 refine cm z ?_
 refine ch z ?_
 refine eq (c%2) 0 (fun U=>?_) fun U=>?_
 ·refine de [] ?_
  refine ll 0 [] ?_
  exact Ai ⟨[2,0,0,0,0,g],[y],[[]],[]⟩ (⟨_,_,_,_,_,_,_,_,rfl,fin,kn,kn,kn⟩)
 refine eq t 1 (fun R=>?_) fun R=>?_
 ·refine eq (c%4) 1 (fun t8=>?_) fun t8=>?_
  ·refine de [] ?_
   refine ll 0 [] ?_
   exact Ai ⟨[3,(1+((c/4)%7)),0,0,0,g],[[]],[[]],[]⟩ (⟨_,_,_,_,_,_,_,_,rfl,fin,kn,kn,kn⟩)
  refine de [] ?_
  refine ll 0 [] ?_
  exact Ai ⟨[1,0,t,((c%16)-4),0,g],[[]],[[]],[]⟩ (⟨_,_,_,_,_,_,_,_,rfl,fin,kn,kn,kn⟩)
 refine eq t 2 (fun J=>?_) fun J=>?_
 ·refine de [] ?_
  refine ll 0 [] ?_
  exact Ai ⟨[1,0,t,((c*16384)-100000),0,g],[[]],[[]],[]⟩ (⟨_,_,_,_,_,_,_,_,rfl,fin,kn,kn,kn⟩)
 refine de [] ?_
 refine ll 0 [] ?_
 exact Ai ⟨[1,0,t,((c/4)%2),0,g],[[]],[[]],[]⟩ (⟨_,_,_,_,_,_,_,_,rfl,fin,kn,kn,kn⟩)
def J8 (N:Nat) (Γ:Ctx) (f y:Int) (z count:Int) (left call loads:Int) (B V:Rs) (n:Nat):Prop:=∀(t depth pos:Int) (h:1≤t∧t≤3∧depth≤3∧0≤pos∧pos+G depth≤1000000∧depth.toNat<n),Ok trees N ⟨[t,depth,y,pos,z,count,left,call,loads],[],[B,V],[]⟩ fun A=>(∃(o j x u d c:Int),∃(k:List Nat),∃(g:Rs),A=(0,(⟨[o,j,x,u,d,c],[k],[g],[]⟩:Ah))∧(Dc Γ t depth o j x u k g)∧(d=g.length)∧(pos≤c)∧(c≤pos+G depth))
def Sk (N:Nat):Prop:=∀{Γ:Ctx} {f k:Int} {z count:Int} {left call loads:Int} {B V:Rs} (C:Ox Γ f k z count left call loads B V) (t depth pos:Int) (h:1≤t∧t≤3∧depth≤3∧0≤pos∧pos+G depth≤1000000:=by exact kn),Ok trees N ⟨[t,depth,k,pos,z,count,left,call,loads],[],[B,V],[]⟩ fun A=>(∃(u j y x d c:Int),∃(o:List Nat),∃(g:Rs),A=(0,(⟨[u,j,y,x,d,c],[o],[g],[]⟩:Ah))∧(Dc Γ t depth u j y x o g)∧(d=g.length)∧(pos≤c)∧(c≤pos+G depth))
theorem J8.of {N:Nat} {Γ:Ctx} {f c:Int} {d count:Int} {left call loads:Int} {B V:Rs} (g:Ox Γ f c d count left call loads B V) {n:Nat} (H:Sk N):J8 N Γ f c d count left call loads B V n:=fun t depth pos h=>H g t depth pos (by have:=h;omega)
def W8 (u N:Nat):Prop:=∀{m:Nat} {Γ:Ctx} {f g:Int} {k count:Int} {left call loads:Int} {B V:Rs} (z:Ox Γ f g k count left call loads B V) (y:J8 u Γ f g k count left call loads B V m) (j depth pos:Int) (h:(j=4∨j=8)∧depth≤3∧¬depth≤1∧depth.toNat≤m∧0≤pos∧pos+G (depth-1)≤1000000:=by exact kn),Ok trees N ⟨[j,depth,g,pos,k,count,left,call,loads],[],[B,V],[]⟩ fun x=>(∃(d c:Int),∃(o:Rs),x=(0,(⟨[d,c],[],[o],[]⟩:Ah))∧(Idx Γ depth o)∧(d=o.length)∧(pos≤c)∧(c≤pos+G (depth-1)))
theorem OA {d j c:Nat} (R:trees j=AcX d c):W8 c j:=by
 intro m Γ f bl vl count left call H B V O o M depth pos h
 have ⟨hB,hl,hvl,H6,hV,hb,hc,hd⟩:=O;have aa:=Ht depth;have ac:=Lp depth om;have ab:=Ht (depth-1)
 refine .of (t:=AcX d c) R ?_
 unfold AcX
 obtain ⟨_,⟨z,A,C,D,u,g,y,k,rfl,N,U,X,Q⟩,Z⟩:=o 1 (depth-1) pos kn
 refine ch Z ?_
 refine ll u k ?_
 refine dL [[.int .i64 z,.int .i64 A,.int .i64 C,.str y,.int .i32 D,.list 6 k],[.int .i64 1,.int .i64 0,.int .i64 1,.str [],.int .i32 (M-1),.list 6 []]] (fun x J=>?_)
 have P:=cL J;try simp only [lA,lC,lN,lT']at P
 refine ll 2 x ?_
 refine fr ?_
 exact Ai ⟨[2,g],[],[x],[]⟩ (⟨_,_,_,rfl,fin,kn,kn,kn⟩)
def Z9 (y N:Nat):Prop:=∀{m:Nat} {Γ:Ctx} {f k:Int} {u count:Int} {left call loads:Int} {B V:Rs} (C:Ox Γ f k u count left call loads B V) (A:J8 y Γ f k u count left call loads B V m) (o depth pos:Int) (g:List Nat) (h:(o=4∨o=8)∧depth≤3∧¬depth≤1∧depth.toNat≤m∧0≤pos∧pos+G (depth-1)≤1000000:=by exact kn),Ok trees N ⟨[o,depth,k,pos,u,count,left,call,loads],[g],[B,V],[]⟩ fun z=>(∃(j c:Int),∃(d:List Nat),∃(x:Rs),z=(0,(⟨[j,c],[d],[x],[]⟩:Ah))∧(Um Γ depth x)∧(d=g)∧(j=x.length)∧(pos≤c)∧(c≤pos+G (depth-1)))
theorem Al6 {d k j c:Nat} (P:trees k=AcR d c) (C:W8 j c):Z9 j k:=by
 intro m Γ f bl vl count left call D B V A x J depth pos u h
 have ⟨hB,hl,hvl,H6,hV,hb,hc,hd⟩:=A;have X:=Ht depth;have aa:=Lp depth om;have Z:=Ht (depth-1)
 refine .of (t:=AcR d c) P ?_
 unfold AcR
 obtain ⟨_,⟨y,g,o,rfl,M,Q,R,O⟩,U⟩:=C A @x J depth pos
 refine ch U ?_
 refine ll y o ?_
 refine dL [[.int .i64 5,.int .i64 17,.int .i64 0,.str [],.int .i32 0,.list 6 o]] (fun z H=>?_)
 have N:=cL H;try simp only [lA,lC,lN,lT']at N
 refine ll 1 z ?_
 refine fr ?_
 exact Ai ⟨[1,g],[u],[z],[]⟩ (⟨_,_,_,_,rfl,fin,kn,kn,kn,kn⟩)
def Adi (C N:Nat):Prop:=∀{m:Nat} {Γ:Ctx} {f g:Int} {j count:Int} {left call loads:Int} {B V:Rs} (J:Ox Γ f g j count left call loads B V) (H:J8 C Γ f g j count left call loads B V m) (k depth pos:Int) (h:0≤k∧k≤60∧depth≤3∧¬depth≤1∧depth.toNat≤m∧0≤pos∧pos+G depth≤1000001:=by exact kn),Ok trees N ⟨[k,depth,g,pos,j,count,left,call,loads],[],[B,V],[]⟩ fun D=>(∃(y u A z d c:Int),∃(x:List Nat),∃(o:Rs),D=(0,(⟨[y,u,A,z,d,c],[x],[o],[]⟩:Ah))∧(Dc Γ 1 depth y u A z x o)∧(d=o.length)∧(pos≤c)∧(c+1≤pos+G depth))
theorem Al8 {d a4 ag N8 aF aE:Nat} (hT:trees a4=AcV d N8 ag aF aE) (h8:Up N8) (a7:ZA aF) (U:Z9 ag aE):Adi ag a4:=by
 intro m Γ f bl vl count left call P B V Z x k depth pos h
 have ⟨hB,hl,hvl,H6,hV,hb,hc,hd⟩:=Z;have er:=Ht depth;have et:=Lp depth om;have es:=Ht (depth-1)
 refine .of (t:=AcV d N8 ag aF aE) hT ?_
 unfold AcV
 refine lt (k%18) 12 (fun t1=>?_) fun t1=>?_
 ·obtain ⟨_,⟨A,D,z,y,o,aO,O,c,rfl,d3,eo,eh,eb⟩,G2⟩:=x 1 (depth-1) pos kn
  refine ch G2 ?_
  obtain ⟨_,⟨C,H,J,M,u,j,N,g,rfl,d1,ej,eg,en⟩,G3⟩:=x 1 (depth-1) aO kn
  refine ch G3 ?_
  refine eq (k%18) 0 (fun t4=>?_) fun t4=>?_
  ·refine ll o c ?_
   refine ll u g ?_
   refine dL [[.int .i64 A,.int .i64 D,.int .i64 z,.str O,.int .i32 y,.list 6 c],[.int .i64 C,.int .i64 H,.int .i64 J,.str N,.int .i32 M,.list 6 g]] (fun W5 e5=>?_)
   have f5:=cL e5;try simp only [lA,lC,lN,lT']at f5
   refine ll 2 W5 ?_
   refine fr ?_
   exact Ai ⟨[5,10,0,0,2,j],[[]],[W5],[]⟩ (⟨_,_,_,_,_,_,_,_,rfl,fin,kn,kn,kn⟩)
  refine eq (k%18) 1 (fun t6=>?_) fun t6=>?_
  ·refine ll o c ?_
   refine ll u g ?_
   refine dL [[.int .i64 A,.int .i64 D,.int .i64 z,.str O,.int .i32 y,.list 6 c],[.int .i64 C,.int .i64 H,.int .i64 J,.str N,.int .i32 M,.list 6 g]] (fun W7 e7=>?_)
   have f7:=cL e7;try simp only [lA,lC,lN,lT']at f7
   refine ll 2 W7 ?_
   refine fr ?_
   exact Ai ⟨[5,11,0,0,2,j],[[]],[W7],[]⟩ (⟨_,_,_,_,_,_,_,_,rfl,fin,kn,kn,kn⟩)
  refine eq (k%18) 2 (fun t8=>?_) fun t8=>?_
  ·refine ll o c ?_
   refine ll u g ?_
   refine dL [[.int .i64 A,.int .i64 D,.int .i64 z,.str O,.int .i32 y,.list 6 c],[.int .i64 C,.int .i64 H,.int .i64 J,.str N,.int .i32 M,.list 6 g]] (fun W9 e9=>?_)
   have f9:=cL e9;try simp only [lA,lC,lN,lT']at f9
   refine ll 2 W9 ?_
   refine fr ?_
   exact Ai ⟨[5,12,0,0,2,j],[[]],[W9],[]⟩ (⟨_,_,_,_,_,_,_,_,rfl,fin,kn,kn,kn⟩)
  refine eq (k%18) 3 (fun cK=>?_) fun cK=>?_
  ·refine ll o c ?_
   refine ll u g ?_
   refine dL [[.int .i64 A,.int .i64 D,.int .i64 z,.str O,.int .i32 y,.list 6 c],[.int .i64 C,.int .i64 H,.int .i64 J,.str N,.int .i32 M,.list 6 g]] (fun aX bV=>?_)
   have b8:=cL bV;try simp only [lA,lC,lN,lT']at b8
   refine ll 2 aX ?_
   refine fr ?_
   exact Ai ⟨[5,13,0,0,2,j],[[]],[aX],[]⟩ (⟨_,_,_,_,_,_,_,_,rfl,fin,kn,kn,kn⟩)
  refine eq (k%18) 4 (fun cT=>?_) fun cT=>?_
  ·refine ll o c ?_
   refine ll u g ?_
   refine dL [[.int .i64 A,.int .i64 D,.int .i64 z,.str O,.int .i32 y,.list 6 c],[.int .i64 C,.int .i64 H,.int .i64 J,.str N,.int .i32 M,.list 6 g]] (fun a3 cE=>?_)
   have bZ:=cL cE;try simp only [lA,lC,lN,lT']at bZ
   refine ll 2 a3 ?_
   refine fr ?_
   exact Ai ⟨[5,14,0,0,2,j],[[]],[a3],[]⟩ (⟨_,_,_,_,_,_,_,_,rfl,fin,kn,kn,kn⟩)
  refine eq (k%18) 5 (fun cd=>?_) fun cd=>?_
  ·refine ll o c ?_
   refine ll u g ?_
   refine dL [[.int .i64 A,.int .i64 D,.int .i64 z,.str O,.int .i32 y,.list 6 c],[.int .i64 C,.int .i64 H,.int .i64 J,.str N,.int .i32 M,.list 6 g]] (fun a8 cO=>?_)
   have cq:=cL cO;try simp only [lA,lC,lN,lT']at cq
   refine ll 2 a8 ?_
   refine fr ?_
   exact Ai ⟨[5,17,0,0,2,j],[[]],[a8],[]⟩ (⟨_,_,_,_,_,_,_,_,rfl,fin,kn,kn,kn⟩)
  refine eq (k%18) 6 (fun cv=>?_) fun cv=>?_
  ·refine ll o c ?_
   refine ll u g ?_
   refine dL [[.int .i64 A,.int .i64 D,.int .i64 z,.str O,.int .i32 y,.list 6 c],[.int .i64 C,.int .i64 H,.int .i64 J,.str N,.int .i32 M,.list 6 g]] (fun ba cp=>?_)
   have cJ:=cL cp;try simp only [lA,lC,lN,lT']at cJ
   refine ll 2 ba ?_
   refine fr ?_
   exact Ai ⟨[5,18,0,0,2,j],[[]],[ba],[]⟩ (⟨_,_,_,_,_,_,_,_,rfl,fin,kn,kn,kn⟩)
  refine eq (k%18) 7 (fun cb=>?_) fun cb=>?_
  ·refine ll o c ?_
   refine ll u g ?_
   refine dL [[.int .i64 A,.int .i64 D,.int .i64 z,.str O,.int .i32 y,.list 6 c],[.int .i64 C,.int .i64 H,.int .i64 J,.str N,.int .i32 M,.list 6 g]] (fun a5 b9=>?_)
   have cy:=cL b9;try simp only [lA,lC,lN,lT']at cy
   refine ll 2 a5 ?_
   refine fr ?_
   exact Ai ⟨[5,19,0,0,2,j],[[]],[a5],[]⟩ (⟨_,_,_,_,_,_,_,_,rfl,fin,kn,kn,kn⟩)
  refine eq (k%18) 8 (fun cU=>?_) fun cU=>?_
  ·refine ll o c ?_
   refine ll u g ?_
   refine dL [[.int .i64 A,.int .i64 D,.int .i64 z,.str O,.int .i32 y,.list 6 c],[.int .i64 C,.int .i64 H,.int .i64 J,.str N,.int .i32 M,.list 6 g]] (fun aW cR=>?_)
   have cF:=cL cR;try simp only [lA,lC,lN,lT']at cF
   refine ll 2 aW ?_
   refine fr ?_
   exact Ai ⟨[5,20,0,0,2,j],[[]],[aW],[]⟩ (⟨_,_,_,_,_,_,_,_,rfl,fin,kn,kn,kn⟩)
  refine eq (k%18) 9 (fun b1=>?_) fun b1=>?_
  ·refine ll o c ?_
   refine ll u g ?_
   refine dL [[.int .i64 A,.int .i64 D,.int .i64 z,.str O,.int .i32 y,.list 6 c],[.int .i64 C,.int .i64 H,.int .i64 J,.str N,.int .i32 M,.list 6 g]] (fun a0 bR=>?_)
   have cf:=cL bR;try simp only [lA,lC,lN,lT']at cf
   refine ll 2 a0 ?_
   refine fr ?_
   exact Ai ⟨[5,21,0,0,2,j],[[]],[a0],[]⟩ (⟨_,_,_,_,_,_,_,_,rfl,fin,kn,kn,kn⟩)
  refine eq (k%18) 10 (fun cP=>?_) fun cP=>?_
  ·refine ll o c ?_
   refine ll u g ?_
   refine dL [[.int .i64 A,.int .i64 D,.int .i64 z,.str O,.int .i32 y,.list 6 c],[.int .i64 C,.int .i64 H,.int .i64 J,.str N,.int .i32 M,.list 6 g]] (fun aV cx=>?_)
   have bP:=cL cx;try simp only [lA,lC,lN,lT']at bP
   refine ll 2 aV ?_
   refine fr ?_
   exact Ai ⟨[5,22,0,0,2,j],[[]],[aV],[]⟩ (⟨_,_,_,_,_,_,_,_,rfl,fin,kn,kn,kn⟩)
  refine BF (k%18) 11 ?_
  refine ll o c ?_
  refine ll u g ?_
  refine dL [[.int .i64 A,.int .i64 D,.int .i64 z,.str O,.int .i32 y,.list 6 c],[.int .i64 C,.int .i64 H,.int .i64 J,.str N,.int .i32 M,.list 6 g]] (fun aY bX=>?_)
  have bU:=cL bX;try simp only [lA,lC,lN,lT']at bU
  refine ll 2 aY ?_
  refine fr ?_
  exact Ai ⟨[5,23,0,0,2,j],[[]],[aY],[]⟩ (⟨_,_,_,_,_,_,_,_,rfl,fin,kn,kn,kn⟩)
 refine eq (k%18) 12 (fun bW=>?_) fun bW=>?_
 ·obtain ⟨_,⟨AeK,bi,bd,bE,aQ,ao,bq,az,rfl,dP,du,dw,dI⟩,bY⟩:=x 2 (depth-1) pos kn
  refine ch bY ?_
  refine ll aQ az ?_
  refine dL [[.int .i64 AeK,.int .i64 bi,.int .i64 bd,.str bq,.int .i32 bE,.list 6 az]] (fun a1 b4=>?_)
  have bO:=cL b4;try simp only [lA,lC,lN,lT']at bO
  refine ll 1 a1 ?_
  refine fr ?_
  exact Ai ⟨[4,5,0,0,1,ao],[[]],[a1],[]⟩ (⟨_,_,_,_,_,_,_,_,rfl,fin,kn,kn,kn⟩)
 refine eq (k%18) 13 (fun cI=>?_) fun cI=>?_
 ·obtain ⟨_,⟨ad,aA,rfl,c1,dT,dc⟩,cB⟩:=h8 hB hl pos vl count left call P V
  refine ch cB ?_
  obtain ⟨_,⟨ac,af,ab,ae,X,R,aa,Q,rfl,dW,dv,c3,dS⟩,bS⟩:=x 1 (depth-1) aA kn
  refine ch bS ?_
  refine eq (ad%3) 0 (fun cr=>?_) fun cr=>?_
  ·refine ll X Q ?_
   refine dL [[.int .i64 ac,.int .i64 af,.int .i64 ab,.str aa,.int .i32 ae,.list 6 Q]] (fun aZ cG=>?_)
   have cN:=cL cG;try simp only [lA,lC,lN,lT']at cN
   refine ll 1 aZ ?_
   refine fr ?_
   exact Ai ⟨[4,1,0,0,1,R],[[]],[aZ],[]⟩ (⟨_,_,_,_,_,_,_,_,rfl,fin,kn,kn,kn⟩)
  refine eq (ad%3) 1 (fun bQ=>?_) fun bQ=>?_
  ·refine ll X Q ?_
   refine dL [[.int .i64 ac,.int .i64 af,.int .i64 ab,.str aa,.int .i32 ae,.list 6 Q]] (fun a2 co=>?_)
   have cQ:=cL co;try simp only [lA,lC,lN,lT']at cQ
   refine ll 1 a2 ?_
   refine fr ?_
   exact Ai ⟨[4,2,0,0,1,R],[[]],[a2],[]⟩ (⟨_,_,_,_,_,_,_,_,rfl,fin,kn,kn,kn⟩)
  refine BF (ad%3) 2 ?_
  refine ll X Q ?_
  refine dL [[.int .i64 ac,.int .i64 af,.int .i64 ab,.str aa,.int .i32 ae,.list 6 Q]] (fun a6 cg=>?_)
  have b5:=cL cg;try simp only [lA,lC,lN,lT']at b5
  refine ll 1 a6 ?_
  refine fr ?_
  exact Ai ⟨[4,3,0,0,1,R],[[]],[a6],[]⟩ (⟨_,_,_,_,_,_,_,_,rfl,fin,kn,kn,kn⟩)
 refine eq (k%18) 14 (fun cj=>?_) fun cj=>?_
 ·refine sn call 0 (fun cD=>?_) fun cD=>?_
  ·refine sn P 0 (fun cM=>?_) fun cM=>?_
   ·obtain ⟨_,⟨br,bm,bB,bv,aL,ap,bh,bp,rfl,dB,dZ,dJ,db⟩,b7⟩:=a7 Z 1 pos
    refine ch b7 ?_
    exact Ai ⟨[br,bm,bB,bv,aL,ap],[bh],[bp],[]⟩ (⟨_,_,_,_,_,_,_,_,rfl,fin,kn,kn,kn⟩)
   refine Cp P 1 ?_
   refine eq (k%3) 0 (fun cc=>?_) fun cc=>?_
   ·obtain ⟨_,⟨aP,aG,ak,bw,rfl,dH,c4,dg,dO,dV⟩,cu⟩:=U Z @x 4 depth pos [112]
    refine ch cu ?_
    exact Ai ⟨[7,0,0,0,aP,aG],[ak],[bw],[]⟩ (⟨_,_,_,_,_,_,_,_,rfl,fin,kn,kn,kn⟩)
   refine eq (k%2) 0 (fun cH=>?_) fun cH=>?_
   ·obtain ⟨_,⟨aJ,aq,al,bc,rfl,d0,dQ,dh,di,dN⟩,cS⟩:=U Z @x 8 depth pos [97]
    refine ch cS ?_
    exact Ai ⟨[7,0,0,0,aJ,aq],[al],[bc],[]⟩ (⟨_,_,_,_,_,_,_,_,rfl,fin,kn,kn,kn⟩)
   refine BF (k%2) 1 ?_
   obtain ⟨_,⟨aM,an,aj,bg,rfl,dp,dE,dG,dA,dk⟩,cw⟩:=U Z @x 8 depth pos [115]
   refine ch cw ?_
   exact Ai ⟨[7,0,0,0,aM,an],[aj],[bg],[]⟩ (⟨_,_,_,_,_,_,_,_,rfl,fin,kn,kn,kn⟩)
  refine Cp call 1 ?_
  obtain ⟨_,⟨bC,bb,bt,bK,aR,aB,bz,ax,rfl,dY,dX,dD,c9⟩,ci⟩:=x 1 (depth-1) pos kn
  refine ch ci ?_
  obtain ⟨_,⟨bj,bn,bx,bD,aK,aD,bo,au,rfl,dd,dF,dK,dx⟩,b0⟩:=x 1 (depth-1) aB kn
  refine ch b0 ?_
  refine ll aR ax ?_
  refine ll aK au ?_
  refine dL [[.int .i64 bC,.int .i64 bb,.int .i64 bt,.str bz,.int .i32 bK,.list 6 ax],[.int .i64 bj,.int .i64 bn,.int .i64 bx,.str bo,.int .i32 bD,.list 6 au]] (fun a9 cz=>?_)
  have bM:=cL cz;try simp only [lA,lC,lN,lT']at bM
  refine ll 2 a9 ?_
  refine fr ?_
  exact Ai ⟨[8,0,0,0,2,aD],[[104]],[a9],[]⟩ (⟨_,_,_,_,_,_,_,_,rfl,fin,kn,kn,kn⟩)
 refine sn P 0 (fun cA=>?_) fun cA=>?_
 ·obtain ⟨_,⟨bk,bF,bA,bG,aH,ay,bL,bH,rfl,dy,c6,dj,cW⟩,b3⟩:=a7 Z 1 pos
  refine ch b3 ?_
  exact Ai ⟨[bk,bF,bA,bG,aH,ay],[bL],[bH],[]⟩ (⟨_,_,_,_,_,_,_,_,rfl,fin,kn,kn,kn⟩)
 refine Cp P 1 ?_
 refine eq (k%3) 0 (fun ct=>?_) fun ct=>?_
 ·obtain ⟨_,⟨aI,aC,ai,bI,rfl,c7,c5,cV,c2,dU⟩,cn⟩:=U Z @x 4 depth pos [112]
  refine ch cn ?_
  exact Ai ⟨[7,0,0,0,aI,aC],[ai],[bI],[]⟩ (⟨_,_,_,_,_,_,_,_,rfl,fin,kn,kn,kn⟩)
 refine eq (k%2) 0 (fun bN=>?_) fun bN=>?_
 ·obtain ⟨_,⟨aN,aw,ah,bJ,rfl,cY,c8,dR,dt,cX⟩,b2⟩:=U Z @x 8 depth pos [97]
  refine ch b2 ?_
  exact Ai ⟨[7,0,0,0,aN,aw],[ah],[bJ],[]⟩ (⟨_,_,_,_,_,_,_,_,rfl,fin,kn,kn,kn⟩)
 refine BF (k%2) 1 ?_
 obtain ⟨_,⟨aU,av,am,bf,rfl,dC,cZ,dl,dz,dM⟩,bT⟩:=U Z @x 8 depth pos [115]
 refine ch bT ?_
 exact Ai ⟨[7,0,0,0,aU,av],[am],[bf],[]⟩ (⟨_,_,_,_,_,_,_,_,rfl,fin,kn,kn,kn⟩)
def Adh (z N:Nat):Prop:=∀{m:Nat} {Γ:Ctx} {f g:Int} {j count:Int} {left call loads:Int} {B V:Rs} (D:Ox Γ f g j count left call loads B V) (C:J8 z Γ f g j count left call loads B V m) (k depth pos:Int) (h:0≤k∧k≤60∧depth≤3∧¬depth≤1∧depth.toNat≤m∧0≤pos∧pos+G depth≤1000001:=by exact kn),Ok trees N ⟨[k,depth,g,pos,j,count,left,call,loads],[],[B,V],[]⟩ fun A=>(∃(y u d c:Int),∃(x:List Nat),∃(o:Rs),A=(0,(⟨[y,u,d,c],[x],[o],[]⟩:Ah))∧(Dc Γ 2 depth y u 0 0 x o)∧(d=o.length)∧(pos≤c)∧(c+1≤pos+G depth))
theorem AeK {d aH aa N8 aq:Nat} (hT:trees aH=AcU d N8 aa aq) (h8:Up N8) (bd:Z9 aa aq):Adh aa aH:=by
 intro m Γ f bl vl count left call Q B V hM x k depth pos h
 have ⟨hB,hl,hvl,H6,hV,hb,hc,hd⟩:=hM;have ce:=Ht depth;have cg:=Lp depth om;have cf:=Ht (depth-1)
 refine .of (t:=AcU d N8 aa aq) hT ?_
 unfold AcU
 refine lt (k%9) 6 (fun t1=>?_) fun t1=>?_
 ·obtain ⟨_,⟨A,D,z,y,o,ax,O,c,rfl,bT,cc,b6,b0⟩,G2⟩:=x 2 (depth-1) pos kn
  refine ch G2 ?_
  obtain ⟨_,⟨C,H,J,M,u,j,N,g,rfl,bS,b8,b5,cb⟩,G3⟩:=x 2 (depth-1) ax kn
  refine ch G3 ?_
  refine eq (k%9) 0 (fun t4=>?_) fun t4=>?_
  ·refine ll o c ?_
   refine ll u g ?_
   refine dL [[.int .i64 A,.int .i64 D,.int .i64 z,.str O,.int .i32 y,.list 6 c],[.int .i64 C,.int .i64 H,.int .i64 J,.str N,.int .i32 M,.list 6 g]] (fun W5 e5=>?_)
   have f5:=cL e5;try simp only [lA,lC,lN,lT']at f5
   refine ll 2 W5 ?_
   refine fr ?_
   exact Ai ⟨[5,10,2,j],[[]],[W5],[]⟩ (⟨_,_,_,_,_,_,rfl,fin,kn,kn,kn⟩)
  refine eq (k%9) 1 (fun t6=>?_) fun t6=>?_
  ·refine ll o c ?_
   refine ll u g ?_
   refine dL [[.int .i64 A,.int .i64 D,.int .i64 z,.str O,.int .i32 y,.list 6 c],[.int .i64 C,.int .i64 H,.int .i64 J,.str N,.int .i32 M,.list 6 g]] (fun W7 e7=>?_)
   have f7:=cL e7;try simp only [lA,lC,lN,lT']at f7
   refine ll 2 W7 ?_
   refine fr ?_
   exact Ai ⟨[5,11,2,j],[[]],[W7],[]⟩ (⟨_,_,_,_,_,_,rfl,fin,kn,kn,kn⟩)
  refine eq (k%9) 2 (fun t8=>?_) fun t8=>?_
  ·refine ll o c ?_
   refine ll u g ?_
   refine dL [[.int .i64 A,.int .i64 D,.int .i64 z,.str O,.int .i32 y,.list 6 c],[.int .i64 C,.int .i64 H,.int .i64 J,.str N,.int .i32 M,.list 6 g]] (fun W9 e9=>?_)
   have f9:=cL e9;try simp only [lA,lC,lN,lT']at f9
   refine ll 2 W9 ?_
   refine fr ?_
   exact Ai ⟨[5,15,2,j],[[]],[W9],[]⟩ (⟨_,_,_,_,_,_,rfl,fin,kn,kn,kn⟩)
  refine eq (k%9) 3 (fun bi=>?_) fun bi=>?_
  ·refine ll o c ?_
   refine ll u g ?_
   refine dL [[.int .i64 A,.int .i64 D,.int .i64 z,.str O,.int .i32 y,.list 6 c],[.int .i64 C,.int .i64 H,.int .i64 J,.str N,.int .i32 M,.list 6 g]] (fun aB aU=>?_)
   have a0:=cL aU;try simp only [lA,lC,lN,lT']at a0
   refine ll 2 aB ?_
   refine fr ?_
   exact Ai ⟨[5,16,2,j],[[]],[aB],[]⟩ (⟨_,_,_,_,_,_,rfl,fin,kn,kn,kn⟩)
  refine eq (k%9) 4 (fun bp=>?_) fun bp=>?_
  ·refine ll o c ?_
   refine ll u g ?_
   refine dL [[.int .i64 A,.int .i64 D,.int .i64 z,.str O,.int .i32 y,.list 6 c],[.int .i64 C,.int .i64 H,.int .i64 J,.str N,.int .i32 M,.list 6 g]] (fun aF bg=>?_)
   have aW:=cL bg;try simp only [lA,lC,lN,lT']at aW
   refine ll 2 aF ?_
   refine fr ?_
   exact Ai ⟨[5,22,2,j],[[]],[aF],[]⟩ (⟨_,_,_,_,_,_,rfl,fin,kn,kn,kn⟩)
  refine BF (k%9) 5 ?_
  refine ll o c ?_
  refine ll u g ?_
  refine dL [[.int .i64 A,.int .i64 D,.int .i64 z,.str O,.int .i32 y,.list 6 c],[.int .i64 C,.int .i64 H,.int .i64 J,.str N,.int .i32 M,.list 6 g]] (fun aD bo=>?_)
  have aP:=cL bo;try simp only [lA,lC,lN,lT']at aP
  refine ll 2 aD ?_
  refine fr ?_
  exact Ai ⟨[5,23,2,j],[[]],[aD],[]⟩ (⟨_,_,_,_,_,_,rfl,fin,kn,kn,kn⟩)
 refine eq (k%9) 6 (fun a9=>?_) fun a9=>?_
 ·obtain ⟨_,⟨KX,aO,aM,aK,ay,av,aN,am,rfl,bx,bv,bK,bw⟩,be⟩:=x 1 (depth-1) pos kn
  refine ch be ?_
  refine ll ay am ?_
  refine dL [[.int .i64 KX,.int .i64 aO,.int .i64 aM,.str aN,.int .i32 aK,.list 6 am]] (fun aI bb=>?_)
  have bh:=cL bb;try simp only [lA,lC,lN,lT']at bh
  refine ll 1 aI ?_
  refine fr ?_
  exact Ai ⟨[4,4,1,av],[[]],[aI],[]⟩ (⟨_,_,_,_,_,_,rfl,fin,kn,kn,kn⟩)
 refine eq (k%9) 7 (fun a2=>?_) fun a2=>?_
 ·obtain ⟨_,⟨ae,au,rfl,bB,bM,bC⟩,bc⟩:=h8 hB hl pos vl count left call Q V
  refine ch bc ?_
  obtain ⟨_,⟨ah,ai,ao,ad,Z,X,aj,P,rfl,bF,bP,bR,bA⟩,bj⟩:=x 2 (depth-1) au kn
  refine ch bj ?_
  refine eq (ae%2) 0 (fun a6=>?_) fun a6=>?_
  ·refine ll Z P ?_
   refine dL [[.int .i64 ah,.int .i64 ai,.int .i64 ao,.str aj,.int .i32 ad,.list 6 P]] (fun aA bk=>?_)
   have a1:=cL bk;try simp only [lA,lC,lN,lT']at a1
   refine ll 1 aA ?_
   refine fr ?_
   exact Ai ⟨[4,1,1,X],[[]],[aA],[]⟩ (⟨_,_,_,_,_,_,rfl,fin,kn,kn,kn⟩)
  refine BF (ae%2) 1 ?_
  refine ll Z P ?_
  refine dL [[.int .i64 ah,.int .i64 ai,.int .i64 ao,.str aj,.int .i32 ad,.list 6 P]] (fun aC aR=>?_)
  have a8:=cL aR;try simp only [lA,lC,lN,lT']at a8
  refine ll 1 aC ?_
  refine fr ?_
  exact Ai ⟨[4,3,1,X],[[]],[aC],[]⟩ (⟨_,_,_,_,_,_,rfl,fin,kn,kn,kn⟩)
 refine sn Q 0 (fun bn=>?_) fun bn=>?_
 ·obtain ⟨_,⟨af,ak,rfl,bt,bI,bN⟩,bm⟩:=h8 hB hl pos vl count left call 0 V
  refine ch bm ?_
  obtain ⟨_,⟨Acf,an,al,aw,ab,U,ap,R,rfl,bL,bQ,bH,bJ⟩,ba⟩:=x 2 (depth-1) ak kn
  refine ch ba ?_
  refine eq (af%2) 0 (fun aV=>?_) fun aV=>?_
  ·refine ll ab R ?_
   refine dL [[.int .i64 Acf,.int .i64 an,.int .i64 al,.str ap,.int .i32 aw,.list 6 R]] (fun aG bq=>?_)
   have a4:=cL bq;try simp only [lA,lC,lN,lT']at a4
   refine ll 1 aG ?_
   refine fr ?_
   exact Ai ⟨[4,1,1,U],[[]],[aG],[]⟩ (⟨_,_,_,_,_,_,rfl,fin,kn,kn,kn⟩)
  refine BF (af%2) 1 ?_
  refine ll ab R ?_
  refine dL [[.int .i64 Acf,.int .i64 an,.int .i64 al,.str ap,.int .i32 aw,.list 6 R]] (fun aE aX=>?_)
  have br:=cL aX;try simp only [lA,lC,lN,lT']at br
  refine ll 1 aE ?_
  refine fr ?_
  exact Ai ⟨[4,3,1,U],[[]],[aE],[]⟩ (⟨_,_,_,_,_,_,rfl,fin,kn,kn,kn⟩)
 refine Cp Q 1 ?_
 obtain ⟨_,⟨az,ag,ac,aJ,rfl,bE,bG,bD,bO,bz⟩,aZ⟩:=bd hM @x 4 depth pos [102]
 refine ch aZ ?_
 exact Ai ⟨[7,0,az,ag],[ac],[aJ],[]⟩ (⟨_,_,_,_,_,_,rfl,fin,kn,kn,kn⟩)
def Adg (z N:Nat):Prop:=∀{m:Nat} {Γ:Ctx} {f g:Int} {j count:Int} {left call loads:Int} {B V:Rs} (D:Ox Γ f g j count left call loads B V) (C:J8 z Γ f g j count left call loads B V m) (k depth pos:Int) (h:0≤k∧k≤60∧depth≤3∧¬depth≤1∧depth.toNat≤m∧0≤pos∧pos+G depth≤1000001:=by exact kn),Ok trees N ⟨[k,depth,g,pos,j,count,left,call,loads],[],[B,V],[]⟩ fun A=>(∃(y u d c:Int),∃(x:List Nat),∃(o:Rs),A=(0,(⟨[y,u,d,c],[x],[o],[]⟩:Ah))∧(Dc Γ 3 depth y u 0 0 x o)∧(d=o.length)∧(pos≤c)∧(c+1≤pos+G depth))
theorem Al7 {d aI al N8 aq:Nat} (hT:trees aI=AcT d N8 al aq) (h8:Up N8) (bB:Z9 al aq):Adg al aI:=by
 intro m Γ f bl vl count left call C B V hM y k depth pos h
 have ⟨hB,hl,hvl,H6,hV,hb,hc,hd⟩:=hM;have cK:=Ht depth;have cN:=Lp depth om;have cM:=Ht (depth-1)
 refine .of (t:=AcT d N8 al aq) hT ?_
 unfold AcT
 refine lt (k%9) 4 (fun t1=>?_) fun t1=>?_
 ·obtain ⟨_,⟨aQ,aA,rfl,cj,cI,cC⟩,G2⟩:=h8 hB hl pos vl count left call C V
  refine ch G2 ?_
  obtain ⟨_,⟨ac,aB,rfl,cf,cE,cA⟩,G3⟩:=h8 hB hl aA vl count left call C V
  refine ch G3 ?_
  obtain ⟨_,⟨ab,ag,ad,aj,H,az,ae,j,rfl,cw,cg,cy,cz⟩,G4⟩:=y (1+(aQ%2)) (depth-1) aB kn
  refine ch G4 ?_
  obtain ⟨_,⟨af,ak,ah,ai,D,x,aa,o,rfl,ci,cF,cH,cx⟩,G5⟩:=y (1+(aQ%2)) (depth-1) az kn
  refine ch G5 ?_
  refine eq (ac%6) 0 (fun t6=>?_) fun t6=>?_
  ·refine ll H j ?_
   refine ll D o ?_
   refine dL [[.int .i64 ab,.int .i64 ag,.int .i64 ad,.str ae,.int .i32 aj,.list 6 j],[.int .i64 af,.int .i64 ak,.int .i64 ah,.str aa,.int .i32 ai,.list 6 o]] (fun W7 e7=>?_)
   have f7:=cL e7;try simp only [lA,lC,lN,lT']at f7
   refine ll 2 W7 ?_
   refine fr ?_
   exact Ai ⟨[5,24,2,x],[[]],[W7],[]⟩ (⟨_,_,_,_,_,_,rfl,fin,kn,kn,kn⟩)
  refine eq (ac%6) 1 (fun t8=>?_) fun t8=>?_
  ·refine ll H j ?_
   refine ll D o ?_
   refine dL [[.int .i64 ab,.int .i64 ag,.int .i64 ad,.str ae,.int .i32 aj,.list 6 j],[.int .i64 af,.int .i64 ak,.int .i64 ah,.str aa,.int .i32 ai,.list 6 o]] (fun W9 e9=>?_)
   have f9:=cL e9;try simp only [lA,lC,lN,lT']at f9
   refine ll 2 W9 ?_
   refine fr ?_
   exact Ai ⟨[5,25,2,x],[[]],[W9],[]⟩ (⟨_,_,_,_,_,_,rfl,fin,kn,kn,kn⟩)
  refine eq (ac%6) 2 (fun bI=>?_) fun bI=>?_
  ·refine ll H j ?_
   refine ll D o ?_
   refine dL [[.int .i64 ab,.int .i64 ag,.int .i64 ad,.str ae,.int .i32 aj,.list 6 j],[.int .i64 af,.int .i64 ak,.int .i64 ah,.str aa,.int .i32 ai,.list 6 o]] (fun aF a9=>?_)
   have bh:=cL a9;try simp only [lA,lC,lN,lT']at bh
   refine ll 2 aF ?_
   refine fr ?_
   exact Ai ⟨[5,26,2,x],[[]],[aF],[]⟩ (⟨_,_,_,_,_,_,rfl,fin,kn,kn,kn⟩)
  refine eq (ac%6) 3 (fun bN=>?_) fun bN=>?_
  ·refine ll H j ?_
   refine ll D o ?_
   refine dL [[.int .i64 ab,.int .i64 ag,.int .i64 ad,.str ae,.int .i32 aj,.list 6 j],[.int .i64 af,.int .i64 ak,.int .i64 ah,.str aa,.int .i32 ai,.list 6 o]] (fun aL bG=>?_)
   have bd:=cL bG;try simp only [lA,lC,lN,lT']at bd
   refine ll 2 aL ?_
   refine fr ?_
   exact Ai ⟨[5,27,2,x],[[]],[aL],[]⟩ (⟨_,_,_,_,_,_,rfl,fin,kn,kn,kn⟩)
  refine eq (ac%6) 4 (fun bo=>?_) fun bo=>?_
  ·refine ll H j ?_
   refine ll D o ?_
   refine dL [[.int .i64 ab,.int .i64 ag,.int .i64 ad,.str ae,.int .i32 aj,.list 6 j],[.int .i64 af,.int .i64 ak,.int .i64 ah,.str aa,.int .i32 ai,.list 6 o]] (fun aO bL=>?_)
   have bk:=cL bL;try simp only [lA,lC,lN,lT']at bk
   refine ll 2 aO ?_
   refine fr ?_
   exact Ai ⟨[5,28,2,x],[[]],[aO],[]⟩ (⟨_,_,_,_,_,_,rfl,fin,kn,kn,kn⟩)
  refine BF (ac%6) 5 ?_
  refine ll H j ?_
  refine ll D o ?_
  refine dL [[.int .i64 ab,.int .i64 ag,.int .i64 ad,.str ae,.int .i32 aj,.list 6 j],[.int .i64 af,.int .i64 ak,.int .i64 ah,.str aa,.int .i32 ai,.list 6 o]] (fun aP bi=>?_)
  have bg:=cL bi;try simp only [lA,lC,lN,lT']at bg
  refine ll 2 aP ?_
  refine fr ?_
  exact Ai ⟨[5,29,2,x],[[]],[aP],[]⟩ (⟨_,_,_,_,_,_,rfl,fin,kn,kn,kn⟩)
 refine lt (k%9) 6 (fun bq=>?_) fun bq=>?_
 ·obtain ⟨_,⟨N,ax,rfl,bU,b8,b3⟩,a7⟩:=h8 hB hl pos vl count left call C V
  refine ch a7 ?_
  obtain ⟨_,⟨OA,Z,M,O,A,au,U,g,rfl,bX,b6,bY,bT⟩,bx⟩:=y 3 (depth-1) ax kn
  refine ch bx ?_
  obtain ⟨_,⟨P,Q,X,J,z,u,R,c,rfl,b1,cd,ce,bW⟩,bJ⟩:=y 3 (depth-1) au kn
  refine ch bJ ?_
  refine eq (N%5) 0 (fun bp=>?_) fun bp=>?_
  ·refine ll A g ?_
   refine ll z c ?_
   refine dL [[.int .i64 OA,.int .i64 Z,.int .i64 M,.str U,.int .i32 O,.list 6 g],[.int .i64 P,.int .i64 Q,.int .i64 X,.str R,.int .i32 J,.list 6 c]] (fun aE bK=>?_)
   have bj:=cL bK;try simp only [lA,lC,lN,lT']at bj
   refine ll 2 aE ?_
   refine fr ?_
   exact Ai ⟨[5,17,2,u],[[]],[aE],[]⟩ (⟨_,_,_,_,_,_,rfl,fin,kn,kn,kn⟩)
  refine eq (N%5) 1 (fun br=>?_) fun br=>?_
  ·refine ll A g ?_
   refine ll z c ?_
   refine dL [[.int .i64 OA,.int .i64 Z,.int .i64 M,.str U,.int .i32 O,.list 6 g],[.int .i64 P,.int .i64 Q,.int .i64 X,.str R,.int .i32 J,.list 6 c]] (fun aK bz=>?_)
   have bE:=cL bz;try simp only [lA,lC,lN,lT']at bE
   refine ll 2 aK ?_
   refine fr ?_
   exact Ai ⟨[5,18,2,u],[[]],[aK],[]⟩ (⟨_,_,_,_,_,_,rfl,fin,kn,kn,kn⟩)
  refine eq (N%5) 2 (fun bv=>?_) fun bv=>?_
  ·refine ll A g ?_
   refine ll z c ?_
   refine dL [[.int .i64 OA,.int .i64 Z,.int .i64 M,.str U,.int .i32 O,.list 6 g],[.int .i64 P,.int .i64 Q,.int .i64 X,.str R,.int .i32 J,.list 6 c]] (fun aG bb=>?_)
   have a8:=cL bb;try simp only [lA,lC,lN,lT']at a8
   refine ll 2 aG ?_
   refine fr ?_
   exact Ai ⟨[5,19,2,u],[[]],[aG],[]⟩ (⟨_,_,_,_,_,_,rfl,fin,kn,kn,kn⟩)
  refine eq (N%5) 3 (fun ba=>?_) fun ba=>?_
  ·refine ll A g ?_
   refine ll z c ?_
   refine dL [[.int .i64 OA,.int .i64 Z,.int .i64 M,.str U,.int .i32 O,.list 6 g],[.int .i64 P,.int .i64 Q,.int .i64 X,.str R,.int .i32 J,.list 6 c]] (fun aN bO=>?_)
   have bm:=cL bO;try simp only [lA,lC,lN,lT']at bm
   refine ll 2 aN ?_
   refine fr ?_
   exact Ai ⟨[5,24,2,u],[[]],[aN],[]⟩ (⟨_,_,_,_,_,_,rfl,fin,kn,kn,kn⟩)
  refine BF (N%5) 4 ?_
  refine ll A g ?_
  refine ll z c ?_
  refine dL [[.int .i64 OA,.int .i64 Z,.int .i64 M,.str U,.int .i32 O,.list 6 g],[.int .i64 P,.int .i64 Q,.int .i64 X,.str R,.int .i32 J,.list 6 c]] (fun aJ be=>?_)
  have bP:=cL be;try simp only [lA,lC,lN,lT']at bP
  refine ll 2 aJ ?_
  refine fr ?_
  exact Ai ⟨[5,25,2,u],[[]],[aJ],[]⟩ (⟨_,_,_,_,_,_,rfl,fin,kn,kn,kn⟩)
 refine lt (k%9) 8 (fun bH=>?_) fun bH=>?_
 ·obtain ⟨_,⟨aU,a4,aV,aX,ay,ao,a5,aw,rfl,bV,cb,b0,b9⟩,bD⟩:=y 3 (depth-1) pos kn
  refine ch bD ?_
  refine ll ay aw ?_
  refine dL [[.int .i64 aU,.int .i64 a4,.int .i64 aV,.str a5,.int .i32 aX,.list 6 aw]] (fun aM bC=>?_)
  have bA:=cL bC;try simp only [lA,lC,lN,lT']at bA
  refine ll 1 aM ?_
  refine fr ?_
  exact Ai ⟨[4,2,1,ao],[[]],[aM],[]⟩ (⟨_,_,_,_,_,_,rfl,fin,kn,kn,kn⟩)
 refine sn C 0 (fun bt=>?_) fun bt=>?_
 ·obtain ⟨_,⟨AeJ,a1,a2,aZ,aD,ap,a3,an,rfl,cc,b2,bQ,b4⟩,bM⟩:=y 3 (depth-1) pos kn
  refine ch bM ?_
  refine ll aD an ?_
  refine dL [[.int .i64 AeJ,.int .i64 a1,.int .i64 a2,.str a3,.int .i32 aZ,.list 6 an]] (fun aH a6=>?_)
  have bc:=cL a6;try simp only [lA,lC,lN,lT']at bc
  refine ll 1 aH ?_
  refine fr ?_
  exact Ai ⟨[4,2,1,ap],[[]],[aH],[]⟩ (⟨_,_,_,_,_,_,rfl,fin,kn,kn,kn⟩)
 refine Cp C 1 ?_
 obtain ⟨_,⟨aC,av,am,a0,rfl,b5,b7,bR,bZ,bS⟩,bw⟩:=bB hM @y 4 depth pos [98]
 refine ch bw ?_
 exact Ai ⟨[7,0,aC,av],[am],[a0],[]⟩ (⟨_,_,_,_,_,_,rfl,fin,kn,kn,kn⟩)
theorem Aox {d g N8 y z C o:Nat} (hT:trees g=Z2 d N8 g y z C o) (h8:Up N8) (X:ZA y) (aR:Adi g z) (aJ:Adh g C) (aO:Adg g o) {Γ:Ctx} {f bl:Int} {vl count:Int} {left call loads:Int} {B V:Rs} (k:Ox Γ f bl vl count left call loads B V) (n:Nat):J8 g Γ f bl vl count left call loads B V n:=by
 induction n with
 |zero=>intro t depth pos h;exact absurd h.2.2.2.2.2 (Nat.not_lt_zero _)
 |succ n ih=>
 intro t depth pos h
 have ⟨hB,hl,hvl,H6,hV,hb,hc,hd⟩:=k;have bY:=Ht depth;have b0:=Lp depth om;have bZ:=Ht (depth-1)
 refine .of (t:=Z2 d N8 g y z C o) hT ?_
 unfold Z2
 obtain ⟨_,⟨j,c,rfl,bS,bw,bo⟩,G1⟩:=h8 hB hl pos vl count left call loads V
 refine ch G1 ?_
 refine le depth 1 (fun t2=>?_) fun t2=>?_
 ·obtain ⟨_,⟨aC,a1,a2,a3,ao,M,aL,aV,rfl,bK,bE,bC,bI⟩,G3⟩:=X k t c
  refine ch G3 ?_
  exact Ai ⟨[aC,a1,a2,a3,ao,M],[aL],[aV],[]⟩ (⟨_,_,_,_,_,_,_,_,rfl,fin,kn,kn,kn⟩)
 refine eq (j%5) 0 (fun t4=>?_) fun t4=>?_
 ·obtain ⟨_,⟨aD,a4,aH,aY,ap,N,aQ,a8,rfl,bN,bF,bH,bU⟩,G5⟩:=X k t c
  refine ch G5 ?_
  exact Ai ⟨[aD,a4,aH,aY,ap,N],[aQ],[a8],[]⟩ (⟨_,_,_,_,_,_,_,_,rfl,fin,kn,kn,kn⟩)
 refine eq (j%5) 1 (fun t6=>?_) fun t6=>?_
 ·obtain ⟨_,⟨aM,aE,aX,aA,ai,H,az,R,rfl,bT,bx,bz,bG⟩,G7⟩:=ih 3 (depth-1) c kn
  refine ch G7 ?_
  obtain ⟨_,⟨Zd,aI,a5,aB,au,J,aF,U,rfl,bA,bW,bJ,bp⟩,G8⟩:=ih t (depth-1) H kn
  refine ch G8 ?_
  obtain ⟨_,⟨a6,aG,ay,aK,al,P,ax,aa,rfl,bq,bD,bO,bP⟩,G9⟩:=ih t (depth-1) J kn
  refine ch G9 ?_
  refine ll ai R ?_
  refine ll au U ?_
  refine ll al aa ?_
  refine dL [[.int .i64 aM,.int .i64 aE,.int .i64 aX,.str az,.int .i32 aA,.list 6 R],[.int .i64 Zd,.int .i64 aI,.int .i64 a5,.str aF,.int .i32 aB,.list 6 U],[.int .i64 a6,.int .i64 aG,.int .i64 ay,.str ax,.int .i32 aK,.list 6 aa]] (fun Z a9=>?_)
  have aW:=cL a9;try simp only [lA,lC,lN,lT']at aW
  refine ll 3 Z ?_
  refine fr ?_
  exact Ai ⟨[6,0,0,0,3,P],[[]],[Z],[]⟩ (⟨_,_,_,_,_,_,_,_,rfl,fin,kn,kn,kn⟩)
 refine eq t 1 (fun a0=>?_) fun a0=>?_
 ·obtain ⟨_,⟨VB,ad,ag,ab,O,A,aw,aj,rfl,bk,bj,bb,bf⟩,aU⟩:=aR k @ih (j/5) depth c
  refine ch aU ?_
  exact Ai ⟨[VB,ad,ag,ab,O,A],[aw],[aj],[]⟩ (⟨_,_,_,_,_,_,_,_,rfl,fin,kn,kn,kn⟩)
 refine eq t 2 (fun aP=>?_) fun aP=>?_
 ·obtain ⟨_,⟨ak,am,D,u,ac,aq,rfl,be,ba,bg,bi⟩,aN⟩:=aJ k @ih (j/5) depth c
  refine ch aN ?_
  exact Ai ⟨[ak,am,0,0,D,u],[ac],[aq],[]⟩ (⟨_,_,_,_,_,_,_,_,rfl,fin,kn,kn,kn⟩)
 obtain ⟨_,⟨AeM,av,Q,x,ah,af,rfl,bc,bm,bd,bh⟩,a7⟩:=aO k @ih (j/5) depth c
 refine ch a7 ?_
 exact Ai ⟨[AeM,av,0,0,Q,x],[ah],[af],[]⟩ (⟨_,_,_,_,_,_,_,_,rfl,fin,kn,kn,kn⟩)
theorem KX {d c y j g o k:Nat} (D:trees c=Z2 d y c j g o k) (C:Up y) (A:ZA j) (z:Adi c g) (u:Adh c o) (x:Adg c k):Sk c:=fun {Γ} {f} {bl} {vl} {count} {left} {call} {loads} {B} {V} hM t depth pos h=>Aox D @C @A @z @u @x hM (depth.toNat+1) t depth pos ⟨h.1,h.2.1,h.2.2.1,h.2.2.2.1,h.2.2.2.2,Nat.lt_succ_self _⟩
end Go.Proofs.YtbmofjdmgjpfoaaGreatDoor.Am
end
section
set_option maxHeartbeats 4000000
set_option maxRecDepth 100000
namespace Go.Proofs.YtbmofjdmgjpfoaaGreatDoor.Am
open Go.AM Go.AM.K
def AqP (N:Nat) (Γ:Ctx) (f u:Int) (g count:Int) (left call loads:Int) (B V:Rs) (n:Nat):Prop:=∀(t k:Int) (j pos:Int) (L:Rs) (x:Ip Γ t L) (h:0≤j∧j≤g∧k=L.length∧L.length≤j∧0<k∧(g-j).toNat<n),Ok trees N ⟨[t,k,j,u,pos,g,count,left,call,loads],[],[B,L,V],[]⟩ fun o=>(o=(0,v0))∨(∃(c:Int),∃(d:Rs),o=(1,(⟨[c],[],[d],[]⟩:Ah))∧(Ip Γ t d)∧(c=d.length)∧(d.length≤40)∧(0<c))
def Aq2 (N:Nat):Prop:=∀{Γ:Ctx} {f o:Int} {g count:Int} {left call loads:Int} {B V:Rs} (x:Ox Γ f o g count left call loads B V) (t k:Int) (j pos:Int) (L:Rs) (y:Ip Γ t L) (h:0≤j∧j≤g∧k=L.length∧L.length≤j∧0<k:=by exact kn),Ok trees N ⟨[t,k,j,o,pos,g,count,left,call,loads],[],[B,L,V],[]⟩ fun u=>(u=(0,v0))∨(∃(c:Int),∃(d:Rs),u=(1,(⟨[c],[],[d],[]⟩:Ah))∧(Ip Γ t d)∧(c=d.length)∧(d.length≤40)∧(0<c))
theorem YO {Γ:Ctx} {f D:Int} {o count:Int} {left call loads:Int} {B V:Rs} (Z:Ox Γ f D o count left call loads B V) (n:Nat):AqP 40 Γ f D o count left call loads B V n:=by
 induction n with
 |zero=>intro t x j pos L hL h;exact absurd h.2.2.2.2.2 (Nat.not_lt_zero _)
 |succ n ih=>
 intro t x j pos L hL h
 have ⟨hB,hl,hvl,H6,hV,hb,hc,hd⟩:=Z
 refine .of (t:=Aen) rfl ?_
 unfold Aen
 refine lt j o (fun X=>?_) fun X=>?_
 ·refine CG j 0 ?_
  obtain ⟨y,t_1,u,U,ae,ab,ac⟩:=hV j om om
  refine el u ?_
  refine eq t_1 t (fun t3=>?_) fun t3=>?_
  ·refine dL (L++[[PV.str y]]) (fun c e4=>?_) (BC (pw x L) pe)
   have f4:=cL e4;try simp only [lA,lC,lN,lT']at f4
   refine FM (c.length:Int) 1048576 ?_
   obtain ⟨_,(rfl|⟨g,C,rfl,Q,J,H,N⟩),A⟩:=ih t (c.length:Int) (j+1) pos c (by exact fin) kn
   ·refine ch A ?_
    exact Ai ⟨[(c.length:Int)],[],[c],[]⟩ (.inr ((⟨_,_,rfl,fin,kn,kn,kn⟩)))
   refine cm A ?_
   refine ch A ?_
   exact Ai ⟨[g],[],[C],[]⟩ (.inr ((⟨_,_,rfl,fin,kn,kn,kn⟩)))
  obtain ⟨_,(rfl|⟨d,z,rfl,M,R,P,O⟩),k⟩:=ih t x (j+1) pos L (by exact fin) kn
  ·refine ch k ?_
   exact Ai v0 (.inl rfl)
  refine cm k ?_
  refine ch k ?_
  exact Ai ⟨[d],[],[z],[]⟩ (.inr ((⟨_,_,rfl,fin,kn,kn,kn⟩)))
 exact Ai v0 (.inl rfl)
theorem Apl:Aq2 40:=fun {Γ} {f} {bl} {vl} {count} {left} {call} {loads} {B} {V} hM t ln j pos L hL h=>YO hM ((vl-j).toNat+1) t ln j pos L hL ⟨h.1,h.2.1,h.2.2.1,h.2.2.2.1,h.2.2.2.2,Nat.lt_succ_self _⟩
theorem Aow {Γ:Ctx} {f D:Int} {k count:Int} {left call loads:Int} {B V:Rs} (C:Ox Γ f D k count left call loads B V) (n:Nat):An1 38 Γ f D k count left call loads B V n:=by
 induction n with
 |zero=>intro t j pos h;exact absurd h.2.2 (Nat.not_lt_zero _)
 |succ n ih=>
 intro t j pos h
 have ⟨hB,hl,hvl,H6,hV,hb,hc,hd⟩:=C
 refine .of (t:=Aep) rfl ?_
 unfold Aep
 refine lt j k (fun X=>?_) fun X=>?_
 ·refine CG j 0 ?_
  obtain ⟨x,t_1,o,U,ac,Z,aa⟩:=hV j om om
  refine el o ?_
  refine eq t_1 t (fun t3=>?_) fun t3=>?_
  ·refine dL [[.str x]] (fun u e4=>?_)
   have f4:=cL e4;try simp only [lA,lC,lN,lT']at f4
   refine ll 1 u ?_
   obtain ⟨_,(rfl|⟨d,A,rfl,Q,J,H,N⟩),z⟩:=Apl C t 1 (j+1) pos u (by exact fin)
   ·refine ch z ?_
    exact Ai ⟨[1],[],[u],[]⟩ (.inr ((⟨_,_,rfl,fin,kn,kn,kn⟩)))
   refine cm z ?_
   refine ch z ?_
   exact Ai ⟨[d],[],[A],[]⟩ (.inr ((⟨_,_,rfl,fin,kn,kn,kn⟩)))
  obtain ⟨_,(rfl|⟨c,y,rfl,M,R,P,O⟩),g⟩:=ih t (j+1) pos kn
  ·refine ch g ?_
   exact Ai v0 (.inl rfl)
  refine cm g ?_
  refine ch g ?_
  exact Ai ⟨[c],[],[y],[]⟩ (.inr ((⟨_,_,rfl,fin,kn,kn,kn⟩)))
 exact Ai v0 (.inl rfl)
theorem Apn:AiP 38:=fun {Γ} {f} {bl} {vl} {count} {left} {call} {loads} {B} {V} hM t j pos h=>Aow hM ((vl-j).toNat+1) t j pos ⟨h.1,h.2,Nat.lt_succ_self _⟩
def AqO (N:Nat) (Γ:Ctx) (f u:Int) (g count:Int) (left call loads:Int) (B V:Rs) (n:Nat):Prop:=∀(t k:Int) (j pos:Int) (L:Rs) (x:Ip Γ t L) (h:0≤j∧j≤g∧k=L.length∧L.length≤j∧0<k∧(g-j).toNat<n),Ok trees N ⟨[t,k,j,u,pos,g,count,left,call,loads],[],[B,V,L],[]⟩ fun o=>(o=(0,v0))∨(∃(c:Int),∃(d:Rs),o=(1,(⟨[c],[],[d],[]⟩:Ah))∧(Ip Γ t d)∧(c=d.length)∧(d.length≤40)∧(0<c))
def Aq1 (N:Nat):Prop:=∀{Γ:Ctx} {f o:Int} {g count:Int} {left call loads:Int} {B V:Rs} (x:Ox Γ f o g count left call loads B V) (t k:Int) (j pos:Int) (L:Rs) (y:Ip Γ t L) (h:0≤j∧j≤g∧k=L.length∧L.length≤j∧0<k:=by exact kn),Ok trees N ⟨[t,k,j,o,pos,g,count,left,call,loads],[],[B,V,L],[]⟩ fun u=>(u=(0,v0))∨(∃(c:Int),∃(d:Rs),u=(1,(⟨[c],[],[d],[]⟩:Ah))∧(Ip Γ t d)∧(c=d.length)∧(d.length≤40)∧(0<c))
theorem Aou {Γ:Ctx} {f D:Int} {o count:Int} {left call loads:Int} {B V:Rs} (Z:Ox Γ f D o count left call loads B V) (n:Nat):AqO 41 Γ f D o count left call loads B V n:=by
 induction n with
 |zero=>intro t x j pos L hL h;exact absurd h.2.2.2.2.2 (Nat.not_lt_zero _)
 |succ n ih=>
 intro t x j pos L hL h
 have ⟨hB,hl,hvl,H6,hV,hb,hc,hd⟩:=Z
 refine .of (t:=Aem) rfl ?_
 unfold Aem
 refine lt j o (fun X=>?_) fun X=>?_
 ·refine CG j 0 ?_
  obtain ⟨y,t_1,u,U,ae,ab,ac⟩:=hV j om om
  refine el u ?_
  refine eq t_1 t (fun t3=>?_) fun t3=>?_
  ·refine dL (L++[[PV.str y]]) (fun c e4=>?_) (BC (pw x L) pe)
   have f4:=cL e4;try simp only [lA,lC,lN,lT']at f4
   refine FM (c.length:Int) 1048576 ?_
   obtain ⟨_,(rfl|⟨g,C,rfl,Q,J,H,N⟩),A⟩:=ih t (c.length:Int) (j+1) pos c (by exact fin) kn
   ·refine ch A ?_
    exact Ai ⟨[(c.length:Int)],[],[c],[]⟩ (.inr ((⟨_,_,rfl,fin,kn,kn,kn⟩)))
   refine cm A ?_
   refine ch A ?_
   exact Ai ⟨[g],[],[C],[]⟩ (.inr ((⟨_,_,rfl,fin,kn,kn,kn⟩)))
  obtain ⟨_,(rfl|⟨d,z,rfl,M,R,P,O⟩),k⟩:=ih t x (j+1) pos L (by exact fin) kn
  ·refine ch k ?_
   exact Ai v0 (.inl rfl)
  refine cm k ?_
  refine ch k ?_
  exact Ai ⟨[d],[],[z],[]⟩ (.inr ((⟨_,_,rfl,fin,kn,kn,kn⟩)))
 exact Ai v0 (.inl rfl)
theorem Apk:Aq1 41:=fun {Γ} {f} {bl} {vl} {count} {left} {call} {loads} {B} {V} hM t ln j pos L hL h=>Aou hM ((vl-j).toNat+1) t ln j pos L hL ⟨h.1,h.2.1,h.2.2.1,h.2.2.2.1,h.2.2.2.2,Nat.lt_succ_self _⟩
theorem Aov {Γ:Ctx} {f D:Int} {k count:Int} {left call loads:Int} {B V:Rs} (C:Ox Γ f D k count left call loads B V) (n:Nat):An1 39 Γ f D k count left call loads B V n:=by
 induction n with
 |zero=>intro t j pos h;exact absurd h.2.2 (Nat.not_lt_zero _)
 |succ n ih=>
 intro t j pos h
 have ⟨hB,hl,hvl,H6,hV,hb,hc,hd⟩:=C
 refine .of (t:=Aeo) rfl ?_
 unfold Aeo
 refine lt j k (fun X=>?_) fun X=>?_
 ·refine CG j 0 ?_
  obtain ⟨x,t_1,o,U,ac,Z,aa⟩:=hV j om om
  refine el o ?_
  refine eq t_1 t (fun t3=>?_) fun t3=>?_
  ·refine dL [[.str x]] (fun u e4=>?_)
   have f4:=cL e4;try simp only [lA,lC,lN,lT']at f4
   refine ll 1 u ?_
   obtain ⟨_,(rfl|⟨d,A,rfl,Q,J,H,N⟩),z⟩:=Apk C t 1 (j+1) pos u (by exact fin)
   ·refine ch z ?_
    exact Ai ⟨[1],[],[u],[]⟩ (.inr ((⟨_,_,rfl,fin,kn,kn,kn⟩)))
   refine cm z ?_
   refine ch z ?_
   exact Ai ⟨[d],[],[A],[]⟩ (.inr ((⟨_,_,rfl,fin,kn,kn,kn⟩)))
  obtain ⟨_,(rfl|⟨c,y,rfl,M,R,P,O⟩),g⟩:=ih t (j+1) pos kn
  ·refine ch g ?_
   exact Ai v0 (.inl rfl)
  refine cm g ?_
  refine ch g ?_
  exact Ai ⟨[c],[],[y],[]⟩ (.inr ((⟨_,_,rfl,fin,kn,kn,kn⟩)))
 exact Ai v0 (.inl rfl)
theorem Apm:AiP 39:=fun {Γ} {f} {bl} {vl} {count} {left} {call} {loads} {B} {V} hM t j pos h=>Aov hM ((vl-j).toNat+1) t j pos ⟨h.1,h.2,Nat.lt_succ_self _⟩
theorem Apq:Afl 34:=@AeJ 1 34 8 38 rfl @Ma @Apn
theorem Apo:Afl 36:=@AeJ 0 36 9 39 rfl @Zx @Apm
theorem Amj:ZA 26:=@Acf 1 26 8 34 rfl @Ma @Apq
theorem Ami:ZA 30:=@Acf 0 30 9 36 rfl @Zx @Apo
theorem AiE:W8 16 19:=@OA 1 19 16 rfl
theorem AiC:W8 22 25:=@OA 0 25 22 rfl
theorem AiB:Z9 16 35:=@Al6 1 35 16 19 rfl @AiE
theorem AiA:Z9 22 37:=@Al6 0 37 22 25 rfl @AiC
theorem Apw:Adi 16 27:=@Al8 1 27 16 8 26 35 rfl @Ma @Amj @AiB
theorem Apt:Adi 22 31:=@Al8 0 31 22 9 30 37 rfl @Zx @Ami @AiA
theorem Apv:Adh 16 28:=@AeK 1 28 16 8 35 rfl @Ma @AiB
theorem Aps:Adh 22 32:=@AeK 0 32 22 9 37 rfl @Zx @AiA
theorem Apu:Adg 16 29:=@Al7 1 29 16 8 35 rfl @Ma @AiB
theorem Apr:Adg 22 33:=@Al7 0 33 22 9 37 rfl @Zx @AiA
theorem J3:Sk 16:=@KX 1 16 8 26 27 28 29 rfl @Ma @Amj @Apw @Apv @Apu
theorem Wp:Sk 22:=@KX 0 22 9 30 31 32 33 rfl @Zx @Ami @Apt @Aps @Apr
end Go.Proofs.YtbmofjdmgjpfoaaGreatDoor.Am
end
section
set_option maxHeartbeats 4000000
set_option maxRecDepth 100000
namespace Go.Proofs.YtbmofjdmgjpfoaaGreatDoor.Am
open Go.AM Go.AM.K
def Aqo (N:Nat):Prop:=∀(n:Int) (h:0≤n∧n<24:=by exact kn),Ok trees N ⟨[n],[],[],[]⟩ fun d=>(∃(c:List Nat),d=(0,(⟨[],[c],[],[]⟩:Ah))∧([118]++c=vn n.toNat)∧(c.length≤2))
theorem Amb:Aqo 60:=by
 intro n h
 refine .of (t:=AdX) rfl ?_
 unfold AdX
 refine sn n 0 (fun M=>?_) fun M=>?_
 ·exact Ai ⟨[],[[48]],[],[]⟩ (⟨_,rfl,(by first|(subst_vars;rfl) |(rw [show n=23 by omega];rfl)),(by simp)⟩)
 refine sn n 1 (fun R=>?_) fun R=>?_
 ·exact Ai ⟨[],[[49]],[],[]⟩ (⟨_,rfl,(by first|(subst_vars;rfl) |(rw [show n=23 by omega];rfl)),(by simp)⟩)
 refine sn n 2 (fun P=>?_) fun P=>?_
 ·exact Ai ⟨[],[[50]],[],[]⟩ (⟨_,rfl,(by first|(subst_vars;rfl) |(rw [show n=23 by omega];rfl)),(by simp)⟩)
 refine sn n 3 (fun Q=>?_) fun Q=>?_
 ·exact Ai ⟨[],[[51]],[],[]⟩ (⟨_,rfl,(by first|(subst_vars;rfl) |(rw [show n=23 by omega];rfl)),(by simp)⟩)
 refine sn n 4 (fun U=>?_) fun U=>?_
 ·exact Ai ⟨[],[[52]],[],[]⟩ (⟨_,rfl,(by first|(subst_vars;rfl) |(rw [show n=23 by omega];rfl)),(by simp)⟩)
 refine sn n 5 (fun O=>?_) fun O=>?_
 ·exact Ai ⟨[],[[53]],[],[]⟩ (⟨_,rfl,(by first|(subst_vars;rfl) |(rw [show n=23 by omega];rfl)),(by simp)⟩)
 refine sn n 6 (fun N=>?_) fun N=>?_
 ·exact Ai ⟨[],[[54]],[],[]⟩ (⟨_,rfl,(by first|(subst_vars;rfl) |(rw [show n=23 by omega];rfl)),(by simp)⟩)
 refine sn n 7 (fun X=>?_) fun X=>?_
 ·exact Ai ⟨[],[[55]],[],[]⟩ (⟨_,rfl,(by first|(subst_vars;rfl) |(rw [show n=23 by omega];rfl)),(by simp)⟩)
 refine sn n 8 (fun J=>?_) fun J=>?_
 ·exact Ai ⟨[],[[56]],[],[]⟩ (⟨_,rfl,(by first|(subst_vars;rfl) |(rw [show n=23 by omega];rfl)),(by simp)⟩)
 refine sn n 9 (fun g=>?_) fun g=>?_
 ·exact Ai ⟨[],[[57]],[],[]⟩ (⟨_,rfl,(by first|(subst_vars;rfl) |(rw [show n=23 by omega];rfl)),(by simp)⟩)
 refine sn n 10 (fun A=>?_) fun A=>?_
 ·exact Ai ⟨[],[[49,48]],[],[]⟩ (⟨_,rfl,(by first|(subst_vars;rfl) |(rw [show n=23 by omega];rfl)),(by simp)⟩)
 refine sn n 11 (fun C=>?_) fun C=>?_
 ·exact Ai ⟨[],[[49,49]],[],[]⟩ (⟨_,rfl,(by first|(subst_vars;rfl) |(rw [show n=23 by omega];rfl)),(by simp)⟩)
 refine sn n 12 (fun c=>?_) fun c=>?_
 ·exact Ai ⟨[],[[49,50]],[],[]⟩ (⟨_,rfl,(by first|(subst_vars;rfl) |(rw [show n=23 by omega];rfl)),(by simp)⟩)
 refine sn n 13 (fun k=>?_) fun k=>?_
 ·exact Ai ⟨[],[[49,51]],[],[]⟩ (⟨_,rfl,(by first|(subst_vars;rfl) |(rw [show n=23 by omega];rfl)),(by simp)⟩)
 refine sn n 14 (fun y=>?_) fun y=>?_
 ·exact Ai ⟨[],[[49,52]],[],[]⟩ (⟨_,rfl,(by first|(subst_vars;rfl) |(rw [show n=23 by omega];rfl)),(by simp)⟩)
 refine sn n 15 (fun d=>?_) fun d=>?_
 ·exact Ai ⟨[],[[49,53]],[],[]⟩ (⟨_,rfl,(by first|(subst_vars;rfl) |(rw [show n=23 by omega];rfl)),(by simp)⟩)
 refine sn n 16 (fun u=>?_) fun u=>?_
 ·exact Ai ⟨[],[[49,54]],[],[]⟩ (⟨_,rfl,(by first|(subst_vars;rfl) |(rw [show n=23 by omega];rfl)),(by simp)⟩)
 refine sn n 17 (fun j=>?_) fun j=>?_
 ·exact Ai ⟨[],[[49,55]],[],[]⟩ (⟨_,rfl,(by first|(subst_vars;rfl) |(rw [show n=23 by omega];rfl)),(by simp)⟩)
 refine sn n 18 (fun x=>?_) fun x=>?_
 ·exact Ai ⟨[],[[49,56]],[],[]⟩ (⟨_,rfl,(by first|(subst_vars;rfl) |(rw [show n=23 by omega];rfl)),(by simp)⟩)
 refine sn n 19 (fun H=>?_) fun H=>?_
 ·exact Ai ⟨[],[[49,57]],[],[]⟩ (⟨_,rfl,(by first|(subst_vars;rfl) |(rw [show n=23 by omega];rfl)),(by simp)⟩)
 refine sn n 20 (fun o=>?_) fun o=>?_
 ·exact Ai ⟨[],[[50,48]],[],[]⟩ (⟨_,rfl,(by first|(subst_vars;rfl) |(rw [show n=23 by omega];rfl)),(by simp)⟩)
 refine sn n 21 (fun D=>?_) fun D=>?_
 ·exact Ai ⟨[],[[50,49]],[],[]⟩ (⟨_,rfl,(by first|(subst_vars;rfl) |(rw [show n=23 by omega];rfl)),(by simp)⟩)
 refine sn n 22 (fun z=>?_) fun z=>?_
 ·exact Ai ⟨[],[[50,50]],[],[]⟩ (⟨_,rfl,(by first|(subst_vars;rfl) |(rw [show n=23 by omega];rfl)),(by simp)⟩)
 refine Cp n 23 ?_
 exact Ai ⟨[],[[50,51]],[],[]⟩ (⟨_,rfl,(by first|(subst_vars;rfl) |(rw [show n=23 by omega];rfl)),(by simp)⟩)
def ZB (E:Bool) (N:Nat):Prop:=∀{Γ:Ctx} {f K M:Int} (P R:Int) (D u:Int) (pos k:Int) (count left:Int) (call d:Int) (B V:Rs) (U:MS E Γ f K M u pos k count left call d B V) (h:1≤D∧count+left+1≤K∧pos+300*left+200≤M:=by exact kn),Ok trees N ⟨[u,pos,k,count,left,call,d],[],[B,V],[]⟩ fun Q=>(∃(O:Ctx),∃(t' H z J w' o g j c:Int),∃(C A:List Nat),∃(y x:Rs),Q=(0,(⟨[t',H,z,J,w',o,0,0,0,g,j,c],[C,A],[y,[],[],[],x],[]⟩:Ah))∧(MS false O f K M u g j c left call d B x)∧(En P R D Γ O (left+1) left (AZ 1 0 t' 0 C H z J A w' y 0 0 0 [] 0 [] [] []))∧(Ext k V x)∧(count≤c)∧(k≤j)∧(g≤pos+100)∧(o=y.length))
def Adl (E:Bool) (N:Nat):Prop:=∀{Γ:Ctx} {K M:Int} (J Q:Int) (D f:Int) (C pos:Int) (z count:Int) (left call loads:Int) (B V:Rs) (R:MS E Γ f K M C pos z count left call loads B V) (h:1≤D∧count+left+1≤K∧pos+300*left+200≤M:=by exact kn),Ok trees N ⟨[f,C,pos,z,count,left,call,loads],[],[B,V],[]⟩ fun O=>(∃(x k y w' g c:Int),∃(u o:List Nat),∃(j:Rs),O=(0,(⟨[x,k,y,w',g,0,0,0,c],[u,o],[j,[],[],[]],[]⟩:Ah))∧(MS E Γ f K M C c z count left call loads B V)∧(En J Q D Γ Γ (left+1) left (AZ 2 0 0 0 u x k y o w' j 0 0 0 [] 0 [] [] []))∧(c≤pos+100)∧(g=j.length))∨(∃(P:Ctx),∃(t' x k y w' g c A d:Int),∃(u o:List Nat),∃(j H:Rs),O=(1,(⟨[t',x,k,y,w',g,0,0,0,c,A,d],[u,o],[j,[],[],[],H],[]⟩:Ah))∧(MS false P f K M C c A d left call loads B H)∧(En J Q D Γ P (left+1) left (AZ 1 0 t' 0 u x k y o w' j 0 0 0 [] 0 [] [] []))∧(Ext z V H)∧(count≤d)∧(z≤A)∧(c≤pos+100)∧(g=j.length))
theorem AeM {E:Bool} {d C Q o u:Nat} (hT:trees C=Ada d Q o u) (h8:Up Q) (ak:ZB E o) (ah:Sk u):Adl E C:=by
 intro Γ K M lo pu D f bl pos c count left call j B V A h
 have ⟨hm,a4,a7,a8,bd,a9,ba,a5,be,bc,a2⟩:=A;have ⟨hB,hl,hvl,H6,hV,hb,hc,hd⟩:=hm;have a6:G 3=40:=rfl;have bf:G 2=12:=rfl;have a3:G (3-1)=12:=rfl
 refine .of (t:=Ada d Q o u) hT ?_
 unfold Ada
 refine le c f (fun t1=>?_) fun t1=>?_
 ·obtain ⟨_,⟨ao,t_2,ai,am,ae,ap,H,x,X,k,ad,an,af,ab,rfl,N,aX,ay,aQ,az,aI,ax⟩,G2⟩:=ak lo pu D bl pos c count left call j B V (MS.mv A)
  refine ch G2 ?_
  have ⟨_,_,aB,aN,aG,aF,aM,aH,_,_,_⟩:=N
  exact Ai ⟨[t_2,ai,am,ae,ap,H,0,0,0,x,X,k],[ad,an],[af,[],[],[],ab],[]⟩ (.inr ((⟨ao,_,_,_,_,_,_,_,_,_,_,_,_,_,rfl,‹_›,AA,AA,kn,kn,kn,kn⟩)))
 obtain ⟨_,⟨g,z,rfl,aq,aA,au⟩,G3⟩:=h8 hB hl pos c count left call j V
 refine ch G3 ?_
 refine AN (c-f) 0 ?_
 have m4:=Int.emod_nonneg g (show (c-f)≠0 by omega);have bb:=Int.emod_lt_of_pos g (show 0<(c-f) by omega)
 refine CG (f+(g%(c-f))) 0 ?_
 refine B9 (f+(g%(c-f))) c ?_
 obtain ⟨U,YA,P,R,O,a1,aO⟩:=hV (f+(g%(c-f))) om om
 refine el P ?_
 have aV:=O om;obtain ⟨_,_,_,aE⟩:=R
 obtain ⟨_,⟨ag,al,aa,Z,J,y,aj,ac,rfl,a0,aK,aY,av⟩,G6⟩:=ah (A.FC count left) YA 3 z
 refine ch G6 ?_
 refine de [] ?_
 refine ll 0 [] ?_
 exact Ai ⟨[ag,al,aa,Z,J,0,0,0,y],[U,aj],[ac,[],[],[]],[]⟩ (.inl (⟨_,_,_,_,_,_,_,_,_,rfl,(MS.mv A),AA,kn,kn⟩))
def Adk (E:Bool) (N:Nat):Prop:=∀{Γ:Ctx} {f K M:Int} (P O:Int) (D k:Int) (pos u:Int) (count left:Int) (call c:Int) (B V:Rs) (R:MS E Γ f K M k pos u count left call c B V) (h:1≤D∧pos+300*left+200≤M∧O=0:=by exact kn),Ok trees N ⟨[k,pos,u,count,left,call,c],[],[B,V],[]⟩ fun Q=>(∃(j z H J A g d:Int),∃(C y:List Nat),∃(x o:Rs),Q=(0,(⟨[j,z,H,J,A,g,0,0,d],[C,y],[x,o,[],[]],[]⟩:Ah))∧(MS E Γ f K M k d u count left call c B V)∧(En P O D Γ Γ (left+1) left (AZ 3 0 0 0 C 5 17 0 [] 0 x z H J y A o [] []))∧(d≤pos+100)∧(j=x.length)∧(g=o.length))
theorem Al9 {E:Bool} {d ag N8 u x:Nat} (hT:trees ag=AcZ d N8 u x) (h8:Up N8) (g:Sk u) (k:W8 u x):Adk E ag:=by
 intro Γ f K M lo pu D bl pos vl count left call ac B V c h
 have ⟨hm,cy,cz,cv,cC,cw,cA,ct,cx,cB,cq⟩:=c;have ⟨hB,hl,hvl,H6,hV,hb,hc,hd⟩:=hm;have cu:G 3=40:=rfl;have cD:G 2=12:=rfl;have cr:G (3-1)=12:=rfl
 refine .of (t:=AcZ d N8 u x) hT ?_
 unfold AcZ
 obtain ⟨_,⟨o,j,rfl,bW,b3,bU⟩,G1⟩:=h8 hB hl pos vl count left call ac V
 refine ch G1 ?_
 refine eq (o%6) 0 (fun t2=>?_) fun t2=>?_
 ·obtain ⟨_,⟨au,ae,a4,rfl,bL,cf,cc,cj⟩,G3⟩:=k (c.FC count left) (J8.of (c.FC count left) (n:=10) @g) 8 3 j
  refine ch G3 ?_
  obtain ⟨_,⟨aP,a8,a0,a9,aA,Z,a1,aX,rfl,b4,bP,b9,cb⟩,G4⟩:=g (c.FC count left) 1 3 ae
  refine ch G4 ?_
  refine de [] ?_
  refine ll 0 [] ?_
  exact Ai ⟨[au,aP,a8,a0,a9,aA,0,0,Z],[[97],a1],[a4,aX,[],[]],[]⟩ (⟨_,_,_,_,_,_,_,_,_,_,_,rfl,(MS.mv c),AA,kn,kn,kn⟩)
 refine eq (o%6) 1 (fun t5=>?_) fun t5=>?_
 ·obtain ⟨_,⟨aG,P,aR,rfl,co,cn,b7,bM⟩,G6⟩:=k (c.FC count left) (J8.of (c.FC count left) (n:=10) @g) 8 3 j
  refine ch G6 ?_
  obtain ⟨_,⟨bc,a5,a6,aV,aK,R,aU,a3,rfl,bZ,b5,b6,cg⟩,G7⟩:=g (c.FC count left) 1 3 P
  refine ch G7 ?_
  refine de [] ?_
  refine ll 0 [] ?_
  exact Ai ⟨[aG,bc,a5,a6,aV,aK,0,0,R],[[97],aU],[aR,a3,[],[]],[]⟩ (⟨_,_,_,_,_,_,_,_,_,_,_,rfl,(MS.mv c),AA,kn,kn,kn⟩)
 refine eq (o%6) 2 (fun t8=>?_) fun t8=>?_
 ·obtain ⟨_,⟨an,ab,be,rfl,bY,cd,bR,bS⟩,G9⟩:=k (c.FC count left) (J8.of (c.FC count left) (n:=10) @g) 8 3 j
  refine ch G9 ?_
  obtain ⟨_,⟨ai,aD,ah,aO,O,y,al,aE,rfl,bF,bC,bJ,bo⟩,a2⟩:=g (c.FC count left) 1 3 ab
  refine ch a2 ?_
  refine de [] ?_
  refine ll 0 [] ?_
  exact Ai ⟨[an,ai,aD,ah,aO,O,0,0,y],[[115],al],[be,aE,[],[]],[]⟩ (⟨_,_,_,_,_,_,_,_,_,_,_,rfl,(MS.mv c),AA,kn,kn,kn⟩)
 refine eq (o%6) 3 (fun ba=>?_) fun ba=>?_
 ·obtain ⟨_,⟨X,A,aj,rfl,bG,bE,bq,bH⟩,aW⟩:=k (c.FC count left) (J8.of (c.FC count left) (n:=10) @g) 4 3 j
  refine ch aW ?_
  obtain ⟨_,⟨am,aw,aF,aI,aa,z,av,ay,rfl,bk,bt,bx,bA⟩,a7⟩:=g (c.FC count left) 2 3 A
  refine ch a7 ?_
  refine de [] ?_
  refine ll 0 [] ?_
  exact Ai ⟨[X,am,aw,aF,aI,aa,0,0,z],[[102],av],[aj,ay,[],[]],[]⟩ (⟨_,_,_,_,_,_,_,_,_,_,_,rfl,(MS.mv c),AA,kn,kn,kn⟩)
 refine eq (o%6) 4 (fun aZ=>?_) fun aZ=>?_
 ·obtain ⟨_,⟨ad,J,aC,rfl,bz,bK,bD,bI⟩,bd⟩:=k (c.FC count left) (J8.of (c.FC count left) (n:=10) @g) 4 3 j
  refine ch bd ?_
  obtain ⟨_,⟨KX,aL,aq,ao,af,H,az,aJ,rfl,bj,bf,bw,bh⟩,bb⟩:=g (c.FC count left) 1 3 J
  refine ch bb ?_
  refine de [] ?_
  refine ll 0 [] ?_
  exact Ai ⟨[ad,KX,aL,aq,ao,af,0,0,H],[[112],az],[aC,aJ,[],[]],[]⟩ (⟨_,_,_,_,_,_,_,_,_,_,_,rfl,(MS.mv c),AA,kn,kn,kn⟩)
 refine BF (o%6) 5 ?_
 obtain ⟨_,⟨Q,C,aM,rfl,bv,bm,bp,bn⟩,aY⟩:=k (c.FC count left) (J8.of (c.FC count left) (n:=10) @g) 4 3 j
 refine ch aY ?_
 obtain ⟨_,⟨AeL,ax,ak,aB,U,N,aH,aN,rfl,bi,bB,br,bg⟩,aQ⟩:=g (c.FC count left) 3 3 C
 refine ch aQ ?_
 refine de [] ?_
 refine ll 0 [] ?_
 exact Ai ⟨[Q,AeL,ax,ak,aB,U,0,0,N],[[98],aH],[aM,aN,[],[]],[]⟩ (⟨_,_,_,_,_,_,_,_,_,_,_,rfl,(MS.mv c),AA,kn,kn,kn⟩)
def Adj (E:Bool) (N:Nat):Prop:=∀{Γ:Ctx} {K M:Int} (lo Q:Int) (D f:Int) (C pos:Int) (x count:Int) (left call loads:Int) (B V:Rs) (hM:MS E Γ f K M C pos x count left call loads B V) (h:1≤D∧count+left+1≤K∧pos+300*left+200≤M∧Q=0:=by exact kn),Ok trees N ⟨[f,C,pos,x,count,left,call,loads],[],[B,V],[]⟩ fun zz=>(∃(J u k A w' g Z o2 y2 R H c:Int),∃(o z X:List Nat),∃(j O:Rs),zz=(0,(⟨[J,u,k,A,w',g,Z,o2,y2,R,H,0,0,c],[o,z,X],[j,O,[],[]],[]⟩:Ah))∧(MS E Γ f K M C c x count left call loads B V)∧(En lo Q D Γ Γ (left+1) left (AZ 12 J 0 0 o u k A z w' j Z o2 y2 X R O [] []))∧(c≤pos+100)∧(g=j.length)∧(H=O.length))∨(∃(U:Ctx),∃(t' u k A w' g c y d:Int),∃(o z:List Nat),∃(j P:Rs),zz=(1,(⟨[t',u,k,A,w',g,0,0,0,c,y,d],[o,z],[j,[],[],[],P],[]⟩:Ah))∧(MS false U f K M C c y d left call loads B P)∧(En lo Q D Γ U (left+1) left (AZ 1 0 t' 0 o u k A z w' j 0 0 0 [] 0 [] [] []))∧(Ext x V P)∧(count≤d)∧(x≤y)∧(c≤pos+100)∧(g=j.length))
theorem AeL {E:Bool} {d aG N8 aa ad:Nat} (hT:trees aG=AcY d N8 aa ad) (P:Up N8) (bm:ZB E aa) (u:Sk ad):Adj E aG:=by
 intro Γ K M lo pu D f bl pos k count left call g B V j h
 have ⟨hm,c9,db,c5,dh,c6,dc,c3,c8,dg,c1⟩:=j;have ⟨hB,hl,hvl,H6,hV,hb,hc,hd⟩:=hm;have c4:G 3=40:=rfl;have c7:G 2=12:=rfl;have c2:G (3-1)=12:=rfl
 refine .of (t:=AcY d N8 aa ad) hT ?_
 unfold AcY
 refine le k f (fun t1=>?_) fun t1=>?_
 ·obtain ⟨_,⟨bH,t_2,bj,bo,bb,bp,aI,aD,a7,Q,ba,bG,bd,a9,rfl,aJ,cX,cJ,cz,co,ct,ci⟩,G2⟩:=bm lo pu D bl pos k count left call g B V (MS.mv j)
  refine ch G2 ?_
  have ⟨_,_,cL,cw,cr,cq,cT,cQ,_,_,_⟩:=aJ
  exact Ai ⟨[t_2,bj,bo,bb,bp,aI,0,0,0,aD,a7,Q],[ba,bG],[bd,[],[],[],a9],[]⟩ (.inr ((⟨bH,_,_,_,_,_,_,_,_,_,_,_,_,_,rfl,‹_›,AA,AA,kn,kn,kn,kn⟩)))
 obtain ⟨_,⟨y,H,rfl,cg,cK,cH⟩,G3⟩:=P hB hl pos k count left call g V
 refine ch G3 ?_
 refine AN (k-f) 0 ?_
 have m4:=Int.emod_nonneg y (show (k-f)≠0 by omega);have dd:=Int.emod_lt_of_pos y (show 0<(k-f) by omega)
 refine CG (f+(y%(k-f))) 0 ?_
 refine B9 (f+(y%(k-f))) k ?_
 obtain ⟨c,YA,aM,a2,aK,cZ,cU⟩:=hV (f+(y%(k-f))) om om
 refine el aM ?_
 have cW:=aK om;obtain ⟨_,_,_,cP⟩:=a2
 refine eq YA 3 (fun t6=>?_) fun t6=>?_
 ·obtain ⟨_,⟨bE,aB,rfl,cy,cD,cE⟩,G7⟩:=P hB hl H k count left call g V
  refine ch G7 ?_
  obtain ⟨_,⟨Zd,bw,bC,bg,aZ,aF,bq,bx,rfl,cF,cS,cV,cu⟩,G8⟩:=u (j.FC count left) 3 3 aB
  refine ch G8 ?_
  refine de [] ?_
  refine ll 0 [] ?_
  exact Ai ⟨[(2+(bE%2)),Zd,bw,bC,bg,aZ,0,0,0,0,0,0,0,aF],[c,bq,[]],[bx,[],[],[]],[]⟩ (.inl (⟨_,_,_,_,_,_,_,_,_,_,_,_,_,_,_,_,_,rfl,(MS.mv j),AA,kn,kn,kn⟩))
 obtain ⟨_,⟨N,o,rfl,cx,cI,cp⟩,G9⟩:=P hB hl H k count left call g V
 refine ch G9 ?_
 refine eq (N%4) 0 (fun bA=>?_) fun bA=>?_
 ·obtain ⟨_,⟨ap,ae,rfl,cc,bJ,b0⟩,bF⟩:=P hB hl o k count left call g V
  refine ch bF ?_
  obtain ⟨_,⟨VB,Z,am,U,C,z,az,R,rfl,b5,b4,bS,b8⟩,bc⟩:=u (j.FC count left) YA 3 ae
  refine ch bc ?_
  refine eq (ap%2) 0 (fun a8=>?_) fun a8=>?_
  ·refine de [] ?_
   refine ll 0 [] ?_
   exact Ai ⟨[5,VB,Z,am,U,C,0,0,0,0,0,0,0,z],[c,az,[]],[R,[],[],[]],[]⟩ (.inl (⟨_,_,_,_,_,_,_,_,_,_,_,_,_,_,_,_,_,rfl,(MS.mv j),AA,kn,kn,kn⟩))
  refine BF (ap%2) 1 ?_
  refine de [] ?_
  refine ll 0 [] ?_
  exact Ai ⟨[6,VB,Z,am,U,C,0,0,0,0,0,0,0,z],[c,az,[]],[R,[],[],[]],[]⟩ (.inl (⟨_,_,_,_,_,_,_,_,_,_,_,_,_,_,_,_,_,rfl,(MS.mv j),AA,kn,kn,kn⟩))
 refine eq (N%4) 1 (fun bh=>?_) fun bh=>?_
 ·obtain ⟨_,⟨X,aw,rfl,b1,cd,b2⟩,bD⟩:=P hB hl o k count left call g V
  refine ch bD ?_
  obtain ⟨_,⟨KX,aq,ac,ab,O,A,ag,ao,rfl,bO,bK,bV,bM⟩,bz⟩:=u (j.FC count left) YA 3 aw
  refine ch bz ?_
  refine eq (X%2) 0 (fun bk=>?_) fun bk=>?_
  ·refine de [] ?_
   refine ll 0 [] ?_
   exact Ai ⟨[5,KX,aq,ac,ab,O,0,0,0,0,0,0,0,A],[c,ag,[]],[ao,[],[],[]],[]⟩ (.inl (⟨_,_,_,_,_,_,_,_,_,_,_,_,_,_,_,_,_,rfl,(MS.mv j),AA,kn,kn,kn⟩))
  refine BF (X%2) 1 ?_
  refine de [] ?_
  refine ll 0 [] ?_
  exact Ai ⟨[6,KX,aq,ac,ab,O,0,0,0,0,0,0,0,A],[c,ag,[]],[ao,[],[],[]],[]⟩ (.inl (⟨_,_,_,_,_,_,_,_,_,_,_,_,_,_,_,_,_,rfl,(MS.mv j),AA,kn,kn,kn⟩))
 refine eq (N%4) 2 (fun bf=>?_) fun bf=>?_
 ·obtain ⟨_,⟨OA,a5,aL,aQ,aE,av,a0,aW,rfl,bQ,bZ,bR,bL⟩,bt⟩:=u (j.FC count left) YA 2 o
  refine ch bt ?_
  obtain ⟨_,⟨aR,aU,a3,aH,aA,ah,aV,aN,rfl,cb,b9,ce,bP⟩,bB⟩:=u (j.FC count left) 1 2 av
  refine ch bB ?_
  refine de [] ?_
  refine ll 0 [] ?_
  exact Ai ⟨[4,OA,a5,aL,aQ,aE,aR,aU,a3,aH,aA,0,0,ah],[c,a0,aV],[aW,aN,[],[]],[]⟩ (.inl (⟨_,_,_,_,_,_,_,_,_,_,_,_,_,_,_,_,_,rfl,(MS.mv j),AA,kn,kn,kn⟩))
 refine BF (N%4) 3 ?_
 refine eq YA 1 (fun bi=>?_) fun bi=>?_
 ·obtain ⟨_,⟨aY,a1,aX,aO,aC,af,a4,a6,rfl,bT,b6,bI,cf⟩,bv⟩:=u (j.FC count left) 3 3 o
  refine ch bv ?_
  refine de [] ?_
  refine ll 0 [] ?_
  exact Ai ⟨[1,aY,a1,aX,aO,aC,0,0,0,0,0,0,0,af],[c,a4,[]],[a6,[],[],[]],[]⟩ (.inl (⟨_,_,_,_,_,_,_,_,_,_,_,_,_,_,_,_,_,rfl,(MS.mv j),AA,kn,kn,kn⟩))
 obtain ⟨_,⟨ak,ai,rfl,bN,bU,bY⟩,bn⟩:=P hB hl o k count left call g V
 refine ch bn ?_
 obtain ⟨_,⟨al,au,an,ay,J,x,ax,aj,rfl,bX,bW,b3,b7⟩,be⟩:=u (j.FC count left) YA 3 ai
 refine ch be ?_
 refine eq (ak%2) 0 (fun br=>?_) fun br=>?_
 ·refine de [] ?_
  refine ll 0 [] ?_
  exact Ai ⟨[5,al,au,an,ay,J,0,0,0,0,0,0,0,x],[c,ax,[]],[aj,[],[],[]],[]⟩ (.inl (⟨_,_,_,_,_,_,_,_,_,_,_,_,_,_,_,_,_,rfl,(MS.mv j),AA,kn,kn,kn⟩))
 refine BF (ak%2) 1 ?_
 refine de [] ?_
 refine ll 0 [] ?_
 exact Ai ⟨[6,al,au,an,ay,J,0,0,0,0,0,0,0,x],[c,ax,[]],[aj,[],[],[]],[]⟩ (.inl (⟨_,_,_,_,_,_,_,_,_,_,_,_,_,_,_,_,_,rfl,(MS.mv j),AA,kn,kn,kn⟩))
def G0 (E:Bool) (N n:Nat):Prop:=∀{Γ:Ctx} {K M:Int} (f depth:Int) (Q loop:Int) (pure Z:Int) (pos C:Int) (count left:Int) (call d:Int) (B V:Rs) (hM:MS E Γ f K M Z pos C count left call d B V) (h:0≤depth∧depth≤2∧1≤left∧(pure=0∨pure=1)∧(loop=0∨loop=1)∧(Q=0∨Q=1)∧depth.toNat<n),Ok trees N ⟨[f,depth,Q,loop,pure,Z,pos,C,count,left,call,d],[],[B,V],[]⟩ fun zz=>(∃(z o' R y P U J A yk yo yt yw D X el c left':Int),∃(x O yn:List Nat),∃(u k j o:Rs),zz=(0,(⟨[z,o',R,y,P,U,J,A,yk,yo,yt,yw,D,X,el,c,left'],[x,O,yn],[u,k,j,o],[]⟩:Ah))∧(MS E Γ f K M Z c C count left' call d B V)∧(En loop pure (depth+1) Γ Γ left left' (AZ z o' 0 R x y P U O J u yk yo yt yn yw k j o))∧(c+300*left'≤pos+300*left)∧(A=u.length)∧(D=k.length)∧(X=j.length)∧(el=o.length)∧(left'+1≤left))∨(∃(Γ':Ctx),∃(z t' R y P U J A D X el c H g left':Int),∃(x O:List Nat),∃(u k j o V':Rs),zz=(1,(⟨[z,t',R,y,P,U,J,A,D,X,el,c,H,g,left'],[x,O],[u,k,j,o,V'],[]⟩:Ah))∧(MS false Γ' f K M Z c H g left' call d B V')∧(En loop pure (depth+1) Γ Γ' left left' (AZ z 0 t' R x y P U O J u 0 0 0 [] 0 k j o))∧(Ext C V V')∧(count≤g)∧(C≤H)∧(c+300*left'≤pos+300*left)∧(A=u.length)∧(D=k.length)∧(X=j.length)∧(el=o.length)∧(left'+1≤left))
def Afm (E:Bool) (N:Nat):Prop:=∀{Γ:Ctx} {K M:Int} (f depth:Int) (Q loop:Int) (pure Z:Int) (pos C:Int) (count left:Int) (call d:Int) (B V:Rs) (hM:MS E Γ f K M Z pos C count left call d B V) (h:0≤depth∧depth≤2∧1≤left∧(pure=0∨pure=1)∧(loop=0∨loop=1)∧(Q=0∨Q=1):=by exact kn),Ok trees N ⟨[f,depth,Q,loop,pure,Z,pos,C,count,left,call,d],[],[B,V],[]⟩ fun zz=>(∃(z o' R y P U J A yk yo yt yw D X el c left':Int),∃(x O yn:List Nat),∃(u k j o:Rs),zz=(0,(⟨[z,o',R,y,P,U,J,A,yk,yo,yt,yw,D,X,el,c,left'],[x,O,yn],[u,k,j,o],[]⟩:Ah))∧(MS E Γ f K M Z c C count left' call d B V)∧(En loop pure (depth+1) Γ Γ left left' (AZ z o' 0 R x y P U O J u yk yo yt yn yw k j o))∧(c+300*left'≤pos+300*left)∧(A=u.length)∧(D=k.length)∧(X=j.length)∧(el=o.length)∧(left'+1≤left))∨(∃(Γ':Ctx),∃(z t' R y P U J A D X el c H g left':Int),∃(x O:List Nat),∃(u k j o V':Rs),zz=(1,(⟨[z,t',R,y,P,U,J,A,D,X,el,c,H,g,left'],[x,O],[u,k,j,o,V'],[]⟩:Ah))∧(MS false Γ' f K M Z c H g left' call d B V')∧(En loop pure (depth+1) Γ Γ' left left' (AZ z 0 t' R x y P U O J u 0 0 0 [] 0 k j o))∧(Ext C V V')∧(count≤g)∧(C≤H)∧(c+300*left'≤pos+300*left)∧(A=u.length)∧(D=k.length)∧(X=j.length)∧(el=o.length)∧(left'+1≤left))
theorem G0.of {E:Bool} {N n:Nat} (H:Afm E N):G0 E N n:=fun {Γ} {K} {M} f depth top loop pure bl pos vl count left call loads B V hM h=>H f depth top loop pure bl pos vl count left call loads B V hM (by have:=h;omega)
def Z8 (E:Bool) (y N:Nat):Prop:=∀{m:Nat} (z:G0 E y m) {Γ:Ctx} {K M:Int} (f depth:Int) (loop pure:Int) (o pos:Int) (j count:Int) (left call loads:Int) (B V:Rs) (A:MS E Γ f K M o pos j count left call loads B V) (h:0≤depth∧depth≤2∧(pure=0∨pure=1)∧(loop=0∨loop=1)∧depth.toNat<m∧pos+300*left+10≤M:=by exact kn),Ok trees N ⟨[f,depth,loop,pure,o,pos,j,count,left,call,loads],[],[B,V],[]⟩ fun x=>(∃(k c left':Int),∃(g:Rs),x=(0,(⟨[k,c,left'],[],[g],[]⟩:Ah))∧(MS E Γ f K M o c j count left' call loads B V)∧(IZ loop pure (depth+1) Γ left left' g)∧(k=g.length)∧(left'≤left)∧(c+300*left'≤pos+300*left+1))∨(∃(k c d left':Int),∃(g u:Rs),x=(1,(⟨[k,c,j,d,left'],[],[g,u],[]⟩:Ah))∧(MS false Γ f K M o c j d left' call loads B u)∧(IZ loop pure (depth+1) Γ left left' g)∧(Ext j V u)∧(count≤d)∧(k=g.length)∧(left'≤left)∧(c+300*left'≤pos+300*left+1))
theorem Aoy {E:Bool} {d a6 bd N8 cG cO be cF bJ bI cx al af:Nat} (hT:trees a6=Z4 d N8 cG cO be cF bJ bI cx al af) (h8:Up N8) (gw:ZB E cG) (aD:Adl E cO) (a5:Sk be) (Z:Adk E cF) (hW:Adj E bJ) (jH:W8 be bI) (cz:Z8 E a6 cx) (eZ:Up al) (dZ:Z8 false bd af) (hx:∀n,G0 E a6 n→G0 false bd n) (n:Nat):G0 E a6 n:=by
 induction n with
 |zero=>intro Γ K M f depth aG loop pure P pos x count left call c B V k h;exact absurd h.2.2.2.2.2.2 (Nat.not_lt_zero _)
 |succ n ih=>
 intro Γ K M f depth aG loop pure P pos x count left call c B V k h
 have ⟨hm,nn,nb,nc,ni,nd,ng,na,nf,nh,nl⟩:=k;have ⟨hB,hl,hvl,H6,hV,hb,hc,hd⟩:=hm;have nj:G 3=40:=rfl;have nk:G 2=12:=rfl;have m9:G (3-1)=12:=rfl
 refine .of (t:=Z4 d N8 cG cO be cF bJ bI cx al af) hT ?_
 unfold Z4
 obtain ⟨_,⟨Q,g,rfl,mQ,mI,mG⟩,G1⟩:=h8 hB hl pos x count (left-1) call c V
 refine ch G1 ?_
 refine eq (Q%14) 0 (fun t2=>?_) fun t2=>?_
 ·obtain ⟨_,⟨iY,t_3,gz,ib,j6,gB,f5,eL,fF,bi,gb,jm,hP,jn,rfl,bU,m1,mM,mO,mW,m5,mX⟩,G3⟩:=gw loop pure (depth+1) P g x count (left-1) call c B V (MS.mv k)
  refine ch G3 ?_
  have ⟨_,_,mP,mT,m7,m4,mL,m2,_,_,_⟩:=bU
  exact Ai ⟨[1,t_3,0,gz,ib,j6,gB,f5,0,0,0,eL,fF,bi,(left-1)],[gb,jm],[hP,[],[],[],jn],[]⟩ (.inr ((⟨iY,_,_,_,_,_,_,_,_,_,_,_,_,_,_,_,_,_,_,_,_,_,_,rfl,(MS.mv bU),AA,AA,kn,kn,kn,kn,kn,kn,kn,kn⟩)))
 refine lt (Q%14) 4 (fun t4=>?_) fun t4=>?_
 ·obtain ⟨_,(⟨f8,fR,fO,fD,dI,b8,fX,fP,f9,rfl,a4,mD,kD,lT⟩|⟨f1,fQ,fG,f3,fM,fZ,ec,ct,eo,a0,fL,fI,fC,fS,rfl,bc,kI,mC,kM,kG,lE,lc⟩),G5⟩:=aD loop pure (depth+1) f P g x count (left-1) call c B V (MS.mv k)
  ·refine ch G5 ?_
   have ⟨_,_,l6,kJ,ld,mj,kr,lx,_,_,_⟩:=a4
   exact Ai ⟨[2,0,0,f8,fR,fO,fD,dI,0,0,0,0,0,0,0,b8,(left-1)],[fX,fP,[]],[f9,[],[],[]],[]⟩ (.inl (⟨_,_,_,_,_,_,_,_,_,_,_,_,_,_,_,_,_,_,_,_,_,_,_,_,rfl,(MS.mv a4),AA,kn,kn,kn,kn,kn,kn⟩))
  refine cm G5 ?_
  refine ch G5 ?_
  have ⟨_,_,ma,lX,lw,mu,mb,l7,_,_,_⟩:=bc
  exact Ai ⟨[1,fQ,0,fG,f3,fM,fZ,ec,0,0,0,ct,eo,a0,(left-1)],[fL,fI],[fC,[],[],[],fS],[]⟩ (.inr ((⟨f1,_,_,_,_,_,_,_,_,_,_,_,_,_,_,_,_,_,_,_,_,_,_,rfl,(MS.mv bc),AA,AA,kn,kn,kn,kn,kn,kn,kn,kn⟩)))
 refine eq (Q%14) 4 (fun t6=>?_) fun t6=>?_
 ·refine gt depth 0 (fun t7=>?_) fun t7=>?_
  ·obtain ⟨_,⟨Zd,ac,ae,aa,R,dv,ab,ad,rfl,mJ,mU,m3,mH⟩,G8⟩:=a5 (k.FC count (left-1)) 3 3 g
   refine ch G8 ?_
   obtain ⟨_,(⟨ai,cJ,U,a1,rfl,ah,mm,lV,ms,lQ⟩|⟨ak,b7,O,X,aV,aj,rfl,ag,mx,lY,ki,mz,lp,kw⟩),G9⟩:=cz @ih f (depth-1) loop pure P dv x count (left-1) call c B V (MS.mv k)
   ·refine ch G9 ?_
    have ⟨_,_,ku,kh,ml,la,mi,kv,_,_,_⟩:=ah
    obtain ⟨_,⟨fA,aF,rfl,lU,kN,l3⟩,iZ⟩:=h8 hB hl cJ x count U call c V
    refine ch iZ ?_
    refine eq (fA%2) 0 (fun j1=>?_) fun j1=>?_
    ·obtain ⟨_,(⟨cQ,bo,a2,eA,rfl,aq,jG,jP,jv,ic⟩|⟨cK,bg,aB,aR,dF,e1,rfl,aC,h0,hK,jj,gU,ke,gh⟩),bY⟩:=cz @ih f (depth-1) loop pure P aF x count U call c B V (MS.mv ah)
     ·refine ch bY ?_
      have ⟨_,_,h9,hh,hL,hp,i8,gW,_,_,_⟩:=aq
      refine de [] ?_
      refine ll 0 [] ?_
      exact Ai ⟨[5,0,0,Zd,ac,ae,aa,R,0,0,0,0,0,ai,cQ,bo,a2],[[],ab,[]],[ad,[],a1,eA],[]⟩ (.inl (⟨_,_,_,_,_,_,_,_,_,_,_,_,_,_,_,_,_,_,_,_,_,_,_,_,rfl,(MS.mv aq),AA,kn,kn,kn,kn,kn,kn⟩))
     refine cm bY ?_
     refine ch bY ?_
     have ⟨_,_,jV,jD,iz,hu,ip,iB,_,_,_⟩:=aC
     refine de [] ?_
     refine ll 0 [] ?_
     exact Ai ⟨[5,0,0,Zd,ac,ae,aa,R,0,ai,cK,bg,x,aB,aR],[[],ab],[ad,[],a1,dF,e1],[]⟩ (.inr ((⟨Γ,_,_,_,_,_,_,_,_,_,_,_,_,_,_,_,_,_,_,_,_,_,_,rfl,(MS.mv aC),AA,AA,kn,kn,kn,kn,kn,kn,kn,kn⟩)))
    refine de [] ?_
    refine ll 0 [] ?_
    exact Ai ⟨[5,0,0,Zd,ac,ae,aa,R,0,0,0,0,0,ai,0,aF,U],[[],ab,[]],[ad,[],a1,[]],[]⟩ (.inl (⟨_,_,_,_,_,_,_,_,_,_,_,_,_,_,_,_,_,_,_,_,_,_,_,_,rfl,(MS.mv ah),AA,kn,kn,kn,kn,kn,kn⟩))
   refine cm G9 ?_
   refine ch G9 ?_
   have ⟨_,_,lj,mw,kj,mt,k1,lg,_,_,_⟩:=ag
   obtain ⟨_,⟨fT,ao,rfl,mf,kA,lL⟩,hS⟩:=eZ hB hl b7 x O X call c aj
   refine ch hS ?_
   refine eq (fT%2) 0 (fun iS=>?_) fun iS=>?_
   ·obtain ⟨_,(⟨bM,bt,aZ,dk,rfl,aE,iA,gl,jg,iL⟩|⟨b5,bA,av,aY,fi,dB,rfl,aI,kd,jz,gi,iP,i1,i5⟩),cc⟩:=dZ (hx _ @ih) f (depth-1) loop pure P ao x O X call c B aj (MS.mv ag)
    ·refine ch cc ?_
     have ⟨_,_,ho,gx,jw,iW,je,h3,_,_,_⟩:=aE
     refine de [] ?_
     refine ll 0 [] ?_
     exact Ai ⟨[5,0,0,Zd,ac,ae,aa,R,0,ak,bM,bt,x,O,aZ],[[],ab],[ad,[],aV,dk,aj],[]⟩ (.inr ((⟨Γ,_,_,_,_,_,_,_,_,_,_,_,_,_,_,_,_,_,_,_,_,_,_,rfl,(MS.mv aE),AA,AA,kn,kn,kn,kn,kn,kn,kn,kn⟩)))
    refine cm cc ?_
    refine ch cc ?_
    have ⟨_,_,im,jk,hX,jF,gO,jM,_,_,_⟩:=aI
    refine de [] ?_
    refine ll 0 [] ?_
    exact Ai ⟨[5,0,0,Zd,ac,ae,aa,R,0,ak,b5,bA,x,av,aY],[[],ab],[ad,[],aV,fi,dB],[]⟩ (.inr ((⟨Γ,_,_,_,_,_,_,_,_,_,_,_,_,_,_,_,_,_,_,_,_,_,_,rfl,(MS.mv aI),AA,AA,kn,kn,kn,kn,kn,kn,kn,kn⟩)))
   refine de [] ?_
   refine ll 0 [] ?_
   exact Ai ⟨[5,0,0,Zd,ac,ae,aa,R,0,ak,0,ao,x,O,X],[[],ab],[ad,[],aV,[],aj],[]⟩ (.inr ((⟨Γ,_,_,_,_,_,_,_,_,_,_,_,_,_,_,_,_,_,_,_,_,_,_,rfl,(MS.mv ag),AA,AA,kn,kn,kn,kn,kn,kn,kn,kn⟩)))
  refine sn pure 0 (fun gG=>?_) fun gG=>?_
  ·obtain ⟨_,⟨cW,dX,eh,fk,es,bL,bR,fz,eK,f2,cV,rfl,bf,mh,kx,kp,km⟩,hF⟩:=Z loop pure (depth+1) P g x count (left-1) call c B V (MS.mv k)
   refine ch hF ?_
   have ⟨_,_,my,kQ,kF,mA,lf,lv,_,_,_⟩:=bf
   exact Ai ⟨[3,0,0,5,17,0,0,cW,dX,eh,fk,es,bL,0,0,bR,(left-1)],[fz,[],eK],[f2,cV,[],[]],[]⟩ (.inl (⟨_,_,_,_,_,_,_,_,_,_,_,_,_,_,_,_,_,_,_,_,_,_,_,_,rfl,(MS.mv bf),AA,kn,kn,kn,kn,kn,kn⟩))
  refine Cp pure 1 ?_
  obtain ⟨_,(⟨ep,ez,fa,ek,cn,bj,fq,fc,d9,rfl,aO,gm,gu,ix⟩|⟨d5,dd,fj,c9,fw,dc,bF,br,bZ,aA,ff,fe,eH,fp,rfl,ay,iO,kf,j8,iy,hN,iC⟩),bC⟩:=aD loop pure (depth+1) f P g x count (left-1) call c B V (MS.mv k)
  ·refine ch bC ?_
   have ⟨_,_,jO,gV,i7,gT,hz,h1,_,_,_⟩:=aO
   exact Ai ⟨[2,0,0,ep,ez,fa,ek,cn,0,0,0,0,0,0,0,bj,(left-1)],[fq,fc,[]],[d9,[],[],[]],[]⟩ (.inl (⟨_,_,_,_,_,_,_,_,_,_,_,_,_,_,_,_,_,_,_,_,_,_,_,_,rfl,(MS.mv aO),AA,kn,kn,kn,kn,kn,kn⟩))
  refine cm bC ?_
  refine ch bC ?_
  have ⟨_,_,i0,ir,j9,h2,h5,hn,_,_,_⟩:=ay
  exact Ai ⟨[1,dd,0,fj,c9,fw,dc,bF,0,0,0,br,bZ,aA,(left-1)],[ff,fe],[eH,[],[],[],fp],[]⟩ (.inr ((⟨d5,_,_,_,_,_,_,_,_,_,_,_,_,_,_,_,_,_,_,_,_,_,_,rfl,(MS.mv ay),AA,AA,kn,kn,kn,kn,kn,kn,kn,kn⟩)))
 refine eq (Q%14) 5 (fun gv=>?_) fun gv=>?_
 ·refine gt depth 0 (fun iq=>?_) fun iq=>?_
  ·obtain ⟨_,⟨cf,cE,cI,cq,a9,cH,b3,bD,rfl,mn,lO,lZ,lM⟩,i6⟩:=a5 (k.FC count (left-1)) 3 3 g
   refine ch i6 ?_
   obtain ⟨_,⟨b4,b0,rfl,mp,lo,kl⟩,jd⟩:=h8 hB hl cH x count (left-1) call c V
   refine ch jd ?_
   obtain ⟨_,(⟨bX,bn,aX,dU,rfl,aQ,hv,jc,hI,jt⟩|⟨cb,bk,aH,aU,dQ,c6,rfl,am,jI,iI,gY,g4,jY,jX⟩),ci⟩:=cz @ih f (depth-1) 1 pure P b0 x count (left-1) call c B V (MS.mv k)
   ·refine ch ci ?_
    have ⟨_,_,iQ,il,jf,gX,iu,h6,_,_,_⟩:=aQ
    refine de [] ?_
    refine ll 0 [] ?_
    exact Ai ⟨[6,0,(1+(b4%4)),cf,cE,cI,cq,a9,0,0,0,0,0,bX,0,bn,aX],[[],b3,[]],[bD,[],dU,[]],[]⟩ (.inl (⟨_,_,_,_,_,_,_,_,_,_,_,_,_,_,_,_,_,_,_,_,_,_,_,_,rfl,(MS.mv aQ),AA,kn,kn,kn,kn,kn,kn⟩))
   refine cm ci ?_
   refine ch ci ?_
   have ⟨_,_,iv,gH,gZ,iH,jb,hC,_,_,_⟩:=am
   refine de [] ?_
   refine ll 0 [] ?_
   exact Ai ⟨[6,0,(1+(b4%4)),cf,cE,cI,cq,a9,0,cb,0,bk,x,aH,aU],[[],b3],[bD,[],dQ,[],c6],[]⟩ (.inr ((⟨Γ,_,_,_,_,_,_,_,_,_,_,_,_,_,_,_,_,_,_,_,_,_,_,rfl,(MS.mv am),AA,AA,kn,kn,kn,kn,kn,kn,kn,kn⟩)))
  refine sn pure 0 (fun js=>?_) fun js=>?_
  ·obtain ⟨_,⟨fu,fd,e6,eO,d3,co,b6,fB,eT,fK,dD,rfl,a3,lI,lb,lS,l8⟩,jq⟩:=Z loop pure (depth+1) P g x count (left-1) call c B V (MS.mv k)
   refine ch jq ?_
   have ⟨_,_,li,kW,k3,mc,lW,me,_,_,_⟩:=a3
   exact Ai ⟨[3,0,0,5,17,0,0,fu,fd,e6,eO,d3,co,0,0,b6,(left-1)],[fB,[],eT],[fK,dD,[],[]],[]⟩ (.inl (⟨_,_,_,_,_,_,_,_,_,_,_,_,_,_,_,_,_,_,_,_,_,_,_,_,rfl,(MS.mv a3),AA,kn,kn,kn,kn,kn,kn⟩))
  refine Cp pure 1 ?_
  obtain ⟨_,(⟨di,d1,db,ft,bQ,bp,d7,ee,dV,rfl,ax,jW,hy,hJ⟩|⟨eI,c2,d0,ed,eN,eG,cD,bx,bE,az,dw,dH,dY,c8,rfl,au,gd,jK,j4,jp,gf,gA⟩),cj⟩:=aD loop pure (depth+1) f P g x count (left-1) call c B V (MS.mv k)
  ·refine ch cj ?_
   have ⟨_,_,jC,iR,gD,iE,i2,gQ,_,_,_⟩:=ax
   exact Ai ⟨[2,0,0,di,d1,db,ft,bQ,0,0,0,0,0,0,0,bp,(left-1)],[d7,ee,[]],[dV,[],[],[]],[]⟩ (.inl (⟨_,_,_,_,_,_,_,_,_,_,_,_,_,_,_,_,_,_,_,_,_,_,_,_,rfl,(MS.mv ax),AA,kn,kn,kn,kn,kn,kn⟩))
  refine cm cj ?_
  refine ch cj ?_
  have ⟨_,_,jZ,io,g6,j7,h7,iV,_,_,_⟩:=au
  exact Ai ⟨[1,c2,0,d0,ed,eN,eG,cD,0,0,0,bx,bE,az,(left-1)],[dw,dH],[dY,[],[],[],c8],[]⟩ (.inr ((⟨eI,_,_,_,_,_,_,_,_,_,_,_,_,_,_,_,_,_,_,_,_,_,_,rfl,(MS.mv au),AA,AA,kn,kn,kn,kn,kn,kn,kn,kn⟩)))
 refine eq (Q%14) 6 (fun hA=>?_) fun hA=>?_
 ·refine sn loop 0 (fun iD=>?_) fun iD=>?_
  ·refine sn pure 0 (fun jx=>?_) fun jx=>?_
   ·obtain ⟨_,⟨ea,dl,eF,d6,eC,b9,cg,fV,eW,fy,ef,rfl,ba,mo,lA,kP,ly⟩,jJ⟩:=Z loop pure (depth+1) P g x count (left-1) call c B V (MS.mv k)
    refine ch jJ ?_
    have ⟨_,_,kE,mE,k8,mB,kz,k7,_,_,_⟩:=ba
    exact Ai ⟨[3,0,0,5,17,0,0,ea,dl,eF,d6,eC,b9,0,0,cg,(left-1)],[fV,[],eW],[fy,ef,[],[]],[]⟩ (.inl (⟨_,_,_,_,_,_,_,_,_,_,_,_,_,_,_,_,_,_,_,_,_,_,_,_,rfl,(MS.mv ba),AA,kn,kn,kn,kn,kn,kn⟩))
   refine Cp pure 1 ?_
   obtain ⟨_,(⟨eU,dN,e9,e3,ce,bz,e8,dt,er,rfl,aJ,jr,ja,jN⟩|⟨dJ,eM,dA,dM,dP,cX,b2,bm,b1,aP,dW,e5,cY,fm,rfl,aw,j2,iJ,ie,iM,jy,ju⟩),bP⟩:=aD loop pure (depth+1) f P g x count (left-1) call c B V (MS.mv k)
   ·refine ch bP ?_
    have ⟨_,_,gp,hq,jL,jQ,ka,hw,_,_,_⟩:=aJ
    exact Ai ⟨[2,0,0,eU,dN,e9,e3,ce,0,0,0,0,0,0,0,bz,(left-1)],[e8,dt,[]],[er,[],[],[]],[]⟩ (.inl (⟨_,_,_,_,_,_,_,_,_,_,_,_,_,_,_,_,_,_,_,_,_,_,_,_,rfl,(MS.mv aJ),AA,kn,kn,kn,kn,kn,kn⟩))
   refine cm bP ?_
   refine ch bP ?_
   have ⟨_,_,hD,gP,he,gM,kg,g9,_,_,_⟩:=aw
   exact Ai ⟨[1,eM,0,dA,dM,dP,cX,b2,0,0,0,bm,b1,aP,(left-1)],[dW,e5],[cY,[],[],[],fm],[]⟩ (.inr ((⟨dJ,_,_,_,_,_,_,_,_,_,_,_,_,_,_,_,_,_,_,_,_,_,_,rfl,(MS.mv aw),AA,AA,kn,kn,kn,kn,kn,kn,kn,kn⟩)))
  refine Cp loop 1 ?_
  obtain ⟨_,⟨fY,cw,rfl,mF,kC,k0⟩,hr⟩:=h8 hB hl g x count (left-1) call c V
  refine ch hr ?_
  refine de [] ?_
  refine ll 0 [] ?_
  exact Ai ⟨[(7+(fY%2)),0,0,0,0,0,0,0,0,0,0,0,0,0,0,cw,(left-1)],[[],[],[]],[[],[],[],[]],[]⟩ (.inl (⟨_,_,_,_,_,_,_,_,_,_,_,_,_,_,_,_,_,_,_,_,_,_,_,_,rfl,(MS.mv k),AA,kn,kn,kn,kn,kn,kn⟩))
 refine sn pure 0 (fun i3=>?_) fun i3=>?_
 ·refine eq (Q%14) 7 (fun iG=>?_) fun iG=>?_
  ·refine sn aG 0 (fun gg=>?_) fun gg=>?_
   ·obtain ⟨_,⟨fo,dx,ei,dC,dz,bW,bS,fU,d4,f7,et,rfl,bb,lN,lu,k2,kY⟩,gS⟩:=Z loop pure (depth+1) P g x count (left-1) call c B V (MS.mv k)
    refine ch gS ?_
    have ⟨_,_,l9,kU,lF,lz,lC,l2,_,_,_⟩:=bb
    exact Ai ⟨[3,0,0,5,17,0,0,fo,dx,ei,dC,dz,bW,0,0,bS,(left-1)],[fU,[],d4],[f7,et,[],[]],[]⟩ (.inl (⟨_,_,_,_,_,_,_,_,_,_,_,_,_,_,_,_,_,_,_,_,_,_,_,_,rfl,(MS.mv bb),AA,kn,kn,kn,kn,kn,kn⟩))
   refine Cp aG 1 ?_
   refine de [] ?_
   refine ll 0 [] ?_
   exact Ai ⟨[10,0,0,0,0,0,0,0,0,0,0,0,0,0,0,g,(left-1)],[[],[],[]],[[],[],[],[]],[]⟩ (.inl (⟨_,_,_,_,_,_,_,_,_,_,_,_,_,_,_,_,_,_,_,_,_,_,_,_,rfl,(MS.mv k),AA,kn,kn,kn,kn,kn,kn⟩))
  refine eq (Q%14) 8 (fun gs=>?_) fun gs=>?_
  ·refine sn aG 0 (fun gy=>?_) fun gy=>?_
   ·obtain ⟨_,⟨dp,d2,eQ,eR,dK,cu,bH,fN,ew,fE,eB,rfl,a8,lP,lG,kZ,kX⟩,jB⟩:=Z loop pure (depth+1) P g x count (left-1) call c B V (MS.mv k)
    refine ch jB ?_
    have ⟨_,_,ky,lB,lR,mg,mr,k6,_,_,_⟩:=a8
    exact Ai ⟨[3,0,0,5,17,0,0,dp,d2,eQ,eR,dK,cu,0,0,bH,(left-1)],[fN,[],ew],[fE,eB,[],[]],[]⟩ (.inl (⟨_,_,_,_,_,_,_,_,_,_,_,_,_,_,_,_,_,_,_,_,_,_,_,_,rfl,(MS.mv a8),AA,kn,kn,kn,kn,kn,kn⟩))
   refine Cp aG 1 ?_
   obtain ⟨_,(⟨cP,e7,em,du,e4,cv,bV,cT,cM,bG,bv,bq,eJ,dR,cS,c4,cy,rfl,ap,hU,gj,gr,j0⟩|⟨ey,dG,ej,dS,e2,eV,cB,bh,cN,aK,cU,dy,cZ,eX,rfl,aM,j5,hE,iN,ht,kb,jT⟩),cR⟩:=hW loop pure (depth+1) f P g x count (left-1) call c B V (MS.mv k)
   ·refine ch cR ?_
    have ⟨_,_,gq,jE,i9,gL,hj,iK,_,_,_⟩:=ap
    exact Ai ⟨[12,cP,0,e7,em,du,e4,cv,bV,cT,cM,bG,bv,0,0,bq,(left-1)],[eJ,dR,cS],[c4,cy,[],[]],[]⟩ (.inl (⟨_,_,_,_,_,_,_,_,_,_,_,_,_,_,_,_,_,_,_,_,_,_,_,_,rfl,(MS.mv ap),AA,kn,kn,kn,kn,kn,kn⟩))
   refine cm cR ?_
   refine ch cR ?_
   have ⟨_,_,gI,gk,gJ,gN,g7,i4,_,_,_⟩:=aM
   exact Ai ⟨[1,dG,0,ej,dS,e2,eV,cB,0,0,0,bh,cN,aK,(left-1)],[cU,dy],[cZ,[],[],[],eX],[]⟩ (.inr ((⟨ey,_,_,_,_,_,_,_,_,_,_,_,_,_,_,_,_,_,_,_,_,_,_,rfl,(MS.mv aM),AA,AA,kn,kn,kn,kn,kn,kn,kn,kn⟩)))
  refine eq (Q%14) 9 (fun hk=>?_) fun hk=>?_
  ·obtain ⟨_,⟨u,bN,z,rfl,kT,kS,lD,lJ⟩,g0⟩:=jH (k.FC count (left-1)) (J8.of (k.FC count (left-1)) (n:=10) @a5) 8 3 g
   refine ch g0 ?_
   obtain ⟨_,⟨Ae1,cC,rfl,kL,kq,k4⟩,jS⟩:=h8 hB hl bN x count (left-1) call c V
   refine ch jS ?_
   obtain ⟨_,⟨C,cp,rfl,kO,kV,ln⟩,hG⟩:=h8 hB hl cC x count (left-1) call c V
   refine ch hG ?_
   obtain ⟨_,⟨N,A,J,y,o,j,H,D,rfl,l4,kR,k5,mq⟩,kc⟩:=a5 (k.FC count (left-1)) 1 3 cp
   refine ch kc ?_
   refine eq (Ae1%2) 0 (fun j3=>?_) fun j3=>?_
   ·refine eq (C%6) 0 (fun gK=>?_) fun gK=>?_
    ·refine de [] ?_
     refine ll 0 [] ?_
     exact Ai ⟨[4,10,0,5,17,0,0,u,N,A,J,y,o,0,0,j,(left-1)],[[97],[],H],[z,D,[],[]],[]⟩ (.inl (⟨_,_,_,_,_,_,_,_,_,_,_,_,_,_,_,_,_,_,_,_,_,_,_,_,rfl,(MS.mv k),AA,kn,kn,kn,kn,kn,kn⟩))
    refine eq (C%6) 1 (fun hR=>?_) fun hR=>?_
    ·refine de [] ?_
     refine ll 0 [] ?_
     exact Ai ⟨[4,22,0,5,17,0,0,u,N,A,J,y,o,0,0,j,(left-1)],[[97],[],H],[z,D,[],[]],[]⟩ (.inl (⟨_,_,_,_,_,_,_,_,_,_,_,_,_,_,_,_,_,_,_,_,_,_,_,_,rfl,(MS.mv k),AA,kn,kn,kn,kn,kn,kn⟩))
    refine eq (C%6) 2 (fun iT=>?_) fun iT=>?_
    ·refine de [] ?_
     refine ll 0 [] ?_
     exact Ai ⟨[4,23,0,5,17,0,0,u,N,A,J,y,o,0,0,j,(left-1)],[[97],[],H],[z,D,[],[]],[]⟩ (.inl (⟨_,_,_,_,_,_,_,_,_,_,_,_,_,_,_,_,_,_,_,_,_,_,_,_,rfl,(MS.mv k),AA,kn,kn,kn,kn,kn,kn⟩))
    refine eq (C%6) 3 (fun jh=>?_) fun jh=>?_
    ·refine de [] ?_
     refine ll 0 [] ?_
     exact Ai ⟨[4,17,0,5,17,0,0,u,N,A,J,y,o,0,0,j,(left-1)],[[97],[],H],[z,D,[],[]],[]⟩ (.inl (⟨_,_,_,_,_,_,_,_,_,_,_,_,_,_,_,_,_,_,_,_,_,_,_,_,rfl,(MS.mv k),AA,kn,kn,kn,kn,kn,kn⟩))
    refine eq (C%6) 4 (fun jA=>?_) fun jA=>?_
    ·refine de [] ?_
     refine ll 0 [] ?_
     exact Ai ⟨[4,18,0,5,17,0,0,u,N,A,J,y,o,0,0,j,(left-1)],[[97],[],H],[z,D,[],[]],[]⟩ (.inl (⟨_,_,_,_,_,_,_,_,_,_,_,_,_,_,_,_,_,_,_,_,_,_,_,_,rfl,(MS.mv k),AA,kn,kn,kn,kn,kn,kn⟩))
    refine BF (C%6) 5 ?_
    refine de [] ?_
    refine ll 0 [] ?_
    exact Ai ⟨[4,19,0,5,17,0,0,u,N,A,J,y,o,0,0,j,(left-1)],[[97],[],H],[z,D,[],[]],[]⟩ (.inl (⟨_,_,_,_,_,_,_,_,_,_,_,_,_,_,_,_,_,_,_,_,_,_,_,_,rfl,(MS.mv k),AA,kn,kn,kn,kn,kn,kn⟩))
   refine BF (Ae1%2) 1 ?_
   refine eq (C%6) 0 (fun gE=>?_) fun gE=>?_
   ·refine de [] ?_
    refine ll 0 [] ?_
    exact Ai ⟨[4,10,0,5,17,0,0,u,N,A,J,y,o,0,0,j,(left-1)],[[115],[],H],[z,D,[],[]],[]⟩ (.inl (⟨_,_,_,_,_,_,_,_,_,_,_,_,_,_,_,_,_,_,_,_,_,_,_,_,rfl,(MS.mv k),AA,kn,kn,kn,kn,kn,kn⟩))
   refine eq (C%6) 1 (fun ii=>?_) fun ii=>?_
   ·refine de [] ?_
    refine ll 0 [] ?_
    exact Ai ⟨[4,22,0,5,17,0,0,u,N,A,J,y,o,0,0,j,(left-1)],[[115],[],H],[z,D,[],[]],[]⟩ (.inl (⟨_,_,_,_,_,_,_,_,_,_,_,_,_,_,_,_,_,_,_,_,_,_,_,_,rfl,(MS.mv k),AA,kn,kn,kn,kn,kn,kn⟩))
   refine eq (C%6) 2 (fun gc=>?_) fun gc=>?_
   ·refine de [] ?_
    refine ll 0 [] ?_
    exact Ai ⟨[4,23,0,5,17,0,0,u,N,A,J,y,o,0,0,j,(left-1)],[[115],[],H],[z,D,[],[]],[]⟩ (.inl (⟨_,_,_,_,_,_,_,_,_,_,_,_,_,_,_,_,_,_,_,_,_,_,_,_,rfl,(MS.mv k),AA,kn,kn,kn,kn,kn,kn⟩))
   refine eq (C%6) 3 (fun jl=>?_) fun jl=>?_
   ·refine de [] ?_
    refine ll 0 [] ?_
    exact Ai ⟨[4,17,0,5,17,0,0,u,N,A,J,y,o,0,0,j,(left-1)],[[115],[],H],[z,D,[],[]],[]⟩ (.inl (⟨_,_,_,_,_,_,_,_,_,_,_,_,_,_,_,_,_,_,_,_,_,_,_,_,rfl,(MS.mv k),AA,kn,kn,kn,kn,kn,kn⟩))
   refine eq (C%6) 4 (fun hQ=>?_) fun hQ=>?_
   ·refine de [] ?_
    refine ll 0 [] ?_
    exact Ai ⟨[4,18,0,5,17,0,0,u,N,A,J,y,o,0,0,j,(left-1)],[[115],[],H],[z,D,[],[]],[]⟩ (.inl (⟨_,_,_,_,_,_,_,_,_,_,_,_,_,_,_,_,_,_,_,_,_,_,_,_,rfl,(MS.mv k),AA,kn,kn,kn,kn,kn,kn⟩))
   refine BF (C%6) 5 ?_
   refine de [] ?_
   refine ll 0 [] ?_
   exact Ai ⟨[4,19,0,5,17,0,0,u,N,A,J,y,o,0,0,j,(left-1)],[[115],[],H],[z,D,[],[]],[]⟩ (.inl (⟨_,_,_,_,_,_,_,_,_,_,_,_,_,_,_,_,_,_,_,_,_,_,_,_,rfl,(MS.mv k),AA,kn,kn,kn,kn,kn,kn⟩))
  refine eq (Q%14) 10 (fun hZ=>?_) fun hZ=>?_
  ·obtain ⟨_,⟨fH,cr,rfl,kt,l5,kH⟩,g8⟩:=h8 hB hl g x count (left-1) call c V
   refine ch g8 ?_
   refine de [] ?_
   refine ll 0 [] ?_
   exact Ai ⟨[11,(1+(fH%2)),0,0,0,0,0,0,0,0,0,0,0,0,0,cr,(left-1)],[[],[],[]],[[],[],[],[]],[]⟩ (.inl (⟨_,_,_,_,_,_,_,_,_,_,_,_,_,_,_,_,_,_,_,_,_,_,_,_,rfl,(MS.mv k),AA,kn,kn,kn,kn,kn,kn⟩))
  obtain ⟨_,⟨eS,e0,dj,fh,eE,cL,bO,f6,eD,ga,fg,rfl,a7,lH,lK,kB,lq⟩,jU⟩:=Z loop pure (depth+1) P g x count (left-1) call c B V (MS.mv k)
  refine ch jU ?_
  have ⟨_,_,kK,lk,lr,k9,ko,l1,_,_,_⟩:=a7
  exact Ai ⟨[3,0,0,5,17,0,0,eS,e0,dj,fh,eE,cL,0,0,bO,(left-1)],[f6,[],eD],[ga,fg,[],[]],[]⟩ (.inl (⟨_,_,_,_,_,_,_,_,_,_,_,_,_,_,_,_,_,_,_,_,_,_,_,_,rfl,(MS.mv a7),AA,kn,kn,kn,kn,kn,kn⟩))
 refine Cp pure 1 ?_
 obtain ⟨_,(⟨dg,dh,c7,c5,cA,bw,eP,en,dT,rfl,aL,hO,jo,ia⟩|⟨eg,c1,eu,eb,fb,fv,bT,bB,cd,aN,eY,dO,c3,dE,rfl,an,hY,ig,hi,gR,gC,gn⟩),bK⟩:=aD loop pure (depth+1) f P g x count (left-1) call c B V (MS.mv k)
 ·refine ch bK ?_
  have ⟨_,_,hH,gF,ij,iX,iF,iw,_,_,_⟩:=aL
  exact Ai ⟨[2,0,0,dg,dh,c7,c5,cA,0,0,0,0,0,0,0,bw,(left-1)],[eP,en,[]],[dT,[],[],[]],[]⟩ (.inl (⟨_,_,_,_,_,_,_,_,_,_,_,_,_,_,_,_,_,_,_,_,_,_,_,_,rfl,(MS.mv aL),AA,kn,kn,kn,kn,kn,kn⟩))
 refine cm bK ?_
 refine ch bK ?_
 have ⟨_,_,iU,g5,h4,ji,ik,jR,_,_,_⟩:=an
 exact Ai ⟨[1,c1,0,eu,eb,fb,fv,bT,0,0,0,bB,cd,aN,(left-1)],[eY,dO],[c3,[],[],[],dE],[]⟩ (.inr ((⟨eg,_,_,_,_,_,_,_,_,_,_,_,_,_,_,_,_,_,_,_,_,_,_,rfl,(MS.mv an),AA,AA,kn,kn,kn,kn,kn,kn,kn,kn⟩)))
theorem VB {E:Bool} {d j k N A D o z H C y g c:Nat} (hT:trees j=Z4 d N A D o z H C y g c) (h8:Up N) (J:ZB E A) (X:Adl E D) (Q:Sk o) (R:Adk E z) (O:Adj E H) (U:W8 o C) (P:Z8 E j y) (u:Up g) (x:Z8 false k c) (Z:∀n,G0 E j n→G0 false k n):Afm E j:=fun {Γ} {K} {M} f depth top loop pure bl pos vl count left call loads B V hM h=>Aoy hT @h8 @J @X @Q @R @O @U @P @u @x Z (depth.toNat+1) f depth top loop pure bl pos vl count left call loads B V hM ⟨h.1,h.2.1,h.2.2.1,h.2.2.2.1,h.2.2.2.2.1,h.2.2.2.2.2,Nat.lt_succ_self _⟩
end Go.Proofs.YtbmofjdmgjpfoaaGreatDoor.Am
end
section
set_option maxHeartbeats 4000000
set_option maxRecDepth 100000
namespace Go.Proofs.YtbmofjdmgjpfoaaGreatDoor.Am
open Go.AM Go.AM.K
theorem AiF:ZB false 14:=by
 intro Γ f K M lo pu D bl pos y count left call u B V k h
 have ⟨hm,an,aq,ax,av,ak,al,ao,aw,au,aj⟩:=k;have ⟨hB,hl,hvl,H6,hV,hb,hc,hd⟩:=hm;have ap:G 3=40:=rfl;have ay:G 2=12:=rfl;have am:G (3-1)=12:=rfl
 refine .of (t:=Aer) rfl ?_
 unfold Aer
 obtain ⟨_,⟨c,j,rfl,Q,aa,ah⟩,G1⟩:=Ma hB hl pos y count left call u V
 refine ch G1 ?_
 obtain ⟨_,⟨H,N,J,C,x,o,O,A,rfl,ab,ad,U,R⟩,G2⟩:=J3 (k.FC count left) (1+(c%3)) 3 j
 refine ch G2 ?_
 obtain ⟨_,⟨g,rfl,P,Z⟩,X⟩:=Amb count
 refine ch X ?_
 refine ca [118] g ?_
 refine dL (V.take y.toNat++[[PV.str ([118]++g),.int .i64 (1+(c%3))]]) (fun z e4=>?_) (BC (pt y V) pe)
 have f4:=cL e4;try simp only [lA,lC,lN,lT']at f4
 refine FM (z.length:Int) 1048576 ?_
 refine de [] ?_
 refine ll 0 [] ?_
 exact Ai ⟨[(1+(c%3)),H,N,J,C,x,0,0,0,o,(z.length:Int),(count+1)],[([118]++g),O],[A,[],[],[],z],[]⟩ (⟨(Γ.Gj ([118]++g) (3,(1+(c%3)),0)),_,_,_,_,_,_,_,_,_,_,_,_,_,rfl,(by subst_vars;exact MS.more k ‹_› om om om),(En.decl (d:=3) k ‹_› ‹_› om),(by subst_vars;exact Ext.more om),kn,om,kn,kn⟩)
theorem AiD:ZB true 20:=by
 intro Γ f K M lo pu D bl pos X count left call u B V k h
 have ⟨hm,an,aq,ay,av,ak,al,ao,ax,au,z⟩:=k;have ⟨hB,hl,hvl,H6,hV,hb,hc,hd⟩:=hm;have ap:G 3=40:=rfl;have az:G 2=12:=rfl;have am:G (3-1)=12:=rfl;have aw:=z rfl
 refine .of (t:=Aeq) rfl ?_
 unfold Aeq
 obtain ⟨_,⟨c,j,rfl,Q,ab,ai⟩,G1⟩:=Zx hB hl pos X count left call u V
 refine ch G1 ?_
 obtain ⟨_,⟨H,N,J,C,x,o,O,A,rfl,ac,ae,U,R⟩,G2⟩:=Wp (k.FC count left) (1+(c%3)) 3 j
 refine ch G2 ?_
 obtain ⟨_,⟨g,rfl,P,aa⟩,Z⟩:=Amb count
 refine ch Z ?_
 refine ca [118] g ?_
 refine dL (V++[[PV.str ([118]++g),.int .i64 (1+(c%3))]]) (fun y e4=>?_) (BC rfl pe)
 have f4:=cL e4;try simp only [lA,lC,lN,lT']at f4
 refine FM (y.length:Int) 1048576 ?_
 refine de [] ?_
 refine ll 0 [] ?_
 exact Ai ⟨[(1+(c%3)),H,N,J,C,x,0,0,0,o,(y.length:Int),(count+1)],[([118]++g),O],[A,[],[],[],y],[]⟩ (⟨(Γ.Gj ([118]++g) (3,(1+(c%3)),0)),_,_,_,_,_,_,_,_,_,_,_,_,_,rfl,(by subst_vars;exact MS.AbN k ‹_› om om om),(En.decl (d:=3) k ‹_› ‹_› om),(by subst_vars;exact Ext.AbN om),kn,om,kn,kn⟩)
theorem Ap1:Adl false 15:=@AeM false 1 15 8 14 16 rfl @Ma @AiF @J3
theorem Apz:Adl true 21:=@AeM true 0 21 9 20 22 rfl @Zx @AiD @Wp
theorem OQ:Adk false 17:=@Al9 false 1 17 8 16 19 rfl @Ma @J3 @AiE
theorem Apy:Adk true 23:=@Al9 true 0 23 9 22 25 rfl @Zx @Wp @AiC
theorem Ap0:Adj false 18:=@AeL false 1 18 8 14 16 rfl @Ma @AiF @J3
theorem Apx:Adj true 24:=@AeL true 0 24 9 20 22 rfl @Zx @AiD @Wp
end Go.Proofs.YtbmofjdmgjpfoaaGreatDoor.Am
end
