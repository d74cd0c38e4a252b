/- Part 15 of the proof of TypesPrefix. -/
import Derived.Test.YtbmofjdmgjpfoaaGreatDoorD11
set_option linter.all false
section
set_option maxHeartbeats 4000000
set_option maxRecDepth 100000
namespace Go.Proofs.YtbmofjdmgjpfoaaGreatDoor.Am
open Go.AM Go.AM.K
def T0 (N:Nat):Prop:=∀{g:Int} {B:Rs} (hB:Dw B) (hl:g=B.length) (pos k:Int) (count left:Int) (call d:Int) (V:Rs) (h:0≤pos∧pos≤1000000:=by exact kn),Ok trees N ⟨[g,pos,k,count,left,call,d],[],[B,V],[]⟩ fun j=>(∃(r c:Int),j=(0,(⟨[r,c],[],[],[]⟩:Ah))∧(c=pos+1)∧(0≤r)∧(r≤255))
theorem Yb {d g:Nat} (q:trees g=T_8 d):T0 g:=by
 intro j B hB hl pos y count left call o V h
 refine .of (t:=T_8 d) q ?_
 unfold T_8
 refine gt (pos+1) j (fun u=>?_) fun u=>?_
 ·exact Aj ⟨[0,(pos+1)],[],[],[]⟩ (⟨_,_,rfl,kn,kn,kn⟩)
 refine CJ ((pos+1)-1) 0 ?_
 refine BD ((pos+1)-1) j ?_
 obtain ⟨k,c,v,x⟩:=PA hB ((pos+1)-1) om om
 refine el c ?_
 exact Aj ⟨[k,(pos+1)],[],[],[]⟩ (⟨_,_,rfl,kn,kn,kn⟩)
theorem LB:T0 8:=@Yb 1 8 rfl
theorem Yu:T0 9:=@Yb 0 9 rfl
def Akq (N:Nat) (Γ:Ctx) (f o:Int) (g count:Int) (left call loads:Int) (B V:Rs) (n:Nat):Prop:=∀(t j pos:Int) (h:0≤j∧j≤g∧(g-j).toNat<n),Ok trees N ⟨[t,j,o,pos,g,count,left,call,loads],[],[B,V],[]⟩ fun k=>(k=(0,v0))∨(∃(c:Int),∃(d:Rs),k=(1,(⟨[c],[],[d],[]⟩:Ah))∧(Ia Γ t d)∧(c=d.length)∧(d.length≤40)∧(0<c))
def AfS (N:Nat):Prop:=∀{Γ:Ctx} {f o:Int} {g count:Int} {left call loads:Int} {B V:Rs} (q:NY Γ f o g count left call loads B V) (t j pos:Int) (h:0≤j∧j≤g:=by exact kn),Ok trees N ⟨[t,j,o,pos,g,count,left,call,loads],[],[B,V],[]⟩ fun k=>(k=(0,v0))∨(∃(c:Int),∃(d:Rs),k=(1,(⟨[c],[],[d],[]⟩:Ah))∧(Ia Γ t d)∧(c=d.length)∧(d.length≤40)∧(0<c))
def Ad9 (N:Nat):Prop:=∀{Γ:Ctx} {f g:Int} {j count:Int} {left call loads:Int} {B V:Rs} (o:NY Γ f g j count left call loads B V) (t pos:Int) (h:0≤pos∧pos≤1000000:=by exact kn),Ok trees N ⟨[t,g,pos,j,count,left,call,loads],[],[B,V],[]⟩ fun d=>(d=(0,v0))∨(∃(c:Int),∃(k:List Nat),d=(1,(⟨[c],[k],[],[]⟩:Ah))∧(PE Γ t k)∧(c=pos+1))
theorem Adh {d u z j:Nat} (P:trees u=Abp d z j) (M:T0 z) (A:AfS j):Ad9 u:=by
 intro Γ f bl N count left call q B V C t pos h
 have ⟨hB,hl,hvl,Hq,hV,hb,hc,hd⟩:=C
 refine .of (t:=Abp d z j) P ?_
 unfold Abp
 obtain ⟨_,(rfl|⟨c,R,rfl,k,J,D,H⟩),y⟩:=A C t 0 pos
 ·refine ch y ?_
  exact Aj v0 (.inl rfl)
 refine cm y ?_
 refine ch y ?_
 refine eq c 0 (fun X=>?_) fun X=>?_
 ·exact Aj v0 (.inl rfl)
 obtain ⟨_,⟨g,o,rfl,Q,O,Z⟩,U⟩:=M hB hl pos N count left call q V
 refine ch U ?_
 have m4:=Int.emod_nonneg g (show c≠0 by omega);have ab:=Int.emod_lt_of_pos g (show 0<c by omega)
 refine CJ (g%c) 0 ?_
 refine BD (g%c) c ?_
 obtain ⟨v,x,aa⟩:=k (g%c) om om
 refine el x ?_
 exact Aj ⟨[o],[v],[],[]⟩ (.inr ((⟨_,_,rfl,fin,kn⟩)))
def Y5 (N:Nat):Prop:=∀{Γ:Ctx} {f q:Int} {u count:Int} {left call loads:Int} {B V:Rs} (z:NY Γ f q u count left call loads B V) (t pos:Int) (h:1≤t∧t≤3∧0≤pos∧pos+2≤1000000:=by exact kn),Ok trees N ⟨[t,q,pos,u,count,left,call,loads],[],[B,V],[]⟩ fun y=>(∃(o j v k d c:Int),∃(x:List Nat),∃(g:Rs),y=(0,(⟨[o,j,v,k,d,c],[x],[g],[]⟩:Ah))∧(Da Γ t 1 o j v k x g)∧(d=g.length)∧(pos≤c)∧(c≤pos+2))
theorem Aa3 {d q x k:Nat} (U:trees q=Abt d x k) (M:T0 x) (y:Ad9 k):Y5 q:=by
 intro Γ f bl R count left call o B V z t pos h
 have ⟨hB,hl,hvl,Hq,hV,hb,hc,hd⟩:=z
 refine .of (t:=Abt d x k) U ?_
 unfold Abt
 obtain ⟨_,⟨g,j,rfl,J,P,H⟩,Z⟩:=M hB hl pos R count left call o V
 refine ch Z ?_
 obtain ⟨_,(rfl|⟨c,u,rfl,A,C⟩),v⟩:=y z t j
 ·refine ch v ?_
  refine eq t 1 (fun Q=>?_) fun Q=>?_
  ·refine eq (g%4) 1 (fun X=>?_) fun X=>?_
   ·refine de [] ?_
    refine ll 0 [] ?_
    exact Aj ⟨[3,(1+((g/4)%7)),0,0,0,j],[[]],[[]],[]⟩ (⟨_,_,_,_,_,_,_,_,rfl,fin,kn,kn,kn⟩)
   refine de [] ?_
   refine ll 0 [] ?_
   exact Aj ⟨[1,0,t,((g%16)-4),0,j],[[]],[[]],[]⟩ (⟨_,_,_,_,_,_,_,_,rfl,fin,kn,kn,kn⟩)
  refine eq t 2 (fun t5=>?_) fun t5=>?_
  ·refine de [] ?_
   refine ll 0 [] ?_
   exact Aj ⟨[1,0,t,((g*16384)-100000),0,j],[[]],[[]],[]⟩ (⟨_,_,_,_,_,_,_,_,rfl,fin,kn,kn,kn⟩)
  refine de [] ?_
  refine ll 0 [] ?_
  exact Aj ⟨[1,0,t,((g/4)%2),0,j],[[]],[[]],[]⟩ (⟨_,_,_,_,_,_,_,_,rfl,fin,kn,kn,kn⟩)
 refine cm v ?_
 refine ch v ?_
 refine eq (g%2) 0 (fun O=>?_) fun O=>?_
 ·refine de [] ?_
  refine ll 0 [] ?_
  exact Aj ⟨[2,0,0,0,0,c],[u],[[]],[]⟩ (⟨_,_,_,_,_,_,_,_,rfl,fin,kn,kn,kn⟩)
 refine eq t 1 (fun t7=>?_) fun t7=>?_
 ·refine eq (g%4) 1 (fun N=>?_) fun N=>?_
  ·refine de [] ?_
   refine ll 0 [] ?_
   exact Aj ⟨[3,(1+((g/4)%7)),0,0,0,c],[[]],[[]],[]⟩ (⟨_,_,_,_,_,_,_,_,rfl,fin,kn,kn,kn⟩)
  refine de [] ?_
  refine ll 0 [] ?_
  exact Aj ⟨[1,0,t,((g%16)-4),0,c],[[]],[[]],[]⟩ (⟨_,_,_,_,_,_,_,_,rfl,fin,kn,kn,kn⟩)
 refine eq t 2 (fun D=>?_) fun D=>?_
 ·refine de [] ?_
  refine ll 0 [] ?_
  exact Aj ⟨[1,0,t,((g*16384)-100000),0,c],[[]],[[]],[]⟩ (⟨_,_,_,_,_,_,_,_,rfl,fin,kn,kn,kn⟩)
 refine de [] ?_
 refine ll 0 [] ?_
 exact Aj ⟨[1,0,t,((g/4)%2),0,c],[[]],[[]],[]⟩ (⟨_,_,_,_,_,_,_,_,rfl,fin,kn,kn,kn⟩)
def Jr (N:Nat) (Γ:Ctx) (f x:Int) (y count:Int) (left call loads:Int) (B V:Rs) (n:Nat):Prop:=∀(t depth pos:Int) (h:1≤t∧t≤3∧depth≤3∧0≤pos∧pos+G depth≤1000000∧depth.toNat<n),Ok trees N ⟨[t,depth,x,pos,y,count,left,call,loads],[],[B,V],[]⟩ fun v=>(∃(o j q k d c:Int),∃(u:List Nat),∃(g:Rs),v=(0,(⟨[o,j,q,k,d,c],[u],[g],[]⟩:Ah))∧(Da Γ t depth o j q k u g)∧(d=g.length)∧(pos≤c)∧(c≤pos+G depth))
def R7 (N:Nat):Prop:=∀{Γ:Ctx} {f q:Int} {u count:Int} {left call loads:Int} {B V:Rs} (z:NY Γ f q u count left call loads B V) (t depth pos:Int) (h:1≤t∧t≤3∧depth≤3∧0≤pos∧pos+G depth≤1000000:=by exact kn),Ok trees N ⟨[t,depth,q,pos,u,count,left,call,loads],[],[B,V],[]⟩ fun y=>(∃(o j v k d c:Int),∃(x:List Nat),∃(g:Rs),y=(0,(⟨[o,j,v,k,d,c],[x],[g],[]⟩:Ah))∧(Da Γ t depth o j v k x g)∧(d=g.length)∧(pos≤c)∧(c≤pos+G depth))
theorem Jr.of {N:Nat} {Γ:Ctx} {f c:Int} {d count:Int} {left call loads:Int} {B V:Rs} (g:NY Γ f c d count left call loads B V) {n:Nat} (H:R7 N):Jr N Γ f c d count left call loads B V n:=fun t depth pos h=>H g t depth pos (by have:=h;omega)
def Vx (q N:Nat):Prop:=∀{m:Nat} {Γ:Ctx} {f j:Int} {o count:Int} {left call loads:Int} {B V:Rs} (x:NY Γ f j o count left call loads B V) (v:Jr q Γ f j o count left call loads B V m) (k depth pos:Int) (h:(k=4∨k=8)∧depth≤3∧¬depth≤1∧depth.toNat≤m∧0≤pos∧pos+G (depth-1)≤1000000:=by exact kn),Ok trees N ⟨[k,depth,j,pos,o,count,left,call,loads],[],[B,V],[]⟩ fun u=>(∃(d c:Int),∃(g:Rs),u=(0,(⟨[d,c],[],[g],[]⟩:Ah))∧(Idx Γ depth g)∧(d=g.length)∧(pos≤c)∧(c≤pos+G (depth-1)))
theorem Om {d j c:Nat} (O:trees j=Abu d c):Vx c j:=by
 intro m Γ f bl vl count left call C B V U o N depth pos h
 have ⟨hB,hl,hvl,Hq,hV,hb,hc,hd⟩:=U;have aa:=He depth;have Z:=KS depth om;have X:=He (depth-1)
 refine .of (t:=Abu d c) O ?_
 unfold Abu
 obtain ⟨_,⟨x,u,v,z,q,g,y,k,rfl,H,M,D,P⟩,R⟩:=o 1 (depth-1) pos kn
 refine ch R ?_
 refine ll q k ?_
 refine dL [[.int .i64 x,.int .i64 u,.int .i64 v,.str y,.int .i32 z,.list 6 k],[.int .i64 1,.int .i64 0,.int .i64 1,.str [],.int .i32 (N-1),.list 6 []]] (fun A J=>?_)
 have Q:=cL J;try simp only [lA,lC,lN,lT']at Q
 refine ll 2 A ?_
 refine fr ?_
 exact Aj ⟨[2,g],[],[A],[]⟩ (⟨_,_,_,rfl,fin,kn,kn,kn⟩)
def Y4 (v N:Nat):Prop:=∀{m:Nat} {Γ:Ctx} {f o:Int} {u count:Int} {left call loads:Int} {B V:Rs} (z:NY Γ f o u count left call loads B V) (y:Jr v Γ f o u count left call loads B V m) (q depth pos:Int) (g:List Nat) (h:(q=4∨q=8)∧depth≤3∧¬depth≤1∧depth.toNat≤m∧0≤pos∧pos+G (depth-1)≤1000000:=by exact kn),Ok trees N ⟨[q,depth,o,pos,u,count,left,call,loads],[g],[B,V],[]⟩ fun x=>(∃(j c:Int),∃(d:List Nat),∃(k:Rs),x=(0,(⟨[j,c],[d],[k],[]⟩:Ah))∧(Tz Γ depth k)∧(d=g)∧(j=k.length)∧(pos≤c)∧(c≤pos+G (depth-1)))
theorem Aiw {d k o c:Nat} (N:trees k=Abo d c) (x:Vx o c):Y4 o k:=by
 intro m Γ f bl Z count left call A B V z q M depth pos v h
 have ⟨hB,hl,hvl,Hq,hV,hb,hc,hd⟩:=z;have X:=He depth;have U:=KS depth om;have R:=He (depth-1)
 refine .of (t:=Abo d c) N ?_
 unfold Abo
 obtain ⟨_,⟨u,g,j,rfl,D,J,C,O⟩,Q⟩:=x z @q M depth pos
 refine ch Q ?_
 refine ll u j ?_
 refine dL [[.int .i64 5,.int .i64 17,.int .i64 0,.str [],.int .i32 0,.list 6 j]] (fun y H=>?_)
 have P:=cL H;try simp only [lA,lC,lN,lT']at P
 refine ll 1 y ?_
 refine fr ?_
 exact Aj ⟨[1,g],[v],[y],[]⟩ (⟨_,_,_,_,rfl,fin,kn,kn,kn,kn⟩)
def Ab4 (q N:Nat):Prop:=∀{m:Nat} {Γ:Ctx} {f j:Int} {o count:Int} {left call loads:Int} {B V:Rs} (D:NY Γ f j o count left call loads B V) (C:Jr q Γ f j o count left call loads B V m) (k depth pos:Int) (h:0≤k∧k≤60∧depth≤3∧¬depth≤1∧depth.toNat≤m∧0≤pos∧pos+G depth≤1000001:=by exact kn),Ok trees N ⟨[k,depth,j,pos,o,count,left,call,loads],[],[B,V],[]⟩ fun A=>(∃(x u y v d c:Int),∃(z:List Nat),∃(g:Rs),A=(0,(⟨[x,u,y,v,d,c],[z],[g],[]⟩:Ah))∧(Da Γ 1 depth x u y v z g)∧(d=g.length)∧(pos≤c)∧(c+1≤pos+G depth))
theorem Aiy {d a4 ae N8 ao ay:Nat} (hT:trees a4=Abs d N8 ae ao ay) (h8:T0 N8) (aV:Y5 ao) (Q:Y4 ae ay):Ab4 ae a4:=by
 intro m Γ f bl vl count left call N B V U u k depth pos h
 have ⟨hB,hl,hvl,Hq,hV,hb,hc,hd⟩:=U;have er:=He depth;have ep:=KS depth om;have eo:=He (depth-1)
 refine .of (t:=Abs d N8 ae ao ay) hT ?_
 unfold Abs
 refine lt (k%18) 12 (fun t1=>?_) fun t1=>?_
 ·obtain ⟨_,⟨z,C,D,A,o,aL,H,c,rfl,d6,ef,d4,d0⟩,G2⟩:=u 1 (depth-1) pos kn
  refine ch G2 ?_
  obtain ⟨_,⟨v,M,x,y,q,j,J,g,rfl,d1,ei,en,ej⟩,G3⟩:=u 1 (depth-1) aL kn
  refine ch G3 ?_
  refine eq (k%18) 0 (fun t4=>?_) fun t4=>?_
  ·refine ll o c ?_
   refine ll q g ?_
   refine dL [[.int .i64 z,.int .i64 C,.int .i64 D,.str H,.int .i32 A,.list 6 c],[.int .i64 v,.int .i64 M,.int .i64 x,.str J,.int .i32 y,.list 6 g]] (fun W5 e5=>?_)
   have f5:=cL e5;try simp only [lA,lC,lN,lT']at f5
   refine ll 2 W5 ?_
   refine fr ?_
   exact Aj ⟨[5,10,0,0,2,j],[[]],[W5],[]⟩ (⟨_,_,_,_,_,_,_,_,rfl,fin,kn,kn,kn⟩)
  refine eq (k%18) 1 (fun t6=>?_) fun t6=>?_
  ·refine ll o c ?_
   refine ll q g ?_
   refine dL [[.int .i64 z,.int .i64 C,.int .i64 D,.str H,.int .i32 A,.list 6 c],[.int .i64 v,.int .i64 M,.int .i64 x,.str J,.int .i32 y,.list 6 g]] (fun W7 e7=>?_)
   have f7:=cL e7;try simp only [lA,lC,lN,lT']at f7
   refine ll 2 W7 ?_
   refine fr ?_
   exact Aj ⟨[5,11,0,0,2,j],[[]],[W7],[]⟩ (⟨_,_,_,_,_,_,_,_,rfl,fin,kn,kn,kn⟩)
  refine eq (k%18) 2 (fun t8=>?_) fun t8=>?_
  ·refine ll o c ?_
   refine ll q g ?_
   refine dL [[.int .i64 z,.int .i64 C,.int .i64 D,.str H,.int .i32 A,.list 6 c],[.int .i64 v,.int .i64 M,.int .i64 x,.str J,.int .i32 y,.list 6 g]] (fun W9 e9=>?_)
   have f9:=cL e9;try simp only [lA,lC,lN,lT']at f9
   refine ll 2 W9 ?_
   refine fr ?_
   exact Aj ⟨[5,12,0,0,2,j],[[]],[W9],[]⟩ (⟨_,_,_,_,_,_,_,_,rfl,fin,kn,kn,kn⟩)
  refine eq (k%18) 3 (fun b1=>?_) fun b1=>?_
  ·refine ll o c ?_
   refine ll q g ?_
   refine dL [[.int .i64 z,.int .i64 C,.int .i64 D,.str H,.int .i32 A,.list 6 c],[.int .i64 v,.int .i64 M,.int .i64 x,.str J,.int .i32 y,.list 6 g]] (fun a5 cF=>?_)
   have cf:=cL cF;try simp only [lA,lC,lN,lT']at cf
   refine ll 2 a5 ?_
   refine fr ?_
   exact Aj ⟨[5,13,0,0,2,j],[[]],[a5],[]⟩ (⟨_,_,_,_,_,_,_,_,rfl,fin,kn,kn,kn⟩)
  refine eq (k%18) 4 (fun cz=>?_) fun cz=>?_
  ·refine ll o c ?_
   refine ll q g ?_
   refine dL [[.int .i64 z,.int .i64 C,.int .i64 D,.str H,.int .i32 A,.list 6 c],[.int .i64 v,.int .i64 M,.int .i64 x,.str J,.int .i32 y,.list 6 g]] (fun aU b9=>?_)
   have cA:=cL b9;try simp only [lA,lC,lN,lT']at cA
   refine ll 2 aU ?_
   refine fr ?_
   exact Aj ⟨[5,14,0,0,2,j],[[]],[aU],[]⟩ (⟨_,_,_,_,_,_,_,_,rfl,fin,kn,kn,kn⟩)
  refine eq (k%18) 5 (fun cn=>?_) fun cn=>?_
  ·refine ll o c ?_
   refine ll q g ?_
   refine dL [[.int .i64 z,.int .i64 C,.int .i64 D,.str H,.int .i32 A,.list 6 c],[.int .i64 v,.int .i64 M,.int .i64 x,.str J,.int .i32 y,.list 6 g]] (fun a8 ct=>?_)
   have cK:=cL ct;try simp only [lA,lC,lN,lT']at cK
   refine ll 2 a8 ?_
   refine fr ?_
   exact Aj ⟨[5,17,0,0,2,j],[[]],[a8],[]⟩ (⟨_,_,_,_,_,_,_,_,rfl,fin,kn,kn,kn⟩)
  refine eq (k%18) 6 (fun cc=>?_) fun cc=>?_
  ·refine ll o c ?_
   refine ll q g ?_
   refine dL [[.int .i64 z,.int .i64 C,.int .i64 D,.str H,.int .i32 A,.list 6 c],[.int .i64 v,.int .i64 M,.int .i64 x,.str J,.int .i32 y,.list 6 g]] (fun aY cQ=>?_)
   have cS:=cL cQ;try simp only [lA,lC,lN,lT']at cS
   refine ll 2 aY ?_
   refine fr ?_
   exact Aj ⟨[5,18,0,0,2,j],[[]],[aY],[]⟩ (⟨_,_,_,_,_,_,_,_,rfl,fin,kn,kn,kn⟩)
  refine eq (k%18) 7 (fun ci=>?_) fun ci=>?_
  ·refine ll o c ?_
   refine ll q g ?_
   refine dL [[.int .i64 z,.int .i64 C,.int .i64 D,.str H,.int .i32 A,.list 6 c],[.int .i64 v,.int .i64 M,.int .i64 x,.str J,.int .i32 y,.list 6 g]] (fun a1 cw=>?_)
   have b2:=cL cw;try simp only [lA,lC,lN,lT']at b2
   refine ll 2 a1 ?_
   refine fr ?_
   exact Aj ⟨[5,19,0,0,2,j],[[]],[a1],[]⟩ (⟨_,_,_,_,_,_,_,_,rfl,fin,kn,kn,kn⟩)
  refine eq (k%18) 8 (fun cP=>?_) fun cP=>?_
  ·refine ll o c ?_
   refine ll q g ?_
   refine dL [[.int .i64 z,.int .i64 C,.int .i64 D,.str H,.int .i32 A,.list 6 c],[.int .i64 v,.int .i64 M,.int .i64 x,.str J,.int .i32 y,.list 6 g]] (fun a2 cN=>?_)
   have cy:=cL cN;try simp only [lA,lC,lN,lT']at cy
   refine ll 2 a2 ?_
   refine fr ?_
   exact Aj ⟨[5,20,0,0,2,j],[[]],[a2],[]⟩ (⟨_,_,_,_,_,_,_,_,rfl,fin,kn,kn,kn⟩)
  refine eq (k%18) 9 (fun cM=>?_) fun cM=>?_
  ·refine ll o c ?_
   refine ll q g ?_
   refine dL [[.int .i64 z,.int .i64 C,.int .i64 D,.str H,.int .i32 A,.list 6 c],[.int .i64 v,.int .i64 M,.int .i64 x,.str J,.int .i32 y,.list 6 g]] (fun aW cB=>?_)
   have bQ:=cL cB;try simp only [lA,lC,lN,lT']at bQ
   refine ll 2 aW ?_
   refine fr ?_
   exact Aj ⟨[5,21,0,0,2,j],[[]],[aW],[]⟩ (⟨_,_,_,_,_,_,_,_,rfl,fin,kn,kn,kn⟩)
  refine eq (k%18) 10 (fun bK=>?_) fun bK=>?_
  ·refine ll o c ?_
   refine ll q g ?_
   refine dL [[.int .i64 z,.int .i64 C,.int .i64 D,.str H,.int .i32 A,.list 6 c],[.int .i64 v,.int .i64 M,.int .i64 x,.str J,.int .i32 y,.list 6 g]] (fun aR bS=>?_)
   have cj:=cL bS;try simp only [lA,lC,lN,lT']at cj
   refine ll 2 aR ?_
   refine fr ?_
   exact Aj ⟨[5,22,0,0,2,j],[[]],[aR],[]⟩ (⟨_,_,_,_,_,_,_,_,rfl,fin,kn,kn,kn⟩)
  refine BI (k%18) 11 ?_
  refine ll o c ?_
  refine ll q g ?_
  refine dL [[.int .i64 z,.int .i64 C,.int .i64 D,.str H,.int .i32 A,.list 6 c],[.int .i64 v,.int .i64 M,.int .i64 x,.str J,.int .i32 y,.list 6 g]] (fun a3 b3=>?_)
  have bZ:=cL b3;try simp only [lA,lC,lN,lT']at bZ
  refine ll 2 a3 ?_
  refine fr ?_
  exact Aj ⟨[5,23,0,0,2,j],[[]],[a3],[]⟩ (⟨_,_,_,_,_,_,_,_,rfl,fin,kn,kn,kn⟩)
 refine eq (k%18) 12 (fun cH=>?_) fun cH=>?_
 ·obtain ⟨_,⟨Adi,bz,bj,bf,aJ,aq,bh,av,rfl,c5,dy,dQ,dC⟩,cg⟩:=u 2 (depth-1) pos kn
  refine ch cg ?_
  refine ll aJ av ?_
  refine dL [[.int .i64 Adi,.int .i64 bz,.int .i64 bj,.str bh,.int .i32 bf,.list 6 av]] (fun a6 b4=>?_)
  have bP:=cL b4;try simp only [lA,lC,lN,lT']at bP
  refine ll 1 a6 ?_
  refine fr ?_
  exact Aj ⟨[4,5,0,0,1,aq],[[]],[a6],[]⟩ (⟨_,_,_,_,_,_,_,_,rfl,fin,kn,kn,kn⟩)
 refine eq (k%18) 13 (fun cJ=>?_) fun cJ=>?_
 ·obtain ⟨_,⟨ab,am,rfl,dS,dg,dz⟩,cp⟩:=h8 hB hl pos vl count left call N V
  refine ch cp ?_
  obtain ⟨_,⟨Z,ad,X,aa,R,P,ac,O,rfl,dt,dx,c7,dT⟩,cv⟩:=u 1 (depth-1) am kn
  refine ch cv ?_
  refine eq (ab%3) 0 (fun ce=>?_) fun ce=>?_
  ·refine ll R O ?_
   refine dL [[.int .i64 Z,.int .i64 ad,.int .i64 X,.str ac,.int .i32 aa,.list 6 O]] (fun aX bX=>?_)
   have bW:=cL bX;try simp only [lA,lC,lN,lT']at bW
   refine ll 1 aX ?_
   refine fr ?_
   exact Aj ⟨[4,1,0,0,1,P],[[]],[aX],[]⟩ (⟨_,_,_,_,_,_,_,_,rfl,fin,kn,kn,kn⟩)
  refine eq (ab%3) 1 (fun cC=>?_) fun cC=>?_
  ·refine ll R O ?_
   refine dL [[.int .i64 Z,.int .i64 ad,.int .i64 X,.str ac,.int .i32 aa,.list 6 O]] (fun a7 cx=>?_)
   have bN:=cL cx;try simp only [lA,lC,lN,lT']at bN
   refine ll 1 a7 ?_
   refine fr ?_
   exact Aj ⟨[4,2,0,0,1,P],[[]],[a7],[]⟩ (⟨_,_,_,_,_,_,_,_,rfl,fin,kn,kn,kn⟩)
  refine BI (ab%3) 2 ?_
  refine ll R O ?_
  refine dL [[.int .i64 Z,.int .i64 ad,.int .i64 X,.str ac,.int .i32 aa,.list 6 O]] (fun aZ bO=>?_)
  have bR:=cL bO;try simp only [lA,lC,lN,lT']at bR
  refine ll 1 aZ ?_
  refine fr ?_
  exact Aj ⟨[4,3,0,0,1,P],[[]],[aZ],[]⟩ (⟨_,_,_,_,_,_,_,_,rfl,fin,kn,kn,kn⟩)
 refine eq (k%18) 14 (fun bL=>?_) fun bL=>?_
 ·refine sn call 0 (fun b0=>?_) fun b0=>?_
  ·refine sn N 0 (fun bY=>?_) fun bY=>?_
   ·obtain ⟨_,⟨bc,bx,bp,bI,aI,aE,br,bG,rfl,db,cV,cU,dB⟩,cE⟩:=aV U 1 pos
    refine ch cE ?_
    exact Aj ⟨[bc,bx,bp,bI,aI,aE],[br],[bG],[]⟩ (⟨_,_,_,_,_,_,_,_,rfl,fin,kn,kn,kn⟩)
   refine Cp N 1 ?_
   refine eq (k%3) 0 (fun cb=>?_) fun cb=>?_
   ·obtain ⟨_,⟨aH,au,ak,a9,rfl,dX,dN,dv,dp,c6⟩,co⟩:=Q U @u 4 depth pos [112]
    refine ch co ?_
    exact Aj ⟨[7,0,0,0,aH,au],[ak],[a9],[]⟩ (⟨_,_,_,_,_,_,_,_,rfl,fin,kn,kn,kn⟩)
   refine eq (k%2) 0 (fun cd=>?_) fun cd=>?_
   ·obtain ⟨_,⟨aF,al,af,bg,rfl,dR,dl,dk,di,c2⟩,cO⟩:=Q U @u 8 depth pos [97]
    refine ch cO ?_
    exact Aj ⟨[7,0,0,0,aF,al],[af],[bg],[]⟩ (⟨_,_,_,_,_,_,_,_,rfl,fin,kn,kn,kn⟩)
   refine BI (k%2) 1 ?_
   obtain ⟨_,⟨aM,ap,aj,bt,rfl,c8,dA,c3,dU,cY⟩,bU⟩:=Q U @u 8 depth pos [115]
   refine ch bU ?_
   exact Aj ⟨[7,0,0,0,aM,ap],[aj],[bt],[]⟩ (⟨_,_,_,_,_,_,_,_,rfl,fin,kn,kn,kn⟩)
  refine Cp call 1 ?_
  obtain ⟨_,⟨bi,ba,bk,bb,aP,az,bw,aD,rfl,dF,cT,dJ,dO⟩,b8⟩:=u 1 (depth-1) pos kn
  refine ch b8 ?_
  obtain ⟨_,⟨bD,bA,bE,bC,aG,an,bn,ax,rfl,dH,dP,dh,dW⟩,cI⟩:=u 1 (depth-1) az kn
  refine ch cI ?_
  refine ll aP aD ?_
  refine ll aG ax ?_
  refine dL [[.int .i64 bi,.int .i64 ba,.int .i64 bk,.str bw,.int .i32 bb,.list 6 aD],[.int .i64 bD,.int .i64 bA,.int .i64 bE,.str bn,.int .i32 bC,.list 6 ax]] (fun a0 bM=>?_)
  have cG:=cL bM;try simp only [lA,lC,lN,lT']at cG
  refine ll 2 a0 ?_
  refine fr ?_
  exact Aj ⟨[8,0,0,0,2,an],[[104]],[a0],[]⟩ (⟨_,_,_,_,_,_,_,_,rfl,fin,kn,kn,kn⟩)
 refine sn N 0 (fun b7=>?_) fun b7=>?_
 ·obtain ⟨_,⟨bm,bo,bq,bv,aQ,aC,bd,bJ,rfl,dY,dK,dj,dc⟩,bT⟩:=aV U 1 pos
  refine ch bT ?_
  exact Aj ⟨[bm,bo,bq,bv,aQ,aC],[bd],[bJ],[]⟩ (⟨_,_,_,_,_,_,_,_,rfl,fin,kn,kn,kn⟩)
 refine Cp N 1 ?_
 refine eq (k%3) 0 (fun cq=>?_) fun cq=>?_
 ·obtain ⟨_,⟨aK,aA,ai,bB,rfl,dw,c4,cW,cZ,dE⟩,bV⟩:=Q U @u 4 depth pos [112]
  refine ch bV ?_
  exact Aj ⟨[7,0,0,0,aK,aA],[ai],[bB],[]⟩ (⟨_,_,_,_,_,_,_,_,rfl,fin,kn,kn,kn⟩)
 refine eq (k%2) 0 (fun cD=>?_) fun cD=>?_
 ·obtain ⟨_,⟨aO,aB,ag,be,rfl,dI,du,dM,dD,dd⟩,cr⟩:=Q U @u 8 depth pos [97]
  refine ch cr ?_
  exact Aj ⟨[7,0,0,0,aO,aB],[ag],[be],[]⟩ (⟨_,_,_,_,_,_,_,_,rfl,fin,kn,kn,kn⟩)
 refine BI (k%2) 1 ?_
 obtain ⟨_,⟨aN,aw,ah,bH,rfl,dG,c9,dV,c1,cX⟩,cR⟩:=Q U @u 8 depth pos [115]
 refine ch cR ?_
 exact Aj ⟨[7,0,0,0,aN,aw],[ah],[bH],[]⟩ (⟨_,_,_,_,_,_,_,_,rfl,fin,kn,kn,kn⟩)
def Ab3 (q N:Nat):Prop:=∀{m:Nat} {Γ:Ctx} {f j:Int} {o count:Int} {left call loads:Int} {B V:Rs} (A:NY Γ f j o count left call loads B V) (z:Jr q Γ f j o count left call loads B V m) (k depth pos:Int) (h:0≤k∧k≤60∧depth≤3∧¬depth≤1∧depth.toNat≤m∧0≤pos∧pos+G depth≤1000001:=by exact kn),Ok trees N ⟨[k,depth,j,pos,o,count,left,call,loads],[],[B,V],[]⟩ fun y=>(∃(v u d c:Int),∃(x:List Nat),∃(g:Rs),y=(0,(⟨[v,u,d,c],[x],[g],[]⟩:Ah))∧(Da Γ 2 depth v u 0 0 x g)∧(d=g.length)∧(pos≤c)∧(c+1≤pos+G depth))
theorem Adi {d aC X N8 al:Nat} (hT:trees aC=Abr d N8 X al) (h8:T0 N8) (bi:Y4 X al):Ab3 X aC:=by
 intro m Γ f bl vl count left call N B V hM u k depth pos h
 have ⟨hB,hl,hvl,Hq,hV,hb,hc,hd⟩:=hM;have ce:=He depth;have cd:=KS depth om;have cc:=He (depth-1)
 refine .of (t:=Abr d N8 X al) hT ?_
 unfold Abr
 refine lt (k%9) 6 (fun t1=>?_) fun t1=>?_
 ·obtain ⟨_,⟨z,C,D,A,o,av,H,c,rfl,bX,b4,bV,bR⟩,G2⟩:=u 2 (depth-1) pos kn
  refine ch G2 ?_
  obtain ⟨_,⟨v,M,x,y,q,j,J,g,rfl,bS,b6,cb,b7⟩,G3⟩:=u 2 (depth-1) av kn
  refine ch G3 ?_
  refine eq (k%9) 0 (fun t4=>?_) fun t4=>?_
  ·refine ll o c ?_
   refine ll q g ?_
   refine dL [[.int .i64 z,.int .i64 C,.int .i64 D,.str H,.int .i32 A,.list 6 c],[.int .i64 v,.int .i64 M,.int .i64 x,.str J,.int .i32 y,.list 6 g]] (fun W5 e5=>?_)
   have f5:=cL e5;try simp only [lA,lC,lN,lT']at f5
   refine ll 2 W5 ?_
   refine fr ?_
   exact Aj ⟨[5,10,2,j],[[]],[W5],[]⟩ (⟨_,_,_,_,_,_,rfl,fin,kn,kn,kn⟩)
  refine eq (k%9) 1 (fun t6=>?_) fun t6=>?_
  ·refine ll o c ?_
   refine ll q g ?_
   refine dL [[.int .i64 z,.int .i64 C,.int .i64 D,.str H,.int .i32 A,.list 6 c],[.int .i64 v,.int .i64 M,.int .i64 x,.str J,.int .i32 y,.list 6 g]] (fun W7 e7=>?_)
   have f7:=cL e7;try simp only [lA,lC,lN,lT']at f7
   refine ll 2 W7 ?_
   refine fr ?_
   exact Aj ⟨[5,11,2,j],[[]],[W7],[]⟩ (⟨_,_,_,_,_,_,rfl,fin,kn,kn,kn⟩)
  refine eq (k%9) 2 (fun t8=>?_) fun t8=>?_
  ·refine ll o c ?_
   refine ll q g ?_
   refine dL [[.int .i64 z,.int .i64 C,.int .i64 D,.str H,.int .i32 A,.list 6 c],[.int .i64 v,.int .i64 M,.int .i64 x,.str J,.int .i32 y,.list 6 g]] (fun W9 e9=>?_)
   have f9:=cL e9;try simp only [lA,lC,lN,lT']at f9
   refine ll 2 W9 ?_
   refine fr ?_
   exact Aj ⟨[5,15,2,j],[[]],[W9],[]⟩ (⟨_,_,_,_,_,_,rfl,fin,kn,kn,kn⟩)
  refine eq (k%9) 3 (fun aW=>?_) fun aW=>?_
  ·refine ll o c ?_
   refine ll q g ?_
   refine dL [[.int .i64 z,.int .i64 C,.int .i64 D,.str H,.int .i32 A,.list 6 c],[.int .i64 v,.int .i64 M,.int .i64 x,.str J,.int .i32 y,.list 6 g]] (fun aF bh=>?_)
   have a3:=cL bh;try simp only [lA,lC,lN,lT']at a3
   refine ll 2 aF ?_
   refine fr ?_
   exact Aj ⟨[5,16,2,j],[[]],[aF],[]⟩ (⟨_,_,_,_,_,_,rfl,fin,kn,kn,kn⟩)
  refine eq (k%9) 4 (fun bb=>?_) fun bb=>?_
  ·refine ll o c ?_
   refine ll q g ?_
   refine dL [[.int .i64 z,.int .i64 C,.int .i64 D,.str H,.int .i32 A,.list 6 c],[.int .i64 v,.int .i64 M,.int .i64 x,.str J,.int .i32 y,.list 6 g]] (fun ay a1=>?_)
   have bc:=cL a1;try simp only [lA,lC,lN,lT']at bc
   refine ll 2 ay ?_
   refine fr ?_
   exact Aj ⟨[5,22,2,j],[[]],[ay],[]⟩ (⟨_,_,_,_,_,_,rfl,fin,kn,kn,kn⟩)
  refine BI (k%9) 5 ?_
  refine ll o c ?_
  refine ll q g ?_
  refine dL [[.int .i64 z,.int .i64 C,.int .i64 D,.str H,.int .i32 A,.list 6 c],[.int .i64 v,.int .i64 M,.int .i64 x,.str J,.int .i32 y,.list 6 g]] (fun aE bj=>?_)
  have a4:=cL bj;try simp only [lA,lC,lN,lT']at a4
  refine ll 2 aE ?_
  refine fr ?_
  exact Aj ⟨[5,23,2,j],[[]],[aE],[]⟩ (⟨_,_,_,_,_,_,rfl,fin,kn,kn,kn⟩)
 refine eq (k%9) 6 (fun a2=>?_) fun a2=>?_
 ·obtain ⟨_,⟨K6,aK,aH,aL,ax,au,aI,ab,rfl,bJ,bF,bx,bt⟩,bm⟩:=u 1 (depth-1) pos kn
  refine ch bm ?_
  refine ll ax ab ?_
  refine dL [[.int .i64 K6,.int .i64 aK,.int .i64 aH,.str aI,.int .i32 aL,.list 6 ab]] (fun aB bo=>?_)
  have bp:=cL bo;try simp only [lA,lC,lN,lT']at bp
  refine ll 1 aB ?_
  refine fr ?_
  exact Aj ⟨[4,4,1,au],[[]],[aB],[]⟩ (⟨_,_,_,_,_,_,rfl,fin,kn,kn,kn⟩)
 refine eq (k%9) 7 (fun a5=>?_) fun a5=>?_
 ·obtain ⟨_,⟨ak,ac,rfl,bv,bK,bI⟩,aR⟩:=h8 hB hl pos vl count left call N V
  refine ch aR ?_
  obtain ⟨_,⟨an,ae,aq,af,Z,R,ah,O,rfl,bL,bA,bC,bM⟩,a7⟩:=u 2 (depth-1) ac kn
  refine ch a7 ?_
  refine eq (ak%2) 0 (fun a9=>?_) fun a9=>?_
  ·refine ll Z O ?_
   refine dL [[.int .i64 an,.int .i64 ae,.int .i64 aq,.str ah,.int .i32 af,.list 6 O]] (fun aD bg=>?_)
   have aP:=cL bg;try simp only [lA,lC,lN,lT']at aP
   refine ll 1 aD ?_
   refine fr ?_
   exact Aj ⟨[4,1,1,R],[[]],[aD],[]⟩ (⟨_,_,_,_,_,_,rfl,fin,kn,kn,kn⟩)
  refine BI (ak%2) 1 ?_
  refine ll Z O ?_
  refine dL [[.int .i64 an,.int .i64 ae,.int .i64 aq,.str ah,.int .i32 af,.list 6 O]] (fun aA bd=>?_)
  have aQ:=cL bd;try simp only [lA,lC,lN,lT']at aQ
  refine ll 1 aA ?_
  refine fr ?_
  exact Aj ⟨[4,3,1,R],[[]],[aA],[]⟩ (⟨_,_,_,_,_,_,rfl,fin,kn,kn,kn⟩)
 refine sn N 0 (fun aN=>?_) fun aN=>?_
 ·obtain ⟨_,⟨ai,aj,rfl,bB,bG,br⟩,bn⟩:=h8 hB hl pos vl count left call 0 V
  refine ch bn ?_
  obtain ⟨_,⟨Aa3,ag,ao,ap,U,Q,am,P,rfl,bz,bP,bE,bH⟩,aU⟩:=u 2 (depth-1) aj kn
  refine ch aU ?_
  refine eq (ai%2) 0 (fun bk=>?_) fun bk=>?_
  ·refine ll U P ?_
   refine dL [[.int .i64 Aa3,.int .i64 ag,.int .i64 ao,.str am,.int .i32 ap,.list 6 P]] (fun az aV=>?_)
   have be:=cL aV;try simp only [lA,lC,lN,lT']at be
   refine ll 1 az ?_
   refine fr ?_
   exact Aj ⟨[4,1,1,Q],[[]],[az],[]⟩ (⟨_,_,_,_,_,_,rfl,fin,kn,kn,kn⟩)
  refine BI (ai%2) 1 ?_
  refine ll U P ?_
  refine dL [[.int .i64 Aa3,.int .i64 ag,.int .i64 ao,.str am,.int .i32 ap,.list 6 P]] (fun aG aX=>?_)
  have aO:=cL aX;try simp only [lA,lC,lN,lT']at aO
  refine ll 1 aG ?_
  refine fr ?_
  exact Aj ⟨[4,3,1,Q],[[]],[aG],[]⟩ (⟨_,_,_,_,_,_,rfl,fin,kn,kn,kn⟩)
 refine Cp N 1 ?_
 obtain ⟨_,⟨aw,ad,aa,aJ,rfl,bw,bD,bN,bq,bO⟩,a6⟩:=bi hM @u 4 depth pos [102]
 refine ch a6 ?_
 exact Aj ⟨[7,0,aw,ad],[aa],[aJ],[]⟩ (⟨_,_,_,_,_,_,rfl,fin,kn,kn,kn⟩)
def Ab2 (q N:Nat):Prop:=∀{m:Nat} {Γ:Ctx} {f j:Int} {o count:Int} {left call loads:Int} {B V:Rs} (A:NY Γ f j o count left call loads B V) (z:Jr q Γ f j o count left call loads B V m) (k depth pos:Int) (h:0≤k∧k≤60∧depth≤3∧¬depth≤1∧depth.toNat≤m∧0≤pos∧pos+G depth≤1000001:=by exact kn),Ok trees N ⟨[k,depth,j,pos,o,count,left,call,loads],[],[B,V],[]⟩ fun y=>(∃(v u d c:Int),∃(x:List Nat),∃(g:Rs),y=(0,(⟨[v,u,d,c],[x],[g],[]⟩:Ah))∧(Da Γ 3 depth v u 0 0 x g)∧(d=g.length)∧(pos≤c)∧(c+1≤pos+G depth))
theorem Aix {d aJ aj N8 au:Nat} (hT:trees aJ=Abq d N8 aj au) (h8:T0 N8) (bH:Y4 aj au):Ab2 aj aJ:=by
 intro m Γ f bl vl count left call y B V hM v k depth pos h
 have ⟨hB,hl,hvl,Hq,hV,hb,hc,hd⟩:=hM;have cK:=He depth;have cJ:=KS depth om;have cI:=He (depth-1)
 refine .of (t:=Abq d N8 aj au) hT ?_
 unfold Abq
 refine lt (k%9) 4 (fun t1=>?_) fun t1=>?_
 ·obtain ⟨_,⟨aK,az,rfl,cn,cA,ci⟩,G2⟩:=h8 hB hl pos vl count left call y V
  refine ch G2 ?_
  obtain ⟨_,⟨ab,ax,rfl,ce,cD,cG⟩,G3⟩:=h8 hB hl az vl count left call y V
  refine ch G3 ?_
  obtain ⟨_,⟨ah,ac,Z,X,C,aB,aa,o,rfl,cE,cd,co,cx⟩,G4⟩:=v (1+(aK%2)) (depth-1) ax kn
  refine ch G4 ?_
  obtain ⟨_,⟨af,ad,ai,ae,A,u,ag,j,rfl,cy,cr,cC,cB⟩,G5⟩:=v (1+(aK%2)) (depth-1) aB kn
  refine ch G5 ?_
  refine eq (ab%6) 0 (fun t6=>?_) fun t6=>?_
  ·refine ll C o ?_
   refine ll A j ?_
   refine dL [[.int .i64 ah,.int .i64 ac,.int .i64 Z,.str aa,.int .i32 X,.list 6 o],[.int .i64 af,.int .i64 ad,.int .i64 ai,.str ag,.int .i32 ae,.list 6 j]] (fun W7 e7=>?_)
   have f7:=cL e7;try simp only [lA,lC,lN,lT']at f7
   refine ll 2 W7 ?_
   refine fr ?_
   exact Aj ⟨[5,24,2,u],[[]],[W7],[]⟩ (⟨_,_,_,_,_,_,rfl,fin,kn,kn,kn⟩)
  refine eq (ab%6) 1 (fun t8=>?_) fun t8=>?_
  ·refine ll C o ?_
   refine ll A j ?_
   refine dL [[.int .i64 ah,.int .i64 ac,.int .i64 Z,.str aa,.int .i32 X,.list 6 o],[.int .i64 af,.int .i64 ad,.int .i64 ai,.str ag,.int .i32 ae,.list 6 j]] (fun W9 e9=>?_)
   have f9:=cL e9;try simp only [lA,lC,lN,lT']at f9
   refine ll 2 W9 ?_
   refine fr ?_
   exact Aj ⟨[5,25,2,u],[[]],[W9],[]⟩ (⟨_,_,_,_,_,_,rfl,fin,kn,kn,kn⟩)
  refine eq (ab%6) 2 (fun bb=>?_) fun bb=>?_
  ·refine ll C o ?_
   refine ll A j ?_
   refine dL [[.int .i64 ah,.int .i64 ac,.int .i64 Z,.str aa,.int .i32 X,.list 6 o],[.int .i64 af,.int .i64 ad,.int .i64 ai,.str ag,.int .i32 ae,.list 6 j]] (fun aL bG=>?_)
   have bk:=cL bG;try simp only [lA,lC,lN,lT']at bk
   refine ll 2 aL ?_
   refine fr ?_
   exact Aj ⟨[5,26,2,u],[[]],[aL],[]⟩ (⟨_,_,_,_,_,_,rfl,fin,kn,kn,kn⟩)
  refine eq (ab%6) 3 (fun bB=>?_) fun bB=>?_
  ·refine ll C o ?_
   refine ll A j ?_
   refine dL [[.int .i64 ah,.int .i64 ac,.int .i64 Z,.str aa,.int .i32 X,.list 6 o],[.int .i64 af,.int .i64 ad,.int .i64 ai,.str ag,.int .i32 ae,.list 6 j]] (fun aE bj=>?_)
   have bC:=cL bj;try simp only [lA,lC,lN,lT']at bC
   refine ll 2 aE ?_
   refine fr ?_
   exact Aj ⟨[5,27,2,u],[[]],[aE],[]⟩ (⟨_,_,_,_,_,_,rfl,fin,kn,kn,kn⟩)
  refine eq (ab%6) 4 (fun bq=>?_) fun bq=>?_
  ·refine ll C o ?_
   refine ll A j ?_
   refine dL [[.int .i64 ah,.int .i64 ac,.int .i64 Z,.str aa,.int .i32 X,.list 6 o],[.int .i64 af,.int .i64 ad,.int .i64 ai,.str ag,.int .i32 ae,.list 6 j]] (fun aO bw=>?_)
   have bM:=cL bw;try simp only [lA,lC,lN,lT']at bM
   refine ll 2 aO ?_
   refine fr ?_
   exact Aj ⟨[5,28,2,u],[[]],[aO],[]⟩ (⟨_,_,_,_,_,_,rfl,fin,kn,kn,kn⟩)
  refine BI (ab%6) 5 ?_
  refine ll C o ?_
  refine ll A j ?_
  refine dL [[.int .i64 ah,.int .i64 ac,.int .i64 Z,.str aa,.int .i32 X,.list 6 o],[.int .i64 af,.int .i64 ad,.int .i64 ai,.str ag,.int .i32 ae,.list 6 j]] (fun aG bo=>?_)
  have bF:=cL bo;try simp only [lA,lC,lN,lT']at bF
  refine ll 2 aG ?_
  refine fr ?_
  exact Aj ⟨[5,29,2,u],[[]],[aG],[]⟩ (⟨_,_,_,_,_,_,rfl,fin,kn,kn,kn⟩)
 refine lt (k%9) 6 (fun bf=>?_) fun bf=>?_
 ·obtain ⟨_,⟨O,am,rfl,b5,bO,bY⟩,a7⟩:=h8 hB hl pos vl count left call y V
  refine ch a7 ?_
  obtain ⟨_,⟨Om,P,J,R,x,an,M,c,rfl,bR,b4,b2,bP⟩,a8⟩:=v 3 (depth-1) am kn
  refine ch a8 ?_
  obtain ⟨_,⟨Q,D,U,H,z,q,N,g,rfl,b7,bS,bU,b8⟩,bt⟩:=v 3 (depth-1) an kn
  refine ch bt ?_
  refine eq (O%5) 0 (fun bz=>?_) fun bz=>?_
  ·refine ll x c ?_
   refine ll z g ?_
   refine dL [[.int .i64 Om,.int .i64 P,.int .i64 J,.str M,.int .i32 R,.list 6 c],[.int .i64 Q,.int .i64 D,.int .i64 U,.str N,.int .i32 H,.list 6 g]] (fun aH bE=>?_)
   have a4:=cL bE;try simp only [lA,lC,lN,lT']at a4
   refine ll 2 aH ?_
   refine fr ?_
   exact Aj ⟨[5,17,2,q],[[]],[aH],[]⟩ (⟨_,_,_,_,_,_,rfl,fin,kn,kn,kn⟩)
  refine eq (O%5) 1 (fun bi=>?_) fun bi=>?_
  ·refine ll x c ?_
   refine ll z g ?_
   refine dL [[.int .i64 Om,.int .i64 P,.int .i64 J,.str M,.int .i32 R,.list 6 c],[.int .i64 Q,.int .i64 D,.int .i64 U,.str N,.int .i32 H,.list 6 g]] (fun aC bp=>?_)
   have bK:=cL bp;try simp only [lA,lC,lN,lT']at bK
   refine ll 2 aC ?_
   refine fr ?_
   exact Aj ⟨[5,18,2,q],[[]],[aC],[]⟩ (⟨_,_,_,_,_,_,rfl,fin,kn,kn,kn⟩)
  refine eq (O%5) 2 (fun bN=>?_) fun bN=>?_
  ·refine ll x c ?_
   refine ll z g ?_
   refine dL [[.int .i64 Om,.int .i64 P,.int .i64 J,.str M,.int .i32 R,.list 6 c],[.int .i64 Q,.int .i64 D,.int .i64 U,.str N,.int .i32 H,.list 6 g]] (fun aI bc=>?_)
   have ba:=cL bc;try simp only [lA,lC,lN,lT']at ba
   refine ll 2 aI ?_
   refine fr ?_
   exact Aj ⟨[5,19,2,q],[[]],[aI],[]⟩ (⟨_,_,_,_,_,_,rfl,fin,kn,kn,kn⟩)
  refine eq (O%5) 3 (fun bJ=>?_) fun bJ=>?_
  ·refine ll x c ?_
   refine ll z g ?_
   refine dL [[.int .i64 Om,.int .i64 P,.int .i64 J,.str M,.int .i32 R,.list 6 c],[.int .i64 Q,.int .i64 D,.int .i64 U,.str N,.int .i32 H,.list 6 g]] (fun aF a9=>?_)
   have bD:=cL a9;try simp only [lA,lC,lN,lT']at bD
   refine ll 2 aF ?_
   refine fr ?_
   exact Aj ⟨[5,24,2,q],[[]],[aF],[]⟩ (⟨_,_,_,_,_,_,rfl,fin,kn,kn,kn⟩)
  refine BI (O%5) 4 ?_
  refine ll x c ?_
  refine ll z g ?_
  refine dL [[.int .i64 Om,.int .i64 P,.int .i64 J,.str M,.int .i32 R,.list 6 c],[.int .i64 Q,.int .i64 D,.int .i64 U,.str N,.int .i32 H,.list 6 g]] (fun aN bd=>?_)
  have a5:=cL bd;try simp only [lA,lC,lN,lT']at a5
  refine ll 2 aN ?_
  refine fr ?_
  exact Aj ⟨[5,25,2,q],[[]],[aN],[]⟩ (⟨_,_,_,_,_,_,rfl,fin,kn,kn,kn⟩)
 refine lt (k%9) 8 (fun bL=>?_) fun bL=>?_
 ·obtain ⟨_,⟨a1,aR,aW,aX,aA,al,aQ,ap,rfl,b9,bZ,b1,cb⟩,br⟩:=v 3 (depth-1) pos kn
  refine ch br ?_
  refine ll aA ap ?_
  refine dL [[.int .i64 a1,.int .i64 aR,.int .i64 aW,.str aQ,.int .i32 aX,.list 6 ap]] (fun aD bI=>?_)
  have bh:=cL bI;try simp only [lA,lC,lN,lT']at bh
  refine ll 1 aD ?_
  refine fr ?_
  exact Aj ⟨[4,2,1,al],[[]],[aD],[]⟩ (⟨_,_,_,_,_,_,rfl,fin,kn,kn,kn⟩)
 refine sn y 0 (fun bm=>?_) fun bm=>?_
 ·obtain ⟨_,⟨Adh,aP,a0,a3,ay,aq,a2,av,rfl,cc,bX,bQ,bT⟩,bv⟩:=v 3 (depth-1) pos kn
  refine ch bv ?_
  refine ll ay av ?_
  refine dL [[.int .i64 Adh,.int .i64 aP,.int .i64 a0,.str a2,.int .i32 a3,.list 6 av]] (fun aM bn=>?_)
  have a6:=cL bn;try simp only [lA,lC,lN,lT']at a6
  refine ll 1 aM ?_
  refine fr ?_
  exact Aj ⟨[4,2,1,aq],[[]],[aM],[]⟩ (⟨_,_,_,_,_,_,rfl,fin,kn,kn,kn⟩)
 refine Cp y 1 ?_
 obtain ⟨_,⟨aw,ao,ak,aV,rfl,b3,bW,bV,b6,b0⟩,bg⟩:=bH hM @v 4 depth pos [98]
 refine ch bg ?_
 exact Aj ⟨[7,0,aw,ao],[ak],[aV],[]⟩ (⟨_,_,_,_,_,_,rfl,fin,kn,kn,kn⟩)
theorem Ali {d g N8 y x z v:Nat} (hT:trees g=Yx d N8 g y x z v) (h8:T0 N8) (U:Y5 y) (aH:Ab4 g x) (aD:Ab3 g z) (aF:Ab2 g v) {Γ:Ctx} {f bl:Int} {vl count:Int} {left call loads:Int} {B V:Rs} (k:NY Γ f bl vl count left call loads B V) (n:Nat):Jr g Γ f bl vl count left call loads B V n:=by
 induction n with
 |zero=>intro t depth pos h;exact absurd h.2.2.2.2.2 (Nat.not_lt_zero _)
 |succ n ih=>
 intro t depth pos h
 have ⟨hB,hl,hvl,Hq,hV,hb,hc,hd⟩:=k;have bY:=He depth;have bX:=KS depth om;have bW:=He (depth-1)
 refine .of (t:=Yx d N8 g y x z v) hT ?_
 unfold Yx
 obtain ⟨_,⟨j,c,rfl,bS,bo,bx⟩,G1⟩:=h8 hB hl pos vl count left call loads V
 refine ch G1 ?_
 refine le depth 1 (fun t2=>?_) fun t2=>?_
 ·obtain ⟨_,⟨aR,a7,aW,aB,al,A,aN,a0,rfl,bH,bz,bF,bB⟩,G3⟩:=U k t c
  refine ch G3 ?_
  exact Aj ⟨[aR,a7,aW,aB,al,A],[aN],[a0],[]⟩ (⟨_,_,_,_,_,_,_,_,rfl,fin,kn,kn,kn⟩)
 refine eq (j%5) 0 (fun t4=>?_) fun t4=>?_
 ·obtain ⟨_,⟨a2,aY,a6,aE,au,M,aK,az,rfl,bN,bn,bv,bR⟩,G5⟩:=U k t c
  refine ch G5 ?_
  exact Aj ⟨[a2,aY,a6,aE,au,M],[aK],[az],[]⟩ (⟨_,_,_,_,_,_,_,_,rfl,fin,kn,kn,kn⟩)
 refine eq (j%5) 1 (fun t6=>?_) fun t6=>?_
 ·obtain ⟨_,⟨aA,aI,aL,a5,ap,D,aw,R,rfl,bq,bV,bw,bJ⟩,G7⟩:=ih 3 (depth-1) c kn
  refine ch G7 ?_
  obtain ⟨_,⟨Yb,a3,aU,aM,ad,H,aZ,X,rfl,bC,bA,bU,bO⟩,G8⟩:=ih t (depth-1) D kn
  refine ch G8 ?_
  obtain ⟨_,⟨aC,aX,aG,a4,ah,C,av,Q,rfl,bt,br,bK,bL⟩,G9⟩:=ih t (depth-1) H kn
  refine ch G9 ?_
  refine ll ap R ?_
  refine ll ad X ?_
  refine ll ah Q ?_
  refine dL [[.int .i64 aA,.int .i64 aI,.int .i64 aL,.str aw,.int .i32 a5,.list 6 R],[.int .i64 Yb,.int .i64 a3,.int .i64 aU,.str aZ,.int .i32 aM,.list 6 X],[.int .i64 aC,.int .i64 aX,.int .i64 aG,.str av,.int .i32 a4,.list 6 Q]] (fun P aV=>?_)
  have aQ:=cL aV;try simp only [lA,lC,lN,lT']at aQ
  refine ll 3 P ?_
  refine fr ?_
  exact Aj ⟨[6,0,0,0,3,C],[[]],[P],[]⟩ (⟨_,_,_,_,_,_,_,_,rfl,fin,kn,kn,kn⟩)
 refine eq t 1 (fun ay=>?_) fun ay=>?_
 ·obtain ⟨_,⟨U5,am,ao,ab,N,q,ai,aj,rfl,be,bi,bg,bh⟩,aP⟩:=aH k @ih (j/5) depth c
  refine ch aP ?_
  exact Aj ⟨[U5,am,ao,ab,N,q],[ai],[aj],[]⟩ (⟨_,_,_,_,_,_,_,_,rfl,fin,kn,kn,kn⟩)
 refine eq t 2 (fun a1=>?_) fun a1=>?_
 ·obtain ⟨_,⟨aa,aq,J,o,Z,ae,rfl,bf,bc,bd,a8⟩,ax⟩:=aD k @ih (j/5) depth c
  refine ch ax ?_
  exact Aj ⟨[aa,aq,0,0,J,o],[Z],[ae],[]⟩ (⟨_,_,_,_,_,_,_,_,rfl,fin,kn,kn,kn⟩)
 obtain ⟨_,⟨Adk,ac,O,u,ag,ak,rfl,ba,bj,bb,a9⟩,aO⟩:=aF k @ih (j/5) depth c
 refine ch aO ?_
 exact Aj ⟨[Adk,ac,0,0,O,u],[ag],[ak],[]⟩ (⟨_,_,_,_,_,_,_,_,rfl,fin,kn,kn,kn⟩)
theorem K6 {d c u o j g k:Nat} (z:trees c=Yx d u c o j g k) (A:T0 u) (v:Y5 o) (x:Ab4 c j) (q:Ab3 c g) (y:Ab2 c k):R7 c:=fun {Γ} {f} {bl} {vl} {count} {left} {call} {loads} {B} {V} hM t depth pos h=>Ali z @A @v @x @q @y hM (depth.toNat+1) t depth pos ⟨h.1,h.2.1,h.2.2.1,h.2.2.2.1,h.2.2.2.2,Nat.lt_succ_self _⟩
end Go.Proofs.YtbmofjdmgjpfoaaGreatDoor.Am
end
section
set_option maxHeartbeats 4000000
set_option maxRecDepth 100000
namespace Go.Proofs.YtbmofjdmgjpfoaaGreatDoor.Am
open Go.AM Go.AM.K
def Ans (N:Nat) (Γ:Ctx) (f q:Int) (k count:Int) (left call loads:Int) (B V:Rs) (n:Nat):Prop:=∀(t g:Int) (j pos:Int) (L:Rs) (u:Ia Γ t L) (h:0≤j∧j≤k∧g=L.length∧L.length≤j∧0<g∧(k-j).toNat<n),Ok trees N ⟨[t,g,j,q,pos,k,count,left,call,loads],[],[B,L,V],[]⟩ fun o=>(o=(0,v0))∨(∃(c:Int),∃(d:Rs),o=(1,(⟨[c],[],[d],[]⟩:Ah))∧(Ia Γ t d)∧(c=d.length)∧(d.length≤40)∧(0<c))
def AmX (N:Nat):Prop:=∀{Γ:Ctx} {f q:Int} {k count:Int} {left call loads:Int} {B V:Rs} (v:NY Γ f q k count left call loads B V) (t g:Int) (j pos:Int) (L:Rs) (u:Ia Γ t L) (h:0≤j∧j≤k∧g=L.length∧L.length≤j∧0<g:=by exact kn),Ok trees N ⟨[t,g,j,q,pos,k,count,left,call,loads],[],[B,L,V],[]⟩ fun o=>(o=(0,v0))∨(∃(c:Int),∃(d:Rs),o=(1,(⟨[c],[],[d],[]⟩:Ah))∧(Ia Γ t d)∧(c=d.length)∧(d.length≤40)∧(0<c))
theorem XL {Γ:Ctx} {f A:Int} {q count:Int} {left call loads:Int} {B V:Rs} (hM:NY Γ f A q count left call loads B V) (n:Nat):Ans 40 Γ f A q count left call loads B V n:=by
 induction n with
 |zero=>intro t o j pos L X h;exact absurd h.2.2.2.2.2 (Nat.not_lt_zero _)
 |succ n ih=>
 intro t o j pos L X h
 have ⟨hB,hl,hvl,Hq,hV,hb,hc,hd⟩:=hM
 refine .of (t:=AcE) rfl ?_
 unfold AcE
 refine lt j q (fun t1=>?_) fun t1=>?_
 ·refine CJ j 0 ?_
  obtain ⟨u,t_1,v,ae,U,R,ab⟩:=hV j om om
  refine el v ?_
  refine eq t_1 t (fun t3=>?_) fun t3=>?_
  ·refine dL (L++[[PV.str u]]) (fun c Q=>?_) (BG (pw o L) pe)
   have Z:=cL Q;try simp only [lA,lC,lN,lT']at Z
   refine FA (c.length:Int) 1048576 ?_
   obtain ⟨_,(rfl|⟨d,y,rfl,N,H,P,O⟩),z⟩:=ih t (c.length:Int) (j+1) pos c (by exact fin) kn
   ·refine ch z ?_
    exact Aj ⟨[(c.length:Int)],[],[c],[]⟩ (.inr ((⟨_,_,rfl,fin,kn,kn,kn⟩)))
   refine cm z ?_
   refine ch z ?_
   exact Aj ⟨[d],[],[y],[]⟩ (.inr ((⟨_,_,rfl,fin,kn,kn,kn⟩)))
  obtain ⟨_,(rfl|⟨g,k,rfl,D,M,C,J⟩),x⟩:=ih t o (j+1) pos L (by exact fin) kn
  ·refine ch x ?_
   exact Aj v0 (.inl rfl)
  refine cm x ?_
  refine ch x ?_
  exact Aj ⟨[g],[],[k],[]⟩ (.inr ((⟨_,_,rfl,fin,kn,kn,kn⟩)))
 exact Aj v0 (.inl rfl)
theorem AlQ:AmX 40:=fun {Γ} {f} {bl} {vl} {count} {left} {call} {loads} {B} {V} hM t ln j pos L hL h=>XL hM ((vl-j).toNat+1) t ln j pos L hL ⟨h.1,h.2.1,h.2.2.1,h.2.2.2.1,h.2.2.2.2,Nat.lt_succ_self _⟩
theorem Alh {Γ:Ctx} {f A:Int} {o count:Int} {left call loads:Int} {B V:Rs} (z:NY Γ f A o count left call loads B V) (n:Nat):Akq 38 Γ f A o count left call loads B V n:=by
 induction n with
 |zero=>intro t j pos h;exact absurd h.2.2 (Nat.not_lt_zero _)
 |succ n ih=>
 intro t j pos h
 have ⟨hB,hl,hvl,Hq,hV,hb,hc,hd⟩:=z
 refine .of (t:=AcG) rfl ?_
 unfold AcG
 refine lt j o (fun t1=>?_) fun t1=>?_
 ·refine CJ j 0 ?_
  obtain ⟨q,t_1,u,ac,U,R,aa⟩:=hV j om om
  refine el u ?_
  refine eq t_1 t (fun Z=>?_) fun Z=>?_
  ·refine dL [[.str q]] (fun k Q=>?_)
   have X:=cL Q;try simp only [lA,lC,lN,lT']at X
   refine ll 1 k ?_
   obtain ⟨_,(rfl|⟨c,x,rfl,N,H,P,O⟩),y⟩:=AlQ z t 1 (j+1) pos k (by exact fin)
   ·refine ch y ?_
    exact Aj ⟨[1],[],[k],[]⟩ (.inr ((⟨_,_,rfl,fin,kn,kn,kn⟩)))
   refine cm y ?_
   refine ch y ?_
   exact Aj ⟨[c],[],[x],[]⟩ (.inr ((⟨_,_,rfl,fin,kn,kn,kn⟩)))
  obtain ⟨_,(rfl|⟨d,g,rfl,D,M,C,J⟩),v⟩:=ih t (j+1) pos kn
  ·refine ch v ?_
   exact Aj v0 (.inl rfl)
  refine cm v ?_
  refine ch v ?_
  exact Aj ⟨[d],[],[g],[]⟩ (.inr ((⟨_,_,rfl,fin,kn,kn,kn⟩)))
 exact Aj v0 (.inl rfl)
theorem AlS:AfS 38:=fun {Γ} {f} {bl} {vl} {count} {left} {call} {loads} {B} {V} hM t j pos h=>Alh hM ((vl-j).toNat+1) t j pos ⟨h.1,h.2,Nat.lt_succ_self _⟩
def Anr (N:Nat) (Γ:Ctx) (f q:Int) (k count:Int) (left call loads:Int) (B V:Rs) (n:Nat):Prop:=∀(t g:Int) (j pos:Int) (L:Rs) (u:Ia Γ t L) (h:0≤j∧j≤k∧g=L.length∧L.length≤j∧0<g∧(k-j).toNat<n),Ok trees N ⟨[t,g,j,q,pos,k,count,left,call,loads],[],[B,V,L],[]⟩ fun o=>(o=(0,v0))∨(∃(c:Int),∃(d:Rs),o=(1,(⟨[c],[],[d],[]⟩:Ah))∧(Ia Γ t d)∧(c=d.length)∧(d.length≤40)∧(0<c))
def AmW (N:Nat):Prop:=∀{Γ:Ctx} {f q:Int} {k count:Int} {left call loads:Int} {B V:Rs} (v:NY Γ f q k count left call loads B V) (t g:Int) (j pos:Int) (L:Rs) (u:Ia Γ t L) (h:0≤j∧j≤k∧g=L.length∧L.length≤j∧0<g:=by exact kn),Ok trees N ⟨[t,g,j,q,pos,k,count,left,call,loads],[],[B,V,L],[]⟩ fun o=>(o=(0,v0))∨(∃(c:Int),∃(d:Rs),o=(1,(⟨[c],[],[d],[]⟩:Ah))∧(Ia Γ t d)∧(c=d.length)∧(d.length≤40)∧(0<c))
theorem Alf {Γ:Ctx} {f A:Int} {q count:Int} {left call loads:Int} {B V:Rs} (hM:NY Γ f A q count left call loads B V) (n:Nat):Anr 41 Γ f A q count left call loads B V n:=by
 induction n with
 |zero=>intro t o j pos L X h;exact absurd h.2.2.2.2.2 (Nat.not_lt_zero _)
 |succ n ih=>
 intro t o j pos L X h
 have ⟨hB,hl,hvl,Hq,hV,hb,hc,hd⟩:=hM
 refine .of (t:=AcD) rfl ?_
 unfold AcD
 refine lt j q (fun t1=>?_) fun t1=>?_
 ·refine CJ j 0 ?_
  obtain ⟨u,t_1,v,ae,U,R,ab⟩:=hV j om om
  refine el v ?_
  refine eq t_1 t (fun t3=>?_) fun t3=>?_
  ·refine dL (L++[[PV.str u]]) (fun c Q=>?_) (BG (pw o L) pe)
   have Z:=cL Q;try simp only [lA,lC,lN,lT']at Z
   refine FA (c.length:Int) 1048576 ?_
   obtain ⟨_,(rfl|⟨d,y,rfl,N,H,P,O⟩),z⟩:=ih t (c.length:Int) (j+1) pos c (by exact fin) kn
   ·refine ch z ?_
    exact Aj ⟨[(c.length:Int)],[],[c],[]⟩ (.inr ((⟨_,_,rfl,fin,kn,kn,kn⟩)))
   refine cm z ?_
   refine ch z ?_
   exact Aj ⟨[d],[],[y],[]⟩ (.inr ((⟨_,_,rfl,fin,kn,kn,kn⟩)))
  obtain ⟨_,(rfl|⟨g,k,rfl,D,M,C,J⟩),x⟩:=ih t o (j+1) pos L (by exact fin) kn
  ·refine ch x ?_
   exact Aj v0 (.inl rfl)
  refine cm x ?_
  refine ch x ?_
  exact Aj ⟨[g],[],[k],[]⟩ (.inr ((⟨_,_,rfl,fin,kn,kn,kn⟩)))
 exact Aj v0 (.inl rfl)
theorem AlP:AmW 41:=fun {Γ} {f} {bl} {vl} {count} {left} {call} {loads} {B} {V} hM t ln j pos L hL h=>Alf hM ((vl-j).toNat+1) t ln j pos L hL ⟨h.1,h.2.1,h.2.2.1,h.2.2.2.1,h.2.2.2.2,Nat.lt_succ_self _⟩
theorem Alg {Γ:Ctx} {f A:Int} {o count:Int} {left call loads:Int} {B V:Rs} (z:NY Γ f A o count left call loads B V) (n:Nat):Akq 39 Γ f A o count left call loads B V n:=by
 induction n with
 |zero=>intro t j pos h;exact absurd h.2.2 (Nat.not_lt_zero _)
 |succ n ih=>
 intro t j pos h
 have ⟨hB,hl,hvl,Hq,hV,hb,hc,hd⟩:=z
 refine .of (t:=AcF) rfl ?_
 unfold AcF
 refine lt j o (fun t1=>?_) fun t1=>?_
 ·refine CJ j 0 ?_
  obtain ⟨q,t_1,u,ac,U,R,aa⟩:=hV j om om
  refine el u ?_
  refine eq t_1 t (fun Z=>?_) fun Z=>?_
  ·refine dL [[.str q]] (fun k Q=>?_)
   have X:=cL Q;try simp only [lA,lC,lN,lT']at X
   refine ll 1 k ?_
   obtain ⟨_,(rfl|⟨c,x,rfl,N,H,P,O⟩),y⟩:=AlP z t 1 (j+1) pos k (by exact fin)
   ·refine ch y ?_
    exact Aj ⟨[1],[],[k],[]⟩ (.inr ((⟨_,_,rfl,fin,kn,kn,kn⟩)))
   refine cm y ?_
   refine ch y ?_
   exact Aj ⟨[c],[],[x],[]⟩ (.inr ((⟨_,_,rfl,fin,kn,kn,kn⟩)))
  obtain ⟨_,(rfl|⟨d,g,rfl,D,M,C,J⟩),v⟩:=ih t (j+1) pos kn
  ·refine ch v ?_
   exact Aj v0 (.inl rfl)
  refine cm v ?_
  refine ch v ?_
  exact Aj ⟨[d],[],[g],[]⟩ (.inr ((⟨_,_,rfl,fin,kn,kn,kn⟩)))
 exact Aj v0 (.inl rfl)
theorem AlR:AfS 39:=fun {Γ} {f} {bl} {vl} {count} {left} {call} {loads} {B} {V} hM t j pos h=>Alg hM ((vl-j).toNat+1) t j pos ⟨h.1,h.2,Nat.lt_succ_self _⟩
theorem AlU:Ad9 34:=@Adh 1 34 8 38 rfl @LB @AlS
theorem AlT:Ad9 36:=@Adh 0 36 9 39 rfl @Yu @AlR
theorem AiZ:Y5 26:=@Aa3 1 26 8 34 rfl @LB @AlU
theorem AiY:Y5 30:=@Aa3 0 30 9 36 rfl @Yu @AlT
theorem AfI:Vx 16 19:=@Om 1 19 16 rfl
theorem AfG:Vx 22 25:=@Om 0 25 22 rfl
theorem AfF:Y4 16 35:=@Aiw 1 35 16 19 rfl @AfI
theorem AfE:Y4 22 37:=@Aiw 0 37 22 25 rfl @AfG
theorem Ama:Ab4 16 27:=@Aiy 1 27 16 8 26 35 rfl @LB @AiZ @AfF
theorem AlX:Ab4 22 31:=@Aiy 0 31 22 9 30 37 rfl @Yu @AiY @AfE
theorem AlZ:Ab3 16 28:=@Adi 1 28 16 8 35 rfl @LB @AfF
theorem AlW:Ab3 22 32:=@Adi 0 32 22 9 37 rfl @Yu @AfE
theorem AlY:Ab2 16 29:=@Aix 1 29 16 8 35 rfl @LB @AfF
theorem AlV:Ab2 22 33:=@Aix 0 33 22 9 37 rfl @Yu @AfE
theorem Jm:R7 16:=@K6 1 16 8 26 27 28 29 rfl @LB @AiZ @Ama @AlZ @AlY
theorem Vk:R7 22:=@K6 0 22 9 30 31 32 33 rfl @Yu @AiY @AlX @AlW @AlV
end Go.Proofs.YtbmofjdmgjpfoaaGreatDoor.Am
end
section
set_option maxHeartbeats 4000000
set_option maxRecDepth 100000
namespace Go.Proofs.YtbmofjdmgjpfoaaGreatDoor.Am
open Go.AM Go.AM.K
def AmK (N:Nat):Prop:=∀(n:Int) (h:0≤n∧n<24:=by exact kn),Ok trees N ⟨[n],[],[],[]⟩ fun d=>(∃(c:List Nat),d=(0,(⟨[],[c],[],[]⟩:Ah))∧([118]++c=vn n.toNat)∧(c.length≤2))
theorem AiR:AmK 60:=by
 intro n h
 refine .of (t:=Acy) rfl ?_
 unfold Acy
 refine sn n 0 (fun O=>?_) fun O=>?_
 ·exact Aj ⟨[],[[48]],[],[]⟩ (⟨_,rfl,(by first|(subst_vars;rfl) |(rw [show n=23 by omega];rfl)),(by simp)⟩)
 refine sn n 1 (fun P=>?_) fun P=>?_
 ·exact Aj ⟨[],[[49]],[],[]⟩ (⟨_,rfl,(by first|(subst_vars;rfl) |(rw [show n=23 by omega];rfl)),(by simp)⟩)
 refine sn n 2 (fun M=>?_) fun M=>?_
 ·exact Aj ⟨[],[[50]],[],[]⟩ (⟨_,rfl,(by first|(subst_vars;rfl) |(rw [show n=23 by omega];rfl)),(by simp)⟩)
 refine sn n 3 (fun N=>?_) fun N=>?_
 ·exact Aj ⟨[],[[51]],[],[]⟩ (⟨_,rfl,(by first|(subst_vars;rfl) |(rw [show n=23 by omega];rfl)),(by simp)⟩)
 refine sn n 4 (fun Q=>?_) fun Q=>?_
 ·exact Aj ⟨[],[[52]],[],[]⟩ (⟨_,rfl,(by first|(subst_vars;rfl) |(rw [show n=23 by omega];rfl)),(by simp)⟩)
 refine sn n 5 (fun H=>?_) fun H=>?_
 ·exact Aj ⟨[],[[53]],[],[]⟩ (⟨_,rfl,(by first|(subst_vars;rfl) |(rw [show n=23 by omega];rfl)),(by simp)⟩)
 refine sn n 6 (fun R=>?_) fun R=>?_
 ·exact Aj ⟨[],[[54]],[],[]⟩ (⟨_,rfl,(by first|(subst_vars;rfl) |(rw [show n=23 by omega];rfl)),(by simp)⟩)
 refine sn n 7 (fun J=>?_) fun J=>?_
 ·exact Aj ⟨[],[[55]],[],[]⟩ (⟨_,rfl,(by first|(subst_vars;rfl) |(rw [show n=23 by omega];rfl)),(by simp)⟩)
 refine sn n 8 (fun D=>?_) fun D=>?_
 ·exact Aj ⟨[],[[56]],[],[]⟩ (⟨_,rfl,(by first|(subst_vars;rfl) |(rw [show n=23 by omega];rfl)),(by simp)⟩)
 refine sn n 9 (fun A=>?_) fun A=>?_
 ·exact Aj ⟨[],[[57]],[],[]⟩ (⟨_,rfl,(by first|(subst_vars;rfl) |(rw [show n=23 by omega];rfl)),(by simp)⟩)
 refine sn n 10 (fun q=>?_) fun q=>?_
 ·exact Aj ⟨[],[[49,48]],[],[]⟩ (⟨_,rfl,(by first|(subst_vars;rfl) |(rw [show n=23 by omega];rfl)),(by simp)⟩)
 refine sn n 11 (fun C=>?_) fun C=>?_
 ·exact Aj ⟨[],[[49,49]],[],[]⟩ (⟨_,rfl,(by first|(subst_vars;rfl) |(rw [show n=23 by omega];rfl)),(by simp)⟩)
 refine sn n 12 (fun k=>?_) fun k=>?_
 ·exact Aj ⟨[],[[49,50]],[],[]⟩ (⟨_,rfl,(by first|(subst_vars;rfl) |(rw [show n=23 by omega];rfl)),(by simp)⟩)
 refine sn n 13 (fun g=>?_) fun g=>?_
 ·exact Aj ⟨[],[[49,51]],[],[]⟩ (⟨_,rfl,(by first|(subst_vars;rfl) |(rw [show n=23 by omega];rfl)),(by simp)⟩)
 refine sn n 14 (fun z=>?_) fun z=>?_
 ·exact Aj ⟨[],[[49,52]],[],[]⟩ (⟨_,rfl,(by first|(subst_vars;rfl) |(rw [show n=23 by omega];rfl)),(by simp)⟩)
 refine sn n 15 (fun v=>?_) fun v=>?_
 ·exact Aj ⟨[],[[49,53]],[],[]⟩ (⟨_,rfl,(by first|(subst_vars;rfl) |(rw [show n=23 by omega];rfl)),(by simp)⟩)
 refine sn n 16 (fun c=>?_) fun c=>?_
 ·exact Aj ⟨[],[[49,54]],[],[]⟩ (⟨_,rfl,(by first|(subst_vars;rfl) |(rw [show n=23 by omega];rfl)),(by simp)⟩)
 refine sn n 17 (fun d=>?_) fun d=>?_
 ·exact Aj ⟨[],[[49,55]],[],[]⟩ (⟨_,rfl,(by first|(subst_vars;rfl) |(rw [show n=23 by omega];rfl)),(by simp)⟩)
 refine sn n 18 (fun j=>?_) fun j=>?_
 ·exact Aj ⟨[],[[49,56]],[],[]⟩ (⟨_,rfl,(by first|(subst_vars;rfl) |(rw [show n=23 by omega];rfl)),(by simp)⟩)
 refine sn n 19 (fun y=>?_) fun y=>?_
 ·exact Aj ⟨[],[[49,57]],[],[]⟩ (⟨_,rfl,(by first|(subst_vars;rfl) |(rw [show n=23 by omega];rfl)),(by simp)⟩)
 refine sn n 20 (fun x=>?_) fun x=>?_
 ·exact Aj ⟨[],[[50,48]],[],[]⟩ (⟨_,rfl,(by first|(subst_vars;rfl) |(rw [show n=23 by omega];rfl)),(by simp)⟩)
 refine sn n 21 (fun u=>?_) fun u=>?_
 ·exact Aj ⟨[],[[50,49]],[],[]⟩ (⟨_,rfl,(by first|(subst_vars;rfl) |(rw [show n=23 by omega];rfl)),(by simp)⟩)
 refine sn n 22 (fun o=>?_) fun o=>?_
 ·exact Aj ⟨[],[[50,50]],[],[]⟩ (⟨_,rfl,(by first|(subst_vars;rfl) |(rw [show n=23 by omega];rfl)),(by simp)⟩)
 refine Cp n 23 ?_
 exact Aj ⟨[],[[50,51]],[],[]⟩ (⟨_,rfl,(by first|(subst_vars;rfl) |(rw [show n=23 by omega];rfl)),(by simp)⟩)
def Y6 (E:Bool) (N:Nat):Prop:=∀{Γ:Ctx} {f K M:Int} (P O:Int) (D v:Int) (pos k:Int) (count left:Int) (call d:Int) (B V:Rs) (Q:MS E Γ f K M v pos k count left call d B V) (h:1≤D∧count+left+1≤K∧pos+300*left+200≤M:=by exact kn),Ok trees N ⟨[v,pos,k,count,left,call,d],[],[B,V],[]⟩ fun J=>(∃(A:Ctx),∃(t' C y H w' o g j c:Int),∃(x z:List Nat),∃(q u:Rs),J=(0,(⟨[t',C,y,H,w',o,0,0,0,g,j,c],[x,z],[q,[],[],[],u],[]⟩:Ah))∧(MS false A f K M v g j c left call d B u)∧(Ei P O D Γ A (left+1) left (Be 1 0 t' 0 x C y H z w' q 0 0 0 [] 0 [] [] []))∧(Ext k V u)∧(count≤c)∧(k≤j)∧(g≤pos+100)∧(o=q.length))
def Ab7 (E:Bool) (N:Nat):Prop:=∀{Γ:Ctx} {K M:Int} (O J:Int) (D f:Int) (z pos:Int) (x count:Int) (left call loads:Int) (B V:Rs) (P:MS E Γ f K M z pos x count left call loads B V) (h:1≤D∧count+left+1≤K∧pos+300*left+200≤M:=by exact kn),Ok trees N ⟨[f,z,pos,x,count,left,call,loads],[],[B,V],[]⟩ fun C=>(∃(v q y w' g c:Int),∃(k u:List Nat),∃(j:Rs),C=(0,(⟨[v,q,y,w',g,0,0,0,c],[k,u],[j,[],[],[]],[]⟩:Ah))∧(MS E Γ f K M z c x count left call loads B V)∧(Ei O J D Γ Γ (left+1) left (Be 2 0 0 0 k v q y u w' j 0 0 0 [] 0 [] [] []))∧(c≤pos+100)∧(g=j.length))∨(∃(H:Ctx),∃(t' v q y w' g c o d:Int),∃(k u:List Nat),∃(j A:Rs),C=(1,(⟨[t',v,q,y,w',g,0,0,0,c,o,d],[k,u],[j,[],[],[],A],[]⟩:Ah))∧(MS false H f K M z c o d left call loads B A)∧(Ei O J D Γ H (left+1) left (Be 1 0 t' 0 k v q y u w' j 0 0 0 [] 0 [] [] []))∧(Ext x V A)∧(count≤d)∧(x≤o)∧(c≤pos+100)∧(g=j.length))
theorem Adk {E:Bool} {d z N o q:Nat} (hT:trees z=Abx d N o q) (h8:T0 N) (ag:Y6 E o) (af:R7 q):Ab7 E z:=by
 intro Γ K M lo pu D f bl pos c count left call j B V x h
 have ⟨hm,a1,ba,a5,a4,a7,a0,a3,bd,a8,a2⟩:=x;have ⟨hB,hl,hvl,Hq,hV,hb,hc,hd⟩:=hm;have a9:G 3=40:=rfl;have a6:G 2=12:=rfl;have bb:G (3-1)=12:=rfl
 refine .of (t:=Abx d N o q) hT ?_
 unfold Abx
 refine le c f (fun t1=>?_) fun t1=>?_
 ·obtain ⟨_,⟨ab,t_2,aj,U,Z,an,J,y,R,k,ah,ac,aa,ad,rfl,O,az,aD,ao,aA,aC,aq⟩,G2⟩:=ag lo pu D bl pos c count left call j B V (MS.mv x)
  refine ch G2 ?_
  have ⟨_,_,aZ,aU,ap,av,aQ,aP,_,_,_⟩:=O
  exact Aj ⟨[t_2,aj,U,Z,an,J,0,0,0,y,R,k],[ah,ac],[aa,[],[],[],ad],[]⟩ (.inr ((⟨ab,_,_,_,_,_,_,_,_,_,_,_,_,_,rfl,‹_›,AE,AE,kn,kn,kn,kn⟩)))
 obtain ⟨_,⟨g,u,rfl,ay,aO,aY⟩,G3⟩:=h8 hB hl pos c count left call j V
 refine ch G3 ?_
 refine AQ (c-f) 0 ?_
 have m4:=Int.emod_nonneg g (show (c-f)≠0 by omega);have bc:=Int.emod_lt_of_pos g (show 0<(c-f) by omega)
 refine CJ (f+(g%(c-f))) 0 ?_
 refine BD (f+(g%(c-f))) c ?_
 obtain ⟨A,X8,H,Q,C,aE,ax⟩:=hV (f+(g%(c-f))) om om
 refine el H ?_
 have aN:=C om;obtain ⟨_,_,_,aK⟩:=Q
 obtain ⟨_,⟨X,ai,ak,ae,P,v,al,am,rfl,aI,aX,au,aH⟩,G6⟩:=af (x.Fy count left) X8 3 u
 refine ch G6 ?_
 refine de [] ?_
 refine ll 0 [] ?_
 exact Aj ⟨[X,ai,ak,ae,P,0,0,0,v],[A,al],[am,[],[],[]],[]⟩ (.inl (⟨_,_,_,_,_,_,_,_,_,rfl,(MS.mv x),AE,kn,kn⟩))
def Ab6 (E:Bool) (N:Nat):Prop:=∀{Γ:Ctx} {f K M:Int} (O y:Int) (D q:Int) (pos u:Int) (count left:Int) (call c:Int) (B V:Rs) (P:MS E Γ f K M q pos u count left call c B V) (h:1≤D∧pos+300*left+200≤M∧y=0:=by exact kn),Ok trees N ⟨[q,pos,u,count,left,call,c],[],[B,V],[]⟩ fun J=>(∃(g A x C H j d:Int),∃(v z:List Nat),∃(k o:Rs),J=(0,(⟨[g,A,x,C,H,j,0,0,d],[v,z],[k,o,[],[]],[]⟩:Ah))∧(MS E Γ f K M q d u count left call c B V)∧(Ei O y D Γ Γ (left+1) left (Be 3 0 0 0 v 5 17 0 [] 0 k A x C z H o [] []))∧(d≤pos+100)∧(g=k.length)∧(j=o.length))
theorem Aiz {E:Bool} {d ae N8 q y:Nat} (hT:trees ae=Abw d N8 q y) (h8:T0 N8) (g:R7 q) (k:Vx q y):Ab6 E ae:=by
 intro Γ f K M lo pu D bl pos vl count left call O B V c h
 have ⟨hm,cp,cA,cx,cw,cz,co,cq,cr,ct,cv⟩:=c;have ⟨hB,hl,hvl,Hq,hV,hb,hc,hd⟩:=hm;have cu:G 3=40:=rfl;have cy:G 2=12:=rfl;have cB:G (3-1)=12:=rfl
 refine .of (t:=Abw d N8 q y) hT ?_
 unfold Abw
 obtain ⟨_,⟨o,j,rfl,b9,bT,b8⟩,G1⟩:=h8 hB hl pos vl count left call O V
 refine ch G1 ?_
 refine eq (o%6) 0 (fun t2=>?_) fun t2=>?_
 ·obtain ⟨_,⟨al,N,a0,rfl,bL,cd,cj,ce⟩,G3⟩:=k (c.Fy count left) (Jr.of (c.Fy count left) (n:=10) @g) 8 3 j
  refine ch G3 ?_
  obtain ⟨_,⟨a6,aY,aV,aO,aK,ac,aW,a1,rfl,cf,bJ,bP,b3⟩,G4⟩:=g (c.Fy count left) 1 3 N
  refine ch G4 ?_
  refine de [] ?_
  refine ll 0 [] ?_
  exact Aj ⟨[al,a6,aY,aV,aO,aK,0,0,ac],[[97],aW],[a0,a1,[],[]],[]⟩ (⟨_,_,_,_,_,_,_,_,_,_,_,rfl,(MS.mv c),AE,kn,kn,kn⟩)
 refine eq (o%6) 1 (fun t5=>?_) fun t5=>?_
 ·obtain ⟨_,⟨am,P,bb,rfl,bS,b0,bK,bR⟩,G6⟩:=k (c.Fy count left) (Jr.of (c.Fy count left) (n:=10) @g) 8 3 j
  refine ch G6 ?_
  obtain ⟨_,⟨aX,a3,a7,a5,aH,U,aR,aN,rfl,b1,ci,b7,bQ⟩,G7⟩:=g (c.Fy count left) 1 3 P
  refine ch G7 ?_
  refine de [] ?_
  refine ll 0 [] ?_
  exact Aj ⟨[am,aX,a3,a7,a5,aH,0,0,U],[[97],aR],[bb,aN,[],[]],[]⟩ (⟨_,_,_,_,_,_,_,_,_,_,_,rfl,(MS.mv c),AE,kn,kn,kn⟩)
 refine eq (o%6) 2 (fun t8=>?_) fun t8=>?_
 ·obtain ⟨_,⟨aI,Q,a4,rfl,b5,b2,bV,bZ⟩,G9⟩:=k (c.Fy count left) (Jr.of (c.Fy count left) (n:=10) @g) 8 3 j
  refine ch G9 ?_
  obtain ⟨_,⟨ay,aw,aE,ai,R,v,aq,aB,rfl,bn,bH,bv,bI⟩,a9⟩:=g (c.Fy count left) 1 3 Q
  refine ch a9 ?_
  refine de [] ?_
  refine ll 0 [] ?_
  exact Aj ⟨[aI,ay,aw,aE,ai,R,0,0,v],[[115],aq],[a4,aB,[],[]],[]⟩ (⟨_,_,_,_,_,_,_,_,_,_,_,rfl,(MS.mv c),AE,kn,kn,kn⟩)
 refine eq (o%6) 3 (fun aU=>?_) fun aU=>?_
 ·obtain ⟨_,⟨Z,z,aj,rfl,bD,bC,bt,bz⟩,bc⟩:=k (c.Fy count left) (Jr.of (c.Fy count left) (n:=10) @g) 4 3 j
  refine ch bc ?_
  obtain ⟨_,⟨ap,ao,an,av,ab,x,az,aC,rfl,br,bh,bo,bG⟩,aZ⟩:=g (c.Fy count left) 2 3 z
  refine ch aZ ?_
  refine de [] ?_
  refine ll 0 [] ?_
  exact Aj ⟨[Z,ap,ao,an,av,ab,0,0,x],[[102],az],[aj,aC,[],[]],[]⟩ (⟨_,_,_,_,_,_,_,_,_,_,_,rfl,(MS.mv c),AE,kn,kn,kn⟩)
 refine eq (o%6) 4 (fun a2=>?_) fun a2=>?_
 ·obtain ⟨_,⟨ad,A,ak,rfl,bj,bF,bm,bg⟩,ba⟩:=k (c.Fy count left) (Jr.of (c.Fy count left) (n:=10) @g) 4 3 j
  refine ch ba ?_
  obtain ⟨_,⟨K6,ax,af,aD,X,H,ah,ag,rfl,bB,bw,bi,bf⟩,a8⟩:=g (c.Fy count left) 1 3 A
  refine ch a8 ?_
  refine de [] ?_
  refine ll 0 [] ?_
  exact Aj ⟨[ad,K6,ax,af,aD,X,0,0,H],[[112],ah],[ak,ag,[],[]],[]⟩ (⟨_,_,_,_,_,_,_,_,_,_,_,rfl,(MS.mv c),AE,kn,kn,kn⟩)
 refine BI (o%6) 5 ?_
 obtain ⟨_,⟨J,C,aG,rfl,bx,bk,bA,bq⟩,aQ⟩:=k (c.Fy count left) (Jr.of (c.Fy count left) (n:=10) @g) 4 3 j
 refine ch aQ ?_
 obtain ⟨_,⟨Adj,aM,aL,aJ,aa,u,au,aA,rfl,bE,be,bp,bd⟩,aP⟩:=g (c.Fy count left) 3 3 C
 refine ch aP ?_
 refine de [] ?_
 refine ll 0 [] ?_
 exact Aj ⟨[J,Adj,aM,aL,aJ,aa,0,0,u],[[98],au],[aG,aA,[],[]],[]⟩ (⟨_,_,_,_,_,_,_,_,_,_,_,rfl,(MS.mv c),AE,kn,kn,kn⟩)
def Ab5 (E:Bool) (N:Nat):Prop:=∀{Γ:Ctx} {K M:Int} (Z H:Int) (D f:Int) (z pos:Int) (k count:Int) (left call loads:Int) (B V:Rs) (hM:MS E Γ f K M z pos k count left call loads B V) (h:1≤D∧count+left+1≤K∧pos+300*left+200≤M∧H=0:=by exact kn),Ok trees N ⟨[f,z,pos,k,count,left,call,loads],[],[B,V],[]⟩ fun P=>(∃(A x v o w' g R o2 U X C c:Int),∃(q y s2:List Nat),∃(j J:Rs),P=(0,(⟨[A,x,v,o,w',g,R,o2,U,X,C,0,0,c],[q,y,s2],[j,J,[],[]],[]⟩:Ah))∧(MS E Γ f K M z c k count left call loads B V)∧(Ei Z H D Γ Γ (left+1) left (Be 12 A 0 0 q x v o y w' j R o2 U s2 X J [] []))∧(c≤pos+100)∧(g=j.length)∧(C=J.length))∨(∃(Q:Ctx),∃(t' x v o w' g c u d:Int),∃(q y:List Nat),∃(j O:Rs),P=(1,(⟨[t',x,v,o,w',g,0,0,0,c,u,d],[q,y],[j,[],[],[],O],[]⟩:Ah))∧(MS false Q f K M z c u d left call loads B O)∧(Ei Z H D Γ Q (left+1) left (Be 1 0 t' 0 q x v o y w' j 0 0 0 [] 0 [] [] []))∧(Ext k V O)∧(count≤d)∧(k≤u)∧(c≤pos+100)∧(g=j.length))
theorem Adj {E:Bool} {d aE N8 R av:Nat} (hT:trees aE=Abv d N8 R av) (O:T0 N8) (bd:Y6 E R) (q:R7 av):Ab5 E aE:=by
 intro Γ K M lo pu D f bl pos k count left call g B V j h
 have ⟨hm,cZ,c9,c6,c5,c8,cY,c1,dd,c2,c4⟩:=j;have ⟨hB,hl,hvl,Hq,hV,hb,hc,hd⟩:=hm;have c3:G 3=40:=rfl;have c7:G 2=12:=rfl;have db:G (3-1)=12:=rfl
 refine .of (t:=Abv d N8 R av) hT ?_
 unfold Abv
 refine le k f (fun t1=>?_) fun t1=>?_
 ·obtain ⟨_,⟨a9,t_2,bg,bi,bq,bF,aH,aB,a3,N,bx,br,a8,bb,rfl,aI,cF,co,ce,cj,cG,cA⟩,G2⟩:=bd lo pu D bl pos k count left call g B V (MS.mv j)
  refine ch G2 ?_
  have ⟨_,_,cE,cS,cf,cC,cR,cu,_,_,_⟩:=aI
  exact Aj ⟨[t_2,bg,bi,bq,bF,aH,0,0,0,aB,a3,N],[bx,br],[a8,[],[],[],bb],[]⟩ (.inr ((⟨a9,_,_,_,_,_,_,_,_,_,_,_,_,_,rfl,‹_›,AE,AE,kn,kn,kn,kn⟩)))
 obtain ⟨_,⟨u,z,rfl,ci,cP,cX⟩,G3⟩:=O hB hl pos k count left call g V
 refine ch G3 ?_
 refine AQ (k-f) 0 ?_
 have m4:=Int.emod_nonneg u (show (k-f)≠0 by omega);have dc:=Int.emod_lt_of_pos u (show 0<(k-f) by omega)
 refine CJ (f+(u%(k-f))) 0 ?_
 refine BD (f+(u%(k-f))) k ?_
 obtain ⟨c,X8,aU,a5,aG,cH,cg⟩:=hV (f+(u%(k-f))) om om
 refine el aU ?_
 have ct:=aG om;obtain ⟨_,_,_,cJ⟩:=a5
 refine eq X8 3 (fun t6=>?_) fun t6=>?_
 ·obtain ⟨_,⟨bj,az,rfl,cw,cW,cL⟩,G7⟩:=O hB hl z k count left call g V
  refine ch G7 ?_
  obtain ⟨_,⟨Yb,bv,a6,bB,aP,aC,bh,bA,rfl,cT,cQ,cN,cz⟩,G8⟩:=q (j.Fy count left) 3 3 az
  refine ch G8 ?_
  refine de [] ?_
  refine ll 0 [] ?_
  exact Aj ⟨[(2+(bj%2)),Yb,bv,a6,bB,aP,0,0,0,0,0,0,0,aC],[c,bh,[]],[bA,[],[],[]],[]⟩ (.inl (⟨_,_,_,_,_,_,_,_,_,_,_,_,_,_,_,_,_,rfl,(MS.mv j),AE,kn,kn,kn⟩))
 obtain ⟨_,⟨J,o,rfl,cI,cx,cr⟩,G9⟩:=O hB hl z k count left call g V
 refine ch G9 ?_
 refine eq (J%4) 0 (fun bc=>?_) fun bc=>?_
 ·obtain ⟨_,⟨ai,ae,rfl,bH,cd,bL⟩,bw⟩:=O hB hl o k count left call g V
  refine ch bw ?_
  obtain ⟨_,⟨U5,ac,aj,ag,H,v,ax,Z,rfl,b4,b3,bV,bZ⟩,bD⟩:=q (j.Fy count left) X8 3 ae
  refine ch bD ?_
  refine eq (ai%2) 0 (fun bo=>?_) fun bo=>?_
  ·refine de [] ?_
   refine ll 0 [] ?_
   exact Aj ⟨[5,U5,ac,aj,ag,H,0,0,0,0,0,0,0,v],[c,ax,[]],[Z,[],[],[]],[]⟩ (.inl (⟨_,_,_,_,_,_,_,_,_,_,_,_,_,_,_,_,_,rfl,(MS.mv j),AE,kn,kn,kn⟩))
  refine BI (ai%2) 1 ?_
  refine de [] ?_
  refine ll 0 [] ?_
  exact Aj ⟨[6,U5,ac,aj,ag,H,0,0,0,0,0,0,0,v],[c,ax,[]],[Z,[],[],[]],[]⟩ (.inl (⟨_,_,_,_,_,_,_,_,_,_,_,_,_,_,_,_,_,rfl,(MS.mv j),AE,kn,kn,kn⟩))
 refine eq (J%4) 1 (fun bm=>?_) fun bm=>?_
 ·obtain ⟨_,⟨ap,al,rfl,bQ,b7,bS⟩,bC⟩:=O hB hl o k count left call g V
  refine ch bC ?_
  obtain ⟨_,⟨K6,ak,P,ao,C,y,U,Q,rfl,b1,bX,bP,bK⟩,bz⟩:=q (j.Fy count left) X8 3 al
  refine ch bz ?_
  refine eq (ap%2) 0 (fun be=>?_) fun be=>?_
  ·refine de [] ?_
   refine ll 0 [] ?_
   exact Aj ⟨[5,K6,ak,P,ao,C,0,0,0,0,0,0,0,y],[c,U,[]],[Q,[],[],[]],[]⟩ (.inl (⟨_,_,_,_,_,_,_,_,_,_,_,_,_,_,_,_,_,rfl,(MS.mv j),AE,kn,kn,kn⟩))
  refine BI (ap%2) 1 ?_
  refine de [] ?_
  refine ll 0 [] ?_
  exact Aj ⟨[6,K6,ak,P,ao,C,0,0,0,0,0,0,0,y],[c,U,[]],[Q,[],[],[]],[]⟩ (.inl (⟨_,_,_,_,_,_,_,_,_,_,_,_,_,_,_,_,_,rfl,(MS.mv j),AE,kn,kn,kn⟩))
 refine eq (J%4) 2 (fun bk=>?_) fun bk=>?_
 ·obtain ⟨_,⟨Om,aY,aL,a2,ay,aa,aM,aW,rfl,bM,b5,b0,bJ⟩,a7⟩:=q (j.Fy count left) X8 2 o
  refine ch a7 ?_
  obtain ⟨_,⟨aZ,aJ,a4,aK,aD,ad,aN,a0,rfl,b8,bR,bT,cb⟩,bp⟩:=q (j.Fy count left) 1 2 aa
  refine ch bp ?_
  refine de [] ?_
  refine ll 0 [] ?_
  exact Aj ⟨[4,Om,aY,aL,a2,ay,aZ,aJ,a4,aK,aD,0,0,ad],[c,aM,aN],[aW,a0,[],[]],[]⟩ (.inl (⟨_,_,_,_,_,_,_,_,_,_,_,_,_,_,_,_,_,rfl,(MS.mv j),AE,kn,kn,kn⟩))
 refine BI (J%4) 3 ?_
 refine eq X8 1 (fun bt=>?_) fun bt=>?_
 ·obtain ⟨_,⟨aX,aQ,aO,aR,aA,aw,a1,aF,rfl,bW,bU,bI,bY⟩,ba⟩:=q (j.Fy count left) 3 3 o
  refine ch ba ?_
  refine de [] ?_
  refine ll 0 [] ?_
  exact Aj ⟨[1,aX,aQ,aO,aR,aA,0,0,0,0,0,0,0,aw],[c,a1,[]],[aF,[],[],[]],[]⟩ (.inl (⟨_,_,_,_,_,_,_,_,_,_,_,_,_,_,_,_,_,rfl,(MS.mv j),AE,kn,kn,kn⟩))
 obtain ⟨_,⟨ab,af,rfl,b6,cc,b2⟩,bf⟩:=O hB hl o k count left call g V
 refine ch bf ?_
 obtain ⟨_,⟨aq,X,am,an,A,x,au,ah,rfl,b9,bO,bG,bN⟩,bn⟩:=q (j.Fy count left) X8 3 af
 refine ch bn ?_
 refine eq (ab%2) 0 (fun bE=>?_) fun bE=>?_
 ·refine de [] ?_
  refine ll 0 [] ?_
  exact Aj ⟨[5,aq,X,am,an,A,0,0,0,0,0,0,0,x],[c,au,[]],[ah,[],[],[]],[]⟩ (.inl (⟨_,_,_,_,_,_,_,_,_,_,_,_,_,_,_,_,_,rfl,(MS.mv j),AE,kn,kn,kn⟩))
 refine BI (ab%2) 1 ?_
 refine de [] ?_
 refine ll 0 [] ?_
 exact Aj ⟨[6,aq,X,am,an,A,0,0,0,0,0,0,0,x],[c,au,[]],[ah,[],[],[]],[]⟩ (.inl (⟨_,_,_,_,_,_,_,_,_,_,_,_,_,_,_,_,_,rfl,(MS.mv j),AE,kn,kn,kn⟩))
def Gn (E:Bool) (N n:Nat):Prop:=∀{Γ:Ctx} {K M:Int} (f depth:Int) (y loop:Int) (pure U:Int) (pos z:Int) (count left:Int) (call d:Int) (B V:Rs) (hM:MS E Γ f K M U pos z count left call d B V) (h:0≤depth∧depth≤2∧1≤left∧(pure=0∨pure=1)∧(loop=0∨loop=1)∧(y=0∨y=1)∧depth.toNat<n),Ok trees N ⟨[f,depth,y,loop,pure,U,pos,z,count,left,call,d],[],[B,V],[]⟩ fun zz=>(∃(P o' J O R u Q H yk yo Z yw v A el c left':Int),∃(C x yn:List Nat),∃(q o j k:Rs),zz=(0,(⟨[P,o',J,O,R,u,Q,H,yk,yo,Z,yw,v,A,el,c,left'],[C,x,yn],[q,o,j,k],[]⟩:Ah))∧(MS E Γ f K M U c z count left' call d B V)∧(Ei loop pure (depth+1) Γ Γ left left' (Be P o' 0 J C O R u x Q q yk yo Z yn yw o j k))∧(c+300*left'≤pos+300*left)∧(H=q.length)∧(v=o.length)∧(A=j.length)∧(el=k.length)∧(left'+1≤left))∨(∃(Γ':Ctx),∃(P t' J O R u Q H v A el c D g left':Int),∃(C x:List Nat),∃(q o j k X:Rs),zz=(1,(⟨[P,t',J,O,R,u,Q,H,v,A,el,c,D,g,left'],[C,x],[q,o,j,k,X],[]⟩:Ah))∧(MS false Γ' f K M U c D g left' call d B X)∧(Ei loop pure (depth+1) Γ Γ' left left' (Be P 0 t' J C O R u x Q q 0 0 0 [] 0 o j k))∧(Ext z V X)∧(count≤g)∧(z≤D)∧(c+300*left'≤pos+300*left)∧(H=q.length)∧(v=o.length)∧(A=j.length)∧(el=k.length)∧(left'+1≤left))
def AdA (E:Bool) (N:Nat):Prop:=∀{Γ:Ctx} {K M:Int} (f depth:Int) (y loop:Int) (pure U:Int) (pos z:Int) (count left:Int) (call d:Int) (B V:Rs) (hM:MS E Γ f K M U pos z count left call d B V) (h:0≤depth∧depth≤2∧1≤left∧(pure=0∨pure=1)∧(loop=0∨loop=1)∧(y=0∨y=1):=by exact kn),Ok trees N ⟨[f,depth,y,loop,pure,U,pos,z,count,left,call,d],[],[B,V],[]⟩ fun zz=>(∃(P o' J O R u Q H yk yo Z yw v A el c left':Int),∃(C x yn:List Nat),∃(q o j k:Rs),zz=(0,(⟨[P,o',J,O,R,u,Q,H,yk,yo,Z,yw,v,A,el,c,left'],[C,x,yn],[q,o,j,k],[]⟩:Ah))∧(MS E Γ f K M U c z count left' call d B V)∧(Ei loop pure (depth+1) Γ Γ left left' (Be P o' 0 J C O R u x Q q yk yo Z yn yw o j k))∧(c+300*left'≤pos+300*left)∧(H=q.length)∧(v=o.length)∧(A=j.length)∧(el=k.length)∧(left'+1≤left))∨(∃(Γ':Ctx),∃(P t' J O R u Q H v A el c D g left':Int),∃(C x:List Nat),∃(q o j k X:Rs),zz=(1,(⟨[P,t',J,O,R,u,Q,H,v,A,el,c,D,g,left'],[C,x],[q,o,j,k,X],[]⟩:Ah))∧(MS false Γ' f K M U c D g left' call d B X)∧(Ei loop pure (depth+1) Γ Γ' left left' (Be P 0 t' J C O R u x Q q 0 0 0 [] 0 o j k))∧(Ext z V X)∧(count≤g)∧(z≤D)∧(c+300*left'≤pos+300*left)∧(H=q.length)∧(v=o.length)∧(A=j.length)∧(el=k.length)∧(left'+1≤left))
theorem Gn.of {E:Bool} {N n:Nat} (H:AdA E N):Gn E N n:=fun {Γ} {K} {M} f depth top loop pure bl pos vl count left call loads B V hM h=>H f depth top loop pure bl pos vl count left call loads B V hM (by have:=h;omega)
def Y3 (E:Bool) (v N:Nat):Prop:=∀{m:Nat} (x:Gn E v m) {Γ:Ctx} {K M:Int} (f depth:Int) (loop pure:Int) (o pos:Int) (j count:Int) (left call loads:Int) (B V:Rs) (y:MS E Γ f K M o pos j count left call loads B V) (h:0≤depth∧depth≤2∧(pure=0∨pure=1)∧(loop=0∨loop=1)∧depth.toNat<m∧pos+300*left+10≤M:=by exact kn),Ok trees N ⟨[f,depth,loop,pure,o,pos,j,count,left,call,loads],[],[B,V],[]⟩ fun u=>(∃(k c left':Int),∃(g:Rs),u=(0,(⟨[k,c,left'],[],[g],[]⟩:Ah))∧(MS E Γ f K M o c j count left' call loads B V)∧(IG loop pure (depth+1) Γ left left' g)∧(k=g.length)∧(left'≤left)∧(c+300*left'≤pos+300*left+1))∨(∃(k c d left':Int),∃(g q:Rs),u=(1,(⟨[k,c,j,d,left'],[],[g,q],[]⟩:Ah))∧(MS false Γ f K M o c j d left' call loads B q)∧(IG loop pure (depth+1) Γ left left' g)∧(Ext j V q)∧(count≤d)∧(k=g.length)∧(left'≤left)∧(c+300*left'≤pos+300*left+1))
theorem Alj {E:Bool} {d a9 a7 N8 bB cx a4 cp cH ci bF ag aj:Nat} (hT:trees a9=Yy d N8 bB cx a4 cp cH ci bF ag aj) (h8:T0 N8) (hv:Y6 E bB) (aM:Ab7 E cx) (ba:R7 a4) (U:Ab6 E cp) (gV:Ab5 E cH) (hF:Vx a4 ci) (cD:Y3 E a9 bF) (dv:T0 ag) (db:Y3 false a7 aj) (hx:∀n,Gn E a9 n→Gn false a7 n) (n:Nat):Gn E a9 n:=by
 induction n with
 |zero=>intro Γ K M f depth aB loop pure N pos u count left call c B V k h;exact absurd h.2.2.2.2.2.2 (Nat.not_lt_zero _)
 |succ n ih=>
 intro Γ K M f depth aB loop pure N pos u count left call c B V k h
 have ⟨hm,nf,nc,nh,m9,ni,nd,m7,nj,m8,nb⟩:=k;have ⟨hB,hl,hvl,Hq,hV,hb,hc,hd⟩:=hm;have ng:G 3=40:=rfl;have m6:G 2=12:=rfl;have na:G (3-1)=12:=rfl
 refine .of (t:=Yy d N8 bB cx a4 cp cH ci bF ag aj) hT ?_
 unfold Yy
 obtain ⟨_,⟨O,g,rfl,mL,mE,mP⟩,G1⟩:=h8 hB hl pos u count (left-1) call c V
 refine ch G1 ?_
 refine eq (O%14) 0 (fun t2=>?_) fun t2=>?_
 ·obtain ⟨_,⟨hk,t_3,jw,kc,hu,gD,f3,eh,fQ,bx,ho,jl,hG,jj,rfl,bT,mG,mJ,mH,m1,mY,mW⟩,G3⟩:=hv loop pure (depth+1) N g u count (left-1) call c B V (MS.mv k)
  refine ch G3 ?_
  have ⟨_,_,m2,mS,mV,m5,mO,mQ,_,_,_⟩:=bT
  exact Aj ⟨[1,t_3,0,jw,kc,hu,gD,f3,0,0,0,eh,fQ,bx,(left-1)],[ho,jl],[hG,[],[],[],jj],[]⟩ (.inr ((⟨hk,_,_,_,_,_,_,_,_,_,_,_,_,_,_,_,_,_,_,_,_,_,_,rfl,(MS.mv bT),AE,AE,kn,kn,kn,kn,kn,kn,kn,kn⟩)))
 refine lt (O%14) 4 (fun t4=>?_) fun t4=>?_
 ·obtain ⟨_,(⟨fP,fB,fy,f4,eE,cC,fF,fZ,f8,rfl,bc,mo,l5,lv⟩|⟨fD,fJ,fE,fH,fG,f5,dO,cN,dd,aX,fW,fz,fA,fC,rfl,a1,my,k7,mn,lG,kE,l3⟩),G5⟩:=aM loop pure (depth+1) f N g u count (left-1) call c B V (MS.mv k)
  ·refine ch G5 ?_
   have ⟨_,_,ki,ko,kQ,kJ,kY,kw,_,_,_⟩:=bc
   exact Aj ⟨[2,0,0,fP,fB,fy,f4,eE,0,0,0,0,0,0,0,cC,(left-1)],[fF,fZ,[]],[f8,[],[],[]],[]⟩ (.inl (⟨_,_,_,_,_,_,_,_,_,_,_,_,_,_,_,_,_,_,_,_,_,_,_,_,rfl,(MS.mv bc),AE,kn,kn,kn,kn,kn,kn⟩))
  refine cm G5 ?_
  refine ch G5 ?_
  have ⟨_,_,lu,lb,l1,mi,mr,lE,_,_,_⟩:=a1
  exact Aj ⟨[1,fJ,0,fE,fH,fG,f5,dO,0,0,0,cN,dd,aX,(left-1)],[fW,fz],[fA,[],[],[],fC],[]⟩ (.inr ((⟨fD,_,_,_,_,_,_,_,_,_,_,_,_,_,_,_,_,_,_,_,_,_,_,rfl,(MS.mv a1),AE,AE,kn,kn,kn,kn,kn,kn,kn,kn⟩)))
 refine eq (O%14) 4 (fun t6=>?_) fun t6=>?_
 ·refine gt depth 0 (fun t7=>?_) fun t7=>?_
  ·obtain ⟨_,⟨Yb,ac,X,aa,Q,dh,ab,Z,rfl,mT,mR,m4,mZ⟩,G8⟩:=ba (k.Fy count (left-1)) 3 3 g
   refine ch G8 ?_
   obtain ⟨_,(⟨ad,cv,P,aQ,rfl,ae,lU,mt,l8,mb⟩|⟨af,cu,J,R,aV,ai,rfl,ah,ku,ms,kf,lJ,mq,kj⟩),G9⟩:=cD @ih f (depth-1) loop pure N dh u count (left-1) call c B V (MS.mv k)
   ·refine ch G9 ?_
    have ⟨_,_,k3,k9,kM,li,km,lw,_,_,_⟩:=ae
    obtain ⟨_,⟨fv,aD,rfl,lB,kR,kD⟩,ib⟩:=h8 hB hl cv u count P call c V
    refine ch ib ?_
    refine eq (fv%2) 0 (fun gg=>?_) fun gg=>?_
    ·obtain ⟨_,(⟨cj,bz,aP,dQ,rfl,aK,gh,j9,j7,gw⟩|⟨bQ,bi,ak,aU,d6,ff,rfl,ax,jE,hw,iT,ga,gA,hL⟩),cz⟩:=cD @ih f (depth-1) loop pure N aD u count P call c B V (MS.mv ae)
     ·refine ch cz ?_
      have ⟨_,_,iD,jz,i9,gi,hD,j0,_,_,_⟩:=aK
      refine de [] ?_
      refine ll 0 [] ?_
      exact Aj ⟨[5,0,0,Yb,ac,X,aa,Q,0,0,0,0,0,ad,cj,bz,aP],[[],ab,[]],[Z,[],aQ,dQ],[]⟩ (.inl (⟨_,_,_,_,_,_,_,_,_,_,_,_,_,_,_,_,_,_,_,_,_,_,_,_,rfl,(MS.mv aK),AE,kn,kn,kn,kn,kn,kn⟩))
     refine cm cz ?_
     refine ch cz ?_
     have ⟨_,_,jd,hh,jJ,h9,iG,gG,_,_,_⟩:=ax
     refine de [] ?_
     refine ll 0 [] ?_
     exact Aj ⟨[5,0,0,Yb,ac,X,aa,Q,0,ad,bQ,bi,u,ak,aU],[[],ab],[Z,[],aQ,d6,ff],[]⟩ (.inr ((⟨Γ,_,_,_,_,_,_,_,_,_,_,_,_,_,_,_,_,_,_,_,_,_,_,rfl,(MS.mv ax),AE,AE,kn,kn,kn,kn,kn,kn,kn,kn⟩)))
    refine de [] ?_
    refine ll 0 [] ?_
    exact Aj ⟨[5,0,0,Yb,ac,X,aa,Q,0,0,0,0,0,ad,0,aD,P],[[],ab,[]],[Z,[],aQ,[]],[]⟩ (.inl (⟨_,_,_,_,_,_,_,_,_,_,_,_,_,_,_,_,_,_,_,_,_,_,_,_,rfl,(MS.mv ae),AE,kn,kn,kn,kn,kn,kn⟩))
   refine cm G9 ?_
   refine ch G9 ?_
   have ⟨_,_,ma,lD,lI,lz,k1,lT,_,_,_⟩:=ah
   obtain ⟨_,⟨fX,aN,rfl,kz,kZ,mj⟩,gy⟩:=dv hB hl cu u J R call c ai
   refine ch gy ?_
   refine eq (fX%2) 0 (fun gH=>?_) fun gH=>?_
   ·obtain ⟨_,(⟨bJ,br,aR,cV,rfl,aC,gJ,ie,jS,jR⟩|⟨cw,bn,ao,aW,e9,eN,rfl,an,iW,jN,gz,iu,j4,jo⟩),bO⟩:=db (hx _ @ih) f (depth-1) loop pure N aN u J R call c B ai (MS.mv ah)
    ·refine ch bO ?_
     have ⟨_,_,j3,gU,jT,ic,gc,gn,_,_,_⟩:=aC
     refine de [] ?_
     refine ll 0 [] ?_
     exact Aj ⟨[5,0,0,Yb,ac,X,aa,Q,0,af,bJ,br,u,J,aR],[[],ab],[Z,[],aV,cV,ai],[]⟩ (.inr ((⟨Γ,_,_,_,_,_,_,_,_,_,_,_,_,_,_,_,_,_,_,_,_,_,_,rfl,(MS.mv aC),AE,AE,kn,kn,kn,kn,kn,kn,kn,kn⟩)))
    refine cm bO ?_
    refine ch bO ?_
    have ⟨_,_,i1,hj,hY,gT,jC,h1,_,_,_⟩:=an
    refine de [] ?_
    refine ll 0 [] ?_
    exact Aj ⟨[5,0,0,Yb,ac,X,aa,Q,0,af,cw,bn,u,ao,aW],[[],ab],[Z,[],aV,e9,eN],[]⟩ (.inr ((⟨Γ,_,_,_,_,_,_,_,_,_,_,_,_,_,_,_,_,_,_,_,_,_,_,rfl,(MS.mv an),AE,AE,kn,kn,kn,kn,kn,kn,kn,kn⟩)))
   refine de [] ?_
   refine ll 0 [] ?_
   exact Aj ⟨[5,0,0,Yb,ac,X,aa,Q,0,af,0,aN,u,J,R],[[],ab],[Z,[],aV,[],ai],[]⟩ (.inr ((⟨Γ,_,_,_,_,_,_,_,_,_,_,_,_,_,_,_,_,_,_,_,_,_,_,rfl,(MS.mv ah),AE,AE,kn,kn,kn,kn,kn,kn,kn,kn⟩)))
  refine sn pure 0 (fun gC=>?_) fun gC=>?_
  ·obtain ⟨_,⟨dB,dE,eB,dZ,c9,b5,cO,fR,e6,fV,fp,rfl,bb,me,lR,kv,lk⟩,hi⟩:=U loop pure (depth+1) N g u count (left-1) call c B V (MS.mv k)
   refine ch hi ?_
   have ⟨_,_,lM,lg,l9,lq,k0,kN,_,_,_⟩:=bb
   exact Aj ⟨[3,0,0,5,17,0,0,dB,dE,eB,dZ,c9,b5,0,0,cO,(left-1)],[fR,[],e6],[fV,fp,[],[]],[]⟩ (.inl (⟨_,_,_,_,_,_,_,_,_,_,_,_,_,_,_,_,_,_,_,_,_,_,_,_,rfl,(MS.mv bb),AE,kn,kn,kn,kn,kn,kn⟩))
  refine Cp pure 1 ?_
  obtain ⟨_,(⟨eQ,c4,ee,fb,cL,bp,dS,eP,dk,rfl,az,js,iv,g0⟩|⟨eM,dF,ew,ef,eg,dM,b4,bh,bV,aL,es,eK,d7,fc,rfl,aq,ig,iN,iX,iC,jy,jB⟩),cB⟩:=aM loop pure (depth+1) f N g u count (left-1) call c B V (MS.mv k)
  ·refine ch cB ?_
   have ⟨_,_,gl,iA,g5,j6,hS,g4,_,_,_⟩:=az
   exact Aj ⟨[2,0,0,eQ,c4,ee,fb,cL,0,0,0,0,0,0,0,bp,(left-1)],[dS,eP,[]],[dk,[],[],[]],[]⟩ (.inl (⟨_,_,_,_,_,_,_,_,_,_,_,_,_,_,_,_,_,_,_,_,_,_,_,_,rfl,(MS.mv az),AE,kn,kn,kn,kn,kn,kn⟩))
  refine cm cB ?_
  refine ch cB ?_
  have ⟨_,_,jL,g9,gQ,j1,iL,gF,_,_,_⟩:=aq
  exact Aj ⟨[1,dF,0,ew,ef,eg,dM,b4,0,0,0,bh,bV,aL,(left-1)],[es,eK],[d7,[],[],[],fc],[]⟩ (.inr ((⟨eM,_,_,_,_,_,_,_,_,_,_,_,_,_,_,_,_,_,_,_,_,_,_,rfl,(MS.mv aq),AE,AE,kn,kn,kn,kn,kn,kn,kn,kn⟩)))
 refine eq (O%14) 5 (fun i4=>?_) fun i4=>?_
 ·refine gt depth 0 (fun jn=>?_) fun jn=>?_
  ·obtain ⟨_,⟨bW,bI,bK,cd,a8,cG,cg,cq,rfl,kT,kL,lP,mf⟩,ht⟩:=ba (k.Fy count (left-1)) 3 3 g
   refine ch ht ?_
   obtain ⟨_,⟨bS,b8,rfl,kA,k6,lp⟩,iE⟩:=h8 hB hl cG u count (left-1) call c V
   refine ch iE ?_
   obtain ⟨_,(⟨cP,bo,a0,e5,rfl,aA,jV,iP,hr,hK⟩|⟨bA,bv,aE,aY,et,eC,rfl,av,iH,h6,je,hz,j2,iI⟩),bZ⟩:=cD @ih f (depth-1) 1 pure N b8 u count (left-1) call c B V (MS.mv k)
   ·refine ch bZ ?_
    have ⟨_,_,gE,kd,ip,ju,iS,gP,_,_,_⟩:=aA
    refine de [] ?_
    refine ll 0 [] ?_
    exact Aj ⟨[6,0,(1+(bS%4)),bW,bI,bK,cd,a8,0,0,0,0,0,cP,0,bo,a0],[[],cg,[]],[cq,[],e5,[]],[]⟩ (.inl (⟨_,_,_,_,_,_,_,_,_,_,_,_,_,_,_,_,_,_,_,_,_,_,_,_,rfl,(MS.mv aA),AE,kn,kn,kn,kn,kn,kn⟩))
   refine cm bZ ?_
   refine ch bZ ?_
   have ⟨_,_,gS,iY,he,gL,h0,il,_,_,_⟩:=av
   refine de [] ?_
   refine ll 0 [] ?_
   exact Aj ⟨[6,0,(1+(bS%4)),bW,bI,bK,cd,a8,0,bA,0,bv,u,aE,aY],[[],cg],[cq,[],et,[],eC],[]⟩ (.inr ((⟨Γ,_,_,_,_,_,_,_,_,_,_,_,_,_,_,_,_,_,_,_,_,_,_,rfl,(MS.mv av),AE,AE,kn,kn,kn,kn,kn,kn,kn,kn⟩)))
  refine sn pure 0 (fun io=>?_) fun io=>?_
  ·obtain ⟨_,⟨eW,eG,c8,dp,ed,bC,bH,fL,e0,f7,cS,rfl,a6,kH,kV,lF,kg⟩,ji⟩:=U loop pure (depth+1) N g u count (left-1) call c B V (MS.mv k)
   refine ch ji ?_
   have ⟨_,_,kt,k4,lH,kp,ln,kq,_,_,_⟩:=a6
   exact Aj ⟨[3,0,0,5,17,0,0,eW,eG,c8,dp,ed,bC,0,0,bH,(left-1)],[fL,[],e0],[f7,cS,[],[]],[]⟩ (.inl (⟨_,_,_,_,_,_,_,_,_,_,_,_,_,_,_,_,_,_,_,_,_,_,_,_,rfl,(MS.mv a6),AE,kn,kn,kn,kn,kn,kn⟩))
  refine Cp pure 1 ?_
  obtain ⟨_,(⟨fa,dX,ek,d3,cy,bq,cW,dc,c1,rfl,aO,jU,hp,hn⟩|⟨dW,eL,dU,en,e7,eX,ce,bf,ct,aJ,fg,eO,eD,ej,rfl,ap,jH,ir,jp,hN,jt,gf⟩),cc⟩:=aM loop pure (depth+1) f N g u count (left-1) call c B V (MS.mv k)
  ·refine ch cc ?_
   have ⟨_,_,h5,iU,iy,iF,gd,jQ,_,_,_⟩:=aO
   exact Aj ⟨[2,0,0,fa,dX,ek,d3,cy,0,0,0,0,0,0,0,bq,(left-1)],[cW,dc,[]],[c1,[],[],[]],[]⟩ (.inl (⟨_,_,_,_,_,_,_,_,_,_,_,_,_,_,_,_,_,_,_,_,_,_,_,_,rfl,(MS.mv aO),AE,kn,kn,kn,kn,kn,kn⟩))
  refine cm cc ?_
  refine ch cc ?_
  have ⟨_,_,hJ,hE,gX,gO,iQ,jD,_,_,_⟩:=ap
  exact Aj ⟨[1,eL,0,dU,en,e7,eX,ce,0,0,0,bf,ct,aJ,(left-1)],[fg,eO],[eD,[],[],[],ej],[]⟩ (.inr ((⟨dW,_,_,_,_,_,_,_,_,_,_,_,_,_,_,_,_,_,_,_,_,_,_,rfl,(MS.mv ap),AE,AE,kn,kn,kn,kn,kn,kn,kn,kn⟩)))
 refine eq (O%14) 6 (fun j8=>?_) fun j8=>?_
 ·refine sn loop 0 (fun i8=>?_) fun i8=>?_
  ·refine sn pure 0 (fun jI=>?_) fun jI=>?_
   ·obtain ⟨_,⟨ey,eZ,dR,dx,ft,co,bE,f1,c3,fS,dg,rfl,a2,kr,mC,lo,lZ⟩,i6⟩:=U loop pure (depth+1) N g u count (left-1) call c B V (MS.mv k)
    refine ch i6 ?_
    have ⟨_,_,kU,lC,kB,lc,lr,mw,_,_,_⟩:=a2
    exact Aj ⟨[3,0,0,5,17,0,0,ey,eZ,dR,dx,ft,co,0,0,bE,(left-1)],[f1,[],c3],[fS,dg,[],[]],[]⟩ (.inl (⟨_,_,_,_,_,_,_,_,_,_,_,_,_,_,_,_,_,_,_,_,_,_,_,_,rfl,(MS.mv a2),AE,kn,kn,kn,kn,kn,kn⟩))
   refine Cp pure 1 ?_
   obtain ⟨_,(⟨eI,dT,fh,eo,bL,bj,d0,em,ei,rfl,aI,gM,j5,jO⟩|⟨eU,c2,eA,fm,dw,d9,b1,bk,cK,am,fj,cY,du,dI,rfl,ay,hI,gY,iZ,iq,g6,jh⟩),cM⟩:=aM loop pure (depth+1) f N g u count (left-1) call c B V (MS.mv k)
   ·refine ch cM ?_
    have ⟨_,_,hC,h7,gW,ka,gm,g8,_,_,_⟩:=aI
    exact Aj ⟨[2,0,0,eI,dT,fh,eo,bL,0,0,0,0,0,0,0,bj,(left-1)],[d0,em,[]],[ei,[],[],[]],[]⟩ (.inl (⟨_,_,_,_,_,_,_,_,_,_,_,_,_,_,_,_,_,_,_,_,_,_,_,_,rfl,(MS.mv aI),AE,kn,kn,kn,kn,kn,kn⟩))
   refine cm cM ?_
   refine ch cM ?_
   have ⟨_,_,iz,jA,gu,gk,gZ,jf,_,_,_⟩:=ay
   exact Aj ⟨[1,c2,0,eA,fm,dw,d9,b1,0,0,0,bk,cK,am,(left-1)],[fj,cY],[du,[],[],[],dI],[]⟩ (.inr ((⟨eU,_,_,_,_,_,_,_,_,_,_,_,_,_,_,_,_,_,_,_,_,_,_,rfl,(MS.mv ay),AE,AE,kn,kn,kn,kn,kn,kn,kn,kn⟩)))
  refine Cp loop 1 ?_
  obtain ⟨_,⟨fI,b2,rfl,ld,lO,lA⟩,jY⟩:=h8 hB hl g u count (left-1) call c V
  refine ch jY ?_
  refine de [] ?_
  refine ll 0 [] ?_
  exact Aj ⟨[(7+(fI%2)),0,0,0,0,0,0,0,0,0,0,0,0,0,0,b2,(left-1)],[[],[],[]],[[],[],[],[]],[]⟩ (.inl (⟨_,_,_,_,_,_,_,_,_,_,_,_,_,_,_,_,_,_,_,_,_,_,_,_,rfl,(MS.mv k),AE,kn,kn,kn,kn,kn,kn⟩))
 refine sn pure 0 (fun iV=>?_) fun iV=>?_
 ·refine eq (O%14) 7 (fun ja=>?_) fun ja=>?_
  ·refine sn aB 0 (fun jc=>?_) fun jc=>?_
   ·obtain ⟨_,⟨cT,eH,dj,e2,eS,cE,bX,fO,c5,fU,dK,rfl,bd,mm,ml,mA,ky⟩,iK⟩:=U loop pure (depth+1) N g u count (left-1) call c B V (MS.mv k)
    refine ch iK ?_
    have ⟨_,_,mg,lS,kX,lV,mD,kF,_,_,_⟩:=bd
    exact Aj ⟨[3,0,0,5,17,0,0,cT,eH,dj,e2,eS,cE,0,0,bX,(left-1)],[fO,[],c5],[fU,dK,[],[]],[]⟩ (.inl (⟨_,_,_,_,_,_,_,_,_,_,_,_,_,_,_,_,_,_,_,_,_,_,_,_,rfl,(MS.mv bd),AE,kn,kn,kn,kn,kn,kn⟩))
   refine Cp aB 1 ?_
   refine de [] ?_
   refine ll 0 [] ?_
   exact Aj ⟨[10,0,0,0,0,0,0,0,0,0,0,0,0,0,0,g,(left-1)],[[],[],[]],[[],[],[],[]],[]⟩ (.inl (⟨_,_,_,_,_,_,_,_,_,_,_,_,_,_,_,_,_,_,_,_,_,_,_,_,rfl,(MS.mv k),AE,kn,kn,kn,kn,kn,kn⟩))
  refine eq (O%14) 8 (fun jK=>?_) fun jK=>?_
  ·refine sn aB 0 (fun f9=>?_) fun f9=>?_
   ·obtain ⟨_,⟨eT,e4,e3,eJ,ea,cn,bY,f2,dt,fT,eV,rfl,a5,lf,kK,lx,kI⟩,gI⟩:=U loop pure (depth+1) N g u count (left-1) call c B V (MS.mv k)
    refine ch gI ?_
    have ⟨_,_,kO,lQ,kP,k5,kS,kG,_,_,_⟩:=a5
    exact Aj ⟨[3,0,0,5,17,0,0,eT,e4,e3,eJ,ea,cn,0,0,bY,(left-1)],[f2,[],dt],[fT,eV,[],[]],[]⟩ (.inl (⟨_,_,_,_,_,_,_,_,_,_,_,_,_,_,_,_,_,_,_,_,_,_,_,_,rfl,(MS.mv a5),AE,kn,kn,kn,kn,kn,kn⟩))
   refine Cp aB 1 ?_
   obtain ⟨_,(⟨cF,eu,dy,d5,dz,b9,cR,cA,bU,bM,bw,be,ec,dN,b7,e8,bD,rfl,aF,iO,ix,gB,hX⟩|⟨eR,c7,dP,dC,dJ,eF,cQ,bt,bP,al,ep,eb,d2,cZ,rfl,aH,hO,jx,h2,i0,i2,hZ⟩),cr⟩:=gV loop pure (depth+1) f N g u count (left-1) call c B V (MS.mv k)
   ·refine ch cr ?_
    have ⟨_,_,ij,gq,jv,gv,kb,hR,_,_,_⟩:=aF
    exact Aj ⟨[12,cF,0,eu,dy,d5,dz,b9,cR,cA,bU,bM,bw,0,0,be,(left-1)],[ec,dN,b7],[e8,bD,[],[]],[]⟩ (.inl (⟨_,_,_,_,_,_,_,_,_,_,_,_,_,_,_,_,_,_,_,_,_,_,_,_,rfl,(MS.mv aF),AE,kn,kn,kn,kn,kn,kn⟩))
   refine cm cr ?_
   refine ch cr ?_
   have ⟨_,_,jG,gr,gs,g7,iR,hA,_,_,_⟩:=aH
   exact Aj ⟨[1,c7,0,dP,dC,dJ,eF,cQ,0,0,0,bt,bP,al,(left-1)],[ep,eb],[d2,[],[],[],cZ],[]⟩ (.inr ((⟨eR,_,_,_,_,_,_,_,_,_,_,_,_,_,_,_,_,_,_,_,_,_,_,rfl,(MS.mv aH),AE,AE,kn,kn,kn,kn,kn,kn,kn,kn⟩)))
  refine eq (O%14) 9 (fun hH=>?_) fun hH=>?_
  ·obtain ⟨_,⟨q,cJ,y,rfl,lX,lL,lY,kl⟩,hP⟩:=hF (k.Fy count (left-1)) (Jr.of (k.Fy count (left-1)) (n:=10) @ba) 8 3 g
   refine ch hP ?_
   obtain ⟨_,⟨AcQ,bG,rfl,l2,mz,lN⟩,i3⟩:=h8 hB hl cJ u count (left-1) call c V
   refine ch i3 ?_
   obtain ⟨_,⟨C,cb,rfl,k2,mc,mh⟩,hU⟩:=h8 hB hl bG u count (left-1) call c V
   refine ch hU ?_
   obtain ⟨_,⟨D,z,x,A,o,j,H,v,rfl,lW,mp,kC,lK⟩,jm⟩:=ba (k.Fy count (left-1)) 1 3 cb
   refine ch jm ?_
   refine eq (AcQ%2) 0 (fun gp=>?_) fun gp=>?_
   ·refine eq (C%6) 0 (fun h3=>?_) fun h3=>?_
    ·refine de [] ?_
     refine ll 0 [] ?_
     exact Aj ⟨[4,10,0,5,17,0,0,q,D,z,x,A,o,0,0,j,(left-1)],[[97],[],H],[y,v,[],[]],[]⟩ (.inl (⟨_,_,_,_,_,_,_,_,_,_,_,_,_,_,_,_,_,_,_,_,_,_,_,_,rfl,(MS.mv k),AE,kn,kn,kn,kn,kn,kn⟩))
    refine eq (C%6) 1 (fun hq=>?_) fun hq=>?_
    ·refine de [] ?_
     refine ll 0 [] ?_
     exact Aj ⟨[4,22,0,5,17,0,0,q,D,z,x,A,o,0,0,j,(left-1)],[[97],[],H],[y,v,[],[]],[]⟩ (.inl (⟨_,_,_,_,_,_,_,_,_,_,_,_,_,_,_,_,_,_,_,_,_,_,_,_,rfl,(MS.mv k),AE,kn,kn,kn,kn,kn,kn⟩))
    refine eq (C%6) 2 (fun jq=>?_) fun jq=>?_
    ·refine de [] ?_
     refine ll 0 [] ?_
     exact Aj ⟨[4,23,0,5,17,0,0,q,D,z,x,A,o,0,0,j,(left-1)],[[97],[],H],[y,v,[],[]],[]⟩ (.inl (⟨_,_,_,_,_,_,_,_,_,_,_,_,_,_,_,_,_,_,_,_,_,_,_,_,rfl,(MS.mv k),AE,kn,kn,kn,kn,kn,kn⟩))
    refine eq (C%6) 3 (fun iM=>?_) fun iM=>?_
    ·refine de [] ?_
     refine ll 0 [] ?_
     exact Aj ⟨[4,17,0,5,17,0,0,q,D,z,x,A,o,0,0,j,(left-1)],[[97],[],H],[y,v,[],[]],[]⟩ (.inl (⟨_,_,_,_,_,_,_,_,_,_,_,_,_,_,_,_,_,_,_,_,_,_,_,_,rfl,(MS.mv k),AE,kn,kn,kn,kn,kn,kn⟩))
    refine eq (C%6) 4 (fun gN=>?_) fun gN=>?_
    ·refine de [] ?_
     refine ll 0 [] ?_
     exact Aj ⟨[4,18,0,5,17,0,0,q,D,z,x,A,o,0,0,j,(left-1)],[[97],[],H],[y,v,[],[]],[]⟩ (.inl (⟨_,_,_,_,_,_,_,_,_,_,_,_,_,_,_,_,_,_,_,_,_,_,_,_,rfl,(MS.mv k),AE,kn,kn,kn,kn,kn,kn⟩))
    refine BI (C%6) 5 ?_
    refine de [] ?_
    refine ll 0 [] ?_
    exact Aj ⟨[4,19,0,5,17,0,0,q,D,z,x,A,o,0,0,j,(left-1)],[[97],[],H],[y,v,[],[]],[]⟩ (.inl (⟨_,_,_,_,_,_,_,_,_,_,_,_,_,_,_,_,_,_,_,_,_,_,_,_,rfl,(MS.mv k),AE,kn,kn,kn,kn,kn,kn⟩))
   refine BI (AcQ%2) 1 ?_
   refine eq (C%6) 0 (fun i5=>?_) fun i5=>?_
   ·refine de [] ?_
    refine ll 0 [] ?_
    exact Aj ⟨[4,10,0,5,17,0,0,q,D,z,x,A,o,0,0,j,(left-1)],[[115],[],H],[y,v,[],[]],[]⟩ (.inl (⟨_,_,_,_,_,_,_,_,_,_,_,_,_,_,_,_,_,_,_,_,_,_,_,_,rfl,(MS.mv k),AE,kn,kn,kn,kn,kn,kn⟩))
   refine eq (C%6) 1 (fun jZ=>?_) fun jZ=>?_
   ·refine de [] ?_
    refine ll 0 [] ?_
    exact Aj ⟨[4,22,0,5,17,0,0,q,D,z,x,A,o,0,0,j,(left-1)],[[115],[],H],[y,v,[],[]],[]⟩ (.inl (⟨_,_,_,_,_,_,_,_,_,_,_,_,_,_,_,_,_,_,_,_,_,_,_,_,rfl,(MS.mv k),AE,kn,kn,kn,kn,kn,kn⟩))
   refine eq (C%6) 2 (fun gR=>?_) fun gR=>?_
   ·refine de [] ?_
    refine ll 0 [] ?_
    exact Aj ⟨[4,23,0,5,17,0,0,q,D,z,x,A,o,0,0,j,(left-1)],[[115],[],H],[y,v,[],[]],[]⟩ (.inl (⟨_,_,_,_,_,_,_,_,_,_,_,_,_,_,_,_,_,_,_,_,_,_,_,_,rfl,(MS.mv k),AE,kn,kn,kn,kn,kn,kn⟩))
   refine eq (C%6) 3 (fun hy=>?_) fun hy=>?_
   ·refine de [] ?_
    refine ll 0 [] ?_
    exact Aj ⟨[4,17,0,5,17,0,0,q,D,z,x,A,o,0,0,j,(left-1)],[[115],[],H],[y,v,[],[]],[]⟩ (.inl (⟨_,_,_,_,_,_,_,_,_,_,_,_,_,_,_,_,_,_,_,_,_,_,_,_,rfl,(MS.mv k),AE,kn,kn,kn,kn,kn,kn⟩))
   refine eq (C%6) 4 (fun jP=>?_) fun jP=>?_
   ·refine de [] ?_
    refine ll 0 [] ?_
    exact Aj ⟨[4,18,0,5,17,0,0,q,D,z,x,A,o,0,0,j,(left-1)],[[115],[],H],[y,v,[],[]],[]⟩ (.inl (⟨_,_,_,_,_,_,_,_,_,_,_,_,_,_,_,_,_,_,_,_,_,_,_,_,rfl,(MS.mv k),AE,kn,kn,kn,kn,kn,kn⟩))
   refine BI (C%6) 5 ?_
   refine de [] ?_
   refine ll 0 [] ?_
   exact Aj ⟨[4,19,0,5,17,0,0,q,D,z,x,A,o,0,0,j,(left-1)],[[115],[],H],[y,v,[],[]],[]⟩ (.inl (⟨_,_,_,_,_,_,_,_,_,_,_,_,_,_,_,_,_,_,_,_,_,_,_,_,rfl,(MS.mv k),AE,kn,kn,kn,kn,kn,kn⟩))
  refine eq (O%14) 10 (fun iB=>?_) fun iB=>?_
  ·obtain ⟨_,⟨fK,bN,rfl,mB,kh,kW⟩,jg⟩:=h8 hB hl g u count (left-1) call c V
   refine ch jg ?_
   refine de [] ?_
   refine ll 0 [] ?_
   exact Aj ⟨[11,(1+(fK%2)),0,0,0,0,0,0,0,0,0,0,0,0,0,bN,(left-1)],[[],[],[]],[[],[],[],[]],[]⟩ (.inl (⟨_,_,_,_,_,_,_,_,_,_,_,_,_,_,_,_,_,_,_,_,_,_,_,_,rfl,(MS.mv k),AE,kn,kn,kn,kn,kn,kn⟩))
  obtain ⟨_,⟨eY,cU,dA,fu,er,b6,b3,fM,c6,f6,e1,rfl,a3,ly,lj,mx,kx⟩,hW⟩:=U loop pure (depth+1) N g u count (left-1) call c B V (MS.mv k)
  refine ch hW ?_
  have ⟨_,_,k8,la,l4,l6,l7,mu,_,_,_⟩:=a3
  exact Aj ⟨[3,0,0,5,17,0,0,eY,cU,dA,fu,er,b6,0,0,b3,(left-1)],[fM,[],c6],[f6,e1,[],[]],[]⟩ (.inl (⟨_,_,_,_,_,_,_,_,_,_,_,_,_,_,_,_,_,_,_,_,_,_,_,_,rfl,(MS.mv a3),AE,kn,kn,kn,kn,kn,kn⟩))
 refine Cp pure 1 ?_
 obtain ⟨_,(⟨dH,dl,fo,di,bR,bm,d1,dD,dY,rfl,au,gb,i7,im⟩|⟨fd,fi,dG,ez,d4,fq,cI,bg,cf,aw,cX,fe,fk,dV,rfl,aG,gx,jr,jM,ke,iJ,jk⟩),b0⟩:=aM loop pure (depth+1) f N g u count (left-1) call c B V (MS.mv k)
 ·refine ch b0 ?_
  have ⟨_,_,hQ,jX,jb,ii,gK,ik,_,_,_⟩:=au
  exact Aj ⟨[2,0,0,dH,dl,fo,di,bR,0,0,0,0,0,0,0,bm,(left-1)],[d1,dD,[]],[dY,[],[],[]],[]⟩ (.inl (⟨_,_,_,_,_,_,_,_,_,_,_,_,_,_,_,_,_,_,_,_,_,_,_,_,rfl,(MS.mv au),AE,kn,kn,kn,kn,kn,kn⟩))
 refine cm b0 ?_
 refine ch b0 ?_
 have ⟨_,_,gj,jF,h4,ia,iw,jW,_,_,_⟩:=aG
 exact Aj ⟨[1,fi,0,dG,ez,d4,fq,cI,0,0,0,bg,cf,aw,(left-1)],[cX,fe],[fk,[],[],[],dV],[]⟩ (.inr ((⟨fd,_,_,_,_,_,_,_,_,_,_,_,_,_,_,_,_,_,_,_,_,_,_,rfl,(MS.mv aG),AE,AE,kn,kn,kn,kn,kn,kn,kn,kn⟩)))
theorem U5 {E:Bool} {d k g P z y o x C v A c j:Nat} (U:trees k=Yy d P z y o x C v A c j) (X:T0 P) (D:Y6 E z) (Q:Ab7 E y) (R:R7 o) (H:Ab6 E x) (O:Ab5 E C) (N:Vx o v) (J:Y3 E k A) (u:T0 c) (q:Y3 false g j) (hx:∀n,Gn E k n→Gn false g n):AdA E k:=fun {Γ} {K} {M} f depth top loop pure bl pos vl count left call loads B V hM h=>Alj U @X @D @Q @R @H @O @N @J @u @q hx (depth.toNat+1) f depth top loop pure bl pos vl count left call loads B V hM ⟨h.1,h.2.1,h.2.2.1,h.2.2.2.1,h.2.2.2.2.1,h.2.2.2.2.2,Nat.lt_succ_self _⟩
end Go.Proofs.YtbmofjdmgjpfoaaGreatDoor.Am
end
section
set_option maxHeartbeats 4000000
set_option maxRecDepth 100000
namespace Go.Proofs.YtbmofjdmgjpfoaaGreatDoor.Am
open Go.AM Go.AM.K
theorem AfJ:Y6 false 14:=by
 intro Γ f K M lo pu D bl pos v count left call k B V q h
 have ⟨X,aj,aq,av,au,ak,ah,an,aw,al,am⟩:=q;have ⟨hB,hl,hvl,Hq,hV,hb,hc,hd⟩:=X;have ap:G 3=40:=rfl;have ai:G 2=12:=rfl;have ao:G (3-1)=12:=rfl
 refine .of (t:=AcI) rfl ?_
 unfold AcI
 obtain ⟨_,⟨g,j,rfl,O,R,N⟩,G1⟩:=LB hB hl pos v count left call k V
 refine ch G1 ?_
 obtain ⟨_,⟨z,y,A,J,x,o,H,C,rfl,ag,ab,ad,P⟩,G2⟩:=Jm (q.Fy count left) (1+(g%3)) 3 j
 refine ch G2 ?_
 obtain ⟨_,⟨c,rfl,aa,Z⟩,G3⟩:=AiR count
 refine ch G3 ?_
 refine ca [118] c ?_
 refine dL (V.take v.toNat++[[PV.str ([118]++c),.int .i64 (1+(g%3))]]) (fun u Q=>?_) (BG (pt v V) pe)
 have U:=cL Q;try simp only [lA,lC,lN,lT']at U
 refine FA (u.length:Int) 1048576 ?_
 refine de [] ?_
 refine ll 0 [] ?_
 exact Aj ⟨[(1+(g%3)),z,y,A,J,x,0,0,0,o,(u.length:Int),(count+1)],[([118]++c),H],[C,[],[],[],u],[]⟩ (⟨(Γ.I1 ([118]++c) (3,(1+(g%3)),0)),_,_,_,_,_,_,_,_,_,_,_,_,_,rfl,(by subst_vars;exact MS.more q ‹_› om om om),(Ei.decl (d:=3) q ‹_› ‹_› om),(by subst_vars;exact Ext.more om),kn,om,kn,kn⟩)
theorem AfH:Y6 true 20:=by
 intro Γ f K M lo pu D bl pos Z count left call k B V q h
 have ⟨X,ak,aq,av,au,al,ai,an,ax,am,y⟩:=q;have ⟨hB,hl,hvl,Hq,hV,hb,hc,hd⟩:=X;have ap:G 3=40:=rfl;have aj:G 2=12:=rfl;have ao:G (3-1)=12:=rfl;have aw:=y rfl
 refine .of (t:=AcH) rfl ?_
 unfold AcH
 obtain ⟨_,⟨g,j,rfl,O,R,N⟩,G1⟩:=Yu hB hl pos Z count left call k V
 refine ch G1 ?_
 obtain ⟨_,⟨z,x,A,J,v,o,H,C,rfl,ah,ac,ae,P⟩,G2⟩:=Vk (q.Fy count left) (1+(g%3)) 3 j
 refine ch G2 ?_
 obtain ⟨_,⟨c,rfl,ab,aa⟩,G3⟩:=AiR count
 refine ch G3 ?_
 refine ca [118] c ?_
 refine dL (V++[[PV.str ([118]++c),.int .i64 (1+(g%3))]]) (fun u Q=>?_) (BG rfl pe)
 have U:=cL Q;try simp only [lA,lC,lN,lT']at U
 refine FA (u.length:Int) 1048576 ?_
 refine de [] ?_
 refine ll 0 [] ?_
 exact Aj ⟨[(1+(g%3)),z,x,A,J,v,0,0,0,o,(u.length:Int),(count+1)],[([118]++c),H],[C,[],[],[],u],[]⟩ (⟨(Γ.I1 ([118]++c) (3,(1+(g%3)),0)),_,_,_,_,_,_,_,_,_,_,_,_,_,rfl,(by subst_vars;exact MS.Aam q ‹_› om om om),(Ei.decl (d:=3) q ‹_› ‹_› om),(by subst_vars;exact Ext.Aam om),kn,om,kn,kn⟩)
theorem Amf:Ab7 false 15:=@Adk false 1 15 8 14 16 rfl @LB @AfJ @Jm
theorem Amd:Ab7 true 21:=@Adk true 0 21 9 20 22 rfl @Yu @AfH @Vk
theorem O5:Ab6 false 17:=@Aiz false 1 17 8 16 19 rfl @LB @Jm @AfI
theorem Amc:Ab6 true 23:=@Aiz true 0 23 9 22 25 rfl @Yu @Vk @AfG
theorem Ame:Ab5 false 18:=@Adj false 1 18 8 14 16 rfl @LB @AfJ @Jm
theorem Amb:Ab5 true 24:=@Adj true 0 24 9 20 22 rfl @Yu @AfH @Vk
end Go.Proofs.YtbmofjdmgjpfoaaGreatDoor.Am
end
