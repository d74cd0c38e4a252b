/- Part 15 of the proof of TypesAccepts. -/
import Derived.Test.YtbmofjdmgjpfoaaGreatDoorC11
set_option linter.all false
section
set_option maxHeartbeats 4000000
set_option maxRecDepth 100000
namespace Go.Proofs.YtbmofjdmgjpfoaaGreatDoor.Am
open Go.AM Go.AM.K
def Th (N:Nat):Prop:=∀{g:Int} {B:Rs} (hB:Dz B) (hl:g=B.length) (pos k:Int) (count left:Int) (call d:Int) (V:Rs) (h:0≤pos∧pos≤1000000:=by exact kn),Ok trees N ⟨[g,pos,k,count,left,call,d],[],[B,V],[]⟩ fun j=>(∃(r c:Int),j=(0,(⟨[r,c],[],[],[]⟩:Ah))∧(c=pos+1)∧(0≤r)∧(r≤255))
theorem XL {d k:Nat} (q:trees k=T_8 d):Th k:=by
 intro j B hB hl pos y count left call o V h
 refine .of (t:=T_8 d) q ?_
 unfold T_8
 refine gt (pos+1) j (fun u=>?_) fun u=>?_
 ·exact Aj ⟨[0,(pos+1)],[],[],[]⟩ (⟨_,_,rfl,kn,kn,kn⟩)
 refine CX ((pos+1)-1) 0 ?_
 refine BD ((pos+1)-1) j ?_
 obtain ⟨g,c,v,x⟩:=Pr hB ((pos+1)-1) (by omega) (by omega)
 refine el c ?_
 exact Aj ⟨[g,(pos+1)],[],[],[]⟩ (⟨_,_,rfl,kn,kn,kn⟩)
theorem Lr:Th 8:=@XL 1 8 rfl
theorem Yg:Th 9:=@XL 0 9 rfl
def AjV (N:Nat) (Γ:Ctx) (f o:Int) (g count:Int) (left call loads:Int) (B V:Rs) (n:Nat):Prop:=∀(t j pos:Int) (h:0≤j∧j≤g∧(g-j).toNat<n),Ok trees N ⟨[t,j,o,pos,g,count,left,call,loads],[],[B,V],[]⟩ fun k=>(k=(0,v0))∨(∃(c:Int),∃(d:Rs),k=(1,(⟨[c],[],[d],[]⟩:Ah))∧(HX Γ t d)∧(c=d.length)∧(d.length≤40)∧(0<c))
def AfA (N:Nat):Prop:=∀{Γ:Ctx} {f k:Int} {g count:Int} {left call loads:Int} {B V:Rs} (q:NN Γ f k g count left call loads B V) (t j pos:Int) (h:0≤j∧j≤g:=by exact kn),Ok trees N ⟨[t,j,k,pos,g,count,left,call,loads],[],[B,V],[]⟩ fun o=>(o=(0,v0))∨(∃(c:Int),∃(d:Rs),o=(1,(⟨[c],[],[d],[]⟩:Ah))∧(HX Γ t d)∧(c=d.length)∧(d.length≤40)∧(0<c))
def Adl (N:Nat):Prop:=∀{Γ:Ctx} {f d:Int} {j count:Int} {left call loads:Int} {B V:Rs} (o:NN Γ f d j count left call loads B V) (t pos:Int) (h:0≤pos∧pos≤1000000:=by exact kn),Ok trees N ⟨[t,d,pos,j,count,left,call,loads],[],[B,V],[]⟩ fun k=>(k=(0,v0))∨(∃(c:Int),∃(g:List Nat),k=(1,(⟨[c],[g],[],[]⟩:Ah))∧(Px Γ t g)∧(c=pos+1))
theorem AcG {d u x j:Nat} (P:trees u=AaZ d x j) (O:Th x) (C:AfA j):Adl u:=by
 intro Γ f bl U count left call q B V A t pos h
 have ⟨hB,hl,hvl,Hi,hV,hb,hc,hd⟩:=A
 refine .of (t:=AaZ d x j) P ?_
 unfold AaZ
 obtain ⟨_,(rfl|⟨c,ab,rfl,k,D,J,H⟩),v⟩:=C A t 0 pos
 ·refine ch v ?_
  exact Aj v0 (.inl rfl)
 refine cm v ?_
 refine ch v ?_
 refine eq c 0 (fun Z=>?_) fun Z=>?_
 ·exact Aj v0 (.inl rfl)
 obtain ⟨_,⟨g,o,rfl,R,Q,M⟩,G3⟩:=O hB hl pos U count left call q V
 refine ch G3 ?_
 have m4:=Int.emod_nonneg g (show c≠0 by omega);have ac:=Int.emod_lt_of_pos g (show 0<c by omega)
 refine CX (g%c) 0 ?_
 refine BD (g%c) c ?_
 obtain ⟨z,y,N⟩:=k (g%c) (by omega) (by omega)
 refine el y ?_
 exact Aj ⟨[o],[z],[],[]⟩ (.inr ((⟨_,_,rfl,fin,kn⟩)))
def Yp (N:Nat):Prop:=∀{Γ:Ctx} {f q:Int} {k count:Int} {left call loads:Int} {B V:Rs} (z:NN Γ f q k count left call loads B V) (t pos:Int) (h:1≤t∧t≤3∧0≤pos∧pos+2≤1000000:=by exact kn),Ok trees N ⟨[t,q,pos,k,count,left,call,loads],[],[B,V],[]⟩ fun y=>(∃(x v o u d c:Int),∃(j:List Nat),∃(g:Rs),y=(0,(⟨[x,v,o,u,d,c],[j],[g],[]⟩:Ah))∧(Dd Γ t 1 x v o u j g)∧(d=g.length)∧(pos≤c)∧(c≤pos+2))
theorem Aal {d q x k:Nat} (O:trees q=Abd d x k) (N:Th x) (y:Adl k):Yp q:=by
 intro Γ f bl Z count left call o B V z t pos h
 have ⟨hB,hl,hvl,Hi,hV,hb,hc,hd⟩:=z
 refine .of (t:=Abd d x k) O ?_
 unfold Abd
 obtain ⟨_,⟨c,j,rfl,R,ac,U⟩,J⟩:=N hB hl pos Z count left call o V
 refine ch J ?_
 obtain ⟨_,(rfl|⟨g,v,rfl,C,A⟩),u⟩:=y z t j
 ·refine ch u ?_
  refine eq t 1 (fun D=>?_) fun D=>?_
  ·refine eq (c%4) 1 (fun t4=>?_) fun t4=>?_
   ·refine de [] ?_
    refine ll 0 [] ?_
    exact Aj ⟨[3,(1+((c/4)%7)),0,0,0,j],[[]],[[]],[]⟩ (⟨_,_,_,_,_,_,_,_,rfl,fin,kn,kn,kn⟩)
   refine de [] ?_
   refine ll 0 [] ?_
   exact Aj ⟨[1,0,t,((c%16)-4),0,j],[[]],[[]],[]⟩ (⟨_,_,_,_,_,_,_,_,rfl,fin,kn,kn,kn⟩)
  refine eq t 2 (fun P=>?_) fun P=>?_
  ·refine de [] ?_
   refine ll 0 [] ?_
   exact Aj ⟨[1,0,t,((c*16384)-100000),0,j],[[]],[[]],[]⟩ (⟨_,_,_,_,_,_,_,_,rfl,fin,kn,kn,kn⟩)
  refine de [] ?_
  refine ll 0 [] ?_
  exact Aj ⟨[1,0,t,((c/4)%2),0,j],[[]],[[]],[]⟩ (⟨_,_,_,_,_,_,_,_,rfl,fin,kn,kn,kn⟩)
 refine cm u ?_
 refine ch u ?_
 refine eq (c%2) 0 (fun t6=>?_) fun t6=>?_
 ·refine de [] ?_
  refine ll 0 [] ?_
  exact Aj ⟨[2,0,0,0,0,g],[v],[[]],[]⟩ (⟨_,_,_,_,_,_,_,_,rfl,fin,kn,kn,kn⟩)
 refine eq t 1 (fun Q=>?_) fun Q=>?_
 ·refine eq (c%4) 1 (fun M=>?_) fun M=>?_
  ·refine de [] ?_
   refine ll 0 [] ?_
   exact Aj ⟨[3,(1+((c/4)%7)),0,0,0,g],[[]],[[]],[]⟩ (⟨_,_,_,_,_,_,_,_,rfl,fin,kn,kn,kn⟩)
  refine de [] ?_
  refine ll 0 [] ?_
  exact Aj ⟨[1,0,t,((c%16)-4),0,g],[[]],[[]],[]⟩ (⟨_,_,_,_,_,_,_,_,rfl,fin,kn,kn,kn⟩)
 refine eq t 2 (fun H=>?_) fun H=>?_
 ·refine de [] ?_
  refine ll 0 [] ?_
  exact Aj ⟨[1,0,t,((c*16384)-100000),0,g],[[]],[[]],[]⟩ (⟨_,_,_,_,_,_,_,_,rfl,fin,kn,kn,kn⟩)
 refine de [] ?_
 refine ll 0 [] ?_
 exact Aj ⟨[1,0,t,((c/4)%2),0,g],[[]],[[]],[]⟩ (⟨_,_,_,_,_,_,_,_,rfl,fin,kn,kn,kn⟩)
def Jp (N:Nat) (Γ:Ctx) (f x:Int) (v count:Int) (left call loads:Int) (B V:Rs) (n:Nat):Prop:=∀(t depth pos:Int) (h:1≤t∧t≤3∧depth≤3∧0≤pos∧pos+G depth≤1000000∧depth.toNat<n),Ok trees N ⟨[t,depth,x,pos,v,count,left,call,loads],[],[B,V],[]⟩ fun y=>(∃(u q k o d c:Int),∃(j:List Nat),∃(g:Rs),y=(0,(⟨[u,q,k,o,d,c],[j],[g],[]⟩:Ah))∧(Dd Γ t depth u q k o j g)∧(d=g.length)∧(pos≤c)∧(c≤pos+G depth))
def Rn (N:Nat):Prop:=∀{Γ:Ctx} {f u:Int} {k count:Int} {left call loads:Int} {B V:Rs} (z:NN Γ f u k count left call loads B V) (t depth pos:Int) (h:1≤t∧t≤3∧depth≤3∧0≤pos∧pos+G depth≤1000000:=by exact kn),Ok trees N ⟨[t,depth,u,pos,k,count,left,call,loads],[],[B,V],[]⟩ fun y=>(∃(x o q v d c:Int),∃(j:List Nat),∃(g:Rs),y=(0,(⟨[x,o,q,v,d,c],[j],[g],[]⟩:Ah))∧(Dd Γ t depth x o q v j g)∧(d=g.length)∧(pos≤c)∧(c≤pos+G depth))
theorem Jp.of {N:Nat} {Γ:Ctx} {f c:Int} {d count:Int} {left call loads:Int} {B V:Rs} (g:NN Γ f c d count left call loads B V) {n:Nat} (H:Rn N):Jp N Γ f c d count left call loads B V n:=fun t depth pos h=>H g t depth pos (by have:=h;omega)
def Vg (q N:Nat):Prop:=∀{m:Nat} {Γ:Ctx} {f o:Int} {g count:Int} {left call loads:Int} {B V:Rs} (x:NN Γ f o g count left call loads B V) (u:Jp q Γ f o g count left call loads B V m) (j depth pos:Int) (h:(j=4∨j=8)∧depth≤3∧¬depth≤1∧depth.toNat≤m∧0≤pos∧pos+G (depth-1)≤1000000:=by exact kn),Ok trees N ⟨[j,depth,o,pos,g,count,left,call,loads],[],[B,V],[]⟩ fun v=>(∃(d c:Int),∃(k:Rs),v=(0,(⟨[d,c],[],[k],[]⟩:Ah))∧(Idx Γ depth k)∧(d=k.length)∧(pos≤c)∧(c≤pos+G (depth-1)))
theorem Oa {d k c:Nat} (J:trees k=Abe d c):Vg c k:=by
 intro m Γ f bl vl count left call C B V U o P depth pos h
 have ⟨hB,hl,hvl,Hi,hV,hb,hc,hd⟩:=U;have Z:=GU depth;have aa:=KK depth (by omega);have ab:=GU (depth-1)
 refine .of (t:=Abe d c) J ?_
 unfold Abe
 obtain ⟨_,⟨v,x,A,u,q,g,z,j,rfl,N,R,O,M⟩,D⟩:=o 1 (depth-1) pos kn
 refine ch D ?_
 refine ll q j ?_
 refine dL [[.int .i64 v,.int .i64 x,.int .i64 A,.str z,.int .i32 u,.list 6 j],[.int .i64 1,.int .i64 0,.int .i64 1,.str [],.int .i32 (P-1),.list 6 []]] (fun y Q=>?_)
 have H:=cL Q;try simp only [lA,lC,lN,lT']at H
 refine ll 2 y ?_
 refine fr ?_
 exact Aj ⟨[2,g],[],[y],[]⟩ (⟨_,_,_,rfl,fin,kn,kn,kn⟩)
def Yo (v N:Nat):Prop:=∀{m:Nat} {Γ:Ctx} {f u:Int} {k count:Int} {left call loads:Int} {B V:Rs} (z:NN Γ f u k count left call loads B V) (x:Jp v Γ f u k count left call loads B V m) (o depth pos:Int) (g:List Nat) (h:(o=4∨o=8)∧depth≤3∧¬depth≤1∧depth.toNat≤m∧0≤pos∧pos+G (depth-1)≤1000000:=by exact kn),Ok trees N ⟨[o,depth,u,pos,k,count,left,call,loads],[g],[B,V],[]⟩ fun y=>(∃(j c:Int),∃(d:List Nat),∃(q:Rs),y=(0,(⟨[j,c],[d],[q],[]⟩:Ah))∧(Tg Γ depth q)∧(d=g)∧(j=q.length)∧(pos≤c)∧(c≤pos+G (depth-1)))
theorem Aic {d j o c:Nat} (H:trees j=AaY d c) (x:Vg o c):Yo o j:=by
 intro m Γ f bl vl count left call A B V z q O depth pos v h
 have ⟨hB,hl,hvl,Hi,hV,hb,hc,hd⟩:=z;have R:=GU depth;have U:=KK depth (by omega);have Z:=GU (depth-1)
 refine .of (t:=AaY d c) H ?_
 unfold AaY
 obtain ⟨_,⟨u,g,k,rfl,M,Q,N,J⟩,C⟩:=x z @q O depth pos
 refine ch C ?_
 refine ll u k ?_
 refine dL [[.int .i64 5,.int .i64 17,.int .i64 0,.str [],.int .i32 0,.list 6 k]] (fun y P=>?_)
 have D:=cL P;try simp only [lA,lC,lN,lT']at D
 refine ll 1 y ?_
 refine fr ?_
 exact Aj ⟨[1,g],[v],[y],[]⟩ (⟨_,_,_,_,rfl,fin,kn,kn,kn,kn⟩)
def Abo (z N:Nat):Prop:=∀{m:Nat} {Γ:Ctx} {f o:Int} {g count:Int} {left call loads:Int} {B V:Rs} (D:NN Γ f o g count left call loads B V) (A:Jp z Γ f o g count left call loads B V m) (k depth pos:Int) (h:0≤k∧k≤60∧depth≤3∧¬depth≤1∧depth.toNat≤m∧0≤pos∧pos+G depth≤1000001:=by exact kn),Ok trees N ⟨[k,depth,o,pos,g,count,left,call,loads],[],[B,V],[]⟩ fun C=>(∃(y u v x d c:Int),∃(q:List Nat),∃(j:Rs),C=(0,(⟨[y,u,v,x,d,c],[q],[j],[]⟩:Ah))∧(Dd Γ 1 depth y u v x q j)∧(d=j.length)∧(pos≤c)∧(c+1≤pos+G depth))
theorem Aie {d aU af N8 an aA:Nat} (hT:trees aU=Abc d N8 af an aA) (h8:Th N8) (a8:Yp an) (Q:Yo af aA):Abo af aU:=by
 intro m Γ f bl vl count left call N B V U u k depth pos h
 have ⟨hB,hl,hvl,Hi,hV,hb,hc,hd⟩:=U;have eo:=GU depth;have ep:=KK depth (by omega);have er:=GU (depth-1)
 refine .of (t:=Abc d N8 af an aA) hT ?_
 unfold Abc
 refine lt (k%18) 12 (fun t1=>?_) fun t1=>?_
 ·obtain ⟨_,⟨J,y,v,D,q,aH,A,c,rfl,ec,eh,d6,d2⟩,G2⟩:=u 1 (depth-1) pos kn
  refine ch G2 ?_
  obtain ⟨_,⟨C,x,M,z,o,j,H,g,rfl,d5,dZ,ei,ej⟩,G3⟩:=u 1 (depth-1) aH kn
  refine ch G3 ?_
  refine eq (k%18) 0 (fun t4=>?_) fun t4=>?_
  ·refine ll q c ?_
   refine ll o g ?_
   refine dL [[.int .i64 J,.int .i64 y,.int .i64 v,.str A,.int .i32 D,.list 6 c],[.int .i64 C,.int .i64 x,.int .i64 M,.str H,.int .i32 z,.list 6 g]] (fun W5 e5=>?_)
   have f5:=cL e5;try simp only [lA,lC,lN,lT']at f5
   refine ll 2 W5 ?_
   refine fr ?_
   exact Aj ⟨[5,10,0,0,2,j],[[]],[W5],[]⟩ (⟨_,_,_,_,_,_,_,_,rfl,fin,kn,kn,kn⟩)
  refine eq (k%18) 1 (fun t6=>?_) fun t6=>?_
  ·refine ll q c ?_
   refine ll o g ?_
   refine dL [[.int .i64 J,.int .i64 y,.int .i64 v,.str A,.int .i32 D,.list 6 c],[.int .i64 C,.int .i64 x,.int .i64 M,.str H,.int .i32 z,.list 6 g]] (fun W7 e7=>?_)
   have f7:=cL e7;try simp only [lA,lC,lN,lT']at f7
   refine ll 2 W7 ?_
   refine fr ?_
   exact Aj ⟨[5,11,0,0,2,j],[[]],[W7],[]⟩ (⟨_,_,_,_,_,_,_,_,rfl,fin,kn,kn,kn⟩)
  refine eq (k%18) 2 (fun t8=>?_) fun t8=>?_
  ·refine ll q c ?_
   refine ll o g ?_
   refine dL [[.int .i64 J,.int .i64 y,.int .i64 v,.str A,.int .i32 D,.list 6 c],[.int .i64 C,.int .i64 x,.int .i64 M,.str H,.int .i32 z,.list 6 g]] (fun W9 e9=>?_)
   have f9:=cL e9;try simp only [lA,lC,lN,lT']at f9
   refine ll 2 W9 ?_
   refine fr ?_
   exact Aj ⟨[5,12,0,0,2,j],[[]],[W9],[]⟩ (⟨_,_,_,_,_,_,_,_,rfl,fin,kn,kn,kn⟩)
  refine eq (k%18) 3 (fun bZ=>?_) fun bZ=>?_
  ·refine ll q c ?_
   refine ll o g ?_
   refine dL [[.int .i64 J,.int .i64 y,.int .i64 v,.str A,.int .i32 D,.list 6 c],[.int .i64 C,.int .i64 x,.int .i64 M,.str H,.int .i32 z,.list 6 g]] (fun a9 cR=>?_)
   have b1:=cL cR;try simp only [lA,lC,lN,lT']at b1
   refine ll 2 a9 ?_
   refine fr ?_
   exact Aj ⟨[5,13,0,0,2,j],[[]],[a9],[]⟩ (⟨_,_,_,_,_,_,_,_,rfl,fin,kn,kn,kn⟩)
  refine eq (k%18) 4 (fun cD=>?_) fun cD=>?_
  ·refine ll q c ?_
   refine ll o g ?_
   refine dL [[.int .i64 J,.int .i64 y,.int .i64 v,.str A,.int .i32 D,.list 6 c],[.int .i64 C,.int .i64 x,.int .i64 M,.str H,.int .i32 z,.list 6 g]] (fun a6 bQ=>?_)
   have bW:=cL bQ;try simp only [lA,lC,lN,lT']at bW
   refine ll 2 a6 ?_
   refine fr ?_
   exact Aj ⟨[5,14,0,0,2,j],[[]],[a6],[]⟩ (⟨_,_,_,_,_,_,_,_,rfl,fin,kn,kn,kn⟩)
  refine eq (k%18) 5 (fun b4=>?_) fun b4=>?_
  ·refine ll q c ?_
   refine ll o g ?_
   refine dL [[.int .i64 J,.int .i64 y,.int .i64 v,.str A,.int .i32 D,.list 6 c],[.int .i64 C,.int .i64 x,.int .i64 M,.str H,.int .i32 z,.list 6 g]] (fun aV b8=>?_)
   have bM:=cL b8;try simp only [lA,lC,lN,lT']at bM
   refine ll 2 aV ?_
   refine fr ?_
   exact Aj ⟨[5,17,0,0,2,j],[[]],[aV],[]⟩ (⟨_,_,_,_,_,_,_,_,rfl,fin,kn,kn,kn⟩)
  refine eq (k%18) 6 (fun cq=>?_) fun cq=>?_
  ·refine ll q c ?_
   refine ll o g ?_
   refine dL [[.int .i64 J,.int .i64 y,.int .i64 v,.str A,.int .i32 D,.list 6 c],[.int .i64 C,.int .i64 x,.int .i64 M,.str H,.int .i32 z,.list 6 g]] (fun aX b0=>?_)
   have cM:=cL b0;try simp only [lA,lC,lN,lT']at cM
   refine ll 2 aX ?_
   refine fr ?_
   exact Aj ⟨[5,18,0,0,2,j],[[]],[aX],[]⟩ (⟨_,_,_,_,_,_,_,_,rfl,fin,kn,kn,kn⟩)
  refine eq (k%18) 7 (fun cw=>?_) fun cw=>?_
  ·refine ll q c ?_
   refine ll o g ?_
   refine dL [[.int .i64 J,.int .i64 y,.int .i64 v,.str A,.int .i32 D,.list 6 c],[.int .i64 C,.int .i64 x,.int .i64 M,.str H,.int .i32 z,.list 6 g]] (fun a3 bR=>?_)
   have bY:=cL bR;try simp only [lA,lC,lN,lT']at bY
   refine ll 2 a3 ?_
   refine fr ?_
   exact Aj ⟨[5,19,0,0,2,j],[[]],[a3],[]⟩ (⟨_,_,_,_,_,_,_,_,rfl,fin,kn,kn,kn⟩)
  refine eq (k%18) 8 (fun cj=>?_) fun cj=>?_
  ·refine ll q c ?_
   refine ll o g ?_
   refine dL [[.int .i64 J,.int .i64 y,.int .i64 v,.str A,.int .i32 D,.list 6 c],[.int .i64 C,.int .i64 x,.int .i64 M,.str H,.int .i32 z,.list 6 g]] (fun a5 bS=>?_)
   have ci:=cL bS;try simp only [lA,lC,lN,lT']at ci
   refine ll 2 a5 ?_
   refine fr ?_
   exact Aj ⟨[5,20,0,0,2,j],[[]],[a5],[]⟩ (⟨_,_,_,_,_,_,_,_,rfl,fin,kn,kn,kn⟩)
  refine eq (k%18) 9 (fun b5=>?_) fun b5=>?_
  ·refine ll q c ?_
   refine ll o g ?_
   refine dL [[.int .i64 J,.int .i64 y,.int .i64 v,.str A,.int .i32 D,.list 6 c],[.int .i64 C,.int .i64 x,.int .i64 M,.str H,.int .i32 z,.list 6 g]] (fun a0 cI=>?_)
   have cd:=cL cI;try simp only [lA,lC,lN,lT']at cd
   refine ll 2 a0 ?_
   refine fr ?_
   exact Aj ⟨[5,21,0,0,2,j],[[]],[a0],[]⟩ (⟨_,_,_,_,_,_,_,_,rfl,fin,kn,kn,kn⟩)
  refine eq (k%18) 10 (fun b2=>?_) fun b2=>?_
  ·refine ll q c ?_
   refine ll o g ?_
   refine dL [[.int .i64 J,.int .i64 y,.int .i64 v,.str A,.int .i32 D,.list 6 c],[.int .i64 C,.int .i64 x,.int .i64 M,.str H,.int .i32 z,.list 6 g]] (fun aW ck=>?_)
   have cN:=cL ck;try simp only [lA,lC,lN,lT']at cN
   refine ll 2 aW ?_
   refine fr ?_
   exact Aj ⟨[5,22,0,0,2,j],[[]],[aW],[]⟩ (⟨_,_,_,_,_,_,_,_,rfl,fin,kn,kn,kn⟩)
  refine BL (k%18) 11 ?_
  refine ll q c ?_
  refine ll o g ?_
  refine dL [[.int .i64 J,.int .i64 y,.int .i64 v,.str A,.int .i32 D,.list 6 c],[.int .i64 C,.int .i64 x,.int .i64 M,.str H,.int .i32 z,.list 6 g]] (fun a1 cK=>?_)
  have cQ:=cL cK;try simp only [lA,lC,lN,lT']at cQ
  refine ll 2 a1 ?_
  refine fr ?_
  exact Aj ⟨[5,23,0,0,2,j],[[]],[a1],[]⟩ (⟨_,_,_,_,_,_,_,_,rfl,fin,kn,kn,kn⟩)
 refine eq (k%18) 12 (fun bV=>?_) fun bV=>?_
 ·obtain ⟨_,⟨AcH,bB,bI,be,aJ,aE,bJ,am,rfl,dW,dU,cX,dV⟩,cc⟩:=u 2 (depth-1) pos kn
  refine ch cc ?_
  refine ll aJ am ?_
  refine dL [[.int .i64 AcH,.int .i64 bB,.int .i64 bI,.str bJ,.int .i32 be,.list 6 am]] (fun a2 b3=>?_)
  have b7:=cL b3;try simp only [lA,lC,lN,lT']at b7
  refine ll 1 a2 ?_
  refine fr ?_
  exact Aj ⟨[4,5,0,0,1,aE],[[]],[a2],[]⟩ (⟨_,_,_,_,_,_,_,_,rfl,fin,kn,kn,kn⟩)
 refine eq (k%18) 13 (fun bL=>?_) fun bL=>?_
 ·obtain ⟨_,⟨ad,aD,rfl,cV,dT,dH⟩,cG⟩:=h8 hB hl pos vl count left call N V
  refine ch cG ?_
  obtain ⟨_,⟨ac,ae,aa,Z,R,P,ab,O,rfl,c1,dx,dE,dQ⟩,cF⟩:=u 1 (depth-1) aD kn
  refine ch cF ?_
  refine eq (ad%3) 0 (fun cB=>?_) fun cB=>?_
  ·refine ll R O ?_
   refine dL [[.int .i64 ac,.int .i64 ae,.int .i64 aa,.str ab,.int .i32 Z,.list 6 O]] (fun aZ cJ=>?_)
   have cn:=cL cJ;try simp only [lA,lC,lN,lT']at cn
   refine ll 1 aZ ?_
   refine fr ?_
   exact Aj ⟨[4,1,0,0,1,P],[[]],[aZ],[]⟩ (⟨_,_,_,_,_,_,_,_,rfl,fin,kn,kn,kn⟩)
  refine eq (ad%3) 1 (fun bT=>?_) fun bT=>?_
  ·refine ll R O ?_
   refine dL [[.int .i64 ac,.int .i64 ae,.int .i64 aa,.str ab,.int .i32 Z,.list 6 O]] (fun aY cu=>?_)
   have cb:=cL cu;try simp only [lA,lC,lN,lT']at cb
   refine ll 1 aY ?_
   refine fr ?_
   exact Aj ⟨[4,2,0,0,1,P],[[]],[aY],[]⟩ (⟨_,_,_,_,_,_,_,_,rfl,fin,kn,kn,kn⟩)
  refine BL (ad%3) 2 ?_
  refine ll R O ?_
  refine dL [[.int .i64 ac,.int .i64 ae,.int .i64 aa,.str ab,.int .i32 Z,.list 6 O]] (fun a4 b9=>?_)
  have cE:=cL b9;try simp only [lA,lC,lN,lT']at cE
  refine ll 1 a4 ?_
  refine fr ?_
  exact Aj ⟨[4,3,0,0,1,P],[[]],[a4],[]⟩ (⟨_,_,_,_,_,_,_,_,rfl,fin,kn,kn,kn⟩)
 refine eq (k%18) 14 (fun cz=>?_) fun cz=>?_
 ·refine sn call 0 (fun cr=>?_) fun cr=>?_
  ·refine sn N 0 (fun cg=>?_) fun cg=>?_
   ·obtain ⟨_,⟨bo,bz,bF,bd,aI,ay,bn,bC,rfl,c9,dS,dv,dC⟩,cp⟩:=a8 U 1 pos
    refine ch cp ?_
    exact Aj ⟨[bo,bz,bF,bd,aI,ay],[bn],[bC],[]⟩ (⟨_,_,_,_,_,_,_,_,rfl,fin,kn,kn,kn⟩)
   refine Cq N 1 ?_
   refine eq (k%3) 0 (fun cO=>?_) fun cO=>?_
   ·obtain ⟨_,⟨aR,aC,ah,br,rfl,dB,c8,dG,dN,dp⟩,cv⟩:=Q U @u 4 depth pos [112]
    refine ch cv ?_
    exact Aj ⟨[7,0,0,0,aR,aC],[ah],[br],[]⟩ (⟨_,_,_,_,_,_,_,_,rfl,fin,kn,kn,kn⟩)
   refine eq (k%2) 0 (fun bN=>?_) fun bN=>?_
   ·obtain ⟨_,⟨aK,az,ak,bD,rfl,cY,c2,dA,dI,cT⟩,cC⟩:=Q U @u 8 depth pos [97]
    refine ch cC ?_
    exact Aj ⟨[7,0,0,0,aK,az],[ak],[bD],[]⟩ (⟨_,_,_,_,_,_,_,_,rfl,fin,kn,kn,kn⟩)
   refine BL (k%2) 1 ?_
   obtain ⟨_,⟨aM,aw,al,bv,rfl,dw,dD,db,dc,dz⟩,cS⟩:=Q U @u 8 depth pos [115]
   refine ch cS ?_
   exact Aj ⟨[7,0,0,0,aM,aw],[al],[bv],[]⟩ (⟨_,_,_,_,_,_,_,_,rfl,fin,kn,kn,kn⟩)
  refine Cq call 1 ?_
  obtain ⟨_,⟨bf,bb,bk,bp,aL,ao,bH,aF,rfl,du,c6,dK,cW⟩,ce⟩:=u 1 (depth-1) pos kn
  refine ch ce ?_
  obtain ⟨_,⟨bx,ba,bt,bj,aG,aq,bE,ax,rfl,c3,dM,dJ,dj⟩,cA⟩:=u 1 (depth-1) ao kn
  refine ch cA ?_
  refine ll aL aF ?_
  refine ll aG ax ?_
  refine dL [[.int .i64 bf,.int .i64 bb,.int .i64 bk,.str bH,.int .i32 bp,.list 6 aF],[.int .i64 bx,.int .i64 ba,.int .i64 bt,.str bE,.int .i32 bj,.list 6 ax]] (fun a7 cP=>?_)
  have co:=cL cP;try simp only [lA,lC,lN,lT']at co
  refine ll 2 a7 ?_
  refine fr ?_
  exact Aj ⟨[8,0,0,0,2,aq],[[104]],[a7],[]⟩ (⟨_,_,_,_,_,_,_,_,rfl,fin,kn,kn,kn⟩)
 refine sn N 0 (fun bU=>?_) fun bU=>?_
 ·obtain ⟨_,⟨bw,bc,bi,bK,aP,ap,bg,bm,rfl,dt,dk,dg,di⟩,cf⟩:=a8 U 1 pos
  refine ch cf ?_
  exact Aj ⟨[bw,bc,bi,bK,aP,ap],[bg],[bm],[]⟩ (⟨_,_,_,_,_,_,_,_,rfl,fin,kn,kn,kn⟩)
 refine Cq N 1 ?_
 refine eq (k%3) 0 (fun bO=>?_) fun bO=>?_
 ·obtain ⟨_,⟨aO,aB,aj,bG,rfl,dd,dF,dy,dl,dX⟩,b6⟩:=Q U @u 4 depth pos [112]
  refine ch b6 ?_
  exact Aj ⟨[7,0,0,0,aO,aB],[aj],[bG],[]⟩ (⟨_,_,_,_,_,_,_,_,rfl,fin,kn,kn,kn⟩)
 refine eq (k%2) 0 (fun cy=>?_) fun cy=>?_
 ·obtain ⟨_,⟨aN,av,ag,bh,rfl,dh,dY,cU,c7,dR⟩,bX⟩:=Q U @u 8 depth pos [97]
  refine ch bX ?_
  exact Aj ⟨[7,0,0,0,aN,av],[ag],[bh],[]⟩ (⟨_,_,_,_,_,_,_,_,rfl,fin,kn,kn,kn⟩)
 refine BL (k%2) 1 ?_
 obtain ⟨_,⟨aQ,au,ai,bA,rfl,dP,c4,cZ,dO,c5⟩,cx⟩:=Q U @u 8 depth pos [115]
 refine ch cx ?_
 exact Aj ⟨[7,0,0,0,aQ,au],[ai],[bA],[]⟩ (⟨_,_,_,_,_,_,_,_,rfl,fin,kn,kn,kn⟩)
def Abn (x N:Nat):Prop:=∀{m:Nat} {Γ:Ctx} {f o:Int} {g count:Int} {left call loads:Int} {B V:Rs} (A:NN Γ f o g count left call loads B V) (y:Jp x Γ f o g count left call loads B V m) (k depth pos:Int) (h:0≤k∧k≤60∧depth≤3∧¬depth≤1∧depth.toNat≤m∧0≤pos∧pos+G depth≤1000001:=by exact kn),Ok trees N ⟨[k,depth,o,pos,g,count,left,call,loads],[],[B,V],[]⟩ fun z=>(∃(v u d c:Int),∃(q:List Nat),∃(j:Rs),z=(0,(⟨[v,u,d,c],[q],[j],[]⟩:Ah))∧(Dd Γ 2 depth v u 0 0 q j)∧(d=j.length)∧(pos≤c)∧(c+1≤pos+G depth))
theorem AcH {d aG aa N8 an:Nat} (hT:trees aG=Abb d N8 aa an) (h8:Th N8) (a9:Yo aa an):Abn aa aG:=by
 intro m Γ f bl vl count left call P B V hM u k depth pos h
 have ⟨hB,hl,hvl,Hi,hV,hb,hc,hd⟩:=hM;have cd:=GU depth;have ce:=KK depth (by omega);have cf:=GU (depth-1)
 refine .of (t:=Abb d N8 aa an) hT ?_
 unfold Abb
 refine lt (k%9) 6 (fun t1=>?_) fun t1=>?_
 ·obtain ⟨_,⟨J,y,v,D,q,ax,A,c,rfl,b2,b6,bY,bU⟩,G2⟩:=u 2 (depth-1) pos kn
  refine ch G2 ?_
  obtain ⟨_,⟨C,x,M,z,o,j,H,g,rfl,bX,bR,b7,b8⟩,G3⟩:=u 2 (depth-1) ax kn
  refine ch G3 ?_
  refine eq (k%9) 0 (fun t4=>?_) fun t4=>?_
  ·refine ll q c ?_
   refine ll o g ?_
   refine dL [[.int .i64 J,.int .i64 y,.int .i64 v,.str A,.int .i32 D,.list 6 c],[.int .i64 C,.int .i64 x,.int .i64 M,.str H,.int .i32 z,.list 6 g]] (fun W5 e5=>?_)
   have f5:=cL e5;try simp only [lA,lC,lN,lT']at f5
   refine ll 2 W5 ?_
   refine fr ?_
   exact Aj ⟨[5,10,2,j],[[]],[W5],[]⟩ (⟨_,_,_,_,_,_,rfl,fin,kn,kn,kn⟩)
  refine eq (k%9) 1 (fun t6=>?_) fun t6=>?_
  ·refine ll q c ?_
   refine ll o g ?_
   refine dL [[.int .i64 J,.int .i64 y,.int .i64 v,.str A,.int .i32 D,.list 6 c],[.int .i64 C,.int .i64 x,.int .i64 M,.str H,.int .i32 z,.list 6 g]] (fun W7 e7=>?_)
   have f7:=cL e7;try simp only [lA,lC,lN,lT']at f7
   refine ll 2 W7 ?_
   refine fr ?_
   exact Aj ⟨[5,11,2,j],[[]],[W7],[]⟩ (⟨_,_,_,_,_,_,rfl,fin,kn,kn,kn⟩)
  refine eq (k%9) 2 (fun t8=>?_) fun t8=>?_
  ·refine ll q c ?_
   refine ll o g ?_
   refine dL [[.int .i64 J,.int .i64 y,.int .i64 v,.str A,.int .i32 D,.list 6 c],[.int .i64 C,.int .i64 x,.int .i64 M,.str H,.int .i32 z,.list 6 g]] (fun W9 e9=>?_)
   have f9:=cL e9;try simp only [lA,lC,lN,lT']at f9
   refine ll 2 W9 ?_
   refine fr ?_
   exact Aj ⟨[5,15,2,j],[[]],[W9],[]⟩ (⟨_,_,_,_,_,_,rfl,fin,kn,kn,kn⟩)
  refine eq (k%9) 3 (fun a0=>?_) fun a0=>?_
  ·refine ll q c ?_
   refine ll o g ?_
   refine dL [[.int .i64 J,.int .i64 y,.int .i64 v,.str A,.int .i32 D,.list 6 c],[.int .i64 C,.int .i64 x,.int .i64 M,.str H,.int .i32 z,.list 6 g]] (fun aE bq=>?_)
   have a2:=cL bq;try simp only [lA,lC,lN,lT']at a2
   refine ll 2 aE ?_
   refine fr ?_
   exact Aj ⟨[5,16,2,j],[[]],[aE],[]⟩ (⟨_,_,_,_,_,_,rfl,fin,kn,kn,kn⟩)
  refine eq (k%9) 4 (fun bk=>?_) fun bk=>?_
  ·refine ll q c ?_
   refine ll o g ?_
   refine dL [[.int .i64 J,.int .i64 y,.int .i64 v,.str A,.int .i32 D,.list 6 c],[.int .i64 C,.int .i64 x,.int .i64 M,.str H,.int .i32 z,.list 6 g]] (fun aH aW=>?_)
   have aY:=cL aW;try simp only [lA,lC,lN,lT']at aY
   refine ll 2 aH ?_
   refine fr ?_
   exact Aj ⟨[5,22,2,j],[[]],[aH],[]⟩ (⟨_,_,_,_,_,_,rfl,fin,kn,kn,kn⟩)
  refine BL (k%9) 5 ?_
  refine ll q c ?_
  refine ll o g ?_
  refine dL [[.int .i64 J,.int .i64 y,.int .i64 v,.str A,.int .i32 D,.list 6 c],[.int .i64 C,.int .i64 x,.int .i64 M,.str H,.int .i32 z,.list 6 g]] (fun az a5=>?_)
  have be:=cL a5;try simp only [lA,lC,lN,lT']at be
  refine ll 2 az ?_
  refine fr ?_
  exact Aj ⟨[5,23,2,j],[[]],[az],[]⟩ (⟨_,_,_,_,_,_,rfl,fin,kn,kn,kn⟩)
 refine eq (k%9) 6 (fun bf=>?_) fun bf=>?_
 ·obtain ⟨_,⟨K1,aM,aI,aN,aw,ah,aK,ae,rfl,bv,bL,bB,bw⟩,aR⟩:=u 1 (depth-1) pos kn
  refine ch aR ?_
  refine ll aw ae ?_
  refine dL [[.int .i64 K1,.int .i64 aM,.int .i64 aI,.str aK,.int .i32 aN,.list 6 ae]] (fun aA a1=>?_)
  have bp:=cL a1;try simp only [lA,lC,lN,lT']at bp
  refine ll 1 aA ?_
  refine fr ?_
  exact Aj ⟨[4,4,1,ah],[[]],[aA],[]⟩ (⟨_,_,_,_,_,_,rfl,fin,kn,kn,kn⟩)
 refine eq (k%9) 7 (fun bi=>?_) fun bi=>?_
 ·obtain ⟨_,⟨am,aq,rfl,bM,bF,bD⟩,aV⟩:=h8 hB hl pos vl count left call P V
  refine ch aV ?_
  obtain ⟨_,⟨ad,ag,al,av,Z,Q,ac,N,rfl,bH,bx,bt,bO⟩,bc⟩:=u 2 (depth-1) aq kn
  refine ch bc ?_
  refine eq (am%2) 0 (fun aP=>?_) fun aP=>?_
  ·refine ll Z N ?_
   refine dL [[.int .i64 ad,.int .i64 ag,.int .i64 al,.str ac,.int .i32 av,.list 6 N]] (fun aF aQ=>?_)
   have aO:=cL aQ;try simp only [lA,lC,lN,lT']at aO
   refine ll 1 aF ?_
   refine fr ?_
   exact Aj ⟨[4,1,1,Q],[[]],[aF],[]⟩ (⟨_,_,_,_,_,_,rfl,fin,kn,kn,kn⟩)
  refine BL (am%2) 1 ?_
  refine ll Z N ?_
  refine dL [[.int .i64 ad,.int .i64 ag,.int .i64 al,.str ac,.int .i32 av,.list 6 N]] (fun aB bo=>?_)
  have a7:=cL bo;try simp only [lA,lC,lN,lT']at a7
  refine ll 1 aB ?_
  refine fr ?_
  exact Aj ⟨[4,3,1,Q],[[]],[aB],[]⟩ (⟨_,_,_,_,_,_,rfl,fin,kn,kn,kn⟩)
 refine sn P 0 (fun a3=>?_) fun a3=>?_
 ·obtain ⟨_,⟨ao,ak,rfl,bI,br,bC⟩,bd⟩:=h8 hB hl pos vl count left call 0 V
  refine ch bd ?_
  obtain ⟨_,⟨Aal,ai,af,au,U,R,ap,O,rfl,bE,bN,bP,bQ⟩,a8⟩:=u 2 (depth-1) ak kn
  refine ch a8 ?_
  refine eq (ao%2) 0 (fun aX=>?_) fun aX=>?_
  ·refine ll U O ?_
   refine dL [[.int .i64 Aal,.int .i64 ai,.int .i64 af,.str ap,.int .i32 au,.list 6 O]] (fun aC ba=>?_)
   have aZ:=cL ba;try simp only [lA,lC,lN,lT']at aZ
   refine ll 1 aC ?_
   refine fr ?_
   exact Aj ⟨[4,1,1,R],[[]],[aC],[]⟩ (⟨_,_,_,_,_,_,rfl,fin,kn,kn,kn⟩)
  refine BL (ao%2) 1 ?_
  refine ll U O ?_
  refine dL [[.int .i64 Aal,.int .i64 ai,.int .i64 af,.str ap,.int .i32 au,.list 6 O]] (fun aD a4=>?_)
  have a6:=cL a4;try simp only [lA,lC,lN,lT']at a6
  refine ll 1 aD ?_
  refine fr ?_
  exact Aj ⟨[4,3,1,R],[[]],[aD],[]⟩ (⟨_,_,_,_,_,_,rfl,fin,kn,kn,kn⟩)
 refine Cq P 1 ?_
 obtain ⟨_,⟨ay,aj,ab,aL,rfl,bz,bG,bK,bJ,bA⟩,bm⟩:=a9 hM @u 4 depth pos [102]
 refine ch bm ?_
 exact Aj ⟨[7,0,ay,aj],[ab],[aL],[]⟩ (⟨_,_,_,_,_,_,rfl,fin,kn,kn,kn⟩)
def Abm (x N:Nat):Prop:=∀{m:Nat} {Γ:Ctx} {f o:Int} {g count:Int} {left call loads:Int} {B V:Rs} (A:NN Γ f o g count left call loads B V) (y:Jp x Γ f o g count left call loads B V m) (k depth pos:Int) (h:0≤k∧k≤60∧depth≤3∧¬depth≤1∧depth.toNat≤m∧0≤pos∧pos+G depth≤1000001:=by exact kn),Ok trees N ⟨[k,depth,o,pos,g,count,left,call,loads],[],[B,V],[]⟩ fun z=>(∃(v u d c:Int),∃(q:List Nat),∃(j:Rs),z=(0,(⟨[v,u,d,c],[q],[j],[]⟩:Ah))∧(Dd Γ 3 depth v u 0 0 q j)∧(d=j.length)∧(pos≤c)∧(c+1≤pos+G depth))
theorem Aid {d aH ak N8 aq:Nat} (hT:trees aH=Aba d N8 ak aq) (h8:Th N8) (bq:Yo ak aq):Abm ak aH:=by
 intro m Γ f bl vl count left call y B V hM v k depth pos h
 have ⟨hB,hl,hvl,Hi,hV,hb,hc,hd⟩:=hM;have cI:=GU depth;have cJ:=KK depth (by omega);have cK:=GU (depth-1)
 refine .of (t:=Aba d N8 ak aq) hT ?_
 unfold Aba
 refine lt (k%9) 4 (fun t1=>?_) fun t1=>?_
 ·obtain ⟨_,⟨aG,ay,rfl,cx,cE,ct⟩,G2⟩:=h8 hB hl pos vl count left call y V
  refine ch G2 ?_
  obtain ⟨_,⟨ad,ax,rfl,cr,ce,cF⟩,G3⟩:=h8 hB hl ay vl count left call y V
  refine ch G3 ?_
  obtain ⟨_,⟨ab,af,aa,ac,C,aC,ag,o,rfl,cn,cy,cg,cq⟩,G4⟩:=v (1+(aG%2)) (depth-1) ax kn
  refine ch G4 ?_
  obtain ⟨_,⟨ae,ah,Z,aj,A,u,ai,j,rfl,cz,cw,cD,cj⟩,G5⟩:=v (1+(aG%2)) (depth-1) aC kn
  refine ch G5 ?_
  refine eq (ad%6) 0 (fun t6=>?_) fun t6=>?_
  ·refine ll C o ?_
   refine ll A j ?_
   refine dL [[.int .i64 ab,.int .i64 af,.int .i64 aa,.str ag,.int .i32 ac,.list 6 o],[.int .i64 ae,.int .i64 ah,.int .i64 Z,.str ai,.int .i32 aj,.list 6 j]] (fun W7 e7=>?_)
   have f7:=cL e7;try simp only [lA,lC,lN,lT']at f7
   refine ll 2 W7 ?_
   refine fr ?_
   exact Aj ⟨[5,24,2,u],[[]],[W7],[]⟩ (⟨_,_,_,_,_,_,rfl,fin,kn,kn,kn⟩)
  refine eq (ad%6) 1 (fun t8=>?_) fun t8=>?_
  ·refine ll C o ?_
   refine ll A j ?_
   refine dL [[.int .i64 ab,.int .i64 af,.int .i64 aa,.str ag,.int .i32 ac,.list 6 o],[.int .i64 ae,.int .i64 ah,.int .i64 Z,.str ai,.int .i32 aj,.list 6 j]] (fun W9 e9=>?_)
   have f9:=cL e9;try simp only [lA,lC,lN,lT']at f9
   refine ll 2 W9 ?_
   refine fr ?_
   exact Aj ⟨[5,25,2,u],[[]],[W9],[]⟩ (⟨_,_,_,_,_,_,rfl,fin,kn,kn,kn⟩)
  refine eq (ad%6) 2 (fun bg=>?_) fun bg=>?_
  ·refine ll C o ?_
   refine ll A j ?_
   refine dL [[.int .i64 ab,.int .i64 af,.int .i64 aa,.str ag,.int .i32 ac,.list 6 o],[.int .i64 ae,.int .i64 ah,.int .i64 Z,.str ai,.int .i32 aj,.list 6 j]] (fun aL bM=>?_)
   have bi:=cL bM;try simp only [lA,lC,lN,lT']at bi
   refine ll 2 aL ?_
   refine fr ?_
   exact Aj ⟨[5,26,2,u],[[]],[aL],[]⟩ (⟨_,_,_,_,_,_,rfl,fin,kn,kn,kn⟩)
  refine eq (ad%6) 3 (fun bG=>?_) fun bG=>?_
  ·refine ll C o ?_
   refine ll A j ?_
   refine dL [[.int .i64 ab,.int .i64 af,.int .i64 aa,.str ag,.int .i32 ac,.list 6 o],[.int .i64 ae,.int .i64 ah,.int .i64 Z,.str ai,.int .i32 aj,.list 6 j]] (fun aO bc=>?_)
   have bd:=cL bc;try simp only [lA,lC,lN,lT']at bd
   refine ll 2 aO ?_
   refine fr ?_
   exact Aj ⟨[5,27,2,u],[[]],[aO],[]⟩ (⟨_,_,_,_,_,_,rfl,fin,kn,kn,kn⟩)
  refine eq (ad%6) 4 (fun bm=>?_) fun bm=>?_
  ·refine ll C o ?_
   refine ll A j ?_
   refine dL [[.int .i64 ab,.int .i64 af,.int .i64 aa,.str ag,.int .i32 ac,.list 6 o],[.int .i64 ae,.int .i64 ah,.int .i64 Z,.str ai,.int .i32 aj,.list 6 j]] (fun aD bo=>?_)
   have a9:=cL bo;try simp only [lA,lC,lN,lT']at a9
   refine ll 2 aD ?_
   refine fr ?_
   exact Aj ⟨[5,28,2,u],[[]],[aD],[]⟩ (⟨_,_,_,_,_,_,rfl,fin,kn,kn,kn⟩)
  refine BL (ad%6) 5 ?_
  refine ll C o ?_
  refine ll A j ?_
  refine dL [[.int .i64 ab,.int .i64 af,.int .i64 aa,.str ag,.int .i32 ac,.list 6 o],[.int .i64 ae,.int .i64 ah,.int .i64 Z,.str ai,.int .i32 aj,.list 6 j]] (fun aF bv=>?_)
  have bx:=cL bv;try simp only [lA,lC,lN,lT']at bx
  refine ll 2 aF ?_
  refine fr ?_
  exact Aj ⟨[5,29,2,u],[[]],[aF],[]⟩ (⟨_,_,_,_,_,_,rfl,fin,kn,kn,kn⟩)
 refine lt (k%9) 6 (fun bD=>?_) fun bD=>?_
 ·obtain ⟨_,⟨M,an,rfl,bT,b7,cd⟩,a8⟩:=h8 hB hl pos vl count left call y V
  refine ch a8 ?_
  obtain ⟨_,⟨Oa,O,J,Q,z,av,R,g,rfl,b9,b4,b2,b0⟩,bb⟩:=v 3 (depth-1) an kn
  refine ch bb ?_
  obtain ⟨_,⟨H,N,P,U,x,q,D,c,rfl,b5,bS,bR,cc⟩,bw⟩:=v 3 (depth-1) av kn
  refine ch bw ?_
  refine eq (M%5) 0 (fun bO=>?_) fun bO=>?_
  ·refine ll z g ?_
   refine ll x c ?_
   refine dL [[.int .i64 Oa,.int .i64 O,.int .i64 J,.str R,.int .i32 Q,.list 6 g],[.int .i64 H,.int .i64 N,.int .i64 P,.str D,.int .i32 U,.list 6 c]] (fun aM a7=>?_)
   have a5:=cL a7;try simp only [lA,lC,lN,lT']at a5
   refine ll 2 aM ?_
   refine fr ?_
   exact Aj ⟨[5,17,2,q],[[]],[aM],[]⟩ (⟨_,_,_,_,_,_,rfl,fin,kn,kn,kn⟩)
  refine eq (M%5) 1 (fun bA=>?_) fun bA=>?_
  ·refine ll z g ?_
   refine ll x c ?_
   refine dL [[.int .i64 Oa,.int .i64 O,.int .i64 J,.str R,.int .i32 Q,.list 6 g],[.int .i64 H,.int .i64 N,.int .i64 P,.str D,.int .i32 U,.list 6 c]] (fun aN ba=>?_)
   have bp:=cL ba;try simp only [lA,lC,lN,lT']at bp
   refine ll 2 aN ?_
   refine fr ?_
   exact Aj ⟨[5,18,2,q],[[]],[aN],[]⟩ (⟨_,_,_,_,_,_,rfl,fin,kn,kn,kn⟩)
  refine eq (M%5) 2 (fun bk=>?_) fun bk=>?_
  ·refine ll z g ?_
   refine ll x c ?_
   refine dL [[.int .i64 Oa,.int .i64 O,.int .i64 J,.str R,.int .i32 Q,.list 6 g],[.int .i64 H,.int .i64 N,.int .i64 P,.str D,.int .i32 U,.list 6 c]] (fun aJ bL=>?_)
   have bN:=cL bL;try simp only [lA,lC,lN,lT']at bN
   refine ll 2 aJ ?_
   refine fr ?_
   exact Aj ⟨[5,19,2,q],[[]],[aJ],[]⟩ (⟨_,_,_,_,_,_,rfl,fin,kn,kn,kn⟩)
  refine eq (M%5) 3 (fun be=>?_) fun be=>?_
  ·refine ll z g ?_
   refine ll x c ?_
   refine dL [[.int .i64 Oa,.int .i64 O,.int .i64 J,.str R,.int .i32 Q,.list 6 g],[.int .i64 H,.int .i64 N,.int .i64 P,.str D,.int .i32 U,.list 6 c]] (fun aI br=>?_)
   have bf:=cL br;try simp only [lA,lC,lN,lT']at bf
   refine ll 2 aI ?_
   refine fr ?_
   exact Aj ⟨[5,24,2,q],[[]],[aI],[]⟩ (⟨_,_,_,_,_,_,rfl,fin,kn,kn,kn⟩)
  refine BL (M%5) 4 ?_
  refine ll z g ?_
  refine ll x c ?_
  refine dL [[.int .i64 Oa,.int .i64 O,.int .i64 J,.str R,.int .i32 Q,.list 6 g],[.int .i64 H,.int .i64 N,.int .i64 P,.str D,.int .i32 U,.list 6 c]] (fun aK bj=>?_)
  have bn:=cL bj;try simp only [lA,lC,lN,lT']at bn
  refine ll 2 aK ?_
  refine fr ?_
  exact Aj ⟨[5,25,2,q],[[]],[aK],[]⟩ (⟨_,_,_,_,_,_,rfl,fin,kn,kn,kn⟩)
 refine lt (k%9) 8 (fun a6=>?_) fun a6=>?_
 ·obtain ⟨_,⟨aW,aX,a1,aZ,aB,au,a4,ap,rfl,bP,cb,b6,bV⟩,bJ⟩:=v 3 (depth-1) pos kn
  refine ch bJ ?_
  refine ll aB ap ?_
  refine dL [[.int .i64 aW,.int .i64 aX,.int .i64 a1,.str a4,.int .i32 aZ,.list 6 ap]] (fun aE bz=>?_)
  have bI:=cL bz;try simp only [lA,lC,lN,lT']at bI
  refine ll 1 aE ?_
  refine fr ?_
  exact Aj ⟨[4,2,1,au],[[]],[aE],[]⟩ (⟨_,_,_,_,_,_,rfl,fin,kn,kn,kn⟩)
 refine sn y 0 (fun bF=>?_) fun bF=>?_
 ·obtain ⟨_,⟨AcG,aQ,a3,aU,az,ao,aR,am,rfl,b3,bX,bY,b1⟩,bh⟩:=v 3 (depth-1) pos kn
  refine ch bh ?_
  refine ll az am ?_
  refine dL [[.int .i64 AcG,.int .i64 aQ,.int .i64 a3,.str aR,.int .i32 aU,.list 6 am]] (fun aP bt=>?_)
  have bH:=cL bt;try simp only [lA,lC,lN,lT']at bH
  refine ll 1 aP ?_
  refine fr ?_
  exact Aj ⟨[4,2,1,ao],[[]],[aP],[]⟩ (⟨_,_,_,_,_,_,rfl,fin,kn,kn,kn⟩)
 refine Cq y 1 ?_
 obtain ⟨_,⟨aA,aw,al,a2,rfl,bZ,bQ,bU,b8,bW⟩,bB⟩:=bq hM @v 4 depth pos [98]
 refine ch bB ?_
 exact Aj ⟨[7,0,aA,aw],[al],[a2],[]⟩ (⟨_,_,_,_,_,_,rfl,fin,kn,kn,kn⟩)
theorem AkN {d g N8 y o z u:Nat} (hT:trees g=Yj d N8 g y o z u) (h8:Th N8) (U:Yp y) (aI:Abo g o) (aJ:Abn g z) (aV:Abm g u) {Γ:Ctx} {f bl:Int} {vl count:Int} {left call loads:Int} {B V:Rs} (k:NN Γ f bl vl count left call loads B V) (n:Nat):Jp g Γ f bl vl count left call loads B V n:=by
 induction n with
 |zero=>intro t depth pos h;exact absurd h.2.2.2.2.2 (Nat.not_lt_zero _)
 |succ n ih=>
 intro t depth pos h
 have ⟨hB,hl,hvl,Hi,hV,hb,hc,hd⟩:=k;have bY:=GU depth;have bX:=KK depth (by omega);have bZ:=GU (depth-1)
 refine .of (t:=Yj d N8 g y o z u) hT ?_
 unfold Yj
 obtain ⟨_,⟨j,c,rfl,bo,bW,bR⟩,G1⟩:=h8 hB hl pos vl count left call loads V
 refine ch G1 ?_
 refine le depth 1 (fun t2=>?_) fun t2=>?_
 ·obtain ⟨_,⟨aK,ay,aQ,aB,aa,A,a5,aL,rfl,bv,bn,bT,bU⟩,G3⟩:=U k t c
  refine ch G3 ?_
  exact Aj ⟨[aK,ay,aQ,aB,aa,A],[a5],[aL],[]⟩ (⟨_,_,_,_,_,_,_,_,rfl,fin,kn,kn,kn⟩)
 refine eq (j%5) 0 (fun t4=>?_) fun t4=>?_
 ·obtain ⟨_,⟨aE,a2,aU,aP,ah,H,aN,aF,rfl,bS,bw,bA,bH⟩,G5⟩:=U k t c
  refine ch G5 ?_
  exact Aj ⟨[aE,a2,aU,aP,ah,H],[aN],[aF],[]⟩ (⟨_,_,_,_,_,_,_,_,rfl,fin,kn,kn,kn⟩)
 refine eq (j%5) 1 (fun t6=>?_) fun t6=>?_
 ·obtain ⟨_,⟨a1,a7,aH,aC,ap,M,aO,Z,rfl,bJ,bQ,bP,bE⟩,G7⟩:=ih 3 (depth-1) c kn
  refine ch G7 ?_
  obtain ⟨_,⟨XL,aM,aD,aG,aj,C,aW,P,rfl,bp,bm,br,bL⟩,G8⟩:=ih t (depth-1) M kn
  refine ch G8 ?_
  obtain ⟨_,⟨a8,aw,aY,az,al,O,aR,Q,rfl,bN,bM,bD,bB⟩,G9⟩:=ih t (depth-1) C kn
  refine ch G9 ?_
  refine ll ap Z ?_
  refine ll aj P ?_
  refine ll al Q ?_
  refine dL [[.int .i64 a1,.int .i64 a7,.int .i64 aH,.str aO,.int .i32 aC,.list 6 Z],[.int .i64 XL,.int .i64 aM,.int .i64 aD,.str aW,.int .i32 aG,.list 6 P],[.int .i64 a8,.int .i64 aw,.int .i64 aY,.str aR,.int .i32 az,.list 6 Q]] (fun R aZ=>?_)
  have a6:=cL aZ;try simp only [lA,lC,lN,lT']at a6
  refine ll 3 R ?_
  refine fr ?_
  exact Aj ⟨[6,0,0,0,3,O],[[]],[R],[]⟩ (⟨_,_,_,_,_,_,_,_,rfl,fin,kn,kn,kn⟩)
 refine eq t 1 (fun aA=>?_) fun aA=>?_
 ·obtain ⟨_,⟨Uo,au,ag,am,J,q,ai,ae,rfl,bi,a9,bg,bb⟩,ax⟩:=aI k @ih (j/5) depth c
  refine ch ax ?_
  exact Aj ⟨[Uo,au,ag,am,J,q],[ai],[ae],[]⟩ (⟨_,_,_,_,_,_,_,_,rfl,fin,kn,kn,kn⟩)
 refine eq t 2 (fun a3=>?_) fun a3=>?_
 ·obtain ⟨_,⟨an,ac,N,x,ab,ad,rfl,bj,ba,be,bh⟩,a0⟩:=aJ k @ih (j/5) depth c
  refine ch a0 ?_
  exact Aj ⟨[an,ac,0,0,N,x],[ab],[ad],[]⟩ (⟨_,_,_,_,_,_,_,_,rfl,fin,kn,kn,kn⟩)
 obtain ⟨_,⟨AcJ,av,D,v,aq,ao,rfl,bk,bf,bd,bc⟩,a4⟩:=aV k @ih (j/5) depth c
 refine ch a4 ?_
 exact Aj ⟨[AcJ,av,0,0,D,v],[aq],[ao],[]⟩ (⟨_,_,_,_,_,_,_,_,rfl,fin,kn,kn,kn⟩)
theorem K1 {d c x o k g j:Nat} (A:trees c=Yj d x c o k g j) (z:Th x) (y:Yp o) (q:Abo c k) (u:Abn c g) (v:Abm c j):Rn c:=fun {Γ} {f} {bl} {vl} {count} {left} {call} {loads} {B} {V} hM t depth pos h=>AkN A @z @y @q @u @v hM (depth.toNat+1) t depth pos ⟨h.1,h.2.1,h.2.2.1,h.2.2.2.1,h.2.2.2.2,Nat.lt_succ_self _⟩
end Go.Proofs.YtbmofjdmgjpfoaaGreatDoor.Am
end
section
set_option maxHeartbeats 4000000
set_option maxRecDepth 100000
namespace Go.Proofs.YtbmofjdmgjpfoaaGreatDoor.Am
open Go.AM Go.AM.K
def AmW (N:Nat) (Γ:Ctx) (f q:Int) (k count:Int) (left call loads:Int) (B V:Rs) (n:Nat):Prop:=∀(t g:Int) (j pos:Int) (L:Rs) (u:HX Γ t L) (h:0≤j∧j≤k∧g=L.length∧L.length≤j∧0<g∧(k-j).toNat<n),Ok trees N ⟨[t,g,j,q,pos,k,count,left,call,loads],[],[B,L,V],[]⟩ fun o=>(o=(0,v0))∨(∃(c:Int),∃(d:Rs),o=(1,(⟨[c],[],[d],[]⟩:Ah))∧(HX Γ t d)∧(c=d.length)∧(d.length≤40)∧(0<c))
def AmC (N:Nat):Prop:=∀{Γ:Ctx} {f o:Int} {k count:Int} {left call loads:Int} {B V:Rs} (v:NN Γ f o k count left call loads B V) (t g:Int) (j pos:Int) (L:Rs) (u:HX Γ t L) (h:0≤j∧j≤k∧g=L.length∧L.length≤j∧0<g:=by exact kn),Ok trees N ⟨[t,g,j,o,pos,k,count,left,call,loads],[],[B,L,V],[]⟩ fun q=>(q=(0,v0))∨(∃(c:Int),∃(d:Rs),q=(1,(⟨[c],[],[d],[]⟩:Ah))∧(HX Γ t d)∧(c=d.length)∧(d.length≤40)∧(0<c))
theorem X5 {Γ:Ctx} {f A:Int} {x count:Int} {left call loads:Int} {B V:Rs} (hM:NN Γ f A x count left call loads B V) (n:Nat):AmW 40 Γ f A x count left call loads B V n:=by
 induction n with
 |zero=>intro t q j pos L R h;exact absurd h.2.2.2.2.2 (Nat.not_lt_zero _)
 |succ n ih=>
 intro t q j pos L R h
 have ⟨hB,hl,hvl,Hi,hV,hb,hc,hd⟩:=hM
 refine .of (t:=Aco) rfl ?_
 unfold Aco
 refine lt j x (fun t1=>?_) fun t1=>?_
 ·refine CX j 0 ?_
  obtain ⟨k,t_1,z,ae,ab,Z,ac⟩:=hV j (by omega) (by omega)
  refine el z ?_
  refine eq t_1 t (fun Q=>?_) fun Q=>?_
  ·refine dL (L++[[PV.str k]]) (fun c e4=>?_) (BG (pw q L) pe)
   have U:=cL e4;try simp only [lA,lC,lN,lT']at U
   refine F8 (c.length:Int) 1048576 ?_
   obtain ⟨_,(rfl|⟨g,o,rfl,O,P,C,N⟩),y⟩:=ih t (c.length:Int) (j+1) pos c (by exact fin) kn
   ·refine ch y ?_
    exact Aj ⟨[(c.length:Int)],[],[c],[]⟩ (.inr ((⟨_,_,rfl,fin,kn,kn,kn⟩)))
   refine cm y ?_
   refine ch y ?_
   exact Aj ⟨[g],[],[o],[]⟩ (.inr ((⟨_,_,rfl,fin,kn,kn,kn⟩)))
  obtain ⟨_,(rfl|⟨d,v,rfl,H,J,D,M⟩),u⟩:=ih t q (j+1) pos L (by exact fin) kn
  ·refine ch u ?_
   exact Aj v0 (.inl rfl)
  refine cm u ?_
  refine ch u ?_
  exact Aj ⟨[d],[],[v],[]⟩ (.inr ((⟨_,_,rfl,fin,kn,kn,kn⟩)))
 exact Aj v0 (.inl rfl)
theorem Al5:AmC 40:=fun {Γ} {f} {bl} {vl} {count} {left} {call} {loads} {B} {V} hM t ln j pos L hL h=>X5 hM ((vl-j).toNat+1) t ln j pos L hL ⟨h.1,h.2.1,h.2.2.1,h.2.2.2.1,h.2.2.2.2,Nat.lt_succ_self _⟩
theorem AkM {Γ:Ctx} {f z:Int} {u count:Int} {left call loads:Int} {B V:Rs} (A:NN Γ f z u count left call loads B V) (n:Nat):AjV 38 Γ f z u count left call loads B V n:=by
 induction n with
 |zero=>intro t j pos h;exact absurd h.2.2 (Nat.not_lt_zero _)
 |succ n ih=>
 intro t j pos h
 have ⟨hB,hl,hvl,Hi,hV,hb,hc,hd⟩:=A
 refine .of (t:=Acq) rfl ?_
 unfold Acq
 refine lt j u (fun t1=>?_) fun t1=>?_
 ·refine CX j 0 ?_
  obtain ⟨g,t_1,y,ad,aa,U,ab⟩:=hV j (by omega) (by omega)
  refine el y ?_
  refine eq t_1 t (fun Q=>?_) fun Q=>?_
  ·refine dL [[.str g]] (fun v Z=>?_)
   have R:=cL Z;try simp only [lA,lC,lN,lT']at R
   refine ll 1 v ?_
   obtain ⟨_,(rfl|⟨d,k,rfl,O,P,C,N⟩),x⟩:=Al5 A t 1 (j+1) pos v (by exact fin)
   ·refine ch x ?_
    exact Aj ⟨[1],[],[v],[]⟩ (.inr ((⟨_,_,rfl,fin,kn,kn,kn⟩)))
   refine cm x ?_
   refine ch x ?_
   exact Aj ⟨[d],[],[k],[]⟩ (.inr ((⟨_,_,rfl,fin,kn,kn,kn⟩)))
  obtain ⟨_,(rfl|⟨c,q,rfl,H,J,D,M⟩),o⟩:=ih t (j+1) pos kn
  ·refine ch o ?_
   exact Aj v0 (.inl rfl)
  refine cm o ?_
  refine ch o ?_
  exact Aj ⟨[c],[],[q],[]⟩ (.inr ((⟨_,_,rfl,fin,kn,kn,kn⟩)))
 exact Aj v0 (.inl rfl)
theorem Al7:AfA 38:=fun {Γ} {f} {bl} {vl} {count} {left} {call} {loads} {B} {V} hM t j pos h=>AkM hM ((vl-j).toNat+1) t j pos ⟨h.1,h.2,Nat.lt_succ_self _⟩
def AmV (N:Nat) (Γ:Ctx) (f q:Int) (k count:Int) (left call loads:Int) (B V:Rs) (n:Nat):Prop:=∀(t g:Int) (j pos:Int) (L:Rs) (u:HX Γ t L) (h:0≤j∧j≤k∧g=L.length∧L.length≤j∧0<g∧(k-j).toNat<n),Ok trees N ⟨[t,g,j,q,pos,k,count,left,call,loads],[],[B,V,L],[]⟩ fun o=>(o=(0,v0))∨(∃(c:Int),∃(d:Rs),o=(1,(⟨[c],[],[d],[]⟩:Ah))∧(HX Γ t d)∧(c=d.length)∧(d.length≤40)∧(0<c))
def AmB (N:Nat):Prop:=∀{Γ:Ctx} {f o:Int} {k count:Int} {left call loads:Int} {B V:Rs} (v:NN Γ f o k count left call loads B V) (t g:Int) (j pos:Int) (L:Rs) (u:HX Γ t L) (h:0≤j∧j≤k∧g=L.length∧L.length≤j∧0<g:=by exact kn),Ok trees N ⟨[t,g,j,o,pos,k,count,left,call,loads],[],[B,V,L],[]⟩ fun q=>(q=(0,v0))∨(∃(c:Int),∃(d:Rs),q=(1,(⟨[c],[],[d],[]⟩:Ah))∧(HX Γ t d)∧(c=d.length)∧(d.length≤40)∧(0<c))
theorem AkK {Γ:Ctx} {f A:Int} {x count:Int} {left call loads:Int} {B V:Rs} (hM:NN Γ f A x count left call loads B V) (n:Nat):AmV 41 Γ f A x count left call loads B V n:=by
 induction n with
 |zero=>intro t q j pos L R h;exact absurd h.2.2.2.2.2 (Nat.not_lt_zero _)
 |succ n ih=>
 intro t q j pos L R h
 have ⟨hB,hl,hvl,Hi,hV,hb,hc,hd⟩:=hM
 refine .of (t:=Acn) rfl ?_
 unfold Acn
 refine lt j x (fun t1=>?_) fun t1=>?_
 ·refine CX j 0 ?_
  obtain ⟨k,t_1,z,ae,ab,Z,ac⟩:=hV j (by omega) (by omega)
  refine el z ?_
  refine eq t_1 t (fun Q=>?_) fun Q=>?_
  ·refine dL (L++[[PV.str k]]) (fun c e4=>?_) (BG (pw q L) pe)
   have U:=cL e4;try simp only [lA,lC,lN,lT']at U
   refine F8 (c.length:Int) 1048576 ?_
   obtain ⟨_,(rfl|⟨g,o,rfl,O,P,C,N⟩),y⟩:=ih t (c.length:Int) (j+1) pos c (by exact fin) kn
   ·refine ch y ?_
    exact Aj ⟨[(c.length:Int)],[],[c],[]⟩ (.inr ((⟨_,_,rfl,fin,kn,kn,kn⟩)))
   refine cm y ?_
   refine ch y ?_
   exact Aj ⟨[g],[],[o],[]⟩ (.inr ((⟨_,_,rfl,fin,kn,kn,kn⟩)))
  obtain ⟨_,(rfl|⟨d,v,rfl,H,J,D,M⟩),u⟩:=ih t q (j+1) pos L (by exact fin) kn
  ·refine ch u ?_
   exact Aj v0 (.inl rfl)
  refine cm u ?_
  refine ch u ?_
  exact Aj ⟨[d],[],[v],[]⟩ (.inr ((⟨_,_,rfl,fin,kn,kn,kn⟩)))
 exact Aj v0 (.inl rfl)
theorem Al4:AmB 41:=fun {Γ} {f} {bl} {vl} {count} {left} {call} {loads} {B} {V} hM t ln j pos L hL h=>AkK hM ((vl-j).toNat+1) t ln j pos L hL ⟨h.1,h.2.1,h.2.2.1,h.2.2.2.1,h.2.2.2.2,Nat.lt_succ_self _⟩
theorem AkL {Γ:Ctx} {f z:Int} {u count:Int} {left call loads:Int} {B V:Rs} (A:NN Γ f z u count left call loads B V) (n:Nat):AjV 39 Γ f z u count left call loads B V n:=by
 induction n with
 |zero=>intro t j pos h;exact absurd h.2.2 (Nat.not_lt_zero _)
 |succ n ih=>
 intro t j pos h
 have ⟨hB,hl,hvl,Hi,hV,hb,hc,hd⟩:=A
 refine .of (t:=Acp) rfl ?_
 unfold Acp
 refine lt j u (fun t1=>?_) fun t1=>?_
 ·refine CX j 0 ?_
  obtain ⟨g,t_1,y,ad,aa,U,ab⟩:=hV j (by omega) (by omega)
  refine el y ?_
  refine eq t_1 t (fun Q=>?_) fun Q=>?_
  ·refine dL [[.str g]] (fun v Z=>?_)
   have R:=cL Z;try simp only [lA,lC,lN,lT']at R
   refine ll 1 v ?_
   obtain ⟨_,(rfl|⟨d,k,rfl,O,P,C,N⟩),x⟩:=Al4 A t 1 (j+1) pos v (by exact fin)
   ·refine ch x ?_
    exact Aj ⟨[1],[],[v],[]⟩ (.inr ((⟨_,_,rfl,fin,kn,kn,kn⟩)))
   refine cm x ?_
   refine ch x ?_
   exact Aj ⟨[d],[],[k],[]⟩ (.inr ((⟨_,_,rfl,fin,kn,kn,kn⟩)))
  obtain ⟨_,(rfl|⟨c,q,rfl,H,J,D,M⟩),o⟩:=ih t (j+1) pos kn
  ·refine ch o ?_
   exact Aj v0 (.inl rfl)
  refine cm o ?_
  refine ch o ?_
  exact Aj ⟨[c],[],[q],[]⟩ (.inr ((⟨_,_,rfl,fin,kn,kn,kn⟩)))
 exact Aj v0 (.inl rfl)
theorem Al6:AfA 39:=fun {Γ} {f} {bl} {vl} {count} {left} {call} {loads} {B} {V} hM t j pos h=>AkL hM ((vl-j).toNat+1) t j pos ⟨h.1,h.2,Nat.lt_succ_self _⟩
theorem Al9:Adl 34:=@AcG 1 34 8 38 rfl @Lr @Al7
theorem Al8:Adl 36:=@AcG 0 36 9 39 rfl @Yg @Al6
theorem AiE:Yp 26:=@Aal 1 26 8 34 rfl @Lr @Al9
theorem AiD:Yp 30:=@Aal 0 30 9 36 rfl @Yg @Al8
theorem Af0:Vg 16 19:=@Oa 1 19 16 rfl
theorem Afy:Vg 22 25:=@Oa 0 25 22 rfl
theorem Afx:Yo 16 35:=@Aic 1 35 16 19 rfl @Af0
theorem Afw:Yo 22 37:=@Aic 0 37 22 25 rfl @Afy
theorem AlF:Abo 16 27:=@Aie 1 27 16 8 26 35 rfl @Lr @AiE @Afx
theorem AlC:Abo 22 31:=@Aie 0 31 22 9 30 37 rfl @Yg @AiD @Afw
theorem AlE:Abn 16 28:=@AcH 1 28 16 8 35 rfl @Lr @Afx
theorem AlB:Abn 22 32:=@AcH 0 32 22 9 37 rfl @Yg @Afw
theorem AlD:Abm 16 29:=@Aid 1 29 16 8 35 rfl @Lr @Afx
theorem AlA:Abm 22 33:=@Aid 0 33 22 9 37 rfl @Yg @Afw
theorem Jj:Rn 16:=@K1 1 16 8 26 27 28 29 rfl @Lr @AiE @AlF @AlE @AlD
theorem UT:Rn 22:=@K1 0 22 9 30 31 32 33 rfl @Yg @AiD @AlC @AlB @AlA
end Go.Proofs.YtbmofjdmgjpfoaaGreatDoor.Am
end
section
set_option maxHeartbeats 4000000
set_option maxRecDepth 100000
namespace Go.Proofs.YtbmofjdmgjpfoaaGreatDoor.Am
open Go.AM Go.AM.K
def Amz (N:Nat):Prop:=∀(n:Int) (h:0≤n∧n<24:=by exact kn),Ok trees N ⟨[n],[],[],[]⟩ fun d=>(∃(c:List Nat),d=(0,(⟨[],[c],[],[]⟩:Ah))∧([118]++c=vn n.toNat)∧(c.length≤2))
theorem Ai7:Amz 60:=by
 intro n h
 refine .of (t:=AbZ) rfl ?_
 unfold AbZ
 refine sn n 0 (fun Q=>?_) fun Q=>?_
 ·exact Aj ⟨[],[[48]],[],[]⟩ (⟨_,rfl,(by first|(subst_vars;rfl) |(rw [show n=23 by omega];rfl)),(by simp)⟩)
 refine sn n 1 (fun P=>?_) fun P=>?_
 ·exact Aj ⟨[],[[49]],[],[]⟩ (⟨_,rfl,(by first|(subst_vars;rfl) |(rw [show n=23 by omega];rfl)),(by simp)⟩)
 refine sn n 2 (fun D=>?_) fun D=>?_
 ·exact Aj ⟨[],[[50]],[],[]⟩ (⟨_,rfl,(by first|(subst_vars;rfl) |(rw [show n=23 by omega];rfl)),(by simp)⟩)
 refine sn n 3 (fun O=>?_) fun O=>?_
 ·exact Aj ⟨[],[[51]],[],[]⟩ (⟨_,rfl,(by first|(subst_vars;rfl) |(rw [show n=23 by omega];rfl)),(by simp)⟩)
 refine sn n 4 (fun M=>?_) fun M=>?_
 ·exact Aj ⟨[],[[52]],[],[]⟩ (⟨_,rfl,(by first|(subst_vars;rfl) |(rw [show n=23 by omega];rfl)),(by simp)⟩)
 refine sn n 5 (fun R=>?_) fun R=>?_
 ·exact Aj ⟨[],[[53]],[],[]⟩ (⟨_,rfl,(by first|(subst_vars;rfl) |(rw [show n=23 by omega];rfl)),(by simp)⟩)
 refine sn n 6 (fun N=>?_) fun N=>?_
 ·exact Aj ⟨[],[[54]],[],[]⟩ (⟨_,rfl,(by first|(subst_vars;rfl) |(rw [show n=23 by omega];rfl)),(by simp)⟩)
 refine sn n 7 (fun J=>?_) fun J=>?_
 ·exact Aj ⟨[],[[55]],[],[]⟩ (⟨_,rfl,(by first|(subst_vars;rfl) |(rw [show n=23 by omega];rfl)),(by simp)⟩)
 refine sn n 8 (fun H=>?_) fun H=>?_
 ·exact Aj ⟨[],[[56]],[],[]⟩ (⟨_,rfl,(by first|(subst_vars;rfl) |(rw [show n=23 by omega];rfl)),(by simp)⟩)
 refine sn n 9 (fun z=>?_) fun z=>?_
 ·exact Aj ⟨[],[[57]],[],[]⟩ (⟨_,rfl,(by first|(subst_vars;rfl) |(rw [show n=23 by omega];rfl)),(by simp)⟩)
 refine sn n 10 (fun c=>?_) fun c=>?_
 ·exact Aj ⟨[],[[49,48]],[],[]⟩ (⟨_,rfl,(by first|(subst_vars;rfl) |(rw [show n=23 by omega];rfl)),(by simp)⟩)
 refine sn n 11 (fun g=>?_) fun g=>?_
 ·exact Aj ⟨[],[[49,49]],[],[]⟩ (⟨_,rfl,(by first|(subst_vars;rfl) |(rw [show n=23 by omega];rfl)),(by simp)⟩)
 refine sn n 12 (fun o=>?_) fun o=>?_
 ·exact Aj ⟨[],[[49,50]],[],[]⟩ (⟨_,rfl,(by first|(subst_vars;rfl) |(rw [show n=23 by omega];rfl)),(by simp)⟩)
 refine sn n 13 (fun j=>?_) fun j=>?_
 ·exact Aj ⟨[],[[49,51]],[],[]⟩ (⟨_,rfl,(by first|(subst_vars;rfl) |(rw [show n=23 by omega];rfl)),(by simp)⟩)
 refine sn n 14 (fun q=>?_) fun q=>?_
 ·exact Aj ⟨[],[[49,52]],[],[]⟩ (⟨_,rfl,(by first|(subst_vars;rfl) |(rw [show n=23 by omega];rfl)),(by simp)⟩)
 refine sn n 15 (fun u=>?_) fun u=>?_
 ·exact Aj ⟨[],[[49,53]],[],[]⟩ (⟨_,rfl,(by first|(subst_vars;rfl) |(rw [show n=23 by omega];rfl)),(by simp)⟩)
 refine sn n 16 (fun A=>?_) fun A=>?_
 ·exact Aj ⟨[],[[49,54]],[],[]⟩ (⟨_,rfl,(by first|(subst_vars;rfl) |(rw [show n=23 by omega];rfl)),(by simp)⟩)
 refine sn n 17 (fun y=>?_) fun y=>?_
 ·exact Aj ⟨[],[[49,55]],[],[]⟩ (⟨_,rfl,(by first|(subst_vars;rfl) |(rw [show n=23 by omega];rfl)),(by simp)⟩)
 refine sn n 18 (fun x=>?_) fun x=>?_
 ·exact Aj ⟨[],[[49,56]],[],[]⟩ (⟨_,rfl,(by first|(subst_vars;rfl) |(rw [show n=23 by omega];rfl)),(by simp)⟩)
 refine sn n 19 (fun d=>?_) fun d=>?_
 ·exact Aj ⟨[],[[49,57]],[],[]⟩ (⟨_,rfl,(by first|(subst_vars;rfl) |(rw [show n=23 by omega];rfl)),(by simp)⟩)
 refine sn n 20 (fun C=>?_) fun C=>?_
 ·exact Aj ⟨[],[[50,48]],[],[]⟩ (⟨_,rfl,(by first|(subst_vars;rfl) |(rw [show n=23 by omega];rfl)),(by simp)⟩)
 refine sn n 21 (fun k=>?_) fun k=>?_
 ·exact Aj ⟨[],[[50,49]],[],[]⟩ (⟨_,rfl,(by first|(subst_vars;rfl) |(rw [show n=23 by omega];rfl)),(by simp)⟩)
 refine sn n 22 (fun v=>?_) fun v=>?_
 ·exact Aj ⟨[],[[50,50]],[],[]⟩ (⟨_,rfl,(by first|(subst_vars;rfl) |(rw [show n=23 by omega];rfl)),(by simp)⟩)
 refine Cq n 23 ?_
 exact Aj ⟨[],[[50,51]],[],[]⟩ (⟨_,rfl,(by first|(subst_vars;rfl) |(rw [show n=23 by omega];rfl)),(by simp)⟩)
def Yq (E:Bool) (N:Nat):Prop:=∀{Γ:Ctx} {f K M:Int} (P J:Int) (D v:Int) (pos k:Int) (count left:Int) (call d:Int) (B V:Rs) (Q:MS E Γ f K M v pos k count left call d B V) (h:1≤D∧count+left+1≤K∧pos+300*left+200≤M:=by exact kn),Ok trees N ⟨[v,pos,k,count,left,call,d],[],[B,V],[]⟩ fun O=>(∃(H:Ctx),∃(t' C y z w' o g j c:Int),∃(A x:List Nat),∃(u q:Rs),O=(0,(⟨[t',C,y,z,w',o,0,0,0,g,j,c],[A,x],[u,[],[],[],q],[]⟩:Ah))∧(MS false H f K M v g j c left call d B q)∧(Ei P J D Γ H (left+1) left (Bh 1 0 t' 0 A C y z x w' u 0 0 0 [] 0 [] [] []))∧(Ext k V q)∧(count≤c)∧(k≤j)∧(g≤pos+100)∧(o=u.length))
def Abr (E:Bool) (N:Nat):Prop:=∀{Γ:Ctx} {K M:Int} (J C:Int) (D f:Int) (z pos:Int) (o count:Int) (left call loads:Int) (B V:Rs) (P:MS E Γ f K M z pos o count left call loads B V) (h:1≤D∧count+left+1≤K∧pos+300*left+200≤M:=by exact kn),Ok trees N ⟨[f,z,pos,o,count,left,call,loads],[],[B,V],[]⟩ fun H=>(∃(y q v w' g c:Int),∃(x k:List Nat),∃(j:Rs),H=(0,(⟨[y,q,v,w',g,0,0,0,c],[x,k],[j,[],[],[]],[]⟩:Ah))∧(MS E Γ f K M z c o count left call loads B V)∧(Ei J C D Γ Γ (left+1) left (Bh 2 0 0 0 x y q v k w' j 0 0 0 [] 0 [] [] []))∧(c≤pos+100)∧(g=j.length))∨(∃(O:Ctx),∃(t' y q v w' g c u d:Int),∃(x k:List Nat),∃(j A:Rs),H=(1,(⟨[t',y,q,v,w',g,0,0,0,c,u,d],[x,k],[j,[],[],[],A],[]⟩:Ah))∧(MS false O f K M z c u d left call loads B A)∧(Ei J C D Γ O (left+1) left (Bh 1 0 t' 0 x y q v k w' j 0 0 0 [] 0 [] [] []))∧(Ext o V A)∧(count≤d)∧(o≤u)∧(c≤pos+100)∧(g=j.length))
theorem AcJ {E:Bool} {d z Q o q:Nat} (hT:trees z=Abh d Q o q) (h8:Th Q) (am:Yq E o) (ae:Rn q):Abr E z:=by
 intro Γ K M lo pu D f bl pos c count left call j B V x h
 have ⟨hm,a4,a9,bd,a3,a1,ba,a8,a6,bc,a7⟩:=x;have ⟨hB,hl,hvl,Hi,hV,hb,hc,hd⟩:=hm;have bb:G 3=40:=rfl;have a5:G 2=12:=rfl;have a2:G (3-1)=12:=rfl
 refine .of (t:=Abh d Q o q) hT ?_
 unfold Abh
 refine le c f (fun t1=>?_) fun t1=>?_
 ·obtain ⟨_,⟨an,t_2,al,af,ab,ag,R,v,J,k,Z,ad,ak,aa,rfl,A,aJ,aY,aN,aZ,az,ap⟩,G2⟩:=am lo pu D bl pos c count left call j B V (MS.mv x)
  refine ch G2 ?_
  have ⟨_,_,aD,aK,aW,aC,av,aX,_,_,_⟩:=A
  exact Aj ⟨[t_2,al,af,ab,ag,R,0,0,0,v,J,k],[Z,ad],[ak,[],[],[],aa],[]⟩ (.inr ((⟨an,_,_,_,_,_,_,_,_,_,_,_,_,_,rfl,‹_›,AE,AE,kn,kn,kn,kn⟩)))
 obtain ⟨_,⟨g,u,rfl,aU,aB,aL⟩,G3⟩:=h8 hB hl pos c count left call j V
 refine ch G3 ?_
 refine AT (c-f) 0 ?_
 have m4:=Int.emod_nonneg g (show (c-f)≠0 by omega);have be:=Int.emod_lt_of_pos g (show 0<(c-f) by omega)
 refine CX (f+(g%(c-f))) 0 ?_
 refine BD (f+(g%(c-f))) c ?_
 obtain ⟨O,Xr,H,P,N,aV,aP⟩:=hV (f+(g%(c-f))) (by omega) (by omega)
 refine el H ?_
 have aM:=N (by omega);obtain ⟨_,_,_,aq⟩:=P
 obtain ⟨_,⟨ai,ah,U,ao,C,y,aj,ac,rfl,aE,aG,ax,aA⟩,G6⟩:=ae (x.Fv count left) Xr 3 u
 refine ch G6 ?_
 refine de [] ?_
 refine ll 0 [] ?_
 exact Aj ⟨[ai,ah,U,ao,C,0,0,0,y],[O,aj],[ac,[],[],[]],[]⟩ (.inl (⟨_,_,_,_,_,_,_,_,_,rfl,(MS.mv x),AE,kn,kn⟩))
def Abq (E:Bool) (N:Nat):Prop:=∀{Γ:Ctx} {f K M:Int} (O z:Int) (D q:Int) (pos k:Int) (count left:Int) (call c:Int) (B V:Rs) (P:MS E Γ f K M q pos k count left call c B V) (h:1≤D∧pos+300*left+200≤M∧z=0:=by exact kn),Ok trees N ⟨[q,pos,k,count,left,call,c],[],[B,V],[]⟩ fun J=>(∃(g y v C x j d:Int),∃(A H:List Nat),∃(o u:Rs),J=(0,(⟨[g,y,v,C,x,j,0,0,d],[A,H],[o,u,[],[]],[]⟩:Ah))∧(MS E Γ f K M q d k count left call c B V)∧(Ei O z D Γ Γ (left+1) left (Bh 3 0 0 0 A 5 17 0 [] 0 o y v C H x u [] []))∧(d≤pos+100)∧(g=o.length)∧(j=u.length))
theorem Aif {E:Bool} {d af N8 q u:Nat} (hT:trees af=Abg d N8 q u) (h8:Th N8) (g:Rn q) (o:Vg q u):Abq E af:=by
 intro Γ f K M lo pu D bl pos vl count left call aa B V c h
 have ⟨hm,cw,cr,cu,cv,co,ct,cz,cy,cB,cq⟩:=c;have ⟨hB,hl,hvl,Hi,hV,hb,hc,hd⟩:=hm;have cA:G 3=40:=rfl;have cx:G 2=12:=rfl;have cp:G (3-1)=12:=rfl
 refine .of (t:=Abg d N8 q u) hT ?_
 unfold Abg
 obtain ⟨_,⟨k,j,rfl,bN,cn,cb⟩,G1⟩:=h8 hB hl pos vl count left call aa V
 refine ch G1 ?_
 refine eq (k%6) 0 (fun t2=>?_) fun t2=>?_
 ·obtain ⟨_,⟨aq,N,a8,rfl,b1,bM,ce,cf⟩,G3⟩:=o (c.Fv count left) (Jp.of (c.Fv count left) (n:=10) @g) 8 3 j
  refine ch G3 ?_
  obtain ⟨_,⟨aV,a1,aR,aW,an,ab,a2,a9,rfl,bT,b9,bO,bY⟩,G4⟩:=g (c.Fv count left) 1 3 N
  refine ch G4 ?_
  refine de [] ?_
  refine ll 0 [] ?_
  exact Aj ⟨[aq,aV,a1,aR,aW,an,0,0,ab],[[97],a2],[a8,a9,[],[]],[]⟩ (⟨_,_,_,_,_,_,_,_,_,_,_,rfl,(MS.mv c),AE,kn,kn,kn⟩)
 refine eq (k%6) 1 (fun t5=>?_) fun t5=>?_
 ·obtain ⟨_,⟨aH,U,a5,rfl,cd,bQ,b5,bK⟩,G6⟩:=o (c.Fv count left) (Jp.of (c.Fv count left) (n:=10) @g) 8 3 j
  refine ch G6 ?_
  obtain ⟨_,⟨a7,bb,a3,a0,aI,R,bc,bd,rfl,bS,b8,b7,bP⟩,G7⟩:=g (c.Fv count left) 1 3 U
  refine ch G7 ?_
  refine de [] ?_
  refine ll 0 [] ?_
  exact Aj ⟨[aH,a7,bb,a3,a0,aI,0,0,R],[[97],bc],[a5,bd,[],[]],[]⟩ (⟨_,_,_,_,_,_,_,_,_,_,_,rfl,(MS.mv c),AE,kn,kn,kn⟩)
 refine eq (k%6) 2 (fun t8=>?_) fun t8=>?_
 ·obtain ⟨_,⟨az,ac,a4,rfl,b2,bZ,ck,cg⟩,G9⟩:=o (c.Fv count left) (Jp.of (c.Fv count left) (n:=10) @g) 8 3 j
  refine ch G9 ?_
  obtain ⟨_,⟨aw,aL,am,aD,J,v,au,aB,rfl,be,bo,bw,bH⟩,aZ⟩:=g (c.Fv count left) 1 3 ac
  refine ch aZ ?_
  refine de [] ?_
  refine ll 0 [] ?_
  exact Aj ⟨[az,aw,aL,am,aD,J,0,0,v],[[115],au],[a4,aB,[],[]],[]⟩ (⟨_,_,_,_,_,_,_,_,_,_,_,rfl,(MS.mv c),AE,kn,kn,kn⟩)
 refine eq (k%6) 3 (fun aX=>?_) fun aX=>?_
 ·obtain ⟨_,⟨Q,x,aE,rfl,bB,bf,bm,bp⟩,aU⟩:=o (c.Fv count left) (Jp.of (c.Fv count left) (n:=10) @g) 4 3 j
  refine ch aU ?_
  obtain ⟨_,⟨aJ,ak,aA,aN,P,H,ao,aC,rfl,bD,bq,bz,bx⟩,a6⟩:=g (c.Fv count left) 2 3 x
  refine ch a6 ?_
  refine de [] ?_
  refine ll 0 [] ?_
  exact Aj ⟨[Q,aJ,ak,aA,aN,P,0,0,H],[[102],ao],[aE,aC,[],[]],[]⟩ (⟨_,_,_,_,_,_,_,_,_,_,_,rfl,(MS.mv c),AE,kn,kn,kn⟩)
 refine eq (k%6) 4 (fun aY=>?_) fun aY=>?_
 ·obtain ⟨_,⟨ad,C,aG,rfl,bI,bA,bv,bt⟩,ba⟩:=o (c.Fv count left) (Jp.of (c.Fv count left) (n:=10) @g) 4 3 j
  refine ch ba ?_
  obtain ⟨_,⟨K1,aK,aj,aM,O,z,ay,ap,rfl,bg,bF,bn,bh⟩,aP⟩:=g (c.Fv count left) 1 3 C
  refine ch aP ?_
  refine de [] ?_
  refine ll 0 [] ?_
  exact Aj ⟨[ad,K1,aK,aj,aM,O,0,0,z],[[112],ay],[aG,ap,[],[]],[]⟩ (⟨_,_,_,_,_,_,_,_,_,_,_,rfl,(MS.mv c),AE,kn,kn,kn⟩)
 refine BL (k%6) 5 ?_
 obtain ⟨_,⟨ae,A,ai,rfl,bj,bE,bG,bk⟩,aQ⟩:=o (c.Fv count left) (Jp.of (c.Fv count left) (n:=10) @g) 4 3 j
 refine ch aQ ?_
 obtain ⟨_,⟨AcI,aF,al,av,Z,y,ag,ah,rfl,bi,bC,bJ,br⟩,aO⟩:=g (c.Fv count left) 3 3 A
 refine ch aO ?_
 refine de [] ?_
 refine ll 0 [] ?_
 exact Aj ⟨[ae,AcI,aF,al,av,Z,0,0,y],[[98],ag],[ai,ah,[],[]],[]⟩ (⟨_,_,_,_,_,_,_,_,_,_,_,rfl,(MS.mv c),AE,kn,kn,kn⟩)
def Abp (E:Bool) (N:Nat):Prop:=∀{Γ:Ctx} {K M:Int} (lo O:Int) (D f:Int) (z pos:Int) (v count:Int) (left call loads:Int) (B V:Rs) (hM:MS E Γ f K M z pos v count left call loads B V) (h:1≤D∧count+left+1≤K∧pos+300*left+200≤M∧O=0:=by exact kn),Ok trees N ⟨[f,z,pos,v,count,left,call,loads],[],[B,V],[]⟩ fun R=>(∃(C y q o w' g k2 P U Q A c:Int),∃(x u Z:List Nat),∃(j H:Rs),R=(0,(⟨[C,y,q,o,w',g,k2,P,U,Q,A,0,0,c],[x,u,Z],[j,H,[],[]],[]⟩:Ah))∧(MS E Γ f K M z c v count left call loads B V)∧(Ei lo O D Γ Γ (left+1) left (Bh 12 C 0 0 x y q o u w' j k2 P U Z Q H [] []))∧(c≤pos+100)∧(g=j.length)∧(A=H.length))∨(∃(Γ':Ctx),∃(t' y q o w' g c k d:Int),∃(x u:List Nat),∃(j J:Rs),R=(1,(⟨[t',y,q,o,w',g,0,0,0,c,k,d],[x,u],[j,[],[],[],J],[]⟩:Ah))∧(MS false Γ' f K M z c k d left call loads B J)∧(Ei lo O D Γ Γ' (left+1) left (Bh 1 0 t' 0 x y q o u w' j 0 0 0 [] 0 [] [] []))∧(Ext v V J)∧(count≤d)∧(v≤k)∧(c≤pos+100)∧(g=j.length))
theorem AcI {E:Bool} {d aF N8 ad ay:Nat} (hT:trees aF=Abf d N8 ad ay) (N:Th N8) (bo:Yq E ad) (q:Rn ay):Abp E aF:=by
 intro Γ K M lo pu D f bl pos k count left call c B V j h
 have ⟨hm,c6,c2,c4,c5,cY,c3,c9,c8,dc,c1⟩:=j;have ⟨hB,hl,hvl,Hi,hV,hb,hc,hd⟩:=hm;have db:G 3=40:=rfl;have c7:G 2=12:=rfl;have cZ:G (3-1)=12:=rfl
 refine .of (t:=Abf d N8 ad ay) hT ?_
 unfold Abf
 refine le k f (fun t1=>?_) fun t1=>?_
 ·obtain ⟨_,⟨bq,t_2,bF,bf,ba,bi,aU,az,aN,O,a7,bw,bn,bv,rfl,aV,cR,cG,cx,cV,ci,cI⟩,G2⟩:=bo lo pu D bl pos k count left call c B V (MS.mv j)
  refine ch G2 ?_
  have ⟨_,_,cO,ct,cU,ck,cf,cF,_,_,_⟩:=aV
  exact Aj ⟨[t_2,bF,bf,ba,bi,aU,0,0,0,az,aN,O],[a7,bw],[bn,[],[],[],bv],[]⟩ (.inr ((⟨bq,_,_,_,_,_,_,_,_,_,_,_,_,_,rfl,‹_›,AE,AE,kn,kn,kn,kn⟩)))
 obtain ⟨_,⟨v,z,rfl,cE,cj,cS⟩,G3⟩:=N hB hl pos k count left call c V
 refine ch G3 ?_
 refine AT (k-f) 0 ?_
 have m4:=Int.emod_nonneg v (show (k-f)≠0 by omega);have dd:=Int.emod_lt_of_pos v (show 0<(k-f) by omega)
 refine CX (f+(v%(k-f))) 0 ?_
 refine BD (f+(v%(k-f))) k ?_
 obtain ⟨g,Xr,aM,a2,a0,cT,cA⟩:=hV (f+(v%(k-f))) (by omega) (by omega)
 refine el aM ?_
 have cw:=a0 (by omega);obtain ⟨_,_,_,cJ⟩:=a2
 refine eq Xr 3 (fun t6=>?_) fun t6=>?_
 ·obtain ⟨_,⟨bx,aA,rfl,cq,cN,cM⟩,G7⟩:=N hB hl z k count left call c V
  refine ch G7 ?_
  obtain ⟨_,⟨XL,bC,bm,br,aL,aC,bg,bc,rfl,cn,cg,cy,cv⟩,G8⟩:=q (j.Fv count left) 3 3 aA
  refine ch G8 ?_
  refine de [] ?_
  refine ll 0 [] ?_
  exact Aj ⟨[(2+(bx%2)),XL,bC,bm,br,aL,0,0,0,0,0,0,0,aC],[g,bg,[]],[bc,[],[],[]],[]⟩ (.inl (⟨_,_,_,_,_,_,_,_,_,_,_,_,_,_,_,_,_,rfl,(MS.mv j),AE,kn,kn,kn⟩))
 obtain ⟨_,⟨J,o,rfl,cH,cC,cX⟩,G9⟩:=N hB hl z k count left call c V
 refine ch G9 ?_
 refine eq (J%4) 0 (fun be=>?_) fun be=>?_
 ·obtain ⟨_,⟨ap,ag,rfl,bT,bJ,b7⟩,bk⟩:=N hB hl o k count left call c V
  refine ch bk ?_
  obtain ⟨_,⟨Uo,an,au,aj,C,u,Z,ak,rfl,b8,bK,bU,bX⟩,bb⟩:=q (j.Fv count left) Xr 3 ag
  refine ch bb ?_
  refine eq (ap%2) 0 (fun bD=>?_) fun bD=>?_
  ·refine de [] ?_
   refine ll 0 [] ?_
   exact Aj ⟨[5,Uo,an,au,aj,C,0,0,0,0,0,0,0,u],[g,Z,[]],[ak,[],[],[]],[]⟩ (.inl (⟨_,_,_,_,_,_,_,_,_,_,_,_,_,_,_,_,_,rfl,(MS.mv j),AE,kn,kn,kn⟩))
  refine BL (ap%2) 1 ?_
  refine de [] ?_
  refine ll 0 [] ?_
  exact Aj ⟨[6,Uo,an,au,aj,C,0,0,0,0,0,0,0,u],[g,Z,[]],[ak,[],[],[]],[]⟩ (.inl (⟨_,_,_,_,_,_,_,_,_,_,_,_,_,_,_,_,_,rfl,(MS.mv j),AE,kn,kn,kn⟩))
 refine eq (J%4) 1 (fun bj=>?_) fun bj=>?_
 ·obtain ⟨_,⟨ai,ao,rfl,ce,b4,b2⟩,bE⟩:=N hB hl o k count left call c V
  refine ch bE ?_
  obtain ⟨_,⟨K1,aq,Q,aw,A,y,af,ab,rfl,bM,b9,bW,bO⟩,a8⟩:=q (j.Fv count left) Xr 3 ao
  refine ch a8 ?_
  refine eq (ai%2) 0 (fun bA=>?_) fun bA=>?_
  ·refine de [] ?_
   refine ll 0 [] ?_
   exact Aj ⟨[5,K1,aq,Q,aw,A,0,0,0,0,0,0,0,y],[g,af,[]],[ab,[],[],[]],[]⟩ (.inl (⟨_,_,_,_,_,_,_,_,_,_,_,_,_,_,_,_,_,rfl,(MS.mv j),AE,kn,kn,kn⟩))
  refine BL (ai%2) 1 ?_
  refine de [] ?_
  refine ll 0 [] ?_
  exact Aj ⟨[6,K1,aq,Q,aw,A,0,0,0,0,0,0,0,y],[g,af,[]],[ab,[],[],[]],[]⟩ (.inl (⟨_,_,_,_,_,_,_,_,_,_,_,_,_,_,_,_,_,rfl,(MS.mv j),AE,kn,kn,kn⟩))
 refine eq (J%4) 2 (fun bz=>?_) fun bz=>?_
 ·obtain ⟨_,⟨Oa,aW,aJ,a3,aE,ax,a5,a4,rfl,cb,b3,b1,bZ⟩,a9⟩:=q (j.Fv count left) Xr 2 o
  refine ch a9 ?_
  obtain ⟨_,⟨aI,aR,aZ,a6,aD,U,aH,aG,rfl,b5,bR,bL,cc⟩,bt⟩:=q (j.Fv count left) 1 2 ax
  refine ch bt ?_
  refine de [] ?_
  refine ll 0 [] ?_
  exact Aj ⟨[4,Oa,aW,aJ,a3,aE,aI,aR,aZ,a6,aD,0,0,U],[g,a5,aH],[a4,aG,[],[]],[]⟩ (.inl (⟨_,_,_,_,_,_,_,_,_,_,_,_,_,_,_,_,_,rfl,(MS.mv j),AE,kn,kn,kn⟩))
 refine BL (J%4) 3 ?_
 refine eq Xr 1 (fun bG=>?_) fun bG=>?_
 ·obtain ⟨_,⟨aK,aX,aY,a1,aB,aa,aO,aQ,rfl,b6,bS,bH,bN⟩,bd⟩:=q (j.Fv count left) 3 3 o
  refine ch bd ?_
  refine de [] ?_
  refine ll 0 [] ?_
  exact Aj ⟨[1,aK,aX,aY,a1,aB,0,0,0,0,0,0,0,aa],[g,aO,[]],[aQ,[],[],[]],[]⟩ (.inl (⟨_,_,_,_,_,_,_,_,_,_,_,_,_,_,_,_,_,rfl,(MS.mv j),AE,kn,kn,kn⟩))
 obtain ⟨_,⟨ae,ac,rfl,bP,bI,bV⟩,bp⟩:=N hB hl o k count left call c V
 refine ch bp ?_
 obtain ⟨_,⟨P,al,R,av,H,x,ah,am,rfl,cd,b0,bQ,bY⟩,bB⟩:=q (j.Fv count left) Xr 3 ac
 refine ch bB ?_
 refine eq (ae%2) 0 (fun bh=>?_) fun bh=>?_
 ·refine de [] ?_
  refine ll 0 [] ?_
  exact Aj ⟨[5,P,al,R,av,H,0,0,0,0,0,0,0,x],[g,ah,[]],[am,[],[],[]],[]⟩ (.inl (⟨_,_,_,_,_,_,_,_,_,_,_,_,_,_,_,_,_,rfl,(MS.mv j),AE,kn,kn,kn⟩))
 refine BL (ae%2) 1 ?_
 refine de [] ?_
 refine ll 0 [] ?_
 exact Aj ⟨[6,P,al,R,av,H,0,0,0,0,0,0,0,x],[g,ah,[]],[am,[],[],[]],[]⟩ (.inl (⟨_,_,_,_,_,_,_,_,_,_,_,_,_,_,_,_,_,rfl,(MS.mv j),AE,kn,kn,kn⟩))
def Gj (E:Bool) (N n:Nat):Prop:=∀{Γ:Ctx} {K M:Int} (f depth:Int) (v loop:Int) (pure U:Int) (pos C:Int) (count left:Int) (call d:Int) (B V:Rs) (hM:MS E Γ f K M U pos C count left call d B V) (h:0≤depth∧depth≤2∧1≤left∧(pure=0∨pure=1)∧(loop=0∨loop=1)∧(v=0∨v=1)∧depth.toNat<n),Ok trees N ⟨[f,depth,v,loop,pure,U,pos,C,count,left,call,d],[],[B,V],[]⟩ fun zz=>(∃(R o' H J P A D u yk yo yt yw x O el c left':Int),∃(Q z yn:List Nat),∃(q o j k:Rs),zz=(0,(⟨[R,o',H,J,P,A,D,u,yk,yo,yt,yw,x,O,el,c,left'],[Q,z,yn],[q,o,j,k],[]⟩:Ah))∧(MS E Γ f K M U c C count left' call d B V)∧(Ei loop pure (depth+1) Γ Γ left left' (Bh R o' 0 H Q J P A z D q yk yo yt yn yw o j k))∧(c+300*left'≤pos+300*left)∧(u=q.length)∧(x=o.length)∧(O=j.length)∧(el=k.length)∧(left'+1≤left))∨(∃(Γ':Ctx),∃(R t' H J P A D u x O el c y g left':Int),∃(Q z:List Nat),∃(q o j k Z:Rs),zz=(1,(⟨[R,t',H,J,P,A,D,u,x,O,el,c,y,g,left'],[Q,z],[q,o,j,k,Z],[]⟩:Ah))∧(MS false Γ' f K M U c y g left' call d B Z)∧(Ei loop pure (depth+1) Γ Γ' left left' (Bh R 0 t' H Q J P A z D q 0 0 0 [] 0 o j k))∧(Ext C V Z)∧(count≤g)∧(C≤y)∧(c+300*left'≤pos+300*left)∧(u=q.length)∧(x=o.length)∧(O=j.length)∧(el=k.length)∧(left'+1≤left))
def Adm (E:Bool) (N:Nat):Prop:=∀{Γ:Ctx} {K M:Int} (f depth:Int) (v loop:Int) (pure U:Int) (pos C:Int) (count left:Int) (call d:Int) (B V:Rs) (hM:MS E Γ f K M U pos C count left call d B V) (h:0≤depth∧depth≤2∧1≤left∧(pure=0∨pure=1)∧(loop=0∨loop=1)∧(v=0∨v=1):=by exact kn),Ok trees N ⟨[f,depth,v,loop,pure,U,pos,C,count,left,call,d],[],[B,V],[]⟩ fun zz=>(∃(R o' H J P A D u yk yo yt yw x O el c left':Int),∃(Q z yn:List Nat),∃(q o j k:Rs),zz=(0,(⟨[R,o',H,J,P,A,D,u,yk,yo,yt,yw,x,O,el,c,left'],[Q,z,yn],[q,o,j,k],[]⟩:Ah))∧(MS E Γ f K M U c C count left' call d B V)∧(Ei loop pure (depth+1) Γ Γ left left' (Bh R o' 0 H Q J P A z D q yk yo yt yn yw o j k))∧(c+300*left'≤pos+300*left)∧(u=q.length)∧(x=o.length)∧(O=j.length)∧(el=k.length)∧(left'+1≤left))∨(∃(Γ':Ctx),∃(R t' H J P A D u x O el c y g left':Int),∃(Q z:List Nat),∃(q o j k Z:Rs),zz=(1,(⟨[R,t',H,J,P,A,D,u,x,O,el,c,y,g,left'],[Q,z],[q,o,j,k,Z],[]⟩:Ah))∧(MS false Γ' f K M U c y g left' call d B Z)∧(Ei loop pure (depth+1) Γ Γ' left left' (Bh R 0 t' H Q J P A z D q 0 0 0 [] 0 o j k))∧(Ext C V Z)∧(count≤g)∧(C≤y)∧(c+300*left'≤pos+300*left)∧(u=q.length)∧(x=o.length)∧(O=j.length)∧(el=k.length)∧(left'+1≤left))
theorem Gj.of {E:Bool} {N n:Nat} (H:Adm E N):Gj E N n:=fun {Γ} {K} {M} f depth top loop pure bl pos vl count left call loads B V hM h=>H f depth top loop pure bl pos vl count left call loads B V hM (by have:=h;omega)
def Yn (E:Bool) (v N:Nat):Prop:=∀{m:Nat} (x:Gj E v m) {Γ:Ctx} {K M:Int} (f depth:Int) (loop pure:Int) (o pos:Int) (j count:Int) (left call loads:Int) (B V:Rs) (y:MS E Γ f K M o pos j count left call loads B V) (h:0≤depth∧depth≤2∧(pure=0∨pure=1)∧(loop=0∨loop=1)∧depth.toNat<m∧pos+300*left+10≤M:=by exact kn),Ok trees N ⟨[f,depth,loop,pure,o,pos,j,count,left,call,loads],[],[B,V],[]⟩ fun u=>(∃(k c left':Int),∃(g:Rs),u=(0,(⟨[k,c,left'],[],[g],[]⟩:Ah))∧(MS E Γ f K M o c j count left' call loads B V)∧(ID loop pure (depth+1) Γ left left' g)∧(k=g.length)∧(left'≤left)∧(c+300*left'≤pos+300*left+1))∨(∃(k c d left':Int),∃(g q:Rs),u=(1,(⟨[k,c,j,d,left'],[],[g,q],[]⟩:Ah))∧(MS false Γ f K M o c j d left' call loads B q)∧(ID loop pure (depth+1) Γ left left' g)∧(Ext j V q)∧(count≤d)∧(k=g.length)∧(left'≤left)∧(c+300*left'≤pos+300*left+1))
theorem AkO {E:Bool} {d a4 a7 N8 co cp ba cf bU cn b5 aj ag:Nat} (hT:trees a4=Yk d N8 co cp ba cf bU cn b5 aj ag) (h8:Th N8) (jD:Yq E co) (aJ:Abr E cp) (a6:Rn ba) (ad:Abq E cf) (iB:Abp E bU) (ix:Vg ba cn) (b7:Yn E a4 b5) (eK:Th aj) (ej:Yn false a7 ag) (hx:∀n,Gj E a4 n→Gj false a7 n) (n:Nat):Gj E a4 n:=by
 induction n with
 |zero=>intro Γ K M f depth aO loop pure N pos u count left call c B V k h;exact absurd h.2.2.2.2.2.2 (Nat.not_lt_zero _)
 |succ n ih=>
 intro Γ K M f depth aO loop pure N pos u count left call c B V k h
 have ⟨hm,m7,na,nb,m3,nc,m6,m8,ng,m9,m5⟩:=k;have ⟨hB,hl,hvl,Hi,hV,hb,hc,hd⟩:=hm;have m4:G 3=40:=rfl;have nf:G 2=12:=rfl;have nd:G (3-1)=12:=rfl
 refine .of (t:=Yk d N8 co cp ba cf bU cn b5 aj ag) hT ?_
 unfold Yk
 obtain ⟨_,⟨O,g,rfl,mN,mM,mY⟩,G1⟩:=h8 hB hl pos u count (left-1) call c V
 refine ch G1 ?_
 refine eq (O%14) 0 (fun t2=>?_) fun t2=>?_
 ·obtain ⟨_,⟨gP,t_3,iW,ip,jc,j6,fL,eg,fF,bk,gu,h5,gW,iH,rfl,bO,mB,mZ,mJ,m0,mT,mQ⟩,G3⟩:=jD loop pure (depth+1) N g u count (left-1) call c B V (MS.mv k)
  refine ch G3 ?_
  have ⟨_,_,mK,mW,mV,mX,mI,m2,_,_,_⟩:=bO
  exact Aj ⟨[1,t_3,0,iW,ip,jc,j6,fL,0,0,0,eg,fF,bk,(left-1)],[gu,h5],[gW,[],[],[],iH],[]⟩ (.inr ((⟨gP,_,_,_,_,_,_,_,_,_,_,_,_,_,_,_,_,_,_,_,_,_,_,rfl,(MS.mv bO),AE,AE,kn,kn,kn,kn,kn,kn,kn,kn⟩)))
 refine lt (O%14) 4 (fun t4=>?_) fun t4=>?_
 ·obtain ⟨_,(⟨f2,fO,fA,fC,d2,bM,fM,fW,fw,rfl,a9,lB,lk,kK⟩|⟨fJ,f3,f4,fv,fG,fI,d0,cc,eb,aY,fT,fV,fN,fH,rfl,a2,me,mr,kV,kx,ml,k5⟩),G5⟩:=aJ loop pure (depth+1) f N g u count (left-1) call c B V (MS.mv k)
  ·refine ch G5 ?_
   have ⟨_,_,k1,kE,kN,lI,kO,la,_,_,_⟩:=a9
   exact Aj ⟨[2,0,0,f2,fO,fA,fC,d2,0,0,0,0,0,0,0,bM,(left-1)],[fM,fW,[]],[fw,[],[],[]],[]⟩ (.inl (⟨_,_,_,_,_,_,_,_,_,_,_,_,_,_,_,_,_,_,_,_,_,_,_,_,rfl,(MS.mv a9),AE,kn,kn,kn,kn,kn,kn⟩))
  refine cm G5 ?_
  refine ch G5 ?_
  have ⟨_,_,kw,l3,mz,kt,my,mp,_,_,_⟩:=a2
  exact Aj ⟨[1,f3,0,f4,fv,fG,fI,d0,0,0,0,cc,eb,aY,(left-1)],[fT,fV],[fN,[],[],[],fH],[]⟩ (.inr ((⟨fJ,_,_,_,_,_,_,_,_,_,_,_,_,_,_,_,_,_,_,_,_,_,_,rfl,(MS.mv a2),AE,AE,kn,kn,kn,kn,kn,kn,kn,kn⟩)))
 refine eq (O%14) 4 (fun t6=>?_) fun t6=>?_
 ·refine gt depth 0 (fun t7=>?_) fun t7=>?_
  ·obtain ⟨_,⟨XL,ab,Z,aa,R,c4,ac,U,rfl,mC,mA,mD,mH⟩,G8⟩:=a6 (k.Fv count (left-1)) 3 3 g
   refine ch G8 ?_
   obtain ⟨_,(⟨ah,cM,Q,aV,rfl,af,lQ,lS,lG,kG⟩|⟨ai,b2,J,P,aR,ak,rfl,ae,mt,kC,lp,mg,lz,l6⟩),G9⟩:=b7 @ih f (depth-1) loop pure N c4 u count (left-1) call c B V (MS.mv k)
   ·refine ch G9 ?_
    have ⟨_,_,lL,kI,kF,k2,lC,mh,_,_,_⟩:=af
    obtain ⟨_,⟨fQ,aG,rfl,ke,k4,mj⟩,jz⟩:=h8 hB hl cM u count Q call c V
    refine ch jz ?_
    refine eq (fQ%2) 0 (fun iv=>?_) fun iv=>?_
    ·obtain ⟨_,(⟨cO,bA,aQ,dp,rfl,ax,ie,ju,io,hs⟩|⟨cL,bo,aq,aU,dw,dJ,rfl,aL,gZ,g7,gJ,jY,ia,iO⟩),bI⟩:=b7 @ih f (depth-1) loop pure N aG u count Q call c B V (MS.mv af)
     ·refine ch bI ?_
      have ⟨_,_,jb,j8,iT,jq,hG,f7,_,_,_⟩:=ax
      refine de [] ?_
      refine ll 0 [] ?_
      exact Aj ⟨[5,0,0,XL,ab,Z,aa,R,0,0,0,0,0,ah,cO,bA,aQ],[[],ac,[]],[U,[],aV,dp],[]⟩ (.inl (⟨_,_,_,_,_,_,_,_,_,_,_,_,_,_,_,_,_,_,_,_,_,_,_,_,rfl,(MS.mv ax),AE,kn,kn,kn,kn,kn,kn⟩))
     refine cm bI ?_
     refine ch bI ?_
     have ⟨_,_,jH,hI,jK,h0,gv,jQ,_,_,_⟩:=aL
     refine de [] ?_
     refine ll 0 [] ?_
     exact Aj ⟨[5,0,0,XL,ab,Z,aa,R,0,ah,cL,bo,u,aq,aU],[[],ac],[U,[],aV,dw,dJ],[]⟩ (.inr ((⟨Γ,_,_,_,_,_,_,_,_,_,_,_,_,_,_,_,_,_,_,_,_,_,_,rfl,(MS.mv aL),AE,AE,kn,kn,kn,kn,kn,kn,kn,kn⟩)))
    refine de [] ?_
    refine ll 0 [] ?_
    exact Aj ⟨[5,0,0,XL,ab,Z,aa,R,0,0,0,0,0,ah,0,aG,Q],[[],ac,[]],[U,[],aV,[]],[]⟩ (.inl (⟨_,_,_,_,_,_,_,_,_,_,_,_,_,_,_,_,_,_,_,_,_,_,_,_,rfl,(MS.mv af),AE,kn,kn,kn,kn,kn,kn⟩))
   refine cm G9 ?_
   refine ch G9 ?_
   have ⟨_,_,lM,k6,kW,km,ky,kh,_,_,_⟩:=ae
   obtain ⟨_,⟨fB,aP,rfl,ms,kz,mn⟩,iQ⟩:=eK hB hl b2 u J P call c ak
   refine ch iQ ?_
   refine eq (fB%2) 0 (fun iA=>?_) fun iA=>?_
   ·obtain ⟨_,(⟨b4,br,a1,dW,rfl,ay,iP,ik,hR,hD⟩|⟨bH,bh,av,aW,d7,fd,rfl,an,gs,i2,gR,h2,jV,iq⟩),ci⟩:=ej (hx _ @ih) f (depth-1) loop pure N aP u J P call c B ak (MS.mv ae)
    ·refine ch ci ?_
     have ⟨_,_,iJ,gd,jp,i7,iR,jv,_,_,_⟩:=ay
     refine de [] ?_
     refine ll 0 [] ?_
     exact Aj ⟨[5,0,0,XL,ab,Z,aa,R,0,ai,b4,br,u,J,a1],[[],ac],[U,[],aR,dW,ak],[]⟩ (.inr ((⟨Γ,_,_,_,_,_,_,_,_,_,_,_,_,_,_,_,_,_,_,_,_,_,_,rfl,(MS.mv ay),AE,AE,kn,kn,kn,kn,kn,kn,kn,kn⟩)))
    refine cm ci ?_
    refine ch ci ?_
    have ⟨_,_,i4,jP,gA,h6,iu,hX,_,_,_⟩:=an
    refine de [] ?_
    refine ll 0 [] ?_
    exact Aj ⟨[5,0,0,XL,ab,Z,aa,R,0,ai,bH,bh,u,av,aW],[[],ac],[U,[],aR,d7,fd],[]⟩ (.inr ((⟨Γ,_,_,_,_,_,_,_,_,_,_,_,_,_,_,_,_,_,_,_,_,_,_,rfl,(MS.mv an),AE,AE,kn,kn,kn,kn,kn,kn,kn,kn⟩)))
   refine de [] ?_
   refine ll 0 [] ?_
   exact Aj ⟨[5,0,0,XL,ab,Z,aa,R,0,ai,0,aP,u,J,P],[[],ac],[U,[],aR,[],ak],[]⟩ (.inr ((⟨Γ,_,_,_,_,_,_,_,_,_,_,_,_,_,_,_,_,_,_,_,_,_,_,rfl,(MS.mv ae),AE,AE,kn,kn,kn,kn,kn,kn,kn,kn⟩)))
  refine sn pure 0 (fun gI=>?_) fun gI=>?_
  ·obtain ⟨_,⟨fs,c9,ew,dj,cW,cg,bT,fY,dl,fS,dX,rfl,bc,kH,mu,kp,kQ⟩,hn⟩:=ad loop pure (depth+1) N g u count (left-1) call c B V (MS.mv k)
   refine ch hn ?_
   have ⟨_,_,lb,lg,kf,mf,k0,mx,_,_,_⟩:=bc
   exact Aj ⟨[3,0,0,5,17,0,0,fs,c9,ew,dj,cW,cg,0,0,bT,(left-1)],[fY,[],dl],[fS,dX,[],[]],[]⟩ (.inl (⟨_,_,_,_,_,_,_,_,_,_,_,_,_,_,_,_,_,_,_,_,_,_,_,_,rfl,(MS.mv bc),AE,kn,kn,kn,kn,kn,kn⟩))
  refine Cq pure 1 ?_
  obtain ⟨_,(⟨dC,eP,dt,dg,bE,bv,et,d3,eU,rfl,az,je,h4,gi⟩|⟨dk,dN,dB,fb,eM,eZ,cC,bi,b9,aM,c5,eF,eY,dy,rfl,aC,gz,hw,iU,jJ,hv,iE⟩),b3⟩:=aJ loop pure (depth+1) f N g u count (left-1) call c B V (MS.mv k)
  ·refine ch b3 ?_
   have ⟨_,_,i6,gM,hg,iL,iz,gY,_,_,_⟩:=az
   exact Aj ⟨[2,0,0,dC,eP,dt,dg,bE,0,0,0,0,0,0,0,bv,(left-1)],[et,d3,[]],[eU,[],[],[]],[]⟩ (.inl (⟨_,_,_,_,_,_,_,_,_,_,_,_,_,_,_,_,_,_,_,_,_,_,_,_,rfl,(MS.mv az),AE,kn,kn,kn,kn,kn,kn⟩))
  refine cm b3 ?_
  refine ch b3 ?_
  have ⟨_,_,h3,g8,ig,gB,jr,hP,_,_,_⟩:=aC
  exact Aj ⟨[1,dN,0,dB,fb,eM,eZ,cC,0,0,0,bi,b9,aM,(left-1)],[c5,eF],[eY,[],[],[],dy],[]⟩ (.inr ((⟨dk,_,_,_,_,_,_,_,_,_,_,_,_,_,_,_,_,_,_,_,_,_,_,rfl,(MS.mv aC),AE,AE,kn,kn,kn,kn,kn,kn,kn,kn⟩)))
 refine eq (O%14) 5 (fun gy=>?_) fun gy=>?_
 ·refine gt depth 0 (fun hO=>?_) fun hO=>?_
  ·obtain ⟨_,⟨cv,bS,b1,cw,bb,bB,cb,bN,rfl,kv,ln,kj,l5⟩,iy⟩:=a6 (k.Fv count (left-1)) 3 3 g
   refine ch iy ?_
   obtain ⟨_,⟨bF,b6,rfl,mq,lZ,kM⟩,ir⟩:=h8 hB hl bB u count (left-1) call c V
   refine ch ir ?_
   obtain ⟨_,(⟨bJ,bj,aX,ec,rfl,aK,jB,jI,jx,jF⟩|⟨cK,bz,ao,a0,dY,ep,rfl,ap,f9,ij,jn,g4,gk,jT⟩),bR⟩:=b7 @ih f (depth-1) 1 pure N b6 u count (left-1) call c B V (MS.mv k)
   ·refine ch bR ?_
    have ⟨_,_,iD,gX,j1,hC,iC,f8,_,_,_⟩:=aK
    refine de [] ?_
    refine ll 0 [] ?_
    exact Aj ⟨[6,0,(1+(bF%4)),cv,bS,b1,cw,bb,0,0,0,0,0,bJ,0,bj,aX],[[],cb,[]],[bN,[],ec,[]],[]⟩ (.inl (⟨_,_,_,_,_,_,_,_,_,_,_,_,_,_,_,_,_,_,_,_,_,_,_,_,rfl,(MS.mv aK),AE,kn,kn,kn,kn,kn,kn⟩))
   refine cm bR ?_
   refine ch bR ?_
   have ⟨_,_,jd,gf,gp,iK,jL,gK,_,_,_⟩:=ap
   refine de [] ?_
   refine ll 0 [] ?_
   exact Aj ⟨[6,0,(1+(bF%4)),cv,bS,b1,cw,bb,0,cK,0,bz,u,ao,a0],[[],cb],[bN,[],dY,[],ep],[]⟩ (.inr ((⟨Γ,_,_,_,_,_,_,_,_,_,_,_,_,_,_,_,_,_,_,_,_,_,_,rfl,(MS.mv ap),AE,AE,kn,kn,kn,kn,kn,kn,kn,kn⟩)))
  refine sn pure 0 (fun jw=>?_) fun jw=>?_
  ·obtain ⟨_,⟨ei,fc,eT,eB,e7,cG,cd,f5,ey,fP,cS,rfl,bd,lU,l9,kd,kq⟩,iN⟩:=ad loop pure (depth+1) N g u count (left-1) call c B V (MS.mv k)
   refine ch iN ?_
   have ⟨_,_,kr,l2,kJ,ly,ko,kP,_,_,_⟩:=bd
   exact Aj ⟨[3,0,0,5,17,0,0,ei,fc,eT,eB,e7,cG,0,0,cd,(left-1)],[f5,[],ey],[fP,cS,[],[]],[]⟩ (.inl (⟨_,_,_,_,_,_,_,_,_,_,_,_,_,_,_,_,_,_,_,_,_,_,_,_,rfl,(MS.mv bd),AE,kn,kn,kn,kn,kn,kn⟩))
  refine Cq pure 1 ?_
  obtain ⟨_,(⟨fa,eG,dE,d5,cz,bt,c2,eN,fh,rfl,aB,jR,gD,gV⟩|⟨dQ,ez,di,cX,eI,dM,bX,bn,bL,al,c1,dh,dD,fm,rfl,au,jf,j3,gL,hQ,j2,gH⟩),bQ⟩:=aJ loop pure (depth+1) f N g u count (left-1) call c B V (MS.mv k)
  ·refine ch bQ ?_
   have ⟨_,_,g6,gw,ii,i1,iG,jC,_,_,_⟩:=aB
   exact Aj ⟨[2,0,0,fa,eG,dE,d5,cz,0,0,0,0,0,0,0,bt,(left-1)],[c2,eN,[]],[fh,[],[],[]],[]⟩ (.inl (⟨_,_,_,_,_,_,_,_,_,_,_,_,_,_,_,_,_,_,_,_,_,_,_,_,rfl,(MS.mv aB),AE,kn,kn,kn,kn,kn,kn⟩))
  refine cm bQ ?_
  refine ch bQ ?_
  have ⟨_,_,gj,gl,jX,gC,ji,ht,_,_,_⟩:=au
  exact Aj ⟨[1,ez,0,di,cX,eI,dM,bX,0,0,0,bn,bL,al,(left-1)],[c1,dh],[dD,[],[],[],fm],[]⟩ (.inr ((⟨dQ,_,_,_,_,_,_,_,_,_,_,_,_,_,_,_,_,_,_,_,_,_,_,rfl,(MS.mv au),AE,AE,kn,kn,kn,kn,kn,kn,kn,kn⟩)))
 refine eq (O%14) 6 (fun jl=>?_) fun jl=>?_
 ·refine sn loop 0 (fun iX=>?_) fun iX=>?_
  ·refine sn pure 0 (fun gE=>?_) fun gE=>?_
   ·obtain ⟨_,⟨eO,ff,d6,eE,e3,cj,cI,fU,em,fy,d1,rfl,a8,lK,li,mo,l7⟩,j5⟩:=ad loop pure (depth+1) N g u count (left-1) call c B V (MS.mv k)
    refine ch j5 ?_
    have ⟨_,_,lO,mc,kc,k8,lH,lT,_,_,_⟩:=a8
    exact Aj ⟨[3,0,0,5,17,0,0,eO,ff,d6,eE,e3,cj,0,0,cI,(left-1)],[fU,[],em],[fy,d1,[],[]],[]⟩ (.inl (⟨_,_,_,_,_,_,_,_,_,_,_,_,_,_,_,_,_,_,_,_,_,_,_,_,rfl,(MS.mv a8),AE,kn,kn,kn,kn,kn,kn⟩))
   refine Cq pure 1 ?_
   obtain ⟨_,(⟨fo,dK,fg,ef,bV,bg,e5,cY,e6,rfl,aD,hj,ka,i8⟩|⟨eV,cZ,eo,fq,dT,dP,cA,bw,cE,aF,c7,ee,d9,eA,rfl,aN,gq,hr,gr,i5,hW,ic⟩),bZ⟩:=aJ loop pure (depth+1) f N g u count (left-1) call c B V (MS.mv k)
   ·refine ch bZ ?_
    have ⟨_,_,h1,hZ,g9,h9,jG,jg,_,_,_⟩:=aD
    exact Aj ⟨[2,0,0,fo,dK,fg,ef,bV,0,0,0,0,0,0,0,bg,(left-1)],[e5,cY,[]],[e6,[],[],[]],[]⟩ (.inl (⟨_,_,_,_,_,_,_,_,_,_,_,_,_,_,_,_,_,_,_,_,_,_,_,_,rfl,(MS.mv aD),AE,kn,kn,kn,kn,kn,kn⟩))
   refine cm bZ ?_
   refine ch bZ ?_
   have ⟨_,_,gn,gm,hH,g0,hJ,hk,_,_,_⟩:=aN
   exact Aj ⟨[1,cZ,0,eo,fq,dT,dP,cA,0,0,0,bw,cE,aF,(left-1)],[c7,ee],[d9,[],[],[],eA],[]⟩ (.inr ((⟨eV,_,_,_,_,_,_,_,_,_,_,_,_,_,_,_,_,_,_,_,_,_,_,rfl,(MS.mv aN),AE,AE,kn,kn,kn,kn,kn,kn,kn,kn⟩)))
  refine Cq loop 1 ?_
  obtain ⟨_,⟨fE,bK,rfl,lY,mb,mm⟩,j0⟩:=h8 hB hl g u count (left-1) call c V
  refine ch j0 ?_
  refine de [] ?_
  refine ll 0 [] ?_
  exact Aj ⟨[(7+(fE%2)),0,0,0,0,0,0,0,0,0,0,0,0,0,0,bK,(left-1)],[[],[],[]],[[],[],[],[]],[]⟩ (.inl (⟨_,_,_,_,_,_,_,_,_,_,_,_,_,_,_,_,_,_,_,_,_,_,_,_,rfl,(MS.mv k),AE,kn,kn,kn,kn,kn,kn⟩))
 refine sn pure 0 (fun iZ=>?_) fun iZ=>?_
 ·refine eq (O%14) 7 (fun hq=>?_) fun hq=>?_
  ·refine sn aO 0 (fun gb=>?_) fun gb=>?_
   ·obtain ⟨_,⟨eD,e2,fp,db,dc,cJ,cQ,fZ,fk,fR,ek,rfl,a5,lw,kY,lo,kZ⟩,jN⟩:=ad loop pure (depth+1) N g u count (left-1) call c B V (MS.mv k)
    refine ch jN ?_
    have ⟨_,_,k3,l4,l1,lr,lv,kX,_,_,_⟩:=a5
    exact Aj ⟨[3,0,0,5,17,0,0,eD,e2,fp,db,dc,cJ,0,0,cQ,(left-1)],[fZ,[],fk],[fR,ek,[],[]],[]⟩ (.inl (⟨_,_,_,_,_,_,_,_,_,_,_,_,_,_,_,_,_,_,_,_,_,_,_,_,rfl,(MS.mv a5),AE,kn,kn,kn,kn,kn,kn⟩))
   refine Cq aO 1 ?_
   refine de [] ?_
   refine ll 0 [] ?_
   exact Aj ⟨[10,0,0,0,0,0,0,0,0,0,0,0,0,0,0,g,(left-1)],[[],[],[]],[[],[],[],[]],[]⟩ (.inl (⟨_,_,_,_,_,_,_,_,_,_,_,_,_,_,_,_,_,_,_,_,_,_,_,_,rfl,(MS.mv k),AE,kn,kn,kn,kn,kn,kn⟩))
  refine eq (O%14) 8 (fun j9=>?_) fun j9=>?_
  ·refine sn aO 0 (fun gT=>?_) fun gT=>?_
   ·obtain ⟨_,⟨er,dS,eQ,dU,dR,cD,cP,fu,d4,fK,dv,rfl,be,lP,lD,ku,lV⟩,i0⟩:=ad loop pure (depth+1) N g u count (left-1) call c B V (MS.mv k)
    refine ch i0 ?_
    have ⟨_,_,kR,lW,kD,l8,mw,ki,_,_,_⟩:=be
    exact Aj ⟨[3,0,0,5,17,0,0,er,dS,eQ,dU,dR,cD,0,0,cP,(left-1)],[fu,[],d4],[fK,dv,[],[]],[]⟩ (.inl (⟨_,_,_,_,_,_,_,_,_,_,_,_,_,_,_,_,_,_,_,_,_,_,_,_,rfl,(MS.mv be),AE,kn,kn,kn,kn,kn,kn⟩))
   refine Cq aO 1 ?_
   obtain ⟨_,(⟨cR,dF,fj,eC,e1,bC,bY,ce,cF,cr,bx,bq,eu,e8,cH,eR,b0,rfl,aA,hi,g5,hA,i9⟩|⟨eS,c6,eH,du,eL,ed,bD,bf,cu,aI,fe,c3,dA,en,rfl,aH,ho,hE,ja,iF,iV,ga⟩),cy⟩:=iB loop pure (depth+1) f N g u count (left-1) call c B V (MS.mv k)
   ·refine ch cy ?_
    have ⟨_,_,j7,gx,hK,il,jk,js,_,_,_⟩:=aA
    exact Aj ⟨[12,cR,0,dF,fj,eC,e1,bC,bY,ce,cF,cr,bx,0,0,bq,(left-1)],[eu,e8,cH],[eR,b0,[],[]],[]⟩ (.inl (⟨_,_,_,_,_,_,_,_,_,_,_,_,_,_,_,_,_,_,_,_,_,_,_,_,rfl,(MS.mv aA),AE,kn,kn,kn,kn,kn,kn⟩))
   refine cm cy ?_
   refine ch cy ?_
   have ⟨_,_,j4,hh,jy,hL,gG,jm,_,_,_⟩:=aH
   exact Aj ⟨[1,c6,0,eH,du,eL,ed,bD,0,0,0,bf,cu,aI,(left-1)],[fe,c3],[dA,[],[],[],en],[]⟩ (.inr ((⟨eS,_,_,_,_,_,_,_,_,_,_,_,_,_,_,_,_,_,_,_,_,_,_,rfl,(MS.mv aH),AE,AE,kn,kn,kn,kn,kn,kn,kn,kn⟩)))
  refine eq (O%14) 9 (fun hy=>?_) fun hy=>?_
  ·obtain ⟨_,⟨o,cN,C,rfl,kb,lx,lf,lR⟩,iY⟩:=ix (k.Fv count (left-1)) (Jp.of (k.Fv count (left-1)) (n:=10) @a6) 8 3 g
   refine ch iY ?_
   obtain ⟨_,⟨Ac1,ck,rfl,kA,kl,ld⟩,gN⟩:=h8 hB hl cN u count (left-1) call c V
   refine ch gN ?_
   obtain ⟨_,⟨A,bP,rfl,kL,ma,k9⟩,gh⟩:=h8 hB hl ck u count (left-1) call c V
   refine ch gh ?_
   obtain ⟨_,⟨H,y,v,z,q,j,D,x,rfl,kg,kS,lE,lN⟩,hY⟩:=a6 (k.Fv count (left-1)) 1 3 bP
   refine ch hY ?_
   refine eq (Ac1%2) 0 (fun i3=>?_) fun i3=>?_
   ·refine eq (A%6) 0 (fun hF=>?_) fun hF=>?_
    ·refine de [] ?_
     refine ll 0 [] ?_
     exact Aj ⟨[4,10,0,5,17,0,0,o,H,y,v,z,q,0,0,j,(left-1)],[[97],[],D],[C,x,[],[]],[]⟩ (.inl (⟨_,_,_,_,_,_,_,_,_,_,_,_,_,_,_,_,_,_,_,_,_,_,_,_,rfl,(MS.mv k),AE,kn,kn,kn,kn,kn,kn⟩))
    refine eq (A%6) 1 (fun gF=>?_) fun gF=>?_
    ·refine de [] ?_
     refine ll 0 [] ?_
     exact Aj ⟨[4,22,0,5,17,0,0,o,H,y,v,z,q,0,0,j,(left-1)],[[97],[],D],[C,x,[],[]],[]⟩ (.inl (⟨_,_,_,_,_,_,_,_,_,_,_,_,_,_,_,_,_,_,_,_,_,_,_,_,rfl,(MS.mv k),AE,kn,kn,kn,kn,kn,kn⟩))
    refine eq (A%6) 2 (fun h7=>?_) fun h7=>?_
    ·refine de [] ?_
     refine ll 0 [] ?_
     exact Aj ⟨[4,23,0,5,17,0,0,o,H,y,v,z,q,0,0,j,(left-1)],[[97],[],D],[C,x,[],[]],[]⟩ (.inl (⟨_,_,_,_,_,_,_,_,_,_,_,_,_,_,_,_,_,_,_,_,_,_,_,_,rfl,(MS.mv k),AE,kn,kn,kn,kn,kn,kn⟩))
    refine eq (A%6) 3 (fun gg=>?_) fun gg=>?_
    ·refine de [] ?_
     refine ll 0 [] ?_
     exact Aj ⟨[4,17,0,5,17,0,0,o,H,y,v,z,q,0,0,j,(left-1)],[[97],[],D],[C,x,[],[]],[]⟩ (.inl (⟨_,_,_,_,_,_,_,_,_,_,_,_,_,_,_,_,_,_,_,_,_,_,_,_,rfl,(MS.mv k),AE,kn,kn,kn,kn,kn,kn⟩))
    refine eq (A%6) 4 (fun he=>?_) fun he=>?_
    ·refine de [] ?_
     refine ll 0 [] ?_
     exact Aj ⟨[4,18,0,5,17,0,0,o,H,y,v,z,q,0,0,j,(left-1)],[[97],[],D],[C,x,[],[]],[]⟩ (.inl (⟨_,_,_,_,_,_,_,_,_,_,_,_,_,_,_,_,_,_,_,_,_,_,_,_,rfl,(MS.mv k),AE,kn,kn,kn,kn,kn,kn⟩))
    refine BL (A%6) 5 ?_
    refine de [] ?_
    refine ll 0 [] ?_
    exact Aj ⟨[4,19,0,5,17,0,0,o,H,y,v,z,q,0,0,j,(left-1)],[[97],[],D],[C,x,[],[]],[]⟩ (.inl (⟨_,_,_,_,_,_,_,_,_,_,_,_,_,_,_,_,_,_,_,_,_,_,_,_,rfl,(MS.mv k),AE,kn,kn,kn,kn,kn,kn⟩))
   refine BL (Ac1%2) 1 ?_
   refine eq (A%6) 0 (fun jj=>?_) fun jj=>?_
   ·refine de [] ?_
    refine ll 0 [] ?_
    exact Aj ⟨[4,10,0,5,17,0,0,o,H,y,v,z,q,0,0,j,(left-1)],[[115],[],D],[C,x,[],[]],[]⟩ (.inl (⟨_,_,_,_,_,_,_,_,_,_,_,_,_,_,_,_,_,_,_,_,_,_,_,_,rfl,(MS.mv k),AE,kn,kn,kn,kn,kn,kn⟩))
   refine eq (A%6) 1 (fun jO=>?_) fun jO=>?_
   ·refine de [] ?_
    refine ll 0 [] ?_
    exact Aj ⟨[4,22,0,5,17,0,0,o,H,y,v,z,q,0,0,j,(left-1)],[[115],[],D],[C,x,[],[]],[]⟩ (.inl (⟨_,_,_,_,_,_,_,_,_,_,_,_,_,_,_,_,_,_,_,_,_,_,_,_,rfl,(MS.mv k),AE,kn,kn,kn,kn,kn,kn⟩))
   refine eq (A%6) 2 (fun gS=>?_) fun gS=>?_
   ·refine de [] ?_
    refine ll 0 [] ?_
    exact Aj ⟨[4,23,0,5,17,0,0,o,H,y,v,z,q,0,0,j,(left-1)],[[115],[],D],[C,x,[],[]],[]⟩ (.inl (⟨_,_,_,_,_,_,_,_,_,_,_,_,_,_,_,_,_,_,_,_,_,_,_,_,rfl,(MS.mv k),AE,kn,kn,kn,kn,kn,kn⟩))
   refine eq (A%6) 3 (fun jt=>?_) fun jt=>?_
   ·refine de [] ?_
    refine ll 0 [] ?_
    exact Aj ⟨[4,17,0,5,17,0,0,o,H,y,v,z,q,0,0,j,(left-1)],[[115],[],D],[C,x,[],[]],[]⟩ (.inl (⟨_,_,_,_,_,_,_,_,_,_,_,_,_,_,_,_,_,_,_,_,_,_,_,_,rfl,(MS.mv k),AE,kn,kn,kn,kn,kn,kn⟩))
   refine eq (A%6) 4 (fun jA=>?_) fun jA=>?_
   ·refine de [] ?_
    refine ll 0 [] ?_
    exact Aj ⟨[4,18,0,5,17,0,0,o,H,y,v,z,q,0,0,j,(left-1)],[[115],[],D],[C,x,[],[]],[]⟩ (.inl (⟨_,_,_,_,_,_,_,_,_,_,_,_,_,_,_,_,_,_,_,_,_,_,_,_,rfl,(MS.mv k),AE,kn,kn,kn,kn,kn,kn⟩))
   refine BL (A%6) 5 ?_
   refine de [] ?_
   refine ll 0 [] ?_
   exact Aj ⟨[4,19,0,5,17,0,0,o,H,y,v,z,q,0,0,j,(left-1)],[[115],[],D],[C,x,[],[]],[]⟩ (.inl (⟨_,_,_,_,_,_,_,_,_,_,_,_,_,_,_,_,_,_,_,_,_,_,_,_,rfl,(MS.mv k),AE,kn,kn,kn,kn,kn,kn⟩))
  refine eq (O%14) 10 (fun jo=>?_) fun jo=>?_
  ·obtain ⟨_,⟨f6,cB,rfl,lJ,kB,lX⟩,hp⟩:=h8 hB hl g u count (left-1) call c V
   refine ch hp ?_
   refine de [] ?_
   refine ll 0 [] ?_
   exact Aj ⟨[11,(1+(f6%2)),0,0,0,0,0,0,0,0,0,0,0,0,0,cB,(left-1)],[[],[],[]],[[],[],[],[]],[]⟩ (.inl (⟨_,_,_,_,_,_,_,_,_,_,_,_,_,_,_,_,_,_,_,_,_,_,_,_,rfl,(MS.mv k),AE,kn,kn,kn,kn,kn,kn⟩))
  obtain ⟨_,⟨e4,es,eW,eX,e9,bW,bG,ft,cT,fz,eJ,rfl,a3,lu,kT,lc,lF⟩,im⟩:=ad loop pure (depth+1) N g u count (left-1) call c B V (MS.mv k)
  refine ch im ?_
  have ⟨_,_,lA,mi,lj,k7,lq,kU,_,_,_⟩:=a3
  exact Aj ⟨[3,0,0,5,17,0,0,e4,es,eW,eX,e9,bW,0,0,bG,(left-1)],[ft,[],cT],[fz,eJ,[],[]],[]⟩ (.inl (⟨_,_,_,_,_,_,_,_,_,_,_,_,_,_,_,_,_,_,_,_,_,_,_,_,rfl,(MS.mv a3),AE,kn,kn,kn,kn,kn,kn⟩))
 refine Cq pure 1 ?_
 obtain ⟨_,(⟨dd,dG,dx,dV,b8,bp,fi,c8,cV,rfl,aw,jh,iM,gQ⟩|⟨dI,eh,cU,dH,dz,dZ,ct,bm,cq,aE,e0,ea,dO,fl,rfl,am,hN,hu,ib,jS,jE,iw⟩),cx⟩:=aJ loop pure (depth+1) f N g u count (left-1) call c B V (MS.mv k)
 ·refine ch cx ?_
  have ⟨_,_,hU,iI,jZ,jW,iS,gU,_,_,_⟩:=aw
  exact Aj ⟨[2,0,0,dd,dG,dx,dV,b8,0,0,0,0,0,0,0,bp,(left-1)],[fi,c8,[]],[cV,[],[],[]],[]⟩ (.inl (⟨_,_,_,_,_,_,_,_,_,_,_,_,_,_,_,_,_,_,_,_,_,_,_,_,rfl,(MS.mv aw),AE,kn,kn,kn,kn,kn,kn⟩))
 refine cm cx ?_
 refine ch cx ?_
 have ⟨_,_,hz,jM,hS,jU,gc,gO,_,_,_⟩:=am
 exact Aj ⟨[1,eh,0,cU,dH,dz,dZ,ct,0,0,0,bm,cq,aE,(left-1)],[e0,ea],[dO,[],[],[],fl],[]⟩ (.inr ((⟨dI,_,_,_,_,_,_,_,_,_,_,_,_,_,_,_,_,_,_,_,_,_,_,rfl,(MS.mv am),AE,AE,kn,kn,kn,kn,kn,kn,kn,kn⟩)))
theorem Uo {E:Bool} {d j k P C A o x z v y g c:Nat} (hT:trees j=Yk d P C A o x z v y g c) (Z:Th P) (N:Yq E C) (R:Abr E A) (Q:Rn o) (D:Abq E x) (J:Abp E z) (H:Vg o v) (O:Yn E j y) (u:Th g) (q:Yn false k c) (U:∀n,Gj E j n→Gj false k n):Adm E j:=fun {Γ} {K} {M} f depth top loop pure bl pos vl count left call loads B V hM h=>AkO hT @Z @N @R @Q @D @J @H @O @u @q U (depth.toNat+1) f depth top loop pure bl pos vl count left call loads B V hM ⟨h.1,h.2.1,h.2.2.1,h.2.2.2.1,h.2.2.2.2.1,h.2.2.2.2.2,Nat.lt_succ_self _⟩
end Go.Proofs.YtbmofjdmgjpfoaaGreatDoor.Am
end
section
set_option maxHeartbeats 4000000
set_option maxRecDepth 100000
namespace Go.Proofs.YtbmofjdmgjpfoaaGreatDoor.Am
open Go.AM Go.AM.K
theorem Af1:Yq false 14:=by
 intro Γ f K M lo pu D bl pos u count left call k B V q h
 have ⟨hm,ap,am,av,ak,ai,ao,aj,au,aq,aw⟩:=q;have ⟨hB,hl,hvl,Hi,hV,hb,hc,hd⟩:=hm;have an:G 3=40:=rfl;have ax:G 2=12:=rfl;have al:G (3-1)=12:=rfl
 refine .of (t:=Acs) rfl ?_
 unfold Acs
 obtain ⟨_,⟨c,j,rfl,ad,ah,ae⟩,Q⟩:=Lr hB hl pos u count left call k V
 refine ch Q ?_
 obtain ⟨_,⟨H,J,z,y,x,o,A,C,rfl,U,N,af,R⟩,O⟩:=Jj (q.Fv count left) (1+(c%3)) 3 j
 refine ch O ?_
 obtain ⟨_,⟨g,rfl,ac,aa⟩,G3⟩:=Ai7 count
 refine ch G3 ?_
 refine ca [118] g ?_
 refine dL (V.take u.toNat++[[PV.str ([118]++g),.int .i64 (1+(c%3))]]) (fun v Z=>?_) (BG (pt u V) pe)
 have P:=cL Z;try simp only [lA,lC,lN,lT']at P
 refine F8 (v.length:Int) 1048576 ?_
 refine de [] ?_
 refine ll 0 [] ?_
 exact Aj ⟨[(1+(c%3)),H,J,z,y,x,0,0,0,o,(v.length:Int),(count+1)],[([118]++g),A],[C,[],[],[],v],[]⟩ (⟨(Γ.GM ([118]++g) (3,(1+(c%3)),0)),_,_,_,_,_,_,_,_,_,_,_,_,_,rfl,(by subst_vars;exact MS.more q ‹_› (by omega) (by omega) (by omega)),(Ei.decl (d:=3) q ‹_› ‹_› (by omega)),(by subst_vars;exact Ext.more (by omega)),kn,(by omega),kn,kn⟩)
theorem Afz:Yq true 20:=by
 intro Γ f K M lo pu D bl pos vl count left call k B V q h
 have ⟨hm,au,an,ax,al,aj,ap,ak,aw,av,C⟩:=q;have ⟨hB,hl,hvl,Hi,hV,hb,hc,hd⟩:=hm;have ao:G 3=40:=rfl;have ay:G 2=12:=rfl;have am:G (3-1)=12:=rfl;have aq:=C rfl
 refine .of (t:=Acr) rfl ?_
 unfold Acr
 obtain ⟨_,⟨c,j,rfl,ad,ai,ae⟩,Q⟩:=Yg hB hl pos vl count left call k V
 refine ch Q ?_
 obtain ⟨_,⟨H,J,y,x,v,o,z,A,rfl,U,N,ag,R⟩,O⟩:=UT (q.Fv count left) (1+(c%3)) 3 j
 refine ch O ?_
 obtain ⟨_,⟨g,rfl,ac,aa⟩,G3⟩:=Ai7 count
 refine ch G3 ?_
 refine ca [118] g ?_
 refine dL (V++[[PV.str ([118]++g),.int .i64 (1+(c%3))]]) (fun u Z=>?_) (BG rfl pe)
 have P:=cL Z;try simp only [lA,lC,lN,lT']at P
 refine F8 (u.length:Int) 1048576 ?_
 refine de [] ?_
 refine ll 0 [] ?_
 exact Aj ⟨[(1+(c%3)),H,J,y,x,v,0,0,0,o,(u.length:Int),(count+1)],[([118]++g),z],[A,[],[],[],u],[]⟩ (⟨(Γ.GM ([118]++g) (3,(1+(c%3)),0)),_,_,_,_,_,_,_,_,_,_,_,_,_,rfl,(by subst_vars;exact MS.ZU q ‹_› (by omega) (by omega) (by omega)),(Ei.decl (d:=3) q ‹_› ‹_› (by omega)),(by subst_vars;exact Ext.ZU (by omega)),kn,(by omega),kn,kn⟩)
theorem AlK:Abr false 15:=@AcJ false 1 15 8 14 16 rfl @Lr @Af1 @Jj
theorem AlI:Abr true 21:=@AcJ true 0 21 9 20 22 rfl @Yg @Afz @UT
theorem Ou:Abq false 17:=@Aif false 1 17 8 16 19 rfl @Lr @Jj @Af0
theorem AlH:Abq true 23:=@Aif true 0 23 9 22 25 rfl @Yg @UT @Afy
theorem AlJ:Abp false 18:=@AcI false 1 18 8 14 16 rfl @Lr @Af1 @Jj
theorem AlG:Abp true 24:=@AcI true 0 24 9 20 22 rfl @Yg @Afz @UT
end Go.Proofs.YtbmofjdmgjpfoaaGreatDoor.Am
end
