/- Part 19 of the proof of TypesRenames. -/
import Derived.Test.YtbmofjdmgjpfoaaGreatDoorE11
import Derived.Test.YtbmofjdmgjpfoaaGreatDoorE15
set_option linter.all false
section
set_option maxHeartbeats 4000000
set_option maxRecDepth 100000
namespace Go.Proofs.YtbmofjdmgjpfoaaGreatDoor.Am
open Go.AM Go.AM.K
def Aqb (N:Nat):Prop:=∀(y j:Int) (z g:Int) (C d:Int) (c o:Int) (u x J:Int) (k nt H:List Nat) (V A:Rs) (h:c≤j:=by exact kn),Ok trees N ⟨[y,j,z,g,C,d,c,o,u,x,J],[k,nt,H],[V,A],[]⟩ fun D=>(D=(0,v0))
theorem AoT:Aqb 73:=by
 intro D j g o k d c H x C z y nt u V A h
 refine .of (t:=Ahg) rfl (Ek j c ?_)
 exact Ai v0 rfl
def Afo (N n:Nat):Prop:=∀(a:List E) (k o:Int) (ty v g:Int) (s c nt:List Nat) (A:Rs) (y:A=E.Ab a) (z:E.IQ a) (h:g=A.length∧g≤1000∧E.B3 a<n),Ok trees N ⟨[k,o,ty,v,g],[s,c,nt],[A],[]⟩ fun x=>(∃(d:Int),∃(u:List Nat),∃(j:Rs),x=(0,(⟨[k,o,ty,v,d],[u],[j],[]⟩:Ah))∧(u=(if k=2∧s=c then nt else s))∧(j=E.Ab (E.AK c nt a))∧(d=(E.Ab (E.AK c nt a)).length))
def Aqk (N:Nat):Prop:=∀(a:List E) (k o:Int) (ty v g:Int) (s c nt:List Nat) (A:Rs) (y:A=E.Ab a) (z:E.IQ a) (h:g=A.length∧g≤1000:=by exact kn),Ok trees N ⟨[k,o,ty,v,g],[s,c,nt],[A],[]⟩ fun x=>(∃(d:Int),∃(j:List Nat),∃(u:Rs),x=(0,(⟨[k,o,ty,v,d],[j],[u],[]⟩:Ah))∧(j=(if k=2∧s=c then nt else s))∧(u=E.Ab (E.AK c nt a))∧(d=(E.Ab (E.AK c nt a)).length))
def AqF (P N:Nat) (m n:Nat):Prop:=∀(a:List E) (g j:Int) (D y:Int) (H x:Int) (c C:Int) (J z O:Int) (k nt M:List Nat) (A V:Rs) (Q:A=E.Ab a) (R:E.IQ a) (h:g=V.length∧c=A.length∧0≤j∧g≤j∧c≤1000∧E.B3 a≤m∧(c-j).toNat<n),Ok trees N ⟨[g,j,D,y,H,x,c,C,J,z,O],[k,nt,M],[A,V],[]⟩ fun u=>(u=(0,v0)∧(c≤j))∨(∃(d:Int),∃(o:Rs),u=(1,(⟨[d],[],[o],[]⟩:Ah))∧(o=V++E.rd k nt a j)∧(d=(V++E.rd k nt a j).length)∧(j<c))
def Aqa (u N:Nat):Prop:=∀{m:Nat} (C:Afo u m) (a:List E) (g j:Int) (J z:Int) (M y:Int) (c H:Int) (O D Q:Int) (k nt P:List Nat) (A V:Rs) (R:A=E.Ab a) (U:E.IQ a) (h:g=V.length∧c=A.length∧0≤j∧g≤j∧c≤1000∧E.B3 a≤m:=by exact kn),Ok trees N ⟨[g,j,J,z,M,y,c,H,O,D,Q],[k,nt,P],[A,V],[]⟩ fun x=>(x=(0,v0)∧(c≤j))∨(∃(d:Int),∃(o:Rs),x=(1,(⟨[d],[],[o],[]⟩:Ah))∧(o=V++E.rd k nt a j)∧(d=(V++E.rd k nt a j).length)∧(j<c))
theorem Aoi {m:Nat} (x:Afo 64 m) (n:Nat):AqF 64 74 m n:=by
 induction n with
 |zero=>intro a N j O C P z g D H M U c nt Q A V J u h;exact absurd h.2.2.2.2.2.2 (Nat.not_lt_zero _)
 |succ n ih=>
 intro a N j O C P z g D H M U c nt Q A V J u h
 subst J
 refine .of (t:=Ahf) rfl ?_
 refine lt j g (fun X=>?_) fun X=>Ai v0 (.inl ⟨rfl,kn⟩)
 refine CG j 0 ?_
 obtain ⟨k,o,y,v,s,b,hg,hd,hh,hs,hb⟩:=E.Acm u j om om
 refine el hg ?_
 have Z:=I2 (k:=k) (o:=o) (ty:=y) (v:=v) (s:=s) (a:=b)
 obtain ⟨_,⟨q,p,R,rfl,rfl,rfl,rfl⟩,G⟩:=x b k o y v (E.Ab b).length s c nt (E.Ab b) rfl hs kn
 refine ch G (ll _ (E.Ab (E.AK c nt b)) ?_)
 refine dL (V++[[.int .i64 k,.int .i64 o,.int .i64 y,.str (if k=2∧s=c then nt else s),.int .i32 v,.list 6 (E.Ab (E.AK c nt b))]]) (fun W e=>?_) (BC (pw N V) pe)
 have f:=cL e;try simp only [lA,lC,lN]at f
 refine FM W.length 1048576 ?_
 obtain ⟨_,(⟨rfl,p⟩|⟨q,R,rfl,rfl,rfl,p⟩),G⟩:=ih a W.length (j+1) O C P z g D H M U c nt Q (E.Ab a) W rfl u kn
 ·refine ch G ?_
  have d:=XH e (E.Fa hd rfl) (E.Jl (f:=c) (t:=nt) om)
  exact Ai ⟨[W.length],[],[W],[]⟩ (.inr ⟨_,_,rfl,d,by rw [←d],kn⟩)
 ·refine cm G (ch G ?_)
  have d:=Abi e (E.Fa hd rfl)
  exact Ai ⟨[_],[],[W++E.rd c nt a (j+1)],[]⟩ (.inr ⟨_,_,rfl,d,by rw [←d],kn⟩)
theorem AoS:Aqa 64 74:=fun {m} hC64 a tl j u0 u1 u2 u4 al z0 z1 z2 z4 fo nt s3 A V hA hS h=>Aoi @hC64 ((al-j).toNat+1) a tl j u0 u1 u2 u4 al z0 z1 z2 z4 fo nt s3 A V hA hS ⟨h.1,h.2.1,h.2.2.1,h.2.2.2.1,h.2.2.2.2.1,h.2.2.2.2.2,Nat.lt_succ_self _⟩
def Aqh (o N:Nat):Prop:=∀{m:Nat} (z:Afo o m) (a:List E) (j H:Int) (y J:Int) (x c:Int) (D M:Int) (C P:Int) (g nt O:List Nat) (A:Rs) (Q:A=E.Ab a) (R:E.IQ a) (h:c=A.length∧0≤j∧c≤1000∧E.B3 a≤m:=by exact kn),Ok trees N ⟨[j,H,y,J,x,c,D,M,C,P],[g,nt,O],[A],[]⟩ fun u=>(u=(0,v0)∧(c≤j))∨(∃(d:Int),∃(k:Rs),u=(1,(⟨[d],[],[k],[]⟩:Ah))∧(k=E.rd g nt a j)∧(d=(E.rd g nt a j).length)∧(j<c))
theorem AoX:Aqh 64 67:=by
 intro m g a j O C P z u H J N U c nt Q A M x h
 subst M
 refine .of (t:=Ahi) rfl ?_
 refine lt j u (fun D=>?_) fun D=>Ai v0 (.inl ⟨rfl,kn⟩)
 refine CG j 0 ?_
 obtain ⟨k,o,y,v,s,b,hg,hd,Z,hs,hb⟩:=E.Acm x j om om
 refine el hg ?_
 have X:=I2 (k:=k) (o:=o) (ty:=y) (v:=v) (s:=s) (a:=b)
 obtain ⟨_,⟨q,p,R,rfl,rfl,rfl,rfl⟩,G⟩:=g b k o y v (E.Ab b).length s c nt (E.Ab b) rfl hs kn
 refine ch G (ll _ (E.Ab (E.AK c nt b)) ?_)
 refine dL ([[.int .i64 k,.int .i64 o,.int .i64 y,.str (if k=2∧s=c then nt else s),.int .i32 v,.list 6 (E.Ab (E.AK c nt b))]]) (fun W e=>?_) (Fw pe)
 have f:=cL e;try simp only [lA,lC,lN]at f
 refine ll 1 W ?_
 obtain ⟨_,(⟨rfl,p⟩|⟨q,R,rfl,rfl,rfl,p⟩),G⟩:=AoS @g a 1 (j+1) O C P z u H J N U c nt Q (E.Ab a) W rfl x
 ·refine ch G ?_
  have d:=XG e (E.Fa hd rfl) (E.Jl (f:=c) (t:=nt) om)
  exact Ai ⟨[1],[],[W],[]⟩ (.inr ⟨_,_,rfl,d,by rw [←d,f];rfl,kn⟩)
 ·refine cm G (ch G ?_)
  have d:=Abh e (E.Fa hd rfl)
  exact Ai ⟨[_],[],[W++E.rd c nt a (j+1)],[]⟩ (.inr ⟨_,_,rfl,d,by rw [←d],kn⟩)
theorem Aol (n:Nat):Afo 64 n:=by
 induction n with
 |zero=>intro a k o ty v g s d nt A u x h;exact absurd h.2.2 (Nat.not_lt_zero _)
 |succ n ih=>
 intro a k o ty v g s d nt A u x h
 subst u
 refine .of (t:=Ahj) rfl (eq k 2 (fun b=>se s d (fun c=>?_) fun c=>?_) fun b=>?_)
 all_goals
  obtain ⟨_,(⟨rfl,p⟩|⟨q,R,rfl,rfl,rfl,p⟩),G⟩:=AoX @ih a 0 k o ty v g 0 0 0 0 d nt _ (E.Ab a) rfl x
  ·refine ch G (de [] (ll 0 [] (fr ?_)))
   obtain ⟨_,rfl,G⟩:=AoT 0 0 k o ty v g 0 0 0 0 d nt _ [] (E.Ab a)
   refine ch G ?_
   have e:=E.Jl (f:=d) (t:=nt) (a:=a) (j:=0) om
   exact Ai ⟨[k,o,ty,v,0],[_],[[]],[]⟩ ⟨_,_,_,rfl,(by first|exact (if_pos ⟨‹_›,by first|assumption|omega⟩).symm|exact (if_neg (fun h=>absurd h.1 ‹_›)).symm|exact (if_neg (fun h=>by have:=h.2;first|omega|contradiction)).symm),e.symm,congrArg (fun l:Rs=>(l.length:Int)) e.symm⟩
  ·refine cm G (ch G (ll _ (E.rd d nt a 0) (fr ?_)))
   exact Ai ⟨[k,o,ty,v,_],[_],[E.rd d nt a 0],[]⟩ ⟨_,_,_,rfl,(by first|exact (if_pos ⟨‹_›,by first|assumption|omega⟩).symm|exact (if_neg (fun h=>absurd h.1 ‹_›)).symm|exact (if_neg (fun h=>by have:=h.2;first|omega|contradiction)).symm),rfl,rfl⟩
theorem Afe:Aqk 64:=fun a k o ty v c s j nt A d g h=>Aol (E.B3 a+1) a k o ty v c s j nt A d g ⟨h.1,h.2,Nat.lt_succ_self _⟩
def Aqe (N:Nat):Prop:=∀(c g j:Int) (k nt:List Nat) (L V:Rs) (h:c≤j:=by exact kn),Ok trees N ⟨[c,g,j],[k,nt],[L,V],[]⟩ fun d=>(d=(0,v0))
theorem AoW:Aqe 70:=by
 intro c d j g nt L V h
 refine .of (t:=Ahh) rfl (Ek j c ?_)
 exact Ai v0 rfl
def Afp (N n:Nat):Prop:=∀(l:List S) (d:Int) (g nt:List Nat) (L:Rs) (o:L=S.Ab l) (u:S.IQ l) (h:d=L.length∧d≤200000∧S.Au l<n),Ok trees N ⟨[d],[g,nt],[L],[]⟩ fun k=>(∃(c:Int),∃(j:Rs),k=(0,(⟨[c],[],[j],[]⟩:Ah))∧(j=S.Ab (S.AK g nt l))∧(c=(S.Ab (S.AK g nt l)).length))
def Aqp (N:Nat):Prop:=∀(l:List S) (d:Int) (g nt:List Nat) (L:Rs) (o:L=S.Ab l) (u:S.IQ l) (h:d=L.length∧d≤200000:=by exact kn),Ok trees N ⟨[d],[g,nt],[L],[]⟩ fun k=>(∃(c:Int),∃(j:Rs),k=(0,(⟨[c],[],[j],[]⟩:Ah))∧(j=S.Ab (S.AK g nt l))∧(c=(S.Ab (S.AK g nt l)).length))
def AqD (y N:Nat) (m n:Nat):Prop:=∀(l:List S) (c g j:Int) (k nt:List Nat) (L V:Rs) (x:L=S.Ab l) (z:S.IQ l) (h:c=L.length∧g=V.length∧0≤j∧g≤j∧c≤200000∧S.Au l≤m∧(c-j).toNat<n),Ok trees N ⟨[c,g,j],[k,nt],[L,V],[]⟩ fun o=>(o=(0,v0)∧(c≤j))∨(∃(d:Int),∃(u:Rs),o=(1,(⟨[d],[],[u],[]⟩:Ah))∧(u=V++S.rd k nt l j)∧(d=(V++S.rd k nt l j).length)∧(j<c))
def ApY (x N:Nat):Prop:=∀{m:Nat} (y:Afp x m) (l:List S) (c g j:Int) (k nt:List Nat) (L V:Rs) (z:L=S.Ab l) (A:S.IQ l) (h:c=L.length∧g=V.length∧0≤j∧g≤j∧c≤200000∧S.Au l≤m:=by exact kn),Ok trees N ⟨[c,g,j],[k,nt],[L,V],[]⟩ fun o=>(o=(0,v0)∧(c≤j))∨(∃(d:Int),∃(u:Rs),o=(1,(⟨[d],[],[u],[]⟩:Ah))∧(u=V++S.rd k nt l j)∧(d=(V++S.rd k nt l j).length)∧(j<c))
theorem Aog {m:Nat} (u:Afp 57 m) (n:Nat):AqD 57 76 m n:=by
 induction n with
 |zero=>intro l P tl j c nt L V M U h;exact absurd h.2.2.2.2.2.2 (Nat.not_lt_zero _)
 |succ n ih=>
 intro l P tl j c nt L V M U h
 subst M
 refine .of (t:=Ahe) rfl ?_
 refine lt j P (fun t1=>?_) fun t1=>Ai v0 (.inl ⟨rfl,kn⟩)
 refine CG j 0 ?_
 obtain ⟨k,o,y,b,nm,O,xo,xt,X,Q,g,yk,Z,yt,yv,N,z,x,J,hg,hd,hh,sx,nx,sy,ny,sb,nb,aa,au⟩:=S.Acm U j om om
 refine el hg ?_
 refine se nm c (fun a1=>?A) fun a1=>?B
 case' A=>refine eq k 1 (fun a2=>?C) fun a2=>?D
 case' D=>refine eq k 2 (fun a3=>?E) fun a3=>?F
 case' F=>refine eq k 12 (fun a4=>?G) fun a4=>?H
 all_goals
  obtain ⟨_,⟨q1,p1,R1,rfl,rfl,rfl,rfl⟩,G1⟩:=Afe g O xo xt X (E.Ab g).length Q c nt (E.Ab g) rfl sx
  obtain ⟨_,⟨q2,p2,R2,rfl,rfl,rfl,rfl⟩,G2⟩:=Afe z yk Z yt yv (E.Ab z).length N c nt (E.Ab z) rfl sy
  obtain ⟨_,⟨q3,R3,rfl,rfl,rfl⟩,G3⟩:=u x (S.Ab x).length c nt (S.Ab x) rfl sb kn
  obtain ⟨_,⟨q4,R4,rfl,rfl,rfl⟩,G4⟩:=u J (S.Ab J).length c nt (S.Ab J) rfl aa kn
  refine ch G1 ?_
  refine ch G2 ?_
  refine ch G3 ?_
  refine ch G4 ?_
  refine ll _ (E.Ab (E.AK c nt g)) ?_
  refine ll _ (E.Ab (E.AK c nt z)) ?_
  refine ll _ (S.Ab (S.AK c nt x)) ?_
  refine ll _ (S.Ab (S.AK c nt J)) ?_
  refine dL (V++[AZ k o y b _ O xo xt (if O=2∧Q=c then nt else Q) X (E.Ab (E.AK c nt g)) yk Z yt (if yk=2∧N=c then nt else N) yv (E.Ab (E.AK c nt z)) (S.Ab (S.AK c nt x)) (S.Ab (S.AK c nt J))]) (fun W e=>?_) (BC (pw tl V) pe)
  have f:=cL e;try simp only [lA,lC,lN]at f
  refine FM W.length 1048576 ?_
  obtain ⟨_,(⟨rfl,p⟩|⟨q,R,rfl,rfl,rfl,p⟩),G⟩:=ih l P W.length (j+1) c nt (S.Ab l) W rfl U kn
  ·refine ch G ?_
   have d:=XH e (S.Fa hd (by first|exact (if_pos ⟨‹_›,by first|assumption|omega⟩).symm|exact (if_neg (fun h=>absurd h.1 ‹_›)).symm|exact (if_neg (fun h=>by have:=h.2;first|omega|contradiction)).symm) rfl rfl) (S.Jl (f:=c) (t:=nt) om)
   exact Ai ⟨[W.length],[],[W],[]⟩ (.inr ⟨_,_,rfl,d,by rw [←d],kn⟩)
  ·refine cm G (ch G ?_)
   have d:=Abi e (S.Fa hd (by first|exact (if_pos ⟨‹_›,by first|assumption|omega⟩).symm|exact (if_neg (fun h=>absurd h.1 ‹_›)).symm|exact (if_neg (fun h=>by have:=h.2;first|omega|contradiction)).symm) rfl rfl)
   exact Ai ⟨[_],[],[W++S.rd c nt l (j+1)],[]⟩ (.inr ⟨_,_,rfl,d,by rw [←d],kn⟩)
theorem AoR:ApY 57 76:=fun {m} hC57 l ln tl j fo nt L V hLs hS h=>Aog @hC57 ((ln-j).toNat+1) l ln tl j fo nt L V hLs hS ⟨h.1,h.2.1,h.2.2.1,h.2.2.2.1,h.2.2.2.2.1,h.2.2.2.2.2,Nat.lt_succ_self _⟩
def Aqn (u N:Nat):Prop:=∀{m:Nat} (x:Afp u m) (l:List S) (c j:Int) (g nt:List Nat) (L:Rs) (y:L=S.Ab l) (z:S.IQ l) (h:c=L.length∧0≤j∧c≤200000∧S.Au l≤m:=by exact kn),Ok trees N ⟨[c,j],[g,nt],[L],[]⟩ fun k=>(k=(0,v0)∧(c≤j))∨(∃(d:Int),∃(o:Rs),k=(1,(⟨[d],[],[o],[]⟩:Ah))∧(o=S.rd g nt l j)∧(d=(S.rd g nt l j).length)∧(j<c))
theorem Apa:Aqn 57 61:=by
 intro m d l ln j c nt L U hS h
 subst U
 refine .of (t:=Ahk) rfl ?_
 refine lt j ln (fun t1=>?_) fun t1=>Ai v0 (.inl ⟨rfl,kn⟩)
 refine CG j 0 ?_
 obtain ⟨k,o,y,b,nm,N,xo,xt,P,O,u,yk,Q,yt,Z,M,z,x,J,hg,hd,hh,sx,nx,sy,ny,sb,nb,X,aq⟩:=S.Acm hS j om om
 refine el hg ?_
 refine se nm c (fun a1=>?A) fun a1=>?B
 case' A=>refine eq k 1 (fun a2=>?C) fun a2=>?D
 case' D=>refine eq k 2 (fun a3=>?E) fun a3=>?F
 case' F=>refine eq k 12 (fun a4=>?G) fun a4=>?H
 all_goals
  obtain ⟨_,⟨q1,p1,R1,rfl,rfl,rfl,rfl⟩,G1⟩:=Afe u N xo xt P (E.Ab u).length O c nt (E.Ab u) rfl sx
  obtain ⟨_,⟨q2,p2,R2,rfl,rfl,rfl,rfl⟩,G2⟩:=Afe z yk Q yt Z (E.Ab z).length M c nt (E.Ab z) rfl sy
  obtain ⟨_,⟨q3,R3,rfl,rfl,rfl⟩,G3⟩:=d x (S.Ab x).length c nt (S.Ab x) rfl sb kn
  obtain ⟨_,⟨q4,R4,rfl,rfl,rfl⟩,G4⟩:=d J (S.Ab J).length c nt (S.Ab J) rfl X kn
  refine ch G1 ?_
  refine ch G2 ?_
  refine ch G3 ?_
  refine ch G4 ?_
  refine ll _ (E.Ab (E.AK c nt u)) ?_
  refine ll _ (E.Ab (E.AK c nt z)) ?_
  refine ll _ (S.Ab (S.AK c nt x)) ?_
  refine ll _ (S.Ab (S.AK c nt J)) ?_
  refine dL ([AZ k o y b _ N xo xt (if N=2∧O=c then nt else O) P (E.Ab (E.AK c nt u)) yk Q yt (if yk=2∧M=c then nt else M) Z (E.Ab (E.AK c nt z)) (S.Ab (S.AK c nt x)) (S.Ab (S.AK c nt J))]) (fun W e=>?_) (Fw pe)
  have f:=cL e;try simp only [lA,lC,lN]at f
  refine ll 1 W ?_
  obtain ⟨_,(⟨rfl,p⟩|⟨q,R,rfl,rfl,rfl,p⟩),G⟩:=AoR @d l ln 1 (j+1) c nt (S.Ab l) W rfl hS
  ·refine ch G ?_
   have g:=XG e (S.Fa hd (by first|exact (if_pos ⟨‹_›,by first|assumption|omega⟩).symm|exact (if_neg (fun h=>absurd h.1 ‹_›)).symm|exact (if_neg (fun h=>by have:=h.2;first|omega|contradiction)).symm) rfl rfl) (S.Jl (f:=c) (t:=nt) om)
   exact Ai ⟨[1],[],[W],[]⟩ (.inr ⟨_,_,rfl,g,by rw [←g,f];rfl,kn⟩)
  ·refine cm G (ch G ?_)
   have g:=Abh e (S.Fa hd (by first|exact (if_pos ⟨‹_›,by first|assumption|omega⟩).symm|exact (if_neg (fun h=>absurd h.1 ‹_›)).symm|exact (if_neg (fun h=>by have:=h.2;first|omega|contradiction)).symm) rfl rfl)
   exact Ai ⟨[_],[],[W++S.rd c nt l (j+1)],[]⟩ (.inr ⟨_,_,rfl,g,by rw [←g],kn⟩)
theorem Aom (n:Nat):Afp 57 n:=by
 induction n with
 |zero=>intro l g c nt L d k h;exact absurd h.2.2 (Nat.not_lt_zero _)
 |succ n ih=>
 intro l g c nt L d k h
 subst d
 refine .of (t:=Ahl) rfl ?_
 obtain ⟨_,(⟨rfl,p⟩|⟨q,R,rfl,rfl,rfl,p⟩),G⟩:=Apa @ih l g 0 c nt (S.Ab l) rfl k
 ·refine ch G (de [] (ll 0 [] (fr ?_)))
  obtain ⟨_,rfl,G⟩:=AoW g 0 0 c nt (S.Ab l) []
  refine ch G ?_
  have e:=S.Jl (f:=c) (t:=nt) (l:=l) (j:=0) om
  exact Ai ⟨[0],[],[[]],[]⟩ ⟨_,_,rfl,e.symm,congrArg (fun l:Rs=>(l.length:Int)) e.symm⟩
 ·refine cm G (ch G (ll _ (S.rd c nt l 0) (fr ?_)))
  exact Ai ⟨[_],[],[S.rd c nt l 0],[]⟩ ⟨_,_,rfl,rfl,rfl⟩
theorem Amc:Aqp 57:=fun l d j nt L c g h=>Aom (S.Au l+1) l d j nt L c g ⟨h.1,h.2,Nat.lt_succ_self _⟩
end Go.Proofs.YtbmofjdmgjpfoaaGreatDoor.Am
end
