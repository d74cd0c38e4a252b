/- Part 14 of the proof of TypesAccepts. -/
import Derived.Test.YtbmofjdmgjpfoaaGreatDoorC11
set_option linter.all false
section
set_option maxHeartbeats 4000000
set_option maxRecDepth 100000
namespace Go.Proofs.YtbmofjdmgjpfoaaGreatDoor.Am
open Go.AM Go.AM.K
def AfD (N n:Nat):Prop:=∀{Γ:Ctx} {t:Int} {a:List E} (k o:Int) (ty v:Int) (g depth c:Int) (s:List Nat) (A:Rs) (u:T Γ t (.node k o ty v s a)) (q:A=E.Ac a) (h:g=A.length∧0≤depth∧depth+(E.node k o ty v s a).high≤31∧0≤c∧c+(E.node k o ty v s a).nodes≤100000∧(E.node k o ty v s a).high<n),Ok trees N ⟨[k,o,ty,v,g,depth,c],[s],[A],[]⟩ fun j=>(∃(d:Int),j=(0,(⟨[d],[],[],[]⟩:Ah))∧(d=c+(E.node k o ty v s a).nodes))
def Am1 (N:Nat):Prop:=∀{Γ:Ctx} {t:Int} {a:List E} (k o:Int) (ty v:Int) (g depth c:Int) (s:List Nat) (A:Rs) (q:T Γ t (.node k o ty v s a)) (u:A=E.Ac a) (h:g=A.length∧0≤depth∧depth+(E.node k o ty v s a).high≤31∧0≤c∧c+(E.node k o ty v s a).nodes≤100000:=by exact kn),Ok trees N ⟨[k,o,ty,v,g,depth,c],[s],[A],[]⟩ fun j=>(∃(d:Int),j=(0,(⟨[d],[],[],[]⟩:Ah))∧(d=c+(E.node k o ty v s a).nodes))
def AmP (q N:Nat) (m n:Nat):Prop:=∀{Γ:Ctx} {a:List E} (k d:Int) (len j c:Int) (L:Rs) (v:TL Γ a) (u:L=E.Ac a) (h:d=L.length∧d≤1000∧len=d∧0≤j∧0≤k∧k+1+E.BY a≤31∧0≤c∧c+E.Ag (a.drop j.toNat)≤100000∧E.BY a<m∧(len-j).toNat<n),Ok trees N ⟨[k,d,len,j,c],[],[L],[]⟩ fun o=>(∃(g:Int),o=(0,(⟨[g],[],[],[]⟩:Ah))∧(g=c+E.Ag (a.drop j.toNat)))
def Am0 (o N:Nat):Prop:=∀{m:Nat} (u:AfD o m) {Γ:Ctx} {a:List E} (k d:Int) (len j c:Int) (L:Rs) (x:TL Γ a) (v:L=E.Ac a) (h:d=L.length∧d≤1000∧len=d∧0≤j∧0≤k∧k+1+E.BY a≤31∧0≤c∧c+E.Ag (a.drop j.toNat)≤100000∧E.BY a<m:=by exact kn),Ok trees N ⟨[k,d,len,j,c],[],[L],[]⟩ fun q=>(∃(g:Int),q=(0,(⟨[g],[],[],[]⟩:Ah))∧(g=c+E.Ag (a.drop j.toNat)))
theorem AkE {m:Nat} (o:AfD 55 m) (n:Nat):AmP 55 56 m n:=by
 induction n with
 |zero=>intro Γ a y u len j k L g c h;exact absurd h.2.2.2.2.2.2.2.2.2 (Nat.not_lt_zero _)
 |succ n ih=>
 intro Γ a y u len j k L g c h
 subst c;have hz:=Np (a:=a) (j:=j)
 refine .of (t:=Acd) rfl ?_
 unfold Acd
 refine lt j len (fun R=>?_) fun R=>?_
 ·refine CX j 0 ?_
  refine BD j u ?_
  obtain ⟨C,H,D,A,z,d,aa,x,N,U,J,P⟩:=g.get j (by omega) (by omega)
  refine el x ?_
  obtain ⟨_,⟨v,rfl,M⟩,Z⟩:=o C H D A ((E.Ac d).length:Int) (y+1) k z (E.Ac d) ‹_› rfl kn
  refine ch Z ?_
  obtain ⟨_,⟨q,rfl,O⟩,Q⟩:=ih y u len (j+1) v (E.Ac a) ‹_› rfl kn
  refine ch Q ?_
  exact Aj ⟨[q],[],[],[]⟩ (⟨_,rfl,kn⟩)
 exact Aj ⟨[k],[],[],[]⟩ (⟨_,rfl,kn⟩)
theorem Ai8:Am0 55 56:=fun {m} hC55 {Γ} {a} dd ln len j nn L hTL hLa h=>AkE @hC55 ((len-j).toNat+1) dd ln len j nn L hTL hLa ⟨h.1,h.2.1,h.2.2.1,h.2.2.2.1,h.2.2.2.2.1,h.2.2.2.2.2.1,h.2.2.2.2.2.2.1,h.2.2.2.2.2.2.2.1,h.2.2.2.2.2.2.2.2,Nat.lt_succ_self _⟩
theorem AkF (n:Nat):AfD 55 n:=by
 induction n with
 |zero=>intro Γ t a k o ty v d depth g s A c u h;exact absurd h.2.2.2.2.2 (Nat.not_lt_zero _)
 |succ n ih=>
 intro Γ t a k o ty v d depth g s A c u h
 subst u;have ⟨N,J,M⟩:=c.kind;have O:=c.nodes;have P:=LJ (k:=k) (o:=o) (ty:=ty) (v:=v) (s:=s) (a:=a);have hl:=T.len c.args;have H:=E.A7 a;have Q:E.Ag (a.drop (0:Int).toNat)=E.Ag a:=rfl
 refine .of (t:=Ace) rfl ?_
 unfold Ace
 refine Ss depth 30 ?_
 refine eq k 8 (fun C=>?_) fun C=>?_
 ·refine Ss d 8 ?_
  obtain ⟨_,⟨j,rfl,z⟩,y⟩:=Ai8 @ih depth d d 0 (g+1) (E.Ac a) c.args rfl
  refine ch y ?_
  exact Aj ⟨[j],[],[],[]⟩ (⟨_,rfl,kn⟩)
 obtain ⟨_,⟨q,rfl,x⟩,D⟩:=Ai8 @ih depth d d 0 (g+1) (E.Ac a) c.args rfl
 refine ch D ?_
 exact Aj ⟨[q],[],[],[]⟩ (⟨_,rfl,kn⟩)
theorem Ai9:Am1 55:=fun {Γ} {t} {a} k o ty v ln depth nn s A hT hA h=>AkF ((E.node k o ty v s a).high+1) k o ty v ln depth nn s A hT hA ⟨h.1,h.2.1,h.2.2.1,h.2.2.2.1,h.2.2.2.2,Nat.lt_succ_self _⟩
end Go.Proofs.YtbmofjdmgjpfoaaGreatDoor.Am
end
section
set_option maxHeartbeats 4000000
set_option maxRecDepth 100000
namespace Go.Proofs.YtbmofjdmgjpfoaaGreatDoor.Am
open Go.AM Go.AM.K
def AmQ (N n:Nat):Prop:=∀{Γ:Ctx} (a:List E) (dd C:Int) (Q c3:Int) (g j:Int) (c q1:Int) (q2 q3:Int) (D q5:Int) (H P:Int) (O q9:Int) (o q:Int) (x y:Int) (z u v:Int) (u1 R J:List Nat) (D1 k:Rs) (D2 U:Rs) (Z A:Rs) (hE:∀e∈a,EOk Γ e) (ai:k=E.Ac a) (h:g=k.length∧g=2∧0≤j∧0≤c∧c+E.Ag (a.drop j.toNat)≤100000∧(2-j).toNat<n),Ok trees N ⟨[dd,C,Q,c3,g,j,c,q1,q2,q3,D,q5,H,P,O,q9,o,q,x,y,z,u,v],[u1,R,J],[D1,k,D2,U,Z,A],[]⟩ fun M=>(∃(d:Int),M=(0,(⟨[d],[],[],[]⟩:Ah))∧(d=c+E.Ag (a.drop j.toNat)))
def Am2 (N:Nat):Prop:=∀{Γ:Ctx} (a:List E) (dd C:Int) (Q c3:Int) (g j:Int) (c q1:Int) (q2 q3:Int) (D q5:Int) (H P:Int) (O q9:Int) (o q:Int) (x y:Int) (z u v:Int) (u1 R J:List Nat) (D1 k:Rs) (D2 U:Rs) (Z A:Rs) (hE:∀e∈a,EOk Γ e) (ai:k=E.Ac a) (h:g=k.length∧g=2∧0≤j∧0≤c∧c+E.Ag (a.drop j.toNat)≤100000:=by exact kn),Ok trees N ⟨[dd,C,Q,c3,g,j,c,q1,q2,q3,D,q5,H,P,O,q9,o,q,x,y,z,u,v],[u1,R,J],[D1,k,D2,U,Z,A],[]⟩ fun M=>(∃(d:Int),M=(0,(⟨[d],[],[],[]⟩:Ah))∧(d=c+E.Ag (a.drop j.toNat)))
theorem X4 (n:Nat):AmQ 54 n:=by
 induction n with
 |zero=>intro Γ a dd M U c3 x j z q1 q2 q3 N q5 O R Q q9 c d q u v k o u1 Z P D1 XY D2 D3 D4 H y A h;exact absurd h.2.2.2.2.2 (Nat.not_lt_zero _)
 |succ n ih=>
 intro Γ a dd M U c3 x j z q1 q2 q3 N q5 O R Q q9 c d q u v k o u1 Z P D1 XY D2 D3 D4 H y A h
 subst A;have hz:=Np (a:=a) (j:=j)
 refine .of (t:=Acf) rfl ?_
 unfold Acf
 refine lt j 2 (fun t1=>?_) fun t1=>?_
 ·refine CX j 0 ?_
  refine BD j x ?_
  obtain ⟨D,ap,au,ao,aq,C,aH,am,J,g,az,aA⟩:=EL.get y j (by omega) (by omega)
  refine el am ?_
  have av:=g
  refine ne D 0 (fun t3=>?_) fun t3=>?_
  ·have aI:=g (by omega)
   obtain ⟨_,⟨af,rfl,ax⟩,G4⟩:=Ai9 D ap au ao ((E.Ac C).length:Int) 1 z aq (E.Ac C) (by exact J (by omega)) rfl
   refine ch G4 ?_
   obtain ⟨_,⟨ah,rfl,aD⟩,G5⟩:=ih a dd M U c3 x (j+1) af q1 q2 q3 N q5 O R Q q9 c d q u v k o u1 Z P D1 (E.Ac a) D2 D3 D4 H y rfl kn
   refine ch G5 ?_
   exact Aj ⟨[ah],[],[],[]⟩ (⟨_,rfl,kn⟩)
  obtain ⟨_,⟨aj,rfl,aE⟩,G6⟩:=ih a dd M U c3 x (j+1) z q1 q2 q3 N q5 O R Q q9 c d q u v k o u1 Z P D1 (E.Ac a) D2 D3 D4 H y rfl kn
  refine ch G6 ?_
  exact Aj ⟨[aj],[],[],[]⟩ (⟨_,rfl,kn⟩)
 exact Aj ⟨[z],[],[],[]⟩ (⟨_,rfl,kn⟩)
theorem Alx:Am2 54:=fun {Γ} a dd c1 c2 c3 xl j nn q1 q2 q3 q4 q5 q6 q7 q8 q9 q10 q11 q12 q13 q14 q15 q16 u1 u2 u3 D1 XY D2 D3 D4 D5 hE hXY h=>X4 ((2-j).toNat+1) a dd c1 c2 c3 xl j nn q1 q2 q3 q4 q5 q6 q7 q8 q9 q10 q11 q12 q13 q14 q15 q16 u1 u2 u3 D1 XY D2 D3 D4 D5 hE hXY ⟨h.1,h.2.1,h.2.2.1,h.2.2.2.1,h.2.2.2.2,Nat.lt_succ_self _⟩
def AfE (N n:Nat):Prop:=∀{u o:Int} {Γ k:Ctx} {l:List S} (j g c:Int) (L:Rs) (x:CE u o Γ l k) (v:L=S.Ac l) (h:j=L.length∧0≤g∧g+S.A4 l≤31∧0≤c∧c+S.Ag l≤100000∧S.A4 l<n),Ok trees N ⟨[j,g,c],[],[L],[]⟩ fun q=>(∃(d:Int),q=(0,(⟨[d],[],[],[]⟩:Ah))∧(d=c+S.Ag l))
def Am4 (N:Nat):Prop:=∀{u o:Int} {Γ k:Ctx} {l:List S} (j g c:Int) (L:Rs) (x:CE u o Γ l k) (v:L=S.Ac l) (h:j=L.length∧0≤g∧g+S.A4 l≤31∧0≤c∧c+S.Ag l≤100000:=by exact kn),Ok trees N ⟨[j,g,c],[],[L],[]⟩ fun q=>(∃(d:Int),q=(0,(⟨[d],[],[],[]⟩:Ah))∧(d=c+S.Ag l))
def AmR (x N:Nat) (m n:Nat):Prop:=∀{v q:Int} {Γ o:Ctx} {l:List S} (k d:Int) (len j c:Int) (L:Rs) (z:CE v q Γ (l.drop j.toNat) o) (y:L=S.Ac l) (h:d=L.length∧d≤200000∧len=d∧0≤j∧0≤k∧k+S.A4 (l.drop j.toNat)≤31∧0≤c∧c+S.Ag (l.drop j.toNat)≤100000∧S.A4 (l.drop j.toNat)≤m∧(len-j).toNat<n),Ok trees N ⟨[k,d,len,j,c],[],[L],[]⟩ fun u=>(∃(g:Int),u=(0,(⟨[g],[],[],[]⟩:Ah))∧(g=c+S.Ag (l.drop j.toNat)))
def Am3 (o N:Nat):Prop:=∀{m:Nat} (u:AfE o m) {y v:Int} {Γ q:Ctx} {l:List S} (k d:Int) (len j c:Int) (L:Rs) (A:CE y v Γ (l.drop j.toNat) q) (z:L=S.Ac l) (h:d=L.length∧d≤200000∧len=d∧0≤j∧0≤k∧k+S.A4 (l.drop j.toNat)≤31∧0≤c∧c+S.Ag (l.drop j.toNat)≤100000∧S.A4 (l.drop j.toNat)≤m:=by exact kn),Ok trees N ⟨[k,d,len,j,c],[],[L],[]⟩ fun x=>(∃(g:Int),x=(0,(⟨[g],[],[],[]⟩:Ah))∧(g=c+S.Ag (l.drop j.toNat)))
theorem AkG {m:Nat} (N:AfE 52 m) (n:Nat):AmR 52 53 m n:=by
 induction n with
 |zero=>intro lo pu Γ Γe l M O len j nn L hO P h;exact absurd h.2.2.2.2.2.2.2.2.2 (Nat.not_lt_zero _)
 |succ n ih=>
 intro lo pu Γ Γe l M O len j nn L hO P h
 subst P;have hz:=Bv (l:=l) (j:=j)
 refine .of (t:=Acg) rfl ?_
 unfold Acg
 refine lt j len (fun t1=>?_) fun t1=>?_
 ·refine CX j 0 ?_
  refine BD j O ?_
  obtain ⟨ah,ai,t_1,ag,Q,o,v,q,g,k,d,C,A,D,z,u,c,J,H,ap,ae,U,am,ao,az⟩:=CE.get j hO (by omega) (by omega)
  refine el ae ?_
  obtain ⟨aC,aI,aA,aK,aq,ay,ax⟩:=U.parts;have R:=n2 (x:=.node o v q g k d) (y:=.node C A D z u c)
  refine Ss M 30 ?_
  refine dL [[.int .i64 o,.int .i64 v,.int .i64 q,.str k,.int .i32 g,.list 6 (E.Ac d)],[.int .i64 C,.int .i64 A,.int .i64 D,.str u,.int .i32 z,.list 6 (E.Ac c)]] (fun W3 e3=>?_)
  have f3:=cL e3;try simp only [lA,lC,lN,lT']at f3
  refine ll 2 W3 ?_
  refine fr ?_
  have e0:E.Ag ([E.node o v q g k d,.node C A D z u c].drop (0:Int).toNat)=_:=R
  obtain ⟨_,⟨ab,rfl,al⟩,G4⟩:=Alx [.node o v q g k d,.node C A D z u c] M O len j 2 0 (nn+1) ah ai t_1 ag o v q g ((E.Ac d).length:Int) C A D z ((E.Ac c).length:Int) ((S.Ac J).length:Int) ((S.Ac H).length:Int) Q k u (S.Ac l) W3 (E.Ac d) (E.Ac c) (S.Ac J) (S.Ac H) ‹_› (by subst_vars;rfl)
  refine ch G4 ?_
  obtain ⟨_,⟨ac,rfl,aB⟩,G5⟩:=N ((S.Ac J).length:Int) (M+1) ab (S.Ac J) ‹_› rfl kn
  refine ch G5 ?_
  obtain ⟨_,⟨ad,rfl,aD⟩,G6⟩:=N ((S.Ac H).length:Int) (M+1) ac (S.Ac H) ‹_› rfl kn
  refine ch G6 ?_
  obtain ⟨_,⟨Z,rfl,aJ⟩,G7⟩:=ih M O len (j+1) ad (S.Ac l) ‹_› rfl kn
  refine ch G7 ?_
  exact Aj ⟨[Z],[],[],[]⟩ (⟨_,rfl,kn⟩)
 exact Aj ⟨[nn],[],[],[]⟩ (⟨_,rfl,kn⟩)
theorem Aly:Am3 52 53:=fun {m} hC52 {lo} {pu} {Γ} {Γe} {l} dd ln len j nn L hO hLs h=>AkG @hC52 ((len-j).toNat+1) dd ln len j nn L hO hLs ⟨h.1,h.2.1,h.2.2.1,h.2.2.2.1,h.2.2.2.2.1,h.2.2.2.2.2.1,h.2.2.2.2.2.2.1,h.2.2.2.2.2.2.2.1,h.2.2.2.2.2.2.2.2,Nat.lt_succ_self _⟩
theorem AkH (n:Nat):AfE 52 n:=by
 induction n with
 |zero=>intro v y Γ q l d o j L k c h;exact absurd h.2.2.2.2.2 (Nat.not_lt_zero _)
 |succ n ih=>
 intro v y Γ q l d o j L k c h
 subst c;have C:=S.len l;have A:=S.A7 l
 refine .of (t:=Ach) rfl ?_
 unfold Ach
 have z:S.Ag (l.drop (0:Int).toNat)=S.Ag l:=rfl;have D:S.A4 (l.drop (0:Int).toNat)=S.A4 l:=rfl
 obtain ⟨_,⟨g,rfl,x⟩,u⟩:=Aly @ih o d d 0 j (S.Ac l) k rfl
 refine ch u ?_
 exact Aj ⟨[g],[],[],[]⟩ (⟨_,rfl,(by have z:S.Ag (l.drop (0:Int).toNat)=S.Ag l:=rfl;omega)⟩)
theorem AiA:Am4 52:=fun {lo} {pu} {Γ} {Γe} {l} ln dd nn L hO hLs h=>AkH (S.A4 l+1) ln dd nn L hO hLs ⟨h.1,h.2.1,h.2.2.1,h.2.2.2.1,h.2.2.2.2,Nat.lt_succ_self _⟩
end Go.Proofs.YtbmofjdmgjpfoaaGreatDoor.Am
end
section
set_option maxHeartbeats 4000000
set_option maxRecDepth 100000
namespace Go.Proofs.YtbmofjdmgjpfoaaGreatDoor.Am
open Go.AM Go.AM.K
def fxB:Bool:=(List.range 256).all fun x=>match EN [(x:Int)*16384-100000] Kh with|some (0,[])=>true|some (1,[])=>true|_=>false
theorem Afk:fxB=true:=by kernel_rfl
def AlV (N:Nat):Prop:=∀(v:Int) (c:Fx v),Ok trees N ⟨[v],[],[],[]⟩ fun o=>o=(0,v0)∨o=(1,v0)
theorem Ald:AlV 99:=by
 intro v ⟨x,hx,hv⟩
 subst hv
 have h:=List.all_eq_true.1 Afk x (List.mem_range.2 hx)
 split at h
 ·rename_i e;exact Ok.num (t:=Kh) rfl e (.inl rfl)
 ·rename_i e;exact Ok.num (t:=Kh) rfl e (.inr rfl)
 ·cases h
def nmB:Bool:=names.all fun s=>match Nf s AbT with|some 0=>true|_=>false
theorem AeV:nmB=true:=by kernel_rfl
def Amt (N:Nat):Prop:=∀(s:List Nat) (hs:Nm s),Ok trees N ⟨[],[s],[],[]⟩ fun o=>o=(0,v0)
theorem FQ:Amt 69:=by
 intro s hs
 have h:=List.all_eq_true.1 AeV s hs
 split at h
 ·rename_i e;exact Ok.str (t:=AbT) rfl e rfl
 ·cases h
def KN (N n:Nat):Prop:=∀{Γ:Ctx} {t:Int} {a:List E} (k o:Int) (ty v:Int) (g d:Int) (s:List Nat) (A:Rs) (q:T Γ t (.node k o ty v s a)) (u:A=E.Ac a) (h:g=A.length∧0≤d∧d+100*(E.node k o ty v s a).nodes≤1000000∧(E.node k o ty v s a).high<n),Ok trees N ⟨[k,o,ty,v,g,d],[s],[A],[]⟩ fun j=>(∃(c:Int),j=(0,(⟨[c],[],[],[]⟩:Ah))∧(c+2≤d+100*(E.node k o ty v s a).nodes)∧(d≤c))
def Ajm (N:Nat):Prop:=∀{Γ:Ctx} {t:Int} {a:List E} (k o:Int) (ty v:Int) (g d:Int) (s:List Nat) (A:Rs) (q:T Γ t (.node k o ty v s a)) (u:A=E.Ac a) (h:g=A.length∧0≤d∧d+100*(E.node k o ty v s a).nodes≤1000000:=by exact kn),Ok trees N ⟨[k,o,ty,v,g,d],[s],[A],[]⟩ fun j=>(∃(c:Int),j=(0,(⟨[c],[],[],[]⟩:Ah))∧(c+2≤d+100*(E.node k o ty v s a).nodes)∧(d≤c))
theorem KN.of {N n:Nat} (H:Ajm N):KN N n:=fun {Γ} {t} {a} k o ty v ln sz s A hT hA h=>H k o ty v ln sz s A hT hA (by have:=h;omega)
def Akk (o N:Nat) (m n:Nat):Prop:=∀{Γ:Ctx} {a:List E} (g len:Int) (j d:Int) (L:Rs) (u:TL Γ a) (q:L=E.Ac a) (h:g=L.length∧g≤1000∧len=g∧0≤j∧j≤g∧0≤d∧d+100*E.Ag (a.drop j.toNat)≤999970∧E.BY a<m∧(len-j).toNat<n),Ok trees N ⟨[g,len,j,d],[],[L],[]⟩ fun k=>(k=(0,v0)∧(E.Ag (a.drop j.toNat)=0))∨(∃(c:Int),k=(1,(⟨[c],[],[],[]⟩:Ah))∧(c≤d+100*E.Ag (a.drop j.toNat))∧(d≤c))
def AjU (k N:Nat):Prop:=∀{m:Nat} (q:KN k m) {Γ:Ctx} {a:List E} (g len:Int) (j d:Int) (L:Rs) (v:TL Γ a) (u:L=E.Ac a) (h:g=L.length∧g≤1000∧len=g∧0≤j∧j≤g∧0≤d∧d+100*E.Ag (a.drop j.toNat)≤999970∧E.BY a<m:=by exact kn),Ok trees N ⟨[g,len,j,d],[],[L],[]⟩ fun o=>(o=(0,v0)∧(E.Ag (a.drop j.toNat)=0))∨(∃(c:Int),o=(1,(⟨[c],[],[],[]⟩:Ah))∧(c≤d+100*E.Ag (a.drop j.toNat))∧(d≤c))
theorem AgC {m:Nat} (k:KN 97 m) (n:Nat):Akk 97 100 m n:=by
 induction n with
 |zero=>intro Γ a v len j o L H y h;exact absurd h.2.2.2.2.2.2.2.2 (Nat.not_lt_zero _)
 |succ n ih=>
 intro Γ a v len j o L H y h
 subst y;have hz:=Np (a:=a) (j:=j)
 refine .of (t:=VP) rfl ?_
 unfold VP
 refine lt j len (fun t1=>?_) fun t1=>?_
 ·refine CX j 0 ?_
  refine BD j v ?_
  obtain ⟨z,A,D,x,C,c,am,N,ac,ah,P,ae⟩:=H.get j (by omega) (by omega)
  refine el N ?_
  refine gt j 0 (fun t3=>?_) fun t3=>?_
  ·refine bu o ?_
   obtain ⟨_,⟨g,rfl,ad,ai⟩,G4⟩:=k z A D x ((E.Ac c).length:Int) (o+2) C (E.Ac c) ‹_› rfl kn
   refine ch G4 ?_
   obtain ⟨_,(⟨rfl,O⟩|⟨q,rfl,Z,aa⟩),M⟩:=ih v len (j+1) g (E.Ac a) ‹_› rfl kn
   ·refine ch M ?_
    exact Aj ⟨[g],[],[],[]⟩ (.inr ((⟨_,rfl,kn,kn⟩)))
   refine cm M ?_
   refine ch M ?_
   exact Aj ⟨[q],[],[],[]⟩ (.inr ((⟨_,rfl,kn,kn⟩)))
  obtain ⟨_,⟨d,rfl,aj,al⟩,G6⟩:=k z A D x ((E.Ac c).length:Int) o C (E.Ac c) ‹_› rfl kn
  refine ch G6 ?_
  obtain ⟨_,(⟨rfl,U⟩|⟨u,rfl,R,Q⟩),J⟩:=ih v len (j+1) d (E.Ac a) ‹_› rfl kn
  ·refine ch J ?_
   exact Aj ⟨[d],[],[],[]⟩ (.inr ((⟨_,rfl,kn,kn⟩)))
  refine cm J ?_
  refine ch J ?_
  exact Aj ⟨[u],[],[],[]⟩ (.inr ((⟨_,rfl,kn,kn⟩)))
 exact Aj v0 (.inl (⟨rfl,kn⟩))
theorem Ajd:AjU 97 100:=fun {m} hC97 {Γ} {a} ln len j sz L hTL hLa h=>AgC @hC97 ((len-j).toNat+1) ln len j sz L hTL hLa ⟨h.1,h.2.1,h.2.2.1,h.2.2.2.1,h.2.2.2.2.1,h.2.2.2.2.2.1,h.2.2.2.2.2.2.1,h.2.2.2.2.2.2.2,Nat.lt_succ_self _⟩
def AlW (j N:Nat):Prop:=∀{m:Nat} (o:KN j m) {Γ:Ctx} {a:List E} (g d:Int) (L:Rs) (u:TL Γ a) (q:L=E.Ac a) (h:g=L.length∧g≤1000∧0≤d∧d+2+100*E.Ag a≤999970∧E.BY a<m:=by exact kn),Ok trees N ⟨[g,d],[],[L],[]⟩ fun k=>(∃(c:Int),k=(0,(⟨[c],[],[],[]⟩:Ah))∧(c≤d+2+100*E.Ag a)∧(d≤c))
theorem Ji:AlW 97 98:=by
 intro m k Γ a q d L g o h
 subst o;have y:=T.len g;have z:E.Ag (a.drop (0:Int).toNat)=E.Ag a:=rfl
 refine .of (t:=Ab9) rfl ?_
 unfold Ab9
 refine bu d ?_
 obtain ⟨_,(⟨rfl,v⟩|⟨c,rfl,x,u⟩),j⟩:=Ajd @k q q 0 (d+1) (E.Ac a) g rfl
 ·refine ch j ?_
  refine bu (d+1) ?_
  exact Aj ⟨[((d+1)+1)],[],[],[]⟩ (⟨_,rfl,kn,kn⟩)
 refine cm j ?_
 refine ch j ?_
 refine bu c ?_
 exact Aj ⟨[(c+1)],[],[],[]⟩ (⟨_,rfl,kn,kn⟩)
theorem Ak2 (n:Nat):KN 97 n:=by
 induction n with
 |zero=>intro Γ t a k o ty v g d s A R hA h;exact absurd h.2.2.2 (Nat.not_lt_zero _)
 |succ n ih=>
 intro Γ t a k o ty v g d s A R hA h
 subst hA;have ⟨dp,dl,dj⟩:=R.kind;have e1:=R.nodes;have e2:=LJ (k:=k) (o:=o) (ty:=ty) (v:=v) (s:=s) (a:=a);have hl:=T.len R.args;have dk:=E.A7 a;have e0:E.Ag (a.drop (0:Int).toNat)=E.Ag a:=rfl;have U:g=(a.length:Int):=by have:=h.1;rw [E.A7]at this;exact this
 rcases R.inv with hv|hv|hv|hv|hv|hv|hv|hv
 ·obtain ⟨rfl,rfl,rfl,rfl,rfl,r1,r2,r3,r4,r5,r6⟩:=hv;simp only [lC,lN]at U;have Z:E.Ag []=0:=rfl;have Q:TL Γ []:=R.args
  refine .of (t:=GW) rfl ?_
  unfold GW
  refine BL 1 1 ?_
  refine Cc g 0 ?_
  refine Cc 0 0 ?_
  refine seY [] [] ?_
  refine eq ty 1 (fun J=>?_) fun J=>?_
  ·refine bu d ?_
   exact Aj ⟨[(d+21)],[],[],[]⟩ (⟨_,rfl,kn,kn⟩)
  refine eq ty 2 (fun j=>?_) fun j=>?_
  ·obtain ⟨_,(rfl|rfl),G3⟩:=Ald v (r4 (by omega))
   ·refine ch G3 ?_
    refine bu d ?_
    exact Aj ⟨[(d+34)],[],[],[]⟩ (⟨_,rfl,kn,kn⟩)
   refine cm G3 ?_
   refine ch G3 ?_
   refine bu d ?_
   exact Aj ⟨[(d+33)],[],[],[]⟩ (⟨_,rfl,kn,kn⟩)
  refine BL ty 3 ?_
  refine eq v 0 (fun t4=>?_) fun t4=>?_
  ·refine AT v 1 ?_
   refine bu d ?_
   exact Aj ⟨[(d+5)],[],[],[]⟩ (⟨_,rfl,kn,kn⟩)
  refine BL v 1 ?_
  refine bu d ?_
  exact Aj ⟨[(d+4)],[],[],[]⟩ (⟨_,rfl,kn,kn⟩)
 ·obtain ⟨rfl,rfl,rfl,rfl,rfl,rfl,r1,r2⟩:=hv;simp only [lC,lN]at U;have Z:E.Ag []=0:=rfl;have Q:TL Γ []:=R.args
  refine .of (t:=GW) rfl ?_
  unfold GW
  refine AT 3 1 ?_
  refine AT 3 2 ?_
  refine BL 3 3 ?_
  refine Cc g 0 ?_
  refine Cc 0 0 ?_
  refine seY [] [] ?_
  refine En (o-1) 0 ?_
  refine IZ (o-1) 7 ?_
  refine eq (o-1) 0 (fun t5=>?_) fun t5=>?_
  ·refine bu d ?_
   refine Cc 0 0 ?_
   exact Aj ⟨[(d+5)],[],[],[]⟩ (⟨_,rfl,kn,kn⟩)
  refine eq (o-1) 1 (fun t6=>?_) fun t6=>?_
  ·refine bu d ?_
   refine Cc 0 0 ?_
   exact Aj ⟨[(d+6)],[],[],[]⟩ (⟨_,rfl,kn,kn⟩)
  refine eq (o-1) 2 (fun t7=>?_) fun t7=>?_
  ·refine bu d ?_
   refine Cc 0 0 ?_
   exact Aj ⟨[(d+6)],[],[],[]⟩ (⟨_,rfl,kn,kn⟩)
  refine eq (o-1) 3 (fun t8=>?_) fun t8=>?_
  ·refine bu d ?_
   refine Cc 0 0 ?_
   exact Aj ⟨[(d+6)],[],[],[]⟩ (⟨_,rfl,kn,kn⟩)
  refine eq (o-1) 4 (fun t9=>?_) fun t9=>?_
  ·refine bu d ?_
   refine Cc 0 0 ?_
   exact Aj ⟨[(d+5)],[],[],[]⟩ (⟨_,rfl,kn,kn⟩)
  refine eq (o-1) 5 (fun bc=>?_) fun bc=>?_
  ·refine bu d ?_
   refine Cc 0 0 ?_
   exact Aj ⟨[(d+5)],[],[],[]⟩ (⟨_,rfl,kn,kn⟩)
  refine BL (o-1) 6 ?_
  refine bu d ?_
  refine Cc 0 0 ?_
  exact Aj ⟨[(d+4)],[],[],[]⟩ (⟨_,rfl,kn,kn⟩)
 ·obtain ⟨rfl,rfl,rfl,rfl,rfl,hs,kk,ii,hk,r1,r2,hg⟩:=hv;simp only [lC,lN]at U;have Z:E.Ag []=0:=rfl;have Q:TL Γ []:=R.args;have aP:=Nm.len (s:=s) ‹_›
  refine .of (t:=GW) rfl ?_
  unfold GW
  refine AT 2 1 ?_
  refine BL 2 2 ?_
  refine Cc g 0 ?_
  refine Cc 0 0 ?_
  refine Cc 0 0 ?_
  refine Cc 0 0 ?_
  obtain ⟨_,rfl,bk⟩:=FQ s (by first|assumption|decide)
  refine ch bk ?_
  refine sl s ?_
  refine bu d ?_
  exact Aj ⟨[(d+64)],[],[],[]⟩ (⟨_,rfl,kn,kn⟩)
 ·obtain ⟨rfl,rfl,rfl,rfl,O,P,J,M,N,D,w,rfl,hu,h1⟩:=hv;simp only [lC,lN]at U;have Z:=n1 (x:=.node O P J M N D);have e4:=g1 (x:=.node O P J M N D);have Q:TL Γ [.node O P J M N D]:=R.args;have hr:=hu.rng
  refine .of (t:=GW) rfl ?_
  unfold GW
  refine AT 4 1 ?_
  refine AT 4 2 ?_
  refine AT 4 3 ?_
  refine BL 4 4 ?_
  refine Cc g 1 ?_
  refine Cc 0 0 ?_
  refine seY [] [] ?_
  refine En (o-1) 0 ?_
  refine IZ (o-1) 5 ?_
  refine eq (o-1) 0 (fun bP=>?_) fun bP=>?_
  ·refine bu d ?_
   refine Cc 0 0 ?_
   obtain ⟨_,⟨aD,rfl,cS,cB⟩,bG⟩:=Ji @ih g (d+3) (E.Ac [.node O P J M N D]) Q rfl
   refine ch bG ?_
   exact Aj ⟨[aD],[],[],[]⟩ (⟨_,rfl,kn,kn⟩)
  refine eq (o-1) 1 (fun bg=>?_) fun bg=>?_
  ·refine bu d ?_
   refine Cc 0 0 ?_
   obtain ⟨_,⟨aG,rfl,c4,cL⟩,bS⟩:=Ji @ih g (d+3) (E.Ac [.node O P J M N D]) Q rfl
   refine ch bS ?_
   exact Aj ⟨[aG],[],[],[]⟩ (⟨_,rfl,kn,kn⟩)
  refine eq (o-1) 2 (fun bD=>?_) fun bD=>?_
  ·refine bu d ?_
   refine Cc 0 0 ?_
   obtain ⟨_,⟨aH,rfl,cn,cT⟩,aX⟩:=Ji @ih g (d+3) (E.Ac [.node O P J M N D]) Q rfl
   refine ch aX ?_
   exact Aj ⟨[aH],[],[],[]⟩ (⟨_,rfl,kn,kn⟩)
  refine eq (o-1) 3 (fun bJ=>?_) fun bJ=>?_
  ·refine bu d ?_
   refine Cc 0 0 ?_
   obtain ⟨_,⟨aK,rfl,cW,cG⟩,a1⟩:=Ji @ih g (d+3) (E.Ac [.node O P J M N D]) Q rfl
   refine ch a1 ?_
   exact Aj ⟨[aK],[],[],[]⟩ (⟨_,rfl,kn,kn⟩)
  refine BL (o-1) 4 ?_
  refine bu d ?_
  refine Cc 0 0 ?_
  obtain ⟨_,⟨aJ,rfl,cM,cb⟩,bw⟩:=Ji @ih g (d+3) (E.Ac [.node O P J M N D]) Q rfl
  refine ch bw ?_
  exact Aj ⟨[aJ],[],[],[]⟩ (⟨_,rfl,kn,kn⟩)
 ·obtain ⟨rfl,rfl,rfl,rfl,O,P,J,M,N,D,q,H,j,C,u,b2,w,rfl,hu,h1,h2⟩:=hv;simp only [lC,lN]at U;have Z:=n2 (x:=.node O P J M N D) (y:=.node q H j C u b2);have e4:=g2 (x:=.node O P J M N D) (y:=.node q H j C u b2);have Q:TL Γ [.node O P J M N D,.node q H j C u b2]:=R.args;have hr:=hu.rng
  refine .of (t:=GW) rfl ?_
  unfold GW
  refine AT 5 1 ?_
  refine AT 5 2 ?_
  refine AT 5 3 ?_
  refine AT 5 4 ?_
  refine BL 5 5 ?_
  refine Cc g 2 ?_
  refine Cc 0 0 ?_
  refine seY [] [] ?_
  refine BL g 2 ?_
  refine eq o 22 (fun bY=>?_) fun bY=>?_
  ·refine En (o-22) 0 ?_
   refine IZ (o-22) 2 ?_
   refine BL (o-22) 0 ?_
   refine bu d ?_
   refine Cc 0 0 ?_
   obtain ⟨_,⟨aL,rfl,cP,cc⟩,ba⟩:=Ji @ih g (d+3) (E.Ac [.node O P J M N D,.node q H j C u b2]) Q rfl
   refine ch ba ?_
   exact Aj ⟨[aL],[],[],[]⟩ (⟨_,rfl,kn,kn⟩)
  refine eq o 23 (fun bE=>?_) fun bE=>?_
  ·refine En (o-22) 0 ?_
   refine IZ (o-22) 2 ?_
   refine AT (o-22) 0 ?_
   refine BL (o-22) 1 ?_
   refine bu d ?_
   refine Cc 0 0 ?_
   obtain ⟨_,⟨aM,rfl,c3,cA⟩,bM⟩:=Ji @ih g (d+3) (E.Ac [.node O P J M N D,.node q H j C u b2]) Q rfl
   refine ch bM ?_
   exact Aj ⟨[aM],[],[],[]⟩ (⟨_,rfl,kn,kn⟩)
  refine bu d ?_
  refine BD 0 g ?_
  refine el (j':=0) rfl ?_
  refine Cc 0 0 ?_
  obtain ⟨_,⟨c,rfl,cK,b6⟩,bA⟩:=ih O P J M ((E.Ac D).length:Int) (d+1) N (E.Ac D) ‹_› rfl kn
  refine ch bA ?_
  refine bu c ?_
  refine En (o-10) 0 ?_
  refine IZ (o-10) 20 ?_
  refine eq (o-10) 0 (fun bj=>?_) fun bj=>?_
  ·refine bu (c+1) ?_
   refine bu ((c+1)+1) ?_
   refine BD 1 g ?_
   refine el (j':=1) rfl ?_
   obtain ⟨_,⟨av,rfl,co,cN⟩,bm⟩:=ih q H j C ((E.Ac b2).length:Int) (((c+1)+1)+1) u (E.Ac b2) ‹_› rfl kn
   refine ch bm ?_
   refine bu av ?_
   exact Aj ⟨[(av+1)],[],[],[]⟩ (⟨_,rfl,kn,kn⟩)
  refine eq (o-10) 1 (fun bN=>?_) fun bN=>?_
  ·refine bu (c+1) ?_
   refine bu ((c+1)+1) ?_
   refine BD 1 g ?_
   refine el (j':=1) rfl ?_
   obtain ⟨_,⟨aq,rfl,b7,cu⟩,a3⟩:=ih q H j C ((E.Ac b2).length:Int) (((c+1)+1)+1) u (E.Ac b2) ‹_› rfl kn
   refine ch a3 ?_
   refine bu aq ?_
   exact Aj ⟨[(aq+1)],[],[],[]⟩ (⟨_,rfl,kn,kn⟩)
  refine eq (o-10) 2 (fun aW=>?_) fun aW=>?_
  ·refine bu (c+1) ?_
   refine bu ((c+1)+1) ?_
   refine BD 1 g ?_
   refine el (j':=1) rfl ?_
   obtain ⟨_,⟨ai,rfl,b5,cY⟩,bR⟩:=ih q H j C ((E.Ac b2).length:Int) (((c+1)+1)+1) u (E.Ac b2) ‹_› rfl kn
   refine ch bR ?_
   refine bu ai ?_
   exact Aj ⟨[(ai+1)],[],[],[]⟩ (⟨_,rfl,kn,kn⟩)
  refine eq (o-10) 3 (fun a2=>?_) fun a2=>?_
  ·refine bu (c+1) ?_
   refine bu ((c+1)+1) ?_
   refine BD 1 g ?_
   refine el (j':=1) rfl ?_
   obtain ⟨_,⟨aw,rfl,cF,cO⟩,a5⟩:=ih q H j C ((E.Ac b2).length:Int) (((c+1)+1)+1) u (E.Ac b2) ‹_› rfl kn
   refine ch a5 ?_
   refine bu aw ?_
   exact Aj ⟨[(aw+1)],[],[],[]⟩ (⟨_,rfl,kn,kn⟩)
  refine eq (o-10) 4 (fun a8=>?_) fun a8=>?_
  ·refine bu (c+1) ?_
   refine bu ((c+1)+1) ?_
   refine BD 1 g ?_
   refine el (j':=1) rfl ?_
   obtain ⟨_,⟨an,rfl,ct,b4⟩,br⟩:=ih q H j C ((E.Ac b2).length:Int) (((c+1)+1)+1) u (E.Ac b2) ‹_› rfl kn
   refine ch br ?_
   refine bu an ?_
   exact Aj ⟨[(an+1)],[],[],[]⟩ (⟨_,rfl,kn,kn⟩)
  refine eq (o-10) 5 (fun a9=>?_) fun a9=>?_
  ·refine bu (c+1) ?_
   refine bu ((c+1)+2) ?_
   refine BD 1 g ?_
   refine el (j':=1) rfl ?_
   obtain ⟨_,⟨ac,rfl,bZ,c6⟩,bb⟩:=ih q H j C ((E.Ac b2).length:Int) (((c+1)+2)+1) u (E.Ac b2) ‹_› rfl kn
   refine ch bb ?_
   refine bu ac ?_
   exact Aj ⟨[(ac+1)],[],[],[]⟩ (⟨_,rfl,kn,kn⟩)
  refine eq (o-10) 6 (fun bL=>?_) fun bL=>?_
  ·refine bu (c+1) ?_
   refine bu ((c+1)+2) ?_
   refine BD 1 g ?_
   refine el (j':=1) rfl ?_
   obtain ⟨_,⟨ah,rfl,c5,cR⟩,bQ⟩:=ih q H j C ((E.Ac b2).length:Int) (((c+1)+2)+1) u (E.Ac b2) ‹_› rfl kn
   refine ch bQ ?_
   refine bu ah ?_
   exact Aj ⟨[(ah+1)],[],[],[]⟩ (⟨_,rfl,kn,kn⟩)
  refine eq (o-10) 7 (fun bp=>?_) fun bp=>?_
  ·refine bu (c+1) ?_
   refine bu ((c+1)+1) ?_
   refine BD 1 g ?_
   refine el (j':=1) rfl ?_
   obtain ⟨_,⟨ad,rfl,cj,cX⟩,bB⟩:=ih q H j C ((E.Ac b2).length:Int) (((c+1)+1)+1) u (E.Ac b2) ‹_› rfl kn
   refine ch bB ?_
   refine bu ad ?_
   exact Aj ⟨[(ad+1)],[],[],[]⟩ (⟨_,rfl,kn,kn⟩)
  refine eq (o-10) 8 (fun bU=>?_) fun bU=>?_
  ·refine bu (c+1) ?_
   refine bu ((c+1)+1) ?_
   refine BD 1 g ?_
   refine el (j':=1) rfl ?_
   obtain ⟨_,⟨aa,rfl,cC,cf⟩,bI⟩:=ih q H j C ((E.Ac b2).length:Int) (((c+1)+1)+1) u (E.Ac b2) ‹_› rfl kn
   refine ch bI ?_
   refine bu aa ?_
   exact Aj ⟨[(aa+1)],[],[],[]⟩ (⟨_,rfl,kn,kn⟩)
  refine eq (o-10) 9 (fun aZ=>?_) fun aZ=>?_
  ·refine bu (c+1) ?_
   refine bu ((c+1)+1) ?_
   refine BD 1 g ?_
   refine el (j':=1) rfl ?_
   obtain ⟨_,⟨al,rfl,b8,b9⟩,bO⟩:=ih q H j C ((E.Ac b2).length:Int) (((c+1)+1)+1) u (E.Ac b2) ‹_› rfl kn
   refine ch bO ?_
   refine bu al ?_
   exact Aj ⟨[(al+1)],[],[],[]⟩ (⟨_,rfl,kn,kn⟩)
  refine eq (o-10) 10 (fun bT=>?_) fun bT=>?_
  ·refine bu (c+1) ?_
   refine bu ((c+1)+2) ?_
   refine BD 1 g ?_
   refine el (j':=1) rfl ?_
   obtain ⟨_,⟨ap,rfl,cx,cd⟩,bn⟩:=ih q H j C ((E.Ac b2).length:Int) (((c+1)+2)+1) u (E.Ac b2) ‹_› rfl kn
   refine ch bn ?_
   refine bu ap ?_
   exact Aj ⟨[(ap+1)],[],[],[]⟩ (⟨_,rfl,kn,kn⟩)
  refine eq (o-10) 11 (fun bx=>?_) fun bx=>?_
  ·refine bu (c+1) ?_
   refine bu ((c+1)+2) ?_
   refine BD 1 g ?_
   refine el (j':=1) rfl ?_
   obtain ⟨_,⟨ab,rfl,cZ,cJ⟩,be⟩:=ih q H j C ((E.Ac b2).length:Int) (((c+1)+2)+1) u (E.Ac b2) ‹_› rfl kn
   refine ch be ?_
   refine bu ab ?_
   exact Aj ⟨[(ab+1)],[],[],[]⟩ (⟨_,rfl,kn,kn⟩)
  refine AT (o-10) 12 ?_
  refine AT (o-10) 13 ?_
  refine eq (o-10) 14 (fun a6=>?_) fun a6=>?_
  ·refine bu (c+1) ?_
   refine bu ((c+1)+2) ?_
   refine BD 1 g ?_
   refine el (j':=1) rfl ?_
   obtain ⟨_,⟨ao,rfl,cv,cr⟩,bo⟩:=ih q H j C ((E.Ac b2).length:Int) (((c+1)+2)+1) u (E.Ac b2) ‹_› rfl kn
   refine ch bo ?_
   refine bu ao ?_
   exact Aj ⟨[(ao+1)],[],[],[]⟩ (⟨_,rfl,kn,kn⟩)
  refine eq (o-10) 15 (fun a0=>?_) fun a0=>?_
  ·refine bu (c+1) ?_
   refine bu ((c+1)+2) ?_
   refine BD 1 g ?_
   refine el (j':=1) rfl ?_
   obtain ⟨_,⟨ak,rfl,cp,cI⟩,bi⟩:=ih q H j C ((E.Ac b2).length:Int) (((c+1)+2)+1) u (E.Ac b2) ‹_› rfl kn
   refine ch bi ?_
   refine bu ak ?_
   exact Aj ⟨[(ak+1)],[],[],[]⟩ (⟨_,rfl,kn,kn⟩)
  refine eq (o-10) 16 (fun bK=>?_) fun bK=>?_
  ·refine bu (c+1) ?_
   refine bu ((c+1)+1) ?_
   refine BD 1 g ?_
   refine el (j':=1) rfl ?_
   obtain ⟨_,⟨ae,rfl,cq,cw⟩,a7⟩:=ih q H j C ((E.Ac b2).length:Int) (((c+1)+1)+1) u (E.Ac b2) ‹_› rfl kn
   refine ch a7 ?_
   refine bu ae ?_
   exact Aj ⟨[(ae+1)],[],[],[]⟩ (⟨_,rfl,kn,kn⟩)
  refine eq (o-10) 17 (fun bl=>?_) fun bl=>?_
  ·refine bu (c+1) ?_
   refine bu ((c+1)+2) ?_
   refine BD 1 g ?_
   refine el (j':=1) rfl ?_
   obtain ⟨_,⟨am,rfl,cU,cE⟩,bH⟩:=ih q H j C ((E.Ac b2).length:Int) (((c+1)+2)+1) u (E.Ac b2) ‹_› rfl kn
   refine ch bH ?_
   refine bu am ?_
   exact Aj ⟨[(am+1)],[],[],[]⟩ (⟨_,rfl,kn,kn⟩)
  refine eq (o-10) 18 (fun bF=>?_) fun bF=>?_
  ·refine bu (c+1) ?_
   refine bu ((c+1)+1) ?_
   refine BD 1 g ?_
   refine el (j':=1) rfl ?_
   obtain ⟨_,⟨ay,rfl,cH,b0⟩,a4⟩:=ih q H j C ((E.Ac b2).length:Int) (((c+1)+1)+1) u (E.Ac b2) ‹_› rfl kn
   refine ch a4 ?_
   refine bu ay ?_
   exact Aj ⟨[(ay+1)],[],[],[]⟩ (⟨_,rfl,kn,kn⟩)
  refine BL (o-10) 19 ?_
  refine bu (c+1) ?_
  refine bu ((c+1)+2) ?_
  refine BD 1 g ?_
  refine el (j':=1) rfl ?_
  obtain ⟨_,⟨ax,rfl,cz,cQ⟩,bX⟩:=ih q H j C ((E.Ac b2).length:Int) (((c+1)+2)+1) u (E.Ac b2) ‹_› rfl kn
  refine ch bX ?_
  refine bu ax ?_
  exact Aj ⟨[(ax+1)],[],[],[]⟩ (⟨_,rfl,kn,kn⟩)
 ·obtain ⟨rfl,rfl,rfl,rfl,rfl,O,P,J,M,N,D,q,H,j,C,u,b2,k3,o3,t3,v3,s3,b3,rfl,h1,h2,h3⟩:=hv;simp only [lC,lN]at U;have Z:=n3 (x:=.node O P J M N D) (y:=.node q H j C u b2) (z:=.node k3 o3 t3 v3 s3 b3);have e4:=g3 (x:=.node O P J M N D) (y:=.node q H j C u b2) (z:=.node k3 o3 t3 v3 s3 b3);have Q:TL Γ [.node O P J M N D,.node q H j C u b2,.node k3 o3 t3 v3 s3 b3]:=R.args
  refine .of (t:=GW) rfl ?_
  unfold GW
  refine AT 6 1 ?_
  refine AT 6 2 ?_
  refine AT 6 3 ?_
  refine AT 6 4 ?_
  refine AT 6 5 ?_
  refine BL 6 6 ?_
  refine Cc g 3 ?_
  refine Cc 0 0 ?_
  refine Cc 0 0 ?_
  refine seY [] [] ?_
  refine BL g 3 ?_
  refine bu d ?_
  refine BD 0 g ?_
  refine el (j':=0) rfl ?_
  refine Cc 0 0 ?_
  obtain ⟨_,⟨af,rfl,c2,c1⟩,bC⟩:=ih O P J M ((E.Ac D).length:Int) (d+1) N (E.Ac D) ‹_› rfl kn
  refine ch bC ?_
  refine bu af ?_
  refine BD 1 g ?_
  refine el (j':=1) rfl ?_
  obtain ⟨_,⟨aj,rfl,cg,cV⟩,bv⟩:=ih q H j C ((E.Ac b2).length:Int) (af+3) u (E.Ac b2) ‹_› rfl kn
  refine ch bv ?_
  refine bu aj ?_
  refine BD 2 g ?_
  refine el (j':=2) rfl ?_
  obtain ⟨_,⟨ag,rfl,cD,ci⟩,bV⟩:=ih k3 o3 t3 v3 ((E.Ac b3).length:Int) (aj+3) s3 (E.Ac b3) ‹_› rfl kn
  refine ch bV ?_
  refine bu ag ?_
  exact Aj ⟨[(ag+1)],[],[],[]⟩ (⟨_,rfl,kn,kn⟩)
 ·obtain ⟨rfl,rfl,rfl,rfl,hs,O,P,J,M,N,D,ii,rfl,r1,r2,hg,h1⟩:=hv;simp only [lC,lN]at U;have Z:=n1 (x:=.node O P J M N D);have e4:=g1 (x:=.node O P J M N D);have Q:TL Γ [.node O P J M N D]:=R.args;have aP:=Nm.len (s:=s) ‹_›
  refine .of (t:=GW) rfl ?_
  unfold GW
  refine AT 7 1 ?_
  refine AT 7 2 ?_
  refine AT 7 3 ?_
  refine AT 7 4 ?_
  refine AT 7 5 ?_
  refine AT 7 6 ?_
  refine BL 7 7 ?_
  obtain ⟨_,rfl,bq⟩:=FQ s (by first|assumption|decide)
  refine ch bq ?_
  refine sl s ?_
  refine bu d ?_
  refine Cc g 1 ?_
  refine Cc 0 0 ?_
  refine Cc 0 0 ?_
  refine BL g 1 ?_
  refine BD 0 g ?_
  refine el (j':=0) rfl ?_
  refine bu (d+64) ?_
  refine Cc 0 0 ?_
  obtain ⟨_,⟨au,rfl,ce,c7⟩,bd⟩:=ih O P J M ((E.Ac D).length:Int) ((d+64)+1) N (E.Ac D) ‹_› rfl kn
  refine ch bd ?_
  refine bu au ?_
  exact Aj ⟨[(au+1)],[],[],[]⟩ (⟨_,rfl,kn,kn⟩)
 ·obtain ⟨rfl,rfl,rfl,rfl,rfl,O,P,J,M,N,D,q,H,j,C,u,b2,ii,rfl,rfl,hg,h1,h2⟩:=hv;simp only [lC,lN]at U;have Z:=n2 (x:=.node O P J M N D) (y:=.node q H j C u b2);have e4:=g2 (x:=.node O P J M N D) (y:=.node q H j C u b2);have Q:TL Γ [.node O P J M N D,.node q H j C u b2]:=R.args;have aP:=Nm.len (s:=[104]) (by decide)
  refine .of (t:=GW) rfl ?_
  unfold GW
  refine AT 8 1 ?_
  refine AT 8 2 ?_
  refine AT 8 3 ?_
  refine AT 8 4 ?_
  refine AT 8 5 ?_
  refine AT 8 6 ?_
  refine AT 8 7 ?_
  refine BL 8 8 ?_
  refine Cc g g ?_
  refine Cc 0 0 ?_
  refine Cc 0 0 ?_
  refine Cc 0 0 ?_
  obtain ⟨_,rfl,bz⟩:=FQ [104] (by first|assumption|decide)
  refine ch bz ?_
  refine sl [104] ?_
  refine bu d ?_
  obtain ⟨_,⟨aN,rfl,cy,ck⟩,bW⟩:=Ji @ih g (d+64) (E.Ac [.node O P J M N D,.node q H j C u b2]) Q rfl
  refine ch bW ?_
  exact Aj ⟨[aN],[],[],[]⟩ (⟨_,rfl,kn,kn⟩)
theorem EE:Ajm 97:=fun {Γ} {t} {a} k o ty v ln sz s A hT hA h=>Ak2 ((E.node k o ty v s a).high+1) k o ty v ln sz s A hT hA ⟨h.1,h.2.1,h.2.2,Nat.lt_succ_self _⟩
end Go.Proofs.YtbmofjdmgjpfoaaGreatDoor.Am
end
section
set_option maxHeartbeats 4000000
set_option maxRecDepth 100000
namespace Go.Proofs.YtbmofjdmgjpfoaaGreatDoor.Am
open Go.AM Go.AM.K
def Amf (N:Nat):Prop:=∀(k o:Int) (t b:Int) (H M:Int) (y C:Int) (z yk:Int) (u q:Int) (v j:Int) (c d A:Int) (nm x g:List Nat) (X Y:Rs) (D O:Rs) (P:g=[]) (h:o=0∧b=0∧yk=0∧u=0∧q=0∧v=0∧j=0∧c=0∧d=0:=by exact kn),Ok trees N ⟨[k,o,t,b,H,M,y,C,z,yk,u,q,v,j,c,d,A],[nm,x,g],[X,Y,D,O],[]⟩ fun J=>(J=(0,v0))
theorem Alk:Amf 88:=by
 intro k o t b M N H J y yk u q v g c d z nm D j X Y A C x h
 refine .of (t:=AbI) rfl ?_
 unfold AbI
 refine Cq o 0 ?_
 refine Cq b 0 ?_
 refine Cq yk 0 ?_
 refine Cq u 0 ?_
 refine Cq q 0 ?_
 refine Xu j ?_
 refine Cq v 0 ?_
 refine Cq g 0 ?_
 refine Cq c 0 ?_
 refine Cq d 0 ?_
 exact Aj v0 (rfl)
def Ame (N:Nat):Prop:=∀(k o:Int) (t b:Int) (H M:Int) (y C:Int) (z yk:Int) (u q:Int) (v j:Int) (c d A:Int) (nm x g:List Nat) (X Y:Rs) (D O:Rs) (P:g=[]) (h:o=0∧t=0∧b=0∧yk=0∧u=0∧q=0∧v=0∧j=0∧c=0∧d=0:=by exact kn),Ok trees N ⟨[k,o,t,b,H,M,y,C,z,yk,u,q,v,j,c,d,A],[nm,x,g],[X,Y,D,O],[]⟩ fun J=>(J=(0,v0))
theorem Alj:Ame 89:=by
 intro k o t b M N H J y yk u q v g c d z nm D j X Y A C x h
 refine .of (t:=AbH) rfl ?_
 unfold AbH
 refine Cq o 0 ?_
 refine Cq t 0 ?_
 refine Cq b 0 ?_
 refine Cq yk 0 ?_
 refine Cq u 0 ?_
 refine Cq q 0 ?_
 refine Xu j ?_
 refine Cq v 0 ?_
 refine Cq g 0 ?_
 refine Cq c 0 ?_
 refine Cq d 0 ?_
 exact Aj v0 (rfl)
def Amd (N:Nat):Prop:=∀(k o:Int) (t b:Int) (C J:Int) (q x:Int) (u yk:Int) (D A:Int) (O y:Int) (c d v:Int) (nm j g:List Nat) (X Y:Rs) (z M:Rs) (h:o=0∧t=0∧b=0∧c=0∧d=0:=by exact kn),Ok trees N ⟨[k,o,t,b,C,J,q,x,u,yk,D,A,O,y,c,d,v],[nm,j,g],[X,Y,z,M],[]⟩ fun H=>(H=(0,v0))
theorem Ali:Amd 90:=by
 intro k o t b D J z A g yk H C M q c d j nm y x X Y u v h
 refine .of (t:=AbG) rfl ?_
 unfold AbG
 refine Cq o 0 ?_
 refine Cq t 0 ?_
 refine Cq b 0 ?_
 refine Cq c 0 ?_
 refine Cq d 0 ?_
 exact Aj v0 (rfl)
def Amc (N:Nat):Prop:=∀(k o:Int) (t b:Int) (H M:Int) (y C:Int) (z yk:Int) (u q:Int) (v j:Int) (c g A:Int) (nm x d:List Nat) (X Y:Rs) (D O:Rs) (P:nm=[]) (Q:d=[]) (h:o=0∧t=0∧b=0∧yk=0∧u=0∧q=0∧v=0∧j=0:=by exact kn),Ok trees N ⟨[k,o,t,b,H,M,y,C,z,yk,u,q,v,j,c,g,A],[nm,x,d],[X,Y,D,O],[]⟩ fun J=>(J=(0,v0))
theorem Alh:Amc 91:=by
 intro k o t b N O J M z yk j g q c u v A nm H d X Y C D x y h
 refine .of (t:=AbF) rfl ?_
 unfold AbF
 refine Cq o 0 ?_
 refine Cq t 0 ?_
 refine Cq b 0 ?_
 refine Xu nm ?_
 refine Cq yk 0 ?_
 refine Cq j 0 ?_
 refine Cq g 0 ?_
 refine Xu d ?_
 refine Cq q 0 ?_
 refine Cq c 0 ?_
 exact Aj v0 (rfl)
def Amb (N:Nat):Prop:=∀(k o:Int) (t b:Int) (H M:Int) (y C:Int) (z yk:Int) (u q:Int) (v j:Int) (d c A:Int) (nm x g:List Nat) (X Y:Rs) (D O:Rs) (P:nm=[]) (Q:g=[]) (h:o=0∧t=0∧yk=0∧u=0∧q=0∧v=0∧j=0∧c=0:=by exact kn),Ok trees N ⟨[k,o,t,b,H,M,y,C,z,yk,u,q,v,j,d,c,A],[nm,x,g],[X,Y,D,O],[]⟩ fun J=>(J=(0,v0))
theorem Alg:Amb 92:=by
 intro k o t b N O J M z yk q j u d v c A nm H g X Y C D x y h
 refine .of (t:=AbE) rfl ?_
 unfold AbE
 refine Cq o 0 ?_
 refine Cq t 0 ?_
 refine Xu nm ?_
 refine Cq yk 0 ?_
 refine Cq q 0 ?_
 refine Cq j 0 ?_
 refine Xu g ?_
 refine Cq u 0 ?_
 refine Cq d 0 ?_
 refine Cq c 0 ?_
 exact Aj v0 (rfl)
def Ama (N:Nat):Prop:=∀(k o:Int) (t b:Int) (z C:Int) (q v:Int) (u yk:Int) (A y:Int) (D x:Int) (c d H:Int) (nm j g:List Nat) (X Y:Rs) (J O:Rs) (P:nm=[]) (R:j=[]) (Q:g=[]) (h:o=0∧t=0∧b=0∧z=0∧C=0∧q=0∧v=0∧u=0∧yk=0∧A=0∧y=0∧D=0∧x=0∧c=0∧d=0:=by exact kn),Ok trees N ⟨[k,o,t,b,z,C,q,v,u,yk,A,y,D,x,c,d,H],[nm,j,g],[X,Y,J,O],[]⟩ fun M=>(M=(0,v0))
theorem Ada:Ama 93:=by
 intro k o t b z C v x g yk A y D j c d N nm u q X Y O P H M J h
 refine .of (t:=AbD) rfl ?_
 unfold AbD
 refine Cq o 0 ?_
 refine Cq t 0 ?_
 refine Cq b 0 ?_
 refine Xu nm ?_
 refine Cq z 0 ?_
 refine Cq C 0 ?_
 refine Cq v 0 ?_
 refine Xu u ?_
 refine Cq x 0 ?_
 refine Cq g 0 ?_
 refine Cq yk 0 ?_
 refine Cq A 0 ?_
 refine Cq y 0 ?_
 refine Xu q ?_
 refine Cq D 0 ?_
 refine Cq j 0 ?_
 refine Cq c 0 ?_
 refine Cq d 0 ?_
 exact Aj v0 (rfl)
def AlZ (N:Nat):Prop:=∀(k o:Int) (t b:Int) (z C:Int) (q v:Int) (u yk:Int) (A y:Int) (D x:Int) (c d H:Int) (nm j g:List Nat) (X Y:Rs) (J O:Rs) (P:nm=[]) (R:j=[]) (Q:g=[]) (h:t=0∧b=0∧z=0∧C=0∧q=0∧v=0∧u=0∧yk=0∧A=0∧y=0∧D=0∧x=0∧c=0∧d=0:=by exact kn),Ok trees N ⟨[k,o,t,b,z,C,q,v,u,yk,A,y,D,x,c,d,H],[nm,j,g],[X,Y,J,O],[]⟩ fun M=>(M=(0,v0))
theorem Alf:AlZ 94:=by
 intro k o t b z C v x g yk A y D j c d N nm u q X Y O P H M J h
 refine .of (t:=AbC) rfl ?_
 unfold AbC
 refine Cq t 0 ?_
 refine Cq b 0 ?_
 refine Xu nm ?_
 refine Cq z 0 ?_
 refine Cq C 0 ?_
 refine Cq v 0 ?_
 refine Xu u ?_
 refine Cq x 0 ?_
 refine Cq g 0 ?_
 refine Cq yk 0 ?_
 refine Cq A 0 ?_
 refine Cq y 0 ?_
 refine Xu q ?_
 refine Cq D 0 ?_
 refine Cq j 0 ?_
 refine Cq c 0 ?_
 refine Cq d 0 ?_
 exact Aj v0 (rfl)
def AlY (N:Nat):Prop:=∀(k o:Int) (t b:Int) (C J:Int) (q x:Int) (u yk:Int) (D A:Int) (O y:Int) (c d v:Int) (nm j g:List Nat) (X Y:Rs) (z M:Rs) (h:t=0∧b=0∧c=0∧d=0:=by exact kn),Ok trees N ⟨[k,o,t,b,C,J,q,x,u,yk,D,A,O,y,c,d,v],[nm,j,g],[X,Y,z,M],[]⟩ fun H=>(H=(0,v0))
theorem Ai1:AlY 95:=by
 intro k o t b D J z A g yk H C M q c d j nm y x X Y u v h
 refine .of (t:=AbB) rfl ?_
 unfold AbB
 refine Cq t 0 ?_
 refine Cq b 0 ?_
 refine Cq c 0 ?_
 refine Cq d 0 ?_
 exact Aj v0 (rfl)
def AlX (N:Nat):Prop:=∀(k o:Int) (t b:Int) (H M:Int) (y C:Int) (z yk:Int) (u q:Int) (v j:Int) (c d A:Int) (nm x g:List Nat) (X Y:Rs) (D O:Rs) (P:g=[]) (h:t=0∧b=0∧yk=0∧u=0∧q=0∧v=0∧j=0∧c=0∧d=0:=by exact kn),Ok trees N ⟨[k,o,t,b,H,M,y,C,z,yk,u,q,v,j,c,d,A],[nm,x,g],[X,Y,D,O],[]⟩ fun J=>(J=(0,v0))
theorem Ale:AlX 96:=by
 intro k o t b M N H J y yk u q v g c d z nm D j X Y A C x h
 refine .of (t:=AbA) rfl ?_
 unfold AbA
 refine Cq t 0 ?_
 refine Cq b 0 ?_
 refine Cq yk 0 ?_
 refine Cq u 0 ?_
 refine Cq q 0 ?_
 refine Xu j ?_
 refine Cq v 0 ?_
 refine Cq g 0 ?_
 refine Cq c 0 ?_
 refine Cq d 0 ?_
 exact Aj v0 (rfl)
end Go.Proofs.YtbmofjdmgjpfoaaGreatDoor.Am
end
section
set_option maxHeartbeats 4000000
set_option maxRecDepth 100000
namespace Go.Proofs.YtbmofjdmgjpfoaaGreatDoor.Am
open Go.AM Go.AM.K
def Rq (N n:Nat):Prop:=∀{o q:Int} {Γ k:Ctx} {l:List S} (j d:Int) (g:List Nat) (L:Rs) (x:CE o q Γ l k) (v:L=S.Ac l) (h:j=L.length∧j≤200000∧0≤d∧d+400*S.Ag l≤999680∧g.length+2*(S.A4 l+1)≤62∧S.A4 l<n),Ok trees N ⟨[j,d],[g],[L],[]⟩ fun u=>(∃(c:Int),u=(0,(⟨[c],[],[],[]⟩:Ah))∧(c≤d+67+400*S.Ag l)∧(d≤c))
def Ajn (N:Nat):Prop:=∀{o q:Int} {Γ k:Ctx} {l:List S} (j d:Int) (g:List Nat) (L:Rs) (x:CE o q Γ l k) (v:L=S.Ac l) (h:j=L.length∧j≤200000∧0≤d∧d+400*S.Ag l≤999680∧g.length+2*(S.A4 l+1)≤62:=by exact kn),Ok trees N ⟨[j,d],[g],[L],[]⟩ fun u=>(∃(c:Int),u=(0,(⟨[c],[],[],[]⟩:Ah))∧(c≤d+67+400*S.Ag l)∧(d≤c))
theorem Rq.of {N n:Nat} (H:Ajn N):Rq N n:=fun {lp} {pu} {Γ} {Γe} {l} ln sz ind L hO hLs h=>H ln sz ind L hO hLs (by have:=h;omega)
def Amg (Z N:Nat):Prop:=∀{m:Nat} (ac:Rq Z m) {lp pu:Int} {Γ Γ1:Ctx} {H q:List E} {c el:List S} (k o:Int) (t b:Int) (A D:Int) (x y:Int) (R yk:Int) (C z:Int) (J U:Int) (M O d:Int) (nm v:List Nat) (u j:List Nat) (X Y:Rs) (P Q:Rs) (hS:DP lp pu Γ (.node k o t b nm (.node A D x y v H) (.node yk C z J u q) c el) Γ1) (hX:X=E.Ac H) (hY:Y=E.Ac q) (hB:P=S.Ac c) (hE:Q=S.Ac el) (h:R=X.length∧U=Y.length∧M=P.length∧O=Q.length∧0≤d∧d+400*(1+(E.node A D x y v H).nodes+(E.node yk C z J u q).nodes+S.Ag c+S.Ag el)≤1000000∧j.length+2*(S.A4 c+1)≤62∧j.length+2*(S.A4 el+1)≤62∧S.A4 c<m∧S.A4 el<m:=by exact kn),Ok trees N ⟨[k,o,t,b,A,D,x,y,R,yk,C,z,J,U,M,O,d],[nm,v,u,j],[X,Y,P,Q],[]⟩ fun zz=>(∃(g:Int),zz=(0,(⟨[g],[],[],[]⟩:Ah))∧(g+66≤d+400*(1+(E.node A D x y v H).nodes+(E.node yk C z J u q).nodes+S.Ag c+S.Ag el))∧(d≤g))
theorem All:Amg 84 87:=by
 intro m ai lp pu Γ Γ1 g Q bo el k o t b A C H z q yk Z yt U v J M c nm D yn aq X Y Bo El hS hX hY hB hE h
 subst hX;subst hY;subst hB;subst hE;have dK:=S.len bo;have dM:=S.len el;have dI:=S.A7 bo;have dN:=S.A7 el;have P:=h;simp only [E.A7,S.A7]at P
 rcases hS.inv with hv|hv|hv|hv|hv|hv|⟨rfl|rfl,hv⟩|⟨rfl|rfl,hv⟩|hv|hv|hv
 ·obtain ⟨rfl,rfl,rfl,j,rfl,rfl,O,hg,r1,r2,R,_,rfl⟩:=hv;obtain ⟨rfl,rfl,rfl,rfl,rfl,rfl⟩:=j;have ez:(E.node 0 0 0 0 [] []).nodes=0:=rfl;have es:S.Ag []=0:=rfl;have ah:=O.len;simp only [lN]at P
  refine .of (t:=Ej) rfl ?_
  unfold Ej
  refine BL 1 1 ?_
  obtain ⟨_,rfl,G1⟩:=Alk 1 0 t 0 A C H z q 0 0 0 0 v J M c nm D [] (E.Ac g) (E.Ac []) (S.Ac []) (S.Ac []) rfl
  refine ch G1 ?_
  refine bu c ?_
  obtain ⟨_,rfl,G2⟩:=FQ nm O
  refine ch G2 ?_
  refine sl nm ?_
  refine bu (c+4) ?_
  refine bu ((c+4)+64) ?_
  refine En (t-1) 0 ?_
  refine IZ (t-1) 3 ?_
  refine eq (t-1) 0 (fun t3=>?_) fun t3=>?_
  ·refine bu (((c+4)+64)+1) ?_
   refine bu ((((c+4)+64)+1)+3) ?_
   obtain ⟨_,⟨aR,rfl,dp,dC⟩,G4⟩:=EE A C H z q (((((c+4)+64)+1)+3)+3) D (E.Ac g) ‹_› rfl
   refine ch G4 ?_
   exact Aj ⟨[aR],[],[],[]⟩ (⟨_,rfl,kn,kn⟩)
  refine eq (t-1) 1 (fun t5=>?_) fun t5=>?_
  ·refine bu (((c+4)+64)+1) ?_
   refine bu ((((c+4)+64)+1)+3) ?_
   obtain ⟨_,⟨aP,rfl,dE,dk⟩,G6⟩:=EE A C H z q (((((c+4)+64)+1)+3)+3) D (E.Ac g) ‹_› rfl
   refine ch G6 ?_
   exact Aj ⟨[aP],[],[],[]⟩ (⟨_,rfl,kn,kn⟩)
  refine BL (t-1) 2 ?_
  refine bu (((c+4)+64)+1) ?_
  refine bu ((((c+4)+64)+1)+4) ?_
  obtain ⟨_,⟨aQ,rfl,dl,dA⟩,G7⟩:=EE A C H z q (((((c+4)+64)+1)+4)+3) D (E.Ac g) ‹_› rfl
  refine ch G7 ?_
  exact Aj ⟨[aQ],[],[],[]⟩ (⟨_,rfl,kn,kn⟩)
 ·obtain ⟨rfl,rfl,rfl,rfl,j,rfl,rfl,O,rfl,u,i,hg,R,_⟩:=hv;obtain ⟨rfl,rfl,rfl,rfl,rfl,rfl⟩:=j;have ez:(E.node 0 0 0 0 [] []).nodes=0:=rfl;have es:S.Ag []=0:=rfl;have ah:=O.len;simp only [lN]at P
  refine .of (t:=Ej) rfl ?_
  unfold Ej
  refine AT 2 1 ?_
  refine BL 2 2 ?_
  obtain ⟨_,rfl,G8⟩:=Alj 2 0 0 0 A C H z q 0 0 0 0 v J M c nm D [] (E.Ac g) (E.Ac []) (S.Ac []) (S.Ac []) rfl
  refine ch G8 ?_
  obtain ⟨_,rfl,G9⟩:=FQ nm O
  refine ch G9 ?_
  refine sl nm ?_
  refine bu c ?_
  refine bu (c+64) ?_
  obtain ⟨_,⟨aD,rfl,cx,cN⟩,bq⟩:=EE A C H z q ((c+64)+3) D (E.Ac g) ‹_› rfl
  refine ch bq ?_
  exact Aj ⟨[aD],[],[],[]⟩ (⟨_,rfl,kn,kn⟩)
 ·obtain ⟨rfl,rfl,rfl,rfl,rfl,rfl,am,O,rfl,u,i,_,_,hg,R,hy,_,_⟩:=hv;have ez:(E.node 0 0 0 0 [] []).nodes=0:=rfl;have es:S.Ag []=0:=rfl;have ah:=O.len;simp only [lN]at P
  refine .of (t:=Ej) rfl ?_
  unfold Ej
  refine AT 3 1 ?_
  refine AT 3 2 ?_
  refine BL 3 3 ?_
  obtain ⟨_,rfl,bv⟩:=Ali 3 0 0 0 A C H z q yk Z yt U v J M c nm D yn (E.Ac g) (E.Ac Q) (S.Ac []) (S.Ac [])
  refine ch bv ?_
  obtain ⟨_,rfl,a9⟩:=FQ nm O
  refine ch a9 ?_
  refine sl nm ?_
  refine bu c ?_
  refine bu (c+64) ?_
  obtain ⟨_,⟨af,rfl,c3,cS⟩,bQ⟩:=EE A C H z q ((c+64)+1) D (E.Ac g) ‹_› rfl
  refine ch bQ ?_
  refine bu af ?_
  refine bu (af+1) ?_
  obtain ⟨_,⟨aE,rfl,c7,cJ⟩,bH⟩:=EE yk Z yt U v ((af+1)+3) yn (E.Ac Q) ‹_› rfl
  refine ch bH ?_
  exact Aj ⟨[aE],[],[],[]⟩ (⟨_,rfl,kn,kn⟩)
 ·obtain ⟨rfl,rfl,rfl,rfl,rfl,am,O,rfl,i,hi,hg,ho,R,hy,_,_⟩:=hv;have ez:(E.node 0 0 0 0 [] []).nodes=0:=rfl;have es:S.Ag []=0:=rfl;have ah:=O.len;simp only [lN]at P
  refine .of (t:=Ej) rfl ?_
  unfold Ej
  refine AT 4 1 ?_
  refine AT 4 2 ?_
  refine AT 4 3 ?_
  refine AT 4 5 ?_
  refine AT 4 6 ?_
  refine AT 4 7 ?_
  refine AT 4 8 ?_
  refine AT 4 9 ?_
  refine AT 4 10 ?_
  refine AT 4 11 ?_
  refine BL 4 4 ?_
  obtain ⟨_,rfl,cf⟩:=Ai1 4 o 0 0 A C H z q yk Z yt U v J M c nm D yn (E.Ac g) (E.Ac Q) (S.Ac []) (S.Ac [])
  refine ch cf ?_
  refine bu c ?_
  obtain ⟨_,rfl,a0⟩:=FQ nm O
  refine ch a0 ?_
  refine sl nm ?_
  refine bu (c+7) ?_
  refine bu ((c+7)+64) ?_
  obtain ⟨_,⟨d,rfl,cG,c4⟩,a2⟩:=EE A C H z q (((c+7)+64)+1) D (E.Ac g) ‹_› rfl
  refine ch a2 ?_
  refine bu d ?_
  refine bu (d+1) ?_
  refine eq o 10 (fun b3=>?_) fun b3=>?_
  ·refine bu ((d+1)+1) ?_
   refine bu (((d+1)+1)+3) ?_
   obtain ⟨_,⟨aF,rfl,c8,cV⟩,a4⟩:=EE yk Z yt U v ((((d+1)+1)+3)+1) yn (E.Ac Q) ‹_› rfl
   refine ch a4 ?_
   exact Aj ⟨[aF],[],[],[]⟩ (⟨_,rfl,kn,kn⟩)
  refine eq o 22 (fun bJ=>?_) fun bJ=>?_
  ·refine bu ((d+1)+1) ?_
   refine bu (((d+1)+1)+3) ?_
   obtain ⟨_,⟨aC,rfl,cM,c6⟩,bl⟩:=EE yk Z yt U v ((((d+1)+1)+3)+1) yn (E.Ac Q) ‹_› rfl
   refine ch bl ?_
   exact Aj ⟨[aC],[],[],[]⟩ (⟨_,rfl,kn,kn⟩)
  refine eq o 23 (fun bn=>?_) fun bn=>?_
  ·refine bu ((d+1)+1) ?_
   refine bu (((d+1)+1)+3) ?_
   obtain ⟨_,⟨az,rfl,cC,cv⟩,bD⟩:=EE yk Z yt U v ((((d+1)+1)+3)+1) yn (E.Ac Q) ‹_› rfl
   refine ch bD ?_
   exact Aj ⟨[az],[],[],[]⟩ (⟨_,rfl,kn,kn⟩)
  refine eq o 17 (fun bi=>?_) fun bi=>?_
  ·refine bu ((d+1)+1) ?_
   refine bu (((d+1)+1)+3) ?_
   obtain ⟨_,⟨aL,rfl,cY,cw⟩,bM⟩:=EE yk Z yt U v ((((d+1)+1)+3)+1) yn (E.Ac Q) ‹_› rfl
   refine ch bM ?_
   exact Aj ⟨[aL],[],[],[]⟩ (⟨_,rfl,kn,kn⟩)
  refine eq o 18 (fun br=>?_) fun br=>?_
  ·refine bu ((d+1)+1) ?_
   refine bu (((d+1)+1)+2) ?_
   obtain ⟨_,⟨aH,rfl,cH,cZ⟩,bw⟩:=EE yk Z yt U v ((((d+1)+1)+2)+1) yn (E.Ac Q) ‹_› rfl
   refine ch bw ?_
   exact Aj ⟨[aH],[],[],[]⟩ (⟨_,rfl,kn,kn⟩)
  refine BL o 19 ?_
  refine bu ((d+1)+1) ?_
  refine bu (((d+1)+1)+3) ?_
  obtain ⟨_,⟨aG,rfl,dc,db⟩,bx⟩:=EE yk Z yt U v ((((d+1)+1)+3)+1) yn (E.Ac Q) ‹_› rfl
  refine ch bx ?_
  exact Aj ⟨[aG],[],[],[]⟩ (⟨_,rfl,kn,kn⟩)
 ·obtain ⟨rfl,rfl,rfl,rfl,rfl,j,R,_,rfl,Γa,Γb,bb,dJ⟩:=hv;obtain ⟨rfl,rfl,rfl,rfl,rfl,rfl⟩:=j;have ez:(E.node 0 0 0 0 [] []).nodes=0:=rfl;have es:S.Ag []=0:=rfl;simp only [lN]at P
  refine .of (t:=Ej) rfl ?_
  unfold Ej
  refine AT 5 1 ?_
  refine AT 5 2 ?_
  refine AT 5 3 ?_
  refine BL 5 5 ?_
  obtain ⟨_,rfl,a7⟩:=Alh 5 0 0 0 A C H z q 0 0 0 0 v J M c [] D [] (E.Ac g) (E.Ac []) (S.Ac bo) (S.Ac el) rfl rfl
  refine ch a7 ?_
  refine bu c ?_
  obtain ⟨_,⟨aj,rfl,cE,cW⟩,cg⟩:=EE A C H z q (c+3) D (E.Ac g) ‹_› rfl
  refine ch cg ?_
  refine bu aj ?_
  obtain ⟨_,⟨ag,rfl,cu,c9⟩,cd⟩:=ai J (aj+1) aq (S.Ac bo) ‹_› rfl kn
  refine ch cd ?_
  refine gt M 0 (fun a5=>?_) fun a5=>?_
  ·refine bu ag ?_
   obtain ⟨_,⟨aJ,rfl,cU,c1⟩,a8⟩:=ai M (ag+6) aq (S.Ac el) ‹_› rfl kn
   refine ch a8 ?_
   exact Aj ⟨[aJ],[],[],[]⟩ (⟨_,rfl,kn,kn⟩)
  exact Aj ⟨[ag],[],[],[]⟩ (⟨_,rfl,kn,kn⟩)
 ·obtain ⟨rfl,rfl,rfl,rfl,j,rfl,R,_,b1,b2,rfl,Γa,bb⟩:=hv;obtain ⟨rfl,rfl,rfl,rfl,rfl,rfl⟩:=j;have ez:(E.node 0 0 0 0 [] []).nodes=0:=rfl;have es:S.Ag []=0:=rfl;simp only [lN]at P
  refine .of (t:=Ej) rfl ?_
  unfold Ej
  refine AT 6 1 ?_
  refine AT 6 2 ?_
  refine AT 6 3 ?_
  refine AT 6 5 ?_
  refine BL 6 6 ?_
  obtain ⟨_,rfl,bf⟩:=Alg 6 0 0 b A C H z q 0 0 0 0 v J M c [] D [] (E.Ac g) (E.Ac []) (S.Ac bo) (S.Ac []) rfl rfl
  refine ch bf ?_
  refine bu c ?_
  obtain ⟨_,⟨ae,rfl,cK,ct⟩,bG⟩:=EE A C H z q (c+6) D (E.Ac g) ‹_› rfl
  refine ch bG ?_
  refine CX b (-9223372036854775808) ?_
  refine F8 b 9223372036854775807 ?_
  refine bu ae ?_
  refine bu (ae+6) ?_
  refine bu ((ae+6)+21) ?_
  obtain ⟨_,⟨aA,rfl,cO,cy⟩,bT⟩:=ai J (((ae+6)+21)+1) aq (S.Ac bo) ‹_› rfl kn
  refine ch bT ?_
  exact Aj ⟨[aA],[],[],[]⟩ (⟨_,rfl,kn,kn⟩)
 ·obtain ⟨rfl,rfl,rfl,rfl,N,j,rfl,rfl,_,rfl⟩:=hv;obtain ⟨rfl,rfl,rfl,rfl,rfl,rfl⟩:=j;obtain ⟨rfl,rfl,rfl,rfl,rfl,rfl⟩:=N;have ez:(E.node 0 0 0 0 [] []).nodes=0:=rfl;have es:S.Ag []=0:=rfl;simp only [lN]at P
  refine .of (t:=Ej) rfl ?_
  unfold Ej
  refine AT 7 1 ?_
  refine AT 7 2 ?_
  refine AT 7 3 ?_
  refine AT 7 5 ?_
  refine AT 7 6 ?_
  refine BL 7 7 ?_
  obtain ⟨_,rfl,be⟩:=Ada 7 0 0 0 0 0 0 0 q 0 0 0 0 v J M c [] [] [] (E.Ac []) (E.Ac []) (S.Ac []) (S.Ac []) rfl rfl rfl
  refine ch be ?_
  refine En (7-7) 0 ?_
  refine IZ (7-7) 4 ?_
  refine BL (7-7) 0 ?_
  refine bu c ?_
  exact Aj ⟨[(c+5)],[],[],[]⟩ (⟨_,rfl,kn,kn⟩)
 ·obtain ⟨rfl,rfl,rfl,rfl,N,j,rfl,rfl,_,rfl⟩:=hv;obtain ⟨rfl,rfl,rfl,rfl,rfl,rfl⟩:=j;obtain ⟨rfl,rfl,rfl,rfl,rfl,rfl⟩:=N;have ez:(E.node 0 0 0 0 [] []).nodes=0:=rfl;have es:S.Ag []=0:=rfl;simp only [lN]at P
  refine .of (t:=Ej) rfl ?_
  unfold Ej
  refine AT 8 1 ?_
  refine AT 8 2 ?_
  refine AT 8 3 ?_
  refine AT 8 5 ?_
  refine AT 8 6 ?_
  refine AT 8 7 ?_
  refine BL 8 8 ?_
  obtain ⟨_,rfl,a3⟩:=Ada 8 0 0 0 0 0 0 0 q 0 0 0 0 v J M c [] [] [] (E.Ac []) (E.Ac []) (S.Ac []) (S.Ac []) rfl rfl rfl
  refine ch a3 ?_
  refine En (8-7) 0 ?_
  refine IZ (8-7) 4 ?_
  refine AT (8-7) 0 ?_
  refine BL (8-7) 1 ?_
  refine bu c ?_
  exact Aj ⟨[(c+8)],[],[],[]⟩ (⟨_,rfl,kn,kn⟩)
 ·obtain ⟨rfl,rfl,rfl,rfl,N,j,rfl,rfl,_,rfl⟩:=hv;obtain ⟨rfl,rfl,rfl,rfl,rfl,rfl⟩:=j;obtain ⟨rfl,rfl,rfl,rfl,rfl,rfl⟩:=N;have ez:(E.node 0 0 0 0 [] []).nodes=0:=rfl;have es:S.Ag []=0:=rfl;simp only [lN]at P
  refine .of (t:=Ej) rfl ?_
  unfold Ej
  refine AT 9 1 ?_
  refine AT 9 2 ?_
  refine AT 9 3 ?_
  refine AT 9 5 ?_
  refine AT 9 6 ?_
  refine AT 9 7 ?_
  refine AT 9 8 ?_
  refine BL 9 9 ?_
  obtain ⟨_,rfl,cc⟩:=Ada 9 0 0 0 0 0 0 0 q 0 0 0 0 v J M c [] [] [] (E.Ac []) (E.Ac []) (S.Ac []) (S.Ac []) rfl rfl rfl
  refine ch cc ?_
  refine En (9-7) 0 ?_
  refine IZ (9-7) 4 ?_
  refine AT (9-7) 0 ?_
  refine AT (9-7) 1 ?_
  refine BL (9-7) 2 ?_
  refine bu c ?_
  exact Aj ⟨[(c+6)],[],[],[]⟩ (⟨_,rfl,kn,kn⟩)
 ·obtain ⟨rfl,rfl,rfl,rfl,N,j,rfl,rfl,_,rfl⟩:=hv;obtain ⟨rfl,rfl,rfl,rfl,rfl,rfl⟩:=j;obtain ⟨rfl,rfl,rfl,rfl,rfl,rfl⟩:=N;have ez:(E.node 0 0 0 0 [] []).nodes=0:=rfl;have es:S.Ag []=0:=rfl;simp only [lN]at P
  refine .of (t:=Ej) rfl ?_
  unfold Ej
  refine AT 10 1 ?_
  refine AT 10 2 ?_
  refine AT 10 3 ?_
  refine AT 10 5 ?_
  refine AT 10 6 ?_
  refine AT 10 7 ?_
  refine AT 10 8 ?_
  refine AT 10 9 ?_
  refine BL 10 10 ?_
  obtain ⟨_,rfl,aY⟩:=Ada 10 0 0 0 0 0 0 0 q 0 0 0 0 v J M c [] [] [] (E.Ac []) (E.Ac []) (S.Ac []) (S.Ac []) rfl rfl rfl
  refine ch aY ?_
  refine En (10-7) 0 ?_
  refine IZ (10-7) 4 ?_
  refine AT (10-7) 0 ?_
  refine AT (10-7) 1 ?_
  refine AT (10-7) 2 ?_
  refine BL (10-7) 3 ?_
  refine bu c ?_
  exact Aj ⟨[(c+7)],[],[],[]⟩ (⟨_,rfl,kn,kn⟩)
 ·obtain ⟨rfl,ho,rfl,rfl,rfl,N,j,rfl,rfl,_,rfl⟩:=hv;obtain ⟨rfl,rfl,rfl,rfl,rfl,rfl⟩:=j;obtain ⟨rfl,rfl,rfl,rfl,rfl,rfl⟩:=N;have ez:(E.node 0 0 0 0 [] []).nodes=0:=rfl;have es:S.Ag []=0:=rfl;simp only [lN]at P
  refine .of (t:=Ej) rfl ?_
  unfold Ej
  refine AT 11 1 ?_
  refine AT 11 2 ?_
  refine AT 11 3 ?_
  refine AT 11 5 ?_
  refine AT 11 6 ?_
  refine AT 11 7 ?_
  refine AT 11 8 ?_
  refine AT 11 9 ?_
  refine AT 11 10 ?_
  refine BL 11 11 ?_
  obtain ⟨_,rfl,bP⟩:=Alf 11 o 0 0 0 0 0 0 q 0 0 0 0 v J M c [] [] [] (E.Ac []) (E.Ac []) (S.Ac []) (S.Ac []) rfl rfl rfl
  refine ch bP ?_
  refine bu c ?_
  refine En (o-1) 0 ?_
  refine IZ (o-1) 2 ?_
  refine eq (o-1) 0 (fun ck=>?_) fun ck=>?_
  ·refine bu (c+6) ?_
   exact Aj ⟨[((c+6)+5)],[],[],[]⟩ (⟨_,rfl,kn,kn⟩)
  refine BL (o-1) 1 ?_
  refine bu (c+6) ?_
  exact Aj ⟨[((c+6)+6)],[],[],[]⟩ (⟨_,rfl,kn,kn⟩)
 ·obtain ⟨rfl,rfl,rfl,j,rfl,rfl,am,O,rfl,u,w,i,hg,r1,r2,ho,R,_⟩:=hv;obtain ⟨rfl,rfl,rfl,rfl,rfl,rfl⟩:=j;have ez:(E.node 0 0 0 0 [] []).nodes=0:=rfl;have es:S.Ag []=0:=rfl;have ah:=O.len;have e1:=n1 (x:=.node A C H z D g);have e4:=g1 (x:=.node A C H z D g);simp only [lN]at P
  refine .of (t:=Ej) rfl ?_
  unfold Ej
  refine AT 12 1 ?_
  refine AT 12 2 ?_
  refine AT 12 3 ?_
  refine AT 12 5 ?_
  refine AT 12 6 ?_
  refine AT 12 7 ?_
  refine AT 12 8 ?_
  refine AT 12 9 ?_
  refine AT 12 10 ?_
  refine AT 12 11 ?_
  refine AT 12 4 ?_
  refine BL 12 12 ?_
  refine AT o 4 ?_
  obtain ⟨_,rfl,bZ⟩:=Ale 12 o 0 0 A C H z q 0 0 0 0 v J M c nm D [] (E.Ac g) (E.Ac []) (S.Ac []) (S.Ac []) rfl
  refine ch bZ ?_
  obtain ⟨_,rfl,bc⟩:=FQ nm O
  refine ch bc ?_
  refine sl nm ?_
  refine bu c ?_
  refine bu (c+64) ?_
  refine En (o-1) 0 ?_
  refine IZ (o-1) 6 ?_
  refine eq (o-1) 0 (fun b4=>?_) fun b4=>?_
  ·refine bu ((c+64)+3) ?_
   refine neY o 4 ?_
   refine ll q (E.Ac g) ?_
   refine ll v (E.Ac []) ?_
   refine dL [[.int .i64 A,.int .i64 C,.int .i64 H,.str D,.int .i32 z,.list 6 (E.Ac g)],[.int .i64 0,.int .i64 0,.int .i64 0,.str [],.int .i32 0,.list 6 (E.Ac [])]] (fun av co=>?_)
   have bj:=cL co;try simp only [lA,lC,lN,lT']at bj
   refine ll 2 av ?_
   refine fr ?_
   refine dL (av.take (1:Int).toNat) (fun bE ba=>?_) (FL (pt 1 av))
   have bp:=cL ba;try simp only [lA,lC,lN,lT']at bp
   obtain ⟨_,⟨aK,rfl,cB,dd⟩,b7⟩:=Ji (KN.of (n:=10) @EE) 1 (((c+64)+3)+6) bE R.tl1 (by subst_vars;rfl)
   refine ch b7 ?_
   exact Aj ⟨[aK],[],[],[]⟩ (⟨_,rfl,kn,kn⟩)
  refine eq (o-1) 1 (fun cp=>?_) fun cp=>?_
  ·refine bu ((c+64)+3) ?_
   refine neY o 4 ?_
   refine ll q (E.Ac g) ?_
   refine ll v (E.Ac []) ?_
   refine dL [[.int .i64 A,.int .i64 C,.int .i64 H,.str D,.int .i32 z,.list 6 (E.Ac g)],[.int .i64 0,.int .i64 0,.int .i64 0,.str [],.int .i32 0,.list 6 (E.Ac [])]] (fun al cj=>?_)
   have cr:=cL cj;try simp only [lA,lC,lN,lT']at cr
   refine ll 2 al ?_
   refine fr ?_
   refine dL (al.take (1:Int).toNat) (fun bI cb=>?_) (FL (pt 1 al))
   have bW:=cL cb;try simp only [lA,lC,lN,lT']at bW
   obtain ⟨_,⟨aB,rfl,cz,cT⟩,bB⟩:=Ji (KN.of (n:=10) @EE) 1 (((c+64)+3)+3) bI R.tl1 (by subst_vars;rfl)
   refine ch bB ?_
   exact Aj ⟨[aB],[],[],[]⟩ (⟨_,rfl,kn,kn⟩)
  refine eq (o-1) 2 (fun bS=>?_) fun bS=>?_
  ·refine bu ((c+64)+3) ?_
   refine neY o 4 ?_
   refine ll q (E.Ac g) ?_
   refine ll v (E.Ac []) ?_
   refine dL [[.int .i64 A,.int .i64 C,.int .i64 H,.str D,.int .i32 z,.list 6 (E.Ac g)],[.int .i64 0,.int .i64 0,.int .i64 0,.str [],.int .i32 0,.list 6 (E.Ac [])]] (fun aw bk=>?_)
   have bU:=cL bk;try simp only [lA,lC,lN,lT']at bU
   refine ll 2 aw ?_
   refine fr ?_
   refine dL (aw.take (1:Int).toNat) (fun bV aV=>?_) (FL (pt 1 aw))
   have bO:=cL aV;try simp only [lA,lC,lN,lT']at bO
   obtain ⟨_,⟨aI,rfl,c5,cA⟩,b5⟩:=Ji (KN.of (n:=10) @EE) 1 (((c+64)+3)+3) bV R.tl1 (by subst_vars;rfl)
   refine ch b5 ?_
   exact Aj ⟨[aI],[],[],[]⟩ (⟨_,rfl,kn,kn⟩)
  refine eq (o-1) 3 (fun bd=>?_) fun bd=>?_
  ·refine bu ((c+64)+3) ?_
   refine neY o 4 ?_
   refine ll q (E.Ac g) ?_
   refine ll v (E.Ac []) ?_
   refine dL [[.int .i64 A,.int .i64 C,.int .i64 H,.str D,.int .i32 z,.list 6 (E.Ac g)],[.int .i64 0,.int .i64 0,.int .i64 0,.str [],.int .i32 0,.list 6 (E.Ac [])]] (fun an ce=>?_)
   have ci:=cL ce;try simp only [lA,lC,lN,lT']at ci
   refine ll 2 an ?_
   refine fr ?_
   refine dL (an.take (1:Int).toNat) (fun bL aZ=>?_) (FL (pt 1 an))
   have bK:=cL aZ;try simp only [lA,lC,lN,lT']at bK
   obtain ⟨_,⟨aN,rfl,cR,c2⟩,cq⟩:=Ji (KN.of (n:=10) @EE) 1 (((c+64)+3)+7) bL R.tl1 (by subst_vars;rfl)
   refine ch cq ?_
   exact Aj ⟨[aN],[],[],[]⟩ (⟨_,rfl,kn,kn⟩)
  refine eq (o-1) 4 (fun bN=>?_) fun bN=>?_
  ·refine bu ((c+64)+3) ?_
   refine neY o 4 ?_
   refine ll q (E.Ac g) ?_
   refine ll v (E.Ac []) ?_
   refine dL [[.int .i64 A,.int .i64 C,.int .i64 H,.str D,.int .i32 z,.list 6 (E.Ac g)],[.int .i64 0,.int .i64 0,.int .i64 0,.str [],.int .i32 0,.list 6 (E.Ac [])]] (fun ao bg=>?_)
   have bh:=cL bg;try simp only [lA,lC,lN,lT']at bh
   refine ll 2 ao ?_
   refine fr ?_
   refine dL (ao.take (1:Int).toNat) (fun b9 bt=>?_) (FL (pt 1 ao))
   have bC:=cL bt;try simp only [lA,lC,lN,lT']at bC
   obtain ⟨_,⟨ax,rfl,cX,cI⟩,bF⟩:=Ji (KN.of (n:=10) @EE) 1 (((c+64)+3)+4) b9 R.tl1 (by subst_vars;rfl)
   refine ch bF ?_
   exact Aj ⟨[ax],[],[],[]⟩ (⟨_,rfl,kn,kn⟩)
  refine BL (o-1) 5 ?_
  refine bu ((c+64)+3) ?_
  refine neY o 4 ?_
  refine ll q (E.Ac g) ?_
  refine ll v (E.Ac []) ?_
  refine dL [[.int .i64 A,.int .i64 C,.int .i64 H,.str D,.int .i32 z,.list 6 (E.Ac g)],[.int .i64 0,.int .i64 0,.int .i64 0,.str [],.int .i32 0,.list 6 (E.Ac [])]] (fun au a1=>?_)
  have a6:=cL a1;try simp only [lA,lC,lN,lT']at a6
  refine ll 2 au ?_
  refine fr ?_
  refine dL (au.take (1:Int).toNat) (fun b0 bm=>?_) (FL (pt 1 au))
  have aX:=cL bm;try simp only [lA,lC,lN,lT']at aX
  obtain ⟨_,⟨aM,rfl,cP,cF⟩,cn⟩:=Ji (KN.of (n:=10) @EE) 1 (((c+64)+3)+3) b0 R.tl1 (by subst_vars;rfl)
  refine ch cn ?_
  exact Aj ⟨[aM],[],[],[]⟩ (⟨_,rfl,kn,kn⟩)
 ·obtain ⟨rfl,rfl,rfl,rfl,rfl,rfl,am,O,rfl,u,i,hg,r1,r2,R,hy,_,_⟩:=hv;have ez:(E.node 0 0 0 0 [] []).nodes=0:=rfl;have es:S.Ag []=0:=rfl;have ah:=O.len;have e1:=n2 (x:=.node A C H z D g) (y:=.node yk Z yt U yn Q);have e4:=g2 (x:=.node A C H z D g) (y:=.node yk Z yt U yn Q);simp only [lN]at P
  refine .of (t:=Ej) rfl ?_
  unfold Ej
  refine AT 12 1 ?_
  refine AT 12 2 ?_
  refine AT 12 3 ?_
  refine AT 12 5 ?_
  refine AT 12 6 ?_
  refine AT 12 7 ?_
  refine AT 12 8 ?_
  refine AT 12 9 ?_
  refine AT 12 10 ?_
  refine AT 12 11 ?_
  refine AT 12 4 ?_
  refine BL 12 12 ?_
  refine BL 4 4 ?_
  obtain ⟨_,rfl,bz⟩:=Ai1 12 4 0 0 A C H z q yk Z yt U v J M c nm D yn (E.Ac g) (E.Ac Q) (S.Ac []) (S.Ac [])
  refine ch bz ?_
  obtain ⟨_,rfl,b8⟩:=FQ nm O
  refine ch b8 ?_
  refine sl nm ?_
  refine bu c ?_
  refine bu (c+64) ?_
  refine En (4-1) 0 ?_
  refine IZ (4-1) 6 ?_
  refine AT (4-1) 0 ?_
  refine AT (4-1) 1 ?_
  refine AT (4-1) 2 ?_
  refine BL (4-1) 3 ?_
  refine bu ((c+64)+3) ?_
  refine Cc 4 4 ?_
  refine ll q (E.Ac g) ?_
  refine ll v (E.Ac Q) ?_
  refine dL [[.int .i64 A,.int .i64 C,.int .i64 H,.str D,.int .i32 z,.list 6 (E.Ac g)],[.int .i64 yk,.int .i64 Z,.int .i64 yt,.str yn,.int .i32 U,.list 6 (E.Ac Q)]] (fun aO aW=>?_)
  have bA:=cL aW;try simp only [lA,lC,lN,lT']at bA
  refine ll 2 aO ?_
  refine fr ?_
  obtain ⟨_,⟨ay,rfl,cD,cQ⟩,bX⟩:=Ji (KN.of (n:=10) @EE) 2 (((c+64)+3)+7) aO (R.tl2 hy) (by subst_vars;rfl)
  refine ch bX ?_
  exact Aj ⟨[ay],[],[],[]⟩ (⟨_,rfl,kn,kn⟩)
def AmG (x N:Nat) (m n:Nat):Prop:=∀{u v:Int} {Γ q:Ctx} {l:List S} (g len:Int) (j c:Int) (k:List Nat) (L:Rs) (z:CE u v Γ (l.drop j.toNat) q) (y:L=S.Ac l) (h:g=L.length∧g≤200000∧len=g∧0≤j∧0≤c∧c+400*S.Ag (l.drop j.toNat)≤999682∧k.length+2*S.A4 (l.drop j.toNat)≤62∧S.A4 (l.drop j.toNat)≤m∧(len-j).toNat<n),Ok trees N ⟨[g,len,j,c],[k],[L],[]⟩ fun o=>(o=(0,v0))∨(∃(d:Int),o=(1,(⟨[d],[],[],[]⟩:Ah))∧(d≤c+400*S.Ag (l.drop j.toNat))∧(c≤d))
def Amh (o N:Nat):Prop:=∀{m:Nat} (x:Rq o m) {v y:Int} {Γ u:Ctx} {l:List S} (g len:Int) (j c:Int) (k:List Nat) (L:Rs) (A:CE v y Γ (l.drop j.toNat) u) (z:L=S.Ac l) (h:g=L.length∧g≤200000∧len=g∧0≤j∧0≤c∧c+400*S.Ag (l.drop j.toNat)≤999682∧k.length+2*S.A4 (l.drop j.toNat)≤62∧S.A4 (l.drop j.toNat)≤m:=by exact kn),Ok trees N ⟨[g,len,j,c],[k],[L],[]⟩ fun q=>(q=(0,v0))∨(∃(d:Int),q=(1,(⟨[d],[],[],[]⟩:Ah))∧(d≤c+400*S.Ag (l.drop j.toNat))∧(c≤d))
theorem Ak3 {m:Nat} (N:Rq 84 m) (n:Nat):AmG 84 86 m n:=by
 induction n with
 |zero=>intro lp pu Γ Γe l A len j z d L hO v h;exact absurd h.2.2.2.2.2.2.2.2 (Nat.not_lt_zero _)
 |succ n ih=>
 intro lp pu Γ Γe l A len j z d L hO v h
 subst v
 refine .of (t:=AbJ) rfl ?_
 unfold AbJ
 refine lt j len (fun t1=>?_) fun t1=>?_
 ·refine CX j 0 ?_
  refine BD j A ?_
  obtain ⟨ac,ad,t_1,ab,x,H,P,J,y,C,q,U,R,aa,Q,O,g,o,k,al,Z,M,aj,ak,an⟩:=CE.get j hO (by omega) (by omega)
  refine el Z ?_
  refine sl d ?_
  refine bu z ?_
  obtain ⟨_,⟨c,rfl,ao,am⟩,G3⟩:=All @N ac ad t_1 ab H P J y ((E.Ac q).length:Int) U R aa Q ((E.Ac g).length:Int) ((S.Ac o).length:Int) ((S.Ac k).length:Int) (z+64) x C O d (E.Ac q) (E.Ac g) (S.Ac o) (S.Ac k) M rfl rfl rfl rfl
  refine ch G3 ?_
  refine bu c ?_
  obtain ⟨_,(rfl|⟨u,rfl,ag,af⟩),D⟩:=ih A len (j+1) (c+1) d (S.Ac l) ‹_› rfl kn
  ·refine ch D ?_
   exact Aj ⟨[(c+1)],[],[],[]⟩ (.inr ((⟨_,rfl,kn,kn⟩)))
  refine cm D ?_
  refine ch D ?_
  exact Aj ⟨[u],[],[],[]⟩ (.inr ((⟨_,rfl,kn,kn⟩)))
 exact Aj v0 (.inl rfl)
theorem Alm:Amh 84 86:=fun {m} hC84 {lp} {pu} {Γ} {Γe} {l} ln len j sz ind L hO hLs h=>Ak3 @hC84 ((len-j).toNat+1) ln len j sz ind L hO hLs ⟨h.1,h.2.1,h.2.2.1,h.2.2.2.1,h.2.2.2.2.1,h.2.2.2.2.2.1,h.2.2.2.2.2.2.1,h.2.2.2.2.2.2.2,Nat.lt_succ_self _⟩
def Ami (k N:Nat):Prop:=∀{m:Nat} (x:Rq k m) {u v:Int} {Γ q:Ctx} {l:List S} (j d:Int) (g:List Nat) (L:Rs) (z:CE u v Γ l q) (y:L=S.Ac l) (h:j=L.length∧j≤200000∧0≤d∧d+400*S.Ag l≤999682∧g.length+2*S.A4 l≤62∧S.A4 l≤m:=by exact kn),Ok trees N ⟨[j,d],[g],[L],[]⟩ fun o=>(o=(0,v0))∨(∃(c:Int),o=(1,(⟨[c],[],[],[]⟩:Ah))∧(c≤d+400*S.Ag l)∧(d≤c))
theorem Aft:Ami 84 85:=by
 intro m d z D Γ y l k v o L x j h
 subst j;have A:S.A4 (l.drop (0:Int).toNat)=S.A4 l:=rfl;have C:S.Ag (l.drop (0:Int).toNat)=S.Ag l:=rfl
 refine .of (t:=AbK) rfl ?_
 unfold AbK
 obtain ⟨_,(rfl|⟨c,rfl,u,q⟩),g⟩:=Alm @d k k 0 v o (S.Ac l) x rfl
 ·refine ch g ?_
  exact Aj v0 (.inl rfl)
 refine cm g ?_
 refine ch g ?_
 exact Aj ⟨[c],[],[],[]⟩ (.inr ((⟨_,rfl,kn,kn⟩)))
theorem Ak4 (n:Nat):Rq 84 n:=by
 induction n with
 |zero=>intro y z Γ x l o g c L q j h;exact absurd h.2.2.2.2.2 (Nat.not_lt_zero _)
 |succ n ih=>
 intro y z Γ x l o g c L q j h
 have A:(c++[32,32]).length=c.length+2:=by simp
 refine .of (t:=AbL) rfl ?_
 unfold AbL
 refine bu g ?_
 refine ca c [32,32] ?_
 obtain ⟨_,(rfl|⟨d,rfl,v,u⟩),k⟩:=Aft @ih o (g+2) (c++[32,32]) L q j
 ·refine ch k ?_
  refine sl c ?_
  refine bu (g+2) ?_
  refine bu ((g+2)+64) ?_
  exact Aj ⟨[(((g+2)+64)+1)],[],[],[]⟩ (⟨_,rfl,kn,kn⟩)
 refine cm k ?_
 refine ch k ?_
 refine sl c ?_
 refine bu d ?_
 refine bu (d+64) ?_
 exact Aj ⟨[((d+64)+1)],[],[],[]⟩ (⟨_,rfl,kn,kn⟩)
theorem Ot:Ajn 84:=fun {lp} {pu} {Γ} {Γe} {l} ln sz ind L hO hLs h=>Ak4 (S.A4 l+1) ln sz ind L hO hLs ⟨h.1,h.2.1,h.2.2.1,h.2.2.2.1,h.2.2.2.2,Nat.lt_succ_self _⟩
end Go.Proofs.YtbmofjdmgjpfoaaGreatDoor.Am
end
section
set_option maxHeartbeats 4000000
set_option maxRecDepth 100000
namespace Go.Proofs.YtbmofjdmgjpfoaaGreatDoor.Am
open Go.AM Go.AM.K
def Adn (N n:Nat):Prop:=∀{g:Int} {Γ d:Ctx} {l:List S} (c:Int) (L:Rs) (o:CE g 1 Γ l d) (k:L=S.Ac l) (h:c=L.length∧c≤200000∧S.Ag l≤200000∧S.A4 l<n),Ok trees N ⟨[c],[],[L],[]⟩ fun j=>(j=(1,v0))
def Aml (N:Nat):Prop:=∀{g:Int} {Γ d:Ctx} {l:List S} (c:Int) (L:Rs) (o:CE g 1 Γ l d) (k:L=S.Ac l) (h:c=L.length∧c≤200000∧S.Ag l≤200000:=by exact kn),Ok trees N ⟨[c],[],[L],[]⟩ fun j=>(j=(1,v0))
def AmH (o N:Nat) (m n:Nat):Prop:=∀{g:Int} {Γ d:Ctx} {l:List S} (c len j:Int) (L:Rs) (u:CE g 1 Γ (l.drop j.toNat) d) (q:L=S.Ac l) (h:c=L.length∧c≤200000∧len=c∧0≤j∧S.A4 (l.drop j.toNat)≤m∧S.Ag (l.drop j.toNat)≤200000∧(len-j).toNat<n),Ok trees N ⟨[c,len,j],[],[L],[]⟩ fun k=>(k=(1,v0))
def Amj (d N:Nat):Prop:=∀{m:Nat} (q:Adn d m) {k:Int} {Γ g:Ctx} {l:List S} (c len j:Int) (L:Rs) (v:CE k 1 Γ (l.drop j.toNat) g) (u:L=S.Ac l) (h:c=L.length∧c≤200000∧len=c∧0≤j∧S.A4 (l.drop j.toNat)≤m∧S.Ag (l.drop j.toNat)≤200000:=by exact kn),Ok trees N ⟨[c,len,j],[],[L],[]⟩ fun o=>(o=(1,v0))
theorem Ak5 {m:Nat} (g:Adn 81 m) (n:Nat):AmH 81 83 m n:=by
 induction n with
 |zero=>intro lp Γ Γe l o len j L Z P h;exact absurd h.2.2.2.2.2.2 (Nat.not_lt_zero _)
 |succ n ih=>
 intro lp Γ Γe l o len j L Z P h
 subst P
 refine .of (t:=AbM) rfl ?_
 unfold AbM
 refine lt j len (fun t1=>?_) fun t1=>?_
 ·refine CX j 0 ?_
  refine BD j o ?_
  obtain ⟨k,aU,t_1,aV,aI,av,aQ,ax,ao,au,aP,aG,ay,aH,aF,aD,an,d,c,aK,Q,q,aq,aJ,aw⟩:=CE.get j Z (by omega) (by omega)
  refine el Q ?_
  have aB:=q.pure;have aO:=q.kinds;have aj:=S.len d;have ah:=S.len c;have ai:=S.A7 d;have ak:=S.A7 c;obtain ⟨_,aR,aC,az,aL,aA,aM⟩:=q.parts
  refine eq k 1 (fun t3=>?_) fun t3=>?_
  ·obtain ⟨_,rfl,G4⟩:=g ((S.Ac d).length:Int) (S.Ac d) ‹_› rfl kn
   refine cm G4 ?_
   refine ch G4 ?_
   obtain ⟨_,rfl,R⟩:=g ((S.Ac c).length:Int) (S.Ac c) ‹_› rfl kn
   refine cm R ?_
   refine ch R ?_
   obtain ⟨_,rfl,G6⟩:=ih o len (j+1) (S.Ac l) ‹_› rfl kn
   refine cm G6 ?_
   refine ch G6 ?_
   exact Aj v0 (rfl)
  refine eq k 2 (fun t7=>?_) fun t7=>?_
  ·obtain ⟨_,rfl,U⟩:=g ((S.Ac d).length:Int) (S.Ac d) ‹_› rfl kn
   refine cm U ?_
   refine ch U ?_
   obtain ⟨_,rfl,G9⟩:=g ((S.Ac c).length:Int) (S.Ac c) ‹_› rfl kn
   refine cm G9 ?_
   refine ch G9 ?_
   obtain ⟨_,rfl,C⟩:=ih o len (j+1) (S.Ac l) ‹_› rfl kn
   refine cm C ?_
   refine ch C ?_
   exact Aj v0 (rfl)
  refine eq k 5 (fun aa=>?_) fun aa=>?_
  ·obtain ⟨_,rfl,y⟩:=g ((S.Ac d).length:Int) (S.Ac d) ‹_› rfl kn
   refine cm y ?_
   refine ch y ?_
   obtain ⟨_,rfl,N⟩:=g ((S.Ac c).length:Int) (S.Ac c) ‹_› rfl kn
   refine cm N ?_
   refine ch N ?_
   obtain ⟨_,rfl,H⟩:=ih o len (j+1) (S.Ac l) ‹_› rfl kn
   refine cm H ?_
   refine ch H ?_
   exact Aj v0 (rfl)
  refine eq k 6 (fun ae=>?_) fun ae=>?_
  ·obtain ⟨_,rfl,v⟩:=g ((S.Ac d).length:Int) (S.Ac d) ‹_› rfl kn
   refine cm v ?_
   refine ch v ?_
   obtain ⟨_,rfl,x⟩:=g ((S.Ac c).length:Int) (S.Ac c) ‹_› rfl kn
   refine cm x ?_
   refine ch x ?_
   obtain ⟨_,rfl,u⟩:=ih o len (j+1) (S.Ac l) ‹_› rfl kn
   refine cm u ?_
   refine ch u ?_
   exact Aj v0 (rfl)
  refine eq k 7 (fun ac=>?_) fun ac=>?_
  ·obtain ⟨_,rfl,J⟩:=g ((S.Ac d).length:Int) (S.Ac d) ‹_› rfl kn
   refine cm J ?_
   refine ch J ?_
   obtain ⟨_,rfl,A⟩:=g ((S.Ac c).length:Int) (S.Ac c) ‹_› rfl kn
   refine cm A ?_
   refine ch A ?_
   obtain ⟨_,rfl,z⟩:=ih o len (j+1) (S.Ac l) ‹_› rfl kn
   refine cm z ?_
   refine ch z ?_
   exact Aj v0 (rfl)
  refine eq k 8 (fun af=>?_) fun af=>?_
  ·obtain ⟨_,rfl,O⟩:=g ((S.Ac d).length:Int) (S.Ac d) ‹_› rfl kn
   refine cm O ?_
   refine ch O ?_
   obtain ⟨_,rfl,M⟩:=g ((S.Ac c).length:Int) (S.Ac c) ‹_› rfl kn
   refine cm M ?_
   refine ch M ?_
   obtain ⟨_,rfl,D⟩:=ih o len (j+1) (S.Ac l) ‹_› rfl kn
   refine cm D ?_
   refine ch D ?_
   exact Aj v0 (rfl)
  exact dead
 exact Aj v0 (rfl)
theorem Aln:Amj 81 83:=fun {m} hC81 {lp} {Γ} {Γe} {l} ln len j L hO hLs h=>Ak5 @hC81 ((len-j).toNat+1) ln len j L hO hLs ⟨h.1,h.2.1,h.2.2.1,h.2.2.2.1,h.2.2.2.2.1,h.2.2.2.2.2,Nat.lt_succ_self _⟩
def Amk (d N:Nat):Prop:=∀{m:Nat} (o:Adn d m) {j:Int} {Γ g:Ctx} {l:List S} (c:Int) (L:Rs) (u:CE j 1 Γ l g) (q:L=S.Ac l) (h:c=L.length∧c≤200000∧S.Ag l≤200000∧S.A4 l≤m:=by exact kn),Ok trees N ⟨[c],[],[L],[]⟩ fun k=>(k=(0,(⟨[(-1)],[],[],[]⟩:Ah)))
theorem Alo:Amk 81 82:=by
 intro m c q Γ o l j L k d h
 subst d;have v:S.A4 (l.drop (0:Int).toNat)=S.A4 l:=rfl;have u:S.Ag (l.drop (0:Int).toNat)=S.Ag l:=rfl
 refine .of (t:=AbN) rfl ?_
 unfold AbN
 obtain ⟨_,rfl,g⟩:=Aln @c j j 0 (S.Ac l) k rfl
 refine cm g ?_
 refine ch g ?_
 exact Aj ⟨[(-1)],[],[],[]⟩ (rfl)
theorem Ak6 (n:Nat):Adn 81 n:=by
 induction n with
 |zero=>intro k Γ j l g L d c h;exact absurd h.2.2.2 (Nat.not_lt_zero _)
 |succ n ih=>
 intro k Γ j l g L d c h
 refine .of (t:=AbO) rfl ?_
 unfold AbO
 obtain ⟨_,rfl,o⟩:=Alo @ih g L d c
 refine ch o ?_
 refine IZ (-1) 0 ?_
 exact Aj v0 (rfl)
theorem Alp:Aml 81:=fun {lp} {Γ} {Γe} {l} ln L hO hLs h=>Ak6 (S.A4 l+1) ln L hO hLs ⟨h.1,h.2.1,h.2.2,Nat.lt_succ_self _⟩
end Go.Proofs.YtbmofjdmgjpfoaaGreatDoor.Am
end
