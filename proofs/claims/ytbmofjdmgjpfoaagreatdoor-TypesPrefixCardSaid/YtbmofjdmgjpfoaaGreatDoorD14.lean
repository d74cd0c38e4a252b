/- Part 14 of the proof of TypesPrefix. -/
import Derived.Test.YtbmofjdmgjpfoaaGreatDoorD11
set_option linter.all false
section
set_option maxHeartbeats 4000000
set_option maxRecDepth 100000
namespace Go.Proofs.YtbmofjdmgjpfoaaGreatDoor.Am
open Go.AM Go.AM.K
def AfV (N n:Nat):Prop:=∀{Γ:Ctx} {t:Int} {a:List E} (k o:Int) (ty v:Int) (g depth c:Int) (s:List Nat) (A:Rs) (q:T Γ t (.node k o ty v s a)) (u:A=E.Ab a) (h:g=A.length∧0≤depth∧depth+(E.node k o ty v s a).high≤31∧0≤c∧c+(E.node k o ty v s a).nodes≤100000∧(E.node k o ty v s a).high<n),Ok trees N ⟨[k,o,ty,v,g,depth,c],[s],[A],[]⟩ fun j=>(∃(d:Int),j=(0,(⟨[d],[],[],[]⟩:Ah))∧(d=c+(E.node k o ty v s a).nodes))
def AmM (N:Nat):Prop:=∀{Γ:Ctx} {t:Int} {a:List E} (k o:Int) (ty v:Int) (g depth c:Int) (s:List Nat) (A:Rs) (q:T Γ t (.node k o ty v s a)) (u:A=E.Ab a) (h:g=A.length∧0≤depth∧depth+(E.node k o ty v s a).high≤31∧0≤c∧c+(E.node k o ty v s a).nodes≤100000:=by exact kn),Ok trees N ⟨[k,o,ty,v,g,depth,c],[s],[A],[]⟩ fun j=>(∃(d:Int),j=(0,(⟨[d],[],[],[]⟩:Ah))∧(d=c+(E.node k o ty v s a).nodes))
def Anl (u N:Nat) (m n:Nat):Prop:=∀{Γ:Ctx} {a:List E} (k c:Int) (len j d:Int) (L:Rs) (v:TL Γ a) (q:L=E.Ab a) (h:c=L.length∧c≤1000∧len=c∧0≤j∧0≤k∧k+1+E.BX a≤31∧0≤d∧d+E.Ae (a.drop j.toNat)≤100000∧E.BX a<m∧(len-j).toNat<n),Ok trees N ⟨[k,c,len,j,d],[],[L],[]⟩ fun o=>(∃(g:Int),o=(0,(⟨[g],[],[],[]⟩:Ah))∧(g=d+E.Ae (a.drop j.toNat)))
def AmL (o N:Nat):Prop:=∀{m:Nat} (u:AfV o m) {Γ:Ctx} {a:List E} (k c:Int) (len j d:Int) (L:Rs) (x:TL Γ a) (v:L=E.Ab a) (h:c=L.length∧c≤1000∧len=c∧0≤j∧0≤k∧k+1+E.BX a≤31∧0≤d∧d+E.Ae (a.drop j.toNat)≤100000∧E.BX a<m:=by exact kn),Ok trees N ⟨[k,c,len,j,d],[],[L],[]⟩ fun q=>(∃(g:Int),q=(0,(⟨[g],[],[],[]⟩:Ah))∧(g=d+E.Ae (a.drop j.toNat)))
theorem AkY {m:Nat} (u:AfV 55 m) (n:Nat):Anl 55 56 m n:=by
 induction n with
 |zero=>intro Γ a y v len j x L d g h;exact absurd h.2.2.2.2.2.2.2.2.2 (Nat.not_lt_zero _)
 |succ n ih=>
 intro Γ a y v len j x L d g h
 subst g;have hz:=N1 (a:=a) (j:=j)
 refine .of (t:=Ac1) rfl ?_
 unfold Ac1
 refine lt j len (fun R=>?_) fun R=>?_
 ·refine CJ j 0 ?_
  refine BD j v ?_
  obtain ⟨A,D,z,H,C,c,Z,k,N,U,J,P⟩:=d.get j om om
  refine el k ?_
  obtain ⟨_,⟨q,rfl,O⟩,Q⟩:=u A D z H ((E.Ab c).length:Int) (y+1) x C (E.Ab c) ‹_› rfl kn
  refine ch Q ?_
  obtain ⟨_,⟨o,rfl,M⟩,X⟩:=ih y v len (j+1) q (E.Ab a) ‹_› rfl kn
  refine ch X ?_
  exact Aj ⟨[o],[],[],[]⟩ (⟨_,rfl,kn⟩)
 exact Aj ⟨[x],[],[],[]⟩ (⟨_,rfl,kn⟩)
theorem AiS:AmL 55 56:=fun {m} hC55 {Γ} {a} dd ln len j nn L hTL hLa h=>AkY @hC55 ((len-j).toNat+1) dd ln len j nn L hTL hLa ⟨h.1,h.2.1,h.2.2.1,h.2.2.2.1,h.2.2.2.2.1,h.2.2.2.2.2.1,h.2.2.2.2.2.2.1,h.2.2.2.2.2.2.2.1,h.2.2.2.2.2.2.2.2,Nat.lt_succ_self _⟩
theorem AkZ (n:Nat):AfV 55 n:=by
 induction n with
 |zero=>intro Γ t a k o ty v d depth q s A c u h;exact absurd h.2.2.2.2.2 (Nat.not_lt_zero _)
 |succ n ih=>
 intro Γ t a k o ty v d depth q s A c u h
 subst u;have ⟨J,M,H⟩:=c.kind;have Q:=c.nodes;have P:=LW (k:=k) (o:=o) (ty:=ty) (v:=v) (s:=s) (a:=a);have hl:=T.len c.args;have N:=E.A7 a;have O:E.Ae (a.drop (0:Int).toNat)=E.Ae a:=rfl
 refine .of (t:=Ac2) rfl ?_
 unfold Ac2
 refine SJ depth 30 ?_
 refine eq k 8 (fun z=>?_) fun z=>?_
 ·refine SJ d 8 ?_
  obtain ⟨_,⟨j,rfl,D⟩,y⟩:=AiS @ih depth d d 0 (q+1) (E.Ab a) c.args rfl
  refine ch y ?_
  exact Aj ⟨[j],[],[],[]⟩ (⟨_,rfl,kn⟩)
 obtain ⟨_,⟨g,rfl,x⟩,C⟩:=AiS @ih depth d d 0 (q+1) (E.Ab a) c.args rfl
 refine ch C ?_
 exact Aj ⟨[g],[],[],[]⟩ (⟨_,rfl,kn⟩)
theorem AiT:AmM 55:=fun {Γ} {t} {a} k o ty v ln depth nn s A hT hA h=>AkZ ((E.node k o ty v s a).high+1) k o ty v ln depth nn s A hT hA ⟨h.1,h.2.1,h.2.2.1,h.2.2.2.1,h.2.2.2.2,Nat.lt_succ_self _⟩
end Go.Proofs.YtbmofjdmgjpfoaaGreatDoor.Am
end
section
set_option maxHeartbeats 4000000
set_option maxRecDepth 100000
namespace Go.Proofs.YtbmofjdmgjpfoaaGreatDoor.Am
open Go.AM Go.AM.K
def Anm (N n:Nat):Prop:=∀{Γ:Ctx} (a:List E) (dd c1:Int) (D J:Int) (k j:Int) (c R:Int) (U A:Int) (M q5:Int) (Z q7:Int) (O X:Int) (u v:Int) (q o:Int) (x y z:Int) (Q P u3:List Nat) (D1 g:Rs) (D2 C:Rs) (D4 D5:Rs) (hE:∀e∈a,EOk Γ e) (ah:g=E.Ab a) (h:k=g.length∧k=2∧0≤j∧0≤c∧c+E.Ae (a.drop j.toNat)≤100000∧(2-j).toNat<n),Ok trees N ⟨[dd,c1,D,J,k,j,c,R,U,A,M,q5,Z,q7,O,X,u,v,q,o,x,y,z],[Q,P,u3],[D1,g,D2,C,D4,D5],[]⟩ fun H=>(∃(d:Int),H=(0,(⟨[d],[],[],[]⟩:Ah))∧(d=c+E.Ae (a.drop j.toNat)))
def AmN (N:Nat):Prop:=∀{Γ:Ctx} (a:List E) (dd c1:Int) (D J:Int) (k j:Int) (c R:Int) (U A:Int) (M q5:Int) (Z q7:Int) (O X:Int) (u v:Int) (q o:Int) (x y z:Int) (Q P u3:List Nat) (D1 g:Rs) (D2 C:Rs) (D4 D5:Rs) (hE:∀e∈a,EOk Γ e) (ah:g=E.Ab a) (h:k=g.length∧k=2∧0≤j∧0≤c∧c+E.Ae (a.drop j.toNat)≤100000:=by exact kn),Ok trees N ⟨[dd,c1,D,J,k,j,c,R,U,A,M,q5,Z,q7,O,X,u,v,q,o,x,y,z],[Q,P,u3],[D1,g,D2,C,D4,D5],[]⟩ fun H=>(∃(d:Int),H=(0,(⟨[d],[],[],[]⟩:Ah))∧(d=c+E.Ae (a.drop j.toNat)))
theorem XK (n:Nat):Anm 54 n:=by
 induction n with
 |zero=>intro Γ a dd c1 N O y j x Z q2 H P q5 q6 q7 Q q9 g k d c o u v X U u3 D1 XY D2 J D4 D5 z D h;exact absurd h.2.2.2.2.2 (Nat.not_lt_zero _)
 |succ n ih=>
 intro Γ a dd c1 N O y j x Z q2 H P q5 q6 q7 Q q9 g k d c o u v X U u3 D1 XY D2 J D4 D5 z D h
 subst D;have hz:=N1 (a:=a) (j:=j)
 refine .of (t:=Ac3) rfl ?_
 unfold Ac3
 refine lt j 2 (fun t1=>?_) fun t1=>?_
 ·refine CJ j 0 ?_
  refine BD j y ?_
  obtain ⟨C,aq,an,ap,ao,A,aG,af,M,q,ay,aC⟩:=EL.get z j om om
  refine el af ?_
  have au:=q
  refine ne C 0 (fun t3=>?_) fun t3=>?_
  ·have aH:=q om
   obtain ⟨_,⟨R,rfl,aB⟩,G4⟩:=AiT C aq an ap ((E.Ab A).length:Int) 1 x ao (E.Ab A) (by exact M om) rfl
   refine ch G4 ?_
   obtain ⟨_,⟨ac,rfl,aw⟩,G5⟩:=ih a dd c1 N O y (j+1) R Z q2 H P q5 q6 q7 Q q9 g k d c o u v X U u3 D1 (E.Ab a) D2 J D4 D5 z rfl kn
   refine ch G5 ?_
   exact Aj ⟨[ac],[],[],[]⟩ (⟨_,rfl,kn⟩)
  obtain ⟨_,⟨aj,rfl,av⟩,G6⟩:=ih a dd c1 N O y (j+1) x Z q2 H P q5 q6 q7 Q q9 g k d c o u v X U u3 D1 (E.Ab a) D2 J D4 D5 z rfl kn
  refine ch G6 ?_
  exact Aj ⟨[aj],[],[],[]⟩ (⟨_,rfl,kn⟩)
 exact Aj ⟨[x],[],[],[]⟩ (⟨_,rfl,kn⟩)
theorem AlI:AmN 54:=fun {Γ} a dd c1 c2 c3 xl j nn q1 q2 q3 q4 q5 q6 q7 q8 q9 q10 q11 q12 q13 q14 q15 q16 u1 u2 u3 D1 XY D2 D3 D4 D5 hE hXY h=>XK ((2-j).toNat+1) a dd c1 c2 c3 xl j nn q1 q2 q3 q4 q5 q6 q7 q8 q9 q10 q11 q12 q13 q14 q15 q16 u1 u2 u3 D1 XY D2 D3 D4 D5 hE hXY ⟨h.1,h.2.1,h.2.2.1,h.2.2.2.1,h.2.2.2.2,Nat.lt_succ_self _⟩
def AfW (N n:Nat):Prop:=∀{l:List S} (j g c:Int) (L:Rs) (q:PL l) (o:L=S.Ab l) (h:j=L.length∧0≤g∧g+S.Ax l≤31∧0≤c∧c+S.Ae l≤100000∧S.Ax l<n),Ok trees N ⟨[j,g,c],[],[L],[]⟩ fun k=>(∃(d:Int),k=(0,(⟨[d],[],[],[]⟩:Ah))∧(d=c+S.Ae l))
def AmP (N:Nat):Prop:=∀{l:List S} (j g c:Int) (L:Rs) (q:PL l) (o:L=S.Ab l) (h:j=L.length∧0≤g∧g+S.Ax l≤31∧0≤c∧c+S.Ae l≤100000:=by exact kn),Ok trees N ⟨[j,g,c],[],[L],[]⟩ fun k=>(∃(d:Int),k=(0,(⟨[d],[],[],[]⟩:Ah))∧(d=c+S.Ae l))
def Ann (u N:Nat) (m n:Nat):Prop:=∀{l:List S} (k c:Int) (len j d:Int) (L:Rs) (v:PL (l.drop j.toNat)) (q:L=S.Ab l) (h:c=L.length∧c≤200000∧len=c∧0≤j∧0≤k∧k+S.Ax (l.drop j.toNat)≤31∧0≤d∧d+S.Ae (l.drop j.toNat)≤100000∧S.Ax (l.drop j.toNat)≤m∧(len-j).toNat<n),Ok trees N ⟨[k,c,len,j,d],[],[L],[]⟩ fun o=>(∃(g:Int),o=(0,(⟨[g],[],[],[]⟩:Ah))∧(g=d+S.Ae (l.drop j.toNat)))
def AmO (o N:Nat):Prop:=∀{m:Nat} (q:AfW o m) {l:List S} (k c:Int) (len j d:Int) (L:Rs) (x:PL (l.drop j.toNat)) (v:L=S.Ab l) (h:c=L.length∧c≤200000∧len=c∧0≤j∧0≤k∧k+S.Ax (l.drop j.toNat)≤31∧0≤d∧d+S.Ae (l.drop j.toNat)≤100000∧S.Ax (l.drop j.toNat)≤m:=by exact kn),Ok trees N ⟨[k,c,len,j,d],[],[L],[]⟩ fun u=>(∃(g:Int),u=(0,(⟨[g],[],[],[]⟩:Ah))∧(g=d+S.Ae (l.drop j.toNat)))
theorem Ala {m:Nat} (N:AfW 52 m) (n:Nat):Ann 52 53 m n:=by
 induction n with
 |zero=>intro l M O len j X L hO P h;exact absurd h.2.2.2.2.2.2.2.2.2 (Nat.not_lt_zero _)
 |succ n ih=>
 intro l M O len j X L hO P h
 subst P;have hz:=Bv (l:=l) (j:=j)
 refine .of (t:=Ac4) rfl ?_
 unfold Ac4
 refine lt j len (fun t1=>?_) fun t1=>?_
 ·refine CJ j 0 ?_
  refine BD j O ?_
  obtain ⟨ah,ai,t_1,ae,aa,u,q,D,A,C,d,o,g,z,v,k,c,H,J,ac,Z,ak,av,an⟩:=PL.get j hO om om
  refine el ac ?_
  obtain ⟨aC,aq,al,aB⟩:=Z.parts;have R:=n2 (x:=.node u q D A C d) (y:=.node o g z v k c)
  refine SJ M 30 ?_
  refine dL [[.int .i64 u,.int .i64 q,.int .i64 D,.str C,.int .i32 A,.list 6 (E.Ab d)],[.int .i64 o,.int .i64 g,.int .i64 z,.str k,.int .i32 v,.list 6 (E.Ab c)]] (fun W3 e3=>?_)
  have f3:=cL e3;try simp only [lA,lC,lN,lT']at f3
  refine ll 2 W3 ?_
  refine fr ?_
  have e0:E.Ae ([E.node u q D A C d,.node o g z v k c].drop (0:Int).toNat)=_:=R
  obtain ⟨_,⟨Q,rfl,ao⟩,G4⟩:=AlI [.node u q D A C d,.node o g z v k c] M O len j 2 0 (X+1) ah ai t_1 ae u q D A ((E.Ab d).length:Int) o g z v ((E.Ab c).length:Int) ((S.Ab H).length:Int) ((S.Ab J).length:Int) aa C k (S.Ab l) W3 (E.Ab d) (E.Ab c) (S.Ab H) (S.Ab J) ‹_› (by subst_vars;rfl)
  refine ch G4 ?_
  obtain ⟨_,⟨ab,rfl,aD⟩,G5⟩:=N ((S.Ab H).length:Int) (M+1) Q (S.Ab H) ‹_› rfl kn
  refine ch G5 ?_
  obtain ⟨_,⟨ad,rfl,aj⟩,G6⟩:=N ((S.Ab J).length:Int) (M+1) ab (S.Ab J) ‹_› rfl kn
  refine ch G6 ?_
  obtain ⟨_,⟨U,rfl,aA⟩,G7⟩:=ih M O len (j+1) ad (S.Ab l) ‹_› rfl kn
  refine ch G7 ?_
  exact Aj ⟨[U],[],[],[]⟩ (⟨_,rfl,kn⟩)
 exact Aj ⟨[X],[],[],[]⟩ (⟨_,rfl,kn⟩)
theorem AlJ:AmO 52 53:=fun {m} hC52 {l} dd ln len j nn L hO hLs h=>Ala @hC52 ((len-j).toNat+1) dd ln len j nn L hO hLs ⟨h.1,h.2.1,h.2.2.1,h.2.2.2.1,h.2.2.2.2.1,h.2.2.2.2.2.1,h.2.2.2.2.2.2.1,h.2.2.2.2.2.2.2.1,h.2.2.2.2.2.2.2.2,Nat.lt_succ_self _⟩
theorem Alb (n:Nat):AfW 52 n:=by
 induction n with
 |zero=>intro l g o k L j c h;exact absurd h.2.2.2.2.2 (Nat.not_lt_zero _)
 |succ n ih=>
 intro l g o k L j c h
 subst c;have x:=S.len l;have y:=S.A7 l
 refine .of (t:=Ac5) rfl ?_
 unfold Ac5
 have q:S.Ae (l.drop (0:Int).toNat)=S.Ae l:=rfl;have z:S.Ax (l.drop (0:Int).toNat)=S.Ax l:=rfl
 obtain ⟨_,⟨d,rfl,u⟩,v⟩:=AlJ @ih o g g 0 k (S.Ab l) j rfl
 refine ch v ?_
 exact Aj ⟨[d],[],[],[]⟩ (⟨_,rfl,(by have q:S.Ae (l.drop (0:Int).toNat)=S.Ae l:=rfl;omega)⟩)
theorem AiU:AmP 52:=fun {l} ln dd nn L hO hLs h=>Alb (S.Ax l+1) ln dd nn L hO hLs ⟨h.1,h.2.1,h.2.2.1,h.2.2.2.1,h.2.2.2.2,Nat.lt_succ_self _⟩
end Go.Proofs.YtbmofjdmgjpfoaaGreatDoor.Am
end
section
set_option maxHeartbeats 4000000
set_option maxRecDepth 100000
namespace Go.Proofs.YtbmofjdmgjpfoaaGreatDoor.Am
open Go.AM Go.AM.K
def fxB:Bool:=(List.range 256).all fun x=>match ER [(x:Int)*16384-100000] Km with|some (0,[])=>true|some (1,[])=>true|_=>false
theorem Af1:fxB=true:=by kernel_rfl
def Amq (N:Nat):Prop:=∀(v:Int) (hv:Fx v),Ok trees N ⟨[v],[],[],[]⟩ fun o=>o=(0,v0)∨o=(1,v0)
theorem Alz:Amq 99:=by
 intro v ⟨x,hx,hv⟩
 subst hv
 have h:=List.all_eq_true.1 Af1 x (List.mem_range.2 hx)
 split at h
 ·rename_i e;exact Ok.num (t:=Km) rfl e (.inl rfl)
 ·rename_i e;exact Ok.num (t:=Km) rfl e (.inr rfl)
 ·cases h
def nmB:Bool:=names.all fun s=>match Ns s Acr with|some 0=>true|_=>false
theorem Afo:nmB=true:=by kernel_rfl
def AmE (N:Nat):Prop:=∀(s:List Nat) (hs:Nm s),Ok trees N ⟨[],[s],[],[]⟩ fun o=>o=(0,v0)
theorem FR:AmE 69:=by
 intro s hs
 have h:=List.all_eq_true.1 Afo s hs
 split at h
 ·rename_i e;exact Ok.str (t:=Acr) rfl e rfl
 ·cases h
def KX (N n:Nat):Prop:=∀{Γ:Ctx} {t:Int} {a:List E} (k o:Int) (ty v:Int) (g d:Int) (s:List Nat) (A:Rs) (q:T Γ t (.node k o ty v s a)) (u:A=E.Ab a) (h:g=A.length∧0≤d∧d+100*(E.node k o ty v s a).nodes≤1000000∧(E.node k o ty v s a).high<n),Ok trees N ⟨[k,o,ty,v,g,d],[s],[A],[]⟩ fun j=>(∃(c:Int),j=(0,(⟨[c],[],[],[]⟩:Ah))∧(c+2≤d+100*(E.node k o ty v s a).nodes)∧(d≤c))
def Aj9 (N:Nat):Prop:=∀{Γ:Ctx} {t:Int} {a:List E} (k o:Int) (ty v:Int) (g d:Int) (s:List Nat) (A:Rs) (q:T Γ t (.node k o ty v s a)) (u:A=E.Ab a) (h:g=A.length∧0≤d∧d+100*(E.node k o ty v s a).nodes≤1000000:=by exact kn),Ok trees N ⟨[k,o,ty,v,g,d],[s],[A],[]⟩ fun j=>(∃(c:Int),j=(0,(⟨[c],[],[],[]⟩:Ah))∧(c+2≤d+100*(E.node k o ty v s a).nodes)∧(d≤c))
theorem KX.of {N n:Nat} (H:Aj9 N):KX N n:=fun {Γ} {t} {a} k o ty v ln sz s A hT hA h=>H k o ty v ln sz s A hT hA (by have:=h;omega)
def Ak5 (o N:Nat) (m n:Nat):Prop:=∀{Γ:Ctx} {a:List E} (d len:Int) (j g:Int) (L:Rs) (u:TL Γ a) (q:L=E.Ab a) (h:d=L.length∧d≤1000∧len=d∧0≤j∧j≤d∧0≤g∧g+100*E.Ae (a.drop j.toNat)≤999970∧E.BX a<m∧(len-j).toNat<n),Ok trees N ⟨[d,len,j,g],[],[L],[]⟩ fun k=>(k=(0,v0)∧(E.Ae (a.drop j.toNat)=0))∨(∃(c:Int),k=(1,(⟨[c],[],[],[]⟩:Ah))∧(c≤g+100*E.Ae (a.drop j.toNat))∧(g≤c))
def Akp (k N:Nat):Prop:=∀{m:Nat} (q:KX k m) {Γ:Ctx} {a:List E} (d len:Int) (j g:Int) (L:Rs) (v:TL Γ a) (u:L=E.Ab a) (h:d=L.length∧d≤1000∧len=d∧0≤j∧j≤d∧0≤g∧g+100*E.Ae (a.drop j.toNat)≤999970∧E.BX a<m:=by exact kn),Ok trees N ⟨[d,len,j,g],[],[L],[]⟩ fun o=>(o=(0,v0)∧(E.Ae (a.drop j.toNat)=0))∨(∃(c:Int),o=(1,(⟨[c],[],[],[]⟩:Ah))∧(c≤g+100*E.Ae (a.drop j.toNat))∧(g≤c))
theorem AgT {m:Nat} (k:KX 97 m) (n:Nat):Ak5 97 100 m n:=by
 induction n with
 |zero=>intro Γ a q len j v L x D h;exact absurd h.2.2.2.2.2.2.2.2 (Nat.not_lt_zero _)
 |succ n ih=>
 intro Γ a q len j v L x D h
 subst D;have hz:=N1 (a:=a) (j:=j)
 refine .of (t:=Wd) rfl ?_
 unfold Wd
 refine lt j len (fun t1=>?_) fun t1=>?_
 ·refine CJ j 0 ?_
  refine BD j q ?_
  obtain ⟨z,H,y,C,A,c,al,J,ab,ak,X,ag⟩:=x.get j om om
  refine el J ?_
  refine gt j 0 (fun t3=>?_) fun t3=>?_
  ·refine bu v ?_
   obtain ⟨_,⟨g,rfl,af,ac⟩,G4⟩:=k z H y C ((E.Ab c).length:Int) (v+2) A (E.Ab c) ‹_› rfl kn
   refine ch G4 ?_
   obtain ⟨_,(⟨rfl,Z⟩|⟨u,rfl,R,O⟩),N⟩:=ih q len (j+1) g (E.Ab a) ‹_› rfl kn
   ·refine ch N ?_
    exact Aj ⟨[g],[],[],[]⟩ (.inr ((⟨_,rfl,kn,kn⟩)))
   refine cm N ?_
   refine ch N ?_
   exact Aj ⟨[u],[],[],[]⟩ (.inr ((⟨_,rfl,kn,kn⟩)))
  obtain ⟨_,⟨d,rfl,aa,aj⟩,G6⟩:=k z H y C ((E.Ab c).length:Int) v A (E.Ab c) ‹_› rfl kn
  refine ch G6 ?_
  obtain ⟨_,(⟨rfl,P⟩|⟨o,rfl,U,Q⟩),M⟩:=ih q len (j+1) d (E.Ab a) ‹_› rfl kn
  ·refine ch M ?_
   exact Aj ⟨[d],[],[],[]⟩ (.inr ((⟨_,rfl,kn,kn⟩)))
  refine cm M ?_
  refine ch M ?_
  exact Aj ⟨[o],[],[],[]⟩ (.inr ((⟨_,rfl,kn,kn⟩)))
 exact Aj v0 (.inl (⟨rfl,kn⟩))
theorem Ajy:Akp 97 100:=fun {m} hC97 {Γ} {a} ln len j sz L hTL hLa h=>AgT @hC97 ((len-j).toNat+1) ln len j sz L hTL hLa ⟨h.1,h.2.1,h.2.2.1,h.2.2.2.1,h.2.2.2.2.1,h.2.2.2.2.2.1,h.2.2.2.2.2.2.1,h.2.2.2.2.2.2.2,Nat.lt_succ_self _⟩
def Amr (j N:Nat):Prop:=∀{m:Nat} (k:KX j m) {Γ:Ctx} {a:List E} (g d:Int) (L:Rs) (u:TL Γ a) (q:L=E.Ab a) (h:g=L.length∧g≤1000∧0≤d∧d+2+100*E.Ae a≤999970∧E.BX a<m:=by exact kn),Ok trees N ⟨[g,d],[],[L],[]⟩ fun o=>(∃(c:Int),o=(0,(⟨[c],[],[],[]⟩:Ah))∧(c≤d+2+100*E.Ae a)∧(d≤c))
theorem Jl:Amr 97 98:=by
 intro m k Γ a o d L g q h
 subst q;have z:=T.len g;have y:E.Ae (a.drop (0:Int).toNat)=E.Ae a:=rfl
 refine .of (t:=AbW) rfl ?_
 unfold AbW
 refine bu d ?_
 obtain ⟨_,(⟨rfl,v⟩|⟨c,rfl,u,x⟩),j⟩:=Ajy @k o o 0 (d+1) (E.Ab a) g rfl
 ·refine ch j ?_
  refine bu (d+1) ?_
  exact Aj ⟨[((d+1)+1)],[],[],[]⟩ (⟨_,rfl,kn,kn⟩)
 refine cm j ?_
 refine ch j ?_
 refine bu c ?_
 exact Aj ⟨[(c+1)],[],[],[]⟩ (⟨_,rfl,kn,kn⟩)
theorem AkM (n:Nat):KX 97 n:=by
 induction n with
 |zero=>intro Γ t a k o ty v g d s A R hA h;exact absurd h.2.2.2 (Nat.not_lt_zero _)
 |succ n ih=>
 intro Γ t a k o ty v g d s A R hA h
 subst hA;have ⟨di,dj,dl⟩:=R.kind;have e1:=R.nodes;have e2:=LW (k:=k) (o:=o) (ty:=ty) (v:=v) (s:=s) (a:=a);have hl:=T.len R.args;have dk:=E.A7 a;have e0:E.Ae (a.drop (0:Int).toNat)=E.Ae a:=rfl;have U:g=(a.length:Int):=by have:=h.1;rw [E.A7]at this;exact this
 rcases R.inv with hv|hv|hv|hv|hv|hv|hv|hv
 ·obtain ⟨rfl,rfl,rfl,rfl,rfl,r1,r2,r3,r4,r5,r6⟩:=hv;simp only [lC,lN]at U;have X:E.Ae []=0:=rfl;have Q:TL Γ []:=R.args
  refine .of (t:=Hh) rfl ?_
  unfold Hh
  refine BI 1 1 ?_
  refine BY g 0 ?_
  refine BY 0 0 ?_
  refine seY [] [] ?_
  refine eq ty 1 (fun J=>?_) fun J=>?_
  ·refine bu d ?_
   exact Aj ⟨[(d+21)],[],[],[]⟩ (⟨_,rfl,kn,kn⟩)
  refine eq ty 2 (fun j=>?_) fun j=>?_
  ·obtain ⟨_,(rfl|rfl),G3⟩:=Alz v (r4 om)
   ·refine ch G3 ?_
    refine bu d ?_
    exact Aj ⟨[(d+34)],[],[],[]⟩ (⟨_,rfl,kn,kn⟩)
   refine cm G3 ?_
   refine ch G3 ?_
   refine bu d ?_
   exact Aj ⟨[(d+33)],[],[],[]⟩ (⟨_,rfl,kn,kn⟩)
  refine BI ty 3 ?_
  refine eq v 0 (fun t4=>?_) fun t4=>?_
  ·refine AQ v 1 ?_
   refine bu d ?_
   exact Aj ⟨[(d+5)],[],[],[]⟩ (⟨_,rfl,kn,kn⟩)
  refine BI v 1 ?_
  refine bu d ?_
  exact Aj ⟨[(d+4)],[],[],[]⟩ (⟨_,rfl,kn,kn⟩)
 ·obtain ⟨rfl,rfl,rfl,rfl,rfl,rfl,r1,r2⟩:=hv;simp only [lC,lN]at U;have X:E.Ae []=0:=rfl;have Q:TL Γ []:=R.args
  refine .of (t:=Hh) rfl ?_
  unfold Hh
  refine AQ 3 1 ?_
  refine AQ 3 2 ?_
  refine BI 3 3 ?_
  refine BY g 0 ?_
  refine BY 0 0 ?_
  refine seY [] [] ?_
  refine En (o-1) 0 ?_
  refine Jc (o-1) 7 ?_
  refine eq (o-1) 0 (fun t5=>?_) fun t5=>?_
  ·refine bu d ?_
   refine BY 0 0 ?_
   exact Aj ⟨[(d+5)],[],[],[]⟩ (⟨_,rfl,kn,kn⟩)
  refine eq (o-1) 1 (fun t6=>?_) fun t6=>?_
  ·refine bu d ?_
   refine BY 0 0 ?_
   exact Aj ⟨[(d+6)],[],[],[]⟩ (⟨_,rfl,kn,kn⟩)
  refine eq (o-1) 2 (fun t7=>?_) fun t7=>?_
  ·refine bu d ?_
   refine BY 0 0 ?_
   exact Aj ⟨[(d+6)],[],[],[]⟩ (⟨_,rfl,kn,kn⟩)
  refine eq (o-1) 3 (fun t8=>?_) fun t8=>?_
  ·refine bu d ?_
   refine BY 0 0 ?_
   exact Aj ⟨[(d+6)],[],[],[]⟩ (⟨_,rfl,kn,kn⟩)
  refine eq (o-1) 4 (fun t9=>?_) fun t9=>?_
  ·refine bu d ?_
   refine BY 0 0 ?_
   exact Aj ⟨[(d+5)],[],[],[]⟩ (⟨_,rfl,kn,kn⟩)
  refine eq (o-1) 5 (fun a7=>?_) fun a7=>?_
  ·refine bu d ?_
   refine BY 0 0 ?_
   exact Aj ⟨[(d+5)],[],[],[]⟩ (⟨_,rfl,kn,kn⟩)
  refine BI (o-1) 6 ?_
  refine bu d ?_
  refine BY 0 0 ?_
  exact Aj ⟨[(d+4)],[],[],[]⟩ (⟨_,rfl,kn,kn⟩)
 ·obtain ⟨rfl,rfl,rfl,rfl,rfl,hs,kk,ii,hk,r1,r2,hg⟩:=hv;simp only [lC,lN]at U;have X:E.Ae []=0:=rfl;have Q:TL Γ []:=R.args;have aO:=Nm.len (s:=s) ‹_›
  refine .of (t:=Hh) rfl ?_
  unfold Hh
  refine AQ 2 1 ?_
  refine BI 2 2 ?_
  refine BY g 0 ?_
  refine BY 0 0 ?_
  refine BY 0 0 ?_
  refine BY 0 0 ?_
  obtain ⟨_,rfl,bN⟩:=FR s (by first|assumption|decide)
  refine ch bN ?_
  refine sl s ?_
  refine bu d ?_
  exact Aj ⟨[(d+64)],[],[],[]⟩ (⟨_,rfl,kn,kn⟩)
 ·obtain ⟨rfl,rfl,rfl,rfl,N,P,J,M,O,q,w,rfl,hu,h1⟩:=hv;simp only [lC,lN]at U;have X:=n1 (x:=.node N P J M O q);have e4:=g1 (x:=.node N P J M O q);have Q:TL Γ [.node N P J M O q]:=R.args;have hr:=hu.rng
  refine .of (t:=Hh) rfl ?_
  unfold Hh
  refine AQ 4 1 ?_
  refine AQ 4 2 ?_
  refine AQ 4 3 ?_
  refine BI 4 4 ?_
  refine BY g 1 ?_
  refine BY 0 0 ?_
  refine seY [] [] ?_
  refine En (o-1) 0 ?_
  refine Jc (o-1) 5 ?_
  refine eq (o-1) 0 (fun bH=>?_) fun bH=>?_
  ·refine bu d ?_
   refine BY 0 0 ?_
   obtain ⟨_,⟨aK,rfl,cy,ce⟩,bf⟩:=Jl @ih g (d+3) (E.Ab [.node N P J M O q]) Q rfl
   refine ch bf ?_
   exact Aj ⟨[aK],[],[],[]⟩ (⟨_,rfl,kn,kn⟩)
  refine eq (o-1) 1 (fun br=>?_) fun br=>?_
  ·refine bu d ?_
   refine BY 0 0 ?_
   obtain ⟨_,⟨aC,rfl,ci,cT⟩,bV⟩:=Jl @ih g (d+3) (E.Ab [.node N P J M O q]) Q rfl
   refine ch bV ?_
   exact Aj ⟨[aC],[],[],[]⟩ (⟨_,rfl,kn,kn⟩)
  refine eq (o-1) 2 (fun bk=>?_) fun bk=>?_
  ·refine bu d ?_
   refine BY 0 0 ?_
   obtain ⟨_,⟨aL,rfl,cC,cj⟩,aX⟩:=Jl @ih g (d+3) (E.Ab [.node N P J M O q]) Q rfl
   refine ch aX ?_
   exact Aj ⟨[aL],[],[],[]⟩ (⟨_,rfl,kn,kn⟩)
  refine eq (o-1) 3 (fun bo=>?_) fun bo=>?_
  ·refine bu d ?_
   refine BY 0 0 ?_
   obtain ⟨_,⟨aG,rfl,b9,cO⟩,aZ⟩:=Jl @ih g (d+3) (E.Ab [.node N P J M O q]) Q rfl
   refine ch aZ ?_
   exact Aj ⟨[aG],[],[],[]⟩ (⟨_,rfl,kn,kn⟩)
  refine BI (o-1) 4 ?_
  refine bu d ?_
  refine BY 0 0 ?_
  obtain ⟨_,⟨aF,rfl,cV,co⟩,bz⟩:=Jl @ih g (d+3) (E.Ab [.node N P J M O q]) Q rfl
  refine ch bz ?_
  exact Aj ⟨[aF],[],[],[]⟩ (⟨_,rfl,kn,kn⟩)
 ·obtain ⟨rfl,rfl,rfl,rfl,N,P,J,M,O,q,D,u,j,H,C,b2,w,rfl,hu,h1,h2⟩:=hv;simp only [lC,lN]at U;have X:=n2 (x:=.node N P J M O q) (y:=.node D u j H C b2);have e4:=g2 (x:=.node N P J M O q) (y:=.node D u j H C b2);have Q:TL Γ [.node N P J M O q,.node D u j H C b2]:=R.args;have hr:=hu.rng
  refine .of (t:=Hh) rfl ?_
  unfold Hh
  refine AQ 5 1 ?_
  refine AQ 5 2 ?_
  refine AQ 5 3 ?_
  refine AQ 5 4 ?_
  refine BI 5 5 ?_
  refine BY g 2 ?_
  refine BY 0 0 ?_
  refine seY [] [] ?_
  refine BI g 2 ?_
  refine eq o 22 (fun bF=>?_) fun bF=>?_
  ·refine En (o-22) 0 ?_
   refine Jc (o-22) 2 ?_
   refine BI (o-22) 0 ?_
   refine bu d ?_
   refine BY 0 0 ?_
   obtain ⟨_,⟨az,rfl,cz,ct⟩,a5⟩:=Jl @ih g (d+3) (E.Ab [.node N P J M O q,.node D u j H C b2]) Q rfl
   refine ch a5 ?_
   exact Aj ⟨[az],[],[],[]⟩ (⟨_,rfl,kn,kn⟩)
  refine eq o 23 (fun be=>?_) fun be=>?_
  ·refine En (o-22) 0 ?_
   refine Jc (o-22) 2 ?_
   refine AQ (o-22) 0 ?_
   refine BI (o-22) 1 ?_
   refine bu d ?_
   refine BY 0 0 ?_
   obtain ⟨_,⟨aJ,rfl,cY,cg⟩,bt⟩:=Jl @ih g (d+3) (E.Ab [.node N P J M O q,.node D u j H C b2]) Q rfl
   refine ch bt ?_
   exact Aj ⟨[aJ],[],[],[]⟩ (⟨_,rfl,kn,kn⟩)
  refine bu d ?_
  refine BD 0 g ?_
  refine el (j':=0) rfl ?_
  refine BY 0 0 ?_
  obtain ⟨_,⟨c,rfl,cp,cJ⟩,bQ⟩:=ih N P J M ((E.Ab q).length:Int) (d+1) O (E.Ab q) ‹_› rfl kn
  refine ch bQ ?_
  refine bu c ?_
  refine En (o-10) 0 ?_
  refine Jc (o-10) 20 ?_
  refine eq (o-10) 0 (fun bE=>?_) fun bE=>?_
  ·refine bu (c+1) ?_
   refine bu ((c+1)+1) ?_
   refine BD 1 g ?_
   refine el (j':=1) rfl ?_
   obtain ⟨_,⟨ap,rfl,cv,cM⟩,bg⟩:=ih D u j H ((E.Ab b2).length:Int) (((c+1)+1)+1) C (E.Ab b2) ‹_› rfl kn
   refine ch bg ?_
   refine bu ap ?_
   exact Aj ⟨[(ap+1)],[],[],[]⟩ (⟨_,rfl,kn,kn⟩)
  refine eq (o-10) 1 (fun bD=>?_) fun bD=>?_
  ·refine bu (c+1) ?_
   refine bu ((c+1)+1) ?_
   refine BD 1 g ?_
   refine el (j':=1) rfl ?_
   obtain ⟨_,⟨ai,rfl,cx,cr⟩,bR⟩:=ih D u j H ((E.Ab b2).length:Int) (((c+1)+1)+1) C (E.Ab b2) ‹_› rfl kn
   refine ch bR ?_
   refine bu ai ?_
   exact Aj ⟨[(ai+1)],[],[],[]⟩ (⟨_,rfl,kn,kn⟩)
  refine eq (o-10) 2 (fun bS=>?_) fun bS=>?_
  ·refine bu (c+1) ?_
   refine bu ((c+1)+1) ?_
   refine BD 1 g ?_
   refine el (j':=1) rfl ?_
   obtain ⟨_,⟨al,rfl,c2,cu⟩,bw⟩:=ih D u j H ((E.Ab b2).length:Int) (((c+1)+1)+1) C (E.Ab b2) ‹_› rfl kn
   refine ch bw ?_
   refine bu al ?_
   exact Aj ⟨[(al+1)],[],[],[]⟩ (⟨_,rfl,kn,kn⟩)
  refine eq (o-10) 3 (fun a9=>?_) fun a9=>?_
  ·refine bu (c+1) ?_
   refine bu ((c+1)+1) ?_
   refine BD 1 g ?_
   refine el (j':=1) rfl ?_
   obtain ⟨_,⟨av,rfl,cQ,b8⟩,bI⟩:=ih D u j H ((E.Ab b2).length:Int) (((c+1)+1)+1) C (E.Ab b2) ‹_› rfl kn
   refine ch bI ?_
   refine bu av ?_
   exact Aj ⟨[(av+1)],[],[],[]⟩ (⟨_,rfl,kn,kn⟩)
  refine eq (o-10) 4 (fun bJ=>?_) fun bJ=>?_
  ·refine bu (c+1) ?_
   refine bu ((c+1)+1) ?_
   refine BD 1 g ?_
   refine el (j':=1) rfl ?_
   obtain ⟨_,⟨ah,rfl,cK,c4⟩,bp⟩:=ih D u j H ((E.Ab b2).length:Int) (((c+1)+1)+1) C (E.Ab b2) ‹_› rfl kn
   refine ch bp ?_
   refine bu ah ?_
   exact Aj ⟨[(ah+1)],[],[],[]⟩ (⟨_,rfl,kn,kn⟩)
  refine eq (o-10) 5 (fun aW=>?_) fun aW=>?_
  ·refine bu (c+1) ?_
   refine bu ((c+1)+2) ?_
   refine BD 1 g ?_
   refine el (j':=1) rfl ?_
   obtain ⟨_,⟨ac,rfl,cn,cS⟩,bO⟩:=ih D u j H ((E.Ab b2).length:Int) (((c+1)+2)+1) C (E.Ab b2) ‹_› rfl kn
   refine ch bO ?_
   refine bu ac ?_
   exact Aj ⟨[(ac+1)],[],[],[]⟩ (⟨_,rfl,kn,kn⟩)
  refine eq (o-10) 6 (fun aV=>?_) fun aV=>?_
  ·refine bu (c+1) ?_
   refine bu ((c+1)+2) ?_
   refine BD 1 g ?_
   refine el (j':=1) rfl ?_
   obtain ⟨_,⟨ab,rfl,b4,cD⟩,bB⟩:=ih D u j H ((E.Ab b2).length:Int) (((c+1)+2)+1) C (E.Ab b2) ‹_› rfl kn
   refine ch bB ?_
   refine bu ab ?_
   exact Aj ⟨[(ab+1)],[],[],[]⟩ (⟨_,rfl,kn,kn⟩)
  refine eq (o-10) 7 (fun a3=>?_) fun a3=>?_
  ·refine bu (c+1) ?_
   refine bu ((c+1)+1) ?_
   refine BD 1 g ?_
   refine el (j':=1) rfl ?_
   obtain ⟨_,⟨aa,rfl,cq,bY⟩,bM⟩:=ih D u j H ((E.Ab b2).length:Int) (((c+1)+1)+1) C (E.Ab b2) ‹_› rfl kn
   refine ch bM ?_
   refine bu aa ?_
   exact Aj ⟨[(aa+1)],[],[],[]⟩ (⟨_,rfl,kn,kn⟩)
  refine eq (o-10) 8 (fun bj=>?_) fun bj=>?_
  ·refine bu (c+1) ?_
   refine bu ((c+1)+1) ?_
   refine BD 1 g ?_
   refine el (j':=1) rfl ?_
   obtain ⟨_,⟨aw,rfl,c5,cR⟩,bv⟩:=ih D u j H ((E.Ab b2).length:Int) (((c+1)+1)+1) C (E.Ab b2) ‹_› rfl kn
   refine ch bv ?_
   refine bu aw ?_
   exact Aj ⟨[(aw+1)],[],[],[]⟩ (⟨_,rfl,kn,kn⟩)
  refine eq (o-10) 9 (fun bl=>?_) fun bl=>?_
  ·refine bu (c+1) ?_
   refine bu ((c+1)+1) ?_
   refine BD 1 g ?_
   refine el (j':=1) rfl ?_
   obtain ⟨_,⟨ak,rfl,cZ,cB⟩,bU⟩:=ih D u j H ((E.Ab b2).length:Int) (((c+1)+1)+1) C (E.Ab b2) ‹_› rfl kn
   refine ch bU ?_
   refine bu ak ?_
   exact Aj ⟨[(ak+1)],[],[],[]⟩ (⟨_,rfl,kn,kn⟩)
  refine eq (o-10) 10 (fun ba=>?_) fun ba=>?_
  ·refine bu (c+1) ?_
   refine bu ((c+1)+2) ?_
   refine BD 1 g ?_
   refine el (j':=1) rfl ?_
   obtain ⟨_,⟨aq,rfl,cL,bX⟩,bh⟩:=ih D u j H ((E.Ab b2).length:Int) (((c+1)+2)+1) C (E.Ab b2) ‹_› rfl kn
   refine ch bh ?_
   refine bu aq ?_
   exact Aj ⟨[(aq+1)],[],[],[]⟩ (⟨_,rfl,kn,kn⟩)
  refine eq (o-10) 11 (fun a8=>?_) fun a8=>?_
  ·refine bu (c+1) ?_
   refine bu ((c+1)+2) ?_
   refine BD 1 g ?_
   refine el (j':=1) rfl ?_
   obtain ⟨_,⟨au,rfl,c1,cW⟩,bi⟩:=ih D u j H ((E.Ab b2).length:Int) (((c+1)+2)+1) C (E.Ab b2) ‹_› rfl kn
   refine ch bi ?_
   refine bu au ?_
   exact Aj ⟨[(au+1)],[],[],[]⟩ (⟨_,rfl,kn,kn⟩)
  refine AQ (o-10) 12 ?_
  refine AQ (o-10) 13 ?_
  refine eq (o-10) 14 (fun bc=>?_) fun bc=>?_
  ·refine bu (c+1) ?_
   refine bu ((c+1)+2) ?_
   refine BD 1 g ?_
   refine el (j':=1) rfl ?_
   obtain ⟨_,⟨ad,rfl,c6,cP⟩,aY⟩:=ih D u j H ((E.Ab b2).length:Int) (((c+1)+2)+1) C (E.Ab b2) ‹_› rfl kn
   refine ch aY ?_
   refine bu ad ?_
   exact Aj ⟨[(ad+1)],[],[],[]⟩ (⟨_,rfl,kn,kn⟩)
  refine eq (o-10) 15 (fun bx=>?_) fun bx=>?_
  ·refine bu (c+1) ?_
   refine bu ((c+1)+2) ?_
   refine BD 1 g ?_
   refine el (j':=1) rfl ?_
   obtain ⟨_,⟨ae,rfl,cH,cd⟩,a1⟩:=ih D u j H ((E.Ab b2).length:Int) (((c+1)+2)+1) C (E.Ab b2) ‹_› rfl kn
   refine ch a1 ?_
   refine bu ae ?_
   exact Aj ⟨[(ae+1)],[],[],[]⟩ (⟨_,rfl,kn,kn⟩)
  refine eq (o-10) 16 (fun bL=>?_) fun bL=>?_
  ·refine bu (c+1) ?_
   refine bu ((c+1)+1) ?_
   refine BD 1 g ?_
   refine el (j':=1) rfl ?_
   obtain ⟨_,⟨ao,rfl,cN,cE⟩,bC⟩:=ih D u j H ((E.Ab b2).length:Int) (((c+1)+1)+1) C (E.Ab b2) ‹_› rfl kn
   refine ch bC ?_
   refine bu ao ?_
   exact Aj ⟨[(ao+1)],[],[],[]⟩ (⟨_,rfl,kn,kn⟩)
  refine eq (o-10) 17 (fun bq=>?_) fun bq=>?_
  ·refine bu (c+1) ?_
   refine bu ((c+1)+2) ?_
   refine BD 1 g ?_
   refine el (j':=1) rfl ?_
   obtain ⟨_,⟨Z,rfl,bZ,cF⟩,a0⟩:=ih D u j H ((E.Ab b2).length:Int) (((c+1)+2)+1) C (E.Ab b2) ‹_› rfl kn
   refine ch a0 ?_
   refine bu Z ?_
   exact Aj ⟨[(Z+1)],[],[],[]⟩ (⟨_,rfl,kn,kn⟩)
  refine eq (o-10) 18 (fun bK=>?_) fun bK=>?_
  ·refine bu (c+1) ?_
   refine bu ((c+1)+1) ?_
   refine BD 1 g ?_
   refine el (j':=1) rfl ?_
   obtain ⟨_,⟨am,rfl,cX,cf⟩,bA⟩:=ih D u j H ((E.Ab b2).length:Int) (((c+1)+1)+1) C (E.Ab b2) ‹_› rfl kn
   refine ch bA ?_
   refine bu am ?_
   exact Aj ⟨[(am+1)],[],[],[]⟩ (⟨_,rfl,kn,kn⟩)
  refine BI (o-10) 19 ?_
  refine bu (c+1) ?_
  refine bu ((c+1)+2) ?_
  refine BD 1 g ?_
  refine el (j':=1) rfl ?_
  obtain ⟨_,⟨ax,rfl,c3,cU⟩,bd⟩:=ih D u j H ((E.Ab b2).length:Int) (((c+1)+2)+1) C (E.Ab b2) ‹_› rfl kn
  refine ch bd ?_
  refine bu ax ?_
  exact Aj ⟨[(ax+1)],[],[],[]⟩ (⟨_,rfl,kn,kn⟩)
 ·obtain ⟨rfl,rfl,rfl,rfl,rfl,N,P,J,M,O,q,D,u,j,H,C,b2,k3,o3,t3,v3,s3,b3,rfl,h1,h2,h3⟩:=hv;simp only [lC,lN]at U;have X:=n3 (x:=.node N P J M O q) (y:=.node D u j H C b2) (z:=.node k3 o3 t3 v3 s3 b3);have e4:=g3 (x:=.node N P J M O q) (y:=.node D u j H C b2) (z:=.node k3 o3 t3 v3 s3 b3);have Q:TL Γ [.node N P J M O q,.node D u j H C b2,.node k3 o3 t3 v3 s3 b3]:=R.args
  refine .of (t:=Hh) rfl ?_
  unfold Hh
  refine AQ 6 1 ?_
  refine AQ 6 2 ?_
  refine AQ 6 3 ?_
  refine AQ 6 4 ?_
  refine AQ 6 5 ?_
  refine BI 6 6 ?_
  refine BY g 3 ?_
  refine BY 0 0 ?_
  refine BY 0 0 ?_
  refine seY [] [] ?_
  refine BI g 3 ?_
  refine bu d ?_
  refine BD 0 g ?_
  refine el (j':=0) rfl ?_
  refine BY 0 0 ?_
  obtain ⟨_,⟨af,rfl,cb,cA⟩,bn⟩:=ih N P J M ((E.Ab q).length:Int) (d+1) O (E.Ab q) ‹_› rfl kn
  refine ch bn ?_
  refine bu af ?_
  refine BD 1 g ?_
  refine el (j':=1) rfl ?_
  obtain ⟨_,⟨an,rfl,b7,cw⟩,bW⟩:=ih D u j H ((E.Ab b2).length:Int) (af+3) C (E.Ab b2) ‹_› rfl kn
  refine ch bW ?_
  refine bu an ?_
  refine BD 2 g ?_
  refine el (j':=2) rfl ?_
  obtain ⟨_,⟨aj,rfl,cc,b5⟩,a4⟩:=ih k3 o3 t3 v3 ((E.Ab b3).length:Int) (an+3) s3 (E.Ab b3) ‹_› rfl kn
  refine ch a4 ?_
  refine bu aj ?_
  exact Aj ⟨[(aj+1)],[],[],[]⟩ (⟨_,rfl,kn,kn⟩)
 ·obtain ⟨rfl,rfl,rfl,rfl,hs,N,P,J,M,O,q,ii,rfl,r1,r2,hg,h1⟩:=hv;simp only [lC,lN]at U;have X:=n1 (x:=.node N P J M O q);have e4:=g1 (x:=.node N P J M O q);have Q:TL Γ [.node N P J M O q]:=R.args;have aO:=Nm.len (s:=s) ‹_›
  refine .of (t:=Hh) rfl ?_
  unfold Hh
  refine AQ 7 1 ?_
  refine AQ 7 2 ?_
  refine AQ 7 3 ?_
  refine AQ 7 4 ?_
  refine AQ 7 5 ?_
  refine AQ 7 6 ?_
  refine BI 7 7 ?_
  obtain ⟨_,rfl,bb⟩:=FR s (by first|assumption|decide)
  refine ch bb ?_
  refine sl s ?_
  refine bu d ?_
  refine BY g 1 ?_
  refine BY 0 0 ?_
  refine BY 0 0 ?_
  refine BI g 1 ?_
  refine BD 0 g ?_
  refine el (j':=0) rfl ?_
  refine bu (d+64) ?_
  refine BY 0 0 ?_
  obtain ⟨_,⟨ag,rfl,cI,b0⟩,bG⟩:=ih N P J M ((E.Ab q).length:Int) ((d+64)+1) O (E.Ab q) ‹_› rfl kn
  refine ch bG ?_
  refine bu ag ?_
  exact Aj ⟨[(ag+1)],[],[],[]⟩ (⟨_,rfl,kn,kn⟩)
 ·obtain ⟨rfl,rfl,rfl,rfl,rfl,N,P,J,M,O,q,D,u,j,H,C,b2,ii,rfl,rfl,hg,h1,h2⟩:=hv;simp only [lC,lN]at U;have X:=n2 (x:=.node N P J M O q) (y:=.node D u j H C b2);have e4:=g2 (x:=.node N P J M O q) (y:=.node D u j H C b2);have Q:TL Γ [.node N P J M O q,.node D u j H C b2]:=R.args;have aO:=Nm.len (s:=[104]) (by decide)
  refine .of (t:=Hh) rfl ?_
  unfold Hh
  refine AQ 8 1 ?_
  refine AQ 8 2 ?_
  refine AQ 8 3 ?_
  refine AQ 8 4 ?_
  refine AQ 8 5 ?_
  refine AQ 8 6 ?_
  refine AQ 8 7 ?_
  refine BI 8 8 ?_
  refine BY g g ?_
  refine BY 0 0 ?_
  refine BY 0 0 ?_
  refine BY 0 0 ?_
  obtain ⟨_,rfl,bT⟩:=FR [104] (by first|assumption|decide)
  refine ch bT ?_
  refine sl [104] ?_
  refine bu d ?_
  obtain ⟨_,⟨aE,rfl,b6,cG⟩,bP⟩:=Jl @ih g (d+64) (E.Ab [.node N P J M O q,.node D u j H C b2]) Q rfl
  refine ch bP ?_
  exact Aj ⟨[aE],[],[],[]⟩ (⟨_,rfl,kn,kn⟩)
theorem EH:Aj9 97:=fun {Γ} {t} {a} k o ty v ln sz s A hT hA h=>AkM ((E.node k o ty v s a).high+1) k o ty v ln sz s A hT hA ⟨h.1,h.2.1,h.2.2,Nat.lt_succ_self _⟩
end Go.Proofs.YtbmofjdmgjpfoaaGreatDoor.Am
end
section
set_option maxHeartbeats 4000000
set_option maxRecDepth 100000
namespace Go.Proofs.YtbmofjdmgjpfoaaGreatDoor.Am
open Go.AM Go.AM.K
def Am0 (N:Nat):Prop:=∀(k o:Int) (t b:Int) (C M:Int) (y H:Int) (z yk:Int) (v g:Int) (q j:Int) (c d O:Int) (nm A u:List Nat) (X Y:Rs) (D J:Rs) (P:u=[]) (h:o=0∧b=0∧yk=0∧v=0∧g=0∧q=0∧j=0∧c=0∧d=0:=by exact kn),Ok trees N ⟨[k,o,t,b,C,M,y,H,z,yk,v,g,q,j,c,d,O],[nm,A,u],[X,Y,D,J],[]⟩ fun x=>(x=(0,v0))
theorem Al6:Am0 88:=by
 intro k o t b H N y M D yk q g u j c d C nm z v X Y J A x h
 refine .of (t:=Acg) rfl ?_
 unfold Acg
 refine Cp o 0 ?_
 refine Cp b 0 ?_
 refine Cp yk 0 ?_
 refine Cp q 0 ?_
 refine Cp g 0 ?_
 refine XB v ?_
 refine Cp u 0 ?_
 refine Cp j 0 ?_
 refine Cp c 0 ?_
 refine Cp d 0 ?_
 exact Aj v0 (rfl)
def Amz (N:Nat):Prop:=∀(k o:Int) (t b:Int) (C M:Int) (y H:Int) (z yk:Int) (v g:Int) (q j:Int) (c d O:Int) (nm A u:List Nat) (X Y:Rs) (D J:Rs) (P:u=[]) (h:o=0∧t=0∧b=0∧yk=0∧v=0∧g=0∧q=0∧j=0∧c=0∧d=0:=by exact kn),Ok trees N ⟨[k,o,t,b,C,M,y,H,z,yk,v,g,q,j,c,d,O],[nm,A,u],[X,Y,D,J],[]⟩ fun x=>(x=(0,v0))
theorem Al5:Amz 89:=by
 intro k o t b H N y M D yk q g u j c d C nm z v X Y J A x h
 refine .of (t:=Acf) rfl ?_
 unfold Acf
 refine Cp o 0 ?_
 refine Cp t 0 ?_
 refine Cp b 0 ?_
 refine Cp yk 0 ?_
 refine Cp q 0 ?_
 refine Cp g 0 ?_
 refine XB v ?_
 refine Cp u 0 ?_
 refine Cp j 0 ?_
 refine Cp c 0 ?_
 refine Cp d 0 ?_
 exact Aj v0 (rfl)
def Amy (N:Nat):Prop:=∀(k o:Int) (t b:Int) (C M:Int) (q H:Int) (v yk:Int) (z g:Int) (x u:Int) (c d O:Int) (nm A y:List Nat) (X Y:Rs) (D J:Rs) (h:o=0∧t=0∧b=0∧c=0∧d=0:=by exact kn),Ok trees N ⟨[k,o,t,b,C,M,q,H,v,yk,z,g,x,u,c,d,O],[nm,A,y],[X,Y,D,J],[]⟩ fun j=>(j=(0,v0))
theorem Al4:Amy 90:=by
 intro k o t b D M j J A yk x g z q c d y nm u C X Y H v h
 refine .of (t:=Ace) rfl ?_
 unfold Ace
 refine Cp o 0 ?_
 refine Cp t 0 ?_
 refine Cp b 0 ?_
 refine Cp c 0 ?_
 refine Cp d 0 ?_
 exact Aj v0 (rfl)
def Amx (N:Nat):Prop:=∀(k o:Int) (t b:Int) (C M:Int) (y H:Int) (z yk:Int) (u c:Int) (j g:Int) (d v O:Int) (nm A q:List Nat) (X Y:Rs) (D J:Rs) (P:nm=[]) (Q:q=[]) (h:o=0∧t=0∧b=0∧yk=0∧u=0∧c=0∧j=0∧g=0:=by exact kn),Ok trees N ⟨[k,o,t,b,C,M,y,H,z,yk,u,c,j,g,d,v,O],[nm,A,q],[X,Y,D,J],[]⟩ fun x=>(x=(0,v0))
theorem Al3:Amx 91:=by
 intro k o t b J O z N H yk g c j d v y D nm A q X Y M C x u h
 refine .of (t:=Acd) rfl ?_
 unfold Acd
 refine Cp o 0 ?_
 refine Cp t 0 ?_
 refine Cp b 0 ?_
 refine XB nm ?_
 refine Cp yk 0 ?_
 refine Cp g 0 ?_
 refine Cp c 0 ?_
 refine XB q ?_
 refine Cp j 0 ?_
 refine Cp d 0 ?_
 exact Aj v0 (rfl)
def Amw (N:Nat):Prop:=∀(k o:Int) (t b:Int) (C M:Int) (y H:Int) (z yk:Int) (v d:Int) (q j:Int) (g c O:Int) (nm A u:List Nat) (X Y:Rs) (D J:Rs) (P:nm=[]) (Q:u=[]) (h:o=0∧t=0∧yk=0∧v=0∧d=0∧q=0∧j=0∧c=0:=by exact kn),Ok trees N ⟨[k,o,t,b,C,M,y,H,z,yk,v,d,q,j,g,c,O],[nm,A,u],[X,Y,D,J],[]⟩ fun x=>(x=(0,v0))
theorem Al2:Amw 92:=by
 intro k o t b J O z N H yk j d q g x c D nm A u X Y M C y v h
 refine .of (t:=Acb) rfl ?_
 unfold Acb
 refine Cp o 0 ?_
 refine Cp t 0 ?_
 refine XB nm ?_
 refine Cp yk 0 ?_
 refine Cp j 0 ?_
 refine Cp d 0 ?_
 refine XB u ?_
 refine Cp q 0 ?_
 refine Cp g 0 ?_
 refine Cp c 0 ?_
 exact Aj v0 (rfl)
def Amv (N:Nat):Prop:=∀(k o:Int) (t b:Int) (A D:Int) (j C:Int) (u yk:Int) (y g:Int) (v q:Int) (c d O:Int) (nm z x:List Nat) (X Y:Rs) (J M:Rs) (Q:nm=[]) (P:z=[]) (R:x=[]) (h:o=0∧t=0∧b=0∧A=0∧D=0∧j=0∧C=0∧u=0∧yk=0∧y=0∧g=0∧v=0∧q=0∧c=0∧d=0:=by exact kn),Ok trees N ⟨[k,o,t,b,A,D,j,C,u,yk,y,g,v,q,c,d,O],[nm,z,x],[X,Y,J,M],[]⟩ fun H=>(H=(0,v0))
theorem Ad0:Amv 93:=by
 intro k o t b A D j C y yk v g x q c d O nm u z X Y P N J M H h
 refine .of (t:=Aca) rfl ?_
 unfold Aca
 refine Cp o 0 ?_
 refine Cp t 0 ?_
 refine Cp b 0 ?_
 refine XB nm ?_
 refine Cp A 0 ?_
 refine Cp D 0 ?_
 refine Cp j 0 ?_
 refine XB u ?_
 refine Cp C 0 ?_
 refine Cp y 0 ?_
 refine Cp yk 0 ?_
 refine Cp v 0 ?_
 refine Cp g 0 ?_
 refine XB z ?_
 refine Cp x 0 ?_
 refine Cp q 0 ?_
 refine Cp c 0 ?_
 refine Cp d 0 ?_
 exact Aj v0 (rfl)
def Amu (N:Nat):Prop:=∀(k o:Int) (t b:Int) (A D:Int) (j C:Int) (u yk:Int) (y g:Int) (v q:Int) (c d O:Int) (nm z x:List Nat) (X Y:Rs) (J M:Rs) (Q:nm=[]) (P:z=[]) (R:x=[]) (h:t=0∧b=0∧A=0∧D=0∧j=0∧C=0∧u=0∧yk=0∧y=0∧g=0∧v=0∧q=0∧c=0∧d=0:=by exact kn),Ok trees N ⟨[k,o,t,b,A,D,j,C,u,yk,y,g,v,q,c,d,O],[nm,z,x],[X,Y,J,M],[]⟩ fun H=>(H=(0,v0))
theorem Al1:Amu 94:=by
 intro k o t b A D j C y yk v g x q c d O nm u z X Y P N J M H h
 refine .of (t:=AbZ) rfl ?_
 unfold AbZ
 refine Cp t 0 ?_
 refine Cp b 0 ?_
 refine XB nm ?_
 refine Cp A 0 ?_
 refine Cp D 0 ?_
 refine Cp j 0 ?_
 refine XB u ?_
 refine Cp C 0 ?_
 refine Cp y 0 ?_
 refine Cp yk 0 ?_
 refine Cp v 0 ?_
 refine Cp g 0 ?_
 refine XB z ?_
 refine Cp x 0 ?_
 refine Cp q 0 ?_
 refine Cp c 0 ?_
 refine Cp d 0 ?_
 exact Aj v0 (rfl)
def Amt (N:Nat):Prop:=∀(k o:Int) (t b:Int) (C M:Int) (q H:Int) (v yk:Int) (z g:Int) (x u:Int) (c d O:Int) (nm A y:List Nat) (X Y:Rs) (D J:Rs) (h:t=0∧b=0∧c=0∧d=0:=by exact kn),Ok trees N ⟨[k,o,t,b,C,M,q,H,v,yk,z,g,x,u,c,d,O],[nm,A,y],[X,Y,D,J],[]⟩ fun j=>(j=(0,v0))
theorem AiL:Amt 95:=by
 intro k o t b D M j J A yk x g z q c d y nm u C X Y H v h
 refine .of (t:=AbY) rfl ?_
 unfold AbY
 refine Cp t 0 ?_
 refine Cp b 0 ?_
 refine Cp c 0 ?_
 refine Cp d 0 ?_
 exact Aj v0 (rfl)
def Ams (N:Nat):Prop:=∀(k o:Int) (t b:Int) (C M:Int) (y H:Int) (z yk:Int) (v g:Int) (q j:Int) (c d O:Int) (nm A u:List Nat) (X Y:Rs) (D J:Rs) (P:u=[]) (h:t=0∧b=0∧yk=0∧v=0∧g=0∧q=0∧j=0∧c=0∧d=0:=by exact kn),Ok trees N ⟨[k,o,t,b,C,M,y,H,z,yk,v,g,q,j,c,d,O],[nm,A,u],[X,Y,D,J],[]⟩ fun x=>(x=(0,v0))
theorem Al0:Ams 96:=by
 intro k o t b H N y M D yk q g u j c d C nm z v X Y J A x h
 refine .of (t:=AbX) rfl ?_
 unfold AbX
 refine Cp t 0 ?_
 refine Cp b 0 ?_
 refine Cp yk 0 ?_
 refine Cp q 0 ?_
 refine Cp g 0 ?_
 refine XB v ?_
 refine Cp u 0 ?_
 refine Cp j 0 ?_
 refine Cp c 0 ?_
 refine Cp d 0 ?_
 exact Aj v0 (rfl)
end Go.Proofs.YtbmofjdmgjpfoaaGreatDoor.Am
end
section
set_option maxHeartbeats 4000000
set_option maxRecDepth 100000
namespace Go.Proofs.YtbmofjdmgjpfoaaGreatDoor.Am
open Go.AM Go.AM.K
def RB (N n:Nat):Prop:=∀{l:List S} (j d:Int) (g:List Nat) (L:Rs) (q:PL l) (o:L=S.Ab l) (h:j=L.length∧j≤200000∧0≤d∧d+400*S.Ae l≤999680∧g.length+2*(S.Ax l+1)≤62∧S.Ax l<n),Ok trees N ⟨[j,d],[g],[L],[]⟩ fun k=>(∃(c:Int),k=(0,(⟨[c],[],[],[]⟩:Ah))∧(c≤d+67+400*S.Ae l)∧(d≤c))
def AjA (N:Nat):Prop:=∀{l:List S} (j d:Int) (g:List Nat) (L:Rs) (q:PL l) (o:L=S.Ab l) (h:j=L.length∧j≤200000∧0≤d∧d+400*S.Ae l≤999680∧g.length+2*(S.Ax l+1)≤62:=by exact kn),Ok trees N ⟨[j,d],[g],[L],[]⟩ fun k=>(∃(c:Int),k=(0,(⟨[c],[],[],[]⟩:Ah))∧(c≤d+67+400*S.Ae l)∧(d≤c))
theorem RB.of {N n:Nat} (H:AjA N):RB N n:=fun {l} ln sz ind L hO hLs h=>H ln sz ind L hO hLs (by have:=h;omega)
def Am1 (U N:Nat):Prop:=∀{m:Nat} (ab:RB U m) {z q:List E} {c el:List S} (k o:Int) (t b:Int) (D J:Int) (v H:Int) (Z yk:Int) (y u:Int) (A R:Int) (M O d:Int) (nm x:List Nat) (C g:List Nat) (X Y:Rs) (Q P:Rs) (hS:PS (.node k o t b nm (.node D J v H x z) (.node yk y u A C q) c el)) (hX:X=E.Ab z) (hY:Y=E.Ab q) (hB:Q=S.Ab c) (hE:P=S.Ab el) (h:Z=X.length∧R=Y.length∧M=Q.length∧O=P.length∧0≤d∧d+400*(1+(E.node D J v H x z).nodes+(E.node yk y u A C q).nodes+S.Ae c+S.Ae el)≤1000000∧g.length+2*(S.Ax c+1)≤62∧g.length+2*(S.Ax el+1)≤62∧S.Ax c<m∧S.Ax el<m:=by exact kn),Ok trees N ⟨[k,o,t,b,D,J,v,H,Z,yk,y,u,A,R,M,O,d],[nm,x,C,g],[X,Y,Q,P],[]⟩ fun zz=>(∃(j:Int),zz=(0,(⟨[j],[],[],[]⟩:Ah))∧(j+66≤d+400*(1+(E.node D J v H x z).nodes+(E.node yk y u A C q).nodes+S.Ae c+S.Ae el))∧(d≤j))
theorem Al7:Am1 84 87:=by
 intro m ah g Q bo el k o t b H A D z q yk R Z yw v M J c nm C U al X Y Bo El hS hX hY hB hE h
 subst hX;subst hY;subst hB;subst hE;have dF:=S.len bo;have dH:=S.len el;have dE:=S.A7 bo;have dC:=S.A7 el;have P:=h;simp only [E.A7,S.A7]at P
 obtain ⟨⟨Γ,hv⟩,dD,dG⟩:=hS.inv;rcases hv with hv|hv|hv|hv|hv|hv|⟨rfl|rfl,hv⟩|⟨rfl|rfl,hv⟩|hv|hv|hv
 ·obtain ⟨rfl,rfl,rfl,j,rfl,rfl,O,r1,r2,hx,_⟩:=hv;obtain ⟨rfl,rfl,rfl,rfl,rfl,rfl⟩:=j;have ez:(E.node 0 0 0 0 [] []).nodes=0:=rfl;have es:S.Ae []=0:=rfl;have ag:=O.len;simp only [lN]at P
  refine .of (t:=Ej) rfl ?_
  unfold Ej
  refine BI 1 1 ?_
  obtain ⟨_,rfl,G1⟩:=Al6 1 0 t 0 H A D z q 0 0 0 0 v M J c nm C [] (E.Ab g) (E.Ab []) (S.Ab []) (S.Ab []) rfl
  refine ch G1 ?_
  refine bu c ?_
  obtain ⟨_,rfl,G2⟩:=FR nm O
  refine ch G2 ?_
  refine sl nm ?_
  refine bu (c+4) ?_
  refine bu ((c+4)+64) ?_
  refine En (t-1) 0 ?_
  refine Jc (t-1) 3 ?_
  refine eq (t-1) 0 (fun t3=>?_) fun t3=>?_
  ·refine bu (((c+4)+64)+1) ?_
   refine bu ((((c+4)+64)+1)+3) ?_
   obtain ⟨_,⟨aN,rfl,dx,c9⟩,G4⟩:=EH H A D z q (((((c+4)+64)+1)+3)+3) C (E.Ab g) ‹_› rfl
   refine ch G4 ?_
   exact Aj ⟨[aN],[],[],[]⟩ (⟨_,rfl,kn,kn⟩)
  refine eq (t-1) 1 (fun t5=>?_) fun t5=>?_
  ·refine bu (((c+4)+64)+1) ?_
   refine bu ((((c+4)+64)+1)+3) ?_
   obtain ⟨_,⟨aM,rfl,dj,dp⟩,G6⟩:=EH H A D z q (((((c+4)+64)+1)+3)+3) C (E.Ab g) ‹_› rfl
   refine ch G6 ?_
   exact Aj ⟨[aM],[],[],[]⟩ (⟨_,rfl,kn,kn⟩)
  refine BI (t-1) 2 ?_
  refine bu (((c+4)+64)+1) ?_
  refine bu ((((c+4)+64)+1)+4) ?_
  obtain ⟨_,⟨aO,rfl,dt,dA⟩,G7⟩:=EH H A D z q (((((c+4)+64)+1)+4)+3) C (E.Ab g) ‹_› rfl
  refine ch G7 ?_
  exact Aj ⟨[aO],[],[],[]⟩ (⟨_,rfl,kn,kn⟩)
 ·obtain ⟨rfl,rfl,rfl,rfl,j,rfl,rfl,O,u,hx,_⟩:=hv;obtain ⟨rfl,rfl,rfl,rfl,rfl,rfl⟩:=j;have ez:(E.node 0 0 0 0 [] []).nodes=0:=rfl;have es:S.Ae []=0:=rfl;have ag:=O.len;simp only [lN]at P
  refine .of (t:=Ej) rfl ?_
  unfold Ej
  refine AQ 2 1 ?_
  refine BI 2 2 ?_
  obtain ⟨_,rfl,G8⟩:=Al5 2 0 0 0 H A D z q 0 0 0 0 v M J c nm C [] (E.Ab g) (E.Ab []) (S.Ab []) (S.Ab []) rfl
  refine ch G8 ?_
  obtain ⟨_,rfl,G9⟩:=FR nm O
  refine ch G9 ?_
  refine sl nm ?_
  refine bu c ?_
  refine bu (c+64) ?_
  obtain ⟨_,⟨aI,rfl,cz,c1⟩,b8⟩:=EH H A D z q ((c+64)+3) C (E.Ab g) ‹_› rfl
  refine ch b8 ?_
  exact Aj ⟨[aI],[],[],[]⟩ (⟨_,rfl,kn,kn⟩)
 ·obtain ⟨rfl,rfl,rfl,rfl,rfl,rfl,O,u,hx,hy,_,_⟩:=hv;have ez:(E.node 0 0 0 0 [] []).nodes=0:=rfl;have es:S.Ae []=0:=rfl;have ag:=O.len;simp only [lN]at P
  refine .of (t:=Ej) rfl ?_
  unfold Ej
  refine AQ 3 1 ?_
  refine AQ 3 2 ?_
  refine BI 3 3 ?_
  obtain ⟨_,rfl,bX⟩:=Al4 3 0 0 0 H A D z q yk R Z yw v M J c nm C U (E.Ab g) (E.Ab Q) (S.Ab []) (S.Ab [])
  refine ch bX ?_
  obtain ⟨_,rfl,ci⟩:=FR nm O
  refine ch ci ?_
  refine sl nm ?_
  refine bu c ?_
  refine bu (c+64) ?_
  obtain ⟨_,⟨af,rfl,cH,ct⟩,bm⟩:=EH H A D z q ((c+64)+1) C (E.Ab g) ‹_› rfl
  refine ch bm ?_
  refine bu af ?_
  refine bu (af+1) ?_
  obtain ⟨_,⟨aK,rfl,c6,cy⟩,a3⟩:=EH yk R Z yw v ((af+1)+3) U (E.Ab Q) ‹_› rfl
  refine ch a3 ?_
  exact Aj ⟨[aK],[],[],[]⟩ (⟨_,rfl,kn,kn⟩)
 ·obtain ⟨rfl,rfl,rfl,rfl,rfl,O,ho,hx,hy,_,_⟩:=hv;have ez:(E.node 0 0 0 0 [] []).nodes=0:=rfl;have es:S.Ae []=0:=rfl;have ag:=O.len;simp only [lN]at P
  refine .of (t:=Ej) rfl ?_
  unfold Ej
  refine AQ 4 1 ?_
  refine AQ 4 2 ?_
  refine AQ 4 3 ?_
  refine AQ 4 5 ?_
  refine AQ 4 6 ?_
  refine AQ 4 7 ?_
  refine AQ 4 8 ?_
  refine AQ 4 9 ?_
  refine AQ 4 10 ?_
  refine AQ 4 11 ?_
  refine BI 4 4 ?_
  obtain ⟨_,rfl,ce⟩:=AiL 4 o 0 0 H A D z q yk R Z yw v M J c nm C U (E.Ab g) (E.Ab Q) (S.Ab []) (S.Ab [])
  refine ch ce ?_
  refine bu c ?_
  obtain ⟨_,rfl,b3⟩:=FR nm O
  refine ch b3 ?_
  refine sl nm ?_
  refine bu (c+7) ?_
  refine bu ((c+7)+64) ?_
  obtain ⟨_,⟨d,rfl,cI,cw⟩,aY⟩:=EH H A D z q (((c+7)+64)+1) C (E.Ab g) ‹_› rfl
  refine ch aY ?_
  refine bu d ?_
  refine bu (d+1) ?_
  refine eq o 10 (fun bz=>?_) fun bz=>?_
  ·refine bu ((d+1)+1) ?_
   refine bu (((d+1)+1)+3) ?_
   obtain ⟨_,⟨az,rfl,cp,cV⟩,a2⟩:=EH yk R Z yw v ((((d+1)+1)+3)+1) U (E.Ab Q) ‹_› rfl
   refine ch a2 ?_
   exact Aj ⟨[az],[],[],[]⟩ (⟨_,rfl,kn,kn⟩)
  refine eq o 22 (fun cf=>?_) fun cf=>?_
  ·refine bu ((d+1)+1) ?_
   refine bu (((d+1)+1)+3) ?_
   obtain ⟨_,⟨aF,rfl,c4,cP⟩,a8⟩:=EH yk R Z yw v ((((d+1)+1)+3)+1) U (E.Ab Q) ‹_› rfl
   refine ch a8 ?_
   exact Aj ⟨[aF],[],[],[]⟩ (⟨_,rfl,kn,kn⟩)
  refine eq o 23 (fun cc=>?_) fun cc=>?_
  ·refine bu ((d+1)+1) ?_
   refine bu (((d+1)+1)+3) ?_
   obtain ⟨_,⟨aG,rfl,cW,c7⟩,bj⟩:=EH yk R Z yw v ((((d+1)+1)+3)+1) U (E.Ab Q) ‹_› rfl
   refine ch bj ?_
   exact Aj ⟨[aG],[],[],[]⟩ (⟨_,rfl,kn,kn⟩)
  refine eq o 17 (fun aU=>?_) fun aU=>?_
  ·refine bu ((d+1)+1) ?_
   refine bu (((d+1)+1)+3) ?_
   obtain ⟨_,⟨ay,rfl,cA,cN⟩,b6⟩:=EH yk R Z yw v ((((d+1)+1)+3)+1) U (E.Ab Q) ‹_› rfl
   refine ch b6 ?_
   exact Aj ⟨[ay],[],[],[]⟩ (⟨_,rfl,kn,kn⟩)
  refine eq o 18 (fun bL=>?_) fun bL=>?_
  ·refine bu ((d+1)+1) ?_
   refine bu (((d+1)+1)+2) ?_
   obtain ⟨_,⟨aB,rfl,cG,cQ⟩,bn⟩:=EH yk R Z yw v ((((d+1)+1)+2)+1) U (E.Ab Q) ‹_› rfl
   refine ch bn ?_
   exact Aj ⟨[aB],[],[],[]⟩ (⟨_,rfl,kn,kn⟩)
  refine BI o 19 ?_
  refine bu ((d+1)+1) ?_
  refine bu (((d+1)+1)+3) ?_
  obtain ⟨_,⟨aE,rfl,cx,cK⟩,bx⟩:=EH yk R Z yw v ((((d+1)+1)+3)+1) U (E.Ab Q) ‹_› rfl
  refine ch bx ?_
  exact Aj ⟨[aE],[],[],[]⟩ (⟨_,rfl,kn,kn⟩)
 ·obtain ⟨rfl,rfl,rfl,rfl,rfl,j,hx,_⟩:=hv;obtain ⟨rfl,rfl,rfl,rfl,rfl,rfl⟩:=j;have ez:(E.node 0 0 0 0 [] []).nodes=0:=rfl;have es:S.Ae []=0:=rfl;simp only [lN]at P
  refine .of (t:=Ej) rfl ?_
  unfold Ej
  refine AQ 5 1 ?_
  refine AQ 5 2 ?_
  refine AQ 5 3 ?_
  refine BI 5 5 ?_
  obtain ⟨_,rfl,cb⟩:=Al3 5 0 0 0 H A D z q 0 0 0 0 v M J c [] C [] (E.Ab g) (E.Ab []) (S.Ab bo) (S.Ab el) rfl rfl
  refine ch cb ?_
  refine bu c ?_
  obtain ⟨_,⟨ai,rfl,cu,cC⟩,bI⟩:=EH H A D z q (c+3) C (E.Ab g) ‹_› rfl
  refine ch bI ?_
  refine bu ai ?_
  obtain ⟨_,⟨ae,rfl,c2,cF⟩,bF⟩:=ah M (ai+1) al (S.Ab bo) ‹_› rfl kn
  refine ch bF ?_
  refine gt J 0 (fun ba=>?_) fun ba=>?_
  ·refine bu ae ?_
   obtain ⟨_,⟨aH,rfl,cX,co⟩,bS⟩:=ah J (ae+6) al (S.Ab el) ‹_› rfl kn
   refine ch bS ?_
   exact Aj ⟨[aH],[],[],[]⟩ (⟨_,rfl,kn,kn⟩)
  exact Aj ⟨[ae],[],[],[]⟩ (⟨_,rfl,kn,kn⟩)
 ·obtain ⟨rfl,rfl,rfl,rfl,j,rfl,hx,_,b1,b2⟩:=hv;obtain ⟨rfl,rfl,rfl,rfl,rfl,rfl⟩:=j;have ez:(E.node 0 0 0 0 [] []).nodes=0:=rfl;have es:S.Ae []=0:=rfl;simp only [lN]at P
  refine .of (t:=Ej) rfl ?_
  unfold Ej
  refine AQ 6 1 ?_
  refine AQ 6 2 ?_
  refine AQ 6 3 ?_
  refine AQ 6 5 ?_
  refine BI 6 6 ?_
  obtain ⟨_,rfl,bK⟩:=Al2 6 0 0 b H A D z q 0 0 0 0 v M J c [] C [] (E.Ab g) (E.Ab []) (S.Ab bo) (S.Ab []) rfl rfl
  refine ch bK ?_
  refine bu c ?_
  obtain ⟨_,⟨ad,rfl,cO,c5⟩,bA⟩:=EH H A D z q (c+6) C (E.Ab g) ‹_› rfl
  refine ch bA ?_
  refine CJ b (-9223372036854775808) ?_
  refine FA b 9223372036854775807 ?_
  refine bu ad ?_
  refine bu (ad+6) ?_
  refine bu ((ad+6)+21) ?_
  obtain ⟨_,⟨au,rfl,cT,cD⟩,bh⟩:=ah M (((ad+6)+21)+1) al (S.Ab bo) ‹_› rfl kn
  refine ch bh ?_
  exact Aj ⟨[au],[],[],[]⟩ (⟨_,rfl,kn,kn⟩)
 ·obtain ⟨rfl,rfl,rfl,rfl,N,j,rfl,rfl⟩:=hv;obtain ⟨rfl,rfl,rfl,rfl,rfl,rfl⟩:=j;obtain ⟨rfl,rfl,rfl,rfl,rfl,rfl⟩:=N;have ez:(E.node 0 0 0 0 [] []).nodes=0:=rfl;have es:S.Ae []=0:=rfl;simp only [lN]at P
  refine .of (t:=Ej) rfl ?_
  unfold Ej
  refine AQ 7 1 ?_
  refine AQ 7 2 ?_
  refine AQ 7 3 ?_
  refine AQ 7 5 ?_
  refine AQ 7 6 ?_
  refine BI 7 7 ?_
  obtain ⟨_,rfl,bY⟩:=Ad0 7 0 0 0 0 0 0 0 q 0 0 0 0 v M J c [] [] [] (E.Ab []) (E.Ab []) (S.Ab []) (S.Ab []) rfl rfl rfl
  refine ch bY ?_
  refine En (7-7) 0 ?_
  refine Jc (7-7) 4 ?_
  refine BI (7-7) 0 ?_
  refine bu c ?_
  exact Aj ⟨[(c+5)],[],[],[]⟩ (⟨_,rfl,kn,kn⟩)
 ·obtain ⟨rfl,rfl,rfl,rfl,N,j,rfl,rfl⟩:=hv;obtain ⟨rfl,rfl,rfl,rfl,rfl,rfl⟩:=j;obtain ⟨rfl,rfl,rfl,rfl,rfl,rfl⟩:=N;have ez:(E.node 0 0 0 0 [] []).nodes=0:=rfl;have es:S.Ae []=0:=rfl;simp only [lN]at P
  refine .of (t:=Ej) rfl ?_
  unfold Ej
  refine AQ 8 1 ?_
  refine AQ 8 2 ?_
  refine AQ 8 3 ?_
  refine AQ 8 5 ?_
  refine AQ 8 6 ?_
  refine AQ 8 7 ?_
  refine BI 8 8 ?_
  obtain ⟨_,rfl,bW⟩:=Ad0 8 0 0 0 0 0 0 0 q 0 0 0 0 v M J c [] [] [] (E.Ab []) (E.Ab []) (S.Ab []) (S.Ab []) rfl rfl rfl
  refine ch bW ?_
  refine En (8-7) 0 ?_
  refine Jc (8-7) 4 ?_
  refine AQ (8-7) 0 ?_
  refine BI (8-7) 1 ?_
  refine bu c ?_
  exact Aj ⟨[(c+8)],[],[],[]⟩ (⟨_,rfl,kn,kn⟩)
 ·obtain ⟨rfl,rfl,rfl,rfl,N,j,rfl,rfl⟩:=hv;obtain ⟨rfl,rfl,rfl,rfl,rfl,rfl⟩:=j;obtain ⟨rfl,rfl,rfl,rfl,rfl,rfl⟩:=N;have ez:(E.node 0 0 0 0 [] []).nodes=0:=rfl;have es:S.Ae []=0:=rfl;simp only [lN]at P
  refine .of (t:=Ej) rfl ?_
  unfold Ej
  refine AQ 9 1 ?_
  refine AQ 9 2 ?_
  refine AQ 9 3 ?_
  refine AQ 9 5 ?_
  refine AQ 9 6 ?_
  refine AQ 9 7 ?_
  refine AQ 9 8 ?_
  refine BI 9 9 ?_
  obtain ⟨_,rfl,bJ⟩:=Ad0 9 0 0 0 0 0 0 0 q 0 0 0 0 v M J c [] [] [] (E.Ab []) (E.Ab []) (S.Ab []) (S.Ab []) rfl rfl rfl
  refine ch bJ ?_
  refine En (9-7) 0 ?_
  refine Jc (9-7) 4 ?_
  refine AQ (9-7) 0 ?_
  refine AQ (9-7) 1 ?_
  refine BI (9-7) 2 ?_
  refine bu c ?_
  exact Aj ⟨[(c+6)],[],[],[]⟩ (⟨_,rfl,kn,kn⟩)
 ·obtain ⟨rfl,rfl,rfl,rfl,N,j,rfl,rfl⟩:=hv;obtain ⟨rfl,rfl,rfl,rfl,rfl,rfl⟩:=j;obtain ⟨rfl,rfl,rfl,rfl,rfl,rfl⟩:=N;have ez:(E.node 0 0 0 0 [] []).nodes=0:=rfl;have es:S.Ae []=0:=rfl;simp only [lN]at P
  refine .of (t:=Ej) rfl ?_
  unfold Ej
  refine AQ 10 1 ?_
  refine AQ 10 2 ?_
  refine AQ 10 3 ?_
  refine AQ 10 5 ?_
  refine AQ 10 6 ?_
  refine AQ 10 7 ?_
  refine AQ 10 8 ?_
  refine AQ 10 9 ?_
  refine BI 10 10 ?_
  obtain ⟨_,rfl,bt⟩:=Ad0 10 0 0 0 0 0 0 0 q 0 0 0 0 v M J c [] [] [] (E.Ab []) (E.Ab []) (S.Ab []) (S.Ab []) rfl rfl rfl
  refine ch bt ?_
  refine En (10-7) 0 ?_
  refine Jc (10-7) 4 ?_
  refine AQ (10-7) 0 ?_
  refine AQ (10-7) 1 ?_
  refine AQ (10-7) 2 ?_
  refine BI (10-7) 3 ?_
  refine bu c ?_
  exact Aj ⟨[(c+7)],[],[],[]⟩ (⟨_,rfl,kn,kn⟩)
 ·obtain ⟨rfl,ho,rfl,rfl,rfl,N,j,rfl,rfl⟩:=hv;obtain ⟨rfl,rfl,rfl,rfl,rfl,rfl⟩:=j;obtain ⟨rfl,rfl,rfl,rfl,rfl,rfl⟩:=N;have ez:(E.node 0 0 0 0 [] []).nodes=0:=rfl;have es:S.Ae []=0:=rfl;simp only [lN]at P
  refine .of (t:=Ej) rfl ?_
  unfold Ej
  refine AQ 11 1 ?_
  refine AQ 11 2 ?_
  refine AQ 11 3 ?_
  refine AQ 11 5 ?_
  refine AQ 11 6 ?_
  refine AQ 11 7 ?_
  refine AQ 11 8 ?_
  refine AQ 11 9 ?_
  refine AQ 11 10 ?_
  refine BI 11 11 ?_
  obtain ⟨_,rfl,bV⟩:=Al1 11 o 0 0 0 0 0 0 q 0 0 0 0 v M J c [] [] [] (E.Ab []) (E.Ab []) (S.Ab []) (S.Ab []) rfl rfl rfl
  refine ch bV ?_
  refine bu c ?_
  refine En (o-1) 0 ?_
  refine Jc (o-1) 2 ?_
  refine eq (o-1) 0 (fun br=>?_) fun br=>?_
  ·refine bu (c+6) ?_
   exact Aj ⟨[((c+6)+5)],[],[],[]⟩ (⟨_,rfl,kn,kn⟩)
  refine BI (o-1) 1 ?_
  refine bu (c+6) ?_
  exact Aj ⟨[((c+6)+6)],[],[],[]⟩ (⟨_,rfl,kn,kn⟩)
 ·obtain ⟨rfl,rfl,rfl,j,rfl,rfl,O,u,w,ho,hx,_⟩:=hv;obtain ⟨rfl,rfl,rfl,rfl,rfl,rfl⟩:=j;have ez:(E.node 0 0 0 0 [] []).nodes=0:=rfl;have es:S.Ae []=0:=rfl;have ag:=O.len;have e1:=n1 (x:=.node H A D z C g);have e4:=g1 (x:=.node H A D z C g);simp only [lN]at P
  refine .of (t:=Ej) rfl ?_
  unfold Ej
  refine AQ 12 1 ?_
  refine AQ 12 2 ?_
  refine AQ 12 3 ?_
  refine AQ 12 5 ?_
  refine AQ 12 6 ?_
  refine AQ 12 7 ?_
  refine AQ 12 8 ?_
  refine AQ 12 9 ?_
  refine AQ 12 10 ?_
  refine AQ 12 11 ?_
  refine AQ 12 4 ?_
  refine BI 12 12 ?_
  refine AQ o 4 ?_
  obtain ⟨_,rfl,bE⟩:=Al0 12 o 0 0 H A D z q 0 0 0 0 v M J c nm C [] (E.Ab g) (E.Ab []) (S.Ab []) (S.Ab []) rfl
  refine ch bE ?_
  obtain ⟨_,rfl,bH⟩:=FR nm O
  refine ch bH ?_
  refine sl nm ?_
  refine bu c ?_
  refine bu (c+64) ?_
  refine En (o-1) 0 ?_
  refine Jc (o-1) 6 ?_
  refine eq (o-1) 0 (fun bw=>?_) fun bw=>?_
  ·refine bu ((c+64)+3) ?_
   refine neY o 4 ?_
   refine ll q (E.Ab g) ?_
   refine ll v (E.Ab []) ?_
   refine dL [[.int .i64 H,.int .i64 A,.int .i64 D,.str C,.int .i32 z,.list 6 (E.Ab g)],[.int .i64 0,.int .i64 0,.int .i64 0,.str [],.int .i32 0,.list 6 (E.Ab [])]] (fun ap bi=>?_)
   have bO:=cL bi;try simp only [lA,lC,lN,lT']at bO
   refine ll 2 ap ?_
   refine fr ?_
   refine dL (ap.take (1:Int).toNat) (fun bl bG=>?_) (Fi (pt 1 ap))
   have bN:=cL bG;try simp only [lA,lC,lN,lT']at bN
   obtain ⟨_,⟨ax,rfl,cS,cZ⟩,b0⟩:=Jl (KX.of (n:=10) @EH) 1 (((c+64)+3)+6) bl hx.tl1 (by subst_vars;rfl)
   refine ch b0 ?_
   exact Aj ⟨[ax],[],[],[]⟩ (⟨_,rfl,kn,kn⟩)
  refine eq (o-1) 1 (fun cg=>?_) fun cg=>?_
  ·refine bu ((c+64)+3) ?_
   refine neY o 4 ?_
   refine ll q (E.Ab g) ?_
   refine ll v (E.Ab []) ?_
   refine dL [[.int .i64 H,.int .i64 A,.int .i64 D,.str C,.int .i32 z,.list 6 (E.Ab g)],[.int .i64 0,.int .i64 0,.int .i64 0,.str [],.int .i32 0,.list 6 (E.Ab [])]] (fun am a6=>?_)
   have bQ:=cL a6;try simp only [lA,lC,lN,lT']at bQ
   refine ll 2 am ?_
   refine fr ?_
   refine dL (am.take (1:Int).toNat) (fun cd aR=>?_) (Fi (pt 1 am))
   have a0:=cL aR;try simp only [lA,lC,lN,lT']at a0
   obtain ⟨_,⟨aD,rfl,cM,cv⟩,aX⟩:=Jl (KX.of (n:=10) @EH) 1 (((c+64)+3)+3) cd hx.tl1 (by subst_vars;rfl)
   refine ch aX ?_
   exact Aj ⟨[aD],[],[],[]⟩ (⟨_,rfl,kn,kn⟩)
  refine eq (o-1) 2 (fun bP=>?_) fun bP=>?_
  ·refine bu ((c+64)+3) ?_
   refine neY o 4 ?_
   refine ll q (E.Ab g) ?_
   refine ll v (E.Ab []) ?_
   refine dL [[.int .i64 H,.int .i64 A,.int .i64 D,.str C,.int .i32 z,.list 6 (E.Ab g)],[.int .i64 0,.int .i64 0,.int .i64 0,.str [],.int .i32 0,.list 6 (E.Ab [])]] (fun ao bU=>?_)
   have bB:=cL bU;try simp only [lA,lC,lN,lT']at bB
   refine ll 2 ao ?_
   refine fr ?_
   refine dL (ao.take (1:Int).toNat) (fun a9 a5=>?_) (Fi (pt 1 ao))
   have bR:=cL a5;try simp only [lA,lC,lN,lT']at bR
   obtain ⟨_,⟨aC,rfl,cR,cB⟩,cj⟩:=Jl (KX.of (n:=10) @EH) 1 (((c+64)+3)+3) a9 hx.tl1 (by subst_vars;rfl)
   refine ch cj ?_
   exact Aj ⟨[aC],[],[],[]⟩ (⟨_,rfl,kn,kn⟩)
  refine eq (o-1) 3 (fun a4=>?_) fun a4=>?_
  ·refine bu ((c+64)+3) ?_
   refine neY o 4 ?_
   refine ll q (E.Ab g) ?_
   refine ll v (E.Ab []) ?_
   refine dL [[.int .i64 H,.int .i64 A,.int .i64 D,.str C,.int .i32 z,.list 6 (E.Ab g)],[.int .i64 0,.int .i64 0,.int .i64 0,.str [],.int .i32 0,.list 6 (E.Ab [])]] (fun ak bM=>?_)
   have aV:=cL bM;try simp only [lA,lC,lN,lT']at aV
   refine ll 2 ak ?_
   refine fr ?_
   refine dL (ak.take (1:Int).toNat) (fun bq b5=>?_) (Fi (pt 1 ak))
   have b9:=cL b5;try simp only [lA,lC,lN,lT']at b9
   obtain ⟨_,⟨aJ,rfl,c3,cY⟩,bk⟩:=Jl (KX.of (n:=10) @EH) 1 (((c+64)+3)+7) bq hx.tl1 (by subst_vars;rfl)
   refine ch bk ?_
   exact Aj ⟨[aJ],[],[],[]⟩ (⟨_,rfl,kn,kn⟩)
  refine eq (o-1) 4 (fun aZ=>?_) fun aZ=>?_
  ·refine bu ((c+64)+3) ?_
   refine neY o 4 ?_
   refine ll q (E.Ab g) ?_
   refine ll v (E.Ab []) ?_
   refine dL [[.int .i64 H,.int .i64 A,.int .i64 D,.str C,.int .i32 z,.list 6 (E.Ab g)],[.int .i64 0,.int .i64 0,.int .i64 0,.str [],.int .i32 0,.list 6 (E.Ab [])]] (fun an bT=>?_)
   have a1:=cL bT;try simp only [lA,lC,lN,lT']at a1
   refine ll 2 an ?_
   refine fr ?_
   refine dL (an.take (1:Int).toNat) (fun bZ bf=>?_) (Fi (pt 1 an))
   have bd:=cL bf;try simp only [lA,lC,lN,lT']at bd
   obtain ⟨_,⟨av,rfl,cE,cr⟩,bc⟩:=Jl (KX.of (n:=10) @EH) 1 (((c+64)+3)+4) bZ hx.tl1 (by subst_vars;rfl)
   refine ch bc ?_
   exact Aj ⟨[av],[],[],[]⟩ (⟨_,rfl,kn,kn⟩)
  refine BI (o-1) 5 ?_
  refine bu ((c+64)+3) ?_
  refine neY o 4 ?_
  refine ll q (E.Ab g) ?_
  refine ll v (E.Ab []) ?_
  refine dL [[.int .i64 H,.int .i64 A,.int .i64 D,.str C,.int .i32 z,.list 6 (E.Ab g)],[.int .i64 0,.int .i64 0,.int .i64 0,.str [],.int .i32 0,.list 6 (E.Ab [])]] (fun aq b7=>?_)
  have bv:=cL b7;try simp only [lA,lC,lN,lT']at bv
  refine ll 2 aq ?_
  refine fr ?_
  refine dL (aq.take (1:Int).toNat) (fun bg aQ=>?_) (Fi (pt 1 aq))
  have bp:=cL aQ;try simp only [lA,lC,lN,lT']at bp
  obtain ⟨_,⟨aw,rfl,cn,cJ⟩,b4⟩:=Jl (KX.of (n:=10) @EH) 1 (((c+64)+3)+3) bg hx.tl1 (by subst_vars;rfl)
  refine ch b4 ?_
  exact Aj ⟨[aw],[],[],[]⟩ (⟨_,rfl,kn,kn⟩)
 ·obtain ⟨rfl,rfl,rfl,rfl,rfl,rfl,O,u,hx,hy,_,_⟩:=hv;have ez:(E.node 0 0 0 0 [] []).nodes=0:=rfl;have es:S.Ae []=0:=rfl;have ag:=O.len;have e1:=n2 (x:=.node H A D z C g) (y:=.node yk R Z yw U Q);have e4:=g2 (x:=.node H A D z C g) (y:=.node yk R Z yw U Q);simp only [lN]at P
  refine .of (t:=Ej) rfl ?_
  unfold Ej
  refine AQ 12 1 ?_
  refine AQ 12 2 ?_
  refine AQ 12 3 ?_
  refine AQ 12 5 ?_
  refine AQ 12 6 ?_
  refine AQ 12 7 ?_
  refine AQ 12 8 ?_
  refine AQ 12 9 ?_
  refine AQ 12 10 ?_
  refine AQ 12 11 ?_
  refine AQ 12 4 ?_
  refine BI 12 12 ?_
  refine BI 4 4 ?_
  obtain ⟨_,rfl,bb⟩:=AiL 12 4 0 0 H A D z q yk R Z yw v M J c nm C U (E.Ab g) (E.Ab Q) (S.Ab []) (S.Ab [])
  refine ch bb ?_
  obtain ⟨_,rfl,bC⟩:=FR nm O
  refine ch bC ?_
  refine sl nm ?_
  refine bu c ?_
  refine bu (c+64) ?_
  refine En (4-1) 0 ?_
  refine Jc (4-1) 6 ?_
  refine AQ (4-1) 0 ?_
  refine AQ (4-1) 1 ?_
  refine AQ (4-1) 2 ?_
  refine BI (4-1) 3 ?_
  refine bu ((c+64)+3) ?_
  refine BY 4 4 ?_
  refine ll q (E.Ab g) ?_
  refine ll v (E.Ab Q) ?_
  refine dL [[.int .i64 H,.int .i64 A,.int .i64 D,.str C,.int .i32 z,.list 6 (E.Ab g)],[.int .i64 yk,.int .i64 R,.int .i64 Z,.str U,.int .i32 yw,.list 6 (E.Ab Q)]] (fun aL be=>?_)
  have a7:=cL be;try simp only [lA,lC,lN,lT']at a7
  refine ll 2 aL ?_
  refine fr ?_
  obtain ⟨_,⟨aA,rfl,cU,cq⟩,aW⟩:=Jl (KX.of (n:=10) @EH) 2 (((c+64)+3)+7) aL (hx.tl2 hy) (by subst_vars;rfl)
  refine ch aW ?_
  exact Aj ⟨[aA],[],[],[]⟩ (⟨_,rfl,kn,kn⟩)
def Anb (q N:Nat) (m n:Nat):Prop:=∀{l:List S} (g len:Int) (j d:Int) (k:List Nat) (L:Rs) (v:PL (l.drop j.toNat)) (u:L=S.Ab l) (h:g=L.length∧g≤200000∧len=g∧0≤j∧0≤d∧d+400*S.Ae (l.drop j.toNat)≤999682∧k.length+2*S.Ax (l.drop j.toNat)≤62∧S.Ax (l.drop j.toNat)≤m∧(len-j).toNat<n),Ok trees N ⟨[g,len,j,d],[k],[L],[]⟩ fun o=>(o=(0,v0))∨(∃(c:Int),o=(1,(⟨[c],[],[],[]⟩:Ah))∧(c≤d+400*S.Ae (l.drop j.toNat))∧(d≤c))
def Am2 (o N:Nat):Prop:=∀{m:Nat} (u:RB o m) {l:List S} (g len:Int) (j d:Int) (k:List Nat) (L:Rs) (x:PL (l.drop j.toNat)) (v:L=S.Ab l) (h:g=L.length∧g≤200000∧len=g∧0≤j∧0≤d∧d+400*S.Ae (l.drop j.toNat)≤999682∧k.length+2*S.Ax (l.drop j.toNat)≤62∧S.Ax (l.drop j.toNat)≤m:=by exact kn),Ok trees N ⟨[g,len,j,d],[k],[L],[]⟩ fun q=>(q=(0,v0))∨(∃(c:Int),q=(1,(⟨[c],[],[],[]⟩:Ah))∧(c≤d+400*S.Ae (l.drop j.toNat))∧(d≤c))
theorem AkN {m:Nat} (D:RB 84 m) (n:Nat):Anb 84 86 m n:=by
 induction n with
 |zero=>intro l H len j N d L hO v h;exact absurd h.2.2.2.2.2.2.2.2 (Nat.not_lt_zero _)
 |succ n ih=>
 intro l H len j N d L hO v h
 subst v
 refine .of (t:=Ach) rfl ?_
 unfold Ach
 refine lt j len (fun t1=>?_) fun t1=>?_
 ·refine CJ j 0 ?_
  refine BD j H ?_
  obtain ⟨ac,ad,t_1,aa,O,M,A,Z,U,X,o,z,x,Q,P,y,k,g,q,R,J,ag,ak,ai⟩:=PL.get j hO om om
  refine el R ?_
  refine sl d ?_
  refine bu N ?_
  obtain ⟨_,⟨c,rfl,aj,ah⟩,G3⟩:=Al7 @D ac ad t_1 aa M A Z U ((E.Ab o).length:Int) z x Q P ((E.Ab k).length:Int) ((S.Ab g).length:Int) ((S.Ab q).length:Int) (N+64) O X y d (E.Ab o) (E.Ab k) (S.Ab g) (S.Ab q) J rfl rfl rfl rfl
  refine ch G3 ?_
  refine bu c ?_
  obtain ⟨_,(rfl|⟨u,rfl,af,ae⟩),C⟩:=ih H len (j+1) (c+1) d (S.Ab l) ‹_› rfl kn
  ·refine ch C ?_
   exact Aj ⟨[(c+1)],[],[],[]⟩ (.inr ((⟨_,rfl,kn,kn⟩)))
  refine cm C ?_
  refine ch C ?_
  exact Aj ⟨[u],[],[],[]⟩ (.inr ((⟨_,rfl,kn,kn⟩)))
 exact Aj v0 (.inl rfl)
theorem Al8:Am2 84 86:=fun {m} hC84 {l} ln len j sz ind L hO hLs h=>AkN @hC84 ((len-j).toNat+1) ln len j sz ind L hO hLs ⟨h.1,h.2.1,h.2.2.1,h.2.2.2.1,h.2.2.2.2.1,h.2.2.2.2.2.1,h.2.2.2.2.2.2.1,h.2.2.2.2.2.2.2,Nat.lt_succ_self _⟩
def Am3 (k N:Nat):Prop:=∀{m:Nat} (q:RB k m) {l:List S} (j d:Int) (g:List Nat) (L:Rs) (v:PL l) (u:L=S.Ab l) (h:j=L.length∧j≤200000∧0≤d∧d+400*S.Ae l≤999682∧g.length+2*S.Ax l≤62∧S.Ax l≤m:=by exact kn),Ok trees N ⟨[j,d],[g],[L],[]⟩ fun o=>(o=(0,v0))∨(∃(c:Int),o=(1,(⟨[c],[],[],[]⟩:Ah))∧(c≤d+400*S.Ae l)∧(d≤c))
theorem AfA:Am3 84 85:=by
 intro m d l o x j L v k h
 subst k;have y:S.Ax (l.drop (0:Int).toNat)=S.Ax l:=rfl;have z:S.Ae (l.drop (0:Int).toNat)=S.Ae l:=rfl
 refine .of (t:=Aci) rfl ?_
 unfold Aci
 obtain ⟨_,(rfl|⟨c,rfl,q,u⟩),g⟩:=Al8 @d o o 0 x j (S.Ab l) v rfl
 ·refine ch g ?_
  exact Aj v0 (.inl rfl)
 refine cm g ?_
 refine ch g ?_
 exact Aj ⟨[c],[],[],[]⟩ (.inr ((⟨_,rfl,kn,kn⟩)))
theorem AkO (n:Nat):RB 84 n:=by
 induction n with
 |zero=>intro l q g c L o j h;exact absurd h.2.2.2.2.2 (Nat.not_lt_zero _)
 |succ n ih=>
 intro l q g c L o j h
 have x:(c++[32,32]).length=c.length+2:=by simp
 refine .of (t:=Acj) rfl ?_
 unfold Acj
 refine bu g ?_
 refine ca c [32,32] ?_
 obtain ⟨_,(rfl|⟨d,rfl,u,v⟩),k⟩:=AfA @ih q (g+2) (c++[32,32]) L o j
 ·refine ch k ?_
  refine sl c ?_
  refine bu (g+2) ?_
  refine bu ((g+2)+64) ?_
  exact Aj ⟨[(((g+2)+64)+1)],[],[],[]⟩ (⟨_,rfl,kn,kn⟩)
 refine cm k ?_
 refine ch k ?_
 refine sl c ?_
 refine bu d ?_
 refine bu (d+64) ?_
 exact Aj ⟨[((d+64)+1)],[],[],[]⟩ (⟨_,rfl,kn,kn⟩)
theorem O4:AjA 84:=fun {l} ln sz ind L hO hLs h=>AkO (S.Ax l+1) ln sz ind L hO hLs ⟨h.1,h.2.1,h.2.2.1,h.2.2.2.1,h.2.2.2.2,Nat.lt_succ_self _⟩
end Go.Proofs.YtbmofjdmgjpfoaaGreatDoor.Am
end
section
set_option maxHeartbeats 4000000
set_option maxRecDepth 100000
namespace Go.Proofs.YtbmofjdmgjpfoaaGreatDoor.Am
open Go.AM Go.AM.K
def AdB (N n:Nat):Prop:=∀{j:Int} {Γ d:Ctx} {l:List S} (c:Int) (L:Rs) (o:C8 j 1 Γ l d) (k:L=S.Ab l) (h:c=L.length∧c≤200000∧S.Ae l≤200000∧S.Ax l<n),Ok trees N ⟨[c],[],[L],[]⟩ fun g=>(g=(1,v0))
def Am6 (N:Nat):Prop:=∀{j:Int} {Γ d:Ctx} {l:List S} (c:Int) (L:Rs) (o:C8 j 1 Γ l d) (k:L=S.Ab l) (h:c=L.length∧c≤200000∧S.Ae l≤200000:=by exact kn),Ok trees N ⟨[c],[],[L],[]⟩ fun g=>(g=(1,v0))
def Anc (q N:Nat) (m n:Nat):Prop:=∀{k:Int} {Γ d:Ctx} {l:List S} (c len j:Int) (L:Rs) (u:C8 k 1 Γ (l.drop j.toNat) d) (o:L=S.Ab l) (h:c=L.length∧c≤200000∧len=c∧0≤j∧S.Ax (l.drop j.toNat)≤m∧S.Ae (l.drop j.toNat)≤200000∧(len-j).toNat<n),Ok trees N ⟨[c,len,j],[],[L],[]⟩ fun g=>(g=(1,v0))
def Am4 (d N:Nat):Prop:=∀{m:Nat} (k:AdB d m) {q:Int} {Γ g:Ctx} {l:List S} (c len j:Int) (L:Rs) (v:C8 q 1 Γ (l.drop j.toNat) g) (u:L=S.Ab l) (h:c=L.length∧c≤200000∧len=c∧0≤j∧S.Ax (l.drop j.toNat)≤m∧S.Ae (l.drop j.toNat)≤200000:=by exact kn),Ok trees N ⟨[c,len,j],[],[L],[]⟩ fun o=>(o=(1,v0))
theorem AkP {m:Nat} (g:AdB 81 m) (n:Nat):Anc 81 83 m n:=by
 induction n with
 |zero=>intro lp Γ Γe l o len j L R A h;exact absurd h.2.2.2.2.2.2 (Nat.not_lt_zero _)
 |succ n ih=>
 intro lp Γ Γe l o len j L R A h
 subst A
 refine .of (t:=Ack) rfl ?_
 unfold Ack
 refine lt j len (fun t1=>?_) fun t1=>?_
 ·refine CJ j 0 ?_
  refine BD j o ?_
  obtain ⟨k,aU,t_1,aR,aM,ax,aB,ay,aD,ap,aE,aA,au,aN,an,az,am,c,d,aO,Q,q,ak,aF,aC⟩:=C8.get j R om om
  refine el Q ?_
  have aG:=q.pure;have ao:=q.kinds;have ai:=S.len c;have aj:=S.len d;have ah:=S.A7 c;have ag:=S.A7 d;obtain ⟨_,aL,aw,aq,aI,aJ,aQ⟩:=q.parts
  refine eq k 1 (fun t3=>?_) fun t3=>?_
  ·obtain ⟨_,rfl,Z⟩:=g ((S.Ab c).length:Int) (S.Ab c) ‹_› rfl kn
   refine cm Z ?_
   refine ch Z ?_
   obtain ⟨_,rfl,G5⟩:=g ((S.Ab d).length:Int) (S.Ab d) ‹_› rfl kn
   refine cm G5 ?_
   refine ch G5 ?_
   obtain ⟨_,rfl,G6⟩:=ih o len (j+1) (S.Ab l) ‹_› rfl kn
   refine cm G6 ?_
   refine ch G6 ?_
   exact Aj v0 (rfl)
  refine eq k 2 (fun t7=>?_) fun t7=>?_
  ·obtain ⟨_,rfl,G8⟩:=g ((S.Ab c).length:Int) (S.Ab c) ‹_› rfl kn
   refine cm G8 ?_
   refine ch G8 ?_
   obtain ⟨_,rfl,X⟩:=g ((S.Ab d).length:Int) (S.Ab d) ‹_› rfl kn
   refine cm X ?_
   refine ch X ?_
   obtain ⟨_,rfl,O⟩:=ih o len (j+1) (S.Ab l) ‹_› rfl kn
   refine cm O ?_
   refine ch O ?_
   exact Aj v0 (rfl)
  refine eq k 5 (fun U=>?_) fun U=>?_
  ·obtain ⟨_,rfl,P⟩:=g ((S.Ab c).length:Int) (S.Ab c) ‹_› rfl kn
   refine cm P ?_
   refine ch P ?_
   obtain ⟨_,rfl,D⟩:=g ((S.Ab d).length:Int) (S.Ab d) ‹_› rfl kn
   refine cm D ?_
   refine ch D ?_
   obtain ⟨_,rfl,x⟩:=ih o len (j+1) (S.Ab l) ‹_› rfl kn
   refine cm x ?_
   refine ch x ?_
   exact Aj v0 (rfl)
  refine eq k 6 (fun ab=>?_) fun ab=>?_
  ·obtain ⟨_,rfl,M⟩:=g ((S.Ab c).length:Int) (S.Ab c) ‹_› rfl kn
   refine cm M ?_
   refine ch M ?_
   obtain ⟨_,rfl,v⟩:=g ((S.Ab d).length:Int) (S.Ab d) ‹_› rfl kn
   refine cm v ?_
   refine ch v ?_
   obtain ⟨_,rfl,u⟩:=ih o len (j+1) (S.Ab l) ‹_› rfl kn
   refine cm u ?_
   refine ch u ?_
   exact Aj v0 (rfl)
  refine eq k 7 (fun ac=>?_) fun ac=>?_
  ·obtain ⟨_,rfl,J⟩:=g ((S.Ab c).length:Int) (S.Ab c) ‹_› rfl kn
   refine cm J ?_
   refine ch J ?_
   obtain ⟨_,rfl,C⟩:=g ((S.Ab d).length:Int) (S.Ab d) ‹_› rfl kn
   refine cm C ?_
   refine ch C ?_
   obtain ⟨_,rfl,z⟩:=ih o len (j+1) (S.Ab l) ‹_› rfl kn
   refine cm z ?_
   refine ch z ?_
   exact Aj v0 (rfl)
  refine eq k 8 (fun aa=>?_) fun aa=>?_
  ·obtain ⟨_,rfl,H⟩:=g ((S.Ab c).length:Int) (S.Ab c) ‹_› rfl kn
   refine cm H ?_
   refine ch H ?_
   obtain ⟨_,rfl,N⟩:=g ((S.Ab d).length:Int) (S.Ab d) ‹_› rfl kn
   refine cm N ?_
   refine ch N ?_
   obtain ⟨_,rfl,y⟩:=ih o len (j+1) (S.Ab l) ‹_› rfl kn
   refine cm y ?_
   refine ch y ?_
   exact Aj v0 (rfl)
  exact dead
 exact Aj v0 (rfl)
theorem Al9:Am4 81 83:=fun {m} hC81 {lp} {Γ} {Γe} {l} ln len j L hO hLs h=>AkP @hC81 ((len-j).toNat+1) ln len j L hO hLs ⟨h.1,h.2.1,h.2.2.1,h.2.2.2.1,h.2.2.2.2.1,h.2.2.2.2.2,Nat.lt_succ_self _⟩
def Am5 (d N:Nat):Prop:=∀{m:Nat} (j:AdB d m) {o:Int} {Γ g:Ctx} {l:List S} (c:Int) (L:Rs) (u:C8 o 1 Γ l g) (q:L=S.Ab l) (h:c=L.length∧c≤200000∧S.Ae l≤200000∧S.Ax l≤m:=by exact kn),Ok trees N ⟨[c],[],[L],[]⟩ fun k=>(k=(0,(⟨[(-1)],[],[],[]⟩:Ah)))
theorem AlA:Am5 81 82:=by
 intro m c u Γ o l g L k d h
 subst d;have q:S.Ax (l.drop (0:Int).toNat)=S.Ax l:=rfl;have v:S.Ae (l.drop (0:Int).toNat)=S.Ae l:=rfl
 refine .of (t:=Acl) rfl ?_
 unfold Acl
 obtain ⟨_,rfl,j⟩:=Al9 @c g g 0 (S.Ab l) k rfl
 refine cm j ?_
 refine ch j ?_
 exact Aj ⟨[(-1)],[],[],[]⟩ (rfl)
theorem AkQ (n:Nat):AdB 81 n:=by
 induction n with
 |zero=>intro k Γ j l g L d c h;exact absurd h.2.2.2 (Nat.not_lt_zero _)
 |succ n ih=>
 intro k Γ j l g L d c h
 refine .of (t:=Acm) rfl ?_
 unfold Acm
 obtain ⟨_,rfl,o⟩:=AlA @ih g L d c
 refine ch o ?_
 refine Jc (-1) 0 ?_
 exact Aj v0 (rfl)
theorem AlB:Am6 81:=fun {lp} {Γ} {Γe} {l} ln L hO hLs h=>AkQ (S.Ax l+1) ln L hO hLs ⟨h.1,h.2.1,h.2.2,Nat.lt_succ_self _⟩
end Go.Proofs.YtbmofjdmgjpfoaaGreatDoor.Am
end
