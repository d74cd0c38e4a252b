/- Part 14 of the proof of TypesRenames. -/
import Derived.Test.YtbmofjdmgjpfoaaGreatDoorE11
set_option linter.all false
section
set_option maxHeartbeats 4000000
set_option maxRecDepth 100000
namespace Go.Proofs.YtbmofjdmgjpfoaaGreatDoor.Am
open Go.AM Go.AM.K
def AiS (N n:Nat):Prop:=∀{Δ:Rl} {t:Int} {a:List E} (k o:Int) (ty v:Int) (g depth c:Int) (s:List Nat) (A:Rs) (u:TR Δ t (.node k o ty v s a)) (x:A=E.Ab a) (h:g=A.length∧0≤depth∧depth+(E.node k o ty v s a).high≤31∧0≤c∧c+(E.node k o ty v s a).nodes≤100000∧(E.node k o ty v s a).high<n),Ok trees N ⟨[k,o,ty,v,g,depth,c],[s],[A],[]⟩ fun j=>(∃(d:Int),j=(0,(⟨[d],[],[],[]⟩:Ah))∧(d=c+(E.node k o ty v s a).nodes))
def Aqr (N:Nat):Prop:=∀{Δ:Rl} {t:Int} {a:List E} (k o:Int) (ty v:Int) (g depth c:Int) (s:List Nat) (A:Rs) (u:TR Δ t (.node k o ty v s a)) (x:A=E.Ab a) (h:g=A.length∧0≤depth∧depth+(E.node k o ty v s a).high≤31∧0≤c∧c+(E.node k o ty v s a).nodes≤100000:=by exact kn),Ok trees N ⟨[k,o,ty,v,g,depth,c],[s],[A],[]⟩ fun j=>(∃(d:Int),j=(0,(⟨[d],[],[],[]⟩:Ah))∧(d=c+(E.node k o ty v s a).nodes))
def AqI (y N:Nat) (m n:Nat):Prop:=∀{Δ:Rl} {a:List E} (k d:Int) (len j c:Int) (L:Rs) (u:TL Δ a) (x:L=E.Ab a) (h:d=L.length∧d≤1000∧len=d∧0≤j∧0≤k∧k+1+E.B3 a≤31∧0≤c∧c+E.Ae (a.drop j.toNat)≤100000∧E.B3 a<m∧(len-j).toNat<n),Ok trees N ⟨[k,d,len,j,c],[],[L],[]⟩ fun o=>(∃(g:Int),o=(0,(⟨[g],[],[],[]⟩:Ah))∧(g=c+E.Ae (a.drop j.toNat)))
def Aqq (o N:Nat):Prop:=∀{m:Nat} (u:AiS o m) {Δ:Rl} {a:List E} (k d:Int) (len j c:Int) (L:Rs) (y:TL Δ a) (z:L=E.Ab a) (h:d=L.length∧d≤1000∧len=d∧0≤j∧0≤k∧k+1+E.B3 a≤31∧0≤c∧c+E.Ae (a.drop j.toNat)≤100000∧E.B3 a<m:=by exact kn),Ok trees N ⟨[k,d,len,j,c],[],[L],[]⟩ fun x=>(∃(g:Int),x=(0,(⟨[g],[],[],[]⟩:Ah))∧(g=c+E.Ae (a.drop j.toNat)))
theorem Aon {m:Nat} (x:AiS 55 m) (n:Nat):AqI 55 56 m n:=by
 induction n with
 |zero=>intro Δ a y o len j k L c g h;exact absurd h.2.2.2.2.2.2.2.2.2 (Nat.not_lt_zero _)
 |succ n ih=>
 intro Δ a y o len j k L c g h
 subst g;have hz:=NP (a:=a) (j:=j)
 refine .of (t:=Aea) rfl ?_
 unfold Aea
 refine lt j len (fun Q=>?_) fun Q=>?_
 ·refine CG j 0 ?_
  refine B9 j o ?_
  obtain ⟨M,C,D,J,H,d,ab,z,U,aa,N,X⟩:=c.get j om om
  refine el z ?_
  obtain ⟨_,⟨u,rfl,P⟩,Z⟩:=x M C D J ((E.Ab d).length:Int) (y+1) k H (E.Ab d) ‹_› rfl kn
  refine ch Z ?_
  obtain ⟨_,⟨A,rfl,O⟩,R⟩:=ih y o len (j+1) u (E.Ab a) ‹_› rfl kn
  refine ch R ?_
  exact Ai ⟨[A],[],[],[]⟩ (⟨_,rfl,kn⟩)
 exact Ai ⟨[k],[],[],[]⟩ (⟨_,rfl,kn⟩)
theorem Amd:Aqq 55 56:=fun {m} hC55 {Δ} {a} dd ln len j nn L hTL hLa h=>Aon @hC55 ((len-j).toNat+1) dd ln len j nn L hTL hLa ⟨h.1,h.2.1,h.2.2.1,h.2.2.2.1,h.2.2.2.2.1,h.2.2.2.2.2.1,h.2.2.2.2.2.2.1,h.2.2.2.2.2.2.2.1,h.2.2.2.2.2.2.2.2,Nat.lt_succ_self _⟩
theorem Aoo (n:Nat):AiS 55 n:=by
 induction n with
 |zero=>intro Δ t a k o ty v c depth g s A d x h;exact absurd h.2.2.2.2.2 (Nat.not_lt_zero _)
 |succ n ih=>
 intro Δ t a k o ty v c depth g s A d x h
 subst x;have ⟨J,M,N⟩:=d.kind;have Q:=d.nodes;have P:=I2 (k:=k) (o:=o) (ty:=ty) (v:=v) (s:=s) (a:=a);have hl:=TR.len d.args;have O:=E.Az a;have R:E.Ae (a.drop (0:Int).toNat)=E.Ae a:=rfl
 refine .of (t:=Aeb) rfl ?_
 unfold Aeb
 refine T5 depth 30 ?_
 refine eq k 8 (fun C=>?_) fun C=>?_
 ·refine T5 c 8 ?_
  obtain ⟨_,⟨u,rfl,z⟩,D⟩:=Amd @ih depth c c 0 (g+1) (E.Ab a) d.args rfl
  refine ch D ?_
  exact Ai ⟨[u],[],[],[]⟩ (⟨_,rfl,kn⟩)
 obtain ⟨_,⟨j,rfl,y⟩,H⟩:=Amd @ih depth c c 0 (g+1) (E.Ab a) d.args rfl
 refine ch H ?_
 exact Ai ⟨[j],[],[],[]⟩ (⟨_,rfl,kn⟩)
theorem Ame:Aqr 55:=fun {Δ} {t} {a} k o ty v ln depth nn s A hT hA h=>Aoo ((E.node k o ty v s a).high+1) k o ty v ln depth nn s A hT hA ⟨h.1,h.2.1,h.2.2.1,h.2.2.2.1,h.2.2.2.2,Nat.lt_succ_self _⟩
end Go.Proofs.YtbmofjdmgjpfoaaGreatDoor.Am
end
section
set_option maxHeartbeats 4000000
set_option maxRecDepth 100000
namespace Go.Proofs.YtbmofjdmgjpfoaaGreatDoor.Am
open Go.AM Go.AM.K
def AqJ (N n:Nat):Prop:=∀{Δ:Rl} (a:List E) (dd c1:Int) (D M:Int) (g j:Int) (c q1:Int) (O J:Int) (q4 Z:Int) (q6 U:Int) (R q9:Int) (x z:Int) (y u:Int) (C A o:Int) (H u2 X:List Nat) (D1 k:Rs) (D2 D3:Rs) (Q P:Rs) (hE:∀e∈a,EOR Δ e) (aj:k=E.Ab a) (h:g=k.length∧g=2∧0≤j∧0≤c∧c+E.Ae (a.drop j.toNat)≤100000∧(2-j).toNat<n),Ok trees N ⟨[dd,c1,D,M,g,j,c,q1,O,J,q4,Z,q6,U,R,q9,x,z,y,u,C,A,o],[H,u2,X],[D1,k,D2,D3,Q,P],[]⟩ fun zz=>(∃(d:Int),zz=(0,(⟨[d],[],[],[]⟩:Ah))∧(d=c+E.Ae (a.drop j.toNat)))
def Aqs (N:Nat):Prop:=∀{Δ:Rl} (a:List E) (dd c1:Int) (D M:Int) (g j:Int) (c q1:Int) (O J:Int) (q4 Z:Int) (q6 U:Int) (R q9:Int) (x z:Int) (y u:Int) (C A o:Int) (H u2 X:List Nat) (D1 k:Rs) (D2 D3:Rs) (Q P:Rs) (hE:∀e∈a,EOR Δ e) (aj:k=E.Ab a) (h:g=k.length∧g=2∧0≤j∧0≤c∧c+E.Ae (a.drop j.toNat)≤100000:=by exact kn),Ok trees N ⟨[dd,c1,D,M,g,j,c,q1,O,J,q4,Z,q6,U,R,q9,x,z,y,u,C,A,o],[H,u2,X],[D1,k,D2,D3,Q,P],[]⟩ fun zz=>(∃(d:Int),zz=(0,(⟨[d],[],[],[]⟩:Ah))∧(d=c+E.Ae (a.drop j.toNat)))
theorem YN (n:Nat):AqJ 54 n:=by
 induction n with
 |zero=>intro Δ a dd c1 M P A j z q1 Q O q4 q5 q6 q7 q8 q9 k u o d y x c N u2 u3 D1 XY D2 D3 Z U C J h;exact absurd h.2.2.2.2.2 (Nat.not_lt_zero _)
 |succ n ih=>
 intro Δ a dd c1 M P A j z q1 Q O q4 q5 q6 q7 q8 q9 k u o d y x c N u2 u3 D1 XY D2 D3 Z U C J h
 subst J;have hz:=NP (a:=a) (j:=j)
 refine .of (t:=Aec) rfl ?_
 unfold Aec
 refine lt j 2 (fun t1=>?_) fun t1=>?_
 ·refine CG j 0 ?_
  refine B9 j A ?_
  obtain ⟨H,aq,au,av,ap,D,aJ,X,R,g,aG,aA⟩:=EL.get C j om om
  refine el X ?_
  have aw:=g
  refine ne H 0 (fun t3=>?_) fun t3=>?_
  ·have aI:=g om
   obtain ⟨_,⟨al,rfl,aC⟩,G4⟩:=Ame H aq au av ((E.Ab D).length:Int) 1 z ap (E.Ab D) (by exact R om) rfl
   refine ch G4 ?_
   obtain ⟨_,⟨ab,rfl,aB⟩,G5⟩:=ih a dd c1 M P A (j+1) al q1 Q O q4 q5 q6 q7 q8 q9 k u o d y x c N u2 u3 D1 (E.Ab a) D2 D3 Z U C rfl kn
   refine ch G5 ?_
   exact Ai ⟨[ab],[],[],[]⟩ (⟨_,rfl,kn⟩)
  obtain ⟨_,⟨am,rfl,aF⟩,G6⟩:=ih a dd c1 M P A (j+1) z q1 Q O q4 q5 q6 q7 q8 q9 k u o d y x c N u2 u3 D1 (E.Ab a) D2 D3 Z U C rfl kn
  refine ch G6 ?_
  exact Ai ⟨[am],[],[],[]⟩ (⟨_,rfl,kn⟩)
 exact Ai ⟨[z],[],[],[]⟩ (⟨_,rfl,kn⟩)
theorem Apc:Aqs 54:=fun {Δ} a dd c1 c2 c3 xl j nn q1 q2 q3 q4 q5 q6 q7 q8 q9 q10 q11 q12 q13 q14 q15 q16 u1 u2 u3 D1 XY D2 D3 D4 D5 hE hXY h=>YN ((2-j).toNat+1) a dd c1 c2 c3 xl j nn q1 q2 q3 q4 q5 q6 q7 q8 q9 q10 q11 q12 q13 q14 q15 q16 u1 u2 u3 D1 XY D2 D3 D4 D5 hE hXY ⟨h.1,h.2.1,h.2.2.1,h.2.2.2.1,h.2.2.2.2,Nat.lt_succ_self _⟩
def AiT (N n:Nat):Prop:=∀{l:List S} (j g c:Int) (L:Rs) (u:PL l) (o:L=S.Ab l) (h:j=L.length∧0≤g∧g+S.Au l≤31∧0≤c∧c+S.Ae l≤100000∧S.Au l<n),Ok trees N ⟨[j,g,c],[],[L],[]⟩ fun k=>(∃(d:Int),k=(0,(⟨[d],[],[],[]⟩:Ah))∧(d=c+S.Ae l))
def Aqu (N:Nat):Prop:=∀{l:List S} (j g c:Int) (L:Rs) (u:PL l) (o:L=S.Ab l) (h:j=L.length∧0≤g∧g+S.Au l≤31∧0≤c∧c+S.Ae l≤100000:=by exact kn),Ok trees N ⟨[j,g,c],[],[L],[]⟩ fun k=>(∃(d:Int),k=(0,(⟨[d],[],[],[]⟩:Ah))∧(d=c+S.Ae l))
def AqK (x N:Nat) (m n:Nat):Prop:=∀{l:List S} (k d:Int) (len j c:Int) (L:Rs) (y:PL (l.drop j.toNat)) (u:L=S.Ab l) (h:d=L.length∧d≤200000∧len=d∧0≤j∧0≤k∧k+S.Au (l.drop j.toNat)≤31∧0≤c∧c+S.Ae (l.drop j.toNat)≤100000∧S.Au (l.drop j.toNat)≤m∧(len-j).toNat<n),Ok trees N ⟨[k,d,len,j,c],[],[L],[]⟩ fun o=>(∃(g:Int),o=(0,(⟨[g],[],[],[]⟩:Ah))∧(g=c+S.Ae (l.drop j.toNat)))
def Aqt (o N:Nat):Prop:=∀{m:Nat} (x:AiT o m) {l:List S} (k d:Int) (len j c:Int) (L:Rs) (z:PL (l.drop j.toNat)) (y:L=S.Ab l) (h:d=L.length∧d≤200000∧len=d∧0≤j∧0≤k∧k+S.Au (l.drop j.toNat)≤31∧0≤c∧c+S.Ae (l.drop j.toNat)≤100000∧S.Au (l.drop j.toNat)≤m:=by exact kn),Ok trees N ⟨[k,d,len,j,c],[],[L],[]⟩ fun u=>(∃(g:Int),u=(0,(⟨[g],[],[],[]⟩:Ah))∧(g=c+S.Ae (l.drop j.toNat)))
theorem Aop {m:Nat} (P:AiT 52 m) (n:Nat):AqK 52 53 m n:=by
 induction n with
 |zero=>intro l O Q len j U L hO R h;exact absurd h.2.2.2.2.2.2.2.2.2 (Nat.not_lt_zero _)
 |succ n ih=>
 intro l O Q len j U L hO R h
 subst R;have hz:=Bs (l:=l) (j:=j)
 refine .of (t:=Aed) rfl ?_
 unfold Aed
 refine lt j len (fun t1=>?_) fun t1=>?_
 ·refine CG j 0 ?_
  refine B9 j Q ?_
  obtain ⟨ah,ai,t_1,ag,aa,C,o,u,k,z,d,g,H,D,A,J,c,M,N,X,ab,aD,av,aC⟩:=PL.get j hO om om
  refine el X ?_
  obtain ⟨ay,al,aA,ap⟩:=ab.parts;have ad:=n2 (x:=.node C o u k z d) (y:=.node g H D A J c)
  refine T5 O 30 ?_
  refine dL [[.int .i64 C,.int .i64 o,.int .i64 u,.str z,.int .i32 k,.list 6 (E.Ab d)],[.int .i64 g,.int .i64 H,.int .i64 D,.str J,.int .i32 A,.list 6 (E.Ab c)]] (fun W3 e3=>?_)
  have f3:=cL e3;try simp only [lA,lC,lN,lT']at f3
  refine ll 2 W3 ?_
  refine fr ?_
  have e0:E.Ae ([E.node C o u k z d,.node g H D A J c].drop (0:Int).toNat)=_:=ad
  obtain ⟨_,⟨ae,rfl,az⟩,G4⟩:=Apc [.node C o u k z d,.node g H D A J c] O Q len j 2 0 (U+1) ah ai t_1 ag C o u k ((E.Ab d).length:Int) g H D A ((E.Ab c).length:Int) ((S.Ab M).length:Int) ((S.Ab N).length:Int) aa z J (S.Ab l) W3 (E.Ab d) (E.Ab c) (S.Ab M) (S.Ab N) ‹_› (by subst_vars;rfl)
  refine ch G4 ?_
  obtain ⟨_,⟨Z,rfl,aw⟩,G5⟩:=P ((S.Ab M).length:Int) (O+1) ae (S.Ab M) ‹_› rfl kn
  refine ch G5 ?_
  obtain ⟨_,⟨af,rfl,aF⟩,G6⟩:=P ((S.Ab N).length:Int) (O+1) Z (S.Ab N) ‹_› rfl kn
  refine ch G6 ?_
  obtain ⟨_,⟨ac,rfl,aq⟩,G7⟩:=ih O Q len (j+1) af (S.Ab l) ‹_› rfl kn
  refine ch G7 ?_
  exact Ai ⟨[ac],[],[],[]⟩ (⟨_,rfl,kn⟩)
 exact Ai ⟨[U],[],[],[]⟩ (⟨_,rfl,kn⟩)
theorem Apd:Aqt 52 53:=fun {m} hC52 {l} dd ln len j nn L hO hLs h=>Aop @hC52 ((len-j).toNat+1) dd ln len j nn L hO hLs ⟨h.1,h.2.1,h.2.2.1,h.2.2.2.1,h.2.2.2.2.1,h.2.2.2.2.2.1,h.2.2.2.2.2.2.1,h.2.2.2.2.2.2.2.1,h.2.2.2.2.2.2.2.2,Nat.lt_succ_self _⟩
theorem Aoq (n:Nat):AiT 52 n:=by
 induction n with
 |zero=>intro l d k j L o c h;exact absurd h.2.2.2.2.2 (Nat.not_lt_zero _)
 |succ n ih=>
 intro l d k j L o c h
 subst c;have z:=S.len l;have A:=S.Az l
 refine .of (t:=Aee) rfl ?_
 unfold Aee
 have u:S.Ae (l.drop (0:Int).toNat)=S.Ae l:=rfl;have C:S.Au (l.drop (0:Int).toNat)=S.Au l:=rfl
 obtain ⟨_,⟨g,rfl,y⟩,x⟩:=Apd @ih k d d 0 j (S.Ab l) o rfl
 refine ch x ?_
 exact Ai ⟨[g],[],[],[]⟩ (⟨_,rfl,(by have u:S.Ae (l.drop (0:Int).toNat)=S.Ae l:=rfl;omega)⟩)
theorem Amf:Aqu 52:=fun {l} ln dd nn L hO hLs h=>Aoq (S.Au l+1) ln dd nn L hO hLs ⟨h.1,h.2.1,h.2.2.1,h.2.2.2.1,h.2.2.2.2,Nat.lt_succ_self _⟩
end Go.Proofs.YtbmofjdmgjpfoaaGreatDoor.Am
end
section
set_option maxHeartbeats 4000000
set_option maxRecDepth 100000
namespace Go.Proofs.YtbmofjdmgjpfoaaGreatDoor.Am
open Go.AM Go.AM.K
def fxB:Bool:=(List.range 256).all fun x=>match EY [(x:Int)*16384-100000] K3 with|some (0,[])=>true|some (1,[])=>true|_=>false
theorem Aix:fxB=true:=by kernel_rfl
def ApD (N:Nat):Prop:=∀(v:Int) (hv:Fx v),Ok trees N ⟨[v],[],[],[]⟩ fun o=>o=(0,v0)∨o=(1,v0)
theorem AoD:ApD 99:=by
 intro v ⟨x,hx,hv⟩
 subst hv
 have h:=List.all_eq_true.1 Aix x (List.mem_range.2 hx)
 split at h
 ·rename_i e;exact Ok.num (t:=K3) rfl e (.inl rfl)
 ·rename_i e;exact Ok.num (t:=K3) rfl e (.inr rfl)
 ·cases h
def nmB:Bool:=names.all fun s=>match NH s AdR with|some 0=>true|_=>false
theorem Aik:nmB=true:=by kernel_rfl
def Aqf (N:Nat):Prop:=∀(s:List Nat) (hs:Nm s),Ok trees N ⟨[],[s],[],[]⟩ fun o=>o=(0,v0)
theorem Ge:Aqf 69:=by
 intro s hs
 have h:=List.all_eq_true.1 Aik s hs
 split at h
 ·rename_i e;exact Ok.str (t:=AdR) rfl e rfl
 ·cases h
def Ls (N n:Nat):Prop:=∀{Δ:Rl} {t:Int} {a:List E} (k o:Int) (ty v:Int) (g d:Int) (s:List Nat) (A:Rs) (u:TR Δ t (.node k o ty v s a)) (x:A=E.Ab a) (h:g=A.length∧0≤d∧d+100*(E.node k o ty v s a).nodes≤1000000∧(E.node k o ty v s a).high<n),Ok trees N ⟨[k,o,ty,v,g,d],[s],[A],[]⟩ fun j=>(∃(c:Int),j=(0,(⟨[c],[],[],[]⟩:Ah))∧(c+2≤d+100*(E.node k o ty v s a).nodes)∧(d≤c))
def AmI (N:Nat):Prop:=∀{Δ:Rl} {t:Int} {a:List E} (k o:Int) (ty v:Int) (g d:Int) (s:List Nat) (A:Rs) (u:TR Δ t (.node k o ty v s a)) (x:A=E.Ab a) (h:g=A.length∧0≤d∧d+100*(E.node k o ty v s a).nodes≤1000000:=by exact kn),Ok trees N ⟨[k,o,ty,v,g,d],[s],[A],[]⟩ fun j=>(∃(c:Int),j=(0,(⟨[c],[],[],[]⟩:Ah))∧(c+2≤d+100*(E.node k o ty v s a).nodes)∧(d≤c))
theorem Ls.of {N n:Nat} (H:AmI N):Ls N n:=fun {Δ} {t} {a} k o ty v ln sz s A hT hA h=>H k o ty v ln sz s A hT hA (by have:=h;omega)
def AnG (x N:Nat) (m n:Nat):Prop:=∀{Δ:Rl} {a:List E} (c len:Int) (j g:Int) (L:Rs) (o:TL Δ a) (u:L=E.Ab a) (h:c=L.length∧c≤1000∧len=c∧0≤j∧j≤c∧0≤g∧g+100*E.Ae (a.drop j.toNat)≤999970∧E.B3 a<m∧(len-j).toNat<n),Ok trees N ⟨[c,len,j,g],[],[L],[]⟩ fun k=>(k=(0,v0)∧(E.Ae (a.drop j.toNat)=0))∨(∃(d:Int),k=(1,(⟨[d],[],[],[]⟩:Ah))∧(d≤g+100*E.Ae (a.drop j.toNat))∧(g≤d))
def An0 (o N:Nat):Prop:=∀{m:Nat} (u:Ls o m) {Δ:Rl} {a:List E} (c len:Int) (j g:Int) (L:Rs) (x:TL Δ a) (y:L=E.Ab a) (h:c=L.length∧c≤1000∧len=c∧0≤j∧j≤c∧0≤g∧g+100*E.Ae (a.drop j.toNat)≤999970∧E.B3 a<m:=by exact kn),Ok trees N ⟨[c,len,j,g],[],[L],[]⟩ fun k=>(k=(0,v0)∧(E.Ae (a.drop j.toNat)=0))∨(∃(d:Int),k=(1,(⟨[d],[],[],[]⟩:Ah))∧(d≤g+100*E.Ae (a.drop j.toNat))∧(g≤d))
theorem AjP {m:Nat} (g:Ls 97 m) (n:Nat):AnG 97 100 m n:=by
 induction n with
 |zero=>intro Δ a x len j y L z J h;exact absurd h.2.2.2.2.2.2.2.2 (Nat.not_lt_zero _)
 |succ n ih=>
 intro Δ a x len j y L z J h
 subst J;have hz:=NP (a:=a) (j:=j)
 refine .of (t:=Xh) rfl ?_
 unfold Xh
 refine lt j len (fun t1=>?_) fun t1=>?_
 ·refine CG j 0 ?_
  refine B9 j x ?_
  obtain ⟨C,D,H,M,A,c,an,O,af,ai,R,ah⟩:=z.get j om om
  refine el O ?_
  refine gt j 0 (fun t3=>?_) fun t3=>?_
  ·refine bu y ?_
   obtain ⟨_,⟨k,rfl,aj,ag⟩,G4⟩:=g C D H M ((E.Ab c).length:Int) (y+2) A (E.Ab c) ‹_› rfl kn
   refine ch G4 ?_
   obtain ⟨_,(⟨rfl,Q⟩|⟨o,rfl,Z,U⟩),P⟩:=ih x len (j+1) k (E.Ab a) ‹_› rfl kn
   ·refine ch P ?_
    exact Ai ⟨[k],[],[],[]⟩ (.inr ((⟨_,rfl,kn,kn⟩)))
   refine cm P ?_
   refine ch P ?_
   exact Ai ⟨[o],[],[],[]⟩ (.inr ((⟨_,rfl,kn,kn⟩)))
  obtain ⟨_,⟨d,rfl,al,am⟩,G6⟩:=g C D H M ((E.Ab c).length:Int) y A (E.Ab c) ‹_› rfl kn
  refine ch G6 ?_
  obtain ⟨_,(⟨rfl,X⟩|⟨u,rfl,ab,aa⟩),N⟩:=ih x len (j+1) d (E.Ab a) ‹_› rfl kn
  ·refine ch N ?_
   exact Ai ⟨[d],[],[],[]⟩ (.inr ((⟨_,rfl,kn,kn⟩)))
  refine cm N ?_
  refine ch N ?_
  exact Ai ⟨[u],[],[],[]⟩ (.inr ((⟨_,rfl,kn,kn⟩)))
 exact Ai v0 (.inl (⟨rfl,kn⟩))
theorem Am8:An0 97 100:=fun {m} hC97 {Δ} {a} ln len j sz L hTL hLa h=>AjP @hC97 ((len-j).toNat+1) ln len j sz L hTL hLa ⟨h.1,h.2.1,h.2.2.1,h.2.2.2.1,h.2.2.2.2.1,h.2.2.2.2.2.1,h.2.2.2.2.2.2.1,h.2.2.2.2.2.2.2,Nat.lt_succ_self _⟩
def ApE (j N:Nat):Prop:=∀{m:Nat} (k:Ls j m) {Δ:Rl} {a:List E} (g d:Int) (L:Rs) (u:TL Δ a) (x:L=E.Ab a) (h:g=L.length∧g≤1000∧0≤d∧d+2+100*E.Ae a≤999970∧E.B3 a<m:=by exact kn),Ok trees N ⟨[g,d],[],[L],[]⟩ fun o=>(∃(c:Int),o=(0,(⟨[c],[],[],[]⟩:Ah))∧(c≤d+2+100*E.Ae a)∧(d≤c))
theorem J2:ApE 97 98:=by
 intro m j Δ a o d L g u h
 subst u;have C:=TR.len g;have A:E.Ae (a.drop (0:Int).toNat)=E.Ae a:=rfl
 refine .of (t:=Ad7) rfl ?_
 unfold Ad7
 refine bu d ?_
 obtain ⟨_,(⟨rfl,z⟩|⟨c,rfl,y,x⟩),k⟩:=Am8 @j o o 0 (d+1) (E.Ab a) g rfl
 ·refine ch k ?_
  refine bu (d+1) ?_
  exact Ai ⟨[((d+1)+1)],[],[],[]⟩ (⟨_,rfl,kn,kn⟩)
 refine cm k ?_
 refine ch k ?_
 refine bu c ?_
 exact Ai ⟨[(c+1)],[],[],[]⟩ (⟨_,rfl,kn,kn⟩)
theorem AnX (n:Nat):Ls 97 n:=by
 induction n with
 |zero=>intro Δ t a k o ty v g d s A U hA h;exact absurd h.2.2.2 (Nat.not_lt_zero _)
 |succ n ih=>
 intro Δ t a k o ty v g d s A U hA h
 subst hA;have ⟨dj,dl,dp⟩:=U.kind;have e1:=U.nodes;have e2:=I2 (k:=k) (o:=o) (ty:=ty) (v:=v) (s:=s) (a:=a);have hl:=TR.len U.args;have dk:=E.Az a;have e0:E.Ae (a.drop (0:Int).toNat)=E.Ae a:=rfl;have X:g=(a.length:Int):=by have:=h.1;rw [E.Az]at this;exact this
 rcases U.inv with hv|hv|hv|hv|hv|hv|hv|hv
 ·obtain ⟨rfl,rfl,rfl,rfl,rfl,r1,r2,r3,r4,r5,r6⟩:=hv;simp only [lC,lN]at X;have Z:E.Ae []=0:=rfl;have R:TL Δ []:=U.args
  refine .of (t:=Hv) rfl ?_
  unfold Hv
  refine BF 1 1 ?_
  refine BW g 0 ?_
  refine BW 0 0 ?_
  refine seY [] [] ?_
  refine eq ty 1 (fun M=>?_) fun M=>?_
  ·refine bu d ?_
   exact Ai ⟨[(d+21)],[],[],[]⟩ (⟨_,rfl,kn,kn⟩)
  refine eq ty 2 (fun j=>?_) fun j=>?_
  ·obtain ⟨_,(rfl|rfl),G3⟩:=AoD v (r4 om)
   ·refine ch G3 ?_
    refine bu d ?_
    exact Ai ⟨[(d+34)],[],[],[]⟩ (⟨_,rfl,kn,kn⟩)
   refine cm G3 ?_
   refine ch G3 ?_
   refine bu d ?_
   exact Ai ⟨[(d+33)],[],[],[]⟩ (⟨_,rfl,kn,kn⟩)
  refine BF ty 3 ?_
  refine eq v 0 (fun t4=>?_) fun t4=>?_
  ·refine AN v 1 ?_
   refine bu d ?_
   exact Ai ⟨[(d+5)],[],[],[]⟩ (⟨_,rfl,kn,kn⟩)
  refine BF v 1 ?_
  refine bu d ?_
  exact Ai ⟨[(d+4)],[],[],[]⟩ (⟨_,rfl,kn,kn⟩)
 ·obtain ⟨rfl,rfl,rfl,rfl,rfl,rfl,r1,r2⟩:=hv;simp only [lC,lN]at X;have Z:E.Ae []=0:=rfl;have R:TL Δ []:=U.args
  refine .of (t:=Hv) rfl ?_
  unfold Hv
  refine AN 3 1 ?_
  refine AN 3 2 ?_
  refine BF 3 3 ?_
  refine BW g 0 ?_
  refine BW 0 0 ?_
  refine seY [] [] ?_
  refine Ek (o-1) 0 ?_
  refine Jt (o-1) 7 ?_
  refine eq (o-1) 0 (fun t5=>?_) fun t5=>?_
  ·refine bu d ?_
   refine BW 0 0 ?_
   exact Ai ⟨[(d+5)],[],[],[]⟩ (⟨_,rfl,kn,kn⟩)
  refine eq (o-1) 1 (fun t6=>?_) fun t6=>?_
  ·refine bu d ?_
   refine BW 0 0 ?_
   exact Ai ⟨[(d+6)],[],[],[]⟩ (⟨_,rfl,kn,kn⟩)
  refine eq (o-1) 2 (fun t7=>?_) fun t7=>?_
  ·refine bu d ?_
   refine BW 0 0 ?_
   exact Ai ⟨[(d+6)],[],[],[]⟩ (⟨_,rfl,kn,kn⟩)
  refine eq (o-1) 3 (fun t8=>?_) fun t8=>?_
  ·refine bu d ?_
   refine BW 0 0 ?_
   exact Ai ⟨[(d+6)],[],[],[]⟩ (⟨_,rfl,kn,kn⟩)
  refine eq (o-1) 4 (fun t9=>?_) fun t9=>?_
  ·refine bu d ?_
   refine BW 0 0 ?_
   exact Ai ⟨[(d+5)],[],[],[]⟩ (⟨_,rfl,kn,kn⟩)
  refine eq (o-1) 5 (fun bO=>?_) fun bO=>?_
  ·refine bu d ?_
   refine BW 0 0 ?_
   exact Ai ⟨[(d+5)],[],[],[]⟩ (⟨_,rfl,kn,kn⟩)
  refine BF (o-1) 6 ?_
  refine bu d ?_
  refine BW 0 0 ?_
  exact Ai ⟨[(d+4)],[],[],[]⟩ (⟨_,rfl,kn,kn⟩)
 ·obtain ⟨rfl,rfl,rfl,rfl,rfl,hs,kk,ii,hk,r1,r2,hg⟩:=hv;simp only [lC,lN]at X;have Z:E.Ae []=0:=rfl;have R:TL Δ []:=U.args;have aP:=Nm.len (s:=s) ‹_›
  refine .of (t:=Hv) rfl ?_
  unfold Hv
  refine AN 2 1 ?_
  refine BF 2 2 ?_
  refine BW g 0 ?_
  refine BW 0 0 ?_
  refine BW 0 0 ?_
  refine BW 0 0 ?_
  obtain ⟨_,rfl,bX⟩:=Ge s (by first|assumption|decide)
  refine ch bX ?_
  refine sl s ?_
  refine bu d ?_
  exact Ai ⟨[(d+64)],[],[],[]⟩ (⟨_,rfl,kn,kn⟩)
 ·obtain ⟨rfl,rfl,rfl,rfl,Q,N,M,O,P,D,w,rfl,hu,h1⟩:=hv;simp only [lC,lN]at X;have Z:=n1 (x:=.node Q N M O P D);have e4:=g1 (x:=.node Q N M O P D);have R:TL Δ [.node Q N M O P D]:=U.args;have hr:=hu.rng
  refine .of (t:=Hv) rfl ?_
  unfold Hv
  refine AN 4 1 ?_
  refine AN 4 2 ?_
  refine AN 4 3 ?_
  refine BF 4 4 ?_
  refine BW g 1 ?_
  refine BW 0 0 ?_
  refine seY [] [] ?_
  refine Ek (o-1) 0 ?_
  refine Jt (o-1) 5 ?_
  refine eq (o-1) 0 (fun bW=>?_) fun bW=>?_
  ·refine bu d ?_
   refine BW 0 0 ?_
   obtain ⟨_,⟨aH,rfl,b5,cw⟩,bx⟩:=J2 @ih g (d+3) (E.Ab [.node Q N M O P D]) R rfl
   refine ch bx ?_
   exact Ai ⟨[aH],[],[],[]⟩ (⟨_,rfl,kn,kn⟩)
  refine eq (o-1) 1 (fun bg=>?_) fun bg=>?_
  ·refine bu d ?_
   refine BW 0 0 ?_
   obtain ⟨_,⟨aB,rfl,cK,c1⟩,bU⟩:=J2 @ih g (d+3) (E.Ab [.node Q N M O P D]) R rfl
   refine ch bU ?_
   exact Ai ⟨[aB],[],[],[]⟩ (⟨_,rfl,kn,kn⟩)
  refine eq (o-1) 2 (fun bB=>?_) fun bB=>?_
  ·refine bu d ?_
   refine BW 0 0 ?_
   obtain ⟨_,⟨aI,rfl,cz,b7⟩,bb⟩:=J2 @ih g (d+3) (E.Ab [.node Q N M O P D]) R rfl
   refine ch bb ?_
   exact Ai ⟨[aI],[],[],[]⟩ (⟨_,rfl,kn,kn⟩)
  refine eq (o-1) 3 (fun bd=>?_) fun bd=>?_
  ·refine bu d ?_
   refine BW 0 0 ?_
   obtain ⟨_,⟨aO,rfl,cb,cB⟩,bE⟩:=J2 @ih g (d+3) (E.Ab [.node Q N M O P D]) R rfl
   refine ch bE ?_
   exact Ai ⟨[aO],[],[],[]⟩ (⟨_,rfl,kn,kn⟩)
  refine BF (o-1) 4 ?_
  refine bu d ?_
  refine BW 0 0 ?_
  obtain ⟨_,⟨aL,rfl,cj,cX⟩,bQ⟩:=J2 @ih g (d+3) (E.Ab [.node Q N M O P D]) R rfl
  refine ch bQ ?_
  exact Ai ⟨[aL],[],[],[]⟩ (⟨_,rfl,kn,kn⟩)
 ·obtain ⟨rfl,rfl,rfl,rfl,Q,N,M,O,P,D,C,u,j,H,J,b2,w,rfl,hu,h1,h2⟩:=hv;simp only [lC,lN]at X;have Z:=n2 (x:=.node Q N M O P D) (y:=.node C u j H J b2);have e4:=g2 (x:=.node Q N M O P D) (y:=.node C u j H J b2);have R:TL Δ [.node Q N M O P D,.node C u j H J b2]:=U.args;have hr:=hu.rng
  refine .of (t:=Hv) rfl ?_
  unfold Hv
  refine AN 5 1 ?_
  refine AN 5 2 ?_
  refine AN 5 3 ?_
  refine AN 5 4 ?_
  refine BF 5 5 ?_
  refine BW g 2 ?_
  refine BW 0 0 ?_
  refine seY [] [] ?_
  refine BF g 2 ?_
  refine eq o 22 (fun bh=>?_) fun bh=>?_
  ·refine Ek (o-22) 0 ?_
   refine Jt (o-22) 2 ?_
   refine BF (o-22) 0 ?_
   refine bu d ?_
   refine BW 0 0 ?_
   obtain ⟨_,⟨aN,rfl,ct,cT⟩,bF⟩:=J2 @ih g (d+3) (E.Ab [.node Q N M O P D,.node C u j H J b2]) R rfl
   refine ch bF ?_
   exact Ai ⟨[aN],[],[],[]⟩ (⟨_,rfl,kn,kn⟩)
  refine eq o 23 (fun bj=>?_) fun bj=>?_
  ·refine Ek (o-22) 0 ?_
   refine Jt (o-22) 2 ?_
   refine AN (o-22) 0 ?_
   refine BF (o-22) 1 ?_
   refine bu d ?_
   refine BW 0 0 ?_
   obtain ⟨_,⟨aJ,rfl,cn,cA⟩,bc⟩:=J2 @ih g (d+3) (E.Ab [.node Q N M O P D,.node C u j H J b2]) R rfl
   refine ch bc ?_
   exact Ai ⟨[aJ],[],[],[]⟩ (⟨_,rfl,kn,kn⟩)
  refine bu d ?_
  refine B9 0 g ?_
  refine el (j':=0) rfl ?_
  refine BW 0 0 ?_
  obtain ⟨_,⟨c,rfl,bY,cv⟩,bS⟩:=ih Q N M O ((E.Ab D).length:Int) (d+1) P (E.Ab D) ‹_› rfl kn
  refine ch bS ?_
  refine bu c ?_
  refine Ek (o-10) 0 ?_
  refine Jt (o-10) 20 ?_
  refine eq (o-10) 0 (fun bD=>?_) fun bD=>?_
  ·refine bu (c+1) ?_
   refine bu ((c+1)+1) ?_
   refine B9 1 g ?_
   refine el (j':=1) rfl ?_
   obtain ⟨_,⟨ac,rfl,co,cW⟩,a3⟩:=ih C u j H ((E.Ab b2).length:Int) (((c+1)+1)+1) J (E.Ab b2) ‹_› rfl kn
   refine ch a3 ?_
   refine bu ac ?_
   exact Ai ⟨[(ac+1)],[],[],[]⟩ (⟨_,rfl,kn,kn⟩)
  refine eq (o-10) 1 (fun a2=>?_) fun a2=>?_
  ·refine bu (c+1) ?_
   refine bu ((c+1)+1) ?_
   refine B9 1 g ?_
   refine el (j':=1) rfl ?_
   obtain ⟨_,⟨aw,rfl,ci,cC⟩,bL⟩:=ih C u j H ((E.Ab b2).length:Int) (((c+1)+1)+1) J (E.Ab b2) ‹_› rfl kn
   refine ch bL ?_
   refine bu aw ?_
   exact Ai ⟨[(aw+1)],[],[],[]⟩ (⟨_,rfl,kn,kn⟩)
  refine eq (o-10) 2 (fun bN=>?_) fun bN=>?_
  ·refine bu (c+1) ?_
   refine bu ((c+1)+1) ?_
   refine B9 1 g ?_
   refine el (j':=1) rfl ?_
   obtain ⟨_,⟨am,rfl,b4,cV⟩,bJ⟩:=ih C u j H ((E.Ab b2).length:Int) (((c+1)+1)+1) J (E.Ab b2) ‹_› rfl kn
   refine ch bJ ?_
   refine bu am ?_
   exact Ai ⟨[(am+1)],[],[],[]⟩ (⟨_,rfl,kn,kn⟩)
  refine eq (o-10) 3 (fun bl=>?_) fun bl=>?_
  ·refine bu (c+1) ?_
   refine bu ((c+1)+1) ?_
   refine B9 1 g ?_
   refine el (j':=1) rfl ?_
   obtain ⟨_,⟨av,rfl,cy,cP⟩,a5⟩:=ih C u j H ((E.Ab b2).length:Int) (((c+1)+1)+1) J (E.Ab b2) ‹_› rfl kn
   refine ch a5 ?_
   refine bu av ?_
   exact Ai ⟨[(av+1)],[],[],[]⟩ (⟨_,rfl,kn,kn⟩)
  refine eq (o-10) 4 (fun a4=>?_) fun a4=>?_
  ·refine bu (c+1) ?_
   refine bu ((c+1)+1) ?_
   refine B9 1 g ?_
   refine el (j':=1) rfl ?_
   obtain ⟨_,⟨ae,rfl,cM,cG⟩,bG⟩:=ih C u j H ((E.Ab b2).length:Int) (((c+1)+1)+1) J (E.Ab b2) ‹_› rfl kn
   refine ch bG ?_
   refine bu ae ?_
   exact Ai ⟨[(ae+1)],[],[],[]⟩ (⟨_,rfl,kn,kn⟩)
  refine eq (o-10) 5 (fun aW=>?_) fun aW=>?_
  ·refine bu (c+1) ?_
   refine bu ((c+1)+2) ?_
   refine B9 1 g ?_
   refine el (j':=1) rfl ?_
   obtain ⟨_,⟨ao,rfl,c4,cH⟩,a8⟩:=ih C u j H ((E.Ab b2).length:Int) (((c+1)+2)+1) J (E.Ab b2) ‹_› rfl kn
   refine ch a8 ?_
   refine bu ao ?_
   exact Ai ⟨[(ao+1)],[],[],[]⟩ (⟨_,rfl,kn,kn⟩)
  refine eq (o-10) 6 (fun bo=>?_) fun bo=>?_
  ·refine bu (c+1) ?_
   refine bu ((c+1)+2) ?_
   refine B9 1 g ?_
   refine el (j':=1) rfl ?_
   obtain ⟨_,⟨al,rfl,cr,cL⟩,a1⟩:=ih C u j H ((E.Ab b2).length:Int) (((c+1)+2)+1) J (E.Ab b2) ‹_› rfl kn
   refine ch a1 ?_
   refine bu al ?_
   exact Ai ⟨[(al+1)],[],[],[]⟩ (⟨_,rfl,kn,kn⟩)
  refine eq (o-10) 7 (fun bR=>?_) fun bR=>?_
  ·refine bu (c+1) ?_
   refine bu ((c+1)+1) ?_
   refine B9 1 g ?_
   refine el (j':=1) rfl ?_
   obtain ⟨_,⟨ah,rfl,cI,c2⟩,ba⟩:=ih C u j H ((E.Ab b2).length:Int) (((c+1)+1)+1) J (E.Ab b2) ‹_› rfl kn
   refine ch ba ?_
   refine bu ah ?_
   exact Ai ⟨[(ah+1)],[],[],[]⟩ (⟨_,rfl,kn,kn⟩)
  refine eq (o-10) 8 (fun be=>?_) fun be=>?_
  ·refine bu (c+1) ?_
   refine bu ((c+1)+1) ?_
   refine B9 1 g ?_
   refine el (j':=1) rfl ?_
   obtain ⟨_,⟨ay,rfl,cN,b8⟩,bz⟩:=ih C u j H ((E.Ab b2).length:Int) (((c+1)+1)+1) J (E.Ab b2) ‹_› rfl kn
   refine ch bz ?_
   refine bu ay ?_
   exact Ai ⟨[(ay+1)],[],[],[]⟩ (⟨_,rfl,kn,kn⟩)
  refine eq (o-10) 9 (fun bM=>?_) fun bM=>?_
  ·refine bu (c+1) ?_
   refine bu ((c+1)+1) ?_
   refine B9 1 g ?_
   refine el (j':=1) rfl ?_
   obtain ⟨_,⟨aj,rfl,c3,cS⟩,bV⟩:=ih C u j H ((E.Ab b2).length:Int) (((c+1)+1)+1) J (E.Ab b2) ‹_› rfl kn
   refine ch bV ?_
   refine bu aj ?_
   exact Ai ⟨[(aj+1)],[],[],[]⟩ (⟨_,rfl,kn,kn⟩)
  refine eq (o-10) 10 (fun bK=>?_) fun bK=>?_
  ·refine bu (c+1) ?_
   refine bu ((c+1)+2) ?_
   refine B9 1 g ?_
   refine el (j':=1) rfl ?_
   obtain ⟨_,⟨ab,rfl,cZ,cY⟩,bm⟩:=ih C u j H ((E.Ab b2).length:Int) (((c+1)+2)+1) J (E.Ab b2) ‹_› rfl kn
   refine ch bm ?_
   refine bu ab ?_
   exact Ai ⟨[(ab+1)],[],[],[]⟩ (⟨_,rfl,kn,kn⟩)
  refine eq (o-10) 11 (fun bt=>?_) fun bt=>?_
  ·refine bu (c+1) ?_
   refine bu ((c+1)+2) ?_
   refine B9 1 g ?_
   refine el (j':=1) rfl ?_
   obtain ⟨_,⟨af,rfl,cO,cU⟩,a0⟩:=ih C u j H ((E.Ab b2).length:Int) (((c+1)+2)+1) J (E.Ab b2) ‹_› rfl kn
   refine ch a0 ?_
   refine bu af ?_
   exact Ai ⟨[(af+1)],[],[],[]⟩ (⟨_,rfl,kn,kn⟩)
  refine AN (o-10) 12 ?_
  refine AN (o-10) 13 ?_
  refine eq (o-10) 14 (fun bI=>?_) fun bI=>?_
  ·refine bu (c+1) ?_
   refine bu ((c+1)+2) ?_
   refine B9 1 g ?_
   refine el (j':=1) rfl ?_
   obtain ⟨_,⟨aa,rfl,cE,ce⟩,a9⟩:=ih C u j H ((E.Ab b2).length:Int) (((c+1)+2)+1) J (E.Ab b2) ‹_› rfl kn
   refine ch a9 ?_
   refine bu aa ?_
   exact Ai ⟨[(aa+1)],[],[],[]⟩ (⟨_,rfl,kn,kn⟩)
  refine eq (o-10) 15 (fun bv=>?_) fun bv=>?_
  ·refine bu (c+1) ?_
   refine bu ((c+1)+2) ?_
   refine B9 1 g ?_
   refine el (j':=1) rfl ?_
   obtain ⟨_,⟨ai,rfl,cf,cc⟩,bq⟩:=ih C u j H ((E.Ab b2).length:Int) (((c+1)+2)+1) J (E.Ab b2) ‹_› rfl kn
   refine ch bq ?_
   refine bu ai ?_
   exact Ai ⟨[(ai+1)],[],[],[]⟩ (⟨_,rfl,kn,kn⟩)
  refine eq (o-10) 16 (fun aY=>?_) fun aY=>?_
  ·refine bu (c+1) ?_
   refine bu ((c+1)+1) ?_
   refine B9 1 g ?_
   refine el (j':=1) rfl ?_
   obtain ⟨_,⟨au,rfl,b0,cd⟩,a7⟩:=ih C u j H ((E.Ab b2).length:Int) (((c+1)+1)+1) J (E.Ab b2) ‹_› rfl kn
   refine ch a7 ?_
   refine bu au ?_
   exact Ai ⟨[(au+1)],[],[],[]⟩ (⟨_,rfl,kn,kn⟩)
  refine eq (o-10) 17 (fun br=>?_) fun br=>?_
  ·refine bu (c+1) ?_
   refine bu ((c+1)+2) ?_
   refine B9 1 g ?_
   refine el (j':=1) rfl ?_
   obtain ⟨_,⟨ad,rfl,c6,c5⟩,bP⟩:=ih C u j H ((E.Ab b2).length:Int) (((c+1)+2)+1) J (E.Ab b2) ‹_› rfl kn
   refine ch bP ?_
   refine bu ad ?_
   exact Ai ⟨[(ad+1)],[],[],[]⟩ (⟨_,rfl,kn,kn⟩)
  refine eq (o-10) 18 (fun a6=>?_) fun a6=>?_
  ·refine bu (c+1) ?_
   refine bu ((c+1)+1) ?_
   refine B9 1 g ?_
   refine el (j':=1) rfl ?_
   obtain ⟨_,⟨ax,rfl,bZ,cu⟩,bA⟩:=ih C u j H ((E.Ab b2).length:Int) (((c+1)+1)+1) J (E.Ab b2) ‹_› rfl kn
   refine ch bA ?_
   refine bu ax ?_
   exact Ai ⟨[(ax+1)],[],[],[]⟩ (⟨_,rfl,kn,kn⟩)
  refine BF (o-10) 19 ?_
  refine bu (c+1) ?_
  refine bu ((c+1)+2) ?_
  refine B9 1 g ?_
  refine el (j':=1) rfl ?_
  obtain ⟨_,⟨an,rfl,cJ,cx⟩,bw⟩:=ih C u j H ((E.Ab b2).length:Int) (((c+1)+2)+1) J (E.Ab b2) ‹_› rfl kn
  refine ch bw ?_
  refine bu an ?_
  exact Ai ⟨[(an+1)],[],[],[]⟩ (⟨_,rfl,kn,kn⟩)
 ·obtain ⟨rfl,rfl,rfl,rfl,rfl,Q,N,M,O,P,D,C,u,j,H,J,b2,k3,o3,t3,v3,s3,b3,rfl,h1,h2,h3⟩:=hv;simp only [lC,lN]at X;have Z:=n3 (x:=.node Q N M O P D) (y:=.node C u j H J b2) (z:=.node k3 o3 t3 v3 s3 b3);have e4:=g3 (x:=.node Q N M O P D) (y:=.node C u j H J b2) (z:=.node k3 o3 t3 v3 s3 b3);have R:TL Δ [.node Q N M O P D,.node C u j H J b2,.node k3 o3 t3 v3 s3 b3]:=U.args
  refine .of (t:=Hv) rfl ?_
  unfold Hv
  refine AN 6 1 ?_
  refine AN 6 2 ?_
  refine AN 6 3 ?_
  refine AN 6 4 ?_
  refine AN 6 5 ?_
  refine BF 6 6 ?_
  refine BW g 3 ?_
  refine BW 0 0 ?_
  refine BW 0 0 ?_
  refine seY [] [] ?_
  refine BF g 3 ?_
  refine bu d ?_
  refine B9 0 g ?_
  refine el (j':=0) rfl ?_
  refine BW 0 0 ?_
  obtain ⟨_,⟨aq,rfl,cp,cR⟩,bi⟩:=ih Q N M O ((E.Ab D).length:Int) (d+1) P (E.Ab D) ‹_› rfl kn
  refine ch bi ?_
  refine bu aq ?_
  refine B9 1 g ?_
  refine el (j':=1) rfl ?_
  obtain ⟨_,⟨ag,rfl,cQ,cg⟩,bH⟩:=ih C u j H ((E.Ab b2).length:Int) (aq+3) J (E.Ab b2) ‹_› rfl kn
  refine ch bH ?_
  refine bu ag ?_
  refine B9 2 g ?_
  refine el (j':=2) rfl ?_
  obtain ⟨_,⟨ak,rfl,cF,cD⟩,bT⟩:=ih k3 o3 t3 v3 ((E.Ab b3).length:Int) (ag+3) s3 (E.Ab b3) ‹_› rfl kn
  refine ch bT ?_
  refine bu ak ?_
  exact Ai ⟨[(ak+1)],[],[],[]⟩ (⟨_,rfl,kn,kn⟩)
 ·obtain ⟨rfl,rfl,rfl,rfl,hs,Q,N,M,O,P,D,ii,rfl,r1,r2,hg,h1⟩:=hv;simp only [lC,lN]at X;have Z:=n1 (x:=.node Q N M O P D);have e4:=g1 (x:=.node Q N M O P D);have R:TL Δ [.node Q N M O P D]:=U.args;have aP:=Nm.len (s:=s) ‹_›
  refine .of (t:=Hv) rfl ?_
  unfold Hv
  refine AN 7 1 ?_
  refine AN 7 2 ?_
  refine AN 7 3 ?_
  refine AN 7 4 ?_
  refine AN 7 5 ?_
  refine AN 7 6 ?_
  refine BF 7 7 ?_
  obtain ⟨_,rfl,bk⟩:=Ge s (by first|assumption|decide)
  refine ch bk ?_
  refine sl s ?_
  refine bu d ?_
  refine BW g 1 ?_
  refine BW 0 0 ?_
  refine BW 0 0 ?_
  refine BF g 1 ?_
  refine B9 0 g ?_
  refine el (j':=0) rfl ?_
  refine bu (d+64) ?_
  refine BW 0 0 ?_
  obtain ⟨_,⟨ap,rfl,cq,b6⟩,bn⟩:=ih Q N M O ((E.Ab D).length:Int) ((d+64)+1) P (E.Ab D) ‹_› rfl kn
  refine ch bn ?_
  refine bu ap ?_
  exact Ai ⟨[(ap+1)],[],[],[]⟩ (⟨_,rfl,kn,kn⟩)
 ·obtain ⟨rfl,rfl,rfl,rfl,rfl,Q,N,M,O,P,D,C,u,j,H,J,b2,ii,rfl,rfl,hg,h1,h2⟩:=hv;simp only [lC,lN]at X;have Z:=n2 (x:=.node Q N M O P D) (y:=.node C u j H J b2);have e4:=g2 (x:=.node Q N M O P D) (y:=.node C u j H J b2);have R:TL Δ [.node Q N M O P D,.node C u j H J b2]:=U.args;have aP:=Nm.len (s:=[104]) (by decide)
  refine .of (t:=Hv) rfl ?_
  unfold Hv
  refine AN 8 1 ?_
  refine AN 8 2 ?_
  refine AN 8 3 ?_
  refine AN 8 4 ?_
  refine AN 8 5 ?_
  refine AN 8 6 ?_
  refine AN 8 7 ?_
  refine BF 8 8 ?_
  refine BW g g ?_
  refine BW 0 0 ?_
  refine BW 0 0 ?_
  refine BW 0 0 ?_
  obtain ⟨_,rfl,bf⟩:=Ge [104] (by first|assumption|decide)
  refine ch bf ?_
  refine sl [104] ?_
  refine bu d ?_
  obtain ⟨_,⟨aK,rfl,b9,c7⟩,aX⟩:=J2 @ih g (d+64) (E.Ab [.node Q N M O P D,.node C u j H J b2]) R rfl
  refine ch aX ?_
  exact Ai ⟨[aK],[],[],[]⟩ (⟨_,rfl,kn,kn⟩)
theorem EM:AmI 97:=fun {Δ} {t} {a} k o ty v ln sz s A hT hA h=>AnX ((E.node k o ty v s a).high+1) k o ty v ln sz s A hT hA ⟨h.1,h.2.1,h.2.2,Nat.lt_succ_self _⟩
end Go.Proofs.YtbmofjdmgjpfoaaGreatDoor.Am
end
section
set_option maxHeartbeats 4000000
set_option maxRecDepth 100000
namespace Go.Proofs.YtbmofjdmgjpfoaaGreatDoor.Am
open Go.AM Go.AM.K
def ApN (N:Nat):Prop:=∀(k o:Int) (t b:Int) (D C:Int) (M z:Int) (J yk:Int) (j u:Int) (y x:Int) (c d P:Int) (nm A g:List Nat) (X Y:Rs) (H Q:Rs) (R:g=[]) (h:o=0∧b=0∧yk=0∧j=0∧u=0∧y=0∧x=0∧c=0∧d=0:=by exact kn),Ok trees N ⟨[k,o,t,b,D,C,M,z,J,yk,j,u,y,x,c,d,P],[nm,A,g],[X,Y,H,Q],[]⟩ fun O=>(O=(0,v0))
theorem AoK:ApN 88:=by
 intro k o t b A N O J D yk j y x u d c P nm M g X Y C H z h
 refine .of (t:=AdG) rfl ?_
 unfold AdG
 refine Cp o 0 ?_
 refine Cp b 0 ?_
 refine Cp yk 0 ?_
 refine Cp j 0 ?_
 refine Cp y 0 ?_
 refine YD g ?_
 refine Cp x 0 ?_
 refine Cp u 0 ?_
 refine Cp d 0 ?_
 refine Cp c 0 ?_
 exact Ai v0 (rfl)
def ApM (N:Nat):Prop:=∀(k o:Int) (t b:Int) (D C:Int) (M z:Int) (J yk:Int) (j u:Int) (y x:Int) (c d P:Int) (nm A g:List Nat) (X Y:Rs) (H Q:Rs) (R:g=[]) (h:o=0∧t=0∧b=0∧yk=0∧j=0∧u=0∧y=0∧x=0∧c=0∧d=0:=by exact kn),Ok trees N ⟨[k,o,t,b,D,C,M,z,J,yk,j,u,y,x,c,d,P],[nm,A,g],[X,Y,H,Q],[]⟩ fun O=>(O=(0,v0))
theorem AoJ:ApM 89:=by
 intro k o t b A N O J D yk j y x u d c P nm M g X Y C H z h
 refine .of (t:=AdF) rfl ?_
 unfold AdF
 refine Cp o 0 ?_
 refine Cp t 0 ?_
 refine Cp b 0 ?_
 refine Cp yk 0 ?_
 refine Cp j 0 ?_
 refine Cp y 0 ?_
 refine YD g ?_
 refine Cp x 0 ?_
 refine Cp u 0 ?_
 refine Cp d 0 ?_
 refine Cp c 0 ?_
 exact Ai v0 (rfl)
def ApL (N:Nat):Prop:=∀(k o:Int) (t b:Int) (z y:Int) (H j:Int) (D yk:Int) (u A:Int) (O M:Int) (c d P:Int) (nm x g:List Nat) (X Y:Rs) (C Q:Rs) (h:o=0∧t=0∧b=0∧c=0∧d=0:=by exact kn),Ok trees N ⟨[k,o,t,b,z,y,H,j,D,yk,u,A,O,M,c,d,P],[nm,x,g],[X,Y,C,Q],[]⟩ fun J=>(J=(0,v0))
theorem AoI:ApL 90:=by
 intro k o t b u J N D y yk j M A z d c O nm H g X Y x C h
 refine .of (t:=AdE) rfl ?_
 unfold AdE
 refine Cp o 0 ?_
 refine Cp t 0 ?_
 refine Cp b 0 ?_
 refine Cp d 0 ?_
 refine Cp c 0 ?_
 exact Ai v0 (rfl)
def ApK (N:Nat):Prop:=∀(k o:Int) (t b:Int) (D C:Int) (M z:Int) (J yk:Int) (g j:Int) (y x:Int) (d u P:Int) (nm A c:List Nat) (X Y:Rs) (H Q:Rs) (U:nm=[]) (R:c=[]) (h:o=0∧t=0∧b=0∧yk=0∧g=0∧j=0∧y=0∧x=0:=by exact kn),Ok trees N ⟨[k,o,t,b,D,C,M,z,J,yk,g,j,y,x,d,u,P],[nm,A,c],[X,Y,H,Q],[]⟩ fun O=>(O=(0,v0))
theorem AoH:ApK 91:=by
 intro k o t b C O P M H yk d u j g z y Q nm N c X Y D J A x h
 refine .of (t:=AdD) rfl ?_
 unfold AdD
 refine Cp o 0 ?_
 refine Cp t 0 ?_
 refine Cp b 0 ?_
 refine YD nm ?_
 refine Cp yk 0 ?_
 refine Cp d 0 ?_
 refine Cp u 0 ?_
 refine YD c ?_
 refine Cp j 0 ?_
 refine Cp g 0 ?_
 exact Ai v0 (rfl)
def ApJ (N:Nat):Prop:=∀(k o:Int) (t b:Int) (D C:Int) (M z:Int) (J yk:Int) (j u:Int) (y x:Int) (g c P:Int) (nm A d:List Nat) (X Y:Rs) (H Q:Rs) (U:nm=[]) (R:d=[]) (h:o=0∧t=0∧yk=0∧j=0∧u=0∧y=0∧x=0∧c=0:=by exact kn),Ok trees N ⟨[k,o,t,b,D,C,M,z,J,yk,j,u,y,x,g,c,P],[nm,A,d],[X,Y,H,Q],[]⟩ fun O=>(O=(0,v0))
theorem AoG:ApJ 92:=by
 intro k o t b C O P M H yk g x u j z c Q nm N d X Y D J A y h
 refine .of (t:=AdC) rfl ?_
 unfold AdC
 refine Cp o 0 ?_
 refine Cp t 0 ?_
 refine YD nm ?_
 refine Cp yk 0 ?_
 refine Cp g 0 ?_
 refine Cp x 0 ?_
 refine YD d ?_
 refine Cp u 0 ?_
 refine Cp j 0 ?_
 refine Cp c 0 ?_
 exact Ai v0 (rfl)
def ApI (N:Nat):Prop:=∀(k o:Int) (t b:Int) (z y:Int) (D j:Int) (C yk:Int) (u A:Int) (J H:Int) (c d P:Int) (nm x g:List Nat) (X Y:Rs) (M Q:Rs) (Z:nm=[]) (R:x=[]) (U:g=[]) (h:o=0∧t=0∧b=0∧z=0∧y=0∧D=0∧j=0∧C=0∧yk=0∧u=0∧A=0∧J=0∧H=0∧c=0∧d=0:=by exact kn),Ok trees N ⟨[k,o,t,b,z,y,D,j,C,yk,u,A,J,H,c,d,P],[nm,x,g],[X,Y,M,Q],[]⟩ fun O=>(O=(0,v0))
theorem Afc:ApI 93:=by
 intro k o t b u D J A x yk j H z y d c R nm C g X Y P Q O N M h
 refine .of (t:=AdB) rfl ?_
 unfold AdB
 refine Cp o 0 ?_
 refine Cp t 0 ?_
 refine Cp b 0 ?_
 refine YD nm ?_
 refine Cp u 0 ?_
 refine Cp D 0 ?_
 refine Cp J 0 ?_
 refine YD C ?_
 refine Cp A 0 ?_
 refine Cp x 0 ?_
 refine Cp yk 0 ?_
 refine Cp j 0 ?_
 refine Cp H 0 ?_
 refine YD g ?_
 refine Cp z 0 ?_
 refine Cp y 0 ?_
 refine Cp d 0 ?_
 refine Cp c 0 ?_
 exact Ai v0 (rfl)
def ApH (N:Nat):Prop:=∀(k o:Int) (t b:Int) (z y:Int) (D j:Int) (C yk:Int) (u A:Int) (J H:Int) (c d P:Int) (nm x g:List Nat) (X Y:Rs) (M Q:Rs) (Z:nm=[]) (R:x=[]) (U:g=[]) (h:t=0∧b=0∧z=0∧y=0∧D=0∧j=0∧C=0∧yk=0∧u=0∧A=0∧J=0∧H=0∧c=0∧d=0:=by exact kn),Ok trees N ⟨[k,o,t,b,z,y,D,j,C,yk,u,A,J,H,c,d,P],[nm,x,g],[X,Y,M,Q],[]⟩ fun O=>(O=(0,v0))
theorem AoF:ApH 94:=by
 intro k o t b u D J A x yk j H z y d c R nm C g X Y P Q O N M h
 refine .of (t:=AdA) rfl ?_
 unfold AdA
 refine Cp t 0 ?_
 refine Cp b 0 ?_
 refine YD nm ?_
 refine Cp u 0 ?_
 refine Cp D 0 ?_
 refine Cp J 0 ?_
 refine YD C ?_
 refine Cp A 0 ?_
 refine Cp x 0 ?_
 refine Cp yk 0 ?_
 refine Cp j 0 ?_
 refine Cp H 0 ?_
 refine YD g ?_
 refine Cp z 0 ?_
 refine Cp y 0 ?_
 refine Cp d 0 ?_
 refine Cp c 0 ?_
 exact Ai v0 (rfl)
def ApG (N:Nat):Prop:=∀(k o:Int) (t b:Int) (z y:Int) (H j:Int) (D yk:Int) (u A:Int) (O M:Int) (c d P:Int) (nm x g:List Nat) (X Y:Rs) (C Q:Rs) (h:t=0∧b=0∧c=0∧d=0:=by exact kn),Ok trees N ⟨[k,o,t,b,z,y,H,j,D,yk,u,A,O,M,c,d,P],[nm,x,g],[X,Y,C,Q],[]⟩ fun J=>(J=(0,v0))
theorem AlV:ApG 95:=by
 intro k o t b u J N D y yk j M A z d c O nm H g X Y x C h
 refine .of (t:=Ad9) rfl ?_
 unfold Ad9
 refine Cp t 0 ?_
 refine Cp b 0 ?_
 refine Cp d 0 ?_
 refine Cp c 0 ?_
 exact Ai v0 (rfl)
def ApF (N:Nat):Prop:=∀(k o:Int) (t b:Int) (D C:Int) (M z:Int) (J yk:Int) (j u:Int) (y x:Int) (c d P:Int) (nm A g:List Nat) (X Y:Rs) (H Q:Rs) (R:g=[]) (h:t=0∧b=0∧yk=0∧j=0∧u=0∧y=0∧x=0∧c=0∧d=0:=by exact kn),Ok trees N ⟨[k,o,t,b,D,C,M,z,J,yk,j,u,y,x,c,d,P],[nm,A,g],[X,Y,H,Q],[]⟩ fun O=>(O=(0,v0))
theorem AoE:ApF 96:=by
 intro k o t b A N O J D yk j y x u d c P nm M g X Y C H z h
 refine .of (t:=Ad8) rfl ?_
 unfold Ad8
 refine Cp t 0 ?_
 refine Cp b 0 ?_
 refine Cp yk 0 ?_
 refine Cp j 0 ?_
 refine Cp y 0 ?_
 refine YD g ?_
 refine Cp x 0 ?_
 refine Cp u 0 ?_
 refine Cp d 0 ?_
 refine Cp c 0 ?_
 exact Ai v0 (rfl)
end Go.Proofs.YtbmofjdmgjpfoaaGreatDoor.Am
end
section
set_option maxHeartbeats 4000000
set_option maxRecDepth 100000
namespace Go.Proofs.YtbmofjdmgjpfoaaGreatDoor.Am
open Go.AM Go.AM.K
def Sn (N n:Nat):Prop:=∀{l:List S} (j d:Int) (g:List Nat) (L:Rs) (u:PL l) (o:L=S.Ab l) (h:j=L.length∧j≤200000∧0≤d∧d+400*S.Ae l≤999680∧g.length+2*(S.Au l+1)≤62∧S.Au l<n),Ok trees N ⟨[j,d],[g],[L],[]⟩ fun k=>(∃(c:Int),k=(0,(⟨[c],[],[],[]⟩:Ah))∧(c≤d+67+400*S.Ae l)∧(d≤c))
def AmJ (N:Nat):Prop:=∀{l:List S} (j d:Int) (g:List Nat) (L:Rs) (u:PL l) (o:L=S.Ab l) (h:j=L.length∧j≤200000∧0≤d∧d+400*S.Ae l≤999680∧g.length+2*(S.Au l+1)≤62:=by exact kn),Ok trees N ⟨[j,d],[g],[L],[]⟩ fun k=>(∃(c:Int),k=(0,(⟨[c],[],[],[]⟩:Ah))∧(c≤d+67+400*S.Ae l)∧(d≤c))
theorem Sn.of {N n:Nat} (H:AmJ N):Sn N n:=fun {l} ln sz ind L hO hLs h=>H ln sz ind L hO hLs (by have:=h;omega)
def ApO (ab N:Nat):Prop:=∀{m:Nat} (ac:Sn ab m) {z J:List E} {c el:List S} (k o:Int) (t b:Int) (y H:Int) (O C:Int) (Z yk:Int) (x M:Int) (A yl:Int) (Q P j:Int) (nm D:List Nat) (u g:List Nat) (X Y:Rs) (R U:Rs) (hS:PS (.node k o t b nm (.node y H O C D z) (.node yk x M A u J) c el)) (hX:X=E.Ab z) (hY:Y=E.Ab J) (hB:R=S.Ab c) (hE:U=S.Ab el) (h:Z=X.length∧yl=Y.length∧Q=R.length∧P=U.length∧0≤j∧j+400*(1+(E.node y H O C D z).nodes+(E.node yk x M A u J).nodes+S.Ae c+S.Ae el)≤1000000∧g.length+2*(S.Au c+1)≤62∧g.length+2*(S.Au el+1)≤62∧S.Au c<m∧S.Au el<m:=by exact kn),Ok trees N ⟨[k,o,t,b,y,H,O,C,Z,yk,x,M,A,yl,Q,P,j],[nm,D,u,g],[X,Y,R,U],[]⟩ fun zz=>(∃(d:Int),zz=(0,(⟨[d],[],[],[]⟩:Ah))∧(d+66≤j+400*(1+(E.node y H O C D z).nodes+(E.node yk x M A u J).nodes+S.Ae c+S.Ae el))∧(j≤d))
theorem AoL:ApO 84 87:=by
 intro m ak g R bo el k o t b A D M J z yk yo yt yw H N O c nm C yn aw X Y Bo El hS hX hY hB hE h
 subst hX;subst hY;subst hB;subst hE;have dH:=S.len bo;have dF:=S.len el;have dK:=S.Az bo;have dG:=S.Az el;have U:=h;simp only [E.Az,S.Az]at U
 obtain ⟨⟨Δ,hv⟩,dJ,dI⟩:=hS.inv;rcases hv with hv|hv|hv|hv|hv|hv|⟨rfl|rfl,hv⟩|⟨rfl|rfl,hv⟩|hv|hv|hv
 ·obtain ⟨rfl,rfl,rfl,j,rfl,rfl,Q,r1,r2,Z,_⟩:=hv;obtain ⟨rfl,rfl,rfl,rfl,rfl,rfl⟩:=j;have ez:(E.node 0 0 0 0 [] []).nodes=0:=rfl;have es:S.Ae []=0:=rfl;have aj:=Q.len;simp only [lN]at U
  refine .of (t:=Eo) rfl ?_
  unfold Eo
  refine BF 1 1 ?_
  obtain ⟨_,rfl,G1⟩:=AoK 1 0 t 0 A D M J z 0 0 0 0 H N O c nm C [] (E.Ab g) (E.Ab []) (S.Ab []) (S.Ab []) rfl
  refine ch G1 ?_
  refine bu c ?_
  obtain ⟨_,rfl,G2⟩:=Ge nm Q
  refine ch G2 ?_
  refine sl nm ?_
  refine bu (c+4) ?_
  refine bu ((c+4)+64) ?_
  refine Ek (t-1) 0 ?_
  refine Jt (t-1) 3 ?_
  refine eq (t-1) 0 (fun t3=>?_) fun t3=>?_
  ·refine bu (((c+4)+64)+1) ?_
   refine bu ((((c+4)+64)+1)+3) ?_
   obtain ⟨_,⟨aU,rfl,dt,dd⟩,G4⟩:=EM A D M J z (((((c+4)+64)+1)+3)+3) C (E.Ab g) ‹_› rfl
   refine ch G4 ?_
   exact Ai ⟨[aU],[],[],[]⟩ (⟨_,rfl,kn,kn⟩)
  refine eq (t-1) 1 (fun t5=>?_) fun t5=>?_
  ·refine bu (((c+4)+64)+1) ?_
   refine bu ((((c+4)+64)+1)+3) ?_
   obtain ⟨_,⟨aQ,rfl,dE,dB⟩,G6⟩:=EM A D M J z (((((c+4)+64)+1)+3)+3) C (E.Ab g) ‹_› rfl
   refine ch G6 ?_
   exact Ai ⟨[aQ],[],[],[]⟩ (⟨_,rfl,kn,kn⟩)
  refine BF (t-1) 2 ?_
  refine bu (((c+4)+64)+1) ?_
  refine bu ((((c+4)+64)+1)+4) ?_
  obtain ⟨_,⟨aR,rfl,dl,du⟩,G7⟩:=EM A D M J z (((((c+4)+64)+1)+4)+3) C (E.Ab g) ‹_› rfl
  refine ch G7 ?_
  exact Ai ⟨[aR],[],[],[]⟩ (⟨_,rfl,kn,kn⟩)
 ·obtain ⟨rfl,rfl,rfl,rfl,j,rfl,rfl,Q,u,Z,_⟩:=hv;obtain ⟨rfl,rfl,rfl,rfl,rfl,rfl⟩:=j;have ez:(E.node 0 0 0 0 [] []).nodes=0:=rfl;have es:S.Ae []=0:=rfl;have aj:=Q.len;simp only [lN]at U
  refine .of (t:=Eo) rfl ?_
  unfold Eo
  refine AN 2 1 ?_
  refine BF 2 2 ?_
  obtain ⟨_,rfl,G8⟩:=AoJ 2 0 0 0 A D M J z 0 0 0 0 H N O c nm C [] (E.Ab g) (E.Ab []) (S.Ab []) (S.Ab []) rfl
  refine ch G8 ?_
  obtain ⟨_,rfl,G9⟩:=Ge nm Q
  refine ch G9 ?_
  refine sl nm ?_
  refine bu c ?_
  refine bu (c+64) ?_
  obtain ⟨_,⟨ax,rfl,c3,cY⟩,bt⟩:=EM A D M J z ((c+64)+3) C (E.Ab g) ‹_› rfl
  refine ch bt ?_
  exact Ai ⟨[ax],[],[],[]⟩ (⟨_,rfl,kn,kn⟩)
 ·obtain ⟨rfl,rfl,rfl,rfl,rfl,rfl,Q,u,Z,hy,_,_⟩:=hv;have ez:(E.node 0 0 0 0 [] []).nodes=0:=rfl;have es:S.Ae []=0:=rfl;have aj:=Q.len;simp only [lN]at U
  refine .of (t:=Eo) rfl ?_
  unfold Eo
  refine AN 3 1 ?_
  refine AN 3 2 ?_
  refine BF 3 3 ?_
  obtain ⟨_,rfl,cj⟩:=AoI 3 0 0 0 A D M J z yk yo yt yw H N O c nm C yn (E.Ab g) (E.Ab R) (S.Ab []) (S.Ab [])
  refine ch cj ?_
  obtain ⟨_,rfl,a7⟩:=Ge nm Q
  refine ch a7 ?_
  refine sl nm ?_
  refine bu c ?_
  refine bu (c+64) ?_
  obtain ⟨_,⟨ah,rfl,cu,cI⟩,bG⟩:=EM A D M J z ((c+64)+1) C (E.Ab g) ‹_› rfl
  refine ch bG ?_
  refine bu ah ?_
  refine bu (ah+1) ?_
  obtain ⟨_,⟨aF,rfl,c1,cz⟩,cg⟩:=EM yk yo yt yw H ((ah+1)+3) yn (E.Ab R) ‹_› rfl
  refine ch cg ?_
  exact Ai ⟨[aF],[],[],[]⟩ (⟨_,rfl,kn,kn⟩)
 ·obtain ⟨rfl,rfl,rfl,rfl,rfl,Q,ho,Z,hy,_,_⟩:=hv;have ez:(E.node 0 0 0 0 [] []).nodes=0:=rfl;have es:S.Ae []=0:=rfl;have aj:=Q.len;simp only [lN]at U
  refine .of (t:=Eo) rfl ?_
  unfold Eo
  refine AN 4 1 ?_
  refine AN 4 2 ?_
  refine AN 4 3 ?_
  refine AN 4 5 ?_
  refine AN 4 6 ?_
  refine AN 4 7 ?_
  refine AN 4 8 ?_
  refine AN 4 9 ?_
  refine AN 4 10 ?_
  refine AN 4 11 ?_
  refine BF 4 4 ?_
  obtain ⟨_,rfl,cd⟩:=AlV 4 o 0 0 A D M J z yk yo yt yw H N O c nm C yn (E.Ab g) (E.Ab R) (S.Ab []) (S.Ab [])
  refine ch cd ?_
  refine bu c ?_
  obtain ⟨_,rfl,bZ⟩:=Ge nm Q
  refine ch bZ ?_
  refine sl nm ?_
  refine bu (c+7) ?_
  refine bu ((c+7)+64) ?_
  obtain ⟨_,⟨d,rfl,cO,cw⟩,bh⟩:=EM A D M J z (((c+7)+64)+1) C (E.Ab g) ‹_› rfl
  refine ch bh ?_
  refine bu d ?_
  refine bu (d+1) ?_
  refine eq o 10 (fun bj=>?_) fun bj=>?_
  ·refine bu ((d+1)+1) ?_
   refine bu (((d+1)+1)+3) ?_
   obtain ⟨_,⟨aL,rfl,cy,cP⟩,bS⟩:=EM yk yo yt yw H ((((d+1)+1)+3)+1) yn (E.Ab R) ‹_› rfl
   refine ch bS ?_
   exact Ai ⟨[aL],[],[],[]⟩ (⟨_,rfl,kn,kn⟩)
  refine eq o 22 (fun cp=>?_) fun cp=>?_
  ·refine bu ((d+1)+1) ?_
   refine bu (((d+1)+1)+3) ?_
   obtain ⟨_,⟨ay,rfl,cA,cS⟩,bK⟩:=EM yk yo yt yw H ((((d+1)+1)+3)+1) yn (E.Ab R) ‹_› rfl
   refine ch bK ?_
   exact Ai ⟨[ay],[],[],[]⟩ (⟨_,rfl,kn,kn⟩)
  refine eq o 23 (fun a9=>?_) fun a9=>?_
  ·refine bu ((d+1)+1) ?_
   refine bu (((d+1)+1)+3) ?_
   obtain ⟨_,⟨aK,rfl,cr,cH⟩,bB⟩:=EM yk yo yt yw H ((((d+1)+1)+3)+1) yn (E.Ab R) ‹_› rfl
   refine ch bB ?_
   exact Ai ⟨[aK],[],[],[]⟩ (⟨_,rfl,kn,kn⟩)
  refine eq o 17 (fun cc=>?_) fun cc=>?_
  ·refine bu ((d+1)+1) ?_
   refine bu (((d+1)+1)+3) ?_
   obtain ⟨_,⟨aG,rfl,cq,cG⟩,b9⟩:=EM yk yo yt yw H ((((d+1)+1)+3)+1) yn (E.Ab R) ‹_› rfl
   refine ch b9 ?_
   exact Ai ⟨[aG],[],[],[]⟩ (⟨_,rfl,kn,kn⟩)
  refine eq o 18 (fun bN=>?_) fun bN=>?_
  ·refine bu ((d+1)+1) ?_
   refine bu (((d+1)+1)+2) ?_
   obtain ⟨_,⟨az,rfl,cD,c8⟩,a1⟩:=EM yk yo yt yw H ((((d+1)+1)+2)+1) yn (E.Ab R) ‹_› rfl
   refine ch a1 ?_
   exact Ai ⟨[az],[],[],[]⟩ (⟨_,rfl,kn,kn⟩)
  refine BF o 19 ?_
  refine bu ((d+1)+1) ?_
  refine bu (((d+1)+1)+3) ?_
  obtain ⟨_,⟨aC,rfl,c4,cM⟩,a5⟩:=EM yk yo yt yw H ((((d+1)+1)+3)+1) yn (E.Ab R) ‹_› rfl
  refine ch a5 ?_
  exact Ai ⟨[aC],[],[],[]⟩ (⟨_,rfl,kn,kn⟩)
 ·obtain ⟨rfl,rfl,rfl,rfl,rfl,j,Z,_⟩:=hv;obtain ⟨rfl,rfl,rfl,rfl,rfl,rfl⟩:=j;have ez:(E.node 0 0 0 0 [] []).nodes=0:=rfl;have es:S.Ae []=0:=rfl;simp only [lN]at U
  refine .of (t:=Eo) rfl ?_
  unfold Eo
  refine AN 5 1 ?_
  refine AN 5 2 ?_
  refine AN 5 3 ?_
  refine BF 5 5 ?_
  obtain ⟨_,rfl,b5⟩:=AoH 5 0 0 0 A D M J z 0 0 0 0 H N O c [] C [] (E.Ab g) (E.Ab []) (S.Ab bo) (S.Ab el) rfl rfl
  refine ch b5 ?_
  refine bu c ?_
  obtain ⟨_,⟨al,rfl,cB,cF⟩,be⟩:=EM A D M J z (c+3) C (E.Ab g) ‹_› rfl
  refine ch be ?_
  refine bu al ?_
  obtain ⟨_,⟨ai,rfl,ct,c7⟩,bY⟩:=ak N (al+1) aw (S.Ab bo) ‹_› rfl kn
  refine ch bY ?_
  refine gt O 0 (fun bx=>?_) fun bx=>?_
  ·refine bu ai ?_
   obtain ⟨_,⟨aM,rfl,cN,cZ⟩,a6⟩:=ak O (ai+6) aw (S.Ab el) ‹_› rfl kn
   refine ch a6 ?_
   exact Ai ⟨[aM],[],[],[]⟩ (⟨_,rfl,kn,kn⟩)
  exact Ai ⟨[ai],[],[],[]⟩ (⟨_,rfl,kn,kn⟩)
 ·obtain ⟨rfl,rfl,rfl,rfl,j,rfl,Z,_,b1,b2⟩:=hv;obtain ⟨rfl,rfl,rfl,rfl,rfl,rfl⟩:=j;have ez:(E.node 0 0 0 0 [] []).nodes=0:=rfl;have es:S.Ae []=0:=rfl;simp only [lN]at U
  refine .of (t:=Eo) rfl ?_
  unfold Eo
  refine AN 6 1 ?_
  refine AN 6 2 ?_
  refine AN 6 3 ?_
  refine AN 6 5 ?_
  refine BF 6 6 ?_
  obtain ⟨_,rfl,ce⟩:=AoG 6 0 0 b A D M J z 0 0 0 0 H N O c [] C [] (E.Ab g) (E.Ab []) (S.Ab bo) (S.Ab []) rfl rfl
  refine ch ce ?_
  refine bu c ?_
  obtain ⟨_,⟨ag,rfl,cW,cR⟩,bV⟩:=EM A D M J z (c+6) C (E.Ab g) ‹_› rfl
  refine ch bV ?_
  refine CG b (-9223372036854775808) ?_
  refine FM b 9223372036854775807 ?_
  refine bu ag ?_
  refine bu (ag+6) ?_
  refine bu ((ag+6)+21) ?_
  obtain ⟨_,⟨aD,rfl,cK,cQ⟩,bR⟩:=ak N (((ag+6)+21)+1) aw (S.Ab bo) ‹_› rfl kn
  refine ch bR ?_
  exact Ai ⟨[aD],[],[],[]⟩ (⟨_,rfl,kn,kn⟩)
 ·obtain ⟨rfl,rfl,rfl,rfl,P,j,rfl,rfl⟩:=hv;obtain ⟨rfl,rfl,rfl,rfl,rfl,rfl⟩:=j;obtain ⟨rfl,rfl,rfl,rfl,rfl,rfl⟩:=P;have ez:(E.node 0 0 0 0 [] []).nodes=0:=rfl;have es:S.Ae []=0:=rfl;simp only [lN]at U
  refine .of (t:=Eo) rfl ?_
  unfold Eo
  refine AN 7 1 ?_
  refine AN 7 2 ?_
  refine AN 7 3 ?_
  refine AN 7 5 ?_
  refine AN 7 6 ?_
  refine BF 7 7 ?_
  obtain ⟨_,rfl,bb⟩:=Afc 7 0 0 0 0 0 0 0 z 0 0 0 0 H N O c [] [] [] (E.Ab []) (E.Ab []) (S.Ab []) (S.Ab []) rfl rfl rfl
  refine ch bb ?_
  refine Ek (7-7) 0 ?_
  refine Jt (7-7) 4 ?_
  refine BF (7-7) 0 ?_
  refine bu c ?_
  exact Ai ⟨[(c+5)],[],[],[]⟩ (⟨_,rfl,kn,kn⟩)
 ·obtain ⟨rfl,rfl,rfl,rfl,P,j,rfl,rfl⟩:=hv;obtain ⟨rfl,rfl,rfl,rfl,rfl,rfl⟩:=j;obtain ⟨rfl,rfl,rfl,rfl,rfl,rfl⟩:=P;have ez:(E.node 0 0 0 0 [] []).nodes=0:=rfl;have es:S.Ae []=0:=rfl;simp only [lN]at U
  refine .of (t:=Eo) rfl ?_
  unfold Eo
  refine AN 8 1 ?_
  refine AN 8 2 ?_
  refine AN 8 3 ?_
  refine AN 8 5 ?_
  refine AN 8 6 ?_
  refine AN 8 7 ?_
  refine BF 8 8 ?_
  obtain ⟨_,rfl,b3⟩:=Afc 8 0 0 0 0 0 0 0 z 0 0 0 0 H N O c [] [] [] (E.Ab []) (E.Ab []) (S.Ab []) (S.Ab []) rfl rfl rfl
  refine ch b3 ?_
  refine Ek (8-7) 0 ?_
  refine Jt (8-7) 4 ?_
  refine AN (8-7) 0 ?_
  refine BF (8-7) 1 ?_
  refine bu c ?_
  exact Ai ⟨[(c+8)],[],[],[]⟩ (⟨_,rfl,kn,kn⟩)
 ·obtain ⟨rfl,rfl,rfl,rfl,P,j,rfl,rfl⟩:=hv;obtain ⟨rfl,rfl,rfl,rfl,rfl,rfl⟩:=j;obtain ⟨rfl,rfl,rfl,rfl,rfl,rfl⟩:=P;have ez:(E.node 0 0 0 0 [] []).nodes=0:=rfl;have es:S.Ae []=0:=rfl;simp only [lN]at U
  refine .of (t:=Eo) rfl ?_
  unfold Eo
  refine AN 9 1 ?_
  refine AN 9 2 ?_
  refine AN 9 3 ?_
  refine AN 9 5 ?_
  refine AN 9 6 ?_
  refine AN 9 7 ?_
  refine AN 9 8 ?_
  refine BF 9 9 ?_
  obtain ⟨_,rfl,aX⟩:=Afc 9 0 0 0 0 0 0 0 z 0 0 0 0 H N O c [] [] [] (E.Ab []) (E.Ab []) (S.Ab []) (S.Ab []) rfl rfl rfl
  refine ch aX ?_
  refine Ek (9-7) 0 ?_
  refine Jt (9-7) 4 ?_
  refine AN (9-7) 0 ?_
  refine AN (9-7) 1 ?_
  refine BF (9-7) 2 ?_
  refine bu c ?_
  exact Ai ⟨[(c+6)],[],[],[]⟩ (⟨_,rfl,kn,kn⟩)
 ·obtain ⟨rfl,rfl,rfl,rfl,P,j,rfl,rfl⟩:=hv;obtain ⟨rfl,rfl,rfl,rfl,rfl,rfl⟩:=j;obtain ⟨rfl,rfl,rfl,rfl,rfl,rfl⟩:=P;have ez:(E.node 0 0 0 0 [] []).nodes=0:=rfl;have es:S.Ae []=0:=rfl;simp only [lN]at U
  refine .of (t:=Eo) rfl ?_
  unfold Eo
  refine AN 10 1 ?_
  refine AN 10 2 ?_
  refine AN 10 3 ?_
  refine AN 10 5 ?_
  refine AN 10 6 ?_
  refine AN 10 7 ?_
  refine AN 10 8 ?_
  refine AN 10 9 ?_
  refine BF 10 10 ?_
  obtain ⟨_,rfl,b8⟩:=Afc 10 0 0 0 0 0 0 0 z 0 0 0 0 H N O c [] [] [] (E.Ab []) (E.Ab []) (S.Ab []) (S.Ab []) rfl rfl rfl
  refine ch b8 ?_
  refine Ek (10-7) 0 ?_
  refine Jt (10-7) 4 ?_
  refine AN (10-7) 0 ?_
  refine AN (10-7) 1 ?_
  refine AN (10-7) 2 ?_
  refine BF (10-7) 3 ?_
  refine bu c ?_
  exact Ai ⟨[(c+7)],[],[],[]⟩ (⟨_,rfl,kn,kn⟩)
 ·obtain ⟨rfl,ho,rfl,rfl,rfl,P,j,rfl,rfl⟩:=hv;obtain ⟨rfl,rfl,rfl,rfl,rfl,rfl⟩:=j;obtain ⟨rfl,rfl,rfl,rfl,rfl,rfl⟩:=P;have ez:(E.node 0 0 0 0 [] []).nodes=0:=rfl;have es:S.Ae []=0:=rfl;simp only [lN]at U
  refine .of (t:=Eo) rfl ?_
  unfold Eo
  refine AN 11 1 ?_
  refine AN 11 2 ?_
  refine AN 11 3 ?_
  refine AN 11 5 ?_
  refine AN 11 6 ?_
  refine AN 11 7 ?_
  refine AN 11 8 ?_
  refine AN 11 9 ?_
  refine AN 11 10 ?_
  refine BF 11 11 ?_
  obtain ⟨_,rfl,bf⟩:=AoF 11 o 0 0 0 0 0 0 z 0 0 0 0 H N O c [] [] [] (E.Ab []) (E.Ab []) (S.Ab []) (S.Ab []) rfl rfl rfl
  refine ch bf ?_
  refine bu c ?_
  refine Ek (o-1) 0 ?_
  refine Jt (o-1) 2 ?_
  refine eq (o-1) 0 (fun bk=>?_) fun bk=>?_
  ·refine bu (c+6) ?_
   exact Ai ⟨[((c+6)+5)],[],[],[]⟩ (⟨_,rfl,kn,kn⟩)
  refine BF (o-1) 1 ?_
  refine bu (c+6) ?_
  exact Ai ⟨[((c+6)+6)],[],[],[]⟩ (⟨_,rfl,kn,kn⟩)
 ·obtain ⟨rfl,rfl,rfl,j,rfl,rfl,Q,u,w,ho,Z,_⟩:=hv;obtain ⟨rfl,rfl,rfl,rfl,rfl,rfl⟩:=j;have ez:(E.node 0 0 0 0 [] []).nodes=0:=rfl;have es:S.Ae []=0:=rfl;have aj:=Q.len;have e1:=n1 (x:=.node A D M J C g);have e4:=g1 (x:=.node A D M J C g);simp only [lN]at U
  refine .of (t:=Eo) rfl ?_
  unfold Eo
  refine AN 12 1 ?_
  refine AN 12 2 ?_
  refine AN 12 3 ?_
  refine AN 12 5 ?_
  refine AN 12 6 ?_
  refine AN 12 7 ?_
  refine AN 12 8 ?_
  refine AN 12 9 ?_
  refine AN 12 10 ?_
  refine AN 12 11 ?_
  refine AN 12 4 ?_
  refine BF 12 12 ?_
  refine AN o 4 ?_
  obtain ⟨_,rfl,bI⟩:=AoE 12 o 0 0 A D M J z 0 0 0 0 H N O c nm C [] (E.Ab g) (E.Ab []) (S.Ab []) (S.Ab []) rfl
  refine ch bI ?_
  obtain ⟨_,rfl,bi⟩:=Ge nm Q
  refine ch bi ?_
  refine sl nm ?_
  refine bu c ?_
  refine bu (c+64) ?_
  refine Ek (o-1) 0 ?_
  refine Jt (o-1) 6 ?_
  refine eq (o-1) 0 (fun bJ=>?_) fun bJ=>?_
  ·refine bu ((c+64)+3) ?_
   refine neY o 4 ?_
   refine ll z (E.Ab g) ?_
   refine ll H (E.Ab []) ?_
   refine dL [[.int .i64 A,.int .i64 D,.int .i64 M,.str C,.int .i32 J,.list 6 (E.Ab g)],[.int .i64 0,.int .i64 0,.int .i64 0,.str [],.int .i32 0,.list 6 (E.Ab [])]] (fun ao b7=>?_)
   have bU:=cL b7;try simp only [lA,lC,lN,lT']at bU
   refine ll 2 ao ?_
   refine fr ?_
   refine dL (ao.take (1:Int).toNat) (fun bE a0=>?_) (Fw (pt 1 ao))
   have cb:=cL a0;try simp only [lA,lC,lN,lT']at cb
   obtain ⟨_,⟨aA,rfl,cC,cV⟩,a8⟩:=J2 (Ls.of (n:=10) @EM) 1 (((c+64)+3)+6) bE Z.tl1 (by subst_vars;rfl)
   refine ch a8 ?_
   exact Ai ⟨[aA],[],[],[]⟩ (⟨_,rfl,kn,kn⟩)
  refine eq (o-1) 1 (fun bm=>?_) fun bm=>?_
  ·refine bu ((c+64)+3) ?_
   refine neY o 4 ?_
   refine ll z (E.Ab g) ?_
   refine ll H (E.Ab []) ?_
   refine dL [[.int .i64 A,.int .i64 D,.int .i64 M,.str C,.int .i32 J,.list 6 (E.Ab g)],[.int .i64 0,.int .i64 0,.int .i64 0,.str [],.int .i32 0,.list 6 (E.Ab [])]] (fun ap bl=>?_)
   have bT:=cL bl;try simp only [lA,lC,lN,lT']at bT
   refine ll 2 ap ?_
   refine fr ?_
   refine dL (ap.take (1:Int).toNat) (fun bp aW=>?_) (Fw (pt 1 ap))
   have cn:=cL aW;try simp only [lA,lC,lN,lT']at cn
   obtain ⟨_,⟨aN,rfl,cv,cX⟩,bO⟩:=J2 (Ls.of (n:=10) @EM) 1 (((c+64)+3)+3) bp Z.tl1 (by subst_vars;rfl)
   refine ch bO ?_
   exact Ai ⟨[aN],[],[],[]⟩ (⟨_,rfl,kn,kn⟩)
  refine eq (o-1) 2 (fun b4=>?_) fun b4=>?_
  ·refine bu ((c+64)+3) ?_
   refine neY o 4 ?_
   refine ll z (E.Ab g) ?_
   refine ll H (E.Ab []) ?_
   refine dL [[.int .i64 A,.int .i64 D,.int .i64 M,.str C,.int .i32 J,.list 6 (E.Ab g)],[.int .i64 0,.int .i64 0,.int .i64 0,.str [],.int .i32 0,.list 6 (E.Ab [])]] (fun av bn=>?_)
   have bg:=cL bn;try simp only [lA,lC,lN,lT']at bg
   refine ll 2 av ?_
   refine fr ?_
   refine dL (av.take (1:Int).toNat) (fun bM bD=>?_) (Fw (pt 1 av))
   have bX:=cL bD;try simp only [lA,lC,lN,lT']at bX
   obtain ⟨_,⟨aH,rfl,cT,cE⟩,aZ⟩:=J2 (Ls.of (n:=10) @EM) 1 (((c+64)+3)+3) bM Z.tl1 (by subst_vars;rfl)
   refine ch aZ ?_
   exact Ai ⟨[aH],[],[],[]⟩ (⟨_,rfl,kn,kn⟩)
  refine eq (o-1) 3 (fun bP=>?_) fun bP=>?_
  ·refine bu ((c+64)+3) ?_
   refine neY o 4 ?_
   refine ll z (E.Ab g) ?_
   refine ll H (E.Ab []) ?_
   refine dL [[.int .i64 A,.int .i64 D,.int .i64 M,.str C,.int .i32 J,.list 6 (E.Ab g)],[.int .i64 0,.int .i64 0,.int .i64 0,.str [],.int .i32 0,.list 6 (E.Ab [])]] (fun au cf=>?_)
   have bA:=cL cf;try simp only [lA,lC,lN,lT']at bA
   refine ll 2 au ?_
   refine fr ?_
   refine dL (au.take (1:Int).toNat) (fun a2 aY=>?_) (Fw (pt 1 au))
   have bc:=cL aY;try simp only [lA,lC,lN,lT']at bc
   obtain ⟨_,⟨aI,rfl,cU,cJ⟩,bF⟩:=J2 (Ls.of (n:=10) @EM) 1 (((c+64)+3)+7) a2 Z.tl1 (by subst_vars;rfl)
   refine ch bF ?_
   exact Ai ⟨[aI],[],[],[]⟩ (⟨_,rfl,kn,kn⟩)
  refine eq (o-1) 4 (fun bd=>?_) fun bd=>?_
  ·refine bu ((c+64)+3) ?_
   refine neY o 4 ?_
   refine ll z (E.Ab g) ?_
   refine ll H (E.Ab []) ?_
   refine dL [[.int .i64 A,.int .i64 D,.int .i64 M,.str C,.int .i32 J,.list 6 (E.Ab g)],[.int .i64 0,.int .i64 0,.int .i64 0,.str [],.int .i32 0,.list 6 (E.Ab [])]] (fun aq bL=>?_)
   have ci:=cL bL;try simp only [lA,lC,lN,lT']at ci
   refine ll 2 aq ?_
   refine fr ?_
   refine dL (aq.take (1:Int).toNat) (fun bw br=>?_) (Fw (pt 1 aq))
   have ba:=cL br;try simp only [lA,lC,lN,lT']at ba
   obtain ⟨_,⟨aE,rfl,c5,c9⟩,bz⟩:=J2 (Ls.of (n:=10) @EM) 1 (((c+64)+3)+4) bw Z.tl1 (by subst_vars;rfl)
   refine ch bz ?_
   exact Ai ⟨[aE],[],[],[]⟩ (⟨_,rfl,kn,kn⟩)
  refine BF (o-1) 5 ?_
  refine bu ((c+64)+3) ?_
  refine neY o 4 ?_
  refine ll z (E.Ab g) ?_
  refine ll H (E.Ab []) ?_
  refine dL [[.int .i64 A,.int .i64 D,.int .i64 M,.str C,.int .i32 J,.list 6 (E.Ab g)],[.int .i64 0,.int .i64 0,.int .i64 0,.str [],.int .i32 0,.list 6 (E.Ab [])]] (fun an bH=>?_)
  have b0:=cL bH;try simp only [lA,lC,lN,lT']at b0
  refine ll 2 an ?_
  refine fr ?_
  refine dL (an.take (1:Int).toNat) (fun bq bv=>?_) (Fw (pt 1 an))
  have bC:=cL bv;try simp only [lA,lC,lN,lT']at bC
  obtain ⟨_,⟨aJ,rfl,cx,db⟩,aV⟩:=J2 (Ls.of (n:=10) @EM) 1 (((c+64)+3)+3) bq Z.tl1 (by subst_vars;rfl)
  refine ch aV ?_
  exact Ai ⟨[aJ],[],[],[]⟩ (⟨_,rfl,kn,kn⟩)
 ·obtain ⟨rfl,rfl,rfl,rfl,rfl,rfl,Q,u,Z,hy,_,_⟩:=hv;have ez:(E.node 0 0 0 0 [] []).nodes=0:=rfl;have es:S.Ae []=0:=rfl;have aj:=Q.len;have e1:=n2 (x:=.node A D M J C g) (y:=.node yk yo yt yw yn R);have e4:=g2 (x:=.node A D M J C g) (y:=.node yk yo yt yw yn R);simp only [lN]at U
  refine .of (t:=Eo) rfl ?_
  unfold Eo
  refine AN 12 1 ?_
  refine AN 12 2 ?_
  refine AN 12 3 ?_
  refine AN 12 5 ?_
  refine AN 12 6 ?_
  refine AN 12 7 ?_
  refine AN 12 8 ?_
  refine AN 12 9 ?_
  refine AN 12 10 ?_
  refine AN 12 11 ?_
  refine AN 12 4 ?_
  refine BF 12 12 ?_
  refine BF 4 4 ?_
  obtain ⟨_,rfl,co⟩:=AlV 12 4 0 0 A D M J z yk yo yt yw H N O c nm C yn (E.Ab g) (E.Ab R) (S.Ab []) (S.Ab [])
  refine ch co ?_
  obtain ⟨_,rfl,bW⟩:=Ge nm Q
  refine ch bW ?_
  refine sl nm ?_
  refine bu c ?_
  refine bu (c+64) ?_
  refine Ek (4-1) 0 ?_
  refine Jt (4-1) 6 ?_
  refine AN (4-1) 0 ?_
  refine AN (4-1) 1 ?_
  refine AN (4-1) 2 ?_
  refine BF (4-1) 3 ?_
  refine bu ((c+64)+3) ?_
  refine BW 4 4 ?_
  refine ll z (E.Ab g) ?_
  refine ll H (E.Ab R) ?_
  refine dL [[.int .i64 A,.int .i64 D,.int .i64 M,.str C,.int .i32 J,.list 6 (E.Ab g)],[.int .i64 yk,.int .i64 yo,.int .i64 yt,.str yn,.int .i32 yw,.list 6 (E.Ab R)]] (fun aO bQ=>?_)
  have a4:=cL bQ;try simp only [lA,lC,lN,lT']at a4
  refine ll 2 aO ?_
  refine fr ?_
  obtain ⟨_,⟨aB,rfl,c2,c6⟩,a3⟩:=J2 (Ls.of (n:=10) @EM) 2 (((c+64)+3)+7) aO (Z.tl2 hy) (by subst_vars;rfl)
  refine ch a3 ?_
  exact Ai ⟨[aB],[],[],[]⟩ (⟨_,rfl,kn,kn⟩)
def Aq7 (u N:Nat) (m n:Nat):Prop:=∀{l:List S} (g len:Int) (j d:Int) (k:List Nat) (L:Rs) (y:PL (l.drop j.toNat)) (x:L=S.Ab l) (h:g=L.length∧g≤200000∧len=g∧0≤j∧0≤d∧d+400*S.Ae (l.drop j.toNat)≤999682∧k.length+2*S.Au (l.drop j.toNat)≤62∧S.Au (l.drop j.toNat)≤m∧(len-j).toNat<n),Ok trees N ⟨[g,len,j,d],[k],[L],[]⟩ fun o=>(o=(0,v0))∨(∃(c:Int),o=(1,(⟨[c],[],[],[]⟩:Ah))∧(c≤d+400*S.Ae (l.drop j.toNat))∧(d≤c))
def ApP (o N:Nat):Prop:=∀{m:Nat} (x:Sn o m) {l:List S} (g len:Int) (j c:Int) (k:List Nat) (L:Rs) (z:PL (l.drop j.toNat)) (y:L=S.Ab l) (h:g=L.length∧g≤200000∧len=g∧0≤j∧0≤c∧c+400*S.Ae (l.drop j.toNat)≤999682∧k.length+2*S.Au (l.drop j.toNat)≤62∧S.Au (l.drop j.toNat)≤m:=by exact kn),Ok trees N ⟨[g,len,j,c],[k],[L],[]⟩ fun u=>(u=(0,v0))∨(∃(d:Int),u=(1,(⟨[d],[],[],[]⟩:Ah))∧(d≤c+400*S.Ae (l.drop j.toNat))∧(c≤d))
theorem AnY {m:Nat} (C:Sn 84 m) (n:Nat):Aq7 84 86 m n:=by
 induction n with
 |zero=>intro l P len j Z d L hO y h;exact absurd h.2.2.2.2.2.2.2.2 (Nat.not_lt_zero _)
 |succ n ih=>
 intro l P len j Z d L hO y h
 subst y
 refine .of (t:=AdH) rfl ?_
 unfold AdH
 refine lt j len (fun t1=>?_) fun t1=>?_
 ·refine CG j 0 ?_
  refine B9 j P ?_
  obtain ⟨ad,ae,t_1,ac,Q,R,H,J,A,M,u,z,aa,X,O,ab,k,g,o,N,U,ao,ak,an⟩:=PL.get j hO om om
  refine el N ?_
  refine sl d ?_
  refine bu Z ?_
  obtain ⟨_,⟨c,rfl,ai,am⟩,G3⟩:=AoL @C ad ae t_1 ac R H J A ((E.Ab u).length:Int) z aa X O ((E.Ab k).length:Int) ((S.Ab g).length:Int) ((S.Ab o).length:Int) (Z+64) Q M ab d (E.Ab u) (E.Ab k) (S.Ab g) (S.Ab o) U rfl rfl rfl rfl
  refine ch G3 ?_
  refine bu c ?_
  obtain ⟨_,(rfl|⟨x,rfl,ag,ah⟩),D⟩:=ih P len (j+1) (c+1) d (S.Ab l) ‹_› rfl kn
  ·refine ch D ?_
   exact Ai ⟨[(c+1)],[],[],[]⟩ (.inr ((⟨_,rfl,kn,kn⟩)))
  refine cm D ?_
  refine ch D ?_
  exact Ai ⟨[x],[],[],[]⟩ (.inr ((⟨_,rfl,kn,kn⟩)))
 exact Ai v0 (.inl rfl)
theorem AoM:ApP 84 86:=fun {m} hC84 {l} ln len j sz ind L hO hLs h=>AnY @hC84 ((len-j).toNat+1) ln len j sz ind L hO hLs ⟨h.1,h.2.1,h.2.2.1,h.2.2.2.1,h.2.2.2.2.1,h.2.2.2.2.2.1,h.2.2.2.2.2.2.1,h.2.2.2.2.2.2.2,Nat.lt_succ_self _⟩
def ApQ (k N:Nat):Prop:=∀{m:Nat} (u:Sn k m) {l:List S} (j c:Int) (g:List Nat) (L:Rs) (y:PL l) (x:L=S.Ab l) (h:j=L.length∧j≤200000∧0≤c∧c+400*S.Ae l≤999682∧g.length+2*S.Au l≤62∧S.Au l≤m:=by exact kn),Ok trees N ⟨[j,c],[g],[L],[]⟩ fun o=>(o=(0,v0))∨(∃(d:Int),o=(1,(⟨[d],[],[],[]⟩:Ah))∧(d≤c+400*S.Ae l)∧(c≤d))
theorem Ai6:ApQ 84 85:=by
 intro m g l k z o L y j h
 subst j;have C:S.Au (l.drop (0:Int).toNat)=S.Au l:=rfl;have A:S.Ae (l.drop (0:Int).toNat)=S.Ae l:=rfl
 refine .of (t:=AdI) rfl ?_
 unfold AdI
 obtain ⟨_,(rfl|⟨c,rfl,x,u⟩),d⟩:=AoM @g k k 0 z o (S.Ab l) y rfl
 ·refine ch d ?_
  exact Ai v0 (.inl rfl)
 refine cm d ?_
 refine ch d ?_
 exact Ai ⟨[c],[],[],[]⟩ (.inr ((⟨_,rfl,kn,kn⟩)))
theorem AnZ (n:Nat):Sn 84 n:=by
 induction n with
 |zero=>intro l o g c L u j h;exact absurd h.2.2.2.2.2 (Nat.not_lt_zero _)
 |succ n ih=>
 intro l o g c L u j h
 have z:(c++[32,32]).length=c.length+2:=by simp
 refine .of (t:=AdJ) rfl ?_
 unfold AdJ
 refine bu g ?_
 refine ca c [32,32] ?_
 obtain ⟨_,(rfl|⟨d,rfl,y,x⟩),k⟩:=Ai6 @ih o (g+2) (c++[32,32]) L u j
 ·refine ch k ?_
  refine sl c ?_
  refine bu (g+2) ?_
  refine bu ((g+2)+64) ?_
  exact Ai ⟨[(((g+2)+64)+1)],[],[],[]⟩ (⟨_,rfl,kn,kn⟩)
 refine cm k ?_
 refine ch k ?_
 refine sl c ?_
 refine bu d ?_
 refine bu (d+64) ?_
 exact Ai ⟨[((d+64)+1)],[],[],[]⟩ (⟨_,rfl,kn,kn⟩)
theorem OP:AmJ 84:=fun {l} ln sz ind L hO hLs h=>AnZ (S.Au l+1) ln sz ind L hO hLs ⟨h.1,h.2.1,h.2.2.1,h.2.2.2.1,h.2.2.2.2,Nat.lt_succ_self _⟩
end Go.Proofs.YtbmofjdmgjpfoaaGreatDoor.Am
end
section
set_option maxHeartbeats 4000000
set_option maxRecDepth 100000
namespace Go.Proofs.YtbmofjdmgjpfoaaGreatDoor.Am
open Go.AM Go.AM.K
def Afn (N n:Nat):Prop:=∀{j:Int} {Γ d:Ctx} {l:List S} (c:Int) (L:Rs) (o:DG j 1 Γ l d) (k:L=S.Ab l) (h:c=L.length∧c≤200000∧S.Ae l≤200000∧S.Au l<n),Ok trees N ⟨[c],[],[L],[]⟩ fun g=>(g=(1,v0))
def ApT (N:Nat):Prop:=∀{j:Int} {Γ d:Ctx} {l:List S} (c:Int) (L:Rs) (o:DG j 1 Γ l d) (k:L=S.Ab l) (h:c=L.length∧c≤200000∧S.Ae l≤200000:=by exact kn),Ok trees N ⟨[c],[],[L],[]⟩ fun g=>(g=(1,v0))
def Aq8 (u N:Nat) (m n:Nat):Prop:=∀{k:Int} {Γ d:Ctx} {l:List S} (c len j:Int) (L:Rs) (x:DG k 1 Γ (l.drop j.toNat) d) (o:L=S.Ab l) (h:c=L.length∧c≤200000∧len=c∧0≤j∧S.Au (l.drop j.toNat)≤m∧S.Ae (l.drop j.toNat)≤200000∧(len-j).toNat<n),Ok trees N ⟨[c,len,j],[],[L],[]⟩ fun g=>(g=(1,v0))
def ApR (d N:Nat):Prop:=∀{m:Nat} (k:Afn d m) {u:Int} {Γ g:Ctx} {l:List S} (c len j:Int) (L:Rs) (y:DG u 1 Γ (l.drop j.toNat) g) (x:L=S.Ab l) (h:c=L.length∧c≤200000∧len=c∧0≤j∧S.Au (l.drop j.toNat)≤m∧S.Ae (l.drop j.toNat)≤200000:=by exact kn),Ok trees N ⟨[c,len,j],[],[L],[]⟩ fun o=>(o=(1,v0))
theorem Aoa {m:Nat} (g:Afn 81 m) (n:Nat):Aq8 81 83 m n:=by
 induction n with
 |zero=>intro lp Γ Γe l o len j L Z P h;exact absurd h.2.2.2.2.2.2 (Nat.not_lt_zero _)
 |succ n ih=>
 intro lp Γ Γe l o len j L Z P h
 subst P
 refine .of (t:=AdK) rfl ?_
 unfold AdK
 refine lt j len (fun t1=>?_) fun t1=>?_
 ·refine CG j 0 ?_
  refine B9 j o ?_
  obtain ⟨k,aW,t_1,aV,aq,aR,az,ao,an,aP,aK,aE,aM,aL,ap,aN,aO,d,c,am,U,u,aJ,aA,au⟩:=DG.get j Z om om
  refine el U ?_
  have aD:=u.pure;have aC:=u.kinds;have al:=S.len d;have aj:=S.len c;have ai:=S.Az d;have ak:=S.Az c;obtain ⟨_,aw,aF,aQ,aG,aU,ay⟩:=u.parts
  refine eq k 1 (fun t3=>?_) fun t3=>?_
  ·obtain ⟨_,rfl,G4⟩:=g ((S.Ab d).length:Int) (S.Ab d) ‹_› rfl kn
   refine cm G4 ?_
   refine ch G4 ?_
   obtain ⟨_,rfl,G5⟩:=g ((S.Ab c).length:Int) (S.Ab c) ‹_› rfl kn
   refine cm G5 ?_
   refine ch G5 ?_
   obtain ⟨_,rfl,G6⟩:=ih o len (j+1) (S.Ab l) ‹_› rfl kn
   refine cm G6 ?_
   refine ch G6 ?_
   exact Ai v0 (rfl)
  refine eq k 2 (fun t7=>?_) fun t7=>?_
  ·obtain ⟨_,rfl,G8⟩:=g ((S.Ab d).length:Int) (S.Ab d) ‹_› rfl kn
   refine cm G8 ?_
   refine ch G8 ?_
   obtain ⟨_,rfl,X⟩:=g ((S.Ab c).length:Int) (S.Ab c) ‹_› rfl kn
   refine cm X ?_
   refine ch X ?_
   obtain ⟨_,rfl,C⟩:=ih o len (j+1) (S.Ab l) ‹_› rfl kn
   refine cm C ?_
   refine ch C ?_
   exact Ai v0 (rfl)
  refine eq k 5 (fun ah=>?_) fun ah=>?_
  ·obtain ⟨_,rfl,y⟩:=g ((S.Ab d).length:Int) (S.Ab d) ‹_› rfl kn
   refine cm y ?_
   refine ch y ?_
   obtain ⟨_,rfl,H⟩:=g ((S.Ab c).length:Int) (S.Ab c) ‹_› rfl kn
   refine cm H ?_
   refine ch H ?_
   obtain ⟨_,rfl,R⟩:=ih o len (j+1) (S.Ab l) ‹_› rfl kn
   refine cm R ?_
   refine ch R ?_
   exact Ai v0 (rfl)
  refine eq k 6 (fun ae=>?_) fun ae=>?_
  ·obtain ⟨_,rfl,N⟩:=g ((S.Ab d).length:Int) (S.Ab d) ‹_› rfl kn
   refine cm N ?_
   refine ch N ?_
   obtain ⟨_,rfl,z⟩:=g ((S.Ab c).length:Int) (S.Ab c) ‹_› rfl kn
   refine cm z ?_
   refine ch z ?_
   obtain ⟨_,rfl,x⟩:=ih o len (j+1) (S.Ab l) ‹_› rfl kn
   refine cm x ?_
   refine ch x ?_
   exact Ai v0 (rfl)
  refine eq k 7 (fun ad=>?_) fun ad=>?_
  ·obtain ⟨_,rfl,O⟩:=g ((S.Ab d).length:Int) (S.Ab d) ‹_› rfl kn
   refine cm O ?_
   refine ch O ?_
   obtain ⟨_,rfl,J⟩:=g ((S.Ab c).length:Int) (S.Ab c) ‹_› rfl kn
   refine cm J ?_
   refine ch J ?_
   obtain ⟨_,rfl,M⟩:=ih o len (j+1) (S.Ab l) ‹_› rfl kn
   refine cm M ?_
   refine ch M ?_
   exact Ai v0 (rfl)
  refine eq k 8 (fun af=>?_) fun af=>?_
  ·obtain ⟨_,rfl,A⟩:=g ((S.Ab d).length:Int) (S.Ab d) ‹_› rfl kn
   refine cm A ?_
   refine ch A ?_
   obtain ⟨_,rfl,Q⟩:=g ((S.Ab c).length:Int) (S.Ab c) ‹_› rfl kn
   refine cm Q ?_
   refine ch Q ?_
   obtain ⟨_,rfl,D⟩:=ih o len (j+1) (S.Ab l) ‹_› rfl kn
   refine cm D ?_
   refine ch D ?_
   exact Ai v0 (rfl)
  exact dead
 exact Ai v0 (rfl)
theorem AoN:ApR 81 83:=fun {m} hC81 {lp} {Γ} {Γe} {l} ln len j L hO hLs h=>Aoa @hC81 ((len-j).toNat+1) ln len j L hO hLs ⟨h.1,h.2.1,h.2.2.1,h.2.2.2.1,h.2.2.2.2.1,h.2.2.2.2.2,Nat.lt_succ_self _⟩
def ApS (d N:Nat):Prop:=∀{m:Nat} (j:Afn d m) {o:Int} {Γ g:Ctx} {l:List S} (c:Int) (L:Rs) (x:DG o 1 Γ l g) (u:L=S.Ab l) (h:c=L.length∧c≤200000∧S.Ae l≤200000∧S.Au l≤m:=by exact kn),Ok trees N ⟨[c],[],[L],[]⟩ fun k=>(k=(0,(⟨[(-1)],[],[],[]⟩:Ah)))
theorem AoO:ApS 81 82:=by
 intro m c y Γ u l g L k d h
 subst d;have x:S.Au (l.drop (0:Int).toNat)=S.Au l:=rfl;have o:S.Ae (l.drop (0:Int).toNat)=S.Ae l:=rfl
 refine .of (t:=AdL) rfl ?_
 unfold AdL
 obtain ⟨_,rfl,j⟩:=AoN @c g g 0 (S.Ab l) k rfl
 refine cm j ?_
 refine ch j ?_
 exact Ai ⟨[(-1)],[],[],[]⟩ (rfl)
theorem Aob (n:Nat):Afn 81 n:=by
 induction n with
 |zero=>intro o Γ j l d L g c h;exact absurd h.2.2.2 (Nat.not_lt_zero _)
 |succ n ih=>
 intro o Γ j l d L g c h
 refine .of (t:=AdM) rfl ?_
 unfold AdM
 obtain ⟨_,rfl,k⟩:=AoO @ih d L g c
 refine ch k ?_
 refine Jt (-1) 0 ?_
 exact Ai v0 (rfl)
theorem AoP:ApT 81:=fun {lp} {Γ} {Γe} {l} ln L hO hLs h=>Aob (S.Au l+1) ln L hO hLs ⟨h.1,h.2.1,h.2.2,Nat.lt_succ_self _⟩
end Go.Proofs.YtbmofjdmgjpfoaaGreatDoor.Am
end
