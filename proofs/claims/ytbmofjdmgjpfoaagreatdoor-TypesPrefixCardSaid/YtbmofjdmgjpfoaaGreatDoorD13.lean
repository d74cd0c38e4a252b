/- Part 13 of the proof of TypesPrefix. -/
import Derived.Test.YtbmofjdmgjpfoaaGreatDoorD11
import Derived.Test.YtbmofjdmgjpfoaaGreatDoorD12
set_option linter.all false
section
set_option maxHeartbeats 4000000
set_option maxRecDepth 100000
namespace Go.Proofs.YtbmofjdmgjpfoaaGreatDoor.Am
open Go.AM Go.AM.K
def Akr (N:Nat) (Γ:Ctx) (H fl:Int) (J O:Rs) (C:Mp) (n:Nat):Prop:=∀(y d:Int) (len j:Int) (x sub:Int) (pl Z:Int) (M o:Int) (u q:Int) (rk Q:Int) (X A rl:Int) (k z g:List Nat) (T v:Rs) (P R:Rs) (c U RA:Rs) (hT:T=[1,1].map Bh) (hF:v=AH) (h:y=2∧d=2∧len=2∧0≤j∧j≤2∧(2-j).toNat<n),Ok trees N ⟨[y,d,len,j,x,sub,H,pl,fl,Z,M,o,u,q,rk,Q,X,A,rl],[k,z,g],[T,v,J,P,O,R,c,U,RA],[C]⟩ fun D=>(D=(1,v0))
def AjB (N:Nat):Prop:=∀{Γ:Ctx} {d fl:Int} {g u:Rs} {c:Mp} (hC:Ck Γ d fl g u c) (D o:Int) (len j:Int) (C sub:Int) (pl Z:Int) (O x:Int) (z y:Int) (rk Q:Int) (X J rl:Int) (v H q:List Nat) (T A:Rs) (P R:Rs) (k U RA:Rs) (hT:T=[1,1].map Bh) (hF:A=AH) (h:D=2∧o=2∧len=2∧0≤j∧j≤2:=by exact kn),Ok trees N ⟨[D,o,len,j,C,sub,d,pl,fl,Z,O,x,z,y,rk,Q,X,J,rl],[v,H,q],[T,A,g,P,u,R,k,U,RA],[c]⟩ fun M=>(M=(1,v0))
theorem AgD {Γ:Ctx} {U fl:Int} {D O:Rs} {C:Mp} (hC:Ck Γ U fl D O C) (n:Nat):Akr 148 Γ U fl D O C n:=by
 induction n with
 |zero=>intro A z len j v sub pl M H d u q N J ry Q rl c g o T FP P R k FB RA Z hF h;exact absurd h.2.2.2.2.2 (Nat.not_lt_zero _)
 |succ n ih=>
 intro A z len j v sub pl M H d u q N J ry Q rl c g o T FP P R k FB RA Z hF h
 subst Z;subst hF
 refine .of (t:=VC) rfl ?_
 unfold VC
 refine lt j len (fun t1=>?_) fun t1=>?_
 ·refine CJ j 0 ?_
  refine BD j z ?_
  obtain ⟨af,x⟩:=Pv j om om
  refine el x ?_
  refine BD j A ?_
  have y:=Su j om om
  refine el y ?_
  refine BY 1 1 ?_
  obtain ⟨_,rfl,X⟩:=ih A z len (j+1) v sub pl M H d u q N J ry Q rl c g o ([1,1].map Bh) AH P R k FB RA rfl rfl kn
  refine cm X ?_
  refine ch X ?_
  exact Aj v0 (rfl)
 exact Aj v0 (rfl)
theorem Ajb:AjB 148:=fun {Γ} {al} {fl} {Ar} {Fs} {mp} hC tl ln len j grp sub pl bl lo fpl fty fbl rk ro ry rv rl knm fnm rnm T FP P R FP2 FB RA hT hF h=>AgD hC ((2-j).toNat+1) tl ln len j grp sub pl bl lo fpl fty fbl rk ro ry rv rl knm fnm rnm T FP P R FP2 FB RA hT hF ⟨h.1,h.2.1,h.2.2.1,h.2.2.2.1,h.2.2.2.2,Nat.lt_succ_self _⟩
def AjD (N:Nat):Prop:=∀{Γ:Ctx} {q fl:Int} {x A:Rs} {g:Mp} (hC:Ck Γ q fl x A g) (c d:Int) (u U:Int) (H M:Int) (C X:Int) (z y:Int) (sub pl:Int) (O Z:Int) (j k o:List Nat) (v J:Rs) (Q T:Rs) (P R:Rs) (hT:T=[1,1].map Bh) (hF:v=AH) (h:z=2∧c=2∧d=1:=by exact kn),Ok trees N ⟨[c,d,u,U,H,M,C,X,z,y,sub,q,pl,fl,O,Z],[j,k,o],[v,J,Q,T,x,P,A,R],[g]⟩ fun D=>(D=(0,(⟨[1,0],[],[],[]⟩:Ah)))
theorem Ajd:AjD 146:=by
 intro Γ Q fl U Fs O v M N k H y A u J tl q sub pl C x d c g o z D T P R X Z h
 obtain ⟨rfl,rfl,rfl⟩:=h
 refine .of (t:=VE) rfl ?_
 unfold VE
 refine BY 2 2 ?_
 obtain ⟨_,rfl,j⟩:=Ajb v 2 2 2 0 q sub pl C x 2 1 k H y A u J g d c T o P R o z D ‹_› ‹_›
 refine cm j ?_
 refine ch j ?_
 exact Aj ⟨[1,0],[],[],[]⟩ (rfl)
def T1 (N:Nat) (Γ:Ctx) (u fl:Int) (x z:Rs) (j:Mp) (n:Nat):Prop:=∀{a:List E} (t k:Int) (o ty:Int) (v g:Int) (d sub:Int) (pl y C:Int) (s c:List Nat) (A P R:Rs) (D:T Γ t (.node k o ty v s a)) (H:A=E.Ab a) (h:g=A.length∧(E.node k o ty v s a).high<n),Ok trees N ⟨[k,o,ty,v,g,d,sub,u,pl,fl,y,C],[s,c],[A,x,P,z,R],[j]⟩ fun q=>(q=(0,(⟨[t,0],[],[],[]⟩:Ah)))
def AjH (N:Nat):Prop:=∀{Γ:Ctx} {g fl:Int} {j x:Rs} {c:Mp} (H:Ck Γ g fl j x c) {a:List E} (t k:Int) (o ty:Int) (v u:Int) (q sub:Int) (pl z C:Int) (s d:List Nat) (A P R:Rs) (D:T Γ t (.node k o ty v s a)) (J:A=E.Ab a) (h:u=A.length:=by exact kn),Ok trees N ⟨[k,o,ty,v,u,q,sub,g,pl,fl,z,C],[s,d],[A,j,P,x,R],[c]⟩ fun y=>(y=(0,(⟨[t,0],[],[],[]⟩:Ah)))
def Aks (C N:Nat) (Γ:Ctx) (y fl:Int) (z x:Rs) (v:Mp) (m n:Nat):Prop:=∀{a:List E} (ts:List Int) (d c:Int) (len j:Int) (q sub:Int) (pl A D:Int) (o:List Nat) (L P:Rs) (R Q:Rs) (H:Ts Γ ts a) (J:L=E.Ab a) (M:Q=(ts.take j.toNat).map Bh) (h:c=L.length∧c≤3∧len=c∧0≤j∧j≤c∧d=Q.length∧d+(len-j)≤9∧0≤d∧E.BX a<m∧(len-j).toNat<n),Ok trees N ⟨[d,c,len,j,q,sub,y,pl,fl,A,D],[o],[L,z,P,x,R,Q],[v]⟩ fun g=>(g=(2,v0)∧(Q=ts.map Bh))∨(∃(k:Int),∃(u:Rs),g=(3,(⟨[k],[],[u],[]⟩:Ah))∧(u=ts.map Bh)∧(k=(ts.length:Int)))
def AjC (u N:Nat):Prop:=∀{m:Nat} {Γ:Ctx} {o fl:Int} {q k:Rs} {g:Mp} (U:Ck Γ o fl q k g) (C:T1 u Γ o fl q k g m) {a:List E} (ts:List Int) (d c:Int) (len j:Int) (z sub:Int) (pl D H:Int) (y:List Nat) (L P:Rs) (R Q:Rs) (J:Ts Γ ts a) (M:L=E.Ab a) (O:Q=(ts.take j.toNat).map Bh) (h:c=L.length∧c≤3∧len=c∧0≤j∧j≤c∧d=Q.length∧d+(len-j)≤9∧0≤d∧E.BX a<m:=by exact kn),Ok trees N ⟨[d,c,len,j,z,sub,o,pl,fl,D,H],[y],[L,q,P,k,R,Q],[g]⟩ fun v=>(v=(2,v0)∧(Q=ts.map Bh))∨(∃(x:Int),∃(A:Rs),v=(3,(⟨[x],[],[A],[]⟩:Ah))∧(A=ts.map Bh)∧(x=(ts.length:Int)))
theorem AgE {Γ:Ctx} {z fl:Int} {A M:Rs} {y:Mp} (hC:Ck Γ z fl A M y) {m:Nat} (q:T1 141 Γ z fl A M y m) (n:Nat):Aks 141 147 Γ z fl A M y m n:=by
 induction n with
 |zero=>intro a ts ql C len j o sub pl J D k L P R Q d v hQ h;exact absurd h.2.2.2.2.2.2.2.2.2 (Nat.not_lt_zero _)
 |succ n ih=>
 intro a ts ql C len j o sub pl J D k L P R Q d v hQ h
 subst v
 refine .of (t:=VD) rfl ?_
 unfold VD
 refine lt j len (fun t1=>?_) fun t1=>?_
 ·refine CJ j 0 ?_
  refine BD j C ?_
  obtain ⟨U,N,O,Z,X,u,x,H,af,ak,am⟩:=d.get j om om
  refine el H ?_
  obtain ⟨_,rfl,G3⟩:=q x U N O Z ((E.Ab u).length:Int) o sub pl J D X k (E.Ab u) P R ‹_› rfl kn
  refine ch G3 ?_
  refine BY 0 0 ?_
  refine dL (Q++[[PV.int .i64 x]]) (fun g e4=>?_) (BG (pw ql Q) pe)
  have f4:=cL e4;try simp only [lA,lC,lN,lT']at f4
  refine FA (g.length:Int) 1048576 ?_
  obtain ⟨_,(⟨rfl,ad⟩|⟨ac,ae,rfl,rfl,rfl⟩),c⟩:=ih ts (g.length:Int) C len (j+1) o sub pl J D k (E.Ab a) P R g d rfl (by subst_vars;exact Ic ‹_› om) kn
  ·refine cm c ?_
   refine cm c ?_
   refine ch c ?_
   exact Aj ⟨[(g.length:Int)],[],[g],[]⟩ (.inr ((⟨_,_,rfl,(by first|rfl|assumption|(subst_vars;assumption)),(by first|rfl|(have e:=‹_=ts.map Bh›;rw [e];exact Ts.CY))⟩)))
  refine cm c ?_
  refine cm c ?_
  refine cm c ?_
  refine ch c ?_
  exact Aj ⟨[(ts.length:Int)],[],[(ts.map Bh)],[]⟩ (.inr ((⟨_,_,rfl,(by first|rfl|assumption|(subst_vars;assumption)),(by first|rfl|(have e:=‹_=ts.map Bh›;rw [e];exact Ts.CY))⟩)))
 exact Aj v0 (.inl (⟨rfl,(hQ.trans (d.end om))⟩))
theorem Ajc:AjC 141 147:=fun {m} {Γ} {al} {fl} {Ar} {Fs} {mp} hC hC141 {a} ts ql ln len j grp sub pl bl lo knm L P R Q hTs hLa hQ h=>AgE hC @hC141 ((len-j).toNat+1) ts ql ln len j grp sub pl bl lo knm L P R Q hTs hLa hQ ⟨h.1,h.2.1,h.2.2.1,h.2.2.2.1,h.2.2.2.2.1,h.2.2.2.2.2.1,h.2.2.2.2.2.2.1,h.2.2.2.2.2.2.2.1,h.2.2.2.2.2.2.2.2,Nat.lt_succ_self _⟩
def AjE (q N:Nat):Prop:=∀{m:Nat} {Γ:Ctx} {k fl:Int} {o g:Rs} {d:Mp} (M:Ck Γ k fl o g d) (A:T1 q Γ k fl o g d m) {a:List E} (ts:List Int) (c len:Int) (j y:Int) (sub pl:Int) (C D:Int) (x:List Nat) (L P R:Rs) (H:Ts Γ ts a) (J:L=E.Ab a) (h:c=L.length∧c≤3∧len=c∧j=0∧E.BX a<m:=by exact kn),Ok trees N ⟨[c,len,j,y,sub,k,pl,fl,C,D],[x],[L,o,P,g,R],[d]⟩ fun u=>(u=(0,v0)∧(ts=[]))∨(∃(v:Int),∃(z:Rs),u=(2,(⟨[v],[],[z],[]⟩:Ah))∧(z=ts.map Bh)∧(v=(ts.length:Int)))
theorem Aje:AjE 141 144:=by
 intro m Γ al fl Ar Fs mp hC d a ts ln len j q sub pl N H o L P R g M h
 subst M;obtain ⟨h1,h2,rfl,rfl,h5⟩:=h
 refine .of (t:=VF) rfl ?_
 unfold VF
 refine lt 0 len (fun t1=>?_) fun t1=>?_
 ·refine CJ 0 0 ?_
  refine BD 0 len ?_
  obtain ⟨C,z,A,J,D,k,u,y,X,ae,af⟩:=g.get 0 om om
  refine el y ?_
  obtain ⟨_,rfl,G3⟩:=d u C z A J ((E.Ab k).length:Int) q sub pl N H D o (E.Ab k) P R ‹_› rfl kn
  refine ch G3 ?_
  refine BY 0 0 ?_
  refine dL [[.int .i64 u]] (fun v Z=>?_)
  have f4:=cL Z;try simp only [lA,lC,lN,lT']at f4
  refine ll 1 v ?_
  obtain ⟨_,(⟨rfl,Q⟩|⟨O,U,rfl,rfl,rfl⟩),c⟩:=Ajc hC @d ts 1 len len (0+1) q sub pl N H o (E.Ab a) P R v g rfl (by subst_vars;exact (Ic (j:=0) ‹_› om))
  ·refine cm c ?_
   refine cm c ?_
   refine ch c ?_
   exact Aj ⟨[1],[],[v],[]⟩ (.inr ((⟨_,_,rfl,(by first|rfl|(subst_vars;first|rfl|assumption)),(by first|rfl|(have e:=‹_=ts.map Bh›;have x:=Ts.CY (ts:=ts);rw [←e]at x;omega) |(subst_vars;first|rfl|simp))⟩)))
  refine cm c ?_
  refine cm c ?_
  refine cm c ?_
  refine ch c ?_
  exact Aj ⟨[(ts.length:Int)],[],[(ts.map Bh)],[]⟩ (.inr ((⟨_,_,rfl,(by first|rfl|(subst_vars;first|rfl|assumption)),(by first|rfl|(have e:=‹_=ts.map Bh›;have x:=Ts.CY (ts:=ts);rw [←e]at x;omega) |(subst_vars;first|rfl|simp))⟩)))
 exact Aj v0 (.inl (⟨rfl,(g.none om)⟩))
def AjF (o N:Nat):Prop:=∀{m:Nat} {Γ:Ctx} {g fl:Int} {j d:Rs} {c:Mp} (J:Ck Γ g fl j d c) (y:T1 o Γ g fl j d c m) {a:List E} (ts:List Int) (k u:Int) (sub pl:Int) (A C:Int) (q:List Nat) (L P R:Rs) (D:Ts Γ ts a) (H:L=E.Ab a) (h:k=L.length∧k≤3∧E.BX a<m:=by exact kn),Ok trees N ⟨[k,u,sub,g,pl,fl,A,C],[q],[L,j,P,d,R],[c]⟩ fun z=>(∃(v:Int),∃(x:Rs),z=(0,(⟨[v,0],[],[x],[]⟩:Ah))∧(x=ts.map Bh)∧(v=(ts.length:Int)))
theorem LC:AjF 141 143:=by
 intro m Γ J fl M N H z c a ts j u sub pl C A k L P R o q h
 subst q;have D:=Ts.CY (ts:=ts)
 refine .of (t:=VG) rfl ?_
 unfold VG
 obtain ⟨_,(⟨rfl,x⟩|⟨v,y,rfl,rfl,rfl⟩),d⟩:=Aje z @c ts j j 0 u sub pl C A k (E.Ab a) P R o rfl
 ·refine ch d ?_
  refine de [] ?_
  refine ll 0 [] ?_
  exact Aj ⟨[0,0],[],[[]],[]⟩ (⟨_,_,rfl,(by first|rfl|(subst_vars;first|rfl|assumption)),(by first|rfl|(have e:=‹_=ts.map Bh›;have g:=Ts.CY (ts:=ts);rw [←e]at g;omega) |(subst_vars;first|rfl|simp))⟩)
 refine cm d ?_
 refine cm d ?_
 refine ch d ?_
 refine ll (ts.length:Int) (ts.map Bh) ?_
 refine fr ?_
 exact Aj ⟨[(ts.length:Int),0],[],[(ts.map Bh)],[]⟩ (⟨_,_,rfl,(by first|rfl|(subst_vars;first|rfl|assumption)),(by first|rfl|(have e:=‹_=ts.map Bh›;have g:=Ts.CY (ts:=ts);rw [←e]at g;omega) |(subst_vars;first|rfl|simp))⟩)
theorem AgF {Γ:Ctx} {al fl:Int} {Ar Fs:Rs} {mp:Mp} (H:Ck Γ al fl Ar Fs mp) (n:Nat):T1 141 Γ al fl Ar Fs mp n:=by
 induction n with
 |zero=>intro a t k o ty v ln D sub pl Z X s C A P R hT hA h;exact absurd h.2 (Nat.not_lt_zero _)
 |succ n ih=>
 intro a t k o ty v ln D sub pl Z X s C A P R hT hA h
 subst hA;have e2:=LW (k:=k) (o:=o) (ty:=ty) (v:=v) (s:=s) (a:=a);have J:ln=(a.length:Int):=by have:=h.1;rw [E.A7]at this;exact this
 rcases hT.inv with hv|hv|hv|hv|hv|hv|hv|hv
 ·obtain ⟨rfl,rfl,rfl,rfl,rfl,r1,r2,r3,r4,r5,r6⟩:=hv;simp only [lC,lN]at J;have e3:E.Ae []=0:=rfl
  refine .of (t:=Ek) rfl ?_
  unfold Ek
  obtain ⟨_,⟨aQ,a1,rfl,rfl,rfl⟩,G1⟩:=LC H @ih [] ln D sub pl Z X C (E.Ab []) P R (by exact .nil) rfl
  refine ch G1 ?_
  refine BY 0 0 ?_
  refine BI 1 1 ?_
  first|exact Aj ⟨[ty,0],[],[],[]⟩ (rfl) |(exfalso;omega)
 ·obtain ⟨rfl,rfl,rfl,rfl,rfl,rfl,r1,r2⟩:=hv;simp only [lC,lN]at J;have e3:E.Ae []=0:=rfl
  refine .of (t:=Ek) rfl ?_
  unfold Ek
  obtain ⟨_,⟨a2,a6,rfl,rfl,rfl⟩,G2⟩:=LC H @ih [] ln D sub pl Z X C (E.Ab []) P R (by exact .nil) rfl
  refine ch G2 ?_
  refine BY 0 0 ?_
  refine AQ 3 1 ?_
  refine BI 3 3 ?_
  first|exact Aj ⟨[1,0],[],[],[]⟩ (rfl) |(exfalso;omega)
 ·obtain ⟨rfl,rfl,rfl,rfl,rfl,hs,kk,ii,hk,r1,r2,hg⟩:=hv;simp only [lC,lN]at J;have e3:E.Ae []=0:=rfl
  refine .of (t:=Ek) rfl ?_
  unfold Ek
  obtain ⟨_,⟨a3,aU,rfl,rfl,rfl⟩,G3⟩:=LC H @ih [] ln D sub pl Z X C (E.Ab []) P R (by exact .nil) rfl
  refine ch G3 ?_
  refine BY 0 0 ?_
  refine AQ 2 1 ?_
  refine AQ 2 3 ?_
  refine AQ 2 4 ?_
  refine AQ 2 5 ?_
  refine AQ 2 6 ?_
  refine BI 2 2 ?_
  refine lh (H.look hg) ?_
  refine eq kk 2 (fun t4=>?_) fun t4=>?_
  ·first|exact Aj ⟨[t,0],[],[],[]⟩ (rfl) |(exfalso;omega)
  refine eq kk 3 (fun t5=>?_) fun t5=>?_
  ·first|exact Aj ⟨[t,0],[],[],[]⟩ (rfl) |(exfalso;omega)
  first|exact Aj ⟨[0,30],[],[],[]⟩ (rfl) |(exfalso;omega)
 ·obtain ⟨rfl,rfl,rfl,rfl,d,j,q,u,g,c,w,rfl,hu,h1⟩:=hv;simp only [lC,lN]at J;have e3:=n1 (x:=.node d j q u g c);have e4:=g1 (x:=.node d j q u g c);have hr:=hu.rng
  refine .of (t:=Ek) rfl ?_
  unfold Ek
  obtain ⟨_,⟨a9,aZ,rfl,rfl,rfl⟩,G6⟩:=LC H @ih [w] ln D sub pl Z X C (E.Ab [.node d j q u g c]) P R (by exact .cons h1 .nil) rfl
  refine ch G6 ?_
  refine BY 0 0 ?_
  refine AQ 4 1 ?_
  refine AQ 4 3 ?_
  refine BI 4 4 ?_
  refine BD 0 ([w].length:Int) ?_
  refine el (j':=0) rfl ?_
  obtain ⟨_,rfl,G7⟩:=AdV t o w hu
  refine ch G7 ?_
  first|exact Aj ⟨[t,0],[],[],[]⟩ (rfl) |(exfalso;omega)
 ·obtain ⟨rfl,rfl,rfl,rfl,d,j,q,u,g,c,O,M,N,Q,U,b2,w,rfl,hu,h1,h2⟩:=hv;simp only [lC,lN]at J;have e3:=n2 (x:=.node d j q u g c) (y:=.node O M N Q U b2);have e4:=g2 (x:=.node d j q u g c) (y:=.node O M N Q U b2);have hr:=hu.rng
  refine .of (t:=Ek) rfl ?_
  unfold Ek
  obtain ⟨_,⟨ba,aO,rfl,rfl,rfl⟩,G8⟩:=LC H @ih [w,w] ln D sub pl Z X C (E.Ab [.node d j q u g c,.node O M N Q U b2]) P R (by exact .cons h1 (.cons h2 .nil)) rfl
  refine ch G8 ?_
  refine BY 0 0 ?_
  refine AQ 5 1 ?_
  refine AQ 5 3 ?_
  refine AQ 5 4 ?_
  refine BI 5 5 ?_
  refine BD 0 ([w,w].length:Int) ?_
  refine el (j':=0) rfl ?_
  refine BD 1 ([w,w].length:Int) ?_
  refine el (j':=1) rfl ?_
  obtain ⟨_,rfl,G9⟩:=Abb t o w w hu rfl
  refine ch G9 ?_
  first|exact Aj ⟨[t,0],[],[],[]⟩ (rfl) |(exfalso;omega)
 ·obtain ⟨rfl,rfl,rfl,rfl,rfl,d,j,q,u,g,c,O,M,N,Q,U,b2,k3,o3,t3,v3,s3,b3,rfl,h1,h2,h3⟩:=hv;simp only [lC,lN]at J;have e3:=n3 (x:=.node d j q u g c) (y:=.node O M N Q U b2) (z:=.node k3 o3 t3 v3 s3 b3);have e4:=g3 (x:=.node d j q u g c) (y:=.node O M N Q U b2) (z:=.node k3 o3 t3 v3 s3 b3)
  refine .of (t:=Ek) rfl ?_
  unfold Ek
  obtain ⟨_,⟨aL,aM,rfl,rfl,rfl⟩,aD⟩:=LC H @ih [3,t,t] ln D sub pl Z X C (E.Ab [.node d j q u g c,.node O M N Q U b2,.node k3 o3 t3 v3 s3 b3]) P R (by exact .cons h1 (.cons h2 (.cons h3 .nil))) rfl
  refine ch aD ?_
  refine BY 0 0 ?_
  refine AQ 6 1 ?_
  refine AQ 6 3 ?_
  refine AQ 6 4 ?_
  refine AQ 6 5 ?_
  refine BI 6 6 ?_
  refine BD 0 ([3,t,t].length:Int) ?_
  refine el (j':=0) rfl ?_
  refine BY 3 3 ?_
  refine BD 1 ([3,t,t].length:Int) ?_
  refine el (j':=1) rfl ?_
  refine BD 2 ([3,t,t].length:Int) ?_
  refine el (j':=2) rfl ?_
  refine BY t t ?_
  first|exact Aj ⟨[t,0],[],[],[]⟩ (rfl) |(exfalso;omega)
 ·obtain ⟨rfl,rfl,rfl,rfl,hs,d,j,q,u,g,c,ii,rfl,r1,r2,hg,h1⟩:=hv;simp only [lC,lN]at J;have e3:=n1 (x:=.node d j q u g c);have e4:=g1 (x:=.node d j q u g c)
  refine .of (t:=Ek) rfl ?_
  unfold Ek
  obtain ⟨_,⟨aH,aK,rfl,rfl,rfl⟩,aA⟩:=LC H @ih [1] ln D sub pl Z X C (E.Ab [.node d j q u g c]) P R (by exact .cons h1 .nil) rfl
  refine ch aA ?_
  refine BY 0 0 ?_
  refine AQ 7 1 ?_
  refine AQ 7 3 ?_
  refine AQ 7 4 ?_
  refine AQ 7 5 ?_
  refine AQ 7 6 ?_
  refine AQ 7 2 ?_
  refine BI 7 7 ?_
  refine lh (H.look hg) ?_
  refine BI 0 0 ?_
  refine BD 0 ([1].length:Int) ?_
  refine el (j':=0) rfl ?_
  refine BY 1 1 ?_
  first|exact Aj ⟨[t,0],[],[],[]⟩ (rfl) |(exfalso;omega)
 ·obtain ⟨rfl,rfl,rfl,rfl,rfl,d,j,q,u,g,c,O,M,N,Q,U,b2,ii,rfl,rfl,hg,h1,h2⟩:=hv;simp only [lC,lN]at J;have e3:=n2 (x:=.node d j q u g c) (y:=.node O M N Q U b2);have e4:=g2 (x:=.node d j q u g c) (y:=.node O M N Q U b2);obtain ⟨bf,be,F_,kf,aE,yf,wf,sf,Af,ai⟩:=H.fn _ hg;have bg:(AH.length:Int)=2:=rfl
  refine .of (t:=Ek) rfl ?_
  unfold Ek
  obtain ⟨_,⟨aJ,aI,rfl,rfl,rfl⟩,aF⟩:=LC H @ih [1,1] ln D sub pl Z X C (E.Ab [.node d j q u g c,.node O M N Q U b2]) P R (by exact .cons h1 (.cons h2 .nil)) rfl
  refine ch aF ?_
  refine BY 0 0 ?_
  refine AQ 8 1 ?_
  refine AQ 8 3 ?_
  refine AQ 8 4 ?_
  refine AQ 8 5 ?_
  refine AQ 8 6 ?_
  refine AQ 8 2 ?_
  refine AQ 8 7 ?_
  refine BI 8 8 ?_
  refine lh (H.look hg) ?_
  refine BI 1 1 ?_
  refine CJ ii 0 ?_
  refine BD ii fl ?_
  refine el ai ?_
  obtain ⟨_,rfl,aC⟩:=Ajd H (AH.length:Int) 1 (F_.length:Int) kf aE yf wf (Af.length:Int) ([1,1].length:Int) D sub pl Z X [104] sf C AH F_ Af ([1,1].map Bh) P R rfl rfl
  refine ch aC ?_
  first|exact Aj ⟨[1,0],[],[],[]⟩ (rfl) |(exfalso;omega)
theorem AdU:AjH 141:=fun {Γ} {al} {fl} {Ar} {Fs} {mp} hC {a} t k o ty v ln grp sub pl bl lo s knm A P R hT hA h=>AgF hC ((E.node k o ty v s a).high+1) t k o ty v ln grp sub pl bl lo s knm A P R hT hA ⟨h,Nat.lt_succ_self _⟩
def AjG (N:Nat):Prop:=∀{Γ:Ctx} {g fl:Int} {j x:Rs} {c:Mp} (H:Ck Γ g fl j x c) {a:List E} (k o:Int) (ty v:Int) (u t:Int) (q sub:Int) (pl z C:Int) (s d:List Nat) (A P R:Rs) (D:T Γ t (.node k o ty v s a)) (J:A=E.Ab a) (h:u=A.length:=by exact kn),Ok trees N ⟨[k,o,ty,v,u,t,q,sub,g,pl,fl,z,C],[s,d],[A,j,P,x,R],[c]⟩ fun y=>(y=(0,(⟨[0],[],[],[]⟩:Ah)))
theorem Xn:AjG 142:=by
 intro Γ D fl H J C g a k o ty v j t d sub pl y q s c A P R u z h
 refine .of (t:=VH) rfl ?_
 unfold VH
 obtain ⟨_,rfl,x⟩:=AdU g t k o ty v j d sub pl y q s c A P R u z
 refine ch x ?_
 refine BI 0 0 ?_
 refine BY t t ?_
 exact Aj ⟨[0],[],[],[]⟩ (rfl)
def AjL (N:Nat):Prop:=∀{Γ:Ctx} {lp pu:Int} {Q:Ctx} {O z:List E} {J el:List S} (k o:Int) (t b:Int) (xk xo:Int) (C xw:Int) (Z yk:Int) (M A:Int) (U D:Int) (c g:Int) (ad sub:Int) (j pl:Int) (fl bl lo:Int) (nm H:List Nat) (yn aa:List Nat) (X Y:Rs) (v u:Rs) (q P:Rs) (x R:Rs) (y:Mp) (hC:Ck Γ j fl q x y) (hS:Dv lp pu Γ (.node k o t b nm (.node xk xo C xw H O) (.node yk M A U yn z) J el) Q) (hX:X=E.Ab O) (hY:Y=E.Ab z) (hB:v=S.Ab J) (hE:u=S.Ab el) (h:Z=X.length∧D=Y.length∧c=v.length∧g=u.length∧k=1:=by exact kn),Ok trees N ⟨[k,o,t,b,xk,xo,C,xw,Z,yk,M,A,U,D,c,g,ad,sub,j,pl,fl,bl,lo],[nm,H,yn,aa],[X,Y,v,u,q,P,x,R],[y]⟩ fun zz=>(∃(d:Mp),zz=(0,(⟨[0],[],[],[d]⟩:Ah))∧(Ck Q j fl q x d))
theorem Aji:AjL 137:=by
 intro Γ lp pu Γ1 z Z bo el k o t b H O v N C yk yo yt yw yl Q U g sub al pl fl M A nm x yn d X Y Bo El Ar P Fs R q c u j y hB J h
 subst j;subst y;subst hB;subst J;obtain ⟨_,_,_,_,_,hn,hg,r1,r2,hx,_,rfl⟩:=u.Ais om
 refine .of (t:=VL) rfl ?_
 unfold VL
 obtain ⟨_,rfl,D⟩:=AdU c t H O v N C g sub pl M A x d (E.Ab z) P R ‹_› rfl
 refine ch D ?_
 refine BY 0 0 ?_
 refine lm (c.Aip hg) ?_
 refine up [.int .i64 3,.int .i64 t,.int .i64 0] ?_
 refine BY t t ?_
 first|exact Aj ⟨[0],[],[],[(Bn q nm [.int .i64 3,.int .i64 t,.int .i64 0])]⟩ (⟨_,rfl,(c.I1 hg)⟩) |(exfalso;omega)
def AjK (N:Nat):Prop:=∀{Γ:Ctx} {lp pu:Int} {Γ1:Ctx} {J u:List E} {D el:List S} (k o:Int) (t b:Int) (Z xo:Int) (x xw:Int) (O yk:Int) (H v:Int) (M y:Int) (c d:Int) (aa sub:Int) (z pl:Int) (fl bl lo:Int) (nm A:List Nat) (U Q:List Nat) (X Y:Rs) (j g:Rs) (C P:Rs) (Fs R:Rs) (q:Mp) (hC:Ck Γ z fl C Fs q) (hS:Dv lp pu Γ (.node k o t b nm (.node Z xo x xw A J) (.node yk H v M U u) D el) Γ1) (hX:X=E.Ab J) (hY:Y=E.Ab u) (hB:j=S.Ab D) (hE:g=S.Ab el) (h:O=X.length∧y=Y.length∧c=j.length∧d=g.length∧k=2:=by exact kn),Ok trees N ⟨[k,o,t,b,Z,xo,x,xw,O,yk,H,v,M,y,c,d,aa,sub,z,pl,fl,bl,lo],[nm,A,U,Q],[X,Y,j,g,C,P,Fs,R],[q]⟩ fun zz=>(zz=(0,(⟨[0],[],[],[]⟩:Ah)))
theorem Ajh:AjK 138:=by
 intro Γ lp pu Γ1 z ya bo el k o t b H O v N C yk yo yt yw yl Q U g sub al pl fl M A nm x yn d X Y Bo El Ar P Fs R Z c q j y hB J h
 subst j;subst y;subst hB;subst J;obtain ⟨_,_,_,_,_,_,hn,rfl,u,i,hg,hx,_⟩:=q.Ait om
 refine .of (t:=VK) rfl ?_
 unfold VK
 refine lh (c.look hg) ?_
 refine BI 3 3 ?_
 obtain ⟨_,rfl,D⟩:=Xn c H O v N C u g sub pl M A x d (E.Ab z) P R ‹_› rfl
 refine ch D ?_
 first|exact Aj ⟨[0],[],[],[]⟩ (rfl) |(exfalso;omega)
def Kh (N n:Nat):Prop:=∀{Γ:Ctx} {k v:Int} {A:Ctx} {l:List S} (g x:Int) (sub q:Int) (pl fl:Int) (C c:Int) (o:List Nat) (L u:Rs) (P y R:Rs) (j:Mp) (J:Ck Γ q fl u y j) (H:C8 k v Γ l A) (D:L=S.Ab l) (h:g=L.length∧g≤200000∧(k=0∨1≤c)∧0≤c∧c+S.Ax l≤1000∧S.Ae l≤200000∧v=1∧S.Ax l<n),Ok trees N ⟨[g,x,sub,q,pl,fl,C,c],[o],[L,u,P,y,R],[j]⟩ fun z=>(∃(d:Int),z=(0,(⟨[0,d],[],[],[]⟩:Ah))∧(c=d))
def Aeh (N:Nat):Prop:=∀{Γ:Ctx} {k v:Int} {A:Ctx} {l:List S} (g x:Int) (sub q:Int) (pl fl:Int) (C c:Int) (o:List Nat) (L u:Rs) (P y R:Rs) (j:Mp) (J:Ck Γ q fl u y j) (H:C8 k v Γ l A) (D:L=S.Ab l) (h:g=L.length∧g≤200000∧(k=0∨1≤c)∧0≤c∧c+S.Ax l≤1000∧S.Ae l≤200000∧v=1:=by exact kn),Ok trees N ⟨[g,x,sub,q,pl,fl,C,c],[o],[L,u,P,y,R],[j]⟩ fun z=>(∃(d:Int),z=(0,(⟨[0,d],[],[],[]⟩:Ah))∧(c=d))
theorem Kh.of {N n:Nat} (H:Aeh N):Kh N n:=fun {Γ} {lp} {pu} {Γe} {l} ln grp sub al pl fl bl lo knm L Ar P Fs R mp hC hO hLs h=>H ln grp sub al pl fl bl lo knm L Ar P Fs R mp hC hO hLs (by have:=h;omega)
def AjJ (u N:Nat):Prop:=∀{m:Nat} (aj:Kh u m) {Γ:Ctx} {C Q:Int} {Γ1:Ctx} {Z z:List E} {d el:List S} (k o:Int) (t b:Int) (xk xo:Int) (D xw:Int) (xl yk:Int) (U A:Int) (yw H:Int) (c j:Int) (af sub:Int) (J pl:Int) (fl bl g:Int) (nm M:List Nat) (yn ac:List Nat) (X Y:Rs) (x v:Rs) (O P:Rs) (Fs R:Rs) (y:Mp) (hC:Ck Γ J fl O Fs y) (hS:Dv C Q Γ (.node k o t b nm (.node xk xo D xw M Z) (.node yk U A yw yn z) d el) Γ1) (hX:X=E.Ab Z) (hY:Y=E.Ab z) (hB:x=S.Ab d) (hE:v=S.Ab el) (h:xl=X.length∧H=Y.length∧c=x.length∧j=v.length∧(C=0∨1≤g)∧0≤g∧g+max (S.Ax d) (S.Ax el)≤1000∧S.Ae d≤200000∧S.Ae el≤200000∧S.Ax d<m∧S.Ax el<m∧c≤200000∧j≤200000∧k=5∧Q=1:=by exact kn),Ok trees N ⟨[k,o,t,b,xk,xo,D,xw,xl,yk,U,A,yw,H,c,j,af,sub,J,pl,fl,bl,g],[nm,M,yn,ac],[X,Y,x,v,O,P,Fs,R],[y]⟩ fun zz=>(∃(q:Int),zz=(0,(⟨[0,q],[],[],[]⟩:Ah))∧(g=q))
theorem Ajg:AjJ 149 139:=by
 intro m c Γ lp pu Γ1 Q ya O el k o t b xk xo J xw Z yk yo yt yw yl x A g sub y pl fl u j nm M yn d X Y Bo El z P C R v q H D N hB hE h
 subst D;subst N;subst hB;subst hE;obtain ⟨_,_,_,_,_,hx,_,rfl,Γa,Γb,ai,aj⟩:=H.kif om
 refine .of (t:=VJ) rfl ?_
 unfold VJ
 obtain ⟨_,rfl,G1⟩:=Xn q xk xo J xw Z 3 g sub pl u j M d (E.Ab Q) P R ‹_› rfl
 refine ch G1 ?_
 refine BI 0 0 ?_
 obtain ⟨_,⟨af,rfl,rfl⟩,U⟩:=c x g sub y pl fl u j d (S.Ab O) z P C R v q ‹_› rfl kn
 refine ch U ?_
 refine BI 0 0 ?_
 obtain ⟨_,⟨ab,rfl,rfl⟩,G3⟩:=c A g sub y pl fl u j d (S.Ab el) z P C R v q ‹_› rfl kn
 refine ch G3 ?_
 first|exact Aj ⟨[0,j],[],[],[]⟩ (⟨_,rfl,kn⟩) |(exfalso;omega)
def AjI (u N:Nat):Prop:=∀{m:Nat} (aj:Kh u m) {Γ:Ctx} {C Q:Int} {Γ1:Ctx} {Z z:List E} {c el:List S} (k o:Int) (t b:Int) (xk xo:Int) (D xw:Int) (xl yk:Int) (U A:Int) (yw H:Int) (d q:Int) (af sub:Int) (J pl:Int) (fl bl g:Int) (nm M:List Nat) (yn ac:List Nat) (X Y:Rs) (x v:Rs) (O P:Rs) (Fs R:Rs) (y:Mp) (hC:Ck Γ J fl O Fs y) (hS:Dv C Q Γ (.node k o t b nm (.node xk xo D xw M Z) (.node yk U A yw yn z) c el) Γ1) (hX:X=E.Ab Z) (hY:Y=E.Ab z) (hB:x=S.Ab c) (hE:v=S.Ab el) (h:xl=X.length∧H=Y.length∧d=x.length∧q=v.length∧(C=0∨1≤g)∧0≤g∧g+1+S.Ax c≤1000∧S.Ax c<m∧d≤200000∧S.Ae c≤200000∧S.Ae c≤200000∧k=6∧Q=1:=by exact kn),Ok trees N ⟨[k,o,t,b,xk,xo,D,xw,xl,yk,U,A,yw,H,d,q,af,sub,J,pl,fl,bl,g],[nm,M,yn,ac],[X,Y,x,v,O,P,Fs,R],[y]⟩ fun zz=>(∃(j:Int),zz=(0,(⟨[0,j],[],[],[]⟩:Ah))∧(g=j))
theorem Ajf:AjI 149 140:=by
 intro m d Γ lp pu Γ1 U ya Q el k o t b xk xo C xw Z yk yo yt yw yl q ai j sub D pl fl v c nm H yn g X Y Bo El J P Fs R y u A x N hB hE h
 subst x;subst N;subst hB;subst hE;obtain ⟨_,_,_,_,_,hx,_,b1,b2,rfl,Γa,ah⟩:=A.Air om
 refine .of (t:=VI) rfl ?_
 unfold VI
 obtain ⟨_,rfl,G1⟩:=Xn u xk xo C xw Z 3 j sub pl v c H g (E.Ab U) P R ‹_› rfl
 refine ch G1 ?_
 refine BY 0 0 ?_
 refine lt b 1 (fun t2=>?_) fun t2=>?_
 ·first|exact Aj ⟨[1,c],[],[],[]⟩ (⟨_,rfl,kn⟩) |(exfalso;omega)
 refine gt b 1024 (fun M=>?_) fun M=>?_
 ·first|exact Aj ⟨[1,c],[],[],[]⟩ (⟨_,rfl,kn⟩) |(exfalso;omega)
 obtain ⟨_,⟨z,rfl,rfl⟩,O⟩:=d q j sub D pl fl v (c+1) g (S.Ab Q) J P Fs R y u ‹_› rfl kn
 refine ch O ?_
 first|exact Aj ⟨[0,((c+1)-1)],[],[],[]⟩ (⟨_,rfl,kn⟩) |(exfalso;omega)
def Aku (H N:Nat) (m n:Nat):Prop:=∀{Γ:Ctx} {x z:Int} {A:Ctx} {l:List S} (d len:Int) (j C:Int) (sub o:Int) (pl fl:Int) (J c:Int) (y:List Nat) (L q:Rs) (P u R:Rs) (v:Mp) (Q:Ck Γ o fl q u v) (O:C8 x z Γ (l.drop j.toNat) A) (M:L=S.Ab l) (h:d=L.length∧d≤200000∧len=d∧0≤j∧(x=0∨1≤c)∧0≤c∧c+S.Ax (l.drop j.toNat)≤1000∧S.Ax (l.drop j.toNat)≤m∧S.Ae (l.drop j.toNat)≤200000∧z=1∧(len-j).toNat<n),Ok trees N ⟨[d,len,j,C,sub,o,pl,fl,J,c],[y],[L,q,P,u,R],[v]⟩ fun D=>(∃(k:Int),∃(g:Mp),D=(1,(⟨[k],[],[],[g]⟩:Ah))∧(Ck A o fl q u g)∧(c=k))
def AjN (u N:Nat):Prop:=∀{m:Nat} (H:Kh u m) {Γ:Ctx} {y A:Int} {C:Ctx} {l:List S} (d len:Int) (j D:Int) (sub o:Int) (pl fl:Int) (M c:Int) (z:List Nat) (L q:Rs) (P v R:Rs) (x:Mp) (U:Ck Γ o fl q v x) (Q:C8 y A Γ (l.drop j.toNat) C) (O:L=S.Ab l) (h:d=L.length∧d≤200000∧len=d∧0≤j∧(y=0∨1≤c)∧0≤c∧c+S.Ax (l.drop j.toNat)≤1000∧S.Ax (l.drop j.toNat)≤m∧S.Ae (l.drop j.toNat)≤200000∧A=1:=by exact kn),Ok trees N ⟨[d,len,j,D,sub,o,pl,fl,M,c],[z],[L,q,P,v,R],[x]⟩ fun J=>(∃(k:Int),∃(g:Mp),J=(1,(⟨[k],[],[],[g]⟩:Ah))∧(Ck C o fl q v g)∧(c=k))
theorem AgH {m:Nat} (ah:Kh 149 m) (n:Nat):Aku 149 135 m n:=by
 induction n with
 |zero=>intro Γ lp pu Γe l ln len j v sub J pl fl D g u L C P H R A q x au h;exact absurd h.2.2.2.2.2.2.2.2.2.2 (Nat.not_lt_zero _)
 |succ n ih=>
 intro Γ lp pu Γe l ln len j v sub J pl fl D g u L C P H R A q x au h
 subst au
 refine .of (t:=VN) rfl ?_
 unfold VN
 refine lt j len (fun t1=>?_) fun t1=>?_
 ·refine CJ j 0 ?_
  refine BD j ln ?_
  obtain ⟨d,ag,t_1,af,ac,ab,O,ae,U,X,z,N,Z,ad,Q,M,y,k,o,bo,ay,c,ba,be,bd⟩:=C8.get j x om om
  refine el ay ?_
  have bf:=c.Aas;have aV:=S.len k;have aX:=S.len o;have a7:=S.A7 k;have a1:=S.A7 o;have aW:=c.pure
  refine eq d 1 (fun t3=>?_) fun t3=>?_
  ·obtain ⟨_,⟨ax,rfl,aA⟩,G4⟩:=Aji d ag t_1 af ab O ae U ((E.Ab z).length:Int) N Z ad Q ((E.Ab y).length:Int) ((S.Ab k).length:Int) ((S.Ab o).length:Int) v sub J pl fl D g ac X M u (E.Ab z) (E.Ab y) (S.Ab k) (S.Ab o) C P H R A q c rfl rfl rfl rfl
   refine ch G4 ?_
   refine BY 0 0 ?_
   obtain ⟨_,⟨bn,aB,rfl,bt,rfl⟩,G5⟩:=ih ln len (j+1) v sub J pl fl D g u (S.Ab l) C P H R ax aA ‹_› rfl kn
   refine cm G5 ?_
   refine ch G5 ?_
   exact Aj ⟨[g],[],[],[aB]⟩ (⟨_,_,rfl,(by first|assumption|(obtain ⟨_,_,e⟩:=Bv (l:=l) (j:=j) om;rw [e]at x;cases x;exact q)),kn⟩)
  refine eq d 2 (fun t6=>?_) fun t6=>?_
  ·obtain ⟨_,rfl,G7⟩:=Ajh d ag t_1 af ab O ae U ((E.Ab z).length:Int) N Z ad Q ((E.Ab y).length:Int) ((S.Ab k).length:Int) ((S.Ab o).length:Int) v sub J pl fl D g ac X M u (E.Ab z) (E.Ab y) (S.Ab k) (S.Ab o) C P H R A q c rfl rfl rfl rfl
   refine ch G7 ?_
   refine BY 0 0 ?_
   obtain ⟨_,⟨br,az,rfl,bm,rfl⟩,G8⟩:=ih ln len (j+1) v sub J pl fl D g u (S.Ab l) C P H R A (q.keep c om) ‹_› rfl kn
   refine cm G8 ?_
   refine ch G8 ?_
   exact Aj ⟨[g],[],[],[az]⟩ (⟨_,_,rfl,(by first|assumption|(obtain ⟨_,_,e⟩:=Bv (l:=l) (j:=j) om;rw [e]at x;cases x;exact q)),kn⟩)
  refine eq d 5 (fun t9=>?_) fun t9=>?_
  ·obtain ⟨_,⟨aZ,rfl,rfl⟩,aK⟩:=Ajg @ah d ag t_1 af ab O ae U ((E.Ab z).length:Int) N Z ad Q ((E.Ab y).length:Int) ((S.Ab k).length:Int) ((S.Ab o).length:Int) v sub J pl fl D g ac X M u (E.Ab z) (E.Ab y) (S.Ab k) (S.Ab o) C P H R A q c rfl rfl rfl rfl
   refine ch aK ?_
   refine BY 0 0 ?_
   obtain ⟨_,⟨aY,aj,rfl,aU,rfl⟩,av⟩:=ih ln len (j+1) v sub J pl fl D g u (S.Ab l) C P H R A (q.keep c om) ‹_› rfl kn
   refine cm av ?_
   refine ch av ?_
   exact Aj ⟨[g],[],[],[aj]⟩ (⟨_,_,rfl,(by first|assumption|(obtain ⟨_,_,e⟩:=Bv (l:=l) (j:=j) om;rw [e]at x;cases x;exact q)),kn⟩)
  refine eq d 6 (fun aH=>?_) fun aH=>?_
  ·obtain ⟨_,⟨a5,rfl,rfl⟩,aJ⟩:=Ajf @ah d ag t_1 af ab O ae U ((E.Ab z).length:Int) N Z ad Q ((E.Ab y).length:Int) ((S.Ab k).length:Int) ((S.Ab o).length:Int) v sub J pl fl D g ac X M u (E.Ab z) (E.Ab y) (S.Ab k) (S.Ab o) C P H R A q c rfl rfl rfl rfl
   refine ch aJ ?_
   refine BY 0 0 ?_
   obtain ⟨_,⟨a3,ai,rfl,a8,rfl⟩,aq⟩:=ih ln len (j+1) v sub J pl fl D g u (S.Ab l) C P H R A (q.keep c om) ‹_› rfl kn
   refine cm aq ?_
   refine ch aq ?_
   exact Aj ⟨[g],[],[],[ai]⟩ (⟨_,_,rfl,(by first|assumption|(obtain ⟨_,_,e⟩:=Bv (l:=l) (j:=j) om;rw [e]at x;cases x;exact q)),kn⟩)
  refine eq d 7 (fun aN=>?_) fun aN=>?_
  ·refine eq g 0 (fun aM=>?_) fun aM=>?_
   ·exact dead
   obtain ⟨_,⟨a0,an,rfl,aR,rfl⟩,ao⟩:=ih ln len (j+1) v sub J pl fl D g u (S.Ab l) C P H R A (q.keep c om) ‹_› rfl kn
   refine cm ao ?_
   refine ch ao ?_
   exact Aj ⟨[g],[],[],[an]⟩ (⟨_,_,rfl,(by first|assumption|(obtain ⟨_,_,e⟩:=Bv (l:=l) (j:=j) om;rw [e]at x;cases x;exact q)),kn⟩)
  refine eq d 8 (fun aD=>?_) fun aD=>?_
  ·refine eq g 0 (fun aE=>?_) fun aE=>?_
   ·exact dead
   obtain ⟨_,⟨a9,am,rfl,a2,rfl⟩,ap⟩:=ih ln len (j+1) v sub J pl fl D g u (S.Ab l) C P H R A (q.keep c om) ‹_› rfl kn
   refine cm ap ?_
   refine ch ap ?_
   exact Aj ⟨[g],[],[],[am]⟩ (⟨_,_,rfl,(by first|assumption|(obtain ⟨_,_,e⟩:=Bv (l:=l) (j:=j) om;rw [e]at x;cases x;exact q)),kn⟩)
  refine eq d 3 (fun aG=>?_) fun aG=>?_
  ·exact dead
  refine eq d 4 (fun aL=>?_) fun aL=>?_
  ·exact dead
  refine eq d 12 (fun aI=>?_) fun aI=>?_
  ·exact dead
  refine eq d 9 (fun aC=>?_) fun aC=>?_
  ·exact dead
  refine eq d 10 (fun aP=>?_) fun aP=>?_
  ·exact dead
  refine eq d 11 (fun aF=>?_) fun aF=>?_
  ·exact dead
  obtain ⟨_,⟨a4,ak,rfl,a6,rfl⟩,aw⟩:=ih ln len (j+1) v sub J pl fl D g u (S.Ab l) C P H R A (q.keep c om) ‹_› rfl kn
  refine cm aw ?_
  refine ch aw ?_
  exact Aj ⟨[g],[],[],[ak]⟩ (⟨_,_,rfl,(by first|assumption|(obtain ⟨_,_,e⟩:=Bv (l:=l) (j:=j) om;rw [e]at x;cases x;exact q)),kn⟩)
 exact Aj ⟨[g],[],[],[A]⟩ (⟨_,_,rfl,(by first|assumption|(obtain ⟨_,_,e⟩:=Bv (l:=l) (j:=j) om;rw [e]at x;cases x;exact q)),kn⟩)
theorem Ajk:AjN 149 135:=fun {m} hC149 {Γ} {lp} {pu} {Γe} {l} ln len j grp sub al pl fl bl lo knm L Ar P Fs R mp hC hO hLs h=>AgH @hC149 ((len-j).toNat+1) ln len j grp sub al pl fl bl lo knm L Ar P Fs R mp hC hO hLs ⟨h.1,h.2.1,h.2.2.1,h.2.2.2.1,h.2.2.2.2.1,h.2.2.2.2.2.1,h.2.2.2.2.2.2.1,h.2.2.2.2.2.2.2.1,h.2.2.2.2.2.2.2.2.1,h.2.2.2.2.2.2.2.2.2,Nat.lt_succ_self _⟩
def AjS (o N:Nat):Prop:=∀{m:Nat} (D:Kh o m) {Γ:Ctx} {x z:Int} {A:Ctx} {l:List S} (q C:Int) (sub j:Int) (pl fl:Int) (J c:Int) (y:List Nat) (L k:Rs) (P u R:Rs) (v:Mp) (Q:Ck Γ j fl k u v) (O:C8 x z Γ l A) (M:L=S.Ab l) (h:q=L.length∧q≤200000∧(x=0∨1≤c)∧0≤c∧c+S.Ax l≤1000∧S.Ae l≤200000∧S.Ax l≤m∧z=1:=by exact kn),Ok trees N ⟨[q,C,sub,j,pl,fl,J,c],[y],[L,k,P,u,R],[v]⟩ fun H=>(∃(g:Int),∃(d:Mp),H=(0,(⟨[0,g],[],[],[d]⟩:Ah))∧(Ck A j fl k u d)∧(c=g))
theorem AdW:AjS 149 130:=by
 intro m c Γ N O Q l g q sub z pl fl D j k L A P J R v C x u h
 subst u;have U:S.Ax (l.drop (0:Int).toNat)=S.Ax l:=rfl;have M:S.Ae (l.drop (0:Int).toNat)=S.Ae l:=rfl
 refine .of (t:=VR) rfl ?_
 unfold VR
 obtain ⟨_,⟨H,d,rfl,y,rfl⟩,o⟩:=Ajk @c g g 0 q sub z pl fl D j k (S.Ab l) A P J R v C x rfl
 refine cm o ?_
 refine ch o ?_
 exact Aj ⟨[0,j],[],[],[d]⟩ (⟨_,_,rfl,‹_›,kn⟩)
theorem AgC (n:Nat):Kh 149 n:=by
 induction n with
 |zero=>intro Γ C H D l x d sub q pl fl y j c L u P z R k v o g h;exact absurd h.2.2.2.2.2.2.2 (Nat.not_lt_zero _)
 |succ n ih=>
 intro Γ C H D l x d sub q pl fl y j c L u P z R k v o g h
 refine .of (t:=VB) rfl ?_
 unfold VB
 obtain ⟨_,⟨N,J,rfl,A,rfl⟩,M⟩:=AdW @ih x d sub q pl fl y j c L u P z R k v o g
 refine ch M ?_
 exact Aj ⟨[0,j],[],[],[]⟩ (⟨_,rfl,kn⟩)
theorem Aja:Aeh 149:=fun {Γ} {lp} {pu} {Γe} {l} ln grp sub al pl fl bl lo knm L Ar P Fs R mp hC hO hLs h=>AgC (S.Ax l+1) ln grp sub al pl fl bl lo knm L Ar P Fs R mp hC hO hLs ⟨h.1,h.2.1,h.2.2.1,h.2.2.2.1,h.2.2.2.2.1,h.2.2.2.2.2.1,h.2.2.2.2.2.2,Nat.lt_succ_self _⟩
end Go.Proofs.YtbmofjdmgjpfoaaGreatDoor.Am
end
section
set_option maxHeartbeats 4000000
set_option maxRecDepth 100000
namespace Go.Proofs.YtbmofjdmgjpfoaaGreatDoor.Am
open Go.AM Go.AM.K
def Aky (N n:Nat):Prop:=∀(n1 g:Int) (len j:Int) (g1 D:Int) (v p1:Int) (P U:Int) (g2 M:Int) (a2 x:Int) (A u X:Int) (O R:List Nat) (L y:Rs) (C k:Rs) (z J:Rs) (Q H o:Rs) (d:Mp) (Z:L=A4) (hm:d=Di j) (h:g=5∧len=5∧0≤j∧j≤5∧(5-j).toNat<n),Ok trees N ⟨[n1,g,len,j,g1,D,v,p1,P,U,g2,M,a2,x,A,u,X],[O,R],[L,y,C,k,z,J,Q,H,o],[d]⟩ fun q=>(∃(c:Mp),q=(0,(⟨[],[],[],[c]⟩:Ah))∧(c=Di 5))
def Ake (N:Nat):Prop:=∀(n1 g:Int) (len j:Int) (g1 D:Int) (v p1:Int) (P U:Int) (g2 M:Int) (a2 x:Int) (A u X:Int) (O R:List Nat) (L y:Rs) (C k:Rs) (z J:Rs) (Q H o:Rs) (d:Mp) (Z:L=A4) (hm:d=Di j) (h:g=5∧len=5∧0≤j∧j≤5:=by exact kn),Ok trees N ⟨[n1,g,len,j,g1,D,v,p1,P,U,g2,M,a2,x,A,u,X],[O,R],[L,y,C,k,z,J,Q,H,o],[d]⟩ fun q=>(∃(c:Mp),q=(0,(⟨[],[],[],[c]⟩:Ah))∧(c=Di 5))
theorem AgM (n:Nat):Aky 112 n:=by
 induction n with
 |zero=>intro n1 Z len j g1 x k p1 z P g2 N a2 o J H D O C L q v d u M A y g R Q c h;exact absurd h.2.2.2.2 (Nat.not_lt_zero _)
 |succ n ih=>
 intro n1 Z len j g1 x k p1 z P g2 N a2 o J H D O C L q v d u M A y g R Q c h
 subst Q;have ⟨h1,h2,am,ak,al⟩:=h;subst h1;subst h2
 rcases (by omega:j=0∨j=1∨j=2∨j=3∨j=4∨j=5)with rfl|rfl|rfl|rfl|rfl|rfl
 ·subst c
  refine .of (t:=Fz) rfl ?_
  unfold Fz
  refine BD 0 5 ?_
  refine CJ 0 0 ?_
  refine BD 0 5 ?_
  refine el (j':=0) rfl ?_
  refine lm rfl ?_
  refine up [.int .i64 0,.int .i64 1,.int .i64 0] ?_
  obtain ⟨_,⟨ac,rfl,rfl⟩,G1⟩:=ih n1 5 5 (0+1) g1 x k p1 z P g2 N a2 o J H D O C A4 q v d u M A y g (Bn (Di 0) [97] [.int .i64 0,.int .i64 1,.int .i64 0]) rfl rfl kn
  refine ch G1 ?_
  exact Aj ⟨[],[],[],[(Di 5)]⟩ (⟨_,rfl,rfl⟩)
 ·subst c
  refine .of (t:=Fz) rfl ?_
  unfold Fz
  refine BD 1 5 ?_
  refine CJ 1 0 ?_
  refine BD 1 5 ?_
  refine el (j':=1) rfl ?_
  refine lm rfl ?_
  refine up [.int .i64 0,.int .i64 2,.int .i64 1] ?_
  obtain ⟨_,⟨U,rfl,rfl⟩,G2⟩:=ih n1 5 5 (1+1) g1 x k p1 z P g2 N a2 o J H D O C A4 q v d u M A y g (Bn (Di 1) [102] [.int .i64 0,.int .i64 2,.int .i64 1]) rfl rfl kn
  refine ch G2 ?_
  exact Aj ⟨[],[],[],[(Di 5)]⟩ (⟨_,rfl,rfl⟩)
 ·subst c
  refine .of (t:=Fz) rfl ?_
  unfold Fz
  refine BD 2 5 ?_
  refine CJ 2 0 ?_
  refine BD 2 5 ?_
  refine el (j':=2) rfl ?_
  refine lm rfl ?_
  refine up [.int .i64 0,.int .i64 1,.int .i64 2] ?_
  obtain ⟨_,⟨ab,rfl,rfl⟩,G3⟩:=ih n1 5 5 (2+1) g1 x k p1 z P g2 N a2 o J H D O C A4 q v d u M A y g (Bn (Di 2) [115] [.int .i64 0,.int .i64 1,.int .i64 2]) rfl rfl kn
  refine ch G3 ?_
  exact Aj ⟨[],[],[],[(Di 5)]⟩ (⟨_,rfl,rfl⟩)
 ·subst c
  refine .of (t:=Fz) rfl ?_
  unfold Fz
  refine BD 3 5 ?_
  refine CJ 3 0 ?_
  refine BD 3 5 ?_
  refine el (j':=3) rfl ?_
  refine lm rfl ?_
  refine up [.int .i64 0,.int .i64 1,.int .i64 3] ?_
  obtain ⟨_,⟨aa,rfl,rfl⟩,X⟩:=ih n1 5 5 (3+1) g1 x k p1 z P g2 N a2 o J H D O C A4 q v d u M A y g (Bn (Di 3) [112] [.int .i64 0,.int .i64 1,.int .i64 3]) rfl rfl kn
  refine ch X ?_
  exact Aj ⟨[],[],[],[(Di 5)]⟩ (⟨_,rfl,rfl⟩)
 ·subst c
  refine .of (t:=Fz) rfl ?_
  unfold Fz
  refine BD 4 5 ?_
  refine CJ 4 0 ?_
  refine BD 4 5 ?_
  refine el (j':=4) rfl ?_
  refine lm rfl ?_
  refine up [.int .i64 0,.int .i64 3,.int .i64 4] ?_
  obtain ⟨_,⟨ae,rfl,rfl⟩,G5⟩:=ih n1 5 5 (4+1) g1 x k p1 z P g2 N a2 o J H D O C A4 q v d u M A y g (Bn (Di 4) [98] [.int .i64 0,.int .i64 3,.int .i64 4]) rfl rfl kn
  refine ch G5 ?_
  exact Aj ⟨[],[],[],[(Di 5)]⟩ (⟨_,rfl,rfl⟩)
 ·subst c
  refine .of (t:=Fz) rfl ?_
  unfold Fz
  refine En 5 5 ?_
  exact Aj ⟨[],[],[],[(Di 5)]⟩ (⟨_,rfl,rfl⟩)
theorem Ajr:Ake 112:=fun n1 D len j g1 x k p1 C U g2 Q a2 o O N M R J L q v c u P H y g d z A h=>AgM ((5-j).toNat+1) n1 D len j g1 x k p1 C U g2 Q a2 o O N M R J L q v c u P H y g d z A ⟨h.1,h.2.1,h.2.2.1,h.2.2.2,Nat.lt_succ_self _⟩
def Akw (N n:Nat):Prop:=∀(v len:Int) (j g2:Int) (Q a2:Int) (D H:Int) (A lo:Int) (o u:Int) (q X:Int) (C R:Int) (x rl:Int) (w2 g k:List Nat) (L O:Rs) (Z M:Rs) (y J:Rs) (P U:Rs) (d:Mp) (hL:L=AH) (hm:d=HJ j) (h:v=2∧len=2∧0≤j∧j≤2∧(2-j).toNat<n),Ok trees N ⟨[v,len,j,g2,Q,a2,D,H,A,lo,o,u,q,X,C,R,x,rl],[w2,g,k],[L,O,Z,M,y,J,P,U],[d]⟩ fun z=>(∃(c:Mp),z=(1,(⟨[],[],[],[c]⟩:Ah))∧(c=HJ 2))
def AjT (N:Nat):Prop:=∀(v len:Int) (j g2:Int) (Q a2:Int) (D H:Int) (A lo:Int) (o u:Int) (q X:Int) (C R:Int) (x rl:Int) (w2 g k:List Nat) (L O:Rs) (Z M:Rs) (y J:Rs) (P U:Rs) (d:Mp) (hL:L=AH) (hm:d=HJ j) (h:v=2∧len=2∧0≤j∧j≤2:=by exact kn),Ok trees N ⟨[v,len,j,g2,Q,a2,D,H,A,lo,o,u,q,X,C,R,x,rl],[w2,g,k],[L,O,Z,M,y,J,P,U],[d]⟩ fun z=>(∃(c:Mp),z=(1,(⟨[],[],[],[c]⟩:Ah))∧(c=HJ 2))
theorem AgJ (n:Nat):Akw 129 n:=by
 induction n with
 |zero=>intro ln len j g2 P a2 x J D C g o k U H Q u X A d c L N z y v M O R mp Z q h;exact absurd h.2.2.2.2 (Nat.not_lt_zero _)
 |succ n ih=>
 intro ln len j g2 P a2 x J D C g o k U H Q u X A d c L N z y v M O R mp Z q h
 subst Z;have ⟨h1,h2,ak,ai,aj⟩:=h;subst h1;subst h2
 rcases (by omega:j=0∨j=1∨j=2)with rfl|rfl|rfl
 ·subst q
  refine .of (t:=La) rfl ?_
  unfold La
  refine BD 0 2 ?_
  refine CJ 0 0 ?_
  refine BD 0 2 ?_
  refine el (j':=0) rfl ?_
  refine lm rfl ?_
  refine up [.int .i64 2,.int .i64 1,.int .i64 0] ?_
  obtain ⟨_,⟨af,rfl,rfl⟩,G1⟩:=ih 2 2 (0+1) g2 P a2 x J D C g o k U H Q u X A d c AH N z y v M O R (Bn (HJ 0) [120] [.int .i64 2,.int .i64 1,.int .i64 0]) rfl rfl kn
  refine cm G1 ?_
  refine ch G1 ?_
  exact Aj ⟨[],[],[],[(HJ 2)]⟩ (⟨_,rfl,rfl⟩)
 ·subst q
  refine .of (t:=La) rfl ?_
  unfold La
  refine BD 1 2 ?_
  refine CJ 1 0 ?_
  refine BD 1 2 ?_
  refine el (j':=1) rfl ?_
  refine lm rfl ?_
  refine up [.int .i64 2,.int .i64 1,.int .i64 0] ?_
  obtain ⟨_,⟨ad,rfl,rfl⟩,G2⟩:=ih 2 2 (1+1) g2 P a2 x J D C g o k U H Q u X A d c AH N z y v M O R (Bn (HJ 1) [121] [.int .i64 2,.int .i64 1,.int .i64 0]) rfl rfl kn
  refine cm G2 ?_
  refine ch G2 ?_
  exact Aj ⟨[],[],[],[(HJ 2)]⟩ (⟨_,rfl,rfl⟩)
 ·subst q
  refine .of (t:=La) rfl ?_
  unfold La
  refine En 2 2 ?_
  exact Aj ⟨[],[],[],[(HJ 2)]⟩ (⟨_,rfl,rfl⟩)
theorem Ajo:AjT 129:=fun C len j g2 U a2 x O M J g o k rk N X q rl H d c L Q D y v P R Z u z A h=>AgJ ((2-j).toNat+1) C len j g2 U a2 x O M J g o k rk N X q rl H d c L Q D y v P R Z u z A ⟨h.1,h.2.1,h.2.2.1,h.2.2.2,Nat.lt_succ_self _⟩
def Akx (N n:Nat):Prop:=∀(n1 g:Int) (len j:Int) (g1 D:Int) (v p1:Int) (P U:Int) (g2 M:Int) (a2 x:Int) (A u X:Int) (O R:List Nat) (L y:Rs) (C k:Rs) (z J:Rs) (Q H o:Rs) (d:Mp) (h:g=0∧len=0∧j=0∧(len-j).toNat<n),Ok trees N ⟨[n1,g,len,j,g1,D,v,p1,P,U,g2,M,a2,x,A,u,X],[O,R],[L,y,C,k,z,J,Q,H,o],[d]⟩ fun q=>(∃(c:Mp),q=(0,(⟨[],[],[],[c]⟩:Ah))∧(c=d))
def Akd (N:Nat):Prop:=∀(n1 g:Int) (len j:Int) (g1 D:Int) (v p1:Int) (P U:Int) (g2 M:Int) (a2 x:Int) (A u X:Int) (O R:List Nat) (L y:Rs) (C k:Rs) (z J:Rs) (Q H o:Rs) (d:Mp) (h:g=0∧len=0∧j=0:=by exact kn),Ok trees N ⟨[n1,g,len,j,g1,D,v,p1,P,U,g2,M,a2,x,A,u,X],[O,R],[L,y,C,k,z,J,Q,H,o],[d]⟩ fun q=>(∃(c:Mp),q=(0,(⟨[],[],[],[c]⟩:Ah))∧(c=d))
theorem AgL (n:Nat):Akx 114 n:=by
 induction n with
 |zero=>intro n1 A len j g1 x k p1 z Q g2 O a2 o M J H P D L q v d u N C y g c h;exact absurd h.2.2.2 (Nat.not_lt_zero _)
 |succ n ih=>
 intro n1 A len j g1 x k p1 z Q g2 O a2 o M J H P D L q v d u N C y g c h
 obtain ⟨rfl,rfl,rfl,_⟩:=h
 refine .of (t:=VZ) rfl ?_
 unfold VZ
 refine En 0 0 ?_
 exact Aj ⟨[],[],[],[c]⟩ (⟨_,rfl,rfl⟩)
theorem Ajq:Akd 114:=fun n1 A len j g1 x k p1 z Q g2 O a2 o M J H P D L q v c u N C y g d h=>AgL ((len-j).toNat+1) n1 A len j g1 x k p1 z Q g2 O a2 o M J H P D L q v c u N C y g d ⟨h.1,h.2.1,h.2.2,Nat.lt_succ_self _⟩
def Akf (N:Nat):Prop:=∀{c:List S} {v:List E} {u:Ctx} {x d:Int} {ry rw:Int} {o:List Nat} (g sub:Int) (k pl:Int) (fl A n:Int) (j:List Nat) (q P:Rs) (y R:Rs) (C:q=A4) (D:y=[hrow AH (S.Ab c) x d ry o rw (E.Ab v)]) (J:C8 0 1 fΓ c u) (H:T u 1 (.node x d ry rw o v)) (h:n=0∧k=5∧fl=1∧S.Ax c≤900∧S.Ae c≤200000:=by exact kn),Ok trees N ⟨[g,sub,k,pl,fl,A,n],[j],[q,P,y,R],[]⟩ fun z=>(z=(0,(⟨[0],[],[],[]⟩:Ah)))
theorem Ajs:Akf 111:=by
 intro j o Γe z x y rw u g sub al pl fl k n c Ar P d R C q J U h
 subst C;have ⟨h1,h2,H,h4,h5⟩:=h;subst h1;subst h2;subst H;have v:d[(0:Int).toNat]?=some (hrow AH (S.Ab j) z x y u rw (E.Ab o)):=(by subst q;rfl);have ai:(AH.length:Int)=2:=rfl;have aj:=S.len j;have ak:=S.A7 j
 refine .of (t:=Wa) rfl ?_
 unfold Wa
 refine md [] ?_
 obtain ⟨_,⟨Q,rfl,rfl⟩,G1⟩:=Ajr 0 5 5 0 g sub 5 pl 1 k g sub 5 pl 1 k 0 c c A4 A4 P d R A4 P d R [] rfl rfl
 refine ch G1 ?_
 refine dL (d.take (0:Int).toNat) (fun W2 M=>?_) (Fi (pt 0 d))
 have f2:=cL M;try simp only [lA,lC,lN,lT']at f2
 obtain ⟨_,⟨O,rfl,rfl⟩,G3⟩:=Ajq 0 0 0 0 g sub 5 pl 1 k g sub 5 pl 1 k 0 c c W2 A4 P d R A4 P d R (Di 5)
 refine ch G3 ?_
 refine CJ 0 0 ?_
 refine BD 0 1 ?_
 refine el v ?_
 obtain ⟨_,⟨N,rfl,rfl⟩,D⟩:=Ajo (AH.length:Int) (AH.length:Int) 0 g sub 5 pl 1 k 0 (AH.length:Int) 1 ((S.Ab j).length:Int) z x y rw ((E.Ab o).length:Int) c [104] u AH A4 P d R AH (S.Ab j) (E.Ab o) (Di 5) rfl rfl
 refine cm D ?_
 refine ch D ?_
 obtain ⟨_,⟨X,Z,rfl,A,rfl⟩,G5⟩:=AdW (Kh.of (n:=1000) @Aja) ((S.Ab j).length:Int) g sub 5 pl 1 k 0 c (S.Ab j) A4 P d R (HJ 2) (Ck.Af2 (by subst q;rfl)) J rfl
 refine ch G5 ?_
 refine BY 0 0 ?_
 obtain ⟨_,rfl,G6⟩:=Xn A z x y rw ((E.Ab o).length:Int) 1 g sub pl k 0 u c (E.Ab o) P R U rfl
 refine ch G6 ?_
 exact Aj ⟨[0],[],[],[]⟩ (rfl)
end Go.Proofs.YtbmofjdmgjpfoaaGreatDoor.Am
end
