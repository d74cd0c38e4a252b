/- Part 12 of the proof of TypesPrefix. -/
import Derived.Test.YtbmofjdmgjpfoaaGreatDoorD11
set_option linter.all false
section
set_option maxHeartbeats 4000000
set_option maxRecDepth 100000
namespace Go.Proofs.YtbmofjdmgjpfoaaGreatDoor.Am
open Go.AM Go.AM.K
def AjR (N:Nat):Prop:=∀(u:Int) (o t:Int) (c:UnT o t u),Ok trees N ⟨[o,t],[],[],[]⟩ fun x=>x=(0,(⟨[u,0],[],[],[]⟩:Ah))
theorem AdV:AjR 131:=by
 intro u o t c
 unfold UnT at c
 rcases c with ⟨rfl|rfl,rfl|rfl,rfl⟩|⟨rfl,rfl|rfl,rfl⟩|⟨rfl,rfl,rfl⟩|⟨rfl,rfl,rfl⟩<;>exact Ok.num (t:=YP) (a:=0) (ms:=[_,0]) rfl (by kernel_rfl) rfl
def AjQ (N:Nat):Prop:=∀(u:Int) (o t c:Int) (d:LQ o t u) (g:c=t),Ok trees N ⟨[o,t,c],[],[],[]⟩ fun x=>x=(0,(⟨[u,0],[],[],[]⟩:Ah))
theorem Abb:AjQ 132:=by
 intro u o t c d g
 subst g
 unfold LQ at d
 rcases d with ⟨rfl|rfl|rfl|rfl,rfl|rfl,rfl⟩|⟨rfl|rfl|rfl|rfl|rfl,rfl,rfl⟩|⟨rfl|rfl,rfl,rfl⟩|⟨rfl|rfl|rfl,rfl|rfl,rfl⟩|⟨ho,h1,h3,rfl⟩|⟨rfl|rfl|rfl|rfl,rfl|rfl,rfl⟩
 case inr.inr.inr.inr.inl=>
  have:c=1∨c=2∨c=3:=by omega
  rcases ho with rfl|rfl<;>rcases this with rfl|rfl|rfl<;>exact Ok.num (t:=VQ) (a:=0) (ms:=[_,0]) rfl (by kernel_rfl) rfl
 all_goals exact Ok.num (t:=VQ) (a:=0) (ms:=[_,0]) rfl (by kernel_rfl) rfl
def Akt (N:Nat) (Γ:Ctx) (H fl:Int) (J O:Rs) (C:Mp) (n:Nat):Prop:=∀(y d:Int) (len j:Int) (x sub:Int) (pl Z:Int) (M o:Int) (u q:Int) (rk Q:Int) (X A rl:Int) (k z g:List Nat) (T v:Rs) (P R:Rs) (c U RA:Rs) (hT:T=[1,1].map Bh) (hF:v=AH) (h:y=2∧d=2∧len=2∧0≤j∧j≤2∧(2-j).toNat<n),Ok trees N ⟨[y,d,len,j,x,sub,H,pl,fl,Z,M,o,u,q,rk,Q,X,A,rl],[k,z,g],[T,v,J,P,O,R,c,U,RA],[C]⟩ fun D=>(D=(1,v0))
def AjM (N:Nat):Prop:=∀{Γ:Ctx} {d fl:Int} {g u:Rs} {c:Mp} (hC:Ck Γ d fl g u c) (D o:Int) (len j:Int) (C sub:Int) (pl Z:Int) (O x:Int) (z y:Int) (rk Q:Int) (X J rl:Int) (v H q:List Nat) (T A:Rs) (P R:Rs) (k U RA:Rs) (hT:T=[1,1].map Bh) (hF:A=AH) (h:D=2∧o=2∧len=2∧0≤j∧j≤2:=by exact kn),Ok trees N ⟨[D,o,len,j,C,sub,d,pl,fl,Z,O,x,z,y,rk,Q,X,J,rl],[v,H,q],[T,A,g,P,u,R,k,U,RA],[c]⟩ fun M=>(M=(1,v0))
theorem AgG {Γ:Ctx} {U fl:Int} {D O:Rs} {C:Mp} (hC:Ck Γ U fl D O C) (n:Nat):Akt 136 Γ U fl D O C n:=by
 induction n with
 |zero=>intro A z len j v sub pl M H d u q N J ry Q rl c g o T FP P R k FB RA Z hF h;exact absurd h.2.2.2.2.2 (Nat.not_lt_zero _)
 |succ n ih=>
 intro A z len j v sub pl M H d u q N J ry Q rl c g o T FP P R k FB RA Z hF h
 subst Z;subst hF
 refine .of (t:=VM) rfl ?_
 unfold VM
 refine lt j len (fun t1=>?_) fun t1=>?_
 ·refine CJ j 0 ?_
  refine BD j z ?_
  obtain ⟨af,x⟩:=Pv j om om
  refine el x ?_
  refine BD j A ?_
  have y:=Su j om om
  refine el y ?_
  refine BY 1 1 ?_
  obtain ⟨_,rfl,X⟩:=ih A z len (j+1) v sub pl M H d u q N J ry Q rl c g o ([1,1].map Bh) AH P R k FB RA rfl rfl kn
  refine cm X ?_
  refine ch X ?_
  exact Aj v0 (rfl)
 exact Aj v0 (rfl)
theorem Ajj:AjM 136:=fun {Γ} {al} {fl} {Ar} {Fs} {mp} hC tl ln len j grp sub pl bl lo fpl fty fbl rk ro ry rv rl knm fnm rnm T FP P R FP2 FB RA hT hF h=>AgG hC ((2-j).toNat+1) tl ln len j grp sub pl bl lo fpl fty fbl rk ro ry rv rl knm fnm rnm T FP P R FP2 FB RA hT hF ⟨h.1,h.2.1,h.2.2.1,h.2.2.2.1,h.2.2.2.2,Nat.lt_succ_self _⟩
def AjP (N:Nat):Prop:=∀{Γ:Ctx} {q fl:Int} {x A:Rs} {g:Mp} (hC:Ck Γ q fl x A g) (c d:Int) (u U:Int) (H M:Int) (C X:Int) (z y:Int) (sub pl:Int) (O Z:Int) (j k o:List Nat) (v J:Rs) (Q T:Rs) (P R:Rs) (hT:T=[1,1].map Bh) (hF:v=AH) (h:z=2∧c=2∧d=1:=by exact kn),Ok trees N ⟨[c,d,u,U,H,M,C,X,z,y,sub,q,pl,fl,O,Z],[j,k,o],[v,J,Q,T,x,P,A,R],[g]⟩ fun D=>(D=(0,(⟨[1,0],[],[],[]⟩:Ah)))
theorem Ajm:AjP 133:=by
 intro Γ Q fl U Fs O v M N k H y A u J tl q sub pl C x d c g o z D T P R X Z h
 obtain ⟨rfl,rfl,rfl⟩:=h
 refine .of (t:=VP) rfl ?_
 unfold VP
 refine BY 2 2 ?_
 obtain ⟨_,rfl,j⟩:=Ajj v 2 2 2 0 q sub pl C x 2 1 k H y A u J g d c T o P R o z D ‹_› ‹_›
 refine cm j ?_
 refine ch j ?_
 exact Aj ⟨[1,0],[],[],[]⟩ (rfl)
def T2 (N:Nat) (Γ:Ctx) (u fl:Int) (x z:Rs) (j:Mp) (n:Nat):Prop:=∀{a:List E} (t k:Int) (o ty:Int) (v g:Int) (d sub:Int) (pl y C:Int) (s c:List Nat) (A P R:Rs) (D:T Γ t (.node k o ty v s a)) (H:A=E.Ab a) (h:g=A.length∧(E.node k o ty v s a).high<n),Ok trees N ⟨[k,o,ty,v,g,d,sub,u,pl,fl,y,C],[s,c],[A,x,P,z,R],[j]⟩ fun q=>(q=(0,(⟨[t,0],[],[],[]⟩:Ah)))
def AjY (N:Nat):Prop:=∀{Γ:Ctx} {g fl:Int} {j x:Rs} {c:Mp} (H:Ck Γ g fl j x c) {a:List E} (t k:Int) (o ty:Int) (v u:Int) (q sub:Int) (pl z C:Int) (s d:List Nat) (A P R:Rs) (D:T Γ t (.node k o ty v s a)) (J:A=E.Ab a) (h:u=A.length:=by exact kn),Ok trees N ⟨[k,o,ty,v,u,q,sub,g,pl,fl,z,C],[s,d],[A,j,P,x,R],[c]⟩ fun y=>(y=(0,(⟨[t,0],[],[],[]⟩:Ah)))
def Akv (x N:Nat) (Γ:Ctx) (y fl:Int) (z C:Rs) (v:Mp) (m n:Nat):Prop:=∀{a:List E} (ts:List Int) (d c:Int) (len j:Int) (q sub:Int) (pl A D:Int) (o:List Nat) (L P:Rs) (R Q:Rs) (H:Ts Γ ts a) (J:L=E.Ab a) (M:Q=(ts.take j.toNat).map Bh) (h:c=L.length∧c≤3∧len=c∧0≤j∧j≤c∧d=Q.length∧d+(len-j)≤9∧0≤d∧E.BX a<m∧(len-j).toNat<n),Ok trees N ⟨[d,c,len,j,q,sub,y,pl,fl,A,D],[o],[L,z,P,C,R,Q],[v]⟩ fun g=>(g=(2,v0)∧(Q=ts.map Bh))∨(∃(k:Int),∃(u:Rs),g=(3,(⟨[k],[],[u],[]⟩:Ah))∧(u=ts.map Bh)∧(k=(ts.length:Int)))
def AjO (k N:Nat):Prop:=∀{m:Nat} {Γ:Ctx} {o fl:Int} {q u:Rs} {g:Mp} (U:Ck Γ o fl q u g) (C:T2 k Γ o fl q u g m) {a:List E} (ts:List Int) (d c:Int) (len j:Int) (z sub:Int) (pl D H:Int) (y:List Nat) (L P:Rs) (R Q:Rs) (J:Ts Γ ts a) (M:L=E.Ab a) (O:Q=(ts.take j.toNat).map Bh) (h:c=L.length∧c≤3∧len=c∧0≤j∧j≤c∧d=Q.length∧d+(len-j)≤9∧0≤d∧E.BX a<m:=by exact kn),Ok trees N ⟨[d,c,len,j,z,sub,o,pl,fl,D,H],[y],[L,q,P,u,R,Q],[g]⟩ fun v=>(v=(2,v0)∧(Q=ts.map Bh))∨(∃(x:Int),∃(A:Rs),v=(3,(⟨[x],[],[A],[]⟩:Ah))∧(A=ts.map Bh)∧(x=(ts.length:Int)))
theorem AgI {Γ:Ctx} {z fl:Int} {A M:Rs} {y:Mp} (hC:Ck Γ z fl A M y) {m:Nat} (q:T2 124 Γ z fl A M y m) (n:Nat):Akv 124 134 Γ z fl A M y m n:=by
 induction n with
 |zero=>intro a ts ql C len j o sub pl J D k L P R Q d v hQ h;exact absurd h.2.2.2.2.2.2.2.2.2 (Nat.not_lt_zero _)
 |succ n ih=>
 intro a ts ql C len j o sub pl J D k L P R Q d v hQ h
 subst v
 refine .of (t:=VO) rfl ?_
 unfold VO
 refine lt j len (fun t1=>?_) fun t1=>?_
 ·refine CJ j 0 ?_
  refine BD j C ?_
  obtain ⟨U,N,O,Z,X,u,x,H,af,ak,am⟩:=d.get j om om
  refine el H ?_
  obtain ⟨_,rfl,G3⟩:=q x U N O Z ((E.Ab u).length:Int) o sub pl J D X k (E.Ab u) P R ‹_› rfl kn
  refine ch G3 ?_
  refine BY 0 0 ?_
  refine dL (Q++[[PV.int .i64 x]]) (fun g e4=>?_) (BG (pw ql Q) pe)
  have f4:=cL e4;try simp only [lA,lC,lN,lT']at f4
  refine FA (g.length:Int) 1048576 ?_
  obtain ⟨_,(⟨rfl,ad⟩|⟨ac,ae,rfl,rfl,rfl⟩),c⟩:=ih ts (g.length:Int) C len (j+1) o sub pl J D k (E.Ab a) P R g d rfl (by subst_vars;exact Ic ‹_› om) kn
  ·refine cm c ?_
   refine cm c ?_
   refine ch c ?_
   exact Aj ⟨[(g.length:Int)],[],[g],[]⟩ (.inr ((⟨_,_,rfl,(by first|rfl|assumption|(subst_vars;assumption)),(by first|rfl|(have e:=‹_=ts.map Bh›;rw [e];exact Ts.CY))⟩)))
  refine cm c ?_
  refine cm c ?_
  refine cm c ?_
  refine ch c ?_
  exact Aj ⟨[(ts.length:Int)],[],[(ts.map Bh)],[]⟩ (.inr ((⟨_,_,rfl,(by first|rfl|assumption|(subst_vars;assumption)),(by first|rfl|(have e:=‹_=ts.map Bh›;rw [e];exact Ts.CY))⟩)))
 exact Aj v0 (.inl (⟨rfl,(hQ.trans (d.end om))⟩))
theorem Ajl:AjO 124 134:=fun {m} {Γ} {al} {fl} {Ar} {Fs} {mp} hC hC124 {a} ts ql ln len j grp sub pl bl lo knm L P R Q hTs hLa hQ h=>AgI hC @hC124 ((len-j).toNat+1) ts ql ln len j grp sub pl bl lo knm L P R Q hTs hLa hQ ⟨h.1,h.2.1,h.2.2.1,h.2.2.2.1,h.2.2.2.2.1,h.2.2.2.2.2.1,h.2.2.2.2.2.2.1,h.2.2.2.2.2.2.2.1,h.2.2.2.2.2.2.2.2,Nat.lt_succ_self _⟩
def AjU (g N:Nat):Prop:=∀{m:Nat} {Γ:Ctx} {k fl:Int} {o q:Rs} {d:Mp} (M:Ck Γ k fl o q d) (A:T2 g Γ k fl o q d m) {a:List E} (ts:List Int) (c len:Int) (j y:Int) (sub pl:Int) (C D:Int) (x:List Nat) (L P R:Rs) (H:Ts Γ ts a) (J:L=E.Ab a) (h:c=L.length∧c≤3∧len=c∧j=0∧E.BX a<m:=by exact kn),Ok trees N ⟨[c,len,j,y,sub,k,pl,fl,C,D],[x],[L,o,P,q,R],[d]⟩ fun u=>(u=(0,v0)∧(ts=[]))∨(∃(v:Int),∃(z:Rs),u=(2,(⟨[v],[],[z],[]⟩:Ah))∧(z=ts.map Bh)∧(v=(ts.length:Int)))
theorem Ajp:AjU 124 128:=by
 intro m Γ al fl Ar Fs mp hC d a ts ln len j q sub pl N H o L P R g M h
 subst M;obtain ⟨h1,h2,rfl,rfl,h5⟩:=h
 refine .of (t:=VS) rfl ?_
 unfold VS
 refine lt 0 len (fun t1=>?_) fun t1=>?_
 ·refine CJ 0 0 ?_
  refine BD 0 len ?_
  obtain ⟨C,z,A,J,D,k,u,y,X,ae,af⟩:=g.get 0 om om
  refine el y ?_
  obtain ⟨_,rfl,G3⟩:=d u C z A J ((E.Ab k).length:Int) q sub pl N H D o (E.Ab k) P R ‹_› rfl kn
  refine ch G3 ?_
  refine BY 0 0 ?_
  refine dL [[.int .i64 u]] (fun v Z=>?_)
  have f4:=cL Z;try simp only [lA,lC,lN,lT']at f4
  refine ll 1 v ?_
  obtain ⟨_,(⟨rfl,Q⟩|⟨O,U,rfl,rfl,rfl⟩),c⟩:=Ajl hC @d ts 1 len len (0+1) q sub pl N H o (E.Ab a) P R v g rfl (by subst_vars;exact (Ic (j:=0) ‹_› om))
  ·refine cm c ?_
   refine cm c ?_
   refine ch c ?_
   exact Aj ⟨[1],[],[v],[]⟩ (.inr ((⟨_,_,rfl,(by first|rfl|(subst_vars;first|rfl|assumption)),(by first|rfl|(have e:=‹_=ts.map Bh›;have x:=Ts.CY (ts:=ts);rw [←e]at x;omega) |(subst_vars;first|rfl|simp))⟩)))
  refine cm c ?_
  refine cm c ?_
  refine cm c ?_
  refine ch c ?_
  exact Aj ⟨[(ts.length:Int)],[],[(ts.map Bh)],[]⟩ (.inr ((⟨_,_,rfl,(by first|rfl|(subst_vars;first|rfl|assumption)),(by first|rfl|(have e:=‹_=ts.map Bh›;have x:=Ts.CY (ts:=ts);rw [←e]at x;omega) |(subst_vars;first|rfl|simp))⟩)))
 exact Aj v0 (.inl (⟨rfl,(g.none om)⟩))
def AjV (d N:Nat):Prop:=∀{m:Nat} {Γ:Ctx} {g fl:Int} {j o:Rs} {c:Mp} (J:Ck Γ g fl j o c) (y:T2 d Γ g fl j o c m) {a:List E} (ts:List Int) (k u:Int) (sub pl:Int) (A C:Int) (q:List Nat) (L P R:Rs) (D:Ts Γ ts a) (H:L=E.Ab a) (h:k=L.length∧k≤3∧E.BX a<m:=by exact kn),Ok trees N ⟨[k,u,sub,g,pl,fl,A,C],[q],[L,j,P,o,R],[c]⟩ fun z=>(∃(v:Int),∃(x:Rs),z=(0,(⟨[v,0],[],[x],[]⟩:Ah))∧(x=ts.map Bh)∧(v=(ts.length:Int)))
theorem LD:AjV 124 127:=by
 intro m Γ J fl M N H z c a ts j u sub pl C A k L P R o q h
 subst q;have D:=Ts.CY (ts:=ts)
 refine .of (t:=VT) rfl ?_
 unfold VT
 obtain ⟨_,(⟨rfl,x⟩|⟨v,y,rfl,rfl,rfl⟩),d⟩:=Ajp z @c ts j j 0 u sub pl C A k (E.Ab a) P R o rfl
 ·refine ch d ?_
  refine de [] ?_
  refine ll 0 [] ?_
  exact Aj ⟨[0,0],[],[[]],[]⟩ (⟨_,_,rfl,(by first|rfl|(subst_vars;first|rfl|assumption)),(by first|rfl|(have e:=‹_=ts.map Bh›;have g:=Ts.CY (ts:=ts);rw [←e]at g;omega) |(subst_vars;first|rfl|simp))⟩)
 refine cm d ?_
 refine cm d ?_
 refine ch d ?_
 refine ll (ts.length:Int) (ts.map Bh) ?_
 refine fr ?_
 exact Aj ⟨[(ts.length:Int),0],[],[(ts.map Bh)],[]⟩ (⟨_,_,rfl,(by first|rfl|(subst_vars;first|rfl|assumption)),(by first|rfl|(have e:=‹_=ts.map Bh›;have g:=Ts.CY (ts:=ts);rw [←e]at g;omega) |(subst_vars;first|rfl|simp))⟩)
theorem AgK {Γ:Ctx} {al fl:Int} {Ar Fs:Rs} {mp:Mp} (H:Ck Γ al fl Ar Fs mp) (n:Nat):T2 124 Γ al fl Ar Fs mp n:=by
 induction n with
 |zero=>intro a t k o ty v ln D sub pl Z X s C A P R hT hA h;exact absurd h.2 (Nat.not_lt_zero _)
 |succ n ih=>
 intro a t k o ty v ln D sub pl Z X s C A P R hT hA h
 subst hA;have e2:=LW (k:=k) (o:=o) (ty:=ty) (v:=v) (s:=s) (a:=a);have J:ln=(a.length:Int):=by have:=h.1;rw [E.A7]at this;exact this
 rcases hT.inv with hv|hv|hv|hv|hv|hv|hv|hv
 ·obtain ⟨rfl,rfl,rfl,rfl,rfl,r1,r2,r3,r4,r5,r6⟩:=hv;simp only [lC,lN]at J;have e3:E.Ae []=0:=rfl
  refine .of (t:=Em) rfl ?_
  unfold Em
  obtain ⟨_,⟨aQ,a1,rfl,rfl,rfl⟩,G1⟩:=LD H @ih [] ln D sub pl Z X C (E.Ab []) P R (by exact .nil) rfl
  refine ch G1 ?_
  refine BY 0 0 ?_
  refine BI 1 1 ?_
  first|exact Aj ⟨[ty,0],[],[],[]⟩ (rfl) |(exfalso;omega)
 ·obtain ⟨rfl,rfl,rfl,rfl,rfl,rfl,r1,r2⟩:=hv;simp only [lC,lN]at J;have e3:E.Ae []=0:=rfl
  refine .of (t:=Em) rfl ?_
  unfold Em
  obtain ⟨_,⟨a2,a6,rfl,rfl,rfl⟩,G2⟩:=LD H @ih [] ln D sub pl Z X C (E.Ab []) P R (by exact .nil) rfl
  refine ch G2 ?_
  refine BY 0 0 ?_
  refine AQ 3 1 ?_
  refine BI 3 3 ?_
  first|exact Aj ⟨[1,0],[],[],[]⟩ (rfl) |(exfalso;omega)
 ·obtain ⟨rfl,rfl,rfl,rfl,rfl,hs,kk,ii,hk,r1,r2,hg⟩:=hv;simp only [lC,lN]at J;have e3:E.Ae []=0:=rfl
  refine .of (t:=Em) rfl ?_
  unfold Em
  obtain ⟨_,⟨a3,aU,rfl,rfl,rfl⟩,G3⟩:=LD H @ih [] ln D sub pl Z X C (E.Ab []) P R (by exact .nil) rfl
  refine ch G3 ?_
  refine BY 0 0 ?_
  refine AQ 2 1 ?_
  refine AQ 2 3 ?_
  refine AQ 2 4 ?_
  refine AQ 2 5 ?_
  refine AQ 2 6 ?_
  refine BI 2 2 ?_
  refine lh (H.look hg) ?_
  refine eq kk 2 (fun t4=>?_) fun t4=>?_
  ·first|exact Aj ⟨[t,0],[],[],[]⟩ (rfl) |(exfalso;omega)
  refine eq kk 3 (fun t5=>?_) fun t5=>?_
  ·first|exact Aj ⟨[t,0],[],[],[]⟩ (rfl) |(exfalso;omega)
  first|exact Aj ⟨[0,30],[],[],[]⟩ (rfl) |(exfalso;omega)
 ·obtain ⟨rfl,rfl,rfl,rfl,d,j,q,u,g,c,w,rfl,hu,h1⟩:=hv;simp only [lC,lN]at J;have e3:=n1 (x:=.node d j q u g c);have e4:=g1 (x:=.node d j q u g c);have hr:=hu.rng
  refine .of (t:=Em) rfl ?_
  unfold Em
  obtain ⟨_,⟨a9,aZ,rfl,rfl,rfl⟩,G6⟩:=LD H @ih [w] ln D sub pl Z X C (E.Ab [.node d j q u g c]) P R (by exact .cons h1 .nil) rfl
  refine ch G6 ?_
  refine BY 0 0 ?_
  refine AQ 4 1 ?_
  refine AQ 4 3 ?_
  refine BI 4 4 ?_
  refine BD 0 ([w].length:Int) ?_
  refine el (j':=0) rfl ?_
  obtain ⟨_,rfl,G7⟩:=AdV t o w hu
  refine ch G7 ?_
  first|exact Aj ⟨[t,0],[],[],[]⟩ (rfl) |(exfalso;omega)
 ·obtain ⟨rfl,rfl,rfl,rfl,d,j,q,u,g,c,O,M,N,Q,U,b2,w,rfl,hu,h1,h2⟩:=hv;simp only [lC,lN]at J;have e3:=n2 (x:=.node d j q u g c) (y:=.node O M N Q U b2);have e4:=g2 (x:=.node d j q u g c) (y:=.node O M N Q U b2);have hr:=hu.rng
  refine .of (t:=Em) rfl ?_
  unfold Em
  obtain ⟨_,⟨ba,aO,rfl,rfl,rfl⟩,G8⟩:=LD H @ih [w,w] ln D sub pl Z X C (E.Ab [.node d j q u g c,.node O M N Q U b2]) P R (by exact .cons h1 (.cons h2 .nil)) rfl
  refine ch G8 ?_
  refine BY 0 0 ?_
  refine AQ 5 1 ?_
  refine AQ 5 3 ?_
  refine AQ 5 4 ?_
  refine BI 5 5 ?_
  refine BD 0 ([w,w].length:Int) ?_
  refine el (j':=0) rfl ?_
  refine BD 1 ([w,w].length:Int) ?_
  refine el (j':=1) rfl ?_
  obtain ⟨_,rfl,G9⟩:=Abb t o w w hu rfl
  refine ch G9 ?_
  first|exact Aj ⟨[t,0],[],[],[]⟩ (rfl) |(exfalso;omega)
 ·obtain ⟨rfl,rfl,rfl,rfl,rfl,d,j,q,u,g,c,O,M,N,Q,U,b2,k3,o3,t3,v3,s3,b3,rfl,h1,h2,h3⟩:=hv;simp only [lC,lN]at J;have e3:=n3 (x:=.node d j q u g c) (y:=.node O M N Q U b2) (z:=.node k3 o3 t3 v3 s3 b3);have e4:=g3 (x:=.node d j q u g c) (y:=.node O M N Q U b2) (z:=.node k3 o3 t3 v3 s3 b3)
  refine .of (t:=Em) rfl ?_
  unfold Em
  obtain ⟨_,⟨aL,aM,rfl,rfl,rfl⟩,aD⟩:=LD H @ih [3,t,t] ln D sub pl Z X C (E.Ab [.node d j q u g c,.node O M N Q U b2,.node k3 o3 t3 v3 s3 b3]) P R (by exact .cons h1 (.cons h2 (.cons h3 .nil))) rfl
  refine ch aD ?_
  refine BY 0 0 ?_
  refine AQ 6 1 ?_
  refine AQ 6 3 ?_
  refine AQ 6 4 ?_
  refine AQ 6 5 ?_
  refine BI 6 6 ?_
  refine BD 0 ([3,t,t].length:Int) ?_
  refine el (j':=0) rfl ?_
  refine BY 3 3 ?_
  refine BD 1 ([3,t,t].length:Int) ?_
  refine el (j':=1) rfl ?_
  refine BD 2 ([3,t,t].length:Int) ?_
  refine el (j':=2) rfl ?_
  refine BY t t ?_
  first|exact Aj ⟨[t,0],[],[],[]⟩ (rfl) |(exfalso;omega)
 ·obtain ⟨rfl,rfl,rfl,rfl,hs,d,j,q,u,g,c,ii,rfl,r1,r2,hg,h1⟩:=hv;simp only [lC,lN]at J;have e3:=n1 (x:=.node d j q u g c);have e4:=g1 (x:=.node d j q u g c)
  refine .of (t:=Em) rfl ?_
  unfold Em
  obtain ⟨_,⟨aH,aK,rfl,rfl,rfl⟩,aA⟩:=LD H @ih [1] ln D sub pl Z X C (E.Ab [.node d j q u g c]) P R (by exact .cons h1 .nil) rfl
  refine ch aA ?_
  refine BY 0 0 ?_
  refine AQ 7 1 ?_
  refine AQ 7 3 ?_
  refine AQ 7 4 ?_
  refine AQ 7 5 ?_
  refine AQ 7 6 ?_
  refine AQ 7 2 ?_
  refine BI 7 7 ?_
  refine lh (H.look hg) ?_
  refine BI 0 0 ?_
  refine BD 0 ([1].length:Int) ?_
  refine el (j':=0) rfl ?_
  refine BY 1 1 ?_
  first|exact Aj ⟨[t,0],[],[],[]⟩ (rfl) |(exfalso;omega)
 ·obtain ⟨rfl,rfl,rfl,rfl,rfl,d,j,q,u,g,c,O,M,N,Q,U,b2,ii,rfl,rfl,hg,h1,h2⟩:=hv;simp only [lC,lN]at J;have e3:=n2 (x:=.node d j q u g c) (y:=.node O M N Q U b2);have e4:=g2 (x:=.node d j q u g c) (y:=.node O M N Q U b2);obtain ⟨bf,be,F_,kf,aE,yf,wf,sf,Af,ai⟩:=H.fn _ hg;have bg:(AH.length:Int)=2:=rfl
  refine .of (t:=Em) rfl ?_
  unfold Em
  obtain ⟨_,⟨aJ,aI,rfl,rfl,rfl⟩,aF⟩:=LD H @ih [1,1] ln D sub pl Z X C (E.Ab [.node d j q u g c,.node O M N Q U b2]) P R (by exact .cons h1 (.cons h2 .nil)) rfl
  refine ch aF ?_
  refine BY 0 0 ?_
  refine AQ 8 1 ?_
  refine AQ 8 3 ?_
  refine AQ 8 4 ?_
  refine AQ 8 5 ?_
  refine AQ 8 6 ?_
  refine AQ 8 2 ?_
  refine AQ 8 7 ?_
  refine BI 8 8 ?_
  refine lh (H.look hg) ?_
  refine BI 1 1 ?_
  refine CJ ii 0 ?_
  refine BD ii fl ?_
  refine el ai ?_
  obtain ⟨_,rfl,aC⟩:=Ajm H (AH.length:Int) 1 (F_.length:Int) kf aE yf wf (Af.length:Int) ([1,1].length:Int) D sub pl Z X [104] sf C AH F_ Af ([1,1].map Bh) P R rfl rfl
  refine ch aC ?_
  first|exact Aj ⟨[1,0],[],[],[]⟩ (rfl) |(exfalso;omega)
theorem Tn:AjY 124:=fun {Γ} {al} {fl} {Ar} {Fs} {mp} hC {a} t k o ty v ln grp sub pl bl lo s knm A P R hT hA h=>AgK hC ((E.node k o ty v s a).high+1) t k o ty v ln grp sub pl bl lo s knm A P R hT hA ⟨h,Nat.lt_succ_self _⟩
def AjX (N:Nat):Prop:=∀{Γ:Ctx} {g fl:Int} {j x:Rs} {c:Mp} (H:Ck Γ g fl j x c) {a:List E} (k o:Int) (ty v:Int) (u t:Int) (q sub:Int) (pl z C:Int) (s d:List Nat) (A P R:Rs) (D:T Γ t (.node k o ty v s a)) (J:A=E.Ab a) (h:u=A.length:=by exact kn),Ok trees N ⟨[k,o,ty,v,u,t,q,sub,g,pl,fl,z,C],[s,d],[A,j,P,x,R],[c]⟩ fun y=>(y=(0,(⟨[0],[],[],[]⟩:Ah)))
theorem Kb:AjX 125:=by
 intro Γ D fl H J C g a k o ty v j t d sub pl y q s c A P R u z h
 refine .of (t:=VV) rfl ?_
 unfold VV
 obtain ⟨_,rfl,x⟩:=Tn g t k o ty v j d sub pl y q s c A P R u z
 refine ch x ?_
 refine BI 0 0 ?_
 refine BY t t ?_
 exact Aj ⟨[0],[],[],[]⟩ (rfl)
end Go.Proofs.YtbmofjdmgjpfoaaGreatDoor.Am
end
section
set_option maxHeartbeats 4000000
set_option maxRecDepth 100000
namespace Go.Proofs.YtbmofjdmgjpfoaaGreatDoor.Am
open Go.AM Go.AM.K
def AbA (N:Nat):Prop:=∀{Γ:Ctx} {lp pu:Int} {Q:Ctx} {O z:List E} {J el:List S} (k o:Int) (t b:Int) (xk xo:Int) (C xw:Int) (Z yk:Int) (M A:Int) (U D:Int) (c g:Int) (ad sub:Int) (j pl:Int) (fl bl lo:Int) (nm H:List Nat) (yn aa:List Nat) (X Y:Rs) (v u:Rs) (q P:Rs) (x R:Rs) (y:Mp) (hC:Ck Γ j fl q x y) (hS:Dv lp pu Γ (.node k o t b nm (.node xk xo C xw H O) (.node yk M A U yn z) J el) Q) (hX:X=E.Ab O) (hY:Y=E.Ab z) (hB:v=S.Ab J) (hE:u=S.Ab el) (h:Z=X.length∧D=Y.length∧c=v.length∧g=u.length∧k=1:=by exact kn),Ok trees N ⟨[k,o,t,b,xk,xo,C,xw,Z,yk,M,A,U,D,c,g,ad,sub,j,pl,fl,bl,lo],[nm,H,yn,aa],[X,Y,v,u,q,P,x,R],[y]⟩ fun zz=>(∃(d:Mp),zz=(0,(⟨[0],[],[],[d]⟩:Ah))∧(Ck Q j fl q x d))
theorem Xq:AbA 117:=by
 intro Γ lp pu Γ1 z Z bo el k o t b H O v N C yk yo yt yw yl Q U g sub al pl fl M A nm x yn d X Y Bo El Ar P Fs R q c u j y hB J h
 subst j;subst y;subst hB;subst J;obtain ⟨_,_,_,_,_,hn,hg,r1,r2,hx,_,rfl⟩:=u.Ais om
 refine .of (t:=OE) rfl ?_
 unfold OE
 obtain ⟨_,rfl,D⟩:=Tn c t H O v N C g sub pl M A x d (E.Ab z) P R ‹_› rfl
 refine ch D ?_
 refine BY 0 0 ?_
 refine lm (c.Aip hg) ?_
 refine up [.int .i64 3,.int .i64 t,.int .i64 0] ?_
 refine BY t t ?_
 first|exact Aj ⟨[0],[],[],[(Bn q nm [.int .i64 3,.int .i64 t,.int .i64 0])]⟩ (⟨_,rfl,(c.I1 hg)⟩) |(exfalso;omega)
def Akc (N:Nat):Prop:=∀{Γ:Ctx} {lp pu:Int} {Γ1:Ctx} {J u:List E} {D el:List S} (k o:Int) (t b:Int) (Z xo:Int) (x xw:Int) (O yk:Int) (H v:Int) (M y:Int) (c d:Int) (aa sub:Int) (z pl:Int) (fl bl lo:Int) (nm A:List Nat) (U Q:List Nat) (X Y:Rs) (j g:Rs) (C P:Rs) (Fs R:Rs) (q:Mp) (hC:Ck Γ z fl C Fs q) (hS:Dv lp pu Γ (.node k o t b nm (.node Z xo x xw A J) (.node yk H v M U u) D el) Γ1) (hX:X=E.Ab J) (hY:Y=E.Ab u) (hB:j=S.Ab D) (hE:g=S.Ab el) (h:O=X.length∧y=Y.length∧c=j.length∧d=g.length∧k=2:=by exact kn),Ok trees N ⟨[k,o,t,b,Z,xo,x,xw,O,yk,H,v,M,y,c,d,aa,sub,z,pl,fl,bl,lo],[nm,A,U,Q],[X,Y,j,g,C,P,Fs,R],[q]⟩ fun zz=>(zz=(0,(⟨[0],[],[],[]⟩:Ah)))
theorem Aeb:Akc 118:=by
 intro Γ lp pu Γ1 z ya bo el k o t b H O v N C yk yo yt yw yl Q U g sub al pl fl M A nm x yn d X Y Bo El Ar P Fs R Z c q j y hB J h
 subst j;subst y;subst hB;subst J;obtain ⟨_,_,_,_,_,_,hn,rfl,u,i,hg,hx,_⟩:=q.Ait om
 refine .of (t:=VY) rfl ?_
 unfold VY
 refine lh (c.look hg) ?_
 refine BI 3 3 ?_
 obtain ⟨_,rfl,D⟩:=Kb c H O v N C u g sub pl M A x d (E.Ab z) P R ‹_› rfl
 refine ch D ?_
 first|exact Aj ⟨[0],[],[],[]⟩ (rfl) |(exfalso;omega)
def AjW (N:Nat):Prop:=∀{Γ:Ctx} {J g:List E} (u i:Int) (k o:Int) (t b:Int) (Z xo:Int) (v xw:Int) (Q yk:Int) (H j:Int) (O z:Int) (x ac:Int) (aa sub:Int) (A pl:Int) (fl bl lo:Int) (nm C:List Nat) (M U:List Nat) (X Y:Rs) (Bo El:Rs) (D P:Rs) (Fs R:Rs) (d:Mp) (hC:Ck Γ A fl D Fs d) (hg:Γ nm=some (0,u,i)) (hx:T Γ 1 (.node Z xo v xw C J)) (hy:T Γ u (.node yk H j O M g)) (hX:X=E.Ab J) (hY:Y=E.Ab g) (h:Q=X.length∧z=Y.length:=by exact kn),Ok trees N ⟨[k,o,t,b,Z,xo,v,xw,Q,yk,H,j,O,z,x,ac,aa,sub,A,pl,fl,bl,lo],[nm,C,M,U],[X,Y,Bo,El,D,P,Fs,R],[d]⟩ fun zz=>(∃(c y:Int),∃(q:List Nat),zz=(0,(⟨[c,u,y,0],[q],[],[]⟩:Ah))∧(i=0∨i=2→c≠3))
theorem AdX:AjW 126:=by
 intro Γ Z D u i k o t b xk xo J xw xl yk U H yw M ai ak g sub N pl fl A y nm O yn d X Y Bo El Ar P Fs R mp c hg hx hy C Q h
 subst C;subst Q;obtain ⟨aj,am,v,q,z,j,x⟩:=c.ar _ _ _ hg
 refine .of (t:=VU) rfl ?_
 unfold VU
 refine lh (c.look hg) ?_
 refine BI 0 0 ?_
 refine CJ i 0 ?_
 refine BD i N ?_
 refine el j ?_
 obtain ⟨_,rfl,G1⟩:=Kb c xk xo J xw xl 1 g sub pl A y O d (E.Ab Z) P R ‹_› rfl
 refine ch G1 ?_
 refine BI 0 0 ?_
 obtain ⟨_,rfl,G2⟩:=Kb c yk U H yw M u g sub pl A y yn d (E.Ab D) P R ‹_› rfl
 refine ch G2 ?_
 first|exact Aj ⟨[q,u,z,0],[v],[],[]⟩ (⟨_,_,_,rfl,x⟩) |(exfalso;omega)
def Akb (N:Nat):Prop:=∀{Γ:Ctx} {lp pu:Int} {Γ1:Ctx} {J u:List E} {D el:List S} (k o:Int) (t b:Int) (Z xo:Int) (x xw:Int) (O yk:Int) (H v:Int) (M y:Int) (c d:Int) (aa sub:Int) (z pl:Int) (fl bl lo:Int) (nm A:List Nat) (U Q:List Nat) (X Y:Rs) (j g:Rs) (C P:Rs) (Fs R:Rs) (q:Mp) (hC:Ck Γ z fl C Fs q) (hS:Dv lp pu Γ (.node k o t b nm (.node Z xo x xw A J) (.node yk H v M U u) D el) Γ1) (hX:X=E.Ab J) (hY:Y=E.Ab u) (hB:j=S.Ab D) (hE:g=S.Ab el) (h:O=X.length∧y=Y.length∧c=j.length∧d=g.length∧k=3:=by exact kn),Ok trees N ⟨[k,o,t,b,Z,xo,x,xw,O,yk,H,v,M,y,c,d,aa,sub,z,pl,fl,bl,lo],[nm,A,U,Q],[X,Y,j,g,C,P,Fs,R],[q]⟩ fun zz=>(zz=(0,(⟨[0],[],[],[]⟩:Ah)))
theorem Aea:Akb 121:=by
 intro Γ lp pu Γ1 xa x U el k o t b xk xo D xw xl yk Z y yw H c j g sub J pl fl bl lo nm M yn d X Y Bo El N P Fs R v O A q Q hB hE h
 subst q;subst Q;subst hB;subst hE;obtain ⟨_,_,_,_,_,ap,hn,rfl,u,i,_,_,hg,hx,hy,_,_⟩:=A.Afv om
 refine .of (t:=VX) rfl ?_
 unfold VX
 obtain ⟨_,⟨AgB,ac,C,rfl,z⟩,G1⟩:=AdX u i k o t b xk xo D xw xl yk Z y yw H c j g sub J pl fl bl lo nm M yn d (E.Ab xa) (E.Ab x) (S.Ab U) (S.Ab el) N P Fs R v O hg hx hy rfl rfl
 refine ch G1 ?_
 first|exact Aj ⟨[0],[],[],[]⟩ (rfl) |(exfalso;omega)
def Aka (N:Nat):Prop:=∀{Γ:Ctx} {lp pu:Int} {Γ1:Ctx} {J u:List E} {D el:List S} (k o:Int) (t b:Int) (Z xo:Int) (x xw:Int) (O yk:Int) (H v:Int) (M y:Int) (c d:Int) (aa sub:Int) (z pl:Int) (fl bl lo:Int) (nm A:List Nat) (U Q:List Nat) (X Y:Rs) (j g:Rs) (C P:Rs) (Fs R:Rs) (q:Mp) (hC:Ck Γ z fl C Fs q) (hS:Dv lp pu Γ (.node k o t b nm (.node Z xo x xw A J) (.node yk H v M U u) D el) Γ1) (hX:X=E.Ab J) (hY:Y=E.Ab u) (hB:j=S.Ab D) (hE:g=S.Ab el) (h:O=X.length∧y=Y.length∧c=j.length∧d=g.length∧k=4:=by exact kn),Ok trees N ⟨[k,o,t,b,Z,xo,x,xw,O,yk,H,v,M,y,c,d,aa,sub,z,pl,fl,bl,lo],[nm,A,U,Q],[X,Y,j,g,C,P,Fs,R],[q]⟩ fun zz=>(zz=(0,(⟨[0],[],[],[]⟩:Ah)))
theorem AdZ:Aka 122:=by
 intro Γ lp pu Γ1 xa v U el k o t b xk xo C xw xl yk Z x yw D c j g sub H pl fl bl lo nm J yn d X Y Bo El M P Fs R u N z q Q hB hE h
 subst q;subst Q;subst hB;subst hE;obtain ⟨_,_,_,_,aq,hn,rfl,i,hi,hg,ho,hx,hy,_,_⟩:=z.Aiv om
 refine .of (t:=VW) rfl ?_
 unfold VW
 obtain ⟨_,⟨AgB,ac,A,rfl,y⟩,G1⟩:=AdX 1 i k o t b xk xo C xw xl yk Z x yw D c j g sub H pl fl bl lo nm J yn d (E.Ab xa) (E.Ab v) (S.Ab U) (S.Ab el) M P Fs R u N hg hx hy rfl rfl
 refine ch G1 ?_
 refine BY 0 0 ?_
 obtain ⟨_,rfl,G2⟩:=Abb 1 o 1 1 (by unfold LQ;omega) rfl
 refine ch G2 ?_
 refine BY 0 0 ?_
 refine eq AgB 3 (fun O=>?_) fun O=>?_
 ·first|exact Aj ⟨[31],[],[],[]⟩ (rfl) |(exfalso;omega)
 first|exact Aj ⟨[0],[],[],[]⟩ (rfl) |(exfalso;omega)
def AjZ (N:Nat):Prop:=∀{Γ:Ctx} {lp pu:Int} {Γ1:Ctx} {J u:List E} {D el:List S} (k o:Int) (t b:Int) (Z xo:Int) (x xw:Int) (O yk:Int) (H v:Int) (M y:Int) (c d:Int) (aa sub:Int) (z pl:Int) (fl bl lo:Int) (nm A:List Nat) (U Q:List Nat) (X Y:Rs) (j g:Rs) (C P:Rs) (Fs R:Rs) (q:Mp) (hC:Ck Γ z fl C Fs q) (hS:Dv lp pu Γ (.node k o t b nm (.node Z xo x xw A J) (.node yk H v M U u) D el) Γ1) (hX:X=E.Ab J) (hY:Y=E.Ab u) (hB:j=S.Ab D) (hE:g=S.Ab el) (h:O=X.length∧y=Y.length∧c=j.length∧d=g.length∧k=12:=by exact kn),Ok trees N ⟨[k,o,t,b,Z,xo,x,xw,O,yk,H,v,M,y,c,d,aa,sub,z,pl,fl,bl,lo],[nm,A,U,Q],[X,Y,j,g,C,P,Fs,R],[q]⟩ fun zz=>(zz=(0,(⟨[0],[],[],[]⟩:Ah)))
theorem AdY:AjZ 123:=by
 intro Γ lp pu Γ1 z ya bo el k o t b xk M N J Z yk yo yt yw yl aE aF g sub al pl fl q j nm U yn c X Y Bo El Ar P Fs R mp d hS hX hY hB hE h
 subst hX;subst hY;subst hB;subst hE;
 rcases hS.Als om with hv|hv
 ·obtain ⟨_,_,_,_,_,O,hn,rfl,u,w,i,hg,r1,r2,ho,hx,_⟩:=hv
  refine .of (t:=OC) rfl ?_
  unfold OC
  refine lh (d.look hg) ?_
  refine BI 3 3 ?_
  obtain ⟨_,rfl,G1⟩:=Tn d w xk M N J Z g sub pl q j U c (E.Ab z) P R ‹_› rfl
  refine ch G1 ?_
  refine BI 0 0 ?_
  refine AQ o 4 ?_
  refine BY 0 0 ?_
  refine eq o 1 (fun t2=>?_) fun t2=>?_
  ·refine eq w 3 (fun t3=>?_) fun t3=>?_
   ·refine eq u 1 (fun t4=>?_) fun t4=>?_
    ·first|exact Aj ⟨[0],[],[],[]⟩ (rfl) |(exfalso;omega)
    first|exact Aj ⟨[31],[],[],[]⟩ (rfl) |(exfalso;omega)
   first|exact Aj ⟨[31],[],[],[]⟩ (rfl) |(exfalso;omega)
  refine eq o 2 (fun t5=>?_) fun t5=>?_
  ·refine eq w u (fun t6=>?_) fun t6=>?_
   ·refine eq w 3 (fun t7=>?_) fun t7=>?_
    ·first|exact Aj ⟨[0],[],[],[]⟩ (rfl) |(exfalso;omega)
    first|exact Aj ⟨[31],[],[],[]⟩ (rfl) |(exfalso;omega)
   first|exact Aj ⟨[31],[],[],[]⟩ (rfl) |(exfalso;omega)
  refine eq o 3 (fun t8=>?_) fun t8=>?_
  ·refine eq w u (fun t9=>?_) fun t9=>?_
   ·refine eq w 3 (fun D=>?_) fun D=>?_
    ·first|exact Aj ⟨[0],[],[],[]⟩ (rfl) |(exfalso;omega)
    first|exact Aj ⟨[31],[],[],[]⟩ (rfl) |(exfalso;omega)
   first|exact Aj ⟨[31],[],[],[]⟩ (rfl) |(exfalso;omega)
  refine eq o 5 (fun C=>?_) fun C=>?_
  ·refine eq w u (fun H=>?_) fun H=>?_
   ·refine ne w 3 (fun y=>?_) fun y=>?_
    ·first|exact Aj ⟨[0],[],[],[]⟩ (rfl) |(exfalso;omega)
    first|exact Aj ⟨[31],[],[],[]⟩ (rfl) |(exfalso;omega)
   first|exact Aj ⟨[31],[],[],[]⟩ (rfl) |(exfalso;omega)
  refine eq o 6 (fun x=>?_) fun x=>?_
  ·refine eq w u (fun ac=>?_) fun ac=>?_
   ·refine ne w 3 (fun ab=>?_) fun ab=>?_
    ·first|exact Aj ⟨[0],[],[],[]⟩ (rfl) |(exfalso;omega)
    first|exact Aj ⟨[31],[],[],[]⟩ (rfl) |(exfalso;omega)
   first|exact Aj ⟨[31],[],[],[]⟩ (rfl) |(exfalso;omega)
  refine eq w u (fun Q=>?_) fun Q=>?_
  ·first|exact Aj ⟨[0],[],[],[]⟩ (rfl) |(exfalso;omega)
  first|exact Aj ⟨[31],[],[],[]⟩ (rfl) |(exfalso;omega)
 ·obtain ⟨rfl,_,_,_,_,O,hn,rfl,u,i,hg,r1,r2,hx,hy,_,_⟩:=hv
  refine .of (t:=OC) rfl ?_
  unfold OC
  refine lh (d.look hg) ?_
  refine BI 3 3 ?_
  obtain ⟨_,rfl,v⟩:=Tn d u xk M N J Z g sub pl q j U c (E.Ab z) P R hx rfl
  refine ch v ?_
  refine BI 0 0 ?_
  refine BI 4 4 ?_
  obtain ⟨_,rfl,A⟩:=Kb d yk yo yt yw yl 1 g sub pl q j yn c (E.Ab ya) P R hy rfl
  refine ch A ?_
  refine BY 0 0 ?_
  refine AQ 4 1 ?_
  refine AQ 4 2 ?_
  refine AQ 4 3 ?_
  refine AQ 4 5 ?_
  refine AQ 4 6 ?_
  refine BI u u ?_
  first|exact Aj ⟨[0],[],[],[]⟩ (rfl) |(exfalso;omega)
def EK (N n:Nat):Prop:=∀{Γ:Ctx} {k z:Int} {A:Ctx} {l:List S} (g v:Int) (sub q:Int) (pl fl:Int) (C c:Int) (o:List Nat) (L u:Rs) (P x R:Rs) (j:Mp) (J:Ck Γ q fl u x j) (H:C8 k z Γ l A) (D:L=S.Ab l) (h:g=L.length∧g≤200000∧(k=0∨1≤c)∧0≤c∧c+S.Ax l≤1000∧S.Ae l≤200000∧S.Ax l<n),Ok trees N ⟨[g,v,sub,q,pl,fl,C,c],[o],[L,u,P,x,R],[j]⟩ fun y=>(∃(d:Int),y=(0,(⟨[0,d],[],[],[]⟩:Ah))∧(c=d))
def X3 (N:Nat):Prop:=∀{Γ:Ctx} {k z:Int} {A:Ctx} {l:List S} (g v:Int) (sub q:Int) (pl fl:Int) (C c:Int) (o:List Nat) (L u:Rs) (P x R:Rs) (j:Mp) (J:Ck Γ q fl u x j) (H:C8 k z Γ l A) (D:L=S.Ab l) (h:g=L.length∧g≤200000∧(k=0∨1≤c)∧0≤c∧c+S.Ax l≤1000∧S.Ae l≤200000:=by exact kn),Ok trees N ⟨[g,v,sub,q,pl,fl,C,c],[o],[L,u,P,x,R],[j]⟩ fun y=>(∃(d:Int),y=(0,(⟨[0,d],[],[],[]⟩:Ah))∧(c=d))
theorem EK.of {N n:Nat} (H:X3 N):EK N n:=fun {Γ} {lp} {pu} {Γe} {l} ln grp sub al pl fl bl lo knm L Ar P Fs R mp hC hO hLs h=>H ln grp sub al pl fl bl lo knm L Ar P Fs R mp hC hO hLs (by have:=h;omega)
def Ab9 (v N:Nat):Prop:=∀{m:Nat} (ai:EK v m) {Γ:Ctx} {C pu:Int} {Γ1:Ctx} {U z:List E} {d el:List S} (k o:Int) (t b:Int) (xk xo:Int) (D xw:Int) (xl yk:Int) (Q A:Int) (Z H:Int) (c j:Int) (ae sub:Int) (J pl:Int) (fl bl g:Int) (nm M:List Nat) (yn ab:List Nat) (X Y:Rs) (x u:Rs) (O P:Rs) (Fs R:Rs) (y:Mp) (hC:Ck Γ J fl O Fs y) (hS:Dv C pu Γ (.node k o t b nm (.node xk xo D xw M U) (.node yk Q A Z yn z) d el) Γ1) (hX:X=E.Ab U) (hY:Y=E.Ab z) (hB:x=S.Ab d) (hE:u=S.Ab el) (h:xl=X.length∧H=Y.length∧c=x.length∧j=u.length∧(C=0∨1≤g)∧0≤g∧g+max (S.Ax d) (S.Ax el)≤1000∧S.Ae d≤200000∧S.Ae el≤200000∧S.Ax d<m∧S.Ax el<m∧c≤200000∧j≤200000∧k=5:=by exact kn),Ok trees N ⟨[k,o,t,b,xk,xo,D,xw,xl,yk,Q,A,Z,H,c,j,ae,sub,J,pl,fl,bl,g],[nm,M,yn,ab],[X,Y,x,u,O,P,Fs,R],[y]⟩ fun zz=>(∃(q:Int),zz=(0,(⟨[0,q],[],[],[]⟩:Ah))∧(g=q))
theorem Xp:Ab9 113 119:=by
 intro m c Γ lp pu Γ1 Q ya O el k o t b xk xo J xw Z yk yo yt yw yl x A g sub y pl fl u j nm M yn d X Y Bo El z P C R v q H D N hB hE h
 subst D;subst N;subst hB;subst hE;obtain ⟨_,_,_,_,_,hx,_,rfl,Γa,Γb,ai,aj⟩:=H.kif om
 refine .of (t:=Lb) rfl ?_
 unfold Lb
 obtain ⟨_,rfl,G1⟩:=Kb q xk xo J xw Z 3 g sub pl u j M d (E.Ab Q) P R ‹_› rfl
 refine ch G1 ?_
 refine BI 0 0 ?_
 obtain ⟨_,⟨af,rfl,rfl⟩,U⟩:=c x g sub y pl fl u j d (S.Ab O) z P C R v q ‹_› rfl kn
 refine ch U ?_
 refine BI 0 0 ?_
 obtain ⟨_,⟨ab,rfl,rfl⟩,G3⟩:=c A g sub y pl fl u j d (S.Ab el) z P C R v q ‹_› rfl kn
 refine ch G3 ?_
 first|exact Aj ⟨[0,j],[],[],[]⟩ (⟨_,rfl,kn⟩) |(exfalso;omega)
def Ab8 (v N:Nat):Prop:=∀{m:Nat} (ai:EK v m) {Γ:Ctx} {C pu:Int} {Γ1:Ctx} {U z:List E} {c el:List S} (k o:Int) (t b:Int) (xk xo:Int) (D xw:Int) (xl yk:Int) (Q A:Int) (Z H:Int) (d q:Int) (ae sub:Int) (J pl:Int) (fl bl g:Int) (nm M:List Nat) (yn ab:List Nat) (X Y:Rs) (x u:Rs) (O P:Rs) (Fs R:Rs) (y:Mp) (hC:Ck Γ J fl O Fs y) (hS:Dv C pu Γ (.node k o t b nm (.node xk xo D xw M U) (.node yk Q A Z yn z) c el) Γ1) (hX:X=E.Ab U) (hY:Y=E.Ab z) (hB:x=S.Ab c) (hE:u=S.Ab el) (h:xl=X.length∧H=Y.length∧d=x.length∧q=u.length∧(C=0∨1≤g)∧0≤g∧g+1+S.Ax c≤1000∧S.Ax c<m∧d≤200000∧S.Ae c≤200000∧S.Ae c≤200000∧k=6:=by exact kn),Ok trees N ⟨[k,o,t,b,xk,xo,D,xw,xl,yk,Q,A,Z,H,d,q,ae,sub,J,pl,fl,bl,g],[nm,M,yn,ab],[X,Y,x,u,O,P,Fs,R],[y]⟩ fun zz=>(∃(j:Int),zz=(0,(⟨[0,j],[],[],[]⟩:Ah))∧(g=j))
theorem Xo:Ab8 113 120:=by
 intro m d Γ lp pu Γ1 U ya Q el k o t b xk xo C xw Z yk yo yt yw yl q ai j sub D pl fl v c nm H yn g X Y Bo El J P Fs R y u A x N hB hE h
 subst x;subst N;subst hB;subst hE;obtain ⟨_,_,_,_,_,hx,_,b1,b2,rfl,Γa,ah⟩:=A.Air om
 refine .of (t:=OD) rfl ?_
 unfold OD
 obtain ⟨_,rfl,G1⟩:=Kb u xk xo C xw Z 3 j sub pl v c H g (E.Ab U) P R ‹_› rfl
 refine ch G1 ?_
 refine BY 0 0 ?_
 refine lt b 1 (fun t2=>?_) fun t2=>?_
 ·first|exact Aj ⟨[1,c],[],[],[]⟩ (⟨_,rfl,kn⟩) |(exfalso;omega)
 refine gt b 1024 (fun M=>?_) fun M=>?_
 ·first|exact Aj ⟨[1,c],[],[],[]⟩ (⟨_,rfl,kn⟩) |(exfalso;omega)
 obtain ⟨_,⟨z,rfl,rfl⟩,O⟩:=d q j sub D pl fl v (c+1) g (S.Ab Q) J P Fs R y u ‹_› rfl kn
 refine ch O ?_
 first|exact Aj ⟨[0,((c+1)-1)],[],[],[]⟩ (⟨_,rfl,kn⟩) |(exfalso;omega)
def AbF (D N:Nat) (m n:Nat):Prop:=∀{Γ:Ctx} {x H:Int} {z:Ctx} {l:List S} (d len:Int) (j A:Int) (sub o:Int) (pl fl:Int) (J c:Int) (y:List Nat) (L q:Rs) (P u R:Rs) (v:Mp) (Q:Ck Γ o fl q u v) (O:C8 x H Γ (l.drop j.toNat) z) (M:L=S.Ab l) (h:d=L.length∧d≤200000∧len=d∧0≤j∧(x=0∨1≤c)∧0≤c∧c+S.Ax (l.drop j.toNat)≤1000∧S.Ax (l.drop j.toNat)≤m∧S.Ae (l.drop j.toNat)≤200000∧(len-j).toNat<n),Ok trees N ⟨[d,len,j,A,sub,o,pl,fl,J,c],[y],[L,q,P,u,R],[v]⟩ fun C=>(∃(k:Int),∃(g:Mp),C=(1,(⟨[k],[],[],[g]⟩:Ah))∧(Ck z o fl q u g)∧(c=k))
def AbB (o N:Nat):Prop:=∀{m:Nat} (D:EK o m) {Γ:Ctx} {y J:Int} {A:Ctx} {l:List S} (d len:Int) (j C:Int) (sub q:Int) (pl fl:Int) (M c:Int) (z:List Nat) (L u:Rs) (P v R:Rs) (x:Mp) (U:Ck Γ q fl u v x) (Q:C8 y J Γ (l.drop j.toNat) A) (O:L=S.Ab l) (h:d=L.length∧d≤200000∧len=d∧0≤j∧(y=0∨1≤c)∧0≤c∧c+S.Ax (l.drop j.toNat)≤1000∧S.Ax (l.drop j.toNat)≤m∧S.Ae (l.drop j.toNat)≤200000:=by exact kn),Ok trees N ⟨[d,len,j,C,sub,q,pl,fl,M,c],[z],[L,u,P,v,R],[x]⟩ fun H=>(∃(k:Int),∃(g:Mp),H=(1,(⟨[k],[],[],[g]⟩:Ah))∧(Ck A q fl u v g)∧(c=k))
theorem Aaa {m:Nat} (ah:EK 113 m) (n:Nat):AbF 113 116 m n:=by
 induction n with
 |zero=>intro Γ lp pu Γe l ln len j x sub J pl fl D k v L C P H R A u z az h;exact absurd h.2.2.2.2.2.2.2.2.2 (Nat.not_lt_zero _)
 |succ n ih=>
 intro Γ lp pu Γe l ln len j x sub J pl fl D k v L C P H R A u z az h
 subst az
 refine .of (t:=GS) rfl ?_
 unfold GS
 refine lt j len (fun t1=>?_) fun t1=>?_
 ·refine CJ j 0 ?_
  refine BD j ln ?_
  obtain ⟨y,ag,t_1,af,ab,aa,O,ad,U,X,q,N,Z,ac,Q,M,o,d,g,bC,aE,c,bm,bq,bp⟩:=C8.get j z om om
  refine el aE ?_
  have br:=c.Aas;have a2:=S.len d;have a3:=S.len g;have bh:=S.A7 d;have bb:=S.A7 g
  refine eq y 1 (fun t3=>?_) fun t3=>?_
  ·obtain ⟨_,⟨aD,rfl,aG⟩,G4⟩:=Xq y ag t_1 af aa O ad U ((E.Ab q).length:Int) N Z ac Q ((E.Ab o).length:Int) ((S.Ab d).length:Int) ((S.Ab g).length:Int) x sub J pl fl D k ab X M v (E.Ab q) (E.Ab o) (S.Ab d) (S.Ab g) C P H R A u c rfl rfl rfl rfl
   refine ch G4 ?_
   refine BY 0 0 ?_
   obtain ⟨_,⟨bB,aH,rfl,bG,rfl⟩,G5⟩:=ih ln len (j+1) x sub J pl fl D k v (S.Ab l) C P H R aD aG ‹_› rfl kn
   refine cm G5 ?_
   refine ch G5 ?_
   exact Aj ⟨[k],[],[],[aH]⟩ (⟨_,_,rfl,(by first|assumption|(obtain ⟨_,_,e⟩:=Bv (l:=l) (j:=j) om;rw [e]at z;cases z;exact u)),kn⟩)
  refine eq y 2 (fun t6=>?_) fun t6=>?_
  ·obtain ⟨_,rfl,G7⟩:=Aeb y ag t_1 af aa O ad U ((E.Ab q).length:Int) N Z ac Q ((E.Ab o).length:Int) ((S.Ab d).length:Int) ((S.Ab g).length:Int) x sub J pl fl D k ab X M v (E.Ab q) (E.Ab o) (S.Ab d) (S.Ab g) C P H R A u c rfl rfl rfl rfl
   refine ch G7 ?_
   refine BY 0 0 ?_
   obtain ⟨_,⟨bF,aF,rfl,bA,rfl⟩,G8⟩:=ih ln len (j+1) x sub J pl fl D k v (S.Ab l) C P H R A (u.keep c om) ‹_› rfl kn
   refine cm G8 ?_
   refine ch G8 ?_
   exact Aj ⟨[k],[],[],[aF]⟩ (⟨_,_,rfl,(by first|assumption|(obtain ⟨_,_,e⟩:=Bv (l:=l) (j:=j) om;rw [e]at z;cases z;exact u)),kn⟩)
  refine eq y 5 (fun t9=>?_) fun t9=>?_
  ·obtain ⟨_,⟨a9,rfl,rfl⟩,aU⟩:=Xp @ah y ag t_1 af aa O ad U ((E.Ab q).length:Int) N Z ac Q ((E.Ab o).length:Int) ((S.Ab d).length:Int) ((S.Ab g).length:Int) x sub J pl fl D k ab X M v (E.Ab q) (E.Ab o) (S.Ab d) (S.Ab g) C P H R A u c rfl rfl rfl rfl
   refine ch aU ?_
   refine BY 0 0 ?_
   obtain ⟨_,⟨a5,an,rfl,a0,rfl⟩,aA⟩:=ih ln len (j+1) x sub J pl fl D k v (S.Ab l) C P H R A (u.keep c om) ‹_› rfl kn
   refine cm aA ?_
   refine ch aA ?_
   exact Aj ⟨[k],[],[],[an]⟩ (⟨_,_,rfl,(by first|assumption|(obtain ⟨_,_,e⟩:=Bv (l:=l) (j:=j) om;rw [e]at z;cases z;exact u)),kn⟩)
  refine eq y 6 (fun aO=>?_) fun aO=>?_
  ·obtain ⟨_,⟨bf,rfl,rfl⟩,aQ⟩:=Xo @ah y ag t_1 af aa O ad U ((E.Ab q).length:Int) N Z ac Q ((E.Ab o).length:Int) ((S.Ab d).length:Int) ((S.Ab g).length:Int) x sub J pl fl D k ab X M v (E.Ab q) (E.Ab o) (S.Ab d) (S.Ab g) C P H R A u c rfl rfl rfl rfl
   refine ch aQ ?_
   refine BY 0 0 ?_
   obtain ⟨_,⟨bd,am,rfl,bj,rfl⟩,ax⟩:=ih ln len (j+1) x sub J pl fl D k v (S.Ab l) C P H R A (u.keep c om) ‹_› rfl kn
   refine cm ax ?_
   refine ch ax ?_
   exact Aj ⟨[k],[],[],[am]⟩ (⟨_,_,rfl,(by first|assumption|(obtain ⟨_,_,e⟩:=Bv (l:=l) (j:=j) om;rw [e]at z;cases z;exact u)),kn⟩)
  refine eq y 7 (fun aW=>?_) fun aW=>?_
  ·refine eq k 0 (fun aV=>?_) fun aV=>?_
   ·exact dead
   obtain ⟨_,⟨ba,ap,rfl,aZ,rfl⟩,au⟩:=ih ln len (j+1) x sub J pl fl D k v (S.Ab l) C P H R A (u.keep c om) ‹_› rfl kn
   refine cm au ?_
   refine ch au ?_
   exact Aj ⟨[k],[],[],[ap]⟩ (⟨_,_,rfl,(by first|assumption|(obtain ⟨_,_,e⟩:=Bv (l:=l) (j:=j) om;rw [e]at z;cases z;exact u)),kn⟩)
  refine eq y 8 (fun aK=>?_) fun aK=>?_
  ·refine eq k 0 (fun aL=>?_) fun aL=>?_
   ·exact dead
   obtain ⟨_,⟨bk,ao,rfl,bc,rfl⟩,aw⟩:=ih ln len (j+1) x sub J pl fl D k v (S.Ab l) C P H R A (u.keep c om) ‹_› rfl kn
   refine cm aw ?_
   refine ch aw ?_
   exact Aj ⟨[k],[],[],[ao]⟩ (⟨_,_,rfl,(by first|assumption|(obtain ⟨_,_,e⟩:=Bv (l:=l) (j:=j) om;rw [e]at z;cases z;exact u)),kn⟩)
  refine eq y 3 (fun aN=>?_) fun aN=>?_
  ·obtain ⟨_,rfl,aM⟩:=Aea y ag t_1 af aa O ad U ((E.Ab q).length:Int) N Z ac Q ((E.Ab o).length:Int) ((S.Ab d).length:Int) ((S.Ab g).length:Int) x sub J pl fl D k ab X M v (E.Ab q) (E.Ab o) (S.Ab d) (S.Ab g) C P H R A u c rfl rfl rfl rfl
   refine ch aM ?_
   refine BY 0 0 ?_
   obtain ⟨_,⟨be,ai,rfl,a7,rfl⟩,aB⟩:=ih ln len (j+1) x sub J pl fl D k v (S.Ab l) C P H R A (u.keep c om) ‹_› rfl kn
   refine cm aB ?_
   refine ch aB ?_
   exact Aj ⟨[k],[],[],[ai]⟩ (⟨_,_,rfl,(by first|assumption|(obtain ⟨_,_,e⟩:=Bv (l:=l) (j:=j) om;rw [e]at z;cases z;exact u)),kn⟩)
  refine eq y 4 (fun aI=>?_) fun aI=>?_
  ·obtain ⟨_,rfl,aR⟩:=AdZ y ag t_1 af aa O ad U ((E.Ab q).length:Int) N Z ac Q ((E.Ab o).length:Int) ((S.Ab d).length:Int) ((S.Ab g).length:Int) x sub J pl fl D k ab X M v (E.Ab q) (E.Ab o) (S.Ab d) (S.Ab g) C P H R A u c rfl rfl rfl rfl
   refine ch aR ?_
   refine BY 0 0 ?_
   obtain ⟨_,⟨a1,ak,rfl,a6,rfl⟩,ay⟩:=ih ln len (j+1) x sub J pl fl D k v (S.Ab l) C P H R A (u.keep c om) ‹_› rfl kn
   refine cm ay ?_
   refine ch ay ?_
   exact Aj ⟨[k],[],[],[ak]⟩ (⟨_,_,rfl,(by first|assumption|(obtain ⟨_,_,e⟩:=Bv (l:=l) (j:=j) om;rw [e]at z;cases z;exact u)),kn⟩)
  refine eq y 12 (fun aP=>?_) fun aP=>?_
  ·obtain ⟨_,rfl,aJ⟩:=AdY y ag t_1 af aa O ad U ((E.Ab q).length:Int) N Z ac Q ((E.Ab o).length:Int) ((S.Ab d).length:Int) ((S.Ab g).length:Int) x sub J pl fl D k ab X M v (E.Ab q) (E.Ab o) (S.Ab d) (S.Ab g) C P H R A u c rfl rfl rfl rfl
   refine ch aJ ?_
   refine BY 0 0 ?_
   obtain ⟨_,⟨a8,aj,rfl,bi,rfl⟩,aC⟩:=ih ln len (j+1) x sub J pl fl D k v (S.Ab l) C P H R A (u.keep c om) ‹_› rfl kn
   refine cm aC ?_
   refine ch aC ?_
   exact Aj ⟨[k],[],[],[aj]⟩ (⟨_,_,rfl,(by first|assumption|(obtain ⟨_,_,e⟩:=Bv (l:=l) (j:=j) om;rw [e]at z;cases z;exact u)),kn⟩)
  obtain ⟨_,⟨bg,aq,rfl,a4,rfl⟩,av⟩:=ih ln len (j+1) x sub J pl fl D k v (S.Ab l) C P H R A (u.keep c om) ‹_› rfl kn
  refine cm av ?_
  refine ch av ?_
  exact Aj ⟨[k],[],[],[aq]⟩ (⟨_,_,rfl,(by first|assumption|(obtain ⟨_,_,e⟩:=Bv (l:=l) (j:=j) om;rw [e]at z;cases z;exact u)),kn⟩)
 exact Aj ⟨[k],[],[],[A]⟩ (⟨_,_,rfl,(by first|assumption|(obtain ⟨_,_,e⟩:=Bv (l:=l) (j:=j) om;rw [e]at z;cases z;exact u)),kn⟩)
theorem Abc:AbB 113 116:=fun {m} hC113 {Γ} {lp} {pu} {Γe} {l} ln len j grp sub al pl fl bl lo knm L Ar P Fs R mp hC hO hLs h=>Aaa @hC113 ((len-j).toNat+1) ln len j grp sub al pl fl bl lo knm L Ar P Fs R mp hC hO hLs ⟨h.1,h.2.1,h.2.2.1,h.2.2.2.1,h.2.2.2.2.1,h.2.2.2.2.2.1,h.2.2.2.2.2.2.1,h.2.2.2.2.2.2.2.1,h.2.2.2.2.2.2.2.2,Nat.lt_succ_self _⟩
def AbC (j N:Nat):Prop:=∀{m:Nat} (C:EK j m) {Γ:Ctx} {x H:Int} {z:Ctx} {l:List S} (q A:Int) (sub k:Int) (pl fl:Int) (J c:Int) (y:List Nat) (L o:Rs) (P u R:Rs) (v:Mp) (Q:Ck Γ k fl o u v) (O:C8 x H Γ l z) (M:L=S.Ab l) (h:q=L.length∧q≤200000∧(x=0∨1≤c)∧0≤c∧c+S.Ax l≤1000∧S.Ae l≤200000∧S.Ax l≤m:=by exact kn),Ok trees N ⟨[q,A,sub,k,pl,fl,J,c],[y],[L,o,P,u,R],[v]⟩ fun D=>(∃(g:Int),∃(d:Mp),D=(0,(⟨[0,g],[],[],[d]⟩:Ah))∧(Ck z k fl o u d)∧(c=g))
theorem Abd:AbC 113 115:=by
 intro m c Γ N O Q l g q sub z pl fl D j k L A P J R v C x u h
 subst u;have U:S.Ax (l.drop (0:Int).toNat)=S.Ax l:=rfl;have M:S.Ae (l.drop (0:Int).toNat)=S.Ae l:=rfl
 refine .of (t:=OF) rfl ?_
 unfold OF
 obtain ⟨_,⟨H,d,rfl,y,rfl⟩,o⟩:=Abc @c g g 0 q sub z pl fl D j k (S.Ab l) A P J R v C x rfl
 refine cm o ?_
 refine ch o ?_
 exact Aj ⟨[0,j],[],[],[d]⟩ (⟨_,_,rfl,‹_›,kn⟩)
theorem Aab (n:Nat):EK 113 n:=by
 induction n with
 |zero=>intro Γ C H D l x d sub q pl fl y j c L u P z R k v o g h;exact absurd h.2.2.2.2.2.2 (Nat.not_lt_zero _)
 |succ n ih=>
 intro Γ C H D l x d sub q pl fl y j c L u P z R k v o g h
 refine .of (t:=OG) rfl ?_
 unfold OG
 obtain ⟨_,⟨N,J,rfl,A,rfl⟩,M⟩:=Abd @ih x d sub q pl fl y j c L u P z R k v o g
 refine ch M ?_
 exact Aj ⟨[0,j],[],[],[]⟩ (⟨_,rfl,kn⟩)
theorem P9:X3 113:=fun {Γ} {lp} {pu} {Γe} {l} ln grp sub al pl fl bl lo knm L Ar P Fs R mp hC hO hLs h=>Aab (S.Ax l+1) ln grp sub al pl fl bl lo knm L Ar P Fs R mp hC hO hLs ⟨h.1,h.2.1,h.2.2.1,h.2.2.2.1,h.2.2.2.2.1,h.2.2.2.2.2,Nat.lt_succ_self _⟩
end Go.Proofs.YtbmofjdmgjpfoaaGreatDoor.Am
end
section
set_option maxHeartbeats 4000000
set_option maxRecDepth 100000
namespace Go.Proofs.YtbmofjdmgjpfoaaGreatDoor.Am
open Go.AM Go.AM.K
namespace V
def AbA (N:Nat):Prop:=∀{Γ:Ctx} {v:List E} {z1 U z3:Int} (k o:Int) (t b:Int) (z J:Int) (d C:Int) (x yk:Int) (yo M:Int) (yw Q:Int) (g D:Int) (A sub:Int) (j pl:Int) (fl bl lo:Int) (nm q:List Nat) (yn y:List Nat) (X Y:Rs) (Bo Z:Rs) (u P:Rs) (H R:Rs) (c:Mp) (hC:Ck Γ j fl u H c) (hx:T Γ t (.node z J d C q v)) (hX:X=E.Ab v) (hg:Γ nm=some (z1,U,z3)) (h:x=X.length∧k=1:=by exact kn),Ok trees N ⟨[k,o,t,b,z,J,d,C,x,yk,yo,M,yw,Q,g,D,A,sub,j,pl,fl,bl,lo],[nm,q,yn,y],[X,Y,Bo,Z,u,P,H,R],[c]⟩ fun O=>(O=(0,(⟨[30],[],[],[c]⟩:Ah)))
theorem Xq:AbA 117:=by
 intro Γ x z1 Z z3 k o t b C J u H z yk yo O yw Q M N g sub U pl fl D y nm v yn d X Y Bo El Ar P Fs R q c hx j hg h
 subst j
 refine .of (t:=OE) rfl ?_
 unfold OE
 obtain ⟨_,rfl,A⟩:=Am.Tn c t C J u H z g sub pl D y v d (E.Ab x) P R ‹_› rfl
 refine ch A ?_
 refine BY 0 0 ?_
 refine lh (c.look hg) ?_
 first|exact Aj ⟨[30],[],[],[q]⟩ (rfl) |(exfalso;omega)
def EK (N n:Nat):Prop:=∀{Γ:Ctx} {k z:Int} {l:List S} (g v:Int) (sub q:Int) (pl fl:Int) (A c:Int) (o:List Nat) (L u:Rs) (P x R:Rs) (j:Mp) (H:Ck Γ q fl u x j) (D:DF k z Γ l) (C:L=S.Ab l) (h:g=L.length∧g≤200000∧(k=0∨1≤c)∧0≤c∧c+S.Ax l≤900∧S.Ae l≤200000∧S.Ax l<n),Ok trees N ⟨[g,v,sub,q,pl,fl,A,c],[o],[L,u,P,x,R],[j]⟩ fun y=>(∃(d:Int),y=(0,(⟨[30,d],[],[],[]⟩:Ah))∧(c=d))
def X3 (N:Nat):Prop:=∀{Γ:Ctx} {k z:Int} {l:List S} (g v:Int) (sub q:Int) (pl fl:Int) (A c:Int) (o:List Nat) (L u:Rs) (P x R:Rs) (j:Mp) (H:Ck Γ q fl u x j) (D:DF k z Γ l) (C:L=S.Ab l) (h:g=L.length∧g≤200000∧(k=0∨1≤c)∧0≤c∧c+S.Ax l≤900∧S.Ae l≤200000:=by exact kn),Ok trees N ⟨[g,v,sub,q,pl,fl,A,c],[o],[L,u,P,x,R],[j]⟩ fun y=>(∃(d:Int),y=(0,(⟨[30,d],[],[],[]⟩:Ah))∧(c=d))
def Ab9 (y N:Nat):Prop:=∀{m:Nat} (ad:EK y m) {Γ:Ctx} {q v:Int} {M:List E} {c el:List S} (k o:Int) (t b:Int) (U xo:Int) (C xw:Int) (O yk:Int) (yo yt:Int) (yw yl:Int) (d j:Int) (Z sub:Int) (D pl:Int) (fl bl g:Int) (nm H:List Nat) (yn Q:List Nat) (X Y:Rs) (z x:Rs) (J P:Rs) (Fs R:Rs) (A:Mp) (hC:Ck Γ D fl J Fs A) (hx:T Γ 3 (.node U xo C xw H M)) (hX:X=E.Ab M) (hB:z=S.Ab c) (hE:x=S.Ab el) (hb:DF q v Γ c∨((∃Γ1,C8 q v Γ c Γ1)∧DF q v Γ el)) (h:O=X.length∧d=z.length∧j=x.length∧(q=0∨1≤g)∧0≤g∧g+1+max (S.Ax c) (S.Ax el)≤900∧S.Ae c≤200000∧S.Ae el≤200000∧S.Ax c<m∧S.Ax el<m∧d≤200000∧j≤200000∧k=5:=by exact kn),Ok trees N ⟨[k,o,t,b,U,xo,C,xw,O,yk,yo,yt,yw,yl,d,j,Z,sub,D,pl,fl,bl,g],[nm,H,yn,Q],[X,Y,z,x,J,P,Fs,R],[A]⟩ fun zz=>(∃(u:Int),zz=(0,(⟨[30,u],[],[],[]⟩:Ah))∧(g=u))
theorem Xp:Ab9 113 119:=by
 intro m j Γ lp pu J H el k o t b N U C O M yk yo yt yw yl v Q d sub y pl fl u g nm D yn c X Y Bo El z P A R x q hx Z hB hE hb h
 subst Z;subst hB;subst hE
 rcases hb with hb|⟨⟨Γa,ho⟩,hb⟩
 ·refine .of (t:=Lb) rfl ?_
  unfold Lb
  obtain ⟨_,rfl,G1⟩:=Am.Kb q N U C O M 3 d sub pl u g D c (E.Ab J) P R ‹_› rfl
  refine ch G1 ?_
  refine BI 0 0 ?_
  obtain ⟨_,⟨ai,rfl,rfl⟩,G2⟩:=j v d sub y pl fl u g c (S.Ab H) z P A R x q hb rfl kn
  refine ch G2 ?_
  refine AQ 30 0 ?_
  first|exact Aj ⟨[30,g],[],[],[]⟩ (⟨_,rfl,kn⟩) |(exfalso;omega)
 ·refine .of (t:=Lb) rfl ?_
  unfold Lb
  obtain ⟨_,rfl,G3⟩:=Am.Kb q N U C O M 3 d sub pl u g D c (E.Ab J) P R ‹_› rfl
  refine ch G3 ?_
  refine BI 0 0 ?_
  obtain ⟨_,⟨aa,rfl,rfl⟩,G4⟩:=Am.P9 v d sub y pl fl u g c (S.Ab H) z P A R x q ho rfl
  refine ch G4 ?_
  refine BI 0 0 ?_
  obtain ⟨_,⟨ac,rfl,rfl⟩,G5⟩:=j Q d sub y pl fl u g c (S.Ab el) z P A R x q hb rfl kn
  refine ch G5 ?_
  first|exact Aj ⟨[30,g],[],[],[]⟩ (⟨_,rfl,kn⟩) |(exfalso;omega)
def Ab8 (q N:Nat):Prop:=∀{m:Nat} (aa:EK q m) {Γ:Ctx} {pu:Int} {C:List E} {d:List S} (k o:Int) (t b:Int) (J Z:Int) (x O:Int) (D yk:Int) (yo yt:Int) (yw yl:Int) (c Q:Int) (M sub:Int) (y pl:Int) (fl bl g:Int) (nm z:List Nat) (yn H:List Nat) (X Y:Rs) (u El:Rs) (A P:Rs) (U R:Rs) (v:Mp) (hC:Ck Γ y fl A U v) (hx:T Γ 3 (.node J Z x O z C)) (hX:X=E.Ab C) (hB:u=S.Ab d) (hb:DF 1 pu Γ d) (h:D=X.length∧c=u.length∧0≤g∧g+1+S.Ax d≤900∧S.Ae d≤200000∧S.Ax d<m∧c≤200000∧1≤b∧b≤4∧k=6:=by exact kn),Ok trees N ⟨[k,o,t,b,J,Z,x,O,D,yk,yo,yt,yw,yl,c,Q,M,sub,y,pl,fl,bl,g],[nm,z,yn,H],[X,Y,u,El,A,P,U,R],[v]⟩ fun zz=>(∃(j:Int),zz=(0,(⟨[30,j],[],[],[]⟩:Ah))∧(g=j))
theorem Xo:Ab8 113 120:=by
 intro m d Γ pu O N k o t b Z xo A xw Q yk yo yt yw yl q ae j sub C pl fl v c nm D yn g X Y Bo El H P Fs R y u hx x hB hb h
 subst x;subst hB
 refine .of (t:=OD) rfl ?_
 unfold OD
 obtain ⟨_,rfl,U⟩:=Am.Kb u Z xo A xw Q 3 j sub pl v c D g (E.Ab O) P R ‹_› rfl
 refine ch U ?_
 refine BY 0 0 ?_
 refine lt b 1 (fun t2=>?_) fun t2=>?_
 ·first|exact Aj ⟨[1,c],[],[],[]⟩ (⟨_,rfl,kn⟩) |(exfalso;omega)
 refine gt b 1024 (fun J=>?_) fun J=>?_
 ·first|exact Aj ⟨[1,c],[],[],[]⟩ (⟨_,rfl,kn⟩) |(exfalso;omega)
 obtain ⟨_,⟨z,rfl,rfl⟩,M⟩:=d q j sub C pl fl v (c+1) g (S.Ab N) H P Fs R y u hb rfl kn
 refine ch M ?_
 first|exact Aj ⟨[30,((c+1)-1)],[],[],[]⟩ (⟨_,rfl,kn⟩) |(exfalso;omega)
def AbF (C N:Nat) (m n:Nat):Prop:=∀{Γ:Ctx} {o D:Int} {l:List S} (d len:Int) (j y:Int) (sub v:Int) (pl fl:Int) (H c:Int) (u:List Nat) (L x:Rs) (P z R:Rs) (k:Mp) (O:Ck Γ v fl x z k) (M:DF o D Γ (l.drop j.toNat)) (J:L=S.Ab l) (h:d=L.length∧d≤200000∧len=d∧0≤j∧(o=0∨1≤c)∧0≤c∧c+S.Ax (l.drop j.toNat)≤900∧S.Ax (l.drop j.toNat)≤m∧S.Ae (l.drop j.toNat)≤200000∧(len-j).toNat<n),Ok trees N ⟨[d,len,j,y,sub,v,pl,fl,H,c],[u],[L,x,P,z,R],[k]⟩ fun A=>(∃(g:Int),∃(q:Mp),A=(0,(⟨[30,g],[],[],[q]⟩:Ah))∧(c=g))
def AbB (k N:Nat):Prop:=∀{m:Nat} (C:EK k m) {Γ:Ctx} {q H:Int} {l:List S} (d len:Int) (j z:Int) (sub x:Int) (pl fl:Int) (J c:Int) (v:List Nat) (L y:Rs) (P A R:Rs) (o:Mp) (Q:Ck Γ x fl y A o) (O:DF q H Γ (l.drop j.toNat)) (M:L=S.Ab l) (h:d=L.length∧d≤200000∧len=d∧0≤j∧(q=0∨1≤c)∧0≤c∧c+S.Ax (l.drop j.toNat)≤900∧S.Ax (l.drop j.toNat)≤m∧S.Ae (l.drop j.toNat)≤200000:=by exact kn),Ok trees N ⟨[d,len,j,z,sub,x,pl,fl,J,c],[v],[L,y,P,A,R],[o]⟩ fun D=>(∃(g:Int),∃(u:Mp),D=(0,(⟨[30,g],[],[],[u]⟩:Ah))∧(c=g))
theorem Aaa {m:Nat} (ag:EK 113 m) (n:Nat):AbF 113 116 m n:=by
 induction n with
 |zero=>intro Γ lp pu l Z len j q sub D pl fl A c o L z P C R x H hO aq h;exact absurd h.2.2.2.2.2.2.2.2.2 (Nat.not_lt_zero _)
 |succ n ih=>
 intro Γ lp pu l Z len j q sub D pl fl A c o L z P C R x H hO aq h
 subst aq;have bK:=S.A7 l;obtain ⟨hj,hv⟩:=DF.get j hO om
 rcases hv with hv|⟨t,nm,xk,xo,xt,xv,xn,xa,z1,z2,z3,hget,hg,ht1,ht3,hx⟩|⟨xk,xo,xt,xv,xn,xa,bo,e2,hget,hx,hb,hd,hn⟩|⟨b,xk,xo,xt,xv,xn,xa,bo,hget,hx,hb1,hb4,hb,hd,hn⟩
 ·refine .of (t:=GS) rfl ?_
  unfold GS
  refine lt j len (fun t1=>?_) fun t1=>?_
  ·refine CJ j 0 ?_
   refine BD j Z ?_
   obtain ⟨y,af,t_1,ae,ab,aa,N,ad,Q,U,v,M,X,ac,O,J,u,g,k,bF,av,d,bq,bx,bv⟩:=hv
   refine el av ?_
   have bz:=d.Aas;have a9:=S.len g;have ba:=S.len k;have bn:=S.A7 g;have bh:=S.A7 k
   refine eq y 1 (fun t3=>?_) fun t3=>?_
   ·obtain ⟨_,⟨au,rfl,ax⟩,G4⟩:=Am.Xq y af t_1 ae aa N ad Q ((E.Ab v).length:Int) M X ac O ((E.Ab u).length:Int) ((S.Ab g).length:Int) ((S.Ab k).length:Int) q sub D pl fl A c ab U J o (E.Ab v) (E.Ab u) (S.Ab g) (S.Ab k) z P C R x H d rfl rfl rfl rfl
    refine ch G4 ?_
    refine BY 0 0 ?_
    obtain ⟨_,⟨bE,ay,rfl,rfl⟩,G5⟩:=ih Z len (j+1) q sub D pl fl A c o (S.Ab l) z P C R au ax ‹_› rfl kn
    refine ch G5 ?_
    first|exact Aj ⟨[30,c],[],[],[ay]⟩ (⟨_,_,rfl,kn⟩) |(exfalso;omega)
   refine eq y 2 (fun t6=>?_) fun t6=>?_
   ·obtain ⟨_,rfl,G7⟩:=Am.Aeb y af t_1 ae aa N ad Q ((E.Ab v).length:Int) M X ac O ((E.Ab u).length:Int) ((S.Ab g).length:Int) ((S.Ab k).length:Int) q sub D pl fl A c ab U J o (E.Ab v) (E.Ab u) (S.Ab g) (S.Ab k) z P C R x H d rfl rfl rfl rfl
    refine ch G7 ?_
    refine BY 0 0 ?_
    obtain ⟨_,⟨bI,aw,rfl,rfl⟩,G8⟩:=ih Z len (j+1) q sub D pl fl A c o (S.Ab l) z P C R x (H.keep d om) ‹_› rfl kn
    refine ch G8 ?_
    first|exact Aj ⟨[30,c],[],[],[aw]⟩ (⟨_,_,rfl,kn⟩) |(exfalso;omega)
   refine eq y 5 (fun t9=>?_) fun t9=>?_
   ·obtain ⟨_,⟨bf,rfl,rfl⟩,a3⟩:=Am.Xp (Am.EK.of (n:=1000) @Am.P9) y af t_1 ae aa N ad Q ((E.Ab v).length:Int) M X ac O ((E.Ab u).length:Int) ((S.Ab g).length:Int) ((S.Ab k).length:Int) q sub D pl fl A c ab U J o (E.Ab v) (E.Ab u) (S.Ab g) (S.Ab k) z P C R x H d rfl rfl rfl rfl
    refine ch a3 ?_
    refine BY 0 0 ?_
    obtain ⟨_,⟨bd,am,rfl,rfl⟩,aY⟩:=ih Z len (j+1) q sub D pl fl A c o (S.Ab l) z P C R x (H.keep d om) ‹_› rfl kn
    refine ch aY ?_
    first|exact Aj ⟨[30,c],[],[],[am]⟩ (⟨_,_,rfl,kn⟩) |(exfalso;omega)
   refine eq y 6 (fun aR=>?_) fun aR=>?_
   ·obtain ⟨_,⟨bk,rfl,rfl⟩,a1⟩:=Am.Xo (Am.EK.of (n:=1000) @Am.P9) y af t_1 ae aa N ad Q ((E.Ab v).length:Int) M X ac O ((E.Ab u).length:Int) ((S.Ab g).length:Int) ((S.Ab k).length:Int) q sub D pl fl A c ab U J o (E.Ab v) (E.Ab u) (S.Ab g) (S.Ab k) z P C R x H d rfl rfl rfl rfl
    refine ch a1 ?_
    refine BY 0 0 ?_
    obtain ⟨_,⟨bi,ak,rfl,rfl⟩,aI⟩:=ih Z len (j+1) q sub D pl fl A c o (S.Ab l) z P C R x (H.keep d om) ‹_› rfl kn
    refine ch aI ?_
    first|exact Aj ⟨[30,c],[],[],[ak]⟩ (⟨_,_,rfl,kn⟩) |(exfalso;omega)
   refine eq y 7 (fun a6=>?_) fun a6=>?_
   ·refine eq c 0 (fun a5=>?_) fun a5=>?_
    ·first|exact Aj ⟨[31,c],[],[],[x]⟩ (⟨_,_,rfl,kn⟩) |(exfalso;omega)
    obtain ⟨_,⟨bg,ao,rfl,rfl⟩,aE⟩:=ih Z len (j+1) q sub D pl fl A c o (S.Ab l) z P C R x (H.keep d om) ‹_› rfl kn
    refine ch aE ?_
    first|exact Aj ⟨[30,c],[],[],[ao]⟩ (⟨_,_,rfl,kn⟩) |(exfalso;omega)
   refine eq y 8 (fun aC=>?_) fun aC=>?_
   ·refine eq c 0 (fun aD=>?_) fun aD=>?_
    ·first|exact Aj ⟨[31,c],[],[],[x]⟩ (⟨_,_,rfl,kn⟩) |(exfalso;omega)
    obtain ⟨_,⟨bp,an,rfl,rfl⟩,aH⟩:=ih Z len (j+1) q sub D pl fl A c o (S.Ab l) z P C R x (H.keep d om) ‹_› rfl kn
    refine ch aH ?_
    first|exact Aj ⟨[30,c],[],[],[an]⟩ (⟨_,_,rfl,kn⟩) |(exfalso;omega)
   refine eq y 3 (fun aQ=>?_) fun aQ=>?_
   ·obtain ⟨_,rfl,aP⟩:=Am.Aea y af t_1 ae aa N ad Q ((E.Ab v).length:Int) M X ac O ((E.Ab u).length:Int) ((S.Ab g).length:Int) ((S.Ab k).length:Int) q sub D pl fl A c ab U J o (E.Ab v) (E.Ab u) (S.Ab g) (S.Ab k) z P C R x H d rfl rfl rfl rfl
    refine ch aP ?_
    refine BY 0 0 ?_
    obtain ⟨_,⟨bj,ah,rfl,rfl⟩,a0⟩:=ih Z len (j+1) q sub D pl fl A c o (S.Ab l) z P C R x (H.keep d om) ‹_› rfl kn
    refine ch a0 ?_
    first|exact Aj ⟨[30,c],[],[],[ah]⟩ (⟨_,_,rfl,kn⟩) |(exfalso;omega)
   refine eq y 4 (fun az=>?_) fun az=>?_
   ·obtain ⟨_,rfl,a2⟩:=Am.AdZ y af t_1 ae aa N ad Q ((E.Ab v).length:Int) M X ac O ((E.Ab u).length:Int) ((S.Ab g).length:Int) ((S.Ab k).length:Int) q sub D pl fl A c ab U J o (E.Ab v) (E.Ab u) (S.Ab g) (S.Ab k) z P C R x H d rfl rfl rfl rfl
    refine ch a2 ?_
    refine BY 0 0 ?_
    obtain ⟨_,⟨a8,aj,rfl,rfl⟩,aJ⟩:=ih Z len (j+1) q sub D pl fl A c o (S.Ab l) z P C R x (H.keep d om) ‹_› rfl kn
    refine ch aJ ?_
    first|exact Aj ⟨[30,c],[],[],[aj]⟩ (⟨_,_,rfl,kn⟩) |(exfalso;omega)
   refine eq y 12 (fun aZ=>?_) fun aZ=>?_
   ·obtain ⟨_,rfl,aB⟩:=Am.AdY y af t_1 ae aa N ad Q ((E.Ab v).length:Int) M X ac O ((E.Ab u).length:Int) ((S.Ab g).length:Int) ((S.Ab k).length:Int) q sub D pl fl A c ab U J o (E.Ab v) (E.Ab u) (S.Ab g) (S.Ab k) z P C R x H d rfl rfl rfl rfl
    refine ch aB ?_
    refine BY 0 0 ?_
    obtain ⟨_,⟨be,ai,rfl,rfl⟩,a4⟩:=ih Z len (j+1) q sub D pl fl A c o (S.Ab l) z P C R x (H.keep d om) ‹_› rfl kn
    refine ch a4 ?_
    first|exact Aj ⟨[30,c],[],[],[ai]⟩ (⟨_,_,rfl,kn⟩) |(exfalso;omega)
   obtain ⟨_,⟨bm,ap,rfl,rfl⟩,aG⟩:=ih Z len (j+1) q sub D pl fl A c o (S.Ab l) z P C R x (H.keep d om) ‹_› rfl kn
   refine ch aG ?_
   first|exact Aj ⟨[30,c],[],[],[ap]⟩ (⟨_,_,rfl,kn⟩) |(exfalso;omega)
  exact dead
 ·refine .of (t:=GS) rfl ?_
  unfold GS
  refine lt j len (fun aV=>?_) fun aV=>?_
  ·refine CJ j 0 ?_
   refine BD j Z ?_
   refine el hget ?_
   refine BI 1 1 ?_
   obtain ⟨_,rfl,aO⟩:=Xq 1 0 t 0 xk xo xt xv ((E.Ab xa).length:Int) 0 0 0 0 ((E.Ab []).length:Int) ((S.Ab []).length:Int) ((S.Ab []).length:Int) q sub D pl fl A c nm xn [] o (E.Ab xa) (E.Ab []) (S.Ab []) (S.Ab []) z P C R x H hx rfl hg
   refine ch aO ?_
   refine neY 30 0 ?_
   first|exact Aj ⟨[30,c],[],[],[x]⟩ (⟨_,_,rfl,kn⟩) |(exfalso;omega)
  exact dead
 ·have aU:=S.len bo;have aN:=S.A7 bo;have bM:=S.len e2;have bL:=S.A7 e2;have aK:(S.Ab ([]:List S)).length=0:=rfl;have aF:S.Ax ([]:List S)=0:=rfl;have aM:S.Ae ([]:List S)=0:=rfl
  refine .of (t:=GS) rfl ?_
  unfold GS
  refine lt j len (fun a7=>?_) fun a7=>?_
  ·refine CJ j 0 ?_
   refine BD j Z ?_
   refine el hget ?_
   refine AQ 5 1 ?_
   refine AQ 5 2 ?_
   refine BI 5 5 ?_
   obtain ⟨_,⟨bb,rfl,rfl⟩,aL⟩:=Xp @ag 5 0 0 0 xk xo xt xv ((E.Ab xa).length:Int) 0 0 0 0 ((E.Ab []).length:Int) ((S.Ab bo).length:Int) ((S.Ab e2).length:Int) q sub D pl fl A c [] xn [] o (E.Ab xa) (E.Ab []) (S.Ab bo) (S.Ab e2) z P C R x H hx rfl rfl rfl hb
   refine ch aL ?_
   refine neY 30 0 ?_
   first|exact Aj ⟨[30,c],[],[],[x]⟩ (⟨_,_,rfl,kn⟩) |(exfalso;omega)
  exact dead
 ·have aU:=S.len bo;have aN:=S.A7 bo;have aK:(S.Ab ([]:List S)).length=0:=rfl;have aF:S.Ax ([]:List S)=0:=rfl;have aM:S.Ae ([]:List S)=0:=rfl
  refine .of (t:=GS) rfl ?_
  unfold GS
  refine lt j len (fun aW=>?_) fun aW=>?_
  ·refine CJ j 0 ?_
   refine BD j Z ?_
   refine el hget ?_
   refine AQ 6 1 ?_
   refine AQ 6 2 ?_
   refine AQ 6 5 ?_
   refine BI 6 6 ?_
   obtain ⟨_,⟨bc,rfl,rfl⟩,aX⟩:=Xo @ag 6 0 0 b xk xo xt xv ((E.Ab xa).length:Int) 0 0 0 0 ((E.Ab []).length:Int) ((S.Ab bo).length:Int) ((S.Ab []).length:Int) q sub D pl fl A c [] xn [] o (E.Ab xa) (E.Ab []) (S.Ab bo) (S.Ab []) z P C R x H hx rfl rfl hb
   refine ch aX ?_
   refine neY 30 0 ?_
   first|exact Aj ⟨[30,c],[],[],[x]⟩ (⟨_,_,rfl,kn⟩) |(exfalso;omega)
  exact dead
theorem Abc:AbB 113 116:=fun {m} hC113 {Γ} {lp} {pu} {l} ln len j grp sub al pl fl bl lo knm L Ar P Fs R mp hC hO hLs h=>Aaa @hC113 ((len-j).toNat+1) ln len j grp sub al pl fl bl lo knm L Ar P Fs R mp hC hO hLs ⟨h.1,h.2.1,h.2.2.1,h.2.2.2.1,h.2.2.2.2.1,h.2.2.2.2.2.1,h.2.2.2.2.2.2.1,h.2.2.2.2.2.2.2.1,h.2.2.2.2.2.2.2.2,Nat.lt_succ_self _⟩
def AbC (g N:Nat):Prop:=∀{m:Nat} (A:EK g m) {Γ:Ctx} {o D:Int} {l:List S} (j y:Int) (sub v:Int) (pl fl:Int) (H c:Int) (u:List Nat) (L x:Rs) (P z R:Rs) (k:Mp) (O:Ck Γ v fl x z k) (M:DF o D Γ l) (J:L=S.Ab l) (h:j=L.length∧j≤200000∧(o=0∨1≤c)∧0≤c∧c+S.Ax l≤900∧S.Ae l≤200000∧S.Ax l≤m:=by exact kn),Ok trees N ⟨[j,y,sub,v,pl,fl,H,c],[u],[L,x,P,z,R],[k]⟩ fun C=>(∃(d:Int),∃(q:Mp),C=(0,(⟨[30,d],[],[],[q]⟩:Ah))∧(c=d))
theorem Abd:AbC 113 115:=by
 intro m c Γ M N l g o sub x pl fl C j k L y P H R u z v q h
 subst q;have O:S.Ax (l.drop (0:Int).toNat)=S.Ax l:=rfl;have J:S.Ae (l.drop (0:Int).toNat)=S.Ae l:=rfl
 refine .of (t:=OF) rfl ?_
 unfold OF
 obtain ⟨_,⟨D,d,rfl,rfl⟩,A⟩:=Abc @c g g 0 o sub x pl fl C j k (S.Ab l) y P H R u z v rfl
 refine ch A ?_
 exact Aj ⟨[30,j],[],[],[d]⟩ (⟨_,_,rfl,kn⟩)
theorem Aab (n:Nat):EK 113 n:=by
 induction n with
 |zero=>intro Γ A C l x d sub q pl fl y j c L u P z R k v o g h;exact absurd h.2.2.2.2.2.2 (Nat.not_lt_zero _)
 |succ n ih=>
 intro Γ A C l x d sub q pl fl y j c L u P z R k v o g h
 refine .of (t:=OG) rfl ?_
 unfold OG
 obtain ⟨_,⟨J,D,rfl,rfl⟩,H⟩:=Abd @ih x d sub q pl fl y j c L u P z R k v o g
 refine ch H ?_
 exact Aj ⟨[30,j],[],[],[]⟩ (⟨_,rfl,kn⟩)
theorem P9:X3 113:=fun {Γ} {lp} {pu} {l} ln grp sub al pl fl bl lo knm L Ar P Fs R mp hC hO hLs h=>Aab (S.Ax l+1) ln grp sub al pl fl bl lo knm L Ar P Fs R mp hC hO hLs ⟨h.1,h.2.1,h.2.2.1,h.2.2.2.1,h.2.2.2.2.1,h.2.2.2.2.2,Nat.lt_succ_self _⟩
end V
end Go.Proofs.YtbmofjdmgjpfoaaGreatDoor.Am
end
