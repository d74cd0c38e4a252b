/- Part 13 of the proof of TypesRenames. -/
import Derived.Test.YtbmofjdmgjpfoaaGreatDoorE11
import Derived.Test.YtbmofjdmgjpfoaaGreatDoorE12
set_option linter.all false
section
set_option maxHeartbeats 4000000
set_option maxRecDepth 100000
namespace Go.Proofs.YtbmofjdmgjpfoaaGreatDoor.Am
open Go.AM Go.AM.K
def An2 (N:Nat) (Γ:Ctx) (D fl:Int) (Ar U:Rs) (J:Mp) (n:Nat):Prop:=∀(z y:Int) (len j:Int) (k sub:Int) (pl X:Int) (lo x:Int) (c g:Int) (Q Z:Int) (H rv O:Int) (o d C:List Nat) (T A:Rs) (P R:Rs) (u FB M:Rs) (hT:T=[1,1].map Bd) (hF:A=AD) (h:z=2∧y=2∧len=2∧0≤j∧j≤2∧(2-j).toNat<n),Ok trees N ⟨[z,y,len,j,k,sub,D,pl,fl,X,lo,x,c,g,Q,Z,H,rv,O],[o,d,C],[T,A,Ar,P,U,R,u,FB,M],[J]⟩ fun zz=>(zz=(1,v0))
def AmK (N:Nat):Prop:=∀{Γ:Ctx} {c fl:Int} {D A:Rs} {g:Mp} (hC:Ck Γ c fl D A g) (H C:Int) (len j:Int) (u sub:Int) (pl Z:Int) (lo z:Int) (d o:Int) (X ro:Int) (O rv U:Int) (x k M:List Nat) (T J:Rs) (P R:Rs) (y FB Q:Rs) (hT:T=[1,1].map Bd) (hF:J=AD) (h:H=2∧C=2∧len=2∧0≤j∧j≤2:=by exact kn),Ok trees N ⟨[H,C,len,j,u,sub,c,pl,fl,Z,lo,z,d,o,X,ro,O,rv,U],[x,k,M],[T,J,D,P,A,R,y,FB,Q],[g]⟩ fun zz=>(zz=(1,v0))
theorem Aj9 {Γ:Ctx} {H fl:Int} {Ar Q:Rs} {mp:Mp} (hC:Ck Γ H fl Ar Q mp) (n:Nat):An2 148 Γ H fl Ar Q mp n:=by
 induction n with
 |zero=>intro C z len j o sub pl U lo x k d O ro J Z rl g c y T FP P R u FB M hT X h;exact absurd h.2.2.2.2.2 (Nat.not_lt_zero _)
 |succ n ih=>
 intro C z len j o sub pl U lo x k d O ro J Z rl g c y T FP P R u FB M hT X h
 subst hT;subst X
 refine .of (t:=WE) rfl ?_
 unfold WE
 refine lt j len (fun t1=>?_) fun t1=>?_
 ·refine CG j 0 ?_
  refine B9 j z ?_
  obtain ⟨ah,D⟩:=PU j om om
  refine el D ?_
  refine B9 j C ?_
  have A:=Tp j om om
  refine el A ?_
  refine BW 1 1 ?_
  obtain ⟨_,rfl,N⟩:=ih C z len (j+1) o sub pl U lo x k d O ro J Z rl g c y ([1,1].map Bd) AD P R u FB M rfl rfl kn
  refine cm N ?_
  refine ch N ?_
  exact Ai v0 (rfl)
 exact Ai v0 (rfl)
theorem Aml:AmK 148:=fun {Γ} {al} {fl} {Ar} {Fs} {mp} hC tl ln len j grp sub pl bl lo fpl fty fbl rk ro ry rv rl knm fnm rnm T FP P R FP2 FB RA hT hF h=>Aj9 hC ((2-j).toNat+1) tl ln len j grp sub pl bl lo fpl fty fbl rk ro ry rv rl knm fnm rnm T FP P R FP2 FB RA hT hF ⟨h.1,h.2.1,h.2.2.1,h.2.2.2.1,h.2.2.2.2,Nat.lt_succ_self _⟩
def AmM (N:Nat):Prop:=∀{Γ:Ctx} {g fl:Int} {j D:Rs} {k:Mp} (hC:Ck Γ g fl j D k) (d c:Int) (o X:Int) (M J:Int) (Z U:Int) (x z:Int) (sub pl:Int) (H O:Int) (u C A:List Nat) (y FB:Rs) (Q T:Rs) (P R:Rs) (hT:T=[1,1].map Bd) (hF:y=AD) (h:x=2∧d=2∧c=1:=by exact kn),Ok trees N ⟨[d,c,o,X,M,J,Z,U,x,z,sub,g,pl,fl,H,O],[u,C,A],[y,FB,Q,T,j,P,D,R],[k]⟩ fun zz=>(zz=(0,(⟨[1,0],[],[],[]⟩:Ah)))
theorem Amn:AmM 146:=by
 intro Γ U fl Ar Fs X C Q O d A H x M z tl g sub pl D J c o j k N y T P R Z hF h
 obtain ⟨rfl,rfl,rfl⟩:=h
 refine .of (t:=WH) rfl ?_
 unfold WH
 refine BW 2 2 ?_
 obtain ⟨_,rfl,u⟩:=Aml C 2 2 2 0 g sub pl D J 2 1 d A H x M z j c o T k P R k N y ‹_› ‹_›
 refine cm u ?_
 refine ch u ?_
 exact Ai ⟨[1,0],[],[],[]⟩ (rfl)
def Uq (N:Nat) (Γ:Ctx) (j fl:Int) (x D:Rs) (y:Mp) (n:Nat):Prop:=∀{a:List E} (t k:Int) (o ty:Int) (v c:Int) (d sub:Int) (pl u z:Int) (s g:List Nat) (A P R:Rs) (J:T Γ t (.node k o ty v s a)) (H:A=E.Ab a) (h:c=A.length∧(E.node k o ty v s a).high<n),Ok trees N ⟨[k,o,ty,v,c,d,sub,j,pl,fl,u,z],[s,g],[A,x,P,D,R],[y]⟩ fun C=>(C=(0,(⟨[t,0],[],[],[]⟩:Ah)))
def AmQ (N:Nat):Prop:=∀{Γ:Ctx} {c fl:Int} {g y:Rs} {j:Mp} (J:Ck Γ c fl g y j) {a:List E} (t k:Int) (o ty:Int) (v d:Int) (u sub:Int) (pl z C:Int) (s x:List Nat) (A P R:Rs) (M:T Γ t (.node k o ty v s a)) (H:A=E.Ab a) (h:d=A.length:=by exact kn),Ok trees N ⟨[k,o,ty,v,d,u,sub,c,pl,fl,z,C],[s,x],[A,g,P,y,R],[j]⟩ fun D=>(D=(0,(⟨[t,0],[],[],[]⟩:Ah)))
def An3 (H N:Nat) (Γ:Ctx) (y fl:Int) (A J:Rs) (C:Mp) (m n:Nat):Prop:=∀{a:List E} (ts:List Int) (d c:Int) (len j:Int) (o sub:Int) (pl z D:Int) (u:List Nat) (L P:Rs) (R Q:Rs) (O:Ts Γ ts a) (M:L=E.Ab a) (U:Q=(ts.take j.toNat).map Bd) (h:c=L.length∧c≤3∧len=c∧0≤j∧j≤c∧d=Q.length∧d+(len-j)≤9∧0≤d∧E.B3 a<m∧(len-j).toNat<n),Ok trees N ⟨[d,c,len,j,o,sub,y,pl,fl,z,D],[u],[L,A,P,J,R,Q],[C]⟩ fun x=>(x=(2,v0)∧(Q=ts.map Bd))∨(∃(k:Int),∃(g:Rs),x=(3,(⟨[k],[],[g],[]⟩:Ah))∧(g=ts.map Bd)∧(k=(ts.length:Int)))
def AmL (u N:Nat):Prop:=∀{m:Nat} {Γ:Ctx} {g fl:Int} {k x:Rs} {o:Mp} (X:Ck Γ g fl k x o) (H:Uq u Γ g fl k x o m) {a:List E} (ts:List Int) (d c:Int) (len j:Int) (A sub:Int) (pl J M:Int) (C:List Nat) (L P:Rs) (R Q:Rs) (U:Ts Γ ts a) (O:L=E.Ab a) (Z:Q=(ts.take j.toNat).map Bd) (h:c=L.length∧c≤3∧len=c∧0≤j∧j≤c∧d=Q.length∧d+(len-j)≤9∧0≤d∧E.B3 a<m:=by exact kn),Ok trees N ⟨[d,c,len,j,A,sub,g,pl,fl,J,M],[C],[L,k,P,x,R,Q],[o]⟩ fun D=>(D=(2,v0)∧(Q=ts.map Bd))∨(∃(z:Int),∃(y:Rs),D=(3,(⟨[z],[],[y],[]⟩:Ah))∧(y=ts.map Bd)∧(z=(ts.length:Int)))
theorem AjA {Γ:Ctx} {A fl:Int} {N H:Rs} {C:Mp} (hC:Ck Γ A fl N H C) {m:Nat} (u:Uq 141 Γ A fl N H C m) (n:Nat):An3 141 147 Γ A fl N H C m n:=by
 induction n with
 |zero=>intro a ts U M len j g sub pl J O k L P R Q d z X h;exact absurd h.2.2.2.2.2.2.2.2.2 (Nat.not_lt_zero _)
 |succ n ih=>
 intro a ts U M len j g sub pl J O k L P R Q d z X h
 subst z
 refine .of (t:=WG) rfl ?_
 unfold WG
 refine lt j len (fun t1=>?_) fun t1=>?_
 ·refine CG j 0 ?_
  refine B9 j M ?_
  obtain ⟨aa,ab,ac,ad,Z,x,y,D,ai,am,aj⟩:=d.get j om om
  refine el D ?_
  obtain ⟨_,rfl,G3⟩:=u y aa ab ac ad ((E.Ab x).length:Int) g sub pl J O Z k (E.Ab x) P R ‹_› rfl kn
  refine ch G3 ?_
  refine BW 0 0 ?_
  refine dL (Q++[[PV.int .i64 y]]) (fun o e4=>?_) (BC (pw U Q) pe)
  have f4:=cL e4;try simp only [lA,lC,lN,lT']at f4
  refine FM (o.length:Int) 1048576 ?_
  obtain ⟨_,(⟨rfl,ag⟩|⟨af,ae,rfl,rfl,rfl⟩),c⟩:=ih ts (o.length:Int) M len (j+1) g sub pl J O k (E.Ab a) P R o d rfl (by subst_vars;exact Ir ‹_› om) kn
  ·refine cm c ?_
   refine cm c ?_
   refine ch c ?_
   exact Ai ⟨[(o.length:Int)],[],[o],[]⟩ (.inr ((⟨_,_,rfl,(by first|rfl|assumption|(subst_vars;assumption)),(by first|rfl|(have e:=‹_=ts.map Bd›;rw [e];exact Ts.Da))⟩)))
  refine cm c ?_
  refine cm c ?_
  refine cm c ?_
  refine ch c ?_
  exact Ai ⟨[(ts.length:Int)],[],[(ts.map Bd)],[]⟩ (.inr ((⟨_,_,rfl,(by first|rfl|assumption|(subst_vars;assumption)),(by first|rfl|(have e:=‹_=ts.map Bd›;rw [e];exact Ts.Da))⟩)))
 exact Ai v0 (.inl (⟨rfl,(X.trans (d.end om))⟩))
theorem Amm:AmL 141 147:=fun {m} {Γ} {al} {fl} {Ar} {Fs} {mp} hC hC141 {a} ts ql ln len j grp sub pl bl lo knm L P R Q hTs hLa hQ h=>AjA hC @hC141 ((len-j).toNat+1) ts ql ln len j grp sub pl bl lo knm L P R Q hTs hLa hQ ⟨h.1,h.2.1,h.2.2.1,h.2.2.2.1,h.2.2.2.2.1,h.2.2.2.2.2.1,h.2.2.2.2.2.2.1,h.2.2.2.2.2.2.2.1,h.2.2.2.2.2.2.2.2,Nat.lt_succ_self _⟩
def AmN (o N:Nat):Prop:=∀{m:Nat} {Γ:Ctx} {d fl:Int} {g u:Rs} {k:Mp} (Q:Ck Γ d fl g u k) (D:Uq o Γ d fl g u k m) {a:List E} (ts:List Int) (c len:Int) (j z:Int) (sub pl:Int) (H J:Int) (A:List Nat) (L P R:Rs) (O:Ts Γ ts a) (M:L=E.Ab a) (h:c=L.length∧c≤3∧len=c∧j=0∧E.B3 a<m:=by exact kn),Ok trees N ⟨[c,len,j,z,sub,d,pl,fl,H,J],[A],[L,g,P,u,R],[k]⟩ fun C=>(C=(0,v0)∧(ts=[]))∨(∃(y:Int),∃(x:Rs),C=(2,(⟨[y],[],[x],[]⟩:Ah))∧(x=ts.map Bd)∧(y=(ts.length:Int)))
theorem Amo:AmN 141 144:=by
 intro m Γ al fl Ar Fs mp hC d a ts ln len j o sub pl J M u L P R g O h
 subst O;obtain ⟨h1,h2,rfl,rfl,h5⟩:=h
 refine .of (t:=WI) rfl ?_
 unfold WI
 refine lt 0 len (fun t1=>?_) fun t1=>?_
 ·refine CG 0 0 ?_
  refine B9 0 len ?_
  obtain ⟨D,H,N,Q,C,k,x,z,ab,af,ad⟩:=g.get 0 om om
  refine el z ?_
  obtain ⟨_,rfl,G3⟩:=d x D H N Q ((E.Ab k).length:Int) o sub pl J M C u (E.Ab k) P R ‹_› rfl kn
  refine ch G3 ?_
  refine BW 0 0 ?_
  refine dL [[.int .i64 x]] (fun A e4=>?_)
  have f4:=cL e4;try simp only [lA,lC,lN,lT']at f4
  refine ll 1 A ?_
  obtain ⟨_,(⟨rfl,Z⟩|⟨X,U,rfl,rfl,rfl⟩),c⟩:=Amm hC @d ts 1 len len (0+1) o sub pl J M u (E.Ab a) P R A g rfl (by subst_vars;exact (Ir (j:=0) ‹_› om))
  ·refine cm c ?_
   refine cm c ?_
   refine ch c ?_
   exact Ai ⟨[1],[],[A],[]⟩ (.inr ((⟨_,_,rfl,(by first|rfl|(subst_vars;first|rfl|assumption)),(by first|rfl|(have e:=‹_=ts.map Bd›;have y:=Ts.Da (ts:=ts);rw [←e]at y;omega) |(subst_vars;first|rfl|simp))⟩)))
  refine cm c ?_
  refine cm c ?_
  refine cm c ?_
  refine ch c ?_
  exact Ai ⟨[(ts.length:Int)],[],[(ts.map Bd)],[]⟩ (.inr ((⟨_,_,rfl,(by first|rfl|(subst_vars;first|rfl|assumption)),(by first|rfl|(have e:=‹_=ts.map Bd›;have y:=Ts.Da (ts:=ts);rw [←e]at y;omega) |(subst_vars;first|rfl|simp))⟩)))
 exact Ai v0 (.inl (⟨rfl,(g.none om)⟩))
def AmO (k N:Nat):Prop:=∀{m:Nat} {Γ:Ctx} {c fl:Int} {g o:Rs} {j:Mp} (O:Ck Γ c fl g o j) (A:Uq k Γ c fl g o j m) {a:List E} (ts:List Int) (d y:Int) (sub pl:Int) (C D:Int) (z:List Nat) (L P R:Rs) (M:Ts Γ ts a) (J:L=E.Ab a) (h:d=L.length∧d≤3∧E.B3 a<m:=by exact kn),Ok trees N ⟨[d,y,sub,c,pl,fl,C,D],[z],[L,g,P,o,R],[j]⟩ fun H=>(∃(x:Int),∃(u:Rs),H=(0,(⟨[x,0],[],[u],[]⟩:Ah))∧(u=ts.map Bd)∧(x=(ts.length:Int)))
theorem Mb:AmO 141 143:=by
 intro m Γ M fl Q O N C d a ts o j sub pl D H k L P R x u h
 subst u;have J:=Ts.Da (ts:=ts)
 refine .of (t:=WJ) rfl ?_
 unfold WJ
 obtain ⟨_,(⟨rfl,A⟩|⟨z,y,rfl,rfl,rfl⟩),c⟩:=Amo C @d ts o o 0 j sub pl D H k (E.Ab a) P R x rfl
 ·refine ch c ?_
  refine de [] ?_
  refine ll 0 [] ?_
  exact Ai ⟨[0,0],[],[[]],[]⟩ (⟨_,_,rfl,(by first|rfl|(subst_vars;first|rfl|assumption)),(by first|rfl|(have e:=‹_=ts.map Bd›;have g:=Ts.Da (ts:=ts);rw [←e]at g;omega) |(subst_vars;first|rfl|simp))⟩)
 refine cm c ?_
 refine cm c ?_
 refine ch c ?_
 refine ll (ts.length:Int) (ts.map Bd) ?_
 refine fr ?_
 exact Ai ⟨[(ts.length:Int),0],[],[(ts.map Bd)],[]⟩ (⟨_,_,rfl,(by first|rfl|(subst_vars;first|rfl|assumption)),(by first|rfl|(have e:=‹_=ts.map Bd›;have g:=Ts.Da (ts:=ts);rw [←e]at g;omega) |(subst_vars;first|rfl|simp))⟩)
theorem AjB {Γ:Ctx} {al fl:Int} {Ar Fs:Rs} {mp:Mp} (J:Ck Γ al fl Ar Fs mp) (n:Nat):Uq 141 Γ al fl Ar Fs mp n:=by
 induction n with
 |zero=>intro a t k o ty v ln H sub pl Z lo s D A P R hT hA h;exact absurd h.2 (Nat.not_lt_zero _)
 |succ n ih=>
 intro a t k o ty v ln H sub pl Z lo s D A P R hT hA h
 subst hA;have e2:=I2 (k:=k) (o:=o) (ty:=ty) (v:=v) (s:=s) (a:=a);have M:ln=(a.length:Int):=by have:=h.1;rw [E.Az]at this;exact this
 rcases hT.inv with hv|hv|hv|hv|hv|hv|hv|hv
 ·obtain ⟨rfl,rfl,rfl,rfl,rfl,r1,r2,r3,r4,r5,r6⟩:=hv;simp only [lC,lN]at M;have e3:E.Ae []=0:=rfl
  refine .of (t:=Ep) rfl ?_
  unfold Ep
  obtain ⟨_,⟨aU,aV,rfl,rfl,rfl⟩,G1⟩:=Mb J @ih [] ln H sub pl Z lo D (E.Ab []) P R (by exact .nil) rfl
  refine ch G1 ?_
  refine BW 0 0 ?_
  refine BF 1 1 ?_
  first|exact Ai ⟨[ty,0],[],[],[]⟩ (rfl) |(exfalso;omega)
 ·obtain ⟨rfl,rfl,rfl,rfl,rfl,rfl,r1,r2⟩:=hv;simp only [lC,lN]at M;have e3:E.Ae []=0:=rfl
  refine .of (t:=Ep) rfl ?_
  unfold Ep
  obtain ⟨_,⟨bd,aX,rfl,rfl,rfl⟩,G2⟩:=Mb J @ih [] ln H sub pl Z lo D (E.Ab []) P R (by exact .nil) rfl
  refine ch G2 ?_
  refine BW 0 0 ?_
  refine AN 3 1 ?_
  refine BF 3 3 ?_
  first|exact Ai ⟨[1,0],[],[],[]⟩ (rfl) |(exfalso;omega)
 ·obtain ⟨rfl,rfl,rfl,rfl,rfl,hs,kk,ii,hk,r1,r2,hg⟩:=hv;simp only [lC,lN]at M;have e3:E.Ae []=0:=rfl
  refine .of (t:=Ep) rfl ?_
  unfold Ep
  obtain ⟨_,⟨a6,aR,rfl,rfl,rfl⟩,G3⟩:=Mb J @ih [] ln H sub pl Z lo D (E.Ab []) P R (by exact .nil) rfl
  refine ch G3 ?_
  refine BW 0 0 ?_
  refine AN 2 1 ?_
  refine AN 2 3 ?_
  refine AN 2 4 ?_
  refine AN 2 5 ?_
  refine AN 2 6 ?_
  refine BF 2 2 ?_
  refine lh (J.look hg) ?_
  refine eq kk 2 (fun t4=>?_) fun t4=>?_
  ·first|exact Ai ⟨[t,0],[],[],[]⟩ (rfl) |(exfalso;omega)
  refine eq kk 3 (fun t5=>?_) fun t5=>?_
  ·first|exact Ai ⟨[t,0],[],[],[]⟩ (rfl) |(exfalso;omega)
  first|exact Ai ⟨[0,30],[],[],[]⟩ (rfl) |(exfalso;omega)
 ·obtain ⟨rfl,rfl,rfl,rfl,c,d,j,u,C,g,w,rfl,hu,h1⟩:=hv;simp only [lC,lN]at M;have e3:=n1 (x:=.node c d j u C g);have e4:=g1 (x:=.node c d j u C g);have hr:=hu.rng
  refine .of (t:=Ep) rfl ?_
  unfold Ep
  obtain ⟨_,⟨a9,aZ,rfl,rfl,rfl⟩,G6⟩:=Mb J @ih [w] ln H sub pl Z lo D (E.Ab [.node c d j u C g]) P R (by exact .cons h1 .nil) rfl
  refine ch G6 ?_
  refine BW 0 0 ?_
  refine AN 4 1 ?_
  refine AN 4 3 ?_
  refine BF 4 4 ?_
  refine B9 0 ([w].length:Int) ?_
  refine el (j':=0) rfl ?_
  obtain ⟨_,rfl,G7⟩:=AgH t o w hu
  refine ch G7 ?_
  first|exact Ai ⟨[t,0],[],[],[]⟩ (rfl) |(exfalso;omega)
 ·obtain ⟨rfl,rfl,rfl,rfl,c,d,j,u,C,g,N,O,X,Q,U,b2,w,rfl,hu,h1,h2⟩:=hv;simp only [lC,lN]at M;have e3:=n2 (x:=.node c d j u C g) (y:=.node N O X Q U b2);have e4:=g2 (x:=.node c d j u C g) (y:=.node N O X Q U b2);have hr:=hu.rng
  refine .of (t:=Ep) rfl ?_
  unfold Ep
  obtain ⟨_,⟨aY,a2,rfl,rfl,rfl⟩,G8⟩:=Mb J @ih [w,w] ln H sub pl Z lo D (E.Ab [.node c d j u C g,.node N O X Q U b2]) P R (by exact .cons h1 (.cons h2 .nil)) rfl
  refine ch G8 ?_
  refine BW 0 0 ?_
  refine AN 5 1 ?_
  refine AN 5 3 ?_
  refine AN 5 4 ?_
  refine BF 5 5 ?_
  refine B9 0 ([w,w].length:Int) ?_
  refine el (j':=0) rfl ?_
  refine B9 1 ([w,w].length:Int) ?_
  refine el (j':=1) rfl ?_
  obtain ⟨_,rfl,G9⟩:=AcF t o w w hu rfl
  refine ch G9 ?_
  first|exact Ai ⟨[t,0],[],[],[]⟩ (rfl) |(exfalso;omega)
 ·obtain ⟨rfl,rfl,rfl,rfl,rfl,c,d,j,u,C,g,N,O,X,Q,U,b2,k3,o3,t3,v3,s3,b3,rfl,h1,h2,h3⟩:=hv;simp only [lC,lN]at M;have e3:=n3 (x:=.node c d j u C g) (y:=.node N O X Q U b2) (z:=.node k3 o3 t3 v3 s3 b3);have e4:=g3 (x:=.node c d j u C g) (y:=.node N O X Q U b2) (z:=.node k3 o3 t3 v3 s3 b3)
  refine .of (t:=Ep) rfl ?_
  unfold Ep
  obtain ⟨_,⟨aK,aI,rfl,rfl,rfl⟩,aD⟩:=Mb J @ih [3,t,t] ln H sub pl Z lo D (E.Ab [.node c d j u C g,.node N O X Q U b2,.node k3 o3 t3 v3 s3 b3]) P R (by exact .cons h1 (.cons h2 (.cons h3 .nil))) rfl
  refine ch aD ?_
  refine BW 0 0 ?_
  refine AN 6 1 ?_
  refine AN 6 3 ?_
  refine AN 6 4 ?_
  refine AN 6 5 ?_
  refine BF 6 6 ?_
  refine B9 0 ([3,t,t].length:Int) ?_
  refine el (j':=0) rfl ?_
  refine BW 3 3 ?_
  refine B9 1 ([3,t,t].length:Int) ?_
  refine el (j':=1) rfl ?_
  refine B9 2 ([3,t,t].length:Int) ?_
  refine el (j':=2) rfl ?_
  refine BW t t ?_
  first|exact Ai ⟨[t,0],[],[],[]⟩ (rfl) |(exfalso;omega)
 ·obtain ⟨rfl,rfl,rfl,rfl,hs,c,d,j,u,C,g,ii,rfl,r1,r2,hg,h1⟩:=hv;simp only [lC,lN]at M;have e3:=n1 (x:=.node c d j u C g);have e4:=g1 (x:=.node c d j u C g)
  refine .of (t:=Ep) rfl ?_
  unfold Ep
  obtain ⟨_,⟨aN,aL,rfl,rfl,rfl⟩,aG⟩:=Mb J @ih [1] ln H sub pl Z lo D (E.Ab [.node c d j u C g]) P R (by exact .cons h1 .nil) rfl
  refine ch aG ?_
  refine BW 0 0 ?_
  refine AN 7 1 ?_
  refine AN 7 3 ?_
  refine AN 7 4 ?_
  refine AN 7 5 ?_
  refine AN 7 6 ?_
  refine AN 7 2 ?_
  refine BF 7 7 ?_
  refine lh (J.look hg) ?_
  refine BF 0 0 ?_
  refine B9 0 ([1].length:Int) ?_
  refine el (j':=0) rfl ?_
  refine BW 1 1 ?_
  first|exact Ai ⟨[t,0],[],[],[]⟩ (rfl) |(exfalso;omega)
 ·obtain ⟨rfl,rfl,rfl,rfl,rfl,c,d,j,u,C,g,N,O,X,Q,U,b2,ii,rfl,rfl,hg,h1,h2⟩:=hv;simp only [lC,lN]at M;have e3:=n2 (x:=.node c d j u C g) (y:=.node N O X Q U b2);have e4:=g2 (x:=.node c d j u C g) (y:=.node N O X Q U b2);obtain ⟨bf,bh,F_,kf,aB,yf,wf,sf,Af,an⟩:=J.fn _ hg;have bg:(AD.length:Int)=2:=rfl
  refine .of (t:=Ep) rfl ?_
  unfold Ep
  obtain ⟨_,⟨aJ,aM,rfl,rfl,rfl⟩,az⟩:=Mb J @ih [1,1] ln H sub pl Z lo D (E.Ab [.node c d j u C g,.node N O X Q U b2]) P R (by exact .cons h1 (.cons h2 .nil)) rfl
  refine ch az ?_
  refine BW 0 0 ?_
  refine AN 8 1 ?_
  refine AN 8 3 ?_
  refine AN 8 4 ?_
  refine AN 8 5 ?_
  refine AN 8 6 ?_
  refine AN 8 2 ?_
  refine AN 8 7 ?_
  refine BF 8 8 ?_
  refine lh (J.look hg) ?_
  refine BF 1 1 ?_
  refine CG ii 0 ?_
  refine B9 ii fl ?_
  refine el an ?_
  obtain ⟨_,rfl,aH⟩:=Amn J (AD.length:Int) 1 (F_.length:Int) kf aB yf wf (Af.length:Int) ([1,1].length:Int) H sub pl Z lo [104] sf D AD F_ Af ([1,1].map Bd) P R rfl rfl
  refine ch aH ?_
  first|exact Ai ⟨[1,0],[],[],[]⟩ (rfl) |(exfalso;omega)
theorem AgG:AmQ 141:=fun {Γ} {al} {fl} {Ar} {Fs} {mp} hC {a} t k o ty v ln grp sub pl bl lo s knm A P R hT hA h=>AjB hC ((E.node k o ty v s a).high+1) t k o ty v ln grp sub pl bl lo s knm A P R hT hA ⟨h,Nat.lt_succ_self _⟩
def AmP (N:Nat):Prop:=∀{Γ:Ctx} {c fl:Int} {g y:Rs} {j:Mp} (J:Ck Γ c fl g y j) {a:List E} (k o:Int) (ty v:Int) (d t:Int) (u sub:Int) (pl z C:Int) (s x:List Nat) (A P R:Rs) (M:T Γ t (.node k o ty v s a)) (H:A=E.Ab a) (h:d=A.length:=by exact kn),Ok trees N ⟨[k,o,ty,v,d,t,u,sub,c,pl,fl,z,C],[s,x],[A,g,P,y,R],[j]⟩ fun D=>(D=(0,(⟨[0],[],[],[]⟩:Ah)))
theorem Yo:AmP 142:=by
 intro Γ D fl M J H g a k o ty v x t c sub pl u y s d A P R j z h
 refine .of (t:=WK) rfl ?_
 unfold WK
 obtain ⟨_,rfl,C⟩:=AgG g t k o ty v x c sub pl u y s d A P R j z
 refine ch C ?_
 refine BF 0 0 ?_
 refine BW t t ?_
 exact Ai ⟨[0],[],[],[]⟩ (rfl)
def AmU (N:Nat):Prop:=∀{Γ:Ctx} {lp pu:Int} {Γ1:Ctx} {Q ya:List E} {bo el:List S} (k o:Int) (t b:Int) (H xo:Int) (xt xw:Int) (J yk:Int) (C yt:Int) (Z U:Int) (g c:Int) (M sub:Int) (j pl:Int) (fl bl lo:Int) (nm xn:List Nat) (A O:List Nat) (X Y:Rs) (u x:Rs) (z P:Rs) (y R:Rs) (D:Mp) (hC:Ck Γ j fl z y D) (hS:Es lp pu Γ (.node k o t b nm (.node H xo xt xw xn Q) (.node yk C yt Z A ya) bo el) Γ1) (hX:X=E.Ab Q) (hY:Y=E.Ab ya) (hB:u=S.Ab bo) (hE:x=S.Ab el) (h:J=X.length∧U=Y.length∧g=u.length∧c=x.length∧k=1:=by exact kn),Ok trees N ⟨[k,o,t,b,H,xo,xt,xw,J,yk,C,yt,Z,U,g,c,M,sub,j,pl,fl,bl,lo],[nm,xn,A,O],[X,Y,u,x,z,P,y,R],[D]⟩ fun zz=>(∃(d:Mp),zz=(0,(⟨[0],[],[],[d]⟩:Ah))∧(Ck Γ1 j fl z y d))
theorem Ams:AmU 137:=by
 intro Γ lp pu Γ1 y ya bo el k o t b u J Q C x yk yo yt yw yl aa Z d sub al pl fl A H nm D yn g X Y Bo El Ar P Fs R j c M N O hB z h
 subst N;subst O;subst hB;subst z;obtain ⟨_,_,_,_,_,hn,hg,r1,r2,hx,_,rfl⟩:=M.Al2 om
 refine .of (t:=WO) rfl ?_
 unfold WO
 obtain ⟨_,rfl,U⟩:=AgG c t u J Q C x d sub pl A H D g (E.Ab y) P R ‹_› rfl
 refine ch U ?_
 refine BW 0 0 ?_
 refine lm (c.Alz hg) ?_
 refine up [.int .i64 3,.int .i64 t,.int .i64 0] ?_
 refine BW t t ?_
 first|exact Ai ⟨[0],[],[],[(Bj j nm [.int .i64 3,.int .i64 t,.int .i64 0])]⟩ (⟨_,rfl,(c.Gj hg)⟩) |(exfalso;omega)
def AmT (N:Nat):Prop:=∀{Γ:Ctx} {lp pu:Int} {Γ1:Ctx} {J ya:List E} {bo el:List S} (k o:Int) (t b:Int) (A xo:Int) (xt U:Int) (C yk:Int) (y yt:Int) (O M:Int) (d c:Int) (D sub:Int) (u pl:Int) (fl bl lo:Int) (nm xn:List Nat) (x H:List Nat) (X Y:Rs) (g j:Rs) (Z P:Rs) (Q R:Rs) (z:Mp) (hC:Ck Γ u fl Z Q z) (hS:Es lp pu Γ (.node k o t b nm (.node A xo xt U xn J) (.node yk y yt O x ya) bo el) Γ1) (hX:X=E.Ab J) (hY:Y=E.Ab ya) (hB:g=S.Ab bo) (hE:j=S.Ab el) (h:C=X.length∧M=Y.length∧d=g.length∧c=j.length∧k=2:=by exact kn),Ok trees N ⟨[k,o,t,b,A,xo,xt,U,C,yk,y,yt,O,M,d,c,D,sub,u,pl,fl,bl,lo],[nm,xn,x,H],[X,Y,g,j,Z,P,Q,R],[z]⟩ fun zz=>(zz=(0,(⟨[0],[],[],[]⟩:Ah)))
theorem Amr:AmT 138:=by
 intro Γ lp pu Γ1 y ya bo el k o t b j J Q C x yk yo yt yw yl aa Z c sub al pl fl A H nm D yn g X Y Bo El Ar P Fs R mp d M N O hB z h
 subst N;subst O;subst hB;subst z;obtain ⟨_,_,_,_,_,_,hn,rfl,u,i,hg,hx,_⟩:=M.Al3 om
 refine .of (t:=WN) rfl ?_
 unfold WN
 refine lh (d.look hg) ?_
 refine BF 3 3 ?_
 obtain ⟨_,rfl,U⟩:=Yo d j J Q C x u c sub pl A H D g (E.Ab y) P R ‹_› rfl
 refine ch U ?_
 first|exact Ai ⟨[0],[],[],[]⟩ (rfl) |(exfalso;omega)
def Kz (N n:Nat):Prop:=∀{Γ:Ctx} {x A:Int} {D:Ctx} {l:List S} (g y:Int) (sub j:Int) (pl fl:Int) (C c:Int) (z:List Nat) (L k:Rs) (P u R:Rs) (o:Mp) (O:Ck Γ j fl k u o) (M:DG x A Γ l D) (J:L=S.Ab l) (h:g=L.length∧g≤200000∧(x=0∨1≤c)∧0≤c∧c+S.Au l≤1000∧S.Ae l≤200000∧A=1∧S.Au l<n),Ok trees N ⟨[g,y,sub,j,pl,fl,C,c],[z],[L,k,P,u,R],[o]⟩ fun H=>(∃(d:Int),H=(0,(⟨[0,d],[],[],[]⟩:Ah))∧(c=d))
def AgV (N:Nat):Prop:=∀{Γ:Ctx} {x A:Int} {D:Ctx} {l:List S} (g y:Int) (sub j:Int) (pl fl:Int) (C c:Int) (z:List Nat) (L k:Rs) (P u R:Rs) (o:Mp) (O:Ck Γ j fl k u o) (M:DG x A Γ l D) (J:L=S.Ab l) (h:g=L.length∧g≤200000∧(x=0∨1≤c)∧0≤c∧c+S.Au l≤1000∧S.Ae l≤200000∧A=1:=by exact kn),Ok trees N ⟨[g,y,sub,j,pl,fl,C,c],[z],[L,k,P,u,R],[o]⟩ fun H=>(∃(d:Int),H=(0,(⟨[0,d],[],[],[]⟩:Ah))∧(c=d))
theorem Kz.of {N n:Nat} (H:AgV N):Kz N n:=fun {Γ} {lp} {pu} {Γe} {l} ln grp sub al pl fl bl lo knm L Ar P Fs R mp hC hO hLs h=>H ln grp sub al pl fl bl lo knm L Ar P Fs R mp hC hO hLs (by have:=h;omega)
def AmS (x N:Nat):Prop:=∀{m:Nat} (am:Kz x m) {Γ:Ctx} {lp pu:Int} {Γ1:Ctx} {U ya:List E} {g el:List S} (k o:Int) (t b:Int) (J xo:Int) (xt xw:Int) (M yk:Int) (D yt:Int) (yw Z:Int) (d c:Int) (O sub:Int) (A pl:Int) (fl bl j:Int) (nm xn:List Nat) (C Q:List Nat) (X Y:Rs) (y z:Rs) (Ar P:Rs) (Fs R:Rs) (H:Mp) (hC:Ck Γ A fl Ar Fs H) (hS:Es lp pu Γ (.node k o t b nm (.node J xo xt xw xn U) (.node yk D yt yw C ya) g el) Γ1) (hX:X=E.Ab U) (hY:Y=E.Ab ya) (hB:y=S.Ab g) (hE:z=S.Ab el) (h:M=X.length∧Z=Y.length∧d=y.length∧c=z.length∧(lp=0∨1≤j)∧0≤j∧j+max (S.Au g) (S.Au el)≤1000∧S.Ae g≤200000∧S.Ae el≤200000∧S.Au g<m∧S.Au el<m∧d≤200000∧c≤200000∧k=5∧pu=1:=by exact kn),Ok trees N ⟨[k,o,t,b,J,xo,xt,xw,M,yk,D,yt,yw,Z,d,c,O,sub,A,pl,fl,bl,j],[nm,xn,C,Q],[X,Y,y,z,Ar,P,Fs,R],[H]⟩ fun zz=>(∃(u:Int),zz=(0,(⟨[0,u],[],[],[]⟩:Ah))∧(j=u))
theorem Amq:AmS 149 139:=by
 intro m c Γ lp pu Γ1 O ya bo el k o t b M xo xt xw N yk yo yt yw yl D A d sub y pl fl x j nm xn yn g X Y Bo El H P C R z u hS hX hY hB U h
 subst hX;subst hY;subst hB;subst U;obtain ⟨_,_,_,_,_,hx,_,rfl,Γa,Γb,ak,am⟩:=hS.kif om
 refine .of (t:=WM) rfl ?_
 unfold WM
 obtain ⟨_,rfl,G1⟩:=Yo u M xo xt xw N 3 d sub pl x j xn g (E.Ab O) P R ‹_› rfl
 refine ch G1 ?_
 refine BF 0 0 ?_
 obtain ⟨_,⟨Z,rfl,rfl⟩,G2⟩:=c D d sub y pl fl x j g (S.Ab bo) H P C R z u ‹_› rfl kn
 refine ch G2 ?_
 refine BF 0 0 ?_
 obtain ⟨_,⟨J,rfl,rfl⟩,Q⟩:=c A d sub y pl fl x j g (S.Ab el) H P C R z u ‹_› rfl kn
 refine ch Q ?_
 first|exact Ai ⟨[0,j],[],[],[]⟩ (⟨_,rfl,kn⟩) |(exfalso;omega)
def AmR (x N:Nat):Prop:=∀{m:Nat} (am:Kz x m) {Γ:Ctx} {lp pu:Int} {Γ1:Ctx} {U ya:List E} {c el:List S} (k o:Int) (t b:Int) (J xo:Int) (xt xw:Int) (M yk:Int) (D yt:Int) (yw Z:Int) (d j:Int) (O sub:Int) (A pl:Int) (fl bl g:Int) (nm xn:List Nat) (C Q:List Nat) (X Y:Rs) (y z:Rs) (Ar P:Rs) (Fs R:Rs) (H:Mp) (hC:Ck Γ A fl Ar Fs H) (hS:Es lp pu Γ (.node k o t b nm (.node J xo xt xw xn U) (.node yk D yt yw C ya) c el) Γ1) (hX:X=E.Ab U) (hY:Y=E.Ab ya) (hB:y=S.Ab c) (hE:z=S.Ab el) (h:M=X.length∧Z=Y.length∧d=y.length∧j=z.length∧(lp=0∨1≤g)∧0≤g∧g+1+S.Au c≤1000∧S.Au c<m∧d≤200000∧S.Ae c≤200000∧S.Ae c≤200000∧k=6∧pu=1:=by exact kn),Ok trees N ⟨[k,o,t,b,J,xo,xt,xw,M,yk,D,yt,yw,Z,d,j,O,sub,A,pl,fl,bl,g],[nm,xn,C,Q],[X,Y,y,z,Ar,P,Fs,R],[H]⟩ fun zz=>(∃(u:Int),zz=(0,(⟨[0,u],[],[],[]⟩:Ah))∧(g=u))
theorem Amp:AmR 149 140:=by
 intro m d Γ lp pu Γ1 J ya U el k o t b C xo xt O H yk yo yt yw yl y aj g sub z pl fl x c nm Q yn j X Y Bo El Z P N R A u hS hX hY hB M h
 subst hX;subst hY;subst hB;subst M;obtain ⟨_,_,_,_,_,hx,_,b1,b2,rfl,Γa,ak⟩:=hS.Al1 om
 refine .of (t:=WL) rfl ?_
 unfold WL
 obtain ⟨_,rfl,G1⟩:=Yo u C xo xt O H 3 g sub pl x c Q j (E.Ab J) P R ‹_› rfl
 refine ch G1 ?_
 refine BW 0 0 ?_
 refine lt b 1 (fun t2=>?_) fun t2=>?_
 ·first|exact Ai ⟨[1,c],[],[],[]⟩ (⟨_,rfl,kn⟩) |(exfalso;omega)
 refine gt b 1024 (fun t3=>?_) fun t3=>?_
 ·first|exact Ai ⟨[1,c],[],[],[]⟩ (⟨_,rfl,kn⟩) |(exfalso;omega)
 obtain ⟨_,⟨aa,rfl,rfl⟩,D⟩:=d y g sub z pl fl x (c+1) j (S.Ab U) Z P N R A u ‹_› rfl kn
 refine ch D ?_
 first|exact Ai ⟨[0,((c+1)-1)],[],[],[]⟩ (⟨_,rfl,kn⟩) |(exfalso;omega)
def An5 (M N:Nat) (m n:Nat):Prop:=∀{Γ:Ctx} {A H:Int} {y:Ctx} {l:List S} (d len:Int) (j C:Int) (sub o:Int) (pl fl:Int) (J c:Int) (D:List Nat) (L u:Rs) (P x R:Rs) (z:Mp) (X:Ck Γ o fl u x z) (U:DG A H Γ (l.drop j.toNat) y) (Q:L=S.Ab l) (h:d=L.length∧d≤200000∧len=d∧0≤j∧(A=0∨1≤c)∧0≤c∧c+S.Au (l.drop j.toNat)≤1000∧S.Au (l.drop j.toNat)≤m∧S.Ae (l.drop j.toNat)≤200000∧H=1∧(len-j).toNat<n),Ok trees N ⟨[d,len,j,C,sub,o,pl,fl,J,c],[D],[L,u,P,x,R],[z]⟩ fun O=>(∃(g:Int),∃(k:Mp),O=(1,(⟨[g],[],[],[k]⟩:Ah))∧(Ck y o fl u x k)∧(c=g))
def AmW (x N:Nat):Prop:=∀{m:Nat} (M:Kz x m) {Γ:Ctx} {C J:Int} {z:Ctx} {l:List S} (d len:Int) (j D:Int) (sub o:Int) (pl fl:Int) (O c:Int) (H:List Nat) (L u:Rs) (P y R:Rs) (A:Mp) (Z:Ck Γ o fl u y A) (X:DG C J Γ (l.drop j.toNat) z) (U:L=S.Ab l) (h:d=L.length∧d≤200000∧len=d∧0≤j∧(C=0∨1≤c)∧0≤c∧c+S.Au (l.drop j.toNat)≤1000∧S.Au (l.drop j.toNat)≤m∧S.Ae (l.drop j.toNat)≤200000∧J=1:=by exact kn),Ok trees N ⟨[d,len,j,D,sub,o,pl,fl,O,c],[H],[L,u,P,y,R],[A]⟩ fun Q=>(∃(g:Int),∃(k:Mp),Q=(1,(⟨[g],[],[],[k]⟩:Ah))∧(Ck z o fl u y k)∧(c=g))
theorem AjD {m:Nat} (aj:Kz 149 m) (n:Nat):An5 149 135 m n:=by
 induction n with
 |zero=>intro Γ lp pu Γe l Z len j y sub D pl fl J g x L N P H R M u z aw h;exact absurd h.2.2.2.2.2.2.2.2.2.2 (Nat.not_lt_zero _)
 |succ n ih=>
 intro Γ lp pu Γe l Z len j y sub D pl fl J g x L N P H R M u z aw h
 subst aw
 refine .of (t:=WR) rfl ?_
 unfold WR
 refine lt j len (fun t1=>?_) fun t1=>?_
 ·refine CG j 0 ?_
  refine B9 j Z ?_
  obtain ⟨d,ai,t_1,ah,aa,ag,ae,U,Q,af,A,O,ac,ab,X,ad,C,k,o,bd,aC,c,bo,br,bk⟩:=DG.get j z om om
  refine el aC ?_
  have bw:=c.AbT;have a8:=S.len k;have aW:=S.len o;have aX:=S.Az k;have a1:=S.Az o;have aV:=c.pure
  refine eq d 1 (fun t3=>?_) fun t3=>?_
  ·obtain ⟨_,⟨aA,rfl,aD⟩,G4⟩:=Ams d ai t_1 ah ag ae U Q ((E.Ab A).length:Int) O ac ab X ((E.Ab C).length:Int) ((S.Ab k).length:Int) ((S.Ab o).length:Int) y sub D pl fl J g aa af ad x (E.Ab A) (E.Ab C) (S.Ab k) (S.Ab o) N P H R M u c rfl rfl rfl rfl
   refine ch G4 ?_
   refine BW 0 0 ?_
   obtain ⟨_,⟨bf,aB,rfl,bg,rfl⟩,G5⟩:=ih Z len (j+1) y sub D pl fl J g x (S.Ab l) N P H R aA aD ‹_› rfl kn
   refine cm G5 ?_
   refine ch G5 ?_
   exact Ai ⟨[g],[],[],[aB]⟩ (⟨_,_,rfl,(by first|assumption|(obtain ⟨_,_,e⟩:=Bs (l:=l) (j:=j) om;rw [e]at z;cases z;exact u)),kn⟩)
  refine eq d 2 (fun t6=>?_) fun t6=>?_
  ·obtain ⟨_,rfl,G7⟩:=Amr d ai t_1 ah ag ae U Q ((E.Ab A).length:Int) O ac ab X ((E.Ab C).length:Int) ((S.Ab k).length:Int) ((S.Ab o).length:Int) y sub D pl fl J g aa af ad x (E.Ab A) (E.Ab C) (S.Ab k) (S.Ab o) N P H R M u c rfl rfl rfl rfl
   refine ch G7 ?_
   refine BW 0 0 ?_
   obtain ⟨_,⟨bt,az,rfl,bv,rfl⟩,G8⟩:=ih Z len (j+1) y sub D pl fl J g x (S.Ab l) N P H R M (u.keep c om) ‹_› rfl kn
   refine cm G8 ?_
   refine ch G8 ?_
   exact Ai ⟨[g],[],[],[az]⟩ (⟨_,_,rfl,(by first|assumption|(obtain ⟨_,_,e⟩:=Bs (l:=l) (j:=j) om;rw [e]at z;cases z;exact u)),kn⟩)
  refine eq d 5 (fun t9=>?_) fun t9=>?_
  ·obtain ⟨_,⟨a0,rfl,rfl⟩,aP⟩:=Amq @aj d ai t_1 ah ag ae U Q ((E.Ab A).length:Int) O ac ab X ((E.Ab C).length:Int) ((S.Ab k).length:Int) ((S.Ab o).length:Int) y sub D pl fl J g aa af ad x (E.Ab A) (E.Ab C) (S.Ab k) (S.Ab o) N P H R M u c rfl rfl rfl rfl
   refine ch aP ?_
   refine BW 0 0 ?_
   obtain ⟨_,⟨a4,ak,rfl,a7,rfl⟩,ay⟩:=ih Z len (j+1) y sub D pl fl J g x (S.Ab l) N P H R M (u.keep c om) ‹_› rfl kn
   refine cm ay ?_
   refine ch ay ?_
   exact Ai ⟨[g],[],[],[ak]⟩ (⟨_,_,rfl,(by first|assumption|(obtain ⟨_,_,e⟩:=Bs (l:=l) (j:=j) om;rw [e]at z;cases z;exact u)),kn⟩)
  refine eq d 6 (fun aR=>?_) fun aR=>?_
  ·obtain ⟨_,⟨a6,rfl,rfl⟩,aU⟩:=Amp @aj d ai t_1 ah ag ae U Q ((E.Ab A).length:Int) O ac ab X ((E.Ab C).length:Int) ((S.Ab k).length:Int) ((S.Ab o).length:Int) y sub D pl fl J g aa af ad x (E.Ab A) (E.Ab C) (S.Ab k) (S.Ab o) N P H R M u c rfl rfl rfl rfl
   refine ch aU ?_
   refine BW 0 0 ?_
   obtain ⟨_,⟨ba,ap,rfl,aZ,rfl⟩,ax⟩:=ih Z len (j+1) y sub D pl fl J g x (S.Ab l) N P H R M (u.keep c om) ‹_› rfl kn
   refine cm ax ?_
   refine ch ax ?_
   exact Ai ⟨[g],[],[],[ap]⟩ (⟨_,_,rfl,(by first|assumption|(obtain ⟨_,_,e⟩:=Bs (l:=l) (j:=j) om;rw [e]at z;cases z;exact u)),kn⟩)
  refine eq d 7 (fun aN=>?_) fun aN=>?_
  ·refine eq g 0 (fun aE=>?_) fun aE=>?_
   ·exact dead
   obtain ⟨_,⟨aY,am,rfl,a9,rfl⟩,au⟩:=ih Z len (j+1) y sub D pl fl J g x (S.Ab l) N P H R M (u.keep c om) ‹_› rfl kn
   refine cm au ?_
   refine ch au ?_
   exact Ai ⟨[g],[],[],[am]⟩ (⟨_,_,rfl,(by first|assumption|(obtain ⟨_,_,e⟩:=Bs (l:=l) (j:=j) om;rw [e]at z;cases z;exact u)),kn⟩)
  refine eq d 8 (fun aJ=>?_) fun aJ=>?_
  ·refine eq g 0 (fun aM=>?_) fun aM=>?_
   ·exact dead
   obtain ⟨_,⟨a5,an,rfl,a2,rfl⟩,av⟩:=ih Z len (j+1) y sub D pl fl J g x (S.Ab l) N P H R M (u.keep c om) ‹_› rfl kn
   refine cm av ?_
   refine ch av ?_
   exact Ai ⟨[g],[],[],[an]⟩ (⟨_,_,rfl,(by first|assumption|(obtain ⟨_,_,e⟩:=Bs (l:=l) (j:=j) om;rw [e]at z;cases z;exact u)),kn⟩)
  refine eq d 3 (fun aL=>?_) fun aL=>?_
  ·exact dead
  refine eq d 4 (fun aI=>?_) fun aI=>?_
  ·exact dead
  refine eq d 12 (fun aO=>?_) fun aO=>?_
  ·exact dead
  refine eq d 9 (fun aQ=>?_) fun aQ=>?_
  ·exact dead
  refine eq d 10 (fun aG=>?_) fun aG=>?_
  ·exact dead
  refine eq d 11 (fun aF=>?_) fun aF=>?_
  ·exact dead
  obtain ⟨_,⟨bb,ao,rfl,a3,rfl⟩,aq⟩:=ih Z len (j+1) y sub D pl fl J g x (S.Ab l) N P H R M (u.keep c om) ‹_› rfl kn
  refine cm aq ?_
  refine ch aq ?_
  exact Ai ⟨[g],[],[],[ao]⟩ (⟨_,_,rfl,(by first|assumption|(obtain ⟨_,_,e⟩:=Bs (l:=l) (j:=j) om;rw [e]at z;cases z;exact u)),kn⟩)
 exact Ai ⟨[g],[],[],[M]⟩ (⟨_,_,rfl,(by first|assumption|(obtain ⟨_,_,e⟩:=Bs (l:=l) (j:=j) om;rw [e]at z;cases z;exact u)),kn⟩)
theorem Amu:AmW 149 135:=fun {m} hC149 {Γ} {lp} {pu} {Γe} {l} ln len j grp sub al pl fl bl lo knm L Ar P Fs R mp hC hO hLs h=>AjD @hC149 ((len-j).toNat+1) ln len j grp sub al pl fl bl lo knm L Ar P Fs R mp hC hO hLs ⟨h.1,h.2.1,h.2.2.1,h.2.2.2.1,h.2.2.2.2.1,h.2.2.2.2.2.1,h.2.2.2.2.2.2.1,h.2.2.2.2.2.2.2.1,h.2.2.2.2.2.2.2.2.1,h.2.2.2.2.2.2.2.2.2,Nat.lt_succ_self _⟩
def Anb (u N:Nat):Prop:=∀{m:Nat} (J:Kz u m) {Γ:Ctx} {A H:Int} {y:Ctx} {l:List S} (k C:Int) (sub j:Int) (pl fl:Int) (M c:Int) (D:List Nat) (L o:Rs) (P x R:Rs) (z:Mp) (X:Ck Γ j fl o x z) (U:DG A H Γ l y) (Q:L=S.Ab l) (h:k=L.length∧k≤200000∧(A=0∨1≤c)∧0≤c∧c+S.Au l≤1000∧S.Ae l≤200000∧S.Au l≤m∧H=1:=by exact kn),Ok trees N ⟨[k,C,sub,j,pl,fl,M,c],[D],[L,o,P,x,R],[z]⟩ fun O=>(∃(d:Int),∃(g:Mp),O=(0,(⟨[0,d],[],[],[g]⟩:Ah))∧(Ck y j fl o x g)∧(c=d))
theorem AgI:Anb 149 130:=by
 intro m c Γ X Z Q l o g sub y pl fl J u k L M P H R z C N j h
 subst j;have U:S.Au (l.drop (0:Int).toNat)=S.Au l:=rfl;have O:S.Ae (l.drop (0:Int).toNat)=S.Ae l:=rfl
 refine .of (t:=WV) rfl ?_
 unfold WV
 obtain ⟨_,⟨D,d,rfl,A,rfl⟩,x⟩:=Amu @c o o 0 g sub y pl fl J u k (S.Ab l) M P H R z C N rfl
 refine cm x ?_
 refine ch x ?_
 exact Ai ⟨[0,u],[],[],[d]⟩ (⟨_,_,rfl,‹_›,kn⟩)
theorem Aj8 (n:Nat):Kz 149 n:=by
 induction n with
 |zero=>intro Γ N Q M l z c sub k pl fl y j g L A P x R o u C d h;exact absurd h.2.2.2.2.2.2.2 (Nat.not_lt_zero _)
 |succ n ih=>
 intro Γ N Q M l z c sub k pl fl y j g L A P x R o u C d h
 refine .of (t:=WD) rfl ?_
 unfold WD
 obtain ⟨_,⟨J,H,rfl,D,rfl⟩,O⟩:=AgI @ih z c sub k pl fl y j g L A P x R o u C d
 refine ch O ?_
 exact Ai ⟨[0,j],[],[],[]⟩ (⟨_,rfl,kn⟩)
theorem Amk:AgV 149:=fun {Γ} {lp} {pu} {Γe} {l} ln grp sub al pl fl bl lo knm L Ar P Fs R mp hC hO hLs h=>Aj8 (S.Au l+1) ln grp sub al pl fl bl lo knm L Ar P Fs R mp hC hO hLs ⟨h.1,h.2.1,h.2.2.1,h.2.2.2.1,h.2.2.2.2.1,h.2.2.2.2.2.1,h.2.2.2.2.2.2,Nat.lt_succ_self _⟩
end Go.Proofs.YtbmofjdmgjpfoaaGreatDoor.Am
end
section
set_option maxHeartbeats 4000000
set_option maxRecDepth 100000
namespace Go.Proofs.YtbmofjdmgjpfoaaGreatDoor.Am
open Go.AM Go.AM.K
def An9 (N n:Nat):Prop:=∀(n1 d:Int) (len j:Int) (g1 C:Int) (P p1:Int) (D Z:Int) (g2 k:Int) (a2 O:Int) (J r2 z:Int) (A y:List Nat) (L o:Rs) (M x:Rs) (U u:Rs) (R X H:Rs) (g:Mp) (hL:L=Ax) (hm:g=Dl j) (h:d=5∧len=5∧0≤j∧j≤5∧(5-j).toNat<n),Ok trees N ⟨[n1,d,len,j,g1,C,P,p1,D,Z,g2,k,a2,O,J,r2,z],[A,y],[L,o,M,x,U,u,R,X,H],[g]⟩ fun Q=>(∃(c:Mp),Q=(0,(⟨[],[],[],[c]⟩:Ah))∧(c=Dl 5))
def Ano (N:Nat):Prop:=∀(n1 d:Int) (len j:Int) (g1 C:Int) (P p1:Int) (D Z:Int) (g2 k:Int) (a2 O:Int) (J r2 z:Int) (A y:List Nat) (L o:Rs) (M x:Rs) (U u:Rs) (R X H:Rs) (g:Mp) (hL:L=Ax) (hm:g=Dl j) (h:d=5∧len=5∧0≤j∧j≤5:=by exact kn),Ok trees N ⟨[n1,d,len,j,g1,C,P,p1,D,Z,g2,k,a2,O,J,r2,z],[A,y],[L,o,M,x,U,u,R,X,H],[g]⟩ fun Q=>(∃(c:Mp),Q=(0,(⟨[],[],[],[c]⟩:Ah))∧(c=Dl 5))
theorem AjI (n:Nat):An9 112 n:=by
 induction n with
 |zero=>intro n1 ln len j g1 J O p1 o z g2 A a2 N x R D H k L C M g P d y Q u Z U c h;exact absurd h.2.2.2.2 (Nat.not_lt_zero _)
 |succ n ih=>
 intro n1 ln len j g1 J O p1 o z g2 A a2 N x R D H k L C M g P d y Q u Z U c h
 subst U;have ⟨h1,h2,am,ao,an⟩:=h;subst h1;subst h2
 rcases (by omega:j=0∨j=1∨j=2∨j=3∨j=4∨j=5)with rfl|rfl|rfl|rfl|rfl|rfl
 ·subst c
  refine .of (t:=FD) rfl ?_
  unfold FD
  refine B9 0 5 ?_
  refine CG 0 0 ?_
  refine B9 0 5 ?_
  refine el (j':=0) rfl ?_
  refine lm rfl ?_
  refine up [.int .i64 0,.int .i64 1,.int .i64 0] ?_
  obtain ⟨_,⟨af,rfl,rfl⟩,G1⟩:=ih n1 5 5 (0+1) g1 J O p1 o z g2 A a2 N x R D H k Ax C M g P d y Q u (Bj (Dl 0) [97] [.int .i64 0,.int .i64 1,.int .i64 0]) rfl rfl kn
  refine ch G1 ?_
  exact Ai ⟨[],[],[],[(Dl 5)]⟩ (⟨_,rfl,rfl⟩)
 ·subst c
  refine .of (t:=FD) rfl ?_
  unfold FD
  refine B9 1 5 ?_
  refine CG 1 0 ?_
  refine B9 1 5 ?_
  refine el (j':=1) rfl ?_
  refine lm rfl ?_
  refine up [.int .i64 0,.int .i64 2,.int .i64 1] ?_
  obtain ⟨_,⟨ah,rfl,rfl⟩,G2⟩:=ih n1 5 5 (1+1) g1 J O p1 o z g2 A a2 N x R D H k Ax C M g P d y Q u (Bj (Dl 1) [102] [.int .i64 0,.int .i64 2,.int .i64 1]) rfl rfl kn
  refine ch G2 ?_
  exact Ai ⟨[],[],[],[(Dl 5)]⟩ (⟨_,rfl,rfl⟩)
 ·subst c
  refine .of (t:=FD) rfl ?_
  unfold FD
  refine B9 2 5 ?_
  refine CG 2 0 ?_
  refine B9 2 5 ?_
  refine el (j':=2) rfl ?_
  refine lm rfl ?_
  refine up [.int .i64 0,.int .i64 1,.int .i64 2] ?_
  obtain ⟨_,⟨ai,rfl,rfl⟩,G3⟩:=ih n1 5 5 (2+1) g1 J O p1 o z g2 A a2 N x R D H k Ax C M g P d y Q u (Bj (Dl 2) [115] [.int .i64 0,.int .i64 1,.int .i64 2]) rfl rfl kn
  refine ch G3 ?_
  exact Ai ⟨[],[],[],[(Dl 5)]⟩ (⟨_,rfl,rfl⟩)
 ·subst c
  refine .of (t:=FD) rfl ?_
  unfold FD
  refine B9 3 5 ?_
  refine CG 3 0 ?_
  refine B9 3 5 ?_
  refine el (j':=3) rfl ?_
  refine lm rfl ?_
  refine up [.int .i64 0,.int .i64 1,.int .i64 3] ?_
  obtain ⟨_,⟨X,rfl,rfl⟩,G4⟩:=ih n1 5 5 (3+1) g1 J O p1 o z g2 A a2 N x R D H k Ax C M g P d y Q u (Bj (Dl 3) [112] [.int .i64 0,.int .i64 1,.int .i64 3]) rfl rfl kn
  refine ch G4 ?_
  exact Ai ⟨[],[],[],[(Dl 5)]⟩ (⟨_,rfl,rfl⟩)
 ·subst c
  refine .of (t:=FD) rfl ?_
  unfold FD
  refine B9 4 5 ?_
  refine CG 4 0 ?_
  refine B9 4 5 ?_
  refine el (j':=4) rfl ?_
  refine lm rfl ?_
  refine up [.int .i64 0,.int .i64 3,.int .i64 4] ?_
  obtain ⟨_,⟨ad,rfl,rfl⟩,G5⟩:=ih n1 5 5 (4+1) g1 J O p1 o z g2 A a2 N x R D H k Ax C M g P d y Q u (Bj (Dl 4) [98] [.int .i64 0,.int .i64 3,.int .i64 4]) rfl rfl kn
  refine ch G5 ?_
  exact Ai ⟨[],[],[],[(Dl 5)]⟩ (⟨_,rfl,rfl⟩)
 ·subst c
  refine .of (t:=FD) rfl ?_
  unfold FD
  refine Ek 5 5 ?_
  exact Ai ⟨[],[],[],[(Dl 5)]⟩ (⟨_,rfl,rfl⟩)
theorem Am1:Ano 112:=fun n1 H len j g1 N R p1 o A g2 C a2 Q x Z J M k L D P d U c z X u g y O h=>AjI ((5-j).toNat+1) n1 H len j g1 N R p1 o A g2 C a2 Q x Z J M k L D P d U c z X u g y O ⟨h.1,h.2.1,h.2.2.1,h.2.2.2,Nat.lt_succ_self _⟩
def An7 (N n:Nat):Prop:=∀(d len:Int) (j g2:Int) (z a2:Int) (Z R:Int) (r2 J:Int) (y g:Int) (o U:Int) (D C:Int) (X O:Int) (H k x:List Nat) (L A:Rs) (P2 F2:Rs) (P Q:Rs) (FB M:Rs) (u:Mp) (hL:L=AD) (hm:u=HV j) (h:d=2∧len=2∧0≤j∧j≤2∧(2-j).toNat<n),Ok trees N ⟨[d,len,j,g2,z,a2,Z,R,r2,J,y,g,o,U,D,C,X,O],[H,k,x],[L,A,P2,F2,P,Q,FB,M],[u]⟩ fun zz=>(∃(c:Mp),zz=(1,(⟨[],[],[],[c]⟩:Ah))∧(c=HV 2))
def Anc (N:Nat):Prop:=∀(d len:Int) (j g2:Int) (z a2:Int) (Z R:Int) (r2 J:Int) (y g:Int) (o U:Int) (D C:Int) (X O:Int) (H k x:List Nat) (L A:Rs) (P2 F2:Rs) (P Q:Rs) (FB M:Rs) (u:Mp) (hL:L=AD) (hm:u=HV j) (h:d=2∧len=2∧0≤j∧j≤2:=by exact kn),Ok trees N ⟨[d,len,j,g2,z,a2,Z,R,r2,J,y,g,o,U,D,C,X,O],[H,k,x],[L,A,P2,F2,P,Q,FB,M],[u]⟩ fun zz=>(∃(c:Mp),zz=(1,(⟨[],[],[],[c]⟩:Ah))∧(c=HV 2))
theorem AjF (n:Nat):An7 129 n:=by
 induction n with
 |zero=>intro ln len j g2 N a2 U H Z P k c g J O y R C z d o L x M X D Q FB A mp hL u h;exact absurd h.2.2.2.2 (Nat.not_lt_zero _)
 |succ n ih=>
 intro ln len j g2 N a2 U H Z P k c g J O y R C z d o L x M X D Q FB A mp hL u h
 subst hL;have ⟨h1,h2,ak,am,al⟩:=h;subst h1;subst h2
 rcases (by omega:j=0∨j=1∨j=2)with rfl|rfl|rfl
 ·subst u
  refine .of (t:=Lw) rfl ?_
  unfold Lw
  refine B9 0 2 ?_
  refine CG 0 0 ?_
  refine B9 0 2 ?_
  refine el (j':=0) rfl ?_
  refine lm rfl ?_
  refine up [.int .i64 2,.int .i64 1,.int .i64 0] ?_
  obtain ⟨_,⟨ah,rfl,rfl⟩,G1⟩:=ih 2 2 (0+1) g2 N a2 U H Z P k c g J O y R C z d o AD x M X D Q FB A (Bj (HV 0) [120] [.int .i64 2,.int .i64 1,.int .i64 0]) rfl rfl kn
  refine cm G1 ?_
  refine ch G1 ?_
  exact Ai ⟨[],[],[],[(HV 2)]⟩ (⟨_,rfl,rfl⟩)
 ·subst u
  refine .of (t:=Lw) rfl ?_
  unfold Lw
  refine B9 1 2 ?_
  refine CG 1 0 ?_
  refine B9 1 2 ?_
  refine el (j':=1) rfl ?_
  refine lm rfl ?_
  refine up [.int .i64 2,.int .i64 1,.int .i64 0] ?_
  obtain ⟨_,⟨aj,rfl,rfl⟩,G2⟩:=ih 2 2 (1+1) g2 N a2 U H Z P k c g J O y R C z d o AD x M X D Q FB A (Bj (HV 1) [121] [.int .i64 2,.int .i64 1,.int .i64 0]) rfl rfl kn
  refine cm G2 ?_
  refine ch G2 ?_
  exact Ai ⟨[],[],[],[(HV 2)]⟩ (⟨_,rfl,rfl⟩)
 ·subst u
  refine .of (t:=Lw) rfl ?_
  unfold Lw
  refine Ek 2 2 ?_
  exact Ai ⟨[],[],[],[(HV 2)]⟩ (⟨_,rfl,rfl⟩)
theorem Amy:Anc 129:=fun P len j g2 O a2 p2 H r2 R k c g J Q x Z C z d o L u N F2 D X FB A y M U h=>AjF ((2-j).toNat+1) P len j g2 O a2 p2 H r2 R k c g J Q x Z C z d o L u N F2 D X FB A y M U ⟨h.1,h.2.1,h.2.2.1,h.2.2.2,Nat.lt_succ_self _⟩
def An8 (N n:Nat):Prop:=∀(n1 d:Int) (len j:Int) (g1 C:Int) (P p1:Int) (D Z:Int) (g2 k:Int) (a2 O:Int) (J r2 z:Int) (A y:List Nat) (L o:Rs) (M x:Rs) (U u:Rs) (R X H:Rs) (g:Mp) (h:d=0∧len=0∧j=0∧(len-j).toNat<n),Ok trees N ⟨[n1,d,len,j,g1,C,P,p1,D,Z,g2,k,a2,O,J,r2,z],[A,y],[L,o,M,x,U,u,R,X,H],[g]⟩ fun Q=>(∃(c:Mp),Q=(0,(⟨[],[],[],[c]⟩:Ah))∧(c=g))
def Ann (N:Nat):Prop:=∀(n1 d:Int) (len j:Int) (g1 C:Int) (P p1:Int) (D Z:Int) (g2 k:Int) (a2 O:Int) (J r2 z:Int) (A y:List Nat) (L o:Rs) (M x:Rs) (U u:Rs) (R X H:Rs) (g:Mp) (h:d=0∧len=0∧j=0:=by exact kn),Ok trees N ⟨[n1,d,len,j,g1,C,P,p1,D,Z,g2,k,a2,O,J,r2,z],[A,y],[L,o,M,x,U,u,R,X,H],[g]⟩ fun Q=>(∃(c:Mp),Q=(0,(⟨[],[],[],[c]⟩:Ah))∧(c=g))
theorem AjH (n:Nat):An8 114 n:=by
 induction n with
 |zero=>intro n1 D len j g1 M P p1 o z g2 A a2 O x U H J k L C N g Q d y R u c h;exact absurd h.2.2.2 (Nat.not_lt_zero _)
 |succ n ih=>
 intro n1 D len j g1 M P p1 o z g2 A a2 O x U H J k L C N g Q d y R u c h
 obtain ⟨rfl,rfl,rfl,_⟩:=h
 refine .of (t:=Xd) rfl ?_
 unfold Xd
 refine Ek 0 0 ?_
 exact Ai ⟨[],[],[],[c]⟩ (⟨_,rfl,rfl⟩)
theorem Am0:Ann 114:=fun n1 D len j g1 M P p1 o z g2 A a2 O x U H J k L C N d Q c y R u g h=>AjH ((len-j).toNat+1) n1 D len j g1 M P p1 o z g2 A a2 O x U H J k L C N d Q c y R u g ⟨h.1,h.2.1,h.2.2,Nat.lt_succ_self _⟩
def Anp (N:Nat):Prop:=∀{c:List S} {z:List E} {k:Ctx} {u j:Int} {ry rw:Int} {x:List Nat} (g sub:Int) (d pl:Int) (fl C n:Int) (y:List Nat) (o P:Rs) (A R:Rs) (H:o=Ax) (J:A=[hrow AD (S.Ab c) u j ry x rw (E.Ab z)]) (M:DG 0 1 fΓ c k) (O:T k 1 (.node u j ry rw x z)) (h:n=0∧d=5∧fl=1∧S.Au c≤900∧S.Ae c≤200000:=by exact kn),Ok trees N ⟨[g,sub,d,pl,fl,C,n],[y],[o,P,A,R],[]⟩ fun D=>(D=(0,(⟨[0],[],[],[]⟩:Ah)))
theorem Am2:Anp 111:=by
 intro k o Γe y D x rw z g sub al pl fl j n c Ar P d R H u hO hT h
 subst H;have ⟨h1,U,Q,h4,h5⟩:=h;subst h1;subst U;subst Q;have C:d[(0:Int).toNat]?=some (hrow AD (S.Ab k) y D x z rw (E.Ab o)):=(by subst u;rfl);have am:(AD.length:Int)=2:=rfl;have an:=S.len k;have ak:=S.Az k
 refine .of (t:=Xe) rfl ?_
 unfold Xe
 refine md [] ?_
 obtain ⟨_,⟨af,rfl,rfl⟩,G1⟩:=Am1 0 5 5 0 g sub 5 pl 1 j g sub 5 pl 1 j 0 c c Ax Ax P d R Ax P d R [] rfl rfl
 refine ch G1 ?_
 refine dL (d.take (0:Int).toNat) (fun O M=>?_) (Fw (pt 0 d))
 have f2:=cL M;try simp only [lA,lC,lN,lT']at f2
 obtain ⟨_,⟨ag,rfl,rfl⟩,G3⟩:=Am0 0 0 0 0 g sub 5 pl 1 j g sub 5 pl 1 j 0 c c O Ax P d R Ax P d R (Dl 5)
 refine ch G3 ?_
 refine CG 0 0 ?_
 refine B9 0 1 ?_
 refine el C ?_
 obtain ⟨_,⟨N,rfl,rfl⟩,J⟩:=Amy (AD.length:Int) (AD.length:Int) 0 g sub 5 pl 1 j 0 (AD.length:Int) 1 ((S.Ab k).length:Int) y D x rw ((E.Ab o).length:Int) c [104] z AD Ax P d R AD (S.Ab k) (E.Ab o) (Dl 5) rfl rfl
 refine cm J ?_
 refine ch J ?_
 obtain ⟨_,⟨Z,ac,rfl,A,rfl⟩,G5⟩:=AgI (Kz.of (n:=1000) @Amk) ((S.Ab k).length:Int) g sub 5 pl 1 j 0 c (S.Ab k) Ax P d R (HV 2) (Ck.Aiy (by subst u;rfl)) hO rfl
 refine ch G5 ?_
 refine BW 0 0 ?_
 obtain ⟨_,rfl,X⟩:=Yo A y D x rw ((E.Ab o).length:Int) 1 g sub pl j 0 z c (E.Ab o) P R hT rfl
 refine ch X ?_
 exact Ai ⟨[0],[],[],[]⟩ (rfl)
end Go.Proofs.YtbmofjdmgjpfoaaGreatDoor.Am
end
