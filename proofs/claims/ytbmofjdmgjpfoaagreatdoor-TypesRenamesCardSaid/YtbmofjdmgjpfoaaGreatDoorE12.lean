/- Part 12 of the proof of TypesRenames. -/
import Derived.Test.YtbmofjdmgjpfoaaGreatDoorE11
set_option linter.all false
section
set_option maxHeartbeats 4000000
set_option maxRecDepth 100000
namespace Go.Proofs.YtbmofjdmgjpfoaaGreatDoor.Am
open Go.AM Go.AM.K
def Ana (N:Nat):Prop:=∀(u:Int) (o t:Int) (c:ZG o t u),Ok trees N ⟨[o,t],[],[],[]⟩ fun x=>x=(0,(⟨[u,0],[],[],[]⟩:Ah))
theorem AgH:Ana 131:=by
 intro u o t c
 unfold ZG at c
 rcases c with ⟨rfl|rfl,rfl|rfl,rfl⟩|⟨rfl,rfl|rfl,rfl⟩|⟨rfl,rfl,rfl⟩|⟨rfl,rfl,rfl⟩<;>exact Ok.num (t:=ZV) (a:=0) (ms:=[_,0]) rfl (by kernel_rfl) rfl
def AmZ (N:Nat):Prop:=∀(u:Int) (o t c:Int) (g:Lt o t u) (d:c=t),Ok trees N ⟨[o,t,c],[],[],[]⟩ fun x=>x=(0,(⟨[u,0],[],[],[]⟩:Ah))
theorem AcF:AmZ 132:=by
 intro u o t c d g
 subst g
 unfold Lt at d
 rcases d with ⟨rfl|rfl|rfl|rfl,rfl|rfl,rfl⟩|⟨rfl|rfl|rfl|rfl|rfl,rfl,rfl⟩|⟨rfl|rfl,rfl,rfl⟩|⟨rfl|rfl|rfl,rfl|rfl,rfl⟩|⟨ho,h1,h3,rfl⟩|⟨rfl|rfl|rfl|rfl,rfl|rfl,rfl⟩
 case inr.inr.inr.inr.inl=>
  have:c=1∨c=2∨c=3:=by omega
  rcases ho with rfl|rfl<;>rcases this with rfl|rfl|rfl<;>exact Ok.num (t:=WU) (a:=0) (ms:=[_,0]) rfl (by kernel_rfl) rfl
 all_goals exact Ok.num (t:=WU) (a:=0) (ms:=[_,0]) rfl (by kernel_rfl) rfl
def An4 (N:Nat) (Γ:Ctx) (D fl:Int) (Ar U:Rs) (J:Mp) (n:Nat):Prop:=∀(z y:Int) (len j:Int) (k sub:Int) (pl X:Int) (lo x:Int) (c g:Int) (Q Z:Int) (H rv O:Int) (o d C:List Nat) (T A:Rs) (P R:Rs) (u FB M:Rs) (hT:T=[1,1].map Bd) (hF:A=AD) (h:z=2∧y=2∧len=2∧0≤j∧j≤2∧(2-j).toNat<n),Ok trees N ⟨[z,y,len,j,k,sub,D,pl,fl,X,lo,x,c,g,Q,Z,H,rv,O],[o,d,C],[T,A,Ar,P,U,R,u,FB,M],[J]⟩ fun zz=>(zz=(1,v0))
def AmV (N:Nat):Prop:=∀{Γ:Ctx} {c fl:Int} {D A:Rs} {g:Mp} (hC:Ck Γ c fl D A g) (H C:Int) (len j:Int) (u sub:Int) (pl Z:Int) (lo z:Int) (d o:Int) (X ro:Int) (O rv U:Int) (x k M:List Nat) (T J:Rs) (P R:Rs) (y FB Q:Rs) (hT:T=[1,1].map Bd) (hF:J=AD) (h:H=2∧C=2∧len=2∧0≤j∧j≤2:=by exact kn),Ok trees N ⟨[H,C,len,j,u,sub,c,pl,fl,Z,lo,z,d,o,X,ro,O,rv,U],[x,k,M],[T,J,D,P,A,R,y,FB,Q],[g]⟩ fun zz=>(zz=(1,v0))
theorem AjC {Γ:Ctx} {H fl:Int} {Ar Q:Rs} {mp:Mp} (hC:Ck Γ H fl Ar Q mp) (n:Nat):An4 136 Γ H fl Ar Q mp n:=by
 induction n with
 |zero=>intro C z len j o sub pl U lo x k d O ro J Z rl g c y T FP P R u FB M hT X h;exact absurd h.2.2.2.2.2 (Nat.not_lt_zero _)
 |succ n ih=>
 intro C z len j o sub pl U lo x k d O ro J Z rl g c y T FP P R u FB M hT X h
 subst hT;subst X
 refine .of (t:=WQ) rfl ?_
 unfold WQ
 refine lt j len (fun t1=>?_) fun t1=>?_
 ·refine CG j 0 ?_
  refine B9 j z ?_
  obtain ⟨ah,D⟩:=PU j om om
  refine el D ?_
  refine B9 j C ?_
  have A:=Tp j om om
  refine el A ?_
  refine BW 1 1 ?_
  obtain ⟨_,rfl,N⟩:=ih C z len (j+1) o sub pl U lo x k d O ro J Z rl g c y ([1,1].map Bd) AD P R u FB M rfl rfl kn
  refine cm N ?_
  refine ch N ?_
  exact Ai v0 (rfl)
 exact Ai v0 (rfl)
theorem Amt:AmV 136:=fun {Γ} {al} {fl} {Ar} {Fs} {mp} hC tl ln len j grp sub pl bl lo fpl fty fbl rk ro ry rv rl knm fnm rnm T FP P R FP2 FB RA hT hF h=>AjC hC ((2-j).toNat+1) tl ln len j grp sub pl bl lo fpl fty fbl rk ro ry rv rl knm fnm rnm T FP P R FP2 FB RA hT hF ⟨h.1,h.2.1,h.2.2.1,h.2.2.2.1,h.2.2.2.2,Nat.lt_succ_self _⟩
def AmY (N:Nat):Prop:=∀{Γ:Ctx} {g fl:Int} {j D:Rs} {k:Mp} (hC:Ck Γ g fl j D k) (d c:Int) (o X:Int) (M J:Int) (Z U:Int) (x z:Int) (sub pl:Int) (H O:Int) (u C A:List Nat) (y FB:Rs) (Q T:Rs) (P R:Rs) (hT:T=[1,1].map Bd) (hF:y=AD) (h:x=2∧d=2∧c=1:=by exact kn),Ok trees N ⟨[d,c,o,X,M,J,Z,U,x,z,sub,g,pl,fl,H,O],[u,C,A],[y,FB,Q,T,j,P,D,R],[k]⟩ fun zz=>(zz=(0,(⟨[1,0],[],[],[]⟩:Ah)))
theorem Amw:AmY 133:=by
 intro Γ U fl Ar Fs X C Q O d A H x M z tl g sub pl D J c o j k N y T P R Z hF h
 obtain ⟨rfl,rfl,rfl⟩:=h
 refine .of (t:=WT) rfl ?_
 unfold WT
 refine BW 2 2 ?_
 obtain ⟨_,rfl,u⟩:=Amt C 2 2 2 0 g sub pl D J 2 1 d A H x M z j c o T k P R k N y ‹_› ‹_›
 refine cm u ?_
 refine ch u ?_
 exact Ai ⟨[1,0],[],[],[]⟩ (rfl)
def Ur (N:Nat) (Γ:Ctx) (j fl:Int) (x D:Rs) (y:Mp) (n:Nat):Prop:=∀{a:List E} (t k:Int) (o ty:Int) (v c:Int) (d sub:Int) (pl u z:Int) (s g:List Nat) (A P R:Rs) (J:T Γ t (.node k o ty v s a)) (H:A=E.Ab a) (h:c=A.length∧(E.node k o ty v s a).high<n),Ok trees N ⟨[k,o,ty,v,c,d,sub,j,pl,fl,u,z],[s,g],[A,x,P,D,R],[y]⟩ fun C=>(C=(0,(⟨[t,0],[],[],[]⟩:Ah)))
def Ani (N:Nat):Prop:=∀{Γ:Ctx} {c fl:Int} {g y:Rs} {j:Mp} (J:Ck Γ c fl g y j) {a:List E} (t k:Int) (o ty:Int) (v d:Int) (u sub:Int) (pl z C:Int) (s x:List Nat) (A P R:Rs) (M:T Γ t (.node k o ty v s a)) (H:A=E.Ab a) (h:d=A.length:=by exact kn),Ok trees N ⟨[k,o,ty,v,d,u,sub,c,pl,fl,z,C],[s,x],[A,g,P,y,R],[j]⟩ fun D=>(D=(0,(⟨[t,0],[],[],[]⟩:Ah)))
def An6 (H N:Nat) (Γ:Ctx) (y fl:Int) (A J:Rs) (C:Mp) (m n:Nat):Prop:=∀{a:List E} (ts:List Int) (d c:Int) (len j:Int) (o sub:Int) (pl z D:Int) (u:List Nat) (L P:Rs) (R Q:Rs) (O:Ts Γ ts a) (M:L=E.Ab a) (U:Q=(ts.take j.toNat).map Bd) (h:c=L.length∧c≤3∧len=c∧0≤j∧j≤c∧d=Q.length∧d+(len-j)≤9∧0≤d∧E.B3 a<m∧(len-j).toNat<n),Ok trees N ⟨[d,c,len,j,o,sub,y,pl,fl,z,D],[u],[L,A,P,J,R,Q],[C]⟩ fun x=>(x=(2,v0)∧(Q=ts.map Bd))∨(∃(k:Int),∃(g:Rs),x=(3,(⟨[k],[],[g],[]⟩:Ah))∧(g=ts.map Bd)∧(k=(ts.length:Int)))
def AmX (u N:Nat):Prop:=∀{m:Nat} {Γ:Ctx} {g fl:Int} {k x:Rs} {o:Mp} (X:Ck Γ g fl k x o) (H:Ur u Γ g fl k x o m) {a:List E} (ts:List Int) (d c:Int) (len j:Int) (A sub:Int) (pl J M:Int) (C:List Nat) (L P:Rs) (R Q:Rs) (U:Ts Γ ts a) (O:L=E.Ab a) (Z:Q=(ts.take j.toNat).map Bd) (h:c=L.length∧c≤3∧len=c∧0≤j∧j≤c∧d=Q.length∧d+(len-j)≤9∧0≤d∧E.B3 a<m:=by exact kn),Ok trees N ⟨[d,c,len,j,A,sub,g,pl,fl,J,M],[C],[L,k,P,x,R,Q],[o]⟩ fun D=>(D=(2,v0)∧(Q=ts.map Bd))∨(∃(z:Int),∃(y:Rs),D=(3,(⟨[z],[],[y],[]⟩:Ah))∧(y=ts.map Bd)∧(z=(ts.length:Int)))
theorem AjE {Γ:Ctx} {A fl:Int} {N H:Rs} {C:Mp} (hC:Ck Γ A fl N H C) {m:Nat} (u:Ur 124 Γ A fl N H C m) (n:Nat):An6 124 134 Γ A fl N H C m n:=by
 induction n with
 |zero=>intro a ts U M len j g sub pl J O k L P R Q d z X h;exact absurd h.2.2.2.2.2.2.2.2.2 (Nat.not_lt_zero _)
 |succ n ih=>
 intro a ts U M len j g sub pl J O k L P R Q d z X h
 subst z
 refine .of (t:=WS) rfl ?_
 unfold WS
 refine lt j len (fun t1=>?_) fun t1=>?_
 ·refine CG j 0 ?_
  refine B9 j M ?_
  obtain ⟨aa,ab,ac,ad,Z,x,y,D,ai,am,aj⟩:=d.get j om om
  refine el D ?_
  obtain ⟨_,rfl,G3⟩:=u y aa ab ac ad ((E.Ab x).length:Int) g sub pl J O Z k (E.Ab x) P R ‹_› rfl kn
  refine ch G3 ?_
  refine BW 0 0 ?_
  refine dL (Q++[[PV.int .i64 y]]) (fun o e4=>?_) (BC (pw U Q) pe)
  have f4:=cL e4;try simp only [lA,lC,lN,lT']at f4
  refine FM (o.length:Int) 1048576 ?_
  obtain ⟨_,(⟨rfl,ag⟩|⟨af,ae,rfl,rfl,rfl⟩),c⟩:=ih ts (o.length:Int) M len (j+1) g sub pl J O k (E.Ab a) P R o d rfl (by subst_vars;exact Ir ‹_› om) kn
  ·refine cm c ?_
   refine cm c ?_
   refine ch c ?_
   exact Ai ⟨[(o.length:Int)],[],[o],[]⟩ (.inr ((⟨_,_,rfl,(by first|rfl|assumption|(subst_vars;assumption)),(by first|rfl|(have e:=‹_=ts.map Bd›;rw [e];exact Ts.Da))⟩)))
  refine cm c ?_
  refine cm c ?_
  refine cm c ?_
  refine ch c ?_
  exact Ai ⟨[(ts.length:Int)],[],[(ts.map Bd)],[]⟩ (.inr ((⟨_,_,rfl,(by first|rfl|assumption|(subst_vars;assumption)),(by first|rfl|(have e:=‹_=ts.map Bd›;rw [e];exact Ts.Da))⟩)))
 exact Ai v0 (.inl (⟨rfl,(X.trans (d.end om))⟩))
theorem Amv:AmX 124 134:=fun {m} {Γ} {al} {fl} {Ar} {Fs} {mp} hC hC124 {a} ts ql ln len j grp sub pl bl lo knm L P R Q hTs hLa hQ h=>AjE hC @hC124 ((len-j).toNat+1) ts ql ln len j grp sub pl bl lo knm L P R Q hTs hLa hQ ⟨h.1,h.2.1,h.2.2.1,h.2.2.2.1,h.2.2.2.2.1,h.2.2.2.2.2.1,h.2.2.2.2.2.2.1,h.2.2.2.2.2.2.2.1,h.2.2.2.2.2.2.2.2,Nat.lt_succ_self _⟩
def Ane (o N:Nat):Prop:=∀{m:Nat} {Γ:Ctx} {d fl:Int} {g u:Rs} {k:Mp} (Q:Ck Γ d fl g u k) (D:Ur o Γ d fl g u k m) {a:List E} (ts:List Int) (c len:Int) (j z:Int) (sub pl:Int) (H J:Int) (A:List Nat) (L P R:Rs) (O:Ts Γ ts a) (M:L=E.Ab a) (h:c=L.length∧c≤3∧len=c∧j=0∧E.B3 a<m:=by exact kn),Ok trees N ⟨[c,len,j,z,sub,d,pl,fl,H,J],[A],[L,g,P,u,R],[k]⟩ fun C=>(C=(0,v0)∧(ts=[]))∨(∃(y:Int),∃(x:Rs),C=(2,(⟨[y],[],[x],[]⟩:Ah))∧(x=ts.map Bd)∧(y=(ts.length:Int)))
theorem Amz:Ane 124 128:=by
 intro m Γ al fl Ar Fs mp hC d a ts ln len j o sub pl J M u L P R g O h
 subst O;obtain ⟨h1,h2,rfl,rfl,h5⟩:=h
 refine .of (t:=WW) rfl ?_
 unfold WW
 refine lt 0 len (fun t1=>?_) fun t1=>?_
 ·refine CG 0 0 ?_
  refine B9 0 len ?_
  obtain ⟨D,H,N,Q,C,k,x,z,ab,af,ad⟩:=g.get 0 om om
  refine el z ?_
  obtain ⟨_,rfl,G3⟩:=d x D H N Q ((E.Ab k).length:Int) o sub pl J M C u (E.Ab k) P R ‹_› rfl kn
  refine ch G3 ?_
  refine BW 0 0 ?_
  refine dL [[.int .i64 x]] (fun A e4=>?_)
  have f4:=cL e4;try simp only [lA,lC,lN,lT']at f4
  refine ll 1 A ?_
  obtain ⟨_,(⟨rfl,Z⟩|⟨X,U,rfl,rfl,rfl⟩),c⟩:=Amv hC @d ts 1 len len (0+1) o sub pl J M u (E.Ab a) P R A g rfl (by subst_vars;exact (Ir (j:=0) ‹_› om))
  ·refine cm c ?_
   refine cm c ?_
   refine ch c ?_
   exact Ai ⟨[1],[],[A],[]⟩ (.inr ((⟨_,_,rfl,(by first|rfl|(subst_vars;first|rfl|assumption)),(by first|rfl|(have e:=‹_=ts.map Bd›;have y:=Ts.Da (ts:=ts);rw [←e]at y;omega) |(subst_vars;first|rfl|simp))⟩)))
  refine cm c ?_
  refine cm c ?_
  refine cm c ?_
  refine ch c ?_
  exact Ai ⟨[(ts.length:Int)],[],[(ts.map Bd)],[]⟩ (.inr ((⟨_,_,rfl,(by first|rfl|(subst_vars;first|rfl|assumption)),(by first|rfl|(have e:=‹_=ts.map Bd›;have y:=Ts.Da (ts:=ts);rw [←e]at y;omega) |(subst_vars;first|rfl|simp))⟩)))
 exact Ai v0 (.inl (⟨rfl,(g.none om)⟩))
def Anf (k N:Nat):Prop:=∀{m:Nat} {Γ:Ctx} {c fl:Int} {g o:Rs} {j:Mp} (O:Ck Γ c fl g o j) (A:Ur k Γ c fl g o j m) {a:List E} (ts:List Int) (d y:Int) (sub pl:Int) (C D:Int) (z:List Nat) (L P R:Rs) (M:Ts Γ ts a) (J:L=E.Ab a) (h:d=L.length∧d≤3∧E.B3 a<m:=by exact kn),Ok trees N ⟨[d,y,sub,c,pl,fl,C,D],[z],[L,g,P,o,R],[j]⟩ fun H=>(∃(x:Int),∃(u:Rs),H=(0,(⟨[x,0],[],[u],[]⟩:Ah))∧(u=ts.map Bd)∧(x=(ts.length:Int)))
theorem Mc:Anf 124 127:=by
 intro m Γ M fl Q O N C c a ts o j sub pl D H k L P R x u h
 subst u;have J:=Ts.Da (ts:=ts)
 refine .of (t:=WX) rfl ?_
 unfold WX
 obtain ⟨_,(⟨rfl,A⟩|⟨z,y,rfl,rfl,rfl⟩),d⟩:=Amz C @c ts o o 0 j sub pl D H k (E.Ab a) P R x rfl
 ·refine ch d ?_
  refine de [] ?_
  refine ll 0 [] ?_
  exact Ai ⟨[0,0],[],[[]],[]⟩ (⟨_,_,rfl,(by first|rfl|(subst_vars;first|rfl|assumption)),(by first|rfl|(have e:=‹_=ts.map Bd›;have g:=Ts.Da (ts:=ts);rw [←e]at g;omega) |(subst_vars;first|rfl|simp))⟩)
 refine cm d ?_
 refine cm d ?_
 refine ch d ?_
 refine ll (ts.length:Int) (ts.map Bd) ?_
 refine fr ?_
 exact Ai ⟨[(ts.length:Int),0],[],[(ts.map Bd)],[]⟩ (⟨_,_,rfl,(by first|rfl|(subst_vars;first|rfl|assumption)),(by first|rfl|(have e:=‹_=ts.map Bd›;have g:=Ts.Da (ts:=ts);rw [←e]at g;omega) |(subst_vars;first|rfl|simp))⟩)
theorem AjG {Γ:Ctx} {al fl:Int} {Ar Fs:Rs} {mp:Mp} (J:Ck Γ al fl Ar Fs mp) (n:Nat):Ur 124 Γ al fl Ar Fs mp n:=by
 induction n with
 |zero=>intro a t k o ty v ln H sub pl Z lo s D A P R hT hA h;exact absurd h.2 (Nat.not_lt_zero _)
 |succ n ih=>
 intro a t k o ty v ln H sub pl Z lo s D A P R hT hA h
 subst hA;have e2:=I2 (k:=k) (o:=o) (ty:=ty) (v:=v) (s:=s) (a:=a);have M:ln=(a.length:Int):=by have:=h.1;rw [E.Az]at this;exact this
 rcases hT.inv with hv|hv|hv|hv|hv|hv|hv|hv
 ·obtain ⟨rfl,rfl,rfl,rfl,rfl,r1,r2,r3,r4,r5,r6⟩:=hv;simp only [lC,lN]at M;have e3:E.Ae []=0:=rfl
  refine .of (t:=Er) rfl ?_
  unfold Er
  obtain ⟨_,⟨aU,aV,rfl,rfl,rfl⟩,G1⟩:=Mc J @ih [] ln H sub pl Z lo D (E.Ab []) P R (by exact .nil) rfl
  refine ch G1 ?_
  refine BW 0 0 ?_
  refine BF 1 1 ?_
  first|exact Ai ⟨[ty,0],[],[],[]⟩ (rfl) |(exfalso;omega)
 ·obtain ⟨rfl,rfl,rfl,rfl,rfl,rfl,r1,r2⟩:=hv;simp only [lC,lN]at M;have e3:E.Ae []=0:=rfl
  refine .of (t:=Er) rfl ?_
  unfold Er
  obtain ⟨_,⟨bd,aX,rfl,rfl,rfl⟩,G2⟩:=Mc J @ih [] ln H sub pl Z lo D (E.Ab []) P R (by exact .nil) rfl
  refine ch G2 ?_
  refine BW 0 0 ?_
  refine AN 3 1 ?_
  refine BF 3 3 ?_
  first|exact Ai ⟨[1,0],[],[],[]⟩ (rfl) |(exfalso;omega)
 ·obtain ⟨rfl,rfl,rfl,rfl,rfl,hs,kk,ii,hk,r1,r2,hg⟩:=hv;simp only [lC,lN]at M;have e3:E.Ae []=0:=rfl
  refine .of (t:=Er) rfl ?_
  unfold Er
  obtain ⟨_,⟨a6,aR,rfl,rfl,rfl⟩,G3⟩:=Mc J @ih [] ln H sub pl Z lo D (E.Ab []) P R (by exact .nil) rfl
  refine ch G3 ?_
  refine BW 0 0 ?_
  refine AN 2 1 ?_
  refine AN 2 3 ?_
  refine AN 2 4 ?_
  refine AN 2 5 ?_
  refine AN 2 6 ?_
  refine BF 2 2 ?_
  refine lh (J.look hg) ?_
  refine eq kk 2 (fun t4=>?_) fun t4=>?_
  ·first|exact Ai ⟨[t,0],[],[],[]⟩ (rfl) |(exfalso;omega)
  refine eq kk 3 (fun t5=>?_) fun t5=>?_
  ·first|exact Ai ⟨[t,0],[],[],[]⟩ (rfl) |(exfalso;omega)
  first|exact Ai ⟨[0,30],[],[],[]⟩ (rfl) |(exfalso;omega)
 ·obtain ⟨rfl,rfl,rfl,rfl,c,d,j,u,C,g,w,rfl,hu,h1⟩:=hv;simp only [lC,lN]at M;have e3:=n1 (x:=.node c d j u C g);have e4:=g1 (x:=.node c d j u C g);have hr:=hu.rng
  refine .of (t:=Er) rfl ?_
  unfold Er
  obtain ⟨_,⟨a9,aZ,rfl,rfl,rfl⟩,G6⟩:=Mc J @ih [w] ln H sub pl Z lo D (E.Ab [.node c d j u C g]) P R (by exact .cons h1 .nil) rfl
  refine ch G6 ?_
  refine BW 0 0 ?_
  refine AN 4 1 ?_
  refine AN 4 3 ?_
  refine BF 4 4 ?_
  refine B9 0 ([w].length:Int) ?_
  refine el (j':=0) rfl ?_
  obtain ⟨_,rfl,G7⟩:=AgH t o w hu
  refine ch G7 ?_
  first|exact Ai ⟨[t,0],[],[],[]⟩ (rfl) |(exfalso;omega)
 ·obtain ⟨rfl,rfl,rfl,rfl,c,d,j,u,C,g,N,O,X,Q,U,b2,w,rfl,hu,h1,h2⟩:=hv;simp only [lC,lN]at M;have e3:=n2 (x:=.node c d j u C g) (y:=.node N O X Q U b2);have e4:=g2 (x:=.node c d j u C g) (y:=.node N O X Q U b2);have hr:=hu.rng
  refine .of (t:=Er) rfl ?_
  unfold Er
  obtain ⟨_,⟨aY,a2,rfl,rfl,rfl⟩,G8⟩:=Mc J @ih [w,w] ln H sub pl Z lo D (E.Ab [.node c d j u C g,.node N O X Q U b2]) P R (by exact .cons h1 (.cons h2 .nil)) rfl
  refine ch G8 ?_
  refine BW 0 0 ?_
  refine AN 5 1 ?_
  refine AN 5 3 ?_
  refine AN 5 4 ?_
  refine BF 5 5 ?_
  refine B9 0 ([w,w].length:Int) ?_
  refine el (j':=0) rfl ?_
  refine B9 1 ([w,w].length:Int) ?_
  refine el (j':=1) rfl ?_
  obtain ⟨_,rfl,G9⟩:=AcF t o w w hu rfl
  refine ch G9 ?_
  first|exact Ai ⟨[t,0],[],[],[]⟩ (rfl) |(exfalso;omega)
 ·obtain ⟨rfl,rfl,rfl,rfl,rfl,c,d,j,u,C,g,N,O,X,Q,U,b2,k3,o3,t3,v3,s3,b3,rfl,h1,h2,h3⟩:=hv;simp only [lC,lN]at M;have e3:=n3 (x:=.node c d j u C g) (y:=.node N O X Q U b2) (z:=.node k3 o3 t3 v3 s3 b3);have e4:=g3 (x:=.node c d j u C g) (y:=.node N O X Q U b2) (z:=.node k3 o3 t3 v3 s3 b3)
  refine .of (t:=Er) rfl ?_
  unfold Er
  obtain ⟨_,⟨aK,aI,rfl,rfl,rfl⟩,aD⟩:=Mc J @ih [3,t,t] ln H sub pl Z lo D (E.Ab [.node c d j u C g,.node N O X Q U b2,.node k3 o3 t3 v3 s3 b3]) P R (by exact .cons h1 (.cons h2 (.cons h3 .nil))) rfl
  refine ch aD ?_
  refine BW 0 0 ?_
  refine AN 6 1 ?_
  refine AN 6 3 ?_
  refine AN 6 4 ?_
  refine AN 6 5 ?_
  refine BF 6 6 ?_
  refine B9 0 ([3,t,t].length:Int) ?_
  refine el (j':=0) rfl ?_
  refine BW 3 3 ?_
  refine B9 1 ([3,t,t].length:Int) ?_
  refine el (j':=1) rfl ?_
  refine B9 2 ([3,t,t].length:Int) ?_
  refine el (j':=2) rfl ?_
  refine BW t t ?_
  first|exact Ai ⟨[t,0],[],[],[]⟩ (rfl) |(exfalso;omega)
 ·obtain ⟨rfl,rfl,rfl,rfl,hs,c,d,j,u,C,g,ii,rfl,r1,r2,hg,h1⟩:=hv;simp only [lC,lN]at M;have e3:=n1 (x:=.node c d j u C g);have e4:=g1 (x:=.node c d j u C g)
  refine .of (t:=Er) rfl ?_
  unfold Er
  obtain ⟨_,⟨aN,aL,rfl,rfl,rfl⟩,aG⟩:=Mc J @ih [1] ln H sub pl Z lo D (E.Ab [.node c d j u C g]) P R (by exact .cons h1 .nil) rfl
  refine ch aG ?_
  refine BW 0 0 ?_
  refine AN 7 1 ?_
  refine AN 7 3 ?_
  refine AN 7 4 ?_
  refine AN 7 5 ?_
  refine AN 7 6 ?_
  refine AN 7 2 ?_
  refine BF 7 7 ?_
  refine lh (J.look hg) ?_
  refine BF 0 0 ?_
  refine B9 0 ([1].length:Int) ?_
  refine el (j':=0) rfl ?_
  refine BW 1 1 ?_
  first|exact Ai ⟨[t,0],[],[],[]⟩ (rfl) |(exfalso;omega)
 ·obtain ⟨rfl,rfl,rfl,rfl,rfl,c,d,j,u,C,g,N,O,X,Q,U,b2,ii,rfl,rfl,hg,h1,h2⟩:=hv;simp only [lC,lN]at M;have e3:=n2 (x:=.node c d j u C g) (y:=.node N O X Q U b2);have e4:=g2 (x:=.node c d j u C g) (y:=.node N O X Q U b2);obtain ⟨bf,bh,F_,kf,aB,yf,wf,sf,Af,an⟩:=J.fn _ hg;have bg:(AD.length:Int)=2:=rfl
  refine .of (t:=Er) rfl ?_
  unfold Er
  obtain ⟨_,⟨aJ,aM,rfl,rfl,rfl⟩,az⟩:=Mc J @ih [1,1] ln H sub pl Z lo D (E.Ab [.node c d j u C g,.node N O X Q U b2]) P R (by exact .cons h1 (.cons h2 .nil)) rfl
  refine ch az ?_
  refine BW 0 0 ?_
  refine AN 8 1 ?_
  refine AN 8 3 ?_
  refine AN 8 4 ?_
  refine AN 8 5 ?_
  refine AN 8 6 ?_
  refine AN 8 2 ?_
  refine AN 8 7 ?_
  refine BF 8 8 ?_
  refine lh (J.look hg) ?_
  refine BF 1 1 ?_
  refine CG ii 0 ?_
  refine B9 ii fl ?_
  refine el an ?_
  obtain ⟨_,rfl,aH⟩:=Amw J (AD.length:Int) 1 (F_.length:Int) kf aB yf wf (Af.length:Int) ([1,1].length:Int) H sub pl Z lo [104] sf D AD F_ Af ([1,1].map Bd) P R rfl rfl
  refine ch aH ?_
  first|exact Ai ⟨[1,0],[],[],[]⟩ (rfl) |(exfalso;omega)
theorem Uc:Ani 124:=fun {Γ} {al} {fl} {Ar} {Fs} {mp} hC {a} t k o ty v ln grp sub pl bl lo s knm A P R hT hA h=>AjG hC ((E.node k o ty v s a).high+1) t k o ty v ln grp sub pl bl lo s knm A P R hT hA ⟨h,Nat.lt_succ_self _⟩
def Anh (N:Nat):Prop:=∀{Γ:Ctx} {c fl:Int} {g y:Rs} {j:Mp} (J:Ck Γ c fl g y j) {a:List E} (k o:Int) (ty v:Int) (d t:Int) (u sub:Int) (pl z C:Int) (s x:List Nat) (A P R:Rs) (M:T Γ t (.node k o ty v s a)) (H:A=E.Ab a) (h:d=A.length:=by exact kn),Ok trees N ⟨[k,o,ty,v,d,t,u,sub,c,pl,fl,z,C],[s,x],[A,g,P,y,R],[j]⟩ fun D=>(D=(0,(⟨[0],[],[],[]⟩:Ah)))
theorem Kt:Anh 125:=by
 intro Γ D fl M J H g a k o ty v x t c sub pl u y s d A P R j z h
 refine .of (t:=WZ) rfl ?_
 unfold WZ
 obtain ⟨_,rfl,C⟩:=Uc g t k o ty v x c sub pl u y s d A P R j z
 refine ch C ?_
 refine BF 0 0 ?_
 refine BW t t ?_
 exact Ai ⟨[0],[],[],[]⟩ (rfl)
end Go.Proofs.YtbmofjdmgjpfoaaGreatDoor.Am
end
section
set_option maxHeartbeats 4000000
set_option maxRecDepth 100000
namespace Go.Proofs.YtbmofjdmgjpfoaaGreatDoor.Am
open Go.AM Go.AM.K
def Ado (N:Nat):Prop:=∀{Γ:Ctx} {lp pu:Int} {Γ1:Ctx} {Q ya:List E} {bo el:List S} (k o:Int) (t b:Int) (H xo:Int) (xt xw:Int) (J yk:Int) (C yt:Int) (Z U:Int) (g c:Int) (M sub:Int) (j pl:Int) (fl bl lo:Int) (nm xn:List Nat) (A O:List Nat) (X Y:Rs) (u x:Rs) (z P:Rs) (y R:Rs) (D:Mp) (hC:Ck Γ j fl z y D) (hS:Es lp pu Γ (.node k o t b nm (.node H xo xt xw xn Q) (.node yk C yt Z A ya) bo el) Γ1) (hX:X=E.Ab Q) (hY:Y=E.Ab ya) (hB:u=S.Ab bo) (hE:x=S.Ab el) (h:J=X.length∧U=Y.length∧g=u.length∧c=x.length∧k=1:=by exact kn),Ok trees N ⟨[k,o,t,b,H,xo,xt,xw,J,yk,C,yt,Z,U,g,c,M,sub,j,pl,fl,bl,lo],[nm,xn,A,O],[X,Y,u,x,z,P,y,R],[D]⟩ fun zz=>(∃(d:Mp),zz=(0,(⟨[0],[],[],[d]⟩:Ah))∧(Ck Γ1 j fl z y d))
theorem Yr:Ado 117:=by
 intro Γ lp pu Γ1 y ya bo el k o t b u J Q C x yk yo yt yw yl aa Z d sub al pl fl A H nm D yn g X Y Bo El Ar P Fs R j c M N O hB z h
 subst N;subst O;subst hB;subst z;obtain ⟨_,_,_,_,_,hn,hg,r1,r2,hx,_,rfl⟩:=M.Al2 om
 refine .of (t:=Pc) rfl ?_
 unfold Pc
 obtain ⟨_,rfl,U⟩:=Uc c t u J Q C x d sub pl A H D g (E.Ab y) P R ‹_› rfl
 refine ch U ?_
 refine BW 0 0 ?_
 refine lm (c.Alz hg) ?_
 refine up [.int .i64 3,.int .i64 t,.int .i64 0] ?_
 refine BW t t ?_
 first|exact Ai ⟨[0],[],[],[(Bj j nm [.int .i64 3,.int .i64 t,.int .i64 0])]⟩ (⟨_,rfl,(c.Gj hg)⟩) |(exfalso;omega)
def Anm (N:Nat):Prop:=∀{Γ:Ctx} {lp pu:Int} {Γ1:Ctx} {J ya:List E} {bo el:List S} (k o:Int) (t b:Int) (A xo:Int) (xt U:Int) (C yk:Int) (y yt:Int) (O M:Int) (d c:Int) (D sub:Int) (u pl:Int) (fl bl lo:Int) (nm xn:List Nat) (x H:List Nat) (X Y:Rs) (g j:Rs) (Z P:Rs) (Q R:Rs) (z:Mp) (hC:Ck Γ u fl Z Q z) (hS:Es lp pu Γ (.node k o t b nm (.node A xo xt U xn J) (.node yk y yt O x ya) bo el) Γ1) (hX:X=E.Ab J) (hY:Y=E.Ab ya) (hB:g=S.Ab bo) (hE:j=S.Ab el) (h:C=X.length∧M=Y.length∧d=g.length∧c=j.length∧k=2:=by exact kn),Ok trees N ⟨[k,o,t,b,A,xo,xt,U,C,yk,y,yt,O,M,d,c,D,sub,u,pl,fl,bl,lo],[nm,xn,x,H],[X,Y,g,j,Z,P,Q,R],[z]⟩ fun zz=>(zz=(0,(⟨[0],[],[],[]⟩:Ah)))
theorem AgN:Anm 118:=by
 intro Γ lp pu Γ1 y ya bo el k o t b j J Q C x yk yo yt yw yl aa Z c sub al pl fl A H nm D yn g X Y Bo El Ar P Fs R mp d M N O hB z h
 subst N;subst O;subst hB;subst z;obtain ⟨_,_,_,_,_,_,hn,rfl,u,i,hg,hx,_⟩:=M.Al3 om
 refine .of (t:=Xc) rfl ?_
 unfold Xc
 refine lh (d.look hg) ?_
 refine BF 3 3 ?_
 obtain ⟨_,rfl,U⟩:=Kt d j J Q C x u c sub pl A H D g (E.Ab y) P R ‹_› rfl
 refine ch U ?_
 first|exact Ai ⟨[0],[],[],[]⟩ (rfl) |(exfalso;omega)
def Ang (N:Nat):Prop:=∀{Γ:Ctx} {H ya:List E} (u i:Int) (k o:Int) (t b:Int) (y xo:Int) (xt U:Int) (z yk:Int) (j yt:Int) (M J:Int) (Q A:Int) (C sub:Int) (d pl:Int) (fl bl lo:Int) (nm xn:List Nat) (g D:List Nat) (X Y:Rs) (Bo El:Rs) (Z P:Rs) (O R:Rs) (x:Mp) (hC:Ck Γ d fl Z O x) (hg:Γ nm=some (0,u,i)) (hx:T Γ 1 (.node y xo xt U xn H)) (hy:T Γ u (.node yk j yt M g ya)) (hX:X=E.Ab H) (hY:Y=E.Ab ya) (h:z=X.length∧J=Y.length:=by exact kn),Ok trees N ⟨[k,o,t,b,y,xo,xt,U,z,yk,j,yt,M,J,Q,A,C,sub,d,pl,fl,bl,lo],[nm,xn,g,D],[X,Y,Bo,El,Z,P,O,R],[x]⟩ fun zz=>(∃(c ag:Int),∃(af:List Nat),zz=(0,(⟨[c,u,ag,0],[af],[],[]⟩:Ah))∧(i=0∨i=2→c≠3))
theorem AgJ:Ang 126:=by
 intro Γ Q ya u i k o t b N xo xt xw O yk M yt Z U am ak d sub H pl fl z A nm xn J g X Y Bo El Ar P Fs R mp c hg hx hy hX hY h
 subst hX;subst hY;obtain ⟨an,ao,D,x,C,j,y⟩:=c.ar _ _ _ hg
 refine .of (t:=WY) rfl ?_
 unfold WY
 refine lh (c.look hg) ?_
 refine BF 0 0 ?_
 refine CG i 0 ?_
 refine B9 i H ?_
 refine el j ?_
 obtain ⟨_,rfl,G1⟩:=Kt c N xo xt xw O 1 d sub pl z A xn g (E.Ab Q) P R ‹_› rfl
 refine ch G1 ?_
 refine BF 0 0 ?_
 obtain ⟨_,rfl,G2⟩:=Kt c yk M yt Z U u d sub pl z A J g (E.Ab ya) P R ‹_› rfl
 refine ch G2 ?_
 first|exact Ai ⟨[x,u,C,0],[D],[],[]⟩ (⟨_,_,_,rfl,y⟩) |(exfalso;omega)
def Anl (N:Nat):Prop:=∀{Γ:Ctx} {lp pu:Int} {Γ1:Ctx} {J ya:List E} {bo el:List S} (k o:Int) (t b:Int) (A xo:Int) (xt U:Int) (C yk:Int) (y yt:Int) (O M:Int) (d c:Int) (D sub:Int) (u pl:Int) (fl bl lo:Int) (nm xn:List Nat) (x H:List Nat) (X Y:Rs) (g j:Rs) (Z P:Rs) (Q R:Rs) (z:Mp) (hC:Ck Γ u fl Z Q z) (hS:Es lp pu Γ (.node k o t b nm (.node A xo xt U xn J) (.node yk y yt O x ya) bo el) Γ1) (hX:X=E.Ab J) (hY:Y=E.Ab ya) (hB:g=S.Ab bo) (hE:j=S.Ab el) (h:C=X.length∧M=Y.length∧d=g.length∧c=j.length∧k=3:=by exact kn),Ok trees N ⟨[k,o,t,b,A,xo,xt,U,C,yk,y,yt,O,M,d,c,D,sub,u,pl,fl,bl,lo],[nm,xn,x,H],[X,Y,g,j,Z,P,Q,R],[z]⟩ fun zz=>(zz=(0,(⟨[0],[],[],[]⟩:Ah)))
theorem AgM:Anl 121:=by
 intro Γ lp pu Γ1 M ya bo el k o t b D xo xt xw H yk z yt O N j c d sub x pl fl bl lo nm xn y g X Y Bo El Ar P Fs R A J hS hX hY hB Z h
 subst hX;subst hY;subst hB;subst Z;obtain ⟨_,_,_,_,_,av,hn,rfl,u,i,_,_,hg,hx,Q,_,_⟩:=hS.Air om
 refine .of (t:=Xb) rfl ?_
 unfold Xb
 obtain ⟨_,⟨YE,U,ab,rfl,C⟩,G1⟩:=AgJ u i k o t b D xo xt xw H yk z yt O N j c d sub x pl fl bl lo nm xn y g (E.Ab M) (E.Ab ya) (S.Ab bo) (S.Ab el) Ar P Fs R A J hg hx Q rfl rfl
 refine ch G1 ?_
 first|exact Ai ⟨[0],[],[],[]⟩ (rfl) |(exfalso;omega)
def Ank (N:Nat):Prop:=∀{Γ:Ctx} {lp pu:Int} {Γ1:Ctx} {J ya:List E} {bo el:List S} (k o:Int) (t b:Int) (A xo:Int) (xt U:Int) (C yk:Int) (y yt:Int) (O M:Int) (d c:Int) (D sub:Int) (u pl:Int) (fl bl lo:Int) (nm xn:List Nat) (x H:List Nat) (X Y:Rs) (g j:Rs) (Z P:Rs) (Q R:Rs) (z:Mp) (hC:Ck Γ u fl Z Q z) (hS:Es lp pu Γ (.node k o t b nm (.node A xo xt U xn J) (.node yk y yt O x ya) bo el) Γ1) (hX:X=E.Ab J) (hY:Y=E.Ab ya) (hB:g=S.Ab bo) (hE:j=S.Ab el) (h:C=X.length∧M=Y.length∧d=g.length∧c=j.length∧k=4:=by exact kn),Ok trees N ⟨[k,o,t,b,A,xo,xt,U,C,yk,y,yt,O,M,d,c,D,sub,u,pl,fl,bl,lo],[nm,xn,x,H],[X,Y,g,j,Z,P,Q,R],[z]⟩ fun zz=>(zz=(0,(⟨[0],[],[],[]⟩:Ah)))
theorem AgL:Ank 122:=by
 intro Γ lp pu Γ1 J ya bo el k o t b C xo xt xw D yk y yt N M j c d sub u pl fl bl lo nm xn x g X Y Bo El Ar P Z R z H hS hX hY hB U h
 subst hX;subst hY;subst hB;subst U;obtain ⟨_,_,_,_,aw,hn,rfl,i,hi,hg,ho,hx,O,_,_⟩:=hS.Al5 om
 refine .of (t:=Xa) rfl ?_
 unfold Xa
 obtain ⟨_,⟨YE,Q,aa,rfl,A⟩,G1⟩:=AgJ 1 i k o t b C xo xt xw D yk y yt N M j c d sub u pl fl bl lo nm xn x g (E.Ab J) (E.Ab ya) (S.Ab bo) (S.Ab el) Ar P Z R z H hg hx O rfl rfl
 refine ch G1 ?_
 refine BW 0 0 ?_
 obtain ⟨_,rfl,G2⟩:=AcF 1 o 1 1 (by unfold Lt;omega) rfl
 refine ch G2 ?_
 refine BW 0 0 ?_
 refine eq YE 3 (fun t3=>?_) fun t3=>?_
 ·first|exact Ai ⟨[31],[],[],[]⟩ (rfl) |(exfalso;omega)
 first|exact Ai ⟨[0],[],[],[]⟩ (rfl) |(exfalso;omega)
def Anj (N:Nat):Prop:=∀{Γ:Ctx} {lp pu:Int} {Γ1:Ctx} {J ya:List E} {bo el:List S} (k o:Int) (t b:Int) (A xo:Int) (xt U:Int) (C yk:Int) (y yt:Int) (O M:Int) (d c:Int) (D sub:Int) (u pl:Int) (fl bl lo:Int) (nm xn:List Nat) (x H:List Nat) (X Y:Rs) (g j:Rs) (Z P:Rs) (Q R:Rs) (z:Mp) (hC:Ck Γ u fl Z Q z) (hS:Es lp pu Γ (.node k o t b nm (.node A xo xt U xn J) (.node yk y yt O x ya) bo el) Γ1) (hX:X=E.Ab J) (hY:Y=E.Ab ya) (hB:g=S.Ab bo) (hE:j=S.Ab el) (h:C=X.length∧M=Y.length∧d=g.length∧c=j.length∧k=12:=by exact kn),Ok trees N ⟨[k,o,t,b,A,xo,xt,U,C,yk,y,yt,O,M,d,c,D,sub,u,pl,fl,bl,lo],[nm,xn,x,H],[X,Y,g,j,Z,P,Q,R],[z]⟩ fun zz=>(zz=(0,(⟨[0],[],[],[]⟩:Ah)))
theorem AgK:Anj 123:=by
 intro Γ lp pu Γ1 D ya bo el k o t b A O Z M C yk yo yt yw yl aH aI g sub al pl fl j x nm N yn d X Y Bo El Ar P Fs R mp c hS hX hY hB hE h
 subst hX;subst hY;subst hB;subst hE;
 rcases hS.Ao7 om with hv|hv
 ·obtain ⟨_,_,_,_,_,af,hn,rfl,u,w,i,hg,r1,r2,ho,U,_⟩:=hv
  refine .of (t:=OY) rfl ?_
  unfold OY
  refine lh (c.look hg) ?_
  refine BF 3 3 ?_
  obtain ⟨_,rfl,G1⟩:=Uc c w A O Z M C g sub pl j x N d (E.Ab D) P R ‹_› rfl
  refine ch G1 ?_
  refine BF 0 0 ?_
  refine AN o 4 ?_
  refine BW 0 0 ?_
  refine eq o 1 (fun t2=>?_) fun t2=>?_
  ·refine eq w 3 (fun t3=>?_) fun t3=>?_
   ·refine eq u 1 (fun t4=>?_) fun t4=>?_
    ·first|exact Ai ⟨[0],[],[],[]⟩ (rfl) |(exfalso;omega)
    first|exact Ai ⟨[31],[],[],[]⟩ (rfl) |(exfalso;omega)
   first|exact Ai ⟨[31],[],[],[]⟩ (rfl) |(exfalso;omega)
  refine eq o 2 (fun t5=>?_) fun t5=>?_
  ·refine eq w u (fun t6=>?_) fun t6=>?_
   ·refine eq w 3 (fun t7=>?_) fun t7=>?_
    ·first|exact Ai ⟨[0],[],[],[]⟩ (rfl) |(exfalso;omega)
    first|exact Ai ⟨[31],[],[],[]⟩ (rfl) |(exfalso;omega)
   first|exact Ai ⟨[31],[],[],[]⟩ (rfl) |(exfalso;omega)
  refine eq o 3 (fun t8=>?_) fun t8=>?_
  ·refine eq w u (fun t9=>?_) fun t9=>?_
   ·refine eq w 3 (fun aa=>?_) fun aa=>?_
    ·first|exact Ai ⟨[0],[],[],[]⟩ (rfl) |(exfalso;omega)
    first|exact Ai ⟨[31],[],[],[]⟩ (rfl) |(exfalso;omega)
   first|exact Ai ⟨[31],[],[],[]⟩ (rfl) |(exfalso;omega)
  refine eq o 5 (fun Q=>?_) fun Q=>?_
  ·refine eq w u (fun ae=>?_) fun ae=>?_
   ·refine ne w 3 (fun y=>?_) fun y=>?_
    ·first|exact Ai ⟨[0],[],[],[]⟩ (rfl) |(exfalso;omega)
    first|exact Ai ⟨[31],[],[],[]⟩ (rfl) |(exfalso;omega)
   first|exact Ai ⟨[31],[],[],[]⟩ (rfl) |(exfalso;omega)
  refine eq o 6 (fun ab=>?_) fun ab=>?_
  ·refine eq w u (fun ad=>?_) fun ad=>?_
   ·refine ne w 3 (fun z=>?_) fun z=>?_
    ·first|exact Ai ⟨[0],[],[],[]⟩ (rfl) |(exfalso;omega)
    first|exact Ai ⟨[31],[],[],[]⟩ (rfl) |(exfalso;omega)
   first|exact Ai ⟨[31],[],[],[]⟩ (rfl) |(exfalso;omega)
  refine eq w u (fun ac=>?_) fun ac=>?_
  ·first|exact Ai ⟨[0],[],[],[]⟩ (rfl) |(exfalso;omega)
  first|exact Ai ⟨[31],[],[],[]⟩ (rfl) |(exfalso;omega)
 ·obtain ⟨rfl,_,_,_,_,af,hn,rfl,u,i,hg,r1,r2,U,hy,_,_⟩:=hv
  refine .of (t:=OY) rfl ?_
  unfold OY
  refine lh (c.look hg) ?_
  refine BF 3 3 ?_
  obtain ⟨_,rfl,H⟩:=Uc c u A O Z M C g sub pl j x N d (E.Ab D) P R U rfl
  refine ch H ?_
  refine BF 0 0 ?_
  refine BF 4 4 ?_
  obtain ⟨_,rfl,J⟩:=Kt c yk yo yt yw yl 1 g sub pl j x yn d (E.Ab ya) P R hy rfl
  refine ch J ?_
  refine BW 0 0 ?_
  refine AN 4 1 ?_
  refine AN 4 2 ?_
  refine AN 4 3 ?_
  refine AN 4 5 ?_
  refine AN 4 6 ?_
  refine BF u u ?_
  first|exact Ai ⟨[0],[],[],[]⟩ (rfl) |(exfalso;omega)
def ER (N n:Nat):Prop:=∀{Γ:Ctx} {x H:Int} {C:Ctx} {l:List S} (g y:Int) (sub j:Int) (pl fl:Int) (A c:Int) (z:List Nat) (L k:Rs) (P u R:Rs) (o:Mp) (O:Ck Γ j fl k u o) (M:DG x H Γ l C) (J:L=S.Ab l) (h:g=L.length∧g≤200000∧(x=0∨1≤c)∧0≤c∧c+S.Au l≤1000∧S.Ae l≤200000∧S.Au l<n),Ok trees N ⟨[g,y,sub,j,pl,fl,A,c],[z],[L,k,P,u,R],[o]⟩ fun D=>(∃(d:Int),D=(0,(⟨[0,d],[],[],[]⟩:Ah))∧(c=d))
def Y5 (N:Nat):Prop:=∀{Γ:Ctx} {x H:Int} {C:Ctx} {l:List S} (g y:Int) (sub j:Int) (pl fl:Int) (A c:Int) (z:List Nat) (L k:Rs) (P u R:Rs) (o:Mp) (O:Ck Γ j fl k u o) (M:DG x H Γ l C) (J:L=S.Ab l) (h:g=L.length∧g≤200000∧(x=0∨1≤c)∧0≤c∧c+S.Au l≤1000∧S.Ae l≤200000:=by exact kn),Ok trees N ⟨[g,y,sub,j,pl,fl,A,c],[z],[L,k,P,u,R],[o]⟩ fun D=>(∃(d:Int),D=(0,(⟨[0,d],[],[],[]⟩:Ah))∧(c=d))
theorem ER.of {N n:Nat} (H:Y5 N):ER N n:=fun {Γ} {lp} {pu} {Γe} {l} ln grp sub al pl fl bl lo knm L Ar P Fs R mp hC hO hLs h=>H ln grp sub al pl fl bl lo knm L Ar P Fs R mp hC hO hLs (by have:=h;omega)
def Adn (z N:Nat):Prop:=∀{m:Nat} (ak:ER z m) {Γ:Ctx} {lp pu:Int} {Γ1:Ctx} {U ya:List E} {g el:List S} (k o:Int) (t b:Int) (J xo:Int) (xt xw:Int) (M yk:Int) (D yt:Int) (yw Z:Int) (d c:Int) (O sub:Int) (A pl:Int) (fl bl j:Int) (nm xn:List Nat) (C Q:List Nat) (X Y:Rs) (x y:Rs) (Ar P:Rs) (Fs R:Rs) (H:Mp) (hC:Ck Γ A fl Ar Fs H) (hS:Es lp pu Γ (.node k o t b nm (.node J xo xt xw xn U) (.node yk D yt yw C ya) g el) Γ1) (hX:X=E.Ab U) (hY:Y=E.Ab ya) (hB:x=S.Ab g) (hE:y=S.Ab el) (h:M=X.length∧Z=Y.length∧d=x.length∧c=y.length∧(lp=0∨1≤j)∧0≤j∧j+max (S.Au g) (S.Au el)≤1000∧S.Ae g≤200000∧S.Ae el≤200000∧S.Au g<m∧S.Au el<m∧d≤200000∧c≤200000∧k=5:=by exact kn),Ok trees N ⟨[k,o,t,b,J,xo,xt,xw,M,yk,D,yt,yw,Z,d,c,O,sub,A,pl,fl,bl,j],[nm,xn,C,Q],[X,Y,x,y,Ar,P,Fs,R],[H]⟩ fun zz=>(∃(u:Int),zz=(0,(⟨[0,u],[],[],[]⟩:Ah))∧(j=u))
theorem Yq:Adn 113 119:=by
 intro m c Γ lp pu Γ1 O ya bo el k o t b M xo xt xw N yk yo yt yw yl D A d sub y pl fl x j nm xn yn g X Y Bo El H P C R z u hS hX hY hB U h
 subst hX;subst hY;subst hB;subst U;obtain ⟨_,_,_,_,_,hx,_,rfl,Γa,Γb,ak,am⟩:=hS.kif om
 refine .of (t:=Lx) rfl ?_
 unfold Lx
 obtain ⟨_,rfl,G1⟩:=Kt u M xo xt xw N 3 d sub pl x j xn g (E.Ab O) P R ‹_› rfl
 refine ch G1 ?_
 refine BF 0 0 ?_
 obtain ⟨_,⟨Z,rfl,rfl⟩,G2⟩:=c D d sub y pl fl x j g (S.Ab bo) H P C R z u ‹_› rfl kn
 refine ch G2 ?_
 refine BF 0 0 ?_
 obtain ⟨_,⟨J,rfl,rfl⟩,Q⟩:=c A d sub y pl fl x j g (S.Ab el) H P C R z u ‹_› rfl kn
 refine ch Q ?_
 first|exact Ai ⟨[0,j],[],[],[]⟩ (⟨_,rfl,kn⟩) |(exfalso;omega)
def Adm (z N:Nat):Prop:=∀{m:Nat} (ak:ER z m) {Γ:Ctx} {lp pu:Int} {Γ1:Ctx} {U ya:List E} {c el:List S} (k o:Int) (t b:Int) (J xo:Int) (xt xw:Int) (M yk:Int) (D yt:Int) (yw Z:Int) (d j:Int) (O sub:Int) (A pl:Int) (fl bl g:Int) (nm xn:List Nat) (C Q:List Nat) (X Y:Rs) (x y:Rs) (Ar P:Rs) (Fs R:Rs) (H:Mp) (hC:Ck Γ A fl Ar Fs H) (hS:Es lp pu Γ (.node k o t b nm (.node J xo xt xw xn U) (.node yk D yt yw C ya) c el) Γ1) (hX:X=E.Ab U) (hY:Y=E.Ab ya) (hB:x=S.Ab c) (hE:y=S.Ab el) (h:M=X.length∧Z=Y.length∧d=x.length∧j=y.length∧(lp=0∨1≤g)∧0≤g∧g+1+S.Au c≤1000∧S.Au c<m∧d≤200000∧S.Ae c≤200000∧S.Ae c≤200000∧k=6:=by exact kn),Ok trees N ⟨[k,o,t,b,J,xo,xt,xw,M,yk,D,yt,yw,Z,d,j,O,sub,A,pl,fl,bl,g],[nm,xn,C,Q],[X,Y,x,y,Ar,P,Fs,R],[H]⟩ fun zz=>(∃(u:Int),zz=(0,(⟨[0,u],[],[],[]⟩:Ah))∧(g=u))
theorem Yp:Adm 113 120:=by
 intro m d Γ lp pu Γ1 J ya Z el k o t b C xo xt O H yk yo yt yw yl y aj g sub z pl fl x c nm U yn j X Y Bo El Q P N R A u hS hX hY hB M h
 subst hX;subst hY;subst hB;subst M;obtain ⟨_,_,_,_,_,hx,_,b1,b2,rfl,Γa,ak⟩:=hS.Al1 om
 refine .of (t:=OZ) rfl ?_
 unfold OZ
 obtain ⟨_,rfl,G1⟩:=Kt u C xo xt O H 3 g sub pl x c U j (E.Ab J) P R ‹_› rfl
 refine ch G1 ?_
 refine BW 0 0 ?_
 refine lt b 1 (fun t2=>?_) fun t2=>?_
 ·first|exact Ai ⟨[1,c],[],[],[]⟩ (⟨_,rfl,kn⟩) |(exfalso;omega)
 refine gt b 1024 (fun t3=>?_) fun t3=>?_
 ·first|exact Ai ⟨[1,c],[],[],[]⟩ (⟨_,rfl,kn⟩) |(exfalso;omega)
 obtain ⟨_,⟨aa,rfl,rfl⟩,D⟩:=d y g sub z pl fl x (c+1) j (S.Ab Z) Q P N R A u ‹_› rfl kn
 refine ch D ?_
 first|exact Ai ⟨[0,((c+1)-1)],[],[],[]⟩ (⟨_,rfl,kn⟩) |(exfalso;omega)
def Adt (J N:Nat) (m n:Nat):Prop:=∀{Γ:Ctx} {A O:Int} {y:Ctx} {l:List S} (d len:Int) (j C:Int) (sub o:Int) (pl fl:Int) (H c:Int) (D:List Nat) (L u:Rs) (P x R:Rs) (z:Mp) (X:Ck Γ o fl u x z) (U:DG A O Γ (l.drop j.toNat) y) (Q:L=S.Ab l) (h:d=L.length∧d≤200000∧len=d∧0≤j∧(A=0∨1≤c)∧0≤c∧c+S.Au (l.drop j.toNat)≤1000∧S.Au (l.drop j.toNat)≤m∧S.Ae (l.drop j.toNat)≤200000∧(len-j).toNat<n),Ok trees N ⟨[d,len,j,C,sub,o,pl,fl,H,c],[D],[L,u,P,x,R],[z]⟩ fun M=>(∃(g:Int),∃(k:Mp),M=(1,(⟨[g],[],[],[k]⟩:Ah))∧(Ck y o fl u x k)∧(c=g))
def Adp (u N:Nat):Prop:=∀{m:Nat} (J:ER u m) {Γ:Ctx} {C Q:Int} {z:Ctx} {l:List S} (d len:Int) (j D:Int) (sub o:Int) (pl fl:Int) (M c:Int) (H:List Nat) (L x:Rs) (P y R:Rs) (A:Mp) (Z:Ck Γ o fl x y A) (X:DG C Q Γ (l.drop j.toNat) z) (U:L=S.Ab l) (h:d=L.length∧d≤200000∧len=d∧0≤j∧(C=0∨1≤c)∧0≤c∧c+S.Au (l.drop j.toNat)≤1000∧S.Au (l.drop j.toNat)≤m∧S.Ae (l.drop j.toNat)≤200000:=by exact kn),Ok trees N ⟨[d,len,j,D,sub,o,pl,fl,M,c],[H],[L,x,P,y,R],[A]⟩ fun O=>(∃(g:Int),∃(k:Mp),O=(1,(⟨[g],[],[],[k]⟩:Ah))∧(Ck z o fl x y k)∧(c=g))
theorem Abk {m:Nat} (aj:ER 113 m) (n:Nat):Adt 113 116 m n:=by
 induction n with
 |zero=>intro Γ lp pu Γe l ln len j z sub D pl fl J k y L N P H R M x C aA h;exact absurd h.2.2.2.2.2.2.2.2.2 (Nat.not_lt_zero _)
 |succ n ih=>
 intro Γ lp pu Γe l ln len j z sub D pl fl J k y L N P H R M x C aA h
 subst aA
 refine .of (t:=Hi) rfl ?_
 unfold Hi
 refine lt j len (fun t1=>?_) fun t1=>?_
 ·refine CG j 0 ?_
  refine B9 j ln ?_
  obtain ⟨A,ai,t_1,ah,Z,af,ad,U,Q,ae,o,O,ab,aa,X,ac,u,d,g,bp,aI,c,bC,bF,bz⟩:=DG.get j C om om
  refine el aI ?_
  have bI:=c.AbT;have bj:=S.len d;have a2:=S.len g;have a5:=S.Az d;have ba:=S.Az g
  refine eq A 1 (fun t3=>?_) fun t3=>?_
  ·obtain ⟨_,⟨aG,rfl,aJ⟩,G4⟩:=Yr A ai t_1 ah af ad U Q ((E.Ab o).length:Int) O ab aa X ((E.Ab u).length:Int) ((S.Ab d).length:Int) ((S.Ab g).length:Int) z sub D pl fl J k Z ae ac y (E.Ab o) (E.Ab u) (S.Ab d) (S.Ab g) N P H R M x c rfl rfl rfl rfl
   refine ch G4 ?_
   refine BW 0 0 ?_
   obtain ⟨_,⟨br,aH,rfl,bt,rfl⟩,G5⟩:=ih ln len (j+1) z sub D pl fl J k y (S.Ab l) N P H R aG aJ ‹_› rfl kn
   refine cm G5 ?_
   refine ch G5 ?_
   exact Ai ⟨[k],[],[],[aH]⟩ (⟨_,_,rfl,(by first|assumption|(obtain ⟨_,_,e⟩:=Bs (l:=l) (j:=j) om;rw [e]at C;cases C;exact x)),kn⟩)
  refine eq A 2 (fun t6=>?_) fun t6=>?_
  ·obtain ⟨_,rfl,G7⟩:=AgN A ai t_1 ah af ad U Q ((E.Ab o).length:Int) O ab aa X ((E.Ab u).length:Int) ((S.Ab d).length:Int) ((S.Ab g).length:Int) z sub D pl fl J k Z ae ac y (E.Ab o) (E.Ab u) (S.Ab d) (S.Ab g) N P H R M x c rfl rfl rfl rfl
   refine ch G7 ?_
   refine BW 0 0 ?_
   obtain ⟨_,⟨bG,aF,rfl,bH,rfl⟩,G8⟩:=ih ln len (j+1) z sub D pl fl J k y (S.Ab l) N P H R M (x.keep c om) ‹_› rfl kn
   refine cm G8 ?_
   refine ch G8 ?_
   exact Ai ⟨[k],[],[],[aF]⟩ (⟨_,_,rfl,(by first|assumption|(obtain ⟨_,_,e⟩:=Bs (l:=l) (j:=j) om;rw [e]at C;cases C;exact x)),kn⟩)
  refine eq A 5 (fun t9=>?_) fun t9=>?_
  ·obtain ⟨_,⟨a9,rfl,rfl⟩,aX⟩:=Yq @aj A ai t_1 ah af ad U Q ((E.Ab o).length:Int) O ab aa X ((E.Ab u).length:Int) ((S.Ab d).length:Int) ((S.Ab g).length:Int) z sub D pl fl J k Z ae ac y (E.Ab o) (E.Ab u) (S.Ab d) (S.Ab g) N P H R M x c rfl rfl rfl rfl
   refine ch aX ?_
   refine BW 0 0 ?_
   obtain ⟨_,⟨bf,ak,rfl,bi,rfl⟩,aE⟩:=ih ln len (j+1) z sub D pl fl J k y (S.Ab l) N P H R M (x.keep c om) ‹_› rfl kn
   refine cm aE ?_
   refine ch aE ?_
   exact Ai ⟨[k],[],[],[ak]⟩ (⟨_,_,rfl,(by first|assumption|(obtain ⟨_,_,e⟩:=Bs (l:=l) (j:=j) om;rw [e]at C;cases C;exact x)),kn⟩)
  refine eq A 6 (fun aZ=>?_) fun aZ=>?_
  ·obtain ⟨_,⟨bh,rfl,rfl⟩,a0⟩:=Yp @aj A ai t_1 ah af ad U Q ((E.Ab o).length:Int) O ab aa X ((E.Ab u).length:Int) ((S.Ab d).length:Int) ((S.Ab g).length:Int) z sub D pl fl J k Z ae ac y (E.Ab o) (E.Ab u) (S.Ab d) (S.Ab g) N P H R M x c rfl rfl rfl rfl
   refine ch a0 ?_
   refine BW 0 0 ?_
   obtain ⟨_,⟨bm,av,rfl,a8,rfl⟩,aD⟩:=ih ln len (j+1) z sub D pl fl J k y (S.Ab l) N P H R M (x.keep c om) ‹_› rfl kn
   refine cm aD ?_
   refine ch aD ?_
   exact Ai ⟨[k],[],[],[av]⟩ (⟨_,_,rfl,(by first|assumption|(obtain ⟨_,_,e⟩:=Bs (l:=l) (j:=j) om;rw [e]at C;cases C;exact x)),kn⟩)
  refine eq A 7 (fun aW=>?_) fun aW=>?_
  ·refine eq k 0 (fun aK=>?_) fun aK=>?_
   ·exact dead
   obtain ⟨_,⟨a6,an,rfl,bk,rfl⟩,ay⟩:=ih ln len (j+1) z sub D pl fl J k y (S.Ab l) N P H R M (x.keep c om) ‹_› rfl kn
   refine cm ay ?_
   refine ch ay ?_
   exact Ai ⟨[k],[],[],[an]⟩ (⟨_,_,rfl,(by first|assumption|(obtain ⟨_,_,e⟩:=Bs (l:=l) (j:=j) om;rw [e]at C;cases C;exact x)),kn⟩)
  refine eq A 8 (fun aP=>?_) fun aP=>?_
  ·refine eq k 0 (fun aU=>?_) fun aU=>?_
   ·exact dead
   obtain ⟨_,⟨bg,ao,rfl,be,rfl⟩,az⟩:=ih ln len (j+1) z sub D pl fl J k y (S.Ab l) N P H R M (x.keep c om) ‹_› rfl kn
   refine cm az ?_
   refine ch az ?_
   exact Ai ⟨[k],[],[],[ao]⟩ (⟨_,_,rfl,(by first|assumption|(obtain ⟨_,_,e⟩:=Bs (l:=l) (j:=j) om;rw [e]at C;cases C;exact x)),kn⟩)
  refine eq A 3 (fun aR=>?_) fun aR=>?_
  ·obtain ⟨_,rfl,aL⟩:=AgM A ai t_1 ah af ad U Q ((E.Ab o).length:Int) O ab aa X ((E.Ab u).length:Int) ((S.Ab d).length:Int) ((S.Ab g).length:Int) z sub D pl fl J k Z ae ac y (E.Ab o) (E.Ab u) (S.Ab d) (S.Ab g) N P H R M x c rfl rfl rfl rfl
   refine ch aL ?_
   refine BW 0 0 ?_
   obtain ⟨_,⟨a1,aq,rfl,a3,rfl⟩,aB⟩:=ih ln len (j+1) z sub D pl fl J k y (S.Ab l) N P H R M (x.keep c om) ‹_› rfl kn
   refine cm aB ?_
   refine ch aB ?_
   exact Ai ⟨[k],[],[],[aq]⟩ (⟨_,_,rfl,(by first|assumption|(obtain ⟨_,_,e⟩:=Bs (l:=l) (j:=j) om;rw [e]at C;cases C;exact x)),kn⟩)
  refine eq A 4 (fun aY=>?_) fun aY=>?_
  ·obtain ⟨_,rfl,aV⟩:=AgL A ai t_1 ah af ad U Q ((E.Ab o).length:Int) O ab aa X ((E.Ab u).length:Int) ((S.Ab d).length:Int) ((S.Ab g).length:Int) z sub D pl fl J k Z ae ac y (E.Ab o) (E.Ab u) (S.Ab d) (S.Ab g) N P H R M x c rfl rfl rfl rfl
   refine ch aV ?_
   refine BW 0 0 ?_
   obtain ⟨_,⟨a7,am,rfl,bn,rfl⟩,aC⟩:=ih ln len (j+1) z sub D pl fl J k y (S.Ab l) N P H R M (x.keep c om) ‹_› rfl kn
   refine cm aC ?_
   refine ch aC ?_
   exact Ai ⟨[k],[],[],[am]⟩ (⟨_,_,rfl,(by first|assumption|(obtain ⟨_,_,e⟩:=Bs (l:=l) (j:=j) om;rw [e]at C;cases C;exact x)),kn⟩)
  refine eq A 12 (fun aM=>?_) fun aM=>?_
  ·obtain ⟨_,rfl,aO⟩:=AgK A ai t_1 ah af ad U Q ((E.Ab o).length:Int) O ab aa X ((E.Ab u).length:Int) ((S.Ab d).length:Int) ((S.Ab g).length:Int) z sub D pl fl J k Z ae ac y (E.Ab o) (E.Ab u) (S.Ab d) (S.Ab g) N P H R M x c rfl rfl rfl rfl
   refine ch aO ?_
   refine BW 0 0 ?_
   obtain ⟨_,⟨a4,ap,rfl,bd,rfl⟩,aw⟩:=ih ln len (j+1) z sub D pl fl J k y (S.Ab l) N P H R M (x.keep c om) ‹_› rfl kn
   refine cm aw ?_
   refine ch aw ?_
   exact Ai ⟨[k],[],[],[ap]⟩ (⟨_,_,rfl,(by first|assumption|(obtain ⟨_,_,e⟩:=Bs (l:=l) (j:=j) om;rw [e]at C;cases C;exact x)),kn⟩)
  obtain ⟨_,⟨bb,au,rfl,bc,rfl⟩,ax⟩:=ih ln len (j+1) z sub D pl fl J k y (S.Ab l) N P H R M (x.keep c om) ‹_› rfl kn
  refine cm ax ?_
  refine ch ax ?_
  exact Ai ⟨[k],[],[],[au]⟩ (⟨_,_,rfl,(by first|assumption|(obtain ⟨_,_,e⟩:=Bs (l:=l) (j:=j) om;rw [e]at C;cases C;exact x)),kn⟩)
 exact Ai ⟨[k],[],[],[M]⟩ (⟨_,_,rfl,(by first|assumption|(obtain ⟨_,_,e⟩:=Bs (l:=l) (j:=j) om;rw [e]at C;cases C;exact x)),kn⟩)
theorem AcG:Adp 113 116:=fun {m} hC113 {Γ} {lp} {pu} {Γe} {l} ln len j grp sub al pl fl bl lo knm L Ar P Fs R mp hC hO hLs h=>Abk @hC113 ((len-j).toNat+1) ln len j grp sub al pl fl bl lo knm L Ar P Fs R mp hC hO hLs ⟨h.1,h.2.1,h.2.2.1,h.2.2.2.1,h.2.2.2.2.1,h.2.2.2.2.2.1,h.2.2.2.2.2.2.1,h.2.2.2.2.2.2.2.1,h.2.2.2.2.2.2.2.2,Nat.lt_succ_self _⟩
def Adq (k N:Nat):Prop:=∀{m:Nat} (H:ER k m) {Γ:Ctx} {A O:Int} {y:Ctx} {l:List S} (o C:Int) (sub j:Int) (pl fl:Int) (J c:Int) (D:List Nat) (L u:Rs) (P x R:Rs) (z:Mp) (X:Ck Γ j fl u x z) (U:DG A O Γ l y) (Q:L=S.Ab l) (h:o=L.length∧o≤200000∧(A=0∨1≤c)∧0≤c∧c+S.Au l≤1000∧S.Ae l≤200000∧S.Au l≤m:=by exact kn),Ok trees N ⟨[o,C,sub,j,pl,fl,J,c],[D],[L,u,P,x,R],[z]⟩ fun M=>(∃(d:Int),∃(g:Mp),M=(0,(⟨[0,d],[],[],[g]⟩:Ah))∧(Ck y j fl u x g)∧(c=d))
theorem AcH:Adq 113 115:=by
 intro m c Γ X Z Q l o g sub y pl fl J u k L M P H R z C N j h
 subst j;have U:S.Au (l.drop (0:Int).toNat)=S.Au l:=rfl;have O:S.Ae (l.drop (0:Int).toNat)=S.Ae l:=rfl
 refine .of (t:=Pd) rfl ?_
 unfold Pd
 obtain ⟨_,⟨D,d,rfl,A,rfl⟩,x⟩:=AcG @c o o 0 g sub y pl fl J u k (S.Ab l) M P H R z C N rfl
 refine cm x ?_
 refine ch x ?_
 exact Ai ⟨[0,u],[],[],[d]⟩ (⟨_,_,rfl,‹_›,kn⟩)
theorem Abl (n:Nat):ER 113 n:=by
 induction n with
 |zero=>intro Γ N Q M l z c sub k pl fl y j g L A P x R o u C d h;exact absurd h.2.2.2.2.2.2 (Nat.not_lt_zero _)
 |succ n ih=>
 intro Γ N Q M l z c sub k pl fl y j g L A P x R o u C d h
 refine .of (t:=Pe) rfl ?_
 unfold Pe
 obtain ⟨_,⟨J,H,rfl,D,rfl⟩,O⟩:=AcH @ih z c sub k pl fl y j g L A P x R o u C d
 refine ch O ?_
 exact Ai ⟨[0,j],[],[],[]⟩ (⟨_,rfl,kn⟩)
theorem Qg:Y5 113:=fun {Γ} {lp} {pu} {Γe} {l} ln grp sub al pl fl bl lo knm L Ar P Fs R mp hC hO hLs h=>Abl (S.Au l+1) ln grp sub al pl fl bl lo knm L Ar P Fs R mp hC hO hLs ⟨h.1,h.2.1,h.2.2.1,h.2.2.2.1,h.2.2.2.2.1,h.2.2.2.2.2,Nat.lt_succ_self _⟩
end Go.Proofs.YtbmofjdmgjpfoaaGreatDoor.Am
end
section
set_option maxHeartbeats 4000000
set_option maxRecDepth 100000
namespace Go.Proofs.YtbmofjdmgjpfoaaGreatDoor.Am
open Go.AM Go.AM.K
namespace V
def Ado (N:Nat):Prop:=∀{Γ:Ctx} {z:List E} {z1 z2 z3:Int} (k o:Int) (t b:Int) (g M:Int) (O D:Int) (j yk:Int) (U yt:Int) (yw yl:Int) (C u:Int) (x sub:Int) (d pl:Int) (fl bl lo:Int) (nm J:List Nat) (Q y:List Nat) (X Y:Rs) (Z El:Rs) (H P:Rs) (A R:Rs) (c:Mp) (hC:Ck Γ d fl H A c) (hx:T Γ t (.node g M O D J z)) (hX:X=E.Ab z) (hg:Γ nm=some (z1,z2,z3)) (h:j=X.length∧k=1:=by exact kn),Ok trees N ⟨[k,o,t,b,g,M,O,D,j,yk,U,yt,yw,yl,C,u,x,sub,d,pl,fl,bl,lo],[nm,J,Q,y],[X,Y,Z,El,H,P,A,R],[c]⟩ fun zz=>(zz=(0,(⟨[30],[],[],[c]⟩:Ah)))
theorem Yr:Ado 117:=by
 intro Γ y z1 z2 z3 k o t b u H M A x yk yo yt yw yl Q O c sub U pl fl z D nm C Z g X Y Bo El Ar P Fs R j d hx J hg h
 subst J
 refine .of (t:=Pc) rfl ?_
 unfold Pc
 obtain ⟨_,rfl,N⟩:=Am.Uc d t u H M A x c sub pl z D C g (E.Ab y) P R ‹_› rfl
 refine ch N ?_
 refine BW 0 0 ?_
 refine lh (d.look hg) ?_
 first|exact Ai ⟨[30],[],[],[j]⟩ (rfl) |(exfalso;omega)
def ER (N n:Nat):Prop:=∀{Γ:Ctx} {x D:Int} {l:List S} (g y:Int) (sub j:Int) (pl fl:Int) (A c:Int) (z:List Nat) (L k:Rs) (P u R:Rs) (o:Mp) (M:Ck Γ j fl k u o) (J:EW x D Γ l) (H:L=S.Ab l) (h:g=L.length∧g≤200000∧(x=0∨1≤c)∧0≤c∧c+S.Au l≤900∧S.Ae l≤200000∧S.Au l<n),Ok trees N ⟨[g,y,sub,j,pl,fl,A,c],[z],[L,k,P,u,R],[o]⟩ fun C=>(∃(d:Int),C=(0,(⟨[30,d],[],[],[]⟩:Ah))∧(c=d))
def Y5 (N:Nat):Prop:=∀{Γ:Ctx} {x D:Int} {l:List S} (g y:Int) (sub j:Int) (pl fl:Int) (A c:Int) (z:List Nat) (L k:Rs) (P u R:Rs) (o:Mp) (M:Ck Γ j fl k u o) (J:EW x D Γ l) (H:L=S.Ab l) (h:g=L.length∧g≤200000∧(x=0∨1≤c)∧0≤c∧c+S.Au l≤900∧S.Ae l≤200000:=by exact kn),Ok trees N ⟨[g,y,sub,j,pl,fl,A,c],[z],[L,k,P,u,R],[o]⟩ fun C=>(∃(d:Int),C=(0,(⟨[30,d],[],[],[]⟩:Ah))∧(c=d))
def Adn (A N:Nat):Prop:=∀{m:Nat} (af:ER A m) {Γ:Ctx} {u C:Int} {U:List E} {c el:List S} (k o:Int) (t b:Int) (J xo:Int) (xt xw:Int) (M yk:Int) (yo yt:Int) (yw yl:Int) (g d:Int) (O sub:Int) (D pl:Int) (fl bl j:Int) (nm xn:List Nat) (yn Q:List Nat) (X Y:Rs) (y z:Rs) (Ar P:Rs) (Z R:Rs) (H:Mp) (hC:Ck Γ D fl Ar Z H) (hx:T Γ 3 (.node J xo xt xw xn U)) (hX:X=E.Ab U) (hB:y=S.Ab c) (hE:z=S.Ab el) (hb:EW u C Γ c∨((∃Γ1,DG u C Γ c Γ1)∧EW u C Γ el)) (h:M=X.length∧g=y.length∧d=z.length∧(u=0∨1≤j)∧0≤j∧j+1+max (S.Au c) (S.Au el)≤900∧S.Ae c≤200000∧S.Ae el≤200000∧S.Au c<m∧S.Au el<m∧g≤200000∧d≤200000∧k=5:=by exact kn),Ok trees N ⟨[k,o,t,b,J,xo,xt,xw,M,yk,yo,yt,yw,yl,g,d,O,sub,D,pl,fl,bl,j],[nm,xn,yn,Q],[X,Y,y,z,Ar,P,Z,R],[H]⟩ fun zz=>(∃(x:Int),zz=(0,(⟨[30,x],[],[],[]⟩:Ah))∧(j=x))
theorem Yq:Adn 113 119:=by
 intro m j Γ lp pu N U el k o t b H Z xt O J yk yo yt yw yl y M c sub z pl fl x g nm Q yn d X Y Bo El D P C R A u hx hX hB hE hb h
 subst hX;subst hB;subst hE
 rcases hb with hb|⟨⟨Γa,ho⟩,hb⟩
 ·refine .of (t:=Lx) rfl ?_
  unfold Lx
  obtain ⟨_,rfl,G1⟩:=Am.Kt u H Z xt O J 3 c sub pl x g Q d (E.Ab N) P R ‹_› rfl
  refine ch G1 ?_
  refine BF 0 0 ?_
  obtain ⟨_,⟨af,rfl,rfl⟩,G2⟩:=j y c sub z pl fl x g d (S.Ab U) D P C R A u hb rfl kn
  refine ch G2 ?_
  refine AN 30 0 ?_
  first|exact Ai ⟨[30,g],[],[],[]⟩ (⟨_,rfl,kn⟩) |(exfalso;omega)
 ·refine .of (t:=Lx) rfl ?_
  unfold Lx
  obtain ⟨_,rfl,G3⟩:=Am.Kt u H Z xt O J 3 c sub pl x g Q d (E.Ab N) P R ‹_› rfl
  refine ch G3 ?_
  refine BF 0 0 ?_
  obtain ⟨_,⟨ag,rfl,rfl⟩,G4⟩:=Am.Qg y c sub z pl fl x g d (S.Ab U) D P C R A u ho rfl
  refine ch G4 ?_
  refine BF 0 0 ?_
  obtain ⟨_,⟨ac,rfl,rfl⟩,G5⟩:=j M c sub z pl fl x g d (S.Ab el) D P C R A u hb rfl kn
  refine ch G5 ?_
  first|exact Ai ⟨[30,g],[],[],[]⟩ (⟨_,rfl,kn⟩) |(exfalso;omega)
def Adm (x N:Nat):Prop:=∀{m:Nat} (ac:ER x m) {Γ:Ctx} {pu:Int} {M:List E} {d:List S} (k o:Int) (t b:Int) (A xo:Int) (xt Q:Int) (C yk:Int) (yo yt:Int) (yw yl:Int) (c D:Int) (H sub:Int) (y pl:Int) (fl bl g:Int) (nm Z:List Nat) (yn J:List Nat) (X Y:Rs) (u El:Rs) (U P:Rs) (O R:Rs) (z:Mp) (hC:Ck Γ y fl U O z) (hx:T Γ 3 (.node A xo xt Q Z M)) (hX:X=E.Ab M) (hB:u=S.Ab d) (hb:EW 1 pu Γ d) (h:C=X.length∧c=u.length∧0≤g∧g+1+S.Au d≤900∧S.Ae d≤200000∧S.Au d<m∧c≤200000∧1≤b∧b≤4∧k=6:=by exact kn),Ok trees N ⟨[k,o,t,b,A,xo,xt,Q,C,yk,yo,yt,yw,yl,c,D,H,sub,y,pl,fl,bl,g],[nm,Z,yn,J],[X,Y,u,El,U,P,O,R],[z]⟩ fun zz=>(∃(j:Int),zz=(0,(⟨[30,j],[],[],[]⟩:Ah))∧(g=j))
theorem Yp:Adm 113 120:=by
 intro m d Γ pu J U k o t b C xo xt N H yk yo yt yw yl y ag g sub z pl fl x c nm Q yn j X Y Bo El O P M R A u hx hX hB hb h
 subst hX;subst hB
 refine .of (t:=OZ) rfl ?_
 unfold OZ
 obtain ⟨_,rfl,G1⟩:=Am.Kt u C xo xt N H 3 g sub pl x c Q j (E.Ab J) P R ‹_› rfl
 refine ch G1 ?_
 refine BW 0 0 ?_
 refine lt b 1 (fun t2=>?_) fun t2=>?_
 ·first|exact Ai ⟨[1,c],[],[],[]⟩ (⟨_,rfl,kn⟩) |(exfalso;omega)
 refine gt b 1024 (fun t3=>?_) fun t3=>?_
 ·first|exact Ai ⟨[1,c],[],[],[]⟩ (⟨_,rfl,kn⟩) |(exfalso;omega)
 obtain ⟨_,⟨Z,rfl,rfl⟩,D⟩:=d y g sub z pl fl x (c+1) j (S.Ab U) O P M R A u hb rfl kn
 refine ch D ?_
 first|exact Ai ⟨[30,((c+1)-1)],[],[],[]⟩ (⟨_,rfl,kn⟩) |(exfalso;omega)
def Adt (H N:Nat) (m n:Nat):Prop:=∀{Γ:Ctx} {y M:Int} {l:List S} (d len:Int) (j z:Int) (sub k:Int) (pl fl:Int) (D c:Int) (C:List Nat) (L o:Rs) (P x R:Rs) (u:Mp) (U:Ck Γ k fl o x u) (Q:EW y M Γ (l.drop j.toNat)) (O:L=S.Ab l) (h:d=L.length∧d≤200000∧len=d∧0≤j∧(y=0∨1≤c)∧0≤c∧c+S.Au (l.drop j.toNat)≤900∧S.Au (l.drop j.toNat)≤m∧S.Ae (l.drop j.toNat)≤200000∧(len-j).toNat<n),Ok trees N ⟨[d,len,j,z,sub,k,pl,fl,D,c],[C],[L,o,P,x,R],[u]⟩ fun J=>(∃(g:Int),∃(A:Mp),J=(0,(⟨[30,g],[],[],[A]⟩:Ah))∧(c=g))
def Adp (k N:Nat):Prop:=∀{m:Nat} (H:ER k m) {Γ:Ctx} {z O:Int} {l:List S} (d len:Int) (j A:Int) (sub o:Int) (pl fl:Int) (J c:Int) (D:List Nat) (L u:Rs) (P y R:Rs) (x:Mp) (X:Ck Γ o fl u y x) (U:EW z O Γ (l.drop j.toNat)) (Q:L=S.Ab l) (h:d=L.length∧d≤200000∧len=d∧0≤j∧(z=0∨1≤c)∧0≤c∧c+S.Au (l.drop j.toNat)≤900∧S.Au (l.drop j.toNat)≤m∧S.Ae (l.drop j.toNat)≤200000:=by exact kn),Ok trees N ⟨[d,len,j,A,sub,o,pl,fl,J,c],[D],[L,u,P,y,R],[x]⟩ fun M=>(∃(g:Int),∃(C:Mp),M=(0,(⟨[30,g],[],[],[C]⟩:Ah))∧(c=g))
theorem Abk {m:Nat} (ai:ER 113 m) (n:Nat):Adt 113 116 m n:=by
 induction n with
 |zero=>intro Γ lp pu l X len j u sub C pl fl H c o L J P D R z M hO av h;exact absurd h.2.2.2.2.2.2.2.2.2 (Nat.not_lt_zero _)
 |succ n ih=>
 intro Γ lp pu l X len j u sub C pl fl H c o L J P D R z M hO av h
 subst av;have bO:=S.Az l;obtain ⟨hj,hv⟩:=EW.get j hO om
 rcases hv with hv|⟨t,nm,xk,xo,xt,xv,xn,xa,z1,z2,z3,hget,hg,ht1,ht3,hx⟩|⟨xk,xo,xt,xv,xn,xa,bo,e2,hget,hx,hb,hd,hn⟩|⟨b,xk,xo,xt,xv,xn,xa,bo,hget,hx,hb1,hb4,hb,hd,hn⟩
 ·refine .of (t:=Hi) rfl ?_
  unfold Hi
  refine lt j len (fun t1=>?_) fun t1=>?_
  ·refine CG j 0 ?_
   refine B9 j X ?_
   obtain ⟨A,ah,t_1,ag,Z,af,ad,Q,O,ae,x,N,ab,aa,U,ac,y,g,k,bv,az,d,bE,bJ,bB⟩:=hv
   refine el az ?_
   have bL:=d.AbT;have bq:=S.len g;have bc:=S.len k;have be:=S.Az g;have bj:=S.Az k
   refine eq A 1 (fun t3=>?_) fun t3=>?_
   ·obtain ⟨_,⟨ax,rfl,aA⟩,G4⟩:=Am.Yr A ah t_1 ag af ad Q O ((E.Ab x).length:Int) N ab aa U ((E.Ab y).length:Int) ((S.Ab g).length:Int) ((S.Ab k).length:Int) u sub C pl fl H c Z ae ac o (E.Ab x) (E.Ab y) (S.Ab g) (S.Ab k) J P D R z M d rfl rfl rfl rfl
    refine ch G4 ?_
    refine BW 0 0 ?_
    obtain ⟨_,⟨bx,ay,rfl,rfl⟩,G5⟩:=ih X len (j+1) u sub C pl fl H c o (S.Ab l) J P D R ax aA ‹_› rfl kn
    refine ch G5 ?_
    first|exact Ai ⟨[30,c],[],[],[ay]⟩ (⟨_,_,rfl,kn⟩) |(exfalso;omega)
   refine eq A 2 (fun t6=>?_) fun t6=>?_
   ·obtain ⟨_,rfl,G7⟩:=Am.AgN A ah t_1 ag af ad Q O ((E.Ab x).length:Int) N ab aa U ((E.Ab y).length:Int) ((S.Ab g).length:Int) ((S.Ab k).length:Int) u sub C pl fl H c Z ae ac o (E.Ab x) (E.Ab y) (S.Ab g) (S.Ab k) J P D R z M d rfl rfl rfl rfl
    refine ch G7 ?_
    refine BW 0 0 ?_
    obtain ⟨_,⟨bK,aw,rfl,rfl⟩,G8⟩:=ih X len (j+1) u sub C pl fl H c o (S.Ab l) J P D R z (M.keep d om) ‹_› rfl kn
    refine ch G8 ?_
    first|exact Ai ⟨[30,c],[],[],[aw]⟩ (⟨_,_,rfl,kn⟩) |(exfalso;omega)
   refine eq A 5 (fun t9=>?_) fun t9=>?_
   ·obtain ⟨_,⟨bi,rfl,rfl⟩,aZ⟩:=Am.Yq (Am.ER.of (n:=1000) @Am.Qg) A ah t_1 ag af ad Q O ((E.Ab x).length:Int) N ab aa U ((E.Ab y).length:Int) ((S.Ab g).length:Int) ((S.Ab k).length:Int) u sub C pl fl H c Z ae ac o (E.Ab x) (E.Ab y) (S.Ab g) (S.Ab k) J P D R z M d rfl rfl rfl rfl
    refine ch aZ ?_
    refine BW 0 0 ?_
    obtain ⟨_,⟨bm,aj,rfl,rfl⟩,a7⟩:=ih X len (j+1) u sub C pl fl H c o (S.Ab l) J P D R z (M.keep d om) ‹_› rfl kn
    refine ch a7 ?_
    first|exact Ai ⟨[30,c],[],[],[aj]⟩ (⟨_,_,rfl,kn⟩) |(exfalso;omega)
   refine eq A 6 (fun a6=>?_) fun a6=>?_
   ·obtain ⟨_,⟨bp,rfl,rfl⟩,a9⟩:=Am.Yp (Am.ER.of (n:=1000) @Am.Qg) A ah t_1 ag af ad Q O ((E.Ab x).length:Int) N ab aa U ((E.Ab y).length:Int) ((S.Ab g).length:Int) ((S.Ab k).length:Int) u sub C pl fl H c Z ae ac o (E.Ab x) (E.Ab y) (S.Ab g) (S.Ab k) J P D R z M d rfl rfl rfl rfl
    refine ch a9 ?_
    refine BW 0 0 ?_
    obtain ⟨_,⟨br,au,rfl,rfl⟩,a4⟩:=ih X len (j+1) u sub C pl fl H c o (S.Ab l) J P D R z (M.keep d om) ‹_› rfl kn
    refine ch a4 ?_
    first|exact Ai ⟨[30,c],[],[],[au]⟩ (⟨_,_,rfl,kn⟩) |(exfalso;omega)
   refine eq A 7 (fun aY=>?_) fun aY=>?_
   ·refine eq c 0 (fun aB=>?_) fun aB=>?_
    ·first|exact Ai ⟨[31,c],[],[],[z]⟩ (⟨_,_,rfl,kn⟩) |(exfalso;omega)
    obtain ⟨_,⟨bf,am,rfl,rfl⟩,aP⟩:=ih X len (j+1) u sub C pl fl H c o (S.Ab l) J P D R z (M.keep d om) ‹_› rfl kn
    refine ch aP ?_
    first|exact Ai ⟨[30,c],[],[],[am]⟩ (⟨_,_,rfl,kn⟩) |(exfalso;omega)
   refine eq A 8 (fun aR=>?_) fun aR=>?_
   ·refine eq c 0 (fun aW=>?_) fun aW=>?_
    ·first|exact Ai ⟨[31,c],[],[],[z]⟩ (⟨_,_,rfl,kn⟩) |(exfalso;omega)
    obtain ⟨_,⟨bn,an,rfl,rfl⟩,aU⟩:=ih X len (j+1) u sub C pl fl H c o (S.Ab l) J P D R z (M.keep d om) ‹_› rfl kn
    refine ch aU ?_
    first|exact Ai ⟨[30,c],[],[],[an]⟩ (⟨_,_,rfl,kn⟩) |(exfalso;omega)
   refine eq A 3 (fun aV=>?_) fun aV=>?_
   ·obtain ⟨_,rfl,aF⟩:=Am.AgM A ah t_1 ag af ad Q O ((E.Ab x).length:Int) N ab aa U ((E.Ab y).length:Int) ((S.Ab g).length:Int) ((S.Ab k).length:Int) u sub C pl fl H c Z ae ac o (E.Ab x) (E.Ab y) (S.Ab g) (S.Ab k) J P D R z M d rfl rfl rfl rfl
    refine ch aF ?_
    refine BW 0 0 ?_
    obtain ⟨_,⟨bb,ap,rfl,rfl⟩,a1⟩:=ih X len (j+1) u sub C pl fl H c o (S.Ab l) J P D R z (M.keep d om) ‹_› rfl kn
    refine ch a1 ?_
    first|exact Ai ⟨[30,c],[],[],[ap]⟩ (⟨_,_,rfl,kn⟩) |(exfalso;omega)
   refine eq A 4 (fun a0=>?_) fun a0=>?_
   ·obtain ⟨_,rfl,aX⟩:=Am.AgL A ah t_1 ag af ad Q O ((E.Ab x).length:Int) N ab aa U ((E.Ab y).length:Int) ((S.Ab g).length:Int) ((S.Ab k).length:Int) u sub C pl fl H c Z ae ac o (E.Ab x) (E.Ab y) (S.Ab g) (S.Ab k) J P D R z M d rfl rfl rfl rfl
    refine ch aX ?_
    refine BW 0 0 ?_
    obtain ⟨_,⟨bh,ak,rfl,rfl⟩,a2⟩:=ih X len (j+1) u sub C pl fl H c o (S.Ab l) J P D R z (M.keep d om) ‹_› rfl kn
    refine ch a2 ?_
    first|exact Ai ⟨[30,c],[],[],[ak]⟩ (⟨_,_,rfl,kn⟩) |(exfalso;omega)
   refine eq A 12 (fun aJ=>?_) fun aJ=>?_
   ·obtain ⟨_,rfl,aM⟩:=Am.AgK A ah t_1 ag af ad Q O ((E.Ab x).length:Int) N ab aa U ((E.Ab y).length:Int) ((S.Ab g).length:Int) ((S.Ab k).length:Int) u sub C pl fl H c Z ae ac o (E.Ab x) (E.Ab y) (S.Ab g) (S.Ab k) J P D R z M d rfl rfl rfl rfl
    refine ch aM ?_
    refine BW 0 0 ?_
    obtain ⟨_,⟨bd,ao,rfl,rfl⟩,aN⟩:=ih X len (j+1) u sub C pl fl H c o (S.Ab l) J P D R z (M.keep d om) ‹_› rfl kn
    refine ch aN ?_
    first|exact Ai ⟨[30,c],[],[],[ao]⟩ (⟨_,_,rfl,kn⟩) |(exfalso;omega)
   obtain ⟨_,⟨bk,aq,rfl,rfl⟩,aO⟩:=ih X len (j+1) u sub C pl fl H c o (S.Ab l) J P D R z (M.keep d om) ‹_› rfl kn
   refine ch aO ?_
   first|exact Ai ⟨[30,c],[],[],[aq]⟩ (⟨_,_,rfl,kn⟩) |(exfalso;omega)
  exact dead
 ·refine .of (t:=Hi) rfl ?_
  unfold Hi
  refine lt j len (fun aH=>?_) fun aH=>?_
  ·refine CG j 0 ?_
   refine B9 j X ?_
   refine el hget ?_
   refine BF 1 1 ?_
   obtain ⟨_,rfl,aD⟩:=Yr 1 0 t 0 xk xo xt xv ((E.Ab xa).length:Int) 0 0 0 0 ((E.Ab []).length:Int) ((S.Ab []).length:Int) ((S.Ab []).length:Int) u sub C pl fl H c nm xn [] o (E.Ab xa) (E.Ab []) (S.Ab []) (S.Ab []) J P D R z M hx rfl hg
   refine ch aD ?_
   refine neY 30 0 ?_
   first|exact Ai ⟨[30,c],[],[],[z]⟩ (⟨_,_,rfl,kn⟩) |(exfalso;omega)
  exact dead
 ·have aI:=S.len bo;have a8:=S.Az bo;have bM:=S.len e2;have bN:=S.Az e2;have aG:(S.Ab ([]:List S)).length=0:=rfl;have aQ:S.Au ([]:List S)=0:=rfl;have aL:S.Ae ([]:List S)=0:=rfl
  refine .of (t:=Hi) rfl ?_
  unfold Hi
  refine lt j len (fun a5=>?_) fun a5=>?_
  ·refine CG j 0 ?_
   refine B9 j X ?_
   refine el hget ?_
   refine AN 5 1 ?_
   refine AN 5 2 ?_
   refine BF 5 5 ?_
   obtain ⟨_,⟨bg,rfl,rfl⟩,a3⟩:=Yq @ai 5 0 0 0 xk xo xt xv ((E.Ab xa).length:Int) 0 0 0 0 ((E.Ab []).length:Int) ((S.Ab bo).length:Int) ((S.Ab e2).length:Int) u sub C pl fl H c [] xn [] o (E.Ab xa) (E.Ab []) (S.Ab bo) (S.Ab e2) J P D R z M hx rfl rfl rfl hb
   refine ch a3 ?_
   refine neY 30 0 ?_
   first|exact Ai ⟨[30,c],[],[],[z]⟩ (⟨_,_,rfl,kn⟩) |(exfalso;omega)
  exact dead
 ·have aI:=S.len bo;have a8:=S.Az bo;have aG:(S.Ab ([]:List S)).length=0:=rfl;have aQ:S.Au ([]:List S)=0:=rfl;have aL:S.Ae ([]:List S)=0:=rfl
  refine .of (t:=Hi) rfl ?_
  unfold Hi
  refine lt j len (fun aC=>?_) fun aC=>?_
  ·refine CG j 0 ?_
   refine B9 j X ?_
   refine el hget ?_
   refine AN 6 1 ?_
   refine AN 6 2 ?_
   refine AN 6 5 ?_
   refine BF 6 6 ?_
   obtain ⟨_,⟨ba,rfl,rfl⟩,aE⟩:=Yp @ai 6 0 0 b xk xo xt xv ((E.Ab xa).length:Int) 0 0 0 0 ((E.Ab []).length:Int) ((S.Ab bo).length:Int) ((S.Ab []).length:Int) u sub C pl fl H c [] xn [] o (E.Ab xa) (E.Ab []) (S.Ab bo) (S.Ab []) J P D R z M hx rfl rfl hb
   refine ch aE ?_
   refine neY 30 0 ?_
   first|exact Ai ⟨[30,c],[],[],[z]⟩ (⟨_,_,rfl,kn⟩) |(exfalso;omega)
  exact dead
theorem AcG:Adp 113 116:=fun {m} hC113 {Γ} {lp} {pu} {l} ln len j grp sub al pl fl bl lo knm L Ar P Fs R mp hC hO hLs h=>Abk @hC113 ((len-j).toNat+1) ln len j grp sub al pl fl bl lo knm L Ar P Fs R mp hC hO hLs ⟨h.1,h.2.1,h.2.2.1,h.2.2.2.1,h.2.2.2.2.1,h.2.2.2.2.2.1,h.2.2.2.2.2.2.1,h.2.2.2.2.2.2.2.1,h.2.2.2.2.2.2.2.2,Nat.lt_succ_self _⟩
def Adq (g N:Nat):Prop:=∀{m:Nat} (D:ER g m) {Γ:Ctx} {y M:Int} {l:List S} (j z:Int) (sub k:Int) (pl fl:Int) (H c:Int) (C:List Nat) (L o:Rs) (P x R:Rs) (u:Mp) (U:Ck Γ k fl o x u) (Q:EW y M Γ l) (O:L=S.Ab l) (h:j=L.length∧j≤200000∧(y=0∨1≤c)∧0≤c∧c+S.Au l≤900∧S.Ae l≤200000∧S.Au l≤m:=by exact kn),Ok trees N ⟨[j,z,sub,k,pl,fl,H,c],[C],[L,o,P,x,R],[u]⟩ fun J=>(∃(d:Int),∃(A:Mp),J=(0,(⟨[30,d],[],[],[A]⟩:Ah))∧(c=d))
theorem AcH:Adq 113 115:=by
 intro m c Γ Q U l o g sub x pl fl D u k L H P C R y z J j h
 subst j;have O:S.Au (l.drop (0:Int).toNat)=S.Au l:=rfl;have N:S.Ae (l.drop (0:Int).toNat)=S.Ae l:=rfl
 refine .of (t:=Pd) rfl ?_
 unfold Pd
 obtain ⟨_,⟨A,d,rfl,rfl⟩,M⟩:=AcG @c o o 0 g sub x pl fl D u k (S.Ab l) H P C R y z J rfl
 refine ch M ?_
 exact Ai ⟨[30,u],[],[],[d]⟩ (⟨_,_,rfl,kn⟩)
theorem Abl (n:Nat):ER 113 n:=by
 induction n with
 |zero=>intro Γ J N l z c sub k pl fl y j g L A P x R o u C d h;exact absurd h.2.2.2.2.2.2 (Nat.not_lt_zero _)
 |succ n ih=>
 intro Γ J N l z c sub k pl fl y j g L A P x R o u C d h
 refine .of (t:=Pe) rfl ?_
 unfold Pe
 obtain ⟨_,⟨H,D,rfl,rfl⟩,M⟩:=AcH @ih z c sub k pl fl y j g L A P x R o u C d
 refine ch M ?_
 exact Ai ⟨[30,j],[],[],[]⟩ (⟨_,rfl,kn⟩)
theorem Qg:Y5 113:=fun {Γ} {lp} {pu} {l} ln grp sub al pl fl bl lo knm L Ar P Fs R mp hC hO hLs h=>Abl (S.Au l+1) ln grp sub al pl fl bl lo knm L Ar P Fs R mp hC hO hLs ⟨h.1,h.2.1,h.2.2.1,h.2.2.2.1,h.2.2.2.2.1,h.2.2.2.2.2,Nat.lt_succ_self _⟩
end V
end Go.Proofs.YtbmofjdmgjpfoaaGreatDoor.Am
end
