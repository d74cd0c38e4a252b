/- Part 13 of the proof of TypesAccepts. -/
import Derived.Test.YtbmofjdmgjpfoaaGreatDoorC11
import Derived.Test.YtbmofjdmgjpfoaaGreatDoorC12
set_option linter.all false
section
set_option maxHeartbeats 4000000
set_option maxRecDepth 100000
namespace Go.Proofs.YtbmofjdmgjpfoaaGreatDoor.Am
open Go.AM Go.AM.K
def AjW (N:Nat) (Γ:Ctx) (al Z:Int) (C H:Rs) (U:Mp) (n:Nat):Prop:=∀(k q:Int) (len j:Int) (x sub:Int) (pl J:Int) (lo c:Int) (y u:Int) (rk ro:Int) (O rv D:Int) (d o v:List Nat) (T z:Rs) (P R:Rs) (g A Q:Rs) (hT:T=[1,1].map Bg) (hF:z=AF) (h:k=2∧q=2∧len=2∧0≤j∧j≤2∧(2-j).toNat<n),Ok trees N ⟨[k,q,len,j,x,sub,al,pl,Z,J,lo,c,y,u,rk,ro,O,rv,D],[d,o,v],[T,z,C,P,H,R,g,A,Q],[U]⟩ fun M=>(M=(1,v0))
def Ajo (N:Nat):Prop:=∀{Γ:Ctx} {J D:Int} {d g:Rs} {C:Mp} (hC:Ck Γ J D d g C) (q v:Int) (len j:Int) (z sub:Int) (pl Q:Int) (lo c:Int) (A x:Int) (rk ro:Int) (Z rv O:Int) (k u y:List Nat) (T H:Rs) (P R:Rs) (o M RA:Rs) (hT:T=[1,1].map Bg) (hF:H=AF) (h:q=2∧v=2∧len=2∧0≤j∧j≤2:=by exact kn),Ok trees N ⟨[q,v,len,j,z,sub,J,pl,D,Q,lo,c,A,x,rk,ro,Z,rv,O],[k,u,y],[T,H,d,P,g,R,o,M,RA],[C]⟩ fun U=>(U=(1,v0))
theorem Agv {Γ:Ctx} {al fl:Int} {Z H:Rs} {M:Mp} (hC:Ck Γ al fl Z H M) (n:Nat):AjW 148 Γ al fl Z H M n:=by
 induction n with
 |zero=>intro A x len j d sub pl bl Q g v c rk N J O D o q u T FP P R k U RA hT C h;exact absurd h.2.2.2.2.2 (Nat.not_lt_zero _)
 |succ n ih=>
 intro A x len j d sub pl bl Q g v c rk N J O D o q u T FP P R k U RA hT C h
 subst hT;subst C
 refine .of (t:=Vl) rfl ?_
 unfold Vl
 refine lt j len (fun t1=>?_) fun t1=>?_
 ·refine CX j 0 ?_
  refine BD j x ?_
  obtain ⟨ai,y⟩:=Pe j (by omega) (by omega)
  refine el y ?_
  refine BD j A ?_
  have z:=Sd j (by omega) (by omega)
  refine el z ?_
  refine Cc 1 1 ?_
  obtain ⟨_,rfl,G4⟩:=ih A x len (j+1) d sub pl bl Q g v c rk N J O D o q u ([1,1].map Bg) AF P R k U RA rfl rfl kn
  refine cm G4 ?_
  refine ch G4 ?_
  exact Aj v0 (rfl)
 exact Aj v0 (rfl)
theorem AiG:Ajo 148:=fun {Γ} {al} {fl} {Ar} {Fs} {mp} hC tl ln len j grp sub pl bl lo fpl fty fbl rk ro ry rv rl knm fnm rnm T FP P R FP2 FB RA hT hF h=>Agv hC ((2-j).toNat+1) tl ln len j grp sub pl bl lo fpl fty fbl rk ro ry rv rl knm fnm rnm T FP P R FP2 FB RA hT hF ⟨h.1,h.2.1,h.2.2.1,h.2.2.2.1,h.2.2.2.2,Nat.lt_succ_self _⟩
def Ajq (N:Nat):Prop:=∀{Γ:Ctx} {C y:Int} {k o:Rs} {x:Mp} (hC:Ck Γ C y k o x) (c d:Int) (z M:Int) (O Z:Int) (rv J:Int) (u j:Int) (sub pl:Int) (Q lo:Int) (v g q:List Nat) (A D:Rs) (H T:Rs) (P R:Rs) (hT:T=[1,1].map Bg) (hF:A=AF) (h:u=2∧c=2∧d=1:=by exact kn),Ok trees N ⟨[c,d,z,M,O,Z,rv,J,u,j,sub,C,pl,y,Q,lo],[v,g,q],[A,D,H,T,k,P,o,R],[x]⟩ fun U=>(U=(0,(⟨[1,0],[],[],[]⟩:Ah)))
theorem AiI:Ajq 146:=by
 intro Γ al fl Q U mp x M N j C D z H v Z o sub pl y J g k c q u A T P R hT O h
 obtain ⟨rfl,rfl,rfl⟩:=h
 refine .of (t:=Vo) rfl ?_
 unfold Vo
 refine Cc 2 2 ?_
 obtain ⟨_,rfl,d⟩:=AiG x 2 2 2 0 o sub pl y J 2 1 j C D z H v c g k T q P R q u A ‹_› ‹_›
 refine cm d ?_
 refine ch d ?_
 exact Aj ⟨[1,0],[],[],[]⟩ (rfl)
def Ti (N:Nat) (Γ:Ctx) (C x:Int) (j q:Rs) (u:Mp) (n:Nat):Prop:=∀{a:List E} (t k:Int) (o ty:Int) (v g:Int) (c sub:Int) (pl y D:Int) (s d:List Nat) (A P R:Rs) (J:T Γ t (.node k o ty v s a)) (H:A=E.Ac a) (h:g=A.length∧(E.node k o ty v s a).high<n),Ok trees N ⟨[k,o,ty,v,g,c,sub,C,pl,x,y,D],[s,d],[A,j,P,q,R],[u]⟩ fun z=>(z=(0,(⟨[t,0],[],[],[]⟩:Ah)))
def Aju (N:Nat):Prop:=∀{Γ:Ctx} {y x:Int} {d g:Rs} {q:Mp} (M:Ck Γ y x d g q) {a:List E} (t k:Int) (o ty:Int) (v u:Int) (c sub:Int) (pl z D:Int) (s j:List Nat) (A P R:Rs) (J:T Γ t (.node k o ty v s a)) (H:A=E.Ac a) (h:u=A.length:=by exact kn),Ok trees N ⟨[k,o,ty,v,u,c,sub,y,pl,x,z,D],[s,j],[A,d,P,g,R],[q]⟩ fun C=>(C=(0,(⟨[t,0],[],[],[]⟩:Ah)))
def AjX (C N:Nat) (Γ:Ctx) (D z:Int) (v x:Rs) (y:Mp) (m n:Nat):Prop:=∀{a:List E} (ts:List Int) (d c:Int) (len j:Int) (g sub:Int) (pl A H:Int) (k:List Nat) (L P:Rs) (R Q:Rs) (M:Ts Γ ts a) (J:L=E.Ac a) (O:Q=(ts.take j.toNat).map Bg) (h:c=L.length∧c≤3∧len=c∧0≤j∧j≤c∧d=Q.length∧d+(len-j)≤9∧0≤d∧E.BY a<m∧(len-j).toNat<n),Ok trees N ⟨[d,c,len,j,g,sub,D,pl,z,A,H],[k],[L,v,P,x,R,Q],[y]⟩ fun u=>(u=(2,v0)∧(Q=ts.map Bg))∨(∃(o:Int),∃(q:Rs),u=(3,(⟨[o],[],[q],[]⟩:Ah))∧(q=ts.map Bg)∧(o=(ts.length:Int)))
def Ajp (u N:Nat):Prop:=∀{m:Nat} {Γ:Ctx} {v q:Int} {g k:Rs} {o:Mp} (U:Ck Γ v q g k o) (D:Ti u Γ v q g k o m) {a:List E} (ts:List Int) (d c:Int) (len j:Int) (x sub:Int) (pl H J:Int) (y:List Nat) (L P:Rs) (R Q:Rs) (O:Ts Γ ts a) (M:L=E.Ac a) (Z:Q=(ts.take j.toNat).map Bg) (h:c=L.length∧c≤3∧len=c∧0≤j∧j≤c∧d=Q.length∧d+(len-j)≤9∧0≤d∧E.BY a<m:=by exact kn),Ok trees N ⟨[d,c,len,j,x,sub,v,pl,q,H,J],[y],[L,g,P,k,R,Q],[o]⟩ fun C=>(C=(2,v0)∧(Q=ts.map Bg))∨(∃(z:Int),∃(A:Rs),C=(3,(⟨[z],[],[A],[]⟩:Ah))∧(A=ts.map Bg)∧(z=(ts.length:Int)))
theorem Agw {Γ:Ctx} {J H:Int} {y z:Rs} {D:Mp} (hC:Ck Γ J H y z D) {m:Nat} (q:Ti 141 Γ J H y z D m) (n:Nat):AjX 141 147 Γ J H y z D m n:=by
 induction n with
 |zero=>intro a ts O A len j k sub pl C M g L P R Q d v hQ h;exact absurd h.2.2.2.2.2.2.2.2.2 (Nat.not_lt_zero _)
 |succ n ih=>
 intro a ts O A len j k sub pl C M g L P R Q d v hQ h
 subst v
 refine .of (t:=Vm) rfl ?_
 unfold Vm
 refine lt j len (fun t1=>?_) fun t1=>?_
 ·refine CX j 0 ?_
  refine BD j A ?_
  obtain ⟨Z,aa,ac,U,ab,x,u,N,ah,ak,ai⟩:=d.get j (by omega) (by omega)
  refine el N ?_
  obtain ⟨_,rfl,G3⟩:=q u Z aa ac U ((E.Ac x).length:Int) k sub pl C M ab g (E.Ac x) P R ‹_› rfl kn
  refine ch G3 ?_
  refine Cc 0 0 ?_
  refine dL (Q++[[PV.int .i64 u]]) (fun o e4=>?_) (BG (pw O Q) pe)
  have f4:=cL e4;try simp only [lA,lC,lN,lT']at f4
  refine F8 (o.length:Int) 1048576 ?_
  obtain ⟨_,(⟨rfl,ag⟩|⟨af,ae,rfl,rfl,rfl⟩),c⟩:=ih ts (o.length:Int) A len (j+1) k sub pl C M g (E.Ac a) P R o d rfl (by subst_vars;exact HZ ‹_› (by omega)) kn
  ·refine cm c ?_
   refine cm c ?_
   refine ch c ?_
   exact Aj ⟨[(o.length:Int)],[],[o],[]⟩ (.inr ((⟨_,_,rfl,(by first|rfl|assumption|(subst_vars;assumption)),(by first|rfl|(have e:=‹_=ts.map Bg›;rw [e];exact Ts.Db))⟩)))
  refine cm c ?_
  refine cm c ?_
  refine cm c ?_
  refine ch c ?_
  exact Aj ⟨[(ts.length:Int)],[],[(ts.map Bg)],[]⟩ (.inr ((⟨_,_,rfl,(by first|rfl|assumption|(subst_vars;assumption)),(by first|rfl|(have e:=‹_=ts.map Bg›;rw [e];exact Ts.Db))⟩)))
 exact Aj v0 (.inl (⟨rfl,(hQ.trans (d.end (by omega)))⟩))
theorem AiH:Ajp 141 147:=fun {m} {Γ} {al} {fl} {Ar} {Fs} {mp} hC hC141 {a} ts ql ln len j grp sub pl bl lo knm L P R Q hTs hLa hQ h=>Agw hC @hC141 ((len-j).toNat+1) ts ql ln len j grp sub pl bl lo knm L P R Q hTs hLa hQ ⟨h.1,h.2.1,h.2.2.1,h.2.2.2.1,h.2.2.2.2.1,h.2.2.2.2.2.1,h.2.2.2.2.2.2.1,h.2.2.2.2.2.2.2.1,h.2.2.2.2.2.2.2.2,Nat.lt_succ_self _⟩
def Ajr (q N:Nat):Prop:=∀{m:Nat} {Γ:Ctx} {u o:Int} {d g:Rs} {k:Mp} (O:Ck Γ u o d g k) (C:Ti q Γ u o d g k m) {a:List E} (ts:List Int) (c len:Int) (j v:Int) (sub pl:Int) (D H:Int) (x:List Nat) (L P R:Rs) (M:Ts Γ ts a) (J:L=E.Ac a) (h:c=L.length∧c≤3∧len=c∧j=0∧E.BY a<m:=by exact kn),Ok trees N ⟨[c,len,j,v,sub,u,pl,o,D,H],[x],[L,d,P,g,R],[k]⟩ fun A=>(A=(0,v0)∧(ts=[]))∨(∃(y:Int),∃(z:Rs),A=(2,(⟨[y],[],[z],[]⟩:Ah))∧(z=ts.map Bg)∧(y=(ts.length:Int)))
theorem AiJ:Ajr 141 144:=by
 intro m Γ al fl Ar Fs mp hC d a ts ln len j u sub pl D N o L P R g A h
 subst A;obtain ⟨h1,h2,rfl,rfl,h5⟩:=h
 refine .of (t:=Vp) rfl ?_
 unfold Vp
 refine lt 0 len (fun t1=>?_) fun t1=>?_
 ·refine CX 0 0 ?_
  refine BD 0 len ?_
  obtain ⟨C,H,M,z,J,q,k,y,Z,ad,aa⟩:=g.get 0 (by omega) (by omega)
  refine el y ?_
  obtain ⟨_,rfl,G3⟩:=d k C H M z ((E.Ac q).length:Int) u sub pl D N J o (E.Ac q) P R ‹_› rfl kn
  refine ch G3 ?_
  refine Cc 0 0 ?_
  refine dL [[.int .i64 k]] (fun x e4=>?_)
  have f4:=cL e4;try simp only [lA,lC,lN,lT']at f4
  refine ll 1 x ?_
  obtain ⟨_,(⟨rfl,U⟩|⟨Q,O,rfl,rfl,rfl⟩),c⟩:=AiH hC @d ts 1 len len (0+1) u sub pl D N o (E.Ac a) P R x g rfl (by subst_vars;exact (HZ (j:=0) ‹_› (by omega)))
  ·refine cm c ?_
   refine cm c ?_
   refine ch c ?_
   exact Aj ⟨[1],[],[x],[]⟩ (.inr ((⟨_,_,rfl,(by first|rfl|(subst_vars;first|rfl|assumption)),(by first|rfl|(have e:=‹_=ts.map Bg›;have v:=Ts.Db (ts:=ts);rw [←e]at v;omega) |(subst_vars;first|rfl|simp))⟩)))
  refine cm c ?_
  refine cm c ?_
  refine cm c ?_
  refine ch c ?_
  exact Aj ⟨[(ts.length:Int)],[],[(ts.map Bg)],[]⟩ (.inr ((⟨_,_,rfl,(by first|rfl|(subst_vars;first|rfl|assumption)),(by first|rfl|(have e:=‹_=ts.map Bg›;have v:=Ts.Db (ts:=ts);rw [←e]at v;omega) |(subst_vars;first|rfl|simp))⟩)))
 exact Aj v0 (.inl (⟨rfl,(g.none (by omega))⟩))
def Ajs (o N:Nat):Prop:=∀{m:Nat} {Γ:Ctx} {q k:Int} {c d:Rs} {g:Mp} (M:Ck Γ q k c d g) (z:Ti o Γ q k c d g m) {a:List E} (ts:List Int) (j u:Int) (sub pl:Int) (A D:Int) (v:List Nat) (L P R:Rs) (J:Ts Γ ts a) (H:L=E.Ac a) (h:j=L.length∧j≤3∧E.BY a<m:=by exact kn),Ok trees N ⟨[j,u,sub,q,pl,k,A,D],[v],[L,c,P,d,R],[g]⟩ fun C=>(∃(x:Int),∃(y:Rs),C=(0,(⟨[x,0],[],[y],[]⟩:Ah))∧(y=ts.map Bg)∧(x=(ts.length:Int)))
theorem Ls:Ajs 141 143:=by
 intro m Γ O N H J M z d a ts k u sub pl A C j L P R q o h
 subst o;have D:=Ts.Db (ts:=ts)
 refine .of (t:=Vq) rfl ?_
 unfold Vq
 obtain ⟨_,(⟨rfl,x⟩|⟨v,y,rfl,rfl,rfl⟩),c⟩:=AiJ z @d ts k k 0 u sub pl A C j (E.Ac a) P R q rfl
 ·refine ch c ?_
  refine de [] ?_
  refine ll 0 [] ?_
  exact Aj ⟨[0,0],[],[[]],[]⟩ (⟨_,_,rfl,(by first|rfl|(subst_vars;first|rfl|assumption)),(by first|rfl|(have e:=‹_=ts.map Bg›;have g:=Ts.Db (ts:=ts);rw [←e]at g;omega) |(subst_vars;first|rfl|simp))⟩)
 refine cm c ?_
 refine cm c ?_
 refine ch c ?_
 refine ll (ts.length:Int) (ts.map Bg) ?_
 refine fr ?_
 exact Aj ⟨[(ts.length:Int),0],[],[(ts.map Bg)],[]⟩ (⟨_,_,rfl,(by first|rfl|(subst_vars;first|rfl|assumption)),(by first|rfl|(have e:=‹_=ts.map Bg›;have g:=Ts.Db (ts:=ts);rw [←e]at g;omega) |(subst_vars;first|rfl|simp))⟩)
theorem Agx {Γ:Ctx} {al fl:Int} {Ar Fs:Rs} {mp:Mp} (H:Ck Γ al fl Ar Fs mp) (n:Nat):Ti 141 Γ al fl Ar Fs mp n:=by
 induction n with
 |zero=>intro a t k o ty v Z C sub pl bl lo s D A P R hT hA h;exact absurd h.2 (Nat.not_lt_zero _)
 |succ n ih=>
 intro a t k o ty v Z C sub pl bl lo s D A P R hT hA h
 subst hA;have e2:=LJ (k:=k) (o:=o) (ty:=ty) (v:=v) (s:=s) (a:=a);have J:Z=(a.length:Int):=by have:=h.1;rw [E.A7]at this;exact this
 rcases hT.inv with hv|hv|hv|hv|hv|hv|hv|hv
 ·obtain ⟨rfl,rfl,rfl,rfl,rfl,r1,r2,r3,r4,r5,r6⟩:=hv;simp only [lC,lN]at J;have e3:E.Ag []=0:=rfl
  refine .of (t:=Ek) rfl ?_
  unfold Ek
  obtain ⟨_,⟨a3,a8,rfl,rfl,rfl⟩,G1⟩:=Ls H @ih [] Z C sub pl bl lo D (E.Ac []) P R (by exact .nil) rfl
  refine ch G1 ?_
  refine Cc 0 0 ?_
  refine BL 1 1 ?_
  first|exact Aj ⟨[ty,0],[],[],[]⟩ (rfl) |(exfalso;omega)
 ·obtain ⟨rfl,rfl,rfl,rfl,rfl,rfl,r1,r2⟩:=hv;simp only [lC,lN]at J;have e3:E.Ag []=0:=rfl
  refine .of (t:=Ek) rfl ?_
  unfold Ek
  obtain ⟨_,⟨a9,bb,rfl,rfl,rfl⟩,G2⟩:=Ls H @ih [] Z C sub pl bl lo D (E.Ac []) P R (by exact .nil) rfl
  refine ch G2 ?_
  refine Cc 0 0 ?_
  refine AT 3 1 ?_
  refine BL 3 3 ?_
  first|exact Aj ⟨[1,0],[],[],[]⟩ (rfl) |(exfalso;omega)
 ·obtain ⟨rfl,rfl,rfl,rfl,rfl,hs,kk,ii,hk,r1,r2,hg⟩:=hv;simp only [lC,lN]at J;have e3:E.Ag []=0:=rfl
  refine .of (t:=Ek) rfl ?_
  unfold Ek
  obtain ⟨_,⟨bf,bg,rfl,rfl,rfl⟩,G3⟩:=Ls H @ih [] Z C sub pl bl lo D (E.Ac []) P R (by exact .nil) rfl
  refine ch G3 ?_
  refine Cc 0 0 ?_
  refine AT 2 1 ?_
  refine AT 2 3 ?_
  refine AT 2 4 ?_
  refine AT 2 5 ?_
  refine AT 2 6 ?_
  refine BL 2 2 ?_
  refine lh (H.look hg) ?_
  refine eq kk 2 (fun t4=>?_) fun t4=>?_
  ·first|exact Aj ⟨[t,0],[],[],[]⟩ (rfl) |(exfalso;omega)
  refine eq kk 3 (fun t5=>?_) fun t5=>?_
  ·first|exact Aj ⟨[t,0],[],[],[]⟩ (rfl) |(exfalso;omega)
  first|exact Aj ⟨[0,30],[],[],[]⟩ (rfl) |(exfalso;omega)
 ·obtain ⟨rfl,rfl,rfl,rfl,j,q,d,c,u,g,w,rfl,hu,h1⟩:=hv;simp only [lC,lN]at J;have e3:=n1 (x:=.node j q d c u g);have e4:=g1 (x:=.node j q d c u g);have hr:=hu.rng
  refine .of (t:=Ek) rfl ?_
  unfold Ek
  obtain ⟨_,⟨a6,aQ,rfl,rfl,rfl⟩,G6⟩:=Ls H @ih [w] Z C sub pl bl lo D (E.Ac [.node j q d c u g]) P R (by exact .cons h1 .nil) rfl
  refine ch G6 ?_
  refine Cc 0 0 ?_
  refine AT 4 1 ?_
  refine AT 4 3 ?_
  refine BL 4 4 ?_
  refine BD 0 ([w].length:Int) ?_
  refine el (j':=0) rfl ?_
  obtain ⟨_,rfl,G7⟩:=Ad8 t o w hu
  refine ch G7 ?_
  first|exact Aj ⟨[t,0],[],[],[]⟩ (rfl) |(exfalso;omega)
 ·obtain ⟨rfl,rfl,rfl,rfl,j,q,d,c,u,g,U,O,Q,N,M,b2,w,rfl,hu,h1,h2⟩:=hv;simp only [lC,lN]at J;have e3:=n2 (x:=.node j q d c u g) (y:=.node U O Q N M b2);have e4:=g2 (x:=.node j q d c u g) (y:=.node U O Q N M b2);have hr:=hu.rng
  refine .of (t:=Ek) rfl ?_
  unfold Ek
  obtain ⟨_,⟨be,bc,rfl,rfl,rfl⟩,G8⟩:=Ls H @ih [w,w] Z C sub pl bl lo D (E.Ac [.node j q d c u g,.node U O Q N M b2]) P R (by exact .cons h1 (.cons h2 .nil)) rfl
  refine ch G8 ?_
  refine Cc 0 0 ?_
  refine AT 5 1 ?_
  refine AT 5 3 ?_
  refine AT 5 4 ?_
  refine BL 5 5 ?_
  refine BD 0 ([w,w].length:Int) ?_
  refine el (j':=0) rfl ?_
  refine BD 1 ([w,w].length:Int) ?_
  refine el (j':=1) rfl ?_
  obtain ⟨_,rfl,G9⟩:=AaK t o w w hu rfl
  refine ch G9 ?_
  first|exact Aj ⟨[t,0],[],[],[]⟩ (rfl) |(exfalso;omega)
 ·obtain ⟨rfl,rfl,rfl,rfl,rfl,j,q,d,c,u,g,U,O,Q,N,M,b2,k3,o3,t3,v3,s3,b3,rfl,h1,h2,h3⟩:=hv;simp only [lC,lN]at J;have e3:=n3 (x:=.node j q d c u g) (y:=.node U O Q N M b2) (z:=.node k3 o3 t3 v3 s3 b3);have e4:=g3 (x:=.node j q d c u g) (y:=.node U O Q N M b2) (z:=.node k3 o3 t3 v3 s3 b3)
  refine .of (t:=Ek) rfl ?_
  unfold Ek
  obtain ⟨_,⟨aN,aM,rfl,rfl,rfl⟩,aF⟩:=Ls H @ih [3,t,t] Z C sub pl bl lo D (E.Ac [.node j q d c u g,.node U O Q N M b2,.node k3 o3 t3 v3 s3 b3]) P R (by exact .cons h1 (.cons h2 (.cons h3 .nil))) rfl
  refine ch aF ?_
  refine Cc 0 0 ?_
  refine AT 6 1 ?_
  refine AT 6 3 ?_
  refine AT 6 4 ?_
  refine AT 6 5 ?_
  refine BL 6 6 ?_
  refine BD 0 ([3,t,t].length:Int) ?_
  refine el (j':=0) rfl ?_
  refine Cc 3 3 ?_
  refine BD 1 ([3,t,t].length:Int) ?_
  refine el (j':=1) rfl ?_
  refine BD 2 ([3,t,t].length:Int) ?_
  refine el (j':=2) rfl ?_
  refine Cc t t ?_
  first|exact Aj ⟨[t,0],[],[],[]⟩ (rfl) |(exfalso;omega)
 ·obtain ⟨rfl,rfl,rfl,rfl,hs,j,q,d,c,u,g,ii,rfl,r1,r2,hg,h1⟩:=hv;simp only [lC,lN]at J;have e3:=n1 (x:=.node j q d c u g);have e4:=g1 (x:=.node j q d c u g)
  refine .of (t:=Ek) rfl ?_
  unfold Ek
  obtain ⟨_,⟨aK,aP,rfl,rfl,rfl⟩,aG⟩:=Ls H @ih [1] Z C sub pl bl lo D (E.Ac [.node j q d c u g]) P R (by exact .cons h1 .nil) rfl
  refine ch aG ?_
  refine Cc 0 0 ?_
  refine AT 7 1 ?_
  refine AT 7 3 ?_
  refine AT 7 4 ?_
  refine AT 7 5 ?_
  refine AT 7 6 ?_
  refine AT 7 2 ?_
  refine BL 7 7 ?_
  refine lh (H.look hg) ?_
  refine BL 0 0 ?_
  refine BD 0 ([1].length:Int) ?_
  refine el (j':=0) rfl ?_
  refine Cc 1 1 ?_
  first|exact Aj ⟨[t,0],[],[],[]⟩ (rfl) |(exfalso;omega)
 ·obtain ⟨rfl,rfl,rfl,rfl,rfl,j,q,d,c,u,g,U,O,Q,N,M,b2,ii,rfl,rfl,hg,h1,h2⟩:=hv;simp only [lC,lN]at J;have e3:=n2 (x:=.node j q d c u g) (y:=.node U O Q N M b2);have e4:=g2 (x:=.node j q d c u g) (y:=.node U O Q N M b2);obtain ⟨bj,bi,F_,kf,aA,yf,wf,sf,Af,ap⟩:=H.fn _ hg;have bh:(AF.length:Int)=2:=rfl
  refine .of (t:=Ek) rfl ?_
  unfold Ek
  obtain ⟨_,⟨aO,aL,rfl,rfl,rfl⟩,ay⟩:=Ls H @ih [1,1] Z C sub pl bl lo D (E.Ac [.node j q d c u g,.node U O Q N M b2]) P R (by exact .cons h1 (.cons h2 .nil)) rfl
  refine ch ay ?_
  refine Cc 0 0 ?_
  refine AT 8 1 ?_
  refine AT 8 3 ?_
  refine AT 8 4 ?_
  refine AT 8 5 ?_
  refine AT 8 6 ?_
  refine AT 8 2 ?_
  refine AT 8 7 ?_
  refine BL 8 8 ?_
  refine lh (H.look hg) ?_
  refine BL 1 1 ?_
  refine CX ii 0 ?_
  refine BD ii fl ?_
  refine el ap ?_
  obtain ⟨_,rfl,az⟩:=AiI H (AF.length:Int) 1 (F_.length:Int) kf aA yf wf (Af.length:Int) ([1,1].length:Int) C sub pl bl lo [104] sf D AF F_ Af ([1,1].map Bg) P R rfl rfl
  refine ch az ?_
  first|exact Aj ⟨[1,0],[],[],[]⟩ (rfl) |(exfalso;omega)
theorem Ad7:Aju 141:=fun {Γ} {al} {fl} {Ar} {Fs} {mp} hC {a} t k o ty v ln grp sub pl bl lo s knm A P R hT hA h=>Agx hC ((E.node k o ty v s a).high+1) t k o ty v ln grp sub pl bl lo s knm A P R hT hA ⟨h,Nat.lt_succ_self _⟩
def Ajt (N:Nat):Prop:=∀{Γ:Ctx} {y x:Int} {d g:Rs} {q:Mp} (M:Ck Γ y x d g q) {a:List E} (k o:Int) (ty v:Int) (u t:Int) (c sub:Int) (pl z D:Int) (s j:List Nat) (A P R:Rs) (J:T Γ t (.node k o ty v s a)) (H:A=E.Ac a) (h:u=A.length:=by exact kn),Ok trees N ⟨[k,o,ty,v,u,t,c,sub,y,pl,x,z,D],[s,j],[A,d,P,g,R],[q]⟩ fun C=>(C=(0,(⟨[0],[],[],[]⟩:Ah)))
theorem WY:Ajt 142:=by
 intro Γ M J C D H x a k o ty v u t d sub pl y z s c A P R q g h
 refine .of (t:=Vr) rfl ?_
 unfold Vr
 obtain ⟨_,rfl,j⟩:=Ad7 x t k o ty v u d sub pl y z s c A P R q g
 refine ch j ?_
 refine BL 0 0 ?_
 refine Cc t t ?_
 exact Aj ⟨[0],[],[],[]⟩ (rfl)
def Ajy (N:Nat):Prop:=∀{Γ:Ctx} {lp pu:Int} {Q:Ctx} {xa D:List E} {U el:List S} (k o:Int) (t b:Int) (xk xo:Int) (O Z:Int) (z yk:Int) (yo yt:Int) (yw C:Int) (c d:Int) (M sub:Int) (y pl:Int) (x bl lo:Int) (nm J:List Nat) (H A:List Nat) (X Y:Rs) (u v:Rs) (j P:Rs) (q R:Rs) (mp:Mp) (hC:Ck Γ y x j q mp) (hS:DP lp pu Γ (.node k o t b nm (.node xk xo O Z J xa) (.node yk yo yt yw H D) U el) Q) (hX:X=E.Ac xa) (hY:Y=E.Ac D) (hB:u=S.Ac U) (hE:v=S.Ac el) (h:z=X.length∧C=Y.length∧c=u.length∧d=v.length∧k=1:=by exact kn),Ok trees N ⟨[k,o,t,b,xk,xo,O,Z,z,yk,yo,yt,yw,C,c,d,M,sub,y,pl,x,bl,lo],[nm,J,H,A],[X,Y,u,v,j,P,q,R],[mp]⟩ fun zz=>(∃(g:Mp),zz=(0,(⟨[0],[],[],[g]⟩:Ah))∧(Ck Q y x j q g))
theorem AiN:Ajy 137:=by
 intro Γ lp pu Γ1 O ya bo el k o t b M N C D q yk yo yt yw yl U Z j sub al pl fl v Q nm y yn d X Y Bo El Ar P Fs R J c z A H hB x h
 subst A;subst H;subst hB;subst x;obtain ⟨_,_,_,_,_,hn,g,r1,r2,hx,_,rfl⟩:=z.AhY (by omega)
 refine .of (t:=Vv) rfl ?_
 unfold Vv
 obtain ⟨_,rfl,u⟩:=Ad7 c t M N C D q j sub pl v Q y d (E.Ac O) P R ‹_› rfl
 refine ch u ?_
 refine Cc 0 0 ?_
 refine lm (c.Afa g) ?_
 refine up [.int .i64 3,.int .i64 t,.int .i64 0] ?_
 refine Cc t t ?_
 first|exact Aj ⟨[0],[],[],[(Bn J nm [.int .i64 3,.int .i64 t,.int .i64 0])]⟩ (⟨_,rfl,(c.GM g)⟩) |(exfalso;omega)
def Ajx (N:Nat):Prop:=∀{Γ:Ctx} {lp pu:Int} {Γ1:Ctx} {xa z:List E} {J el:List S} (k o:Int) (t b:Int) (Z xo:Int) (H M:Int) (u yk:Int) (yo Q:Int) (yw y:Int) (c d:Int) (D sub:Int) (al pl:Int) (U bl lo:Int) (nm C:List Nat) (A x:List Nat) (X Y:Rs) (g j:Rs) (q P:Rs) (v R:Rs) (O:Mp) (hC:Ck Γ al U q v O) (hS:DP lp pu Γ (.node k o t b nm (.node Z xo H M C xa) (.node yk yo Q yw A z) J el) Γ1) (hX:X=E.Ac xa) (hY:Y=E.Ac z) (hB:g=S.Ac J) (hE:j=S.Ac el) (h:u=X.length∧y=Y.length∧c=g.length∧d=j.length∧k=2:=by exact kn),Ok trees N ⟨[k,o,t,b,Z,xo,H,M,u,yk,yo,Q,yw,y,c,d,D,sub,al,pl,U,bl,lo],[nm,C,A,x],[X,Y,g,j,q,P,v,R],[O]⟩ fun zz=>(zz=(0,(⟨[0],[],[],[]⟩:Ah)))
theorem AiM:Ajx 138:=by
 intro Γ lp pu Γ1 O ya bo el k o t b M N D H j yk yo yt yw yl U Z g sub al pl fl x Q nm z yn c X Y Bo El Ar P Fs R mp d A C J hB y h
 subst C;subst J;subst hB;subst y;obtain ⟨_,_,_,_,_,_,hn,rfl,u,i,v,hx,_⟩:=A.AhZ (by omega)
 refine .of (t:=Vu) rfl ?_
 unfold Vu
 refine lh (d.look v) ?_
 refine BL 3 3 ?_
 obtain ⟨_,rfl,q⟩:=WY d M N D H j u g sub pl x Q z c (E.Ac O) P R ‹_› rfl
 refine ch q ?_
 first|exact Aj ⟨[0],[],[],[]⟩ (rfl) |(exfalso;omega)
def Kd (N n:Nat):Prop:=∀{Γ:Ctx} {j y:Int} {A:Ctx} {l:List S} (g k:Int) (sub z:Int) (pl x:Int) (C c:Int) (q:List Nat) (L o:Rs) (P u R:Rs) (v:Mp) (J:Ck Γ z x o u v) (M:CE j y Γ l A) (H:L=S.Ac l) (h:g=L.length∧g≤200000∧(j=0∨1≤c)∧0≤c∧c+S.A4 l≤1000∧S.Ag l≤200000∧y=1∧S.A4 l<n),Ok trees N ⟨[g,k,sub,z,pl,x,C,c],[q],[L,o,P,u,R],[v]⟩ fun D=>(∃(d:Int),D=(0,(⟨[0,d],[],[],[]⟩:Ah))∧(c=d))
def AdO (N:Nat):Prop:=∀{Γ:Ctx} {j y:Int} {A:Ctx} {l:List S} (g k:Int) (sub z:Int) (pl x:Int) (C c:Int) (q:List Nat) (L o:Rs) (P u R:Rs) (v:Mp) (J:Ck Γ z x o u v) (M:CE j y Γ l A) (H:L=S.Ac l) (h:g=L.length∧g≤200000∧(j=0∨1≤c)∧0≤c∧c+S.A4 l≤1000∧S.Ag l≤200000∧y=1:=by exact kn),Ok trees N ⟨[g,k,sub,z,pl,x,C,c],[q],[L,o,P,u,R],[v]⟩ fun D=>(∃(d:Int),D=(0,(⟨[0,d],[],[],[]⟩:Ah))∧(c=d))
theorem Kd.of {N n:Nat} (H:AdO N):Kd N n:=fun {Γ} {lp} {pu} {Γe} {l} ln grp sub al pl fl bl lo knm L Ar P Fs R mp hC hO hLs h=>H ln grp sub al pl fl bl lo knm L Ar P Fs R mp hC hO hLs (by have:=h;omega)
def Ajw (x N:Nat):Prop:=∀{m:Nat} (ak:Kd x m) {Γ:Ctx} {y pu:Int} {Γ1:Ctx} {xa J:List E} {g el:List S} (k o:Int) (t b:Int) (xk xo:Int) (U Z:Int) (A yk:Int) (yo yt:Int) (yw H:Int) (c d:Int) (Q sub:Int) (al pl:Int) (fl bl j:Int) (nm O:List Nat) (M D:List Nat) (X Y:Rs) (u v:Rs) (z P:Rs) (C R:Rs) (mp:Mp) (hC:Ck Γ al fl z C mp) (hS:DP y pu Γ (.node k o t b nm (.node xk xo U Z O xa) (.node yk yo yt yw M J) g el) Γ1) (hX:X=E.Ac xa) (hY:Y=E.Ac J) (hB:u=S.Ac g) (hE:v=S.Ac el) (h:A=X.length∧H=Y.length∧c=u.length∧d=v.length∧(y=0∨1≤j)∧0≤j∧j+max (S.A4 g) (S.A4 el)≤1000∧S.Ag g≤200000∧S.Ag el≤200000∧S.A4 g<m∧S.A4 el<m∧c≤200000∧d≤200000∧k=5∧pu=1:=by exact kn),Ok trees N ⟨[k,o,t,b,xk,xo,U,Z,A,yk,yo,yt,yw,H,c,d,Q,sub,al,pl,fl,bl,j],[nm,O,M,D],[X,Y,u,v,z,P,C,R],[mp]⟩ fun zz=>(∃(q:Int),zz=(0,(⟨[0,q],[],[],[]⟩:Ah))∧(j=q))
theorem AiL:Ajw 149 139:=by
 intro m c Γ lp pu Γ1 xa ya bo el k o t b xk xo Z xw J yk yo yt yw yl v z g sub D pl C u j nm O yn d X Y Bo El x P y R A q Q U hY hB N h
 subst U;subst hY;subst hB;subst N;obtain ⟨_,_,_,_,_,hx,_,rfl,Γa,Γb,aj,ak⟩:=Q.kif (by omega)
 refine .of (t:=Vt) rfl ?_
 unfold Vt
 obtain ⟨_,rfl,M⟩:=WY q xk xo Z xw J 3 g sub pl u j O d (E.Ac xa) P R ‹_› rfl
 refine ch M ?_
 refine BL 0 0 ?_
 obtain ⟨_,⟨ae,rfl,rfl⟩,H⟩:=c v g sub D pl C u j d (S.Ac bo) x P y R A q ‹_› rfl kn
 refine ch H ?_
 refine BL 0 0 ?_
 obtain ⟨_,⟨ai,rfl,rfl⟩,G3⟩:=c z g sub D pl C u j d (S.Ac el) x P y R A q ‹_› rfl kn
 refine ch G3 ?_
 first|exact Aj ⟨[0,j],[],[],[]⟩ (⟨_,rfl,kn⟩) |(exfalso;omega)
def Ajv (x N:Nat):Prop:=∀{m:Nat} (ak:Kd x m) {Γ:Ctx} {y pu:Int} {Γ1:Ctx} {xa J:List E} {c el:List S} (k o:Int) (t b:Int) (xk xo:Int) (U Z:Int) (A yk:Int) (yo yt:Int) (yw H:Int) (d j:Int) (Q sub:Int) (al pl:Int) (fl bl g:Int) (nm O:List Nat) (M D:List Nat) (X Y:Rs) (u v:Rs) (z P:Rs) (C R:Rs) (mp:Mp) (hC:Ck Γ al fl z C mp) (hS:DP y pu Γ (.node k o t b nm (.node xk xo U Z O xa) (.node yk yo yt yw M J) c el) Γ1) (hX:X=E.Ac xa) (hY:Y=E.Ac J) (hB:u=S.Ac c) (hE:v=S.Ac el) (h:A=X.length∧H=Y.length∧d=u.length∧j=v.length∧(y=0∨1≤g)∧0≤g∧g+1+S.A4 c≤1000∧S.A4 c<m∧d≤200000∧S.Ag c≤200000∧S.Ag c≤200000∧k=6∧pu=1:=by exact kn),Ok trees N ⟨[k,o,t,b,xk,xo,U,Z,A,yk,yo,yt,yw,H,d,j,Q,sub,al,pl,fl,bl,g],[nm,O,M,D],[X,Y,u,v,z,P,C,R],[mp]⟩ fun zz=>(∃(q:Int),zz=(0,(⟨[0,q],[],[],[]⟩:Ah))∧(g=q))
theorem AiK:Ajv 149 140:=by
 intro m d Γ lp pu Γ1 xa ya U el k o t b xk xo Q Z z yk yo yt yw yl q ai j sub al pl fl v c nm J yn g X Y Bo El y P A R mp u M N hY hB H h
 subst N;subst hY;subst hB;subst H;obtain ⟨_,_,_,_,_,hx,_,b1,b2,rfl,Γa,aj⟩:=M.AhX (by omega)
 refine .of (t:=Vs) rfl ?_
 unfold Vs
 obtain ⟨_,rfl,C⟩:=WY u xk xo Q Z z 3 j sub pl v c J g (E.Ac xa) P R ‹_› rfl
 refine ch C ?_
 refine Cc 0 0 ?_
 refine lt b 1 (fun t2=>?_) fun t2=>?_
 ·first|exact Aj ⟨[1,c],[],[],[]⟩ (⟨_,rfl,kn⟩) |(exfalso;omega)
 refine gt b 1024 (fun x=>?_) fun x=>?_
 ·first|exact Aj ⟨[1,c],[],[],[]⟩ (⟨_,rfl,kn⟩) |(exfalso;omega)
 obtain ⟨_,⟨O,rfl,rfl⟩,D⟩:=d q j sub al pl fl v (c+1) g (S.Ac U) y P A R mp u ‹_› rfl kn
 refine ch D ?_
 first|exact Aj ⟨[0,((c+1)-1)],[],[],[]⟩ (⟨_,rfl,kn⟩) |(exfalso;omega)
def AjZ (H N:Nat) (m n:Nat):Prop:=∀{Γ:Ctx} {y D:Int} {x:Ctx} {l:List S} (d len:Int) (j z:Int) (sub v:Int) (pl u:Int) (J c:Int) (A:List Nat) (L o:Rs) (P q R:Rs) (C:Mp) (Q:Ck Γ v u o q C) (U:CE y D Γ (l.drop j.toNat) x) (O:L=S.Ac l) (h:d=L.length∧d≤200000∧len=d∧0≤j∧(y=0∨1≤c)∧0≤c∧c+S.A4 (l.drop j.toNat)≤1000∧S.A4 (l.drop j.toNat)≤m∧S.Ag (l.drop j.toNat)≤200000∧D=1∧(len-j).toNat<n),Ok trees N ⟨[d,len,j,z,sub,v,pl,u,J,c],[A],[L,o,P,q,R],[C]⟩ fun M=>(∃(k:Int),∃(g:Mp),M=(1,(⟨[k],[],[],[g]⟩:Ah))∧(Ck x v u o q g)∧(c=k))
def Aj0 (u N:Nat):Prop:=∀{m:Nat} (J:Kd u m) {Γ:Ctx} {z H:Int} {y:Ctx} {l:List S} (d len:Int) (j A:Int) (sub x:Int) (pl v:Int) (M c:Int) (C:List Nat) (L o:Rs) (P q R:Rs) (D:Mp) (U:Ck Γ x v o q D) (Z:CE z H Γ (l.drop j.toNat) y) (Q:L=S.Ac l) (h:d=L.length∧d≤200000∧len=d∧0≤j∧(z=0∨1≤c)∧0≤c∧c+S.A4 (l.drop j.toNat)≤1000∧S.A4 (l.drop j.toNat)≤m∧S.Ag (l.drop j.toNat)≤200000∧H=1:=by exact kn),Ok trees N ⟨[d,len,j,A,sub,x,pl,v,M,c],[C],[L,o,P,q,R],[D]⟩ fun O=>(∃(k:Int),∃(g:Mp),O=(1,(⟨[k],[],[],[g]⟩:Ah))∧(Ck y x v o q g)∧(c=k))
theorem Agz {m:Nat} (ai:Kd 149 m) (n:Nat):AjZ 149 135 m n:=by
 induction n with
 |zero=>intro Γ lp pu Γe l O len j u sub M pl J H g v L D P A R C q x aw h;exact absurd h.2.2.2.2.2.2.2.2.2.2 (Nat.not_lt_zero _)
 |succ n ih=>
 intro Γ lp pu Γe l O len j u sub M pl J H g v L D P A R C q x aw h
 subst aw
 refine .of (t:=Vx) rfl ?_
 unfold Vx
 refine lt j len (fun t1=>?_) fun t1=>?_
 ·refine CX j 0 ?_
  refine BD j O ?_
  obtain ⟨d,aj,t_1,ah,ab,ad,af,ae,N,ac,z,Z,ag,aa,U,Q,y,o,k,br,aB,c,bo,bq,bv⟩:=CE.get j x (by omega) (by omega)
  refine el aB ?_
  have bg:=c.Aaa;have aV:=S.len o;have aW:=S.len k;have a7:=S.A7 o;have a8:=S.A7 k;have aX:=c.pure
  refine eq d 1 (fun t3=>?_) fun t3=>?_
  ·obtain ⟨_,⟨az,rfl,aC⟩,G4⟩:=AiN d aj t_1 ah ad af ae N ((E.Ac z).length:Int) Z ag aa U ((E.Ac y).length:Int) ((S.Ac o).length:Int) ((S.Ac k).length:Int) u sub M pl J H g ab ac Q v (E.Ac z) (E.Ac y) (S.Ac o) (S.Ac k) D P A R C q c rfl rfl rfl rfl
   refine ch G4 ?_
   refine Cc 0 0 ?_
   obtain ⟨_,⟨bi,aD,rfl,bh,rfl⟩,G5⟩:=ih O len (j+1) u sub M pl J H g v (S.Ac l) D P A R az aC ‹_› rfl kn
   refine cm G5 ?_
   refine ch G5 ?_
   exact Aj ⟨[g],[],[],[aD]⟩ (⟨_,_,rfl,(by first|assumption|(obtain ⟨_,_,e⟩:=Bv (l:=l) (j:=j) (by omega);rw [e]at x;cases x;exact q)),kn⟩)
  refine eq d 2 (fun t6=>?_) fun t6=>?_
  ·obtain ⟨_,rfl,G7⟩:=AiM d aj t_1 ah ad af ae N ((E.Ac z).length:Int) Z ag aa U ((E.Ac y).length:Int) ((S.Ac o).length:Int) ((S.Ac k).length:Int) u sub M pl J H g ab ac Q v (E.Ac z) (E.Ac y) (S.Ac o) (S.Ac k) D P A R C q c rfl rfl rfl rfl
   refine ch G7 ?_
   refine Cc 0 0 ?_
   obtain ⟨_,⟨bp,aA,rfl,bj,rfl⟩,G8⟩:=ih O len (j+1) u sub M pl J H g v (S.Ac l) D P A R C (q.keep c (by omega)) ‹_› rfl kn
   refine cm G8 ?_
   refine ch G8 ?_
   exact Aj ⟨[g],[],[],[aA]⟩ (⟨_,_,rfl,(by first|assumption|(obtain ⟨_,_,e⟩:=Bv (l:=l) (j:=j) (by omega);rw [e]at x;cases x;exact q)),kn⟩)
  refine eq d 5 (fun t9=>?_) fun t9=>?_
  ·obtain ⟨_,⟨a9,rfl,rfl⟩,aP⟩:=AiL @ai d aj t_1 ah ad af ae N ((E.Ac z).length:Int) Z ag aa U ((E.Ac y).length:Int) ((S.Ac o).length:Int) ((S.Ac k).length:Int) u sub M pl J H g ab ac Q v (E.Ac z) (E.Ac y) (S.Ac o) (S.Ac k) D P A R C q c rfl rfl rfl rfl
   refine ch aP ?_
   refine Cc 0 0 ?_
   obtain ⟨_,⟨bb,ak,rfl,a0,rfl⟩,ax⟩:=ih O len (j+1) u sub M pl J H g v (S.Ac l) D P A R C (q.keep c (by omega)) ‹_› rfl kn
   refine cm ax ?_
   refine ch ax ?_
   exact Aj ⟨[g],[],[],[ak]⟩ (⟨_,_,rfl,(by first|assumption|(obtain ⟨_,_,e⟩:=Bv (l:=l) (j:=j) (by omega);rw [e]at x;cases x;exact q)),kn⟩)
  refine eq d 6 (fun aN=>?_) fun aN=>?_
  ·obtain ⟨_,⟨a2,rfl,rfl⟩,aH⟩:=AiK @ai d aj t_1 ah ad af ae N ((E.Ac z).length:Int) Z ag aa U ((E.Ac y).length:Int) ((S.Ac o).length:Int) ((S.Ac k).length:Int) u sub M pl J H g ab ac Q v (E.Ac z) (E.Ac y) (S.Ac o) (S.Ac k) D P A R C q c rfl rfl rfl rfl
   refine ch aH ?_
   refine Cc 0 0 ?_
   obtain ⟨_,⟨aY,ao,rfl,a6,rfl⟩,aq⟩:=ih O len (j+1) u sub M pl J H g v (S.Ac l) D P A R C (q.keep c (by omega)) ‹_› rfl kn
   refine cm aq ?_
   refine ch aq ?_
   exact Aj ⟨[g],[],[],[ao]⟩ (⟨_,_,rfl,(by first|assumption|(obtain ⟨_,_,e⟩:=Bv (l:=l) (j:=j) (by omega);rw [e]at x;cases x;exact q)),kn⟩)
  refine eq d 7 (fun aE=>?_) fun aE=>?_
  ·refine eq g 0 (fun aF=>?_) fun aF=>?_
   ·exact dead
   obtain ⟨_,⟨a1,am,rfl,a4,rfl⟩,au⟩:=ih O len (j+1) u sub M pl J H g v (S.Ac l) D P A R C (q.keep c (by omega)) ‹_› rfl kn
   refine cm au ?_
   refine ch au ?_
   exact Aj ⟨[g],[],[],[am]⟩ (⟨_,_,rfl,(by first|assumption|(obtain ⟨_,_,e⟩:=Bv (l:=l) (j:=j) (by omega);rw [e]at x;cases x;exact q)),kn⟩)
  refine eq d 8 (fun aJ=>?_) fun aJ=>?_
  ·refine eq g 0 (fun aR=>?_) fun aR=>?_
   ·exact dead
   obtain ⟨_,⟨a3,an,rfl,aZ,rfl⟩,av⟩:=ih O len (j+1) u sub M pl J H g v (S.Ac l) D P A R C (q.keep c (by omega)) ‹_› rfl kn
   refine cm av ?_
   refine ch av ?_
   exact Aj ⟨[g],[],[],[an]⟩ (⟨_,_,rfl,(by first|assumption|(obtain ⟨_,_,e⟩:=Bv (l:=l) (j:=j) (by omega);rw [e]at x;cases x;exact q)),kn⟩)
  refine eq d 3 (fun aU=>?_) fun aU=>?_
  ·exact dead
  refine eq d 4 (fun aO=>?_) fun aO=>?_
  ·exact dead
  refine eq d 12 (fun aG=>?_) fun aG=>?_
  ·exact dead
  refine eq d 9 (fun aL=>?_) fun aL=>?_
  ·exact dead
  refine eq d 10 (fun aM=>?_) fun aM=>?_
  ·exact dead
  refine eq d 11 (fun aQ=>?_) fun aQ=>?_
  ·exact dead
  obtain ⟨_,⟨ba,ap,rfl,a5,rfl⟩,ay⟩:=ih O len (j+1) u sub M pl J H g v (S.Ac l) D P A R C (q.keep c (by omega)) ‹_› rfl kn
  refine cm ay ?_
  refine ch ay ?_
  exact Aj ⟨[g],[],[],[ap]⟩ (⟨_,_,rfl,(by first|assumption|(obtain ⟨_,_,e⟩:=Bv (l:=l) (j:=j) (by omega);rw [e]at x;cases x;exact q)),kn⟩)
 exact Aj ⟨[g],[],[],[C]⟩ (⟨_,_,rfl,(by first|assumption|(obtain ⟨_,_,e⟩:=Bv (l:=l) (j:=j) (by omega);rw [e]at x;cases x;exact q)),kn⟩)
theorem AiP:Aj0 149 135:=fun {m} hC149 {Γ} {lp} {pu} {Γe} {l} ln len j grp sub al pl fl bl lo knm L Ar P Fs R mp hC hO hLs h=>Agz @hC149 ((len-j).toNat+1) ln len j grp sub al pl fl bl lo knm L Ar P Fs R mp hC hO hLs ⟨h.1,h.2.1,h.2.2.1,h.2.2.2.1,h.2.2.2.2.1,h.2.2.2.2.2.1,h.2.2.2.2.2.2.1,h.2.2.2.2.2.2.2.1,h.2.2.2.2.2.2.2.2.1,h.2.2.2.2.2.2.2.2.2,Nat.lt_succ_self _⟩
def Aj5 (o N:Nat):Prop:=∀{m:Nat} (H:Kd o m) {Γ:Ctx} {y D:Int} {x:Ctx} {l:List S} (q z:Int) (sub v:Int) (pl u:Int) (J c:Int) (A:List Nat) (L j:Rs) (P k R:Rs) (C:Mp) (Q:Ck Γ v u j k C) (U:CE y D Γ l x) (O:L=S.Ac l) (h:q=L.length∧q≤200000∧(y=0∨1≤c)∧0≤c∧c+S.A4 l≤1000∧S.Ag l≤200000∧S.A4 l≤m∧D=1:=by exact kn),Ok trees N ⟨[q,z,sub,v,pl,u,J,c],[A],[L,j,P,k,R],[C]⟩ fun M=>(∃(g:Int),∃(d:Mp),M=(0,(⟨[0,g],[],[],[d]⟩:Ah))∧(Ck x v u j k d)∧(c=g))
theorem Ad9:Aj5 149 130:=by
 intro m c Γ O Z N l o q sub M pl H z u j L v P x R C y J g h
 subst g;have Q:S.A4 (l.drop (0:Int).toNat)=S.A4 l:=rfl;have U:S.Ag (l.drop (0:Int).toNat)=S.Ag l:=rfl
 refine .of (t:=VB) rfl ?_
 unfold VB
 obtain ⟨_,⟨D,d,rfl,A,rfl⟩,k⟩:=AiP @c o o 0 q sub M pl H z u j (S.Ac l) v P x R C y J rfl
 refine cm k ?_
 refine ch k ?_
 exact Aj ⟨[0,u],[],[],[d]⟩ (⟨_,_,rfl,‹_›,kn⟩)
theorem Agu (n:Nat):Kd 149 n:=by
 induction n with
 |zero=>intro Γ H O C l q g sub A pl y v j d L k P o R x u z c h;exact absurd h.2.2.2.2.2.2.2 (Nat.not_lt_zero _)
 |succ n ih=>
 intro Γ H O C l q g sub A pl y v j d L k P o R x u z c h
 refine .of (t:=Vk) rfl ?_
 unfold Vk
 obtain ⟨_,⟨N,D,rfl,M,rfl⟩,J⟩:=Ad9 @ih q g sub A pl y v j d L k P o R x u z c
 refine ch J ?_
 exact Aj ⟨[0,j],[],[],[]⟩ (⟨_,rfl,kn⟩)
theorem AiF:AdO 149:=fun {Γ} {lp} {pu} {Γe} {l} ln grp sub al pl fl bl lo knm L Ar P Fs R mp hC hO hLs h=>Agu (S.A4 l+1) ln grp sub al pl fl bl lo knm L Ar P Fs R mp hC hO hLs ⟨h.1,h.2.1,h.2.2.1,h.2.2.2.1,h.2.2.2.2.1,h.2.2.2.2.2.1,h.2.2.2.2.2.2,Nat.lt_succ_self _⟩
end Go.Proofs.YtbmofjdmgjpfoaaGreatDoor.Am
end
section
set_option maxHeartbeats 4000000
set_option maxRecDepth 100000
namespace Go.Proofs.YtbmofjdmgjpfoaaGreatDoor.Am
open Go.AM Go.AM.K
def Akd (N n:Nat):Prop:=∀(n1 g:Int) (len j:Int) (g1 Z:Int) (u p1:Int) (x D:Int) (g2 R:Int) (a2 U:Int) (H P Q:Int) (z v:List Nat) (L o:Rs) (J k:Rs) (A O:Rs) (q y C:Rs) (d:Mp) (hL:L=A0) (hm:d=Dl j) (h:g=5∧len=5∧0≤j∧j≤5∧(5-j).toNat<n),Ok trees N ⟨[n1,g,len,j,g1,Z,u,p1,x,D,g2,R,a2,U,H,P,Q],[z,v],[L,o,J,k,A,O,q,y,C],[d]⟩ fun M=>(∃(c:Mp),M=(0,(⟨[],[],[],[c]⟩:Ah))∧(c=Dl 5))
def AjJ (N:Nat):Prop:=∀(n1 g:Int) (len j:Int) (g1 q:Int) (u p1:Int) (y J:Int) (g2 R:Int) (a2 U:Int) (H Z Q:Int) (A x:List Nat) (L o:Rs) (M k:Rs) (C P:Rs) (v z D:Rs) (d:Mp) (hL:L=A0) (hm:d=Dl j) (h:g=5∧len=5∧0≤j∧j≤5:=by exact kn),Ok trees N ⟨[n1,g,len,j,g1,q,u,p1,y,J,g2,R,a2,U,H,Z,Q],[A,x],[L,o,M,k,C,P,v,z,D],[d]⟩ fun O=>(∃(c:Mp),O=(0,(⟨[],[],[],[c]⟩:Ah))∧(c=Dl 5))
theorem Ag5 (n:Nat):Akd 112 n:=by
 induction n with
 |zero=>intro n1 ln len j g1 g H p1 o M g2 y a2 z u P O x k L d N C A v D J q mp Q c h;exact absurd h.2.2.2.2 (Nat.not_lt_zero _)
 |succ n ih=>
 intro n1 ln len j g1 g H p1 o M g2 y a2 z u P O x k L d N C A v D J q mp Q c h
 subst Q;have ⟨h1,Z,al,an,am⟩:=h;subst h1;subst Z
 rcases (by omega:j=0∨j=1∨j=2∨j=3∨j=4∨j=5)with rfl|rfl|rfl|rfl|rfl|rfl
 ·subst c
  refine .of (t:=Fw) rfl ?_
  unfold Fw
  refine BD 0 5 ?_
  refine CX 0 0 ?_
  refine BD 0 5 ?_
  refine el (j':=0) rfl ?_
  refine lm rfl ?_
  refine up [.int .i64 0,.int .i64 1,.int .i64 0] ?_
  obtain ⟨_,⟨R,rfl,rfl⟩,G1⟩:=ih n1 5 5 (0+1) g1 g H p1 o M g2 y a2 z u P O x k A0 d N C A v D J q (Bn (Dl 0) [97] [.int .i64 0,.int .i64 1,.int .i64 0]) rfl rfl kn
  refine ch G1 ?_
  exact Aj ⟨[],[],[],[(Dl 5)]⟩ (⟨_,rfl,rfl⟩)
 ·subst c
  refine .of (t:=Fw) rfl ?_
  unfold Fw
  refine BD 1 5 ?_
  refine CX 1 0 ?_
  refine BD 1 5 ?_
  refine el (j':=1) rfl ?_
  refine lm rfl ?_
  refine up [.int .i64 0,.int .i64 2,.int .i64 1] ?_
  obtain ⟨_,⟨U,rfl,rfl⟩,G2⟩:=ih n1 5 5 (1+1) g1 g H p1 o M g2 y a2 z u P O x k A0 d N C A v D J q (Bn (Dl 1) [102] [.int .i64 0,.int .i64 2,.int .i64 1]) rfl rfl kn
  refine ch G2 ?_
  exact Aj ⟨[],[],[],[(Dl 5)]⟩ (⟨_,rfl,rfl⟩)
 ·subst c
  refine .of (t:=Fw) rfl ?_
  unfold Fw
  refine BD 2 5 ?_
  refine CX 2 0 ?_
  refine BD 2 5 ?_
  refine el (j':=2) rfl ?_
  refine lm rfl ?_
  refine up [.int .i64 0,.int .i64 1,.int .i64 2] ?_
  obtain ⟨_,⟨af,rfl,rfl⟩,G3⟩:=ih n1 5 5 (2+1) g1 g H p1 o M g2 y a2 z u P O x k A0 d N C A v D J q (Bn (Dl 2) [115] [.int .i64 0,.int .i64 1,.int .i64 2]) rfl rfl kn
  refine ch G3 ?_
  exact Aj ⟨[],[],[],[(Dl 5)]⟩ (⟨_,rfl,rfl⟩)
 ·subst c
  refine .of (t:=Fw) rfl ?_
  unfold Fw
  refine BD 3 5 ?_
  refine CX 3 0 ?_
  refine BD 3 5 ?_
  refine el (j':=3) rfl ?_
  refine lm rfl ?_
  refine up [.int .i64 0,.int .i64 1,.int .i64 3] ?_
  obtain ⟨_,⟨ac,rfl,rfl⟩,G4⟩:=ih n1 5 5 (3+1) g1 g H p1 o M g2 y a2 z u P O x k A0 d N C A v D J q (Bn (Dl 3) [112] [.int .i64 0,.int .i64 1,.int .i64 3]) rfl rfl kn
  refine ch G4 ?_
  exact Aj ⟨[],[],[],[(Dl 5)]⟩ (⟨_,rfl,rfl⟩)
 ·subst c
  refine .of (t:=Fw) rfl ?_
  unfold Fw
  refine BD 4 5 ?_
  refine CX 4 0 ?_
  refine BD 4 5 ?_
  refine el (j':=4) rfl ?_
  refine lm rfl ?_
  refine up [.int .i64 0,.int .i64 3,.int .i64 4] ?_
  obtain ⟨_,⟨ak,rfl,rfl⟩,G5⟩:=ih n1 5 5 (4+1) g1 g H p1 o M g2 y a2 z u P O x k A0 d N C A v D J q (Bn (Dl 4) [98] [.int .i64 0,.int .i64 3,.int .i64 4]) rfl rfl kn
  refine ch G5 ?_
  exact Aj ⟨[],[],[],[(Dl 5)]⟩ (⟨_,rfl,rfl⟩)
 ·subst c
  refine .of (t:=Fw) rfl ?_
  unfold Fw
  refine En 5 5 ?_
  exact Aj ⟨[],[],[],[(Dl 5)]⟩ (⟨_,rfl,rfl⟩)
theorem AiW:AjJ 112:=fun n1 v len j g1 g M p1 o P g2 z a2 A u U R y k L c Q H C x J N q O d D h=>Ag5 ((5-j).toNat+1) n1 v len j g1 g M p1 o P g2 z a2 A u U R y k L c Q H C x J N q O d D ⟨h.1,h.2.1,h.2.2.1,h.2.2.2,Nat.lt_succ_self _⟩
def Akb (N n:Nat):Prop:=∀(u len:Int) (j g2:Int) (s2 a2:Int) (p2 J:Int) (r2 Z:Int) (d k:Int) (v M:Int) (O R:Int) (rv A:Int) (C o g:List Nat) (L U:Rs) (z D:Rs) (H P:Rs) (x y:Rs) (q:Mp) (hL:L=AF) (hm:q=HE j) (h:u=2∧len=2∧0≤j∧j≤2∧(2-j).toNat<n),Ok trees N ⟨[u,len,j,g2,s2,a2,p2,J,r2,Z,d,k,v,M,O,R,rv,A],[C,o,g],[L,U,z,D,H,P,x,y],[q]⟩ fun Q=>(∃(c:Mp),Q=(1,(⟨[],[],[],[c]⟩:Ah))∧(c=HE 2))
def Aj6 (N:Nat):Prop:=∀(u len:Int) (j g2:Int) (s2 a2:Int) (p2 J:Int) (r2 Z:Int) (d k:Int) (v M:Int) (O R:Int) (rv A:Int) (C o g:List Nat) (L U:Rs) (z D:Rs) (H P:Rs) (x y:Rs) (q:Mp) (hL:L=AF) (hm:q=HE j) (h:u=2∧len=2∧0≤j∧j≤2:=by exact kn),Ok trees N ⟨[u,len,j,g2,s2,a2,p2,J,r2,Z,d,k,v,M,O,R,rv,A],[C,o,g],[L,U,z,D,H,P,x,y],[q]⟩ fun Q=>(∃(c:Mp),Q=(1,(⟨[],[],[],[c]⟩:Ah))∧(c=HE 2))
theorem Ag1 (n:Nat):Akb 129 n:=by
 induction n with
 |zero=>intro ln len j g2 D a2 H z Z R c o g O P A U v x d k L C M N y Q u J mp hL q h;exact absurd h.2.2.2.2 (Nat.not_lt_zero _)
 |succ n ih=>
 intro ln len j g2 D a2 H z Z R c o g O P A U v x d k L C M N y Q u J mp hL q h
 subst hL;have ⟨h1,h2,aj,al,ak⟩:=h;subst h1;subst h2
 rcases (by omega:j=0∨j=1∨j=2)with rfl|rfl|rfl
 ·subst q
  refine .of (t:=KQ) rfl ?_
  unfold KQ
  refine BD 0 2 ?_
  refine CX 0 0 ?_
  refine BD 0 2 ?_
  refine el (j':=0) rfl ?_
  refine lm rfl ?_
  refine up [.int .i64 2,.int .i64 1,.int .i64 0] ?_
  obtain ⟨_,⟨ad,rfl,rfl⟩,G1⟩:=ih 2 2 (0+1) g2 D a2 H z Z R c o g O P A U v x d k AF C M N y Q u J (Bn (HE 0) [120] [.int .i64 2,.int .i64 1,.int .i64 0]) rfl rfl kn
  refine cm G1 ?_
  refine ch G1 ?_
  exact Aj ⟨[],[],[],[(HE 2)]⟩ (⟨_,rfl,rfl⟩)
 ·subst q
  refine .of (t:=KQ) rfl ?_
  unfold KQ
  refine BD 1 2 ?_
  refine CX 1 0 ?_
  refine BD 1 2 ?_
  refine el (j':=1) rfl ?_
  refine lm rfl ?_
  refine up [.int .i64 2,.int .i64 1,.int .i64 0] ?_
  obtain ⟨_,⟨ae,rfl,rfl⟩,G2⟩:=ih 2 2 (1+1) g2 D a2 H z Z R c o g O P A U v x d k AF C M N y Q u J (Bn (HE 1) [121] [.int .i64 2,.int .i64 1,.int .i64 0]) rfl rfl kn
  refine cm G2 ?_
  refine ch G2 ?_
  exact Aj ⟨[],[],[],[(HE 2)]⟩ (⟨_,rfl,rfl⟩)
 ·subst q
  refine .of (t:=KQ) rfl ?_
  unfold KQ
  refine En 2 2 ?_
  exact Aj ⟨[],[],[],[(HE 2)]⟩ (⟨_,rfl,rfl⟩)
theorem AiT:Aj6 129:=fun A len j g2 H a2 J z r2 lo c o g R U C rv v x d k L D O P y Z q N Q u M h=>Ag1 ((2-j).toNat+1) A len j g2 H a2 J z r2 lo c o g R U C rv v x d k L D O P y Z q N Q u M ⟨h.1,h.2.1,h.2.2.1,h.2.2.2,Nat.lt_succ_self _⟩
def Akc (N n:Nat):Prop:=∀(n1 g:Int) (len j:Int) (g1 Z:Int) (u p1:Int) (x D:Int) (g2 R:Int) (a2 U:Int) (H P Q:Int) (z v:List Nat) (L o:Rs) (J k:Rs) (A O:Rs) (q y C:Rs) (d:Mp) (h:g=0∧len=0∧j=0∧(len-j).toNat<n),Ok trees N ⟨[n1,g,len,j,g1,Z,u,p1,x,D,g2,R,a2,U,H,P,Q],[z,v],[L,o,J,k,A,O,q,y,C],[d]⟩ fun M=>(∃(c:Mp),M=(0,(⟨[],[],[],[c]⟩:Ah))∧(c=d))
def AjI (N:Nat):Prop:=∀(n1 g:Int) (len j:Int) (g1 q:Int) (u p1:Int) (y J:Int) (g2 R:Int) (a2 U:Int) (H Z Q:Int) (A x:List Nat) (L o:Rs) (M k:Rs) (C P:Rs) (v z D:Rs) (d:Mp) (h:g=0∧len=0∧j=0:=by exact kn),Ok trees N ⟨[n1,g,len,j,g1,q,u,p1,y,J,g2,R,a2,U,H,Z,Q],[A,x],[L,o,M,k,C,P,v,z,D],[d]⟩ fun O=>(∃(c:Mp),O=(0,(⟨[],[],[],[c]⟩:Ah))∧(c=d))
theorem Ag3 (n:Nat):Akc 114 n:=by
 induction n with
 |zero=>intro n1 v len j g1 g J p1 o N g2 z a2 A u Q P y k L d O D C x H M q c h;exact absurd h.2.2.2 (Nat.not_lt_zero _)
 |succ n ih=>
 intro n1 v len j g1 g J p1 o N g2 z a2 A u Q P y k L d O D C x H M q c h
 obtain ⟨rfl,rfl,rfl,_⟩:=h
 refine .of (t:=VL) rfl ?_
 unfold VL
 refine En 0 0 ?_
 exact Aj ⟨[],[],[],[c]⟩ (⟨_,rfl,rfl⟩)
theorem AiV:AjI 114:=fun n1 u len j g1 d H p1 k N g2 y a2 z q Q P x g L c O C A v D J o M h=>Ag3 ((len-j).toNat+1) n1 u len j g1 d H p1 k N g2 y a2 z q Q P x g L c O C A v D J o M ⟨h.1,h.2.1,h.2.2,Nat.lt_succ_self _⟩
def AjK (N:Nat):Prop:=∀{c:List S} {z:List E} {d:Ctx} {v x:Int} {ry rw:Int} {j:List Nat} (g sub:Int) (y pl:Int) (u A n:Int) (o:List Nat) (k P:Rs) (q R:Rs) (D:k=A0) (H:q=[hrow AF (S.Ac c) v x ry j rw (E.Ac z)]) (M:CE 0 1 fΓ c d) (J:T d 1 (.node v x ry rw j z)) (h:n=0∧y=5∧u=1∧S.A4 c≤900∧S.Ag c≤200000:=by exact kn),Ok trees N ⟨[g,sub,y,pl,u,A,n],[o],[k,P,q,R],[]⟩ fun C=>(C=(0,(⟨[0],[],[],[]⟩:Ah)))
theorem AiX:AjK 111:=by
 intro k o Γe z A v rw u g sub al pl fl j n c Ar P d R D q hO Q h
 subst D;have ⟨h1,J,Z,h4,h5⟩:=h;subst h1;subst J;subst Z;have y:d[(0:Int).toNat]?=some (hrow AF (S.Ac k) z A v u rw (E.Ac o)):=(by subst q;rfl);have aj:(AF.length:Int)=2:=rfl;have am:=S.len k;have ak:=S.A7 k
 refine .of (t:=VM) rfl ?_
 unfold VM
 refine md [] ?_
 obtain ⟨_,⟨H,rfl,rfl⟩,M⟩:=AiW 0 5 5 0 g sub 5 pl 1 j g sub 5 pl 1 j 0 c c A0 A0 P d R A0 P d R [] rfl rfl
 refine ch M ?_
 refine dL (d.take (0:Int).toNat) (fun W2 e2=>?_) (FL (pt 0 d))
 have O:=cL e2;try simp only [lA,lC,lN,lT']at O
 obtain ⟨_,⟨ab,rfl,rfl⟩,G3⟩:=AiV 0 0 0 0 g sub 5 pl 1 j g sub 5 pl 1 j 0 c c W2 A0 P d R A0 P d R (Dl 5)
 refine ch G3 ?_
 refine CX 0 0 ?_
 refine BD 0 1 ?_
 refine el y ?_
 obtain ⟨_,⟨N,rfl,rfl⟩,C⟩:=AiT (AF.length:Int) (AF.length:Int) 0 g sub 5 pl 1 j 0 (AF.length:Int) 1 ((S.Ac k).length:Int) z A v rw ((E.Ac o).length:Int) c [104] u AF A0 P d R AF (S.Ac k) (E.Ac o) (Dl 5) rfl rfl
 refine cm C ?_
 refine ch C ?_
 obtain ⟨_,⟨ac,ai,rfl,x,rfl⟩,G5⟩:=Ad9 (Kd.of (n:=1000) @AiF) ((S.Ac k).length:Int) g sub 5 pl 1 j 0 c (S.Ac k) A0 P d R (HE 2) (Ck.Afl (by subst q;rfl)) hO rfl
 refine ch G5 ?_
 refine Cc 0 0 ?_
 obtain ⟨_,rfl,U⟩:=WY x z A v rw ((E.Ac o).length:Int) 1 g sub pl j 0 u c (E.Ac o) P R Q rfl
 refine ch U ?_
 exact Aj ⟨[0],[],[],[]⟩ (rfl)
end Go.Proofs.YtbmofjdmgjpfoaaGreatDoor.Am
end
